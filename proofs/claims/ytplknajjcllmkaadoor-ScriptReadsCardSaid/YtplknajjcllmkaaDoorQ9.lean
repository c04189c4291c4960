/- The program's reader of code: what each reading comes to. -/
import Derived.Test.YtplknajjcllmkaaDoorV9
namespace Go.Sx.Tryd
open Go Go.Sx
theorem vr_lt : ∀ (b : List UInt8) (i u : Nat), i ≤ 9 → u < 128 ^ i → (vr b i u).1 < 18446744073709551616
  | [], i, u, hi, hu => by have := pow9 hi; simp only [vr]; omega
  | c :: r, i, u, hi, hu => by
    have hc := c.toNat_lt
    have := pow9 hi
    simp only [vr]
    split
    · simp only; omega
    · split
      · exact sum_lt hi hu (by omega) (by omega)
      · exact vr_lt r (i + 1) _ (by omega) (pow_step hu)
theorem vr_n : ∀ (b : List UInt8) (i u : Nat), (vr b i u).2.2 = 0 → i < (vr b i u).2.1 ∧ (vr b i u).2.1 ≤ i + b.length
  | [], i, u => by simp [vr]
  | c :: r, i, u => by
    simp only [vr]
    split
    · simp
    · split
      · simp
      · intro h
        have := vr_n r (i + 1) _ h
        simp only [List.length_cons]; omega
def vU (b : List UInt8) : Nat := (vr b 0 0).1
def vN (b : List UInt8) : Nat := (vr b 0 0).2.1
def vE (b : List UInt8) : Int := (vr b 0 0).2.2
theorem vU_lt (b : List UInt8) : vU b < 18446744073709551616 := vr_lt b 0 0 (by omega) (by omega)
theorem vN_le {b : List UInt8} (h : vE b = 0) : 0 < vN b ∧ vN b ≤ b.length := by have := vr_n b 0 0 h; unfold vN; omega
theorem vint (b : List UInt8) (hb : b.length ≤ 1000000) : cc (ev X E0) 123 [AV.s b] [] = some (.tup [.c (.pv (.int .u64 (vU b))), .c (.pv (.int .i64 (vN b))), .c (.pv (.int .i64 (vE b)))], []) := vi_1 b hb
def sgn (u : Nat) : Int := if u % 2 = 0 then ((u / 2 : Nat) : Int) else -((u / 2 : Nat) : Int) - 1
theorem and1 (u : Nat) : (BitVec.toNat (BitVec.ofInt 64 (u : Int) &&& BitVec.ofInt 64 1)) = u % 2 := by
  rw [BitVec.ofInt_natCast, show BitVec.ofInt 64 1 = BitVec.ofNat 64 1 by decide, BitVec.toNat_and, BitVec.toNat_ofNat, BitVec.toNat_ofNat, Nat.mod_eq_of_lt (a := 1) (by decide), Nat.and_one_is_mod]
  omega
theorem signed_eq {u : Nat} (hu : u < 18446744073709551616) :
    IntKind.wrap .i64 (↑(BitVec.toNat (BitVec.ofInt 64 (IntKind.wrap .i64 (Int.fdiv (u : Int) 2)) ^^^ BitVec.ofInt 64 (IntKind.wrap .i64 (0 - IntKind.wrap .i64 (IntKind.wrap .u64 (↑(BitVec.toNat (BitVec.ofInt 64 (u : Int) &&& BitVec.ofInt 64 1)) : Int)))))) : Int) = sgn u := by
  rw [and1, Int.fdiv_eq_ediv_of_nonneg _ (by omega), wu64_nat (n := u % 2) (by omega), wi64 (n := (u : Int) / 2) (by omega) (by omega), wi64 (n := ((u % 2 : Nat) : Int)) (by omega) (by omega), wi64 (n := 0 - ((u % 2 : Nat) : Int)) (by omega) (by omega)]
  unfold sgn
  by_cases h : u % 2 = 0
  · rw [if_pos h, h]
    rw [show BitVec.ofInt 64 (0 - ((0 : Nat) : Int)) = 0#64 by decide, BitVec.xor_zero, BitVec.toNat_ofInt]
    rw [wi64 (by omega) (by omega)]; omega
  · rw [if_neg h, show u % 2 = 1 by omega]
    rw [show BitVec.ofInt 64 (0 - ((1 : Nat) : Int)) = BitVec.ofInt 64 18446744073709551615 by decide, xorNeg, BitVec.toNat_ofInt, wi64']
    split <;> omega
theorem sg_1 (u : Nat) :
    cc (ev X E0) 129 [AV.c (.pv (.int .u64 (↑u : Int)))] [] = some (AV.c (vi (IntKind.wrap .i64 (↑(BitVec.toNat (BitVec.ofInt 64 (IntKind.wrap .i64 (Int.fdiv (↑u : Int) 2)) ^^^ BitVec.ofInt 64 (IntKind.wrap .i64 (0 - IntKind.wrap .i64 (IntKind.wrap .u64 (↑(BitVec.toNat (BitVec.ofInt 64 (↑u : Int) &&& BitVec.ofInt 64 1)) : Int)))))) : Int))), []) :=
  cc_path (x := xf129) rfl []
    (c := [(0 : Int) ≤ (1 : Int)]) (by kernel_rfl)
    ⟨(by decide), trivial⟩
theorem signed (u : Int) (h0 : 0 ≤ u) (h1 : u < 18446744073709551616) : cc (ev X E0) 129 [AV.int .u64 u] [] = some (AV.c (CV.pv (.int .i64 (sgn u.toNat))), []) := by
  obtain ⟨n, rfl⟩ := Int.eq_ofNat_of_zero_le h0
  have := sg_1 n
  rw [signed_eq (by omega)] at this
  exact this
structure Got (α : Type) where
  v : α
  n : Nat
  e : Int
def step {α : Type} (z : α) (q : List UInt8 → Got α) (b : List UInt8) (f : Int) : α × List UInt8 × Int :=
  if f ≠ 0 then (z, b, f) else if (q b).e ≠ 0 then (z, b, (q b).e) else ((q b).v, b.drop (q b).n, 0)
def qV (b : List UInt8) : Got Nat := ⟨vU b, vN b, vE b⟩
def qC (m : Int) (b : List UInt8) : Got Nat := if vE b ≠ 0 then ⟨0, 0, vE b⟩ else if m < (vU b : Int) then ⟨0, 0, 4⟩ else ⟨vU b, vN b, 0⟩
def qT (m : Int) (b : List UInt8) : Got (List UInt8) :=
  if vE b ≠ 0 then ⟨[], 0, vE b⟩ else if m < (vU b : Int) then ⟨[], 0, 4⟩ else if b.length - vN b < vU b then ⟨[], 0, 2⟩ else ⟨(b.drop (vN b)).take (vU b), vN b + vU b, 0⟩
def qB (b : List UInt8) : Got Bool := match b with
  | [] => ⟨false, 0, 2⟩
  | c :: _ => if c.toNat > 1 then ⟨false, 0, 3⟩ else ⟨((c.toNat : Int) == 1), 1, 0⟩
def qM (b : List UInt8) : Got (Int × Int) :=
  if vE b ≠ 0 then ⟨(0, 0), 0, vE b⟩
  else if vE (b.drop (vN b)) ≠ 0 then ⟨(0, 0), 0, vE (b.drop (vN b))⟩
  else if sgn (vU b) < 0 ∨ 3 < sgn (vU b) then ⟨(0, 0), 0, 12⟩
  else if sgn (vU (b.drop (vN b))) < -1000000000000000 ∨ 1000000000000000 < sgn (vU (b.drop (vN b))) then ⟨(0, 0), 0, 9⟩
  else ⟨(sgn (vU b), sgn (vU (b.drop (vN b)))), vN b + vN (b.drop (vN b)), 0⟩
theorem ct_1 (b : List UInt8) (m : Int) (g1 : List.length b ≤ 1000000) (g2 : vE b = 0) (g3 : m < 0) :
    cc (ev X E0) 126 [AV.c (.pv (.str b)), AV.c (.ptr 0 0)] [.cells [vi m]] = some (AV.tup [AV.c (vi (IntKind.wrap .i64 (↑(vU b) : Int))), AV.c (vi (↑(vN b) : Int)), AV.c (vi 4)], [.cells [vi m]]) :=
  cc_path (x := xf126) rfl ([.call (AV.tup [AV.c (.pv (.int .u64 (↑(vU b) : Int))), AV.c (vi (↑(vN b) : Int)), AV.c (vi (vE b))]) []] ++ bs 11 true)
    (c := rq [(1, cc (ev X E0) 123 [AV.c (.pv (.str b))] [] = some (AV.tup [AV.c (.pv (.int .u64 (↑(vU b) : Int))), AV.c (vi (↑(vN b) : Int)), AV.c (vi (vE b))], [])), (3, (vE b == 0) = true), (4, decide (m < 0) = true), (1, (vE b == 0) = true), (1, decide (m < 0) = true), (1, (vE b == 0) = true), (1, true = true)]) (by kernel_rfl)
    (aq ⟨(vint _ g1), (beq_iff_eq.mpr g2), (dT g3), (beq_iff_eq.mpr g2), (dT g3), (beq_iff_eq.mpr g2), rfl, trivial⟩)
theorem ct_2 (b : List UInt8) (m : Int) (g1 : List.length b ≤ 1000000) (g2 : vE b = 0) (g3 : ¬m < 0) (g4 : (↑(vU b) : Int) > IntKind.wrap .u64 m) :
    cc (ev X E0) 126 [AV.c (.pv (.str b)), AV.c (.ptr 0 0)] [.cells [vi m]] = some (AV.tup [AV.c (vi (IntKind.wrap .i64 (↑(vU b) : Int))), AV.c (vi (↑(vN b) : Int)), AV.c (vi 4)], [.cells [vi m]]) :=
  cc_path (x := xf126) rfl ([.call (AV.tup [AV.c (.pv (.int .u64 (↑(vU b) : Int))), AV.c (vi (↑(vN b) : Int)), AV.c (vi (vE b))]) []] ++ bs 3 true ++ bs 4 false ++ [.br true, .br false, .br true, .br true])
    (c := rq [(1, cc (ev X E0) 123 [AV.c (.pv (.str b))] [] = some (AV.tup [AV.c (.pv (.int .u64 (↑(vU b) : Int))), AV.c (vi (↑(vN b) : Int)), AV.c (vi (vE b))], [])), (3, (vE b == 0) = true), (4, decide (m < 0) = false), (1, (vE b == 0) = true), (1, decide (m < 0) = false), (1, (vE b == 0) = true), (1, decide ((↑(vU b) : Int) > IntKind.wrap .u64 m) = true)]) (by kernel_rfl)
    (aq ⟨(vint _ g1), (beq_iff_eq.mpr g2), (dF g3), (beq_iff_eq.mpr g2), (dF g3), (beq_iff_eq.mpr g2), (dT g4), trivial⟩)
theorem ct_3 (b : List UInt8) (m : Int) (g1 : List.length b ≤ 1000000) (g2 : vE b = 0) (g3 : ¬m < 0) (g4 : ¬(↑(vU b) : Int) > IntKind.wrap .u64 m) :
    cc (ev X E0) 126 [AV.c (.pv (.str b)), AV.c (.ptr 0 0)] [.cells [vi m]] = some (AV.tup [AV.c (vi (IntKind.wrap .i64 (↑(vU b) : Int))), AV.c (vi (↑(vN b) : Int)), AV.c (vi (vE b))], [.cells [vi m]]) :=
  cc_path (x := xf126) rfl ([.call (AV.tup [AV.c (.pv (.int .u64 (↑(vU b) : Int))), AV.c (vi (↑(vN b) : Int)), AV.c (vi (vE b))]) []] ++ bs 3 true ++ bs 4 false ++ [.br true, .br false, .br true, .br false])
    (c := rq [(1, cc (ev X E0) 123 [AV.c (.pv (.str b))] [] = some (AV.tup [AV.c (.pv (.int .u64 (↑(vU b) : Int))), AV.c (vi (↑(vN b) : Int)), AV.c (vi (vE b))], [])), (3, (vE b == 0) = true), (4, decide (m < 0) = false), (1, (vE b == 0) = true), (1, decide (m < 0) = false), (1, (vE b == 0) = true), (1, decide ((↑(vU b) : Int) > IntKind.wrap .u64 m) = false)]) (by kernel_rfl)
    (aq ⟨(vint _ g1), (beq_iff_eq.mpr g2), (dF g3), (beq_iff_eq.mpr g2), (dF g3), (beq_iff_eq.mpr g2), (dF g4), trivial⟩)
theorem ct_4 (b : List UInt8) (m : Int) (g1 : List.length b ≤ 1000000) (g2 : ¬vE b = 0) :
    cc (ev X E0) 126 [AV.c (.pv (.str b)), AV.c (.ptr 0 0)] [.cells [vi m]] = some (AV.tup [AV.c (vi (IntKind.wrap .i64 (↑(vU b) : Int))), AV.c (vi (↑(vN b) : Int)), AV.c (vi (vE b))], [.cells [vi m]]) :=
  cc_path (x := xf126) rfl ([.call (AV.tup [AV.c (.pv (.int .u64 (↑(vU b) : Int))), AV.c (vi (↑(vN b) : Int)), AV.c (vi (vE b))]) []] ++ bs 6 false)
    (c := rq [(1, cc (ev X E0) 123 [AV.c (.pv (.str b))] [] = some (AV.tup [AV.c (.pv (.int .u64 (↑(vU b) : Int))), AV.c (vi (↑(vN b) : Int)), AV.c (vi (vE b))], [])), (5, (vE b == 0) = false), (1, false = false)]) (by kernel_rfl)
    (aq ⟨(vint _ g1), (beq_eq_false_iff_ne.mpr g2), rfl, trivial⟩)
theorem tt_1 (b : List UInt8) (m : Int) (g1 : List.length b ≤ 1000000) (g2 : ¬vE b = 0) :
    cc (ev X E0) 133 [AV.c (.pv (.str b)), AV.c (.ptr 0 0)] [.cells [vi m]] = some (AV.tup [AV.c (.pv (.str [])), AV.c (vi 0), AV.c (vi (vE b))], [.cells [vi m]]) :=
  cc_path (x := xf133) rfl [.call (AV.tup [AV.c (.pv (.int .u64 (↑(vU b) : Int))), AV.c (vi (↑(vN b) : Int)), AV.c (vi (vE b))]) [], .br true]
    (c := [cc (ev X E0) 123 [AV.c (.pv (.str b))] [] = some (AV.tup [AV.c (.pv (.int .u64 (↑(vU b) : Int))), AV.c (vi (↑(vN b) : Int)), AV.c (vi (vE b))], []), (vE b != 0) = true]) (by kernel_rfl)
    ⟨(vint _ g1), (bne_iff_ne.mpr g2), trivial⟩
theorem tt_2 (b : List UInt8) (m : Int) (g1 : List.length b ≤ 1000000) (g2 : vE b = 0) (g3 : m < 0) :
    cc (ev X E0) 133 [AV.c (.pv (.str b)), AV.c (.ptr 0 0)] [.cells [vi m]] = some (AV.tup [AV.c (.pv (.str [])), AV.c (vi 0), AV.c (vi 4)], [.cells [vi m]]) :=
  cc_path (x := xf133) rfl ([.call (AV.tup [AV.c (.pv (.int .u64 (↑(vU b) : Int))), AV.c (vi (↑(vN b) : Int)), AV.c (vi (vE b))]) [], .br false] ++ bs 6 true)
    (c := rq [(1, cc (ev X E0) 123 [AV.c (.pv (.str b))] [] = some (AV.tup [AV.c (.pv (.int .u64 (↑(vU b) : Int))), AV.c (vi (↑(vN b) : Int)), AV.c (vi (vE b))], [])), (1, (vE b != 0) = false), (5, decide (m < 0) = true), (1, true = true)]) (by kernel_rfl)
    (aq ⟨(vint _ g1), (bne_f g2), (dT g3), rfl, trivial⟩)
theorem tt_3 (b : List UInt8) (m : Int) (g1 : List.length b ≤ 1000000) (g2 : vE b = 0) (g3 : ¬m < 0) (g4 : (↑(vU b) : Int) > IntKind.wrap .u64 m) :
    cc (ev X E0) 133 [AV.c (.pv (.str b)), AV.c (.ptr 0 0)] [.cells [vi m]] = some (AV.tup [AV.c (.pv (.str [])), AV.c (vi 0), AV.c (vi 4)], [.cells [vi m]]) :=
  cc_path (x := xf133) rfl ([.call (AV.tup [AV.c (.pv (.int .u64 (↑(vU b) : Int))), AV.c (vi (↑(vN b) : Int)), AV.c (vi (vE b))]) []] ++ bs 6 false ++ [.br true])
    (c := rq [(1, cc (ev X E0) 123 [AV.c (.pv (.str b))] [] = some (AV.tup [AV.c (.pv (.int .u64 (↑(vU b) : Int))), AV.c (vi (↑(vN b) : Int)), AV.c (vi (vE b))], [])), (1, (vE b != 0) = false), (5, decide (m < 0) = false), (1, decide ((↑(vU b) : Int) > IntKind.wrap .u64 m) = true)]) (by kernel_rfl)
    (aq ⟨(vint _ g1), (bne_f g2), (dF g3), (dT g4), trivial⟩)
theorem tt_4 (b : List UInt8) (m : Int) (g1 : List.length b ≤ 1000000) (g2 : vE b = 0) (g3 : ¬m < 0) (g4 : ¬(↑(vU b) : Int) > IntKind.wrap .u64 m) (g5 : (↑(vU b) : Int) > IntKind.wrap .u64 (IntKind.wrap .i64 ((↑(List.length b) : Int) - (↑(vN b) : Int)))) :
    cc (ev X E0) 133 [AV.c (.pv (.str b)), AV.c (.ptr 0 0)] [.cells [vi m]] = some (AV.tup [AV.c (.pv (.str [])), AV.c (vi 0), AV.c (vi 2)], [.cells [vi m]]) :=
  cc_path (x := xf133) rfl ([.call (AV.tup [AV.c (.pv (.int .u64 (↑(vU b) : Int))), AV.c (vi (↑(vN b) : Int)), AV.c (vi (vE b))]) []] ++ bs 7 false ++ [.br true])
    (c := rq [(1, cc (ev X E0) 123 [AV.c (.pv (.str b))] [] = some (AV.tup [AV.c (.pv (.int .u64 (↑(vU b) : Int))), AV.c (vi (↑(vN b) : Int)), AV.c (vi (vE b))], [])), (1, (vE b != 0) = false), (5, decide (m < 0) = false), (1, decide ((↑(vU b) : Int) > IntKind.wrap .u64 m) = false), (1, decide ((↑(vU b) : Int) > IntKind.wrap .u64 (IntKind.wrap .i64 ((↑(List.length b) : Int) - (↑(vN b) : Int)))) = true)]) (by kernel_rfl)
    (aq ⟨(vint _ g1), (bne_f g2), (dF g3), (dF g4), (dT g5), trivial⟩)
theorem tt_5 (b : List UInt8) (m : Int) (g1 : List.length b ≤ 1000000) (g2 : vE b = 0) (g3 : ¬m < 0) (g4 : ¬(↑(vU b) : Int) > IntKind.wrap .u64 m) (g5 : ¬(↑(vU b) : Int) > IntKind.wrap .u64 (IntKind.wrap .i64 ((↑(List.length b) : Int) - (↑(vN b) : Int)))) (g6 : (↑(vN b) : Int) ≤ IntKind.wrap .i64 ((↑(vN b) : Int) + IntKind.wrap .i64 (↑(vU b) : Int))) (g7 : IntKind.wrap .i64 ((↑(vN b) : Int) + IntKind.wrap .i64 (↑(vU b) : Int)) ≤ (↑(List.length b) : Int)) :
    cc (ev X E0) 133 [AV.c (.pv (.str b)), AV.c (.ptr 0 0)] [.cells [vi m]] = some (AV.tup [AV.c (.pv (.str (List.take (Int.toNat (IntKind.wrap .i64 ((↑(vN b) : Int) + IntKind.wrap .i64 (↑(vU b) : Int))) - vN b) (List.drop (vN b) b)))), AV.c (vi (IntKind.wrap .i64 ((↑(vN b) : Int) + IntKind.wrap .i64 (↑(vU b) : Int)))), AV.c (vi 0)], [.cells [vi m]]) :=
  cc_path (x := xf133) rfl ([.call (AV.tup [AV.c (.pv (.int .u64 (↑(vU b) : Int))), AV.c (vi (↑(vN b) : Int)), AV.c (vi (vE b))]) []] ++ bs 8 false)
    (c := rq [(1, cc (ev X E0) 123 [AV.c (.pv (.str b))] [] = some (AV.tup [AV.c (.pv (.int .u64 (↑(vU b) : Int))), AV.c (vi (↑(vN b) : Int)), AV.c (vi (vE b))], [])), (1, (vE b != 0) = false), (5, decide (m < 0) = false), (1, decide ((↑(vU b) : Int) > IntKind.wrap .u64 m) = false), (1, decide ((↑(vU b) : Int) > IntKind.wrap .u64 (IntKind.wrap .i64 ((↑(List.length b) : Int) - (↑(vN b) : Int)))) = false), (1, 0 ≤ (↑(vN b) : Int)), ty g6, ty g7]) (by kernel_rfl)
    (aq ⟨(vint _ g1), (bne_f g2), (dF g3), (dF g4), (dF g5), (Int.natCast_nonneg _), g6, g7, trivial⟩)
theorem bt_1 (b : List UInt8) (g1 : (↑(List.length b) : Int) = 0) :
    cc (ev X E0) 131 [AV.c (.pv (.str b))] [] = some (AV.tup [AV.c (.pv (.bool false)), AV.c (vi 0), AV.c (vi 2)], []) :=
  cc_path (x := xf131) rfl [.br true]
    (c := [((↑(List.length b) : Int) == 0) = true]) (by kernel_rfl)
    ⟨(beq_iff_eq.mpr g1), trivial⟩
theorem bt_2 (b : List UInt8) (y1 : UInt8) (g1 : ¬(↑(List.length b) : Int) = 0) (g2 : b[0]? = some y1) (g3 : (↑(UInt8.toNat y1) : Int) > 1) :
    cc (ev X E0) 131 [AV.c (.pv (.str b))] [] = some (AV.tup [AV.c (.pv (.bool false)), AV.c (vi 0), AV.c (vi 3)], []) :=
  cc_path (x := xf131) rfl [.br false, .byte y1, .br true]
    (c := [((↑(List.length b) : Int) == 0) = false, (0 : Int) ≤ (0 : Int), b[0]? = some y1, decide ((↑(UInt8.toNat y1) : Int) > 1) = true]) (by kernel_rfl)
    ⟨(beq_eq_false_iff_ne.mpr g1), (Int.le_refl _), g2, (dT g3), trivial⟩
theorem bt_3 (b : List UInt8) (y1 y2 : UInt8) (g1 : ¬(↑(List.length b) : Int) = 0) (g2 : b[0]? = some y1) (g3 : ¬(↑(UInt8.toNat y1) : Int) > 1) (g4 : b[0]? = some y2) :
    cc (ev X E0) 131 [AV.c (.pv (.str b))] [] = some (AV.tup [AV.c (.pv (.bool ((↑(UInt8.toNat y2) : Int) == 1))), AV.c (vi 1), AV.c (vi 0)], []) :=
  cc_path (x := xf131) rfl [.br false, .byte y1, .br false, .byte y2]
    (c := [((↑(List.length b) : Int) == 0) = false, (0 : Int) ≤ (0 : Int), b[0]? = some y1, decide ((↑(UInt8.toNat y1) : Int) > 1) = false, (0 : Int) ≤ (0 : Int), b[0]? = some y2]) (by kernel_rfl)
    ⟨(beq_eq_false_iff_ne.mpr g1), (Int.le_refl _), g2, (dF g3), (Int.le_refl _), g4, trivial⟩
theorem mt_1 (b : List UInt8) (g1 : List.length b ≤ 1000000) (g2 : ¬vE b = 0) :
    cc (ev X E0) 128 [AV.c (.pv (.str b))] [] = some (AV.tup [AV.agg [vi 0, vi 0], AV.c (vi 0), AV.c (vi (vE b))], []) :=
  cc_path (x := xf128) rfl [.call (AV.tup [AV.c (.pv (.int .u64 (↑(vU b) : Int))), AV.c (vi (↑(vN b) : Int)), AV.c (vi (vE b))]) [], .br true]
    (c := [cc (ev X E0) 123 [AV.c (.pv (.str b))] [] = some (AV.tup [AV.c (.pv (.int .u64 (↑(vU b) : Int))), AV.c (vi (↑(vN b) : Int)), AV.c (vi (vE b))], []), (vE b != 0) = true]) (by kernel_rfl)
    ⟨(vint _ g1), (bne_iff_ne.mpr g2), trivial⟩
theorem mt_2 (b : List UInt8) (g1 : List.length b ≤ 1000000) (g2 : vE b = 0) (g3 : (↑(vN b) : Int) ≤ (↑(List.length b) : Int)) (g4 : List.length (List.drop (vN b) b) ≤ 1000000) (g5 : 0 ≤ (↑(vU b) : Int)) (g6 : (↑(vU b) : Int) < 18446744073709551616) (g7 : 0 ≤ (↑(vU (List.drop (vN b) b)) : Int)) (g8 : (↑(vU (List.drop (vN b) b)) : Int) < 18446744073709551616) (g9 : ¬vE (List.drop (vN b) b) = 0) :
    cc (ev X E0) 128 [AV.c (.pv (.str b))] [] = some (AV.tup [AV.agg [vi 0, vi 0], AV.c (vi 0), AV.c (vi (vE (List.drop (vN b) b)))], []) :=
  cc_path (x := xf128) rfl [.call (AV.tup [AV.c (.pv (.int .u64 (↑(vU b) : Int))), AV.c (vi (↑(vN b) : Int)), AV.c (vi (vE b))]) [], .br false, .call (AV.tup [AV.c (.pv (.int .u64 (↑(vU (List.drop (vN b) b)) : Int))), AV.c (vi (↑(vN (List.drop (vN b) b)) : Int)), AV.c (vi (vE (List.drop (vN b) b)))]) [], .call (AV.c (vi (sgn (vU b)))) [], .call (AV.c (vi (sgn (vU (List.drop (vN b) b))))) [], .br true]
    (c := [cc (ev X E0) 123 [AV.c (.pv (.str b))] [] = some (AV.tup [AV.c (.pv (.int .u64 (↑(vU b) : Int))), AV.c (vi (↑(vN b) : Int)), AV.c (vi (vE b))], []), (vE b != 0) = false, 0 ≤ (↑(vN b) : Int), (↑(vN b) : Int) ≤ (↑(List.length b) : Int), (↑(List.length b) : Int) ≤ (↑(List.length b) : Int), cc (ev X E0) 123 [AV.c (.pv (.str (List.drop (vN b) b)))] [] = some (AV.tup [AV.c (.pv (.int .u64 (↑(vU (List.drop (vN b) b)) : Int))), AV.c (vi (↑(vN (List.drop (vN b) b)) : Int)), AV.c (vi (vE (List.drop (vN b) b)))], []), cc (ev X E0) 129 [AV.c (.pv (.int .u64 (↑(vU b) : Int)))] [] = some (AV.c (vi (sgn (vU b))), []), cc (ev X E0) 129 [AV.c (.pv (.int .u64 (↑(vU (List.drop (vN b) b)) : Int)))] [] = some (AV.c (vi (sgn (vU (List.drop (vN b) b)))), []), (vE (List.drop (vN b) b) != 0) = true]) (by kernel_rfl)
    ⟨(vint _ g1), (bne_f g2), (Int.natCast_nonneg _), g3, (Int.le_refl _), (vint _ g4), (signed _ g5 g6), (signed _ g7 g8), (bne_iff_ne.mpr g9), trivial⟩
theorem mt_3 (b : List UInt8) (g1 : List.length b ≤ 1000000) (g2 : vE b = 0) (g3 : (↑(vN b) : Int) ≤ (↑(List.length b) : Int)) (g4 : List.length (List.drop (vN b) b) ≤ 1000000) (g5 : 0 ≤ (↑(vU b) : Int)) (g6 : (↑(vU b) : Int) < 18446744073709551616) (g7 : 0 ≤ (↑(vU (List.drop (vN b) b)) : Int)) (g8 : (↑(vU (List.drop (vN b) b)) : Int) < 18446744073709551616) (g9 : vE (List.drop (vN b) b) = 0) (g10 : sgn (vU b) < 0) :
    cc (ev X E0) 128 [AV.c (.pv (.str b))] [] = some (AV.tup [AV.agg [vi 0, vi 0], AV.c (vi 0), AV.c (vi 12)], []) :=
  cc_path (x := xf128) rfl ([.call (AV.tup [AV.c (.pv (.int .u64 (↑(vU b) : Int))), AV.c (vi (↑(vN b) : Int)), AV.c (vi (vE b))]) [], .br false, .call (AV.tup [AV.c (.pv (.int .u64 (↑(vU (List.drop (vN b) b)) : Int))), AV.c (vi (↑(vN (List.drop (vN b) b)) : Int)), AV.c (vi (vE (List.drop (vN b) b)))]) [], .call (AV.c (vi (sgn (vU b)))) [], .call (AV.c (vi (sgn (vU (List.drop (vN b) b))))) [], .br false] ++ bs 4 true)
    (c := rq [(1, cc (ev X E0) 123 [AV.c (.pv (.str b))] [] = some (AV.tup [AV.c (.pv (.int .u64 (↑(vU b) : Int))), AV.c (vi (↑(vN b) : Int)), AV.c (vi (vE b))], [])), (1, (vE b != 0) = false), (1, 0 ≤ (↑(vN b) : Int)), ty g3, (1, (↑(List.length b) : Int) ≤ (↑(List.length b) : Int)), (1, cc (ev X E0) 123 [AV.c (.pv (.str (List.drop (vN b) b)))] [] = some (AV.tup [AV.c (.pv (.int .u64 (↑(vU (List.drop (vN b) b)) : Int))), AV.c (vi (↑(vN (List.drop (vN b) b)) : Int)), AV.c (vi (vE (List.drop (vN b) b)))], [])), (1, cc (ev X E0) 129 [AV.c (.pv (.int .u64 (↑(vU b) : Int)))] [] = some (AV.c (vi (sgn (vU b))), [])), (1, cc (ev X E0) 129 [AV.c (.pv (.int .u64 (↑(vU (List.drop (vN b) b)) : Int)))] [] = some (AV.c (vi (sgn (vU (List.drop (vN b) b)))), [])), (1, (vE (List.drop (vN b) b) != 0) = false), (3, decide (sgn (vU b) < 0) = true), (1, true = true)]) (by kernel_rfl)
    (aq ⟨(vint _ g1), (bne_f g2), (Int.natCast_nonneg _), g3, (Int.le_refl _), (vint _ g4), (signed _ g5 g6), (signed _ g7 g8), (bne_f g9), (dT g10), rfl, trivial⟩)
theorem mt_4 (b : List UInt8) (g1 : List.length b ≤ 1000000) (g2 : vE b = 0) (g3 : (↑(vN b) : Int) ≤ (↑(List.length b) : Int)) (g4 : List.length (List.drop (vN b) b) ≤ 1000000) (g5 : 0 ≤ (↑(vU b) : Int)) (g6 : (↑(vU b) : Int) < 18446744073709551616) (g7 : 0 ≤ (↑(vU (List.drop (vN b) b)) : Int)) (g8 : (↑(vU (List.drop (vN b) b)) : Int) < 18446744073709551616) (g9 : vE (List.drop (vN b) b) = 0) (g10 : ¬sgn (vU b) < 0) (g11 : sgn (vU b) > 3) :
    cc (ev X E0) 128 [AV.c (.pv (.str b))] [] = some (AV.tup [AV.agg [vi 0, vi 0], AV.c (vi 0), AV.c (vi 12)], []) :=
  cc_path (x := xf128) rfl ([.call (AV.tup [AV.c (.pv (.int .u64 (↑(vU b) : Int))), AV.c (vi (↑(vN b) : Int)), AV.c (vi (vE b))]) [], .br false, .call (AV.tup [AV.c (.pv (.int .u64 (↑(vU (List.drop (vN b) b)) : Int))), AV.c (vi (↑(vN (List.drop (vN b) b)) : Int)), AV.c (vi (vE (List.drop (vN b) b)))]) [], .call (AV.c (vi (sgn (vU b)))) [], .call (AV.c (vi (sgn (vU (List.drop (vN b) b))))) []] ++ bs 4 false ++ [.br true])
    (c := rq [(1, cc (ev X E0) 123 [AV.c (.pv (.str b))] [] = some (AV.tup [AV.c (.pv (.int .u64 (↑(vU b) : Int))), AV.c (vi (↑(vN b) : Int)), AV.c (vi (vE b))], [])), (1, (vE b != 0) = false), (1, 0 ≤ (↑(vN b) : Int)), ty g3, (1, (↑(List.length b) : Int) ≤ (↑(List.length b) : Int)), (1, cc (ev X E0) 123 [AV.c (.pv (.str (List.drop (vN b) b)))] [] = some (AV.tup [AV.c (.pv (.int .u64 (↑(vU (List.drop (vN b) b)) : Int))), AV.c (vi (↑(vN (List.drop (vN b) b)) : Int)), AV.c (vi (vE (List.drop (vN b) b)))], [])), (1, cc (ev X E0) 129 [AV.c (.pv (.int .u64 (↑(vU b) : Int)))] [] = some (AV.c (vi (sgn (vU b))), [])), (1, cc (ev X E0) 129 [AV.c (.pv (.int .u64 (↑(vU (List.drop (vN b) b)) : Int)))] [] = some (AV.c (vi (sgn (vU (List.drop (vN b) b)))), [])), (1, (vE (List.drop (vN b) b) != 0) = false), (3, decide (sgn (vU b) < 0) = false), (1, decide (sgn (vU b) > 3) = true)]) (by kernel_rfl)
    (aq ⟨(vint _ g1), (bne_f g2), (Int.natCast_nonneg _), g3, (Int.le_refl _), (vint _ g4), (signed _ g5 g6), (signed _ g7 g8), (bne_f g9), (dF g10), (dT g11), trivial⟩)
theorem mt_5 (b : List UInt8) (g1 : List.length b ≤ 1000000) (g2 : vE b = 0) (g3 : (↑(vN b) : Int) ≤ (↑(List.length b) : Int)) (g4 : List.length (List.drop (vN b) b) ≤ 1000000) (g5 : 0 ≤ (↑(vU b) : Int)) (g6 : (↑(vU b) : Int) < 18446744073709551616) (g7 : 0 ≤ (↑(vU (List.drop (vN b) b)) : Int)) (g8 : (↑(vU (List.drop (vN b) b)) : Int) < 18446744073709551616) (g9 : vE (List.drop (vN b) b) = 0) (g10 : ¬sgn (vU b) < 0) (g11 : ¬sgn (vU b) > 3) (g12 : sgn (vU (List.drop (vN b) b)) < -1000000000000000) :
    cc (ev X E0) 128 [AV.c (.pv (.str b))] [] = some (AV.tup [AV.agg [vi 0, vi 0], AV.c (vi 0), AV.c (vi 9)], []) :=
  cc_path (x := xf128) rfl ([.call (AV.tup [AV.c (.pv (.int .u64 (↑(vU b) : Int))), AV.c (vi (↑(vN b) : Int)), AV.c (vi (vE b))]) [], .br false, .call (AV.tup [AV.c (.pv (.int .u64 (↑(vU (List.drop (vN b) b)) : Int))), AV.c (vi (↑(vN (List.drop (vN b) b)) : Int)), AV.c (vi (vE (List.drop (vN b) b)))]) [], .call (AV.c (vi (sgn (vU b)))) [], .call (AV.c (vi (sgn (vU (List.drop (vN b) b))))) []] ++ bs 5 false ++ bs 4 true)
    (c := rq [(1, cc (ev X E0) 123 [AV.c (.pv (.str b))] [] = some (AV.tup [AV.c (.pv (.int .u64 (↑(vU b) : Int))), AV.c (vi (↑(vN b) : Int)), AV.c (vi (vE b))], [])), (1, (vE b != 0) = false), (1, 0 ≤ (↑(vN b) : Int)), ty g3, (1, (↑(List.length b) : Int) ≤ (↑(List.length b) : Int)), (1, cc (ev X E0) 123 [AV.c (.pv (.str (List.drop (vN b) b)))] [] = some (AV.tup [AV.c (.pv (.int .u64 (↑(vU (List.drop (vN b) b)) : Int))), AV.c (vi (↑(vN (List.drop (vN b) b)) : Int)), AV.c (vi (vE (List.drop (vN b) b)))], [])), (1, cc (ev X E0) 129 [AV.c (.pv (.int .u64 (↑(vU b) : Int)))] [] = some (AV.c (vi (sgn (vU b))), [])), (1, cc (ev X E0) 129 [AV.c (.pv (.int .u64 (↑(vU (List.drop (vN b) b)) : Int)))] [] = some (AV.c (vi (sgn (vU (List.drop (vN b) b)))), [])), (1, (vE (List.drop (vN b) b) != 0) = false), (3, decide (sgn (vU b) < 0) = false), (1, decide (sgn (vU b) > 3) = false), (3, decide (sgn (vU (List.drop (vN b) b)) < -1000000000000000) = true), (1, true = true)]) (by kernel_rfl)
    (aq ⟨(vint _ g1), (bne_f g2), (Int.natCast_nonneg _), g3, (Int.le_refl _), (vint _ g4), (signed _ g5 g6), (signed _ g7 g8), (bne_f g9), (dF g10), (dF g11), (dT g12), rfl, trivial⟩)
theorem mt_6 (b : List UInt8) (g1 : List.length b ≤ 1000000) (g2 : vE b = 0) (g3 : (↑(vN b) : Int) ≤ (↑(List.length b) : Int)) (g4 : List.length (List.drop (vN b) b) ≤ 1000000) (g5 : 0 ≤ (↑(vU b) : Int)) (g6 : (↑(vU b) : Int) < 18446744073709551616) (g7 : 0 ≤ (↑(vU (List.drop (vN b) b)) : Int)) (g8 : (↑(vU (List.drop (vN b) b)) : Int) < 18446744073709551616) (g9 : vE (List.drop (vN b) b) = 0) (g10 : ¬sgn (vU b) < 0) (g11 : ¬sgn (vU b) > 3) (g12 : ¬sgn (vU (List.drop (vN b) b)) < -1000000000000000) (g13 : sgn (vU (List.drop (vN b) b)) > 1000000000000000) :
    cc (ev X E0) 128 [AV.c (.pv (.str b))] [] = some (AV.tup [AV.agg [vi 0, vi 0], AV.c (vi 0), AV.c (vi 9)], []) :=
  cc_path (x := xf128) rfl ([.call (AV.tup [AV.c (.pv (.int .u64 (↑(vU b) : Int))), AV.c (vi (↑(vN b) : Int)), AV.c (vi (vE b))]) [], .br false, .call (AV.tup [AV.c (.pv (.int .u64 (↑(vU (List.drop (vN b) b)) : Int))), AV.c (vi (↑(vN (List.drop (vN b) b)) : Int)), AV.c (vi (vE (List.drop (vN b) b)))]) [], .call (AV.c (vi (sgn (vU b)))) [], .call (AV.c (vi (sgn (vU (List.drop (vN b) b))))) []] ++ bs 8 false ++ [.br true])
    (c := rq [(1, cc (ev X E0) 123 [AV.c (.pv (.str b))] [] = some (AV.tup [AV.c (.pv (.int .u64 (↑(vU b) : Int))), AV.c (vi (↑(vN b) : Int)), AV.c (vi (vE b))], [])), (1, (vE b != 0) = false), (1, 0 ≤ (↑(vN b) : Int)), ty g3, (1, (↑(List.length b) : Int) ≤ (↑(List.length b) : Int)), (1, cc (ev X E0) 123 [AV.c (.pv (.str (List.drop (vN b) b)))] [] = some (AV.tup [AV.c (.pv (.int .u64 (↑(vU (List.drop (vN b) b)) : Int))), AV.c (vi (↑(vN (List.drop (vN b) b)) : Int)), AV.c (vi (vE (List.drop (vN b) b)))], [])), (1, cc (ev X E0) 129 [AV.c (.pv (.int .u64 (↑(vU b) : Int)))] [] = some (AV.c (vi (sgn (vU b))), [])), (1, cc (ev X E0) 129 [AV.c (.pv (.int .u64 (↑(vU (List.drop (vN b) b)) : Int)))] [] = some (AV.c (vi (sgn (vU (List.drop (vN b) b)))), [])), (1, (vE (List.drop (vN b) b) != 0) = false), (3, decide (sgn (vU b) < 0) = false), (1, decide (sgn (vU b) > 3) = false), (3, decide (sgn (vU (List.drop (vN b) b)) < -1000000000000000) = false), (1, decide (sgn (vU (List.drop (vN b) b)) > 1000000000000000) = true)]) (by kernel_rfl)
    (aq ⟨(vint _ g1), (bne_f g2), (Int.natCast_nonneg _), g3, (Int.le_refl _), (vint _ g4), (signed _ g5 g6), (signed _ g7 g8), (bne_f g9), (dF g10), (dF g11), (dF g12), (dT g13), trivial⟩)
theorem mt_7 (b : List UInt8) (g1 : List.length b ≤ 1000000) (g2 : vE b = 0) (g3 : (↑(vN b) : Int) ≤ (↑(List.length b) : Int)) (g4 : List.length (List.drop (vN b) b) ≤ 1000000) (g5 : 0 ≤ (↑(vU b) : Int)) (g6 : (↑(vU b) : Int) < 18446744073709551616) (g7 : 0 ≤ (↑(vU (List.drop (vN b) b)) : Int)) (g8 : (↑(vU (List.drop (vN b) b)) : Int) < 18446744073709551616) (g9 : vE (List.drop (vN b) b) = 0) (g10 : ¬sgn (vU b) < 0) (g11 : ¬sgn (vU b) > 3) (g12 : ¬sgn (vU (List.drop (vN b) b)) < -1000000000000000) (g13 : ¬sgn (vU (List.drop (vN b) b)) > 1000000000000000) :
    cc (ev X E0) 128 [AV.c (.pv (.str b))] [] = some (AV.tup [AV.agg [vi (sgn (vU b)), vi (sgn (vU (List.drop (vN b) b)))], AV.c (vi (IntKind.wrap .i64 ((↑(vN b) : Int) + (↑(vN (List.drop (vN b) b)) : Int)))), AV.c (vi 0)], []) :=
  cc_path (x := xf128) rfl ([.call (AV.tup [AV.c (.pv (.int .u64 (↑(vU b) : Int))), AV.c (vi (↑(vN b) : Int)), AV.c (vi (vE b))]) [], .br false, .call (AV.tup [AV.c (.pv (.int .u64 (↑(vU (List.drop (vN b) b)) : Int))), AV.c (vi (↑(vN (List.drop (vN b) b)) : Int)), AV.c (vi (vE (List.drop (vN b) b)))]) [], .call (AV.c (vi (sgn (vU b)))) [], .call (AV.c (vi (sgn (vU (List.drop (vN b) b))))) []] ++ bs 9 false)
    (c := rq [(1, cc (ev X E0) 123 [AV.c (.pv (.str b))] [] = some (AV.tup [AV.c (.pv (.int .u64 (↑(vU b) : Int))), AV.c (vi (↑(vN b) : Int)), AV.c (vi (vE b))], [])), (1, (vE b != 0) = false), (1, 0 ≤ (↑(vN b) : Int)), ty g3, (1, (↑(List.length b) : Int) ≤ (↑(List.length b) : Int)), (1, cc (ev X E0) 123 [AV.c (.pv (.str (List.drop (vN b) b)))] [] = some (AV.tup [AV.c (.pv (.int .u64 (↑(vU (List.drop (vN b) b)) : Int))), AV.c (vi (↑(vN (List.drop (vN b) b)) : Int)), AV.c (vi (vE (List.drop (vN b) b)))], [])), (1, cc (ev X E0) 129 [AV.c (.pv (.int .u64 (↑(vU b) : Int)))] [] = some (AV.c (vi (sgn (vU b))), [])), (1, cc (ev X E0) 129 [AV.c (.pv (.int .u64 (↑(vU (List.drop (vN b) b)) : Int)))] [] = some (AV.c (vi (sgn (vU (List.drop (vN b) b)))), [])), (1, (vE (List.drop (vN b) b) != 0) = false), (3, decide (sgn (vU b) < 0) = false), (1, decide (sgn (vU b) > 3) = false), (3, decide (sgn (vU (List.drop (vN b) b)) < -1000000000000000) = false), (1, decide (sgn (vU (List.drop (vN b) b)) > 1000000000000000) = false)]) (by kernel_rfl)
    (aq ⟨(vint _ g1), (bne_f g2), (Int.natCast_nonneg _), g3, (Int.le_refl _), (vint _ g4), (signed _ g5 g6), (signed _ g7 g8), (bne_f g9), (dF g10), (dF g11), (dF g12), (dF g13), trivial⟩)
def cE (m : Int) (b : List UInt8) : Int := if vE b ≠ 0 then vE b else if m < (vU b : Int) then 4 else 0
theorem clC (b : List UInt8) (m : Int) (hb : b.length ≤ 1000000) (hm : m ≤ 9223372036854775807) :
    cc (ev X E0) 126 [AV.s b, AV.c (.ptr 0 0)] [Box.cells [.pv (.int .i64 m)]] = some (.tup [.c (.pv (.int .i64 (IntKind.wrap .i64 (vU b)))), .c (.pv (.int .i64 (vN b))), .c (.pv (.int .i64 (cE m b)))], [Box.cells [.pv (.int .i64 m)]]) := by
  unfold cE
  by_cases he : vE b = 0
  · rw [if_neg (by simp [he])]
    by_cases hm0 : m < 0
    · rw [if_pos (by omega)]; exact ct_1 b m hb he hm0
    · have hw : IntKind.wrap .u64 m = m := by rw [wu64]; omega
      by_cases hlt : m < (vU b : Int)
      · rw [if_pos hlt]; exact ct_2 b m hb he hm0 (by rw [hw]; omega)
      · rw [if_neg hlt, ← he]; exact ct_3 b m hb he hm0 (by rw [hw]; omega)
  · rw [if_pos he]; exact ct_4 b m hb he
theorem clT (b : List UInt8) (m : Int) (hb : b.length ≤ 1000000) (hm : m ≤ 9223372036854775807) :
    cc (ev X E0) 133 [AV.s b, AV.c (.ptr 0 0)] [Box.cells [.pv (.int .i64 m)]] = some (.tup [.c (.pv (.str (qT m b).v)), .c (.pv (.int .i64 (qT m b).n)), .c (.pv (.int .i64 (qT m b).e))], [Box.cells [.pv (.int .i64 m)]]) := by
  unfold qT
  by_cases he : vE b = 0
  · have hn := vN_le he
    have hu := vU_lt b
    rw [if_neg (by simp [he])]
    by_cases hm0 : m < 0
    · rw [if_pos (by omega)]; exact tt_2 b m hb he hm0
    · have hw : IntKind.wrap .u64 m = m := by rw [wu64]; omega
      have hw2 : IntKind.wrap .u64 (IntKind.wrap .i64 ((b.length : Int) - (vN b : Int))) = ((b.length - vN b : Nat) : Int) := by rw [wi64 (by omega) (by omega), wu64]; omega
      by_cases hlt : m < (vU b : Int)
      · rw [if_pos hlt]; exact tt_3 b m hb he hm0 (by rw [hw]; omega)
      · rw [if_neg hlt]
        by_cases hl : b.length - vN b < vU b
        · rw [if_pos hl]; exact tt_4 b m hb he hm0 (by rw [hw]; omega) (by rw [hw2]; omega)
        · rw [if_neg hl]
          have hw3 : IntKind.wrap .i64 ((vN b : Int) + IntKind.wrap .i64 (vU b : Int)) = ((vN b + vU b : Nat) : Int) := by rw [wi64 (n := (vU b : Int)) (by omega) (by omega), wi64 (by omega) (by omega)]; omega
          have := tt_5 b m hb he hm0 (by rw [hw]; omega) (by rw [hw2]; omega)
          rw [hw3] at this
          have := this (by omega) (by omega)
          simp only [Int.toNat_natCast, Nat.add_sub_cancel_left] at this
          exact this
  · rw [if_pos he]; exact tt_1 b m hb he
theorem clB (b : List UInt8) : cc (ev X E0) 131 [AV.s b] [] = some (.tup [.c (.pv (.bool (qB b).v)), .c (.pv (.int .i64 (qB b).n)), .c (.pv (.int .i64 (qB b).e))], []) := by
  cases b with
  | nil => exact bt_1 [] (by simp)
  | cons c r =>
    unfold qB
    simp only
    by_cases h : c.toNat > 1
    · rw [if_pos h]; exact bt_2 (c :: r) c (by simp; omega) (by simp) (by omega)
    · rw [if_neg h]; exact bt_3 (c :: r) c c (by simp; omega) (by simp) (by omega) (by simp)
theorem clM (b : List UInt8) (hb : b.length ≤ 1000000) : cc (ev X E0) 128 [AV.s b] [] = some (.tup [.agg [.pv (.int .i64 (qM b).v.1), .pv (.int .i64 (qM b).v.2)], .c (.pv (.int .i64 (qM b).n)), .c (.pv (.int .i64 (qM b).e))], []) := by
  have hu := vU_lt b
  have hu2 := vU_lt (b.drop (vN b))
  have hb2 : (b.drop (vN b)).length ≤ 1000000 := by rw [List.length_drop]; omega
  unfold qM
  by_cases he : vE b = 0
  · have hn := vN_le he
    rw [if_neg (by simp [he])]
    by_cases he2 : vE (b.drop (vN b)) = 0
    · have hn2 := vN_le he2
      rw [List.length_drop] at hn2
      rw [if_neg (by simp [he2])]
      by_cases hc : sgn (vU b) < 0
      · rw [if_pos (Or.inl hc)]; exact mt_3 b hb he (by omega) hb2 (by omega) (by omega) (by omega) (by omega) he2 hc
      · by_cases hc2 : 3 < sgn (vU b)
        · rw [if_pos (Or.inr hc2)]; exact mt_4 b hb he (by omega) hb2 (by omega) (by omega) (by omega) (by omega) he2 hc hc2
        · rw [if_neg (by omega)]
          by_cases hm : sgn (vU (b.drop (vN b))) < -1000000000000000
          · rw [if_pos (Or.inl hm)]; exact mt_5 b hb he (by omega) hb2 (by omega) (by omega) (by omega) (by omega) he2 hc hc2 hm
          · by_cases hm2 : 1000000000000000 < sgn (vU (b.drop (vN b)))
            · rw [if_pos (Or.inr hm2)]; exact mt_6 b hb he (by omega) hb2 (by omega) (by omega) (by omega) (by omega) he2 hc hc2 hm hm2
            · rw [if_neg (by omega)]
              have := mt_7 b hb he (by omega) hb2 (by omega) (by omega) (by omega) (by omega) he2 hc hc2 hm hm2
              rw [wi64 (by omega) (by omega), ← Int.natCast_add] at this
              exact this
    · rw [if_pos he2]; exact mt_2 b hb he (by omega) hb2 (by omega) (by omega) (by omega) (by omega) he2
  · rw [if_pos he]; exact mt_1 b hb he
theorem tk_1 (b : List UInt8) (f : Int) (g1 : ¬f = 0) :
    cc (ev X E0) 122 [AV.c (.ptr 0 0), AV.c (.fn 123 [])] [.cells [.pv (.str b), vi f]] = some (AV.c (.pv (.int .u64 0)), [.cells [.pv (.str b), vi f]]) :=
  cc_path (x := xf122) rfl (bs 6 false ++ [.br true])
    (c := rq [(6, false = false), (1, (f != 0) = true)]) (by kernel_rfl)
    (aq ⟨rfl, (bne_iff_ne.mpr g1), trivial⟩)
theorem tk_2 (b : List UInt8) (f : Int) (g1 : f = 0) (g2 : List.length b ≤ 1000000) (g3 : ¬vE b = 0) :
    cc (ev X E0) 122 [AV.c (.ptr 0 0), AV.c (.fn 123 [])] [.cells [.pv (.str b), vi f]] = some (AV.c (.pv (.int .u64 0)), [.cells [.pv (.str b), vi (vE b)]]) :=
  cc_path (x := xf122) rfl (bs 7 false ++ [.call (AV.tup [AV.c (.pv (.int .u64 (↑(vU b) : Int))), AV.c (vi (↑(vN b) : Int)), AV.c (vi (vE b))]) [], .br true])
    (c := rq [(6, false = false), (1, (f != 0) = false), (1, cc (ev X E0) 123 [AV.c (.pv (.str b))] [] = some (AV.tup [AV.c (.pv (.int .u64 (↑(vU b) : Int))), AV.c (vi (↑(vN b) : Int)), AV.c (vi (vE b))], [])), (1, (vE b != 0) = true)]) (by kernel_rfl)
    (aq ⟨rfl, (bne_f g1), (vint _ g2), (bne_iff_ne.mpr g3), trivial⟩)
theorem tk_3 (b : List UInt8) (f : Int) (g1 : f = 0) (g2 : List.length b ≤ 1000000) (g3 : vE b = 0) (g4 : (↑(vN b) : Int) ≤ (↑(List.length b) : Int)) :
    cc (ev X E0) 122 [AV.c (.ptr 0 0), AV.c (.fn 123 [])] [.cells [.pv (.str b), vi f]] = some (AV.c (.pv (.int .u64 (↑(vU b) : Int))), [.cells [.pv (.str (List.drop (vN b) b)), vi f]]) :=
  cc_path (x := xf122) rfl (bs 7 false ++ [.call (AV.tup [AV.c (.pv (.int .u64 (↑(vU b) : Int))), AV.c (vi (↑(vN b) : Int)), AV.c (vi (vE b))]) [], .br false])
    (c := rq [(6, false = false), (1, (f != 0) = false), (1, cc (ev X E0) 123 [AV.c (.pv (.str b))] [] = some (AV.tup [AV.c (.pv (.int .u64 (↑(vU b) : Int))), AV.c (vi (↑(vN b) : Int)), AV.c (vi (vE b))], [])), (1, (vE b != 0) = false), (1, 0 ≤ (↑(vN b) : Int)), ty g4, (1, (↑(List.length b) : Int) ≤ (↑(List.length b) : Int))]) (by kernel_rfl)
    (aq ⟨rfl, (bne_f g1), (vint _ g2), (bne_f g3), (Int.natCast_nonneg _), g4, (Int.le_refl _), trivial⟩)
theorem tc_1 (b : List UInt8) (f m : Int) (g1 : ¬f = 0) :
    cc (ev X E0) 125 [AV.c (.ptr 0 0), AV.c (.fn 126 [1])] [.cells [.pv (.str b), vi f], .cells [vi m]] = some (AV.c (vi 0), [.cells [.pv (.str b), vi f], .cells [vi m]]) :=
  cc_path (x := xf125) rfl (bs 6 false ++ [.br true])
    (c := rq [(6, false = false), (1, (f != 0) = true)]) (by kernel_rfl)
    (aq ⟨rfl, (bne_iff_ne.mpr g1), trivial⟩)
theorem tc_2 (b : List UInt8) (f m : Int) (g1 : f = 0) (g2 : List.length b ≤ 1000000) (g3 : m ≤ 9223372036854775807) (g4 : ¬cE m b = 0) :
    cc (ev X E0) 125 [AV.c (.ptr 0 0), AV.c (.fn 126 [1])] [.cells [.pv (.str b), vi f], .cells [vi m]] = some (AV.c (vi 0), [.cells [.pv (.str b), vi (cE m b)], .cells [vi m]]) :=
  cc_path (x := xf125) rfl (bs 7 false ++ [.call (AV.tup [AV.c (vi (IntKind.wrap .i64 (↑(vU b) : Int))), AV.c (vi (↑(vN b) : Int)), AV.c (vi (cE m b))]) [.cells [vi m]], .br true])
    (c := rq [(6, false = false), (1, (f != 0) = false), (1, cc (ev X E0) 126 [AV.c (.pv (.str b)), AV.c (.ptr 0 0)] [.cells [vi m]] = some (AV.tup [AV.c (vi (IntKind.wrap .i64 (↑(vU b) : Int))), AV.c (vi (↑(vN b) : Int)), AV.c (vi (cE m b))], [.cells [vi m]])), (1, (cE m b != 0) = true)]) (by kernel_rfl)
    (aq ⟨rfl, (bne_f g1), (clC _ _ g2 g3), (bne_iff_ne.mpr g4), trivial⟩)
theorem tc_3 (b : List UInt8) (f m : Int) (g1 : f = 0) (g2 : List.length b ≤ 1000000) (g3 : m ≤ 9223372036854775807) (g4 : cE m b = 0) (g5 : (↑(vN b) : Int) ≤ (↑(List.length b) : Int)) :
    cc (ev X E0) 125 [AV.c (.ptr 0 0), AV.c (.fn 126 [1])] [.cells [.pv (.str b), vi f], .cells [vi m]] = some (AV.c (vi (IntKind.wrap .i64 (↑(vU b) : Int))), [.cells [.pv (.str (List.drop (vN b) b)), vi f], .cells [vi m]]) :=
  cc_path (x := xf125) rfl (bs 7 false ++ [.call (AV.tup [AV.c (vi (IntKind.wrap .i64 (↑(vU b) : Int))), AV.c (vi (↑(vN b) : Int)), AV.c (vi (cE m b))]) [.cells [vi m]], .br false])
    (c := rq [(6, false = false), (1, (f != 0) = false), (1, cc (ev X E0) 126 [AV.c (.pv (.str b)), AV.c (.ptr 0 0)] [.cells [vi m]] = some (AV.tup [AV.c (vi (IntKind.wrap .i64 (↑(vU b) : Int))), AV.c (vi (↑(vN b) : Int)), AV.c (vi (cE m b))], [.cells [vi m]])), (1, (cE m b != 0) = false), (1, 0 ≤ (↑(vN b) : Int)), ty g5, (1, (↑(List.length b) : Int) ≤ (↑(List.length b) : Int))]) (by kernel_rfl)
    (aq ⟨rfl, (bne_f g1), (clC _ _ g2 g3), (bne_f g4), (Int.natCast_nonneg _), g5, (Int.le_refl _), trivial⟩)
theorem tx_1 (b : List UInt8) (f m : Int) (g1 : ¬f = 0) :
    cc (ev X E0) 132 [AV.c (.ptr 0 0), AV.c (.fn 133 [1])] [.cells [.pv (.str b), vi f], .cells [vi m]] = some (AV.c (.pv (.str [])), [.cells [.pv (.str b), vi f], .cells [vi m]]) :=
  cc_path (x := xf132) rfl (bs 6 false ++ [.br true])
    (c := rq [(6, false = false), (1, (f != 0) = true)]) (by kernel_rfl)
    (aq ⟨rfl, (bne_iff_ne.mpr g1), trivial⟩)
theorem tx_2 (b : List UInt8) (f m : Int) (g1 : f = 0) (g2 : List.length b ≤ 1000000) (g3 : m ≤ 9223372036854775807) (g4 : ¬Got.e (qT m b) = 0) :
    cc (ev X E0) 132 [AV.c (.ptr 0 0), AV.c (.fn 133 [1])] [.cells [.pv (.str b), vi f], .cells [vi m]] = some (AV.c (.pv (.str [])), [.cells [.pv (.str b), vi (Got.e (qT m b))], .cells [vi m]]) :=
  cc_path (x := xf132) rfl (bs 7 false ++ [.call (AV.tup [AV.c (.pv (.str (Got.v (qT m b)))), AV.c (vi (↑(Got.n (qT m b)) : Int)), AV.c (vi (Got.e (qT m b)))]) [.cells [vi m]], .br true])
    (c := rq [(6, false = false), (1, (f != 0) = false), (1, cc (ev X E0) 133 [AV.c (.pv (.str b)), AV.c (.ptr 0 0)] [.cells [vi m]] = some (AV.tup [AV.c (.pv (.str (Got.v (qT m b)))), AV.c (vi (↑(Got.n (qT m b)) : Int)), AV.c (vi (Got.e (qT m b)))], [.cells [vi m]])), (1, (Got.e (qT m b) != 0) = true)]) (by kernel_rfl)
    (aq ⟨rfl, (bne_f g1), (clT _ _ g2 g3), (bne_iff_ne.mpr g4), trivial⟩)
theorem tx_3 (b : List UInt8) (f m : Int) (g1 : f = 0) (g2 : List.length b ≤ 1000000) (g3 : m ≤ 9223372036854775807) (g4 : Got.e (qT m b) = 0) (g5 : (↑(Got.n (qT m b)) : Int) ≤ (↑(List.length b) : Int)) :
    cc (ev X E0) 132 [AV.c (.ptr 0 0), AV.c (.fn 133 [1])] [.cells [.pv (.str b), vi f], .cells [vi m]] = some (AV.c (.pv (.str (Got.v (qT m b)))), [.cells [.pv (.str (List.drop (Got.n (qT m b)) b)), vi f], .cells [vi m]]) :=
  cc_path (x := xf132) rfl (bs 7 false ++ [.call (AV.tup [AV.c (.pv (.str (Got.v (qT m b)))), AV.c (vi (↑(Got.n (qT m b)) : Int)), AV.c (vi (Got.e (qT m b)))]) [.cells [vi m]], .br false])
    (c := rq [(6, false = false), (1, (f != 0) = false), (1, cc (ev X E0) 133 [AV.c (.pv (.str b)), AV.c (.ptr 0 0)] [.cells [vi m]] = some (AV.tup [AV.c (.pv (.str (Got.v (qT m b)))), AV.c (vi (↑(Got.n (qT m b)) : Int)), AV.c (vi (Got.e (qT m b)))], [.cells [vi m]])), (1, (Got.e (qT m b) != 0) = false), (1, 0 ≤ (↑(Got.n (qT m b)) : Int)), ty g5, (1, (↑(List.length b) : Int) ≤ (↑(List.length b) : Int))]) (by kernel_rfl)
    (aq ⟨rfl, (bne_f g1), (clT _ _ g2 g3), (bne_f g4), (Int.natCast_nonneg _), g5, (Int.le_refl _), trivial⟩)
theorem tb_1 (b : List UInt8) (f : Int) (g1 : ¬f = 0) :
    cc (ev X E0) 130 [AV.c (.ptr 0 0), AV.c (.fn 131 [])] [.cells [.pv (.str b), vi f]] = some (AV.c (.pv (.bool false)), [.cells [.pv (.str b), vi f]]) :=
  cc_path (x := xf130) rfl (bs 6 false ++ [.br true])
    (c := rq [(6, false = false), (1, (f != 0) = true)]) (by kernel_rfl)
    (aq ⟨rfl, (bne_iff_ne.mpr g1), trivial⟩)
theorem tb_2 (b : List UInt8) (f : Int) (g1 : f = 0) (g2 : ¬Got.e (qB b) = 0) :
    cc (ev X E0) 130 [AV.c (.ptr 0 0), AV.c (.fn 131 [])] [.cells [.pv (.str b), vi f]] = some (AV.c (.pv (.bool false)), [.cells [.pv (.str b), vi (Got.e (qB b))]]) :=
  cc_path (x := xf130) rfl (bs 7 false ++ [.call (AV.tup [AV.c (.pv (.bool (Got.v (qB b)))), AV.c (vi (↑(Got.n (qB b)) : Int)), AV.c (vi (Got.e (qB b)))]) [], .br true])
    (c := rq [(6, false = false), (1, (f != 0) = false), (1, cc (ev X E0) 131 [AV.c (.pv (.str b))] [] = some (AV.tup [AV.c (.pv (.bool (Got.v (qB b)))), AV.c (vi (↑(Got.n (qB b)) : Int)), AV.c (vi (Got.e (qB b)))], [])), (1, (Got.e (qB b) != 0) = true)]) (by kernel_rfl)
    (aq ⟨rfl, (bne_f g1), (clB _), (bne_iff_ne.mpr g2), trivial⟩)
theorem tb_3 (b : List UInt8) (f : Int) (g1 : f = 0) (g2 : Got.e (qB b) = 0) (g3 : (↑(Got.n (qB b)) : Int) ≤ (↑(List.length b) : Int)) :
    cc (ev X E0) 130 [AV.c (.ptr 0 0), AV.c (.fn 131 [])] [.cells [.pv (.str b), vi f]] = some (AV.c (.pv (.bool (Got.v (qB b)))), [.cells [.pv (.str (List.drop (Got.n (qB b)) b)), vi f]]) :=
  cc_path (x := xf130) rfl (bs 7 false ++ [.call (AV.tup [AV.c (.pv (.bool (Got.v (qB b)))), AV.c (vi (↑(Got.n (qB b)) : Int)), AV.c (vi (Got.e (qB b)))]) [], .br false])
    (c := rq [(6, false = false), (1, (f != 0) = false), (1, cc (ev X E0) 131 [AV.c (.pv (.str b))] [] = some (AV.tup [AV.c (.pv (.bool (Got.v (qB b)))), AV.c (vi (↑(Got.n (qB b)) : Int)), AV.c (vi (Got.e (qB b)))], [])), (1, (Got.e (qB b) != 0) = false), (1, 0 ≤ (↑(Got.n (qB b)) : Int)), ty g3, (1, (↑(List.length b) : Int) ≤ (↑(List.length b) : Int))]) (by kernel_rfl)
    (aq ⟨rfl, (bne_f g1), (clB _), (bne_f g2), (Int.natCast_nonneg _), g3, (Int.le_refl _), trivial⟩)
theorem tm_1 (b : List UInt8) (f : Int) (g1 : ¬f = 0) :
    cc (ev X E0) 127 [AV.c (.ptr 0 0), AV.c (.fn 128 [])] [.cells [.pv (.str b), vi f]] = some (AV.agg [vi 0, vi 0], [.cells [.pv (.str b), vi f]]) :=
  cc_path (x := xf127) rfl (bs 6 false ++ [.br true])
    (c := rq [(6, false = false), (1, (f != 0) = true)]) (by kernel_rfl)
    (aq ⟨rfl, (bne_iff_ne.mpr g1), trivial⟩)
theorem tm_2 (b : List UInt8) (f : Int) (g1 : f = 0) (g2 : List.length b ≤ 1000000) (g3 : ¬Got.e (qM b) = 0) :
    cc (ev X E0) 127 [AV.c (.ptr 0 0), AV.c (.fn 128 [])] [.cells [.pv (.str b), vi f]] = some (AV.agg [vi 0, vi 0], [.cells [.pv (.str b), vi (Got.e (qM b))]]) :=
  cc_path (x := xf127) rfl (bs 7 false ++ [.call (AV.tup [AV.agg [vi (Prod.fst (Got.v (qM b))), vi (Prod.snd (Got.v (qM b)))], AV.c (vi (↑(Got.n (qM b)) : Int)), AV.c (vi (Got.e (qM b)))]) [], .br true])
    (c := rq [(6, false = false), (1, (f != 0) = false), (1, cc (ev X E0) 128 [AV.c (.pv (.str b))] [] = some (AV.tup [AV.agg [vi (Prod.fst (Got.v (qM b))), vi (Prod.snd (Got.v (qM b)))], AV.c (vi (↑(Got.n (qM b)) : Int)), AV.c (vi (Got.e (qM b)))], [])), (1, (Got.e (qM b) != 0) = true)]) (by kernel_rfl)
    (aq ⟨rfl, (bne_f g1), (clM _ g2), (bne_iff_ne.mpr g3), trivial⟩)
theorem tm_3 (b : List UInt8) (f : Int) (g1 : f = 0) (g2 : List.length b ≤ 1000000) (g3 : Got.e (qM b) = 0) (g4 : (↑(Got.n (qM b)) : Int) ≤ (↑(List.length b) : Int)) :
    cc (ev X E0) 127 [AV.c (.ptr 0 0), AV.c (.fn 128 [])] [.cells [.pv (.str b), vi f]] = some (AV.agg [vi (Prod.fst (Got.v (qM b))), vi (Prod.snd (Got.v (qM b)))], [.cells [.pv (.str (List.drop (Got.n (qM b)) b)), vi f]]) :=
  cc_path (x := xf127) rfl (bs 7 false ++ [.call (AV.tup [AV.agg [vi (Prod.fst (Got.v (qM b))), vi (Prod.snd (Got.v (qM b)))], AV.c (vi (↑(Got.n (qM b)) : Int)), AV.c (vi (Got.e (qM b)))]) [], .br false])
    (c := rq [(6, false = false), (1, (f != 0) = false), (1, cc (ev X E0) 128 [AV.c (.pv (.str b))] [] = some (AV.tup [AV.agg [vi (Prod.fst (Got.v (qM b))), vi (Prod.snd (Got.v (qM b)))], AV.c (vi (↑(Got.n (qM b)) : Int)), AV.c (vi (Got.e (qM b)))], [])), (1, (Got.e (qM b) != 0) = false), (1, 0 ≤ (↑(Got.n (qM b)) : Int)), ty g4, (1, (↑(List.length b) : Int) ≤ (↑(List.length b) : Int))]) (by kernel_rfl)
    (aq ⟨rfl, (bne_f g1), (clM _ g2), (bne_f g3), (Int.natCast_nonneg _), g4, (Int.le_refl _), trivial⟩)
end Go.Sx.Tryd
