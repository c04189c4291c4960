/- Reading a number's bytes: the program's, and the document's answer. -/
import Derived.Test.YtplknajjcllmkaaDoorR9
namespace Go.Sx.Tryd
open Go Go.Sx
def vr : List UInt8 → Nat → Nat → Nat × Nat × Int
  | [], _, u => (u, 0, 2)
  | c :: r, i, u =>
    if (i = 9 ∧ 1 < c.toNat) ∨ (0 < i ∧ c.toNat = 0) then (u, 0, 3)
    else if c.toNat < 128 then (u + c.toNat * 128 ^ i, i + 1, 0)
    else vr r (i + 1) (u + c.toNat % 128 * 128 ^ i)
end Go.Sx.Tryd
/- The program's reader of code: what each reading comes to. -/
namespace Go.Sx.Tryd
open Go Go.Sx
def vU (b : List UInt8) : Nat := (vr b 0 0).1
def vN (b : List UInt8) : Nat := (vr b 0 0).2.1
def vE (b : List UInt8) : Int := (vr b 0 0).2.2
def sgn (u : Nat) : Int := if u % 2 = 0 then ((u / 2 : Nat) : Int) else -((u / 2 : Nat) : Int) - 1
theorem and1 (u : Nat) : (BitVec.toNat (BitVec.ofInt 64 (u : Int) &&& BitVec.ofInt 64 1)) = u % 2 := by
  rw [BitVec.ofInt_natCast, show BitVec.ofInt 64 1 = BitVec.ofNat 64 1 by decide, BitVec.toNat_and, BitVec.toNat_ofNat, BitVec.toNat_ofNat, Nat.mod_eq_of_lt (a := 1) (by decide), Nat.and_one_is_mod]
  omega
theorem signed_eq {u : Nat} (hu : u < 18446744073709551616) :
    IntKind.wrap .i64 (↑(BitVec.toNat (BitVec.ofInt 64 (IntKind.wrap .i64 (Int.fdiv (u : Int) 2)) ^^^ BitVec.ofInt 64 (IntKind.wrap .i64 (0 - IntKind.wrap .i64 (IntKind.wrap .u64 (↑(BitVec.toNat (BitVec.ofInt 64 (u : Int) &&& BitVec.ofInt 64 1)) : Int)))))) : Int) = sgn u := by
  rw [and1, Int.fdiv_eq_ediv_of_nonneg _ (by omega), wu64_nat (n := u % 2) (by omega), wi64 (n := (u : Int) / 2) (by omega) (by omega), wi64 (n := ((u % 2 : Nat) : Int)) (by omega) (by omega), wi64 (n := 0 - ((u % 2 : Nat) : Int)) (by omega) (by omega)]
  unfold sgn
  by_cases h : u % 2 = 0
  · rw [if_pos h, h]
    rw [show BitVec.ofInt 64 (0 - ((0 : Nat) : Int)) = 0#64 by decide, BitVec.xor_zero, BitVec.toNat_ofInt]
    rw [wi64 (by omega) (by omega)]; omega
  · rw [if_neg h, show u % 2 = 1 by omega]
    rw [show BitVec.ofInt 64 (0 - ((1 : Nat) : Int)) = BitVec.ofInt 64 18446744073709551615 by decide, xorNeg, BitVec.toNat_ofInt, wi64']
    split <;> omega
theorem sg_1 (u : Nat) :
    cc (ev X E0) 129 [AV.c (.pv (.int .u64 (↑u : Int)))] [] = some (AV.c (vi (IntKind.wrap .i64 (↑(BitVec.toNat (BitVec.ofInt 64 (IntKind.wrap .i64 (Int.fdiv (↑u : Int) 2)) ^^^ BitVec.ofInt 64 (IntKind.wrap .i64 (0 - IntKind.wrap .i64 (IntKind.wrap .u64 (↑(BitVec.toNat (BitVec.ofInt 64 (↑u : Int) &&& BitVec.ofInt 64 1)) : Int)))))) : Int))), []) :=
  cc_path (x := xf129) rfl []
    (c := [(0 : Int) ≤ (1 : Int)]) (by kernel_rfl)
    ⟨(by decide), trivial⟩
theorem signed (u : Int) (h0 : 0 ≤ u) (h1 : u < 18446744073709551616) : cc (ev X E0) 129 [AV.int .u64 u] [] = some (AV.c (CV.pv (.int .i64 (sgn u.toNat))), []) := by
  obtain ⟨n, rfl⟩ := Int.eq_ofNat_of_zero_le h0
  have := sg_1 n
  rw [signed_eq (by omega)] at this
  exact this
structure Got (α : Type) where
  v : α
  n : Nat
  e : Int
def step {α : Type} (z : α) (q : List UInt8 → Got α) (b : List UInt8) (f : Int) : α × List UInt8 × Int :=
  if f ≠ 0 then (z, b, f) else if (q b).e ≠ 0 then (z, b, (q b).e) else ((q b).v, b.drop (q b).n, 0)
def qV (b : List UInt8) : Got Nat := ⟨vU b, vN b, vE b⟩
def qC (m : Int) (b : List UInt8) : Got Nat := if vE b ≠ 0 then ⟨0, 0, vE b⟩ else if m < (vU b : Int) then ⟨0, 0, 4⟩ else ⟨vU b, vN b, 0⟩
def qT (m : Int) (b : List UInt8) : Got (List UInt8) :=
  if vE b ≠ 0 then ⟨[], 0, vE b⟩ else if m < (vU b : Int) then ⟨[], 0, 4⟩ else if b.length - vN b < vU b then ⟨[], 0, 2⟩ else ⟨(b.drop (vN b)).take (vU b), vN b + vU b, 0⟩
def qB (b : List UInt8) : Got Bool := match b with
  | [] => ⟨false, 0, 2⟩
  | c :: _ => if c.toNat > 1 then ⟨false, 0, 3⟩ else ⟨((c.toNat : Int) == 1), 1, 0⟩
def qM (b : List UInt8) : Got (Int × Int) :=
  if vE b ≠ 0 then ⟨(0, 0), 0, vE b⟩
  else if vE (b.drop (vN b)) ≠ 0 then ⟨(0, 0), 0, vE (b.drop (vN b))⟩
  else if sgn (vU b) < 0 ∨ 3 < sgn (vU b) then ⟨(0, 0), 0, 12⟩
  else if sgn (vU (b.drop (vN b))) < -1000000000000000 ∨ 1000000000000000 < sgn (vU (b.drop (vN b))) then ⟨(0, 0), 0, 9⟩
  else ⟨(sgn (vU b), sgn (vU (b.drop (vN b)))), vN b + vN (b.drop (vN b)), 0⟩
end Go.Sx.Tryd
/- The program's reader of code: its methods. -/
namespace Go.Sx.Tryd
open Go Go.Sx
end Go.Sx.Tryd
/- There and back: what is read of what was written. -/
namespace Go.Sx.Tryd
open Go Go.Sx
theorem bb_eq (x : Bool) : bb x = [if x then 1 else 0] := by
  unfold bb
  cases x <;> rw [vb] <;> rfl
end Go.Sx.Tryd
/- Items, one behind the other: how they are written, and how they are read. -/
namespace Go.Sx.Tryd
open Go Go.Sx
structure Leg where
  acc : Int
  cur : Int
  minor : Int
inductive It where
  | z (n : Int)
  | t (s : List UInt8)
  | m (c n : Int)
  | b (x : Bool)
  | ls (l : List Leg)
inductive Sh where
  | z
  | t (k : Nat)
  | m
  | b
  | ls
def lgB (x : Leg) : List UInt8 := vb (zz x.acc) ++ mb x.cur x.minor
def lsB : List Leg → List UInt8
  | [] => []
  | x :: r => lgB x ++ lsB r
def itB : It → List UInt8
  | .z n => vb (zz n)
  | .t s => tb s
  | .m c n => mb c n
  | .b x => bb x
  | .ls l => vb l.length ++ lsB l
structure FitL (x : Leg) : Prop where
  acc : -9223372036854775808 ≤ x.acc ∧ x.acc ≤ 9223372036854775807
  cur : 0 ≤ x.cur ∧ x.cur ≤ 3
  minor : -1000000000000000 ≤ x.minor ∧ x.minor ≤ 1000000000000000
def Fit : Sh → It → Prop
  | .z, .z n => -9223372036854775808 ≤ n ∧ n ≤ 9223372036854775807
  | .t k, .t s => s.length ≤ k ∧ s.length ≤ 1000000
  | .m, .m c n => (0 ≤ c ∧ c ≤ 3) ∧ -1000000000000000 ≤ n ∧ n ≤ 1000000000000000
  | .b, .b _ => True
  | .ls, .ls l => l.length ≤ 16 ∧ ∀ x ∈ l, FitL x
  | _, _ => False
def rdL : Nat → List UInt8 → Int → List Leg × List UInt8 × Int
  | 0, b, f => ([], b, f)
  | k + 1, b, f =>
    (⟨sgn (step 0 qV b f).1, (step (0, 0) qM (step 0 qV b f).2.1 (step 0 qV b f).2.2).1.1, (step (0, 0) qM (step 0 qV b f).2.1 (step 0 qV b f).2.2).1.2⟩
      :: (rdL k (step (0, 0) qM (step 0 qV b f).2.1 (step 0 qV b f).2.2).2.1 (step (0, 0) qM (step 0 qV b f).2.1 (step 0 qV b f).2.2).2.2).1,
      (rdL k (step (0, 0) qM (step 0 qV b f).2.1 (step 0 qV b f).2.2).2.1 (step (0, 0) qM (step 0 qV b f).2.1 (step 0 qV b f).2.2).2.2).2)
def rdS : Sh → List UInt8 → Int → It × List UInt8 × Int
  | .z, b, f => (.z (sgn (step 0 qV b f).1), (step 0 qV b f).2)
  | .t k, b, f => (.t (step [] (qT k) b f).1, (step [] (qT k) b f).2)
  | .m, b, f => (.m (step (0, 0) qM b f).1.1 (step (0, 0) qM b f).1.2, (step (0, 0) qM b f).2)
  | .b, b, f => (.b (step false qB b f).1, (step false qB b f).2)
  | .ls, b, f => (.ls (rdL (step 0 (qC 16) b f).1 (step 0 (qC 16) b f).2.1 (step 0 (qC 16) b f).2.2).1, (rdL (step 0 (qC 16) b f).1 (step 0 (qC 16) b f).2.1 (step 0 (qC 16) b f).2.2).2)
inductive Fits : List Sh → List It → Prop
  | nil : Fits [] []
  | cons {s : Sh} {i : It} {ss : List Sh} {is : List It} (h : Fit s i) (k : Fits ss is) : Fits (s :: ss) (i :: is)
end Go.Sx.Tryd
/- What each kind of request tells. -/
namespace Go.Sx.Tryd
open Go Go.Sx
def tellsT : List Int := [1, 2, 516, 2048, 112, 8, 900, 1160, 8, 1536, 0]
def hasB (d p : Int) : Bool := IntKind.wrap .i64 (((BitVec.ofInt 64 (tellsT.getD d.toNat 0) &&& BitVec.ofInt 64 p).toNat : Nat) : Int) != 0
theorem has0_1 (p : Int) :
    cc (ev X E0) 74 [AV.c (vi 0), AV.c (vi p)] [] = some (AV.c (.pv (.bool (IntKind.wrap .i64 (↑(BitVec.toNat (BitVec.ofInt 64 1 &&& BitVec.ofInt 64 p)) : Int) != 0))), []) :=
  cc_path (x := xf74) rfl []
    (c := [(0 : Int) ≤ (0 : Int), (0 : Int) < (11 : Int)]) (by kernel_rfl)
    ⟨(Int.le_refl _), (by decide), trivial⟩
theorem has1_1 (p : Int) :
    cc (ev X E0) 74 [AV.c (vi 1), AV.c (vi p)] [] = some (AV.c (.pv (.bool (IntKind.wrap .i64 (↑(BitVec.toNat (BitVec.ofInt 64 2 &&& BitVec.ofInt 64 p)) : Int) != 0))), []) :=
  cc_path (x := xf74) rfl []
    (c := [(0 : Int) ≤ (1 : Int), (1 : Int) < (11 : Int)]) (by kernel_rfl)
    ⟨(by decide), (by decide), trivial⟩
theorem has2_1 (p : Int) :
    cc (ev X E0) 74 [AV.c (vi 2), AV.c (vi p)] [] = some (AV.c (.pv (.bool (IntKind.wrap .i64 (↑(BitVec.toNat (BitVec.ofInt 64 516 &&& BitVec.ofInt 64 p)) : Int) != 0))), []) :=
  cc_path (x := xf74) rfl []
    (c := [(0 : Int) ≤ (2 : Int), (2 : Int) < (11 : Int)]) (by kernel_rfl)
    ⟨(by decide), (by decide), trivial⟩
theorem has3_1 (p : Int) :
    cc (ev X E0) 74 [AV.c (vi 3), AV.c (vi p)] [] = some (AV.c (.pv (.bool (IntKind.wrap .i64 (↑(BitVec.toNat (BitVec.ofInt 64 2048 &&& BitVec.ofInt 64 p)) : Int) != 0))), []) :=
  cc_path (x := xf74) rfl []
    (c := [(0 : Int) ≤ (3 : Int), (3 : Int) < (11 : Int)]) (by kernel_rfl)
    ⟨(by decide), (by decide), trivial⟩
theorem has4_1 (p : Int) :
    cc (ev X E0) 74 [AV.c (vi 4), AV.c (vi p)] [] = some (AV.c (.pv (.bool (IntKind.wrap .i64 (↑(BitVec.toNat (BitVec.ofInt 64 112 &&& BitVec.ofInt 64 p)) : Int) != 0))), []) :=
  cc_path (x := xf74) rfl []
    (c := [(0 : Int) ≤ (4 : Int), (4 : Int) < (11 : Int)]) (by kernel_rfl)
    ⟨(by decide), (by decide), trivial⟩
theorem has5_1 (p : Int) :
    cc (ev X E0) 74 [AV.c (vi 5), AV.c (vi p)] [] = some (AV.c (.pv (.bool (IntKind.wrap .i64 (↑(BitVec.toNat (BitVec.ofInt 64 8 &&& BitVec.ofInt 64 p)) : Int) != 0))), []) :=
  cc_path (x := xf74) rfl []
    (c := [(0 : Int) ≤ (5 : Int), (5 : Int) < (11 : Int)]) (by kernel_rfl)
    ⟨(by decide), (by decide), trivial⟩
theorem has6_1 (p : Int) :
    cc (ev X E0) 74 [AV.c (vi 6), AV.c (vi p)] [] = some (AV.c (.pv (.bool (IntKind.wrap .i64 (↑(BitVec.toNat (BitVec.ofInt 64 900 &&& BitVec.ofInt 64 p)) : Int) != 0))), []) :=
  cc_path (x := xf74) rfl []
    (c := [(0 : Int) ≤ (6 : Int), (6 : Int) < (11 : Int)]) (by kernel_rfl)
    ⟨(by decide), (by decide), trivial⟩
theorem has7_1 (p : Int) :
    cc (ev X E0) 74 [AV.c (vi 7), AV.c (vi p)] [] = some (AV.c (.pv (.bool (IntKind.wrap .i64 (↑(BitVec.toNat (BitVec.ofInt 64 1160 &&& BitVec.ofInt 64 p)) : Int) != 0))), []) :=
  cc_path (x := xf74) rfl []
    (c := [(0 : Int) ≤ (7 : Int), (7 : Int) < (11 : Int)]) (by kernel_rfl)
    ⟨(by decide), (by decide), trivial⟩
theorem has8_1 (p : Int) :
    cc (ev X E0) 74 [AV.c (vi 8), AV.c (vi p)] [] = some (AV.c (.pv (.bool (IntKind.wrap .i64 (↑(BitVec.toNat (BitVec.ofInt 64 8 &&& BitVec.ofInt 64 p)) : Int) != 0))), []) :=
  cc_path (x := xf74) rfl []
    (c := [(0 : Int) ≤ (8 : Int), (8 : Int) < (11 : Int)]) (by kernel_rfl)
    ⟨(by decide), (by decide), trivial⟩
theorem has9_1 (p : Int) :
    cc (ev X E0) 74 [AV.c (vi 9), AV.c (vi p)] [] = some (AV.c (.pv (.bool (IntKind.wrap .i64 (↑(BitVec.toNat (BitVec.ofInt 64 1536 &&& BitVec.ofInt 64 p)) : Int) != 0))), []) :=
  cc_path (x := xf74) rfl []
    (c := [(0 : Int) ≤ (9 : Int), (9 : Int) < (11 : Int)]) (by kernel_rfl)
    ⟨(by decide), (by decide), trivial⟩
theorem has10_1 (p : Int) :
    cc (ev X E0) 74 [AV.c (vi 10), AV.c (vi p)] [] = some (AV.c (.pv (.bool false)), []) :=
  cc_path (x := xf74) rfl []
    (c := [(0 : Int) ≤ (10 : Int), (10 : Int) < (11 : Int)]) (by kernel_rfl)
    ⟨(by decide), (by decide), trivial⟩
theorem s74 (d p : Int) (h0 : 0 ≤ d) (h1 : d ≤ 10) : cc (ev X E0) 74 [AV.i d, AV.i p] [] = some (.b (hasB d p), []) := by
  have h : d = 0 ∨ d = 1 ∨ d = 2 ∨ d = 3 ∨ d = 4 ∨ d = 5 ∨ d = 6 ∨ d = 7 ∨ d = 8 ∨ d = 9 ∨ d = 10 := by omega
  rcases h with rfl | rfl | rfl | rfl | rfl | rfl | rfl | rfl | rfl | rfl | rfl
  · exact has0_1 p
  · exact has1_1 p
  · exact has2_1 p
  · exact has3_1 p
  · exact has4_1 p
  · exact has5_1 p
  · exact has6_1 p
  · exact has7_1 p
  · exact has8_1 p
  · exact has9_1 p
  · rw [show hasB 10 p = false by unfold hasB; rw [show (BitVec.ofInt 64 (tellsT.getD (10 : Int).toNat 0)) = 0#64 from rfl, BitVec.zero_and]; rfl]
    exact has10_1 p
end Go.Sx.Tryd
