/- Items, one behind the other: how they are written, and how they are read. -/
import Derived.Test.YtplknajjcllmkaaDoorM9
namespace Go.Sx.Tryd
open Go Go.Sx
structure Leg where
  acc : Int
  cur : Int
  minor : Int
inductive It where
  | z (n : Int)
  | t (s : List UInt8)
  | m (c n : Int)
  | b (x : Bool)
  | ls (l : List Leg)
inductive Sh where
  | z
  | t (k : Nat)
  | m
  | b
  | ls
def lgB (x : Leg) : List UInt8 := vb (zz x.acc) ++ mb x.cur x.minor
def lsB : List Leg → List UInt8
  | [] => []
  | x :: r => lgB x ++ lsB r
def itB : It → List UInt8
  | .z n => vb (zz n)
  | .t s => tb s
  | .m c n => mb c n
  | .b x => bb x
  | .ls l => vb l.length ++ lsB l
structure FitL (x : Leg) : Prop where
  acc : -9223372036854775808 ≤ x.acc ∧ x.acc ≤ 9223372036854775807
  cur : 0 ≤ x.cur ∧ x.cur ≤ 3
  minor : -1000000000000000 ≤ x.minor ∧ x.minor ≤ 1000000000000000
def Fit : Sh → It → Prop
  | .z, .z n => -9223372036854775808 ≤ n ∧ n ≤ 9223372036854775807
  | .t k, .t s => s.length ≤ k ∧ s.length ≤ 1000000
  | .m, .m c n => (0 ≤ c ∧ c ≤ 3) ∧ -1000000000000000 ≤ n ∧ n ≤ 1000000000000000
  | .b, .b _ => True
  | .ls, .ls l => l.length ≤ 16 ∧ ∀ x ∈ l, FitL x
  | _, _ => False
def rdL : Nat → List UInt8 → Int → List Leg × List UInt8 × Int
  | 0, b, f => ([], b, f)
  | k + 1, b, f =>
    (⟨sgn (step 0 qV b f).1, (step (0, 0) qM (step 0 qV b f).2.1 (step 0 qV b f).2.2).1.1, (step (0, 0) qM (step 0 qV b f).2.1 (step 0 qV b f).2.2).1.2⟩
      :: (rdL k (step (0, 0) qM (step 0 qV b f).2.1 (step 0 qV b f).2.2).2.1 (step (0, 0) qM (step 0 qV b f).2.1 (step 0 qV b f).2.2).2.2).1,
      (rdL k (step (0, 0) qM (step 0 qV b f).2.1 (step 0 qV b f).2.2).2.1 (step (0, 0) qM (step 0 qV b f).2.1 (step 0 qV b f).2.2).2.2).2)
def rdS : Sh → List UInt8 → Int → It × List UInt8 × Int
  | .z, b, f => (.z (sgn (step 0 qV b f).1), (step 0 qV b f).2)
  | .t k, b, f => (.t (step [] (qT k) b f).1, (step [] (qT k) b f).2)
  | .m, b, f => (.m (step (0, 0) qM b f).1.1 (step (0, 0) qM b f).1.2, (step (0, 0) qM b f).2)
  | .b, b, f => (.b (step false qB b f).1, (step false qB b f).2)
  | .ls, b, f => (.ls (rdL (step 0 (qC 16) b f).1 (step 0 (qC 16) b f).2.1 (step 0 (qC 16) b f).2.2).1, (rdL (step 0 (qC 16) b f).1 (step 0 (qC 16) b f).2.1 (step 0 (qC 16) b f).2.2).2)
inductive Fits : List Sh → List It → Prop
  | nil : Fits [] []
  | cons {s : Sh} {i : It} {ss : List Sh} {is : List It} (h : Fit s i) (k : Fits ss is) : Fits (s :: ss) (i :: is)
theorem step_w {α : Type} {z : α} {q : List UInt8 → Got α} {w r : List UInt8} {v : α} (h : q (w ++ r) = ⟨v, w.length, 0⟩) : step z q (w ++ r) 0 = (v, r, 0) := by
  rw [step_ok (by rw [h]), h]
  simp
theorem step_inv {α : Type} {z : α} {q : List UInt8 → Got α} {b : List UInt8} {f : Int} (h : (step z q b f).2.2 = 0) : f = 0 ∧ (q b).e = 0 ∧ (step z q b f).1 = (q b).v ∧ (step z q b f).2.1 = b.drop (q b).n := by
  by_cases hf : f = 0
  · subst hf
    by_cases he : (q b).e = 0
    · rw [step_ok he]; exact ⟨rfl, he, rfl, rfl⟩
    · rw [step_e he] at h; exact absurd h he
  · rw [step_f hf] at h; exact absurd h hf
theorem qC_vb {n : Nat} {m : Int} (hn : (n : Int) ≤ m) (hn2 : n < 18446744073709551616) (r : List UInt8) : qC m (vb n ++ r) = ⟨n, (vb n).length, 0⟩ := by
  obtain ⟨h1, h2, h3⟩ := v_vb hn2 r
  unfold qC; rw [h1, h2, h3, if_neg (by simp), if_neg (by omega)]
theorem qC_take {m : Int} {b : List UInt8} (h : (qC m b).e = 0) : b.take (qC m b).n = vb (qC m b).v ∧ ((qC m b).v : Int) ≤ m := by
  unfold qC at h ⊢
  by_cases he : vE b = 0
  · rw [if_neg (by simp [he])] at h ⊢
    by_cases h1 : m < (vU b : Int)
    · rw [if_pos h1] at h; simp at h
    · rw [if_neg h1]; exact ⟨v_take he, by simp only; omega⟩
  · rw [if_pos he] at h; exact absurd h he
theorem qT_le' {m : Int} {b : List UInt8} (h : (qT m b).e = 0) : ((qT m b).v.length : Int) ≤ m ∧ (qT m b).v.length ≤ b.length := by
  unfold qT at h ⊢
  by_cases he : vE b = 0
  · rw [if_neg (by simp [he])] at h ⊢
    by_cases h1 : m < (vU b : Int)
    · rw [if_pos h1] at h; simp at h
    · rw [if_neg h1] at h ⊢
      by_cases h2 : b.length - vN b < vU b
      · rw [if_pos h2] at h; simp at h
      · rw [if_neg h2]
        simp only [List.length_take, List.length_drop]
        constructor <;> omega
  · rw [if_pos he] at h; exact absurd h he
theorem rdL_w : ∀ (l : List Leg) (r : List UInt8), (∀ x ∈ l, FitL x) → rdL l.length (lsB l ++ r) 0 = (l, r, 0)
  | [], r, _ => rfl
  | x :: l, r, h => by
    have hx := h x (by simp)
    have h1 := hx.acc; have h2 := hx.cur; have h3 := hx.minor
    have e1 : step 0 qV (vb (zz x.acc) ++ (mb x.cur x.minor ++ (lsB l ++ r))) 0 = (zz x.acc, mb x.cur x.minor ++ (lsB l ++ r), 0) := step_w (qV_vb (zz_lt (by omega) (by omega)) _)
    have e2 : step (0, 0) qM (mb x.cur x.minor ++ (lsB l ++ r)) 0 = ((x.cur, x.minor), lsB l ++ r, 0) := step_w (qM_mb (by omega) (by omega) (by omega) (by omega) _)
    rw [List.length_cons, rdL, lsB, lgB, List.append_assoc, List.append_assoc, e1]
    dsimp only
    rw [e2]
    dsimp only
    rw [rdL_w l r fun y hy => h y (by simp [hy]), sgn_zz]
theorem sgn_range (u : Nat) (h : u < 18446744073709551616) : -9223372036854775808 ≤ sgn u ∧ sgn u ≤ 9223372036854775807 := by
  unfold sgn
  split <;> omega
theorem rdL_inv : ∀ (k : Nat) (b : List UInt8) (f : Int), (rdL k b f).2.2 = 0 → f = 0 ∧ b = lsB (rdL k b f).1 ++ (rdL k b f).2.1 ∧ (rdL k b f).1.length = k ∧ ∀ x ∈ (rdL k b f).1, FitL x
  | 0, b, f, h => ⟨h, rfl, rfl, by simp [rdL]⟩
  | k + 1, b, f, h => by
    rw [rdL] at h ⊢
    dsimp only at h ⊢
    obtain ⟨i1, i2, i3, i4⟩ := rdL_inv k _ _ h
    obtain ⟨j1, j2, j3, j4⟩ := step_inv i1
    obtain ⟨k1, k2, k3, k4⟩ := step_inv j1
    obtain ⟨hm, hm1, hm2, hm3⟩ := qM_take j2
    have hv := qV_take k2
    refine ⟨k1, ?_, by rw [List.length_cons, i3], fun x hx => ?_⟩
    · rw [lsB, List.append_assoc, ← i2]
      unfold lgB
      dsimp only
      rw [zz_sgn, k3, ← hv, j3, ← hm, j4, List.append_assoc, List.take_append_drop, k4, List.take_append_drop]
    · rcases List.mem_cons.1 hx with rfl | hx
      · exact ⟨sgn_range _ (step_v_lt b f), by rw [j3]; exact hm1, by rw [j3]; exact ⟨hm2, hm3⟩⟩
      · exact i4 x hx
theorem rdS_w : ∀ {s : Sh} {i : It}, Fit s i → ∀ r : List UInt8, rdS s (itB i ++ r) 0 = (i, r, 0)
  | .z, .z n, h, r => by
    have e : step 0 qV (vb (zz n) ++ r) 0 = (zz n, r, 0) := step_w (qV_vb (zz_lt h.1 h.2) r)
    simp only [rdS, itB, e, sgn_zz]
  | .t k, .t s, h, r => by
    have e : step [] (qT k) (tb s ++ r) 0 = (s, r, 0) := step_w (qT_tb (by have := h.1; omega) (by have := h.2; omega) r)
    simp only [rdS, itB, e]
  | .m, .m c n, h, r => by
    have e : step (0, 0) qM (mb c n ++ r) 0 = ((c, n), r, 0) := step_w (qM_mb h.1.1 h.1.2 h.2.1 h.2.2 r)
    simp only [rdS, itB, e]
  | .b, .b x, _, r => by
    have e : step false qB (bb x ++ r) 0 = (x, r, 0) := step_w (by rw [qB_bb, bb_eq]; rfl)
    simp only [rdS, itB, e]
  | .ls, .ls l, h, r => by
    have e : step 0 (qC 16) (vb l.length ++ (lsB l ++ r)) 0 = (l.length, lsB l ++ r, 0) := step_w (qC_vb (by have := h.1; omega) (by have := h.1; omega) _)
    simp only [rdS, itB, List.append_assoc, e, rdL_w l r h.2]
theorem rdS_inv : ∀ {s : Sh} {b : List UInt8} {f : Int}, b.length ≤ 1000000 → (rdS s b f).2.2 = 0 → f = 0 ∧ b = itB (rdS s b f).1 ++ (rdS s b f).2.1 ∧ Fit s (rdS s b f).1
  | .z, b, f, _, h => by
    obtain ⟨k1, k2, k3, k4⟩ := step_inv (z := 0) (q := qV) h
    refine ⟨k1, ?_, sgn_range _ (step_v_lt b f)⟩
    simp only [rdS, itB]
    rw [zz_sgn, k3, ← qV_take k2, k4, List.take_append_drop]
  | .t k, b, f, hb, h => by
    obtain ⟨k1, k2, k3, k4⟩ := step_inv (z := ([] : List UInt8)) (q := qT k) h
    have hl := qT_le' k2
    refine ⟨k1, ?_, ?_⟩
    · simp only [rdS, itB]
      rw [k3, ← qT_take k2, k4, List.take_append_drop]
    · simp only [rdS, Fit]
      rw [k3]
      omega
  | .m, b, f, _, h => by
    obtain ⟨k1, k2, k3, k4⟩ := step_inv (z := ((0, 0) : Int × Int)) (q := qM) h
    obtain ⟨hm, hm1, hm2, hm3⟩ := qM_take k2
    refine ⟨k1, ?_, ?_⟩
    · simp only [rdS, itB]
      rw [k3, ← hm, k4, List.take_append_drop]
    · simp only [rdS, Fit]
      rw [k3]
      exact ⟨hm1, hm2, hm3⟩
  | .b, b, f, _, h => by
    obtain ⟨k1, k2, k3, k4⟩ := step_inv (z := false) (q := qB) h
    refine ⟨k1, ?_, trivial⟩
    simp only [rdS, itB]
    rw [k3, ← qB_take k2, k4, List.take_append_drop]
  | .ls, b, f, _, h => by
    obtain ⟨i1, i2, i3, i4⟩ := rdL_inv _ _ _ h
    obtain ⟨k1, k2, k3, k4⟩ := step_inv (z := 0) (q := qC 16) i1
    obtain ⟨hc, hc2⟩ := qC_take k2
    refine ⟨k1, ?_, ?_⟩
    · simp only [rdS, itB]
      rw [i3, List.append_assoc, ← i2, k3, ← hc, k4, List.take_append_drop]
    · simp only [rdS, Fit]
      refine ⟨?_, i4⟩
      rw [i3, k3]
      omega
theorem rdS_len {s : Sh} {b : List UInt8} {f : Int} (hb : b.length ≤ 1000000) (h : (rdS s b f).2.2 = 0) : (rdS s b f).2.1.length ≤ 1000000 := by
  have := congrArg List.length (rdS_inv hb h).2.1
  rw [List.length_append] at this
  omega
theorem rdS_fault : ∀ {s : Sh} {b : List UInt8} {f : Int}, f ≠ 0 → (rdS s b f).2.2 = f := by
  have hL : ∀ (k : Nat) (b : List UInt8) (f : Int), f ≠ 0 → (rdL k b f).2.2 = f := by
    intro k
    induction k with
    | zero => intro b f _; rfl
    | succ k ih =>
      intro b f h
      rw [rdL, step_f h]
      dsimp only
      rw [step_f h]
      exact ih b f h
  intro s b f h
  cases s with
  | z => simp only [rdS, step_f h]
  | t k => simp only [rdS, step_f h]
  | m => simp only [rdS, step_f h]
  | b => simp only [rdS, step_f h]
  | ls => simp only [rdS, step_f h]; exact hL _ _ _ h
end Go.Sx.Tryd
/- What each kind of request tells. -/
namespace Go.Sx.Tryd
open Go Go.Sx
def tellsT : List Int := [1, 2, 516, 2048, 112, 8, 900, 1160, 8, 1536, 0]
def hasB (d p : Int) : Bool := IntKind.wrap .i64 (((BitVec.ofInt 64 (tellsT.getD d.toNat 0) &&& BitVec.ofInt 64 p).toNat : Nat) : Int) != 0
theorem has0_1 (p : Int) :
    cc (ev X E0) 74 [AV.c (vi 0), AV.c (vi p)] [] = some (AV.c (.pv (.bool (IntKind.wrap .i64 (↑(BitVec.toNat (BitVec.ofInt 64 1 &&& BitVec.ofInt 64 p)) : Int) != 0))), []) :=
  cc_path (x := xf74) rfl []
    (c := [(0 : Int) ≤ (0 : Int), (0 : Int) < (11 : Int)]) (by kernel_rfl)
    ⟨(Int.le_refl _), (by decide), trivial⟩
theorem has1_1 (p : Int) :
    cc (ev X E0) 74 [AV.c (vi 1), AV.c (vi p)] [] = some (AV.c (.pv (.bool (IntKind.wrap .i64 (↑(BitVec.toNat (BitVec.ofInt 64 2 &&& BitVec.ofInt 64 p)) : Int) != 0))), []) :=
  cc_path (x := xf74) rfl []
    (c := [(0 : Int) ≤ (1 : Int), (1 : Int) < (11 : Int)]) (by kernel_rfl)
    ⟨(by decide), (by decide), trivial⟩
theorem has2_1 (p : Int) :
    cc (ev X E0) 74 [AV.c (vi 2), AV.c (vi p)] [] = some (AV.c (.pv (.bool (IntKind.wrap .i64 (↑(BitVec.toNat (BitVec.ofInt 64 516 &&& BitVec.ofInt 64 p)) : Int) != 0))), []) :=
  cc_path (x := xf74) rfl []
    (c := [(0 : Int) ≤ (2 : Int), (2 : Int) < (11 : Int)]) (by kernel_rfl)
    ⟨(by decide), (by decide), trivial⟩
theorem has3_1 (p : Int) :
    cc (ev X E0) 74 [AV.c (vi 3), AV.c (vi p)] [] = some (AV.c (.pv (.bool (IntKind.wrap .i64 (↑(BitVec.toNat (BitVec.ofInt 64 2048 &&& BitVec.ofInt 64 p)) : Int) != 0))), []) :=
  cc_path (x := xf74) rfl []
    (c := [(0 : Int) ≤ (3 : Int), (3 : Int) < (11 : Int)]) (by kernel_rfl)
    ⟨(by decide), (by decide), trivial⟩
theorem has4_1 (p : Int) :
    cc (ev X E0) 74 [AV.c (vi 4), AV.c (vi p)] [] = some (AV.c (.pv (.bool (IntKind.wrap .i64 (↑(BitVec.toNat (BitVec.ofInt 64 112 &&& BitVec.ofInt 64 p)) : Int) != 0))), []) :=
  cc_path (x := xf74) rfl []
    (c := [(0 : Int) ≤ (4 : Int), (4 : Int) < (11 : Int)]) (by kernel_rfl)
    ⟨(by decide), (by decide), trivial⟩
theorem has5_1 (p : Int) :
    cc (ev X E0) 74 [AV.c (vi 5), AV.c (vi p)] [] = some (AV.c (.pv (.bool (IntKind.wrap .i64 (↑(BitVec.toNat (BitVec.ofInt 64 8 &&& BitVec.ofInt 64 p)) : Int) != 0))), []) :=
  cc_path (x := xf74) rfl []
    (c := [(0 : Int) ≤ (5 : Int), (5 : Int) < (11 : Int)]) (by kernel_rfl)
    ⟨(by decide), (by decide), trivial⟩
theorem has6_1 (p : Int) :
    cc (ev X E0) 74 [AV.c (vi 6), AV.c (vi p)] [] = some (AV.c (.pv (.bool (IntKind.wrap .i64 (↑(BitVec.toNat (BitVec.ofInt 64 900 &&& BitVec.ofInt 64 p)) : Int) != 0))), []) :=
  cc_path (x := xf74) rfl []
    (c := [(0 : Int) ≤ (6 : Int), (6 : Int) < (11 : Int)]) (by kernel_rfl)
    ⟨(by decide), (by decide), trivial⟩
theorem has7_1 (p : Int) :
    cc (ev X E0) 74 [AV.c (vi 7), AV.c (vi p)] [] = some (AV.c (.pv (.bool (IntKind.wrap .i64 (↑(BitVec.toNat (BitVec.ofInt 64 1160 &&& BitVec.ofInt 64 p)) : Int) != 0))), []) :=
  cc_path (x := xf74) rfl []
    (c := [(0 : Int) ≤ (7 : Int), (7 : Int) < (11 : Int)]) (by kernel_rfl)
    ⟨(by decide), (by decide), trivial⟩
theorem has8_1 (p : Int) :
    cc (ev X E0) 74 [AV.c (vi 8), AV.c (vi p)] [] = some (AV.c (.pv (.bool (IntKind.wrap .i64 (↑(BitVec.toNat (BitVec.ofInt 64 8 &&& BitVec.ofInt 64 p)) : Int) != 0))), []) :=
  cc_path (x := xf74) rfl []
    (c := [(0 : Int) ≤ (8 : Int), (8 : Int) < (11 : Int)]) (by kernel_rfl)
    ⟨(by decide), (by decide), trivial⟩
theorem has9_1 (p : Int) :
    cc (ev X E0) 74 [AV.c (vi 9), AV.c (vi p)] [] = some (AV.c (.pv (.bool (IntKind.wrap .i64 (↑(BitVec.toNat (BitVec.ofInt 64 1536 &&& BitVec.ofInt 64 p)) : Int) != 0))), []) :=
  cc_path (x := xf74) rfl []
    (c := [(0 : Int) ≤ (9 : Int), (9 : Int) < (11 : Int)]) (by kernel_rfl)
    ⟨(by decide), (by decide), trivial⟩
theorem has10_1 (p : Int) :
    cc (ev X E0) 74 [AV.c (vi 10), AV.c (vi p)] [] = some (AV.c (.pv (.bool false)), []) :=
  cc_path (x := xf74) rfl []
    (c := [(0 : Int) ≤ (10 : Int), (10 : Int) < (11 : Int)]) (by kernel_rfl)
    ⟨(by decide), (by decide), trivial⟩
theorem s74 (d p : Int) (h0 : 0 ≤ d) (h1 : d ≤ 10) : cc (ev X E0) 74 [AV.i d, AV.i p] [] = some (.b (hasB d p), []) := by
  have h : d = 0 ∨ d = 1 ∨ d = 2 ∨ d = 3 ∨ d = 4 ∨ d = 5 ∨ d = 6 ∨ d = 7 ∨ d = 8 ∨ d = 9 ∨ d = 10 := by omega
  rcases h with rfl | rfl | rfl | rfl | rfl | rfl | rfl | rfl | rfl | rfl | rfl
  · exact has0_1 p
  · exact has1_1 p
  · exact has2_1 p
  · exact has3_1 p
  · exact has4_1 p
  · exact has5_1 p
  · exact has6_1 p
  · exact has7_1 p
  · exact has8_1 p
  · exact has9_1 p
  · rw [show hasB 10 p = false by unfold hasB; rw [show (BitVec.ofInt 64 (tellsT.getD (10 : Int).toNat 0)) = 0#64 from rfl, BitVec.zero_and]; rfl]
    exact has10_1 p
end Go.Sx.Tryd
