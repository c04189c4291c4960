/- There and back: postings and their bytes. -/
import Derived.Test.YtdhefhnlagnkdaaDoorD2
import Derived.Test.YtdhefhnlagnkdaaDoorE3
import Derived.Test.YtdhefhnlagnkdaaDoorM9
import Derived.Test.YtdhefhnlagnkdaaDoorE5
namespace Go.Sx.Tryd
open Go Go.Sx
theorem step_w {α : Type} {z : α} {q : List UInt8 → Got α} {w r : List UInt8} {v : α} (h : q (w ++ r) = ⟨v, w.length, 0⟩) : step z q (w ++ r) 0 = (v, r, 0) := by
  rw [step_ok (by rw [h]), h]
  simp
theorem step_inv {α : Type} {z : α} {q : List UInt8 → Got α} {b : List UInt8} {f : Int} (h : (step z q b f).2.2 = 0) : f = 0 ∧ (q b).e = 0 ∧ (step z q b f).1 = (q b).v ∧ (step z q b f).2.1 = b.drop (q b).n := by
  by_cases hf : f = 0
  · subst hf
    by_cases he : (q b).e = 0
    · rw [step_ok he]; exact ⟨rfl, he, rfl, rfl⟩
    · rw [step_e he] at h; exact absurd h he
  · rw [step_f hf] at h; exact absurd h hf
theorem qC_vb {n : Nat} {m : Int} (hn : (n : Int) ≤ m) (hn2 : n < 18446744073709551616) (r : List UInt8) : qC m (vb n ++ r) = ⟨n, (vb n).length, 0⟩ := by
  obtain ⟨h1, h2, h3⟩ := v_vb hn2 r
  unfold qC; rw [h1, h2, h3, if_neg (by simp), if_neg (by omega)]
theorem qC_take {m : Int} {b : List UInt8} (h : (qC m b).e = 0) : b.take (qC m b).n = vb (qC m b).v := by
  unfold qC at h ⊢
  by_cases he : vE b = 0
  · rw [if_neg (by simp [he])] at h ⊢
    by_cases h1 : m < (vU b : Int)
    · rw [if_pos h1] at h; simp at h
    · rw [if_neg h1]; exact v_take he
  · rw [if_pos he] at h; exact absurd h he
theorem legsB_append (a b : List Leg) : legsB (a ++ b) = legsB a ++ legsB b := by
  induction a with
  | nil => rfl
  | cons x a ih => rw [List.cons_append, legsB, legsB, ih, List.append_assoc]
theorem small_nat {n : Int} (h : 0 ≤ n) (h' : n ≤ 1000000) : small n.toNat = n := by unfold small; rw [if_neg (by omega)]; omega
theorem leg_read {x : Leg} (hx : FairL x) (r : List UInt8) : step 0 qV (legB x ++ r) 0 = (x.acc.toNat, mb x.cur x.minor ++ r, 0) := by
  have := hx.acc
  unfold legB
  rw [List.append_assoc]
  exact step_w (qV_vb (by omega) _)
theorem rdLegs_legs : ∀ (l : List Leg) (r : List UInt8), (∀ x ∈ l, FairL x) → rdLegs l.length (legsB l ++ r) 0 = (l, r, 0)
  | [], r, _ => rfl
  | x :: l, r, h => by
    have hx := h x (by simp)
    have h1 := hx.acc; have h2 := hx.cur; have h3 := hx.minor
    have e1 := leg_read hx (legsB l ++ r)
    have e2 : step (0, 0) qM (mb x.cur x.minor ++ (legsB l ++ r)) 0 = ((x.cur, x.minor), legsB l ++ r, 0) := step_w (qM_mb (by omega) (by omega) (by omega) (by omega) _)
    rw [List.length_cons, rdLegs, legsB, List.append_assoc, e1]
    dsimp only
    rw [e2]
    dsimp only
    rw [rdLegs_legs l r fun y hy => h y (by simp [hy]), small_nat (by omega) (by omega)]
theorem rdLegs_less : ∀ (l : List Leg) (x : Leg), (∀ y ∈ l, FairL y) → FairL x → (rdLegs (l.length + 1) (legsB l ++ (legB x).dropLast) 0).2.2 = 2
  | [], x, _, hx => by
    have h1 := hx.acc; have h2 := hx.cur; have h3 := hx.minor
    have hne : mb x.cur x.minor ≠ [] := by
      unfold mb
      have := vb_pos (zz x.cur)
      intro h; rw [List.append_eq_nil_iff] at h; rw [h.1] at this; simp at this
    have e1 : step 0 qV ((legB x).dropLast) 0 = (x.acc.toNat, (mb x.cur x.minor).dropLast, 0) := by
      unfold legB
      rw [List.dropLast_append_of_ne_nil hne]
      exact step_w (qV_vb (by omega) _)
    have e2 : (qM (mb x.cur x.minor).dropLast).e = 2 := qM_pre (by omega) (by omega) (by omega) (by omega)
    show (rdLegs (0 + 1) (legB x).dropLast 0).2.2 = 2
    rw [rdLegs, e1]
    dsimp only
    rw [step_e (by rw [e2]; decide), e2]
    rfl
  | y :: l, x, h, hx => by
    have hy := h y (by simp)
    have h1 := hy.acc; have h2 := hy.cur; have h3 := hy.minor
    have e1 := leg_read hy (legsB l ++ (legB x).dropLast)
    have e2 : step (0, 0) qM (mb y.cur y.minor ++ (legsB l ++ (legB x).dropLast)) 0 = ((y.cur, y.minor), legsB l ++ (legB x).dropLast, 0) := step_w (qM_mb (by omega) (by omega) (by omega) (by omega) _)
    rw [List.length_cons, rdLegs, legsB, List.append_assoc, e1]
    dsimp only
    rw [e2]
    exact rdLegs_less l x (fun z hz => h z (by simp [hz])) hx
structure Heads (p : Post) (t : List UInt8) (s : List UInt8) : Prop where
  e1 : (d1 s).1 = p.id.toNat
  e2 : (d2 s).1 = zz p.known
  e3 : (d3 s).1 = zz p.value
  e4 : (d4 s).1 = p.kind.toNat
  e5 : (d5 s).1 = p.rev.toNat
  e6 : (d6 s).1 = p.memo
  e7 : d7 s = (p.legs.length, t, 0)
theorem head_read {p : Post} (hf : Fair p) (t : List UInt8) : Heads p t (headB p ++ t) := by
  have h1 := hf.id; have h2 := hf.known; have h3 := hf.value; have h4 := hf.kind; have h5 := hf.rev; have h6 := hf.len; have h7 := hf.memo
  have e : headB p ++ t = vb p.id.toNat ++ (vb (zz p.known) ++ (vb (zz p.value) ++ (vb p.kind.toNat ++ (vb p.rev.toNat ++ (tb p.memo ++ (vb p.legs.length ++ t)))))) := by
    unfold headB; simp only [List.append_assoc]
  rw [e]
  generalize hs : vb p.id.toNat ++ (vb (zz p.known) ++ (vb (zz p.value) ++ (vb p.kind.toNat ++ (vb p.rev.toNat ++ (tb p.memo ++ (vb p.legs.length ++ t)))))) = s
  have g1 : d1 s = (p.id.toNat, vb (zz p.known) ++ (vb (zz p.value) ++ (vb p.kind.toNat ++ (vb p.rev.toNat ++ (tb p.memo ++ (vb p.legs.length ++ t))))), 0) := by
    unfold d1; rw [← hs]; exact step_w (qV_vb (by omega) _)
  have g2 : d2 s = (zz p.known, vb (zz p.value) ++ (vb p.kind.toNat ++ (vb p.rev.toNat ++ (tb p.memo ++ (vb p.legs.length ++ t)))), 0) := by
    unfold d2; rw [g1]; exact step_w (qV_vb (zz_lt (by omega) (by omega)) _)
  have g3 : d3 s = (zz p.value, vb p.kind.toNat ++ (vb p.rev.toNat ++ (tb p.memo ++ (vb p.legs.length ++ t))), 0) := by
    unfold d3; rw [g2]; exact step_w (qV_vb (zz_lt (by omega) (by omega)) _)
  have g4 : d4 s = (p.kind.toNat, vb p.rev.toNat ++ (tb p.memo ++ (vb p.legs.length ++ t)), 0) := by
    unfold d4; rw [g3]; exact step_w (qV_vb (by omega) _)
  have g5 : d5 s = (p.rev.toNat, tb p.memo ++ (vb p.legs.length ++ t), 0) := by
    unfold d5; rw [g4]; exact step_w (qV_vb (by omega) _)
  have g6 : d6 s = (p.memo, vb p.legs.length ++ t, 0) := by
    unfold d6; rw [g5]; exact step_w (qT_tb (by omega) (by omega) _)
  have g7 : d7 s = (p.legs.length, t, 0) := by
    unfold d7; rw [g6]; exact step_w (qC_vb (by omega) (by omega) _)
  exact ⟨by rw [g1], by rw [g2], by rw [g3], by rw [g4], by rw [g5], by rw [g6], g7⟩
def shp (p : Post) : Post := ⟨p.id, p.known, p.value, .shut, p.legs, p.rev, p.kind, p.memo⟩
theorem chk_shp (p : Post) : chk (shp p) = chk p := rfl
theorem dayOf_id {n : Int} (h : -50000 ≤ n) (h' : n ≤ 50000) : dayOf n = n := by unfold dayOf; rw [if_neg (by omega)]
theorem dec_enc {p : Post} (hc : chk p = 0) (r : List UInt8) : decP (enc p ++ r) = shp p ∧ decE (enc p ++ r) = if r = [] then 0 else 3 := by
  have hf := fair hc
  have h1 := hf.id; have h2 := hf.known; have h3 := hf.value; have h4 := hf.kind; have h5 := hf.rev
  have H := head_read hf (legsB p.legs ++ r)
  have es : enc p ++ r = headB p ++ (legsB p.legs ++ r) := by unfold enc; rw [List.append_assoc]
  have e8 : d8 (enc p ++ r) = (p.legs, r, 0) := by
    unfold d8; rw [es, H.e7]; exact rdLegs_legs p.legs r hf.legs
  have hP : decP (enc p ++ r) = shp p := by
    unfold decP shp
    rw [e8, es, H.e1, H.e2, H.e3, H.e4, H.e5, H.e6, small_nat (by omega) (by omega), small_nat (by omega) (by omega), small_nat (by omega) (by omega), sgn_zz, sgn_zz, dayOf_id (by omega) (by omega), dayOf_id (by omega) (by omega)]
  refine ⟨hP, ?_⟩
  unfold decE
  rw [hP, chk_shp, hc, e8]
  unfold endE
  rw [if_pos rfl]
  by_cases hr : r = []
  · rw [if_pos hr, if_pos rfl]
  · rw [if_neg hr, if_neg (by decide)]
theorem dec_less {p : Post} (hc : chk p = 0) : ¬ decE (enc p).dropLast = 0 := by
  have hf := fair hc
  have hl := hf.len
  have hne : p.legs ≠ [] := fun e => by rw [e] at hl; simp at hl
  obtain ⟨l, x, hx⟩ : ∃ l x, p.legs = l ++ [x] := ⟨p.legs.dropLast, p.legs.getLast hne, (List.dropLast_concat_getLast hne).symm⟩
  have hlx : FairL x := hf.legs x (by rw [hx]; simp)
  have hll : ∀ y ∈ l, FairL y := fun y hy => hf.legs y (by rw [hx]; simp [hy])
  have hnb : legB x ≠ [] := by
    unfold legB
    have := vb_pos x.acc.toNat
    intro h; rw [List.append_eq_nil_iff] at h; rw [h.1] at this; simp at this
  have es : (enc p).dropLast = headB p ++ (legsB l ++ (legB x).dropLast) := by
    unfold enc
    rw [hx, legsB_append, show legsB [x] = legB x by simp [legsB], ← List.append_assoc, List.dropLast_append_of_ne_nil hnb, List.append_assoc]
  have H := head_read hf (legsB l ++ (legB x).dropLast)
  have e8 : (d8 (enc p).dropLast).2.2 = 2 := by
    unfold d8; rw [es, H.e7, hx, List.length_append, List.length_singleton]; exact rdLegs_less l x hll hlx
  unfold decE
  rw [show endE (d8 (enc p).dropLast).2.1 (d8 (enc p).dropLast).2.2 = 2 by rw [e8]; rfl, if_neg (by decide)]
  decide
theorem rdLegs_inv : ∀ (k : Nat) (b : List UInt8) (f : Int), (rdLegs k b f).2.2 = 0 → (∀ x ∈ (rdLegs k b f).1, 1 ≤ x.acc) → f = 0 ∧ b = legsB (rdLegs k b f).1 ++ (rdLegs k b f).2.1
  | 0, b, f, h, _ => ⟨h, rfl⟩
  | k + 1, b, f, h, ha => by
    rw [rdLegs] at h ha ⊢
    dsimp only at h ha ⊢
    obtain ⟨i1, i2⟩ := rdLegs_inv k _ _ h fun x hx => ha x (by simp [hx])
    obtain ⟨j1, j2, j3, j4⟩ := step_inv i1
    obtain ⟨k1, k2, k3, k4⟩ := step_inv j1
    refine ⟨k1, ?_⟩
    have hm := (qM_take j2).1
    have hv := qV_take k2
    have hacc := ha _ (List.mem_cons_self ..)
    dsimp only at hacc
    rw [legsB, List.append_assoc, ← i2]
    unfold legB
    dsimp only
    have hs : (small (step 0 qV b f).1).toNat = (step 0 qV b f).1 := by
      unfold small at hacc ⊢
      split
      · rename_i hh; rw [if_pos hh] at hacc; omega
      · omega
    rw [hs, k3, ← hv, j3, ← hm, j4, List.append_assoc, List.take_append_drop, k4, List.take_append_drop]
theorem enc_dec {s : List UInt8} (h : decE s = 0) : enc (decP s) = s ∧ chk (decP s) = 0 := by
  unfold decE at h
  by_cases he : endE (d8 s).2.1 (d8 s).2.2 = 0
  · rw [if_pos he] at h
    refine ⟨?_, h⟩
    have hf := fair h
    obtain ⟨hb8, hf8⟩ : (d8 s).2.1 = [] ∧ (d8 s).2.2 = 0 := by
      unfold endE at he
      by_cases c : (d8 s).2.2 = 0
      · rw [if_pos c] at he
        by_cases c2 : (d8 s).2.1 = []
        · exact ⟨c2, c⟩
        · rw [if_neg c2] at he; cases he
      · rw [if_neg c] at he; exact absurd he c
    obtain ⟨z7, b7⟩ := rdLegs_inv (d7 s).1 (d7 s).2.1 (d7 s).2.2 hf8 fun x hx => (hf.legs x hx).acc.1
    rw [show (rdLegs (d7 s).1 (d7 s).2.1 (d7 s).2.2).2.1 = (d8 s).2.1 from rfl, hb8, List.append_nil] at b7
    obtain ⟨z6, q7, v7, r7⟩ := step_inv (z := 0) (q := qC 16) z7
    obtain ⟨z5, q6, v6, r6⟩ := step_inv (z := ([] : List UInt8)) (q := qT 32) z6
    obtain ⟨z4, q5, v5, r5⟩ := step_inv (z := 0) (q := qV) z5
    obtain ⟨z3, q4, v4, r4⟩ := step_inv (z := 0) (q := qV) z4
    obtain ⟨z2, q3, v3, r3⟩ := step_inv (z := 0) (q := qV) z3
    obtain ⟨z1, q2, v2, r2⟩ := step_inv (z := 0) (q := qV) z2
    obtain ⟨_, q1, v1, r1⟩ := step_inv (z := 0) (q := qV) z1
    have t1 : s = vb (d1 s).1 ++ (d1 s).2.1 := by
      rw [show (d1 s).1 = (qV s).v from v1, show (d1 s).2.1 = s.drop (qV s).n from r1, ← qV_take q1, List.take_append_drop]
    have t2 : (d1 s).2.1 = vb (d2 s).1 ++ (d2 s).2.1 := by
      rw [show (d2 s).1 = _ from v2, show (d2 s).2.1 = _ from r2, ← qV_take q2, List.take_append_drop]
    have t3 : (d2 s).2.1 = vb (d3 s).1 ++ (d3 s).2.1 := by
      rw [show (d3 s).1 = _ from v3, show (d3 s).2.1 = _ from r3, ← qV_take q3, List.take_append_drop]
    have t4 : (d3 s).2.1 = vb (d4 s).1 ++ (d4 s).2.1 := by
      rw [show (d4 s).1 = _ from v4, show (d4 s).2.1 = _ from r4, ← qV_take q4, List.take_append_drop]
    have t5 : (d4 s).2.1 = vb (d5 s).1 ++ (d5 s).2.1 := by
      rw [show (d5 s).1 = _ from v5, show (d5 s).2.1 = _ from r5, ← qV_take q5, List.take_append_drop]
    have t6 : (d5 s).2.1 = tb (d6 s).1 ++ (d6 s).2.1 := by
      rw [show (d6 s).1 = _ from v6, show (d6 s).2.1 = _ from r6, ← qT_take q6, List.take_append_drop]
    have t7 : (d6 s).2.1 = vb (d7 s).1 ++ (d7 s).2.1 := by
      rw [show (d7 s).1 = _ from v7, show (d7 s).2.1 = _ from r7, ← qC_take q7, List.take_append_drop]
    have sm : ∀ u : Nat, 0 ≤ small u → (small u).toNat = u := fun u hu => by
      unfold small at hu ⊢
      split
      · rename_i hh; rw [if_pos hh] at hu; omega
      · omega
    have dy : ∀ u : Nat, dayOf (sgn u) ≤ 50000 → zz (dayOf (sgn u)) = u := fun u hu => by
      unfold dayOf at hu ⊢
      split
      · rename_i hh; rw [if_pos hh] at hu; omega
      · exact zz_sgn u
    have h1 := hf.id; have h2 := hf.known; have h3 := hf.value; have h4 := hf.kind; have h5 := hf.rev
    have w1 := sm (d1 s).1 (by have : small (d1 s).1 = (decP s).id := rfl; omega)
    have w2 := dy (d2 s).1 (by have : dayOf (sgn (d2 s).1) = (decP s).known := rfl; omega)
    have w3 := dy (d3 s).1 (by have : dayOf (sgn (d3 s).1) = (decP s).value := rfl; omega)
    have w4 := sm (d4 s).1 (by have : small (d4 s).1 = (decP s).kind := rfl; omega)
    have w5 := sm (d5 s).1 (by have : small (d5 s).1 = (decP s).rev := rfl; omega)
    have w7 : (d8 s).1.length = (d7 s).1 := rdLegs_len _ _ _
    show vb (small (d1 s).1).toNat ++ vb (zz (dayOf (sgn (d2 s).1))) ++ vb (zz (dayOf (sgn (d3 s).1))) ++ vb (small (d4 s).1).toNat ++ vb (small (d5 s).1).toNat ++ tb (d6 s).1 ++ vb (d8 s).1.length ++ legsB (d8 s).1 = s
    rw [w1, w2, w3, w4, w5, w7]
    simp only [List.append_assoc]
    rw [show legsB (d8 s).1 = (d7 s).2.1 from b7.symm, ← t7, ← t6, ← t5, ← t4, ← t3, ← t2, ← t1]
  · rw [if_neg he] at h; exact absurd h he
theorem enc_ne (p : Post) : enc p ≠ [] := by
  unfold enc headB
  have := vb_pos p.id.toNat
  intro h
  simp only [List.append_eq_nil_iff] at h
  rw [h.1.1.1.1.1.1.1] at this
  simp at this
theorem same_shp (p : Post) : same p (shp p) = true := by
  have h0 : ∀ l : List Leg, ((l.zip l).any fun q => !legEq q.1 q.2) = false := fun l => (zip_any rfl).2 rfl
  simp [same, legsEq, shp, h0]
end Go.Sx.Tryd
/- The statement EntryBytes, of the evaluator. -/
namespace Go.Sx.Tryd
open Go Go.Sx
theorem f13x_1 (p : Post) (s : List UInt8) (h1 : cc (ev X E0) 16 [Post.av p] [] = some (AV.b false, [])) (h3 : cc (ev X E0) (39 : Nat) [] [] = some (AV.b true, [])) :
    cc (ev X E0) 13 [AV.agg (Post.cs p), AV.c (.pv (.str s))] [] = some (AV.c (.pv (.bool true)), []) :=
  cc_path (x := xf13) rfl [.call (AV.c (.pv (.bool false))) [], .br true, .br true, .br true, .br true, .br true, .call (AV.c (.pv (.bool true))) []]
    (c := [cc (ev X E0) 16 [AV.agg (Post.cs p)] [] = some (AV.c (.pv (.bool false)), []), true = true, true = true, true = true, true = true, true = true, cc (ev X E0) (39 : Nat) [] [] = some (AV.c (.pv (.bool true)), [])]) (by kernel_rfl)
    ⟨(h1), rfl, rfl, rfl, rfl, rfl, (h3), trivial⟩
theorem f13y_1 (p : Post) (s : List UInt8) (h1 : cc (ev X E0) 16 [Post.av p] [] = some (AV.b true, [])) (h3 : cc (ev X E0) (39 : Nat) [] [] = some (AV.b true, [])) (hs : (↑(List.length s) : Int) > 400) :
    cc (ev X E0) 13 [AV.agg (Post.cs p), AV.c (.pv (.str s))] [] = some (AV.c (.pv (.bool true)), []) :=
  cc_path (x := xf13) rfl [.call (AV.c (.pv (.bool true))) [], .br false, .br false, .br false, .br false, .br true, .call (AV.c (.pv (.bool true))) []]
    (c := [cc (ev X E0) 16 [AV.agg (Post.cs p)] [] = some (AV.c (.pv (.bool true)), []), false = false, false = false, false = false, false = false, decide ((↑(List.length s) : Int) > 400) = true, cc (ev X E0) (39 : Nat) [] [] = some (AV.c (.pv (.bool true)), [])]) (by kernel_rfl)
    ⟨(h1), rfl, rfl, rfl, rfl, (decide_eq_true hs), (h3), trivial⟩
theorem f13e_2 (p : Post) (s : List UInt8) (b : List UInt8) (e : Int) (f : Int) (h1 : cc (ev X E0) 16 [Post.av p] [] = some (AV.b true, [])) (h3 : cc (ev X E0) (39 : Nat) [] [] = some (AV.b true, [])) (hs : ¬(↑(List.length s) : Int) > 400) (h42 : cc (ev X E0) 42 [Post.av p] [] = some (AV.tup [AV.s b, AV.i e], [])) (h37 : cc (ev X E0) 37 [Post.av p] [] = some (AV.i e, [])) (he : ¬e = 0) (h49 : cs (ev X E0) 49 [AV.s s] = some (AV.tup [AV.agg Z7, AV.i f])) (hf : ¬f = 0) (h44 : cc (ev X E0) (44 : Nat) [AV.agg Z7, AV.agg Z7] [] = some (AV.b true, [])) (g1 : ((e == 0) == (e == 0)) = true) :
    cc (ev X E0) 13 [AV.agg (Post.cs p), AV.c (.pv (.str s))] [] = some (AV.c (.pv (.bool true)), []) :=
  cc_path (x := xf13) rfl [.call (AV.c (.pv (.bool true))) [], .br false, .br false, .br false, .br false, .br false, .call (AV.tup [AV.c (.pv (.str b)), AV.c (vi e)]) [], .call (AV.c (vi e)) [], .br false, .br false, .shut (AV.tup [AV.agg [vi 0, vw 0, vw 0, .pv (.sl SO.nil 0 []), vi 0, vi 0, .pv (.str [])], AV.c (vi f)]), .br true, .call (AV.c (.pv (.bool true))) [], .br true, .br true, .br true, .call (AV.c (.pv (.bool true))) [], .br true]
    (c := [cc (ev X E0) 16 [AV.agg (Post.cs p)] [] = some (AV.c (.pv (.bool true)), []), false = false, false = false, false = false, false = false, decide ((↑(List.length s) : Int) > 400) = false, cc (ev X E0) 42 [AV.agg (Post.cs p)] [] = some (AV.tup [AV.c (.pv (.str b)), AV.c (vi e)], []), cc (ev X E0) 37 [AV.agg (Post.cs p)] [] = some (AV.c (vi e), []), (!(e == 0) == (e == 0)) = false, (e == 0) = false, cs (ev X E0) 49 [AV.c (.pv (.str s))] = some (AV.tup [AV.agg [vi 0, vw 0, vw 0, .pv (.sl SO.nil 0 []), vi 0, vi 0, .pv (.str [])], AV.c (vi f)]), (f != 0) = true, cc (ev X E0) (39 : Nat) [] [] = some (AV.c (.pv (.bool true)), []), true = true, true = true, true = true, cc (ev X E0) (44 : Nat) [AV.agg [vi (0 : Int), vw (0 : Int), vw (0 : Int), .pv (.sl SO.nil (0 : Nat) []), vi (0 : Int), vi (0 : Int), .pv (.str [])], AV.agg [vi (0 : Int), vw (0 : Int), vw (0 : Int), .pv (.sl SO.nil (0 : Nat) []), vi (0 : Int), vi (0 : Int), .pv (.str [])]] [] = some (AV.c (.pv (.bool true)), []), true = true]) (by kernel_rfl)
    ⟨(h1), rfl, rfl, rfl, rfl, (decide_eq_false hs), (h42), (h37), (not_f g1), (beq_eq_false_iff_ne.mpr he), (h49), (bne_iff_ne.mpr hf), (h3), rfl, rfl, rfl, (h44), rfl, trivial⟩
theorem f13f_2 (p : Post) (q : Post) (s : List UInt8) (b : List UInt8) (e : Int) (h1 : cc (ev X E0) 16 [Post.av p] [] = some (AV.b true, [])) (h3 : cc (ev X E0) (39 : Nat) [] [] = some (AV.b true, [])) (hs : ¬(↑(List.length s) : Int) > 400) (h42 : cc (ev X E0) 42 [Post.av p] [] = some (AV.tup [AV.s b, AV.i e], [])) (h37 : cc (ev X E0) 37 [Post.av p] [] = some (AV.i e, [])) (he : ¬e = 0) (h49 : cs (ev X E0) 49 [AV.s s] = some (AV.tup [Post.av q, AV.i 0])) (h42q : cc (ev X E0) 42 [Post.av q] [] = some (AV.tup [AV.s s, AV.i 0], [])) (h37q : cc (ev X E0) 37 [Post.av q] [] = some (AV.i 0, [])) (g1 : ((e == 0) == (e == 0)) = true) (g2 : s = s) :
    cc (ev X E0) 13 [AV.agg (Post.cs p), AV.c (.pv (.str s))] [] = some (AV.c (.pv (.bool true)), []) :=
  cc_path (x := xf13) rfl [.call (AV.c (.pv (.bool true))) [], .br false, .br false, .br false, .br false, .br false, .call (AV.tup [AV.c (.pv (.str b)), AV.c (vi e)]) [], .call (AV.c (vi e)) [], .br false, .br false, .shut (AV.tup [AV.agg (Post.cs q), AV.c (vi 0)]), .br false, .call (AV.tup [AV.c (.pv (.str s)), AV.c (vi 0)]) [], .call (AV.c (.pv (.bool true))) [], .br true, .br true, .br true, .br true, .br true, .br true, .br true, .br true, .br true, .call (AV.c (vi (0 : Int))) [], .br true, .br true]
    (c := [cc (ev X E0) 16 [AV.agg (Post.cs p)] [] = some (AV.c (.pv (.bool true)), []), false = false, false = false, false = false, false = false, decide ((↑(List.length s) : Int) > 400) = false, cc (ev X E0) 42 [AV.agg (Post.cs p)] [] = some (AV.tup [AV.c (.pv (.str b)), AV.c (vi e)], []), cc (ev X E0) 37 [AV.agg (Post.cs p)] [] = some (AV.c (vi e), []), (!(e == 0) == (e == 0)) = false, (e == 0) = false, cs (ev X E0) 49 [AV.c (.pv (.str s))] = some (AV.tup [AV.agg (Post.cs q), AV.c (vi 0)]), false = false, cc (ev X E0) 42 [AV.agg (Post.cs q)] [] = some (AV.tup [AV.c (.pv (.str s)), AV.c (vi 0)], []), cc (ev X E0) (39 : Nat) [] [] = some (AV.c (.pv (.bool true)), []), true = true, true = true, true = true, true = true, true = true, true = true, true = true, (s == s) = true, (s == s) = true, cc (ev X E0) 37 [AV.agg (Post.cs q)] [] = some (AV.c (vi 0), []), (s == s) = true, (s == s) = true]) (by kernel_rfl)
    ⟨(h1), rfl, rfl, rfl, rfl, (decide_eq_false hs), (h42), (h37), (not_f g1), (beq_eq_false_iff_ne.mpr he), (h49), rfl, (h42q), (h3), rfl, rfl, rfl, rfl, rfl, rfl, rfl, (beq_iff_eq.mpr g2), (beq_iff_eq.mpr g2), (h37q), (beq_iff_eq.mpr g2), (beq_iff_eq.mpr g2), trivial⟩
theorem f13g_2 (p : Post) (r : Post) (s : List UInt8) (b : List UInt8) (f : Int) (j : Int) (k : Int) (h1 : cc (ev X E0) 16 [Post.av p] [] = some (AV.b true, [])) (h3 : cc (ev X E0) (39 : Nat) [] [] = some (AV.b true, [])) (hs : ¬(↑(List.length s) : Int) > 400) (h42 : cc (ev X E0) 42 [Post.av p] [] = some (AV.tup [AV.s b, AV.i 0], [])) (h37 : cc (ev X E0) 37 [Post.av p] [] = some (AV.i 0, [])) (g49 : cs (ev X E0) 49 [AV.s b] = some (AV.tup [Post.av r, AV.i 0])) (g44 : cc (ev X E0) 44 [Post.av p, Post.av r] [] = some (AV.b true, [])) (g49l : cs (ev X E0) 49 [AV.s (List.take (Int.toNat (if 0 < IntKind.wrap .i64 ((↑(List.length b) : Int) - 1) then IntKind.wrap .i64 ((↑(List.length b) : Int) - 1) else 0)) b)] = some (AV.tup [AV.agg Z7, AV.i k])) (hk : ¬k = 0) (g49a : cs (ev X E0) 49 [AV.s (b ++ [97])] = some (AV.tup [AV.agg Z7, AV.i j])) (hj : ¬j = 0) (h49 : cs (ev X E0) 49 [AV.s s] = some (AV.tup [AV.agg Z7, AV.i f])) (hf : ¬f = 0) (h44 : cc (ev X E0) (44 : Nat) [AV.agg Z7, AV.agg Z7] [] = some (AV.b true, [])) (g1 : 0 ≤ if 0 < IntKind.wrap .i64 ((↑(List.length b) : Int) - 1) then IntKind.wrap .i64 ((↑(List.length b) : Int) - 1) else 0) (g2 : (if 0 < IntKind.wrap .i64 ((↑(List.length b) : Int) - 1) then IntKind.wrap .i64 ((↑(List.length b) : Int) - 1) else 0) ≤ (↑(List.length b) : Int)) (g3 : List.length b + 1 ≤ 9223372036854775807) (g4 : ¬(↑(List.length b) : Int) = 0) :
    cc (ev X E0) 13 [AV.agg (Post.cs p), AV.c (.pv (.str s))] [] = some (AV.c (.pv (.bool true)), []) :=
  cc_path (x := xf13) rfl [.call (AV.c (.pv (.bool true))) [], .br false, .br false, .br false, .br false, .br false, .call (AV.tup [AV.c (.pv (.str b)), AV.c (vi 0)]) [], .call (AV.c (vi (0 : Int))) [], .br false, .br true, .shut (AV.tup [AV.agg (Post.cs r), AV.c (vi 0)]), .call (AV.c (.pv (.bool true))) [], .shut (AV.tup [AV.agg [vi 0, vw 0, vw 0, .pv (.sl SO.nil 0 []), vi 0, vi 0, .pv (.str [])], AV.c (vi k)]), .shut (AV.tup [AV.agg [vi 0, vw 0, vw 0, .pv (.sl SO.nil 0 []), vi 0, vi 0, .pv (.str [])], AV.c (vi j)]), .br false, .br false, .br false, .br false, .br false, .br false, .br false, .br false, .br false, .br false, .br false, .br false, .br false, .br false, .shut (AV.tup [AV.agg [vi 0, vw 0, vw 0, .pv (.sl SO.nil 0 []), vi 0, vi 0, .pv (.str [])], AV.c (vi f)]), .br true, .call (AV.c (.pv (.bool true))) [], .br true, .br true, .br true, .call (AV.c (.pv (.bool true))) [], .br true]
    (c := [cc (ev X E0) 16 [AV.agg (Post.cs p)] [] = some (AV.c (.pv (.bool true)), []), false = false, false = false, false = false, false = false, decide ((↑(List.length s) : Int) > 400) = false, cc (ev X E0) 42 [AV.agg (Post.cs p)] [] = some (AV.tup [AV.c (.pv (.str b)), AV.c (vi 0)], []), cc (ev X E0) 37 [AV.agg (Post.cs p)] [] = some (AV.c (vi 0), []), false = false, true = true, cs (ev X E0) 49 [AV.c (.pv (.str b))] = some (AV.tup [AV.agg (Post.cs r), AV.c (vi 0)]), cc (ev X E0) 44 [AV.agg (Post.cs p), AV.agg (Post.cs r)] [] = some (AV.c (.pv (.bool true)), []), (0 : Int) ≤ (0 : Int), 0 ≤ if 0 < IntKind.wrap .i64 ((↑(List.length b) : Int) - 1) then IntKind.wrap .i64 ((↑(List.length b) : Int) - 1) else 0, (if 0 < IntKind.wrap .i64 ((↑(List.length b) : Int) - 1) then IntKind.wrap .i64 ((↑(List.length b) : Int) - 1) else 0) ≤ (↑(List.length b) : Int), cs (ev X E0) 49 [AV.c (.pv (.str (List.take (Int.toNat (if 0 < IntKind.wrap .i64 ((↑(List.length b) : Int) - 1) then IntKind.wrap .i64 ((↑(List.length b) : Int) - 1) else 0)) b)))] = some (AV.tup [AV.agg [vi 0, vw 0, vw 0, .pv (.sl SO.nil 0 []), vi 0, vi 0, .pv (.str [])], AV.c (vi k)]), List.length b + 1 ≤ 9223372036854775807, cs (ev X E0) 49 [AV.c (.pv (.str (b ++ [97])))] = some (AV.tup [AV.agg [vi 0, vw 0, vw 0, .pv (.sl SO.nil 0 []), vi 0, vi 0, .pv (.str [])], AV.c (vi j)]), false = false, false = false, false = false, false = false, false = false, false = false, (k == 0) = false, (k == 0) = false, (k == 0) = false, (j == 0) = false, (j == 0) = false, (j == 0) = false, (j == 0) = false, ((↑(List.length b) : Int) == 0) = false, cs (ev X E0) 49 [AV.c (.pv (.str s))] = some (AV.tup [AV.agg [vi 0, vw 0, vw 0, .pv (.sl SO.nil 0 []), vi 0, vi 0, .pv (.str [])], AV.c (vi f)]), (f != 0) = true, cc (ev X E0) (39 : Nat) [] [] = some (AV.c (.pv (.bool true)), []), true = true, true = true, true = true, cc (ev X E0) (44 : Nat) [AV.agg [vi (0 : Int), vw (0 : Int), vw (0 : Int), .pv (.sl SO.nil (0 : Nat) []), vi (0 : Int), vi (0 : Int), .pv (.str [])], AV.agg [vi (0 : Int), vw (0 : Int), vw (0 : Int), .pv (.sl SO.nil (0 : Nat) []), vi (0 : Int), vi (0 : Int), .pv (.str [])]] [] = some (AV.c (.pv (.bool true)), []), true = true]) (by kernel_rfl)
    ⟨(h1), rfl, rfl, rfl, rfl, (decide_eq_false hs), (h42), (h37), rfl, rfl, (g49), (g44), (Int.le_refl _), g1, g2, (g49l), g3, (g49a), rfl, rfl, rfl, rfl, rfl, rfl, (beq_eq_false_iff_ne.mpr hk), (beq_eq_false_iff_ne.mpr hk), (beq_eq_false_iff_ne.mpr hk), (beq_eq_false_iff_ne.mpr hj), (beq_eq_false_iff_ne.mpr hj), (beq_eq_false_iff_ne.mpr hj), (beq_eq_false_iff_ne.mpr hj), (beq_eq_false_iff_ne.mpr g4), (h49), (bne_iff_ne.mpr hf), (h3), rfl, rfl, rfl, (h44), rfl, trivial⟩
theorem f13h_2 (p : Post) (r : Post) (q : Post) (s : List UInt8) (b : List UInt8) (j : Int) (k : Int) (h1 : cc (ev X E0) 16 [Post.av p] [] = some (AV.b true, [])) (h3 : cc (ev X E0) (39 : Nat) [] [] = some (AV.b true, [])) (hs : ¬(↑(List.length s) : Int) > 400) (h42 : cc (ev X E0) 42 [Post.av p] [] = some (AV.tup [AV.s b, AV.i 0], [])) (h37 : cc (ev X E0) 37 [Post.av p] [] = some (AV.i 0, [])) (g49 : cs (ev X E0) 49 [AV.s b] = some (AV.tup [Post.av r, AV.i 0])) (g44 : cc (ev X E0) 44 [Post.av p, Post.av r] [] = some (AV.b true, [])) (g49l : cs (ev X E0) 49 [AV.s (List.take (Int.toNat (if 0 < IntKind.wrap .i64 ((↑(List.length b) : Int) - 1) then IntKind.wrap .i64 ((↑(List.length b) : Int) - 1) else 0)) b)] = some (AV.tup [AV.agg Z7, AV.i k])) (hk : ¬k = 0) (g49a : cs (ev X E0) 49 [AV.s (b ++ [97])] = some (AV.tup [AV.agg Z7, AV.i j])) (hj : ¬j = 0) (h49 : cs (ev X E0) 49 [AV.s s] = some (AV.tup [Post.av q, AV.i 0])) (h42q : cc (ev X E0) 42 [Post.av q] [] = some (AV.tup [AV.s s, AV.i 0], [])) (h37q : cc (ev X E0) 37 [Post.av q] [] = some (AV.i 0, [])) (g1 : 0 ≤ if 0 < IntKind.wrap .i64 ((↑(List.length b) : Int) - 1) then IntKind.wrap .i64 ((↑(List.length b) : Int) - 1) else 0) (g2 : (if 0 < IntKind.wrap .i64 ((↑(List.length b) : Int) - 1) then IntKind.wrap .i64 ((↑(List.length b) : Int) - 1) else 0) ≤ (↑(List.length b) : Int)) (g3 : List.length b + 1 ≤ 9223372036854775807) (g4 : ¬(↑(List.length b) : Int) = 0) (g5 : s = s) :
    cc (ev X E0) 13 [AV.agg (Post.cs p), AV.c (.pv (.str s))] [] = some (AV.c (.pv (.bool true)), []) :=
  cc_path (x := xf13) rfl [.call (AV.c (.pv (.bool true))) [], .br false, .br false, .br false, .br false, .br false, .call (AV.tup [AV.c (.pv (.str b)), AV.c (vi 0)]) [], .call (AV.c (vi (0 : Int))) [], .br false, .br true, .shut (AV.tup [AV.agg (Post.cs r), AV.c (vi 0)]), .call (AV.c (.pv (.bool true))) [], .shut (AV.tup [AV.agg [vi 0, vw 0, vw 0, .pv (.sl SO.nil 0 []), vi 0, vi 0, .pv (.str [])], AV.c (vi k)]), .shut (AV.tup [AV.agg [vi 0, vw 0, vw 0, .pv (.sl SO.nil 0 []), vi 0, vi 0, .pv (.str [])], AV.c (vi j)]), .br false, .br false, .br false, .br false, .br false, .br false, .br false, .br false, .br false, .br false, .br false, .br false, .br false, .br false, .shut (AV.tup [AV.agg (Post.cs q), AV.c (vi 0)]), .br false, .call (AV.tup [AV.c (.pv (.str s)), AV.c (vi 0)]) [], .call (AV.c (.pv (.bool true))) [], .br true, .br true, .br true, .br true, .br true, .br true, .br true, .br true, .br true, .call (AV.c (vi (0 : Int))) [], .br true, .br true]
    (c := [cc (ev X E0) 16 [AV.agg (Post.cs p)] [] = some (AV.c (.pv (.bool true)), []), false = false, false = false, false = false, false = false, decide ((↑(List.length s) : Int) > 400) = false, cc (ev X E0) 42 [AV.agg (Post.cs p)] [] = some (AV.tup [AV.c (.pv (.str b)), AV.c (vi 0)], []), cc (ev X E0) 37 [AV.agg (Post.cs p)] [] = some (AV.c (vi 0), []), false = false, true = true, cs (ev X E0) 49 [AV.c (.pv (.str b))] = some (AV.tup [AV.agg (Post.cs r), AV.c (vi 0)]), cc (ev X E0) 44 [AV.agg (Post.cs p), AV.agg (Post.cs r)] [] = some (AV.c (.pv (.bool true)), []), (0 : Int) ≤ (0 : Int), 0 ≤ if 0 < IntKind.wrap .i64 ((↑(List.length b) : Int) - 1) then IntKind.wrap .i64 ((↑(List.length b) : Int) - 1) else 0, (if 0 < IntKind.wrap .i64 ((↑(List.length b) : Int) - 1) then IntKind.wrap .i64 ((↑(List.length b) : Int) - 1) else 0) ≤ (↑(List.length b) : Int), cs (ev X E0) 49 [AV.c (.pv (.str (List.take (Int.toNat (if 0 < IntKind.wrap .i64 ((↑(List.length b) : Int) - 1) then IntKind.wrap .i64 ((↑(List.length b) : Int) - 1) else 0)) b)))] = some (AV.tup [AV.agg [vi 0, vw 0, vw 0, .pv (.sl SO.nil 0 []), vi 0, vi 0, .pv (.str [])], AV.c (vi k)]), List.length b + 1 ≤ 9223372036854775807, cs (ev X E0) 49 [AV.c (.pv (.str (b ++ [97])))] = some (AV.tup [AV.agg [vi 0, vw 0, vw 0, .pv (.sl SO.nil 0 []), vi 0, vi 0, .pv (.str [])], AV.c (vi j)]), false = false, false = false, false = false, false = false, false = false, false = false, (k == 0) = false, (k == 0) = false, (k == 0) = false, (j == 0) = false, (j == 0) = false, (j == 0) = false, (j == 0) = false, ((↑(List.length b) : Int) == 0) = false, cs (ev X E0) 49 [AV.c (.pv (.str s))] = some (AV.tup [AV.agg (Post.cs q), AV.c (vi 0)]), false = false, cc (ev X E0) 42 [AV.agg (Post.cs q)] [] = some (AV.tup [AV.c (.pv (.str s)), AV.c (vi 0)], []), cc (ev X E0) (39 : Nat) [] [] = some (AV.c (.pv (.bool true)), []), true = true, true = true, true = true, true = true, true = true, true = true, true = true, (s == s) = true, (s == s) = true, cc (ev X E0) 37 [AV.agg (Post.cs q)] [] = some (AV.c (vi 0), []), (s == s) = true, (s == s) = true]) (by kernel_rfl)
    ⟨(h1), rfl, rfl, rfl, rfl, (decide_eq_false hs), (h42), (h37), rfl, rfl, (g49), (g44), (Int.le_refl _), g1, g2, (g49l), g3, (g49a), rfl, rfl, rfl, rfl, rfl, rfl, (beq_eq_false_iff_ne.mpr hk), (beq_eq_false_iff_ne.mpr hk), (beq_eq_false_iff_ne.mpr hk), (beq_eq_false_iff_ne.mpr hj), (beq_eq_false_iff_ne.mpr hj), (beq_eq_false_iff_ne.mpr hj), (beq_eq_false_iff_ne.mpr hj), (beq_eq_false_iff_ne.mpr g4), (h49), rfl, (h42q), (h3), rfl, rfl, rfl, rfl, rfl, rfl, rfl, (beq_iff_eq.mpr g5), (beq_iff_eq.mpr g5), (h37q), (beq_iff_eq.mpr g5), (beq_iff_eq.mpr g5), trivial⟩
theorem legsB_len : ∀ {l : List Leg}, (∀ x ∈ l, FairL x) → (legsB l).length ≤ 30 * l.length
  | [], _ => by simp [legsB]
  | x :: l, h => by
    have hx := h x (by simp)
    have h1 := hx.acc
    have a := mb_len hx.cur hx.minor
    have b := vb_len10 (n := x.acc.toNat) (by omega)
    have ih := legsB_len (l := l) fun y hy => h y (by simp [hy])
    rw [legsB, legB, List.length_append, List.length_append, List.length_cons]
    omega
theorem enc_len {p : Post} (hf : Fair p) : (enc p).length ≤ 600 := by
  obtain ⟨a1, a2, a3, a4, a5, a6, a7, w1, w2, w3, w4, w5, w7⟩ := lens hf
  have h := legsB_len hf.legs
  have hl := hf.len
  rw [show enc p = headW p ++ legsB p.legs by rw [headW_eq hf]; rfl]
  simp only [List.length_append]
  omega
theorem take_less {b : List UInt8} (h : b ≠ []) (hl : b.length ≤ 1000) : List.take (Int.toNat (if 0 < IntKind.wrap IntKind.i64 ((↑(List.length b) : Int) - 1) then IntKind.wrap IntKind.i64 ((↑(List.length b) : Int) - 1) else 0)) b = b.dropLast := by
  have := List.length_pos_iff.2 h
  rw [wi64 (n := (b.length : Int) - 1) (by omega) (by omega), List.dropLast_eq_take]
  congr 1
  split <;> omega
theorem EntryBytes0 (p : Post) (s : List UInt8) : cc (ev X E0) 13 [Post.av p, AV.s s] [] = some (.b true, []) := by
  have h1 := s16 p
  cases hf : fits p with
  | false => rw [hf] at h1; exact f13x_1 p s h1 alive
  | true =>
    rw [hf] at h1
    have hb := fits_fair hf
    by_cases hs : ((s.length : Nat) : Int) > 400
    · exact f13y_1 p s h1 alive hs
    · have h42 := s42 p (by omega) (by omega)
      have h37 := s37 p (by omega) (by omega)
      have h49 := s49 s (by omega)
      have hq : decE s = 0 → cc (ev X E0) 42 [Post.av (decP s)] [] = some (.tup [AV.s s, AV.i 0], []) ∧ cc (ev X E0) 37 [Post.av (decP s)] [] = some (.i 0, []) := fun h => by
        obtain ⟨e1, e2⟩ := enc_dec h
        have hfq := fair e2
        have := hfq.len; have := hfq.memo
        have a := s42 (decP s) (by omega) (by omega)
        have b := s37 (decP s) (by omega) (by omega)
        rw [encV, if_pos e2, e1, e2] at a
        rw [e2] at b
        exact ⟨a, b⟩
      by_cases c : chk p = 0
      · have hfp := fair c
        have hlen := enc_len hfp
        have hne := enc_ne p
        rw [encV, if_pos c, c] at h42
        rw [c] at h37
        have g49 := s49 (enc p) (by omega)
        have d0 := dec_enc c []
        rw [List.append_nil, if_pos rfl] at d0
        rw [decA, d0.1, d0.2, if_pos rfl] at g49
        have g44 := s44 p (shp p) (by omega)
        rw [same_shp] at g44
        have g49a := s49 (enc p ++ [97]) (by rw [List.length_append, List.length_singleton]; omega)
        have d1 := dec_enc c [97]
        rw [if_neg (by simp)] at d1
        rw [decA, d1.2, if_neg (by decide)] at g49a
        have dl := dec_less c
        have g49l := s49 (enc p).dropLast (by rw [List.length_dropLast]; omega)
        rw [decA, if_neg dl, ← take_less hne (by omega)] at g49l
        have hp := List.length_pos_iff.2 hne
        have hw : IntKind.wrap IntKind.i64 ((↑(List.length (enc p)) : Int) - 1) = (↑(List.length (enc p)) : Int) - 1 := wi64 (by omega) (by omega)
        by_cases cs : decE s = 0
        · rw [decA, if_pos cs, cs] at h49
          obtain ⟨a, b⟩ := hq cs
          exact f13h_2 p _ _ s _ _ _ h1 alive hs h42 h37 g49 g44 g49l (by rw [take_less hne (by omega)]; exact dl) g49a (by decide) h49 a b (by rw [hw]; split <;> omega) (by rw [hw]; split <;> omega) (by omega) (by omega) rfl
        · rw [decA, if_neg cs] at h49
          exact f13g_2 p _ s _ _ _ _ h1 alive hs h42 h37 g49 g44 g49l (by rw [take_less hne (by omega)]; exact dl) g49a (by decide) h49 cs s44z (by rw [hw]; split <;> omega) (by rw [hw]; split <;> omega) (by omega) (by omega)
      · by_cases cs : decE s = 0
        · rw [decA, if_pos cs, cs] at h49
          obtain ⟨a, b⟩ := hq cs
          exact f13f_2 p _ s _ _ h1 alive hs h42 h37 c h49 a b (by simp) rfl
        · rw [decA, if_neg cs] at h49
          exact f13e_2 p s _ _ _ h1 alive hs h42 h37 c h49 cs s44z (by simp)
theorem EntryBytes (x0 : List PV) (t0 : All2 WT ctP x0) (x1 : PV) (t1 : WT .str x1) : ev X E0 13 [.agg (x0.map .pv), .c (.pv x1)] [] = some (.b true, []) := by
  match x0, t0.1 with
  | [a, b, c, d, e, f, g], _ =>
  obtain ⟨p, hp, hpe⟩ := cells7 t0.2
  obtain ⟨s, rfl, _⟩ := str_inv t1
  rw [hpe]
  exact ev_cc (EntryBytes0 p s)
end Go.Sx.Tryd
