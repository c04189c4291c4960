/- What is wrong with a request. -/
import Derived.Test.YtplknajjcllmkaaDoorH6
import Derived.Test.YtplknajjcllmkaaDoorH4
import Derived.Test.YtplknajjcllmkaaDoorH8
namespace Go.Sx.Tryd
open Go Go.Sx
theorem lt_map {α β : Type} {f : α → β} {l : List α} {i : Nat} (h : i < l.length) : (i : Int) < (((l.map f).length : Nat) : Int) := by rw [List.length_map]; omega
theorem not_lt_map {α β : Type} {f : α → β} {l : List α} : ¬ ((l.length : Nat) : Int) < (((l.map f).length : Nat) : Int) := by rw [List.length_map]; omega
theorem a79 {l : List (Int × Int)} {o : SO} (hl : l.length ≤ 1000000) : ∀ (r pre : List (Int × Int)) (e : Int), l = pre ++ r →
    (r.all (fun m => curOk m.1) = true ∧ lv (cv (ev X E0) xf79_l0) (rl [3, 2, 0, 0]) 0 (S79 l o e (pre.length : Nat)) = some (XExit.exit 0, St.mk (tmOf 32 [(3, AV.c (CV.pv (PV.int .i64 (if r.all (fun m => minOk m.2) = true then e else 9))))]) [])) ∨
    (r.all (fun m => curOk m.1) = false ∧ ∃ c m, lv (cv (ev X E0) xf79_l0) (rl [3, 2, 0, 0]) 0 (S79 l o e (pre.length : Nat)) = some (XExit.ret, St.mk (tmOf 32 [(2, AV.c (CV.pv (PV.int .i64 12)))]) [Box.cells [CV.pv (PV.int .i64 c), CV.pv (PV.int .i64 m)]]))
  | [], pre, e, h => by
    rw [List.append_nil] at h
    subst h
    exact Or.inl ⟨rfl, l79_6 l o e l.length not_lt_map⟩
  | y :: r, pre, e, h => by
    have hat : l[pre.length]? = some y := by rw [h]; simp
    have hlen : l.length = pre.length + r.length + 1 := by rw [h]; simp; omega
    have hlt := lt_map (f := pvM) (l := l) (i := pre.length) (by omega)
    by_cases c1 : y.1 < 0
    · exact Or.inr ⟨by simp only [List.all_cons, Bool.and_eq_false_iff]; exact Or.inl (by unfold curOk; rw [decide_eq_false (by omega)]), _, _, l79_1 l o e pre.length y hlt hat c1⟩
    by_cases c2 : y.1 ≥ 4
    · exact Or.inr ⟨by simp only [List.all_cons, Bool.and_eq_false_iff]; exact Or.inl (by unfold curOk; rw [decide_eq_false (by omega)]), _, _, l79_2 l o e pre.length y hlt hat c1 c2⟩
    have hc : curOk y.1 = true := by unfold curOk; rw [decide_eq_true (by omega)]
    have key : ∀ e', lv (cv (ev X E0) xf79_l0) (rl [3, 2, 0, 0]) 0 (S79 l o e (pre.length : Nat)) = lv (cv (ev X E0) xf79_l0) (rl [3, 2, 0, 0]) 0 (S79 l o e' ((pre ++ [y]).length : Nat)) → (minOk y.2 = true ∧ e' = e ∨ minOk y.2 = false ∧ e' = 9) →
      (List.all (y :: r) (fun m => curOk m.1) = true ∧ lv (cv (ev X E0) xf79_l0) (rl [3, 2, 0, 0]) 0 (S79 l o e (pre.length : Nat)) = some (XExit.exit 0, St.mk (tmOf 32 [(3, AV.c (CV.pv (PV.int .i64 (if List.all (y :: r) (fun m => minOk m.2) = true then e else 9))))]) [])) ∨
      (List.all (y :: r) (fun m => curOk m.1) = false ∧ ∃ c m, lv (cv (ev X E0) xf79_l0) (rl [3, 2, 0, 0]) 0 (S79 l o e (pre.length : Nat)) = some (XExit.ret, St.mk (tmOf 32 [(2, AV.c (CV.pv (PV.int .i64 12)))]) [Box.cells [CV.pv (PV.int .i64 c), CV.pv (PV.int .i64 m)]])) := by
      intro e' st he
      simp only [List.all_cons, hc, Bool.true_and]
      rw [st]
      rcases a79 (o := o) hl r (pre ++ [y]) e' (by rw [h]; simp) with ⟨g1, g2⟩ | ⟨g1, g2⟩
      · refine Or.inl ⟨g1, ?_⟩
        rw [g2]
        rcases he with ⟨m1, rfl⟩ | ⟨m1, rfl⟩
        · simp only [m1, Bool.true_and]
        · simp [m1]
      · exact Or.inr ⟨g1, g2⟩
    have hw : IntKind.wrap .i64 ((pre.length : Int) + 1) = (((pre ++ [y]).length : Nat) : Int) := by rw [wi64 (by omega) (by omega), List.length_append, List.length_singleton]; omega
    by_cases c3 : y.2 < -1000000000000000
    · have st := l79_3 l o e pre.length y hlt hat c1 c2 c3
      rw [hw] at st
      exact key 9 st (Or.inr ⟨by unfold minOk; rw [decide_eq_false (by omega)], rfl⟩)
    by_cases c4 : y.2 > 1000000000000000
    · have st := l79_4 l o e pre.length y hlt hat c1 c2 c3 c4
      rw [hw] at st
      exact key 9 st (Or.inr ⟨by unfold minOk; rw [decide_eq_false (by omega)], rfl⟩)
    have st := l79_5 l o e pre.length y hlt hat c1 c2 c3 c4
    rw [hw] at st
    exact key e st (Or.inl ⟨by unfold minOk; rw [decide_eq_true (by omega)], rfl⟩)
theorem s79 (l : List (Int × Int)) (o : SO) (hl : l.length ≤ 1000000) : cc (ev X E0) 79 [AV.sl o 2 (l.map pvM)] [] = some (.i (amts l), []) := by
  unfold amts
  rcases a79 (o := o) hl l [] 0 rfl with ⟨h1, h2⟩ | ⟨h1, c, m, h2⟩
  · rw [f79a_1 l o _ h2]
    cases hm : l.all (fun m => minOk m.2) <;> simp [h1]
  · rw [f79b_1 l o c m h2]; simp [h1]
theorem s143 (l : List Int) (o : SO) (hl : l.length ≤ 1000000) : ∃ j : Int, cc (ev X E0) 143 [AV.sl o 1 (l.map pvI), AV.c (.fn 120 [])] [] = some (.i j, []) ∧ decide (j ≥ 0) = !l.all n32 := by
  have key : ∀ (r pre : List Int), l = pre ++ r →
    (r.all n32 = true ∧ lv (cv (ev X E0) xf143_l0) (rl [0, 0, 5, 0]) 0 (S143 l o (pre.length : Nat)) = some (XExit.exit 0, St.mk (tmOf 19 []) [])) ∨
    (r.all n32 = false ∧ ∃ j : Nat, lv (cv (ev X E0) xf143_l0) (rl [0, 0, 5, 0]) 0 (S143 l o (pre.length : Nat)) = some (XExit.ret, St.mk (tmOf 19 [(4, AV.c (CV.pv (PV.int .i64 (j : Int))))]) [])) := by
    intro r
    induction r with
    | nil =>
      intro pre h
      rw [List.append_nil] at h
      subst h
      exact Or.inl ⟨rfl, l143_3 l o l.length not_lt_map⟩
    | cons y r ih =>
      intro pre h
      have hat : l[pre.length]? = some y := by rw [h]; simp
      have hlen : l.length = pre.length + r.length + 1 := by rw [h]; simp; omega
      have hlt := lt_map (f := pvI) (l := l) (i := pre.length) (by omega)
      cases c : n32 y with
      | false => exact Or.inr ⟨by simp [c], pre.length, l143_1 l o pre.length y hlt hat c⟩
      | true =>
        have st := l143_2 l o pre.length y hlt hat c
        have hw : IntKind.wrap .i64 ((pre.length : Int) + 1) = (((pre ++ [y]).length : Nat) : Int) := by rw [wi64 (by omega) (by omega), List.length_append, List.length_singleton]; omega
        rw [hw] at st
        rw [st]
        simp only [List.all_cons, c, Bool.true_and]
        exact ih (pre ++ [y]) (by rw [h]; simp)
  rcases key l [] rfl with ⟨h1, h2⟩ | ⟨h1, j, h2⟩
  · exact ⟨-1, f143a_1 l o h2, by rw [h1]; rfl⟩
  · exact ⟨j, f143b_1 l o j h2, by rw [h1]; simp⟩
theorem s80 (l : List Int) (o : SO) (hl : l.length ≤ 1000000) : cc (ev X E0) 80 [AV.sl o 1 (l.map pvI)] [] = some (.b (l.all n32), []) := by
  obtain ⟨j, h1, h2⟩ := s143 l o hl
  have h := f80_1 l o _ (f119_1 l o j h1)
  rw [h2, Bool.not_not] at h
  exact h
end Go.Sx.Tryd
/- What is wrong with a request, of the program and of the document: the same. -/
namespace Go.Sx.Tryd
open Go Go.Sx
def n4 (x : Req) : List Int := [x.acc, x.id, x.cid, x.ckind]
def n5 (x : Req) : List Int := [x.racc, x.rkind, x.rcust, x.rprod, x.rpart]
def n9 (x : Req) : List Int := [x.acc, x.id, x.cid, x.ckind, x.racc, x.rkind, x.rcust, x.rprod, x.rpart]
theorem only_sz {p : Req} (h : lsz p.so p.sz p.legs) : lsz (onlyR p).so (onlyR p).sz (onlyR p).legs := by
  unfold onlyR
  cases hasB p.kd 64 with
  | true => exact h
  | false => rfl
theorem only_len (p : Req) : (onlyR p).legs.length ≤ p.legs.length := by
  unfold onlyR
  cases hasB p.kd 64 with
  | true => exact Nat.le_refl _
  | false => exact Nat.zero_le _
theorem a40o {p x : Req} (hs : lsz x.so x.sz x.legs) (hl : x.legs.length ≤ 1000000) : ∀ (r pre : List Leg) (M N : List PV), x.legs = pre ++ r → M.length ≤ pre.length + 1 → N.length ≤ pre.length + 9 →
    lv (cv (ev X E0) xf40_l0) (rl [1, 1, 0, 0, 29, 0, 0]) 2 (S40 p x (CV.own 2943 2 M) (CV.own 3263 1 N) (pre.length : Nat)) = some (XExit.exit 0, St.mk (tmOf 119 [(1, AV.c (CV.ptr 0 0)), (3, AV.c (CV.ptr 1 0)), (4, AV.c (CV.own 2943 2 (M ++ (r.map fun y => (y.cur, y.minor)).map pvM))), (5, AV.c (CV.own 3263 1 (N ++ (r.map Leg.acc).map pvI)))]) (bx2 p x))
  | [], pre, M, N, h, _, _ => by
    rw [List.append_nil] at h
    have e := l40o_2 p x hs M N x.legs.length not_lt_map
    rw [← h]
    simp only [List.map_nil, List.append_nil]
    exact e
  | y :: r, pre, M, N, h, hm, hn => by
    have hat : x.legs[pre.length]? = some y := by rw [h]; simp
    have hlen : x.legs.length = pre.length + r.length + 1 := by rw [h]; simp; omega
    have st := l40o_1 p x hs M N pre.length y (lt_map (by omega)) hat (by simp only [List.length_singleton]; omega) (by simp only [List.length_singleton]; omega)
    have hw : IntKind.wrap .i64 ((pre.length : Int) + 1) = (((pre ++ [y]).length : Nat) : Int) := by rw [wi64 (by omega) (by omega), List.length_append, List.length_singleton]; omega
    rw [hw] at st
    have ih := a40o (p := p) hs hl r (pre ++ [y]) (M ++ [PV.agg [PV.int .i64 y.cur, .int .i64 y.minor]]) (N ++ [PV.int .i64 y.acc]) (by rw [h]; simp) (by simp only [List.length_append, List.length_singleton]; omega) (by simp only [List.length_append, List.length_singleton]; omega)
    rw [List.append_assoc, List.append_assoc] at ih
    exact st.trans ih
theorem a40 {p x : Req} (hs : lsz x.so x.sz x.legs) (hl : x.legs.length ≤ 1000000) :
    (x.legs = [] ∧ lv (cv (ev X E0) xf40_l0) (rl [1, 1, 0, 0, 29, 0, 0]) 2 (S40 p x (CV.pv (PV.sl .full 2 [PV.agg [PV.int .i64 (Req.cur x), PV.int .i64 (Req.minor x)]])) (CV.pv (PV.sl .full 1 ((n4 x).map pvI))) 0) = some (XExit.exit 0, St.mk (tmOf 119 [(1, AV.c (CV.ptr 0 0)), (3, AV.c (CV.ptr 1 0)), (4, AV.c (CV.pv (PV.sl .full 2 ((mons x).map pvM)))), (5, AV.c (CV.pv (PV.sl .full 1 ((n4 x).map pvI))))]) (bx2 p x))) ∨
    lv (cv (ev X E0) xf40_l0) (rl [1, 1, 0, 0, 29, 0, 0]) 2 (S40 p x (CV.pv (PV.sl .full 2 [PV.agg [PV.int .i64 (Req.cur x), PV.int .i64 (Req.minor x)]])) (CV.pv (PV.sl .full 1 ((n4 x).map pvI))) 0) = some (XExit.exit 0, St.mk (tmOf 119 [(1, AV.c (CV.ptr 0 0)), (3, AV.c (CV.ptr 1 0)), (4, AV.c (CV.own 2943 2 ((mons x).map pvM))), (5, AV.c (CV.own 3263 1 ((n4 x ++ x.legs.map Leg.acc).map pvI)))]) (bx2 p x)) := by
  cases h : x.legs with
  | nil =>
    refine Or.inl ⟨rfl, ?_⟩
    have e := l40f_2 p x hs [PV.agg [PV.int .i64 (Req.cur x), PV.int .i64 (Req.minor x)]] ((n4 x).map pvI) 0 (by rw [h]; simp)
    have em : (mons x).map pvM = [PV.agg [PV.int .i64 (Req.cur x), PV.int .i64 (Req.minor x)]] := by unfold mons; rw [h]; rfl
    rw [em]
    exact e
  | cons y r =>
    refine Or.inr ?_
    have st := l40f_1 p x hs [PV.agg [PV.int .i64 (Req.cur x), PV.int .i64 (Req.minor x)]] ((n4 x).map pvI) 0 y (by rw [h]; simp) (by rw [h]; rfl) (by simp) (by simp only [List.length_map, List.length_singleton]; simp [n4])
    rw [show IntKind.wrap .i64 (((0 : Nat) : Int) + 1) = (([y].length : Nat) : Int) by rfl] at st
    have ih := a40o (p := p) hs hl r [y] ([PV.agg [PV.int .i64 (Req.cur x), PV.int .i64 (Req.minor x)]] ++ [PV.agg [PV.int .i64 y.cur, .int .i64 y.minor]]) ((n4 x).map pvI ++ [PV.int .i64 y.acc]) h (by simp) (by simp [n4])
    have em : (mons x).map pvM = [PV.agg [PV.int .i64 (Req.cur x), PV.int .i64 (Req.minor x)]] ++ [PV.agg [PV.int .i64 y.cur, .int .i64 y.minor]] ++ (r.map fun y => (y.cur, y.minor)).map pvM := by unfold mons; rw [h]; rfl
    have en : (n4 x ++ (y :: r).map Leg.acc).map pvI = (n4 x).map pvI ++ [PV.int .i64 y.acc] ++ (r.map Leg.acc).map pvI := by rw [List.map_append, List.map_cons, List.map_cons, List.append_assoc]; rfl
    rw [em, en]
    exact st.trans ih
theorem nums_eq (x : Req) : nums x = n4 x ++ x.legs.map Leg.acc ++ n5 x := rfl
theorem s40 (p : Req) (hs : lsz p.so p.sz p.legs) (hl : p.legs.length ≤ 900000) : cc (ev X E0) 40 [Req.av p] [] = some (.i (chk p), []) := by
  unfold chk
  by_cases k1 : p.kd < 0
  · rw [if_pos (Or.inl k1)]; exact f40x_1 p k1
  by_cases k2 : p.kd ≥ 11
  · rw [if_pos (Or.inr (by omega))]; exact f40x_2 p k1 k2
  rw [if_neg (by omega)]
  have h78 := s78 p (by omega) (by omega)
  have hxs := only_sz hs
  have hxl := only_len p
  have h42 := s42 (onlyR p) p hxs hs (by omega)
  generalize onlyR p = x at h78 hxs hxl h42 ⊢
  have hm : (mons x).length ≤ 1000000 := by simp only [mons, List.length_cons, List.length_map]; omega
  have hn : (nums x).length ≤ 1000000 := by simp only [nums, List.length_append, List.length_cons, List.length_nil, List.length_map]; omega
  have h80 := s80 (nums x) .shut hn
  rcases a40 (p := p) hxs (by omega) with ⟨he, hl⟩ | hl
  · have h79 := s79 (mons x) .full hm
    have en : (nums x).map pvI = (n4 x).map pvI ++ [PV.int .i64 (Req.racc x), PV.int .i64 (Req.rkind x), PV.int .i64 (Req.rcust x), PV.int .i64 (Req.rprod x), PV.int .i64 (Req.rpart x)] := by rw [nums_eq, he]; rfl
    rw [en] at h80
    have hg : (↑(List.length ((n4 x).map pvI) + List.length [PV.int .i64 (Req.racc x), PV.int .i64 (Req.rkind x), PV.int .i64 (Req.rcust x), PV.int .i64 (Req.rprod x), PV.int .i64 (Req.rpart x)]) : Int) * 8 ≤ 140737488355328 := by simp [n4]
    by_cases c3 : (↑(List.length p.cname) : Int) > 32
    · rw [if_pos (by rw [List.length_map] at *; omega)]; exact f40f_1 p x _ _ k1 k2 h78 hl _ _ _ h79 h80 h42 hg c3
    by_cases c4 : (↑(List.length p.memo) : Int) > 32
    · rw [if_pos (by rw [List.length_map] at *; omega)]; exact f40f_2 p x _ _ k1 k2 h78 hl _ _ _ h79 h80 h42 hg c3 c4
    by_cases c5 : (↑(List.length p.text) : Int) > 2000
    · rw [if_pos (by rw [List.length_map] at *; omega)]; exact f40f_3 p x _ _ k1 k2 h78 hl _ _ _ h79 h80 h42 hg c3 c4 c5
    by_cases c6 : (↑(List.length (List.map Leg.pv p.legs)) : Int) > 16
    · rw [if_pos (by rw [List.length_map] at *; omega)]; exact f40f_4 p x _ _ k1 k2 h78 hl _ _ _ h79 h80 h42 hg c3 c4 c5 c6
    rw [if_neg (by rw [List.length_map] at c6; omega)]
    by_cases c7 : x.rcur < 0
    · rw [if_pos (Or.inl (by unfold curOk; rw [decide_eq_false (by omega)]))]; exact f40f_5 p x _ _ k1 k2 h78 hl _ _ _ h79 h80 h42 hg c3 c4 c5 c6 c7
    by_cases c8 : x.rcur ≥ 4
    · rw [if_pos (Or.inl (by unfold curOk; rw [decide_eq_false (by omega)]))]; exact f40f_6 p x _ _ k1 k2 h78 hl _ _ _ h79 h80 h42 hg c3 c4 c5 c6 c7 c8
    by_cases c9 : amts (mons x) = 12
    · rw [if_pos (Or.inr c9)]; exact f40f_7 p x _ _ k1 k2 h78 hl _ _ _ h79 h80 h42 hg c3 c4 c5 c6 c7 c8 c9
    rw [if_neg (by rintro (h | h); (unfold curOk at h; rw [decide_eq_true (by omega)] at h; exact absurd h (by decide)); exact c9 h)]
    by_cases c10 : amts (mons x) = 0
    rotate_left
    · rw [if_pos (Or.inl c10)]; exact f40f_8 p x _ _ k1 k2 h78 hl _ _ _ h79 h80 h42 hg c3 c4 c5 c6 c7 c8 c9 c10
    cases c11 : (nums x).all n32 with
    | false => rw [if_pos (Or.inr rfl)]; exact f40f_9 p x _ _ k1 k2 h78 hl _ _ _ h79 h80 h42 hg c3 c4 c5 c6 c7 c8 c9 c10 c11
    | true =>
    rw [if_neg (by rintro (h | h); (exact h c10); exact absurd h (by decide))]
    cases c12 : sameB x p with
    | false => rw [if_pos rfl]; exact f40f_10 p x _ _ k1 k2 h78 hl _ _ _ h79 h80 h42 hg c3 c4 c5 c6 c7 c8 c9 c10 c11 c12
    | true => rw [if_neg (by decide)]; exact f40f_11 p x _ _ k1 k2 h78 hl _ _ _ h79 h80 h42 hg c3 c4 c5 c6 c7 c8 c9 c10 c11 c12
  · have h79 := s79 (mons x) .shut hm
    have en : (nums x).map pvI = (n4 x ++ x.legs.map Leg.acc).map pvI ++ [PV.int .i64 (Req.racc x), PV.int .i64 (Req.rkind x), PV.int .i64 (Req.rcust x), PV.int .i64 (Req.rprod x), PV.int .i64 (Req.rpart x)] := by rw [nums_eq, List.map_append]; rfl
    rw [en] at h80
    have hg : (↑(List.length ((n4 x ++ x.legs.map Leg.acc).map pvI) + List.length [PV.int .i64 (Req.racc x), PV.int .i64 (Req.rkind x), PV.int .i64 (Req.rcust x), PV.int .i64 (Req.rprod x), PV.int .i64 (Req.rpart x)]) : Int) * 8 ≤ 140737488355328 := by simp only [n4, List.length_append, List.length_map, List.length_cons, List.length_nil]; omega
    by_cases c3 : (↑(List.length p.cname) : Int) > 32
    · rw [if_pos (by rw [List.length_map] at *; omega)]; exact f40o_1 p x _ _ k1 k2 h78 hl _ _ _ h79 h80 h42 hg c3
    by_cases c4 : (↑(List.length p.memo) : Int) > 32
    · rw [if_pos (by rw [List.length_map] at *; omega)]; exact f40o_2 p x _ _ k1 k2 h78 hl _ _ _ h79 h80 h42 hg c3 c4
    by_cases c5 : (↑(List.length p.text) : Int) > 2000
    · rw [if_pos (by rw [List.length_map] at *; omega)]; exact f40o_3 p x _ _ k1 k2 h78 hl _ _ _ h79 h80 h42 hg c3 c4 c5
    by_cases c6 : (↑(List.length (List.map Leg.pv p.legs)) : Int) > 16
    · rw [if_pos (by rw [List.length_map] at *; omega)]; exact f40o_4 p x _ _ k1 k2 h78 hl _ _ _ h79 h80 h42 hg c3 c4 c5 c6
    rw [if_neg (by rw [List.length_map] at c6; omega)]
    by_cases c7 : x.rcur < 0
    · rw [if_pos (Or.inl (by unfold curOk; rw [decide_eq_false (by omega)]))]; exact f40o_5 p x _ _ k1 k2 h78 hl _ _ _ h79 h80 h42 hg c3 c4 c5 c6 c7
    by_cases c8 : x.rcur ≥ 4
    · rw [if_pos (Or.inl (by unfold curOk; rw [decide_eq_false (by omega)]))]; exact f40o_6 p x _ _ k1 k2 h78 hl _ _ _ h79 h80 h42 hg c3 c4 c5 c6 c7 c8
    by_cases c9 : amts (mons x) = 12
    · rw [if_pos (Or.inr c9)]; exact f40o_7 p x _ _ k1 k2 h78 hl _ _ _ h79 h80 h42 hg c3 c4 c5 c6 c7 c8 c9
    rw [if_neg (by rintro (h | h); (unfold curOk at h; rw [decide_eq_true (by omega)] at h; exact absurd h (by decide)); exact c9 h)]
    by_cases c10 : amts (mons x) = 0
    rotate_left
    · rw [if_pos (Or.inl c10)]; exact f40o_8 p x _ _ k1 k2 h78 hl _ _ _ h79 h80 h42 hg c3 c4 c5 c6 c7 c8 c9 c10
    cases c11 : (nums x).all n32 with
    | false => rw [if_pos (Or.inr rfl)]; exact f40o_9 p x _ _ k1 k2 h78 hl _ _ _ h79 h80 h42 hg c3 c4 c5 c6 c7 c8 c9 c10 c11
    | true =>
    rw [if_neg (by rintro (h | h); (exact h c10); exact absurd h (by decide))]
    cases c12 : sameB x p with
    | false => rw [if_pos rfl]; exact f40o_10 p x _ _ k1 k2 h78 hl _ _ _ h79 h80 h42 hg c3 c4 c5 c6 c7 c8 c9 c10 c11 c12
    | true => rw [if_neg (by decide)]; exact f40o_11 p x _ _ k1 k2 h78 hl _ _ _ h79 h80 h42 hg c3 c4 c5 c6 c7 c8 c9 c10 c11 c12
end Go.Sx.Tryd
/- The bytes of a request: how parts are written. -/
namespace Go.Sx.Tryd
open Go Go.Sx
def zzs : List Int → List UInt8
  | [] => []
  | n :: r => vb (zz n) ++ zzs r
abbrev Req.rc (p : Req) : List CV := [CV.pv (PV.int .i64 p.racc), CV.pv (PV.int .i64 p.rkind), CV.pv (PV.int .i64 p.rcur), CV.pv (PV.int .i64 p.rcust), CV.pv (PV.int .i64 p.rprod), CV.pv (PV.int .i64 p.rpart), CV.pv (PV.int .i32 p.rfrom), CV.pv (PV.int .i32 p.rto)]
abbrev B73 (d : Int) (p : Req) (g : Nat) (w : List UInt8) : List Box := [Box.cells (Req.csD d p), Box.cells [CV.ptr 2 0], Box.cells [CV.own g 1 (pvBytes w)]]
abbrev S73 (d part : Int) (p : Req) (l : List Int) (g : Nat) (w : List UInt8) (i : Int) : St := St.mk (tmOf 22 [(0, AV.c (CV.pv (PV.int .i64 part))), (2, AV.c (CV.ptr 0 0)), (3, AV.c (CV.ptr 1 0)), (8, AV.c (CV.pv (PV.sl .full 1 (List.map pvI l)))), (9, AV.c (CV.pv (PV.int .i64 (↑(List.length (List.map pvI l)) : Int)))), (10, AV.c (CV.pv (PV.int .i64 i)))]) (B73 d p g w)
theorem l73a_1 (d part : Int) (p : Req) (l : List Int) (w : List UInt8) (i : Nat) (b : Bool) (h : cc (ev X E0) 74 [AV.i d, AV.i part] [] = some (AV.b b, [])) (y1 : Int) (g1 : (↑i : Int) < (↑(List.length (List.map pvI l)) : Int)) (g2 : l[i]? = some y1) (g3 : b = true) (g4 : -9223372036854775808 ≤ y1) (g5 : y1 ≤ 9223372036854775807) (g6 : List.length w ≤ 1000000000) :
    lv (cv (ev X E0) xf73_l0) (rl [0, 1, 0, 4, 0, 0]) 3 (S73 d part p l 0 w (↑i : Int)) = lv (cv (ev X E0) xf73_l0) (rl [0, 1, 0, 4, 0, 0]) 3 (St.mk (tmOf 22 [(0, AV.c (vi part)), (2, AV.c (.ptr 0 0)), (3, AV.c (.ptr 1 0)), (8, AV.c (.pv (.sl SO.full 1 (List.map pvI l)))), (9, AV.c (vi (↑(List.length (List.map pvI l)) : Int))), (10, AV.c (vi (IntKind.wrap .i64 ((↑i : Int) + 1))))]) [.cells (Req.csD d p), .cells [.ptr 2 0], .cells [.own 1280 1 (pvBytes (w ++ vb (zz y1)))]]) :=
  lv_next [.br true, .el (.int .i64 y1), .call (AV.c (.pv (.bool b))) [], .br true, .call (AV.tup []) [.cells [.own 0 1 (pvBytes (w ++ vb (zz y1)))]]]
    (c := rq [(1, decide ((↑i : Int) < (↑(List.length (List.map pvI l)) : Int)) = true), (1, 0 ≤ (↑i : Int)), (1, (List.map pvI l)[i]? = some (PV.int .i64 y1)), ty h, (1, b = true), (1, cc (ev X E0) 75 [AV.c (.ptr 0 0), AV.c (vi y1)] [.cells [.own 0 1 (pvBytes w)]] = some (AV.tup [], [.cells [.own 0 1 (pvBytes (w ++ vb (zz y1)))]]))]) (by kernel_rfl)
    (aq ⟨(dT g1), (Int.natCast_nonneg _), (map_at g2), h, g3, (Zig_own _ _ g4 g5 g6), trivial⟩)
theorem l73a_2 (d part : Int) (p : Req) (l : List Int) (w : List UInt8) (i : Nat) (b : Bool) (h : cc (ev X E0) 74 [AV.i d, AV.i part] [] = some (AV.b b, [])) (y1 : Int) (g1 : (↑i : Int) < (↑(List.length (List.map pvI l)) : Int)) (g2 : l[i]? = some y1) (g3 : b = false) :
    lv (cv (ev X E0) xf73_l0) (rl [0, 1, 0, 4, 0, 0]) 3 (S73 d part p l 0 w (↑i : Int)) = lv (cv (ev X E0) xf73_l0) (rl [0, 1, 0, 4, 0, 0]) 3 (St.mk (tmOf 22 [(0, AV.c (vi part)), (2, AV.c (.ptr 0 0)), (3, AV.c (.ptr 1 0)), (8, AV.c (.pv (.sl SO.full 1 (List.map pvI l)))), (9, AV.c (vi (↑(List.length (List.map pvI l)) : Int))), (10, AV.c (vi (IntKind.wrap .i64 ((↑i : Int) + 1))))]) [.cells (Req.csD d p), .cells [.ptr 2 0], .cells [.own 0 1 (pvBytes w)]]) :=
  lv_next [.br true, .el (.int .i64 y1), .call (AV.c (.pv (.bool b))) [], .br false]
    (c := rq [(1, decide ((↑i : Int) < (↑(List.length (List.map pvI l)) : Int)) = true), (1, 0 ≤ (↑i : Int)), (1, (List.map pvI l)[i]? = some (PV.int .i64 y1)), ty h, (1, b = false)]) (by kernel_rfl)
    (aq ⟨(dT g1), (Int.natCast_nonneg _), (map_at g2), h, g3, trivial⟩)
theorem l73a_3 (d part : Int) (p : Req) (l : List Int) (w : List UInt8) (i : Nat) (b : Bool) (_h : cc (ev X E0) 74 [AV.i d, AV.i part] [] = some (AV.b b, [])) (g1 : ¬(↑i : Int) < (↑(List.length (List.map pvI l)) : Int)) :
    lv (cv (ev X E0) xf73_l0) (rl [0, 1, 0, 4, 0, 0]) 3 (S73 d part p l 0 w (↑i : Int)) = some (XExit.exit 0, St.mk (tmOf 22 []) [.cells (Req.csD d p), .cells [.ptr 2 0], .cells [.own 0 1 (pvBytes w)]]) :=
  lv_exit [.br false]
    (c := [decide ((↑i : Int) < (↑(List.length (List.map pvI l)) : Int)) = false]) (by kernel_rfl)
    ⟨(dF g1), trivial⟩
theorem l73_1 (d part : Int) (p : Req) (l : List Int) (w : List UInt8) (i : Nat) (b : Bool) (h : cc (ev X E0) 74 [AV.i d, AV.i part] [] = some (AV.b b, [])) (y1 : Int) (g1 : (↑i : Int) < (↑(List.length (List.map pvI l)) : Int)) (g2 : l[i]? = some y1) (g3 : b = true) (g4 : -9223372036854775808 ≤ y1) (g5 : y1 ≤ 9223372036854775807) (g6 : List.length w ≤ 1000000000) :
    lv (cv (ev X E0) xf73_l0) (rl [0, 1, 0, 4, 0, 0]) 3 (S73 d part p l 1280 w (↑i : Int)) = lv (cv (ev X E0) xf73_l0) (rl [0, 1, 0, 4, 0, 0]) 3 (St.mk (tmOf 22 [(0, AV.c (vi part)), (2, AV.c (.ptr 0 0)), (3, AV.c (.ptr 1 0)), (8, AV.c (.pv (.sl SO.full 1 (List.map pvI l)))), (9, AV.c (vi (↑(List.length (List.map pvI l)) : Int))), (10, AV.c (vi (IntKind.wrap .i64 ((↑i : Int) + 1))))]) [.cells (Req.csD d p), .cells [.ptr 2 0], .cells [.own 1280 1 (pvBytes (w ++ vb (zz y1)))]]) :=
  lv_next [.br true, .el (.int .i64 y1), .call (AV.c (.pv (.bool b))) [], .br true, .call (AV.tup []) [.cells [.own 0 1 (pvBytes (w ++ vb (zz y1)))]]]
    (c := rq [(1, decide ((↑i : Int) < (↑(List.length (List.map pvI l)) : Int)) = true), (1, 0 ≤ (↑i : Int)), (1, (List.map pvI l)[i]? = some (PV.int .i64 y1)), ty h, (1, b = true), (1, cc (ev X E0) 75 [AV.c (.ptr 0 0), AV.c (vi y1)] [.cells [.own 0 1 (pvBytes w)]] = some (AV.tup [], [.cells [.own 0 1 (pvBytes (w ++ vb (zz y1)))]]))]) (by kernel_rfl)
    (aq ⟨(dT g1), (Int.natCast_nonneg _), (map_at g2), h, g3, (Zig_own _ _ g4 g5 g6), trivial⟩)
theorem l73_3 (d part : Int) (p : Req) (l : List Int) (w : List UInt8) (i : Nat) (b : Bool) (_h : cc (ev X E0) 74 [AV.i d, AV.i part] [] = some (AV.b b, [])) (g1 : ¬(↑i : Int) < (↑(List.length (List.map pvI l)) : Int)) :
    lv (cv (ev X E0) xf73_l0) (rl [0, 1, 0, 4, 0, 0]) 3 (S73 d part p l 1280 w (↑i : Int)) = some (XExit.exit 0, St.mk (tmOf 22 []) [.cells (Req.csD d p), .cells [.ptr 2 0], .cells [.own 1280 1 (pvBytes w)]]) :=
  lv_exit [.br false]
    (c := [decide ((↑i : Int) < (↑(List.length (List.map pvI l)) : Int)) = false]) (by kernel_rfl)
    ⟨(dF g1), trivial⟩
theorem f73a_1 (d part : Int) (p : Req) (l : List Int) (w v : List UInt8) (h : lv (cv (ev X E0) xf73_l0) (rl [0, 1, 0, 4, 0, 0]) 3 (S73 d part p l 0 w 0) = some (XExit.exit 0, St.mk (tmOf 22 []) (B73 d p 0 v))) :
    cc (ev X E0) 73 [AV.c (vi part), AV.c (.pv (.sl SO.full 1 (List.map pvI l))), AV.c (.ptr 0 0), AV.c (.ptr 1 0)] [.cells (Req.csD d p), .cells [.ptr 2 0], .cells [.own 0 1 (pvBytes w)]] = some (AV.tup [], [.cells (Req.csD d p), .cells [.ptr 2 0], .cells [.own 0 1 (pvBytes v)]]) :=
  cc_path (x := xf73) rfl [.loop (XExit.exit 0) (St.mk (tmOf 22 []) [.cells (Req.csD d p), .cells [.ptr 2 0], .cells [.own 0 1 (pvBytes v)]])]
    (c := rq [ty h]) (by kernel_rfl)
    (aq ⟨h, trivial⟩)
theorem f73b_1 (d part : Int) (p : Req) (l : List Int) (w v : List UInt8) (h : lv (cv (ev X E0) xf73_l0) (rl [0, 1, 0, 4, 0, 0]) 3 (S73 d part p l 0 w 0) = some (XExit.exit 0, St.mk (tmOf 22 []) (B73 d p 1280 v))) :
    cc (ev X E0) 73 [AV.c (vi part), AV.c (.pv (.sl SO.full 1 (List.map pvI l))), AV.c (.ptr 0 0), AV.c (.ptr 1 0)] [.cells (Req.csD d p), .cells [.ptr 2 0], .cells [.own 0 1 (pvBytes w)]] = some (AV.tup [], [.cells (Req.csD d p), .cells [.ptr 2 0], .cells [.own 0 1 (pvBytes v)]]) :=
  cc_path (x := xf73) rfl [.loop (XExit.exit 0) (St.mk (tmOf 22 []) [.cells (Req.csD d p), .cells [.ptr 2 0], .cells [.own 1280 1 (pvBytes v)]])]
    (c := rq [ty h]) (by kernel_rfl)
    (aq ⟨h, trivial⟩)
end Go.Sx.Tryd
/- The bytes of a request, of the program and of the document: what is written. -/
namespace Go.Sx.Tryd
open Go Go.Sx
theorem zz_len {n : Int} (h : W64 n) : (vb (zz n)).length ≤ 10 := vb_len10 (zz_lt h.1 h.2)
theorem zzs_len : ∀ {l : List Int}, (∀ n ∈ l, W64 n) → (zzs l).length ≤ 10 * l.length
  | [], _ => by simp [zzs]
  | x :: r, h => by
    have := zz_len (h x (by simp))
    have ih := zzs_len (l := r) fun y hy => h y (by simp [hy])
    rw [zzs, List.length_append, List.length_cons]; omega
theorem wrap_next {pre : List Int} {y : Int} (h : pre.length ≤ 1000000000) : IntKind.wrap .i64 ((pre.length : Int) + 1) = (((pre ++ [y]).length : Nat) : Int) := by rw [wi64 (by omega) (by omega), List.length_append, List.length_singleton]; omega
theorem a73f {d part : Int} {p : Req} {l : List Int} {w : List UInt8} (h : cc (ev X E0) 74 [AV.i d, AV.i part] [] = some (.b false, [])) (hl : l.length ≤ 1000000) : ∀ (r pre : List Int), l = pre ++ r →
    lv (cv (ev X E0) xf73_l0) (rl [0, 1, 0, 4, 0, 0]) 3 (S73 d part p l 0 w (pre.length : Nat)) = some (XExit.exit 0, St.mk (tmOf 22 []) (B73 d p 0 w))
  | [], pre, e => by
    rw [List.append_nil] at e
    rw [← e]
    exact l73a_3 d part p l w l.length false h not_lt_map
  | y :: r, pre, e => by
    have hat : l[pre.length]? = some y := by rw [e]; simp
    have hlen : l.length = pre.length + r.length + 1 := by rw [e]; simp; omega
    have st := l73a_2 d part p l w pre.length false h y (lt_map (by omega)) hat rfl
    rw [wrap_next (y := y) (by omega)] at st
    exact st.trans (a73f h hl r (pre ++ [y]) (by rw [e]; simp))
theorem a73t {d part : Int} {p : Req} {l : List Int} (h : cc (ev X E0) 74 [AV.i d, AV.i part] [] = some (.b true, [])) (hl : l.length ≤ 1000000) (hn : ∀ n ∈ l, W64 n) : ∀ (r pre : List Int) (w : List UInt8), l = pre ++ r → w.length + 10 * r.length ≤ 1000000000 →
    lv (cv (ev X E0) xf73_l0) (rl [0, 1, 0, 4, 0, 0]) 3 (S73 d part p l 1280 w (pre.length : Nat)) = some (XExit.exit 0, St.mk (tmOf 22 []) (B73 d p 1280 (w ++ zzs r)))
  | [], pre, w, e, _ => by
    rw [List.append_nil] at e
    rw [← e, zzs, List.append_nil]
    exact l73_3 d part p l w l.length true h not_lt_map
  | y :: r, pre, w, e, hw => by
    have hat : l[pre.length]? = some y := by rw [e]; simp
    have hlen : l.length = pre.length + r.length + 1 := by rw [e]; simp; omega
    have hy := hn y (by rw [e]; simp)
    have hz := zz_len hy
    rw [List.length_cons] at hw
    have st := l73_1 d part p l w pre.length true h y (lt_map (by omega)) hat rfl hy.1 hy.2 (by omega)
    rw [wrap_next (y := y) (by omega)] at st
    have ih := a73t (p := p) h hl hn r (pre ++ [y]) (w ++ vb (zz y)) (by rw [e]; simp) (by rw [List.length_append]; omega)
    rw [List.append_assoc] at ih
    exact st.trans ih
theorem s73 (d part : Int) (p : Req) (l : List Int) (w : List UInt8) (h0 : 0 ≤ d) (h1 : d ≤ 10) (hn : ∀ n ∈ l, W64 n) (hw : w.length + 10 * l.length ≤ 1000000) :
    cc (ev X E0) 73 [AV.i part, AV.sl .full 1 (l.map pvI), AV.c (.ptr 0 0), AV.c (.ptr 1 0)] (B73 d p 0 w) = some (.tup [], B73 d p 0 (if hasB d part = true then w ++ zzs l else w)) := by
  have h := s74 d part h0 h1
  cases hb : hasB d part with
  | false =>
    rw [hb] at h
    simp only [Bool.false_eq_true, if_false]
    exact f73a_1 d part p l w w (a73f h (by omega) l [] rfl)
  | true =>
    rw [hb] at h
    simp only [if_true]
    cases l with
    | nil => rw [zzs, List.append_nil]; exact f73a_1 d part p [] w w (l73a_3 d part p [] w 0 true h (by simp))
    | cons y r =>
      have hy := hn y (by simp)
      have hz := zz_len hy
      rw [List.length_cons] at hw
      have st := l73a_1 d part p (y :: r) w 0 true h y (by simp) rfl rfl hy.1 hy.2 (by omega)
      rw [show IntKind.wrap .i64 (((0 : Nat) : Int) + 1) = (([y].length : Nat) : Int) by rfl] at st
      have ih := a73t (p := p) h (by rw [List.length_cons]; omega) hn r [y] (w ++ vb (zz y)) rfl (by rw [List.length_append]; omega)
      rw [List.append_assoc] at ih
      exact f73b_1 d part p (y :: r) w _ (st.trans ih)
theorem s73_1 (d part : Int) (p : Req) (n1 : Int) (w : List UInt8) (h0 : 0 ≤ d) (h1 : d ≤ 10) (hn : ∀ n ∈ [n1], W64 n) (hw : w.length ≤ 900000) :
    cc (ev X E0) 73 [AV.i part, AV.c (CV.pv (PV.sl .full 1 [PV.int .i64 n1])), AV.c (.ptr 0 0), AV.c (.ptr 1 0)] (B73 d p 0 w) = some (.tup [], B73 d p 0 (if hasB d part = true then w ++ zzs [n1] else w)) :=
  s73 d part p [n1] w h0 h1 hn (by simp only [List.length_cons, List.length_nil]; omega)
theorem s73_8 (d part : Int) (p : Req) (n1 n2 n3 n4 n5 n6 n7 n8 : Int) (w : List UInt8) (h0 : 0 ≤ d) (h1 : d ≤ 10) (hn : ∀ n ∈ [n1, n2, n3, n4, n5, n6, n7, n8], W64 n) (hw : w.length ≤ 900000) :
    cc (ev X E0) 73 [AV.i part, AV.c (CV.pv (PV.sl .full 1 [PV.int .i64 n1, PV.int .i64 n2, PV.int .i64 n3, PV.int .i64 n4, PV.int .i64 n5, PV.int .i64 n6, PV.int .i64 n7, PV.int .i64 n8])), AV.c (.ptr 0 0), AV.c (.ptr 1 0)] (B73 d p 0 w) = some (.tup [], B73 d p 0 (if hasB d part = true then w ++ zzs [n1, n2, n3, n4, n5, n6, n7, n8] else w)) :=
  s73 d part p [n1, n2, n3, n4, n5, n6, n7, n8] w h0 h1 hn (by simp only [List.length_cons, List.length_nil]; omega)
end Go.Sx.Tryd
