/- What is wrong with a request, of the program and of the document: the same. -/
import Derived.Test.YtplknajjcllmkaaDoorH7
import Derived.Test.YtplknajjcllmkaaDoorH8
namespace Go.Sx.Tryd
open Go Go.Sx
def n4 (x : Req) : List Int := [x.acc, x.id, x.cid, x.ckind]
def n5 (x : Req) : List Int := [x.racc, x.rkind, x.rcust, x.rprod, x.rpart]
def n9 (x : Req) : List Int := [x.acc, x.id, x.cid, x.ckind, x.racc, x.rkind, x.rcust, x.rprod, x.rpart]
theorem only_sz {p : Req} (h : lsz p.so p.sz p.legs) : lsz (onlyR p).so (onlyR p).sz (onlyR p).legs := by
  unfold onlyR
  cases hasB p.kd 64 with
  | true => exact h
  | false => rfl
theorem only_len (p : Req) : (onlyR p).legs.length ≤ p.legs.length := by
  unfold onlyR
  cases hasB p.kd 64 with
  | true => exact Nat.le_refl _
  | false => exact Nat.zero_le _
theorem a40o {p x : Req} (hs : lsz x.so x.sz x.legs) (hl : x.legs.length ≤ 1000000) : ∀ (r pre : List Leg) (M N : List PV), x.legs = pre ++ r → M.length ≤ pre.length + 1 → N.length ≤ pre.length + 9 →
    lv (cv (ev X E0) xf40_l0) (rl [1, 1, 0, 0, 29, 0, 0]) 2 (S40 p x (CV.own 2943 2 M) (CV.own 3263 1 N) (pre.length : Nat)) = some (XExit.exit 0, St.mk (tmOf 119 [(1, AV.c (CV.ptr 0 0)), (3, AV.c (CV.ptr 1 0)), (4, AV.c (CV.own 2943 2 (M ++ (r.map fun y => (y.cur, y.minor)).map pvM))), (5, AV.c (CV.own 3263 1 (N ++ (r.map Leg.acc).map pvI)))]) (bx2 p x))
  | [], pre, M, N, h, _, _ => by
    rw [List.append_nil] at h
    have e := l40o_2 p x hs M N x.legs.length not_lt_map
    rw [← h]
    simp only [List.map_nil, List.append_nil]
    exact e
  | y :: r, pre, M, N, h, hm, hn => by
    have hat : x.legs[pre.length]? = some y := by rw [h]; simp
    have hlen : x.legs.length = pre.length + r.length + 1 := by rw [h]; simp; omega
    have st := l40o_1 p x hs M N pre.length y (lt_map (by omega)) hat (by simp only [List.length_singleton]; omega) (by simp only [List.length_singleton]; omega)
    have hw : IntKind.wrap .i64 ((pre.length : Int) + 1) = (((pre ++ [y]).length : Nat) : Int) := by rw [wi64 (by omega) (by omega), List.length_append, List.length_singleton]; omega
    rw [hw] at st
    have ih := a40o (p := p) hs hl r (pre ++ [y]) (M ++ [PV.agg [PV.int .i64 y.cur, .int .i64 y.minor]]) (N ++ [PV.int .i64 y.acc]) (by rw [h]; simp) (by simp only [List.length_append, List.length_singleton]; omega) (by simp only [List.length_append, List.length_singleton]; omega)
    rw [List.append_assoc, List.append_assoc] at ih
    exact st.trans ih
theorem a40 {p x : Req} (hs : lsz x.so x.sz x.legs) (hl : x.legs.length ≤ 1000000) :
    (x.legs = [] ∧ lv (cv (ev X E0) xf40_l0) (rl [1, 1, 0, 0, 29, 0, 0]) 2 (S40 p x (CV.pv (PV.sl .full 2 [PV.agg [PV.int .i64 (Req.cur x), PV.int .i64 (Req.minor x)]])) (CV.pv (PV.sl .full 1 ((n4 x).map pvI))) 0) = some (XExit.exit 0, St.mk (tmOf 119 [(1, AV.c (CV.ptr 0 0)), (3, AV.c (CV.ptr 1 0)), (4, AV.c (CV.pv (PV.sl .full 2 ((mons x).map pvM)))), (5, AV.c (CV.pv (PV.sl .full 1 ((n4 x).map pvI))))]) (bx2 p x))) ∨
    lv (cv (ev X E0) xf40_l0) (rl [1, 1, 0, 0, 29, 0, 0]) 2 (S40 p x (CV.pv (PV.sl .full 2 [PV.agg [PV.int .i64 (Req.cur x), PV.int .i64 (Req.minor x)]])) (CV.pv (PV.sl .full 1 ((n4 x).map pvI))) 0) = some (XExit.exit 0, St.mk (tmOf 119 [(1, AV.c (CV.ptr 0 0)), (3, AV.c (CV.ptr 1 0)), (4, AV.c (CV.own 2943 2 ((mons x).map pvM))), (5, AV.c (CV.own 3263 1 ((n4 x ++ x.legs.map Leg.acc).map pvI)))]) (bx2 p x)) := by
  cases h : x.legs with
  | nil =>
    refine Or.inl ⟨rfl, ?_⟩
    have e := l40f_2 p x hs [PV.agg [PV.int .i64 (Req.cur x), PV.int .i64 (Req.minor x)]] ((n4 x).map pvI) 0 (by rw [h]; simp)
    have em : (mons x).map pvM = [PV.agg [PV.int .i64 (Req.cur x), PV.int .i64 (Req.minor x)]] := by unfold mons; rw [h]; rfl
    rw [em]
    exact e
  | cons y r =>
    refine Or.inr ?_
    have st := l40f_1 p x hs [PV.agg [PV.int .i64 (Req.cur x), PV.int .i64 (Req.minor x)]] ((n4 x).map pvI) 0 y (by rw [h]; simp) (by rw [h]; rfl) (by simp) (by simp only [List.length_map, List.length_singleton]; simp [n4])
    rw [show IntKind.wrap .i64 (((0 : Nat) : Int) + 1) = (([y].length : Nat) : Int) by rfl] at st
    have ih := a40o (p := p) hs hl r [y] ([PV.agg [PV.int .i64 (Req.cur x), PV.int .i64 (Req.minor x)]] ++ [PV.agg [PV.int .i64 y.cur, .int .i64 y.minor]]) ((n4 x).map pvI ++ [PV.int .i64 y.acc]) h (by simp) (by simp [n4])
    have em : (mons x).map pvM = [PV.agg [PV.int .i64 (Req.cur x), PV.int .i64 (Req.minor x)]] ++ [PV.agg [PV.int .i64 y.cur, .int .i64 y.minor]] ++ (r.map fun y => (y.cur, y.minor)).map pvM := by unfold mons; rw [h]; rfl
    have en : (n4 x ++ (y :: r).map Leg.acc).map pvI = (n4 x).map pvI ++ [PV.int .i64 y.acc] ++ (r.map Leg.acc).map pvI := by rw [List.map_append, List.map_cons, List.map_cons, List.append_assoc]; rfl
    rw [em, en]
    exact st.trans ih
theorem a37o {p x : Req} (hs : lsz x.so x.sz x.legs) (hl : x.legs.length ≤ 1000000) : ∀ (r pre : List Leg) (M N : List PV), x.legs = pre ++ r → M.length ≤ pre.length + 1 → N.length ≤ pre.length + 9 →
    lv (cv (ev X E0) xf37_l0) (rl [1, 1, 0, 0, 0]) 2 (S37a p x (CV.own 5631 2 M) (CV.own 6207 1 N) (pre.length : Nat)) = some (XExit.exit 0, St.mk (tmOf 163 [(1, AV.c (CV.ptr 0 0)), (3, AV.c (CV.ptr 1 0)), (4, AV.c (CV.own 5631 2 (M ++ (r.map fun y => (y.cur, y.minor)).map pvM))), (5, AV.c (CV.own 6207 1 (N ++ (r.map Leg.acc).map pvI)))]) (bx2 p x))
  | [], pre, M, N, h, _, _ => by
    rw [List.append_nil] at h
    have e := l37o_2 p x hs M N x.legs.length not_lt_map
    rw [← h]
    simp only [List.map_nil, List.append_nil]
    exact e
  | y :: r, pre, M, N, h, hm, hn => by
    have hat : x.legs[pre.length]? = some y := by rw [h]; simp
    have hlen : x.legs.length = pre.length + r.length + 1 := by rw [h]; simp; omega
    have st := l37o_1 p x hs M N pre.length y (lt_map (by omega)) hat (by simp only [List.length_singleton]; omega) (by simp only [List.length_singleton]; omega)
    have hw : IntKind.wrap .i64 ((pre.length : Int) + 1) = (((pre ++ [y]).length : Nat) : Int) := by rw [wi64 (by omega) (by omega), List.length_append, List.length_singleton]; omega
    rw [hw] at st
    have ih := a37o (p := p) hs hl r (pre ++ [y]) (M ++ [PV.agg [PV.int .i64 y.cur, .int .i64 y.minor]]) (N ++ [PV.int .i64 y.acc]) (by rw [h]; simp) (by simp only [List.length_append, List.length_singleton]; omega) (by simp only [List.length_append, List.length_singleton]; omega)
    rw [List.append_assoc, List.append_assoc] at ih
    exact st.trans ih
theorem a37 {p x : Req} (hs : lsz x.so x.sz x.legs) (hl : x.legs.length ≤ 1000000) :
    (x.legs = [] ∧ lv (cv (ev X E0) xf37_l0) (rl [1, 1, 0, 0, 0]) 2 (S37a p x (CV.pv (PV.sl .full 2 [PV.agg [PV.int .i64 (Req.cur x), PV.int .i64 (Req.minor x)]])) (CV.pv (PV.sl .full 1 ((n9 x).map pvI))) 0) = some (XExit.exit 0, St.mk (tmOf 163 [(1, AV.c (CV.ptr 0 0)), (3, AV.c (CV.ptr 1 0)), (4, AV.c (CV.pv (PV.sl .full 2 ((mons x).map pvM)))), (5, AV.c (CV.pv (PV.sl .full 1 ((n9 x).map pvI))))]) (bx2 p x))) ∨
    lv (cv (ev X E0) xf37_l0) (rl [1, 1, 0, 0, 0]) 2 (S37a p x (CV.pv (PV.sl .full 2 [PV.agg [PV.int .i64 (Req.cur x), PV.int .i64 (Req.minor x)]])) (CV.pv (PV.sl .full 1 ((n9 x).map pvI))) 0) = some (XExit.exit 0, St.mk (tmOf 163 [(1, AV.c (CV.ptr 0 0)), (3, AV.c (CV.ptr 1 0)), (4, AV.c (CV.own 5631 2 ((mons x).map pvM))), (5, AV.c (CV.own 6207 1 ((n9 x ++ x.legs.map Leg.acc).map pvI)))]) (bx2 p x)) := by
  cases h : x.legs with
  | nil =>
    refine Or.inl ⟨rfl, ?_⟩
    have e := l37f_2 p x hs [PV.agg [PV.int .i64 (Req.cur x), PV.int .i64 (Req.minor x)]] ((n9 x).map pvI) 0 (by rw [h]; simp)
    have em : (mons x).map pvM = [PV.agg [PV.int .i64 (Req.cur x), PV.int .i64 (Req.minor x)]] := by unfold mons; rw [h]; rfl
    rw [em]
    exact e
  | cons y r =>
    refine Or.inr ?_
    have st := l37f_1 p x hs [PV.agg [PV.int .i64 (Req.cur x), PV.int .i64 (Req.minor x)]] ((n9 x).map pvI) 0 y (by rw [h]; simp) (by rw [h]; rfl) (by simp) (by simp only [List.length_map, List.length_singleton]; simp [n9])
    rw [show IntKind.wrap .i64 (((0 : Nat) : Int) + 1) = (([y].length : Nat) : Int) by rfl] at st
    have ih := a37o (p := p) hs hl r [y] ([PV.agg [PV.int .i64 (Req.cur x), PV.int .i64 (Req.minor x)]] ++ [PV.agg [PV.int .i64 y.cur, .int .i64 y.minor]]) ((n9 x).map pvI ++ [PV.int .i64 y.acc]) h (by simp) (by simp [n9])
    have em : (mons x).map pvM = [PV.agg [PV.int .i64 (Req.cur x), PV.int .i64 (Req.minor x)]] ++ [PV.agg [PV.int .i64 y.cur, .int .i64 y.minor]] ++ (r.map fun y => (y.cur, y.minor)).map pvM := by unfold mons; rw [h]; rfl
    have en : (n9 x ++ (y :: r).map Leg.acc).map pvI = (n9 x).map pvI ++ [PV.int .i64 y.acc] ++ (r.map Leg.acc).map pvI := by rw [List.map_append, List.map_cons, List.map_cons, List.append_assoc]; rfl
    rw [em, en]
    exact st.trans ih
theorem nums_eq (x : Req) : nums x = n4 x ++ x.legs.map Leg.acc ++ n5 x := rfl
theorem all_nums (x : Req) : (n9 x ++ x.legs.map Leg.acc).all n32 = (nums x).all n32 := by
  have e : n9 x = n4 x ++ n5 x := rfl
  rw [nums_eq, e]
  simp only [List.all_append]
  cases (n4 x).all n32 <;> cases (n5 x).all n32 <;> cases (x.legs.map Leg.acc).all n32 <;> rfl
theorem s40 (p : Req) (hs : lsz p.so p.sz p.legs) (hl : p.legs.length ≤ 900000) : cc (ev X E0) 40 [Req.av p] [] = some (.i (chk p), []) := by
  unfold chk
  by_cases k1 : p.kd < 0
  · rw [if_pos (Or.inl k1)]; exact f40x_1 p k1
  by_cases k2 : p.kd ≥ 11
  · rw [if_pos (Or.inr (by omega))]; exact f40x_2 p k1 k2
  rw [if_neg (by omega)]
  have h78 := s78 p (by omega) (by omega)
  have hxs := only_sz hs
  have hxl := only_len p
  have h42 := s42 (onlyR p) p hxs hs (by omega)
  generalize onlyR p = x at h78 hxs hxl h42 ⊢
  have hm : (mons x).length ≤ 1000000 := by simp only [mons, List.length_cons, List.length_map]; omega
  have hn : (nums x).length ≤ 1000000 := by simp only [nums, List.length_append, List.length_cons, List.length_nil, List.length_map]; omega
  have h80 := s80 (nums x) .shut hn
  rcases a40 (p := p) hxs (by omega) with ⟨he, hl⟩ | hl
  · have h79 := s79 (mons x) .full hm
    have en : (nums x).map pvI = (n4 x).map pvI ++ [PV.int .i64 (Req.racc x), PV.int .i64 (Req.rkind x), PV.int .i64 (Req.rcust x), PV.int .i64 (Req.rprod x), PV.int .i64 (Req.rpart x)] := by rw [nums_eq, he]; rfl
    rw [en] at h80
    have hg : (↑(List.length ((n4 x).map pvI) + List.length [PV.int .i64 (Req.racc x), PV.int .i64 (Req.rkind x), PV.int .i64 (Req.rcust x), PV.int .i64 (Req.rprod x), PV.int .i64 (Req.rpart x)]) : Int) * 8 ≤ 140737488355328 := by simp [n4]
    by_cases c3 : (↑(List.length p.cname) : Int) > 32
    · rw [if_pos (by rw [List.length_map] at *; omega)]; exact f40f_1 p x _ _ k1 k2 h78 hl _ _ _ h79 h80 h42 hg c3
    by_cases c4 : (↑(List.length p.memo) : Int) > 32
    · rw [if_pos (by rw [List.length_map] at *; omega)]; exact f40f_2 p x _ _ k1 k2 h78 hl _ _ _ h79 h80 h42 hg c3 c4
    by_cases c5 : (↑(List.length p.text) : Int) > 2000
    · rw [if_pos (by rw [List.length_map] at *; omega)]; exact f40f_3 p x _ _ k1 k2 h78 hl _ _ _ h79 h80 h42 hg c3 c4 c5
    by_cases c6 : (↑(List.length (List.map Leg.pv p.legs)) : Int) > 16
    · rw [if_pos (by rw [List.length_map] at *; omega)]; exact f40f_4 p x _ _ k1 k2 h78 hl _ _ _ h79 h80 h42 hg c3 c4 c5 c6
    rw [if_neg (by rw [List.length_map] at c6; omega)]
    by_cases c7 : x.rcur < 0
    · rw [if_pos (Or.inl (by unfold curOk; rw [decide_eq_false (by omega)]))]; exact f40f_5 p x _ _ k1 k2 h78 hl _ _ _ h79 h80 h42 hg c3 c4 c5 c6 c7
    by_cases c8 : x.rcur ≥ 4
    · rw [if_pos (Or.inl (by unfold curOk; rw [decide_eq_false (by omega)]))]; exact f40f_6 p x _ _ k1 k2 h78 hl _ _ _ h79 h80 h42 hg c3 c4 c5 c6 c7 c8
    by_cases c9 : amts (mons x) = 12
    · rw [if_pos (Or.inr c9)]; exact f40f_7 p x _ _ k1 k2 h78 hl _ _ _ h79 h80 h42 hg c3 c4 c5 c6 c7 c8 c9
    rw [if_neg (by rintro (h | h); (unfold curOk at h; rw [decide_eq_true (by omega)] at h; exact absurd h (by decide)); exact c9 h)]
    by_cases c10 : amts (mons x) = 0
    rotate_left
    · rw [if_pos (Or.inl c10)]; exact f40f_8 p x _ _ k1 k2 h78 hl _ _ _ h79 h80 h42 hg c3 c4 c5 c6 c7 c8 c9 c10
    cases c11 : (nums x).all n32 with
    | false => rw [if_pos (Or.inr rfl)]; exact f40f_9 p x _ _ k1 k2 h78 hl _ _ _ h79 h80 h42 hg c3 c4 c5 c6 c7 c8 c9 c10 c11
    | true =>
    rw [if_neg (by rintro (h | h); (exact h c10); exact absurd h (by decide))]
    cases c12 : sameB x p with
    | false => rw [if_pos rfl]; exact f40f_10 p x _ _ k1 k2 h78 hl _ _ _ h79 h80 h42 hg c3 c4 c5 c6 c7 c8 c9 c10 c11 c12
    | true => rw [if_neg (by decide)]; exact f40f_11 p x _ _ k1 k2 h78 hl _ _ _ h79 h80 h42 hg c3 c4 c5 c6 c7 c8 c9 c10 c11 c12
  · have h79 := s79 (mons x) .shut hm
    have en : (nums x).map pvI = (n4 x ++ x.legs.map Leg.acc).map pvI ++ [PV.int .i64 (Req.racc x), PV.int .i64 (Req.rkind x), PV.int .i64 (Req.rcust x), PV.int .i64 (Req.rprod x), PV.int .i64 (Req.rpart x)] := by rw [nums_eq, List.map_append]; rfl
    rw [en] at h80
    have hg : (↑(List.length ((n4 x ++ x.legs.map Leg.acc).map pvI) + List.length [PV.int .i64 (Req.racc x), PV.int .i64 (Req.rkind x), PV.int .i64 (Req.rcust x), PV.int .i64 (Req.rprod x), PV.int .i64 (Req.rpart x)]) : Int) * 8 ≤ 140737488355328 := by simp only [n4, List.length_append, List.length_map, List.length_cons, List.length_nil]; omega
    by_cases c3 : (↑(List.length p.cname) : Int) > 32
    · rw [if_pos (by rw [List.length_map] at *; omega)]; exact f40o_1 p x _ _ k1 k2 h78 hl _ _ _ h79 h80 h42 hg c3
    by_cases c4 : (↑(List.length p.memo) : Int) > 32
    · rw [if_pos (by rw [List.length_map] at *; omega)]; exact f40o_2 p x _ _ k1 k2 h78 hl _ _ _ h79 h80 h42 hg c3 c4
    by_cases c5 : (↑(List.length p.text) : Int) > 2000
    · rw [if_pos (by rw [List.length_map] at *; omega)]; exact f40o_3 p x _ _ k1 k2 h78 hl _ _ _ h79 h80 h42 hg c3 c4 c5
    by_cases c6 : (↑(List.length (List.map Leg.pv p.legs)) : Int) > 16
    · rw [if_pos (by rw [List.length_map] at *; omega)]; exact f40o_4 p x _ _ k1 k2 h78 hl _ _ _ h79 h80 h42 hg c3 c4 c5 c6
    rw [if_neg (by rw [List.length_map] at c6; omega)]
    by_cases c7 : x.rcur < 0
    · rw [if_pos (Or.inl (by unfold curOk; rw [decide_eq_false (by omega)]))]; exact f40o_5 p x _ _ k1 k2 h78 hl _ _ _ h79 h80 h42 hg c3 c4 c5 c6 c7
    by_cases c8 : x.rcur ≥ 4
    · rw [if_pos (Or.inl (by unfold curOk; rw [decide_eq_false (by omega)]))]; exact f40o_6 p x _ _ k1 k2 h78 hl _ _ _ h79 h80 h42 hg c3 c4 c5 c6 c7 c8
    by_cases c9 : amts (mons x) = 12
    · rw [if_pos (Or.inr c9)]; exact f40o_7 p x _ _ k1 k2 h78 hl _ _ _ h79 h80 h42 hg c3 c4 c5 c6 c7 c8 c9
    rw [if_neg (by rintro (h | h); (unfold curOk at h; rw [decide_eq_true (by omega)] at h; exact absurd h (by decide)); exact c9 h)]
    by_cases c10 : amts (mons x) = 0
    rotate_left
    · rw [if_pos (Or.inl c10)]; exact f40o_8 p x _ _ k1 k2 h78 hl _ _ _ h79 h80 h42 hg c3 c4 c5 c6 c7 c8 c9 c10
    cases c11 : (nums x).all n32 with
    | false => rw [if_pos (Or.inr rfl)]; exact f40o_9 p x _ _ k1 k2 h78 hl _ _ _ h79 h80 h42 hg c3 c4 c5 c6 c7 c8 c9 c10 c11
    | true =>
    rw [if_neg (by rintro (h | h); (exact h c10); exact absurd h (by decide))]
    cases c12 : sameB x p with
    | false => rw [if_pos rfl]; exact f40o_10 p x _ _ k1 k2 h78 hl _ _ _ h79 h80 h42 hg c3 c4 c5 c6 c7 c8 c9 c10 c11 c12
    | true => rw [if_neg (by decide)]; exact f40o_11 p x _ _ k1 k2 h78 hl _ _ _ h79 h80 h42 hg c3 c4 c5 c6 c7 c8 c9 c10 c11 c12
theorem b37f {p x : Req} {l : List (Int × Int)} {N : List PV} (hl : l.length ≤ 1000000) : lv (cv (ev X E0) xf37_l1) (rl [1, 1, 0, 0, 1]) 2 (S37b p x (CV.pv (PV.sl .full 2 (l.map pvM))) (CV.pv (PV.sl .full 1 N)) 0) = some (if l.any (fun m => !curOk m.1) = true then (XExit.ret, St.mk (tmOf 163 [(2, AV.c (CV.pv (PV.int .i64 12)))]) (bx2 p x)) else (XExit.exit 2, St.mk (tmOf 163 [(1, AV.c (CV.ptr 0 0)), (3, AV.c (CV.ptr 1 0)), (4, AV.c (CV.pv (PV.sl .full 2 (l.map pvM)))), (5, AV.c (CV.pv (PV.sl .full 1 N)))]) (bx2 p x))) := by
  refine lv_scan (l := l) (S37b p x (CV.pv (PV.sl .full 2 (l.map pvM))) (CV.pv (PV.sl .full 1 N))) (l37bf_4 p x l N l.length not_lt_map) (fun i y hat hlt hw => ?_) fun i y hat hlt hw => ?_
  · have h := lt_map (f := pvM) hlt
    by_cases c : y.1 < 0
    · exact l37bf_1 p x l N i y h hat c
    · exact l37bf_2 p x l N i y h hat c (by simp only [curOk, Bool.not_eq_true', decide_eq_false_iff_not] at hw; omega)
  · have h := lt_map (f := pvM) hlt
    simp only [curOk, Bool.not_eq_false', decide_eq_true_eq] at hw
    have := l37bf_3 p x l N i y h hat (by omega) (by omega)
    rwa [wi64 (by omega) (by omega)] at this
theorem c37f {p x : Req} {l : List (Int × Int)} {N : List PV} (hl : l.length ≤ 1000000) : lv (cv (ev X E0) xf37_l2) (rl [1, 1, 0, 0, 2]) 2 (S37c p x (CV.pv (PV.sl .full 2 (l.map pvM))) (CV.pv (PV.sl .full 1 N)) 0) = some (if l.any (fun m => !minOk m.2) = true then (XExit.ret, St.mk (tmOf 163 [(2, AV.c (CV.pv (PV.int .i64 9)))]) (bx2 p x)) else (XExit.exit 4, St.mk (tmOf 163 [(1, AV.c (CV.ptr 0 0)), (3, AV.c (CV.ptr 1 0)), (5, AV.c (CV.pv (PV.sl .full 1 N)))]) (bx2 p x))) := by
  refine lv_scan (l := l) (S37c p x (CV.pv (PV.sl .full 2 (l.map pvM))) (CV.pv (PV.sl .full 1 N))) (l37cf_4 p x l N l.length not_lt_map) (fun i y hat hlt hw => ?_) fun i y hat hlt hw => ?_
  · have h := lt_map (f := pvM) hlt
    by_cases c : y.2 > 1000000000000000
    · exact l37cf_1 p x l N i y h hat c
    · exact l37cf_2 p x l N i y h hat c (by simp only [minOk, Bool.not_eq_true', decide_eq_false_iff_not] at hw; omega)
  · have h := lt_map (f := pvM) hlt
    simp only [minOk, Bool.not_eq_false', decide_eq_true_eq] at hw
    have := l37cf_3 p x l N i y h hat (by omega) (by omega)
    rwa [wi64 (by omega) (by omega)] at this
theorem d37f {p x : Req} {l : List Int} (hl : l.length ≤ 1000000) : lv (cv (ev X E0) xf37_l3) (rl [1, 1, 1, 3]) 2 (S37d p x (CV.pv (PV.sl .full 1 (l.map pvI))) 0) = some (if l.any (fun m => !n32 m) = true then (XExit.ret, St.mk (tmOf 163 [(2, AV.c (CV.pv (PV.int .i64 9)))]) (bx2 p x)) else (XExit.exit 6, St.mk (tmOf 163 [(1, AV.c (CV.ptr 0 0)), (3, AV.c (CV.ptr 1 0))]) (bx2 p x))) := by
  refine lv_scan (l := l) (S37d p x (CV.pv (PV.sl .full 1 (l.map pvI)))) (l37df_3 p x l l.length not_lt_map) (fun i y hat hlt hw => ?_) fun i y hat hlt hw => ?_
  · exact l37df_1 p x l i y (lt_map (f := pvI) hlt) hat (by simpa using hw)
  · have := l37df_2 p x l i y (lt_map (f := pvI) hlt) hat (by simpa using hw)
    rwa [wi64 (by omega) (by omega)] at this
theorem b37o {p x : Req} {l : List (Int × Int)} {N : List PV} (hl : l.length ≤ 1000000) : lv (cv (ev X E0) xf37_l1) (rl [1, 1, 0, 0, 1]) 2 (S37b p x (CV.own 5631 2 (l.map pvM)) (CV.own 6207 1 N) 0) = some (if l.any (fun m => !curOk m.1) = true then (XExit.ret, St.mk (tmOf 163 [(2, AV.c (CV.pv (PV.int .i64 12)))]) (bx2 p x)) else (XExit.exit 2, St.mk (tmOf 163 [(1, AV.c (CV.ptr 0 0)), (3, AV.c (CV.ptr 1 0)), (4, AV.c (CV.own 5631 2 (l.map pvM))), (5, AV.c (CV.own 6207 1 N))]) (bx2 p x))) := by
  refine lv_scan (l := l) (S37b p x (CV.own 5631 2 (l.map pvM)) (CV.own 6207 1 N)) (l37bo_4 p x l N l.length not_lt_map) (fun i y hat hlt hw => ?_) fun i y hat hlt hw => ?_
  · have h := lt_map (f := pvM) hlt
    by_cases c : y.1 < 0
    · exact l37bo_1 p x l N i y h hat c
    · exact l37bo_2 p x l N i y h hat c (by simp only [curOk, Bool.not_eq_true', decide_eq_false_iff_not] at hw; omega)
  · have h := lt_map (f := pvM) hlt
    simp only [curOk, Bool.not_eq_false', decide_eq_true_eq] at hw
    have := l37bo_3 p x l N i y h hat (by omega) (by omega)
    rwa [wi64 (by omega) (by omega)] at this
theorem c37o {p x : Req} {l : List (Int × Int)} {N : List PV} (hl : l.length ≤ 1000000) : lv (cv (ev X E0) xf37_l2) (rl [1, 1, 0, 0, 2]) 2 (S37c p x (CV.own 5631 2 (l.map pvM)) (CV.own 6207 1 N) 0) = some (if l.any (fun m => !minOk m.2) = true then (XExit.ret, St.mk (tmOf 163 [(2, AV.c (CV.pv (PV.int .i64 9)))]) (bx2 p x)) else (XExit.exit 4, St.mk (tmOf 163 [(1, AV.c (CV.ptr 0 0)), (3, AV.c (CV.ptr 1 0)), (5, AV.c (CV.own 6207 1 N))]) (bx2 p x))) := by
  refine lv_scan (l := l) (S37c p x (CV.own 5631 2 (l.map pvM)) (CV.own 6207 1 N)) (l37co_4 p x l N l.length not_lt_map) (fun i y hat hlt hw => ?_) fun i y hat hlt hw => ?_
  · have h := lt_map (f := pvM) hlt
    by_cases c : y.2 > 1000000000000000
    · exact l37co_1 p x l N i y h hat c
    · exact l37co_2 p x l N i y h hat c (by simp only [minOk, Bool.not_eq_true', decide_eq_false_iff_not] at hw; omega)
  · have h := lt_map (f := pvM) hlt
    simp only [minOk, Bool.not_eq_false', decide_eq_true_eq] at hw
    have := l37co_3 p x l N i y h hat (by omega) (by omega)
    rwa [wi64 (by omega) (by omega)] at this
theorem d37o {p x : Req} {l : List Int} (hl : l.length ≤ 1000000) : lv (cv (ev X E0) xf37_l3) (rl [1, 1, 1, 3]) 2 (S37d p x (CV.own 6207 1 (l.map pvI)) 0) = some (if l.any (fun m => !n32 m) = true then (XExit.ret, St.mk (tmOf 163 [(2, AV.c (CV.pv (PV.int .i64 9)))]) (bx2 p x)) else (XExit.exit 6, St.mk (tmOf 163 [(1, AV.c (CV.ptr 0 0)), (3, AV.c (CV.ptr 1 0))]) (bx2 p x))) := by
  refine lv_scan (l := l) (S37d p x (CV.own 6207 1 (l.map pvI))) (l37do_3 p x l l.length not_lt_map) (fun i y hat hlt hw => ?_) fun i y hat hlt hw => ?_
  · exact l37do_1 p x l i y (lt_map (f := pvI) hlt) hat (by simpa using hw)
  · have := l37do_2 p x l i y (lt_map (f := pvI) hlt) hat (by simpa using hw)
    rwa [wi64 (by omega) (by omega)] at this
theorem any_all {α : Type} {w : α → Bool} (l : List α) : l.any (fun m => !w m) = !l.all w := by
  induction l with
  | nil => rfl
  | cons x l ih => rw [List.any_cons, List.all_cons, ih, Bool.not_and]
theorem s37 (p : Req) (hs : lsz p.so p.sz p.legs) (hl : p.legs.length ≤ 900000) : cc (ev X E0) 37 [Req.av p] [] = some (.i (chk p), []) := by
  unfold chk
  by_cases k1 : p.kd < 0
  · rw [if_pos (Or.inl k1)]; exact f37x_1 p k1
  by_cases k2 : p.kd > 10
  · rw [if_pos (Or.inr (by omega))]; exact f37x_2 p k1 k2
  rw [if_neg (by omega)]
  by_cases c3 : (↑(List.length p.cname) : Int) > 32
  · rw [if_pos (by omega)]; exact f37x_3 p k1 k2 c3
  by_cases c4 : (↑(List.length p.memo) : Int) > 32
  · rw [if_pos (by omega)]; exact f37x_4 p k1 k2 c3 c4
  by_cases c5 : (↑(List.length p.text) : Int) > 2000
  · rw [if_pos (by omega)]; exact f37x_5 p k1 k2 c3 c4 c5
  by_cases c6 : (↑(List.length (List.map Leg.pv p.legs)) : Int) > 16
  · rw [if_pos (by rw [List.length_map] at c6; omega)]; exact f37x_6 p k1 k2 c3 c4 c5 c6
  rw [if_neg (by rw [List.length_map] at c6; omega)]
  have h71 := s71 p (by omega) (by omega)
  have hxs := only_sz hs
  have hxl := only_len p
  have h43 := s43 (onlyR p) p hxs hs (by omega)
  generalize onlyR p = x at h71 hxs hxl h43 ⊢
  have hm : (mons x).length ≤ 1000000 := by simp only [mons, List.length_cons, List.length_map]; omega
  have hn : (n9 x ++ x.legs.map Leg.acc).length ≤ 1000000 := by simp only [n9, List.length_append, List.length_cons, List.length_nil, List.length_map]; omega
  rcases a37 (p := p) hxs (by omega) with ⟨he, ha⟩ | ha
  · have hb := b37f (p := p) (x := x) (N := (n9 x).map pvI) hm
    have hc := c37f (p := p) (x := x) (N := (n9 x).map pvI) hm
    have hd := d37f (p := p) (x := x) (l := (n9 x)) (by simp [n9])
    rw [any_all] at hb hc hd
    rw [show (n9 x).all n32 = (nums x).all n32 by rw [← all_nums, he, List.map_nil, List.append_nil]] at hd
    by_cases c7 : x.rcur < 0
    · rw [if_pos (Or.inl (by unfold curOk; rw [decide_eq_false (by omega)]))]; exact f37fa_1 p x _ _ k1 k2 c3 c4 c5 c6 h71 ha c7
    by_cases c8 : x.rcur > 3
    · rw [if_pos (Or.inl (by unfold curOk; rw [decide_eq_false (by omega)]))]; exact f37fa_2 p x _ _ k1 k2 c3 c4 c5 c6 h71 ha c7 c8
    have hcu : ¬ curOk x.rcur = false := by unfold curOk; rw [decide_eq_true (by omega)]; decide
    cases c9 : (mons x).all (fun m => curOk m.1) with
    | false =>
      rw [c9, if_pos (by decide)] at hb
      rw [if_pos (Or.inr (by unfold amts; rw [c9, if_pos rfl]))]
      exact f37fb_1 p x _ _ k1 k2 c3 c4 c5 c6 h71 ha c7 c8 hb
    | true =>
    rw [c9, if_neg (by decide)] at hb
    cases c10 : (mons x).all (fun m => minOk m.2) with
    | false =>
      have ea : amts (mons x) = 9 := by unfold amts; rw [if_neg (by rw [c9]; decide), if_pos c10]
      rw [c10, if_pos (by decide)] at hc
      rw [ea, if_neg (by rintro (h | h); (exact hcu h); exact absurd h (by decide)), if_pos (Or.inl (by decide))]
      exact f37fc_1 p x _ _ k1 k2 c3 c4 c5 c6 h71 ha c7 c8 hb hc
    | true =>
    have ea : amts (mons x) = 0 := by unfold amts; rw [if_neg (by rw [c9]; decide), if_neg (by rw [c10]; decide)]
    rw [c10, if_neg (by decide)] at hc
    rw [ea, if_neg (by rintro (h | h); (exact hcu h); exact absurd h (by decide))]
    cases c11 : (nums x).all n32 with
    | false =>
      rw [c11, if_pos (by decide)] at hd
      rw [if_pos (Or.inr rfl)]
      exact f37fd_1 p x _ _ k1 k2 c3 c4 c5 c6 h71 ha c7 c8 hb hc hd
    | true =>
    rw [c11, if_neg (by decide)] at hd
    rw [if_neg (by rintro (h | h); (exact h rfl); exact absurd h (by decide))]
    cases c12 : sameB x p with
    | false => rw [if_pos rfl]; exact f37fe_1 p x _ _ k1 k2 c3 c4 c5 c6 h71 ha c7 c8 hb hc hd _ h43 c12
    | true => rw [if_neg (by decide)]; exact f37fe_2 p x _ _ k1 k2 c3 c4 c5 c6 h71 ha c7 c8 hb hc hd _ h43 c12
  · have hb := b37o (p := p) (x := x) (N := (n9 x ++ x.legs.map Leg.acc).map pvI) hm
    have hc := c37o (p := p) (x := x) (N := (n9 x ++ x.legs.map Leg.acc).map pvI) hm
    have hd := d37o (p := p) (x := x) (l := (n9 x ++ x.legs.map Leg.acc)) (hn)
    rw [any_all] at hb hc hd
    rw [all_nums] at hd
    by_cases c7 : x.rcur < 0
    · rw [if_pos (Or.inl (by unfold curOk; rw [decide_eq_false (by omega)]))]; exact f37oa_1 p x _ _ k1 k2 c3 c4 c5 c6 h71 ha c7
    by_cases c8 : x.rcur > 3
    · rw [if_pos (Or.inl (by unfold curOk; rw [decide_eq_false (by omega)]))]; exact f37oa_2 p x _ _ k1 k2 c3 c4 c5 c6 h71 ha c7 c8
    have hcu : ¬ curOk x.rcur = false := by unfold curOk; rw [decide_eq_true (by omega)]; decide
    cases c9 : (mons x).all (fun m => curOk m.1) with
    | false =>
      rw [c9, if_pos (by decide)] at hb
      rw [if_pos (Or.inr (by unfold amts; rw [c9, if_pos rfl]))]
      exact f37ob_1 p x _ _ k1 k2 c3 c4 c5 c6 h71 ha c7 c8 hb
    | true =>
    rw [c9, if_neg (by decide)] at hb
    cases c10 : (mons x).all (fun m => minOk m.2) with
    | false =>
      have ea : amts (mons x) = 9 := by unfold amts; rw [if_neg (by rw [c9]; decide), if_pos c10]
      rw [c10, if_pos (by decide)] at hc
      rw [ea, if_neg (by rintro (h | h); (exact hcu h); exact absurd h (by decide)), if_pos (Or.inl (by decide))]
      exact f37oc_1 p x _ _ k1 k2 c3 c4 c5 c6 h71 ha c7 c8 hb hc
    | true =>
    have ea : amts (mons x) = 0 := by unfold amts; rw [if_neg (by rw [c9]; decide), if_neg (by rw [c10]; decide)]
    rw [c10, if_neg (by decide)] at hc
    rw [ea, if_neg (by rintro (h | h); (exact hcu h); exact absurd h (by decide))]
    cases c11 : (nums x).all n32 with
    | false =>
      rw [c11, if_pos (by decide)] at hd
      rw [if_pos (Or.inr rfl)]
      exact f37od_1 p x _ _ k1 k2 c3 c4 c5 c6 h71 ha c7 c8 hb hc hd
    | true =>
    rw [c11, if_neg (by decide)] at hd
    rw [if_neg (by rintro (h | h); (exact h rfl); exact absurd h (by decide))]
    cases c12 : sameB x p with
    | false => rw [if_pos rfl]; exact f37oe_1 p x _ _ k1 k2 c3 c4 c5 c6 h71 ha c7 c8 hb hc hd _ h43 c12
    | true => rw [if_neg (by decide)]; exact f37oe_2 p x _ _ k1 k2 c3 c4 c5 c6 h71 ha c7 c8 hb hc hd _ h43 c12
end Go.Sx.Tryd
