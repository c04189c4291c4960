/- The statement TopReversed, of the evaluator. -/
import Derived.Test.YtggopflifieoiaaDoorY12
namespace Go.Sx.Tryd
open Go Go.Sx
theorem total_append (a b : List Int) : total (a ++ b) = total a + total b := by
  induction a with
  | nil => simp [total]
  | cons x a ih => simp only [List.cons_append, total, ih]; omega
theorem total_bound : ∀ {l : List Int}, (∀ x ∈ l, -100000000000000 ≤ x ∧ x ≤ 100000000000000) → -(100000000000000 * (l.length : Int)) ≤ total l ∧ total l ≤ 100000000000000 * (l.length : Int)
  | [], _ => by simp [total]
  | x :: l, h => by
    have := total_bound (l := l) fun y hy => h y (by simp [hy])
    have hx := h x (by simp)
    simp only [total, List.length_cons, Int.natCast_add, Int.natCast_one]
    omega
theorem ya10 {l : List Int} (hl : l.length ≤ 16) (hb : ∀ x ∈ l, -100000000000000 ≤ x ∧ x ≤ 100000000000000) : ∀ (r pre : List Int), l = pre ++ r →
    lv (cv (ev X E0) xf10_l0) (rl [0, 3, 2, 0, 0]) 0 (YS10 l (total pre) (pre.length : Nat)) = some (XExit.exit 0, St.mk (tmOf 32 [(0, AV.c (CV.pv (PV.sl .shut 1 (List.map i64P l)))), (4, AV.c (CV.pv (PV.int .i64 (total l))))]) [])
  | [], pre, e => by
    rw [List.append_nil] at e
    subst e
    exact yl10_4 l _ l.length (by simp)
  | y :: r, pre, e => by
    have hlen : l.length = pre.length + r.length + 1 := by rw [e]; simp; omega
    have hat : l[pre.length]? = some y := by rw [e]; simp
    have hlt : (pre.length : Int) < (((l.map i64P).length : Nat) : Int) := by rw [List.length_map]; omega
    have hy := hb y (by rw [e]; simp)
    have hp := total_bound (l := pre) fun x hx => hb x (by rw [e]; simp [hx])
    have st := yl10_3 l (total pre) pre.length y hlt hat (by omega) (by omega)
    rw [wi64 (n := (pre.length : Int) + 1) (by omega) (by omega), wi64 (by omega) (by omega)] at st
    have ih := ya10 hl hb r (pre ++ [y]) (by rw [e]; simp)
    rw [List.length_append, List.length_singleton, Int.natCast_add, Int.natCast_one, total_append] at ih
    simp only [total, Int.add_zero] at ih
    exact st.trans ih
theorem ys10 {net : List Int} (hl : net.length = 16) (ht : total net = 0) (hb : ∀ i, -100000000000000 ≤ at0 net i ∧ at0 net i ≤ 100000000000000) :
    ∃ ts : List Tr, (∀ i, at0 net i = flow ts i) ∧ (∀ x ∈ ts, x.Ok) ∧ ts.length ≤ 16 ∧
    (cc (ev X E0) 10 [netI net] [] = some (.tup [AV.c (CV.pv (PV.sl .shut 3 (List.map Tr.pv ts))), .i 0], []) ∨ ts = [] ∧ cc (ev X E0) 10 [netI net] [] = some (.tup [AV.c (CV.pv (PV.sl .nil 0 [])), .i 0], [])) := by
  have hm : ∀ x ∈ net, -100000000000000 ≤ x ∧ x ≤ 100000000000000 := at0_mem fun i _ => hb i
  have a := ya10 (by omega) hm net [] rfl
  rw [ht] at a
  have len : (((net.map i64P).length : Nat) : Int) = 16 := by rw [List.length_map, hl]; rfl
  obtain ⟨c, ts, hc, h35, h1, h2, h3⟩ := ys35 hl ht hb
  refine ⟨ts, h1, h2, h3, ?_⟩
  rcases hc with ⟨rfl, rfl⟩ | rfl
  · exact .inr ⟨rfl, yg10n_3 net 0 a h35 len rfl⟩
  · exact .inl (yg10o_3 net 0 ts a h35 len rfl)
theorem ys16z {acc cur k v : Int} (hk : datOk k = true) (hv : datOk v = true) : cc (ev X E0) 16 [AV.sl .nil 0 [], AV.i acc, AV.i cur, AV.int .i32 k, AV.int .i32 v] [] = some (.tup [.i 0, .i 0], []) := by
  have d1 : cc (ev X E0) 93 [AV.int .i32 v] [] = some (.b false, []) := by rw [yg93_1 v, hv]; rfl
  have d2 : cc (ev X E0) 93 [AV.int .i32 k] [] = some (.b false, []) := by rw [yg93_1 k, hk]; rfl
  have h44 := yg44z_1 k v d1 (yg94_1 k (yg125_1 k ((yl125a_1 k d2).trans (yl125b_1 k)))) (by omega)
  exact yg16y_1 acc cur k v h44 (yg45z_1 acc cur (yl45z_1 acc cur)) (yg46z_1 k v (yl46z_1 k v))
theorem ts_small {cur : Int} {ts : List Tr} (ho : ∀ t ∈ ts, t.Ok) : ∀ p ∈ tsB cur ts ++ rvL cur ts ts.length, p.legs.length = 2 ∧ ∀ x ∈ p.legs, -100000000000000 ≤ x.minor ∧ x.minor ≤ 100000000000000 := by
  have one : ∀ p ∈ tsB cur ts, p.legs.length = 2 ∧ ∀ x ∈ p.legs, -100000000000000 ≤ x.minor ∧ x.minor ≤ 100000000000000 := by
    intro p hp
    obtain ⟨i, hi⟩ := List.mem_iff_getElem?.1 hp
    have hl : i < ts.length := by rw [← tsB_len cur ts]; exact (List.getElem?_eq_some_iff.1 hi).1
    have hat := List.getElem?_eq_getElem hl
    rw [tsB_at hat] at hi
    cases hi
    have h := ho _ (List.getElem_mem hl)
    have := h.lo; have := h.hi
    refine ⟨rfl, fun x hx => ?_⟩
    simp only [payP, List.mem_cons, List.not_mem_nil, or_false] at hx
    rcases hx with rfl | rfl <;> simp only <;> omega
  intro p hp
  rcases List.mem_append.1 hp with hp | hp
  · exact one p hp
  · obtain ⟨i, hi⟩ := List.mem_iff_getElem?.1 hp
    simp only [rvL, List.getElem?_mapIdx] at hi
    obtain ⟨q, hq, rfl⟩ := Option.map_eq_some_iff.1 hi
    have hq' : q ∈ tsB cur ts := List.mem_of_mem_take (List.mem_of_getElem? hq)
    obtain ⟨h1, h2⟩ := one q hq'
    refine ⟨by simp [rvp, h1], fun x hx => ?_⟩
    simp only [rvp, List.mem_map] at hx
    obtain ⟨y, hy, rfl⟩ := hx
    have := h2 y hy
    simp only [neg]; omega
theorem settle_all {cur : Int} (hc : 0 ≤ cur) (hc4 : cur < 4) (kn va k v : Int) (hk : datOk k = true) (hv : datOk v = true) {net : List Int} (hl : net.length = 16) (ht : total net = 0) (hb : ∀ i, -100000000000000 ≤ at0 net i ∧ at0 net i ≤ 100000000000000) :
    ∃ (to : SO) (tz : Nat) (ts : List Tr) (o o' : SO) (s s' : Nat) (b b' : List Post),
    cc (ev X E0) 10 [netI net] [] = some (.tup [AV.c (CV.pv (PV.sl to tz (List.map Tr.pv ts))), .i 0], []) ∧
    lv (cv (ev X E0) xf3_l0) (rl [1, 0, 0, 5, 0, 3, 52, 0, 0]) 1 (YS30 cur kn va net .nil 0 [] to tz ts 0) = some (XExit.exit 0, St.mk (tmOf 186 [(1, AV.c (vi cur)), (2, AV.c (vi kn)), (3, AV.c (vi va)), (9, AV.c (CV.pv (PV.int .i32 5))), (10, AV.c (CV.pv (PV.sl .shut 1 (List.map i64P net)))), (14, AV.c (CV.ptr 0 0))]) [Box.cells [CV.pv (PV.sl o s (List.map Post.pv b))]]) ∧
    lv (cv (ev X E0) xf3_l1) (rl [1, 0, 0, 5, 0, 3, 81, 0]) 1 (YS31 cur kn va net o s b (↑(List.length (List.map Post.pv b)) : Int) 0) = some (XExit.exit 2, St.mk (tmOf 186 [(1, AV.c (vi cur)), (2, AV.c (vi kn)), (3, AV.c (vi va)), (9, AV.c (CV.pv (PV.int .i32 5))), (10, AV.c (CV.pv (PV.sl .shut 1 (List.map i64P net)))), (14, AV.c (CV.ptr 0 0))]) [Box.cells [CV.pv (PV.sl o' s' (List.map Post.pv b'))]]) ∧
    lv (cv (ev X E0) xf3_l2) (rl [1, 7, 4, 10, 0, 106, 0, 0]) 1 (YS32 cur k v net o' s' b' 0) = some (XExit.exit 4, St.mk (tmOf 186 [(14, AV.c (CV.ptr 0 0))]) [Box.cells [CV.pv (PV.sl o' s' (List.map Post.pv b'))]]) ∧
    cs (ev X E0) 17 [Bk o' s' b'] = some (.tup [.c (CV.pv (PV.sl .nil 0 [])), .i 0]) := by
  obtain ⟨ts, h1, h2, h3, h10⟩ := ys10 hl ht hb
  by_cases hts : ts = []
  · subst hts
    have hx : ∃ (to : SO) (tz : Nat), cc (ev X E0) 10 [netI net] [] = some (.tup [AV.c (CV.pv (PV.sl to tz (List.map Tr.pv []))), .i 0], []) := by
      rcases h10 with h | ⟨_, h⟩
      · exact ⟨_, _, h⟩
      · exact ⟨_, _, h⟩
    obtain ⟨to, tz, h⟩ := hx
    exact ⟨to, tz, [], .nil, .nil, 0, 0, [], [], h, yl30x_1 cur kn va net .nil 0 [] to tz [] 0 (by simp), yl31x_1 cur kn va net .nil 0 [] 0 0 (by simp),
      ya32 (o := .nil) (s := 0) (b := []) hl (fun i _ => ⟨0, ys16z hk hv, by rw [h1 i]; simp [flow]⟩) 16 0 rfl,
      ys24 rfl (fun _ => rfl) (by simp) (by simp) rfl (by simp)⟩
  · have h10 : cc (ev X E0) 10 [netI net] [] = some (.tup [AV.c (CV.pv (PV.sl .shut 3 (List.map Tr.pv ts))), .i 0], []) := by
      rcases h10 with h | ⟨h, _⟩
      · exact h
      · exact absurd h hts
    have hne : (tsB cur ts).isEmpty = false := by
      cases ts with
      | nil => exact absurd rfl hts
      | cons t r => simp [tsB]
    have e1 : bo (tsB cur ts) = .shut := by unfold bo; rw [hne]; rfl
    have e2 : bz (tsB cur ts) = 7 := by unfold bz; rw [hne]; rfl
    have h30 := ya30 hc hc4 kn va net h2 (by omega) ts [] rfl
    rw [e1, e2] at h30
    have h31 := ya31 hc hc4 kn va net h2 (by omega) ts.length 0 (by omega)
    have h0 : tsB cur ts ++ rvL cur ts 0 = tsB cur ts := by simp [rvL]
    rw [h0] at h31
    have hlen : (tsB cur ts ++ rvL cur ts ts.length).length = ts.length + ts.length := by rw [List.length_append, tsB_len, rvL_len (by omega)]
    have hR := rv_right hc hc4 (by omega) h2 ts.length (Nat.le_refl _)
    have hsm := ts_small (cur := cur) h2
    refine ⟨.shut, 3, ts, .shut, .shut, 7, 7, tsB cur ts, tsB cur ts ++ rvL cur ts ts.length, h10, h30, ?_, ?_, ?_⟩
    · rw [List.length_map, tsB_len]; exact h31
    · refine ya32 hl (fun i _ => ⟨_, ys16 (by omega) (fun p hp => ⟨by have := (hsm p hp).1; omega, fun x hx => by have := (hsm p hp).2 x hx; omega⟩) ?_ hk hv, ?_⟩) 16 0 rfl
      · have := great_book (m := 100000000000000) (by omega) ((i : Int) + 1) cur (tsB cur ts ++ rvL cur ts ts.length) hsm
        rw [hlen] at this
        omega
      · rw [bal_all, h1 i]
    · exact ys24 rfl (fun h => by cases h) (by omega) rv_nice hR (none_stands cur ts)
theorem take_cut (l : List Cl) : cut100 l = (l.take 100).map Cl.pv := by
  unfold cut100
  rw [← List.map_take, List.length_map]
  congr 1
  split
  · rfl
  · rw [show Int.toNat ((l.length : Nat) : Int) = l.length by omega, List.take_of_length_le (Nat.le_refl _), List.take_of_length_le (by omega)]
theorem ys8 {l : List Cl} (o : SO) (hl : l.length ≤ 100) (cur : Int) : (∃ e, ¬ e = 0 ∧ cc (ev X E0) 8 [AV.sl o 6 (l.map Cl.pv), AV.i cur, AV.int .i32 5] [] = some (.tup [AV.c nilC, .i e], [])) ∨
    (∃ net, cc (ev X E0) 8 [AV.sl o 6 (l.map Cl.pv), AV.i cur, AV.int .i32 5] [] = some (.tup [netI net, .i 0], []) ∧ 0 ≤ cur ∧ cur < 4 ∧ net.length = 16 ∧ total net = 0 ∧ ∀ i, -100000000000000 ≤ at0 net i ∧ at0 net i ≤ 100000000000000) := by
  obtain ⟨e, h33, he⟩ := ys33 (l := l) o hl cur 5
  by_cases c : e = 0
  · obtain ⟨g1, g2⟩ := he c
    have ok : ∀ x ∈ l, x.Ok := fun x hx => (clOk_inv (g1 x hx)).1
    simp only [curOk, decide_eq_true_eq] at g2
    refine .inr ⟨l.foldl (netS cur 5) n0, ?_, g2.1, g2.2, net_facts hl ok⟩
    exact yg8_2 l o cur 5 _ e h33 (fun _ => ys34 o hl ok) c
  · exact .inl ⟨e, c, yg8_1 l o cur 5 [] e h33 (fun h => absurd h c) c⟩
abbrev ctC : List CT := [.int .i64, .int .i64, .int .i64, .int .i64, .int .i64, .int .i32]
theorem cl_inv {e : PV} (h1 : e.cells.length = 6) (h2 : e = .agg e.cells) (h3 : ∀ (i : Nat) (c : CT) (p : PV), ctC[i]? = some c → e.cells[i]? = some p → WT c p) : ∃ x : Cl, True ∧ e = x.pv := by
  match hc : e.cells, h1 with
  | [a, b, c, d, f, g], _ =>
    rw [hc] at h2 h3
    obtain ⟨n0, _, _, rfl⟩ := i64_inv (h3 0 _ a rfl rfl)
    obtain ⟨n1, _, _, rfl⟩ := i64_inv (h3 1 _ b rfl rfl)
    obtain ⟨n2, _, _, rfl⟩ := i64_inv (h3 2 _ c rfl rfl)
    obtain ⟨n3, _, _, rfl⟩ := i64_inv (h3 3 _ d rfl rfl)
    obtain ⟨n4, _, _, rfl⟩ := i64_inv (h3 4 _ f rfl rfl)
    obtain ⟨n5, _, _, rfl⟩ := i32_inv (h3 5 _ g rfl rfl)
    exact ⟨⟨n0, n1, n2, n3, n4, n5⟩, trivial, h2⟩
theorem aliveC : cc (ev X E0) 9 [] [] = some (.b true, []) := by
  show (ev X E0 9 [] []).bind canon = _
  rw [CaliveA.aliveA]
  rfl
theorem TopReversed (x0 : PV) (t0 : WT (.sl ctC) x0) (x1 : PV) (t1 : WT (.int .i64) x1) (x2 : PV) (t2 : WT (.int .i64) x2) (x3 : PV) (t3 : WT (.int .i64) x3) : ev X E0 3 [.c (.pv x0), .c (.pv x1), .c (.pv x2), .c (.pv x3)] [] = some (.b true, []) := by
  obtain ⟨cur, _, _, rfl⟩ := i64_inv t1
  obtain ⟨kn, _, _, rfl⟩ := i64_inv t2
  obtain ⟨va, _, _, rfl⟩ := i64_inv t3
  have r1 := rest_in kn (n := 30) (by omega) (by omega)
  have r2 := rest_in va (n := 12) (by omega) (by omega)
  have h15 := yg15_1 kn 30 (by decide)
  have h16 := yg15_1 va 12 (by decide)
  have w1 : IntKind.wrap .i32 (Int.tmod (IntKind.wrap .i64 (Int.tmod kn 30 + 30)) 30) = Int.tmod (IntKind.wrap .i64 (Int.tmod kn 30 + 30)) 30 := w32 r1.1 (by omega)
  have w2 : IntKind.wrap .i32 (Int.tmod (IntKind.wrap .i64 (Int.tmod va 12 + 12)) 12) = Int.tmod (IntKind.wrap .i64 (Int.tmod va 12 + 12)) 12 := w32 r2.1 (by omega)
  have dk : datOk (Int.tmod (IntKind.wrap .i64 (Int.tmod kn 30 + 30)) 30) = true := by simp only [datOk, decide_eq_true_eq]; omega
  have dv : datOk (Int.tmod (IntKind.wrap .i64 (Int.tmod va 12 + 12)) 12) = true := by simp only [datOk, decide_eq_true_eq]; omega
  rcases sl_inv t0 with rfl | ⟨es, rfl, _, hs, hc⟩
  · rcases ys8 (l := []) .nil (by simp) cur with ⟨e, he, h8⟩ | ⟨net, h8, c0, c4, n1, n2, n3⟩
    · exact ev_cc (yg3na_1 cur kn va e he h8 aliveC)
    · obtain ⟨to, tz, ts, o1, o2, s1, s2, b1, b2, g1, g2, g3, g4, g5⟩ := settle_all c0 c4 kn va _ _ dk dv n1 n2 n3
      exact ev_cc (yg3nb_1 cur kn va _ _ net to tz ts o1 o2 s1 s2 b1 b2 h8 (by rw [List.length_map, n1]; rfl) g1 g2 g3 h15 h16 (by rw [w1, w2]; exact g4) g5 aliveC)
  · obtain ⟨l, _, rfl⟩ := list_of (f := Cl.pv) (Q := fun _ => True) fun e he => cl_inv (hs e he).1 ((hs e he).2.2 (by simp)) (hc e he)
    have q1 : (0 : Int) ≤ if 100 < (↑(List.length (List.map Cl.pv l)) : Int) then 100 else (↑(List.length (List.map Cl.pv l)) : Int) := by split <;> omega
    have q2 : (if 100 < (↑(List.length (List.map Cl.pv l)) : Int) then 100 else (↑(List.length (List.map Cl.pv l)) : Int)) ≤ (↑(List.length (List.map Cl.pv l)) : Int) := by split <;> omega
    have tc := take_cut l
    rcases ys8 (l := l.take 100) .shut (by rw [List.length_take]; omega) cur with ⟨e, he, h8⟩ | ⟨net, h8, c0, c4, n1, n2, n3⟩
    · rw [← tc] at h8
      exact ev_cc (yg3a_1 l .shut cur kn va e he h8 aliveC rfl q1 q2)
    · rw [← tc] at h8
      obtain ⟨to, tz, ts, o1, o2, s1, s2, b1, b2, g1, g2, g3, g4, g5⟩ := settle_all c0 c4 kn va _ _ dk dv n1 n2 n3
      exact ev_cc (yg3b_1 l .shut cur kn va _ _ net to tz ts o1 o2 s1 s2 b1 b2 h8 (by rw [List.length_map, n1]; rfl) g1 g2 g3 h15 h16 (by rw [w1, w2]; exact g4) g5 aliveC rfl q1 q2)
end Go.Sx.Tryd
