/- The debits of a posting. -/
import Derived.Test.YtdhefhnlagnkdaaDoorK3b
namespace Go.Sx.Tryd
open Go Go.Sx
theorem f89_1 (x : Leg) (cur : Int) (g1 : x.minor > 0) :
    cc (ev X E0) 89 [AV.agg (Leg.cs x), AV.c (.ptr 0 0)] [.cells [vi cur]] = some (AV.c (.pv (.bool (x.cur == cur))), [.cells [vi cur]]) :=
  cc_path (x := xf89) rfl [.br true, .br true, .br true, .br true, .br true, .br true]
    (c := [decide (x.minor > 0) = true, decide (x.minor > 0) = true, decide (x.minor > 0) = true, decide (x.minor > 0) = true, decide (x.minor > 0) = true, decide (x.minor > 0) = true]) (by kernel_rfl)
    ⟨(decide_eq_true g1), (decide_eq_true g1), (decide_eq_true g1), (decide_eq_true g1), (decide_eq_true g1), (decide_eq_true g1), trivial⟩
theorem f89_2 (x : Leg) (cur : Int) (g1 : ¬x.minor > 0) :
    cc (ev X E0) 89 [AV.agg (Leg.cs x), AV.c (.ptr 0 0)] [.cells [vi cur]] = some (AV.c (.pv (.bool false)), [.cells [vi cur]]) :=
  cc_path (x := xf89) rfl [.br false, .br false, .br false, .br false, .br false, .br false]
    (c := [decide (x.minor > 0) = false, decide (x.minor > 0) = false, decide (x.minor > 0) = false, decide (x.minor > 0) = false, decide (x.minor > 0) = false, decide (x.minor > 0) = false]) (by kernel_rfl)
    ⟨(decide_eq_false g1), (decide_eq_false g1), (decide_eq_false g1), (decide_eq_false g1), (decide_eq_false g1), (decide_eq_false g1), trivial⟩
def debW (cur : Int) (x : Leg) : Bool := decide (0 < x.minor) && x.cur == cur
theorem s89 (cur : Int) (x : Leg) : cc (ev X E0) 89 [Leg.av x, AV.c (.ptr 0 0)] [Box.cells [.pv (.int .i64 cur)]] = some (.b (debW cur x), [Box.cells [.pv (.int .i64 cur)]]) := by
  by_cases h : x.minor > 0
  · rw [f89_1 x cur h, debW, decide_eq_true (by omega), Bool.true_and]
  · rw [f89_2 x cur h, debW, decide_eq_false (by omega), Bool.false_and]
abbrev S87d (p : Post) (cur n i : Int) : St := St.mk (tmOf 32 [(1, AV.c (CV.fn 89 [0])), (7, AV.c (CV.pv (PV.int .i64 n))), (16, AV.c (CV.pv (PV.sl (Post.so p) 3 (List.map Leg.pv (Post.legs p))))), (17, AV.c (CV.pv (PV.int .i64 (↑(List.length (List.map Leg.pv (Post.legs p))) : Int)))), (18, AV.c (CV.pv (PV.int .i64 i)))]) [Box.cells [CV.pv (PV.int .i64 cur)], Box.cells (Post.cs p)]
theorem l87d_1 (p : Post) (cur : Int) (n : Int) (i : Nat) (y1 : Leg) (g1 : (↑i : Int) < (↑(List.length (List.map Leg.pv p.legs)) : Int)) (g2 : p.legs[i]? = some y1) (g3 : debW cur y1 = true) :
    lv (cv (ev X E0) xf87_l0) m87 2 (S87d p cur n (↑i : Int)) = lv (cv (ev X E0) xf87_l0) m87 2 (St.mk (tmOf 32 [(1, AV.c (.fn 89 [0])), (7, AV.c (vi (IntKind.wrap .i64 (n + y1.minor)))), (16, AV.c (.pv (.sl p.so 3 (List.map Leg.pv p.legs)))), (17, AV.c (vi (↑(List.length (List.map Leg.pv p.legs)) : Int))), (18, AV.c (vi (IntKind.wrap .i64 ((↑i : Int) + 1))))]) [.cells [vi cur], .cells (Post.cs p)]) :=
  lv_next [.br true, .el (Leg.pv y1), .call (AV.c (.pv (.bool (debW cur y1)))) [.cells [vi cur]], .br true]
    (c := [decide ((↑i : Int) < (↑(List.length (List.map Leg.pv p.legs)) : Int)) = true, 0 ≤ (↑i : Int), (List.map Leg.pv p.legs)[i]? = some (Leg.pv y1), cc (ev X E0) 89 [AV.agg (Leg.cs y1), AV.c (.ptr 0 0)] [.cells [vi cur]] = some (AV.c (.pv (.bool (debW cur y1))), [.cells [vi cur]]), debW cur y1 = true]) (by kernel_rfl)
    ⟨(decide_eq_true g1), (Int.natCast_nonneg _), (map_at g2), (s89 _ _), g3, trivial⟩
theorem l87d_2 (p : Post) (cur : Int) (n : Int) (i : Nat) (y1 : Leg) (g1 : (↑i : Int) < (↑(List.length (List.map Leg.pv p.legs)) : Int)) (g2 : p.legs[i]? = some y1) (g3 : debW cur y1 = false) :
    lv (cv (ev X E0) xf87_l0) m87 2 (S87d p cur n (↑i : Int)) = lv (cv (ev X E0) xf87_l0) m87 2 (St.mk (tmOf 32 [(1, AV.c (.fn 89 [0])), (7, AV.c (vi n)), (16, AV.c (.pv (.sl p.so 3 (List.map Leg.pv p.legs)))), (17, AV.c (vi (↑(List.length (List.map Leg.pv p.legs)) : Int))), (18, AV.c (vi (IntKind.wrap .i64 ((↑i : Int) + 1))))]) [.cells [vi cur], .cells (Post.cs p)]) :=
  lv_next [.br true, .el (Leg.pv y1), .call (AV.c (.pv (.bool (debW cur y1)))) [.cells [vi cur]], .br false]
    (c := [decide ((↑i : Int) < (↑(List.length (List.map Leg.pv p.legs)) : Int)) = true, 0 ≤ (↑i : Int), (List.map Leg.pv p.legs)[i]? = some (Leg.pv y1), cc (ev X E0) 89 [AV.agg (Leg.cs y1), AV.c (.ptr 0 0)] [.cells [vi cur]] = some (AV.c (.pv (.bool (debW cur y1))), [.cells [vi cur]]), debW cur y1 = false]) (by kernel_rfl)
    ⟨(decide_eq_true g1), (Int.natCast_nonneg _), (map_at g2), (s89 _ _), g3, trivial⟩
theorem l87d_3 (p : Post) (cur : Int) (n : Int) (i : Nat) (g1 : ¬(↑i : Int) < (↑(List.length (List.map Leg.pv p.legs)) : Int)) :
    lv (cv (ev X E0) xf87_l0) m87 2 (S87d p cur n (↑i : Int)) = some (XExit.exit 0, St.mk (tmOf 32 [(7, AV.c (vi n))]) [.cells [vi cur], .cells (Post.cs p)]) :=
  lv_exit [.br false]
    (c := [decide ((↑i : Int) < (↑(List.length (List.map Leg.pv p.legs)) : Int)) = false]) (by kernel_rfl)
    ⟨(decide_eq_false g1), trivial⟩
theorem al87d {p : Post} {cur : Int} (hl : p.legs.length ≤ 100) (hm : ∀ x ∈ p.legs, minOk x.minor = true) : ∀ (r pre : List Leg), p.legs = pre ++ r →
    lv (cv (ev X E0) xf87_l0) m87 2 (S87d p cur (sumIf (debW cur) pre) (pre.length : Nat)) = some (XExit.exit 0, St.mk (tmOf 32 [(7, AV.c (CV.pv (PV.int .i64 (sumIf (debW cur) p.legs))))]) [Box.cells [CV.pv (PV.int .i64 cur)], Box.cells (Post.cs p)])
  | [], pre, e => by
    rw [List.append_nil] at e
    rw [← e]
    exact l87d_3 p cur _ p.legs.length (by simp)
  | y :: r, pre, e => by
    have hlen : p.legs.length = pre.length + r.length + 1 := by rw [e]; simp; omega
    have hat : p.legs[pre.length]? = some y := by rw [e]; simp
    have hlt : ((pre.length : Nat) : Int) < (((p.legs.map Leg.pv).length : Nat) : Int) := by rw [List.length_map]; omega
    have hb := sumIf_bound (w := debW cur) (l := pre) fun x hx => hm x (by rw [e]; simp [hx])
    have hy := hm y (by rw [e]; simp)
    simp only [minOk, decide_eq_true_eq] at hy
    have ih := al87d (cur := cur) hl hm r (pre ++ [y]) (by rw [e]; simp)
    simp only [sumIf_append, List.length_append, List.length_singleton, Int.natCast_add, sumIf] at ih
    cases hw : debW cur y with
    | true =>
      have st := l87d_1 p cur (sumIf (debW cur) pre) pre.length y hlt hat hw
      rw [wi64 (by omega) (by omega), wi64 (by omega) (by omega)] at st
      simp [hw] at ih
      exact st.trans ih
    | false =>
      have st := l87d_2 p cur (sumIf (debW cur) pre) pre.length y hlt hat hw
      rw [wi64 (by omega) (by omega)] at st
      simp [hw] at ih
      exact st.trans ih
theorem f87d_1 (p : Post) (e : Int) (h : cc (ev X E0) 37 [Post.av p] [] = some (AV.i e, [])) (cur : Int) (hl : e = 0 → lv (cv (ev X E0) xf87_l0) m87 2 (S87d p cur 0 0) = some (XExit.exit 0, St.mk (tmOf 32 [(7, AV.c (vi (sumIf (debW cur) p.legs)))]) [.cells [vi cur], .cells (Post.cs p)])) (g1 : ¬e = 0) :
    cc (ev X E0) 87 [AV.agg (Post.cs p), AV.c (.fn 89 [0])] [.cells [vi cur]] = some (AV.tup [AV.c (vi 0), AV.c (vi e)], [.cells [vi cur]]) :=
  cc_path (x := xf87) rfl [.call (AV.c (vi e)) [], .br true]
    (c := [cc (ev X E0) 37 [AV.agg (Post.cs p)] [] = some (AV.c (vi e), []), (e != 0) = true]) (by kernel_rfl)
    ⟨(h), (bne_iff_ne.mpr g1), trivial⟩
theorem f87d_2 (p : Post) (e : Int) (h : cc (ev X E0) 37 [Post.av p] [] = some (AV.i e, [])) (cur : Int) (hl : e = 0 → lv (cv (ev X E0) xf87_l0) m87 2 (S87d p cur 0 0) = some (XExit.exit 0, St.mk (tmOf 32 [(7, AV.c (vi (sumIf (debW cur) p.legs)))]) [.cells [vi cur], .cells (Post.cs p)])) (g1 : e = 0) :
    cc (ev X E0) 87 [AV.agg (Post.cs p), AV.c (.fn 89 [0])] [.cells [vi cur]] = some (AV.tup [AV.c (vi (sumIf (debW cur) p.legs)), AV.c (vi 0)], [.cells [vi cur]]) :=
  cc_path (x := xf87) rfl [.call (AV.c (vi e)) [], .br false, .loop (XExit.exit 0) (St.mk (tmOf 32 [(7, AV.c (vi (sumIf (debW cur) p.legs)))]) [.cells [vi cur], .cells (Post.cs p)])]
    (c := [cc (ev X E0) 37 [AV.agg (Post.cs p)] [] = some (AV.c (vi e), []), (e != 0) = false, lv (cv (ev X E0) xf87_l0) (rl [1, 5, 8, 0, 0]) 2 (St.mk (tmOf 32 [(1, AV.c (.fn 89 [0])), (7, AV.c (vi 0)), (16, AV.c (.pv (.sl p.so 3 (List.map Leg.pv p.legs)))), (17, AV.c (vi (↑(List.length (List.map Leg.pv p.legs)) : Int))), (18, AV.c (vi 0))]) [.cells [vi cur], .cells (Post.cs p)]) = some (XExit.exit 0, St.mk (tmOf 32 [(7, AV.c (vi (sumIf (debW cur) p.legs)))]) [.cells [vi cur], .cells (Post.cs p)])]) (by kernel_rfl)
    ⟨(h), (bne_f g1), (hl g1), trivial⟩
theorem f41_1 (p : Post) (cur : Int) (n : Int) (e : Int) (h : cc (ev X E0) 87 [Post.av p, AV.c (.fn 89 [0])] [.cells [vi cur]] = some (AV.tup [AV.i n, AV.i e], [.cells [vi cur]])) :
    cc (ev X E0) 41 [AV.agg (Post.cs p), AV.c (vi cur)] [] = some (AV.tup [AV.c (vi n), AV.c (vi e)], []) :=
  cc_path (x := xf41) rfl [.call (AV.tup [AV.c (vi n), AV.c (vi e)]) [.cells [vi cur]]]
    (c := [cc (ev X E0) 87 [AV.agg (Post.cs p), AV.c (.fn 89 [0])] [.cells [vi cur]] = some (AV.tup [AV.c (vi n), AV.c (vi e)], [.cells [vi cur]])]) (by kernel_rfl)
    ⟨(h), trivial⟩
def debV (p : Post) (cur : Int) : Int := if chk p = 0 then sumIf (debW cur) p.legs else 0
theorem s41 (p : Post) (cur : Int) (hm : p.memo.length ≤ 1000000) (hl : p.legs.length ≤ 4000000000000000000) : cc (ev X E0) 41 [Post.av p, AV.i cur] [] = some (.tup [AV.i (debV p cur), AV.i (chk p)], []) := by
  have h := s37 p hm hl
  refine f41_1 p cur _ _ ?_
  unfold debV
  by_cases c : chk p = 0
  · rw [if_pos c]
    have hi := chk_inv c
    have := f87d_2 p _ h cur (fun _ => al87d (by omega) hi.2.2.2.2.2.2.2.1 p.legs [] rfl) c
    rw [c]; exact this
  · rw [if_neg c]
    exact f87d_1 p _ h cur (fun e => absurd e c) c
end Go.Sx.Tryd
