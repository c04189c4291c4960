/- Sameness, of the document. -/
import Derived.Test.YtplknajjcllmkaaDoorN1
import Derived.Test.YtplknajjcllmkaaDoorN2
namespace Go.Sx.Tryd
open Go Go.Sx
abbrev S44s (p q : Post) (i : Int) : St := St.mk (tmOf 71 [(2, AV.c (CV.ptr 0 0)), (3, AV.c (CV.ptr 1 0)), (5, AV.c (CV.pv (PV.int .i64 i)))]) [Box.cells (Post.cs p), Box.cells (Post.cs q)]
theorem l44_1 (p q : Post) (i : Nat) (y1 y2 : Leg) (g1 : (↑i : Int) < (↑(List.length (List.map Leg.pv p.legs)) : Int)) (g2 : p.legs[i]? = some y1) (g3 : q.legs[i]? = some y2) (g4 : (y1.acc == y2.acc && (y1.cur == y2.cur && (y1.minor == y2.minor && true))) = false) :
    lv (cv (ev X E0) xf65_l0) (rl [2, 0, 1]) 2 (S44s p q (↑i : Int)) = some (XExit.ret, St.mk (tmOf 71 [(4, AV.b false)]) [.cells (Post.cs p), .cells (Post.cs q)]) :=
  lv_ret [.br true, .el (Leg.pv y1), .el (Leg.pv y2), .br true]
    (c := [decide ((↑i : Int) < (↑(List.length (List.map Leg.pv p.legs)) : Int)) = true, 0 ≤ (↑i : Int), (List.map Leg.pv p.legs)[i]? = some (Leg.pv y1), 0 ≤ (↑i : Int), (List.map Leg.pv q.legs)[i]? = some (Leg.pv y2), (!(y1.acc == y2.acc && (y1.cur == y2.cur && (y1.minor == y2.minor && true)))) = true]) (by kernel_rfl)
    ⟨(dT g1), (Int.natCast_nonneg _), (map_at g2), (Int.natCast_nonneg _), (map_at g3), (not_t g4), trivial⟩
theorem l44_2 (p q : Post) (i : Nat) (y1 y2 : Leg) (g1 : (↑i : Int) < (↑(List.length (List.map Leg.pv p.legs)) : Int)) (g2 : p.legs[i]? = some y1) (g3 : q.legs[i]? = some y2) (g4 : y1.acc = y2.acc ∧ y1.cur = y2.cur ∧ y1.minor = y2.minor ∧ true = true) :
    lv (cv (ev X E0) xf65_l0) (rl [2, 0, 1]) 2 (S44s p q (↑i : Int)) = lv (cv (ev X E0) xf65_l0) (rl [2, 0, 1]) 2 (St.mk (tmOf 71 [(2, AV.c (.ptr 0 0)), (3, AV.c (.ptr 1 0)), (5, AV.c (vi (IntKind.wrap .i64 ((↑i : Int) + 1))))]) [.cells (Post.cs p), .cells (Post.cs q)]) :=
  lv_next [.br true, .el (Leg.pv y1), .el (Leg.pv y2), .br false]
    (c := [decide ((↑i : Int) < (↑(List.length (List.map Leg.pv p.legs)) : Int)) = true, 0 ≤ (↑i : Int), (List.map Leg.pv p.legs)[i]? = some (Leg.pv y1), 0 ≤ (↑i : Int), (List.map Leg.pv q.legs)[i]? = some (Leg.pv y2), (!(y1.acc == y2.acc && (y1.cur == y2.cur && (y1.minor == y2.minor && true)))) = false]) (by kernel_rfl)
    ⟨(dT g1), (Int.natCast_nonneg _), (map_at g2), (Int.natCast_nonneg _), (map_at g3), (not_f (and_t (beq_iff_eq.mpr (And.left g4)) (and_t (beq_iff_eq.mpr (And.left (And.right g4))) (and_t (beq_iff_eq.mpr (And.left (And.right (And.right g4)))) (And.right (And.right (And.right g4))))))), trivial⟩
theorem l44_3 (p q : Post) (i : Nat) (g1 : ¬(↑i : Int) < (↑(List.length (List.map Leg.pv p.legs)) : Int)) :
    lv (cv (ev X E0) xf65_l0) (rl [2, 0, 1]) 2 (S44s p q (↑i : Int)) = some (XExit.exit 0, St.mk (tmOf 71 [(2, AV.c (.ptr 0 0)), (3, AV.c (.ptr 1 0))]) [.cells (Post.cs p), .cells (Post.cs q)]) :=
  lv_exit [.br false]
    (c := [decide ((↑i : Int) < (↑(List.length (List.map Leg.pv p.legs)) : Int)) = false]) (by kernel_rfl)
    ⟨(dF g1), trivial⟩
theorem a44 {p q : Post} (hl : p.legs.length ≤ 1000000) (he : p.legs.length = q.legs.length) : lv (cv (ev X E0) xf65_l0) (rl [2, 0, 1]) 2 (S44s p q 0) = some (if ((p.legs.zip q.legs).any fun q => !legEq q.1 q.2) = true then (XExit.ret, St.mk (tmOf 71 [(4, AV.c (CV.pv (PV.bool false)))]) [Box.cells (Post.cs p), Box.cells (Post.cs q)]) else (XExit.exit 0, St.mk (tmOf 71 [(2, AV.c (CV.ptr 0 0)), (3, AV.c (CV.ptr 1 0))]) [Box.cells (Post.cs p), Box.cells (Post.cs q)])) := by
  have hz : (p.legs.zip q.legs).length = p.legs.length := by rw [List.length_zip]; omega
  refine lv_scan (l := p.legs.zip q.legs) (S44s p q) (by rw [hz]; exact l44_3 p q p.legs.length (by simp)) (fun i y hat hlt hw => ?_) fun i y hat hlt hw => ?_
  · obtain ⟨h1, h2⟩ := zip_at hat
    exact l44_1 p q i y.1 y.2 (lt_len (by omega)) h1 h2 (by simpa only [legEq, Bool.not_eq_true'] using hw)
  · obtain ⟨h1, h2⟩ := zip_at hat
    have h := legEq_iff.1 (by simpa using hw)
    have := l44_2 p q i y.1 y.2 (lt_len (by omega)) h1 h2 ⟨by rw [h], by rw [h], by rw [h], rfl⟩
    rwa [wi64 (by omega) (by omega)] at this
theorem f44n_1 (p q : Post) (hne : ¬(↑(List.length (List.map Leg.pv p.legs)) : Int) = (↑(List.length (List.map Leg.pv q.legs)) : Int)) :
    cc (ev X E0) 65 [AV.agg (Post.cs p), AV.agg (Post.cs q)] [] = some (AV.b false, []) :=
  cc_path (x := xf65) rfl [.br true]
    (c := [((↑(List.length (List.map Leg.pv p.legs)) : Int) != (↑(List.length (List.map Leg.pv q.legs)) : Int)) = true]) (by kernel_rfl)
    ⟨(bne_iff_ne.mpr hne), trivial⟩
abbrev f44a_h (p q : Post) : Prop := lv (cv (ev X E0) xf65_l0) (rl [2, 0, 1]) 2 (S44s p q 0) = some (XExit.exit 0, St.mk (tmOf 71 [(2, AV.c (.ptr 0 0)), (3, AV.c (.ptr 1 0))]) [.cells (Post.cs p), .cells (Post.cs q)])
theorem f44a_2 (p q : Post) (h : f44a_h p q) (g1 : (↑(List.length (List.map Leg.pv p.legs)) : Int) = (↑(List.length (List.map Leg.pv q.legs)) : Int)) (g2 : p.id = q.id) (g3 : p.known = q.known) (g4 : p.value = q.value) (g5 : p.rev = q.rev) (g6 : p.kind = q.kind) :
    cc (ev X E0) 65 [AV.agg (Post.cs p), AV.agg (Post.cs q)] [] = some (AV.c (.pv (.bool (p.memo == q.memo))), []) :=
  cc_path (x := xf65) rfl ([.br false, .loop (XExit.exit 0) (St.mk (tmOf 71 [(2, AV.c (.ptr 0 0)), (3, AV.c (.ptr 1 0))]) [.cells (Post.cs p), .cells (Post.cs q)])] ++ bs 30 true)
    (c := rq [(1, ((↑(List.length (List.map Leg.pv p.legs)) : Int) != (↑(List.length (List.map Leg.pv q.legs)) : Int)) = false), ty h, (6, (p.id == q.id) = true), (6, (p.known == q.known) = true), (6, (p.value == q.value) = true), (6, (p.rev == q.rev) = true), (6, (p.kind == q.kind) = true)]) (by kernel_rfl)
    (aq ⟨(bne_f g1), h, (beq_iff_eq.mpr g2), (beq_iff_eq.mpr g3), (beq_iff_eq.mpr g4), (beq_iff_eq.mpr g5), (beq_iff_eq.mpr g6), trivial⟩)
theorem f44a_3 (p q : Post) (h : f44a_h p q) (g1 : (↑(List.length (List.map Leg.pv p.legs)) : Int) = (↑(List.length (List.map Leg.pv q.legs)) : Int)) (g2 : p.id = q.id) (g3 : p.known = q.known) (g4 : p.value = q.value) (g5 : p.rev = q.rev) (g6 : ¬p.kind = q.kind) :
    cc (ev X E0) 65 [AV.agg (Post.cs p), AV.agg (Post.cs q)] [] = some (AV.b false, []) :=
  cc_path (x := xf65) rfl ([.br false, .loop (XExit.exit 0) (St.mk (tmOf 71 [(2, AV.c (.ptr 0 0)), (3, AV.c (.ptr 1 0))]) [.cells (Post.cs p), .cells (Post.cs q)])] ++ bs 24 true ++ bs 6 false)
    (c := rq [(1, ((↑(List.length (List.map Leg.pv p.legs)) : Int) != (↑(List.length (List.map Leg.pv q.legs)) : Int)) = false), ty h, (6, (p.id == q.id) = true), (6, (p.known == q.known) = true), (6, (p.value == q.value) = true), (6, (p.rev == q.rev) = true), (6, (p.kind == q.kind) = false)]) (by kernel_rfl)
    (aq ⟨(bne_f g1), h, (beq_iff_eq.mpr g2), (beq_iff_eq.mpr g3), (beq_iff_eq.mpr g4), (beq_iff_eq.mpr g5), (beq_eq_false_iff_ne.mpr g6), trivial⟩)
theorem f44a_4 (p q : Post) (h : f44a_h p q) (g1 : (↑(List.length (List.map Leg.pv p.legs)) : Int) = (↑(List.length (List.map Leg.pv q.legs)) : Int)) (g2 : p.id = q.id) (g3 : p.known = q.known) (g4 : p.value = q.value) (g5 : ¬p.rev = q.rev) :
    cc (ev X E0) 65 [AV.agg (Post.cs p), AV.agg (Post.cs q)] [] = some (AV.b false, []) :=
  cc_path (x := xf65) rfl ([.br false, .loop (XExit.exit 0) (St.mk (tmOf 71 [(2, AV.c (.ptr 0 0)), (3, AV.c (.ptr 1 0))]) [.cells (Post.cs p), .cells (Post.cs q)])] ++ bs 18 true ++ bs 12 false)
    (c := rq [(1, ((↑(List.length (List.map Leg.pv p.legs)) : Int) != (↑(List.length (List.map Leg.pv q.legs)) : Int)) = false), ty h, (6, (p.id == q.id) = true), (6, (p.known == q.known) = true), (6, (p.value == q.value) = true), (6, (p.rev == q.rev) = false), zf 6]) (by kernel_rfl)
    (aq ⟨(bne_f g1), h, (beq_iff_eq.mpr g2), (beq_iff_eq.mpr g3), (beq_iff_eq.mpr g4), (beq_eq_false_iff_ne.mpr g5), rfl, trivial⟩)
theorem f44a_5 (p q : Post) (h : f44a_h p q) (g1 : (↑(List.length (List.map Leg.pv p.legs)) : Int) = (↑(List.length (List.map Leg.pv q.legs)) : Int)) (g2 : p.id = q.id) (g3 : p.known = q.known) (g4 : ¬p.value = q.value) :
    cc (ev X E0) 65 [AV.agg (Post.cs p), AV.agg (Post.cs q)] [] = some (AV.b false, []) :=
  cc_path (x := xf65) rfl ([.br false, .loop (XExit.exit 0) (St.mk (tmOf 71 [(2, AV.c (.ptr 0 0)), (3, AV.c (.ptr 1 0))]) [.cells (Post.cs p), .cells (Post.cs q)])] ++ bs 12 true ++ bs 18 false)
    (c := rq [(1, ((↑(List.length (List.map Leg.pv p.legs)) : Int) != (↑(List.length (List.map Leg.pv q.legs)) : Int)) = false), ty h, (6, (p.id == q.id) = true), (6, (p.known == q.known) = true), (6, (p.value == q.value) = false), zf 12]) (by kernel_rfl)
    (aq ⟨(bne_f g1), h, (beq_iff_eq.mpr g2), (beq_iff_eq.mpr g3), (beq_eq_false_iff_ne.mpr g4), rfl, trivial⟩)
theorem f44a_6 (p q : Post) (h : f44a_h p q) (g1 : (↑(List.length (List.map Leg.pv p.legs)) : Int) = (↑(List.length (List.map Leg.pv q.legs)) : Int)) (g2 : p.id = q.id) (g3 : ¬p.known = q.known) :
    cc (ev X E0) 65 [AV.agg (Post.cs p), AV.agg (Post.cs q)] [] = some (AV.b false, []) :=
  cc_path (x := xf65) rfl ([.br false, .loop (XExit.exit 0) (St.mk (tmOf 71 [(2, AV.c (.ptr 0 0)), (3, AV.c (.ptr 1 0))]) [.cells (Post.cs p), .cells (Post.cs q)])] ++ bs 6 true ++ bs 24 false)
    (c := rq [(1, ((↑(List.length (List.map Leg.pv p.legs)) : Int) != (↑(List.length (List.map Leg.pv q.legs)) : Int)) = false), ty h, (6, (p.id == q.id) = true), (6, (p.known == q.known) = false), zf 18]) (by kernel_rfl)
    (aq ⟨(bne_f g1), h, (beq_iff_eq.mpr g2), (beq_eq_false_iff_ne.mpr g3), rfl, trivial⟩)
theorem f44a_7 (p q : Post) (h : f44a_h p q) (g1 : (↑(List.length (List.map Leg.pv p.legs)) : Int) = (↑(List.length (List.map Leg.pv q.legs)) : Int)) (g2 : ¬p.id = q.id) :
    cc (ev X E0) 65 [AV.agg (Post.cs p), AV.agg (Post.cs q)] [] = some (AV.b false, []) :=
  cc_path (x := xf65) rfl ([.br false, .loop (XExit.exit 0) (St.mk (tmOf 71 [(2, AV.c (.ptr 0 0)), (3, AV.c (.ptr 1 0))]) [.cells (Post.cs p), .cells (Post.cs q)])] ++ bs 30 false)
    (c := rq [(1, ((↑(List.length (List.map Leg.pv p.legs)) : Int) != (↑(List.length (List.map Leg.pv q.legs)) : Int)) = false), ty h, (6, (p.id == q.id) = false), zf 24]) (by kernel_rfl)
    (aq ⟨(bne_f g1), h, (beq_eq_false_iff_ne.mpr g2), rfl, trivial⟩)
theorem f44b_2 (p q : Post) (h : lv (cv (ev X E0) xf65_l0) (rl [2, 0, 1]) 2 (S44s p q 0) = some (XExit.ret, St.mk (tmOf 71 [(4, AV.b false)]) [.cells (Post.cs p), .cells (Post.cs q)])) (g1 : (↑(List.length (List.map Leg.pv p.legs)) : Int) = (↑(List.length (List.map Leg.pv q.legs)) : Int)) :
    cc (ev X E0) 65 [AV.agg (Post.cs p), AV.agg (Post.cs q)] [] = some (AV.b false, []) :=
  cc_path (x := xf65) rfl [.br false, .loop XExit.ret (St.mk (tmOf 71 [(4, AV.b false)]) [.cells (Post.cs p), .cells (Post.cs q)])]
    (c := rq [(1, ((↑(List.length (List.map Leg.pv p.legs)) : Int) != (↑(List.length (List.map Leg.pv q.legs)) : Int)) = false), ty h]) (by kernel_rfl)
    (aq ⟨(bne_f g1), h, trivial⟩)
theorem s44 (p q : Post) (hl : p.legs.length ≤ 1000000) : cc (ev X E0) 65 [Post.av p, Post.av q] [] = some (.b (same p q), []) := by
  have e1 : (((p.legs.map Leg.pv).length : Nat) : Int) = p.legs.length := by rw [List.length_map]
  have e2 : (((q.legs.map Leg.pv).length : Nat) : Int) = q.legs.length := by rw [List.length_map]
  by_cases he : p.legs.length = q.legs.length
  · have a := a44 hl he
    have hh : (↑(List.length (List.map Leg.pv (Post.legs p))) : Int) = (↑(List.length (List.map Leg.pv (Post.legs q))) : Int) := by rw [e1, e2]; omega
    unfold same legsEq
    cases hz : (p.legs.zip q.legs).any fun q => !legEq q.1 q.2 with
    | true =>
      rw [hz] at a
      rw [f44b_2 p q a hh]; simp
    | false =>
      rw [hz] at a
      rw [decide_eq_true he]
      simp only [Bool.not_false, Bool.and_true, Bool.true_and]
      by_cases c1 : p.id = q.id
      · by_cases c2 : p.known = q.known
        · by_cases c3 : p.value = q.value
          · by_cases c4 : p.rev = q.rev
            · by_cases c5 : p.kind = q.kind
              · rw [f44a_2 p q a hh c1 c2 c3 c4 c5]; congr 5; rw [Bool.eq_iff_iff]; simp [c1, c2, c3, c4, c5]
              · rw [f44a_3 p q a hh c1 c2 c3 c4 c5, decide_eq_false (by simp [c5])]
            · rw [f44a_4 p q a hh c1 c2 c3 c4, decide_eq_false (by simp [c4])]
          · rw [f44a_5 p q a hh c1 c2 c3, decide_eq_false (by simp [c3])]
        · rw [f44a_6 p q a hh c1 c2, decide_eq_false (by simp [c2])]
      · rw [f44a_7 p q a hh c1, decide_eq_false (by simp [c1])]
  · rw [f44n_1 p q (by rw [e1, e2]; omega)]
    unfold same legsEq
    rw [decide_eq_false he]; rfl
end Go.Sx.Tryd
/- Sameness of lists, of the document. -/
namespace Go.Sx.Tryd
open Go Go.Sx
abbrev S27 (l m : List Post) (o q : SO) (s t : Nat) (i : Int) : St := St.mk (tmOf 27 [(0, AV.c (CV.pv (PV.sl o s (List.map Post.pv l)))), (1, AV.c (CV.pv (PV.sl q t (List.map Post.pv m)))), (5, AV.c (CV.pv (PV.int .i64 i)))]) []
theorem l27_1 (l m : List Post) (o q : SO) (s t : Nat) (hs : SZ o s l) (ht : szOk 7 (.pv (.sl q t (List.map Post.pv m))) = true) (i : Nat) (y1 y2 : Post) (g1 : (↑i : Int) < (↑(List.length (List.map Post.pv l)) : Int)) (g2 : l[i]? = some y1) (g3 : m[i]? = some y2) (g4 : List.length y1.legs ≤ 1000000) (g5 : same y1 y2 = false) :
    lv (cv (ev X E0) xf28_l0) (rl [0, 0, 3]) 0 (S27 l m o q s t (↑i : Int)) = some (XExit.ret, St.mk (tmOf 27 [(4, AV.b false)]) []) :=
  lv_ret [.br true, .sz, .el (Post.pv y1), .sz, .el (Post.pv y2), .call (AV.c (.pv (.bool (same y1 y2)))) [], .br true]
    (c := [decide ((↑i : Int) < (↑(List.length (List.map Post.pv l)) : Int)) = true, SZ o s l, 0 ≤ (↑i : Int), (List.map Post.pv l)[i]? = some (Post.pv y1), szOk 7 (.pv (.sl q t (List.map Post.pv m))) = true, 0 ≤ (↑i : Int), (List.map Post.pv m)[i]? = some (Post.pv y2), cc (ev X E0) 65 [AV.agg (Post.cs y1), AV.agg (Post.cs y2)] [] = some (AV.c (.pv (.bool (same y1 y2))), []), (!same y1 y2) = true]) (by kernel_rfl)
    ⟨(dT g1), hs, (Int.natCast_nonneg _), (map_at g2), ht, (Int.natCast_nonneg _), (map_at g3), (s44 _ _ g4), (not_t g5), trivial⟩
theorem l27_2 (l m : List Post) (o q : SO) (s t : Nat) (hs : SZ o s l) (ht : szOk 7 (.pv (.sl q t (List.map Post.pv m))) = true) (i : Nat) (y1 y2 : Post) (g1 : (↑i : Int) < (↑(List.length (List.map Post.pv l)) : Int)) (g2 : l[i]? = some y1) (g3 : m[i]? = some y2) (g4 : List.length y1.legs ≤ 1000000) (g5 : same y1 y2 = true) :
    lv (cv (ev X E0) xf28_l0) (rl [0, 0, 3]) 0 (S27 l m o q s t (↑i : Int)) = lv (cv (ev X E0) xf28_l0) (rl [0, 0, 3]) 0 (St.mk (tmOf 27 [(0, AV.c (.pv (.sl o s (List.map Post.pv l)))), (1, AV.c (.pv (.sl q t (List.map Post.pv m)))), (5, AV.c (vi (IntKind.wrap .i64 ((↑i : Int) + 1))))]) []) :=
  lv_next [.br true, .sz, .el (Post.pv y1), .sz, .el (Post.pv y2), .call (AV.c (.pv (.bool (same y1 y2)))) [], .br false]
    (c := [decide ((↑i : Int) < (↑(List.length (List.map Post.pv l)) : Int)) = true, SZ o s l, 0 ≤ (↑i : Int), (List.map Post.pv l)[i]? = some (Post.pv y1), szOk 7 (.pv (.sl q t (List.map Post.pv m))) = true, 0 ≤ (↑i : Int), (List.map Post.pv m)[i]? = some (Post.pv y2), cc (ev X E0) 65 [AV.agg (Post.cs y1), AV.agg (Post.cs y2)] [] = some (AV.c (.pv (.bool (same y1 y2))), []), (!same y1 y2) = false]) (by kernel_rfl)
    ⟨(dT g1), hs, (Int.natCast_nonneg _), (map_at g2), ht, (Int.natCast_nonneg _), (map_at g3), (s44 _ _ g4), (not_f g5), trivial⟩
theorem l27_3 (l m : List Post) (o q : SO) (s t : Nat) (_hs : SZ o s l) (_ht : szOk 7 (.pv (.sl q t (List.map Post.pv m))) = true) (i : Nat) (g1 : ¬(↑i : Int) < (↑(List.length (List.map Post.pv l)) : Int)) :
    lv (cv (ev X E0) xf28_l0) (rl [0, 0, 3]) 0 (S27 l m o q s t (↑i : Int)) = some (XExit.exit 0, St.mk (tmOf 27 []) []) :=
  lv_exit [.br false]
    (c := [decide ((↑i : Int) < (↑(List.length (List.map Post.pv l)) : Int)) = false]) (by kernel_rfl)
    ⟨(dF g1), trivial⟩
def samesB (l m : List Post) : Bool := decide (l.length = m.length) && !(l.zip m).any fun q => !same q.1 q.2
theorem zip_atP {l m : List Post} {i : Nat} {q : Post × Post} (h : (l.zip m)[i]? = some q) : l[i]? = some q.1 ∧ m[i]? = some q.2 := by
  rw [List.getElem?_zip_eq_some] at h
  exact h
theorem a27 {l m : List Post} {o q : SO} {s t : Nat} (hs : szOk 7 (CV.pv (PV.sl o s (List.map Post.pv l))) = true) (ht : szOk 7 (CV.pv (PV.sl q t (List.map Post.pv m))) = true) (hl : l.length ≤ 1000000) (hN : ∀ p ∈ l, p.legs.length ≤ 1000000) (he : l.length = m.length) :
    lv (cv (ev X E0) xf28_l0) (rl [0, 0, 3]) 0 (S27 l m o q s t 0) = some (if ((l.zip m).any fun q => !same q.1 q.2) = true then (XExit.ret, St.mk (tmOf 27 [(4, AV.c (CV.pv (PV.bool false)))]) []) else (XExit.exit 0, St.mk (tmOf 27 []) [])) := by
  have hz : (l.zip m).length = l.length := by rw [List.length_zip]; omega
  refine lv_scan (l := l.zip m) (S27 l m o q s t) (by rw [hz]; exact l27_3 l m o q s t hs ht l.length (by simp)) (fun i y hat hlt hw => ?_) fun i y hat hlt hw => ?_
  · obtain ⟨h1, h2⟩ := zip_atP hat
    exact l27_1 l m o q s t hs ht i y.1 y.2 (ltP (by omega)) h1 h2 (hN _ (List.mem_of_getElem? h1)) (by simpa using hw)
  · obtain ⟨h1, h2⟩ := zip_atP hat
    have := l27_2 l m o q s t hs ht i y.1 y.2 (ltP (by omega)) h1 h2 (hN _ (List.mem_of_getElem? h1)) (by simpa using hw)
    rwa [wi64 (by omega) (by omega)] at this
theorem f27n_1 (l m : List Post) (o q : SO) (s t : Nat) (hne : ¬(↑(List.length (List.map Post.pv l)) : Int) = (↑(List.length (List.map Post.pv m)) : Int)) :
    cc (ev X E0) 28 [AV.c (.pv (.sl o s (List.map Post.pv l))), AV.c (.pv (.sl q t (List.map Post.pv m)))] [] = some (AV.b false, []) :=
  cc_path (x := xf28) rfl [.br true]
    (c := [((↑(List.length (List.map Post.pv l)) : Int) != (↑(List.length (List.map Post.pv m)) : Int)) = true]) (by kernel_rfl)
    ⟨(bne_iff_ne.mpr hne), trivial⟩
theorem f27a_1 (l m : List Post) (o q : SO) (s t : Nat) (he : (↑(List.length (List.map Post.pv l)) : Int) = (↑(List.length (List.map Post.pv m)) : Int)) (h : lv (cv (ev X E0) xf28_l0) (rl [0, 0, 3]) 0 (S27 l m o q s t 0) = some (XExit.exit 0, St.mk (tmOf 27 []) [])) :
    cc (ev X E0) 28 [AV.c (.pv (.sl o s (List.map Post.pv l))), AV.c (.pv (.sl q t (List.map Post.pv m)))] [] = some (AV.b true, []) :=
  cc_path (x := xf28) rfl [.br false, .loop (XExit.exit (0 : Nat)) (St.mk (tmOf (27 : Nat) []) [])]
    (c := rq [(1, ((↑(List.length (List.map Post.pv l)) : Int) != (↑(List.length (List.map Post.pv m)) : Int)) = false), ty h]) (by kernel_rfl)
    (aq ⟨(bne_f he), h, trivial⟩)
theorem f27b_1 (l m : List Post) (o q : SO) (s t : Nat) (he : (↑(List.length (List.map Post.pv l)) : Int) = (↑(List.length (List.map Post.pv m)) : Int)) (h : lv (cv (ev X E0) xf28_l0) (rl [0, 0, 3]) 0 (S27 l m o q s t 0) = some (XExit.ret, St.mk (tmOf 27 [(4, AV.b false)]) [])) :
    cc (ev X E0) 28 [AV.c (.pv (.sl o s (List.map Post.pv l))), AV.c (.pv (.sl q t (List.map Post.pv m)))] [] = some (AV.b false, []) :=
  cc_path (x := xf28) rfl [.br false, .loop XExit.ret (St.mk (tmOf (27 : Nat) [((4 : Nat), AV.b false)]) [])]
    (c := rq [(1, ((↑(List.length (List.map Post.pv l)) : Int) != (↑(List.length (List.map Post.pv m)) : Int)) = false), ty h]) (by kernel_rfl)
    (aq ⟨(bne_f he), h, trivial⟩)
theorem s27 {l m : List Post} {o q : SO} {s t : Nat} (hs : szOk 7 (CV.pv (PV.sl o s (List.map Post.pv l))) = true) (ht : szOk 7 (CV.pv (PV.sl q t (List.map Post.pv m))) = true) (hl : l.length ≤ 1000000) (hN : ∀ p ∈ l, p.legs.length ≤ 1000000) :
    cc (ev X E0) 28 [AV.sl o s (l.map Post.pv), AV.sl q t (m.map Post.pv)] [] = some (.b (samesB l m), []) := by
  unfold samesB
  by_cases he : l.length = m.length
  · have a := a27 hs ht hl hN he
    have hh : (↑(List.length (List.map Post.pv l)) : Int) = (↑(List.length (List.map Post.pv m)) : Int) := by rw [lenP, lenP]; omega
    rw [decide_eq_true he, Bool.true_and]
    cases hz : (l.zip m).any fun q => !same q.1 q.2 with
    | true => rw [hz] at a; exact f27b_1 l m o q s t hh a
    | false => rw [hz] at a; exact f27a_1 l m o q s t hh a
  · rw [f27n_1 l m o q s t (by rw [lenP, lenP]; omega), decide_eq_false he]; rfl
end Go.Sx.Tryd
