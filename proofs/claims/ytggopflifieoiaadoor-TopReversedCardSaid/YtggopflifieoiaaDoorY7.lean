/- What an account comes to, as known on a day: paths. -/
import Derived.Test.YtggopflifieoiaaDoorN5
namespace Go.Sx.Tryd
open Go Go.Sx
abbrev Lg.pv (x : Lg) : PV := .agg [.int .i32 x.known, .int .i32 x.value, .int .i64 x.n]
abbrev Lg.av (x : Lg) : AV := .agg [.pv (.int .i32 x.known), .pv (.int .i32 x.value), .pv (.int .i64 x.n)]
abbrev Lg.cs (x : Lg) : List CV := [.pv (.int .i32 x.known), .pv (.int .i32 x.value), .pv (.int .i64 x.n)]
theorem yg95_3 (n g : Int) (g1 : n < 0) (g2 : ¬IntKind.wrap .i64 (0 - n) < 0) (g3 : ¬IntKind.wrap .i64 (0 - n) > IntKind.wrap .i64 (1000000000000000000 - g)) :
    cc (ev X E0) 95 [AV.c (.ptr 0 0), AV.c (vi n)] [.cells [vi g]] = some (AV.c (.pv (.bool false)), [.cells [vi (IntKind.wrap .i64 (g + IntKind.wrap .i64 (0 - n)))]]) :=
  cc_path (x := xf95) rfl ([.br true] ++ bs 9 false)
    (c := rq [(1, decide (n < 0) = true), (8, decide (IntKind.wrap .i64 (0 - n) < 0) = false), (1, decide (IntKind.wrap .i64 (0 - n) > IntKind.wrap .i64 (1000000000000000000 - g)) = false)]) (by kernel_rfl)
    (aq ⟨(dT g1), (dF g2), (dF g3), trivial⟩)
theorem yg95_5 (n g : Int) (g1 : ¬n < 0) (g2 : ¬n > IntKind.wrap .i64 (1000000000000000000 - g)) :
    cc (ev X E0) 95 [AV.c (.ptr 0 0), AV.c (vi n)] [.cells [vi g]] = some (AV.c (.pv (.bool false)), [.cells [vi (IntKind.wrap .i64 (g + n))]]) :=
  cc_path (x := xf95) rfl (bs 10 false)
    (c := rq [(9, decide (n < 0) = false), (1, decide (n > IntKind.wrap .i64 (1000000000000000000 - g)) = false)]) (by kernel_rfl)
    (aq ⟨(dF g1), (dF g2), trivial⟩)
theorem yg93_1 (d : Int) :
    cc (ev X E0) 93 [AV.c (vw d)] [] = some (AV.c (.pv (.bool !datOk d)), []) :=
  cc_path (x := xf93) rfl [.call (AV.c (.pv (.bool (datOk d)))) []]
    (c := [cc (ev X E0) 53 [AV.c (vw d)] [] = some (AV.c (.pv (.bool (datOk d))), [])]) (by kernel_rfl)
    ⟨(s77 _), trivial⟩
abbrev YS125 (k i : Int) : St := St.mk (tmOf 19 [(0, AV.c (CV.pv (PV.sl .full 1 [PV.int .i32 k]))), (1, AV.c (CV.fn 93 [])), (7, AV.c (CV.pv (PV.int .i64 1))), (8, AV.c (CV.pv (PV.int .i64 i)))]) []
theorem yl125b_1 (k : Int) :
    lv (cv (ev X E0) xf125_l0) (rl [0, 0, 5, 0]) 0 (YS125 k 1) = some (XExit.exit 0, St.mk (tmOf 19 []) []) :=
  lv_exit [.br false]
    (c := [false = false]) (by kernel_rfl)
    ⟨rfl, trivial⟩
theorem yl125a_1 (k : Int) (h : cc (ev X E0) 93 [AV.int IntKind.i32 k] [] = some (AV.b false, [])) :
    lv (cv (ev X E0) xf125_l0) (rl [0, 0, 5, 0]) 0 (YS125 k 0) = lv (cv (ev X E0) xf125_l0) (rl [0, 0, 5, 0]) 0 (St.mk (tmOf 19 [(0, AV.c (.pv (.sl SO.full 1 [PV.int .i32 k]))), (1, AV.c (.fn 93 [])), (7, AV.c (vi 1)), (8, AV.c (vi 1))]) []) :=
  lv_next [.br true, .call (AV.c (.pv (.bool false))) [], .br false]
    (c := rq [(1, true = true), ty h, (1, false = false)]) (by kernel_rfl)
    (aq ⟨rfl, h, rfl, trivial⟩)
theorem yg125_1 (k : Int) (h : lv (cv (ev X E0) xf125_l0) (rl [0, 0, 5, 0]) 0 (YS125 k 0) = some (XExit.exit 0, St.mk (tmOf 19 []) [])) :
    cc (ev X E0) 125 [AV.c (.pv (.sl SO.full 1 [PV.int .i32 k])), AV.c (.fn 93 [])] [] = some (AV.c (vi (-1)), []) :=
  cc_path (x := xf125) rfl [.loop (XExit.exit (0 : Nat)) (St.mk (tmOf (19 : Nat) []) [])]
    (c := rq [ty h]) (by kernel_rfl)
    (aq ⟨h, trivial⟩)
theorem yg94_1 (k : Int) (h : cc (ev X E0) 125 [AV.sl SO.full 1 [PV.int .i32 k], AV.c (.fn 93 [])] [] = some (AV.i (-1), [])) :
    cc (ev X E0) 94 [AV.c (.pv (.sl SO.full 1 [PV.int .i32 k])), AV.c (.fn 93 [])] [] = some (AV.c (.pv (.bool false)), []) :=
  cc_path (x := xf94) rfl [.call (AV.c (vi (-1 : Int))) []]
    (c := rq [ty h]) (by kernel_rfl)
    (aq ⟨h, trivial⟩)
theorem yg44_1 (l : List Post) (o : SO) (s : Nat) (k v : Int) (hl : ¬(↑(List.length (List.map Post.pv l)) : Int) > 2000) (h : cc (ev X E0) 93 [AV.int IntKind.i32 v] [] = some (AV.b false, [])) (h2 : cc (ev X E0) 94 [AV.sl SO.full 1 [PV.int .i32 k], AV.c (.fn 93 [])] [] = some (AV.b false, [])) (hv : ¬v > v) :
    cc (ev X E0) 44 [AV.c (.pv (.sl o s (List.map Post.pv l))), AV.c (vw v), AV.c (vw v), AV.c (.pv (.sl SO.full 1 [PV.int .i32 k]))] [] = some (AV.c (vi 0), []) :=
  cc_path (x := xf44) rfl ([.br false, .call (AV.c (.pv (.bool false))) []] ++ bs 3 false ++ [.call (AV.c (.pv (.bool false))) []] ++ bs 8 false ++ [.call (AV.c (.pv (.bool false))) [], .br false, .br false])
    (c := rq [(1, decide ((↑(List.length (List.map Post.pv l)) : Int) > 2000) = false), ty h, (3, false = false), ty h, (5, false = false), (3, decide (v > v) = false), ty h2, (1, decide (v > v) = false), (1, false = false)]) (by kernel_rfl)
    (aq ⟨(dF hl), h, rfl, h, rfl, (dF hv), h2, (dF hv), rfl, trivial⟩)
abbrev YS45 (l : List Post) (p : Post) (c : CV) (acc cur g i j : Int) : St := St.mk (tmOf 56 [(1, AV.c (CV.pv (PV.int .i64 acc))), (2, AV.c (CV.pv (PV.int .i64 cur))), (8, AV.c c), (9, AV.c (CV.ptr 0 0)), (11, AV.c (CV.ptr 1 0)), (14, AV.c (CV.pv (PV.sl .shut 7 (List.map Post.pv l)))), (15, AV.c (CV.pv (PV.int .i64 (↑(List.length (List.map Post.pv l)) : Int)))), (16, AV.c (CV.pv (PV.int .i64 i))),
  (21, AV.c (CV.pv (PV.sl p.so 3 (List.map Leg.pv p.legs)))), (22, AV.c (CV.pv (PV.int .i64 (↑(List.length (List.map Leg.pv p.legs)) : Int)))), (23, AV.c (CV.pv (PV.int .i64 j)))]) [Box.cells [CV.pv (.int .i64 g)], Box.cells (Post.cs p)]
abbrev YS45o (l : List Post) (c : CV) (acc cur g i : Int) : St := St.mk (tmOf 56 [(1, AV.c (CV.pv (PV.int .i64 acc))), (2, AV.c (CV.pv (PV.int .i64 cur))), (8, AV.c c), (9, AV.c (CV.ptr 0 0)), (14, AV.c (CV.pv (PV.sl .shut 7 (List.map Post.pv l)))), (15, AV.c (CV.pv (PV.int .i64 (↑(List.length (List.map Post.pv l)) : Int)))), (16, AV.c (CV.pv (PV.int .i64 i)))]) [Box.cells [CV.pv (.int .i64 g)]]
abbrev YS45e (l : List Post) (p : Post) (c : CV) (acc cur g i : Int) : St := St.mk (tmOf 56 [(1, AV.c (CV.pv (PV.int .i64 acc))), (2, AV.c (CV.pv (PV.int .i64 cur))), (8, AV.c c), (9, AV.c (CV.ptr 0 0)), (14, AV.c (CV.pv (PV.sl .shut 7 (List.map Post.pv l)))), (15, AV.c (CV.pv (PV.int .i64 (↑(List.length (List.map Post.pv l)) : Int)))), (16, AV.c (CV.pv (PV.int .i64 i)))]) [Box.cells [CV.pv (.int .i64 g)], Box.cells (Post.cs p)]
abbrev ownG (out : List Lg) : CV := CV.own 3391 3 (List.map Lg.pv out)
theorem yl45n_1 (l : List Post) (p : Post) (acc cur g g' i : Int) (j : Nat) (x : Leg) (hx : p.legs[j]? = some x) (_h : cc (ev X E0) 95 [AV.c (.ptr 0 0), AV.i x.minor] [.cells [vi g]] = some (AV.b false, [.cells [vi g']])) (g1 : (↑j : Int) < (↑(List.length (List.map Leg.pv p.legs)) : Int)) (g2 : ¬x.acc = acc) :
    lv (cv (ev X E0) xf45_l0) (rl [1, 0, 5, 0, 1, 2, 0, 0, 4, 0, 0]) 2 (YS45 l p nilC acc cur g i (↑j : Int)) = lv (cv (ev X E0) xf45_l0) (rl [1, 0, 5, 0, 1, 2, 0, 0, 4, 0, 0]) 2 (St.mk (tmOf 56 [(1, AV.c (vi acc)), (2, AV.c (vi cur)), (8, AV.c (.pv (.sl SO.nil 0 []))), (9, AV.c (.ptr 0 0)), (11, AV.c (.ptr 1 0)), (14, AV.c (.pv (.sl SO.shut 7 (List.map Post.pv l)))), (15, AV.c (vi (↑(List.length (List.map Post.pv l)) : Int))), (16, AV.c (vi i)), (21, AV.c (.pv (.sl p.so 3 (List.map Leg.pv p.legs)))), (22, AV.c (vi (↑(List.length (List.map Leg.pv p.legs)) : Int))), (23, AV.c (vi (IntKind.wrap .i64 ((↑j : Int) + 1))))]) [.cells [vi g], .cells (Post.cs p)]) :=
  lv_next ([.br true, .el (Leg.pv x)] ++ bs 7 true)
    (c := rq [(1, decide ((↑j : Int) < (↑(List.length (List.map Leg.pv p.legs)) : Int)) = true), (1, 0 ≤ (↑j : Int)), (1, (List.map Leg.pv p.legs)[j]? = some (Leg.pv x)), (6, (x.acc != acc) = true), (1, true = true)]) (by kernel_rfl)
    (aq ⟨(dT g1), (Int.natCast_nonneg _), (map_at hx), (bne_iff_ne.mpr g2), rfl, trivial⟩)
theorem yl45n_2 (l : List Post) (p : Post) (acc cur g g' i : Int) (j : Nat) (x : Leg) (hx : p.legs[j]? = some x) (_h : cc (ev X E0) 95 [AV.c (.ptr 0 0), AV.i x.minor] [.cells [vi g]] = some (AV.b false, [.cells [vi g']])) (g1 : (↑j : Int) < (↑(List.length (List.map Leg.pv p.legs)) : Int)) (g2 : x.acc = acc) (g3 : ¬x.cur = cur) :
    lv (cv (ev X E0) xf45_l0) (rl [1, 0, 5, 0, 1, 2, 0, 0, 4, 0, 0]) 2 (YS45 l p nilC acc cur g i (↑j : Int)) = lv (cv (ev X E0) xf45_l0) (rl [1, 0, 5, 0, 1, 2, 0, 0, 4, 0, 0]) 2 (St.mk (tmOf 56 [(1, AV.c (vi acc)), (2, AV.c (vi cur)), (8, AV.c (.pv (.sl SO.nil 0 []))), (9, AV.c (.ptr 0 0)), (11, AV.c (.ptr 1 0)), (14, AV.c (.pv (.sl SO.shut 7 (List.map Post.pv l)))), (15, AV.c (vi (↑(List.length (List.map Post.pv l)) : Int))), (16, AV.c (vi i)), (21, AV.c (.pv (.sl p.so 3 (List.map Leg.pv p.legs)))), (22, AV.c (vi (↑(List.length (List.map Leg.pv p.legs)) : Int))), (23, AV.c (vi (IntKind.wrap .i64 ((↑j : Int) + 1))))]) [.cells [vi g], .cells (Post.cs p)]) :=
  lv_next ([.br true, .el (Leg.pv x)] ++ bs 6 false ++ [.br true])
    (c := rq [(1, decide ((↑j : Int) < (↑(List.length (List.map Leg.pv p.legs)) : Int)) = true), (1, 0 ≤ (↑j : Int)), (1, (List.map Leg.pv p.legs)[j]? = some (Leg.pv x)), (6, (x.acc != acc) = false), (1, (x.cur != cur) = true)]) (by kernel_rfl)
    (aq ⟨(dT g1), (Int.natCast_nonneg _), (map_at hx), (bne_f g2), (bne_iff_ne.mpr g3), trivial⟩)
theorem yl45n_3 (l : List Post) (p : Post) (acc cur g g' i : Int) (j : Nat) (x : Leg) (hx : p.legs[j]? = some x) (h : cc (ev X E0) 95 [AV.c (.ptr 0 0), AV.i x.minor] [.cells [vi g]] = some (AV.b false, [.cells [vi g']])) (g1 : (↑j : Int) < (↑(List.length (List.map Leg.pv p.legs)) : Int)) (g2 : x.acc = acc) (g3 : x.cur = cur) (g4 : (↑(0 + List.length [PV.agg [PV.int .i32 p.known, .int .i32 p.value, .int .i64 x.minor]]) : Int) * 16 ≤ 140737488355328) :
    lv (cv (ev X E0) xf45_l0) (rl [1, 0, 5, 0, 1, 2, 0, 0, 4, 0, 0]) 2 (YS45 l p nilC acc cur g i (↑j : Int)) = lv (cv (ev X E0) xf45_l0) (rl [1, 0, 5, 0, 1, 2, 0, 0, 4, 0, 0]) 2 (St.mk (tmOf 56 [(1, AV.c (vi acc)), (2, AV.c (vi cur)), (8, AV.c (.own 3391 3 [PV.agg [PV.int .i32 p.known, .int .i32 p.value, .int .i64 x.minor]])), (9, AV.c (.ptr 0 0)), (11, AV.c (.ptr 1 0)), (14, AV.c (.pv (.sl SO.shut 7 (List.map Post.pv l)))), (15, AV.c (vi (↑(List.length (List.map Post.pv l)) : Int))), (16, AV.c (vi i)), (21, AV.c (.pv (.sl p.so 3 (List.map Leg.pv p.legs)))), (22, AV.c (vi (↑(List.length (List.map Leg.pv p.legs)) : Int))), (23, AV.c (vi (IntKind.wrap .i64 ((↑j : Int) + 1))))]) [.cells [vi g'], .cells (Post.cs p)]) :=
  lv_next ([.br true, .el (Leg.pv x)] ++ bs 7 false ++ [.call (AV.c (.pv (.bool false))) [.cells [vi g']], .br false, .emp false])
    (c := rq [(1, decide ((↑j : Int) < (↑(List.length (List.map Leg.pv p.legs)) : Int)) = true), (1, 0 ≤ (↑j : Int)), (1, (List.map Leg.pv p.legs)[j]? = some (Leg.pv x)), (6, (x.acc != acc) = false), (1, (x.cur != cur) = false), ty h, (1, false = false), (1, [PV.agg [PV.int .i32 p.known, .int .i32 p.value, .int .i64 x.minor]] ≠ []), ty g4]) (by kernel_rfl)
    (aq ⟨(dT g1), (Int.natCast_nonneg _), (map_at hx), (bne_f g2), (bne_f g3), h, rfl, (List.cons_ne_nil _ _), g4, trivial⟩)
theorem yl45o_1 (l : List Post) (p : Post) (out : List Lg) (acc cur g g' i : Int) (j : Nat) (x : Leg) (hx : p.legs[j]? = some x) (_h : cc (ev X E0) 95 [AV.c (.ptr 0 0), AV.i x.minor] [.cells [vi g]] = some (AV.b false, [.cells [vi g']])) (g1 : (↑j : Int) < (↑(List.length (List.map Leg.pv p.legs)) : Int)) (g2 : ¬x.acc = acc) :
    lv (cv (ev X E0) xf45_l0) (rl [1, 0, 5, 0, 1, 2, 0, 0, 4, 0, 0]) 2 (YS45 l p (ownG out) acc cur g i (↑j : Int)) = lv (cv (ev X E0) xf45_l0) (rl [1, 0, 5, 0, 1, 2, 0, 0, 4, 0, 0]) 2 (St.mk (tmOf 56 [(1, AV.c (vi acc)), (2, AV.c (vi cur)), (8, AV.c (.own 3391 3 (List.map Lg.pv out))), (9, AV.c (.ptr 0 0)), (11, AV.c (.ptr 1 0)), (14, AV.c (.pv (.sl SO.shut 7 (List.map Post.pv l)))), (15, AV.c (vi (↑(List.length (List.map Post.pv l)) : Int))), (16, AV.c (vi i)), (21, AV.c (.pv (.sl p.so 3 (List.map Leg.pv p.legs)))), (22, AV.c (vi (↑(List.length (List.map Leg.pv p.legs)) : Int))), (23, AV.c (vi (IntKind.wrap .i64 ((↑j : Int) + 1))))]) [.cells [vi g], .cells (Post.cs p)]) :=
  lv_next ([.br true, .el (Leg.pv x)] ++ bs 7 true)
    (c := rq [(1, decide ((↑j : Int) < (↑(List.length (List.map Leg.pv p.legs)) : Int)) = true), (1, 0 ≤ (↑j : Int)), (1, (List.map Leg.pv p.legs)[j]? = some (Leg.pv x)), (6, (x.acc != acc) = true), (1, true = true)]) (by kernel_rfl)
    (aq ⟨(dT g1), (Int.natCast_nonneg _), (map_at hx), (bne_iff_ne.mpr g2), rfl, trivial⟩)
theorem yl45o_2 (l : List Post) (p : Post) (out : List Lg) (acc cur g g' i : Int) (j : Nat) (x : Leg) (hx : p.legs[j]? = some x) (_h : cc (ev X E0) 95 [AV.c (.ptr 0 0), AV.i x.minor] [.cells [vi g]] = some (AV.b false, [.cells [vi g']])) (g1 : (↑j : Int) < (↑(List.length (List.map Leg.pv p.legs)) : Int)) (g2 : x.acc = acc) (g3 : ¬x.cur = cur) :
    lv (cv (ev X E0) xf45_l0) (rl [1, 0, 5, 0, 1, 2, 0, 0, 4, 0, 0]) 2 (YS45 l p (ownG out) acc cur g i (↑j : Int)) = lv (cv (ev X E0) xf45_l0) (rl [1, 0, 5, 0, 1, 2, 0, 0, 4, 0, 0]) 2 (St.mk (tmOf 56 [(1, AV.c (vi acc)), (2, AV.c (vi cur)), (8, AV.c (.own 3391 3 (List.map Lg.pv out))), (9, AV.c (.ptr 0 0)), (11, AV.c (.ptr 1 0)), (14, AV.c (.pv (.sl SO.shut 7 (List.map Post.pv l)))), (15, AV.c (vi (↑(List.length (List.map Post.pv l)) : Int))), (16, AV.c (vi i)), (21, AV.c (.pv (.sl p.so 3 (List.map Leg.pv p.legs)))), (22, AV.c (vi (↑(List.length (List.map Leg.pv p.legs)) : Int))), (23, AV.c (vi (IntKind.wrap .i64 ((↑j : Int) + 1))))]) [.cells [vi g], .cells (Post.cs p)]) :=
  lv_next ([.br true, .el (Leg.pv x)] ++ bs 6 false ++ [.br true])
    (c := rq [(1, decide ((↑j : Int) < (↑(List.length (List.map Leg.pv p.legs)) : Int)) = true), (1, 0 ≤ (↑j : Int)), (1, (List.map Leg.pv p.legs)[j]? = some (Leg.pv x)), (6, (x.acc != acc) = false), (1, (x.cur != cur) = true)]) (by kernel_rfl)
    (aq ⟨(dT g1), (Int.natCast_nonneg _), (map_at hx), (bne_f g2), (bne_iff_ne.mpr g3), trivial⟩)
theorem yl45o_3 (l : List Post) (p : Post) (out : List Lg) (acc cur g g' i : Int) (j : Nat) (x : Leg) (hx : p.legs[j]? = some x) (h : cc (ev X E0) 95 [AV.c (.ptr 0 0), AV.i x.minor] [.cells [vi g]] = some (AV.b false, [.cells [vi g']])) (g1 : (↑j : Int) < (↑(List.length (List.map Leg.pv p.legs)) : Int)) (g2 : x.acc = acc) (g3 : x.cur = cur) (g4 : (↑(List.length (List.map Lg.pv out) + List.length [PV.agg [PV.int .i32 p.known, .int .i32 p.value, .int .i64 x.minor]]) : Int) * 16 ≤ 140737488355328) :
    lv (cv (ev X E0) xf45_l0) (rl [1, 0, 5, 0, 1, 2, 0, 0, 4, 0, 0]) 2 (YS45 l p (ownG out) acc cur g i (↑j : Int)) = lv (cv (ev X E0) xf45_l0) (rl [1, 0, 5, 0, 1, 2, 0, 0, 4, 0, 0]) 2 (St.mk (tmOf 56 [(1, AV.c (vi acc)), (2, AV.c (vi cur)), (8, AV.c (.own 3391 3 (List.map Lg.pv out ++ [PV.agg [PV.int .i32 p.known, .int .i32 p.value, .int .i64 x.minor]]))), (9, AV.c (.ptr 0 0)), (11, AV.c (.ptr 1 0)), (14, AV.c (.pv (.sl SO.shut 7 (List.map Post.pv l)))), (15, AV.c (vi (↑(List.length (List.map Post.pv l)) : Int))), (16, AV.c (vi i)), (21, AV.c (.pv (.sl p.so 3 (List.map Leg.pv p.legs)))), (22, AV.c (vi (↑(List.length (List.map Leg.pv p.legs)) : Int))), (23, AV.c (vi (IntKind.wrap .i64 ((↑j : Int) + 1))))]) [.cells [vi g'], .cells (Post.cs p)]) :=
  lv_next ([.br true, .el (Leg.pv x)] ++ bs 7 false ++ [.call (AV.c (.pv (.bool false))) [.cells [vi g']], .br false])
    (c := rq [(1, decide ((↑j : Int) < (↑(List.length (List.map Leg.pv p.legs)) : Int)) = true), (1, 0 ≤ (↑j : Int)), (1, (List.map Leg.pv p.legs)[j]? = some (Leg.pv x)), (6, (x.acc != acc) = false), (1, (x.cur != cur) = false), ty h, (1, false = false), ty g4]) (by kernel_rfl)
    (aq ⟨(dT g1), (Int.natCast_nonneg _), (map_at hx), (bne_f g2), (bne_f g3), h, rfl, g4, trivial⟩)
theorem yl45nx_1 (l : List Post) (p : Post) (acc cur g i : Int) (j : Nat) (hn : ¬(↑j : Int) < (↑(List.length (List.map Leg.pv p.legs)) : Int)) :
    lv (cv (ev X E0) xf45_l0) (rl [1, 0, 5, 0, 1, 2, 0, 0, 4, 0, 0]) 2 (YS45 l p nilC acc cur g i (↑j : Int)) = some (XExit.exit 2, St.mk (tmOf 56 [(1, AV.c (vi acc)), (2, AV.c (vi cur)), (8, AV.c (.pv (.sl SO.nil 0 []))), (9, AV.c (.ptr 0 0)), (14, AV.c (.pv (.sl SO.shut 7 (List.map Post.pv l)))), (15, AV.c (vi (↑(List.length (List.map Post.pv l)) : Int))), (16, AV.c (vi i))]) [.cells [vi g], .cells (Post.cs p)]) :=
  lv_exit [.br false]
    (c := [decide ((↑j : Int) < (↑(List.length (List.map Leg.pv p.legs)) : Int)) = false]) (by kernel_rfl)
    ⟨(dF hn), trivial⟩
theorem yl45ox_1 (l : List Post) (p : Post) (out : List Lg) (acc cur g i : Int) (j : Nat) (hn : ¬(↑j : Int) < (↑(List.length (List.map Leg.pv p.legs)) : Int)) :
    lv (cv (ev X E0) xf45_l0) (rl [1, 0, 5, 0, 1, 2, 0, 0, 4, 0, 0]) 2 (YS45 l p (ownG out) acc cur g i (↑j : Int)) = some (XExit.exit 2, St.mk (tmOf 56 [(1, AV.c (vi acc)), (2, AV.c (vi cur)), (8, AV.c (.own 3391 3 (List.map Lg.pv out))), (9, AV.c (.ptr 0 0)), (14, AV.c (.pv (.sl SO.shut 7 (List.map Post.pv l)))), (15, AV.c (vi (↑(List.length (List.map Post.pv l)) : Int))), (16, AV.c (vi i))]) [.cells [vi g], .cells (Post.cs p)]) :=
  lv_exit [.br false]
    (c := [decide ((↑j : Int) < (↑(List.length (List.map Leg.pv p.legs)) : Int)) = false]) (by kernel_rfl)
    ⟨(dF hn), trivial⟩
end Go.Sx.Tryd
