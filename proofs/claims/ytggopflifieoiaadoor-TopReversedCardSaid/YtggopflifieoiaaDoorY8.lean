/- The legs of an account: paths. -/
import Derived.Test.YtggopflifieoiaaDoorY7
namespace Go.Sx.Tryd
open Go Go.Sx
theorem yl451nn_1 (l : List Post) (p : Post) (acc cur g g' : Int) (i : Nat) (hp : l[i]? = some p) (hi : (↑i : Int) < (↑(List.length (List.map Post.pv l)) : Int)) (h : lv (cv (ev X E0) xf45_l0) (rl [1, 0, 5, 0, 1, 2, 0, 0, 4, 0, 0]) 2 (YS45 l p nilC acc cur g (↑i : Int) 0) = some (XExit.exit 2, YS45e l p nilC acc cur g' (↑i : Int))) :
    lv (cv (ev X E0) xf45_l1) (rl [1, 0, 5, 0, 4, 0, 0]) 1 (YS45o l nilC acc cur g (↑i : Int)) = lv (cv (ev X E0) xf45_l1) (rl [1, 0, 5, 0, 4, 0, 0]) 1 (St.mk (tmOf 56 [(1, AV.c (vi acc)), (2, AV.c (vi cur)), (8, AV.c (.pv (.sl SO.nil 0 []))), (9, AV.c (.ptr 0 0)), (14, AV.c (.pv (.sl SO.shut 7 (List.map Post.pv l)))), (15, AV.c (vi (↑(List.length (List.map Post.pv l)) : Int))), (16, AV.c (vi (IntKind.wrap .i64 ((↑i : Int) + 1))))]) [.cells [vi g']]) :=
  lv_next [.br true, .el (Post.pv p), .loop (XExit.exit 2) (St.mk (tmOf 56 [(1, AV.c (vi acc)), (2, AV.c (vi cur)), (8, AV.c (.pv (.sl SO.nil 0 []))), (9, AV.c (.ptr 0 0)), (14, AV.c (.pv (.sl SO.shut 7 (List.map Post.pv l)))), (15, AV.c (vi (↑(List.length (List.map Post.pv l)) : Int))), (16, AV.c (vi (↑i : Int)))]) [.cells [vi g'], .cells (Post.cs p)])]
    (c := rq [(1, decide ((↑i : Int) < (↑(List.length (List.map Post.pv l)) : Int)) = true), (1, 0 ≤ (↑i : Int)), (1, (List.map Post.pv l)[i]? = some (Post.pv p)), ty h]) (by kernel_rfl)
    (aq ⟨(dT hi), (Int.natCast_nonneg _), (map_at hp), h, trivial⟩)
theorem yl451no_1 (l : List Post) (p : Post) (out : List Lg) (acc cur g g' : Int) (i : Nat) (hp : l[i]? = some p) (hi : (↑i : Int) < (↑(List.length (List.map Post.pv l)) : Int)) (h : lv (cv (ev X E0) xf45_l0) (rl [1, 0, 5, 0, 1, 2, 0, 0, 4, 0, 0]) 2 (YS45 l p nilC acc cur g (↑i : Int) 0) = some (XExit.exit 2, YS45e l p (ownG out) acc cur g' (↑i : Int))) :
    lv (cv (ev X E0) xf45_l1) (rl [1, 0, 5, 0, 4, 0, 0]) 1 (YS45o l nilC acc cur g (↑i : Int)) = lv (cv (ev X E0) xf45_l1) (rl [1, 0, 5, 0, 4, 0, 0]) 1 (St.mk (tmOf 56 [(1, AV.c (vi acc)), (2, AV.c (vi cur)), (8, AV.c (.own 3391 3 (List.map Lg.pv out))), (9, AV.c (.ptr 0 0)), (14, AV.c (.pv (.sl SO.shut 7 (List.map Post.pv l)))), (15, AV.c (vi (↑(List.length (List.map Post.pv l)) : Int))), (16, AV.c (vi (IntKind.wrap .i64 ((↑i : Int) + 1))))]) [.cells [vi g']]) :=
  lv_next [.br true, .el (Post.pv p), .loop (XExit.exit 2) (St.mk (tmOf 56 [(1, AV.c (vi acc)), (2, AV.c (vi cur)), (8, AV.c (.own 3391 3 (List.map Lg.pv out))), (9, AV.c (.ptr 0 0)), (14, AV.c (.pv (.sl SO.shut 7 (List.map Post.pv l)))), (15, AV.c (vi (↑(List.length (List.map Post.pv l)) : Int))), (16, AV.c (vi (↑i : Int)))]) [.cells [vi g'], .cells (Post.cs p)])]
    (c := rq [(1, decide ((↑i : Int) < (↑(List.length (List.map Post.pv l)) : Int)) = true), (1, 0 ≤ (↑i : Int)), (1, (List.map Post.pv l)[i]? = some (Post.pv p)), ty h]) (by kernel_rfl)
    (aq ⟨(dT hi), (Int.natCast_nonneg _), (map_at hp), h, trivial⟩)
theorem yl451oo_1 (l : List Post) (p : Post) (out out' : List Lg) (acc cur g g' : Int) (i : Nat) (hp : l[i]? = some p) (hi : (↑i : Int) < (↑(List.length (List.map Post.pv l)) : Int)) (h : lv (cv (ev X E0) xf45_l0) (rl [1, 0, 5, 0, 1, 2, 0, 0, 4, 0, 0]) 2 (YS45 l p (ownG out) acc cur g (↑i : Int) 0) = some (XExit.exit 2, YS45e l p (ownG out') acc cur g' (↑i : Int))) :
    lv (cv (ev X E0) xf45_l1) (rl [1, 0, 5, 0, 4, 0, 0]) 1 (YS45o l (ownG out) acc cur g (↑i : Int)) = lv (cv (ev X E0) xf45_l1) (rl [1, 0, 5, 0, 4, 0, 0]) 1 (St.mk (tmOf 56 [(1, AV.c (vi acc)), (2, AV.c (vi cur)), (8, AV.c (.own 3391 3 (List.map Lg.pv out'))), (9, AV.c (.ptr 0 0)), (14, AV.c (.pv (.sl SO.shut 7 (List.map Post.pv l)))), (15, AV.c (vi (↑(List.length (List.map Post.pv l)) : Int))), (16, AV.c (vi (IntKind.wrap .i64 ((↑i : Int) + 1))))]) [.cells [vi g']]) :=
  lv_next [.br true, .el (Post.pv p), .loop (XExit.exit 2) (St.mk (tmOf 56 [(1, AV.c (vi acc)), (2, AV.c (vi cur)), (8, AV.c (.own 3391 3 (List.map Lg.pv out'))), (9, AV.c (.ptr 0 0)), (14, AV.c (.pv (.sl SO.shut 7 (List.map Post.pv l)))), (15, AV.c (vi (↑(List.length (List.map Post.pv l)) : Int))), (16, AV.c (vi (↑i : Int)))]) [.cells [vi g'], .cells (Post.cs p)])]
    (c := rq [(1, decide ((↑i : Int) < (↑(List.length (List.map Post.pv l)) : Int)) = true), (1, 0 ≤ (↑i : Int)), (1, (List.map Post.pv l)[i]? = some (Post.pv p)), ty h]) (by kernel_rfl)
    (aq ⟨(dT hi), (Int.natCast_nonneg _), (map_at hp), h, trivial⟩)
theorem yl451nx_1 (l : List Post) (acc cur g : Int) (i : Nat) (hi : ¬(↑i : Int) < (↑(List.length (List.map Post.pv l)) : Int)) :
    lv (cv (ev X E0) xf45_l1) (rl [1, 0, 5, 0, 4, 0, 0]) 1 (YS45o l nilC acc cur g (↑i : Int)) = some (XExit.exit 0, St.mk (tmOf 56 [(8, AV.c (.pv (.sl SO.nil 0 [])))]) [.cells [vi g]]) :=
  lv_exit [.br false]
    (c := [decide ((↑i : Int) < (↑(List.length (List.map Post.pv l)) : Int)) = false]) (by kernel_rfl)
    ⟨(dF hi), trivial⟩
theorem yl451ox_1 (l : List Post) (out : List Lg) (acc cur g : Int) (i : Nat) (hi : ¬(↑i : Int) < (↑(List.length (List.map Post.pv l)) : Int)) :
    lv (cv (ev X E0) xf45_l1) (rl [1, 0, 5, 0, 4, 0, 0]) 1 (YS45o l (ownG out) acc cur g (↑i : Int)) = some (XExit.exit 0, St.mk (tmOf 56 [(8, AV.c (.own 3391 3 (List.map Lg.pv out)))]) [.cells [vi g]]) :=
  lv_exit [.br false]
    (c := [decide ((↑i : Int) < (↑(List.length (List.map Post.pv l)) : Int)) = false]) (by kernel_rfl)
    ⟨(dF hi), trivial⟩
theorem yg45n_1 (l : List Post) (acc cur g : Int) (h : lv (cv (ev X E0) xf45_l1) (rl [1, 0, 5, 0, 4, 0, 0]) 1 (YS45o l nilC acc cur 0 0) = some (XExit.exit 0, St.mk (tmOf 56 [(8, AV.c nilC)]) [.cells [vi g]])) :
    cc (ev X E0) 45 [AV.c (.pv (.sl SO.shut 7 (List.map Post.pv l))), AV.c (vi acc), AV.c (vi cur)] [] = some (AV.tup [AV.c (.pv (.sl SO.nil 0 [])), AV.c (vi 0)], []) :=
  cc_path (x := xf45) rfl [.loop (XExit.exit 0) (St.mk (tmOf 56 [(8, AV.c (.pv (.sl SO.nil 0 [])))]) [.cells [vi g]])]
    (c := rq [ty h]) (by kernel_rfl)
    (aq ⟨h, trivial⟩)
theorem yg45o_1 (l : List Post) (out : List Lg) (acc cur g : Int) (h : lv (cv (ev X E0) xf45_l1) (rl [1, 0, 5, 0, 4, 0, 0]) 1 (YS45o l nilC acc cur 0 0) = some (XExit.exit 0, St.mk (tmOf 56 [(8, AV.c (ownG out))]) [.cells [vi g]])) :
    cc (ev X E0) 45 [AV.c (.pv (.sl SO.shut 7 (List.map Post.pv l))), AV.c (vi acc), AV.c (vi cur)] [] = some (AV.tup [AV.c (.own 0 3 (List.map Lg.pv out)), AV.c (vi 0)], []) :=
  cc_path (x := xf45) rfl [.loop (XExit.exit 0) (St.mk (tmOf 56 [(8, AV.c (.own 3391 3 (List.map Lg.pv out)))]) [.cells [vi g]])]
    (c := rq [ty h]) (by kernel_rfl)
    (aq ⟨h, trivial⟩)
theorem yg47_1 (x : Lg) (k v : Int) (g1 : Lg.value x ≤ v) :
    cc (ev X E0) 47 [AV.agg [vw (Lg.known x), vw (Lg.value x), vi (Lg.n x)], AV.c (.ptr 0 0), AV.c (.ptr 1 0)] [.cells [vw v], .cells [vw k]] = some (AV.c (.pv (.bool (decide (Lg.known x ≤ k)))), [.cells [vw v], .cells [vw k]]) :=
  cc_path (x := xf47) rfl (bs 5 true)
    (c := rq [(5, decide (Lg.value x ≤ v) = true)]) (by kernel_rfl)
    (aq ⟨(dT g1), trivial⟩)
theorem yg47_2 (x : Lg) (k v : Int) (g1 : ¬Lg.value x ≤ v) :
    cc (ev X E0) 47 [AV.agg [vw (Lg.known x), vw (Lg.value x), vi (Lg.n x)], AV.c (.ptr 0 0), AV.c (.ptr 1 0)] [.cells [vw v], .cells [vw k]] = some (AV.c (.pv (.bool false)), [.cells [vw v], .cells [vw k]]) :=
  cc_path (x := xf47) rfl (bs 5 false)
    (c := rq [(5, decide (Lg.value x ≤ v) = false)]) (by kernel_rfl)
    (aq ⟨(dF g1), trivial⟩)
abbrev YS46 (l : List Lg) (o : SO) (s : Nat) (k v n i : Int) : St := St.mk (tmOf 23 [(1, AV.c (CV.fn 47 [0, 1])), (5, AV.c (CV.pv (PV.int .i64 n))), (8, AV.c (CV.pv (PV.sl o s (List.map Lg.pv l)))), (9, AV.c (CV.pv (PV.int .i64 (↑(List.length (List.map Lg.pv l)) : Int)))), (10, AV.c (CV.pv (PV.int .i64 i)))]) [Box.cells [CV.pv (.int .i32 v)], Box.cells [CV.pv (.int .i32 k)]]
abbrev yl46_h (k v : Int) (w : Lg → Bool) : Prop := ∀ (x : Lg), cc (ev X E0) 47 [Lg.av x, AV.c (.ptr 0 0), AV.c (.ptr 1 0)] [.cells [vw v], .cells [vw k]] = some (AV.b (w x), [.cells [vw v], .cells [vw k]])
theorem yl46_1 (l : List Lg) (k v n : Int) (i : Nat) (w : Lg → Bool) (h : yl46_h k v w) (y1 : Lg) (g1 : (↑i : Int) < (↑(List.length (List.map Lg.pv l)) : Int)) (g2 : l[i]? = some y1) (g3 : w y1 = true) :
    lv (cv (ev X E0) xf46_l0) (rl [1, 3, 2, 0, 0]) 2 (YS46 l SO.shut 3 k v n (↑i : Int)) = lv (cv (ev X E0) xf46_l0) (rl [1, 3, 2, 0, 0]) 2 (St.mk (tmOf 23 [(1, AV.c (.fn 47 [0, 1])), (5, AV.c (vi (IntKind.wrap .i64 (n + Lg.n y1)))), (8, AV.c (.pv (.sl SO.shut 3 (List.map Lg.pv l)))), (9, AV.c (vi (↑(List.length (List.map Lg.pv l)) : Int))), (10, AV.c (vi (IntKind.wrap .i64 ((↑i : Int) + 1))))]) [.cells [vw v], .cells [vw k]]) :=
  lv_next [.br true, .el (.agg [PV.int .i32 (Lg.known y1), .int .i32 (Lg.value y1), .int .i64 (Lg.n y1)]), .call (AV.c (.pv (.bool (w y1)))) [.cells [vw v], .cells [vw k]], .br true]
    (c := [decide ((↑i : Int) < (↑(List.length (List.map Lg.pv l)) : Int)) = true, 0 ≤ (↑i : Int), (List.map Lg.pv l)[i]? = some (PV.agg [PV.int .i32 (Lg.known y1), .int .i32 (Lg.value y1), .int .i64 (Lg.n y1)]), cc (ev X E0) 47 [AV.agg [vw (Lg.known y1), vw (Lg.value y1), vi (Lg.n y1)], AV.c (.ptr 0 0), AV.c (.ptr 1 0)] [.cells [vw v], .cells [vw k]] = some (AV.c (.pv (.bool (w y1))), [.cells [vw v], .cells [vw k]]), w y1 = true]) (by kernel_rfl)
    ⟨(dT g1), (Int.natCast_nonneg _), (map_at g2), (h _), g3, trivial⟩
theorem yl46_2 (l : List Lg) (k v n : Int) (i : Nat) (w : Lg → Bool) (h : yl46_h k v w) (y1 : Lg) (g1 : (↑i : Int) < (↑(List.length (List.map Lg.pv l)) : Int)) (g2 : l[i]? = some y1) (g3 : w y1 = false) :
    lv (cv (ev X E0) xf46_l0) (rl [1, 3, 2, 0, 0]) 2 (YS46 l SO.shut 3 k v n (↑i : Int)) = lv (cv (ev X E0) xf46_l0) (rl [1, 3, 2, 0, 0]) 2 (St.mk (tmOf 23 [(1, AV.c (.fn 47 [0, 1])), (5, AV.c (vi n)), (8, AV.c (.pv (.sl SO.shut 3 (List.map Lg.pv l)))), (9, AV.c (vi (↑(List.length (List.map Lg.pv l)) : Int))), (10, AV.c (vi (IntKind.wrap .i64 ((↑i : Int) + 1))))]) [.cells [vw v], .cells [vw k]]) :=
  lv_next [.br true, .el (.agg [PV.int .i32 (Lg.known y1), .int .i32 (Lg.value y1), .int .i64 (Lg.n y1)]), .call (AV.c (.pv (.bool (w y1)))) [.cells [vw v], .cells [vw k]], .br false]
    (c := [decide ((↑i : Int) < (↑(List.length (List.map Lg.pv l)) : Int)) = true, 0 ≤ (↑i : Int), (List.map Lg.pv l)[i]? = some (PV.agg [PV.int .i32 (Lg.known y1), .int .i32 (Lg.value y1), .int .i64 (Lg.n y1)]), cc (ev X E0) 47 [AV.agg [vw (Lg.known y1), vw (Lg.value y1), vi (Lg.n y1)], AV.c (.ptr 0 0), AV.c (.ptr 1 0)] [.cells [vw v], .cells [vw k]] = some (AV.c (.pv (.bool (w y1))), [.cells [vw v], .cells [vw k]]), w y1 = false]) (by kernel_rfl)
    ⟨(dT g1), (Int.natCast_nonneg _), (map_at g2), (h _), g3, trivial⟩
theorem yl46_3 (l : List Lg) (k v n : Int) (i : Nat) (w : Lg → Bool) (_h : yl46_h k v w) (g1 : ¬(↑i : Int) < (↑(List.length (List.map Lg.pv l)) : Int)) :
    lv (cv (ev X E0) xf46_l0) (rl [1, 3, 2, 0, 0]) 2 (YS46 l SO.shut 3 k v n (↑i : Int)) = some (XExit.exit 0, St.mk (tmOf 23 [(5, AV.c (vi n))]) [.cells [vw v], .cells [vw k]]) :=
  lv_exit [.br false]
    (c := [decide ((↑i : Int) < (↑(List.length (List.map Lg.pv l)) : Int)) = false]) (by kernel_rfl)
    ⟨(dF g1), trivial⟩
theorem yl46z_1 (k v : Int) :
    lv (cv (ev X E0) xf46_l0) (rl [1, 3, 2, 0, 0]) 2 (YS46 [] SO.nil 0 k v 0 0) = some (XExit.exit 0, St.mk (tmOf 23 [(5, AV.c (vi 0))]) [.cells [vw v], .cells [vw k]]) :=
  lv_exit [.br false]
    (c := [false = false]) (by kernel_rfl)
    ⟨rfl, trivial⟩
theorem yg46_1 (l : List Lg) (k v n : Int) (h : lv (cv (ev X E0) xf46_l0) (rl [1, 3, 2, 0, 0]) 2 (YS46 l SO.shut 3 k v 0 0) = some (XExit.exit 0, St.mk (tmOf 23 [(5, AV.c (vi n))]) [.cells [vw v], .cells [vw k]])) :
    cc (ev X E0) 46 [AV.c (.pv (.sl SO.shut 3 (List.map Lg.pv l))), AV.c (.fn 47 [0, 1])] [.cells [vw v], .cells [vw k]] = some (AV.c (vi n), [.cells [vw v], .cells [vw k]]) :=
  cc_path (x := xf46) rfl [.loop (XExit.exit 0) (St.mk (tmOf 23 [(5, AV.c (vi n))]) [.cells [vw v], .cells [vw k]])]
    (c := rq [ty h]) (by kernel_rfl)
    (aq ⟨h, trivial⟩)
theorem yg46z_1 (k v : Int) (h : lv (cv (ev X E0) xf46_l0) (rl [1, 3, 2, 0, 0]) 2 (YS46 [] SO.nil 0 k v 0 0) = some (XExit.exit 0, St.mk (tmOf 23 [(5, AV.c (vi 0))]) [.cells [vw v], .cells [vw k]])) :
    cc (ev X E0) 46 [AV.c (.pv (.sl SO.nil 0 [])), AV.c (.fn 47 [0, 1])] [.cells [vw v], .cells [vw k]] = some (AV.c (vi 0), [.cells [vw v], .cells [vw k]]) :=
  cc_path (x := xf46) rfl [.loop (XExit.exit 0) (St.mk (tmOf 23 [(5, AV.c (vi 0))]) [.cells [vw v], .cells [vw k]])]
    (c := rq [ty h]) (by kernel_rfl)
    (aq ⟨h, trivial⟩)
theorem yg16z_1 (l : List Post) (acc cur k v : Int) (h44 : cc (ev X E0) 44 [AV.sl SO.shut 7 (List.map Post.pv l), AV.int IntKind.i32 v, AV.int IntKind.i32 v, AV.sl SO.full 1 [PV.int .i32 k]] [] = some (AV.i 0, [])) (h45 : cc (ev X E0) 45 [AV.sl SO.shut 7 (List.map Post.pv l), AV.i acc, AV.i cur] [] = some (AV.tup [AV.c nilC, AV.i 0], [])) (h46 : cc (ev X E0) 46 [AV.sl SO.nil 0 [], AV.c (.fn 47 [0, 1])] [.cells [vw v], .cells [vw k]] = some (AV.i 0, [.cells [vw v], .cells [vw k]])) :
    cc (ev X E0) 16 [AV.c (.pv (.sl SO.shut 7 (List.map Post.pv l))), AV.c (vi acc), AV.c (vi cur), AV.c (vw k), AV.c (vw v)] [] = some (AV.tup [AV.c (vi 0), AV.c (vi 0)], []) :=
  cc_path (x := xf16) rfl [.call (AV.c (vi (0 : Int))) [], .br false, .call (AV.tup [AV.c (.pv (.sl SO.nil (0 : Nat) [])), AV.c (vi (0 : Int))]) [], .call (AV.c (vi 0)) [.cells [vw v], .cells [vw k]]]
    (c := rq [ty h44, (1, false = false), ty h45, ty h46]) (by kernel_rfl)
    (aq ⟨h44, rfl, h45, h46, trivial⟩)
theorem yg16_1 (l : List Post) (out : List Lg) (acc cur k v n : Int) (h44 : cc (ev X E0) 44 [AV.sl SO.shut 7 (List.map Post.pv l), AV.int IntKind.i32 v, AV.int IntKind.i32 v, AV.sl SO.full 1 [PV.int .i32 k]] [] = some (AV.i 0, [])) (h45 : cc (ev X E0) 45 [AV.sl SO.shut 7 (List.map Post.pv l), AV.i acc, AV.i cur] [] = some (AV.tup [AV.c (.own 0 3 (List.map Lg.pv out)), AV.i 0], [])) (h46 : cc (ev X E0) 46 [AV.sl SO.shut 3 (List.map Lg.pv out), AV.c (.fn 47 [0, 1])] [.cells [vw v], .cells [vw k]] = some (AV.i n, [.cells [vw v], .cells [vw k]])) :
    cc (ev X E0) 16 [AV.c (.pv (.sl SO.shut 7 (List.map Post.pv l))), AV.c (vi acc), AV.c (vi cur), AV.c (vw k), AV.c (vw v)] [] = some (AV.tup [AV.c (vi n), AV.c (vi 0)], []) :=
  cc_path (x := xf16) rfl [.call (AV.c (vi (0 : Int))) [], .br false, .call (AV.tup [AV.c (.own 0 3 (List.map Lg.pv out)), AV.c (vi 0)]) [], .call (AV.c (vi n)) [.cells [vw v], .cells [vw k]]]
    (c := rq [ty h44, (1, false = false), ty h45, ty h46]) (by kernel_rfl)
    (aq ⟨h44, rfl, h45, h46, trivial⟩)
end Go.Sx.Tryd
