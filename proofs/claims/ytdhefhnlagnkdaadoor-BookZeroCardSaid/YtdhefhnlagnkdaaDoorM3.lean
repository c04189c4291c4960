/- The statement BookZero, of the evaluator. -/
import Derived.Test.YtdhefhnlagnkdaaDoorN8
import Derived.Test.YtdhefhnlagnkdaaDoorP3
import Derived.Test.YtdhefhnlagnkdaaDoorT0
namespace Go.Sx.Tryd
open Go Go.Sx
abbrev S7i (l : List Post) (o : SO) (s : Nat) (kv : List (PV × PV)) (v acc c all i : Int) (p : Post) (j : Int) : St := St.mk (tmOf 153 [(2, AV.c (CV.pv (PV.int .i32 v))), (3, AV.c (CV.pv (PV.int .i64 acc))), (9, AV.c (CV.ptr 0 0)), (10, AV.c (CV.pv (PV.int .i64 c))), (11, AV.c (CV.pv (PV.int .i64 all))), (12, AV.c (CV.mp 1)), (47, AV.c (CV.pv (PV.sl o s (List.map Post.pv l)))), (48, AV.c (CV.pv (PV.int .i64 (↑(List.length (List.map Post.pv l)) : Int)))), (49, AV.c (CV.pv (PV.int .i64 i))), (54, AV.c (CV.pv (PV.sl p.so 3 (List.map Leg.pv p.legs)))), (55, AV.c (CV.pv (PV.int .i64 (↑(List.length (List.map Leg.pv p.legs)) : Int)))), (56, AV.c (CV.pv (PV.int .i64 j)))]) [Box.cells [CV.pv (PV.sl o s (List.map Post.pv l))], Box.map kv, Box.cells (Post.cs p)]
theorem l7i_1 (l : List Post) (o : SO) (s : Nat) (kv : List (PV × PV)) (v : Int) (acc : Int) (c : Int) (all : Int) (i : Int) (p : Post) (j : Nat) (x : Leg) (hx : p.legs[j]? = some x) (n : Int) (h : cc (ev X E0) 33 [AV.sl o s (List.map Post.pv l), AV.i x.acc, AV.i c, AV.int IntKind.i32 v] [] = some (AV.tup [AV.i n, AV.i 0], [])) (y1 : List (PV × PV)) (g1 : (↑j : Int) < (↑(List.length (List.map Leg.pv p.legs)) : Int)) (g2 : mapGet kv (.int .i64 x.acc) = some none) (g3 : mapPut kv (.int .i64 x.acc) (.int .i64 1) = some y1) :
    lv (cv (ev X E0) xf7_l0) (rl [2, 0, 5, 0, 0, 0, 34, 0, 0, 4, 0, 0]) 3 (S7i l o s kv v acc c all i p (↑j : Int)) = lv (cv (ev X E0) xf7_l0) (rl [2, 0, 5, 0, 0, 0, 34, 0, 0, 4, 0, 0]) 3 (St.mk (tmOf 153 [(2, AV.c (vw v)), (3, AV.c (vi acc)), (9, AV.c (.ptr 0 0)), (10, AV.c (vi c)), (11, AV.c (vi (IntKind.wrap .i64 (all + n)))), (12, AV.c (.mp 1)), (47, AV.c (.pv (.sl o s (List.map Post.pv l)))), (48, AV.c (vi (↑(List.length (List.map Post.pv l)) : Int))), (49, AV.c (vi i)), (54, AV.c (.pv (.sl p.so 3 (List.map Leg.pv p.legs)))), (55, AV.c (vi (↑(List.length (List.map Leg.pv p.legs)) : Int))), (56, AV.c (vi (IntKind.wrap .i64 ((↑j : Int) + 1))))]) [.cells [.pv (.sl o s (List.map Post.pv l))], .map y1, .cells (Post.cs p)]) :=
  lv_next [.br true, .el (Leg.pv x), .opt none, .br false, .kv y1, .call (AV.tup [AV.c (vi n), AV.c (vi 0)]) [], .br false]
    (c := [decide ((↑j : Int) < (↑(List.length (List.map Leg.pv p.legs)) : Int)) = true, 0 ≤ (↑j : Int), (List.map Leg.pv p.legs)[j]? = some (Leg.pv x), mapGet kv (.int .i64 x.acc) = some none, false = false, mapPut kv (.int .i64 x.acc) (.int .i64 1) = some y1, cc (ev X E0) 33 [AV.c (.pv (.sl o s (List.map Post.pv l))), AV.c (vi x.acc), AV.c (vi c), AV.c (vw v)] [] = some (AV.tup [AV.c (vi n), AV.c (vi 0)], []), false = false]) (by kernel_rfl)
    ⟨(decide_eq_true g1), (Int.natCast_nonneg _), (map_at hx), g2, rfl, g3, (h), rfl, trivial⟩
theorem l7i_2 (l : List Post) (o : SO) (s : Nat) (kv : List (PV × PV)) (v : Int) (acc : Int) (c : Int) (all : Int) (i : Int) (p : Post) (j : Nat) (x : Leg) (hx : p.legs[j]? = some x) (n : Int) (h : cc (ev X E0) 33 [AV.sl o s (List.map Post.pv l), AV.i x.acc, AV.i c, AV.int IntKind.i32 v] [] = some (AV.tup [AV.i n, AV.i 0], [])) (y1 : Int) (g1 : (↑j : Int) < (↑(List.length (List.map Leg.pv p.legs)) : Int)) (g2 : mapGet kv (.int .i64 x.acc) = some (some (PV.int .i64 y1))) (g3 : y1 > 0) :
    lv (cv (ev X E0) xf7_l0) (rl [2, 0, 5, 0, 0, 0, 34, 0, 0, 4, 0, 0]) 3 (S7i l o s kv v acc c all i p (↑j : Int)) = lv (cv (ev X E0) xf7_l0) (rl [2, 0, 5, 0, 0, 0, 34, 0, 0, 4, 0, 0]) 3 (St.mk (tmOf 153 [(2, AV.c (vw v)), (3, AV.c (vi acc)), (9, AV.c (.ptr 0 0)), (10, AV.c (vi c)), (11, AV.c (vi all)), (12, AV.c (.mp 1)), (47, AV.c (.pv (.sl o s (List.map Post.pv l)))), (48, AV.c (vi (↑(List.length (List.map Post.pv l)) : Int))), (49, AV.c (vi i)), (54, AV.c (.pv (.sl p.so 3 (List.map Leg.pv p.legs)))), (55, AV.c (vi (↑(List.length (List.map Leg.pv p.legs)) : Int))), (56, AV.c (vi (IntKind.wrap .i64 ((↑j : Int) + 1))))]) [.cells [.pv (.sl o s (List.map Post.pv l))], .map kv, .cells (Post.cs p)]) :=
  lv_next [.br true, .el (Leg.pv x), .opt (some (PV.int .i64 y1)), .br true]
    (c := [decide ((↑j : Int) < (↑(List.length (List.map Leg.pv p.legs)) : Int)) = true, 0 ≤ (↑j : Int), (List.map Leg.pv p.legs)[j]? = some (Leg.pv x), mapGet kv (.int .i64 x.acc) = some (some (PV.int .i64 y1)), decide (y1 > 0) = true]) (by kernel_rfl)
    ⟨(decide_eq_true g1), (Int.natCast_nonneg _), (map_at hx), g2, (decide_eq_true g3), trivial⟩
theorem l7ix_1 (l : List Post) (o : SO) (s : Nat) (kv : List (PV × PV)) (v : Int) (acc : Int) (c : Int) (all : Int) (i : Int) (p : Post) (j : Nat) (hj : ¬(↑j : Int) < (↑(List.length (List.map Leg.pv p.legs)) : Int)) :
    lv (cv (ev X E0) xf7_l0) (rl [2, 0, 5, 0, 0, 0, 34, 0, 0, 4, 0, 0]) 3 (S7i l o s kv v acc c all i p (↑j : Int)) = some (XExit.exit 2, St.mk (tmOf 153 [(2, AV.c (vw v)), (3, AV.c (vi acc)), (9, AV.c (.ptr 0 0)), (10, AV.c (vi c)), (11, AV.c (vi all)), (12, AV.c (.mp 1)), (47, AV.c (.pv (.sl o s (List.map Post.pv l)))), (48, AV.c (vi (↑(List.length (List.map Post.pv l)) : Int))), (49, AV.c (vi i))]) [.cells [.pv (.sl o s (List.map Post.pv l))], .map kv, .cells (Post.cs p)]) :=
  lv_exit [.br false]
    (c := [decide ((↑j : Int) < (↑(List.length (List.map Leg.pv p.legs)) : Int)) = false]) (by kernel_rfl)
    ⟨(decide_eq_false hj), trivial⟩
abbrev S7 (l : List Post) (o : SO) (s : Nat) (kv : List (PV × PV)) (v acc c all i : Int) : St := St.mk (tmOf 153 [(2, AV.c (CV.pv (PV.int .i32 v))), (3, AV.c (CV.pv (PV.int .i64 acc))), (9, AV.c (CV.ptr 0 0)), (10, AV.c (CV.pv (PV.int .i64 c))), (11, AV.c (CV.pv (PV.int .i64 all))), (12, AV.c (CV.mp 1)), (47, AV.c (CV.pv (PV.sl o s (List.map Post.pv l)))), (48, AV.c (CV.pv (PV.int .i64 (↑(List.length (List.map Post.pv l)) : Int)))), (49, AV.c (CV.pv (PV.int .i64 i)))]) [Box.cells [CV.pv (PV.sl o s (List.map Post.pv l))], Box.map kv]
abbrev E7i (l : List Post) (o : SO) (s : Nat) (kv : List (PV × PV)) (v acc c all i : Int) (p : Post) : St := St.mk (tmOf 153 [(2, AV.c (CV.pv (PV.int .i32 v))), (3, AV.c (CV.pv (PV.int .i64 acc))), (9, AV.c (CV.ptr 0 0)), (10, AV.c (CV.pv (PV.int .i64 c))), (11, AV.c (CV.pv (PV.int .i64 all))), (12, AV.c (CV.mp 1)), (47, AV.c (CV.pv (PV.sl o s (List.map Post.pv l)))), (48, AV.c (CV.pv (PV.int .i64 (↑(List.length (List.map Post.pv l)) : Int)))), (49, AV.c (CV.pv (PV.int .i64 i)))]) [Box.cells [CV.pv (PV.sl o s (List.map Post.pv l))], Box.map kv, Box.cells (Post.cs p)]
theorem l7_1 (l : List Post) (o : SO) (s : Nat) (hs : SZ o s l) (kv : List (PV × PV)) (kv2 : List (PV × PV)) (v : Int) (acc : Int) (c : Int) (all : Int) (all2 : Int) (i : Nat) (p : Post) (hp : l[i]? = some p) (hl : lv (cv (ev X E0) xf7_l0) (rl [2, 0, 5, 0, 0, 0, 34, 0, 0, 4, 0, 0]) 3 (S7i l o s kv v acc c all (↑i : Int) p 0) = some (XExit.exit 2, E7i l o s kv2 v acc c all2 (↑i : Int) p)) (g1 : (↑i : Int) < (↑(List.length (List.map Post.pv l)) : Int)) :
    lv (cv (ev X E0) xf7_l1) (rl [2, 0, 5, 0, 0, 0, 34, 0, 0]) 2 (S7 l o s kv v acc c all (↑i : Int)) = lv (cv (ev X E0) xf7_l1) (rl [2, 0, 5, 0, 0, 0, 34, 0, 0]) 2 (St.mk (tmOf 153 [(2, AV.c (vw v)), (3, AV.c (vi acc)), (9, AV.c (.ptr 0 0)), (10, AV.c (vi c)), (11, AV.c (vi all2)), (12, AV.c (.mp 1)), (47, AV.c (.pv (.sl o s (List.map Post.pv l)))), (48, AV.c (vi (↑(List.length (List.map Post.pv l)) : Int))), (49, AV.c (vi (IntKind.wrap .i64 ((↑i : Int) + 1))))]) [.cells [.pv (.sl o s (List.map Post.pv l))], .map kv2]) :=
  lv_next [.br true, .sz, .el (Post.pv p), .loop (XExit.exit 2) (St.mk (tmOf 153 [(2, AV.c (vw v)), (3, AV.c (vi acc)), (9, AV.c (.ptr 0 0)), (10, AV.c (vi c)), (11, AV.c (vi all2)), (12, AV.c (.mp 1)), (47, AV.c (.pv (.sl o s (List.map Post.pv l)))), (48, AV.c (vi (↑(List.length (List.map Post.pv l)) : Int))), (49, AV.c (vi (↑i : Int)))]) [.cells [.pv (.sl o s (List.map Post.pv l))], .map kv2, .cells (Post.cs p)])]
    (c := [decide ((↑i : Int) < (↑(List.length (List.map Post.pv l)) : Int)) = true, SZ o s l, 0 ≤ (↑i : Int), (List.map Post.pv l)[i]? = some (Post.pv p), lv (cv (ev X E0) xf7_l0) (rl [2, 0, 5, 0, 0, 0, 34, 0, 0, 4, 0, 0]) 3 (St.mk (tmOf 153 [(2, AV.c (vw v)), (3, AV.c (vi acc)), (9, AV.c (.ptr 0 0)), (10, AV.c (vi c)), (11, AV.c (vi all)), (12, AV.c (.mp 1)), (47, AV.c (.pv (.sl o s (List.map Post.pv l)))), (48, AV.c (vi (↑(List.length (List.map Post.pv l)) : Int))), (49, AV.c (vi (↑i : Int))), (54, AV.c (.pv (.sl p.so 3 (List.map Leg.pv p.legs)))), (55, AV.c (vi (↑(List.length (List.map Leg.pv p.legs)) : Int))), (56, AV.c (vi 0))]) [.cells [.pv (.sl o s (List.map Post.pv l))], .map kv, .cells (Post.cs p)]) = some (XExit.exit 2, St.mk (tmOf 153 [(2, AV.c (vw v)), (3, AV.c (vi acc)), (9, AV.c (.ptr 0 0)), (10, AV.c (vi c)), (11, AV.c (vi all2)), (12, AV.c (.mp 1)), (47, AV.c (.pv (.sl o s (List.map Post.pv l)))), (48, AV.c (vi (↑(List.length (List.map Post.pv l)) : Int))), (49, AV.c (vi (↑i : Int)))]) [.cells [.pv (.sl o s (List.map Post.pv l))], .map kv2, .cells (Post.cs p)])]) (by kernel_rfl)
    ⟨(decide_eq_true g1), hs, (Int.natCast_nonneg _), (map_at hp), (hl), trivial⟩
theorem l7x_1 (l : List Post) (o : SO) (s : Nat) (kv : List (PV × PV)) (v : Int) (acc : Int) (c : Int) (all : Int) (i : Nat) (hi : ¬(↑i : Int) < (↑(List.length (List.map Post.pv l)) : Int)) :
    lv (cv (ev X E0) xf7_l1) (rl [2, 0, 5, 0, 0, 0, 34, 0, 0]) 2 (S7 l o s kv v acc c all (↑i : Int)) = some (XExit.exit 0, St.mk (tmOf 153 [(2, AV.c (vw v)), (3, AV.c (vi acc)), (9, AV.c (.ptr 0 0)), (10, AV.c (vi c)), (11, AV.c (vi all))]) [.cells [.pv (.sl o s (List.map Post.pv l))], .map kv]) :=
  lv_exit [.br false]
    (c := [decide ((↑i : Int) < (↑(List.length (List.map Post.pv l)) : Int)) = false]) (by kernel_rfl)
    ⟨(decide_eq_false hi), trivial⟩
abbrev S72 (l : List Post) (o : SO) (s : Nat) (kv : List (PV × PV)) (v acc c all : Int) (x : CV) (i : Int) : St := St.mk (tmOf 153 [(2, AV.c (CV.pv (PV.int .i32 v))), (3, AV.c (CV.pv (PV.int .i64 acc))), (9, AV.c (CV.ptr 0 0)), (10, AV.c (CV.pv (PV.int .i64 c))), (11, AV.c (CV.pv (PV.int .i64 all))), (19, AV.c x), (87, AV.c (CV.pv (PV.sl o s (List.map Post.pv l)))), (88, AV.c (CV.pv (PV.int .i64 (↑(List.length (List.map Post.pv l)) : Int)))), (89, AV.c (CV.pv (PV.int .i64 i)))]) [Box.cells [CV.pv (PV.sl o s (List.map Post.pv l))], Box.map kv]
theorem l72n_1 (l : List Post) (o : SO) (s : Nat) (hs : SZ o s l) (kv : List (PV × PV)) (v : Int) (acc : Int) (c : Int) (all : Int) (i : Nat) (y1 : Post) (g1 : (↑i : Int) < (↑(List.length (List.map Post.pv l)) : Int)) (g2 : l[i]? = some y1) (g3 : y1.value = v) (g4 : (↑(0 + List.length [Post.pv y1]) : Int) * 72 ≤ 140737488355328) :
    lv (cv (ev X E0) xf7_l2) (rl [2, 0, 5, 0, 0, 7, 67, 0, 0]) 2 (S72 l o s kv v acc c all (.pv (.sl SO.full 7 [])) (↑i : Int)) = lv (cv (ev X E0) xf7_l2) (rl [2, 0, 5, 0, 0, 7, 67, 0, 0]) 2 (St.mk (tmOf 153 [(2, AV.c (vw v)), (3, AV.c (vi acc)), (9, AV.c (.ptr 0 0)), (10, AV.c (vi c)), (11, AV.c (vi all)), (19, AV.c (.own 6463 7 [Post.pv y1])), (87, AV.c (.pv (.sl o s (List.map Post.pv l)))), (88, AV.c (vi (↑(List.length (List.map Post.pv l)) : Int))), (89, AV.c (vi (IntKind.wrap .i64 ((↑i : Int) + 1))))]) [.cells [.pv (.sl o s (List.map Post.pv l))], .map kv]) :=
  lv_next [.br true, .sz, .el (Post.pv y1), .br true, .emp false]
    (c := [decide ((↑i : Int) < (↑(List.length (List.map Post.pv l)) : Int)) = true, SZ o s l, 0 ≤ (↑i : Int), (List.map Post.pv l)[i]? = some (Post.pv y1), (y1.value == v) = true, [Post.pv y1] ≠ [], (↑(0 + List.length [Post.pv y1]) : Int) * 72 ≤ 140737488355328]) (by kernel_rfl)
    ⟨(decide_eq_true g1), hs, (Int.natCast_nonneg _), (map_at g2), (beq_iff_eq.mpr g3), (List.cons_ne_nil _ _), g4, trivial⟩
theorem l72n_2 (l : List Post) (o : SO) (s : Nat) (hs : SZ o s l) (kv : List (PV × PV)) (v : Int) (acc : Int) (c : Int) (all : Int) (i : Nat) (y1 : Post) (g1 : (↑i : Int) < (↑(List.length (List.map Post.pv l)) : Int)) (g2 : l[i]? = some y1) (g3 : ¬y1.value = v) :
    lv (cv (ev X E0) xf7_l2) (rl [2, 0, 5, 0, 0, 7, 67, 0, 0]) 2 (S72 l o s kv v acc c all (.pv (.sl SO.full 7 [])) (↑i : Int)) = lv (cv (ev X E0) xf7_l2) (rl [2, 0, 5, 0, 0, 7, 67, 0, 0]) 2 (St.mk (tmOf 153 [(2, AV.c (vw v)), (3, AV.c (vi acc)), (9, AV.c (.ptr 0 0)), (10, AV.c (vi c)), (11, AV.c (vi all)), (19, AV.c (.pv (.sl SO.full 7 []))), (87, AV.c (.pv (.sl o s (List.map Post.pv l)))), (88, AV.c (vi (↑(List.length (List.map Post.pv l)) : Int))), (89, AV.c (vi (IntKind.wrap .i64 ((↑i : Int) + 1))))]) [.cells [.pv (.sl o s (List.map Post.pv l))], .map kv]) :=
  lv_next [.br true, .sz, .el (Post.pv y1), .br false]
    (c := [decide ((↑i : Int) < (↑(List.length (List.map Post.pv l)) : Int)) = true, SZ o s l, 0 ≤ (↑i : Int), (List.map Post.pv l)[i]? = some (Post.pv y1), (y1.value == v) = false]) (by kernel_rfl)
    ⟨(decide_eq_true g1), hs, (Int.natCast_nonneg _), (map_at g2), (beq_eq_false_iff_ne.mpr g3), trivial⟩
theorem l72n_3 (l : List Post) (o : SO) (s : Nat) (hs : SZ o s l) (kv : List (PV × PV)) (v : Int) (acc : Int) (c : Int) (all : Int) (i : Nat) (g1 : ¬(↑i : Int) < (↑(List.length (List.map Post.pv l)) : Int)) :
    lv (cv (ev X E0) xf7_l2) (rl [2, 0, 5, 0, 0, 7, 67, 0, 0]) 2 (S72 l o s kv v acc c all (.pv (.sl SO.full 7 [])) (↑i : Int)) = some (XExit.exit 4, St.mk (tmOf 153 [(2, AV.c (vw v)), (3, AV.c (vi acc)), (9, AV.c (.ptr 0 0)), (10, AV.c (vi c)), (11, AV.c (vi all)), (19, AV.c (.pv (.sl SO.full 7 [])))]) [.cells [.pv (.sl o s (List.map Post.pv l))], .map kv]) :=
  lv_exit [.br false]
    (c := [decide ((↑i : Int) < (↑(List.length (List.map Post.pv l)) : Int)) = false]) (by kernel_rfl)
    ⟨(decide_eq_false g1), trivial⟩
theorem l72o_1 (l : List Post) (o : SO) (s : Nat) (hs : SZ o s l) (kv : List (PV × PV)) (v : Int) (acc : Int) (c : Int) (all : Int) (es : List PV) (i : Nat) (y1 : Post) (g1 : (↑i : Int) < (↑(List.length (List.map Post.pv l)) : Int)) (g2 : l[i]? = some y1) (g3 : y1.value = v) (g4 : (↑(List.length es + List.length [Post.pv y1]) : Int) * 72 ≤ 140737488355328) :
    lv (cv (ev X E0) xf7_l2) (rl [2, 0, 5, 0, 0, 7, 67, 0, 0]) 2 (S72 l o s kv v acc c all (.own 6463 7 es) (↑i : Int)) = lv (cv (ev X E0) xf7_l2) (rl [2, 0, 5, 0, 0, 7, 67, 0, 0]) 2 (St.mk (tmOf 153 [(2, AV.c (vw v)), (3, AV.c (vi acc)), (9, AV.c (.ptr 0 0)), (10, AV.c (vi c)), (11, AV.c (vi all)), (19, AV.c (.own 6463 7 (es ++ [Post.pv y1]))), (87, AV.c (.pv (.sl o s (List.map Post.pv l)))), (88, AV.c (vi (↑(List.length (List.map Post.pv l)) : Int))), (89, AV.c (vi (IntKind.wrap .i64 ((↑i : Int) + 1))))]) [.cells [.pv (.sl o s (List.map Post.pv l))], .map kv]) :=
  lv_next [.br true, .sz, .el (Post.pv y1), .br true]
    (c := [decide ((↑i : Int) < (↑(List.length (List.map Post.pv l)) : Int)) = true, SZ o s l, 0 ≤ (↑i : Int), (List.map Post.pv l)[i]? = some (Post.pv y1), (y1.value == v) = true, (↑(List.length es + List.length [Post.pv y1]) : Int) * 72 ≤ 140737488355328]) (by kernel_rfl)
    ⟨(decide_eq_true g1), hs, (Int.natCast_nonneg _), (map_at g2), (beq_iff_eq.mpr g3), g4, trivial⟩
theorem l72o_2 (l : List Post) (o : SO) (s : Nat) (hs : SZ o s l) (kv : List (PV × PV)) (v : Int) (acc : Int) (c : Int) (all : Int) (es : List PV) (i : Nat) (y1 : Post) (g1 : (↑i : Int) < (↑(List.length (List.map Post.pv l)) : Int)) (g2 : l[i]? = some y1) (g3 : ¬y1.value = v) :
    lv (cv (ev X E0) xf7_l2) (rl [2, 0, 5, 0, 0, 7, 67, 0, 0]) 2 (S72 l o s kv v acc c all (.own 6463 7 es) (↑i : Int)) = lv (cv (ev X E0) xf7_l2) (rl [2, 0, 5, 0, 0, 7, 67, 0, 0]) 2 (St.mk (tmOf 153 [(2, AV.c (vw v)), (3, AV.c (vi acc)), (9, AV.c (.ptr 0 0)), (10, AV.c (vi c)), (11, AV.c (vi all)), (19, AV.c (.own 6463 7 es)), (87, AV.c (.pv (.sl o s (List.map Post.pv l)))), (88, AV.c (vi (↑(List.length (List.map Post.pv l)) : Int))), (89, AV.c (vi (IntKind.wrap .i64 ((↑i : Int) + 1))))]) [.cells [.pv (.sl o s (List.map Post.pv l))], .map kv]) :=
  lv_next [.br true, .sz, .el (Post.pv y1), .br false]
    (c := [decide ((↑i : Int) < (↑(List.length (List.map Post.pv l)) : Int)) = true, SZ o s l, 0 ≤ (↑i : Int), (List.map Post.pv l)[i]? = some (Post.pv y1), (y1.value == v) = false]) (by kernel_rfl)
    ⟨(decide_eq_true g1), hs, (Int.natCast_nonneg _), (map_at g2), (beq_eq_false_iff_ne.mpr g3), trivial⟩
theorem l72o_3 (l : List Post) (o : SO) (s : Nat) (hs : SZ o s l) (kv : List (PV × PV)) (v : Int) (acc : Int) (c : Int) (all : Int) (es : List PV) (i : Nat) (g1 : ¬(↑i : Int) < (↑(List.length (List.map Post.pv l)) : Int)) :
    lv (cv (ev X E0) xf7_l2) (rl [2, 0, 5, 0, 0, 7, 67, 0, 0]) 2 (S72 l o s kv v acc c all (.own 6463 7 es) (↑i : Int)) = some (XExit.exit 4, St.mk (tmOf 153 [(2, AV.c (vw v)), (3, AV.c (vi acc)), (9, AV.c (.ptr 0 0)), (10, AV.c (vi c)), (11, AV.c (vi all)), (19, AV.c (.own 6463 7 es))]) [.cells [.pv (.sl o s (List.map Post.pv l))], .map kv]) :=
  lv_exit [.br false]
    (c := [decide ((↑i : Int) < (↑(List.length (List.map Post.pv l)) : Int)) = false]) (by kernel_rfl)
    ⟨(decide_eq_false g1), trivial⟩
abbrev cOf (cur : Int) : Int := IntKind.wrap .i64 (Int.tmod cur 4)
abbrev E7 (l : List Post) (o : SO) (s : Nat) (kv : List (PV × PV)) (v acc c all : Int) : St := St.mk (tmOf 153 [(2, AV.c (CV.pv (PV.int .i32 v))), (3, AV.c (CV.pv (PV.int .i64 acc))), (9, AV.c (CV.ptr 0 0)), (10, AV.c (CV.pv (PV.int .i64 c))), (11, AV.c (CV.pv (PV.int .i64 all)))]) [Box.cells [CV.pv (PV.sl o s (List.map Post.pv l))], Box.map kv]
abbrev E72 (l : List Post) (o : SO) (s : Nat) (kv : List (PV × PV)) (v acc c all : Int) (x : CV) : St := St.mk (tmOf 153 [(2, AV.c (CV.pv (PV.int .i32 v))), (3, AV.c (CV.pv (PV.int .i64 acc))), (9, AV.c (CV.ptr 0 0)), (10, AV.c (CV.pv (PV.int .i64 c))), (11, AV.c (CV.pv (PV.int .i64 all))), (19, AV.c x)]) [Box.cells [CV.pv (PV.sl o s (List.map Post.pv l))], Box.map kv]
theorem f7f_1 (l : List Post) (o : SO) (cur : Int) (v : Int) (acc : Int) (h15 : cc (ev X E0) 15 [AV.sl o 7 (List.map Post.pv l)] [] = some (AV.b false, [])) (h17 : cc (ev X E0) (17 : Nat) [] [] = some (AV.b true, [])) :
    cc (ev X E0) 7 [AV.c (.pv (.sl o 7 (List.map Post.pv l))), AV.c (.pv (.int .u8 cur)), AV.c (vw v), AV.c (vi acc)] [] = some (AV.c (.pv (.bool true)), []) :=
  cc_path (x := xf7) rfl [.call (AV.c (.pv (.bool false))) [], .br true, .br true, .br true, .br true, .br true, .br true, .br true, .call (AV.c (.pv (.bool true))) []]
    (c := [cc (ev X E0) 15 [AV.c (.pv (.sl o 7 (List.map Post.pv l)))] [] = some (AV.c (.pv (.bool false)), []), true = true, true = true, true = true, true = true, true = true, true = true, true = true, cc (ev X E0) (17 : Nat) [] [] = some (AV.c (.pv (.bool true)), [])]) (by kernel_rfl)
    ⟨(h15), rfl, rfl, rfl, rfl, rfl, rfl, rfl, (h17), trivial⟩
theorem f7g_1 (l : List Post) (o : SO) (cur : Int) (v : Int) (acc : Int) (h15 : cc (ev X E0) 15 [AV.sl o 7 (List.map Post.pv l)] [] = some (AV.b true, [])) (h17 : cc (ev X E0) (17 : Nat) [] [] = some (AV.b true, [])) (hv : v < -49999) :
    cc (ev X E0) 7 [AV.c (.pv (.sl o 7 (List.map Post.pv l))), AV.c (.pv (.int .u8 cur)), AV.c (vw v), AV.c (vi acc)] [] = some (AV.c (.pv (.bool true)), []) :=
  cc_path (x := xf7) rfl [.call (AV.c (.pv (.bool true))) [], .br false, .br false, .br false, .br true, .br true, .br true, .br true, .call (AV.c (.pv (.bool true))) []]
    (c := [cc (ev X E0) 15 [AV.c (.pv (.sl o 7 (List.map Post.pv l)))] [] = some (AV.c (.pv (.bool true)), []), false = false, false = false, false = false, decide (v < -49999) = true, decide (v < -49999) = true, decide (v < -49999) = true, true = true, cc (ev X E0) (17 : Nat) [] [] = some (AV.c (.pv (.bool true)), [])]) (by kernel_rfl)
    ⟨(h15), rfl, rfl, rfl, (decide_eq_true hv), (decide_eq_true hv), (decide_eq_true hv), rfl, (h17), trivial⟩
theorem f7h_1 (l : List Post) (o : SO) (cur : Int) (v : Int) (acc : Int) (h15 : cc (ev X E0) 15 [AV.sl o 7 (List.map Post.pv l)] [] = some (AV.b true, [])) (h17 : cc (ev X E0) (17 : Nat) [] [] = some (AV.b true, [])) (hv1 : ¬v < -49999) (hv : v > 50000) :
    cc (ev X E0) 7 [AV.c (.pv (.sl o 7 (List.map Post.pv l))), AV.c (.pv (.int .u8 cur)), AV.c (vw v), AV.c (vi acc)] [] = some (AV.c (.pv (.bool true)), []) :=
  cc_path (x := xf7) rfl [.call (AV.c (.pv (.bool true))) [], .br false, .br false, .br false, .br false, .br false, .br false, .br true, .call (AV.c (.pv (.bool true))) []]
    (c := [cc (ev X E0) 15 [AV.c (.pv (.sl o 7 (List.map Post.pv l)))] [] = some (AV.c (.pv (.bool true)), []), false = false, false = false, false = false, decide (v < -49999) = false, decide (v < -49999) = false, decide (v < -49999) = false, decide (v > 50000) = true, cc (ev X E0) (17 : Nat) [] [] = some (AV.c (.pv (.bool true)), [])]) (by kernel_rfl)
    ⟨(h15), rfl, rfl, rfl, (decide_eq_false hv1), (decide_eq_false hv1), (decide_eq_false hv1), (decide_eq_true hv), (h17), trivial⟩
theorem f7n_1 (l : List Post) (o : SO) (cur : Int) (v : Int) (acc : Int) (h15 : cc (ev X E0) 15 [AV.sl o 7 (List.map Post.pv l)] [] = some (AV.b true, [])) (h17 : cc (ev X E0) (17 : Nat) [] [] = some (AV.b true, [])) (hv1 : ¬v < -49999) (hv : ¬v > 50000) (o1 : SO) (s1 : Nat) (b : List Post) (kv : List (PV × PV)) (n1 : Int) (n2 : Int) (n3 : Int) (h36 : cs (ev X E0) 36 [AV.sl o 7 (List.map Post.pv l)] = some (Bk o1 s1 b)) (hl1 : lv (cv (ev X E0) xf7_l1) (rl [2, 0, 5, 0, 0, 0, 34, 0, 0]) 2 (S7 b o1 s1 [] v acc (cOf cur) 0 0) = some (XExit.exit 0, E7 b o1 s1 kv v acc (cOf cur) 0)) (hl2 : lv (cv (ev X E0) xf7_l2) (rl [2, 0, 5, 0, 0, 7, 67, 0, 0]) 2 (S72 b o1 s1 kv v acc (cOf cur) 0 (.pv (.sl SO.full 7 [])) 0) = some (XExit.exit 4, E72 b o1 s1 kv v acc (cOf cur) 0 (.pv (.sl SO.full 7 [])))) (ha : cc (ev X E0) 33 [AV.sl o1 s1 (List.map Post.pv b), AV.i acc, AV.i (cOf cur), AV.int IntKind.i32 v] [] = some (AV.tup [AV.i n1, AV.i 0], [])) (hb : cc (ev X E0) 33 [AV.sl o1 s1 (List.map Post.pv b), AV.i acc, AV.i (cOf cur), AV.int IntKind.i32 (IntKind.wrap .i32 (v - 1))] [] = some (AV.tup [AV.i n2, AV.i 0], [])) (hc : cc (ev X E0) 33 [AV.c (.pv (.sl SO.full 7 [])), AV.i acc, AV.i (cOf cur), AV.int IntKind.i32 v] [] = some (AV.tup [AV.i n3, AV.i 0], [])) :
    cc (ev X E0) 7 [AV.c (.pv (.sl o 7 (List.map Post.pv l))), AV.c (.pv (.int .u8 cur)), AV.c (vw v), AV.c (vi acc)] [] = some (AV.c (.pv (.bool (n1 == IntKind.wrap .i64 (n2 + n3)))), []) :=
  cc_path (x := xf7) rfl [.call (AV.c (.pv (.bool true))) [], .br false, .br false, .br false, .br false, .br false, .br false, .br false, .shut (AV.agg [.pv (.sl o1 s1 (List.map Post.pv b))]), .loop (XExit.exit 0) (St.mk (tmOf 153 [(2, AV.c (vw v)), (3, AV.c (vi acc)), (9, AV.c (.ptr 0 0)), (10, AV.c (vi (cOf cur))), (11, AV.c (vi 0))]) [.cells [.pv (.sl o1 s1 (List.map Post.pv b))], .map kv]), .loop (XExit.exit 4) (St.mk (tmOf 153 [(2, AV.c (vw v)), (3, AV.c (vi acc)), (9, AV.c (.ptr 0 0)), (10, AV.c (vi (cOf cur))), (11, AV.c (vi 0)), (19, AV.c (.pv (.sl SO.full 7 [])))]) [.cells [.pv (.sl o1 s1 (List.map Post.pv b))], .map kv]), .call (AV.tup [AV.c (vi n1), AV.c (vi 0)]) [], .call (AV.tup [AV.c (vi n2), AV.c (vi 0)]) [], .call (AV.tup [AV.c (vi n3), AV.c (vi 0)]) [], .call (AV.c (.pv (.bool true))) [], .br true, .br true, .br true, .br true, .br true, .br true, .br true, .br true, .br true, .br true, .br true, .br true, .br true, .br true, .br true, .br true, .br true, .br true]
    (c := [cc (ev X E0) 15 [AV.c (.pv (.sl o 7 (List.map Post.pv l)))] [] = some (AV.c (.pv (.bool true)), []), false = false, false = false, false = false, decide (v < -49999) = false, decide (v < -49999) = false, decide (v < -49999) = false, decide (v > 50000) = false, cs (ev X E0) 36 [AV.c (.pv (.sl o 7 (List.map Post.pv l)))] = some (AV.agg [.pv (.sl o1 s1 (List.map Post.pv b))]), (4 : Int) ≠ (0 : Int), lv (cv (ev X E0) xf7_l1) (rl [2, 0, 5, 0, 0, 0, 34, 0, 0]) 2 (St.mk (tmOf 153 [(2, AV.c (vw v)), (3, AV.c (vi acc)), (9, AV.c (.ptr 0 0)), (10, AV.c (vi (IntKind.wrap .i64 (Int.tmod cur 4)))), (11, AV.c (vi 0)), (12, AV.c (.mp 1)), (47, AV.c (.pv (.sl o1 s1 (List.map Post.pv b)))), (48, AV.c (vi (↑(List.length (List.map Post.pv b)) : Int))), (49, AV.c (vi 0))]) [.cells [.pv (.sl o1 s1 (List.map Post.pv b))], .map []]) = some (XExit.exit 0, St.mk (tmOf 153 [(2, AV.c (vw v)), (3, AV.c (vi acc)), (9, AV.c (.ptr 0 0)), (10, AV.c (vi (cOf cur))), (11, AV.c (vi 0))]) [.cells [.pv (.sl o1 s1 (List.map Post.pv b))], .map kv]), lv (cv (ev X E0) xf7_l2) (rl [2, 0, 5, 0, 0, 7, 67, 0, 0]) 2 (St.mk (tmOf 153 [(2, AV.c (vw v)), (3, AV.c (vi acc)), (9, AV.c (.ptr 0 0)), (10, AV.c (vi (cOf cur))), (11, AV.c (vi 0)), (19, AV.c (.pv (.sl SO.full 7 []))), (87, AV.c (.pv (.sl o1 s1 (List.map Post.pv b)))), (88, AV.c (vi (↑(List.length (List.map Post.pv b)) : Int))), (89, AV.c (vi 0))]) [.cells [.pv (.sl o1 s1 (List.map Post.pv b))], .map kv]) = some (XExit.exit 4, St.mk (tmOf 153 [(2, AV.c (vw v)), (3, AV.c (vi acc)), (9, AV.c (.ptr 0 0)), (10, AV.c (vi (cOf cur))), (11, AV.c (vi 0)), (19, AV.c (.pv (.sl SO.full 7 [])))]) [.cells [.pv (.sl o1 s1 (List.map Post.pv b))], .map kv]), cc (ev X E0) 33 [AV.c (.pv (.sl o1 s1 (List.map Post.pv b))), AV.c (vi acc), AV.c (vi (cOf cur)), AV.c (vw v)] [] = some (AV.tup [AV.c (vi n1), AV.c (vi 0)], []), cc (ev X E0) 33 [AV.c (.pv (.sl o1 s1 (List.map Post.pv b))), AV.c (vi acc), AV.c (vi (cOf cur)), AV.c (vw (IntKind.wrap .i32 (v - 1)))] [] = some (AV.tup [AV.c (vi n2), AV.c (vi 0)], []), cc (ev X E0) 33 [AV.c (.pv (.sl SO.full 7 [])), AV.c (vi acc), AV.c (vi (cOf cur)), AV.c (vw v)] [] = some (AV.tup [AV.c (vi n3), AV.c (vi 0)], []), cc (ev X E0) (17 : Nat) [] [] = some (AV.c (.pv (.bool true)), []), true = true, true = true, true = true, true = true, true = true, true = true, true = true, true = true, true = true, true = true, true = true, true = true, true = true, true = true, true = true, true = true, true = true, true = true]) (by kernel_rfl)
    ⟨(h15), rfl, rfl, rfl, (decide_eq_false hv1), (decide_eq_false hv1), (decide_eq_false hv1), (decide_eq_false hv), (h36), (by decide), (hl1), (hl2), (ha), (hb), (hc), (h17), rfl, rfl, rfl, rfl, rfl, rfl, rfl, rfl, rfl, rfl, rfl, rfl, rfl, rfl, rfl, rfl, rfl, rfl, trivial⟩
theorem f7o_1 (l : List Post) (o : SO) (cur : Int) (v : Int) (acc : Int) (h15 : cc (ev X E0) 15 [AV.sl o 7 (List.map Post.pv l)] [] = some (AV.b true, [])) (h17 : cc (ev X E0) (17 : Nat) [] [] = some (AV.b true, [])) (hv1 : ¬v < -49999) (hv : ¬v > 50000) (o1 : SO) (s1 : Nat) (b : List Post) (kv : List (PV × PV)) (n1 : Int) (n2 : Int) (n3 : Int) (es : List PV) (h36 : cs (ev X E0) 36 [AV.sl o 7 (List.map Post.pv l)] = some (Bk o1 s1 b)) (hl1 : lv (cv (ev X E0) xf7_l1) (rl [2, 0, 5, 0, 0, 0, 34, 0, 0]) 2 (S7 b o1 s1 [] v acc (cOf cur) 0 0) = some (XExit.exit 0, E7 b o1 s1 kv v acc (cOf cur) 0)) (hl2 : lv (cv (ev X E0) xf7_l2) (rl [2, 0, 5, 0, 0, 7, 67, 0, 0]) 2 (S72 b o1 s1 kv v acc (cOf cur) 0 (.pv (.sl SO.full 7 [])) 0) = some (XExit.exit 4, E72 b o1 s1 kv v acc (cOf cur) 0 (.own 6463 7 es))) (ha : cc (ev X E0) 33 [AV.sl o1 s1 (List.map Post.pv b), AV.i acc, AV.i (cOf cur), AV.int IntKind.i32 v] [] = some (AV.tup [AV.i n1, AV.i 0], [])) (hb : cc (ev X E0) 33 [AV.sl o1 s1 (List.map Post.pv b), AV.i acc, AV.i (cOf cur), AV.int IntKind.i32 (IntKind.wrap .i32 (v - 1))] [] = some (AV.tup [AV.i n2, AV.i 0], [])) (hc : cc (ev X E0) 33 [AV.sl SO.shut 7 es, AV.i acc, AV.i (cOf cur), AV.int IntKind.i32 v] [] = some (AV.tup [AV.i n3, AV.i 0], [])) :
    cc (ev X E0) 7 [AV.c (.pv (.sl o 7 (List.map Post.pv l))), AV.c (.pv (.int .u8 cur)), AV.c (vw v), AV.c (vi acc)] [] = some (AV.c (.pv (.bool (n1 == IntKind.wrap .i64 (n2 + n3)))), []) :=
  cc_path (x := xf7) rfl [.call (AV.c (.pv (.bool true))) [], .br false, .br false, .br false, .br false, .br false, .br false, .br false, .shut (AV.agg [.pv (.sl o1 s1 (List.map Post.pv b))]), .loop (XExit.exit 0) (St.mk (tmOf 153 [(2, AV.c (vw v)), (3, AV.c (vi acc)), (9, AV.c (.ptr 0 0)), (10, AV.c (vi (cOf cur))), (11, AV.c (vi 0))]) [.cells [.pv (.sl o1 s1 (List.map Post.pv b))], .map kv]), .loop (XExit.exit 4) (St.mk (tmOf 153 [(2, AV.c (vw v)), (3, AV.c (vi acc)), (9, AV.c (.ptr 0 0)), (10, AV.c (vi (cOf cur))), (11, AV.c (vi 0)), (19, AV.c (.own 6463 7 es))]) [.cells [.pv (.sl o1 s1 (List.map Post.pv b))], .map kv]), .call (AV.tup [AV.c (vi n1), AV.c (vi 0)]) [], .call (AV.tup [AV.c (vi n2), AV.c (vi 0)]) [], .call (AV.tup [AV.c (vi n3), AV.c (vi 0)]) [], .call (AV.c (.pv (.bool true))) [], .br true, .br true, .br true, .br true, .br true, .br true, .br true, .br true, .br true, .br true, .br true, .br true, .br true, .br true, .br true, .br true, .br true, .br true]
    (c := [cc (ev X E0) 15 [AV.c (.pv (.sl o 7 (List.map Post.pv l)))] [] = some (AV.c (.pv (.bool true)), []), false = false, false = false, false = false, decide (v < -49999) = false, decide (v < -49999) = false, decide (v < -49999) = false, decide (v > 50000) = false, cs (ev X E0) 36 [AV.c (.pv (.sl o 7 (List.map Post.pv l)))] = some (AV.agg [.pv (.sl o1 s1 (List.map Post.pv b))]), (4 : Int) ≠ (0 : Int), lv (cv (ev X E0) xf7_l1) (rl [2, 0, 5, 0, 0, 0, 34, 0, 0]) 2 (St.mk (tmOf 153 [(2, AV.c (vw v)), (3, AV.c (vi acc)), (9, AV.c (.ptr 0 0)), (10, AV.c (vi (IntKind.wrap .i64 (Int.tmod cur 4)))), (11, AV.c (vi 0)), (12, AV.c (.mp 1)), (47, AV.c (.pv (.sl o1 s1 (List.map Post.pv b)))), (48, AV.c (vi (↑(List.length (List.map Post.pv b)) : Int))), (49, AV.c (vi 0))]) [.cells [.pv (.sl o1 s1 (List.map Post.pv b))], .map []]) = some (XExit.exit 0, St.mk (tmOf 153 [(2, AV.c (vw v)), (3, AV.c (vi acc)), (9, AV.c (.ptr 0 0)), (10, AV.c (vi (cOf cur))), (11, AV.c (vi 0))]) [.cells [.pv (.sl o1 s1 (List.map Post.pv b))], .map kv]), lv (cv (ev X E0) xf7_l2) (rl [2, 0, 5, 0, 0, 7, 67, 0, 0]) 2 (St.mk (tmOf 153 [(2, AV.c (vw v)), (3, AV.c (vi acc)), (9, AV.c (.ptr 0 0)), (10, AV.c (vi (cOf cur))), (11, AV.c (vi 0)), (19, AV.c (.pv (.sl SO.full 7 []))), (87, AV.c (.pv (.sl o1 s1 (List.map Post.pv b)))), (88, AV.c (vi (↑(List.length (List.map Post.pv b)) : Int))), (89, AV.c (vi 0))]) [.cells [.pv (.sl o1 s1 (List.map Post.pv b))], .map kv]) = some (XExit.exit 4, St.mk (tmOf 153 [(2, AV.c (vw v)), (3, AV.c (vi acc)), (9, AV.c (.ptr 0 0)), (10, AV.c (vi (cOf cur))), (11, AV.c (vi 0)), (19, AV.c (.own 6463 7 es))]) [.cells [.pv (.sl o1 s1 (List.map Post.pv b))], .map kv]), cc (ev X E0) 33 [AV.c (.pv (.sl o1 s1 (List.map Post.pv b))), AV.c (vi acc), AV.c (vi (cOf cur)), AV.c (vw v)] [] = some (AV.tup [AV.c (vi n1), AV.c (vi 0)], []), cc (ev X E0) 33 [AV.c (.pv (.sl o1 s1 (List.map Post.pv b))), AV.c (vi acc), AV.c (vi (cOf cur)), AV.c (vw (IntKind.wrap .i32 (v - 1)))] [] = some (AV.tup [AV.c (vi n2), AV.c (vi 0)], []), cc (ev X E0) 33 [AV.c (.pv (.sl SO.shut 7 es)), AV.c (vi acc), AV.c (vi (cOf cur)), AV.c (vw v)] [] = some (AV.tup [AV.c (vi n3), AV.c (vi 0)], []), cc (ev X E0) (17 : Nat) [] [] = some (AV.c (.pv (.bool true)), []), true = true, true = true, true = true, true = true, true = true, true = true, true = true, true = true, true = true, true = true, true = true, true = true, true = true, true = true, true = true, true = true, true = true, true = true]) (by kernel_rfl)
    ⟨(h15), rfl, rfl, rfl, (decide_eq_false hv1), (decide_eq_false hv1), (decide_eq_false hv1), (decide_eq_false hv), (h36), (by decide), (hl1), (hl2), (ha), (hb), (hc), (h17), rfl, rfl, rfl, rfl, rfl, rfl, rfl, rfl, rfl, rfl, rfl, rfl, rfl, rfl, rfl, rfl, rfl, rfl, trivial⟩
-- keep l7i: 1 2
-- keep l7: 1
def F7 (c v : Int) (b : List Post) (a : Int) : Int := sumBook a c v b
def seenL (ks : List Int) (l : List Leg) : List Int := l.foldl (fun ks x => addK ks x.acc) ks
theorem addK_nodup {ks : List Int} {k : Int} (h : ks.Nodup) : (addK ks k).Nodup := by
  unfold addK
  split
  · exact h
  · rename_i hn
    rw [List.nodup_append]
    exact ⟨h, by simp, fun a ha b hb => by simp only [List.mem_singleton] at hb; rw [hb]; exact fun e => hn (e ▸ ha)⟩
theorem seenL_facts : ∀ (l : List Leg) (ks : List Int), ks.Nodup → (seenL ks l).Nodup ∧ (∀ k ∈ ks, k ∈ seenL ks l) ∧ ∀ x ∈ l, x.acc ∈ seenL ks l
  | [], ks, h => ⟨h, fun _ hk => hk, by simp⟩
  | x :: l, ks, h => by
    obtain ⟨h1, h2, h3⟩ := seenL_facts l (addK ks x.acc) (addK_nodup h)
    refine ⟨h1, fun k hk => h2 k (mem_addK.2 (.inl hk)), fun y hy => ?_⟩
    rcases List.mem_cons.1 hy with rfl | hy
    · exact h2 _ (mem_addK.2 (.inr rfl))
    · exact h3 y hy
theorem a7i {b : List Post} {o : SO} {s : Nat} {v acc c i : Int} {p : Post} (hl : p.legs.length ≤ 1000000) (h33 : ∀ a, cc (ev X E0) 33 [AV.sl o s (List.map Post.pv b), AV.i a, AV.i c, AV.int .i32 v] [] = some (.tup [.i (F7 c v b a), .i 0], [])) (ks0 : List Int) : ∀ (r pre : List Leg), p.legs = pre ++ r →
    lv (cv (ev X E0) xf7_l0) (rl [2, 0, 5, 0, 0, 0, 34, 0, 0, 4, 0, 0]) 3 (S7i b o s (kvi (seenL ks0 pre)) v acc c (IntKind.wrap .i64 (sumOver (seenL ks0 pre) (F7 c v b))) i p (pre.length : Nat)) = some (XExit.exit 2, E7i b o s (kvi (seenL ks0 p.legs)) v acc c (IntKind.wrap .i64 (sumOver (seenL ks0 p.legs) (F7 c v b))) i p)
  | [], pre, e => by
    rw [List.append_nil] at e
    rw [← e]
    exact l7ix_1 b o s _ v acc c _ i p p.legs.length (by simp)
  | x :: r, pre, e => by
    have hlen : p.legs.length = pre.length + r.length + 1 := by rw [e]; simp; omega
    have hat : p.legs[pre.length]? = some x := by rw [e]; simp
    have hlt := lt_len (l := p.legs) (i := pre.length) (by omega)
    have ih := a7i (v := v) (acc := acc) (c := c) (i := i) hl h33 ks0 r (pre ++ [x]) (by rw [e]; simp)
    have hsn : seenL ks0 (pre ++ [x]) = addK (seenL ks0 pre) x.acc := by simp [seenL]
    rw [List.length_append, List.length_singleton, Int.natCast_add, Int.natCast_one, hsn] at ih
    have hg := get_kvi x.acc (seenL ks0 pre)
    by_cases hk : x.acc ∈ seenL ks0 pre
    · rw [if_pos hk] at hg
      rw [show addK (seenL ks0 pre) x.acc = seenL ks0 pre by unfold addK; rw [if_pos hk]] at ih
      have st := l7i_2 b o s _ v acc c (IntKind.wrap .i64 (sumOver (seenL ks0 pre) (F7 c v b))) i p pre.length x hat _ (h33 x.acc) 1 hlt hg (by decide)
      rw [wi64 (n := ((pre.length : Nat) : Int) + 1) (by omega) (by omega)] at st
      exact st.trans ih
    · rw [if_neg hk] at hg
      rw [show addK (seenL ks0 pre) x.acc = seenL ks0 pre ++ [x.acc] by unfold addK; rw [if_neg hk], sumOver_snoc] at ih
      have st := l7i_1 b o s _ v acc c (IntKind.wrap .i64 (sumOver (seenL ks0 pre) (F7 c v b))) i p pre.length x hat _ (h33 x.acc) _ hlt hg (put_kvi x.acc _ hk)
      rw [wi64 (n := ((pre.length : Nat) : Int) + 1) (by omega) (by omega), wrap_add] at st
      exact st.trans ih
def seenB (ks : List Int) (b : List Post) : List Int := b.foldl (fun ks p => seenL ks p.legs) ks
theorem seenB_facts : ∀ (b : List Post) (ks : List Int), ks.Nodup → (seenB ks b).Nodup ∧ (∀ k ∈ ks, k ∈ seenB ks b) ∧ ∀ p ∈ b, ∀ x ∈ p.legs, x.acc ∈ seenB ks b
  | [], ks, h => ⟨h, fun _ hk => hk, by simp⟩
  | p :: b, ks, h => by
    obtain ⟨g1, g2, g3⟩ := seenL_facts p.legs ks h
    obtain ⟨h1, h2, h3⟩ := seenB_facts b (seenL ks p.legs) g1
    refine ⟨h1, fun k hk => h2 k (g2 k hk), fun q hq x hx => ?_⟩
    rcases List.mem_cons.1 hq with rfl | hq
    · exact h2 _ (g3 x hx)
    · exact h3 q hq x hx
theorem a7 {b : List Post} {o : SO} {s : Nat} (hs : szOk 7 (CV.pv (PV.sl o s (List.map Post.pv b))) = true) {v acc c : Int} (hl : b.length ≤ 1000000) (hN : ∀ p ∈ b, Nice p) (h33 : ∀ a, cc (ev X E0) 33 [AV.sl o s (List.map Post.pv b), AV.i a, AV.i c, AV.int .i32 v] [] = some (.tup [.i (F7 c v b a), .i 0], [])) : ∀ (r pre : List Post), b = pre ++ r →
    lv (cv (ev X E0) xf7_l1) (rl [2, 0, 5, 0, 0, 0, 34, 0, 0]) 2 (S7 b o s (kvi (seenB [] pre)) v acc c (IntKind.wrap .i64 (sumOver (seenB [] pre) (F7 c v b))) (pre.length : Nat)) = some (XExit.exit 0, E7 b o s (kvi (seenB [] b)) v acc c (IntKind.wrap .i64 (sumOver (seenB [] b) (F7 c v b))))
  | [], pre, e => by
    rw [List.append_nil] at e
    rw [← e]
    exact l7x_1 b o s _ v acc c _ b.length (by simp)
  | p :: r, pre, e => by
    have hlen : b.length = pre.length + r.length + 1 := by rw [e]; simp; omega
    have hat : b[pre.length]? = some p := by rw [e]; simp
    have hlt := ltP (l := b) (i := pre.length) (by omega)
    have hp := hN p (by rw [e]; simp)
    have ih := a7 (v := v) (acc := acc) (c := c) hs hl hN h33 r (pre ++ [p]) (by rw [e]; simp)
    have hsn : seenB [] (pre ++ [p]) = seenL (seenB [] pre) p.legs := by simp [seenB]
    rw [List.length_append, List.length_singleton, Int.natCast_add, Int.natCast_one, hsn] at ih
    have hin := a7i (v := v) (acc := acc) (c := c) (i := ((pre.length : Nat) : Int)) (p := p) hp.legs h33 (seenB [] pre) p.legs [] rfl
    have st := l7_1 b o s hs _ _ v acc c _ _ pre.length p hat hin hlt
    rw [wi64 (n := ((pre.length : Nat) : Int) + 1) (by omega) (by omega)] at st
    exact st.trans ih
def onDay (v : Int) (p : Post) : Bool := p.value == v
def outD (es : List Post) : CV := if es.isEmpty then CV.pv (PV.sl SO.full 7 []) else CV.own 6463 7 (es.map Post.pv)
theorem outD_snoc (es : List Post) (y : Post) : outD (es ++ [y]) = CV.own 6463 7 (es.map Post.pv ++ [Post.pv y]) := by
  unfold outD
  rw [if_neg (by simp)]; simp
theorem outD_cases (es : List Post) : (es = [] ∧ outD es = CV.pv (PV.sl SO.full 7 [])) ∨ (es ≠ [] ∧ outD es = CV.own 6463 7 (es.map Post.pv)) := by
  unfold outD; cases es <;> simp
theorem b7 {b : List Post} {o : SO} {s : Nat} (hs : szOk 7 (CV.pv (PV.sl o s (List.map Post.pv b))) = true) {kv : List (PV × PV)} {v acc c all : Int} (hl : b.length ≤ 1000000) : ∀ (r pre : List Post), b = pre ++ r →
    lv (cv (ev X E0) xf7_l2) (rl [2, 0, 5, 0, 0, 7, 67, 0, 0]) 2 (S72 b o s kv v acc c all (outD (pre.filter (onDay v))) (pre.length : Nat)) = some (XExit.exit 4, E72 b o s kv v acc c all (outD (b.filter (onDay v))))
  | [], pre, e => by
    rw [List.append_nil] at e
    rw [← e]
    rcases outD_cases (b.filter (onDay v)) with ⟨_, h0⟩ | ⟨_, h0⟩
    · rw [h0]; exact l72n_3 b o s hs kv v acc c all b.length (by simp)
    · rw [h0]; exact l72o_3 b o s hs kv v acc c all _ b.length (by simp)
  | y :: r, pre, e => by
    have hlen : b.length = pre.length + r.length + 1 := by rw [e]; simp; omega
    have hat : b[pre.length]? = some y := by rw [e]; simp
    have hlt := ltP (l := b) (i := pre.length) (by omega)
    have hfl : (pre.filter (onDay v)).length ≤ pre.length := List.length_filter_le _ _
    have ih := b7 (kv := kv) (v := v) (acc := acc) (c := c) (all := all) hs hl r (pre ++ [y]) (by rw [e]; simp)
    rw [List.length_append, List.length_singleton, Int.natCast_add, Int.natCast_one, List.filter_append] at ih
    by_cases h : y.value = v
    · rw [show [y].filter (onDay v) = [y] by simp [onDay, h], outD_snoc] at ih
      rcases outD_cases (pre.filter (onDay v)) with ⟨h1, h0⟩ | ⟨_, h0⟩
      · have st := l72n_1 b o s hs kv v acc c all pre.length y hlt hat h (by simp)
        rw [wi64 (n := ((pre.length : Nat) : Int) + 1) (by omega) (by omega)] at st
        rw [h1] at ih
        rw [h0]; exact st.trans ih
      · have st := l72o_1 b o s hs kv v acc c all ((pre.filter (onDay v)).map Post.pv) pre.length y hlt hat h (by simp only [List.length_map, List.length_singleton]; omega)
        rw [wi64 (n := ((pre.length : Nat) : Int) + 1) (by omega) (by omega)] at st
        rw [h0]; exact st.trans ih
    · rw [show [y].filter (onDay v) = [] by simp [onDay, h], List.append_nil] at ih
      rcases outD_cases (pre.filter (onDay v)) with ⟨_, h0⟩ | ⟨_, h0⟩
      · have st := l72n_2 b o s hs kv v acc c all pre.length y hlt hat h
        rw [wi64 (n := ((pre.length : Nat) : Int) + 1) (by omega) (by omega)] at st
        rw [h0] at ih ⊢; exact st.trans ih
      · have st := l72o_2 b o s hs kv v acc c all ((pre.filter (onDay v)).map Post.pv) pre.length y hlt hat h
        rw [wi64 (n := ((pre.length : Nat) : Int) + 1) (by omega) (by omega)] at st
        rw [h0] at ih ⊢; exact st.trans ih
theorem BookZero0 (l : List Post) (o : SO) (cur v acc : Int) (hcur : 0 ≤ cur ∧ cur ≤ 255) (hwl : ∀ p ∈ l, p.so = .nil → p.legs = []) : cc (ev X E0) 7 [AV.sl o 7 (l.map Post.pv), AV.int .u8 cur, AV.int .i32 v, AV.i acc] [] = some (.b true, []) := by
  have h15 := s15 l o
  cases hb : fitsAll l with
  | false => rw [hb] at h15; exact f7f_1 l o cur v acc h15 alive
  | true =>
  rw [hb] at h15
  by_cases hv1 : v < -49999
  · exact f7g_1 l o cur v acc h15 alive hv1
  by_cases hv2 : v > 50000
  · exact f7h_1 l o cur v acc h15 alive hv1 hv2
  obtain ⟨hl, hfa⟩ := fits_fair hb
  have hN : ∀ p ∈ l, Nice p := fun p hp => by
    have h := (hfa p hp).1
    simp only [fits, decide_eq_true_eq] at h
    exact ⟨by omega, by omega, hwl p hp⟩
  have hB := made_built hN
  have hBl := hB.len
  have h36 := s36 (o := o) (by omega) hN
  have hc : cOf cur = cur % 4 := by
    unfold cOf
    rw [Int.tmod_eq_emod_of_nonneg hcur.1, wi64 (by omega) (by omega)]
  have hc0 : 0 ≤ cOf cur ∧ cOf cur < 4 := by rw [hc]; omega
  have hchk := right_chk hB.right
  have h33 : ∀ a w, cc (ev X E0) 33 [AV.sl (bo (made l)) (bz (made l)) (List.map Post.pv (made l)), AV.i a, AV.i (cOf cur), AV.int .i32 w] [] = some (.tup [.i (F7 (cOf cur) w (made l) a), .i 0], []) := fun a w => by
    have := s33 (b_sz (made l)) a (cOf cur) w (by omega) hchk hB.nice
    rw [if_neg (by omega), if_neg (by omega)] at this
    exact this
  have hl1 := a7 (v := v) (acc := acc) (c := cOf cur) (b_sz (made l)) (by omega) hB.nice (fun a => h33 a v) (made l) [] rfl
  obtain ⟨g1, _, g3⟩ := seenB_facts (made l) [] List.nodup_nil
  have hz : sumOver (seenB [] (made l)) (F7 (cOf cur) v (made l)) = 0 := all_zero g1 hc0.1 hc0.2 fun p hp => ⟨hchk p hp, g3 p hp⟩
  rw [hz] at hl1
  have hl2 := b7 (b := made l) (kv := kvi (seenB [] (made l))) (v := v) (acc := acc) (c := cOf cur) (all := 0) (b_sz (made l)) (by omega) (made l) [] rfl
  have hday := by_day acc (cOf cur) v (made l)
  have hw32 : IntKind.wrap .i32 (v - 1) = v - 1 := wi32 (by omega) (by omega)
  have hb2 := h33 acc (v - 1)
  rw [← hw32] at hb2
  have hdl : ((made l).filter (onDay v)).length ≤ (made l).length := List.length_filter_le _ _
  have hdc : ∀ p ∈ (made l).filter (onDay v), chk p = 0 := fun p hp => hchk p (List.mem_filter.1 hp).1
  have hdN : ∀ p ∈ (made l).filter (onDay v), Nice p := fun p hp => hB.nice p (List.mem_filter.1 hp).1
  have b1 := sumBook_bound (acc := acc) (cur := cOf cur) (v := v) hchk
  have e3 : sumBook acc (cOf cur) v (made l) = F7 (cOf cur) (IntKind.wrap .i32 (v - 1)) (made l) acc + sumBook acc (cOf cur) v ((made l).filter (onDay v)) := by
    rw [hw32]; exact hday
  have hend : ∀ n3, n3 = sumBook acc (cOf cur) v ((made l).filter (onDay v)) → (F7 (cOf cur) v (made l) acc == IntKind.wrap .i64 (F7 (cOf cur) (IntKind.wrap .i32 (v - 1)) (made l) acc + n3)) = true := fun n3 hn => by
    rw [hn, ← e3, wi64 (by omega) (by omega)]
    exact beq_self_eq_true _
  rcases outD_cases ((made l).filter (onDay v)) with ⟨hn, h0⟩ | ⟨hn, h0⟩
  · rw [h0] at hl2
    have h3 := s33 (l := []) (o := .full) (s := 7) rfl acc (cOf cur) v (by simp) (by simp) (by simp)
    rw [if_neg (by omega), if_neg (by omega)] at h3
    have := f7n_1 l o cur v acc h15 alive hv1 hv2 _ _ _ _ _ _ _ h36 hl1 hl2 (h33 acc v) hb2 h3
    rw [hend _ (by rw [hn])] at this
    exact this
  · rw [h0] at hl2
    have h3 := s33 (l := (made l).filter (onDay v)) (o := .shut) (s := 7) rfl acc (cOf cur) v (by omega) hdc hdN
    rw [if_neg (by omega), if_neg (by omega)] at h3
    have := f7o_1 l o cur v acc h15 alive hv1 hv2 _ _ _ _ _ _ _ _ h36 hl1 hl2 (h33 acc v) hb2 h3
    rw [hend _ rfl] at this
    exact this
theorem BookZero (x0 : PV) (t0 : WT (.sl ctP) x0) (x1 : PV) (t1 : WT (.int .u8) x1) (x2 : PV) (t2 : WT (.int .i32) x2) (x3 : PV) (t3 : WT (.int .i64) x3) : ev X E0 7 [.c (.pv x0), .c (.pv x1), .c (.pv x2), .c (.pv x3)] [] = some (.b true, []) := by
  obtain ⟨o, l, rfl, hl, _⟩ := posts_inv t0
  obtain ⟨cur, c1, c2, rfl⟩ := u8_inv t1
  obtain ⟨v, _, _, rfl⟩ := i32_inv t2
  obtain ⟨acc, _, _, rfl⟩ := i64_inv t3
  exact ev_cc (BookZero0 l o cur v acc ⟨c1, c2⟩ fun p hp => (hl p hp).so)
end Go.Sx.Tryd
