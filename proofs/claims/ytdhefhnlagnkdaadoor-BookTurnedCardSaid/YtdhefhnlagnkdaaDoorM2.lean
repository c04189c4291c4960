/- The statement BookTurned, of the evaluator. -/
import Derived.Test.YtdhefhnlagnkdaaDoorN8
import Derived.Test.YtdhefhnlagnkdaaDoorP2
import Derived.Test.YtdhefhnlagnkdaaDoorT0
namespace Go.Sx.Tryd
open Go Go.Sx
abbrev S6 (acc cur v : Int) (x y : CV) (l : List Post) (o : SO) (i : Int) : St := St.mk (tmOf 138 [(1, AV.c (CV.pv (PV.int .i64 acc))), (2, AV.c (CV.pv (PV.int .i64 cur))), (3, AV.c (CV.pv (PV.int .i32 v))), (9, AV.c x), (10, AV.c y), (30, AV.c (CV.pv (PV.sl o 7 (List.map Post.pv l)))), (31, AV.c (CV.pv (PV.int .i64 (↑(List.length (List.map Post.pv l)) : Int)))), (32, AV.c (CV.pv (PV.int .i64 i)))]) []
abbrev m6 : List Bool := rl [1, 0, 0, 5, 0, 19, 0, 0]
theorem l6n_1 (acc : Int) (cur : Int) (v : Int) (l : List Post) (o : SO) (i : Nat) (y : Post) (hy : l[i]? = some y) (e : Int) (h : cc (ev X E0) 37 [Post.av (norm7 y)] [] = some (AV.i e, [])) (g1 : (↑i : Int) < (↑(List.length (List.map Post.pv l)) : Int)) (g2 : e = 0) (g3 : (↑(0 + List.length [PV.agg [PV.int .i64 1, .int .i32 7, .int .i32 y.value, .sl y.so 3 (List.map Leg.pv y.legs), .int .i64 0, .int .i64 y.kind, .str y.memo]]) : Int) * 72 ≤ 140737488355328) :
    lv (cv (ev X E0) xf6_l0) (rl [1, 0, 0, 5, 0, 19, 0, 0]) 0 (S6 acc cur v (.pv (.sl SO.full 7 [])) (.pv (.sl SO.full 7 [])) l o (↑i : Int)) = lv (cv (ev X E0) xf6_l0) (rl [1, 0, 0, 5, 0, 19, 0, 0]) 0 (St.mk (tmOf 138 [(1, AV.c (vi acc)), (2, AV.c (vi cur)), (3, AV.c (vw v)), (9, AV.c (.own 2943 7 [PV.agg [PV.int .i64 1, .int .i32 7, .int .i32 y.value, .sl y.so 3 (List.map Leg.pv y.legs), .int .i64 0, .int .i64 y.kind, .str y.memo]])), (10, AV.c (.pv (.sl SO.full 7 []))), (30, AV.c (.pv (.sl o 7 (List.map Post.pv l)))), (31, AV.c (vi (↑(List.length (List.map Post.pv l)) : Int))), (32, AV.c (vi (IntKind.wrap .i64 ((↑i : Int) + 1))))]) []) :=
  lv_next [.br true, .el (Post.pv y), .call (AV.c (vi e)) [], .br true, .emp false]
    (c := [decide ((↑i : Int) < (↑(List.length (List.map Post.pv l)) : Int)) = true, 0 ≤ (↑i : Int), (List.map Post.pv l)[i]? = some (Post.pv y), cc (ev X E0) 37 [AV.agg [vi 1, vw 7, vw y.value, .pv (.sl y.so 3 (List.map Leg.pv y.legs)), vi 0, vi y.kind, .pv (.str y.memo)]] [] = some (AV.c (vi e), []), (e == 0) = true, [PV.agg [PV.int .i64 1, .int .i32 7, .int .i32 y.value, .sl y.so 3 (List.map Leg.pv y.legs), .int .i64 0, .int .i64 y.kind, .str y.memo]] ≠ [], (↑(0 + List.length [PV.agg [PV.int .i64 1, .int .i32 7, .int .i32 y.value, .sl y.so 3 (List.map Leg.pv y.legs), .int .i64 0, .int .i64 y.kind, .str y.memo]]) : Int) * 72 ≤ 140737488355328]) (by kernel_rfl)
    ⟨(decide_eq_true g1), (Int.natCast_nonneg _), (map_at hy), (h), (beq_iff_eq.mpr g2), (List.cons_ne_nil _ _), g3, trivial⟩
theorem l6n_2 (acc : Int) (cur : Int) (v : Int) (l : List Post) (o : SO) (i : Nat) (y : Post) (hy : l[i]? = some y) (e : Int) (h : cc (ev X E0) 37 [Post.av (norm7 y)] [] = some (AV.i e, [])) (g1 : (↑i : Int) < (↑(List.length (List.map Post.pv l)) : Int)) (g2 : ¬e = 0) :
    lv (cv (ev X E0) xf6_l0) (rl [1, 0, 0, 5, 0, 19, 0, 0]) 0 (S6 acc cur v (.pv (.sl SO.full 7 [])) (.pv (.sl SO.full 7 [])) l o (↑i : Int)) = lv (cv (ev X E0) xf6_l0) (rl [1, 0, 0, 5, 0, 19, 0, 0]) 0 (St.mk (tmOf 138 [(1, AV.c (vi acc)), (2, AV.c (vi cur)), (3, AV.c (vw v)), (9, AV.c (.pv (.sl SO.full 7 []))), (10, AV.c (.pv (.sl SO.full 7 []))), (30, AV.c (.pv (.sl o 7 (List.map Post.pv l)))), (31, AV.c (vi (↑(List.length (List.map Post.pv l)) : Int))), (32, AV.c (vi (IntKind.wrap .i64 ((↑i : Int) + 1))))]) []) :=
  lv_next [.br true, .el (Post.pv y), .call (AV.c (vi e)) [], .br false]
    (c := [decide ((↑i : Int) < (↑(List.length (List.map Post.pv l)) : Int)) = true, 0 ≤ (↑i : Int), (List.map Post.pv l)[i]? = some (Post.pv y), cc (ev X E0) 37 [AV.agg [vi 1, vw 7, vw y.value, .pv (.sl y.so 3 (List.map Leg.pv y.legs)), vi 0, vi y.kind, .pv (.str y.memo)]] [] = some (AV.c (vi e), []), (e == 0) = false]) (by kernel_rfl)
    ⟨(decide_eq_true g1), (Int.natCast_nonneg _), (map_at hy), (h), (beq_eq_false_iff_ne.mpr g2), trivial⟩
theorem l6o_1 (acc : Int) (cur : Int) (v : Int) (j : Nat) (es : List PV) (l : List Post) (o : SO) (i : Nat) (y : Post) (hy : l[i]? = some y) (e : Int) (h : cc (ev X E0) 37 [Post.av (norm7 y)] [] = some (AV.i e, [])) (g1 : (↑i : Int) < (↑(List.length (List.map Post.pv l)) : Int)) (g2 : e = 0) (g3 : (↑(List.length es + List.length [PV.agg [PV.int .i64 1, .int .i32 7, .int .i32 y.value, .sl y.so 3 (List.map Leg.pv y.legs), .int .i64 0, .int .i64 y.kind, .str y.memo]]) : Int) * 72 ≤ 140737488355328) :
    lv (cv (ev X E0) xf6_l0) (rl [1, 0, 0, 5, 0, 19, 0, 0]) 0 (S6 acc cur v (.own j 7 es) (.pv (.sl SO.full 7 [])) l o (↑i : Int)) = lv (cv (ev X E0) xf6_l0) (rl [1, 0, 0, 5, 0, 19, 0, 0]) 0 (St.mk (tmOf 138 [(1, AV.c (vi acc)), (2, AV.c (vi cur)), (3, AV.c (vw v)), (9, AV.c (.own 2943 7 (es ++ [PV.agg [PV.int .i64 1, .int .i32 7, .int .i32 y.value, .sl y.so 3 (List.map Leg.pv y.legs), .int .i64 0, .int .i64 y.kind, .str y.memo]]))), (10, AV.c (.pv (.sl SO.full 7 []))), (30, AV.c (.pv (.sl o 7 (List.map Post.pv l)))), (31, AV.c (vi (↑(List.length (List.map Post.pv l)) : Int))), (32, AV.c (vi (IntKind.wrap .i64 ((↑i : Int) + 1))))]) []) :=
  lv_next [.br true, .el (Post.pv y), .call (AV.c (vi e)) [], .br true]
    (c := [decide ((↑i : Int) < (↑(List.length (List.map Post.pv l)) : Int)) = true, 0 ≤ (↑i : Int), (List.map Post.pv l)[i]? = some (Post.pv y), cc (ev X E0) 37 [AV.agg [vi 1, vw 7, vw y.value, .pv (.sl y.so 3 (List.map Leg.pv y.legs)), vi 0, vi y.kind, .pv (.str y.memo)]] [] = some (AV.c (vi e), []), (e == 0) = true, (↑(List.length es + List.length [PV.agg [PV.int .i64 1, .int .i32 7, .int .i32 y.value, .sl y.so 3 (List.map Leg.pv y.legs), .int .i64 0, .int .i64 y.kind, .str y.memo]]) : Int) * 72 ≤ 140737488355328]) (by kernel_rfl)
    ⟨(decide_eq_true g1), (Int.natCast_nonneg _), (map_at hy), (h), (beq_iff_eq.mpr g2), g3, trivial⟩
theorem l6o_2 (acc : Int) (cur : Int) (v : Int) (j : Nat) (es : List PV) (l : List Post) (o : SO) (i : Nat) (y : Post) (hy : l[i]? = some y) (e : Int) (h : cc (ev X E0) 37 [Post.av (norm7 y)] [] = some (AV.i e, [])) (g1 : (↑i : Int) < (↑(List.length (List.map Post.pv l)) : Int)) (g2 : ¬e = 0) :
    lv (cv (ev X E0) xf6_l0) (rl [1, 0, 0, 5, 0, 19, 0, 0]) 0 (S6 acc cur v (.own j 7 es) (.pv (.sl SO.full 7 [])) l o (↑i : Int)) = lv (cv (ev X E0) xf6_l0) (rl [1, 0, 0, 5, 0, 19, 0, 0]) 0 (St.mk (tmOf 138 [(1, AV.c (vi acc)), (2, AV.c (vi cur)), (3, AV.c (vw v)), (9, AV.c (.own j 7 es)), (10, AV.c (.pv (.sl SO.full 7 []))), (30, AV.c (.pv (.sl o 7 (List.map Post.pv l)))), (31, AV.c (vi (↑(List.length (List.map Post.pv l)) : Int))), (32, AV.c (vi (IntKind.wrap .i64 ((↑i : Int) + 1))))]) []) :=
  lv_next [.br true, .el (Post.pv y), .call (AV.c (vi e)) [], .br false]
    (c := [decide ((↑i : Int) < (↑(List.length (List.map Post.pv l)) : Int)) = true, 0 ≤ (↑i : Int), (List.map Post.pv l)[i]? = some (Post.pv y), cc (ev X E0) 37 [AV.agg [vi 1, vw 7, vw y.value, .pv (.sl y.so 3 (List.map Leg.pv y.legs)), vi 0, vi y.kind, .pv (.str y.memo)]] [] = some (AV.c (vi e), []), (e == 0) = false]) (by kernel_rfl)
    ⟨(decide_eq_true g1), (Int.natCast_nonneg _), (map_at hy), (h), (beq_eq_false_iff_ne.mpr g2), trivial⟩
theorem l6xn_1 (acc : Int) (cur : Int) (v : Int) (l : List Post) (o : SO) (i : Nat) (hi : ¬(↑i : Int) < (↑(List.length (List.map Post.pv l)) : Int)) :
    lv (cv (ev X E0) xf6_l0) (rl [1, 0, 0, 5, 0, 19, 0, 0]) 0 (S6 acc cur v (.pv (.sl SO.full 7 [])) (.pv (.sl SO.full 7 [])) l o (↑i : Int)) = some (XExit.exit 0, St.mk (tmOf 138 [(1, AV.c (vi acc)), (2, AV.c (vi cur)), (3, AV.c (vw v)), (9, AV.c (.pv (.sl SO.full 7 []))), (10, AV.c (.pv (.sl SO.full 7 [])))]) []) :=
  lv_exit [.br false]
    (c := [decide ((↑i : Int) < (↑(List.length (List.map Post.pv l)) : Int)) = false]) (by kernel_rfl)
    ⟨(decide_eq_false hi), trivial⟩
theorem l6xo_1 (acc : Int) (cur : Int) (v : Int) (j : Nat) (es : List PV) (l : List Post) (o : SO) (i : Nat) (hi : ¬(↑i : Int) < (↑(List.length (List.map Post.pv l)) : Int)) :
    lv (cv (ev X E0) xf6_l0) (rl [1, 0, 0, 5, 0, 19, 0, 0]) 0 (S6 acc cur v (.own j 7 es) (.pv (.sl SO.full 7 [])) l o (↑i : Int)) = some (XExit.exit 0, St.mk (tmOf 138 [(1, AV.c (vi acc)), (2, AV.c (vi cur)), (3, AV.c (vw v)), (9, AV.c (.own j 7 es)), (10, AV.c (.pv (.sl SO.full 7 [])))]) []) :=
  lv_exit [.br false]
    (c := [decide ((↑i : Int) < (↑(List.length (List.map Post.pv l)) : Int)) = false]) (by kernel_rfl)
    ⟨(decide_eq_false hi), trivial⟩
abbrev S6b (acc cur v : Int) (j : Nat) (row : List Post) (y : CV) (i : Int) : St := St.mk (tmOf 138 [(1, AV.c (CV.pv (PV.int .i64 acc))), (2, AV.c (CV.pv (PV.int .i64 cur))), (3, AV.c (CV.pv (PV.int .i32 v))), (9, AV.c (CV.own j 7 (List.map Post.pv row))), (10, AV.c y), (48, AV.c (CV.pv (PV.int .i64 (↑(List.length (List.map Post.pv row)) : Int)))), (49, AV.c (CV.pv (PV.int .i64 i)))]) []
theorem l6bn_1 (acc : Int) (cur : Int) (v : Int) (row : List Post) (i : Nat) (y : Post) (hy : row[Int.toNat (IntKind.wrap .i64 (IntKind.wrap .i64 ((↑(List.length (List.map Post.pv row)) : Int) - 1) - (↑i : Int)))]? = some y) (g1 : (↑i : Int) < (↑(List.length (List.map Post.pv row)) : Int)) (g2 : 0 ≤ IntKind.wrap .i64 (IntKind.wrap .i64 ((↑(List.length (List.map Post.pv row)) : Int) - 1) - (↑i : Int))) (g3 : (↑(0 + List.length [Post.pv y]) : Int) * 72 ≤ 140737488355328) :
    lv (cv (ev X E0) xf6_l1) (rl [1, 0, 0, 5, 0, 37, 0]) 0 (S6b acc cur v 2943 row (.pv (.sl SO.full 7 [])) (↑i : Int)) = lv (cv (ev X E0) xf6_l1) (rl [1, 0, 0, 5, 0, 37, 0]) 0 (St.mk (tmOf 138 [(1, AV.c (vi acc)), (2, AV.c (vi cur)), (3, AV.c (vw v)), (9, AV.c (.own 2943 7 (List.map Post.pv row))), (10, AV.c (.own 4031 7 [Post.pv y])), (48, AV.c (vi (↑(List.length (List.map Post.pv row)) : Int))), (49, AV.c (vi (IntKind.wrap .i64 ((↑i : Int) + 1))))]) []) :=
  lv_next [.br true, .el (Post.pv y), .emp false]
    (c := [decide ((↑i : Int) < (↑(List.length (List.map Post.pv row)) : Int)) = true, 0 ≤ IntKind.wrap .i64 (IntKind.wrap .i64 ((↑(List.length (List.map Post.pv row)) : Int) - 1) - (↑i : Int)), (List.map Post.pv row)[Int.toNat (IntKind.wrap .i64 (IntKind.wrap .i64 ((↑(List.length (List.map Post.pv row)) : Int) - 1) - (↑i : Int)))]? = some (Post.pv y), [Post.pv y] ≠ [], (↑(0 + List.length [Post.pv y]) : Int) * 72 ≤ 140737488355328]) (by kernel_rfl)
    ⟨(decide_eq_true g1), g2, (map_at hy), (List.cons_ne_nil _ _), g3, trivial⟩
theorem l6bo_1 (acc : Int) (cur : Int) (v : Int) (row : List Post) (k : Nat) (es : List PV) (i : Nat) (y : Post) (hy : row[Int.toNat (IntKind.wrap .i64 (IntKind.wrap .i64 ((↑(List.length (List.map Post.pv row)) : Int) - 1) - (↑i : Int)))]? = some y) (g1 : (↑i : Int) < (↑(List.length (List.map Post.pv row)) : Int)) (g2 : 0 ≤ IntKind.wrap .i64 (IntKind.wrap .i64 ((↑(List.length (List.map Post.pv row)) : Int) - 1) - (↑i : Int))) (g3 : (↑(List.length es + List.length [Post.pv y]) : Int) * 72 ≤ 140737488355328) :
    lv (cv (ev X E0) xf6_l1) (rl [1, 0, 0, 5, 0, 37, 0]) 0 (S6b acc cur v 2943 row (.own 4031 7 es) (↑i : Int)) = lv (cv (ev X E0) xf6_l1) (rl [1, 0, 0, 5, 0, 37, 0]) 0 (St.mk (tmOf 138 [(1, AV.c (vi acc)), (2, AV.c (vi cur)), (3, AV.c (vw v)), (9, AV.c (.own 2943 7 (List.map Post.pv row))), (10, AV.c (.own 4031 7 (es ++ [Post.pv y]))), (48, AV.c (vi (↑(List.length (List.map Post.pv row)) : Int))), (49, AV.c (vi (IntKind.wrap .i64 ((↑i : Int) + 1))))]) []) :=
  lv_next [.br true, .el (Post.pv y)]
    (c := [decide ((↑i : Int) < (↑(List.length (List.map Post.pv row)) : Int)) = true, 0 ≤ IntKind.wrap .i64 (IntKind.wrap .i64 ((↑(List.length (List.map Post.pv row)) : Int) - 1) - (↑i : Int)), (List.map Post.pv row)[Int.toNat (IntKind.wrap .i64 (IntKind.wrap .i64 ((↑(List.length (List.map Post.pv row)) : Int) - 1) - (↑i : Int)))]? = some (Post.pv y), (↑(List.length es + List.length [Post.pv y]) : Int) * 72 ≤ 140737488355328]) (by kernel_rfl)
    ⟨(decide_eq_true g1), g2, (map_at hy), g3, trivial⟩
theorem l6bz_1 (acc : Int) (cur : Int) (v : Int) :
    lv (cv (ev X E0) xf6_l1) (rl [1, 0, 0, 5, 0, 37, 0]) 0 (St.mk (tmOf 138 [(1, AV.c (vi acc)), (2, AV.c (vi cur)), (3, AV.c (vw v)), (9, AV.c (.pv (.sl SO.full 7 []))), (10, AV.c (.pv (.sl SO.full 7 []))), (48, AV.c (vi 0)), (49, AV.c (vi 0))]) []) = some (XExit.exit 2, St.mk (tmOf 138 [(1, AV.c (vi acc)), (2, AV.c (vi cur)), (3, AV.c (vw v)), (9, AV.c (.pv (.sl SO.full 7 []))), (10, AV.c (.pv (.sl SO.full 7 [])))]) []) :=
  lv_exit [.br false]
    (c := [false = false]) (by kernel_rfl)
    ⟨rfl, trivial⟩
theorem l6bx_1 (acc : Int) (cur : Int) (v : Int) (row : List Post) (es : List PV) (i : Nat) (hi : ¬(↑i : Int) < (↑(List.length (List.map Post.pv row)) : Int)) :
    lv (cv (ev X E0) xf6_l1) (rl [1, 0, 0, 5, 0, 37, 0]) 0 (S6b acc cur v 2943 row (.own 4031 7 es) (↑i : Int)) = some (XExit.exit 2, St.mk (tmOf 138 [(1, AV.c (vi acc)), (2, AV.c (vi cur)), (3, AV.c (vw v)), (9, AV.c (.own 2943 7 (List.map Post.pv row))), (10, AV.c (.own 4031 7 es))]) []) :=
  lv_exit [.br false]
    (c := [decide ((↑i : Int) < (↑(List.length (List.map Post.pv row)) : Int)) = false]) (by kernel_rfl)
    ⟨(decide_eq_false hi), trivial⟩
theorem f6f_1 (l : List Post) (o : SO) (acc : Int) (cur : Int) (v : Int) (h15 : cc (ev X E0) 15 [AV.sl o 7 (List.map Post.pv l)] [] = some (AV.b false, [])) (h17 : cc (ev X E0) (17 : Nat) [] [] = some (AV.b true, [])) :
    cc (ev X E0) 6 [AV.c (.pv (.sl o 7 (List.map Post.pv l))), AV.c (vi acc), AV.c (vi cur), AV.c (vw v)] [] = some (AV.c (.pv (.bool true)), []) :=
  cc_path (x := xf6) rfl [.call (AV.c (.pv (.bool false))) [], .br true, .call (AV.c (.pv (.bool true))) []]
    (c := [cc (ev X E0) 15 [AV.c (.pv (.sl o 7 (List.map Post.pv l)))] [] = some (AV.c (.pv (.bool false)), []), true = true, cc (ev X E0) (17 : Nat) [] [] = some (AV.c (.pv (.bool true)), [])]) (by kernel_rfl)
    ⟨(h15), rfl, (h17), trivial⟩
theorem f6z_1 (l : List Post) (o : SO) (acc : Int) (cur : Int) (v : Int) (b : List Post) (c : List Post) (x : List Post) (y : List Post) (o1 : SO) (o2 : SO) (o3 : SO) (o4 : SO) (s1 : Nat) (s2 : Nat) (s3 : Nat) (s4 : Nat) (mm : Int) (ee : Int) (h15 : cc (ev X E0) 15 [AV.sl o 7 (List.map Post.pv l)] [] = some (AV.b true, [])) (h17 : cc (ev X E0) (17 : Nat) [] [] = some (AV.b true, [])) (ha : lv (cv (ev X E0) xf6_l0) (rl [1, 0, 0, 5, 0, 19, 0, 0]) 0 (S6 acc cur v (.pv (.sl SO.full 7 [])) (.pv (.sl SO.full 7 [])) l o 0) = some (XExit.exit 0, St.mk (tmOf 138 [(1, AV.c (vi acc)), (2, AV.c (vi cur)), (3, AV.c (vw v)), (9, AV.c (.pv (.sl SO.full 7 []))), (10, AV.c (.pv (.sl SO.full 7 [])))]) [])) (h36 : cs (ev X E0) 36 [AV.sl SO.full 7 (List.map Post.pv [])] = some (Bk o1 s1 b)) (h36' : cs (ev X E0) 36 [AV.sl SO.full 7 (List.map Post.pv [])] = some (Bk o2 s2 c)) (h21 : cs (ev X E0) 21 [Bk o1 s1 b, AV.int IntKind.i32 7, AV.int IntKind.i32 v] = some (AV.tup [AV.c (.pv (.sl o3 s3 (List.map Post.pv x))), AV.i 0])) (h21' : cs (ev X E0) 21 [Bk o2 s2 c, AV.int IntKind.i32 7, AV.int IntKind.i32 v] = some (AV.tup [AV.c (.pv (.sl o4 s4 (List.map Post.pv y))), AV.i 0])) (h33 : cc (ev X E0) 33 [AV.sl o3 s3 (List.map Post.pv x), AV.i acc, AV.i cur, AV.int IntKind.i32 v] [] = some (AV.tup [AV.i mm, AV.i ee], [])) (h33' : cc (ev X E0) 33 [AV.sl o4 s4 (List.map Post.pv y), AV.i acc, AV.i cur, AV.int IntKind.i32 v] [] = some (AV.tup [AV.i mm, AV.i ee], [])) (hb : (↑(List.length (List.map Post.pv b)) : Int) = (↑(List.length (List.map Post.pv [])) : Int)) (hc : (↑(List.length (List.map Post.pv c)) : Int) = (↑(List.length (List.map Post.pv [])) : Int)) (hxy : (↑(List.length (List.map Post.pv x)) : Int) = (↑(List.length (List.map Post.pv y)) : Int)) (g1 : (↑(List.length (List.map Post.pv b)) : Int) = 0) (g2 : ee = ee) (g3 : mm = mm) :
    cc (ev X E0) 6 [AV.c (.pv (.sl o 7 (List.map Post.pv l))), AV.c (vi acc), AV.c (vi cur), AV.c (vw v)] [] = some (AV.c (.pv (.bool ((↑(List.length (List.map Post.pv x)) : Int) == (↑(List.length (List.map Post.pv x)) : Int)))), []) :=
  cc_path (x := xf6) rfl [.call (AV.c (.pv (.bool true))) [], .br false, .loop (XExit.exit 0) (St.mk (tmOf 138 [(1, AV.c (vi acc)), (2, AV.c (vi cur)), (3, AV.c (vw v)), (9, AV.c (.pv (.sl SO.full 7 []))), (10, AV.c (.pv (.sl SO.full 7 [])))]) []), .loop (XExit.exit 2) (St.mk (tmOf 138 [(1, AV.c (vi acc)), (2, AV.c (vi cur)), (3, AV.c (vw v)), (9, AV.c (.pv (.sl SO.full 7 []))), (10, AV.c (.pv (.sl SO.full 7 [])))]) []), .shut (AV.agg [.pv (.sl o1 s1 (List.map Post.pv b))]), .shut (AV.agg [.pv (.sl o1 s1 (List.map Post.pv b))]), .shut (AV.tup [AV.c (.pv (.sl o3 s3 (List.map Post.pv x))), AV.c (vi 0)]), .shut (AV.tup [AV.c (.pv (.sl o3 s3 (List.map Post.pv x))), AV.c (vi 0)]), .call (AV.tup [AV.c (vi mm), AV.c (vi ee)]) [], .call (AV.tup [AV.c (vi mm), AV.c (vi ee)]) [], .call (AV.c (.pv (.bool true))) [], .br true, .br true, .br true, .br true, .br true, .br true, .br true, .br true, .br true, .br true, .br true, .br true, .br true, .br true, .br true, .br true, .br true, .br true, .br true, .br true, .br true, .br true, .br true, .br true, .br true, .br true, .br true, .br true, .br true, .br true, .br true, .br true, .br true, .br true]
    (c := [cc (ev X E0) 15 [AV.c (.pv (.sl o 7 (List.map Post.pv l)))] [] = some (AV.c (.pv (.bool true)), []), false = false, lv (cv (ev X E0) xf6_l0) (rl [1, 0, 0, 5, 0, 19, 0, 0]) 0 (St.mk (tmOf 138 [(1, AV.c (vi acc)), (2, AV.c (vi cur)), (3, AV.c (vw v)), (9, AV.c (.pv (.sl SO.full 7 []))), (10, AV.c (.pv (.sl SO.full 7 []))), (30, AV.c (.pv (.sl o 7 (List.map Post.pv l)))), (31, AV.c (vi (↑(List.length (List.map Post.pv l)) : Int))), (32, AV.c (vi 0))]) []) = some (XExit.exit 0, St.mk (tmOf 138 [(1, AV.c (vi acc)), (2, AV.c (vi cur)), (3, AV.c (vw v)), (9, AV.c (.pv (.sl SO.full 7 []))), (10, AV.c (.pv (.sl SO.full 7 [])))]) []), lv (cv (ev X E0) xf6_l1) (rl [1, 0, 0, 5, 0, 37, 0]) 0 (St.mk (tmOf 138 [(1, AV.c (vi acc)), (2, AV.c (vi cur)), (3, AV.c (vw v)), (9, AV.c (.pv (.sl SO.full 7 []))), (10, AV.c (.pv (.sl SO.full 7 []))), (48, AV.c (vi 0)), (49, AV.c (vi 0))]) []) = some (XExit.exit 2, St.mk (tmOf 138 [(1, AV.c (vi acc)), (2, AV.c (vi cur)), (3, AV.c (vw v)), (9, AV.c (.pv (.sl SO.full 7 []))), (10, AV.c (.pv (.sl SO.full 7 [])))]) []), cs (ev X E0) 36 [AV.c (.pv (.sl SO.full 7 []))] = some (AV.agg [.pv (.sl o1 s1 (List.map Post.pv b))]), cs (ev X E0) 36 [AV.c (.pv (.sl SO.full 7 []))] = some (AV.agg [.pv (.sl o1 s1 (List.map Post.pv b))]), cs (ev X E0) 21 [AV.agg [.pv (.sl o1 s1 (List.map Post.pv b))], AV.c (vw 7), AV.c (vw v)] = some (AV.tup [AV.c (.pv (.sl o3 s3 (List.map Post.pv x))), AV.c (vi 0)]), cs (ev X E0) 21 [AV.agg [.pv (.sl o1 s1 (List.map Post.pv b))], AV.c (vw 7), AV.c (vw v)] = some (AV.tup [AV.c (.pv (.sl o3 s3 (List.map Post.pv x))), AV.c (vi 0)]), cc (ev X E0) 33 [AV.c (.pv (.sl o3 s3 (List.map Post.pv x))), AV.c (vi acc), AV.c (vi cur), AV.c (vw v)] [] = some (AV.tup [AV.c (vi mm), AV.c (vi ee)], []), cc (ev X E0) 33 [AV.c (.pv (.sl o3 s3 (List.map Post.pv x))), AV.c (vi acc), AV.c (vi cur), AV.c (vw v)] [] = some (AV.tup [AV.c (vi mm), AV.c (vi ee)], []), cc (ev X E0) (17 : Nat) [] [] = some (AV.c (.pv (.bool true)), []), true = true, true = true, true = true, true = true, true = true, true = true, true = true, ((↑(List.length (List.map Post.pv b)) : Int) == 0) = true, ((↑(List.length (List.map Post.pv b)) : Int) == 0) = true, ((↑(List.length (List.map Post.pv b)) : Int) == 0) = true, ((↑(List.length (List.map Post.pv b)) : Int) == 0) = true, ((↑(List.length (List.map Post.pv b)) : Int) == 0) = true, ((↑(List.length (List.map Post.pv b)) : Int) == 0) = true, ((↑(List.length (List.map Post.pv b)) : Int) == 0) = true, ((↑(List.length (List.map Post.pv b)) : Int) == 0) = true, ((↑(List.length (List.map Post.pv b)) : Int) == 0) = true, ((↑(List.length (List.map Post.pv b)) : Int) == 0) = true, true = true, true = true, true = true, true = true, true = true, true = true, true = true, (ee == ee) = true, (ee == ee) = true, (ee == ee) = true, (ee == ee) = true, (mm == mm) = true, (mm == mm) = true, (mm == mm) = true, (mm == mm) = true, (mm == mm) = true, (mm == mm) = true]) (by kernel_rfl)
    ⟨(h15), rfl, (ha), (l6bz_1 _ _ _), (h36), (h36), (h21), (h21), (h33), (h33), (h17), rfl, rfl, rfl, rfl, rfl, rfl, rfl, (beq_iff_eq.mpr g1), (beq_iff_eq.mpr g1), (beq_iff_eq.mpr g1), (beq_iff_eq.mpr g1), (beq_iff_eq.mpr g1), (beq_iff_eq.mpr g1), (beq_iff_eq.mpr g1), (beq_iff_eq.mpr g1), (beq_iff_eq.mpr g1), (beq_iff_eq.mpr g1), rfl, rfl, rfl, rfl, rfl, rfl, rfl, (beq_iff_eq.mpr g2), (beq_iff_eq.mpr g2), (beq_iff_eq.mpr g2), (beq_iff_eq.mpr g2), (beq_iff_eq.mpr g3), (beq_iff_eq.mpr g3), (beq_iff_eq.mpr g3), (beq_iff_eq.mpr g3), (beq_iff_eq.mpr g3), (beq_iff_eq.mpr g3), trivial⟩
theorem f6_1 (l : List Post) (o : SO) (acc : Int) (cur : Int) (v : Int) (row : List Post) (b : List Post) (c : List Post) (x : List Post) (y : List Post) (o1 : SO) (o2 : SO) (o3 : SO) (o4 : SO) (s1 : Nat) (s2 : Nat) (s3 : Nat) (s4 : Nat) (mm : Int) (ee : Int) (h15 : cc (ev X E0) 15 [AV.sl o 7 (List.map Post.pv l)] [] = some (AV.b true, [])) (h17 : cc (ev X E0) (17 : Nat) [] [] = some (AV.b true, [])) (ha : lv (cv (ev X E0) xf6_l0) (rl [1, 0, 0, 5, 0, 19, 0, 0]) 0 (S6 acc cur v (.pv (.sl SO.full 7 [])) (.pv (.sl SO.full 7 [])) l o 0) = some (XExit.exit 0, St.mk (tmOf 138 [(1, AV.c (vi acc)), (2, AV.c (vi cur)), (3, AV.c (vw v)), (9, AV.c (.own 2943 7 (List.map Post.pv row))), (10, AV.c (.pv (.sl SO.full 7 [])))]) [])) (hb1 : lv (cv (ev X E0) xf6_l1) (rl [1, 0, 0, 5, 0, 37, 0]) 0 (S6b acc cur v 2943 row (.pv (.sl SO.full 7 [])) 0) = some (XExit.exit 2, St.mk (tmOf 138 [(1, AV.c (vi acc)), (2, AV.c (vi cur)), (3, AV.c (vw v)), (9, AV.c (.own 2943 7 (List.map Post.pv row))), (10, AV.c (.own 4031 7 (List.map Post.pv (List.reverse row))))]) [])) (h36 : cs (ev X E0) 36 [AV.sl SO.shut 7 (List.map Post.pv row)] = some (Bk o1 s1 b)) (h36' : cs (ev X E0) 36 [AV.sl SO.shut 7 (List.map Post.pv (List.reverse row))] = some (Bk o2 s2 c)) (h21 : cs (ev X E0) 21 [Bk o1 s1 b, AV.int IntKind.i32 7, AV.int IntKind.i32 v] = some (AV.tup [AV.c (.pv (.sl o3 s3 (List.map Post.pv x))), AV.i 0])) (h21' : cs (ev X E0) 21 [Bk o2 s2 c, AV.int IntKind.i32 7, AV.int IntKind.i32 v] = some (AV.tup [AV.c (.pv (.sl o4 s4 (List.map Post.pv y))), AV.i 0])) (h33 : cc (ev X E0) 33 [AV.sl o3 s3 (List.map Post.pv x), AV.i acc, AV.i cur, AV.int IntKind.i32 v] [] = some (AV.tup [AV.i mm, AV.i ee], [])) (h33' : cc (ev X E0) 33 [AV.sl o4 s4 (List.map Post.pv y), AV.i acc, AV.i cur, AV.int IntKind.i32 v] [] = some (AV.tup [AV.i mm, AV.i ee], [])) (hb : (↑(List.length (List.map Post.pv b)) : Int) = (↑(List.length (List.map Post.pv row)) : Int)) (hc : (↑(List.length (List.map Post.pv c)) : Int) = (↑(List.length (List.map Post.pv row)) : Int)) (hxy : (↑(List.length (List.map Post.pv x)) : Int) = (↑(List.length (List.map Post.pv y)) : Int)) (g1 : ee = ee) (g2 : mm = mm) :
    cc (ev X E0) 6 [AV.c (.pv (.sl o 7 (List.map Post.pv l))), AV.c (vi acc), AV.c (vi cur), AV.c (vw v)] [] = some (AV.c (.pv (.bool ((↑(List.length (List.map Post.pv x)) : Int) == (↑(List.length (List.map Post.pv y)) : Int)))), []) :=
  cc_path (x := xf6) rfl [.call (AV.c (.pv (.bool true))) [], .br false, .loop (XExit.exit 0) (St.mk (tmOf 138 [(1, AV.c (vi acc)), (2, AV.c (vi cur)), (3, AV.c (vw v)), (9, AV.c (.own 2943 7 (List.map Post.pv row))), (10, AV.c (.pv (.sl SO.full 7 [])))]) []), .loop (XExit.exit 2) (St.mk (tmOf 138 [(1, AV.c (vi acc)), (2, AV.c (vi cur)), (3, AV.c (vw v)), (9, AV.c (.own 2943 7 (List.map Post.pv row))), (10, AV.c (.own 4031 7 (List.map Post.pv (List.reverse row))))]) []), .shut (AV.agg [.pv (.sl o1 s1 (List.map Post.pv b))]), .shut (AV.agg [.pv (.sl o2 s2 (List.map Post.pv c))]), .shut (AV.tup [AV.c (.pv (.sl o3 s3 (List.map Post.pv x))), AV.c (vi 0)]), .shut (AV.tup [AV.c (.pv (.sl o4 s4 (List.map Post.pv y))), AV.c (vi 0)]), .call (AV.tup [AV.c (vi mm), AV.c (vi ee)]) [], .call (AV.tup [AV.c (vi mm), AV.c (vi ee)]) [], .call (AV.c (.pv (.bool true))) [], .br true, .br true, .br true, .br true, .br true, .br true, .br true, .br true, .br true, .br true, .br true, .br true, .br true, .br true, .br true, .br true, .br true, .br true, .br true, .br true, .br true, .br true, .br true, .br true, .br true, .br true, .br true, .br true, .br true, .br true, .br true, .br true, .br true, .br true]
    (c := [cc (ev X E0) 15 [AV.c (.pv (.sl o 7 (List.map Post.pv l)))] [] = some (AV.c (.pv (.bool true)), []), false = false, lv (cv (ev X E0) xf6_l0) (rl [1, 0, 0, 5, 0, 19, 0, 0]) 0 (St.mk (tmOf 138 [(1, AV.c (vi acc)), (2, AV.c (vi cur)), (3, AV.c (vw v)), (9, AV.c (.pv (.sl SO.full 7 []))), (10, AV.c (.pv (.sl SO.full 7 []))), (30, AV.c (.pv (.sl o 7 (List.map Post.pv l)))), (31, AV.c (vi (↑(List.length (List.map Post.pv l)) : Int))), (32, AV.c (vi 0))]) []) = some (XExit.exit 0, St.mk (tmOf 138 [(1, AV.c (vi acc)), (2, AV.c (vi cur)), (3, AV.c (vw v)), (9, AV.c (.own 2943 7 (List.map Post.pv row))), (10, AV.c (.pv (.sl SO.full 7 [])))]) []), lv (cv (ev X E0) xf6_l1) (rl [1, 0, 0, 5, 0, 37, 0]) 0 (St.mk (tmOf 138 [(1, AV.c (vi acc)), (2, AV.c (vi cur)), (3, AV.c (vw v)), (9, AV.c (.own 2943 7 (List.map Post.pv row))), (10, AV.c (.pv (.sl SO.full 7 []))), (48, AV.c (vi (↑(List.length (List.map Post.pv row)) : Int))), (49, AV.c (vi 0))]) []) = some (XExit.exit 2, St.mk (tmOf 138 [(1, AV.c (vi acc)), (2, AV.c (vi cur)), (3, AV.c (vw v)), (9, AV.c (.own 2943 7 (List.map Post.pv row))), (10, AV.c (.own 4031 7 (List.map Post.pv (List.reverse row))))]) []), cs (ev X E0) 36 [AV.c (.pv (.sl SO.shut 7 (List.map Post.pv row)))] = some (AV.agg [.pv (.sl o1 s1 (List.map Post.pv b))]), cs (ev X E0) 36 [AV.c (.pv (.sl SO.shut 7 (List.map Post.pv (List.reverse row))))] = some (AV.agg [.pv (.sl o2 s2 (List.map Post.pv c))]), cs (ev X E0) 21 [AV.agg [.pv (.sl o1 s1 (List.map Post.pv b))], AV.c (vw 7), AV.c (vw v)] = some (AV.tup [AV.c (.pv (.sl o3 s3 (List.map Post.pv x))), AV.c (vi 0)]), cs (ev X E0) 21 [AV.agg [.pv (.sl o2 s2 (List.map Post.pv c))], AV.c (vw 7), AV.c (vw v)] = some (AV.tup [AV.c (.pv (.sl o4 s4 (List.map Post.pv y))), AV.c (vi 0)]), cc (ev X E0) 33 [AV.c (.pv (.sl o3 s3 (List.map Post.pv x))), AV.c (vi acc), AV.c (vi cur), AV.c (vw v)] [] = some (AV.tup [AV.c (vi mm), AV.c (vi ee)], []), cc (ev X E0) 33 [AV.c (.pv (.sl o4 s4 (List.map Post.pv y))), AV.c (vi acc), AV.c (vi cur), AV.c (vw v)] [] = some (AV.tup [AV.c (vi mm), AV.c (vi ee)], []), cc (ev X E0) (17 : Nat) [] [] = some (AV.c (.pv (.bool true)), []), true = true, true = true, true = true, true = true, true = true, true = true, true = true, ((↑(List.length (List.map Post.pv b)) : Int) == (↑(List.length (List.map Post.pv row)) : Int)) = true, ((↑(List.length (List.map Post.pv b)) : Int) == (↑(List.length (List.map Post.pv row)) : Int)) = true, ((↑(List.length (List.map Post.pv b)) : Int) == (↑(List.length (List.map Post.pv row)) : Int)) = true, ((↑(List.length (List.map Post.pv b)) : Int) == (↑(List.length (List.map Post.pv row)) : Int)) = true, ((↑(List.length (List.map Post.pv b)) : Int) == (↑(List.length (List.map Post.pv row)) : Int)) = true, ((↑(List.length (List.map Post.pv b)) : Int) == (↑(List.length (List.map Post.pv row)) : Int)) = true, ((↑(List.length (List.map Post.pv b)) : Int) == (↑(List.length (List.map Post.pv row)) : Int)) = true, ((↑(List.length (List.map Post.pv c)) : Int) == (↑(List.length (List.map Post.pv row)) : Int)) = true, ((↑(List.length (List.map Post.pv c)) : Int) == (↑(List.length (List.map Post.pv row)) : Int)) = true, ((↑(List.length (List.map Post.pv c)) : Int) == (↑(List.length (List.map Post.pv row)) : Int)) = true, true = true, true = true, true = true, true = true, true = true, true = true, true = true, (ee == ee) = true, (ee == ee) = true, (ee == ee) = true, (ee == ee) = true, (mm == mm) = true, (mm == mm) = true, (mm == mm) = true, (mm == mm) = true, (mm == mm) = true, (mm == mm) = true]) (by kernel_rfl)
    ⟨(h15), rfl, (ha), (hb1), (h36), (h36'), (h21), (h21'), (h33), (h33'), (h17), rfl, rfl, rfl, rfl, rfl, rfl, rfl, (beq_iff_eq.mpr hb), (beq_iff_eq.mpr hb), (beq_iff_eq.mpr hb), (beq_iff_eq.mpr hb), (beq_iff_eq.mpr hb), (beq_iff_eq.mpr hb), (beq_iff_eq.mpr hb), (beq_iff_eq.mpr hc), (beq_iff_eq.mpr hc), (beq_iff_eq.mpr hc), rfl, rfl, rfl, rfl, rfl, rfl, rfl, (beq_iff_eq.mpr g1), (beq_iff_eq.mpr g1), (beq_iff_eq.mpr g1), (beq_iff_eq.mpr g1), (beq_iff_eq.mpr g2), (beq_iff_eq.mpr g2), (beq_iff_eq.mpr g2), (beq_iff_eq.mpr g2), (beq_iff_eq.mpr g2), (beq_iff_eq.mpr g2), trivial⟩
-- keep f6z: 1
-- keep f6: 1
def outT (n : Nat) (es : List Post) : CV := if es.isEmpty then CV.pv (PV.sl SO.full 7 []) else CV.own n 7 (es.map Post.pv)
theorem outT_snoc (n : Nat) (es : List Post) (y : Post) : outT n (es ++ [y]) = CV.own n 7 (es.map Post.pv ++ [Post.pv y]) := by
  unfold outT
  rw [if_neg (by simp)]; simp
theorem outT_cases (n : Nat) (es : List Post) : (es = [] ∧ outT n es = CV.pv (PV.sl SO.full 7 [])) ∨ outT n es = CV.own n 7 (es.map Post.pv) := by
  unfold outT; cases es <;> simp
def rowOf7 (l : List Post) : List Post := (l.map norm7).filter fun p => chk p == 0
theorem rowOf7_snoc (l : List Post) (y : Post) : rowOf7 (l ++ [y]) = if chk (norm7 y) = 0 then rowOf7 l ++ [norm7 y] else rowOf7 l := by
  unfold rowOf7
  rw [List.map_append, List.filter_append]
  by_cases c : chk (norm7 y) = 0
  · rw [if_pos c]; simp [c]
  · rw [if_neg c]; simp [c]
theorem rowOf7_len (l : List Post) : (rowOf7 l).length ≤ l.length := by
  unfold rowOf7
  have := List.length_filter_le (fun p => chk p == 0) (l.map norm7)
  rwa [List.length_map] at this
theorem rowOf7_row {l : List Post} (hN : ∀ p ∈ l, Nice p) : ∀ p ∈ rowOf7 l, Row p := by
  intro p hp
  obtain ⟨h1, h2⟩ := List.mem_filter.1 hp
  obtain ⟨q, hq, rfl⟩ := List.mem_map.1 h1
  exact norm7_row (hN q hq) (by simpa using h2)
abbrev E6 (acc cur v : Int) (x y : CV) : St := St.mk (tmOf 138 [(1, AV.c (CV.pv (PV.int .i64 acc))), (2, AV.c (CV.pv (PV.int .i64 cur))), (3, AV.c (CV.pv (PV.int .i32 v))), (9, AV.c x), (10, AV.c y)]) []
theorem a6 {acc cur v : Int} {l : List Post} {o : SO} (hl : l.length ≤ 1000) (hN : ∀ p ∈ l, Nice p) : ∀ (r pre : List Post), l = pre ++ r →
    lv (cv (ev X E0) xf6_l0) (rl [1, 0, 0, 5, 0, 19, 0, 0]) 0 (S6 acc cur v (outT 2943 (rowOf7 pre)) (CV.pv (PV.sl .full 7 [])) l o (pre.length : Nat)) = some (XExit.exit 0, E6 acc cur v (outT 2943 (rowOf7 l)) (CV.pv (PV.sl .full 7 [])))
  | [], pre, e => by
    rw [List.append_nil] at e
    subst e
    rcases outT_cases 2943 (rowOf7 l) with ⟨_, h0⟩ | h0
    · rw [h0]; exact l6xn_1 acc cur v l o l.length (by simp)
    · rw [h0]; exact l6xo_1 acc cur v _ _ l o l.length (by simp)
  | y :: r, pre, e => by
    have hlen : l.length = pre.length + r.length + 1 := by rw [e]; simp; omega
    have hat : l[pre.length]? = some y := by rw [e]; simp
    have hlt := ltP (l := l) (i := pre.length) (by omega)
    have hy := hN y (by rw [e]; simp)
    have h37 := s37 (norm7 y) hy.memo (by have := hy.legs; show y.legs.length ≤ _; omega)
    have hrl := rowOf7_len pre
    have ih := a6 (acc := acc) (cur := cur) (v := v) (o := o) hl hN r (pre ++ [y]) (by rw [e]; simp)
    rw [List.length_append, List.length_singleton, Int.natCast_add, Int.natCast_one, rowOf7_snoc] at ih
    by_cases c : chk (norm7 y) = 0
    · rw [if_pos c, outT_snoc] at ih
      rcases outT_cases 2943 (rowOf7 pre) with ⟨h1, h0⟩ | h0
      · have st := l6n_1 acc cur v l o pre.length y hat _ h37 hlt c (by simp)
        rw [wi64 (by omega) (by omega)] at st
        rw [h1] at ih
        rw [h0]; exact st.trans ih
      · have st := l6o_1 acc cur v 2943 ((rowOf7 pre).map Post.pv) l o pre.length y hat _ h37 hlt c (by simp only [List.length_map, List.length_singleton]; omega)
        rw [wi64 (by omega) (by omega)] at st
        rw [h0]; exact st.trans ih
    · rw [if_neg c] at ih
      rcases outT_cases 2943 (rowOf7 pre) with ⟨h1, h0⟩ | h0
      · have st := l6n_2 acc cur v l o pre.length y hat _ h37 hlt c
        rw [wi64 (by omega) (by omega)] at st
        rw [h0] at ih ⊢; exact st.trans ih
      · have st := l6o_2 acc cur v 2943 ((rowOf7 pre).map Post.pv) l o pre.length y hat _ h37 hlt c
        rw [wi64 (by omega) (by omega)] at st
        rw [h0] at ih ⊢; exact st.trans ih
theorem b6 {acc cur v : Int} {row : List Post} (hl : row.length ≤ 1000) : ∀ (r pre : List Post), row.reverse = pre ++ r → row ≠ [] →
    lv (cv (ev X E0) xf6_l1) (rl [1, 0, 0, 5, 0, 37, 0]) 0 (S6b acc cur v 2943 row (outT 4031 pre) (pre.length : Nat)) = some (XExit.exit 2, E6 acc cur v (CV.own 2943 7 (List.map Post.pv row)) (CV.own 4031 7 (List.map Post.pv row.reverse)))
  | [], pre, e, hne => by
    rw [List.append_nil] at e
    rcases outT_cases 4031 pre with ⟨h1, _⟩ | h0
    · rw [h1] at e; exact absurd (List.reverse_eq_nil_iff.1 e) hne
    · rw [h0, e]
      exact l6bx_1 acc cur v row (List.map Post.pv pre) pre.length (by rw [List.length_map, ← e, List.length_reverse]; omega)
  | y :: r, pre, e, hne => by
    have hlen : row.length = pre.length + r.length + 1 := by rw [← List.length_reverse, e]; simp; omega
    have hat : row.reverse[pre.length]? = some y := by rw [e]; simp
    have hat2 : row[row.length - 1 - pre.length]? = some y := by rw [List.getElem?_reverse (by omega)] at hat; exact hat
    have hlt := ltP (l := row) (i := pre.length) (by omega)
    have hw : IntKind.wrap .i64 (IntKind.wrap .i64 ((↑(List.length (List.map Post.pv row)) : Int) - 1) - ((pre.length : Nat) : Int)) = ((row.length - 1 - pre.length : Nat) : Int) := by
      rw [lenP, wi64 (n := (row.length : Int) - 1) (by omega) (by omega), wi64 (by omega) (by omega)]; omega
    have hy : row[Int.toNat (IntKind.wrap .i64 (IntKind.wrap .i64 ((↑(List.length (List.map Post.pv row)) : Int) - 1) - ((pre.length : Nat) : Int)))]? = some y := by rw [hw]; exact hat2
    have ih := b6 (acc := acc) (cur := cur) (v := v) hl r (pre ++ [y]) (by rw [e]; simp) hne
    rw [List.length_append, List.length_singleton, Int.natCast_add, Int.natCast_one, outT_snoc] at ih
    rcases outT_cases 4031 pre with ⟨h1, h0⟩ | h0
    · have st := l6bn_1 acc cur v row pre.length y hy hlt (by rw [hw]; omega) (by simp)
      rw [wi64 (n := ((pre.length : Nat) : Int) + 1) (by omega) (by omega)] at st
      rw [h0]
      rw [h1] at ih ⊢
      rw [h1] at st
      exact st.trans ih
    · have st := l6bo_1 acc cur v row 0 (List.map Post.pv pre) pre.length y hy hlt (by rw [hw]; omega) (by simp only [List.length_map, List.length_singleton]; omega)
      rw [wi64 (n := ((pre.length : Nat) : Int) + 1) (by omega) (by omega)] at st
      rw [h0]; exact st.trans ih
theorem counting_of {b : List Post} {n : Nat} (hb : Built b n) (hn : n ≤ 1000) (k v : Int) :
    cs (ev X E0) 21 [Bk (bo b) (bz b) b, AV.int .i32 k, AV.int .i32 v] = some (.tup [.c (CV.pv (PV.sl (bo (b.filter (within k v))) (bz (b.filter (within k v))) (List.map Post.pv (b.filter (within k v))))), .i 0]) := by
  have h := s21 (b_sz b) b_nil (by have := hb.len; omega) hb.nice k v
  have e1 : pickE b = 0 := by unfold pickE; rw [hb.right]; rfl
  have e2 : pickR b (within k v) = b.filter (within k v) := by unfold pickR; rw [hb.right]; rfl
  rw [e1, e2, outP_shut fun p hp => hb.shut p (List.mem_filter.1 hp).1] at h
  exact h
theorem sum_of {b : List Post} {n : Nat} (hb : Built b n) (hn : n ≤ 400) (w : Post → Bool) (acc cur v : Int) :
    cc (ev X E0) 33 [AV.sl (bo (b.filter w)) (bz (b.filter w)) (List.map Post.pv (b.filter w)), AV.i acc, AV.i cur, AV.int .i32 v] [] = some (.tup [AV.i (if cur < 0 ∨ cur ≥ 4 then 0 else sumBook acc cur v (b.filter w)), AV.i (if cur < 0 ∨ cur ≥ 4 then 12 else 0)], []) :=
  s33 (b_sz (b.filter w)) acc cur v (by have := hb.len; have := List.length_filter_le w b; omega) (fun p hp => right_chk hb.right p (List.mem_filter.1 hp).1) fun p hp => hb.nice p (List.mem_filter.1 hp).1
theorem BookTurned0 (l : List Post) (o : SO) (acc cur v : Int) (hwl : ∀ p ∈ l, p.so = .nil → p.legs = []) : cc (ev X E0) 6 [AV.sl o 7 (l.map Post.pv), AV.i acc, AV.i cur, AV.int .i32 v] [] = some (.b true, []) := by
  have h15 := s15 l o
  cases hb : fitsAll l with
  | false => rw [hb] at h15; exact f6f_1 l o acc cur v h15 alive
  | true =>
  rw [hb] at h15
  obtain ⟨hl, hfa⟩ := fits_fair hb
  have hN : ∀ p ∈ l, Nice p := fun p hp => by
    have h := (hfa p hp).1
    simp only [fits, decide_eq_true_eq] at h
    exact ⟨by omega, by omega, hwl p hp⟩
  have hR := rowOf7_row hN
  have hrl := rowOf7_len l
  have hRN : ∀ p ∈ rowOf7 l, Nice p := fun p hp => (hR p hp).nice
  have hR2 : ∀ p ∈ (rowOf7 l).reverse, Row p := fun p hp => hR p (List.mem_reverse.1 hp)
  have hB := made_built hRN
  have hC := made_built (l := (rowOf7 l).reverse) fun p hp => (hR2 p hp).nice
  have eB := made_row (l := rowOf7 l) (by omega) hR
  have eC := made_row (l := (rowOf7 l).reverse) (by rw [List.length_reverse]; omega) hR2
  have ha := a6 (acc := acc) (cur := cur) (v := v) (o := o) (by omega) hN l [] rfl
  have hkn : ∀ p ∈ rowOf7 l, p.known = 7 := fun p hp => (hR p hp).known
  have hkn2 : ∀ p ∈ (rowOf7 l).reverse, p.known = 7 := fun p hp => (hR2 p hp).known
  have h21 := counting_of hB (by omega) 7 v
  have h21' := counting_of hC (by rw [List.length_reverse]; omega) 7 v
  have h33 := sum_of hB (by omega) (within 7 v) acc cur v
  have h33' := sum_of hC (by rw [List.length_reverse]; omega) (within 7 v) acc cur v
  have esum : sumBook acc cur v ((made (rowOf7 l).reverse).filter (within 7 v)) = sumBook acc cur v ((made (rowOf7 l)).filter (within 7 v)) := by
    rw [eB, eC, numL_sum acc cur v hkn, numL_sum acc cur v hkn2, sumBook_reverse]
  rw [esum] at h33'
  have h36 : ∀ o', cs (ev X E0) 36 [AV.sl o' 7 (List.map Post.pv (rowOf7 l))] = _ := fun o' => s36 (o := o') (by omega) hRN
  have h36' : ∀ o', cs (ev X E0) 36 [AV.sl o' 7 (List.map Post.pv (rowOf7 l).reverse)] = _ := fun o' => s36 (o := o') (by rw [List.length_reverse]; omega) fun p hp => (hR2 p hp).nice
  have hlb : (↑(List.length (List.map Post.pv (made (rowOf7 l)))) : Int) = (↑(List.length (List.map Post.pv (rowOf7 l))) : Int) := by rw [lenP, lenP, eB, numL_len]
  have hlc : (↑(List.length (List.map Post.pv (made (rowOf7 l).reverse))) : Int) = (↑(List.length (List.map Post.pv (rowOf7 l))) : Int) := by rw [lenP, lenP, eC, numL_len, List.length_reverse]
  have hxy : (↑(List.length (List.map Post.pv ((made (rowOf7 l)).filter (within 7 v)))) : Int) = (↑(List.length (List.map Post.pv ((made (rowOf7 l).reverse).filter (within 7 v)))) : Int) := by
    rw [lenP, lenP, eB, eC, numL_filter v hkn, numL_filter v hkn2, List.filter_reverse, List.length_reverse]
  by_cases hne : rowOf7 l = []
  · rw [hne] at ha h36 h36' hlb hlc h21 h21' h33 h33' hxy
    have := f6z_1 l o acc cur v _ _ _ _ _ _ _ _ _ _ _ _ _ _ h15 alive ha (h36 .full) (h36' .full) h21 h21' h33 h33' hlb hlc hxy hlb rfl rfl
    rw [beq_self_eq_true] at this
    exact this
  · have h0 : outT 2943 (rowOf7 l) = CV.own 2943 7 (List.map Post.pv (rowOf7 l)) := by
      rcases outT_cases 2943 (rowOf7 l) with ⟨h, _⟩ | h
      · exact absurd h hne
      · exact h
    rw [h0] at ha
    have hb1 := b6 (acc := acc) (cur := cur) (v := v) (row := rowOf7 l) (by omega) _ [] rfl hne
    have := f6_1 l o acc cur v (rowOf7 l) _ _ _ _ _ _ _ _ _ _ _ _ _ _ h15 alive ha hb1 (h36 .shut) (h36' .shut) h21 h21' h33 h33' hlb hlc hxy rfl rfl
    rw [beq_iff_eq.2 hxy] at this
    exact this
theorem BookTurned (x0 : PV) (t0 : WT (.sl ctP) x0) (x1 : PV) (t1 : WT (.int .i64) x1) (x2 : PV) (t2 : WT (.int .i64) x2) (x3 : PV) (t3 : WT (.int .i32) x3) : ev X E0 6 [.c (.pv x0), .c (.pv x1), .c (.pv x2), .c (.pv x3)] [] = some (.b true, []) := by
  obtain ⟨o, l, rfl, hl, _⟩ := posts_inv t0
  obtain ⟨acc, _, _, rfl⟩ := i64_inv t1
  obtain ⟨cur, _, _, rfl⟩ := i64_inv t2
  obtain ⟨v, _, _, rfl⟩ := i32_inv t3
  exact ev_cc (BookTurned0 l o acc cur v fun p hp => (hl p hp).so)
end Go.Sx.Tryd
