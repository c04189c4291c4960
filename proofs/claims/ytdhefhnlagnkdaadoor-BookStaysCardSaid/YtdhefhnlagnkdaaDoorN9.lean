/- The statement BookStays, of the evaluator. -/
import Derived.Test.YtdhefhnlagnkdaaDoorN8
import Derived.Test.YtdhefhnlagnkdaaDoorN1d
import Derived.Test.YtdhefhnlagnkdaaDoorT0
namespace Go.Sx.Tryd
open Go Go.Sx
abbrev S5 (b : CV) (w : CV) (k : Int) (m : List Post) (q : SO) (x : CV) (i : Int) : St := St.mk (tmOf 126 [(2, AV.c (CV.pv (PV.int .i32 k))), (7, AV.c (CV.ptr 0 0)), (8, AV.c (CV.ptr 1 0)), (9, AV.c (CV.pv (PV.int .i64 0))), (10, AV.c (CV.ptr 2 0)), (35, AV.c (CV.pv (PV.sl q 7 (List.map Post.pv m)))), (36, AV.c (CV.pv (PV.int .i64 (↑(List.length (List.map Post.pv m)) : Int)))), (37, AV.c (CV.pv (PV.int .i64 i)))]) [Box.cells [b], Box.cells [w], Box.cells [x]]
theorem l5_1 (bs : PV) (ws : PV) (k : Int) (m : List Post) (q : SO) (o2 : SO) (o3 : SO) (s2 : Nat) (s3 : Nat) (b : List Post) (c : List Post) (e : Int) (i : Nat) (y : Post) (hy : m[i]? = some y) (h : cs (ev X E0) 19 [Bk o2 s2 b, numA (nxt b) y] = some (AV.tup [Bk o3 s3 c, AV.i e])) (g1 : (↑i : Int) < (↑(List.length (List.map Post.pv m)) : Int)) (g2 : y.known ≤ k) :
    lv (cv (ev X E0) xf5_l0) (rl [2, 4, 0, 0, 0, 24, 0, 0]) 3 (S5 (.pv bs) (.pv ws) k m q (.pv (.sl o2 s2 (List.map Post.pv b))) (↑i : Int)) = lv (cv (ev X E0) xf5_l0) (rl [2, 4, 0, 0, 0, 24, 0, 0]) 3 (St.mk (tmOf 126 [(2, AV.c (vw k)), (7, AV.c (.ptr 0 0)), (8, AV.c (.ptr 1 0)), (9, AV.c (vi 0)), (10, AV.c (.ptr 2 0)), (35, AV.c (.pv (.sl q 7 (List.map Post.pv m)))), (36, AV.c (vi (↑(List.length (List.map Post.pv m)) : Int))), (37, AV.c (vi (IntKind.wrap .i64 ((↑i : Int) + 1))))]) [.cells [.pv bs], .cells [.pv ws], .cells [.pv (.sl o2 s2 (List.map Post.pv b))]]) :=
  lv_next [.br true, .el (Post.pv y), .br true]
    (c := [decide ((↑i : Int) < (↑(List.length (List.map Post.pv m)) : Int)) = true, 0 ≤ (↑i : Int), (List.map Post.pv m)[i]? = some (Post.pv y), decide (y.known ≤ k) = true]) (by kernel_rfl)
    ⟨(decide_eq_true g1), (Int.natCast_nonneg _), (map_at hy), (decide_eq_true g2), trivial⟩
theorem l5_2 (bs : PV) (ws : PV) (k : Int) (m : List Post) (q : SO) (o2 : SO) (o3 : SO) (s2 : Nat) (s3 : Nat) (b : List Post) (c : List Post) (e : Int) (i : Nat) (y : Post) (hy : m[i]? = some y) (h : cs (ev X E0) 19 [Bk o2 s2 b, numA (nxt b) y] = some (AV.tup [Bk o3 s3 c, AV.i e])) (g1 : (↑i : Int) < (↑(List.length (List.map Post.pv m)) : Int)) (g2 : ¬y.known ≤ k) (g3 : e = 0) :
    lv (cv (ev X E0) xf5_l0) (rl [2, 4, 0, 0, 0, 24, 0, 0]) 3 (S5 (.pv bs) (.pv ws) k m q (.pv (.sl o2 s2 (List.map Post.pv b))) (↑i : Int)) = lv (cv (ev X E0) xf5_l0) (rl [2, 4, 0, 0, 0, 24, 0, 0]) 3 (St.mk (tmOf 126 [(2, AV.c (vw k)), (7, AV.c (.ptr 0 0)), (8, AV.c (.ptr 1 0)), (9, AV.c (vi 0)), (10, AV.c (.ptr 2 0)), (35, AV.c (.pv (.sl q 7 (List.map Post.pv m)))), (36, AV.c (vi (↑(List.length (List.map Post.pv m)) : Int))), (37, AV.c (vi (IntKind.wrap .i64 ((↑i : Int) + 1))))]) [.cells [.pv bs], .cells [.pv ws], .cells [.pv (.sl o3 s3 (List.map Post.pv c))]]) :=
  lv_next [.br true, .el (Post.pv y), .br false, .shut (AV.tup [AV.agg [.pv (.sl o3 s3 (List.map Post.pv c))], AV.c (vi e)]), .br true]
    (c := [decide ((↑i : Int) < (↑(List.length (List.map Post.pv m)) : Int)) = true, 0 ≤ (↑i : Int), (List.map Post.pv m)[i]? = some (Post.pv y), decide (y.known ≤ k) = false, cs (ev X E0) 19 [AV.agg [.pv (.sl o2 s2 (List.map Post.pv b))], AV.agg [vi (IntKind.wrap .i64 ((↑(List.length (List.map Post.pv b)) : Int) + 1)), vw y.known, vw y.value, .pv (.sl y.so 3 (List.map Leg.pv y.legs)), vi y.rev, vi y.kind, .pv (.str y.memo)]] = some (AV.tup [AV.agg [.pv (.sl o3 s3 (List.map Post.pv c))], AV.c (vi e)]), (e == 0) = true]) (by kernel_rfl)
    ⟨(decide_eq_true g1), (Int.natCast_nonneg _), (map_at hy), (decide_eq_false g2), (h), (beq_iff_eq.mpr g3), trivial⟩
theorem l5_3 (bs : PV) (ws : PV) (k : Int) (m : List Post) (q : SO) (o2 : SO) (o3 : SO) (s2 : Nat) (s3 : Nat) (b : List Post) (c : List Post) (e : Int) (i : Nat) (y : Post) (hy : m[i]? = some y) (h : cs (ev X E0) 19 [Bk o2 s2 b, numA (nxt b) y] = some (AV.tup [Bk o3 s3 c, AV.i e])) (g1 : (↑i : Int) < (↑(List.length (List.map Post.pv m)) : Int)) (g2 : ¬y.known ≤ k) (g3 : ¬e = 0) :
    lv (cv (ev X E0) xf5_l0) (rl [2, 4, 0, 0, 0, 24, 0, 0]) 3 (S5 (.pv bs) (.pv ws) k m q (.pv (.sl o2 s2 (List.map Post.pv b))) (↑i : Int)) = lv (cv (ev X E0) xf5_l0) (rl [2, 4, 0, 0, 0, 24, 0, 0]) 3 (St.mk (tmOf 126 [(2, AV.c (vw k)), (7, AV.c (.ptr 0 0)), (8, AV.c (.ptr 1 0)), (9, AV.c (vi 0)), (10, AV.c (.ptr 2 0)), (35, AV.c (.pv (.sl q 7 (List.map Post.pv m)))), (36, AV.c (vi (↑(List.length (List.map Post.pv m)) : Int))), (37, AV.c (vi (IntKind.wrap .i64 ((↑i : Int) + 1))))]) [.cells [.pv bs], .cells [.pv ws], .cells [.pv (.sl o2 s2 (List.map Post.pv b))]]) :=
  lv_next [.br true, .el (Post.pv y), .br false, .shut (AV.tup [AV.agg [.pv (.sl o3 s3 (List.map Post.pv c))], AV.c (vi e)]), .br false]
    (c := [decide ((↑i : Int) < (↑(List.length (List.map Post.pv m)) : Int)) = true, 0 ≤ (↑i : Int), (List.map Post.pv m)[i]? = some (Post.pv y), decide (y.known ≤ k) = false, cs (ev X E0) 19 [AV.agg [.pv (.sl o2 s2 (List.map Post.pv b))], AV.agg [vi (IntKind.wrap .i64 ((↑(List.length (List.map Post.pv b)) : Int) + 1)), vw y.known, vw y.value, .pv (.sl y.so 3 (List.map Leg.pv y.legs)), vi y.rev, vi y.kind, .pv (.str y.memo)]] = some (AV.tup [AV.agg [.pv (.sl o3 s3 (List.map Post.pv c))], AV.c (vi e)]), (e == 0) = false]) (by kernel_rfl)
    ⟨(decide_eq_true g1), (Int.natCast_nonneg _), (map_at hy), (decide_eq_false g2), (h), (beq_eq_false_iff_ne.mpr g3), trivial⟩
theorem l5x_1 (bs : PV) (ws : PV) (k : Int) (m : List Post) (q : SO) (o2 : SO) (s2 : Nat) (b : List Post) (i : Nat) (hi : ¬(↑i : Int) < (↑(List.length (List.map Post.pv m)) : Int)) :
    lv (cv (ev X E0) xf5_l0) (rl [2, 4, 0, 0, 0, 24, 0, 0]) 3 (S5 (.pv bs) (.pv ws) k m q (.pv (.sl o2 s2 (List.map Post.pv b))) (↑i : Int)) = some (XExit.exit 0, St.mk (tmOf 126 [(2, AV.c (vw k)), (7, AV.c (.ptr 0 0)), (8, AV.c (.ptr 1 0)), (9, AV.c (vi 0)), (10, AV.c (.ptr 2 0))]) [.cells [.pv bs], .cells [.pv ws], .cells [.pv (.sl o2 s2 (List.map Post.pv b))]]) :=
  lv_exit [.br false]
    (c := [decide ((↑i : Int) < (↑(List.length (List.map Post.pv m)) : Int)) = false]) (by kernel_rfl)
    ⟨(decide_eq_false hi), trivial⟩
theorem f5f_1 (l : List Post) (m : List Post) (o : SO) (q : SO) (k : Int) (h15 : cc (ev X E0) 15 [AV.sl o 7 (List.map Post.pv l)] [] = some (AV.b false, [])) (h17 : cc (ev X E0) (17 : Nat) [] [] = some (AV.b true, [])) :
    cc (ev X E0) 5 [AV.c (.pv (.sl o 7 (List.map Post.pv l))), AV.c (.pv (.sl q 7 (List.map Post.pv m))), AV.c (vw k)] [] = some (AV.c (.pv (.bool true)), []) :=
  cc_path (x := xf5) rfl [.call (AV.c (.pv (.bool false))) [], .br true, .br true, .br true, .br true, .br true, .call (AV.c (.pv (.bool true))) []]
    (c := [cc (ev X E0) 15 [AV.c (.pv (.sl o 7 (List.map Post.pv l)))] [] = some (AV.c (.pv (.bool false)), []), true = true, true = true, true = true, true = true, true = true, cc (ev X E0) (17 : Nat) [] [] = some (AV.c (.pv (.bool true)), [])]) (by kernel_rfl)
    ⟨(h15), rfl, rfl, rfl, rfl, rfl, (h17), trivial⟩
theorem f5g_1 (l : List Post) (m : List Post) (o : SO) (q : SO) (k : Int) (h15 : cc (ev X E0) 15 [AV.sl o 7 (List.map Post.pv l)] [] = some (AV.b true, [])) (h15' : cc (ev X E0) 15 [AV.sl q 7 (List.map Post.pv m)] [] = some (AV.b false, [])) (h17 : cc (ev X E0) (17 : Nat) [] [] = some (AV.b true, [])) :
    cc (ev X E0) 5 [AV.c (.pv (.sl o 7 (List.map Post.pv l))), AV.c (.pv (.sl q 7 (List.map Post.pv m))), AV.c (vw k)] [] = some (AV.c (.pv (.bool true)), []) :=
  cc_path (x := xf5) rfl [.call (AV.c (.pv (.bool true))) [], .br false, .br false, .call (AV.c (.pv (.bool false))) [], .br false, .br false, .br true, .call (AV.c (.pv (.bool true))) []]
    (c := [cc (ev X E0) 15 [AV.c (.pv (.sl o 7 (List.map Post.pv l)))] [] = some (AV.c (.pv (.bool true)), []), false = false, false = false, cc (ev X E0) 15 [AV.c (.pv (.sl q 7 (List.map Post.pv m)))] [] = some (AV.c (.pv (.bool false)), []), false = false, false = false, true = true, cc (ev X E0) (17 : Nat) [] [] = some (AV.c (.pv (.bool true)), [])]) (by kernel_rfl)
    ⟨(h15), rfl, rfl, (h15'), rfl, rfl, rfl, (h17), trivial⟩
theorem f5_1 (l : List Post) (m : List Post) (o : SO) (q : SO) (k : Int) (b : List Post) (c : List Post) (w : List Post) (w2 : List Post) (o1 : SO) (o2 : SO) (s1 : Nat) (s2 : Nat) (hne : b ≠ []) (h15 : cc (ev X E0) 15 [AV.sl o 7 (List.map Post.pv l)] [] = some (AV.b true, [])) (h15' : cc (ev X E0) 15 [AV.sl q 7 (List.map Post.pv m)] [] = some (AV.b true, [])) (h17 : cc (ev X E0) (17 : Nat) [] [] = some (AV.b true, [])) (h36 : cs (ev X E0) 36 [AV.sl o 7 (List.map Post.pv l)] = some (Bk SO.shut 7 b)) (h20 : cs (ev X E0) 20 [Bk SO.shut 7 b, AV.int IntKind.i32 k] = some (AV.tup [Bk o1 s1 w, AV.i 0])) (hl : lv (cv (ev X E0) xf5_l0) (rl [2, 4, 0, 0, 0, 24, 0, 0]) 3 (S5 (.pv (.sl SO.shut 7 (List.map Post.pv b))) (.pv (.sl o1 s1 (List.map Post.pv w))) k m q (.pv (.sl SO.shut 7 (List.map Post.pv b))) 0) = some (XExit.exit 0, St.mk (tmOf 126 [(2, AV.c (vw k)), (7, AV.c (.ptr 0 0)), (8, AV.c (.ptr 1 0)), (9, AV.c (vi 0)), (10, AV.c (.ptr 2 0))]) [.cells [.pv (.sl SO.shut 7 (List.map Post.pv b))], .cells [.pv (.sl o1 s1 (List.map Post.pv w))], .cells [.pv (.sl SO.shut 7 (List.map Post.pv c))]])) (h20' : cs (ev X E0) 20 [Bk SO.shut 7 c, AV.int IntKind.i32 k] = some (AV.tup [Bk o2 s2 w2, AV.i 0])) (h27 : cc (ev X E0) 27 [AV.sl o1 s1 (List.map Post.pv w), AV.sl o2 s2 (List.map Post.pv w2)] [] = some (AV.b true, [])) (h25 : cc (ev X E0) 25 [Bk o2 s2 w2] [] = some (AV.b true, [])) (q1 : cc (ev X E0) 27 [AV.sl o2 s2 (List.map Post.pv w2), AV.sl SO.shut 7 (List.take (List.length (List.map Post.pv w2)) (List.map Post.pv b))] [] = some (AV.b true, [])) (q2 : cc (ev X E0) 27 [AV.sl SO.shut 7 (List.take (List.length (List.map Post.pv b)) (List.map Post.pv c)), AV.sl SO.shut 7 (List.map Post.pv b)] [] = some (AV.b true, [])) (g1 : (↑(List.length (List.map Post.pv w2)) : Int) ≤ (↑(List.length (List.map Post.pv b)) : Int)) (g2 : (↑(List.length (List.map Post.pv c)) : Int) ≥ (↑(List.length (List.map Post.pv b)) : Int)) (g3 : (↑(List.length (List.map Post.pv b)) : Int) ≤ (↑(List.length (List.map Post.pv c)) : Int)) :
    cc (ev X E0) 5 [AV.c (.pv (.sl o 7 (List.map Post.pv l))), AV.c (.pv (.sl q 7 (List.map Post.pv m))), AV.c (vw k)] [] = some (AV.c (.pv (.bool true)), []) :=
  cc_path (x := xf5) rfl [.call (AV.c (.pv (.bool true))) [], .br false, .br false, .call (AV.c (.pv (.bool true))) [], .br false, .br false, .br false, .shut (AV.agg [.pv (.sl SO.shut 7 (List.map Post.pv b))]), .shut (AV.tup [AV.agg [.pv (.sl o1 s1 (List.map Post.pv w))], AV.c (vi 0)]), .loop (XExit.exit 0) (St.mk (tmOf 126 [(2, AV.c (vw k)), (7, AV.c (.ptr 0 0)), (8, AV.c (.ptr 1 0)), (9, AV.c (vi 0)), (10, AV.c (.ptr 2 0))]) [.cells [.pv (.sl SO.shut 7 (List.map Post.pv b))], .cells [.pv (.sl o1 s1 (List.map Post.pv w))], .cells [.pv (.sl SO.shut 7 (List.map Post.pv c))]]), .shut (AV.tup [AV.agg [.pv (.sl o2 s2 (List.map Post.pv w2))], AV.c (vi 0)]), .call (AV.c (.pv (.bool true))) [], .br true, .br true, .br true, .br true, .br true, .br true, .br true, .br true, .br true, .br true, .br true, .call (AV.c (.pv (.bool true))) [], .br true, .br true, .br true, .call (AV.c (.pv (.bool true))) [], .br true, .br true, .br true, .br true, .br true, .br true, .br true, .br true, .br true, .br true, .br true, .br true, .br true, .br true, .br true, .br true, .br true, .nn, .br true, .call (AV.c (.pv (.bool true))) [], .br true, .br true, .br true, .br true, .br true, .br true, .br true, .br true, .br true, .br true, .br true, .br true, .br true, .br true, .br true, .nn, .br true, .br true, .br true, .call (AV.c (.pv (.bool true))) [], .br true]
    (c := [cc (ev X E0) 15 [AV.c (.pv (.sl o 7 (List.map Post.pv l)))] [] = some (AV.c (.pv (.bool true)), []), false = false, false = false, cc (ev X E0) 15 [AV.c (.pv (.sl q 7 (List.map Post.pv m)))] [] = some (AV.c (.pv (.bool true)), []), false = false, false = false, false = false, cs (ev X E0) 36 [AV.c (.pv (.sl o 7 (List.map Post.pv l)))] = some (AV.agg [.pv (.sl SO.shut 7 (List.map Post.pv b))]), cs (ev X E0) 20 [AV.agg [.pv (.sl SO.shut 7 (List.map Post.pv b))], AV.c (vw k)] = some (AV.tup [AV.agg [.pv (.sl o1 s1 (List.map Post.pv w))], AV.c (vi 0)]), lv (cv (ev X E0) xf5_l0) (rl [2, 4, 0, 0, 0, 24, 0, 0]) 3 (St.mk (tmOf 126 [(2, AV.c (vw k)), (7, AV.c (.ptr 0 0)), (8, AV.c (.ptr 1 0)), (9, AV.c (vi 0)), (10, AV.c (.ptr 2 0)), (35, AV.c (.pv (.sl q 7 (List.map Post.pv m)))), (36, AV.c (vi (↑(List.length (List.map Post.pv m)) : Int))), (37, AV.c (vi 0))]) [.cells [.pv (.sl SO.shut 7 (List.map Post.pv b))], .cells [.pv (.sl o1 s1 (List.map Post.pv w))], .cells [.pv (.sl SO.shut 7 (List.map Post.pv b))]]) = some (XExit.exit 0, St.mk (tmOf 126 [(2, AV.c (vw k)), (7, AV.c (.ptr 0 0)), (8, AV.c (.ptr 1 0)), (9, AV.c (vi 0)), (10, AV.c (.ptr 2 0))]) [.cells [.pv (.sl SO.shut 7 (List.map Post.pv b))], .cells [.pv (.sl o1 s1 (List.map Post.pv w))], .cells [.pv (.sl SO.shut 7 (List.map Post.pv c))]]), cs (ev X E0) 20 [AV.agg [.pv (.sl SO.shut 7 (List.map Post.pv c))], AV.c (vw k)] = some (AV.tup [AV.agg [.pv (.sl o2 s2 (List.map Post.pv w2))], AV.c (vi 0)]), cc (ev X E0) (17 : Nat) [] [] = some (AV.c (.pv (.bool true)), []), true = true, true = true, true = true, true = true, true = true, true = true, true = true, true = true, true = true, true = true, true = true, cc (ev X E0) 27 [AV.c (.pv (.sl o1 s1 (List.map Post.pv w))), AV.c (.pv (.sl o2 s2 (List.map Post.pv w2)))] [] = some (AV.c (.pv (.bool true)), []), true = true, true = true, true = true, cc (ev X E0) 25 [AV.agg [.pv (.sl o2 s2 (List.map Post.pv w2))]] [] = some (AV.c (.pv (.bool true)), []), true = true, true = true, true = true, true = true, true = true, true = true, true = true, true = true, true = true, decide ((↑(List.length (List.map Post.pv w2)) : Int) ≤ (↑(List.length (List.map Post.pv b)) : Int)) = true, decide ((↑(List.length (List.map Post.pv w2)) : Int) ≤ (↑(List.length (List.map Post.pv b)) : Int)) = true, decide ((↑(List.length (List.map Post.pv w2)) : Int) ≤ (↑(List.length (List.map Post.pv b)) : Int)) = true, decide ((↑(List.length (List.map Post.pv w2)) : Int) ≤ (↑(List.length (List.map Post.pv b)) : Int)) = true, decide ((↑(List.length (List.map Post.pv w2)) : Int) ≤ (↑(List.length (List.map Post.pv b)) : Int)) = true, decide ((↑(List.length (List.map Post.pv w2)) : Int) ≤ (↑(List.length (List.map Post.pv b)) : Int)) = true, decide ((↑(List.length (List.map Post.pv w2)) : Int) ≤ (↑(List.length (List.map Post.pv b)) : Int)) = true, decide ((↑(List.length (List.map Post.pv w2)) : Int) ≤ (↑(List.length (List.map Post.pv b)) : Int)) = true, szOk 7 (.pv (.sl SO.shut 7 (List.map Post.pv b))) = true, CV.some' (.pv (.sl SO.shut 7 (List.map Post.pv b))) = true, (0 : Int) ≤ (0 : Int), 0 ≤ (↑(List.length (List.map Post.pv w2)) : Int), (↑(List.length (List.map Post.pv w2)) : Int) ≤ (↑(List.length (List.map Post.pv b)) : Int), decide ((↑(List.length (List.map Post.pv w2)) : Int) ≤ (↑(List.length (List.map Post.pv b)) : Int)) = true, cc (ev X E0) 27 [AV.c (.pv (.sl o2 s2 (List.map Post.pv w2))), AV.c (.pv (.sl SO.shut 7 (List.take (List.length (List.map Post.pv w2)) (List.map Post.pv b))))] [] = some (AV.c (.pv (.bool true)), []), decide ((↑(List.length (List.map Post.pv w2)) : Int) ≤ (↑(List.length (List.map Post.pv b)) : Int)) = true, true = true, true = true, true = true, true = true, true = true, true = true, true = true, true = true, decide ((↑(List.length (List.map Post.pv c)) : Int) ≥ (↑(List.length (List.map Post.pv b)) : Int)) = true, decide ((↑(List.length (List.map Post.pv c)) : Int) ≥ (↑(List.length (List.map Post.pv b)) : Int)) = true, decide ((↑(List.length (List.map Post.pv c)) : Int) ≥ (↑(List.length (List.map Post.pv b)) : Int)) = true, decide ((↑(List.length (List.map Post.pv c)) : Int) ≥ (↑(List.length (List.map Post.pv b)) : Int)) = true, decide ((↑(List.length (List.map Post.pv c)) : Int) ≥ (↑(List.length (List.map Post.pv b)) : Int)) = true, decide ((↑(List.length (List.map Post.pv c)) : Int) ≥ (↑(List.length (List.map Post.pv b)) : Int)) = true, szOk 7 (.pv (.sl SO.shut 7 (List.map Post.pv c))) = true, CV.some' (.pv (.sl SO.shut 7 (List.map Post.pv c))) = true, (0 : Int) ≤ (0 : Int), 0 ≤ (↑(List.length (List.map Post.pv b)) : Int), (↑(List.length (List.map Post.pv b)) : Int) ≤ (↑(List.length (List.map Post.pv c)) : Int), decide ((↑(List.length (List.map Post.pv c)) : Int) ≥ (↑(List.length (List.map Post.pv b)) : Int)) = true, decide ((↑(List.length (List.map Post.pv c)) : Int) ≥ (↑(List.length (List.map Post.pv b)) : Int)) = true, decide ((↑(List.length (List.map Post.pv c)) : Int) ≥ (↑(List.length (List.map Post.pv b)) : Int)) = true, cc (ev X E0) 27 [AV.c (.pv (.sl SO.shut 7 (List.take (List.length (List.map Post.pv b)) (List.map Post.pv c)))), AV.c (.pv (.sl SO.shut 7 (List.map Post.pv b)))] [] = some (AV.c (.pv (.bool true)), []), decide ((↑(List.length (List.map Post.pv c)) : Int) ≥ (↑(List.length (List.map Post.pv b)) : Int)) = true]) (by kernel_rfl)
    ⟨(h15), rfl, rfl, (h15'), rfl, rfl, rfl, (h36), (h20), (hl), (h20'), (h17), rfl, rfl, rfl, rfl, rfl, rfl, rfl, rfl, rfl, rfl, rfl, (h27), rfl, rfl, rfl, (h25), rfl, rfl, rfl, rfl, rfl, rfl, rfl, rfl, rfl, (decide_eq_true g1), (decide_eq_true g1), (decide_eq_true g1), (decide_eq_true g1), (decide_eq_true g1), (decide_eq_true g1), (decide_eq_true g1), (decide_eq_true g1), rfl, rfl, (Int.le_refl _), (Int.natCast_nonneg _), g1, (decide_eq_true g1), (q1), (decide_eq_true g1), rfl, rfl, rfl, rfl, rfl, rfl, rfl, rfl, (decide_eq_true g2), (decide_eq_true g2), (decide_eq_true g2), (decide_eq_true g2), (decide_eq_true g2), (decide_eq_true g2), rfl, rfl, (Int.le_refl _), (Int.natCast_nonneg _), g3, (decide_eq_true g2), (decide_eq_true g2), (decide_eq_true g2), (q2), (decide_eq_true g2), trivial⟩
theorem f5zn_1 (l : List Post) (m : List Post) (o : SO) (q : SO) (k : Int) (h15 : cc (ev X E0) 15 [AV.sl o 7 (List.map Post.pv l)] [] = some (AV.b true, [])) (h15' : cc (ev X E0) 15 [AV.sl q 7 (List.map Post.pv m)] [] = some (AV.b true, [])) (h17 : cc (ev X E0) (17 : Nat) [] [] = some (AV.b true, [])) (h36 : cs (ev X E0) 36 [AV.sl o 7 (List.map Post.pv l)] = some (Bk SO.nil 0 [])) (h20 : cs (ev X E0) 20 [Bk SO.nil 0 [], AV.int IntKind.i32 k] = some (AV.tup [Bk SO.nil 0 [], AV.i 0])) (hl : lv (cv (ev X E0) xf5_l0) (rl [2, 4, 0, 0, 0, 24, 0, 0]) 3 (S5 (.pv (.sl SO.nil 0 (List.map Post.pv []))) (.pv (.sl SO.nil 0 (List.map Post.pv []))) k m q (.pv (.sl SO.nil 0 (List.map Post.pv []))) 0) = some (XExit.exit 0, St.mk (tmOf 126 [(2, AV.c (vw k)), (7, AV.c (.ptr 0 0)), (8, AV.c (.ptr 1 0)), (9, AV.c (vi 0)), (10, AV.c (.ptr 2 0))]) [.cells [.pv (.sl SO.nil 0 (List.map Post.pv []))], .cells [.pv (.sl SO.nil 0 (List.map Post.pv []))], .cells [.pv (.sl SO.nil 0 (List.map Post.pv []))]])) (h20' : cs (ev X E0) 20 [Bk SO.nil 0 [], AV.int IntKind.i32 k] = some (AV.tup [Bk SO.nil 0 [], AV.i 0])) (h25 : cc (ev X E0) (25 : Nat) [Bk SO.nil (0 : Nat) []] [] = some (AV.b true, [])) (q1 : cc (ev X E0) (27 : Nat) [AV.sl SO.nil (0 : Nat) (List.map Post.pv []), AV.sl SO.nil (0 : Nat) (List.map Post.pv [])] [] = some (AV.b true, [])) :
    cc (ev X E0) 5 [AV.c (.pv (.sl o 7 (List.map Post.pv l))), AV.c (.pv (.sl q 7 (List.map Post.pv m))), AV.c (vw k)] [] = some (AV.c (.pv (.bool true)), []) :=
  cc_path (x := xf5) rfl [.call (AV.c (.pv (.bool true))) [], .br false, .br false, .call (AV.c (.pv (.bool true))) [], .br false, .br false, .br false, .shut (AV.agg [.pv (.sl SO.nil (0 : Nat) [])]), .shut (AV.tup [AV.agg [.pv (.sl SO.nil (0 : Nat) [])], AV.c (vi (0 : Int))]), .loop (XExit.exit 0) (St.mk (tmOf 126 [(2, AV.c (vw k)), (7, AV.c (.ptr 0 0)), (8, AV.c (.ptr 1 0)), (9, AV.c (vi 0)), (10, AV.c (.ptr 2 0))]) [.cells [.pv (.sl SO.nil 0 [])], .cells [.pv (.sl SO.nil 0 [])], .cells [.pv (.sl SO.nil 0 [])]]), .shut (AV.tup [AV.agg [.pv (.sl SO.nil (0 : Nat) [])], AV.c (vi (0 : Int))]), .call (AV.c (.pv (.bool true))) [], .br true, .br true, .br true, .br true, .br true, .br true, .br true, .br true, .br true, .br true, .br true, .call (AV.c (.pv (.bool true))) [], .br true, .br true, .br true, .call (AV.c (.pv (.bool true))) [], .br true, .br true, .br true, .br true, .br true, .br true, .br true, .br true, .br true, .br true, .br true, .br true, .br true, .br true, .br true, .br true, .br true, .br true, .call (AV.c (.pv (.bool true))) [], .br true, .br true, .br true, .br true, .br true, .br true, .br true, .br true, .br true, .br true, .br true, .br true, .br true, .br true, .br true, .br true, .br true, .br true, .call (AV.c (.pv (.bool true))) [], .br true]
    (c := [cc (ev X E0) 15 [AV.c (.pv (.sl o 7 (List.map Post.pv l)))] [] = some (AV.c (.pv (.bool true)), []), false = false, false = false, cc (ev X E0) 15 [AV.c (.pv (.sl q 7 (List.map Post.pv m)))] [] = some (AV.c (.pv (.bool true)), []), false = false, false = false, false = false, cs (ev X E0) 36 [AV.c (.pv (.sl o 7 (List.map Post.pv l)))] = some (AV.agg [.pv (.sl SO.nil 0 [])]), cs (ev X E0) 20 [AV.agg [.pv (.sl SO.nil 0 [])], AV.c (vw k)] = some (AV.tup [AV.agg [.pv (.sl SO.nil 0 [])], AV.c (vi 0)]), lv (cv (ev X E0) xf5_l0) (rl [2, 4, 0, 0, 0, 24, 0, 0]) 3 (St.mk (tmOf 126 [(2, AV.c (vw k)), (7, AV.c (.ptr 0 0)), (8, AV.c (.ptr 1 0)), (9, AV.c (vi 0)), (10, AV.c (.ptr 2 0)), (35, AV.c (.pv (.sl q 7 (List.map Post.pv m)))), (36, AV.c (vi (↑(List.length (List.map Post.pv m)) : Int))), (37, AV.c (vi 0))]) [.cells [.pv (.sl SO.nil 0 [])], .cells [.pv (.sl SO.nil 0 [])], .cells [.pv (.sl SO.nil 0 [])]]) = some (XExit.exit 0, St.mk (tmOf 126 [(2, AV.c (vw k)), (7, AV.c (.ptr 0 0)), (8, AV.c (.ptr 1 0)), (9, AV.c (vi 0)), (10, AV.c (.ptr 2 0))]) [.cells [.pv (.sl SO.nil 0 [])], .cells [.pv (.sl SO.nil 0 [])], .cells [.pv (.sl SO.nil 0 [])]]), cs (ev X E0) 20 [AV.agg [.pv (.sl SO.nil 0 [])], AV.c (vw k)] = some (AV.tup [AV.agg [.pv (.sl SO.nil 0 [])], AV.c (vi 0)]), cc (ev X E0) (17 : Nat) [] [] = some (AV.c (.pv (.bool true)), []), true = true, true = true, true = true, true = true, true = true, true = true, true = true, true = true, true = true, true = true, true = true, cc (ev X E0) (27 : Nat) [AV.c (.pv (.sl SO.nil (0 : Nat) [])), AV.c (.pv (.sl SO.nil (0 : Nat) []))] [] = some (AV.c (.pv (.bool true)), []), true = true, true = true, true = true, cc (ev X E0) (25 : Nat) [AV.agg [.pv (.sl SO.nil (0 : Nat) [])]] [] = some (AV.c (.pv (.bool true)), []), true = true, true = true, true = true, true = true, true = true, true = true, true = true, true = true, true = true, true = true, true = true, true = true, true = true, true = true, true = true, true = true, true = true, (0 : Int) ≤ (0 : Int), (0 : Int) ≤ (0 : Int), (0 : Int) ≤ (0 : Int), true = true, cc (ev X E0) (27 : Nat) [AV.c (.pv (.sl SO.nil (0 : Nat) [])), AV.c (.pv (.sl SO.nil (0 : Nat) []))] [] = some (AV.c (.pv (.bool true)), []), true = true, true = true, true = true, true = true, true = true, true = true, true = true, true = true, true = true, true = true, true = true, true = true, true = true, true = true, true = true, (0 : Int) ≤ (0 : Int), (0 : Int) ≤ (0 : Int), (0 : Int) ≤ (0 : Int), true = true, true = true, true = true, cc (ev X E0) (27 : Nat) [AV.c (.pv (.sl SO.nil (0 : Nat) [])), AV.c (.pv (.sl SO.nil (0 : Nat) []))] [] = some (AV.c (.pv (.bool true)), []), true = true]) (by kernel_rfl)
    ⟨(h15), rfl, rfl, (h15'), rfl, rfl, rfl, (h36), (h20), (hl), (h20), (h17), rfl, rfl, rfl, rfl, rfl, rfl, rfl, rfl, rfl, rfl, rfl, (q1), rfl, rfl, rfl, (h25), rfl, rfl, rfl, rfl, rfl, rfl, rfl, rfl, rfl, rfl, rfl, rfl, rfl, rfl, rfl, rfl, rfl, (Int.le_refl _), (Int.le_refl _), (Int.le_refl _), rfl, (q1), rfl, rfl, rfl, rfl, rfl, rfl, rfl, rfl, rfl, rfl, rfl, rfl, rfl, rfl, rfl, (Int.le_refl _), (Int.le_refl _), (Int.le_refl _), rfl, rfl, rfl, (q1), rfl, trivial⟩
theorem f5zs_1 (l : List Post) (m : List Post) (o : SO) (q : SO) (k : Int) (c : List Post) (h15 : cc (ev X E0) 15 [AV.sl o 7 (List.map Post.pv l)] [] = some (AV.b true, [])) (h15' : cc (ev X E0) 15 [AV.sl q 7 (List.map Post.pv m)] [] = some (AV.b true, [])) (h17 : cc (ev X E0) (17 : Nat) [] [] = some (AV.b true, [])) (h36 : cs (ev X E0) 36 [AV.sl o 7 (List.map Post.pv l)] = some (Bk SO.nil 0 [])) (h20 : cs (ev X E0) 20 [Bk SO.nil 0 [], AV.int IntKind.i32 k] = some (AV.tup [Bk SO.nil 0 [], AV.i 0])) (hl : lv (cv (ev X E0) xf5_l0) (rl [2, 4, 0, 0, 0, 24, 0, 0]) 3 (S5 (.pv (.sl SO.nil 0 (List.map Post.pv []))) (.pv (.sl SO.nil 0 (List.map Post.pv []))) k m q (.pv (.sl SO.nil 0 (List.map Post.pv []))) 0) = some (XExit.exit 0, St.mk (tmOf 126 [(2, AV.c (vw k)), (7, AV.c (.ptr 0 0)), (8, AV.c (.ptr 1 0)), (9, AV.c (vi 0)), (10, AV.c (.ptr 2 0))]) [.cells [.pv (.sl SO.nil 0 (List.map Post.pv []))], .cells [.pv (.sl SO.nil 0 (List.map Post.pv []))], .cells [.pv (.sl SO.shut 7 (List.map Post.pv c))]])) (h20' : cs (ev X E0) 20 [Bk SO.shut 7 c, AV.int IntKind.i32 k] = some (AV.tup [Bk SO.nil 0 [], AV.i 0])) (h25 : cc (ev X E0) (25 : Nat) [Bk SO.nil (0 : Nat) []] [] = some (AV.b true, [])) (q1 : cc (ev X E0) (27 : Nat) [AV.sl SO.nil (0 : Nat) (List.map Post.pv []), AV.sl SO.nil (0 : Nat) (List.map Post.pv [])] [] = some (AV.b true, [])) (q2 : cc (ev X E0) 27 [AV.sl SO.shut 7 (List.take 0 (List.map Post.pv c)), AV.sl SO.nil 0 (List.map Post.pv [])] [] = some (AV.b true, [])) :
    cc (ev X E0) 5 [AV.c (.pv (.sl o 7 (List.map Post.pv l))), AV.c (.pv (.sl q 7 (List.map Post.pv m))), AV.c (vw k)] [] = some (AV.c (.pv (.bool true)), []) :=
  cc_path (x := xf5) rfl [.call (AV.c (.pv (.bool true))) [], .br false, .br false, .call (AV.c (.pv (.bool true))) [], .br false, .br false, .br false, .shut (AV.agg [.pv (.sl SO.nil (0 : Nat) [])]), .shut (AV.tup [AV.agg [.pv (.sl SO.nil (0 : Nat) [])], AV.c (vi (0 : Int))]), .loop (XExit.exit 0) (St.mk (tmOf 126 [(2, AV.c (vw k)), (7, AV.c (.ptr 0 0)), (8, AV.c (.ptr 1 0)), (9, AV.c (vi 0)), (10, AV.c (.ptr 2 0))]) [.cells [.pv (.sl SO.nil 0 [])], .cells [.pv (.sl SO.nil 0 [])], .cells [.pv (.sl SO.shut 7 (List.map Post.pv c))]]), .shut (AV.tup [AV.agg [.pv (.sl SO.nil (0 : Nat) [])], AV.c (vi (0 : Int))]), .call (AV.c (.pv (.bool true))) [], .br true, .br true, .br true, .br true, .br true, .br true, .br true, .br true, .br true, .br true, .br true, .call (AV.c (.pv (.bool true))) [], .br true, .br true, .br true, .call (AV.c (.pv (.bool true))) [], .br true, .br true, .br true, .br true, .br true, .br true, .br true, .br true, .br true, .br true, .br true, .br true, .br true, .br true, .br true, .br true, .br true, .br true, .call (AV.c (.pv (.bool true))) [], .br true, .br true, .br true, .br true, .br true, .br true, .br true, .br true, .br true, .br true, .br true, .br true, .br true, .br true, .br true, .nn, .br true, .br true, .br true, .call (AV.c (.pv (.bool true))) [], .br true]
    (c := [cc (ev X E0) 15 [AV.c (.pv (.sl o 7 (List.map Post.pv l)))] [] = some (AV.c (.pv (.bool true)), []), false = false, false = false, cc (ev X E0) 15 [AV.c (.pv (.sl q 7 (List.map Post.pv m)))] [] = some (AV.c (.pv (.bool true)), []), false = false, false = false, false = false, cs (ev X E0) 36 [AV.c (.pv (.sl o 7 (List.map Post.pv l)))] = some (AV.agg [.pv (.sl SO.nil 0 [])]), cs (ev X E0) 20 [AV.agg [.pv (.sl SO.nil 0 [])], AV.c (vw k)] = some (AV.tup [AV.agg [.pv (.sl SO.nil 0 [])], AV.c (vi 0)]), lv (cv (ev X E0) xf5_l0) (rl [2, 4, 0, 0, 0, 24, 0, 0]) 3 (St.mk (tmOf 126 [(2, AV.c (vw k)), (7, AV.c (.ptr 0 0)), (8, AV.c (.ptr 1 0)), (9, AV.c (vi 0)), (10, AV.c (.ptr 2 0)), (35, AV.c (.pv (.sl q 7 (List.map Post.pv m)))), (36, AV.c (vi (↑(List.length (List.map Post.pv m)) : Int))), (37, AV.c (vi 0))]) [.cells [.pv (.sl SO.nil 0 [])], .cells [.pv (.sl SO.nil 0 [])], .cells [.pv (.sl SO.nil 0 [])]]) = some (XExit.exit 0, St.mk (tmOf 126 [(2, AV.c (vw k)), (7, AV.c (.ptr 0 0)), (8, AV.c (.ptr 1 0)), (9, AV.c (vi 0)), (10, AV.c (.ptr 2 0))]) [.cells [.pv (.sl SO.nil 0 [])], .cells [.pv (.sl SO.nil 0 [])], .cells [.pv (.sl SO.shut 7 (List.map Post.pv c))]]), cs (ev X E0) 20 [AV.agg [.pv (.sl SO.shut 7 (List.map Post.pv c))], AV.c (vw k)] = some (AV.tup [AV.agg [.pv (.sl SO.nil 0 [])], AV.c (vi 0)]), cc (ev X E0) (17 : Nat) [] [] = some (AV.c (.pv (.bool true)), []), true = true, true = true, true = true, true = true, true = true, true = true, true = true, true = true, true = true, true = true, true = true, cc (ev X E0) (27 : Nat) [AV.c (.pv (.sl SO.nil (0 : Nat) [])), AV.c (.pv (.sl SO.nil (0 : Nat) []))] [] = some (AV.c (.pv (.bool true)), []), true = true, true = true, true = true, cc (ev X E0) (25 : Nat) [AV.agg [.pv (.sl SO.nil (0 : Nat) [])]] [] = some (AV.c (.pv (.bool true)), []), true = true, true = true, true = true, true = true, true = true, true = true, true = true, true = true, true = true, true = true, true = true, true = true, true = true, true = true, true = true, true = true, true = true, (0 : Int) ≤ (0 : Int), (0 : Int) ≤ (0 : Int), (0 : Int) ≤ (0 : Int), true = true, cc (ev X E0) (27 : Nat) [AV.c (.pv (.sl SO.nil (0 : Nat) [])), AV.c (.pv (.sl SO.nil (0 : Nat) []))] [] = some (AV.c (.pv (.bool true)), []), true = true, true = true, true = true, true = true, true = true, true = true, true = true, true = true, true = true, true = true, true = true, true = true, true = true, true = true, true = true, szOk 7 (.pv (.sl SO.shut 7 (List.map Post.pv c))) = true, CV.some' (.pv (.sl SO.shut 7 (List.map Post.pv c))) = true, (0 : Int) ≤ (0 : Int), (0 : Int) ≤ (0 : Int), 0 ≤ (↑(List.length (List.map Post.pv c)) : Int), true = true, true = true, true = true, cc (ev X E0) (27 : Nat) [AV.c (.pv (.sl SO.shut (7 : Nat) [])), AV.c (.pv (.sl SO.nil (0 : Nat) []))] [] = some (AV.c (.pv (.bool true)), []), true = true]) (by kernel_rfl)
    ⟨(h15), rfl, rfl, (h15'), rfl, rfl, rfl, (h36), (h20), (hl), (h20'), (h17), rfl, rfl, rfl, rfl, rfl, rfl, rfl, rfl, rfl, rfl, rfl, (q1), rfl, rfl, rfl, (h25), rfl, rfl, rfl, rfl, rfl, rfl, rfl, rfl, rfl, rfl, rfl, rfl, rfl, rfl, rfl, rfl, rfl, (Int.le_refl _), (Int.le_refl _), (Int.le_refl _), rfl, (q1), rfl, rfl, rfl, rfl, rfl, rfl, rfl, rfl, rfl, rfl, rfl, rfl, rfl, rfl, rfl, rfl, rfl, (Int.le_refl _), (Int.le_refl _), (Int.natCast_nonneg _), rfl, rfl, rfl, (q2), rfl, trivial⟩
-- keep f5: 1
-- keep f5zn: 1
-- keep l5: 1 2 3
/-- One more, if it is known later and can be added. -/
def putK (k : Int) (c : List Post) (p : Post) : List Post := if p.known ≤ k then c else put c p
theorem putK_built {k : Int} {b : List Post} {n : Nat} (h : Built b n) {p : Post} (hp : Nice p) : Built (putK k b p) (n + 1) := by
  unfold putK
  split
  · exact ⟨h.right, h.shut, h.nice, by have := h.len; omega⟩
  · exact put_built h hp
theorem foldK_built {k : Int} : ∀ {l b : List Post} {n : Nat}, Built b n → (∀ p ∈ l, Nice p) → Built (l.foldl (putK k) b) (n + l.length)
  | [], b, n, h, _ => h
  | p :: l, b, n, h, hN => by
    have := foldK_built (k := k) (l := l) (putK_built (k := k) h (hN p (by simp))) fun q hq => hN q (by simp [hq])
    rw [List.length_cons, show n + (l.length + 1) = n + 1 + l.length by omega]
    exact this
theorem foldK_ext {k : Int} : ∀ (l b : List Post), ∃ ext, l.foldl (putK k) b = b ++ ext ∧ ∀ p ∈ ext, k < p.known
  | [], b => ⟨[], by simp, by simp⟩
  | p :: l, b => by
    obtain ⟨ext, h1, h2⟩ := foldK_ext (k := k) l (putK k b p)
    rw [List.foldl_cons, h1]
    unfold putK put
    split
    · exact ⟨ext, rfl, h2⟩
    · rename_i hk
      split
      · refine ⟨sh (numbered b p) :: ext, by simp, fun q hq => ?_⟩
        rcases List.mem_cons.1 hq with rfl | hq
        · show k < p.known; omega
        · exact h2 q hq
      · exact ⟨ext, rfl, h2⟩
theorem a5 {bs ws : PV} {k : Int} {m : List Post} {q : SO} {b0 : List Post} {n : Nat} (hb0 : Built b0 n) (hn : n ≤ 300) (hl : m.length ≤ 300) (hN : ∀ p ∈ m, Nice p) : ∀ (r pre : List Post), m = pre ++ r →
    lv (cv (ev X E0) xf5_l0) (rl [2, 4, 0, 0, 0, 24, 0, 0]) 3 (S5 (CV.pv bs) (CV.pv ws) k m q (CV.pv (PV.sl (bo (pre.foldl (putK k) b0)) (bz (pre.foldl (putK k) b0)) (List.map Post.pv (pre.foldl (putK k) b0)))) (pre.length : Nat)) =
      some (XExit.exit 0, St.mk (tmOf 126 [(2, AV.c (CV.pv (PV.int .i32 k))), (7, AV.c (CV.ptr 0 0)), (8, AV.c (CV.ptr 1 0)), (9, AV.c (CV.pv (PV.int .i64 0))), (10, AV.c (CV.ptr 2 0))]) [Box.cells [CV.pv bs], Box.cells [CV.pv ws], Box.cells [CV.pv (PV.sl (bo (m.foldl (putK k) b0)) (bz (m.foldl (putK k) b0)) (List.map Post.pv (m.foldl (putK k) b0)))]])
  | [], pre, e => by
    rw [List.append_nil] at e
    subst e
    exact l5x_1 bs ws k m q _ _ _ m.length (by simp)
  | y :: r, pre, e => by
    have hlen : m.length = pre.length + r.length + 1 := by rw [e]; simp; omega
    have hat : m[pre.length]? = some y := by rw [e]; simp
    have hlt := ltP (l := m) (i := pre.length) (by omega)
    have hb := foldK_built (k := k) hb0 (l := pre) fun p hp => hN p (by rw [e]; simp [hp])
    have hy := hN y (by rw [e]; simp)
    have hadd := add_put hb (by omega) hy
    have ih := a5 (bs := bs) (ws := ws) (k := k) (q := q) hb0 hn hl hN r (pre ++ [y]) (by rw [e]; simp)
    rw [List.length_append, List.length_singleton, Int.natCast_add, Int.natCast_one, List.foldl_append, List.foldl_cons, List.foldl_nil] at ih
    by_cases ck : y.known ≤ k
    · rw [show putK k (pre.foldl (putK k) b0) y = pre.foldl (putK k) b0 by unfold putK; rw [if_pos ck]] at ih
      by_cases c : fullE (pre.foldl (putK k) b0) (numbered (pre.foldl (putK k) b0) y) = 0
      · have st := l5_1 bs ws k m q _ _ _ _ _ _ _ pre.length y hat (hadd.1 c) hlt ck
        rw [wi64 (by omega) (by omega)] at st
        exact st.trans ih
      · have st := l5_1 bs ws k m q _ _ _ _ _ _ _ pre.length y hat (hadd.2 c) hlt ck
        rw [wi64 (by omega) (by omega)] at st
        exact st.trans ih
    · rw [show putK k (pre.foldl (putK k) b0) y = put (pre.foldl (putK k) b0) y by unfold putK; rw [if_neg ck]] at ih
      by_cases c : fullE (pre.foldl (putK k) b0) (numbered (pre.foldl (putK k) b0) y) = 0
      · have st := l5_2 bs ws k m q _ _ _ _ _ _ _ pre.length y hat (hadd.1 c) hlt ck rfl
        rw [wi64 (by omega) (by omega)] at st
        exact st.trans ih
      · have st := l5_3 bs ws k m q _ _ _ _ _ _ _ pre.length y hat (hadd.2 c) hlt ck c
        rw [wi64 (by omega) (by omega)] at st
        rw [put_same c] at ih
        exact st.trans ih
theorem sames_refl : ∀ (l : List Post), samesB l l = true
  | [] => rfl
  | p :: l => by
    have ih := sames_refl l
    have hs : same p p = true := by unfold same; rw [legsEq_iff.2 rfl]; simp
    unfold samesB at ih ⊢
    simp only [List.length_cons, decide_true, Bool.true_and, List.zip_cons_cons, List.any_cons, hs, Bool.not_true, Bool.false_or] at ih ⊢
    exact ih
theorem known_of {b : List Post} {n : Nat} (hb : Built b n) (hn : n ≤ 1000) (k : Int) :
    cs (ev X E0) 20 [Bk (bo b) (bz b) b, AV.int .i32 k] = some (.tup [Bk (bo (b.filter fun p => decide (p.known ≤ k))) (bz (b.filter fun p => decide (p.known ≤ k))) (b.filter fun p => decide (p.known ≤ k)), .i 0]) := by
  have h := s20 (b_sz b) b_nil (by have := hb.len; omega) hb.nice k
  have e1 : pickE b = 0 := by unfold pickE; rw [hb.right]; rfl
  have e2 : pickR b (fun p => decide (p.known ≤ k)) = b.filter fun p => decide (p.known ≤ k) := by unfold pickR; rw [hb.right]; rfl
  rw [e1, e2, outP_shut fun p hp => hb.shut p (List.mem_filter.1 hp).1] at h
  exact h
theorem BookStays0 (l m : List Post) (o q : SO) (k : Int) (hwl : ∀ p ∈ l, p.so = .nil → p.legs = []) (hwm : ∀ p ∈ m, p.so = .nil → p.legs = []) : cc (ev X E0) 5 [AV.sl o 7 (l.map Post.pv), AV.sl q 7 (m.map Post.pv), AV.int .i32 k] [] = some (.b true, []) := by
  have h15 := s15 l o
  have h15' := s15 m q
  cases hb : fitsAll l with
  | false => rw [hb] at h15; exact f5f_1 l m o q k h15 alive
  | true =>
  cases hb2 : fitsAll m with
  | false => rw [hb] at h15; rw [hb2] at h15'; exact f5g_1 l m o q k h15 h15' alive
  | true =>
  rw [hb] at h15
  rw [hb2] at h15'
  obtain ⟨hl, hfa⟩ := fits_fair hb
  obtain ⟨hm, hfm⟩ := fits_fair hb2
  have hN : ∀ p ∈ l, Nice p := fun p hp => by
    have h := (hfa p hp).1
    simp only [fits, decide_eq_true_eq] at h
    exact ⟨by omega, by omega, hwl p hp⟩
  have hM : ∀ p ∈ m, Nice p := fun p hp => by
    have h := (hfm p hp).1
    simp only [fits, decide_eq_true_eq] at h
    exact ⟨by omega, by omega, hwm p hp⟩
  have hB := made_built hN
  have hC := foldK_built (k := k) hB hM
  obtain ⟨ext, he, hext⟩ := foldK_ext (k := k) m (made l)
  have h36 := s36 (o := o) (by omega) hN
  have h20 := known_of hB (by omega) k
  have h20' := known_of hC (by omega) k
  have hfe : (m.foldl (putK k) (made l)).filter (fun p => decide (p.known ≤ k)) = (made l).filter (fun p => decide (p.known ≤ k)) := by
    rw [he, List.filter_append]
    have : ext.filter (fun p => decide (p.known ≤ k)) = [] := by
      rw [List.filter_eq_nil_iff]
      intro p hp
      have := hext p hp
      simp only [decide_eq_true_eq]; omega
    rw [this, List.append_nil]
  rw [hfe] at h20'
  have hsf := sorted_filter (k := k) (rightB_sorted hB.right)
  have hFN : ∀ p ∈ (made l).filter (fun p => decide (p.known ≤ k)), Nice p := fun p hp => hB.nice p (List.mem_filter.1 hp).1
  have hFlen : ((made l).filter fun p => decide (p.known ≤ k)).length ≤ (made l).length := List.length_filter_le _ _
  have h25 := s25 (b_sz ((made l).filter fun p => decide (p.known ≤ k))) b_nil (by have := hB.len; omega) hFN
  rw [show rightB ((made l).filter fun p => decide (p.known ≤ k)) = true by rw [hsf]; exact right_take hB.right _] at h25
  have hClen : (made l).length ≤ (m.foldl (putK k) (made l)).length := by rw [he, List.length_append]; omega
  cases hne : made l with
  | nil =>
    have hal := fun bs ws => a5 (bs := bs) (ws := ws) (q := q) (k := k) hB (by omega) (by omega) hM m [] rfl
    simp only [List.foldl_nil] at hal
    rw [hne] at h36 h20 h20' h25 hal
    simp only [hne] at he
    cases hc : m.foldl (putK k) [] with
    | nil =>
      rw [hc] at h20' hal
      exact f5zn_1 l m o q k h15 h15' alive h36 h20 (hal _ _) h20' h25 (s27 rfl rfl (by simp) (by simp))
    | cons y r =>
      rw [hc] at h20' hal
      have q2 := s27 (l := []) (m := []) (o := .shut) (q := .nil) (s := 7) (t := 0) rfl rfl (by simp) (by simp)
      exact f5zs_1 l m o q k (y :: r) h15 h15' alive h36 h20 (hal _ _) h20' h25 (s27 (l := []) (m := []) (o := .nil) (q := .nil) (s := 0) (t := 0) rfl rfl (by simp) (by simp)) q2
  | cons x t =>
    have hbo : bo (made l) = .shut ∧ bz (made l) = 7 := by rw [hne]; exact ⟨rfl, rfl⟩
    have hco : bo (m.foldl (putK k) (made l)) = .shut ∧ bz (m.foldl (putK k) (made l)) = 7 := by rw [he, hne]; exact ⟨rfl, rfl⟩
    have hal := fun bs ws => a5 (bs := bs) (ws := ws) (q := q) (k := k) hB (by omega) (by omega) hM m [] rfl
    simp only [List.foldl_nil] at hal
    rw [hbo.1, hbo.2] at h36 h20 hal
    rw [hco.1, hco.2] at h20' hal
    have hlB := hB.len
    have h27 := s27 (b_sz ((made l).filter fun p => decide (p.known ≤ k))) (b_sz ((made l).filter fun p => decide (p.known ≤ k))) (by omega) (fun p hp => (hFN p hp).legs)
    rw [sames_refl] at h27
    have q1 := s27 (l := (made l).filter fun p => decide (p.known ≤ k)) (m := (made l).take ((made l).filter fun p => decide (p.known ≤ k)).length) (b_sz _) (q := .shut) (t := 7) rfl (by omega) (fun p hp => (hFN p hp).legs)
    rw [← hsf, sames_refl] at q1
    have q2 := s27 (l := (m.foldl (putK k) (made l)).take (made l).length) (m := made l) (o := .shut) (s := 7) (q := .shut) (t := 7) rfl rfl (by rw [List.length_take]; omega) (fun p hp => (hC.nice p (List.mem_of_mem_take hp)).legs)
    rw [show (m.foldl (putK k) (made l)).take (made l).length = made l by rw [he]; simp, sames_refl] at q2
    refine f5_1 l m o q k (made l) (m.foldl (putK k) (made l)) _ _ _ _ _ _ (by rw [hne]; simp) h15 h15' alive h36 h20 (hal _ _) h20' h27 h25 ?_ ?_ (by rw [lenP, lenP]; omega) (by rw [lenP, lenP]; omega) (by rw [lenP, lenP]; omega)
    · rw [List.length_map, ← List.map_take, ← hsf]; exact q1
    · rw [List.length_map, ← List.map_take, show (m.foldl (putK k) (made l)).take (made l).length = made l by rw [he]; simp]; exact q2
theorem BookStays (x0 : PV) (t0 : WT (.sl ctP) x0) (x1 : PV) (t1 : WT (.sl ctP) x1) (x2 : PV) (t2 : WT (.int .i32) x2) : ev X E0 5 [.c (.pv x0), .c (.pv x1), .c (.pv x2)] [] = some (.b true, []) := by
  obtain ⟨o, l, rfl, hl, _⟩ := posts_inv t0
  obtain ⟨q, m, rfl, hm, _⟩ := posts_inv t1
  obtain ⟨k, _, _, rfl⟩ := i32_inv t2
  exact ev_cc (BookStays0 l m o q k (fun p hp => (hl p hp).so) fun p hp => (hm p hp).so)
end Go.Sx.Tryd
