/- What is wrong with a request: amounts and numbers, of the program and of the document. -/
import Derived.Test.YtplknajjcllmkaaDoorH5
namespace Go.Sx.Tryd
open Go Go.Sx
abbrev pvM (m : Int × Int) : PV := PV.agg [PV.int .i64 m.1, PV.int .i64 m.2]
abbrev pvI (n : Int) : PV := PV.int .i64 n
abbrev bx2 (p x : Req) : List Box := [Box.cells (Req.cs p), Box.cells (Req.cs x)]
theorem f120_1 (n : Int) (g1 : n < -2147483648) :
    cc (ev X E0) 120 [AV.c (vi n)] [] = some (AV.c (.pv (.bool true)), []) :=
  cc_path (x := xf120) rfl (bs 3 true)
    (c := rq [(3, decide (n < -2147483648) = true)]) (by kernel_rfl)
    (aq ⟨(dT g1), trivial⟩)
theorem f120_2 (n : Int) (g1 : ¬n < -2147483648) :
    cc (ev X E0) 120 [AV.c (vi n)] [] = some (AV.c (.pv (.bool (decide (n > 2147483647)))), []) :=
  cc_path (x := xf120) rfl (bs 3 false)
    (c := rq [(3, decide (n < -2147483648) = false)]) (by kernel_rfl)
    (aq ⟨(dF g1), trivial⟩)
theorem f72_1 (n : Int) (g1 : n ≥ -2147483648) :
    cc (ev X E0) 72 [AV.c (vi n)] [] = some (AV.c (.pv (.bool (decide (n ≤ 2147483647)))), []) :=
  cc_path (x := xf72) rfl (bs 3 true)
    (c := rq [(3, decide (n ≥ -2147483648) = true)]) (by kernel_rfl)
    (aq ⟨(dT g1), trivial⟩)
theorem f72_2 (n : Int) (g1 : ¬n ≥ -2147483648) :
    cc (ev X E0) 72 [AV.c (vi n)] [] = some (AV.c (.pv (.bool false)), []) :=
  cc_path (x := xf72) rfl (bs 3 false)
    (c := rq [(3, decide (n ≥ -2147483648) = false)]) (by kernel_rfl)
    (aq ⟨(dF g1), trivial⟩)
theorem s72 (n : Int) : cc (ev X E0) 72 [AV.i n] [] = some (.b (n32 n), []) := by
  by_cases h : n ≥ -2147483648
  · rw [f72_1 n h]; congr 5; unfold n32; rw [Bool.eq_iff_iff, decide_eq_true_eq, decide_eq_true_eq]; omega
  · rw [f72_2 n h]; congr 5; unfold n32; rw [decide_eq_false (by omega)]
theorem s120 (n : Int) : cc (ev X E0) 120 [AV.i n] [] = some (.b (!n32 n), []) := by
  by_cases h : n < -2147483648
  · rw [f120_1 n h]; congr 5; unfold n32; rw [decide_eq_false (by omega)]; rfl
  · rw [f120_2 n h]; congr 5; unfold n32; rw [Bool.eq_iff_iff, Bool.not_eq_true', decide_eq_true_eq, decide_eq_false_iff_not]; omega
abbrev S79 (l : List (Int × Int)) (o : SO) (e i : Int) : St := St.mk (tmOf 32 [(3, AV.c (CV.pv (PV.int .i64 e))), (6, AV.c (CV.pv (PV.sl o 2 (List.map pvM l)))), (7, AV.c (CV.pv (PV.int .i64 (↑(List.length (List.map pvM l)) : Int)))), (8, AV.c (CV.pv (PV.int .i64 i)))]) []
theorem l79_1 (l : List (Int × Int)) (o : SO) (e : Int) (i : Nat) (y1 : Int × Int) (g1 : (↑i : Int) < (↑(List.length (List.map pvM l)) : Int)) (g2 : l[i]? = some y1) (g3 : Prod.fst y1 < 0) :
    lv (cv (ev X E0) xf79_l0) (rl [3, 2, 0, 0]) 0 (S79 l o e (↑i : Int)) = some (XExit.ret, St.mk (tmOf 32 [(2, AV.c (vi 12))]) [.cells [vi (Prod.fst y1), vi (Prod.snd y1)]]) :=
  lv_ret [.br true, .el (.agg [PV.int .i64 (Prod.fst y1), .int .i64 (Prod.snd y1)]), .br true, .br true, .br true, .br true, .br true]
    (c := rq [(1, decide ((↑i : Int) < (↑(List.length (List.map pvM l)) : Int)) = true), (1, 0 ≤ (↑i : Int)), (1, (List.map pvM l)[i]? = some (PV.agg [PV.int .i64 (Prod.fst y1), .int .i64 (Prod.snd y1)])), (4, decide (Prod.fst y1 < 0) = true), (1, true = true)]) (by kernel_rfl)
    (aq ⟨(dT g1), (Int.natCast_nonneg _), (map_at g2), (dT g3), rfl, trivial⟩)
theorem l79_2 (l : List (Int × Int)) (o : SO) (e : Int) (i : Nat) (y1 : Int × Int) (g1 : (↑i : Int) < (↑(List.length (List.map pvM l)) : Int)) (g2 : l[i]? = some y1) (g3 : ¬Prod.fst y1 < 0) (g4 : Prod.fst y1 ≥ 4) :
    lv (cv (ev X E0) xf79_l0) (rl [3, 2, 0, 0]) 0 (S79 l o e (↑i : Int)) = some (XExit.ret, St.mk (tmOf 32 [(2, AV.c (vi 12))]) [.cells [vi (Prod.fst y1), vi (Prod.snd y1)]]) :=
  lv_ret [.br true, .el (.agg [PV.int .i64 (Prod.fst y1), .int .i64 (Prod.snd y1)]), .br false, .br false, .br false, .br false, .br true]
    (c := rq [(1, decide ((↑i : Int) < (↑(List.length (List.map pvM l)) : Int)) = true), (1, 0 ≤ (↑i : Int)), (1, (List.map pvM l)[i]? = some (PV.agg [PV.int .i64 (Prod.fst y1), .int .i64 (Prod.snd y1)])), (4, decide (Prod.fst y1 < 0) = false), (1, decide (Prod.fst y1 ≥ 4) = true)]) (by kernel_rfl)
    (aq ⟨(dT g1), (Int.natCast_nonneg _), (map_at g2), (dF g3), (dT g4), trivial⟩)
theorem l79_3 (l : List (Int × Int)) (o : SO) (e : Int) (i : Nat) (y1 : Int × Int) (g1 : (↑i : Int) < (↑(List.length (List.map pvM l)) : Int)) (g2 : l[i]? = some y1) (g3 : ¬Prod.fst y1 < 0) (g4 : ¬Prod.fst y1 ≥ 4) (g5 : Prod.snd y1 < -1000000000000000) :
    lv (cv (ev X E0) xf79_l0) (rl [3, 2, 0, 0]) 0 (S79 l o e (↑i : Int)) = lv (cv (ev X E0) xf79_l0) (rl [3, 2, 0, 0]) 0 (St.mk (tmOf 32 [(3, AV.c (vi 9)), (6, AV.c (.pv (.sl o 2 (List.map pvM l)))), (7, AV.c (vi (↑(List.length (List.map pvM l)) : Int))), (8, AV.c (vi (IntKind.wrap .i64 ((↑i : Int) + 1))))]) []) :=
  lv_next [.br true, .el (.agg [PV.int .i64 (Prod.fst y1), .int .i64 (Prod.snd y1)]), .br false, .br false, .br false, .br false, .br false, .br true, .br true, .br true, .br true, .br true]
    (c := rq [(1, decide ((↑i : Int) < (↑(List.length (List.map pvM l)) : Int)) = true), (1, 0 ≤ (↑i : Int)), (1, (List.map pvM l)[i]? = some (PV.agg [PV.int .i64 (Prod.fst y1), .int .i64 (Prod.snd y1)])), (4, decide (Prod.fst y1 < 0) = false), (1, decide (Prod.fst y1 ≥ 4) = false), (4, decide (Prod.snd y1 < -1000000000000000) = true), (1, true = true)]) (by kernel_rfl)
    (aq ⟨(dT g1), (Int.natCast_nonneg _), (map_at g2), (dF g3), (dF g4), (dT g5), rfl, trivial⟩)
theorem l79_4 (l : List (Int × Int)) (o : SO) (e : Int) (i : Nat) (y1 : Int × Int) (g1 : (↑i : Int) < (↑(List.length (List.map pvM l)) : Int)) (g2 : l[i]? = some y1) (g3 : ¬Prod.fst y1 < 0) (g4 : ¬Prod.fst y1 ≥ 4) (g5 : ¬Prod.snd y1 < -1000000000000000) (g6 : Prod.snd y1 > 1000000000000000) :
    lv (cv (ev X E0) xf79_l0) (rl [3, 2, 0, 0]) 0 (S79 l o e (↑i : Int)) = lv (cv (ev X E0) xf79_l0) (rl [3, 2, 0, 0]) 0 (St.mk (tmOf 32 [(3, AV.c (vi 9)), (6, AV.c (.pv (.sl o 2 (List.map pvM l)))), (7, AV.c (vi (↑(List.length (List.map pvM l)) : Int))), (8, AV.c (vi (IntKind.wrap .i64 ((↑i : Int) + 1))))]) []) :=
  lv_next [.br true, .el (.agg [PV.int .i64 (Prod.fst y1), .int .i64 (Prod.snd y1)]), .br false, .br false, .br false, .br false, .br false, .br false, .br false, .br false, .br false, .br true]
    (c := rq [(1, decide ((↑i : Int) < (↑(List.length (List.map pvM l)) : Int)) = true), (1, 0 ≤ (↑i : Int)), (1, (List.map pvM l)[i]? = some (PV.agg [PV.int .i64 (Prod.fst y1), .int .i64 (Prod.snd y1)])), (4, decide (Prod.fst y1 < 0) = false), (1, decide (Prod.fst y1 ≥ 4) = false), (4, decide (Prod.snd y1 < -1000000000000000) = false), (1, decide (Prod.snd y1 > 1000000000000000) = true)]) (by kernel_rfl)
    (aq ⟨(dT g1), (Int.natCast_nonneg _), (map_at g2), (dF g3), (dF g4), (dF g5), (dT g6), trivial⟩)
theorem l79_5 (l : List (Int × Int)) (o : SO) (e : Int) (i : Nat) (y1 : Int × Int) (g1 : (↑i : Int) < (↑(List.length (List.map pvM l)) : Int)) (g2 : l[i]? = some y1) (g3 : ¬Prod.fst y1 < 0) (g4 : ¬Prod.fst y1 ≥ 4) (g5 : ¬Prod.snd y1 < -1000000000000000) (g6 : ¬Prod.snd y1 > 1000000000000000) :
    lv (cv (ev X E0) xf79_l0) (rl [3, 2, 0, 0]) 0 (S79 l o e (↑i : Int)) = lv (cv (ev X E0) xf79_l0) (rl [3, 2, 0, 0]) 0 (St.mk (tmOf 32 [(3, AV.c (vi e)), (6, AV.c (.pv (.sl o 2 (List.map pvM l)))), (7, AV.c (vi (↑(List.length (List.map pvM l)) : Int))), (8, AV.c (vi (IntKind.wrap .i64 ((↑i : Int) + 1))))]) []) :=
  lv_next [.br true, .el (.agg [PV.int .i64 (Prod.fst y1), .int .i64 (Prod.snd y1)]), .br false, .br false, .br false, .br false, .br false, .br false, .br false, .br false, .br false, .br false]
    (c := rq [(1, decide ((↑i : Int) < (↑(List.length (List.map pvM l)) : Int)) = true), (1, 0 ≤ (↑i : Int)), (1, (List.map pvM l)[i]? = some (PV.agg [PV.int .i64 (Prod.fst y1), .int .i64 (Prod.snd y1)])), (4, decide (Prod.fst y1 < 0) = false), (1, decide (Prod.fst y1 ≥ 4) = false), (4, decide (Prod.snd y1 < -1000000000000000) = false), (1, decide (Prod.snd y1 > 1000000000000000) = false)]) (by kernel_rfl)
    (aq ⟨(dT g1), (Int.natCast_nonneg _), (map_at g2), (dF g3), (dF g4), (dF g5), (dF g6), trivial⟩)
theorem l79_6 (l : List (Int × Int)) (o : SO) (e : Int) (i : Nat) (g1 : ¬(↑i : Int) < (↑(List.length (List.map pvM l)) : Int)) :
    lv (cv (ev X E0) xf79_l0) (rl [3, 2, 0, 0]) 0 (S79 l o e (↑i : Int)) = some (XExit.exit 0, St.mk (tmOf 32 [(3, AV.c (vi e))]) []) :=
  lv_exit [.br false]
    (c := [decide ((↑i : Int) < (↑(List.length (List.map pvM l)) : Int)) = false]) (by kernel_rfl)
    ⟨(dF g1), trivial⟩
theorem f79a_1 (l : List (Int × Int)) (o : SO) (e : Int) (h : lv (cv (ev X E0) xf79_l0) (rl [3, 2, 0, 0]) 0 (S79 l o 0 0) = some (XExit.exit 0, St.mk (tmOf 32 [(3, AV.c (vi e))]) [])) :
    cc (ev X E0) 79 [AV.c (.pv (.sl o 2 (List.map pvM l)))] [] = some (AV.c (vi e), []) :=
  cc_path (x := xf79) rfl [.loop (XExit.exit 0) (St.mk (tmOf 32 [(3, AV.c (vi e))]) [])]
    (c := rq [ty h]) (by kernel_rfl)
    (aq ⟨h, trivial⟩)
theorem f79b_1 (l : List (Int × Int)) (o : SO) (c m : Int) (h : lv (cv (ev X E0) xf79_l0) (rl [3, 2, 0, 0]) 0 (S79 l o 0 0) = some (XExit.ret, St.mk (tmOf 32 [(2, AV.c (vi 12))]) [.cells [vi c, vi m]])) :
    cc (ev X E0) 79 [AV.c (.pv (.sl o 2 (List.map pvM l)))] [] = some (AV.c (vi 12), []) :=
  cc_path (x := xf79) rfl [.loop XExit.ret (St.mk (tmOf 32 [(2, AV.c (vi 12))]) [.cells [vi c, vi m]])]
    (c := rq [ty h]) (by kernel_rfl)
    (aq ⟨h, trivial⟩)
abbrev S143 (l : List Int) (o : SO) (i : Int) : St := St.mk (tmOf 19 [(0, AV.c (CV.pv (PV.sl o 1 (List.map pvI l)))), (1, AV.c (CV.fn 120 [])), (7, AV.c (CV.pv (PV.int .i64 (↑(List.length (List.map pvI l)) : Int)))), (8, AV.c (CV.pv (PV.int .i64 i)))]) []
theorem l143_1 (l : List Int) (o : SO) (i : Nat) (y1 : Int) (g1 : (↑i : Int) < (↑(List.length (List.map pvI l)) : Int)) (g2 : l[i]? = some y1) (g3 : n32 y1 = false) :
    lv (cv (ev X E0) xf143_l0) (rl [0, 0, 5, 0]) 0 (S143 l o (↑i : Int)) = some (XExit.ret, St.mk (tmOf 19 [(4, AV.c (vi (↑i : Int)))]) []) :=
  lv_ret [.br true, .el (.int .i64 y1), .call (AV.c (.pv (.bool !n32 y1))) [], .br true]
    (c := [decide ((↑i : Int) < (↑(List.length (List.map pvI l)) : Int)) = true, 0 ≤ (↑i : Int), (List.map pvI l)[i]? = some (PV.int .i64 y1), cc (ev X E0) 120 [AV.c (vi y1)] [] = some (AV.c (.pv (.bool !n32 y1)), []), (!n32 y1) = true]) (by kernel_rfl)
    ⟨(dT g1), (Int.natCast_nonneg _), (map_at g2), (s120 _), (not_t g3), trivial⟩
theorem l143_2 (l : List Int) (o : SO) (i : Nat) (y1 : Int) (g1 : (↑i : Int) < (↑(List.length (List.map pvI l)) : Int)) (g2 : l[i]? = some y1) (g3 : n32 y1 = true) :
    lv (cv (ev X E0) xf143_l0) (rl [0, 0, 5, 0]) 0 (S143 l o (↑i : Int)) = lv (cv (ev X E0) xf143_l0) (rl [0, 0, 5, 0]) 0 (St.mk (tmOf 19 [(0, AV.c (.pv (.sl o 1 (List.map pvI l)))), (1, AV.c (.fn 120 [])), (7, AV.c (vi (↑(List.length (List.map pvI l)) : Int))), (8, AV.c (vi (IntKind.wrap .i64 ((↑i : Int) + 1))))]) []) :=
  lv_next [.br true, .el (.int .i64 y1), .call (AV.c (.pv (.bool !n32 y1))) [], .br false]
    (c := [decide ((↑i : Int) < (↑(List.length (List.map pvI l)) : Int)) = true, 0 ≤ (↑i : Int), (List.map pvI l)[i]? = some (PV.int .i64 y1), cc (ev X E0) 120 [AV.c (vi y1)] [] = some (AV.c (.pv (.bool !n32 y1)), []), (!n32 y1) = false]) (by kernel_rfl)
    ⟨(dT g1), (Int.natCast_nonneg _), (map_at g2), (s120 _), (not_f g3), trivial⟩
theorem l143_3 (l : List Int) (o : SO) (i : Nat) (g1 : ¬(↑i : Int) < (↑(List.length (List.map pvI l)) : Int)) :
    lv (cv (ev X E0) xf143_l0) (rl [0, 0, 5, 0]) 0 (S143 l o (↑i : Int)) = some (XExit.exit 0, St.mk (tmOf 19 []) []) :=
  lv_exit [.br false]
    (c := [decide ((↑i : Int) < (↑(List.length (List.map pvI l)) : Int)) = false]) (by kernel_rfl)
    ⟨(dF g1), trivial⟩
theorem f143a_1 (l : List Int) (o : SO) (h : lv (cv (ev X E0) xf143_l0) (rl [0, 0, 5, 0]) 0 (S143 l o 0) = some (XExit.exit 0, St.mk (tmOf 19 []) [])) :
    cc (ev X E0) 143 [AV.c (.pv (.sl o 1 (List.map pvI l))), AV.c (.fn 120 [])] [] = some (AV.c (vi (-1)), []) :=
  cc_path (x := xf143) rfl [.loop (XExit.exit (0 : Nat)) (St.mk (tmOf (19 : Nat) []) [])]
    (c := rq [ty h]) (by kernel_rfl)
    (aq ⟨h, trivial⟩)
theorem f143b_1 (l : List Int) (o : SO) (j : Nat) (h : lv (cv (ev X E0) xf143_l0) (rl [0, 0, 5, 0]) 0 (S143 l o 0) = some (XExit.ret, St.mk (tmOf 19 [(4, AV.c (vi (↑j : Int)))]) [])) :
    cc (ev X E0) 143 [AV.c (.pv (.sl o 1 (List.map pvI l))), AV.c (.fn 120 [])] [] = some (AV.c (vi (↑j : Int)), []) :=
  cc_path (x := xf143) rfl [.loop XExit.ret (St.mk (tmOf 19 [(4, AV.c (vi (↑j : Int)))]) [])]
    (c := rq [ty h]) (by kernel_rfl)
    (aq ⟨h, trivial⟩)
theorem f119_1 (l : List Int) (o : SO) (j : Int) (h : cc (ev X E0) 143 [AV.sl o 1 (List.map pvI l), AV.c (.fn 120 [])] [] = some (AV.i j, [])) :
    cc (ev X E0) 119 [AV.c (.pv (.sl o 1 (List.map pvI l))), AV.c (.fn 120 [])] [] = some (AV.c (.pv (.bool (decide (j ≥ 0)))), []) :=
  cc_path (x := xf119) rfl [.call (AV.c (vi j)) []]
    (c := rq [ty h]) (by kernel_rfl)
    (aq ⟨h, trivial⟩)
theorem f80_1 (l : List Int) (o : SO) (b : Bool) (h : cc (ev X E0) 119 [AV.sl o 1 (List.map pvI l), AV.c (.fn 120 [])] [] = some (AV.b b, [])) :
    cc (ev X E0) 80 [AV.c (.pv (.sl o 1 (List.map pvI l)))] [] = some (AV.c (.pv (.bool !b)), []) :=
  cc_path (x := xf80) rfl [.call (AV.c (.pv (.bool b))) []]
    (c := rq [ty h]) (by kernel_rfl)
    (aq ⟨h, trivial⟩)
abbrev S37a (p x : Req) (M N : CV) (i : Int) : St := St.mk (tmOf 163 [(1, AV.c (CV.ptr 0 0)), (3, AV.c (CV.ptr 1 0)), (4, AV.c M), (5, AV.c N), (6, AV.c (CV.pv (PV.int .i64 i)))]) (bx2 p x)
theorem l37f_1 (p x : Req) (hs : szOk 3 (.pv (.sl (Req.so x) (Req.sz x) (List.map Leg.pv (Req.legs x)))) = true) (M N : List PV) (i : Nat) (y1 : Leg) (g1 : (↑i : Int) < (↑(List.length (List.map Leg.pv (Req.legs x))) : Int)) (g2 : (Req.legs x)[i]? = some y1) (g3 : (↑(List.length M + List.length [PV.agg [PV.int .i64 y1.cur, .int .i64 y1.minor]]) : Int) * 16 ≤ 140737488355328) (g4 : (↑(List.length N + List.length [PV.int .i64 y1.acc]) : Int) * 8 ≤ 140737488355328) :
    lv (cv (ev X E0) xf37_l0) (rl [1, 1, 0, 0, 0]) 2 (S37a p x (.pv (.sl SO.full 2 M)) (.pv (.sl SO.full 1 N)) (↑i : Int)) = lv (cv (ev X E0) xf37_l0) (rl [1, 1, 0, 0, 0]) 2 (St.mk (tmOf 163 [(1, AV.c (.ptr 0 0)), (3, AV.c (.ptr 1 0)), (4, AV.c (.own 5631 2 (M ++ [PV.agg [PV.int .i64 y1.cur, .int .i64 y1.minor]]))), (5, AV.c (.own 6207 1 (N ++ [PV.int .i64 y1.acc]))), (6, AV.c (vi (IntKind.wrap .i64 ((↑i : Int) + 1))))]) [.cells (Req.cs p), .cells (Req.cs x)]) :=
  lv_next [.br true, .sz, .el (Leg.pv y1), .emp false, .sz, .el (Leg.pv y1), .emp false]
    (c := rq [(1, decide ((↑i : Int) < (↑(List.length (List.map Leg.pv (Req.legs x))) : Int)) = true), ty hs, (1, 0 ≤ (↑i : Int)), (1, (List.map Leg.pv (Req.legs x))[i]? = some (Leg.pv y1)), (1, [PV.agg [PV.int .i64 y1.cur, .int .i64 y1.minor]] ≠ []), ty g3, ty hs, (1, 0 ≤ (↑i : Int)), (1, (List.map Leg.pv (Req.legs x))[i]? = some (Leg.pv y1)), (1, [PV.int .i64 y1.acc] ≠ []), ty g4]) (by kernel_rfl)
    (aq ⟨(dT g1), hs, (Int.natCast_nonneg _), (map_at g2), (List.cons_ne_nil _ _), g3, hs, (Int.natCast_nonneg _), (map_at g2), (List.cons_ne_nil _ _), g4, trivial⟩)
theorem l37f_2 (p x : Req) (_hs : szOk 3 (.pv (.sl (Req.so x) (Req.sz x) (List.map Leg.pv (Req.legs x)))) = true) (M N : List PV) (i : Nat) (g1 : ¬(↑i : Int) < (↑(List.length (List.map Leg.pv (Req.legs x))) : Int)) :
    lv (cv (ev X E0) xf37_l0) (rl [1, 1, 0, 0, 0]) 2 (S37a p x (.pv (.sl SO.full 2 M)) (.pv (.sl SO.full 1 N)) (↑i : Int)) = some (XExit.exit 0, St.mk (tmOf 163 [(1, AV.c (.ptr 0 0)), (3, AV.c (.ptr 1 0)), (4, AV.c (.pv (.sl SO.full 2 M))), (5, AV.c (.pv (.sl SO.full 1 N)))]) [.cells (Req.cs p), .cells (Req.cs x)]) :=
  lv_exit [.br false]
    (c := [decide ((↑i : Int) < (↑(List.length (List.map Leg.pv (Req.legs x))) : Int)) = false]) (by kernel_rfl)
    ⟨(dF g1), trivial⟩
theorem l37o_1 (p x : Req) (hs : szOk 3 (.pv (.sl (Req.so x) (Req.sz x) (List.map Leg.pv (Req.legs x)))) = true) (M N : List PV) (i : Nat) (y1 : Leg) (g1 : (↑i : Int) < (↑(List.length (List.map Leg.pv (Req.legs x))) : Int)) (g2 : (Req.legs x)[i]? = some y1) (g3 : (↑(List.length M + List.length [PV.agg [PV.int .i64 y1.cur, .int .i64 y1.minor]]) : Int) * 16 ≤ 140737488355328) (g4 : (↑(List.length N + List.length [PV.int .i64 y1.acc]) : Int) * 8 ≤ 140737488355328) :
    lv (cv (ev X E0) xf37_l0) (rl [1, 1, 0, 0, 0]) 2 (S37a p x (.own 5631 2 M) (.own 6207 1 N) (↑i : Int)) = lv (cv (ev X E0) xf37_l0) (rl [1, 1, 0, 0, 0]) 2 (St.mk (tmOf 163 [(1, AV.c (.ptr 0 0)), (3, AV.c (.ptr 1 0)), (4, AV.c (.own 5631 2 (M ++ [PV.agg [PV.int .i64 y1.cur, .int .i64 y1.minor]]))), (5, AV.c (.own 6207 1 (N ++ [PV.int .i64 y1.acc]))), (6, AV.c (vi (IntKind.wrap .i64 ((↑i : Int) + 1))))]) [.cells (Req.cs p), .cells (Req.cs x)]) :=
  lv_next [.br true, .sz, .el (Leg.pv y1), .sz, .el (Leg.pv y1)]
    (c := rq [(1, decide ((↑i : Int) < (↑(List.length (List.map Leg.pv (Req.legs x))) : Int)) = true), ty hs, (1, 0 ≤ (↑i : Int)), (1, (List.map Leg.pv (Req.legs x))[i]? = some (Leg.pv y1)), ty g3, ty hs, (1, 0 ≤ (↑i : Int)), (1, (List.map Leg.pv (Req.legs x))[i]? = some (Leg.pv y1)), ty g4]) (by kernel_rfl)
    (aq ⟨(dT g1), hs, (Int.natCast_nonneg _), (map_at g2), g3, hs, (Int.natCast_nonneg _), (map_at g2), g4, trivial⟩)
theorem l37o_2 (p x : Req) (_hs : szOk 3 (.pv (.sl (Req.so x) (Req.sz x) (List.map Leg.pv (Req.legs x)))) = true) (M N : List PV) (i : Nat) (g1 : ¬(↑i : Int) < (↑(List.length (List.map Leg.pv (Req.legs x))) : Int)) :
    lv (cv (ev X E0) xf37_l0) (rl [1, 1, 0, 0, 0]) 2 (S37a p x (.own 5631 2 M) (.own 6207 1 N) (↑i : Int)) = some (XExit.exit 0, St.mk (tmOf 163 [(1, AV.c (.ptr 0 0)), (3, AV.c (.ptr 1 0)), (4, AV.c (.own 5631 2 M)), (5, AV.c (.own 6207 1 N))]) [.cells (Req.cs p), .cells (Req.cs x)]) :=
  lv_exit [.br false]
    (c := [decide ((↑i : Int) < (↑(List.length (List.map Leg.pv (Req.legs x))) : Int)) = false]) (by kernel_rfl)
    ⟨(dF g1), trivial⟩
abbrev S37b (p x : Req) (M N : CV) (i : Int) : St := St.mk (tmOf 163 [(1, AV.c (CV.ptr 0 0)), (3, AV.c (CV.ptr 1 0)), (4, AV.c M), (5, AV.c N), (7, AV.c (CV.pv (PV.int .i64 i)))]) (bx2 p x)
theorem l37bf_1 (p x : Req) (l : List (Int × Int)) (N : List PV) (i : Nat) (y1 : Int × Int) (g1 : (↑i : Int) < (↑(List.length (List.map pvM l)) : Int)) (g2 : l[i]? = some y1) (g3 : Prod.fst y1 < 0) :
    lv (cv (ev X E0) xf37_l1) (rl [1, 1, 0, 0, 1]) 2 (S37b p x (.pv (.sl SO.full 2 (List.map pvM l))) (.pv (.sl SO.full 1 N)) (↑i : Int)) = some (XExit.ret, St.mk (tmOf 163 [(2, AV.c (vi 12))]) [.cells (Req.cs p), .cells (Req.cs x)]) :=
  lv_ret [.br true, .el (.agg [PV.int .i64 (Prod.fst y1), .int .i64 (Prod.snd y1)]), .br true, .br true, .br true, .br true, .br true, .br true, .br true, .br true]
    (c := rq [(1, decide ((↑i : Int) < (↑(List.length (List.map pvM l)) : Int)) = true), (1, 0 ≤ (↑i : Int)), (1, (List.map pvM l)[i]? = some (PV.agg [PV.int .i64 (Prod.fst y1), .int .i64 (Prod.snd y1)])), (7, decide (Prod.fst y1 < 0) = true), (1, true = true)]) (by kernel_rfl)
    (aq ⟨(dT g1), (Int.natCast_nonneg _), (map_at g2), (dT g3), rfl, trivial⟩)
theorem l37bf_2 (p x : Req) (l : List (Int × Int)) (N : List PV) (i : Nat) (y1 : Int × Int) (g1 : (↑i : Int) < (↑(List.length (List.map pvM l)) : Int)) (g2 : l[i]? = some y1) (g3 : ¬Prod.fst y1 < 0) (g4 : Prod.fst y1 > 3) :
    lv (cv (ev X E0) xf37_l1) (rl [1, 1, 0, 0, 1]) 2 (S37b p x (.pv (.sl SO.full 2 (List.map pvM l))) (.pv (.sl SO.full 1 N)) (↑i : Int)) = some (XExit.ret, St.mk (tmOf 163 [(2, AV.c (vi 12))]) [.cells (Req.cs p), .cells (Req.cs x)]) :=
  lv_ret [.br true, .el (.agg [PV.int .i64 (Prod.fst y1), .int .i64 (Prod.snd y1)]), .br false, .br false, .br false, .el (.agg [PV.int .i64 (Prod.fst y1), .int .i64 (Prod.snd y1)]), .br false, .br false, .br false, .br false, .br true]
    (c := rq [(1, decide ((↑i : Int) < (↑(List.length (List.map pvM l)) : Int)) = true), (1, 0 ≤ (↑i : Int)), (1, (List.map pvM l)[i]? = some (PV.agg [PV.int .i64 (Prod.fst y1), .int .i64 (Prod.snd y1)])), (3, decide (Prod.fst y1 < 0) = false), (1, 0 ≤ (↑i : Int)), (1, (List.map pvM l)[i]? = some (PV.agg [PV.int .i64 (Prod.fst y1), .int .i64 (Prod.snd y1)])), (4, decide (Prod.fst y1 < 0) = false), (1, decide (Prod.fst y1 > 3) = true)]) (by kernel_rfl)
    (aq ⟨(dT g1), (Int.natCast_nonneg _), (map_at g2), (dF g3), (Int.natCast_nonneg _), (map_at g2), (dF g3), (dT g4), trivial⟩)
theorem l37bf_3 (p x : Req) (l : List (Int × Int)) (N : List PV) (i : Nat) (y1 : Int × Int) (g1 : (↑i : Int) < (↑(List.length (List.map pvM l)) : Int)) (g2 : l[i]? = some y1) (g3 : ¬Prod.fst y1 < 0) (g4 : ¬Prod.fst y1 > 3) :
    lv (cv (ev X E0) xf37_l1) (rl [1, 1, 0, 0, 1]) 2 (S37b p x (.pv (.sl SO.full 2 (List.map pvM l))) (.pv (.sl SO.full 1 N)) (↑i : Int)) = lv (cv (ev X E0) xf37_l1) (rl [1, 1, 0, 0, 1]) 2 (St.mk (tmOf 163 [(1, AV.c (.ptr 0 0)), (3, AV.c (.ptr 1 0)), (4, AV.c (.pv (.sl SO.full 2 (List.map pvM l)))), (5, AV.c (.pv (.sl SO.full 1 N))), (7, AV.c (vi (IntKind.wrap .i64 ((↑i : Int) + 1))))]) [.cells (Req.cs p), .cells (Req.cs x)]) :=
  lv_next [.br true, .el (.agg [PV.int .i64 (Prod.fst y1), .int .i64 (Prod.snd y1)]), .br false, .br false, .br false, .el (.agg [PV.int .i64 (Prod.fst y1), .int .i64 (Prod.snd y1)]), .br false, .br false, .br false, .br false, .br false]
    (c := rq [(1, decide ((↑i : Int) < (↑(List.length (List.map pvM l)) : Int)) = true), (1, 0 ≤ (↑i : Int)), (1, (List.map pvM l)[i]? = some (PV.agg [PV.int .i64 (Prod.fst y1), .int .i64 (Prod.snd y1)])), (3, decide (Prod.fst y1 < 0) = false), (1, 0 ≤ (↑i : Int)), (1, (List.map pvM l)[i]? = some (PV.agg [PV.int .i64 (Prod.fst y1), .int .i64 (Prod.snd y1)])), (4, decide (Prod.fst y1 < 0) = false), (1, decide (Prod.fst y1 > 3) = false)]) (by kernel_rfl)
    (aq ⟨(dT g1), (Int.natCast_nonneg _), (map_at g2), (dF g3), (Int.natCast_nonneg _), (map_at g2), (dF g3), (dF g4), trivial⟩)
theorem l37bf_4 (p x : Req) (l : List (Int × Int)) (N : List PV) (i : Nat) (g1 : ¬(↑i : Int) < (↑(List.length (List.map pvM l)) : Int)) :
    lv (cv (ev X E0) xf37_l1) (rl [1, 1, 0, 0, 1]) 2 (S37b p x (.pv (.sl SO.full 2 (List.map pvM l))) (.pv (.sl SO.full 1 N)) (↑i : Int)) = some (XExit.exit 2, St.mk (tmOf 163 [(1, AV.c (.ptr 0 0)), (3, AV.c (.ptr 1 0)), (4, AV.c (.pv (.sl SO.full 2 (List.map pvM l)))), (5, AV.c (.pv (.sl SO.full 1 N)))]) [.cells (Req.cs p), .cells (Req.cs x)]) :=
  lv_exit [.br false]
    (c := [decide ((↑i : Int) < (↑(List.length (List.map pvM l)) : Int)) = false]) (by kernel_rfl)
    ⟨(dF g1), trivial⟩
theorem l37bo_1 (p x : Req) (l : List (Int × Int)) (N : List PV) (i : Nat) (y1 : Int × Int) (g1 : (↑i : Int) < (↑(List.length (List.map pvM l)) : Int)) (g2 : l[i]? = some y1) (g3 : Prod.fst y1 < 0) :
    lv (cv (ev X E0) xf37_l1) (rl [1, 1, 0, 0, 1]) 2 (S37b p x (.own 5631 2 (List.map pvM l)) (.own 6207 1 N) (↑i : Int)) = some (XExit.ret, St.mk (tmOf 163 [(2, AV.c (vi 12))]) [.cells (Req.cs p), .cells (Req.cs x)]) :=
  lv_ret [.br true, .el (.agg [PV.int .i64 (Prod.fst y1), .int .i64 (Prod.snd y1)]), .br true, .br true, .br true, .br true, .br true, .br true, .br true, .br true]
    (c := rq [(1, decide ((↑i : Int) < (↑(List.length (List.map pvM l)) : Int)) = true), (1, 0 ≤ (↑i : Int)), (1, (List.map pvM l)[i]? = some (PV.agg [PV.int .i64 (Prod.fst y1), .int .i64 (Prod.snd y1)])), (7, decide (Prod.fst y1 < 0) = true), (1, true = true)]) (by kernel_rfl)
    (aq ⟨(dT g1), (Int.natCast_nonneg _), (map_at g2), (dT g3), rfl, trivial⟩)
theorem l37bo_2 (p x : Req) (l : List (Int × Int)) (N : List PV) (i : Nat) (y1 : Int × Int) (g1 : (↑i : Int) < (↑(List.length (List.map pvM l)) : Int)) (g2 : l[i]? = some y1) (g3 : ¬Prod.fst y1 < 0) (g4 : Prod.fst y1 > 3) :
    lv (cv (ev X E0) xf37_l1) (rl [1, 1, 0, 0, 1]) 2 (S37b p x (.own 5631 2 (List.map pvM l)) (.own 6207 1 N) (↑i : Int)) = some (XExit.ret, St.mk (tmOf 163 [(2, AV.c (vi 12))]) [.cells (Req.cs p), .cells (Req.cs x)]) :=
  lv_ret [.br true, .el (.agg [PV.int .i64 (Prod.fst y1), .int .i64 (Prod.snd y1)]), .br false, .br false, .br false, .el (.agg [PV.int .i64 (Prod.fst y1), .int .i64 (Prod.snd y1)]), .br false, .br false, .br false, .br false, .br true]
    (c := rq [(1, decide ((↑i : Int) < (↑(List.length (List.map pvM l)) : Int)) = true), (1, 0 ≤ (↑i : Int)), (1, (List.map pvM l)[i]? = some (PV.agg [PV.int .i64 (Prod.fst y1), .int .i64 (Prod.snd y1)])), (3, decide (Prod.fst y1 < 0) = false), (1, 0 ≤ (↑i : Int)), (1, (List.map pvM l)[i]? = some (PV.agg [PV.int .i64 (Prod.fst y1), .int .i64 (Prod.snd y1)])), (4, decide (Prod.fst y1 < 0) = false), (1, decide (Prod.fst y1 > 3) = true)]) (by kernel_rfl)
    (aq ⟨(dT g1), (Int.natCast_nonneg _), (map_at g2), (dF g3), (Int.natCast_nonneg _), (map_at g2), (dF g3), (dT g4), trivial⟩)
theorem l37bo_3 (p x : Req) (l : List (Int × Int)) (N : List PV) (i : Nat) (y1 : Int × Int) (g1 : (↑i : Int) < (↑(List.length (List.map pvM l)) : Int)) (g2 : l[i]? = some y1) (g3 : ¬Prod.fst y1 < 0) (g4 : ¬Prod.fst y1 > 3) :
    lv (cv (ev X E0) xf37_l1) (rl [1, 1, 0, 0, 1]) 2 (S37b p x (.own 5631 2 (List.map pvM l)) (.own 6207 1 N) (↑i : Int)) = lv (cv (ev X E0) xf37_l1) (rl [1, 1, 0, 0, 1]) 2 (St.mk (tmOf 163 [(1, AV.c (.ptr 0 0)), (3, AV.c (.ptr 1 0)), (4, AV.c (.own 5631 2 (List.map pvM l))), (5, AV.c (.own 6207 1 N)), (7, AV.c (vi (IntKind.wrap .i64 ((↑i : Int) + 1))))]) [.cells (Req.cs p), .cells (Req.cs x)]) :=
  lv_next [.br true, .el (.agg [PV.int .i64 (Prod.fst y1), .int .i64 (Prod.snd y1)]), .br false, .br false, .br false, .el (.agg [PV.int .i64 (Prod.fst y1), .int .i64 (Prod.snd y1)]), .br false, .br false, .br false, .br false, .br false]
    (c := rq [(1, decide ((↑i : Int) < (↑(List.length (List.map pvM l)) : Int)) = true), (1, 0 ≤ (↑i : Int)), (1, (List.map pvM l)[i]? = some (PV.agg [PV.int .i64 (Prod.fst y1), .int .i64 (Prod.snd y1)])), (3, decide (Prod.fst y1 < 0) = false), (1, 0 ≤ (↑i : Int)), (1, (List.map pvM l)[i]? = some (PV.agg [PV.int .i64 (Prod.fst y1), .int .i64 (Prod.snd y1)])), (4, decide (Prod.fst y1 < 0) = false), (1, decide (Prod.fst y1 > 3) = false)]) (by kernel_rfl)
    (aq ⟨(dT g1), (Int.natCast_nonneg _), (map_at g2), (dF g3), (Int.natCast_nonneg _), (map_at g2), (dF g3), (dF g4), trivial⟩)
theorem l37bo_4 (p x : Req) (l : List (Int × Int)) (N : List PV) (i : Nat) (g1 : ¬(↑i : Int) < (↑(List.length (List.map pvM l)) : Int)) :
    lv (cv (ev X E0) xf37_l1) (rl [1, 1, 0, 0, 1]) 2 (S37b p x (.own 5631 2 (List.map pvM l)) (.own 6207 1 N) (↑i : Int)) = some (XExit.exit 2, St.mk (tmOf 163 [(1, AV.c (.ptr 0 0)), (3, AV.c (.ptr 1 0)), (4, AV.c (.own 5631 2 (List.map pvM l))), (5, AV.c (.own 6207 1 N))]) [.cells (Req.cs p), .cells (Req.cs x)]) :=
  lv_exit [.br false]
    (c := [decide ((↑i : Int) < (↑(List.length (List.map pvM l)) : Int)) = false]) (by kernel_rfl)
    ⟨(dF g1), trivial⟩
abbrev S37c (p x : Req) (M N : CV) (i : Int) : St := St.mk (tmOf 163 [(1, AV.c (CV.ptr 0 0)), (3, AV.c (CV.ptr 1 0)), (4, AV.c M), (5, AV.c N), (8, AV.c (CV.pv (PV.int .i64 i)))]) (bx2 p x)
theorem l37cf_1 (p x : Req) (l : List (Int × Int)) (N : List PV) (i : Nat) (y1 : Int × Int) (g1 : (↑i : Int) < (↑(List.length (List.map pvM l)) : Int)) (g2 : l[i]? = some y1) (g3 : Prod.snd y1 > 1000000000000000) :
    lv (cv (ev X E0) xf37_l2) (rl [1, 1, 0, 0, 2]) 2 (S37c p x (.pv (.sl SO.full 2 (List.map pvM l))) (.pv (.sl SO.full 1 N)) (↑i : Int)) = some (XExit.ret, St.mk (tmOf 163 [(2, AV.c (vi 9))]) [.cells (Req.cs p), .cells (Req.cs x)]) :=
  lv_ret [.br true, .el (.agg [PV.int .i64 (Prod.fst y1), .int .i64 (Prod.snd y1)]), .br true, .br true, .br true, .br true, .br true, .br true, .br true, .br true]
    (c := rq [(1, decide ((↑i : Int) < (↑(List.length (List.map pvM l)) : Int)) = true), (1, 0 ≤ (↑i : Int)), (1, (List.map pvM l)[i]? = some (PV.agg [PV.int .i64 (Prod.fst y1), .int .i64 (Prod.snd y1)])), (7, decide (Prod.snd y1 > 1000000000000000) = true), (1, true = true)]) (by kernel_rfl)
    (aq ⟨(dT g1), (Int.natCast_nonneg _), (map_at g2), (dT g3), rfl, trivial⟩)
theorem l37cf_2 (p x : Req) (l : List (Int × Int)) (N : List PV) (i : Nat) (y1 : Int × Int) (g1 : (↑i : Int) < (↑(List.length (List.map pvM l)) : Int)) (g2 : l[i]? = some y1) (g3 : ¬Prod.snd y1 > 1000000000000000) (g4 : Prod.snd y1 < -1000000000000000) :
    lv (cv (ev X E0) xf37_l2) (rl [1, 1, 0, 0, 2]) 2 (S37c p x (.pv (.sl SO.full 2 (List.map pvM l))) (.pv (.sl SO.full 1 N)) (↑i : Int)) = some (XExit.ret, St.mk (tmOf 163 [(2, AV.c (vi 9))]) [.cells (Req.cs p), .cells (Req.cs x)]) :=
  lv_ret [.br true, .el (.agg [PV.int .i64 (Prod.fst y1), .int .i64 (Prod.snd y1)]), .br false, .br false, .br false, .el (.agg [PV.int .i64 (Prod.fst y1), .int .i64 (Prod.snd y1)]), .br false, .br false, .br false, .br false, .br true]
    (c := rq [(1, decide ((↑i : Int) < (↑(List.length (List.map pvM l)) : Int)) = true), (1, 0 ≤ (↑i : Int)), (1, (List.map pvM l)[i]? = some (PV.agg [PV.int .i64 (Prod.fst y1), .int .i64 (Prod.snd y1)])), (3, decide (Prod.snd y1 > 1000000000000000) = false), (1, 0 ≤ (↑i : Int)), (1, (List.map pvM l)[i]? = some (PV.agg [PV.int .i64 (Prod.fst y1), .int .i64 (Prod.snd y1)])), (4, decide (Prod.snd y1 > 1000000000000000) = false), (1, decide (Prod.snd y1 < -1000000000000000) = true)]) (by kernel_rfl)
    (aq ⟨(dT g1), (Int.natCast_nonneg _), (map_at g2), (dF g3), (Int.natCast_nonneg _), (map_at g2), (dF g3), (dT g4), trivial⟩)
theorem l37cf_3 (p x : Req) (l : List (Int × Int)) (N : List PV) (i : Nat) (y1 : Int × Int) (g1 : (↑i : Int) < (↑(List.length (List.map pvM l)) : Int)) (g2 : l[i]? = some y1) (g3 : ¬Prod.snd y1 > 1000000000000000) (g4 : ¬Prod.snd y1 < -1000000000000000) :
    lv (cv (ev X E0) xf37_l2) (rl [1, 1, 0, 0, 2]) 2 (S37c p x (.pv (.sl SO.full 2 (List.map pvM l))) (.pv (.sl SO.full 1 N)) (↑i : Int)) = lv (cv (ev X E0) xf37_l2) (rl [1, 1, 0, 0, 2]) 2 (St.mk (tmOf 163 [(1, AV.c (.ptr 0 0)), (3, AV.c (.ptr 1 0)), (4, AV.c (.pv (.sl SO.full 2 (List.map pvM l)))), (5, AV.c (.pv (.sl SO.full 1 N))), (8, AV.c (vi (IntKind.wrap .i64 ((↑i : Int) + 1))))]) [.cells (Req.cs p), .cells (Req.cs x)]) :=
  lv_next [.br true, .el (.agg [PV.int .i64 (Prod.fst y1), .int .i64 (Prod.snd y1)]), .br false, .br false, .br false, .el (.agg [PV.int .i64 (Prod.fst y1), .int .i64 (Prod.snd y1)]), .br false, .br false, .br false, .br false, .br false]
    (c := rq [(1, decide ((↑i : Int) < (↑(List.length (List.map pvM l)) : Int)) = true), (1, 0 ≤ (↑i : Int)), (1, (List.map pvM l)[i]? = some (PV.agg [PV.int .i64 (Prod.fst y1), .int .i64 (Prod.snd y1)])), (3, decide (Prod.snd y1 > 1000000000000000) = false), (1, 0 ≤ (↑i : Int)), (1, (List.map pvM l)[i]? = some (PV.agg [PV.int .i64 (Prod.fst y1), .int .i64 (Prod.snd y1)])), (4, decide (Prod.snd y1 > 1000000000000000) = false), (1, decide (Prod.snd y1 < -1000000000000000) = false)]) (by kernel_rfl)
    (aq ⟨(dT g1), (Int.natCast_nonneg _), (map_at g2), (dF g3), (Int.natCast_nonneg _), (map_at g2), (dF g3), (dF g4), trivial⟩)
theorem l37cf_4 (p x : Req) (l : List (Int × Int)) (N : List PV) (i : Nat) (g1 : ¬(↑i : Int) < (↑(List.length (List.map pvM l)) : Int)) :
    lv (cv (ev X E0) xf37_l2) (rl [1, 1, 0, 0, 2]) 2 (S37c p x (.pv (.sl SO.full 2 (List.map pvM l))) (.pv (.sl SO.full 1 N)) (↑i : Int)) = some (XExit.exit 4, St.mk (tmOf 163 [(1, AV.c (.ptr 0 0)), (3, AV.c (.ptr 1 0)), (5, AV.c (.pv (.sl SO.full 1 N)))]) [.cells (Req.cs p), .cells (Req.cs x)]) :=
  lv_exit [.br false]
    (c := [decide ((↑i : Int) < (↑(List.length (List.map pvM l)) : Int)) = false]) (by kernel_rfl)
    ⟨(dF g1), trivial⟩
theorem l37co_1 (p x : Req) (l : List (Int × Int)) (N : List PV) (i : Nat) (y1 : Int × Int) (g1 : (↑i : Int) < (↑(List.length (List.map pvM l)) : Int)) (g2 : l[i]? = some y1) (g3 : Prod.snd y1 > 1000000000000000) :
    lv (cv (ev X E0) xf37_l2) (rl [1, 1, 0, 0, 2]) 2 (S37c p x (.own 5631 2 (List.map pvM l)) (.own 6207 1 N) (↑i : Int)) = some (XExit.ret, St.mk (tmOf 163 [(2, AV.c (vi 9))]) [.cells (Req.cs p), .cells (Req.cs x)]) :=
  lv_ret [.br true, .el (.agg [PV.int .i64 (Prod.fst y1), .int .i64 (Prod.snd y1)]), .br true, .br true, .br true, .br true, .br true, .br true, .br true, .br true]
    (c := rq [(1, decide ((↑i : Int) < (↑(List.length (List.map pvM l)) : Int)) = true), (1, 0 ≤ (↑i : Int)), (1, (List.map pvM l)[i]? = some (PV.agg [PV.int .i64 (Prod.fst y1), .int .i64 (Prod.snd y1)])), (7, decide (Prod.snd y1 > 1000000000000000) = true), (1, true = true)]) (by kernel_rfl)
    (aq ⟨(dT g1), (Int.natCast_nonneg _), (map_at g2), (dT g3), rfl, trivial⟩)
theorem l37co_2 (p x : Req) (l : List (Int × Int)) (N : List PV) (i : Nat) (y1 : Int × Int) (g1 : (↑i : Int) < (↑(List.length (List.map pvM l)) : Int)) (g2 : l[i]? = some y1) (g3 : ¬Prod.snd y1 > 1000000000000000) (g4 : Prod.snd y1 < -1000000000000000) :
    lv (cv (ev X E0) xf37_l2) (rl [1, 1, 0, 0, 2]) 2 (S37c p x (.own 5631 2 (List.map pvM l)) (.own 6207 1 N) (↑i : Int)) = some (XExit.ret, St.mk (tmOf 163 [(2, AV.c (vi 9))]) [.cells (Req.cs p), .cells (Req.cs x)]) :=
  lv_ret [.br true, .el (.agg [PV.int .i64 (Prod.fst y1), .int .i64 (Prod.snd y1)]), .br false, .br false, .br false, .el (.agg [PV.int .i64 (Prod.fst y1), .int .i64 (Prod.snd y1)]), .br false, .br false, .br false, .br false, .br true]
    (c := rq [(1, decide ((↑i : Int) < (↑(List.length (List.map pvM l)) : Int)) = true), (1, 0 ≤ (↑i : Int)), (1, (List.map pvM l)[i]? = some (PV.agg [PV.int .i64 (Prod.fst y1), .int .i64 (Prod.snd y1)])), (3, decide (Prod.snd y1 > 1000000000000000) = false), (1, 0 ≤ (↑i : Int)), (1, (List.map pvM l)[i]? = some (PV.agg [PV.int .i64 (Prod.fst y1), .int .i64 (Prod.snd y1)])), (4, decide (Prod.snd y1 > 1000000000000000) = false), (1, decide (Prod.snd y1 < -1000000000000000) = true)]) (by kernel_rfl)
    (aq ⟨(dT g1), (Int.natCast_nonneg _), (map_at g2), (dF g3), (Int.natCast_nonneg _), (map_at g2), (dF g3), (dT g4), trivial⟩)
theorem l37co_3 (p x : Req) (l : List (Int × Int)) (N : List PV) (i : Nat) (y1 : Int × Int) (g1 : (↑i : Int) < (↑(List.length (List.map pvM l)) : Int)) (g2 : l[i]? = some y1) (g3 : ¬Prod.snd y1 > 1000000000000000) (g4 : ¬Prod.snd y1 < -1000000000000000) :
    lv (cv (ev X E0) xf37_l2) (rl [1, 1, 0, 0, 2]) 2 (S37c p x (.own 5631 2 (List.map pvM l)) (.own 6207 1 N) (↑i : Int)) = lv (cv (ev X E0) xf37_l2) (rl [1, 1, 0, 0, 2]) 2 (St.mk (tmOf 163 [(1, AV.c (.ptr 0 0)), (3, AV.c (.ptr 1 0)), (4, AV.c (.own 5631 2 (List.map pvM l))), (5, AV.c (.own 6207 1 N)), (8, AV.c (vi (IntKind.wrap .i64 ((↑i : Int) + 1))))]) [.cells (Req.cs p), .cells (Req.cs x)]) :=
  lv_next [.br true, .el (.agg [PV.int .i64 (Prod.fst y1), .int .i64 (Prod.snd y1)]), .br false, .br false, .br false, .el (.agg [PV.int .i64 (Prod.fst y1), .int .i64 (Prod.snd y1)]), .br false, .br false, .br false, .br false, .br false]
    (c := rq [(1, decide ((↑i : Int) < (↑(List.length (List.map pvM l)) : Int)) = true), (1, 0 ≤ (↑i : Int)), (1, (List.map pvM l)[i]? = some (PV.agg [PV.int .i64 (Prod.fst y1), .int .i64 (Prod.snd y1)])), (3, decide (Prod.snd y1 > 1000000000000000) = false), (1, 0 ≤ (↑i : Int)), (1, (List.map pvM l)[i]? = some (PV.agg [PV.int .i64 (Prod.fst y1), .int .i64 (Prod.snd y1)])), (4, decide (Prod.snd y1 > 1000000000000000) = false), (1, decide (Prod.snd y1 < -1000000000000000) = false)]) (by kernel_rfl)
    (aq ⟨(dT g1), (Int.natCast_nonneg _), (map_at g2), (dF g3), (Int.natCast_nonneg _), (map_at g2), (dF g3), (dF g4), trivial⟩)
theorem l37co_4 (p x : Req) (l : List (Int × Int)) (N : List PV) (i : Nat) (g1 : ¬(↑i : Int) < (↑(List.length (List.map pvM l)) : Int)) :
    lv (cv (ev X E0) xf37_l2) (rl [1, 1, 0, 0, 2]) 2 (S37c p x (.own 5631 2 (List.map pvM l)) (.own 6207 1 N) (↑i : Int)) = some (XExit.exit 4, St.mk (tmOf 163 [(1, AV.c (.ptr 0 0)), (3, AV.c (.ptr 1 0)), (5, AV.c (.own 6207 1 N))]) [.cells (Req.cs p), .cells (Req.cs x)]) :=
  lv_exit [.br false]
    (c := [decide ((↑i : Int) < (↑(List.length (List.map pvM l)) : Int)) = false]) (by kernel_rfl)
    ⟨(dF g1), trivial⟩
abbrev S37d (p x : Req) (N : CV) (i : Int) : St := St.mk (tmOf 163 [(1, AV.c (CV.ptr 0 0)), (3, AV.c (CV.ptr 1 0)), (5, AV.c N), (9, AV.c (CV.pv (PV.int .i64 i)))]) (bx2 p x)
theorem l37df_1 (p x : Req) (l : List Int) (i : Nat) (y1 : Int) (g1 : (↑i : Int) < (↑(List.length (List.map pvI l)) : Int)) (g2 : l[i]? = some y1) (g3 : n32 y1 = false) :
    lv (cv (ev X E0) xf37_l3) (rl [1, 1, 1, 3]) 2 (S37d p x (.pv (.sl SO.full 1 (List.map pvI l))) (↑i : Int)) = some (XExit.ret, St.mk (tmOf 163 [(2, AV.c (vi 9))]) [.cells (Req.cs p), .cells (Req.cs x)]) :=
  lv_ret [.br true, .el (.int .i64 y1), .call (AV.c (.pv (.bool (n32 y1)))) [], .br true]
    (c := [decide ((↑i : Int) < (↑(List.length (List.map pvI l)) : Int)) = true, 0 ≤ (↑i : Int), (List.map pvI l)[i]? = some (PV.int .i64 y1), cc (ev X E0) 72 [AV.c (vi y1)] [] = some (AV.c (.pv (.bool (n32 y1))), []), (!n32 y1) = true]) (by kernel_rfl)
    ⟨(dT g1), (Int.natCast_nonneg _), (map_at g2), (s72 _), (not_t g3), trivial⟩
theorem l37df_2 (p x : Req) (l : List Int) (i : Nat) (y1 : Int) (g1 : (↑i : Int) < (↑(List.length (List.map pvI l)) : Int)) (g2 : l[i]? = some y1) (g3 : n32 y1 = true) :
    lv (cv (ev X E0) xf37_l3) (rl [1, 1, 1, 3]) 2 (S37d p x (.pv (.sl SO.full 1 (List.map pvI l))) (↑i : Int)) = lv (cv (ev X E0) xf37_l3) (rl [1, 1, 1, 3]) 2 (St.mk (tmOf 163 [(1, AV.c (.ptr 0 0)), (3, AV.c (.ptr 1 0)), (5, AV.c (.pv (.sl SO.full 1 (List.map pvI l)))), (9, AV.c (vi (IntKind.wrap .i64 ((↑i : Int) + 1))))]) [.cells (Req.cs p), .cells (Req.cs x)]) :=
  lv_next [.br true, .el (.int .i64 y1), .call (AV.c (.pv (.bool (n32 y1)))) [], .br false]
    (c := [decide ((↑i : Int) < (↑(List.length (List.map pvI l)) : Int)) = true, 0 ≤ (↑i : Int), (List.map pvI l)[i]? = some (PV.int .i64 y1), cc (ev X E0) 72 [AV.c (vi y1)] [] = some (AV.c (.pv (.bool (n32 y1))), []), (!n32 y1) = false]) (by kernel_rfl)
    ⟨(dT g1), (Int.natCast_nonneg _), (map_at g2), (s72 _), (not_f g3), trivial⟩
theorem l37df_3 (p x : Req) (l : List Int) (i : Nat) (g1 : ¬(↑i : Int) < (↑(List.length (List.map pvI l)) : Int)) :
    lv (cv (ev X E0) xf37_l3) (rl [1, 1, 1, 3]) 2 (S37d p x (.pv (.sl SO.full 1 (List.map pvI l))) (↑i : Int)) = some (XExit.exit 6, St.mk (tmOf 163 [(1, AV.c (.ptr 0 0)), (3, AV.c (.ptr 1 0))]) [.cells (Req.cs p), .cells (Req.cs x)]) :=
  lv_exit [.br false]
    (c := [decide ((↑i : Int) < (↑(List.length (List.map pvI l)) : Int)) = false]) (by kernel_rfl)
    ⟨(dF g1), trivial⟩
theorem l37do_1 (p x : Req) (l : List Int) (i : Nat) (y1 : Int) (g1 : (↑i : Int) < (↑(List.length (List.map pvI l)) : Int)) (g2 : l[i]? = some y1) (g3 : n32 y1 = false) :
    lv (cv (ev X E0) xf37_l3) (rl [1, 1, 1, 3]) 2 (S37d p x (.own 6207 1 (List.map pvI l)) (↑i : Int)) = some (XExit.ret, St.mk (tmOf 163 [(2, AV.c (vi 9))]) [.cells (Req.cs p), .cells (Req.cs x)]) :=
  lv_ret [.br true, .el (.int .i64 y1), .call (AV.c (.pv (.bool (n32 y1)))) [], .br true]
    (c := [decide ((↑i : Int) < (↑(List.length (List.map pvI l)) : Int)) = true, 0 ≤ (↑i : Int), (List.map pvI l)[i]? = some (PV.int .i64 y1), cc (ev X E0) 72 [AV.c (vi y1)] [] = some (AV.c (.pv (.bool (n32 y1))), []), (!n32 y1) = true]) (by kernel_rfl)
    ⟨(dT g1), (Int.natCast_nonneg _), (map_at g2), (s72 _), (not_t g3), trivial⟩
theorem l37do_2 (p x : Req) (l : List Int) (i : Nat) (y1 : Int) (g1 : (↑i : Int) < (↑(List.length (List.map pvI l)) : Int)) (g2 : l[i]? = some y1) (g3 : n32 y1 = true) :
    lv (cv (ev X E0) xf37_l3) (rl [1, 1, 1, 3]) 2 (S37d p x (.own 6207 1 (List.map pvI l)) (↑i : Int)) = lv (cv (ev X E0) xf37_l3) (rl [1, 1, 1, 3]) 2 (St.mk (tmOf 163 [(1, AV.c (.ptr 0 0)), (3, AV.c (.ptr 1 0)), (5, AV.c (.own 6207 1 (List.map pvI l))), (9, AV.c (vi (IntKind.wrap .i64 ((↑i : Int) + 1))))]) [.cells (Req.cs p), .cells (Req.cs x)]) :=
  lv_next [.br true, .el (.int .i64 y1), .call (AV.c (.pv (.bool (n32 y1)))) [], .br false]
    (c := [decide ((↑i : Int) < (↑(List.length (List.map pvI l)) : Int)) = true, 0 ≤ (↑i : Int), (List.map pvI l)[i]? = some (PV.int .i64 y1), cc (ev X E0) 72 [AV.c (vi y1)] [] = some (AV.c (.pv (.bool (n32 y1))), []), (!n32 y1) = false]) (by kernel_rfl)
    ⟨(dT g1), (Int.natCast_nonneg _), (map_at g2), (s72 _), (not_f g3), trivial⟩
theorem l37do_3 (p x : Req) (l : List Int) (i : Nat) (g1 : ¬(↑i : Int) < (↑(List.length (List.map pvI l)) : Int)) :
    lv (cv (ev X E0) xf37_l3) (rl [1, 1, 1, 3]) 2 (S37d p x (.own 6207 1 (List.map pvI l)) (↑i : Int)) = some (XExit.exit 6, St.mk (tmOf 163 [(1, AV.c (.ptr 0 0)), (3, AV.c (.ptr 1 0))]) [.cells (Req.cs p), .cells (Req.cs x)]) :=
  lv_exit [.br false]
    (c := [decide ((↑i : Int) < (↑(List.length (List.map pvI l)) : Int)) = false]) (by kernel_rfl)
    ⟨(dF g1), trivial⟩
abbrev S40 (p x : Req) (M N : CV) (i : Int) : St := St.mk (tmOf 119 [(1, AV.c (CV.ptr 0 0)), (3, AV.c (CV.ptr 1 0)), (4, AV.c M), (5, AV.c N), (35, AV.c (CV.pv (PV.sl (Req.so x) (Req.sz x) (List.map Leg.pv (Req.legs x))))), (36, AV.c (CV.pv (PV.int .i64 (↑(List.length (List.map Leg.pv (Req.legs x))) : Int)))), (37, AV.c (CV.pv (PV.int .i64 i)))]) (bx2 p x)
theorem l40f_1 (p x : Req) (hs : szOk 3 (.pv (.sl (Req.so x) (Req.sz x) (List.map Leg.pv (Req.legs x)))) = true) (M N : List PV) (i : Nat) (y1 : Leg) (g1 : (↑i : Int) < (↑(List.length (List.map Leg.pv (Req.legs x))) : Int)) (g2 : (Req.legs x)[i]? = some y1) (g3 : (↑(List.length M + List.length [PV.agg [PV.int .i64 y1.cur, .int .i64 y1.minor]]) : Int) * 16 ≤ 140737488355328) (g4 : (↑(List.length N + List.length [PV.int .i64 y1.acc]) : Int) * 8 ≤ 140737488355328) :
    lv (cv (ev X E0) xf40_l0) (rl [1, 1, 0, 0, 29, 0, 0]) 2 (S40 p x (.pv (.sl SO.full 2 M)) (.pv (.sl SO.full 1 N)) (↑i : Int)) = lv (cv (ev X E0) xf40_l0) (rl [1, 1, 0, 0, 29, 0, 0]) 2 (St.mk (tmOf 119 [(1, AV.c (.ptr 0 0)), (3, AV.c (.ptr 1 0)), (4, AV.c (.own 2943 2 (M ++ [PV.agg [PV.int .i64 y1.cur, .int .i64 y1.minor]]))), (5, AV.c (.own 3263 1 (N ++ [PV.int .i64 y1.acc]))), (35, AV.c (.pv (.sl (Req.so x) (Req.sz x) (List.map Leg.pv (Req.legs x))))), (36, AV.c (vi (↑(List.length (List.map Leg.pv (Req.legs x))) : Int))), (37, AV.c (vi (IntKind.wrap .i64 ((↑i : Int) + 1))))]) [.cells (Req.cs p), .cells (Req.cs x)]) :=
  lv_next [.br true, .sz, .el (Leg.pv y1), .emp false, .emp false]
    (c := rq [(1, decide ((↑i : Int) < (↑(List.length (List.map Leg.pv (Req.legs x))) : Int)) = true), ty hs, (1, 0 ≤ (↑i : Int)), (1, (List.map Leg.pv (Req.legs x))[i]? = some (Leg.pv y1)), (1, [PV.agg [PV.int .i64 y1.cur, .int .i64 y1.minor]] ≠ []), ty g3, (1, [PV.int .i64 y1.acc] ≠ []), ty g4]) (by kernel_rfl)
    (aq ⟨(dT g1), hs, (Int.natCast_nonneg _), (map_at g2), (List.cons_ne_nil _ _), g3, (List.cons_ne_nil _ _), g4, trivial⟩)
theorem l40f_2 (p x : Req) (_hs : szOk 3 (.pv (.sl (Req.so x) (Req.sz x) (List.map Leg.pv (Req.legs x)))) = true) (M N : List PV) (i : Nat) (g1 : ¬(↑i : Int) < (↑(List.length (List.map Leg.pv (Req.legs x))) : Int)) :
    lv (cv (ev X E0) xf40_l0) (rl [1, 1, 0, 0, 29, 0, 0]) 2 (S40 p x (.pv (.sl SO.full 2 M)) (.pv (.sl SO.full 1 N)) (↑i : Int)) = some (XExit.exit 0, St.mk (tmOf 119 [(1, AV.c (.ptr 0 0)), (3, AV.c (.ptr 1 0)), (4, AV.c (.pv (.sl SO.full 2 M))), (5, AV.c (.pv (.sl SO.full 1 N)))]) [.cells (Req.cs p), .cells (Req.cs x)]) :=
  lv_exit [.br false]
    (c := [decide ((↑i : Int) < (↑(List.length (List.map Leg.pv (Req.legs x))) : Int)) = false]) (by kernel_rfl)
    ⟨(dF g1), trivial⟩
theorem l40o_1 (p x : Req) (hs : szOk 3 (.pv (.sl (Req.so x) (Req.sz x) (List.map Leg.pv (Req.legs x)))) = true) (M N : List PV) (i : Nat) (y1 : Leg) (g1 : (↑i : Int) < (↑(List.length (List.map Leg.pv (Req.legs x))) : Int)) (g2 : (Req.legs x)[i]? = some y1) (g3 : (↑(List.length M + List.length [PV.agg [PV.int .i64 y1.cur, .int .i64 y1.minor]]) : Int) * 16 ≤ 140737488355328) (g4 : (↑(List.length N + List.length [PV.int .i64 y1.acc]) : Int) * 8 ≤ 140737488355328) :
    lv (cv (ev X E0) xf40_l0) (rl [1, 1, 0, 0, 29, 0, 0]) 2 (S40 p x (.own 2943 2 M) (.own 3263 1 N) (↑i : Int)) = lv (cv (ev X E0) xf40_l0) (rl [1, 1, 0, 0, 29, 0, 0]) 2 (St.mk (tmOf 119 [(1, AV.c (.ptr 0 0)), (3, AV.c (.ptr 1 0)), (4, AV.c (.own 2943 2 (M ++ [PV.agg [PV.int .i64 y1.cur, .int .i64 y1.minor]]))), (5, AV.c (.own 3263 1 (N ++ [PV.int .i64 y1.acc]))), (35, AV.c (.pv (.sl (Req.so x) (Req.sz x) (List.map Leg.pv (Req.legs x))))), (36, AV.c (vi (↑(List.length (List.map Leg.pv (Req.legs x))) : Int))), (37, AV.c (vi (IntKind.wrap .i64 ((↑i : Int) + 1))))]) [.cells (Req.cs p), .cells (Req.cs x)]) :=
  lv_next [.br true, .sz, .el (Leg.pv y1)]
    (c := rq [(1, decide ((↑i : Int) < (↑(List.length (List.map Leg.pv (Req.legs x))) : Int)) = true), ty hs, (1, 0 ≤ (↑i : Int)), (1, (List.map Leg.pv (Req.legs x))[i]? = some (Leg.pv y1)), ty g3, ty g4]) (by kernel_rfl)
    (aq ⟨(dT g1), hs, (Int.natCast_nonneg _), (map_at g2), g3, g4, trivial⟩)
theorem l40o_2 (p x : Req) (_hs : szOk 3 (.pv (.sl (Req.so x) (Req.sz x) (List.map Leg.pv (Req.legs x)))) = true) (M N : List PV) (i : Nat) (g1 : ¬(↑i : Int) < (↑(List.length (List.map Leg.pv (Req.legs x))) : Int)) :
    lv (cv (ev X E0) xf40_l0) (rl [1, 1, 0, 0, 29, 0, 0]) 2 (S40 p x (.own 2943 2 M) (.own 3263 1 N) (↑i : Int)) = some (XExit.exit 0, St.mk (tmOf 119 [(1, AV.c (.ptr 0 0)), (3, AV.c (.ptr 1 0)), (4, AV.c (.own 2943 2 M)), (5, AV.c (.own 3263 1 N))]) [.cells (Req.cs p), .cells (Req.cs x)]) :=
  lv_exit [.br false]
    (c := [decide ((↑i : Int) < (↑(List.length (List.map Leg.pv (Req.legs x))) : Int)) = false]) (by kernel_rfl)
    ⟨(dF g1), trivial⟩
end Go.Sx.Tryd
