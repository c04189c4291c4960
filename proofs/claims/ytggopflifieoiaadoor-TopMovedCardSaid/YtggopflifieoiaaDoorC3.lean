/- Calendars as they are known: paths. -/
import Derived.Test.YtggopflifieoiaaDoorK1
namespace Go.Sx.Tryd
open Go Go.Sx
abbrev QS63 (l : List Hol) (o : SO) (k : Int) (kv : List (PV × PV)) (i : Int) : St := St.mk (tmOf 45 [(1, AV.c (CV.pv (PV.int .i32 k))), (5, AV.c (CV.mp 0)), (11, AV.c (CV.pv (PV.sl o 3 (List.map Hol.pv l)))), (12, AV.c (CV.pv (PV.int .i64 (↑(List.length (List.map Hol.pv l)) : Int)))), (13, AV.c (CV.pv (PV.int .i64 i)))]) [Box.map kv]
theorem ql63n_1 (l : List Hol) (o : SO) (k : Int) (kv : List (PV × PV)) (i : Nat) (x : Hol) (hx : l[i]? = some x) (hi : (↑i : Int) < (↑(List.length (List.map Hol.pv l)) : Int)) (hg : mapGet kv (.int .i32 (Hol.day x)) = some none) (y1 : List (PV × PV)) (g1 : Hol.known x ≤ k) (g2 : mapPut kv (.int .i32 (Hol.day x)) (.agg [PV.int .i32 (Hol.known x), .int .i32 (Hol.day x), .bool (Hol.open' x)]) = some y1) :
    lv (cv (ev X E0) xf63_l0) (rl [1, 3, 5, 0, 0]) 1 (QS63 l o k kv (↑i : Int)) = lv (cv (ev X E0) xf63_l0) (rl [1, 3, 5, 0, 0]) 1 (St.mk (tmOf 45 [(1, AV.c (vw k)), (5, AV.c (.mp 0)), (11, AV.c (.pv (.sl o 3 (List.map Hol.pv l)))), (12, AV.c (vi (↑(List.length (List.map Hol.pv l)) : Int))), (13, AV.c (vi (IntKind.wrap .i64 ((↑i : Int) + 1))))]) [.map y1]) :=
  lv_next ([.br true, .el (.agg [PV.int .i32 (Hol.known x), .int .i32 (Hol.day x), .bool (Hol.open' x)]), .opt none] ++ bs 12 true ++ [.kv y1])
    (c := rq [(1, decide ((↑i : Int) < (↑(List.length (List.map Hol.pv l)) : Int)) = true), (1, 0 ≤ (↑i : Int)), (1, (List.map Hol.pv l)[i]? = some (PV.agg [PV.int .i32 (Hol.known x), .int .i32 (Hol.day x), .bool (Hol.open' x)])), ty hg, (3, decide (Hol.known x ≤ k) = true), (5, true = true), (1, decide (Hol.known x ≤ k) = true), (1, true = true), (1, decide (Hol.known x ≤ k) = true), (1, true = true), ty g2]) (by kernel_rfl)
    (aq ⟨(dT hi), (Int.natCast_nonneg _), (map_at hx), hg, (dT g1), rfl, (dT g1), rfl, (dT g1), rfl, g2, trivial⟩)
theorem ql63n_2 (l : List Hol) (o : SO) (k : Int) (kv : List (PV × PV)) (i : Nat) (x : Hol) (hx : l[i]? = some x) (hi : (↑i : Int) < (↑(List.length (List.map Hol.pv l)) : Int)) (hg : mapGet kv (.int .i32 (Hol.day x)) = some none) (g1 : ¬Hol.known x ≤ k) :
    lv (cv (ev X E0) xf63_l0) (rl [1, 3, 5, 0, 0]) 1 (QS63 l o k kv (↑i : Int)) = lv (cv (ev X E0) xf63_l0) (rl [1, 3, 5, 0, 0]) 1 (St.mk (tmOf 45 [(1, AV.c (vw k)), (5, AV.c (.mp 0)), (11, AV.c (.pv (.sl o 3 (List.map Hol.pv l)))), (12, AV.c (vi (↑(List.length (List.map Hol.pv l)) : Int))), (13, AV.c (vi (IntKind.wrap .i64 ((↑i : Int) + 1))))]) [.map kv]) :=
  lv_next ([.br true, .el (.agg [PV.int .i32 (Hol.known x), .int .i32 (Hol.day x), .bool (Hol.open' x)]), .opt none] ++ bs 6 false)
    (c := rq [(1, decide ((↑i : Int) < (↑(List.length (List.map Hol.pv l)) : Int)) = true), (1, 0 ≤ (↑i : Int)), (1, (List.map Hol.pv l)[i]? = some (PV.agg [PV.int .i32 (Hol.known x), .int .i32 (Hol.day x), .bool (Hol.open' x)])), ty hg, (5, decide (Hol.known x ≤ k) = false), (1, false = false)]) (by kernel_rfl)
    (aq ⟨(dT hi), (Int.natCast_nonneg _), (map_at hx), hg, (dF g1), rfl, trivial⟩)
theorem ql63s_1 (l : List Hol) (o : SO) (k : Int) (kv : List (PV × PV)) (i : Nat) (x : Hol) (a b : Int) (c : Bool) (hx : l[i]? = some x) (hi : (↑i : Int) < (↑(List.length (List.map Hol.pv l)) : Int)) (hg : mapGet kv (.int .i32 (Hol.day x)) = some (some (PV.agg [PV.int .i32 a, .int .i32 b, .bool c]))) (y1 : List (PV × PV)) (g1 : Hol.known x ≤ k) (g2 : a < Hol.known x) (g3 : mapPut kv (.int .i32 (Hol.day x)) (.agg [PV.int .i32 (Hol.known x), .int .i32 (Hol.day x), .bool (Hol.open' x)]) = some y1) :
    lv (cv (ev X E0) xf63_l0) (rl [1, 3, 5, 0, 0]) 1 (QS63 l o k kv (↑i : Int)) = lv (cv (ev X E0) xf63_l0) (rl [1, 3, 5, 0, 0]) 1 (St.mk (tmOf 45 [(1, AV.c (vw k)), (5, AV.c (.mp 0)), (11, AV.c (.pv (.sl o 3 (List.map Hol.pv l)))), (12, AV.c (vi (↑(List.length (List.map Hol.pv l)) : Int))), (13, AV.c (vi (IntKind.wrap .i64 ((↑i : Int) + 1))))]) [.map y1]) :=
  lv_next ([.br true, .el (.agg [PV.int .i32 (Hol.known x), .int .i32 (Hol.day x), .bool (Hol.open' x)]), .opt (some (PV.agg [PV.int .i32 a, .int .i32 b, .bool c]))] ++ bs 3 true ++ bs 5 false ++ [.br true, .br false, .br true, .br true, .kv y1])
    (c := rq [(1, decide ((↑i : Int) < (↑(List.length (List.map Hol.pv l)) : Int)) = true), (1, 0 ≤ (↑i : Int)), (1, (List.map Hol.pv l)[i]? = some (PV.agg [PV.int .i32 (Hol.known x), .int .i32 (Hol.day x), .bool (Hol.open' x)])), ty hg, (3, decide (Hol.known x ≤ k) = true), (5, false = false), (1, decide (Hol.known x ≤ k) = true), (1, false = false), (1, decide (Hol.known x ≤ k) = true), (1, decide (a < Hol.known x) = true), ty g3]) (by kernel_rfl)
    (aq ⟨(dT hi), (Int.natCast_nonneg _), (map_at hx), hg, (dT g1), rfl, (dT g1), rfl, (dT g1), (dT g2), g3, trivial⟩)
theorem ql63s_2 (l : List Hol) (o : SO) (k : Int) (kv : List (PV × PV)) (i : Nat) (x : Hol) (a b : Int) (c : Bool) (hx : l[i]? = some x) (hi : (↑i : Int) < (↑(List.length (List.map Hol.pv l)) : Int)) (hg : mapGet kv (.int .i32 (Hol.day x)) = some (some (PV.agg [PV.int .i32 a, .int .i32 b, .bool c]))) (g1 : Hol.known x ≤ k) (g2 : ¬a < Hol.known x) :
    lv (cv (ev X E0) xf63_l0) (rl [1, 3, 5, 0, 0]) 1 (QS63 l o k kv (↑i : Int)) = lv (cv (ev X E0) xf63_l0) (rl [1, 3, 5, 0, 0]) 1 (St.mk (tmOf 45 [(1, AV.c (vw k)), (5, AV.c (.mp 0)), (11, AV.c (.pv (.sl o 3 (List.map Hol.pv l)))), (12, AV.c (vi (↑(List.length (List.map Hol.pv l)) : Int))), (13, AV.c (vi (IntKind.wrap .i64 ((↑i : Int) + 1))))]) [.map kv]) :=
  lv_next ([.br true, .el (.agg [PV.int .i32 (Hol.known x), .int .i32 (Hol.day x), .bool (Hol.open' x)]), .opt (some (PV.agg [PV.int .i32 a, .int .i32 b, .bool c]))] ++ bs 3 true ++ bs 5 false ++ [.br true, .br false, .br true, .br false])
    (c := rq [(1, decide ((↑i : Int) < (↑(List.length (List.map Hol.pv l)) : Int)) = true), (1, 0 ≤ (↑i : Int)), (1, (List.map Hol.pv l)[i]? = some (PV.agg [PV.int .i32 (Hol.known x), .int .i32 (Hol.day x), .bool (Hol.open' x)])), ty hg, (3, decide (Hol.known x ≤ k) = true), (5, false = false), (1, decide (Hol.known x ≤ k) = true), (1, false = false), (1, decide (Hol.known x ≤ k) = true), (1, decide (a < Hol.known x) = false)]) (by kernel_rfl)
    (aq ⟨(dT hi), (Int.natCast_nonneg _), (map_at hx), hg, (dT g1), rfl, (dT g1), rfl, (dT g1), (dF g2), trivial⟩)
theorem ql63s_3 (l : List Hol) (o : SO) (k : Int) (kv : List (PV × PV)) (i : Nat) (x : Hol) (a b : Int) (c : Bool) (hx : l[i]? = some x) (hi : (↑i : Int) < (↑(List.length (List.map Hol.pv l)) : Int)) (hg : mapGet kv (.int .i32 (Hol.day x)) = some (some (PV.agg [PV.int .i32 a, .int .i32 b, .bool c]))) (g1 : ¬Hol.known x ≤ k) :
    lv (cv (ev X E0) xf63_l0) (rl [1, 3, 5, 0, 0]) 1 (QS63 l o k kv (↑i : Int)) = lv (cv (ev X E0) xf63_l0) (rl [1, 3, 5, 0, 0]) 1 (St.mk (tmOf 45 [(1, AV.c (vw k)), (5, AV.c (.mp 0)), (11, AV.c (.pv (.sl o 3 (List.map Hol.pv l)))), (12, AV.c (vi (↑(List.length (List.map Hol.pv l)) : Int))), (13, AV.c (vi (IntKind.wrap .i64 ((↑i : Int) + 1))))]) [.map kv]) :=
  lv_next ([.br true, .el (.agg [PV.int .i32 (Hol.known x), .int .i32 (Hol.day x), .bool (Hol.open' x)]), .opt (some (PV.agg [PV.int .i32 a, .int .i32 b, .bool c]))] ++ bs 6 false)
    (c := rq [(1, decide ((↑i : Int) < (↑(List.length (List.map Hol.pv l)) : Int)) = true), (1, 0 ≤ (↑i : Int)), (1, (List.map Hol.pv l)[i]? = some (PV.agg [PV.int .i32 (Hol.known x), .int .i32 (Hol.day x), .bool (Hol.open' x)])), ty hg, (5, decide (Hol.known x ≤ k) = false), (1, false = false)]) (by kernel_rfl)
    (aq ⟨(dT hi), (Int.natCast_nonneg _), (map_at hx), hg, (dF g1), rfl, trivial⟩)
theorem ql63x_1 (l : List Hol) (o : SO) (k : Int) (kv : List (PV × PV)) (i : Nat) (hi : ¬(↑i : Int) < (↑(List.length (List.map Hol.pv l)) : Int)) :
    lv (cv (ev X E0) xf63_l0) (rl [1, 3, 5, 0, 0]) 1 (QS63 l o k kv (↑i : Int)) = some (XExit.exit 0, St.mk (tmOf 45 [(5, AV.c (.mp 0))]) [.map kv]) :=
  lv_exit [.br false]
    (c := [decide ((↑i : Int) < (↑(List.length (List.map Hol.pv l)) : Int)) = false]) (by kernel_rfl)
    ⟨(dF hi), trivial⟩
theorem qg63_1 (l : List Hol) (o : SO) (k : Int) (kv : List (PV × PV)) (h : lv (cv (ev X E0) xf63_l0) (rl [1, 3, 5, 0, 0]) 1 (QS63 l o k [] 0) = some (XExit.exit 0, St.mk (tmOf 45 [(5, AV.c (.mp 0))]) [.map kv])) :
    cc (ev X E0) 63 [AV.c (.pv (.sl o 3 (List.map Hol.pv l))), AV.c (vw k)] [] = some (AV.c (.mp 0), [.map kv]) :=
  cc_path (x := xf63) rfl [.loop (XExit.exit 0) (St.mk (tmOf 45 [(5, AV.c (.mp 0))]) [.map kv])]
    (c := rq [ty h]) (by kernel_rfl)
    (aq ⟨h, trivial⟩)
theorem qg106_2 (d : Int) (g1 : datOk d = true) :
    cc (ev X E0) 106 [AV.c (vw d)] [] = some (AV.tup [AV.c (vi (Int.tmod (IntKind.wrap .i64 (IntKind.wrap .i64 (IntKind.wrap .i32 (d - -50000)) + 6)) 7)), AV.c (vi 0)], []) :=
  cc_path (x := xf106) rfl [.call (AV.c (.pv (.bool (datOk d)))) [], .br false]
    (c := [cc (ev X E0) 53 [AV.c (vw d)] [] = some (AV.c (.pv (.bool (datOk d))), []), (!datOk d) = false, (7 : Int) ≠ (0 : Int)]) (by kernel_rfl)
    ⟨(s77 _), (not_f g1), (by decide), trivial⟩
theorem qg64n_1 (kv : List (PV × PV)) (d n e : Int) (hg : mapGet kv (.int .i32 d) = some none) (h : cc (ev X E0) 106 [AV.int IntKind.i32 d] [] = some (AV.tup [AV.i n, AV.i e], [])) :
    cc (ev X E0) 64 [AV.c (.mp 0), AV.c (vw d)] [.map kv] = some (AV.c (.pv (.bool (decide (n < 5)))), [.map kv]) :=
  cc_path (x := xf64) rfl [.opt none, .br false, .call (AV.tup [AV.c (vi n), AV.c (vi e)]) []]
    (c := rq [ty hg, (1, false = false), ty h]) (by kernel_rfl)
    (aq ⟨hg, rfl, h, trivial⟩)
theorem qg64s_1 (kv : List (PV × PV)) (d a b : Int) (c : Bool) (hg : mapGet kv (.int .i32 d) = some (some (PV.agg [PV.int .i32 a, .int .i32 b, .bool c]))) :
    cc (ev X E0) 64 [AV.c (.mp 0), AV.c (vw d)] [.map kv] = some (AV.c (.pv (.bool c)), [.map kv]) :=
  cc_path (x := xf64) rfl [.opt (some (PV.agg [PV.int .i32 a, .int .i32 b, .bool c])), .br true]
    (c := rq [ty hg, (1, true = true)]) (by kernel_rfl)
    (aq ⟨hg, rfl, trivial⟩)
abbrev QS102 (kv : List (PV × PV)) (d by' : Int) : St := St.mk (tmOf 17 [(0, AV.c (CV.mp 0)), (1, AV.c (CV.pv (PV.int .i32 d))), (2, AV.c (CV.pv (PV.int .i32 by')))]) [Box.map kv]
theorem ql102_1 (kv : List (PV × PV)) (d by' : Int) (w : Bool) (h : cc (ev X E0) 64 [AV.c (.mp 0), AV.int IntKind.i32 d] [.map kv] = some (AV.b w, [.map kv])) (g1 : datOk d = true) (g2 : w = true) :
    lv (cv (ev X E0) xf102_l0) (rl [0, 0, 0]) 1 (QS102 kv d by') = some (XExit.ret, St.mk (tmOf 17 [(6, AV.c (vw d)), (7, AV.c (vi 0))]) [.map kv]) :=
  lv_ret [.call (AV.c (.pv (.bool (datOk d)))) [], .br true, .call (AV.c (.pv (.bool w))) [.map kv], .br true]
    (c := rq [(1, cc (ev X E0) 53 [AV.c (vw d)] [] = some (AV.c (.pv (.bool (datOk d))), [])), (1, datOk d = true), ty h, (1, w = true)]) (by kernel_rfl)
    (aq ⟨(s77 _), g1, h, g2, trivial⟩)
theorem ql102_2 (kv : List (PV × PV)) (d by' : Int) (w : Bool) (h : cc (ev X E0) 64 [AV.c (.mp 0), AV.int IntKind.i32 d] [.map kv] = some (AV.b w, [.map kv])) (g1 : datOk d = true) (g2 : w = false) :
    lv (cv (ev X E0) xf102_l0) (rl [0, 0, 0]) 1 (QS102 kv d by') = lv (cv (ev X E0) xf102_l0) (rl [0, 0, 0]) 1 (St.mk (tmOf 17 [(0, AV.c (.mp 0)), (1, AV.c (vw (IntKind.wrap .i32 (d + by')))), (2, AV.c (vw by'))]) [.map kv]) :=
  lv_next [.call (AV.c (.pv (.bool (datOk d)))) [], .br true, .call (AV.c (.pv (.bool w))) [.map kv], .br false]
    (c := rq [(1, cc (ev X E0) 53 [AV.c (vw d)] [] = some (AV.c (.pv (.bool (datOk d))), [])), (1, datOk d = true), ty h, (1, w = false)]) (by kernel_rfl)
    (aq ⟨(s77 _), g1, h, g2, trivial⟩)
theorem ql102e_1 (kv : List (PV × PV)) (d by' : Int) (hd : datOk d = false) :
    lv (cv (ev X E0) xf102_l0) (rl [0, 0, 0]) 1 (QS102 kv d by') = some (XExit.exit 0, St.mk (tmOf 17 []) [.map kv]) :=
  lv_exit [.call (AV.c (.pv (.bool (datOk d)))) [], .br false]
    (c := [cc (ev X E0) 53 [AV.c (vw d)] [] = some (AV.c (.pv (.bool (datOk d))), []), datOk d = false]) (by kernel_rfl)
    ⟨(s77 _), hd, trivial⟩
theorem qg102_1 (kv : List (PV × PV)) (d by' : Int) (h : lv (cv (ev X E0) xf102_l0) (rl [0, 0, 0]) 1 (QS102 kv d by') = some (XExit.exit 0, St.mk (tmOf 17 []) [.map kv])) :
    cc (ev X E0) 102 [AV.c (.mp 0), AV.c (vw d), AV.c (vw by')] [.map kv] = some (AV.tup [AV.c (vw 0), AV.c (vi 11)], [.map kv]) :=
  cc_path (x := xf102) rfl [.loop (XExit.exit 0) (St.mk (tmOf 17 []) [.map kv])]
    (c := rq [ty h]) (by kernel_rfl)
    (aq ⟨h, trivial⟩)
theorem qg102r_1 (kv : List (PV × PV)) (d by' x : Int) (h : lv (cv (ev X E0) xf102_l0) (rl [0, 0, 0]) 1 (QS102 kv d by') = some (XExit.ret, St.mk (tmOf 17 [(6, AV.c (vw x)), (7, AV.c (vi 0))]) [.map kv])) :
    cc (ev X E0) 102 [AV.c (.mp 0), AV.c (vw d), AV.c (vw by')] [.map kv] = some (AV.tup [AV.c (vw x), AV.c (vi 0)], [.map kv]) :=
  cc_path (x := xf102) rfl [.loop XExit.ret (St.mk (tmOf 17 [(6, AV.c (vw x)), (7, AV.c (vi 0))]) [.map kv])]
    (c := rq [ty h]) (by kernel_rfl)
    (aq ⟨h, trivial⟩)
end Go.Sx.Tryd
