/- The statements ScriptCut, ScriptFaults: their paths. -/
import Derived.Test.YtplknajjcllmkaaDoorH21
namespace Go.Sx.Tryd
open Go Go.Sx
theorem f11x_1 (l : List Req) (o : SO) (wrong more : List UInt8) (h1 : cc (ev X E0) 35 [AV.sl o 21 (List.map Req.pv l)] [] = some (AV.b false, [])) (h3 : cc (ev X E0) (36 : Nat) [] [] = some (AV.b true, [])) :
    cc (ev X E0) 11 [AV.c (.pv (.sl o 21 (List.map Req.pv l))), AV.c (.pv (.str wrong)), AV.c (.pv (.str more))] [] = some (AV.c (.pv (.bool true)), []) :=
  cc_path (x := xf11) rfl ([.call (AV.c (.pv (.bool false))) []] ++ bs 13 true ++ [.call (AV.c (.pv (.bool true))) []])
    (c := rq [ty h1, (13, true = true), ty h3]) (by kernel_rfl)
    (aq ⟨h1, rfl, h3, trivial⟩)
theorem f11n_1 (l : List Req) (o : SO) (wrong more : List UInt8) (h1 : cc (ev X E0) 35 [AV.sl o 21 (List.map Req.pv l)] [] = some (AV.b true, [])) (h3 : cc (ev X E0) (36 : Nat) [] [] = some (AV.b true, [])) (g1 : (↑(List.length (List.map Req.pv l)) : Int) > 200) :
    cc (ev X E0) 11 [AV.c (.pv (.sl o 21 (List.map Req.pv l))), AV.c (.pv (.str wrong)), AV.c (.pv (.str more))] [] = some (AV.c (.pv (.bool true)), []) :=
  cc_path (x := xf11) rfl ([.call (AV.c (.pv (.bool true))) []] ++ bs 4 false ++ bs 9 true ++ [.call (AV.c (.pv (.bool true))) []])
    (c := rq [ty h1, (4, false = false), (4, decide ((↑(List.length (List.map Req.pv l)) : Int) > 200) = true), (5, true = true), ty h3]) (by kernel_rfl)
    (aq ⟨h1, rfl, (dT g1), rfl, h3, trivial⟩)
theorem f11n_2 (l : List Req) (o : SO) (wrong more : List UInt8) (h1 : cc (ev X E0) 35 [AV.sl o 21 (List.map Req.pv l)] [] = some (AV.b true, [])) (h3 : cc (ev X E0) (36 : Nat) [] [] = some (AV.b true, [])) (g1 : ¬(↑(List.length (List.map Req.pv l)) : Int) > 200) (g2 : (↑(List.length wrong) : Int) > 2400) :
    cc (ev X E0) 11 [AV.c (.pv (.sl o 21 (List.map Req.pv l))), AV.c (.pv (.str wrong)), AV.c (.pv (.str more))] [] = some (AV.c (.pv (.bool true)), []) :=
  cc_path (x := xf11) rfl ([.call (AV.c (.pv (.bool true))) []] ++ bs 8 false ++ bs 5 true ++ [.call (AV.c (.pv (.bool true))) []])
    (c := rq [ty h1, (4, false = false), (4, decide ((↑(List.length (List.map Req.pv l)) : Int) > 200) = false), (4, decide ((↑(List.length wrong) : Int) > 2400) = true), (1, true = true), ty h3]) (by kernel_rfl)
    (aq ⟨h1, rfl, (dF g1), (dT g2), rfl, h3, trivial⟩)
theorem f11n_3 (l : List Req) (o : SO) (wrong more : List UInt8) (h1 : cc (ev X E0) 35 [AV.sl o 21 (List.map Req.pv l)] [] = some (AV.b true, [])) (h3 : cc (ev X E0) (36 : Nat) [] [] = some (AV.b true, [])) (g1 : ¬(↑(List.length (List.map Req.pv l)) : Int) > 200) (g2 : ¬(↑(List.length wrong) : Int) > 2400) (g3 : (↑(List.length more) : Int) > 6000) :
    cc (ev X E0) 11 [AV.c (.pv (.sl o 21 (List.map Req.pv l))), AV.c (.pv (.str wrong)), AV.c (.pv (.str more))] [] = some (AV.c (.pv (.bool true)), []) :=
  cc_path (x := xf11) rfl [.call (AV.c (.pv (.bool true))) [], .br false, .br false, .br false, .br false, .br false, .br false, .br false, .br false, .br false, .br false, .br false, .br false, .br true, .call (AV.c (.pv (.bool true))) []]
    (c := [cc (ev X E0) 35 [AV.c (.pv (.sl o 21 (List.map Req.pv l)))] [] = some (AV.c (.pv (.bool true)), []), false = false, false = false, false = false, false = false, decide ((↑(List.length (List.map Req.pv l)) : Int) > 200) = false, decide ((↑(List.length (List.map Req.pv l)) : Int) > 200) = false, decide ((↑(List.length (List.map Req.pv l)) : Int) > 200) = false, decide ((↑(List.length (List.map Req.pv l)) : Int) > 200) = false, decide ((↑(List.length wrong) : Int) > 2400) = false, decide ((↑(List.length wrong) : Int) > 2400) = false, decide ((↑(List.length wrong) : Int) > 2400) = false, decide ((↑(List.length wrong) : Int) > 2400) = false, decide ((↑(List.length more) : Int) > 6000) = true, cc (ev X E0) (36 : Nat) [] [] = some (AV.c (.pv (.bool true)), [])]) (by kernel_rfl)
    ⟨(h1), rfl, rfl, rfl, rfl, (dF g1), (dF g1), (dF g1), (dF g1), (dF g2), (dF g2), (dF g2), (dF g2), (dT g3), (h3), trivial⟩
theorem f11o_1 (l : List Req) (o : SO) (wrong more : List UInt8) (x : Req) (h1 : cc (ev X E0) 35 [AV.sl o 21 (List.map Req.pv l)] [] = some (AV.b true, [])) (h3 : cc (ev X E0) (36 : Nat) [] [] = some (AV.b true, [])) (k1 : ¬(↑(List.length (List.map Req.pv l)) : Int) > 200) (k2 : ¬(↑(List.length wrong) : Int) > 2400) (k3 : ¬(↑(List.length more) : Int) > 6000) (h45 : cs (ev X E0) 45 [AV.s wrong] = some (AV.tup [Req.av x, AV.i 0])) :
    cc (ev X E0) 11 [AV.c (.pv (.sl o 21 (List.map Req.pv l))), AV.c (.pv (.str wrong)), AV.c (.pv (.str more))] [] = some (AV.c (.pv (.bool true)), []) :=
  cc_path (x := xf11) rfl ([.call (AV.c (.pv (.bool true))) []] ++ bs 13 false ++ [.shut (AV.tup [AV.agg (Req.cs x), AV.c (vi 0)]), .br true, .call (AV.c (.pv (.bool true))) []])
    (c := rq [ty h1, (4, false = false), (4, decide ((↑(List.length (List.map Req.pv l)) : Int) > 200) = false), (4, decide ((↑(List.length wrong) : Int) > 2400) = false), (1, decide ((↑(List.length more) : Int) > 6000) = false), ty h45, (1, true = true), ty h3]) (by kernel_rfl)
    (aq ⟨h1, rfl, (dF k1), (dF k2), (dF k3), h45, rfl, h3, trivial⟩)
theorem f11ar_1 (l : List Req) (o : SO) (wrong more : List UInt8) (y : Req) (w : Int) (v0 b : List UInt8) (h1 : cc (ev X E0) 35 [AV.sl o 21 (List.map Req.pv l)] [] = some (AV.b true, [])) (_h3 : cc (ev X E0) (36 : Nat) [] [] = some (AV.b true, [])) (k1 : ¬(↑(List.length (List.map Req.pv l)) : Int) > 200) (k2 : ¬(↑(List.length wrong) : Int) > 2400) (k3 : ¬(↑(List.length more) : Int) > 6000) (h45 : cs (ev X E0) 45 [AV.s wrong] = some (AV.tup [AV.agg Z21, AV.i w])) (hw : ¬w = 0) (h49 : cc (ev X E0) 49 [AV.c (.ptr 0 0), AV.int IntKind.u64 (IntKind.wrap .u64 (if 200 < IntKind.wrap .i64 ((↑(List.length (List.map Req.pv l)) : Int) + 2) then 200 else IntKind.wrap .i64 ((↑(List.length (List.map Req.pv l)) : Int) + 2)))] [.cells [.pv (.sl SO.nil 0 [])]] = some (AV.tup [], [.cells [.own 0 1 (pvBytes v0)]])) (hl : lv (cv (ev X E0) xf11_l0) (rl [0, 0, 0, 5, 0, 43, 0, 0]) 2 (S11 l o wrong more w 3328 v0 0) = some (XExit.ret, St.mk (tmOf 97 [(6, AV.c (.pv (.bool true)))]) [.cells Z21, .cells [.own 3328 1 (pvBytes b)], .cells (Req.cs y)])) :
    cc (ev X E0) 11 [AV.c (.pv (.sl o 21 (List.map Req.pv l))), AV.c (.pv (.str wrong)), AV.c (.pv (.str more))] [] = some (AV.c (.pv (.bool true)), []) :=
  cc_path (x := xf11) rfl ([.call (AV.c (.pv (.bool true))) []] ++ bs 13 false ++ [.shut (AV.tup [AV.agg (Z21), AV.c (vi w)]), .br false, .call (AV.c (.ptr (0 : Nat) (0 : Nat))) [.cells [.pv (.sl SO.nil (0 : Nat) [])]], .br false, .call (AV.tup []) [.cells [.own 0 1 (pvBytes v0)]], .loop XExit.ret (St.mk (tmOf 97 [(6, AV.c (.pv (.bool true)))]) [.cells (Z21), .cells [.own 3328 1 (pvBytes b)], .cells (Req.cs y)])])
    (c := rq [ty h1, (4, false = false), (4, decide ((↑(List.length (List.map Req.pv l)) : Int) > 200) = false), (4, decide ((↑(List.length wrong) : Int) > 2400) = false), (1, decide ((↑(List.length more) : Int) > 6000) = false), ty h45, (1, (w == 0) = false), (1, cc (ev X E0) (48 : Nat) [] [] = some (AV.c (.ptr (0 : Nat) (0 : Nat)), [.cells [.pv (.sl SO.nil (0 : Nat) [])]])), (1, false = false), ty h49, ty hl]) (by kernel_rfl)
    (aq ⟨h1, rfl, (dF k1), (dF k2), (dF k3), h45, (beq_eq_false_iff_ne.mpr hw), NW_1, rfl, h49, hl, trivial⟩)
theorem f11a_1 (l : List Req) (o : SO) (wrong more : List UInt8) (w : Int) (v0 b : List UInt8) (h1 : cc (ev X E0) 35 [AV.sl o 21 (List.map Req.pv l)] [] = some (AV.b true, [])) (h3 : cc (ev X E0) (36 : Nat) [] [] = some (AV.b true, [])) (k1 : ¬(↑(List.length (List.map Req.pv l)) : Int) > 200) (k2 : ¬(↑(List.length wrong) : Int) > 2400) (k3 : ¬(↑(List.length more) : Int) > 6000) (h45 : cs (ev X E0) 45 [AV.s wrong] = some (AV.tup [AV.agg Z21, AV.i w])) (hw : ¬w = 0) (h49 : cc (ev X E0) 49 [AV.c (.ptr 0 0), AV.int IntKind.u64 (IntKind.wrap .u64 (if 200 < IntKind.wrap .i64 ((↑(List.length (List.map Req.pv l)) : Int) + 2) then 200 else IntKind.wrap .i64 ((↑(List.length (List.map Req.pv l)) : Int) + 2)))] [.cells [.pv (.sl SO.nil 0 [])]] = some (AV.tup [], [.cells [.own 0 1 (pvBytes v0)]])) (hl : lv (cv (ev X E0) xf11_l0) (rl [0, 0, 0, 5, 0, 43, 0, 0]) 2 (S11 l o wrong more w 3328 v0 0) = some (XExit.exit 0, St.mk (tmOf 97 [(0, AV.c (.pv (.sl o 21 (List.map Req.pv l)))), (1, AV.c (.pv (.str wrong))), (2, AV.c (.pv (.str more))), (8, AV.c (vi w)), (9, AV.c (.ptr 1 0))]) [.cells Z21, .cells [.own 3328 1 (pvBytes b)]])) (kn : ¬(↑(List.length (List.map Req.pv l)) : Int) > 198) (h46 : cs (ev X E0) 46 [AV.s (b ++ tb wrong ++ more)] = some (AV.tup [AV.c (.pv (.sl SO.nil 0 [])), AV.i w])) (g1 : List.length wrong ≤ 1000000) (g2 : List.length b ≤ 1000000000) (g3 : List.length (b ++ tb wrong) + List.length more ≤ 9223372036854775807) (g4 : w = w) :
    cc (ev X E0) 11 [AV.c (.pv (.sl o 21 (List.map Req.pv l))), AV.c (.pv (.str wrong)), AV.c (.pv (.str more))] [] = some (AV.c (.pv (.bool true)), []) :=
  cc_path (x := xf11) rfl ([.call (AV.c (.pv (.bool true))) []] ++ bs 13 false ++ [.shut (AV.tup [AV.agg (Z21), AV.c (vi w)]), .br false, .call (AV.c (.ptr (0 : Nat) (0 : Nat))) [.cells [.pv (.sl SO.nil (0 : Nat) [])]], .br false, .call (AV.tup []) [.cells [.own 0 1 (pvBytes v0)]], .loop (XExit.exit 0) (St.mk (tmOf 97 [(0, AV.c (.pv (.sl o 21 (List.map Req.pv l)))), (1, AV.c (.pv (.str wrong))), (2, AV.c (.pv (.str more))), (8, AV.c (vi w)), (9, AV.c (.ptr 1 0))]) [.cells (Z21), .cells [.own 3328 1 (pvBytes b)]]), .br false, .call (AV.tup []) [.cells [.own 0 1 (pvBytes (b ++ tb wrong))]], .call (AV.c (.pv (.str (b ++ tb wrong)))) [.cells [.own 0 1 (pvBytes (b ++ tb wrong))]], .shut (AV.tup [AV.c (.pv (.sl SO.nil 0 [])), AV.c (vi w)]), .call (AV.c (.pv (.bool true))) []] ++ bs 8 true)
    (c := rq [ty h1, (4, false = false), (4, decide ((↑(List.length (List.map Req.pv l)) : Int) > 200) = false), (4, decide ((↑(List.length wrong) : Int) > 2400) = false), (1, decide ((↑(List.length more) : Int) > 6000) = false), ty h45, (1, (w == 0) = false), (1, cc (ev X E0) (48 : Nat) [] [] = some (AV.c (.ptr (0 : Nat) (0 : Nat)), [.cells [.pv (.sl SO.nil (0 : Nat) [])]])), (1, false = false), ty h49, ty hl, (1, decide ((↑(List.length (List.map Req.pv l)) : Int) > 198) = false), (1, cc (ev X E0) 50 [AV.c (.ptr 0 0), AV.c (.pv (.str wrong))] [.cells [.own 0 1 (pvBytes b)]] = some (AV.tup [], [.cells [.own 0 1 (pvBytes (b ++ tb wrong))]])), (1, cc (ev X E0) 51 [AV.c (.ptr 0 0)] [.cells [.own 0 1 (pvBytes (b ++ tb wrong))]] = some (AV.c (.pv (.str (b ++ tb wrong))), [.cells [.own 0 1 (pvBytes (b ++ tb wrong))]])), ty g3, ty h46, ty h3, (4, true = true), (4, (w == w) = true)]) (by kernel_rfl)
    (aq ⟨h1, rfl, (dF k1), (dF k2), (dF k3), h45, (beq_eq_false_iff_ne.mpr hw), NW_1, rfl, h49, hl, (dF kn), (Text_own _ _ g1 g2), (BytesO_1 _ _), g3, h46, h3, rfl, (beq_iff_eq.mpr g4), trivial⟩)
theorem f11br_1 (l : List Req) (o : SO) (wrong more : List UInt8) (y : Req) (w : Int) (v0 b : List UInt8) (h1 : cc (ev X E0) 35 [AV.sl o 21 (List.map Req.pv l)] [] = some (AV.b true, [])) (_h3 : cc (ev X E0) (36 : Nat) [] [] = some (AV.b true, [])) (k1 : ¬(↑(List.length (List.map Req.pv l)) : Int) > 200) (k2 : ¬(↑(List.length wrong) : Int) > 2400) (k3 : ¬(↑(List.length more) : Int) > 6000) (h45 : cs (ev X E0) 45 [AV.s wrong] = some (AV.tup [AV.agg Z21, AV.i w])) (hw : ¬w = 0) (h49 : cc (ev X E0) 49 [AV.c (.ptr 0 0), AV.int IntKind.u64 (IntKind.wrap .u64 (if 200 < IntKind.wrap .i64 ((↑(List.length (List.map Req.pv l)) : Int) + 2) then 200 else IntKind.wrap .i64 ((↑(List.length (List.map Req.pv l)) : Int) + 2)))] [.cells [.pv (.sl SO.nil 0 [])]] = some (AV.tup [], [.cells [.own 0 1 (pvBytes v0)]])) (hl : lv (cv (ev X E0) xf11_l0) (rl [0, 0, 0, 5, 0, 43, 0, 0]) 2 (S11 l o wrong more w 3328 v0 0) = some (XExit.ret, St.mk (tmOf 97 [(6, AV.c (.pv (.bool true)))]) [.cells Z21, .cells [.own 4416 1 (pvBytes b)], .cells (Req.cs y)])) :
    cc (ev X E0) 11 [AV.c (.pv (.sl o 21 (List.map Req.pv l))), AV.c (.pv (.str wrong)), AV.c (.pv (.str more))] [] = some (AV.c (.pv (.bool true)), []) :=
  cc_path (x := xf11) rfl ([.call (AV.c (.pv (.bool true))) []] ++ bs 13 false ++ [.shut (AV.tup [AV.agg (Z21), AV.c (vi w)]), .br false, .call (AV.c (.ptr (0 : Nat) (0 : Nat))) [.cells [.pv (.sl SO.nil (0 : Nat) [])]], .br false, .call (AV.tup []) [.cells [.own 0 1 (pvBytes v0)]], .loop XExit.ret (St.mk (tmOf 97 [(6, AV.c (.pv (.bool true)))]) [.cells (Z21), .cells [.own 4416 1 (pvBytes b)], .cells (Req.cs y)])])
    (c := rq [ty h1, (4, false = false), (4, decide ((↑(List.length (List.map Req.pv l)) : Int) > 200) = false), (4, decide ((↑(List.length wrong) : Int) > 2400) = false), (1, decide ((↑(List.length more) : Int) > 6000) = false), ty h45, (1, (w == 0) = false), (1, cc (ev X E0) (48 : Nat) [] [] = some (AV.c (.ptr (0 : Nat) (0 : Nat)), [.cells [.pv (.sl SO.nil (0 : Nat) [])]])), (1, false = false), ty h49, ty hl]) (by kernel_rfl)
    (aq ⟨h1, rfl, (dF k1), (dF k2), (dF k3), h45, (beq_eq_false_iff_ne.mpr hw), NW_1, rfl, h49, hl, trivial⟩)
theorem f11b_1 (l : List Req) (o : SO) (wrong more : List UInt8) (w : Int) (v0 b : List UInt8) (h1 : cc (ev X E0) 35 [AV.sl o 21 (List.map Req.pv l)] [] = some (AV.b true, [])) (h3 : cc (ev X E0) (36 : Nat) [] [] = some (AV.b true, [])) (k1 : ¬(↑(List.length (List.map Req.pv l)) : Int) > 200) (k2 : ¬(↑(List.length wrong) : Int) > 2400) (k3 : ¬(↑(List.length more) : Int) > 6000) (h45 : cs (ev X E0) 45 [AV.s wrong] = some (AV.tup [AV.agg Z21, AV.i w])) (hw : ¬w = 0) (h49 : cc (ev X E0) 49 [AV.c (.ptr 0 0), AV.int IntKind.u64 (IntKind.wrap .u64 (if 200 < IntKind.wrap .i64 ((↑(List.length (List.map Req.pv l)) : Int) + 2) then 200 else IntKind.wrap .i64 ((↑(List.length (List.map Req.pv l)) : Int) + 2)))] [.cells [.pv (.sl SO.nil 0 [])]] = some (AV.tup [], [.cells [.own 0 1 (pvBytes v0)]])) (hl : lv (cv (ev X E0) xf11_l0) (rl [0, 0, 0, 5, 0, 43, 0, 0]) 2 (S11 l o wrong more w 3328 v0 0) = some (XExit.exit 0, St.mk (tmOf 97 [(0, AV.c (.pv (.sl o 21 (List.map Req.pv l)))), (1, AV.c (.pv (.str wrong))), (2, AV.c (.pv (.str more))), (8, AV.c (vi w)), (9, AV.c (.ptr 1 0))]) [.cells Z21, .cells [.own 4416 1 (pvBytes b)]])) (kn : ¬(↑(List.length (List.map Req.pv l)) : Int) > 198) (h46 : cs (ev X E0) 46 [AV.s (b ++ tb wrong ++ more)] = some (AV.tup [AV.c (.pv (.sl SO.nil 0 [])), AV.i w])) (g1 : List.length wrong ≤ 1000000) (g2 : List.length b ≤ 1000000000) (g3 : List.length (b ++ tb wrong) + List.length more ≤ 9223372036854775807) (g4 : w = w) :
    cc (ev X E0) 11 [AV.c (.pv (.sl o 21 (List.map Req.pv l))), AV.c (.pv (.str wrong)), AV.c (.pv (.str more))] [] = some (AV.c (.pv (.bool true)), []) :=
  cc_path (x := xf11) rfl ([.call (AV.c (.pv (.bool true))) []] ++ bs 13 false ++ [.shut (AV.tup [AV.agg (Z21), AV.c (vi w)]), .br false, .call (AV.c (.ptr (0 : Nat) (0 : Nat))) [.cells [.pv (.sl SO.nil (0 : Nat) [])]], .br false, .call (AV.tup []) [.cells [.own 0 1 (pvBytes v0)]], .loop (XExit.exit 0) (St.mk (tmOf 97 [(0, AV.c (.pv (.sl o 21 (List.map Req.pv l)))), (1, AV.c (.pv (.str wrong))), (2, AV.c (.pv (.str more))), (8, AV.c (vi w)), (9, AV.c (.ptr 1 0))]) [.cells (Z21), .cells [.own 4416 1 (pvBytes b)]]), .br false, .call (AV.tup []) [.cells [.own 0 1 (pvBytes (b ++ tb wrong))]], .call (AV.c (.pv (.str (b ++ tb wrong)))) [.cells [.own 0 1 (pvBytes (b ++ tb wrong))]], .shut (AV.tup [AV.c (.pv (.sl SO.nil 0 [])), AV.c (vi w)]), .call (AV.c (.pv (.bool true))) []] ++ bs 8 true)
    (c := rq [ty h1, (4, false = false), (4, decide ((↑(List.length (List.map Req.pv l)) : Int) > 200) = false), (4, decide ((↑(List.length wrong) : Int) > 2400) = false), (1, decide ((↑(List.length more) : Int) > 6000) = false), ty h45, (1, (w == 0) = false), (1, cc (ev X E0) (48 : Nat) [] [] = some (AV.c (.ptr (0 : Nat) (0 : Nat)), [.cells [.pv (.sl SO.nil (0 : Nat) [])]])), (1, false = false), ty h49, ty hl, (1, decide ((↑(List.length (List.map Req.pv l)) : Int) > 198) = false), (1, cc (ev X E0) 50 [AV.c (.ptr 0 0), AV.c (.pv (.str wrong))] [.cells [.own 0 1 (pvBytes b)]] = some (AV.tup [], [.cells [.own 0 1 (pvBytes (b ++ tb wrong))]])), (1, cc (ev X E0) 51 [AV.c (.ptr 0 0)] [.cells [.own 0 1 (pvBytes (b ++ tb wrong))]] = some (AV.c (.pv (.str (b ++ tb wrong))), [.cells [.own 0 1 (pvBytes (b ++ tb wrong))]])), ty g3, ty h46, ty h3, (4, true = true), (4, (w == w) = true)]) (by kernel_rfl)
    (aq ⟨h1, rfl, (dF k1), (dF k2), (dF k3), h45, (beq_eq_false_iff_ne.mpr hw), NW_1, rfl, h49, hl, (dF kn), (Text_own _ _ g1 g2), (BytesO_1 _ _), g3, h46, h3, rfl, (beq_iff_eq.mpr g4), trivial⟩)
theorem f11bn_1 (l : List Req) (o : SO) (wrong more : List UInt8) (w : Int) (v0 b : List UInt8) (h1 : cc (ev X E0) 35 [AV.sl o 21 (List.map Req.pv l)] [] = some (AV.b true, [])) (h3 : cc (ev X E0) (36 : Nat) [] [] = some (AV.b true, [])) (k1 : ¬(↑(List.length (List.map Req.pv l)) : Int) > 200) (k2 : ¬(↑(List.length wrong) : Int) > 2400) (k3 : ¬(↑(List.length more) : Int) > 6000) (h45 : cs (ev X E0) 45 [AV.s wrong] = some (AV.tup [AV.agg Z21, AV.i w])) (hw : ¬w = 0) (h49 : cc (ev X E0) 49 [AV.c (.ptr 0 0), AV.int IntKind.u64 (IntKind.wrap .u64 (if 200 < IntKind.wrap .i64 ((↑(List.length (List.map Req.pv l)) : Int) + 2) then 200 else IntKind.wrap .i64 ((↑(List.length (List.map Req.pv l)) : Int) + 2)))] [.cells [.pv (.sl SO.nil 0 [])]] = some (AV.tup [], [.cells [.own 0 1 (pvBytes v0)]])) (hl : lv (cv (ev X E0) xf11_l0) (rl [0, 0, 0, 5, 0, 43, 0, 0]) 2 (S11 l o wrong more w 3328 v0 0) = some (XExit.exit 0, St.mk (tmOf 97 [(0, AV.c (.pv (.sl o 21 (List.map Req.pv l)))), (1, AV.c (.pv (.str wrong))), (2, AV.c (.pv (.str more))), (8, AV.c (vi w)), (9, AV.c (.ptr 1 0))]) [.cells Z21, .cells [.own 4416 1 (pvBytes b)]])) (kn : (↑(List.length (List.map Req.pv l)) : Int) > 198) :
    cc (ev X E0) 11 [AV.c (.pv (.sl o 21 (List.map Req.pv l))), AV.c (.pv (.str wrong)), AV.c (.pv (.str more))] [] = some (AV.c (.pv (.bool true)), []) :=
  cc_path (x := xf11) rfl ([.call (AV.c (.pv (.bool true))) []] ++ bs 13 false ++ [.shut (AV.tup [AV.agg (Z21), AV.c (vi w)]), .br false, .call (AV.c (.ptr (0 : Nat) (0 : Nat))) [.cells [.pv (.sl SO.nil (0 : Nat) [])]], .br false, .call (AV.tup []) [.cells [.own 0 1 (pvBytes v0)]], .loop (XExit.exit 0) (St.mk (tmOf 97 [(0, AV.c (.pv (.sl o 21 (List.map Req.pv l)))), (1, AV.c (.pv (.str wrong))), (2, AV.c (.pv (.str more))), (8, AV.c (vi w)), (9, AV.c (.ptr 1 0))]) [.cells (Z21), .cells [.own 4416 1 (pvBytes b)]]), .br true, .call (AV.c (.pv (.bool true))) []])
    (c := rq [ty h1, (4, false = false), (4, decide ((↑(List.length (List.map Req.pv l)) : Int) > 200) = false), (4, decide ((↑(List.length wrong) : Int) > 2400) = false), (1, decide ((↑(List.length more) : Int) > 6000) = false), ty h45, (1, (w == 0) = false), (1, cc (ev X E0) (48 : Nat) [] [] = some (AV.c (.ptr (0 : Nat) (0 : Nat)), [.cells [.pv (.sl SO.nil (0 : Nat) [])]])), (1, false = false), ty h49, ty hl, (1, decide ((↑(List.length (List.map Req.pv l)) : Int) > 198) = true), ty h3]) (by kernel_rfl)
    (aq ⟨h1, rfl, (dF k1), (dF k2), (dF k3), h45, (beq_eq_false_iff_ne.mpr hw), NW_1, rfl, h49, hl, (dT kn), h3, trivial⟩)
end Go.Sx.Tryd
/- The statement ScriptFaults, of the evaluator. -/
namespace Go.Sx.Tryd
open Go Go.Sx
abbrev x11 (l : List Req) (o : SO) (wrong more : List UInt8) (w : Int) (g : Nat) (b : List UInt8) : Option (XExit × St) := some (XExit.exit 0, St.mk (tmOf 97 [(0, AV.c (CV.pv (PV.sl o 21 (List.map Req.pv l)))), (1, AV.c (CV.pv (PV.str wrong))), (2, AV.c (CV.pv (PV.str more))), (8, AV.c (CV.pv (PV.int .i64 w))), (9, AV.c (CV.ptr 1 0))]) [Box.cells Z21, Box.cells [CV.own g 1 (pvBytes b)]])
abbrev r11 (g : Nat) (b : List UInt8) (y : Req) : Option (XExit × St) := some (XExit.ret, St.mk (tmOf 97 [(6, AV.c (CV.pv (PV.bool true)))]) [Box.cells Z21, Box.cells [CV.own g 1 (pvBytes b)], Box.cells (Req.cs y)])
theorem a11 {l : List Req} {o : SO} {wrong more : List UInt8} {w : Int} (hl : l.length ≤ 1000) (hg : ∀ x ∈ l, Good x) : ∀ (r pre : List Req) (b : List UInt8), l = pre ++ r → b.length ≤ 100000 * (pre.length + 1) →
    (firstE r = 0 ∧ lv (cv (ev X E0) xf11_l0) (rl [0, 0, 0, 5, 0, 43, 0, 0]) 2 (S11 l o wrong more w 4416 b (pre.length : Nat)) = x11 l o wrong more w 4416 (b ++ txts r)) ∨
    ∃ b' y, lv (cv (ev X E0) xf11_l0) (rl [0, 0, 0, 5, 0, 43, 0, 0]) 2 (S11 l o wrong more w 4416 b (pre.length : Nat)) = r11 4416 b' y
  | [], pre, b, e, _ => by
    rw [List.append_nil] at e
    rw [← e, txts, List.append_nil]
    exact Or.inl ⟨rfl, l11y_1 l o wrong more b w l.length not_lt_map⟩
  | y :: r, pre, b, e, hb => by
    have hat : l[pre.length]? = some y := by rw [e]; simp
    have hlen : l.length = pre.length + r.length + 1 := by rw [e]; simp; omega
    have hlt := lt_map (f := Req.pv) (l := l) (i := pre.length) (by omega)
    have gy := hg y (by rw [e]; simp)
    have h38 := s38g gy
    rw [firstE]
    by_cases c : chk y = 0
    · rw [encV, if_pos c, c] at h38
      have hel := enc_len (chk_fine c) gy.typ
      have st := l11b_2 l o wrong more b _ w _ pre.length y hat hlt h38 alive rfl (by omega) (by omega)
      have hw' : IntKind.wrap .i64 ((pre.length : Int) + 1) = (((pre ++ [y]).length : Nat) : Int) := by rw [wi64 (by omega) (by omega), List.length_append, List.length_singleton]; omega
      rw [hw'] at st
      have htb := tb_len (s := enc y) (by omega)
      rw [st, if_pos c, txts, ← List.append_assoc]
      exact a11 hl hg r (pre ++ [y]) (b ++ tb (enc y)) (by rw [e]; simp) (by rw [List.length_append, List.length_append, List.length_singleton]; omega)
    · exact Or.inr ⟨b, y, l11b_1 l o wrong more b _ w _ pre.length y hat hlt h38 alive c⟩
theorem ScriptFaults0 (l : List Req) (o : SO) (wrong more : List UInt8) (hw : ∀ x ∈ l, WReq x) : cc (ev X E0) 11 [AV.sl o 21 (l.map Req.pv), AV.s wrong, AV.s more] [] = some (.b true, []) := by
  have h1 := s35 l o
  have em : (((l.map Req.pv).length : Nat) : Int) = l.length := by rw [List.length_map]
  cases hf : fitsL l with
  | false => rw [hf] at h1; exact f11x_1 l o wrong more h1 alive
  | true =>
  rw [hf] at h1
  by_cases c1 : (↑(List.length (List.map Req.pv l)) : Int) > 200
  · exact f11n_1 l o wrong more h1 alive c1
  by_cases c2 : (↑(List.length wrong) : Int) > 2400
  · exact f11n_2 l o wrong more h1 alive c1 c2
  by_cases c3 : (↑(List.length more) : Int) > 6000
  · exact f11n_3 l o wrong more h1 alive c1 c2 c3
  obtain ⟨hlen, hg⟩ := fits_good hw hf
  have h45 := s45 wrong (by omega)
  rw [decA] at h45
  by_cases hd : decE wrong = 0
  · rw [if_pos hd, hd] at h45
    exact f11o_1 l o wrong more _ h1 alive c1 c2 c3 h45
  rw [if_neg hd] at h45
  have hcnt : (if 200 < IntKind.wrap IntKind.i64 ((↑(List.length (List.map Req.pv l)) : Int) + 2) then 200 else IntKind.wrap IntKind.i64 ((↑(List.length (List.map Req.pv l)) : Int) + 2)) = if 198 < (l.length : Int) then 200 else (l.length : Int) + 2 := by
    rw [em, wi64 (by omega) (by omega)]
    by_cases h : 198 < (l.length : Int)
    · rw [if_pos (by omega), if_pos h]
    · rw [if_neg (by omega), if_neg h]
  have hK : IntKind.wrap IntKind.u64 (if 200 < IntKind.wrap IntKind.i64 ((↑(List.length (List.map Req.pv l)) : Int) + 2) then 200 else IntKind.wrap IntKind.i64 ((↑(List.length (List.map Req.pv l)) : Int) + 2)) = if 198 < (l.length : Int) then 200 else (l.length : Int) + 2 := by
    rw [hcnt, wu64]
    by_cases h : 198 < (l.length : Int)
    · rw [if_pos h]; rfl
    · rw [if_neg h]; omega
  have hKb : 0 ≤ (if 198 < (l.length : Int) then 200 else (l.length : Int) + 2) ∧ (if 198 < (l.length : Int) then 200 else (l.length : Int) + 2) ≤ 200 := by split <;> omega
  have vl := vb_small (n := (if 198 < (l.length : Int) then 200 else (l.length : Int) + 2).toNat) (by omega)
  have h49 := Vint_nil 0 (IntKind.wrap IntKind.u64 (if 200 < IntKind.wrap IntKind.i64 ((↑(List.length (List.map Req.pv l)) : Int) + 2) then 200 else IntKind.wrap IntKind.i64 ((↑(List.length (List.map Req.pv l)) : Int) + 2))) (by rw [hK]; exact hKb.1) (by rw [hK]; omega)
  obtain ⟨v0, hv0⟩ : ∃ v, v = vb (Int.toNat (IntKind.wrap IntKind.u64 (if 200 < IntKind.wrap IntKind.i64 ((↑(List.length (List.map Req.pv l)) : Int) + 2) then 200 else IntKind.wrap IntKind.i64 ((↑(List.length (List.map Req.pv l)) : Int) + 2)))) := ⟨_, rfl⟩
  rw [← hv0] at h49
  have hv1 : v0.length ≤ 10 := by rw [hv0, hK]; exact vl
  have hv2 : ¬ (↑(List.length (List.map Req.pv l)) : Int) > 198 → v0 = vb (l.length + 2) := by
    intro hn
    rw [em] at hn
    have hn2 : ((l.length : Int) + 2).toNat = l.length + 2 := by omega
    rw [hv0, hK, if_neg (by omega), hn2]
  clear hv0
  have fin : ∀ b : List UInt8, firstE l = 0 → b = v0 ++ txts l → ¬ (↑(List.length (List.map Req.pv l)) : Int) > 198 →
      b.length ≤ 1000000 ∧ cs (ev X E0) 46 [AV.s (b ++ tb wrong ++ more)] = some (.tup [AV.c (CV.pv (PV.sl .nil 0 [])), AV.i (decE wrong)]) := by
    intro b h0 hb hn
    have hv := hv2 hn
    rw [em] at hn
    have p2 := firstE_all h0
    have a := txts_len hg p2
    have tbl := tb_len (s := wrong) (by omega)
    rw [hv] at hb
    have vl2 := vb_small (n := l.length + 2) (by omega)
    have hbl : b.length ≤ 600000 := by rw [hb, List.length_append]; omega
    have e1 : tkC (b ++ tb wrong ++ more) = (l.length + 2, txts l ++ (tb wrong ++ more), 0) := by
      rw [hb, List.append_assoc, List.append_assoc]; exact tkC_put (by omega) _
    have e2 : (tkR (b ++ tb wrong ++ more)).1 = decE wrong := by
      unfold tkR; rw [e1]
      exact tk_wrong l 1 wrong more hg p2 (by omega) hd
    have e3 : takeE (b ++ tb wrong ++ more) = decE wrong := by unfold takeE; rw [e2, if_pos hd]
    have := s46e (s := b ++ tb wrong ++ more) (by rw [List.length_append, List.length_append]; omega) (by rw [e3]; exact hd)
    rw [e3] at this
    exact ⟨by omega, this⟩
  cases hll : l with
  | nil =>
    subst hll
    have hl := l11x_1 [] o wrong more v0 (decE wrong) 0 (by simp)
    obtain ⟨f1, f2⟩ := fin v0 rfl (by rw [txts, List.append_nil]) (by simp)
    exact f11a_1 [] o wrong more _ _ _ h1 alive c1 c2 c3 h45 hd h49 hl (by simp) f2 (by omega) (by omega) (by have := tb_len (s := wrong) (by omega); rw [List.length_append]; omega) rfl
  | cons y r =>
    have gy := hg y (by rw [hll]; simp)
    have h38 := s38g gy
    by_cases c : chk y = 0
    · rw [encV, if_pos c, c] at h38
      have hel := enc_len (chk_fine c) gy.typ
      have htb := tb_len (s := enc y) (by omega)
      have st := l11a_2 l o wrong more v0 _ (decE wrong) _ 0 y (by rw [hll]; rfl) (by rw [hll]; simp) h38 alive rfl (by omega) (by omega)
      rw [show IntKind.wrap .i64 (((0 : Nat) : Int) + 1) = (([y].length : Nat) : Int) by rfl] at st
      rcases a11 (o := o) (wrong := wrong) (more := more) (w := decE wrong) (by omega) hg r [y] (v0 ++ tb (enc y)) hll (by rw [List.length_append, List.length_singleton]; omega) with ⟨h0, h2⟩ | ⟨b', z, h2⟩
      · have hfe : firstE l = 0 := by rw [hll, firstE, if_pos c]; exact h0
        rw [← hll]
        by_cases hn : (↑(List.length (List.map Req.pv l)) : Int) > 198
        · exact f11bn_1 l o wrong more _ _ _ h1 alive c1 c2 c3 h45 hd h49 (st.trans h2) hn
        · obtain ⟨f1, f2⟩ := fin (v0 ++ tb (enc y) ++ txts r) hfe (by rw [hll, txts, List.append_assoc]) hn
          exact f11b_1 l o wrong more _ _ _ h1 alive c1 c2 c3 h45 hd h49 (st.trans h2) hn f2 (by omega) (by omega) (by have := tb_len (s := wrong) (by omega); rw [List.length_append]; omega) rfl
      · rw [← hll]; exact f11br_1 l o wrong more z _ _ _ h1 alive c1 c2 c3 h45 hd h49 (st.trans h2)
    · have st := l11a_1 l o wrong more v0 _ (decE wrong) _ 0 y (by rw [hll]; rfl) (by rw [hll]; simp) h38 alive c
      rw [← hll]; exact f11ar_1 l o wrong more y _ _ _ h1 alive c1 c2 c3 h45 hd h49 st
theorem ScriptFaults (x0 : PV) (t0 : WT (.sl ctR) x0) (x1 : PV) (t1 : WT .str x1) (x2 : PV) (t2 : WT .str x2) : ev X E0 11 [.c (.pv x0), .c (.pv x1), .c (.pv x2)] [] = some (.b true, []) := by
  obtain ⟨o, l, rfl, hl, ho⟩ := reqs_inv t0
  obtain ⟨s, rfl, _⟩ := str_inv t1
  obtain ⟨m, rfl, _⟩ := str_inv t2
  exact ev_cc (ScriptFaults0 l o s m hl)
end Go.Sx.Tryd
