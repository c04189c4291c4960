/- TopTaken: paths of the whole. -/
import Derived.Test.YtggopflifieoiaaDoorW4
namespace Go.Sx.Tryd
open Go Go.Sx
theorem tl6x_1 (x0 x : Hd) (o : SO) (tk : List Int) (last now : Int) (bo : SO) (bz : Nat) (b : List Post) (i : Nat) (hi : ¬(↑i : Int) < (↑(List.length (List.map u16P tk)) : Int)) :
    lv (cv (ev X E0) xf6_l0) (rl [1, 0, 0, 3, 1, 0, 0]) 2 (TS6 x0 o tk last x bo bz b now (↑i : Int)) = some (XExit.exit 0, St.mk (tmOf 188 []) [.cells [vi (Hd.id x0), vi (Hd.acc x0), vi (Hd.cur x0), vi (Hd.minor x0), vi (Hd.rank x0), vw (Hd.made x0), vw (Hd.till x0), vi (Hd.taken x0), .pv (.bool (Hd.done x0))], .cells [.pv (.sl bo bz (List.map Post.pv b))]]) :=
  lv_exit [.br false]
    (c := [decide ((↑i : Int) < (↑(List.length (List.map u16P tk)) : Int)) = false]) (by kernel_rfl)
    ⟨(dF hi), trivial⟩
theorem tg6a_1 (x : Hd) (o : SO) (tk : List Int) (last e : Int) (he : ¬e = 0) (h25 : cc (ev X E0) 25 [AV.sl SO.nil 0 [], Hd.av x] [] = some (AV.tup [AV.c (.pv (.sl SO.nil 0 [])), AV.i e], [])) (h20 : cc (ev X E0) (20 : Nat) [] [] = some (AV.b true, [])) :
    cc (ev X E0) 6 [AV.agg [vi (Hd.id x), vi (Hd.acc x), vi (Hd.cur x), vi (Hd.minor x), vi (Hd.rank x), vw (Hd.made x), vw (Hd.till x), vi (Hd.taken x), .pv (.bool (Hd.done x))], AV.c (.pv (.sl o 1 (List.map u16P tk))), AV.c (.pv (.int .u8 last))] [] = some (AV.c (.pv (.bool ((e != 0) == true))), []) :=
  cc_path (x := xf6) rfl ([.call (AV.tup [AV.c (.pv (.sl SO.nil 0 [])), AV.c (vi e)]) []] ++ bs 9 true ++ [.call (AV.c (.pv (.bool true))) []] ++ bs 7 true)
    (c := rq [ty h25, (4, (e != 0) = true), (5, true = true), ty h20, (7, true = true)]) (by kernel_rfl)
    (aq ⟨h25, (bne_iff_ne.mpr he), rfl, h20, rfl, trivial⟩)
theorem tg6b_1 (x : Hd) (o : SO) (tk : List Int) (last : Int) (h25 : cc (ev X E0) 25 [AV.sl SO.nil 0 [], Hd.av x] [] = some (AV.tup [AV.c (.pv (.sl SO.shut 9 [Hd.pv x])), AV.i 0], [])) (hl : (↑(List.length (List.map u16P tk)) : Int) > 30) (h20 : cc (ev X E0) (20 : Nat) [] [] = some (AV.b true, [])) :
    cc (ev X E0) 6 [AV.agg [vi (Hd.id x), vi (Hd.acc x), vi (Hd.cur x), vi (Hd.minor x), vi (Hd.rank x), vw (Hd.made x), vw (Hd.till x), vi (Hd.taken x), .pv (.bool (Hd.done x))], AV.c (.pv (.sl o 1 (List.map u16P tk))), AV.c (.pv (.int .u8 last))] [] = some (AV.c (.pv (.bool true)), []) :=
  cc_path (x := xf6) rfl ([.call (AV.tup [AV.c (.pv (.sl SO.shut 9 [PV.agg [PV.int .i64 (Hd.id x), .int .i64 (Hd.acc x), .int .i64 (Hd.cur x), .int .i64 (Hd.minor x), .int .i64 (Hd.rank x), .int .i32 (Hd.made x), .int .i32 (Hd.till x), .int .i64 (Hd.taken x), .bool (Hd.done x)]])), AV.c (vi 0)]) []] ++ bs 4 false ++ bs 5 true ++ [.call (AV.c (.pv (.bool true))) []] ++ bs 7 true)
    (c := rq [ty h25, (4, false = false), (4, decide ((↑(List.length (List.map u16P tk)) : Int) > 30) = true), (1, true = true), ty h20, (7, true = true)]) (by kernel_rfl)
    (aq ⟨h25, rfl, (dT hl), rfl, h20, rfl, trivial⟩)
theorem tg6c_1 (x : Hd) (o : SO) (tk : List Int) (last : Int) (h25 : cc (ev X E0) 25 [AV.sl SO.nil 0 [], Hd.av x] [] = some (AV.tup [AV.c (.pv (.sl SO.shut 9 [Hd.pv x])), AV.i 0], [])) (hl : ¬(↑(List.length (List.map u16P tk)) : Int) > 30) (h5 : Hd.acc x = 500) (h20 : cc (ev X E0) (20 : Nat) [] [] = some (AV.b true, [])) :
    cc (ev X E0) 6 [AV.agg [vi (Hd.id x), vi (Hd.acc x), vi (Hd.cur x), vi (Hd.minor x), vi (Hd.rank x), vw (Hd.made x), vw (Hd.till x), vi (Hd.taken x), .pv (.bool (Hd.done x))], AV.c (.pv (.sl o 1 (List.map u16P tk))), AV.c (.pv (.int .u8 last))] [] = some (AV.c (.pv (.bool true)), []) :=
  cc_path (x := xf6) rfl ([.call (AV.tup [AV.c (.pv (.sl SO.shut 9 [PV.agg [PV.int .i64 (Hd.id x), .int .i64 (Hd.acc x), .int .i64 (Hd.cur x), .int .i64 (Hd.minor x), .int .i64 (Hd.rank x), .int .i32 (Hd.made x), .int .i32 (Hd.till x), .int .i64 (Hd.taken x), .bool (Hd.done x)]])), AV.c (vi 0)]) []] ++ bs 8 false ++ [.br true, .call (AV.c (.pv (.bool true))) []] ++ bs 7 true)
    (c := rq [ty h25, (4, false = false), (4, decide ((↑(List.length (List.map u16P tk)) : Int) > 30) = false), (1, (Hd.acc x == 500) = true), ty h20, (7, true = true)]) (by kernel_rfl)
    (aq ⟨h25, rfl, (dF hl), (beq_iff_eq.mpr h5), h20, rfl, trivial⟩)
theorem tg6d_1 (x : Hd) (o : SO) (tk : List Int) (last : Int) (bo : SO) (bz : Nat) (b : List Post) (h25 : cc (ev X E0) 25 [AV.sl SO.nil 0 [], Hd.av x] [] = some (AV.tup [AV.c (.pv (.sl SO.shut 9 [Hd.pv x])), AV.i 0], [])) (hl : ¬(↑(List.length (List.map u16P tk)) : Int) > 30) (h5 : ¬Hd.acc x = 500) (h20 : cc (ev X E0) (20 : Nat) [] [] = some (AV.b true, [])) (hlp : lv (cv (ev X E0) xf6_l0) (rl [1, 0, 0, 3, 1, 0, 0]) 2 (TS6 x o tk last x SO.nil 0 [] (Hd.made x) 0) = some (XExit.exit 0, St.mk (tmOf 188 []) [.cells (Hd.cs x), .cells [.pv (.sl bo bz (List.map Post.pv b))]])) :
    cc (ev X E0) 6 [AV.agg [vi (Hd.id x), vi (Hd.acc x), vi (Hd.cur x), vi (Hd.minor x), vi (Hd.rank x), vw (Hd.made x), vw (Hd.till x), vi (Hd.taken x), .pv (.bool (Hd.done x))], AV.c (.pv (.sl o 1 (List.map u16P tk))), AV.c (.pv (.int .u8 last))] [] = some (AV.c (.pv (.bool true)), []) :=
  cc_path (x := xf6) rfl ([.call (AV.tup [AV.c (.pv (.sl SO.shut 9 [PV.agg [PV.int .i64 (Hd.id x), .int .i64 (Hd.acc x), .int .i64 (Hd.cur x), .int .i64 (Hd.minor x), .int .i64 (Hd.rank x), .int .i32 (Hd.made x), .int .i32 (Hd.till x), .int .i64 (Hd.taken x), .bool (Hd.done x)]])), AV.c (vi 0)]) []] ++ bs 9 false ++ [.loop (XExit.exit 0) (St.mk (tmOf 188 []) [.cells [vi (Hd.id x), vi (Hd.acc x), vi (Hd.cur x), vi (Hd.minor x), vi (Hd.rank x), vw (Hd.made x), vw (Hd.till x), vi (Hd.taken x), .pv (.bool (Hd.done x))], .cells [.pv (.sl bo bz (List.map Post.pv b))]]), .call (AV.c (.pv (.bool true))) []])
    (c := rq [ty h25, (4, false = false), (4, decide ((↑(List.length (List.map u16P tk)) : Int) > 30) = false), (1, (Hd.acc x == 500) = false), ty hlp, ty h20]) (by kernel_rfl)
    (aq ⟨h25, rfl, (dF hl), (beq_eq_false_iff_ne.mpr h5), hlp, h20, trivial⟩)
end Go.Sx.Tryd
