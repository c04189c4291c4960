/- Holds. -/
import Derived.Test.YtggopflifieoiaaDoorK2
import Derived.Test.YtggopflifieoiaaDoorG0
namespace Go.Sx.Tryd
open Go Go.Sx
structure Hd where
  id : Int
  acc : Int
  cur : Int
  minor : Int
  rank : Int
  made : Int
  till : Int
  taken : Int
  done : Bool
abbrev Hd.pv (x : Hd) : PV := .agg [.int .i64 x.id, .int .i64 x.acc, .int .i64 x.cur, .int .i64 x.minor, .int .i64 x.rank, .int .i32 x.made, .int .i32 x.till, .int .i64 x.taken, .bool x.done]
abbrev Hd.cs (x : Hd) : List CV := [.pv (.int .i64 x.id), .pv (.int .i64 x.acc), .pv (.int .i64 x.cur), .pv (.int .i64 x.minor), .pv (.int .i64 x.rank), .pv (.int .i32 x.made), .pv (.int .i32 x.till), .pv (.int .i64 x.taken), .pv (.bool x.done)]
abbrev Hd.av (x : Hd) : AV := .agg [.pv (.int .i64 x.id), .pv (.int .i64 x.acc), .pv (.int .i64 x.cur), .pv (.int .i64 x.minor), .pv (.int .i64 x.rank), .pv (.int .i32 x.made), .pv (.int .i32 x.till), .pv (.int .i64 x.taken), .pv (.bool x.done)]
theorem tg70_1 (x : Hd) (b : Bool) (h : cc (ev X E0) 30 [AV.agg [vi (Hd.cur x), vi (Hd.minor x)]] [] = some (AV.b b, [])) (g1 : Hd.id x ≥ 1) (g2 : Hd.id x ≤ 1000000) (g3 : Hd.acc x ≥ 1) (g4 : Hd.acc x ≤ 999) (g5 : Hd.rank x ≥ 0) (g6 : b = true) (g7 : Hd.minor x > 0) (g8 : Hd.taken x ≥ 0) (g9 : Hd.rank x ≤ 9) (g10 : Hd.taken x ≤ Hd.minor x) (g11 : datOk (Hd.made x) = true) (g12 : datOk (Hd.till x) = true) :
    cc (ev X E0) 70 [AV.agg [vi (Hd.id x), vi (Hd.acc x), vi (Hd.cur x), vi (Hd.minor x), vi (Hd.rank x), vw (Hd.made x), vw (Hd.till x), vi (Hd.taken x), .pv (.bool (Hd.done x))]] [] = some (AV.c (.pv (.bool (decide (Hd.made x ≤ Hd.till x)))), []) :=
  cc_path (x := xf70) rfl (bs 20 true ++ [.call (AV.c (.pv (.bool b))) []] ++ bs 21 true ++ [.call (AV.c (.pv (.bool (datOk (Hd.made x))))) []] ++ bs 4 true ++ [.call (AV.c (.pv (.bool (datOk (Hd.till x))))) []] ++ bs 7 true)
    (c := rq [(4, decide (Hd.id x ≥ 1) = true), (4, decide (Hd.id x ≤ 1000000) = true), (4, decide (Hd.acc x ≥ 1) = true), (4, decide (Hd.acc x ≤ 999) = true), (4, decide (Hd.rank x ≥ 0) = true), ty h, (5, b = true), (4, decide (Hd.minor x > 0) = true), (7, decide (Hd.taken x ≥ 0) = true), (2, decide (Hd.rank x ≤ 9) = true), (3, decide (Hd.taken x ≤ Hd.minor x) = true), (1, cc (ev X E0) 53 [AV.c (vw (Hd.made x))] [] = some (AV.c (.pv (.bool (datOk (Hd.made x)))), [])), (1, decide (Hd.taken x ≤ Hd.minor x) = true), (3, type_of% g11), (1, cc (ev X E0) 53 [AV.c (vw (Hd.till x))] [] = some (AV.c (.pv (.bool (datOk (Hd.till x)))), [])), ty g11, (6, type_of% g12)]) (by kernel_rfl)
    (aq ⟨(dT g1), (dT g2), (dT g3), (dT g4), (dT g5), h, g6, (dT g7), (dT g8), (dT g9), (dT g10), (s77 _), (dT g10), g11, (s77 _), g11, g12, trivial⟩)
theorem tg70_2 (x : Hd) (b : Bool) (h : cc (ev X E0) 30 [AV.agg [vi (Hd.cur x), vi (Hd.minor x)]] [] = some (AV.b b, [])) (g1 : Hd.id x ≥ 1) (g2 : Hd.id x ≤ 1000000) (g3 : Hd.acc x ≥ 1) (g4 : Hd.acc x ≤ 999) (g5 : Hd.rank x ≥ 0) (g6 : b = true) (g7 : Hd.minor x > 0) (g8 : Hd.taken x ≥ 0) (g9 : Hd.rank x ≤ 9) (g10 : Hd.taken x ≤ Hd.minor x) (g11 : datOk (Hd.made x) = true) (g12 : datOk (Hd.till x) = false) :
    cc (ev X E0) 70 [AV.agg [vi (Hd.id x), vi (Hd.acc x), vi (Hd.cur x), vi (Hd.minor x), vi (Hd.rank x), vw (Hd.made x), vw (Hd.till x), vi (Hd.taken x), .pv (.bool (Hd.done x))]] [] = some (AV.c (.pv (.bool false)), []) :=
  cc_path (x := xf70) rfl (bs 20 true ++ [.call (AV.c (.pv (.bool b))) []] ++ bs 21 true ++ [.call (AV.c (.pv (.bool (datOk (Hd.made x))))) []] ++ bs 4 true ++ [.call (AV.c (.pv (.bool (datOk (Hd.till x))))) [], .br true] ++ bs 6 false)
    (c := rq [(4, decide (Hd.id x ≥ 1) = true), (4, decide (Hd.id x ≤ 1000000) = true), (4, decide (Hd.acc x ≥ 1) = true), (4, decide (Hd.acc x ≤ 999) = true), (4, decide (Hd.rank x ≥ 0) = true), ty h, (5, b = true), (4, decide (Hd.minor x > 0) = true), (7, decide (Hd.taken x ≥ 0) = true), (2, decide (Hd.rank x ≤ 9) = true), (3, decide (Hd.taken x ≤ Hd.minor x) = true), (1, cc (ev X E0) 53 [AV.c (vw (Hd.made x))] [] = some (AV.c (.pv (.bool (datOk (Hd.made x)))), [])), (1, decide (Hd.taken x ≤ Hd.minor x) = true), (3, type_of% g11), (1, cc (ev X E0) 53 [AV.c (vw (Hd.till x))] [] = some (AV.c (.pv (.bool (datOk (Hd.till x)))), [])), ty g11, (6, type_of% g12)]) (by kernel_rfl)
    (aq ⟨(dT g1), (dT g2), (dT g3), (dT g4), (dT g5), h, g6, (dT g7), (dT g8), (dT g9), (dT g10), (s77 _), (dT g10), g11, (s77 _), g11, g12, trivial⟩)
theorem tg70_3 (x : Hd) (b : Bool) (h : cc (ev X E0) 30 [AV.agg [vi (Hd.cur x), vi (Hd.minor x)]] [] = some (AV.b b, [])) (g1 : Hd.id x ≥ 1) (g2 : Hd.id x ≤ 1000000) (g3 : Hd.acc x ≥ 1) (g4 : Hd.acc x ≤ 999) (g5 : Hd.rank x ≥ 0) (g6 : b = true) (g7 : Hd.minor x > 0) (g8 : Hd.taken x ≥ 0) (g9 : Hd.rank x ≤ 9) (g10 : Hd.taken x ≤ Hd.minor x) (g11 : datOk (Hd.made x) = false) :
    cc (ev X E0) 70 [AV.agg [vi (Hd.id x), vi (Hd.acc x), vi (Hd.cur x), vi (Hd.minor x), vi (Hd.rank x), vw (Hd.made x), vw (Hd.till x), vi (Hd.taken x), .pv (.bool (Hd.done x))]] [] = some (AV.c (.pv (.bool false)), []) :=
  cc_path (x := xf70) rfl (bs 20 true ++ [.call (AV.c (.pv (.bool b))) []] ++ bs 21 true ++ [.call (AV.c (.pv (.bool (datOk (Hd.made x))))) [], .br true] ++ bs 10 false)
    (c := rq [(4, decide (Hd.id x ≥ 1) = true), (4, decide (Hd.id x ≤ 1000000) = true), (4, decide (Hd.acc x ≥ 1) = true), (4, decide (Hd.acc x ≤ 999) = true), (4, decide (Hd.rank x ≥ 0) = true), ty h, (5, b = true), (4, decide (Hd.minor x > 0) = true), (7, decide (Hd.taken x ≥ 0) = true), (2, decide (Hd.rank x ≤ 9) = true), (3, decide (Hd.taken x ≤ Hd.minor x) = true), (1, cc (ev X E0) 53 [AV.c (vw (Hd.made x))] [] = some (AV.c (.pv (.bool (datOk (Hd.made x)))), [])), (1, decide (Hd.taken x ≤ Hd.minor x) = true), (4, type_of% g11), (6, false = false)]) (by kernel_rfl)
    (aq ⟨(dT g1), (dT g2), (dT g3), (dT g4), (dT g5), h, g6, (dT g7), (dT g8), (dT g9), (dT g10), (s77 _), (dT g10), g11, rfl, trivial⟩)
theorem tg70_4 (x : Hd) (b : Bool) (h : cc (ev X E0) 30 [AV.agg [vi (Hd.cur x), vi (Hd.minor x)]] [] = some (AV.b b, [])) (g1 : Hd.id x ≥ 1) (g2 : Hd.id x ≤ 1000000) (g3 : Hd.acc x ≥ 1) (g4 : Hd.acc x ≤ 999) (g5 : Hd.rank x ≥ 0) (g6 : b = true) (g7 : Hd.minor x > 0) (g8 : Hd.taken x ≥ 0) (g9 : Hd.rank x ≤ 9) (g10 : ¬Hd.taken x ≤ Hd.minor x) :
    cc (ev X E0) 70 [AV.agg [vi (Hd.id x), vi (Hd.acc x), vi (Hd.cur x), vi (Hd.minor x), vi (Hd.rank x), vw (Hd.made x), vw (Hd.till x), vi (Hd.taken x), .pv (.bool (Hd.done x))]] [] = some (AV.c (.pv (.bool false)), []) :=
  cc_path (x := xf70) rfl (bs 20 true ++ [.call (AV.c (.pv (.bool b))) []] ++ bs 18 true ++ bs 14 false)
    (c := rq [(4, decide (Hd.id x ≥ 1) = true), (4, decide (Hd.id x ≤ 1000000) = true), (4, decide (Hd.acc x ≥ 1) = true), (4, decide (Hd.acc x ≤ 999) = true), (4, decide (Hd.rank x ≥ 0) = true), ty h, (5, b = true), (4, decide (Hd.minor x > 0) = true), (7, decide (Hd.taken x ≥ 0) = true), (2, decide (Hd.rank x ≤ 9) = true), (4, decide (Hd.taken x ≤ Hd.minor x) = false), (10, false = false)]) (by kernel_rfl)
    (aq ⟨(dT g1), (dT g2), (dT g3), (dT g4), (dT g5), h, g6, (dT g7), (dT g8), (dT g9), (dF g10), rfl, trivial⟩)
theorem tg70_5 (x : Hd) (b : Bool) (h : cc (ev X E0) 30 [AV.agg [vi (Hd.cur x), vi (Hd.minor x)]] [] = some (AV.b b, [])) (g1 : Hd.id x ≥ 1) (g2 : Hd.id x ≤ 1000000) (g3 : Hd.acc x ≥ 1) (g4 : Hd.acc x ≤ 999) (g5 : Hd.rank x ≥ 0) (g6 : b = true) (g7 : Hd.minor x > 0) (g8 : Hd.taken x ≥ 0) (g9 : ¬Hd.rank x ≤ 9) :
    cc (ev X E0) 70 [AV.agg [vi (Hd.id x), vi (Hd.acc x), vi (Hd.cur x), vi (Hd.minor x), vi (Hd.rank x), vw (Hd.made x), vw (Hd.till x), vi (Hd.taken x), .pv (.bool (Hd.done x))]] [] = some (AV.c (.pv (.bool false)), []) :=
  cc_path (x := xf70) rfl (bs 20 true ++ [.call (AV.c (.pv (.bool b))) []] ++ bs 16 true ++ bs 16 false)
    (c := rq [(4, decide (Hd.id x ≥ 1) = true), (4, decide (Hd.id x ≤ 1000000) = true), (4, decide (Hd.acc x ≥ 1) = true), (4, decide (Hd.acc x ≤ 999) = true), (4, decide (Hd.rank x ≥ 0) = true), ty h, (5, b = true), (4, decide (Hd.minor x > 0) = true), (7, decide (Hd.taken x ≥ 0) = true), (2, decide (Hd.rank x ≤ 9) = false), (14, false = false)]) (by kernel_rfl)
    (aq ⟨(dT g1), (dT g2), (dT g3), (dT g4), (dT g5), h, g6, (dT g7), (dT g8), (dF g9), rfl, trivial⟩)
theorem tg70_6 (x : Hd) (b : Bool) (h : cc (ev X E0) 30 [AV.agg [vi (Hd.cur x), vi (Hd.minor x)]] [] = some (AV.b b, [])) (g1 : Hd.id x ≥ 1) (g2 : Hd.id x ≤ 1000000) (g3 : Hd.acc x ≥ 1) (g4 : Hd.acc x ≤ 999) (g5 : Hd.rank x ≥ 0) (g6 : b = true) (g7 : Hd.minor x > 0) (g8 : ¬Hd.taken x ≥ 0) (g9 : Hd.rank x ≤ 9) :
    cc (ev X E0) 70 [AV.agg [vi (Hd.id x), vi (Hd.acc x), vi (Hd.cur x), vi (Hd.minor x), vi (Hd.rank x), vw (Hd.made x), vw (Hd.till x), vi (Hd.taken x), .pv (.bool (Hd.done x))]] [] = some (AV.c (.pv (.bool false)), []) :=
  cc_path (x := xf70) rfl (bs 20 true ++ [.call (AV.c (.pv (.bool b))) []] ++ bs 9 true ++ bs 7 false ++ [.br true, .br true] ++ bs 14 false)
    (c := rq [(4, decide (Hd.id x ≥ 1) = true), (4, decide (Hd.id x ≤ 1000000) = true), (4, decide (Hd.acc x ≥ 1) = true), (4, decide (Hd.acc x ≤ 999) = true), (4, decide (Hd.rank x ≥ 0) = true), ty h, (5, b = true), (4, decide (Hd.minor x > 0) = true), (7, decide (Hd.taken x ≥ 0) = false), (2, decide (Hd.rank x ≤ 9) = true), (14, false = false)]) (by kernel_rfl)
    (aq ⟨(dT g1), (dT g2), (dT g3), (dT g4), (dT g5), h, g6, (dT g7), (dF g8), (dT g9), rfl, trivial⟩)
theorem tg70_7 (x : Hd) (b : Bool) (h : cc (ev X E0) 30 [AV.agg [vi (Hd.cur x), vi (Hd.minor x)]] [] = some (AV.b b, [])) (g1 : Hd.id x ≥ 1) (g2 : Hd.id x ≤ 1000000) (g3 : Hd.acc x ≥ 1) (g4 : Hd.acc x ≤ 999) (g5 : Hd.rank x ≥ 0) (g6 : b = true) (g7 : Hd.minor x > 0) (g8 : ¬Hd.taken x ≥ 0) (g9 : ¬Hd.rank x ≤ 9) :
    cc (ev X E0) 70 [AV.agg [vi (Hd.id x), vi (Hd.acc x), vi (Hd.cur x), vi (Hd.minor x), vi (Hd.rank x), vw (Hd.made x), vw (Hd.till x), vi (Hd.taken x), .pv (.bool (Hd.done x))]] [] = some (AV.c (.pv (.bool false)), []) :=
  cc_path (x := xf70) rfl (bs 20 true ++ [.call (AV.c (.pv (.bool b))) []] ++ bs 9 true ++ bs 23 false)
    (c := rq [(4, decide (Hd.id x ≥ 1) = true), (4, decide (Hd.id x ≤ 1000000) = true), (4, decide (Hd.acc x ≥ 1) = true), (4, decide (Hd.acc x ≤ 999) = true), (4, decide (Hd.rank x ≥ 0) = true), ty h, (5, b = true), (4, decide (Hd.minor x > 0) = true), (7, decide (Hd.taken x ≥ 0) = false), (2, decide (Hd.rank x ≤ 9) = false), (14, false = false)]) (by kernel_rfl)
    (aq ⟨(dT g1), (dT g2), (dT g3), (dT g4), (dT g5), h, g6, (dT g7), (dF g8), (dF g9), rfl, trivial⟩)
theorem tg70_8 (x : Hd) (b : Bool) (h : cc (ev X E0) 30 [AV.agg [vi (Hd.cur x), vi (Hd.minor x)]] [] = some (AV.b b, [])) (g1 : Hd.id x ≥ 1) (g2 : Hd.id x ≤ 1000000) (g3 : Hd.acc x ≥ 1) (g4 : Hd.acc x ≤ 999) (g5 : Hd.rank x ≥ 0) (g6 : b = true) (g7 : ¬Hd.minor x > 0) (g8 : Hd.rank x ≤ 9) :
    cc (ev X E0) 70 [AV.agg [vi (Hd.id x), vi (Hd.acc x), vi (Hd.cur x), vi (Hd.minor x), vi (Hd.rank x), vw (Hd.made x), vw (Hd.till x), vi (Hd.taken x), .pv (.bool (Hd.done x))]] [] = some (AV.c (.pv (.bool false)), []) :=
  cc_path (x := xf70) rfl (bs 20 true ++ [.call (AV.c (.pv (.bool b))) []] ++ bs 5 true ++ bs 11 false ++ [.br true, .br true] ++ bs 14 false)
    (c := rq [(4, decide (Hd.id x ≥ 1) = true), (4, decide (Hd.id x ≤ 1000000) = true), (4, decide (Hd.acc x ≥ 1) = true), (4, decide (Hd.acc x ≤ 999) = true), (4, decide (Hd.rank x ≥ 0) = true), ty h, (5, b = true), (4, decide (Hd.minor x > 0) = false), (7, false = false), (2, decide (Hd.rank x ≤ 9) = true), (14, false = false)]) (by kernel_rfl)
    (aq ⟨(dT g1), (dT g2), (dT g3), (dT g4), (dT g5), h, g6, (dF g7), rfl, (dT g8), rfl, trivial⟩)
theorem tg70_9 (x : Hd) (b : Bool) (h : cc (ev X E0) 30 [AV.agg [vi (Hd.cur x), vi (Hd.minor x)]] [] = some (AV.b b, [])) (g1 : Hd.id x ≥ 1) (g2 : Hd.id x ≤ 1000000) (g3 : Hd.acc x ≥ 1) (g4 : Hd.acc x ≤ 999) (g5 : Hd.rank x ≥ 0) (g6 : b = true) (g7 : ¬Hd.minor x > 0) (g8 : ¬Hd.rank x ≤ 9) :
    cc (ev X E0) 70 [AV.agg [vi (Hd.id x), vi (Hd.acc x), vi (Hd.cur x), vi (Hd.minor x), vi (Hd.rank x), vw (Hd.made x), vw (Hd.till x), vi (Hd.taken x), .pv (.bool (Hd.done x))]] [] = some (AV.c (.pv (.bool false)), []) :=
  cc_path (x := xf70) rfl (bs 20 true ++ [.call (AV.c (.pv (.bool b))) []] ++ bs 5 true ++ bs 27 false)
    (c := rq [(4, decide (Hd.id x ≥ 1) = true), (4, decide (Hd.id x ≤ 1000000) = true), (4, decide (Hd.acc x ≥ 1) = true), (4, decide (Hd.acc x ≤ 999) = true), (4, decide (Hd.rank x ≥ 0) = true), ty h, (5, b = true), (4, decide (Hd.minor x > 0) = false), (7, false = false), (2, decide (Hd.rank x ≤ 9) = false), (14, false = false)]) (by kernel_rfl)
    (aq ⟨(dT g1), (dT g2), (dT g3), (dT g4), (dT g5), h, g6, (dF g7), rfl, (dF g8), rfl, trivial⟩)
theorem tg70_10 (x : Hd) (b : Bool) (h : cc (ev X E0) 30 [AV.agg [vi (Hd.cur x), vi (Hd.minor x)]] [] = some (AV.b b, [])) (g1 : Hd.id x ≥ 1) (g2 : Hd.id x ≤ 1000000) (g3 : Hd.acc x ≥ 1) (g4 : Hd.acc x ≤ 999) (g5 : Hd.rank x ≥ 0) (g6 : b = false) (g7 : Hd.rank x ≤ 9) :
    cc (ev X E0) 70 [AV.agg [vi (Hd.id x), vi (Hd.acc x), vi (Hd.cur x), vi (Hd.minor x), vi (Hd.rank x), vw (Hd.made x), vw (Hd.till x), vi (Hd.taken x), .pv (.bool (Hd.done x))]] [] = some (AV.c (.pv (.bool false)), []) :=
  cc_path (x := xf70) rfl (bs 20 true ++ [.call (AV.c (.pv (.bool b))) []] ++ bs 16 false ++ [.br true, .br true] ++ bs 14 false)
    (c := rq [(4, decide (Hd.id x ≥ 1) = true), (4, decide (Hd.id x ≤ 1000000) = true), (4, decide (Hd.acc x ≥ 1) = true), (4, decide (Hd.acc x ≤ 999) = true), (4, decide (Hd.rank x ≥ 0) = true), ty h, (5, b = false), (11, false = false), (2, decide (Hd.rank x ≤ 9) = true), (14, false = false)]) (by kernel_rfl)
    (aq ⟨(dT g1), (dT g2), (dT g3), (dT g4), (dT g5), h, g6, rfl, (dT g7), rfl, trivial⟩)
theorem tg70_11 (x : Hd) (b : Bool) (h : cc (ev X E0) 30 [AV.agg [vi (Hd.cur x), vi (Hd.minor x)]] [] = some (AV.b b, [])) (g1 : Hd.id x ≥ 1) (g2 : Hd.id x ≤ 1000000) (g3 : Hd.acc x ≥ 1) (g4 : Hd.acc x ≤ 999) (g5 : Hd.rank x ≥ 0) (g6 : b = false) (g7 : ¬Hd.rank x ≤ 9) :
    cc (ev X E0) 70 [AV.agg [vi (Hd.id x), vi (Hd.acc x), vi (Hd.cur x), vi (Hd.minor x), vi (Hd.rank x), vw (Hd.made x), vw (Hd.till x), vi (Hd.taken x), .pv (.bool (Hd.done x))]] [] = some (AV.c (.pv (.bool false)), []) :=
  cc_path (x := xf70) rfl (bs 20 true ++ [.call (AV.c (.pv (.bool b))) []] ++ bs 32 false)
    (c := rq [(4, decide (Hd.id x ≥ 1) = true), (4, decide (Hd.id x ≤ 1000000) = true), (4, decide (Hd.acc x ≥ 1) = true), (4, decide (Hd.acc x ≤ 999) = true), (4, decide (Hd.rank x ≥ 0) = true), ty h, (5, b = false), (11, false = false), (2, decide (Hd.rank x ≤ 9) = false), (14, false = false)]) (by kernel_rfl)
    (aq ⟨(dT g1), (dT g2), (dT g3), (dT g4), (dT g5), h, g6, rfl, (dF g7), rfl, trivial⟩)
theorem tg70_12 (x : Hd) (b : Bool) (h : cc (ev X E0) 30 [AV.agg [vi (Hd.cur x), vi (Hd.minor x)]] [] = some (AV.b b, [])) (g1 : Hd.id x ≥ 1) (g2 : Hd.id x ≤ 1000000) (g3 : Hd.acc x ≥ 1) (g4 : Hd.acc x ≤ 999) (g5 : ¬Hd.rank x ≥ 0) (g6 : b = true) (g7 : Hd.minor x > 0) (g8 : Hd.taken x ≥ 0) :
    cc (ev X E0) 70 [AV.agg [vi (Hd.id x), vi (Hd.acc x), vi (Hd.cur x), vi (Hd.minor x), vi (Hd.rank x), vw (Hd.made x), vw (Hd.till x), vi (Hd.taken x), .pv (.bool (Hd.done x))]] [] = some (AV.c (.pv (.bool false)), []) :=
  cc_path (x := xf70) rfl (bs 16 true ++ bs 4 false ++ [.call (AV.c (.pv (.bool b))) []] ++ bs 16 true ++ bs 16 false)
    (c := rq [(4, decide (Hd.id x ≥ 1) = true), (4, decide (Hd.id x ≤ 1000000) = true), (4, decide (Hd.acc x ≥ 1) = true), (4, decide (Hd.acc x ≤ 999) = true), (4, decide (Hd.rank x ≥ 0) = false), ty h, (5, b = true), (4, decide (Hd.minor x > 0) = true), (7, decide (Hd.taken x ≥ 0) = true), (16, false = false)]) (by kernel_rfl)
    (aq ⟨(dT g1), (dT g2), (dT g3), (dT g4), (dF g5), h, g6, (dT g7), (dT g8), rfl, trivial⟩)
theorem tg70_13 (x : Hd) (b : Bool) (h : cc (ev X E0) 30 [AV.agg [vi (Hd.cur x), vi (Hd.minor x)]] [] = some (AV.b b, [])) (g1 : Hd.id x ≥ 1) (g2 : Hd.id x ≤ 1000000) (g3 : Hd.acc x ≥ 1) (g4 : Hd.acc x ≤ 999) (g5 : ¬Hd.rank x ≥ 0) (g6 : b = true) (g7 : Hd.minor x > 0) (g8 : ¬Hd.taken x ≥ 0) :
    cc (ev X E0) 70 [AV.agg [vi (Hd.id x), vi (Hd.acc x), vi (Hd.cur x), vi (Hd.minor x), vi (Hd.rank x), vw (Hd.made x), vw (Hd.till x), vi (Hd.taken x), .pv (.bool (Hd.done x))]] [] = some (AV.c (.pv (.bool false)), []) :=
  cc_path (x := xf70) rfl (bs 16 true ++ bs 4 false ++ [.call (AV.c (.pv (.bool b))) []] ++ bs 9 true ++ bs 23 false)
    (c := rq [(4, decide (Hd.id x ≥ 1) = true), (4, decide (Hd.id x ≤ 1000000) = true), (4, decide (Hd.acc x ≥ 1) = true), (4, decide (Hd.acc x ≤ 999) = true), (4, decide (Hd.rank x ≥ 0) = false), ty h, (5, b = true), (4, decide (Hd.minor x > 0) = true), (7, decide (Hd.taken x ≥ 0) = false), (16, false = false)]) (by kernel_rfl)
    (aq ⟨(dT g1), (dT g2), (dT g3), (dT g4), (dF g5), h, g6, (dT g7), (dF g8), rfl, trivial⟩)
theorem tg70_14 (x : Hd) (b : Bool) (h : cc (ev X E0) 30 [AV.agg [vi (Hd.cur x), vi (Hd.minor x)]] [] = some (AV.b b, [])) (g1 : Hd.id x ≥ 1) (g2 : Hd.id x ≤ 1000000) (g3 : Hd.acc x ≥ 1) (g4 : Hd.acc x ≤ 999) (g5 : ¬Hd.rank x ≥ 0) (g6 : b = true) (g7 : ¬Hd.minor x > 0) :
    cc (ev X E0) 70 [AV.agg [vi (Hd.id x), vi (Hd.acc x), vi (Hd.cur x), vi (Hd.minor x), vi (Hd.rank x), vw (Hd.made x), vw (Hd.till x), vi (Hd.taken x), .pv (.bool (Hd.done x))]] [] = some (AV.c (.pv (.bool false)), []) :=
  cc_path (x := xf70) rfl (bs 16 true ++ bs 4 false ++ [.call (AV.c (.pv (.bool b))) []] ++ bs 5 true ++ bs 27 false)
    (c := rq [(4, decide (Hd.id x ≥ 1) = true), (4, decide (Hd.id x ≤ 1000000) = true), (4, decide (Hd.acc x ≥ 1) = true), (4, decide (Hd.acc x ≤ 999) = true), (4, decide (Hd.rank x ≥ 0) = false), ty h, (5, b = true), (4, decide (Hd.minor x > 0) = false), (23, false = false)]) (by kernel_rfl)
    (aq ⟨(dT g1), (dT g2), (dT g3), (dT g4), (dF g5), h, g6, (dF g7), rfl, trivial⟩)
theorem tg70_15 (x : Hd) (b : Bool) (h : cc (ev X E0) 30 [AV.agg [vi (Hd.cur x), vi (Hd.minor x)]] [] = some (AV.b b, [])) (g1 : Hd.id x ≥ 1) (g2 : Hd.id x ≤ 1000000) (g3 : Hd.acc x ≥ 1) (g4 : Hd.acc x ≤ 999) (g5 : ¬Hd.rank x ≥ 0) (g6 : b = false) :
    cc (ev X E0) 70 [AV.agg [vi (Hd.id x), vi (Hd.acc x), vi (Hd.cur x), vi (Hd.minor x), vi (Hd.rank x), vw (Hd.made x), vw (Hd.till x), vi (Hd.taken x), .pv (.bool (Hd.done x))]] [] = some (AV.c (.pv (.bool false)), []) :=
  cc_path (x := xf70) rfl (bs 16 true ++ bs 4 false ++ [.call (AV.c (.pv (.bool b))) []] ++ bs 32 false)
    (c := rq [(4, decide (Hd.id x ≥ 1) = true), (4, decide (Hd.id x ≤ 1000000) = true), (4, decide (Hd.acc x ≥ 1) = true), (4, decide (Hd.acc x ≤ 999) = true), (4, decide (Hd.rank x ≥ 0) = false), ty h, (5, b = false), (27, false = false)]) (by kernel_rfl)
    (aq ⟨(dT g1), (dT g2), (dT g3), (dT g4), (dF g5), h, g6, rfl, trivial⟩)
theorem tg70_16 (x : Hd) (b : Bool) (h : cc (ev X E0) 30 [AV.agg [vi (Hd.cur x), vi (Hd.minor x)]] [] = some (AV.b b, [])) (g1 : Hd.id x ≥ 1) (g2 : Hd.id x ≤ 1000000) (g3 : Hd.acc x ≥ 1) (g4 : ¬Hd.acc x ≤ 999) (g5 : b = true) (g6 : Hd.minor x > 0) (g7 : Hd.taken x ≥ 0) :
    cc (ev X E0) 70 [AV.agg [vi (Hd.id x), vi (Hd.acc x), vi (Hd.cur x), vi (Hd.minor x), vi (Hd.rank x), vw (Hd.made x), vw (Hd.till x), vi (Hd.taken x), .pv (.bool (Hd.done x))]] [] = some (AV.c (.pv (.bool false)), []) :=
  cc_path (x := xf70) rfl (bs 12 true ++ bs 8 false ++ [.call (AV.c (.pv (.bool b))) []] ++ bs 16 true ++ bs 16 false)
    (c := rq [(4, decide (Hd.id x ≥ 1) = true), (4, decide (Hd.id x ≤ 1000000) = true), (4, decide (Hd.acc x ≥ 1) = true), (4, decide (Hd.acc x ≤ 999) = false), (4, false = false), ty h, (5, b = true), (4, decide (Hd.minor x > 0) = true), (7, decide (Hd.taken x ≥ 0) = true), (16, false = false)]) (by kernel_rfl)
    (aq ⟨(dT g1), (dT g2), (dT g3), (dF g4), rfl, h, g5, (dT g6), (dT g7), rfl, trivial⟩)
theorem tg70_17 (x : Hd) (b : Bool) (h : cc (ev X E0) 30 [AV.agg [vi (Hd.cur x), vi (Hd.minor x)]] [] = some (AV.b b, [])) (g1 : Hd.id x ≥ 1) (g2 : Hd.id x ≤ 1000000) (g3 : Hd.acc x ≥ 1) (g4 : ¬Hd.acc x ≤ 999) (g5 : b = true) (g6 : Hd.minor x > 0) (g7 : ¬Hd.taken x ≥ 0) :
    cc (ev X E0) 70 [AV.agg [vi (Hd.id x), vi (Hd.acc x), vi (Hd.cur x), vi (Hd.minor x), vi (Hd.rank x), vw (Hd.made x), vw (Hd.till x), vi (Hd.taken x), .pv (.bool (Hd.done x))]] [] = some (AV.c (.pv (.bool false)), []) :=
  cc_path (x := xf70) rfl (bs 12 true ++ bs 8 false ++ [.call (AV.c (.pv (.bool b))) []] ++ bs 9 true ++ bs 23 false)
    (c := rq [(4, decide (Hd.id x ≥ 1) = true), (4, decide (Hd.id x ≤ 1000000) = true), (4, decide (Hd.acc x ≥ 1) = true), (4, decide (Hd.acc x ≤ 999) = false), (4, false = false), ty h, (5, b = true), (4, decide (Hd.minor x > 0) = true), (7, decide (Hd.taken x ≥ 0) = false), (16, false = false)]) (by kernel_rfl)
    (aq ⟨(dT g1), (dT g2), (dT g3), (dF g4), rfl, h, g5, (dT g6), (dF g7), rfl, trivial⟩)
theorem tg70_18 (x : Hd) (b : Bool) (h : cc (ev X E0) 30 [AV.agg [vi (Hd.cur x), vi (Hd.minor x)]] [] = some (AV.b b, [])) (g1 : Hd.id x ≥ 1) (g2 : Hd.id x ≤ 1000000) (g3 : Hd.acc x ≥ 1) (g4 : ¬Hd.acc x ≤ 999) (g5 : b = true) (g6 : ¬Hd.minor x > 0) :
    cc (ev X E0) 70 [AV.agg [vi (Hd.id x), vi (Hd.acc x), vi (Hd.cur x), vi (Hd.minor x), vi (Hd.rank x), vw (Hd.made x), vw (Hd.till x), vi (Hd.taken x), .pv (.bool (Hd.done x))]] [] = some (AV.c (.pv (.bool false)), []) :=
  cc_path (x := xf70) rfl (bs 12 true ++ bs 8 false ++ [.call (AV.c (.pv (.bool b))) []] ++ bs 5 true ++ bs 27 false)
    (c := rq [(4, decide (Hd.id x ≥ 1) = true), (4, decide (Hd.id x ≤ 1000000) = true), (4, decide (Hd.acc x ≥ 1) = true), (4, decide (Hd.acc x ≤ 999) = false), (4, false = false), ty h, (5, b = true), (4, decide (Hd.minor x > 0) = false), (23, false = false)]) (by kernel_rfl)
    (aq ⟨(dT g1), (dT g2), (dT g3), (dF g4), rfl, h, g5, (dF g6), rfl, trivial⟩)
theorem tg70_19 (x : Hd) (b : Bool) (h : cc (ev X E0) 30 [AV.agg [vi (Hd.cur x), vi (Hd.minor x)]] [] = some (AV.b b, [])) (g1 : Hd.id x ≥ 1) (g2 : Hd.id x ≤ 1000000) (g3 : Hd.acc x ≥ 1) (g4 : ¬Hd.acc x ≤ 999) (g5 : b = false) :
    cc (ev X E0) 70 [AV.agg [vi (Hd.id x), vi (Hd.acc x), vi (Hd.cur x), vi (Hd.minor x), vi (Hd.rank x), vw (Hd.made x), vw (Hd.till x), vi (Hd.taken x), .pv (.bool (Hd.done x))]] [] = some (AV.c (.pv (.bool false)), []) :=
  cc_path (x := xf70) rfl (bs 12 true ++ bs 8 false ++ [.call (AV.c (.pv (.bool b))) []] ++ bs 32 false)
    (c := rq [(4, decide (Hd.id x ≥ 1) = true), (4, decide (Hd.id x ≤ 1000000) = true), (4, decide (Hd.acc x ≥ 1) = true), (4, decide (Hd.acc x ≤ 999) = false), (4, false = false), ty h, (5, b = false), (27, false = false)]) (by kernel_rfl)
    (aq ⟨(dT g1), (dT g2), (dT g3), (dF g4), rfl, h, g5, rfl, trivial⟩)
theorem tg70_20 (x : Hd) (b : Bool) (h : cc (ev X E0) 30 [AV.agg [vi (Hd.cur x), vi (Hd.minor x)]] [] = some (AV.b b, [])) (g1 : Hd.id x ≥ 1) (g2 : Hd.id x ≤ 1000000) (g3 : ¬Hd.acc x ≥ 1) (g4 : b = true) (g5 : Hd.minor x > 0) (g6 : Hd.taken x ≥ 0) :
    cc (ev X E0) 70 [AV.agg [vi (Hd.id x), vi (Hd.acc x), vi (Hd.cur x), vi (Hd.minor x), vi (Hd.rank x), vw (Hd.made x), vw (Hd.till x), vi (Hd.taken x), .pv (.bool (Hd.done x))]] [] = some (AV.c (.pv (.bool false)), []) :=
  cc_path (x := xf70) rfl (bs 8 true ++ bs 12 false ++ [.call (AV.c (.pv (.bool b))) []] ++ bs 16 true ++ bs 16 false)
    (c := rq [(4, decide (Hd.id x ≥ 1) = true), (4, decide (Hd.id x ≤ 1000000) = true), (4, decide (Hd.acc x ≥ 1) = false), (8, false = false), ty h, (5, b = true), (4, decide (Hd.minor x > 0) = true), (7, decide (Hd.taken x ≥ 0) = true), (16, false = false)]) (by kernel_rfl)
    (aq ⟨(dT g1), (dT g2), (dF g3), rfl, h, g4, (dT g5), (dT g6), rfl, trivial⟩)
theorem tg70_21 (x : Hd) (b : Bool) (h : cc (ev X E0) 30 [AV.agg [vi (Hd.cur x), vi (Hd.minor x)]] [] = some (AV.b b, [])) (g1 : Hd.id x ≥ 1) (g2 : Hd.id x ≤ 1000000) (g3 : ¬Hd.acc x ≥ 1) (g4 : b = true) (g5 : Hd.minor x > 0) (g6 : ¬Hd.taken x ≥ 0) :
    cc (ev X E0) 70 [AV.agg [vi (Hd.id x), vi (Hd.acc x), vi (Hd.cur x), vi (Hd.minor x), vi (Hd.rank x), vw (Hd.made x), vw (Hd.till x), vi (Hd.taken x), .pv (.bool (Hd.done x))]] [] = some (AV.c (.pv (.bool false)), []) :=
  cc_path (x := xf70) rfl (bs 8 true ++ bs 12 false ++ [.call (AV.c (.pv (.bool b))) []] ++ bs 9 true ++ bs 23 false)
    (c := rq [(4, decide (Hd.id x ≥ 1) = true), (4, decide (Hd.id x ≤ 1000000) = true), (4, decide (Hd.acc x ≥ 1) = false), (8, false = false), ty h, (5, b = true), (4, decide (Hd.minor x > 0) = true), (7, decide (Hd.taken x ≥ 0) = false), (16, false = false)]) (by kernel_rfl)
    (aq ⟨(dT g1), (dT g2), (dF g3), rfl, h, g4, (dT g5), (dF g6), rfl, trivial⟩)
theorem tg70_22 (x : Hd) (b : Bool) (h : cc (ev X E0) 30 [AV.agg [vi (Hd.cur x), vi (Hd.minor x)]] [] = some (AV.b b, [])) (g1 : Hd.id x ≥ 1) (g2 : Hd.id x ≤ 1000000) (g3 : ¬Hd.acc x ≥ 1) (g4 : b = true) (g5 : ¬Hd.minor x > 0) :
    cc (ev X E0) 70 [AV.agg [vi (Hd.id x), vi (Hd.acc x), vi (Hd.cur x), vi (Hd.minor x), vi (Hd.rank x), vw (Hd.made x), vw (Hd.till x), vi (Hd.taken x), .pv (.bool (Hd.done x))]] [] = some (AV.c (.pv (.bool false)), []) :=
  cc_path (x := xf70) rfl (bs 8 true ++ bs 12 false ++ [.call (AV.c (.pv (.bool b))) []] ++ bs 5 true ++ bs 27 false)
    (c := rq [(4, decide (Hd.id x ≥ 1) = true), (4, decide (Hd.id x ≤ 1000000) = true), (4, decide (Hd.acc x ≥ 1) = false), (8, false = false), ty h, (5, b = true), (4, decide (Hd.minor x > 0) = false), (23, false = false)]) (by kernel_rfl)
    (aq ⟨(dT g1), (dT g2), (dF g3), rfl, h, g4, (dF g5), rfl, trivial⟩)
theorem tg70_23 (x : Hd) (b : Bool) (h : cc (ev X E0) 30 [AV.agg [vi (Hd.cur x), vi (Hd.minor x)]] [] = some (AV.b b, [])) (g1 : Hd.id x ≥ 1) (g2 : Hd.id x ≤ 1000000) (g3 : ¬Hd.acc x ≥ 1) (g4 : b = false) :
    cc (ev X E0) 70 [AV.agg [vi (Hd.id x), vi (Hd.acc x), vi (Hd.cur x), vi (Hd.minor x), vi (Hd.rank x), vw (Hd.made x), vw (Hd.till x), vi (Hd.taken x), .pv (.bool (Hd.done x))]] [] = some (AV.c (.pv (.bool false)), []) :=
  cc_path (x := xf70) rfl (bs 8 true ++ bs 12 false ++ [.call (AV.c (.pv (.bool b))) []] ++ bs 32 false)
    (c := rq [(4, decide (Hd.id x ≥ 1) = true), (4, decide (Hd.id x ≤ 1000000) = true), (4, decide (Hd.acc x ≥ 1) = false), (8, false = false), ty h, (5, b = false), (27, false = false)]) (by kernel_rfl)
    (aq ⟨(dT g1), (dT g2), (dF g3), rfl, h, g4, rfl, trivial⟩)
theorem tg70_24 (x : Hd) (b : Bool) (h : cc (ev X E0) 30 [AV.agg [vi (Hd.cur x), vi (Hd.minor x)]] [] = some (AV.b b, [])) (g1 : Hd.id x ≥ 1) (g2 : ¬Hd.id x ≤ 1000000) (g3 : b = true) (g4 : Hd.minor x > 0) (g5 : Hd.taken x ≥ 0) :
    cc (ev X E0) 70 [AV.agg [vi (Hd.id x), vi (Hd.acc x), vi (Hd.cur x), vi (Hd.minor x), vi (Hd.rank x), vw (Hd.made x), vw (Hd.till x), vi (Hd.taken x), .pv (.bool (Hd.done x))]] [] = some (AV.c (.pv (.bool false)), []) :=
  cc_path (x := xf70) rfl (bs 4 true ++ bs 16 false ++ [.call (AV.c (.pv (.bool b))) []] ++ bs 16 true ++ bs 16 false)
    (c := rq [(4, decide (Hd.id x ≥ 1) = true), (4, decide (Hd.id x ≤ 1000000) = false), (12, false = false), ty h, (5, b = true), (4, decide (Hd.minor x > 0) = true), (7, decide (Hd.taken x ≥ 0) = true), (16, false = false)]) (by kernel_rfl)
    (aq ⟨(dT g1), (dF g2), rfl, h, g3, (dT g4), (dT g5), rfl, trivial⟩)
theorem tg70_25 (x : Hd) (b : Bool) (h : cc (ev X E0) 30 [AV.agg [vi (Hd.cur x), vi (Hd.minor x)]] [] = some (AV.b b, [])) (g1 : Hd.id x ≥ 1) (g2 : ¬Hd.id x ≤ 1000000) (g3 : b = true) (g4 : Hd.minor x > 0) (g5 : ¬Hd.taken x ≥ 0) :
    cc (ev X E0) 70 [AV.agg [vi (Hd.id x), vi (Hd.acc x), vi (Hd.cur x), vi (Hd.minor x), vi (Hd.rank x), vw (Hd.made x), vw (Hd.till x), vi (Hd.taken x), .pv (.bool (Hd.done x))]] [] = some (AV.c (.pv (.bool false)), []) :=
  cc_path (x := xf70) rfl (bs 4 true ++ bs 16 false ++ [.call (AV.c (.pv (.bool b))) []] ++ bs 9 true ++ bs 23 false)
    (c := rq [(4, decide (Hd.id x ≥ 1) = true), (4, decide (Hd.id x ≤ 1000000) = false), (12, false = false), ty h, (5, b = true), (4, decide (Hd.minor x > 0) = true), (7, decide (Hd.taken x ≥ 0) = false), (16, false = false)]) (by kernel_rfl)
    (aq ⟨(dT g1), (dF g2), rfl, h, g3, (dT g4), (dF g5), rfl, trivial⟩)
theorem tg70_26 (x : Hd) (b : Bool) (h : cc (ev X E0) 30 [AV.agg [vi (Hd.cur x), vi (Hd.minor x)]] [] = some (AV.b b, [])) (g1 : Hd.id x ≥ 1) (g2 : ¬Hd.id x ≤ 1000000) (g3 : b = true) (g4 : ¬Hd.minor x > 0) :
    cc (ev X E0) 70 [AV.agg [vi (Hd.id x), vi (Hd.acc x), vi (Hd.cur x), vi (Hd.minor x), vi (Hd.rank x), vw (Hd.made x), vw (Hd.till x), vi (Hd.taken x), .pv (.bool (Hd.done x))]] [] = some (AV.c (.pv (.bool false)), []) :=
  cc_path (x := xf70) rfl (bs 4 true ++ bs 16 false ++ [.call (AV.c (.pv (.bool b))) []] ++ bs 5 true ++ bs 27 false)
    (c := rq [(4, decide (Hd.id x ≥ 1) = true), (4, decide (Hd.id x ≤ 1000000) = false), (12, false = false), ty h, (5, b = true), (4, decide (Hd.minor x > 0) = false), (23, false = false)]) (by kernel_rfl)
    (aq ⟨(dT g1), (dF g2), rfl, h, g3, (dF g4), rfl, trivial⟩)
theorem tg70_27 (x : Hd) (b : Bool) (h : cc (ev X E0) 30 [AV.agg [vi (Hd.cur x), vi (Hd.minor x)]] [] = some (AV.b b, [])) (g1 : Hd.id x ≥ 1) (g2 : ¬Hd.id x ≤ 1000000) (g3 : b = false) :
    cc (ev X E0) 70 [AV.agg [vi (Hd.id x), vi (Hd.acc x), vi (Hd.cur x), vi (Hd.minor x), vi (Hd.rank x), vw (Hd.made x), vw (Hd.till x), vi (Hd.taken x), .pv (.bool (Hd.done x))]] [] = some (AV.c (.pv (.bool false)), []) :=
  cc_path (x := xf70) rfl (bs 4 true ++ bs 16 false ++ [.call (AV.c (.pv (.bool b))) []] ++ bs 32 false)
    (c := rq [(4, decide (Hd.id x ≥ 1) = true), (4, decide (Hd.id x ≤ 1000000) = false), (12, false = false), ty h, (5, b = false), (27, false = false)]) (by kernel_rfl)
    (aq ⟨(dT g1), (dF g2), rfl, h, g3, rfl, trivial⟩)
theorem tg70_28 (x : Hd) (b : Bool) (h : cc (ev X E0) 30 [AV.agg [vi (Hd.cur x), vi (Hd.minor x)]] [] = some (AV.b b, [])) (g1 : ¬Hd.id x ≥ 1) (g2 : b = true) (g3 : Hd.minor x > 0) (g4 : Hd.taken x ≥ 0) :
    cc (ev X E0) 70 [AV.agg [vi (Hd.id x), vi (Hd.acc x), vi (Hd.cur x), vi (Hd.minor x), vi (Hd.rank x), vw (Hd.made x), vw (Hd.till x), vi (Hd.taken x), .pv (.bool (Hd.done x))]] [] = some (AV.c (.pv (.bool false)), []) :=
  cc_path (x := xf70) rfl (bs 20 false ++ [.call (AV.c (.pv (.bool b))) []] ++ bs 16 true ++ bs 16 false)
    (c := rq [(4, decide (Hd.id x ≥ 1) = false), (16, false = false), ty h, (5, b = true), (4, decide (Hd.minor x > 0) = true), (7, decide (Hd.taken x ≥ 0) = true), (16, false = false)]) (by kernel_rfl)
    (aq ⟨(dF g1), rfl, h, g2, (dT g3), (dT g4), rfl, trivial⟩)
theorem tg70_29 (x : Hd) (b : Bool) (h : cc (ev X E0) 30 [AV.agg [vi (Hd.cur x), vi (Hd.minor x)]] [] = some (AV.b b, [])) (g1 : ¬Hd.id x ≥ 1) (g2 : b = true) (g3 : Hd.minor x > 0) (g4 : ¬Hd.taken x ≥ 0) :
    cc (ev X E0) 70 [AV.agg [vi (Hd.id x), vi (Hd.acc x), vi (Hd.cur x), vi (Hd.minor x), vi (Hd.rank x), vw (Hd.made x), vw (Hd.till x), vi (Hd.taken x), .pv (.bool (Hd.done x))]] [] = some (AV.c (.pv (.bool false)), []) :=
  cc_path (x := xf70) rfl (bs 20 false ++ [.call (AV.c (.pv (.bool b))) []] ++ bs 9 true ++ bs 23 false)
    (c := rq [(4, decide (Hd.id x ≥ 1) = false), (16, false = false), ty h, (5, b = true), (4, decide (Hd.minor x > 0) = true), (7, decide (Hd.taken x ≥ 0) = false), (16, false = false)]) (by kernel_rfl)
    (aq ⟨(dF g1), rfl, h, g2, (dT g3), (dF g4), rfl, trivial⟩)
theorem tg70_30 (x : Hd) (b : Bool) (h : cc (ev X E0) 30 [AV.agg [vi (Hd.cur x), vi (Hd.minor x)]] [] = some (AV.b b, [])) (g1 : ¬Hd.id x ≥ 1) (g2 : b = true) (g3 : ¬Hd.minor x > 0) :
    cc (ev X E0) 70 [AV.agg [vi (Hd.id x), vi (Hd.acc x), vi (Hd.cur x), vi (Hd.minor x), vi (Hd.rank x), vw (Hd.made x), vw (Hd.till x), vi (Hd.taken x), .pv (.bool (Hd.done x))]] [] = some (AV.c (.pv (.bool false)), []) :=
  cc_path (x := xf70) rfl (bs 20 false ++ [.call (AV.c (.pv (.bool b))) []] ++ bs 5 true ++ bs 27 false)
    (c := rq [(4, decide (Hd.id x ≥ 1) = false), (16, false = false), ty h, (5, b = true), (4, decide (Hd.minor x > 0) = false), (23, false = false)]) (by kernel_rfl)
    (aq ⟨(dF g1), rfl, h, g2, (dF g3), rfl, trivial⟩)
theorem tg70_31 (x : Hd) (b : Bool) (h : cc (ev X E0) 30 [AV.agg [vi (Hd.cur x), vi (Hd.minor x)]] [] = some (AV.b b, [])) (g1 : ¬Hd.id x ≥ 1) (g2 : b = false) :
    cc (ev X E0) 70 [AV.agg [vi (Hd.id x), vi (Hd.acc x), vi (Hd.cur x), vi (Hd.minor x), vi (Hd.rank x), vw (Hd.made x), vw (Hd.till x), vi (Hd.taken x), .pv (.bool (Hd.done x))]] [] = some (AV.c (.pv (.bool false)), []) :=
  cc_path (x := xf70) rfl (bs 20 false ++ [.call (AV.c (.pv (.bool b))) []] ++ bs 32 false)
    (c := rq [(4, decide (Hd.id x ≥ 1) = false), (16, false = false), ty h, (5, b = false), (27, false = false)]) (by kernel_rfl)
    (aq ⟨(dF g1), rfl, h, g2, rfl, trivial⟩)
theorem bcase (b : Bool) : b = true ∨ b = false := by cases b <;> simp
structure HdR (x : Hd) : Prop where
  id : 1 ≤ x.id ∧ x.id ≤ 1000000
  acc : 1 ≤ x.acc ∧ x.acc ≤ 999
  rank : 0 ≤ x.rank ∧ x.rank ≤ 9
  pos : 0 < x.minor
  mon : (curOk x.cur && minOk x.minor) = true
  tak : 0 ≤ x.taken ∧ x.taken ≤ x.minor
  made : datOk x.made = true
  till : datOk x.till = true
  le : x.made ≤ x.till
theorem ts70 (x : Hd) : ∃ r, cc (ev X E0) 70 [Hd.av x] [] = some (.b r, []) ∧ (r = true → HdR x) := by
  have h := s82 x.cur x.minor
  by_cases c1 : Hd.id x ≥ 1
  · by_cases c2 : Hd.id x ≤ 1000000
    · by_cases c3 : Hd.acc x ≥ 1
      · by_cases c4 : Hd.acc x ≤ 999
        · by_cases c5 : Hd.rank x ≥ 0
          · rcases bcase (curOk x.cur && minOk x.minor) with c6 | c6
            · by_cases c7 : Hd.minor x > 0
              · by_cases c8 : Hd.taken x ≥ 0
                · by_cases c9 : Hd.rank x ≤ 9
                  · by_cases c10 : Hd.taken x ≤ Hd.minor x
                    · rcases bcase (datOk (Hd.made x)) with c11 | c11
                      · rcases bcase (datOk (Hd.till x)) with c12 | c12
                        · first | exact ⟨_, (tg70_1 x _ h c1 c2 c3 c4 c5 c6 c7 c8 c9 c10 c11 c12), fun hh => (Bool.false_ne_true hh).elim⟩ | exact ⟨_, (tg70_1 x _ h c1 c2 c3 c4 c5 c6 c7 c8 c9 c10 c11 c12), fun hh => ⟨by omega, by omega, by omega, by omega, by assumption, by omega, by assumption, by assumption, of_decide_eq_true hh⟩⟩
                        · first | exact ⟨_, (tg70_2 x _ h c1 c2 c3 c4 c5 c6 c7 c8 c9 c10 c11 c12), fun hh => (Bool.false_ne_true hh).elim⟩ | exact ⟨_, (tg70_2 x _ h c1 c2 c3 c4 c5 c6 c7 c8 c9 c10 c11 c12), fun hh => ⟨by omega, by omega, by omega, by omega, by assumption, by omega, by assumption, by assumption, of_decide_eq_true hh⟩⟩
                      · first | exact ⟨_, (tg70_3 x _ h c1 c2 c3 c4 c5 c6 c7 c8 c9 c10 c11), fun hh => (Bool.false_ne_true hh).elim⟩ | exact ⟨_, (tg70_3 x _ h c1 c2 c3 c4 c5 c6 c7 c8 c9 c10 c11), fun hh => ⟨by omega, by omega, by omega, by omega, by assumption, by omega, by assumption, by assumption, of_decide_eq_true hh⟩⟩
                    · first | exact ⟨_, (tg70_4 x _ h c1 c2 c3 c4 c5 c6 c7 c8 c9 c10), fun hh => (Bool.false_ne_true hh).elim⟩ | exact ⟨_, (tg70_4 x _ h c1 c2 c3 c4 c5 c6 c7 c8 c9 c10), fun hh => ⟨by omega, by omega, by omega, by omega, by assumption, by omega, by assumption, by assumption, of_decide_eq_true hh⟩⟩
                  · first | exact ⟨_, (tg70_5 x _ h c1 c2 c3 c4 c5 c6 c7 c8 c9), fun hh => (Bool.false_ne_true hh).elim⟩ | exact ⟨_, (tg70_5 x _ h c1 c2 c3 c4 c5 c6 c7 c8 c9), fun hh => ⟨by omega, by omega, by omega, by omega, by assumption, by omega, by assumption, by assumption, of_decide_eq_true hh⟩⟩
                · by_cases c13 : Hd.rank x ≤ 9
                  · first | exact ⟨_, (tg70_6 x _ h c1 c2 c3 c4 c5 c6 c7 c8 c13), fun hh => (Bool.false_ne_true hh).elim⟩ | exact ⟨_, (tg70_6 x _ h c1 c2 c3 c4 c5 c6 c7 c8 c13), fun hh => ⟨by omega, by omega, by omega, by omega, by assumption, by omega, by assumption, by assumption, of_decide_eq_true hh⟩⟩
                  · first | exact ⟨_, (tg70_7 x _ h c1 c2 c3 c4 c5 c6 c7 c8 c13), fun hh => (Bool.false_ne_true hh).elim⟩ | exact ⟨_, (tg70_7 x _ h c1 c2 c3 c4 c5 c6 c7 c8 c13), fun hh => ⟨by omega, by omega, by omega, by omega, by assumption, by omega, by assumption, by assumption, of_decide_eq_true hh⟩⟩
              · by_cases c14 : Hd.rank x ≤ 9
                · first | exact ⟨_, (tg70_8 x _ h c1 c2 c3 c4 c5 c6 c7 c14), fun hh => (Bool.false_ne_true hh).elim⟩ | exact ⟨_, (tg70_8 x _ h c1 c2 c3 c4 c5 c6 c7 c14), fun hh => ⟨by omega, by omega, by omega, by omega, by assumption, by omega, by assumption, by assumption, of_decide_eq_true hh⟩⟩
                · first | exact ⟨_, (tg70_9 x _ h c1 c2 c3 c4 c5 c6 c7 c14), fun hh => (Bool.false_ne_true hh).elim⟩ | exact ⟨_, (tg70_9 x _ h c1 c2 c3 c4 c5 c6 c7 c14), fun hh => ⟨by omega, by omega, by omega, by omega, by assumption, by omega, by assumption, by assumption, of_decide_eq_true hh⟩⟩
            · by_cases c15 : Hd.rank x ≤ 9
              · first | exact ⟨_, (tg70_10 x _ h c1 c2 c3 c4 c5 c6 c15), fun hh => (Bool.false_ne_true hh).elim⟩ | exact ⟨_, (tg70_10 x _ h c1 c2 c3 c4 c5 c6 c15), fun hh => ⟨by omega, by omega, by omega, by omega, by assumption, by omega, by assumption, by assumption, of_decide_eq_true hh⟩⟩
              · first | exact ⟨_, (tg70_11 x _ h c1 c2 c3 c4 c5 c6 c15), fun hh => (Bool.false_ne_true hh).elim⟩ | exact ⟨_, (tg70_11 x _ h c1 c2 c3 c4 c5 c6 c15), fun hh => ⟨by omega, by omega, by omega, by omega, by assumption, by omega, by assumption, by assumption, of_decide_eq_true hh⟩⟩
          · rcases bcase (curOk x.cur && minOk x.minor) with c16 | c16
            · by_cases c17 : Hd.minor x > 0
              · by_cases c18 : Hd.taken x ≥ 0
                · first | exact ⟨_, (tg70_12 x _ h c1 c2 c3 c4 c5 c16 c17 c18), fun hh => (Bool.false_ne_true hh).elim⟩ | exact ⟨_, (tg70_12 x _ h c1 c2 c3 c4 c5 c16 c17 c18), fun hh => ⟨by omega, by omega, by omega, by omega, by assumption, by omega, by assumption, by assumption, of_decide_eq_true hh⟩⟩
                · first | exact ⟨_, (tg70_13 x _ h c1 c2 c3 c4 c5 c16 c17 c18), fun hh => (Bool.false_ne_true hh).elim⟩ | exact ⟨_, (tg70_13 x _ h c1 c2 c3 c4 c5 c16 c17 c18), fun hh => ⟨by omega, by omega, by omega, by omega, by assumption, by omega, by assumption, by assumption, of_decide_eq_true hh⟩⟩
              · first | exact ⟨_, (tg70_14 x _ h c1 c2 c3 c4 c5 c16 c17), fun hh => (Bool.false_ne_true hh).elim⟩ | exact ⟨_, (tg70_14 x _ h c1 c2 c3 c4 c5 c16 c17), fun hh => ⟨by omega, by omega, by omega, by omega, by assumption, by omega, by assumption, by assumption, of_decide_eq_true hh⟩⟩
            · first | exact ⟨_, (tg70_15 x _ h c1 c2 c3 c4 c5 c16), fun hh => (Bool.false_ne_true hh).elim⟩ | exact ⟨_, (tg70_15 x _ h c1 c2 c3 c4 c5 c16), fun hh => ⟨by omega, by omega, by omega, by omega, by assumption, by omega, by assumption, by assumption, of_decide_eq_true hh⟩⟩
        · rcases bcase (curOk x.cur && minOk x.minor) with c19 | c19
          · by_cases c20 : Hd.minor x > 0
            · by_cases c21 : Hd.taken x ≥ 0
              · first | exact ⟨_, (tg70_16 x _ h c1 c2 c3 c4 c19 c20 c21), fun hh => (Bool.false_ne_true hh).elim⟩ | exact ⟨_, (tg70_16 x _ h c1 c2 c3 c4 c19 c20 c21), fun hh => ⟨by omega, by omega, by omega, by omega, by assumption, by omega, by assumption, by assumption, of_decide_eq_true hh⟩⟩
              · first | exact ⟨_, (tg70_17 x _ h c1 c2 c3 c4 c19 c20 c21), fun hh => (Bool.false_ne_true hh).elim⟩ | exact ⟨_, (tg70_17 x _ h c1 c2 c3 c4 c19 c20 c21), fun hh => ⟨by omega, by omega, by omega, by omega, by assumption, by omega, by assumption, by assumption, of_decide_eq_true hh⟩⟩
            · first | exact ⟨_, (tg70_18 x _ h c1 c2 c3 c4 c19 c20), fun hh => (Bool.false_ne_true hh).elim⟩ | exact ⟨_, (tg70_18 x _ h c1 c2 c3 c4 c19 c20), fun hh => ⟨by omega, by omega, by omega, by omega, by assumption, by omega, by assumption, by assumption, of_decide_eq_true hh⟩⟩
          · first | exact ⟨_, (tg70_19 x _ h c1 c2 c3 c4 c19), fun hh => (Bool.false_ne_true hh).elim⟩ | exact ⟨_, (tg70_19 x _ h c1 c2 c3 c4 c19), fun hh => ⟨by omega, by omega, by omega, by omega, by assumption, by omega, by assumption, by assumption, of_decide_eq_true hh⟩⟩
      · rcases bcase (curOk x.cur && minOk x.minor) with c22 | c22
        · by_cases c23 : Hd.minor x > 0
          · by_cases c24 : Hd.taken x ≥ 0
            · first | exact ⟨_, (tg70_20 x _ h c1 c2 c3 c22 c23 c24), fun hh => (Bool.false_ne_true hh).elim⟩ | exact ⟨_, (tg70_20 x _ h c1 c2 c3 c22 c23 c24), fun hh => ⟨by omega, by omega, by omega, by omega, by assumption, by omega, by assumption, by assumption, of_decide_eq_true hh⟩⟩
            · first | exact ⟨_, (tg70_21 x _ h c1 c2 c3 c22 c23 c24), fun hh => (Bool.false_ne_true hh).elim⟩ | exact ⟨_, (tg70_21 x _ h c1 c2 c3 c22 c23 c24), fun hh => ⟨by omega, by omega, by omega, by omega, by assumption, by omega, by assumption, by assumption, of_decide_eq_true hh⟩⟩
          · first | exact ⟨_, (tg70_22 x _ h c1 c2 c3 c22 c23), fun hh => (Bool.false_ne_true hh).elim⟩ | exact ⟨_, (tg70_22 x _ h c1 c2 c3 c22 c23), fun hh => ⟨by omega, by omega, by omega, by omega, by assumption, by omega, by assumption, by assumption, of_decide_eq_true hh⟩⟩
        · first | exact ⟨_, (tg70_23 x _ h c1 c2 c3 c22), fun hh => (Bool.false_ne_true hh).elim⟩ | exact ⟨_, (tg70_23 x _ h c1 c2 c3 c22), fun hh => ⟨by omega, by omega, by omega, by omega, by assumption, by omega, by assumption, by assumption, of_decide_eq_true hh⟩⟩
    · rcases bcase (curOk x.cur && minOk x.minor) with c25 | c25
      · by_cases c26 : Hd.minor x > 0
        · by_cases c27 : Hd.taken x ≥ 0
          · first | exact ⟨_, (tg70_24 x _ h c1 c2 c25 c26 c27), fun hh => (Bool.false_ne_true hh).elim⟩ | exact ⟨_, (tg70_24 x _ h c1 c2 c25 c26 c27), fun hh => ⟨by omega, by omega, by omega, by omega, by assumption, by omega, by assumption, by assumption, of_decide_eq_true hh⟩⟩
          · first | exact ⟨_, (tg70_25 x _ h c1 c2 c25 c26 c27), fun hh => (Bool.false_ne_true hh).elim⟩ | exact ⟨_, (tg70_25 x _ h c1 c2 c25 c26 c27), fun hh => ⟨by omega, by omega, by omega, by omega, by assumption, by omega, by assumption, by assumption, of_decide_eq_true hh⟩⟩
        · first | exact ⟨_, (tg70_26 x _ h c1 c2 c25 c26), fun hh => (Bool.false_ne_true hh).elim⟩ | exact ⟨_, (tg70_26 x _ h c1 c2 c25 c26), fun hh => ⟨by omega, by omega, by omega, by omega, by assumption, by omega, by assumption, by assumption, of_decide_eq_true hh⟩⟩
      · first | exact ⟨_, (tg70_27 x _ h c1 c2 c25), fun hh => (Bool.false_ne_true hh).elim⟩ | exact ⟨_, (tg70_27 x _ h c1 c2 c25), fun hh => ⟨by omega, by omega, by omega, by omega, by assumption, by omega, by assumption, by assumption, of_decide_eq_true hh⟩⟩
  · rcases bcase (curOk x.cur && minOk x.minor) with c28 | c28
    · by_cases c29 : Hd.minor x > 0
      · by_cases c30 : Hd.taken x ≥ 0
        · first | exact ⟨_, (tg70_28 x _ h c1 c28 c29 c30), fun hh => (Bool.false_ne_true hh).elim⟩ | exact ⟨_, (tg70_28 x _ h c1 c28 c29 c30), fun hh => ⟨by omega, by omega, by omega, by omega, by assumption, by omega, by assumption, by assumption, of_decide_eq_true hh⟩⟩
        · first | exact ⟨_, (tg70_29 x _ h c1 c28 c29 c30), fun hh => (Bool.false_ne_true hh).elim⟩ | exact ⟨_, (tg70_29 x _ h c1 c28 c29 c30), fun hh => ⟨by omega, by omega, by omega, by omega, by assumption, by omega, by assumption, by assumption, of_decide_eq_true hh⟩⟩
      · first | exact ⟨_, (tg70_30 x _ h c1 c28 c29), fun hh => (Bool.false_ne_true hh).elim⟩ | exact ⟨_, (tg70_30 x _ h c1 c28 c29), fun hh => ⟨by omega, by omega, by omega, by omega, by assumption, by omega, by assumption, by assumption, of_decide_eq_true hh⟩⟩
    · first | exact ⟨_, (tg70_31 x _ h c1 c28), fun hh => (Bool.false_ne_true hh).elim⟩ | exact ⟨_, (tg70_31 x _ h c1 c28), fun hh => ⟨by omega, by omega, by omega, by omega, by assumption, by omega, by assumption, by assumption, of_decide_eq_true hh⟩⟩
theorem ts70t {x : Hd} (h : HdR x) : cc (ev X E0) 70 [Hd.av x] [] = some (.b true, []) := by
  obtain ⟨h1, h2, h3, h4, h5, h6, h7, h8, h9⟩ := h
  have := tg70_1 x _ (s82 x.cur x.minor) h1.1 h1.2 h2.1 h2.2 h3.1 h5 h4 h6.1 h3.2 h6.2 h7 h8
  rw [this, decide_eq_true h9]
theorem tg109_1 (x : Hd) (r : Bool) (h : cc (ev X E0) 70 [Hd.av x] [] = some (AV.b r, [])) :
    cc (ev X E0) 109 [AV.agg [vi (Hd.id x), vi (Hd.acc x), vi (Hd.cur x), vi (Hd.minor x), vi (Hd.rank x), vw (Hd.made x), vw (Hd.till x), vi (Hd.taken x), .pv (.bool (Hd.done x))]] [] = some (AV.c (.pv (.bool !r)), []) :=
  cc_path (x := xf109) rfl [.call (AV.c (.pv (.bool r))) []]
    (c := rq [ty h]) (by kernel_rfl)
    (aq ⟨h, trivial⟩)
abbrev TS131 (x : Hd) (o : SO) (i : Int) : St := St.mk (tmOf 19 [(0, AV.c (CV.pv (PV.sl o 9 [Hd.pv x]))), (1, AV.c (CV.fn 109 [])), (7, AV.c (CV.pv (PV.int .i64 1))), (8, AV.c (CV.pv (PV.int .i64 i)))]) []
theorem tl131a_1 (x : Hd) (o : SO) (h : cc (ev X E0) 109 [Hd.av x] [] = some (AV.b false, [])) :
    lv (cv (ev X E0) xf131_l0) (rl [0, 0, 5, 0]) 0 (TS131 x o 0) = lv (cv (ev X E0) xf131_l0) (rl [0, 0, 5, 0]) 0 (St.mk (tmOf 19 [(0, AV.c (.pv (.sl o 9 [PV.agg [PV.int .i64 (Hd.id x), .int .i64 (Hd.acc x), .int .i64 (Hd.cur x), .int .i64 (Hd.minor x), .int .i64 (Hd.rank x), .int .i32 (Hd.made x), .int .i32 (Hd.till x), .int .i64 (Hd.taken x), .bool (Hd.done x)]]))), (1, AV.c (.fn 109 [])), (7, AV.c (vi 1)), (8, AV.c (vi 1))]) []) :=
  lv_next [.br true, .call (AV.c (.pv (.bool false))) [], .br false]
    (c := rq [(1, true = true), ty h, (1, false = false)]) (by kernel_rfl)
    (aq ⟨rfl, h, rfl, trivial⟩)
theorem tl131b_1 (x : Hd) (o : SO) :
    lv (cv (ev X E0) xf131_l0) (rl [0, 0, 5, 0]) 0 (TS131 x o 1) = some (XExit.exit 0, St.mk (tmOf 19 []) []) :=
  lv_exit [.br false]
    (c := [false = false]) (by kernel_rfl)
    ⟨rfl, trivial⟩
theorem tg131_1 (x : Hd) (o : SO) (h : lv (cv (ev X E0) xf131_l0) (rl [0, 0, 5, 0]) 0 (TS131 x o 0) = some (XExit.exit 0, St.mk (tmOf 19 []) [])) :
    cc (ev X E0) 131 [AV.c (.pv (.sl o 9 [PV.agg [PV.int .i64 (Hd.id x), .int .i64 (Hd.acc x), .int .i64 (Hd.cur x), .int .i64 (Hd.minor x), .int .i64 (Hd.rank x), .int .i32 (Hd.made x), .int .i32 (Hd.till x), .int .i64 (Hd.taken x), .bool (Hd.done x)]])), AV.c (.fn 109 [])] [] = some (AV.c (vi (-1)), []) :=
  cc_path (x := xf131) rfl [.loop (XExit.exit (0 : Nat)) (St.mk (tmOf (19 : Nat) []) [])]
    (c := rq [ty h]) (by kernel_rfl)
    (aq ⟨h, trivial⟩)
theorem tg110_1 (x : Hd) (o : SO) (h : cc (ev X E0) 131 [AV.sl o 9 [Hd.pv x], AV.c (.fn 109 [])] [] = some (AV.i (-1), [])) :
    cc (ev X E0) 110 [AV.c (.pv (.sl o 9 [PV.agg [PV.int .i64 (Hd.id x), .int .i64 (Hd.acc x), .int .i64 (Hd.cur x), .int .i64 (Hd.minor x), .int .i64 (Hd.rank x), .int .i32 (Hd.made x), .int .i32 (Hd.till x), .int .i64 (Hd.taken x), .bool (Hd.done x)]])), AV.c (.fn 109 [])] [] = some (AV.c (.pv (.bool false)), []) :=
  cc_path (x := xf110) rfl [.call (AV.c (vi (-1 : Int))) []]
    (c := rq [ty h]) (by kernel_rfl)
    (aq ⟨h, trivial⟩)
abbrev TS68 (x : Hd) (o : SO) (i : Int) : St := St.mk (tmOf 29 [(0, AV.c (CV.pv (PV.sl o 9 [Hd.pv x]))), (4, AV.c (CV.pv (PV.int .i64 i)))]) []
theorem tl68_1 (x : Hd) (o : SO) :
    lv (cv (ev X E0) xf68_l0) (rl [0, 3]) 0 (TS68 x o 1) = some (XExit.exit 0, St.mk (tmOf 29 [(0, AV.c (.pv (.sl o 9 [PV.agg [PV.int .i64 (Hd.id x), .int .i64 (Hd.acc x), .int .i64 (Hd.cur x), .int .i64 (Hd.minor x), .int .i64 (Hd.rank x), .int .i32 (Hd.made x), .int .i32 (Hd.till x), .int .i64 (Hd.taken x), .bool (Hd.done x)]])))]) []) :=
  lv_exit [.br false]
    (c := [false = false]) (by kernel_rfl)
    ⟨rfl, trivial⟩
theorem tg68_1 (x : Hd) (o : SO) (h : cc (ev X E0) 110 [AV.sl o 9 [Hd.pv x], AV.c (.fn 109 [])] [] = some (AV.b false, [])) (hl : lv (cv (ev X E0) xf68_l0) (rl [0, 3]) 0 (TS68 x o 1) = some (XExit.exit 0, St.mk (tmOf 29 [(0, AV.c (.pv (.sl o 9 [Hd.pv x])))]) [])) :
    cc (ev X E0) 68 [AV.c (.pv (.sl o 9 [PV.agg [PV.int .i64 (Hd.id x), .int .i64 (Hd.acc x), .int .i64 (Hd.cur x), .int .i64 (Hd.minor x), .int .i64 (Hd.rank x), .int .i32 (Hd.made x), .int .i32 (Hd.till x), .int .i64 (Hd.taken x), .bool (Hd.done x)]]))] [] = some (AV.c (vi 0), []) :=
  cc_path (x := xf68) rfl [.call (AV.c (.pv (.bool false))) [], .br false, .loop (XExit.exit 0) (St.mk (tmOf 29 [(0, AV.c (.pv (.sl o 9 [PV.agg [PV.int .i64 (Hd.id x), .int .i64 (Hd.acc x), .int .i64 (Hd.cur x), .int .i64 (Hd.minor x), .int .i64 (Hd.rank x), .int .i32 (Hd.made x), .int .i32 (Hd.till x), .int .i64 (Hd.taken x), .bool (Hd.done x)]])))]) []), .br false]
    (c := rq [ty h, (1, false = false), ty hl, (1, false = false)]) (by kernel_rfl)
    (aq ⟨h, rfl, hl, rfl, trivial⟩)
theorem tl131z_1 (_i : Int) :
    lv (cv (ev X E0) xf131_l0) (rl [(0 : Nat), (0 : Nat), (5 : Nat), (0 : Nat)]) (0 : Nat) (St.mk (tmOf (19 : Nat) [((0 : Nat), AV.c (.pv (.sl SO.nil (0 : Nat) []))), ((1 : Nat), AV.c (.fn (109 : Nat) [])), ((7 : Nat), AV.c (vi (0 : Int))), ((8 : Nat), AV.c (vi (0 : Int)))]) []) = some (XExit.exit (0 : Nat), St.mk (tmOf (19 : Nat) []) []) :=
  lv_exit [.br false]
    (c := [false = false]) (by kernel_rfl)
    ⟨rfl, trivial⟩
theorem tg131z_1 (h : lv (cv (ev X E0) xf131_l0) (rl [(0 : Nat), (0 : Nat), (5 : Nat), (0 : Nat)]) (0 : Nat) (St.mk (tmOf (19 : Nat) [((0 : Nat), AV.c (.pv (.sl SO.nil (0 : Nat) []))), ((1 : Nat), AV.c (.fn (109 : Nat) [])), ((7 : Nat), AV.c (vi (0 : Int))), ((8 : Nat), AV.c (vi (0 : Int)))]) []) = some (XExit.exit (0 : Nat), St.mk (tmOf (19 : Nat) []) [])) :
    cc (ev X E0) (131 : Nat) [AV.c (.pv (.sl SO.nil (0 : Nat) [])), AV.c (.fn (109 : Nat) [])] [] = some (AV.c (vi (-1 : Int)), []) :=
  cc_path (x := xf131) rfl [.loop (XExit.exit (0 : Nat)) (St.mk (tmOf (19 : Nat) []) [])]
    (c := rq [ty h]) (by kernel_rfl)
    (aq ⟨h, trivial⟩)
theorem tg110z_1 (h : cc (ev X E0) (131 : Nat) [AV.sl SO.nil (0 : Nat) [], AV.c (.fn (109 : Nat) [])] [] = some (AV.i (-1 : Int), [])) :
    cc (ev X E0) (110 : Nat) [AV.c (.pv (.sl SO.nil (0 : Nat) [])), AV.c (.fn (109 : Nat) [])] [] = some (AV.c (.pv (.bool false)), []) :=
  cc_path (x := xf110) rfl [.call (AV.c (vi (-1 : Int))) []]
    (c := rq [ty h]) (by kernel_rfl)
    (aq ⟨h, trivial⟩)
theorem tl68z_1 (_i : Int) :
    lv (cv (ev X E0) xf68_l0) (rl [(0 : Nat), (3 : Nat)]) (0 : Nat) (St.mk (tmOf (29 : Nat) [((0 : Nat), AV.c (.pv (.sl SO.nil (0 : Nat) []))), ((4 : Nat), AV.c (vi (1 : Int)))]) []) = some (XExit.exit (0 : Nat), St.mk (tmOf (29 : Nat) [((0 : Nat), AV.c (.pv (.sl SO.nil (0 : Nat) [])))]) []) :=
  lv_exit [.br false]
    (c := [false = false]) (by kernel_rfl)
    ⟨rfl, trivial⟩
theorem tg68z_1 (h : cc (ev X E0) (110 : Nat) [AV.sl SO.nil (0 : Nat) [], AV.c (.fn (109 : Nat) [])] [] = some (AV.b false, [])) (hl : lv (cv (ev X E0) xf68_l0) (rl [(0 : Nat), (3 : Nat)]) (0 : Nat) (St.mk (tmOf (29 : Nat) [((0 : Nat), AV.c (.pv (.sl SO.nil (0 : Nat) []))), ((4 : Nat), AV.c (vi (1 : Int)))]) []) = some (XExit.exit (0 : Nat), St.mk (tmOf (29 : Nat) [((0 : Nat), AV.c (.pv (.sl SO.nil (0 : Nat) [])))]) [])) :
    cc (ev X E0) (68 : Nat) [AV.c (.pv (.sl SO.nil (0 : Nat) []))] [] = some (AV.c (vi (0 : Int)), []) :=
  cc_path (x := xf68) rfl [.call (AV.c (.pv (.bool false))) [], .br false, .loop (XExit.exit (0 : Nat)) (St.mk (tmOf (29 : Nat) [((0 : Nat), AV.c (.pv (.sl SO.nil (0 : Nat) [])))]) []), .br false]
    (c := rq [ty h, (1, false = false), ty hl, (1, false = false)]) (by kernel_rfl)
    (aq ⟨h, rfl, hl, rfl, trivial⟩)
theorem tg132_1 (n : Int) :
    cc (ev X E0) 132 [AV.c (vi n)] [] = some (AV.c (.pv (.bool (n != n))), []) :=
  cc_path (x := xf132) rfl []
    (c := []) (by kernel_rfl)
    trivial
theorem tg113_3 (a b : Int) (h : cc (ev X E0) 132 [AV.i a] [] = some (AV.b false, [])) (h2 : cc (ev X E0) 132 [AV.i b] [] = some (AV.b false, [])) (g1 : ¬a < b) (g2 : ¬a > b) :
    cc (ev X E0) 113 [AV.c (vi a), AV.c (vi b)] [] = some (AV.c (vi 0), []) :=
  cc_path (x := xf113) rfl ([.call (AV.c (.pv (.bool false))) [], .call (AV.c (.pv (.bool false))) []] ++ bs 4 false)
    (c := rq [ty h, ty h2, (2, false = false), (1, decide (a < b) = false), (1, decide (a > b) = false)]) (by kernel_rfl)
    (aq ⟨h, h2, rfl, (dF g1), (dF g2), trivial⟩)
theorem tg112_1 (x : Hd) (n : Int) (h : cc (ev X E0) 113 [AV.i (Hd.id x), AV.i n] [] = some (AV.i 0, [])) :
    cc (ev X E0) 112 [AV.agg [vi (Hd.id x), vi (Hd.acc x), vi (Hd.cur x), vi (Hd.minor x), vi (Hd.rank x), vw (Hd.made x), vw (Hd.till x), vi (Hd.taken x), .pv (.bool (Hd.done x))], AV.c (vi n)] [] = some (AV.c (vi 0), []) :=
  cc_path (x := xf112) rfl [.call (AV.c (vi (0 : Int))) []]
    (c := rq [ty h]) (by kernel_rfl)
    (aq ⟨h, trivial⟩)
end Go.Sx.Tryd
