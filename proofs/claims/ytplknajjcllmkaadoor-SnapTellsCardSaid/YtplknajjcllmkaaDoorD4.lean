/- Desks: the document's answer. -/
import Derived.Test.YtplknajjcllmkaaDoorP1
import Derived.Test.YtplknajjcllmkaaDoorN6
namespace Go.Sx.Tryd
open Go Go.Sx
abbrev Dcs (b : List Post) (o : SO) (s : Nat) (r : List Rd) (q : SO) (t : Nat) (nx : Int) : List CV := [CV.pv (PV.sl o s (List.map Post.pv b)), CV.pv (PV.sl q t (List.map Rd.pv r)), CV.pv (PV.int .i64 nx)]
abbrev S14d (b : List Post) (o : SO) (s : Nat) (r : List Rd) (q : SO) (t : Nat) (nx i : Int) : St := St.mk (tmOf 99 [(1, AV.c (CV.ptr 0 0)), (3, AV.c (CV.pv (PV.int .i64 i)))]) [Box.cells (Dcs b o s r q t nx)]
theorem dl14e_1 (b : List Post) (o : SO) (s : Nat) (r : List Rd) (q : SO) (t : Nat) (nx : Int) (i : Nat) (hlt : ¬(↑i : Int) < (↑(List.length (List.map Rd.pv r)) : Int)) :
    lv (cv (ev X E0) xf14_l0) (rl [1, 1]) 1 (S14d b o s r q t nx (↑i : Int)) = some (XExit.exit 0, St.mk (tmOf 99 []) [.cells [.pv (.sl o s (List.map Post.pv b)), .pv (.sl q t (List.map Rd.pv r)), vi nx]]) :=
  lv_exit [.br false]
    (c := [decide ((↑i : Int) < (↑(List.length (List.map Rd.pv r)) : Int)) = false]) (by kernel_rfl)
    ⟨(dF hlt), trivial⟩
theorem dl14a_1 (b : List Post) (o : SO) (s : Nat) (r : List Rd) (q : SO) (t : Nat) (hs : szOk 4 (.pv (.sl q t (List.map Rd.pv r))) = true) (nx : Int) (z : Rd) (hz : r[0]? = some z) (hlt : 0 < (↑(List.length (List.map Rd.pv r)) : Int)) (g1 : Rd.id z < 1) :
    lv (cv (ev X E0) xf14_l0) (rl [1, 1]) 1 (S14d b o s r q t nx 0) = some (XExit.ret, St.mk (tmOf 99 [(2, AV.b false)]) [.cells [.pv (.sl o s (List.map Post.pv b)), .pv (.sl q t (List.map Rd.pv r)), vi nx], .cells [vi (Rd.id z), vi (Rd.sees z), vw (Rd.known z), vw (Rd.value z)]]) :=
  lv_ret ([.br true, .sz, .el (.agg [PV.int .i64 (Rd.id z), .int .i64 (Rd.sees z), .int .i32 (Rd.known z), .int .i32 (Rd.value z)])] ++ bs 29 true)
    (c := rq [(1, decide (0 < (↑(List.length (List.map Rd.pv r)) : Int)) = true), ty hs, (1, (0 : Int) ≤ (0 : Int)), (1, (List.map Rd.pv r)[0]? = some (PV.agg [PV.int .i64 (Rd.id z), .int .i64 (Rd.sees z), .int .i32 (Rd.known z), .int .i32 (Rd.value z)])), (6, decide (Rd.id z < 1) = true), zt 23]) (by kernel_rfl)
    (aq ⟨(dT hlt), hs, (Int.le_refl _), (map_at hz), (dT g1), rfl, trivial⟩)
theorem dl14a_2 (b : List Post) (o : SO) (s : Nat) (r : List Rd) (q : SO) (t : Nat) (hs : szOk 4 (.pv (.sl q t (List.map Rd.pv r))) = true) (nx : Int) (z : Rd) (hz : r[0]? = some z) (hlt : 0 < (↑(List.length (List.map Rd.pv r)) : Int)) (g1 : ¬Rd.id z < 1) (g2 : Rd.id z ≥ nx) :
    lv (cv (ev X E0) xf14_l0) (rl [1, 1]) 1 (S14d b o s r q t nx 0) = some (XExit.ret, St.mk (tmOf 99 [(2, AV.b false)]) [.cells [.pv (.sl o s (List.map Post.pv b)), .pv (.sl q t (List.map Rd.pv r)), vi nx], .cells [vi (Rd.id z), vi (Rd.sees z), vw (Rd.known z), vw (Rd.value z)]]) :=
  lv_ret ([.br true, .sz, .el (.agg [PV.int .i64 (Rd.id z), .int .i64 (Rd.sees z), .int .i32 (Rd.known z), .int .i32 (Rd.value z)])] ++ bs 6 false ++ bs 23 true)
    (c := rq [(1, decide (0 < (↑(List.length (List.map Rd.pv r)) : Int)) = true), ty hs, (1, (0 : Int) ≤ (0 : Int)), (1, (List.map Rd.pv r)[0]? = some (PV.agg [PV.int .i64 (Rd.id z), .int .i64 (Rd.sees z), .int .i32 (Rd.known z), .int .i32 (Rd.value z)])), (6, decide (Rd.id z < 1) = false), (4, decide (Rd.id z ≥ nx) = true), zt 19]) (by kernel_rfl)
    (aq ⟨(dT hlt), hs, (Int.le_refl _), (map_at hz), (dF g1), (dT g2), rfl, trivial⟩)
theorem dl14a_3 (b : List Post) (o : SO) (s : Nat) (r : List Rd) (q : SO) (t : Nat) (hs : szOk 4 (.pv (.sl q t (List.map Rd.pv r))) = true) (nx : Int) (z : Rd) (hz : r[0]? = some z) (hlt : 0 < (↑(List.length (List.map Rd.pv r)) : Int)) (g1 : ¬Rd.id z < 1) (g2 : ¬Rd.id z ≥ nx) (g3 : Rd.sees z < 0) :
    lv (cv (ev X E0) xf14_l0) (rl [1, 1]) 1 (S14d b o s r q t nx 0) = some (XExit.ret, St.mk (tmOf 99 [(2, AV.b false)]) [.cells [.pv (.sl o s (List.map Post.pv b)), .pv (.sl q t (List.map Rd.pv r)), vi nx], .cells [vi (Rd.id z), vi (Rd.sees z), vw (Rd.known z), vw (Rd.value z)]]) :=
  lv_ret ([.br true, .sz, .el (.agg [PV.int .i64 (Rd.id z), .int .i64 (Rd.sees z), .int .i32 (Rd.known z), .int .i32 (Rd.value z)])] ++ bs 10 false ++ bs 19 true)
    (c := rq [(1, decide (0 < (↑(List.length (List.map Rd.pv r)) : Int)) = true), ty hs, (1, (0 : Int) ≤ (0 : Int)), (1, (List.map Rd.pv r)[0]? = some (PV.agg [PV.int .i64 (Rd.id z), .int .i64 (Rd.sees z), .int .i32 (Rd.known z), .int .i32 (Rd.value z)])), (6, decide (Rd.id z < 1) = false), (4, decide (Rd.id z ≥ nx) = false), (8, decide (Rd.sees z < 0) = true), zt 11]) (by kernel_rfl)
    (aq ⟨(dT hlt), hs, (Int.le_refl _), (map_at hz), (dF g1), (dF g2), (dT g3), rfl, trivial⟩)
theorem dl14a_4 (b : List Post) (o : SO) (s : Nat) (r : List Rd) (q : SO) (t : Nat) (hs : szOk 4 (.pv (.sl q t (List.map Rd.pv r))) = true) (nx : Int) (z : Rd) (hz : r[0]? = some z) (hlt : 0 < (↑(List.length (List.map Rd.pv r)) : Int)) (g1 : ¬Rd.id z < 1) (g2 : ¬Rd.id z ≥ nx) (g3 : ¬Rd.sees z < 0) (g4 : Rd.sees z > (↑(List.length (List.map Post.pv b)) : Int)) :
    lv (cv (ev X E0) xf14_l0) (rl [1, 1]) 1 (S14d b o s r q t nx 0) = some (XExit.ret, St.mk (tmOf 99 [(2, AV.b false)]) [.cells [.pv (.sl o s (List.map Post.pv b)), .pv (.sl q t (List.map Rd.pv r)), vi nx], .cells [vi (Rd.id z), vi (Rd.sees z), vw (Rd.known z), vw (Rd.value z)]]) :=
  lv_ret ([.br true, .sz, .el (.agg [PV.int .i64 (Rd.id z), .int .i64 (Rd.sees z), .int .i32 (Rd.known z), .int .i32 (Rd.value z)])] ++ bs 18 false ++ bs 11 true)
    (c := rq [(1, decide (0 < (↑(List.length (List.map Rd.pv r)) : Int)) = true), ty hs, (1, (0 : Int) ≤ (0 : Int)), (1, (List.map Rd.pv r)[0]? = some (PV.agg [PV.int .i64 (Rd.id z), .int .i64 (Rd.sees z), .int .i32 (Rd.known z), .int .i32 (Rd.value z)])), (6, decide (Rd.id z < 1) = false), (4, decide (Rd.id z ≥ nx) = false), (8, decide (Rd.sees z < 0) = false), (5, decide (Rd.sees z > (↑(List.length (List.map Post.pv b)) : Int)) = true), zt 6]) (by kernel_rfl)
    (aq ⟨(dT hlt), hs, (Int.le_refl _), (map_at hz), (dF g1), (dF g2), (dF g3), (dT g4), rfl, trivial⟩)
theorem dl14a_5 (b : List Post) (o : SO) (s : Nat) (r : List Rd) (q : SO) (t : Nat) (hs : szOk 4 (.pv (.sl q t (List.map Rd.pv r))) = true) (nx : Int) (z : Rd) (hz : r[0]? = some z) (hlt : 0 < (↑(List.length (List.map Rd.pv r)) : Int)) (g1 : ¬Rd.id z < 1) (g2 : ¬Rd.id z ≥ nx) (g3 : ¬Rd.sees z < 0) (g4 : ¬Rd.sees z > (↑(List.length (List.map Post.pv b)) : Int)) (g5 : datOk (Rd.known z) = false) :
    lv (cv (ev X E0) xf14_l0) (rl [1, 1]) 1 (S14d b o s r q t nx 0) = some (XExit.ret, St.mk (tmOf 99 [(2, AV.b false)]) [.cells [.pv (.sl o s (List.map Post.pv b)), .pv (.sl q t (List.map Rd.pv r)), vi nx], .cells [vi (Rd.id z), vi (Rd.sees z), vw (Rd.known z), vw (Rd.value z)]]) :=
  lv_ret ([.br true, .sz, .el (.agg [PV.int .i64 (Rd.id z), .int .i64 (Rd.sees z), .int .i32 (Rd.known z), .int .i32 (Rd.value z)])] ++ bs 21 false ++ [.call (AV.c (.pv (.bool (datOk (Rd.known z))))) [], .br false, .br false] ++ bs 6 true)
    (c := rq [(1, decide (0 < (↑(List.length (List.map Rd.pv r)) : Int)) = true), ty hs, (1, (0 : Int) ≤ (0 : Int)), (1, (List.map Rd.pv r)[0]? = some (PV.agg [PV.int .i64 (Rd.id z), .int .i64 (Rd.sees z), .int .i32 (Rd.known z), .int .i32 (Rd.value z)])), (6, decide (Rd.id z < 1) = false), (4, decide (Rd.id z ≥ nx) = false), (8, decide (Rd.sees z < 0) = false), (3, decide (Rd.sees z > (↑(List.length (List.map Post.pv b)) : Int)) = false), (1, cc (ev X E0) 54 [AV.c (vw (Rd.known z))] [] = some (AV.c (.pv (.bool (datOk (Rd.known z)))), [])), (2, decide (Rd.sees z > (↑(List.length (List.map Post.pv b)) : Int)) = false), (5, (!datOk (Rd.known z)) = true), zt 1]) (by kernel_rfl)
    (aq ⟨(dT hlt), hs, (Int.le_refl _), (map_at hz), (dF g1), (dF g2), (dF g3), (dF g4), (s72 _), (dF g4), (not_t g5), rfl, trivial⟩)
theorem dl14a_6 (b : List Post) (o : SO) (s : Nat) (r : List Rd) (q : SO) (t : Nat) (hs : szOk 4 (.pv (.sl q t (List.map Rd.pv r))) = true) (nx : Int) (z : Rd) (hz : r[0]? = some z) (hlt : 0 < (↑(List.length (List.map Rd.pv r)) : Int)) (g1 : ¬Rd.id z < 1) (g2 : ¬Rd.id z ≥ nx) (g3 : ¬Rd.sees z < 0) (g4 : ¬Rd.sees z > (↑(List.length (List.map Post.pv b)) : Int)) (g5 : datOk (Rd.known z) = true) (g6 : datOk (Rd.value z) = false) :
    lv (cv (ev X E0) xf14_l0) (rl [1, 1]) 1 (S14d b o s r q t nx 0) = some (XExit.ret, St.mk (tmOf 99 [(2, AV.b false)]) [.cells [.pv (.sl o s (List.map Post.pv b)), .pv (.sl q t (List.map Rd.pv r)), vi nx], .cells [vi (Rd.id z), vi (Rd.sees z), vw (Rd.known z), vw (Rd.value z)]]) :=
  lv_ret ([.br true, .sz, .el (.agg [PV.int .i64 (Rd.id z), .int .i64 (Rd.sees z), .int .i32 (Rd.known z), .int .i32 (Rd.value z)])] ++ bs 21 false ++ [.call (AV.c (.pv (.bool (datOk (Rd.known z))))) []] ++ bs 5 false ++ [.call (AV.c (.pv (.bool (datOk (Rd.value z))))) [], .br false, .br false, .br true])
    (c := rq [(1, decide (0 < (↑(List.length (List.map Rd.pv r)) : Int)) = true), ty hs, (1, (0 : Int) ≤ (0 : Int)), (1, (List.map Rd.pv r)[0]? = some (PV.agg [PV.int .i64 (Rd.id z), .int .i64 (Rd.sees z), .int .i32 (Rd.known z), .int .i32 (Rd.value z)])), (6, decide (Rd.id z < 1) = false), (4, decide (Rd.id z ≥ nx) = false), (8, decide (Rd.sees z < 0) = false), (3, decide (Rd.sees z > (↑(List.length (List.map Post.pv b)) : Int)) = false), (1, cc (ev X E0) 54 [AV.c (vw (Rd.known z))] [] = some (AV.c (.pv (.bool (datOk (Rd.known z)))), [])), (2, decide (Rd.sees z > (↑(List.length (List.map Post.pv b)) : Int)) = false), (3, (!datOk (Rd.known z)) = false), (1, cc (ev X E0) 54 [AV.c (vw (Rd.value z))] [] = some (AV.c (.pv (.bool (datOk (Rd.value z)))), [])), (2, (!datOk (Rd.known z)) = false), (1, (!datOk (Rd.value z)) = true)]) (by kernel_rfl)
    (aq ⟨(dT hlt), hs, (Int.le_refl _), (map_at hz), (dF g1), (dF g2), (dF g3), (dF g4), (s72 _), (dF g4), (not_f g5), (s72 _), (not_f g5), (not_t g6), trivial⟩)
theorem dl14a_7 (b : List Post) (o : SO) (s : Nat) (r : List Rd) (q : SO) (t : Nat) (hs : szOk 4 (.pv (.sl q t (List.map Rd.pv r))) = true) (nx : Int) (z : Rd) (hz : r[0]? = some z) (hlt : 0 < (↑(List.length (List.map Rd.pv r)) : Int)) (g1 : ¬Rd.id z < 1) (g2 : ¬Rd.id z ≥ nx) (g3 : ¬Rd.sees z < 0) (g4 : ¬Rd.sees z > (↑(List.length (List.map Post.pv b)) : Int)) (g5 : datOk (Rd.known z) = true) (g6 : datOk (Rd.value z) = true) :
    lv (cv (ev X E0) xf14_l0) (rl [1, 1]) 1 (S14d b o s r q t nx 0) = lv (cv (ev X E0) xf14_l0) (rl [1, 1]) 1 (St.mk (tmOf 99 [(1, AV.c (.ptr 0 0)), (3, AV.c (vi 1))]) [.cells [.pv (.sl o s (List.map Post.pv b)), .pv (.sl q t (List.map Rd.pv r)), vi nx]]) :=
  lv_next ([.br true, .sz, .el (.agg [PV.int .i64 (Rd.id z), .int .i64 (Rd.sees z), .int .i32 (Rd.known z), .int .i32 (Rd.value z)])] ++ bs 21 false ++ [.call (AV.c (.pv (.bool (datOk (Rd.known z))))) []] ++ bs 5 false ++ [.call (AV.c (.pv (.bool (datOk (Rd.value z))))) []] ++ bs 17 false)
    (c := rq [(1, decide (0 < (↑(List.length (List.map Rd.pv r)) : Int)) = true), ty hs, (1, (0 : Int) ≤ (0 : Int)), (1, (List.map Rd.pv r)[0]? = some (PV.agg [PV.int .i64 (Rd.id z), .int .i64 (Rd.sees z), .int .i32 (Rd.known z), .int .i32 (Rd.value z)])), (6, decide (Rd.id z < 1) = false), (4, decide (Rd.id z ≥ nx) = false), (8, decide (Rd.sees z < 0) = false), (3, decide (Rd.sees z > (↑(List.length (List.map Post.pv b)) : Int)) = false), (1, cc (ev X E0) 54 [AV.c (vw (Rd.known z))] [] = some (AV.c (.pv (.bool (datOk (Rd.known z)))), [])), (2, decide (Rd.sees z > (↑(List.length (List.map Post.pv b)) : Int)) = false), (3, (!datOk (Rd.known z)) = false), (1, cc (ev X E0) 54 [AV.c (vw (Rd.value z))] [] = some (AV.c (.pv (.bool (datOk (Rd.value z)))), [])), (2, (!datOk (Rd.known z)) = false), (1, (!datOk (Rd.value z)) = false), zf 14]) (by kernel_rfl)
    (aq ⟨(dT hlt), hs, (Int.le_refl _), (map_at hz), (dF g1), (dF g2), (dF g3), (dF g4), (s72 _), (dF g4), (not_f g5), (s72 _), (not_f g5), (not_f g6), rfl, trivial⟩)
theorem dl14b_1 (b : List Post) (o : SO) (s : Nat) (r : List Rd) (q : SO) (t : Nat) (hs : szOk 4 (.pv (.sl q t (List.map Rd.pv r))) = true) (nx : Int) (i : Nat) (_hi : (↑i : Int) > 0) (x z : Rd) (_hx : r[Int.toNat (IntKind.wrap .i64 ((↑i : Int) - 1))]? = some x) (hz : r[i]? = some z) (hlt : (↑i : Int) < (↑(List.length (List.map Rd.pv r)) : Int)) (g1 : Rd.id z < 1) :
    lv (cv (ev X E0) xf14_l0) (rl [1, 1]) 1 (S14d b o s r q t nx (↑i : Int)) = some (XExit.ret, St.mk (tmOf 99 [(2, AV.b false)]) [.cells [.pv (.sl o s (List.map Post.pv b)), .pv (.sl q t (List.map Rd.pv r)), vi nx], .cells [vi (Rd.id z), vi (Rd.sees z), vw (Rd.known z), vw (Rd.value z)]]) :=
  lv_ret ([.br true, .sz, .el (.agg [PV.int .i64 (Rd.id z), .int .i64 (Rd.sees z), .int .i32 (Rd.known z), .int .i32 (Rd.value z)])] ++ bs 29 true)
    (c := rq [(1, decide ((↑i : Int) < (↑(List.length (List.map Rd.pv r)) : Int)) = true), ty hs, (1, 0 ≤ (↑i : Int)), (1, (List.map Rd.pv r)[i]? = some (PV.agg [PV.int .i64 (Rd.id z), .int .i64 (Rd.sees z), .int .i32 (Rd.known z), .int .i32 (Rd.value z)])), (6, decide (Rd.id z < 1) = true), zt 23]) (by kernel_rfl)
    (aq ⟨(dT hlt), hs, (Int.natCast_nonneg _), (map_at hz), (dT g1), rfl, trivial⟩)
theorem dl14b_2 (b : List Post) (o : SO) (s : Nat) (r : List Rd) (q : SO) (t : Nat) (hs : szOk 4 (.pv (.sl q t (List.map Rd.pv r))) = true) (nx : Int) (i : Nat) (_hi : (↑i : Int) > 0) (x z : Rd) (_hx : r[Int.toNat (IntKind.wrap .i64 ((↑i : Int) - 1))]? = some x) (hz : r[i]? = some z) (hlt : (↑i : Int) < (↑(List.length (List.map Rd.pv r)) : Int)) (g1 : ¬Rd.id z < 1) (g2 : Rd.id z ≥ nx) :
    lv (cv (ev X E0) xf14_l0) (rl [1, 1]) 1 (S14d b o s r q t nx (↑i : Int)) = some (XExit.ret, St.mk (tmOf 99 [(2, AV.b false)]) [.cells [.pv (.sl o s (List.map Post.pv b)), .pv (.sl q t (List.map Rd.pv r)), vi nx], .cells [vi (Rd.id z), vi (Rd.sees z), vw (Rd.known z), vw (Rd.value z)]]) :=
  lv_ret ([.br true, .sz, .el (.agg [PV.int .i64 (Rd.id z), .int .i64 (Rd.sees z), .int .i32 (Rd.known z), .int .i32 (Rd.value z)])] ++ bs 6 false ++ bs 23 true)
    (c := rq [(1, decide ((↑i : Int) < (↑(List.length (List.map Rd.pv r)) : Int)) = true), ty hs, (1, 0 ≤ (↑i : Int)), (1, (List.map Rd.pv r)[i]? = some (PV.agg [PV.int .i64 (Rd.id z), .int .i64 (Rd.sees z), .int .i32 (Rd.known z), .int .i32 (Rd.value z)])), (6, decide (Rd.id z < 1) = false), (4, decide (Rd.id z ≥ nx) = true), zt 19]) (by kernel_rfl)
    (aq ⟨(dT hlt), hs, (Int.natCast_nonneg _), (map_at hz), (dF g1), (dT g2), rfl, trivial⟩)
theorem dl14b_3 (b : List Post) (o : SO) (s : Nat) (r : List Rd) (q : SO) (t : Nat) (hs : szOk 4 (.pv (.sl q t (List.map Rd.pv r))) = true) (nx : Int) (i : Nat) (_hi : (↑i : Int) > 0) (x z : Rd) (_hx : r[Int.toNat (IntKind.wrap .i64 ((↑i : Int) - 1))]? = some x) (hz : r[i]? = some z) (hlt : (↑i : Int) < (↑(List.length (List.map Rd.pv r)) : Int)) (g1 : ¬Rd.id z < 1) (g2 : ¬Rd.id z ≥ nx) (g3 : Rd.sees z < 0) :
    lv (cv (ev X E0) xf14_l0) (rl [1, 1]) 1 (S14d b o s r q t nx (↑i : Int)) = some (XExit.ret, St.mk (tmOf 99 [(2, AV.b false)]) [.cells [.pv (.sl o s (List.map Post.pv b)), .pv (.sl q t (List.map Rd.pv r)), vi nx], .cells [vi (Rd.id z), vi (Rd.sees z), vw (Rd.known z), vw (Rd.value z)]]) :=
  lv_ret ([.br true, .sz, .el (.agg [PV.int .i64 (Rd.id z), .int .i64 (Rd.sees z), .int .i32 (Rd.known z), .int .i32 (Rd.value z)])] ++ bs 10 false ++ bs 19 true)
    (c := rq [(1, decide ((↑i : Int) < (↑(List.length (List.map Rd.pv r)) : Int)) = true), ty hs, (1, 0 ≤ (↑i : Int)), (1, (List.map Rd.pv r)[i]? = some (PV.agg [PV.int .i64 (Rd.id z), .int .i64 (Rd.sees z), .int .i32 (Rd.known z), .int .i32 (Rd.value z)])), (6, decide (Rd.id z < 1) = false), (4, decide (Rd.id z ≥ nx) = false), (8, decide (Rd.sees z < 0) = true), zt 11]) (by kernel_rfl)
    (aq ⟨(dT hlt), hs, (Int.natCast_nonneg _), (map_at hz), (dF g1), (dF g2), (dT g3), rfl, trivial⟩)
theorem dl14b_4 (b : List Post) (o : SO) (s : Nat) (r : List Rd) (q : SO) (t : Nat) (hs : szOk 4 (.pv (.sl q t (List.map Rd.pv r))) = true) (nx : Int) (i : Nat) (_hi : (↑i : Int) > 0) (x z : Rd) (_hx : r[Int.toNat (IntKind.wrap .i64 ((↑i : Int) - 1))]? = some x) (hz : r[i]? = some z) (hlt : (↑i : Int) < (↑(List.length (List.map Rd.pv r)) : Int)) (g1 : ¬Rd.id z < 1) (g2 : ¬Rd.id z ≥ nx) (g3 : ¬Rd.sees z < 0) (g4 : Rd.sees z > (↑(List.length (List.map Post.pv b)) : Int)) :
    lv (cv (ev X E0) xf14_l0) (rl [1, 1]) 1 (S14d b o s r q t nx (↑i : Int)) = some (XExit.ret, St.mk (tmOf 99 [(2, AV.b false)]) [.cells [.pv (.sl o s (List.map Post.pv b)), .pv (.sl q t (List.map Rd.pv r)), vi nx], .cells [vi (Rd.id z), vi (Rd.sees z), vw (Rd.known z), vw (Rd.value z)]]) :=
  lv_ret ([.br true, .sz, .el (.agg [PV.int .i64 (Rd.id z), .int .i64 (Rd.sees z), .int .i32 (Rd.known z), .int .i32 (Rd.value z)])] ++ bs 18 false ++ bs 11 true)
    (c := rq [(1, decide ((↑i : Int) < (↑(List.length (List.map Rd.pv r)) : Int)) = true), ty hs, (1, 0 ≤ (↑i : Int)), (1, (List.map Rd.pv r)[i]? = some (PV.agg [PV.int .i64 (Rd.id z), .int .i64 (Rd.sees z), .int .i32 (Rd.known z), .int .i32 (Rd.value z)])), (6, decide (Rd.id z < 1) = false), (4, decide (Rd.id z ≥ nx) = false), (8, decide (Rd.sees z < 0) = false), (5, decide (Rd.sees z > (↑(List.length (List.map Post.pv b)) : Int)) = true), zt 6]) (by kernel_rfl)
    (aq ⟨(dT hlt), hs, (Int.natCast_nonneg _), (map_at hz), (dF g1), (dF g2), (dF g3), (dT g4), rfl, trivial⟩)
theorem dl14b_5 (b : List Post) (o : SO) (s : Nat) (r : List Rd) (q : SO) (t : Nat) (hs : szOk 4 (.pv (.sl q t (List.map Rd.pv r))) = true) (nx : Int) (i : Nat) (_hi : (↑i : Int) > 0) (x z : Rd) (_hx : r[Int.toNat (IntKind.wrap .i64 ((↑i : Int) - 1))]? = some x) (hz : r[i]? = some z) (hlt : (↑i : Int) < (↑(List.length (List.map Rd.pv r)) : Int)) (g1 : ¬Rd.id z < 1) (g2 : ¬Rd.id z ≥ nx) (g3 : ¬Rd.sees z < 0) (g4 : ¬Rd.sees z > (↑(List.length (List.map Post.pv b)) : Int)) (g5 : datOk (Rd.known z) = false) :
    lv (cv (ev X E0) xf14_l0) (rl [1, 1]) 1 (S14d b o s r q t nx (↑i : Int)) = some (XExit.ret, St.mk (tmOf 99 [(2, AV.b false)]) [.cells [.pv (.sl o s (List.map Post.pv b)), .pv (.sl q t (List.map Rd.pv r)), vi nx], .cells [vi (Rd.id z), vi (Rd.sees z), vw (Rd.known z), vw (Rd.value z)]]) :=
  lv_ret ([.br true, .sz, .el (.agg [PV.int .i64 (Rd.id z), .int .i64 (Rd.sees z), .int .i32 (Rd.known z), .int .i32 (Rd.value z)])] ++ bs 21 false ++ [.call (AV.c (.pv (.bool (datOk (Rd.known z))))) [], .br false, .br false] ++ bs 6 true)
    (c := rq [(1, decide ((↑i : Int) < (↑(List.length (List.map Rd.pv r)) : Int)) = true), ty hs, (1, 0 ≤ (↑i : Int)), (1, (List.map Rd.pv r)[i]? = some (PV.agg [PV.int .i64 (Rd.id z), .int .i64 (Rd.sees z), .int .i32 (Rd.known z), .int .i32 (Rd.value z)])), (6, decide (Rd.id z < 1) = false), (4, decide (Rd.id z ≥ nx) = false), (8, decide (Rd.sees z < 0) = false), (3, decide (Rd.sees z > (↑(List.length (List.map Post.pv b)) : Int)) = false), (1, cc (ev X E0) 54 [AV.c (vw (Rd.known z))] [] = some (AV.c (.pv (.bool (datOk (Rd.known z)))), [])), (2, decide (Rd.sees z > (↑(List.length (List.map Post.pv b)) : Int)) = false), (5, (!datOk (Rd.known z)) = true), zt 1]) (by kernel_rfl)
    (aq ⟨(dT hlt), hs, (Int.natCast_nonneg _), (map_at hz), (dF g1), (dF g2), (dF g3), (dF g4), (s72 _), (dF g4), (not_t g5), rfl, trivial⟩)
theorem dl14b_6 (b : List Post) (o : SO) (s : Nat) (r : List Rd) (q : SO) (t : Nat) (hs : szOk 4 (.pv (.sl q t (List.map Rd.pv r))) = true) (nx : Int) (i : Nat) (_hi : (↑i : Int) > 0) (x z : Rd) (_hx : r[Int.toNat (IntKind.wrap .i64 ((↑i : Int) - 1))]? = some x) (hz : r[i]? = some z) (hlt : (↑i : Int) < (↑(List.length (List.map Rd.pv r)) : Int)) (g1 : ¬Rd.id z < 1) (g2 : ¬Rd.id z ≥ nx) (g3 : ¬Rd.sees z < 0) (g4 : ¬Rd.sees z > (↑(List.length (List.map Post.pv b)) : Int)) (g5 : datOk (Rd.known z) = true) (g6 : datOk (Rd.value z) = false) :
    lv (cv (ev X E0) xf14_l0) (rl [1, 1]) 1 (S14d b o s r q t nx (↑i : Int)) = some (XExit.ret, St.mk (tmOf 99 [(2, AV.b false)]) [.cells [.pv (.sl o s (List.map Post.pv b)), .pv (.sl q t (List.map Rd.pv r)), vi nx], .cells [vi (Rd.id z), vi (Rd.sees z), vw (Rd.known z), vw (Rd.value z)]]) :=
  lv_ret ([.br true, .sz, .el (.agg [PV.int .i64 (Rd.id z), .int .i64 (Rd.sees z), .int .i32 (Rd.known z), .int .i32 (Rd.value z)])] ++ bs 21 false ++ [.call (AV.c (.pv (.bool (datOk (Rd.known z))))) []] ++ bs 5 false ++ [.call (AV.c (.pv (.bool (datOk (Rd.value z))))) [], .br false, .br false, .br true])
    (c := rq [(1, decide ((↑i : Int) < (↑(List.length (List.map Rd.pv r)) : Int)) = true), ty hs, (1, 0 ≤ (↑i : Int)), (1, (List.map Rd.pv r)[i]? = some (PV.agg [PV.int .i64 (Rd.id z), .int .i64 (Rd.sees z), .int .i32 (Rd.known z), .int .i32 (Rd.value z)])), (6, decide (Rd.id z < 1) = false), (4, decide (Rd.id z ≥ nx) = false), (8, decide (Rd.sees z < 0) = false), (3, decide (Rd.sees z > (↑(List.length (List.map Post.pv b)) : Int)) = false), (1, cc (ev X E0) 54 [AV.c (vw (Rd.known z))] [] = some (AV.c (.pv (.bool (datOk (Rd.known z)))), [])), (2, decide (Rd.sees z > (↑(List.length (List.map Post.pv b)) : Int)) = false), (3, (!datOk (Rd.known z)) = false), (1, cc (ev X E0) 54 [AV.c (vw (Rd.value z))] [] = some (AV.c (.pv (.bool (datOk (Rd.value z)))), [])), (2, (!datOk (Rd.known z)) = false), (1, (!datOk (Rd.value z)) = true)]) (by kernel_rfl)
    (aq ⟨(dT hlt), hs, (Int.natCast_nonneg _), (map_at hz), (dF g1), (dF g2), (dF g3), (dF g4), (s72 _), (dF g4), (not_f g5), (s72 _), (not_f g5), (not_t g6), trivial⟩)
theorem dl14b_7 (b : List Post) (o : SO) (s : Nat) (r : List Rd) (q : SO) (t : Nat) (hs : szOk 4 (.pv (.sl q t (List.map Rd.pv r))) = true) (nx : Int) (i : Nat) (hi : (↑i : Int) > 0) (x z : Rd) (hx : r[Int.toNat (IntKind.wrap .i64 ((↑i : Int) - 1))]? = some x) (hz : r[i]? = some z) (hlt : (↑i : Int) < (↑(List.length (List.map Rd.pv r)) : Int)) (g1 : ¬Rd.id z < 1) (g2 : ¬Rd.id z ≥ nx) (g3 : ¬Rd.sees z < 0) (g4 : ¬Rd.sees z > (↑(List.length (List.map Post.pv b)) : Int)) (g5 : datOk (Rd.known z) = true) (g6 : datOk (Rd.value z) = true) (g7 : 0 ≤ IntKind.wrap .i64 ((↑i : Int) - 1)) (g8 : Rd.id z ≤ Rd.id x) :
    lv (cv (ev X E0) xf14_l0) (rl [1, 1]) 1 (S14d b o s r q t nx (↑i : Int)) = some (XExit.ret, St.mk (tmOf 99 [(2, AV.b false)]) [.cells [.pv (.sl o s (List.map Post.pv b)), .pv (.sl q t (List.map Rd.pv r)), vi nx], .cells [vi (Rd.id z), vi (Rd.sees z), vw (Rd.known z), vw (Rd.value z)]]) :=
  lv_ret ([.br true, .sz, .el (.agg [PV.int .i64 (Rd.id z), .int .i64 (Rd.sees z), .int .i32 (Rd.known z), .int .i32 (Rd.value z)])] ++ bs 21 false ++ [.call (AV.c (.pv (.bool (datOk (Rd.known z))))) []] ++ bs 5 false ++ [.call (AV.c (.pv (.bool (datOk (Rd.value z))))) []] ++ bs 3 false ++ bs 7 true ++ [.sz, .el (.agg [PV.int .i64 (Rd.id x), .int .i64 (Rd.sees x), .int .i32 (Rd.known x), .int .i32 (Rd.value x)])] ++ bs 18 true)
    (c := rq [(1, decide ((↑i : Int) < (↑(List.length (List.map Rd.pv r)) : Int)) = true), ty hs, (1, 0 ≤ (↑i : Int)), (1, (List.map Rd.pv r)[i]? = some (PV.agg [PV.int .i64 (Rd.id z), .int .i64 (Rd.sees z), .int .i32 (Rd.known z), .int .i32 (Rd.value z)])), (6, decide (Rd.id z < 1) = false), (4, decide (Rd.id z ≥ nx) = false), (8, decide (Rd.sees z < 0) = false), (3, decide (Rd.sees z > (↑(List.length (List.map Post.pv b)) : Int)) = false), (1, cc (ev X E0) 54 [AV.c (vw (Rd.known z))] [] = some (AV.c (.pv (.bool (datOk (Rd.known z)))), [])), (2, decide (Rd.sees z > (↑(List.length (List.map Post.pv b)) : Int)) = false), (3, (!datOk (Rd.known z)) = false), (1, cc (ev X E0) 54 [AV.c (vw (Rd.value z))] [] = some (AV.c (.pv (.bool (datOk (Rd.value z)))), [])), (2, (!datOk (Rd.known z)) = false), (1, (!datOk (Rd.value z)) = false), (7, decide ((↑i : Int) > 0) = true), ty hs, ty g7, (1, (List.map Rd.pv r)[Int.toNat (IntKind.wrap .i64 ((↑i : Int) - 1))]? = some (PV.agg [PV.int .i64 (Rd.id x), .int .i64 (Rd.sees x), .int .i32 (Rd.known x), .int .i32 (Rd.value x)])), (4, decide ((↑i : Int) > 0) = true), (10, decide (Rd.id z ≤ Rd.id x) = true), (1, decide ((↑i : Int) > 0) = true), (1, decide (Rd.id z ≤ Rd.id x) = true), (1, decide ((↑i : Int) > 0) = true), zt 1]) (by kernel_rfl)
    (aq ⟨(dT hlt), hs, (Int.natCast_nonneg _), (map_at hz), (dF g1), (dF g2), (dF g3), (dF g4), (s72 _), (dF g4), (not_f g5), (s72 _), (not_f g5), (not_f g6), (dT hi), hs, g7, (map_at hx), (dT hi), (dT g8), (dT hi), (dT g8), (dT hi), rfl, trivial⟩)
theorem dl14b_8 (b : List Post) (o : SO) (s : Nat) (r : List Rd) (q : SO) (t : Nat) (hs : szOk 4 (.pv (.sl q t (List.map Rd.pv r))) = true) (nx : Int) (i : Nat) (hi : (↑i : Int) > 0) (x z : Rd) (hx : r[Int.toNat (IntKind.wrap .i64 ((↑i : Int) - 1))]? = some x) (hz : r[i]? = some z) (hlt : (↑i : Int) < (↑(List.length (List.map Rd.pv r)) : Int)) (g1 : ¬Rd.id z < 1) (g2 : ¬Rd.id z ≥ nx) (g3 : ¬Rd.sees z < 0) (g4 : ¬Rd.sees z > (↑(List.length (List.map Post.pv b)) : Int)) (g5 : datOk (Rd.known z) = true) (g6 : datOk (Rd.value z) = true) (g7 : 0 ≤ IntKind.wrap .i64 ((↑i : Int) - 1)) (g8 : ¬Rd.id z ≤ Rd.id x) (g9 : Rd.sees z < Rd.sees x) :
    lv (cv (ev X E0) xf14_l0) (rl [1, 1]) 1 (S14d b o s r q t nx (↑i : Int)) = some (XExit.ret, St.mk (tmOf 99 [(2, AV.b false)]) [.cells [.pv (.sl o s (List.map Post.pv b)), .pv (.sl q t (List.map Rd.pv r)), vi nx], .cells [vi (Rd.id z), vi (Rd.sees z), vw (Rd.known z), vw (Rd.value z)]]) :=
  lv_ret ([.br true, .sz, .el (.agg [PV.int .i64 (Rd.id z), .int .i64 (Rd.sees z), .int .i32 (Rd.known z), .int .i32 (Rd.value z)])] ++ bs 21 false ++ [.call (AV.c (.pv (.bool (datOk (Rd.known z))))) []] ++ bs 5 false ++ [.call (AV.c (.pv (.bool (datOk (Rd.value z))))) []] ++ bs 3 false ++ bs 7 true ++ [.sz, .el (.agg [PV.int .i64 (Rd.id x), .int .i64 (Rd.sees x), .int .i32 (Rd.known x), .int .i32 (Rd.value x)])] ++ bs 4 true ++ bs 7 false ++ [.sz, .el (.agg [PV.int .i64 (Rd.id x), .int .i64 (Rd.sees x), .int .i32 (Rd.known x), .int .i32 (Rd.value x)])] ++ bs 3 false ++ [.br true, .br false, .br true, .br true])
    (c := rq [(1, decide ((↑i : Int) < (↑(List.length (List.map Rd.pv r)) : Int)) = true), ty hs, (1, 0 ≤ (↑i : Int)), (1, (List.map Rd.pv r)[i]? = some (PV.agg [PV.int .i64 (Rd.id z), .int .i64 (Rd.sees z), .int .i32 (Rd.known z), .int .i32 (Rd.value z)])), (6, decide (Rd.id z < 1) = false), (4, decide (Rd.id z ≥ nx) = false), (8, decide (Rd.sees z < 0) = false), (3, decide (Rd.sees z > (↑(List.length (List.map Post.pv b)) : Int)) = false), (1, cc (ev X E0) 54 [AV.c (vw (Rd.known z))] [] = some (AV.c (.pv (.bool (datOk (Rd.known z)))), [])), (2, decide (Rd.sees z > (↑(List.length (List.map Post.pv b)) : Int)) = false), (3, (!datOk (Rd.known z)) = false), (1, cc (ev X E0) 54 [AV.c (vw (Rd.value z))] [] = some (AV.c (.pv (.bool (datOk (Rd.value z)))), [])), (2, (!datOk (Rd.known z)) = false), (1, (!datOk (Rd.value z)) = false), (7, decide ((↑i : Int) > 0) = true), ty hs, ty g7, (1, (List.map Rd.pv r)[Int.toNat (IntKind.wrap .i64 ((↑i : Int) - 1))]? = some (PV.agg [PV.int .i64 (Rd.id x), .int .i64 (Rd.sees x), .int .i32 (Rd.known x), .int .i32 (Rd.value x)])), (4, decide ((↑i : Int) > 0) = true), (7, decide (Rd.id z ≤ Rd.id x) = false), ty hs, ty g7, (1, (List.map Rd.pv r)[Int.toNat (IntKind.wrap .i64 ((↑i : Int) - 1))]? = some (PV.agg [PV.int .i64 (Rd.id x), .int .i64 (Rd.sees x), .int .i32 (Rd.known x), .int .i32 (Rd.value x)])), (3, decide (Rd.id z ≤ Rd.id x) = false), (1, decide ((↑i : Int) > 0) = true), (1, decide (Rd.id z ≤ Rd.id x) = false), (1, decide ((↑i : Int) > 0) = true), (1, decide (Rd.sees z < Rd.sees x) = true)]) (by kernel_rfl)
    (aq ⟨(dT hlt), hs, (Int.natCast_nonneg _), (map_at hz), (dF g1), (dF g2), (dF g3), (dF g4), (s72 _), (dF g4), (not_f g5), (s72 _), (not_f g5), (not_f g6), (dT hi), hs, g7, (map_at hx), (dT hi), (dF g8), hs, g7, (map_at hx), (dF g8), (dT hi), (dF g8), (dT hi), (dT g9), trivial⟩)
theorem dl14b_9 (b : List Post) (o : SO) (s : Nat) (r : List Rd) (q : SO) (t : Nat) (hs : szOk 4 (.pv (.sl q t (List.map Rd.pv r))) = true) (nx : Int) (i : Nat) (hi : (↑i : Int) > 0) (x z : Rd) (hx : r[Int.toNat (IntKind.wrap .i64 ((↑i : Int) - 1))]? = some x) (hz : r[i]? = some z) (hlt : (↑i : Int) < (↑(List.length (List.map Rd.pv r)) : Int)) (g1 : ¬Rd.id z < 1) (g2 : ¬Rd.id z ≥ nx) (g3 : ¬Rd.sees z < 0) (g4 : ¬Rd.sees z > (↑(List.length (List.map Post.pv b)) : Int)) (g5 : datOk (Rd.known z) = true) (g6 : datOk (Rd.value z) = true) (g7 : 0 ≤ IntKind.wrap .i64 ((↑i : Int) - 1)) (g8 : ¬Rd.id z ≤ Rd.id x) (g9 : ¬Rd.sees z < Rd.sees x) :
    lv (cv (ev X E0) xf14_l0) (rl [1, 1]) 1 (S14d b o s r q t nx (↑i : Int)) = lv (cv (ev X E0) xf14_l0) (rl [1, 1]) 1 (St.mk (tmOf 99 [(1, AV.c (.ptr 0 0)), (3, AV.c (vi (IntKind.wrap .i64 ((↑i : Int) + 1))))]) [.cells [.pv (.sl o s (List.map Post.pv b)), .pv (.sl q t (List.map Rd.pv r)), vi nx]]) :=
  lv_next ([.br true, .sz, .el (.agg [PV.int .i64 (Rd.id z), .int .i64 (Rd.sees z), .int .i32 (Rd.known z), .int .i32 (Rd.value z)])] ++ bs 21 false ++ [.call (AV.c (.pv (.bool (datOk (Rd.known z))))) []] ++ bs 5 false ++ [.call (AV.c (.pv (.bool (datOk (Rd.value z))))) []] ++ bs 3 false ++ bs 7 true ++ [.sz, .el (.agg [PV.int .i64 (Rd.id x), .int .i64 (Rd.sees x), .int .i32 (Rd.known x), .int .i32 (Rd.value x)])] ++ bs 4 true ++ bs 7 false ++ [.sz, .el (.agg [PV.int .i64 (Rd.id x), .int .i64 (Rd.sees x), .int .i32 (Rd.known x), .int .i32 (Rd.value x)])] ++ bs 3 false ++ [.br true, .br false, .br true, .br false])
    (c := rq [(1, decide ((↑i : Int) < (↑(List.length (List.map Rd.pv r)) : Int)) = true), ty hs, (1, 0 ≤ (↑i : Int)), (1, (List.map Rd.pv r)[i]? = some (PV.agg [PV.int .i64 (Rd.id z), .int .i64 (Rd.sees z), .int .i32 (Rd.known z), .int .i32 (Rd.value z)])), (6, decide (Rd.id z < 1) = false), (4, decide (Rd.id z ≥ nx) = false), (8, decide (Rd.sees z < 0) = false), (3, decide (Rd.sees z > (↑(List.length (List.map Post.pv b)) : Int)) = false), (1, cc (ev X E0) 54 [AV.c (vw (Rd.known z))] [] = some (AV.c (.pv (.bool (datOk (Rd.known z)))), [])), (2, decide (Rd.sees z > (↑(List.length (List.map Post.pv b)) : Int)) = false), (3, (!datOk (Rd.known z)) = false), (1, cc (ev X E0) 54 [AV.c (vw (Rd.value z))] [] = some (AV.c (.pv (.bool (datOk (Rd.value z)))), [])), (2, (!datOk (Rd.known z)) = false), (1, (!datOk (Rd.value z)) = false), (7, decide ((↑i : Int) > 0) = true), ty hs, ty g7, (1, (List.map Rd.pv r)[Int.toNat (IntKind.wrap .i64 ((↑i : Int) - 1))]? = some (PV.agg [PV.int .i64 (Rd.id x), .int .i64 (Rd.sees x), .int .i32 (Rd.known x), .int .i32 (Rd.value x)])), (4, decide ((↑i : Int) > 0) = true), (7, decide (Rd.id z ≤ Rd.id x) = false), ty hs, ty g7, (1, (List.map Rd.pv r)[Int.toNat (IntKind.wrap .i64 ((↑i : Int) - 1))]? = some (PV.agg [PV.int .i64 (Rd.id x), .int .i64 (Rd.sees x), .int .i32 (Rd.known x), .int .i32 (Rd.value x)])), (3, decide (Rd.id z ≤ Rd.id x) = false), (1, decide ((↑i : Int) > 0) = true), (1, decide (Rd.id z ≤ Rd.id x) = false), (1, decide ((↑i : Int) > 0) = true), (1, decide (Rd.sees z < Rd.sees x) = false)]) (by kernel_rfl)
    (aq ⟨(dT hlt), hs, (Int.natCast_nonneg _), (map_at hz), (dF g1), (dF g2), (dF g3), (dF g4), (s72 _), (dF g4), (not_f g5), (s72 _), (not_f g5), (not_f g6), (dT hi), hs, g7, (map_at hx), (dT hi), (dF g8), hs, g7, (map_at hx), (dF g8), (dT hi), (dF g8), (dT hi), (dF g9), trivial⟩)
abbrev E14x (b : List Post) (o : SO) (s : Nat) (r : List Rd) (q : SO) (t : Nat) (nx : Int) : Option (XExit × St) := some (XExit.exit 0, St.mk (tmOf 99 []) [Box.cells (Dcs b o s r q t nx)])
abbrev E14r (b : List Post) (o : SO) (s : Nat) (r : List Rd) (q : SO) (t : Nat) (nx : Int) (z : Rd) : Option (XExit × St) := some (XExit.ret, St.mk (tmOf 99 [(2, AV.c (CV.pv (PV.bool false)))]) [Box.cells (Dcs b o s r q t nx), Box.cells (Rd.cs z)])
theorem df14e_1 (b : List Post) (o : SO) (s : Nat) (r : List Rd) (q : SO) (t : Nat) (nx : Int) (rb : Bool) (h22 : cc (ev X E0) 22 [Bk o s b] [] = some (AV.b rb, [])) (g1 : rb = false) :
    cc (ev X E0) 14 [AV.agg [.pv (.sl o s (List.map Post.pv b)), .pv (.sl q t (List.map Rd.pv r)), vi nx]] [] = some (AV.b false, []) :=
  cc_path (x := xf14) rfl ([kb rb] ++ bs 14 true)
    (c := rq [ty h22, (5, (!rb) = true), zt 9]) (by kernel_rfl)
    (aq ⟨h22, (not_t g1), rfl, trivial⟩)
theorem df14e_2 (b : List Post) (o : SO) (s : Nat) (r : List Rd) (q : SO) (t : Nat) (nx : Int) (rb : Bool) (h22 : cc (ev X E0) 22 [Bk o s b] [] = some (AV.b rb, [])) (g1 : rb = true) (g2 : (↑(List.length (List.map Rd.pv r)) : Int) > 16) :
    cc (ev X E0) 14 [AV.agg [.pv (.sl o s (List.map Post.pv b)), .pv (.sl q t (List.map Rd.pv r)), vi nx]] [] = some (AV.b false, []) :=
  cc_path (x := xf14) rfl ([kb rb] ++ bs 5 false ++ bs 9 true)
    (c := rq [ty h22, (5, (!rb) = false), (4, decide ((↑(List.length (List.map Rd.pv r)) : Int) > 16) = true), zt 5]) (by kernel_rfl)
    (aq ⟨h22, (not_f g1), (dT g2), rfl, trivial⟩)
theorem df14e_3 (b : List Post) (o : SO) (s : Nat) (r : List Rd) (q : SO) (t : Nat) (nx : Int) (rb : Bool) (h22 : cc (ev X E0) 22 [Bk o s b] [] = some (AV.b rb, [])) (g1 : rb = true) (g2 : ¬(↑(List.length (List.map Rd.pv r)) : Int) > 16) (g3 : nx < 1) :
    cc (ev X E0) 14 [AV.agg [.pv (.sl o s (List.map Post.pv b)), .pv (.sl q t (List.map Rd.pv r)), vi nx]] [] = some (AV.b false, []) :=
  cc_path (x := xf14) rfl ([kb rb] ++ bs 9 false ++ bs 5 true)
    (c := rq [ty h22, (5, (!rb) = false), (4, decide ((↑(List.length (List.map Rd.pv r)) : Int) > 16) = false), (4, decide (nx < 1) = true), zt 1]) (by kernel_rfl)
    (aq ⟨h22, (not_f g1), (dF g2), (dT g3), rfl, trivial⟩)
theorem df14e_4 (b : List Post) (o : SO) (s : Nat) (r : List Rd) (q : SO) (t : Nat) (nx : Int) (rb : Bool) (h22 : cc (ev X E0) 22 [Bk o s b] [] = some (AV.b rb, [])) (g1 : rb = true) (g2 : ¬(↑(List.length (List.map Rd.pv r)) : Int) > 16) (g3 : ¬nx < 1) (g4 : nx > 1000000) :
    cc (ev X E0) 14 [AV.agg [.pv (.sl o s (List.map Post.pv b)), .pv (.sl q t (List.map Rd.pv r)), vi nx]] [] = some (AV.b false, []) :=
  cc_path (x := xf14) rfl ([kb rb] ++ bs 13 false ++ [.br true])
    (c := rq [ty h22, (5, (!rb) = false), (4, decide ((↑(List.length (List.map Rd.pv r)) : Int) > 16) = false), (4, decide (nx < 1) = false), (1, decide (nx > 1000000) = true)]) (by kernel_rfl)
    (aq ⟨h22, (not_f g1), (dF g2), (dF g3), (dT g4), trivial⟩)
theorem df14_1 (b : List Post) (o : SO) (s : Nat) (r : List Rd) (q : SO) (t : Nat) (nx : Int) (h22 : cc (ev X E0) 22 [Bk o s b] [] = some (AV.b true, [])) (n1 : ¬(↑(List.length (List.map Rd.pv r)) : Int) > 16) (n2 : ¬nx < 1) (n3 : ¬nx > 1000000) (h : lv (cv (ev X E0) xf14_l0) (rl [1, 1]) 1 (S14d b o s r q t nx 0) = E14x b o s r q t nx) :
    cc (ev X E0) 14 [AV.agg [.pv (.sl o s (List.map Post.pv b)), .pv (.sl q t (List.map Rd.pv r)), vi nx]] [] = some (AV.b true, []) :=
  cc_path (x := xf14) rfl ([kb true] ++ bs 14 false ++ [.loop (XExit.exit 0) (St.mk (tmOf 99 []) [.cells [.pv (.sl o s (List.map Post.pv b)), .pv (.sl q t (List.map Rd.pv r)), vi nx]])])
    (c := rq [ty h22, zf 5, (4, decide ((↑(List.length (List.map Rd.pv r)) : Int) > 16) = false), (4, decide (nx < 1) = false), (1, decide (nx > 1000000) = false), ty h]) (by kernel_rfl)
    (aq ⟨h22, rfl, (dF n1), (dF n2), (dF n3), h, trivial⟩)
theorem df14r_1 (b : List Post) (o : SO) (s : Nat) (r : List Rd) (q : SO) (t : Nat) (nx : Int) (h22 : cc (ev X E0) 22 [Bk o s b] [] = some (AV.b true, [])) (n1 : ¬(↑(List.length (List.map Rd.pv r)) : Int) > 16) (n2 : ¬nx < 1) (n3 : ¬nx > 1000000) (z : Rd) (h : lv (cv (ev X E0) xf14_l0) (rl [1, 1]) 1 (S14d b o s r q t nx 0) = E14r b o s r q t nx z) :
    cc (ev X E0) 14 [AV.agg [.pv (.sl o s (List.map Post.pv b)), .pv (.sl q t (List.map Rd.pv r)), vi nx]] [] = some (AV.b false, []) :=
  cc_path (x := xf14) rfl ([kb true] ++ bs 14 false ++ [.loop XExit.ret (St.mk (tmOf 99 [(2, AV.b false)]) [.cells [.pv (.sl o s (List.map Post.pv b)), .pv (.sl q t (List.map Rd.pv r)), vi nx], .cells [vi (Rd.id z), vi (Rd.sees z), vw (Rd.known z), vw (Rd.value z)]])])
    (c := rq [ty h22, zf 5, (4, decide ((↑(List.length (List.map Rd.pv r)) : Int) > 16) = false), (4, decide (nx < 1) = false), (1, decide (nx > 1000000) = false), ty h]) (by kernel_rfl)
    (aq ⟨h22, rfl, (dF n1), (dF n2), (dF n3), h, trivial⟩)
theorem a14 {b : List Post} {o : SO} {s : Nat} {r : List Rd} {q : SO} {t : Nat} {nx : Int} (hs : szOk 4 (CV.pv (PV.sl q t (List.map Rd.pv r))) = true) (hl : r.length ≤ 1000) : ∀ (l pre : List Rd) (x : Rd), r = pre ++ l → (pre = [] ∧ x = Rd0 ∨ ∃ p0, pre = p0 ++ [x]) → 0 ≤ x.id → 0 ≤ x.sees →
    (rdFrom b.length nx x l = true → lv (cv (ev X E0) xf14_l0) (rl [1, 1]) 1 (S14d b o s r q t nx (pre.length : Nat)) = E14x b o s r q t nx) ∧
    (rdFrom b.length nx x l = false → ∃ z, lv (cv (ev X E0) xf14_l0) (rl [1, 1]) 1 (S14d b o s r q t nx (pre.length : Nat)) = E14r b o s r q t nx z)
  | [], pre, x, e, _, _, _ => by
    rw [List.append_nil] at e
    subst e
    exact ⟨fun _ => dl14e_1 b o s r q t nx r.length (by simp), fun h => by simp [rdFrom] at h⟩
  | z :: l, pre, x, e, hp, hx0, hx1 => by
    have hlen : r.length = pre.length + l.length + 1 := by rw [e]; simp; omega
    have hat : r[pre.length]? = some z := by rw [e]; simp
    have hlt := ltR (l := r) (i := pre.length) (by omega)
    have ih := fun h0 h1 => a14 (b := b) (o := o) (s := s) (nx := nx) hs hl l (pre ++ [z]) z (by rw [e]; simp) (.inr ⟨pre, rfl⟩) h0 h1
    rw [List.length_append, List.length_singleton, Int.natCast_add, Int.natCast_one] at ih
    have hw : IntKind.wrap .i64 ((pre.length : Int) + 1) = (pre.length : Int) + 1 := wi64 (by omega) (by omega)
    have step : (rOk b.length nx x z = true → lv (cv (ev X E0) xf14_l0) (rl [1, 1]) 1 (S14d b o s r q t nx (pre.length : Nat)) = lv (cv (ev X E0) xf14_l0) (rl [1, 1]) 1 (S14d b o s r q t nx ((pre.length : Nat) + 1))) ∧ (rOk b.length nx x z = false → lv (cv (ev X E0) xf14_l0) (rl [1, 1]) 1 (S14d b o s r q t nx (pre.length : Nat)) = E14r b o s r q t nx z) := by
      rcases hp with ⟨p1, p2⟩ | ⟨p0, p1⟩
      · subst p2
        rw [p1] at hat hlt hw ⊢
        refine ⟨fun ok => ?_, fun ok => ?_⟩
        · simp only [rOk, Bool.and_eq_true, decide_eq_true_eq] at ok
          obtain ⟨⟨k1, k2, k3, k4⟩, k5, k6⟩ := ok
          have k1' : (0 : Int) < z.id := k1
          have k3' : (0 : Int) ≤ z.sees := k3
          have st := dl14a_7 b o s r q t hs nx z hat hlt (by omega) (by omega) (by omega) (by rw [List.length_map]; omega) k5 k6
          rw [← hw]; exact st
        · by_cases k1 : z.id < 1
          · exact dl14a_1 b o s r q t hs nx z hat hlt k1
          by_cases k2 : z.id ≥ nx
          · exact dl14a_2 b o s r q t hs nx z hat hlt k1 k2
          by_cases k3 : z.sees < 0
          · exact dl14a_3 b o s r q t hs nx z hat hlt k1 k2 k3
          by_cases k4 : z.sees > (((b.map Post.pv).length : Nat) : Int)
          · exact dl14a_4 b o s r q t hs nx z hat hlt k1 k2 k3 k4
          cases k5 : datOk z.known with
          | false => exact dl14a_5 b o s r q t hs nx z hat hlt k1 k2 k3 k4 k5
          | true =>
            cases k6 : datOk z.value with
            | false => exact dl14a_6 b o s r q t hs nx z hat hlt k1 k2 k3 k4 k5 k6
            | true =>
              exfalso
              rw [List.length_map] at k4
              unfold rOk at ok
              rw [k5, k6, decide_eq_true (by show (0 : Int) < z.id ∧ z.id < nx ∧ (0 : Int) ≤ z.sees ∧ z.sees ≤ b.length; omega)] at ok
              cases ok
      · have hpl : pre.length = p0.length + 1 := by rw [p1]; simp
        have hi : (pre.length : Int) > 0 := by omega
        have hw1 : IntKind.wrap .i64 ((pre.length : Int) - 1) = (p0.length : Int) := by rw [wi64 (by omega) (by omega)]; omega
        have hxa : r[Int.toNat (IntKind.wrap .i64 ((pre.length : Int) - 1))]? = some x := by rw [hw1, Int.toNat_natCast, e, p1]; simp
        have g7 : 0 ≤ IntKind.wrap .i64 ((pre.length : Int) - 1) := by rw [hw1]; omega
        refine ⟨fun ok => ?_, fun ok => ?_⟩
        · simp only [rOk, Bool.and_eq_true, decide_eq_true_eq] at ok
          obtain ⟨⟨k1, k2, k3, k4⟩, k5, k6⟩ := ok
          have st := dl14b_9 b o s r q t hs nx pre.length hi x z hxa hat hlt (by omega) (by omega) (by omega) (by rw [List.length_map]; omega) k5 k6 g7 (by omega) (by omega)
          rw [hw] at st
          exact st
        · by_cases k1 : z.id < 1
          · exact dl14b_1 b o s r q t hs nx pre.length hi x z hxa hat hlt k1
          by_cases k2 : z.id ≥ nx
          · exact dl14b_2 b o s r q t hs nx pre.length hi x z hxa hat hlt k1 k2
          by_cases k3 : z.sees < 0
          · exact dl14b_3 b o s r q t hs nx pre.length hi x z hxa hat hlt k1 k2 k3
          by_cases k4 : z.sees > (((b.map Post.pv).length : Nat) : Int)
          · exact dl14b_4 b o s r q t hs nx pre.length hi x z hxa hat hlt k1 k2 k3 k4
          cases k5 : datOk z.known with
          | false => exact dl14b_5 b o s r q t hs nx pre.length hi x z hxa hat hlt k1 k2 k3 k4 k5
          | true =>
            cases k6 : datOk z.value with
            | false => exact dl14b_6 b o s r q t hs nx pre.length hi x z hxa hat hlt k1 k2 k3 k4 k5 k6
            | true =>
              by_cases k8 : z.id ≤ x.id
              · exact dl14b_7 b o s r q t hs nx pre.length hi x z hxa hat hlt k1 k2 k3 k4 k5 k6 g7 k8
              by_cases k9 : z.sees < x.sees
              · exact dl14b_8 b o s r q t hs nx pre.length hi x z hxa hat hlt k1 k2 k3 k4 k5 k6 g7 k8 k9
              exfalso
              rw [List.length_map] at k4
              unfold rOk at ok
              rw [k5, k6, decide_eq_true (by omega)] at ok
              cases ok
    simp only [rdFrom, Bool.and_eq_true, Bool.and_eq_false_iff]
    refine ⟨fun h => ?_, fun h => ?_⟩
    · have ok := h.1
      simp only [rOk, Bool.and_eq_true, decide_eq_true_eq] at ok
      exact (step.1 h.1).trans ((ih (by omega) (by omega)).1 h.2)
    · cases ok : rOk b.length nx x z with
      | false => exact ⟨z, step.2 ok⟩
      | true =>
        have ok' := ok
        simp only [rOk, Bool.and_eq_true, decide_eq_true_eq] at ok'
        rcases h with h | h
        · rw [ok] at h; cases h
        · obtain ⟨z', hz⟩ := (ih (by omega) (by omega)).2 h
          exact ⟨z', (step.1 ok).trans hz⟩
theorem s14 {d : Dk} (h : d.Ok) (hl : d.b.length < 400) : cc (ev X E0) 14 [d.av] [] = some (.b (deskB d), []) := by
  have h22 := s18 h.bz h.bn hl h.nice
  have a := a14 (b := d.b) (o := d.o) (s := d.s) (nx := d.nx) h.rz h.rl d.r [] Rd0 rfl (.inl ⟨rfl, rfl⟩) (by decide) (by decide)
  unfold deskB
  cases hr : rightB d.b with
  | false => rw [hr] at h22; exact df14e_1 _ _ _ _ _ _ _ _ h22 rfl
  | true =>
    rw [hr] at h22
    rw [Bool.true_and]
    by_cases c1 : d.r.length ≤ 16
    · by_cases c2 : d.nx ≥ 1
      · by_cases c3 : d.nx ≤ 1000000
        · rw [decide_eq_true ⟨c1, c2, c3⟩, Bool.true_and]
          have n1 : ¬ (↑(List.length (List.map Rd.pv d.r)) : Int) > 16 := by rw [lenR]; omega
          cases hd : rdFrom d.b.length d.nx Rd0 d.r with
          | true => exact df14_1 _ _ _ _ _ _ _ h22 n1 (by omega) (by omega) (a.1 hd)
          | false =>
            obtain ⟨z, hz⟩ := a.2 hd
            exact df14r_1 _ _ _ _ _ _ _ h22 n1 (by omega) (by omega) z hz
        · rw [decide_eq_false (fun h => c3 h.2.2), Bool.false_and]
          exact df14e_4 _ _ _ _ _ _ _ _ h22 rfl (by rw [lenR]; omega) (by omega) (by omega)
      · rw [decide_eq_false (fun h => c2 h.2.1), Bool.false_and]
        exact df14e_3 _ _ _ _ _ _ _ _ h22 rfl (by rw [lenR]; omega) (by omega)
    · rw [decide_eq_false (fun h => c1 h.1), Bool.false_and]
      exact df14e_2 _ _ _ _ _ _ _ _ h22 rfl (by rw [lenR]; omega)
abbrev S26d (b : List Post) (o : SO) (s : Nat) (r : List Rd) (q : SO) (t : Nat) (nx id i : Int) : St := St.mk (tmOf 22 [(1, AV.c (CV.pv (PV.int .i64 id))), (2, AV.c (CV.ptr 0 0)), (5, AV.c (CV.pv (PV.int .i64 i)))]) [Box.cells (Dcs b o s r q t nx)]
theorem dl26e_1 (b : List Post) (o : SO) (s : Nat) (r : List Rd) (q : SO) (t : Nat) (nx id : Int) (i : Nat) (hlt : ¬(↑i : Int) < (↑(List.length (List.map Rd.pv r)) : Int)) :
    lv (cv (ev X E0) xf26_l0) (rl [1, 0, 2]) 1 (S26d b o s r q t nx id (↑i : Int)) = some (XExit.exit 0, St.mk (tmOf 22 []) [.cells [.pv (.sl o s (List.map Post.pv b)), .pv (.sl q t (List.map Rd.pv r)), vi nx]]) :=
  lv_exit [.br false]
    (c := [decide ((↑i : Int) < (↑(List.length (List.map Rd.pv r)) : Int)) = false]) (by kernel_rfl)
    ⟨(dF hlt), trivial⟩
theorem dl26_1 (b : List Post) (o : SO) (s : Nat) (r : List Rd) (q : SO) (t : Nat) (hs : szOk 4 (.pv (.sl q t (List.map Rd.pv r))) = true) (nx id : Int) (i : Nat) (z : Rd) (hz : r[i]? = some z) (hlt : (↑i : Int) < (↑(List.length (List.map Rd.pv r)) : Int)) (g1 : Rd.id z = id) :
    lv (cv (ev X E0) xf26_l0) (rl [1, 0, 2]) 1 (S26d b o s r q t nx id (↑i : Int)) = some (XExit.ret, St.mk (tmOf 22 [(4, AV.c (vi (↑i : Int)))]) [.cells [.pv (.sl o s (List.map Post.pv b)), .pv (.sl q t (List.map Rd.pv r)), vi nx]]) :=
  lv_ret [.br true, .sz, .el (.agg [PV.int .i64 (Rd.id z), .int .i64 (Rd.sees z), .int .i32 (Rd.known z), .int .i32 (Rd.value z)]), .br true]
    (c := [decide ((↑i : Int) < (↑(List.length (List.map Rd.pv r)) : Int)) = true, szOk 4 (.pv (.sl q t (List.map Rd.pv r))) = true, 0 ≤ (↑i : Int), (List.map Rd.pv r)[i]? = some (PV.agg [PV.int .i64 (Rd.id z), .int .i64 (Rd.sees z), .int .i32 (Rd.known z), .int .i32 (Rd.value z)]), (Rd.id z == id) = true]) (by kernel_rfl)
    ⟨(dT hlt), hs, (Int.natCast_nonneg _), (map_at hz), (beq_iff_eq.mpr g1), trivial⟩
theorem dl26_2 (b : List Post) (o : SO) (s : Nat) (r : List Rd) (q : SO) (t : Nat) (hs : szOk 4 (.pv (.sl q t (List.map Rd.pv r))) = true) (nx id : Int) (i : Nat) (z : Rd) (hz : r[i]? = some z) (hlt : (↑i : Int) < (↑(List.length (List.map Rd.pv r)) : Int)) (g1 : ¬Rd.id z = id) :
    lv (cv (ev X E0) xf26_l0) (rl [1, 0, 2]) 1 (S26d b o s r q t nx id (↑i : Int)) = lv (cv (ev X E0) xf26_l0) (rl [1, 0, 2]) 1 (St.mk (tmOf 22 [(1, AV.c (vi id)), (2, AV.c (.ptr 0 0)), (5, AV.c (vi (IntKind.wrap .i64 ((↑i : Int) + 1))))]) [.cells [.pv (.sl o s (List.map Post.pv b)), .pv (.sl q t (List.map Rd.pv r)), vi nx]]) :=
  lv_next [.br true, .sz, .el (.agg [PV.int .i64 (Rd.id z), .int .i64 (Rd.sees z), .int .i32 (Rd.known z), .int .i32 (Rd.value z)]), .br false]
    (c := [decide ((↑i : Int) < (↑(List.length (List.map Rd.pv r)) : Int)) = true, szOk 4 (.pv (.sl q t (List.map Rd.pv r))) = true, 0 ≤ (↑i : Int), (List.map Rd.pv r)[i]? = some (PV.agg [PV.int .i64 (Rd.id z), .int .i64 (Rd.sees z), .int .i32 (Rd.known z), .int .i32 (Rd.value z)]), (Rd.id z == id) = false]) (by kernel_rfl)
    ⟨(dT hlt), hs, (Int.natCast_nonneg _), (map_at hz), (beq_eq_false_iff_ne.mpr g1), trivial⟩
theorem df26_1 (b : List Post) (o : SO) (s : Nat) (r : List Rd) (q : SO) (t : Nat) (nx id : Int) (h : lv (cv (ev X E0) xf26_l0) (rl [1, 0, 2]) 1 (S26d b o s r q t nx id 0) = some (XExit.exit 0, St.mk (tmOf 22 []) [.cells (Dcs b o s r q t nx)])) :
    cc (ev X E0) 26 [AV.agg [.pv (.sl o s (List.map Post.pv b)), .pv (.sl q t (List.map Rd.pv r)), vi nx], AV.c (vi id)] [] = some (AV.c (vi (-1)), []) :=
  cc_path (x := xf26) rfl [.loop (XExit.exit 0) (St.mk (tmOf 22 []) [.cells [.pv (.sl o s (List.map Post.pv b)), .pv (.sl q t (List.map Rd.pv r)), vi nx]])]
    (c := rq [ty h]) (by kernel_rfl)
    (aq ⟨h, trivial⟩)
theorem df26r_1 (b : List Post) (o : SO) (s : Nat) (r : List Rd) (q : SO) (t : Nat) (nx id i : Int) (h : lv (cv (ev X E0) xf26_l0) (rl [1, 0, 2]) 1 (S26d b o s r q t nx id 0) = some (XExit.ret, St.mk (tmOf 22 [(4, AV.c (vi i))]) [.cells (Dcs b o s r q t nx)])) :
    cc (ev X E0) 26 [AV.agg [.pv (.sl o s (List.map Post.pv b)), .pv (.sl q t (List.map Rd.pv r)), vi nx], AV.c (vi id)] [] = some (AV.c (vi i), []) :=
  cc_path (x := xf26) rfl [.loop XExit.ret (St.mk (tmOf 22 [(4, AV.c (vi i))]) [.cells [.pv (.sl o s (List.map Post.pv b)), .pv (.sl q t (List.map Rd.pv r)), vi nx]])]
    (c := rq [ty h]) (by kernel_rfl)
    (aq ⟨h, trivial⟩)
theorem a26d {b : List Post} {o : SO} {s : Nat} {r : List Rd} {q : SO} {t : Nat} {nx id : Int} (hs : szOk 4 (CV.pv (PV.sl q t (List.map Rd.pv r))) = true) (hl : r.length ≤ 1000) : ∀ (l pre : List Rd), r = pre ++ l →
    lv (cv (ev X E0) xf26_l0) (rl [1, 0, 2]) 1 (S26d b o s r q t nx id (pre.length : Nat)) = some (if there id l = true then (XExit.ret, St.mk (tmOf 22 [(4, AV.c (CV.pv (PV.int .i64 ((pre.length + placeN id l : Nat) : Int))))]) [Box.cells (Dcs b o s r q t nx)]) else (XExit.exit 0, St.mk (tmOf 22 []) [Box.cells (Dcs b o s r q t nx)]))
  | [], pre, e => by
    rw [List.append_nil] at e
    subst e
    exact dl26e_1 b o s r q t nx id r.length (by simp)
  | y :: l, pre, e => by
    have hlen : r.length = pre.length + l.length + 1 := by rw [e]; simp; omega
    have hat : r[pre.length]? = some y := by rw [e]; simp
    have hlt := ltR (l := r) (i := pre.length) (by omega)
    by_cases c : y.id = id
    · have st := dl26_1 b o s r q t hs nx id pre.length y hat hlt c
      rw [st]
      simp [there, c, placeN]
    · have st := dl26_2 b o s r q t hs nx id pre.length y hat hlt c
      rw [wi64 (by omega) (by omega)] at st
      have ih := a26d (b := b) (o := o) (s := s) (nx := nx) hs (id := id) hl l (pre ++ [y]) (by rw [e]; simp)
      rw [List.length_append, List.length_singleton, Int.natCast_add, Int.natCast_one] at ih
      rw [st, ih]
      have e1 : there id (y :: l) = there id l := by simp [there, c]
      have e2 : pre.length + 1 + placeN id l = pre.length + placeN id (y :: l) := by rw [placeN, if_neg c]; omega
      rw [e1, e2]
theorem s26d {d : Dk} (h : d.Ok) (id : Int) : cc (ev X E0) 26 [d.av, AV.i id] [] = some (.i (place id d.r), []) := by
  have a := a26d (b := d.b) (o := d.o) (s := d.s) (nx := d.nx) (id := id) h.rz h.rl d.r [] rfl
  rw [List.length_nil, Nat.zero_add] at a
  unfold place
  by_cases c : there id d.r = true
  · rw [if_pos c] at a ⊢
    exact df26r_1 _ _ _ _ _ _ _ id _ a
  · rw [if_neg c] at a ⊢
    exact df26_1 _ _ _ _ _ _ _ id a
abbrev S23d (b : List Post) (o : SO) (s : Nat) (r : List Rd) (q : SO) (t : Nat) (nx : Int) (b2 : List Post) (o2 : SO) (s2 : Nat) (q2 : SO) (t2 : Nat) (i : Int) : St := St.mk (tmOf 48 [(2, AV.c (CV.ptr 0 0)), (3, AV.c (CV.ptr 1 0)), (5, AV.c (CV.pv (PV.int .i64 i)))]) [Box.cells (Dcs b o s r q t nx), Box.cells (Dcs b2 o2 s2 r q2 t2 nx)]
theorem dl23e_1 (b : List Post) (o : SO) (s : Nat) (r : List Rd) (q : SO) (t : Nat) (nx : Int) (b2 : List Post) (o2 : SO) (s2 : Nat) (q2 : SO) (t2 i : Nat) (hlt : ¬(↑i : Int) < (↑(List.length (List.map Rd.pv r)) : Int)) :
    lv (cv (ev X E0) xf23_l0) (rl [2, 0, 1]) 2 (S23d b o s r q t nx b2 o2 s2 q2 t2 (↑i : Int)) = some (XExit.exit 0, St.mk (tmOf 48 []) [.cells [.pv (.sl o s (List.map Post.pv b)), .pv (.sl q t (List.map Rd.pv r)), vi nx], .cells [.pv (.sl o2 s2 (List.map Post.pv b2)), .pv (.sl q2 t2 (List.map Rd.pv r)), vi nx]]) :=
  lv_exit [.br false]
    (c := [decide ((↑i : Int) < (↑(List.length (List.map Rd.pv r)) : Int)) = false]) (by kernel_rfl)
    ⟨(dF hlt), trivial⟩
theorem dl23_2 (b : List Post) (o : SO) (s : Nat) (r : List Rd) (q : SO) (t : Nat) (nx : Int) (b2 : List Post) (o2 : SO) (s2 : Nat) (q2 : SO) (t2 : Nat) (hs : szOk 4 (.pv (.sl q t (List.map Rd.pv r))) = true) (hs2 : szOk 4 (.pv (.sl q2 t2 (List.map Rd.pv r))) = true) (i : Nat) (z : Rd) (hz : r[i]? = some z) (hlt : (↑i : Int) < (↑(List.length (List.map Rd.pv r)) : Int)) (g1 : Rd.id z = Rd.id z ∧ Rd.sees z = Rd.sees z ∧ Rd.known z = Rd.known z ∧ Rd.value z = Rd.value z ∧ true = true) :
    lv (cv (ev X E0) xf23_l0) (rl [2, 0, 1]) 2 (S23d b o s r q t nx b2 o2 s2 q2 t2 (↑i : Int)) = lv (cv (ev X E0) xf23_l0) (rl [2, 0, 1]) 2 (St.mk (tmOf 48 [(2, AV.c (.ptr 0 0)), (3, AV.c (.ptr 1 0)), (5, AV.c (vi (IntKind.wrap .i64 ((↑i : Int) + 1))))]) [.cells [.pv (.sl o s (List.map Post.pv b)), .pv (.sl q t (List.map Rd.pv r)), vi nx], .cells [.pv (.sl o2 s2 (List.map Post.pv b2)), .pv (.sl q2 t2 (List.map Rd.pv r)), vi nx]]) :=
  lv_next [.br true, .sz, .el (.agg [PV.int .i64 (Rd.id z), .int .i64 (Rd.sees z), .int .i32 (Rd.known z), .int .i32 (Rd.value z)]), .sz, .el (.agg [PV.int .i64 (Rd.id z), .int .i64 (Rd.sees z), .int .i32 (Rd.known z), .int .i32 (Rd.value z)]), .br false]
    (c := rq [(1, decide ((↑i : Int) < (↑(List.length (List.map Rd.pv r)) : Int)) = true), ty hs, (1, 0 ≤ (↑i : Int)), (1, (List.map Rd.pv r)[i]? = some (PV.agg [PV.int .i64 (Rd.id z), .int .i64 (Rd.sees z), .int .i32 (Rd.known z), .int .i32 (Rd.value z)])), ty hs2, (1, 0 ≤ (↑i : Int)), (1, (List.map Rd.pv r)[i]? = some (PV.agg [PV.int .i64 (Rd.id z), .int .i64 (Rd.sees z), .int .i32 (Rd.known z), .int .i32 (Rd.value z)])), (1, (!(Rd.id z == Rd.id z && (Rd.sees z == Rd.sees z && (Rd.known z == Rd.known z && (Rd.value z == Rd.value z && true))))) = false)]) (by kernel_rfl)
    (aq ⟨(dT hlt), hs, (Int.natCast_nonneg _), (map_at hz), hs2, (Int.natCast_nonneg _), (map_at hz), (not_f (and_t (beq_iff_eq.mpr (And.left g1)) (and_t (beq_iff_eq.mpr (And.left (And.right g1))) (and_t (beq_iff_eq.mpr (And.left (And.right (And.right g1)))) (and_t (beq_iff_eq.mpr (And.left (And.right (And.right (And.right g1))))) (And.right (And.right (And.right (And.right g1))))))))), trivial⟩)
theorem df23_1 (b : List Post) (o : SO) (s : Nat) (r : List Rd) (q : SO) (t : Nat) (nx : Int) (b2 : List Post) (o2 : SO) (s2 : Nat) (q2 : SO) (t2 : Nat) (h28 : cc (ev X E0) 28 [AV.sl o s (List.map Post.pv b), AV.sl o2 s2 (List.map Post.pv b2)] [] = some (AV.b true, [])) (h : lv (cv (ev X E0) xf23_l0) (rl [2, 0, 1]) 2 (S23d b o s r q t nx b2 o2 s2 q2 t2 0) = some (XExit.exit 0, St.mk (tmOf 48 []) [.cells (Dcs b o s r q t nx), .cells (Dcs b2 o2 s2 r q2 t2 nx)])) (g1 : (↑(List.length (List.map Rd.pv r)) : Int) = (↑(List.length (List.map Rd.pv r)) : Int)) (g2 : nx = nx) :
    cc (ev X E0) 23 [AV.agg [.pv (.sl o s (List.map Post.pv b)), .pv (.sl q t (List.map Rd.pv r)), vi nx], AV.agg [.pv (.sl o2 s2 (List.map Post.pv b2)), .pv (.sl q2 t2 (List.map Rd.pv r)), vi nx]] [] = some (AV.b true, []) :=
  cc_path (x := xf23) rfl ([kb true] ++ bs 15 false ++ [.loop (XExit.exit 0) (St.mk (tmOf 48 []) [.cells [.pv (.sl o s (List.map Post.pv b)), .pv (.sl q t (List.map Rd.pv r)), vi nx], .cells [.pv (.sl o2 s2 (List.map Post.pv b2)), .pv (.sl q2 t2 (List.map Rd.pv r)), vi nx]])])
    (c := rq [ty h28, zf 8, (6, ((↑(List.length (List.map Rd.pv r)) : Int) != (↑(List.length (List.map Rd.pv r)) : Int)) = false), (1, (nx != nx) = false), ty h]) (by kernel_rfl)
    (aq ⟨h28, rfl, (bne_f g1), (bne_f g2), h, trivial⟩)
theorem a23d {b : List Post} {o : SO} {s : Nat} {r : List Rd} {q : SO} {t : Nat} {nx : Int} {b2 : List Post} {o2 : SO} {s2 : Nat} {q2 : SO} {t2 : Nat} (hs : szOk 4 (CV.pv (PV.sl q t (List.map Rd.pv r))) = true) (hs2 : szOk 4 (CV.pv (PV.sl q2 t2 (List.map Rd.pv r))) = true) (hl : r.length ≤ 1000) : ∀ (l pre : List Rd), r = pre ++ l →
    lv (cv (ev X E0) xf23_l0) (rl [2, 0, 1]) 2 (S23d b o s r q t nx b2 o2 s2 q2 t2 (pre.length : Nat)) = some (XExit.exit 0, St.mk (tmOf 48 []) [Box.cells (Dcs b o s r q t nx), Box.cells (Dcs b2 o2 s2 r q2 t2 nx)])
  | [], pre, e => by
    rw [List.append_nil] at e
    subst e
    exact dl23e_1 b o s r q t nx b2 o2 s2 q2 t2 r.length (by simp)
  | y :: l, pre, e => by
    have hlen : r.length = pre.length + l.length + 1 := by rw [e]; simp; omega
    have hat : r[pre.length]? = some y := by rw [e]; simp
    have hlt := ltR (l := r) (i := pre.length) (by omega)
    have st := dl23_2 b o s r q t nx b2 o2 s2 q2 t2 hs hs2 pre.length y hat hlt ⟨rfl, rfl, rfl, rfl, rfl⟩
    rw [wi64 (by omega) (by omega)] at st
    have ih := a23d (b := b) (o := o) (s := s) (nx := nx) (b2 := b2) (o2 := o2) (s2 := s2) hs hs2 hl l (pre ++ [y]) (by rw [e]; simp)
    rw [List.length_append, List.length_singleton, Int.natCast_add, Int.natCast_one] at ih
    exact st.trans ih
theorem s23d {b : List Post} {o : SO} {s : Nat} {r : List Rd} {q : SO} {t : Nat} {nx : Int} {b2 : List Post} {o2 : SO} {s2 : Nat} {q2 : SO} {t2 : Nat} (hb : szOk 7 (CV.pv (PV.sl o s (List.map Post.pv b))) = true) (hb2 : szOk 7 (CV.pv (PV.sl o2 s2 (List.map Post.pv b2))) = true) (hs : szOk 4 (CV.pv (PV.sl q t (List.map Rd.pv r))) = true) (hs2 : szOk 4 (CV.pv (PV.sl q2 t2 (List.map Rd.pv r))) = true) (hl : r.length ≤ 1000) (bl : b.length ≤ 1000000) (hN : ∀ p ∈ b, p.legs.length ≤ 1000000) (hbb : samesB b b2 = true) :
    cc (ev X E0) 23 [Dv b o s r q t nx, Dv b2 o2 s2 r q2 t2 nx] [] = some (.b true, []) := by
  have h28 := s27 (l := b) (m := b2) hb hb2 bl hN
  rw [hbb] at h28
  exact df23_1 b o s r q t nx b2 o2 s2 q2 t2 h28 (a23d hs hs2 hl r [] rfl) rfl rfl
theorem df29_1 (b : List Post) (o : SO) (s : Nat) (hb : szOk 7 (.pv (.sl o s (List.map Post.pv b))) = true) (hn : CV.some' (.pv (.sl o s (List.map Post.pv b))) = true) (r : List Rd) (q : SO) (t : Nat) (hs : szOk 4 (.pv (.sl q t (List.map Rd.pv r))) = true) (nx i : Int) (z : Rd) (hz : r[Int.toNat i]? = some z) (ox : SO) (sx : Nat) (mx : List Post) (h66 : cs (ev X E0) 66 [AV.c (.pv (.sl SO.shut 7 (List.take (Int.toNat (Rd.sees z)) (List.map Post.pv b)))), AV.int IntKind.i32 (Rd.known z), AV.int IntKind.i32 (Rd.value z)] = some (AV.c (.pv (.sl ox sx (List.map Post.pv mx))))) (g1 : 0 ≤ i) (g2 : 0 ≤ Rd.sees z) (g3 : Rd.sees z ≤ (↑(List.length (List.map Post.pv b)) : Int)) :
    cc (ev X E0) 29 [AV.agg [.pv (.sl o s (List.map Post.pv b)), .pv (.sl q t (List.map Rd.pv r)), vi nx], AV.c (vi i)] [] = some (AV.c (.pv (.sl ox sx (List.map Post.pv mx))), []) :=
  cc_path (x := xf29) rfl [.sz, .el (.agg [PV.int .i64 (Rd.id z), .int .i64 (Rd.sees z), .int .i32 (Rd.known z), .int .i32 (Rd.value z)]), .nn, .shut (AV.c (.pv (.sl ox sx (List.map Post.pv mx))))]
    (c := rq [ty hs, (1, 0 ≤ i), (1, (List.map Rd.pv r)[Int.toNat i]? = some (PV.agg [PV.int .i64 (Rd.id z), .int .i64 (Rd.sees z), .int .i32 (Rd.known z), .int .i32 (Rd.value z)])), ty hb, ty hn, (1, (0 : Int) ≤ (0 : Int)), (1, 0 ≤ Rd.sees z), ty g3, ty h66]) (by kernel_rfl)
    (aq ⟨hs, g1, (map_at hz), hb, hn, (Int.le_refl _), g2, g3, h66, trivial⟩)
theorem df29n_1 (r : List Rd) (q : SO) (t : Nat) (hs : szOk 4 (.pv (.sl q t (List.map Rd.pv r))) = true) (nx i : Int) (z : Rd) (hz : r[Int.toNat i]? = some z) (ox : SO) (sx : Nat) (mx : List Post) (h66 : cs (ev X E0) 66 [AV.sl SO.nil 7 [], AV.int IntKind.i32 (Rd.known z), AV.int IntKind.i32 (Rd.value z)] = some (AV.c (.pv (.sl ox sx (List.map Post.pv mx))))) (g1 : 0 ≤ i) (g2 : 0 ≤ Rd.sees z) (g3 : Rd.sees z ≤ 0) :
    cc (ev X E0) 29 [AV.agg [.pv (.sl SO.nil 7 []), .pv (.sl q t (List.map Rd.pv r)), vi nx], AV.c (vi i)] [] = some (AV.c (.pv (.sl ox sx (List.map Post.pv mx))), []) :=
  cc_path (x := xf29) rfl [.sz, .el (.agg [PV.int .i64 (Rd.id z), .int .i64 (Rd.sees z), .int .i32 (Rd.known z), .int .i32 (Rd.value z)]), .shut (AV.c (.pv (.sl ox sx (List.map Post.pv mx))))]
    (c := rq [ty hs, (1, 0 ≤ i), (1, (List.map Rd.pv r)[Int.toNat i]? = some (PV.agg [PV.int .i64 (Rd.id z), .int .i64 (Rd.sees z), .int .i32 (Rd.known z), .int .i32 (Rd.value z)])), (1, (0 : Int) ≤ (0 : Int)), (1, 0 ≤ Rd.sees z), (1, Rd.sees z ≤ 0), ty h66]) (by kernel_rfl)
    (aq ⟨hs, g1, (map_at hz), (Int.le_refl _), g2, g3, h66, trivial⟩)
theorem df25_1 (b : List Post) (o : SO) (s : Nat) (r : List Rd) (q : SO) (t : Nat) (_hs : szOk 4 (.pv (.sl q t (List.map Rd.pv r))) = true) (nx k v : Int) (g1 : datOk k = false) :
    cc (ev X E0) 25 [AV.agg [.pv (.sl o s (List.map Post.pv b)), .pv (.sl q t (List.map Rd.pv r)), vi nx], AV.c (vw k), AV.c (vw v)] [] = some (AV.tup [AV.agg [.pv (.sl SO.nil 0 []), .pv (.sl SO.nil 0 []), vi 0], AV.c (vi 11)], []) :=
  cc_path (x := xf25) rfl ([.call (AV.c (.pv (.bool (datOk k)))) []] ++ bs 5 true)
    (c := rq [(1, cc (ev X E0) 54 [AV.c (vw k)] [] = some (AV.c (.pv (.bool (datOk k))), [])), (4, (!datOk k) = true), zt 1]) (by kernel_rfl)
    (aq ⟨(s72 _), (not_t g1), rfl, trivial⟩)
theorem df25_2 (b : List Post) (o : SO) (s : Nat) (r : List Rd) (q : SO) (t : Nat) (_hs : szOk 4 (.pv (.sl q t (List.map Rd.pv r))) = true) (nx k v : Int) (g1 : datOk k = true) (g2 : datOk v = false) :
    cc (ev X E0) 25 [AV.agg [.pv (.sl o s (List.map Post.pv b)), .pv (.sl q t (List.map Rd.pv r)), vi nx], AV.c (vw k), AV.c (vw v)] [] = some (AV.tup [AV.agg [.pv (.sl SO.nil 0 []), .pv (.sl SO.nil 0 []), vi 0], AV.c (vi 11)], []) :=
  cc_path (x := xf25) rfl [.call (AV.c (.pv (.bool (datOk k)))) [], .br false, .br false, .call (AV.c (.pv (.bool (datOk v)))) [], .br false, .br false, .br true]
    (c := rq [(1, cc (ev X E0) 54 [AV.c (vw k)] [] = some (AV.c (.pv (.bool (datOk k))), [])), (2, (!datOk k) = false), (1, cc (ev X E0) 54 [AV.c (vw v)] [] = some (AV.c (.pv (.bool (datOk v))), [])), (2, (!datOk k) = false), (1, (!datOk v) = true)]) (by kernel_rfl)
    (aq ⟨(s72 _), (not_f g1), (s72 _), (not_f g1), (not_t g2), trivial⟩)
theorem df25_3 (b : List Post) (o : SO) (s : Nat) (r : List Rd) (q : SO) (t : Nat) (_hs : szOk 4 (.pv (.sl q t (List.map Rd.pv r))) = true) (nx k v : Int) (g1 : datOk k = true) (g2 : datOk v = true) (g3 : (↑(List.length (List.map Rd.pv r)) : Int) ≥ 16) :
    cc (ev X E0) 25 [AV.agg [.pv (.sl o s (List.map Post.pv b)), .pv (.sl q t (List.map Rd.pv r)), vi nx], AV.c (vw k), AV.c (vw v)] [] = some (AV.tup [AV.agg [.pv (.sl SO.nil 0 []), .pv (.sl SO.nil 0 []), vi 0], AV.c (vi 6)], []) :=
  cc_path (x := xf25) rfl ([.call (AV.c (.pv (.bool (datOk k)))) [], .br false, .br false, .call (AV.c (.pv (.bool (datOk v)))) []] ++ bs 3 false ++ [.br true])
    (c := rq [(1, cc (ev X E0) 54 [AV.c (vw k)] [] = some (AV.c (.pv (.bool (datOk k))), [])), (2, (!datOk k) = false), (1, cc (ev X E0) 54 [AV.c (vw v)] [] = some (AV.c (.pv (.bool (datOk v))), [])), (2, (!datOk k) = false), (1, (!datOk v) = false), (1, decide ((↑(List.length (List.map Rd.pv r)) : Int) ≥ 16) = true)]) (by kernel_rfl)
    (aq ⟨(s72 _), (not_f g1), (s72 _), (not_f g1), (not_f g2), (dT g3), trivial⟩)
theorem df25_4 (b : List Post) (o : SO) (s : Nat) (r : List Rd) (q : SO) (t : Nat) (_hs : szOk 4 (.pv (.sl q t (List.map Rd.pv r))) = true) (nx k v : Int) (g1 : datOk k = true) (g2 : datOk v = true) (g3 : ¬(↑(List.length (List.map Rd.pv r)) : Int) ≥ 16) (g4 : nx ≥ 1000000) :
    cc (ev X E0) 25 [AV.agg [.pv (.sl o s (List.map Post.pv b)), .pv (.sl q t (List.map Rd.pv r)), vi nx], AV.c (vw k), AV.c (vw v)] [] = some (AV.tup [AV.agg [.pv (.sl SO.nil 0 []), .pv (.sl SO.nil 0 []), vi 0], AV.c (vi 9)], []) :=
  cc_path (x := xf25) rfl ([.call (AV.c (.pv (.bool (datOk k)))) [], .br false, .br false, .call (AV.c (.pv (.bool (datOk v)))) []] ++ bs 4 false ++ [.br true])
    (c := rq [(1, cc (ev X E0) 54 [AV.c (vw k)] [] = some (AV.c (.pv (.bool (datOk k))), [])), (2, (!datOk k) = false), (1, cc (ev X E0) 54 [AV.c (vw v)] [] = some (AV.c (.pv (.bool (datOk v))), [])), (2, (!datOk k) = false), (1, (!datOk v) = false), (1, decide ((↑(List.length (List.map Rd.pv r)) : Int) ≥ 16) = false), (1, decide (nx ≥ 1000000) = true)]) (by kernel_rfl)
    (aq ⟨(s72 _), (not_f g1), (s72 _), (not_f g1), (not_f g2), (dF g3), (dT g4), trivial⟩)
theorem df25_5 (b : List Post) (o : SO) (s : Nat) (r : List Rd) (q : SO) (t : Nat) (hs : szOk 4 (.pv (.sl q t (List.map Rd.pv r))) = true) (nx k v : Int) (g1 : datOk k = true) (g2 : datOk v = true) (g3 : ¬(↑(List.length (List.map Rd.pv r)) : Int) ≥ 16) (g4 : ¬nx ≥ 1000000) (g5 : List.map Rd.pv r = []) (g6 : (↑(0 + List.length [PV.agg [PV.int .i64 nx, .int .i64 (↑(List.length (List.map Post.pv b)) : Int), .int .i32 k, .int .i32 v]]) : Int) * 24 ≤ 140737488355328) :
    cc (ev X E0) 25 [AV.agg [.pv (.sl o s (List.map Post.pv b)), .pv (.sl q t (List.map Rd.pv r)), vi nx], AV.c (vw k), AV.c (vw v)] [] = some (AV.tup [AV.agg [.pv (.sl o s (List.map Post.pv b)), .own 0 4 [PV.agg [PV.int .i64 nx, .int .i64 (↑(List.length (List.map Post.pv b)) : Int), .int .i32 k, .int .i32 v]], vi (IntKind.wrap .i64 (nx + 1))], AV.c (vi 0)], []) :=
  cc_path (x := xf25) rfl ([.call (AV.c (.pv (.bool (datOk k)))) [], .br false, .br false, .call (AV.c (.pv (.bool (datOk v)))) []] ++ bs 5 false ++ [.sa, .emp true, .emp false])
    (c := rq [(1, cc (ev X E0) 54 [AV.c (vw k)] [] = some (AV.c (.pv (.bool (datOk k))), [])), (2, (!datOk k) = false), (1, cc (ev X E0) 54 [AV.c (vw v)] [] = some (AV.c (.pv (.bool (datOk v))), [])), (2, (!datOk k) = false), (1, (!datOk v) = false), (1, decide ((↑(List.length (List.map Rd.pv r)) : Int) ≥ 16) = false), (1, decide (nx ≥ 1000000) = false), ty hs, ty g5, (1, [PV.agg [PV.int .i64 nx, .int .i64 (↑(List.length (List.map Post.pv b)) : Int), .int .i32 k, .int .i32 v]] ≠ []), ty g6]) (by kernel_rfl)
    (aq ⟨(s72 _), (not_f g1), (s72 _), (not_f g1), (not_f g2), (dF g3), (dF g4), hs, g5, (List.cons_ne_nil _ _), g6, trivial⟩)
theorem df25_6 (b : List Post) (o : SO) (s : Nat) (r : List Rd) (q : SO) (t : Nat) (hs : szOk 4 (.pv (.sl q t (List.map Rd.pv r))) = true) (nx k v : Int) (g1 : datOk k = true) (g2 : datOk v = true) (g3 : ¬(↑(List.length (List.map Rd.pv r)) : Int) ≥ 16) (g4 : ¬nx ≥ 1000000) (g5 : List.map Rd.pv r ≠ []) (g6 : (↑(0 + List.length (List.map Rd.pv r)) : Int) * 24 ≤ 140737488355328) (g7 : (↑(List.length ([] ++ List.map Rd.pv r) + List.length [PV.agg [PV.int .i64 nx, .int .i64 (↑(List.length (List.map Post.pv b)) : Int), .int .i32 k, .int .i32 v]]) : Int) * 24 ≤ 140737488355328) :
    cc (ev X E0) 25 [AV.agg [.pv (.sl o s (List.map Post.pv b)), .pv (.sl q t (List.map Rd.pv r)), vi nx], AV.c (vw k), AV.c (vw v)] [] = some (AV.tup [AV.agg [.pv (.sl o s (List.map Post.pv b)), .own 0 4 ([] ++ List.map Rd.pv r ++ [PV.agg [PV.int .i64 nx, .int .i64 (↑(List.length (List.map Post.pv b)) : Int), .int .i32 k, .int .i32 v]]), vi (IntKind.wrap .i64 (nx + 1))], AV.c (vi 0)], []) :=
  cc_path (x := xf25) rfl ([.call (AV.c (.pv (.bool (datOk k)))) [], .br false, .br false, .call (AV.c (.pv (.bool (datOk v)))) []] ++ bs 5 false ++ [.sa, .emp false])
    (c := rq [(1, cc (ev X E0) 54 [AV.c (vw k)] [] = some (AV.c (.pv (.bool (datOk k))), [])), (2, (!datOk k) = false), (1, cc (ev X E0) 54 [AV.c (vw v)] [] = some (AV.c (.pv (.bool (datOk v))), [])), (2, (!datOk k) = false), (1, (!datOk v) = false), (1, decide ((↑(List.length (List.map Rd.pv r)) : Int) ≥ 16) = false), (1, decide (nx ≥ 1000000) = false), ty hs, ty g5, ty g6, ty g7]) (by kernel_rfl)
    (aq ⟨(s72 _), (not_f g1), (s72 _), (not_f g1), (not_f g2), (dF g3), (dF g4), hs, g5, g6, g7, trivial⟩)
theorem df27_1 (b : List Post) (o : SO) (s : Nat) (r : List Rd) (q : SO) (t : Nat) (hs : szOk 4 (.pv (.sl q t (List.map Rd.pv r))) = true) (hn : CV.some' (.pv (.sl q t (List.map Rd.pv r))) = true) (nx i : Int) (g1 : 0 ≤ i) (g2 : i ≤ (↑(List.length (List.map Rd.pv r)) : Int)) (g3 : 0 ≤ IntKind.wrap .i64 (i + 1)) (g4 : IntKind.wrap .i64 (i + 1) ≤ (↑(List.length (List.map Rd.pv r)) : Int)) (g5 : List.take (Int.toNat i) (List.map Rd.pv r) = []) (g6 : List.drop (Int.toNat (IntKind.wrap .i64 (i + 1))) (List.map Rd.pv r) = []) :
    cc (ev X E0) 27 [AV.agg [.pv (.sl o s (List.map Post.pv b)), .pv (.sl q t (List.map Rd.pv r)), vi nx], AV.c (vi i)] [] = some (AV.agg [.pv (.sl o s (List.map Post.pv b)), .pv (.sl SO.full 4 []), vi nx], []) :=
  cc_path (x := xf27) rfl [.nn, .nn, .emp true, .emp true]
    (c := rq [ty hs, ty hn, (1, (0 : Int) ≤ (0 : Int)), (1, 0 ≤ i), ty g2, ty hs, ty hn, ty g3, ty g4, (1, (↑(List.length (List.map Rd.pv r)) : Int) ≤ (↑(List.length (List.map Rd.pv r)) : Int)), ty g5, ty g6]) (by kernel_rfl)
    (aq ⟨hs, hn, (Int.le_refl _), g1, g2, hs, hn, g3, g4, (Int.le_refl _), g5, g6, trivial⟩)
theorem df27_2 (b : List Post) (o : SO) (s : Nat) (r : List Rd) (q : SO) (t : Nat) (hs : szOk 4 (.pv (.sl q t (List.map Rd.pv r))) = true) (hn : CV.some' (.pv (.sl q t (List.map Rd.pv r))) = true) (nx i : Int) (g1 : 0 ≤ i) (g2 : i ≤ (↑(List.length (List.map Rd.pv r)) : Int)) (g3 : 0 ≤ IntKind.wrap .i64 (i + 1)) (g4 : IntKind.wrap .i64 (i + 1) ≤ (↑(List.length (List.map Rd.pv r)) : Int)) (g5 : List.take (Int.toNat i) (List.map Rd.pv r) = []) (g6 : List.drop (Int.toNat (IntKind.wrap .i64 (i + 1))) (List.map Rd.pv r) ≠ []) (g7 : (↑(0 + List.length (List.drop (Int.toNat (IntKind.wrap .i64 (i + 1))) (List.map Rd.pv r))) : Int) * 24 ≤ 140737488355328) :
    cc (ev X E0) 27 [AV.agg [.pv (.sl o s (List.map Post.pv b)), .pv (.sl q t (List.map Rd.pv r)), vi nx], AV.c (vi i)] [] = some (AV.agg [.pv (.sl o s (List.map Post.pv b)), .own 0 4 ([] ++ List.drop (Int.toNat (IntKind.wrap .i64 (i + 1))) (List.map Rd.pv r)), vi nx], []) :=
  cc_path (x := xf27) rfl [.nn, .nn, .emp true, .emp false]
    (c := rq [ty hs, ty hn, (1, (0 : Int) ≤ (0 : Int)), (1, 0 ≤ i), ty g2, ty hs, ty hn, ty g3, ty g4, (1, (↑(List.length (List.map Rd.pv r)) : Int) ≤ (↑(List.length (List.map Rd.pv r)) : Int)), ty g5, ty g6, ty g7]) (by kernel_rfl)
    (aq ⟨hs, hn, (Int.le_refl _), g1, g2, hs, hn, g3, g4, (Int.le_refl _), g5, g6, g7, trivial⟩)
theorem df27_3 (b : List Post) (o : SO) (s : Nat) (r : List Rd) (q : SO) (t : Nat) (hs : szOk 4 (.pv (.sl q t (List.map Rd.pv r))) = true) (hn : CV.some' (.pv (.sl q t (List.map Rd.pv r))) = true) (nx i : Int) (g1 : 0 ≤ i) (g2 : i ≤ (↑(List.length (List.map Rd.pv r)) : Int)) (g3 : 0 ≤ IntKind.wrap .i64 (i + 1)) (g4 : IntKind.wrap .i64 (i + 1) ≤ (↑(List.length (List.map Rd.pv r)) : Int)) (g5 : List.take (Int.toNat i) (List.map Rd.pv r) ≠ []) (g6 : (↑(0 + List.length (List.take (Int.toNat i) (List.map Rd.pv r))) : Int) * 24 ≤ 140737488355328) (g7 : (↑(List.length ([] ++ List.take (Int.toNat i) (List.map Rd.pv r)) + List.length (List.drop (Int.toNat (IntKind.wrap .i64 (i + 1))) (List.map Rd.pv r))) : Int) * 24 ≤ 140737488355328) :
    cc (ev X E0) 27 [AV.agg [.pv (.sl o s (List.map Post.pv b)), .pv (.sl q t (List.map Rd.pv r)), vi nx], AV.c (vi i)] [] = some (AV.agg [.pv (.sl o s (List.map Post.pv b)), .own 0 4 ([] ++ List.take (Int.toNat i) (List.map Rd.pv r) ++ List.drop (Int.toNat (IntKind.wrap .i64 (i + 1))) (List.map Rd.pv r)), vi nx], []) :=
  cc_path (x := xf27) rfl [.nn, .nn, .emp false]
    (c := rq [ty hs, ty hn, (1, (0 : Int) ≤ (0 : Int)), (1, 0 ≤ i), ty g2, ty hs, ty hn, ty g3, ty g4, (1, (↑(List.length (List.map Rd.pv r)) : Int) ≤ (↑(List.length (List.map Rd.pv r)) : Int)), ty g5, ty g6, ty g7]) (by kernel_rfl)
    (aq ⟨hs, hn, (Int.le_refl _), g1, g2, hs, hn, g3, g4, (Int.le_refl _), g5, g6, g7, trivial⟩)
abbrev Dk.with (d : Dk) (r : List Rd) (q : SO) (t : Nat) (nx : Int) : Dk := ⟨d.b, d.o, d.s, r, q, t, nx⟩
theorem s25d {d : Dk} (h : d.Ok) (hd : deskB d = true) (k v : Int) : ∃ (r : List Rd) (q : SO) (t : Nat) (nx : Int), cs (ev X E0) 25 [d.av, AV.int .i32 k, AV.int .i32 v] = some (.tup [if opE d k v = 0 then (d.with r q t nx).av else Z.av, .i (opE d k v)]) ∧
    (opE d k v = 0 → szOk 4 (CV.pv (PV.sl q t (List.map Rd.pv r))) = true ∧ r = d.r ++ [⟨d.nx, d.b.length, k, v⟩] ∧ nx = d.nx + 1) := by
  obtain ⟨r1, r2, r3, r4, r5⟩ := desk_right hd
  unfold opE
  rw [if_pos hd]
  cases hk : datOk k with
  | false => exact ⟨[], .nil, 0, 0, cs_of (df25_1 _ _ _ _ _ _ h.rz _ k v hk), fun h => by cases h⟩
  | true =>
    cases hv : datOk v with
    | false => exact ⟨[], .nil, 0, 0, cs_of (df25_2 _ _ _ _ _ _ h.rz _ k v hk hv), fun h => by cases h⟩
    | true =>
      simp only [Bool.and_self, if_true]
      by_cases g1 : d.r.length = 16
      · rw [if_pos g1]
        exact ⟨[], .nil, 0, 0, cs_of (df25_3 _ _ _ _ _ _ h.rz _ k v hk hv (by rw [lenR]; omega)), fun h => by cases h⟩
      rw [if_neg g1]
      by_cases g2 : d.nx = 1000000
      · rw [if_pos g2]
        exact ⟨[], .nil, 0, 0, cs_of (df25_4 _ _ _ _ _ _ h.rz _ k v hk hv (by rw [lenR]; omega) (by omega)), fun h => by cases h⟩
      rw [if_neg g2]
      have hw : IntKind.wrap .i64 (d.nx + 1) = d.nx + 1 := wi64 (by omega) (by omega)
      have gx : ¬ d.nx ≥ 1000000 := by omega
      refine ⟨d.r ++ [⟨d.nx, d.b.length, k, v⟩], .shut, 4, d.nx + 1, ?_, fun _ => ⟨rfl, rfl, rfl⟩⟩
      rw [if_pos rfl]
      by_cases c : d.r.map Rd.pv = []
      · have fin := df25_5 d.b d.o d.s d.r d.q d.t h.rz d.nx k v hk hv (by rw [lenR]; omega) gx c (by simp)
        rw [hw, lenP] at fin
        have := cs_of fin
        have e : List.map Rd.pv (d.r ++ [⟨d.nx, d.b.length, k, v⟩]) = [PV.agg [.int .i64 d.nx, .int .i64 d.b.length, .int .i32 k, .int .i32 v]] := by rw [List.map_append, c]; rfl
        unfold Dk.av Dv
        rw [e]
        exact this
      · have fin := df25_6 d.b d.o d.s d.r d.q d.t h.rz d.nx k v hk hv (by rw [lenR]; omega) gx c (by rw [Nat.zero_add, lenR]; omega) (by simp; omega)
        rw [hw, lenP] at fin
        have := cs_of fin
        unfold Dk.av Dv
        rw [List.map_append]
        exact this
theorem s27d {d : Dk} (h : d.Ok) {i : Nat} (hi : i < d.r.length) : ∃ (q : SO) (t : Nat), cs (ev X E0) 27 [d.av, AV.i (i : Int)] = some (d.with (d.r.take i ++ d.r.drop (i + 1)) q t d.nx).av ∧ szOk 4 (CV.pv (PV.sl q t (List.map Rd.pv (d.r.take i ++ d.r.drop (i + 1))))) = true := by
  have hrl := h.rl
  have hn : CV.some' (CV.pv (PV.sl d.q d.t (List.map Rd.pv d.r))) = true := by
    simp only [CV.some', bne_iff_ne]
    intro e
    have := h.rn e
    rw [this] at hi
    simp at hi
  have hw : IntKind.wrap .i64 ((i : Int) + 1) = ((i + 1 : Nat) : Int) := by rw [wi64 (by omega) (by omega)]; omega
  have p1 := df27_1 d.b d.o d.s d.r d.q d.t h.rz hn d.nx (i : Int)
  have p2 := df27_2 d.b d.o d.s d.r d.q d.t h.rz hn d.nx (i : Int)
  have p3 := df27_3 d.b d.o d.s d.r d.q d.t h.rz hn d.nx (i : Int)
  rw [hw] at p1 p2 p3
  simp only [Int.toNat_natCast, lenR] at p1 p2 p3
  by_cases c1 : List.take i (List.map Rd.pv d.r) = []
  · by_cases c2 : List.drop (i + 1) (List.map Rd.pv d.r) = []
    · refine ⟨.full, 4, ?_, ?_⟩
      · rw [cs_of (p1 (by omega) (by omega) (by omega) (by omega) c1 c2)]
        unfold Dk.av Dv
        rw [List.map_append, List.map_take, List.map_drop, c1, c2]
        rfl
      · rw [List.map_append, List.map_take, List.map_drop, c1, c2]; rfl
    · refine ⟨.shut, 4, ?_, rfl⟩
      rw [cs_of (p2 (by omega) (by omega) (by omega) (by omega) c1 c2 (by rw [List.length_drop, List.length_map]; omega))]
      unfold Dk.av Dv
      rw [List.map_append, List.map_take, List.map_drop, c1]
      rfl
  · refine ⟨.shut, 4, ?_, rfl⟩
    rw [cs_of (p3 (by omega) (by omega) (by omega) (by omega) c1 (by rw [List.length_take, List.length_map]; omega) (by rw [List.length_append, List.length_nil, List.length_take, List.length_drop, List.length_map]; omega))]
    unfold Dk.av Dv
    rw [List.map_append, List.map_take, List.map_drop]
    rfl
theorem outFP_f (l : List Post) : ∃ (o : SO) (s : Nat), outFP l = PV.sl o s (List.map Post.pv l) ∧ szOk 7 (CV.pv (PV.sl o s (List.map Post.pv l))) = true := by
  cases l with
  | nil => exact ⟨.full, 7, rfl, rfl⟩
  | cons p r => exact ⟨.shut, 7, rfl, rfl⟩
theorem s29d {d : Dk} (h : d.Ok) (h7 : d.o = .nil → d.s = 7) {i : Nat} {z : Rd} (hz : d.r[i]? = some z) (h0 : 0 ≤ z.sees) (h1 : z.sees ≤ d.b.length) : ∃ (o : SO) (s : Nat), cs (ev X E0) 29 [d.av, AV.i (i : Int)] = some (.c (CV.pv (PV.sl o s (List.map Post.pv ((d.b.take z.sees.toNat).filter (within z.known z.value)))))) ∧ szOk 7 (CV.pv (PV.sl o s (List.map Post.pv ((d.b.take z.sees.toNat).filter (within z.known z.value))))) = true := by
  obtain ⟨o, s, e1, e2⟩ := outFP_f ((d.b.take z.sees.toNat).filter (within z.known z.value))
  have hbl := h.bl
  refine ⟨o, s, ?_, e2⟩
  by_cases hn : d.o = .nil
  · have hb := h.bn hn
    have h66 := s29 (l := []) (o := .nil) (s := 7) rfl z.known z.value (by simp)
    rw [show List.filter (within z.known z.value) [] = (d.b.take z.sees.toNat).filter (within z.known z.value) by rw [hb, List.take_nil], e1] at h66
    have hl0 : d.b.length = 0 := by rw [hb]; rfl
    have := df29n_1 d.r d.q d.t h.rz d.nx (i : Int) z (by rw [Int.toNat_natCast]; exact hz) o s _ h66 (by omega) h0 (by omega)
    have e3 : d.av = Dv [] .nil 7 d.r d.q d.t d.nx := by unfold Dk.av; rw [hb, hn, h7 hn]
    rw [e3]
    exact cs_of this
  · have nn : CV.some' (CV.pv (PV.sl d.o d.s (List.map Post.pv d.b))) = true := by simp only [CV.some', bne_iff_ne]; exact hn
    have h66 := s29 (l := d.b.take z.sees.toNat) (o := .shut) (s := 7) rfl z.known z.value (by rw [List.length_take]; omega)
    rw [e1, List.map_take] at h66
    exact cs_of (df29_1 d.b d.o d.s h.bz nn d.r d.q d.t h.rz d.nx (i : Int) z (by rw [Int.toNat_natCast]; exact hz) o s _ h66 (by omega) h0 (by rw [lenP]; exact h1))
abbrev WD4_0 (b : List Post) (o : SO) (f1 : Bool) : Prop := cc (ev X E0) 12 [AV.sl o 7 (List.map Post.pv b)] [] = some (AV.b f1, [])
abbrev WD4_1 (p : Post) (f2 : Bool) : Prop := cc (ev X E0) 12 [AV.c (.pv (.sl SO.full 7 [Post.pv p]))] [] = some (AV.b f2, [])
abbrev WD4_2 : Prop := cc (ev X E0) (13 : Nat) [] [] = some (AV.b true, [])
abbrev WD4_3 (b : List Post) (o : SO) (r : List Rd) (q : SO) (nx : Int) (p : Post) (id : Int) (k : Int) (v : Int) : Prop := cc (ev X E0) 3 [AV.agg [.pv (.sl o 7 (List.map Post.pv b)), .pv (.sl q 4 (List.map Rd.pv r)), vi nx], AV.agg (Post.cs p), AV.c (vi id), AV.c (vw k), AV.c (vw v)] [] = some (AV.b true, [])
abbrev WD4_4 (b : List Post) (o : SO) : Prop := cc (ev X E0) 12 [AV.sl o 7 (List.map Post.pv b)] [] = some (AV.b true, [])
abbrev WD4_5 (p : Post) : Prop := cc (ev X E0) 12 [AV.c (.pv (.sl SO.full 7 [Post.pv p]))] [] = some (AV.b true, [])
abbrev WD4_6 (b : List Post) (o : SO) (r : List Rd) (q : SO) (nx : Int) : Prop := cc (ev X E0) 19 [Dv b o 7 r q 4 nx] [] = some (AV.tup [AV.i 0, AV.b false], [])
abbrev WD4_7 : Prop := cc (ev X E0) (23 : Nat) [Dk.av Z, Dk.av Z] [] = some (AV.b true, [])
abbrev WD4_8 (b : List Post) (o : SO) (r : List Rd) (q : SO) (nx : Int) : Prop := cc (ev X E0) 14 [Dv b o 7 r q 4 nx] [] = some (AV.b true, [])
abbrev WD4_9 (b : List Post) (o : SO) (x : Dk) : Prop := cc (ev X E0) 20 [Bk o 7 b] [] = some (AV.tup [Dk.av x, AV.i 0], [])
abbrev WD4_10 (b : List Post) (o : SO) (r : List Rd) (q : SO) (nx : Int) : Prop := cc (ev X E0) 21 [Dv b o 7 r q 4 nx] [] = some (AV.b true, [])
abbrev WD4_11 (b : List Post) (o : SO) : Prop := cc (ev X E0) 22 [Bk o 7 b] [] = some (AV.b true, [])
abbrev WD4_12 (b : List Post) (o : SO) (x : Dk) : Prop := cc (ev X E0) 23 [Dk.av x, AV.agg [.pv (.sl o 7 (List.map Post.pv b)), .pv (.sl SO.nil 0 []), vi 1]] [] = some (AV.b true, [])
abbrev WD4_13 (b : List Post) (o : SO) (r : List Rd) (q : SO) (nx : Int) (p : Post) (e : Int) : Prop := cs (ev X E0) 15 [Dv b o 7 r q 4 nx, Post.av p] = some (AV.tup [Dk.av Z, AV.i e])
abbrev WD4_14 (b : List Post) (o : SO) (p : Post) (e : Int) : Prop := cc (ev X E0) 24 [AV.sl o 7 (List.map Post.pv b), Post.av p] [] = some (AV.i e, [])
abbrev WD4_15 (b : List Post) (o : SO) (r : List Rd) (q : SO) (nx : Int) (k : Int) (v : Int) (y : Dk) : Prop := cs (ev X E0) 16 [Dv b o 7 r q 4 nx, AV.int IntKind.i32 k, AV.int IntKind.i32 v] = some (AV.tup [Dk.av y, AV.i nx, AV.i 0])
abbrev WD4_16 (b : List Post) (o : SO) (r : List Rd) (q : SO) (nx : Int) (k : Int) (v : Int) (u : Dk) : Prop := cs (ev X E0) 25 [Dv b o 7 r q 4 nx, AV.int IntKind.i32 k, AV.int IntKind.i32 v] = some (AV.tup [Dk.av u, AV.i 0])
abbrev WD4_17 (y : Dk) (u : Dk) : Prop := cc (ev X E0) 23 [Dk.av y, Dk.av u] [] = some (AV.b true, [])
abbrev WD4_18 (r : List Rd) : Prop := (false == decide ((↑(List.length (List.map Rd.pv r)) : Int) > 0)) = true
abbrev WD4_19 (b : List Post) (o : SO) (r : List Rd) (q : SO) (nx : Int) (id : Int) : Prop := cs (ev X E0) 17 [Dv b o 7 r q 4 nx, AV.i id] = some (AV.tup [Dk.av Z, AV.i 8])
abbrev WD4_20 (b : List Post) (o : SO) (r : List Rd) (q : SO) (nx : Int) (id : Int) : Prop := cs (ev X E0) 18 [Dv b o 7 r q 4 nx, AV.i id] = some (AV.tup [AV.c (.pv (.sl SO.nil 0 [])), AV.i 8])
abbrev WD4_21 (b : List Post) (o : SO) (r : List Rd) (q : SO) (nx : Int) (id : Int) (ax : Int) : Prop := cc (ev X E0) 26 [Dv b o 7 r q 4 nx, AV.i id] [] = some (AV.i ax, [])
abbrev WD4_22 (r : List Rd) : Prop := (true == decide ((↑(List.length (List.map Rd.pv r)) : Int) > 0)) = true
abbrev WD4_23 (b : List Post) (o : SO) (r : List Rd) (q : SO) (nx : Int) (z : Rd) : Prop := cc (ev X E0) 19 [Dv b o 7 r q 4 nx] [] = some (AV.tup [AV.i (Rd.sees z), AV.b true], [])
abbrev WD4_24 (b : List Post) (o : SO) (r : List Rd) (q : SO) (nx : Int) (id : Int) (c : Dk) : Prop := cs (ev X E0) 17 [Dv b o 7 r q 4 nx, AV.i id] = some (AV.tup [Dk.av c, AV.i 0])
abbrev WD4_25 (b : List Post) (o : SO) (r : List Rd) (q : SO) (nx : Int) (id : Int) (ol : SO) (sl : Nat) (ll : List Post) : Prop := cs (ev X E0) 18 [Dv b o 7 r q 4 nx, AV.i id] = some (AV.tup [AV.c (.pv (.sl ol sl (List.map Post.pv ll))), AV.i 0])
abbrev WD4_26 (b : List Post) (o : SO) (r : List Rd) (q : SO) (nx : Int) (c2 : Dk) (ax : Int) : Prop := cs (ev X E0) 27 [Dv b o 7 r q 4 nx, AV.i ax] = some (Dk.av c2)
abbrev WD4_27 (c : Dk) (c2 : Dk) : Prop := cc (ev X E0) 23 [Dk.av c, Dk.av c2] [] = some (AV.b true, [])
abbrev WD4_28 (b : List Post) (o : SO) (r : List Rd) (q : SO) (nx : Int) (ax : Int) (om : SO) (sm : Nat) (mm : List Post) : Prop := cs (ev X E0) 29 [Dv b o 7 r q 4 nx, AV.i ax] = some (AV.c (.pv (.sl om sm (List.map Post.pv mm))))
abbrev WD4_29 (ol : SO) (sl : Nat) (ll : List Post) (om : SO) (sm : Nat) (mm : List Post) : Prop := cc (ev X E0) 28 [AV.sl ol sl (List.map Post.pv ll), AV.sl om sm (List.map Post.pv mm)] [] = some (AV.b true, [])
abbrev WD4_30 (b : List Post) (o : SO) (r : List Rd) (q : SO) (nx : Int) (k : Int) (v : Int) (f : Int) : Prop := cs (ev X E0) 16 [Dv b o 7 r q 4 nx, AV.int IntKind.i32 k, AV.int IntKind.i32 v] = some (AV.tup [Dk.av Z, AV.i 0, AV.i f])
abbrev WD4_31 (b : List Post) (o : SO) (r : List Rd) (q : SO) (nx : Int) (k : Int) (v : Int) (f : Int) : Prop := cs (ev X E0) 25 [Dv b o 7 r q 4 nx, AV.int IntKind.i32 k, AV.int IntKind.i32 v] = some (AV.tup [Dk.av Z, AV.i f])
abbrev WD4_32 (b : List Post) (o : SO) (r : List Rd) (q : SO) (nx : Int) (p : Post) (w : Dk) : Prop := cs (ev X E0) 15 [Dv b o 7 r q 4 nx, Post.av p] = some (AV.tup [Dk.av w, AV.i 0])
abbrev WD4_33 (b : List Post) (o : SO) (p : Post) : Prop := cc (ev X E0) 24 [AV.sl o 7 (List.map Post.pv b), Post.av p] [] = some (AV.i 0, [])
abbrev WD4_34 (r : List Rd) (q : SO) (nx : Int) (p : Post) (w : Dk) : Prop := cc (ev X E0) 23 [Dk.av w, AV.agg [.pv (.sl SO.shut 7 [Post.pv p]), .pv (.sl q 4 (List.map Rd.pv r)), vi nx]] [] = some (AV.b true, [])
abbrev WD4_35 (b : List Post) (r : List Rd) (q : SO) (nx : Int) (p : Post) (w : Dk) : Prop := cc (ev X E0) 23 [Dk.av w, AV.agg [.pv (.sl SO.shut 7 (List.map Post.pv b ++ [Post.pv p])), .pv (.sl q 4 (List.map Rd.pv r)), vi nx]] [] = some (AV.b true, [])
end Go.Sx.Tryd
