/- A request is read: its parts. -/
import Derived.Test.YtplknajjcllmkaaDoorH9
import Derived.Test.YtplknajjcllmkaaDoorH14
namespace Go.Sx.Tryd
open Go Go.Sx
abbrev Z21 : List CV := [.pv (.int .i64 0), .pv (.int .i64 0), .pv (.str []), .pv (.int .i64 0), .pv (.int .i64 0), .pv (.int .i64 0), .pv (.int .i64 0), .pv (.int .i64 0), .pv (.int .i64 0), .pv (.int .i64 0), .pv (.int .i32 0), .pv (.int .i32 0), .pv (.int .i64 0), .pv (.int .i64 0), .pv (.int .i32 0), .pv (.int .i64 0), .pv (.int .i64 0), .pv (.bool false), .pv (.sl SO.nil 0 []), .pv (.str []), .pv (.str [])]
end Go.Sx.Tryd
/- A request is read: the paths. -/
namespace Go.Sx.Tryd
open Go Go.Sx
end Go.Sx.Tryd
/- A request is read: the paths (both). -/
namespace Go.Sx.Tryd
open Go Go.Sx
end Go.Sx.Tryd
/- A request is read: the paths (legs). -/
namespace Go.Sx.Tryd
open Go Go.Sx
end Go.Sx.Tryd
/- A request is read: the paths (a bool). -/
namespace Go.Sx.Tryd
open Go Go.Sx
end Go.Sx.Tryd
/- A request is read: the paths (no legs). -/
namespace Go.Sx.Tryd
open Go Go.Sx
end Go.Sx.Tryd
/- A request is read: the paths (no more). -/
namespace Go.Sx.Tryd
open Go Go.Sx
end Go.Sx.Tryd
/- A request is read: the paths (an amount). -/
namespace Go.Sx.Tryd
open Go Go.Sx
end Go.Sx.Tryd
/- The request of bytes, of the program. -/
namespace Go.Sx.Tryd
open Go Go.Sx
abbrev decA (s : List UInt8) : AV := .tup [if decE s = 0 then Req.av (decP s) else AV.agg Z21, AV.i (decE s)]
theorem fin (s : List UInt8) {A : AV} {eE c re : Int} {bd : Bool} (hb : re = if bd = true then 9 else 0) (hE : decE s = if eE ≠ 0 then eE else if c ≠ 12 ∧ bd = true then 9 else c) (hP : Req.av (decP s) = A)
    (k1 : ¬ eE = 0 → cs (ev X E0) 45 [AV.s s] = some (.tup [AV.agg Z21, AV.i eE]))
    (k2 : eE = 0 → ¬ c = 12 → ¬ re = 0 → cs (ev X E0) 45 [AV.s s] = some (.tup [AV.agg Z21, AV.i re]))
    (k3 : eE = 0 → ¬ c = 12 → re = 0 → ¬ c = 0 → cs (ev X E0) 45 [AV.s s] = some (.tup [AV.agg Z21, AV.i c]))
    (k4 : eE = 0 → ¬ c = 12 → re = 0 → c = 0 → cs (ev X E0) 45 [AV.s s] = some (.tup [A, AV.i 0]))
    (k5 : eE = 0 → c = 12 → ¬ c = 0 → cs (ev X E0) 45 [AV.s s] = some (.tup [AV.agg Z21, AV.i c])) : cs (ev X E0) 45 [AV.s s] = some (decA s) := by
  unfold decA
  by_cases e0 : eE = 0
  · rw [if_neg (by omega)] at hE
    by_cases c12 : c = 12
    · rw [if_neg (by rintro ⟨h, _⟩; exact h c12)] at hE
      rw [hE, if_neg (by omega)]
      exact k5 e0 c12 (by omega)
    · cases hbd : bd with
      | true =>
        rw [hbd, if_pos rfl] at hb
        rw [hbd, if_pos ⟨c12, rfl⟩] at hE
        rw [hE, if_neg (by decide), ← hb]
        exact k2 e0 c12 (by omega)
      | false =>
        rw [hbd, if_neg (by decide)] at hb
        rw [hbd, if_neg (by rintro ⟨_, h⟩; exact absurd h (by decide))] at hE
        by_cases c0 : c = 0
        · rw [hE, if_pos c0, hP, c0]; exact k4 e0 c12 hb c0
        · rw [hE, if_neg c0]; exact k3 e0 c12 hb c0
  · rw [if_pos e0] at hE
    rw [hE, if_neg e0]
    exact k1 e0
end Go.Sx.Tryd
/- Lists of requests: how they are gone through. -/
namespace Go.Sx.Tryd
open Go Go.Sx
abbrev lqs (o : SO) (s : Nat) (l : List Req) : Prop := szOk 21 (CV.pv (PV.sl o s (List.map Req.pv l))) = true
abbrev S35 (l : List Req) (o : SO) (i : Int) : St := St.mk (tmOf 38 [(8, AV.c (CV.pv (PV.sl o 21 (List.map Req.pv l)))), (9, AV.c (CV.pv (PV.int .i64 (↑(List.length (List.map Req.pv l)) : Int)))), (10, AV.c (CV.pv (PV.int .i64 i)))]) []
theorem l35_1 (l : List Req) (o : SO) (i : Nat) (y1 : Req) (g1 : (↑i : Int) < (↑(List.length (List.map Req.pv l)) : Int)) (g2 : l[i]? = some y1) (g3 : (↑(List.length (Req.text y1)) : Int) > 6000) :
    lv (cv (ev X E0) xf35_l0) (rl [8, 0, 0]) 0 (S35 l o (↑i : Int)) = some (XExit.ret, St.mk (tmOf 38 [(2, AV.c (.pv (.bool false)))]) [.cells (Req.cs y1)]) :=
  lv_ret [.br true, .el (Req.pv y1), .br true, .br true, .br true, .br true, .br true, .br true, .br true, .br true, .br true, .br true, .br true, .br true, .br true, .br true, .br true, .br true, .br true]
    (c := rq [(1, decide ((↑i : Int) < (↑(List.length (List.map Req.pv l)) : Int)) = true), (1, 0 ≤ (↑i : Int)), (1, (List.map Req.pv l)[i]? = some (Req.pv y1)), (5, decide ((↑(List.length (Req.text y1)) : Int) > 6000) = true), (12, true = true)]) (by kernel_rfl)
    (aq ⟨(decide_eq_true g1), (Int.natCast_nonneg _), (map_at g2), (decide_eq_true g3), rfl, trivial⟩)
theorem l35_2 (l : List Req) (o : SO) (i : Nat) (y1 : Req) (g1 : (↑i : Int) < (↑(List.length (List.map Req.pv l)) : Int)) (g2 : l[i]? = some y1) (g3 : ¬(↑(List.length (Req.text y1)) : Int) > 6000) (g4 : (↑(List.length (Req.memo y1)) : Int) > 6000) :
    lv (cv (ev X E0) xf35_l0) (rl [8, 0, 0]) 0 (S35 l o (↑i : Int)) = some (XExit.ret, St.mk (tmOf 38 [(2, AV.c (.pv (.bool false)))]) [.cells (Req.cs y1)]) :=
  lv_ret [.br true, .el (Req.pv y1), .br false, .br false, .br false, .br false, .br false, .br true, .br true, .br true, .br true, .br true, .br true, .br true, .br true, .br true, .br true, .br true, .br true]
    (c := rq [(1, decide ((↑i : Int) < (↑(List.length (List.map Req.pv l)) : Int)) = true), (1, 0 ≤ (↑i : Int)), (1, (List.map Req.pv l)[i]? = some (Req.pv y1)), (5, decide ((↑(List.length (Req.text y1)) : Int) > 6000) = false), (6, decide ((↑(List.length (Req.memo y1)) : Int) > 6000) = true), (6, true = true)]) (by kernel_rfl)
    (aq ⟨(decide_eq_true g1), (Int.natCast_nonneg _), (map_at g2), (decide_eq_false g3), (decide_eq_true g4), rfl, trivial⟩)
theorem l35_3 (l : List Req) (o : SO) (i : Nat) (y1 : Req) (g1 : (↑i : Int) < (↑(List.length (List.map Req.pv l)) : Int)) (g2 : l[i]? = some y1) (g3 : ¬(↑(List.length (Req.text y1)) : Int) > 6000) (g4 : ¬(↑(List.length (Req.memo y1)) : Int) > 6000) (g5 : (↑(List.length (Req.cname y1)) : Int) > 6000) :
    lv (cv (ev X E0) xf35_l0) (rl [8, 0, 0]) 0 (S35 l o (↑i : Int)) = some (XExit.ret, St.mk (tmOf 38 [(2, AV.c (.pv (.bool false)))]) [.cells (Req.cs y1)]) :=
  lv_ret [.br true, .el (Req.pv y1), .br false, .br false, .br false, .br false, .br false, .br false, .br false, .br false, .br false, .br false, .br false, .br true, .br true, .br true, .br true, .br true, .br true]
    (c := rq [(1, decide ((↑i : Int) < (↑(List.length (List.map Req.pv l)) : Int)) = true), (1, 0 ≤ (↑i : Int)), (1, (List.map Req.pv l)[i]? = some (Req.pv y1)), (5, decide ((↑(List.length (Req.text y1)) : Int) > 6000) = false), (6, decide ((↑(List.length (Req.memo y1)) : Int) > 6000) = false), (5, decide ((↑(List.length (Req.cname y1)) : Int) > 6000) = true), (1, true = true)]) (by kernel_rfl)
    (aq ⟨(decide_eq_true g1), (Int.natCast_nonneg _), (map_at g2), (decide_eq_false g3), (decide_eq_false g4), (decide_eq_true g5), rfl, trivial⟩)
theorem l35_4 (l : List Req) (o : SO) (i : Nat) (y1 : Req) (g1 : (↑i : Int) < (↑(List.length (List.map Req.pv l)) : Int)) (g2 : l[i]? = some y1) (g3 : ¬(↑(List.length (Req.text y1)) : Int) > 6000) (g4 : ¬(↑(List.length (Req.memo y1)) : Int) > 6000) (g5 : ¬(↑(List.length (Req.cname y1)) : Int) > 6000) (g6 : (↑(List.length (List.map Leg.pv (Req.legs y1))) : Int) > 40) :
    lv (cv (ev X E0) xf35_l0) (rl [8, 0, 0]) 0 (S35 l o (↑i : Int)) = some (XExit.ret, St.mk (tmOf 38 [(2, AV.c (.pv (.bool false)))]) [.cells (Req.cs y1)]) :=
  lv_ret [.br true, .el (Req.pv y1), .br false, .br false, .br false, .br false, .br false, .br false, .br false, .br false, .br false, .br false, .br false, .br false, .br false, .br false, .br false, .br false, .br true]
    (c := [decide ((↑i : Int) < (↑(List.length (List.map Req.pv l)) : Int)) = true, 0 ≤ (↑i : Int), (List.map Req.pv l)[i]? = some (Req.pv y1), decide ((↑(List.length (Req.text y1)) : Int) > 6000) = false, decide ((↑(List.length (Req.text y1)) : Int) > 6000) = false, decide ((↑(List.length (Req.text y1)) : Int) > 6000) = false, decide ((↑(List.length (Req.text y1)) : Int) > 6000) = false, decide ((↑(List.length (Req.text y1)) : Int) > 6000) = false, decide ((↑(List.length (Req.memo y1)) : Int) > 6000) = false, decide ((↑(List.length (Req.memo y1)) : Int) > 6000) = false, decide ((↑(List.length (Req.memo y1)) : Int) > 6000) = false, decide ((↑(List.length (Req.memo y1)) : Int) > 6000) = false, decide ((↑(List.length (Req.memo y1)) : Int) > 6000) = false, decide ((↑(List.length (Req.memo y1)) : Int) > 6000) = false, decide ((↑(List.length (Req.cname y1)) : Int) > 6000) = false, decide ((↑(List.length (Req.cname y1)) : Int) > 6000) = false, decide ((↑(List.length (Req.cname y1)) : Int) > 6000) = false, decide ((↑(List.length (Req.cname y1)) : Int) > 6000) = false, decide ((↑(List.length (Req.cname y1)) : Int) > 6000) = false, decide ((↑(List.length (List.map Leg.pv (Req.legs y1))) : Int) > 40) = true]) (by kernel_rfl)
    ⟨(decide_eq_true g1), (Int.natCast_nonneg _), (map_at g2), (decide_eq_false g3), (decide_eq_false g3), (decide_eq_false g3), (decide_eq_false g3), (decide_eq_false g3), (decide_eq_false g4), (decide_eq_false g4), (decide_eq_false g4), (decide_eq_false g4), (decide_eq_false g4), (decide_eq_false g4), (decide_eq_false g5), (decide_eq_false g5), (decide_eq_false g5), (decide_eq_false g5), (decide_eq_false g5), (decide_eq_true g6), trivial⟩
theorem l35_5 (l : List Req) (o : SO) (i : Nat) (y1 : Req) (g1 : (↑i : Int) < (↑(List.length (List.map Req.pv l)) : Int)) (g2 : l[i]? = some y1) (g3 : ¬(↑(List.length (Req.text y1)) : Int) > 6000) (g4 : ¬(↑(List.length (Req.memo y1)) : Int) > 6000) (g5 : ¬(↑(List.length (Req.cname y1)) : Int) > 6000) (g6 : ¬(↑(List.length (List.map Leg.pv (Req.legs y1))) : Int) > 40) :
    lv (cv (ev X E0) xf35_l0) (rl [8, 0, 0]) 0 (S35 l o (↑i : Int)) = lv (cv (ev X E0) xf35_l0) (rl [8, 0, 0]) 0 (St.mk (tmOf 38 [(8, AV.c (.pv (.sl o 21 (List.map Req.pv l)))), (9, AV.c (vi (↑(List.length (List.map Req.pv l)) : Int))), (10, AV.c (vi (IntKind.wrap .i64 ((↑i : Int) + 1))))]) []) :=
  lv_next [.br true, .el (Req.pv y1), .br false, .br false, .br false, .br false, .br false, .br false, .br false, .br false, .br false, .br false, .br false, .br false, .br false, .br false, .br false, .br false, .br false]
    (c := rq [(1, decide ((↑i : Int) < (↑(List.length (List.map Req.pv l)) : Int)) = true), (1, 0 ≤ (↑i : Int)), (1, (List.map Req.pv l)[i]? = some (Req.pv y1)), (5, decide ((↑(List.length (Req.text y1)) : Int) > 6000) = false), (6, decide ((↑(List.length (Req.memo y1)) : Int) > 6000) = false), (5, decide ((↑(List.length (Req.cname y1)) : Int) > 6000) = false), (1, decide ((↑(List.length (List.map Leg.pv (Req.legs y1))) : Int) > 40) = false)]) (by kernel_rfl)
    (aq ⟨(decide_eq_true g1), (Int.natCast_nonneg _), (map_at g2), (decide_eq_false g3), (decide_eq_false g4), (decide_eq_false g5), (decide_eq_false g6), trivial⟩)
theorem l35_6 (l : List Req) (o : SO) (i : Nat) (g1 : ¬(↑i : Int) < (↑(List.length (List.map Req.pv l)) : Int)) :
    lv (cv (ev X E0) xf35_l0) (rl [8, 0, 0]) 0 (S35 l o (↑i : Int)) = some (XExit.exit 0, St.mk (tmOf 38 []) []) :=
  lv_exit [.br false]
    (c := [decide ((↑i : Int) < (↑(List.length (List.map Req.pv l)) : Int)) = false]) (by kernel_rfl)
    ⟨(decide_eq_false g1), trivial⟩
abbrev S44q (l : List Req) (o : SO) (s : Nat) (w : List UInt8) (i : Int) : St := St.mk (tmOf 26 [(0, AV.c (CV.pv (PV.sl o s (List.map Req.pv l)))), (3, AV.c (CV.pv (PV.str w))), (4, AV.c (CV.pv (PV.int .i64 i)))]) []
theorem l44_1 (l : List Req) (o : SO) (s : Nat) (hs : szOk 21 (.pv (.sl o s (List.map Req.pv l))) = true) (w : List UInt8) (i : Nat) (y : Req) (hy : l[i]? = some y) (e : List UInt8) (h41 : cc (ev X E0) 41 [Req.av y] [] = some (AV.s e, [])) (hlt : (↑i : Int) < (↑(List.length (List.map Req.pv l)) : Int)) (g1 : List.length e ≤ 1000000) (g2 : List.length w + List.length (tb e) ≤ 9223372036854775807) :
    lv (cv (ev X E0) xf44_l0) (rl [0, 2, 0]) 0 (S44q l o s w (↑i : Int)) = lv (cv (ev X E0) xf44_l0) (rl [0, 2, 0]) 0 (St.mk (tmOf 26 [(0, AV.c (.pv (.sl o s (List.map Req.pv l)))), (3, AV.c (.pv (.str (w ++ tb e)))), (4, AV.c (vi (IntKind.wrap .i64 ((↑i : Int) + 1))))]) []) :=
  lv_next [.br true, .sz, .el (Req.pv y), .call (AV.c (.pv (.str e))) [], .call (AV.c (.own 0 1 (pvBytes (tb e)))) [], .bytes (tb e)]
    (c := rq [(1, decide ((↑i : Int) < (↑(List.length (List.map Req.pv l)) : Int)) = true), (1, type_of% hs), (1, 0 ≤ (↑i : Int)), (1, (List.map Req.pv l)[i]? = some (Req.pv y)), (1, type_of% h41), (1, cc (ev X E0) 83 [AV.c (.pv (.str e))] [] = some (AV.c (.own 0 1 (pvBytes (tb e))), [])), (1, bytesOf' (pvBytes (tb e)) = some (tb e)), (1, type_of% g2)]) (by kernel_rfl)
    (aq ⟨(decide_eq_true hlt), hs, (Int.natCast_nonneg _), (map_at hy), h41, (rText _ g1), (bytesOf_pv _), g2, trivial⟩)
theorem l44x_1 (l : List Req) (o : SO) (s : Nat) (w : List UInt8) (i : Nat) (hlt : ¬(↑i : Int) < (↑(List.length (List.map Req.pv l)) : Int)) :
    lv (cv (ev X E0) xf44_l0) (rl [0, 2, 0]) 0 (S44q l o s w (↑i : Int)) = some (XExit.exit 0, St.mk (tmOf 26 [(3, AV.c (.pv (.str w)))]) []) :=
  lv_exit [.br false]
    (c := [decide ((↑i : Int) < (↑(List.length (List.map Req.pv l)) : Int)) = false]) (by kernel_rfl)
    ⟨(decide_eq_false hlt), trivial⟩
abbrev S39 (l : List Req) (o : SO) (s g : Nat) (w : List UInt8) (i : Int) : St := St.mk (tmOf 38 [(4, AV.c (CV.ptr 0 0)), (18, AV.c (CV.pv (PV.sl o s (List.map Req.pv l)))), (19, AV.c (CV.pv (PV.int .i64 (↑(List.length (List.map Req.pv l)) : Int)))), (20, AV.c (CV.pv (PV.int .i64 i)))]) [Box.cells [CV.own g 1 (pvBytes w)]]
theorem l39a_1 (l : List Req) (o : SO) (s : Nat) (hs : szOk 21 (.pv (.sl o s (List.map Req.pv l))) = true) (w : List UInt8) (i : Nat) (y : Req) (hy : l[i]? = some y) (e : List UInt8) (c : Int) (h38 : cc (ev X E0) 38 [Req.av y] [] = some (AV.tup [AV.s e, AV.i c], [])) (hlt : (↑i : Int) < (↑(List.length (List.map Req.pv l)) : Int)) (g1 : ¬c = 0) :
    lv (cv (ev X E0) xf39_l0) (rl [4, 13, 0, 0]) 1 (S39 l o s 1088 w (↑i : Int)) = some (XExit.ret, St.mk (tmOf 38 [(2, AV.c (.pv (.str []))), (3, AV.c (vi c))]) [.cells [.own 1088 1 (pvBytes w)], .cells (Req.cs y)]) :=
  lv_ret [.br true, .sz, .el (Req.pv y), .call (AV.tup [AV.c (.pv (.str e)), AV.c (vi c)]) [], .br true]
    (c := rq [(1, decide ((↑i : Int) < (↑(List.length (List.map Req.pv l)) : Int)) = true), (1, type_of% hs), (1, 0 ≤ (↑i : Int)), (1, (List.map Req.pv l)[i]? = some (Req.pv y)), (1, type_of% h38), (1, (c != 0) = true)]) (by kernel_rfl)
    (aq ⟨(decide_eq_true hlt), hs, (Int.natCast_nonneg _), (map_at hy), h38, (bne_iff_ne.mpr g1), trivial⟩)
theorem l39a_2 (l : List Req) (o : SO) (s : Nat) (hs : szOk 21 (.pv (.sl o s (List.map Req.pv l))) = true) (w : List UInt8) (i : Nat) (y : Req) (hy : l[i]? = some y) (e : List UInt8) (c : Int) (h38 : cc (ev X E0) 38 [Req.av y] [] = some (AV.tup [AV.s e, AV.i c], [])) (hlt : (↑i : Int) < (↑(List.length (List.map Req.pv l)) : Int)) (g1 : c = 0) (g2 : List.length e ≤ 1000000) (g3 : List.length w ≤ 1000000000) :
    lv (cv (ev X E0) xf39_l0) (rl [4, 13, 0, 0]) 1 (S39 l o s 1088 w (↑i : Int)) = lv (cv (ev X E0) xf39_l0) (rl [4, 13, 0, 0]) 1 (St.mk (tmOf 38 [(4, AV.c (.ptr 0 0)), (18, AV.c (.pv (.sl o s (List.map Req.pv l)))), (19, AV.c (vi (↑(List.length (List.map Req.pv l)) : Int))), (20, AV.c (vi (IntKind.wrap .i64 ((↑i : Int) + 1))))]) [.cells [.own 2176 1 (pvBytes (w ++ tb e))]]) :=
  lv_next [.br true, .sz, .el (Req.pv y), .call (AV.tup [AV.c (.pv (.str e)), AV.c (vi c)]) [], .br false, .call (AV.tup []) [.cells [.own 0 1 (pvBytes (w ++ tb e))]]]
    (c := rq [(1, decide ((↑i : Int) < (↑(List.length (List.map Req.pv l)) : Int)) = true), (1, type_of% hs), (1, 0 ≤ (↑i : Int)), (1, (List.map Req.pv l)[i]? = some (Req.pv y)), (1, type_of% h38), (1, (c != 0) = false), (1, cc (ev X E0) 50 [AV.c (.ptr 0 0), AV.c (.pv (.str e))] [.cells [.own 0 1 (pvBytes w)]] = some (AV.tup [], [.cells [.own 0 1 (pvBytes (w ++ tb e))]]))]) (by kernel_rfl)
    (aq ⟨(decide_eq_true hlt), hs, (Int.natCast_nonneg _), (map_at hy), h38, (bne_f g1), (Text_own _ _ g2 g3), trivial⟩)
theorem l39ax_1 (l : List Req) (o : SO) (s : Nat) (w : List UInt8) (i : Nat) (hlt : ¬(↑i : Int) < (↑(List.length (List.map Req.pv l)) : Int)) :
    lv (cv (ev X E0) xf39_l0) (rl [4, 13, 0, 0]) 1 (S39 l o s 1088 w (↑i : Int)) = some (XExit.exit 0, St.mk (tmOf 38 [(4, AV.c (.ptr 0 0))]) [.cells [.own 1088 1 (pvBytes w)]]) :=
  lv_exit [.br false]
    (c := [decide ((↑i : Int) < (↑(List.length (List.map Req.pv l)) : Int)) = false]) (by kernel_rfl)
    ⟨(decide_eq_false hlt), trivial⟩
theorem l39b_1 (l : List Req) (o : SO) (s : Nat) (hs : szOk 21 (.pv (.sl o s (List.map Req.pv l))) = true) (w : List UInt8) (i : Nat) (y : Req) (hy : l[i]? = some y) (e : List UInt8) (c : Int) (h38 : cc (ev X E0) 38 [Req.av y] [] = some (AV.tup [AV.s e, AV.i c], [])) (hlt : (↑i : Int) < (↑(List.length (List.map Req.pv l)) : Int)) (g1 : ¬c = 0) :
    lv (cv (ev X E0) xf39_l0) (rl [4, 13, 0, 0]) 1 (S39 l o s 2176 w (↑i : Int)) = some (XExit.ret, St.mk (tmOf 38 [(2, AV.c (.pv (.str []))), (3, AV.c (vi c))]) [.cells [.own 2176 1 (pvBytes w)], .cells (Req.cs y)]) :=
  lv_ret [.br true, .sz, .el (Req.pv y), .call (AV.tup [AV.c (.pv (.str e)), AV.c (vi c)]) [], .br true]
    (c := rq [(1, decide ((↑i : Int) < (↑(List.length (List.map Req.pv l)) : Int)) = true), (1, type_of% hs), (1, 0 ≤ (↑i : Int)), (1, (List.map Req.pv l)[i]? = some (Req.pv y)), (1, type_of% h38), (1, (c != 0) = true)]) (by kernel_rfl)
    (aq ⟨(decide_eq_true hlt), hs, (Int.natCast_nonneg _), (map_at hy), h38, (bne_iff_ne.mpr g1), trivial⟩)
theorem l39b_2 (l : List Req) (o : SO) (s : Nat) (hs : szOk 21 (.pv (.sl o s (List.map Req.pv l))) = true) (w : List UInt8) (i : Nat) (y : Req) (hy : l[i]? = some y) (e : List UInt8) (c : Int) (h38 : cc (ev X E0) 38 [Req.av y] [] = some (AV.tup [AV.s e, AV.i c], [])) (hlt : (↑i : Int) < (↑(List.length (List.map Req.pv l)) : Int)) (g1 : c = 0) (g2 : List.length e ≤ 1000000) (g3 : List.length w ≤ 1000000000) :
    lv (cv (ev X E0) xf39_l0) (rl [4, 13, 0, 0]) 1 (S39 l o s 2176 w (↑i : Int)) = lv (cv (ev X E0) xf39_l0) (rl [4, 13, 0, 0]) 1 (St.mk (tmOf 38 [(4, AV.c (.ptr 0 0)), (18, AV.c (.pv (.sl o s (List.map Req.pv l)))), (19, AV.c (vi (↑(List.length (List.map Req.pv l)) : Int))), (20, AV.c (vi (IntKind.wrap .i64 ((↑i : Int) + 1))))]) [.cells [.own 2176 1 (pvBytes (w ++ tb e))]]) :=
  lv_next [.br true, .sz, .el (Req.pv y), .call (AV.tup [AV.c (.pv (.str e)), AV.c (vi c)]) [], .br false, .call (AV.tup []) [.cells [.own 0 1 (pvBytes (w ++ tb e))]]]
    (c := rq [(1, decide ((↑i : Int) < (↑(List.length (List.map Req.pv l)) : Int)) = true), (1, type_of% hs), (1, 0 ≤ (↑i : Int)), (1, (List.map Req.pv l)[i]? = some (Req.pv y)), (1, type_of% h38), (1, (c != 0) = false), (1, cc (ev X E0) 50 [AV.c (.ptr 0 0), AV.c (.pv (.str e))] [.cells [.own 0 1 (pvBytes w)]] = some (AV.tup [], [.cells [.own 0 1 (pvBytes (w ++ tb e))]]))]) (by kernel_rfl)
    (aq ⟨(decide_eq_true hlt), hs, (Int.natCast_nonneg _), (map_at hy), h38, (bne_f g1), (Text_own _ _ g2 g3), trivial⟩)
theorem l39bx_1 (l : List Req) (o : SO) (s : Nat) (w : List UInt8) (i : Nat) (hlt : ¬(↑i : Int) < (↑(List.length (List.map Req.pv l)) : Int)) :
    lv (cv (ev X E0) xf39_l0) (rl [4, 13, 0, 0]) 1 (S39 l o s 2176 w (↑i : Int)) = some (XExit.exit 0, St.mk (tmOf 38 [(4, AV.c (.ptr 0 0))]) [.cells [.own 2176 1 (pvBytes w)]]) :=
  lv_exit [.br false]
    (c := [decide ((↑i : Int) < (↑(List.length (List.map Req.pv l)) : Int)) = false]) (by kernel_rfl)
    ⟨(decide_eq_false hlt), trivial⟩
end Go.Sx.Tryd
