/- Desks: readers, and whether they may be. -/
import Derived.Test.YtplknajjcllmkaaDoorK1
import Derived.Test.YtplknajjcllmkaaDoorSxLem
namespace Go.Sx.Tryd
open Go Go.Sx
structure Rd where
  id : Int
  sees : Int
  known : Int
  value : Int
abbrev Rd.pv (x : Rd) : PV := .agg [.int .i64 x.id, .int .i64 x.sees, .int .i32 x.known, .int .i32 x.value]
abbrev Rd.cs (x : Rd) : List CV := [.pv (.int .i64 x.id), .pv (.int .i64 x.sees), .pv (.int .i32 x.known), .pv (.int .i32 x.value)]
abbrev Rd.av (x : Rd) : AV := .agg [.pv (.int .i64 x.id), .pv (.int .i64 x.sees), .pv (.int .i32 x.known), .pv (.int .i32 x.value)]
def Rd0 : Rd := ⟨0, 0, 0, 0⟩
theorem lenR (l : List Rd) : (((l.map Rd.pv).length : Nat) : Int) = l.length := by rw [List.length_map]
theorem ltR {l : List Rd} {i : Nat} (h : i < l.length) : (i : Int) < (((l.map Rd.pv).length : Nat) : Int) := by rw [List.length_map]; omega
abbrev DS62 (l : List Rd) (o : SO) (s : Nat) (many next : Int) (x : Rd) (i : Int) : St := St.mk (tmOf 55 [(1, AV.c (CV.pv (PV.int IntKind.i64 many))), (2, AV.c (CV.pv (PV.int IntKind.i64 next))), (7, AV.c (CV.ptr 0 0)), (11, AV.c (CV.pv (PV.sl o s (List.map Rd.pv l)))), (12, AV.c (CV.pv (PV.int IntKind.i64 (↑(List.length (List.map Rd.pv l)) : Int)))), (13, AV.c (CV.pv (PV.int IntKind.i64 i)))]) [Box.cells (Rd.cs x)]
theorem dl62_1 (l : List Rd) (o : SO) (s : Nat) (hs : szOk 4 (.pv (.sl o s (List.map Rd.pv l))) = true) (many next : Int) (x : Rd) (i : Nat) (y1 : Rd) (g1 : (↑i : Int) < (↑(List.length (List.map Rd.pv l)) : Int)) (g2 : l[i]? = some y1) (g3 : Rd.id y1 ≤ Rd.id x) :
    lv (cv (ev X E0) xf62_l0) (rl [1, 0, 4, 3, 0, 0]) 1 (DS62 l o s many next x (↑i : Int)) = some (XExit.ret, St.mk (tmOf 55 [(6, AV.b false)]) [.cells [vi (Rd.id x), vi (Rd.sees x), vw (Rd.known x), vw (Rd.value x)], .cells [vi (Rd.id y1), vi (Rd.sees y1), vw (Rd.known y1), vw (Rd.value y1)]]) :=
  lv_ret ([.br true, .sz, .el (.agg [PV.int .i64 (Rd.id y1), .int .i64 (Rd.sees y1), .int .i32 (Rd.known y1), .int .i32 (Rd.value y1)])] ++ bs 27 true)
    (c := rq [(1, decide ((↑i : Int) < (↑(List.length (List.map Rd.pv l)) : Int)) = true), ty hs, (1, 0 ≤ (↑i : Int)), (1, (List.map Rd.pv l)[i]? = some (PV.agg [PV.int .i64 (Rd.id y1), .int .i64 (Rd.sees y1), .int .i32 (Rd.known y1), .int .i32 (Rd.value y1)])), (5, decide (Rd.id y1 ≤ Rd.id x) = true), zt 22]) (by kernel_rfl)
    (aq ⟨(dT g1), hs, (Int.natCast_nonneg _), (map_at g2), (dT g3), rfl, trivial⟩)
theorem dl62_2 (l : List Rd) (o : SO) (s : Nat) (hs : szOk 4 (.pv (.sl o s (List.map Rd.pv l))) = true) (many next : Int) (x : Rd) (i : Nat) (y1 : Rd) (g1 : (↑i : Int) < (↑(List.length (List.map Rd.pv l)) : Int)) (g2 : l[i]? = some y1) (g3 : ¬Rd.id y1 ≤ Rd.id x) (g4 : Rd.id y1 ≥ next) :
    lv (cv (ev X E0) xf62_l0) (rl [1, 0, 4, 3, 0, 0]) 1 (DS62 l o s many next x (↑i : Int)) = some (XExit.ret, St.mk (tmOf 55 [(6, AV.b false)]) [.cells [vi (Rd.id x), vi (Rd.sees x), vw (Rd.known x), vw (Rd.value x)], .cells [vi (Rd.id y1), vi (Rd.sees y1), vw (Rd.known y1), vw (Rd.value y1)]]) :=
  lv_ret ([.br true, .sz, .el (.agg [PV.int .i64 (Rd.id y1), .int .i64 (Rd.sees y1), .int .i32 (Rd.known y1), .int .i32 (Rd.value y1)])] ++ bs 5 false ++ bs 22 true)
    (c := rq [(1, decide ((↑i : Int) < (↑(List.length (List.map Rd.pv l)) : Int)) = true), ty hs, (1, 0 ≤ (↑i : Int)), (1, (List.map Rd.pv l)[i]? = some (PV.agg [PV.int .i64 (Rd.id y1), .int .i64 (Rd.sees y1), .int .i32 (Rd.known y1), .int .i32 (Rd.value y1)])), (5, decide (Rd.id y1 ≤ Rd.id x) = false), (6, decide (Rd.id y1 ≥ next) = true), zt 16]) (by kernel_rfl)
    (aq ⟨(dT g1), hs, (Int.natCast_nonneg _), (map_at g2), (dF g3), (dT g4), rfl, trivial⟩)
theorem dl62_3 (l : List Rd) (o : SO) (s : Nat) (hs : szOk 4 (.pv (.sl o s (List.map Rd.pv l))) = true) (many next : Int) (x : Rd) (i : Nat) (y1 : Rd) (g1 : (↑i : Int) < (↑(List.length (List.map Rd.pv l)) : Int)) (g2 : l[i]? = some y1) (g3 : ¬Rd.id y1 ≤ Rd.id x) (g4 : ¬Rd.id y1 ≥ next) (g5 : Rd.sees y1 < Rd.sees x) :
    lv (cv (ev X E0) xf62_l0) (rl [1, 0, 4, 3, 0, 0]) 1 (DS62 l o s many next x (↑i : Int)) = some (XExit.ret, St.mk (tmOf 55 [(6, AV.b false)]) [.cells [vi (Rd.id x), vi (Rd.sees x), vw (Rd.known x), vw (Rd.value x)], .cells [vi (Rd.id y1), vi (Rd.sees y1), vw (Rd.known y1), vw (Rd.value y1)]]) :=
  lv_ret ([.br true, .sz, .el (.agg [PV.int .i64 (Rd.id y1), .int .i64 (Rd.sees y1), .int .i32 (Rd.known y1), .int .i32 (Rd.value y1)])] ++ bs 11 false ++ bs 16 true)
    (c := rq [(1, decide ((↑i : Int) < (↑(List.length (List.map Rd.pv l)) : Int)) = true), ty hs, (1, 0 ≤ (↑i : Int)), (1, (List.map Rd.pv l)[i]? = some (PV.agg [PV.int .i64 (Rd.id y1), .int .i64 (Rd.sees y1), .int .i32 (Rd.known y1), .int .i32 (Rd.value y1)])), (5, decide (Rd.id y1 ≤ Rd.id x) = false), (6, decide (Rd.id y1 ≥ next) = false), (5, decide (Rd.sees y1 < Rd.sees x) = true), zt 11]) (by kernel_rfl)
    (aq ⟨(dT g1), hs, (Int.natCast_nonneg _), (map_at g2), (dF g3), (dF g4), (dT g5), rfl, trivial⟩)
theorem dl62_4 (l : List Rd) (o : SO) (s : Nat) (hs : szOk 4 (.pv (.sl o s (List.map Rd.pv l))) = true) (many next : Int) (x : Rd) (i : Nat) (y1 : Rd) (g1 : (↑i : Int) < (↑(List.length (List.map Rd.pv l)) : Int)) (g2 : l[i]? = some y1) (g3 : ¬Rd.id y1 ≤ Rd.id x) (g4 : ¬Rd.id y1 ≥ next) (g5 : ¬Rd.sees y1 < Rd.sees x) (g6 : Rd.sees y1 > many) :
    lv (cv (ev X E0) xf62_l0) (rl [1, 0, 4, 3, 0, 0]) 1 (DS62 l o s many next x (↑i : Int)) = some (XExit.ret, St.mk (tmOf 55 [(6, AV.b false)]) [.cells [vi (Rd.id x), vi (Rd.sees x), vw (Rd.known x), vw (Rd.value x)], .cells [vi (Rd.id y1), vi (Rd.sees y1), vw (Rd.known y1), vw (Rd.value y1)]]) :=
  lv_ret ([.br true, .sz, .el (.agg [PV.int .i64 (Rd.id y1), .int .i64 (Rd.sees y1), .int .i32 (Rd.known y1), .int .i32 (Rd.value y1)])] ++ bs 16 false ++ bs 11 true)
    (c := rq [(1, decide ((↑i : Int) < (↑(List.length (List.map Rd.pv l)) : Int)) = true), ty hs, (1, 0 ≤ (↑i : Int)), (1, (List.map Rd.pv l)[i]? = some (PV.agg [PV.int .i64 (Rd.id y1), .int .i64 (Rd.sees y1), .int .i32 (Rd.known y1), .int .i32 (Rd.value y1)])), (5, decide (Rd.id y1 ≤ Rd.id x) = false), (6, decide (Rd.id y1 ≥ next) = false), (5, decide (Rd.sees y1 < Rd.sees x) = false), (5, decide (Rd.sees y1 > many) = true), zt 6]) (by kernel_rfl)
    (aq ⟨(dT g1), hs, (Int.natCast_nonneg _), (map_at g2), (dF g3), (dF g4), (dF g5), (dT g6), rfl, trivial⟩)
theorem dl62_5 (l : List Rd) (o : SO) (s : Nat) (hs : szOk 4 (.pv (.sl o s (List.map Rd.pv l))) = true) (many next : Int) (x : Rd) (i : Nat) (y1 : Rd) (g1 : (↑i : Int) < (↑(List.length (List.map Rd.pv l)) : Int)) (g2 : l[i]? = some y1) (g3 : ¬Rd.id y1 ≤ Rd.id x) (g4 : ¬Rd.id y1 ≥ next) (g5 : ¬Rd.sees y1 < Rd.sees x) (g6 : ¬Rd.sees y1 > many) (g7 : datOk (Rd.known y1) = false) :
    lv (cv (ev X E0) xf62_l0) (rl [1, 0, 4, 3, 0, 0]) 1 (DS62 l o s many next x (↑i : Int)) = some (XExit.ret, St.mk (tmOf 55 [(6, AV.b false)]) [.cells [vi (Rd.id x), vi (Rd.sees x), vw (Rd.known x), vw (Rd.value x)], .cells [vi (Rd.id y1), vi (Rd.sees y1), vw (Rd.known y1), vw (Rd.value y1)]]) :=
  lv_ret ([.br true, .sz, .el (.agg [PV.int .i64 (Rd.id y1), .int .i64 (Rd.sees y1), .int .i32 (Rd.known y1), .int .i32 (Rd.value y1)])] ++ bs 19 false ++ [.call (AV.c (.pv (.bool (datOk (Rd.known y1))))) [], .br false, .br false] ++ bs 6 true)
    (c := rq [(1, decide ((↑i : Int) < (↑(List.length (List.map Rd.pv l)) : Int)) = true), ty hs, (1, 0 ≤ (↑i : Int)), (1, (List.map Rd.pv l)[i]? = some (PV.agg [PV.int .i64 (Rd.id y1), .int .i64 (Rd.sees y1), .int .i32 (Rd.known y1), .int .i32 (Rd.value y1)])), (5, decide (Rd.id y1 ≤ Rd.id x) = false), (6, decide (Rd.id y1 ≥ next) = false), (5, decide (Rd.sees y1 < Rd.sees x) = false), (3, decide (Rd.sees y1 > many) = false), (1, cc (ev X E0) 57 [AV.c (vw (Rd.known y1))] [] = some (AV.c (.pv (.bool (datOk (Rd.known y1)))), [])), (2, decide (Rd.sees y1 > many) = false), (5, (!datOk (Rd.known y1)) = true), zt 1]) (by kernel_rfl)
    (aq ⟨(dT g1), hs, (Int.natCast_nonneg _), (map_at g2), (dF g3), (dF g4), (dF g5), (dF g6), (s77 _), (dF g6), (not_t g7), rfl, trivial⟩)
theorem dl62_6 (l : List Rd) (o : SO) (s : Nat) (hs : szOk 4 (.pv (.sl o s (List.map Rd.pv l))) = true) (many next : Int) (x : Rd) (i : Nat) (y1 : Rd) (g1 : (↑i : Int) < (↑(List.length (List.map Rd.pv l)) : Int)) (g2 : l[i]? = some y1) (g3 : ¬Rd.id y1 ≤ Rd.id x) (g4 : ¬Rd.id y1 ≥ next) (g5 : ¬Rd.sees y1 < Rd.sees x) (g6 : ¬Rd.sees y1 > many) (g7 : datOk (Rd.known y1) = true) (g8 : datOk (Rd.value y1) = false) :
    lv (cv (ev X E0) xf62_l0) (rl [1, 0, 4, 3, 0, 0]) 1 (DS62 l o s many next x (↑i : Int)) = some (XExit.ret, St.mk (tmOf 55 [(6, AV.b false)]) [.cells [vi (Rd.id x), vi (Rd.sees x), vw (Rd.known x), vw (Rd.value x)], .cells [vi (Rd.id y1), vi (Rd.sees y1), vw (Rd.known y1), vw (Rd.value y1)]]) :=
  lv_ret ([.br true, .sz, .el (.agg [PV.int .i64 (Rd.id y1), .int .i64 (Rd.sees y1), .int .i32 (Rd.known y1), .int .i32 (Rd.value y1)])] ++ bs 19 false ++ [.call (AV.c (.pv (.bool (datOk (Rd.known y1))))) []] ++ bs 5 false ++ [.call (AV.c (.pv (.bool (datOk (Rd.value y1))))) [], .br false, .br false, .br true])
    (c := rq [(1, decide ((↑i : Int) < (↑(List.length (List.map Rd.pv l)) : Int)) = true), ty hs, (1, 0 ≤ (↑i : Int)), (1, (List.map Rd.pv l)[i]? = some (PV.agg [PV.int .i64 (Rd.id y1), .int .i64 (Rd.sees y1), .int .i32 (Rd.known y1), .int .i32 (Rd.value y1)])), (5, decide (Rd.id y1 ≤ Rd.id x) = false), (6, decide (Rd.id y1 ≥ next) = false), (5, decide (Rd.sees y1 < Rd.sees x) = false), (3, decide (Rd.sees y1 > many) = false), (1, cc (ev X E0) 57 [AV.c (vw (Rd.known y1))] [] = some (AV.c (.pv (.bool (datOk (Rd.known y1)))), [])), (2, decide (Rd.sees y1 > many) = false), (3, (!datOk (Rd.known y1)) = false), (1, cc (ev X E0) 57 [AV.c (vw (Rd.value y1))] [] = some (AV.c (.pv (.bool (datOk (Rd.value y1)))), [])), (2, (!datOk (Rd.known y1)) = false), (1, (!datOk (Rd.value y1)) = true)]) (by kernel_rfl)
    (aq ⟨(dT g1), hs, (Int.natCast_nonneg _), (map_at g2), (dF g3), (dF g4), (dF g5), (dF g6), (s77 _), (dF g6), (not_f g7), (s77 _), (not_f g7), (not_t g8), trivial⟩)
theorem dl62_7 (l : List Rd) (o : SO) (s : Nat) (hs : szOk 4 (.pv (.sl o s (List.map Rd.pv l))) = true) (many next : Int) (x : Rd) (i : Nat) (y1 : Rd) (g1 : (↑i : Int) < (↑(List.length (List.map Rd.pv l)) : Int)) (g2 : l[i]? = some y1) (g3 : ¬Rd.id y1 ≤ Rd.id x) (g4 : ¬Rd.id y1 ≥ next) (g5 : ¬Rd.sees y1 < Rd.sees x) (g6 : ¬Rd.sees y1 > many) (g7 : datOk (Rd.known y1) = true) (g8 : datOk (Rd.value y1) = true) :
    lv (cv (ev X E0) xf62_l0) (rl [1, 0, 4, 3, 0, 0]) 1 (DS62 l o s many next x (↑i : Int)) = lv (cv (ev X E0) xf62_l0) (rl [1, 0, 4, 3, 0, 0]) 1 (St.mk (tmOf 55 [(1, AV.c (vi many)), (2, AV.c (vi next)), (7, AV.c (.ptr 0 0)), (11, AV.c (.pv (.sl o s (List.map Rd.pv l)))), (12, AV.c (vi (↑(List.length (List.map Rd.pv l)) : Int))), (13, AV.c (vi (IntKind.wrap .i64 ((↑i : Int) + 1))))]) [.cells [vi (Rd.id y1), vi (Rd.sees y1), vw (Rd.known y1), vw (Rd.value y1)]]) :=
  lv_next ([.br true, .sz, .el (.agg [PV.int .i64 (Rd.id y1), .int .i64 (Rd.sees y1), .int .i32 (Rd.known y1), .int .i32 (Rd.value y1)])] ++ bs 19 false ++ [.call (AV.c (.pv (.bool (datOk (Rd.known y1))))) []] ++ bs 5 false ++ [.call (AV.c (.pv (.bool (datOk (Rd.value y1))))) []] ++ bs 3 false)
    (c := rq [(1, decide ((↑i : Int) < (↑(List.length (List.map Rd.pv l)) : Int)) = true), ty hs, (1, 0 ≤ (↑i : Int)), (1, (List.map Rd.pv l)[i]? = some (PV.agg [PV.int .i64 (Rd.id y1), .int .i64 (Rd.sees y1), .int .i32 (Rd.known y1), .int .i32 (Rd.value y1)])), (5, decide (Rd.id y1 ≤ Rd.id x) = false), (6, decide (Rd.id y1 ≥ next) = false), (5, decide (Rd.sees y1 < Rd.sees x) = false), (3, decide (Rd.sees y1 > many) = false), (1, cc (ev X E0) 57 [AV.c (vw (Rd.known y1))] [] = some (AV.c (.pv (.bool (datOk (Rd.known y1)))), [])), (2, decide (Rd.sees y1 > many) = false), (3, (!datOk (Rd.known y1)) = false), (1, cc (ev X E0) 57 [AV.c (vw (Rd.value y1))] [] = some (AV.c (.pv (.bool (datOk (Rd.value y1)))), [])), (2, (!datOk (Rd.known y1)) = false), (1, (!datOk (Rd.value y1)) = false)]) (by kernel_rfl)
    (aq ⟨(dT g1), hs, (Int.natCast_nonneg _), (map_at g2), (dF g3), (dF g4), (dF g5), (dF g6), (s77 _), (dF g6), (not_f g7), (s77 _), (not_f g7), (not_f g8), trivial⟩)
theorem dl62_8 (l : List Rd) (o : SO) (s : Nat) (_hs : szOk 4 (.pv (.sl o s (List.map Rd.pv l))) = true) (many next : Int) (x : Rd) (i : Nat) (g1 : ¬(↑i : Int) < (↑(List.length (List.map Rd.pv l)) : Int)) :
    lv (cv (ev X E0) xf62_l0) (rl [1, 0, 4, 3, 0, 0]) 1 (DS62 l o s many next x (↑i : Int)) = some (XExit.exit 0, St.mk (tmOf 55 []) [.cells [vi (Rd.id x), vi (Rd.sees x), vw (Rd.known x), vw (Rd.value x)]]) :=
  lv_exit [.br false]
    (c := [decide ((↑i : Int) < (↑(List.length (List.map Rd.pv l)) : Int)) = false]) (by kernel_rfl)
    ⟨(dF g1), trivial⟩
def rOk (many next : Int) (x r : Rd) : Bool := decide (x.id < r.id ∧ r.id < next ∧ x.sees ≤ r.sees ∧ r.sees ≤ many) && (datOk r.known && datOk r.value)
def rdFrom (many next : Int) : Rd → List Rd → Bool
  | _, [] => true
  | x, r :: l => rOk many next x r && rdFrom many next r l
theorem da62 {l : List Rd} {o : SO} {s : Nat} (hs : szOk 4 (CV.pv (PV.sl o s (List.map Rd.pv l))) = true) {many next : Int} (hl : l.length ≤ 1000) : ∀ (r pre : List Rd) (x : Rd), l = pre ++ r →
    (rdFrom many next x r = true → ∃ y, lv (cv (ev X E0) xf62_l0) (rl [1, 0, 4, 3, 0, 0]) 1 (DS62 l o s many next x (pre.length : Nat)) = some (XExit.exit 0, St.mk (tmOf 55 []) [Box.cells (Rd.cs y)])) ∧
    (rdFrom many next x r = false → ∃ y z, lv (cv (ev X E0) xf62_l0) (rl [1, 0, 4, 3, 0, 0]) 1 (DS62 l o s many next x (pre.length : Nat)) = some (XExit.ret, St.mk (tmOf 55 [(6, AV.c (CV.pv (PV.bool false)))]) [Box.cells (Rd.cs y), Box.cells (Rd.cs z)]))
  | [], pre, x, e => by
    rw [List.append_nil] at e
    subst e
    exact ⟨fun _ => ⟨x, dl62_8 l o s hs many next x l.length (by simp)⟩, fun h => by simp [rdFrom] at h⟩
  | y :: r, pre, x, e => by
    have hlen : l.length = pre.length + r.length + 1 := by rw [e]; simp; omega
    have hat : l[pre.length]? = some y := by rw [e]; simp
    have hlt := ltR (l := l) (i := pre.length) (by omega)
    simp only [rdFrom, Bool.and_eq_true, Bool.and_eq_false_iff]
    cases ok : rOk many next x y with
    | true =>
      simp only [rOk, Bool.and_eq_true, decide_eq_true_eq] at ok
      obtain ⟨⟨k1, k2, k3, k4⟩, k5, k6⟩ := ok
      have st := dl62_7 l o s hs many next x pre.length y hlt hat (by omega) (by omega) (by omega) (by omega) k5 k6
      rw [wi64 (by omega) (by omega)] at st
      have ih := da62 hs (many := many) (next := next) hl r (pre ++ [y]) y (by rw [e]; simp)
      rw [List.length_append, List.length_singleton, Int.natCast_add, Int.natCast_one] at ih
      refine ⟨fun h => ?_, fun h => ?_⟩
      · obtain ⟨z, hz⟩ := ih.1 h.2
        exact ⟨z, st.trans hz⟩
      · rcases h with h | h
        · cases h
        · obtain ⟨z, z', hz⟩ := ih.2 h
          exact ⟨z, z', st.trans hz⟩
    | false =>
      refine ⟨fun h => (by cases h.1), fun _ => ⟨x, y, ?_⟩⟩
      by_cases k1 : y.id ≤ x.id
      · exact dl62_1 l o s hs many next x pre.length y hlt hat k1
      by_cases k2 : y.id ≥ next
      · exact dl62_2 l o s hs many next x pre.length y hlt hat k1 k2
      by_cases k3 : y.sees < x.sees
      · exact dl62_3 l o s hs many next x pre.length y hlt hat k1 k2 k3
      by_cases k4 : y.sees > many
      · exact dl62_4 l o s hs many next x pre.length y hlt hat k1 k2 k3 k4
      cases k5 : datOk y.known with
      | false => exact dl62_5 l o s hs many next x pre.length y hlt hat k1 k2 k3 k4 k5
      | true =>
        cases k6 : datOk y.value with
        | false => exact dl62_6 l o s hs many next x pre.length y hlt hat k1 k2 k3 k4 k5 k6
        | true =>
          exfalso
          unfold rOk at ok
          rw [k5, k6, decide_eq_true (by omega)] at ok
          cases ok
theorem df62_1 (l : List Rd) (o : SO) (s : Nat) (many next : Int) (y : Rd) (h : lv (cv (ev X E0) xf62_l0) (rl [1, 0, 4, 3, 0, 0]) 1 (DS62 l o s many next (Rd.mk 0 0 0 0) 0) = some (XExit.exit 0, St.mk (tmOf 55 []) [.cells (Rd.cs y)])) :
    cc (ev X E0) 62 [AV.c (.pv (.sl o s (List.map Rd.pv l))), AV.c (vi many), AV.c (vi next)] [] = some (AV.b true, []) :=
  cc_path (x := xf62) rfl [.loop (XExit.exit 0) (St.mk (tmOf 55 []) [.cells [vi (Rd.id y), vi (Rd.sees y), vw (Rd.known y), vw (Rd.value y)]])]
    (c := rq [ty h]) (by kernel_rfl)
    (aq ⟨h, trivial⟩)
theorem df62r_1 (l : List Rd) (o : SO) (s : Nat) (many next : Int) (y z : Rd) (h : lv (cv (ev X E0) xf62_l0) (rl [1, 0, 4, 3, 0, 0]) 1 (DS62 l o s many next (Rd.mk 0 0 0 0) 0) = some (XExit.ret, St.mk (tmOf 55 [(6, AV.b false)]) [.cells (Rd.cs y), .cells (Rd.cs z)])) :
    cc (ev X E0) 62 [AV.c (.pv (.sl o s (List.map Rd.pv l))), AV.c (vi many), AV.c (vi next)] [] = some (AV.b false, []) :=
  cc_path (x := xf62) rfl [.loop XExit.ret (St.mk (tmOf 55 [(6, AV.b false)]) [.cells [vi (Rd.id y), vi (Rd.sees y), vw (Rd.known y), vw (Rd.value y)], .cells [vi (Rd.id z), vi (Rd.sees z), vw (Rd.known z), vw (Rd.value z)]])]
    (c := rq [ty h]) (by kernel_rfl)
    (aq ⟨h, trivial⟩)
theorem sRd {l : List Rd} {o : SO} {s : Nat} (hs : szOk 4 (CV.pv (PV.sl o s (List.map Rd.pv l))) = true) (many next : Int) (hl : l.length ≤ 1000) : cc (ev X E0) 62 [AV.sl o s (l.map Rd.pv), AV.i many, AV.i next] [] = some (.b (rdFrom many next Rd0 l), []) := by
  have a := da62 hs (many := many) (next := next) hl l [] Rd0 rfl
  cases h : rdFrom many next Rd0 l with
  | true =>
    obtain ⟨y, hy⟩ := a.1 h
    exact df62_1 l o s many next y hy
  | false =>
    obtain ⟨y, z, hy⟩ := a.2 h
    exact df62r_1 l o s many next y z hy
theorem df105_1 (r : Rd) (id : Int) :
    cc (ev X E0) 105 [AV.agg [vi (Rd.id r), vi (Rd.sees r), vw (Rd.known r), vw (Rd.value r)], AV.c (.ptr 0 0)] [.cells [vi id]] = some (AV.c (.pv (.bool (Rd.id r == id))), [.cells [vi id]]) :=
  cc_path (x := xf105) rfl []
    (c := []) (by kernel_rfl)
    trivial
abbrev DS104 (l : List Rd) (o : SO) (s : Nat) (id : Int) (i : Int) : St := St.mk (tmOf 19 [(0, AV.c (CV.pv (PV.sl o s (List.map Rd.pv l)))), (1, AV.c (CV.fn 105 [0])), (7, AV.c (CV.pv (PV.int IntKind.i64 (↑(List.length (List.map Rd.pv l)) : Int)))), (8, AV.c (CV.pv (PV.int IntKind.i64 i)))]) [Box.cells [.pv (.int .i64 id)]]
theorem dl104_1 (l : List Rd) (o : SO) (s : Nat) (hs : szOk 4 (.pv (.sl o s (List.map Rd.pv l))) = true) (id : Int) (i : Nat) (y1 : Rd) (g1 : (↑i : Int) < (↑(List.length (List.map Rd.pv l)) : Int)) (g2 : l[i]? = some y1) (g3 : Rd.id y1 = id) :
    lv (cv (ev X E0) xf104_l0) (rl [0, 0, 5, 0]) 1 (DS104 l o s id (↑i : Int)) = some (XExit.ret, St.mk (tmOf 19 [(4, AV.c (vi (↑i : Int)))]) [.cells [vi id]]) :=
  lv_ret [.br true, .sz, .el (.agg [PV.int .i64 (Rd.id y1), .int .i64 (Rd.sees y1), .int .i32 (Rd.known y1), .int .i32 (Rd.value y1)]), .call (AV.c (.pv (.bool (Rd.id y1 == id)))) [.cells [vi id]], .br true]
    (c := [decide ((↑i : Int) < (↑(List.length (List.map Rd.pv l)) : Int)) = true, szOk 4 (.pv (.sl o s (List.map Rd.pv l))) = true, 0 ≤ (↑i : Int), (List.map Rd.pv l)[i]? = some (PV.agg [PV.int .i64 (Rd.id y1), .int .i64 (Rd.sees y1), .int .i32 (Rd.known y1), .int .i32 (Rd.value y1)]), cc (ev X E0) 105 [AV.agg [vi (Rd.id y1), vi (Rd.sees y1), vw (Rd.known y1), vw (Rd.value y1)], AV.c (.ptr 0 0)] [.cells [vi id]] = some (AV.c (.pv (.bool (Rd.id y1 == id))), [.cells [vi id]]), (Rd.id y1 == id) = true]) (by kernel_rfl)
    ⟨(dT g1), hs, (Int.natCast_nonneg _), (map_at g2), (df105_1 _ _), (beq_iff_eq.mpr g3), trivial⟩
theorem dl104_2 (l : List Rd) (o : SO) (s : Nat) (hs : szOk 4 (.pv (.sl o s (List.map Rd.pv l))) = true) (id : Int) (i : Nat) (y1 : Rd) (g1 : (↑i : Int) < (↑(List.length (List.map Rd.pv l)) : Int)) (g2 : l[i]? = some y1) (g3 : ¬Rd.id y1 = id) :
    lv (cv (ev X E0) xf104_l0) (rl [0, 0, 5, 0]) 1 (DS104 l o s id (↑i : Int)) = lv (cv (ev X E0) xf104_l0) (rl [0, 0, 5, 0]) 1 (St.mk (tmOf 19 [(0, AV.c (.pv (.sl o s (List.map Rd.pv l)))), (1, AV.c (.fn 105 [0])), (7, AV.c (vi (↑(List.length (List.map Rd.pv l)) : Int))), (8, AV.c (vi (IntKind.wrap .i64 ((↑i : Int) + 1))))]) [.cells [vi id]]) :=
  lv_next [.br true, .sz, .el (.agg [PV.int .i64 (Rd.id y1), .int .i64 (Rd.sees y1), .int .i32 (Rd.known y1), .int .i32 (Rd.value y1)]), .call (AV.c (.pv (.bool (Rd.id y1 == id)))) [.cells [vi id]], .br false]
    (c := [decide ((↑i : Int) < (↑(List.length (List.map Rd.pv l)) : Int)) = true, szOk 4 (.pv (.sl o s (List.map Rd.pv l))) = true, 0 ≤ (↑i : Int), (List.map Rd.pv l)[i]? = some (PV.agg [PV.int .i64 (Rd.id y1), .int .i64 (Rd.sees y1), .int .i32 (Rd.known y1), .int .i32 (Rd.value y1)]), cc (ev X E0) 105 [AV.agg [vi (Rd.id y1), vi (Rd.sees y1), vw (Rd.known y1), vw (Rd.value y1)], AV.c (.ptr 0 0)] [.cells [vi id]] = some (AV.c (.pv (.bool (Rd.id y1 == id))), [.cells [vi id]]), (Rd.id y1 == id) = false]) (by kernel_rfl)
    ⟨(dT g1), hs, (Int.natCast_nonneg _), (map_at g2), (df105_1 _ _), (beq_eq_false_iff_ne.mpr g3), trivial⟩
theorem dl104_3 (l : List Rd) (o : SO) (s : Nat) (_hs : szOk 4 (.pv (.sl o s (List.map Rd.pv l))) = true) (id : Int) (i : Nat) (g1 : ¬(↑i : Int) < (↑(List.length (List.map Rd.pv l)) : Int)) :
    lv (cv (ev X E0) xf104_l0) (rl [0, 0, 5, 0]) 1 (DS104 l o s id (↑i : Int)) = some (XExit.exit 0, St.mk (tmOf 19 []) [.cells [vi id]]) :=
  lv_exit [.br false]
    (c := [decide ((↑i : Int) < (↑(List.length (List.map Rd.pv l)) : Int)) = false]) (by kernel_rfl)
    ⟨(dF g1), trivial⟩
def placeN (id : Int) : List Rd → Nat
  | [] => 0
  | r :: l => if r.id = id then 0 else placeN id l + 1
def there (id : Int) (l : List Rd) : Bool := l.any fun r => r.id == id
theorem da104 {l : List Rd} {o : SO} {s : Nat} (hs : szOk 4 (CV.pv (PV.sl o s (List.map Rd.pv l))) = true) {id : Int} (hl : l.length ≤ 1000) : ∀ (r pre : List Rd), l = pre ++ r →
    lv (cv (ev X E0) xf104_l0) (rl [0, 0, 5, 0]) 1 (DS104 l o s id (pre.length : Nat)) = some (if there id r = true then (XExit.ret, St.mk (tmOf 19 [(4, AV.c (CV.pv (PV.int .i64 ((pre.length + placeN id r : Nat) : Int))))]) [Box.cells [.pv (.int .i64 id)]]) else (XExit.exit 0, St.mk (tmOf 19 []) [Box.cells [.pv (.int .i64 id)]]))
  | [], pre, e => by
    rw [List.append_nil] at e
    subst e
    exact dl104_3 l o s hs id l.length (by simp)
  | y :: r, pre, e => by
    have hlen : l.length = pre.length + r.length + 1 := by rw [e]; simp; omega
    have hat : l[pre.length]? = some y := by rw [e]; simp
    have hlt := ltR (l := l) (i := pre.length) (by omega)
    by_cases c : y.id = id
    · have st := dl104_1 l o s hs id pre.length y hlt hat c
      rw [st]
      simp [there, c, placeN]
    · have st := dl104_2 l o s hs id pre.length y hlt hat c
      rw [wi64 (by omega) (by omega)] at st
      have ih := da104 hs (id := id) hl r (pre ++ [y]) (by rw [e]; simp)
      rw [List.length_append, List.length_singleton, Int.natCast_add, Int.natCast_one] at ih
      rw [st, ih]
      have e1 : there id (y :: r) = there id r := by simp [there, c]
      have e2 : pre.length + 1 + placeN id r = pre.length + placeN id (y :: r) := by rw [placeN, if_neg c]; omega
      rw [e1, e2]
theorem df104_1 (l : List Rd) (o : SO) (s : Nat) (id i : Int) (h : lv (cv (ev X E0) xf104_l0) (rl [0, 0, 5, 0]) 1 (DS104 l o s id 0) = some (XExit.ret, St.mk (tmOf 19 [(4, AV.c (vi i))]) [.cells [vi id]])) :
    cc (ev X E0) 104 [AV.c (.pv (.sl o s (List.map Rd.pv l))), AV.c (.fn 105 [0])] [.cells [vi id]] = some (AV.c (vi i), [.cells [vi id]]) :=
  cc_path (x := xf104) rfl [.loop XExit.ret (St.mk (tmOf 19 [(4, AV.c (vi i))]) [.cells [vi id]])]
    (c := rq [ty h]) (by kernel_rfl)
    (aq ⟨h, trivial⟩)
theorem df104n_1 (l : List Rd) (o : SO) (s : Nat) (id : Int) (h : lv (cv (ev X E0) xf104_l0) (rl [0, 0, 5, 0]) 1 (DS104 l o s id 0) = some (XExit.exit 0, St.mk (tmOf 19 []) [.cells [vi id]])) :
    cc (ev X E0) 104 [AV.c (.pv (.sl o s (List.map Rd.pv l))), AV.c (.fn 105 [0])] [.cells [vi id]] = some (AV.c (vi (-1)), [.cells [vi id]]) :=
  cc_path (x := xf104) rfl [.loop (XExit.exit 0) (St.mk (tmOf 19 []) [.cells [vi id]])]
    (c := rq [ty h]) (by kernel_rfl)
    (aq ⟨h, trivial⟩)
def place (id : Int) (l : List Rd) : Int := if there id l = true then (placeN id l : Int) else -1
theorem sPl {l : List Rd} {o : SO} {s : Nat} (hs : szOk 4 (CV.pv (PV.sl o s (List.map Rd.pv l))) = true) (id : Int) (hl : l.length ≤ 1000) : cc (ev X E0) 104 [AV.sl o s (l.map Rd.pv), AV.c (.fn 105 [0])] [Box.cells [.pv (.int .i64 id)]] = some (.i (place id l), [Box.cells [.pv (.int .i64 id)]]) := by
  have a := da104 hs (id := id) hl l [] rfl
  rw [List.length_nil, Nat.zero_add] at a
  unfold place
  by_cases c : there id l = true
  · rw [if_pos c] at a ⊢
    exact df104_1 l o s id _ a
  · rw [if_neg c] at a ⊢
    exact df104n_1 l o s id a
theorem df60_2 (es : List PV) (i j : Int) (n : Nat) (hn : ¬i = j) (g1 : 0 ≤ i) (g2 : i ≤ j) (g3 : j ≤ (↑n : Int)) (g4 : n + 0 ≤ List.length es) (g5 : Int.toNat i + 0 ≤ List.length es) (g6 : 0 ≤ j) (g7 : j = (↑n : Int)) (g8 : (↑(Int.toNat i - 0) : Int) ≤ (↑n : Int)) (g9 : Int.toNat i - 0 + 0 < List.length es) (g10 : n - (Int.toNat i - 0) ≠ 0) (g11 : Int.toNat i - 0 + (n - (Int.toNat i - 0)) ≤ List.length es) :
    cc (ev X E0) 60 [AV.c (.ms 0 0 4 n), AV.c (vi i), AV.c (vi j)] [.row 4 es] = some (AV.c (.ms 0 0 4 (Int.toNat i - 0)), [.row 4 (putEs es (Int.toNat i - 0) (List.replicate (n - (Int.toNat i - 0)) (rowOf 4 [PV.int .i64 0, .int .i64 0, .int .i32 0, .int .i32 0])))]) :=
  cc_path (x := xf60) rfl [.emp false, .br false, .emp true, .emp true, .emp true, .emp false, It.pl (Int.toNat i - 0)]
    (c := rq [(1, 0 ≤ i), (1, i ≤ j), (1, j ≤ (↑n : Int)), ty g4, (1, (i == j) = false), (1, (0 : Int) ≤ (0 : Int)), (1, 0 ≤ i), ty g5, (1, (0 : Int) = (0 : Int)), (1, 0 ≤ j), (1, j ≤ (↑n : Int)), (1, (↑n : Int) ≤ (↑n : Int)), (1, j = (↑n : Int)), (1, ([] : List PV) = []), (1, 0 ≤ (↑(Int.toNat i - 0) : Int)), ty g8, ty g4, ty g9, (1, 0 + (Int.toNat i - 0) * 4 = (Int.toNat i - 0) * 4), ty g10, ty g11]) (by kernel_rfl)
    (aq ⟨g1, g2, g3, g4, (beq_eq_false_iff_ne.mpr hn), (Int.le_refl _), g1, g5, (by decide), g6, g3, (Int.le_refl _), g7, rfl, (Int.natCast_nonneg _), g8, g4, g9, (by omega), g10, g11, trivial⟩)
theorem df60_6 (es : List PV) (i j : Int) (n : Nat) (hn : ¬i = j) (y1 : List PV) (g1 : 0 ≤ i) (g2 : i ≤ j) (g3 : j ≤ (↑n : Int)) (g4 : n + 0 ≤ List.length es) (g5 : Int.toNat i + 0 ≤ List.length es) (g6 : 0 ≤ j) (g7 : ¬j = (↑n : Int)) (g8 : frzE (some (Box.row 4 es)) 4 (0 + Int.toNat j * 4) (n - Int.toNat j) = some y1) (g9 : y1 ≠ []) (g10 : 0 + (Int.toNat i - 0) + List.length y1 ≤ List.length es) (g11 : List.all y1 (rowE 4) = true) (g12 : (↑(Int.toNat i - 0 + List.length y1) : Int) ≤ (↑n : Int)) (g13 : n + 0 ≤ List.length (putEs es (0 + (Int.toNat i - 0)) y1)) (g14 : Int.toNat i - 0 + List.length y1 + 0 < List.length (putEs es (0 + (Int.toNat i - 0)) y1)) (g15 : n - (Int.toNat i - 0 + List.length y1) ≠ 0) (g16 : Int.toNat i - 0 + List.length y1 + (n - (Int.toNat i - 0 + List.length y1)) ≤ List.length (putEs es (0 + (Int.toNat i - 0)) y1)) :
    cc (ev X E0) 60 [AV.c (.ms 0 0 4 n), AV.c (vi i), AV.c (vi j)] [.row 4 es] = some (AV.c (.ms 0 0 4 (Int.toNat i - 0 + List.length y1)), [.row 4 (putEs (putEs es (0 + (Int.toNat i - 0)) y1) (Int.toNat i - 0 + List.length y1) (List.replicate (n - (Int.toNat i - 0 + List.length y1)) (rowOf 4 [PV.int .i64 0, .int .i64 0, .int .i32 0, .int .i32 0])))]) :=
  cc_path (x := xf60) rfl [.emp false, .br false, .emp true, .emp false, .els y1, .emp false, .emp false, It.pl (Int.toNat i - 0 + List.length y1)]
    (c := rq [(1, 0 ≤ i), (1, i ≤ j), (1, j ≤ (↑n : Int)), ty g4, (1, (i == j) = false), (1, (0 : Int) ≤ (0 : Int)), (1, 0 ≤ i), ty g5, (1, (0 : Int) = (0 : Int)), (1, 0 ≤ j), (1, j ≤ (↑n : Int)), (1, (↑n : Int) ≤ (↑n : Int)), (1, ¬j = (↑n : Int)), ty g8, (1, y1 ≠ []), ty g10, ty g11, (1, 0 ≤ (↑(Int.toNat i - 0 + List.length y1) : Int)), ty g12, ty g13, ty g14, (1, 0 + (Int.toNat i - 0 + List.length y1) * 4 = (Int.toNat i - 0 + List.length y1) * 4), ty g15, ty g16]) (by kernel_rfl)
    (aq ⟨g1, g2, g3, g4, (beq_eq_false_iff_ne.mpr hn), (Int.le_refl _), g1, g5, (by decide), g6, g3, (Int.le_refl _), g7, g8, g9, g10, g11, (Int.natCast_nonneg _), g12, g13, g14, (by omega), g15, g16, trivial⟩)
theorem df56_1 (l : List Rd) (o : SO) (s : Nat) (_hs : szOk 4 (.pv (.sl o s (List.map Rd.pv l))) = true) (g1 : (o == SO.nil) = true) :
    cc (ev X E0) 56 [AV.c (.pv (.sl o s (List.map Rd.pv l)))] [] = some (AV.c (.pv (.sl SO.nil 0 [])), []) :=
  cc_path (x := xf56) rfl [.br true]
    (c := [(o == SO.nil) = true]) (by kernel_rfl)
    ⟨g1, trivial⟩
theorem df56_2 (l : List Rd) (o : SO) (s : Nat) (hs : szOk 4 (.pv (.sl o s (List.map Rd.pv l))) = true) (g1 : (o == SO.nil) = false) (g2 : List.map Rd.pv l = []) :
    cc (ev X E0) 56 [AV.c (.pv (.sl o s (List.map Rd.pv l)))] [] = some (AV.c (.pv (.sl SO.full 4 [])), []) :=
  cc_path (x := xf56) rfl [.br false, .sa, .emp true]
    (c := rq [ty g1, ty hs, ty g2]) (by kernel_rfl)
    (aq ⟨g1, hs, g2, trivial⟩)
theorem df56_3 (l : List Rd) (o : SO) (s : Nat) (hs : szOk 4 (.pv (.sl o s (List.map Rd.pv l))) = true) (g1 : (o == SO.nil) = false) (g2 : List.map Rd.pv l ≠ []) (g3 : (↑(0 + List.length (List.map Rd.pv l)) : Int) * 24 ≤ 140737488355328) :
    cc (ev X E0) 56 [AV.c (.pv (.sl o s (List.map Rd.pv l)))] [] = some (AV.c (.own 0 4 ([] ++ List.map Rd.pv l)), []) :=
  cc_path (x := xf56) rfl [.br false, .sa, .emp false]
    (c := rq [ty g1, ty hs, ty g2, ty g3]) (by kernel_rfl)
    (aq ⟨g1, hs, g2, g3, trivial⟩)
abbrev zR : PV := .agg [.int .i64 0, .int .i64 0, .int .i32 0, .int .i32 0]
theorem sDel {es : List PV} {i : Nat} (hi : i < es.length) (hr : es.all (rowE 4) = true) : cc (ev X E0) 60 [AV.c (.ms 0 0 4 es.length), AV.i (i : Int), AV.i ((i + 1 : Nat) : Int)] [Box.row 4 es] = some (AV.c (.ms 0 0 4 (es.length - 1)), [Box.row 4 (es.take i ++ es.drop (i + 1) ++ [zR])]) := by
  by_cases c : i + 1 = es.length
  · have h := df60_2 es (i : Int) ((i + 1 : Nat) : Int) es.length (by omega) (by omega) (by omega) (by omega) (by omega) (by omega) (by omega) (by omega) (by omega) (by omega) (by omega) (by omega)
    rw [h]
    have e1 : (i : Int).toNat - 0 = i := by omega
    have e2 : es.length - 1 = i := by omega
    have e3 : es.drop (i + 1) = [] := List.drop_eq_nil_of_le (by omega)
    have e4 : es.length - i = 1 := by omega
    rw [e1, e2, e3, e4, List.append_nil]
    simp only [putEs, List.replicate_one, List.length_singleton, e3, List.append_nil]
    rfl
  · have hd : (es.drop (i + 1)).length = es.length - (i + 1) := List.length_drop
    have h := df60_6 es (i : Int) ((i + 1 : Nat) : Int) es.length (by omega) (es.drop (i + 1)) (by omega) (by omega) (by omega) (by omega) (by omega) (by omega) (by omega)
      (by
        have k1 : (0 + ((i + 1 : Nat) : Int).toNat * 4) % 4 = 0 := by omega
        have k2 : (0 + ((i + 1 : Nat) : Int).toNat * 4) / 4 = i + 1 := by omega
        simp only [frzE, Option.bind_some, Box.elems]
        rw [if_pos ⟨trivial, k1, by rw [k2]; omega⟩, k2]
        congr 1
        exact List.take_of_length_le (by omega))
      (by intro h; rw [h] at hd; simp at hd; omega) (by omega)
      (by rw [List.all_eq_true] at hr ⊢; exact fun e he => hr e (List.mem_of_mem_drop he)) (by omega)
      (by simp only [putEs, List.length_append, List.length_take, List.length_drop]; omega) (by simp only [putEs, List.length_append, List.length_take, List.length_drop]; omega) (by omega) (by simp only [putEs, List.length_append, List.length_take, List.length_drop]; omega)
    rw [h]
    have e1 : (i : Int).toNat - 0 = i := by omega
    have e2 : i + (es.length - (i + 1)) = es.length - 1 := by omega
    have e4 : es.length - (es.length - 1) = 1 := by omega
    rw [e1, hd, e2, e4, Nat.zero_add]
    have e5 : putEs es i (es.drop (i + 1)) = es.take i ++ es.drop (i + 1) ++ es.drop (es.length - 1) := by
      unfold putEs
      rw [hd, e2]
    have e6 : (es.take i ++ es.drop (i + 1)).length = es.length - 1 := by rw [List.length_append, List.length_take, hd]; omega
    rw [e5]
    simp only [putEs, List.replicate_one, List.length_singleton]
    rw [List.take_append_of_le_length (by omega), List.take_of_length_le (by omega)]
    have e7 : (es.take i ++ es.drop (i + 1) ++ es.drop (es.length - 1)).drop (es.length - 1 + 1) = [] := by
      refine List.drop_eq_nil_of_le ?_
      rw [List.length_append, e6, List.length_drop]; omega
    rw [e7, List.append_nil]
    rfl
end Go.Sx.Tryd
