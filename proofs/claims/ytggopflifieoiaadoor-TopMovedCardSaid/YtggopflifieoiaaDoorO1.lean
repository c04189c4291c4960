/- Orders: paths. -/
import Derived.Test.YtggopflifieoiaaDoorK1
import Derived.Test.YtggopflifieoiaaDoorSxLem
namespace Go.Sx.Tryd
open Go Go.Sx
structure Odr where
  id : Int
  kind : Int
  fr : Int
  to : Int
  cur : Int
  minor : Int
  first : Int
  months : Int
  many : Int
  how : Int
abbrev Odr.pv (x : Odr) : PV := .agg [.int .i64 x.id, .int .i64 x.kind, .int .i64 x.fr, .int .i64 x.to, .int .i64 x.cur, .int .i64 x.minor, .int .i32 x.first, .int .i64 x.months, .int .i64 x.many, .int .i64 x.how]
abbrev Odr.cs (x : Odr) : List CV := [.pv (.int .i64 x.id), .pv (.int .i64 x.kind), .pv (.int .i64 x.fr), .pv (.int .i64 x.to), .pv (.int .i64 x.cur), .pv (.int .i64 x.minor), .pv (.int .i32 x.first), .pv (.int .i64 x.months), .pv (.int .i64 x.many), .pv (.int .i64 x.how)]
abbrev Odr.av (x : Odr) : AV := .agg [.pv (.int .i64 x.id), .pv (.int .i64 x.kind), .pv (.int .i64 x.fr), .pv (.int .i64 x.to), .pv (.int .i64 x.cur), .pv (.int .i64 x.minor), .pv (.int .i32 x.first), .pv (.int .i64 x.months), .pv (.int .i64 x.many), .pv (.int .i64 x.how)]
theorem og56_1 (n a b : Int) (g1 : n ≥ a) :
    cc (ev X E0) 56 [AV.c (vi n), AV.c (vi a), AV.c (vi b)] [] = some (AV.c (.pv (.bool (decide (n ≤ b)))), []) :=
  cc_path (x := xf56) rfl (bs 4 true)
    (c := rq [(4, decide (n ≥ a) = true)]) (by kernel_rfl)
    (aq ⟨(dT g1), trivial⟩)
theorem og56_2 (n a b : Int) (g1 : ¬n ≥ a) :
    cc (ev X E0) 56 [AV.c (vi n), AV.c (vi a), AV.c (vi b)] [] = some (AV.c (.pv (.bool false)), []) :=
  cc_path (x := xf56) rfl (bs 4 false)
    (c := rq [(4, decide (n ≥ a) = false)]) (by kernel_rfl)
    (aq ⟨(dF g1), trivial⟩)
theorem og96_1 (n a b : Int) (g1 : n ≥ a) :
    cc (ev X E0) 96 [AV.c (vi n), AV.c (vi a), AV.c (vi b)] [] = some (AV.c (.pv (.bool (decide (n ≤ b)))), []) :=
  cc_path (x := xf96) rfl (bs 4 true)
    (c := rq [(4, decide (n ≥ a) = true)]) (by kernel_rfl)
    (aq ⟨(dT g1), trivial⟩)
theorem og96_2 (n a b : Int) (g1 : ¬n ≥ a) :
    cc (ev X E0) 96 [AV.c (vi n), AV.c (vi a), AV.c (vi b)] [] = some (AV.c (.pv (.bool false)), []) :=
  cc_path (x := xf96) rfl (bs 4 false)
    (c := rq [(4, decide (n ≥ a) = false)]) (by kernel_rfl)
    (aq ⟨(dF g1), trivial⟩)
def wthn (n a b : Int) : Bool := decide (a ≤ n ∧ n ≤ b)
theorem os56 (n a b : Int) : cc (ev X E0) 56 [AV.i n, AV.i a, AV.i b] [] = some (.b (wthn n a b), []) := by
  unfold wthn
  by_cases h : n ≥ a
  · rw [og56_1 n a b h]; congr 5; rw [Bool.eq_iff_iff]; simp; omega
  · rw [og56_2 n a b h, decide_eq_false (by omega)]
theorem os96 (n a b : Int) : cc (ev X E0) 96 [AV.i n, AV.i a, AV.i b] [] = some (.b (wthn n a b), []) := by
  unfold wthn
  by_cases h : n ≥ a
  · rw [og96_1 n a b h]; congr 5; rw [Bool.eq_iff_iff]; simp; omega
  · rw [og96_2 n a b h, decide_eq_false (by omega)]
def c51a : XCode := sqA (sqB (XFunc.body xf51))
def c51b : XCode := sqA (sqB (sqB (XFunc.body xf51)))
def c51c : XCode := sqA (sqB (sqB (sqB (XFunc.body xf51))))
def c51d : XCode := sqB (sqB (sqB (sqB (XFunc.body xf51))))
def c51z : XCode := sqA (XFunc.body xf51)
abbrev OB (x : Odr) : List Box := [Box.cells (Odr.cs x)]
theorem oc51z_1 (x : Odr) :
    cv (ev X E0) c51z (St.mk (tmOf 76 [(0, Odr.av x)]) []) = some (XExit.normal, St.mk (tmOf 76 [(1, AV.c (.ptr 0 0))]) [.cells [vi (Odr.id x), vi (Odr.kind x), vi (Odr.fr x), vi (Odr.to x), vi (Odr.cur x), vi (Odr.minor x), vw (Odr.first x), vi (Odr.months x), vi (Odr.many x), vi (Odr.how x)]]) :=
  cv_ok []
    (c := []) (by kernel_rfl)
    trivial
theorem oc51a_1 (x : Odr) (g1 : wthn (Odr.fr x) 1 999 = true) (g2 : wthn (Odr.to x) 1 999 = true) :
    cv (ev X E0) c51a (St.mk (tmOf 76 [(1, AV.c (.ptr 0 0))]) (OB x)) = some (XExit.normal, St.mk (tmOf 76 [(1, AV.c (.ptr 0 0)), (3, AV.c (.pv (.bool (Odr.fr x != Odr.to x))))]) [.cells [vi (Odr.id x), vi (Odr.kind x), vi (Odr.fr x), vi (Odr.to x), vi (Odr.cur x), vi (Odr.minor x), vw (Odr.first x), vi (Odr.months x), vi (Odr.many x), vi (Odr.how x)]]) :=
  cv_ok [.call (AV.c (.pv (.bool (wthn (Odr.fr x) 1 999)))) [], .br true, .br true, .br true, .call (AV.c (.pv (.bool (wthn (Odr.to x) 1 999)))) [], .br true, .br true, .br true, .br true, .br true, .br true, .br true]
    (c := [cc (ev X E0) 96 [AV.c (vi (Odr.fr x)), AV.c (vi 1), AV.c (vi 999)] [] = some (AV.c (.pv (.bool (wthn (Odr.fr x) 1 999))), []), wthn (Odr.fr x) 1 999 = true, wthn (Odr.fr x) 1 999 = true, wthn (Odr.fr x) 1 999 = true, cc (ev X E0) 96 [AV.c (vi (Odr.to x)), AV.c (vi 1), AV.c (vi 999)] [] = some (AV.c (.pv (.bool (wthn (Odr.to x) 1 999))), []), wthn (Odr.fr x) 1 999 = true, wthn (Odr.to x) 1 999 = true, wthn (Odr.to x) 1 999 = true, wthn (Odr.to x) 1 999 = true, wthn (Odr.to x) 1 999 = true, wthn (Odr.to x) 1 999 = true, wthn (Odr.to x) 1 999 = true]) (by kernel_rfl)
    ⟨(os96 _ _ _), g1, g1, g1, (os96 _ _ _), g1, g2, g2, g2, g2, g2, g2, trivial⟩
theorem oc51a_2 (x : Odr) (g1 : wthn (Odr.fr x) 1 999 = true) (g2 : wthn (Odr.to x) 1 999 = false) :
    cv (ev X E0) c51a (St.mk (tmOf 76 [(1, AV.c (.ptr 0 0))]) (OB x)) = some (XExit.normal, St.mk (tmOf 76 [(1, AV.c (.ptr 0 0)), (3, AV.c (.pv (.bool false)))]) [.cells [vi (Odr.id x), vi (Odr.kind x), vi (Odr.fr x), vi (Odr.to x), vi (Odr.cur x), vi (Odr.minor x), vw (Odr.first x), vi (Odr.months x), vi (Odr.many x), vi (Odr.how x)]]) :=
  cv_ok [.call (AV.c (.pv (.bool (wthn (Odr.fr x) 1 999)))) [], .br true, .br true, .br true, .call (AV.c (.pv (.bool (wthn (Odr.to x) 1 999)))) [], .br true, .br false, .br false, .br false, .br false, .br false, .br false]
    (c := [cc (ev X E0) 96 [AV.c (vi (Odr.fr x)), AV.c (vi 1), AV.c (vi 999)] [] = some (AV.c (.pv (.bool (wthn (Odr.fr x) 1 999))), []), wthn (Odr.fr x) 1 999 = true, wthn (Odr.fr x) 1 999 = true, wthn (Odr.fr x) 1 999 = true, cc (ev X E0) 96 [AV.c (vi (Odr.to x)), AV.c (vi 1), AV.c (vi 999)] [] = some (AV.c (.pv (.bool (wthn (Odr.to x) 1 999))), []), wthn (Odr.fr x) 1 999 = true, wthn (Odr.to x) 1 999 = false, wthn (Odr.to x) 1 999 = false, wthn (Odr.to x) 1 999 = false, wthn (Odr.to x) 1 999 = false, wthn (Odr.to x) 1 999 = false, wthn (Odr.to x) 1 999 = false]) (by kernel_rfl)
    ⟨(os96 _ _ _), g1, g1, g1, (os96 _ _ _), g1, g2, g2, g2, g2, g2, g2, trivial⟩
theorem oc51a_3 (x : Odr) (g1 : wthn (Odr.fr x) 1 999 = false) :
    cv (ev X E0) c51a (St.mk (tmOf 76 [(1, AV.c (.ptr 0 0))]) (OB x)) = some (XExit.normal, St.mk (tmOf 76 [(1, AV.c (.ptr 0 0)), (3, AV.c (.pv (.bool false)))]) [.cells [vi (Odr.id x), vi (Odr.kind x), vi (Odr.fr x), vi (Odr.to x), vi (Odr.cur x), vi (Odr.minor x), vw (Odr.first x), vi (Odr.months x), vi (Odr.many x), vi (Odr.how x)]]) :=
  cv_ok [.call (AV.c (.pv (.bool (wthn (Odr.fr x) 1 999)))) [], .br false, .br false, .br false, .br false, .br false, .br false, .br false, .br false, .br false, .br false]
    (c := [cc (ev X E0) 96 [AV.c (vi (Odr.fr x)), AV.c (vi 1), AV.c (vi 999)] [] = some (AV.c (.pv (.bool (wthn (Odr.fr x) 1 999))), []), wthn (Odr.fr x) 1 999 = false, wthn (Odr.fr x) 1 999 = false, wthn (Odr.fr x) 1 999 = false, wthn (Odr.fr x) 1 999 = false, false = false, false = false, false = false, false = false, false = false, false = false]) (by kernel_rfl)
    ⟨(os96 _ _ _), g1, g1, g1, g1, rfl, rfl, rfl, rfl, rfl, rfl, trivial⟩
theorem oc51b_1 (x : Odr) (t3 : Bool) (b : Bool) (h30 : cc (ev X E0) 30 [AV.agg [vi (Odr.cur x), vi (Odr.minor x)]] [] = some (AV.b b, [])) (g1 : b = true) (g2 : Odr.minor x > 0) :
    cv (ev X E0) c51b (St.mk (tmOf 76 [(1, AV.c (.ptr 0 0)), (3, AV.c (.pv (.bool t3)))]) (OB x)) = some (XExit.normal, St.mk (tmOf 76 [(1, AV.c (.ptr 0 0)), (3, AV.c (.pv (.bool t3))), (4, AV.c (.pv (.bool true)))]) [.cells [vi (Odr.id x), vi (Odr.kind x), vi (Odr.fr x), vi (Odr.to x), vi (Odr.cur x), vi (Odr.minor x), vw (Odr.first x), vi (Odr.months x), vi (Odr.many x), vi (Odr.how x)]]) :=
  cv_ok [.call (AV.c (.pv (.bool b))) [], .br true, .br true, .br true, .br true, .br true, .br true, .br true, .br true, .br true, .br true, .br true, .br true, .br true, .br true]
    (c := [cc (ev X E0) 30 [AV.agg [vi (Odr.cur x), vi (Odr.minor x)]] [] = some (AV.c (.pv (.bool b)), []), b = true, b = true, b = true, b = true, b = true, decide (Odr.minor x > 0) = true, decide (Odr.minor x > 0) = true, decide (Odr.minor x > 0) = true, decide (Odr.minor x > 0) = true, decide (Odr.minor x > 0) = true, decide (Odr.minor x > 0) = true, b = true, decide (Odr.minor x > 0) = true, b = true]) (by kernel_rfl)
    ⟨(h30), g1, g1, g1, g1, g1, (dT g2), (dT g2), (dT g2), (dT g2), (dT g2), (dT g2), g1, (dT g2), g1, trivial⟩
theorem oc51b_2 (x : Odr) (t3 : Bool) (b : Bool) (h30 : cc (ev X E0) 30 [AV.agg [vi (Odr.cur x), vi (Odr.minor x)]] [] = some (AV.b b, [])) (g1 : b = true) (g2 : ¬Odr.minor x > 0) (g3 : Odr.minor x = 0) :
    cv (ev X E0) c51b (St.mk (tmOf 76 [(1, AV.c (.ptr 0 0)), (3, AV.c (.pv (.bool t3)))]) (OB x)) = some (XExit.normal, St.mk (tmOf 76 [(1, AV.c (.ptr 0 0)), (3, AV.c (.pv (.bool t3))), (4, AV.c (.pv (.bool (Odr.kind x == 1))))]) [.cells [vi (Odr.id x), vi (Odr.kind x), vi (Odr.fr x), vi (Odr.to x), vi (Odr.cur x), vi (Odr.minor x), vw (Odr.first x), vi (Odr.months x), vi (Odr.many x), vi (Odr.how x)]]) :=
  cv_ok [.call (AV.c (.pv (.bool b))) [], .br true, .br true, .br true, .br true, .br true, .br false, .br false, .br false, .br false, .br false, .br true, .br true, .br true, .br false, .br true, .br true, .br false, .br true]
    (c := [cc (ev X E0) 30 [AV.agg [vi (Odr.cur x), vi (Odr.minor x)]] [] = some (AV.c (.pv (.bool b)), []), b = true, b = true, b = true, b = true, b = true, decide (Odr.minor x > 0) = false, decide (Odr.minor x > 0) = false, decide (Odr.minor x > 0) = false, decide (Odr.minor x > 0) = false, decide (Odr.minor x > 0) = false, (Odr.minor x == 0) = true, (Odr.minor x == 0) = true, (Odr.minor x == 0) = true, decide (Odr.minor x > 0) = false, (Odr.minor x == 0) = true, b = true, decide (Odr.minor x > 0) = false, b = true]) (by kernel_rfl)
    ⟨(h30), g1, g1, g1, g1, g1, (dF g2), (dF g2), (dF g2), (dF g2), (dF g2), (beq_iff_eq.mpr g3), (beq_iff_eq.mpr g3), (beq_iff_eq.mpr g3), (dF g2), (beq_iff_eq.mpr g3), g1, (dF g2), g1, trivial⟩
theorem oc51b_3 (x : Odr) (t3 : Bool) (b : Bool) (h30 : cc (ev X E0) 30 [AV.agg [vi (Odr.cur x), vi (Odr.minor x)]] [] = some (AV.b b, [])) (g1 : b = true) (g2 : ¬Odr.minor x > 0) (g3 : ¬Odr.minor x = 0) :
    cv (ev X E0) c51b (St.mk (tmOf 76 [(1, AV.c (.ptr 0 0)), (3, AV.c (.pv (.bool t3)))]) (OB x)) = some (XExit.normal, St.mk (tmOf 76 [(1, AV.c (.ptr 0 0)), (3, AV.c (.pv (.bool t3))), (4, AV.c (.pv (.bool false)))]) [.cells [vi (Odr.id x), vi (Odr.kind x), vi (Odr.fr x), vi (Odr.to x), vi (Odr.cur x), vi (Odr.minor x), vw (Odr.first x), vi (Odr.months x), vi (Odr.many x), vi (Odr.how x)]]) :=
  cv_ok [.call (AV.c (.pv (.bool b))) [], .br true, .br true, .br true, .br true, .br true, .br false, .br false, .br false, .br false, .br false, .br false, .br false, .br false, .br false, .br false, .br true, .br false, .br true]
    (c := [cc (ev X E0) 30 [AV.agg [vi (Odr.cur x), vi (Odr.minor x)]] [] = some (AV.c (.pv (.bool b)), []), b = true, b = true, b = true, b = true, b = true, decide (Odr.minor x > 0) = false, decide (Odr.minor x > 0) = false, decide (Odr.minor x > 0) = false, decide (Odr.minor x > 0) = false, decide (Odr.minor x > 0) = false, (Odr.minor x == 0) = false, (Odr.minor x == 0) = false, (Odr.minor x == 0) = false, decide (Odr.minor x > 0) = false, (Odr.minor x == 0) = false, b = true, decide (Odr.minor x > 0) = false, b = true]) (by kernel_rfl)
    ⟨(h30), g1, g1, g1, g1, g1, (dF g2), (dF g2), (dF g2), (dF g2), (dF g2), (beq_eq_false_iff_ne.mpr g3), (beq_eq_false_iff_ne.mpr g3), (beq_eq_false_iff_ne.mpr g3), (dF g2), (beq_eq_false_iff_ne.mpr g3), g1, (dF g2), g1, trivial⟩
theorem oc51b_4 (x : Odr) (t3 : Bool) (b : Bool) (h30 : cc (ev X E0) 30 [AV.agg [vi (Odr.cur x), vi (Odr.minor x)]] [] = some (AV.b b, [])) (g1 : b = false) :
    cv (ev X E0) c51b (St.mk (tmOf 76 [(1, AV.c (.ptr 0 0)), (3, AV.c (.pv (.bool t3)))]) (OB x)) = some (XExit.normal, St.mk (tmOf 76 [(1, AV.c (.ptr 0 0)), (3, AV.c (.pv (.bool t3))), (4, AV.c (.pv (.bool false)))]) [.cells [vi (Odr.id x), vi (Odr.kind x), vi (Odr.fr x), vi (Odr.to x), vi (Odr.cur x), vi (Odr.minor x), vw (Odr.first x), vi (Odr.months x), vi (Odr.many x), vi (Odr.how x)]]) :=
  cv_ok [.call (AV.c (.pv (.bool b))) [], .br false, .br false, .br false, .br false, .br false, .br false, .br false]
    (c := [cc (ev X E0) 30 [AV.agg [vi (Odr.cur x), vi (Odr.minor x)]] [] = some (AV.c (.pv (.bool b)), []), b = false, b = false, b = false, b = false, b = false, b = false, b = false]) (by kernel_rfl)
    ⟨(h30), g1, g1, g1, g1, g1, g1, g1, trivial⟩
theorem oc51c_1 (x : Odr) (t3 : Bool) (t4 : Bool) (g1 : datOk (Odr.first x) = true) (g2 : wthn (Odr.months x) 1 12 = true) :
    cv (ev X E0) c51c (St.mk (tmOf 76 [(1, AV.c (.ptr 0 0)), (3, AV.c (.pv (.bool t3))), (4, AV.c (.pv (.bool t4)))]) (OB x)) = some (XExit.normal, St.mk (tmOf 76 [(1, AV.c (.ptr 0 0)), (3, AV.c (.pv (.bool t3))), (4, AV.c (.pv (.bool t4))), (5, AV.c (.pv (.bool (wthn (Odr.many x) 1 120))))]) [.cells [vi (Odr.id x), vi (Odr.kind x), vi (Odr.fr x), vi (Odr.to x), vi (Odr.cur x), vi (Odr.minor x), vw (Odr.first x), vi (Odr.months x), vi (Odr.many x), vi (Odr.how x)]]) :=
  cv_ok [.call (AV.c (.pv (.bool (datOk (Odr.first x))))) [], .br true, .br true, .br true, .call (AV.c (.pv (.bool (wthn (Odr.months x) 1 12)))) [], .br true, .br true, .br true, .br true, .call (AV.c (.pv (.bool (wthn (Odr.many x) 1 120)))) [], .br true]
    (c := [cc (ev X E0) 53 [AV.c (vw (Odr.first x))] [] = some (AV.c (.pv (.bool (datOk (Odr.first x)))), []), datOk (Odr.first x) = true, datOk (Odr.first x) = true, datOk (Odr.first x) = true, cc (ev X E0) 56 [AV.c (vi (Odr.months x)), AV.c (vi 1), AV.c (vi 12)] [] = some (AV.c (.pv (.bool (wthn (Odr.months x) 1 12))), []), datOk (Odr.first x) = true, wthn (Odr.months x) 1 12 = true, wthn (Odr.months x) 1 12 = true, wthn (Odr.months x) 1 12 = true, cc (ev X E0) 56 [AV.c (vi (Odr.many x)), AV.c (vi 1), AV.c (vi 120)] [] = some (AV.c (.pv (.bool (wthn (Odr.many x) 1 120))), []), wthn (Odr.months x) 1 12 = true]) (by kernel_rfl)
    ⟨(s77 _), g1, g1, g1, (os56 _ _ _), g1, g2, g2, g2, (os56 _ _ _), g2, trivial⟩
theorem oc51c_2 (x : Odr) (t3 : Bool) (t4 : Bool) (g1 : datOk (Odr.first x) = true) (g2 : wthn (Odr.months x) 1 12 = false) :
    cv (ev X E0) c51c (St.mk (tmOf 76 [(1, AV.c (.ptr 0 0)), (3, AV.c (.pv (.bool t3))), (4, AV.c (.pv (.bool t4)))]) (OB x)) = some (XExit.normal, St.mk (tmOf 76 [(1, AV.c (.ptr 0 0)), (3, AV.c (.pv (.bool t3))), (4, AV.c (.pv (.bool t4))), (5, AV.c (.pv (.bool false)))]) [.cells [vi (Odr.id x), vi (Odr.kind x), vi (Odr.fr x), vi (Odr.to x), vi (Odr.cur x), vi (Odr.minor x), vw (Odr.first x), vi (Odr.months x), vi (Odr.many x), vi (Odr.how x)]]) :=
  cv_ok [.call (AV.c (.pv (.bool (datOk (Odr.first x))))) [], .br true, .br true, .br true, .call (AV.c (.pv (.bool (wthn (Odr.months x) 1 12)))) [], .br true, .br false, .br false, .br false, .br false]
    (c := [cc (ev X E0) 53 [AV.c (vw (Odr.first x))] [] = some (AV.c (.pv (.bool (datOk (Odr.first x)))), []), datOk (Odr.first x) = true, datOk (Odr.first x) = true, datOk (Odr.first x) = true, cc (ev X E0) 56 [AV.c (vi (Odr.months x)), AV.c (vi 1), AV.c (vi 12)] [] = some (AV.c (.pv (.bool (wthn (Odr.months x) 1 12))), []), datOk (Odr.first x) = true, wthn (Odr.months x) 1 12 = false, wthn (Odr.months x) 1 12 = false, wthn (Odr.months x) 1 12 = false, wthn (Odr.months x) 1 12 = false]) (by kernel_rfl)
    ⟨(s77 _), g1, g1, g1, (os56 _ _ _), g1, g2, g2, g2, g2, trivial⟩
theorem oc51c_3 (x : Odr) (t3 : Bool) (t4 : Bool) (g1 : datOk (Odr.first x) = false) :
    cv (ev X E0) c51c (St.mk (tmOf 76 [(1, AV.c (.ptr 0 0)), (3, AV.c (.pv (.bool t3))), (4, AV.c (.pv (.bool t4)))]) (OB x)) = some (XExit.normal, St.mk (tmOf 76 [(1, AV.c (.ptr 0 0)), (3, AV.c (.pv (.bool t3))), (4, AV.c (.pv (.bool t4))), (5, AV.c (.pv (.bool false)))]) [.cells [vi (Odr.id x), vi (Odr.kind x), vi (Odr.fr x), vi (Odr.to x), vi (Odr.cur x), vi (Odr.minor x), vw (Odr.first x), vi (Odr.months x), vi (Odr.many x), vi (Odr.how x)]]) :=
  cv_ok [.call (AV.c (.pv (.bool (datOk (Odr.first x))))) [], .br false, .br false, .br false, .br false, .br false, .br false, .br false, .br false]
    (c := [cc (ev X E0) 53 [AV.c (vw (Odr.first x))] [] = some (AV.c (.pv (.bool (datOk (Odr.first x)))), []), datOk (Odr.first x) = false, datOk (Odr.first x) = false, datOk (Odr.first x) = false, datOk (Odr.first x) = false, false = false, false = false, false = false, false = false]) (by kernel_rfl)
    ⟨(s77 _), g1, g1, g1, g1, rfl, rfl, rfl, rfl, trivial⟩
theorem oc51d_1 (x : Odr) (t3 : Bool) (t4 : Bool) (t5 : Bool) (g1 : wthn (Odr.id x) 1 1000000 = true) (g2 : wthn (Odr.kind x) 0 2 = true) (g3 : t3 = true) (g4 : t4 = true) (g5 : t5 = true) :
    cv (ev X E0) c51d (St.mk (tmOf 76 [(1, AV.c (.ptr 0 0)), (3, AV.c (.pv (.bool t3))), (4, AV.c (.pv (.bool t4))), (5, AV.c (.pv (.bool t5)))]) (OB x)) = some (XExit.ret, St.mk (tmOf 76 [(2, AV.c (.pv (.bool (wthn (Odr.how x) 0 2))))]) [.cells [vi (Odr.id x), vi (Odr.kind x), vi (Odr.fr x), vi (Odr.to x), vi (Odr.cur x), vi (Odr.minor x), vw (Odr.first x), vi (Odr.months x), vi (Odr.many x), vi (Odr.how x)]]) :=
  cv_ok [.call (AV.c (.pv (.bool (wthn (Odr.id x) 1 1000000)))) [], .br true, .br true, .br true, .call (AV.c (.pv (.bool (wthn (Odr.kind x) 0 2)))) [], .br true, .br true, .br true, .br true, .br true, .br true, .br true, .br true, .br true, .br true, .call (AV.c (.pv (.bool (wthn (Odr.how x) 0 2)))) [], .br true]
    (c := [cc (ev X E0) 56 [AV.c (vi (Odr.id x)), AV.c (vi 1), AV.c (vi 1000000)] [] = some (AV.c (.pv (.bool (wthn (Odr.id x) 1 1000000))), []), wthn (Odr.id x) 1 1000000 = true, wthn (Odr.id x) 1 1000000 = true, wthn (Odr.id x) 1 1000000 = true, cc (ev X E0) 56 [AV.c (vi (Odr.kind x)), AV.c (vi 0), AV.c (vi 2)] [] = some (AV.c (.pv (.bool (wthn (Odr.kind x) 0 2))), []), wthn (Odr.id x) 1 1000000 = true, wthn (Odr.kind x) 0 2 = true, wthn (Odr.kind x) 0 2 = true, t3 = true, t3 = true, t4 = true, t4 = true, t5 = true, t5 = true, t5 = true, cc (ev X E0) 56 [AV.c (vi (Odr.how x)), AV.c (vi 0), AV.c (vi 2)] [] = some (AV.c (.pv (.bool (wthn (Odr.how x) 0 2))), []), t5 = true]) (by kernel_rfl)
    ⟨(os56 _ _ _), g1, g1, g1, (os56 _ _ _), g1, g2, g2, g3, g3, g4, g4, g5, g5, g5, (os56 _ _ _), g5, trivial⟩
theorem oc51d_2 (x : Odr) (t3 : Bool) (t4 : Bool) (t5 : Bool) (g1 : wthn (Odr.id x) 1 1000000 = true) (g2 : wthn (Odr.kind x) 0 2 = true) (g3 : t3 = true) (g4 : t4 = true) (g5 : t5 = false) :
    cv (ev X E0) c51d (St.mk (tmOf 76 [(1, AV.c (.ptr 0 0)), (3, AV.c (.pv (.bool t3))), (4, AV.c (.pv (.bool t4))), (5, AV.c (.pv (.bool t5)))]) (OB x)) = some (XExit.ret, St.mk (tmOf 76 [(2, AV.c (.pv (.bool false)))]) [.cells [vi (Odr.id x), vi (Odr.kind x), vi (Odr.fr x), vi (Odr.to x), vi (Odr.cur x), vi (Odr.minor x), vw (Odr.first x), vi (Odr.months x), vi (Odr.many x), vi (Odr.how x)]]) :=
  cv_ok [.call (AV.c (.pv (.bool (wthn (Odr.id x) 1 1000000)))) [], .br true, .br true, .br true, .call (AV.c (.pv (.bool (wthn (Odr.kind x) 0 2)))) [], .br true, .br true, .br true, .br true, .br true, .br true, .br true, .br false, .br false, .br false, .br false]
    (c := [cc (ev X E0) 56 [AV.c (vi (Odr.id x)), AV.c (vi 1), AV.c (vi 1000000)] [] = some (AV.c (.pv (.bool (wthn (Odr.id x) 1 1000000))), []), wthn (Odr.id x) 1 1000000 = true, wthn (Odr.id x) 1 1000000 = true, wthn (Odr.id x) 1 1000000 = true, cc (ev X E0) 56 [AV.c (vi (Odr.kind x)), AV.c (vi 0), AV.c (vi 2)] [] = some (AV.c (.pv (.bool (wthn (Odr.kind x) 0 2))), []), wthn (Odr.id x) 1 1000000 = true, wthn (Odr.kind x) 0 2 = true, wthn (Odr.kind x) 0 2 = true, t3 = true, t3 = true, t4 = true, t4 = true, t5 = false, t5 = false, t5 = false, t5 = false]) (by kernel_rfl)
    ⟨(os56 _ _ _), g1, g1, g1, (os56 _ _ _), g1, g2, g2, g3, g3, g4, g4, g5, g5, g5, g5, trivial⟩
theorem oc51d_3 (x : Odr) (t3 : Bool) (t4 : Bool) (t5 : Bool) (g1 : wthn (Odr.id x) 1 1000000 = true) (g2 : wthn (Odr.kind x) 0 2 = true) (g3 : t3 = true) (g4 : t4 = false) :
    cv (ev X E0) c51d (St.mk (tmOf 76 [(1, AV.c (.ptr 0 0)), (3, AV.c (.pv (.bool t3))), (4, AV.c (.pv (.bool t4))), (5, AV.c (.pv (.bool t5)))]) (OB x)) = some (XExit.ret, St.mk (tmOf 76 [(2, AV.c (.pv (.bool false)))]) [.cells [vi (Odr.id x), vi (Odr.kind x), vi (Odr.fr x), vi (Odr.to x), vi (Odr.cur x), vi (Odr.minor x), vw (Odr.first x), vi (Odr.months x), vi (Odr.many x), vi (Odr.how x)]]) :=
  cv_ok [.call (AV.c (.pv (.bool (wthn (Odr.id x) 1 1000000)))) [], .br true, .br true, .br true, .call (AV.c (.pv (.bool (wthn (Odr.kind x) 0 2)))) [], .br true, .br true, .br true, .br true, .br true, .br false, .br false, .br false, .br false, .br false, .br false]
    (c := [cc (ev X E0) 56 [AV.c (vi (Odr.id x)), AV.c (vi 1), AV.c (vi 1000000)] [] = some (AV.c (.pv (.bool (wthn (Odr.id x) 1 1000000))), []), wthn (Odr.id x) 1 1000000 = true, wthn (Odr.id x) 1 1000000 = true, wthn (Odr.id x) 1 1000000 = true, cc (ev X E0) 56 [AV.c (vi (Odr.kind x)), AV.c (vi 0), AV.c (vi 2)] [] = some (AV.c (.pv (.bool (wthn (Odr.kind x) 0 2))), []), wthn (Odr.id x) 1 1000000 = true, wthn (Odr.kind x) 0 2 = true, wthn (Odr.kind x) 0 2 = true, t3 = true, t3 = true, t4 = false, t4 = false, false = false, false = false, false = false, false = false]) (by kernel_rfl)
    ⟨(os56 _ _ _), g1, g1, g1, (os56 _ _ _), g1, g2, g2, g3, g3, g4, g4, rfl, rfl, rfl, rfl, trivial⟩
theorem oc51d_4 (x : Odr) (t3 : Bool) (t4 : Bool) (t5 : Bool) (g1 : wthn (Odr.id x) 1 1000000 = true) (g2 : wthn (Odr.kind x) 0 2 = true) (g3 : t3 = false) :
    cv (ev X E0) c51d (St.mk (tmOf 76 [(1, AV.c (.ptr 0 0)), (3, AV.c (.pv (.bool t3))), (4, AV.c (.pv (.bool t4))), (5, AV.c (.pv (.bool t5)))]) (OB x)) = some (XExit.ret, St.mk (tmOf 76 [(2, AV.c (.pv (.bool false)))]) [.cells [vi (Odr.id x), vi (Odr.kind x), vi (Odr.fr x), vi (Odr.to x), vi (Odr.cur x), vi (Odr.minor x), vw (Odr.first x), vi (Odr.months x), vi (Odr.many x), vi (Odr.how x)]]) :=
  cv_ok [.call (AV.c (.pv (.bool (wthn (Odr.id x) 1 1000000)))) [], .br true, .br true, .br true, .call (AV.c (.pv (.bool (wthn (Odr.kind x) 0 2)))) [], .br true, .br true, .br true, .br false, .br false, .br false, .br false, .br false, .br false, .br false, .br false]
    (c := [cc (ev X E0) 56 [AV.c (vi (Odr.id x)), AV.c (vi 1), AV.c (vi 1000000)] [] = some (AV.c (.pv (.bool (wthn (Odr.id x) 1 1000000))), []), wthn (Odr.id x) 1 1000000 = true, wthn (Odr.id x) 1 1000000 = true, wthn (Odr.id x) 1 1000000 = true, cc (ev X E0) 56 [AV.c (vi (Odr.kind x)), AV.c (vi 0), AV.c (vi 2)] [] = some (AV.c (.pv (.bool (wthn (Odr.kind x) 0 2))), []), wthn (Odr.id x) 1 1000000 = true, wthn (Odr.kind x) 0 2 = true, wthn (Odr.kind x) 0 2 = true, t3 = false, t3 = false, false = false, false = false, false = false, false = false, false = false, false = false]) (by kernel_rfl)
    ⟨(os56 _ _ _), g1, g1, g1, (os56 _ _ _), g1, g2, g2, g3, g3, rfl, rfl, rfl, rfl, rfl, rfl, trivial⟩
theorem oc51d_5 (x : Odr) (t3 : Bool) (t4 : Bool) (t5 : Bool) (g1 : wthn (Odr.id x) 1 1000000 = true) (g2 : wthn (Odr.kind x) 0 2 = false) :
    cv (ev X E0) c51d (St.mk (tmOf 76 [(1, AV.c (.ptr 0 0)), (3, AV.c (.pv (.bool t3))), (4, AV.c (.pv (.bool t4))), (5, AV.c (.pv (.bool t5)))]) (OB x)) = some (XExit.ret, St.mk (tmOf 76 [(2, AV.c (.pv (.bool false)))]) [.cells [vi (Odr.id x), vi (Odr.kind x), vi (Odr.fr x), vi (Odr.to x), vi (Odr.cur x), vi (Odr.minor x), vw (Odr.first x), vi (Odr.months x), vi (Odr.many x), vi (Odr.how x)]]) :=
  cv_ok [.call (AV.c (.pv (.bool (wthn (Odr.id x) 1 1000000)))) [], .br true, .br true, .br true, .call (AV.c (.pv (.bool (wthn (Odr.kind x) 0 2)))) [], .br true, .br false, .br false, .br false, .br false, .br false, .br false, .br false, .br false, .br false, .br false]
    (c := [cc (ev X E0) 56 [AV.c (vi (Odr.id x)), AV.c (vi 1), AV.c (vi 1000000)] [] = some (AV.c (.pv (.bool (wthn (Odr.id x) 1 1000000))), []), wthn (Odr.id x) 1 1000000 = true, wthn (Odr.id x) 1 1000000 = true, wthn (Odr.id x) 1 1000000 = true, cc (ev X E0) 56 [AV.c (vi (Odr.kind x)), AV.c (vi 0), AV.c (vi 2)] [] = some (AV.c (.pv (.bool (wthn (Odr.kind x) 0 2))), []), wthn (Odr.id x) 1 1000000 = true, wthn (Odr.kind x) 0 2 = false, wthn (Odr.kind x) 0 2 = false, false = false, false = false, false = false, false = false, false = false, false = false, false = false, false = false]) (by kernel_rfl)
    ⟨(os56 _ _ _), g1, g1, g1, (os56 _ _ _), g1, g2, g2, rfl, rfl, rfl, rfl, rfl, rfl, rfl, rfl, trivial⟩
theorem oc51d_6 (x : Odr) (t3 : Bool) (t4 : Bool) (t5 : Bool) (g1 : wthn (Odr.id x) 1 1000000 = false) :
    cv (ev X E0) c51d (St.mk (tmOf 76 [(1, AV.c (.ptr 0 0)), (3, AV.c (.pv (.bool t3))), (4, AV.c (.pv (.bool t4))), (5, AV.c (.pv (.bool t5)))]) (OB x)) = some (XExit.ret, St.mk (tmOf 76 [(2, AV.c (.pv (.bool false)))]) [.cells [vi (Odr.id x), vi (Odr.kind x), vi (Odr.fr x), vi (Odr.to x), vi (Odr.cur x), vi (Odr.minor x), vw (Odr.first x), vi (Odr.months x), vi (Odr.many x), vi (Odr.how x)]]) :=
  cv_ok [.call (AV.c (.pv (.bool (wthn (Odr.id x) 1 1000000)))) [], .br false, .br false, .br false, .br false, .br false, .br false, .br false, .br false, .br false, .br false, .br false, .br false, .br false, .br false]
    (c := [cc (ev X E0) 56 [AV.c (vi (Odr.id x)), AV.c (vi 1), AV.c (vi 1000000)] [] = some (AV.c (.pv (.bool (wthn (Odr.id x) 1 1000000))), []), wthn (Odr.id x) 1 1000000 = false, wthn (Odr.id x) 1 1000000 = false, wthn (Odr.id x) 1 1000000 = false, wthn (Odr.id x) 1 1000000 = false, false = false, false = false, false = false, false = false, false = false, false = false, false = false, false = false, false = false, false = false]) (by kernel_rfl)
    ⟨(os56 _ _ _), g1, g1, g1, g1, rfl, rfl, rfl, rfl, rfl, rfl, rfl, rfl, rfl, rfl, trivial⟩
end Go.Sx.Tryd
