/- The document's reader of code: what each reading comes to. -/
import Derived.Test.YtdhefhnlagnkdaaDoorM9
namespace Go.Sx.Tryd
open Go Go.Sx
theorem pl_1 (b : List UInt8) (t : Int) (f : Int) (a : Int) (u : Int) (p : Int) (i : Int) (g1 : i < 10) (g2 : IntKind.wrap .i64 (a + i) ≥ (↑(List.length b) : Int)) :
    lv (cv (ev X E0) xf141_l0) [true, true, false, false, false, false, false, true, true, true] 1 (St.mk (tmOf 65 [(0, AV.c (.ptr 0 0)), (1, AV.c (vi a)), (7, AV.c (.pv (.int .u64 u))), (8, AV.c (.pv (.int .u64 p))), (9, AV.c (vi i))]) [.cells [.pv (.str b), vi t, vi f]]) = some (XExit.ret, St.mk (tmOf 65 [(4, AV.c (.pv (.int .u64 0))), (5, AV.c (vi a)), (6, AV.c (vi 2))]) [.cells [.pv (.str b), vi t, vi f]]) :=
  lv_ret [.br true, .br true]
    (c := [decide (i < 10) = true, decide (IntKind.wrap .i64 (a + i) ≥ (↑(List.length b) : Int)) = true]) (by kernel_rfl)
    ⟨(decide_eq_true g1), (decide_eq_true g2), trivial⟩
theorem pl_2 (b : List UInt8) (t : Int) (f : Int) (a : Int) (u : Int) (p : Int) (i : Int) (y1 : UInt8) (g1 : i < 10) (g2 : ¬IntKind.wrap .i64 (a + i) ≥ (↑(List.length b) : Int)) (g3 : 0 ≤ IntKind.wrap .i64 (a + i)) (g4 : b[Int.toNat (IntKind.wrap .i64 (a + i))]? = some y1) (g5 : i > 0) (g6 : IntKind.wrap .u64 (↑(UInt8.toNat y1) : Int) = 0) :
    lv (cv (ev X E0) xf141_l0) [true, true, false, false, false, false, false, true, true, true] 1 (St.mk (tmOf 65 [(0, AV.c (.ptr 0 0)), (1, AV.c (vi a)), (7, AV.c (.pv (.int .u64 u))), (8, AV.c (.pv (.int .u64 p))), (9, AV.c (vi i))]) [.cells [.pv (.str b), vi t, vi f]]) = some (XExit.ret, St.mk (tmOf 65 [(4, AV.c (.pv (.int .u64 0))), (5, AV.c (vi a)), (6, AV.c (vi 3))]) [.cells [.pv (.str b), vi t, vi f]]) :=
  lv_ret [.br true, .br false, .byte y1, .br true, .br true, .br true, .br true, .br true, .br true, .br true, .br true, .br true]
    (c := [decide (i < 10) = true, decide (IntKind.wrap .i64 (a + i) ≥ (↑(List.length b) : Int)) = false, 0 ≤ IntKind.wrap .i64 (a + i), b[Int.toNat (IntKind.wrap .i64 (a + i))]? = some y1, decide (i > 0) = true, decide (i > 0) = true, decide (i > 0) = true, (IntKind.wrap .u64 (↑(UInt8.toNat y1) : Int) == 0) = true, (IntKind.wrap .u64 (↑(UInt8.toNat y1) : Int) == 0) = true, (IntKind.wrap .u64 (↑(UInt8.toNat y1) : Int) == 0) = true, (IntKind.wrap .u64 (↑(UInt8.toNat y1) : Int) == 0) = true, (IntKind.wrap .u64 (↑(UInt8.toNat y1) : Int) == 0) = true, true = true]) (by kernel_rfl)
    ⟨(decide_eq_true g1), (decide_eq_false g2), g3, g4, (decide_eq_true g5), (decide_eq_true g5), (decide_eq_true g5), (beq_iff_eq.mpr g6), (beq_iff_eq.mpr g6), (beq_iff_eq.mpr g6), (beq_iff_eq.mpr g6), (beq_iff_eq.mpr g6), rfl, trivial⟩
theorem pl_3 (b : List UInt8) (t : Int) (f : Int) (a : Int) (u : Int) (p : Int) (i : Int) (y1 : UInt8) (g1 : i < 10) (g2 : ¬IntKind.wrap .i64 (a + i) ≥ (↑(List.length b) : Int)) (g3 : 0 ≤ IntKind.wrap .i64 (a + i)) (g4 : b[Int.toNat (IntKind.wrap .i64 (a + i))]? = some y1) (g5 : i > 0) (g6 : ¬IntKind.wrap .u64 (↑(UInt8.toNat y1) : Int) = 0) (g7 : i = 9) (g8 : IntKind.wrap .u64 (↑(UInt8.toNat y1) : Int) > 1) :
    lv (cv (ev X E0) xf141_l0) [true, true, false, false, false, false, false, true, true, true] 1 (St.mk (tmOf 65 [(0, AV.c (.ptr 0 0)), (1, AV.c (vi a)), (7, AV.c (.pv (.int .u64 u))), (8, AV.c (.pv (.int .u64 p))), (9, AV.c (vi i))]) [.cells [.pv (.str b), vi t, vi f]]) = some (XExit.ret, St.mk (tmOf 65 [(4, AV.c (.pv (.int .u64 0))), (5, AV.c (vi a)), (6, AV.c (vi 3))]) [.cells [.pv (.str b), vi t, vi f]]) :=
  lv_ret [.br true, .br false, .byte y1, .br true, .br true, .br true, .br false, .br false, .br false, .br true, .br true, .br false, .br true, .br false, .br true]
    (c := [decide (i < 10) = true, decide (IntKind.wrap .i64 (a + i) ≥ (↑(List.length b) : Int)) = false, 0 ≤ IntKind.wrap .i64 (a + i), b[Int.toNat (IntKind.wrap .i64 (a + i))]? = some y1, decide (i > 0) = true, decide (i > 0) = true, decide (i > 0) = true, (IntKind.wrap .u64 (↑(UInt8.toNat y1) : Int) == 0) = false, (IntKind.wrap .u64 (↑(UInt8.toNat y1) : Int) == 0) = false, (IntKind.wrap .u64 (↑(UInt8.toNat y1) : Int) == 0) = false, (i == 9) = true, (i == 9) = true, (IntKind.wrap .u64 (↑(UInt8.toNat y1) : Int) == 0) = false, (i == 9) = true, (IntKind.wrap .u64 (↑(UInt8.toNat y1) : Int) == 0) = false, decide (IntKind.wrap .u64 (↑(UInt8.toNat y1) : Int) > 1) = true]) (by kernel_rfl)
    ⟨(decide_eq_true g1), (decide_eq_false g2), g3, g4, (decide_eq_true g5), (decide_eq_true g5), (decide_eq_true g5), (beq_eq_false_iff_ne.mpr g6), (beq_eq_false_iff_ne.mpr g6), (beq_eq_false_iff_ne.mpr g6), (beq_iff_eq.mpr g7), (beq_iff_eq.mpr g7), (beq_eq_false_iff_ne.mpr g6), (beq_iff_eq.mpr g7), (beq_eq_false_iff_ne.mpr g6), (decide_eq_true g8), trivial⟩
theorem pl_4 (b : List UInt8) (t : Int) (f : Int) (a : Int) (u : Int) (p : Int) (i : Int) (y1 : UInt8) (g1 : i < 10) (g2 : ¬IntKind.wrap .i64 (a + i) ≥ (↑(List.length b) : Int)) (g3 : 0 ≤ IntKind.wrap .i64 (a + i)) (g4 : b[Int.toNat (IntKind.wrap .i64 (a + i))]? = some y1) (g5 : i > 0) (g6 : ¬IntKind.wrap .u64 (↑(UInt8.toNat y1) : Int) = 0) (g7 : i = 9) (g8 : ¬IntKind.wrap .u64 (↑(UInt8.toNat y1) : Int) > 1) (g9 : IntKind.wrap .u64 (↑(UInt8.toNat y1) : Int) < 128) :
    lv (cv (ev X E0) xf141_l0) [true, true, false, false, false, false, false, true, true, true] 1 (St.mk (tmOf 65 [(0, AV.c (.ptr 0 0)), (1, AV.c (vi a)), (7, AV.c (.pv (.int .u64 u))), (8, AV.c (.pv (.int .u64 p))), (9, AV.c (vi i))]) [.cells [.pv (.str b), vi t, vi f]]) = some (XExit.ret, St.mk (tmOf 65 [(4, AV.c (.pv (.int .u64 (IntKind.wrap .u64 (u + IntKind.wrap .u64 (Int.tmod (IntKind.wrap .u64 (↑(UInt8.toNat y1) : Int)) 128 * p)))))), (5, AV.c (vi (IntKind.wrap .i64 (IntKind.wrap .i64 (a + i) + 1)))), (6, AV.c (vi 0))]) [.cells [.pv (.str b), vi t, vi f]]) :=
  lv_ret [.br true, .br false, .byte y1, .br true, .br true, .br true, .br false, .br false, .br false, .br true, .br true, .br false, .br true, .br false, .br false, .br true]
    (c := [decide (i < 10) = true, decide (IntKind.wrap .i64 (a + i) ≥ (↑(List.length b) : Int)) = false, 0 ≤ IntKind.wrap .i64 (a + i), b[Int.toNat (IntKind.wrap .i64 (a + i))]? = some y1, decide (i > 0) = true, decide (i > 0) = true, decide (i > 0) = true, (IntKind.wrap .u64 (↑(UInt8.toNat y1) : Int) == 0) = false, (IntKind.wrap .u64 (↑(UInt8.toNat y1) : Int) == 0) = false, (IntKind.wrap .u64 (↑(UInt8.toNat y1) : Int) == 0) = false, (i == 9) = true, (i == 9) = true, (IntKind.wrap .u64 (↑(UInt8.toNat y1) : Int) == 0) = false, (i == 9) = true, (IntKind.wrap .u64 (↑(UInt8.toNat y1) : Int) == 0) = false, decide (IntKind.wrap .u64 (↑(UInt8.toNat y1) : Int) > 1) = false, (128 : Int) ≠ (0 : Int), decide (IntKind.wrap .u64 (↑(UInt8.toNat y1) : Int) < 128) = true]) (by kernel_rfl)
    ⟨(decide_eq_true g1), (decide_eq_false g2), g3, g4, (decide_eq_true g5), (decide_eq_true g5), (decide_eq_true g5), (beq_eq_false_iff_ne.mpr g6), (beq_eq_false_iff_ne.mpr g6), (beq_eq_false_iff_ne.mpr g6), (beq_iff_eq.mpr g7), (beq_iff_eq.mpr g7), (beq_eq_false_iff_ne.mpr g6), (beq_iff_eq.mpr g7), (beq_eq_false_iff_ne.mpr g6), (decide_eq_false g8), (by decide), (decide_eq_true g9), trivial⟩
theorem pl_6 (b : List UInt8) (t : Int) (f : Int) (a : Int) (u : Int) (p : Int) (i : Int) (y1 : UInt8) (g1 : i < 10) (g2 : ¬IntKind.wrap .i64 (a + i) ≥ (↑(List.length b) : Int)) (g3 : 0 ≤ IntKind.wrap .i64 (a + i)) (g4 : b[Int.toNat (IntKind.wrap .i64 (a + i))]? = some y1) (g5 : i > 0) (g6 : ¬IntKind.wrap .u64 (↑(UInt8.toNat y1) : Int) = 0) (g7 : ¬i = 9) (g8 : IntKind.wrap .u64 (↑(UInt8.toNat y1) : Int) < 128) :
    lv (cv (ev X E0) xf141_l0) [true, true, false, false, false, false, false, true, true, true] 1 (St.mk (tmOf 65 [(0, AV.c (.ptr 0 0)), (1, AV.c (vi a)), (7, AV.c (.pv (.int .u64 u))), (8, AV.c (.pv (.int .u64 p))), (9, AV.c (vi i))]) [.cells [.pv (.str b), vi t, vi f]]) = some (XExit.ret, St.mk (tmOf 65 [(4, AV.c (.pv (.int .u64 (IntKind.wrap .u64 (u + IntKind.wrap .u64 (Int.tmod (IntKind.wrap .u64 (↑(UInt8.toNat y1) : Int)) 128 * p)))))), (5, AV.c (vi (IntKind.wrap .i64 (IntKind.wrap .i64 (a + i) + 1)))), (6, AV.c (vi 0))]) [.cells [.pv (.str b), vi t, vi f]]) :=
  lv_ret [.br true, .br false, .byte y1, .br true, .br true, .br true, .br false, .br false, .br false, .br false, .br false, .br false, .br false, .br false, .br false, .br true]
    (c := [decide (i < 10) = true, decide (IntKind.wrap .i64 (a + i) ≥ (↑(List.length b) : Int)) = false, 0 ≤ IntKind.wrap .i64 (a + i), b[Int.toNat (IntKind.wrap .i64 (a + i))]? = some y1, decide (i > 0) = true, decide (i > 0) = true, decide (i > 0) = true, (IntKind.wrap .u64 (↑(UInt8.toNat y1) : Int) == 0) = false, (IntKind.wrap .u64 (↑(UInt8.toNat y1) : Int) == 0) = false, (IntKind.wrap .u64 (↑(UInt8.toNat y1) : Int) == 0) = false, (i == 9) = false, (i == 9) = false, (IntKind.wrap .u64 (↑(UInt8.toNat y1) : Int) == 0) = false, (i == 9) = false, (IntKind.wrap .u64 (↑(UInt8.toNat y1) : Int) == 0) = false, false = false, (128 : Int) ≠ (0 : Int), decide (IntKind.wrap .u64 (↑(UInt8.toNat y1) : Int) < 128) = true]) (by kernel_rfl)
    ⟨(decide_eq_true g1), (decide_eq_false g2), g3, g4, (decide_eq_true g5), (decide_eq_true g5), (decide_eq_true g5), (beq_eq_false_iff_ne.mpr g6), (beq_eq_false_iff_ne.mpr g6), (beq_eq_false_iff_ne.mpr g6), (beq_eq_false_iff_ne.mpr g7), (beq_eq_false_iff_ne.mpr g7), (beq_eq_false_iff_ne.mpr g6), (beq_eq_false_iff_ne.mpr g7), (beq_eq_false_iff_ne.mpr g6), rfl, (by decide), (decide_eq_true g8), trivial⟩
theorem pl_7 (b : List UInt8) (t : Int) (f : Int) (a : Int) (u : Int) (p : Int) (i : Int) (y1 : UInt8) (g1 : i < 10) (g2 : ¬IntKind.wrap .i64 (a + i) ≥ (↑(List.length b) : Int)) (g3 : 0 ≤ IntKind.wrap .i64 (a + i)) (g4 : b[Int.toNat (IntKind.wrap .i64 (a + i))]? = some y1) (g5 : i > 0) (g6 : ¬IntKind.wrap .u64 (↑(UInt8.toNat y1) : Int) = 0) (g7 : ¬i = 9) (g8 : ¬IntKind.wrap .u64 (↑(UInt8.toNat y1) : Int) < 128) :
    lv (cv (ev X E0) xf141_l0) [true, true, false, false, false, false, false, true, true, true] 1 (St.mk (tmOf 65 [(0, AV.c (.ptr 0 0)), (1, AV.c (vi a)), (7, AV.c (.pv (.int .u64 u))), (8, AV.c (.pv (.int .u64 p))), (9, AV.c (vi i))]) [.cells [.pv (.str b), vi t, vi f]]) = lv (cv (ev X E0) xf141_l0) [true, true, false, false, false, false, false, true, true, true] 1 (St.mk (tmOf 65 [(0, AV.c (.ptr 0 0)), (1, AV.c (vi a)), (7, AV.c (.pv (.int .u64 (IntKind.wrap .u64 (u + IntKind.wrap .u64 (Int.tmod (IntKind.wrap .u64 (↑(UInt8.toNat y1) : Int)) 128 * p)))))), (8, AV.c (.pv (.int .u64 (IntKind.wrap .u64 (p * 128))))), (9, AV.c (vi (IntKind.wrap .i64 (i + 1))))]) [.cells [.pv (.str b), vi t, vi f]]) :=
  lv_next [.br true, .br false, .byte y1, .br true, .br true, .br true, .br false, .br false, .br false, .br false, .br false, .br false, .br false, .br false, .br false, .br false]
    (c := [decide (i < 10) = true, decide (IntKind.wrap .i64 (a + i) ≥ (↑(List.length b) : Int)) = false, 0 ≤ IntKind.wrap .i64 (a + i), b[Int.toNat (IntKind.wrap .i64 (a + i))]? = some y1, decide (i > 0) = true, decide (i > 0) = true, decide (i > 0) = true, (IntKind.wrap .u64 (↑(UInt8.toNat y1) : Int) == 0) = false, (IntKind.wrap .u64 (↑(UInt8.toNat y1) : Int) == 0) = false, (IntKind.wrap .u64 (↑(UInt8.toNat y1) : Int) == 0) = false, (i == 9) = false, (i == 9) = false, (IntKind.wrap .u64 (↑(UInt8.toNat y1) : Int) == 0) = false, (i == 9) = false, (IntKind.wrap .u64 (↑(UInt8.toNat y1) : Int) == 0) = false, false = false, (128 : Int) ≠ (0 : Int), decide (IntKind.wrap .u64 (↑(UInt8.toNat y1) : Int) < 128) = false]) (by kernel_rfl)
    ⟨(decide_eq_true g1), (decide_eq_false g2), g3, g4, (decide_eq_true g5), (decide_eq_true g5), (decide_eq_true g5), (beq_eq_false_iff_ne.mpr g6), (beq_eq_false_iff_ne.mpr g6), (beq_eq_false_iff_ne.mpr g6), (beq_eq_false_iff_ne.mpr g7), (beq_eq_false_iff_ne.mpr g7), (beq_eq_false_iff_ne.mpr g6), (beq_eq_false_iff_ne.mpr g7), (beq_eq_false_iff_ne.mpr g6), rfl, (by decide), (decide_eq_false g8), trivial⟩
theorem pl_11 (b : List UInt8) (t : Int) (f : Int) (a : Int) (u : Int) (p : Int) (i : Int) (y1 : UInt8) (g1 : i < 10) (g2 : ¬IntKind.wrap .i64 (a + i) ≥ (↑(List.length b) : Int)) (g3 : 0 ≤ IntKind.wrap .i64 (a + i)) (g4 : b[Int.toNat (IntKind.wrap .i64 (a + i))]? = some y1) (g5 : ¬i > 0) (g6 : ¬i = 9) (g7 : IntKind.wrap .u64 (↑(UInt8.toNat y1) : Int) < 128) :
    lv (cv (ev X E0) xf141_l0) [true, true, false, false, false, false, false, true, true, true] 1 (St.mk (tmOf 65 [(0, AV.c (.ptr 0 0)), (1, AV.c (vi a)), (7, AV.c (.pv (.int .u64 u))), (8, AV.c (.pv (.int .u64 p))), (9, AV.c (vi i))]) [.cells [.pv (.str b), vi t, vi f]]) = some (XExit.ret, St.mk (tmOf 65 [(4, AV.c (.pv (.int .u64 (IntKind.wrap .u64 (u + IntKind.wrap .u64 (Int.tmod (IntKind.wrap .u64 (↑(UInt8.toNat y1) : Int)) 128 * p)))))), (5, AV.c (vi (IntKind.wrap .i64 (IntKind.wrap .i64 (a + i) + 1)))), (6, AV.c (vi 0))]) [.cells [.pv (.str b), vi t, vi f]]) :=
  lv_ret [.br true, .br false, .byte y1, .br false, .br false, .br false, .br false, .br false, .br false, .br false, .br false, .br false, .br false, .br false, .br false, .br true]
    (c := [decide (i < 10) = true, decide (IntKind.wrap .i64 (a + i) ≥ (↑(List.length b) : Int)) = false, 0 ≤ IntKind.wrap .i64 (a + i), b[Int.toNat (IntKind.wrap .i64 (a + i))]? = some y1, decide (i > 0) = false, decide (i > 0) = false, decide (i > 0) = false, false = false, false = false, false = false, (i == 9) = false, (i == 9) = false, false = false, (i == 9) = false, false = false, false = false, (128 : Int) ≠ (0 : Int), decide (IntKind.wrap .u64 (↑(UInt8.toNat y1) : Int) < 128) = true]) (by kernel_rfl)
    ⟨(decide_eq_true g1), (decide_eq_false g2), g3, g4, (decide_eq_false g5), (decide_eq_false g5), (decide_eq_false g5), rfl, rfl, rfl, (beq_eq_false_iff_ne.mpr g6), (beq_eq_false_iff_ne.mpr g6), rfl, (beq_eq_false_iff_ne.mpr g6), rfl, rfl, (by decide), (decide_eq_true g7), trivial⟩
theorem pl_12 (b : List UInt8) (t : Int) (f : Int) (a : Int) (u : Int) (p : Int) (i : Int) (y1 : UInt8) (g1 : i < 10) (g2 : ¬IntKind.wrap .i64 (a + i) ≥ (↑(List.length b) : Int)) (g3 : 0 ≤ IntKind.wrap .i64 (a + i)) (g4 : b[Int.toNat (IntKind.wrap .i64 (a + i))]? = some y1) (g5 : ¬i > 0) (g6 : ¬i = 9) (g7 : ¬IntKind.wrap .u64 (↑(UInt8.toNat y1) : Int) < 128) :
    lv (cv (ev X E0) xf141_l0) [true, true, false, false, false, false, false, true, true, true] 1 (St.mk (tmOf 65 [(0, AV.c (.ptr 0 0)), (1, AV.c (vi a)), (7, AV.c (.pv (.int .u64 u))), (8, AV.c (.pv (.int .u64 p))), (9, AV.c (vi i))]) [.cells [.pv (.str b), vi t, vi f]]) = lv (cv (ev X E0) xf141_l0) [true, true, false, false, false, false, false, true, true, true] 1 (St.mk (tmOf 65 [(0, AV.c (.ptr 0 0)), (1, AV.c (vi a)), (7, AV.c (.pv (.int .u64 (IntKind.wrap .u64 (u + IntKind.wrap .u64 (Int.tmod (IntKind.wrap .u64 (↑(UInt8.toNat y1) : Int)) 128 * p)))))), (8, AV.c (.pv (.int .u64 (IntKind.wrap .u64 (p * 128))))), (9, AV.c (vi (IntKind.wrap .i64 (i + 1))))]) [.cells [.pv (.str b), vi t, vi f]]) :=
  lv_next [.br true, .br false, .byte y1, .br false, .br false, .br false, .br false, .br false, .br false, .br false, .br false, .br false, .br false, .br false, .br false, .br false]
    (c := [decide (i < 10) = true, decide (IntKind.wrap .i64 (a + i) ≥ (↑(List.length b) : Int)) = false, 0 ≤ IntKind.wrap .i64 (a + i), b[Int.toNat (IntKind.wrap .i64 (a + i))]? = some y1, decide (i > 0) = false, decide (i > 0) = false, decide (i > 0) = false, false = false, false = false, false = false, (i == 9) = false, (i == 9) = false, false = false, (i == 9) = false, false = false, false = false, (128 : Int) ≠ (0 : Int), decide (IntKind.wrap .u64 (↑(UInt8.toNat y1) : Int) < 128) = false]) (by kernel_rfl)
    ⟨(decide_eq_true g1), (decide_eq_false g2), g3, g4, (decide_eq_false g5), (decide_eq_false g5), (decide_eq_false g5), rfl, rfl, rfl, (beq_eq_false_iff_ne.mpr g6), (beq_eq_false_iff_ne.mpr g6), rfl, (beq_eq_false_iff_ne.mpr g6), rfl, rfl, (by decide), (decide_eq_false g7), trivial⟩
abbrev S54 (b : List UInt8) (t f a u p i : Int) : St := St.mk (tmOf 65 [(0, AV.c (CV.ptr 0 0)), (1, AV.c (CV.pv (PV.int IntKind.i64 a))), (7, AV.c (CV.pv (PV.int IntKind.u64 u))), (8, AV.c (CV.pv (PV.int IntKind.u64 p))), (9, AV.c (CV.pv (PV.int IntKind.i64 i)))]) [Box.cells [CV.pv (PV.str b), CV.pv (PV.int IntKind.i64 t), CV.pv (PV.int IntKind.i64 f)]]
/-- A number at a place: its value, the place behind it, the fault. -/
def prt (a : Nat) (q : Nat × Nat × Int) : Nat × Nat × Int := if q.2.2 ≠ 0 then (0, a, q.2.2) else (q.1, a + q.2.1, 0)
abbrev T54 (b : List UInt8) (t f : Int) (q : Nat × Nat × Int) : St := St.mk (tmOf 65 [(4, AV.c (CV.pv (PV.int .u64 (q.1 : Int)))), (5, AV.c (CV.pv (PV.int .i64 (q.2.1 : Int)))), (6, AV.c (CV.pv (PV.int .i64 q.2.2)))]) [Box.cells [CV.pv (PV.str b), CV.pv (PV.int .i64 t), CV.pv (PV.int .i64 f)]]
theorem tm128 (c : Nat) (h : c < 256) : Int.tmod (IntKind.wrap .u64 (c : Int)) 128 = ((c % 128 : Nat) : Int) := by
  rw [wu64_nat (by omega), Int.tmod_eq_emod_of_nonneg (by omega)]; omega
theorem mul_p {i u c : Nat} (hs : u + c % 128 * 128 ^ i < 18446744073709551616) :
    IntKind.wrap .u64 ((u : Int) + IntKind.wrap .u64 (((c % 128 : Nat) : Int) * ((128 ^ i : Nat) : Int))) = ((u + c % 128 * 128 ^ i : Nat) : Int) := by
  rw [← Int.natCast_mul, wu64_nat (n := c % 128 * 128 ^ i) (by omega), ← Int.natCast_add, wu64_nat hs]
theorem pl_all (b : List UInt8) (t f : Int) (A : Nat) (hb : b.length ≤ 1000000) (hA : A ≤ b.length) : ∀ (r pre : List UInt8) (u : Nat), b.drop A = pre ++ r → pre.length ≤ 9 → u < 128 ^ pre.length →
    lv (cv (ev X E0) xf141_l0) [true, true, false, false, false, false, false, true, true, true] 1 (S54 b t f A u ((128 ^ pre.length : Nat) : Int) pre.length) = some (.ret, T54 b t f (prt A (vr r pre.length u)))
  | [], pre, u, h, hi, hu => by
    have hl : b.length - A = pre.length := by rw [← List.length_drop, h]; simp
    have hw : IntKind.wrap .i64 ((A : Int) + (pre.length : Int)) = ((A + pre.length : Nat) : Int) := by rw [wi64 (by omega) (by omega)]; omega
    exact pl_1 b t f A u _ pre.length (by omega) (by rw [hw]; omega)
  | c :: r, pre, u, h, hi, hu => by
    have hc := c.toNat_lt
    have hl : b.length - A = pre.length + r.length + 1 := by rw [← List.length_drop, h]; simp; omega
    have hw : IntKind.wrap .i64 ((A : Int) + (pre.length : Int)) = ((A + pre.length : Nat) : Int) := by rw [wi64 (by omega) (by omega)]; omega
    have hat : b[Int.toNat (IntKind.wrap .i64 ((A : Int) + (pre.length : Int)))]? = some c := by
      rw [hw, Int.toNat_natCast, ← List.getElem?_drop, h]; simp
    have hcw : IntKind.wrap .u64 (↑(UInt8.toNat c) : Int) = (c.toNat : Int) := wu64_nat (by omega)
    have g2 : ¬ IntKind.wrap .i64 ((A : Int) + (pre.length : Int)) ≥ (b.length : Int) := by rw [hw]; omega
    have g3 : 0 ≤ IntKind.wrap .i64 ((A : Int) + (pre.length : Int)) := by rw [hw]; omega
    simp only [vr]
    by_cases h0 : 0 < pre.length ∧ c.toNat = 0
    · rw [if_pos (Or.inr h0)]
      exact pl_2 b t f A u _ pre.length c (by omega) g2 g3 hat (by omega) (by rw [hcw]; omega)
    · by_cases h9 : pre.length = 9
      · by_cases h1 : 1 < c.toNat
        · rw [if_pos (Or.inl ⟨h9, h1⟩)]
          exact pl_3 b t f A u _ pre.length c (by omega) g2 g3 hat (by omega) (by rw [hcw]; omega) (by omega) (by rw [hcw]; omega)
        · rw [if_neg (by omega), if_pos (by omega)]
          have hs := sum_lt (c := c.toNat % 128) hi hu (by omega) (by omega)
          have := pl_4 b t f A u ((128 ^ pre.length : Nat) : Int) pre.length c (by omega) g2 g3 hat (by omega) (by rw [hcw]; omega) (by omega) (by rw [hcw]; omega) (by rw [hcw]; omega)
          rw [tm128 _ hc, mul_p hs, hw, wi64 (by omega) (by omega)] at this
          rw [Nat.mod_eq_of_lt (by omega)] at this
          rw [show prt A (u + c.toNat * 128 ^ pre.length, pre.length + 1, 0) = (u + c.toNat * 128 ^ pre.length, A + (pre.length + 1), 0) from rfl, this]
          rfl
      · rw [if_neg (by omega)]
        have hs := sum_lt (c := c.toNat % 128) hi hu (by omega) (by omega)
        by_cases h128 : c.toNat < 128
        · rw [if_pos h128]
          rw [show prt A (u + c.toNat * 128 ^ pre.length, pre.length + 1, 0) = (u + c.toNat * 128 ^ pre.length, A + (pre.length + 1), 0) from rfl]
          by_cases hp : 0 < pre.length
          · have := pl_6 b t f A u ((128 ^ pre.length : Nat) : Int) pre.length c (by omega) g2 g3 hat (by omega) (by rw [hcw]; omega) (by omega) (by rw [hcw]; omega)
            rw [tm128 _ hc, mul_p hs, hw, wi64 (by omega) (by omega)] at this
            rw [Nat.mod_eq_of_lt (by omega)] at this
            rw [this]; rfl
          · have := pl_11 b t f A u ((128 ^ pre.length : Nat) : Int) pre.length c (by omega) g2 g3 hat (by omega) (by omega) (by rw [hcw]; omega)
            rw [tm128 _ hc, mul_p hs, hw, wi64 (by omega) (by omega)] at this
            rw [Nat.mod_eq_of_lt (by omega)] at this
            rw [this]; rfl
        · rw [if_neg h128]
          have hp8 := pow8 (i := pre.length) (by omega)
          have hpw : IntKind.wrap .u64 (((128 ^ pre.length : Nat) : Int) * 128) = ((128 ^ (pre.length + 1) : Nat) : Int) := by
            rw [show ((128 ^ pre.length : Nat) : Int) * 128 = ((128 ^ pre.length * 128 : Nat) : Int) by rw [Int.natCast_mul]; rfl, wu64_nat (by omega), Nat.pow_succ]
          have stp : lv (cv (ev X E0) xf141_l0) [true, true, false, false, false, false, false, true, true, true] 1 (S54 b t f A u ((128 ^ pre.length : Nat) : Int) pre.length) =
              lv (cv (ev X E0) xf141_l0) [true, true, false, false, false, false, false, true, true, true] 1 (S54 b t f A ((u + c.toNat % 128 * 128 ^ pre.length : Nat) : Int) ((128 ^ (pre.length + 1) : Nat) : Int) ((pre.length : Int) + 1)) := by
            by_cases hp : 0 < pre.length
            · have := pl_7 b t f A u ((128 ^ pre.length : Nat) : Int) pre.length c (by omega) g2 g3 hat (by omega) (by rw [hcw]; omega) (by omega) (by rw [hcw]; omega)
              rw [tm128 _ hc, mul_p hs, hpw, wi64 (n := (pre.length : Int) + 1) (by omega) (by omega)] at this
              exact this
            · have := pl_12 b t f A u ((128 ^ pre.length : Nat) : Int) pre.length c (by omega) g2 g3 hat (by omega) (by omega) (by rw [hcw]; omega)
              rw [tm128 _ hc, mul_p hs, hpw, wi64 (n := (pre.length : Int) + 1) (by omega) (by omega)] at this
              exact this
          rw [stp]
          have := pl_all b t f A hb hA r (pre ++ [c]) (u + c.toNat % 128 * 128 ^ pre.length) (by rw [h]; simp) (by simp; omega) (by rw [List.length_append]; exact pow_step hu)
          rw [List.length_append, List.length_singleton] at this
          exact this
theorem pl0 (b : List UInt8) (t f : Int) (A : Nat) (hb : b.length ≤ 1000000) (hA : A ≤ b.length) :
    lv (cv (ev X E0) xf141_l0) [true, true, false, false, false, false, false, true, true, true] 1 (S54 b t f A 0 1 0) = some (.ret, T54 b t f (prt A (vr (b.drop A) 0 0))) := pl_all b t f A hb hA (b.drop A) [] 0 rfl (by simp) (by simp)
theorem pa_1 (b : List UInt8) (t : Int) (f : Int) (A : Nat) (g1 : List.length b ≤ 1000000) (g2 : A ≤ List.length b) :
    cc (ev X E0) 141 [AV.c (.ptr 0 0), AV.c (vi (↑A : Int))] [.cells [.pv (.str b), vi t, vi f]] = some (AV.tup [AV.c (.pv (.int .u64 (↑(Prod.fst (prt A (vr (List.drop A b) 0 0))) : Int))), AV.c (vi (↑(Prod.fst (Prod.snd (prt A (vr (List.drop A b) 0 0)))) : Int)), AV.c (vi (Prod.snd (Prod.snd (prt A (vr (List.drop A b) 0 0)))))], [.cells [.pv (.str b), vi t, vi f]]) :=
  cc_path (x := xf141) rfl [.loop XExit.ret (St.mk (tmOf 65 [(4, AV.c (.pv (.int .u64 (↑(Prod.fst (prt A (vr (List.drop A b) 0 0))) : Int)))), (5, AV.c (vi (↑(Prod.fst (Prod.snd (prt A (vr (List.drop A b) 0 0)))) : Int))), (6, AV.c (vi (Prod.snd (Prod.snd (prt A (vr (List.drop A b) 0 0))))))]) [.cells [.pv (.str b), vi t, vi f]])]
    (c := [lv (cv (ev X E0) xf141_l0) (rl [0, 0, 5, 0, 0]) 1 (St.mk (tmOf 65 [(0, AV.c (.ptr 0 0)), (1, AV.c (vi (↑A : Int))), (7, AV.c (.pv (.int .u64 0))), (8, AV.c (.pv (.int .u64 1))), (9, AV.c (vi 0))]) [.cells [.pv (.str b), vi t, vi f]]) = some (XExit.ret, St.mk (tmOf 65 [(4, AV.c (.pv (.int .u64 (↑(Prod.fst (prt A (vr (List.drop A b) 0 0))) : Int)))), (5, AV.c (vi (↑(Prod.fst (Prod.snd (prt A (vr (List.drop A b) 0 0)))) : Int))), (6, AV.c (vi (Prod.snd (Prod.snd (prt A (vr (List.drop A b) 0 0))))))]) [.cells [.pv (.str b), vi t, vi f]])]) (by kernel_rfl)
    ⟨(pl0 _ _ _ _ g1 g2), trivial⟩
theorem ss_1 (u : Int) (g1 : Int.tmod u 2 = 0) :
    cc (ev X E0) 142 [AV.c (.pv (.int .u64 u))] [] = some (AV.c (vi (IntKind.wrap .i64 (IntKind.wrap .u64 (Int.tdiv u 2)))), []) :=
  cc_path (x := xf142) rfl [.br true]
    (c := [(2 : Int) ≠ (0 : Int), (Int.tmod u 2 == 0) = true, (2 : Int) ≠ (0 : Int)]) (by kernel_rfl)
    ⟨(by decide), (beq_iff_eq.mpr g1), (by decide), trivial⟩
theorem ss_2 (u : Int) (g1 : ¬Int.tmod u 2 = 0) :
    cc (ev X E0) 142 [AV.c (.pv (.int .u64 u))] [] = some (AV.c (vi (IntKind.wrap .i64 (IntKind.wrap .i64 (0 - IntKind.wrap .i64 (IntKind.wrap .u64 (Int.tdiv u 2))) - 1))), []) :=
  cc_path (x := xf142) rfl [.br false]
    (c := [(2 : Int) ≠ (0 : Int), (Int.tmod u 2 == 0) = false, (2 : Int) ≠ (0 : Int)]) (by kernel_rfl)
    ⟨(by decide), (beq_eq_false_iff_ne.mpr g1), (by decide), trivial⟩
theorem part_ok (b : List UInt8) (t f : Int) (A : Nat) (hb : b.length ≤ 1000000) (hA : A ≤ b.length) (h : vE (b.drop A) = 0) : cc (ev X E0) 141 [AV.c (.ptr 0 0), AV.i (A : Int)] [Box.cells [.pv (.str b), .pv (.int .i64 t), .pv (.int .i64 f)]] =
    some (.tup [.c (.pv (.int .u64 (vU (b.drop A)))), .c (.pv (.int .i64 ((A + vN (b.drop A) : Nat) : Int))), .c (.pv (.int .i64 0))], [Box.cells [.pv (.str b), .pv (.int .i64 t), .pv (.int .i64 f)]]) := by
  have := pa_1 b t f A hb hA
  unfold prt at this
  rw [if_neg (by simpa [vE] using h)] at this
  exact this
theorem part_no (b : List UInt8) (t f : Int) (A : Nat) (hb : b.length ≤ 1000000) (hA : A ≤ b.length) (h : ¬ vE (b.drop A) = 0) : cc (ev X E0) 141 [AV.c (.ptr 0 0), AV.i (A : Int)] [Box.cells [.pv (.str b), .pv (.int .i64 t), .pv (.int .i64 f)]] =
    some (.tup [.c (.pv (.int .u64 0)), .c (.pv (.int .i64 (A : Int))), .c (.pv (.int .i64 (vE (b.drop A))))], [Box.cells [.pv (.str b), .pv (.int .i64 t), .pv (.int .i64 f)]]) := by
  have := pa_1 b t f A hb hA
  unfold prt at this
  rw [if_pos (by simpa [vE] using h)] at this
  exact this
theorem ref_signed (u : Int) (h0 : 0 ≤ u) (h1 : u < 18446744073709551616) : cc (ev X E0) 142 [AV.int .u64 u] [] = some (AV.c (CV.pv (.int .i64 (sgn u.toNat))), []) := by
  obtain ⟨n, rfl⟩ := Int.eq_ofNat_of_zero_le h0
  have hm : Int.tmod (n : Int) 2 = ((n % 2 : Nat) : Int) := by rw [Int.tmod_eq_emod_of_nonneg (by omega)]; omega
  have hd : IntKind.wrap .u64 (Int.tdiv (n : Int) 2) = ((n / 2 : Nat) : Int) := by rw [Int.tdiv_eq_ediv_of_nonneg (by omega), wu64]; omega
  simp only [Int.toNat_natCast, sgn]
  by_cases h : n % 2 = 0
  · have := ss_1 (n : Int) (by rw [hm]; omega)
    rw [hd, wi64 (by omega) (by omega)] at this
    rw [if_pos h]; exact this
  · have := ss_2 (n : Int) (by rw [hm]; omega)
    rw [hd, wi64 (n := ((n / 2 : Nat) : Int)) (by omega) (by omega), wi64 (n := 0 - ((n / 2 : Nat) : Int)) (by omega) (by omega), wi64 (by omega) (by omega)] at this
    rw [if_neg h, show -((n / 2 : Nat) : Int) - 1 = 0 - ((n / 2 : Nat) : Int) - 1 by omega]; exact this
theorem sV_1 (b : List UInt8) (A : Nat) (f : Int) (g1 : ¬f = 0) :
    cc (ev X E0) 111 [AV.c (.ptr 0 0)] [.cells [.pv (.str b), vi (↑A : Int), vi f]] = some (AV.c (.pv (.int .u64 0)), [.cells [.pv (.str b), vi (↑A : Int), vi f]]) :=
  cc_path (x := xf111) rfl [.br true]
    (c := [(f != 0) = true]) (by kernel_rfl)
    ⟨(bne_iff_ne.mpr g1), trivial⟩
theorem sV_2 (b : List UInt8) (A : Nat) (f : Int) (g1 : f = 0) (g2 : List.length b ≤ 1000000) (g3 : A ≤ List.length b) (g4 : vE (List.drop A b) = 0) :
    cc (ev X E0) 111 [AV.c (.ptr 0 0)] [.cells [.pv (.str b), vi (↑A : Int), vi f]] = some (AV.c (.pv (.int .u64 (↑(vU (List.drop A b)) : Int))), [.cells [.pv (.str b), vi (↑(A + vN (List.drop A b)) : Int), vi 0]]) :=
  cc_path (x := xf111) rfl [.br false, .call (AV.tup [AV.c (.pv (.int .u64 (↑(vU (List.drop A b)) : Int))), AV.c (vi (↑(A + vN (List.drop A b)) : Int)), AV.c (vi 0)]) [.cells [.pv (.str b), vi (↑A : Int), vi f]]]
    (c := [(f != 0) = false, cc (ev X E0) 141 [AV.c (.ptr 0 0), AV.c (vi (↑A : Int))] [.cells [.pv (.str b), vi (↑A : Int), vi f]] = some (AV.tup [AV.c (.pv (.int .u64 (↑(vU (List.drop A b)) : Int))), AV.c (vi (↑(A + vN (List.drop A b)) : Int)), AV.c (vi 0)], [.cells [.pv (.str b), vi (↑A : Int), vi f]])]) (by kernel_rfl)
    ⟨(bne_f g1), (part_ok _ _ _ _ g2 g3 g4), trivial⟩
theorem sV_3 (b : List UInt8) (A : Nat) (f : Int) (g1 : f = 0) (g2 : List.length b ≤ 1000000) (g3 : A ≤ List.length b) (g4 : ¬vE (List.drop A b) = 0) :
    cc (ev X E0) 111 [AV.c (.ptr 0 0)] [.cells [.pv (.str b), vi (↑A : Int), vi f]] = some (AV.c (.pv (.int .u64 0)), [.cells [.pv (.str b), vi (↑A : Int), vi (vE (List.drop A b))]]) :=
  cc_path (x := xf111) rfl [.br false, .call (AV.tup [AV.c (.pv (.int .u64 0)), AV.c (vi (↑A : Int)), AV.c (vi (vE (List.drop A b)))]) [.cells [.pv (.str b), vi (↑A : Int), vi f]]]
    (c := [(f != 0) = false, cc (ev X E0) 141 [AV.c (.ptr 0 0), AV.c (vi (↑A : Int))] [.cells [.pv (.str b), vi (↑A : Int), vi f]] = some (AV.tup [AV.c (.pv (.int .u64 0)), AV.c (vi (↑A : Int)), AV.c (vi (vE (List.drop A b)))], [.cells [.pv (.str b), vi (↑A : Int), vi f]])]) (by kernel_rfl)
    ⟨(bne_f g1), (part_no _ _ _ _ g2 g3 g4), trivial⟩
theorem sC_1 (b : List UInt8) (A : Nat) (f : Int) (m : Int) (g1 : ¬f = 0) :
    cc (ev X E0) 115 [AV.c (.ptr 0 0), AV.c (vi m)] [.cells [.pv (.str b), vi (↑A : Int), vi f]] = some (AV.c (vi 0), [.cells [.pv (.str b), vi (↑A : Int), vi f]]) :=
  cc_path (x := xf115) rfl [.br true]
    (c := [(f != 0) = true]) (by kernel_rfl)
    ⟨(bne_iff_ne.mpr g1), trivial⟩
theorem sC_2 (b : List UInt8) (A : Nat) (f : Int) (m : Int) (g1 : f = 0) (g2 : List.length b ≤ 1000000) (g3 : A ≤ List.length b) (g4 : vE (List.drop A b) = 0) (g5 : m < 0) :
    cc (ev X E0) 115 [AV.c (.ptr 0 0), AV.c (vi m)] [.cells [.pv (.str b), vi (↑A : Int), vi f]] = some (AV.c (vi 0), [.cells [.pv (.str b), vi (↑A : Int), vi 4]]) :=
  cc_path (x := xf115) rfl [.br false, .call (AV.tup [AV.c (.pv (.int .u64 (↑(vU (List.drop A b)) : Int))), AV.c (vi (↑(A + vN (List.drop A b)) : Int)), AV.c (vi 0)]) [.cells [.pv (.str b), vi (↑A : Int), vi f]], .br true, .br true, .br true, .br true, .br true, .br true, .br true, .br true, .br true, .br true, .br true, .br true]
    (c := [(f != 0) = false, cc (ev X E0) 141 [AV.c (.ptr 0 0), AV.c (vi (↑A : Int))] [.cells [.pv (.str b), vi (↑A : Int), vi f]] = some (AV.tup [AV.c (.pv (.int .u64 (↑(vU (List.drop A b)) : Int))), AV.c (vi (↑(A + vN (List.drop A b)) : Int)), AV.c (vi 0)], [.cells [.pv (.str b), vi (↑A : Int), vi f]]), true = true, true = true, true = true, decide (m < 0) = true, decide (m < 0) = true, decide (m < 0) = true, decide (m < 0) = true, true = true, decide (m < 0) = true, true = true, true = true, true = true]) (by kernel_rfl)
    ⟨(bne_f g1), (part_ok _ _ _ _ g2 g3 g4), rfl, rfl, rfl, (decide_eq_true g5), (decide_eq_true g5), (decide_eq_true g5), (decide_eq_true g5), rfl, (decide_eq_true g5), rfl, rfl, rfl, trivial⟩
theorem sC_3 (b : List UInt8) (A : Nat) (f : Int) (m : Int) (g1 : f = 0) (g2 : List.length b ≤ 1000000) (g3 : A ≤ List.length b) (g4 : vE (List.drop A b) = 0) (g5 : ¬m < 0) (g6 : (↑(vU (List.drop A b)) : Int) > IntKind.wrap .u64 m) :
    cc (ev X E0) 115 [AV.c (.ptr 0 0), AV.c (vi m)] [.cells [.pv (.str b), vi (↑A : Int), vi f]] = some (AV.c (vi 0), [.cells [.pv (.str b), vi (↑A : Int), vi 4]]) :=
  cc_path (x := xf115) rfl [.br false, .call (AV.tup [AV.c (.pv (.int .u64 (↑(vU (List.drop A b)) : Int))), AV.c (vi (↑(A + vN (List.drop A b)) : Int)), AV.c (vi 0)]) [.cells [.pv (.str b), vi (↑A : Int), vi f]], .br true, .br true, .br true, .br false, .br false, .br false, .br false, .br true, .br false, .br true, .br true, .br true]
    (c := [(f != 0) = false, cc (ev X E0) 141 [AV.c (.ptr 0 0), AV.c (vi (↑A : Int))] [.cells [.pv (.str b), vi (↑A : Int), vi f]] = some (AV.tup [AV.c (.pv (.int .u64 (↑(vU (List.drop A b)) : Int))), AV.c (vi (↑(A + vN (List.drop A b)) : Int)), AV.c (vi 0)], [.cells [.pv (.str b), vi (↑A : Int), vi f]]), true = true, true = true, true = true, decide (m < 0) = false, decide (m < 0) = false, decide (m < 0) = false, decide (m < 0) = false, true = true, decide (m < 0) = false, true = true, decide ((↑(vU (List.drop A b)) : Int) > IntKind.wrap .u64 m) = true, true = true]) (by kernel_rfl)
    ⟨(bne_f g1), (part_ok _ _ _ _ g2 g3 g4), rfl, rfl, rfl, (decide_eq_false g5), (decide_eq_false g5), (decide_eq_false g5), (decide_eq_false g5), rfl, (decide_eq_false g5), rfl, (decide_eq_true g6), rfl, trivial⟩
theorem sC_4 (b : List UInt8) (A : Nat) (f : Int) (m : Int) (g1 : f = 0) (g2 : List.length b ≤ 1000000) (g3 : A ≤ List.length b) (g4 : vE (List.drop A b) = 0) (g5 : ¬m < 0) (g6 : ¬(↑(vU (List.drop A b)) : Int) > IntKind.wrap .u64 m) :
    cc (ev X E0) 115 [AV.c (.ptr 0 0), AV.c (vi m)] [.cells [.pv (.str b), vi (↑A : Int), vi f]] = some (AV.c (vi (IntKind.wrap .i64 (↑(vU (List.drop A b)) : Int))), [.cells [.pv (.str b), vi (↑(A + vN (List.drop A b)) : Int), vi f]]) :=
  cc_path (x := xf115) rfl [.br false, .call (AV.tup [AV.c (.pv (.int .u64 (↑(vU (List.drop A b)) : Int))), AV.c (vi (↑(A + vN (List.drop A b)) : Int)), AV.c (vi 0)]) [.cells [.pv (.str b), vi (↑A : Int), vi f]], .br true, .br true, .br true, .br false, .br false, .br false, .br false, .br true, .br false, .br true, .br false, .br false]
    (c := [(f != 0) = false, cc (ev X E0) 141 [AV.c (.ptr 0 0), AV.c (vi (↑A : Int))] [.cells [.pv (.str b), vi (↑A : Int), vi f]] = some (AV.tup [AV.c (.pv (.int .u64 (↑(vU (List.drop A b)) : Int))), AV.c (vi (↑(A + vN (List.drop A b)) : Int)), AV.c (vi 0)], [.cells [.pv (.str b), vi (↑A : Int), vi f]]), true = true, true = true, true = true, decide (m < 0) = false, decide (m < 0) = false, decide (m < 0) = false, decide (m < 0) = false, true = true, decide (m < 0) = false, true = true, decide ((↑(vU (List.drop A b)) : Int) > IntKind.wrap .u64 m) = false, false = false]) (by kernel_rfl)
    ⟨(bne_f g1), (part_ok _ _ _ _ g2 g3 g4), rfl, rfl, rfl, (decide_eq_false g5), (decide_eq_false g5), (decide_eq_false g5), (decide_eq_false g5), rfl, (decide_eq_false g5), rfl, (decide_eq_false g6), rfl, trivial⟩
theorem sC_5 (b : List UInt8) (A : Nat) (f : Int) (m : Int) (g1 : f = 0) (g2 : List.length b ≤ 1000000) (g3 : A ≤ List.length b) (g4 : ¬vE (List.drop A b) = 0) :
    cc (ev X E0) 115 [AV.c (.ptr 0 0), AV.c (vi m)] [.cells [.pv (.str b), vi (↑A : Int), vi f]] = some (AV.c (vi 0), [.cells [.pv (.str b), vi (↑A : Int), vi (vE (List.drop A b))]]) :=
  cc_path (x := xf115) rfl [.br false, .call (AV.tup [AV.c (.pv (.int .u64 0)), AV.c (vi (↑A : Int)), AV.c (vi (vE (List.drop A b)))]) [.cells [.pv (.str b), vi (↑A : Int), vi f]], .br false, .br false, .br false, .br false, .br false, .br false, .br true]
    (c := [(f != 0) = false, cc (ev X E0) 141 [AV.c (.ptr 0 0), AV.c (vi (↑A : Int))] [.cells [.pv (.str b), vi (↑A : Int), vi f]] = some (AV.tup [AV.c (.pv (.int .u64 0)), AV.c (vi (↑A : Int)), AV.c (vi (vE (List.drop A b)))], [.cells [.pv (.str b), vi (↑A : Int), vi f]]), (vE (List.drop A b) == 0) = false, (vE (List.drop A b) == 0) = false, (vE (List.drop A b) == 0) = false, (vE (List.drop A b) == 0) = false, (vE (List.drop A b) == 0) = false, false = false, (vE (List.drop A b) != 0) = true]) (by kernel_rfl)
    ⟨(bne_f g1), (part_no _ _ _ _ g2 g3 g4), (beq_eq_false_iff_ne.mpr g4), (beq_eq_false_iff_ne.mpr g4), (beq_eq_false_iff_ne.mpr g4), (beq_eq_false_iff_ne.mpr g4), (beq_eq_false_iff_ne.mpr g4), rfl, (bne_iff_ne.mpr g4), trivial⟩
theorem sE_1 (b : List UInt8) (A : Nat) (f : Int) (g1 : f = 0) (g2 : (↑A : Int) < (↑(List.length b) : Int)) :
    cc (ev X E0) 117 [AV.c (.ptr 0 0)] [.cells [.pv (.str b), vi (↑A : Int), vi f]] = some (AV.c (vi 3), [.cells [.pv (.str b), vi (↑A : Int), vi f]]) :=
  cc_path (x := xf117) rfl [.br true, .br true, .br true, .br true, .br true, .br true, .br true, .br true, .br true, .br true, .br true, .br true]
    (c := [(f == 0) = true, (f == 0) = true, (f == 0) = true, (f == 0) = true, (f == 0) = true, (f == 0) = true, (f == 0) = true, (f == 0) = true, (f == 0) = true, (f == 0) = true, (f == 0) = true, decide ((↑A : Int) < (↑(List.length b) : Int)) = true]) (by kernel_rfl)
    ⟨(beq_iff_eq.mpr g1), (beq_iff_eq.mpr g1), (beq_iff_eq.mpr g1), (beq_iff_eq.mpr g1), (beq_iff_eq.mpr g1), (beq_iff_eq.mpr g1), (beq_iff_eq.mpr g1), (beq_iff_eq.mpr g1), (beq_iff_eq.mpr g1), (beq_iff_eq.mpr g1), (beq_iff_eq.mpr g1), (decide_eq_true g2), trivial⟩
theorem sE_2 (b : List UInt8) (A : Nat) (f : Int) (g1 : f = 0) (g2 : ¬(↑A : Int) < (↑(List.length b) : Int)) :
    cc (ev X E0) 117 [AV.c (.ptr 0 0)] [.cells [.pv (.str b), vi (↑A : Int), vi f]] = some (AV.c (vi f), [.cells [.pv (.str b), vi (↑A : Int), vi f]]) :=
  cc_path (x := xf117) rfl [.br true, .br true, .br true, .br true, .br true, .br true, .br true, .br true, .br true, .br true, .br true, .br false]
    (c := [(f == 0) = true, (f == 0) = true, (f == 0) = true, (f == 0) = true, (f == 0) = true, (f == 0) = true, (f == 0) = true, (f == 0) = true, (f == 0) = true, (f == 0) = true, (f == 0) = true, decide ((↑A : Int) < (↑(List.length b) : Int)) = false]) (by kernel_rfl)
    ⟨(beq_iff_eq.mpr g1), (beq_iff_eq.mpr g1), (beq_iff_eq.mpr g1), (beq_iff_eq.mpr g1), (beq_iff_eq.mpr g1), (beq_iff_eq.mpr g1), (beq_iff_eq.mpr g1), (beq_iff_eq.mpr g1), (beq_iff_eq.mpr g1), (beq_iff_eq.mpr g1), (beq_iff_eq.mpr g1), (decide_eq_false g2), trivial⟩
theorem sE_3 (b : List UInt8) (A : Nat) (f : Int) (g1 : ¬f = 0) :
    cc (ev X E0) 117 [AV.c (.ptr 0 0)] [.cells [.pv (.str b), vi (↑A : Int), vi f]] = some (AV.c (vi f), [.cells [.pv (.str b), vi (↑A : Int), vi f]]) :=
  cc_path (x := xf117) rfl [.br false, .br false, .br false, .br false, .br false, .br false, .br false, .br false, .br false, .br false, .br false, .br false]
    (c := [(f == 0) = false, (f == 0) = false, (f == 0) = false, (f == 0) = false, (f == 0) = false, (f == 0) = false, (f == 0) = false, (f == 0) = false, (f == 0) = false, (f == 0) = false, (f == 0) = false, false = false]) (by kernel_rfl)
    ⟨(beq_eq_false_iff_ne.mpr g1), (beq_eq_false_iff_ne.mpr g1), (beq_eq_false_iff_ne.mpr g1), (beq_eq_false_iff_ne.mpr g1), (beq_eq_false_iff_ne.mpr g1), (beq_eq_false_iff_ne.mpr g1), (beq_eq_false_iff_ne.mpr g1), (beq_eq_false_iff_ne.mpr g1), (beq_eq_false_iff_ne.mpr g1), (beq_eq_false_iff_ne.mpr g1), (beq_eq_false_iff_ne.mpr g1), rfl, trivial⟩
/-- The place behind a reading. -/
def stepA {α : Type} (q : List UInt8 → Got α) (b : List UInt8) (A : Nat) (f : Int) : Nat := if f ≠ 0 then A else if (q (b.drop A)).e ≠ 0 then A else A + (q (b.drop A)).n
theorem stepA_f {α : Type} {q : List UInt8 → Got α} {b : List UInt8} {A : Nat} {f : Int} (h : ¬ f = 0) : stepA q b A f = A := by simp [stepA, h]
theorem stepA_e {α : Type} {q : List UInt8 → Got α} {b : List UInt8} {A : Nat} (h : ¬ (q (b.drop A)).e = 0) : stepA q b A 0 = A := by simp [stepA, h]
theorem stepA_ok {α : Type} {q : List UInt8 → Got α} {b : List UInt8} {A : Nat} (h : (q (b.drop A)).e = 0) : stepA q b A 0 = A + (q (b.drop A)).n := by simp [stepA, h]
theorem step_drop {α : Type} {z : α} {q : List UInt8 → Got α} {b : List UInt8} {A : Nat} {f : Int} : (step z q (b.drop A) f).2.1 = b.drop (stepA q b A f) := by
  by_cases hf : f = 0
  · subst hf
    by_cases he : (q (b.drop A)).e = 0
    · rw [step_ok he, stepA_ok he, List.drop_drop]
    · rw [step_e he, stepA_e he]
  · rw [step_f hf, stepA_f hf]
theorem stepA_le {α : Type} {q : List UInt8 → Got α} (hq : ∀ b, (q b).e = 0 → (q b).n ≤ b.length) {b : List UInt8} {A : Nat} {f : Int} (hA : A ≤ b.length) : stepA q b A f ≤ b.length := by
  by_cases hf : f = 0
  · subst hf
    by_cases he : (q (b.drop A)).e = 0
    · have := hq _ he
      rw [List.length_drop] at this
      rw [stepA_ok he]; omega
    · rw [stepA_e he]; exact hA
  · rw [stepA_f hf]; exact hA
theorem sVS (b : List UInt8) (A : Nat) (f : Int) (hb : b.length ≤ 1000000) (hA : A ≤ b.length) : cc (ev X E0) 111 [AV.c (.ptr 0 0)] [Box.cells [.pv (.str b), .pv (.int .i64 (A : Int)), .pv (.int .i64 f)]] =
    some (AV.c (CV.pv (.int .u64 (step 0 qV (b.drop A) f).1)), [Box.cells [.pv (.str b), .pv (.int .i64 (stepA qV b A f)), .pv (.int .i64 (step 0 qV (b.drop A) f).2.2)]]) := by
  by_cases hf : f = 0
  · subst hf
    by_cases he : vE (b.drop A) = 0
    · rw [step_ok (q := qV) he, stepA_ok (q := qV) he]; exact sV_2 b A 0 rfl hb hA he
    · rw [step_e (q := qV) he, stepA_e (q := qV) he]; exact sV_3 b A 0 rfl hb hA he
  · rw [step_f hf, stepA_f hf]; exact sV_1 b A f hf
theorem sCS (b : List UInt8) (A : Nat) (f m : Int) (hb : b.length ≤ 1000000) (hA : A ≤ b.length) (hm : m ≤ 9223372036854775807) : cc (ev X E0) 115 [AV.c (.ptr 0 0), AV.i m] [Box.cells [.pv (.str b), .pv (.int .i64 (A : Int)), .pv (.int .i64 f)]] =
    some (AV.c (CV.pv (.int .i64 (step 0 (qC m) (b.drop A) f).1)), [Box.cells [.pv (.str b), .pv (.int .i64 (stepA (qC m) b A f)), .pv (.int .i64 (step 0 (qC m) (b.drop A) f).2.2)]]) := by
  by_cases hf : f = 0
  · subst hf
    by_cases he : vE (b.drop A) = 0
    · by_cases hl : m < (vU (b.drop A) : Int)
      · have hq : qC m (b.drop A) = ⟨0, 0, 4⟩ := by unfold qC; rw [if_neg (by simp [he]), if_pos hl]
        rw [step_e (by rw [hq]; decide), stepA_e (by rw [hq]; decide), hq]
        by_cases hm0 : m < 0
        · exact sC_2 b A 0 m rfl hb hA he hm0
        · exact sC_3 b A 0 m rfl hb hA he hm0 (by rw [wu64]; omega)
      · have hq : qC m (b.drop A) = ⟨vU (b.drop A), vN (b.drop A), 0⟩ := by unfold qC; rw [if_neg (by simp [he]), if_neg hl]
        rw [step_ok (by rw [hq]), stepA_ok (by rw [hq]), hq]
        have := sC_4 b A 0 m rfl hb hA he (by omega) (by rw [wu64]; omega)
        rw [wi64 (n := (vU (b.drop A) : Int)) (by omega) (by omega)] at this
        exact this
    · have hq : qC m (b.drop A) = ⟨0, 0, vE (b.drop A)⟩ := by unfold qC; rw [if_pos he]
      rw [step_e (by rw [hq]; exact he), stepA_e (by rw [hq]; exact he), hq]
      exact sC_5 b A 0 m rfl hb hA he
  · rw [step_f hf, stepA_f hf]; exact sC_1 b A f m hf
theorem sZ_1 (b : List UInt8) (A : Nat) (f : Int) (g1 : List.length b ≤ 1000000) (g2 : A ≤ List.length b) (g3 : 0 ≤ (↑(Prod.fst (step 0 qV (List.drop A b) f)) : Int)) (g4 : (↑(Prod.fst (step 0 qV (List.drop A b) f)) : Int) < 18446744073709551616) :
    cc (ev X E0) 113 [AV.c (.ptr 0 0)] [.cells [.pv (.str b), vi (↑A : Int), vi f]] = some (AV.c (vi (sgn (Prod.fst (step 0 qV (List.drop A b) f)))), [.cells [.pv (.str b), vi (↑(stepA qV b A f) : Int), vi (Prod.snd (Prod.snd (step 0 qV (List.drop A b) f)))]]) :=
  cc_path (x := xf113) rfl [.call (AV.c (.pv (.int .u64 (↑(Prod.fst (step 0 qV (List.drop A b) f)) : Int)))) [.cells [.pv (.str b), vi (↑(stepA qV b A f) : Int), vi (Prod.snd (Prod.snd (step 0 qV (List.drop A b) f)))]], .call (AV.c (vi (sgn (Prod.fst (step 0 qV (List.drop A b) f))))) []]
    (c := [cc (ev X E0) 111 [AV.c (.ptr 0 0)] [.cells [.pv (.str b), vi (↑A : Int), vi f]] = some (AV.c (.pv (.int .u64 (↑(Prod.fst (step 0 qV (List.drop A b) f)) : Int))), [.cells [.pv (.str b), vi (↑(stepA qV b A f) : Int), vi (Prod.snd (Prod.snd (step 0 qV (List.drop A b) f)))]]), cc (ev X E0) 142 [AV.c (.pv (.int .u64 (↑(Prod.fst (step 0 qV (List.drop A b) f)) : Int)))] [] = some (AV.c (vi (sgn (Prod.fst (step 0 qV (List.drop A b) f)))), [])]) (by kernel_rfl)
    ⟨(sVS _ _ _ g1 g2), (ref_signed _ g3 g4), trivial⟩
theorem sT_1 (b : List UInt8) (A : Nat) (f : Int) (m : Int) (g1 : List.length b ≤ 1000000) (g2 : A ≤ List.length b) (g3 : m ≤ 9223372036854775807) (g4 : ¬Prod.snd (Prod.snd (step 0 (qC m) (List.drop A b) f)) = 0) :
    cc (ev X E0) 114 [AV.c (.ptr 0 0), AV.c (vi m)] [.cells [.pv (.str b), vi (↑A : Int), vi f]] = some (AV.c (.pv (.str [])), [.cells [.pv (.str b), vi (↑(stepA (qC m) b A f) : Int), vi (Prod.snd (Prod.snd (step 0 (qC m) (List.drop A b) f)))]]) :=
  cc_path (x := xf114) rfl [.call (AV.c (vi (↑(Prod.fst (step 0 (qC m) (List.drop A b) f)) : Int))) [.cells [.pv (.str b), vi (↑(stepA (qC m) b A f) : Int), vi (Prod.snd (Prod.snd (step 0 (qC m) (List.drop A b) f)))]], .br true]
    (c := [cc (ev X E0) 115 [AV.c (.ptr 0 0), AV.c (vi m)] [.cells [.pv (.str b), vi (↑A : Int), vi f]] = some (AV.c (vi (↑(Prod.fst (step 0 (qC m) (List.drop A b) f)) : Int)), [.cells [.pv (.str b), vi (↑(stepA (qC m) b A f) : Int), vi (Prod.snd (Prod.snd (step 0 (qC m) (List.drop A b) f)))]]), (Prod.snd (Prod.snd (step 0 (qC m) (List.drop A b) f)) != 0) = true]) (by kernel_rfl)
    ⟨(sCS _ _ _ _ g1 g2 g3), (bne_iff_ne.mpr g4), trivial⟩
theorem sT_2 (b : List UInt8) (A : Nat) (f : Int) (m : Int) (g1 : List.length b ≤ 1000000) (g2 : A ≤ List.length b) (g3 : m ≤ 9223372036854775807) (g4 : Prod.snd (Prod.snd (step 0 (qC m) (List.drop A b) f)) = 0) (g5 : (↑(Prod.fst (step 0 (qC m) (List.drop A b) f)) : Int) > IntKind.wrap .i64 ((↑(List.length b) : Int) - (↑(stepA (qC m) b A f) : Int))) :
    cc (ev X E0) 114 [AV.c (.ptr 0 0), AV.c (vi m)] [.cells [.pv (.str b), vi (↑A : Int), vi f]] = some (AV.c (.pv (.str [])), [.cells [.pv (.str b), vi (↑A : Int), vi 2]]) :=
  cc_path (x := xf114) rfl [.call (AV.c (vi (↑(Prod.fst (step 0 (qC m) (List.drop A b) f)) : Int))) [.cells [.pv (.str b), vi (↑(stepA (qC m) b A f) : Int), vi (Prod.snd (Prod.snd (step 0 (qC m) (List.drop A b) f)))]], .br false, .br true]
    (c := [cc (ev X E0) 115 [AV.c (.ptr 0 0), AV.c (vi m)] [.cells [.pv (.str b), vi (↑A : Int), vi f]] = some (AV.c (vi (↑(Prod.fst (step 0 (qC m) (List.drop A b) f)) : Int)), [.cells [.pv (.str b), vi (↑(stepA (qC m) b A f) : Int), vi (Prod.snd (Prod.snd (step 0 (qC m) (List.drop A b) f)))]]), (Prod.snd (Prod.snd (step 0 (qC m) (List.drop A b) f)) != 0) = false, decide ((↑(Prod.fst (step 0 (qC m) (List.drop A b) f)) : Int) > IntKind.wrap .i64 ((↑(List.length b) : Int) - (↑(stepA (qC m) b A f) : Int))) = true]) (by kernel_rfl)
    ⟨(sCS _ _ _ _ g1 g2 g3), (bne_f g4), (decide_eq_true g5), trivial⟩
theorem sT_3 (b : List UInt8) (A : Nat) (f : Int) (m : Int) (g1 : List.length b ≤ 1000000) (g2 : A ≤ List.length b) (g3 : m ≤ 9223372036854775807) (g4 : Prod.snd (Prod.snd (step 0 (qC m) (List.drop A b) f)) = 0) (g5 : ¬(↑(Prod.fst (step 0 (qC m) (List.drop A b) f)) : Int) > IntKind.wrap .i64 ((↑(List.length b) : Int) - (↑(stepA (qC m) b A f) : Int))) (g6 : (↑(stepA (qC m) b A f) : Int) ≤ IntKind.wrap .i64 ((↑(stepA (qC m) b A f) : Int) + (↑(Prod.fst (step 0 (qC m) (List.drop A b) f)) : Int))) (g7 : IntKind.wrap .i64 ((↑(stepA (qC m) b A f) : Int) + (↑(Prod.fst (step 0 (qC m) (List.drop A b) f)) : Int)) ≤ (↑(List.length b) : Int)) :
    cc (ev X E0) 114 [AV.c (.ptr 0 0), AV.c (vi m)] [.cells [.pv (.str b), vi (↑A : Int), vi f]] = some (AV.c (.pv (.str (List.take (Int.toNat (IntKind.wrap .i64 ((↑(stepA (qC m) b A f) : Int) + (↑(Prod.fst (step 0 (qC m) (List.drop A b) f)) : Int))) - stepA (qC m) b A f) (List.drop (stepA (qC m) b A f) b)))), [.cells [.pv (.str b), vi (IntKind.wrap .i64 ((↑(stepA (qC m) b A f) : Int) + (↑(Prod.fst (step 0 (qC m) (List.drop A b) f)) : Int))), vi (Prod.snd (Prod.snd (step 0 (qC m) (List.drop A b) f)))]]) :=
  cc_path (x := xf114) rfl [.call (AV.c (vi (↑(Prod.fst (step 0 (qC m) (List.drop A b) f)) : Int))) [.cells [.pv (.str b), vi (↑(stepA (qC m) b A f) : Int), vi (Prod.snd (Prod.snd (step 0 (qC m) (List.drop A b) f)))]], .br false, .br false]
    (c := [cc (ev X E0) 115 [AV.c (.ptr 0 0), AV.c (vi m)] [.cells [.pv (.str b), vi (↑A : Int), vi f]] = some (AV.c (vi (↑(Prod.fst (step 0 (qC m) (List.drop A b) f)) : Int)), [.cells [.pv (.str b), vi (↑(stepA (qC m) b A f) : Int), vi (Prod.snd (Prod.snd (step 0 (qC m) (List.drop A b) f)))]]), (Prod.snd (Prod.snd (step 0 (qC m) (List.drop A b) f)) != 0) = false, decide ((↑(Prod.fst (step 0 (qC m) (List.drop A b) f)) : Int) > IntKind.wrap .i64 ((↑(List.length b) : Int) - (↑(stepA (qC m) b A f) : Int))) = false, 0 ≤ (↑(stepA (qC m) b A f) : Int), (↑(stepA (qC m) b A f) : Int) ≤ IntKind.wrap .i64 ((↑(stepA (qC m) b A f) : Int) + (↑(Prod.fst (step 0 (qC m) (List.drop A b) f)) : Int)), IntKind.wrap .i64 ((↑(stepA (qC m) b A f) : Int) + (↑(Prod.fst (step 0 (qC m) (List.drop A b) f)) : Int)) ≤ (↑(List.length b) : Int)]) (by kernel_rfl)
    ⟨(sCS _ _ _ _ g1 g2 g3), (bne_f g4), (decide_eq_false g5), (Int.natCast_nonneg _), g6, g7, trivial⟩
end Go.Sx.Tryd
