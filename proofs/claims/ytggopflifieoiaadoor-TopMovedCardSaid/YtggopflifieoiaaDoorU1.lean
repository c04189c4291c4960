/- Dates: paths. -/
import Derived.Test.YtggopflifieoiaaDoorK1
import Derived.Test.YtggopflifieoiaaDoorSxLem
namespace Go.Sx.Tryd
open Go Go.Sx
theorem ug104_1 (y : Int) (g1 : Int.tmod y 4 = 0) (g2 : ¬Int.tmod y 100 = 0) :
    cc (ev X E0) 104 [AV.c (vi y)] [] = some (AV.c (.pv (.bool true)), []) :=
  cc_path (x := xf104) rfl [.br true, .br true, .br true, .br true, .br true, .br true, .br true, .br true, .br true, .br true]
    (c := [(4 : Int) ≠ (0 : Int), (Int.tmod y 4 == 0) = true, (Int.tmod y 4 == 0) = true, (100 : Int) ≠ (0 : Int), (Int.tmod y 4 == 0) = true, (Int.tmod y 4 == 0) = true, (Int.tmod y 100 != 0) = true, (Int.tmod y 100 != 0) = true, (Int.tmod y 100 != 0) = true, (Int.tmod y 4 == 0) = true, (Int.tmod y 100 != 0) = true, (Int.tmod y 4 == 0) = true]) (by kernel_rfl)
    ⟨(by decide), (beq_iff_eq.mpr g1), (beq_iff_eq.mpr g1), (by decide), (beq_iff_eq.mpr g1), (beq_iff_eq.mpr g1), (bne_iff_ne.mpr g2), (bne_iff_ne.mpr g2), (bne_iff_ne.mpr g2), (beq_iff_eq.mpr g1), (bne_iff_ne.mpr g2), (beq_iff_eq.mpr g1), trivial⟩
theorem ug104_2 (y : Int) (g1 : Int.tmod y 4 = 0) (g2 : Int.tmod y 100 = 0) :
    cc (ev X E0) 104 [AV.c (vi y)] [] = some (AV.c (.pv (.bool (Int.tmod y 400 == 0))), []) :=
  cc_path (x := xf104) rfl [.br true, .br true, .br true, .br true, .br false, .br false, .br false, .br true, .br false, .br true]
    (c := [(4 : Int) ≠ (0 : Int), (Int.tmod y 4 == 0) = true, (Int.tmod y 4 == 0) = true, (100 : Int) ≠ (0 : Int), (Int.tmod y 4 == 0) = true, (Int.tmod y 4 == 0) = true, (Int.tmod y 100 != 0) = false, (Int.tmod y 100 != 0) = false, (400 : Int) ≠ (0 : Int), (Int.tmod y 100 != 0) = false, (Int.tmod y 4 == 0) = true, (Int.tmod y 100 != 0) = false, (Int.tmod y 4 == 0) = true]) (by kernel_rfl)
    ⟨(by decide), (beq_iff_eq.mpr g1), (beq_iff_eq.mpr g1), (by decide), (beq_iff_eq.mpr g1), (beq_iff_eq.mpr g1), (bne_f g2), (bne_f g2), (by decide), (bne_f g2), (beq_iff_eq.mpr g1), (bne_f g2), (beq_iff_eq.mpr g1), trivial⟩
theorem ug104_3 (y : Int) (g1 : ¬Int.tmod y 4 = 0) :
    cc (ev X E0) 104 [AV.c (vi y)] [] = some (AV.c (.pv (.bool false)), []) :=
  cc_path (x := xf104) rfl [.br false, .br false, .br false, .br false, .br false, .br false]
    (c := [(4 : Int) ≠ (0 : Int), (Int.tmod y 4 == 0) = false, (Int.tmod y 4 == 0) = false, (Int.tmod y 4 == 0) = false, (Int.tmod y 4 == 0) = false, (Int.tmod y 4 == 0) = false, (Int.tmod y 4 == 0) = false]) (by kernel_rfl)
    ⟨(by decide), (beq_eq_false_iff_ne.mpr g1), (beq_eq_false_iff_ne.mpr g1), (beq_eq_false_iff_ne.mpr g1), (beq_eq_false_iff_ne.mpr g1), (beq_eq_false_iff_ne.mpr g1), (beq_eq_false_iff_ne.mpr g1), trivial⟩
theorem ug60_1 (y : Int) (m : Int) (b : Bool) (h : cc (ev X E0) 104 [AV.i y] [] = some (AV.b b, [])) (g1 : m = 2) (g2 : b = true) :
    cc (ev X E0) 60 [AV.c (vi y), AV.c (vi m)] [] = some (AV.c (vi 29), []) :=
  cc_path (x := xf60) rfl [.br true, .call (AV.c (.pv (.bool b))) [], .br true]
    (c := [(m == 2) = true, cc (ev X E0) 104 [AV.c (vi y)] [] = some (AV.c (.pv (.bool b)), []), b = true]) (by kernel_rfl)
    ⟨(beq_iff_eq.mpr g1), (h), g2, trivial⟩
theorem ug60_2 (y : Int) (m : Int) (b : Bool) (h : cc (ev X E0) 104 [AV.i y] [] = some (AV.b b, [])) (g1 : m = 2) (g2 : b = false) :
    cc (ev X E0) 60 [AV.c (vi y), AV.c (vi m)] [] = some (AV.c (vi 28), []) :=
  cc_path (x := xf60) rfl [.br true, .call (AV.c (.pv (.bool b))) [], .br false]
    (c := [(m == 2) = true, cc (ev X E0) 104 [AV.c (vi y)] [] = some (AV.c (.pv (.bool b)), []), b = false]) (by kernel_rfl)
    ⟨(beq_iff_eq.mpr g1), (h), g2, trivial⟩
theorem ug60_3 (y : Int) (m : Int) (b : Bool) (h : cc (ev X E0) 104 [AV.i y] [] = some (AV.b b, [])) (g1 : ¬m = 2) (g2 : m = 4) :
    cc (ev X E0) 60 [AV.c (vi y), AV.c (vi m)] [] = some (AV.c (vi 30), []) :=
  cc_path (x := xf60) rfl [.br false, .br true, .br true]
    (c := [(m == 2) = false, (m == 4) = true, (m == 4) = true]) (by kernel_rfl)
    ⟨(beq_eq_false_iff_ne.mpr g1), (beq_iff_eq.mpr g2), (beq_iff_eq.mpr g2), trivial⟩
theorem ug60_4 (y : Int) (m : Int) (b : Bool) (h : cc (ev X E0) 104 [AV.i y] [] = some (AV.b b, [])) (g1 : ¬m = 2) (g2 : ¬m = 4) (g3 : m = 6) :
    cc (ev X E0) 60 [AV.c (vi y), AV.c (vi m)] [] = some (AV.c (vi 30), []) :=
  cc_path (x := xf60) rfl [.br false, .br false, .br true, .br true]
    (c := [(m == 2) = false, (m == 4) = false, (m == 6) = true, (m == 6) = true]) (by kernel_rfl)
    ⟨(beq_eq_false_iff_ne.mpr g1), (beq_eq_false_iff_ne.mpr g2), (beq_iff_eq.mpr g3), (beq_iff_eq.mpr g3), trivial⟩
theorem ug60_5 (y : Int) (m : Int) (b : Bool) (h : cc (ev X E0) 104 [AV.i y] [] = some (AV.b b, [])) (g1 : ¬m = 2) (g2 : ¬m = 4) (g3 : ¬m = 6) (g4 : m = 9) :
    cc (ev X E0) 60 [AV.c (vi y), AV.c (vi m)] [] = some (AV.c (vi 30), []) :=
  cc_path (x := xf60) rfl [.br false, .br false, .br false, .br true, .br true]
    (c := [(m == 2) = false, (m == 4) = false, (m == 6) = false, (m == 9) = true, (m == 9) = true]) (by kernel_rfl)
    ⟨(beq_eq_false_iff_ne.mpr g1), (beq_eq_false_iff_ne.mpr g2), (beq_eq_false_iff_ne.mpr g3), (beq_iff_eq.mpr g4), (beq_iff_eq.mpr g4), trivial⟩
theorem ug60_6 (y : Int) (m : Int) (b : Bool) (h : cc (ev X E0) 104 [AV.i y] [] = some (AV.b b, [])) (g1 : ¬m = 2) (g2 : ¬m = 4) (g3 : ¬m = 6) (g4 : ¬m = 9) (g5 : m = 11) :
    cc (ev X E0) 60 [AV.c (vi y), AV.c (vi m)] [] = some (AV.c (vi 30), []) :=
  cc_path (x := xf60) rfl [.br false, .br false, .br false, .br false, .br true]
    (c := [(m == 2) = false, (m == 4) = false, (m == 6) = false, (m == 9) = false, (m == 11) = true]) (by kernel_rfl)
    ⟨(beq_eq_false_iff_ne.mpr g1), (beq_eq_false_iff_ne.mpr g2), (beq_eq_false_iff_ne.mpr g3), (beq_eq_false_iff_ne.mpr g4), (beq_iff_eq.mpr g5), trivial⟩
theorem ug60_7 (y : Int) (m : Int) (b : Bool) (h : cc (ev X E0) 104 [AV.i y] [] = some (AV.b b, [])) (g1 : ¬m = 2) (g2 : ¬m = 4) (g3 : ¬m = 6) (g4 : ¬m = 9) (g5 : ¬m = 11) :
    cc (ev X E0) 60 [AV.c (vi y), AV.c (vi m)] [] = some (AV.c (vi 31), []) :=
  cc_path (x := xf60) rfl [.br false, .br false, .br false, .br false, .br false]
    (c := [(m == 2) = false, (m == 4) = false, (m == 6) = false, (m == 9) = false, (m == 11) = false]) (by kernel_rfl)
    ⟨(beq_eq_false_iff_ne.mpr g1), (beq_eq_false_iff_ne.mpr g2), (beq_eq_false_iff_ne.mpr g3), (beq_eq_false_iff_ne.mpr g4), (beq_eq_false_iff_ne.mpr g5), trivial⟩
theorem ug103m1_1 (y : Int) (d : Int) :
    cc (ev X E0) 103 [AV.c (vi y), AV.c (vi 1), AV.c (vi d)] [] = some (AV.c (vi (IntKind.wrap .i64 (IntKind.wrap .i64 (IntKind.wrap .i64 (IntKind.wrap .i64 (IntKind.wrap .i64 (IntKind.wrap .i64 (IntKind.wrap .i64 (IntKind.wrap .i64 (y - 1) * 365) + IntKind.wrap .i64 (Int.tdiv (IntKind.wrap .i64 (y - 1)) 4)) - IntKind.wrap .i64 (Int.tdiv (IntKind.wrap .i64 (y - 1)) 100)) + IntKind.wrap .i64 (Int.tdiv (IntKind.wrap .i64 (y - 1)) 400)) + 306) + d) - 1))), []) :=
  cc_path (x := xf103) rfl [.br true]
    (c := [true = true, (4 : Int) ≠ (0 : Int), (100 : Int) ≠ (0 : Int), (400 : Int) ≠ (0 : Int), (0 : Int) ≤ (10 : Int), (10 : Int) < (12 : Int)]) (by kernel_rfl)
    ⟨rfl, (by decide), (by decide), (by decide), (by decide), (by decide), trivial⟩
theorem ug103m2_1 (y : Int) (d : Int) :
    cc (ev X E0) 103 [AV.c (vi y), AV.c (vi 2), AV.c (vi d)] [] = some (AV.c (vi (IntKind.wrap .i64 (IntKind.wrap .i64 (IntKind.wrap .i64 (IntKind.wrap .i64 (IntKind.wrap .i64 (IntKind.wrap .i64 (IntKind.wrap .i64 (IntKind.wrap .i64 (y - 1) * 365) + IntKind.wrap .i64 (Int.tdiv (IntKind.wrap .i64 (y - 1)) 4)) - IntKind.wrap .i64 (Int.tdiv (IntKind.wrap .i64 (y - 1)) 100)) + IntKind.wrap .i64 (Int.tdiv (IntKind.wrap .i64 (y - 1)) 400)) + 337) + d) - 1))), []) :=
  cc_path (x := xf103) rfl [.br true]
    (c := [true = true, (4 : Int) ≠ (0 : Int), (100 : Int) ≠ (0 : Int), (400 : Int) ≠ (0 : Int), (0 : Int) ≤ (11 : Int), (11 : Int) < (12 : Int)]) (by kernel_rfl)
    ⟨rfl, (by decide), (by decide), (by decide), (by decide), (by decide), trivial⟩
theorem ug103m3_1 (y : Int) (d : Int) :
    cc (ev X E0) 103 [AV.c (vi y), AV.c (vi 3), AV.c (vi d)] [] = some (AV.c (vi (IntKind.wrap .i64 (IntKind.wrap .i64 (IntKind.wrap .i64 (IntKind.wrap .i64 (IntKind.wrap .i64 (IntKind.wrap .i64 (IntKind.wrap .i64 (y * 365) + IntKind.wrap .i64 (Int.tdiv y 4)) - IntKind.wrap .i64 (Int.tdiv y 100)) + IntKind.wrap .i64 (Int.tdiv y 400)) + 0) + d) - 1))), []) :=
  cc_path (x := xf103) rfl [.br false]
    (c := [false = false, (4 : Int) ≠ (0 : Int), (100 : Int) ≠ (0 : Int), (400 : Int) ≠ (0 : Int), (0 : Int) ≤ (0 : Int), (0 : Int) < (12 : Int)]) (by kernel_rfl)
    ⟨rfl, (by decide), (by decide), (by decide), (Int.le_refl _), (by decide), trivial⟩
theorem ug103m4_1 (y : Int) (d : Int) :
    cc (ev X E0) 103 [AV.c (vi y), AV.c (vi 4), AV.c (vi d)] [] = some (AV.c (vi (IntKind.wrap .i64 (IntKind.wrap .i64 (IntKind.wrap .i64 (IntKind.wrap .i64 (IntKind.wrap .i64 (IntKind.wrap .i64 (IntKind.wrap .i64 (y * 365) + IntKind.wrap .i64 (Int.tdiv y 4)) - IntKind.wrap .i64 (Int.tdiv y 100)) + IntKind.wrap .i64 (Int.tdiv y 400)) + 31) + d) - 1))), []) :=
  cc_path (x := xf103) rfl [.br false]
    (c := [false = false, (4 : Int) ≠ (0 : Int), (100 : Int) ≠ (0 : Int), (400 : Int) ≠ (0 : Int), (0 : Int) ≤ (1 : Int), (1 : Int) < (12 : Int)]) (by kernel_rfl)
    ⟨rfl, (by decide), (by decide), (by decide), (by decide), (by decide), trivial⟩
theorem ug103m5_1 (y : Int) (d : Int) :
    cc (ev X E0) 103 [AV.c (vi y), AV.c (vi 5), AV.c (vi d)] [] = some (AV.c (vi (IntKind.wrap .i64 (IntKind.wrap .i64 (IntKind.wrap .i64 (IntKind.wrap .i64 (IntKind.wrap .i64 (IntKind.wrap .i64 (IntKind.wrap .i64 (y * 365) + IntKind.wrap .i64 (Int.tdiv y 4)) - IntKind.wrap .i64 (Int.tdiv y 100)) + IntKind.wrap .i64 (Int.tdiv y 400)) + 61) + d) - 1))), []) :=
  cc_path (x := xf103) rfl [.br false]
    (c := [false = false, (4 : Int) ≠ (0 : Int), (100 : Int) ≠ (0 : Int), (400 : Int) ≠ (0 : Int), (0 : Int) ≤ (2 : Int), (2 : Int) < (12 : Int)]) (by kernel_rfl)
    ⟨rfl, (by decide), (by decide), (by decide), (by decide), (by decide), trivial⟩
theorem ug103m6_1 (y : Int) (d : Int) :
    cc (ev X E0) 103 [AV.c (vi y), AV.c (vi 6), AV.c (vi d)] [] = some (AV.c (vi (IntKind.wrap .i64 (IntKind.wrap .i64 (IntKind.wrap .i64 (IntKind.wrap .i64 (IntKind.wrap .i64 (IntKind.wrap .i64 (IntKind.wrap .i64 (y * 365) + IntKind.wrap .i64 (Int.tdiv y 4)) - IntKind.wrap .i64 (Int.tdiv y 100)) + IntKind.wrap .i64 (Int.tdiv y 400)) + 92) + d) - 1))), []) :=
  cc_path (x := xf103) rfl [.br false]
    (c := [false = false, (4 : Int) ≠ (0 : Int), (100 : Int) ≠ (0 : Int), (400 : Int) ≠ (0 : Int), (0 : Int) ≤ (3 : Int), (3 : Int) < (12 : Int)]) (by kernel_rfl)
    ⟨rfl, (by decide), (by decide), (by decide), (by decide), (by decide), trivial⟩
theorem ug103m7_1 (y : Int) (d : Int) :
    cc (ev X E0) 103 [AV.c (vi y), AV.c (vi 7), AV.c (vi d)] [] = some (AV.c (vi (IntKind.wrap .i64 (IntKind.wrap .i64 (IntKind.wrap .i64 (IntKind.wrap .i64 (IntKind.wrap .i64 (IntKind.wrap .i64 (IntKind.wrap .i64 (y * 365) + IntKind.wrap .i64 (Int.tdiv y 4)) - IntKind.wrap .i64 (Int.tdiv y 100)) + IntKind.wrap .i64 (Int.tdiv y 400)) + 122) + d) - 1))), []) :=
  cc_path (x := xf103) rfl [.br false]
    (c := [false = false, (4 : Int) ≠ (0 : Int), (100 : Int) ≠ (0 : Int), (400 : Int) ≠ (0 : Int), (0 : Int) ≤ (4 : Int), (4 : Int) < (12 : Int)]) (by kernel_rfl)
    ⟨rfl, (by decide), (by decide), (by decide), (by decide), (by decide), trivial⟩
theorem ug103m8_1 (y : Int) (d : Int) :
    cc (ev X E0) 103 [AV.c (vi y), AV.c (vi 8), AV.c (vi d)] [] = some (AV.c (vi (IntKind.wrap .i64 (IntKind.wrap .i64 (IntKind.wrap .i64 (IntKind.wrap .i64 (IntKind.wrap .i64 (IntKind.wrap .i64 (IntKind.wrap .i64 (y * 365) + IntKind.wrap .i64 (Int.tdiv y 4)) - IntKind.wrap .i64 (Int.tdiv y 100)) + IntKind.wrap .i64 (Int.tdiv y 400)) + 153) + d) - 1))), []) :=
  cc_path (x := xf103) rfl [.br false]
    (c := [false = false, (4 : Int) ≠ (0 : Int), (100 : Int) ≠ (0 : Int), (400 : Int) ≠ (0 : Int), (0 : Int) ≤ (5 : Int), (5 : Int) < (12 : Int)]) (by kernel_rfl)
    ⟨rfl, (by decide), (by decide), (by decide), (by decide), (by decide), trivial⟩
theorem ug103m9_1 (y : Int) (d : Int) :
    cc (ev X E0) 103 [AV.c (vi y), AV.c (vi 9), AV.c (vi d)] [] = some (AV.c (vi (IntKind.wrap .i64 (IntKind.wrap .i64 (IntKind.wrap .i64 (IntKind.wrap .i64 (IntKind.wrap .i64 (IntKind.wrap .i64 (IntKind.wrap .i64 (y * 365) + IntKind.wrap .i64 (Int.tdiv y 4)) - IntKind.wrap .i64 (Int.tdiv y 100)) + IntKind.wrap .i64 (Int.tdiv y 400)) + 184) + d) - 1))), []) :=
  cc_path (x := xf103) rfl [.br false]
    (c := [false = false, (4 : Int) ≠ (0 : Int), (100 : Int) ≠ (0 : Int), (400 : Int) ≠ (0 : Int), (0 : Int) ≤ (6 : Int), (6 : Int) < (12 : Int)]) (by kernel_rfl)
    ⟨rfl, (by decide), (by decide), (by decide), (by decide), (by decide), trivial⟩
theorem ug103m10_1 (y : Int) (d : Int) :
    cc (ev X E0) 103 [AV.c (vi y), AV.c (vi 10), AV.c (vi d)] [] = some (AV.c (vi (IntKind.wrap .i64 (IntKind.wrap .i64 (IntKind.wrap .i64 (IntKind.wrap .i64 (IntKind.wrap .i64 (IntKind.wrap .i64 (IntKind.wrap .i64 (y * 365) + IntKind.wrap .i64 (Int.tdiv y 4)) - IntKind.wrap .i64 (Int.tdiv y 100)) + IntKind.wrap .i64 (Int.tdiv y 400)) + 214) + d) - 1))), []) :=
  cc_path (x := xf103) rfl [.br false]
    (c := [false = false, (4 : Int) ≠ (0 : Int), (100 : Int) ≠ (0 : Int), (400 : Int) ≠ (0 : Int), (0 : Int) ≤ (7 : Int), (7 : Int) < (12 : Int)]) (by kernel_rfl)
    ⟨rfl, (by decide), (by decide), (by decide), (by decide), (by decide), trivial⟩
theorem ug103m11_1 (y : Int) (d : Int) :
    cc (ev X E0) 103 [AV.c (vi y), AV.c (vi 11), AV.c (vi d)] [] = some (AV.c (vi (IntKind.wrap .i64 (IntKind.wrap .i64 (IntKind.wrap .i64 (IntKind.wrap .i64 (IntKind.wrap .i64 (IntKind.wrap .i64 (IntKind.wrap .i64 (y * 365) + IntKind.wrap .i64 (Int.tdiv y 4)) - IntKind.wrap .i64 (Int.tdiv y 100)) + IntKind.wrap .i64 (Int.tdiv y 400)) + 245) + d) - 1))), []) :=
  cc_path (x := xf103) rfl [.br false]
    (c := [false = false, (4 : Int) ≠ (0 : Int), (100 : Int) ≠ (0 : Int), (400 : Int) ≠ (0 : Int), (0 : Int) ≤ (8 : Int), (8 : Int) < (12 : Int)]) (by kernel_rfl)
    ⟨rfl, (by decide), (by decide), (by decide), (by decide), (by decide), trivial⟩
theorem ug103m12_1 (y : Int) (d : Int) :
    cc (ev X E0) 103 [AV.c (vi y), AV.c (vi 12), AV.c (vi d)] [] = some (AV.c (vi (IntKind.wrap .i64 (IntKind.wrap .i64 (IntKind.wrap .i64 (IntKind.wrap .i64 (IntKind.wrap .i64 (IntKind.wrap .i64 (IntKind.wrap .i64 (y * 365) + IntKind.wrap .i64 (Int.tdiv y 4)) - IntKind.wrap .i64 (Int.tdiv y 100)) + IntKind.wrap .i64 (Int.tdiv y 400)) + 275) + d) - 1))), []) :=
  cc_path (x := xf103) rfl [.br false]
    (c := [false = false, (4 : Int) ≠ (0 : Int), (100 : Int) ≠ (0 : Int), (400 : Int) ≠ (0 : Int), (0 : Int) ≤ (9 : Int), (9 : Int) < (12 : Int)]) (by kernel_rfl)
    ⟨rfl, (by decide), (by decide), (by decide), (by decide), (by decide), trivial⟩
theorem ug59_1 (y : Int) (m : Int) (d : Int) (n : Int) (l : Int) (h60 : cc (ev X E0) 60 [AV.i y, AV.i m] [] = some (AV.i l, [])) (h103 : 1 ≤ m → m ≤ 12 → cc (ev X E0) 103 [AV.i y, AV.i m, AV.i d] [] = some (AV.i n, [])) (g1 : y < 1) :
    cc (ev X E0) 59 [AV.c (vi y), AV.c (vi m), AV.c (vi d)] [] = some (AV.tup [AV.c (vw 0), AV.c (vi 11)], []) :=
  cc_path (x := xf59) rfl [.br true, .br true, .br true, .br true, .br true, .br true, .br true, .br true, .br true, .br true, .br true, .br true, .br true, .br true, .br true, .br true, .br true, .br true, .br true]
    (c := [decide (y < 1) = true, decide (y < 1) = true, decide (y < 1) = true, true = true, true = true, true = true, true = true, true = true, true = true, true = true, true = true, true = true, true = true, true = true, true = true, true = true, true = true, true = true, true = true]) (by kernel_rfl)
    ⟨(decide_eq_true g1), (decide_eq_true g1), (decide_eq_true g1), rfl, rfl, rfl, rfl, rfl, rfl, rfl, rfl, rfl, rfl, rfl, rfl, rfl, rfl, rfl, rfl, trivial⟩
theorem ug59_2 (y : Int) (m : Int) (d : Int) (n : Int) (l : Int) (h60 : cc (ev X E0) 60 [AV.i y, AV.i m] [] = some (AV.i l, [])) (h103 : 1 ≤ m → m ≤ 12 → cc (ev X E0) 103 [AV.i y, AV.i m, AV.i d] [] = some (AV.i n, [])) (g1 : ¬y < 1) (g2 : y ≥ 10000) :
    cc (ev X E0) 59 [AV.c (vi y), AV.c (vi m), AV.c (vi d)] [] = some (AV.tup [AV.c (vw 0), AV.c (vi 11)], []) :=
  cc_path (x := xf59) rfl [.br false, .br false, .br false, .br true, .br true, .br true, .br true, .br true, .br true, .br true, .br true, .br true, .br true, .br true, .br true, .br true, .br true, .br true, .br true]
    (c := [decide (y < 1) = false, decide (y < 1) = false, decide (y < 1) = false, decide (y ≥ 10000) = true, decide (y ≥ 10000) = true, decide (y ≥ 10000) = true, true = true, true = true, true = true, true = true, true = true, true = true, true = true, true = true, true = true, true = true, true = true, true = true, true = true]) (by kernel_rfl)
    ⟨(decide_eq_false g1), (decide_eq_false g1), (decide_eq_false g1), (decide_eq_true g2), (decide_eq_true g2), (decide_eq_true g2), rfl, rfl, rfl, rfl, rfl, rfl, rfl, rfl, rfl, rfl, rfl, rfl, rfl, trivial⟩
theorem ug59_3 (y : Int) (m : Int) (d : Int) (n : Int) (l : Int) (h60 : cc (ev X E0) 60 [AV.i y, AV.i m] [] = some (AV.i l, [])) (h103 : 1 ≤ m → m ≤ 12 → cc (ev X E0) 103 [AV.i y, AV.i m, AV.i d] [] = some (AV.i n, [])) (g1 : ¬y < 1) (g2 : ¬y ≥ 10000) (g3 : m < 1) :
    cc (ev X E0) 59 [AV.c (vi y), AV.c (vi m), AV.c (vi d)] [] = some (AV.tup [AV.c (vw 0), AV.c (vi 11)], []) :=
  cc_path (x := xf59) rfl [.br false, .br false, .br false, .br false, .br false, .br false, .br true, .br true, .br true, .br true, .br true, .br true, .br true, .br true, .br true, .br true, .br true, .br true, .br true]
    (c := [decide (y < 1) = false, decide (y < 1) = false, decide (y < 1) = false, decide (y ≥ 10000) = false, decide (y ≥ 10000) = false, decide (y ≥ 10000) = false, decide (m < 1) = true, decide (m < 1) = true, decide (m < 1) = true, true = true, true = true, true = true, true = true, true = true, true = true, true = true, true = true, true = true, true = true]) (by kernel_rfl)
    ⟨(decide_eq_false g1), (decide_eq_false g1), (decide_eq_false g1), (decide_eq_false g2), (decide_eq_false g2), (decide_eq_false g2), (decide_eq_true g3), (decide_eq_true g3), (decide_eq_true g3), rfl, rfl, rfl, rfl, rfl, rfl, rfl, rfl, rfl, rfl, trivial⟩
theorem ug59_4 (y : Int) (m : Int) (d : Int) (n : Int) (l : Int) (h60 : cc (ev X E0) 60 [AV.i y, AV.i m] [] = some (AV.i l, [])) (h103 : 1 ≤ m → m ≤ 12 → cc (ev X E0) 103 [AV.i y, AV.i m, AV.i d] [] = some (AV.i n, [])) (g1 : ¬y < 1) (g2 : ¬y ≥ 10000) (g3 : ¬m < 1) (g4 : m > 12) :
    cc (ev X E0) 59 [AV.c (vi y), AV.c (vi m), AV.c (vi d)] [] = some (AV.tup [AV.c (vw 0), AV.c (vi 11)], []) :=
  cc_path (x := xf59) rfl [.br false, .br false, .br false, .br false, .br false, .br false, .br false, .br false, .br false, .br true, .br true, .br true, .br true, .br true, .br true, .br true, .br true, .br true, .br true]
    (c := [decide (y < 1) = false, decide (y < 1) = false, decide (y < 1) = false, decide (y ≥ 10000) = false, decide (y ≥ 10000) = false, decide (y ≥ 10000) = false, decide (m < 1) = false, decide (m < 1) = false, decide (m < 1) = false, decide (m > 12) = true, decide (m > 12) = true, decide (m > 12) = true, true = true, true = true, true = true, true = true, true = true, true = true, true = true]) (by kernel_rfl)
    ⟨(decide_eq_false g1), (decide_eq_false g1), (decide_eq_false g1), (decide_eq_false g2), (decide_eq_false g2), (decide_eq_false g2), (decide_eq_false g3), (decide_eq_false g3), (decide_eq_false g3), (decide_eq_true g4), (decide_eq_true g4), (decide_eq_true g4), rfl, rfl, rfl, rfl, rfl, rfl, rfl, trivial⟩
theorem ug59_5 (y : Int) (m : Int) (d : Int) (n : Int) (l : Int) (h60 : cc (ev X E0) 60 [AV.i y, AV.i m] [] = some (AV.i l, [])) (h103 : 1 ≤ m → m ≤ 12 → cc (ev X E0) 103 [AV.i y, AV.i m, AV.i d] [] = some (AV.i n, [])) (g1 : ¬y < 1) (g2 : ¬y ≥ 10000) (g3 : ¬m < 1) (g4 : ¬m > 12) (g5 : d < 1) :
    cc (ev X E0) 59 [AV.c (vi y), AV.c (vi m), AV.c (vi d)] [] = some (AV.tup [AV.c (vw 0), AV.c (vi 11)], []) :=
  cc_path (x := xf59) rfl [.br false, .br false, .br false, .br false, .br false, .br false, .br false, .br false, .br false, .br false, .br false, .br false, .br true, .br true, .br true, .br true, .br true, .br true, .br true]
    (c := [decide (y < 1) = false, decide (y < 1) = false, decide (y < 1) = false, decide (y ≥ 10000) = false, decide (y ≥ 10000) = false, decide (y ≥ 10000) = false, decide (m < 1) = false, decide (m < 1) = false, decide (m < 1) = false, decide (m > 12) = false, decide (m > 12) = false, decide (m > 12) = false, decide (d < 1) = true, decide (d < 1) = true, decide (d < 1) = true, decide (d < 1) = true, decide (d < 1) = true, decide (d < 1) = true, true = true]) (by kernel_rfl)
    ⟨(decide_eq_false g1), (decide_eq_false g1), (decide_eq_false g1), (decide_eq_false g2), (decide_eq_false g2), (decide_eq_false g2), (decide_eq_false g3), (decide_eq_false g3), (decide_eq_false g3), (decide_eq_false g4), (decide_eq_false g4), (decide_eq_false g4), (decide_eq_true g5), (decide_eq_true g5), (decide_eq_true g5), (decide_eq_true g5), (decide_eq_true g5), (decide_eq_true g5), rfl, trivial⟩
theorem ug59_6 (y : Int) (m : Int) (d : Int) (n : Int) (l : Int) (h60 : cc (ev X E0) 60 [AV.i y, AV.i m] [] = some (AV.i l, [])) (h103 : 1 ≤ m → m ≤ 12 → cc (ev X E0) 103 [AV.i y, AV.i m, AV.i d] [] = some (AV.i n, [])) (g1 : ¬y < 1) (g2 : ¬y ≥ 10000) (g3 : ¬m < 1) (g4 : ¬m > 12) (g5 : ¬d < 1) (g6 : d > l) :
    cc (ev X E0) 59 [AV.c (vi y), AV.c (vi m), AV.c (vi d)] [] = some (AV.tup [AV.c (vw 0), AV.c (vi 11)], []) :=
  cc_path (x := xf59) rfl [.br false, .br false, .br false, .br false, .br false, .br false, .br false, .br false, .br false, .br false, .br false, .br false, .br false, .br false, .br false, .br false, .call (AV.c (vi l)) [], .br false, .br false, .br true]
    (c := [decide (y < 1) = false, decide (y < 1) = false, decide (y < 1) = false, decide (y ≥ 10000) = false, decide (y ≥ 10000) = false, decide (y ≥ 10000) = false, decide (m < 1) = false, decide (m < 1) = false, decide (m < 1) = false, decide (m > 12) = false, decide (m > 12) = false, decide (m > 12) = false, decide (d < 1) = false, decide (d < 1) = false, decide (d < 1) = false, decide (d < 1) = false, cc (ev X E0) 60 [AV.c (vi y), AV.c (vi m)] [] = some (AV.c (vi l), []), decide (d < 1) = false, decide (d < 1) = false, decide (d > l) = true]) (by kernel_rfl)
    ⟨(decide_eq_false g1), (decide_eq_false g1), (decide_eq_false g1), (decide_eq_false g2), (decide_eq_false g2), (decide_eq_false g2), (decide_eq_false g3), (decide_eq_false g3), (decide_eq_false g3), (decide_eq_false g4), (decide_eq_false g4), (decide_eq_false g4), (decide_eq_false g5), (decide_eq_false g5), (decide_eq_false g5), (decide_eq_false g5), (h60), (decide_eq_false g5), (decide_eq_false g5), (decide_eq_true g6), trivial⟩
theorem ug59_7 (y : Int) (m : Int) (d : Int) (n : Int) (l : Int) (h60 : cc (ev X E0) 60 [AV.i y, AV.i m] [] = some (AV.i l, [])) (h103 : 1 ≤ m → m ≤ 12 → cc (ev X E0) 103 [AV.i y, AV.i m, AV.i d] [] = some (AV.i n, [])) (g1 : ¬y < 1) (g2 : ¬y ≥ 10000) (g3 : ¬m < 1) (g4 : ¬m > 12) (g5 : ¬d < 1) (g6 : ¬d > l) (g7 : 1 ≤ m) (g8 : m ≤ 12) (g9 : IntKind.wrap .i64 (n - 730425) < -50000) :
    cc (ev X E0) 59 [AV.c (vi y), AV.c (vi m), AV.c (vi d)] [] = some (AV.tup [AV.c (vw 0), AV.c (vi 11)], []) :=
  cc_path (x := xf59) rfl [.br false, .br false, .br false, .br false, .br false, .br false, .br false, .br false, .br false, .br false, .br false, .br false, .br false, .br false, .br false, .br false, .call (AV.c (vi l)) [], .br false, .br false, .br false, .call (AV.c (vi n)) [], .br true, .br true, .br true, .br true]
    (c := [decide (y < 1) = false, decide (y < 1) = false, decide (y < 1) = false, decide (y ≥ 10000) = false, decide (y ≥ 10000) = false, decide (y ≥ 10000) = false, decide (m < 1) = false, decide (m < 1) = false, decide (m < 1) = false, decide (m > 12) = false, decide (m > 12) = false, decide (m > 12) = false, decide (d < 1) = false, decide (d < 1) = false, decide (d < 1) = false, decide (d < 1) = false, cc (ev X E0) 60 [AV.c (vi y), AV.c (vi m)] [] = some (AV.c (vi l), []), decide (d < 1) = false, decide (d < 1) = false, decide (d > l) = false, cc (ev X E0) 103 [AV.c (vi y), AV.c (vi m), AV.c (vi d)] [] = some (AV.c (vi n), []), decide (IntKind.wrap .i64 (n - 730425) < -50000) = true, decide (IntKind.wrap .i64 (n - 730425) < -50000) = true, decide (IntKind.wrap .i64 (n - 730425) < -50000) = true, true = true]) (by kernel_rfl)
    ⟨(decide_eq_false g1), (decide_eq_false g1), (decide_eq_false g1), (decide_eq_false g2), (decide_eq_false g2), (decide_eq_false g2), (decide_eq_false g3), (decide_eq_false g3), (decide_eq_false g3), (decide_eq_false g4), (decide_eq_false g4), (decide_eq_false g4), (decide_eq_false g5), (decide_eq_false g5), (decide_eq_false g5), (decide_eq_false g5), (h60), (decide_eq_false g5), (decide_eq_false g5), (decide_eq_false g6), (h103 g7 g8), (decide_eq_true g9), (decide_eq_true g9), (decide_eq_true g9), rfl, trivial⟩
theorem ug59_8 (y : Int) (m : Int) (d : Int) (n : Int) (l : Int) (h60 : cc (ev X E0) 60 [AV.i y, AV.i m] [] = some (AV.i l, [])) (h103 : 1 ≤ m → m ≤ 12 → cc (ev X E0) 103 [AV.i y, AV.i m, AV.i d] [] = some (AV.i n, [])) (g1 : ¬y < 1) (g2 : ¬y ≥ 10000) (g3 : ¬m < 1) (g4 : ¬m > 12) (g5 : ¬d < 1) (g6 : ¬d > l) (g7 : 1 ≤ m) (g8 : m ≤ 12) (g9 : ¬IntKind.wrap .i64 (n - 730425) < -50000) (g10 : IntKind.wrap .i64 (n - 730425) > 50000) :
    cc (ev X E0) 59 [AV.c (vi y), AV.c (vi m), AV.c (vi d)] [] = some (AV.tup [AV.c (vw 0), AV.c (vi 11)], []) :=
  cc_path (x := xf59) rfl [.br false, .br false, .br false, .br false, .br false, .br false, .br false, .br false, .br false, .br false, .br false, .br false, .br false, .br false, .br false, .br false, .call (AV.c (vi l)) [], .br false, .br false, .br false, .call (AV.c (vi n)) [], .br false, .br false, .br false, .br true]
    (c := [decide (y < 1) = false, decide (y < 1) = false, decide (y < 1) = false, decide (y ≥ 10000) = false, decide (y ≥ 10000) = false, decide (y ≥ 10000) = false, decide (m < 1) = false, decide (m < 1) = false, decide (m < 1) = false, decide (m > 12) = false, decide (m > 12) = false, decide (m > 12) = false, decide (d < 1) = false, decide (d < 1) = false, decide (d < 1) = false, decide (d < 1) = false, cc (ev X E0) 60 [AV.c (vi y), AV.c (vi m)] [] = some (AV.c (vi l), []), decide (d < 1) = false, decide (d < 1) = false, decide (d > l) = false, cc (ev X E0) 103 [AV.c (vi y), AV.c (vi m), AV.c (vi d)] [] = some (AV.c (vi n), []), decide (IntKind.wrap .i64 (n - 730425) < -50000) = false, decide (IntKind.wrap .i64 (n - 730425) < -50000) = false, decide (IntKind.wrap .i64 (n - 730425) < -50000) = false, decide (IntKind.wrap .i64 (n - 730425) > 50000) = true]) (by kernel_rfl)
    ⟨(decide_eq_false g1), (decide_eq_false g1), (decide_eq_false g1), (decide_eq_false g2), (decide_eq_false g2), (decide_eq_false g2), (decide_eq_false g3), (decide_eq_false g3), (decide_eq_false g3), (decide_eq_false g4), (decide_eq_false g4), (decide_eq_false g4), (decide_eq_false g5), (decide_eq_false g5), (decide_eq_false g5), (decide_eq_false g5), (h60), (decide_eq_false g5), (decide_eq_false g5), (decide_eq_false g6), (h103 g7 g8), (decide_eq_false g9), (decide_eq_false g9), (decide_eq_false g9), (decide_eq_true g10), trivial⟩
theorem ug59_9 (y : Int) (m : Int) (d : Int) (n : Int) (l : Int) (h60 : cc (ev X E0) 60 [AV.i y, AV.i m] [] = some (AV.i l, [])) (h103 : 1 ≤ m → m ≤ 12 → cc (ev X E0) 103 [AV.i y, AV.i m, AV.i d] [] = some (AV.i n, [])) (g1 : ¬y < 1) (g2 : ¬y ≥ 10000) (g3 : ¬m < 1) (g4 : ¬m > 12) (g5 : ¬d < 1) (g6 : ¬d > l) (g7 : 1 ≤ m) (g8 : m ≤ 12) (g9 : ¬IntKind.wrap .i64 (n - 730425) < -50000) (g10 : ¬IntKind.wrap .i64 (n - 730425) > 50000) :
    cc (ev X E0) 59 [AV.c (vi y), AV.c (vi m), AV.c (vi d)] [] = some (AV.tup [AV.c (vw (IntKind.wrap .i32 (IntKind.wrap .i64 (n - 730425)))), AV.c (vi 0)], []) :=
  cc_path (x := xf59) rfl [.br false, .br false, .br false, .br false, .br false, .br false, .br false, .br false, .br false, .br false, .br false, .br false, .br false, .br false, .br false, .br false, .call (AV.c (vi l)) [], .br false, .br false, .br false, .call (AV.c (vi n)) [], .br false, .br false, .br false, .br false]
    (c := [decide (y < 1) = false, decide (y < 1) = false, decide (y < 1) = false, decide (y ≥ 10000) = false, decide (y ≥ 10000) = false, decide (y ≥ 10000) = false, decide (m < 1) = false, decide (m < 1) = false, decide (m < 1) = false, decide (m > 12) = false, decide (m > 12) = false, decide (m > 12) = false, decide (d < 1) = false, decide (d < 1) = false, decide (d < 1) = false, decide (d < 1) = false, cc (ev X E0) 60 [AV.c (vi y), AV.c (vi m)] [] = some (AV.c (vi l), []), decide (d < 1) = false, decide (d < 1) = false, decide (d > l) = false, cc (ev X E0) 103 [AV.c (vi y), AV.c (vi m), AV.c (vi d)] [] = some (AV.c (vi n), []), decide (IntKind.wrap .i64 (n - 730425) < -50000) = false, decide (IntKind.wrap .i64 (n - 730425) < -50000) = false, decide (IntKind.wrap .i64 (n - 730425) < -50000) = false, decide (IntKind.wrap .i64 (n - 730425) > 50000) = false]) (by kernel_rfl)
    ⟨(decide_eq_false g1), (decide_eq_false g1), (decide_eq_false g1), (decide_eq_false g2), (decide_eq_false g2), (decide_eq_false g2), (decide_eq_false g3), (decide_eq_false g3), (decide_eq_false g3), (decide_eq_false g4), (decide_eq_false g4), (decide_eq_false g4), (decide_eq_false g5), (decide_eq_false g5), (decide_eq_false g5), (decide_eq_false g5), (h60), (decide_eq_false g5), (decide_eq_false g5), (decide_eq_false g6), (h103 g7 g8), (decide_eq_false g9), (decide_eq_false g9), (decide_eq_false g9), (decide_eq_false g10), trivial⟩
abbrev US58 (n c y m : Int) : St := St.mk (tmOf 70 [(6, AV.c (CV.pv (PV.int .i64 n))), (7, AV.c (CV.pv (PV.int .i64 c))), (8, AV.c (CV.pv (PV.int .i64 y))), (9, AV.c (CV.pv (PV.int .i64 m)))]) []
theorem ul58m0_1 (n : Int) (c : Int) (y : Int) (g1 : 0 > n) :
    lv (cv (ev X E0) xf58_l0) (rl [6, 0, 0, 0]) 0 (US58 n c y 0) = lv (cv (ev X E0) xf58_l0) (rl [6, 0, 0, 0]) 0 (St.mk (tmOf 70 [(6, AV.c (vi n)), (7, AV.c (vi c)), (8, AV.c (vi y)), (9, AV.c (vi (-1)))]) []) :=
  lv_next [.br true]
    (c := [(0 : Int) ≤ (0 : Int), (0 : Int) < (12 : Int), decide (0 > n) = true]) (by kernel_rfl)
    ⟨(Int.le_refl _), (by decide), (decide_eq_true g1), trivial⟩
theorem ul58m0_2 (n : Int) (c : Int) (y : Int) (g1 : ¬0 > n) :
    lv (cv (ev X E0) xf58_l0) (rl [6, 0, 0, 0]) 0 (US58 n c y 0) = some (XExit.exit 0, St.mk (tmOf 70 [(6, AV.c (vi n)), (7, AV.c (vi c)), (8, AV.c (vi y)), (9, AV.c (vi 0))]) []) :=
  lv_exit [.br false]
    (c := [(0 : Int) ≤ (0 : Int), (0 : Int) < (12 : Int), decide (0 > n) = false]) (by kernel_rfl)
    ⟨(Int.le_refl _), (by decide), (decide_eq_false g1), trivial⟩
theorem ul58m1_1 (n : Int) (c : Int) (y : Int) (g1 : 31 > n) :
    lv (cv (ev X E0) xf58_l0) (rl [6, 0, 0, 0]) 0 (US58 n c y 1) = lv (cv (ev X E0) xf58_l0) (rl [6, 0, 0, 0]) 0 (St.mk (tmOf 70 [(6, AV.c (vi n)), (7, AV.c (vi c)), (8, AV.c (vi y)), (9, AV.c (vi 0))]) []) :=
  lv_next [.br true]
    (c := [(0 : Int) ≤ (1 : Int), (1 : Int) < (12 : Int), decide (31 > n) = true]) (by kernel_rfl)
    ⟨(by decide), (by decide), (decide_eq_true g1), trivial⟩
theorem ul58m1_2 (n : Int) (c : Int) (y : Int) (g1 : ¬31 > n) :
    lv (cv (ev X E0) xf58_l0) (rl [6, 0, 0, 0]) 0 (US58 n c y 1) = some (XExit.exit 0, St.mk (tmOf 70 [(6, AV.c (vi n)), (7, AV.c (vi c)), (8, AV.c (vi y)), (9, AV.c (vi 1))]) []) :=
  lv_exit [.br false]
    (c := [(0 : Int) ≤ (1 : Int), (1 : Int) < (12 : Int), decide (31 > n) = false]) (by kernel_rfl)
    ⟨(by decide), (by decide), (decide_eq_false g1), trivial⟩
theorem ul58m2_1 (n : Int) (c : Int) (y : Int) (g1 : 61 > n) :
    lv (cv (ev X E0) xf58_l0) (rl [6, 0, 0, 0]) 0 (US58 n c y 2) = lv (cv (ev X E0) xf58_l0) (rl [6, 0, 0, 0]) 0 (St.mk (tmOf 70 [(6, AV.c (vi n)), (7, AV.c (vi c)), (8, AV.c (vi y)), (9, AV.c (vi 1))]) []) :=
  lv_next [.br true]
    (c := [(0 : Int) ≤ (2 : Int), (2 : Int) < (12 : Int), decide (61 > n) = true]) (by kernel_rfl)
    ⟨(by decide), (by decide), (decide_eq_true g1), trivial⟩
theorem ul58m2_2 (n : Int) (c : Int) (y : Int) (g1 : ¬61 > n) :
    lv (cv (ev X E0) xf58_l0) (rl [6, 0, 0, 0]) 0 (US58 n c y 2) = some (XExit.exit 0, St.mk (tmOf 70 [(6, AV.c (vi n)), (7, AV.c (vi c)), (8, AV.c (vi y)), (9, AV.c (vi 2))]) []) :=
  lv_exit [.br false]
    (c := [(0 : Int) ≤ (2 : Int), (2 : Int) < (12 : Int), decide (61 > n) = false]) (by kernel_rfl)
    ⟨(by decide), (by decide), (decide_eq_false g1), trivial⟩
theorem ul58m3_1 (n : Int) (c : Int) (y : Int) (g1 : 92 > n) :
    lv (cv (ev X E0) xf58_l0) (rl [6, 0, 0, 0]) 0 (US58 n c y 3) = lv (cv (ev X E0) xf58_l0) (rl [6, 0, 0, 0]) 0 (St.mk (tmOf 70 [(6, AV.c (vi n)), (7, AV.c (vi c)), (8, AV.c (vi y)), (9, AV.c (vi 2))]) []) :=
  lv_next [.br true]
    (c := [(0 : Int) ≤ (3 : Int), (3 : Int) < (12 : Int), decide (92 > n) = true]) (by kernel_rfl)
    ⟨(by decide), (by decide), (decide_eq_true g1), trivial⟩
theorem ul58m3_2 (n : Int) (c : Int) (y : Int) (g1 : ¬92 > n) :
    lv (cv (ev X E0) xf58_l0) (rl [6, 0, 0, 0]) 0 (US58 n c y 3) = some (XExit.exit 0, St.mk (tmOf 70 [(6, AV.c (vi n)), (7, AV.c (vi c)), (8, AV.c (vi y)), (9, AV.c (vi 3))]) []) :=
  lv_exit [.br false]
    (c := [(0 : Int) ≤ (3 : Int), (3 : Int) < (12 : Int), decide (92 > n) = false]) (by kernel_rfl)
    ⟨(by decide), (by decide), (decide_eq_false g1), trivial⟩
theorem ul58m4_1 (n : Int) (c : Int) (y : Int) (g1 : 122 > n) :
    lv (cv (ev X E0) xf58_l0) (rl [6, 0, 0, 0]) 0 (US58 n c y 4) = lv (cv (ev X E0) xf58_l0) (rl [6, 0, 0, 0]) 0 (St.mk (tmOf 70 [(6, AV.c (vi n)), (7, AV.c (vi c)), (8, AV.c (vi y)), (9, AV.c (vi 3))]) []) :=
  lv_next [.br true]
    (c := [(0 : Int) ≤ (4 : Int), (4 : Int) < (12 : Int), decide (122 > n) = true]) (by kernel_rfl)
    ⟨(by decide), (by decide), (decide_eq_true g1), trivial⟩
theorem ul58m4_2 (n : Int) (c : Int) (y : Int) (g1 : ¬122 > n) :
    lv (cv (ev X E0) xf58_l0) (rl [6, 0, 0, 0]) 0 (US58 n c y 4) = some (XExit.exit 0, St.mk (tmOf 70 [(6, AV.c (vi n)), (7, AV.c (vi c)), (8, AV.c (vi y)), (9, AV.c (vi 4))]) []) :=
  lv_exit [.br false]
    (c := [(0 : Int) ≤ (4 : Int), (4 : Int) < (12 : Int), decide (122 > n) = false]) (by kernel_rfl)
    ⟨(by decide), (by decide), (decide_eq_false g1), trivial⟩
theorem ul58m5_1 (n : Int) (c : Int) (y : Int) (g1 : 153 > n) :
    lv (cv (ev X E0) xf58_l0) (rl [6, 0, 0, 0]) 0 (US58 n c y 5) = lv (cv (ev X E0) xf58_l0) (rl [6, 0, 0, 0]) 0 (St.mk (tmOf 70 [(6, AV.c (vi n)), (7, AV.c (vi c)), (8, AV.c (vi y)), (9, AV.c (vi 4))]) []) :=
  lv_next [.br true]
    (c := [(0 : Int) ≤ (5 : Int), (5 : Int) < (12 : Int), decide (153 > n) = true]) (by kernel_rfl)
    ⟨(by decide), (by decide), (decide_eq_true g1), trivial⟩
theorem ul58m5_2 (n : Int) (c : Int) (y : Int) (g1 : ¬153 > n) :
    lv (cv (ev X E0) xf58_l0) (rl [6, 0, 0, 0]) 0 (US58 n c y 5) = some (XExit.exit 0, St.mk (tmOf 70 [(6, AV.c (vi n)), (7, AV.c (vi c)), (8, AV.c (vi y)), (9, AV.c (vi 5))]) []) :=
  lv_exit [.br false]
    (c := [(0 : Int) ≤ (5 : Int), (5 : Int) < (12 : Int), decide (153 > n) = false]) (by kernel_rfl)
    ⟨(by decide), (by decide), (decide_eq_false g1), trivial⟩
theorem ul58m6_1 (n : Int) (c : Int) (y : Int) (g1 : 184 > n) :
    lv (cv (ev X E0) xf58_l0) (rl [6, 0, 0, 0]) 0 (US58 n c y 6) = lv (cv (ev X E0) xf58_l0) (rl [6, 0, 0, 0]) 0 (St.mk (tmOf 70 [(6, AV.c (vi n)), (7, AV.c (vi c)), (8, AV.c (vi y)), (9, AV.c (vi 5))]) []) :=
  lv_next [.br true]
    (c := [(0 : Int) ≤ (6 : Int), (6 : Int) < (12 : Int), decide (184 > n) = true]) (by kernel_rfl)
    ⟨(by decide), (by decide), (decide_eq_true g1), trivial⟩
theorem ul58m6_2 (n : Int) (c : Int) (y : Int) (g1 : ¬184 > n) :
    lv (cv (ev X E0) xf58_l0) (rl [6, 0, 0, 0]) 0 (US58 n c y 6) = some (XExit.exit 0, St.mk (tmOf 70 [(6, AV.c (vi n)), (7, AV.c (vi c)), (8, AV.c (vi y)), (9, AV.c (vi 6))]) []) :=
  lv_exit [.br false]
    (c := [(0 : Int) ≤ (6 : Int), (6 : Int) < (12 : Int), decide (184 > n) = false]) (by kernel_rfl)
    ⟨(by decide), (by decide), (decide_eq_false g1), trivial⟩
theorem ul58m7_1 (n : Int) (c : Int) (y : Int) (g1 : 214 > n) :
    lv (cv (ev X E0) xf58_l0) (rl [6, 0, 0, 0]) 0 (US58 n c y 7) = lv (cv (ev X E0) xf58_l0) (rl [6, 0, 0, 0]) 0 (St.mk (tmOf 70 [(6, AV.c (vi n)), (7, AV.c (vi c)), (8, AV.c (vi y)), (9, AV.c (vi 6))]) []) :=
  lv_next [.br true]
    (c := [(0 : Int) ≤ (7 : Int), (7 : Int) < (12 : Int), decide (214 > n) = true]) (by kernel_rfl)
    ⟨(by decide), (by decide), (decide_eq_true g1), trivial⟩
theorem ul58m7_2 (n : Int) (c : Int) (y : Int) (g1 : ¬214 > n) :
    lv (cv (ev X E0) xf58_l0) (rl [6, 0, 0, 0]) 0 (US58 n c y 7) = some (XExit.exit 0, St.mk (tmOf 70 [(6, AV.c (vi n)), (7, AV.c (vi c)), (8, AV.c (vi y)), (9, AV.c (vi 7))]) []) :=
  lv_exit [.br false]
    (c := [(0 : Int) ≤ (7 : Int), (7 : Int) < (12 : Int), decide (214 > n) = false]) (by kernel_rfl)
    ⟨(by decide), (by decide), (decide_eq_false g1), trivial⟩
theorem ul58m8_1 (n : Int) (c : Int) (y : Int) (g1 : 245 > n) :
    lv (cv (ev X E0) xf58_l0) (rl [6, 0, 0, 0]) 0 (US58 n c y 8) = lv (cv (ev X E0) xf58_l0) (rl [6, 0, 0, 0]) 0 (St.mk (tmOf 70 [(6, AV.c (vi n)), (7, AV.c (vi c)), (8, AV.c (vi y)), (9, AV.c (vi 7))]) []) :=
  lv_next [.br true]
    (c := [(0 : Int) ≤ (8 : Int), (8 : Int) < (12 : Int), decide (245 > n) = true]) (by kernel_rfl)
    ⟨(by decide), (by decide), (decide_eq_true g1), trivial⟩
theorem ul58m8_2 (n : Int) (c : Int) (y : Int) (g1 : ¬245 > n) :
    lv (cv (ev X E0) xf58_l0) (rl [6, 0, 0, 0]) 0 (US58 n c y 8) = some (XExit.exit 0, St.mk (tmOf 70 [(6, AV.c (vi n)), (7, AV.c (vi c)), (8, AV.c (vi y)), (9, AV.c (vi 8))]) []) :=
  lv_exit [.br false]
    (c := [(0 : Int) ≤ (8 : Int), (8 : Int) < (12 : Int), decide (245 > n) = false]) (by kernel_rfl)
    ⟨(by decide), (by decide), (decide_eq_false g1), trivial⟩
theorem ul58m9_1 (n : Int) (c : Int) (y : Int) (g1 : 275 > n) :
    lv (cv (ev X E0) xf58_l0) (rl [6, 0, 0, 0]) 0 (US58 n c y 9) = lv (cv (ev X E0) xf58_l0) (rl [6, 0, 0, 0]) 0 (St.mk (tmOf 70 [(6, AV.c (vi n)), (7, AV.c (vi c)), (8, AV.c (vi y)), (9, AV.c (vi 8))]) []) :=
  lv_next [.br true]
    (c := [(0 : Int) ≤ (9 : Int), (9 : Int) < (12 : Int), decide (275 > n) = true]) (by kernel_rfl)
    ⟨(by decide), (by decide), (decide_eq_true g1), trivial⟩
theorem ul58m9_2 (n : Int) (c : Int) (y : Int) (g1 : ¬275 > n) :
    lv (cv (ev X E0) xf58_l0) (rl [6, 0, 0, 0]) 0 (US58 n c y 9) = some (XExit.exit 0, St.mk (tmOf 70 [(6, AV.c (vi n)), (7, AV.c (vi c)), (8, AV.c (vi y)), (9, AV.c (vi 9))]) []) :=
  lv_exit [.br false]
    (c := [(0 : Int) ≤ (9 : Int), (9 : Int) < (12 : Int), decide (275 > n) = false]) (by kernel_rfl)
    ⟨(by decide), (by decide), (decide_eq_false g1), trivial⟩
theorem ul58m10_1 (n : Int) (c : Int) (y : Int) (g1 : 306 > n) :
    lv (cv (ev X E0) xf58_l0) (rl [6, 0, 0, 0]) 0 (US58 n c y 10) = lv (cv (ev X E0) xf58_l0) (rl [6, 0, 0, 0]) 0 (St.mk (tmOf 70 [(6, AV.c (vi n)), (7, AV.c (vi c)), (8, AV.c (vi y)), (9, AV.c (vi 9))]) []) :=
  lv_next [.br true]
    (c := [(0 : Int) ≤ (10 : Int), (10 : Int) < (12 : Int), decide (306 > n) = true]) (by kernel_rfl)
    ⟨(by decide), (by decide), (decide_eq_true g1), trivial⟩
theorem ul58m10_2 (n : Int) (c : Int) (y : Int) (g1 : ¬306 > n) :
    lv (cv (ev X E0) xf58_l0) (rl [6, 0, 0, 0]) 0 (US58 n c y 10) = some (XExit.exit 0, St.mk (tmOf 70 [(6, AV.c (vi n)), (7, AV.c (vi c)), (8, AV.c (vi y)), (9, AV.c (vi 10))]) []) :=
  lv_exit [.br false]
    (c := [(0 : Int) ≤ (10 : Int), (10 : Int) < (12 : Int), decide (306 > n) = false]) (by kernel_rfl)
    ⟨(by decide), (by decide), (decide_eq_false g1), trivial⟩
theorem ul58m11_1 (n : Int) (c : Int) (y : Int) (g1 : 337 > n) :
    lv (cv (ev X E0) xf58_l0) (rl [6, 0, 0, 0]) 0 (US58 n c y 11) = lv (cv (ev X E0) xf58_l0) (rl [6, 0, 0, 0]) 0 (St.mk (tmOf 70 [(6, AV.c (vi n)), (7, AV.c (vi c)), (8, AV.c (vi y)), (9, AV.c (vi 10))]) []) :=
  lv_next [.br true]
    (c := [(0 : Int) ≤ (11 : Int), (11 : Int) < (12 : Int), decide (337 > n) = true]) (by kernel_rfl)
    ⟨(by decide), (by decide), (decide_eq_true g1), trivial⟩
theorem ul58m11_2 (n : Int) (c : Int) (y : Int) (g1 : ¬337 > n) :
    lv (cv (ev X E0) xf58_l0) (rl [6, 0, 0, 0]) 0 (US58 n c y 11) = some (XExit.exit 0, St.mk (tmOf 70 [(6, AV.c (vi n)), (7, AV.c (vi c)), (8, AV.c (vi y)), (9, AV.c (vi 11))]) []) :=
  lv_exit [.br false]
    (c := [(0 : Int) ≤ (11 : Int), (11 : Int) < (12 : Int), decide (337 > n) = false]) (by kernel_rfl)
    ⟨(by decide), (by decide), (decide_eq_false g1), trivial⟩
theorem ug58_1 (x : Int) (g1 : datOk x = false) :
    cc (ev X E0) 58 [AV.c (vw x)] [] = some (AV.tup [AV.c (vi 0), AV.c (vi 0), AV.c (vi 0), AV.c (vi 11)], []) :=
  cc_path (x := xf58) rfl [.call (AV.c (.pv (.bool (datOk x)))) [], .br true]
    (c := [cc (ev X E0) 53 [AV.c (vw x)] [] = some (AV.c (.pv (.bool (datOk x))), []), (!datOk x) = true]) (by kernel_rfl)
    ⟨(s77 _), (not_t g1), trivial⟩
end Go.Sx.Tryd
