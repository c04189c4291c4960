/- What is wrong with a posting, of the document. -/
import Derived.Test.YtplknajjcllmkaaDoorK3
import Derived.Test.YtplknajjcllmkaaDoorSxLem
import Derived.Test.YtplknajjcllmkaaDoorN1
namespace Go.Sx.Tryd
open Go Go.Sx
theorem f72_1 (d : Int) (g1 : d ≥ -50000) :
    cc (ev X E0) 54 [AV.c (vw d)] [] = some (AV.c (.pv (.bool (decide (d ≤ 50000)))), []) :=
  cc_path (x := xf54) rfl (bs 3 true)
    (c := rq [(3, decide (d ≥ -50000) = true)]) (by kernel_rfl)
    (aq ⟨(dT g1), trivial⟩)
theorem f72_2 (d : Int) (g1 : ¬d ≥ -50000) :
    cc (ev X E0) 54 [AV.c (vw d)] [] = some (AV.b false, []) :=
  cc_path (x := xf54) rfl (bs 3 false)
    (c := rq [(3, decide (d ≥ -50000) = false)]) (by kernel_rfl)
    (aq ⟨(dF g1), trivial⟩)
theorem f150_1 (d : Int) (g1 : d = 0) :
    cc (ev X E0) 144 [AV.c (vi d)] [] = some (AV.c (.pv (.str [69, 85, 82])), []) :=
  cc_path (x := xf144) rfl [.br true]
    (c := [(d == 0) = true]) (by kernel_rfl)
    ⟨(beq_iff_eq.mpr g1), trivial⟩
theorem f150_2 (d : Int) (g1 : ¬d = 0) (g2 : d = 1) :
    cc (ev X E0) 144 [AV.c (vi d)] [] = some (AV.c (.pv (.str [74, 80, 89])), []) :=
  cc_path (x := xf144) rfl [.br false, .br true]
    (c := [(d == 0) = false, (d == 1) = true]) (by kernel_rfl)
    ⟨(beq_eq_false_iff_ne.mpr g1), (beq_iff_eq.mpr g2), trivial⟩
theorem f150_3 (d : Int) (g1 : ¬d = 0) (g2 : ¬d = 1) (g3 : d = 2) :
    cc (ev X E0) 144 [AV.c (vi d)] [] = some (AV.c (.pv (.str [66, 72, 68])), []) :=
  cc_path (x := xf144) rfl [.br false, .br false, .br true]
    (c := [(d == 0) = false, (d == 1) = false, (d == 2) = true]) (by kernel_rfl)
    ⟨(beq_eq_false_iff_ne.mpr g1), (beq_eq_false_iff_ne.mpr g2), (beq_iff_eq.mpr g3), trivial⟩
theorem f150_4 (d : Int) (g1 : ¬d = 0) (g2 : ¬d = 1) (g3 : ¬d = 2) (g4 : d = 3) :
    cc (ev X E0) 144 [AV.c (vi d)] [] = some (AV.c (.pv (.str [85, 83, 68])), []) :=
  cc_path (x := xf144) rfl [.br false, .br false, .br false, .br true]
    (c := [(d == 0) = false, (d == 1) = false, (d == 2) = false, (d == 3) = true]) (by kernel_rfl)
    ⟨(beq_eq_false_iff_ne.mpr g1), (beq_eq_false_iff_ne.mpr g2), (beq_eq_false_iff_ne.mpr g3), (beq_iff_eq.mpr g4), trivial⟩
theorem f150_5 (d : Int) (g1 : ¬d = 0) (g2 : ¬d = 1) (g3 : ¬d = 2) (g4 : ¬d = 3) :
    cc (ev X E0) 144 [AV.c (vi d)] [] = some (AV.c (.pv (.str [])), []) :=
  cc_path (x := xf144) rfl [.br false, .br false, .br false, .br false]
    (c := [(d == 0) = false, (d == 1) = false, (d == 2) = false, (d == 3) = false]) (by kernel_rfl)
    ⟨(beq_eq_false_iff_ne.mpr g1), (beq_eq_false_iff_ne.mpr g2), (beq_eq_false_iff_ne.mpr g3), (beq_eq_false_iff_ne.mpr g4), trivial⟩
theorem s72 (d : Int) : cc (ev X E0) 54 [AV.int .i32 d] [] = some (.b (datOk d), []) := by
  by_cases h : d ≥ -50000
  · rw [f72_1 d h, datOk]; congr 4; simp; omega
  · rw [f72_2 d h, datOk]; congr 4; simp; omega
theorem f150'_1 (c m : Int) (s : List UInt8) (h : cc (ev X E0) 144 [AV.i c] [] = some (AV.s s, [])) (g1 : ¬s = []) (g2 : m ≥ -1000000000000000) :
    cc (ev X E0) 138 [AV.agg [vi c, vi m]] [] = some (AV.c (.pv (.bool (decide (m ≤ 1000000000000000)))), []) :=
  cc_path (x := xf138) rfl ([.call (AV.c (.pv (.str s))) []] ++ bs 8 true)
    (c := rq [ty h, (4, (!s == []) = true), (4, decide (m ≥ -1000000000000000) = true)]) (by kernel_rfl)
    (aq ⟨h, (not_t (beq_eq_false_iff_ne.mpr g1)), (dT g2), trivial⟩)
theorem f150'_2 (c m : Int) (s : List UInt8) (h : cc (ev X E0) 144 [AV.i c] [] = some (AV.s s, [])) (g1 : ¬s = []) (g2 : ¬m ≥ -1000000000000000) :
    cc (ev X E0) 138 [AV.agg [vi c, vi m]] [] = some (AV.b false, []) :=
  cc_path (x := xf138) rfl ([.call (AV.c (.pv (.str s))) []] ++ bs 4 true ++ bs 4 false)
    (c := rq [ty h, (4, (!s == []) = true), (4, decide (m ≥ -1000000000000000) = false)]) (by kernel_rfl)
    (aq ⟨h, (not_t (beq_eq_false_iff_ne.mpr g1)), (dF g2), trivial⟩)
theorem f150'_3 (c m : Int) (s : List UInt8) (h : cc (ev X E0) 144 [AV.i c] [] = some (AV.s s, [])) (g1 : s = []) :
    cc (ev X E0) 138 [AV.agg [vi c, vi m]] [] = some (AV.b false, []) :=
  cc_path (x := xf138) rfl ([.call (AV.c (.pv (.str s))) []] ++ bs 8 false)
    (c := rq [ty h, (4, (!s == []) = false), zf 4]) (by kernel_rfl)
    (aq ⟨h, (not_f (beq_iff_eq.mpr g1)), rfl, trivial⟩)
theorem s126 (c m : Int) : cc (ev X E0) 138 [AV.agg [.pv (.int .i64 c), .pv (.int .i64 m)]] [] = some (.b (curOk c && minOk m), []) := by
  have key : ∀ s : List UInt8, s ≠ [] → cc (ev X E0) 144 [AV.i c] [] = some (AV.s s, []) → cc (ev X E0) 138 [AV.agg [.pv (.int .i64 c), .pv (.int .i64 m)]] [] = some (.b (minOk m), []) := by
    intro s hs hc
    by_cases h : m ≥ -1000000000000000
    · rw [f150'_1 c m s hc hs h, minOk]; congr 5; rw [Bool.eq_iff_iff, decide_eq_true_eq, decide_eq_true_eq]; omega
    · rw [f150'_2 c m s hc hs h, minOk, decide_eq_false (by omega)]
  by_cases h0 : c = 0
  · rw [key _ (by simp) (f150_1 c h0), h0]; rfl
  · by_cases h1 : c = 1
    · rw [key _ (by simp) (f150_2 c h0 h1), h1]; rfl
    · by_cases h2 : c = 2
      · rw [key _ (by simp) (f150_3 c h0 h1 h2), h2]; rfl
      · by_cases h3 : c = 3
        · rw [key _ (by simp) (f150_4 c h0 h1 h2 h3), h3]; rfl
        · rw [f150'_3 c m [] (f150_5 c h0 h1 h2 h3) rfl, show curOk c = false by simp only [curOk, decide_eq_false_iff_not]; omega, Bool.false_and]
abbrev m34 : List Bool := [false, true, false, true]
abbrev S34 (p : Post) (i : Int) : St := St.mk (tmOf 84 [(1, AV.c (CV.ptr 0 0)), (3, AV.c (CV.pv (PV.int .i64 i)))]) [Box.cells (Post.cs p)]
theorem l34_1 (p : Post) (i : Nat) (y1 : UInt8) (g1 : (↑i : Int) < (↑(List.length p.memo) : Int)) (g2 : p.memo[i]? = some y1) (g3 : (↑(UInt8.toNat y1) : Int) < 32) :
    lv (cv (ev X E0) xf63_l0) m34 1 (S34 p (↑i : Int)) = some (XExit.ret, St.mk (tmOf 84 [(2, AV.c (vi 1))]) [.cells (Post.cs p)]) :=
  lv_ret ([.br true, .byte y1] ++ bs 7 true)
    (c := rq [(1, decide ((↑i : Int) < (↑(List.length p.memo) : Int)) = true), (1, 0 ≤ (↑i : Int)), ty g2, (6, decide ((↑(UInt8.toNat y1) : Int) < 32) = true), zt 1]) (by kernel_rfl)
    (aq ⟨(dT g1), (Int.natCast_nonneg _), g2, (dT g3), rfl, trivial⟩)
theorem l34_2 (p : Post) (i : Nat) (y1 y2 : UInt8) (g1 : (↑i : Int) < (↑(List.length p.memo) : Int)) (g2 : p.memo[i]? = some y1) (g3 : ¬(↑(UInt8.toNat y1) : Int) < 32) (g4 : p.memo[i]? = some y2) (g5 : (↑(UInt8.toNat y2) : Int) > 126) :
    lv (cv (ev X E0) xf63_l0) m34 1 (S34 p (↑i : Int)) = some (XExit.ret, St.mk (tmOf 84 [(2, AV.c (vi 1))]) [.cells (Post.cs p)]) :=
  lv_ret ([.br true, .byte y1] ++ bs 4 false ++ [.byte y2, .br false, .br false, .br true])
    (c := rq [(1, decide ((↑i : Int) < (↑(List.length p.memo) : Int)) = true), (1, 0 ≤ (↑i : Int)), ty g2, (4, decide ((↑(UInt8.toNat y1) : Int) < 32) = false), (1, 0 ≤ (↑i : Int)), ty g4, (2, decide ((↑(UInt8.toNat y1) : Int) < 32) = false), (1, decide ((↑(UInt8.toNat y2) : Int) > 126) = true)]) (by kernel_rfl)
    (aq ⟨(dT g1), (Int.natCast_nonneg _), g2, (dF g3), (Int.natCast_nonneg _), g4, (dF g3), (dT g5), trivial⟩)
theorem l34_3 (p : Post) (i : Nat) (y1 y2 : UInt8) (g1 : (↑i : Int) < (↑(List.length p.memo) : Int)) (g2 : p.memo[i]? = some y1) (g3 : ¬(↑(UInt8.toNat y1) : Int) < 32) (g4 : p.memo[i]? = some y2) (g5 : ¬(↑(UInt8.toNat y2) : Int) > 126) :
    lv (cv (ev X E0) xf63_l0) m34 1 (S34 p (↑i : Int)) = lv (cv (ev X E0) xf63_l0) m34 1 (St.mk (tmOf 84 [(1, AV.c (.ptr 0 0)), (3, AV.c (vi (IntKind.wrap .i64 ((↑i : Int) + 1))))]) [.cells (Post.cs p)]) :=
  lv_next ([.br true, .byte y1] ++ bs 4 false ++ [.byte y2] ++ bs 3 false)
    (c := rq [(1, decide ((↑i : Int) < (↑(List.length p.memo) : Int)) = true), (1, 0 ≤ (↑i : Int)), ty g2, (4, decide ((↑(UInt8.toNat y1) : Int) < 32) = false), (1, 0 ≤ (↑i : Int)), ty g4, (2, decide ((↑(UInt8.toNat y1) : Int) < 32) = false), (1, decide ((↑(UInt8.toNat y2) : Int) > 126) = false)]) (by kernel_rfl)
    (aq ⟨(dT g1), (Int.natCast_nonneg _), g2, (dF g3), (Int.natCast_nonneg _), g4, (dF g3), (dF g5), trivial⟩)
theorem l34_4 (p : Post) (i : Nat) (g1 : ¬(↑i : Int) < (↑(List.length p.memo) : Int)) :
    lv (cv (ev X E0) xf63_l0) m34 1 (S34 p (↑i : Int)) = some (XExit.exit 0, St.mk (tmOf 84 [(1, AV.c (.ptr 0 0))]) [.cells (Post.cs p)]) :=
  lv_exit [.br false]
    (c := [decide ((↑i : Int) < (↑(List.length p.memo) : Int)) = false]) (by kernel_rfl)
    ⟨(dF g1), trivial⟩
abbrev m73 : List Bool := [true, false, false, true]
abbrev S73 (l : List Leg) (o : SO) (i : Int) : St := St.mk (tmOf 108 [(0, AV.c (CV.pv (PV.sl o 3 (List.map Leg.pv l)))), (3, AV.c (CV.pv (PV.int .i64 i)))]) []
theorem l73_1 (l : List Leg) (o : SO) (i : Nat) (y1 : Leg) (g1 : (↑i : Int) < (↑(List.length (List.map Leg.pv l)) : Int)) (g2 : l[i]? = some y1) (g3 : y1.acc < 1) :
    lv (cv (ev X E0) xf106_l0) m73 0 (S73 l o (↑i : Int)) = some (XExit.ret, St.mk (tmOf 108 [(2, AV.c (vi 8))]) []) :=
  lv_ret ([.br true, .el (Leg.pv y1)] ++ bs 8 true)
    (c := rq [(1, decide ((↑i : Int) < (↑(List.length (List.map Leg.pv l)) : Int)) = true), (1, 0 ≤ (↑i : Int)), (1, (List.map Leg.pv l)[i]? = some (Leg.pv y1)), (7, decide (y1.acc < 1) = true), zt 1]) (by kernel_rfl)
    (aq ⟨(dT g1), (Int.natCast_nonneg _), (map_at g2), (dT g3), rfl, trivial⟩)
theorem l73_2 (l : List Leg) (o : SO) (i : Nat) (y1 : Leg) (g1 : (↑i : Int) < (↑(List.length (List.map Leg.pv l)) : Int)) (g2 : l[i]? = some y1) (g3 : ¬y1.acc < 1) (g4 : y1.acc > 999) :
    lv (cv (ev X E0) xf106_l0) m73 0 (S73 l o (↑i : Int)) = some (XExit.ret, St.mk (tmOf 108 [(2, AV.c (vi 8))]) []) :=
  lv_ret ([.br true, .el (Leg.pv y1)] ++ bs 3 false ++ [.el (Leg.pv y1)] ++ bs 4 false ++ [.br true])
    (c := rq [(1, decide ((↑i : Int) < (↑(List.length (List.map Leg.pv l)) : Int)) = true), (1, 0 ≤ (↑i : Int)), (1, (List.map Leg.pv l)[i]? = some (Leg.pv y1)), (3, decide (y1.acc < 1) = false), (1, 0 ≤ (↑i : Int)), (1, (List.map Leg.pv l)[i]? = some (Leg.pv y1)), (4, decide (y1.acc < 1) = false), (1, decide (y1.acc > 999) = true)]) (by kernel_rfl)
    (aq ⟨(dT g1), (Int.natCast_nonneg _), (map_at g2), (dF g3), (Int.natCast_nonneg _), (map_at g2), (dF g3), (dT g4), trivial⟩)
theorem l73_3 (l : List Leg) (o : SO) (i : Nat) (y1 : Leg) (g1 : (↑i : Int) < (↑(List.length (List.map Leg.pv l)) : Int)) (g2 : l[i]? = some y1) (g3 : ¬y1.acc < 1) (g4 : ¬y1.acc > 999) :
    lv (cv (ev X E0) xf106_l0) m73 0 (S73 l o (↑i : Int)) = lv (cv (ev X E0) xf106_l0) m73 0 (St.mk (tmOf 108 [(0, AV.c (.pv (.sl o 3 (List.map Leg.pv l)))), (3, AV.c (vi (IntKind.wrap .i64 ((↑i : Int) + 1))))]) []) :=
  lv_next ([.br true, .el (Leg.pv y1)] ++ bs 3 false ++ [.el (Leg.pv y1)] ++ bs 5 false)
    (c := rq [(1, decide ((↑i : Int) < (↑(List.length (List.map Leg.pv l)) : Int)) = true), (1, 0 ≤ (↑i : Int)), (1, (List.map Leg.pv l)[i]? = some (Leg.pv y1)), (3, decide (y1.acc < 1) = false), (1, 0 ≤ (↑i : Int)), (1, (List.map Leg.pv l)[i]? = some (Leg.pv y1)), (4, decide (y1.acc < 1) = false), (1, decide (y1.acc > 999) = false)]) (by kernel_rfl)
    (aq ⟨(dT g1), (Int.natCast_nonneg _), (map_at g2), (dF g3), (Int.natCast_nonneg _), (map_at g2), (dF g3), (dF g4), trivial⟩)
theorem l73_4 (l : List Leg) (o : SO) (i : Nat) (g1 : ¬(↑i : Int) < (↑(List.length (List.map Leg.pv l)) : Int)) :
    lv (cv (ev X E0) xf106_l0) m73 0 (S73 l o (↑i : Int)) = some (XExit.exit 0, St.mk (tmOf 108 [(0, AV.c (.pv (.sl o 3 (List.map Leg.pv l))))]) []) :=
  lv_exit [.br false]
    (c := [decide ((↑i : Int) < (↑(List.length (List.map Leg.pv l)) : Int)) = false]) (by kernel_rfl)
    ⟨(dF g1), trivial⟩
abbrev A73 (l : List Leg) (o : SO) : St := St.mk (tmOf 108 [(0, AV.c (CV.pv (PV.sl o 3 (List.map Leg.pv l))))]) []
abbrev m73b : List Bool := [true, false, false, false, true]
abbrev S73b (l : List Leg) (o : SO) (i : Int) : St := St.mk (tmOf 108 [(0, AV.c (CV.pv (PV.sl o 3 (List.map Leg.pv l)))), (4, AV.c (CV.pv (PV.int .i64 i)))]) []
theorem l73b_1 (l : List Leg) (o : SO) (i : Nat) (y1 : Leg) (g1 : (↑i : Int) < (↑(List.length (List.map Leg.pv l)) : Int)) (g2 : l[i]? = some y1) (g3 : y1.cur < 0) :
    lv (cv (ev X E0) xf106_l1) m73b 0 (S73b l o (↑i : Int)) = some (XExit.ret, St.mk (tmOf 108 [(2, AV.c (vi 12))]) []) :=
  lv_ret ([.br true, .el (Leg.pv y1)] ++ bs 9 true)
    (c := rq [(1, decide ((↑i : Int) < (↑(List.length (List.map Leg.pv l)) : Int)) = true), (1, 0 ≤ (↑i : Int)), (1, (List.map Leg.pv l)[i]? = some (Leg.pv y1)), (8, decide (y1.cur < 0) = true), zt 1]) (by kernel_rfl)
    (aq ⟨(dT g1), (Int.natCast_nonneg _), (map_at g2), (dT g3), rfl, trivial⟩)
theorem l73b_2 (l : List Leg) (o : SO) (i : Nat) (y1 : Leg) (g1 : (↑i : Int) < (↑(List.length (List.map Leg.pv l)) : Int)) (g2 : l[i]? = some y1) (g3 : ¬y1.cur < 0) (g4 : y1.cur > 3) :
    lv (cv (ev X E0) xf106_l1) m73b 0 (S73b l o (↑i : Int)) = some (XExit.ret, St.mk (tmOf 108 [(2, AV.c (vi 12))]) []) :=
  lv_ret ([.br true, .el (Leg.pv y1)] ++ bs 3 false ++ [.el (Leg.pv y1)] ++ bs 5 false ++ [.br true])
    (c := rq [(1, decide ((↑i : Int) < (↑(List.length (List.map Leg.pv l)) : Int)) = true), (1, 0 ≤ (↑i : Int)), (1, (List.map Leg.pv l)[i]? = some (Leg.pv y1)), (3, decide (y1.cur < 0) = false), (1, 0 ≤ (↑i : Int)), (1, (List.map Leg.pv l)[i]? = some (Leg.pv y1)), (5, decide (y1.cur < 0) = false), (1, decide (y1.cur > 3) = true)]) (by kernel_rfl)
    (aq ⟨(dT g1), (Int.natCast_nonneg _), (map_at g2), (dF g3), (Int.natCast_nonneg _), (map_at g2), (dF g3), (dT g4), trivial⟩)
theorem l73b_3 (l : List Leg) (o : SO) (i : Nat) (y1 : Leg) (g1 : (↑i : Int) < (↑(List.length (List.map Leg.pv l)) : Int)) (g2 : l[i]? = some y1) (g3 : ¬y1.cur < 0) (g4 : ¬y1.cur > 3) :
    lv (cv (ev X E0) xf106_l1) m73b 0 (S73b l o (↑i : Int)) = lv (cv (ev X E0) xf106_l1) m73b 0 (St.mk (tmOf 108 [(0, AV.c (.pv (.sl o 3 (List.map Leg.pv l)))), (4, AV.c (vi (IntKind.wrap .i64 ((↑i : Int) + 1))))]) []) :=
  lv_next ([.br true, .el (Leg.pv y1)] ++ bs 3 false ++ [.el (Leg.pv y1)] ++ bs 6 false)
    (c := rq [(1, decide ((↑i : Int) < (↑(List.length (List.map Leg.pv l)) : Int)) = true), (1, 0 ≤ (↑i : Int)), (1, (List.map Leg.pv l)[i]? = some (Leg.pv y1)), (3, decide (y1.cur < 0) = false), (1, 0 ≤ (↑i : Int)), (1, (List.map Leg.pv l)[i]? = some (Leg.pv y1)), (5, decide (y1.cur < 0) = false), (1, decide (y1.cur > 3) = false)]) (by kernel_rfl)
    (aq ⟨(dT g1), (Int.natCast_nonneg _), (map_at g2), (dF g3), (Int.natCast_nonneg _), (map_at g2), (dF g3), (dF g4), trivial⟩)
theorem l73b_4 (l : List Leg) (o : SO) (i : Nat) (g1 : ¬(↑i : Int) < (↑(List.length (List.map Leg.pv l)) : Int)) :
    lv (cv (ev X E0) xf106_l1) m73b 0 (S73b l o (↑i : Int)) = some (XExit.exit 2, St.mk (tmOf 108 [(0, AV.c (.pv (.sl o 3 (List.map Leg.pv l))))]) []) :=
  lv_exit [.br false]
    (c := [decide ((↑i : Int) < (↑(List.length (List.map Leg.pv l)) : Int)) = false]) (by kernel_rfl)
    ⟨(dF g1), trivial⟩
abbrev m73c : List Bool := [true, false, false, false, false, true]
abbrev S73c (l : List Leg) (o : SO) (i : Int) : St := St.mk (tmOf 108 [(0, AV.c (CV.pv (PV.sl o 3 (List.map Leg.pv l)))), (5, AV.c (CV.pv (PV.int .i64 i)))]) []
theorem l73c_1 (l : List Leg) (o : SO) (i : Nat) (y1 : Leg) (g1 : (↑i : Int) < (↑(List.length (List.map Leg.pv l)) : Int)) (g2 : l[i]? = some y1) (g3 : (curOk y1.cur && minOk y1.minor) = false) :
    lv (cv (ev X E0) xf106_l2) m73c 0 (S73c l o (↑i : Int)) = some (XExit.ret, St.mk (tmOf 108 [(2, AV.c (vi 9))]) []) :=
  lv_ret [.br true, .el (Leg.pv y1), .call (AV.c (.pv (.bool (curOk y1.cur && minOk y1.minor)))) [], .br true]
    (c := [decide ((↑i : Int) < (↑(List.length (List.map Leg.pv l)) : Int)) = true, 0 ≤ (↑i : Int), (List.map Leg.pv l)[i]? = some (Leg.pv y1), cc (ev X E0) 138 [AV.agg [vi y1.cur, vi y1.minor]] [] = some (AV.c (.pv (.bool (curOk y1.cur && minOk y1.minor))), []), (!(curOk y1.cur && minOk y1.minor)) = true]) (by kernel_rfl)
    ⟨(dT g1), (Int.natCast_nonneg _), (map_at g2), (s126 _ _), (not_t g3), trivial⟩
theorem l73c_2 (l : List Leg) (o : SO) (i : Nat) (y1 : Leg) (g1 : (↑i : Int) < (↑(List.length (List.map Leg.pv l)) : Int)) (g2 : l[i]? = some y1) (g3 : curOk y1.cur = true ∧ minOk y1.minor = true) :
    lv (cv (ev X E0) xf106_l2) m73c 0 (S73c l o (↑i : Int)) = lv (cv (ev X E0) xf106_l2) m73c 0 (St.mk (tmOf 108 [(0, AV.c (.pv (.sl o 3 (List.map Leg.pv l)))), (5, AV.c (vi (IntKind.wrap .i64 ((↑i : Int) + 1))))]) []) :=
  lv_next [.br true, .el (Leg.pv y1), .call (AV.c (.pv (.bool (curOk y1.cur && minOk y1.minor)))) [], .br false]
    (c := [decide ((↑i : Int) < (↑(List.length (List.map Leg.pv l)) : Int)) = true, 0 ≤ (↑i : Int), (List.map Leg.pv l)[i]? = some (Leg.pv y1), cc (ev X E0) 138 [AV.agg [vi y1.cur, vi y1.minor]] [] = some (AV.c (.pv (.bool (curOk y1.cur && minOk y1.minor))), []), (!(curOk y1.cur && minOk y1.minor)) = false]) (by kernel_rfl)
    ⟨(dT g1), (Int.natCast_nonneg _), (map_at g2), (s126 _ _), (not_f (and_t (And.left g3) (And.right g3))), trivial⟩
theorem l73c_3 (l : List Leg) (o : SO) (i : Nat) (g1 : ¬(↑i : Int) < (↑(List.length (List.map Leg.pv l)) : Int)) :
    lv (cv (ev X E0) xf106_l2) m73c 0 (S73c l o (↑i : Int)) = some (XExit.exit 4, St.mk (tmOf 108 [(0, AV.c (.pv (.sl o 3 (List.map Leg.pv l))))]) []) :=
  lv_exit [.br false]
    (c := [decide ((↑i : Int) < (↑(List.length (List.map Leg.pv l)) : Int)) = false]) (by kernel_rfl)
    ⟨(dF g1), trivial⟩
abbrev m73d : List Bool := [true, false, false, false, false, false, false, true]
abbrev S73d (l : List Leg) (o : SO) (i : Int) : St := St.mk (tmOf 108 [(0, AV.c (CV.pv (PV.sl o 3 (List.map Leg.pv l)))), (7, AV.c (CV.pv (PV.int .i64 i)))]) []
theorem l73d_1 (l : List Leg) (o : SO) (i : Nat) (y1 : Leg) (g1 : (↑i : Int) < (↑(List.length (List.map Leg.pv l)) : Int)) (g2 : l[i]? = some y1) (g3 : y1.minor = 0) :
    lv (cv (ev X E0) xf106_l3) m73d 0 (S73d l o (↑i : Int)) = some (XExit.ret, St.mk (tmOf 108 [(2, AV.c (vi 10))]) []) :=
  lv_ret [.br true, .el (Leg.pv y1), .br true]
    (c := [decide ((↑i : Int) < (↑(List.length (List.map Leg.pv l)) : Int)) = true, 0 ≤ (↑i : Int), (List.map Leg.pv l)[i]? = some (Leg.pv y1), (y1.minor == 0) = true]) (by kernel_rfl)
    ⟨(dT g1), (Int.natCast_nonneg _), (map_at g2), (beq_iff_eq.mpr g3), trivial⟩
theorem l73d_2 (l : List Leg) (o : SO) (i : Nat) (y1 : Leg) (g1 : (↑i : Int) < (↑(List.length (List.map Leg.pv l)) : Int)) (g2 : l[i]? = some y1) (g3 : ¬y1.minor = 0) :
    lv (cv (ev X E0) xf106_l3) m73d 0 (S73d l o (↑i : Int)) = lv (cv (ev X E0) xf106_l3) m73d 0 (St.mk (tmOf 108 [(0, AV.c (.pv (.sl o 3 (List.map Leg.pv l)))), (7, AV.c (vi (IntKind.wrap .i64 ((↑i : Int) + 1))))]) []) :=
  lv_next [.br true, .el (Leg.pv y1), .br false]
    (c := [decide ((↑i : Int) < (↑(List.length (List.map Leg.pv l)) : Int)) = true, 0 ≤ (↑i : Int), (List.map Leg.pv l)[i]? = some (Leg.pv y1), (y1.minor == 0) = false]) (by kernel_rfl)
    ⟨(dT g1), (Int.natCast_nonneg _), (map_at g2), (beq_eq_false_iff_ne.mpr g3), trivial⟩
theorem l73d_3 (l : List Leg) (o : SO) (i : Nat) (g1 : ¬(↑i : Int) < (↑(List.length (List.map Leg.pv l)) : Int)) :
    lv (cv (ev X E0) xf106_l3) m73d 0 (S73d l o (↑i : Int)) = some (XExit.exit 6, St.mk (tmOf 108 [(0, AV.c (.pv (.sl o 3 (List.map Leg.pv l))))]) []) :=
  lv_exit [.br false]
    (c := [decide ((↑i : Int) < (↑(List.length (List.map Leg.pv l)) : Int)) = false]) (by kernel_rfl)
    ⟨(dF g1), trivial⟩
abbrev m73e : List Bool := [true, false, false, false, false, false, false, false, true, true, true]
abbrev S73e (l : List Leg) (o : SO) (c i n : Int) : St := St.mk (tmOf 108 [(0, AV.c (CV.pv (PV.sl o 3 (List.map Leg.pv l)))), (8, AV.c (CV.pv (PV.int .i64 c))), (9, AV.c (CV.pv (PV.int .i64 n))), (10, AV.c (CV.pv (PV.int .i64 i)))]) []
abbrev E73e (l : List Leg) (o : SO) (c n : Int) : St := St.mk (tmOf 108 [(0, AV.c (CV.pv (PV.sl o 3 (List.map Leg.pv l)))), (8, AV.c (CV.pv (PV.int .i64 c))), (9, AV.c (CV.pv (PV.int .i64 n)))]) []
theorem l73e_1 (l : List Leg) (o : SO) (c n : Int) (i : Nat) (y1 : Leg) (g1 : (↑i : Int) < (↑(List.length (List.map Leg.pv l)) : Int)) (g2 : l[i]? = some y1) (g3 : y1.cur = c) :
    lv (cv (ev X E0) xf106_l4) m73e 0 (S73e l o c (↑i : Int) n) = lv (cv (ev X E0) xf106_l4) m73e 0 (St.mk (tmOf 108 [(0, AV.c (.pv (.sl o 3 (List.map Leg.pv l)))), (8, AV.c (vi c)), (9, AV.c (vi (IntKind.wrap .i64 (n + y1.minor)))), (10, AV.c (vi (IntKind.wrap .i64 ((↑i : Int) + 1))))]) []) :=
  lv_next [.br true, .el (Leg.pv y1), .br true, .el (Leg.pv y1)]
    (c := [decide ((↑i : Int) < (↑(List.length (List.map Leg.pv l)) : Int)) = true, 0 ≤ (↑i : Int), (List.map Leg.pv l)[i]? = some (Leg.pv y1), (y1.cur == c) = true, 0 ≤ (↑i : Int), (List.map Leg.pv l)[i]? = some (Leg.pv y1)]) (by kernel_rfl)
    ⟨(dT g1), (Int.natCast_nonneg _), (map_at g2), (beq_iff_eq.mpr g3), (Int.natCast_nonneg _), (map_at g2), trivial⟩
theorem l73e_2 (l : List Leg) (o : SO) (c n : Int) (i : Nat) (y1 : Leg) (g1 : (↑i : Int) < (↑(List.length (List.map Leg.pv l)) : Int)) (g2 : l[i]? = some y1) (g3 : ¬y1.cur = c) :
    lv (cv (ev X E0) xf106_l4) m73e 0 (S73e l o c (↑i : Int) n) = lv (cv (ev X E0) xf106_l4) m73e 0 (St.mk (tmOf 108 [(0, AV.c (.pv (.sl o 3 (List.map Leg.pv l)))), (8, AV.c (vi c)), (9, AV.c (vi n)), (10, AV.c (vi (IntKind.wrap .i64 ((↑i : Int) + 1))))]) []) :=
  lv_next [.br true, .el (Leg.pv y1), .br false]
    (c := [decide ((↑i : Int) < (↑(List.length (List.map Leg.pv l)) : Int)) = true, 0 ≤ (↑i : Int), (List.map Leg.pv l)[i]? = some (Leg.pv y1), (y1.cur == c) = false]) (by kernel_rfl)
    ⟨(dT g1), (Int.natCast_nonneg _), (map_at g2), (beq_eq_false_iff_ne.mpr g3), trivial⟩
theorem l73e_3 (l : List Leg) (o : SO) (c n : Int) (i : Nat) (g1 : ¬(↑i : Int) < (↑(List.length (List.map Leg.pv l)) : Int)) :
    lv (cv (ev X E0) xf106_l4) m73e 0 (S73e l o c (↑i : Int) n) = some (XExit.exit 10, St.mk (tmOf 108 [(0, AV.c (.pv (.sl o 3 (List.map Leg.pv l)))), (8, AV.c (vi c)), (9, AV.c (vi n))]) []) :=
  lv_exit [.br false]
    (c := [decide ((↑i : Int) < (↑(List.length (List.map Leg.pv l)) : Int)) = false]) (by kernel_rfl)
    ⟨(dF g1), trivial⟩
abbrev m73f : List Bool := [true, false, false, false, false, false, false, false, true]
abbrev S73f (l : List Leg) (o : SO) (c : Int) : St := St.mk (tmOf 108 [(0, AV.c (CV.pv (PV.sl o 3 (List.map Leg.pv l)))), (8, AV.c (CV.pv (PV.int .i64 c)))]) []
theorem l73f_1 (l : List Leg) (o : SO) (c n : Int) (h : lv (cv (ev X E0) xf106_l4) m73e 0 (S73e l o c 0 0) = some (XExit.exit 10, E73e l o c n)) (g1 : c < 4) (g2 : ¬n = 0) :
    lv (cv (ev X E0) xf106_l5) m73f 0 (S73f l o c) = some (XExit.ret, St.mk (tmOf 108 [(2, AV.c (vi 15))]) []) :=
  lv_ret [.br true, .loop (XExit.exit 10) (St.mk (tmOf 108 [(0, AV.c (.pv (.sl o 3 (List.map Leg.pv l)))), (8, AV.c (vi c)), (9, AV.c (vi n))]) []), .br true]
    (c := rq [(1, decide (c < 4) = true), ty h, (1, (n != 0) = true)]) (by kernel_rfl)
    (aq ⟨(dT g1), h, (bne_iff_ne.mpr g2), trivial⟩)
theorem l73f_2 (l : List Leg) (o : SO) (c n : Int) (h : lv (cv (ev X E0) xf106_l4) m73e 0 (S73e l o c 0 0) = some (XExit.exit 10, E73e l o c n)) (g1 : c < 4) (g2 : n = 0) :
    lv (cv (ev X E0) xf106_l5) m73f 0 (S73f l o c) = lv (cv (ev X E0) xf106_l5) m73f 0 (St.mk (tmOf 108 [(0, AV.c (.pv (.sl o 3 (List.map Leg.pv l)))), (8, AV.c (vi (IntKind.wrap .i64 (c + 1))))]) []) :=
  lv_next [.br true, .loop (XExit.exit 10) (St.mk (tmOf 108 [(0, AV.c (.pv (.sl o 3 (List.map Leg.pv l)))), (8, AV.c (vi c)), (9, AV.c (vi n))]) []), .br false]
    (c := rq [(1, decide (c < 4) = true), ty h, (1, (n != 0) = false)]) (by kernel_rfl)
    (aq ⟨(dT g1), h, (bne_f g2), trivial⟩)
theorem l73f_3 (l : List Leg) (o : SO) (c n : Int) (_h : lv (cv (ev X E0) xf106_l4) m73e 0 (S73e l o c 0 0) = some (XExit.exit 10, E73e l o c n)) (g1 : ¬c < 4) :
    lv (cv (ev X E0) xf106_l5) m73f 0 (S73f l o c) = some (XExit.exit 8, St.mk (tmOf 108 []) []) :=
  lv_exit [.br false]
    (c := [decide (c < 4) = false]) (by kernel_rfl)
    ⟨(dF g1), trivial⟩
abbrev R73 (n : Int) : St := St.mk (tmOf 108 [(2, AV.c (CV.pv (PV.int .i64 n)))]) []
theorem f73_1 (l : List Leg) (o : SO) (h : lv (cv (ev X E0) xf106_l0) m73 0 (S73 l o 0) = some (XExit.exit 0, A73 l o)) (h1 : lv (cv (ev X E0) xf106_l1) m73b 0 (S73b l o 0) = some (XExit.exit 2, A73 l o)) (h2 : lv (cv (ev X E0) xf106_l2) m73c 0 (S73c l o 0) = some (XExit.exit 4, A73 l o)) (h3 : lv (cv (ev X E0) xf106_l3) m73d 0 (S73d l o 0) = some (XExit.exit 6, A73 l o)) (h4 : lv (cv (ev X E0) xf106_l5) m73f 0 (S73f l o 0) = some (XExit.exit 8, St.mk (tmOf 108 []) [])) :
    cc (ev X E0) 106 [AV.c (.pv (.sl o 3 (List.map Leg.pv l)))] [] = some (AV.c (vi 0), []) :=
  cc_path (x := xf106) rfl [.loop (XExit.exit 0) (St.mk (tmOf 108 [(0, AV.c (.pv (.sl o 3 (List.map Leg.pv l))))]) []), .loop (XExit.exit 2) (St.mk (tmOf 108 [(0, AV.c (.pv (.sl o 3 (List.map Leg.pv l))))]) []), .loop (XExit.exit 4) (St.mk (tmOf 108 [(0, AV.c (.pv (.sl o 3 (List.map Leg.pv l))))]) []), .loop (XExit.exit 6) (St.mk (tmOf 108 [(0, AV.c (.pv (.sl o 3 (List.map Leg.pv l))))]) []), .loop (XExit.exit (8 : Nat)) (St.mk (tmOf (108 : Nat) []) [])]
    (c := rq [ty h, ty h1, ty h2, ty h3, ty h4]) (by kernel_rfl)
    (aq ⟨h, h1, h2, h3, h4, trivial⟩)
theorem f73a_1 (l : List Leg) (o : SO) (h : lv (cv (ev X E0) xf106_l0) m73 0 (S73 l o 0) = some (XExit.ret, R73 8)) :
    cc (ev X E0) 106 [AV.c (.pv (.sl o 3 (List.map Leg.pv l)))] [] = some (AV.c (vi 8), []) :=
  cc_path (x := xf106) rfl [.loop XExit.ret (St.mk (tmOf (108 : Nat) [((2 : Nat), AV.c (vi (8 : Int)))]) [])]
    (c := rq [ty h]) (by kernel_rfl)
    (aq ⟨h, trivial⟩)
theorem f73b_1 (l : List Leg) (o : SO) (h : lv (cv (ev X E0) xf106_l0) m73 0 (S73 l o 0) = some (XExit.exit 0, A73 l o)) (h1 : lv (cv (ev X E0) xf106_l1) m73b 0 (S73b l o 0) = some (XExit.ret, R73 12)) :
    cc (ev X E0) 106 [AV.c (.pv (.sl o 3 (List.map Leg.pv l)))] [] = some (AV.c (vi 12), []) :=
  cc_path (x := xf106) rfl [.loop (XExit.exit 0) (St.mk (tmOf 108 [(0, AV.c (.pv (.sl o 3 (List.map Leg.pv l))))]) []), .loop XExit.ret (St.mk (tmOf (108 : Nat) [((2 : Nat), AV.c (vi (12 : Int)))]) [])]
    (c := rq [ty h, ty h1]) (by kernel_rfl)
    (aq ⟨h, h1, trivial⟩)
theorem f73c_1 (l : List Leg) (o : SO) (h : lv (cv (ev X E0) xf106_l0) m73 0 (S73 l o 0) = some (XExit.exit 0, A73 l o)) (h1 : lv (cv (ev X E0) xf106_l1) m73b 0 (S73b l o 0) = some (XExit.exit 2, A73 l o)) (h2 : lv (cv (ev X E0) xf106_l2) m73c 0 (S73c l o 0) = some (XExit.ret, R73 9)) :
    cc (ev X E0) 106 [AV.c (.pv (.sl o 3 (List.map Leg.pv l)))] [] = some (AV.c (vi 9), []) :=
  cc_path (x := xf106) rfl [.loop (XExit.exit 0) (St.mk (tmOf 108 [(0, AV.c (.pv (.sl o 3 (List.map Leg.pv l))))]) []), .loop (XExit.exit 2) (St.mk (tmOf 108 [(0, AV.c (.pv (.sl o 3 (List.map Leg.pv l))))]) []), .loop XExit.ret (St.mk (tmOf (108 : Nat) [((2 : Nat), AV.c (vi (9 : Int)))]) [])]
    (c := rq [ty h, ty h1, ty h2]) (by kernel_rfl)
    (aq ⟨h, h1, h2, trivial⟩)
theorem f73d_1 (l : List Leg) (o : SO) (h : lv (cv (ev X E0) xf106_l0) m73 0 (S73 l o 0) = some (XExit.exit 0, A73 l o)) (h1 : lv (cv (ev X E0) xf106_l1) m73b 0 (S73b l o 0) = some (XExit.exit 2, A73 l o)) (h2 : lv (cv (ev X E0) xf106_l2) m73c 0 (S73c l o 0) = some (XExit.exit 4, A73 l o)) (h3 : lv (cv (ev X E0) xf106_l3) m73d 0 (S73d l o 0) = some (XExit.ret, R73 10)) :
    cc (ev X E0) 106 [AV.c (.pv (.sl o 3 (List.map Leg.pv l)))] [] = some (AV.c (vi 10), []) :=
  cc_path (x := xf106) rfl [.loop (XExit.exit 0) (St.mk (tmOf 108 [(0, AV.c (.pv (.sl o 3 (List.map Leg.pv l))))]) []), .loop (XExit.exit 2) (St.mk (tmOf 108 [(0, AV.c (.pv (.sl o 3 (List.map Leg.pv l))))]) []), .loop (XExit.exit 4) (St.mk (tmOf 108 [(0, AV.c (.pv (.sl o 3 (List.map Leg.pv l))))]) []), .loop XExit.ret (St.mk (tmOf (108 : Nat) [((2 : Nat), AV.c (vi (10 : Int)))]) [])]
    (c := rq [ty h, ty h1, ty h2, ty h3]) (by kernel_rfl)
    (aq ⟨h, h1, h2, h3, trivial⟩)
theorem f73e_1 (l : List Leg) (o : SO) (h : lv (cv (ev X E0) xf106_l0) m73 0 (S73 l o 0) = some (XExit.exit 0, A73 l o)) (h1 : lv (cv (ev X E0) xf106_l1) m73b 0 (S73b l o 0) = some (XExit.exit 2, A73 l o)) (h2 : lv (cv (ev X E0) xf106_l2) m73c 0 (S73c l o 0) = some (XExit.exit 4, A73 l o)) (h3 : lv (cv (ev X E0) xf106_l3) m73d 0 (S73d l o 0) = some (XExit.exit 6, A73 l o)) (h4 : lv (cv (ev X E0) xf106_l5) m73f 0 (S73f l o 0) = some (XExit.ret, R73 15)) :
    cc (ev X E0) 106 [AV.c (.pv (.sl o 3 (List.map Leg.pv l)))] [] = some (AV.c (vi 15), []) :=
  cc_path (x := xf106) rfl [.loop (XExit.exit 0) (St.mk (tmOf 108 [(0, AV.c (.pv (.sl o 3 (List.map Leg.pv l))))]) []), .loop (XExit.exit 2) (St.mk (tmOf 108 [(0, AV.c (.pv (.sl o 3 (List.map Leg.pv l))))]) []), .loop (XExit.exit 4) (St.mk (tmOf 108 [(0, AV.c (.pv (.sl o 3 (List.map Leg.pv l))))]) []), .loop (XExit.exit 6) (St.mk (tmOf 108 [(0, AV.c (.pv (.sl o 3 (List.map Leg.pv l))))]) []), .loop XExit.ret (St.mk (tmOf (108 : Nat) [((2 : Nat), AV.c (vi (15 : Int)))]) [])]
    (c := rq [ty h, ty h1, ty h2, ty h3, ty h4]) (by kernel_rfl)
    (aq ⟨h, h1, h2, h3, h4, trivial⟩)
theorem a73 {l : List Leg} {o : SO} (hl : l.length ≤ 100) : lv (cv (ev X E0) xf106_l0) m73 0 (S73 l o 0) = some (if l.any accBad = true then (XExit.ret, R73 8) else (XExit.exit 0, A73 l o)) := by
  refine lv_scan (S73 l o) (l73_4 l o l.length (by simp)) (fun i y hat hlt hw => ?_) fun i y hat hlt hw => ?_
  · simp only [accBad, decide_eq_true_eq] at hw
    by_cases h : y.acc < 1
    · exact l73_1 l o i y (lt_len hlt) hat h
    · exact l73_2 l o i y (lt_len hlt) hat h (by omega)
  · simp only [accBad, decide_eq_false_iff_not] at hw
    have := l73_3 l o i y (lt_len hlt) hat (by omega) (by omega)
    rwa [wi64 (by omega) (by omega)] at this
theorem b73 {l : List Leg} {o : SO} (hl : l.length ≤ 100) : lv (cv (ev X E0) xf106_l1) m73b 0 (S73b l o 0) = some (if l.any curBad = true then (XExit.ret, R73 12) else (XExit.exit 2, A73 l o)) := by
  refine lv_scan (S73b l o) (l73b_4 l o l.length (by simp)) (fun i y hat hlt hw => ?_) fun i y hat hlt hw => ?_
  · simp only [curBad, curOk, Bool.not_eq_true', decide_eq_false_iff_not] at hw
    by_cases h : y.cur < 0
    · exact l73b_1 l o i y (lt_len hlt) hat h
    · exact l73b_2 l o i y (lt_len hlt) hat h (by omega)
  · simp only [curBad, curOk, Bool.not_eq_false', decide_eq_true_eq] at hw
    have := l73b_3 l o i y (lt_len hlt) hat (by omega) (by omega)
    rwa [wi64 (by omega) (by omega)] at this
theorem c73 {l : List Leg} {o : SO} (hl : l.length ≤ 100) : lv (cv (ev X E0) xf106_l2) m73c 0 (S73c l o 0) = some (if l.any overBad = true then (XExit.ret, R73 9) else (XExit.exit 4, A73 l o)) := by
  refine lv_scan (S73c l o) (l73c_3 l o l.length (by simp)) (fun i y hat hlt hw => ?_) fun i y hat hlt hw => ?_
  · exact l73c_1 l o i y (lt_len hlt) hat (by simpa only [overBad, Bool.not_eq_true'] using hw)
  · have := l73c_2 l o i y (lt_len hlt) hat (by simpa only [overBad, Bool.not_eq_false', Bool.and_eq_true] using hw)
    rwa [wi64 (by omega) (by omega)] at this
theorem d73 {l : List Leg} {o : SO} (hl : l.length ≤ 100) : lv (cv (ev X E0) xf106_l3) m73d 0 (S73d l o 0) = some (if l.any zeroBad = true then (XExit.ret, R73 10) else (XExit.exit 6, A73 l o)) := by
  refine lv_scan (S73d l o) (l73d_3 l o l.length (by simp)) (fun i y hat hlt hw => ?_) fun i y hat hlt hw => ?_
  · exact l73d_1 l o i y (lt_len hlt) hat (by simpa [zeroBad] using hw)
  · have := l73d_2 l o i y (lt_len hlt) hat (by simpa [zeroBad] using hw)
    rwa [wi64 (by omega) (by omega)] at this
def addCur (c : Int) (n : Int) (x : Leg) : Int := n + (if x.cur = c then x.minor else 0)
theorem foldCur (c : Int) : ∀ (l : List Leg) (n : Int), l.foldl (addCur c) n = n + sumCur c l
  | [], n => by simp [sumCur]
  | x :: r, n => by rw [List.foldl_cons, foldCur c r, sumCur, addCur]; omega
theorem e73 {l : List Leg} {o : SO} {c : Int} (hl : l.length ≤ 100) (hm : ∀ x ∈ l, minOk x.minor = true) : lv (cv (ev X E0) xf106_l4) m73e 0 (S73e l o c 0 0) = some (XExit.exit 10, E73e l o c (sumCur c l)) := by
  have hf : l.foldl (addCur c) 0 = sumCur c l := by rw [foldCur]; omega
  refine lv_fold (l := l) (addCur c) 0 (fun i n => S73e l o c i n) (by rw [hf]; exact l73e_3 l o c _ l.length (by simp)) fun i y n hat hlt hn => ?_
  have hb := sumCur_bound (c := c) (l := l.take i) fun x hx => hm x (List.mem_of_mem_take hx)
  have hlen : (l.take i).length = i := by rw [List.length_take]; omega
  rw [foldCur, Int.zero_add] at hn
  rw [hlen, ← hn] at hb
  have hy := hm y (List.mem_of_getElem? hat)
  simp only [minOk, decide_eq_true_eq] at hy
  simp only [addCur]
  by_cases h : y.cur = c
  · have := l73e_1 l o c n i y (lt_len hlt) hat h
    rw [wi64 (by omega) (by omega), wi64 (by omega) (by omega)] at this
    rw [if_pos h]; exact this
  · have := l73e_2 l o c n i y (lt_len hlt) hat h
    rw [wi64 (by omega) (by omega)] at this
    rw [if_neg h, Int.add_zero]; exact this
theorem f73' {l : List Leg} {o : SO} (hl : l.length ≤ 100) (hm : ∀ x ∈ l, minOk x.minor = true) : lv (cv (ev X E0) xf106_l5) m73f 0 (S73f l o 0) = some (if bal l = false then (XExit.ret, R73 15) else (XExit.exit 8, St.mk (tmOf 108 []) [])) := by
  have k := fun c => e73 (o := o) (c := c) hl hm
  by_cases h0 : sumCur 0 l = 0
  · have st0 := l73f_2 l o 0 _ (k 0) (by omega) h0
    by_cases h1 : sumCur 1 l = 0
    · have st1 := l73f_2 l o 1 _ (k 1) (by omega) h1
      by_cases h2 : sumCur 2 l = 0
      · have st2 := l73f_2 l o 2 _ (k 2) (by omega) h2
        by_cases h3 : sumCur 3 l = 0
        · have st3 := l73f_2 l o 3 _ (k 3) (by omega) h3
          rw [if_neg (by simp [bal, h0, h1, h2, h3])]
          exact st0.trans (st1.trans (st2.trans (st3.trans (l73f_3 l o 4 _ (k 4) (by omega)))))
        · rw [if_pos (by simp [bal, h3])]
          exact st0.trans (st1.trans (st2.trans (l73f_1 l o 3 _ (k 3) (by omega) h3)))
      · rw [if_pos (by simp [bal, h2])]
        exact st0.trans (st1.trans (l73f_1 l o 2 _ (k 2) (by omega) h2))
    · rw [if_pos (by simp [bal, h1])]
      exact st0.trans (l73f_1 l o 1 _ (k 1) (by omega) h1)
  · rw [if_pos (by simp [bal, h0])]
    exact l73f_1 l o 0 _ (k 0) (by omega) h0
def legsChk (l : List Leg) : Int := if l.any accBad = true then 8 else if l.any curBad = true then 12 else if l.any overBad = true then 9 else if l.any zeroBad = true then 10 else if bal l = false then 15 else 0
theorem s73 {l : List Leg} {o : SO} (hl : l.length ≤ 100) : cc (ev X E0) 106 [AV.sl o 3 (l.map Leg.pv)] [] = some (.i (legsChk l), []) := by
  have a := a73 (o := o) hl
  have b := b73 (o := o) hl
  have c := c73 (o := o) hl
  have d := d73 (o := o) hl
  unfold legsChk
  by_cases h1 : l.any accBad = true
  · rw [if_pos h1] at a ⊢; exact f73a_1 l o a
  rw [if_neg h1] at a ⊢
  by_cases h2 : l.any curBad = true
  · rw [if_pos h2] at b ⊢; exact f73b_1 l o a b
  rw [if_neg h2] at b ⊢
  by_cases h3 : l.any overBad = true
  · rw [if_pos h3] at c ⊢; exact f73c_1 l o a b c
  rw [if_neg h3] at c ⊢
  by_cases h4 : l.any zeroBad = true
  · rw [if_pos h4] at d ⊢; exact f73d_1 l o a b c d
  rw [if_neg h4] at d ⊢
  have e := f73' (o := o) hl fun x hx => by
    have := any_false (w := overBad) (by simpa using h3) x hx; simp only [overBad, Bool.not_eq_false', Bool.and_eq_true] at this; exact this.2
  by_cases h5 : bal l = false
  · rw [if_pos h5] at e ⊢; exact f73e_1 l o a b c d e
  rw [if_neg h5] at e ⊢
  exact f73_1 l o a b c d e
abbrev R34 (p : Post) : St := St.mk (tmOf 84 [(2, AV.c (CV.pv (PV.int .i64 1)))]) [Box.cells (Post.cs p)]
abbrev A34 (p : Post) : St := St.mk (tmOf 84 [(1, AV.c (CV.ptr 0 0))]) [Box.cells (Post.cs p)]
theorem a34 {p : Post} (hl : p.memo.length ≤ 1000000) : lv (cv (ev X E0) xf63_l0) m34 1 (S34 p 0) = some (if p.memo.any odd = true then (XExit.ret, R34 p) else (XExit.exit 0, A34 p)) := by
  refine lv_scan (S34 p) (l34_4 p p.memo.length (by omega)) (fun i y hat hlt hw => ?_) fun i y hat hlt hw => ?_
  · simp only [odd, decide_eq_true_eq] at hw
    by_cases h : ((y.toNat : Nat) : Int) < 32
    · exact l34_1 p i y (by omega) hat h
    · exact l34_2 p i y y (by omega) hat h hat (by omega)
  · simp only [odd, decide_eq_false_iff_not] at hw
    have := l34_3 p i y y (by omega) hat (by omega) hat (by omega)
    rwa [wi64 (by omega) (by omega)] at this
theorem f34h_1 (p : Post) (g1 : p.id < 1) :
    cc (ev X E0) 63 [AV.agg (Post.cs p)] [] = some (AV.c (vi 1), []) :=
  cc_path (x := xf63) rfl (bs 28 true)
    (c := rq [(4, decide (p.id < 1) = true), zt 24]) (by kernel_rfl)
    (aq ⟨(dT g1), rfl, trivial⟩)
theorem f34h_2 (p : Post) (g1 : ¬p.id < 1) (g2 : p.id > 1000000) :
    cc (ev X E0) 63 [AV.agg (Post.cs p)] [] = some (AV.c (vi 1), []) :=
  cc_path (x := xf63) rfl (bs 4 false ++ bs 24 true)
    (c := rq [(4, decide (p.id < 1) = false), (4, decide (p.id > 1000000) = true), zt 20]) (by kernel_rfl)
    (aq ⟨(dF g1), (dT g2), rfl, trivial⟩)
theorem f34h_3 (p : Post) (g1 : ¬p.id < 1) (g2 : ¬p.id > 1000000) (g3 : p.rev < 0) :
    cc (ev X E0) 63 [AV.agg (Post.cs p)] [] = some (AV.c (vi 1), []) :=
  cc_path (x := xf63) rfl (bs 8 false ++ bs 20 true)
    (c := rq [(4, decide (p.id < 1) = false), (4, decide (p.id > 1000000) = false), (6, decide (p.rev < 0) = true), zt 14]) (by kernel_rfl)
    (aq ⟨(dF g1), (dF g2), (dT g3), rfl, trivial⟩)
theorem f34h_4 (p : Post) (g1 : ¬p.id < 1) (g2 : ¬p.id > 1000000) (g3 : ¬p.rev < 0) (g4 : p.rev ≥ p.id) :
    cc (ev X E0) 63 [AV.agg (Post.cs p)] [] = some (AV.c (vi 1), []) :=
  cc_path (x := xf63) rfl (bs 14 false ++ bs 14 true)
    (c := rq [(4, decide (p.id < 1) = false), (4, decide (p.id > 1000000) = false), (6, decide (p.rev < 0) = false), (4, decide (p.rev ≥ p.id) = true), zt 10]) (by kernel_rfl)
    (aq ⟨(dF g1), (dF g2), (dF g3), (dT g4), rfl, trivial⟩)
theorem f34h_5 (p : Post) (g1 : ¬p.id < 1) (g2 : ¬p.id > 1000000) (g3 : ¬p.rev < 0) (g4 : ¬p.rev ≥ p.id) (g5 : p.kind < 0) :
    cc (ev X E0) 63 [AV.agg (Post.cs p)] [] = some (AV.c (vi 1), []) :=
  cc_path (x := xf63) rfl (bs 18 false ++ bs 10 true)
    (c := rq [(4, decide (p.id < 1) = false), (4, decide (p.id > 1000000) = false), (6, decide (p.rev < 0) = false), (4, decide (p.rev ≥ p.id) = false), (4, decide (p.kind < 0) = true), zt 6]) (by kernel_rfl)
    (aq ⟨(dF g1), (dF g2), (dF g3), (dF g4), (dT g5), rfl, trivial⟩)
theorem f34h_6 (p : Post) (g1 : ¬p.id < 1) (g2 : ¬p.id > 1000000) (g3 : ¬p.rev < 0) (g4 : ¬p.rev ≥ p.id) (g5 : ¬p.kind < 0) (g6 : p.kind > 4) :
    cc (ev X E0) 63 [AV.agg (Post.cs p)] [] = some (AV.c (vi 1), []) :=
  cc_path (x := xf63) rfl (bs 22 false ++ bs 6 true)
    (c := rq [(4, decide (p.id < 1) = false), (4, decide (p.id > 1000000) = false), (6, decide (p.rev < 0) = false), (4, decide (p.rev ≥ p.id) = false), (4, decide (p.kind < 0) = false), (5, decide (p.kind > 4) = true), zt 1]) (by kernel_rfl)
    (aq ⟨(dF g1), (dF g2), (dF g3), (dF g4), (dF g5), (dT g6), rfl, trivial⟩)
theorem f34h_7 (p : Post) (g1 : ¬p.id < 1) (g2 : ¬p.id > 1000000) (g3 : ¬p.rev < 0) (g4 : ¬p.rev ≥ p.id) (g5 : ¬p.kind < 0) (g6 : ¬p.kind > 4) (g7 : (↑(List.length p.memo) : Int) > 32) :
    cc (ev X E0) 63 [AV.agg (Post.cs p)] [] = some (AV.c (vi 1), []) :=
  cc_path (x := xf63) rfl (bs 27 false ++ [.br true])
    (c := rq [(4, decide (p.id < 1) = false), (4, decide (p.id > 1000000) = false), (6, decide (p.rev < 0) = false), (4, decide (p.rev ≥ p.id) = false), (4, decide (p.kind < 0) = false), (5, decide (p.kind > 4) = false), (1, decide ((↑(List.length p.memo) : Int) > 32) = true)]) (by kernel_rfl)
    (aq ⟨(dF g1), (dF g2), (dF g3), (dF g4), (dF g5), (dF g6), (dT g7), trivial⟩)
abbrev f34_h1 (p : Post) (e : Int) : Prop := ¬(↑(List.length (List.map Leg.pv p.legs)) : Int) > 16 → cc (ev X E0) 106 [AV.sl p.so 3 (List.map Leg.pv p.legs)] [] = some (AV.i e, [])
theorem f34_8 (p : Post) (e : Int) (h : lv (cv (ev X E0) xf63_l0) m34 1 (S34 p 0) = some (XExit.exit 0, A34 p)) (_h1 : f34_h1 p e) (g1 : ¬p.id < 1) (g2 : ¬p.id > 1000000) (g3 : ¬p.rev < 0) (g4 : ¬p.rev ≥ p.id) (g5 : ¬p.kind < 0) (g6 : ¬p.kind > 4) (g7 : ¬(↑(List.length p.memo) : Int) > 32) (g8 : datOk p.known = false) :
    cc (ev X E0) 63 [AV.agg (Post.cs p)] [] = some (AV.c (vi 11), []) :=
  cc_path (x := xf63) rfl (bs 28 false ++ [.loop (XExit.exit 0) (St.mk (tmOf 84 [(1, AV.c (.ptr 0 0))]) [.cells (Post.cs p)]), .call (AV.c (.pv (.bool (datOk p.known)))) [], .call (AV.c (.pv (.bool (datOk p.value)))) []] ++ bs 4 true)
    (c := rq [(4, decide (p.id < 1) = false), (4, decide (p.id > 1000000) = false), (6, decide (p.rev < 0) = false), (4, decide (p.rev ≥ p.id) = false), (4, decide (p.kind < 0) = false), (5, decide (p.kind > 4) = false), (1, decide ((↑(List.length p.memo) : Int) > 32) = false), ty h, (1, cc (ev X E0) 54 [AV.c (vw p.known)] [] = some (AV.c (.pv (.bool (datOk p.known))), [])), (1, cc (ev X E0) 54 [AV.c (vw p.value)] [] = some (AV.c (.pv (.bool (datOk p.value))), [])), (3, (!datOk p.known) = true), zt 1]) (by kernel_rfl)
    (aq ⟨(dF g1), (dF g2), (dF g3), (dF g4), (dF g5), (dF g6), (dF g7), h, (s72 _), (s72 _), (not_t g8), rfl, trivial⟩)
theorem f34_9 (p : Post) (e : Int) (h : lv (cv (ev X E0) xf63_l0) m34 1 (S34 p 0) = some (XExit.exit 0, A34 p)) (_h1 : f34_h1 p e) (g1 : ¬p.id < 1) (g2 : ¬p.id > 1000000) (g3 : ¬p.rev < 0) (g4 : ¬p.rev ≥ p.id) (g5 : ¬p.kind < 0) (g6 : ¬p.kind > 4) (g7 : ¬(↑(List.length p.memo) : Int) > 32) (g8 : datOk p.known = true) (g9 : datOk p.value = false) :
    cc (ev X E0) 63 [AV.agg (Post.cs p)] [] = some (AV.c (vi 11), []) :=
  cc_path (x := xf63) rfl (bs 28 false ++ [.loop (XExit.exit 0) (St.mk (tmOf 84 [(1, AV.c (.ptr 0 0))]) [.cells (Post.cs p)]), .call (AV.c (.pv (.bool (datOk p.known)))) [], .call (AV.c (.pv (.bool (datOk p.value)))) []] ++ bs 3 false ++ [.br true])
    (c := rq [(4, decide (p.id < 1) = false), (4, decide (p.id > 1000000) = false), (6, decide (p.rev < 0) = false), (4, decide (p.rev ≥ p.id) = false), (4, decide (p.kind < 0) = false), (5, decide (p.kind > 4) = false), (1, decide ((↑(List.length p.memo) : Int) > 32) = false), ty h, (1, cc (ev X E0) 54 [AV.c (vw p.known)] [] = some (AV.c (.pv (.bool (datOk p.known))), [])), (1, cc (ev X E0) 54 [AV.c (vw p.value)] [] = some (AV.c (.pv (.bool (datOk p.value))), [])), (3, (!datOk p.known) = false), (1, (!datOk p.value) = true)]) (by kernel_rfl)
    (aq ⟨(dF g1), (dF g2), (dF g3), (dF g4), (dF g5), (dF g6), (dF g7), h, (s72 _), (s72 _), (not_f g8), (not_t g9), trivial⟩)
theorem f34_10 (p : Post) (e : Int) (h : lv (cv (ev X E0) xf63_l0) m34 1 (S34 p 0) = some (XExit.exit 0, A34 p)) (_h1 : f34_h1 p e) (g1 : ¬p.id < 1) (g2 : ¬p.id > 1000000) (g3 : ¬p.rev < 0) (g4 : ¬p.rev ≥ p.id) (g5 : ¬p.kind < 0) (g6 : ¬p.kind > 4) (g7 : ¬(↑(List.length p.memo) : Int) > 32) (g8 : datOk p.known = true) (g9 : datOk p.value = true) (g10 : (↑(List.length (List.map Leg.pv p.legs)) : Int) < 2) :
    cc (ev X E0) 63 [AV.agg (Post.cs p)] [] = some (AV.c (vi 2), []) :=
  cc_path (x := xf63) rfl (bs 28 false ++ [.loop (XExit.exit 0) (St.mk (tmOf 84 [(1, AV.c (.ptr 0 0))]) [.cells (Post.cs p)]), .call (AV.c (.pv (.bool (datOk p.known)))) [], .call (AV.c (.pv (.bool (datOk p.value)))) []] ++ bs 4 false ++ [.br true])
    (c := rq [(4, decide (p.id < 1) = false), (4, decide (p.id > 1000000) = false), (6, decide (p.rev < 0) = false), (4, decide (p.rev ≥ p.id) = false), (4, decide (p.kind < 0) = false), (5, decide (p.kind > 4) = false), (1, decide ((↑(List.length p.memo) : Int) > 32) = false), ty h, (1, cc (ev X E0) 54 [AV.c (vw p.known)] [] = some (AV.c (.pv (.bool (datOk p.known))), [])), (1, cc (ev X E0) 54 [AV.c (vw p.value)] [] = some (AV.c (.pv (.bool (datOk p.value))), [])), (3, (!datOk p.known) = false), (1, (!datOk p.value) = false), (1, decide ((↑(List.length (List.map Leg.pv p.legs)) : Int) < 2) = true)]) (by kernel_rfl)
    (aq ⟨(dF g1), (dF g2), (dF g3), (dF g4), (dF g5), (dF g6), (dF g7), h, (s72 _), (s72 _), (not_f g8), (not_f g9), (dT g10), trivial⟩)
theorem f34_11 (p : Post) (e : Int) (h : lv (cv (ev X E0) xf63_l0) m34 1 (S34 p 0) = some (XExit.exit 0, A34 p)) (_h1 : f34_h1 p e) (g1 : ¬p.id < 1) (g2 : ¬p.id > 1000000) (g3 : ¬p.rev < 0) (g4 : ¬p.rev ≥ p.id) (g5 : ¬p.kind < 0) (g6 : ¬p.kind > 4) (g7 : ¬(↑(List.length p.memo) : Int) > 32) (g8 : datOk p.known = true) (g9 : datOk p.value = true) (g10 : ¬(↑(List.length (List.map Leg.pv p.legs)) : Int) < 2) (g11 : (↑(List.length (List.map Leg.pv p.legs)) : Int) > 16) :
    cc (ev X E0) 63 [AV.agg (Post.cs p)] [] = some (AV.c (vi 4), []) :=
  cc_path (x := xf63) rfl (bs 28 false ++ [.loop (XExit.exit 0) (St.mk (tmOf 84 [(1, AV.c (.ptr 0 0))]) [.cells (Post.cs p)]), .call (AV.c (.pv (.bool (datOk p.known)))) [], .call (AV.c (.pv (.bool (datOk p.value)))) []] ++ bs 5 false ++ [.br true])
    (c := rq [(4, decide (p.id < 1) = false), (4, decide (p.id > 1000000) = false), (6, decide (p.rev < 0) = false), (4, decide (p.rev ≥ p.id) = false), (4, decide (p.kind < 0) = false), (5, decide (p.kind > 4) = false), (1, decide ((↑(List.length p.memo) : Int) > 32) = false), ty h, (1, cc (ev X E0) 54 [AV.c (vw p.known)] [] = some (AV.c (.pv (.bool (datOk p.known))), [])), (1, cc (ev X E0) 54 [AV.c (vw p.value)] [] = some (AV.c (.pv (.bool (datOk p.value))), [])), (3, (!datOk p.known) = false), (1, (!datOk p.value) = false), (1, decide ((↑(List.length (List.map Leg.pv p.legs)) : Int) < 2) = false), (1, decide ((↑(List.length (List.map Leg.pv p.legs)) : Int) > 16) = true)]) (by kernel_rfl)
    (aq ⟨(dF g1), (dF g2), (dF g3), (dF g4), (dF g5), (dF g6), (dF g7), h, (s72 _), (s72 _), (not_f g8), (not_f g9), (dF g10), (dT g11), trivial⟩)
theorem f34_12 (p : Post) (e : Int) (h : lv (cv (ev X E0) xf63_l0) m34 1 (S34 p 0) = some (XExit.exit 0, A34 p)) (h1 : f34_h1 p e) (g1 : ¬p.id < 1) (g2 : ¬p.id > 1000000) (g3 : ¬p.rev < 0) (g4 : ¬p.rev ≥ p.id) (g5 : ¬p.kind < 0) (g6 : ¬p.kind > 4) (g7 : ¬(↑(List.length p.memo) : Int) > 32) (g8 : datOk p.known = true) (g9 : datOk p.value = true) (g10 : ¬(↑(List.length (List.map Leg.pv p.legs)) : Int) < 2) (g11 : ¬(↑(List.length (List.map Leg.pv p.legs)) : Int) > 16) :
    cc (ev X E0) 63 [AV.agg (Post.cs p)] [] = some (AV.c (vi e), []) :=
  cc_path (x := xf63) rfl (bs 28 false ++ [.loop (XExit.exit 0) (St.mk (tmOf 84 [(1, AV.c (.ptr 0 0))]) [.cells (Post.cs p)]), .call (AV.c (.pv (.bool (datOk p.known)))) [], .call (AV.c (.pv (.bool (datOk p.value)))) []] ++ bs 6 false ++ [.call (AV.c (vi e)) []])
    (c := rq [(4, decide (p.id < 1) = false), (4, decide (p.id > 1000000) = false), (6, decide (p.rev < 0) = false), (4, decide (p.rev ≥ p.id) = false), (4, decide (p.kind < 0) = false), (5, decide (p.kind > 4) = false), (1, decide ((↑(List.length p.memo) : Int) > 32) = false), ty h, (1, cc (ev X E0) 54 [AV.c (vw p.known)] [] = some (AV.c (.pv (.bool (datOk p.known))), [])), (1, cc (ev X E0) 54 [AV.c (vw p.value)] [] = some (AV.c (.pv (.bool (datOk p.value))), [])), (3, (!datOk p.known) = false), (1, (!datOk p.value) = false), (1, decide ((↑(List.length (List.map Leg.pv p.legs)) : Int) < 2) = false), (1, decide ((↑(List.length (List.map Leg.pv p.legs)) : Int) > 16) = false), (1, cc (ev X E0) 106 [AV.c (.pv (.sl p.so 3 (List.map Leg.pv p.legs)))] [] = some (AV.c (vi e), []))]) (by kernel_rfl)
    (aq ⟨(dF g1), (dF g2), (dF g3), (dF g4), (dF g5), (dF g6), (dF g7), h, (s72 _), (s72 _), (not_f g8), (not_f g9), (dF g10), (dF g11), (h1 g11), trivial⟩)
theorem f34r_8 (p : Post) (h : lv (cv (ev X E0) xf63_l0) m34 1 (S34 p 0) = some (XExit.ret, R34 p)) (g1 : ¬p.id < 1) (g2 : ¬p.id > 1000000) (g3 : ¬p.rev < 0) (g4 : ¬p.rev ≥ p.id) (g5 : ¬p.kind < 0) (g6 : ¬p.kind > 4) (g7 : ¬(↑(List.length p.memo) : Int) > 32) :
    cc (ev X E0) 63 [AV.agg (Post.cs p)] [] = some (AV.c (vi 1), []) :=
  cc_path (x := xf63) rfl (bs 28 false ++ [.loop XExit.ret (St.mk (tmOf 84 [(2, AV.c (vi 1))]) [.cells (Post.cs p)])])
    (c := rq [(4, decide (p.id < 1) = false), (4, decide (p.id > 1000000) = false), (6, decide (p.rev < 0) = false), (4, decide (p.rev ≥ p.id) = false), (4, decide (p.kind < 0) = false), (5, decide (p.kind > 4) = false), (1, decide ((↑(List.length p.memo) : Int) > 32) = false), ty h]) (by kernel_rfl)
    (aq ⟨(dF g1), (dF g2), (dF g3), (dF g4), (dF g5), (dF g6), (dF g7), h, trivial⟩)
-- keep f34: 8 9 10 11 12
-- keep f34r: 8
theorem s34 (p : Post) (hm : p.memo.length ≤ 1000000) (hl : p.legs.length ≤ 4000000000000000000) : cc (ev X E0) 63 [Post.av p] [] = some (.i (chk p), []) := by
  have ha := a34 (p := p) hm
  by_cases c1 : p.id < 1
  · rw [f34h_1 p c1, chk, if_pos (by rw [headed, decide_eq_false (by omega), Bool.false_and])]
  by_cases c2 : p.id > 1000000
  · rw [f34h_2 p c1 c2, chk, if_pos (by rw [headed, decide_eq_false (by omega), Bool.false_and])]
  by_cases c3 : p.rev < 0
  · rw [f34h_3 p c1 c2 c3, chk, if_pos (by rw [headed, decide_eq_false (by omega), Bool.false_and])]
  by_cases c4 : p.rev ≥ p.id
  · rw [f34h_4 p c1 c2 c3 c4, chk, if_pos (by rw [headed, decide_eq_false (by omega), Bool.false_and])]
  by_cases c5 : p.kind < 0
  · rw [f34h_5 p c1 c2 c3 c4 c5, chk, if_pos (by rw [headed, decide_eq_false (by omega), Bool.false_and])]
  by_cases c6 : p.kind > 4
  · rw [f34h_6 p c1 c2 c3 c4 c5 c6, chk, if_pos (by rw [headed, decide_eq_false (by omega), Bool.false_and])]
  by_cases c7 : ((p.memo.length : Nat) : Int) > 32
  · rw [f34h_7 p c1 c2 c3 c4 c5 c6 c7, chk, if_pos (by rw [headed, decide_eq_false (by omega), Bool.false_and])]
  by_cases c8 : p.memo.any odd = true
  · rw [if_pos c8] at ha
    rw [f34r_8 p ha c1 c2 c3 c4 c5 c6 c7, chk, if_pos (by rw [headed, c8]; simp)]
  rw [if_neg c8] at ha
  have hh : headed p = true := by
    have c8' : p.memo.any odd = false := by simpa using c8
    rw [headed, c8', decide_eq_true (by omega)]; rfl
  rw [chk, if_neg (by simp [hh])]
  have h1 : ¬(↑(List.length (List.map Leg.pv (Post.legs p))) : Int) > 16 → cc (ev X E0) 106 [AV.sl p.so 3 (p.legs.map Leg.pv)] [] = some (.i (legsChk p.legs), []) := fun h => s73 (by rw [List.length_map] at h; omega)
  by_cases d1 : datOk p.known = false
  · rw [if_pos d1]; exact f34_8 p _ ha h1 c1 c2 c3 c4 c5 c6 c7 d1
  rw [if_neg d1]
  replace d1 : datOk p.known = true := by simpa using d1
  by_cases d2 : datOk p.value = false
  · rw [if_pos d2]; exact f34_9 p _ ha h1 c1 c2 c3 c4 c5 c6 c7 d1 d2
  rw [if_neg d2]
  replace d2 : datOk p.value = true := by simpa using d2
  by_cases d3 : p.legs.length < 2
  · rw [if_pos d3]; exact f34_10 p _ ha h1 c1 c2 c3 c4 c5 c6 c7 d1 d2 (by rw [List.length_map]; omega)
  rw [if_neg d3]
  by_cases d4 : 16 < p.legs.length
  · rw [if_pos d4]; exact f34_11 p _ ha h1 c1 c2 c3 c4 c5 c6 c7 d1 d2 (by rw [List.length_map]; omega) (by rw [List.length_map]; omega)
  rw [if_neg d4]
  exact f34_12 p _ ha h1 c1 c2 c3 c4 c5 c6 c7 d1 d2 (by rw [List.length_map]; omega) (by rw [List.length_map]; omega)
end Go.Sx.Tryd
