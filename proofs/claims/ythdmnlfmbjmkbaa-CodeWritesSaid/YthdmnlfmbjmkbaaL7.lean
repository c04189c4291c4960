/- The law CodeWrites, in the evaluator: any values, written, make the bytes that the document tells of each. -/
import Derived.Test.YthdmnlfmbjmkbaaR7
namespace Go.Sx.Try
open Go Go.Sx
theorem alive_true : ev X E0 9 [] [] = some (.b true, []) := ev_of (n := 40) (by kernel_rfl)
theorem alive : cc (ev X E0) 9 [] [] = some (.b true, []) := by show (ev X E0 9 [] []).bind canon = _; rw [alive_true]; rfl

/-! ### fits -/
abbrev S8 (l : List Val) (i : Int) : St := St.mk (tmOf 20 [(0, AV.c (CV.pv (PV.sl SO.shut 6 (List.map Val.pv l)))), (3, AV.c (CV.pv (PV.int .i64 i)))]) []
theorem fl_1 (l : List Val) (i : Int) (y1 : Val) (g1 : i < (↑(List.length (List.map Val.pv l)) : Int)) (g2 : 0 ≤ i) (g3 : l[Int.toNat i]? = some y1) (g4 : (↑(List.length (Val.s y1)) : Int) > 400) :
    lv (cv (ev X E0) xf8_l0) [true, false, false, true] 0 (St.mk (tmOf 20 [(0, AV.c (CV.pv (PV.sl SO.shut 6 (List.map Val.pv l)))), (3, AV.c (CV.pv (PV.int .i64 i)))]) []) = some (XExit.ret, St.mk (tmOf 20 [(0, AV.c (CV.pv (PV.sl SO.shut 6 (List.map Val.pv l)))), (2, AV.c (CV.pv (PV.bool false))), (3, AV.c (CV.pv (PV.int .i64 i)))]) []) :=
  lv_ret [It.br true, It.el (PV.agg [PV.int .u8 (Val.kind y1), PV.int .u64 (Val.u y1), PV.int .i64 (Val.n y1), PV.str (Val.s y1), PV.int .i64 (Val.c y1), PV.int .i64 (Val.m y1)]), It.br true]
    (c := [decide (i < (↑(List.length (List.map Val.pv l)) : Int)) = true, 0 ≤ i, (List.map Val.pv l)[Int.toNat i]? = some (PV.agg [PV.int .u8 (Val.kind y1), PV.int .u64 (Val.u y1), PV.int .i64 (Val.n y1), PV.str (Val.s y1), PV.int .i64 (Val.c y1), PV.int .i64 (Val.m y1)]), decide ((↑(List.length (Val.s y1)) : Int) > 400) = true]) (by kernel_rfl)
    ⟨(decide_eq_true g1), g2, (map_at g3), (decide_eq_true g4), trivial⟩
theorem fl_2 (l : List Val) (i : Int) (y1 : Val) (g1 : i < (↑(List.length (List.map Val.pv l)) : Int)) (g2 : 0 ≤ i) (g3 : l[Int.toNat i]? = some y1) (g4 : ¬(↑(List.length (Val.s y1)) : Int) > 400) :
    lv (cv (ev X E0) xf8_l0) [true, false, false, true] 0 (St.mk (tmOf 20 [(0, AV.c (CV.pv (PV.sl SO.shut 6 (List.map Val.pv l)))), (3, AV.c (CV.pv (PV.int .i64 i)))]) []) = lv (cv (ev X E0) xf8_l0) [true, false, false, true] 0 (St.mk (tmOf 20 [(0, AV.c (CV.pv (PV.sl SO.shut 6 (List.map Val.pv l)))), (3, AV.c (CV.pv (PV.int .i64 (IntKind.wrap .i64 (i + 1)))))]) []) :=
  lv_next [It.br true, It.el (PV.agg [PV.int .u8 (Val.kind y1), PV.int .u64 (Val.u y1), PV.int .i64 (Val.n y1), PV.str (Val.s y1), PV.int .i64 (Val.c y1), PV.int .i64 (Val.m y1)]), It.br false]
    (c := [decide (i < (↑(List.length (List.map Val.pv l)) : Int)) = true, 0 ≤ i, (List.map Val.pv l)[Int.toNat i]? = some (PV.agg [PV.int .u8 (Val.kind y1), PV.int .u64 (Val.u y1), PV.int .i64 (Val.n y1), PV.str (Val.s y1), PV.int .i64 (Val.c y1), PV.int .i64 (Val.m y1)]), decide ((↑(List.length (Val.s y1)) : Int) > 400) = false]) (by kernel_rfl)
    ⟨(decide_eq_true g1), g2, (map_at g3), (decide_eq_false g4), trivial⟩
theorem fl_3 (l : List Val) (i : Int) (g1 : ¬i < (↑(List.length (List.map Val.pv l)) : Int)) :
    lv (cv (ev X E0) xf8_l0) [true, false, false, true] 0 (St.mk (tmOf 20 [(0, AV.c (CV.pv (PV.sl SO.shut 6 (List.map Val.pv l)))), (3, AV.c (CV.pv (PV.int .i64 i)))]) []) = some (XExit.exit 0, St.mk (tmOf 20 [(0, AV.c (CV.pv (PV.sl SO.shut 6 (List.map Val.pv l)))), (3, AV.c (CV.pv (PV.int .i64 i)))]) []) :=
  lv_exit [It.br false]
    (c := [decide (i < (↑(List.length (List.map Val.pv l)) : Int)) = false]) (by kernel_rfl)
    ⟨(decide_eq_false g1), trivial⟩
/-- The place of the first that is too long. -/
def badAt : List Val → Int → Int
  | [], i => i
  | v :: r, i => if v.s.length > 400 then i else badAt r (i + 1)
def long (v : Val) : Bool := decide (v.s.length > 400)
theorem fl_ok (l : List Val) (hl : l.length ≤ 60) : ∀ (r pre : List Val), l = pre ++ r → r.any long = false →
    lv (cv (ev X E0) xf8_l0) [true, false, false, true] 0 (S8 l pre.length) = some (.exit 0, S8 l l.length)
  | [], pre, h, _ => by
    rw [List.append_nil] at h
    subst h
    exact fl_3 l _ (by simp)
  | y :: r, pre, h, hb => by
    have hlen : l.length = pre.length + r.length + 1 := by rw [h]; simp; omega
    simp only [List.any_cons, Bool.or_eq_false_iff] at hb
    have hy : ¬ y.s.length > 400 := by have := hb.1; simpa [long] using this
    rw [fl_2 l _ y (by simp; omega) (by omega) (by rw [h]; exact at_pre pre y r) (by omega), wi64 (by omega) (by omega)]
    have := fl_ok l hl r (pre ++ [y]) (by rw [h]; simp) hb.2
    rw [List.length_append, List.length_singleton] at this
    exact this
theorem fl_bad (l : List Val) (hl : l.length ≤ 60) : ∀ (r pre : List Val), l = pre ++ r → r.any long = true →
    lv (cv (ev X E0) xf8_l0) [true, false, false, true] 0 (S8 l pre.length) = some (.ret, St.mk (tmOf 20 [(0, AV.c (CV.pv (PV.sl SO.shut 6 (List.map Val.pv l)))), (2, AV.c (CV.pv (PV.bool false))), (3, AV.c (CV.pv (PV.int .i64 (badAt r pre.length))))]) [])
  | [], pre, h, hb => by simp at hb
  | y :: r, pre, h, hb => by
    have hlen : l.length = pre.length + r.length + 1 := by rw [h]; simp; omega
    simp only [badAt]
    by_cases hy : y.s.length > 400
    · rw [if_pos hy]
      exact fl_1 l _ y (by simp; omega) (by omega) (by rw [h]; exact at_pre pre y r) (by omega)
    · have hb : r.any long = true := by simpa [long, hy] using hb
      rw [if_neg hy, fl_2 l _ y (by simp; omega) (by omega) (by rw [h]; exact at_pre pre y r) (by omega), wi64 (by omega) (by omega)]
      have := fl_bad l hl r (pre ++ [y]) (by rw [h]; simp) hb
      rw [List.length_append, List.length_singleton] at this
      exact this
theorem fl_ok0 (l : List Val) (hl : l.length ≤ 60) (hb : l.any long = false) :
    lv (cv (ev X E0) xf8_l0) [true, false, false, true] 0 (St.mk (tmOf 20 [(0, AV.c (CV.pv (PV.sl SO.shut 6 (List.map Val.pv l)))), (3, AV.c (CV.pv (PV.int .i64 0)))]) []) = some (.exit 0, S8 l l.length) := fl_ok l hl l [] rfl hb
theorem fl_bad0 (l : List Val) (hl : l.length ≤ 60) (hb : l.any long = true) :
    lv (cv (ev X E0) xf8_l0) [true, false, false, true] 0 (St.mk (tmOf 20 [(0, AV.c (CV.pv (PV.sl SO.shut 6 (List.map Val.pv l)))), (3, AV.c (CV.pv (PV.int .i64 0)))]) []) = some (.ret, St.mk (tmOf 20 [(0, AV.c (CV.pv (PV.sl SO.shut 6 (List.map Val.pv l)))), (2, AV.c (CV.pv (PV.bool false))), (3, AV.c (CV.pv (PV.int .i64 (badAt l 0))))]) []) := fl_bad l hl l [] rfl hb
theorem fi_1 (l : List Val) (g1 : (↑(List.length (List.map Val.pv l)) : Int) > 60) :
    cc (ev X E0) 8 [AV.c (CV.pv (PV.sl SO.shut 6 (List.map Val.pv l)))] [] = some (AV.c (CV.pv (PV.bool false)), []) :=
  cc_path (x := xf8) rfl [It.br true]
    (c := [decide ((↑(List.length (List.map Val.pv l)) : Int) > 60) = true]) (by kernel_rfl)
    ⟨(decide_eq_true g1), trivial⟩
theorem fi_2 (l : List Val) (g1 : ¬(↑(List.length (List.map Val.pv l)) : Int) > 60) (g2 : List.length l ≤ 60) (g3 : List.any l long = false) :
    cc (ev X E0) 8 [AV.c (CV.pv (PV.sl SO.shut 6 (List.map Val.pv l)))] [] = some (AV.c (CV.pv (PV.bool true)), []) :=
  cc_path (x := xf8) rfl [It.br false, It.loop (XExit.exit 0) (St.mk (tmOf 20 [(0, AV.c (CV.pv (PV.sl SO.shut 6 (List.map Val.pv l)))), (3, AV.c (CV.pv (PV.int .i64 (↑(List.length l) : Int))))]) [])]
    (c := [decide ((↑(List.length (List.map Val.pv l)) : Int) > 60) = false, lv (cv (ev X E0) xf8_l0) [true, false, false, true] 0 (St.mk (tmOf 20 [(0, AV.c (CV.pv (PV.sl SO.shut 6 (List.map Val.pv l)))), (3, AV.c (CV.pv (PV.int .i64 0)))]) []) = some (XExit.exit 0, St.mk (tmOf 20 [(0, AV.c (CV.pv (PV.sl SO.shut 6 (List.map Val.pv l)))), (3, AV.c (CV.pv (PV.int .i64 (↑(List.length l) : Int))))]) [])]) (by kernel_rfl)
    ⟨(decide_eq_false g1), (fl_ok0 _ g2 g3), trivial⟩
theorem fi_3 (l : List Val) (g1 : ¬(↑(List.length (List.map Val.pv l)) : Int) > 60) (g2 : List.length l ≤ 60) (g3 : List.any l long = true) :
    cc (ev X E0) 8 [AV.c (CV.pv (PV.sl SO.shut 6 (List.map Val.pv l)))] [] = some (AV.c (CV.pv (PV.bool false)), []) :=
  cc_path (x := xf8) rfl [It.br false, It.loop XExit.ret (St.mk (tmOf 20 [(0, AV.c (CV.pv (PV.sl SO.shut 6 (List.map Val.pv l)))), (2, AV.c (CV.pv (PV.bool false))), (3, AV.c (CV.pv (PV.int .i64 (badAt l 0))))]) [])]
    (c := [decide ((↑(List.length (List.map Val.pv l)) : Int) > 60) = false, lv (cv (ev X E0) xf8_l0) [true, false, false, true] 0 (St.mk (tmOf 20 [(0, AV.c (CV.pv (PV.sl SO.shut 6 (List.map Val.pv l)))), (3, AV.c (CV.pv (PV.int .i64 0)))]) []) = some (XExit.ret, St.mk (tmOf 20 [(0, AV.c (CV.pv (PV.sl SO.shut 6 (List.map Val.pv l)))), (2, AV.c (CV.pv (PV.bool false))), (3, AV.c (CV.pv (PV.int .i64 (badAt l 0))))]) [])]) (by kernel_rfl)
    ⟨(decide_eq_false g1), (fl_bad0 _ g2 g3), trivial⟩
theorem la_1 (l : List Val) (i : Int) (y1 : Val) (g1 : i < (↑(List.length (List.map Val.pv l)) : Int)) (g2 : 0 ≤ i) (g3 : l[Int.toNat i]? = some y1) (g4 : Val.Ok y1) (g5 : List.length (Val.s y1) ≤ 400) (g6 : ¬Int.tmod (Val.kind y1) 5 = 3) (g7 : pvBytes (wv y1) = []) :
    lv (cv (ev X E0) xf3_l0) [true, false, false, false, true, true, true] 1 (St.mk (tmOf 56 [(0, AV.c (CV.pv (PV.sl SO.shut 6 (List.map Val.pv l)))), (4, AV.c (CV.ptr 0 0)), (5, AV.c (CV.pv (PV.sl SO.nil 0 []))), (6, AV.c (CV.pv (PV.int .i64 i)))]) [Box.cells [CV.pv (PV.sl SO.nil 0 [])]]) = lv (cv (ev X E0) xf3_l0) [true, false, false, false, true, true, true] 1 (St.mk (tmOf 56 [(0, AV.c (CV.pv (PV.sl SO.shut 6 (List.map Val.pv l)))), (4, AV.c (CV.ptr 0 0)), (5, AV.c (CV.pv (PV.sl SO.nil 0 []))), (6, AV.c (CV.pv (PV.int .i64 (IntKind.wrap .i64 (i + 1)))))]) [Box.cells [CV.own 1664 1 (pvBytes (wv y1))]]) :=
  lv_next [It.br true, It.el (PV.agg [PV.int .u8 (Val.kind y1), PV.int .u64 (Val.u y1), PV.int .i64 (Val.n y1), PV.str (Val.s y1), PV.int .i64 (Val.c y1), PV.int .i64 (Val.m y1)]), It.call (AV.tup []) [Box.cells [CV.own 0 1 (pvBytes (wv y1))]], It.el (PV.agg [PV.int .u8 (Val.kind y1), PV.int .u64 (Val.u y1), PV.int .i64 (Val.n y1), PV.str (Val.s y1), PV.int .i64 (Val.c y1), PV.int .i64 (Val.m y1)]), It.call (AV.c (CV.pv (PV.sl SO.shut 1 (pvBytes (wv y1))))) [], It.emp true]
    (c := [decide (i < (↑(List.length (List.map Val.pv l)) : Int)) = true, 0 ≤ i, (List.map Val.pv l)[Int.toNat i]? = some (PV.agg [PV.int .u8 (Val.kind y1), PV.int .u64 (Val.u y1), PV.int .i64 (Val.n y1), PV.str (Val.s y1), PV.int .i64 (Val.c y1), PV.int .i64 (Val.m y1)]), cc (ev X E0) 11 [AV.c (CV.ptr 0 0), AV.agg [CV.pv (PV.int .u8 (Val.kind y1)), CV.pv (PV.int .u64 (Val.u y1)), CV.pv (PV.int .i64 (Val.n y1)), CV.pv (PV.str (Val.s y1)), CV.pv (PV.int .i64 (Val.c y1)), CV.pv (PV.int .i64 (Val.m y1))]] [Box.cells [CV.pv (PV.sl SO.nil 0 [])]] = some (AV.tup [], [Box.cells [CV.own 0 1 (pvBytes (wv y1))]]), 0 ≤ i, (List.map Val.pv l)[Int.toNat i]? = some (PV.agg [PV.int .u8 (Val.kind y1), PV.int .u64 (Val.u y1), PV.int .i64 (Val.n y1), PV.str (Val.s y1), PV.int .i64 (Val.c y1), PV.int .i64 (Val.m y1)]), cc (ev X E0) 12 [AV.agg [CV.pv (PV.int .u8 (Val.kind y1)), CV.pv (PV.int .u64 (Val.u y1)), CV.pv (PV.int .i64 (Val.n y1)), CV.pv (PV.str (Val.s y1)), CV.pv (PV.int .i64 (Val.c y1)), CV.pv (PV.int .i64 (Val.m y1))]] [] = some (AV.c (CV.pv (PV.sl SO.shut 1 (pvBytes (wv y1)))), []), pvBytes (wv y1) = []]) (by kernel_rfl)
    ⟨(decide_eq_true g1), g2, (map_at g3), (write_nil _ _ g4 g5), g2, (map_at g3), (want_not3 _ g4 g5 g6), g7, trivial⟩
theorem la_2 (l : List Val) (i : Int) (y1 : Val) (g1 : i < (↑(List.length (List.map Val.pv l)) : Int)) (g2 : 0 ≤ i) (g3 : l[Int.toNat i]? = some y1) (g4 : Val.Ok y1) (g5 : List.length (Val.s y1) ≤ 400) (g6 : ¬Int.tmod (Val.kind y1) 5 = 3) (g7 : pvBytes (wv y1) ≠ []) (g8 : (↑(0 + List.length (pvBytes (wv y1))) : Int) * 1 ≤ 140737488355328) :
    lv (cv (ev X E0) xf3_l0) [true, false, false, false, true, true, true] 1 (St.mk (tmOf 56 [(0, AV.c (CV.pv (PV.sl SO.shut 6 (List.map Val.pv l)))), (4, AV.c (CV.ptr 0 0)), (5, AV.c (CV.pv (PV.sl SO.nil 0 []))), (6, AV.c (CV.pv (PV.int .i64 i)))]) [Box.cells [CV.pv (PV.sl SO.nil 0 [])]]) = lv (cv (ev X E0) xf3_l0) [true, false, false, false, true, true, true] 1 (St.mk (tmOf 56 [(0, AV.c (CV.pv (PV.sl SO.shut 6 (List.map Val.pv l)))), (4, AV.c (CV.ptr 0 0)), (5, AV.c (CV.own 2175 1 ([] ++ pvBytes (wv y1)))), (6, AV.c (CV.pv (PV.int .i64 (IntKind.wrap .i64 (i + 1)))))]) [Box.cells [CV.own 1664 1 (pvBytes (wv y1))]]) :=
  lv_next [It.br true, It.el (PV.agg [PV.int .u8 (Val.kind y1), PV.int .u64 (Val.u y1), PV.int .i64 (Val.n y1), PV.str (Val.s y1), PV.int .i64 (Val.c y1), PV.int .i64 (Val.m y1)]), It.call (AV.tup []) [Box.cells [CV.own 0 1 (pvBytes (wv y1))]], It.el (PV.agg [PV.int .u8 (Val.kind y1), PV.int .u64 (Val.u y1), PV.int .i64 (Val.n y1), PV.str (Val.s y1), PV.int .i64 (Val.c y1), PV.int .i64 (Val.m y1)]), It.call (AV.c (CV.pv (PV.sl SO.shut 1 (pvBytes (wv y1))))) [], It.emp false]
    (c := [decide (i < (↑(List.length (List.map Val.pv l)) : Int)) = true, 0 ≤ i, (List.map Val.pv l)[Int.toNat i]? = some (PV.agg [PV.int .u8 (Val.kind y1), PV.int .u64 (Val.u y1), PV.int .i64 (Val.n y1), PV.str (Val.s y1), PV.int .i64 (Val.c y1), PV.int .i64 (Val.m y1)]), cc (ev X E0) 11 [AV.c (CV.ptr 0 0), AV.agg [CV.pv (PV.int .u8 (Val.kind y1)), CV.pv (PV.int .u64 (Val.u y1)), CV.pv (PV.int .i64 (Val.n y1)), CV.pv (PV.str (Val.s y1)), CV.pv (PV.int .i64 (Val.c y1)), CV.pv (PV.int .i64 (Val.m y1))]] [Box.cells [CV.pv (PV.sl SO.nil 0 [])]] = some (AV.tup [], [Box.cells [CV.own 0 1 (pvBytes (wv y1))]]), 0 ≤ i, (List.map Val.pv l)[Int.toNat i]? = some (PV.agg [PV.int .u8 (Val.kind y1), PV.int .u64 (Val.u y1), PV.int .i64 (Val.n y1), PV.str (Val.s y1), PV.int .i64 (Val.c y1), PV.int .i64 (Val.m y1)]), cc (ev X E0) 12 [AV.agg [CV.pv (PV.int .u8 (Val.kind y1)), CV.pv (PV.int .u64 (Val.u y1)), CV.pv (PV.int .i64 (Val.n y1)), CV.pv (PV.str (Val.s y1)), CV.pv (PV.int .i64 (Val.c y1)), CV.pv (PV.int .i64 (Val.m y1))]] [] = some (AV.c (CV.pv (PV.sl SO.shut 1 (pvBytes (wv y1)))), []), pvBytes (wv y1) ≠ [], (↑(0 + List.length (pvBytes (wv y1))) : Int) * 1 ≤ 140737488355328]) (by kernel_rfl)
    ⟨(decide_eq_true g1), g2, (map_at g3), (write_nil _ _ g4 g5), g2, (map_at g3), (want_not3 _ g4 g5 g6), g7, g8, trivial⟩
theorem la_3 (l : List Val) (i : Int) (y1 : Val) (g1 : i < (↑(List.length (List.map Val.pv l)) : Int)) (g2 : 0 ≤ i) (g3 : l[Int.toNat i]? = some y1) (g4 : Val.Ok y1) (g5 : List.length (Val.s y1) ≤ 400) (g6 : Int.tmod (Val.kind y1) 5 = 3) (g7 : pvBytes (wv y1) = []) :
    lv (cv (ev X E0) xf3_l0) [true, false, false, false, true, true, true] 1 (St.mk (tmOf 56 [(0, AV.c (CV.pv (PV.sl SO.shut 6 (List.map Val.pv l)))), (4, AV.c (CV.ptr 0 0)), (5, AV.c (CV.pv (PV.sl SO.nil 0 []))), (6, AV.c (CV.pv (PV.int .i64 i)))]) [Box.cells [CV.pv (PV.sl SO.nil 0 [])]]) = lv (cv (ev X E0) xf3_l0) [true, false, false, false, true, true, true] 1 (St.mk (tmOf 56 [(0, AV.c (CV.pv (PV.sl SO.shut 6 (List.map Val.pv l)))), (4, AV.c (CV.ptr 0 0)), (5, AV.c (CV.pv (PV.sl SO.nil 0 []))), (6, AV.c (CV.pv (PV.int .i64 (IntKind.wrap .i64 (i + 1)))))]) [Box.cells [CV.own 1664 1 (pvBytes (wv y1))]]) :=
  lv_next [It.br true, It.el (PV.agg [PV.int .u8 (Val.kind y1), PV.int .u64 (Val.u y1), PV.int .i64 (Val.n y1), PV.str (Val.s y1), PV.int .i64 (Val.c y1), PV.int .i64 (Val.m y1)]), It.call (AV.tup []) [Box.cells [CV.own 0 1 (pvBytes (wv y1))]], It.el (PV.agg [PV.int .u8 (Val.kind y1), PV.int .u64 (Val.u y1), PV.int .i64 (Val.n y1), PV.str (Val.s y1), PV.int .i64 (Val.c y1), PV.int .i64 (Val.m y1)]), It.call (AV.c (CV.pv (PV.sl SO.full 1 (pvBytes (wv y1))))) [], It.emp true]
    (c := [decide (i < (↑(List.length (List.map Val.pv l)) : Int)) = true, 0 ≤ i, (List.map Val.pv l)[Int.toNat i]? = some (PV.agg [PV.int .u8 (Val.kind y1), PV.int .u64 (Val.u y1), PV.int .i64 (Val.n y1), PV.str (Val.s y1), PV.int .i64 (Val.c y1), PV.int .i64 (Val.m y1)]), cc (ev X E0) 11 [AV.c (CV.ptr 0 0), AV.agg [CV.pv (PV.int .u8 (Val.kind y1)), CV.pv (PV.int .u64 (Val.u y1)), CV.pv (PV.int .i64 (Val.n y1)), CV.pv (PV.str (Val.s y1)), CV.pv (PV.int .i64 (Val.c y1)), CV.pv (PV.int .i64 (Val.m y1))]] [Box.cells [CV.pv (PV.sl SO.nil 0 [])]] = some (AV.tup [], [Box.cells [CV.own 0 1 (pvBytes (wv y1))]]), 0 ≤ i, (List.map Val.pv l)[Int.toNat i]? = some (PV.agg [PV.int .u8 (Val.kind y1), PV.int .u64 (Val.u y1), PV.int .i64 (Val.n y1), PV.str (Val.s y1), PV.int .i64 (Val.c y1), PV.int .i64 (Val.m y1)]), cc (ev X E0) 12 [AV.agg [CV.pv (PV.int .u8 (Val.kind y1)), CV.pv (PV.int .u64 (Val.u y1)), CV.pv (PV.int .i64 (Val.n y1)), CV.pv (PV.str (Val.s y1)), CV.pv (PV.int .i64 (Val.c y1)), CV.pv (PV.int .i64 (Val.m y1))]] [] = some (AV.c (CV.pv (PV.sl SO.full 1 (pvBytes (wv y1)))), []), pvBytes (wv y1) = []]) (by kernel_rfl)
    ⟨(decide_eq_true g1), g2, (map_at g3), (write_nil _ _ g4 g5), g2, (map_at g3), (want_3 _ g4 g6), g7, trivial⟩
theorem la_4 (l : List Val) (i : Int) (y1 : Val) (g1 : i < (↑(List.length (List.map Val.pv l)) : Int)) (g2 : 0 ≤ i) (g3 : l[Int.toNat i]? = some y1) (g4 : Val.Ok y1) (g5 : List.length (Val.s y1) ≤ 400) (g6 : Int.tmod (Val.kind y1) 5 = 3) (g7 : pvBytes (wv y1) ≠ []) (g8 : (↑(0 + List.length (pvBytes (wv y1))) : Int) * 1 ≤ 140737488355328) :
    lv (cv (ev X E0) xf3_l0) [true, false, false, false, true, true, true] 1 (St.mk (tmOf 56 [(0, AV.c (CV.pv (PV.sl SO.shut 6 (List.map Val.pv l)))), (4, AV.c (CV.ptr 0 0)), (5, AV.c (CV.pv (PV.sl SO.nil 0 []))), (6, AV.c (CV.pv (PV.int .i64 i)))]) [Box.cells [CV.pv (PV.sl SO.nil 0 [])]]) = lv (cv (ev X E0) xf3_l0) [true, false, false, false, true, true, true] 1 (St.mk (tmOf 56 [(0, AV.c (CV.pv (PV.sl SO.shut 6 (List.map Val.pv l)))), (4, AV.c (CV.ptr 0 0)), (5, AV.c (CV.own 2175 1 ([] ++ pvBytes (wv y1)))), (6, AV.c (CV.pv (PV.int .i64 (IntKind.wrap .i64 (i + 1)))))]) [Box.cells [CV.own 1664 1 (pvBytes (wv y1))]]) :=
  lv_next [It.br true, It.el (PV.agg [PV.int .u8 (Val.kind y1), PV.int .u64 (Val.u y1), PV.int .i64 (Val.n y1), PV.str (Val.s y1), PV.int .i64 (Val.c y1), PV.int .i64 (Val.m y1)]), It.call (AV.tup []) [Box.cells [CV.own 0 1 (pvBytes (wv y1))]], It.el (PV.agg [PV.int .u8 (Val.kind y1), PV.int .u64 (Val.u y1), PV.int .i64 (Val.n y1), PV.str (Val.s y1), PV.int .i64 (Val.c y1), PV.int .i64 (Val.m y1)]), It.call (AV.c (CV.pv (PV.sl SO.full 1 (pvBytes (wv y1))))) [], It.emp false]
    (c := [decide (i < (↑(List.length (List.map Val.pv l)) : Int)) = true, 0 ≤ i, (List.map Val.pv l)[Int.toNat i]? = some (PV.agg [PV.int .u8 (Val.kind y1), PV.int .u64 (Val.u y1), PV.int .i64 (Val.n y1), PV.str (Val.s y1), PV.int .i64 (Val.c y1), PV.int .i64 (Val.m y1)]), cc (ev X E0) 11 [AV.c (CV.ptr 0 0), AV.agg [CV.pv (PV.int .u8 (Val.kind y1)), CV.pv (PV.int .u64 (Val.u y1)), CV.pv (PV.int .i64 (Val.n y1)), CV.pv (PV.str (Val.s y1)), CV.pv (PV.int .i64 (Val.c y1)), CV.pv (PV.int .i64 (Val.m y1))]] [Box.cells [CV.pv (PV.sl SO.nil 0 [])]] = some (AV.tup [], [Box.cells [CV.own 0 1 (pvBytes (wv y1))]]), 0 ≤ i, (List.map Val.pv l)[Int.toNat i]? = some (PV.agg [PV.int .u8 (Val.kind y1), PV.int .u64 (Val.u y1), PV.int .i64 (Val.n y1), PV.str (Val.s y1), PV.int .i64 (Val.c y1), PV.int .i64 (Val.m y1)]), cc (ev X E0) 12 [AV.agg [CV.pv (PV.int .u8 (Val.kind y1)), CV.pv (PV.int .u64 (Val.u y1)), CV.pv (PV.int .i64 (Val.n y1)), CV.pv (PV.str (Val.s y1)), CV.pv (PV.int .i64 (Val.c y1)), CV.pv (PV.int .i64 (Val.m y1))]] [] = some (AV.c (CV.pv (PV.sl SO.full 1 (pvBytes (wv y1)))), []), pvBytes (wv y1) ≠ [], (↑(0 + List.length (pvBytes (wv y1))) : Int) * 1 ≤ 140737488355328]) (by kernel_rfl)
    ⟨(decide_eq_true g1), g2, (map_at g3), (write_nil _ _ g4 g5), g2, (map_at g3), (want_3 _ g4 g6), g7, g8, trivial⟩
theorem la_5 (l : List Val) (i : Int) (g1 : ¬i < (↑(List.length (List.map Val.pv l)) : Int)) :
    lv (cv (ev X E0) xf3_l0) [true, false, false, false, true, true, true] 1 (St.mk (tmOf 56 [(0, AV.c (CV.pv (PV.sl SO.shut 6 (List.map Val.pv l)))), (4, AV.c (CV.ptr 0 0)), (5, AV.c (CV.pv (PV.sl SO.nil 0 []))), (6, AV.c (CV.pv (PV.int .i64 i)))]) [Box.cells [CV.pv (PV.sl SO.nil 0 [])]]) = some (XExit.exit 0, St.mk (tmOf 56 [(0, AV.c (CV.pv (PV.sl SO.shut 6 (List.map Val.pv l)))), (4, AV.c (CV.ptr 0 0)), (5, AV.c (CV.pv (PV.sl SO.nil 0 []))), (6, AV.c (CV.pv (PV.int .i64 i)))]) [Box.cells [CV.pv (PV.sl SO.nil 0 [])]]) :=
  lv_exit [It.br false]
    (c := [decide (i < (↑(List.length (List.map Val.pv l)) : Int)) = false]) (by kernel_rfl)
    ⟨(decide_eq_false g1), trivial⟩
theorem lb_1 (l : List Val) (i : Int) (a : List UInt8) (b : List UInt8) (y1 : Val) (g1 : i < (↑(List.length (List.map Val.pv l)) : Int)) (g2 : 0 ≤ i) (g3 : l[Int.toNat i]? = some y1) (g4 : Val.Ok y1) (g5 : List.length (Val.s y1) ≤ 400) (g6 : List.length b ≤ 100000000) (g7 : ¬Int.tmod (Val.kind y1) 5 = 3) (g8 : (↑(List.length (pvBytes a) + List.length (pvBytes (wv y1))) : Int) * 1 ≤ 140737488355328) :
    lv (cv (ev X E0) xf3_l0) [true, false, false, false, true, true, true] 1 (St.mk (tmOf 56 [(0, AV.c (CV.pv (PV.sl SO.shut 6 (List.map Val.pv l)))), (4, AV.c (CV.ptr 0 0)), (5, AV.c (CV.own 2175 1 (pvBytes a))), (6, AV.c (CV.pv (PV.int .i64 i)))]) [Box.cells [CV.own 1664 1 (pvBytes b)]]) = lv (cv (ev X E0) xf3_l0) [true, false, false, false, true, true, true] 1 (St.mk (tmOf 56 [(0, AV.c (CV.pv (PV.sl SO.shut 6 (List.map Val.pv l)))), (4, AV.c (CV.ptr 0 0)), (5, AV.c (CV.own 2175 1 (pvBytes a ++ pvBytes (wv y1)))), (6, AV.c (CV.pv (PV.int .i64 (IntKind.wrap .i64 (i + 1)))))]) [Box.cells [CV.own 1664 1 (pvBytes (b ++ wv y1))]]) :=
  lv_next [It.br true, It.el (PV.agg [PV.int .u8 (Val.kind y1), PV.int .u64 (Val.u y1), PV.int .i64 (Val.n y1), PV.str (Val.s y1), PV.int .i64 (Val.c y1), PV.int .i64 (Val.m y1)]), It.call (AV.tup []) [Box.cells [CV.own 0 1 (pvBytes (b ++ wv y1))]], It.el (PV.agg [PV.int .u8 (Val.kind y1), PV.int .u64 (Val.u y1), PV.int .i64 (Val.n y1), PV.str (Val.s y1), PV.int .i64 (Val.c y1), PV.int .i64 (Val.m y1)]), It.call (AV.c (CV.pv (PV.sl SO.shut 1 (pvBytes (wv y1))))) []]
    (c := [decide (i < (↑(List.length (List.map Val.pv l)) : Int)) = true, 0 ≤ i, (List.map Val.pv l)[Int.toNat i]? = some (PV.agg [PV.int .u8 (Val.kind y1), PV.int .u64 (Val.u y1), PV.int .i64 (Val.n y1), PV.str (Val.s y1), PV.int .i64 (Val.c y1), PV.int .i64 (Val.m y1)]), cc (ev X E0) 11 [AV.c (CV.ptr 0 0), AV.agg [CV.pv (PV.int .u8 (Val.kind y1)), CV.pv (PV.int .u64 (Val.u y1)), CV.pv (PV.int .i64 (Val.n y1)), CV.pv (PV.str (Val.s y1)), CV.pv (PV.int .i64 (Val.c y1)), CV.pv (PV.int .i64 (Val.m y1))]] [Box.cells [CV.own 0 1 (pvBytes b)]] = some (AV.tup [], [Box.cells [CV.own 0 1 (pvBytes (b ++ wv y1))]]), 0 ≤ i, (List.map Val.pv l)[Int.toNat i]? = some (PV.agg [PV.int .u8 (Val.kind y1), PV.int .u64 (Val.u y1), PV.int .i64 (Val.n y1), PV.str (Val.s y1), PV.int .i64 (Val.c y1), PV.int .i64 (Val.m y1)]), cc (ev X E0) 12 [AV.agg [CV.pv (PV.int .u8 (Val.kind y1)), CV.pv (PV.int .u64 (Val.u y1)), CV.pv (PV.int .i64 (Val.n y1)), CV.pv (PV.str (Val.s y1)), CV.pv (PV.int .i64 (Val.c y1)), CV.pv (PV.int .i64 (Val.m y1))]] [] = some (AV.c (CV.pv (PV.sl SO.shut 1 (pvBytes (wv y1)))), []), (↑(List.length (pvBytes a) + List.length (pvBytes (wv y1))) : Int) * 1 ≤ 140737488355328]) (by kernel_rfl)
    ⟨(decide_eq_true g1), g2, (map_at g3), (write_own _ _ g4 g5 g6), g2, (map_at g3), (want_not3 _ g4 g5 g7), g8, trivial⟩
theorem lb_2 (l : List Val) (i : Int) (a : List UInt8) (b : List UInt8) (y1 : Val) (g1 : i < (↑(List.length (List.map Val.pv l)) : Int)) (g2 : 0 ≤ i) (g3 : l[Int.toNat i]? = some y1) (g4 : Val.Ok y1) (g5 : List.length (Val.s y1) ≤ 400) (g6 : List.length b ≤ 100000000) (g7 : Int.tmod (Val.kind y1) 5 = 3) (g8 : (↑(List.length (pvBytes a) + List.length (pvBytes (wv y1))) : Int) * 1 ≤ 140737488355328) :
    lv (cv (ev X E0) xf3_l0) [true, false, false, false, true, true, true] 1 (St.mk (tmOf 56 [(0, AV.c (CV.pv (PV.sl SO.shut 6 (List.map Val.pv l)))), (4, AV.c (CV.ptr 0 0)), (5, AV.c (CV.own 2175 1 (pvBytes a))), (6, AV.c (CV.pv (PV.int .i64 i)))]) [Box.cells [CV.own 1664 1 (pvBytes b)]]) = lv (cv (ev X E0) xf3_l0) [true, false, false, false, true, true, true] 1 (St.mk (tmOf 56 [(0, AV.c (CV.pv (PV.sl SO.shut 6 (List.map Val.pv l)))), (4, AV.c (CV.ptr 0 0)), (5, AV.c (CV.own 2175 1 (pvBytes a ++ pvBytes (wv y1)))), (6, AV.c (CV.pv (PV.int .i64 (IntKind.wrap .i64 (i + 1)))))]) [Box.cells [CV.own 1664 1 (pvBytes (b ++ wv y1))]]) :=
  lv_next [It.br true, It.el (PV.agg [PV.int .u8 (Val.kind y1), PV.int .u64 (Val.u y1), PV.int .i64 (Val.n y1), PV.str (Val.s y1), PV.int .i64 (Val.c y1), PV.int .i64 (Val.m y1)]), It.call (AV.tup []) [Box.cells [CV.own 0 1 (pvBytes (b ++ wv y1))]], It.el (PV.agg [PV.int .u8 (Val.kind y1), PV.int .u64 (Val.u y1), PV.int .i64 (Val.n y1), PV.str (Val.s y1), PV.int .i64 (Val.c y1), PV.int .i64 (Val.m y1)]), It.call (AV.c (CV.pv (PV.sl SO.full 1 (pvBytes (wv y1))))) []]
    (c := [decide (i < (↑(List.length (List.map Val.pv l)) : Int)) = true, 0 ≤ i, (List.map Val.pv l)[Int.toNat i]? = some (PV.agg [PV.int .u8 (Val.kind y1), PV.int .u64 (Val.u y1), PV.int .i64 (Val.n y1), PV.str (Val.s y1), PV.int .i64 (Val.c y1), PV.int .i64 (Val.m y1)]), cc (ev X E0) 11 [AV.c (CV.ptr 0 0), AV.agg [CV.pv (PV.int .u8 (Val.kind y1)), CV.pv (PV.int .u64 (Val.u y1)), CV.pv (PV.int .i64 (Val.n y1)), CV.pv (PV.str (Val.s y1)), CV.pv (PV.int .i64 (Val.c y1)), CV.pv (PV.int .i64 (Val.m y1))]] [Box.cells [CV.own 0 1 (pvBytes b)]] = some (AV.tup [], [Box.cells [CV.own 0 1 (pvBytes (b ++ wv y1))]]), 0 ≤ i, (List.map Val.pv l)[Int.toNat i]? = some (PV.agg [PV.int .u8 (Val.kind y1), PV.int .u64 (Val.u y1), PV.int .i64 (Val.n y1), PV.str (Val.s y1), PV.int .i64 (Val.c y1), PV.int .i64 (Val.m y1)]), cc (ev X E0) 12 [AV.agg [CV.pv (PV.int .u8 (Val.kind y1)), CV.pv (PV.int .u64 (Val.u y1)), CV.pv (PV.int .i64 (Val.n y1)), CV.pv (PV.str (Val.s y1)), CV.pv (PV.int .i64 (Val.c y1)), CV.pv (PV.int .i64 (Val.m y1))]] [] = some (AV.c (CV.pv (PV.sl SO.full 1 (pvBytes (wv y1)))), []), (↑(List.length (pvBytes a) + List.length (pvBytes (wv y1))) : Int) * 1 ≤ 140737488355328]) (by kernel_rfl)
    ⟨(decide_eq_true g1), g2, (map_at g3), (write_own _ _ g4 g5 g6), g2, (map_at g3), (want_3 _ g4 g7), g8, trivial⟩
theorem lb_3 (l : List Val) (i : Int) (a : List UInt8) (b : List UInt8) (g1 : ¬i < (↑(List.length (List.map Val.pv l)) : Int)) :
    lv (cv (ev X E0) xf3_l0) [true, false, false, false, true, true, true] 1 (St.mk (tmOf 56 [(0, AV.c (CV.pv (PV.sl SO.shut 6 (List.map Val.pv l)))), (4, AV.c (CV.ptr 0 0)), (5, AV.c (CV.own 2175 1 (pvBytes a))), (6, AV.c (CV.pv (PV.int .i64 i)))]) [Box.cells [CV.own 1664 1 (pvBytes b)]]) = some (XExit.exit 0, St.mk (tmOf 56 [(0, AV.c (CV.pv (PV.sl SO.shut 6 (List.map Val.pv l)))), (4, AV.c (CV.ptr 0 0)), (5, AV.c (CV.own 2175 1 (pvBytes a))), (6, AV.c (CV.pv (PV.int .i64 i)))]) [Box.cells [CV.own 1664 1 (pvBytes b)]]) :=
  lv_exit [It.br false]
    (c := [decide (i < (↑(List.length (List.map Val.pv l)) : Int)) = false]) (by kernel_rfl)
    ⟨(decide_eq_false g1), trivial⟩
def fitsB (l : List Val) : Bool := decide (l.length ≤ 60) && !l.any long
theorem fits (l : List Val) : cc (ev X E0) 8 [AV.c (CV.pv (PV.sl .shut 6 (l.map Val.pv)))] [] = some (.b (fitsB l), []) := by
  unfold fitsB
  by_cases h : l.length ≤ 60
  · cases hb : l.any long
    · rw [fi_2 l (by simp; omega) h hb]; simp [h]
    · rw [fi_3 l (by simp; omega) h hb]; simp [h]
  · rw [fi_1 l (by simp; omega)]; simp [h]
def allB (l : List Val) : List UInt8 := l.flatMap wv
theorem allB_le {l : List Val} (hok : ∀ v ∈ l, v.Ok) (hs : l.any long = false) : (allB l).length ≤ 500 * l.length := by
  induction l with
  | nil => simp [allB]
  | cons v r ih =>
    simp only [List.any_cons, Bool.or_eq_false_iff] at hs
    have h1 := wv_le (hok v (by simp)) (by have := hs.1; simp only [long, decide_eq_false_iff_not] at this; omega)
    have h2 := ih (fun v hv => hok v (by simp [hv])) hs.2
    simp only [allB, List.flatMap_cons, List.length_append, List.length_cons] at *
    omega
abbrev S3 (l : List Val) (x : CV) (i : Int) (y : CV) : St := St.mk (tmOf 56 [(0, AV.c (CV.pv (PV.sl SO.shut 6 (List.map Val.pv l)))), (4, AV.c (CV.ptr 0 0)), (5, AV.c x), (6, AV.c (CV.pv (PV.int IntKind.i64 i)))]) [Box.cells [y]]
theorem long_not {v : Val} (h : long v = false) : v.s.length ≤ 400 := by simp only [long, decide_eq_false_iff_not] at h; omega
theorem lb (l : List Val) (hl : l.length ≤ 60) (hok : ∀ v ∈ l, v.Ok) (hs : l.any long = false) : ∀ (r pre : List Val) (a b : List UInt8), l = pre ++ r → a.length ≤ 1000 * pre.length → b.length ≤ 1000 * pre.length →
    lv (cv (ev X E0) xf3_l0) [true, false, false, false, true, true, true] 1 (S3 l (.own 2175 1 (pvBytes a)) pre.length (.own 1664 1 (pvBytes b))) =
      some (.exit 0, S3 l (.own 2175 1 (pvBytes (a ++ allB r))) l.length (.own 1664 1 (pvBytes (b ++ allB r))))
  | [], pre, a, b, h, _, _ => by
    rw [List.append_nil] at h
    subst h
    simp only [allB, List.flatMap_nil, List.append_nil]
    exact lb_3 l _ a b (by simp)
  | y :: r, pre, a, b, h, ha, hb => by
    have hlen : l.length = pre.length + r.length + 1 := by rw [h]; simp; omega
    have hy : y ∈ l := by rw [h]; simp
    have hys : y.s.length ≤ 400 := long_not (by rw [List.any_eq_false] at hs; simpa using hs y hy)
    have hw := wv_le (hok y hy) hys
    have step : lv (cv (ev X E0) xf3_l0) [true, false, false, false, true, true, true] 1 (S3 l (.own 2175 1 (pvBytes a)) pre.length (.own 1664 1 (pvBytes b))) =
        lv (cv (ev X E0) xf3_l0) [true, false, false, false, true, true, true] 1 (S3 l (.own 2175 1 (pvBytes a ++ pvBytes (wv y))) (IntKind.wrap .i64 ((pre.length : Int) + 1)) (.own 1664 1 (pvBytes (b ++ wv y)))) := by
      by_cases h3 : Int.tmod y.kind 5 = 3
      · exact lb_2 l _ a b y (by simp; omega) (by omega) (by rw [h]; exact at_pre pre y r) (hok y hy) hys (by omega) h3 (by simp only [pvBytes_length]; omega)
      · exact lb_1 l _ a b y (by simp; omega) (by omega) (by rw [h]; exact at_pre pre y r) (hok y hy) hys (by omega) h3 (by simp only [pvBytes_length]; omega)
    rw [step, wi64 (by omega) (by omega), ← pvBytes_append]
    have := lb l hl hok hs r (pre ++ [y]) (a ++ wv y) (b ++ wv y) (by rw [h]; simp) (by simp only [List.length_append, List.length_singleton]; omega) (by simp only [List.length_append, List.length_singleton]; omega)
    rw [List.length_append, List.length_singleton] at this
    simp only [allB, List.flatMap_cons, ← List.append_assoc] at this ⊢
    exact this
theorem la0 (l : List Val) (hl : l = []) : lv (cv (ev X E0) xf3_l0) [true, false, false, false, true, true, true] 1 (St.mk (tmOf 56 [(0, AV.c (CV.pv (PV.sl SO.shut 6 (List.map Val.pv l)))), (4, AV.c (CV.ptr 0 0)), (5, AV.c (CV.pv (PV.sl SO.nil 0 []))), (6, AV.c (CV.pv (PV.int IntKind.i64 0)))]) [Box.cells [CV.pv (PV.sl SO.nil 0 [])]]) =
    some (.exit 0, St.mk (tmOf 56 [(0, AV.c (CV.pv (PV.sl SO.shut 6 (List.map Val.pv l)))), (4, AV.c (CV.ptr 0 0)), (5, AV.c (CV.pv (PV.sl SO.nil 0 []))), (6, AV.c (CV.pv (PV.int IntKind.i64 0)))]) [Box.cells [CV.pv (PV.sl SO.nil 0 [])]]) := by
  exact la_5 l 0 (by subst hl; simp)
theorem la1 (l : List Val) (hl : l.length ≤ 60) (hok : ∀ v ∈ l, v.Ok) (hs : l.any long = false) (hne : l ≠ []) :
    lv (cv (ev X E0) xf3_l0) [true, false, false, false, true, true, true] 1 (St.mk (tmOf 56 [(0, AV.c (CV.pv (PV.sl SO.shut 6 (List.map Val.pv l)))), (4, AV.c (CV.ptr 0 0)), (5, AV.c (CV.pv (PV.sl SO.nil 0 []))), (6, AV.c (CV.pv (PV.int IntKind.i64 0)))]) [Box.cells [CV.pv (PV.sl SO.nil 0 [])]]) =
    some (.exit 0, S3 l (.own 2175 1 (pvBytes (allB l))) l.length (.own 1664 1 (pvBytes (allB l)))) := by
  cases l with
  | nil => exact absurd rfl hne
  | cons y r =>
    have hlen : (y :: r).length = r.length + 1 := rfl
    have hys : y.s.length ≤ 400 := long_not (by rw [List.any_eq_false] at hs; simpa using hs y (by simp))
    have hw := wv_le (hok y (by simp)) hys
    have step : lv (cv (ev X E0) xf3_l0) [true, false, false, false, true, true, true] 1 (St.mk (tmOf 56 [(0, AV.c (CV.pv (PV.sl SO.shut 6 (List.map Val.pv (y :: r))))), (4, AV.c (CV.ptr 0 0)), (5, AV.c (CV.pv (PV.sl SO.nil 0 []))), (6, AV.c (CV.pv (PV.int IntKind.i64 0)))]) [Box.cells [CV.pv (PV.sl SO.nil 0 [])]]) =
        lv (cv (ev X E0) xf3_l0) [true, false, false, false, true, true, true] 1 (S3 (y :: r) (.own 2175 1 ([] ++ pvBytes (wv y))) (IntKind.wrap .i64 (0 + 1)) (.own 1664 1 (pvBytes (wv y)))) := by
      by_cases h3 : Int.tmod y.kind 5 = 3
      · exact la_4 (y :: r) 0 y (by simp) (by omega) rfl (hok y (by simp)) hys h3 (pv_ne (wv_pos y)) (by simp only [pvBytes_length]; omega)
      · exact la_2 (y :: r) 0 y (by simp) (by omega) rfl (hok y (by simp)) hys h3 (pv_ne (wv_pos y)) (by simp only [pvBytes_length]; omega)
    rw [step, wi64 (by omega) (by omega), List.nil_append]
    have := lb (y :: r) hl hok hs r [y] (wv y) (wv y) rfl (by simp only [List.length_singleton]; omega) (by simp only [List.length_singleton]; omega)
    simp only [allB, List.flatMap_cons] at this ⊢
    exact this
theorem write_no' (k u n : Int) (s : List UInt8) (c m : Int) (h0 : 0 ≤ k) (h1 : k ≤ 255) (u0 : 0 ≤ u) (u1 : u ≤ 18446744073709551615) (n0 : -9223372036854775808 ≤ n) (n1 : n ≤ 9223372036854775807) (c0 : -9223372036854775808 ≤ c) (c1 : c ≤ 9223372036854775807) (m0 : -9223372036854775808 ≤ m) (m1 : m ≤ 9223372036854775807) :
    cc (ev X E0) 11 [AV.c .nilp, AV.agg [.pv (.int .u8 k), .pv (.int .u64 u), .pv (.int .i64 n), .pv (.str s), .pv (.int .i64 c), .pv (.int .i64 m)]] [] = some (.tup [], []) :=
  write_no ⟨k, u, n, s, c, m⟩ ⟨h0, h1, u0, u1, n0, n1, c0, c1, m0, m1⟩
theorem ka_1 (k : Int) (g1 : k < 5) (g2 : 0 ≤ IntKind.wrap .u8 k) (g3 : IntKind.wrap .u8 k ≤ 255) :
    lv (cv (ev X E0) xf3_l1) [false, false, false, false, true, true, false, true, true] 1 (St.mk (tmOf 56 [(4, AV.c (CV.ptr 0 0)), (5, AV.c (CV.pv (PV.sl SO.nil 0 []))), (7, AV.c CV.nilp), (8, AV.c (CV.pv (PV.int .i64 k)))]) [Box.cells [CV.pv (PV.sl SO.nil 0 [])]]) = lv (cv (ev X E0) xf3_l1) [false, false, false, false, true, true, false, true, true] 1 (St.mk (tmOf 56 [(4, AV.c (CV.ptr 0 0)), (5, AV.c (CV.pv (PV.sl SO.nil 0 []))), (7, AV.c CV.nilp), (8, AV.c (CV.pv (PV.int .i64 (IntKind.wrap .i64 (k + 1)))))]) [Box.cells [CV.pv (PV.sl SO.nil 0 [])]]) :=
  lv_next [It.br true, It.call (AV.tup []) []]
    (c := [decide (k < 5) = true, cc (ev X E0) 11 [AV.c CV.nilp, AV.agg [CV.pv (PV.int .u8 (IntKind.wrap .u8 k)), CV.pv (PV.int .u64 0), CV.pv (PV.int .i64 0), CV.pv (PV.str []), CV.pv (PV.int .i64 0), CV.pv (PV.int .i64 0)]] [] = some (AV.tup [], [])]) (by kernel_rfl)
    ⟨(decide_eq_true g1), (write_no' _ _ _ _ _ _ g2 g3 (by decide) (by decide) (by decide) (by decide) (by decide) (by decide) (by decide) (by decide)), trivial⟩
theorem ka_2 (k : Int) (g1 : ¬k < 5) :
    lv (cv (ev X E0) xf3_l1) [false, false, false, false, true, true, false, true, true] 1 (St.mk (tmOf 56 [(4, AV.c (CV.ptr 0 0)), (5, AV.c (CV.pv (PV.sl SO.nil 0 []))), (7, AV.c CV.nilp), (8, AV.c (CV.pv (PV.int .i64 k)))]) [Box.cells [CV.pv (PV.sl SO.nil 0 [])]]) = some (XExit.exit 2, St.mk (tmOf 56 [(4, AV.c (CV.ptr 0 0)), (5, AV.c (CV.pv (PV.sl SO.nil 0 []))), (7, AV.c CV.nilp), (8, AV.c (CV.pv (PV.int .i64 k)))]) [Box.cells [CV.pv (PV.sl SO.nil 0 [])]]) :=
  lv_exit [It.br false]
    (c := [decide (k < 5) = false]) (by kernel_rfl)
    ⟨(decide_eq_false g1), trivial⟩
theorem kb_1 (k : Int) (a : List UInt8) (b : List UInt8) (g1 : k < 5) (g2 : 0 ≤ IntKind.wrap .u8 k) (g3 : IntKind.wrap .u8 k ≤ 255) :
    lv (cv (ev X E0) xf3_l1) [false, false, false, false, true, true, false, true, true] 1 (St.mk (tmOf 56 [(4, AV.c (CV.ptr 0 0)), (5, AV.c (CV.own 2175 1 (pvBytes a))), (7, AV.c CV.nilp), (8, AV.c (CV.pv (PV.int .i64 k)))]) [Box.cells [CV.own 1664 1 (pvBytes b)]]) = lv (cv (ev X E0) xf3_l1) [false, false, false, false, true, true, false, true, true] 1 (St.mk (tmOf 56 [(4, AV.c (CV.ptr 0 0)), (5, AV.c (CV.own 2175 1 (pvBytes a))), (7, AV.c CV.nilp), (8, AV.c (CV.pv (PV.int .i64 (IntKind.wrap .i64 (k + 1)))))]) [Box.cells [CV.own 1664 1 (pvBytes b)]]) :=
  lv_next [It.br true, It.call (AV.tup []) []]
    (c := [decide (k < 5) = true, cc (ev X E0) 11 [AV.c CV.nilp, AV.agg [CV.pv (PV.int .u8 (IntKind.wrap .u8 k)), CV.pv (PV.int .u64 0), CV.pv (PV.int .i64 0), CV.pv (PV.str []), CV.pv (PV.int .i64 0), CV.pv (PV.int .i64 0)]] [] = some (AV.tup [], [])]) (by kernel_rfl)
    ⟨(decide_eq_true g1), (write_no' _ _ _ _ _ _ g2 g3 (by decide) (by decide) (by decide) (by decide) (by decide) (by decide) (by decide) (by decide)), trivial⟩
theorem kb_2 (k : Int) (a : List UInt8) (b : List UInt8) (g1 : ¬k < 5) :
    lv (cv (ev X E0) xf3_l1) [false, false, false, false, true, true, false, true, true] 1 (St.mk (tmOf 56 [(4, AV.c (CV.ptr 0 0)), (5, AV.c (CV.own 2175 1 (pvBytes a))), (7, AV.c CV.nilp), (8, AV.c (CV.pv (PV.int .i64 k)))]) [Box.cells [CV.own 1664 1 (pvBytes b)]]) = some (XExit.exit 2, St.mk (tmOf 56 [(4, AV.c (CV.ptr 0 0)), (5, AV.c (CV.own 2175 1 (pvBytes a))), (7, AV.c CV.nilp), (8, AV.c (CV.pv (PV.int .i64 k)))]) [Box.cells [CV.own 1664 1 (pvBytes b)]]) :=
  lv_exit [It.br false]
    (c := [decide (k < 5) = false]) (by kernel_rfl)
    ⟨(decide_eq_false g1), trivial⟩
theorem ka_all : lv (cv (ev X E0) xf3_l1) [false, false, false, false, true, true, false, true, true] 1 (St.mk (tmOf 56 [(4, AV.c (CV.ptr 0 0)), (5, AV.c (CV.pv (PV.sl SO.nil 0 []))), (7, AV.c CV.nilp), (8, AV.c (CV.pv (PV.int IntKind.i64 0)))]) [Box.cells [CV.pv (PV.sl SO.nil 0 [])]]) =
    some (.exit 2, St.mk (tmOf 56 [(4, AV.c (CV.ptr 0 0)), (5, AV.c (CV.pv (PV.sl SO.nil 0 []))), (7, AV.c CV.nilp), (8, AV.c (CV.pv (PV.int IntKind.i64 5)))]) [Box.cells [CV.pv (PV.sl SO.nil 0 [])]]) := by
  rw [ka_1 0 (by omega) (by decide) (by decide), ka_1 _ (by decide) (by decide) (by decide), ka_1 _ (by decide) (by decide) (by decide), ka_1 _ (by decide) (by decide) (by decide), ka_1 _ (by decide) (by decide) (by decide), ka_2 _ (by decide)]
  rfl
theorem kb_all (a b : List UInt8) : lv (cv (ev X E0) xf3_l1) [false, false, false, false, true, true, false, true, true] 1 (St.mk (tmOf 56 [(4, AV.c (CV.ptr 0 0)), (5, AV.c (CV.own 2175 1 (pvBytes a))), (7, AV.c CV.nilp), (8, AV.c (CV.pv (PV.int IntKind.i64 0)))]) [Box.cells [CV.own 1664 1 (pvBytes b)]]) =
    some (.exit 2, St.mk (tmOf 56 [(4, AV.c (CV.ptr 0 0)), (5, AV.c (CV.own 2175 1 (pvBytes a))), (7, AV.c CV.nilp), (8, AV.c (CV.pv (PV.int IntKind.i64 5)))]) [Box.cells [CV.own 1664 1 (pvBytes b)]]) := by
  rw [kb_1 0 a b (by omega) (by decide) (by decide), kb_1 _ a b (by decide) (by decide) (by decide), kb_1 _ a b (by decide) (by decide) (by decide), kb_1 _ a b (by decide) (by decide) (by decide), kb_1 _ a b (by decide) (by decide) (by decide), kb_2 _ a b (by decide)]
  rfl
theorem law_1 (l : List Val) (g1 : fitsB l = false) :
    cc (ev X E0) 3 [AV.c (CV.pv (PV.sl SO.shut 6 (List.map Val.pv l)))] [] = some (AV.c (CV.pv (PV.bool true)), []) :=
  cc_path (x := xf3) rfl [It.call (AV.c (CV.pv (PV.bool (fitsB l)))) [], It.br true, It.call (AV.c (CV.pv (PV.bool true))) []]
    (c := [cc (ev X E0) 8 [AV.c (CV.pv (PV.sl SO.shut 6 (List.map Val.pv l)))] [] = some (AV.c (CV.pv (PV.bool (fitsB l))), []), (!fitsB l) = true, cc (ev X E0) (9 : Nat) [] [] = some (AV.c (CV.pv (PV.bool true)), [])]) (by kernel_rfl)
    ⟨(fits _), (not_t g1), (alive), trivial⟩
theorem law_2 (l : List Val) (g1 : fitsB l = true) (g2 : l = []) :
    cc (ev X E0) 3 [AV.c (CV.pv (PV.sl SO.shut 6 (List.map Val.pv l)))] [] = some (AV.c (CV.pv (PV.bool true)), []) :=
  cc_path (x := xf3) rfl [It.call (AV.c (CV.pv (PV.bool (fitsB l)))) [], It.br false, It.call (AV.c (CV.ptr (0 : Nat) (0 : Nat))) [Box.cells [CV.pv (PV.sl SO.nil (0 : Nat) [])]], It.loop (XExit.exit 0) (St.mk (tmOf 56 [(0, AV.c (CV.pv (PV.sl SO.shut 6 (List.map Val.pv l)))), (4, AV.c (CV.ptr 0 0)), (5, AV.c (CV.pv (PV.sl SO.nil 0 []))), (6, AV.c (CV.pv (PV.int .i64 0)))]) [Box.cells [CV.pv (PV.sl SO.nil 0 [])]]), It.loop (XExit.exit (2 : Nat)) (St.mk (tmOf (56 : Nat) [((4 : Nat), AV.c (CV.ptr (0 : Nat) (0 : Nat))), ((5 : Nat), AV.c (CV.pv (PV.sl SO.nil (0 : Nat) []))), ((7 : Nat), AV.c CV.nilp), ((8 : Nat), AV.c (CV.pv (PV.int .i64 (5 : Int))))]) [Box.cells [CV.pv (PV.sl SO.nil (0 : Nat) [])]]), It.call (AV.c (CV.pv (PV.bool true))) [], It.br true, It.br true, It.br true, It.br true, It.call (AV.c (CV.pv (PV.str []))) [Box.cells [CV.pv (PV.sl SO.nil (0 : Nat) [])]], It.br true, It.br true, It.br true, It.br true, It.call (AV.c (CV.pv (PV.str []))) [], It.br true, It.br true]
    (c := [cc (ev X E0) 8 [AV.c (CV.pv (PV.sl SO.shut 6 (List.map Val.pv l)))] [] = some (AV.c (CV.pv (PV.bool (fitsB l))), []), (!fitsB l) = false, cc (ev X E0) (10 : Nat) [] [] = some (AV.c (CV.ptr (0 : Nat) (0 : Nat)), [Box.cells [CV.pv (PV.sl SO.nil (0 : Nat) [])]]), lv (cv (ev X E0) xf3_l0) [true, false, false, false, true, true, true] 1 (St.mk (tmOf 56 [(0, AV.c (CV.pv (PV.sl SO.shut 6 (List.map Val.pv l)))), (4, AV.c (CV.ptr 0 0)), (5, AV.c (CV.pv (PV.sl SO.nil 0 []))), (6, AV.c (CV.pv (PV.int .i64 0)))]) [Box.cells [CV.pv (PV.sl SO.nil 0 [])]]) = some (XExit.exit 0, St.mk (tmOf 56 [(0, AV.c (CV.pv (PV.sl SO.shut 6 (List.map Val.pv l)))), (4, AV.c (CV.ptr 0 0)), (5, AV.c (CV.pv (PV.sl SO.nil 0 []))), (6, AV.c (CV.pv (PV.int .i64 0)))]) [Box.cells [CV.pv (PV.sl SO.nil 0 [])]]), lv (cv (ev X E0) xf3_l1) [false, false, false, false, true, true, false, true, true] (1 : Nat) (St.mk (tmOf (56 : Nat) [((4 : Nat), AV.c (CV.ptr (0 : Nat) (0 : Nat))), ((5 : Nat), AV.c (CV.pv (PV.sl SO.nil (0 : Nat) []))), ((7 : Nat), AV.c CV.nilp), ((8 : Nat), AV.c (CV.pv (PV.int .i64 (0 : Int))))]) [Box.cells [CV.pv (PV.sl SO.nil (0 : Nat) [])]]) = some (XExit.exit (2 : Nat), St.mk (tmOf (56 : Nat) [((4 : Nat), AV.c (CV.ptr (0 : Nat) (0 : Nat))), ((5 : Nat), AV.c (CV.pv (PV.sl SO.nil (0 : Nat) []))), ((7 : Nat), AV.c CV.nilp), ((8 : Nat), AV.c (CV.pv (PV.int .i64 (5 : Int))))]) [Box.cells [CV.pv (PV.sl SO.nil (0 : Nat) [])]]), cc (ev X E0) (9 : Nat) [] [] = some (AV.c (CV.pv (PV.bool true)), []), true = true, true = true, true = true, true = true, cc (ev X E0) (13 : Nat) [AV.c (CV.ptr (0 : Nat) (0 : Nat))] [Box.cells [CV.pv (PV.sl SO.nil (0 : Nat) [])]] = some (AV.c (CV.pv (PV.str [])), [Box.cells [CV.pv (PV.sl SO.nil (0 : Nat) [])]]), true = true, true = true, true = true, true = true, cc (ev X E0) (13 : Nat) [AV.c CV.nilp] [] = some (AV.c (CV.pv (PV.str [])), []), true = true, true = true]) (by kernel_rfl)
    ⟨(fits _), (not_f g1), (NW_1), (la0 _ g2), (ka_all), (alive), rfl, rfl, rfl, rfl, (BytesN_1 _), rfl, rfl, rfl, rfl, (BytesZ_1), rfl, rfl, trivial⟩
theorem law_3 (l : List Val) (g1 : fitsB l = true) (g2 : List.length l ≤ 60) (g3 : ∀ (v : Val), v ∈ l → Val.Ok v) (g4 : List.any l long = false) (g5 : l ≠ []) (g6 : allB l = allB l) :
    cc (ev X E0) 3 [AV.c (CV.pv (PV.sl SO.shut 6 (List.map Val.pv l)))] [] = some (AV.c (CV.pv (PV.bool true)), []) :=
  cc_path (x := xf3) rfl [It.call (AV.c (CV.pv (PV.bool (fitsB l)))) [], It.br false, It.call (AV.c (CV.ptr (0 : Nat) (0 : Nat))) [Box.cells [CV.pv (PV.sl SO.nil (0 : Nat) [])]], It.loop (XExit.exit 0) (St.mk (tmOf 56 [(0, AV.c (CV.pv (PV.sl SO.shut 6 (List.map Val.pv l)))), (4, AV.c (CV.ptr 0 0)), (5, AV.c (CV.own 2175 1 (pvBytes (allB l)))), (6, AV.c (CV.pv (PV.int .i64 (↑(List.length l) : Int))))]) [Box.cells [CV.own 1664 1 (pvBytes (allB l))]]), It.loop (XExit.exit 2) (St.mk (tmOf 56 [(4, AV.c (CV.ptr 0 0)), (5, AV.c (CV.own 2175 1 (pvBytes (allB l)))), (7, AV.c CV.nilp), (8, AV.c (CV.pv (PV.int .i64 5)))]) [Box.cells [CV.own 1664 1 (pvBytes (allB l))]]), It.call (AV.c (CV.pv (PV.bool true))) [], It.br true, It.br true, It.br true, It.bytes (allB l), It.br true, It.call (AV.c (CV.pv (PV.str (allB l)))) [Box.cells [CV.own 0 1 (pvBytes (allB l))]], It.br true, It.br true, It.br true, It.br true, It.call (AV.c (CV.pv (PV.str []))) [], It.br true, It.br true]
    (c := [cc (ev X E0) 8 [AV.c (CV.pv (PV.sl SO.shut 6 (List.map Val.pv l)))] [] = some (AV.c (CV.pv (PV.bool (fitsB l))), []), (!fitsB l) = false, cc (ev X E0) (10 : Nat) [] [] = some (AV.c (CV.ptr (0 : Nat) (0 : Nat)), [Box.cells [CV.pv (PV.sl SO.nil (0 : Nat) [])]]), lv (cv (ev X E0) xf3_l0) [true, false, false, false, true, true, true] 1 (St.mk (tmOf 56 [(0, AV.c (CV.pv (PV.sl SO.shut 6 (List.map Val.pv l)))), (4, AV.c (CV.ptr 0 0)), (5, AV.c (CV.pv (PV.sl SO.nil 0 []))), (6, AV.c (CV.pv (PV.int .i64 0)))]) [Box.cells [CV.pv (PV.sl SO.nil 0 [])]]) = some (XExit.exit 0, St.mk (tmOf 56 [(0, AV.c (CV.pv (PV.sl SO.shut 6 (List.map Val.pv l)))), (4, AV.c (CV.ptr 0 0)), (5, AV.c (CV.own 2175 1 (pvBytes (allB l)))), (6, AV.c (CV.pv (PV.int .i64 (↑(List.length l) : Int))))]) [Box.cells [CV.own 1664 1 (pvBytes (allB l))]]), lv (cv (ev X E0) xf3_l1) [false, false, false, false, true, true, false, true, true] 1 (St.mk (tmOf 56 [(4, AV.c (CV.ptr 0 0)), (5, AV.c (CV.own 2175 1 (pvBytes (allB l)))), (7, AV.c CV.nilp), (8, AV.c (CV.pv (PV.int .i64 0)))]) [Box.cells [CV.own 1664 1 (pvBytes (allB l))]]) = some (XExit.exit 2, St.mk (tmOf 56 [(4, AV.c (CV.ptr 0 0)), (5, AV.c (CV.own 2175 1 (pvBytes (allB l)))), (7, AV.c CV.nilp), (8, AV.c (CV.pv (PV.int .i64 5)))]) [Box.cells [CV.own 1664 1 (pvBytes (allB l))]]), cc (ev X E0) (9 : Nat) [] [] = some (AV.c (CV.pv (PV.bool true)), []), true = true, true = true, true = true, bytesOf' (pvBytes (allB l)) = some (allB l), true = true, cc (ev X E0) 13 [AV.c (CV.ptr 0 0)] [Box.cells [CV.own 0 1 (pvBytes (allB l))]] = some (AV.c (CV.pv (PV.str (allB l))), [Box.cells [CV.own 0 1 (pvBytes (allB l))]]), true = true, true = true, (allB l == allB l) = true, (allB l == allB l) = true, cc (ev X E0) (13 : Nat) [AV.c CV.nilp] [] = some (AV.c (CV.pv (PV.str [])), []), (allB l == allB l) = true, (allB l == allB l) = true]) (by kernel_rfl)
    ⟨(fits _), (not_f g1), (NW_1), (la1 _ g2 g3 g4 g5), (kb_all _ _), (alive), rfl, rfl, rfl, (bytesOf_pv _), rfl, (BytesO_1 _ _), rfl, rfl, (beq_iff_eq.mpr g6), (beq_iff_eq.mpr g6), (BytesZ_1), (beq_iff_eq.mpr g6), (beq_iff_eq.mpr g6), trivial⟩
theorem law_4 (l : List Val) (g1 : fitsB l = true) (g2 : List.length l ≤ 60) (g3 : ∀ (v : Val), v ∈ l → Val.Ok v) (g4 : List.any l long = false) (g5 : l ≠ []) (g6 : ¬allB l = allB l) :
    cc (ev X E0) 3 [AV.c (CV.pv (PV.sl SO.shut 6 (List.map Val.pv l)))] [] = some (AV.c (CV.pv (PV.bool false)), []) :=
  cc_path (x := xf3) rfl [It.call (AV.c (CV.pv (PV.bool (fitsB l)))) [], It.br false, It.call (AV.c (CV.ptr (0 : Nat) (0 : Nat))) [Box.cells [CV.pv (PV.sl SO.nil (0 : Nat) [])]], It.loop (XExit.exit 0) (St.mk (tmOf 56 [(0, AV.c (CV.pv (PV.sl SO.shut 6 (List.map Val.pv l)))), (4, AV.c (CV.ptr 0 0)), (5, AV.c (CV.own 2175 1 (pvBytes (allB l)))), (6, AV.c (CV.pv (PV.int .i64 (↑(List.length l) : Int))))]) [Box.cells [CV.own 1664 1 (pvBytes (allB l))]]), It.loop (XExit.exit 2) (St.mk (tmOf 56 [(4, AV.c (CV.ptr 0 0)), (5, AV.c (CV.own 2175 1 (pvBytes (allB l)))), (7, AV.c CV.nilp), (8, AV.c (CV.pv (PV.int .i64 5)))]) [Box.cells [CV.own 1664 1 (pvBytes (allB l))]]), It.call (AV.c (CV.pv (PV.bool true))) [], It.br true, It.br true, It.br true, It.bytes (allB l), It.br true, It.call (AV.c (CV.pv (PV.str (allB l)))) [Box.cells [CV.own 0 1 (pvBytes (allB l))]], It.br true, It.br true, It.br false, It.br false, It.br false, It.br false]
    (c := [cc (ev X E0) 8 [AV.c (CV.pv (PV.sl SO.shut 6 (List.map Val.pv l)))] [] = some (AV.c (CV.pv (PV.bool (fitsB l))), []), (!fitsB l) = false, cc (ev X E0) (10 : Nat) [] [] = some (AV.c (CV.ptr (0 : Nat) (0 : Nat)), [Box.cells [CV.pv (PV.sl SO.nil (0 : Nat) [])]]), lv (cv (ev X E0) xf3_l0) [true, false, false, false, true, true, true] 1 (St.mk (tmOf 56 [(0, AV.c (CV.pv (PV.sl SO.shut 6 (List.map Val.pv l)))), (4, AV.c (CV.ptr 0 0)), (5, AV.c (CV.pv (PV.sl SO.nil 0 []))), (6, AV.c (CV.pv (PV.int .i64 0)))]) [Box.cells [CV.pv (PV.sl SO.nil 0 [])]]) = some (XExit.exit 0, St.mk (tmOf 56 [(0, AV.c (CV.pv (PV.sl SO.shut 6 (List.map Val.pv l)))), (4, AV.c (CV.ptr 0 0)), (5, AV.c (CV.own 2175 1 (pvBytes (allB l)))), (6, AV.c (CV.pv (PV.int .i64 (↑(List.length l) : Int))))]) [Box.cells [CV.own 1664 1 (pvBytes (allB l))]]), lv (cv (ev X E0) xf3_l1) [false, false, false, false, true, true, false, true, true] 1 (St.mk (tmOf 56 [(4, AV.c (CV.ptr 0 0)), (5, AV.c (CV.own 2175 1 (pvBytes (allB l)))), (7, AV.c CV.nilp), (8, AV.c (CV.pv (PV.int .i64 0)))]) [Box.cells [CV.own 1664 1 (pvBytes (allB l))]]) = some (XExit.exit 2, St.mk (tmOf 56 [(4, AV.c (CV.ptr 0 0)), (5, AV.c (CV.own 2175 1 (pvBytes (allB l)))), (7, AV.c CV.nilp), (8, AV.c (CV.pv (PV.int .i64 5)))]) [Box.cells [CV.own 1664 1 (pvBytes (allB l))]]), cc (ev X E0) (9 : Nat) [] [] = some (AV.c (CV.pv (PV.bool true)), []), true = true, true = true, true = true, bytesOf' (pvBytes (allB l)) = some (allB l), true = true, cc (ev X E0) 13 [AV.c (CV.ptr 0 0)] [Box.cells [CV.own 0 1 (pvBytes (allB l))]] = some (AV.c (CV.pv (PV.str (allB l))), [Box.cells [CV.own 0 1 (pvBytes (allB l))]]), true = true, true = true, (allB l == allB l) = false, (allB l == allB l) = false, (allB l == allB l) = false, (allB l == allB l) = false]) (by kernel_rfl)
    ⟨(fits _), (not_f g1), (NW_1), (la1 _ g2 g3 g4 g5), (kb_all _ _), (alive), rfl, rfl, rfl, (bytesOf_pv _), rfl, (BytesO_1 _ _), rfl, rfl, (beq_eq_false_iff_ne.mpr g6), (beq_eq_false_iff_ne.mpr g6), (beq_eq_false_iff_ne.mpr g6), (beq_eq_false_iff_ne.mpr g6), trivial⟩
/-- A typed value. -/
theorem val_of {e : PV} (h1 : e.cells.length = 6) (h2 : e = .agg e.cells) (hc : ∀ (i : Nat) (c : CT) (p : PV), [CT.int .u8, CT.int .u64, CT.int .i64, CT.str, CT.int .i64, CT.int .i64][i]? = some c → e.cells[i]? = some p → WT c p) : ∃ v : Val, v.Ok ∧ e = v.pv := by
  generalize e.cells = cs at h1 h2 hc
  subst h2
  match cs, h1, hc with
  | [a, b, c, d, f, g], _, hc =>
    obtain ⟨na, a0, a1, rfl⟩ := u8_inv (hc 0 _ _ rfl rfl)
    obtain ⟨nb, b0, b1, rfl⟩ := u64_inv (hc 1 _ _ rfl rfl)
    obtain ⟨nc, c0, c1, rfl⟩ := i64_inv (hc 2 _ _ rfl rfl)
    obtain ⟨sd, rfl, _⟩ := str_inv (hc 3 _ _ rfl rfl)
    obtain ⟨nf, f0, f1, rfl⟩ := i64_inv (hc 4 _ _ rfl rfl)
    obtain ⟨ng, g0, g1, rfl⟩ := i64_inv (hc 5 _ _ rfl rfl)
    exact ⟨⟨na, nb, nc, sd, nf, ng⟩, ⟨a0, a1, b0, b1, c0, c1, f0, f1, g0, g1⟩, rfl⟩
/-- The arguments of CodeWrites. -/
theorem rows_of {x : PV} (t : WT (CT.sl [CT.int .u8, CT.int .u64, CT.int .i64, CT.str, CT.int .i64, CT.int .i64]) x) : x = .sl .nil 0 [] ∨ ∃ l : List Val, (∀ v ∈ l, v.Ok) ∧ x = .sl .shut 6 (l.map Val.pv) := by
  rcases sl_inv t with h | ⟨es, h, _, hs, hc⟩
  · exact Or.inl h
  · obtain ⟨l, h1, h2⟩ := list_of (f := Val.pv) (Q := Val.Ok) (es := es) fun e he => val_of (hs e he).1 ((hs e he).2.2 (by decide)) (hc e he)
    exact Or.inr ⟨l, h1, by rw [h, h2]; rfl⟩
theorem writes_nil : ev X E0 3 [.c (.pv (.sl .nil 0 []))] [] = some (.b true, []) := ev_of (n := 60) (by kernel_rfl)
theorem CodeWrites (x : PV) (t : WT (CT.sl [CT.int .u8, CT.int .u64, CT.int .i64, CT.str, CT.int .i64, CT.int .i64]) x) : ev X E0 3 [.c (.pv x)] [] = some (.b true, []) := by
  rcases rows_of t with rfl | ⟨l, hok, rfl⟩
  · exact writes_nil
  · apply ev_cc
    cases hf : fitsB l
    · exact law_1 l hf
    · by_cases hl : l = []
      · exact law_2 l hf hl
      · have hf' := hf
        simp only [fitsB, Bool.and_eq_true, decide_eq_true_eq, Bool.not_eq_true'] at hf'
        exact law_3 l hf hf'.1 hok hf'.2 hl rfl
end Go.Sx.Try
