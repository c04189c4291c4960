/- What the laws of code share: the live question, and which values are gone through. -/
import Derived.Test.YthdmnlfmbjmkbaaR7
namespace Go.Sx.Try
open Go Go.Sx
theorem alive_true : ev X E0 9 [] [] = some (.b true, []) := ev_of (n := 40) (by kernel_rfl)
theorem alive : cc (ev X E0) 9 [] [] = some (.b true, []) := by show (ev X E0 9 [] []).bind canon = _; rw [alive_true]; rfl

/-! ### fits -/
abbrev S8 (l : List Val) (i : Int) : St := St.mk (tmOf 20 [(0, AV.c (CV.pv (PV.sl SO.shut 6 (List.map Val.pv l)))), (3, AV.c (CV.pv (PV.int .i64 i)))]) []
theorem fl_1 (l : List Val) (i : Int) (y1 : Val) (g1 : i < (↑(List.length (List.map Val.pv l)) : Int)) (g2 : 0 ≤ i) (g3 : l[Int.toNat i]? = some y1) (g4 : (↑(List.length (Val.s y1)) : Int) > 400) :
    lv (cv (ev X E0) xf8_l0) [true, false, false, true] 0 (St.mk (tmOf 20 [(0, AV.c (CV.pv (PV.sl SO.shut 6 (List.map Val.pv l)))), (3, AV.c (CV.pv (PV.int .i64 i)))]) []) = some (XExit.ret, St.mk (tmOf 20 [(2, AV.c (CV.pv (PV.bool false)))]) []) :=
  lv_ret [It.br true, It.el (PV.agg [PV.int .u8 (Val.kind y1), PV.int .u64 (Val.u y1), PV.int .i64 (Val.n y1), PV.str (Val.s y1), PV.int .i64 (Val.c y1), PV.int .i64 (Val.m y1)]), It.br true]
    (c := [decide (i < (↑(List.length (List.map Val.pv l)) : Int)) = true, 0 ≤ i, (List.map Val.pv l)[Int.toNat i]? = some (PV.agg [PV.int .u8 (Val.kind y1), PV.int .u64 (Val.u y1), PV.int .i64 (Val.n y1), PV.str (Val.s y1), PV.int .i64 (Val.c y1), PV.int .i64 (Val.m y1)]), decide ((↑(List.length (Val.s y1)) : Int) > 400) = true]) (by kernel_rfl)
    ⟨(decide_eq_true g1), g2, (map_at g3), (decide_eq_true g4), trivial⟩
theorem fl_2 (l : List Val) (i : Int) (y1 : Val) (g1 : i < (↑(List.length (List.map Val.pv l)) : Int)) (g2 : 0 ≤ i) (g3 : l[Int.toNat i]? = some y1) (g4 : ¬(↑(List.length (Val.s y1)) : Int) > 400) :
    lv (cv (ev X E0) xf8_l0) [true, false, false, true] 0 (St.mk (tmOf 20 [(0, AV.c (CV.pv (PV.sl SO.shut 6 (List.map Val.pv l)))), (3, AV.c (CV.pv (PV.int .i64 i)))]) []) = lv (cv (ev X E0) xf8_l0) [true, false, false, true] 0 (St.mk (tmOf 20 [(0, AV.c (CV.pv (PV.sl SO.shut 6 (List.map Val.pv l)))), (3, AV.c (CV.pv (PV.int .i64 (IntKind.wrap .i64 (i + 1)))))]) []) :=
  lv_next [It.br true, It.el (PV.agg [PV.int .u8 (Val.kind y1), PV.int .u64 (Val.u y1), PV.int .i64 (Val.n y1), PV.str (Val.s y1), PV.int .i64 (Val.c y1), PV.int .i64 (Val.m y1)]), It.br false]
    (c := [decide (i < (↑(List.length (List.map Val.pv l)) : Int)) = true, 0 ≤ i, (List.map Val.pv l)[Int.toNat i]? = some (PV.agg [PV.int .u8 (Val.kind y1), PV.int .u64 (Val.u y1), PV.int .i64 (Val.n y1), PV.str (Val.s y1), PV.int .i64 (Val.c y1), PV.int .i64 (Val.m y1)]), decide ((↑(List.length (Val.s y1)) : Int) > 400) = false]) (by kernel_rfl)
    ⟨(decide_eq_true g1), g2, (map_at g3), (decide_eq_false g4), trivial⟩
theorem fl_3 (l : List Val) (i : Int) (g1 : ¬i < (↑(List.length (List.map Val.pv l)) : Int)) :
    lv (cv (ev X E0) xf8_l0) [true, false, false, true] 0 (St.mk (tmOf 20 [(0, AV.c (CV.pv (PV.sl SO.shut 6 (List.map Val.pv l)))), (3, AV.c (CV.pv (PV.int .i64 i)))]) []) = some (XExit.exit 0, St.mk (tmOf 20 []) []) :=
  lv_exit [It.br false]
    (c := [decide (i < (↑(List.length (List.map Val.pv l)) : Int)) = false]) (by kernel_rfl)
    ⟨(decide_eq_false g1), trivial⟩
def long (v : Val) : Bool := decide (v.s.length > 400)
theorem fl_ok (l : List Val) (hl : l.length ≤ 60) : ∀ (r pre : List Val), l = pre ++ r → r.any long = false →
    lv (cv (ev X E0) xf8_l0) [true, false, false, true] 0 (S8 l pre.length) = some (.exit 0, St.mk (tmOf 20 []) [])
  | [], pre, h, _ => by
    rw [List.append_nil] at h
    subst h
    exact fl_3 l l.length (by simp)
  | y :: r, pre, h, hb => by
    have hlen : l.length = pre.length + r.length + 1 := by rw [h]; simp; omega
    simp only [List.any_cons, Bool.or_eq_false_iff] at hb
    have hy : ¬ y.s.length > 400 := by have := hb.1; simpa [long] using this
    rw [fl_2 l pre.length y (by simp; omega) (by omega) (by rw [h]; exact at_pre pre y r) (by omega), wi64 (by omega) (by omega)]
    have := fl_ok l hl r (pre ++ [y]) (by rw [h]; simp) hb.2
    rw [List.length_append, List.length_singleton] at this
    exact this
theorem fl_bad (l : List Val) (hl : l.length ≤ 60) : ∀ (r pre : List Val), l = pre ++ r → r.any long = true →
    lv (cv (ev X E0) xf8_l0) [true, false, false, true] 0 (S8 l pre.length) = some (.ret, St.mk (tmOf 20 [(2, AV.c (CV.pv (PV.bool false)))]) [])
  | [], pre, h, hb => by simp at hb
  | y :: r, pre, h, hb => by
    have hlen : l.length = pre.length + r.length + 1 := by rw [h]; simp; omega
    by_cases hy : y.s.length > 400
    · exact fl_1 l pre.length y (by simp; omega) (by omega) (by rw [h]; exact at_pre pre y r) (by omega)
    · have hb : r.any long = true := by simpa [long, hy] using hb
      rw [fl_2 l pre.length y (by simp; omega) (by omega) (by rw [h]; exact at_pre pre y r) (by omega), wi64 (by omega) (by omega)]
      have := fl_bad l hl r (pre ++ [y]) (by rw [h]; simp) hb
      rw [List.length_append, List.length_singleton] at this
      exact this
theorem fl_ok0 (l : List Val) (hl : l.length ≤ 60) (hb : l.any long = false) :
    lv (cv (ev X E0) xf8_l0) [true, false, false, true] 0 (St.mk (tmOf 20 [(0, AV.c (CV.pv (PV.sl SO.shut 6 (List.map Val.pv l)))), (3, AV.c (CV.pv (PV.int .i64 0)))]) []) = some (.exit 0, St.mk (tmOf 20 []) []) := fl_ok l hl l [] rfl hb
theorem fl_bad0 (l : List Val) (hl : l.length ≤ 60) (hb : l.any long = true) :
    lv (cv (ev X E0) xf8_l0) [true, false, false, true] 0 (St.mk (tmOf 20 [(0, AV.c (CV.pv (PV.sl SO.shut 6 (List.map Val.pv l)))), (3, AV.c (CV.pv (PV.int .i64 0)))]) []) = some (.ret, St.mk (tmOf 20 [(2, AV.c (CV.pv (PV.bool false)))]) []) := fl_bad l hl l [] rfl hb
theorem fi_1 (l : List Val) (g1 : (↑(List.length (List.map Val.pv l)) : Int) > 60) :
    cc (ev X E0) 8 [AV.c (CV.pv (PV.sl SO.shut 6 (List.map Val.pv l)))] [] = some (AV.c (CV.pv (PV.bool false)), []) :=
  cc_path (x := xf8) rfl [It.br true]
    (c := [decide ((↑(List.length (List.map Val.pv l)) : Int) > 60) = true]) (by kernel_rfl)
    ⟨(decide_eq_true g1), trivial⟩
theorem fi_2 (l : List Val) (g1 : ¬(↑(List.length (List.map Val.pv l)) : Int) > 60) (g2 : List.length l ≤ 60) (g3 : List.any l long = false) :
    cc (ev X E0) 8 [AV.c (CV.pv (PV.sl SO.shut 6 (List.map Val.pv l)))] [] = some (AV.c (CV.pv (PV.bool true)), []) :=
  cc_path (x := xf8) rfl [It.br false, It.loop (XExit.exit (0 : Nat)) (St.mk (tmOf (20 : Nat) []) [])]
    (c := [decide ((↑(List.length (List.map Val.pv l)) : Int) > 60) = false, lv (cv (ev X E0) xf8_l0) [true, false, false, true] 0 (St.mk (tmOf 20 [(0, AV.c (CV.pv (PV.sl SO.shut 6 (List.map Val.pv l)))), (3, AV.c (CV.pv (PV.int .i64 0)))]) []) = some (XExit.exit 0, St.mk (tmOf 20 []) [])]) (by kernel_rfl)
    ⟨(decide_eq_false g1), (fl_ok0 _ g2 g3), trivial⟩
theorem fi_3 (l : List Val) (g1 : ¬(↑(List.length (List.map Val.pv l)) : Int) > 60) (g2 : List.length l ≤ 60) (g3 : List.any l long = true) :
    cc (ev X E0) 8 [AV.c (CV.pv (PV.sl SO.shut 6 (List.map Val.pv l)))] [] = some (AV.c (CV.pv (PV.bool false)), []) :=
  cc_path (x := xf8) rfl [It.br false, It.loop XExit.ret (St.mk (tmOf (20 : Nat) [((2 : Nat), AV.c (CV.pv (PV.bool false)))]) [])]
    (c := [decide ((↑(List.length (List.map Val.pv l)) : Int) > 60) = false, lv (cv (ev X E0) xf8_l0) [true, false, false, true] 0 (St.mk (tmOf 20 [(0, AV.c (CV.pv (PV.sl SO.shut 6 (List.map Val.pv l)))), (3, AV.c (CV.pv (PV.int .i64 0)))]) []) = some (XExit.ret, St.mk (tmOf 20 [(2, AV.c (CV.pv (PV.bool false)))]) [])]) (by kernel_rfl)
    ⟨(decide_eq_false g1), (fl_bad0 _ g2 g3), trivial⟩
def fitsB (l : List Val) : Bool := decide (l.length ≤ 60) && !l.any long
theorem fits (l : List Val) : cc (ev X E0) 8 [AV.c (CV.pv (PV.sl .shut 6 (l.map Val.pv)))] [] = some (.b (fitsB l), []) := by
  unfold fitsB
  by_cases h : l.length ≤ 60
  · cases hb : l.any long
    · rw [fi_2 l (by simp; omega) h hb]; simp [h]
    · rw [fi_3 l (by simp; omega) h hb]; simp [h]
  · rw [fi_1 l (by simp; omega)]; simp [h]
/-- A typed value. -/
theorem val_of {e : PV} (h1 : e.cells.length = 6) (h2 : e = .agg e.cells) (hc : ∀ (i : Nat) (c : CT) (p : PV), [CT.int .u8, CT.int .u64, CT.int .i64, CT.str, CT.int .i64, CT.int .i64][i]? = some c → e.cells[i]? = some p → WT c p) : ∃ v : Val, v.Ok ∧ e = v.pv := by
  generalize e.cells = cs at h1 h2 hc
  subst h2
  match cs, h1, hc with
  | [a, b, c, d, f, g], _, hc =>
    obtain ⟨na, a0, a1, rfl⟩ := u8_inv (hc 0 _ _ rfl rfl)
    obtain ⟨nb, b0, b1, rfl⟩ := u64_inv (hc 1 _ _ rfl rfl)
    obtain ⟨nc, c0, c1, rfl⟩ := i64_inv (hc 2 _ _ rfl rfl)
    obtain ⟨sd, rfl, _⟩ := str_inv (hc 3 _ _ rfl rfl)
    obtain ⟨nf, f0, f1, rfl⟩ := i64_inv (hc 4 _ _ rfl rfl)
    obtain ⟨ng, g0, g1, rfl⟩ := i64_inv (hc 5 _ _ rfl rfl)
    exact ⟨⟨na, nb, nc, sd, nf, ng⟩, ⟨a0, a1, b0, b1, c0, c1, f0, f1, g0, g1⟩, rfl⟩
/-- The arguments of CodeWrites. -/
theorem rows_of {x : PV} (t : WT (CT.sl [CT.int .u8, CT.int .u64, CT.int .i64, CT.str, CT.int .i64, CT.int .i64]) x) : x = .sl .nil 0 [] ∨ ∃ l : List Val, (∀ v ∈ l, v.Ok) ∧ x = .sl .shut 6 (l.map Val.pv) := by
  rcases sl_inv t with h | ⟨es, h, _, hs, hc⟩
  · exact Or.inl h
  · obtain ⟨l, h1, h2⟩ := list_of (f := Val.pv) (Q := Val.Ok) (es := es) fun e he => val_of (hs e he).1 ((hs e he).2.2 (by decide)) (hc e he)
    exact Or.inr ⟨l, h1, by rw [h, h2]; rfl⟩
theorem long_not {v : Val} (h : long v = false) : v.s.length ≤ 400 := by simp only [long, decide_eq_false_iff_not] at h; omega
end Go.Sx.Try
