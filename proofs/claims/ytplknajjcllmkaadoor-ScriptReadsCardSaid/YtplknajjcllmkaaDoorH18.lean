/- Lists of requests: how they are gone through. -/
import Derived.Test.YtplknajjcllmkaaDoorH17
import Derived.Test.YtplknajjcllmkaaDoorH14
import Derived.Test.YtplknajjcllmkaaDoorAl
namespace Go.Sx.Tryd
open Go Go.Sx
abbrev S35 (l : List Req) (o : SO) (i : Int) : St := St.mk (tmOf 38 [(8, AV.c (CV.pv (PV.sl o 21 (List.map Req.pv l)))), (9, AV.c (CV.pv (PV.int .i64 (↑(List.length (List.map Req.pv l)) : Int)))), (10, AV.c (CV.pv (PV.int .i64 i)))]) []
theorem l35_1 (l : List Req) (o : SO) (i : Nat) (y1 : Req) (g1 : (↑i : Int) < (↑(List.length (List.map Req.pv l)) : Int)) (g2 : l[i]? = some y1) (g3 : (↑(List.length (Req.text y1)) : Int) > 6000) :
    lv (cv (ev X E0) xf35_l0) (rl [8, 0, 0]) 0 (S35 l o (↑i : Int)) = some (XExit.ret, St.mk (tmOf 38 [(2, AV.c (.pv (.bool false)))]) [.cells (Req.cs y1)]) :=
  lv_ret [.br true, .el (Req.pv y1), .br true, .br true, .br true, .br true, .br true, .br true, .br true, .br true, .br true, .br true, .br true, .br true, .br true, .br true, .br true, .br true, .br true]
    (c := rq [(1, decide ((↑i : Int) < (↑(List.length (List.map Req.pv l)) : Int)) = true), (1, 0 ≤ (↑i : Int)), (1, (List.map Req.pv l)[i]? = some (Req.pv y1)), (5, decide ((↑(List.length (Req.text y1)) : Int) > 6000) = true), (12, true = true)]) (by kernel_rfl)
    (aq ⟨(dT g1), (Int.natCast_nonneg _), (map_at g2), (dT g3), rfl, trivial⟩)
theorem l35_2 (l : List Req) (o : SO) (i : Nat) (y1 : Req) (g1 : (↑i : Int) < (↑(List.length (List.map Req.pv l)) : Int)) (g2 : l[i]? = some y1) (g3 : ¬(↑(List.length (Req.text y1)) : Int) > 6000) (g4 : (↑(List.length (Req.memo y1)) : Int) > 6000) :
    lv (cv (ev X E0) xf35_l0) (rl [8, 0, 0]) 0 (S35 l o (↑i : Int)) = some (XExit.ret, St.mk (tmOf 38 [(2, AV.c (.pv (.bool false)))]) [.cells (Req.cs y1)]) :=
  lv_ret [.br true, .el (Req.pv y1), .br false, .br false, .br false, .br false, .br false, .br true, .br true, .br true, .br true, .br true, .br true, .br true, .br true, .br true, .br true, .br true, .br true]
    (c := rq [(1, decide ((↑i : Int) < (↑(List.length (List.map Req.pv l)) : Int)) = true), (1, 0 ≤ (↑i : Int)), (1, (List.map Req.pv l)[i]? = some (Req.pv y1)), (5, decide ((↑(List.length (Req.text y1)) : Int) > 6000) = false), (6, decide ((↑(List.length (Req.memo y1)) : Int) > 6000) = true), (6, true = true)]) (by kernel_rfl)
    (aq ⟨(dT g1), (Int.natCast_nonneg _), (map_at g2), (dF g3), (dT g4), rfl, trivial⟩)
theorem l35_3 (l : List Req) (o : SO) (i : Nat) (y1 : Req) (g1 : (↑i : Int) < (↑(List.length (List.map Req.pv l)) : Int)) (g2 : l[i]? = some y1) (g3 : ¬(↑(List.length (Req.text y1)) : Int) > 6000) (g4 : ¬(↑(List.length (Req.memo y1)) : Int) > 6000) (g5 : (↑(List.length (Req.cname y1)) : Int) > 6000) :
    lv (cv (ev X E0) xf35_l0) (rl [8, 0, 0]) 0 (S35 l o (↑i : Int)) = some (XExit.ret, St.mk (tmOf 38 [(2, AV.c (.pv (.bool false)))]) [.cells (Req.cs y1)]) :=
  lv_ret [.br true, .el (Req.pv y1), .br false, .br false, .br false, .br false, .br false, .br false, .br false, .br false, .br false, .br false, .br false, .br true, .br true, .br true, .br true, .br true, .br true]
    (c := rq [(1, decide ((↑i : Int) < (↑(List.length (List.map Req.pv l)) : Int)) = true), (1, 0 ≤ (↑i : Int)), (1, (List.map Req.pv l)[i]? = some (Req.pv y1)), (5, decide ((↑(List.length (Req.text y1)) : Int) > 6000) = false), (6, decide ((↑(List.length (Req.memo y1)) : Int) > 6000) = false), (5, decide ((↑(List.length (Req.cname y1)) : Int) > 6000) = true), (1, true = true)]) (by kernel_rfl)
    (aq ⟨(dT g1), (Int.natCast_nonneg _), (map_at g2), (dF g3), (dF g4), (dT g5), rfl, trivial⟩)
theorem l35_4 (l : List Req) (o : SO) (i : Nat) (y1 : Req) (g1 : (↑i : Int) < (↑(List.length (List.map Req.pv l)) : Int)) (g2 : l[i]? = some y1) (g3 : ¬(↑(List.length (Req.text y1)) : Int) > 6000) (g4 : ¬(↑(List.length (Req.memo y1)) : Int) > 6000) (g5 : ¬(↑(List.length (Req.cname y1)) : Int) > 6000) (g6 : (↑(List.length (List.map Leg.pv (Req.legs y1))) : Int) > 40) :
    lv (cv (ev X E0) xf35_l0) (rl [8, 0, 0]) 0 (S35 l o (↑i : Int)) = some (XExit.ret, St.mk (tmOf 38 [(2, AV.c (.pv (.bool false)))]) [.cells (Req.cs y1)]) :=
  lv_ret [.br true, .el (Req.pv y1), .br false, .br false, .br false, .br false, .br false, .br false, .br false, .br false, .br false, .br false, .br false, .br false, .br false, .br false, .br false, .br false, .br true]
    (c := [decide ((↑i : Int) < (↑(List.length (List.map Req.pv l)) : Int)) = true, 0 ≤ (↑i : Int), (List.map Req.pv l)[i]? = some (Req.pv y1), decide ((↑(List.length (Req.text y1)) : Int) > 6000) = false, decide ((↑(List.length (Req.text y1)) : Int) > 6000) = false, decide ((↑(List.length (Req.text y1)) : Int) > 6000) = false, decide ((↑(List.length (Req.text y1)) : Int) > 6000) = false, decide ((↑(List.length (Req.text y1)) : Int) > 6000) = false, decide ((↑(List.length (Req.memo y1)) : Int) > 6000) = false, decide ((↑(List.length (Req.memo y1)) : Int) > 6000) = false, decide ((↑(List.length (Req.memo y1)) : Int) > 6000) = false, decide ((↑(List.length (Req.memo y1)) : Int) > 6000) = false, decide ((↑(List.length (Req.memo y1)) : Int) > 6000) = false, decide ((↑(List.length (Req.memo y1)) : Int) > 6000) = false, decide ((↑(List.length (Req.cname y1)) : Int) > 6000) = false, decide ((↑(List.length (Req.cname y1)) : Int) > 6000) = false, decide ((↑(List.length (Req.cname y1)) : Int) > 6000) = false, decide ((↑(List.length (Req.cname y1)) : Int) > 6000) = false, decide ((↑(List.length (Req.cname y1)) : Int) > 6000) = false, decide ((↑(List.length (List.map Leg.pv (Req.legs y1))) : Int) > 40) = true]) (by kernel_rfl)
    ⟨(dT g1), (Int.natCast_nonneg _), (map_at g2), (dF g3), (dF g3), (dF g3), (dF g3), (dF g3), (dF g4), (dF g4), (dF g4), (dF g4), (dF g4), (dF g4), (dF g5), (dF g5), (dF g5), (dF g5), (dF g5), (dT g6), trivial⟩
theorem l35_5 (l : List Req) (o : SO) (i : Nat) (y1 : Req) (g1 : (↑i : Int) < (↑(List.length (List.map Req.pv l)) : Int)) (g2 : l[i]? = some y1) (g3 : ¬(↑(List.length (Req.text y1)) : Int) > 6000) (g4 : ¬(↑(List.length (Req.memo y1)) : Int) > 6000) (g5 : ¬(↑(List.length (Req.cname y1)) : Int) > 6000) (g6 : ¬(↑(List.length (List.map Leg.pv (Req.legs y1))) : Int) > 40) :
    lv (cv (ev X E0) xf35_l0) (rl [8, 0, 0]) 0 (S35 l o (↑i : Int)) = lv (cv (ev X E0) xf35_l0) (rl [8, 0, 0]) 0 (St.mk (tmOf 38 [(8, AV.c (.pv (.sl o 21 (List.map Req.pv l)))), (9, AV.c (vi (↑(List.length (List.map Req.pv l)) : Int))), (10, AV.c (vi (IntKind.wrap .i64 ((↑i : Int) + 1))))]) []) :=
  lv_next [.br true, .el (Req.pv y1), .br false, .br false, .br false, .br false, .br false, .br false, .br false, .br false, .br false, .br false, .br false, .br false, .br false, .br false, .br false, .br false, .br false]
    (c := rq [(1, decide ((↑i : Int) < (↑(List.length (List.map Req.pv l)) : Int)) = true), (1, 0 ≤ (↑i : Int)), (1, (List.map Req.pv l)[i]? = some (Req.pv y1)), (5, decide ((↑(List.length (Req.text y1)) : Int) > 6000) = false), (6, decide ((↑(List.length (Req.memo y1)) : Int) > 6000) = false), (5, decide ((↑(List.length (Req.cname y1)) : Int) > 6000) = false), (1, decide ((↑(List.length (List.map Leg.pv (Req.legs y1))) : Int) > 40) = false)]) (by kernel_rfl)
    (aq ⟨(dT g1), (Int.natCast_nonneg _), (map_at g2), (dF g3), (dF g4), (dF g5), (dF g6), trivial⟩)
theorem l35_6 (l : List Req) (o : SO) (i : Nat) (g1 : ¬(↑i : Int) < (↑(List.length (List.map Req.pv l)) : Int)) :
    lv (cv (ev X E0) xf35_l0) (rl [8, 0, 0]) 0 (S35 l o (↑i : Int)) = some (XExit.exit 0, St.mk (tmOf 38 []) []) :=
  lv_exit [.br false]
    (c := [decide ((↑i : Int) < (↑(List.length (List.map Req.pv l)) : Int)) = false]) (by kernel_rfl)
    ⟨(dF g1), trivial⟩
end Go.Sx.Tryd
/- Lists of requests: what they come to. -/
namespace Go.Sx.Tryd
open Go Go.Sx
def fitR (y : Req) : Bool := decide (y.text.length ≤ 6000 ∧ y.memo.length ≤ 6000 ∧ y.cname.length ≤ 6000 ∧ y.legs.length ≤ 40)
def fitsL (l : List Req) : Bool := decide (l.length ≤ 210) && l.all fitR
theorem f35_2 (l : List Req) (o : SO) (h : lv (cv (ev X E0) xf35_l0) (rl [8, 0, 0]) 0 (S35 l o 0) = some (XExit.exit 0, St.mk (tmOf 38 []) [])) (g1 : ¬(↑(List.length (List.map Req.pv l)) : Int) > 210) :
    cc (ev X E0) 35 [AV.c (.pv (.sl o 21 (List.map Req.pv l)))] [] = some (AV.c (.pv (.bool true)), []) :=
  cc_path (x := xf35) rfl [.br false, .loop (XExit.exit (0 : Nat)) (St.mk (tmOf (38 : Nat) []) [])]
    (c := rq [(1, decide ((↑(List.length (List.map Req.pv l)) : Int) > 210) = false), ty h]) (by kernel_rfl)
    (aq ⟨(dF g1), h, trivial⟩)
theorem f35x_1 (l : List Req) (o : SO) (g1 : (↑(List.length (List.map Req.pv l)) : Int) > 210) :
    cc (ev X E0) 35 [AV.c (.pv (.sl o 21 (List.map Req.pv l)))] [] = some (AV.c (.pv (.bool false)), []) :=
  cc_path (x := xf35) rfl [.br true]
    (c := [decide ((↑(List.length (List.map Req.pv l)) : Int) > 210) = true]) (by kernel_rfl)
    ⟨(dT g1), trivial⟩
theorem f35b_2 (l : List Req) (o : SO) (y : Req) (h : lv (cv (ev X E0) xf35_l0) (rl [8, 0, 0]) 0 (S35 l o 0) = some (XExit.ret, St.mk (tmOf 38 [(2, AV.c (.pv (.bool false)))]) [.cells (Req.cs y)])) (g1 : ¬(↑(List.length (List.map Req.pv l)) : Int) > 210) :
    cc (ev X E0) 35 [AV.c (.pv (.sl o 21 (List.map Req.pv l)))] [] = some (AV.c (.pv (.bool false)), []) :=
  cc_path (x := xf35) rfl [.br false, .loop XExit.ret (St.mk (tmOf 38 [(2, AV.c (.pv (.bool false)))]) [.cells (Req.cs y)])]
    (c := rq [(1, decide ((↑(List.length (List.map Req.pv l)) : Int) > 210) = false), ty h]) (by kernel_rfl)
    (aq ⟨(dF g1), h, trivial⟩)
theorem s35 (l : List Req) (o : SO) : cc (ev X E0) 35 [AV.sl o 21 (l.map Req.pv)] [] = some (.b (fitsL l), []) := by
  have em : (((l.map Req.pv).length : Nat) : Int) = l.length := by rw [List.length_map]
  unfold fitsL
  by_cases hl : l.length ≤ 210
  · rw [decide_eq_true hl, Bool.true_and]
    have key : ∀ (r pre : List Req), l = pre ++ r →
      (r.all fitR = true ∧ lv (cv (ev X E0) xf35_l0) (rl [8, 0, 0]) 0 (S35 l o (pre.length : Nat)) = some (XExit.exit 0, St.mk (tmOf 38 []) [])) ∨
      (r.all fitR = false ∧ ∃ y, lv (cv (ev X E0) xf35_l0) (rl [8, 0, 0]) 0 (S35 l o (pre.length : Nat)) = some (XExit.ret, St.mk (tmOf 38 [(2, AV.c (CV.pv (PV.bool false)))]) [Box.cells (Req.cs y)])) := by
      intro r
      induction r with
      | nil =>
        intro pre h
        rw [List.append_nil] at h
        subst h
        exact Or.inl ⟨rfl, l35_6 l o l.length not_lt_map⟩
      | cons y r ih =>
        intro pre h
        have hat : l[pre.length]? = some y := by rw [h]; simp
        have hlen : l.length = pre.length + r.length + 1 := by rw [h]; simp; omega
        have hlt := lt_map (f := Req.pv) (l := l) (i := pre.length) (by omega)
        have ey : (((y.legs.map Leg.pv).length : Nat) : Int) = y.legs.length := by rw [List.length_map]
        by_cases c1 : (↑(List.length (Req.text y)) : Int) > 6000
        · exact Or.inr ⟨by rw [List.all_cons, fitR, decide_eq_false (by omega), Bool.false_and], y, l35_1 l o pre.length y hlt hat c1⟩
        by_cases c2 : (↑(List.length (Req.memo y)) : Int) > 6000
        · exact Or.inr ⟨by rw [List.all_cons, fitR, decide_eq_false (by omega), Bool.false_and], y, l35_2 l o pre.length y hlt hat c1 c2⟩
        by_cases c3 : (↑(List.length (Req.cname y)) : Int) > 6000
        · exact Or.inr ⟨by rw [List.all_cons, fitR, decide_eq_false (by omega), Bool.false_and], y, l35_3 l o pre.length y hlt hat c1 c2 c3⟩
        by_cases c4 : (↑(List.length (List.map Leg.pv (Req.legs y))) : Int) > 40
        · exact Or.inr ⟨by rw [List.all_cons, fitR, decide_eq_false (by omega), Bool.false_and], y, l35_4 l o pre.length y hlt hat c1 c2 c3 c4⟩
        have hf : fitR y = true := by rw [fitR, decide_eq_true (by omega)]
        have st := l35_5 l o pre.length y hlt hat c1 c2 c3 c4
        have hw : IntKind.wrap .i64 ((pre.length : Int) + 1) = (((pre ++ [y]).length : Nat) : Int) := by rw [wi64 (by omega) (by omega), List.length_append, List.length_singleton]; omega
        rw [hw] at st
        rw [st, List.all_cons, hf, Bool.true_and]
        exact ih (pre ++ [y]) (by rw [h]; simp)
    rcases key l [] rfl with ⟨h1, h2⟩ | ⟨h1, y, h2⟩
    · rw [h1]; exact f35_2 l o h2 (by rw [em]; omega)
    · rw [h1]; exact f35b_2 l o y h2 (by rw [em]; omega)
  · rw [decide_eq_false hl, Bool.false_and]; exact f35x_1 l o (by rw [em]; omega)
theorem enc_len {p : Req} (hf : Fine p) (ht : Typ p) : (enc p).length ≤ 2400 := by
  have b1 := hf.acc; have b2 := hf.id; have b3 := hf.cid; have b4 := hf.ckind; have b5 := hf.racc; have b6 := hf.rkind; have b7 := hf.rcust; have b8 := hf.rprod; have b9 := hf.rpart; have b10 := hf.rcur; have b11 := ht.from'; have b12 := ht.to'; have b13 := ht.day; have b14 := hf.cur; have b15 := hf.minor; have b16 := hf.cname; have b17 := hf.memo; have b18 := hf.text; have b19 := hf.legs
  have zl {n : Int} (h : -9223372036854775808 ≤ n ∧ n ≤ 9223372036854775807) : (vb (zz n)).length ≤ 10 := vb_len10 (zz_lt h.1 h.2)
  have z1 := zl (n := p.cid) (by omega); have z2 := zl (n := p.ckind) (by omega); have z3 := zl (n := p.acc) (by omega); have z4 := zl (n := p.id) (by omega); have z5 := zl (n := p.day) (by omega)
  have x1 := zl (n := p.racc) (by omega); have x2 := zl (n := p.rkind) (by omega); have x3 := zl (n := p.rcur) (by omega); have x4 := zl (n := p.rcust) (by omega); have x5 := zl (n := p.rprod) (by omega); have x6 := zl (n := p.rpart) (by omega); have x7 := zl (n := p.rfrom) (by omega); have x8 := zl (n := p.rto) (by omega)
  have y1 := tb_len (s := p.cname) (by omega); have y2 := tb_len (s := p.memo) (by omega); have y3 := tb_len (s := p.text) (by omega); have y4 := mb_len (c := p.cur) (m := p.minor) (by omega) (by omega)
  have y5 : (bb p.last).length ≤ 1 := by rw [bb_eq]; simp
  have vl := vb_small (n := p.legs.length) (by omega)
  have hll := lsB_len hf.fit
  have h0 := hf.k.lo; have h1 := hf.k.hi
  have vk := vb_small (n := p.kd.toNat) (by omega)
  unfold enc
  rw [List.length_append]
  suffices h : (oB p.kd SH (its p)).length ≤ 2300 by omega
  unfold its
  rcases kd_cases h0 h1 with hk | hk | hk | hk | hk | hk | hk | hk | hk | hk | hk <;> rw [hk]
  · simp only [oB, SH, itB, hb0, if_true, if_false, Bool.false_eq_true, List.append_nil, List.nil_append, List.length_append, List.length_nil]; omega
  · simp only [oB, SH, itB, hb1, if_true, if_false, Bool.false_eq_true, List.append_nil, List.nil_append, List.length_append, List.length_nil]; omega
  · simp only [oB, SH, itB, hb2, if_true, if_false, Bool.false_eq_true, List.append_nil, List.nil_append, List.length_append, List.length_nil]; omega
  · simp only [oB, SH, itB, hb3, if_true, if_false, Bool.false_eq_true, List.append_nil, List.nil_append, List.length_append, List.length_nil]; omega
  · simp only [oB, SH, itB, hb4, if_true, if_false, Bool.false_eq_true, List.append_nil, List.nil_append, List.length_append, List.length_nil]; omega
  · simp only [oB, SH, itB, hb5, if_true, if_false, Bool.false_eq_true, List.append_nil, List.nil_append, List.length_append, List.length_nil]; omega
  · simp only [oB, SH, itB, hb6, if_true, if_false, Bool.false_eq_true, List.append_nil, List.nil_append, List.length_append, List.length_nil]; omega
  · simp only [oB, SH, itB, hb7, if_true, if_false, Bool.false_eq_true, List.append_nil, List.nil_append, List.length_append, List.length_nil]; omega
  · simp only [oB, SH, itB, hb8, if_true, if_false, Bool.false_eq_true, List.append_nil, List.nil_append, List.length_append, List.length_nil]; omega
  · simp only [oB, SH, itB, hb9, if_true, if_false, Bool.false_eq_true, List.append_nil, List.nil_append, List.length_append, List.length_nil]; omega
  · simp only [oB, SH, itB, hb10, if_false, Bool.false_eq_true, List.append_nil, List.length_nil]; omega
def txts : List Req → List UInt8
  | [] => []
  | x :: r => tb (enc x) ++ txts r
def firstE : List Req → Int
  | [] => 0
  | x :: r => if chk x = 0 then firstE r else chk x
def putE (l : List Req) : Int := if 200 < l.length then 4 else firstE l
def putB (l : List Req) : List UInt8 := if putE l = 0 then vb l.length ++ txts l else []
structure Good (p : Req) : Prop where
  sz : lsz p.so p.sz p.legs
  len : p.legs.length ≤ 900000
  typ : Typ p
end Go.Sx.Tryd
/- What is handed in may be gone through; live questions. -/
namespace Go.Sx.Tryd
open Go Go.Sx
theorem alive : cc (ev X E0) 36 [] [] = some (.b true, []) := by
  show (ev X E0 36 [] []).bind canon = _
  rw [Calive36.alive36]
  rfl
theorem fit_good {p : Req} (hw : WReq p) (hf : fitR p = true) : Good p := by
  simp only [fitR, decide_eq_true_eq] at hf
  refine ⟨?_, by omega, hw.typ⟩
  unfold lsz
  rw [hw.sz]
  unfold szOk
  cases p.so <;> rfl
theorem fits_good {l : List Req} (hw : ∀ x ∈ l, WReq x) (hf : fitsL l = true) : l.length ≤ 210 ∧ ∀ x ∈ l, Good x := by
  simp only [fitsL, Bool.and_eq_true, decide_eq_true_eq, List.all_eq_true] at hf
  exact ⟨hf.1, fun x hx => fit_good (hw x hx) (hf.2 x hx)⟩
end Go.Sx.Tryd
/- Scripts: their bytes, and the requests of bytes. -/
namespace Go.Sx.Tryd
open Go Go.Sx
theorem s41g {p : Req} (h : Good p) (hc : chk p = 0) : cc (ev X E0) 41 [Req.av p] [] = some (AV.s (enc p), []) := s41 p h.sz hc h.typ
end Go.Sx.Tryd
/- The requests of a script's bytes. -/
namespace Go.Sx.Tryd
open Go Go.Sx
theorem good_dec {s : List UInt8} (h : chk (decP s) = 0) : Good (decP s) := by
  refine ⟨?_, by have := (chk_fine h).legs; omega, typ_dec s⟩
  show szOk 3 (CV.pv (PV.sl (if lA (dR s).1 15 = [] then .nil else .shut) (if lA (dR s).1 15 = [] then 0 else 3) (List.map Leg.pv (lA (dR s).1 15)))) = true
  by_cases c : lA (dR s).1 15 = []
  · rw [if_pos c, if_pos c, c]; rfl
  · rw [if_neg c, if_neg c]; rfl
end Go.Sx.Tryd
/- Scripts and their bytes, in plain Lean: there and back. -/
namespace Go.Sx.Tryd
open Go Go.Sx
theorem dec_enc0 {x : Req} (hg : Good x) (hc : chk x = 0) : SameR (decP (enc x)) x ∧ decE (enc x) = 0 := by
  have h := dec_enc hc hg.typ []
  rw [List.append_nil, if_pos rfl] at h
  exact h
end Go.Sx.Tryd
