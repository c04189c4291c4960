/- Lists of requests: what they come to. -/
import Derived.Test.YtplknajjcllmkaaDoorH18
namespace Go.Sx.Tryd
open Go Go.Sx
def fitR (y : Req) : Bool := decide (y.text.length ≤ 6000 ∧ y.memo.length ≤ 6000 ∧ y.cname.length ≤ 6000 ∧ y.legs.length ≤ 40)
def fitsL (l : List Req) : Bool := decide (l.length ≤ 210) && l.all fitR
theorem f35_2 (l : List Req) (o : SO) (h : lv (cv (ev X E0) xf35_l0) (rl [8, 0, 0]) 0 (S35 l o 0) = some (XExit.exit 0, St.mk (tmOf 38 []) [])) (g1 : ¬(↑(List.length (List.map Req.pv l)) : Int) > 210) :
    cc (ev X E0) 35 [AV.c (.pv (.sl o 21 (List.map Req.pv l)))] [] = some (AV.c (.pv (.bool true)), []) :=
  cc_path (x := xf35) rfl [.br false, .loop (XExit.exit (0 : Nat)) (St.mk (tmOf (38 : Nat) []) [])]
    (c := rq [(1, decide ((↑(List.length (List.map Req.pv l)) : Int) > 210) = false), (1, type_of% h)]) (by kernel_rfl)
    (aq ⟨(decide_eq_false g1), h, trivial⟩)
theorem f35x_1 (l : List Req) (o : SO) (g1 : (↑(List.length (List.map Req.pv l)) : Int) > 210) :
    cc (ev X E0) 35 [AV.c (.pv (.sl o 21 (List.map Req.pv l)))] [] = some (AV.c (.pv (.bool false)), []) :=
  cc_path (x := xf35) rfl [.br true]
    (c := [decide ((↑(List.length (List.map Req.pv l)) : Int) > 210) = true]) (by kernel_rfl)
    ⟨(decide_eq_true g1), trivial⟩
theorem f35b_2 (l : List Req) (o : SO) (y : Req) (h : lv (cv (ev X E0) xf35_l0) (rl [8, 0, 0]) 0 (S35 l o 0) = some (XExit.ret, St.mk (tmOf 38 [(2, AV.c (.pv (.bool false)))]) [.cells (Req.cs y)])) (g1 : ¬(↑(List.length (List.map Req.pv l)) : Int) > 210) :
    cc (ev X E0) 35 [AV.c (.pv (.sl o 21 (List.map Req.pv l)))] [] = some (AV.c (.pv (.bool false)), []) :=
  cc_path (x := xf35) rfl [.br false, .loop XExit.ret (St.mk (tmOf 38 [(2, AV.c (.pv (.bool false)))]) [.cells (Req.cs y)])]
    (c := rq [(1, decide ((↑(List.length (List.map Req.pv l)) : Int) > 210) = false), (1, type_of% h)]) (by kernel_rfl)
    (aq ⟨(decide_eq_false g1), h, trivial⟩)
theorem s35 (l : List Req) (o : SO) : cc (ev X E0) 35 [AV.sl o 21 (l.map Req.pv)] [] = some (.b (fitsL l), []) := by
  have em : (((l.map Req.pv).length : Nat) : Int) = l.length := by rw [List.length_map]
  unfold fitsL
  by_cases hl : l.length ≤ 210
  · rw [decide_eq_true hl, Bool.true_and]
    have key : ∀ (r pre : List Req), l = pre ++ r →
      (r.all fitR = true ∧ lv (cv (ev X E0) xf35_l0) (rl [8, 0, 0]) 0 (S35 l o (pre.length : Nat)) = some (XExit.exit 0, St.mk (tmOf 38 []) [])) ∨
      (r.all fitR = false ∧ ∃ y, lv (cv (ev X E0) xf35_l0) (rl [8, 0, 0]) 0 (S35 l o (pre.length : Nat)) = some (XExit.ret, St.mk (tmOf 38 [(2, AV.c (CV.pv (PV.bool false)))]) [Box.cells (Req.cs y)])) := by
      intro r
      induction r with
      | nil =>
        intro pre h
        rw [List.append_nil] at h
        subst h
        exact Or.inl ⟨rfl, l35_6 l o l.length not_lt_map⟩
      | cons y r ih =>
        intro pre h
        have hat : l[pre.length]? = some y := by rw [h]; simp
        have hlen : l.length = pre.length + r.length + 1 := by rw [h]; simp; omega
        have hlt := lt_map (f := Req.pv) (l := l) (i := pre.length) (by omega)
        have ey : (((y.legs.map Leg.pv).length : Nat) : Int) = y.legs.length := by rw [List.length_map]
        by_cases c1 : (↑(List.length (Req.text y)) : Int) > 6000
        · exact Or.inr ⟨by rw [List.all_cons, fitR, decide_eq_false (by omega), Bool.false_and], y, l35_1 l o pre.length y hlt hat c1⟩
        by_cases c2 : (↑(List.length (Req.memo y)) : Int) > 6000
        · exact Or.inr ⟨by rw [List.all_cons, fitR, decide_eq_false (by omega), Bool.false_and], y, l35_2 l o pre.length y hlt hat c1 c2⟩
        by_cases c3 : (↑(List.length (Req.cname y)) : Int) > 6000
        · exact Or.inr ⟨by rw [List.all_cons, fitR, decide_eq_false (by omega), Bool.false_and], y, l35_3 l o pre.length y hlt hat c1 c2 c3⟩
        by_cases c4 : (↑(List.length (List.map Leg.pv (Req.legs y))) : Int) > 40
        · exact Or.inr ⟨by rw [List.all_cons, fitR, decide_eq_false (by omega), Bool.false_and], y, l35_4 l o pre.length y hlt hat c1 c2 c3 c4⟩
        have hf : fitR y = true := by rw [fitR, decide_eq_true (by omega)]
        have st := l35_5 l o pre.length y hlt hat c1 c2 c3 c4
        have hw : IntKind.wrap .i64 ((pre.length : Int) + 1) = (((pre ++ [y]).length : Nat) : Int) := by rw [wi64 (by omega) (by omega), List.length_append, List.length_singleton]; omega
        rw [hw] at st
        rw [st, List.all_cons, hf, Bool.true_and]
        exact ih (pre ++ [y]) (by rw [h]; simp)
    rcases key l [] rfl with ⟨h1, h2⟩ | ⟨h1, y, h2⟩
    · rw [h1]; exact f35_2 l o h2 (by rw [em]; omega)
    · rw [h1]; exact f35b_2 l o y h2 (by rw [em]; omega)
  · rw [decide_eq_false hl, Bool.false_and]; exact f35x_1 l o (by rw [em]; omega)
theorem enc_len {p : Req} (hf : Fine p) (ht : Typ p) : (enc p).length ≤ 2400 := by
  have b1 := hf.acc; have b2 := hf.id; have b3 := hf.cid; have b4 := hf.ckind; have b5 := hf.racc; have b6 := hf.rkind; have b7 := hf.rcust; have b8 := hf.rprod; have b9 := hf.rpart; have b10 := hf.rcur; have b11 := ht.from'; have b12 := ht.to'; have b13 := ht.day; have b14 := hf.cur; have b15 := hf.minor; have b16 := hf.cname; have b17 := hf.memo; have b18 := hf.text; have b19 := hf.legs
  have zl {n : Int} (h : -9223372036854775808 ≤ n ∧ n ≤ 9223372036854775807) : (vb (zz n)).length ≤ 10 := vb_len10 (zz_lt h.1 h.2)
  have z1 := zl (n := p.cid) (by omega); have z2 := zl (n := p.ckind) (by omega); have z3 := zl (n := p.acc) (by omega); have z4 := zl (n := p.id) (by omega); have z5 := zl (n := p.day) (by omega)
  have x1 := zl (n := p.racc) (by omega); have x2 := zl (n := p.rkind) (by omega); have x3 := zl (n := p.rcur) (by omega); have x4 := zl (n := p.rcust) (by omega); have x5 := zl (n := p.rprod) (by omega); have x6 := zl (n := p.rpart) (by omega); have x7 := zl (n := p.rfrom) (by omega); have x8 := zl (n := p.rto) (by omega)
  have y1 := tb_len (s := p.cname) (by omega); have y2 := tb_len (s := p.memo) (by omega); have y3 := tb_len (s := p.text) (by omega); have y4 := mb_len (c := p.cur) (m := p.minor) (by omega) (by omega)
  have y5 : (bb p.last).length ≤ 1 := by rw [bb_eq]; simp
  have vl := vb_small (n := p.legs.length) (by omega)
  have hll := lsB_len hf.fit
  have h0 := hf.k.lo; have h1 := hf.k.hi
  have vk := vb_small (n := p.kd.toNat) (by omega)
  unfold enc
  rw [List.length_append]
  suffices h : (oB p.kd SH (its p)).length ≤ 2300 by omega
  unfold its
  rcases kd_cases h0 h1 with hk | hk | hk | hk | hk | hk | hk | hk | hk | hk | hk <;> rw [hk]
  · simp only [oB, SH, itB, hb0, if_true, if_false, Bool.false_eq_true, List.append_nil, List.nil_append, List.length_append, List.length_nil]; omega
  · simp only [oB, SH, itB, hb1, if_true, if_false, Bool.false_eq_true, List.append_nil, List.nil_append, List.length_append, List.length_nil]; omega
  · simp only [oB, SH, itB, hb2, if_true, if_false, Bool.false_eq_true, List.append_nil, List.nil_append, List.length_append, List.length_nil]; omega
  · simp only [oB, SH, itB, hb3, if_true, if_false, Bool.false_eq_true, List.append_nil, List.nil_append, List.length_append, List.length_nil]; omega
  · simp only [oB, SH, itB, hb4, if_true, if_false, Bool.false_eq_true, List.append_nil, List.nil_append, List.length_append, List.length_nil]; omega
  · simp only [oB, SH, itB, hb5, if_true, if_false, Bool.false_eq_true, List.append_nil, List.nil_append, List.length_append, List.length_nil]; omega
  · simp only [oB, SH, itB, hb6, if_true, if_false, Bool.false_eq_true, List.append_nil, List.nil_append, List.length_append, List.length_nil]; omega
  · simp only [oB, SH, itB, hb7, if_true, if_false, Bool.false_eq_true, List.append_nil, List.nil_append, List.length_append, List.length_nil]; omega
  · simp only [oB, SH, itB, hb8, if_true, if_false, Bool.false_eq_true, List.append_nil, List.nil_append, List.length_append, List.length_nil]; omega
  · simp only [oB, SH, itB, hb9, if_true, if_false, Bool.false_eq_true, List.append_nil, List.nil_append, List.length_append, List.length_nil]; omega
  · simp only [oB, SH, itB, hb10, if_false, Bool.false_eq_true, List.append_nil, List.length_nil]; omega
def txts : List Req → List UInt8
  | [] => []
  | x :: r => tb (enc x) ++ txts r
def firstE : List Req → Int
  | [] => 0
  | x :: r => if chk x = 0 then firstE r else chk x
def putE (l : List Req) : Int := if 200 < l.length then 4 else firstE l
def putB (l : List Req) : List UInt8 := if putE l = 0 then vb l.length ++ txts l else []
structure Good (p : Req) : Prop where
  sz : lsz p.so p.sz p.legs
  len : p.legs.length ≤ 900000
  typ : Typ p
theorem firstE_all : ∀ {l : List Req}, firstE l = 0 → ∀ x ∈ l, chk x = 0
  | [], _ => by simp
  | x :: r, h => by
    rw [firstE] at h
    by_cases c : chk x = 0
    · rw [if_pos c] at h
      intro y hy
      rcases List.mem_cons.1 hy with rfl | hy
      · exact c
      · exact firstE_all h y hy
    · rw [if_neg c] at h; exact absurd h c
theorem s38g {p : Req} (h : Good p) : cc (ev X E0) 38 [Req.av p] [] = some (.tup [AV.s (encV p), AV.i (chk p)], []) := s38 p h.sz h.len h.typ
theorem a39b {l : List Req} {o : SO} {s : Nat} (hs : lqs o s l) (hl : l.length ≤ 1000) (hg : ∀ x ∈ l, Good x) : ∀ (r pre : List Req) (w : List UInt8), l = pre ++ r → w.length ≤ 100000 * (pre.length + 1) →
    (firstE r = 0 ∧ lv (cv (ev X E0) xf39_l0) (rl [4, 13, 0, 0]) 1 (S39 l o s 2176 w (pre.length : Nat)) = some (XExit.exit 0, St.mk (tmOf 38 [(4, AV.c (CV.ptr 0 0))]) [Box.cells [CV.own 2176 1 (pvBytes (w ++ txts r))]])) ∨
    (firstE r ≠ 0 ∧ ∃ w' y, lv (cv (ev X E0) xf39_l0) (rl [4, 13, 0, 0]) 1 (S39 l o s 2176 w (pre.length : Nat)) = some (XExit.ret, St.mk (tmOf 38 [(2, AV.c (CV.pv (PV.str []))), (3, AV.c (CV.pv (PV.int .i64 (firstE r))))]) [Box.cells [CV.own 2176 1 (pvBytes w')], Box.cells (Req.cs y)]))
  | [], pre, w, e, _ => by
    rw [List.append_nil] at e
    rw [← e, txts, List.append_nil]
    exact Or.inl ⟨rfl, l39bx_1 l o s w l.length not_lt_map⟩
  | y :: r, pre, w, e, hw => by
    have hat : l[pre.length]? = some y := by rw [e]; simp
    have hlen : l.length = pre.length + r.length + 1 := by rw [e]; simp; omega
    have hlt := lt_map (f := Req.pv) (l := l) (i := pre.length) (by omega)
    have gy := hg y (by rw [e]; simp)
    have h38 := s38g gy
    rw [firstE]
    by_cases c : chk y = 0
    · rw [encV, if_pos c, c] at h38
      have hel := enc_len (chk_fine c) gy.typ
      have st := l39b_2 l o s hs w pre.length y hat _ _ h38 hlt rfl (by omega) (by omega)
      have hw' : IntKind.wrap .i64 ((pre.length : Int) + 1) = (((pre ++ [y]).length : Nat) : Int) := by rw [wi64 (by omega) (by omega), List.length_append, List.length_singleton]; omega
      rw [hw'] at st
      have htb := tb_len (s := enc y) (by omega)
      rw [st, if_pos c, txts, ← List.append_assoc]
      exact a39b hs hl hg r (pre ++ [y]) (w ++ tb (enc y)) (by rw [e]; simp) (by rw [List.length_append, List.length_append, List.length_singleton]; omega)
    · rw [if_neg c]
      exact Or.inr ⟨c, w, y, l39b_1 l o s hs w pre.length y hat _ _ h38 hlt c⟩
theorem f39x_1 (l : List Req) (o : SO) (s : Nat) (g1 : (↑(List.length (List.map Req.pv l)) : Int) > 200) :
    cc (ev X E0) 39 [AV.c (.pv (.sl o s (List.map Req.pv l)))] [] = some (AV.tup [AV.c (.pv (.str [])), AV.c (vi 4)], []) :=
  cc_path (x := xf39) rfl [.br true]
    (c := [decide ((↑(List.length (List.map Req.pv l)) : Int) > 200) = true]) (by kernel_rfl)
    ⟨(decide_eq_true g1), trivial⟩
theorem f39a_2 (l : List Req) (o : SO) (s : Nat) (w : List UInt8) (h : lv (cv (ev X E0) xf39_l0) (rl [4, 13, 0, 0]) 1 (S39 l o s 1088 (vb (Int.toNat (IntKind.wrap .u64 (↑(List.length (List.map Req.pv l)) : Int)))) 0) = some (XExit.exit 0, St.mk (tmOf 38 [(4, AV.c (.ptr 0 0))]) [.cells [.own 1088 1 (pvBytes w)]])) (g1 : ¬(↑(List.length (List.map Req.pv l)) : Int) > 200) (g2 : 0 ≤ IntKind.wrap .u64 (↑(List.length (List.map Req.pv l)) : Int)) (g3 : List.length (vb (Int.toNat (IntKind.wrap .u64 (↑(List.length (List.map Req.pv l)) : Int)))) ≤ 100000000000000) :
    cc (ev X E0) 39 [AV.c (.pv (.sl o s (List.map Req.pv l)))] [] = some (AV.tup [AV.c (.pv (.str w)), AV.c (vi 0)], []) :=
  cc_path (x := xf39) rfl [.br false, .call (AV.c (.ptr (0 : Nat) (0 : Nat))) [.cells [.pv (.sl SO.nil (0 : Nat) [])]], .call (AV.tup []) [.cells [.own 0 1 (pvBytes (vb (Int.toNat (IntKind.wrap .u64 (↑(List.length (List.map Req.pv l)) : Int)))))]], .loop (XExit.exit 0) (St.mk (tmOf 38 [(4, AV.c (.ptr 0 0))]) [.cells [.own 1088 1 (pvBytes w)]]), .call (AV.c (.pv (.str w))) [.cells [.own 0 1 (pvBytes w)]]]
    (c := rq [(1, decide ((↑(List.length (List.map Req.pv l)) : Int) > 200) = false), (1, cc (ev X E0) (48 : Nat) [] [] = some (AV.c (.ptr (0 : Nat) (0 : Nat)), [.cells [.pv (.sl SO.nil (0 : Nat) [])]])), (1, cc (ev X E0) 49 [AV.c (.ptr 0 0), AV.c (.pv (.int .u64 (IntKind.wrap .u64 (↑(List.length (List.map Req.pv l)) : Int))))] [.cells [.pv (.sl SO.nil 0 [])]] = some (AV.tup [], [.cells [.own 0 1 (pvBytes (vb (Int.toNat (IntKind.wrap .u64 (↑(List.length (List.map Req.pv l)) : Int)))))]])), (1, type_of% h), (1, cc (ev X E0) 51 [AV.c (.ptr 0 0)] [.cells [.own 0 1 (pvBytes w)]] = some (AV.c (.pv (.str w)), [.cells [.own 0 1 (pvBytes w)]]))]) (by kernel_rfl)
    (aq ⟨(decide_eq_false g1), NW_1, (Vint_nil _ _ g2 g3), h, (BytesO_1 _ _), trivial⟩)
theorem f39ar_2 (l : List Req) (o : SO) (s : Nat) (w : List UInt8) (y : Req) (c : Int) (h : lv (cv (ev X E0) xf39_l0) (rl [4, 13, 0, 0]) 1 (S39 l o s 1088 (vb (Int.toNat (IntKind.wrap .u64 (↑(List.length (List.map Req.pv l)) : Int)))) 0) = some (XExit.ret, St.mk (tmOf 38 [(2, AV.c (.pv (.str []))), (3, AV.c (vi c))]) [.cells [.own 1088 1 (pvBytes w)], .cells (Req.cs y)])) (g1 : ¬(↑(List.length (List.map Req.pv l)) : Int) > 200) (g2 : 0 ≤ IntKind.wrap .u64 (↑(List.length (List.map Req.pv l)) : Int)) (g3 : List.length (vb (Int.toNat (IntKind.wrap .u64 (↑(List.length (List.map Req.pv l)) : Int)))) ≤ 100000000000000) :
    cc (ev X E0) 39 [AV.c (.pv (.sl o s (List.map Req.pv l)))] [] = some (AV.tup [AV.c (.pv (.str [])), AV.c (vi c)], []) :=
  cc_path (x := xf39) rfl [.br false, .call (AV.c (.ptr (0 : Nat) (0 : Nat))) [.cells [.pv (.sl SO.nil (0 : Nat) [])]], .call (AV.tup []) [.cells [.own 0 1 (pvBytes (vb (Int.toNat (IntKind.wrap .u64 (↑(List.length (List.map Req.pv l)) : Int)))))]], .loop XExit.ret (St.mk (tmOf 38 [(2, AV.c (.pv (.str []))), (3, AV.c (vi c))]) [.cells [.own 1088 1 (pvBytes w)], .cells (Req.cs y)])]
    (c := rq [(1, decide ((↑(List.length (List.map Req.pv l)) : Int) > 200) = false), (1, cc (ev X E0) (48 : Nat) [] [] = some (AV.c (.ptr (0 : Nat) (0 : Nat)), [.cells [.pv (.sl SO.nil (0 : Nat) [])]])), (1, cc (ev X E0) 49 [AV.c (.ptr 0 0), AV.c (.pv (.int .u64 (IntKind.wrap .u64 (↑(List.length (List.map Req.pv l)) : Int))))] [.cells [.pv (.sl SO.nil 0 [])]] = some (AV.tup [], [.cells [.own 0 1 (pvBytes (vb (Int.toNat (IntKind.wrap .u64 (↑(List.length (List.map Req.pv l)) : Int)))))]])), (1, type_of% h)]) (by kernel_rfl)
    (aq ⟨(decide_eq_false g1), NW_1, (Vint_nil _ _ g2 g3), h, trivial⟩)
theorem f39b_2 (l : List Req) (o : SO) (s : Nat) (w : List UInt8) (h : lv (cv (ev X E0) xf39_l0) (rl [4, 13, 0, 0]) 1 (S39 l o s 1088 (vb (Int.toNat (IntKind.wrap .u64 (↑(List.length (List.map Req.pv l)) : Int)))) 0) = some (XExit.exit 0, St.mk (tmOf 38 [(4, AV.c (.ptr 0 0))]) [.cells [.own 2176 1 (pvBytes w)]])) (g1 : ¬(↑(List.length (List.map Req.pv l)) : Int) > 200) (g2 : 0 ≤ IntKind.wrap .u64 (↑(List.length (List.map Req.pv l)) : Int)) (g3 : List.length (vb (Int.toNat (IntKind.wrap .u64 (↑(List.length (List.map Req.pv l)) : Int)))) ≤ 100000000000000) :
    cc (ev X E0) 39 [AV.c (.pv (.sl o s (List.map Req.pv l)))] [] = some (AV.tup [AV.c (.pv (.str w)), AV.c (vi 0)], []) :=
  cc_path (x := xf39) rfl [.br false, .call (AV.c (.ptr (0 : Nat) (0 : Nat))) [.cells [.pv (.sl SO.nil (0 : Nat) [])]], .call (AV.tup []) [.cells [.own 0 1 (pvBytes (vb (Int.toNat (IntKind.wrap .u64 (↑(List.length (List.map Req.pv l)) : Int)))))]], .loop (XExit.exit 0) (St.mk (tmOf 38 [(4, AV.c (.ptr 0 0))]) [.cells [.own 2176 1 (pvBytes w)]]), .call (AV.c (.pv (.str w))) [.cells [.own 0 1 (pvBytes w)]]]
    (c := rq [(1, decide ((↑(List.length (List.map Req.pv l)) : Int) > 200) = false), (1, cc (ev X E0) (48 : Nat) [] [] = some (AV.c (.ptr (0 : Nat) (0 : Nat)), [.cells [.pv (.sl SO.nil (0 : Nat) [])]])), (1, cc (ev X E0) 49 [AV.c (.ptr 0 0), AV.c (.pv (.int .u64 (IntKind.wrap .u64 (↑(List.length (List.map Req.pv l)) : Int))))] [.cells [.pv (.sl SO.nil 0 [])]] = some (AV.tup [], [.cells [.own 0 1 (pvBytes (vb (Int.toNat (IntKind.wrap .u64 (↑(List.length (List.map Req.pv l)) : Int)))))]])), (1, type_of% h), (1, cc (ev X E0) 51 [AV.c (.ptr 0 0)] [.cells [.own 0 1 (pvBytes w)]] = some (AV.c (.pv (.str w)), [.cells [.own 0 1 (pvBytes w)]]))]) (by kernel_rfl)
    (aq ⟨(decide_eq_false g1), NW_1, (Vint_nil _ _ g2 g3), h, (BytesO_1 _ _), trivial⟩)
theorem f39br_2 (l : List Req) (o : SO) (s : Nat) (w : List UInt8) (y : Req) (c : Int) (h : lv (cv (ev X E0) xf39_l0) (rl [4, 13, 0, 0]) 1 (S39 l o s 1088 (vb (Int.toNat (IntKind.wrap .u64 (↑(List.length (List.map Req.pv l)) : Int)))) 0) = some (XExit.ret, St.mk (tmOf 38 [(2, AV.c (.pv (.str []))), (3, AV.c (vi c))]) [.cells [.own 2176 1 (pvBytes w)], .cells (Req.cs y)])) (g1 : ¬(↑(List.length (List.map Req.pv l)) : Int) > 200) (g2 : 0 ≤ IntKind.wrap .u64 (↑(List.length (List.map Req.pv l)) : Int)) (g3 : List.length (vb (Int.toNat (IntKind.wrap .u64 (↑(List.length (List.map Req.pv l)) : Int)))) ≤ 100000000000000) :
    cc (ev X E0) 39 [AV.c (.pv (.sl o s (List.map Req.pv l)))] [] = some (AV.tup [AV.c (.pv (.str [])), AV.c (vi c)], []) :=
  cc_path (x := xf39) rfl [.br false, .call (AV.c (.ptr (0 : Nat) (0 : Nat))) [.cells [.pv (.sl SO.nil (0 : Nat) [])]], .call (AV.tup []) [.cells [.own 0 1 (pvBytes (vb (Int.toNat (IntKind.wrap .u64 (↑(List.length (List.map Req.pv l)) : Int)))))]], .loop XExit.ret (St.mk (tmOf 38 [(2, AV.c (.pv (.str []))), (3, AV.c (vi c))]) [.cells [.own 2176 1 (pvBytes w)], .cells (Req.cs y)])]
    (c := rq [(1, decide ((↑(List.length (List.map Req.pv l)) : Int) > 200) = false), (1, cc (ev X E0) (48 : Nat) [] [] = some (AV.c (.ptr (0 : Nat) (0 : Nat)), [.cells [.pv (.sl SO.nil (0 : Nat) [])]])), (1, cc (ev X E0) 49 [AV.c (.ptr 0 0), AV.c (.pv (.int .u64 (IntKind.wrap .u64 (↑(List.length (List.map Req.pv l)) : Int))))] [.cells [.pv (.sl SO.nil 0 [])]] = some (AV.tup [], [.cells [.own 0 1 (pvBytes (vb (Int.toNat (IntKind.wrap .u64 (↑(List.length (List.map Req.pv l)) : Int)))))]])), (1, type_of% h)]) (by kernel_rfl)
    (aq ⟨(decide_eq_false g1), NW_1, (Vint_nil _ _ g2 g3), h, trivial⟩)
end Go.Sx.Tryd
