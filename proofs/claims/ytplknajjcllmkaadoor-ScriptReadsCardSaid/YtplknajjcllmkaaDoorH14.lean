/- The bytes of a request, of the program and of the document: the same. -/
import Derived.Test.YtplknajjcllmkaaDoorH10
namespace Go.Sx.Tryd
open Go Go.Sx
theorem tb_len {s : List UInt8} (h : s.length ≤ 1000000) : (tb s).length ≤ 10 + s.length := by
  have := vb_small (n := s.length) (by omega)
  rw [tb, List.length_append]; omega
theorem mb_len {c m : Int} (h1 : -9223372036854775808 ≤ c ∧ c ≤ 9223372036854775807) (h2 : -9223372036854775808 ≤ m ∧ m ≤ 9223372036854775807) : (mb c m).length ≤ 20 := by
  have a := vb_len10 (zz_lt h1.1 h1.2)
  have b := vb_len10 (zz_lt h2.1 h2.2)
  rw [mb, List.length_append]; omega
theorem lsB_len : ∀ {l : List Leg}, (∀ x ∈ l, FitL x) → (lsB l).length ≤ 30 * l.length
  | [], _ => by simp [lsB]
  | x :: l, h => by
    have hx := h x (by simp)
    have h1 := hx.acc; have h2 := hx.cur; have h3 := hx.minor
    have a := vb_len10 (zz_lt h1.1 h1.2)
    have b := mb_len (c := x.cur) (m := x.minor) (by omega) (by omega)
    have ih := lsB_len (l := l) fun y hy => h y (by simp [hy])
    rw [lsB, lgB, List.length_append, List.length_append, List.length_cons]; omega
theorem a41 {p : Req} (hs : lsz p.so p.sz p.legs) (hl : p.legs.length ≤ 16) (hf : ∀ x ∈ p.legs, FitL x) : ∀ (r pre : List Leg) (w : List UInt8), p.legs = pre ++ r → w.length + 30 * r.length ≤ 1000000 →
    lv (cv (ev X E0) xf41_l0) (rl [1, 1, 1]) 2 (S41 p w (pre.length : Nat)) = some (XExit.exit 1, St.mk (tmOf 194 [(3, AV.c (CV.pv (PV.str (w ++ lsB r))))]) [Box.cells (Req.csD 4 p), Box.cells (Req.rc p)])
  | [], pre, w, e, _ => by
    rw [List.append_nil] at e
    rw [← e, lsB, List.append_nil]
    exact l41_2 p w p.legs.length hs not_lt_map
  | y :: r, pre, w, e, hw => by
    have hat : p.legs[pre.length]? = some y := by rw [e]; simp
    have hlen : p.legs.length = pre.length + r.length + 1 := by rw [e]; simp; omega
    have hx := hf y (by rw [e]; simp)
    have h1 := hx.acc; have h2 := hx.cur; have h3 := hx.minor
    have a := vb_len10 (zz_lt h1.1 h1.2)
    have b := mb_len (c := y.cur) (m := y.minor) (by omega) (by omega)
    have z : (zzs [y.acc]).length ≤ 10 := by rw [zzs, zzs, List.append_nil]; exact a
    rw [List.length_cons] at hw
    have st := l41_1 p w pre.length hs y (lt_map (by omega)) hat (by intro n hn; rw [List.mem_singleton] at hn; subst hn; exact h1) (by omega) (by omega) (by omega) (by omega) (by omega) (by rw [List.length_append]; omega)
    rw [wi64 (by omega) (by omega)] at st
    have ih := a41 hs hl hf r (pre ++ [y]) (w ++ zzs [y.acc] ++ mb y.cur y.minor) (by rw [e]; simp) (by rw [List.length_append, List.length_append]; omega)
    rw [List.length_append, List.length_singleton, Int.natCast_add, Int.natCast_one] at ih
    have er : w ++ zzs [y.acc] ++ mb y.cur y.minor ++ lsB r = w ++ lsB (y :: r) := by simp only [lsB, lgB, zzs, List.append_assoc, List.append_nil]
    rw [er] at ih
    exact st.trans ih
structure Lens (p : Req) : Prop where
  f : Fine p
  t : Typ p
theorem z1_len {a : Int} (h : -9223372036854775808 ≤ a ∧ a ≤ 9223372036854775807) : (zzs [a]).length ≤ 10 := zzs_len (l := [a]) (by intro n hn; rw [List.mem_singleton] at hn; subst hn; exact h)
theorem z2_len {a b : Int} (h : -9223372036854775808 ≤ a ∧ a ≤ 9223372036854775807) (h' : -9223372036854775808 ≤ b ∧ b ≤ 9223372036854775807) : (zzs [a, b]).length ≤ 20 := by
  have := z1_len h; have := z1_len h'
  rw [zzs] at *
  rw [List.length_append] at *
  simp only [zzs, List.length_nil] at *
  simp only [List.length_append, List.length_nil]; omega
structure Facts (p : Req) : Prop where
  m1 : ∀ n ∈ [p.cid], W64 n
  m2 : ∀ n ∈ [p.ckind], W64 n
  m3 : ∀ n ∈ [p.racc, p.rkind, p.rcur, p.rcust, p.rprod, p.rpart, IntKind.wrap .i64 p.rfrom, IntKind.wrap .i64 p.rto], W64 n
  m4 : ∀ n ∈ [p.acc], W64 n
  m5 : ∀ n ∈ [p.id], W64 n
  m6 : ∀ n ∈ [IntKind.wrap .i64 p.day], W64 n
  m7 : ∀ n ∈ [p.acc, IntKind.wrap .i64 p.day], W64 n
  m8 : ∀ n ∈ [p.id, IntKind.wrap .i64 p.day], W64 n
  w1 : IntKind.wrap .i64 p.rfrom = p.rfrom
  w2 : IntKind.wrap .i64 p.rto = p.rto
  w3 : IntKind.wrap .i64 p.day = p.day
  z1 : (zzs [p.cid]).length ≤ 10
  z2 : (zzs [p.ckind]).length ≤ 10
  z3 : (zzs [p.acc]).length ≤ 10
  z4 : (zzs [p.id]).length ≤ 10
  z5 : (zzs [p.day]).length ≤ 10
  z6 : (zzs [p.racc, p.rkind, p.rcur, p.rcust, p.rprod, p.rpart, p.rfrom, p.rto]).length ≤ 80
  z7 : (zzs [p.acc, p.day]).length ≤ 20
  z8 : (zzs [p.id, p.day]).length ≤ 20
  y1 : (tb p.cname).length ≤ 10 + p.cname.length
  y2 : (tb p.memo).length ≤ 10 + p.memo.length
  y3 : (tb p.text).length ≤ 10 + p.text.length
  y4 : (mb p.cur p.minor).length ≤ 20
  y5 : (bb p.last).length ≤ 1
  b14 : 0 ≤ p.cur ∧ p.cur ≤ 3
  b15 : -1000000000000000 ≤ p.minor ∧ p.minor ≤ 1000000000000000
  b16 : p.cname.length ≤ 32
  b17 : p.memo.length ≤ 32
  b18 : p.text.length ≤ 2000
  b19 : p.legs.length ≤ 16
theorem facts {p : Req} (hf : Fine p) (ht : Typ p) : Facts p := by
  have o := hf.only
  have b1 := hf.acc; have b2 := hf.id; have b3 := hf.cid; have b4 := hf.ckind; have b5 := hf.racc; have b6 := hf.rkind; have b7 := hf.rcust; have b8 := hf.rprod; have b9 := hf.rpart; have b10 := hf.rcur; have b11 := ht.from'; have b12 := ht.to'; have b13 := ht.day; have b14 := hf.cur; have b15 := hf.minor; have b16 := hf.cname; have b17 := hf.memo; have b18 := hf.text; have b19 := hf.legs
  have w1 : IntKind.wrap .i64 p.rfrom = p.rfrom := wi64 (by omega) (by omega)
  have w2 : IntKind.wrap .i64 p.rto = p.rto := wi64 (by omega) (by omega)
  have w3 : IntKind.wrap .i64 p.day = p.day := wi64 (by omega) (by omega)
  have z1 := z1_len (a := p.cid) (by omega); have z2 := z1_len (a := p.ckind) (by omega); have z3 := z1_len (a := p.acc) (by omega); have z4 := z1_len (a := p.id) (by omega); have z5 := z1_len (a := p.day) (by omega); have z7 := z2_len (a := p.acc) (b := p.day) (by omega) (by omega); have z8 := z2_len (a := p.id) (b := p.day) (by omega) (by omega)
  have z6 : (zzs [p.racc, p.rkind, p.rcur, p.rcust, p.rprod, p.rpart, p.rfrom, p.rto]).length ≤ 80 := zzs_len (l := [p.racc, p.rkind, p.rcur, p.rcust, p.rprod, p.rpart, p.rfrom, p.rto]) (by intro n hn; simp only [List.mem_cons, List.not_mem_nil, or_false] at hn; unfold W64; omega)
  have y1 := tb_len (s := p.cname) (by omega); have y2 := tb_len (s := p.memo) (by omega); have y3 := tb_len (s := p.text) (by omega); have y4 := mb_len (c := p.cur) (m := p.minor) (by omega) (by omega)
  have y5 : (bb p.last).length ≤ 1 := by rw [bb_eq]; simp
  exact ⟨(by intro n hn; simp only [List.mem_cons, List.not_mem_nil, or_false] at hn; unfold W64; omega), (by intro n hn; simp only [List.mem_cons, List.not_mem_nil, or_false] at hn; unfold W64; omega), (by intro n hn; simp only [List.mem_cons, List.not_mem_nil, or_false, w1, w2] at hn; unfold W64; omega), (by intro n hn; simp only [List.mem_cons, List.not_mem_nil, or_false] at hn; unfold W64; omega), (by intro n hn; simp only [List.mem_cons, List.not_mem_nil, or_false] at hn; unfold W64; omega), (by intro n hn; simp only [List.mem_cons, List.not_mem_nil, or_false, w3] at hn; unfold W64; omega), (by intro n hn; simp only [List.mem_cons, List.not_mem_nil, or_false, w3] at hn; unfold W64; omega), (by intro n hn; simp only [List.mem_cons, List.not_mem_nil, or_false, w3] at hn; unfold W64; omega), w1, w2, w3, z1, z2, z3, z4, z5, z6, z7, z8, y1, y2, y3, y4, y5, b14, b15, b16, b17, b18, b19⟩
theorem p41_0 {p : Req} (hf : Fine p) (ht : Typ p) (hk : p.kd = 0) : cc (ev X E0) 41 [AV.agg (Req.csD 0 p)] [] = some (AV.s (enc p), []) := by
  obtain ⟨m1, m2, m3, m4, m5, m6, m7, m8, w1, w2, w3, z1, z2, z3, z4, z5, z6, z7, z8, y1, y2, y3, y4, y5, b14, b15, b16, b17, b18, b19⟩ := facts hf ht
  have v : (vb (Int.toNat 0)).length ≤ 10 := vb_small (by decide)
  have h0 := rVint 0 (by decide) (by decide)
  have e := b0_1 p _ h0 (by first | assumption | omega | (simp only [List.length_append, w1, w2, w3]; omega)) (by first | assumption | omega | (simp only [List.length_append, w1, w2, w3]; omega)) (by first | assumption | omega | (simp only [List.length_append, w1, w2, w3]; omega)) (by first | assumption | omega | (simp only [List.length_append]; omega)) (by first | assumption | omega | (simp only [List.length_append, w1, w2, w3]; omega)) (by first | assumption | omega | (simp only [List.length_append]; omega))
  have eb : enc p = (vb (Int.toNat 0) ++ zzs [Req.cid p] ++ tb (Req.cname p) ++ zzs [Req.ckind p]) := by
    simp only [enc, hk, oB, SH, its, itB, hb0, if_true, if_false, Bool.false_eq_true, zzs, List.append_nil, List.append_assoc]
  rw [eb]; exact e
theorem p41_1 {p : Req} (hf : Fine p) (ht : Typ p) (hk : p.kd = 1) : cc (ev X E0) 41 [AV.agg (Req.csD 1 p)] [] = some (AV.s (enc p), []) := by
  obtain ⟨m1, m2, m3, m4, m5, m6, m7, m8, w1, w2, w3, z1, z2, z3, z4, z5, z6, z7, z8, y1, y2, y3, y4, y5, b14, b15, b16, b17, b18, b19⟩ := facts hf ht
  have v : (vb (Int.toNat 1)).length ≤ 10 := vb_small (by decide)
  have h0 := rVint 1 (by decide) (by decide)
  have e := b1_1 p _ h0 (by first | assumption | omega | (simp only [List.length_append, w1, w2, w3]; omega)) (by first | assumption | omega | (simp only [w1, w2]; omega))
  have eb : enc p = (vb (Int.toNat 1) ++ zzs [Req.racc p, Req.rkind p, Req.rcur p, Req.rcust p, Req.rprod p, Req.rpart p, IntKind.wrap .i64 (Req.rfrom p), IntKind.wrap .i64 (Req.rto p)]) := by
    simp only [enc, hk, oB, SH, its, itB, hb1, if_true, if_false, Bool.false_eq_true, zzs, List.append_nil, List.nil_append, w1, w2]
  rw [eb]; exact e
theorem p41_2 {p : Req} (hf : Fine p) (ht : Typ p) (hk : p.kd = 2) : cc (ev X E0) 41 [AV.agg (Req.csD 2 p)] [] = some (AV.s (enc p), []) := by
  obtain ⟨m1, m2, m3, m4, m5, m6, m7, m8, w1, w2, w3, z1, z2, z3, z4, z5, z6, z7, z8, y1, y2, y3, y4, y5, b14, b15, b16, b17, b18, b19⟩ := facts hf ht
  have v : (vb (Int.toNat 2)).length ≤ 10 := vb_small (by decide)
  have h0 := rVint 2 (by decide) (by decide)
  have e := b2_1 p _ h0 (by first | assumption | omega | (simp only [List.length_append, w1, w2, w3]; omega)) (by first | assumption | omega | (simp only [w3]; omega))
  have eb : enc p = (vb (Int.toNat 2) ++ zzs [Req.acc p, IntKind.wrap .i64 (Req.day p)]) := by
    simp only [enc, hk, oB, SH, its, itB, hb2, if_true, if_false, Bool.false_eq_true, zzs, List.append_nil, List.nil_append, w3]
  rw [eb]; exact e
theorem p41_3 {p : Req} (hf : Fine p) (ht : Typ p) (hk : p.kd = 3) : cc (ev X E0) 41 [AV.agg (Req.csD 3 p)] [] = some (AV.s (enc p), []) := by
  obtain ⟨m1, m2, m3, m4, m5, m6, m7, m8, w1, w2, w3, z1, z2, z3, z4, z5, z6, z7, z8, y1, y2, y3, y4, y5, b14, b15, b16, b17, b18, b19⟩ := facts hf ht
  have v : (vb (Int.toNat 3)).length ≤ 10 := vb_small (by decide)
  have h0 := rVint 3 (by decide) (by decide)
  have e := b3_1 p _ h0 (by first | assumption | omega | (simp only [List.length_append, w1, w2, w3]; omega)) (by first | assumption | omega | (simp only [List.length_append, w1, w2, w3]; omega))
  have eb : enc p = (vb (Int.toNat 3) ++ tb (Req.text p)) := by
    simp only [enc, hk, oB, SH, its, itB, hb3, if_true, if_false, Bool.false_eq_true, List.append_nil, List.nil_append]
  rw [eb]; exact e
theorem p41_5 {p : Req} (hf : Fine p) (ht : Typ p) (hk : p.kd = 5) : cc (ev X E0) 41 [AV.agg (Req.csD 5 p)] [] = some (AV.s (enc p), []) := by
  obtain ⟨m1, m2, m3, m4, m5, m6, m7, m8, w1, w2, w3, z1, z2, z3, z4, z5, z6, z7, z8, y1, y2, y3, y4, y5, b14, b15, b16, b17, b18, b19⟩ := facts hf ht
  have v : (vb (Int.toNat 5)).length ≤ 10 := vb_small (by decide)
  have h0 := rVint 5 (by decide) (by decide)
  have e := b5_1 p _ h0 (by first | assumption | omega | (simp only [List.length_append, w1, w2, w3]; omega)) (by first | assumption | omega | (simp only [List.length_append, w1, w2, w3]; omega))
  have eb : enc p = (vb (Int.toNat 5) ++ zzs [Req.id p]) := by
    simp only [enc, hk, oB, SH, its, itB, hb5, if_true, if_false, Bool.false_eq_true, zzs, List.append_nil, List.nil_append]
  rw [eb]; exact e
theorem p41_6 {p : Req} (hf : Fine p) (ht : Typ p) (hk : p.kd = 6) : cc (ev X E0) 41 [AV.agg (Req.csD 6 p)] [] = some (AV.s (enc p), []) := by
  obtain ⟨m1, m2, m3, m4, m5, m6, m7, m8, w1, w2, w3, z1, z2, z3, z4, z5, z6, z7, z8, y1, y2, y3, y4, y5, b14, b15, b16, b17, b18, b19⟩ := facts hf ht
  have v : (vb (Int.toNat 6)).length ≤ 10 := vb_small (by decide)
  have h0 := rVint 6 (by decide) (by decide)
  have e := b6_1 p _ h0 (by first | assumption | omega | (simp only [List.length_append, w1, w2, w3]; omega)) (by first | assumption | omega | (simp only [List.length_append, w1, w2, w3]; omega)) (by first | assumption | omega | (simp only [List.length_append, w1, w2, w3]; omega)) (by first | assumption | omega | (simp only [List.length_append, w1, w2, w3]; omega)) (by first | assumption | omega | (simp only [List.length_append, w1, w2, w3]; omega)) (by first | assumption | omega | (simp only [List.length_append, w1, w2, w3]; omega)) (by first | assumption | omega | (simp only [List.length_append]; omega)) (by first | assumption | omega | (simp only [List.length_append, w1, w2, w3]; omega)) (by first | assumption | omega | (simp only [List.length_append, w3]; omega))
  have eb : enc p = (vb (Int.toNat 6) ++ zzs [Req.acc p] ++ mb (Req.cur p) (Req.minor p) ++ zzs [Req.id p, IntKind.wrap .i64 (Req.day p)]) := by
    simp only [enc, hk, oB, SH, its, itB, hb6, if_true, if_false, Bool.false_eq_true, zzs, List.append_nil, List.nil_append, List.append_assoc, w3]
  rw [eb]; exact e
theorem p41_7 {p : Req} (hf : Fine p) (ht : Typ p) (hk : p.kd = 7) : cc (ev X E0) 41 [AV.agg (Req.csD 7 p)] [] = some (AV.s (enc p), []) := by
  obtain ⟨m1, m2, m3, m4, m5, m6, m7, m8, w1, w2, w3, z1, z2, z3, z4, z5, z6, z7, z8, y1, y2, y3, y4, y5, b14, b15, b16, b17, b18, b19⟩ := facts hf ht
  have v : (vb (Int.toNat 7)).length ≤ 10 := vb_small (by decide)
  have h0 := rVint 7 (by decide) (by decide)
  have e := b7_1 p _ h0 (by first | assumption | omega | (simp only [List.length_append, w1, w2, w3]; omega)) (by first | assumption | omega | (simp only [List.length_append, w1, w2, w3]; omega)) (by first | assumption | omega | (simp only [List.length_append, w1, w2, w3]; omega)) (by first | assumption | omega | (simp only [List.length_append, w1, w2, w3]; omega)) (by first | assumption | omega | (simp only [List.length_append, w1, w2, w3]; omega)) (by first | assumption | omega | (simp only [List.length_append, w1, w2, w3]; omega)) (by first | assumption | omega | (simp only [List.length_append]; omega)) (by first | assumption | omega | (simp only [List.length_append]; omega))
  have eb : enc p = (vb (Int.toNat 7) ++ zzs [Req.id p] ++ mb (Req.cur p) (Req.minor p) ++ bb (Req.last p)) := by
    simp only [enc, hk, oB, SH, its, itB, hb7, if_true, if_false, Bool.false_eq_true, zzs, List.append_nil, List.nil_append, List.append_assoc]
  rw [eb]; exact e
theorem p41_8 {p : Req} (hf : Fine p) (ht : Typ p) (hk : p.kd = 8) : cc (ev X E0) 41 [AV.agg (Req.csD 8 p)] [] = some (AV.s (enc p), []) := by
  obtain ⟨m1, m2, m3, m4, m5, m6, m7, m8, w1, w2, w3, z1, z2, z3, z4, z5, z6, z7, z8, y1, y2, y3, y4, y5, b14, b15, b16, b17, b18, b19⟩ := facts hf ht
  have v : (vb (Int.toNat 8)).length ≤ 10 := vb_small (by decide)
  have h0 := rVint 8 (by decide) (by decide)
  have e := b8_1 p _ h0 (by first | assumption | omega | (simp only [List.length_append, w1, w2, w3]; omega)) (by first | assumption | omega | (simp only [List.length_append, w1, w2, w3]; omega))
  have eb : enc p = (vb (Int.toNat 8) ++ zzs [Req.id p]) := by
    simp only [enc, hk, oB, SH, its, itB, hb8, if_true, if_false, Bool.false_eq_true, zzs, List.append_nil, List.nil_append]
  rw [eb]; exact e
theorem p41_9 {p : Req} (hf : Fine p) (ht : Typ p) (hk : p.kd = 9) : cc (ev X E0) 41 [AV.agg (Req.csD 9 p)] [] = some (AV.s (enc p), []) := by
  obtain ⟨m1, m2, m3, m4, m5, m6, m7, m8, w1, w2, w3, z1, z2, z3, z4, z5, z6, z7, z8, y1, y2, y3, y4, y5, b14, b15, b16, b17, b18, b19⟩ := facts hf ht
  have v : (vb (Int.toNat 9)).length ≤ 10 := vb_small (by decide)
  have h0 := rVint 9 (by decide) (by decide)
  have e := b9_1 p _ h0 (by first | assumption | omega | (simp only [List.length_append, w1, w2, w3]; omega)) (by first | assumption | omega | (simp only [w3]; omega)) (by first | assumption | omega | (simp only [List.length_append, w3]; omega))
  have eb : enc p = (vb (Int.toNat 9) ++ zzs [IntKind.wrap .i64 (Req.day p)] ++ bb (Req.last p)) := by
    simp only [enc, hk, oB, SH, its, itB, hb9, if_true, if_false, Bool.false_eq_true, zzs, List.append_nil, List.nil_append, List.append_assoc, w3]
  rw [eb]; exact e
theorem p41_10 {p : Req} (hf : Fine p) (ht : Typ p) (hk : p.kd = 10) : cc (ev X E0) 41 [AV.agg (Req.csD 10 p)] [] = some (AV.s (enc p), []) := by
  obtain ⟨m1, m2, m3, m4, m5, m6, m7, m8, w1, w2, w3, z1, z2, z3, z4, z5, z6, z7, z8, y1, y2, y3, y4, y5, b14, b15, b16, b17, b18, b19⟩ := facts hf ht
  have v : (vb (Int.toNat 10)).length ≤ 10 := vb_small (by decide)
  have h0 := rVint 10 (by decide) (by decide)
  have e := b10_1 p _ h0 
  have eb : enc p = vb (Int.toNat 10) := by
    simp only [enc, hk, oB, SH, its, itB, hb10, if_false, Bool.false_eq_true, List.append_nil]
  rw [eb]; exact e
theorem p41_4 {p : Req} (hf : Fine p) (ht : Typ p) (hs : lsz p.so p.sz p.legs) (hk : p.kd = 4) : cc (ev X E0) 41 [AV.agg (Req.csD 4 p)] [] = some (AV.s (enc p), []) := by
  obtain ⟨m1, m2, m3, m4, m5, m6, m7, m8, w1, w2, w3, z1, z2, z3, z4, z5, z6, z7, z8, y1, y2, y3, y4, y5, b14, b15, b16, b17, b18, b19⟩ := facts hf ht
  have v : (vb (Int.toNat 4)).length ≤ 10 := vb_small (by decide)
  have h0 := rVint 4 (by decide) (by decide)
  have el : Int.toNat (IntKind.wrap .u64 (↑(List.length (List.map Leg.pv (Req.legs p))) : Int)) = p.legs.length := by rw [List.length_map, wu64]; omega
  have ez : 0 ≤ IntKind.wrap .u64 (↑(List.length (List.map Leg.pv (Req.legs p))) : Int) := by rw [wu64]; omega
  have ey : IntKind.wrap .u64 (↑(List.length (List.map Leg.pv (Req.legs p))) : Int) < 18446744073709551616 := by rw [wu64]; omega
  have hL := rVint _ ez ey
  have vl := vb_small (n := p.legs.length) (by omega)
  have hll := lsB_len hf.fit
  have eb : enc p = (vb (Int.toNat 4) ++ zzs [IntKind.wrap .i64 (Req.day p)] ++ tb (Req.memo p) ++ vb (Int.toNat (IntKind.wrap .u64 (↑(List.length (List.map Leg.pv (Req.legs p))) : Int)))) ++ lsB p.legs := by
    simp only [enc, hk, oB, SH, its, itB, hb4, if_true, if_false, Bool.false_eq_true, zzs, List.append_nil, List.nil_append, List.append_assoc, w3, el]
  have hlen : (vb (Int.toNat 4) ++ zzs [IntKind.wrap .i64 (Req.day p)] ++ tb (Req.memo p) ++ vb (Int.toNat (IntKind.wrap .u64 (↑(List.length (List.map Leg.pv (Req.legs p))) : Int)))).length ≤ 1000 := by simp only [List.length_append, w3, el]; omega
  have hl := a41 hs hf.legs hf.fit p.legs [] (vb (Int.toNat 4) ++ zzs [IntKind.wrap .i64 (Req.day p)] ++ tb (Req.memo p) ++ vb (Int.toNat (IntKind.wrap .u64 (↑(List.length (List.map Leg.pv (Req.legs p))) : Int)))) rfl (by omega)
  have e := b4_1 p _ _ _ h0 hL hl (by first | assumption | omega | (simp only [List.length_append, w1, w2, w3, el]; omega)) (by first | assumption | omega | (simp only [w3]; omega)) (by first | assumption | omega | (simp only [List.length_append, w1, w2, w3, el]; omega)) (by first | assumption | omega | (simp only [List.length_append, w3]; omega)) (by first | assumption | omega | (simp only [List.length_append, w3, el]; omega))
  rw [eb]; exact e
theorem s41 (p : Req) (hs : lsz p.so p.sz p.legs) (hc : chk p = 0) (ht : Typ p) : cc (ev X E0) 41 [Req.av p] [] = some (AV.s (enc p), []) := by
  have hf := chk_fine hc
  show cc (ev X E0) 41 [AV.agg (Req.csD p.kd p)] [] = _
  rcases kd_cases hf.k.lo hf.k.hi with hk | hk | hk | hk | hk | hk | hk | hk | hk | hk | hk <;> rw [hk]
  · exact p41_0 hf ht hk
  · exact p41_1 hf ht hk
  · exact p41_2 hf ht hk
  · exact p41_3 hf ht hk
  · exact p41_4 hf ht hs hk
  · exact p41_5 hf ht hk
  · exact p41_6 hf ht hk
  · exact p41_7 hf ht hk
  · exact p41_8 hf ht hk
  · exact p41_9 hf ht hk
  · exact p41_10 hf ht hk
end Go.Sx.Tryd
