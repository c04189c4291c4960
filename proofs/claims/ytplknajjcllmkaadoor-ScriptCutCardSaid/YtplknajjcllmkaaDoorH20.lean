/- Scripts: their bytes, and the requests of bytes. -/
import Derived.Test.YtplknajjcllmkaaDoorH19
namespace Go.Sx.Tryd
open Go Go.Sx
theorem s39 (l : List Req) (o : SO) (s : Nat) (hs : lqs o s l) (hg : ∀ x ∈ l, Good x) : cc (ev X E0) 39 [AV.sl o s (l.map Req.pv)] [] = some (.tup [AV.s (putB l), AV.i (putE l)], []) := by
  have em : (((l.map Req.pv).length : Nat) : Int) = l.length := by rw [List.length_map]
  unfold putB putE
  by_cases hl : 200 < l.length
  · rw [if_pos hl, if_neg (by decide)]; exact f39x_1 l o s (by rw [em]; omega)
  rw [if_neg hl]
  have hn : ¬ (↑(List.length (List.map Req.pv l)) : Int) > 200 := by rw [em]; omega
  have el : Int.toNat (IntKind.wrap .u64 (↑(List.length (List.map Req.pv l)) : Int)) = l.length := by rw [em, wu64]; omega
  have ez : 0 ≤ IntKind.wrap .u64 (↑(List.length (List.map Req.pv l)) : Int) := by rw [wu64]; omega
  have vl := vb_small (n := l.length) (by omega)
  have ev : (vb (Int.toNat (IntKind.wrap .u64 (↑(List.length (List.map Req.pv l)) : Int)))).length ≤ 100000000000000 := by rw [el]; omega
  cases l with
  | nil =>
    have h := l39ax_1 [] o s (vb (Int.toNat (IntKind.wrap .u64 (↑(List.length (List.map Req.pv [])) : Int)))) 0 (by simp)
    have e := f39a_2 [] o s _ h hn ez ev
    rw [el] at e
    rw [firstE, if_pos rfl, txts, List.append_nil]
    exact e
  | cons y r =>
    have gy := hg y (by simp)
    have h38 := s38g gy
    rw [firstE]
    by_cases c : chk y = 0
    · rw [encV, if_pos c, c] at h38
      have hel := enc_len (chk_fine c) gy.typ
      have htb := tb_len (s := enc y) (by omega)
      have st := l39a_2 (y :: r) o s hs (vb (Int.toNat (IntKind.wrap .u64 (↑(List.length (List.map Req.pv (y :: r))) : Int)))) 0 y rfl _ _ h38 (by simp) rfl (by omega) (by rw [el]; omega)
      rw [show IntKind.wrap .i64 (((0 : Nat) : Int) + 1) = (([y].length : Nat) : Int) by rfl] at st
      rw [if_pos c]
      rcases a39b (o := o) (s := s) hs (by omega) hg r [y] (vb (Int.toNat (IntKind.wrap .u64 (↑(List.length (List.map Req.pv (y :: r))) : Int))) ++ tb (enc y)) rfl (by rw [List.length_append, el, List.length_singleton]; omega) with ⟨h1, h2⟩ | ⟨h1, w', z, h2⟩
      · have e := f39b_2 (y :: r) o s _ (st.trans h2) hn ez ev
        rw [el, List.append_assoc] at e
        rw [h1, if_pos rfl, txts]
        exact e
      · have e := f39br_2 (y :: r) o s _ z _ (st.trans h2) hn ez ev
        rw [if_neg h1]
        exact e
    · rw [if_neg c, if_neg c]
      exact f39ar_2 (y :: r) o s _ y _ (l39a_1 (y :: r) o s hs _ 0 y rfl _ _ h38 (by simp) c) hn ez ev
theorem txts_len : ∀ {l : List Req}, (∀ x ∈ l, Good x) → (∀ x ∈ l, chk x = 0) → (txts l).length ≤ 2500 * l.length
  | [], _, _ => by simp [txts]
  | x :: r, hg, hc => by
    have a := enc_len (chk_fine (hc x (by simp))) (hg x (by simp)).typ
    have b := tb_len (s := enc x) (by omega)
    have ih := txts_len (l := r) (fun y hy => hg y (by simp [hy])) fun y hy => hc y (by simp [hy])
    rw [txts, List.length_append, List.length_cons]; omega
end Go.Sx.Tryd
/- The requests of a script's bytes. -/
namespace Go.Sx.Tryd
open Go Go.Sx
def tk : Nat → List UInt8 → Int → Int × List Req × List UInt8 × Int
  | 0, b, f => (0, [], b, f)
  | k + 1, b, f =>
    if (step [] (qT 2400) b f).2.2 ≠ 0 then ((step [] (qT 2400) b f).2.2, [], (step [] (qT 2400) b f).2)
    else if decE (step [] (qT 2400) b f).1 ≠ 0 then (decE (step [] (qT 2400) b f).1, [], (step [] (qT 2400) b f).2)
    else ((tk k (step [] (qT 2400) b f).2.1 (step [] (qT 2400) b f).2.2).1, decP (step [] (qT 2400) b f).1 :: (tk k (step [] (qT 2400) b f).2.1 (step [] (qT 2400) b f).2.2).2.1, (tk k (step [] (qT 2400) b f).2.1 (step [] (qT 2400) b f).2.2).2.2)
def tkC (s : List UInt8) := step 0 (qC 200) s 0
def tkR (s : List UInt8) := tk (tkC s).1 (tkC s).2.1 (tkC s).2.2
def takeE (s : List UInt8) : Int := if (tkR s).1 ≠ 0 then (tkR s).1 else endE (tkR s).2.2.1 (tkR s).2.2.2
def takeL (s : List UInt8) : List Req := if takeE s = 0 then (tkR s).2.1 else []
theorem good_dec {s : List UInt8} (h : chk (decP s) = 0) : Good (decP s) := by
  refine ⟨?_, by have := (chk_fine h).legs; omega, typ_dec s⟩
  show szOk 3 (CV.pv (PV.sl (if lA (dR s).1 15 = [] then .nil else .shut) (if lA (dR s).1 15 = [] then 0 else 3) (List.map Leg.pv (lA (dR s).1 15)))) = true
  by_cases c : lA (dR s).1 15 = []
  · rw [if_pos c, if_pos c, c]; rfl
  · rw [if_neg c, if_neg c]; rfl
theorem qT_le {m : Nat} {b : List UInt8} {f : Int} : (step [] (qT m) b f).1.length ≤ m := by
  unfold step
  split
  · exact Nat.zero_le _
  · split
    · exact Nat.zero_le _
    · unfold qT
      split
      · exact Nat.zero_le _
      · split
        · exact Nat.zero_le _
        · split
          · exact Nat.zero_le _
          · simp only [List.length_take]; omega
abbrev X46 (x : CV) (b : List UInt8) (f : Int) : Option (XExit × St) := some (XExit.exit 0, St.mk (tmOf 44 [(4, AV.c (CV.ptr 0 0)), (5, AV.c x)]) [Box.cells [CV.pv (PV.str b), CV.pv (PV.int .i64 f)]])
abbrev R46 (e : Int) (bs : List Box) : Option (XExit × St) := some (XExit.ret, St.mk (tmOf 44 [(2, AV.c (CV.pv (PV.sl SO.nil 0 []))), (3, AV.c (CV.pv (PV.int .i64 e)))]) bs)
def End46 (v : Option (XExit × St)) (x : CV) (r : Int × List Req × List UInt8 × Int) : Prop :=
  (r.1 = 0 ∧ v = X46 x r.2.2.1 r.2.2.2) ∨ (r.1 ≠ 0 ∧ ((∃ b1 f1, v = R46 r.1 [Box.cells [CV.pv (PV.str b1), CV.pv (PV.int .i64 f1)]]) ∨ ∃ b1 f1, v = R46 r.1 [Box.cells [CV.pv (PV.str b1), CV.pv (PV.int .i64 f1)], Box.cells Z21]))
theorem a46 {n : Nat} (hn : n ≤ 200) : ∀ (m k : Nat) (b : List UInt8) (f : Int) (l : List Req), k + m = n → b.length ≤ 1000000 → l.length = k →
    End46 (lv (cv (ev X E0) xf46_l0) (rl [4, 0, 9, 0]) 1 (S46 (CV.own 2367 21 (l.map Req.pv)) b f n k)) (CV.own 2367 21 ((l ++ (tk m b f).2.1).map Req.pv)) (tk m b f)
  | 0, k, b, f, l, hk, hb, hl => by
    refine Or.inl ⟨rfl, ?_⟩
    simp only [tk, List.append_nil]
    exact l46bx_1 l b f n k (by omega)
  | m + 1, k, b, f, l, hk, hb, hl => by
    have hT := RT_1 b f 2400 hb (by decide)
    have hlen := qT_le (m := 2400) (b := b) (f := f)
    have hb2 : (step [] (qT 2400) b f).2.1.length ≤ 1000000 := Nat.le_trans step_len hb
    rw [tk]
    change cc (ev X E0) 97 _ _ = some (AV.s (step [] (qT ((2400 : Nat) : Int)) b f).1, [Box.cells [CV.pv (PV.str (step [] (qT ((2400 : Nat) : Int)) b f).2.1), CV.pv (PV.int .i64 (step [] (qT ((2400 : Nat) : Int)) b f).2.2)]]) at hT
    change ((step [] (qT 2400) b f).1).length ≤ 2400 at hlen
    change cc (ev X E0) 97 _ _ = some (AV.s (step [] (qT 2400) b f).1, [Box.cells [CV.pv (PV.str (step [] (qT 2400) b f).2.1), CV.pv (PV.int .i64 (step [] (qT 2400) b f).2.2)]]) at hT
    generalize step [] (qT 2400) b f = T at hT hlen hb2 ⊢
    obtain ⟨t, b1, f1⟩ := T
    dsimp only at hT hlen hb2 ⊢
    by_cases hf : f1 = 0
    · rw [if_neg (by omega)]
      have h45 := s45 t (by omega)
      unfold decA at h45
      by_cases hd : decE t = 0
      · rw [if_neg (by omega)]
        rw [if_pos hd, hd] at h45
        have st := l46b_1 l b b1 t f f1 n k (decP t) (by omega) hT hf h45 (by simp only [List.length_map, List.length_singleton]; omega)
        rw [wi64 (n := (k : Int) + 1) (by omega) (by omega)] at st
        have ih := a46 hn m (k + 1) b1 f1 (l ++ [decP t]) (by omega) hb2 (by rw [List.length_append, List.length_singleton]; omega)
        rw [Int.natCast_add, Int.natCast_one, List.map_append, List.append_assoc] at ih
        rw [st]
        exact ih
      · rw [if_pos hd]
        rw [if_neg hd] at h45
        exact Or.inr ⟨hd, Or.inr ⟨b1, f1, l46bd_1 l b b1 t f f1 n (decE t) k (by omega) hT hf h45 hd⟩⟩
    · rw [if_pos hf]
      exact Or.inr ⟨hf, Or.inl ⟨b1, f1, l46be_1 l b b1 t f f1 n k (by omega) hT hf⟩⟩
theorem a46n {n : Nat} (hn : n ≤ 200) (b : List UInt8) (f : Int) (hb : b.length ≤ 1000000) :
    End46 (lv (cv (ev X E0) xf46_l0) (rl [4, 0, 9, 0]) 1 (S46 (CV.pv (PV.sl .nil 0 [])) b f n 0)) (if n = 0 then CV.pv (PV.sl .nil 0 []) else CV.own 2367 21 ((tk n b f).2.1.map Req.pv)) (tk n b f) := by
  match n, hn with
  | 0, _ => exact Or.inl ⟨rfl, l46ax_1 b f 0 0 (by omega)⟩
  | m + 1, hn =>
    have hT := RT_1 b f 2400 hb (by decide)
    have hlen := qT_le (m := 2400) (b := b) (f := f)
    have hb2 : (step [] (qT 2400) b f).2.1.length ≤ 1000000 := Nat.le_trans step_len hb
    rw [tk, if_neg (by omega)]
    change cc (ev X E0) 97 _ _ = some (AV.s (step [] (qT ((2400 : Nat) : Int)) b f).1, [Box.cells [CV.pv (PV.str (step [] (qT ((2400 : Nat) : Int)) b f).2.1), CV.pv (PV.int .i64 (step [] (qT ((2400 : Nat) : Int)) b f).2.2)]]) at hT
    change ((step [] (qT 2400) b f).1).length ≤ 2400 at hlen
    change cc (ev X E0) 97 _ _ = some (AV.s (step [] (qT 2400) b f).1, [Box.cells [CV.pv (PV.str (step [] (qT 2400) b f).2.1), CV.pv (PV.int .i64 (step [] (qT 2400) b f).2.2)]]) at hT
    generalize step [] (qT 2400) b f = T at hT hlen hb2 ⊢
    obtain ⟨t, b1, f1⟩ := T
    dsimp only at hT hlen hb2 ⊢
    by_cases hf : f1 = 0
    · rw [if_neg (by omega)]
      have h45 := s45 t (by omega)
      unfold decA at h45
      by_cases hd : decE t = 0
      · rw [if_neg (by omega)]
        rw [if_pos hd, hd] at h45
        have st := l46a_1 b b1 t f f1 ((m + 1 : Nat) : Int) 0 (decP t) (by omega) hT hf h45 (by simp only [List.length_singleton]; omega)
        rw [wi64 (n := ((0 : Nat) : Int) + 1) (by omega) (by omega)] at st
        have ih := a46 (n := m + 1) hn m 1 b1 f1 [decP t] (by omega) hb2 rfl
        have e : lv (cv (ev X E0) xf46_l0) (rl [4, 0, 9, 0]) 1 (S46 (CV.pv (PV.sl .nil 0 [])) b f ((m + 1 : Nat) : Int) 0) = lv (cv (ev X E0) xf46_l0) (rl [4, 0, 9, 0]) 1 (S46 (CV.own 2367 21 ([decP t].map Req.pv)) b1 f1 ((m + 1 : Nat) : Int) (1 : Nat)) := st
        rw [e]
        exact ih
      · rw [if_pos hd]
        rw [if_neg hd] at h45
        exact Or.inr ⟨hd, Or.inr ⟨b1, f1, l46ad_1 b b1 t f f1 _ (decE t) 0 (by omega) hT hf h45 hd⟩⟩
    · rw [if_pos hf]
      exact Or.inr ⟨hf, Or.inl ⟨b1, f1, l46ae_1 b b1 t f f1 _ 0 (by omega) hT hf⟩⟩
abbrev f46n_hC (s b0 : List UInt8) (f0 : Int) (n : Nat) : Prop := cc (ev X E0) 93 [AV.c (.ptr 0 0), AV.i 200] [.cells [.pv (.str s), vi 0]] = some (AV.i (↑n : Int), [.cells [.pv (.str b0), vi f0]])
abbrev f46n_h (b0 b1 : List UInt8) (f0 f1 : Int) (n : Nat) : Prop := lv (cv (ev X E0) xf46_l0) (rl [4, 0, 9, 0]) 1 (S46 (.pv (.sl SO.nil 0 [])) b0 f0 (↑n : Int) 0) = some (XExit.exit 0, St.mk (tmOf 44 [(4, AV.c (.ptr 0 0)), (5, AV.c (.pv (.sl SO.nil 0 [])))]) [.cells [.pv (.str b1), vi f1]])
abbrev f46n_hE (b1 : List UInt8) (f1 e : Int) : Prop := cc (ev X E0) 96 [AV.c (.ptr 0 0)] [.cells [.pv (.str b1), vi f1]] = some (AV.i e, [.cells [.pv (.str b1), vi f1]])
theorem f46n_1 (s b0 b1 : List UInt8) (f0 f1 e : Int) (n : Nat) (hC : f46n_hC s b0 f0 n) (h : f46n_h b0 b1 f0 f1 n) (hE : f46n_hE b1 f1 e) (g1 : ¬e = 0) :
    cc (ev X E0) 46 [AV.c (.pv (.str s))] [] = some (AV.tup [AV.c (.pv (.sl SO.nil 0 [])), AV.c (vi e)], []) :=
  cc_path (x := xf46) rfl [.call (AV.c (.ptr 0 0)) [.cells [.pv (.str s), vi 0]], .call (AV.c (vi (↑n : Int))) [.cells [.pv (.str b0), vi f0]], .loop (XExit.exit 0) (St.mk (tmOf 44 [(4, AV.c (.ptr 0 0)), (5, AV.c (.pv (.sl SO.nil 0 [])))]) [.cells [.pv (.str b1), vi f1]]), .call (AV.c (vi e)) [.cells [.pv (.str b1), vi f1]], .br true]
    (c := rq [(1, cc (ev X E0) 87 [AV.c (.pv (.str s))] [] = some (AV.c (.ptr 0 0), [.cells [.pv (.str s), vi 0]])), (1, type_of% hC), (1, type_of% h), (1, type_of% hE), (1, (e != 0) = true)]) (by kernel_rfl)
    (aq ⟨(NR_1 _), hC, h, hE, (bne_iff_ne.mpr g1), trivial⟩)
theorem f46n_2 (s b0 b1 : List UInt8) (f0 f1 e : Int) (n : Nat) (hC : f46n_hC s b0 f0 n) (h : f46n_h b0 b1 f0 f1 n) (hE : f46n_hE b1 f1 e) (g1 : e = 0) :
    cc (ev X E0) 46 [AV.c (.pv (.str s))] [] = some (AV.tup [AV.c (.pv (.sl SO.nil 0 [])), AV.c (vi 0)], []) :=
  cc_path (x := xf46) rfl [.call (AV.c (.ptr 0 0)) [.cells [.pv (.str s), vi 0]], .call (AV.c (vi (↑n : Int))) [.cells [.pv (.str b0), vi f0]], .loop (XExit.exit 0) (St.mk (tmOf 44 [(4, AV.c (.ptr 0 0)), (5, AV.c (.pv (.sl SO.nil 0 [])))]) [.cells [.pv (.str b1), vi f1]]), .call (AV.c (vi e)) [.cells [.pv (.str b1), vi f1]], .br false]
    (c := rq [(1, cc (ev X E0) 87 [AV.c (.pv (.str s))] [] = some (AV.c (.ptr 0 0), [.cells [.pv (.str s), vi 0]])), (1, type_of% hC), (1, type_of% h), (1, type_of% hE), (1, (e != 0) = false)]) (by kernel_rfl)
    (aq ⟨(NR_1 _), hC, h, hE, (bne_f g1), trivial⟩)
abbrev f46o_hC (s b0 : List UInt8) (f0 : Int) (n : Nat) : Prop := cc (ev X E0) 93 [AV.c (.ptr 0 0), AV.i 200] [.cells [.pv (.str s), vi 0]] = some (AV.i (↑n : Int), [.cells [.pv (.str b0), vi f0]])
abbrev f46o_h (b0 b1 : List UInt8) (f0 f1 : Int) (n : Nat) (l : List Req) : Prop := lv (cv (ev X E0) xf46_l0) (rl [4, 0, 9, 0]) 1 (S46 (.pv (.sl SO.nil 0 [])) b0 f0 (↑n : Int) 0) = some (XExit.exit 0, St.mk (tmOf 44 [(4, AV.c (.ptr 0 0)), (5, AV.c (.own 2367 21 (List.map Req.pv l)))]) [.cells [.pv (.str b1), vi f1]])
abbrev f46o_hE (b1 : List UInt8) (f1 e : Int) : Prop := cc (ev X E0) 96 [AV.c (.ptr 0 0)] [.cells [.pv (.str b1), vi f1]] = some (AV.i e, [.cells [.pv (.str b1), vi f1]])
theorem f46o_1 (s b0 b1 : List UInt8) (f0 f1 e : Int) (n : Nat) (l : List Req) (hC : f46o_hC s b0 f0 n) (h : f46o_h b0 b1 f0 f1 n l) (hE : f46o_hE b1 f1 e) (g1 : ¬e = 0) :
    cc (ev X E0) 46 [AV.c (.pv (.str s))] [] = some (AV.tup [AV.c (.pv (.sl SO.nil 0 [])), AV.c (vi e)], []) :=
  cc_path (x := xf46) rfl [.call (AV.c (.ptr 0 0)) [.cells [.pv (.str s), vi 0]], .call (AV.c (vi (↑n : Int))) [.cells [.pv (.str b0), vi f0]], .loop (XExit.exit 0) (St.mk (tmOf 44 [(4, AV.c (.ptr 0 0)), (5, AV.c (.own 2367 21 (List.map Req.pv l)))]) [.cells [.pv (.str b1), vi f1]]), .call (AV.c (vi e)) [.cells [.pv (.str b1), vi f1]], .br true]
    (c := rq [(1, cc (ev X E0) 87 [AV.c (.pv (.str s))] [] = some (AV.c (.ptr 0 0), [.cells [.pv (.str s), vi 0]])), (1, type_of% hC), (1, type_of% h), (1, type_of% hE), (1, (e != 0) = true)]) (by kernel_rfl)
    (aq ⟨(NR_1 _), hC, h, hE, (bne_iff_ne.mpr g1), trivial⟩)
theorem f46o_2 (s b0 b1 : List UInt8) (f0 f1 e : Int) (n : Nat) (l : List Req) (hC : f46o_hC s b0 f0 n) (h : f46o_h b0 b1 f0 f1 n l) (hE : f46o_hE b1 f1 e) (g1 : e = 0) :
    cc (ev X E0) 46 [AV.c (.pv (.str s))] [] = some (AV.tup [AV.c (.own 0 21 (List.map Req.pv l)), AV.c (vi 0)], []) :=
  cc_path (x := xf46) rfl [.call (AV.c (.ptr 0 0)) [.cells [.pv (.str s), vi 0]], .call (AV.c (vi (↑n : Int))) [.cells [.pv (.str b0), vi f0]], .loop (XExit.exit 0) (St.mk (tmOf 44 [(4, AV.c (.ptr 0 0)), (5, AV.c (.own 2367 21 (List.map Req.pv l)))]) [.cells [.pv (.str b1), vi f1]]), .call (AV.c (vi e)) [.cells [.pv (.str b1), vi f1]], .br false]
    (c := rq [(1, cc (ev X E0) 87 [AV.c (.pv (.str s))] [] = some (AV.c (.ptr 0 0), [.cells [.pv (.str s), vi 0]])), (1, type_of% hC), (1, type_of% h), (1, type_of% hE), (1, (e != 0) = false)]) (by kernel_rfl)
    (aq ⟨(NR_1 _), hC, h, hE, (bne_f g1), trivial⟩)
theorem f46r_1 (s b0 b1 : List UInt8) (f0 f1 e : Int) (n : Nat) (hC : cc (ev X E0) 93 [AV.c (.ptr 0 0), AV.i 200] [.cells [.pv (.str s), vi 0]] = some (AV.i (↑n : Int), [.cells [.pv (.str b0), vi f0]])) (h : lv (cv (ev X E0) xf46_l0) (rl [4, 0, 9, 0]) 1 (S46 (.pv (.sl SO.nil 0 [])) b0 f0 (↑n : Int) 0) = some (XExit.ret, St.mk (tmOf 44 [(2, AV.c (.pv (.sl SO.nil 0 []))), (3, AV.c (vi e))]) [.cells [.pv (.str b1), vi f1]])) :
    cc (ev X E0) 46 [AV.c (.pv (.str s))] [] = some (AV.tup [AV.c (.pv (.sl SO.nil 0 [])), AV.c (vi e)], []) :=
  cc_path (x := xf46) rfl [.call (AV.c (.ptr 0 0)) [.cells [.pv (.str s), vi 0]], .call (AV.c (vi (↑n : Int))) [.cells [.pv (.str b0), vi f0]], .loop XExit.ret (St.mk (tmOf 44 [(2, AV.c (.pv (.sl SO.nil 0 []))), (3, AV.c (vi e))]) [.cells [.pv (.str b1), vi f1]])]
    (c := rq [(1, cc (ev X E0) 87 [AV.c (.pv (.str s))] [] = some (AV.c (.ptr 0 0), [.cells [.pv (.str s), vi 0]])), (1, type_of% hC), (1, type_of% h)]) (by kernel_rfl)
    (aq ⟨(NR_1 _), hC, h, trivial⟩)
theorem f46q_1 (s b0 b1 : List UInt8) (f0 f1 e : Int) (n : Nat) (hC : cc (ev X E0) 93 [AV.c (.ptr 0 0), AV.i 200] [.cells [.pv (.str s), vi 0]] = some (AV.i (↑n : Int), [.cells [.pv (.str b0), vi f0]])) (h : lv (cv (ev X E0) xf46_l0) (rl [4, 0, 9, 0]) 1 (S46 (.pv (.sl SO.nil 0 [])) b0 f0 (↑n : Int) 0) = some (XExit.ret, St.mk (tmOf 44 [(2, AV.c (.pv (.sl SO.nil 0 []))), (3, AV.c (vi e))]) [.cells [.pv (.str b1), vi f1], .cells Z21])) :
    cc (ev X E0) 46 [AV.c (.pv (.str s))] [] = some (AV.tup [AV.c (.pv (.sl SO.nil 0 [])), AV.c (vi e)], []) :=
  cc_path (x := xf46) rfl [.call (AV.c (.ptr 0 0)) [.cells [.pv (.str s), vi 0]], .call (AV.c (vi (↑n : Int))) [.cells [.pv (.str b0), vi f0]], .loop XExit.ret (St.mk (tmOf 44 [(2, AV.c (.pv (.sl SO.nil 0 []))), (3, AV.c (vi e))]) [.cells [.pv (.str b1), vi f1], .cells (Z21)])]
    (c := rq [(1, cc (ev X E0) 87 [AV.c (.pv (.str s))] [] = some (AV.c (.ptr 0 0), [.cells [.pv (.str s), vi 0]])), (1, type_of% hC), (1, type_of% h)]) (by kernel_rfl)
    (aq ⟨(NR_1 _), hC, h, trivial⟩)
def outR (l : List Req) : CV := if l = [] then CV.pv (PV.sl .nil 0 []) else CV.pv (PV.sl .shut 21 (l.map Req.pv))
abbrev takA (s : List UInt8) : AV := .tup [AV.c (outR (takeL s)), AV.i (takeE s)]
theorem tk_len : ∀ (m : Nat) (b : List UInt8) (f : Int), (tk m b f).1 = 0 → (tk m b f).2.1.length = m
  | 0, b, f, _ => rfl
  | m + 1, b, f, h => by
    rw [tk] at h ⊢
    by_cases hf : (step [] (qT 2400) b f).2.2 = 0
    · rw [if_neg (by omega)] at h ⊢
      by_cases hd : decE (step [] (qT 2400) b f).1 = 0
      · rw [if_neg (by omega)] at h ⊢
        rw [List.length_cons, tk_len m _ _ h]
      · rw [if_pos hd] at h; exact absurd h hd
    · rw [if_pos hf] at h; exact absurd h hf
theorem s46 (s : List UInt8) (hs : s.length ≤ 1000000) : cs (ev X E0) 46 [AV.s s] = some (takA s) := by
  have hC := RC_1 s 0 200 hs (by decide)
  have hn : (tkC s).1 ≤ 200 := qC_le (m := 200)
  have hl : (tkC s).2.1.length ≤ 1000000 := Nat.le_trans step_len hs
  have hC' : cc (ev X E0) 93 [AV.c (.ptr 0 0), AV.i 200] [Box.cells [.pv (.str s), .pv (.int .i64 0)]] = some (AV.i ((tkC s).1 : Int), [Box.cells [.pv (.str (tkC s).2.1), .pv (.int .i64 (tkC s).2.2)]]) := hC
  have hA := a46n hn (tkC s).2.1 (tkC s).2.2 hl
  have hlen := tk_len (tkC s).1 (tkC s).2.1 (tkC s).2.2
  unfold takA takeL takeE
  unfold tkR
  generalize tkC s = C at hC' hn hl hA hlen ⊢
  obtain ⟨n, b0, f0⟩ := C
  dsimp only at hC' hn hl hA hlen ⊢
  generalize tk n b0 f0 = r at hA hlen ⊢
  obtain ⟨e, l, b1, f1⟩ := r
  dsimp only at hlen ⊢
  rcases hA with ⟨h1, h2⟩ | ⟨h1, h2⟩
  · dsimp only at h1 h2
    have hE := sEnd b1 f1
    have hll := hlen h1
    have hee : (if e ≠ 0 then e else endE b1 f1) = endE b1 f1 := if_neg (by omega)
    rw [hee]
    by_cases n0 : n = 0
    · have hnil : l = [] := List.length_eq_zero_iff.1 (by omega)
      rw [if_pos n0] at h2
      subst hnil
      have eo : outR (if endE b1 f1 = 0 then [] else []) = CV.pv (PV.sl .nil 0 []) := by split <;> rfl
      rw [eo]
      by_cases c : endE b1 f1 = 0
      · have e2 := cs_of (f46n_2 s b0 b1 f0 f1 _ n hC' h2 hE c)
        rw [c]; exact e2
      · exact cs_of (f46n_1 s b0 b1 f0 f1 _ n hC' h2 hE c)
    · rw [if_neg n0] at h2
      have hne : l ≠ [] := by intro h; rw [h] at hll; exact n0 hll.symm
      by_cases c : endE b1 f1 = 0
      · have e2 := cs_of (f46o_2 s b0 b1 f0 f1 _ n l hC' h2 hE c)
        rw [if_pos c, outR, if_neg hne, c]; exact e2
      · rw [if_neg c]; exact cs_of (f46o_1 s b0 b1 f0 f1 _ n l hC' h2 hE c)
  · dsimp only at h1 h2
    have hee : (if e ≠ 0 then e else endE b1 f1) = e := if_pos h1
    rw [hee, if_neg h1]
    rcases h2 with ⟨b1', f1', h2⟩ | ⟨b1', f1', h2⟩
    · exact cs_of (f46r_1 s b0 b1' f0 f1' e n hC' h2)
    · exact cs_of (f46q_1 s b0 b1' f0 f1' e n hC' h2)
end Go.Sx.Tryd
