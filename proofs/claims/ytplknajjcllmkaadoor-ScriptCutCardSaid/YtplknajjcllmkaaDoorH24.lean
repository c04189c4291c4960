/- Scripts and their bytes, in plain Lean: there and back. -/
import Derived.Test.YtplknajjcllmkaaDoorH20
import Derived.Test.YtplknajjcllmkaaDoorH19
import Derived.Test.YtplknajjcllmkaaDoorAl
namespace Go.Sx.Tryd
open Go Go.Sx
theorem enc_read {x : Req} (hg : Good x) (hc : chk x = 0) (r : List UInt8) : step [] (qT 2400) (tb (enc x) ++ r) 0 = (enc x, r, 0) := by
  have := enc_len (chk_fine hc) hg.typ
  exact step_w (qT_tb (by omega) (by omega) r)
theorem dec_enc0 {x : Req} (hg : Good x) (hc : chk x = 0) : SameR (decP (enc x)) x ∧ decE (enc x) = 0 := by
  have h := dec_enc hc hg.typ []
  rw [List.append_nil, if_pos rfl] at h
  exact h
theorem tk_w : ∀ (l : List Req) (r : List UInt8), (∀ x ∈ l, Good x) → (∀ x ∈ l, chk x = 0) → tk l.length (txts l ++ r) 0 = (0, l.map fun x => decP (enc x), r, 0)
  | [], r, _, _ => rfl
  | x :: l, r, hg, hc => by
    have e1 := enc_read (hg x (by simp)) (hc x (by simp)) (txts l ++ r)
    have e2 := (dec_enc0 (hg x (by simp)) (hc x (by simp))).2
    have ih := tk_w l r (fun y hy => hg y (by simp [hy])) fun y hy => hc y (by simp [hy])
    rw [List.length_cons, tk, txts, List.append_assoc, e1]
    dsimp only
    rw [if_neg (by decide), e2, if_neg (by decide), ih]
    rfl
theorem put_first {l : List Req} (h : putE l = 0) : l.length ≤ 200 ∧ ∀ x ∈ l, chk x = 0 := by
  unfold putE at h
  by_cases c : 200 < l.length
  · rw [if_pos c] at h; exact absurd h (by decide)
  · rw [if_neg c] at h; exact ⟨by omega, firstE_all h⟩
theorem put_bytes {l : List Req} (h : putE l = 0) : putB l = vb l.length ++ txts l := by unfold putB; rw [if_pos h]
theorem tkC_put {n : Nat} (h : n ≤ 200) (r : List UInt8) : tkC (vb n ++ r) = (n, r, 0) := step_w (qC_vb (by omega) (by omega) r)
theorem take_put {l : List Req} (h : putE l = 0) (hg : ∀ x ∈ l, Good x) (more : List UInt8) :
    takeE (putB l ++ more) = (if more = [] then 0 else 3) ∧ (more = [] → takeL (putB l ++ more) = l.map fun x => decP (enc x)) := by
  obtain ⟨h1, h2⟩ := put_first h
  have e1 : tkC (putB l ++ more) = (l.length, txts l ++ more, 0) := by rw [put_bytes h, List.append_assoc]; exact tkC_put h1 _
  have e2 : tkR (putB l ++ more) = (0, l.map fun x => decP (enc x), more, 0) := by unfold tkR; rw [e1]; exact tk_w l more hg h2
  have e3 : takeE (putB l ++ more) = (if more = [] then 0 else 3) := by
    unfold takeE; rw [e2]
    simp only [ne_eq, not_true_eq_false, if_false]
    unfold endE; rw [if_pos rfl]
  refine ⟨e3, fun hm => ?_⟩
  unfold takeL
  rw [e3, if_pos hm, if_pos rfl, e2]
theorem tk_inv : ∀ (m : Nat) (b : List UInt8) (f : Int), b.length ≤ 1000000 → (tk m b f).1 = 0 → (tk m b f).2.2.2 = 0 → f = 0 ∧ b = txts (tk m b f).2.1 ++ (tk m b f).2.2.1 ∧ ∀ x ∈ (tk m b f).2.1, Good x ∧ chk x = 0
  | 0, b, f, _, _, h => ⟨h, rfl, by simp [tk]⟩
  | m + 1, b, f, hb, h, h' => by
    rw [tk] at h h' ⊢
    by_cases hf : (step [] (qT 2400) b f).2.2 = 0
    · rw [if_neg (by omega)] at h h' ⊢
      by_cases hd : decE (step [] (qT 2400) b f).1 = 0
      · rw [if_neg (by omega)] at h h' ⊢
        dsimp only at h h' ⊢
        have hb2 : (step [] (qT 2400) b f).2.1.length ≤ 1000000 := Nat.le_trans step_len hb
        obtain ⟨i1, i2, i3⟩ := tk_inv m _ _ hb2 h h'
        obtain ⟨k1, k2, k3, k4⟩ := step_inv (z := ([] : List UInt8)) (q := qT 2400) hf
        have hl := qT_le' k2
        obtain ⟨e1, e2⟩ := enc_dec (s := (step [] (qT 2400) b f).1) (by rw [k3]; omega) hd
        refine ⟨k1, ?_, fun x hx => ?_⟩
        · rw [txts, List.append_assoc, ← i2, e1, k3, ← qT_take k2, k4, List.take_append_drop]
        · rcases List.mem_cons.1 hx with rfl | hx
          · exact ⟨good_dec e2, e2⟩
          · exact i3 x hx
      · rw [if_pos hd] at h; exact absurd h hd
    · rw [if_pos hf] at h; exact absurd h hf
theorem put_take {s : List UInt8} (hs : s.length ≤ 1000000) (h : takeE s = 0) : putE (takeL s) = 0 ∧ putB (takeL s) = s ∧ ∀ x ∈ takeL s, Good x := by
  have hL : takeL s = (tkR s).2.1 := by unfold takeL; rw [if_pos h]
  rw [hL]
  unfold takeE at h
  have h0 : (tkR s).1 = 0 := by
    by_cases c : (tkR s).1 = 0
    · exact c
    · rw [if_pos c] at h; exact absurd h c
  rw [if_neg (by omega)] at h
  have hR : (tkR s).2.2.2 = 0 ∧ (tkR s).2.2.1 = [] := by
    unfold endE at h
    split at h <;> try contradiction
    rename_i e1
    split at h <;> try contradiction
    rename_i e2
    exact ⟨e1, e2⟩
  have hl : (tkC s).2.1.length ≤ 1000000 := Nat.le_trans step_len hs
  obtain ⟨j1, j2, j3⟩ := tk_inv (tkC s).1 (tkC s).2.1 (tkC s).2.2 hl h0 hR.1
  obtain ⟨k1, k2, k3, k4⟩ := step_inv (z := 0) (q := qC 200) (b := s) (f := 0) j1
  obtain ⟨hc, hc2⟩ := qC_take k2
  have hlen : (tkR s).2.1.length = (tkC s).1 := tk_len _ _ _ h0
  have hfst : ∀ l : List Req, (∀ x ∈ l, Good x ∧ chk x = 0) → firstE l = 0 := by
    intro l
    induction l with
    | nil => intro _; rfl
    | cons x l ih => intro hh; rw [firstE, if_pos (hh x (by simp)).2]; exact ih fun y hy => hh y (by simp [hy])
  have hn : (tkC s).1 ≤ 200 := qC_le (m := 200)
  have hE : putE (tkR s).2.1 = 0 := by unfold putE; rw [if_neg (by omega)]; exact hfst _ j3
  refine ⟨hE, ?_, fun x hx => (j3 x hx).1⟩
  have j2' : txts (tkR s).2.1 = (tkC s).2.1 := by
    have : (tkC s).2.1 = txts (tkR s).2.1 ++ (tkR s).2.2.1 := j2
    rw [hR.2, List.append_nil] at this
    exact this.symm
  rw [put_bytes hE, hlen, j2']
  show vb (step 0 (qC 200) s 0).1 ++ (step 0 (qC 200) s 0).2.1 = s
  rw [k3, ← hc, k4, List.take_append_drop]
theorem take_cut {l : List Req} (h : putE l = 0) (hg : ∀ x ∈ l, Good x) {k : Nat} (hk : k < (putB l).length) (hl : (putB l).length ≤ 1000000) : takeE ((putB l).take k) ≠ 0 := by
  intro c
  obtain ⟨h1, h2, h3⟩ := put_take (s := (putB l).take k) (by rw [List.length_take]; omega) c
  have e1 := (take_put h1 h3 ((putB l).drop k)).1
  rw [h2, List.take_append_drop] at e1
  have e2 := (take_put h hg []).1
  rw [List.append_nil, if_pos rfl] at e2
  rw [e2, if_neg (by intro e; have := congrArg List.length e; rw [List.length_drop, List.length_nil] at this; omega)] at e1
  exact absurd e1 (by decide)
end Go.Sx.Tryd
/- What is handed in may be gone through; live questions. -/
namespace Go.Sx.Tryd
open Go Go.Sx
theorem alive : cc (ev X E0) 36 [] [] = some (.b true, []) := by
  show (ev X E0 36 [] []).bind canon = _
  rw [Calive36.alive36]
  rfl
theorem fit_good {p : Req} (hw : WReq p) (hf : fitR p = true) : Good p := by
  simp only [fitR, decide_eq_true_eq] at hf
  refine ⟨?_, by omega, hw.typ⟩
  unfold lsz
  rw [hw.sz]
  unfold szOk
  cases p.so <;> rfl
theorem fits_good {l : List Req} (hw : ∀ x ∈ l, WReq x) (hf : fitsL l = true) : l.length ≤ 210 ∧ ∀ x ∈ l, Good x := by
  simp only [fitsL, Bool.and_eq_true, decide_eq_true_eq, List.all_eq_true] at hf
  exact ⟨hf.1, fun x hx => fit_good (hw x hx) (hf.2 x hx)⟩
theorem lqs21 (o : SO) (l : List Req) : lqs o 21 l := by unfold lqs szOk; cases o <;> rfl
end Go.Sx.Tryd
/- The statement ScriptBack: its paths. -/
namespace Go.Sx.Tryd
open Go Go.Sx
end Go.Sx.Tryd
/- The statement ScriptBack, of the evaluator. -/
namespace Go.Sx.Tryd
open Go Go.Sx
def oR (l : List Req) : SO := if l = [] then .nil else .shut
def zR (l : List Req) : Nat := if l = [] then 0 else 21
theorem outR_eq (l : List Req) : outR l = CV.pv (PV.sl (oR l) (zR l) (l.map Req.pv)) := by
  unfold outR oR zR
  by_cases c : l = []
  · rw [if_pos c, if_pos c, if_pos c, c]; rfl
  · rw [if_neg c, if_neg c, if_neg c]
theorem s46o {s : List UInt8} (hs : s.length ≤ 1000000) (h : takeE s = 0) : cs (ev X E0) 46 [AV.s s] = some (.tup [AV.c (CV.pv (PV.sl (oR (takeL s)) (zR (takeL s)) ((takeL s).map Req.pv))), AV.i 0]) := by
  have e := s46 s hs
  rw [takA, outR_eq, h] at e
  exact e
theorem s46e {s : List UInt8} (hs : s.length ≤ 1000000) (h : ¬ takeE s = 0) : cs (ev X E0) 46 [AV.s s] = some (.tup [AV.c (CV.pv (PV.sl .nil 0 [])), AV.i (takeE s)]) := by
  have e := s46 s hs
  have hl : takeL s = [] := by unfold takeL; rw [if_neg h]
  rw [takA, hl] at e
  exact e
theorem putB_len {l : List Req} (h : putE l = 0) (hg : ∀ x ∈ l, Good x) : (putB l).length ≤ 1000000 := by
  obtain ⟨h1, h2⟩ := put_first h
  have a := txts_len hg h2
  have b := vb_small (n := l.length) (by omega)
  rw [put_bytes h, List.length_append]; omega
end Go.Sx.Tryd
/- The statements ScriptCut, ScriptFaults: their loops. -/
namespace Go.Sx.Tryd
open Go Go.Sx
abbrev S10 (l : List Req) (o : SO) (more : List UInt8) (i : Int) : St := St.mk (tmOf 96 [(2, AV.c (CV.pv (PV.str more))), (67, AV.c (CV.pv (PV.sl o 21 (List.map Req.pv l)))), (68, AV.c (CV.pv (PV.int .i64 (↑(List.length (List.map Req.pv l)) : Int)))), (69, AV.c (CV.pv (PV.int .i64 i)))]) []
theorem l10a_1 (l : List Req) (o : SO) (i : Nat) (y x : Req) (hy : l[i]? = some y) (hlt : (↑i : Int) < (↑(List.length (List.map Req.pv l)) : Int)) (e : List UInt8) (h38 : cc (ev X E0) 38 [Req.av y] [] = some (AV.tup [AV.s e, AV.i 0], [])) (h45 : cs (ev X E0) 45 [AV.s (e ++ [])] = some (AV.tup [Req.av x, AV.i 0])) (g1 : List.length e + 0 ≤ 9223372036854775807) :
    lv (cv (ev X E0) xf10_l0) (rl [2, 64, 0, 0]) 0 (S10 l o [] (↑i : Int)) = lv (cv (ev X E0) xf10_l0) (rl [2, 64, 0, 0]) 0 (St.mk (tmOf 96 [(2, AV.c (.pv (.str []))), (67, AV.c (.pv (.sl o 21 (List.map Req.pv l)))), (68, AV.c (vi (↑(List.length (List.map Req.pv l)) : Int))), (69, AV.c (vi (IntKind.wrap .i64 ((↑i : Int) + 1))))]) []) :=
  lv_next [.br true, .el (Req.pv y), .call (AV.tup [AV.c (.pv (.str e)), AV.c (vi 0)]) [], .shut (AV.tup [AV.agg (Req.cs x), AV.c (vi 0)]), .br false, .br false, .br false, .br false, .br false, .br false, .br false]
    (c := rq [(1, decide ((↑i : Int) < (↑(List.length (List.map Req.pv l)) : Int)) = true), (1, 0 ≤ (↑i : Int)), (1, (List.map Req.pv l)[i]? = some (Req.pv y)), (1, type_of% h38), (1, type_of% g1), (1, type_of% h45), (7, false = false)]) (by kernel_rfl)
    (aq ⟨(decide_eq_true hlt), (Int.natCast_nonneg _), (map_at hy), h38, g1, h45, rfl, trivial⟩)
theorem l10b_2 (l : List Req) (o : SO) (i : Nat) (y : Req) (hy : l[i]? = some y) (hlt : (↑i : Int) < (↑(List.length (List.map Req.pv l)) : Int)) (e more : List UInt8) (_hm : ¬more = []) (c : Int) (_hc : ¬c = 0) (h38 : cc (ev X E0) 38 [Req.av y] [] = some (AV.tup [AV.s e, AV.i 0], [])) (h45 : cs (ev X E0) 45 [AV.s (e ++ more)] = some (AV.tup [AV.agg Z21, AV.i c])) (g1 : List.length e + List.length more ≤ 9223372036854775807) (g2 : ((c == 0) == (more == [])) = true) :
    lv (cv (ev X E0) xf10_l0) (rl [2, 64, 0, 0]) 0 (S10 l o more (↑i : Int)) = lv (cv (ev X E0) xf10_l0) (rl [2, 64, 0, 0]) 0 (St.mk (tmOf 96 [(2, AV.c (.pv (.str more))), (67, AV.c (.pv (.sl o 21 (List.map Req.pv l)))), (68, AV.c (vi (↑(List.length (List.map Req.pv l)) : Int))), (69, AV.c (vi (IntKind.wrap .i64 ((↑i : Int) + 1))))]) []) :=
  lv_next [.br true, .el (Req.pv y), .call (AV.tup [AV.c (.pv (.str e)), AV.c (vi 0)]) [], .shut (AV.tup [AV.agg (Z21), AV.c (vi c)]), .br false, .br false, .br false, .br false, .br false, .br false, .br false]
    (c := rq [(1, decide ((↑i : Int) < (↑(List.length (List.map Req.pv l)) : Int)) = true), (1, 0 ≤ (↑i : Int)), (1, (List.map Req.pv l)[i]? = some (Req.pv y)), (1, type_of% h38), (1, type_of% g1), (1, type_of% h45), (6, false = false), (1, (!(c == 0) == (more == [])) = false)]) (by kernel_rfl)
    (aq ⟨(decide_eq_true hlt), (Int.natCast_nonneg _), (map_at hy), h38, g1, h45, rfl, (not_f g2), trivial⟩)
theorem l10x_1 (l : List Req) (o : SO) (more : List UInt8) (i : Nat) (hlt : ¬(↑i : Int) < (↑(List.length (List.map Req.pv l)) : Int)) :
    lv (cv (ev X E0) xf10_l0) (rl [2, 64, 0, 0]) 0 (S10 l o more (↑i : Int)) = some (XExit.exit 0, St.mk (tmOf 96 []) []) :=
  lv_exit [.br false]
    (c := [decide ((↑i : Int) < (↑(List.length (List.map Req.pv l)) : Int)) = false]) (by kernel_rfl)
    ⟨(decide_eq_false hlt), trivial⟩
end Go.Sx.Tryd
/- The statements ScriptCut, ScriptFaults: their paths. -/
namespace Go.Sx.Tryd
open Go Go.Sx
theorem f10x_1 (l : List Req) (o : SO) (cut : Int) (more : List UInt8) (h1 : cc (ev X E0) 35 [AV.sl o 21 (List.map Req.pv l)] [] = some (AV.b false, [])) (h3 : cc (ev X E0) (36 : Nat) [] [] = some (AV.b true, [])) :
    cc (ev X E0) 10 [AV.c (.pv (.sl o 21 (List.map Req.pv l))), AV.c (.pv (.int .u16 cut)), AV.c (.pv (.str more))] [] = some (AV.c (.pv (.bool true)), []) :=
  cc_path (x := xf10) rfl ([.call (AV.c (.pv (.bool false))) []] ++ bs 5 true ++ [.call (AV.c (.pv (.bool true))) []])
    (c := rq [(1, type_of% h1), (5, true = true), (1, type_of% h3)]) (by kernel_rfl)
    (aq ⟨h1, rfl, h3, trivial⟩)
theorem f10y_1 (l : List Req) (o : SO) (cut : Int) (more : List UInt8) (h1 : cc (ev X E0) 35 [AV.sl o 21 (List.map Req.pv l)] [] = some (AV.b true, [])) (h3 : cc (ev X E0) (36 : Nat) [] [] = some (AV.b true, [])) (hs : (↑(List.length more) : Int) > 6000) :
    cc (ev X E0) 10 [AV.c (.pv (.sl o 21 (List.map Req.pv l))), AV.c (.pv (.int .u16 cut)), AV.c (.pv (.str more))] [] = some (AV.c (.pv (.bool true)), []) :=
  cc_path (x := xf10) rfl ([.call (AV.c (.pv (.bool true))) []] ++ bs 4 false ++ [.br true, .call (AV.c (.pv (.bool true))) []])
    (c := rq [(1, type_of% h1), (4, false = false), (1, decide ((↑(List.length more) : Int) > 6000) = true), (1, type_of% h3)]) (by kernel_rfl)
    (aq ⟨h1, rfl, (decide_eq_true hs), h3, trivial⟩)
theorem f10z_1 (l : List Req) (o : SO) (cut : Int) (more : List UInt8) (h1 : cc (ev X E0) 35 [AV.sl o 21 (List.map Req.pv l)] [] = some (AV.b true, [])) (h3 : cc (ev X E0) (36 : Nat) [] [] = some (AV.b true, [])) (hs : ¬(↑(List.length more) : Int) > 6000) (f : Int) (hf : ¬f = 0) (h39 : cc (ev X E0) 39 [AV.sl o 21 (List.map Req.pv l)] [] = some (AV.tup [AV.s [], AV.i f], [])) :
    cc (ev X E0) 10 [AV.c (.pv (.sl o 21 (List.map Req.pv l))), AV.c (.pv (.int .u16 cut)), AV.c (.pv (.str more))] [] = some (AV.c (.pv (.bool true)), []) :=
  cc_path (x := xf10) rfl ([.call (AV.c (.pv (.bool true))) []] ++ bs 5 false ++ [.call (AV.tup [AV.c (.pv (.str [])), AV.c (vi f)]) []] ++ bs 4 true ++ [.call (AV.c (.pv (.bool true))) []])
    (c := rq [(1, type_of% h1), (4, false = false), (1, decide ((↑(List.length more) : Int) > 6000) = false), (1, type_of% h39), (3, (f != 0) = true), (1, true = true), (1, type_of% h3)]) (by kernel_rfl)
    (aq ⟨h1, rfl, (decide_eq_false hs), h39, (bne_iff_ne.mpr hf), rfl, h3, trivial⟩)
theorem f10a_1 (l : List Req) (o : SO) (cut : Int) (h1 : cc (ev X E0) 35 [AV.sl o 21 (List.map Req.pv l)] [] = some (AV.b true, [])) (h3 : cc (ev X E0) (36 : Nat) [] [] = some (AV.b true, [])) (q : List UInt8) (h39 : cc (ev X E0) 39 [AV.sl o 21 (List.map Req.pv l)] [] = some (AV.tup [AV.s q, AV.i 0], [])) (hq : ¬q = []) (f : Int) (hf : ¬f = 0) (k1 : cs (ev X E0) 46 [AV.s (List.take (Int.toNat (Int.tmod (IntKind.wrap .i64 cut) (↑(List.length q) : Int))) q)] = some (AV.tup [AV.c (.pv (.sl SO.nil 0 [])), AV.i f])) (y : List Req) (oy : SO) (sy : Nat) (k2 : cs (ev X E0) 46 [AV.s (q ++ [])] = some (AV.tup [AV.c (.pv (.sl oy sy (List.map Req.pv y))), AV.i 0])) (hl : lv (cv (ev X E0) xf10_l0) (rl [2, 64, 0, 0]) 0 (S10 l o [] 0) = some (XExit.exit 0, St.mk (tmOf 96 []) [])) (g1 : (↑(List.length q) : Int) ≠ 0) (g2 : 0 ≤ Int.tmod (IntKind.wrap .i64 cut) (↑(List.length q) : Int)) (g3 : Int.tmod (IntKind.wrap .i64 cut) (↑(List.length q) : Int) ≤ (↑(List.length q) : Int)) (g4 : List.length q + 0 ≤ 9223372036854775807) :
    cc (ev X E0) 10 [AV.c (.pv (.sl o 21 (List.map Req.pv l))), AV.c (.pv (.int .u16 cut)), AV.c (.pv (.str []))] [] = some (AV.c (.pv (.bool true)), []) :=
  cc_path (x := xf10) rfl ([.call (AV.c (.pv (.bool true))) []] ++ bs 5 false ++ [.call (AV.tup [AV.c (.pv (.str q)), AV.c (vi 0)]) []] ++ bs 4 false ++ [.shut (AV.tup [AV.c (.pv (.sl SO.nil 0 [])), AV.c (vi f)]), .shut (AV.tup [AV.c (.pv (.sl oy sy (List.map Req.pv y))), AV.c (vi 0)])] ++ bs 7 false ++ [.loop (XExit.exit (0 : Nat)) (St.mk (tmOf (96 : Nat) []) []), .call (AV.c (.pv (.bool true))) []])
    (c := rq [(1, type_of% h1), (5, false = false), (1, type_of% h39), (3, false = false), (1, (q == []) = false), (1, type_of% g1), (1, (0 : Int) ≤ (0 : Int)), (1, type_of% g2), (1, type_of% g3), (1, type_of% k1), (1, type_of% g4), (1, type_of% k2), (6, (f == 0) = false), (1, false = false), (1, type_of% hl), (1, type_of% h3)]) (by kernel_rfl)
    (aq ⟨h1, rfl, h39, rfl, (beq_eq_false_iff_ne.mpr hq), g1, (Int.le_refl _), g2, g3, k1, g4, k2, (beq_eq_false_iff_ne.mpr hf), rfl, hl, h3, trivial⟩)
theorem f10b_2 (l : List Req) (o : SO) (cut : Int) (more : List UInt8) (hs : ¬(↑(List.length more) : Int) > 6000) (_hm : ¬more = []) (h1 : cc (ev X E0) 35 [AV.sl o 21 (List.map Req.pv l)] [] = some (AV.b true, [])) (h3 : cc (ev X E0) (36 : Nat) [] [] = some (AV.b true, [])) (q : List UInt8) (h39 : cc (ev X E0) 39 [AV.sl o 21 (List.map Req.pv l)] [] = some (AV.tup [AV.s q, AV.i 0], [])) (hq : ¬q = []) (f : Int) (hf : ¬f = 0) (k1 : cs (ev X E0) 46 [AV.s (List.take (Int.toNat (Int.tmod (IntKind.wrap .i64 cut) (↑(List.length q) : Int))) q)] = some (AV.tup [AV.c (.pv (.sl SO.nil 0 [])), AV.i f])) (g : Int) (_hg : ¬g = 0) (k2 : cs (ev X E0) 46 [AV.s (q ++ more)] = some (AV.tup [AV.c (.pv (.sl SO.nil 0 [])), AV.i g])) (hl : lv (cv (ev X E0) xf10_l0) (rl [2, 64, 0, 0]) 0 (S10 l o more 0) = some (XExit.exit 0, St.mk (tmOf 96 []) [])) (g1 : (↑(List.length q) : Int) ≠ 0) (g2 : 0 ≤ Int.tmod (IntKind.wrap .i64 cut) (↑(List.length q) : Int)) (g3 : Int.tmod (IntKind.wrap .i64 cut) (↑(List.length q) : Int) ≤ (↑(List.length q) : Int)) (g4 : List.length q + List.length more ≤ 9223372036854775807) (g5 : ((g == 0) == (more == [])) = true) :
    cc (ev X E0) 10 [AV.c (.pv (.sl o 21 (List.map Req.pv l))), AV.c (.pv (.int .u16 cut)), AV.c (.pv (.str more))] [] = some (AV.c (.pv (.bool true)), []) :=
  cc_path (x := xf10) rfl ([.call (AV.c (.pv (.bool true))) []] ++ bs 5 false ++ [.call (AV.tup [AV.c (.pv (.str q)), AV.c (vi 0)]) []] ++ bs 4 false ++ [.shut (AV.tup [AV.c (.pv (.sl SO.nil 0 [])), AV.c (vi f)]), .shut (AV.tup [AV.c (.pv (.sl SO.nil 0 [])), AV.c (vi g)])] ++ bs 7 false ++ [.loop (XExit.exit (0 : Nat)) (St.mk (tmOf (96 : Nat) []) []), .call (AV.c (.pv (.bool true))) []])
    (c := rq [(1, type_of% h1), (4, false = false), (1, decide ((↑(List.length more) : Int) > 6000) = false), (1, type_of% h39), (3, false = false), (1, (q == []) = false), (1, type_of% g1), (1, (0 : Int) ≤ (0 : Int)), (1, type_of% g2), (1, type_of% g3), (1, type_of% k1), (1, type_of% g4), (1, type_of% k2), (6, (f == 0) = false), (1, (!(g == 0) == (more == [])) = false), (1, type_of% hl), (1, type_of% h3)]) (by kernel_rfl)
    (aq ⟨h1, rfl, (decide_eq_false hs), h39, rfl, (beq_eq_false_iff_ne.mpr hq), g1, (Int.le_refl _), g2, g3, k1, g4, k2, (beq_eq_false_iff_ne.mpr hf), (not_f g5), hl, h3, trivial⟩)
end Go.Sx.Tryd
/- The statement ScriptCut, of the evaluator. -/
namespace Go.Sx.Tryd
open Go Go.Sx
theorem a10 {l : List Req} {o : SO} {more : List UInt8} (hl : l.length ≤ 1000) (hg : ∀ x ∈ l, Good x) (hc : ∀ x ∈ l, chk x = 0) (hm : more.length ≤ 6000) : ∀ (r pre : List Req), l = pre ++ r →
    lv (cv (ev X E0) xf10_l0) (rl [2, 64, 0, 0]) 0 (S10 l o more (pre.length : Nat)) = some (XExit.exit 0, St.mk (tmOf 96 []) [])
  | [], pre, e => by
    rw [List.append_nil] at e
    rw [← e]
    exact l10x_1 l o more l.length not_lt_map
  | y :: r, pre, e => by
    have hat : l[pre.length]? = some y := by rw [e]; simp
    have hlen : l.length = pre.length + r.length + 1 := by rw [e]; simp; omega
    have hlt := lt_map (f := Req.pv) (l := l) (i := pre.length) (by omega)
    have gy := hg y (by rw [e]; simp)
    have cy := hc y (by rw [e]; simp)
    have h38 := s38g gy
    rw [encV, if_pos cy, cy] at h38
    have hel := enc_len (chk_fine cy) gy.typ
    obtain ⟨d1, d2⟩ := dec_enc cy gy.typ more
    have h45 := s45 (enc y ++ more) (by rw [List.length_append]; omega)
    rw [decA] at h45
    have hw' : IntKind.wrap .i64 ((pre.length : Int) + 1) = (((pre ++ [y]).length : Nat) : Int) := by rw [wi64 (by omega) (by omega), List.length_append, List.length_singleton]; omega
    by_cases c : more = []
    · subst c
      rw [if_pos rfl] at d2
      rw [d2, if_pos rfl] at h45
      have st := l10a_1 l o pre.length y _ hat hlt _ h38 h45 (by omega)
      rw [hw'] at st
      exact st.trans (a10 hl hg hc hm r (pre ++ [y]) (by rw [e]; simp))
    · rw [if_neg c] at d2
      rw [d2, if_neg (by decide)] at h45
      have st := l10b_2 l o pre.length y hat hlt _ more c 3 (by decide) h38 h45 (by omega) (by
        have : (more == []) = false := by rw [beq_eq_false_iff_ne]; exact c
        rw [this]; decide)
      rw [hw'] at st
      exact st.trans (a10 hl hg hc hm r (pre ++ [y]) (by rw [e]; simp))
theorem ScriptCut0 (l : List Req) (o : SO) (cut : Int) (hc0 : 0 ≤ cut) (hc1 : cut ≤ 65535) (more : List UInt8) (hw : ∀ x ∈ l, WReq x) : cc (ev X E0) 10 [AV.sl o 21 (l.map Req.pv), AV.int .u16 cut, AV.s more] [] = some (.b true, []) := by
  have h1 := s35 l o
  cases hf : fitsL l with
  | false => rw [hf] at h1; exact f10x_1 l o cut more h1 alive
  | true =>
  rw [hf] at h1
  by_cases hs : (↑(List.length more) : Int) > 6000
  · exact f10y_1 l o cut more h1 alive hs
  obtain ⟨hlen, hg⟩ := fits_good hw hf
  have h39 := s39 l o 21 (lqs21 o l) hg
  by_cases hp : putE l = 0
  rotate_left
  · have e : putB l = [] := by unfold putB; rw [if_neg hp]
    rw [e] at h39
    exact f10z_1 l o cut more h1 alive hs _ hp h39
  rw [hp] at h39
  obtain ⟨p1, p2⟩ := put_first hp
  have hpl := putB_len hp hg
  have hpos : 0 < (putB l).length := by rw [put_bytes hp, List.length_append]; have := vb_pos l.length; omega
  have hq : ¬ putB l = [] := fun h => by rw [h] at hpos; simp at hpos
  have hwc : IntKind.wrap IntKind.i64 cut = cut := wi64 (by omega) (by omega)
  have hnz : ((putB l).length : Int) ≠ 0 := by omega
  have m1 : 0 ≤ Int.tmod (IntKind.wrap .i64 cut) ((putB l).length : Int) := by rw [hwc, Int.tmod_eq_emod_of_nonneg hc0]; exact Int.emod_nonneg _ hnz
  have m2 : Int.tmod (IntKind.wrap .i64 cut) ((putB l).length : Int) < ((putB l).length : Int) := by rw [hwc, Int.tmod_eq_emod_of_nonneg hc0]; exact Int.emod_lt_of_pos _ (by omega)
  have hk : Int.toNat (Int.tmod (IntKind.wrap .i64 cut) ((putB l).length : Int)) < (putB l).length := by omega
  have tc := take_cut hp hg hk hpl
  have k1 := s46e (s := (putB l).take (Int.toNat (Int.tmod (IntKind.wrap .i64 cut) ((putB l).length : Int)))) (by rw [List.length_take]; omega) tc
  have hl := a10 (o := o) (more := more) (by omega) hg p2 (by omega) l [] rfl
  obtain ⟨t1, _⟩ := take_put hp hg more
  by_cases c : more = []
  · subst c
    rw [if_pos rfl] at t1
    have k2 := s46o (s := putB l ++ []) (by rw [List.append_nil]; exact hpl) t1
    exact f10a_1 l o cut h1 alive _ h39 hq _ tc k1 _ _ _ k2 hl hnz m1 (by omega) (by omega)
  · rw [if_neg c] at t1
    have hb := putB_len hp hg
    have k2 := s46e (s := putB l ++ more) (by
      have a := txts_len hg p2
      have b := vb_small (n := l.length) (by omega)
      rw [List.length_append, put_bytes hp, List.length_append]; omega) (by rw [t1]; decide)
    rw [t1] at k2
    exact f10b_2 l o cut more hs c h1 alive _ h39 hq _ tc k1 3 (by decide) k2 hl hnz m1 (by omega) (by omega) (by
      have : (more == []) = false := by rw [beq_eq_false_iff_ne]; exact c
      rw [this]; decide)
theorem ScriptCut (x0 : PV) (t0 : WT (.sl ctR) x0) (x1 : PV) (t1 : WT (.int .u16) x1) (x2 : PV) (t2 : WT .str x2) : ev X E0 10 [.c (.pv x0), .c (.pv x1), .c (.pv x2)] [] = some (.b true, []) := by
  obtain ⟨o, l, rfl, hl, ho⟩ := reqs_inv t0
  obtain ⟨n, n1, n2, rfl⟩ := int_inv t1
  obtain ⟨s, rfl, _⟩ := str_inv t2
  exact ev_cc (ScriptCut0 l o n n1 n2 s hl)
end Go.Sx.Tryd
