import Derived.Test.YtplknajjcllmkaaDoorH20
import Derived.Test.YtplknajjcllmkaaDoorAl
import Derived.Test.YtplknajjcllmkaaDoorH19
namespace Go.Sx.Tryd
open Go Go.Sx
theorem enc_read {x : Req} (hg : Good x) (hc : chk x = 0) (r : List UInt8) : step [] (qT 2400) (tb (enc x) ++ r) 0 = (enc x, r, 0) := by
  have := enc_len (chk_fine hc) hg.typ
  exact step_w (qT_tb (by omega) (by omega) r)
theorem dec_enc0 {x : Req} (hg : Good x) (hc : chk x = 0) : SameR (decP (enc x)) x ∧ decE (enc x) = 0 := by
  have h := dec_enc hc hg.typ []
  rw [List.append_nil, if_pos rfl] at h
  exact h
theorem tk_w : ∀ (l : List Req) (r : List UInt8), (∀ x ∈ l, Good x) → (∀ x ∈ l, chk x = 0) → tk l.length (txts l ++ r) 0 = (0, l.map fun x => decP (enc x), r, 0)
  | [], r, _, _ => rfl
  | x :: l, r, hg, hc => by
    have e1 := enc_read (hg x (by simp)) (hc x (by simp)) (txts l ++ r)
    have e2 := (dec_enc0 (hg x (by simp)) (hc x (by simp))).2
    have ih := tk_w l r (fun y hy => hg y (by simp [hy])) fun y hy => hc y (by simp [hy])
    rw [List.length_cons, tk, txts, List.append_assoc, e1]
    dsimp only
    rw [if_neg (by decide), e2, if_neg (by decide), ih]
    rfl
theorem sames_map : ∀ {l : List Req} {g : Req → Req}, (∀ x ∈ l, SameR (g x) x) → samesB (l.map g) l = true := by
  intro l g h
  unfold samesB
  rw [Bool.and_eq_true, decide_eq_true_eq]
  refine ⟨List.length_map .., ?_⟩
  rw [Bool.not_eq_true']
  induction l with
  | nil => rfl
  | cons x l ih =>
    rw [List.map_cons, List.zip_cons_cons, List.any_cons, sameB_iff.2 (h x (by simp)), Bool.not_true, Bool.false_or]
    exact ih fun y hy => h y (by simp [hy])
theorem put_first {l : List Req} (h : putE l = 0) : l.length ≤ 200 ∧ ∀ x ∈ l, chk x = 0 := by
  unfold putE at h
  by_cases c : 200 < l.length
  · rw [if_pos c] at h; exact absurd h (by decide)
  · rw [if_neg c] at h; exact ⟨by omega, firstE_all h⟩
theorem put_bytes {l : List Req} (h : putE l = 0) : putB l = vb l.length ++ txts l := by unfold putB; rw [if_pos h]
theorem tkC_put {n : Nat} (h : n ≤ 200) (r : List UInt8) : tkC (vb n ++ r) = (n, r, 0) := step_w (qC_vb (by omega) (by omega) r)
theorem take_put {l : List Req} (h : putE l = 0) (hg : ∀ x ∈ l, Good x) (more : List UInt8) :
    takeE (putB l ++ more) = (if more = [] then 0 else 3) ∧ (more = [] → takeL (putB l ++ more) = l.map fun x => decP (enc x)) := by
  obtain ⟨h1, h2⟩ := put_first h
  have e1 : tkC (putB l ++ more) = (l.length, txts l ++ more, 0) := by rw [put_bytes h, List.append_assoc]; exact tkC_put h1 _
  have e2 : tkR (putB l ++ more) = (0, l.map fun x => decP (enc x), more, 0) := by unfold tkR; rw [e1]; exact tk_w l more hg h2
  have e3 : takeE (putB l ++ more) = (if more = [] then 0 else 3) := by
    unfold takeE; rw [e2]
    simp only [ne_eq, not_true_eq_false, if_false]
    unfold endE; rw [if_pos rfl]
  refine ⟨e3, fun hm => ?_⟩
  unfold takeL
  rw [e3, if_pos hm, if_pos rfl, e2]
theorem tk_inv : ∀ (m : Nat) (b : List UInt8) (f : Int), b.length ≤ 1000000 → (tk m b f).1 = 0 → (tk m b f).2.2.2 = 0 → f = 0 ∧ b = txts (tk m b f).2.1 ++ (tk m b f).2.2.1 ∧ ∀ x ∈ (tk m b f).2.1, Good x ∧ chk x = 0
  | 0, b, f, _, _, h => ⟨h, rfl, by simp [tk]⟩
  | m + 1, b, f, hb, h, h' => by
    rw [tk] at h h' ⊢
    by_cases hf : (step [] (qT 2400) b f).2.2 = 0
    · rw [if_neg (by omega)] at h h' ⊢
      by_cases hd : decE (step [] (qT 2400) b f).1 = 0
      · rw [if_neg (by omega)] at h h' ⊢
        dsimp only at h h' ⊢
        have hb2 : (step [] (qT 2400) b f).2.1.length ≤ 1000000 := Nat.le_trans step_len hb
        obtain ⟨i1, i2, i3⟩ := tk_inv m _ _ hb2 h h'
        obtain ⟨k1, k2, k3, k4⟩ := step_inv (z := ([] : List UInt8)) (q := qT 2400) hf
        have hl := qT_le' k2
        obtain ⟨e1, e2⟩ := enc_dec (s := (step [] (qT 2400) b f).1) (by rw [k3]; omega) hd
        refine ⟨k1, ?_, fun x hx => ?_⟩
        · rw [txts, List.append_assoc, ← i2, e1, k3, ← qT_take k2, k4, List.take_append_drop]
        · rcases List.mem_cons.1 hx with rfl | hx
          · exact ⟨good_dec e2, e2⟩
          · exact i3 x hx
      · rw [if_pos hd] at h; exact absurd h hd
    · rw [if_pos hf] at h; exact absurd h hf
theorem put_take {s : List UInt8} (hs : s.length ≤ 1000000) (h : takeE s = 0) : putE (takeL s) = 0 ∧ putB (takeL s) = s ∧ ∀ x ∈ takeL s, Good x := by
  have hL : takeL s = (tkR s).2.1 := by unfold takeL; rw [if_pos h]
  rw [hL]
  unfold takeE at h
  have h0 : (tkR s).1 = 0 := by
    by_cases c : (tkR s).1 = 0
    · exact c
    · rw [if_pos c] at h; exact absurd h c
  rw [if_neg (by omega)] at h
  have hR : (tkR s).2.2.2 = 0 ∧ (tkR s).2.2.1 = [] := by
    unfold endE at h
    split at h <;> try contradiction
    rename_i e1
    split at h <;> try contradiction
    rename_i e2
    exact ⟨e1, e2⟩
  have hl : (tkC s).2.1.length ≤ 1000000 := Nat.le_trans step_len hs
  obtain ⟨j1, j2, j3⟩ := tk_inv (tkC s).1 (tkC s).2.1 (tkC s).2.2 hl h0 hR.1
  obtain ⟨k1, k2, k3, k4⟩ := step_inv (z := 0) (q := qC 200) (b := s) (f := 0) j1
  obtain ⟨hc, hc2⟩ := qC_take k2
  have hlen : (tkR s).2.1.length = (tkC s).1 := tk_len _ _ _ h0
  have hfst : ∀ l : List Req, (∀ x ∈ l, Good x ∧ chk x = 0) → firstE l = 0 := by
    intro l
    induction l with
    | nil => intro _; rfl
    | cons x l ih => intro hh; rw [firstE, if_pos (hh x (by simp)).2]; exact ih fun y hy => hh y (by simp [hy])
  have hn : (tkC s).1 ≤ 200 := qC_le (m := 200)
  have hE : putE (tkR s).2.1 = 0 := by unfold putE; rw [if_neg (by omega)]; exact hfst _ j3
  refine ⟨hE, ?_, fun x hx => (j3 x hx).1⟩
  have j2' : txts (tkR s).2.1 = (tkC s).2.1 := by
    have : (tkC s).2.1 = txts (tkR s).2.1 ++ (tkR s).2.2.1 := j2
    rw [hR.2, List.append_nil] at this
    exact this.symm
  rw [put_bytes hE, hlen, j2']
  show vb (step 0 (qC 200) s 0).1 ++ (step 0 (qC 200) s 0).2.1 = s
  rw [k3, ← hc, k4, List.take_append_drop]
end Go.Sx.Tryd

namespace Go.Sx.Tryd
open Go Go.Sx
theorem f9x_1 (l : List Req) (o : SO) (s : List UInt8) (h1 : cc (ev X E0) 35 [AV.sl o 21 (List.map Req.pv l)] [] = some (AV.b false, [])) (h3 : cc (ev X E0) (36 : Nat) [] [] = some (AV.b true, [])) :
    cc (ev X E0) 9 [AV.c (.pv (.sl o 21 (List.map Req.pv l))), AV.c (.pv (.str s))] [] = some (AV.c (.pv (.bool true)), []) :=
  cc_path (x := xf9) rfl ([.call (AV.c (.pv (.bool false))) []] ++ bs 5 true ++ [.call (AV.c (.pv (.bool true))) []])
    (c := rq [(1, type_of% h1), (5, true = true), (1, type_of% h3)]) (by kernel_rfl)
    (aq ⟨h1, rfl, h3, trivial⟩)
theorem f9y_1 (l : List Req) (o : SO) (s : List UInt8) (h1 : cc (ev X E0) 35 [AV.sl o 21 (List.map Req.pv l)] [] = some (AV.b true, [])) (h3 : cc (ev X E0) (36 : Nat) [] [] = some (AV.b true, [])) (hs : (↑(List.length s) : Int) > 6000) :
    cc (ev X E0) 9 [AV.c (.pv (.sl o 21 (List.map Req.pv l))), AV.c (.pv (.str s))] [] = some (AV.c (.pv (.bool true)), []) :=
  cc_path (x := xf9) rfl ([.call (AV.c (.pv (.bool true))) []] ++ bs 4 false ++ [.br true, .call (AV.c (.pv (.bool true))) []])
    (c := rq [(1, type_of% h1), (4, false = false), (1, decide ((↑(List.length s) : Int) > 6000) = true), (1, type_of% h3)]) (by kernel_rfl)
    (aq ⟨h1, rfl, (decide_eq_true hs), h3, trivial⟩)
theorem f9o1_1 (l : List Req) (o : SO) (s : List UInt8) (x : List Req) (ox : SO) (sx : Nat) (f : Int) (h1 : cc (ev X E0) 35 [AV.sl o 21 (List.map Req.pv l)] [] = some (AV.b true, [])) (h3 : cc (ev X E0) (36 : Nat) [] [] = some (AV.b true, [])) (hs : ¬(↑(List.length s) : Int) > 6000) (h46 : cs (ev X E0) 46 [AV.s s] = some (AV.tup [AV.c (.pv (.sl ox sx (List.map Req.pv x))), AV.i 0])) (h39x : cc (ev X E0) 39 [AV.sl ox sx (List.map Req.pv x)] [] = some (AV.tup [AV.s s, AV.i 0], [])) (h39 : cc (ev X E0) 39 [AV.sl o 21 (List.map Req.pv l)] [] = some (AV.tup [AV.s [], AV.i f], [])) (hf : ¬f = 0) (g1 : s = s) :
    cc (ev X E0) 9 [AV.c (.pv (.sl o 21 (List.map Req.pv l))), AV.c (.pv (.str s))] [] = some (AV.c (.pv (.bool true)), []) :=
  cc_path (x := xf9) rfl ([.call (AV.c (.pv (.bool true))) []] ++ bs 5 false ++ [.shut (AV.tup [AV.c (.pv (.sl ox sx (List.map Req.pv x))), AV.c (vi 0)]), .br true, .call (AV.tup [AV.c (.pv (.str s)), AV.c (vi 0)]) []] ++ bs 5 false ++ [.call (AV.tup [AV.c (.pv (.str [])), AV.c (vi f)]) [], .br true, .call (AV.c (.pv (.bool true))) []] ++ bs 3 true)
    (c := rq [(1, type_of% h1), (4, false = false), (1, decide ((↑(List.length s) : Int) > 6000) = false), (1, type_of% h46), (1, true = true), (1, type_of% h39x), (4, false = false), (1, (!s == s) = false), (1, type_of% h39), (1, (f != 0) = true), (1, type_of% h3), (3, true = true)]) (by kernel_rfl)
    (aq ⟨h1, rfl, (decide_eq_false hs), h46, rfl, h39x, rfl, (not_f (beq_iff_eq.mpr g1)), h39, (bne_iff_ne.mpr hf), h3, rfl, trivial⟩)
theorem f9o2_1 (l : List Req) (o : SO) (s : List UInt8) (x : List Req) (ox : SO) (sx : Nat) (q : List UInt8) (y : List Req) (oy : SO) (sy : Nat) (h1 : cc (ev X E0) 35 [AV.sl o 21 (List.map Req.pv l)] [] = some (AV.b true, [])) (h3 : cc (ev X E0) (36 : Nat) [] [] = some (AV.b true, [])) (hs : ¬(↑(List.length s) : Int) > 6000) (h46 : cs (ev X E0) 46 [AV.s s] = some (AV.tup [AV.c (.pv (.sl ox sx (List.map Req.pv x))), AV.i 0])) (h39x : cc (ev X E0) 39 [AV.sl ox sx (List.map Req.pv x)] [] = some (AV.tup [AV.s s, AV.i 0], [])) (h39 : cc (ev X E0) 39 [AV.sl o 21 (List.map Req.pv l)] [] = some (AV.tup [AV.s q, AV.i 0], [])) (k46 : cs (ev X E0) 46 [AV.s q] = some (AV.tup [AV.c (.pv (.sl oy sy (List.map Req.pv y))), AV.i 0])) (h47 : cc (ev X E0) 47 [AV.sl oy sy (List.map Req.pv y), AV.sl o 21 (List.map Req.pv l)] [] = some (AV.b true, [])) (g1 : s = s) :
    cc (ev X E0) 9 [AV.c (.pv (.sl o 21 (List.map Req.pv l))), AV.c (.pv (.str s))] [] = some (AV.c (.pv (.bool true)), []) :=
  cc_path (x := xf9) rfl ([.call (AV.c (.pv (.bool true))) []] ++ bs 5 false ++ [.shut (AV.tup [AV.c (.pv (.sl ox sx (List.map Req.pv x))), AV.c (vi 0)]), .br true, .call (AV.tup [AV.c (.pv (.str s)), AV.c (vi 0)]) []] ++ bs 5 false ++ [.call (AV.tup [AV.c (.pv (.str q)), AV.c (vi 0)]) [], .br false, .shut (AV.tup [AV.c (.pv (.sl oy sy (List.map Req.pv y))), AV.c (vi 0)]), .call (AV.c (.pv (.bool true))) []] ++ bs 6 true ++ [.call (AV.c (.pv (.bool true))) [], .br true])
    (c := rq [(1, type_of% h1), (4, false = false), (1, decide ((↑(List.length s) : Int) > 6000) = false), (1, type_of% h46), (1, true = true), (1, type_of% h39x), (4, false = false), (1, (!s == s) = false), (1, type_of% h39), (1, false = false), (1, type_of% k46), (1, type_of% h3), (6, true = true), (1, type_of% h47), (1, true = true)]) (by kernel_rfl)
    (aq ⟨h1, rfl, (decide_eq_false hs), h46, rfl, h39x, rfl, (not_f (beq_iff_eq.mpr g1)), h39, rfl, k46, h3, rfl, h47, rfl, trivial⟩)
theorem f9e1_1 (l : List Req) (o : SO) (s : List UInt8) (w f : Int) (h1 : cc (ev X E0) 35 [AV.sl o 21 (List.map Req.pv l)] [] = some (AV.b true, [])) (h3 : cc (ev X E0) (36 : Nat) [] [] = some (AV.b true, [])) (hs : ¬(↑(List.length s) : Int) > 6000) (h46 : cs (ev X E0) 46 [AV.s s] = some (AV.tup [AV.c (.pv (.sl SO.nil 0 [])), AV.i w])) (hw : ¬w = 0) (h39 : cc (ev X E0) 39 [AV.sl o 21 (List.map Req.pv l)] [] = some (AV.tup [AV.s [], AV.i f], [])) (hf : ¬f = 0) :
    cc (ev X E0) 9 [AV.c (.pv (.sl o 21 (List.map Req.pv l))), AV.c (.pv (.str s))] [] = some (AV.c (.pv (.bool true)), []) :=
  cc_path (x := xf9) rfl ([.call (AV.c (.pv (.bool true))) []] ++ bs 5 false ++ [.shut (AV.tup [AV.c (.pv (.sl SO.nil 0 [])), AV.c (vi w)]), .br false, .br false, .call (AV.tup [AV.c (.pv (.str [])), AV.c (vi f)]) [], .br true, .call (AV.c (.pv (.bool true))) []] ++ bs 3 true)
    (c := rq [(1, type_of% h1), (4, false = false), (1, decide ((↑(List.length s) : Int) > 6000) = false), (1, type_of% h46), (1, (w == 0) = false), (1, false = false), (1, type_of% h39), (1, (f != 0) = true), (1, type_of% h3), (3, true = true)]) (by kernel_rfl)
    (aq ⟨h1, rfl, (decide_eq_false hs), h46, (beq_eq_false_iff_ne.mpr hw), rfl, h39, (bne_iff_ne.mpr hf), h3, rfl, trivial⟩)
theorem f9e2_1 (l : List Req) (o : SO) (s : List UInt8) (w : Int) (q : List UInt8) (y : List Req) (oy : SO) (sy : Nat) (h1 : cc (ev X E0) 35 [AV.sl o 21 (List.map Req.pv l)] [] = some (AV.b true, [])) (h3 : cc (ev X E0) (36 : Nat) [] [] = some (AV.b true, [])) (hs : ¬(↑(List.length s) : Int) > 6000) (h46 : cs (ev X E0) 46 [AV.s s] = some (AV.tup [AV.c (.pv (.sl SO.nil 0 [])), AV.i w])) (hw : ¬w = 0) (h39 : cc (ev X E0) 39 [AV.sl o 21 (List.map Req.pv l)] [] = some (AV.tup [AV.s q, AV.i 0], [])) (k46 : cs (ev X E0) 46 [AV.s q] = some (AV.tup [AV.c (.pv (.sl oy sy (List.map Req.pv y))), AV.i 0])) (h47 : cc (ev X E0) 47 [AV.sl oy sy (List.map Req.pv y), AV.sl o 21 (List.map Req.pv l)] [] = some (AV.b true, [])) :
    cc (ev X E0) 9 [AV.c (.pv (.sl o 21 (List.map Req.pv l))), AV.c (.pv (.str s))] [] = some (AV.c (.pv (.bool true)), []) :=
  cc_path (x := xf9) rfl ([.call (AV.c (.pv (.bool true))) []] ++ bs 5 false ++ [.shut (AV.tup [AV.c (.pv (.sl SO.nil 0 [])), AV.c (vi w)]), .br false, .br false, .call (AV.tup [AV.c (.pv (.str q)), AV.c (vi 0)]) [], .br false, .shut (AV.tup [AV.c (.pv (.sl oy sy (List.map Req.pv y))), AV.c (vi 0)]), .call (AV.c (.pv (.bool true))) []] ++ bs 6 true ++ [.call (AV.c (.pv (.bool true))) [], .br true])
    (c := rq [(1, type_of% h1), (4, false = false), (1, decide ((↑(List.length s) : Int) > 6000) = false), (1, type_of% h46), (1, (w == 0) = false), (1, false = false), (1, type_of% h39), (1, false = false), (1, type_of% k46), (1, type_of% h3), (6, true = true), (1, type_of% h47), (1, true = true)]) (by kernel_rfl)
    (aq ⟨h1, rfl, (decide_eq_false hs), h46, (beq_eq_false_iff_ne.mpr hw), rfl, h39, rfl, k46, h3, rfl, h47, rfl, trivial⟩)
end Go.Sx.Tryd
/- What is handed in may be gone through; live questions. -/
namespace Go.Sx.Tryd
open Go Go.Sx
theorem alive : cc (ev X E0) 36 [] [] = some (.b true, []) := by
  show (ev X E0 36 [] []).bind canon = _
  rw [Calive36.alive36]
  rfl
theorem fit_good {p : Req} (hw : WReq p) (hf : fitR p = true) : Good p := by
  simp only [fitR, decide_eq_true_eq] at hf
  refine ⟨?_, by omega, hw.typ⟩
  unfold lsz
  rw [hw.sz]
  unfold szOk
  cases p.so <;> rfl
theorem fits_good {l : List Req} (hw : ∀ x ∈ l, WReq x) (hf : fitsL l = true) : l.length ≤ 210 ∧ ∀ x ∈ l, Good x := by
  simp only [fitsL, Bool.and_eq_true, decide_eq_true_eq, List.all_eq_true] at hf
  exact ⟨hf.1, fun x hx => fit_good (hw x hx) (hf.2 x hx)⟩
theorem lqs21 (o : SO) (l : List Req) : lqs o 21 l := by unfold lqs szOk; cases o <;> rfl
end Go.Sx.Tryd
/- The statement ScriptBack, of the evaluator. -/
namespace Go.Sx.Tryd
open Go Go.Sx
def oR (l : List Req) : SO := if l = [] then .nil else .shut
def zR (l : List Req) : Nat := if l = [] then 0 else 21
theorem outR_eq (l : List Req) : outR l = CV.pv (PV.sl (oR l) (zR l) (l.map Req.pv)) := by
  unfold outR oR zR
  by_cases c : l = []
  · rw [if_pos c, if_pos c, if_pos c, c]; rfl
  · rw [if_neg c, if_neg c, if_neg c]
theorem lqsR (l : List Req) : lqs (oR l) (zR l) l := by
  unfold lqs oR zR
  by_cases c : l = []
  · rw [if_pos c, if_pos c, c]; rfl
  · rw [if_neg c, if_neg c]; rfl
theorem s46o {s : List UInt8} (hs : s.length ≤ 1000000) (h : takeE s = 0) : cs (ev X E0) 46 [AV.s s] = some (.tup [AV.c (CV.pv (PV.sl (oR (takeL s)) (zR (takeL s)) ((takeL s).map Req.pv))), AV.i 0]) := by
  have e := s46 s hs
  rw [takA, outR_eq, h] at e
  exact e
theorem s46e {s : List UInt8} (hs : s.length ≤ 1000000) (h : ¬ takeE s = 0) : cs (ev X E0) 46 [AV.s s] = some (.tup [AV.c (CV.pv (PV.sl .nil 0 [])), AV.i (takeE s)]) := by
  have e := s46 s hs
  have hl : takeL s = [] := by unfold takeL; rw [if_neg h]
  rw [takA, hl] at e
  exact e
theorem putB_len {l : List Req} (h : putE l = 0) (hg : ∀ x ∈ l, Good x) : (putB l).length ≤ 1000000 := by
  obtain ⟨h1, h2⟩ := put_first h
  have a := txts_len hg h2
  have b := vb_small (n := l.length) (by omega)
  rw [put_bytes h, List.length_append]; omega
theorem ScriptBack0 (l : List Req) (o : SO) (s : List UInt8) (hw : ∀ x ∈ l, WReq x) : cc (ev X E0) 9 [AV.sl o 21 (l.map Req.pv), AV.s s] [] = some (.b true, []) := by
  have h1 := s35 l o
  cases hf : fitsL l with
  | false => rw [hf] at h1; exact f9x_1 l o s h1 alive
  | true =>
  rw [hf] at h1
  by_cases hs : (↑(List.length s) : Int) > 6000
  · exact f9y_1 l o s h1 alive hs
  obtain ⟨hlen, hg⟩ := fits_good hw hf
  have h39 := s39 l o 21 (lqs21 o l) hg
  have key : putE l = 0 → ∃ (q : List UInt8) (y : List Req) (oy : SO) (sy : Nat), cc (ev X E0) 39 [AV.sl o 21 (l.map Req.pv)] [] = some (.tup [AV.s q, AV.i 0], []) ∧
      cs (ev X E0) 46 [AV.s q] = some (.tup [AV.c (CV.pv (PV.sl oy sy (y.map Req.pv))), AV.i 0]) ∧ cc (ev X E0) 47 [AV.sl oy sy (y.map Req.pv), AV.sl o 21 (l.map Req.pv)] [] = some (.b true, []) := by
    intro h
    rw [h] at h39
    obtain ⟨t1, t2⟩ := take_put h hg []
    rw [List.append_nil, if_pos rfl] at t1
    have t3 := t2 rfl
    rw [List.append_nil] at t3
    have hpl := putB_len h hg
    have k46 := s46o hpl t1
    obtain ⟨_, _, gy⟩ := put_take hpl t1
    have h47 := s47 (takeL (putB l)) l (oR (takeL (putB l))) o (zR (takeL (putB l))) 21 (lqsR _) (lqs21 o l) (by rw [t3, List.length_map]; omega) gy hg
    obtain ⟨p1, p2⟩ := put_first h
    have hsm : samesB (takeL (putB l)) l = true := by rw [t3]; exact sames_map fun x hx => (dec_enc0 (hg x hx) (p2 x hx)).1
    rw [hsm] at h47
    exact ⟨_, _, _, _, h39, k46, h47⟩
  by_cases ht : takeE s = 0
  · have h46 := s46o (s := s) (by omega) ht
    obtain ⟨q1, q2, q3⟩ := put_take (s := s) (by omega) ht
    have h39x := s39 (takeL s) (oR (takeL s)) (zR (takeL s)) (lqsR _) q3
    rw [q1, q2] at h39x
    by_cases hp : putE l = 0
    · obtain ⟨q, y, oy, sy, k1, k2, k3⟩ := key hp
      exact f9o2_1 l o s _ _ _ q y oy sy h1 alive hs h46 h39x k1 k2 k3 rfl
    · have e : putB l = [] := by unfold putB; rw [if_neg hp]
      rw [e] at h39
      exact f9o1_1 l o s _ _ _ _ h1 alive hs h46 h39x h39 hp rfl
  · have h46 := s46e (s := s) (by omega) ht
    by_cases hp : putE l = 0
    · obtain ⟨q, y, oy, sy, k1, k2, k3⟩ := key hp
      exact f9e2_1 l o s _ q y oy sy h1 alive hs h46 ht k1 k2 k3
    · have e : putB l = [] := by unfold putB; rw [if_neg hp]
      rw [e] at h39
      exact f9e1_1 l o s _ _ h1 alive hs h46 ht h39 hp
theorem ScriptBack (x0 : PV) (t0 : WT (.sl ctR) x0) (x1 : PV) (t1 : WT .str x1) : ev X E0 9 [.c (.pv x0), .c (.pv x1)] [] = some (.b true, []) := by
  obtain ⟨o, l, rfl, hl, ho⟩ := reqs_inv t0
  obtain ⟨s, rfl, _⟩ := str_inv t1
  exact ev_cc (ScriptBack0 l o s hl)
end Go.Sx.Tryd
