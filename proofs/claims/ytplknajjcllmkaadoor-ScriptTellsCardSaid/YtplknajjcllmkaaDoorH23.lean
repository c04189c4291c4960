/- The statement ScriptTells, of the evaluator. -/
import Derived.Test.YtplknajjcllmkaaDoorH22
namespace Go.Sx.Tryd
open Go Go.Sx
theorem alive : cc (ev X E0) 36 [] [] = some (.b true, []) := by
  show (ev X E0 36 [] []).bind canon = _
  rw [Calive36.alive36]
  rfl
theorem fit_good {p : Req} (hw : WReq p) (hf : fitR p = true) : Good p := by
  simp only [fitR, decide_eq_true_eq] at hf
  refine ⟨?_, by omega, hw.typ⟩
  unfold lsz
  rw [hw.sz]
  unfold szOk
  cases p.so <;> rfl
theorem fits_good {l : List Req} (hw : ∀ x ∈ l, WReq x) (hf : fitsL l = true) : l.length ≤ 210 ∧ ∀ x ∈ l, Good x := by
  simp only [fitsL, Bool.and_eq_true, decide_eq_true_eq, List.all_eq_true] at hf
  exact ⟨hf.1, fun x hx => fit_good (hw x hx) (hf.2 x hx)⟩
theorem lqs21 (o : SO) (l : List Req) : lqs o 21 l := by unfold lqs szOk; cases o <;> rfl
theorem s37g {p : Req} (h : Good p) : cc (ev X E0) 37 [Req.av p] [] = some (.i (chk p), []) := s37 p h.sz h.len
theorem s40g {p : Req} (h : Good p) : cc (ev X E0) 40 [Req.av p] [] = some (.i (chk p), []) := s40 p h.sz h.len
theorem a7 {l : List Req} {o : SO} {p : Req} {q : List UInt8} {f : Int} (hl : l.length ≤ 1000) (hg : ∀ x ∈ l, Good x) (hp : Good p) : ∀ (r pre : List Req), l = pre ++ r →
    lv (cv (ev X E0) xf7_l0) (rl [0, 2, 4, 0, 57, 0]) 1 (S7 l o p q f (pre.length : Nat)) = some (XExit.exit 0, St.mk (tmOf 120 [(0, AV.c (CV.pv (PV.sl o 21 (List.map Req.pv l)))), (8, AV.c (CV.pv (PV.str q))), (9, AV.c (CV.pv (PV.int .i64 f)))]) [Box.cells (Req.cs p)])
  | [], pre, e => by
    rw [List.append_nil] at e
    rw [← e]
    exact l7x_1 l o p q f l.length not_lt_map
  | y :: r, pre, e => by
    have hat : l[pre.length]? = some y := by rw [e]; simp
    have hlen : l.length = pre.length + r.length + 1 := by rw [e]; simp; omega
    have hlt := lt_map (f := Req.pv) (l := l) (i := pre.length) (by omega)
    have gy := hg y (by rw [e]; simp)
    have h42 := s42 y p gy.sz hp.sz (by have := gy.len; omega)
    have h43 := s43 y p gy.sz hp.sz (by have := gy.len; omega)
    have st := l7_2 l o p q f pre.length y hat hlt _ h42 h43 (by simp)
    have hw' : IntKind.wrap .i64 ((pre.length : Int) + 1) = (((pre ++ [y]).length : Nat) : Int) := by rw [wi64 (by omega) (by omega), List.length_append, List.length_singleton]; omega
    rw [hw'] at st
    exact st.trans (a7 hl hg hp r (pre ++ [y]) (by rw [e]; simp))
theorem a7b {l : List Req} {o : SO} {p : Req} {q : List UInt8} {f : Int} (hl : l.length ≤ 1000) (hg : ∀ x ∈ l, Good x) : ∀ (r pre : List Req), l = pre ++ r →
    (firstE r = 0 ∧ lv (cv (ev X E0) xf7_l1) (rl [0, 7, 0, 84, 0, 0]) 1 (S7b l o p q f (pre.length : Nat)) = some (XExit.exit 2, St.mk (tmOf 120 [(0, AV.c (CV.pv (PV.sl o 21 (List.map Req.pv l)))), (8, AV.c (CV.pv (PV.str q))), (9, AV.c (CV.pv (PV.int .i64 f)))]) [Box.cells (Req.cs p)])) ∨
    (firstE r ≠ 0 ∧ (q = [] → f = firstE r → ∃ y, lv (cv (ev X E0) xf7_l1) (rl [0, 7, 0, 84, 0, 0]) 1 (S7b l o p q f (pre.length : Nat)) = some (XExit.ret, St.mk (tmOf 120 [(4, AV.c (CV.pv (PV.bool true)))]) [Box.cells (Req.cs p), Box.cells (Req.cs y)])))
  | [], pre, e => by
    rw [List.append_nil] at e
    rw [← e]
    exact Or.inl ⟨rfl, l7bx_1 l o p q f l.length not_lt_map⟩
  | y :: r, pre, e => by
    have hat : l[pre.length]? = some y := by rw [e]; simp
    have hlen : l.length = pre.length + r.length + 1 := by rw [e]; simp; omega
    have hlt := lt_map (f := Req.pv) (l := l) (i := pre.length) (by omega)
    have gy := hg y (by rw [e]; simp)
    have h37 := s37g gy
    rw [firstE]
    by_cases c : chk y = 0
    · rw [c] at h37
      have st := l7b_1 l o p q f pre.length y hat hlt h37
      have hw' : IntKind.wrap .i64 ((pre.length : Int) + 1) = (((pre ++ [y]).length : Nat) : Int) := by rw [wi64 (by omega) (by omega), List.length_append, List.length_singleton]; omega
      rw [hw'] at st
      rw [if_pos c, st]
      exact a7b hl hg r (pre ++ [y]) (by rw [e]; simp)
    · rw [if_neg c]
      refine Or.inr ⟨c, fun hq hf => ⟨y, ?_⟩⟩
      subst hq hf
      exact l7c_1 l o p pre.length y hat hlt _ c h37 rfl
theorem ScriptTells0 (l : List Req) (o : SO) (p : Req) (hw : ∀ x ∈ l, WReq x) (hp : WReq p) : cc (ev X E0) 7 [AV.sl o 21 (l.map Req.pv), Req.av p] [] = some (.b true, []) := by
  have h1 := s35 l o
  cases hf : fitsL l with
  | false => rw [hf] at h1; exact f7x_1 l o p h1 alive
  | true =>
  rw [hf] at h1
  have h2 := s35 [p] .full
  cases hfp : fitsL [p] with
  | false => rw [hfp] at h2; exact f7y_1 l o p h1 h2 alive
  | true =>
  rw [hfp] at h2
  obtain ⟨hlen, hg⟩ := fits_good hw hf
  have gp := (fits_good (l := [p]) (fun x hx => by rw [List.mem_singleton] at hx; rw [hx]; exact hp) hfp).2 p (by simp)
  have em : (((l.map Req.pv).length : Nat) : Int) = l.length := by rw [List.length_map]
  have h37 := s37g gp
  have h40 := s40g gp
  have h38 := s38g gp
  have h39 := s39 l o 21 (lqs21 o l) hg
  have hl := a7 (o := o) (p := p) (q := putB l) (f := putE l) (by omega) hg gp l [] rfl
  have hb := a7b (o := o) (p := p) (q := putB l) (f := putE l) (by omega) hg l [] rfl
  by_cases c : chk p = 0
  · have h41 := s41g gp c
    rw [encV, if_pos c, c] at h38
    rw [c] at h37 h40
    by_cases hn : 200 < l.length
    · have e1 : putE l = 4 := by unfold putE; rw [if_pos hn]
      have e2 : putB l = [] := by unfold putB; rw [if_neg (by rw [e1]; decide)]
      rw [e1, e2] at h39 hl
      exact f7a1_1 l o p h1 h2 alive _ h37 h40 h38 h41 h39 hl (by rw [em]; omega) rfl
    · have e1 : putE l = firstE l := by unfold putE; rw [if_neg hn]
      rcases hb with ⟨h0, hb⟩ | ⟨h0, hb⟩
      · have e0 : putE l = 0 := by rw [e1, h0]
        have e2 : putB l = vb l.length ++ txts l := by unfold putB; rw [if_pos e0]
        have h44 := s44 l o 21 (lqs21 o l) (by omega) hg (firstE_all h0)
        rw [← e2] at h44
        rw [e0] at h39 hl hb
        have := f7a3_1 l o p _ h1 h2 alive _ h37 h40 h38 h41 h39 hl (by rw [em]; omega) hb h44 rfl
        rw [beq_self_eq_true] at this
        exact this
      · have e2 : putB l = [] := by unfold putB; rw [if_neg (by rw [e1]; exact h0)]
        obtain ⟨y, hb⟩ := hb e2 e1
        rw [e2, e1] at hb
        rw [e2, e1] at h39 hl
        exact f7a2_1 l o p _ y h1 h2 alive _ h37 h40 h38 h41 h39 hl (by rw [em]; omega) hb rfl
  · rw [encV, if_neg c] at h38
    by_cases hn : 200 < l.length
    · have e1 : putE l = 4 := by unfold putE; rw [if_pos hn]
      have e2 : putB l = [] := by unfold putB; rw [if_neg (by rw [e1]; decide)]
      rw [e1, e2] at h39 hl
      exact f7b1_1 l o p h1 h2 alive _ c h37 h40 h38 h39 hl (by rw [em]; omega) rfl
    · have e1 : putE l = firstE l := by unfold putE; rw [if_neg hn]
      rcases hb with ⟨h0, hb⟩ | ⟨h0, hb⟩
      · have e0 : putE l = 0 := by rw [e1, h0]
        have e2 : putB l = vb l.length ++ txts l := by unfold putB; rw [if_pos e0]
        have h44 := s44 l o 21 (lqs21 o l) (by omega) hg (firstE_all h0)
        rw [← e2] at h44
        rw [e0] at h39 hl hb
        have := f7b3_1 l o p _ h1 h2 alive _ c h37 h40 h38 h39 hl (by rw [em]; omega) hb h44 rfl
        rw [beq_self_eq_true] at this
        exact this
      · have e2 : putB l = [] := by unfold putB; rw [if_neg (by rw [e1]; exact h0)]
        obtain ⟨y, hb⟩ := hb e2 e1
        rw [e2, e1] at hb
        rw [e2, e1] at h39 hl
        exact f7b2_1 l o p _ y h1 h2 alive _ c h37 h40 h38 h39 hl (by rw [em]; omega) hb rfl
theorem ScriptTells (x0 : PV) (t0 : WT (.sl ctR) x0) (x1 : List PV) (t1 : All2 WT ctR x1) : ev X E0 7 [.c (.pv x0), .agg (x1.map .pv)] [] = some (.b true, []) := by
  match x1, t1.1 with
  | [a0, a1, a2, a3, a4, a5, a6, a7, a8, a9, a10, a11, a12, a13, a14, a15, a16, a17, a18, a19, a20], _ =>
  obtain ⟨o, l, rfl, hl, ho⟩ := reqs_inv t0
  obtain ⟨p, hp, hpe⟩ := cells21 t1.2
  rw [hpe]
  exact ev_cc (ScriptTells0 l o p hl hp)
end Go.Sx.Tryd
