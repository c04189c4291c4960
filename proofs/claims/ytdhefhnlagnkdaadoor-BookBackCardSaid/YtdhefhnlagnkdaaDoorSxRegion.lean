/- Regions: one operation after the other. -/
import Derived.Test.YtdhefhnlagnkdaaDoorSxOper2
import Derived.Test.YtdhefhnlagnkdaaDoorSxCode
import Derived.Tactics
namespace Go.Sx
open Go
def Sat (M : Nm) (w0 : World) (own0 : Own) (st : St) (a : Act) (w : World) : Prop := a.defers = [] ∧ ∃ own nm, Inv M w0 own0 w own nm st a.tmps.toList
section
variable {P : Program} {ops : Array Oper} {o : Oper} {a : Act} {M : Nm} {w0 w w' : World} {own0 own own' : Own} {nm nm' : Nm} {st st' : St} {Q : Exit → Act → World → Prop}
theorem Inv.put (I : Inv M w0 own0 w own nm st a.tmps.toList) {v : AV} {r : Value} (h : RA w own nm v r) (dst : Option Nat) : Inv M w0 own0 w own nm ⟨putD st.tm dst v, st.bx⟩ (a.put dst r).tmps.toList := by
  haveI := I.good.toGOk
  refine ⟨I.fr, I.good, I.nmok, I.rb, ?_, I.mineA, I.mineR, I.ext⟩
  cases dst with
  | none => exact I.rt
  | some d =>
    simp only [putD, Act.put, Array.toList_setIfInBounds]
    exact I.rt.set d h
theorem put_defers (a : Act) (dst : Option Nat) (v : Value) : (a.put dst v).defers = a.defers := by cases dst <;> rfl
theorem getD_some {tm : List AV} {t : Nat} {v : AV} (h : tm.getD t .undef = v) (hv : v ≠ .undef) : tm[t]? = some v := by
  rw [List.getD_eq_getElem?_getD] at h
  cases e : tm[t]? with
  | none => rw [e] at h; exact absurd h.symm hv
  | some u => rw [e] at h; exact congrArg some h
theorem guard_ok (I : Inv M w0 own0 w own nm st a.tmps.toList) {g : Option (Nat × Bool)} (hg : cGrd ops o.guard = some g) {b : Bool} (hw : wantG st.tm g = some b) : Region.wanted o (yielded ops a.tmps) = b := by
  haveI := I.good.toGOk
  unfold Region.wanted
  cases e : o.guard with
  | none =>
    rw [e] at hg
    simp only [cGrd, Option.some.injEq] at hg
    subst hg
    simpa [wantG] using hw
  | some p =>
    obtain ⟨j, want⟩ := p
    rw [e] at hg
    simp only [cGrd] at hg
    split at hg
    · rename_i t ht
      cases hg
      simp only [wantG] at hw
      have hy : ∀ v : AV, st.tm.getD t .undef = v → v ≠ .undef → ∃ r, a.tmps[t]? = some r ∧ RA w own nm v r := by
        intro v h1 h2
        obtain ⟨r, h3, h4⟩ := I.rt.get (getD_some h1 h2)
        exact ⟨r, by simpa using h3, h4⟩
      split at hw
      · rename_i x hx
        obtain ⟨r, h1, h2⟩ := hy _ hx (by simp)
        cases h2.bool
        have : yielded ops a.tmps j = some x := by unfold yielded; rw [ht]; simp [h1]
        simp only [this]
        cases x <;> cases want <;> simp_all
      · rename_i hx
        obtain ⟨r, h1, h2⟩ := hy _ hx (by simp)
        obtain ⟨us, rfl, _⟩ := h2.tupv
        have : yielded ops a.tmps j = none := by unfold yielded; rw [ht]; simp [h1]
        simp only [this]
        simpa using hw
      · cases hw
    · cases hg
theorem RA.skipped : RA w own nm (.tup []) undef := by
  have := RA.tup (w := w) (own := own) (nm := nm) [] [] All2.nil
  exact this
theorem evV_val {call : Oracle} {x : XOper} {v : AV} (h : evV call x st = some v) : (wantG st.tm x.grd = some false ∧ v = .tup []) ∨ (wantG st.tm x.grd = some true ∧ (if x.cls = .p then evP call x.op st.tm else evR x.op st.tm st.bx) = some v) := by
  unfold evV at h
  split at h
  · cases h
  · rename_i hw; cases h; exact .inl ⟨hw, rfl⟩
  · rename_i hw
    exact .inr ⟨hw, h⟩
theorem op_step {call : Oracle} (hok : OkOr P call) {h : Hint} {x : XOper} (hc : cmpOper P ops o h = some x) (hs : Sat M w0 own0 st a w) (he : evOper call x st = some st') {K : Act → World → Prop} (hk : ∀ a' w', Sat M w0 own0 st' a' w' → K a' w') :
    if Region.wanted o (yielded ops a.tmps) then o.wp P a w K Q ∨ (o.asks P a w ∧ LetsOut Q) else K (a.put o.dst undef) w := by
  obtain ⟨hd, own, nm, I⟩ := hs
  simp only [cmpOper] at hc
  split at hc
  · rename_i y g hy hg
    cases hc
    have skip : ∀ st1 : St, st1 = st → Sat M w0 own0 ⟨putD st1.tm o.dst (.tup []), st1.bx⟩ (a.put o.dst undef) w := by
      intro st1 e
      subst e
      exact ⟨by rw [put_defers]; exact hd, own, nm, I.put RA.skipped o.dst⟩
    have fin : ∀ {s : St} {v : AV}, Goes P o a w (Left M w0 own0 s a.tmps.toList v) → st' = ⟨putD s.tm o.dst v, s.bx⟩ → o.wp P a w K Q := by
      intro s v hgo e
      refine hgo K Q fun r w' hl => hk _ _ ?_
      obtain ⟨own', nm', I', hr⟩ := hl
      subst e
      exact ⟨by rw [put_defers]; exact hd, own', nm', I'.put hr o.dst⟩
    have hpr : (h.cls.getD (clsOf y)) ≠ .w → ∀ v, evV call ⟨o.dst, withHint h y, g, h.cls.getD (clsOf y)⟩ st = some v → st' = ⟨putD st.tm o.dst v, st.bx⟩ →
        if Region.wanted o (yielded ops a.tmps) then o.wp P a w K Q ∨ (o.asks P a w ∧ LetsOut Q) else K (a.put o.dst undef) w := by
      intro hcl v hv e
      rcases evV_val hv with ⟨h1, rfl⟩ | ⟨h1, h2⟩
      · rw [guard_ok I hg h1]
        simp only [Bool.false_eq_true, if_false]
        subst e
        exact hk _ _ (skip st rfl)
      · rw [guard_ok I hg h1]
        simp only [if_true]
        refine .inl ?_
        simp only at h2
        split at h2
        · exact fin (evP_goes I hok hy h2) e
        · exact fin (evR_goes I hy h2) e
    cases hcl : h.cls.getD (clsOf y) with
    | w =>
      simp only [evOper, hcl] at he
      split at he
      · rename_i v s hv
        cases he
        simp only [evS] at hv
        split at hv
        · cases hv
        · rename_i hw
          cases hv
          rw [guard_ok I hg hw]
          simp only [Bool.false_eq_true, if_false]
          exact hk _ _ (skip st rfl)
        · rename_i hw
          rw [guard_ok I hg hw]
          simp only [if_true]
          exact .inl (fin (evW_goes I hok hy hv) rfl)
      · cases he
    | p =>
      simp only [evOper, hcl] at he
      split at he
      · rename_i v hv
        cases he
        exact hpr (by rw [hcl]; simp) v (by rw [hcl]; exact hv) rfl
      · cases he
    | r =>
      simp only [evOper, hcl] at he
      split at he
      · rename_i v hv
        cases he
        exact hpr (by rw [hcl]; simp) v (by rw [hcl]; exact hv) rfl
      · cases he
  · cases hc
theorem ops_ok {call : Oracle} (hok : OkOr P call) : ∀ {l : List Oper} {hs : List Hint} {xs : List XOper} {st st' : St} {a : Act} {w : World}, cmpOpers P ops l hs = some xs → Sat M w0 own0 st a w → evOps call xs st = some st' →
    (∀ a' w', Sat M w0 own0 st' a' w' → Q .normal a' w') → wpList P ops Q l a w
  | [], hs, xs, st, st', a, w, hc, hS, he, hq => by
    simp only [cmpOpers, Option.some.injEq] at hc
    subst hc
    simp only [evOps, Option.some.injEq] at he
    subst he
    exact hq _ _ hS
  | o :: l, hs, xs, st, st', a, w, hc, hS, he, hq => by
    simp only [cmpOpers] at hc
    split at hc
    · rename_i x xs' h1 h2
      cases hc
      simp only [evOps] at he
      split at he
      · rename_i st1 h3
        simp only [wpList]
        exact op_step hok h1 hS h3 fun a' w' hS' => ops_ok hok h2 hS' he hq
      · cases he
    · cases hc
end
end Go.Sx
