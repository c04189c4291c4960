/- Calls of functions that are handed nothing that they may change; all operations together. -/
import Derived.Test.YtggopflifieoiaaDoorSxApp2
namespace Go.Sx
open Go
def Enters (P : Program) (f : Nat) : Prop := ∃ fn, P.funcs[f]? = some fn ∧ fn.body.isNone = false ∧ (fn.name == "runtime.NumGoroutine") = false
def nm0 : Nm := ⟨[], fun _ => none⟩
def Back (w : World) (own : Own) (nm : Nm) (r : AV) (bx' : List Box) (v : Value) (w' : World) : Prop :=
  ∃ own' nm', Fr (Mod nm) w own w' own' ∧ Good w' own' ∧ NmOk own' nm' ∧ RB w' own' nm' bx' ∧ RA w' own' nm' r v ∧ (∀ (k g : Nat), nm.adr[k]? = some g → nm'.adr[k]? = some g) ∧
    (∀ g ∈ nm'.adr, g ∈ nm.adr ∨ w.heap.size ≤ g) ∧ ∀ i g, nm'.sp i = some g → (∃ j, nm.sp j = some g) ∨ w.heap.size ≤ g
def CallOk (P : Program) (f : Nat) (args : List AV) (bx : List Box) (r : AV) (bx' : List Box) : Prop :=
  Enters P f ∧ ∀ (w : World) (own : Own) (nm : Nm) (vals : List Value), Good w own → NmOk own nm → RB w own nm bx → All2 (RA w own nm) args vals →
    Calls P f vals.toArray w fun e w' => ∃ v, e = .returned v ∧ Back w own nm r bx' v w'
def OkOr (P : Program) (call : Oracle) : Prop := ∀ f args bx r bx', call f args bx = some (r, bx') → CallOk P f args bx r bx'
section
variable {P : Program} {o : Oper} {a : Act} {M : Nm} {w0 w w' : World} {own0 own own' : Own} {nm nm' : Nm} {st : St} {tmps : List Value}
theorem nm0_ok (own : Own) : NmOk own nm0 := ⟨(fun i j g h => by cases h), (fun i g h => by cases h)⟩
theorem rb0 (w : World) (own : Own) : RB w own nm0 [] := ⟨rfl, by simp [nm0], fun g h => by simp [nm0] at h, fun k g b h => by simp at h⟩
theorem RC.bare {x : CV} {v : Value} (h : RC w own nm x v) (hk : x.keys = []) (nm' : Nm) : RC w own nm' x.shutAll v := by
  cases x with
  | undef => exact .undef v
  | pv p => exact .pv h.pvv
  | own i sz es => exact .pv h.shut
  | ms k off sz n => simp [CV.keys] at hk
  | ptr k off => simp [CV.keys] at hk
  | cptr l off => obtain ⟨g, q, us, rfl, h'⟩ := h.cptrv; exact .cptr l off g q us h'
  | nilp => cases h; exact .nilp
  | fn f caps =>
    simp only [CV.keys] at hk
    subst hk
    obtain ⟨us, rfl, h1, h2⟩ := h.fnv
    exact .fn f [] us h1 (fun i k u h => by simp at h)
  | nilf => cases h; exact .nilf
  | mp k => simp [CV.keys] at hk
  | nilm => cases h; exact .nilm
theorem RC.bareAdr {x : CV} {v : Value} (h : RC w own nm x v) (hk : nm.adr = []) (nm' : Nm) : RC w own nm' x.shutAll v := by
  cases x with
  | ms k off sz n => obtain ⟨g, cap, _, h1, _⟩ := h.msv; rw [hk] at h1; simp at h1
  | ptr k off => obtain ⟨g, _, h1⟩ := h.ptrv; rw [hk] at h1; simp at h1
  | mp k => obtain ⟨g, _, h1⟩ := h.mpv; rw [hk] at h1; simp at h1
  | fn f caps =>
    obtain ⟨us, rfl, h1, h2⟩ := h.fnv
    cases caps with
    | nil => exact .fn f [] us h1 (fun i k u h => by simp at h)
    | cons k caps =>
      cases us with
      | nil => simp at h1
      | cons u us => obtain ⟨g, h3, _⟩ := h2 0 k u rfl rfl; rw [hk] at h3; simp at h3
  | undef => exact h.bare rfl nm'
  | pv p => exact h.bare rfl nm'
  | own i sz es => exact h.bare rfl nm'
  | cptr l off => exact h.bare rfl nm'
  | nilp => exact h.bare rfl nm'
  | nilf => exact h.bare rfl nm'
  | nilm => exact h.bare rfl nm'
theorem RA0.bare {x : AV} {v : Value} (h : RA0 w own nm x v) (hk : x.keys = []) (nm' : Nm) : RA w own nm' (x.map CV.shutAll) v := by
  cases h with
  | c h => exact .of (.c (h.bare (by simpa [AV.keys, AV.all] using hk) nm'))
  | agg cs us h =>
    refine .of (.agg _ us (h.map fun a b ha hr => hr.bare ?_ nm'))
    simp only [AV.keys, AV.all, List.flatMap_eq_nil_iff] at hk
    exact hk a ha
theorem RA.bareAdr {x : AV} {v : Value} (h : RA w own nm x v) (hk : nm.adr = []) (nm' : Nm) : RA w own nm' (x.map CV.shutAll) v := by
  have h0 : ∀ {x : AV} {v : Value}, RA0 w own nm x v → RA0 w own nm' (x.map0 CV.shutAll) v := by
    intro x v h
    cases h with
    | c h => exact .c (h.bareAdr hk nm')
    | agg cs us h => exact .agg _ us (h.map fun a b _ hr => hr.bareAdr hk nm')
  cases h with
  | of h => cases h with
    | c h => exact .of (.c (h.bareAdr hk nm'))
    | agg cs us h => exact .of (.agg _ us (h.map fun a b _ hr => hr.bareAdr hk nm'))
  | tup vs us h => exact .tup _ us (h.map fun a b _ hr => h0 hr)
theorem Inv.quiet (I : Inv M w0 own0 w own nm st tmps) (hf : Fr (fun _ => False) w own w' own') (hg : Good w' own') : Inv M w0 own0 w' own' nm st tmps ∧ NmLe w own nm w' own' nm := by
  haveI := I.good.toGOk
  have hle : NmLe w own nm w' own' nm := ⟨hf.keeps, fun _ _ h => h, fun i g hi => by
      obtain ⟨h1, h2⟩ := hf.old g (I.nmok.row_lt I.good hi) (fun h => h)
      exact ⟨hi, h1, h2⟩, fun g hg' cs T _ hb => ⟨cs, by rw [(hf.old g (I.rb.lt g hg') (fun h => h)).1]; exact hb, rfl⟩⟩
  refine ⟨⟨⟨hf.os.trans I.fr.os, hf.tape.trans I.fr.tape, hf.output.trans I.fr.output, Nat.le_trans I.fr.size hf.size, I.fr.keeps.trans hf.keeps, fun g hlt hm => ?_, I.fr.sizes.trans hf.sizes⟩, hg, ⟨I.nmok.inj, fun i g hi => ?_⟩, ⟨I.rb.len, I.rb.nodup, fun g hg' => Nat.lt_of_lt_of_le (I.rb.lt g hg') hf.size, fun k g b hb hk => ?_⟩,
    I.rt.imp fun _ _ => RA.le hle, I.mineA, I.mineR, I.ext⟩, hle⟩
  · obtain ⟨h1, h2⟩ := I.fr.old g hlt hm
    obtain ⟨h3, h4⟩ := hf.old g (Nat.lt_of_lt_of_le hlt I.fr.size) (fun h => h)
    exact ⟨h3.trans h1, h4.trans h2⟩
  · obtain ⟨h1, h2⟩ := I.nmok.row i g hi
    obtain ⟨_, h4⟩ := hf.old g (I.nmok.row_lt I.good hi) (fun h => h)
    exact ⟨h1, by rw [h4]; exact h2⟩
  · obtain ⟨h1, h2⟩ := hf.old g (I.rb.lt g (List.mem_of_getElem? hk)) (fun h => h)
    exact (I.rb.box k g b hb hk).le hle h1 h2
theorem run_callFunc {f : Nat} (h : Enters P f) (args : Array Value) : (callFunc f args).run P w = .ok (.enter f args) w := by
  obtain ⟨fn, h1, h2, h3⟩ := h
  have h3' : ¬ (fn.name == "runtime.NumGoroutine") = true := by rw [h3]; simp
  have h2' : ¬ fn.body.isNone = true := by rw [h2]; simp
  have hp : (program).run P w = .ok P w := rfl
  simp only [callFunc, Sem.run_bind, hp, Result.andThen_ok, h1]
  rw [if_neg h3', if_neg h2']
  rfl
theorem Goes.call {R : Value → World → Prop} {c : Call} {f : Operand} {g : Nat} {caps : List Value} (ho : o.op = .call c) (hc : c.callee = .value f) (hf : a.eval f = .func (.func g) #[] caps.toArray) (he : Enters P g)
    (hcall : Calls P g ((c.args.toList.map a.eval) ++ caps).toArray w fun e w' => ∃ v, e = .returned v ∧ R v w') : Goes P o a w R := by
  intro next Q hn
  have hrun : (execOp a.eval o).run P w = .ok (.enter g ((c.args.toList.map a.eval) ++ caps).toArray) w := by
    simp only [execOp, ho, resolve, hc, hf, Deferred.ofValue, Sem.run_bind, Sem.run_pure, Result.andThen_ok, invoke]
    rw [run_callFunc he]
    congr 2
    apply Array.ext'
    simp
  unfold Oper.wp
  rw [hrun, Oper.upon_enter]
  refine hcall.mono fun e w' h => ?_
  obtain ⟨v, rfl, hr⟩ := h
  exact hn v w' hr
theorem callP_goes (I : Inv M w0 own0 w own nm st a.tmps.toList) {call : Oracle} (hok : OkOr P call) {c : Call} {f : Operand} {F : XArg} {As : List XArg} {fz : Bool} {ap : List XArg} (ho : o.op = .call c) (hc : c.callee = .value f) (hf : cArg f = some F) (hargs : cList cArg c.args.toList = some As)
    {v : AV} (hv : evP call (.call fz ap F As) st.tm = some v) : Goes P o a w (Left M w0 own0 st a.tmps.toList v) := by
  haveI := I.good.toGOk
  have h1 := arg_ok I.rt hf
  have h2 := args_ok I.rt hargs
  simp only [evP] at hv
  split at hv
  · rename_i g e
    rw [e] at h1
    obtain ⟨us, e1, hl, _⟩ := h1.cv.fnv
    have hus : us = [] := List.eq_nil_of_length_eq_zero (by simpa using hl)
    subst hus
    split at hv
    · rename_i hall
      split at hv
      · rename_i r hcall
        cases hv
        obtain ⟨hent, hC⟩ := hok _ _ _ _ _ hcall
        have hargs' : All2 (RA w own nm0) ((As.map (getA st.tm)).map (AV.map CV.shutAll)) (c.args.toList.map a.eval) := by
          refine h2.map fun x y hx hr => ?_
          have := List.all_eq_true.1 hall x hx
          simp only [Bool.and_eq_true] at this
          exact (RA.noTup hr this.1).bare (by simpa using this.2) nm0
        refine Goes.call (caps := []) ho hc e1 hent ?_
        rw [List.append_nil]
        refine (hC w own nm0 _ I.good (nm0_ok own) (rb0 w own) hargs').mono fun e w' h => ?_
        obtain ⟨v, rfl, own', nm', hfr, hg, _, hrb, hra, _⟩ := h
        have hfr' : Fr (fun _ => False) w own w' own' := ⟨hfr.os, hfr.tape, hfr.output, hfr.size, hfr.keeps, fun g hlt _ => hfr.old g hlt (fun hm => by rcases hm with hm | ⟨i, hm⟩ <;> simp [nm0] at hm), hfr.sizes⟩
        obtain ⟨I', _⟩ := I.quiet hfr' hg
        have hadr : nm'.adr = [] := List.eq_nil_of_length_eq_zero (by rw [hrb.len]; rfl)
        exact ⟨v, rfl, own', nm, I', hra.bareAdr hadr nm⟩
      · cases hv
    · cases hv
  · cases hv
end
end Go.Sx
