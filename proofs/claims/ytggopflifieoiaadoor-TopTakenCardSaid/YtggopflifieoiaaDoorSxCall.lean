/- Calls of functions that are handed nothing that they may change; all operations together. -/
import Derived.Test.YtggopflifieoiaaDoorSxApp2
namespace Go.Sx
open Go
def Enters (P : Program) (f : Nat) : Prop := ∃ fn, P.funcs[f]? = some fn ∧ fn.body.isNone = false ∧ (fn.name == "runtime.NumGoroutine") = false
def nm0 : Nm := ⟨[], fun _ => none⟩
def Back (w : World) (own : Own) (nm : Nm) (r : AV) (bx' : List Box) (v : Value) (w' : World) : Prop :=
  ∃ own' nm', Fr (Mod nm) w own w' own' ∧ Good w' own' ∧ NmOk own' nm' ∧ RB w' own' nm' bx' ∧ RA w' own' nm' r v ∧ (∀ (k g : Nat), nm.adr[k]? = some g → nm'.adr[k]? = some g) ∧
    (∀ g ∈ nm'.adr, g ∈ nm.adr ∨ w.heap.size ≤ g) ∧ ∀ i g, nm'.sp i = some g → (∃ j, nm.sp j = some g) ∨ w.heap.size ≤ g
def CallOk (P : Program) (f : Nat) (args : List AV) (bx : List Box) (r : AV) (bx' : List Box) : Prop :=
  Enters P f ∧ ∀ (w : World) (own : Own) (nm : Nm) (vals : List Value), Good w own → NmOk own nm → RB w own nm bx → All2 (RA w own nm) args vals →
    Calls P f vals.toArray w fun e w' => ∃ v, e = .returned v ∧ Back w own nm r bx' v w'
def OkOr (P : Program) (call : Oracle) : Prop := ∀ f args bx r bx', call f args bx = some (r, bx') → CallOk P f args bx r bx'
section
variable {P : Program} {o : Oper} {a : Act} {M : Nm} {w0 w w' : World} {own0 own own' : Own} {nm nm' : Nm} {st : St} {tmps : List Value}
theorem nm0_ok (own : Own) : NmOk own nm0 := ⟨(fun i j g h => by cases h), (fun i g h => by cases h)⟩
theorem rb0 (w : World) (own : Own) : RB w own nm0 [] := ⟨rfl, by simp [nm0], fun g h => by simp [nm0] at h, fun k g b h => by simp at h⟩
theorem RC.bare {x : CV} {v : Value} (h : RC w own nm x v) (hk : x.keys = []) (nm' : Nm) : RC w own nm' x.shutAll v := by
  cases x with
  | undef => exact .undef v
  | pv p => exact .pv h.pvv
  | own i sz es => exact .pv h.shut
  | ms k off sz n => simp [CV.keys] at hk
  | ptr k off => simp [CV.keys] at hk
  | cptr l off => obtain ⟨g, q, us, rfl, h'⟩ := h.cptrv; exact .cptr l off g q us h'
  | nilp => cases h; exact .nilp
  | fn f caps =>
    simp only [CV.keys] at hk
    subst hk
    obtain ⟨us, rfl, h1, h2⟩ := h.fnv
    exact .fn f [] us h1 (fun i k u h => by simp at h)
  | nilf => cases h; exact .nilf
  | mp k => simp [CV.keys] at hk
  | nilm => cases h; exact .nilm
theorem RC.bareAdr {x : CV} {v : Value} (h : RC w own nm x v) (hk : nm.adr = []) (nm' : Nm) : RC w own nm' x.shutAll v := by
  cases x with
  | ms k off sz n => obtain ⟨g, cap, _, h1, _⟩ := h.msv; rw [hk] at h1; simp at h1
  | ptr k off => obtain ⟨g, _, h1⟩ := h.ptrv; rw [hk] at h1; simp at h1
  | mp k => obtain ⟨g, _, h1⟩ := h.mpv; rw [hk] at h1; simp at h1
  | fn f caps =>
    obtain ⟨us, rfl, h1, h2⟩ := h.fnv
    cases caps with
    | nil => exact .fn f [] us h1 (fun i k u h => by simp at h)
    | cons k caps =>
      cases us with
      | nil => simp at h1
      | cons u us => obtain ⟨g, h3, _⟩ := h2 0 k u rfl rfl; rw [hk] at h3; simp at h3
  | undef => exact h.bare rfl nm'
  | pv p => exact h.bare rfl nm'
  | own i sz es => exact h.bare rfl nm'
  | cptr l off => exact h.bare rfl nm'
  | nilp => exact h.bare rfl nm'
  | nilf => exact h.bare rfl nm'
  | nilm => exact h.bare rfl nm'
theorem RA0.bare {x : AV} {v : Value} (h : RA0 w own nm x v) (hk : x.keys = []) (nm' : Nm) : RA w own nm' (x.map CV.shutAll) v := by
  cases h with
  | c h => exact .of (.c (h.bare (by simpa [AV.keys, AV.all] using hk) nm'))
  | agg cs us h =>
    refine .of (.agg _ us (h.map fun a b ha hr => hr.bare ?_ nm'))
    simp only [AV.keys, AV.all, List.flatMap_eq_nil_iff] at hk
    exact hk a ha
theorem RA.bareAdr {x : AV} {v : Value} (h : RA w own nm x v) (hk : nm.adr = []) (nm' : Nm) : RA w own nm' (x.map CV.shutAll) v := by
  have h0 : ∀ {x : AV} {v : Value}, RA0 w own nm x v → RA0 w own nm' (x.map0 CV.shutAll) v := by
    intro x v h
    cases h with
    | c h => exact .c (h.bareAdr hk nm')
    | agg cs us h => exact .agg _ us (h.map fun a b _ hr => hr.bareAdr hk nm')
  cases h with
  | of h => cases h with
    | c h => exact .of (.c (h.bareAdr hk nm'))
    | agg cs us h => exact .of (.agg _ us (h.map fun a b _ hr => hr.bareAdr hk nm'))
  | tup vs us h => exact .tup _ us (h.map fun a b _ hr => h0 hr)
theorem Inv.quiet (I : Inv M w0 own0 w own nm st tmps) (hf : Fr (fun _ => False) w own w' own') (hg : Good w' own') : Inv M w0 own0 w' own' nm st tmps ∧ NmLe w own nm w' own' nm := by
  haveI := I.good.toGOk
  have hle : NmLe w own nm w' own' nm := ⟨hf.keeps, fun _ _ h => h, fun i g hi => by
      obtain ⟨h1, h2⟩ := hf.old g (I.nmok.row_lt I.good hi) (fun h => h)
      exact ⟨hi, h1, h2⟩, fun g hg' cs T _ hb => ⟨cs, by rw [(hf.old g (I.rb.lt g hg') (fun h => h)).1]; exact hb, rfl⟩⟩
  refine ⟨⟨⟨hf.os.trans I.fr.os, hf.tape.trans I.fr.tape, hf.output.trans I.fr.output, Nat.le_trans I.fr.size hf.size, I.fr.keeps.trans hf.keeps, fun g hlt hm => ?_, I.fr.sizes.trans hf.sizes⟩, hg, ⟨I.nmok.inj, fun i g hi => ?_⟩, ⟨I.rb.len, I.rb.nodup, fun g hg' => Nat.lt_of_lt_of_le (I.rb.lt g hg') hf.size, fun k g b hb hk => ?_⟩,
    I.rt.imp fun _ _ => RA.le hle, I.mineA, I.mineR, I.ext⟩, hle⟩
  · obtain ⟨h1, h2⟩ := I.fr.old g hlt hm
    obtain ⟨h3, h4⟩ := hf.old g (Nat.lt_of_lt_of_le hlt I.fr.size) (fun h => h)
    exact ⟨h3.trans h1, h4.trans h2⟩
  · obtain ⟨h1, h2⟩ := I.nmok.row i g hi
    obtain ⟨_, h4⟩ := hf.old g (I.nmok.row_lt I.good hi) (fun h => h)
    exact ⟨h1, by rw [h4]; exact h2⟩
  · obtain ⟨h1, h2⟩ := hf.old g (I.rb.lt g (List.mem_of_getElem? hk)) (fun h => h)
    exact (I.rb.box k g b hb hk).le hle h1 h2
theorem run_callFunc {f : Nat} (h : Enters P f) (args : Array Value) : (callFunc f args).run P w = .ok (.enter f args) w := by
  obtain ⟨fn, h1, h2, h3⟩ := h
  have h3' : ¬ (fn.name == "runtime.NumGoroutine") = true := by rw [h3]; simp
  have h2' : ¬ fn.body.isNone = true := by rw [h2]; simp
  have hp : (program).run P w = .ok P w := rfl
  simp only [callFunc, Sem.run_bind, hp, Result.andThen_ok, h1]
  rw [if_neg h3', if_neg h2']
  rfl
theorem Goes.call {R : Value → World → Prop} {c : Call} {f : Operand} {g : Nat} {caps : List Value} (ho : o.op = .call c) (hc : c.callee = .value f) (hf : a.eval f = .func (.func g) #[] caps.toArray) (he : Enters P g)
    (hcall : Calls P g ((c.args.toList.map a.eval) ++ caps).toArray w fun e w' => ∃ v, e = .returned v ∧ R v w') : Goes P o a w R := by
  intro next Q hn
  have hrun : (execOp a.eval o).run P w = .ok (.enter g ((c.args.toList.map a.eval) ++ caps).toArray) w := by
    simp only [execOp, ho, resolve, hc, hf, Deferred.ofValue, Sem.run_bind, Sem.run_pure, Result.andThen_ok, invoke]
    rw [run_callFunc he]
    congr 2
    apply Array.ext'
    simp
  unfold Oper.wp
  rw [hrun, Oper.upon_enter]
  refine hcall.mono fun e w' h => ?_
  obtain ⟨v, rfl, hr⟩ := h
  exact hn v w' hr
theorem callP_goes (I : Inv M w0 own0 w own nm st a.tmps.toList) {call : Oracle} (hok : OkOr P call) {c : Call} {f : Operand} {F : XArg} {As : List XArg} {fz : Bool} {ap : List XArg} (ho : o.op = .call c) (hc : c.callee = .value f) (hf : cArg f = some F) (hargs : cList cArg c.args.toList = some As)
    {v : AV} (hv : evP call (.call fz ap F As) st.tm = some v) : Goes P o a w (Left M w0 own0 st a.tmps.toList v) := by
  haveI := I.good.toGOk
  have h1 := arg_ok I.rt hf
  have h2 := args_ok I.rt hargs
  simp only [evP] at hv
  split at hv
  · rename_i g e
    rw [e] at h1
    obtain ⟨us, e1, hl, _⟩ := h1.cv.fnv
    have hus : us = [] := List.eq_nil_of_length_eq_zero (by simpa using hl)
    subst hus
    split at hv
    · rename_i hall
      split at hv
      · rename_i r hcall
        cases hv
        obtain ⟨hent, hC⟩ := hok _ _ _ _ _ hcall
        have hargs' : All2 (RA w own nm0) ((As.map (getA st.tm)).map (AV.map CV.shutAll)) (c.args.toList.map a.eval) := by
          refine h2.map fun x y hx hr => ?_
          have := List.all_eq_true.1 hall x hx
          simp only [Bool.and_eq_true] at this
          exact (RA.noTup hr this.1).bare (by simpa using this.2) nm0
        refine Goes.call (caps := []) ho hc e1 hent ?_
        rw [List.append_nil]
        refine (hC w own nm0 _ I.good (nm0_ok own) (rb0 w own) hargs').mono fun e w' h => ?_
        obtain ⟨v, rfl, own', nm', hfr, hg, _, hrb, hra, _⟩ := h
        have hfr' : Fr (fun _ => False) w own w' own' := ⟨hfr.os, hfr.tape, hfr.output, hfr.size, hfr.keeps, fun g hlt _ => hfr.old g hlt (fun hm => by rcases hm with hm | ⟨i, hm⟩ <;> simp [nm0] at hm), hfr.sizes⟩
        obtain ⟨I', _⟩ := I.quiet hfr' hg
        have hadr : nm'.adr = [] := List.eq_nil_of_length_eq_zero (by rw [hrb.len]; rfl)
        exact ⟨v, rfl, own', nm, I', hra.bareAdr hadr nm⟩
      · cases hv
    · cases hv
  · cases hv
end
end Go.Sx
/- All operations. -/
namespace Go.Sx
open Go
section
variable {P : Program} {o : Oper} {a : Act} {M : Nm} {w0 w w' : World} {own0 own own' : Own} {nm nm' : Nm} {st : St}
theorem evP_goes (I : Inv M w0 own0 w own nm st a.tmps.toList) {call : Oracle} (hok : OkOr P call) {x : XOp} {h : Hint} (hc : cmpOp P o.op = some x) {v : AV} (hv : evP call (withHint h x) st.tm = some v) : Goes P o a w (Left M w0 own0 st a.tmps.toList v) := by
  haveI := I.good.toGOk
  cases ho : o.op with
  | move y =>
    simp only [ho, cmpOp] at hc
    obtain ⟨X, hX, rfl⟩ := Option.map_eq_some_iff.1 hc
    simp only [withHint, evP, Option.some.injEq] at hv
    subst hv
    exact (mv_ok I.rt (.inl ho) hX).goes I
  | assign y =>
    simp only [ho, cmpOp] at hc
    obtain ⟨X, hX, rfl⟩ := Option.map_eq_some_iff.1 hc
    simp only [withHint, evP, Option.some.injEq] at hv
    subst hv
    exact (mv_ok I.rt (.inr ho) hX).goes I
  | pick c y z =>
    simp only [ho, cmpOp] at hc
    split at hc
    · rename_i C Y Z h1 h2 h3
      cases hc
      simp only [withHint, evP] at hv
      split at hv
      · rename_i b hb
        cases hv
        exact (pick_ok I.rt ho h1 h2 h3 hb).goes I
      · cases hv
    · cases hc
  | box t y =>
    simp only [ho, cmpOp] at hc
    split at hc
    · cases hc; simp [withHint, evP] at hv
    · cases hc
  | alloc t =>
    simp only [ho, cmpOp] at hc
    obtain ⟨X, hX, rfl⟩ := Option.map_eq_some_iff.1 hc
    simp [withHint, evP] at hv
  | build t parts =>
    simp only [ho, cmpOp] at hc
    split at hc
    · rename_i fs z hu hz
      split at hc
      · rename_i hall
        obtain ⟨Ps, hPs, rfl⟩ := Option.map_eq_some_iff.1 hc
        exact (build_ok I.rt ho hz (.inl ⟨fs, hu, hall, hPs⟩) hv).goes I
      · cases hc
    · rename_i n e z hu hz
      split at hc
      · rename_i sz hs
        obtain ⟨Ps, hPs, rfl⟩ := Option.map_eq_some_iff.1 hc
        exact (build_ok I.rt ho hz (.inr ⟨n, e, sz, hu, hs, hPs⟩) hv).goes I
      · cases hc
    · cases hc
  | buildSlice t len parts =>
    simp only [ho, cmpOp] at hc
    split at hc
    · rename_i e hu
      split at hc
      · rename_i sz z hs hz
        split at hc
        · cases hc
        · rename_i hcond
          obtain ⟨Ps, hPs, rfl⟩ := Option.map_eq_some_iff.1 hc
          simp only [not_or, Decidable.not_not] at hcond
          exact buildSl_goes I ho hu hs hz (by omega) hcond.2.1 (by omega) hPs hv
      · cases hc
    · cases hc
  | load t y =>
    simp only [ho, cmpOp] at hc
    have hroot : h.root = none := by
      cases hr : h.root with
      | none => rfl
      | some u =>
        exfalso
        split at hc
        · split at hc <;> (cases hc; simp [withHint, hr, evP] at hv)
        · cases hc
    split at hc
    · rename_i ag n X hag hn hX
      split at hc
      · rename_i hagt
        cases hc
        subst hagt
        simp only [withHint, hroot] at hv
        exact (loadP_ok I.rt ho hag hn hX (by simp) hv).goes I
      · rename_i hagf
        cases hc
        have hagf' : ag = false := by simpa using hagf
        subst hagf'
        simp only [withHint, hroot] at hv
        exact (loadP_ok I.rt ho hag hn hX (by simp) hv).goes I
    · cases hc
  | store t y z =>
    simp only [ho, cmpOp] at hc
    split at hc
    · cases hc
      simp only [withHint] at hv
      split at hv <;> simp [evP] at hv
    · cases hc
  | nilCheck y =>
    simp only [ho, cmpOp] at hc
    obtain ⟨X, hX, rfl⟩ := Option.map_eq_some_iff.1 hc
    simp only [withHint, evP] at hv
    split at hv
    · rename_i k q e; cases hv; rw [← e]; exact (nilc_ok I.rt ho hX (.inl ⟨k, q, e⟩)).goes I
    · rename_i l q e; cases hv; rw [← e]; exact (nilc_ok I.rt ho hX (.inr (.inl ⟨l, q, e⟩))).goes I
    · rename_i f cs e; cases hv; rw [← e]; exact (nilc_ok I.rt ho hX (.inr (.inr ⟨f, cs, e⟩))).goes I
    · cases hv
  | binOp op t y z t' =>
    simp only [ho, cmpOp] at hc
    have fin : ∀ {v : AV}, (∃ r, (do eqGuard op t y z (a.eval y) (a.eval z); binOp op t (a.eval y) (a.eval z) : Sem Value).run P w = .ok r w ∧ RA w own nm v r) → Goes P o a w (Left M w0 own0 st a.tmps.toList v) := by
      intro v ⟨r, h1, h2⟩
      refine Stays.goes I ⟨r, ?_, h2⟩
      simp only [execOp, ho]
      rw [Sem.run_bind, h1]
      rfl
    split at hc
    · rename_i X Y hX hY hag
      have hb : ∀ {v : AV}, evP call (.bin op X Y) st.tm = some v → Goes P o a w (Left M w0 own0 st a.tmps.toList v) := fun hv => fin (binV_ok (arg_ok I.rt hX) (arg_ok I.rt hY) (by simpa [evP] using hv))
      have hq : op = .eql ∨ op = .neq → (match P.underlying t with
          | some (.int _) | some .string => some (XOp.bin op X Y)
          | some .bool => some (.eqB (op == .neq) X Y)
          | some (.slice _) => some (.eqN 0 (op == .neq) X Y)
          | some (.pointer _) => some (.eqN 1 (op == .neq) X Y)
          | some (.func _ _ _) => some (.eqN 2 (op == .neq) X Y)
          | some (.map _ _) => some (.eqN 3 (op == .neq) X Y)
          | _ => none) = some x → Goes P o a w (Left M w0 own0 st a.tmps.toList v) := by
        intro hop hc
        split at hc
        · cases hc; exact hb hv
        · cases hc; exact hb hv
        · rename_i hu; cases hc; simp only [withHint, evP] at hv; exact fin (eqBV_ok hu hop (arg_ok I.rt hX) (arg_ok I.rt hY) hv)
        · rename_i e hu; cases hc; simp only [withHint, evP] at hv; exact fin (eqNV_ok (tag := 0) hu trivial hop (arg_ok I.rt hX) (arg_ok I.rt hY) hv)
        · rename_i e hu; cases hc; simp only [withHint, evP] at hv; exact fin (eqNV_ok (tag := 1) hu trivial hop (arg_ok I.rt hX) (arg_ok I.rt hY) hv)
        · rename_i e1 e2 e3 hu; cases hc; simp only [withHint, evP] at hv; exact fin (eqNV_ok (tag := 2) hu trivial hop (arg_ok I.rt hX) (arg_ok I.rt hY) hv)
        · rename_i e1 e2 hu; cases hc; simp only [withHint, evP] at hv; exact fin (eqNV_ok (tag := 3) hu trivial hop (arg_ok I.rt hX) (arg_ok I.rt hY) hv)
        · cases hc
      split at hc
      · exact hq (.inl rfl) hc
      · exact hq (.inr rfl) hc
      · cases hc; exact hb hv
    · rename_i X Y hX hY hag
      split at hc
      · rename_i ks hk hg
        split at hc
        · cases hc; exact (eqA_ok I.rt ho (.inl rfl) hX hY hag hk hg hv).goes I
        · cases hc; exact (eqA_ok I.rt ho (.inr rfl) hX hY hag hk hg hv).goes I
        · cases hc
      · cases hc
    · cases hc
  | unOp op t y =>
    simp only [ho, cmpOp] at hc
    obtain ⟨X, hX, rfl⟩ := Option.map_eq_some_iff.1 hc
    simp only [withHint, evP] at hv
    obtain ⟨r, h1, h2⟩ := unV_ok (P := P) (arg_ok I.rt hX) hv
    exact Stays.goes I ⟨r, by simp [execOp, ho, h1], h2⟩
  | convert s d y =>
    simp only [ho, cmpOp] at hc
    split at hc
    · rename_i k X hs hd hX
      cases hc; exact (convI_ok I.rt ho hs hd hX hv).goes I
    · rename_i X hs hd hX
      cases hc; exact (convS_ok I.rt ho hs hd hX hv).goes I
    · rename_i e X hs hd hX
      split at hc
      · rename_i he; cases hc
        simp only [withHint] at hv
        split at hv
        · simp [evP] at hv
        · exact (bytesS_ok I.rt ho hs he hd hX hv).goes I
      · cases hc
    · split at hc
      · cases hc; simp [withHint, evP] at hv
      · cases hc
    · cases hc
  | sliceToArrayPointer d y => simp [ho, cmpOp] at hc
  | makeInterface t y => simp only [ho, cmpOp, Option.some.injEq] at hc; subst hc; simp [withHint, evP] at hv
  | makeFunc fn first caps =>
    cases fn with
    | func f =>
      simp only [ho, cmpOp] at hc
      split at hc
      · rename_i h0
        obtain ⟨Xs, hXs, rfl⟩ := Option.map_eq_some_iff.1 hc
        exact (mkfn_ok I.rt ho h0 hXs hv).goes I
      · cases hc
    | _ => simp [ho, cmpOp] at hc
  | makeMap t r =>
    cases r with
    | none => simp only [ho, cmpOp, Option.some.injEq] at hc; subst hc; simp [withHint, evP] at hv
    | some r => simp [ho, cmpOp] at hc
  | range t y =>
    simp only [ho, cmpOp] at hc
    split at hc
    · obtain ⟨X, hX, rfl⟩ := Option.map_eq_some_iff.1 hc
      simp [withHint, evP] at hv
    · cases hc
  | next y s =>
    cases s with
    | true =>
      simp only [ho, cmpOp] at hc
      obtain ⟨X, hX, rfl⟩ := Option.map_eq_some_iff.1 hc
      simp [withHint, evP] at hv
    | false => simp [ho, cmpOp] at hc
  | makeChan t s => simp [ho, cmpOp] at hc
  | makeSlice t l c =>
    simp only [ho, cmpOp] at hc
    split at hc
    · split at hc
      · split at hc
        · cases hc
        · cases hc; simp [withHint, evP] at hv
      · cases hc
    · cases hc
  | slice t y lo hi mx =>
    simp only [ho, cmpOp] at hc
    split at hc
    · rename_i X L H hu hX hl hh hm
      cases hc
      have hmx : mx = none := by
        cases mx with
        | none => rfl
        | some m => simp only [cOpt] at hm; obtain ⟨_, _, h⟩ := Option.map_eq_some_iff.1 hm; cases h
      subst hmx
      exact (sliceS_ok I.rt ho hu hX hl hh hv).goes I
    · rename_i e X L H MX hu hX hl hh hm
      split at hc
      · cases hc
      · rename_i hcond
        obtain ⟨sz, hs, rfl⟩ := Option.map_eq_some_iff.1 hc
        simp only [withHint] at hv
        split at hv
        · simp [evP] at hv
        · exact (sliceV_ok I.rt ho hu hs hX hl hh hm (by simpa only [Bool.not_eq_true] using hcond) hv).goes I
    · rename_i n e X L H hu hX hl hh hm
      obtain ⟨sz, hs, rfl⟩ := Option.map_eq_some_iff.1 hc
      simp [withHint, evP] at hv
    · cases hc
  | fieldAddr s y f =>
    simp only [ho, cmpOp] at hc
    split at hc
    · rename_i fs X hu hX
      split at hc
      · rename_i fl hf
        split at hc
        · rename_i n hn
          split at hc
          · cases hc
          · rename_i h0
            cases hc
            exact (faddr_ok I.rt ho hu hX hf hn h0 hv).goes I
        · cases hc
      · cases hc
    · cases hc
  | field t y f =>
    simp only [ho, cmpOp] at hc
    split at hc
    · rename_i fs X hu hX
      split at hc
      · rename_i fl hf
        split at hc
        · rename_i n hag hn
          cases hc
          exact (fld_ok I.rt ho hu hX hf hn hag (by simp) hv).goes I
        · rename_i n hag hn
          cases hc
          exact (fld_ok I.rt ho hu hX hf hn hag (by simp) hv).goes I
        · cases hc
      · cases hc
    · cases hc
  | indexAddr t y i =>
    simp only [ho, cmpOp] at hc
    split at hc
    · rename_i e X J hu hX hJ
      obtain ⟨sz, hs, rfl⟩ := Option.map_eq_some_iff.1 hc
      exact (iaddrS_ok I.rt ho hu hX hJ hs hv).goes I
    · rename_i n e X J hu hX hJ
      obtain ⟨sz, hs, rfl⟩ := Option.map_eq_some_iff.1 hc
      exact (iaddrA_ok I.rt ho hu hX hJ hs hv).goes I
    · cases hc
  | index t y i =>
    simp only [ho, cmpOp] at hc
    split at hc
    · rename_i X J hu hX hJ
      cases hc
      exact (idxS_ok I.rt ho hu hX hJ hv).goes I
    · rename_i n e X J hu hX hJ
      split at hc
      · rename_i sz hag hs
        cases hc
        exact (idxA_ok I.rt ho hu hX hJ hs hag rfl (fun h => by cases h) hv).goes I
      · rename_i hag hs
        cases hc
        exact (idxA_ok I.rt ho hu hX hJ hs hag rfl (fun _ => rfl) hv).goes I
      · cases hc
    · cases hc
  | lookup t m k ok =>
    simp only [ho, cmpOp] at hc
    split at hc
    · split at hc
      · cases hc; simp [withHint, evP] at hv
      · cases hc
    · cases hc
  | mapUpdate t m k y =>
    simp only [ho, cmpOp] at hc
    split at hc
    · split at hc
      · cases hc; simp [withHint, evP] at hv
      · cases hc
    · cases hc
  | mapEntry t m k =>
    simp only [ho, cmpOp] at hc
    split at hc
    · split at hc
      · cases hc; simp [withHint, evP] at hv
      · cases hc
    · cases hc
  | entryStore t m k y =>
    simp only [ho, cmpOp] at hc
    split at hc
    · cases hc; simp [withHint, evP] at hv
    · cases hc
  | extract y i =>
    simp only [ho, cmpOp] at hc
    obtain ⟨X, hX, rfl⟩ := Option.map_eq_some_iff.1 hc
    exact (extr_ok I.rt ho hX hv).goes I
  | call c =>
    simp only [ho, cmpOp, cmpCall] at hc
    split at hc
    · rename_i f hcal
      split at hc
      · rename_i F As hF hAs
        cases hc
        simp only [withHint] at hv
        split at hv
        · simp [evP] at hv
        · exact callP_goes I hok ho hcal hF hAs hv
      · cases hc
    · cases hc
    · rename_i b hcal
      split at hc
      · rename_i y t e1 e2
        have hA : c.args = #[y] := by rw [← Array.toArray_toList (xs := c.args), e1]
        have hT : c.argTypes = #[t] := by rw [← Array.toArray_toList (xs := c.argTypes), e2]
        split at hc
        · rename_i X hu hX; cases hc; exact (lenS_ok I.rt ho hcal hA hT hu hX hv).goes I
        · rename_i e X hu hX; cases hc; exact (len_ok I.rt ho hcal hA hT hu hX hv).goes I
        · rename_i n e X hu hX
          cases hc
          simp only [withHint, evP, getA, Option.some.injEq] at hv
          subst hv
          exact Stays.goes I ⟨.int .i64 n, run_len ho hcal hA hT (by simp [Builtin.len_, run_und hu, goInt]), .ofI _ _⟩
        · cases hc
      · obtain ⟨Xs, hXs, rfl⟩ := Option.map_eq_some_iff.1 hc
        exact (minI_ok I.rt ho hcal hXs hv).goes I
      · obtain ⟨Xs, hXs, rfl⟩ := Option.map_eq_some_iff.1 hc
        exact (maxI_ok I.rt ho hcal hXs hv).goes I
      · split at hc
        · split at hc
          · split at hc
            · cases hc
            · cases hc; simp [withHint, evP] at hv
          · cases hc
        · cases hc
      · split at hc
        · split at hc
          · split at hc
            · cases hc
            · split at hc
              · cases hc; simp only [withHint] at hv; split at hv <;> simp [evP] at hv
              · split at hc
                · cases hc; simp only [withHint] at hv; split at hv <;> simp [evP] at hv
                · cases hc
              · cases hc
          · cases hc
        · cases hc
      · cases hc
  | panic y => simp only [ho, cmpOp, Option.some.injEq] at hc; subst hc; simp [withHint, evP] at hv
  | _ => simp [ho, cmpOp] at hc
end
end Go.Sx
