/- Operations that read boxes, and that change them. -/
import Derived.Test.YtggopflifieoiaaDoorSxInp
namespace Go.Sx
open Go
section
variable {P : Program} {o : Oper} {a : Act} {M : Nm} {w0 w w' : World} {own0 own own' : Own} {nm nm' : Nm} {st : St}
theorem optNone {x : Option Operand} {X : Option XArg} (h : cOpt x = some X) (hX : X = none) : x = none := by
  cases x with
  | none => rfl
  | some m => subst hX; simp only [cOpt] at h; obtain ⟨_, _, h⟩ := Option.map_eq_some_iff.1 h; cases h
theorem cmpOp_bytesM {op : Op} {a : XArg} (h : cmpOp P op = some (.bytesM a)) : False := by
  cases op <;> (try simp only [cmpOp, cmpCall] at h) <;> (repeat' first | (simp at h; done) | (obtain ⟨_, _, hc⟩ := Option.map_eq_some_iff.1 h; simp at hc; done) | (split at h) | (unfold cmpOp at h))
theorem cmpOp_loadR {op : Op} {ag : Bool} {n : Nat} {a u : XArg} (h : cmpOp P op = some (.loadR ag n a u)) : False := by
  cases op <;> (try simp only [cmpOp, cmpCall] at h) <;> (repeat' first | (simp at h; done) | (obtain ⟨_, _, hc⟩ := Option.map_eq_some_iff.1 h; simp at hc; done) | (split at h) | (unfold cmpOp at h))
theorem cmpOp_bytesS {op : Op} {X : XArg} (h : cmpOp P op = some (.bytesS X)) (hn : ∀ s d y, op ≠ .convert s d y) : False := by
  cases op <;> first | exact hn _ _ _ rfl | ((try simp only [cmpOp, cmpCall] at h) <;> (repeat' first | (simp at h; done) | (exact absurd (by assumption) (hn _ _ _)) | (obtain ⟨_, _, hc⟩ := Option.map_eq_some_iff.1 h; simp at hc; done) | (split at h) | (unfold cmpOp at h)))
theorem cmpOp_sliceM {op : Op} {sz : Nat} {X : XArg} {L H MX : Option XArg} (h : cmpOp P op = some (.sliceM sz X L H MX)) : False := by
  cases op <;> (try simp only [cmpOp, cmpCall] at h) <;> (repeat' first | (simp at h; done) | (obtain ⟨_, _, hc⟩ := Option.map_eq_some_iff.1 h; simp at hc; done) | (split at h) | (unfold cmpOp at h))
theorem cmpOp_sliceV {op : Op} {sz : Nat} {X : XArg} {L H MX : Option XArg} (h : cmpOp P op = some (.sliceV sz X L H MX)) (hn : ∀ s d y z m, op ≠ .slice s d y z m) : False := by
  cases op <;> first | exact hn _ _ _ _ _ rfl | ((try simp only [cmpOp, cmpCall] at h) <;> (repeat' first | (simp at h; done) | (exact absurd (by assumption) (hn _ _ _ _ _)) | (obtain ⟨_, _, hc⟩ := Option.map_eq_some_iff.1 h; simp at hc; done) | (split at h) | (unfold cmpOp at h)))
theorem evR_goes (I : Inv M w0 own0 w own nm st a.tmps.toList) {x : XOp} {h : Hint} (hc : cmpOp P o.op = some x) {v : AV} (hv : evR (withHint h x) st.tm st.bx = some v) : Goes P o a w (Left M w0 own0 st a.tmps.toList v) := by
  haveI := I.good.toGOk
  by_cases hbs : ∃ X, x = .bytesS X
  · obtain ⟨X, rfl⟩ := hbs
    simp only [withHint] at hv
    split at hv
    · cases ho : o.op with
      | convert s d y =>
        simp only [ho, cmpOp] at hc
        split at hc
        · cases hc
        · cases hc
        · rename_i e A hs hd hA
          split at hc
          · rename_i he
            cases hc
            exact (bytesM_ok I.rb ho hs he hd hA hv I.rt).goes I
          · cases hc
        · split at hc <;> cases hc
        · cases hc
      | _ => exact (cmpOp_bytesS hc fun _ _ _ h => by rw [ho] at h; cases h).elim
    · simp [evR] at hv
  by_cases hsl : ∃ sz X L H MX, x = .sliceV sz X L H MX
  · obtain ⟨sz, X, L, H, MX, rfl⟩ := hsl
    simp only [withHint] at hv
    split at hv
    · cases ho : o.op with
      | slice t y lo hi mx =>
        simp only [ho, cmpOp] at hc
        split at hc
        · cases hc
        · rename_i e A LO HI MX' hu hX hl hh hm
          split at hc
          · cases hc
          · rename_i hcond
            obtain ⟨s, hs, he⟩ := Option.map_eq_some_iff.1 hc
            cases he
            exact (sliceM_ok I.rt I.rb ho hu hs hX hl hh hm (by simpa only [Bool.not_eq_true] using hcond) hv).goes I
        · obtain ⟨_, _, he⟩ := Option.map_eq_some_iff.1 hc; cases he
        · cases hc
      | _ => exact (cmpOp_sliceV hc fun _ _ _ _ _ h => by rw [ho] at h; cases h).elim
    · simp [evR] at hv
  have key : (∃ ag n X, x = .load ag n X) ∨ (∃ n sz X L H, x = .sliceA n sz X L H) ∨ (∃ z ok m k n, x = .mlook z ok m k n) := by
    cases x <;> first | exact (hbs ⟨_, rfl⟩).elim | exact (hsl ⟨_, _, _, _, _, rfl⟩).elim | exact (cmpOp_bytesM hc).elim | exact (cmpOp_sliceM hc).elim | exact (cmpOp_loadR hc).elim | exact .inl ⟨_, _, _, rfl⟩ | exact .inr (.inl ⟨_, _, _, _, _, rfl⟩) | exact .inr (.inr ⟨_, _, _, _, _, rfl⟩) | (simp only [withHint] at hv; split at hv <;> simp [evR] at hv; done) | (simp [withHint, evR] at hv)
  have hv : evR x st.tm st.bx = some v := by
    rcases key with ⟨ag, n, X, rfl⟩ | ⟨_, _, _, _, _, rfl⟩ | ⟨_, _, _, _, _, rfl⟩
    · cases hr : h.root with
      | none => simpa only [withHint, hr] using hv
      | some u =>
        simp only [withHint, hr, evR] at hv
        split at hv
        · rename_i k off k' o' e1 e2
          split at hv
          · simp only [evR, e1]; exact hv
          · cases hv
        · cases hv
    · exact hv
    · exact hv
  cases ho : o.op with
  | load t y =>
    simp only [ho, cmpOp] at hc
    split at hc
    · rename_i ag n X hag hn hX
      split at hc
      · rename_i hagt
        cases hc
        subst hagt
        exact (loadC_ok I.rt I.rb ho hag hn hX (by simp) hv).goes I
      · rename_i hagf
        cases hc
        have hagf' : ag = false := by simpa using hagf
        subst hagf'
        exact (loadC_ok I.rt I.rb ho hag hn hX (by simp) hv).goes I
    · cases hc
  | slice t y lo hi mx =>
    simp only [ho, cmpOp] at hc
    split at hc
    · cases hc; simp [evR] at hv
    · split at hc
      · cases hc
      · obtain ⟨sz, hs, rfl⟩ := Option.map_eq_some_iff.1 hc
        simp [evR] at hv
    · rename_i n e X L H hu hX hl hh hm
      obtain ⟨sz, hs, rfl⟩ := Option.map_eq_some_iff.1 hc
      have hmx := optNone hm rfl
      subst hmx
      exact (sliceA_ok I.rt I.rb ho hu hs hX hl hh hv).goes I
    · cases hc
  | lookup t m k ok =>
    simp only [ho, cmpOp] at hc
    split at hc
    · rename_i kt et hu
      split at hc
      · rename_i n z MM K hk hag hz hm hkk
        cases hc
        obtain ⟨i, hi, hz⟩ := Option.bind_eq_some_iff.1 hz
        obtain ⟨zv, hz, hzp⟩ := Option.bind_eq_some_iff.1 hz
        exact (mlook_ok I.rt I.rb ho hu hk hi hz hzp hm hkk hv).goes I
      · cases hc
    · cases hc
  | move y => simp only [ho, cmpOp] at hc; obtain ⟨X, hX, rfl⟩ := Option.map_eq_some_iff.1 hc; simp [evR] at hv
  | assign y => simp only [ho, cmpOp] at hc; obtain ⟨X, hX, rfl⟩ := Option.map_eq_some_iff.1 hc; simp [evR] at hv
  | call c =>
    simp only [ho, cmpOp, cmpCall] at hc
    exfalso
    rcases key with ⟨_, _, _, rfl⟩ | ⟨_, _, _, _, _, rfl⟩ | ⟨_, _, _, _, _, rfl⟩ <;>
      (repeat' first | (split at hc) | (simp at hc) | (obtain ⟨_, _, hc⟩ := Option.map_eq_some_iff.1 hc; simp at hc))
  | makeFunc fn first caps =>
    cases fn with
    | func f =>
      simp only [ho, cmpOp] at hc
      split at hc
      · obtain ⟨Xs, hXs, rfl⟩ := Option.map_eq_some_iff.1 hc; simp [evR] at hv
      · cases hc
    | _ => simp [ho, cmpOp] at hc
  | makeMap t r =>
    cases r with
    | none => simp only [ho, cmpOp, Option.some.injEq] at hc; subst hc; simp [evR] at hv
    | some r => simp [ho, cmpOp] at hc
  | range t y =>
    simp only [ho, cmpOp] at hc
    split at hc
    · obtain ⟨X, hX, rfl⟩ := Option.map_eq_some_iff.1 hc
      simp [evR] at hv
    · cases hc
  | next y s =>
    cases s with
    | true =>
      simp only [ho, cmpOp] at hc
      obtain ⟨X, hX, rfl⟩ := Option.map_eq_some_iff.1 hc
      simp [evR] at hv
    | false => simp [ho, cmpOp] at hc
  | _ =>
    simp only [ho, cmpOp] at hc
    exfalso
    rcases key with ⟨_, _, _, rfl⟩ | ⟨_, _, _, _, _, rfl⟩ | ⟨_, _, _, _, _, rfl⟩ <;>
      (repeat' first | (split at hc) | (simp at hc) | (obtain ⟨_, _, hc⟩ := Option.map_eq_some_iff.1 hc; simp at hc))
theorem evW_goes (I : Inv M w0 own0 w own nm st a.tmps.toList) {call : Oracle} (hok : OkOr P call) {x : XOp} {h : Hint} (hc : cmpOp P o.op = some x) {v : AV} {st' : St} (hv : evW call o.dst (withHint h x) st = some (v, st')) : Goes P o a w (Left M w0 own0 st' a.tmps.toList v) := by
  haveI := I.good.toGOk
  cases ho : o.op with
  | box t y =>
    simp only [ho, cmpOp] at hc
    split at hc
    · rename_i X n hX hn
      cases hc
      exact box_goes I ho hX hv
    · cases hc
  | alloc t =>
    simp only [ho, cmpOp] at hc
    obtain ⟨z, hz, rfl⟩ := Option.map_eq_some_iff.1 hc
    exact alloc_goes I ho hz hv
  | store t y z =>
    simp only [ho, cmpOp] at hc
    split at hc
    · rename_i n A X hn hA hX
      cases hc
      simp only [withHint] at hv
      split at hv
      · exact store_goes I ho hn hA hX (storeO_store hv)
      · exact store_goes I ho hn hA hX hv
    · cases hc
  | makeMap t r =>
    cases r with
    | none => simp only [ho, cmpOp, Option.some.injEq] at hc; subst hc; exact mkmap_goes I ho hv
    | some r => simp [ho, cmpOp] at hc
  | range t y =>
    simp only [ho, cmpOp] at hc
    split at hc
    · rename_i hu
      obtain ⟨X, hX, rfl⟩ := Option.map_eq_some_iff.1 hc
      exact rng_goes I ho hu hX hv
    · cases hc
  | next y s =>
    cases s with
    | true =>
      simp only [ho, cmpOp] at hc
      obtain ⟨X, hX, rfl⟩ := Option.map_eq_some_iff.1 hc
      exact nxt_goes I ho hX hv
    | false => simp [ho, cmpOp] at hc
  | mapEntry t m k =>
    simp only [ho, cmpOp] at hc
    split at hc
    · rename_i kt et hu
      split at hc
      · rename_i n z A B hk hag hz hA hB
        cases hc
        obtain ⟨i, hi, hz⟩ := Option.bind_eq_some_iff.1 hz
        obtain ⟨zv, hz, hzp⟩ := Option.bind_eq_some_iff.1 hz
        exact ment_goes I ho hu hk hi hz hzp hA hB hv
      · cases hc
    · cases hc
  | entryStore t m k y =>
    simp only [ho, cmpOp] at hc
    split at hc
    · rename_i A B C hA hB hC
      cases hc
      exact mest_goes I ho hA hB hC hv
    · cases hc
  | mapUpdate t m k y =>
    simp only [ho, cmpOp] at hc
    split at hc
    · rename_i kt et hu
      split at hc
      · rename_i n A B C hk hag hA hB hC
        cases hc
        exact mupd_goes I ho hu hk hA hB hC hv
      · cases hc
    · cases hc
  | makeSlice t l c =>
    simp only [ho, cmpOp] at hc
    split at hc
    · rename_i e hu
      split at hc
      · rename_i i z A B hi hz hA hB
        split at hc
        · cases hc
        · rename_i hcond
          cases hc
          simp only [not_or, Decidable.not_not] at hcond
          exact mkslice_goes I ho hu hi hz hcond.1 hcond.2 hA hB hv
      · cases hc
    · cases hc
  | call c =>
    simp only [ho, cmpOp, cmpCall] at hc
    split at hc
    · rename_i f hcal
      split at hc
      · rename_i F As hF hAs
        cases hc
        simp only [withHint] at hv
        split at hv
        · exact callM_goes I hok ho hcal hF hAs hv
        · exact callW_goes I hok ho hcal hF hAs hv
      · cases hc
    · cases hc
    · rename_i b hcal
      split at hc
      · split at hc
        · cases hc; simp [withHint, evW] at hv
        · cases hc; simp [withHint, evW] at hv
        · cases hc; simp [withHint, evW] at hv
        · cases hc
      · obtain ⟨Xs, hXs, rfl⟩ := Option.map_eq_some_iff.1 hc; simp [withHint, evW] at hv
      · obtain ⟨Xs, hXs, rfl⟩ := Option.map_eq_some_iff.1 hc; simp [withHint, evW] at hv
      · rename_i y t e1 e2
        have hA : c.args = #[y] := by rw [← Array.toArray_toList (xs := c.args), e1]
        have hT : c.argTypes = #[t] := by rw [← Array.toArray_toList (xs := c.argTypes), e2]
        split at hc
        · rename_i e X hu hX
          split at hc
          · rename_i sz z hs hz
            split at hc
            · cases hc
            · cases hc
              exact clr_goes I ho hcal hA hT hu hz hX hv
          · cases hc
        · cases hc
      · rename_i s x t u e1 e2
        have hA : c.args = #[s, x] := by rw [← Array.toArray_toList (xs := c.args), e1]
        have hT : c.argTypes = #[t, u] := by rw [← Array.toArray_toList (xs := c.argTypes), e2]
        split at hc
        · rename_i e d S X hu1 hu2 hS hX
          split at hc
          · rename_i i hi
            split at hc
            · cases hc
            · rename_i hcond
              simp only [not_or, Decidable.not_not] at hcond
              obtain ⟨hs0, hb0, hz⟩ := hcond
              obtain ⟨zv, hzv, hzs⟩ := Option.map_eq_some_iff.1 hz
              split at hc
              · rename_i d'
                cases hc
                simp only [withHint] at hv
                split at hv
                · exact appM_goes I ho hcal hA hT ⟨hu1, .inl ⟨d', hu2⟩, hi, hzv, hzs, hs0, hb0⟩ hS hX hv
                · exact app_goes I ho hcal hA hT ⟨hu1, .inl ⟨d', hu2⟩, hi, hzv, hzs, hs0, hb0⟩ hS hX hv
              · split at hc
                · cases hc
                  simp only [withHint] at hv
                  split at hv
                  · exact appM_goes I ho hcal hA hT ⟨hu1, .inr hu2, hi, hzv, hzs, hs0, hb0⟩ hS hX hv
                  · exact app_goes I ho hcal hA hT ⟨hu1, .inr hu2, hi, hzv, hzs, hs0, hb0⟩ hS hX hv
                · cases hc
              · cases hc
          · cases hc
        · cases hc
      · cases hc
  | move y => simp only [ho, cmpOp] at hc; obtain ⟨X, hX, rfl⟩ := Option.map_eq_some_iff.1 hc; simp [withHint, evW] at hv
  | assign y => simp only [ho, cmpOp] at hc; obtain ⟨X, hX, rfl⟩ := Option.map_eq_some_iff.1 hc; simp [withHint, evW] at hv
  | unOp op t y => simp only [ho, cmpOp] at hc; obtain ⟨X, hX, rfl⟩ := Option.map_eq_some_iff.1 hc; simp [withHint, evW] at hv
  | nilCheck y => simp only [ho, cmpOp] at hc; obtain ⟨X, hX, rfl⟩ := Option.map_eq_some_iff.1 hc; simp [withHint, evW] at hv
  | extract y i => simp only [ho, cmpOp] at hc; obtain ⟨X, hX, rfl⟩ := Option.map_eq_some_iff.1 hc; simp [withHint, evW] at hv
  | makeFunc fn first caps =>
    cases fn with
    | func f =>
      simp only [ho, cmpOp] at hc
      split at hc
      · obtain ⟨Xs, hXs, rfl⟩ := Option.map_eq_some_iff.1 hc; simp [withHint, evW] at hv
      · cases hc
    | _ => simp [ho, cmpOp] at hc
  | pick c y z => simp only [ho, cmpOp] at hc; split at hc <;> first | (cases hc; simp [withHint, evW] at hv) | cases hc
  | build t parts =>
    simp only [ho, cmpOp] at hc
    split at hc
    · split at hc
      · obtain ⟨Ps, hPs, rfl⟩ := Option.map_eq_some_iff.1 hc; simp [withHint, evW] at hv
      · cases hc
    · split at hc
      · obtain ⟨Ps, hPs, rfl⟩ := Option.map_eq_some_iff.1 hc; simp [withHint, evW] at hv
      · cases hc
    · cases hc
  | buildSlice t len parts =>
    simp only [ho, cmpOp] at hc
    split at hc
    · split at hc
      · split at hc
        · cases hc
        · obtain ⟨Ps, hPs, rfl⟩ := Option.map_eq_some_iff.1 hc; simp [withHint, evW] at hv
      · cases hc
    · cases hc
  | load t y =>
    simp only [ho, cmpOp] at hc
    split at hc
    · split at hc <;> (cases hc; cases hr : h.root <;> simp [withHint, hr, evW] at hv)
    · cases hc
  | binOp op t y z t' =>
    simp only [ho, cmpOp] at hc
    exfalso
    repeat' first | (split at hc) | (cases hc; simp [withHint, evW] at hv; done) | (cases hc; done)
  | convert s d y =>
    simp only [ho, cmpOp] at hc
    split at hc
    · cases hc; simp [withHint, evW] at hv
    · cases hc; simp [withHint, evW] at hv
    · split at hc
      · cases hc; simp only [withHint] at hv; split at hv <;> simp [evW] at hv
      · cases hc
    · rename_i e A hs hd hA
      split at hc
      · rename_i he
        cases hc
        exact sbytes_goes I ho hs hd he hA hv
      · cases hc
    · cases hc
  | slice t y lo hi mx =>
    simp only [ho, cmpOp] at hc
    exfalso
    repeat' first | (split at hc) | (cases hc; simp [withHint, evW] at hv; done) | (cases hc; done) | (obtain ⟨_, _, rfl⟩ := Option.map_eq_some_iff.1 hc; simp [withHint, evW] at hv; done) | (obtain ⟨_, _, rfl⟩ := Option.map_eq_some_iff.1 hc; simp only [withHint] at hv; split at hv <;> simp [evW] at hv; done)
  | fieldAddr s y f =>
    simp only [ho, cmpOp] at hc
    exfalso
    repeat' first | (split at hc) | (cases hc; simp [withHint, evW] at hv; done) | (cases hc; done)
  | field t y f =>
    simp only [ho, cmpOp] at hc
    exfalso
    repeat' first | (split at hc) | (cases hc; simp [withHint, evW] at hv; done) | (cases hc; done)
  | indexAddr t y i =>
    simp only [ho, cmpOp] at hc
    exfalso
    repeat' first | (split at hc) | (cases hc; simp [withHint, evW] at hv; done) | (cases hc; done) | (obtain ⟨_, _, rfl⟩ := Option.map_eq_some_iff.1 hc; simp [withHint, evW] at hv; done)
  | index t y i =>
    simp only [ho, cmpOp] at hc
    exfalso
    repeat' first | (split at hc) | (cases hc; simp [withHint, evW] at hv; done) | (cases hc; done)
  | lookup t m k ok =>
    simp only [ho, cmpOp] at hc
    exfalso
    repeat' first | (split at hc) | (cases hc; simp [withHint, evW] at hv; done) | (cases hc; done)
  | panic y => simp only [ho, cmpOp, Option.some.injEq] at hc; subst hc; simp [withHint, evW] at hv
  | makeInterface t y => simp only [ho, cmpOp, Option.some.injEq] at hc; subst hc; simp [withHint, evW] at hv
  | _ => simp [ho, cmpOp] at hc
end
end Go.Sx
