/- All operations. -/
import Derived.Test.YtggopflifieoiaaDoorSxCall
namespace Go.Sx
open Go
section
variable {P : Program} {o : Oper} {a : Act} {M : Nm} {w0 w w' : World} {own0 own own' : Own} {nm nm' : Nm} {st : St}
theorem evP_goes (I : Inv M w0 own0 w own nm st a.tmps.toList) {call : Oracle} (hok : OkOr P call) {x : XOp} {h : Hint} (hc : cmpOp P o.op = some x) {v : AV} (hv : evP call (withHint h x) st.tm = some v) : Goes P o a w (Left M w0 own0 st a.tmps.toList v) := by
  haveI := I.good.toGOk
  cases ho : o.op with
  | move y =>
    simp only [ho, cmpOp] at hc
    obtain ⟨X, hX, rfl⟩ := Option.map_eq_some_iff.1 hc
    simp only [withHint, evP, Option.some.injEq] at hv
    subst hv
    exact (mv_ok I.rt (.inl ho) hX).goes I
  | assign y =>
    simp only [ho, cmpOp] at hc
    obtain ⟨X, hX, rfl⟩ := Option.map_eq_some_iff.1 hc
    simp only [withHint, evP, Option.some.injEq] at hv
    subst hv
    exact (mv_ok I.rt (.inr ho) hX).goes I
  | pick c y z =>
    simp only [ho, cmpOp] at hc
    split at hc
    · rename_i C Y Z h1 h2 h3
      cases hc
      simp only [withHint, evP] at hv
      split at hv
      · rename_i b hb
        cases hv
        exact (pick_ok I.rt ho h1 h2 h3 hb).goes I
      · cases hv
    · cases hc
  | box t y =>
    simp only [ho, cmpOp] at hc
    split at hc
    · cases hc; simp [withHint, evP] at hv
    · cases hc
  | alloc t =>
    simp only [ho, cmpOp] at hc
    obtain ⟨X, hX, rfl⟩ := Option.map_eq_some_iff.1 hc
    simp [withHint, evP] at hv
  | build t parts =>
    simp only [ho, cmpOp] at hc
    split at hc
    · rename_i fs z hu hz
      split at hc
      · rename_i hall
        obtain ⟨Ps, hPs, rfl⟩ := Option.map_eq_some_iff.1 hc
        exact (build_ok I.rt ho hz (.inl ⟨fs, hu, hall, hPs⟩) hv).goes I
      · cases hc
    · rename_i n e z hu hz
      split at hc
      · rename_i sz hs
        obtain ⟨Ps, hPs, rfl⟩ := Option.map_eq_some_iff.1 hc
        exact (build_ok I.rt ho hz (.inr ⟨n, e, sz, hu, hs, hPs⟩) hv).goes I
      · cases hc
    · cases hc
  | buildSlice t len parts =>
    simp only [ho, cmpOp] at hc
    split at hc
    · rename_i e hu
      split at hc
      · rename_i sz z hs hz
        split at hc
        · cases hc
        · rename_i hcond
          obtain ⟨Ps, hPs, rfl⟩ := Option.map_eq_some_iff.1 hc
          simp only [not_or, Decidable.not_not] at hcond
          exact buildSl_goes I ho hu hs hz (by omega) hcond.2.1 (by omega) hPs hv
      · cases hc
    · cases hc
  | load t y =>
    simp only [ho, cmpOp] at hc
    have hroot : h.root = none := by
      cases hr : h.root with
      | none => rfl
      | some u =>
        exfalso
        split at hc
        · split at hc <;> (cases hc; simp [withHint, hr, evP] at hv)
        · cases hc
    split at hc
    · rename_i ag n X hag hn hX
      split at hc
      · rename_i hagt
        cases hc
        subst hagt
        simp only [withHint, hroot] at hv
        exact (loadP_ok I.rt ho hag hn hX (by simp) hv).goes I
      · rename_i hagf
        cases hc
        have hagf' : ag = false := by simpa using hagf
        subst hagf'
        simp only [withHint, hroot] at hv
        exact (loadP_ok I.rt ho hag hn hX (by simp) hv).goes I
    · cases hc
  | store t y z =>
    simp only [ho, cmpOp] at hc
    split at hc
    · cases hc
      simp only [withHint] at hv
      split at hv <;> simp [evP] at hv
    · cases hc
  | nilCheck y =>
    simp only [ho, cmpOp] at hc
    obtain ⟨X, hX, rfl⟩ := Option.map_eq_some_iff.1 hc
    simp only [withHint, evP] at hv
    split at hv
    · rename_i k q e; cases hv; rw [← e]; exact (nilc_ok I.rt ho hX (.inl ⟨k, q, e⟩)).goes I
    · rename_i l q e; cases hv; rw [← e]; exact (nilc_ok I.rt ho hX (.inr (.inl ⟨l, q, e⟩))).goes I
    · rename_i f cs e; cases hv; rw [← e]; exact (nilc_ok I.rt ho hX (.inr (.inr ⟨f, cs, e⟩))).goes I
    · cases hv
  | binOp op t y z t' =>
    simp only [ho, cmpOp] at hc
    have fin : ∀ {v : AV}, (∃ r, (do eqGuard op t y z (a.eval y) (a.eval z); binOp op t (a.eval y) (a.eval z) : Sem Value).run P w = .ok r w ∧ RA w own nm v r) → Goes P o a w (Left M w0 own0 st a.tmps.toList v) := by
      intro v ⟨r, h1, h2⟩
      refine Stays.goes I ⟨r, ?_, h2⟩
      simp only [execOp, ho]
      rw [Sem.run_bind, h1]
      rfl
    split at hc
    · rename_i X Y hX hY hag
      have hb : ∀ {v : AV}, evP call (.bin op X Y) st.tm = some v → Goes P o a w (Left M w0 own0 st a.tmps.toList v) := fun hv => fin (binV_ok (arg_ok I.rt hX) (arg_ok I.rt hY) (by simpa [evP] using hv))
      have hq : op = .eql ∨ op = .neq → (match P.underlying t with
          | some (.int _) | some .string => some (XOp.bin op X Y)
          | some .bool => some (.eqB (op == .neq) X Y)
          | some (.slice _) => some (.eqN 0 (op == .neq) X Y)
          | some (.pointer _) => some (.eqN 1 (op == .neq) X Y)
          | some (.func _ _ _) => some (.eqN 2 (op == .neq) X Y)
          | some (.map _ _) => some (.eqN 3 (op == .neq) X Y)
          | _ => none) = some x → Goes P o a w (Left M w0 own0 st a.tmps.toList v) := by
        intro hop hc
        split at hc
        · cases hc; exact hb hv
        · cases hc; exact hb hv
        · rename_i hu; cases hc; simp only [withHint, evP] at hv; exact fin (eqBV_ok hu hop (arg_ok I.rt hX) (arg_ok I.rt hY) hv)
        · rename_i e hu; cases hc; simp only [withHint, evP] at hv; exact fin (eqNV_ok (tag := 0) hu trivial hop (arg_ok I.rt hX) (arg_ok I.rt hY) hv)
        · rename_i e hu; cases hc; simp only [withHint, evP] at hv; exact fin (eqNV_ok (tag := 1) hu trivial hop (arg_ok I.rt hX) (arg_ok I.rt hY) hv)
        · rename_i e1 e2 e3 hu; cases hc; simp only [withHint, evP] at hv; exact fin (eqNV_ok (tag := 2) hu trivial hop (arg_ok I.rt hX) (arg_ok I.rt hY) hv)
        · rename_i e1 e2 hu; cases hc; simp only [withHint, evP] at hv; exact fin (eqNV_ok (tag := 3) hu trivial hop (arg_ok I.rt hX) (arg_ok I.rt hY) hv)
        · cases hc
      split at hc
      · exact hq (.inl rfl) hc
      · exact hq (.inr rfl) hc
      · cases hc; exact hb hv
    · rename_i X Y hX hY hag
      split at hc
      · rename_i ks hk hg
        split at hc
        · cases hc; exact (eqA_ok I.rt ho (.inl rfl) hX hY hag hk hg hv).goes I
        · cases hc; exact (eqA_ok I.rt ho (.inr rfl) hX hY hag hk hg hv).goes I
        · cases hc
      · cases hc
    · cases hc
  | unOp op t y =>
    simp only [ho, cmpOp] at hc
    obtain ⟨X, hX, rfl⟩ := Option.map_eq_some_iff.1 hc
    simp only [withHint, evP] at hv
    obtain ⟨r, h1, h2⟩ := unV_ok (P := P) (arg_ok I.rt hX) hv
    exact Stays.goes I ⟨r, by simp [execOp, ho, h1], h2⟩
  | convert s d y =>
    simp only [ho, cmpOp] at hc
    split at hc
    · rename_i k X hs hd hX
      cases hc; exact (convI_ok I.rt ho hs hd hX hv).goes I
    · rename_i X hs hd hX
      cases hc; exact (convS_ok I.rt ho hs hd hX hv).goes I
    · rename_i e X hs hd hX
      split at hc
      · rename_i he; cases hc
        simp only [withHint] at hv
        split at hv
        · simp [evP] at hv
        · exact (bytesS_ok I.rt ho hs he hd hX hv).goes I
      · cases hc
    · split at hc
      · cases hc; simp [withHint, evP] at hv
      · cases hc
    · cases hc
  | sliceToArrayPointer d y => simp [ho, cmpOp] at hc
  | makeInterface t y => simp only [ho, cmpOp, Option.some.injEq] at hc; subst hc; simp [withHint, evP] at hv
  | makeFunc fn first caps =>
    cases fn with
    | func f =>
      simp only [ho, cmpOp] at hc
      split at hc
      · rename_i h0
        obtain ⟨Xs, hXs, rfl⟩ := Option.map_eq_some_iff.1 hc
        exact (mkfn_ok I.rt ho h0 hXs hv).goes I
      · cases hc
    | _ => simp [ho, cmpOp] at hc
  | makeMap t r =>
    cases r with
    | none => simp only [ho, cmpOp, Option.some.injEq] at hc; subst hc; simp [withHint, evP] at hv
    | some r => simp [ho, cmpOp] at hc
  | range t y =>
    simp only [ho, cmpOp] at hc
    split at hc
    · obtain ⟨X, hX, rfl⟩ := Option.map_eq_some_iff.1 hc
      simp [withHint, evP] at hv
    · cases hc
  | next y s =>
    cases s with
    | true =>
      simp only [ho, cmpOp] at hc
      obtain ⟨X, hX, rfl⟩ := Option.map_eq_some_iff.1 hc
      simp [withHint, evP] at hv
    | false => simp [ho, cmpOp] at hc
  | makeChan t s => simp [ho, cmpOp] at hc
  | makeSlice t l c =>
    simp only [ho, cmpOp] at hc
    split at hc
    · split at hc
      · split at hc
        · cases hc
        · cases hc; simp [withHint, evP] at hv
      · cases hc
    · cases hc
  | slice t y lo hi mx =>
    simp only [ho, cmpOp] at hc
    split at hc
    · rename_i X L H hu hX hl hh hm
      cases hc
      have hmx : mx = none := by
        cases mx with
        | none => rfl
        | some m => simp only [cOpt] at hm; obtain ⟨_, _, h⟩ := Option.map_eq_some_iff.1 hm; cases h
      subst hmx
      exact (sliceS_ok I.rt ho hu hX hl hh hv).goes I
    · rename_i e X L H MX hu hX hl hh hm
      split at hc
      · cases hc
      · rename_i hcond
        obtain ⟨sz, hs, rfl⟩ := Option.map_eq_some_iff.1 hc
        simp only [withHint] at hv
        split at hv
        · simp [evP] at hv
        · exact (sliceV_ok I.rt ho hu hs hX hl hh hm (by simpa only [Bool.not_eq_true] using hcond) hv).goes I
    · rename_i n e X L H hu hX hl hh hm
      obtain ⟨sz, hs, rfl⟩ := Option.map_eq_some_iff.1 hc
      simp [withHint, evP] at hv
    · cases hc
  | fieldAddr s y f =>
    simp only [ho, cmpOp] at hc
    split at hc
    · rename_i fs X hu hX
      split at hc
      · rename_i fl hf
        split at hc
        · rename_i n hn
          split at hc
          · cases hc
          · rename_i h0
            cases hc
            exact (faddr_ok I.rt ho hu hX hf hn h0 hv).goes I
        · cases hc
      · cases hc
    · cases hc
  | field t y f =>
    simp only [ho, cmpOp] at hc
    split at hc
    · rename_i fs X hu hX
      split at hc
      · rename_i fl hf
        split at hc
        · rename_i n hag hn
          cases hc
          exact (fld_ok I.rt ho hu hX hf hn hag (by simp) hv).goes I
        · rename_i n hag hn
          cases hc
          exact (fld_ok I.rt ho hu hX hf hn hag (by simp) hv).goes I
        · cases hc
      · cases hc
    · cases hc
  | indexAddr t y i =>
    simp only [ho, cmpOp] at hc
    split at hc
    · rename_i e X J hu hX hJ
      obtain ⟨sz, hs, rfl⟩ := Option.map_eq_some_iff.1 hc
      exact (iaddrS_ok I.rt ho hu hX hJ hs hv).goes I
    · rename_i n e X J hu hX hJ
      obtain ⟨sz, hs, rfl⟩ := Option.map_eq_some_iff.1 hc
      exact (iaddrA_ok I.rt ho hu hX hJ hs hv).goes I
    · cases hc
  | index t y i =>
    simp only [ho, cmpOp] at hc
    split at hc
    · rename_i X J hu hX hJ
      cases hc
      exact (idxS_ok I.rt ho hu hX hJ hv).goes I
    · rename_i n e X J hu hX hJ
      split at hc
      · rename_i sz hag hs
        cases hc
        exact (idxA_ok I.rt ho hu hX hJ hs hag rfl (fun h => by cases h) hv).goes I
      · rename_i hag hs
        cases hc
        exact (idxA_ok I.rt ho hu hX hJ hs hag rfl (fun _ => rfl) hv).goes I
      · cases hc
    · cases hc
  | lookup t m k ok =>
    simp only [ho, cmpOp] at hc
    split at hc
    · split at hc
      · cases hc; simp [withHint, evP] at hv
      · cases hc
    · cases hc
  | mapUpdate t m k y =>
    simp only [ho, cmpOp] at hc
    split at hc
    · split at hc
      · cases hc; simp [withHint, evP] at hv
      · cases hc
    · cases hc
  | mapEntry t m k =>
    simp only [ho, cmpOp] at hc
    split at hc
    · split at hc
      · cases hc; simp [withHint, evP] at hv
      · cases hc
    · cases hc
  | entryStore t m k y =>
    simp only [ho, cmpOp] at hc
    split at hc
    · cases hc; simp [withHint, evP] at hv
    · cases hc
  | extract y i =>
    simp only [ho, cmpOp] at hc
    obtain ⟨X, hX, rfl⟩ := Option.map_eq_some_iff.1 hc
    exact (extr_ok I.rt ho hX hv).goes I
  | call c =>
    simp only [ho, cmpOp, cmpCall] at hc
    split at hc
    · rename_i f hcal
      split at hc
      · rename_i F As hF hAs
        cases hc
        simp only [withHint] at hv
        split at hv
        · simp [evP] at hv
        · exact callP_goes I hok ho hcal hF hAs hv
      · cases hc
    · cases hc
    · rename_i b hcal
      split at hc
      · rename_i y t e1 e2
        have hA : c.args = #[y] := by rw [← Array.toArray_toList (xs := c.args), e1]
        have hT : c.argTypes = #[t] := by rw [← Array.toArray_toList (xs := c.argTypes), e2]
        split at hc
        · rename_i X hu hX; cases hc; exact (lenS_ok I.rt ho hcal hA hT hu hX hv).goes I
        · rename_i e X hu hX; cases hc; exact (len_ok I.rt ho hcal hA hT hu hX hv).goes I
        · rename_i n e X hu hX
          cases hc
          simp only [withHint, evP, getA, Option.some.injEq] at hv
          subst hv
          exact Stays.goes I ⟨.int .i64 n, run_len ho hcal hA hT (by simp [Builtin.len_, run_und hu, goInt]), .ofI _ _⟩
        · cases hc
      · obtain ⟨Xs, hXs, rfl⟩ := Option.map_eq_some_iff.1 hc
        exact (minI_ok I.rt ho hcal hXs hv).goes I
      · obtain ⟨Xs, hXs, rfl⟩ := Option.map_eq_some_iff.1 hc
        exact (maxI_ok I.rt ho hcal hXs hv).goes I
      · split at hc
        · split at hc
          · split at hc
            · cases hc
            · cases hc; simp [withHint, evP] at hv
          · cases hc
        · cases hc
      · split at hc
        · split at hc
          · split at hc
            · cases hc
            · split at hc
              · cases hc; simp only [withHint] at hv; split at hv <;> simp [evP] at hv
              · split at hc
                · cases hc; simp only [withHint] at hv; split at hv <;> simp [evP] at hv
                · cases hc
              · cases hc
          · cases hc
        · cases hc
      · cases hc
  | panic y => simp only [ho, cmpOp, Option.some.injEq] at hc; subst hc; simp [withHint, evP] at hv
  | _ => simp [ho, cmpOp] at hc
end
end Go.Sx
