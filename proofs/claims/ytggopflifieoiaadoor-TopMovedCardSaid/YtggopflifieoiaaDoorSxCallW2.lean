/- Calls that are handed boxes. -/
import Derived.Test.YtggopflifieoiaaDoorSxCallW
namespace Go.Sx
open Go
section
variable {P : Program} {o : Oper} {a : Act} {M : Nm} {w0 w w' : World} {own0 own own' : Own} {nm nm' nm'' : Nm} {st : St} {tmps : List Value}
theorem nodup_get {l : List Nat} (h : l.Nodup) {i j x : Nat} (hi : l[i]? = some x) (hj : l[j]? = some x) : i = j := by
  have a := (List.getElem?_eq_some_iff.1 hi).1
  have b := (List.getElem?_eq_some_iff.1 hj).1
  exact (List.getElem_inj h).1 (by rw [(List.getElem?_eq_some_iff.1 hi).2, (List.getElem?_eq_some_iff.1 hj).2] : l[i] = l[j])
theorem Inv.back (I : Inv M w0 own0 w own nm st tmps) {K I0 : List Nat} (hK : K.Nodup) (hKl : ∀ k ∈ K, k < st.bx.length) {nmC : Nm} (hadr : nmC.adr = (nmK nm K).adr) (hsp : ∀ j g, nmC.sp j = some g → ∃ i ∈ I0, nm.sp i = some g)
    {r : AV} {bs : List Box} {v : Value} {d : Option Nat} (hb : Back w own nmC r bs v w') (hlen : K.length ≤ bs.length) :
    let Is := r.all.flatMap CV.ids ++ (bs.flatMap Box.all |>.flatMap CV.ids)
    let g' := fun x => (freshIds (idOf d) Is x).back K st.bx.length
    let bs' := bs.map (Box.map' g')
    let st2 := (st.mapC (CV.shutIds I0)).mapC (CV.shutIds ((List.range Is.length).map (idOf d)))
    Left M w0 own0 ⟨st2.tm, setBs st2.bx K (bs'.take K.length) ++ bs'.drop K.length⟩ tmps (r.map g') v w' := by
  haveI := I.good.toGOk
  intro Is g' bs' st2
  obtain ⟨own', nm', hfr, hg, hno, hrb, hra, hext, hnew, hnsp⟩ := hb
  let news := (List.range Is.length).map (idOf d)
  let sp1 : Nat → Option Nat := fun j => if news.contains j then none else if I0.contains j then none else nm.sp j
  let nm1 : Nm := ⟨nm.adr, sp1⟩
  let spR : Nat → Option Nat := fun j => if news.contains j then spNew Is (idOf d) nm'.sp j else if I0.contains j then none else nm.sp j
  let nmR : Nm := ⟨nm.adr ++ nm'.adr.drop K.length, spR⟩
  have hL := I.rb.len
  have hadrK : ∀ (j k : Nat), K[j]? = some k → ∃ g, nm.adr[k]? = some g ∧ nmC.adr[j]? = some g ∧ nm'.adr[j]? = some g := by
    intro j k hj
    have hk := hKl k (List.mem_of_getElem? hj)
    have h1 : nm.adr[k]? = some nm.adr[k] := List.getElem?_eq_getElem (by omega)
    have h2 : nmC.adr[j]? = some nm.adr[k] := by rw [hadr]; exact nmK_get hj h1
    exact ⟨_, h1, h2, hext _ _ h2⟩
  have hCadr : ∀ g ∈ nmC.adr, g ∈ nm.adr := by
    intro g hg
    obtain ⟨j, hj⟩ := List.mem_iff_getElem?.1 hg
    have : j < K.length := by have := (List.getElem?_eq_some_iff.1 hj).1; rw [hadr] at this; simpa [nmK] using this
    obtain ⟨g', h1, h2, _⟩ := hadrK j K[j] (List.getElem?_eq_getElem this)
    rw [hj] at h2; cases h2
    exact List.mem_of_getElem? h1
  have hModold : ∀ g, Mod nmC g → g ∈ nm.adr ∨ ∃ i ∈ I0, nm.sp i = some g := by
    rintro g (h | ⟨i, h⟩)
    · exact .inl (hCadr g h)
    · exact .inr (hsp i g h)
  have hrow1 : ∀ i g, sp1 i = some g → nm.sp i = some g ∧ i ∉ I0 ∧ i ∉ news := by
    intro i g h
    simp only [sp1] at h
    split at h
    · cases h
    · rename_i h1
      split at h
      · cases h
      · rename_i h2
        exact ⟨h, by simpa using h2, by simpa using h1⟩
  have hrowold : ∀ i g, sp1 i = some g → w'.heap[g]? = w.heap[g]? ∧ own' g = own g := by
    intro i g h
    obtain ⟨h1, h2, _⟩ := hrow1 i g h
    refine hfr.old g (I.nmok.row_lt I.good h1) fun hm => ?_
    rcases hModold g hm with h3 | ⟨j, h3, h4⟩
    · exact (I.nmok.row i g h1).1 h3
    · exact h2 (by rw [I.nmok.inj i j g h1 h4]; exact h3)
  have hle : NmLe w own nm1 w' own' nmR := by
    refine ⟨hfr.keeps, fun k g hk => ?_, fun i g hi => ?_, fun g _ cs T fz hb => hfr.sizes g cs T fz hb⟩
    · show (nm.adr ++ nm'.adr.drop K.length)[k]? = some g
      rw [List.getElem?_append_left ((List.getElem?_eq_some_iff.1 hk).1)]
      exact hk
    · obtain ⟨h1, h2, h3⟩ := hrow1 i g hi
      refine ⟨?_, hrowold i g hi⟩
      show spR i = some g
      simp only [spR]
      rw [if_neg (by simpa using h3), if_neg (by simpa using h2)]
      exact h1
  have hw1 : Weak2 w own nm w' own' nmR fun x => (x.shutIds I0).shutIds news :=
    fun x v hx => (weak_shutIds w own _ news _ v (weak_shutIds w own nm I0 x v hx)).le hle
  have hspR : nodupB Is = true → ∀ (p i : Nat), Is[p]? = some i → spR (idOf d p) = nm'.sp i := by
    intro hn p i hp
    have : idOf d p ∈ news := List.mem_map.2 ⟨p, by simpa using (List.getElem?_eq_some_iff.1 hp).1, rfl⟩
    simp only [spR]
    rw [if_pos (by simpa using this)]
    exact spNew_get (idOf_inj d) hn hp
  have hw2 : Weak2 w' own' nm' w' own' nmR g' := by
    intro x v hx
    have h1 : RC w' own' ⟨nm'.adr, spR⟩ (freshIds (idOf d) Is x) v := weak_fresh (nm := nm') (nm' := ⟨nm'.adr, spR⟩) rfl hspR x v hx
    refine RC.ren (nm' := nmR) (ρ := fun j => match K[j]? with | some k => k | none => st.bx.length + (j - K.length)) h1 rfl fun k g hk => ?_
    show (nm.adr ++ nm'.adr.drop K.length)[_]? = some g
    by_cases hkl : k < K.length
    · obtain ⟨g2, h2, _, h3⟩ := hadrK k K[k] (List.getElem?_eq_getElem hkl)
      simp only [List.getElem?_eq_getElem hkl]
      rw [List.getElem?_append_left ((List.getElem?_eq_some_iff.1 h2).1), h2]
      change nm'.adr[k]? = some g at hk
      rw [h3] at hk; exact hk
    · simp only [List.getElem?_eq_none (by omega : K.length ≤ k)]
      rw [List.getElem?_append_right (by omega), List.getElem?_drop]
      change nm'.adr[k]? = some g at hk
      rw [← hk]
      congr 1; omega
  have hnewadr : ∀ g ∈ nm'.adr.drop K.length, w.heap.size ≤ g := by
    intro g hg
    obtain ⟨i, hi⟩ := List.mem_iff_getElem?.1 hg
    rw [List.getElem?_drop] at hi
    rcases hnew g (List.mem_of_getElem? hi) with h | h
    · obtain ⟨j, hj⟩ := List.mem_iff_getElem?.1 h
      have hjK : j < K.length := by have := (List.getElem?_eq_some_iff.1 hj).1; rw [hadr] at this; simpa [nmK] using this
      have := nodup_get hrb.nodup (hext j g hj) hi
      omega
    · exact h
  have hrowR : ∀ i g, spR i = some g → (sp1 i = some g ∧ i ∉ news) ∨ (∃ j, nm'.sp j = some g ∧ spNew Is (idOf d) nm'.sp i = some g ∧ i ∈ news) := by
    intro i g h
    simp only [spR] at h
    split at h
    · rename_i hc
      obtain ⟨_, p, j, h1, h2, h3, h4⟩ := spNew_some h
      exact .inr ⟨j, h4, h, by simpa using hc⟩
    · rename_i hc
      refine .inl ⟨?_, by simpa using hc⟩
      simp only [sp1]
      rw [if_neg hc]
      exact h
  have hrow' : ∀ j g, nm'.sp j = some g → (∃ i ∈ I0, nm.sp i = some g) ∨ w.heap.size ≤ g := by
    intro j g h
    rcases hnsp j g h with ⟨i, hi⟩ | h
    · exact .inl (hsp i g hi)
    · exact .inr h
  refine ⟨own', nmR, ⟨⟨hfr.os.trans I.fr.os, hfr.tape.trans I.fr.tape, hfr.output.trans I.fr.output, Nat.le_trans I.fr.size hfr.size, I.fr.keeps.trans hfr.keeps, fun g hlt hm => ?_, I.fr.sizes.trans hfr.sizes⟩, hg, ⟨fun i j g hi hj => ?_, fun i g hi => ?_⟩,
    ⟨?_, ?_, fun g hg => ?_, fun k g b hb hk => ?_⟩, ?_, fun g hg => ?_, fun i g hi => ?_, fun k g hk => ?_⟩, hra.map2 hw2⟩
  · -- what was there when the call began
    obtain ⟨h1, h2⟩ := I.fr.old g hlt hm
    obtain ⟨h3, h4⟩ := hfr.old g (Nat.lt_of_lt_of_le hlt I.fr.size) (fun hmod => by
      rcases hModold g hmod with h | ⟨i, _, h⟩
      · rcases I.mineA g h with h | h
        · exact hm (.inl h)
        · omega
      · rcases I.mineR i g h with h | h
        · exact hm (.inr h)
        · omega)
    exact ⟨h3.trans h1, h4.trans h2⟩
  · -- no row twice
    rcases hrowR i g hi with ⟨h1, h1'⟩ | ⟨p, h1, h1', h1''⟩ <;> rcases hrowR j g hj with ⟨h2, h2'⟩ | ⟨q, h2, h2', h2''⟩
    · exact I.nmok.inj i j g (hrow1 i g h1).1 (hrow1 j g h2).1
    · rcases hrow' q g h2 with ⟨k, hk, h⟩ | h
      · exact absurd (I.nmok.inj i k g (hrow1 i g h1).1 h ▸ hk) (hrow1 i g h1).2.1
      · have := I.nmok.row_lt I.good (hrow1 i g h1).1; omega
    · rcases hrow' p g h1 with ⟨k, hk, h⟩ | h
      · exact absurd (I.nmok.inj j k g (hrow1 j g h2).1 h ▸ hk) (hrow1 j g h2).2.1
      · have := I.nmok.row_lt I.good (hrow1 j g h2).1; omega
    · exact spNew_inj hno.inj h1' h2'
  · -- a row is no box
    rcases hrowR i g hi with ⟨h1, _⟩ | ⟨p, h1, _⟩
    · obtain ⟨h2, h3⟩ := I.nmok.row i g (hrow1 i g h1).1
      refine ⟨fun hm => ?_, by rw [(hrowold i g h1).2]; exact h3⟩
      rcases List.mem_append.1 hm with h | h
      · exact h2 h
      · have := hnewadr g h
        have := I.nmok.row_lt I.good (hrow1 i g h1).1
        omega
    · obtain ⟨h2, h3⟩ := hno.row p g h1
      refine ⟨fun hm => ?_, h3⟩
      rcases List.mem_append.1 hm with h | h
      · rcases hrow' p g h1 with ⟨k, _, h4⟩ | h4
        · exact (I.nmok.row k g h4).1 h
        · have := I.rb.lt g h; omega
      · exact h2 (List.mem_of_mem_drop h)
  · -- as many
    have := hrb.len
    simp only [nmR, List.length_append, List.length_drop, setBs_len, st2, St.mapC, List.length_map, bs']
    omega
  · refine List.nodup_append.2 ⟨I.rb.nodup, hrb.nodup.sublist (List.drop_sublist _ _), fun x hx y hy e => ?_⟩
    subst e
    have := hnewadr x hy
    have := I.rb.lt x hx
    omega
  · rcases List.mem_append.1 hg with h | h
    · have := I.rb.lt g h; have := hfr.size; omega
    · exact hrb.lt g (List.mem_of_mem_drop h)
  · -- the boxes
    have hl2 : (setBs st2.bx K (bs'.take K.length)).length = st.bx.length := by simp [setBs_len, st2, St.mapC]
    change (nm.adr ++ nm'.adr.drop K.length)[k]? = some g at hk
    by_cases hkl : k < st.bx.length
    · rw [List.getElem?_append_left (by omega)] at hb hk
      by_cases hin : k ∈ K
      · obtain ⟨j, hj⟩ := List.mem_iff_getElem?.1 hin
        have hjK := (List.getElem?_eq_some_iff.1 hj).1
        obtain ⟨g2, h2, _, h3⟩ := hadrK j k hj
        rw [hk] at h2; cases h2
        have hbj : (bs'.take K.length)[j]? = some (bs[j].map' g') := by
          rw [List.getElem?_take, if_pos hjK]
          simp [bs', List.getElem?_eq_getElem (by omega : j < bs.length)]
        rw [setBs_in hK hj hbj (by simpa [st2, St.mapC] using hkl)] at hb
        cases hb
        exact (hrb.box j g _ (List.getElem?_eq_getElem (by omega)) h3).map2 hw2 (Keeps.refl _ _) rfl rfl
      · rw [setBs_out hin] at hb
        simp only [st2, St.mapC, List.getElem?_map, Option.map_map] at hb
        obtain ⟨b0, h1, h2⟩ := Option.map_eq_some_iff.1 hb
        have hbb : b = b0.map' fun x => (x.shutIds I0).shutIds news := by
          rw [← h2]
          cases b0 <;> simp [Box.map', news]
        rw [hbb]
        obtain ⟨h3, h4⟩ := hfr.old g (I.rb.lt g (List.mem_of_getElem? hk)) (fun hmod => by
          rcases hmod with h | ⟨i, h⟩
          · obtain ⟨j, hj⟩ := List.mem_iff_getElem?.1 h
            have hjK : j < K.length := by have := (List.getElem?_eq_some_iff.1 hj).1; rw [hadr] at this; simpa [nmK] using this
            obtain ⟨g2, h5, h6, _⟩ := hadrK j K[j] (List.getElem?_eq_getElem hjK)
            rw [hj] at h6; cases h6
            have := nodup_get I.rb.nodup hk h5
            exact hin (this ▸ List.getElem_mem _)
          · obtain ⟨i', _, h⟩ := hsp i g h
            exact (I.nmok.row i' g h).1 (List.mem_of_getElem? hk))
        exact (I.rb.box k g b0 h1 hk).map2 hw1 hfr.keeps h3 h4
    · rw [List.getElem?_append_right (by omega)] at hb hk
      rw [List.getElem?_drop] at hb hk
      rw [hl2] at hb
      have e : K.length + (k - nm.adr.length) = K.length + (k - st.bx.length) := by omega
      rw [e] at hk
      simp only [bs', List.getElem?_map] at hb
      obtain ⟨b0, h1, rfl⟩ := Option.map_eq_some_iff.1 hb
      exact (hrb.box _ g b0 h1 hk).map2 hw2 (Keeps.refl _ _) rfl rfl
  · -- the temporaries
    have : st2.tm = (st.tm.map (AV.map (CV.shutIds I0))).map (AV.map (CV.shutIds news)) := rfl
    rw [this]
    refine (I.rt.map (S := RA w own ⟨nm.adr, fun j => if I0.contains j then none else nm.sp j⟩) fun x v _ h => h.map (weak_shutIds w own nm I0)).map fun x v _ h => ?_
    exact (h.map (weak_shutIds w own _ news)).le hle
  · rcases List.mem_append.1 hg with h | h
    · exact I.mineA g h
    · have := hnewadr g h; have := I.fr.size; exact .inr (by omega)
  · rcases hrowR i g hi with ⟨h1, _⟩ | ⟨p, h1, _⟩
    · exact I.mineR i g (hrow1 i g h1).1
    · rcases hrow' p g h1 with ⟨k, _, h4⟩ | h4
      · exact I.mineR k g h4
      · have := I.fr.size; exact .inr (by omega)
  · have h1 := I.ext k g hk
    show (nm.adr ++ nm'.adr.drop K.length)[k]? = some g
    rw [List.getElem?_append_left ((List.getElem?_eq_some_iff.1 h1).1)]
    exact h1
theorem RB.sub (hB : RB w own nm st.bx) {K : List Nat} (hK : K.Nodup) (hKl : ∀ k ∈ K, k < st.bx.length) {sub : List Box} (hs : getBs st.bx K = some sub) {nmC : Nm} (hadr : nmC.adr = (nmK nm K).adr) {f : CV → CV} (hf : Weak w own nm nmC f) : RB w own nmC (sub.map (Box.map' f)) := by
  obtain ⟨h1, h2⟩ := getBs_ok hs
  have hget : ∀ (j k : Nat), K[j]? = some k → ∃ g, nm.adr[k]? = some g ∧ nmC.adr[j]? = some g := by
    intro j k hj
    have hk := hKl k (List.mem_of_getElem? hj)
    have := hB.len
    exact ⟨nm.adr[k], List.getElem?_eq_getElem (by omega), by rw [hadr]; exact nmK_get hj (List.getElem?_eq_getElem (by omega))⟩
  have hlen : nmC.adr.length = K.length := by rw [hadr]; simp [nmK]
  refine ⟨by rw [hlen]; simp [h1], ?_, fun g hg => ?_, fun j g b hb hg => ?_⟩
  · refine List.pairwise_iff_getElem.2 fun i j hi hj hij e => ?_
    have e := (List.getElem?_eq_getElem hi).trans ((congrArg some e).trans (List.getElem?_eq_getElem hj).symm)
    rw [hlen] at hj
    obtain ⟨g, h3, h4⟩ := hget i K[i] (List.getElem?_eq_getElem (by omega))
    obtain ⟨g', h5, h6⟩ := hget j K[j] (List.getElem?_eq_getElem (by omega))
    rw [h4, h6] at e
    cases e
    have := nodup_get hB.nodup h3 h5
    have := (List.getElem_inj hK).1 this
    omega
  · obtain ⟨j, hj⟩ := List.mem_iff_getElem?.1 hg
    have hjK : j < K.length := by have := (List.getElem?_eq_some_iff.1 hj).1; omega
    obtain ⟨g2, h3, h4⟩ := hget j K[j] (List.getElem?_eq_getElem hjK)
    rw [hj] at h4; cases h4
    exact hB.lt g (List.mem_of_getElem? h3)
  · have hjK : j < K.length := by have := (List.getElem?_eq_some_iff.1 hg).1; omega
    obtain ⟨g2, h3, h4⟩ := hget j K[j] (List.getElem?_eq_getElem hjK)
    rw [hg] at h4; cases h4
    obtain ⟨b0, h5, h6⟩ := h2 j K[j] (List.getElem?_eq_getElem hjK)
    rw [List.getElem?_map, h6] at hb
    cases hb
    exact (hB.box _ g b0 h5 h3).map2 hf.two (Keeps.refl _ _) rfl rfl
theorem callW_goes' (I : Inv M w0 own0 w own nm st a.tmps.toList) {call : Oracle} (hok : OkOr P call) {c : Call} {f : Operand} {F : XArg} {As : List XArg} (ho : o.op = .call c) (hc : c.callee = .value f) (hf : cArg f = some F) (hargs : cList cArg c.args.toList = some As)
    {v : AV} {st' : St} {d : Option Nat} {ap : List XArg} (hv : callW call d false ap F As st = some (v, st')) : Goes P o a w (Left M w0 own0 st' a.tmps.toList v) := by
  haveI := I.good.toGOk
  have h1 := arg_ok I.rt hf
  have h2 := args_ok I.rt hargs
  simp only [callW, Bool.false_eq_true, if_false] at hv
  split at hv
  · rename_i g caps e
    rw [e] at h1
    obtain ⟨us, e1, hl, hus⟩ := h1.cv.fnv
    split at hv
    · rename_i hall
      split at hv
      · rename_i sub hsub
        split at hv
        · rename_i r bs hcall
          split at hv
          · rename_i hlen
            simp only [Option.some.injEq, Prod.mk.injEq] at hv
            obtain ⟨rfl, rfl⟩ := hv
            obtain ⟨hent, hC⟩ := hok _ _ _ _ _ hcall
            refine Goes.call (caps := us) ho hc e1 hent ?_
            have hK := reach_nodup st.bx 200 ((As.map (getA st.tm) ++ caps.map fun k => AV.c (.ptr k 0)).flatMap AV.keys) [] List.nodup_nil
            have hKl : ∀ k ∈ reach st.bx 200 ((As.map (getA st.tm) ++ caps.map fun k => AV.c (.ptr k 0)).flatMap AV.keys) [], k < st.bx.length := by
              intro k hk
              obtain ⟨j, hj⟩ := List.mem_iff_getElem?.1 hk
              obtain ⟨b, hb, _⟩ := (getBs_ok hsub).2 j k hj
              exact (List.getElem?_eq_some_iff.1 hb).1
            have hargsV : All2 (RA w own nm) (As.map (getA st.tm) ++ caps.map fun k => AV.c (.ptr k 0)) (c.args.toList.map a.eval ++ us) := by
              refine h2.append ⟨by simpa using hl, fun i x u hx hu => ?_⟩
              rw [List.getElem?_map] at hx
              obtain ⟨k, hk, rfl⟩ := Option.map_eq_some_iff.1 hx
              obtain ⟨g2, h3, rfl⟩ := hus i k u hk hu
              exact .of (.c (.ptr k 0 g2 h3))
            generalize reach st.bx 200 ((As.map (getA st.tm) ++ caps.map fun k => AV.c (.ptr k 0)).flatMap AV.keys) [] = K at *
            generalize (sub.flatMap Box.all).flatMap CV.ids = I0 at *
            have hfr : Weak w own nm ⟨nm.adr, spNew I0 id nm.sp⟩ (freshIds id I0) := weak_fresh rfl fun hn p i hp => spNew_get (fun _ _ h => h) hn hp
            have hfK : Weak w own nm ⟨(nmK nm K).adr, spNew I0 id nm.sp⟩ (fun x => (freshIds id I0 x).renK K) := fun x v hx => weak_renK w own _ K _ v (hfr x v hx)
            have hsh : Weak w own nm ⟨(nmK nm K).adr, spNew I0 id nm.sp⟩ (fun x => x.shutAll.renK K) := fun x v hx => weak_renK w own _ K _ v (weak_shutAll w own nm (spNew I0 id nm.sp) x v hx)
            have hno : NmOk own ⟨(nmK nm K).adr, spNew I0 id nm.sp⟩ := by
              refine ⟨fun i j g hi hj => spNew_inj I.nmok.inj hi hj, fun i g hi => ?_⟩
              obtain ⟨_, p, q, _, _, _, h5⟩ := spNew_some hi
              obtain ⟨h6, h7⟩ := I.nmok.row q g h5
              refine ⟨fun hm => h6 ?_, h7⟩
              obtain ⟨k, hk, rfl⟩ := List.mem_map.1 hm
              have := hKl k hk
              have := I.rb.len
              rw [List.getD_eq_getElem?_getD, List.getElem?_eq_getElem (by omega)]
              exact List.getElem_mem _
            refine (hC w own ⟨(nmK nm K).adr, spNew I0 id nm.sp⟩ _ I.good hno (I.rb.sub (nmC := ⟨(nmK nm K).adr, spNew I0 id nm.sp⟩) hK hKl hsub rfl hfK) (hargsV.map fun x v _ h => h.map hsh)).mono fun e w' h => ?_
            obtain ⟨v, rfl, hb⟩ := h
            refine ⟨v, rfl, ?_⟩
            have hlenC : (St.mapC (CV.shutIds I0) st).bx.length = st.bx.length := by simp [St.mapC]
            rw [hlenC]
            exact I.back (d := d) (I0 := I0) (nmC := ⟨(nmK nm K).adr, spNew I0 id nm.sp⟩) hK hKl rfl (fun j g hj => by
              obtain ⟨_, p, q, _, _, h4, h5⟩ := spNew_some hj
              exact ⟨q, List.mem_of_getElem? h4, h5⟩) hb hlen
          · cases hv
        · cases hv
      · cases hv
    · cases hv
  · cases hv
theorem callW_goes (I : Inv M w0 own0 w own nm st a.tmps.toList) {call : Oracle} (hok : OkOr P call) {c : Call} {f : Operand} {F : XArg} {As : List XArg} (ho : o.op = .call c) (hc : c.callee = .value f) (hf : cArg f = some F) (hargs : cList cArg c.args.toList = some As)
    {v : AV} {st' : St} {d : Option Nat} {fz : Bool} {ap : List XArg} (hv : callW call d fz ap F As st = some (v, st')) : Goes P o a w (Left M w0 own0 st' a.tmps.toList v) := by
  haveI := I.good.toGOk
  cases fz with
  | false => exact callW_goes' I hok ho hc hf hargs hv
  | true => exact callW_goes' (I.freeze _) hok ho hc hf hargs (d := d) (by simpa [callW] using hv)
end
end Go.Sx
