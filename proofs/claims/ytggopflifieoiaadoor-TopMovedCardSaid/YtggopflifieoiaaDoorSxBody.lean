/- Code, and functions. -/
import Derived.Test.YtggopflifieoiaaDoorSxSwap2
namespace Go.Sx
open Go
def XExit.of : XExit → Exit
  | .normal => .normal
  | .exit id => .exit id
  | .ret => .ret
section
variable {P : Program} {M : Nm} {w0 w w' : World} {own0 own own' : Own} {nm nm' : Nm} {st st' : St} {a : Act} {Q : Exit → Act → World → Prop} {call : Oracle} {tmps : List Value}
theorem Sat.same (h : Sat M w0 own0 st a w) (hh : w'.heap = w.heap) (ho : w'.os = w.os) (ht : w'.tape = w.tape) (hu : w'.output = w.output) : Sat M w0 own0 st a w' := by
  obtain ⟨hd, own, nm, I⟩ := h
  have hf : Fr (fun _ => False) w own w' own := ⟨ho, ht, hu, by rw [hh]; exact Nat.le_refl _, fun g i v hv hp => ⟨by rw [← hv]; exact World.cell?_of_block (w := w) (by rw [hh]), hp⟩, fun g _ _ => ⟨by rw [hh], rfl⟩, fun g cs T _ hb => ⟨cs, by rw [hh]; exact hb, rfl⟩⟩
  exact ⟨hd, own, nm, (I.quiet hf ⟨I.good.toGOk.keeps hf.keeps, fun g L hL => by rw [hh]; exact I.good.lt g L hL⟩).1⟩
theorem weak_trim (w : World) (own : Own) (nm : Nm) (L : Nat) : Weak w own nm ⟨nm.adr.take L, nm.sp⟩ (CV.trim L) := by
  have key : ∀ {k g : Nat}, nm.adr[k]? = some g → k < L → (nm.adr.take L)[k]? = some g := fun h hk => by rw [List.getElem?_take, if_pos hk]; exact h
  intro x v h
  cases x with
  | undef => exact .undef v
  | pv p => exact .pv h.pvv
  | own i sz es => obtain ⟨g, cap, rfl, h1, h2, h3, h4⟩ := h.ownv; exact .own i sz es g cap h1 h2 h3 h4
  | ms k off sz n =>
    obtain ⟨g, cap, rfl, h1, h2, h3, h4, h5⟩ := h.msv
    simp only [CV.trim]
    split
    · rename_i hk; exact .ms k off sz n g cap (key h1 hk) h2 h3 h4 h5
    · exact .undef _
  | ptr k o =>
    obtain ⟨g, rfl, h1⟩ := h.ptrv
    simp only [CV.trim]
    split
    · rename_i hk; exact .ptr k o g (key h1 hk)
    · exact .undef _
  | cptr l o => obtain ⟨g, q, us, rfl, h1⟩ := h.cptrv; exact .cptr l o g q us h1
  | nilp => cases h; exact .nilp
  | fn f caps =>
    obtain ⟨us, rfl, h1, h2⟩ := h.fnv
    simp only [CV.trim]
    split
    · rename_i hk
      refine .fn f caps us h1 fun i k u hi hu => ?_
      obtain ⟨g, h3, h4⟩ := h2 i k u hi hu
      exact ⟨g, key h3 (by simpa using List.all_eq_true.1 hk k (List.mem_of_getElem? hi)), h4⟩
    · exact .undef _
  | nilf => cases h; exact .nilf
  | mp k =>
    obtain ⟨g, rfl, h1⟩ := h.mpv
    simp only [CV.trim]
    split
    · rename_i hk; exact .mp k g (key h1 hk)
    · exact .undef _
  | nilm => cases h; exact .nilm
theorem trimL_ok {f : AV → Value → Prop} {L : Nat} (hu : ∀ v, f .undef v) : ∀ {m : List Bool} {tm : List AV} {us : List Value} {g : AV → Value → Prop}, (∀ a v, g a v → f (a.map (CV.trim L)) v) → All2 g tm us → All2 f (trimL m L tm) us
  | m, [], us, g, _, h => by rw [All2.of_nil h]; cases m <;> exact All2.nil
  | [], x :: tm, us, g, hg, h => by
    obtain ⟨b, m', rfl, h1, h2⟩ := All2.of_cons h
    exact All2.cons (hu b) (trimL_ok hu hg h2)
  | c :: m, x :: tm, us, g, hg, h => by
    obtain ⟨b, m', rfl, h1, h2⟩ := All2.of_cons h
    simp only [trimL]
    split
    · exact All2.cons (hg _ _ h1) (trimL_ok hu hg h2)
    · exact All2.cons (hu b) (trimL_ok hu hg h2)
theorem Inv.trim (I : Inv M w0 own0 w own nm st tmps) (m : List Bool) {L : Nat} (hL : M.adr.length ≤ L) : Inv M w0 own0 w own ⟨nm.adr.take L, nm.sp⟩ (trimSt m L st) tmps := by
  have hw := weak_trim w own nm L
  refine ⟨I.fr, I.good, ⟨I.nmok.inj, fun i g hi => ?_⟩, ⟨?_, I.rb.nodup.sublist (List.take_sublist _ _), fun g hg => I.rb.lt g (List.mem_of_mem_take hg), fun k g b hb hg => ?_⟩, ?_, fun g hg => I.mineA g (List.mem_of_mem_take hg), I.mineR, fun k g hk => ?_⟩
  · obtain ⟨h1, h2⟩ := I.nmok.row i g hi
    exact ⟨fun h => h1 (List.mem_of_mem_take h), h2⟩
  · simp [trimSt, I.rb.len]
  · simp only [trimSt] at hb
    rw [List.getElem?_map, List.getElem?_take] at hb
    change (nm.adr.take L)[k]? = some g at hg
    rw [List.getElem?_take] at hg
    split at hb
    · rename_i hk
      rw [if_pos hk] at hg
      obtain ⟨b0, h1, rfl⟩ := Option.map_eq_some_iff.1 hb
      exact (I.rb.box k g b0 h1 hg).mapB hw
    · cases hb
  · exact trimL_ok (fun v => RA.ofU v) (fun x v h => h.map hw) I.rt
  · show (nm.adr.take L)[k]? = some g
    have := (List.getElem?_eq_some_iff.1 hk).1
    rw [List.getElem?_take, if_pos (by omega)]
    exact I.ext k g hk
theorem Sat.len (h : Sat M w0 own0 st a w) : M.adr.length ≤ st.bx.length := by
  obtain ⟨_, own, nm, I⟩ := h
  rw [← I.rb.len]
  by_cases h0 : M.adr.length = 0
  · omega
  · have h1 : M.adr.length - 1 < M.adr.length := by omega
    have := (List.getElem?_eq_some_iff.1 (I.ext (M.adr.length - 1) _ (List.getElem?_eq_getElem h1))).1
    omega
theorem maskL_ok {f : AV → Value → Prop} (hu : ∀ v, f .undef v) : ∀ {m : List Bool} {tm : List AV} {us : List Value}, All2 f tm us → All2 f (maskL m tm) us
  | m, [], us, h => by rw [All2.of_nil h]; cases m <;> exact All2.nil
  | [], x :: tm, us, h => by
    obtain ⟨b, m', rfl, h1, h2⟩ := All2.of_cons h
    exact All2.cons (hu b) (maskL_ok hu h2)
  | c :: m, x :: tm, us, h => by
    obtain ⟨b, m', rfl, h1, h2⟩ := All2.of_cons h
    simp only [maskL]
    split
    · exact All2.cons h1 (maskL_ok hu h2)
    · exact All2.cons (hu b) (maskL_ok hu h2)
theorem Sat.tr (h : Sat M w0 own0 st a w) (m : List Bool) (cut : Bool) {L : Nat} (hL : M.adr.length ≤ L) : Sat M w0 own0 (trSt m cut L st) a w := by
  obtain ⟨hd, own, nm, I⟩ := h
  unfold trSt
  split
  · exact ⟨hd, own, _, I.trim m hL⟩
  · exact ⟨hd, own, nm, ⟨I.fr, I.good, I.nmok, I.rb, maskL_ok (fun v => RA.ofU v) I.rt, I.mineA, I.mineR, I.ext⟩⟩
theorem wrap_ok {call : Oracle} {n : Nat} {h : Hints} {x : XCode} {st : St} {e : XExit} {st' : St} (he : evC call n (h.wrap x) st = some (e, st')) : ∃ s, evC call n x st = some (e, s) ∧ ∀ {a : Act} {w : World}, M.adr.length ≤ st.bx.length → Sat M w0 own0 s a w → Sat M w0 own0 st' a w := by
  have same : ∀ {x' : XCode}, x' = x → evC call n x' st = some (e, st') → ∃ s, evC call n x st = some (e, s) ∧ ∀ {a : Act} {w : World}, M.adr.length ≤ st.bx.length → Sat M w0 own0 s a w → Sat M w0 own0 st' a w := fun e1 h1 => ⟨st', by rw [← e1]; exact h1, fun _ h => h⟩
  cases h with
  | tr m cut h =>
    simp only [Hints.wrap, evC] at he
    split at he
    · rename_i e' s hs
      cases he
      exact ⟨s, hs, fun hL hS => hS.tr m cut hL⟩
    · cases he
  | no => exact same rfl he
  | ops l => exact same rfl he
  | draw p l => exact same rfl he
  | two a b => exact same rfl he
  | loop m a => exact same rfl he
theorem code_ok (hok : OkOr P call) (hmo : P.follows .mixedOrders = true) : ∀ {c : Code} {h : Hints} {x : XCode}, cmpCode P c h = some x → ∀ {n : Nat} {st : St} {e : XExit} {st' : St} {Q : Exit → Act → World → Prop} {a : Act} {w : World}, evC call n x st = some (e, st') → Sat M w0 own0 st a w →
    (∀ a' w', Sat M w0 own0 st' a' w' → Q e.of a' w') → c.wp P Q a w
  | .skip, h, x, hc, n, st, e, st', Q, a, w, he, hS, hq => by
    simp only [cmpCode, Option.some.injEq] at hc; subst hc
    simp only [evC, Option.some.injEq, Prod.mk.injEq] at he
    obtain ⟨rfl, rfl⟩ := he
    exact wp_skip (hq _ _ hS)
  | .label l, h, x, hc, n, st, e, st', Q, a, w, he, hS, hq => by
    simp only [cmpCode, Option.some.injEq] at hc; subst hc
    simp only [evC, Option.some.injEq, Prod.mk.injEq] at he
    obtain ⟨rfl, rfl⟩ := he
    exact wp_label (hq _ _ hS)
  | .exit id, h, x, hc, n, st, e, st', Q, a, w, he, hS, hq => by
    simp only [cmpCode, Option.some.injEq] at hc; subst hc
    obtain ⟨s', he, hw⟩ := wrap_ok (M := M) (w0 := w0) (own0 := own0) he
    simp only [evC, Option.some.injEq, Prod.mk.injEq] at he
    obtain ⟨rfl, rfl⟩ := he
    exact wp_exit (hq _ _ (hw hS.len hS))
  | .ret, h, x, hc, n, st, e, st', Q, a, w, he, hS, hq => by
    simp only [cmpCode, Option.some.injEq] at hc; subst hc
    obtain ⟨s', he, hw⟩ := wrap_ok (M := M) (w0 := w0) (own0 := own0) he
    simp only [evC, Option.some.injEq, Prod.mk.injEq] at he
    obtain ⟨rfl, rfl⟩ := he
    exact wp_ret (hq _ _ (hw hS.len hS))
  | .region id ops draw, h, x, hc, n, st, e, st', Q, a, w, he, hS, hq => by
    simp only [cmpCode] at hc
    split at hc
    · rename_i xs hxs
      cases draw with
      | false =>
        simp only [Bool.false_eq_true, if_false, Option.some.injEq] at hc
        subst hc
        obtain ⟨s', he, hw⟩ := wrap_ok (M := M) (w0 := w0) (own0 := own0) he
        simp only [evC] at he
        obtain ⟨s, h1, h2⟩ := Option.map_eq_some_iff.1 he
        cases h2
        exact wp_region_list (ops_ok hok hxs hS h1 fun a' w' hS' => hq a' w' (hw hS.len hS'))
      | true =>
        simp only [if_true] at hc
        split at hc
        · rename_i hd
          obtain ⟨ys, hys, rfl⟩ := Option.map_eq_some_iff.1 hc
          obtain ⟨s', he, hw⟩ := wrap_ok (M := M) (w0 := w0) (own0 := own0) he
          simp only [evC] at he
          obtain ⟨s, h1, h2⟩ := Option.map_eq_some_iff.1 he
          cases h2
          exact region_any hok hmo hxs hd hys (fun w' a b c d => hS.same a b c d) h1 fun a' w' hS' => hq a' w' (hw hS.len hS')
        · cases hc
    · cases hc
  | .seq c d, h, x, hc, n, st, e, st', Q, a, w, he, hS, hq => by
    simp only [cmpCode] at hc
    split at hc
    · rename_i x1 x2 h1 h2
      cases hc
      obtain ⟨s', he, hw⟩ := wrap_ok (M := M) (w0 := w0) (own0 := own0) he
      have hq : ∀ a' w', Sat M w0 own0 s' a' w' → Q e.of a' w' := fun a' w' hS' => hq a' w' (hw hS.len hS')
      simp only [evC] at he
      split at he
      · rename_i s h3
        exact wp_seq (code_ok hok hmo h1 h3 hS fun a' w' hS' => code_ok hok hmo h2 he hS' hq)
      · rename_i hne
        refine wp_seq (code_ok hok hmo h1 he hS fun a' w' hS' => ?_)
        cases e with
        | normal => exact absurd he (hne s')
        | exit id => exact hq a' w' hS'
        | ret => exact hq a' w' hS'
    · cases hc
  | .cond C c d, h, x, hc, n, st, e, st', Q, a, w, he, hS, hq => by
    simp only [cmpCode] at hc
    split at hc
    · rename_i X x1 x2 h0 h1 h2
      cases hc
      obtain ⟨s', he, hw⟩ := wrap_ok (M := M) (w0 := w0) (own0 := own0) he
      have hq : ∀ a' w', Sat M w0 own0 s' a' w' → Q e.of a' w' := fun a' w' hS' => hq a' w' (hw hS.len hS')
      simp only [evC] at he
      split at he
      · rename_i t ht
        obtain ⟨hd, own, nm, I⟩ := hS
        haveI := I.good.toGOk
        have hb := arg_ok I.rt h0
        rw [ht] at hb
        refine wp_cond hb.bool ?_
        cases t with
        | true => exact code_ok hok hmo h1 he ⟨hd, own, nm, I⟩ hq
        | false => exact code_ok hok hmo h2 he ⟨hd, own, nm, I⟩ hq
      · cases he
    · cases hc
  | .block id c, h, x, hc, n, st, e, st', Q, a, w, he, hS, hq => by
    simp only [cmpCode] at hc
    obtain ⟨x1, h1, rfl⟩ := Option.map_eq_some_iff.1 hc
    obtain ⟨s', he, hw⟩ := wrap_ok (M := M) (w0 := w0) (own0 := own0) he
    have hq : ∀ a' w', Sat M w0 own0 s' a' w' → Q e.of a' w' := fun a' w' hS' => hq a' w' (hw hS.len hS')
    simp only [evC] at he
    refine wp_block ?_
    split at he
    · rename_i j s h2
      split at he
      · rename_i hj
        cases he
        exact code_ok hok hmo h1 h2 hS fun a' w' hS' => by
          simp only [XExit.of, Exit.inBlock, hj, if_true]; exact hq a' w' hS'
      · rename_i hj
        cases he
        exact code_ok hok hmo h1 h2 hS fun a' w' hS' => by
          simp only [XExit.of, Exit.inBlock, hj, if_false]; exact hq a' w' hS'
    · rename_i hne
      refine code_ok hok hmo h1 he hS fun a' w' hS' => ?_
      cases e with
      | normal => exact hq a' w' hS'
      | exit id => exact absurd he (hne id s')
      | ret => exact hq a' w' hS'
  | .loop c, h, x, hc, n, st, e, st', Q, a, w, he, hS, hq => by
    simp only [cmpCode] at hc
    obtain ⟨x1, h1, rfl⟩ := Option.map_eq_some_iff.1 hc
    obtain ⟨s', he, hw⟩ := wrap_ok (M := M) (w0 := w0) (own0 := own0) he
    have hq : ∀ a' w', Sat M w0 own0 s' a' w' → Q e.of a' w' := fun a' w' hS' => hq a' w' (hw hS.len hS')
    simp only [evC] at he
    have hlen := hS.len
    generalize hLe : st.bx.length = L at he hlen
    have rounds : ∀ (k : Nat) (st : St) (a : Act) (w : World), Sat M w0 own0 st a w → evL (evC call n x1) h.under.mask L k st = some (e, s') → Code.rounds P c Q k a w := by
      intro k
      induction k with
      | zero => intro st a w _ he; simp [evL] at he
      | succ k ih =>
        intro st a w hS he
        have hS' : Sat M w0 own0 (trimSt h.under.mask L st) a w := by
          obtain ⟨hd, own, nm, I⟩ := hS
          exact ⟨hd, own, _, I.trim h.under.mask hlen⟩
        rw [rounds_succ]
        simp only [evL] at he
        split at he
        · rename_i s h2
          exact code_ok hok hmo h1 h2 hS' fun a' w' hS'' => ih s a' w' hS'' he
        · rename_i hne
          refine code_ok hok hmo h1 he hS' fun a' w' hS'' => ?_
          cases e with
          | normal => exact absurd he (hne s')
          | exit id => exact hq a' w' hS''
          | ret => exact hq a' w' hS''
    exact wp_loop_rounds n (rounds n st a w hS he)
  | .scope c, h, x, hc, n, st, e, st', Q, a, w, he, hS, hq => by
    simp only [cmpCode] at hc
    obtain ⟨x1, h1, rfl⟩ := Option.map_eq_some_iff.1 hc
    obtain ⟨s', he, hw⟩ := wrap_ok (M := M) (w0 := w0) (own0 := own0) he
    have hq : ∀ a' w', Sat M w0 own0 s' a' w' → Q e.of a' w' := fun a' w' hS' => hq a' w' (hw hS.len hS')
    simp only [evC] at he
    refine wp_scope_straight (code_ok hok hmo h1 he hS fun a' w' hS' => ?_)
    cases e <;> exact hq a' w' hS'
  | .rangeFunc _ _ _ _, h, x, hc, _, _, _, _, _, _, _, _, _, _ => by simp [cmpCode] at hc
  | .goto _, h, x, hc, _, _, _, _, _, _, _, _, _, _ => by simp [cmpCode] at hc
  | .refuse _, h, x, hc, _, _, _, _, _, _, _, _, _, _ => by simp [cmpCode] at hc
end
end Go.Sx
