/- Code, and functions. -/
import Derived.Test.YtplknajjcllmkaaDoorSxAny
namespace Go.Sx
open Go
def XExit.of : XExit → Exit
  | .normal => .normal
  | .exit id => .exit id
  | .ret => .ret
section
variable {P : Program} {M : Nm} {w0 w w' : World} {own0 own own' : Own} {nm nm' : Nm} {st st' : St} {a : Act} {Q : Exit → Act → World → Prop} {call : Oracle} {tmps : List Value}
theorem Sat.same (h : Sat M w0 own0 st a w) (hh : w'.heap = w.heap) (ho : w'.os = w.os) (ht : w'.tape = w.tape) (hu : w'.output = w.output) : Sat M w0 own0 st a w' := by
  obtain ⟨hd, own, nm, I⟩ := h
  have hf : Fr (fun _ => False) w own w' own := ⟨ho, ht, hu, by rw [hh]; exact Nat.le_refl _, fun g i v hv hp => ⟨by rw [← hv]; exact World.cell?_of_block (w := w) (by rw [hh]), hp⟩, fun g _ _ => ⟨by rw [hh], rfl⟩, fun g cs T _ hb => ⟨cs, by rw [hh]; exact hb, rfl⟩⟩
  exact ⟨hd, own, nm, (I.quiet hf ⟨I.good.toGOk.keeps hf.keeps, fun g L hL => by rw [hh]; exact I.good.lt g L hL⟩).1⟩
theorem weak_trim (w : World) (own : Own) (nm : Nm) (L : Nat) : Weak w own nm ⟨nm.adr.take L, nm.sp⟩ (CV.trim L) := by
  have key : ∀ {k g : Nat}, nm.adr[k]? = some g → k < L → (nm.adr.take L)[k]? = some g := fun h hk => by rw [List.getElem?_take, if_pos hk]; exact h
  intro x v h
  cases x with
  | undef => exact .undef v
  | pv p => exact .pv h.pvv
  | own i sz es => obtain ⟨g, cap, rfl, h1, h2, h3, h4⟩ := h.ownv; exact .own i sz es g cap h1 h2 h3 h4
  | ms k off sz n =>
    obtain ⟨g, cap, rfl, h1, h2, h3, h4, h5⟩ := h.msv
    simp only [CV.trim]
    split
    · rename_i hk; exact .ms k off sz n g cap (key h1 hk) h2 h3 h4 h5
    · exact .undef _
  | ptr k o =>
    obtain ⟨g, rfl, h1⟩ := h.ptrv
    simp only [CV.trim]
    split
    · rename_i hk; exact .ptr k o g (key h1 hk)
    · exact .undef _
  | cptr l o => obtain ⟨g, q, us, rfl, h1⟩ := h.cptrv; exact .cptr l o g q us h1
  | nilp => cases h; exact .nilp
  | fn f caps =>
    obtain ⟨us, rfl, h1, h2⟩ := h.fnv
    simp only [CV.trim]
    split
    · rename_i hk
      refine .fn f caps us h1 fun i k u hi hu => ?_
      obtain ⟨g, h3, h4⟩ := h2 i k u hi hu
      exact ⟨g, key h3 (by simpa using List.all_eq_true.1 hk k (List.mem_of_getElem? hi)), h4⟩
    · exact .undef _
  | nilf => cases h; exact .nilf
  | mp k =>
    obtain ⟨g, rfl, h1⟩ := h.mpv
    simp only [CV.trim]
    split
    · rename_i hk; exact .mp k g (key h1 hk)
    · exact .undef _
  | nilm => cases h; exact .nilm
theorem trimL_ok {f : AV → Value → Prop} {L : Nat} (hu : ∀ v, f .undef v) : ∀ {m : List Bool} {tm : List AV} {us : List Value} {g : AV → Value → Prop}, (∀ a v, g a v → f (a.map (CV.trim L)) v) → All2 g tm us → All2 f (trimL m L tm) us
  | m, [], us, g, _, h => by rw [All2.of_nil h]; cases m <;> exact All2.nil
  | [], x :: tm, us, g, hg, h => by
    obtain ⟨b, m', rfl, h1, h2⟩ := All2.of_cons h
    exact All2.cons (hu b) (trimL_ok hu hg h2)
  | c :: m, x :: tm, us, g, hg, h => by
    obtain ⟨b, m', rfl, h1, h2⟩ := All2.of_cons h
    simp only [trimL]
    split
    · exact All2.cons (hg _ _ h1) (trimL_ok hu hg h2)
    · exact All2.cons (hu b) (trimL_ok hu hg h2)
theorem Inv.trim (I : Inv M w0 own0 w own nm st tmps) (m : List Bool) {L : Nat} (hL : M.adr.length ≤ L) : Inv M w0 own0 w own ⟨nm.adr.take L, nm.sp⟩ (trimSt m L st) tmps := by
  have hw := weak_trim w own nm L
  refine ⟨I.fr, I.good, ⟨I.nmok.inj, fun i g hi => ?_⟩, ⟨?_, I.rb.nodup.sublist (List.take_sublist _ _), fun g hg => I.rb.lt g (List.mem_of_mem_take hg), fun k g b hb hg => ?_⟩, ?_, fun g hg => I.mineA g (List.mem_of_mem_take hg), I.mineR, fun k g hk => ?_⟩
  · obtain ⟨h1, h2⟩ := I.nmok.row i g hi
    exact ⟨fun h => h1 (List.mem_of_mem_take h), h2⟩
  · simp [trimSt, I.rb.len]
  · simp only [trimSt] at hb
    rw [List.getElem?_map, List.getElem?_take] at hb
    change (nm.adr.take L)[k]? = some g at hg
    rw [List.getElem?_take] at hg
    split at hb
    · rename_i hk
      rw [if_pos hk] at hg
      obtain ⟨b0, h1, rfl⟩ := Option.map_eq_some_iff.1 hb
      exact (I.rb.box k g b0 h1 hg).mapB hw
    · cases hb
  · exact trimL_ok (fun v => RA.ofU v) (fun x v h => h.map hw) I.rt
  · show (nm.adr.take L)[k]? = some g
    have := (List.getElem?_eq_some_iff.1 hk).1
    rw [List.getElem?_take, if_pos (by omega)]
    exact I.ext k g hk
theorem Sat.len (h : Sat M w0 own0 st a w) : M.adr.length ≤ st.bx.length := by
  obtain ⟨_, own, nm, I⟩ := h
  rw [← I.rb.len]
  by_cases h0 : M.adr.length = 0
  · omega
  · have h1 : M.adr.length - 1 < M.adr.length := by omega
    have := (List.getElem?_eq_some_iff.1 (I.ext (M.adr.length - 1) _ (List.getElem?_eq_getElem h1))).1
    omega
theorem maskL_ok {f : AV → Value → Prop} (hu : ∀ v, f .undef v) : ∀ {m : List Bool} {tm : List AV} {us : List Value}, All2 f tm us → All2 f (maskL m tm) us
  | m, [], us, h => by rw [All2.of_nil h]; cases m <;> exact All2.nil
  | [], x :: tm, us, h => by
    obtain ⟨b, m', rfl, h1, h2⟩ := All2.of_cons h
    exact All2.cons (hu b) (maskL_ok hu h2)
  | c :: m, x :: tm, us, h => by
    obtain ⟨b, m', rfl, h1, h2⟩ := All2.of_cons h
    simp only [maskL]
    split
    · exact All2.cons h1 (maskL_ok hu h2)
    · exact All2.cons (hu b) (maskL_ok hu h2)
theorem Sat.tr (h : Sat M w0 own0 st a w) (m : List Bool) (cut : Bool) {L : Nat} (hL : M.adr.length ≤ L) : Sat M w0 own0 (trSt m cut L st) a w := by
  obtain ⟨hd, own, nm, I⟩ := h
  unfold trSt
  split
  · exact ⟨hd, own, _, I.trim m hL⟩
  · exact ⟨hd, own, nm, ⟨I.fr, I.good, I.nmok, I.rb, maskL_ok (fun v => RA.ofU v) I.rt, I.mineA, I.mineR, I.ext⟩⟩
theorem wrap_ok {call : Oracle} {n : Nat} {h : Hints} {x : XCode} {st : St} {e : XExit} {st' : St} (he : evC call n (h.wrap x) st = some (e, st')) : ∃ s, evC call n x st = some (e, s) ∧ ∀ {a : Act} {w : World}, M.adr.length ≤ st.bx.length → Sat M w0 own0 s a w → Sat M w0 own0 st' a w := by
  have same : ∀ {x' : XCode}, x' = x → evC call n x' st = some (e, st') → ∃ s, evC call n x st = some (e, s) ∧ ∀ {a : Act} {w : World}, M.adr.length ≤ st.bx.length → Sat M w0 own0 s a w → Sat M w0 own0 st' a w := fun e1 h1 => ⟨st', by rw [← e1]; exact h1, fun _ h => h⟩
  cases h with
  | tr m cut h =>
    simp only [Hints.wrap, evC] at he
    split at he
    · rename_i e' s hs
      cases he
      exact ⟨s, hs, fun hL hS => hS.tr m cut hL⟩
    · cases he
  | no => exact same rfl he
  | ops l => exact same rfl he
  | draw p l => exact same rfl he
  | two a b => exact same rfl he
  | loop m a => exact same rfl he
theorem code_ok (hok : OkOr P call) (hmo : P.follows .mixedOrders = true) : ∀ {c : Code} {h : Hints} {x : XCode}, cmpCode P c h = some x → ∀ {n : Nat} {st : St} {e : XExit} {st' : St} {Q : Exit → Act → World → Prop} {a : Act} {w : World}, evC call n x st = some (e, st') → Sat M w0 own0 st a w →
    (∀ a' w', Sat M w0 own0 st' a' w' → Q e.of a' w') → c.wp P Q a w
  | .skip, h, x, hc, n, st, e, st', Q, a, w, he, hS, hq => by
    simp only [cmpCode, Option.some.injEq] at hc; subst hc
    simp only [evC, Option.some.injEq, Prod.mk.injEq] at he
    obtain ⟨rfl, rfl⟩ := he
    exact wp_skip (hq _ _ hS)
  | .label l, h, x, hc, n, st, e, st', Q, a, w, he, hS, hq => by
    simp only [cmpCode, Option.some.injEq] at hc; subst hc
    simp only [evC, Option.some.injEq, Prod.mk.injEq] at he
    obtain ⟨rfl, rfl⟩ := he
    exact wp_label (hq _ _ hS)
  | .exit id, h, x, hc, n, st, e, st', Q, a, w, he, hS, hq => by
    simp only [cmpCode, Option.some.injEq] at hc; subst hc
    obtain ⟨s', he, hw⟩ := wrap_ok (M := M) (w0 := w0) (own0 := own0) he
    simp only [evC, Option.some.injEq, Prod.mk.injEq] at he
    obtain ⟨rfl, rfl⟩ := he
    exact wp_exit (hq _ _ (hw hS.len hS))
  | .ret, h, x, hc, n, st, e, st', Q, a, w, he, hS, hq => by
    simp only [cmpCode, Option.some.injEq] at hc; subst hc
    obtain ⟨s', he, hw⟩ := wrap_ok (M := M) (w0 := w0) (own0 := own0) he
    simp only [evC, Option.some.injEq, Prod.mk.injEq] at he
    obtain ⟨rfl, rfl⟩ := he
    exact wp_ret (hq _ _ (hw hS.len hS))
  | .region id ops draw, h, x, hc, n, st, e, st', Q, a, w, he, hS, hq => by
    simp only [cmpCode] at hc
    split at hc
    · rename_i xs hxs
      cases draw with
      | false =>
        simp only [Bool.false_eq_true, if_false, Option.some.injEq] at hc
        subst hc
        obtain ⟨s', he, hw⟩ := wrap_ok (M := M) (w0 := w0) (own0 := own0) he
        simp only [evC] at he
        obtain ⟨s, h1, h2⟩ := Option.map_eq_some_iff.1 he
        cases h2
        exact wp_region_list (ops_ok hok hxs hS h1 fun a' w' hS' => hq a' w' (hw hS.len hS'))
      | true =>
        simp only [if_true] at hc
        split at hc
        · rename_i hd
          obtain ⟨ys, hys, rfl⟩ := Option.map_eq_some_iff.1 hc
          obtain ⟨s', he, hw⟩ := wrap_ok (M := M) (w0 := w0) (own0 := own0) he
          simp only [evC] at he
          obtain ⟨s, h1, h2⟩ := Option.map_eq_some_iff.1 he
          cases h2
          exact region_any hok hmo hxs hd hys (fun w' a b c d => hS.same a b c d) h1 fun a' w' hS' => hq a' w' (hw hS.len hS')
        · cases hc
    · cases hc
  | .seq c d, h, x, hc, n, st, e, st', Q, a, w, he, hS, hq => by
    simp only [cmpCode] at hc
    split at hc
    · rename_i x1 x2 h1 h2
      cases hc
      obtain ⟨s', he, hw⟩ := wrap_ok (M := M) (w0 := w0) (own0 := own0) he
      have hq : ∀ a' w', Sat M w0 own0 s' a' w' → Q e.of a' w' := fun a' w' hS' => hq a' w' (hw hS.len hS')
      simp only [evC] at he
      split at he
      · rename_i s h3
        exact wp_seq (code_ok hok hmo h1 h3 hS fun a' w' hS' => code_ok hok hmo h2 he hS' hq)
      · rename_i hne
        refine wp_seq (code_ok hok hmo h1 he hS fun a' w' hS' => ?_)
        cases e with
        | normal => exact absurd he (hne s')
        | exit id => exact hq a' w' hS'
        | ret => exact hq a' w' hS'
    · cases hc
  | .cond C c d, h, x, hc, n, st, e, st', Q, a, w, he, hS, hq => by
    simp only [cmpCode] at hc
    split at hc
    · rename_i X x1 x2 h0 h1 h2
      cases hc
      obtain ⟨s', he, hw⟩ := wrap_ok (M := M) (w0 := w0) (own0 := own0) he
      have hq : ∀ a' w', Sat M w0 own0 s' a' w' → Q e.of a' w' := fun a' w' hS' => hq a' w' (hw hS.len hS')
      simp only [evC] at he
      split at he
      · rename_i t ht
        obtain ⟨hd, own, nm, I⟩ := hS
        haveI := I.good.toGOk
        have hb := arg_ok I.rt h0
        rw [ht] at hb
        refine wp_cond hb.bool ?_
        cases t with
        | true => exact code_ok hok hmo h1 he ⟨hd, own, nm, I⟩ hq
        | false => exact code_ok hok hmo h2 he ⟨hd, own, nm, I⟩ hq
      · cases he
    · cases hc
  | .block id c, h, x, hc, n, st, e, st', Q, a, w, he, hS, hq => by
    simp only [cmpCode] at hc
    obtain ⟨x1, h1, rfl⟩ := Option.map_eq_some_iff.1 hc
    obtain ⟨s', he, hw⟩ := wrap_ok (M := M) (w0 := w0) (own0 := own0) he
    have hq : ∀ a' w', Sat M w0 own0 s' a' w' → Q e.of a' w' := fun a' w' hS' => hq a' w' (hw hS.len hS')
    simp only [evC] at he
    refine wp_block ?_
    split at he
    · rename_i j s h2
      split at he
      · rename_i hj
        cases he
        exact code_ok hok hmo h1 h2 hS fun a' w' hS' => by
          simp only [XExit.of, Exit.inBlock, hj, if_true]; exact hq a' w' hS'
      · rename_i hj
        cases he
        exact code_ok hok hmo h1 h2 hS fun a' w' hS' => by
          simp only [XExit.of, Exit.inBlock, hj, if_false]; exact hq a' w' hS'
    · rename_i hne
      refine code_ok hok hmo h1 he hS fun a' w' hS' => ?_
      cases e with
      | normal => exact hq a' w' hS'
      | exit id => exact absurd he (hne id s')
      | ret => exact hq a' w' hS'
  | .loop c, h, x, hc, n, st, e, st', Q, a, w, he, hS, hq => by
    simp only [cmpCode] at hc
    obtain ⟨x1, h1, rfl⟩ := Option.map_eq_some_iff.1 hc
    obtain ⟨s', he, hw⟩ := wrap_ok (M := M) (w0 := w0) (own0 := own0) he
    have hq : ∀ a' w', Sat M w0 own0 s' a' w' → Q e.of a' w' := fun a' w' hS' => hq a' w' (hw hS.len hS')
    simp only [evC] at he
    have hlen := hS.len
    generalize hLe : st.bx.length = L at he hlen
    have rounds : ∀ (k : Nat) (st : St) (a : Act) (w : World), Sat M w0 own0 st a w → evL (evC call n x1) h.under.mask L k st = some (e, s') → Code.rounds P c Q k a w := by
      intro k
      induction k with
      | zero => intro st a w _ he; simp [evL] at he
      | succ k ih =>
        intro st a w hS he
        have hS' : Sat M w0 own0 (trimSt h.under.mask L st) a w := by
          obtain ⟨hd, own, nm, I⟩ := hS
          exact ⟨hd, own, _, I.trim h.under.mask hlen⟩
        rw [rounds_succ]
        simp only [evL] at he
        split at he
        · rename_i s h2
          exact code_ok hok hmo h1 h2 hS' fun a' w' hS'' => ih s a' w' hS'' he
        · rename_i hne
          refine code_ok hok hmo h1 he hS' fun a' w' hS'' => ?_
          cases e with
          | normal => exact absurd he (hne s')
          | exit id => exact hq a' w' hS''
          | ret => exact hq a' w' hS''
    exact wp_loop_rounds n (rounds n st a w hS he)
  | .scope c, h, x, hc, n, st, e, st', Q, a, w, he, hS, hq => by
    simp only [cmpCode] at hc
    obtain ⟨x1, h1, rfl⟩ := Option.map_eq_some_iff.1 hc
    obtain ⟨s', he, hw⟩ := wrap_ok (M := M) (w0 := w0) (own0 := own0) he
    have hq : ∀ a' w', Sat M w0 own0 s' a' w' → Q e.of a' w' := fun a' w' hS' => hq a' w' (hw hS.len hS')
    simp only [evC] at he
    refine wp_scope_straight (code_ok hok hmo h1 he hS fun a' w' hS' => ?_)
    cases e <;> exact hq a' w' hS'
  | .rangeFunc _ _ _ _, h, x, hc, _, _, _, _, _, _, _, _, _, _ => by simp [cmpCode] at hc
  | .goto _, h, x, hc, _, _, _, _, _, _, _, _, _, _ => by simp [cmpCode] at hc
  | .refuse _, h, x, hc, _, _, _, _, _, _, _, _, _, _ => by simp [cmpCode] at hc
end
end Go.Sx
/- Functions. -/
namespace Go.Sx
open Go
section
variable {P : Program} {M : Nm} {w0 w w' : World} {own0 own own' : Own} {nm nm' : Nm} {st st' : St} {a : Act} {call : Oracle} {tmps : List Value}
theorem RA.getD (h : All2 (RA w own nm) st.tm a.tmps.toList) (t : Nat) : RA w own nm (st.tm.getD t .undef) (a.tmps.getD t undef) := tmp_ok h t
def resOf (tmps : Array Value) : ResultVar → Sem Value
  | .tmp t => pure (tmps.getD t undef)
  | .cell a t => do loadVar t (← asAddr (tmps.getD a undef))
theorem results_eq (fn : Func) (tmps : Array Value) : results fn tmps = (do let vs ← fn.results.mapM (resOf tmps); pure (if h : vs.size = 1 then vs[0] else .tuple vs)) := by
  rfl
theorem res_ok (I : Inv M w0 own0 w own nm st a.tmps.toList) : ∀ {l : List ResultVar} {rs : List XRes} {vs : List AV}, cmpRes P l = some rs → getRes st rs = some vs → ∃ us : List Value, (l.mapM (resOf a.tmps) : Sem (List Value)).run P w = .ok us w ∧ All2 (RA w own nm) vs us
  | [], rs, vs, hc, hg => by
    simp only [cmpRes, Option.some.injEq] at hc; subst hc
    simp only [getRes, Option.some.injEq] at hg; subst hg
    exact ⟨[], rfl, All2.nil⟩
  | .tmp t :: l, rs, vs, hc, hg => by
    simp only [cmpRes] at hc
    obtain ⟨rs', h1, rfl⟩ := Option.map_eq_some_iff.1 hc
    simp only [getRes] at hg
    split at hg
    · rename_i l' h2
      cases hg
      obtain ⟨us, h3, h4⟩ := res_ok I h1 h2
      refine ⟨_ :: us, ?_, All2.cons (RA.getD I.rt t) h4⟩
      simp only [List.mapM_cons, Sem.run_bind, resOf, Sem.run_pure, Result.andThen_ok, h3]
    · cases hg
  | .cell t ty :: l, rs, vs, hc, hg => by
    simp only [cmpRes] at hc
    split at hc
    · rename_i rs' ag n h1 hag hn
      cases hc
      simp only [getRes] at hg
      have h0 := RA.getD I.rt t
      split at hg
      · rename_i l' k off h2 e
        rw [e] at h0
        obtain ⟨g, hv, hk⟩ := h0.cv.ptrv
        split at hg
        · rename_i cs hb
          split at hg
          · rename_i q hq
            obtain ⟨us, h3, h4⟩ := res_ok I h1 h2
            cases I.rb.box k g _ hb hk with
            | cells _ _ bu ex T hh ho hr =>
              obtain ⟨_, hh, _⟩ := hh
              obtain ⟨h5, h6⟩ := takeB_ok hh hr _ _ _ hq
              obtain ⟨r, h7, h8, h9⟩ := load_ok (P := P) hag hn h6 rfl h5
              have h7' : (loadVar ty ⟨g, off, none⟩).run P w = .ok r w := by simpa [Instr.loadAt, Instr.sureAddr] using h7
              have hrun : (((ResultVar.cell t ty) :: l).mapM (resOf a.tmps) : Sem (List Value)).run P w = .ok (r :: us) w := by
                simp only [List.mapM_cons, Sem.run_bind, resOf, hv, asAddr, Sem.run_pure, Result.andThen_ok, h7', h3]
              cases ag with
              | true =>
                simp only [if_true, Option.some.injEq] at hg
                subst hg
                exact ⟨r :: us, hrun, All2.cons (h8 rfl) h4⟩
              | false =>
                simp only [Bool.false_eq_true, if_false] at hg
                split at hg
                · rename_i x
                  cases hg
                  exact ⟨r :: us, hrun, All2.cons (h9 rfl x rfl) h4⟩
                · cases hg
          · cases hg
        · cases hg
      · cases hg
    · cases hc
theorem pack_ok {vs : List AV} {us : List Value} (h : All2 (RA w own nm) vs us) (hn : vs.all noTup = true) : RA w own nm (packRes vs) (if h : us.toArray.size = 1 then us.toArray[0] else .tuple us.toArray) := by
  have h0 : All2 (RA0 w own nm) vs us := ⟨h.1, fun i a b ha hb => (h.2 i a b ha hb).noTup (List.all_eq_true.1 hn a (List.mem_of_getElem? ha))⟩
  match vs, us, h, h0 with
  | [], us, h, _ => rw [All2.of_nil h]; exact .tup [] [] All2.nil
  | [v], us, h, _ =>
    obtain ⟨u, us', rfl, h1, h2⟩ := All2.of_cons h
    rw [All2.of_nil h2]
    exact h1
  | v :: v' :: vs, us, h, h0 =>
    have hl : us.toArray.size ≠ 1 := by have := h.1; simp at this ⊢; omega
    rw [dif_neg hl]
    exact .tup _ us h0
theorem RC.take {x : CV} {v : Value} (h : RC w own nm x v) {m : Nat} (hk : ∀ k ∈ x.keys, k < m) : RC w own ⟨nm.adr.take m, nm.sp⟩ x v := by
  have key : ∀ {k g : Nat}, k ∈ x.keys → nm.adr[k]? = some g → (nm.adr.take m)[k]? = some g := fun h1 h2 => by rw [List.getElem?_take, if_pos (hk _ h1)]; exact h2
  cases h with
  | undef v => exact .undef v
  | pv h => exact .pv h
  | own i sz es g cap h1 h2 h3 h4 => exact .own i sz es g cap h1 h2 h3 h4
  | ms k o s n g cap a b c d e => exact .ms k o s n g cap (key (by simp [CV.keys]) a) b c d e
  | ptr k o g a => exact .ptr k o g (key (by simp [CV.keys]) a)
  | cptr l o g o' us a => exact .cptr l o g o' us a
  | nilp => exact .nilp
  | fn f caps us a b =>
    refine .fn f caps us a fun i k u hi hu => ?_
    obtain ⟨g, h1, h2⟩ := b i k u hi hu
    exact ⟨g, key (by simp only [CV.keys]; exact List.mem_of_getElem? hi) h1, h2⟩
  | nilf => exact .nilf
  | mp k g a => exact .mp k g (key (by simp [CV.keys]) a)
  | nilm => exact .nilm
theorem freeze_keys (bx : List Box) (m : Nat) (x : CV) : ∀ k ∈ (x.freeze bx fun k => decide (m ≤ k)).keys, k < m := by
  intro k hk
  cases x with
  | ms j o s n =>
    simp only [CV.freeze] at hk
    split at hk
    · split at hk <;> simp [CV.keys] at hk
    · rename_i h; simp [CV.keys] at hk; simp at h; omega
  | ptr j o =>
    simp only [CV.freeze] at hk
    split at hk
    · simp [CV.keys] at hk
    · rename_i h; simp [CV.keys] at hk; simp at h; omega
  | mp j =>
    simp only [CV.freeze] at hk
    split at hk
    · simp [CV.keys] at hk
    · rename_i h; simp [CV.keys] at hk; simp at h; omega
  | fn f caps =>
    simp only [CV.freeze] at hk
    split at hk
    · simp [CV.keys] at hk
    · rename_i h
      simp only [CV.keys] at hk
      simp only [List.any_eq_true, decide_eq_true_eq, not_exists, not_and] at h
      have := h k hk
      omega
  | _ => simp [CV.freeze, CV.keys] at hk
theorem leave_ok {m : Nat} (I : Inv M w0 own0 w own nm st tmps) {r : AV} {v : Value} (hr : RA w own nm r v) (hn : M.adr.length = m) : Back w0 own0 M (leave m r st.bx).1 (leave m r st.bx).2 v w := by
  unfold leave
  split
  · exact ⟨own, nm, I.fr, I.good, I.nmok, I.rb, hr, I.ext, I.mineA, I.mineR⟩
  · have hk := keepsFz w own nm fun k => decide (m ≤ k)
    have hw : Weak2 w own nm w (ownFz own nm fun k => decide (m ≤ k)) ⟨nm.adr.take m, nm.sp⟩ (CV.freeze st.bx fun k => decide (m ≤ k)) := fun x v hx => (weak_freeze I.nmok I.rb (fun k => decide (m ≤ k)) x v hx).take (freeze_keys _ _ _)
    refine ⟨ownFz own nm fun k => decide (m ≤ k), ⟨nm.adr.take m, nm.sp⟩, ⟨I.fr.os, I.fr.tape, I.fr.output, I.fr.size, I.fr.keeps.trans hk, fun g hlt hm => ?_, I.fr.sizes⟩, ⟨I.good.toGOk.keeps hk, fun g L h => I.good.lt g L (ownFz_le _ h)⟩, ⟨I.nmok.inj, fun i g hi => ?_⟩,
      ⟨?_, I.rb.nodup.sublist (List.take_sublist _ _), fun g hg => I.rb.lt g (List.mem_of_mem_take hg), fun k g b hb hg => ?_⟩, hr.map2 hw, fun k g hk => ?_, fun g hg => I.mineA g (List.mem_of_mem_take hg), I.mineR⟩
    · obtain ⟨h1, h2⟩ := I.fr.old g hlt hm
      refine ⟨h1, ?_⟩
      rw [ownFz_out]
      · exact h2
      · intro hg
        rcases I.mineA g hg with h | h
        · exact hm (.inl h)
        · omega
    · obtain ⟨h1, h2⟩ := I.nmok.row i g hi
      exact ⟨fun h => h1 (List.mem_of_mem_take h), by rw [ownFz_out _ h1]; exact h2⟩
    · simp [I.rb.len]
    · rw [List.getElem?_map, List.getElem?_take] at hb
      change (nm.adr.take m)[k]? = some g at hg
      rw [List.getElem?_take] at hg
      split at hb
      · rename_i hkm
        rw [if_pos hkm] at hg
        obtain ⟨b0, h1, rfl⟩ := Option.map_eq_some_iff.1 hb
        exact (I.rb.box k g b0 h1 hg).map2 hw hk rfl (ownFz_not _ I.rb.nodup hg (by simp; omega))
      · cases hb
    · show (nm.adr.take m)[k]? = some g
      have := (List.getElem?_eq_some_iff.1 hk).1
      rw [List.getElem?_take, if_pos (by omega)]
      exact I.ext k g hk
theorem fun_ok (hok : OkOr P call) (hmo : P.follows .mixedOrders = true) {f : Nat} {h : Hints} {x : XFunc} (hc : cmpFunc P f h = some x) {n : Nat} {args : List AV} {bx : List Box} {r : AV} {bx' : List Box} (he : runF call n x args bx = some (r, bx')) : CallOk P f args bx r bx' := by
  simp only [cmpFunc] at hc
  split at hc
  · rename_i fn hf
    split at hc
    · rename_i c hb
      split at hc
      · cases hc
      · rename_i hname
        split at hc
        · rename_i xc rs hxc hrs
          cases hc
          refine ⟨⟨fn, hf, by rw [hb]; rfl, by simpa using hname⟩, fun w own nm vals hg hno hrb hargs => ?_⟩
          refine calls_of_wp hf hb ?_
          have I0 : Inv nm w own w own nm ⟨args ++ List.replicate (fn.ntmps - args.length) .undef, bx⟩ (vals.toArray ++ Array.replicate (fn.ntmps - vals.toArray.size) undef).toList := by
            refine ⟨Fr.refl _ _ _, hg, hno, hrb, ?_, fun g hg => .inl hg, fun i g hi => .inl ⟨i, hi⟩, fun k g hk => hk⟩
            simp only [Array.toList_append, Array.toList_replicate, List.size_toArray]
            refine hargs.append ⟨by simp [hargs.1], fun i x v hx _ => ?_⟩
            have := (List.mem_replicate.1 (List.mem_of_getElem? hx)).2
            subst this
            exact RA.ofU v
          simp only [runF] at he
          have fin : ∀ {e : XExit} {st' : St}, evC call n xc ⟨args ++ List.replicate (fn.ntmps - args.length) .undef, bx⟩ = some (e, st') → (∀ id, e ≠ .exit id) → (match getRes st' rs with
              | some vs => if (vs.all noTup) = true then some (leave bx.length (packRes vs) st'.bx) else none
              | none => none) = some (r, bx') → c.wp P (bodyPost P fn fun e w' => ∃ v, e = .returned v ∧ Back w own nm r bx' v w') { tmps := vals.toArray ++ Array.replicate (fn.ntmps - vals.toArray.size) undef, defers := [] } w := by
            intro e st' h1 hne h2
            refine code_ok hok hmo hxc h1 ⟨rfl, own, nm, I0⟩ fun a' w' hS => ?_
            obtain ⟨hd, own', nm', I⟩ := hS
            split at h2
            · rename_i vs hvs
              split at h2
              · rename_i hnt
                obtain ⟨us, h3, h4⟩ := res_ok I hrs hvs
                have hrun : (results fn a'.tmps).run P w' = .ok (if h : us.toArray.size = 1 then us.toArray[0] else .tuple us.toArray) w' := by
                  rw [results_eq, Array.mapM_eq_mapM_toList]
                  simp only [Sem.run_bind, Sem.run_map, h3, Result.andThen_ok, Sem.run_pure]
                have hback := leave_ok I (pack_ok h4 hnt) (m := bx.length) hrb.len
                have e1 : (leave bx.length (packRes vs) st'.bx).1 = r := by rw [Option.some.inj h2]
                have e2 : (leave bx.length (packRes vs) st'.bx).2 = bx' := by rw [Option.some.inj h2]
                rw [e1, e2] at hback
                cases e with
                | normal => exact ⟨hd, _, hrun, _, rfl, hback⟩
                | exit id => exact absurd rfl (hne id)
                | ret => exact ⟨hd, _, hrun, _, rfl, hback⟩
              · cases h2
            · cases h2
          split at he
          · cases he
          · rename_i hne h1
            exact fin h1 (fun id e => hne id (by rw [← e])) he
          · cases he
        · cases hc
    · cases hc
  · cases hc
theorem evF_ok {X : Nat → Option XFunc} {E : Oracle} (hX : ∀ f x, X f = some x → ∃ h, cmpFunc P f h = some x) (hE : OkOr P E) (hmo : P.follows .mixedOrders = true) : ∀ n, OkOr P (evF X E n)
  | 0, f, args, bx, r, bx', h => by simp [evF] at h
  | n + 1, f, args, bx, r, bx', h => by
    simp only [evF] at h
    split at h
    · rename_i x hx
      obtain ⟨hh, hc⟩ := hX f x hx
      exact fun_ok (evF_ok hX hE hmo n) hmo hc h
    · exact hE _ _ _ _ _ h
end
end Go.Sx
