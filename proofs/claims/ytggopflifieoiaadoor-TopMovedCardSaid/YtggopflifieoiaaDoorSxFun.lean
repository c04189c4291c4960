/- Functions. -/
import Derived.Test.YtggopflifieoiaaDoorSxBody
namespace Go.Sx
open Go
section
variable {P : Program} {M : Nm} {w0 w w' : World} {own0 own own' : Own} {nm nm' : Nm} {st st' : St} {a : Act} {call : Oracle} {tmps : List Value}
theorem RA.getD (h : All2 (RA w own nm) st.tm a.tmps.toList) (t : Nat) : RA w own nm (st.tm.getD t .undef) (a.tmps.getD t undef) := tmp_ok h t
def resOf (tmps : Array Value) : ResultVar → Sem Value
  | .tmp t => pure (tmps.getD t undef)
  | .cell a t => do loadVar t (← asAddr (tmps.getD a undef))
theorem results_eq (fn : Func) (tmps : Array Value) : results fn tmps = (do let vs ← fn.results.mapM (resOf tmps); pure (if h : vs.size = 1 then vs[0] else .tuple vs)) := by
  rfl
theorem res_ok (I : Inv M w0 own0 w own nm st a.tmps.toList) : ∀ {l : List ResultVar} {rs : List XRes} {vs : List AV}, cmpRes P l = some rs → getRes st rs = some vs → ∃ us : List Value, (l.mapM (resOf a.tmps) : Sem (List Value)).run P w = .ok us w ∧ All2 (RA w own nm) vs us
  | [], rs, vs, hc, hg => by
    simp only [cmpRes, Option.some.injEq] at hc; subst hc
    simp only [getRes, Option.some.injEq] at hg; subst hg
    exact ⟨[], rfl, All2.nil⟩
  | .tmp t :: l, rs, vs, hc, hg => by
    simp only [cmpRes] at hc
    obtain ⟨rs', h1, rfl⟩ := Option.map_eq_some_iff.1 hc
    simp only [getRes] at hg
    split at hg
    · rename_i l' h2
      cases hg
      obtain ⟨us, h3, h4⟩ := res_ok I h1 h2
      refine ⟨_ :: us, ?_, All2.cons (RA.getD I.rt t) h4⟩
      simp only [List.mapM_cons, Sem.run_bind, resOf, Sem.run_pure, Result.andThen_ok, h3]
    · cases hg
  | .cell t ty :: l, rs, vs, hc, hg => by
    simp only [cmpRes] at hc
    split at hc
    · rename_i rs' ag n h1 hag hn
      cases hc
      simp only [getRes] at hg
      have h0 := RA.getD I.rt t
      split at hg
      · rename_i l' k off h2 e
        rw [e] at h0
        obtain ⟨g, hv, hk⟩ := h0.cv.ptrv
        split at hg
        · rename_i cs hb
          split at hg
          · rename_i q hq
            obtain ⟨us, h3, h4⟩ := res_ok I h1 h2
            cases I.rb.box k g _ hb hk with
            | cells _ _ bu T hh ho hr =>
              obtain ⟨_, hh, _⟩ := hh
              obtain ⟨h5, h6⟩ := takeB_ok (ex := []) (by rw [List.append_nil]; exact hh) hr _ _ _ hq
              obtain ⟨r, h7, h8, h9⟩ := load_ok (P := P) hag hn h6 rfl h5
              have h7' : (loadVar ty ⟨g, off, none⟩).run P w = .ok r w := by simpa [Instr.loadAt, Instr.sureAddr] using h7
              have hrun : (((ResultVar.cell t ty) :: l).mapM (resOf a.tmps) : Sem (List Value)).run P w = .ok (r :: us) w := by
                simp only [List.mapM_cons, Sem.run_bind, resOf, hv, asAddr, Sem.run_pure, Result.andThen_ok, h7', h3]
              cases ag with
              | true =>
                simp only [if_true, Option.some.injEq] at hg
                subst hg
                exact ⟨r :: us, hrun, All2.cons (h8 rfl) h4⟩
              | false =>
                simp only [Bool.false_eq_true, if_false] at hg
                split at hg
                · rename_i x
                  cases hg
                  exact ⟨r :: us, hrun, All2.cons (h9 rfl x rfl) h4⟩
                · cases hg
          · cases hg
        · cases hg
      · cases hg
    · cases hc
theorem pack_ok {vs : List AV} {us : List Value} (h : All2 (RA w own nm) vs us) (hn : vs.all noTup = true) : RA w own nm (packRes vs) (if h : us.toArray.size = 1 then us.toArray[0] else .tuple us.toArray) := by
  have h0 : All2 (RA0 w own nm) vs us := ⟨h.1, fun i a b ha hb => (h.2 i a b ha hb).noTup (List.all_eq_true.1 hn a (List.mem_of_getElem? ha))⟩
  match vs, us, h, h0 with
  | [], us, h, _ => rw [All2.of_nil h]; exact .tup [] [] All2.nil
  | [v], us, h, _ =>
    obtain ⟨u, us', rfl, h1, h2⟩ := All2.of_cons h
    rw [All2.of_nil h2]
    exact h1
  | v :: v' :: vs, us, h, h0 =>
    have hl : us.toArray.size ≠ 1 := by have := h.1; simp at this ⊢; omega
    rw [dif_neg hl]
    exact .tup _ us h0
theorem RC.take {x : CV} {v : Value} (h : RC w own nm x v) {m : Nat} (hk : ∀ k ∈ x.keys, k < m) : RC w own ⟨nm.adr.take m, nm.sp⟩ x v := by
  have key : ∀ {k g : Nat}, k ∈ x.keys → nm.adr[k]? = some g → (nm.adr.take m)[k]? = some g := fun h1 h2 => by rw [List.getElem?_take, if_pos (hk _ h1)]; exact h2
  cases h with
  | undef v => exact .undef v
  | pv h => exact .pv h
  | own i sz es g cap h1 h2 h3 h4 => exact .own i sz es g cap h1 h2 h3 h4
  | ms k o s n g cap a b c d e => exact .ms k o s n g cap (key (by simp [CV.keys]) a) b c d e
  | ptr k o g a => exact .ptr k o g (key (by simp [CV.keys]) a)
  | cptr l o g o' us a => exact .cptr l o g o' us a
  | nilp => exact .nilp
  | fn f caps us a b =>
    refine .fn f caps us a fun i k u hi hu => ?_
    obtain ⟨g, h1, h2⟩ := b i k u hi hu
    exact ⟨g, key (by simp only [CV.keys]; exact List.mem_of_getElem? hi) h1, h2⟩
  | nilf => exact .nilf
  | mp k g a => exact .mp k g (key (by simp [CV.keys]) a)
  | nilm => exact .nilm
theorem freeze_keys (bx : List Box) (m : Nat) (x : CV) : ∀ k ∈ (x.freeze bx fun k => decide (m ≤ k)).keys, k < m := by
  intro k hk
  cases x with
  | ms j o s n =>
    simp only [CV.freeze] at hk
    split at hk
    · split at hk <;> simp [CV.keys] at hk
    · rename_i h; simp [CV.keys] at hk; simp at h; omega
  | ptr j o =>
    simp only [CV.freeze] at hk
    split at hk
    · simp [CV.keys] at hk
    · rename_i h; simp [CV.keys] at hk; simp at h; omega
  | mp j =>
    simp only [CV.freeze] at hk
    split at hk
    · simp [CV.keys] at hk
    · rename_i h; simp [CV.keys] at hk; simp at h; omega
  | fn f caps =>
    simp only [CV.freeze] at hk
    split at hk
    · simp [CV.keys] at hk
    · rename_i h
      simp only [CV.keys] at hk
      simp only [List.any_eq_true, decide_eq_true_eq, not_exists, not_and] at h
      have := h k hk
      omega
  | _ => simp [CV.freeze, CV.keys] at hk
theorem leave_ok {m : Nat} (I : Inv M w0 own0 w own nm st tmps) {r : AV} {v : Value} (hr : RA w own nm r v) (hn : M.adr.length = m) : Back w0 own0 M (leave m r st.bx).1 (leave m r st.bx).2 v w := by
  unfold leave
  split
  · exact ⟨own, nm, I.fr, I.good, I.nmok, I.rb, hr, I.ext, I.mineA, I.mineR⟩
  · have hk := keepsFz w own nm fun k => decide (m ≤ k)
    have hw : Weak2 w own nm w (ownFz own nm fun k => decide (m ≤ k)) ⟨nm.adr.take m, nm.sp⟩ (CV.freeze st.bx fun k => decide (m ≤ k)) := fun x v hx => (weak_freeze I.nmok I.rb (fun k => decide (m ≤ k)) x v hx).take (freeze_keys _ _ _)
    refine ⟨ownFz own nm fun k => decide (m ≤ k), ⟨nm.adr.take m, nm.sp⟩, ⟨I.fr.os, I.fr.tape, I.fr.output, I.fr.size, I.fr.keeps.trans hk, fun g hlt hm => ?_, I.fr.sizes⟩, ⟨I.good.toGOk.keeps hk, fun g L h => I.good.lt g L (ownFz_le _ h)⟩, ⟨I.nmok.inj, fun i g hi => ?_⟩,
      ⟨?_, I.rb.nodup.sublist (List.take_sublist _ _), fun g hg => I.rb.lt g (List.mem_of_mem_take hg), fun k g b hb hg => ?_⟩, hr.map2 hw, fun k g hk => ?_, fun g hg => I.mineA g (List.mem_of_mem_take hg), I.mineR⟩
    · obtain ⟨h1, h2⟩ := I.fr.old g hlt hm
      refine ⟨h1, ?_⟩
      rw [ownFz_out]
      · exact h2
      · intro hg
        rcases I.mineA g hg with h | h
        · exact hm (.inl h)
        · omega
    · obtain ⟨h1, h2⟩ := I.nmok.row i g hi
      exact ⟨fun h => h1 (List.mem_of_mem_take h), by rw [ownFz_out _ h1]; exact h2⟩
    · simp [I.rb.len]
    · rw [List.getElem?_map, List.getElem?_take] at hb
      change (nm.adr.take m)[k]? = some g at hg
      rw [List.getElem?_take] at hg
      split at hb
      · rename_i hkm
        rw [if_pos hkm] at hg
        obtain ⟨b0, h1, rfl⟩ := Option.map_eq_some_iff.1 hb
        exact (I.rb.box k g b0 h1 hg).map2 hw hk rfl (ownFz_not _ I.rb.nodup hg (by simp; omega))
      · cases hb
    · show (nm.adr.take m)[k]? = some g
      have := (List.getElem?_eq_some_iff.1 hk).1
      rw [List.getElem?_take, if_pos (by omega)]
      exact I.ext k g hk
theorem fun_ok (hok : OkOr P call) (hmo : P.follows .mixedOrders = true) {f : Nat} {h : Hints} {x : XFunc} (hc : cmpFunc P f h = some x) {n : Nat} {args : List AV} {bx : List Box} {r : AV} {bx' : List Box} (he : runF call n x args bx = some (r, bx')) : CallOk P f args bx r bx' := by
  simp only [cmpFunc] at hc
  split at hc
  · rename_i fn hf
    split at hc
    · rename_i c hb
      split at hc
      · cases hc
      · rename_i hname
        split at hc
        · rename_i xc rs hxc hrs
          cases hc
          refine ⟨⟨fn, hf, by rw [hb]; rfl, by simpa using hname⟩, fun w own nm vals hg hno hrb hargs => ?_⟩
          refine calls_of_wp hf hb ?_
          have I0 : Inv nm w own w own nm ⟨args ++ List.replicate (fn.ntmps - args.length) .undef, bx⟩ (vals.toArray ++ Array.replicate (fn.ntmps - vals.toArray.size) undef).toList := by
            refine ⟨Fr.refl _ _ _, hg, hno, hrb, ?_, fun g hg => .inl hg, fun i g hi => .inl ⟨i, hi⟩, fun k g hk => hk⟩
            simp only [Array.toList_append, Array.toList_replicate, List.size_toArray]
            refine hargs.append ⟨by simp [hargs.1], fun i x v hx _ => ?_⟩
            have := (List.mem_replicate.1 (List.mem_of_getElem? hx)).2
            subst this
            exact RA.ofU v
          simp only [runF] at he
          have fin : ∀ {e : XExit} {st' : St}, evC call n xc ⟨args ++ List.replicate (fn.ntmps - args.length) .undef, bx⟩ = some (e, st') → (∀ id, e ≠ .exit id) → (match getRes st' rs with
              | some vs => if (vs.all noTup) = true then some (leave bx.length (packRes vs) st'.bx) else none
              | none => none) = some (r, bx') → c.wp P (bodyPost P fn fun e w' => ∃ v, e = .returned v ∧ Back w own nm r bx' v w') { tmps := vals.toArray ++ Array.replicate (fn.ntmps - vals.toArray.size) undef, defers := [] } w := by
            intro e st' h1 hne h2
            refine code_ok hok hmo hxc h1 ⟨rfl, own, nm, I0⟩ fun a' w' hS => ?_
            obtain ⟨hd, own', nm', I⟩ := hS
            split at h2
            · rename_i vs hvs
              split at h2
              · rename_i hnt
                obtain ⟨us, h3, h4⟩ := res_ok I hrs hvs
                have hrun : (results fn a'.tmps).run P w' = .ok (if h : us.toArray.size = 1 then us.toArray[0] else .tuple us.toArray) w' := by
                  rw [results_eq, Array.mapM_eq_mapM_toList]
                  simp only [Sem.run_bind, Sem.run_map, h3, Result.andThen_ok, Sem.run_pure]
                have hback := leave_ok I (pack_ok h4 hnt) (m := bx.length) hrb.len
                have e1 : (leave bx.length (packRes vs) st'.bx).1 = r := by rw [Option.some.inj h2]
                have e2 : (leave bx.length (packRes vs) st'.bx).2 = bx' := by rw [Option.some.inj h2]
                rw [e1, e2] at hback
                cases e with
                | normal => exact ⟨hd, _, hrun, _, rfl, hback⟩
                | exit id => exact absurd rfl (hne id)
                | ret => exact ⟨hd, _, hrun, _, rfl, hback⟩
              · cases h2
            · cases h2
          split at he
          · cases he
          · rename_i hne h1
            exact fin h1 (fun id e => hne id (by rw [← e])) he
          · cases he
        · cases hc
    · cases hc
  · cases hc
theorem evF_ok {X : Nat → Option XFunc} {E : Oracle} (hX : ∀ f x, X f = some x → ∃ h, cmpFunc P f h = some x) (hE : OkOr P E) (hmo : P.follows .mixedOrders = true) : ∀ n, OkOr P (evF X E n)
  | 0, f, args, bx, r, bx', h => by simp [evF] at h
  | n + 1, f, args, bx, r, bx', h => by
    simp only [evF] at h
    split at h
    · rename_i x hx
      obtain ⟨hh, hc⟩ := hX f x hx
      exact fun_ok (evF_ok hX hE hmo n) hmo hc h
    · exact hE _ _ _ _ _ h
end
end Go.Sx
