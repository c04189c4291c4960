/- Regions that draw their order. -/
import Derived.Test.YtggopflifieoiaaDoorSxDraw
namespace Go.Sx
open Go
section
variable {P : Program} {ops : Array Oper} {M : Nm} {w0 : World} {own0 : Own} {Q : Exit → Act → World → Prop} {call : Oracle} {xs : List XOper} {ms : List Nat}
def evI (call : Oracle) (xs : List XOper) : List Nat → St → Option St
  | [], st => some st
  | i :: r, st => match xs[i]? with
    | some x => match evOper call x st with
      | some st' => evI call xs r st'
      | none => none
    | none => none
theorem evI_pick : ∀ {l : List Nat} {ys : List XOper} {st : St}, pickL xs l = some ys → evI call xs l st = evOps call ys st
  | [], ys, st, h => by simp only [pickL, Option.some.injEq] at h; subst h; rfl
  | i :: r, ys, st, h => by
    simp only [pickL] at h
    split at h
    · rename_i x l h1 h2
      cases h
      simp only [evI, h1, evOps]
      cases evOper call x st with
      | some st' => exact evI_pick h2
      | none => rfl
    · cases h
def pairAt (xs : List XOper) (k i : Nat) : Prop := ∃ x y, xs[k]? = some x ∧ xs[i]? = some y ∧ okPair x y = true
theorem evI_front : ∀ {l r : List Nat} {i : Nat} {st stF : St}, (∀ k ∈ l, pairAt xs k i) → evI call xs (l ++ i :: r) st = some stF → evI call xs (i :: (l ++ r)) st = some stF
  | [], r, i, st, stF, _, h => h
  | k :: l, r, i, st, stF, hp, h => by
    obtain ⟨x, y, hx, hy, hok⟩ := hp k (by simp)
    simp only [List.cons_append, evI, hx] at h
    split at h
    · rename_i s1 h1
      have h2 := evI_front (fun k hk => hp k (by simp [hk])) h
      simp only [evI, hy] at h2
      split at h2
      · rename_i s2 h3
        obtain ⟨s1', h4, h5⟩ := evOper_comm hok h1 h3
        simp only [List.cons_append, evI, hy, h4, hx, h5]
        exact h2
      · cases h2
    · cases h
def edgeAt (ops : Array Oper) (k i : Nat) : Prop := ∃ o, ops[k]? = some o ∧ ∃ e ∈ o.after, Region.binds .any e = true ∧ e.on = i
def relAt (ops : Array Oper) (xs : List XOper) (ms : List Nat) (k i : Nat) : Prop := ¬ edgeAt ops k i ∧ ((ms.getD i 0).testBit k = true ∨ pairAt xs k i)
theorem permOk_spec : ∀ {perm seen : List Nat}, permOk ops xs ms perm seen = true →
    (∀ i ∈ perm, i ∉ seen ∧ (∃ o, ops[i]? = some o) ∧ ∀ k ∈ seen, (ms.getD i 0).testBit k = true ∨ pairAt xs k i) ∧ perm.Nodup ∧ perm.Pairwise (relAt ops xs ms) ∧ (∀ j, j < ops.size → j ∈ perm ∨ j ∈ seen) ∧
    ∀ i ∈ perm, ∀ o, ops[i]? = some o → ∀ e ∈ o.after, Region.binds .any e = true → e.on ≠ i ∧ (e.on ∈ seen ∨ e.on ∈ perm)
  | [], seen, h => by
    simp only [permOk, List.all_eq_true, List.mem_range] at h
    exact ⟨fun i hi => by simp at hi, List.nodup_nil, List.Pairwise.nil, fun j hj => .inr (by simpa using h j hj), fun i hi => by simp at hi⟩
  | i :: r, seen, h => by
    simp only [permOk] at h
    split at h
    · rename_i o y ho hy
      simp only [Bool.and_eq_true, Bool.not_eq_true', List.all_eq_true, Bool.or_eq_true] at h
      obtain ⟨⟨⟨h1, h2⟩, h3⟩, h4⟩ := h
      have h1' : i ∉ seen := by simpa using h1
      obtain ⟨a, b, c, d, e⟩ := permOk_spec h4
      have h2' : ∀ ed ∈ o.after, Region.binds .any ed = true → ed.on ∈ seen := fun ed hed hb => by
        rcases h2 ed (by simpa using hed) with h | h
        · rw [hb] at h; cases h
        · simpa using h
      refine ⟨fun j hj => ?_, List.nodup_cons.2 ⟨fun hm => (a i hm).1 (by simp), b⟩, List.pairwise_cons.2 ⟨fun j hj => ⟨?_, ?_⟩, c⟩, fun j hj => ?_, fun j hj o' ho' ed hed hb => ?_⟩
      · rcases List.mem_cons.1 hj with rfl | hj
        · refine ⟨h1', ⟨o, ho⟩, fun k hk => ?_⟩
          rcases h3 k hk with h | h
          · exact .inl h
          · split at h
            · rename_i x hx; exact .inr ⟨x, y, hx, hy, h⟩
            · cases h
        · obtain ⟨p, q, s⟩ := a j hj
          exact ⟨fun hm => p (by simp [hm]), q, fun k hk => s k (by simp [hk])⟩
      · rintro ⟨o', ho', ed, hed, hb, hon⟩
        rw [ho] at ho'; cases ho'
        exact (a j hj).1 (by rw [← hon]; exact List.mem_cons_of_mem _ (h2' ed hed hb))
      · exact (a j hj).2.2 i (by simp)
      · rcases d j hj with h | h
        · exact .inl (by simp [h])
        · rcases List.mem_cons.1 h with rfl | h
          · exact .inl (by simp)
          · exact .inr h
      · rcases List.mem_cons.1 hj with rfl | hj
        · rw [ho] at ho'; cases ho'
          have := h2' ed hed hb
          exact ⟨fun e => h1' (e ▸ this), .inl this⟩
        · obtain ⟨p, q⟩ := e j hj o' ho' ed hed hb
          refine ⟨p, ?_⟩
          rcases q with q | q
          · rcases List.mem_cons.1 q with q | q
            · exact .inr (by simp [q])
            · exact .inl q
          · exact .inr (by simp [q])
    · cases h
theorem cmpOpers_get : ∀ {l : List Oper} {hs : List Hint} {xs : List XOper}, cmpOpers P ops l hs = some xs → ∀ (i : Nat) (o : Oper), l[i]? = some o → ∃ h y, xs[i]? = some y ∧ cmpOper P ops o h = some y
  | [], hs, xs, h, i, o, ho => by simp at ho
  | o' :: l, hs, xs, h, i, o, ho => by
    simp only [cmpOpers] at h
    split at h
    · rename_i x xs' h1 h2
      cases h
      cases i with
      | zero => simp only [List.getElem?_cons_zero, Option.some.injEq] at ho; subst ho; exact ⟨_, x, rfl, h1⟩
      | succ i => simp only [List.getElem?_cons_succ] at ho ⊢; exact cmpOpers_get h2 i o ho
    · cases h
theorem any_ok (hok : OkOr P call) {hs : List Hint} (hc : cmpOpers P ops ops.toList hs = some xs) (hm : masksOk ops ms = true) {stF : St} (hq : ∀ a' w', Sat M w0 own0 stF a' w' → Q .normal a' w')
    (hed : ∀ i, i < ops.size → ∀ o, ops[i]? = some o → ∀ e ∈ o.after, Region.binds .any e = true → e.on ≠ i ∧ e.on < ops.size) :
    ∀ (n : Nat) (rem : List Nat) (listed : Array Bool) (st : St) (a : Act) (w : World), rem.length = n → listed.size = ops.size → rem.Nodup → (∀ j, j ∈ rem ↔ j < ops.size ∧ listed.getD j true = false) →
      (∀ j, listed.getD j false = true → ∀ k, k < ops.size → (ms.getD j 0).testBit k = true → listed.getD k false = true) → rem.Pairwise (relAt ops xs ms) → Sat M w0 own0 st a w → evI call xs rem st = some stF →
      wpAny P .any ops Q n listed a w
  | 0, rem, listed, st, a, w, hl, hsz, hnd, hmem, hcl, hpw, hS, he => by
    have : rem = [] := List.eq_nil_of_length_eq_zero hl
    subst this
    simp only [evI, Option.some.injEq] at he
    subst he
    refine ⟨List.eq_nil_iff_forall_not_mem.2 fun j hj => ?_, hq _ _ hS⟩
    obtain ⟨h1, o, h2, _⟩ := mem_ready.1 hj
    have := (hmem j).2 ⟨(Array.getElem?_eq_some_iff.1 h2).1, h1⟩
    simp at this
  | n + 1, rem, listed, st, a, w, hl, hsz, hnd, hmem, hcl, hpw, hS, he => by
    have hlisted : ∀ k, k < ops.size → k ∉ rem → listed.getD k false = true := by
      intro k hk hn
      have h1 : ¬ listed.getD k true = false := fun h => hn ((hmem k).2 ⟨hk, h⟩)
      have hk' : k < listed.size := by omega
      simp only [Array.getD_eq_getD_getElem?, Array.getElem?_eq_getElem hk', Option.getD_some] at h1 ⊢
      simpa using h1
    have hunl : ∀ k, k ∈ rem → listed.getD k false = true → False := by
      intro k hk h
      obtain ⟨h1, h2⟩ := (hmem k).1 hk
      have hk' : k < listed.size := by omega
      simp only [Array.getD_eq_getD_getElem?, Array.getElem?_eq_getElem hk', Option.getD_some] at h h2
      rw [h] at h2; cases h2
    refine ⟨fun h0 => ?_, fun i hi => ?_⟩
    · cases rem with
      | nil => simp at hl
      | cons h t =>
        exfalso
        have hh := (hmem h).1 (by simp)
        have ho : ops[h]? = some ops[h] := Array.getElem?_eq_getElem hh.1
        have : h ∈ Region.ready .any ops listed := mem_ready.2 ⟨hh.2, ops[h], ho, fun e hee hb => by
          obtain ⟨h1, h2⟩ := hed h hh.1 _ ho e hee hb
          refine hlisted e.on h2 fun hm => ?_
          rcases List.mem_cons.1 hm with h3 | h3
          · exact h1 h3
          · exact ((List.pairwise_cons.1 hpw).1 e.on h3).1 ⟨_, ho, e, hee, hb, rfl⟩⟩
        rw [h0] at this
        simp at this
    · obtain ⟨hi1, o, ho, hall⟩ := mem_ready.1 hi
      have hisz := (Array.getElem?_eq_some_iff.1 ho).1
      have hir := (hmem i).2 ⟨hisz, hi1⟩
      obtain ⟨l, r, rfl⟩ := List.append_of_mem hir
      have hbit : ∀ k, k < ops.size → (ms.getD i 0).testBit k = true → listed.getD k false = true := by
        intro k hk hb
        have h1 := List.all_eq_true.1 hm i (by simpa using hisz)
        simp only [ho] at h1
        have h2 := List.all_eq_true.1 h1 k (by simpa using hk)
        simp only [hb, Bool.not_true, Bool.false_or, List.any_eq_true, Bool.and_eq_true, Bool.or_eq_true, beq_iff_eq] at h2
        obtain ⟨e, hee, hbe, h3⟩ := h2
        have h4 := hall e (by simpa using hee) hbe
        rcases h3 with h3 | h3
        · rw [← h3]; exact h4
        · exact hcl e.on h4 k hk h3
      have hpair : ∀ k ∈ l, pairAt xs k i := by
        intro k hk
        have h1 := (List.pairwise_append.1 hpw).2.2 k hk i (by simp)
        rcases h1.2 with h2 | h2
        · exact (hunl k (by simp [hk]) (hbit k ((hmem k).1 (by simp [hk])).1 h2)).elim
        · exact h2
      have he' := evI_front hpair he
      obtain ⟨h, y, hy, hcy⟩ := cmpOpers_get hc i o (by simpa using ho)
      simp only [evI, hy] at he'
      split at he'
      · rename_i st1 h1
        unfold wpOp
        simp only [ho]
        have hnd' : i ∉ l ++ r ∧ (l ++ r).Nodup := by
          have := (List.perm_middle (a := i) (l₁ := l) (l₂ := r)).nodup_iff.1 hnd
          exact List.nodup_cons.1 this
        refine op_step hok hcy hS h1 fun a' w' hS' => any_ok hok hc hm hq hed n (l ++ r) (listed.setIfInBounds i true) st1 a' w' (by simp at hl ⊢; omega) (by simpa using hsz) hnd'.2 (fun j => ?_) (fun j hj k hk hb => ?_) ?_ hS' he'
        · by_cases hji : j = i
          · subst hji
            have : (listed.setIfInBounds j true).getD j true = true := by
              have hk' : j < listed.size := by omega
              simp [Array.getD_eq_getD_getElem?, hk']
            rw [this]
            simp only [Bool.true_eq_false, and_false, iff_false]
            exact hnd'.1
          · rw [getD_set_ne true (Ne.symm hji), ← hmem j]
            simp [hji]
        · by_cases hji : j = i
          · subst hji
            exact getD_set_true (hbit k hk hb)
          · rw [getD_set_ne false (Ne.symm hji)] at hj
            exact getD_set_true (hcl j hj k hk hb)
        · exact hpw.sublist (List.Sublist.append_left (List.sublist_cons_self i r) l)
      · cases he'
theorem region_any1 (hok : OkOr P call) (hmo : P.follows .mixedOrders = true) {id : Nat} {hs : List Hint} (hc : cmpOpers P ops ops.toList hs = some xs) {perm ms : List Nat} (hm : masksOk ops ms = true) (hpo : permOk ops xs ms perm [] = true) {ys : List XOper} (hp : pickL xs perm = some ys) {st stF : St} {a : Act} {w : World}
    (hS : ∀ w', w'.heap = w.heap → w'.os = w.os → w'.tape = w.tape → w'.output = w.output → Sat M w0 own0 st a w') (he : evOps call ys st = some stF) (hq : ∀ a' w', Sat M w0 own0 stF a' w' → Q .normal a' w') : (Code.region id ops true).wp P Q a w := by
  obtain ⟨h1, h2, h3, h4, h5⟩ := permOk_spec hpo
  have hmemp : ∀ j, j ∈ perm ↔ j < ops.size := fun j => ⟨fun h => by obtain ⟨o, ho⟩ := (h1 j h).2.1; exact (Array.getElem?_eq_some_iff.1 ho).1, fun h => (h4 j h).resolve_right (by simp)⟩
  refine wp_region_any hmo ?_
  have hlen : perm.length = ops.size := by
    have : perm.Perm (List.range ops.size) := (List.perm_ext_iff_of_nodup h2 List.nodup_range).2 fun j => by rw [hmemp, List.mem_range]
    simpa using this.length_eq
  refine any_ok hok hc hm hq (fun i hi o ho e hee hb => ?_) ops.size perm _ st a _ hlen (by simp) h2 (fun j => ?_) (fun j hj => ?_) h3 (hS _ rfl rfl rfl rfl) (by rw [evI_pick hp]; exact he)
  · obtain ⟨p, q⟩ := h5 i ((hmemp i).2 hi) o ho e hee hb
    exact ⟨p, (hmemp _).1 (q.resolve_left (by simp))⟩
  · rw [hmemp]
    constructor
    · intro h; exact ⟨h, by simp [Array.getD_eq_getD_getElem?, h]⟩
    · exact fun h => h.1
  · by_cases h : j < ops.size
    · simp [Array.getD_eq_getD_getElem?, h] at hj
    · simp [Array.getD_eq_getD_getElem?, h] at hj
end
end Go.Sx
