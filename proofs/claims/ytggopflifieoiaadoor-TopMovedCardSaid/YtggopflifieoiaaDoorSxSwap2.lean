/- Two variables that are made in either order: the machine. -/
import Derived.Test.YtggopflifieoiaaDoorSxSwap
import Derived.Test.YtggopflifieoiaaDoorSxCallW
namespace Go.Sx
open Go
section
variable {P : Program} {ops : Array Oper} {M : Nm} {w0 : World} {own0 : Own} {Q : Exit → Act → World → Prop} {call : Oracle} {xs : List XOper} {ms : List Nat} {w : World} {own : Own} {nm nm' : Nm} {n : Nat}
theorem map_fix' {α : Type} {f : α → α} {l : List α} (h : ∀ x ∈ l, f x = x) : l.map f = l := by
  have : l.map f = l.map id := List.map_congr_left fun x hx => h x hx
  rw [this, List.map_id]
theorem RC_key {x : CV} {v : Value} (h : RC w own nm x v) : ∀ k ∈ x.keys, k < nm.adr.length := by
  have lt : ∀ {k g : Nat}, nm.adr[k]? = some g → k < nm.adr.length := fun h => (List.getElem?_eq_some_iff.1 h).1
  intro k hk
  cases h with
  | ms k' _ _ _ g _ hk' => simp only [CV.keys, List.mem_singleton] at hk; rw [hk]; exact lt hk'
  | ptr k' _ g hk' => simp only [CV.keys, List.mem_singleton] at hk; rw [hk]; exact lt hk'
  | mp k' g hk' => simp only [CV.keys, List.mem_singleton] at hk; rw [hk]; exact lt hk'
  | fn f caps us hl h =>
    simp only [CV.keys] at hk
    obtain ⟨i, hi⟩ := List.mem_iff_getElem?.1 hk
    have hlt : i < us.length := by rw [hl]; exact (List.getElem?_eq_some_iff.1 hi).1
    obtain ⟨g, hg, _⟩ := h i k us[i] hi (List.getElem?_eq_getElem hlt)
    exact lt hg
  | _ => simp [CV.keys] at hk
theorem RC_fix {x : CV} {v : Value} (h : RC w own nm x v) (hn : nm.adr.length = n) : cr n x = x := cr_keys fun k hk => by rw [← hn]; exact RC_key h k hk
theorem crs_fix {cs : List CV} {us : List Value} (h : All2 (RC w own nm) cs us) (hn : nm.adr.length = n) : cs.map (cr n) = cs := map_fix' fun x hx => by
  obtain ⟨i, hi⟩ := List.mem_iff_getElem?.1 hx
  obtain ⟨u, _, hu⟩ := h.get hi
  exact RC_fix hu hn
theorem RA0_fix {x : AV} {v : Value} (h : RA0 w own nm x v) (hn : nm.adr.length = n) : x.rn0 n = x := by
  cases h with
  | c h => simp only [AV.rn0, RC_fix h hn]
  | agg cs us h => simp only [AV.rn0, crs_fix h hn]
theorem RA_fix {x : AV} {v : Value} (h : RA w own nm x v) (hn : nm.adr.length = n) : x.rn n = x := by
  cases h with
  | of h =>
    cases h with
    | c h => simp only [AV.rn, RC_fix h hn]
    | agg cs us h => simp only [AV.rn, crs_fix h hn]
  | tup vs us h =>
    simp only [AV.rn]
    rw [map_fix' fun x hx => by
      obtain ⟨i, hi⟩ := List.mem_iff_getElem?.1 hx
      obtain ⟨u, _, hu⟩ := h.get hi
      exact RA0_fix hu hn]
theorem RBx_fix {b : Box} {g : Nat} (h : RBx w own nm b g) (hn : nm.adr.length = n) : b.map' (cr n) = b := by
  cases h with
  | cells cs g us T hb ho h => simp only [Box.map', crs_fix h hn]
  | _ => rfl
theorem self_req {st : St} {a : Act} (h : Sat M w0 own0 st a w) : REq st.bx.length st st ∧ ∀ k g, M.adr[k]? = some g → k < st.bx.length := by
  obtain ⟨_, own, nm, I⟩ := h
  have hn := I.rb.len
  refine ⟨⟨?_, rfl, fun k => ?_⟩, fun k g hg => ?_⟩
  · symm
    refine map_fix' fun x hx => ?_
    obtain ⟨i, hi⟩ := List.mem_iff_getElem?.1 hx
    obtain ⟨u, _, hu⟩ := I.rt.get hi
    exact RA_fix hu hn
  · by_cases h1 : k < st.bx.length
    · rw [sw_lt h1, List.getElem?_eq_getElem h1]
      have h2 : k < nm.adr.length := by rw [hn]; exact h1
      simp only [Option.map_some]
      rw [RBx_fix (I.rb.box k _ _ (List.getElem?_eq_getElem h1) (List.getElem?_eq_getElem h2)) hn]
    · have h2 : ¬ sw st.bx.length k < st.bx.length := by unfold sw; split <;> (try split) <;> omega
      rw [List.getElem?_eq_none (by omega), List.getElem?_eq_none (by omega)]; rfl
  · have := (List.getElem?_eq_some_iff.1 (I.ext k g hg)).1
    rw [hn] at this; exact this
theorem RC_un {x : CV} {v : Value} (h : RC w own nm (cr n x) v) (hs : nm'.sp = nm.sp) (ha : ∀ (k g : Nat), nm.adr[k]? = some g → nm'.adr[sw n k]? = some g) : RC w own nm' x v := by
  have := RC.ren (nm' := nm') (ρ := sw n) h hs ha
  rwa [show (cr n x).ren (sw n) = x from cr_cr n x] at this
theorem crs_un {cs : List CV} {us : List Value} (h : All2 (RC w own nm) (cs.map (cr n)) us) (hs : nm'.sp = nm.sp) (ha : ∀ (k g : Nat), nm.adr[k]? = some g → nm'.adr[sw n k]? = some g) : All2 (RC w own nm') cs us :=
  ⟨by have := h.1; rwa [List.length_map] at this, fun i x u hx hu => RC_un (h.2 i _ u (by rw [List.getElem?_map, hx]; rfl) hu) hs ha⟩
theorem RA0_un {x : AV} {v : Value} (h : RA0 w own nm (x.rn0 n) v) (hs : nm'.sp = nm.sp) (ha : ∀ (k g : Nat), nm.adr[k]? = some g → nm'.adr[sw n k]? = some g) : RA0 w own nm' x v := by
  cases x with
  | c x => cases h with | c h => exact .c (RC_un h hs ha)
  | agg cs => cases h with | agg _ us h => exact .agg cs us (crs_un h hs ha)
  | tup vs => cases h
theorem RA_un {x : AV} {v : Value} (h : RA w own nm (x.rn n) v) (hs : nm'.sp = nm.sp) (ha : ∀ (k g : Nat), nm.adr[k]? = some g → nm'.adr[sw n k]? = some g) : RA w own nm' x v := by
  cases x with
  | c x => cases h with | of h => cases h with | c h => exact .of (.c (RC_un h hs ha))
  | agg cs => cases h with | of h => cases h with | agg _ us h => exact .of (.agg cs us (crs_un h hs ha))
  | tup vs =>
    cases h with
    | of h => cases h
    | tup _ us h => exact .tup vs us ⟨by have := h.1; rwa [List.length_map] at this, fun i x u hx hu => RA0_un (h.2 i _ u (by rw [List.getElem?_map, hx]; rfl) hu) hs ha⟩
theorem RBx_un {b : Box} {g : Nat} (h : RBx w own nm (b.map' (cr n)) g) (hs : nm'.sp = nm.sp) (ha : ∀ (k g : Nat), nm.adr[k]? = some g → nm'.adr[sw n k]? = some g) : RBx w own nm' b g := by
  cases b with
  | cells cs => cases h with | cells _ _ us T hb ho h => exact .cells cs g us T hb ho (crs_un h hs ha)
  | map kv => cases h with | map _ _ es clock hb ho h hc => exact .map kv g es clock hb ho h hc
  | iter l pos => cases h with | iter _ _ _ hb ho => exact .iter l pos g hb ho
  | dead => exact .dead g
  | row sz es => cases h with | row _ _ _ h he hsz => exact .row sz es g (RBr.rowAny he rfl rfl h) he hsz
theorem parts {α : Type} {l : List α} (h : n + 1 < l.length) : ∃ p a b q, l = p ++ a :: b :: q ∧ p.length = n := by
  refine ⟨l.take n, l[n], l[n + 1], l.drop (n + 2), ?_, by rw [List.length_take]; omega⟩
  have h1 : l.drop n = l[n] :: l.drop (n + 1) := List.drop_eq_getElem_cons (by omega)
  have h2 : l.drop (n + 1) = l[n + 1] :: l.drop (n + 2) := List.drop_eq_getElem_cons h
  rw [← h2, ← h1, List.take_append_drop]
theorem turned_get {α : Type} {p q : List α} {a b : α} (h : p.length = n) (k : Nat) : (p ++ b :: a :: q)[sw n k]? = (p ++ a :: b :: q)[k]? := by
  by_cases h1 : k < n
  · rw [sw_lt h1, List.getElem?_append_left (by omega), List.getElem?_append_left (by omega)]
  · by_cases h2 : k = n
    · rw [h2, show sw n n = n + 1 by simp [sw], ← h]
      simp
    · by_cases h3 : k = n + 1
      · rw [h3, show sw n (n + 1) = n by simp [sw], ← h]
        simp
      · rw [show sw n k = k by simp [sw, h2, h3], List.getElem?_append_right (by omega), List.getElem?_append_right (by omega), h]
        obtain ⟨m, rfl⟩ : ∃ m, k = n + 2 + m := ⟨k - (n + 2), by omega⟩
        rw [show n + 2 + m - n = m + 1 + 1 by omega]
        simp
theorem req_sat {F1 F2 : St} {a : Act} (h : REq n F1 F2) (hM : ∀ k g, M.adr[k]? = some g → k < n) (hn : n + 1 < F1.bx.length) (hS : Sat M w0 own0 F2 a w) : Sat M w0 own0 F1 a w := by
  obtain ⟨hd, own, nm, I⟩ := hS
  have hlen : nm.adr.length = F1.bx.length := by rw [I.rb.len, h.len]
  obtain ⟨p, x, y, q, e, hp⟩ := parts (l := nm.adr) (by rw [hlen]; exact hn)
  have perm : (p ++ y :: x :: q).Perm nm.adr := by
    rw [e]; exact List.Perm.append_left p (List.Perm.swap x y q)
  have ha : ∀ (k g : Nat), nm.adr[k]? = some g → (p ++ y :: x :: q)[sw n k]? = some g := fun k g hk => by
    rw [turned_get hp, ← e]; exact hk
  have hb : ∀ (k g : Nat), (p ++ y :: x :: q)[k]? = some g → nm.adr[sw n k]? = some g := fun k g hk => by
    rw [e, turned_get hp]; exact hk
  refine ⟨hd, own, ⟨p ++ y :: x :: q, nm.sp⟩, ⟨I.fr, I.good, ⟨I.nmok.inj, fun i g hg => ⟨fun hm => (I.nmok.row i g hg).1 (perm.mem_iff.1 hm), (I.nmok.row i g hg).2⟩⟩, ⟨?_, ?_, ?_, ?_⟩, ?_, ?_, ?_, ?_⟩⟩
  · show (p ++ y :: x :: q).length = _
    rw [perm.length_eq, hlen]
  · exact perm.nodup_iff.2 I.rb.nodup
  · exact fun g hg => I.rb.lt g (perm.mem_iff.1 hg)
  · intro k g b hk hg
    have h1 : F2.bx[sw n k]? = some (b.map' (cr n)) := by rw [h.bx, hk]; rfl
    exact RBx_un (I.rb.box (sw n k) g _ h1 (hb k g hg)) rfl ha
  · have ht := I.rt
    rw [h.tm] at ht
    exact ⟨by have := ht.1; rwa [List.length_map] at this, fun i v u hv hu => RA_un (ht.2 i _ u (by rw [List.getElem?_map, hv]; rfl) hu) rfl ha⟩
  · exact fun g hg => I.mineA g (perm.mem_iff.1 hg)
  · exact I.mineR
  · intro k g hk
    have h1 := I.ext k g hk
    have := ha k g h1
    rwa [sw_lt (hM k g hk)] at this
def relX (ops : Array Oper) (xs : List XOper) (ms : List Nat) (ex : Nat → Nat → Bool) (k i : Nat) : Prop := ¬ edgeAt ops k i ∧ ((ms.getD i 0).testBit k = true ∨ ex k i = true ∨ pairAt xs k i)
theorem permOkX_spec {ex : Nat → Nat → Bool} : ∀ {perm seen : List Nat}, permOkX ops xs ms ex perm seen = true →
    (∀ i ∈ perm, i ∉ seen ∧ (∃ o, ops[i]? = some o) ∧ ∀ k ∈ seen, (ms.getD i 0).testBit k = true ∨ ex k i = true ∨ pairAt xs k i) ∧ perm.Nodup ∧ perm.Pairwise (relX ops xs ms ex) ∧ (∀ j, j < ops.size → j ∈ perm ∨ j ∈ seen) ∧
    ∀ i ∈ perm, ∀ o, ops[i]? = some o → ∀ e ∈ o.after, Region.binds .any e = true → e.on ≠ i ∧ (e.on ∈ seen ∨ e.on ∈ perm)
  | [], seen, h => by
    simp only [permOkX, List.all_eq_true, List.mem_range] at h
    exact ⟨fun i hi => by simp at hi, List.nodup_nil, List.Pairwise.nil, fun j hj => .inr (by simpa using h j hj), fun i hi => by simp at hi⟩
  | i :: r, seen, h => by
    simp only [permOkX] at h
    split at h
    · rename_i o y ho hy
      simp only [Bool.and_eq_true, Bool.not_eq_true', List.all_eq_true, Bool.or_eq_true] at h
      obtain ⟨⟨⟨h1, h2⟩, h3⟩, h4⟩ := h
      have h1' : i ∉ seen := by simpa using h1
      obtain ⟨a, b, c, d, e⟩ := permOkX_spec h4
      have h2' : ∀ ed ∈ o.after, Region.binds .any ed = true → ed.on ∈ seen := fun ed hed hb => by
        rcases h2 ed (by simpa using hed) with h | h
        · rw [hb] at h; cases h
        · simpa using h
      refine ⟨fun j hj => ?_, List.nodup_cons.2 ⟨fun hm => (a i hm).1 (by simp), b⟩, List.pairwise_cons.2 ⟨fun j hj => ⟨?_, ?_⟩, c⟩, fun j hj => ?_, fun j hj o' ho' ed hed hb => ?_⟩
      · rcases List.mem_cons.1 hj with rfl | hj
        · refine ⟨h1', ⟨o, ho⟩, fun k hk => ?_⟩
          rcases h3 k hk with (h | h) | h
          · exact .inl h
          · exact .inr (.inl h)
          · split at h
            · rename_i x hx; exact .inr (.inr ⟨x, y, hx, hy, h⟩)
            · cases h
        · obtain ⟨p, q, s⟩ := a j hj
          exact ⟨fun hm => p (by simp [hm]), q, fun k hk => s k (by simp [hk])⟩
      · rintro ⟨o', ho', ed, hed, hb, hon⟩
        rw [ho] at ho'; cases ho'
        exact (a j hj).1 (by rw [← hon]; exact List.mem_cons_of_mem _ (h2' ed hed hb))
      · exact (a j hj).2.2 i (by simp)
      · rcases d j hj with h | h
        · exact .inl (by simp [h])
        · rcases List.mem_cons.1 h with rfl | h
          · exact .inl (by simp)
          · exact .inr h
      · rcases List.mem_cons.1 hj with rfl | hj
        · rw [ho] at ho'; cases ho'
          have := h2' ed hed hb
          exact ⟨fun e => h1' (e ▸ this), .inl this⟩
        · obtain ⟨p, q⟩ := e j hj o' ho' ed hed hb
          refine ⟨p, ?_⟩
          rcases q with q | q
          · rcases List.mem_cons.1 q with q | q
            · exact .inr (by simp [q])
            · exact .inl q
          · exact .inr (by simp [q])
    · cases h
theorem okMk_spec {o : XOper} (h : okMk o = true) : ∃ d z, mkOp o d z := by
  simp only [okMk, Bool.and_eq_true] at h
  obtain ⟨⟨h1, h2⟩, h3⟩ := h
  obtain ⟨d, hd⟩ := Option.isSome_iff_exists.1 h2
  cases hc : o.cls <;> rw [hc] at h3 <;> cases ho : o.op <;> rw [ho] at h3 <;> simp only [Bool.false_eq_true] at h3
  exact ⟨d, _, hd, ho, Option.isNone_iff_eq_none.1 h1, hc, h3⟩
theorem less_ok {l r : List Nat} {i : Nat} {listed : Array Bool} (hi : i < ops.size) (hsz : listed.size = ops.size) (hnd : (l ++ i :: r).Nodup) (hmem : ∀ j, j ∈ l ++ i :: r ↔ j < ops.size ∧ listed.getD j true = false)
    (hcl : ∀ j, listed.getD j false = true → ∀ k, k < ops.size → (ms.getD j 0).testBit k = true → listed.getD k false = true) (hbit : ∀ k, k < ops.size → (ms.getD i 0).testBit k = true → listed.getD k false = true) :
    (listed.setIfInBounds i true).size = ops.size ∧ (l ++ r).Nodup ∧ (∀ j, j ∈ l ++ r ↔ j < ops.size ∧ (listed.setIfInBounds i true).getD j true = false) ∧
    (∀ j, (listed.setIfInBounds i true).getD j false = true → ∀ k, k < ops.size → (ms.getD j 0).testBit k = true → (listed.setIfInBounds i true).getD k false = true) := by
  have hnd' : i ∉ l ++ r ∧ (l ++ r).Nodup := by
    have := (List.perm_middle (a := i) (l₁ := l) (l₂ := r)).nodup_iff.1 hnd
    exact List.nodup_cons.1 this
  refine ⟨by simpa using hsz, hnd'.2, fun j => ?_, fun j hj k hk hb => ?_⟩
  · by_cases hji : j = i
    · subst hji
      have : (listed.setIfInBounds j true).getD j true = true := by
        have hk' : j < listed.size := by omega
        simp [Array.getD_eq_getD_getElem?, hk']
      rw [this]
      simp only [Bool.true_eq_false, and_false, iff_false]
      exact hnd'.1
    · rw [getD_set_ne true (Ne.symm hji), ← hmem j]
      simp [hji]
  · by_cases hji : j = i
    · subst hji
      exact getD_set_true (hbit k hk hb)
    · rw [getD_set_ne false (Ne.symm hji)] at hj
      exact getD_set_true (hcl j hj k hk hb)
theorem any2_ok (hok : OkOr P call) {hs : List Hint} (hc : cmpOpers P ops ops.toList hs = some xs) (hm : masksOk ops ms = true) {A B a0 b0 : Nat} {x0 y0 : XOper} {za zb : List CV} (hx0 : xs[A]? = some x0) (hy0 : xs[B]? = some y0) (hA : mkOp x0 a0 za) (hB : mkOp y0 b0 zb) (hab : a0 ≠ b0)
    (hAB : ¬ edgeAt ops A B ∧ ¬ edgeAt ops B A) {stF : St} (hq : ∀ a' w', Sat M w0 own0 stF a' w' → Q .normal a' w')
    (hed : ∀ i, i < ops.size → ∀ o, ops[i]? = some o → ∀ e ∈ o.after, Region.binds .any e = true → e.on ≠ i ∧ e.on < ops.size) :
    ∀ (n : Nat) (pre r : List Nat) (listed : Array Bool) (st : St) (a : Act) (w : World), (pre ++ A :: B :: r).length = n → listed.size = ops.size → (pre ++ A :: B :: r).Nodup → (∀ j, j ∈ pre ++ A :: B :: r ↔ j < ops.size ∧ listed.getD j true = false) →
      (∀ j, listed.getD j false = true → ∀ k, k < ops.size → (ms.getD j 0).testBit k = true → listed.getD k false = true) → (pre ++ A :: r).Pairwise (relAt ops xs ms) → (pre ++ B :: r).Pairwise (relAt ops xs ms) →
      (∀ i ∈ pre, ∃ x, xs[i]? = some x ∧ renOp x = true) → (∀ i ∈ r, ∃ x, xs[i]? = some x ∧ renOp x = true) → Sat M w0 own0 st a w → evI call xs (pre ++ A :: B :: r) st = some stF →
      wpAny P .any ops Q n listed a w
  | 0, pre, r, listed, st, a, w, hl, hsz, hnd, hmem, hcl, hpA, hpB, hrp, hrr, hS, he => by simp at hl
  | n + 1, pre, r, listed, st, a, w, hl, hsz, hnd, hmem, hcl, hpA, hpB, hrp, hrr, hS, he => by
    have hlisted : ∀ k, k < ops.size → k ∉ pre ++ A :: B :: r → listed.getD k false = true := by
      intro k hk hn
      have h1 : ¬ listed.getD k true = false := fun h => hn ((hmem k).2 ⟨hk, h⟩)
      have hk' : k < listed.size := by omega
      simp only [Array.getD_eq_getD_getElem?, Array.getElem?_eq_getElem hk', Option.getD_some] at h1 ⊢
      simpa using h1
    have hunl : ∀ k, k ∈ pre ++ A :: B :: r → listed.getD k false = true → False := by
      intro k hk h
      obtain ⟨h1, h2⟩ := (hmem k).1 hk
      have hk' : k < listed.size := by omega
      simp only [Array.getD_eq_getD_getElem?, Array.getElem?_eq_getElem hk', Option.getD_some] at h h2
      rw [h] at h2; cases h2
    -- what stands ahead asks for nothing behind it
    have hfree : ∀ h t, pre ++ A :: B :: r = h :: t → ∀ k ∈ t, ¬ edgeAt ops h k := by
      intro h t e k hk
      cases pre with
      | nil =>
        simp only [List.nil_append, List.cons.injEq] at e hpA hpB
        obtain ⟨rfl, rfl⟩ := e
        rcases List.mem_cons.1 hk with rfl | hk
        · exact hAB.1
        · exact ((List.pairwise_cons.1 hpA).1 k hk).1
      | cons p pre =>
        simp only [List.cons_append, List.cons.injEq] at e hpA hpB
        obtain ⟨rfl, rfl⟩ := e
        have h1 := (List.pairwise_cons.1 hpA).1
        have h2 := (List.pairwise_cons.1 hpB).1
        rcases List.mem_append.1 hk with hk | hk
        · exact (h1 k (by simp [hk])).1
        · rcases List.mem_cons.1 hk with rfl | hk
          · exact (h1 _ (by simp)).1
          · rcases List.mem_cons.1 hk with rfl | hk
            · exact (h2 _ (by simp)).1
            · exact (h1 k (by simp [hk])).1
    refine ⟨fun h0 => ?_, fun i hi => ?_⟩
    · cases hrem : pre ++ A :: B :: r with
      | nil => simp at hrem
      | cons h t =>
        exfalso
        have hh := (hmem h).1 (by rw [hrem]; simp)
        have ho : ops[h]? = some ops[h] := Array.getElem?_eq_getElem hh.1
        have : h ∈ Region.ready .any ops listed := mem_ready.2 ⟨hh.2, ops[h], ho, fun e hee hb => by
          obtain ⟨h1, h2⟩ := hed h hh.1 _ ho e hee hb
          refine hlisted e.on h2 fun hm => ?_
          rw [hrem] at hm
          rcases List.mem_cons.1 hm with h3 | h3
          · exact h1 h3
          · exact hfree h t hrem e.on h3 ⟨_, ho, e, hee, hb, rfl⟩⟩
        rw [h0] at this
        simp at this
    · obtain ⟨hi1, o, ho, hall⟩ := mem_ready.1 hi
      have hisz := (Array.getElem?_eq_some_iff.1 ho).1
      have hir := (hmem i).2 ⟨hisz, hi1⟩
      have hbit : ∀ k, k < ops.size → (ms.getD i 0).testBit k = true → listed.getD k false = true := by
        intro k hk hb
        have h1 := List.all_eq_true.1 hm i (by simpa using hisz)
        simp only [ho] at h1
        have h2 := List.all_eq_true.1 h1 k (by simpa using hk)
        simp only [hb, Bool.not_true, Bool.false_or, List.any_eq_true, Bool.and_eq_true, Bool.or_eq_true, beq_iff_eq] at h2
        obtain ⟨e, hee, hbe, h3⟩ := h2
        have h4 := hall e (by simpa using hee) hbe
        rcases h3 with h3 | h3
        · rw [← h3]; exact h4
        · exact hcl e.on h4 k hk h3
      have nobit : ∀ k, k ∈ pre ++ A :: B :: r → (ms.getD i 0).testBit k = true → False := fun k hk hb => hunl k hk (hbit k ((hmem k).1 hk).1 hb)
      obtain ⟨h, y, hy, hcy⟩ := cmpOpers_get hc i o (by simpa using ho)
      -- the step that the machine takes
      have step : ∀ {rest : List Nat} {F : St}, evI call xs (i :: rest) st = some F → (∀ st1 a' w', Sat M w0 own0 st1 a' w' → evI call xs rest st1 = some F → wpAny P .any ops Q n (listed.setIfInBounds i true) a' w') → wpOp P ops Q i (wpAny P .any ops Q n (listed.setIfInBounds i true)) a w := by
        intro rest F he' hk
        simp only [evI, hy] at he'
        split at he'
        · rename_i st1 h1
          unfold wpOp
          simp only [ho]
          exact op_step hok hcy hS h1 fun a' w' hS' => hk st1 a' w' hS' he'
        · cases he'
      have pairP : ∀ k ∈ pre, (pre ++ A :: r).Pairwise (relAt ops xs ms) → i = A → pairAt xs k i := by
        intro k hk hp hiA
        subst hiA
        have h1 := (List.pairwise_append.1 hp).2.2 k hk i (by simp)
        rcases h1.2 with h2 | h2
        · exact (nobit k (by simp [hk]) h2).elim
        · exact h2
      rcases List.mem_append.1 hir with hin | hin
      · -- ahead of the two
        obtain ⟨l, p2, rfl⟩ := List.append_of_mem hin
        have hf : ∀ k ∈ l, pairAt xs k i := by
          intro k hk
          have h1 := (List.pairwise_append.1 (List.pairwise_append.1 hpA).1).2.2 k hk i (by simp)
          rcases h1.2 with h2 | h2
          · exact (nobit k (by simp [hk]) h2).elim
          · exact h2
        have he1 : evI call xs (l ++ i :: (p2 ++ A :: B :: r)) st = some stF := by simpa using he
        have he2 := evI_front hf he1
        obtain ⟨q1, q2, q3, q4⟩ := less_ok (l := l) (r := p2 ++ A :: B :: r) (ms := ms) hisz hsz (by simpa using hnd) (fun j => by rw [← hmem j]; simp) hcl hbit
        refine step he2 fun st1 a' w' hS' he3 => any2_ok hok hc hm hx0 hy0 hA hB hab hAB hq hed n (l ++ p2) r _ st1 a' w' (by simp at hl ⊢; omega) q1 (by simpa using q2) (fun j => by rw [← q3 j]; simp) q4 ?_ ?_ (fun j hj => hrp j (by
          rcases List.mem_append.1 hj with h | h
          · simp [h]
          · simp [h])) hrr hS' (by simpa using he3)
        · refine hpA.sublist ?_
          rw [List.append_assoc, List.append_assoc]
          exact List.Sublist.append_left (List.sublist_cons_self i _) l
        · refine hpB.sublist ?_
          rw [List.append_assoc, List.append_assoc]
          exact List.Sublist.append_left (List.sublist_cons_self i _) l
      · rcases List.mem_cons.1 hin with rfl | hin
        · -- the first of the two
          have he2 := evI_front (fun k hk => pairP k hk hpA rfl) he
          obtain ⟨q1, q2, q3, q4⟩ := less_ok (l := pre) (r := B :: r) (ms := ms) hisz hsz hnd hmem hcl hbit
          exact step he2 fun st1 a' w' hS' he3 => any_ok hok hc hm hq hed n (pre ++ B :: r) _ st1 a' w' (by simp at hl ⊢; omega) q1 q2 q3 q4 hpB hS' he3
        · rcases List.mem_cons.1 hin with rfl | hin
          · -- the second of the two
            obtain ⟨hself, hM⟩ := self_req hS
            obtain ⟨F2, e2, hreq, hlen⟩ := swap_ok hrp hrr hx0 hy0 hA hB hab hself he
            have hf : ∀ k ∈ pre, pairAt xs k i := by
              intro k hk
              have h1 := (List.pairwise_append.1 hpB).2.2 k hk i (by simp)
              rcases h1.2 with h2 | h2
              · exact (nobit k (by simp [hk]) h2).elim
              · exact h2
            have he2 := evI_front hf e2
            have hl' : pre ++ A :: i :: r = (pre ++ [A]) ++ i :: r := by simp
            obtain ⟨q1, q2, q3, q4⟩ := less_ok (l := pre ++ [A]) (r := r) (ms := ms) hisz hsz (by rw [← hl']; exact hnd) (fun j => by rw [← hmem j, hl']) hcl hbit
            refine step he2 fun st1 a' w' hS' he3 => any_ok hok hc hm (stF := F2) (fun a' w' hS2 => hq a' w' (req_sat hreq hM (by omega) hS2)) hed n (pre ++ A :: r) _ st1 a' w' (by simp at hl ⊢; omega) q1 (by simpa using q2) (fun j => by rw [← q3 j]; simp) q4 hpA hS' he3
          · -- behind the two
            obtain ⟨l, r2, rfl⟩ := List.append_of_mem hin
            have hf : ∀ k ∈ pre ++ A :: B :: l, pairAt xs k i := by
              intro k hk
              have hkm : k ∈ pre ++ A :: B :: (l ++ i :: r2) := by
                rcases List.mem_append.1 hk with h | h
                · simp [h]
                · rcases List.mem_cons.1 h with h | h
                  · simp [h]
                  · rcases List.mem_cons.1 h with h | h
                    · simp [h]
                    · simp [h]
              have h1 : relAt ops xs ms k i := by
                rcases List.mem_append.1 hk with h | h
                · exact (List.pairwise_append.1 hpA).2.2 k h i (by simp)
                · rcases List.mem_cons.1 h with rfl | h
                  · exact (List.pairwise_cons.1 (List.pairwise_append.1 hpA).2.1).1 i (by simp)
                  · rcases List.mem_cons.1 h with rfl | h
                    · exact (List.pairwise_cons.1 (List.pairwise_append.1 hpB).2.1).1 i (by simp)
                    · have := (List.pairwise_cons.1 (List.pairwise_append.1 hpA).2.1).2
                      exact (List.pairwise_append.1 this).2.2 k h i (by simp)
              rcases h1.2 with h2 | h2
              · exact (nobit k hkm h2).elim
              · exact h2
            have he1 : evI call xs ((pre ++ A :: B :: l) ++ i :: r2) st = some stF := by simpa using he
            have he2 := evI_front hf he1
            obtain ⟨q1, q2, q3, q4⟩ := less_ok (l := pre ++ A :: B :: l) (r := r2) (ms := ms) hisz hsz (by simpa using hnd) (fun j => by rw [← hmem j]; simp) hcl hbit
            refine step he2 fun st1 a' w' hS' he3 => any2_ok hok hc hm hx0 hy0 hA hB hab hAB hq hed n pre (l ++ r2) _ st1 a' w' (by simp at hl ⊢; omega) q1 (by simpa using q2) (fun j => by rw [← q3 j]; simp) q4 ?_ ?_ hrp (fun j hj => hrr j (by
              rcases List.mem_append.1 hj with h | h
              · simp [h]
              · simp [h])) hS' (by simpa using he3)
            · refine hpA.sublist (List.Sublist.append_left (List.Sublist.cons_cons A ?_) pre)
              exact List.Sublist.append_left (List.sublist_cons_self i r2) l
            · refine hpB.sublist (List.Sublist.append_left (List.Sublist.cons_cons B ?_) pre)
              exact List.Sublist.append_left (List.sublist_cons_self i r2) l
theorem region_any2 (hok : OkOr P call) (hmo : P.follows .mixedOrders = true) {id : Nat} {hs : List Hint} (hc : cmpOpers P ops ops.toList hs = some xs) {perm ms : List Nat} (hm : masksOk ops ms = true) {k0 : Nat} (hk0 : okMk2 ops xs ms perm k0 = true) {ys : List XOper} (hp : pickL xs perm = some ys) {st stF : St} {a : Act} {w : World}
    (hS : ∀ w', w'.heap = w.heap → w'.os = w.os → w'.tape = w.tape → w'.output = w.output → Sat M w0 own0 st a w') (he : evOps call ys st = some stF) (hq : ∀ a' w', Sat M w0 own0 stF a' w' → Q .normal a' w') : (Code.region id ops true).wp P Q a w := by
  unfold okMk2 at hk0
  split at hk0
  · rename_i A B hA hB
    simp only [Bool.and_eq_true] at hk0
    obtain ⟨⟨g1, g2⟩, g3⟩ := hk0
    split at g1
    · rename_i o x0 y0 hoB hx0 hy0
      simp only [Bool.and_eq_true, List.all_eq_true, Bool.or_eq_true, Bool.not_eq_true', bne_iff_ne, ne_eq] at g1
      obtain ⟨⟨⟨m1, m2⟩, m3⟩, m4⟩ := g1
      obtain ⟨a0, za, hmA⟩ := okMk_spec m1
      obtain ⟨b0, zb, hmB⟩ := okMk_spec m2
      have hab : a0 ≠ b0 := fun e => m3 (by rw [hmA.1, hmB.1, e])
      obtain ⟨h1, h2, h3, h4, h5⟩ := permOkX_spec g3
      have hk1 : k0 + 1 < perm.length := (List.getElem?_eq_some_iff.1 hB).1
      have hperm : perm = perm.take k0 ++ A :: B :: perm.drop (k0 + 2) := by
        have e1 : perm.drop k0 = A :: perm.drop (k0 + 1) := by
          rw [List.drop_eq_getElem_cons (by omega)]
          congr 1
          exact (List.getElem?_eq_some_iff.1 hA).2
        have e2 : perm.drop (k0 + 1) = B :: perm.drop (k0 + 2) := by
          rw [List.drop_eq_getElem_cons (by omega)]
          congr 1
          exact (List.getElem?_eq_some_iff.1 hB).2
        rw [← e2, ← e1, List.take_append_drop]
      generalize perm.take k0 = pre at hperm g2
      generalize perm.drop (k0 + 2) = r at hperm g2
      subst hperm
      have hmemp : ∀ j, j ∈ pre ++ A :: B :: r ↔ j < ops.size := fun j => ⟨fun h => by obtain ⟨o, ho⟩ := (h1 j h).2.1; exact (Array.getElem?_eq_some_iff.1 ho).1, fun h => (h4 j h).resolve_right (by simp)⟩
      have hlen : (pre ++ A :: B :: r).length = ops.size := by
        have : (pre ++ A :: B :: r).Perm (List.range ops.size) := (List.perm_ext_iff_of_nodup h2 List.nodup_range).2 fun j => by rw [hmemp, List.mem_range]
        simpa using this.length_eq
      have hren : ∀ i ∈ pre ++ r, ∃ x, xs[i]? = some x ∧ renOp x = true := fun i hi => by
        have := List.all_eq_true.1 g2 i hi
        split at this
        · rename_i z hz; exact ⟨z, hz, this⟩
        · cases this
      have toAt : ∀ {k i : Nat}, relX ops xs ms (fun k i => k == A && i == B) k i → ¬ (k = A ∧ i = B) → relAt ops xs ms k i := fun h hn => by
        refine ⟨h.1, ?_⟩
        rcases h.2 with h | h | h
        · exact .inl h
        · simp only [Bool.and_eq_true, beq_iff_eq] at h; exact absurd h hn
        · exact .inr h
      have hnB : ∀ j ∈ pre ++ A :: r, j ≠ B := by
        have e : pre ++ A :: B :: r = (pre ++ [A]) ++ B :: r := by simp
        rw [e] at h2
        have := (List.nodup_cons.1 ((List.perm_middle (a := B) (l₁ := pre ++ [A]) (l₂ := r)).nodup_iff.1 h2)).1
        intro j hj e2
        subst e2
        exact this (by simpa using hj)
      have hnA : ∀ j ∈ pre ++ B :: r, j ≠ A := by
        have := (List.nodup_cons.1 ((List.perm_middle (a := A) (l₁ := pre) (l₂ := B :: r)).nodup_iff.1 h2)).1
        intro j hj e2
        subst e2
        exact this hj
      have hpA : (pre ++ A :: r).Pairwise (relAt ops xs ms) := by
        have hs := h3.sublist (l₁ := pre ++ A :: r) (List.Sublist.append_left (List.Sublist.cons_cons A (List.sublist_cons_self B r)) pre)
        exact hs.imp_of_mem fun {k i} hk hi h => toAt h fun hh => hnB i hi hh.2
      have hpB : (pre ++ B :: r).Pairwise (relAt ops xs ms) := by
        have hs := h3.sublist (l₁ := pre ++ B :: r) (List.Sublist.append_left (List.sublist_cons_self A (B :: r)) pre)
        exact hs.imp_of_mem fun {k i} hk hi h => toAt h fun hh => hnA k hk hh.1
      have hAB : ¬ edgeAt ops A B ∧ ¬ edgeAt ops B A := by
        refine ⟨?_, ?_⟩
        · have := (List.pairwise_cons.1 (List.pairwise_append.1 h3).2.1).1 B (by simp)
          exact this.1
        · rintro ⟨o', ho', ed, hed, hb, hon⟩
          rw [hoB] at ho'; cases ho'
          rcases m4 ed (by simpa using hed) with h | h
          · rw [hb] at h; cases h
          · exact h hon
      refine wp_region_any hmo ?_
      refine any2_ok hok hc hm hx0 hy0 hmA hmB hab hAB hq (fun i hi o ho e hee hb => ?_) ops.size pre r _ st a _ hlen (by simp) h2 (fun j => ?_) (fun j hj => ?_) hpA hpB (fun i hi => hren i (by simp [hi])) (fun i hi => hren i (by simp [hi])) (hS _ rfl rfl rfl rfl) (by rw [evI_pick hp]; exact he)
      · obtain ⟨p, q⟩ := h5 i ((hmemp i).2 hi) o ho e hee hb
        exact ⟨p, (hmemp _).1 (q.resolve_left (by simp))⟩
      · rw [hmemp]
        constructor
        · intro h; exact ⟨h, by simp [Array.getD_eq_getD_getElem?, h]⟩
        · exact fun h => h.1
      · by_cases h : j < ops.size
        · simp [Array.getD_eq_getD_getElem?, h] at hj
        · simp [Array.getD_eq_getD_getElem?, h] at hj
    · cases g1
  · cases hk0
theorem region_any (hok : OkOr P call) (hmo : P.follows .mixedOrders = true) {id : Nat} {hs : List Hint} (hc : cmpOpers P ops ops.toList hs = some xs) {perm : List Nat} (hd : okDraw ops xs perm = true) {ys : List XOper} (hp : pickL xs perm = some ys) {st stF : St} {a : Act} {w : World}
    (hS : ∀ w', w'.heap = w.heap → w'.os = w.os → w'.tape = w.tape → w'.output = w.output → Sat M w0 own0 st a w') (he : evOps call ys st = some stF) (hq : ∀ a' w', Sat M w0 own0 stF a' w' → Q .normal a' w') : (Code.region id ops true).wp P Q a w := by
  simp only [okDraw, Bool.and_eq_true, Bool.or_eq_true] at hd
  obtain ⟨hm, hpo | hpo⟩ := hd
  · exact region_any1 hok hmo hc hm hpo hp hS he hq
  · obtain ⟨k, _, hk⟩ := List.any_eq_true.1 hpo
    exact region_any2 hok hmo hc hm hk hp hS he hq
end
end Go.Sx
