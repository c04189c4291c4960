/- Calls that are handed boxes; boxes that are given up. -/
import Derived.Test.YtggopflifieoiaaDoorSxOper
namespace Go.Sx
open Go
section
variable {P : Program} {o : Oper} {a : Act} {M : Nm} {w0 w w' : World} {own0 own own' : Own} {nm nm' nm'' : Nm} {st : St} {tmps : List Value}
def Weak2 (w : World) (own : Own) (nm : Nm) (w' : World) (own' : Own) (nm' : Nm) (f : CV → CV) : Prop := ∀ x v, RC w own nm x v → RC w' own' nm' (f x) v
theorem Weak.two {f : CV → CV} (h : Weak w own nm nm' f) : Weak2 w own nm w own nm' f := h
theorem Weak2.comp {w2 : World} {own2 : Own} {f g : CV → CV} (h : Weak2 w own nm w' own' nm' f) (k : Weak2 w' own' nm' w2 own2 nm'' g) : Weak2 w own nm w2 own2 nm'' (fun x => g (f x)) := fun x v hr => k _ _ (h x v hr)
theorem RA0.map2 {f : CV → CV} (hf : Weak2 w own nm w' own' nm' f) {x : AV} {v : Value} (hr : RA0 w own nm x v) : RA0 w' own' nm' (x.map0 f) v := by
  cases hr with
  | c hx => exact .c (hf _ _ hx)
  | agg cs us hx => exact .agg _ us (hx.map fun a b _ h => hf a b h)
theorem RA.map2 {f : CV → CV} (hf : Weak2 w own nm w' own' nm' f) {x : AV} {v : Value} (hr : RA w own nm x v) : RA w' own' nm' (x.map f) v := by
  cases hr with
  | of hx => cases hx with
    | c hx => exact .of (.c (hf _ _ hx))
    | agg cs us hx => exact .of (.agg _ us (hx.map fun a b _ h => hf a b h))
  | tup vs us hx => exact .tup _ us (hx.map fun a b _ h => h.map2 hf)
theorem RBx.map2 {f : CV → CV} (hf : Weak2 w own nm w' own' nm' f) (hk : Keeps w own w' own') {b : Box} {g : Nat} (hb : w'.heap[g]? = w.heap[g]?) (ho : own' g = own g) (hr : RBx w own nm b g) : RBx w' own' nm' (b.map' f) g := by
  cases hr with
  | cells cs g us T h1 h2 h3 => exact .cells _ g us T (h1.of_heap hb) (by rw [ho]; exact h2) (h3.map fun a b _ h => hf a b h)
  | map kv g es clock h1 h2 h3 h4 => exact .map kv g es clock (by rw [hb]; exact h1) (by rw [ho]; exact h2) (h3.keeps hk) h4
  | iter l pos g h1 h2 => exact .iter l pos g (by rw [hb]; exact h1) (by rw [ho]; exact h2)
  | row sz es g h he hs => exact .row sz es g (h.rowAny he hb ho) he hs
  | dead g => exact .dead g
theorem RC.other {x : CV} {v : Value} (h : RC w own nm x v) (hx : x.keys = []) (hi : x.ids = []) : RC w own nm' x v := by
  cases x with
  | undef => exact .undef v
  | pv p => exact .pv h.pvv
  | own i sz es => simp [CV.ids] at hi
  | ms k off sz n => simp [CV.keys] at hx
  | ptr k off => simp [CV.keys] at hx
  | cptr l off => obtain ⟨g, q, us, rfl, h'⟩ := h.cptrv; exact .cptr l off g q us h'
  | nilp => cases h; exact .nilp
  | fn f caps =>
    simp only [CV.keys] at hx
    subst hx
    obtain ⟨us, rfl, h1, h2⟩ := h.fnv
    exact .fn f [] us h1 (fun i k u h => by simp at h)
  | nilf => cases h; exact .nilf
  | mp k => simp [CV.keys] at hx
  | nilm => cases h; exact .nilm
theorem RC.sp {x : CV} {v : Value} (h : RC w own nm x v) (ha : nm'.adr = nm.adr) (hs : ∀ i ∈ x.ids, nm'.sp i = nm.sp i) : RC w own nm' x v := by
  cases h with
  | undef v => exact .undef v
  | pv h => exact .pv h
  | own i sz es g cap h1 h2 h3 h4 => exact .own i sz es g cap (by rw [hs i (by simp [CV.ids])]; exact h1) h2 h3 h4
  | ms k o s n g cap a b c d e => exact .ms k o s n g cap (by rw [ha]; exact a) b c d e
  | ptr k o g a => exact .ptr k o g (by rw [ha]; exact a)
  | cptr l o g o' us a => exact .cptr l o g o' us a
  | nilp => exact .nilp
  | fn f caps us a b => exact .fn f caps us a (by rw [ha]; exact b)
  | nilf => exact .nilf
  | mp k g a => exact .mp k g (by rw [ha]; exact a)
  | nilm => exact .nilm
theorem RC.ren {x : CV} {v : Value} (h : RC w own nm x v) (hs : nm'.sp = nm.sp) {ρ : Nat → Nat} (ha : ∀ (k g : Nat), nm.adr[k]? = some g → nm'.adr[ρ k]? = some g) : RC w own nm' (x.ren ρ) v := by
  cases h with
  | undef v => exact .undef v
  | pv h => exact .pv h
  | own i sz es g cap h1 h2 h3 h4 => exact .own i sz es g cap (by rw [hs]; exact h1) h2 h3 h4
  | ms k o s n g cap a b c d e => exact .ms (ρ k) o s n g cap (ha _ _ a) b c d e
  | ptr k o g a => exact .ptr (ρ k) o g (ha _ _ a)
  | cptr l o g o' us a => exact .cptr l o g o' us a
  | nilp => exact .nilp
  | fn f caps us a b =>
    refine .fn f (caps.map ρ) us (by simpa using a) fun i k u hi hu => ?_
    rw [List.getElem?_map] at hi
    obtain ⟨k', hk', rfl⟩ := Option.map_eq_some_iff.1 hi
    obtain ⟨g, h1, h2⟩ := b i k' u hk' hu
    exact ⟨g, ha _ _ h1, h2⟩
  | nilf => exact .nilf
  | mp k g a => exact .mp (ρ k) g (ha _ _ a)
  | nilm => exact .nilm
theorem weak_shutIds (w : World) (own : Own) (nm : Nm) (is : List Nat) : Weak w own nm ⟨nm.adr, fun j => if is.contains j then none else nm.sp j⟩ (CV.shutIds is) := by
  intro x v h
  by_cases hx : x.ids = []
  · have : x.shutIds is = x := by cases x <;> first | rfl | simp [CV.ids] at hx
    rw [this]
    exact h.sp rfl (fun i hi => by rw [hx] at hi; simp at hi)
  · cases x with
    | own j sz es =>
      simp only [CV.shutIds]
      split
      · exact .pv h.shut
      · rename_i hne
        exact h.sp rfl fun i hi => by simp [CV.ids] at hi; subst hi; simp only [if_neg hne]
    | _ => simp [CV.ids] at hx
theorem weak_shutAll (w : World) (own : Own) (nm : Nm) (sp : Nat → Option Nat) : Weak w own nm ⟨nm.adr, sp⟩ CV.shutAll := by
  intro x v h
  by_cases hx : x.ids = []
  · have : x.shutAll = x := by cases x <;> first | rfl | simp [CV.ids] at hx
    rw [this]
    exact h.sp rfl (fun i hi => by rw [hx] at hi; simp at hi)
  · cases x with
    | own j sz es => exact .pv h.shut
    | _ => simp [CV.ids] at hx
def nmK (nm : Nm) (K : List Nat) : Nm := ⟨K.map fun k => nm.adr.getD k 0, nm.sp⟩
theorem nmK_get {K : List Nat} {j k g : Nat} (h : K[j]? = some k) (hk : nm.adr[k]? = some g) : (nmK nm K).adr[j]? = some g := by
  simp [nmK, h, hk]
theorem idxOf?_get {K : List Nat} {k j : Nat} (h : K.idxOf? k = some j) : K[j]? = some k := by
  rw [List.idxOf?_eq_some_iff] at h
  obtain ⟨h1, h2, _⟩ := h
  rw [List.getElem?_eq_getElem h1, h2]
theorem weak_renK (w : World) (own : Own) (nm : Nm) (K : List Nat) : Weak w own nm (nmK nm K) (CV.renK K) := by
  intro x v h
  cases x with
  | ms k o s n =>
    simp only [CV.renK]
    split
    · rename_i j hj
      obtain ⟨g, cap, rfl, h1, h2⟩ := h.msv
      exact .ms j o s n g cap (nmK_get (idxOf?_get hj) h1) h2.1 h2.2.1 h2.2.2.1 h2.2.2.2
    · exact .undef v
  | ptr k o =>
    simp only [CV.renK]
    split
    · rename_i j hj
      obtain ⟨g, rfl, h1⟩ := h.ptrv
      exact .ptr j o g (nmK_get (idxOf?_get hj) h1)
    · exact .undef v
  | mp k =>
    simp only [CV.renK]
    split
    · rename_i j hj
      obtain ⟨g, rfl, h1⟩ := h.mpv
      exact .mp j g (nmK_get (idxOf?_get hj) h1)
    · exact .undef v
  | fn f caps =>
    simp only [CV.renK]
    split
    · rename_i hall
      obtain ⟨us, rfl, h1, h2⟩ := h.fnv
      refine .fn f _ us (by simpa using h1) fun i k u hi hu => ?_
      rw [List.getElem?_map] at hi
      obtain ⟨k', hk', rfl⟩ := Option.map_eq_some_iff.1 hi
      obtain ⟨g, h3, h4⟩ := h2 i k' u hk' hu
      have hc : k' ∈ K := by simpa using List.all_eq_true.1 hall k' (List.mem_of_getElem? hk')
      refine ⟨g, ?_, h4⟩
      cases hq : K.idxOf? k' with
      | none => rw [List.idxOf?_eq_none_iff] at hq; exact absurd hc hq
      | some j => exact nmK_get (idxOf?_get hq) h3
    · exact .undef v
  | undef => exact .undef v
  | pv p => exact .pv h.pvv
  | own i sz es =>
    obtain ⟨g, cap, rfl, h1, h2, h3, h4⟩ := h.ownv
    exact .own i sz es g cap h1 h2 h3 h4
  | cptr l off => exact h.other rfl rfl
  | nilp => exact h.other rfl rfl
  | nilf => exact h.other rfl rfl
  | nilm => exact h.other rfl rfl
theorem nodupB_ok : ∀ {l : List Nat}, nodupB l = true → l.Nodup
  | [], _ => List.nodup_nil
  | x :: l, h => by
    simp only [nodupB, Bool.and_eq_true, Bool.not_eq_true'] at h
    refine List.nodup_cons.2 ⟨fun hm => ?_, nodupB_ok h.2⟩
    have := h.1
    simp [hm] at this
theorem weak_fresh {is : List Nat} {f : Nat → Nat} (ha : nm'.adr = nm.adr) (hs : nodupB is = true → ∀ p i, is[p]? = some i → nm'.sp (f p) = nm.sp i) : Weak w own nm nm' (freshIds f is) := by
  intro x v h
  unfold freshIds
  split
  · rename_i hn
    by_cases hx : x.ids = []
    · have : renIdBy is f x = x := by cases x <;> first | rfl | simp [CV.ids] at hx
      rw [this]
      exact h.sp ha (fun i hi => by rw [hx] at hi; simp at hi)
    · cases x with
      | own i sz es =>
        simp only [renIdBy]
        split
        · rename_i p hp
          obtain ⟨g, cap, rfl, h1, h2, h3, h4⟩ := h.ownv
          exact .own _ sz es g cap (by rw [hs hn p i (idxOf?_get hp)]; exact h1) h2 h3 h4
        · exact .pv h.shut
      | _ => simp [CV.ids] at hx
  · have := weak_shutAll w own nm nm'.sp x v h
    exact this.sp ha fun _ _ => rfl
def spNew (is : List Nat) (f : Nat → Nat) (sp : Nat → Option Nat) (j : Nat) : Option Nat :=
  if nodupB is then ((List.range is.length).find? fun p => f p == j).bind fun p => (is[p]?).bind sp else none
theorem spNew_some {is : List Nat} {f : Nat → Nat} {sp : Nat → Option Nat} {j g : Nat} (h : spNew is f sp j = some g) : nodupB is = true ∧ ∃ p i, f p = j ∧ p < is.length ∧ is[p]? = some i ∧ sp i = some g := by
  unfold spNew at h
  split at h
  · rename_i hn
    obtain ⟨p, h1, h2⟩ := Option.bind_eq_some_iff.1 h
    obtain ⟨i, h3, h4⟩ := Option.bind_eq_some_iff.1 h2
    have h5 := List.find?_some h1
    have h6 := List.mem_of_find?_eq_some h1
    exact ⟨hn, p, i, by simpa using h5, by simpa using h6, h3, h4⟩
  · cases h
theorem spNew_get {is : List Nat} {f : Nat → Nat} (hf : ∀ p q, f p = f q → p = q) {sp : Nat → Option Nat} (hn : nodupB is = true) {p i : Nat} (h : is[p]? = some i) : spNew is f sp (f p) = sp i := by
  unfold spNew
  rw [if_pos hn]
  have hp : p < is.length := (List.getElem?_eq_some_iff.1 h).1
  have : (List.range is.length).find? (fun q => f q == f p) = some p := by
    rw [List.find?_range_eq_some]
    refine ⟨by simp, by simpa using hp, fun j hj => ?_⟩
    simp only [Bool.not_eq_true', beq_eq_false_iff_ne]
    intro e
    have := hf _ _ e
    omega
  rw [this]
  simp [h]
theorem spNew_inj {is : List Nat} {f : Nat → Nat} {sp : Nat → Option Nat} (hsp : ∀ i j g, sp i = some g → sp j = some g → i = j) {i j g : Nat} (h : spNew is f sp i = some g) (k : spNew is f sp j = some g) : i = j := by
  obtain ⟨hn, p, a, rfl, h1, h2, h3⟩ := spNew_some h
  obtain ⟨_, q, b, rfl, k1, k2, k3⟩ := spNew_some k
  have := hsp _ _ _ h3 k3
  subst this
  have hh := nodupB_ok hn
  have : p = q := by
    rw [List.getElem?_eq_getElem h1] at h2
    rw [List.getElem?_eq_getElem k1] at k2
    exact (List.getElem_inj hh).1 ((Option.some.inj h2).trans (Option.some.inj k2).symm)
  rw [this]
theorem idOf_inj (d : Option Nat) (p q : Nat) (h : idOf d p = idOf d q) : p = q := by unfold idOf at h; omega
theorem getBs_ok {bx : List Box} : ∀ {K : List Nat} {sub : List Box}, getBs bx K = some sub → sub.length = K.length ∧ ∀ (j k : Nat), K[j]? = some k → ∃ b, bx[k]? = some b ∧ sub[j]? = some b
  | [], sub, h => by
    simp only [getBs, Option.some.injEq] at h; subst h
    exact ⟨rfl, fun j k h => by simp at h⟩
  | k :: K, sub, h => by
    simp only [getBs] at h
    split at h
    · rename_i b l h1 h2
      cases h
      obtain ⟨h3, h4⟩ := getBs_ok h2
      refine ⟨by simp [h3], fun j k' hj => ?_⟩
      cases j with
      | zero => simp only [List.getElem?_cons_zero, Option.some.injEq] at hj; subst hj; exact ⟨b, h1, rfl⟩
      | succ j => simp only [List.getElem?_cons_succ] at hj ⊢; exact h4 j k' hj
    · cases h
theorem setBs_len : ∀ (K : List Nat) (l m : List Box), (setBs l K m).length = l.length
  | [], l, m => by simp [setBs]
  | k :: K, l, [] => by simp [setBs]
  | k :: K, l, b :: m => by simp [setBs, setBs_len K]
theorem setBs_out : ∀ {K : List Nat} {l m : List Box} {k : Nat}, k ∉ K → (setBs l K m)[k]? = l[k]?
  | [], l, m, k, h => by simp [setBs]
  | q :: K, l, [], k, h => by simp [setBs]
  | q :: K, l, b :: m, k, h => by
    simp only [List.mem_cons, not_or] at h
    simp only [setBs]
    rw [setBs_out h.2, List.getElem?_set, if_neg (fun e => h.1 e.symm)]
theorem setBs_in : ∀ {K : List Nat} {l m : List Box} {j k : Nat} {b : Box}, K.Nodup → K[j]? = some k → m[j]? = some b → k < l.length → (setBs l K m)[k]? = some b
  | [], l, m, j, k, b, _, h, _, _ => by simp at h
  | q :: K, l, [], j, k, b, _, _, h, _ => by simp at h
  | q :: K, l, c :: m, j, k, b, hn, hj, hb, hl => by
    simp only [setBs]
    have hn' := List.nodup_cons.1 hn
    cases j with
    | zero =>
      simp only [List.getElem?_cons_zero, Option.some.injEq] at hj hb
      subst hj; subst hb
      rw [setBs_out hn'.1, List.getElem?_set, if_pos rfl, if_pos hl]
    | succ j =>
      simp only [List.getElem?_cons_succ] at hj hb
      exact setBs_in hn'.2 hj hb (by simpa using hl)
theorem reach_nodup (bx : List Box) : ∀ (n : Nat) (q acc : List Nat), acc.Nodup → (reach bx n q acc).Nodup
  | 0, q, acc, h => by cases q <;> exact h
  | n + 1, [], acc, h => h
  | n + 1, k :: r, acc, h => by
    simp only [reach]
    split
    · exact reach_nodup bx n r acc h
    · rename_i hc
      refine reach_nodup bx n _ _ ?_
      have : k ∉ acc := by simpa using hc
      exact List.nodup_append.2 ⟨h, by simp, by simp; intro a ha e; subst e; exact this ha⟩
open Classical in
noncomputable def ownFz (own : Own) (nm : Nm) (dies : Nat → Bool) : Own := fun g => if ∃ k : Nat, nm.adr[k]? = some g ∧ dies k = true then none else own g
theorem ownFz_in (dies : Nat → Bool) {k g : Nat} (h : nm.adr[k]? = some g) (hd : dies k = true) : ownFz own nm dies g = none := by
  unfold ownFz; rw [if_pos ⟨k, h, hd⟩]
theorem ownFz_not (dies : Nat → Bool) (hnd : nm.adr.Nodup) {k g : Nat} (h : nm.adr[k]? = some g) (hd : dies k = false) : ownFz own nm dies g = own g := by
  unfold ownFz
  rw [if_neg]
  rintro ⟨j, h1, h2⟩
  have a := (List.getElem?_eq_some_iff.1 h).1
  have b := (List.getElem?_eq_some_iff.1 h1).1
  have : k = j := (List.getElem_inj hnd).1 (by rw [(List.getElem?_eq_some_iff.1 h).2, (List.getElem?_eq_some_iff.1 h1).2] : nm.adr[k] = nm.adr[j])
  subst this
  rw [hd] at h2; cases h2
theorem ownFz_out (dies : Nat → Bool) {g : Nat} (h : g ∉ nm.adr) : ownFz own nm dies g = own g := by
  unfold ownFz
  rw [if_neg]
  rintro ⟨j, h1, _⟩
  exact h (List.mem_of_getElem? h1)
theorem ownFz_le (dies : Nat → Bool) {g L : Nat} (h : ownFz own nm dies g = some L) : own g = some L := by
  unfold ownFz at h
  split at h
  · cases h
  · exact h
theorem keepsFz (w : World) (own : Own) (nm : Nm) (dies : Nat → Bool) : Keeps w own w (ownFz own nm dies) := fun _ _ _ hv hp => ⟨hv, fun L hL => hp L (ownFz_le dies hL)⟩
theorem weak_freeze (hn : NmOk own nm) {bx : List Box} (hb : RB w own nm bx) (dies : Nat → Bool) : Weak2 w own nm w (ownFz own nm dies) nm (CV.freeze bx dies) := by
  intro x v h
  have hk := keepsFz w own nm dies
  cases x with
  | undef => exact .undef v
  | pv p => exact .pv (h.pvv.keeps hk)
  | own i sz es =>
    obtain ⟨g, cap, rfl, h1, h2, h3, h4⟩ := h.ownv
    exact .own i sz es g cap h1 ⟨h2.blk, by rw [ownFz_out dies (hn.row i g h1).1]; exact h2.own⟩ h3 (h4.keeps hk)
  | ms k off sz n =>
    obtain ⟨g, cap, rfl, h1, h2, h3, h4, h5⟩ := h.msv
    simp only [CV.freeze]
    split
    · rename_i hd
      split
      · rename_i es hes
        obtain ⟨b, hbk, hes⟩ := Option.bind_eq_some_iff.1 hes
        obtain ⟨us, ex, T, fz, hh, e1, e2⟩ := elems_ok (hb.box k g _ hbk h1) hes
        · have _u : True := trivial
          · have := (slAt_mem (w := w) (own := ownFz own nm dies) (so := .shut) (g := g) (off := off) e1 h2 h3 (.inl rfl) (fun i e he => ⟨(e2 i e he).1, fun j c hc => by
              obtain ⟨u, hu, hp⟩ := (e2 i e he).2 j c hc
              refine ⟨u, fr_cells hh ?_, fun L hL => ?_, hp.keeps hk⟩
              · have := (List.getElem?_eq_some_iff.1 hu).1
                simp only [List.getElem?_toArray]
                rw [List.getElem?_append_left this]
                exact hu
              · rw [ownFz_in dies h1 hd] at hL; cases hL⟩)).rp
            rw [e1] at this
            exact .pv this
      · exact .undef _
    · exact .ms k off sz n g cap h1 h2 h3 h4 h5
  | ptr k o =>
    obtain ⟨g, rfl, h1⟩ := h.ptrv
    simp only [CV.freeze]
    split
    · exact .undef _
    · exact .ptr k o g h1
  | cptr l o =>
    obtain ⟨g, q, us, rfl, h1⟩ := h.cptrv
    exact .cptr l o g q us fun j c hj => by
      obtain ⟨a, b, d⟩ := h1 j c hj
      obtain ⟨a', b'⟩ := hk _ _ _ a b
      exact ⟨a', b', d.keeps hk⟩
  | nilp => cases h; exact .nilp
  | fn f caps =>
    obtain ⟨us, rfl, h1, h2⟩ := h.fnv
    simp only [CV.freeze]
    split
    · exact .undef _
    · exact .fn f caps us h1 h2
  | nilf => cases h; exact .nilf
  | mp k =>
    obtain ⟨g, rfl, h1⟩ := h.mpv
    simp only [CV.freeze]
    split
    · exact .undef _
    · exact .mp k g h1
  | nilm => cases h; exact .nilm
theorem killB_get (dies : Nat → Bool) : ∀ (bx : List Box) (m k : Nat), (killB dies m bx)[k]? = (bx[k]?).map fun b => if dies (m + k) then .dead else b
  | [], m, k => by simp [killB]
  | b :: r, m, 0 => by simp [killB]
  | b :: r, m, k + 1 => by
    simp only [killB, List.getElem?_cons_succ]
    rw [killB_get dies r (m + 1) k, show m + 1 + k = m + (k + 1) by omega]
theorem killB_len (dies : Nat → Bool) : ∀ (bx : List Box) (m : Nat), (killB dies m bx).length = bx.length
  | [], m => rfl
  | b :: r, m => by simp [killB, killB_len dies r]
theorem Inv.freeze (I : Inv M w0 own0 w own nm st tmps) (dies : Nat → Bool) : Inv M w0 own0 w (ownFz own nm dies) nm (st.freeze dies) tmps := by
  have hw := weak_freeze I.nmok I.rb dies
  have hk := keepsFz w own nm dies
  refine ⟨⟨I.fr.os, I.fr.tape, I.fr.output, I.fr.size, I.fr.keeps.trans hk, fun g hlt hm => ?_, I.fr.sizes⟩, ⟨I.good.toGOk.keeps hk, fun g L h => I.good.lt g L (ownFz_le dies h)⟩, ⟨I.nmok.inj, fun i g hi => ?_⟩, ⟨?_, I.rb.nodup, I.rb.lt, fun k g b hb hg => ?_⟩, ?_, I.mineA, I.mineR, I.ext⟩
  · obtain ⟨h1, h2⟩ := I.fr.old g hlt hm
    refine ⟨h1, ?_⟩
    rw [ownFz_out dies]
    · exact h2
    · intro hg
      rcases I.mineA g hg with h | h
      · exact hm (.inl h)
      · omega
  · obtain ⟨h1, h2⟩ := I.nmok.row i g hi
    exact ⟨h1, by rw [ownFz_out dies h1]; exact h2⟩
  · simp [St.freeze, killB_len, I.rb.len]
  · simp only [St.freeze] at hb
    rw [killB_get, List.getElem?_map, Option.map_map] at hb
    obtain ⟨b0, h1, h2⟩ := Option.map_eq_some_iff.1 hb
    simp only [Function.comp_apply, Nat.zero_add] at h2
    split at h2
    · subst h2; exact .dead g
    · rename_i hd
      subst h2
      exact (I.rb.box k g b0 h1 hg).map2 hw hk rfl (ownFz_not dies I.rb.nodup hg (by simpa using hd))
  · exact I.rt.map fun x v _ h => h.map2 hw
end
end Go.Sx
