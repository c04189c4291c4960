/- What a call's frame keeps, while memory changes. -/
import Derived.Test.YtggopflifieoiaaDoorSxP2
namespace Go.Sx
open Go
def SameSize (w w' : World) : Prop := ∀ (g : Nat) cs T fz, w.heap[g]? = some (.cells cs T fz) → ∃ cs', w'.heap[g]? = some (.cells cs' T fz) ∧ cs'.size = cs.size
theorem SameSize.refl (w : World) : SameSize w w := fun _ cs _ _ h => ⟨cs, h, rfl⟩
theorem SameSize.trans {a b c : World} (h : SameSize a b) (k : SameSize b c) : SameSize a c := fun g cs T fz hb =>
  let ⟨cs', h1, h2⟩ := h g cs T fz hb
  let ⟨cs'', h3, h4⟩ := k g cs' T fz h1
  ⟨cs'', h3, h4.trans h2⟩
structure Fr (M : Nat → Prop) (w0 : World) (own0 : Own) (w : World) (own : Own) : Prop where
  os : w.os = w0.os
  tape : w.tape = w0.tape
  output : w.output = w0.output
  size : w0.heap.size ≤ w.heap.size
  keeps : Keeps w0 own0 w own
  old : ∀ g, g < w0.heap.size → ¬ M g → w.heap[g]? = w0.heap[g]? ∧ own g = own0 g
  sizes : SameSize w0 w
theorem Fr.refl (M : Nat → Prop) (w : World) (own : Own) : Fr M w own w own := ⟨rfl, rfl, rfl, Nat.le_refl _, Keeps.refl _ _, fun _ _ _ => ⟨rfl, rfl⟩, SameSize.refl _⟩
def Mod (nm : Nm) (g : Nat) : Prop := g ∈ nm.adr ∨ ∃ i, nm.sp i = some g
structure Inv (M : Nm) (w0 : World) (own0 : Own) (w : World) (own : Own) (nm : Nm) (st : St) (tmps : List Value) : Prop where
  fr : Fr (Mod M) w0 own0 w own
  good : Good w own
  nmok : NmOk own nm
  rb : RB w own nm st.bx
  rt : All2 (RA w own nm) st.tm tmps
  mineA : ∀ g ∈ nm.adr, g ∈ M.adr ∨ w0.heap.size ≤ g
  mineR : ∀ i g, nm.sp i = some g → (∃ j, M.sp j = some g) ∨ w0.heap.size ≤ g
  ext : ∀ (k g : Nat), M.adr[k]? = some g → nm.adr[k]? = some g
section
variable {M : Nm} {w0 w w' : World} {own0 own own' : Own} {nm nm' : Nm} {st : St} {tmps : List Value}
theorem NmOk.row_lt (h : NmOk own nm) (hg : Good w own) {i g : Nat} (hi : nm.sp i = some g) : g < w.heap.size := by
  have := (h.row i g hi).2
  cases ho : own g with
  | none => exact absurd ho this
  | some L => exact hg.lt g L ho
structure Grow (w w' : World) (o : Obj) : Prop where
  os : w'.os = w.os
  tape : w'.tape = w.tape
  output : w'.output = w.output
  heap : w'.heap = w.heap.push o
theorem Grow.old {o : Obj} (h : Grow w w' o) {g : Nat} (hg : g < w.heap.size) : w'.heap[g]? = w.heap[g]? := by
  rw [h.heap, Array.getElem?_push, if_neg (by omega)]
theorem Grow.new {o : Obj} (h : Grow w w' o) : w'.heap[w.heap.size]? = some o := by
  rw [h.heap, Array.getElem?_push, if_pos rfl]
theorem Grow.size {o : Obj} (h : Grow w w' o) : w'.heap.size = w.heap.size + 1 := by rw [h.heap]; simp
theorem cell_lt {g o : Nat} {v : Value} (h : w.cell? ⟨g, o, none⟩ = some v) : g < w.heap.size := by
  cases hh : w.heap[g]? with
  | none => simp [World.cell?, hh] at h
  | some x => exact (Array.getElem?_eq_some_iff.1 hh).1
def setOwn (own : Own) (g : Nat) (x : Option Nat) : Own := fun k => if k = g then x else own k
theorem Grow.keeps {o : Obj} (h : Grow w w' o) (x : Option Nat) : Keeps w own w' (setOwn own w.heap.size x) := by
  intro g i v hv hp
  have hlt := cell_lt hv
  refine ⟨?_, ?_⟩
  · rw [← hv]; exact World.cell?_of_block (w := w) (h.old hlt)
  · intro L hL
    simp only [setOwn, if_neg (Nat.ne_of_lt hlt)] at hL
    exact hp L hL
theorem Grow.same {o : Obj} (h : Grow w w' o) : SameSize w w' := fun g cs _ _ hb => ⟨cs, by rw [h.old (Array.getElem?_eq_some_iff.1 hb).1]; exact hb, rfl⟩
theorem Grow.fr {o : Obj} (h : Grow w w' o) (_hg : Good w own) (hf : Fr (Mod M) w0 own0 w own) (x : Option Nat) : Fr (Mod M) w0 own0 w' (setOwn own w.heap.size x) :=
  ⟨h.os.trans hf.os, h.tape.trans hf.tape, h.output.trans hf.output, by rw [h.size]; have := hf.size; omega, hf.keeps.trans (h.keeps x),
   fun g hlt hm => by
    obtain ⟨h1, h2⟩ := hf.old g hlt hm
    have hlt' : g < w.heap.size := Nat.lt_of_lt_of_le hlt hf.size
    exact ⟨(h.old hlt').trans h1, by simp only [setOwn, if_neg (Nat.ne_of_lt hlt')]; exact h2⟩, hf.sizes.trans h.same⟩
theorem Grow.good {o : Obj} (h : Grow w w' o) (hg : Good w own) (x : Option Nat) : Good w' (setOwn own w.heap.size x) := by
  refine ⟨hg.toGOk.keeps (h.keeps x), fun g L hL => ?_⟩
  rw [h.size]
  simp only [setOwn] at hL
  split at hL
  · omega
  · have := hg.lt g L hL; omega
theorem Grow.nmle {o : Obj} (h : Grow w w' o) (hg : Good w own) (hn : NmOk own nm) (hlt : ∀ g ∈ nm.adr, g < w.heap.size) (x : Option Nat) (ha : ∀ (k g : Nat), nm.adr[k]? = some g → nm'.adr[k]? = some g) (hs : ∀ i g, nm.sp i = some g → nm'.sp i = some g) :
    NmLe w own nm w' (setOwn own w.heap.size x) nm' where
  keeps := h.keeps x
  adr := ha
  rows := fun i g hi => by
    have := hn.row_lt hg hi
    exact ⟨hs i g hi, h.old this, by simp only [setOwn, if_neg (Nat.ne_of_lt this)]⟩
  size := fun g hg cs T _ hb => ⟨cs, by rw [h.old (hlt g hg)]; exact hb, rfl⟩
theorem Inv.plain (I : Inv M w0 own0 w own nm st tmps) {o : Obj} (h : Grow w w' o) : Inv M w0 own0 w' (setOwn own w.heap.size none) nm st tmps ∧ NmLe w own nm w' (setOwn own w.heap.size none) nm := by
  have hle : NmLe w own nm w' (setOwn own w.heap.size none) nm := h.nmle I.good I.nmok I.rb.lt none (fun _ _ h => h) (fun _ _ h => h)
  refine ⟨⟨h.fr I.good I.fr none, h.good I.good none, ⟨I.nmok.inj, fun i g hi => ?_⟩, ⟨I.rb.len, I.rb.nodup, fun g hg => ?_, fun k g b hb hk => ?_⟩, I.rt.imp fun _ _ => RA.le hle, I.mineA, I.mineR, I.ext⟩, hle⟩
  · have := I.nmok.row_lt I.good hi
    obtain ⟨h1, h2⟩ := I.nmok.row i g hi
    exact ⟨h1, by simp only [setOwn, if_neg (Nat.ne_of_lt this)]; exact h2⟩
  · rw [h.size]; have := I.rb.lt g hg; omega
  · have hlt := I.rb.lt g (List.mem_of_getElem? hk)
    exact (I.rb.box k g b hb hk).le hle (h.old hlt) (by simp only [setOwn, if_neg (Nat.ne_of_lt hlt)])
theorem Inv.box (I : Inv M w0 own0 w own nm st tmps) {o : Obj} (h : Grow w w' o) {b : Box} (hb : ∀ (nm' : Nm), NmLe w own nm w' (setOwn own w.heap.size (some 0)) nm' → RBx w' (setOwn own w.heap.size (some 0)) nm' b w.heap.size) :
    Inv M w0 own0 w' (setOwn own w.heap.size (some 0)) ⟨nm.adr ++ [w.heap.size], nm.sp⟩ ⟨st.tm, st.bx ++ [b]⟩ tmps ∧ NmLe w own nm w' (setOwn own w.heap.size (some 0)) ⟨nm.adr ++ [w.heap.size], nm.sp⟩ ∧ (nm.adr ++ [w.heap.size])[st.bx.length]? = some w.heap.size := by
  have hle : NmLe w own nm w' (setOwn own w.heap.size (some 0)) ⟨nm.adr ++ [w.heap.size], nm.sp⟩ := h.nmle I.good I.nmok I.rb.lt (some 0) (fun k g hk => by
      show (nm.adr ++ [w.heap.size])[k]? = some g
      rw [List.getElem?_append_left (List.getElem?_eq_some_iff.1 hk).1]; exact hk) (fun _ _ h => h)
  have hlast : (nm.adr ++ [w.heap.size])[st.bx.length]? = some w.heap.size := by rw [← I.rb.len]; simp
  refine ⟨⟨h.fr I.good I.fr _, h.good I.good _, ⟨I.nmok.inj, fun i g hi => ?_⟩, ⟨by simp [I.rb.len], ?_, fun g hg => ?_, fun k g b' hb' hk => ?_⟩, I.rt.imp fun _ _ => RA.le hle, fun g hg => ?_, I.mineR, fun k g hk => hle.adr k g (I.ext k g hk)⟩, hle, hlast⟩
  · have := I.nmok.row_lt I.good hi
    obtain ⟨h1, h2⟩ := I.nmok.row i g hi
    refine ⟨?_, by simp only [setOwn, if_neg (Nat.ne_of_lt this)]; exact h2⟩
    simp only [List.mem_append, List.mem_singleton, not_or]
    exact ⟨h1, Nat.ne_of_lt this⟩
  · rw [List.nodup_append]
    refine ⟨I.rb.nodup, by simp, fun x hx y hy => ?_⟩
    simp only [List.mem_singleton] at hy
    subst hy
    exact Nat.ne_of_lt (I.rb.lt x hx)
  · rw [h.size]
    simp only [List.mem_append, List.mem_singleton] at hg
    rcases hg with hg | rfl
    · have := I.rb.lt g hg; omega
    · omega
  · by_cases hkl : k < st.bx.length
    · rw [List.getElem?_append_left hkl] at hb'
      have hk' : nm.adr[k]? = some g := by
        have : (nm.adr ++ [w.heap.size])[k]? = some g := hk
        rwa [List.getElem?_append_left (by rw [I.rb.len]; exact hkl)] at this
      have hlt := I.rb.lt g (List.mem_of_getElem? hk')
      exact (I.rb.box k g b' hb' hk').le hle (h.old hlt) (by simp only [setOwn, if_neg (Nat.ne_of_lt hlt)])
    · have hk1 : k = st.bx.length := by
        have := (List.getElem?_eq_some_iff.1 hb').1
        simp at this; omega
      subst hk1
      have : g = w.heap.size := by
        have h1 : (nm.adr ++ [w.heap.size])[st.bx.length]? = some g := hk
        rw [hlast] at h1; cases h1; rfl
      subst this
      simp at hb'
      subst hb'
      exact hb _ hle
  · simp only [List.mem_append, List.mem_singleton] at hg
    rcases hg with hg | rfl
    · exact I.mineA g hg
    · exact .inr I.fr.size
theorem Inv.upd (I : Inv M w0 own0 w own nm st tmps) {k g : Nat} {b : Box} (hk : nm.adr[k]? = some g) (hkl : k < st.bx.length) (ho : own g = some 0) (hos : w'.os = w.os) (htp : w'.tape = w.tape) (hou : w'.output = w.output) (hsz : w'.heap.size = w.heap.size)
    (hot : ∀ j, j ≠ g → w'.heap[j]? = w.heap[j]?) (hcs : ∀ cs T fz, w.heap[g]? = some (.cells cs T fz) → ∃ cs', w'.heap[g]? = some (.cells cs' T fz) ∧ cs'.size = cs.size)
    (hb : NmLe w own nm w' own nm → RBx w' own nm b g) : Inv M w0 own0 w' own nm ⟨st.tm, st.bx.set k b⟩ tmps ∧ NmLe w own nm w' own nm := by
  have hkeep : Keeps w own w' own := by
    intro j o v hv hp
    have hj : j ≠ g := fun e => by subst e; have := hp 0 ho; omega
    exact ⟨by rw [← hv]; exact World.cell?_of_block (w := w) (hot j hj), hp⟩
  have hle : NmLe w own nm w' own nm := by
    refine ⟨hkeep, fun _ _ h => h, fun i j hi => ?_, fun j hj cs T fz hc => ?_⟩
    · have := (I.nmok.row i j hi).1
      have hjg : j ≠ g := fun e => this (e ▸ List.mem_of_getElem? hk)
      exact ⟨hi, hot j hjg, rfl⟩
    · by_cases e : j = g
      · subst e; exact hcs cs T fz hc
      · exact ⟨cs, by rw [hot j e]; exact hc, rfl⟩
  have hfr : Fr (Mod M) w0 own0 w' own := by
    refine ⟨hos.trans I.fr.os, htp.trans I.fr.tape, hou.trans I.fr.output, by rw [hsz]; exact I.fr.size, I.fr.keeps.trans hkeep, fun j hj hm => ?_, I.fr.sizes.trans fun j cs T fz hc => ?_⟩
    rotate_left
    · by_cases e : j = g
      · subst e; exact hcs cs T fz hc
      · exact ⟨cs, by rw [hot j e]; exact hc, rfl⟩
    obtain ⟨h1, h2⟩ := I.fr.old j hj hm
    have hjg : j ≠ g := fun e => by
      subst e
      rcases I.mineA j (List.mem_of_getElem? hk) with h | h
      · exact hm (.inl h)
      · omega
    exact ⟨(hot j hjg).trans h1, h2⟩
  refine ⟨⟨hfr, ⟨I.good.toGOk.keeps hkeep, fun j L hL => by rw [hsz]; exact I.good.lt j L hL⟩, I.nmok, ⟨by simp [I.rb.len], I.rb.nodup, fun j hj => by rw [hsz]; exact I.rb.lt j hj, fun k' j b' hb' hj => ?_⟩, I.rt.imp fun _ _ => RA.le hle, I.mineA, I.mineR, I.ext⟩, hle⟩
  rw [List.getElem?_set] at hb'
  by_cases e : k = k'
  · subst e
    rw [if_pos rfl, if_pos hkl] at hb'
    cases hb'
    rw [hk] at hj; cases hj
    exact hb hle
  · rw [if_neg e] at hb'
    have hjg : j ≠ g := fun e' => by
      subst e'
      have h1 := (List.getElem?_eq_some_iff.1 hk).1
      have h2 := (List.getElem?_eq_some_iff.1 hj).1
      exact e ((List.getElem_inj I.rb.nodup).1 (by rw [(List.getElem?_eq_some_iff.1 hk).2, (List.getElem?_eq_some_iff.1 hj).2] : nm.adr[k] = nm.adr[k']))
    exact (I.rb.box k' j b' hb' hj).le hle (hot j hjg) rfl
end
end Go.Sx
