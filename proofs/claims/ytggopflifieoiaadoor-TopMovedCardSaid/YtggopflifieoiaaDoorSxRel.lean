/- How the evaluator's values stand to the machine's: relations, and that they last. -/
import Derived.Test.YtggopflifieoiaaDoorSxDefs
import Derived.Orders
import Derived.Scope
import Derived.LoopN
import Derived.Below
namespace Go.Sx
abbrev Own := Nat → Option Nat
def Pr (own : Own) (g o : Nat) : Prop := ∀ L, own g = some L → o < L
inductive RP (w : World) (own : Own) : PV → Value → Prop
  | bool (b) : RP w own (.bool b) (.bool b)
  | int (k n) : RP w own (.int k n) (.int k n)
  | str (l) : RP w own (.str l) (.string ⟨l.toArray⟩)
  | agg (cs : List PV) (us : List Value) (hl : us.length = cs.length)
      (h : ∀ (i : Nat) (c : PV) (u : Value), cs[i]? = some c → us[i]? = some u → RP w own c u) : RP w own (.agg cs) (.agg us.toArray)
  | sl (o : SO) (sz : Nat) (es : List PV) (a : Option Addr) (cap : Nat) (us : Nat → Nat → Value)
      (hcap : es.length ≤ cap) (hmx : cap ≤ maxLen)
      (hnil : o = .nil → a = none) (hnn : o ≠ .nil → a ≠ none) (hf : o = .full → cap = es.length)
      (h0 : a = none → es = [] ∧ cap = 0)
      (hs : ∀ (i : Nat) (e : PV), es[i]? = some e → e.cells.length = sz ∧ ∀ c ∈ e.cells, c.flat = true)
      (hm : ∀ ad, a = some ad → 0 < es.length → ad.spot = none ∧ ∀ i j, i < es.length → j < sz →
        w.cell? ⟨ad.block, ad.off + i * sz + j, none⟩ = some (us i j) ∧ Pr own ad.block (ad.off + i * sz + j))
      (he : ∀ (i j : Nat) (e c : PV), es[i]? = some e → e.cells[j]? = some c → RP w own c (us i j)) :
      RP w own (.sl o sz es) (.slice a es.length cap)
def Keeps (w : World) (own : Own) (w' : World) (own' : Own) : Prop :=
  ∀ g o v, w.cell? ⟨g, o, none⟩ = some v → Pr own g o → w'.cell? ⟨g, o, none⟩ = some v ∧ Pr own' g o
theorem Keeps.refl (w : World) (own : Own) : Keeps w own w own := fun _ _ _ h k => ⟨h, k⟩
theorem Keeps.trans {a b c : World} {o p q : Own} (h : Keeps a o b p) (k : Keeps b p c q) : Keeps a o c q :=
  fun g i v hv hp => let ⟨x, y⟩ := h g i v hv hp; k g i v x y
theorem RP.keeps {w w' : World} {own own' : Own} (h : Keeps w own w' own') {p : PV} {v : Value} (hr : RP w own p v) : RP w' own' p v := by
  induction hr with
  | bool b => exact .bool b
  | int k n => exact .int k n
  | str l => exact .str l
  | agg cs us hl _ ih => exact .agg cs us hl ih
  | sl o sz es a cap us hcap hmx hnil hnn hf h0 hs hm _ ih =>
    refine .sl o sz es a cap us hcap hmx hnil hnn hf h0 hs (fun ad ha hp => ?_) ih
    obtain ⟨h1, h2⟩ := hm ad ha hp
    refine ⟨h1, fun i j hi hj => ?_⟩
    obtain ⟨h3, h4⟩ := h2 i j hi hj
    exact h _ _ _ h3 h4
structure SlAt (w : World) (own : Own) (o : SO) (sz : Nat) (es : List PV) (a : Option Addr) (cap : Nat) : Prop where
  fits : es.length ≤ cap
  mx : cap ≤ maxLen
  nil : o = .nil → a = none
  nn : o ≠ .nil → a ≠ none
  full : o = .full → cap = es.length
  z : a = none → es = [] ∧ cap = 0
  el : ∀ (i : Nat) (e : PV), es[i]? = some e → e.cells.length = sz ∧ ∀ c ∈ e.cells, c.flat = true
  mem : ∃ (us : Nat → Nat → Value),
    (∀ ad, a = some ad → 0 < es.length → ad.spot = none ∧ ∀ i j, i < es.length → j < sz →
        w.cell? ⟨ad.block, ad.off + i * sz + j, none⟩ = some (us i j) ∧ Pr own ad.block (ad.off + i * sz + j)) ∧
    ∀ (i j : Nat) (e c : PV), es[i]? = some e → e.cells[j]? = some c → RP w own c (us i j)
theorem RP.slv {w : World} {own : Own} {o : SO} {sz : Nat} {es : List PV} {v : Value} (h : RP w own (.sl o sz es) v) : ∃ a cap, v = .slice a es.length cap ∧ SlAt w own o sz es a cap := by
  cases h with
  | sl _ _ _ a cap us h1 h2 h3 h4 h5 h6 h7 h8 h9 => exact ⟨a, cap, rfl, ⟨h1, h2, h3, h4, h5, h6, h7, ⟨us, h8, h9⟩⟩⟩
theorem SlAt.rp {w : World} {own : Own} {o : SO} {sz : Nat} {es : List PV} {a : Option Addr} {cap : Nat} (h : SlAt w own o sz es a cap) : RP w own (.sl o sz es) (.slice a es.length cap) := by
  obtain ⟨h1, h2, h3, h4, h5, h6, h7, ⟨us, h8, h9⟩⟩ := h
  exact .sl o sz es a cap us h1 h2 h3 h4 h5 h6 h7 h8 h9
structure RowAt (w : World) (own : Own) (g sz n cap : Nat) : Prop where
  blk : ∃ cs T, w.heap[g]? = some (.cells cs T (0, 0)) ∧ cs.size = cap * sz
  own : own g = some (n * sz)
structure Nm where
  adr : List Nat
  sp : Nat → Option Nat
def TC (w : World) (g : Nat) (l : List Value) (T : TypeId) : Prop := ∃ fz : Nat × Nat, w.heap[g]? = some (.cells l.toArray T fz) ∧ (fz = (0, 0) ∨ l.length ≤ fz.1)
theorem TC.of_heap {w w' : World} {g : Nat} {l : List Value} {T : TypeId} (h : TC w g l T) (hb : w'.heap[g]? = w.heap[g]?) : TC w' g l T := by unfold TC; rw [hb]; exact h
inductive RC (w : World) (own : Own) (nm : Nm) : CV → Value → Prop
  | undef (v) : RC w own nm .undef v
  | pv {p : PV} {v : Value} (h : RP w own p v) : RC w own nm (.pv p) v
  | own (i sz : Nat) (es : List PV) (g cap : Nat) (hsp : nm.sp i = some g) (hrow : RowAt w own g sz es.length cap) (hcap : es.length ≤ cap)
      (h : RP w own (.sl .shut sz es) (.slice (some ⟨g, 0, none⟩) es.length cap)) :
      RC w own nm (.own i sz es) (.slice (some ⟨g, 0, none⟩) es.length cap)
  | ms (k off sz n : Nat) (g cap : Nat) (hk : nm.adr[k]? = some g) (hcap : n ≤ cap) (hmx : cap ≤ maxLen) (hsz : 0 < sz)
      (hb : ∃ cs T fz, w.heap[g]? = some (.cells cs T fz) ∧ off + cap * sz = cs.size) :
      RC w own nm (.ms k off sz n) (.slice (some ⟨g, off, none⟩) n cap)
  | ptr (k off g : Nat) (hk : nm.adr[k]? = some g) : RC w own nm (.ptr k off) (.pointer (some ⟨g, off, none⟩))
  | cptr (cells : List PV) (off g o : Nat) (us : Nat → Value)
      (h : ∀ (j : Nat) (c : PV), cells[j]? = some c → w.cell? ⟨g, o + j, none⟩ = some (us j) ∧ Pr own g (o + j) ∧ RP w own c (us j)) :
      RC w own nm (.cptr cells off) (.pointer (some ⟨g, o + off, none⟩))
  | nilp : RC w own nm .nilp (.pointer none)
  | fn (f : Nat) (caps : List Nat) (us : List Value) (hl : us.length = caps.length)
      (h : ∀ (i k : Nat) (u : Value), caps[i]? = some k → us[i]? = some u → ∃ g, nm.adr[k]? = some g ∧ u = .pointer (some ⟨g, 0, none⟩)) :
      RC w own nm (.fn f caps) (.func (.func f) #[] us.toArray)
  | nilf : RC w own nm .nilf .nilFunc
  | mp (k g : Nat) (hk : nm.adr[k]? = some g) : RC w own nm (.mp k) (.map (some g))
  | nilm : RC w own nm .nilm (.map none)
section
variable {w : World} {own : Own} {nm : Nm} {v : Value}
theorem RC.ptrv {k off : Nat} (h : RC w own nm (.ptr k off) v) : ∃ g, v = .pointer (some ⟨g, off, none⟩) ∧ nm.adr[k]? = some g := by
  cases h with | ptr _ _ g hk => exact ⟨g, rfl, hk⟩
theorem RC.cptrv {cells : List PV} {off : Nat} (h : RC w own nm (.cptr cells off) v) : ∃ (g o : Nat) (us : Nat → Value), v = .pointer (some ⟨g, o + off, none⟩) ∧
    ∀ (j : Nat) (c : PV), cells[j]? = some c → w.cell? ⟨g, o + j, none⟩ = some (us j) ∧ Pr own g (o + j) ∧ RP w own c (us j) := by
  cases h with | cptr _ _ g o us h => exact ⟨g, o, us, rfl, h⟩
theorem RC.fnv {f : Nat} {caps : List Nat} (h : RC w own nm (.fn f caps) v) : ∃ us : List Value, v = .func (.func f) #[] us.toArray ∧ us.length = caps.length ∧
    ∀ (i k : Nat) (u : Value), caps[i]? = some k → us[i]? = some u → ∃ g, nm.adr[k]? = some g ∧ u = .pointer (some ⟨g, 0, none⟩) := by
  cases h with | fn _ _ us a b => exact ⟨us, rfl, a, b⟩
theorem RC.msv {k off sz n : Nat} (h : RC w own nm (.ms k off sz n) v) : ∃ g cap, v = .slice (some ⟨g, off, none⟩) n cap ∧ nm.adr[k]? = some g ∧ n ≤ cap ∧ cap ≤ maxLen ∧ 0 < sz ∧
    ∃ cs T fz, w.heap[g]? = some (.cells cs T fz) ∧ off + cap * sz = cs.size := by
  cases h with | ms _ _ _ _ g cap a b c d e => exact ⟨g, cap, rfl, a, b, c, d, e⟩
theorem RC.ownv {i sz : Nat} {es : List PV} (h : RC w own nm (.own i sz es) v) : ∃ g cap, v = .slice (some ⟨g, 0, none⟩) es.length cap ∧ nm.sp i = some g ∧ RowAt w own g sz es.length cap ∧ es.length ≤ cap ∧
    RP w own (.sl .shut sz es) (.slice (some ⟨g, 0, none⟩) es.length cap) := by
  cases h with | own _ _ _ g cap a b c d => exact ⟨g, cap, rfl, a, b, c, d⟩
theorem RC.mpv {k : Nat} (h : RC w own nm (.mp k) v) : ∃ g, v = .map (some g) ∧ nm.adr[k]? = some g := by
  cases h with | mp _ g hk => exact ⟨g, rfl, hk⟩
theorem RC.pvv {p : PV} (h : RC w own nm (.pv p) v) : RP w own p v := by
  cases h with | pv h => exact h
end
def All2 {α β : Type} (R : α → β → Prop) (l : List α) (m : List β) : Prop :=
  m.length = l.length ∧ ∀ (i : Nat) (a : α) (b : β), l[i]? = some a → m[i]? = some b → R a b
inductive RA0 (w : World) (own : Own) (nm : Nm) : AV → Value → Prop
  | c {x : CV} {v : Value} (h : RC w own nm x v) : RA0 w own nm (.c x) v
  | agg (cs : List CV) (us : List Value) (h : All2 (RC w own nm) cs us) : RA0 w own nm (.agg cs) (.agg us.toArray)
inductive RA (w : World) (own : Own) (nm : Nm) : AV → Value → Prop
  | of {a : AV} {v : Value} (h : RA0 w own nm a v) : RA w own nm a v
  | tup (vs : List AV) (us : List Value) (h : All2 (RA0 w own nm) vs us) : RA w own nm (.tup vs) (.tuple us.toArray)
inductive RM (w : World) (own : Own) : List (PV × PV) → List MapEntry → Prop
  | nil : RM w own [] []
  | cons {k v : PV} {r : List (PV × PV)} {e : MapEntry} {l : List MapEntry} (hk : RP w own k e.key) (hv : RP w own v e.val) (h : RM w own r l) : RM w own ((k, v) :: r) (e :: l)
theorem RM.len {w : World} {own : Own} {kv : List (PV × PV)} {l : List MapEntry} (h : RM w own kv l) : l.length = kv.length := by
  induction h with
  | nil => rfl
  | cons _ _ _ ih => simp [ih]
def Born (es : Array MapEntry) (clock : Nat) : Prop := clock = es.size ∧ ∀ (i : Nat) (e : MapEntry), es[i]? = some e → e.born = i
inductive RBr (w : World) (own : Own) (nm : Nm) (cs : List CV) (g : Nat) : Prop
  | mk (us : List Value) (ex : List Value) (T : TypeId) (hb : TC w g (us ++ ex) T) (ho : own g = some 0) (h : All2 (RC w own nm) cs us) : RBr w own nm cs g
inductive RBx (w : World) (own : Own) (nm : Nm) : Box → Nat → Prop
  | cells (cs : List CV) (g : Nat) (us : List Value) (T : TypeId) (hb : TC w g us T) (ho : own g = some 0)
      (h : All2 (RC w own nm) cs us) : RBx w own nm (.cells cs) g
  | map (kv : List (PV × PV)) (g : Nat) (es : Array MapEntry) (clock : Nat) (hb : w.heap[g]? = some (.map es clock)) (ho : own g = some 0) (h : RM w own kv es.toList) (hc : Born es clock) : RBx w own nm (.map kv) g
  | iter (l : List UInt8) (pos g : Nat) (hb : w.heap[g]? = some (.stringIter ⟨l.toArray⟩ pos)) (ho : own g = some 0) : RBx w own nm (.iter l pos) g
  | row (sz : Nat) (es : List PV) (g : Nat) (h : RBr w own nm (flatR es) g) (he : es.all (rowE sz) = true) (hs : 0 < sz) : RBx w own nm (.row sz es) g
  | dead (g : Nat) : RBx w own nm .dead g
structure RB (w : World) (own : Own) (nm : Nm) (bx : List Box) : Prop where
  len : nm.adr.length = bx.length
  nodup : nm.adr.Nodup
  lt : ∀ g ∈ nm.adr, g < w.heap.size
  box : ∀ (k g : Nat) (b : Box), bx[k]? = some b → nm.adr[k]? = some g → RBx w own nm b g
structure NmOk (own : Own) (nm : Nm) : Prop where
  inj : ∀ i j g, nm.sp i = some g → nm.sp j = some g → i = j
  row : ∀ i g, nm.sp i = some g → g ∉ nm.adr ∧ own g ≠ none
class GOk (w : World) (own : Own) : Prop where
  glob : ∀ g cells, globs g = some cells → ∃ us : Nat → Value, ∀ (j : Nat) (c : PV), cells[j]? = some c → w.cell? ⟨g, 0 + j, none⟩ = some (us j) ∧ Pr own g (0 + j) ∧ RP w own c (us j)
theorem GOk.keeps {w w' : World} {own own' : Own} (h : GOk w own) (k : Keeps w own w' own') : GOk w' own' := ⟨fun g cells hg => by
  obtain ⟨us, hc⟩ := h.glob g cells hg
  refine ⟨us, fun j c hj => ?_⟩
  obtain ⟨a, b, d⟩ := hc j c hj
  obtain ⟨a', b'⟩ := k _ _ _ a b
  exact ⟨a', b', d.keeps k⟩⟩
structure Good (w : World) (own : Own) : Prop extends GOk w own where
  lt : ∀ g L, own g = some L → g < w.heap.size
theorem RowAt.keep {w w' : World} {own own' : Own} {g sz n cap : Nat} (h : RowAt w own g sz n cap) (hb : w'.heap[g]? = w.heap[g]?) (ho : own' g = own g) : RowAt w' own' g sz n cap :=
  ⟨by rw [hb]; exact h.blk, by rw [ho]; exact h.own⟩
structure NmLe (w : World) (own : Own) (nm : Nm) (w' : World) (own' : Own) (nm' : Nm) : Prop where
  keeps : Keeps w own w' own'
  adr : ∀ (k g : Nat), nm.adr[k]? = some g → nm'.adr[k]? = some g
  rows : ∀ i g, nm.sp i = some g → nm'.sp i = some g ∧ w'.heap[g]? = w.heap[g]? ∧ own' g = own g
  size : ∀ (g : Nat), g ∈ nm.adr → ∀ cs T fz, w.heap[g]? = some (.cells cs T fz) → ∃ cs', w'.heap[g]? = some (.cells cs' T fz) ∧ cs'.size = cs.size
theorem NmLe.refl (w : World) (own : Own) (nm : Nm) : NmLe w own nm w own nm :=
  ⟨Keeps.refl _ _, fun _ _ h => h, fun _ _ h => ⟨h, rfl, rfl⟩, fun _ _ cs _ _ h => ⟨cs, h, rfl⟩⟩
theorem NmLe.trans {w w' w'' : World} {own own' own'' : Own} {nm nm' nm'' : Nm} (h : NmLe w own nm w' own' nm') (k : NmLe w' own' nm' w'' own'' nm'') : NmLe w own nm w'' own'' nm'' where
  keeps := h.keeps.trans k.keeps
  adr := fun i g hi => k.adr i g (h.adr i g hi)
  rows := fun i g hi => by
    obtain ⟨a, b, c⟩ := h.rows i g hi
    obtain ⟨a', b', c'⟩ := k.rows i g a
    exact ⟨a', b'.trans b, c'.trans c⟩
  size := fun g hg cs T fz hb => by
    obtain ⟨cs', h1, h2⟩ := h.size g hg cs T fz hb
    obtain ⟨i, hi⟩ := List.mem_iff_getElem?.1 hg
    obtain ⟨cs'', h3, h4⟩ := k.size g (List.mem_iff_getElem?.2 ⟨i, h.adr i g hi⟩) cs' T fz h1
    exact ⟨cs'', h3, h4.trans h2⟩
theorem RC.le {w w' : World} {own own' : Own} {nm nm' : Nm} (h : NmLe w own nm w' own' nm') {x : CV} {v : Value} (hr : RC w own nm x v) : RC w' own' nm' x v := by
  cases hr with
  | undef v => exact .undef v
  | pv hp => exact .pv (hp.keeps h.keeps)
  | own i sz es g cap hsp hrow hcap hp =>
    obtain ⟨a, b, c⟩ := h.rows i g hsp
    exact .own i sz es g cap a (hrow.keep b c) hcap (hp.keeps h.keeps)
  | ms k off sz n g cap hk hcap hmx hsz hb =>
    obtain ⟨cs, T, fz, h1, h2⟩ := hb
    obtain ⟨cs', h3, h4⟩ := h.size g (List.mem_iff_getElem?.2 ⟨k, hk⟩) cs T fz h1
    exact .ms k off sz n g cap (h.adr _ _ hk) hcap hmx hsz ⟨cs', T, fz, h3, by omega⟩
  | ptr k off g hk => exact .ptr k off g (h.adr _ _ hk)
  | cptr cells off g o us hc =>
    refine .cptr cells off g o us fun j c hj => ?_
    obtain ⟨a, b, d⟩ := hc j c hj
    obtain ⟨a', b'⟩ := h.keeps _ _ _ a b
    exact ⟨a', b', d.keeps h.keeps⟩
  | nilp => exact .nilp
  | fn f caps us hl hc => exact .fn f caps us hl fun i k u hi hu => let ⟨g, hg, e⟩ := hc i k u hi hu; ⟨g, h.adr _ _ hg, e⟩
  | nilf => exact .nilf
  | mp k g hk => exact .mp k g (h.adr _ _ hk)
  | nilm => exact .nilm
theorem All2.imp {α β : Type} {R S : α → β → Prop} {l : List α} {m : List β} (h : All2 R l m) (k : ∀ a b, R a b → S a b) : All2 S l m :=
  ⟨h.1, fun i a b ha hb => k a b (h.2 i a b ha hb)⟩
theorem All2.nil {α β : Type} {R : α → β → Prop} : All2 R ([] : List α) ([] : List β) := ⟨rfl, fun _ _ _ h => by simp at h⟩
theorem All2.cons {α β : Type} {R : α → β → Prop} {a : α} {b : β} {l : List α} {m : List β} (h : R a b) (k : All2 R l m) : All2 R (a :: l) (b :: m) :=
  ⟨by simp [k.1], fun i x y hx hy => by
    cases i with
    | zero => simp at hx hy; subst hx; subst hy; exact h
    | succ i => exact k.2 i x y (by simpa using hx) (by simpa using hy)⟩
theorem All2.of_cons {α β : Type} {R : α → β → Prop} {a : α} {l : List α} {m : List β} (h : All2 R (a :: l) m) : ∃ b m', m = b :: m' ∧ R a b ∧ All2 R l m' := by
  cases m with
  | nil => have := h.1; simp at this
  | cons b m' => exact ⟨b, m', rfl, h.2 0 a b rfl rfl, ⟨by have := h.1; simpa using this, fun i x y hx hy => h.2 (i + 1) x y (by simpa using hx) (by simpa using hy)⟩⟩
theorem All2.of_nil {α β : Type} {R : α → β → Prop} {m : List β} (h : All2 R ([] : List α) m) : m = [] := by
  have := h.1; exact List.eq_nil_of_length_eq_zero (by simpa using this)
theorem All2.get {α β : Type} {R : α → β → Prop} {l : List α} {m : List β} (h : All2 R l m) {i : Nat} {a : α} (ha : l[i]? = some a) : ∃ b, m[i]? = some b ∧ R a b := by
  have hi : i < l.length := (List.getElem?_eq_some_iff.1 ha).1
  have hi' : i < m.length := by rw [h.1]; exact hi
  exact ⟨m[i], List.getElem?_eq_getElem hi', h.2 i a _ ha (List.getElem?_eq_getElem hi')⟩
theorem All2.append {α β : Type} {R : α → β → Prop} {l l' : List α} {m m' : List β} (h : All2 R l m) (k : All2 R l' m') : All2 R (l ++ l') (m ++ m') := by
  induction l generalizing m with
  | nil => rw [All2.of_nil h]; exact k
  | cons a l ih =>
    obtain ⟨b, m2, rfl, h1, h2⟩ := All2.of_cons h
    exact All2.cons h1 (ih h2)
theorem All2.set {α β : Type} {R : α → β → Prop} {l : List α} {m : List β} (h : All2 R l m) (i : Nat) {a : α} {b : β} (hab : R a b) : All2 R (l.set i a) (m.set i b) := by
  refine ⟨by simp [h.1], fun j x y hx hy => ?_⟩
  rw [List.getElem?_set] at hx hy
  by_cases e : i = j
  · subst e
    by_cases hl : i < l.length
    · rw [if_pos rfl, if_pos hl] at hx
      rw [if_pos rfl, if_pos (by rw [h.1]; exact hl)] at hy
      cases hx; cases hy; exact hab
    · rw [if_pos rfl, if_neg hl] at hx; cases hx
  · rw [if_neg e] at hx hy
    exact h.2 j x y hx hy
theorem All2.map {α β γ : Type} {R : α → β → Prop} {S : γ → β → Prop} {f : α → γ} {l : List α} {m : List β} (h : All2 R l m) (k : ∀ a b, a ∈ l → R a b → S (f a) b) : All2 S (l.map f) m := by
  refine ⟨by simp [h.1], fun i a b ha hb => ?_⟩
  rw [List.getElem?_map] at ha
  obtain ⟨x, hx, rfl⟩ := Option.map_eq_some_iff.1 ha
  exact k x b (List.mem_of_getElem? hx) (h.2 i x b hx hb)
theorem All2.take {α β : Type} {R : α → β → Prop} {l : List α} {m : List β} (h : All2 R l m) (n : Nat) : All2 R (l.take n) (m.take n) := by
  refine ⟨by simp [h.1], fun i a b ha hb => ?_⟩
  rw [List.getElem?_take] at ha hb
  by_cases e : i < n
  · rw [if_pos e] at ha hb; exact h.2 i a b ha hb
  · rw [if_neg e] at ha; cases ha
theorem All2.drop {α β : Type} {R : α → β → Prop} {l : List α} {m : List β} (h : All2 R l m) (n : Nat) : All2 R (l.drop n) (m.drop n) := by
  refine ⟨by simp [h.1], fun i a b ha hb => ?_⟩
  rw [List.getElem?_drop] at ha hb
  exact h.2 _ a b ha hb
theorem RA0.le {w w' : World} {own own' : Own} {nm nm' : Nm} (h : NmLe w own nm w' own' nm') {x : AV} {v : Value} (hr : RA0 w own nm x v) : RA0 w' own' nm' x v := by
  cases hr with
  | c hx => exact .c (hx.le h)
  | agg cs us hx => exact .agg cs us (hx.imp fun _ _ => RC.le h)
theorem RA.le {w w' : World} {own own' : Own} {nm nm' : Nm} (h : NmLe w own nm w' own' nm') {x : AV} {v : Value} (hr : RA w own nm x v) : RA w' own' nm' x v := by
  cases hr with
  | of hx => exact .of (hx.le h)
  | tup vs us hx => exact .tup vs us (hx.imp fun _ _ => RA0.le h)
theorem RM.keeps {w w' : World} {own own' : Own} (h : Keeps w own w' own') {kv : List (PV × PV)} {l : List MapEntry} (hr : RM w own kv l) : RM w' own' kv l := by
  induction hr with
  | nil => exact .nil
  | cons hk hv _ ih => exact .cons (hk.keeps h) (hv.keeps h) ih
theorem RP.plain0 {w w' : World} {own own' : Own} {p : PV} {v : Value} (h : RP w own p v) (hp : p.plain0 = true) : RP w' own' p v := by
  cases h with
  | bool b => exact .bool b
  | int k n => exact .int k n
  | str l => exact .str l
  | agg => cases hp
  | sl => cases hp
theorem rowE_cells {sz : Nat} {e : PV} (h : rowE sz e = true) : e.cells.length = sz ∧ ∀ c ∈ e.cells, c.plain0 = true := by
  cases e with
  | agg cs =>
    simp only [rowE, Bool.and_eq_true, beq_iff_eq, List.all_eq_true] at h
    exact ⟨h.1.1.1, h.2⟩
  | _ =>
    simp only [rowE, Bool.and_eq_true, beq_iff_eq] at h
    exact ⟨h.1.symm, fun c hc => by simp only [PV.cells, List.mem_singleton] at hc; subst hc; exact h.2⟩
theorem PV.plain0_flat {p : PV} (h : p.plain0 = true) : p.flat = true := by
  cases p <;> first | rfl | cases h
theorem flatR_len {sz : Nat} : ∀ {es : List PV}, (∀ e ∈ es, rowE sz e = true) → (flatR es).length = es.length * sz
  | [], _ => by simp [flatR]
  | e :: es, h => by
    have h1 := (rowE_cells (h e (by simp))).1
    have h2 := flatR_len (es := es) fun e he => h e (by simp [he])
    simp only [flatR, List.flatMap_cons, List.length_append, List.length_map] at h2 ⊢
    rw [h1, h2, List.length_cons, Nat.succ_mul]; omega
theorem flatR_append (a b : List PV) : flatR (a ++ b) = flatR a ++ flatR b := by simp [flatR]
theorem flatR_mem {sz : Nat} {es : List PV} (h : ∀ e ∈ es, rowE sz e = true) {x : CV} (hx : x ∈ flatR es) : ∃ p, x = .pv p ∧ p.plain0 = true := by
  simp only [flatR, List.mem_flatMap, List.mem_map] at hx
  obtain ⟨e, he, p, hp, rfl⟩ := hx
  exact ⟨p, rfl, (rowE_cells (h e he)).2 p hp⟩
theorem flatR_get {sz : Nat} : ∀ {es : List PV} {i j : Nat} {e c : PV}, (∀ e ∈ es, rowE sz e = true) → es[i]? = some e → e.cells[j]? = some c → (flatR es)[i * sz + j]? = some (.pv c)
  | [], i, j, e, c, _, hi, _ => by simp at hi
  | a :: es, 0, j, e, c, h, hi, hc => by
    simp only [List.getElem?_cons_zero, Option.some.injEq] at hi
    subst hi
    have hj := (List.getElem?_eq_some_iff.1 hc).1
    simp only [flatR, List.flatMap_cons, Nat.zero_mul, Nat.zero_add]
    rw [List.getElem?_append_left (by simpa using hj), List.getElem?_map, hc]
    rfl
  | a :: es, i + 1, j, e, c, h, hi, hc => by
    have h1 := (rowE_cells (h a (by simp))).1
    have := flatR_get (es := es) (fun e he => h e (by simp [he])) (by simpa using hi) hc
    simp only [flatR, List.flatMap_cons] at this ⊢
    rw [List.getElem?_append_right (by simp only [List.length_map, h1, Nat.succ_mul]; omega), List.length_map, h1, show (i + 1) * sz + j - sz = i * sz + j by rw [Nat.succ_mul]; omega]
    exact this
theorem flatR_split {sz : Nat} {es : List PV} {i : Nat} {e : PV} (h : ∀ e ∈ es, rowE sz e = true) (hi : es[i]? = some e) :
    flatR es = flatR (es.take i) ++ e.cells.map .pv ++ flatR (es.drop (i + 1)) ∧ (flatR (es.take i)).length = i * sz := by
  have hl := (List.getElem?_eq_some_iff.1 hi).1
  have he := (List.getElem?_eq_some_iff.1 hi).2
  constructor
  · conv => lhs; rw [← List.take_append_drop i es, flatR_append, List.drop_eq_getElem_cons hl, he]
    simp only [flatR, List.flatMap_cons, List.append_assoc]
  · rw [flatR_len fun e he => h e (List.mem_of_mem_take he), List.length_take, Nat.min_eq_left (Nat.le_of_lt hl)]
theorem take_row {sz : Nat} {es : List PV} {i : Nat} {e : PV} (h : ∀ e ∈ es, rowE sz e = true) (hi : es[i]? = some e) : ∀ (n c : Nat) (l : List CV), takeC n e.cells c = some l → takeB n (flatR es) (i * sz + c) = some l
  | 0, c, l, hl => by simpa [takeC, takeB] using hl
  | n + 1, c, l, hl => by
    simp only [takeC] at hl
    split at hl
    · rename_i p r hp hr
      cases hl
      have := take_row h hi n (c + 1) r hr
      simp only [takeB]
      rw [flatR_get h hi hp, show i * sz + c + 1 = i * sz + (c + 1) by omega, this]
    · cases hl
theorem look_row {sz : Nat} {es : List PV} (h : ∀ e ∈ es, rowE sz e = true) {n off : Nat} {l : List CV} (hl : takeR n sz es off = some l) : takeB n (flatR es) off = some l := by
  simp only [takeR] at hl
  split at hl
  · rename_i e hi
    have := take_row h hi n _ l hl
    rwa [show off / sz * sz + off % sz = off by rw [Nat.mul_comm]; exact Nat.div_add_mod off sz] at this
  · cases hl
theorem putB_len : ∀ {vs : List CV} {l l' : List CV} {c : Nat}, putB l c vs = some l' → l'.length = l.length
  | [], l, l', c, h => by simp only [putB, Option.some.injEq] at h; rw [← h]
  | x :: vs, l, l', c, h => by
    simp only [putB] at h
    split at h
    · rw [putB_len h, List.length_set]
    · cases h
theorem putB_app {a b : List CV} : ∀ {vs m m' : List CV} {c : Nat}, putB m c vs = some m' → putB (a ++ m ++ b) (a.length + c) vs = some (a ++ m' ++ b)
  | [], m, m', c, h => by simp only [putB, Option.some.injEq] at h ⊢; rw [h]
  | x :: vs, m, m', c, h => by
    simp only [putB] at h ⊢
    split at h
    · rename_i hc
      rw [if_pos (by simp; omega)]
      have := putB_app (a := a) (b := b) h
      rw [show a.length + c + 1 = a.length + (c + 1) by omega, ← this]
      congr 1
      rw [List.append_assoc, List.append_assoc, List.set_append_right _ _ (by omega), List.set_append_left _ _ (by omega)]
      congr 2
      congr 1
      omega
    · cases h
theorem toPVs_plain : ∀ {l : List CV} {ps : List PV}, toPVs l = some ps → (∀ p ∈ ps, p.plain0 = true) → l = ps.map .pv
  | [], ps, h, _ => by simp only [toPVs, Option.some.injEq] at h; subst h; rfl
  | x :: l, ps, h, hp => by
    simp only [toPVs] at h
    split at h
    · rename_i p r h1 h2
      cases h
      rw [toPVs_plain h2 fun p hp' => hp p (by simp [hp']), List.map_cons]
      congr 1
      cases x with
      | pv q => simp only [CV.toPV] at h1; split at h1; · cases h1; rfl
                cases h1
      | own i sz es => simp only [CV.toPV] at h1; cases h1; have := hp _ (by simp : PV.sl .shut sz es ∈ _); cases this
      | _ => simp [CV.toPV] at h1
    · cases h
theorem rowOf_cells {sz : Nat} {ps : List PV} (h : rowE sz (rowOf sz ps) = true) (hl : ps.length = sz) : (rowOf sz ps).cells = ps ∧ ∀ p ∈ ps, p.plain0 = true := by
  unfold rowOf at h ⊢
  split at h
  · rename_i hs
    rw [if_pos hs]
    cases ps with
    | nil => simp at hl; omega
    | cons p r =>
      have : r = [] := List.eq_nil_of_length_eq_zero (by simp at hl; omega)
      subst this
      simp only [List.headD_cons] at h ⊢
      have hp : p.plain0 = true := by
        cases p with
        | agg cs => simp [rowE, hs] at h
        | _ => simp only [rowE, Bool.and_eq_true] at h; exact h.2
      refine ⟨?_, fun q hq => by simp at hq; subst hq; exact hp⟩
      cases p <;> first | rfl | cases hp
  · rename_i hs
    rw [if_neg hs]
    simp only [rowE, Bool.and_eq_true, List.all_eq_true] at h
    exact ⟨rfl, h.2⟩
theorem put_row {sz : Nat} {es es' : List PV} (h : ∀ e ∈ es, rowE sz e = true) {off : Nat} {vs : List CV} (hp : putR sz es off vs = some es') : putB (flatR es) off vs = some (flatR es') ∧ ∀ e ∈ es', rowE sz e = true := by
  simp only [putR] at hp
  split at hp
  · rename_i e hi
    obtain ⟨e', h1, rfl⟩ := Option.map_eq_some_iff.1 hp
    simp only [putE] at h1
    split at h1
    · rename_i ps hps
      split at h1
      · rename_i hr
        cases h1
        obtain ⟨m', hm, hps⟩ := Option.bind_eq_some_iff.1 hps
        have he := rowE_cells (h e (List.mem_of_getElem? hi))
        have hml := putB_len hm
        have hpl : ∀ {l : List CV} {ps : List PV}, toPVs l = some ps → ps.length = l.length := by
          intro l
          induction l with
          | nil => intro ps h; simp only [toPVs, Option.some.injEq] at h; subst h; rfl
          | cons x l ih =>
            intro ps h
            simp only [toPVs] at h
            split at h
            · rename_i h2; cases h; simp [ih h2]
            · cases h
        have hlen : ps.length = sz := by rw [hpl hps, hml, List.length_map, he.1]
        obtain ⟨r1, r2⟩ := rowOf_cells hr hlen
        have hm' := toPVs_plain hps r2
        have hmem : ∀ q ∈ es.set (off / sz) (rowOf sz ps), rowE sz q = true := by
          intro q hq
          rcases List.mem_or_eq_of_mem_set hq with hq | rfl
          · exact h q hq
          · exact hr
        refine ⟨?_, hmem⟩
        obtain ⟨s1, s2⟩ := flatR_split h hi
        have hl := (List.getElem?_eq_some_iff.1 hi).1
        have hset : (es.set (off / sz) (rowOf sz ps))[off / sz]? = some (rowOf sz ps) := by simp [hl]
        obtain ⟨t1, t2⟩ := flatR_split hmem hset
        have e1 : (es.set (off / sz) (rowOf sz ps)).take (off / sz) = es.take (off / sz) := by rw [List.take_set_of_le (Nat.le_refl _)]
        have e2 : (es.set (off / sz) (rowOf sz ps)).drop (off / sz + 1) = es.drop (off / sz + 1) := by rw [List.drop_set_of_lt (by omega)]
        rw [t1, e1, e2, r1, s1, ← hm']
        have := putB_app (a := flatR (es.take (off / sz))) (b := flatR (es.drop (off / sz + 1))) hm
        rwa [s2, show off / sz * sz + off % sz = off by rw [Nat.mul_comm]; exact Nat.div_add_mod off sz] at this
      · cases h1
    · cases h1
  · cases hp
theorem RC.anyP {w w' : World} {own own' : Own} {nm nm' : Nm} {p : PV} {v : Value} (h : RC w own nm (.pv p) v) (hp : p.plain0 = true) : RC w' own' nm' (.pv p) v := .pv (h.pvv.plain0 hp)
theorem RBx.raw {w : World} {own : Own} {nm : Nm} {cs : List CV} {g : Nat} (h : RBx w own nm (.cells cs) g) : RBr w own nm cs g := by
  cases h with
  | cells _ _ us T h1 h2 h3 => exact .mk us [] T (by rw [List.append_nil]; exact h1) h2 h3
theorem RBr.rowAny {w w' : World} {own own' : Own} {nm nm' : Nm} {sz g : Nat} {es : List PV} (he : es.all (rowE sz) = true) (hb : w'.heap[g]? = w.heap[g]?) (ho : own' g = own g) (h : RBr w own nm (flatR es) g) : RBr w' own' nm' (flatR es) g := by
  cases h with
  | mk us ex T h1 h2 h3 =>
    refine .mk us ex T (h1.of_heap hb) (by rw [ho]; exact h2) ⟨h3.1, fun i x v hx hv => ?_⟩
    obtain ⟨p, rfl, hp⟩ := flatR_mem (List.all_eq_true.1 he) (List.mem_of_getElem? hx)
    exact (h3.2 i _ v hx hv).anyP hp
theorem RBx.le {w w' : World} {own own' : Own} {nm nm' : Nm} (h : NmLe w own nm w' own' nm') {b : Box} {g : Nat} (hb : w'.heap[g]? = w.heap[g]?) (ho : own' g = own g) (hr : RBx w own nm b g) : RBx w' own' nm' b g := by
  cases hr with
  | cells cs g us T h1 h2 h3 => exact .cells cs g us T (h1.of_heap hb) (by rw [ho]; exact h2) (h3.imp fun _ _ => RC.le h)
  | map kv g es clock h1 h2 h3 h4 => exact .map kv g es clock (by rw [hb]; exact h1) (by rw [ho]; exact h2) (h3.keeps h.keeps) h4
  | iter l pos g h1 h2 => exact .iter l pos g (by rw [hb]; exact h1) (by rw [ho]; exact h2)
  | row sz es g h he hs => exact .row sz es g (h.rowAny he hb ho) he hs
  | dead g => exact .dead g
def Weak (w : World) (own : Own) (nm nm' : Nm) (f : CV → CV) : Prop := ∀ x v, RC w own nm x v → RC w own nm' (f x) v
theorem RA0.map0 {w : World} {own : Own} {nm nm' : Nm} {f : CV → CV} (hf : Weak w own nm nm' f) {x : AV} {v : Value} (hr : RA0 w own nm x v) : RA0 w own nm' (x.map0 f) v := by
  cases hr with
  | c hx => exact .c (hf _ _ hx)
  | agg cs us hx => exact .agg _ us (hx.map fun a b _ h => hf a b h)
theorem RA.map {w : World} {own : Own} {nm nm' : Nm} {f : CV → CV} (hf : Weak w own nm nm' f) {x : AV} {v : Value} (hr : RA w own nm x v) : RA w own nm' (x.map f) v := by
  cases hr with
  | of hx => cases hx with
    | c hx => exact .of (.c (hf _ _ hx))
    | agg cs us hx => exact .of (.agg _ us (hx.map fun a b _ h => hf a b h))
  | tup vs us hx => exact .tup _ us (hx.map fun a b _ h => h.map0 hf)
theorem RBx.mapB {w : World} {own : Own} {nm nm' : Nm} {f : CV → CV} (hf : Weak w own nm nm' f) {b : Box} {g : Nat} (hr : RBx w own nm b g) : RBx w own nm' (b.map' f) g := by
  cases hr with
  | cells cs g us T h1 h2 h3 => exact .cells _ g us T h1 h2 (h3.map fun a b _ h => hf a b h)
  | map kv g es clock h1 h2 h3 h4 => exact .map kv g es clock h1 h2 h3 h4
  | iter l pos g h1 h2 => exact .iter l pos g h1 h2
  | row sz es g h he hs => exact .row sz es g (h.rowAny he rfl rfl) he hs
  | dead g => exact .dead g
theorem RC.shut {w : World} {own : Own} {nm : Nm} {i sz : Nat} {es : List PV} {v : Value} (h : RC w own nm (.own i sz es) v) : RP w own (.sl .shut sz es) v := by
  cases h with
  | own _ _ _ _ _ _ _ _ h => exact h
theorem weak_shutId (w : World) (own : Own) (nm : Nm) (i : Nat) : Weak w own nm ⟨nm.adr, fun j => if j = i then none else nm.sp j⟩ (CV.shutId i) := by
  intro x v h
  cases x with
  | own j sz es =>
    simp only [CV.shutId]
    split
    · exact .pv h.shut
    · rename_i hne
      cases h with
      | own _ _ _ g cap hsp hrow hcap hp => exact .own j sz es g cap (by simp [hne, hsp]) hrow hcap hp
  | undef => exact .undef v
  | pv p => cases h with | pv h => exact .pv h
  | ms k o s n => cases h with | ms _ _ _ _ g cap a b c d e => exact .ms k o s n g cap a b c d e
  | ptr k o => cases h with | ptr _ _ g a => exact .ptr k o g a
  | cptr l o => cases h with | cptr _ _ g o' us a => exact .cptr l o g o' us a
  | nilp => cases h; exact .nilp
  | fn f caps => cases h with | fn _ _ us a b => exact .fn f caps us a b
  | nilf => cases h; exact .nilf
  | mp k => cases h with | mp _ g a => exact .mp k g a
  | nilm => cases h; exact .nilm
end Go.Sx
