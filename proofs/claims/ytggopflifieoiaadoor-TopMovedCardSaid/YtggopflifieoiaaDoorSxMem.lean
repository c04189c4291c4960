/- Memory that is read: plain memory, boxes, elements; a slice's bytes. -/
import Derived.Test.YtggopflifieoiaaDoorSxOps2
import Derived.Laws.BytesArg
namespace Go.Sx
open Go
theorem addrAdd (g o j : Nat) : (⟨g, o, none⟩ : Addr).add j = ⟨g, o + j, none⟩ := by unfold Addr.add; split <;> simp_all
theorem addrAdd' (a : Addr) (h : a.spot = none) (j : Nat) : a.add j = ⟨a.block, a.off + j, none⟩ := by
  cases a with | mk g o s => simp only at h; subst h; exact addrAdd g o j
section
variable {P : Program} {w : World} {own : Own} {nm : Nm}
def LieAt (w : World) (own : Own) (nm : Nm) (g o : Nat) (l : List CV) : Prop := ∃ us : List Value, All2 (RC w own nm) l us ∧ ∀ j v, us[j]? = some v → w.cell? ⟨g, o + j, none⟩ = some v
theorem takeC_ok {cells : List PV} {g o : Nat} {us : Nat → Value} (h : ∀ (j : Nat) (c : PV), cells[j]? = some c → w.cell? ⟨g, o + j, none⟩ = some (us j) ∧ Pr own g (o + j) ∧ RP w own c (us j)) :
    ∀ (n off : Nat) (l : List CV), takeC n cells off = some l → l.length = n ∧ LieAt w own nm g (o + off) l
  | 0, off, l, hl => by simp [takeC] at hl; subst hl; exact ⟨rfl, [], All2.nil, fun j v h => by simp at h⟩
  | n + 1, off, l, hl => by
    simp only [takeC] at hl
    split at hl
    · rename_i p r hp hr
      cases hl
      obtain ⟨h1, vs, h2, h3⟩ := takeC_ok h n (off + 1) r hr
      obtain ⟨a, _, b⟩ := h off p hp
      refine ⟨by simp [h1], us off :: vs, All2.cons (.pv b) h2, fun j v hj => ?_⟩
      cases j with
      | zero => simp at hj; subst hj; exact a
      | succ j => simp at hj; have := h3 j v hj; rwa [show o + (off + 1) + j = o + off + (j + 1) by omega] at this
    · cases hl
theorem takeB_ok {cs : List CV} {us ex : List Value} {T : TypeId} {g : Nat} {fz : Nat × Nat} (hb : w.heap[g]? = some (.cells (us ++ ex).toArray T fz)) (h : All2 (RC w own nm) cs us) :
    ∀ (n off : Nat) (l : List CV), takeB n cs off = some l → l.length = n ∧ LieAt w own nm g off l
  | 0, off, l, hl => by simp [takeB] at hl; subst hl; exact ⟨rfl, [], All2.nil, fun j v h => by simp at h⟩
  | n + 1, off, l, hl => by
    simp only [takeB] at hl
    split at hl
    · rename_i p r hp hr
      cases hl
      obtain ⟨h1, vs, h2, h3⟩ := takeB_ok hb h n (off + 1) r hr
      obtain ⟨v, hv, b⟩ := h.get hp
      refine ⟨by simp [h1], v :: vs, All2.cons b h2, fun j u hj => ?_⟩
      cases j with
      | zero =>
        simp at hj; subst hj
        have : (us ++ ex)[off]? = some v := by rw [List.getElem?_append_left (List.getElem?_eq_some_iff.1 hv).1]; exact hv
        simp [World.cell?, hb, this]
      | succ j => simp at hj; have := h3 j u hj; rwa [show off + 1 + j = off + (j + 1) by omega] at this
    · cases hl
theorem look_ok {b : Box} {g n off : Nat} {l : List CV} (hb : RBx w own nm b g) (hl : b.look n off = some l) : l.length = n ∧ LieAt w own nm g off l := by
  cases hb with
  | cells cs _ us T h1 h2 h3 => obtain ⟨_, h1, _⟩ := h1; exact takeB_ok (ex := []) (by rw [List.append_nil]; exact h1) h3 n off l hl
  | row s r _ h hr hs => cases h with
    | mk us ex T h1 h2 h3 => obtain ⟨_, h1, _⟩ := h1; exact takeB_ok h1 h3 n off l (look_row (List.all_eq_true.1 hr) hl)
  | _ => simp [Box.look] at hl
theorem takeB_all2 {cs : List CV} {us : List Value} (h : All2 (RC w own nm) cs us) : ∀ (n off : Nat) (l : List CV), takeB n cs off = some l → l.length = n ∧ All2 (RC w own nm) l ((us.drop off).take n)
  | 0, off, l, hl => by simp [takeB] at hl; subst hl; exact ⟨rfl, by simpa using All2.nil⟩
  | n + 1, off, l, hl => by
    simp only [takeB] at hl
    split at hl
    · rename_i p r hp hr
      cases hl
      obtain ⟨h1, h2⟩ := takeB_all2 h n (off + 1) r hr
      obtain ⟨v, hv, b⟩ := h.get hp
      refine ⟨by simp [h1], ?_⟩
      have hlt := (List.getElem?_eq_some_iff.1 hv).1
      have hget := (List.getElem?_eq_some_iff.1 hv).2
      rw [List.drop_eq_getElem_cons hlt, List.take_succ_cons, hget]
      exact All2.cons b h2
    · cases hl
theorem load_ok {t : TypeId} {ag : Bool} {n : Nat} (hag : isAggD (P.underlying t) = some ag) (hn : sizeT P t = some n) {g o : Nat} {l : List CV} (hl : LieAt w own nm g o l) {m : Nat} (hm : m = if ag then n else 1) (hlen : l.length = m) :
    ∃ r, (Instr.loadAt t (.pointer (some ⟨g, o, none⟩))).run P w = .ok r w ∧ (ag = true → RA w own nm (.agg l) r) ∧ (ag = false → ∀ x, l = [x] → RA w own nm (.c x) r) := by
  obtain ⟨us, h1, h2⟩ := hl
  cases ag with
  | true =>
    have hm : m = n := by simpa using hm
    subst hm
    have h3 : us.length = m := by rw [h1.1, hlen]
    have hr := run_loadCells_list (P := P) w ⟨g, o, none⟩ us (fun j v hj => by rw [addrAdd]; exact h2 j v hj)
    rw [h3] at hr
    exact ⟨.agg us.toArray, by simp [Instr.loadAt, Instr.sureAddr, loadVar, run_isAgg hag, run_size hn, hr], fun _ => .of (.agg l us h1), fun h => by cases h⟩
  | false =>
    have hm : m = 1 := by simpa using hm
    subst hm
    cases l with
    | nil => simp at hlen
    | cons x l =>
      obtain ⟨u, us', rfl, h3, h4⟩ := All2.of_cons h1
      have hc := h2 0 u rfl
      exact ⟨u, by simp [Instr.loadAt, Instr.sureAddr, loadVar, run_isAgg hag, show w.cell? ⟨g, o, none⟩ = some u from hc], (fun h => by cases h), (fun _ y hy => by cases hy; exact .ofC h3)⟩
theorem elem_cptr {o : SO} {es : List PV} {a : Option Addr} {cap sz : Nat} (hs : SlAt w own o sz es a cap) {j : Nat} {e : PV} (he : es[j]? = some e) :
    ∃ ad, a = some ad ∧ RC w own nm (.cptr e.cells 0) (.pointer (some (ad.add (j * sz)))) := by
  obtain ⟨us, h2, h3⟩ := hs.mem
  have hlen : j < es.length := (List.getElem?_eq_some_iff.1 he).1
  have hsz := (hs.el j e he).1
  cases a with
  | none => have := (hs.z rfl).1; rw [this] at hlen; simp at hlen
  | some ad =>
    obtain ⟨h4, h5⟩ := h2 ad rfl (by omega)
    refine ⟨ad, rfl, ?_⟩
    rw [addrAdd' ad h4]
    have := RC.cptr (w := w) (own := own) (nm := nm) e.cells 0 ad.block (ad.off + j * sz) (us j) (fun k c hc => ?_)
    · simpa using this
    · have hk : k < sz := by rw [← hsz]; exact (List.getElem?_eq_some_iff.1 hc).1
      obtain ⟨a1, a2⟩ := h5 j k hlen hk
      exact ⟨a1, a2, h3 j k e c he hc⟩
theorem slEs_ok {x : CV} {v : Value} {es : List PV} (hx : RC w own nm x v) (h : slEs x = some es) : ∃ o sz a cap, v = .slice a es.length cap ∧ SlAt w own o sz es a cap ∧ (x = .pv (.sl o sz es) ∨ (o = .shut ∧ ∃ i, x = .own i sz es)) := by
  unfold slEs at h
  split at h
  · cases h
    obtain ⟨a, cap, rfl, hs⟩ := hx.pvv.slv
    exact ⟨_, _, a, cap, rfl, hs, .inl rfl⟩
  · cases h
    obtain ⟨a, cap, rfl, hs⟩ := hx.shut.slv
    exact ⟨_, _, a, cap, rfl, hs, .inr ⟨rfl, _, rfl⟩⟩
  · cases h
theorem szOk_ok {o : SO} {sz s : Nat} {es : List PV} {x : CV} (h : x = .pv (.sl o sz es) ∨ (o = .shut ∧ ∃ i, x = .own i sz es)) (hk : szOk s x = true) : o = .nil ∨ sz = s := by
  rcases h with rfl | ⟨rfl, i, rfl⟩
  · have : sz = s ∨ o = .nil := by simpa [szOk] using hk
    exact this.symm
  · simpa [szOk] using hk
def int0 : PV → Int
  | .int _ n => n
  | _ => 0
theorem bytes_key : ∀ (es : List PV) (l : List UInt8), bytesOf' es = some l → l.length = es.length ∧ ∀ (j : Nat) (e : PV), es[j]? = some e → ∃ n, e = .int .u8 n ∧ l[j]? = some (UInt8.ofNat n.toNat) := by
  intro es
  induction es with
  | nil => intro l h; simp [bytesOf'] at h; subst h; exact ⟨rfl, fun j e h => by simp at h⟩
  | cons p es ih =>
    intro l h
    simp only [bytesOf'] at h
    split at h
    · rename_i b r hb hr
      cases h
      obtain ⟨g1, g2⟩ := ih r hr
      refine ⟨by simp [g1], fun j e he => ?_⟩
      cases j with
      | zero =>
        simp at he; subst he
        unfold byteOf at hb
        split at hb
        · cases hb; exact ⟨_, rfl, rfl⟩
        · cases hb
      | succ j => exact g2 j e (by simpa using he)
    · cases h
theorem bytes_ok {o : SO} {es : List PV} {a : Option Addr} {cap sz : Nat} (hs : SlAt w own o sz es a cap) {l : List UInt8} (hl : bytesOf' es = some l) {src dst e : TypeId} (h1 : P.underlying src = some (.slice e)) (h2 : P.underlying e = some (.int .u8)) (h3 : P.underlying dst = some .string) :
    (convert src dst (.slice a es.length cap)).run P w = .ok (.string ⟨l.toArray⟩) w := by
  obtain ⟨g1, g2⟩ := bytes_key es l hl
  obtain ⟨us, s2, s3⟩ := hs.mem
  have s1 : ∀ (i : Nat) (e : PV), es[i]? = some e → e.cells.length = sz := fun i e h => (hs.el i e h).1
  cases a with
  | none =>
    obtain ⟨rfl, rfl⟩ := hs.z rfl
    have : l = [] := List.eq_nil_of_length_eq_zero (by simpa using g1)
    subst this
    exact run_convert_bytes_nil w src e h1 h2 0 0 dst h3
  | some ad =>
    rcases Nat.eq_zero_or_pos es.length with h0 | hp
    · have : es = [] := List.eq_nil_of_length_eq_zero h0
      subst this
      have : l = [] := List.eq_nil_of_length_eq_zero (by simpa using g1)
      subst this
      simp only [convert, Sem.run_bind, run_und h1, run_und h2, run_und h3, Result.andThen_ok, Conv.bytesToString]
      simp [loadCells, loadCellsFrom]
      rfl
    · obtain ⟨s4, s5⟩ := s2 ad rfl hp
      have hsz : sz = 1 := by
        obtain ⟨e, he⟩ : ∃ e, es[0]? = some e := ⟨_, List.getElem?_eq_getElem hp⟩
        obtain ⟨n, hn, _⟩ := g2 0 e he
        rw [← s1 0 e he, hn]; rfl
      subst hsz
      cases ad with | mk g off sp =>
      simp only at s4; subst s4
      have hc : ∀ i, i < (es.map int0).length → w.cell? ⟨g, off + i, none⟩ = some (.int .u8 ((es.map int0).getD i 0)) := by
        intro i hi
        simp only [List.length_map] at hi
        have he := List.getElem?_eq_getElem hi
        obtain ⟨n, hn, _⟩ := g2 i _ he
        obtain ⟨c1, _⟩ := s5 i 0 hi (by omega)
        have c2 := s3 i 0 _ _ he (by rw [hn]; rfl)
        cases c2' : us i 0 with
        | int k m =>
          rw [c2'] at c2 c1
          cases c2
          simp only [Nat.mul_one, Nat.add_zero] at c1
          rw [c1]
          simp [List.getD, he, hn, int0]
        | _ => rw [c2'] at c2; cases c2
      have := run_convert_bytes_arg w src e h1 h2 g off es.length cap (es.map int0) (by simp) (fun i hi => hc i (by simpa using hi)) dst h3
      rw [this]
      congr 2
      have : l = (es.map int0).map fun n => UInt8.ofNat n.toNat := by
        apply List.ext_getElem?
        intro j
        by_cases hj : j < es.length
        · obtain ⟨n, hn, hj'⟩ := g2 j _ (List.getElem?_eq_getElem hj)
          rw [hj']
          simp [hj, hn, int0]
        · rw [List.getElem?_eq_none (by omega), List.getElem?_eq_none (by simp; omega)]
      rw [this]
      rfl
theorem bytes_row {es : List PV} {l : List UInt8} (hl : bytesOf' es = some l) {w : World} {g off cap : Nat} (hc : ∀ (j : Nat) (n : Int), es[j]? = some (.int .u8 n) → w.cell? ⟨g, off + j, none⟩ = some (.int .u8 n)) {src dst e : TypeId}
    (h1 : P.underlying src = some (.slice e)) (h2 : P.underlying e = some (.int .u8)) (h3 : P.underlying dst = some .string) : (convert src dst (.slice (some ⟨g, off, none⟩) es.length cap)).run P w = .ok (.string ⟨l.toArray⟩) w := by
  obtain ⟨g1, g2⟩ := bytes_key es l hl
  have := run_convert_bytes_arg w src e h1 h2 g off es.length cap (es.map int0) (by simp) (fun i hi => by
    have he := List.getElem?_eq_getElem (by simpa using hi : i < es.length)
    obtain ⟨n, hn, _⟩ := g2 i _ he
    rw [hn] at he
    rw [hc i n he]
    simp [List.getD, he, int0]) dst h3
  rw [this]
  congr 2
  have : l = (es.map int0).map fun n => UInt8.ofNat n.toNat := by
    apply List.ext_getElem?
    intro j
    by_cases hj : j < es.length
    · obtain ⟨n, hn, hj'⟩ := g2 j _ (List.getElem?_eq_getElem hj)
      rw [hj']
      simp [hj, hn, int0]
    · rw [List.getElem?_eq_none (by omega), List.getElem?_eq_none (by simp; omega)]
  rw [this]
  rfl
end
end Go.Sx
