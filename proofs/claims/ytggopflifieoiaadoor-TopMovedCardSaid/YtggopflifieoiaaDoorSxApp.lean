/- append. -/
import Derived.Test.YtggopflifieoiaaDoorSxW2
import Derived.Laws.Append
namespace Go.Sx
open Go
section
variable {P : Program} {o : Oper} {a : Act} {M : Nm} {w0 w w' : World} {own0 own own' : Own} {nm nm' : Nm} {st : St} {tmps : List Value}
structure Src (P : Program) (w : World) (own : Own) (sz m : Nat) (x : Value) (new : List PV) (nv : List Value) : Prop where
  lenOf : ∀ w2, (Builtin.lenOf x).run P w2 = .ok m w2
  first : ∀ w2 : World, w2.heap = w.heap → (Builtin.firstCells sz m x).run P w2 = .ok nv.toArray w2
  len : new.length = m
  nlen : nv.length = m * sz
  el : ∀ (i : Nat) (e : PV), new[i]? = some e → (e.cells.length = sz ∧ ∀ c ∈ e.cells, c.flat = true) ∧ ∀ (j : Nat) (c : PV), e.cells[j]? = some c → ∃ u, nv[i * sz + j]? = some u ∧ RP w own c u
  one : ∀ u ∈ nv, u.oneCell' = true
theorem firstCells_ok {sz n cap : Nat} {ad : Addr} {nv : List Value} {w2 : World} (hl : nv.length = n * sz) (h : ∀ j u, nv[j]? = some u → w2.cell? (ad.add j) = some u) : (Builtin.firstCells sz n (.slice (some ad) n cap)).run P w2 = .ok nv.toArray w2 := by
  have := run_loadCells_list (P := P) w2 ad nv h
  rw [hl] at this
  simpa [Builtin.firstCells] using this
theorem SlAt.cellsL {so : SO} {sz cap : Nat} {es : List PV} {ad : Option Addr} (hs : SlAt w own so sz es ad cap) : ∃ nv : List Value, nv.length = es.length * sz ∧ (∀ w2 : World, w2.heap = w.heap → (Builtin.firstCells sz es.length (.slice ad es.length cap)).run P w2 = .ok nv.toArray w2) ∧
    (∀ (i : Nat) (e : PV), es[i]? = some e → ∀ (j : Nat) (c : PV), e.cells[j]? = some c → ∃ u, nv[i * sz + j]? = some u ∧ RP w own c u) ∧ ∀ u ∈ nv, u.oneCell' = true := by
  obtain ⟨us, h2, h3⟩ := hs.mem
  cases ad with
  | none =>
    obtain ⟨rfl, rfl⟩ := hs.z rfl
    exact ⟨[], by simp, fun w2 _ => by simp [Builtin.firstCells], fun i e h => by simp at h, fun u h => by simp at h⟩
  | some ad =>
    by_cases hsz : sz = 0
    · subst hsz
      exact ⟨[], by simp, fun w2 _ => by simp [Builtin.firstCells, loadCells, loadCellsFrom], fun i e h j c hc => (by have h4 := (List.getElem?_eq_some_iff.1 hc).1; have := (hs.el i e h).1; omega), fun u h => by simp at h⟩
    · have hpos : 0 < sz := by omega
      refine ⟨(List.range (es.length * sz)).map fun k => us (k / sz) (k % sz), by simp, fun w2 hw => ?_, fun i e he j c hc => ?_, fun u hu => ?_⟩
      · refine firstCells_ok (by simp) fun j u hj => ?_
        have hjl : j < es.length * sz := by have := (List.getElem?_eq_some_iff.1 hj).1; simpa using this
        have hes : 0 < es.length := by
          rcases Nat.eq_zero_or_pos es.length with h | h
          · rw [h] at hjl; simp at hjl
          · exact h
        obtain ⟨h4, h5⟩ := h2 ad rfl hes
        have hd : j / sz < es.length := (Nat.div_lt_iff_lt_mul hpos).2 hjl
        obtain ⟨h6, _⟩ := h5 (j / sz) (j % sz) hd (Nat.mod_lt _ hpos)
        rw [addrAdd' ad h4]
        have e1 : ad.off + j / sz * sz + j % sz = ad.off + j := by have := Nat.div_add_mod j sz; rw [Nat.mul_comm] at this; omega
        rw [e1] at h6
        simp [hjl] at hj
        rw [← hj, ← h6]
        exact World.cell?_of_block (w := w) (by rw [hw])
      · have hj : j < sz := by rw [← (hs.el i e he).1]; exact (List.getElem?_eq_some_iff.1 hc).1
        have hi : i < es.length := (List.getElem?_eq_some_iff.1 he).1
        have hk : i * sz + j < es.length * sz := by
          have : (i + 1) * sz ≤ es.length * sz := Nat.mul_le_mul_right _ hi
          rw [Nat.add_mul] at this; omega
        refine ⟨us i j, ?_, h3 i j e c he hc⟩
        have hq : (i * sz + j) / sz = i := by rw [Nat.mul_comm, Nat.mul_add_div hpos, Nat.div_eq_of_lt hj]; omega
        have hr : (i * sz + j) % sz = j := by rw [Nat.mul_comm, Nat.mul_add_mod, Nat.mod_eq_of_lt hj]
        simp [hk, hq, hr]
      · obtain ⟨k, hk, rfl⟩ := List.mem_map.1 hu
        have hk := List.mem_range.1 hk
        have hd : k / sz < es.length := (Nat.div_lt_iff_lt_mul hpos).2 hk
        have he := List.getElem?_eq_getElem hd
        obtain ⟨h4, h5⟩ := hs.el _ _ he
        have hm : k % sz < (es[k / sz]).cells.length := by rw [h4]; exact Nat.mod_lt _ hpos
        have hc := List.getElem?_eq_getElem hm
        exact (h3 _ _ _ _ he hc).one (h5 _ (List.getElem_mem hm))
theorem src_ok (I : Inv M w0 own0 w own nm st tmps) {A : AV} {x : Value} (hx : RA w own nm A x) {sz : Nat} {new : List PV} (h : srcEs sz st.bx A = some new) : ∃ nv, Src P w own sz new.length x new nv := by
  haveI := I.good.toGOk
  unfold srcEs at h
  split at h
  · rename_i l
    split at h
    · rename_i hs
      subst hs
      cases h
      have e := hx.str
      subst e
      have hsz : (⟨l.toArray⟩ : ByteArray).size = l.length := by simp [ByteArray.size]
      refine ⟨l.map fun b => .int .u8 (b.toNat : Int), ⟨fun w2 => by simp [Builtin.lenOf, hsz, pvBytes], fun w2 _ => ?_, rfl, by simp [pvBytes], fun i e he => ?_, fun u hu => ?_⟩⟩
      · have : (⟨l.toArray⟩ : ByteArray).extract 0 (pvBytes l).length = ⟨l.toArray⟩ := by
          rw [ByteArray.extract_mk]; simp [pvBytes]
        simp [Builtin.firstCells, this]
      · have hi : i < l.length := by have := (List.getElem?_eq_some_iff.1 he).1; simpa [pvBytes] using this
        simp [pvBytes, hi] at he
        subst he
        refine ⟨⟨rfl, fun c hc => by simp [PV.cells] at hc; subst hc; rfl⟩, fun j c hc => ?_⟩
        have hj : j = 0 := by have := (List.getElem?_eq_some_iff.1 hc).1; simp [PV.cells] at this; exact this
        subst hj
        simp [PV.cells] at hc
        subst hc
        exact ⟨.int .u8 (l[i].toNat : Int), by simp [hi], .int _ _⟩
      · obtain ⟨b, _, rfl⟩ := List.mem_map.1 hu
        rfl
    · cases h
  · rename_i k off s n
    split at h
    · rename_i hs
      subst hs
      obtain ⟨g, cap, rfl, hk, hc1, hc2, hsz, cs', T', hb', hfit⟩ := hx.cv.msv
      · obtain ⟨b, hcs, h⟩ := Option.bind_eq_some_iff.1 h
        · have _u : True := trivial
          obtain ⟨us, ex, T, fz, hb1, h3, h4⟩ := elems_ok (I.rb.box k g _ hcs hk) h
          subst h3
          -- each cell is there
          have hin : ∀ k', k' < new.length * s → ∃ (e c : PV) (u : Value), new[k' / s]? = some e ∧ e.cells[k' % s]? = some c ∧ us[off + k']? = some u ∧ RP w own c u ∧ c.flat = true := by
            intro k' hk'
            have hd : k' / s < new.length := (Nat.div_lt_iff_lt_mul hsz).2 hk'
            have he := List.getElem?_eq_getElem hd
            obtain ⟨⟨h5, h6⟩, h7⟩ := h4 _ _ he
            have hm : k' % s < (new[k' / s]).cells.length := by rw [h5]; exact Nat.mod_lt _ hsz
            have hc := List.getElem?_eq_getElem hm
            obtain ⟨u, hu, hr⟩ := h7 _ _ hc
            refine ⟨_, _, u, he, hc, ?_, hr, h6 _ (List.getElem_mem hm)⟩
            rw [show off + k' = off + k' / s * s + k' % s by have := Nat.div_add_mod k' s; rw [Nat.mul_comm] at this; omega]
            exact hu
          have hlen : new.length * s ≤ (us.drop off).length := by
            rcases Nat.eq_zero_or_pos (new.length * s) with h0 | hp
            · omega
            · obtain ⟨_, _, u, _, _, hu, _⟩ := hin (new.length * s - 1) (by omega)
              have := (List.getElem?_eq_some_iff.1 hu).1
              simp; omega
          refine ⟨(us.drop off).take (new.length * s), ⟨fun w2 => by simp [Builtin.lenOf], fun w2 hw => ?_, rfl, by simp at hlen ⊢; omega, fun i e he => ⟨(h4 i e he).1, fun j c hc => ?_⟩, fun u hu => ?_⟩⟩
          · refine firstCells_ok (by simp at hlen ⊢; omega) fun j u hj => ?_
            rw [addrAdd]
            rw [List.getElem?_take] at hj
            split at hj
            · rw [List.getElem?_drop] at hj
              have : (us ++ ex)[off + j]? = some u := by rw [List.getElem?_append_left (List.getElem?_eq_some_iff.1 hj).1]; exact hj
              simp [World.cell?, hw, hb1, this]
            · cases hj
          · obtain ⟨u, hu, hr⟩ := (h4 i e he).2 j c hc
            have hj : j < s := by rw [← (h4 i e he).1.1]; exact (List.getElem?_eq_some_iff.1 hc).1
            have hi : i < new.length := (List.getElem?_eq_some_iff.1 he).1
            have hk' : i * s + j < new.length * s := by
              have : (i + 1) * s ≤ new.length * s := Nat.mul_le_mul_right _ hi
              rw [Nat.add_mul] at this; omega
            refine ⟨u, ?_, hr⟩
            rw [List.getElem?_take, if_pos hk', List.getElem?_drop, ← Nat.add_assoc]
            exact hu
          · obtain ⟨k', hk'⟩ := List.mem_iff_getElem?.1 hu
            rw [List.getElem?_take] at hk'
            split at hk'
            · rename_i hlt
              rw [List.getElem?_drop] at hk'
              obtain ⟨_, c, u', _, _, hu', hr, hf⟩ := hin k' hlt
              rw [hu'] at hk'
              cases hk'
              exact hr.one hf
            · cases hk'
    · cases h
  · rename_i y hne1 hne2
    split at h
    · rename_i hsz
      obtain ⟨so, sz', ad, cap, rfl, hs1, hx1⟩ := slEs_ok hx.cv h
      rcases szOk_ok hx1 hsz with hn | rfl
      · have ha := hs1.nil hn
        subst ha
        obtain ⟨rfl, rfl⟩ := hs1.z rfl
        exact ⟨[], ⟨fun w2 => by simp [Builtin.lenOf], fun w2 _ => by simp [Builtin.firstCells], rfl, by simp, fun i e h => by simp at h, fun u h => by simp at h⟩⟩
      · obtain ⟨nv, h1, h2, h3, h4⟩ := hs1.cellsL (P := P)
        exact ⟨nv, ⟨fun w2 => by simp [Builtin.lenOf], h2, rfl, h1, fun i e he => ⟨hs1.el i e he, h3 i e he⟩, h4⟩⟩
    · cases h
  · cases h
structure AppT (P : Program) (t u e : TypeId) (i : TypeInfo) (zv : Value) : Prop where
  ht : P.underlying t = some (.slice e)
  hu : (∃ d, P.underlying u = some (.slice d)) ∨ P.underlying u = some .string
  hi : P.info? e = some i
  hz : i.zero = some zv
  hzs : zv.cells.size = i.size
  hs0 : i.size ≠ 0
  hb0 : i.bytes ≠ 0
section
variable {t u e ty : TypeId} {i : TypeInfo} {zv : Value}
theorem run_app_none (T : AppT P t u e i zv) {base : Option Addr} {n cap : Nat} {x : Value} {new : List PV} {nv : List Value} (S : Src P w own i.size 0 x new nv) (hc : n ≤ cap) :
    (Builtin.append_ #[t, u] ty #[.slice base n cap, x]).run P w = .ok (.slice base n cap) w := by
  have hl := S.lenOf w
  have hnv : nv = [] := List.eq_nil_of_length_eq_zero (by simpa using S.nlen)
  have hf := S.first w rfl
  rw [hnv] at hf
  rcases T.hu with ⟨d, hd⟩ | hd <;> cases base <;>
    simp [Builtin.append_, run_und T.ht, run_und hd, sizeOf, typeInfo, T.hi, hl, hc, hf, storeCells]
theorem run_app_room (T : AppT P t u e i zv) {g q n cap m : Nat} {x : Value} {new : List PV} {nv : List Value} (S : Src P w own i.size m x new nv) {cur : Array Value} {E : TypeId} (hg : w.heap[g]? = some (.cells cur E (0, 0))) (hc : n + m ≤ cap)
    (hfit : q + n * i.size + nv.length ≤ cur.size) :
    (Builtin.append_ #[t, u] ty #[.slice (some ⟨g, q, none⟩) n cap, x]).run P w = .ok (.slice (some ⟨g, q, none⟩) (n + m) cap) (w.setRow g (cur.toList.take (q + n * i.size) ++ nv ++ cur.toList.drop (q + n * i.size + nv.length)).toArray) := by
  have hl := S.lenOf w
  have hf := S.first w rfl
  have hst := run_storeCells_at P g (q + n * i.size) E nv 0 cur w hg (by simpa using hfit) S.one
  simp only [Nat.add_zero] at hst
  rcases T.hu with ⟨d, hd⟩ | hd <;>
    simp [Builtin.append_, run_und T.ht, run_und hd, sizeOf, typeInfo, T.hi, hl, hc, hf, addrAdd, hst]
theorem run_app_grow (T : AppT P t u e i zv) {base : Option Addr} {n cap m : Nat} {x : Value} {new : List PV} {nv ov : List Value} (S : Src P w own i.size m x new nv) (ho : ∀ w2 : World, w2.heap = w.heap → (Builtin.firstCells i.size n (.slice base n cap)).run P w2 = .ok ov.toArray w2)
    (hc : cap < n + m) (hb : (n + m) * i.bytes ≤ 140737488355328) :
    ∃ c w', (Builtin.append_ #[t, u] ty #[.slice base n cap, x]).run P w = .ok (.slice (some ⟨w.heap.size, 0, none⟩) (n + m) c) w' ∧ n + m ≤ c ∧ c ≤ maxLen ∧ Grow w w' (.cells (ov ++ nv ++ (Builtin.zeroCells zv.cells (c - (n + m))).toList).toArray e (0, 0)) := by
  have hl := S.lenOf w
  have hf := S.first w.drew rfl
  have hof := ho w.drew rfl
  have h48 := growslice_fits hc hb
  have hn : ¬ (n + m ≤ cap) := by omega
  have hb0 := T.hb0
  have h63 : n + m ≤ 140737488355328 := Nat.le_trans (Nat.le_mul_of_pos_right _ (Nat.pos_of_ne_zero hb0)) hb
  have h63' : ¬ (9223372036854775807 < ((n : Int) + (m : Int))) := by omega
  have h48' : ¬ (281474976710656 < Builtin.nextslicecap (n + m) cap * i.bytes) := by omega
  refine ⟨grownCap w (n + m) cap e, w.drew.alloc (.cells (ov ++ nv ++ (Builtin.zeroCells zv.cells (grownCap w (n + m) cap e - (n + m))).toList).toArray e), ?_, grownCap_ge _ _ _ _, grownCap_le_maxLen _ _ _ _ (by unfold maxLen; omega), ⟨rfl, rfl, rfl, rfl⟩⟩
  rcases T.hu with ⟨d, hd⟩ | hd <;>
  · simp [Builtin.append_, run_und T.ht, run_und hd, sizeOf, typeInfo, zeroValue, T.hi, T.hz, hl, hn, h63', h48', Question.forced, hf, hof, newRow, grownCap]
    try (congr 2; apply Array.ext'; simp)
end
end
end Go.Sx
