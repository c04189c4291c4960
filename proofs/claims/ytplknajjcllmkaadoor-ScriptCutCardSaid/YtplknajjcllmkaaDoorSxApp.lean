/- append. -/
import Derived.Test.YtplknajjcllmkaaDoorSxW2
import Derived.Laws.Append
namespace Go.Sx
open Go
section
variable {P : Program} {o : Oper} {a : Act} {M : Nm} {w0 w w' : World} {own0 own own' : Own} {nm nm' : Nm} {st : St} {tmps : List Value}
structure Src (P : Program) (w : World) (own : Own) (sz m : Nat) (x : Value) (new : List PV) (nv : List Value) : Prop where
  lenOf : ∀ w2, (Builtin.lenOf x).run P w2 = .ok m w2
  first : ∀ w2 : World, w2.heap = w.heap → (Builtin.firstCells sz m x).run P w2 = .ok nv.toArray w2
  len : new.length = m
  nlen : nv.length = m * sz
  el : ∀ (i : Nat) (e : PV), new[i]? = some e → (e.cells.length = sz ∧ ∀ c ∈ e.cells, c.flat = true) ∧ ∀ (j : Nat) (c : PV), e.cells[j]? = some c → ∃ u, nv[i * sz + j]? = some u ∧ RP w own c u
  one : ∀ u ∈ nv, u.oneCell' = true
theorem firstCells_ok {sz n cap : Nat} {ad : Addr} {nv : List Value} {w2 : World} (hl : nv.length = n * sz) (h : ∀ j u, nv[j]? = some u → w2.cell? (ad.add j) = some u) : (Builtin.firstCells sz n (.slice (some ad) n cap)).run P w2 = .ok nv.toArray w2 := by
  have := run_loadCells_list (P := P) w2 ad nv h
  rw [hl] at this
  simpa [Builtin.firstCells] using this
theorem SlAt.cellsL {so : SO} {sz cap : Nat} {es : List PV} {ad : Option Addr} (hs : SlAt w own so sz es ad cap) : ∃ nv : List Value, nv.length = es.length * sz ∧ (∀ w2 : World, w2.heap = w.heap → (Builtin.firstCells sz es.length (.slice ad es.length cap)).run P w2 = .ok nv.toArray w2) ∧
    (∀ (i : Nat) (e : PV), es[i]? = some e → ∀ (j : Nat) (c : PV), e.cells[j]? = some c → ∃ u, nv[i * sz + j]? = some u ∧ RP w own c u) ∧ ∀ u ∈ nv, u.oneCell' = true := by
  obtain ⟨us, h2, h3⟩ := hs.mem
  cases ad with
  | none =>
    obtain ⟨rfl, rfl⟩ := hs.z rfl
    exact ⟨[], by simp, fun w2 _ => by simp [Builtin.firstCells], fun i e h => by simp at h, fun u h => by simp at h⟩
  | some ad =>
    by_cases hsz : sz = 0
    · subst hsz
      exact ⟨[], by simp, fun w2 _ => by simp [Builtin.firstCells, loadCells, loadCellsFrom], fun i e h j c hc => (by have h4 := (List.getElem?_eq_some_iff.1 hc).1; have := (hs.el i e h).1; omega), fun u h => by simp at h⟩
    · have hpos : 0 < sz := by omega
      refine ⟨(List.range (es.length * sz)).map fun k => us (k / sz) (k % sz), by simp, fun w2 hw => ?_, fun i e he j c hc => ?_, fun u hu => ?_⟩
      · refine firstCells_ok (by simp) fun j u hj => ?_
        have hjl : j < es.length * sz := by have := (List.getElem?_eq_some_iff.1 hj).1; simpa using this
        have hes : 0 < es.length := by
          rcases Nat.eq_zero_or_pos es.length with h | h
          · rw [h] at hjl; simp at hjl
          · exact h
        obtain ⟨h4, h5⟩ := h2 ad rfl hes
        have hd : j / sz < es.length := (Nat.div_lt_iff_lt_mul hpos).2 hjl
        obtain ⟨h6, _⟩ := h5 (j / sz) (j % sz) hd (Nat.mod_lt _ hpos)
        rw [addrAdd' ad h4]
        have e1 : ad.off + j / sz * sz + j % sz = ad.off + j := by have := Nat.div_add_mod j sz; rw [Nat.mul_comm] at this; omega
        rw [e1] at h6
        simp [hjl] at hj
        rw [← hj, ← h6]
        exact World.cell?_of_block (w := w) (by rw [hw])
      · have hj : j < sz := by rw [← (hs.el i e he).1]; exact (List.getElem?_eq_some_iff.1 hc).1
        have hi : i < es.length := (List.getElem?_eq_some_iff.1 he).1
        have hk : i * sz + j < es.length * sz := by
          have : (i + 1) * sz ≤ es.length * sz := Nat.mul_le_mul_right _ hi
          rw [Nat.add_mul] at this; omega
        refine ⟨us i j, ?_, h3 i j e c he hc⟩
        have hq : (i * sz + j) / sz = i := by rw [Nat.mul_comm, Nat.mul_add_div hpos, Nat.div_eq_of_lt hj]; omega
        have hr : (i * sz + j) % sz = j := by rw [Nat.mul_comm, Nat.mul_add_mod, Nat.mod_eq_of_lt hj]
        simp [hk, hq, hr]
      · obtain ⟨k, hk, rfl⟩ := List.mem_map.1 hu
        have hk := List.mem_range.1 hk
        have hd : k / sz < es.length := (Nat.div_lt_iff_lt_mul hpos).2 hk
        have he := List.getElem?_eq_getElem hd
        obtain ⟨h4, h5⟩ := hs.el _ _ he
        have hm : k % sz < (es[k / sz]).cells.length := by rw [h4]; exact Nat.mod_lt _ hpos
        have hc := List.getElem?_eq_getElem hm
        exact (h3 _ _ _ _ he hc).one (h5 _ (List.getElem_mem hm))
theorem src_ok (I : Inv M w0 own0 w own nm st tmps) {A : AV} {x : Value} (hx : RA w own nm A x) {sz : Nat} {new : List PV} (h : srcEs sz st.bx A = some new) : ∃ nv, Src P w own sz new.length x new nv := by
  haveI := I.good.toGOk
  unfold srcEs at h
  split at h
  · rename_i l
    split at h
    · rename_i hs
      subst hs
      cases h
      have e := hx.str
      subst e
      have hsz : (⟨l.toArray⟩ : ByteArray).size = l.length := by simp [ByteArray.size]
      refine ⟨l.map fun b => .int .u8 (b.toNat : Int), ⟨fun w2 => by simp [Builtin.lenOf, hsz, pvBytes], fun w2 _ => ?_, rfl, by simp [pvBytes], fun i e he => ?_, fun u hu => ?_⟩⟩
      · have : (⟨l.toArray⟩ : ByteArray).extract 0 (pvBytes l).length = ⟨l.toArray⟩ := by
          rw [ByteArray.extract_mk]; simp [pvBytes]
        simp [Builtin.firstCells, this]
      · have hi : i < l.length := by have := (List.getElem?_eq_some_iff.1 he).1; simpa [pvBytes] using this
        simp [pvBytes, hi] at he
        subst he
        refine ⟨⟨rfl, fun c hc => by simp [PV.cells] at hc; subst hc; rfl⟩, fun j c hc => ?_⟩
        have hj : j = 0 := by have := (List.getElem?_eq_some_iff.1 hc).1; simp [PV.cells] at this; exact this
        subst hj
        simp [PV.cells] at hc
        subst hc
        exact ⟨.int .u8 (l[i].toNat : Int), by simp [hi], .int _ _⟩
      · obtain ⟨b, _, rfl⟩ := List.mem_map.1 hu
        rfl
    · cases h
  · rename_i k off s n
    split at h
    · rename_i hs
      subst hs
      obtain ⟨g, cap, rfl, hk, hc1, hc2, hsz, cs', T', hb', hfit⟩ := hx.cv.msv
      · obtain ⟨b, hcs, h⟩ := Option.bind_eq_some_iff.1 h
        · have _u : True := trivial
          obtain ⟨us, ex, T, hb1, h3, h4⟩ := elems_ok (I.rb.box k g _ hcs hk) h
          subst h3
          -- each cell is there
          have hin : ∀ k', k' < new.length * s → ∃ (e c : PV) (u : Value), new[k' / s]? = some e ∧ e.cells[k' % s]? = some c ∧ us[off + k']? = some u ∧ RP w own c u ∧ c.flat = true := by
            intro k' hk'
            have hd : k' / s < new.length := (Nat.div_lt_iff_lt_mul hsz).2 hk'
            have he := List.getElem?_eq_getElem hd
            obtain ⟨⟨h5, h6⟩, h7⟩ := h4 _ _ he
            have hm : k' % s < (new[k' / s]).cells.length := by rw [h5]; exact Nat.mod_lt _ hsz
            have hc := List.getElem?_eq_getElem hm
            obtain ⟨u, hu, hr⟩ := h7 _ _ hc
            refine ⟨_, _, u, he, hc, ?_, hr, h6 _ (List.getElem_mem hm)⟩
            rw [show off + k' = off + k' / s * s + k' % s by have := Nat.div_add_mod k' s; rw [Nat.mul_comm] at this; omega]
            exact hu
          have hlen : new.length * s ≤ (us.drop off).length := by
            rcases Nat.eq_zero_or_pos (new.length * s) with h0 | hp
            · omega
            · obtain ⟨_, _, u, _, _, hu, _⟩ := hin (new.length * s - 1) (by omega)
              have := (List.getElem?_eq_some_iff.1 hu).1
              simp; omega
          refine ⟨(us.drop off).take (new.length * s), ⟨fun w2 => by simp [Builtin.lenOf], fun w2 hw => ?_, rfl, by simp at hlen ⊢; omega, fun i e he => ⟨(h4 i e he).1, fun j c hc => ?_⟩, fun u hu => ?_⟩⟩
          · refine firstCells_ok (by simp at hlen ⊢; omega) fun j u hj => ?_
            rw [addrAdd]
            rw [List.getElem?_take] at hj
            split at hj
            · rw [List.getElem?_drop] at hj
              have : (us ++ ex)[off + j]? = some u := by rw [List.getElem?_append_left (List.getElem?_eq_some_iff.1 hj).1]; exact hj
              simp [World.cell?, hw, hb1, this]
            · cases hj
          · obtain ⟨u, hu, hr⟩ := (h4 i e he).2 j c hc
            have hj : j < s := by rw [← (h4 i e he).1.1]; exact (List.getElem?_eq_some_iff.1 hc).1
            have hi : i < new.length := (List.getElem?_eq_some_iff.1 he).1
            have hk' : i * s + j < new.length * s := by
              have : (i + 1) * s ≤ new.length * s := Nat.mul_le_mul_right _ hi
              rw [Nat.add_mul] at this; omega
            refine ⟨u, ?_, hr⟩
            rw [List.getElem?_take, if_pos hk', List.getElem?_drop, ← Nat.add_assoc]
            exact hu
          · obtain ⟨k', hk'⟩ := List.mem_iff_getElem?.1 hu
            rw [List.getElem?_take] at hk'
            split at hk'
            · rename_i hlt
              rw [List.getElem?_drop] at hk'
              obtain ⟨_, c, u', _, _, hu', hr, hf⟩ := hin k' hlt
              rw [hu'] at hk'
              cases hk'
              exact hr.one hf
            · cases hk'
    · cases h
  · rename_i y hne1 hne2
    split at h
    · rename_i hsz
      obtain ⟨so, sz', ad, cap, rfl, hs1, hx1⟩ := slEs_ok hx.cv h
      rcases szOk_ok hx1 hsz with hn | rfl
      · have ha := hs1.nil hn
        subst ha
        obtain ⟨rfl, rfl⟩ := hs1.z rfl
        exact ⟨[], ⟨fun w2 => by simp [Builtin.lenOf], fun w2 _ => by simp [Builtin.firstCells], rfl, by simp, fun i e h => by simp at h, fun u h => by simp at h⟩⟩
      · obtain ⟨nv, h1, h2, h3, h4⟩ := hs1.cellsL (P := P)
        exact ⟨nv, ⟨fun w2 => by simp [Builtin.lenOf], h2, rfl, h1, fun i e he => ⟨hs1.el i e he, h3 i e he⟩, h4⟩⟩
    · cases h
  · cases h
structure AppT (P : Program) (t u e : TypeId) (i : TypeInfo) (zv : Value) : Prop where
  ht : P.underlying t = some (.slice e)
  hu : (∃ d, P.underlying u = some (.slice d)) ∨ P.underlying u = some .string
  hi : P.info? e = some i
  hz : i.zero = some zv
  hzs : zv.cells.size = i.size
  hs0 : i.size ≠ 0
  hb0 : i.bytes ≠ 0
section
variable {t u e ty : TypeId} {i : TypeInfo} {zv : Value}
theorem run_app_none (T : AppT P t u e i zv) {base : Option Addr} {n cap : Nat} {x : Value} {new : List PV} {nv : List Value} (S : Src P w own i.size 0 x new nv) (hc : n ≤ cap) :
    (Builtin.append_ #[t, u] ty #[.slice base n cap, x]).run P w = .ok (.slice base n cap) w := by
  have hl := S.lenOf w
  have hnv : nv = [] := List.eq_nil_of_length_eq_zero (by simpa using S.nlen)
  have hf := S.first w rfl
  rw [hnv] at hf
  rcases T.hu with ⟨d, hd⟩ | hd <;> cases base <;>
    simp [Builtin.append_, run_und T.ht, run_und hd, sizeOf, typeInfo, T.hi, hl, hc, hf, storeCells]
theorem run_app_room (T : AppT P t u e i zv) {g q n cap m : Nat} {x : Value} {new : List PV} {nv : List Value} (S : Src P w own i.size m x new nv) {cur : Array Value} {E : TypeId} (hg : w.heap[g]? = some (.cells cur E (0, 0))) (hc : n + m ≤ cap)
    (hfit : q + n * i.size + nv.length ≤ cur.size) :
    (Builtin.append_ #[t, u] ty #[.slice (some ⟨g, q, none⟩) n cap, x]).run P w = .ok (.slice (some ⟨g, q, none⟩) (n + m) cap) (w.setRow g (cur.toList.take (q + n * i.size) ++ nv ++ cur.toList.drop (q + n * i.size + nv.length)).toArray) := by
  have hl := S.lenOf w
  have hf := S.first w rfl
  have hst := run_storeCells_at P g (q + n * i.size) E nv 0 cur w hg (by simpa using hfit) S.one
  simp only [Nat.add_zero] at hst
  rcases T.hu with ⟨d, hd⟩ | hd <;>
    simp [Builtin.append_, run_und T.ht, run_und hd, sizeOf, typeInfo, T.hi, hl, hc, hf, addrAdd, hst]
theorem run_app_grow (T : AppT P t u e i zv) {base : Option Addr} {n cap m : Nat} {x : Value} {new : List PV} {nv ov : List Value} (S : Src P w own i.size m x new nv) (ho : ∀ w2 : World, w2.heap = w.heap → (Builtin.firstCells i.size n (.slice base n cap)).run P w2 = .ok ov.toArray w2)
    (hc : cap < n + m) (hb : (n + m) * i.bytes ≤ 140737488355328) :
    ∃ c w', (Builtin.append_ #[t, u] ty #[.slice base n cap, x]).run P w = .ok (.slice (some ⟨w.heap.size, 0, none⟩) (n + m) c) w' ∧ n + m ≤ c ∧ c ≤ maxLen ∧ Grow w w' (.cells (ov ++ nv ++ (Builtin.zeroCells zv.cells (c - (n + m))).toList).toArray e (0, 0)) := by
  have hl := S.lenOf w
  have hf := S.first w.drew rfl
  have hof := ho w.drew rfl
  have h48 := growslice_fits hc hb
  have hn : ¬ (n + m ≤ cap) := by omega
  have hb0 := T.hb0
  have h63 : n + m ≤ 140737488355328 := Nat.le_trans (Nat.le_mul_of_pos_right _ (Nat.pos_of_ne_zero hb0)) hb
  have h63' : ¬ (9223372036854775807 < ((n : Int) + (m : Int))) := by omega
  have h48' : ¬ (281474976710656 < Builtin.nextslicecap (n + m) cap * i.bytes) := by omega
  refine ⟨grownCap w (n + m) cap e, w.drew.alloc (.cells (ov ++ nv ++ (Builtin.zeroCells zv.cells (grownCap w (n + m) cap e - (n + m))).toList).toArray e), ?_, grownCap_ge _ _ _ _, grownCap_le_maxLen _ _ _ _ (by unfold maxLen; omega), ⟨rfl, rfl, rfl, rfl⟩⟩
  rcases T.hu with ⟨d, hd⟩ | hd <;>
  · simp [Builtin.append_, run_und T.ht, run_und hd, sizeOf, typeInfo, zeroValue, T.hi, T.hz, hl, hn, h63', h48', Question.forced, hf, hof, newRow, grownCap]
    try (congr 2; apply Array.ext'; simp)
end
end
end Go.Sx
/- append, as the evaluator tells it. -/
namespace Go.Sx
open Go
section
variable {P : Program} {o : Oper} {a : Act} {M : Nm} {w0 w w' : World} {own0 own own' : Own} {nm nm' : Nm} {st : St} {tmps : List Value}
theorem Inv.mapC (I : Inv M w0 own0 w own nm st tmps) {f : CV → CV} (hf : Weak w own nm nm' f) (ha : nm'.adr = nm.adr) (hs : ∀ i g, nm'.sp i = some g → nm.sp i = some g) : Inv M w0 own0 w own nm' (st.mapC f) tmps := by
  haveI := I.good.toGOk
  refine ⟨I.fr, I.good, ⟨fun i j g hi hj => I.nmok.inj i j g (hs i g hi) (hs j g hj), fun i g hi => by rw [ha]; exact I.nmok.row i g (hs i g hi)⟩, ⟨by rw [ha]; simpa [St.mapC] using I.rb.len, by rw [ha]; exact I.rb.nodup, by rw [ha]; exact I.rb.lt, fun k g b hb hk => ?_⟩,
    I.rt.map fun x v _ h => h.map hf, by rw [ha]; exact I.mineA, fun i g hi => I.mineR i g (hs i g hi), by rw [ha]; exact I.ext⟩
  simp only [St.mapC, List.getElem?_map] at hb
  obtain ⟨b', hb', rfl⟩ := Option.map_eq_some_iff.1 hb
  rw [ha] at hk
  exact (I.rb.box k g b' hb' hk).mapB hf
theorem Inv.shut (I : Inv M w0 own0 w own nm st tmps) (i : Nat) : Inv M w0 own0 w own ⟨nm.adr, fun j => if j = i then none else nm.sp j⟩ (st.mapC (CV.shutId i)) tmps :=
  I.mapC (weak_shutId w own nm i) rfl fun j g h => by
    simp only at h
    split at h
    · cases h
    · exact h
theorem Inv.row (I : Inv M w0 own0 w own nm st tmps) {x : Obj} (h : Grow w w' x) {i : Nat} (hi : nm.sp i = none) (L : Nat) :
    Inv M w0 own0 w' (setOwn own w.heap.size (some L)) ⟨nm.adr, fun j => if j = i then some w.heap.size else nm.sp j⟩ st tmps ∧ NmLe w own nm w' (setOwn own w.heap.size (some L)) ⟨nm.adr, fun j => if j = i then some w.heap.size else nm.sp j⟩ := by
  haveI := I.good.toGOk
  have hsp : ∀ j g, nm.sp j = some g → (fun j => if j = i then some w.heap.size else nm.sp j) j = some g := by
    intro j g hj
    have : j ≠ i := fun e => by subst e; rw [hi] at hj; cases hj
    simp [this, hj]
  have hle := h.nmle (nm' := ⟨nm.adr, fun j => if j = i then some w.heap.size else nm.sp j⟩) I.good I.nmok I.rb.lt (some L) (fun _ _ h => h) hsp
  refine ⟨⟨h.fr I.good I.fr _, h.good I.good _, ⟨fun j k g hj hk => ?_, fun j g hj => ?_⟩, ⟨I.rb.len, I.rb.nodup, fun g hg => ?_, fun k g b hb hk => ?_⟩, I.rt.imp fun _ _ => RA.le hle, I.mineA, fun j g hj => ?_, I.ext⟩, hle⟩
  · simp only at hj hk
    split at hj <;> split at hk
    · simp_all
    · cases hj; have := I.nmok.row_lt I.good hk; omega
    · cases hk; have := I.nmok.row_lt I.good hj; omega
    · exact I.nmok.inj j k g hj hk
  · simp only at hj
    split at hj
    · cases hj
      exact ⟨fun hm => by have := I.rb.lt _ hm; omega, by simp [setOwn]⟩
    · have := I.nmok.row_lt I.good hj
      obtain ⟨h1, h2⟩ := I.nmok.row j g hj
      exact ⟨h1, by simp only [setOwn, if_neg (Nat.ne_of_lt this)]; exact h2⟩
  · rw [h.size]; have := I.rb.lt g hg; omega
  · have hlt := I.rb.lt g (List.mem_of_getElem? hk)
    exact (I.rb.box k g b hb hk).le hle (h.old hlt) (by simp only [setOwn, if_neg (Nat.ne_of_lt hlt)])
  · simp only at hj
    split at hj
    · cases hj; exact .inr I.fr.size
    · exact I.mineR j g hj
theorem Inv.rowUpd (I : Inv M w0 own0 w own nm st tmps) {g L L' i : Nat} {cur cur' : Array Value} {T : TypeId} (hi : nm.sp i = none) (ho : own g = some L) (hn : ∀ j, nm.sp j ≠ some g) (ha : g ∉ nm.adr) (hm : (∃ j, M.sp j = some g) ∨ w0.heap.size ≤ g) (hL : L ≤ L')
    (hc : w.heap[g]? = some (.cells cur T (0, 0))) (hc' : w'.heap[g]? = some (.cells cur' T (0, 0))) (hsame : ∀ k, k < L → cur'[k]? = cur[k]?) (hcsz : cur'.size = cur.size) (hos : w'.os = w.os) (htp : w'.tape = w.tape) (hou : w'.output = w.output) (hsz : w'.heap.size = w.heap.size) (hot : ∀ j, j ≠ g → w'.heap[j]? = w.heap[j]?) :
    Inv M w0 own0 w' (setOwn own g (some L')) ⟨nm.adr, fun j => if j = i then some g else nm.sp j⟩ st tmps ∧ NmLe w own nm w' (setOwn own g (some L')) ⟨nm.adr, fun j => if j = i then some g else nm.sp j⟩ := by
  haveI := I.good.toGOk
  have hne : ∀ j, j ≠ g → setOwn own g (some L') j = own j := fun j hj => by simp [setOwn, hj]
  have hkeep : Keeps w own w' (setOwn own g (some L')) := by
    intro j k v hv hp
    by_cases e : j = g
    · subst e
      have hk := hp L ho
      refine ⟨?_, fun L2 h2 => ?_⟩
      · simp only [World.cell?, hc, hc'] at hv ⊢
        simpa [hsame k hk] using hv
      · simp [setOwn] at h2; omega
    · exact ⟨by rw [← hv]; exact World.cell?_of_block (w := w) (hot j e), fun L2 h2 => hp L2 (by rw [← hne j e]; exact h2)⟩
  have hsp : ∀ j k, nm.sp j = some k → (fun j => if j = i then some g else nm.sp j) j = some k ∧ k ≠ g := by
    intro j k hj
    have h1 : j ≠ i := fun e => by subst e; rw [hi] at hj; cases hj
    exact ⟨by simp [h1, hj], fun e => hn j (e ▸ hj)⟩
  have hle : NmLe w own nm w' (setOwn own g (some L')) ⟨nm.adr, fun j => if j = i then some g else nm.sp j⟩ := by
    refine ⟨hkeep, fun _ _ h => h, fun j k hj => ?_, fun k hk cs T2 h2 => ?_⟩
    · obtain ⟨h1, h2⟩ := hsp j k hj
      exact ⟨h1, hot k h2, hne k h2⟩
    · have : k ≠ g := fun e => ha (e ▸ hk)
      exact ⟨cs, by rw [hot k this]; exact h2, rfl⟩
  have hss : SameSize w w' := by
    intro j cs T2 h2
    by_cases e : j = g
    · subst e
      rw [hc] at h2
      cases h2
      exact ⟨cur', hc', hcsz⟩
    · exact ⟨cs, by rw [hot j e]; exact h2, rfl⟩
  refine ⟨⟨⟨hos.trans I.fr.os, htp.trans I.fr.tape, hou.trans I.fr.output, by rw [hsz]; exact I.fr.size, I.fr.keeps.trans hkeep, fun j hj hmj => ?_, I.fr.sizes.trans hss⟩, ⟨I.good.toGOk.keeps hkeep, fun j L2 h2 => ?_⟩, ⟨fun j k k' hj hk => ?_, fun j k hj => ?_⟩,
    ⟨I.rb.len, I.rb.nodup, fun k hk => by rw [hsz]; exact I.rb.lt k hk, fun k k' b hb hk => ?_⟩, I.rt.imp fun _ _ => RA.le hle, I.mineA, fun j k hj => ?_, I.ext⟩, hle⟩
  · obtain ⟨h1, h2⟩ := I.fr.old j hj hmj
    have : j ≠ g := fun e => by
      subst e
      rcases hm with hm | hm
      · exact hmj (.inr hm)
      · omega
    exact ⟨(hot j this).trans h1, (hne j this).trans h2⟩
  · rw [hsz]
    by_cases e : j = g
    · subst e; exact I.good.lt j L ho
    · rw [hne j e] at h2; exact I.good.lt j L2 h2
  · simp only at hj hk
    split at hj <;> split at hk
    · simp_all
    · cases hj; exact absurd hk (hn k)
    · cases hk; exact absurd hj (hn j)
    · exact I.nmok.inj j k k' hj hk
  · simp only at hj
    split at hj
    · cases hj; exact ⟨ha, by simp [setOwn]⟩
    · obtain ⟨h1, h2⟩ := I.nmok.row j k hj
      have : k ≠ g := fun e => hn j (e ▸ hj)
      exact ⟨h1, by rw [hne k this]; exact h2⟩
  · have : k' ≠ g := fun e => ha (e ▸ List.mem_of_getElem? hk)
    exact (I.rb.box k k' b hb hk).le hle (hot k' this) (hne k' this)
  · simp only at hj
    split at hj
    · cases hj; exact hm
    · exact I.mineR j k hj
theorem el_append {es new : List PV} {sz : Nat} {ov nv ex : List Value} (ho : ov.length = es.length * sz) {Q : PV → Value → Prop}
    (h1 : ∀ (i : Nat) (e : PV), es[i]? = some e → (e.cells.length = sz ∧ ∀ c ∈ e.cells, c.flat = true) ∧ ∀ (j : Nat) (c : PV), e.cells[j]? = some c → ∃ u, ov[i * sz + j]? = some u ∧ Q c u)
    (h2 : ∀ (i : Nat) (e : PV), new[i]? = some e → (e.cells.length = sz ∧ ∀ c ∈ e.cells, c.flat = true) ∧ ∀ (j : Nat) (c : PV), e.cells[j]? = some c → ∃ u, nv[i * sz + j]? = some u ∧ Q c u) :
    ∀ (i : Nat) (e : PV), (es ++ new)[i]? = some e → (e.cells.length = sz ∧ ∀ c ∈ e.cells, c.flat = true) ∧ ∀ (j : Nat) (c : PV), e.cells[j]? = some c → ∃ u, (ov ++ nv ++ ex)[i * sz + j]? = some u ∧ Q c u := by
  intro i e he
  by_cases hi : i < es.length
  · rw [List.getElem?_append_left hi] at he
    obtain ⟨h3, h4⟩ := h1 i e he
    refine ⟨h3, fun j c hc => ?_⟩
    obtain ⟨u, hu, hq⟩ := h4 j c hc
    refine ⟨u, ?_, hq⟩
    rw [List.append_assoc, List.getElem?_append_left (List.getElem?_eq_some_iff.1 hu).1]
    exact hu
  · rw [List.getElem?_append_right (by omega)] at he
    obtain ⟨h3, h4⟩ := h2 _ e he
    refine ⟨h3, fun j c hc => ?_⟩
    obtain ⟨u, hu, hq⟩ := h4 j c hc
    refine ⟨u, ?_, hq⟩
    have hk : i * sz + j = ov.length + ((i - es.length) * sz + j) := by
      have : i * sz = es.length * sz + (i - es.length) * sz := by rw [← Nat.add_mul]; congr 1; omega
      omega
    rw [hk, List.append_assoc, List.getElem?_append_right (by omega), Nat.add_sub_cancel_left, List.getElem?_append_left (List.getElem?_eq_some_iff.1 hu).1]
    exact hu
theorem own_of {g sz n cap i : Nat} {es : List PV} {cs : List Value} {T : TypeId} (hb : w.heap[g]? = some (.cells cs.toArray T (0, 0))) (hsz : cs.length = cap * sz) (ho : own g = some (es.length * sz)) (hsp : nm.sp i = some g) (hn : es.length = n) (hcap : n ≤ cap) (hmx : cap ≤ maxLen)
    (hel : ∀ (i : Nat) (e : PV), es[i]? = some e → (e.cells.length = sz ∧ ∀ c ∈ e.cells, c.flat = true) ∧ ∀ (j : Nat) (c : PV), e.cells[j]? = some c → ∃ u, cs[i * sz + j]? = some u ∧ RP w own c u) :
    RA w own nm (.c (.own i sz es)) (.slice (some ⟨g, 0, none⟩) n cap) := by
  subst hn
  refine .ofC (.own i sz es g cap hsp ⟨⟨cs.toArray, T, hb, by simpa using hsz⟩, ho⟩ hcap (slAt_mem (n := es.length) rfl hcap hmx (.inl rfl) fun k e he => ?_).rp)
  obtain ⟨h1, h2⟩ := hel k e he
  refine ⟨h1, fun j c hc => ?_⟩
  obtain ⟨u, hu, hr⟩ := h2 j c hc
  refine ⟨u, fr_cells (cs := cs.toArray) (T := T) hb (by simpa using hu), fun L hL => ?_, hr⟩
  rw [ho] at hL
  cases hL
  have hj : j < sz := by rw [← h1.1]; exact (List.getElem?_eq_some_iff.1 hc).1
  have hk : k < es.length := (List.getElem?_eq_some_iff.1 he).1
  have : (k + 1) * sz ≤ es.length * sz := Nat.mul_le_mul_right _ hk
  rw [Nat.add_mul] at this
  omega
theorem app_goes (I : Inv M w0 own0 w own nm st a.tmps.toList) {t u e : TypeId} {s x : Operand} {S X : XArg} {i : TypeInfo} {zv : Value} {c : Call} (ho : o.op = .call c) (hc1 : c.callee = .builtin .append) (hc2 : c.args = #[s, x]) (hc3 : c.argTypes = #[t, u]) (T : AppT P t u e i zv)
    (hs : cArg s = some S) (hx : cArg x = some X) {v : AV} {st' : St} {call : Oracle} (hv : evW call o.dst (.app i.size i.bytes S X) st = some (v, st')) : Goes P o a w (Left M w0 own0 st' a.tmps.toList v) := by
  haveI := I.good.toGOk
  have h1 := arg_ok I.rt hs
  have h2 := arg_ok I.rt hx
  have run : ∀ {r : Value} {w' : World}, (Builtin.append_ #[t, u] o.type #[a.eval s, a.eval x]).run P w = .ok r w' → (execOp a.eval o).run P w = .ok (.value r) w' := by
    intro r w' h
    simp only [execOp, ho, resolve, hc1, hc2, hc3, Sem.run_bind, Sem.run_pure, Result.andThen_ok, invoke, builtin]
    simp [h]
  have hzs0 : 0 < i.size := Nat.pos_of_ne_zero T.hs0
  simp only [evW] at hv
  split at hv
  · rename_i new hnew
    obtain ⟨nv, Sr⟩ := src_ok (P := P) I h2 hnew
    split at hv
    · -- a plain slice
      rename_i so s' es e1
      rw [e1] at h1
      obtain ⟨ad, cap, e2, hs1⟩ := h1.pv.slv
      split at hv
      · rename_i hn0
        subst hn0
        cases hv
        refine Goes.value (run ?_) ⟨own, nm, I, h1⟩
        rw [e2]
        exact run_app_none T Sr hs1.fits
      · rename_i hn0
        split at hv
        · rename_i hcond
          obtain ⟨hso, hsz, hby⟩ := hcond
          cases hv
          have hm : 0 < new.length := List.length_pos_iff.2 hn0
          have hcap : cap < es.length + new.length := by
            cases so with
            | nil => have := (hs1.z (hs1.nil rfl)).2; omega
            | full => have := hs1.full rfl; omega
            | shut => exact absurd rfl hso
          obtain ⟨ov, o1, o2, o3, o4⟩ : ∃ ov : List Value, ov.length = es.length * i.size ∧ (∀ w2 : World, w2.heap = w.heap → (Builtin.firstCells i.size es.length (.slice ad es.length cap)).run P w2 = .ok ov.toArray w2) ∧
              (∀ (k : Nat) (e : PV), es[k]? = some e → ∀ (j : Nat) (c : PV), e.cells[j]? = some c → ∃ u, ov[k * i.size + j]? = some u ∧ RP w own c u) ∧ (∀ (k : Nat) (e : PV), es[k]? = some e → e.cells.length = i.size ∧ ∀ c ∈ e.cells, c.flat = true) := by
            rcases hsz with hsz | hsz
            · subst hsz
              have ha := hs1.nil rfl; subst ha
              obtain ⟨rfl, rfl⟩ := hs1.z rfl
              exact ⟨[], by simp, fun w2 _ => by simp [Builtin.firstCells], fun k e h => by simp at h, fun k e h => by simp at h⟩
            · subst hsz
              obtain ⟨ov, o1, o2, o3, _⟩ := hs1.cellsL (P := P)
              exact ⟨ov, o1, o2, o3, hs1.el⟩
          obtain ⟨cc, w', hr, hc1', hc2', hg⟩ := run_app_grow (ty := o.type) T Sr o2 hcap (by have := hby; omega)
          rw [← e2] at hr
          have I1 := I.shut (idOf o.dst 63)
          obtain ⟨I2, hle⟩ := I1.row hg (i := idOf o.dst 63) (by simp) ((es ++ new).length * i.size)
          refine Goes.value (run hr) ⟨_, _, I2, ?_⟩
          have hz2 : (Builtin.zeroCells zv.cells (cc - (es.length + new.length))).size = (cc - (es.length + new.length)) * i.size := by rw [size_zeroCells, T.hzs]
          refine own_of (es := es ++ new) hg.new ?_ (by simp [setOwn]) (by simp) (by simp) hc1' hc2' (el_append (ov := ov) (nv := nv) (ex := (Builtin.zeroCells zv.cells (cc - (es.length + new.length))).toList) o1 (fun k e he => ⟨o4 k e he, fun j c hc => ?_⟩) (fun k e he => ⟨(Sr.el k e he).1, fun j c hc => ?_⟩))
          · simp only [List.length_append, Array.length_toList, hz2, o1, Sr.nlen]
            rw [← Nat.add_mul, ← Nat.add_mul]
            congr 1; omega
          · obtain ⟨u, hu, hq⟩ := o3 k e he j c hc
            exact ⟨u, hu, hq.keeps hle.keeps⟩
          · obtain ⟨u, hu, hq⟩ := (Sr.el k e he).2 j c hc
            exact ⟨u, hu, hq.keeps hle.keeps⟩
        · cases hv
    · -- a row that may be appended to
      rename_i id s' es e1
      rw [e1] at h1
      obtain ⟨g, cap, e2, hsp, hrow, hcap0, hrp⟩ := h1.cv.ownv
      obtain ⟨ad', cap', e3, hs1⟩ := hrp.slv
      cases e3
      split at hv
      · rename_i hcond
        obtain ⟨rfl, hby⟩ := hcond
        cases hv
        obtain ⟨ov, o1, o2, o3, _⟩ := hs1.cellsL (P := P)
        have I0 := I.shut id
        have I1 := I0.shut (idOf o.dst 63)
        have hlost : ∀ j, (fun j => if j = idOf o.dst 63 then none else if j = id then none else nm.sp j) j ≠ some g := by
          intro j hj
          simp only at hj
          split at hj
          · cases hj
          · split at hj
            · cases hj
            · rename_i hne; exact hne (I.nmok.inj j id g hj hsp)
        by_cases hroom : es.length + new.length ≤ cap
        · obtain ⟨⟨cur, E, hb, hsz⟩, how⟩ := hrow
          have hnl := Sr.nlen
          have hfit : 0 + es.length * i.size + nv.length ≤ cur.size := by
            rw [hnl, hsz, Nat.zero_add, ← Nat.add_mul]
            exact Nat.mul_le_mul_right _ hroom
          have hr := run_app_room (ty := o.type) T Sr hb hroom hfit
          rw [← e2] at hr
          simp only [Nat.zero_add] at hr hfit
          have hheap := setRow_heap w g _ (cur.toList.take (es.length * i.size) ++ nv ++ cur.toList.drop (es.length * i.size + nv.length)).toArray E (0, 0) hb
          obtain ⟨I2, hle⟩ := I1.rowUpd (w' := w.setRow g (cur.toList.take (es.length * i.size) ++ nv ++ cur.toList.drop (es.length * i.size + nv.length)).toArray) (i := idOf o.dst 63) (L' := (es ++ new).length * i.size) (by simp) how hlost (I.nmok.row id g hsp).1 (I.mineR id g hsp)
            (Nat.mul_le_mul_right _ (by simp)) hb hheap (fun k hk => by
              have h1 : k < (cur.toList.take (es.length * i.size)).length := by simp; omega
              simp only [List.getElem?_toArray, List.append_assoc]
              rw [List.getElem?_append_left h1, List.getElem?_take, if_pos hk]
              simp) (by simp only [List.size_toArray, List.length_append, List.length_take, List.length_drop, Array.length_toList]; omega) rfl rfl rfl (by simp [World.setRow]) (fun j hj => setRow_other w g j _ hj)
          refine Goes.value (run hr) ⟨_, _, I2, ?_⟩
          have htk : cur.toList.take (es.length * i.size) = ov := by
            have h5 := o2 w rfl
            have h6 : (Builtin.firstCells i.size es.length (.slice (some ⟨g, 0, none⟩) es.length cap)).run P w = .ok (cur.toList.take (es.length * i.size)).toArray w := by
              refine firstCells_ok (by simp; omega) fun j u hj => ?_
              rw [addrAdd, Nat.zero_add]
              rw [List.getElem?_take] at hj
              split at hj
              · exact fr_cells hb (by simpa using hj)
              · cases hj
            rw [h5] at h6
            have h7 : ov.toArray = (cur.toList.take (es.length * i.size)).toArray := by injection h6
            have := congrArg Array.toList h7
            simpa using this.symm
          refine own_of (es := es ++ new) (cs := cur.toList.take (es.length * i.size) ++ nv ++ cur.toList.drop (es.length * i.size + nv.length)) hheap ?_ (by simp [setOwn]) (by simp) (by simp) hroom hs1.mx ?_
          · simp only [List.length_append, List.length_take, List.length_drop, Array.length_toList]
            omega
          · subst htk
            refine el_append (nv := nv) o1 (fun k e he => ⟨hs1.el k e he, fun j c hc => ?_⟩) (fun k e he => ⟨(Sr.el k e he).1, fun j c hc => ?_⟩)
            · obtain ⟨u, hu, hq⟩ := o3 k e he j c hc
              exact ⟨u, hu, hq.keeps hle.keeps⟩
            · obtain ⟨u, hu, hq⟩ := (Sr.el k e he).2 j c hc
              exact ⟨u, hu, hq.keeps hle.keeps⟩
        · obtain ⟨cc, w', hr, hc1', hc2', hg⟩ := run_app_grow (ty := o.type) T Sr o2 (by omega) (by have := hby; omega)
          rw [← e2] at hr
          obtain ⟨I2, hle⟩ := I1.row hg (i := idOf o.dst 63) (by simp) ((es ++ new).length * i.size)
          refine Goes.value (run hr) ⟨_, _, I2, ?_⟩
          have hz2 : (Builtin.zeroCells zv.cells (cc - (es.length + new.length))).size = (cc - (es.length + new.length)) * i.size := by rw [size_zeroCells, T.hzs]
          refine own_of (es := es ++ new) hg.new ?_ (by simp [setOwn]) (by simp) (by simp) hc1' hc2' (el_append (ov := ov) (nv := nv) (ex := (Builtin.zeroCells zv.cells (cc - (es.length + new.length))).toList) o1 (fun k e he => ⟨hs1.el k e he, fun j c hc => ?_⟩) (fun k e he => ⟨(Sr.el k e he).1, fun j c hc => ?_⟩))
          · simp only [List.length_append, Array.length_toList, hz2, o1, Sr.nlen]
            rw [← Nat.add_mul, ← Nat.add_mul]
            congr 1; omega
          · obtain ⟨u, hu, hq⟩ := o3 k e he j c hc
            exact ⟨u, hu, hq.keeps hle.keeps⟩
          · obtain ⟨u, hu, hq⟩ := (Sr.el k e he).2 j c hc
            exact ⟨u, hu, hq.keeps hle.keeps⟩
      · cases hv
    · cases hv
  · cases hv
end
end Go.Sx
