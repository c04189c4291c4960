/- append, as the evaluator tells it. -/
import Derived.Test.YtggopflifieoiaaDoorSxApp
namespace Go.Sx
open Go
section
variable {P : Program} {o : Oper} {a : Act} {M : Nm} {w0 w w' : World} {own0 own own' : Own} {nm nm' : Nm} {st : St} {tmps : List Value}
theorem Inv.mapC (I : Inv M w0 own0 w own nm st tmps) {f : CV → CV} (hf : Weak w own nm nm' f) (ha : nm'.adr = nm.adr) (hs : ∀ i g, nm'.sp i = some g → nm.sp i = some g) : Inv M w0 own0 w own nm' (st.mapC f) tmps := by
  haveI := I.good.toGOk
  refine ⟨I.fr, I.good, ⟨fun i j g hi hj => I.nmok.inj i j g (hs i g hi) (hs j g hj), fun i g hi => by rw [ha]; exact I.nmok.row i g (hs i g hi)⟩, ⟨by rw [ha]; simpa [St.mapC] using I.rb.len, by rw [ha]; exact I.rb.nodup, by rw [ha]; exact I.rb.lt, fun k g b hb hk => ?_⟩,
    I.rt.map fun x v _ h => h.map hf, by rw [ha]; exact I.mineA, fun i g hi => I.mineR i g (hs i g hi), by rw [ha]; exact I.ext⟩
  simp only [St.mapC, List.getElem?_map] at hb
  obtain ⟨b', hb', rfl⟩ := Option.map_eq_some_iff.1 hb
  rw [ha] at hk
  exact (I.rb.box k g b' hb' hk).mapB hf
theorem Inv.shut (I : Inv M w0 own0 w own nm st tmps) (i : Nat) : Inv M w0 own0 w own ⟨nm.adr, fun j => if j = i then none else nm.sp j⟩ (st.mapC (CV.shutId i)) tmps :=
  I.mapC (weak_shutId w own nm i) rfl fun j g h => by
    simp only at h
    split at h
    · cases h
    · exact h
theorem Inv.row (I : Inv M w0 own0 w own nm st tmps) {x : Obj} (h : Grow w w' x) {i : Nat} (hi : nm.sp i = none) (L : Nat) :
    Inv M w0 own0 w' (setOwn own w.heap.size (some L)) ⟨nm.adr, fun j => if j = i then some w.heap.size else nm.sp j⟩ st tmps ∧ NmLe w own nm w' (setOwn own w.heap.size (some L)) ⟨nm.adr, fun j => if j = i then some w.heap.size else nm.sp j⟩ := by
  haveI := I.good.toGOk
  have hsp : ∀ j g, nm.sp j = some g → (fun j => if j = i then some w.heap.size else nm.sp j) j = some g := by
    intro j g hj
    have : j ≠ i := fun e => by subst e; rw [hi] at hj; cases hj
    simp [this, hj]
  have hle := h.nmle (nm' := ⟨nm.adr, fun j => if j = i then some w.heap.size else nm.sp j⟩) I.good I.nmok I.rb.lt (some L) (fun _ _ h => h) hsp
  refine ⟨⟨h.fr I.good I.fr _, h.good I.good _, ⟨fun j k g hj hk => ?_, fun j g hj => ?_⟩, ⟨I.rb.len, I.rb.nodup, fun g hg => ?_, fun k g b hb hk => ?_⟩, I.rt.imp fun _ _ => RA.le hle, I.mineA, fun j g hj => ?_, I.ext⟩, hle⟩
  · simp only at hj hk
    split at hj <;> split at hk
    · simp_all
    · cases hj; have := I.nmok.row_lt I.good hk; omega
    · cases hk; have := I.nmok.row_lt I.good hj; omega
    · exact I.nmok.inj j k g hj hk
  · simp only at hj
    split at hj
    · cases hj
      exact ⟨fun hm => by have := I.rb.lt _ hm; omega, by simp [setOwn]⟩
    · have := I.nmok.row_lt I.good hj
      obtain ⟨h1, h2⟩ := I.nmok.row j g hj
      exact ⟨h1, by simp only [setOwn, if_neg (Nat.ne_of_lt this)]; exact h2⟩
  · rw [h.size]; have := I.rb.lt g hg; omega
  · have hlt := I.rb.lt g (List.mem_of_getElem? hk)
    exact (I.rb.box k g b hb hk).le hle (h.old hlt) (by simp only [setOwn, if_neg (Nat.ne_of_lt hlt)])
  · simp only at hj
    split at hj
    · cases hj; exact .inr I.fr.size
    · exact I.mineR j g hj
theorem Inv.rowUpd (I : Inv M w0 own0 w own nm st tmps) {g L L' i : Nat} {cur cur' : Array Value} {T : TypeId} (hi : nm.sp i = none) (ho : own g = some L) (hn : ∀ j, nm.sp j ≠ some g) (ha : g ∉ nm.adr) (hm : (∃ j, M.sp j = some g) ∨ w0.heap.size ≤ g) (hL : L ≤ L')
    (hc : w.heap[g]? = some (.cells cur T (0, 0))) (hc' : w'.heap[g]? = some (.cells cur' T (0, 0))) (hsame : ∀ k, k < L → cur'[k]? = cur[k]?) (hcsz : cur'.size = cur.size) (hos : w'.os = w.os) (htp : w'.tape = w.tape) (hou : w'.output = w.output) (hsz : w'.heap.size = w.heap.size) (hot : ∀ j, j ≠ g → w'.heap[j]? = w.heap[j]?) :
    Inv M w0 own0 w' (setOwn own g (some L')) ⟨nm.adr, fun j => if j = i then some g else nm.sp j⟩ st tmps ∧ NmLe w own nm w' (setOwn own g (some L')) ⟨nm.adr, fun j => if j = i then some g else nm.sp j⟩ := by
  haveI := I.good.toGOk
  have hne : ∀ j, j ≠ g → setOwn own g (some L') j = own j := fun j hj => by simp [setOwn, hj]
  have hkeep : Keeps w own w' (setOwn own g (some L')) := by
    intro j k v hv hp
    by_cases e : j = g
    · subst e
      have hk := hp L ho
      refine ⟨?_, fun L2 h2 => ?_⟩
      · simp only [World.cell?, hc, hc'] at hv ⊢
        simpa [hsame k hk] using hv
      · simp [setOwn] at h2; omega
    · exact ⟨by rw [← hv]; exact World.cell?_of_block (w := w) (hot j e), fun L2 h2 => hp L2 (by rw [← hne j e]; exact h2)⟩
  have hsp : ∀ j k, nm.sp j = some k → (fun j => if j = i then some g else nm.sp j) j = some k ∧ k ≠ g := by
    intro j k hj
    have h1 : j ≠ i := fun e => by subst e; rw [hi] at hj; cases hj
    exact ⟨by simp [h1, hj], fun e => hn j (e ▸ hj)⟩
  have hle : NmLe w own nm w' (setOwn own g (some L')) ⟨nm.adr, fun j => if j = i then some g else nm.sp j⟩ := by
    refine ⟨hkeep, fun _ _ h => h, fun j k hj => ?_, fun k hk cs T2 fz h2 => ?_⟩
    · obtain ⟨h1, h2⟩ := hsp j k hj
      exact ⟨h1, hot k h2, hne k h2⟩
    · have : k ≠ g := fun e => ha (e ▸ hk)
      exact ⟨cs, by rw [hot k this]; exact h2, rfl⟩
  have hss : SameSize w w' := by
    intro j cs T2 fz h2
    by_cases e : j = g
    · subst e
      rw [hc] at h2
      cases h2
      exact ⟨cur', hc', hcsz⟩
    · exact ⟨cs, by rw [hot j e]; exact h2, rfl⟩
  refine ⟨⟨⟨hos.trans I.fr.os, htp.trans I.fr.tape, hou.trans I.fr.output, by rw [hsz]; exact I.fr.size, I.fr.keeps.trans hkeep, fun j hj hmj => ?_, I.fr.sizes.trans hss⟩, ⟨I.good.toGOk.keeps hkeep, fun j L2 h2 => ?_⟩, ⟨fun j k k' hj hk => ?_, fun j k hj => ?_⟩,
    ⟨I.rb.len, I.rb.nodup, fun k hk => by rw [hsz]; exact I.rb.lt k hk, fun k k' b hb hk => ?_⟩, I.rt.imp fun _ _ => RA.le hle, I.mineA, fun j k hj => ?_, I.ext⟩, hle⟩
  · obtain ⟨h1, h2⟩ := I.fr.old j hj hmj
    have : j ≠ g := fun e => by
      subst e
      rcases hm with hm | hm
      · exact hmj (.inr hm)
      · omega
    exact ⟨(hot j this).trans h1, (hne j this).trans h2⟩
  · rw [hsz]
    by_cases e : j = g
    · subst e; exact I.good.lt j L ho
    · rw [hne j e] at h2; exact I.good.lt j L2 h2
  · simp only at hj hk
    split at hj <;> split at hk
    · simp_all
    · cases hj; exact absurd hk (hn k)
    · cases hk; exact absurd hj (hn j)
    · exact I.nmok.inj j k k' hj hk
  · simp only at hj
    split at hj
    · cases hj; exact ⟨ha, by simp [setOwn]⟩
    · obtain ⟨h1, h2⟩ := I.nmok.row j k hj
      have : k ≠ g := fun e => hn j (e ▸ hj)
      exact ⟨h1, by rw [hne k this]; exact h2⟩
  · have : k' ≠ g := fun e => ha (e ▸ List.mem_of_getElem? hk)
    exact (I.rb.box k k' b hb hk).le hle (hot k' this) (hne k' this)
  · simp only at hj
    split at hj
    · cases hj; exact hm
    · exact I.mineR j k hj
theorem el_append {es new : List PV} {sz : Nat} {ov nv ex : List Value} (ho : ov.length = es.length * sz) {Q : PV → Value → Prop}
    (h1 : ∀ (i : Nat) (e : PV), es[i]? = some e → (e.cells.length = sz ∧ ∀ c ∈ e.cells, c.flat = true) ∧ ∀ (j : Nat) (c : PV), e.cells[j]? = some c → ∃ u, ov[i * sz + j]? = some u ∧ Q c u)
    (h2 : ∀ (i : Nat) (e : PV), new[i]? = some e → (e.cells.length = sz ∧ ∀ c ∈ e.cells, c.flat = true) ∧ ∀ (j : Nat) (c : PV), e.cells[j]? = some c → ∃ u, nv[i * sz + j]? = some u ∧ Q c u) :
    ∀ (i : Nat) (e : PV), (es ++ new)[i]? = some e → (e.cells.length = sz ∧ ∀ c ∈ e.cells, c.flat = true) ∧ ∀ (j : Nat) (c : PV), e.cells[j]? = some c → ∃ u, (ov ++ nv ++ ex)[i * sz + j]? = some u ∧ Q c u := by
  intro i e he
  by_cases hi : i < es.length
  · rw [List.getElem?_append_left hi] at he
    obtain ⟨h3, h4⟩ := h1 i e he
    refine ⟨h3, fun j c hc => ?_⟩
    obtain ⟨u, hu, hq⟩ := h4 j c hc
    refine ⟨u, ?_, hq⟩
    rw [List.append_assoc, List.getElem?_append_left (List.getElem?_eq_some_iff.1 hu).1]
    exact hu
  · rw [List.getElem?_append_right (by omega)] at he
    obtain ⟨h3, h4⟩ := h2 _ e he
    refine ⟨h3, fun j c hc => ?_⟩
    obtain ⟨u, hu, hq⟩ := h4 j c hc
    refine ⟨u, ?_, hq⟩
    have hk : i * sz + j = ov.length + ((i - es.length) * sz + j) := by
      have : i * sz = es.length * sz + (i - es.length) * sz := by rw [← Nat.add_mul]; congr 1; omega
      omega
    rw [hk, List.append_assoc, List.getElem?_append_right (by omega), Nat.add_sub_cancel_left, List.getElem?_append_left (List.getElem?_eq_some_iff.1 hu).1]
    exact hu
theorem own_of {g sz n cap i : Nat} {es : List PV} {cs : List Value} {T : TypeId} (hb : w.heap[g]? = some (.cells cs.toArray T (0, 0))) (hsz : cs.length = cap * sz) (ho : own g = some (es.length * sz)) (hsp : nm.sp i = some g) (hn : es.length = n) (hcap : n ≤ cap) (hmx : cap ≤ maxLen)
    (hel : ∀ (i : Nat) (e : PV), es[i]? = some e → (e.cells.length = sz ∧ ∀ c ∈ e.cells, c.flat = true) ∧ ∀ (j : Nat) (c : PV), e.cells[j]? = some c → ∃ u, cs[i * sz + j]? = some u ∧ RP w own c u) :
    RA w own nm (.c (.own i sz es)) (.slice (some ⟨g, 0, none⟩) n cap) := by
  subst hn
  refine .ofC (.own i sz es g cap hsp ⟨⟨cs.toArray, T, hb, by simpa using hsz⟩, ho⟩ hcap (slAt_mem (n := es.length) rfl hcap hmx (.inl rfl) fun k e he => ?_).rp)
  obtain ⟨h1, h2⟩ := hel k e he
  refine ⟨h1, fun j c hc => ?_⟩
  obtain ⟨u, hu, hr⟩ := h2 j c hc
  refine ⟨u, fr_cells (cs := cs.toArray) (T := T) hb (by simpa using hu), fun L hL => ?_, hr⟩
  rw [ho] at hL
  cases hL
  have hj : j < sz := by rw [← h1.1]; exact (List.getElem?_eq_some_iff.1 hc).1
  have hk : k < es.length := (List.getElem?_eq_some_iff.1 he).1
  have : (k + 1) * sz ≤ es.length * sz := Nat.mul_le_mul_right _ hk
  rw [Nat.add_mul] at this
  omega
theorem app_goes (I : Inv M w0 own0 w own nm st a.tmps.toList) {t u e : TypeId} {s x : Operand} {S X : XArg} {i : TypeInfo} {zv : Value} {c : Call} (ho : o.op = .call c) (hc1 : c.callee = .builtin .append) (hc2 : c.args = #[s, x]) (hc3 : c.argTypes = #[t, u]) (T : AppT P t u e i zv)
    (hs : cArg s = some S) (hx : cArg x = some X) {v : AV} {st' : St} {call : Oracle} (hv : evW call o.dst (.app i.size i.bytes S X) st = some (v, st')) : Goes P o a w (Left M w0 own0 st' a.tmps.toList v) := by
  haveI := I.good.toGOk
  have h1 := arg_ok I.rt hs
  have h2 := arg_ok I.rt hx
  have run : ∀ {r : Value} {w' : World}, (Builtin.append_ #[t, u] o.type #[a.eval s, a.eval x]).run P w = .ok r w' → (execOp a.eval o).run P w = .ok (.value r) w' := by
    intro r w' h
    simp only [execOp, ho, resolve, hc1, hc2, hc3, Sem.run_bind, Sem.run_pure, Result.andThen_ok, invoke, builtin]
    simp [h]
  have hzs0 : 0 < i.size := Nat.pos_of_ne_zero T.hs0
  simp only [evW] at hv
  split at hv
  · rename_i new hnew
    obtain ⟨nv, Sr⟩ := src_ok (P := P) I h2 hnew
    split at hv
    · -- a plain slice
      rename_i so s' es e1
      rw [e1] at h1
      obtain ⟨ad, cap, e2, hs1⟩ := h1.pv.slv
      split at hv
      · rename_i hn0
        subst hn0
        cases hv
        refine Goes.value (run ?_) ⟨own, nm, I, h1⟩
        rw [e2]
        exact run_app_none T Sr hs1.fits
      · rename_i hn0
        split at hv
        · rename_i hcond
          obtain ⟨hso, hsz, hby⟩ := hcond
          cases hv
          have hm : 0 < new.length := List.length_pos_iff.2 hn0
          have hcap : cap < es.length + new.length := by
            cases so with
            | nil => have := (hs1.z (hs1.nil rfl)).2; omega
            | full => have := hs1.full rfl; omega
            | shut => exact absurd rfl hso
          obtain ⟨ov, o1, o2, o3, o4⟩ : ∃ ov : List Value, ov.length = es.length * i.size ∧ (∀ w2 : World, w2.heap = w.heap → (Builtin.firstCells i.size es.length (.slice ad es.length cap)).run P w2 = .ok ov.toArray w2) ∧
              (∀ (k : Nat) (e : PV), es[k]? = some e → ∀ (j : Nat) (c : PV), e.cells[j]? = some c → ∃ u, ov[k * i.size + j]? = some u ∧ RP w own c u) ∧ (∀ (k : Nat) (e : PV), es[k]? = some e → e.cells.length = i.size ∧ ∀ c ∈ e.cells, c.flat = true) := by
            rcases hsz with hsz | hsz
            · subst hsz
              have ha := hs1.nil rfl; subst ha
              obtain ⟨rfl, rfl⟩ := hs1.z rfl
              exact ⟨[], by simp, fun w2 _ => by simp [Builtin.firstCells], fun k e h => by simp at h, fun k e h => by simp at h⟩
            · subst hsz
              obtain ⟨ov, o1, o2, o3, _⟩ := hs1.cellsL (P := P)
              exact ⟨ov, o1, o2, o3, hs1.el⟩
          obtain ⟨cc, w', hr, hc1', hc2', hg⟩ := run_app_grow (ty := o.type) T Sr o2 hcap (by have := hby; omega)
          rw [← e2] at hr
          have I1 := I.shut (idOf o.dst 63)
          obtain ⟨I2, hle⟩ := I1.row hg (i := idOf o.dst 63) (by simp) ((es ++ new).length * i.size)
          refine Goes.value (run hr) ⟨_, _, I2, ?_⟩
          have hz2 : (Builtin.zeroCells zv.cells (cc - (es.length + new.length))).size = (cc - (es.length + new.length)) * i.size := by rw [size_zeroCells, T.hzs]
          refine own_of (es := es ++ new) hg.new ?_ (by simp [setOwn]) (by simp) (by simp) hc1' hc2' (el_append (ov := ov) (nv := nv) (ex := (Builtin.zeroCells zv.cells (cc - (es.length + new.length))).toList) o1 (fun k e he => ⟨o4 k e he, fun j c hc => ?_⟩) (fun k e he => ⟨(Sr.el k e he).1, fun j c hc => ?_⟩))
          · simp only [List.length_append, Array.length_toList, hz2, o1, Sr.nlen]
            rw [← Nat.add_mul, ← Nat.add_mul]
            congr 1; omega
          · obtain ⟨u, hu, hq⟩ := o3 k e he j c hc
            exact ⟨u, hu, hq.keeps hle.keeps⟩
          · obtain ⟨u, hu, hq⟩ := (Sr.el k e he).2 j c hc
            exact ⟨u, hu, hq.keeps hle.keeps⟩
        · cases hv
    · -- a row that may be appended to
      rename_i id s' es e1
      rw [e1] at h1
      obtain ⟨g, cap, e2, hsp, hrow, hcap0, hrp⟩ := h1.cv.ownv
      obtain ⟨ad', cap', e3, hs1⟩ := hrp.slv
      cases e3
      split at hv
      · rename_i hcond
        obtain ⟨rfl, hby⟩ := hcond
        cases hv
        obtain ⟨ov, o1, o2, o3, _⟩ := hs1.cellsL (P := P)
        have I0 := I.shut id
        have I1 := I0.shut (idOf o.dst 63)
        have hlost : ∀ j, (fun j => if j = idOf o.dst 63 then none else if j = id then none else nm.sp j) j ≠ some g := by
          intro j hj
          simp only at hj
          split at hj
          · cases hj
          · split at hj
            · cases hj
            · rename_i hne; exact hne (I.nmok.inj j id g hj hsp)
        by_cases hroom : es.length + new.length ≤ cap
        · obtain ⟨⟨cur, E, hb, hsz⟩, how⟩ := hrow
          have hnl := Sr.nlen
          have hfit : 0 + es.length * i.size + nv.length ≤ cur.size := by
            rw [hnl, hsz, Nat.zero_add, ← Nat.add_mul]
            exact Nat.mul_le_mul_right _ hroom
          have hr := run_app_room (ty := o.type) T Sr hb hroom hfit
          rw [← e2] at hr
          simp only [Nat.zero_add] at hr hfit
          have hheap := setRow_heap w g _ (cur.toList.take (es.length * i.size) ++ nv ++ cur.toList.drop (es.length * i.size + nv.length)).toArray E (0, 0) hb
          obtain ⟨I2, hle⟩ := I1.rowUpd (w' := w.setRow g (cur.toList.take (es.length * i.size) ++ nv ++ cur.toList.drop (es.length * i.size + nv.length)).toArray) (i := idOf o.dst 63) (L' := (es ++ new).length * i.size) (by simp) how hlost (I.nmok.row id g hsp).1 (I.mineR id g hsp)
            (Nat.mul_le_mul_right _ (by simp)) hb hheap (fun k hk => by
              have h1 : k < (cur.toList.take (es.length * i.size)).length := by simp; omega
              simp only [List.getElem?_toArray, List.append_assoc]
              rw [List.getElem?_append_left h1, List.getElem?_take, if_pos hk]
              simp) (by simp only [List.size_toArray, List.length_append, List.length_take, List.length_drop, Array.length_toList]; omega) rfl rfl rfl (by simp [World.setRow]) (fun j hj => setRow_other w g j _ hj)
          refine Goes.value (run hr) ⟨_, _, I2, ?_⟩
          have htk : cur.toList.take (es.length * i.size) = ov := by
            have h5 := o2 w rfl
            have h6 : (Builtin.firstCells i.size es.length (.slice (some ⟨g, 0, none⟩) es.length cap)).run P w = .ok (cur.toList.take (es.length * i.size)).toArray w := by
              refine firstCells_ok (by simp; omega) fun j u hj => ?_
              rw [addrAdd, Nat.zero_add]
              rw [List.getElem?_take] at hj
              split at hj
              · exact fr_cells hb (by simpa using hj)
              · cases hj
            rw [h5] at h6
            have h7 : ov.toArray = (cur.toList.take (es.length * i.size)).toArray := by injection h6
            have := congrArg Array.toList h7
            simpa using this.symm
          refine own_of (es := es ++ new) (cs := cur.toList.take (es.length * i.size) ++ nv ++ cur.toList.drop (es.length * i.size + nv.length)) hheap ?_ (by simp [setOwn]) (by simp) (by simp) hroom hs1.mx ?_
          · simp only [List.length_append, List.length_take, List.length_drop, Array.length_toList]
            omega
          · subst htk
            refine el_append (nv := nv) o1 (fun k e he => ⟨hs1.el k e he, fun j c hc => ?_⟩) (fun k e he => ⟨(Sr.el k e he).1, fun j c hc => ?_⟩)
            · obtain ⟨u, hu, hq⟩ := o3 k e he j c hc
              exact ⟨u, hu, hq.keeps hle.keeps⟩
            · obtain ⟨u, hu, hq⟩ := (Sr.el k e he).2 j c hc
              exact ⟨u, hu, hq.keeps hle.keeps⟩
        · obtain ⟨cc, w', hr, hc1', hc2', hg⟩ := run_app_grow (ty := o.type) T Sr o2 (by omega) (by have := hby; omega)
          rw [← e2] at hr
          obtain ⟨I2, hle⟩ := I1.row hg (i := idOf o.dst 63) (by simp) ((es ++ new).length * i.size)
          refine Goes.value (run hr) ⟨_, _, I2, ?_⟩
          have hz2 : (Builtin.zeroCells zv.cells (cc - (es.length + new.length))).size = (cc - (es.length + new.length)) * i.size := by rw [size_zeroCells, T.hzs]
          refine own_of (es := es ++ new) hg.new ?_ (by simp [setOwn]) (by simp) (by simp) hc1' hc2' (el_append (ov := ov) (nv := nv) (ex := (Builtin.zeroCells zv.cells (cc - (es.length + new.length))).toList) o1 (fun k e he => ⟨hs1.el k e he, fun j c hc => ?_⟩) (fun k e he => ⟨(Sr.el k e he).1, fun j c hc => ?_⟩))
          · simp only [List.length_append, Array.length_toList, hz2, o1, Sr.nlen]
            rw [← Nat.add_mul, ← Nat.add_mul]
            congr 1; omega
          · obtain ⟨u, hu, hq⟩ := o3 k e he j c hc
            exact ⟨u, hu, hq.keeps hle.keeps⟩
          · obtain ⟨u, hu, hq⟩ := (Sr.el k e he).2 j c hc
            exact ⟨u, hu, hq.keeps hle.keeps⟩
      · cases hv
    · cases hv
  · cases hv
end
end Go.Sx
