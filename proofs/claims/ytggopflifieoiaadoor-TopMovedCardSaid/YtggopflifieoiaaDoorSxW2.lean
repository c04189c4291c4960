/- Slices that are made: literals, 'make'; maps. -/
import Derived.Test.YtggopflifieoiaaDoorSxW
import Derived.Laws.MakeOwn
import Derived.Laws.IdiomStrings
namespace Go.Sx
open Go
section
variable {P : Program} {o : Oper} {a : Act} {M : Nm} {w0 w w' : World} {own0 own own' : Own} {nm nm' : Nm} {st : St} {tmps : List Value}
theorem elemsB_ok {cs : List CV} {us : List Value} (h : All2 (RC w own nm) cs us) {sz : Nat} : ∀ (n off : Nat) (es : List PV), elemsB cs sz off n = some es →
    es.length = n ∧ ∀ (i : Nat) (e : PV), es[i]? = some e → (e.cells.length = sz ∧ ∀ c ∈ e.cells, c.flat = true) ∧ ∀ (j : Nat) (c : PV), e.cells[j]? = some c → ∃ u, us[off + i * sz + j]? = some u ∧ RP w own c u
  | 0, off, es, he => by
    simp only [elemsB, Option.some.injEq] at he; subst he
    exact ⟨rfl, fun i e h => by simp at h⟩
  | n + 1, off, es, he => by
    simp only [elemsB] at he
    split at he
    · rename_i ps r hps hr
      cases he
      obtain ⟨l, hl, hps⟩ := Option.bind_eq_some_iff.1 hps
      obtain ⟨h1, h2⟩ := takeB_all2 h sz off l hl
      obtain ⟨h3, h4, h5⟩ := toPVs_ok hps h2
      obtain ⟨g1, g2⟩ := elemsB_ok h n (off + sz) r hr
      refine ⟨by simp [g1], fun i e hi => ?_⟩
      cases i with
      | zero =>
        simp only [List.getElem?_cons_zero, Option.some.injEq] at hi; subst hi
        have hcells : (if sz = 1 then ps.headD default else PV.agg ps).cells = ps := by
          split
          · rename_i hs
            subst hs
            cases ps with
            | nil => rw [h1] at h4; simp at h4
            | cons p ps' =>
              have : ps' = [] := List.eq_nil_of_length_eq_zero (by rw [h1] at h4; simpa using h4)
              subst this
              have := h5 p (by simp)
              cases p <;> simp_all [PV.cells, PV.flat]
          · rfl
        rw [hcells]
        refine ⟨⟨h4.trans h1, h5⟩, fun j c hj => ?_⟩
        obtain ⟨u, hu, hru⟩ := h3.get hj
        refine ⟨u, ?_, hru⟩
        rw [List.getElem?_take] at hu
        split at hu
        · rw [List.getElem?_drop] at hu; simpa using hu
        · cases hu
      | succ i =>
        obtain ⟨g3, g4⟩ := g2 i e (by simpa using hi)
        refine ⟨g3, fun j c hj => ?_⟩
        obtain ⟨u, hu, hru⟩ := g4 j c hj
        exact ⟨u, by rw [show off + (i + 1) * sz + j = off + sz + i * sz + j by rw [Nat.add_mul]; omega]; exact hu, hru⟩
    · cases he
theorem elems_ok {b : Box} {g sz off n : Nat} {es : List PV} (hb : RBx w own nm b g) (he : b.elems sz off n = some es) : ∃ (us ex : List Value) (T : TypeId) (fz : Nat × Nat), w.heap[g]? = some (.cells (us ++ ex).toArray T fz) ∧
    es.length = n ∧ ∀ (i : Nat) (e : PV), es[i]? = some e → (e.cells.length = sz ∧ ∀ c ∈ e.cells, c.flat = true) ∧ ∀ (j : Nat) (c : PV), e.cells[j]? = some c → ∃ u, us[off + i * sz + j]? = some u ∧ RP w own c u := by
  cases hb with
  | cells cs _ us T h1 h2 h3 => obtain ⟨fz, h1, _⟩ := h1; exact ⟨us, [], T, fz, by rw [List.append_nil]; exact h1, elemsB_ok h3 n off es he⟩
  | row s r _ h hr hs =>
    simp only [Box.elems] at he
    split at he
    · rename_i hc
      cases he
      obtain ⟨rfl, hm, hle⟩ := hc
      have hr' := List.all_eq_true.1 hr
      cases h with
      | mk us ex T h1 h2 h3 =>
        obtain ⟨fz, h1, _⟩ := h1
        refine ⟨us, ex, T, fz, h1, by rw [List.length_take, List.length_drop]; omega, fun i e hi => ?_⟩
        rw [List.getElem?_take] at hi
        split at hi
        · rw [List.getElem?_drop] at hi
          have hp := rowE_cells (hr' e (List.mem_of_getElem? hi))
          refine ⟨⟨hp.1, fun c hc => PV.plain0_flat (hp.2 c hc)⟩, fun j c hc => ?_⟩
          obtain ⟨u, hu, hru⟩ := h3.get (flatR_get hr' hi hc)
          refine ⟨u, ?_, hru.pvv⟩
          have : off + i * s + j = (off / s + i) * s + j := by
            have := Nat.div_add_mod off s
            rw [hm, Nat.add_zero, Nat.mul_comm] at this
            rw [Nat.add_mul, this]
          rw [this]; exact hu
        · cases hi
    · cases he
  | _ => simp [Box.elems] at he
theorem slAt_mem {so : SO} {es : List PV} {g off n cap sz : Nat} (hn : es.length = n) (hcap : n ≤ cap) (hmx : cap ≤ maxLen) (hso : so = .shut ∨ (so = .full ∧ cap = n))
    (h : ∀ (i : Nat) (e : PV), es[i]? = some e → (e.cells.length = sz ∧ ∀ c ∈ e.cells, c.flat = true) ∧ ∀ (j : Nat) (c : PV), e.cells[j]? = some c → ∃ u, w.cell? ⟨g, off + i * sz + j, none⟩ = some u ∧ Pr own g (off + i * sz + j) ∧ RP w own c u) :
    SlAt w own so sz es (some ⟨g, off, none⟩) cap := by
  have hget : ∀ i j, i < es.length → j < sz → ∃ (e c : PV), es[i]? = some e ∧ e.cells[j]? = some c := by
    intro i j hi hj
    have he := List.getElem?_eq_getElem hi
    obtain ⟨h1, _⟩ := h i _ he
    exact ⟨_, _, he, List.getElem?_eq_getElem (by rw [h1.1]; exact hj)⟩
  refine ⟨by omega, hmx, (fun e => ?_), (fun _ e => by cases e), (fun e => ?_), (fun e => by cases e), (fun i e he => (h i e he).1),
    ⟨fun i j => (w.cell? ⟨g, off + i * sz + j, none⟩).getD Go.undef, (fun ad he hp => ?_), (fun i j e c he hc => ?_)⟩⟩
  · rcases hso with rfl | ⟨rfl, _⟩ <;> cases e
  · rcases hso with rfl | ⟨rfl, hc⟩
    · cases e
    · omega
  · cases he
    refine ⟨rfl, fun i j hi hj => ?_⟩
    obtain ⟨e, c, he, hc⟩ := hget i j hi hj
    obtain ⟨u, h1, h2, _⟩ := (h i e he).2 j c hc
    exact ⟨by simp [h1], h2⟩
  · obtain ⟨u, h1, _, h3⟩ := (h i e he).2 j c hc
    simpa [h1] using h3
theorem repC_len {z : List CV} {sz : Nat} (hz : z.length = sz) : ∀ n, (repC z n).length = n * sz
  | 0 => by simp [repC]
  | n + 1 => by simp [repC, repC_len hz n, hz, Nat.add_mul]; omega
theorem repC_get {z : List CV} {sz : Nat} (hz : z.length = sz) (hs : 0 < sz) : ∀ n i, i < n * sz → (repC z n)[i]? = z[i % sz]?
  | 0, i, h => by simp at h
  | n + 1, i, h => by
    simp only [repC]
    by_cases hi : i < sz
    · rw [List.getElem?_append_left (by omega), Nat.mod_eq_of_lt hi]
    · rw [List.getElem?_append_right (by omega), hz, repC_get hz hs n (i - sz) (by rw [Nat.add_mul] at h; omega)]
      congr 1
      exact (Nat.mod_eq_sub_mod (by omega)).symm
theorem repC_ok {z : List CV} {zc : Array Value} {sz n : Nat} (hz : z.length = sz) (hs : 0 < sz) (h : All2 (RC w own nm) z zc.toList) : All2 (RC w own nm) (repC z n) ((Array.range (n * sz)).map (zc[· % zc.size]!)).toList := by
  have hzs : zc.size = sz := by have := h.1; rw [hz] at this; simpa using this
  refine ⟨by simp [repC_len hz], fun i x v hx hv => ?_⟩
  have hi : i < n * sz := by have := (List.getElem?_eq_some_iff.1 hx).1; rw [repC_len hz] at this; exact this
  rw [repC_get hz hs n i hi] at hx
  have hm : i % sz < sz := Nat.mod_lt _ hs
  have hv' : v = zc[i % sz]! := by
    simp [hi, hzs] at hv
    exact hv.symm
  subst hv'
  refine h.2 (i % sz) x _ hx ?_
  rw [Array.getElem?_toList]
  simp [hzs, hm]
theorem fr_cells {cs : Array Value} {T : TypeId} {g i : Nat} {u : Value} {fz : Nat × Nat} (hb : w.heap[g]? = some (.cells cs T fz)) (h : cs[i]? = some u) : w.cell? ⟨g, i, none⟩ = some u := by
  simp [World.cell?, hb, h]
theorem buildSl_goes (I : Inv M w0 own0 w own nm st a.tmps.toList) {t e : TypeId} {len sz : Nat} {parts : Array (Nat × Operand)} {Ps : List (Nat × Nat × XArg)} {z : List CV} (ho : o.op = .buildSlice t len parts) (hu : P.underlying t = some (.slice e)) (hs : sizeT P e = some sz) (hz : zeroT P e = some z)
    (hsz : 0 < sz) (hzl : z.length = sz) (hlen : len * sz ≤ 16777216) (hps : partsA sz parts.toList = some Ps) {v : AV} {call : Oracle} (hv : evP call (.buildSl z len sz Ps) st.tm = some v) : Goes P o a w (Left M w0 own0 st a.tmps.toList v) := by
  haveI := I.good.toGOk
  simp only [evP] at hv
  split at hv
  · rename_i cs hcs
    obtain ⟨es, hes, rfl⟩ := Option.map_eq_some_iff.1 hv
    obtain ⟨zv, b, hz1, hz2, hz3, _, hz5⟩ := run_zero (P := P) (w := w) (own := own) (nm := nm) hz
    have hzc : All2 (RC w own nm) z zv.cells.toList := by subst hz2; exact hz3.cellsF hz5
    have hzs : zv.cells.size = sz := by have := hzc.1; rw [hzl] at this; simpa using this
    obtain ⟨g1, g2⟩ := partsA_ok I.rt hps
    obtain ⟨cv, h1, h2⟩ := fill_ok (place := fun i => some (i * sz, sz)) (repC_ok (n := len) hzl hsz hzc) ⟨g1, fun i p q hp hq => g2 i p q hp hq⟩ hcs
    obtain ⟨h3, h4⟩ := elemsB_ok h2 len 0 es hes
    have hg := grow_push w (.cells cv.toArray e (0, 0))
    obtain ⟨I', hle⟩ := I.plain hg
    refine Goes.value (v := .slice (some ⟨w.heap.size, 0, none⟩) len len) (w' := { w with heap := w.heap.push (.cells cv.toArray e (0, 0)) }) ?_ ⟨_, _, I', ?_⟩
    · have hl : ¬ (len * sz > 2 ^ 24) := by omega
      rw [Array.toArray_toList] at h1
      rw [← Array.toList_map] at h1
      by_cases h0 : len * sz = 0
      · have e1 : ((Array.range (len * sz)).map fun x => (#[] : Array Value)[x % (#[] : Array Value).size]!) = (Array.range (len * sz)).map (zv.cells[· % zv.cells.size]!) := by
          rw [h0]
          exact Array.ext (by simp) (fun i hi _ => by simp at hi)
        rw [← e1] at h1
        simp only [execOp, ho, Instr.buildSlice, Sem.run_bind, run_und hu, Result.andThen_ok, run_size hs, if_neg hl, Sem.run_pure, if_pos h0]
        rw [h1]
        simp only [Sem.run_bind, run_newRow', Result.andThen_ok, Sem.run_pure]
      · simp only [execOp, ho, Instr.buildSlice, Sem.run_bind, run_und hu, Result.andThen_ok, run_size hs, if_neg hl, Sem.run_pure, if_neg h0, hz1]
        rw [h1]
        simp only [Sem.run_bind, run_newRow', Result.andThen_ok, Sem.run_pure]
    · rw [show (len : Nat) = es.length from h3.symm]
      refine .ofP (slAt_mem (n := es.length) rfl (Nat.le_refl _) ?_ (.inr ⟨rfl, rfl⟩) (fun i el he => ?_)).rp
      · rw [h3]; unfold maxLen
        have : len ≤ len * sz := Nat.le_mul_of_pos_right _ hsz
        omega
      · obtain ⟨h5, h6⟩ := h4 i el he
        refine ⟨h5, fun j c hc => ?_⟩
        obtain ⟨u, hu', hr⟩ := h6 j c hc
        refine ⟨u, fr_cells (T := e) (cs := cv.toArray) hg.new (by simpa using hu'), fun L hL => by simp [setOwn] at hL, hr.keeps hle.keeps⟩
  · cases hv
theorem mkmap_goes (I : Inv M w0 own0 w own nm st a.tmps.toList) {t : TypeId} (ho : o.op = .makeMap t none) {v : AV} {st' : St} {call : Oracle} (hv : evW call o.dst .mkmap st = some (v, st')) : Goes P o a w (Left M w0 own0 st' a.tmps.toList v) := by
  haveI := I.good.toGOk
  simp only [evW, Option.some.injEq, Prod.mk.injEq] at hv
  obtain ⟨rfl, rfl⟩ := hv
  have hg := grow_push w (.map #[] 0)
  obtain ⟨I', hle, hlast⟩ := I.box hg (b := .map []) (fun nm' hle => .map [] _ #[] 0 hg.new (by simp [setOwn]) .nil ⟨rfl, fun i e h => by simp at h⟩)
  refine Goes.value (v := .map (some w.heap.size)) (w' := { w with heap := w.heap.push (.map #[] 0) }) ?_ ⟨_, _, I', .ofC (.mp _ _ hlast)⟩
  simp only [execOp, ho, Instr.makeMap, Option.map_none, Sem.run_bind, run_newObj, Result.andThen_ok, Sem.run_pure]
theorem flatR_rep {sz : Nat} {ps : List PV} (h : rowE sz (rowOf sz ps) = true) (hl : ps.length = sz) : ∀ n, flatR (List.replicate n (rowOf sz ps)) = repC (ps.map .pv) n
  | 0 => rfl
  | n + 1 => by
    rw [List.replicate_succ, flatR, List.flatMap_cons, (rowOf_cells h hl).1, repC]
    congr 1
    exact flatR_rep h hl n
theorem mkBox_ok {w : World} {own : Own} {nm : Nm} {r : Bool} {z : List CV} {sz n g : Nat} {b : Box} (h : mkBox r z sz n = some b) (hs : 0 < sz) (hz : z.length = sz) (hc : RBx w own nm (.cells (repC z n)) g) : RBx w own nm b g := by
  cases r with
  | false => simp only [mkBox, Bool.false_eq_true, if_false, Option.some.injEq] at h; subst h; exact hc
  | true =>
    simp only [mkBox, if_true] at h
    split at h
    · rename_i ps hps
      split at h
      · rename_i hr
        cases h
        have hzp : z = ps.map .pv ∧ ps.length = sz := by
          have hlen : ∀ {l : List CV} {ps : List PV}, toPVs l = some ps → ps.length = l.length := by
            intro l
            induction l with
            | nil => intro ps h; simp only [toPVs, Option.some.injEq] at h; subst h; rfl
            | cons x l ih =>
              intro ps h
              simp only [toPVs] at h
              split at h
              · rename_i p qs _ h2; cases h; simp [ih h2]
              · cases h
          have hl : ps.length = sz := by rw [hlen hps, hz]
          exact ⟨toPVs_plain hps (rowOf_cells hr hl).2, hl⟩
        refine .row sz _ g ?_ (by rw [List.all_eq_true]; intro e he; rw [(List.mem_replicate.1 he).2]; exact hr) hs
        rw [flatR_rep hr hzp.2, ← hzp.1]
        exact hc.raw
      · cases h
    · cases h
theorem mkslice_goes (I : Inv M w0 own0 w own nm st a.tmps.toList) {t e : TypeId} {x y : Operand} {X Y : XArg} {z : List CV} {i : TypeInfo} {rw' : Bool} (ho : o.op = .makeSlice t x y) (hu : P.underlying t = some (.slice e)) (hi : P.info? e = some i) (hz : zeroT P e = some z) (_hs0 : i.size ≠ 0) (hzl : z.length = i.size)
    (hx : cArg x = some X) (hy : cArg y = some Y) {v : AV} {st' : St} {call : Oracle} (hv : evW call o.dst (.mkslice rw' z i.size i.bytes X Y) st = some (v, st')) : Goes P o a w (Left M w0 own0 st' a.tmps.toList v) := by
  haveI := I.good.toGOk
  have h1 := arg_ok I.rt hx
  have h2 := arg_ok I.rt hy
  simp only [evW] at hv
  split at hv
  · rename_i n c hn hc
    split at hv
    · rename_i hk
      obtain ⟨hk0, rfl, hk2, hk3, _, hsz⟩ := hk
      split at hv
      rotate_left
      · cases hv
      rename_i bx hbx
      simp only [Option.some.injEq, Prod.mk.injEq] at hv
      obtain ⟨rfl, rfl⟩ := hv
      obtain ⟨k1, e1⟩ := asI_ok h1 hn
      obtain ⟨k2, e2⟩ := asI_ok h2 hc
      obtain ⟨zv, b, hz1, hz2, hz3, hz4, hz5⟩ := run_zero (P := P) (w := w) (own := own) (nm := nm) hz
      have hzc : All2 (RC w own nm) z zv.cells.toList := by subst hz2; exact hz3.cellsF hz5
      have hzi : i.zero = some zv := by rw [hi] at hz4; exact hz4
      have hrun := run_make (P := P) w t e i zv hu hi hzi k1 k2 n n hk0 (Int.le_refl _) hk2 hk3
      have hg := grow_push w (.cells (madeCells zv.cells (n.toNat * i.size)) e (0, 0))
      have hall := repC_ok (n := n.toNat) hzl hsz hzc
      obtain ⟨I', hle, hlast⟩ := I.box hg (b := bx) (fun nm' hle => mkBox_ok hbx hsz hzl (cells_new (us := (madeCells zv.cells (n.toNat * i.size)).toList) (T := e) (by simp) (by simp [setOwn]) (hall.imp fun _ _ => RC.le hle)))
      refine Goes.value (v := .slice (some ⟨w.heap.size, 0, none⟩) n.toNat n.toNat) (w' := w.alloc (.cells (madeCells zv.cells (n.toNat * i.size)) e)) ?_ ⟨_, _, I', .ofC (.ms _ 0 _ _ w.heap.size n.toNat hlast (Nat.le_refl _) (by unfold maxLen; omega) hsz ⟨_, e, _, hg.new, by simp [madeCells]⟩)⟩
      simp only [execOp, ho, e1, e2, Sem.run_bind, hrun, Result.andThen_ok, Sem.run_pure]
    · cases hv
  · cases hv
theorem bytesM_ok [GOk w own] {tm : List AV} {bx : List Box} (hb : RB w own nm bx) {s d e : TypeId} {x : Operand} {X : XArg} (ho : o.op = .convert s d x) (hs : P.underlying s = some (.slice e)) (he : P.underlying e = some (.int .u8)) (hd : P.underlying d = some .string) (hx : cArg x = some X) {v : AV}
    (hv : evR (.bytesM X) tm bx = some v) (ht : All2 (RA w own nm) tm a.tmps.toList) : Stays P w own nm a.eval o v := by
  have h1 := arg_ok ht hx
  simp only [evR] at hv
  split at hv
  · rename_i k off sz n e0
    rw [e0] at h1
    obtain ⟨g, cap, e1, hk, hc1, hc2, hsz, cs, T, fz, hbk, hfit⟩ := h1.cv.msv
    split at hv
    · rename_i b hbx
      split at hv
      · rename_i es hes
        split at hv
        · rename_i hs1
          subst hs1
          obtain ⟨l, hl, rfl⟩ := Option.map_eq_some_iff.1 hv
          obtain ⟨us, ex, T', fz', hh, e2, e3⟩ := elems_ok (hb.box k g _ hbx hk) hes
          have := bytes_row (P := P) hl (w := w) (g := g) (off := off) (cap := cap) (fun j m hj => by
            obtain ⟨u, hu, hr⟩ := (e3 j _ hj).2 0 (.int .u8 m) rfl
            have hr' : u = .int .u8 m := by cases hr; rfl
            rw [hr', Nat.mul_one, Nat.add_zero] at hu
            exact fr_cells hh (by simp only [List.getElem?_toArray]; rw [List.getElem?_append_left (List.getElem?_eq_some_iff.1 hu).1]; exact hu)) hs he hd
          rw [e2] at this
          exact ⟨_, by simp [execOp, ho, e1, this], .ofS _⟩
        · cases hv
      · cases hv
    · cases hv
  · cases hv
theorem rowE_pvBytes (l : List UInt8) : ∀ e ∈ pvBytes l, rowE 1 e = true := by
  intro e he
  simp only [pvBytes, List.mem_map] at he
  obtain ⟨b, _, rfl⟩ := he
  rfl
theorem flatR_pvBytes (l : List UInt8) : flatR (pvBytes l) = l.map fun b => .pv (.int .u8 (b.toNat : Int)) := by
  simp only [flatR, pvBytes, List.flatMap_map]
  induction l with
  | nil => rfl
  | cons b l ih => rw [List.flatMap_cons, ih]; rfl
theorem sbytes_goes (I : Inv M w0 own0 w own nm st a.tmps.toList) {s d e : TypeId} {x : Operand} {X : XArg} (ho : o.op = .convert s d x) (hs : P.underlying s = some .string) (hd : P.underlying d = some (.slice e)) (he : P.underlying e = some (.int .u8)) (hx : cArg x = some X) {v : AV} {st' : St} {call : Oracle}
    (hv : evW call o.dst (.sbytes X) st = some (v, st')) : Goes P o a w (Left M w0 own0 st' a.tmps.toList v) := by
  haveI := I.good.toGOk
  have h1 := arg_ok I.rt hx
  simp only [evW] at hv
  split at hv
  · rename_i l e1
    split at hv
    · rename_i hle
      cases hv
      rw [e1] at h1
      have hval : a.eval x = .string ⟨l.toArray⟩ := by
        have h2 := h1.cv.pvv
        generalize a.eval x = u at h2
        cases h2; rfl
      have hsz : (⟨l.toArray⟩ : ByteArray).size = l.length := rfl
      have hrun := run_bytes_of_string (P := P) w s d e ⟨l.toArray⟩ hs hd he
      rw [hsz] at hrun
      have hge := grownCap_ge w l.length 0 e
      have hmx := grownCap_le_maxLen w l.length 0 e (by unfold maxLen; omega)
      have hg : Grow w (w.drew.alloc (.cells (bytesRow ⟨l.toArray⟩ (grownCap w l.length 0 e)) e ((bytesRow ⟨l.toArray⟩ (grownCap w l.length 0 e)).size, (bytesRow ⟨l.toArray⟩ (grownCap w l.length 0 e)).size + 1))) (.cells (bytesRow ⟨l.toArray⟩ (grownCap w l.length 0 e)) e ((bytesRow ⟨l.toArray⟩ (grownCap w l.length 0 e)).size, (bytesRow ⟨l.toArray⟩ (grownCap w l.length 0 e)).size + 1)) := ⟨rfl, rfl, rfl, rfl⟩
      have hrow : bytesRow ⟨l.toArray⟩ (grownCap w l.length 0 e) = ((l.map fun b => Value.int .u8 (b.toNat : Int)) ++ List.replicate (grownCap w l.length 0 e - l.length) (Value.int .u8 0)).toArray := by
        simp [bytesRow, hsz]
      generalize bytesRow ⟨l.toArray⟩ (grownCap w l.length 0 e) = C at hrow hg hrun
      have hCs : C.size = grownCap w l.length 0 e := by rw [hrow]; simp; omega
      obtain ⟨I', hle', hlast⟩ := I.box hg (b := .row 1 (pvBytes l)) (fun nm' _ => .row 1 _ _ (.mk (l.map fun b => Value.int .u8 (b.toNat : Int)) (List.replicate (grownCap w l.length 0 e - l.length) (Value.int .u8 0)) e
        ⟨(C.size, C.size + 1), by rw [← hrow]; exact hg.new, .inr (by rw [hCs]; simp; omega)⟩ (by simp [setOwn])
        (by
          rw [flatR_pvBytes]
          refine ⟨by simp, fun i p q hp hq => ?_⟩
          rw [List.getElem?_map] at hp hq
          cases hb : l[i]? with
          | none => rw [hb] at hp; cases hp
          | some b => rw [hb] at hp hq; cases hp; cases hq; exact .pv (.int _ _))) (List.all_eq_true.2 (rowE_pvBytes l)) (by omega))
      refine Goes.value (v := .slice (some ⟨w.heap.size, 0, none⟩) l.length (grownCap w l.length 0 e)) ?_ ⟨_, _, I', .ofC (.ms _ 0 1 _ w.heap.size (grownCap w l.length 0 e) hlast hge hmx (by omega) ⟨_, e, _, hg.new, by rw [hCs]; omega⟩)⟩
      simp only [execOp, ho, hval, Sem.run_bind, hrun, Result.andThen_ok, Sem.run_pure]
    · cases hv
  · cases hv
theorem rng_goes (I : Inv M w0 own0 w own nm st a.tmps.toList) {t : TypeId} {x : Operand} {X : XArg} (ho : o.op = .range t x) (hu : P.underlying t = some .string) (hx : cArg x = some X) {v : AV} {st' : St} {call : Oracle} (hv : evW call o.dst (.rng X) st = some (v, st')) : Goes P o a w (Left M w0 own0 st' a.tmps.toList v) := by
  haveI := I.good.toGOk
  have h1 := arg_ok I.rt hx
  simp only [evW] at hv
  split at hv
  · rename_i l e1
    cases hv
    rw [e1] at h1
    have hval : a.eval x = .string ⟨l.toArray⟩ := by
      have h2 := h1.cv.pvv
      generalize a.eval x = u at h2
      cases h2; rfl
    have hg := grow_push w (.stringIter ⟨l.toArray⟩ 0)
    obtain ⟨I', hle, hlast⟩ := I.box hg (b := .iter l 0) (fun nm' hle => .iter l 0 _ hg.new (by simp [setOwn]))
    refine Goes.value (v := .pointer (some ⟨w.heap.size, 0, none⟩)) (w' := { w with heap := w.heap.push (.stringIter ⟨l.toArray⟩ 0) }) ?_ ⟨_, _, I', .ofC (.ptr _ 0 _ hlast)⟩
    simp only [execOp, ho, Instr.range, Sem.run_bind, run_und hu, Result.andThen_ok, hval, run_newObj, Sem.run_pure]
  · cases hv
theorem nxt_goes (I : Inv M w0 own0 w own nm st a.tmps.toList) {x : Operand} {X : XArg} (ho : o.op = .next x true) (hx : cArg x = some X) {v : AV} {st' : St} {call : Oracle} (hv : evW call o.dst (.nxt X) st = some (v, st')) : Goes P o a w (Left M w0 own0 st' a.tmps.toList v) := by
  haveI := I.good.toGOk
  have h1 := arg_ok I.rt hx
  simp only [evW] at hv
  split at hv
  · rename_i k e1
    rw [e1] at h1
    obtain ⟨g, f1, hg⟩ := h1.cv.ptrv
    split at hv
    · rename_i l pos hkv
      have hbox := I.rb.box k g _ hkv hg
      have hbl : k < st.bx.length := (List.getElem?_eq_some_iff.1 hkv).1
      have hglt : g < w.heap.size := I.rb.lt g (List.mem_of_getElem? hg)
      cases hbox with
      | iter _ _ _ hb1 hb2 =>
        have hobj : (getObj g).run P w = .ok (.stringIter ⟨l.toArray⟩ pos) w := by simp [getObj, Sem.run, hb1]
        have hset : ∀ x, (setObj g x).run P w = .ok () { w with heap := w.heap.setIfInBounds g x } := fun x => by simp [setObj, Sem.run, hb1]
        have hsz : (⟨l.toArray⟩ : ByteArray).size = l.length := rfl
        rcases hd : Utf8.decode ⟨l.toArray⟩ pos with ⟨c, wd⟩
        rw [hd] at hv
        split at hv
        · rename_i hlt
          cases hv
          obtain ⟨I', hle⟩ := I.upd (w' := { w with heap := w.heap.setIfInBounds g (.stringIter ⟨l.toArray⟩ (pos + wd)) }) (k := k) (g := g) (b := .iter l (pos + wd)) hg hbl hb2 rfl rfl rfl (by simp) (fun j hj => by simp [Ne.symm hj])
            (fun cs T fz hcs => by rw [hb1] at hcs; cases hcs) (fun _ => .iter l _ g (by simp [hglt]) hb2)
          refine Goes.value (v := .tuple #[.bool true, .int .i64 pos, .int .i32 c]) (w' := { w with heap := w.heap.setIfInBounds g (.stringIter ⟨l.toArray⟩ (pos + wd)) }) ?_ ⟨_, _, I', .tup _ [.bool true, .int .i64 pos, .int .i32 c] (All2.cons (.c (.pv (.bool true))) (All2.cons (.c (.pv (.int .i64 pos))) (All2.cons (.c (.pv (.int .i32 c))) All2.nil)))⟩
          simp only [execOp, ho, Instr.next, Sem.run_bind, f1, hobj, Result.andThen_ok, hsz, hlt, if_true, hd, hset, Sem.run_pure, goInt]
        · rename_i hlt
          cases hv
          refine Goes.value (v := .tuple #[.bool false]) (w' := w) ?_ ⟨_, _, I, .tup _ [.bool false] (All2.cons (.c (.pv (.bool false))) All2.nil)⟩
          simp only [execOp, ho, Instr.next, Sem.run_bind, f1, hobj, Result.andThen_ok, hsz, hlt, if_false, Sem.run_pure]
    · cases hv
  · cases hv
theorem mapPut_ok {kind : IntKind} {q : PV} {v : Value} (hq : RP w own q v) : ∀ {kv kv' : List (PV × PV)} {l : List MapEntry} {k : IntKind} {n : Int} (i : Nat), RM w own kv l → mapPut kv (.int k n) q = some kv' →
    (∃ j u, Instr.findNow (.int kind) (.int k n) l i = some (some (i + j, u)) ∧ (l[j]?).map (·.key) = some (.int k n) ∧ RM w own kv' (l.modify j fun e => { e with key := .int k n, val := v })) ∨
    (Instr.findNow (.int kind) (.int k n) l i = some none ∧ ∀ b, RM w own kv' (l ++ [{ key := .int k n, val := v, born := b }]))
  | [], kv', l, k, n, i, h, hp => by
    cases h
    simp only [mapPut, Option.some.injEq] at hp
    subst hp
    exact .inr ⟨rfl, fun b => .cons (.int k n) hq .nil⟩
  | (key, u) :: kv, kv', l, k, n, i, h, hp => by
    cases h with
    | cons hk hv hrest =>
      rename_i e l
      cases key with
      | int k0 a0 =>
        have hk' := RP.intv hk
        simp only [mapPut] at hp
        split at hp
        · rename_i hkk
          subst hkk
          split at hp
          · rename_i hab
            subst hab
            cases hp
            exact .inl ⟨0, e.val, by simp [Instr.findNow, Instr.sameNow, hk'], by simp [hk'], by simpa using RM.cons (.int k0 a0) hq hrest⟩
          · rename_i hab
            obtain ⟨r, hr, rfl⟩ := Option.map_eq_some_iff.1 hp
            have hf : Instr.findNow (.int kind) (.int k0 n) (e :: l) i = Instr.findNow (.int kind) (.int k0 n) l (i + 1) := by
              have : (n == a0) = false := by simpa using fun h => hab h.symm
              simp [Instr.findNow, Instr.sameNow, hk', this]
            rcases mapPut_ok (kind := kind) hq (i + 1) hrest hr with ⟨j, u', g1, g2, g3⟩ | ⟨g1, g2⟩
            · exact .inl ⟨j + 1, u', by rw [hf, g1, show i + 1 + j = i + (j + 1) by omega], by simpa using g2, by simpa using RM.cons hk hv g3⟩
            · exact .inr ⟨by rw [hf, g1], fun b => by simpa using RM.cons hk hv (g2 b)⟩
        · cases hp
      | _ => simp [mapPut] at hp
theorem sameBits_ints : ∀ {l : List PV} {us vs : List Value} (d : Nat), All2 (RP w own) l us → All2 (RP w own) l vs → keyEq l l = some true → us = vs ∧ (us.zip vs).all (fun (x, y) => Instr.sameBits d x y) = true
  | [], us, vs, d, h1, h2, _ => by rw [All2.of_nil h1, All2.of_nil h2]; exact ⟨rfl, rfl⟩
  | p :: l, us, vs, d, h1, h2, h => by
    obtain ⟨u, us, rfl, a1, a2⟩ := All2.of_cons h1
    obtain ⟨v, vs, rfl, b1, b2⟩ := All2.of_cons h2
    cases p <;> simp only [keyEq, reduceCtorEq] at h
    rename_i k a
    simp only [if_true] at h
    obtain ⟨c, hc, h3⟩ := Option.map_eq_some_iff.1 h
    have hc' : c = true := by simpa using h3
    subst hc'
    obtain ⟨e, hz⟩ := sameBits_ints d a2 b2 hc
    have hu := RP.intv a1
    have hv := RP.intv b1
    subst hu hv e
    refine ⟨rfl, ?_⟩
    rw [List.zip_cons_cons, List.all_cons, hz, Bool.and_true]
    simp [Instr.sameBits]
theorem keyEq_refl : ∀ {l m : List PV} {b : Bool}, keyEq l m = some b → keyEq l l = some true
  | [], _, _, _ => rfl
  | x :: l, [], b, h => by cases x <;> simp [keyEq] at h
  | x :: l, y :: m, b, h => by
    cases x <;> cases y <;> simp only [keyEq, reduceCtorEq] at h
    split at h
    · obtain ⟨c, hc, _⟩ := Option.map_eq_some_iff.1 h
      simp only [keyEq, keyEq_refl hc, if_true, Option.map_some, beq_self_eq_true, Bool.true_and]
    · cases h
theorem mapPutK_ok {kt : TypeId} {fs : Array Field} {n : Nat} (hu : P.underlying kt = some (.struct fs)) (hk : flatK P 20 kt = some (List.replicate n 0)) {m : List PV} {x : Value} (hn : m.length = n) (hx : RP w own (.agg m) x) {q : PV} {v : Value} (hq : RP w own q v) :
    ∀ {kv kv' : List (PV × PV)} {l : List MapEntry} (i : Nat), RM w own kv l → mapPut kv (.agg m) q = some kv' →
    (∃ j u, (Instr.findAsking kt x l i).run P w = .ok (some (i + j, u)) w ∧ (l[j]?).map (·.key) = some x ∧ keyEq m m = some true ∧ RM w own kv' (l.modify j fun e => { e with key := x, val := v })) ∨
    ((Instr.findAsking kt x l i).run P w = .ok none w ∧ ∀ b, RM w own kv' (l ++ [{ key := x, val := v, born := b }]))
  | [], kv', l, i, h, hp => by
    cases h
    simp only [mapPut, Option.some.injEq] at hp
    subst hp
    exact .inr ⟨by simp [Instr.findAsking], fun b => .cons hx hq .nil⟩
  | (key, u) :: kv, kv', l, i, h, hp => by
    cases h with
    | cons hkey hv hrest =>
      rename_i e l
      cases key with
      | agg r =>
        simp only [mapPut] at hp
        split at hp
        · rename_i he
          cases hp
          have heq := equal_ints hu hk hn hx hkey he
          have hrefl := keyEq_refl he
          have hmr := (keyEq_len he).2 rfl
          subst hmr
          obtain ⟨us, hus, h1⟩ := hx.aggv
          obtain ⟨vs, hvs, h2⟩ := hkey.aggv
          have hsame := (sameBits_ints 0 h1 h2 hrefl).1
          have hex : e.key = x := by rw [hvs, hus, hsame]
          exact .inl ⟨0, e.val, by simp [Instr.findAsking, heq], by simp [hex], hrefl, by simpa using RM.cons hx hq hrest⟩
        · rename_i he
          have heq := equal_ints hu hk hn hx hkey he
          obtain ⟨r', hr, rfl⟩ := Option.map_eq_some_iff.1 hp
          have hf : (Instr.findAsking kt x (e :: l) i).run P w = (Instr.findAsking kt x l (i + 1)).run P w := by simp [Instr.findAsking, heq]
          rcases mapPutK_ok hu hk hn hx hq (i + 1) hrest hr with ⟨j, u', g1, g2, g3, g4⟩ | ⟨g1, g2⟩
          · exact .inl ⟨j + 1, u', by rw [hf, g1, show i + 1 + j = i + (j + 1) by omega], by simpa using g2, g3, by simpa using RM.cons hkey hv g4⟩
          · exact .inr ⟨by rw [hf, g1], fun b => by simpa using RM.cons hkey hv (g2 b)⟩
        · cases hp
      | _ => simp [mapPut] at hp
theorem born_mod {es : Array MapEntry} {clock : Nat} (h : Born es clock) (j : Nat) {f : MapEntry → MapEntry} (hf : ∀ e, (f e).born = e.born) : Born (es.modify j f) clock := by
  refine ⟨by rw [h.1]; simp, fun i e he => ?_⟩
  rw [Array.getElem?_modify] at he
  split at he
  · obtain ⟨e', h1, rfl⟩ := Option.map_eq_some_iff.1 he
    rw [hf]; exact h.2 i e' h1
  · exact h.2 i e he
theorem born_push {es : Array MapEntry} {clock : Nat} (h : Born es clock) {e : MapEntry} (he : e.born = clock) : Born (es.push e) (clock + 1) := by
  refine ⟨by rw [h.1]; simp, fun i x hx => ?_⟩
  rw [Array.getElem?_push] at hx
  split at hx
  · cases hx; rw [he, h.1]; omega
  · exact h.2 i x hx
theorem mupd_goes (I : Inv M w0 own0 w own nm st a.tmps.toList) {t kt et : TypeId} {m k x : Operand} {MM K X : XArg} {n : Nat} (ho : o.op = .mapUpdate t m k x) (hu : P.underlying t = some (.map kt et)) (hkt : keyT P kt = some n)
    (hm : cArg m = some MM) (hkk : cArg k = some K) (hx : cArg x = some X) {v : AV} {st' : St} {call : Oracle} (hv : evW call o.dst (.mupd MM K X n) st = some (v, st')) : Goes P o a w (Left M w0 own0 st' a.tmps.toList v) := by
  haveI := I.good.toGOk
  have h1 := arg_ok I.rt hm
  have h2 := arg_ok I.rt hkk
  have h3 := arg_ok I.rt hx
  simp only [evW] at hv
  split at hv
  · rename_i b p q e1 e2 e3
    rw [e1] at h1
    obtain ⟨g, f1, hg⟩ := h1.cv.mpv
    split at hv
    · rename_i kv hkv
      split at hv
      · rename_i hkn
        split at hv
        · rename_i kv' hput
          simp only [Option.some.injEq, Prod.mk.injEq] at hv
          obtain ⟨rfl, rfl⟩ := hv
          have hkey := pvOfAV e2 h2
          have hval := pvOfAV e3 h3
          have hbox := I.rb.box b g _ hkv hg
          have hbl : b < st.bx.length := (List.getElem?_eq_some_iff.1 hkv).1
          cases hbox with
          | map _ _ es clock hb1 hb2 hb3 hb4 =>
            have hobj : (getObj g).run P w = .ok (.map es clock) w := by simp [getObj, Sem.run, hb1]
            have hset : ∀ x, (setObj g x).run P w = .ok () { w with heap := w.heap.setIfInBounds g x } := fun x => by simp [setObj, Sem.run, hb1]
            have hglt : g < w.heap.size := I.rb.lt g (List.mem_of_getElem? hg)
            have hck : ∀ emp, (Instr.checkKey emp 10000 kt (a.eval k)).run P w = .ok () w := by
              intro emp
              rcases keyT_ok hkt with ⟨rfl, kind, hk⟩ | ⟨hn0, fs, hk, hsz, hfl, hf⟩
              · rcases keyN_inv hkn with ⟨_, k0, a0, rfl⟩ | ⟨h0, _⟩
                · have hck0 : ∀ d emp, (Instr.checkKey emp (d + 1) kt (a.eval k)).run P w = .ok () w := fun d emp => by rw [RP.intv hkey]; simp [Instr.checkKey, run_und hk]
                  exact hck0 9999 emp
                · omega
              · rcases keyN_inv hkn with ⟨h0, _⟩ | ⟨_, l, rfl, hl⟩
                · omega
                · obtain ⟨us, hus, h1⟩ := hkey.aggv
                  rw [hus]
                  exact checkKey_ints hk hsz hfl hf (h1.1.trans hl) emp
            have fin : ∀ (es' : Array MapEntry) (clock' : Nat), RM w own kv' es'.toList → Born es' clock' → (execOp a.eval o).run P w = .ok .skip { w with heap := w.heap.setIfInBounds g (.map es' clock') } → Goes P o a w (Left M w0 own0 ⟨st.tm, st.bx.set b (.map kv')⟩ a.tmps.toList .undef) := by
              intro es' clock' hrm hbn hrun
              refine Goes.skip hrun ?_
              obtain ⟨I', hle⟩ := I.upd (w' := { w with heap := w.heap.setIfInBounds g (.map es' clock') }) (k := b) (g := g) (b := .map kv') hg hbl hb2 rfl rfl rfl (by simp) (fun j hj => by simp [Ne.symm hj])
                (fun cs T fz hcs => by rw [hb1] at hcs; cases hcs) (fun hle => .map kv' g es' clock' (by simp [hglt]) hb2 (hrm.keeps hle.keeps) hbn)
              exact ⟨own, nm, I', .ofU _⟩
            have hkeep : ∀ x : Value, Instr.sameBits 10000 x x = true → (Instr.keyThatStays x x).run P w = .ok x w := by
              intro x hs
              unfold Instr.keyThatStays
              rw [if_pos hs]
              rfl
            have put : (∃ j u, (Instr.findKey kt (a.eval k) es.toList).run P w = .ok (some (j, u)) w ∧ (es.toList[j]?).map (·.key) = some (a.eval k) ∧ Instr.sameBits 10000 (a.eval k) (a.eval k) = true ∧ RM w own kv' (es.toList.modify j fun e => { e with key := a.eval k, val := a.eval x })) ∨
                ((Instr.findKey kt (a.eval k) es.toList).run P w = .ok none w ∧ ∀ b, RM w own kv' (es.toList ++ [{ key := a.eval k, val := a.eval x, born := b }])) := by
              rcases keyT_ok hkt with ⟨rfl, kind, hk⟩ | ⟨hn0, fs, hk, hsz, hfl, hf⟩
              · rcases keyN_inv hkn with ⟨_, k0, n, rfl⟩ | ⟨h0, _⟩
                · rw [RP.intv hkey]
                  rcases mapPut_ok (kind := kind) hval 0 hb3 hput with ⟨j, u, g1, g2, g3⟩ | ⟨g1, g2⟩
                  · have hsb : ∀ d, Instr.sameBits (d + 1) (.int k0 n) (.int k0 n) = true := fun d => by simp [Instr.sameBits]
                    rw [Nat.zero_add] at g1
                    exact .inl ⟨j, u, by simp [Instr.findKey, run_und hk, g1], g2, hsb 9999, g3⟩
                  · exact .inr ⟨by simp [Instr.findKey, run_und hk, g1], g2⟩
                · omega
              · rcases keyN_inv hkn with ⟨h0, _⟩ | ⟨_, l, rfl, hl⟩
                · omega
                · rw [findKey_struct hk]
                  rcases mapPutK_ok hk hfl hl hkey hval 0 hb3 hput with ⟨j, u, g1, g2, g3, g4⟩ | ⟨g1, g2⟩
                  · rw [Nat.zero_add] at g1
                    refine .inl ⟨j, u, g1, g2, ?_, g4⟩
                    obtain ⟨us, hus, h1⟩ := hkey.aggv
                    have hz : ∀ d, Instr.sameBits (d + 1) (.agg us.toArray) (.agg us.toArray) = true := fun d => by
                      have := (sameBits_ints d h1 h1 g3).2
                      simp only [Instr.sameBits, beq_self_eq_true, Bool.true_and]
                      exact this
                    rw [hus]
                    exact hz 9999
                  · exact .inr ⟨g1, g2⟩
            rcases put with ⟨j, u, g1, g2, g3, g4⟩ | ⟨g1, g2⟩
            · refine fin (es.modify j fun e => { e with key := a.eval k, val := a.eval x }) clock (by simpa [Array.toList_modify] using g4) (born_mod hb4 j fun e => rfl) ?_
              have hold : ((es[j]?).map (·.key)).getD (a.eval k) = a.eval k := by
                have : (es[j]?).map (·.key) = some (a.eval k) := by simpa using g2
                rw [this]; rfl
              simp only [execOp, ho, Instr.mapUpdate, Sem.run_bind, run_und hu, Result.andThen_ok, f1, hobj, hck, g1, hold, hkeep _ g3, hset, Sem.run_pure]
            · refine fin (es.push { key := a.eval k, val := a.eval x, born := clock }) (clock + 1) (by simpa using g2 clock) (born_push hb4 rfl) ?_
              simp only [execOp, ho, Instr.mapUpdate, Sem.run_bind, run_und hu, Result.andThen_ok, f1, hobj, hck, g1, hset, Sem.run_pure]
        · cases hv
      · cases hv
    · cases hv
  · cases hv
theorem mapPos_ok {kind : IntKind} {k : IntKind} {n : Int} : ∀ {kv : List (PV × PV)} {l : List MapEntry} {r : Option (Nat × PV)} (i j0 : Nat), RM w own kv l → mapPos kv (.int k n) j0 = some r →
    (r = none → Instr.findNow (.int kind) (.int k n) l i = some none) ∧ (∀ j v, r = some (j, v) → ∃ m e, j = j0 + m ∧ Instr.findNow (.int kind) (.int k n) l i = some (some (i + m, e.val)) ∧ l[m]? = some e ∧ e.key = .int k n ∧ RP w own v e.val)
  | [], l, r, i, j0, h, hp => by
    cases h
    simp only [mapPos, Option.some.injEq] at hp
    subst hp
    exact ⟨fun _ => rfl, fun j v h => by cases h⟩
  | (key, u) :: kv, l, r, i, j0, h, hp => by
    cases h with
    | cons hk hv hrest =>
      rename_i e l
      cases key with
      | int k0 a0 =>
        have hk' := RP.intv hk
        simp only [mapPos] at hp
        split at hp
        · rename_i hkk
          subst hkk
          split at hp
          · rename_i hab
            subst hab
            cases hp
            exact ⟨fun h => (by cases h), fun j v h => by cases h; exact ⟨0, e, rfl, by simp [Instr.findNow, Instr.sameNow, hk'], rfl, hk', hv⟩⟩
          · rename_i hab
            have hf : Instr.findNow (.int kind) (.int k0 n) (e :: l) i = Instr.findNow (.int kind) (.int k0 n) l (i + 1) := by
              have : (n == a0) = false := by simpa using fun h => hab h.symm
              simp [Instr.findNow, Instr.sameNow, hk', this]
            obtain ⟨g1, g2⟩ := mapPos_ok (kind := kind) (i + 1) (j0 + 1) hrest hp
            rw [hf]
            refine ⟨g1, fun j v h => ?_⟩
            obtain ⟨m, e', x1, x2, x3, x4⟩ := g2 j v h
            exact ⟨m + 1, e', by omega, by rw [x2, show i + 1 + m = i + (m + 1) by omega], by simpa using x3, x4⟩
        · cases hp
      | _ => simp [mapPos] at hp
theorem mapPosK_ok {kt : TypeId} {fs : Array Field} {n : Nat} (hu : P.underlying kt = some (.struct fs)) (hk : flatK P 20 kt = some (List.replicate n 0)) {m : List PV} {x : Value} (hn : m.length = n) (hx : RP w own (.agg m) x) :
    ∀ {kv : List (PV × PV)} {l : List MapEntry} {r : Option (Nat × PV)} (i j0 : Nat), RM w own kv l → mapPos kv (.agg m) j0 = some r →
    (r = none → (Instr.findAsking kt x l i).run P w = .ok none w) ∧ (∀ j v, r = some (j, v) → keyEq m m = some true ∧ ∃ q e, j = j0 + q ∧ (Instr.findAsking kt x l i).run P w = .ok (some (i + q, e.val)) w ∧ l[q]? = some e ∧ e.key = x ∧ RP w own v e.val)
  | [], l, r, i, j0, h, hp => by
    cases h
    simp only [mapPos, Option.some.injEq] at hp
    subst hp
    exact ⟨fun _ => by simp [Instr.findAsking], fun j v h => by cases h⟩
  | (key, u) :: kv, l, r, i, j0, h, hp => by
    cases h with
    | cons hkey hv hrest =>
      rename_i e l
      cases key with
      | agg q =>
        simp only [mapPos] at hp
        split at hp
        · rename_i he
          cases hp
          have heq := equal_ints hu hk hn hx hkey he
          have hrefl := keyEq_refl he
          have hmr := (keyEq_len he).2 rfl
          subst hmr
          obtain ⟨us, hus, h1⟩ := hx.aggv
          obtain ⟨vs, hvs, h2⟩ := hkey.aggv
          have hsame := (sameBits_ints 0 h1 h2 hrefl).1
          have hex : e.key = x := by rw [hvs, hus, hsame]
          exact ⟨fun h => (by cases h), fun j v h => by cases h; exact ⟨hrefl, 0, e, rfl, by simp [Instr.findAsking, heq], rfl, hex, hv⟩⟩
        · rename_i he
          have heq := equal_ints hu hk hn hx hkey he
          have hf : (Instr.findAsking kt x (e :: l) i).run P w = (Instr.findAsking kt x l (i + 1)).run P w := by simp [Instr.findAsking, heq]
          obtain ⟨g1, g2⟩ := mapPosK_ok hu hk hn hx (i + 1) (j0 + 1) hrest hp
          rw [hf]
          refine ⟨g1, fun j v h => ?_⟩
          obtain ⟨x0, q', e', x1, x2, x3, x4⟩ := g2 j v h
          exact ⟨x0, q' + 1, e', by omega, by rw [x2, show i + 1 + q' = i + (q' + 1) by omega], by simpa using x3, x4⟩
        · cases hp
      | _ => simp [mapPos] at hp
theorem modify_same {es : Array MapEntry} {j : Nat} {e : MapEntry} (h : es[j]? = some e) {x : Value} (hx : e.key = x) : (es.modify j fun e => { e with key := x }) = es := by
  apply Array.ext_getElem?
  intro i
  rw [Array.getElem?_modify]
  split
  · rename_i hij
    subst hij
    rw [h, ← hx]
    rfl
  · rfl
theorem ment_goes (I : Inv M w0 own0 w own nm st a.tmps.toList) {t kt et : TypeId} {m k : Operand} {MM K : XArg} {n : Nat} {z : PV} {zv : Value} {i : TypeInfo} (ho : o.op = .mapEntry t m k) (hu : P.underlying t = some (.map kt et)) (hkt : keyT P kt = some n)
    (hi : P.info? et = some i) (hz : i.zero = some zv) (hzp : cPVz zv = some z) (hm : cArg m = some MM) (hkk : cArg k = some K) {v : AV} {st' : St} {call : Oracle} (hv : evW call o.dst (.ment z MM K n) st = some (v, st')) : Goes P o a w (Left M w0 own0 st' a.tmps.toList v) := by
  haveI := I.good.toGOk
  have h1 := arg_ok I.rt hm
  have h2 := arg_ok I.rt hkk
  simp only [evW] at hv
  split at hv
  · rename_i b p e1 e2
    rw [e1] at h1
    obtain ⟨g, f1, hg⟩ := h1.cv.mpv
    split at hv
    · rename_i kv hkv
      split at hv
      · rename_i hkn
        have hkey := pvOfAV e2 h2
        have hbox := I.rb.box b g _ hkv hg
        have hbl : b < st.bx.length := (List.getElem?_eq_some_iff.1 hkv).1
        cases hbox with
        | map _ _ es clock hb1 hb2 hb3 hb4 =>
          have hobj : (getObj g).run P w = .ok (.map es clock) w := by simp [getObj, Sem.run, hb1]
          have hset : ∀ x, (setObj g x).run P w = .ok () { w with heap := w.heap.setIfInBounds g x } := fun x => by simp [setObj, Sem.run, hb1]
          have hglt : g < w.heap.size := I.rb.lt g (List.mem_of_getElem? hg)
          have hck : ∀ emp, (Instr.checkKey emp 10000 kt (a.eval k)).run P w = .ok () w := by
            intro emp
            rcases keyT_ok hkt with ⟨rfl, kind, hk⟩ | ⟨hn0, fs, hk, hsz, hfl, hf⟩
            · rcases keyN_inv hkn with ⟨_, k0, a0, rfl⟩ | ⟨h0, _⟩
              · have hck0 : ∀ d emp, (Instr.checkKey emp (d + 1) kt (a.eval k)).run P w = .ok () w := fun d emp => by rw [RP.intv hkey]; simp [Instr.checkKey, run_und hk]
                exact hck0 9999 emp
              · omega
            · rcases keyN_inv hkn with ⟨h0, _⟩ | ⟨_, l, rfl, hl⟩
              · omega
              · obtain ⟨us, hus, h1⟩ := hkey.aggv
                rw [hus]
                exact checkKey_ints hk hsz hfl hf (h1.1.trans hl) emp
          have fin : ∀ (kv' : List (PV × PV)) (es' : Array MapEntry) (clock' : Nat) (x : AV) (u : Value), RM w own kv' es'.toList → Born es' clock' → RA w own nm x u → (execOp a.eval o).run P w = .ok (.value u) { w with heap := w.heap.setIfInBounds g (.map es' clock') } → Goes P o a w (Left M w0 own0 ⟨st.tm, st.bx.set b (.map kv')⟩ a.tmps.toList x) := by
            intro kv' es' clock' x u hrm hbn hra hrun
            obtain ⟨I', hle⟩ := I.upd (w' := { w with heap := w.heap.setIfInBounds g (.map es' clock') }) (k := b) (g := g) (b := .map kv') hg hbl hb2 rfl rfl rfl (by simp) (fun j hj => by simp [Ne.symm hj])
              (fun cs T fz hcs => by rw [hb1] at hcs; cases hcs) (fun hle => .map kv' g es' clock' (by simp [hglt]) hb2 (hrm.keeps hle.keeps) hbn)
            exact Goes.value hrun ⟨own, nm, I', hra.le hle⟩
          have find : ∀ r, mapPos kv p 0 = some r → (r = none → (Instr.findKey kt (a.eval k) es.toList).run P w = .ok none w) ∧ (∀ j v, r = some (j, v) → ∃ e, (Instr.findKey kt (a.eval k) es.toList).run P w = .ok (some (j, e.val)) w ∧ es.toList[j]? = some e ∧ e.key = a.eval k ∧ Instr.sameBits 10000 (a.eval k) (a.eval k) = true ∧ RP w own v e.val) := by
            intro r hr
            rcases keyT_ok hkt with ⟨rfl, kind, hk⟩ | ⟨hn0, fs, hk, hsz, hfl, hf⟩
            · rcases keyN_inv hkn with ⟨_, k0, n, rfl⟩ | ⟨h0, _⟩
              · rw [RP.intv hkey]
                obtain ⟨g1, g2⟩ := mapPos_ok (kind := kind) 0 0 hb3 hr
                refine ⟨fun e => by simp [Instr.findKey, run_und hk, g1 e], fun j v e => ?_⟩
                obtain ⟨q, e', x1, x2, x3, x4, x5⟩ := g2 j v e
                rw [Nat.zero_add] at x1 x2
                subst x1
                have hsb : ∀ d, Instr.sameBits (d + 1) (.int k0 n) (.int k0 n) = true := fun d => by simp [Instr.sameBits]
                exact ⟨e', by simp [Instr.findKey, run_und hk, x2], x3, x4, hsb 9999, x5⟩
              · omega
            · rcases keyN_inv hkn with ⟨h0, _⟩ | ⟨_, l, rfl, hl⟩
              · omega
              · rw [findKey_struct hk]
                obtain ⟨g1, g2⟩ := mapPosK_ok hk hfl hl hkey 0 0 hb3 hr
                refine ⟨g1, fun j v e => ?_⟩
                obtain ⟨x0, q, e', x1, x2, x3, x4, x5⟩ := g2 j v e
                rw [Nat.zero_add] at x1 x2
                subst x1
                refine ⟨e', x2, x3, x4, ?_, x5⟩
                obtain ⟨us, hus, h1⟩ := hkey.aggv
                have hz : ∀ d, Instr.sameBits (d + 1) (.agg us.toArray) (.agg us.toArray) = true := fun d => by
                  have := (sameBits_ints d h1 h1 x0).2
                  simp only [Instr.sameBits, beq_self_eq_true, Bool.true_and]
                  exact this
                rw [hus]
                exact hz 9999
          split at hv
          · rename_i j u hpos
            simp only [Option.some.injEq, Prod.mk.injEq] at hv
            obtain ⟨rfl, rfl⟩ := hv
            obtain ⟨e, g1, g2, g3, g4, g5⟩ := (find _ hpos).2 j u rfl
            have g2' : es[j]? = some e := by simpa using g2
            have hkeep : (Instr.keyThatStays (a.eval k) (a.eval k)).run P w = .ok (a.eval k) w := by
              unfold Instr.keyThatStays
              rw [if_pos g4]
              rfl
            have hold : ((es[j]?).map (·.key)).getD (a.eval k) = a.eval k := by rw [g2']; simp [g3]
            refine fin kv es clock _ (.tuple #[e.val, .int .i64 (j : Nat)]) hb3 hb4 (.tup _ [e.val, .int .i64 (j : Nat)] (All2.cons (mval_ok g5) (All2.cons (.c (.pv (.int .i64 (j : Nat)))) All2.nil))) ?_
            simp only [execOp, ho, Instr.mapEntry, Sem.run_bind, run_und hu, Result.andThen_ok, f1, hobj, hck, g1, hold, hkeep, hset, modify_same g2' g3, Sem.run_pure, goInt]
            rw [g2']
            simp only [Option.map_some, Option.getD_some, hb4.2 j e g2']
          · rename_i hpos
            simp only [Option.some.injEq, Prod.mk.injEq] at hv
            obtain ⟨rfl, rfl⟩ := hv
            have g1 := (find _ hpos).1 rfl
            have hzr : (zeroValue et).run P w = .ok zv w := by simp [zeroValue, typeInfo, program, Sem.run, hi, hz]
            have hlen : kv.length = clock := by rw [hb4.1, ← hb3.len]; simp
            refine fin (kv ++ [(p, z)]) (es.push { key := a.eval k, val := zv, born := clock }) (clock + 1) _ (.tuple #[zv, .int .i64 (clock : Nat)]) ?_ (born_push hb4 rfl) ?_ ?_
            · have app : ∀ {kv : List (PV × PV)} {l : List MapEntry}, RM w own kv l → RM w own (kv ++ [(p, z)]) (l ++ [{ key := a.eval k, val := zv, born := clock }]) := by
                intro kv l h
                induction h with
                | nil => exact .cons hkey (cPVz_ok hzp) .nil
                | cons a b _ ih => exact .cons a b ih
              simpa using app hb3
            · rw [hlen]
              exact .tup _ [zv, .int .i64 (clock : Nat)] (All2.cons (mval_ok (cPVz_ok hzp)) (All2.cons (.c (.pv (.int .i64 (clock : Nat)))) All2.nil))
            · simp only [execOp, ho, Instr.mapEntry, Sem.run_bind, run_und hu, Result.andThen_ok, f1, hobj, hck, g1, hzr, hset, Sem.run_pure, goInt]
          · cases hv
      · cases hv
    · cases hv
  · cases hv
theorem find_born : ∀ {l : List MapEntry} {off i : Nat}, (∀ (j : Nat) (e : MapEntry), l[j]? = some e → e.born = off + j) → i < l.length → l.findIdx? (fun e => ((e.born : Int) == ((off + i : Nat) : Int))) = some i
  | [], off, i, _, h => by simp at h
  | e :: l, off, i, hb, h => by
    have he := hb 0 e rfl
    rw [List.findIdx?_cons]
    cases i with
    | zero => rw [if_pos (by rw [he]; simp)]
    | succ i =>
      rw [if_neg (by rw [he]; simp only [beq_iff_eq]; omega)]
      have ih := find_born (l := l) (off := off + 1) (i := i) (fun j e h => by have := hb (j + 1) e (by simpa using h); omega) (by simpa using h)
      rw [show off + (i + 1) = off + 1 + i by omega, ih]
      rfl
theorem mest_goes (I : Inv M w0 own0 w own nm st a.tmps.toList) {t : TypeId} {m s x : Operand} {MM S X : XArg} (ho : o.op = .entryStore t m s x)
    (hm : cArg m = some MM) (hs : cArg s = some S) (hx : cArg x = some X) {v : AV} {st' : St} {call : Oracle} (hv : evW call o.dst (.mest MM S X) st = some (v, st')) : Goes P o a w (Left M w0 own0 st' a.tmps.toList v) := by
  haveI := I.good.toGOk
  have h1 := arg_ok I.rt hm
  have h2 := arg_ok I.rt hs
  have h3 := arg_ok I.rt hx
  simp only [evW] at hv
  split at hv
  · rename_i b i q e1 e2 e3
    rw [e1] at h1
    rw [e2] at h2
    obtain ⟨g, f1, hg⟩ := h1.cv.mpv
    have f2 := h2.int
    have hval := pvOfAV e3 h3
    split at hv
    · rename_i kv hkv
      split at hv
      · rename_i hc
        simp only [Option.some.injEq, Prod.mk.injEq] at hv
        obtain ⟨rfl, rfl⟩ := hv
        have hbox := I.rb.box b g _ hkv hg
        have hbl : b < st.bx.length := (List.getElem?_eq_some_iff.1 hkv).1
        cases hbox with
        | map _ _ es clock hb1 hb2 hb3 hb4 =>
          have hobj : (getObj g).run P w = .ok (.map es clock) w := by simp [getObj, Sem.run, hb1]
          have hset : ∀ x, (setObj g x).run P w = .ok () { w with heap := w.heap.setIfInBounds g x } := fun x => by simp [setObj, Sem.run, hb1]
          have hglt : g < w.heap.size := I.rb.lt g (List.mem_of_getElem? hg)
          have hlen : es.toList.length = kv.length := hb3.len
          have hfind : es.findIdx? (fun e => ((e.born : Int) == i)) = some i.toNat := by
            have := find_born (l := es.toList) (off := 0) (i := i.toNat) (fun j e h => by rw [Nat.zero_add]; exact hb4.2 j e (by simpa using h)) (by omega)
            rw [Nat.zero_add, show ((i.toNat : Nat) : Int) = i by omega] at this
            have e0 : es.findIdx? (fun e => ((e.born : Int) == i)) = es.toList.findIdx? (fun e => ((e.born : Int) == i)) := by
              cases es with | mk l => simp
            rw [e0]; exact this
          have hrm : ∀ {kv : List (PV × PV)} {l : List MapEntry} (j : Nat), RM w own kv l → RM w own (mapSet kv j q) (l.modify j fun e => { e with val := a.eval x }) := by
            intro kv l j h
            induction h generalizing j with
            | nil => cases j <;> simpa [mapSet] using RM.nil
            | cons c1 c2 c3 ih =>
              rename_i e0 l0
              cases j with
              | zero => simpa [mapSet] using RM.cons (e := { key := e0.key, val := a.eval x, born := e0.born }) c1 hval c3
              | succ j => simpa [mapSet] using RM.cons c1 c2 (ih j)
          obtain ⟨I', hle⟩ := I.upd (w' := { w with heap := w.heap.setIfInBounds g (.map (es.modify i.toNat fun e => { e with val := a.eval x }) clock) }) (k := b) (g := g) (b := .map (mapSet kv i.toNat q)) hg hbl hb2 rfl rfl rfl (by simp) (fun j hj => by simp [Ne.symm hj])
            (fun cs T fz hcs => by rw [hb1] at hcs; cases hcs) (fun hle => .map _ g _ clock (by simp [hglt]) hb2 ((show RM w own (mapSet kv i.toNat q) (es.modify i.toNat fun e => { e with val := a.eval x }).toList by simpa [Array.toList_modify] using hrm i.toNat hb3).keeps hle.keeps) (born_mod hb4 i.toNat fun e => rfl))
          have hint : (asInt (.int .i64 i)).run P w = .ok i w := rfl
          refine Goes.skip ?_ ⟨own, nm, I', .ofU _⟩
          simp only [execOp, ho, Instr.entryStore, Sem.run_bind, f1, f2, hobj, hint, Result.andThen_ok, hfind, hset, Sem.run_pure]
      · cases hv
    · cases hv
  · cases hv
end
end Go.Sx
