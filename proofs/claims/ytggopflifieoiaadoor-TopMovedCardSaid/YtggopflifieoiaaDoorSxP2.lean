/- Values that are built; memory that is read; maps that are asked. -/
import Derived.Test.YtggopflifieoiaaDoorSxP
namespace Go.Sx
open Go
section
variable {P : Program} {w : World} {own : Own} {nm : Nm} {tm : List AV} {a : Act}
variable [GOk w own]
omit [GOk w own] in
theorem putB_ok : ∀ {new : List CV} {l l' : List CV} {us nv : List Value} {off : Nat}, All2 (RC w own nm) l us → All2 (RC w own nm) new nv → putB l off new = some l' →
    off + new.length ≤ l.length + (if new = [] then off else 0) ∧ l'.length = l.length ∧ All2 (RC w own nm) l' (us.take off ++ nv ++ us.drop (off + nv.length))
  | [], l, l', us, nv, off, h, hn, hp => by
    simp only [putB, Option.some.injEq] at hp
    subst hp
    rw [All2.of_nil hn]
    exact ⟨by simp, rfl, by simpa using h⟩
  | x :: new, l, l', us, nv, off, h, hn, hp => by
    obtain ⟨u, nv', rfl, h1, h2⟩ := All2.of_cons hn
    simp only [putB] at hp
    split at hp
    · rename_i hlt
      obtain ⟨g1, g2, g3⟩ := putB_ok (All2.set h off h1) h2 hp
      simp only [List.length_set] at g1 g2
      have hul : off < us.length := by rw [h.1]; exact hlt
      refine ⟨?_, g2, ?_⟩
      · simp only [reduceCtorEq, if_false, List.length_cons]
        by_cases hnew : new = []
        · subst hnew; simp; omega
        · rw [if_neg hnew] at g1; omega
      · have e : (us.set off u).take (off + 1) ++ nv' ++ (us.set off u).drop (off + 1 + nv'.length) = us.take off ++ (u :: nv') ++ us.drop (off + (u :: nv').length) := by
          have e1 : (us.set off u).take (off + 1) = us.take off ++ [u] := by
            rw [List.take_set, List.take_succ_eq_append_getElem hul, List.set_append_right _ _ (by simp; omega)]
            simp [Nat.min_eq_left (Nat.le_of_lt hul)]
          have e2 : (us.set off u).drop (off + 1 + nv'.length) = us.drop (off + 1 + nv'.length) := by
            rw [List.drop_set]
            split
            · rfl
            · omega
          rw [e1, e2]
          simp [Nat.add_assoc, Nat.add_comm 1]
        rw [← e]
        exact g3
    · cases hp
theorem fold_put : ∀ (new : List Value) (off k : Nat) (cs : Array Value), off + k + new.length ≤ cs.size →
    ((new.toArray.zipIdx k).foldl (fun cs (p : Value × Nat) => cs.setIfInBounds (off + p.2) p.1) cs).toList = cs.toList.take (off + k) ++ new ++ cs.toList.drop (off + k + new.length)
  | [], off, k, cs, h => by rw [← Array.foldl_toList]; simp
  | x :: new, off, k, cs, h => by
    have h' : off + (k + 1) + new.length ≤ (cs.setIfInBounds (off + k) x).size := by simp at h ⊢; omega
    have ih := fold_put new off (k + 1) (cs.setIfInBounds (off + k) x) h'
    have e : ((x :: new).toArray.zipIdx k).foldl (fun cs (p : Value × Nat) => cs.setIfInBounds (off + p.2) p.1) cs = (new.toArray.zipIdx (k + 1)).foldl (fun cs (p : Value × Nat) => cs.setIfInBounds (off + p.2) p.1) (cs.setIfInBounds (off + k) x) := by
      rw [← Array.foldl_toList, ← Array.foldl_toList]
      simp
    rw [e, ih]
    have hlt : off + k < cs.toList.length := by simp at h ⊢; omega
    rw [Array.toList_setIfInBounds]
    have e1 : (cs.toList.set (off + k) x).take (off + (k + 1)) = cs.toList.take (off + k) ++ [x] := by
      rw [show off + (k + 1) = off + k + 1 by omega, List.take_set, List.take_succ_eq_append_getElem hlt, List.set_append_right _ _ (by simp; omega)]
      have h2 : off + k ≤ cs.size := by simpa using Nat.le_of_lt hlt
      simp [Nat.min_eq_left h2]
    have e2 : (cs.toList.set (off + k) x).drop (off + (k + 1) + new.length) = cs.toList.drop (off + k + (x :: new).length) := by
      rw [List.drop_set]
      split
      · congr 1; simp; omega
      · simp at *; omega
    rw [e1, e2]
    simp
omit [GOk w own] in
theorem fill_ok {place : Nat → Option (Nat × Nat)} : ∀ {parts : List (Nat × Nat × AV)} {idx : List (Nat × Value)} {z cs : List CV} {zc : List Value},
    All2 (RC w own nm) z zc → (idx.length = parts.length ∧ ∀ (i : Nat) (p : Nat × Nat × AV) (q : Nat × Value), parts[i]? = some p → idx[i]? = some q → place q.1 = some (p.1, p.2.1) ∧ RA w own nm p.2.2 q.2) →
    fillC z parts = some cs → ∃ cv : List Value, Instr.fill place zc.toArray idx = some cv.toArray ∧ All2 (RC w own nm) cs cv
  | [], idx, z, cs, zc, hz, hp, h => by
    simp only [fillC, Option.some.injEq] at h
    subst h
    have : idx = [] := List.eq_nil_of_length_eq_zero (by simpa using hp.1)
    subst this
    exact ⟨zc, rfl, hz⟩
  | (off, n, v) :: parts, idx, z, cs, zc, hz, hp, h => by
    cases idx with
    | nil => simp at hp
    | cons q idx =>
      obtain ⟨hq1, hq2⟩ := hp.2 0 _ q rfl rfl
      simp only [fillC] at h
      split at h
      · rename_i hv
        split at h
        · rename_i z' hz'
          have hfl := hv.1
          have hra : RA0 w own nm v q.2 := RA.noTup hq2 (by cases v <;> simp_all [AV.flat, noTup])
          have hcells := hra.cellsF hfl
          obtain ⟨g1, g2, g3⟩ := putB_ok hz hcells hz'
          have hsz : q.2.cells.size = n := by have := hcells.1; rw [hv.2.1] at this; simpa using this
          obtain ⟨cv, h1, h2⟩ := fill_ok g3 ⟨by have := hp.1; simpa using this, fun i p q hp' hq' => hp.2 (i + 1) p q (by simpa using hp') (by simpa using hq')⟩ h
          refine ⟨cv, ?_, h2⟩
          have hq0 : place q.1 = some (off, n) := hq1
          have hfit : off + n ≤ zc.length := by
            have hn : v.cells ≠ [] := fun hn => by rw [hn] at hv; have := hv.2; simp at this; omega
            rw [if_neg hn] at g1
            rw [hv.2.1] at g1; have := hz.1; omega
          have hfold := fold_put q.2.cells.toList off 0 zc.toArray (by simp; omega)
          simp only [Array.toArray_toList, Nat.add_zero] at hfold
          have hfold' : (q.2.cells.zipIdx.foldl (fun cs (p : Value × Nat) => cs.setIfInBounds (off + p.2) p.1) zc.toArray) = (zc.take off ++ q.2.cells.toList ++ zc.drop (off + q.2.cells.toList.length)).toArray := by
            apply Array.ext'
            rw [hfold]
          have hc1 : (q.2.cells.size ≠ n || off + q.2.cells.size > zc.toArray.size) = false := by simp; omega
          cases q with | mk qi qv =>
          simp only [Instr.fill, hq0]
          have hc2 : ¬ ((qv.cells.size ≠ n || off + qv.cells.size > zc.toArray.size) = true) := by rw [hc1]; simp
          rw [if_neg hc2]
          have := hfold'
          simp only at this
          rw [this]
          exact h1
        · cases h
      · cases h
theorem partsS_ok (ht : All2 (RA w own nm) tm a.tmps.toList) {fs : Array Field} : ∀ {parts : List (Nat × Operand)} {Ps : List (Nat × Nat × XArg)}, partsS P fs parts = some Ps →
    (parts.map fun p => (p.1, a.eval p.2)).length = (Ps.map fun p => (p.1, p.2.1, getA tm p.2.2)).length ∧
    ∀ (i : Nat) (p : Nat × Nat × AV) (q : Nat × Value), (Ps.map fun p => (p.1, p.2.1, getA tm p.2.2))[i]? = some p → (parts.map fun p => (p.1, a.eval p.2))[i]? = some q →
      ((fs[q.1]?).bind (fun f => (sizeT P f.type).map fun n => (f.offset, n)) = some (p.1, p.2.1)) ∧ RA w own nm p.2.2 q.2
  | [], Ps, h => by
    simp only [partsS, Option.some.injEq] at h; subst h
    exact ⟨rfl, fun i p q h => by simp at h⟩
  | (k, x) :: parts, Ps, h => by
    simp only [partsS] at h
    split at h
    · rename_i o n X l h1 h2 h3
      cases h
      obtain ⟨g1, g2⟩ := partsS_ok ht h3
      refine ⟨by simpa using g1, fun i p q hp hq => ?_⟩
      cases i with
      | zero => simp at hp hq; subst hp; subst hq; exact ⟨h1, arg_ok ht h2⟩
      | succ i => exact g2 i p q (by simpa using hp) (by simpa using hq)
    · cases h
theorem partsA_ok (ht : All2 (RA w own nm) tm a.tmps.toList) {sz : Nat} : ∀ {parts : List (Nat × Operand)} {Ps : List (Nat × Nat × XArg)}, partsA sz parts = some Ps →
    (parts.map fun p => (p.1, a.eval p.2)).length = (Ps.map fun p => (p.1, p.2.1, getA tm p.2.2)).length ∧
    ∀ (i : Nat) (p : Nat × Nat × AV) (q : Nat × Value), (Ps.map fun p => (p.1, p.2.1, getA tm p.2.2))[i]? = some p → (parts.map fun p => (p.1, a.eval p.2))[i]? = some q →
      (some (q.1 * sz, sz) = some (p.1, p.2.1)) ∧ RA w own nm p.2.2 q.2
  | [], Ps, h => by
    simp only [partsA, Option.some.injEq] at h; subst h
    exact ⟨rfl, fun i p q h => by simp at h⟩
  | (k, x) :: parts, Ps, h => by
    simp only [partsA] at h
    split at h
    · rename_i X l h2 h3
      cases h
      obtain ⟨g1, g2⟩ := partsA_ok ht h3
      refine ⟨by simpa using g1, fun i p q hp hq => ?_⟩
      cases i with
      | zero => simp at hp hq; subst hp; subst hq; exact ⟨rfl, arg_ok ht h2⟩
      | succ i => exact g2 i p q (by simpa using hp) (by simpa using hq)
    · cases h
theorem run_places (fs : List Field) (h : (fs.all fun f => (sizeT P f.type).isSome) = true) :
    ∃ ps : List (Nat × Nat), (fs.mapM fun f => do pure (f.offset, ← sizeOf f.type) : Sem (List (Nat × Nat))).run P w = .ok ps w ∧ ps.length = fs.length ∧
      ∀ (i : Nat) (f : Field), fs[i]? = some f → ps[i]? = (sizeT P f.type).map fun n => (f.offset, n) := by
  induction fs with
  | nil => exact ⟨[], rfl, rfl, fun i f h => by simp at h⟩
  | cons f fs ih =>
    simp only [List.all_cons, Bool.and_eq_true] at h
    obtain ⟨n, hn⟩ := Option.isSome_iff_exists.1 h.1
    obtain ⟨ps, h1, h2, h3⟩ := ih h.2
    refine ⟨(f.offset, n) :: ps, ?_, by simp [h2], fun i g hg => ?_⟩
    · rw [List.mapM_cons]
      simp only [Sem.run_bind, run_size hn, Result.andThen_ok, Sem.run_pure, h1]
    · cases i with
      | zero => simp at hg; subst hg; simp [hn]
      | succ i => simpa using h3 i g (by simpa using hg)
theorem build_ok (ht : All2 (RA w own nm) tm a.tmps.toList) {o : Oper} {t : TypeId} {parts : Array (Nat × Operand)} {Ps : List (Nat × Nat × XArg)} {z : List CV} (ho : o.op = .build t parts) (hz : zeroT P t = some z)
    (hk : (∃ fs, P.underlying t = some (.struct fs) ∧ (fs.toList.all fun f => (sizeT P f.type).isSome) = true ∧ partsS P fs parts.toList = some Ps) ∨ (∃ n e sz, P.underlying t = some (.array n e) ∧ sizeT P e = some sz ∧ partsA sz parts.toList = some Ps))
    {v : AV} {call : Oracle} (hv : evP call (.build z Ps) tm = some v) : Stays P w own nm a.eval o v := by
  simp only [evP] at hv
  obtain ⟨cs, hcs, rfl⟩ := Option.map_eq_some_iff.1 hv
  obtain ⟨zv, b, hz1, hz2, hz3, _, hz5⟩ := run_zero (P := P) (w := w) (own := own) (nm := nm) hz
  have hzc : All2 (RC w own nm) z zv.cells.toList := by
    subst hz2
    exact hz3.cellsF hz5
  have harr : ∀ {place : Nat → Option (Nat × Nat)} {cv : List Value}, Instr.fill place zv.cells.toList.toArray (parts.toList.map fun p => (p.1, a.eval p.2)) = some cv.toArray →
      Instr.fill place zv.cells (parts.map fun p => (p.1, a.eval p.2)).toList = some cv.toArray := by
    intro place cv h
    rw [Array.toList_map]
    simpa using h
  rcases hk with ⟨fs, hu, hall, hps⟩ | ⟨n, e, sz, hu, hs, hps⟩
  · obtain ⟨g1, g2⟩ := partsS_ok (P := P) ht hps
    obtain ⟨ps, p1, p2, p3⟩ := run_places (P := P) (w := w) fs.toList hall
    obtain ⟨cv, h1, h2⟩ := fill_ok (place := fun i => ps.toArray[i]?) hzc ⟨g1, fun i p q hp hq => by
      obtain ⟨e1, e2⟩ := g2 i p q hp hq
      refine ⟨?_, e2⟩
      obtain ⟨f, hf, hf2⟩ := Option.bind_eq_some_iff.1 e1
      have := p3 q.1 f (by simpa using hf)
      simp only [List.getElem?_toArray]
      rw [this]; exact hf2⟩ hcs
    have hmap : (fs.mapM fun f => do pure (f.offset, ← sizeOf f.type) : Sem (Array (Nat × Nat))).run P w = .ok ps.toArray w := by
      rw [Array.mapM_eq_mapM_toList]
      simp only [Sem.run_map, p1, Result.andThen_ok]
    refine ⟨.agg cv.toArray, ?_, .of (.agg cs cv h2)⟩
    have h1' := harr h1
    simp only [execOp, ho, Instr.build, Sem.run_bind, hz1, Result.andThen_ok, run_und hu, hmap, h1', Sem.run_pure]
  · obtain ⟨g1, g2⟩ := partsA_ok ht hps
    obtain ⟨cv, h1, h2⟩ := fill_ok (place := fun i => some (i * sz, sz)) hzc ⟨g1, fun i p q hp hq => g2 i p q hp hq⟩ hcs
    refine ⟨.agg cv.toArray, ?_, .of (.agg cs cv h2)⟩
    have h1' := harr h1
    simp only [execOp, ho, Instr.build, Sem.run_bind, hz1, Result.andThen_ok, run_und hu, run_size hs, h1', Sem.run_pure]
theorem loadC_ok (ht : All2 (RA w own nm) tm a.tmps.toList) {bx : List Box} (hb : RB w own nm bx) {o : Oper} {t : TypeId} {x : Operand} {X : XArg} {ag : Bool} {n m : Nat} (ho : o.op = .load t x) (hag : isAggD (P.underlying t) = some ag) (hn : sizeT P t = some n) (hx : cArg x = some X)
    (hm : m = if ag then n else 1) {v : AV} (hv : evR (.load ag m X) tm bx = some v) : Stays P w own nm a.eval o v := by
  have h1 := arg_ok ht hx
  have fin : ∀ g q l, a.eval x = .pointer (some ⟨g, q, none⟩) → LieAt w own nm g q l → l.length = m → (if ag then some (AV.agg l) else match l with | [x] => some (.c x) | _ => none) = some v → Stays P w own nm a.eval o v := by
    intro g q l e hl hlen hv
    obtain ⟨r, h2, h3, h4⟩ := load_ok (P := P) hag hn hl hm hlen
    refine ⟨r, by simp [execOp, ho, e, h2], ?_⟩
    cases ag with
    | true => simp only [if_true, Option.some.injEq] at hv; subst hv; exact h3 rfl
    | false =>
      simp only [if_false, Bool.false_eq_true] at hv
      split at hv
      · cases hv; exact h4 rfl _ rfl
      · cases hv
  simp only [evR] at hv
  split at hv
  · rename_i cells off e
    rw [e] at h1
    obtain ⟨g, q, us, e1, h2⟩ := h1.cv.cptrv
    split at hv
    · rename_i l hl
      obtain ⟨h3, h4⟩ := takeC_ok (nm := nm) h2 m off l hl
      exact fin _ _ l e1 h4 h3 hv
    · cases hv
  · rename_i k off e
    rw [e] at h1
    obtain ⟨g, e1, hk⟩ := h1.cv.ptrv
    unfold loadB at hv
    split at hv
    · rename_i l hl
      obtain ⟨b, hcs, hl⟩ := Option.bind_eq_some_iff.1 hl
      obtain ⟨h3, h4⟩ := look_ok (hb.box k g _ hcs hk) hl
      exact fin _ _ l e1 h4 h3 hv
    · cases hv
  · cases hv
theorem loadP_ok (ht : All2 (RA w own nm) tm a.tmps.toList) {o : Oper} {t : TypeId} {x : Operand} {X : XArg} {ag : Bool} {n m : Nat} (ho : o.op = .load t x) (hag : isAggD (P.underlying t) = some ag) (hn : sizeT P t = some n) (hx : cArg x = some X)
    (hm : m = if ag then n else 1) {v : AV} {call : Oracle} (hv : evP call (.load ag m X) tm = some v) : Stays P w own nm a.eval o v := by
  have h1 := arg_ok ht hx
  simp only [evP] at hv
  split at hv
  · rename_i cells off e
    rw [e] at h1
    obtain ⟨g, q, us, e1, h2⟩ := h1.cv.cptrv
    split at hv
    · rename_i l hl
      obtain ⟨h3, h4⟩ := takeC_ok (nm := nm) h2 m off l hl
      obtain ⟨r, h2, h5, h6⟩ := load_ok (P := P) hag hn h4 hm h3
      refine ⟨r, by simp [execOp, ho, e1, h2], ?_⟩
      cases ag with
      | true => simp only [if_true, Option.some.injEq] at hv; subst hv; exact h5 rfl
      | false =>
        simp only [if_false, Bool.false_eq_true] at hv
        split at hv
        · cases hv; exact h6 rfl _ rfl
        · cases hv
    · cases hv
  · cases hv
theorem RP.intv {w : World} {own : Own} {k : IntKind} {n : Int} {v : Value} (h : RP w own (.int k n) v) : v = .int k n := by cases h; rfl
omit [GOk w own] in
theorem mapGet_ok {kind : IntKind} : ∀ {kv : List (PV × PV)} {es : List MapEntry} {k : IntKind} {n : Int} {r : Option PV} (i : Nat), RM w own kv es → mapGet kv (.int k n) = some r →
    (r = none → Instr.findNow (.int kind) (.int k n) es i = some none) ∧ (∀ p, r = some p → ∃ j v, Instr.findNow (.int kind) (.int k n) es i = some (some (j, v)) ∧ RP w own p v)
  | [], es, k, n, r, i, h, hg => by
    cases h
    simp only [mapGet, Option.some.injEq] at hg
    subst hg
    exact ⟨fun _ => rfl, fun p h => by cases h⟩
  | (key, u) :: kv, es, k, n, r, i, h, hg => by
    cases h with
    | cons hk hv hrest =>
      rename_i e l
      cases key with
      | int k0 a0 =>
        have hk := RP.intv hk
        simp only [mapGet] at hg
        split at hg
        · rename_i hkk
          subst hkk
          split at hg
          · rename_i hab
            subst hab
            cases hg
            exact ⟨(fun h => by cases h), (fun p h => by cases h; exact ⟨i, e.val, by simp [Instr.findNow, Instr.sameNow, hk], hv⟩)⟩
          · rename_i hab
            obtain ⟨g1, g2⟩ := mapGet_ok (kind := kind) (i + 1) hrest hg
            have hf : Instr.findNow (.int kind) (.int k0 n) (e :: l) i = Instr.findNow (.int kind) (.int k0 n) l (i + 1) := by
              have : (n == a0) = false := by simpa using fun h => hab h.symm
              simp [Instr.findNow, Instr.sameNow, hk, this]
            rw [hf]
            exact ⟨g1, g2⟩
        · cases hg
      | _ => simp [mapGet] at hg
theorem keyEq_len : ∀ {l m : List PV} {b : Bool}, keyEq l m = some b → l.length = m.length ∧ (b = true → l = m)
  | [], [], b, _ => ⟨rfl, fun _ => rfl⟩
  | [], y :: m, b, h => by simp [keyEq] at h
  | x :: l, [], b, h => by cases x <;> simp [keyEq] at h
  | x :: l, y :: m, b, h => by
    cases x <;> cases y <;> simp only [keyEq, reduceCtorEq] at h
    rename_i k a k' c
    split at h
    · rename_i hk
      subst hk
      obtain ⟨d, hd, rfl⟩ := Option.map_eq_some_iff.1 h
      obtain ⟨h1, h2⟩ := keyEq_len hd
      refine ⟨by simp [h1], fun e => ?_⟩
      simp only [Bool.and_eq_true, beq_iff_eq] at e
      rw [e.1, h2 e.2]
    · cases h
theorem keyEq_cells : ∀ {l m : List PV} {b : Bool}, keyEq l m = some b → eqCells (List.replicate l.length 0) (l.map CV.pv) (m.map CV.pv) = some b
  | [], [], b, h => by simp only [keyEq, Option.some.injEq] at h; subst h; rfl
  | [], y :: m, b, h => by simp [keyEq] at h
  | x :: l, [], b, h => by cases x <;> simp [keyEq] at h
  | x :: l, y :: m, b, h => by
    cases x <;> cases y <;> simp only [keyEq, reduceCtorEq] at h
    rename_i k a k' c
    split at h
    · rename_i hk
      subst hk
      obtain ⟨d, hd, rfl⟩ := Option.map_eq_some_iff.1 h
      have ih := keyEq_cells hd
      simp only [List.length_cons, List.replicate_succ, List.map_cons, eqCells, PV.eqCell, ih, if_true]
    · cases h
theorem keyT_ok {P : Program} {kt : TypeId} {n : Nat} (h : keyT P kt = some n) : (n = 0 ∧ ∃ kind, P.underlying kt = some (.int kind)) ∨
    (0 < n ∧ ∃ fs, P.underlying kt = some (.struct fs) ∧ fs.size = n ∧ flatK P 20 kt = some (List.replicate n 0) ∧ ∀ f ∈ fs.toList, f.name ≠ "_" ∧ ∃ kind, P.underlying f.type = some (.int kind)) := by
  unfold keyT at h
  split at h
  · rename_i kind hu
    cases h
    exact .inl ⟨rfl, kind, hu⟩
  · rename_i fs hu
    split at h
    · rename_i ks hks
      split at h
      · rename_i hc
        cases h
        obtain ⟨rfl, h1, h2⟩ := hc
        refine .inr ⟨h1, fs, hu, rfl, hks, fun f hf => ?_⟩
        have := List.all_eq_true.1 h2 f hf
        simp only [Bool.and_eq_true, bne_iff_ne, ne_eq] at this
        refine ⟨this.1, ?_⟩
        have h3 := this.2
        split at h3
        · rename_i kind hk; exact ⟨kind, hk⟩
        · cases h3
      · cases h
    · cases h
  · cases h
theorem flatFs_zeros {P : Program} {d : Nat} : ∀ {fs : List Field} {off : Nat} {ks : List Nat}, flatFs P (flatK P d) off fs = some ks → (∀ f ∈ fs, ∃ kind, P.underlying f.type = some (.int kind)) → ks.length = fs.length ∧ ∀ f ∈ fs, f.offset < off + fs.length
  | [], off, ks, h, _ => by simp only [flatFs, Option.some.injEq] at h; subst h; exact ⟨rfl, by simp⟩
  | f :: fs, off, ks, h, hi => by
    simp only [flatFs] at h
    split at h
    · rename_i hn
      split at h
      · rename_i k1 hk1
        split at h
        · obtain ⟨k2, hk2, rfl⟩ := Option.map_eq_some_iff.1 h
          obtain ⟨kind, hu⟩ := hi f (by simp)
          have h1 : k1.length = 1 := by
            cases d with
            | zero => simp [flatK] at hk1
            | succ d => unfold flatK at hk1; rw [hu] at hk1; cases hk1; rfl
          rw [h1] at hk2
          obtain ⟨g1, g2⟩ := flatFs_zeros hk2 fun f hf => hi f (by simp [hf])
          refine ⟨by simp [h1, g1]; omega, fun g hg => ?_⟩
          rcases List.mem_cons.1 hg with rfl | hg
          · have := hn.2; simp only [List.length_cons]; omega
          · have := g2 g hg; simp only [List.length_cons]; omega
        · cases h
      · cases h
    · cases h
theorem checkKey_ints {P : Program} {w : World} {kt : TypeId} {n : Nat} {fs : Array Field} (hu : P.underlying kt = some (.struct fs)) (hn : fs.size = n) (hk : flatK P 20 kt = some (List.replicate n 0)) (hf : ∀ f ∈ fs.toList, f.name ≠ "_" ∧ ∃ kind, P.underlying f.type = some (.int kind))
    {us : List Value} (hl : us.length = n) (emp : Bool) : (Instr.checkKey emp 10000 kt (.agg us.toArray)).run P w = .ok () w := by
  have hoff : ∀ f ∈ fs.toList, f.offset < n := by
    unfold flatK at hk
    rw [hu] at hk
    simp only at hk
    split at hk
    · cases hk
    · split at hk
      · rename_i ks hks
        have := (flatFs_zeros hks fun f h => (hf f h).2).2
        intro f h
        have := this f h
        rw [Array.length_toList] at this
        omega
      · cases hk
  rw [show (10000 : Nat) = 9999 + 1 from rfl, Instr.checkKey]
  simp only [Sem.run_bind, run_und hu, Result.andThen_ok]
  rw [← Array.forIn_toList]
  generalize fs.toList = L at hf hoff
  induction L with
  | nil => simp
  | cons f L ih =>
    obtain ⟨hname, kind, hui⟩ := hf f (by simp)
    have hlt := hoff f (by simp)
    obtain ⟨v, hv⟩ : ∃ v, us.toArray[f.offset]? = some v := by
      have : f.offset < us.toArray.size := by simpa [hl] using hlt
      exact ⟨_, Array.getElem?_eq_getElem this⟩
    have hp : (part f.type us.toArray f.offset).run P w = .ok v w := run_part_cell (by simp [hui, isAggD]) hv
    have hc0 : ∀ d, (Instr.checkKey emp (d + 1) f.type v).run P w = .ok () w := fun d => by simp [Instr.checkKey, run_und hui]
    have hc : (Instr.checkKey emp 9999 f.type v).run P w = .ok () w := hc0 9998
    simp only [List.forIn_cons, Sem.run_bind, hname, ne_eq, not_false_eq_true, if_true, Result.andThen_ok, hp, hc, Sem.run_pure]
    exact ih (fun y hy => hf y (by simp [hy])) (fun y hy => hoff y (by simp [hy]))
theorem RP.aggv {w : World} {own : Own} {l : List PV} {v : Value} (h : RP w own (.agg l) v) : ∃ us : List Value, v = .agg us.toArray ∧ All2 (RP w own) l us := by
  cases h with
  | agg _ us h1 h2 => exact ⟨us, rfl, h1, h2⟩
theorem equal_ints {P : Program} {w : World} {own : Own} {kt : TypeId} {fs : Array Field} {n : Nat} (hu : P.underlying kt = some (.struct fs)) (hk : flatK P 20 kt = some (List.replicate n 0)) {l m : List PV} {x y : Value} {b : Bool} (hn : l.length = n) (hx : RP w own (.agg l) x) (hy : RP w own (.agg m) y)
    (h : keyEq l m = some b) : (Op.equal kt x y).run P w = .ok b w := by
  obtain ⟨us, rfl, h1⟩ := hx.aggv
  obtain ⟨vs, rfl, h2⟩ := hy.aggv
  have he := keyEq_cells h
  rw [hn] at he
  have up : ∀ {l : List PV} {us : List Value}, All2 (RP w own) l us → All2 (RC w own ⟨[], fun _ => none⟩) (l.map CV.pv) us := by
    intro l us h
    refine ⟨by simpa using h.1, fun i a b ha hb => ?_⟩
    rw [List.getElem?_map] at ha
    obtain ⟨p, hp, rfl⟩ := Option.map_eq_some_iff.1 ha
    exact .pv (h.2 i p b hp hb)
  exact agg_eq (P := P) (w := w) 20 kt _ hk (by rw [hu]; rfl) 10000 (by omega) _ _ us.toArray vs.toArray b (by simpa using up h1) (by simpa using up h2) he
theorem mapGetK_ok {P : Program} {w : World} {own : Own} {kt : TypeId} {fs : Array Field} {n : Nat} (hu : P.underlying kt = some (.struct fs)) (hk : flatK P 20 kt = some (List.replicate n 0)) {m : List PV} {x : Value} (hn : m.length = n) (hx : RP w own (.agg m) x) :
    ∀ {kv : List (PV × PV)} {es : List MapEntry} {r : Option PV} (i : Nat), RM w own kv es → mapGet kv (.agg m) = some r →
    (r = none → (Instr.findAsking kt x es i).run P w = .ok none w) ∧ (∀ p, r = some p → ∃ j v, (Instr.findAsking kt x es i).run P w = .ok (some (j, v)) w ∧ RP w own p v)
  | [], es, r, i, h, hg => by
    cases h
    simp only [mapGet, Option.some.injEq] at hg
    subst hg
    exact ⟨fun _ => by simp [Instr.findAsking], fun p h => by cases h⟩
  | (key, u) :: kv, es, r, i, h, hg => by
    cases h with
    | cons hkey hv hrest =>
      rename_i e l
      cases key with
      | agg q =>
        simp only [mapGet] at hg
        split at hg
        · rename_i he
          cases hg
          have := equal_ints hu hk hn hx hkey he
          exact ⟨(fun h => by cases h), (fun p h => by cases h; exact ⟨i, e.val, by simp [Instr.findAsking, this], hv⟩)⟩
        · rename_i he
          have := equal_ints hu hk hn hx hkey he
          obtain ⟨g1, g2⟩ := mapGetK_ok hu hk hn hx (i + 1) hrest hg
          have hf : (Instr.findAsking kt x (e :: l) i).run P w = (Instr.findAsking kt x l (i + 1)).run P w := by simp [Instr.findAsking, this]
          rw [hf]
          exact ⟨g1, g2⟩
        · cases hg
      | _ => simp [mapGet] at hg
theorem findKey_struct {P : Program} {w : World} {kt : TypeId} {fs : Array Field} (hu : P.underlying kt = some (.struct fs)) (x : Value) (es : List MapEntry) : (Instr.findKey kt x es).run P w = (Instr.findAsking kt x es).run P w := by
  cases es with
  | nil => simp [Instr.findKey, run_und hu, Instr.findNow, Instr.findAsking]
  | cons e es => simp [Instr.findKey, run_und hu, Instr.findNow, Instr.sameNow]
theorem keyN_inv {n : Nat} {p : PV} (h : keyN n p = true) : (n = 0 ∧ ∃ k a, p = .int k a) ∨ (0 < n ∧ ∃ l, p = .agg l ∧ l.length = n) := by
  cases n with
  | zero => cases p <;> simp [keyN] at h; exact .inl ⟨rfl, _, _, rfl⟩
  | succ n => cases p <;> simp [keyN] at h; exact .inr ⟨by omega, _, rfl, h.1⟩
theorem toPV_ok {w : World} {own : Own} {nm : Nm} {x : CV} {p : PV} {v : Value} (h : x.toPV = some p) (hr : RC w own nm x v) : RP w own p v ∧ p.flat = true := by
  unfold CV.toPV at h
  split at h
  · split at h
    · rename_i hf; cases h; exact ⟨hr.pvv, hf⟩
    · cases h
  · cases h; exact ⟨hr.shut, rfl⟩
  · cases h
theorem toPVs_ok {w : World} {own : Own} {nm : Nm} : ∀ {l : List CV} {ps : List PV} {us : List Value}, toPVs l = some ps → All2 (RC w own nm) l us → All2 (RP w own) ps us ∧ ps.length = l.length ∧ ∀ p ∈ ps, p.flat = true
  | [], ps, us, h, hr => by
    simp only [toPVs, Option.some.injEq] at h; subst h
    rw [All2.of_nil hr]
    exact ⟨All2.nil, rfl, fun p hp => by simp at hp⟩
  | x :: l, ps, us, h, hr => by
    obtain ⟨u, us', rfl, h1, h2⟩ := All2.of_cons hr
    simp only [toPVs] at h
    split at h
    · rename_i p r hp hr'
      cases h
      obtain ⟨g1, g2, g3⟩ := toPVs_ok hr' h2
      obtain ⟨g4, g5⟩ := toPV_ok hp h1
      exact ⟨All2.cons g4 g1, by simp [g2], fun q hq => by
        simp only [List.mem_cons] at hq
        rcases hq with rfl | hq
        · exact g5
        · exact g3 q hq⟩
    · cases h
theorem pvOfAV {w : World} {own : Own} {nm : Nm} {A : AV} {p : PV} {u : Value} (he : A.toPV = some p) (hr : RA w own nm A u) : RP w own p u := by
  cases A with
  | c y => exact (toPV_ok he hr.cv).1
  | agg cs =>
    simp only [AV.toPV] at he
    obtain ⟨ps, hps, rfl⟩ := Option.map_eq_some_iff.1 he
    obtain ⟨us, rfl, hr'⟩ := hr.aggv
    obtain ⟨g1, g2, _⟩ := toPVs_ok hps hr'
    exact .agg ps us g1.1 g1.2
  | tup vs => simp [AV.toPV] at he
theorem mval_ok {w : World} {own : Own} {nm : Nm} {z p : PV} {v : Value} (h : RP w own p v) : RA0 w own nm (mval z p) v := by
  unfold mval
  split
  · split
    · obtain ⟨us, rfl, h1⟩ := h.aggv
      refine .agg _ us ⟨by simpa using h1.1, fun i a b ha hb => ?_⟩
      rw [List.getElem?_map] at ha
      obtain ⟨p, hp, rfl⟩ := Option.map_eq_some_iff.1 ha
      exact .pv (h1.2 i p b hp hb)
    · exact .c (.pv h)
  · exact .c (.pv h)
theorem cPVs_ok {w : World} {own : Own} : ∀ {l : List Value} {ps : List PV}, cPVs l = some ps → All2 (RP w own) ps l
  | [], ps, h => by simp only [cPVs, Option.some.injEq] at h; subst h; exact All2.nil
  | v :: l, ps, h => by
    simp only [cPVs] at h
    split at h
    · rename_i p r hp hr
      cases h
      exact All2.cons (cPV_ok hp) (cPVs_ok hr)
    · cases h
theorem cPVz_ok {w : World} {own : Own} {v : Value} {p : PV} (h : cPVz v = some p) : RP w own p v := by
  unfold cPVz at h
  split at h
  · obtain ⟨ps, hps, rfl⟩ := Option.map_eq_some_iff.1 h
    have := cPVs_ok (w := w) (own := own) hps
    have := RP.agg ps _ this.1 this.2
    simpa using this
  · exact cPV_ok h
theorem mlook_ok (ht : All2 (RA w own nm) tm a.tmps.toList) {bx : List Box} (hb : RB w own nm bx) {o : Oper} {t kt et : TypeId} {m k : Operand} {M K : XArg} {z : PV} {zv : Value} {i : TypeInfo} {ok : Bool} {n : Nat} (ho : o.op = .lookup t m k ok) (hu : P.underlying t = some (.map kt et)) (hkt : keyT P kt = some n)
    (hi : P.info? et = some i) (hz : i.zero = some zv) (hzp : cPVz zv = some z) (hm : cArg m = some M) (hkk : cArg k = some K) {v : AV} (hv : evR (.mlook z ok M K n) tm bx = some v) : Stays P w own nm a.eval o v := by
  have h1 := arg_ok ht hm
  have h2 := arg_ok ht hkk
  simp only [evR] at hv
  split at hv
  · rename_i b p e1 e2
    rw [e1] at h1
    obtain ⟨g, f1, hg⟩ := h1.cv.mpv
    split at hv
    · rename_i kv hkv
      have hbox := hb.box b g _ hkv hg
      cases hbox with
      | map _ _ es clock hb1 _ hb3 _ =>
        split at hv
        · rename_i hkn
          have hkey := pvOfAV e2 h2
          have hobj : (getObj g).run P w = .ok (.map es clock) w := by simp [getObj, Sem.run, hb1]
          have hck : ∀ emp, (Instr.checkKey emp 10000 kt (a.eval k)).run P w = .ok () w := by
            intro emp
            rcases keyT_ok hkt with ⟨rfl, kind, hk⟩ | ⟨hn0, fs, hk, hsz, hfl, hf⟩
            · rcases keyN_inv hkn with ⟨_, k0, a0, rfl⟩ | ⟨h0, _⟩
              · have hck0 : ∀ d emp, (Instr.checkKey emp (d + 1) kt (a.eval k)).run P w = .ok () w := fun d emp => by rw [RP.intv hkey]; simp [Instr.checkKey, run_und hk]
                exact hck0 9999 emp
              · omega
            · rcases keyN_inv hkn with ⟨h0, _⟩ | ⟨_, l, rfl, hl⟩
              · omega
              · obtain ⟨us, hus, h1⟩ := hkey.aggv
                rw [hus]
                exact checkKey_ints hk hsz hfl hf (h1.1.trans hl) emp
          have found : ∀ r, mapGet kv p = some r → (r = none → (Instr.findKey kt (a.eval k) es.toList).run P w = .ok none w) ∧ (∀ p, r = some p → ∃ j v, (Instr.findKey kt (a.eval k) es.toList).run P w = .ok (some (j, v)) w ∧ RP w own p v) := by
            intro r hr
            rcases keyT_ok hkt with ⟨rfl, kind, hk⟩ | ⟨hn0, fs, hk, hsz, hfl, hf⟩
            · rcases keyN_inv hkn with ⟨_, k0, a0, rfl⟩ | ⟨h0, _⟩
              · rw [RP.intv hkey]
                obtain ⟨g1, g2⟩ := mapGet_ok (kind := kind) 0 hb3 hr
                refine ⟨fun e => by simp [Instr.findKey, run_und hk, g1 e], fun q e => ?_⟩
                obtain ⟨j, v, g3, g4⟩ := g2 q e
                exact ⟨j, v, by simp [Instr.findKey, run_und hk, g3], g4⟩
              · omega
            · rcases keyN_inv hkn with ⟨h0, _⟩ | ⟨_, l, rfl, hl⟩
              · omega
              · rw [findKey_struct hk]
                exact mapGetK_ok hk hfl hl hkey 0 hb3 hr
          have base : ∀ r, (Instr.findKey kt (a.eval k) es.toList).run P w = .ok r w → (execOp a.eval o).run P w = .ok (.value (if ok then .tuple #[(r.map (·.2)).getD zv, .bool r.isSome] else (r.map (·.2)).getD zv)) w := by
            intro r hr
            simp only [execOp, ho, Instr.lookup, Sem.run_bind, run_und hu, Result.andThen_ok, f1, hobj, hck, hr, Sem.run_pure]
            cases r with
            | none => cases ok <;> simp [zeroValue, typeInfo, program, Sem.run, hi, hz]
            | some p => cases ok <;> simp
          split at hv
          · rename_i u hget
            obtain ⟨_, g2⟩ := found _ hget
            obtain ⟨j, vv, h3, h4⟩ := g2 u rfl
            cases hv
            refine ⟨_, base _ h3, ?_⟩
            cases ok with
            | true => exact .tup _ [vv, .bool true] (All2.cons (mval_ok h4) (All2.cons (.c (.pv (.bool true))) All2.nil))
            | false => exact .of (mval_ok h4)
          · rename_i hget
            obtain ⟨g1, _⟩ := found _ hget
            cases hv
            refine ⟨_, base _ (g1 rfl), ?_⟩
            cases ok with
            | true => exact .tup _ [zv, .bool false] (All2.cons (mval_ok (cPVz_ok hzp)) (All2.cons (.c (.pv (.bool false))) All2.nil))
            | false => exact .of (mval_ok (cPVz_ok hzp))
          · cases hv
        · cases hv
    · cases hv
  · cases hv
end
end Go.Sx
