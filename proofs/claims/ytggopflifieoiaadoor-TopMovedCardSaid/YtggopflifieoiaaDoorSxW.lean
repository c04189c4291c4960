/- Operations that make or change boxes. -/
import Derived.Test.YtggopflifieoiaaDoorSxDyn
namespace Go.Sx
open Go
def Goes (P : Program) (o : Oper) (a : Act) (w : World) (R : Value → World → Prop) : Prop :=
  ∀ (next : Act → World → Prop) (Q : Exit → Act → World → Prop), (∀ v w', R v w' → next (a.put o.dst v) w') → o.wp P a w next Q
section
variable {P : Program} {o : Oper} {a : Act} {M : Nm} {w0 w w' : World} {own0 own own' : Own} {nm nm' : Nm} {st : St} {tmps : List Value}
theorem Goes.value {R : Value → World → Prop} {v : Value} (h : (execOp a.eval o).run P w = .ok (.value v) w') (hR : R v w') : Goes P o a w R := by
  intro next Q hn
  unfold Oper.wp
  rw [h]
  exact hn v w' hR
theorem Goes.skip {R : Value → World → Prop} (h : (execOp a.eval o).run P w = .ok .skip w') (hR : R Go.undef w') : Goes P o a w R := by
  intro next Q hn
  unfold Oper.wp
  rw [h]
  exact hn _ w' hR
theorem Goes.mono {R R' : Value → World → Prop} (h : Goes P o a w R) (k : ∀ v w', R v w' → R' v w') : Goes P o a w R' :=
  fun next Q hn => h next Q fun v w' hr => hn v w' (k v w' hr)
def Left (M : Nm) (w0 : World) (own0 : Own) (st : St) (tmps : List Value) (v : AV) (r : Value) (w : World) : Prop :=
  ∃ own nm, Inv M w0 own0 w own nm st tmps ∧ RA w own nm v r
theorem Stays.goes (I : Inv M w0 own0 w own nm st tmps) {v : AV} (h : Stays P w own nm a.eval o v) : Goes P o a w (Left M w0 own0 st tmps v) := by
  haveI := I.good.toGOk
  obtain ⟨r, h1, h2⟩ := h
  exact Goes.value h1 ⟨own, nm, I, h2⟩
theorem run_newObj (x : Obj) : (newObj x).run P w = .ok w.heap.size { w with heap := w.heap.push x } := rfl
theorem run_newRow' (t : TypeId) (cs : Array Value) : (newRow t cs).run P w = .ok ⟨w.heap.size, 0, none⟩ { w with heap := w.heap.push (.cells cs t (0, 0)) } := by
  simp only [newRow, Sem.run_bind, run_newObj, Result.andThen_ok, Sem.run_pure]
theorem grow_push (w : World) (x : Obj) : Grow w { w with heap := w.heap.push x } x := ⟨rfl, rfl, rfl, rfl⟩
theorem TC.free {w : World} {g : Nat} {l : List Value} {T : TypeId} (h : TC w g l T) : ∃ fz : Nat × Nat, w.heap[g]? = some (.cells l.toArray T fz) ∧ (∀ p, p < l.length → ¬ (fz.1 ≤ p ∧ p < fz.2)) ∧ (fz = (0, 0) ∨ l.length ≤ fz.1) := by
  obtain ⟨fz, h1, h2⟩ := h
  refine ⟨fz, h1, fun p hp hq => ?_, h2⟩
  cases h2 with
  | inl h2 => subst h2; exact absurd hq.2 (Nat.not_lt_zero _)
  | inr h2 => omega
theorem run_storeCells_fz (P : Program) (g o : Nat) (t : TypeId) (fz : Nat × Nat) : ∀ (vs : List Value) (i : Nat) (cur : Array Value) (w : World), w.heap[g]? = some (.cells cur t fz) → (∀ p, p < cur.size → ¬ (fz.1 ≤ p ∧ p < fz.2)) → o + i + vs.length ≤ cur.size →
    (∀ v ∈ vs, v.oneCell' = true) → (storeCells ⟨g, o, none⟩ vs i).run P w = .ok () (w.setRow g (cur.toList.take (o + i) ++ vs ++ cur.toList.drop (o + i + vs.length)).toArray)
  | [], i, cur, w, hg, _, _, _ => by
    simp only [storeCells, List.append_nil, List.length_nil, Nat.add_zero, List.take_append_drop, Array.toArray_toList]
    rw [setRow_self w g cur t fz hg]; rfl
  | v :: r, i, cur, w, hg, hz, hl, h1 => by
    rw [List.length_cons] at hl
    have hi : o + i < cur.size := by omega
    have ha : (⟨g, o, none⟩ : Addr).add i = ⟨g, o + i, none⟩ := by unfold Addr.add; split <;> simp_all
    have hc : w.cell? ⟨g, o + i, none⟩ = some cur[o + i] := by simp [World.cell?, hg, hi]
    have hf : w.frozen? ⟨g, o + i, none⟩ = false := by
      have := hz _ hi
      obtain ⟨lo, hh⟩ := fz
      simp only [World.frozen?, hg, Bool.and_eq_false_iff, decide_eq_false_iff_not]
      simp only [not_and] at this
      by_cases hlo : lo ≤ o + i
      · exact .inr (this hlo)
      · exact .inl hlo
    have hst : (store ((⟨g, o, none⟩ : Addr).add i) v).run P w = .ok () (w.setRow g (cur.setIfInBounds (o + i) v)) := by
      rw [ha, run_store P w _ v _ (h1 v (by simp)), hc]
      simp [hf, setCell_eq_setRow w g (o + i) cur t fz v hg]
    have ih := run_storeCells_fz P g o t fz r (i + 1) (cur.setIfInBounds (o + i) v) (w.setRow g (cur.setIfInBounds (o + i) v)) (setRow_heap w g cur _ t _ hg) (by simpa using hz) (by rw [Array.size_setIfInBounds]; omega) (fun u hu => h1 u (by simp [hu]))
    simp only [storeCells, Sem.run_bind, hst, Result.andThen_ok, ih, setRow_setRow]
    congr 3
    have e := list_seg_step cur.toList (o + i) v r (by simp; omega)
    simpa [Array.toList_setIfInBounds, Nat.add_assoc] using e
theorem cells_new {w2 : World} {own2 : Own} {nm2 : Nm} {l : List CV} {us : List Value} {g : Nat} {T : TypeId} (hb : w2.heap[g]? = some (.cells us.toArray T (0, 0))) (ho : own2 g = some 0) (h : All2 (RC w2 own2 nm2) l us) : RBx w2 own2 nm2 (.cells l) g :=
  .cells l g us T ⟨_, hb, .inl rfl⟩ ho h
theorem box_goes (I : Inv M w0 own0 w own nm st a.tmps.toList) {t : TypeId} {x : Operand} {X : XArg} {n : Nat} (ho : o.op = .box t x) (hx : cArg x = some X) {v : AV} {st' : St} {call : Oracle} (hv : evW call o.dst (.box X n) st = some (v, st')) :
    Goes P o a w (Left M w0 own0 st' a.tmps.toList v) := by
  haveI := I.good.toGOk
  have h1 := arg_ok I.rt hx
  simp only [evW] at hv
  split at hv
  · rename_i hc
    cases hv
    have hra : RA0 w own nm (getA st.tm X) (a.eval x) := RA.noTup h1 (by cases h : getA st.tm X <;> simp_all [AV.flat, noTup])
    have hcells := hra.cellsF hc.1
    have hg := grow_push w (.cells (a.eval x).cells t (0, 0))
    obtain ⟨I', hle, hlast⟩ := I.box hg (b := .cells (getA st.tm X).cells) (fun nm' hle => cells_new (us := (a.eval x).cells.toList) (T := t) (by simp) (by simp [setOwn]) (hcells.imp fun _ _ => RC.le hle))
    refine Goes.value (v := .pointer (some ⟨w.heap.size, 0, none⟩)) (w' := { w with heap := w.heap.push (.cells (a.eval x).cells t (0, 0)) }) ?_ ⟨_, _, I', .ofC (.ptr _ 0 _ hlast)⟩
    simp only [execOp, ho, Instr.box, newVar, Sem.run_bind, run_newRow', Result.andThen_ok, Sem.run_pure]
  · cases hv
theorem alloc_goes (I : Inv M w0 own0 w own nm st a.tmps.toList) {t : TypeId} {z : List CV} (ho : o.op = .alloc t) (hz : zeroT P t = some z) {v : AV} {st' : St} {call : Oracle} (hv : evW call o.dst (.alloc z) st = some (v, st')) :
    Goes P o a w (Left M w0 own0 st' a.tmps.toList v) := by
  haveI := I.good.toGOk
  simp only [evW, Option.some.injEq, Prod.mk.injEq] at hv
  obtain ⟨rfl, rfl⟩ := hv
  obtain ⟨zv, b, hz1, hz2, hz3, _, hz5⟩ := run_zero (P := P) (w := w) (own := own) (nm := nm) hz
  have hcells : All2 (RC w own nm) z zv.cells.toList := by subst hz2; exact hz3.cellsF hz5
  have hg := grow_push w (.cells zv.cells t (0, 0))
  obtain ⟨I', hle, hlast⟩ := I.box hg (b := .cells z) (fun nm' hle => cells_new (us := zv.cells.toList) (T := t) (by simp) (by simp [setOwn]) (hcells.imp fun _ _ => RC.le hle))
  refine Goes.value (v := .pointer (some ⟨w.heap.size, 0, none⟩)) (w' := { w with heap := w.heap.push (.cells zv.cells t (0, 0)) }) ?_ ⟨_, _, I', .ofC (.ptr _ 0 _ hlast)⟩
  simp only [execOp, ho, Instr.alloc, Sem.run_bind, hz1, newVar, run_newRow', Result.andThen_ok, Sem.run_pure]
theorem put_ok {b b' : Box} {g off : Nat} {vs : List CV} (hb : RBx w own nm b g) (hp : b.put off vs = some b') : ∃ (cs cs' : List CV) (us ex : List Value) (T : TypeId), TC w g (us ++ ex) T ∧ own g = some 0 ∧ All2 (RC w own nm) cs us ∧ putB cs off vs = some cs' ∧
    ∀ (w' : World) (own' : Own) (nm' : Nm) (us' : List Value) (T' : TypeId), TC w' g (us' ++ ex) T' → own' g = some 0 → All2 (RC w' own' nm') cs' us' → RBx w' own' nm' b' g := by
  cases hb with
  | cells cs _ us T h1 h2 h3 =>
    obtain ⟨cs', h4, rfl⟩ := Option.map_eq_some_iff.1 hp
    exact ⟨cs, cs', us, [], T, by rw [List.append_nil]; exact h1, h2, h3, h4, fun _ _ _ us' T' k1 k2 k3 => .cells cs' g us' T' (by rw [List.append_nil] at k1; exact k1) k2 k3⟩
  | row s r _ h hr hs => cases h with
    | mk us ex T h1 h2 h3 =>
      obtain ⟨es', h4, rfl⟩ := Option.map_eq_some_iff.1 hp
      obtain ⟨h5, h6⟩ := put_row (List.all_eq_true.1 hr) h4
      exact ⟨_, _, us, ex, T, h1, h2, h3, h5, fun _ _ _ us' T' k1 k2 k3 => .row s es' g (.mk us' ex T' k1 k2 k3) (List.all_eq_true.2 h6) hs⟩
  | _ => simp [Box.put] at hp
theorem storeO_store {n : Nat} {A X U : XArg} {v : AV} {st' : St} {d : Option Nat} {call : Oracle} (hv : evW call d (.storeO n A X U) st = some (v, st')) : evW call d (.store n A X) st = some (v, st') := by
  simp only [evW] at hv ⊢
  split at hv
  · rename_i e1 e2
    split at hv
    · cases hv
    · rw [e1]; exact hv
  · cases hv
theorem store_goes (I : Inv M w0 own0 w own nm st a.tmps.toList) {t : TypeId} {x y : Operand} {X Y : XArg} {n : Nat} (ho : o.op = .store t x y) (hn : sizeT P t = some n) (hx : cArg x = some X) (hy : cArg y = some Y) {v : AV} {st' : St} {call : Oracle}
    (hv : evW call o.dst (.store n X Y) st = some (v, st')) : Goes P o a w (Left M w0 own0 st' a.tmps.toList v) := by
  haveI := I.good.toGOk
  have h1 := arg_ok I.rt hx
  have h2 := arg_ok I.rt hy
  simp only [evW] at hv
  split at hv
  · rename_i k off e
    rw [e] at h1
    obtain ⟨g, e1, hk⟩ := h1.cv.ptrv
    split at hv
    · rename_i b hcs
      split at hv
      · rename_i hc
        split at hv
        · rename_i b' hp
          simp only [Option.some.injEq, Prod.mk.injEq] at hv
          obtain ⟨rfl, rfl⟩ := hv
          obtain ⟨cs, cs', us, ex, T, hb1, hb2, hb3, hp, hback⟩ := put_ok (I.rb.box k g _ hcs hk) hp
          obtain ⟨fz, hb1, hz, hz2⟩ := hb1.free
          have hra : RA0 w own nm (getA st.tm Y) (a.eval y) := RA.noTup h2 (by cases h : getA st.tm Y <;> simp_all [AV.flat, noTup])
          have hcells := hra.cellsF hc.1
          · have _u : True := trivial
            obtain ⟨g1, g2, g3⟩ := putB_ok hb3 hcells hp
            have hkl : k < st.bx.length := (List.getElem?_eq_some_iff.1 hcs).1
            have hsz : (a.eval y).cells.size = n := by have := hcells.1; rw [hc.2.1] at this; simpa using this
            have hone : ∀ u ∈ (a.eval y).cells.toList, u.oneCell' = true := by
              intro u hu
              obtain ⟨i, hi⟩ := List.mem_iff_getElem?.1 hu
              have hil : i < (getA st.tm Y).cells.length := by
                have h1 := (List.getElem?_eq_some_iff.1 hi).1
                have h2 := hcells.1
                omega
              have hr := hcells.2 i _ u (List.getElem?_eq_getElem hil) hi
              exact hr.one (flat_mem hc.1 _ (List.getElem_mem hil))
            have hfit : off + n ≤ us.length := by
              have hne : (getA st.tm Y).cells ≠ [] := fun h => by rw [h] at hc; have := hc.2.1; have := hc.2.2; simp at *; omega
              rw [if_neg hne, hc.2.1] at g1
              have := hb3.1; omega
            have hrun := run_storeCells_fz P g off T fz (a.eval y).cells.toList 0 (us ++ ex).toArray w hb1 (by simpa using hz) (by simp [hsz]; omega) hone
            have hw' : (execOp a.eval o).run P w = .ok .skip (w.setRow g ((us ++ ex).toArray.toList.take (off + 0) ++ (a.eval y).cells.toList ++ (us ++ ex).toArray.toList.drop (off + 0 + (a.eval y).cells.toList.length)).toArray) := by
              simp only [execOp, ho, e1, Instr.storeAt, Instr.sureAddr, storeVar, Sem.run_bind, Sem.run_pure, Result.andThen_ok, run_size hn, hsz, ne_eq, not_true_eq_false, if_false, Sem.run_ite, hrun]
            have hnew : ((us ++ ex).toArray.toList.take (off + 0) ++ (a.eval y).cells.toList ++ (us ++ ex).toArray.toList.drop (off + 0 + (a.eval y).cells.toList.length)) = (us.take off ++ (a.eval y).cells.toList ++ us.drop (off + (a.eval y).cells.toList.length)) ++ ex := by
              have hl : (a.eval y).cells.toList.length = n := by simpa using hsz
              rw [hl]
              simp only [Nat.add_zero, List.append_assoc]
              rw [List.take_append_of_le_length (by omega), List.drop_append_of_le_length (by omega)]
            rw [hnew] at hw'
            refine Goes.skip hw' ?_
            have hheap := setRow_heap w g _ (us.take off ++ (a.eval y).cells.toList ++ us.drop (off + (a.eval y).cells.toList.length) ++ ex).toArray T fz hb1
            obtain ⟨I', hle⟩ := I.upd (w' := w.setRow g (us.take off ++ (a.eval y).cells.toList ++ us.drop (off + (a.eval y).cells.toList.length) ++ ex).toArray) (k := k) (g := g) (b := b') hk hkl hb2 rfl rfl rfl (by simp [World.setRow]) (fun j hj => setRow_other w g j _ hj)
              (fun cs2 T2 fz2 h2 => by
                rw [hb1] at h2
                cases h2
                refine ⟨_, hheap, ?_⟩
                have hl : (a.eval y).cells.toList.length = n := by simpa using hsz
                simp only [List.size_toArray, List.length_append, List.length_take, List.length_drop, hl]
                omega)
              (fun hle => hback _ _ _ _ T ⟨_, hheap, hz2.imp_right fun h => by
                have hl : (a.eval y).cells.toList.length = n := by simpa using hsz
                simp only [List.length_append, List.length_take, List.length_drop, hl] at h ⊢
                omega⟩ hb2 (g3.imp fun _ _ => RC.le hle))
            exact ⟨own, nm, I', .ofU _⟩
        · cases hv
      · cases hv
    · cases hv
  · cases hv
end
end Go.Sx
