/- Operations that make or change boxes. -/
import Derived.Test.YtdhefhnlagnkdaaDoorSxDyn
namespace Go.Sx
open Go

/-- How an operation goes on: with a value and a world of which R holds. -/
def Goes (P : Program) (o : Oper) (a : Act) (w : World) (R : Value → World → Prop) : Prop :=
  ∀ (next : Act → World → Prop) (Q : Exit → Act → World → Prop), (∀ v w', R v w' → next (a.put o.dst v) w') → o.wp P a w next Q

section
variable {P : Program} {o : Oper} {a : Act} {M : Nm} {w0 w w' : World} {own0 own own' : Own} {nm nm' : Nm} {st : St} {tmps : List Value}

theorem Goes.value {R : Value → World → Prop} {v : Value} (h : (execOp a.eval o).run P w = .ok (.value v) w') (hR : R v w') : Goes P o a w R := by
  intro next Q hn
  unfold Oper.wp
  rw [h]
  exact hn v w' hR
theorem Goes.skip {R : Value → World → Prop} (h : (execOp a.eval o).run P w = .ok .skip w') (hR : R Go.undef w') : Goes P o a w R := by
  intro next Q hn
  unfold Oper.wp
  rw [h]
  exact hn _ w' hR
theorem Goes.mono {R R' : Value → World → Prop} (h : Goes P o a w R) (k : ∀ v w', R v w' → R' v w') : Goes P o a w R' :=
  fun next Q hn => h next Q fun v w' hr => hn v w' (k v w' hr)

/-- What an operation leaves: the state that is told, and a value. -/
def Left (M : Nm) (w0 : World) (own0 : Own) (st : St) (tmps : List Value) (v : AV) (r : Value) (w : World) : Prop :=
  ∃ own nm, Inv M w0 own0 w own nm st tmps ∧ RA w own nm v r

theorem Stays.goes (I : Inv M w0 own0 w own nm st tmps) {v : AV} (h : Stays P w own nm a.eval o v) : Goes P o a w (Left M w0 own0 st tmps v) := by
  haveI := I.good.toGOk
  obtain ⟨r, h1, h2⟩ := h
  exact Goes.value h1 ⟨own, nm, I, h2⟩

theorem run_newObj (x : Obj) : (newObj x).run P w = .ok w.heap.size { w with heap := w.heap.push x } := rfl
theorem run_newRow' (t : TypeId) (cs : Array Value) : (newRow t cs).run P w = .ok ⟨w.heap.size, 0, none⟩ { w with heap := w.heap.push (.cells cs t (0, 0)) } := by
  simp only [newRow, Sem.run_bind, run_newObj, Result.andThen_ok, Sem.run_pure]
theorem grow_push (w : World) (x : Obj) : Grow w { w with heap := w.heap.push x } x := ⟨rfl, rfl, rfl, rfl⟩

theorem cells_new {w2 : World} {own2 : Own} {nm2 : Nm} {l : List CV} {us : List Value} {g : Nat} {T : TypeId} (hb : w2.heap[g]? = some (.cells us.toArray T (0, 0))) (ho : own2 g = some 0) (h : All2 (RC w2 own2 nm2) l us) : RBx w2 own2 nm2 (.cells l) g :=
  .cells l g us [] T (by simpa using hb) ho h

theorem box_goes (I : Inv M w0 own0 w own nm st a.tmps.toList) {t : TypeId} {x : Operand} {X : XArg} {n : Nat} (ho : o.op = .box t x) (hx : cArg x = some X) {v : AV} {st' : St} {call : Oracle} (hv : evW call o.dst (.box X n) st = some (v, st')) :
    Goes P o a w (Left M w0 own0 st' a.tmps.toList v) := by
  haveI := I.good.toGOk
  have h1 := arg_ok I.rt hx
  simp only [evW] at hv
  split at hv
  · rename_i hc
    cases hv
    have hra : RA0 w own nm (getA st.tm X) (a.eval x) := RA.noTup h1 (by cases h : getA st.tm X <;> simp_all [AV.flat, noTup])
    have hcells := hra.cellsF hc.1
    have hg := grow_push w (.cells (a.eval x).cells t (0, 0))
    obtain ⟨I', hle, hlast⟩ := I.box hg (b := .cells (getA st.tm X).cells) (fun nm' hle => cells_new (us := (a.eval x).cells.toList) (T := t) (by simp) (by simp [setOwn]) (hcells.imp fun _ _ => RC.le hle))
    refine Goes.value (v := .pointer (some ⟨w.heap.size, 0, none⟩)) (w' := { w with heap := w.heap.push (.cells (a.eval x).cells t (0, 0)) }) ?_ ⟨_, _, I', .ofC (.ptr _ 0 _ hlast)⟩
    simp only [execOp, ho, Instr.box, newVar, Sem.run_bind, run_newRow', Result.andThen_ok, Sem.run_pure]
  · cases hv

theorem alloc_goes (I : Inv M w0 own0 w own nm st a.tmps.toList) {t : TypeId} {z : List CV} (ho : o.op = .alloc t) (hz : zeroT P t = some z) {v : AV} {st' : St} {call : Oracle} (hv : evW call o.dst (.alloc z) st = some (v, st')) :
    Goes P o a w (Left M w0 own0 st' a.tmps.toList v) := by
  haveI := I.good.toGOk
  simp only [evW, Option.some.injEq, Prod.mk.injEq] at hv
  obtain ⟨rfl, rfl⟩ := hv
  obtain ⟨zv, b, hz1, hz2, hz3, _, hz5⟩ := run_zero (P := P) (w := w) (own := own) (nm := nm) hz
  have hcells : All2 (RC w own nm) z zv.cells.toList := by subst hz2; exact hz3.cellsF hz5
  have hg := grow_push w (.cells zv.cells t (0, 0))
  obtain ⟨I', hle, hlast⟩ := I.box hg (b := .cells z) (fun nm' hle => cells_new (us := zv.cells.toList) (T := t) (by simp) (by simp [setOwn]) (hcells.imp fun _ _ => RC.le hle))
  refine Goes.value (v := .pointer (some ⟨w.heap.size, 0, none⟩)) (w' := { w with heap := w.heap.push (.cells zv.cells t (0, 0)) }) ?_ ⟨_, _, I', .ofC (.ptr _ 0 _ hlast)⟩
  simp only [execOp, ho, Instr.alloc, Sem.run_bind, hz1, newVar, run_newRow', Result.andThen_ok, Sem.run_pure]

/-- Cells of a box, written. -/
theorem put_ok {b b' : Box} {g off : Nat} {vs : List CV} (hb : RBx w own nm b g) (hp : b.put off vs = some b') : ∃ (cs cs' : List CV) (us ex : List Value) (T : TypeId), w.heap[g]? = some (.cells (us ++ ex).toArray T (0, 0)) ∧ own g = some 0 ∧ All2 (RC w own nm) cs us ∧ putB cs off vs = some cs' ∧
    ∀ (w' : World) (own' : Own) (nm' : Nm), RBx w' own' nm' (.cells cs') g → RBx w' own' nm' b' g := by
  cases hb with
  | cells cs _ us ex T h1 h2 h3 =>
    obtain ⟨cs', h4, rfl⟩ := Option.map_eq_some_iff.1 hp
    exact ⟨cs, cs', us, ex, T, h1, h2, h3, h4, fun _ _ _ h => h⟩
  | row s r _ h hr hs => cases h with
    | cells _ _ us ex T h1 h2 h3 =>
      obtain ⟨es', h4, rfl⟩ := Option.map_eq_some_iff.1 hp
      obtain ⟨h5, h6⟩ := put_row (List.all_eq_true.1 hr) h4
      exact ⟨_, _, us, ex, T, h1, h2, h3, h5, fun _ _ _ h => .row s es' g h (List.all_eq_true.2 h6) hs⟩
  | _ => simp [Box.put] at hp
theorem storeO_store {n : Nat} {A X U : XArg} {v : AV} {st' : St} {d : Option Nat} {call : Oracle} (hv : evW call d (.storeO n A X U) st = some (v, st')) : evW call d (.store n A X) st = some (v, st') := by
  simp only [evW] at hv ⊢
  split at hv
  · rename_i e1 e2
    split at hv
    · cases hv
    · rw [e1]; exact hv
  · cases hv
theorem store_goes (I : Inv M w0 own0 w own nm st a.tmps.toList) {t : TypeId} {x y : Operand} {X Y : XArg} {n : Nat} (ho : o.op = .store t x y) (hn : sizeT P t = some n) (hx : cArg x = some X) (hy : cArg y = some Y) {v : AV} {st' : St} {call : Oracle}
    (hv : evW call o.dst (.store n X Y) st = some (v, st')) : Goes P o a w (Left M w0 own0 st' a.tmps.toList v) := by
  haveI := I.good.toGOk
  have h1 := arg_ok I.rt hx
  have h2 := arg_ok I.rt hy
  simp only [evW] at hv
  split at hv
  · rename_i k off e
    rw [e] at h1
    obtain ⟨g, e1, hk⟩ := h1.cv.ptrv
    split at hv
    · rename_i b hcs
      split at hv
      · rename_i hc
        split at hv
        · rename_i b' hp
          simp only [Option.some.injEq, Prod.mk.injEq] at hv
          obtain ⟨rfl, rfl⟩ := hv
          obtain ⟨cs, cs', us, ex, T, hb1, hb2, hb3, hp, hback⟩ := put_ok (I.rb.box k g _ hcs hk) hp
          have hra : RA0 w own nm (getA st.tm Y) (a.eval y) := RA.noTup h2 (by cases h : getA st.tm Y <;> simp_all [AV.flat, noTup])
          have hcells := hra.cellsF hc.1
          · have _u : True := trivial
            obtain ⟨g1, g2, g3⟩ := putB_ok hb3 hcells hp
            have hkl : k < st.bx.length := (List.getElem?_eq_some_iff.1 hcs).1
            have hsz : (a.eval y).cells.size = n := by have := hcells.1; rw [hc.2.1] at this; simpa using this
            have hone : ∀ u ∈ (a.eval y).cells.toList, u.oneCell' = true := by
              intro u hu
              obtain ⟨i, hi⟩ := List.mem_iff_getElem?.1 hu
              have hil : i < (getA st.tm Y).cells.length := by
                have h1 := (List.getElem?_eq_some_iff.1 hi).1
                have h2 := hcells.1
                omega
              have hr := hcells.2 i _ u (List.getElem?_eq_getElem hil) hi
              exact hr.one (flat_mem hc.1 _ (List.getElem_mem hil))
            have hfit : off + n ≤ us.length := by
              have hne : (getA st.tm Y).cells ≠ [] := fun h => by rw [h] at hc; have := hc.2.1; have := hc.2.2; simp at *; omega
              rw [if_neg hne, hc.2.1] at g1
              have := hb3.1; omega
            have hrun := run_storeCells_at P g off T (a.eval y).cells.toList 0 (us ++ ex).toArray w hb1 (by simp [hsz]; omega) hone
            have hw' : (execOp a.eval o).run P w = .ok .skip (w.setRow g ((us ++ ex).toArray.toList.take (off + 0) ++ (a.eval y).cells.toList ++ (us ++ ex).toArray.toList.drop (off + 0 + (a.eval y).cells.toList.length)).toArray) := by
              simp only [execOp, ho, e1, Instr.storeAt, Instr.sureAddr, storeVar, Sem.run_bind, Sem.run_pure, Result.andThen_ok, run_size hn, hsz, ne_eq, not_true_eq_false, if_false, Sem.run_ite, hrun]
            have hnew : ((us ++ ex).toArray.toList.take (off + 0) ++ (a.eval y).cells.toList ++ (us ++ ex).toArray.toList.drop (off + 0 + (a.eval y).cells.toList.length)) = (us.take off ++ (a.eval y).cells.toList ++ us.drop (off + (a.eval y).cells.toList.length)) ++ ex := by
              have hl : (a.eval y).cells.toList.length = n := by simpa using hsz
              rw [hl]
              simp only [Nat.add_zero, List.append_assoc]
              rw [List.take_append_of_le_length (by omega), List.drop_append_of_le_length (by omega)]
            rw [hnew] at hw'
            refine Goes.skip hw' ?_
            have hheap := setRow_heap w g _ (us.take off ++ (a.eval y).cells.toList ++ us.drop (off + (a.eval y).cells.toList.length) ++ ex).toArray T (0, 0) hb1
            obtain ⟨I', hle⟩ := I.upd (w' := w.setRow g (us.take off ++ (a.eval y).cells.toList ++ us.drop (off + (a.eval y).cells.toList.length) ++ ex).toArray) (k := k) (g := g) (b := b') hk hkl hb2 rfl rfl rfl (by simp [World.setRow]) (fun j hj => setRow_other w g j _ hj)
              (fun cs2 T2 h2 => by
                rw [hb1] at h2
                cases h2
                refine ⟨_, hheap, ?_⟩
                have hl : (a.eval y).cells.toList.length = n := by simpa using hsz
                simp only [List.size_toArray, List.length_append, List.length_take, List.length_drop, hl]
                omega)
              (fun hle => hback _ _ _ (.cells cs' g _ ex T hheap hb2 (g3.imp fun _ _ => RC.le hle)))
            exact ⟨own, nm, I', .ofU _⟩
        · cases hv
      · cases hv
    · cases hv
  · cases hv
end
end Go.Sx
