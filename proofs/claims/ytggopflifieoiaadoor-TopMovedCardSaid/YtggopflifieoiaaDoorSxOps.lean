/- What the machine's operations do, where the evaluator tells what they come to: those that change no memory. -/
import Derived.Test.YtggopflifieoiaaDoorSxRel
import Derived.Test.YtggopflifieoiaaDoorSxCmp
import Derived.Laws.Sem
import Derived.Laws.Entries
import Derived.Laws.Cells
import Derived.ChangeKeysEq
import Derived.Laws.Strings
import Derived.Laws.Strings2
import Derived.Laws.CopyRow
import Derived.Laws.AppendOwn
import Derived.Laws.StructEq
namespace Go.Sx
open Go
section inv
variable {w : World} {own : Own} {nm : Nm} {v : Value}
theorem RA.cv {x : CV} (h : RA w own nm (.c x) v) : RC w own nm x v := by
  cases h with | of h => cases h with | c h => exact h
theorem RA.pv {p : PV} (h : RA w own nm (.c (.pv p)) v) : RP w own p v := by
  cases h.cv with | pv h => exact h
theorem RA.int {k : IntKind} {n : Int} (h : RA w own nm (.c (.pv (.int k n))) v) : v = .int k n := by cases h.pv; rfl
theorem RA.bool {b : Bool} (h : RA w own nm (.c (.pv (.bool b))) v) : v = .bool b := by cases h.pv; rfl
theorem RA.str {l : List UInt8} (h : RA w own nm (.c (.pv (.str l))) v) : v = .string ⟨l.toArray⟩ := by cases h.pv; rfl
theorem RA.aggv {cs : List CV} (h : RA w own nm (.agg cs) v) : ∃ us : List Value, v = .agg us.toArray ∧ All2 (RC w own nm) cs us := by
  cases h with | of h => cases h with | agg _ us h => exact ⟨us, rfl, h⟩
theorem RA.tupv {vs : List AV} (h : RA w own nm (.tup vs) v) : ∃ us : List Value, v = .tuple us.toArray ∧ All2 (RA0 w own nm) vs us := by
  cases h with
  | of h => cases h
  | tup _ us h => exact ⟨us, rfl, h⟩
theorem RA.ofC {x : CV} (h : RC w own nm x v) : RA w own nm (.c x) v := .of (.c h)
theorem RA.ofP {p : PV} (h : RP w own p v) : RA w own nm (.c (.pv p)) v := .of (.c (.pv h))
theorem RA.ofI (k : IntKind) (n : Int) : RA w own nm (.int k n) (.int k n) := .ofP (.int k n)
theorem RA.ofB (b : Bool) : RA w own nm (.b b) (.bool b) := .ofP (.bool b)
theorem RA.ofS (l : List UInt8) : RA w own nm (.s l) (.string ⟨l.toArray⟩) := .ofP (.str l)
theorem RA.ofU (v : Value) : RA w own nm .undef v := .of (.c (.undef v))
theorem RA.noTup {a : AV} (h : RA w own nm a v) (hn : noTup a = true) : RA0 w own nm a v := by
  cases h with
  | of h => exact h
  | tup => simp [Sx.noTup] at hn
theorem RP.one {p : PV} (h : RP w own p v) (hp : p.flat = true) : v.oneCell' = true := by
  cases h <;> first | rfl | simp [PV.flat] at hp
theorem RC.one {x : CV} (h : RC w own nm x v) (hp : x.flat = true) : v.oneCell' = true := by
  cases h with
  | undef => simp [CV.flat] at hp
  | pv h => exact h.one hp
  | own => rfl
  | ms => rfl
  | ptr => rfl
  | cptr => rfl
  | nilp => rfl
  | fn => rfl
  | nilf => rfl
  | mp => rfl
  | nilm => rfl
theorem cells_of_one {v : Value} (h : v.oneCell' = true) : v.cells = #[v] := by cases v <;> simp_all [Value.oneCell', Value.cells]
end inv
section args
variable {w : World} {own : Own} {nm : Nm}
theorem cPV_ok {v : Value} {p : PV} (h : cPV v = some p) : RP w own p v := by
  unfold cPV at h
  split at h <;> simp at h <;> subst h
  · exact .bool _
  · exact .int _ _
  · rename_i s
    have : s = ⟨s.data.toList.toArray⟩ := by cases s; simp
    rw [this]
    exact .str _
  · exact .sl .nil 0 [] none 0 (fun _ _ => undef) (Nat.le_refl _) (by unfold maxLen; omega) (fun _ => rfl) (fun h => absurd rfl h) (fun h => by cases h) (fun _ => ⟨rfl, rfl⟩) (fun i e h => by simp at h) (fun ad h => by cases h) (fun i j e c h => by simp at h)
theorem cCV_ok {v : Value} {x : CV} (h : cCV v = some x) : RC w own nm x v := by
  unfold cCV at h
  split at h
  · simp at h; subst h; exact .nilp
  · simp at h; subst h; exact .nilf
  · simp at h; subst h; exact .nilm
  · obtain ⟨p, hp, rfl⟩ := Option.map_eq_some_iff.1 h
    exact .pv (cPV_ok hp)
theorem cList_ok {α β : Type} {f : α → Option β} : ∀ {l : List α} {m : List β}, cList f l = some m → All2 (fun b a => f a = some b) m l
  | [], m, h => by simp [cList] at h; subst h; exact All2.nil
  | a :: l, m, h => by
    simp only [cList] at h
    split at h
    · rename_i b r hb hr
      cases h
      exact All2.cons hb (cList_ok hr)
    · cases h
theorem cAV_ok {v : Value} {a : AV} (h : cAV v = some a) : RA0 w own nm a v := by
  unfold cAV at h
  split at h
  · rename_i cs
    obtain ⟨l, hl, rfl⟩ := Option.map_eq_some_iff.1 h
    have := cList_ok hl
    have h2 : All2 (RC w own nm) l cs.toList := this.imp fun b a hb => cCV_ok hb
    have := RA0.agg (w := w) (own := own) (nm := nm) l cs.toList h2
    simpa using this
  · obtain ⟨x, hx, rfl⟩ := Option.map_eq_some_iff.1 h
    exact .c (cCV_ok hx)
theorem cCV_flat {v : Value} {x : CV} (h : cCV v = some x) : x.flat = true := by
  unfold cCV at h
  split at h
  · simp at h; subst h; rfl
  · simp at h; subst h; rfl
  · simp at h; subst h; rfl
  · obtain ⟨p, hp, rfl⟩ := Option.map_eq_some_iff.1 h
    unfold cPV at hp
    split at hp <;> simp at hp <;> subst hp <;> rfl
theorem cAV_flat {v : Value} {a : AV} (h : cAV v = some a) : a.flat = true := by
  unfold cAV at h
  split at h
  · obtain ⟨l, hl, rfl⟩ := Option.map_eq_some_iff.1 h
    have := cList_ok hl
    simp only [AV.flat, List.all_eq_true]
    intro x hx
    obtain ⟨i, hi⟩ := List.mem_iff_getElem?.1 hx
    obtain ⟨b, _, hb⟩ := this.get hi
    exact cCV_flat hb
  · obtain ⟨x, hx, rfl⟩ := Option.map_eq_some_iff.1 h
    exact cCV_flat hx
variable {tm : List AV} {a : Act}
theorem tmp_ok (ht : All2 (RA w own nm) tm a.tmps.toList) (t : Nat) : RA w own nm (tm.getD t .undef) (a.tmps.getD t undef) := by
  by_cases hl : t < tm.length
  · have h1 : tm[t]? = some tm[t] := List.getElem?_eq_getElem hl
    obtain ⟨b, hb, hr⟩ := ht.get h1
    have hb' : a.tmps[t]? = some b := by simpa using hb
    rw [List.getD_eq_getElem?_getD, h1, Array.getD_eq_getD_getElem?, hb']
    exact hr
  · rw [List.getD_eq_getElem?_getD, List.getElem?_eq_none (Nat.le_of_not_lt hl)]
    exact .ofU _
variable [GOk w own]
theorem arg_ok (ht : All2 (RA w own nm) tm a.tmps.toList) {x : Operand} {X : XArg} (h : cArg x = some X) : RA w own nm (getA tm X) (a.eval x) := by
  unfold cArg at h
  split at h
  · rename_i t
    cases h
    exact tmp_ok ht t
  · obtain ⟨y, hy, rfl⟩ := Option.map_eq_some_iff.1 h
    exact .of (cAV_ok hy)
  · cases h
    exact .ofC (.fn _ [] [] rfl (fun i k u h => by simp at h))
  · rename_i g
    obtain ⟨cells, hg, rfl⟩ := Option.map_eq_some_iff.1 h
    obtain ⟨us, hc⟩ := GOk.glob (w := w) (own := own) g cells hg
    exact .ofC (.cptr cells 0 g 0 us hc)
theorem args_ok (ht : All2 (RA w own nm) tm a.tmps.toList) {xs : List Operand} {Xs : List XArg} (h : cList cArg xs = some Xs) : All2 (RA w own nm) (Xs.map (getA tm)) (xs.map a.eval) := by
  induction xs generalizing Xs with
  | nil => simp [cList] at h; subst h; exact All2.nil
  | cons x xs ih =>
    simp only [cList] at h
    split at h
    · rename_i b r hb hr
      cases h
      exact All2.cons (arg_ok ht hb) (ih hr)
    · cases h
end args
section types
variable {P : Program} {w : World}
theorem run_und {t : TypeId} {d : TypeDesc} (h : P.underlying t = some d) : (underlying t).run P w = .ok d w := run_underlying h w
theorem run_size {t : TypeId} {n : Nat} (h : sizeT P t = some n) : (sizeOf t).run P w = .ok n w := by
  obtain ⟨i, hi, rfl⟩ := Option.map_eq_some_iff.1 h
  simp [sizeOf, typeInfo, program, Sem.run, hi]
theorem run_isAgg {t : TypeId} {b : Bool} (h : isAggD (P.underlying t) = some b) : (isAgg t).run P w = .ok b w := by
  unfold isAggD at h
  split at h
  · rename_i hd; cases h; simp [isAgg, run_und hd]
  · rename_i hd; cases h; simp [isAgg, run_und hd]
  · rename_i d h1 h2 hd
    cases h
    simp only [isAgg, Sem.run_bind, run_und hd, Result.andThen_ok]
    cases d <;> first | rfl | exact (h1 _ rfl).elim | exact (h2 _ _ rfl).elim
  · cases h
theorem run_zero {t : TypeId} {z : List CV} {own : Own} {nm : Nm} (h : zeroT P t = some z) : ∃ (zv : Value) (b : AV), (zeroValue t).run P w = .ok zv w ∧ b.cells = z ∧ RA0 w own nm b zv ∧ (P.info? t).bind (·.zero) = some zv ∧ b.flat = true := by
  unfold zeroT at h
  cases hi : P.info? t with
  | none => simp [hi] at h
  | some i =>
    cases hz : i.zero with
    | none => simp [hi, hz] at h
    | some zv =>
      simp only [hi, hz, Option.bind_some] at h
      obtain ⟨b, hb, rfl⟩ := Option.map_eq_some_iff.1 h
      refine ⟨zv, b, by simp [zeroValue, typeInfo, program, Sem.run, hi, hz], rfl, cAV_ok hb, by simp [hz], cAV_flat hb⟩
end types
theorem RA0.cellsv {w : World} {own : Own} {nm : Nm} {a : AV} {v : Value} (h : RA0 w own nm a v) (hx : ∀ x, a = .c x → v.oneCell' = true) : All2 (RC w own nm) a.cells v.cells.toList := by
  cases h with
  | c h =>
    rw [cells_of_one (hx _ rfl)]
    exact All2.cons h All2.nil
  | agg cs us h => simpa [AV.cells, Value.cells] using h
theorem flat_mem {v : AV} (h : v.flat = true) : ∀ x ∈ v.cells, x.flat = true := by
  intro x hx
  cases v with
  | c y => simp only [AV.cells, List.mem_singleton] at hx; subst hx; simpa [AV.flat] using h
  | agg l => simp only [AV.flat, List.all_eq_true] at h; exact h x hx
  | tup l => simp [AV.flat] at h
theorem RA0.cellsF {w : World} {own : Own} {nm : Nm} {a : AV} {v : Value} (h : RA0 w own nm a v) (hf : a.flat = true) : All2 (RC w own nm) a.cells v.cells.toList :=
  h.cellsv fun x hx => by
    subst hx
    cases h with
    | c h => exact h.one (by simpa [AV.flat] using hf)
theorem intBin_ok {P : Program} {w : World} {op : BinOp} {k : IntKind} {x y : Int} {p : PV} {t : TypeId} (hs : ¬(op = .shl ∨ op = .shr)) (h : intBin op k x y = some p) :
    ∃ v, (binOp op t (.int k x) (.int k y)).run P w = .ok v w ∧ ∀ own, RP w own p v := by
  unfold intBin at h
  split at h <;> first
    | (simp only [Option.some.injEq] at h; subst h; exact ⟨_, by simp only [binOp, ne_eq, not_true_eq_false, if_false]; rfl, fun _ => .int _ _⟩)
    | (simp only [Option.some.injEq] at h; subst h; exact ⟨_, by simp only [binOp, ne_eq, not_true_eq_false, if_false]; rfl, fun _ => .bool _⟩)
    | (split at h
       · cases h
       · rename_i h0; cases h; exact ⟨_, by simp [binOp, Op.intDiv, h0], fun _ => .int _ _⟩)
    | cases h
theorem shiftBin_ok {P : Program} {w : World} {op : BinOp} {k k' : IntKind} {x y : Int} {p : PV} {t : TypeId} (hs : op = .shl ∨ op = .shr) (h : shiftBin op k x y = some p) :
    ∃ v, (binOp op t (.int k x) (.int k' y)).run P w = .ok v w ∧ ∀ own, RP w own p v := by
  unfold shiftBin at h
  split at h
  · cases h
  · rename_i hy
    rcases hs with rfl | rfl <;> simp at h <;> subst h
    · exact ⟨_, by simp [binOp, Op.shift, hy], fun _ => .int _ _⟩
    · exact ⟨_, by simp [binOp, Op.shift, hy], fun _ => .int _ _⟩
theorem strBin_ok {P : Program} {w : World} {op : BinOp} {x y : List UInt8} {p : PV} {t : TypeId} (h : strBin op x y = some p) :
    ∃ v, (binOp op t (.string ⟨x.toArray⟩) (.string ⟨y.toArray⟩)).run P w = .ok v w ∧ ∀ own, RP w own p v := by
  have hs : ∀ l : List UInt8, (⟨l.toArray⟩ : ByteArray).size = l.length := fun l => by simp [ByteArray.size]
  unfold strBin at h
  split at h
  · split at h
    · rename_i hl
      cases h
      refine ⟨.string ⟨(x ++ y).toArray⟩, ?_, fun _ => .str _⟩
      have h1 : ¬ (((⟨x.toArray⟩ : ByteArray).size + (⟨y.toArray⟩ : ByteArray).size : Nat) : Int) > IntKind.i64.max := by
        have : IntKind.i64.max = 9223372036854775807 := by decide
        rw [hs, hs, this]; omega
      have h2 : (⟨x.toArray⟩ : ByteArray) ++ ⟨y.toArray⟩ = ⟨(x ++ y).toArray⟩ := by
        apply ByteArray.ext; simp
      simp only [binOp, Op.stringOp, if_neg h1, h2, Sem.run_pure]
    · cases h
  · simp only [Option.some.injEq] at h; subst h
    exact ⟨_, by simp [binOp, Op.stringOp], fun _ => .bool _⟩
  · simp only [Option.some.injEq] at h; subst h
    exact ⟨_, by simp [binOp, Op.stringOp], fun _ => .bool _⟩
  · cases h
theorem eqGuard_ok {P : Program} {w : World} {op : BinOp} {t : TypeId} {x y : Operand} {a b : Value} (h1 : a ≠ .nilIface) (h2 : ∀ cs, a ≠ .agg cs) : (eqGuard op t x y a b).run P w = .ok () w := by
  cases a <;> first | (exact absurd rfl h1) | (exact absurd rfl (h2 _)) | (cases op <;> rfl)
theorem binV_ok {P : Program} {w : World} {own : Own} {nm : Nm} {op : BinOp} {x y v : AV} {vx vy : Value} {t : TypeId} {X Y : Operand} (hx : RA w own nm x vx) (hy : RA w own nm y vy) (h : binV op x y = some v) :
    ∃ r, (do eqGuard op t X Y vx vy; binOp op t vx vy).run P w = .ok r w ∧ RA w own nm v r := by
  unfold binV at h
  split at h
  · have e1 := hx.int; have e2 := hy.int; subst e1; subst e2
    split at h
    · rename_i hs
      obtain ⟨p, hp, rfl⟩ := Option.map_eq_some_iff.1 h
      rename_i k' _
      obtain ⟨r, h1, h2⟩ := shiftBin_ok (P := P) (w := w) (t := t) (k' := k') hs hp
      exact ⟨r, by simp [eqGuard_ok, h1], .ofP (h2 _)⟩
    · rename_i hs
      split at h
      · rename_i hk; subst hk
        obtain ⟨p, hp, rfl⟩ := Option.map_eq_some_iff.1 h
        obtain ⟨r, h1, h2⟩ := intBin_ok (P := P) (w := w) (t := t) hs hp
        exact ⟨r, by simp [eqGuard_ok, h1], .ofP (h2 _)⟩
      · cases h
  · have e1 := hx.str; have e2 := hy.str; subst e1; subst e2
    obtain ⟨p, hp, rfl⟩ := Option.map_eq_some_iff.1 h
    obtain ⟨r, h1, h2⟩ := strBin_ok (P := P) (w := w) (t := t) hp
    exact ⟨r, by simp [eqGuard_ok, h1], .ofP (h2 _)⟩
  · cases h
theorem unV_ok {P : Program} {w : World} {own : Own} {nm : Nm} {op : UnOp} {x v : AV} {vx : Value} (hx : RA w own nm x vx) (h : unV op x = some v) :
    ∃ r, (Op.unary op vx).run P w = .ok r w ∧ RA w own nm v r := by
  unfold unV at h
  split at h
  · have e1 := hx.int; subst e1
    cases h
    exact ⟨_, by simp [Op.unary, Op.intArith], .ofI _ _⟩
  · have e1 := hx.int; subst e1
    obtain ⟨p, hp, rfl⟩ := Option.map_eq_some_iff.1 h
    simp only [intBin, Option.some.injEq] at hp
    subst hp
    exact ⟨_, by simp only [Op.unary]; rfl, .ofI _ _⟩
  · have e1 := hx.bool; subst e1
    cases h
    exact ⟨_, by simp [Op.unary], .ofB _⟩
  · cases h
theorem run_eqneq {P : Program} {w : World} {t : TypeId} {x y : Value} {b : Bool} (h : (Op.equalIn (9999 + 1) t x y).run P w = .ok b w)
    (h1 : binOp .eql t x y = (do pure (.bool (← Op.equal t x y)))) (h2 : binOp .neq t x y = (do pure (.bool (!(← Op.equal t x y))))) (op : BinOp) (ho : op = .eql ∨ op = .neq) :
    (binOp op t x y).run P w = .ok (.bool (if (op == .neq) then !b else b)) w := by
  have h' : (Op.equal t x y).run P w = .ok b w := h
  rcases ho with rfl | rfl
  · rw [h1]; simp [h']
  · rw [h2]; simp [h']
theorem eqBV_ok {P : Program} {w : World} {own : Own} {nm : Nm} {op : BinOp} {x y v : AV} {vx vy : Value} {t : TypeId} {X Y : Operand} (ht : P.underlying t = some .bool) (ho : op = .eql ∨ op = .neq) (hx : RA w own nm x vx) (hy : RA w own nm y vy)
    (h : eqBV (op == .neq) x y = some v) : ∃ r, (do eqGuard op t X Y vx vy; binOp op t vx vy).run P w = .ok r w ∧ RA w own nm v r := by
  unfold eqBV at h
  split at h
  · rename_i a b
    have e1 := hx.bool; have e2 := hy.bool; subst e1; subst e2
    cases h
    have hr := run_eqneq (run_equalIn_bool (P := P) w 9999 t a b ht) rfl rfl op ho
    exact ⟨_, by simp only [Sem.run_bind, eqGuard_ok (x := X) (y := Y) (op := op) (t := t) (P := P) (w := w) (a := .bool a) (b := .bool b) (by simp) (by simp), Result.andThen_ok, hr], .ofB _⟩
  · cases h
def tagOk : Nat → TypeDesc → Prop
  | 0, .slice _ => True
  | 1, .pointer _ => True
  | 2, .func _ _ _ => True
  | 3, .map _ _ => True
  | _, _ => False
theorem eqNV_ok {P : Program} {w : World} {own : Own} {nm : Nm} {op : BinOp} {tag : Nat} {x y v : AV} {vx vy : Value} {t : TypeId} {X Y : Operand} {d : TypeDesc} (ht : P.underlying t = some d) (hd : tagOk tag d) (ho : op = .eql ∨ op = .neq)
    (hx : RA w own nm x vx) (hy : RA w own nm y vy) (h : eqNV tag (op == .neq) x y = some v) : ∃ r, (do eqGuard op t X Y vx vy; binOp op t vx vy).run P w = .ok r w ∧ RA w own nm v r := by
  unfold eqNV at h
  split at h
  · rename_i x y
    obtain ⟨b, hb, rfl⟩ := Option.map_eq_some_iff.1 h
    have hx := hx.cv; have hy := hy.cv
    have fin : ∀ (e : ∀ d, (Op.equalIn (d + 1) t vx vy).run P w = .ok b w) (h1 : binOp .eql t vx vy = (do pure (.bool (← Op.equal t vx vy)))) (h2 : binOp .neq t vx vy = (do pure (.bool (!(← Op.equal t vx vy)))))
        (g1 : vx ≠ .nilIface) (g2 : ∀ cs, vx ≠ .agg cs), ∃ r, (do eqGuard op t X Y vx vy; binOp op t vx vy).run P w = .ok r w ∧ RA w own nm (.b (if (op == .neq) then !b else b)) r := fun e h1 h2 g1 g2 =>
      ⟨_, by simp only [Sem.run_bind, eqGuard_ok (x := X) (y := Y) (op := op) (t := t) (P := P) (w := w) (a := vx) (b := vy) g1 g2, Result.andThen_ok, run_eqneq (e 9999) h1 h2 op ho], .ofB _⟩
    unfold CV.nilEq at hb
    split at hb <;> simp only [Option.some.injEq, reduceCtorEq] at hb <;> subst hb
    · cases d <;> simp only [tagOk] at hd
      obtain ⟨a, cap, rfl, hs⟩ := (RA.ofC hx).pv.slv
      obtain ⟨a', cap', rfl, hs'⟩ := (RA.ofC hy).pv.slv
      have ha' := hs'.nil rfl; subst ha'
      obtain ⟨he', hc'⟩ := hs'.z rfl
      subst he'; subst hc'
      refine fin (fun d => ?_) rfl rfl (by simp) (by simp)
      rename_i o _ _ _ _ _ _
      cases a with
      | none =>
        have : o = .nil := Classical.byContradiction fun hn => hs.nn hn rfl
        subst this
        simp [Op.equalIn, run_und ht]
      | some ad =>
        have : o ≠ .nil := fun hn => by have := hs.nil hn; cases this
        have hf : (o == SO.nil) = false := by simpa using this
        simp [Op.equalIn, run_und ht, hf]
    · cases d <;> simp only [tagOk] at hd
      obtain ⟨a', cap', rfl, hs'⟩ := (RA.ofC hy).pv.slv
      cases hx with | own i sz es g cap _ _ _ _ =>
      have ha' := hs'.nil rfl; subst ha'
      obtain ⟨he', hc'⟩ := hs'.z rfl
      subst he'; subst hc'
      exact fin (fun d => by simp [Op.equalIn, run_und ht]) rfl rfl (by simp) (by simp)
    · cases d <;> simp only [tagOk] at hd
      obtain ⟨a', cap', rfl, hs'⟩ := (RA.ofC hy).pv.slv
      cases hx with | ms k off sz n g cap _ _ _ _ _ =>
      have ha' := hs'.nil rfl; subst ha'
      obtain ⟨he', hc'⟩ := hs'.z rfl
      subst he'; subst hc'
      exact fin (fun d => by simp [Op.equalIn, run_und ht]) rfl rfl (by simp) (by simp)
    all_goals
      cases d <;> simp only [tagOk] at hd
      cases hx <;> cases hy
      exact fin (fun d => by simp [Op.equalIn, run_und ht]) rfl rfl (by simp) (by simp)
  · cases h
end Go.Sx
