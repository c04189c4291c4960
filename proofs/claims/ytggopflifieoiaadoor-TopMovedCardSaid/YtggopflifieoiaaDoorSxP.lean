/- Operations that see their operands alone, and leave memory as it is. -/
import Derived.Test.YtggopflifieoiaaDoorSxMem
namespace Go.Sx
open Go
def Stays (P : Program) (w : World) (own : Own) (nm : Nm) (ρ : Operand → Value) (o : Oper) (v : AV) : Prop :=
  ∃ r, (execOp ρ o).run P w = .ok (.value r) w ∧ RA w own nm v r
section
variable {P : Program} {w : World} {own : Own} {nm : Nm} {tm : List AV} {a : Act}
variable [GOk w own]
theorem optI_ok (ht : All2 (RA w own nm) tm a.tmps.toList) {x : Operand} {X : XArg} (h : cArg x = some X) {n : Int} (hn : asI (getA tm X) = some n) : ∃ k, a.eval x = .int k n := by
  have hr := arg_ok ht h
  unfold asI at hn
  split at hn
  · rename_i k m e
    cases hn
    rw [e] at hr
    exact ⟨k, hr.int⟩
  · cases hn
theorem mv_ok (ht : All2 (RA w own nm) tm a.tmps.toList) {o : Oper} {x : Operand} {X : XArg} (ho : o.op = .move x ∨ o.op = .assign x) (hx : cArg x = some X) : Stays P w own nm a.eval o (getA tm X) :=
  ⟨a.eval x, by rcases ho with ho | ho <;> simp [execOp, ho], arg_ok ht hx⟩
theorem pick_ok (ht : All2 (RA w own nm) tm a.tmps.toList) {o : Oper} {c x y : Operand} {C X Y : XArg} (ho : o.op = .pick c x y) (hc : cArg c = some C) (hx : cArg x = some X) (hy : cArg y = some Y) {b : Bool}
    (hb : getA tm C = .b b) : Stays P w own nm a.eval o (if b then getA tm X else getA tm Y) := by
  have h1 := arg_ok ht hc
  rw [hb] at h1
  have h1 := h1.bool
  refine ⟨if b then a.eval x else a.eval y, by simp [execOp, ho, h1, asBool], ?_⟩
  cases b
  · exact arg_ok ht hy
  · exact arg_ok ht hx
theorem nilc_ok (ht : All2 (RA w own nm) tm a.tmps.toList) {o : Oper} {x : Operand} {X : XArg} (ho : o.op = .nilCheck x) (hx : cArg x = some X)
    (h : (∃ k q, getA tm X = .c (.ptr k q)) ∨ (∃ l q, getA tm X = .c (.cptr l q)) ∨ (∃ f cs, getA tm X = .c (.fn f cs))) : Stays P w own nm a.eval o (getA tm X) := by
  have h1 := arg_ok ht hx
  refine ⟨a.eval x, ?_, h1⟩
  rcases h with ⟨k, q, e⟩ | ⟨l, q, e⟩ | ⟨f, cs, e⟩ <;> rw [e] at h1
  · obtain ⟨g, e1, _⟩ := h1.cv.ptrv
    simp [execOp, ho, e1]
  · obtain ⟨g, o', us, e1, _⟩ := h1.cv.cptrv
    simp [execOp, ho, e1]
  · obtain ⟨us, e1, _⟩ := h1.cv.fnv
    simp [execOp, ho, e1]
theorem faddr_ok (ht : All2 (RA w own nm) tm a.tmps.toList) {o : Oper} {s : TypeId} {x : Operand} {f : Nat} {X : XArg} {fs : Array Field} {fl : Field} {n : Nat} (ho : o.op = .fieldAddr s x f) (hu : P.underlying s = some (.struct fs)) (hx : cArg x = some X)
    (hf : fs[f]? = some fl) (hn : sizeT P fl.type = some n) (h0 : n ≠ 0) {v : AV} {call : Oracle} (hv : evP call (.faddr fl.offset X) tm = some v) : Stays P w own nm a.eval o v := by
  have h1 := arg_ok ht hx
  simp only [evP] at hv
  have key : ∀ g q, a.eval x = .pointer (some ⟨g, q, none⟩) → (execOp a.eval o).run P w = .ok (.value (.pointer (some ⟨g, q + fl.offset, none⟩))) w := by
    intro g q e
    simp [execOp, ho, e, Instr.fieldAt, run_und hu, hf, Instr.sureAddr, fieldPlace, run_size hn, h0, addrAdd]
  split at hv
  · rename_i k q e
    cases hv
    rw [e] at h1
    obtain ⟨g, e1, hk⟩ := h1.cv.ptrv
    exact ⟨_, key _ _ e1, .ofC (.ptr k (q + fl.offset) g hk)⟩
  · rename_i l q e
    cases hv
    rw [e] at h1
    obtain ⟨g, o', us, e1, h2⟩ := h1.cv.cptrv
    refine ⟨_, key _ _ e1, ?_⟩
    rw [Nat.add_assoc]
    exact .ofC (.cptr l (q + fl.offset) g o' us h2)
  · cases hv
theorem fld_ok (ht : All2 (RA w own nm) tm a.tmps.toList) {o : Oper} {s : TypeId} {x : Operand} {f : Nat} {X : XArg} {fs : Array Field} {fl : Field} {n : Nat} {ag : Bool} (ho : o.op = .field s x f) (hu : P.underlying s = some (.struct fs)) (hx : cArg x = some X)
    (hf : fs[f]? = some fl) (hn : sizeT P fl.type = some n) (hag : isAggD (P.underlying fl.type) = some ag) {m : Nat} (hm : m = if ag then n else 1) {v : AV} {call : Oracle} (hv : evP call (.fld ag fl.offset m X) tm = some v) : Stays P w own nm a.eval o v := by
  have h1 := arg_ok ht hx
  simp only [evP] at hv
  split at hv
  · rename_i cs e
    rw [e] at h1
    obtain ⟨us, e1, h2⟩ := h1.aggv
    split at hv
    · rename_i l hl
      obtain ⟨h3, h4⟩ := takeB_all2 h2 m fl.offset l hl
      cases ag with
      | true =>
        have hm : m = n := by simpa using hm
        subst hm
        simp only [if_true] at hv
        cases hv
        refine ⟨.agg ((us.drop fl.offset).take m).toArray, ?_, .of (.agg _ _ h4)⟩
        simp [execOp, ho, e1, Instr.field, run_und hu, hf, asAgg, run_part_agg hag hn]
      | false =>
        have hm : m = 1 := by simpa using hm
        subst hm
        simp only [if_false, Bool.false_eq_true] at hv
        split at hv
        · cases hv
          obtain ⟨u, us', e2, h5, _⟩ := All2.of_cons h4
          have hu' : us.toArray[fl.offset]? = some u := by
            have := congrArg (·[0]?) e2
            simpa [List.getElem?_take, List.getElem?_drop] using this
          exact ⟨u, by simp [execOp, ho, e1, Instr.field, run_und hu, hf, asAgg, run_part_cell hag hu'], .ofC h5⟩
        · cases hv
    · cases hv
  · cases hv
omit [GOk w own] in
theorem asI_ok {x : AV} {v : Value} (h : RA w own nm x v) {n : Int} (hn : asI x = some n) : ∃ k, v = .int k n := by
  unfold asI at hn
  split at hn
  · cases hn; exact ⟨_, h.int⟩
  · cases hn
theorem iaddrS_ok (ht : All2 (RA w own nm) tm a.tmps.toList) {o : Oper} {t e : TypeId} {x i : Operand} {X I : XArg} {sz : Nat} (ho : o.op = .indexAddr t x i) (hu : P.underlying t = some (.slice e)) (hx : cArg x = some X) (hi : cArg i = some I)
    (hs : sizeT P e = some sz) {v : AV} {call : Oracle} (hv : evP call (.iaddrS sz X I) tm = some v) : Stays P w own nm a.eval o v := by
  have h1 := arg_ok ht hx
  have h2 := arg_ok ht hi
  simp only [evP] at hv
  have key : ∀ (ad : Addr) (n cap : Nat) (k : IntKind) (j : Int), a.eval x = .slice (some ad) n cap → a.eval i = .int k j → 0 ≤ j → j < n → (execOp a.eval o).run P w = .ok (.value (.pointer (some (ad.add (j.toNat * sz))))) w := by
    intro ad n cap k j e1 e2 hj0 hj
    simp [execOp, ho, e1, e2, Instr.indexAt, asIntOf, run_und hu, run_size hs, hj0, hj]
  split at hv
  · rename_i k off s n j e1 e2
    split at hv
    · rename_i hc
      obtain ⟨rfl, hj0, hj⟩ := hc
      cases hv
      rw [e1] at h1
      obtain ⟨g, cap, e3, hk, _⟩ := h1.cv.msv
      obtain ⟨k', e4⟩ := asI_ok h2 e2
      refine ⟨_, key _ _ _ _ _ e3 e4 hj0 hj, ?_⟩
      rw [addrAdd]
      exact .ofC (.ptr k _ g hk)
    · cases hv
  · rename_i y j e1 e2
    split at hv
    · rename_i es hes
      split at hv
      · rename_i hj0
        split at hv
        · rename_i el hel
          cases hv
          rw [e1] at h1
          obtain ⟨so, sz', ad, cap, e3, hs1, hx1⟩ := slEs_ok h1.cv hes
          obtain ⟨k', e4⟩ := asI_ok h2 e2
          have hlt := (List.getElem?_eq_some_iff.1 hel).1
          obtain ⟨ad', rfl, hr⟩ := elem_cptr (nm := nm) hs1 hel
          rcases szOk_ok hx1 hj0.2 with h | h
          · have := hs1.nil h; cases this
          · subst h
            exact ⟨_, key _ _ _ _ _ e3 e4 hj0.1 (by omega), .ofC hr⟩
        · cases hv
      · cases hv
    · cases hv
  · cases hv
theorem iaddrA_ok (ht : All2 (RA w own nm) tm a.tmps.toList) {o : Oper} {t e : TypeId} {x i : Operand} {X I : XArg} {len sz : Nat} (ho : o.op = .indexAddr t x i) (hu : P.underlying t = some (.array len e)) (hx : cArg x = some X) (hi : cArg i = some I)
    (hs : sizeT P e = some sz) {v : AV} {call : Oracle} (hv : evP call (.iaddrA len sz X I) tm = some v) : Stays P w own nm a.eval o v := by
  have h1 := arg_ok ht hx
  have h2 := arg_ok ht hi
  simp only [evP] at hv
  have key : ∀ (g q : Nat) (k : IntKind) (j : Int), a.eval x = .pointer (some ⟨g, q, none⟩) → a.eval i = .int k j → 0 ≤ j → j < len → (execOp a.eval o).run P w = .ok (.value (.pointer (some ⟨g, q + j.toNat * sz, none⟩))) w := by
    intro g q k j e1 e2 hj0 hj
    simp [execOp, ho, e1, e2, Instr.indexAt, asIntOf, run_und hu, run_size hs, hj0, hj, Instr.sureAddr, addrAdd]
  split at hv
  · rename_i k q j e1 e2
    split at hv
    · rename_i hc
      cases hv
      rw [e1] at h1
      obtain ⟨g, e3, hk⟩ := h1.cv.ptrv
      obtain ⟨k', e4⟩ := asI_ok h2 e2
      exact ⟨_, key _ _ _ _ e3 e4 hc.1 hc.2, .ofC (.ptr k _ g hk)⟩
    · cases hv
  · rename_i l q j e1 e2
    split at hv
    · rename_i hc
      cases hv
      rw [e1] at h1
      obtain ⟨g, o', us, e3, h3⟩ := h1.cv.cptrv
      obtain ⟨k', e4⟩ := asI_ok h2 e2
      refine ⟨_, key _ _ _ _ e3 e4 hc.1 hc.2, ?_⟩
      rw [Nat.add_assoc]
      exact .ofC (.cptr l _ g o' us h3)
    · cases hv
  · cases hv
theorem idxS_ok (ht : All2 (RA w own nm) tm a.tmps.toList) {o : Oper} {t : TypeId} {x i : Operand} {X I : XArg} (ho : o.op = .index t x i) (hu : P.underlying t = some .string) (hx : cArg x = some X) (hi : cArg i = some I)
    {v : AV} {call : Oracle} (hv : evP call (.idxS X I) tm = some v) : Stays P w own nm a.eval o v := by
  have h1 := arg_ok ht hx
  have h2 := arg_ok ht hi
  simp only [evP] at hv
  split at hv
  · rename_i l j e1 e2
    split at hv
    · rename_i hj0
      split at hv
      · rename_i b hb
        cases hv
        rw [e1] at h1
        have e3 := h1.str
        obtain ⟨k', e4⟩ := asI_ok h2 e2
        refine ⟨.int .u8 (b.toNat : Int), ?_, .ofI _ _⟩
        have hb' : (⟨l.toArray⟩ : ByteArray)[j.toNat]? = some b := by
          have hlt := (List.getElem?_eq_some_iff.1 hb).1
          have hsz : (⟨l.toArray⟩ : ByteArray).size = l.length := by simp [ByteArray.size]
          rw [ByteArray.getElem?_lt' _ _ (by rw [hsz]; exact hlt)]
          have := (List.getElem?_eq_some_iff.1 hb).2
          simp only [Option.some.injEq]
          rw [← this]
          rfl
        simp [execOp, ho, e3, e4, Instr.index, asIntOf, run_und hu, hj0, hb']
      · cases hv
    · cases hv
  · cases hv
theorem idxA_ok (ht : All2 (RA w own nm) tm a.tmps.toList) {o : Oper} {t e : TypeId} {x i : Operand} {X I : XArg} {len sz m : Nat} {ag : Bool} (ho : o.op = .index t x i) (hu : P.underlying t = some (.array len e)) (hx : cArg x = some X) (hi : cArg i = some I)
    (hs : sizeT P e = some sz) (hag : isAggD (P.underlying e) = some ag) (hm : m = sz) (h1' : ag = false → sz = 1) {v : AV} {call : Oracle} (hv : evP call (.idxA len ag m X I) tm = some v) : Stays P w own nm a.eval o v := by
  have h1 := arg_ok ht hx
  have h2 := arg_ok ht hi
  subst hm
  simp only [evP] at hv
  split at hv
  · rename_i cs j e1 e2
    split at hv
    · rename_i hc
      rw [e1] at h1
      obtain ⟨us, e3, h3⟩ := h1.aggv
      obtain ⟨k', e4⟩ := asI_ok h2 e2
      split at hv
      · rename_i l hl
        obtain ⟨h4, h5⟩ := takeB_all2 h3 m (j.toNat * m) l hl
        cases ag with
        | true =>
          simp only [if_true] at hv
          cases hv
          refine ⟨.agg ((us.drop (j.toNat * m)).take m).toArray, ?_, .of (.agg _ _ h5)⟩
          simp [execOp, ho, e3, e4, Instr.index, asIntOf, run_und hu, run_size hs, hc.1, hc.2, run_part_agg hag hs]
        | false =>
          have := h1' rfl
          subst this
          simp only [if_false, Bool.false_eq_true] at hv
          split at hv
          · cases hv
            obtain ⟨u, us', e5, h6, _⟩ := All2.of_cons h5
            have hu' : us.toArray[j.toNat * 1]? = some u := by
              have := congrArg (·[0]?) e5
              simpa [List.getElem?_take, List.getElem?_drop] using this
            rw [Nat.mul_one] at hu'
            exact ⟨u, by simp [execOp, ho, e3, e4, Instr.index, asIntOf, run_und hu, run_size hs, hc.1, hc.2, run_part_cell hag hu'], .ofC h6⟩
          · cases hv
      · cases hv
    · cases hv
  · cases hv
theorem extr_ok (ht : All2 (RA w own nm) tm a.tmps.toList) {o : Oper} {x : Operand} {i : Nat} {X : XArg} (ho : o.op = .extract x i) (hx : cArg x = some X) {v : AV} {call : Oracle} (hv : evP call (.extr i X) tm = some v) : Stays P w own nm a.eval o v := by
  have h1 := arg_ok ht hx
  simp only [evP] at hv
  split at hv
  · rename_i vs e
    rw [e] at h1
    obtain ⟨us, e1, h2⟩ := h1.tupv
    split at hv
    · rename_i y hy
      cases hv
      obtain ⟨u, hu, h3⟩ := h2.get hy
      exact ⟨u, by simp [execOp, ho, e1, Instr.extract, hu], .of h3⟩
    · cases hv
  · cases hv
theorem run_len {o : Oper} {x : Operand} {t : TypeId} {c : Call} (ho : o.op = .call c) (hc1 : c.callee = .builtin .len) (hc2 : c.args = #[x]) (hc3 : c.argTypes = #[t]) {v : Value}
    (hl : (Builtin.len_ #[t] o.type #[a.eval x]).run P w = .ok v w) : (execOp a.eval o).run P w = .ok (.value v) w := by
  simp only [execOp, ho, resolve, hc1, hc2, hc3, Sem.run_bind, Sem.run_pure, Result.andThen_ok, invoke, builtin]
  simp [hl]
theorem lenS_ok (ht : All2 (RA w own nm) tm a.tmps.toList) {o : Oper} {x : Operand} {X : XArg} {t : TypeId} {c : Call} (ho : o.op = .call c) (hc1 : c.callee = .builtin .len) (hc2 : c.args = #[x]) (hc3 : c.argTypes = #[t])
    (hu : P.underlying t = some .string) (hx : cArg x = some X) {v : AV} {call : Oracle} (hv : evP call (.lenS X) tm = some v) : Stays P w own nm a.eval o v := by
  have h1 := arg_ok ht hx
  simp only [evP] at hv
  split at hv
  · rename_i l e
    cases hv
    rw [e] at h1
    have e1 := h1.str
    refine ⟨.int .i64 l.length, run_len ho hc1 hc2 hc3 ?_, .ofI _ _⟩
    have hsz : (⟨l.toArray⟩ : ByteArray).size = l.length := by simp [ByteArray.size]
    simp [Builtin.len_, e1, run_und hu, goInt, hsz]
  · cases hv
theorem len_ok (ht : All2 (RA w own nm) tm a.tmps.toList) {o : Oper} {x : Operand} {X : XArg} {t e : TypeId} {c : Call} (ho : o.op = .call c) (hc1 : c.callee = .builtin .len) (hc2 : c.args = #[x]) (hc3 : c.argTypes = #[t])
    (hu : P.underlying t = some (.slice e)) (hx : cArg x = some X) {v : AV} {call : Oracle} (hv : evP call (.len X) tm = some v) : Stays P w own nm a.eval o v := by
  have h1 := arg_ok ht hx
  simp only [evP] at hv
  have key : ∀ ad n cap, a.eval x = .slice ad n cap → (execOp a.eval o).run P w = .ok (.value (.int .i64 n)) w := fun ad n cap e1 =>
    run_len ho hc1 hc2 hc3 (by simp [Builtin.len_, e1, run_und hu, goInt])
  split at hv
  · rename_i k off sz n e
    cases hv
    rw [e] at h1
    obtain ⟨g, cap, e1, _⟩ := h1.cv.msv
    exact ⟨_, key _ _ _ e1, .ofI _ _⟩
  · rename_i y hne e
    rw [e] at h1
    obtain ⟨es, hes, rfl⟩ := Option.map_eq_some_iff.1 hv
    obtain ⟨so, sz, ad, cap, e1, _⟩ := slEs_ok h1.cv hes
    exact ⟨_, key _ _ _ e1, .ofI _ _⟩
  · cases hv
theorem foldI_min {P : Program} {w : World} {own : Own} {nm : Nm} {k : IntKind} : ∀ {l : List AV} {us : List Value} {m : Int} {v : AV}, All2 (RA w own nm) l us → foldI (fun m b => if b < m then b else m) k m l = some v →
    ∃ r, (us.foldlM Builtin.min2 (.int k m)).run P w = .ok r w ∧ RA w own nm v r
  | [], us, m, v, h, hv => by
    rw [All2.of_nil h]
    simp only [foldI, Option.some.injEq] at hv
    subst hv
    exact ⟨_, rfl, .ofI _ _⟩
  | y :: l, us, m, v, h, hv => by
    obtain ⟨u, us', rfl, h1, h2⟩ := All2.of_cons h
    unfold foldI at hv
    split at hv
    · rename_i e; cases e
    · rename_i b r e
      cases e
      have := h1.int; subst this
      obtain ⟨r', h3, h4⟩ := foldI_min (P := P) h2 hv
      exact ⟨r', by simp [List.foldlM_cons, Builtin.min2, h3], h4⟩
    · cases hv
theorem foldI_max {P : Program} {w : World} {own : Own} {nm : Nm} {k : IntKind} : ∀ {l : List AV} {us : List Value} {m : Int} {v : AV}, All2 (RA w own nm) l us → foldI (fun m b => if m < b then b else m) k m l = some v →
    ∃ r, (us.foldlM Builtin.max2 (.int k m)).run P w = .ok r w ∧ RA w own nm v r
  | [], us, m, v, h, hv => by
    rw [All2.of_nil h]
    simp only [foldI, Option.some.injEq] at hv
    subst hv
    exact ⟨_, rfl, .ofI _ _⟩
  | y :: l, us, m, v, h, hv => by
    obtain ⟨u, us', rfl, h1, h2⟩ := All2.of_cons h
    unfold foldI at hv
    split at hv
    · rename_i e; cases e
    · rename_i b r e
      cases e
      have := h1.int; subst this
      obtain ⟨r', h3, h4⟩ := foldI_max (P := P) h2 hv
      exact ⟨r', by simp [List.foldlM_cons, Builtin.max2, h3], h4⟩
    · cases hv
theorem minI_ok (ht : All2 (RA w own nm) tm a.tmps.toList) {o : Oper} {Xs : List XArg} {c : Call} (ho : o.op = .call c) (hc1 : c.callee = .builtin .min) (hx : cList cArg c.args.toList = some Xs) {v : AV} {call : Oracle} (hv : evP call (.minI Xs) tm = some v) : Stays P w own nm a.eval o v := by
  have h1 := args_ok ht hx
  simp only [evP] at hv
  split at hv
  · rename_i k m r e
    rw [e] at h1
    obtain ⟨u, us, e1, h2, h3⟩ := All2.of_cons h1
    have := h2.int; subst this
    obtain ⟨q, h4, h5⟩ := foldI_min (P := P) h3 hv
    refine ⟨q, ?_, h5⟩
    have e2 : (c.args.map a.eval).toList = .int k m :: us := by rw [Array.toList_map]; exact e1
    simp only [execOp, ho, resolve, hc1, Sem.run_bind, Sem.run_pure, Result.andThen_ok, invoke, builtin, Builtin.min_, e2]
    simp [h4]
  · cases hv
theorem maxI_ok (ht : All2 (RA w own nm) tm a.tmps.toList) {o : Oper} {Xs : List XArg} {c : Call} (ho : o.op = .call c) (hc1 : c.callee = .builtin .max) (hx : cList cArg c.args.toList = some Xs) {v : AV} {call : Oracle} (hv : evP call (.maxI Xs) tm = some v) : Stays P w own nm a.eval o v := by
  have h1 := args_ok ht hx
  simp only [evP] at hv
  split at hv
  · rename_i k m r e
    rw [e] at h1
    obtain ⟨u, us, e1, h2, h3⟩ := All2.of_cons h1
    have := h2.int; subst this
    obtain ⟨q, h4, h5⟩ := foldI_max (P := P) h3 hv
    refine ⟨q, ?_, h5⟩
    have e2 : (c.args.map a.eval).toList = .int k m :: us := by rw [Array.toList_map]; exact e1
    simp only [execOp, ho, resolve, hc1, Sem.run_bind, Sem.run_pure, Result.andThen_ok, invoke, builtin, Builtin.max_, e2]
    simp [h4]
  · cases hv
theorem convI_ok (ht : All2 (RA w own nm) tm a.tmps.toList) {o : Oper} {x : Operand} {X : XArg} {s d : TypeId} {k ks : IntKind} (ho : o.op = .convert s d x) (hs : P.underlying s = some (.int ks)) (hd : P.underlying d = some (.int k)) (hx : cArg x = some X) {v : AV} {call : Oracle}
    (hv : evP call (.convI k X) tm = some v) : Stays P w own nm a.eval o v := by
  have h1 := arg_ok ht hx
  simp only [evP] at hv
  split at hv
  · rename_i k' n e
    cases hv
    rw [e] at h1
    have e1 := h1.int
    exact ⟨_, by simp [execOp, ho, e1, convert, run_und hs, run_und hd, Conv.intToInt], .ofI _ _⟩
  · cases hv
theorem convS_ok (ht : All2 (RA w own nm) tm a.tmps.toList) {o : Oper} {x : Operand} {X : XArg} {s d : TypeId} (ho : o.op = .convert s d x) (hs : P.underlying s = some .string) (hd : P.underlying d = some .string) (hx : cArg x = some X) {v : AV} {call : Oracle}
    (hv : evP call (.convS X) tm = some v) : Stays P w own nm a.eval o v := by
  have h1 := arg_ok ht hx
  simp only [evP] at hv
  split at hv
  · rename_i l e
    cases hv
    rw [e] at h1
    have e1 := h1.str
    exact ⟨_, by simp [execOp, ho, e1, convert, run_und hs, run_und hd], .ofS _⟩
  · cases hv
theorem bytesS_ok (ht : All2 (RA w own nm) tm a.tmps.toList) {o : Oper} {x : Operand} {X : XArg} {s d e : TypeId} (ho : o.op = .convert s d x) (hs : P.underlying s = some (.slice e)) (he : P.underlying e = some (.int .u8)) (hd : P.underlying d = some .string) (hx : cArg x = some X) {v : AV} {call : Oracle}
    (hv : evP call (.bytesS X) tm = some v) : Stays P w own nm a.eval o v := by
  have h1 := arg_ok ht hx
  simp only [evP] at hv
  split at hv
  · rename_i y e0
    rw [e0] at h1
    split at hv
    · rename_i es hes
      obtain ⟨l, hl, rfl⟩ := Option.map_eq_some_iff.1 hv
      obtain ⟨so, sz, ad, cap, e1, hs1, _⟩ := slEs_ok h1.cv hes
      have := bytes_ok hs1 hl hs he hd
      exact ⟨_, by simp [execOp, ho, e1, this], .ofS _⟩
    · cases hv
  · cases hv
theorem capKeys_ok (ht : All2 (RA w own nm) tm a.tmps.toList) : ∀ {xs : List Operand} {Xs : List XArg} {ks : List Nat}, cList cArg xs = some Xs → capKeys tm Xs = some ks →
    (xs.map a.eval).length = ks.length ∧ ∀ (i k : Nat) (u : Value), ks[i]? = some k → (xs.map a.eval)[i]? = some u → ∃ g, nm.adr[k]? = some g ∧ u = .pointer (some ⟨g, 0, none⟩)
  | [], Xs, ks, h, hk => by
    simp only [cList, Option.some.injEq] at h; subst h
    simp only [capKeys, Option.some.injEq] at hk; subst hk
    exact ⟨rfl, fun i k u h => by simp at h⟩
  | x :: xs, Xs, ks, h, hk => by
    simp only [cList] at h
    split at h
    · rename_i X Xs' hX hXs
      cases h
      simp only [capKeys] at hk
      split at hk
      · rename_i k l e hl
        cases hk
        obtain ⟨h1, h2⟩ := capKeys_ok ht hXs hl
        have h3 := arg_ok ht hX
        rw [e] at h3
        obtain ⟨g, e1, hg⟩ := h3.cv.ptrv
        refine ⟨by simpa using h1, fun i k' u hi hu => ?_⟩
        cases i with
        | zero => simp at hi hu; subst hi; subst hu; exact ⟨g, hg, e1⟩
        | succ i => exact h2 i k' u (by simpa using hi) (by simpa using hu)
      · cases hk
    · cases h
theorem mkfn_ok (ht : All2 (RA w own nm) tm a.tmps.toList) {o : Oper} {f : Nat} {first caps : Array Operand} {Xs : List XArg} (ho : o.op = .makeFunc (.func f) first caps) (hf : first.size = 0) (hx : cList cArg caps.toList = some Xs) {v : AV} {call : Oracle}
    (hv : evP call (.mkfn f Xs) tm = some v) : Stays P w own nm a.eval o v := by
  simp only [evP] at hv
  obtain ⟨ks, hk, rfl⟩ := Option.map_eq_some_iff.1 hv
  obtain ⟨h1, h2⟩ := capKeys_ok ht hx hk
  have hf' : first = #[] := by simpa using hf
  subst hf'
  refine ⟨.func (.func f) #[] (caps.toList.map a.eval).toArray, ?_, .ofC (.fn f ks _ h1 h2)⟩
  have : (List.map a.eval caps.toList).toArray = caps.map a.eval := by apply Array.ext'; simp
  simp [execOp, ho, Instr.makeFunc, ← this]
theorem eqA_ok (ht : All2 (RA w own nm) tm a.tmps.toList) {o : Oper} {op : BinOp} {t t' : TypeId} {x y : Operand} {X Y : XArg} {ks : List Nat} (ho : o.op = .binOp op t x y t') (hop : op = .eql ∨ op = .neq) (hx : cArg x = some X) (hy : cArg y = some Y)
    (hag : isAggD (P.underlying t) = some true) (hk : flatK P 20 t = some ks) (hg : P.eqGuardType P.depth t = false) {v : AV} {call : Oracle} (hv : evP call (.eqA (op == .neq) ks X Y) tm = some v) : Stays P w own nm a.eval o v := by
  have h1 := arg_ok ht hx
  have h2 := arg_ok ht hy
  simp only [evP] at hv
  split at hv
  · rename_i l m e1 e2
    rw [e1] at h1; rw [e2] at h2
    obtain ⟨us, f1, g1⟩ := h1.aggv
    obtain ⟨vs, f2, g2⟩ := h2.aggv
    obtain ⟨b, hb, rfl⟩ := Option.map_eq_some_iff.1 hv
    have := agg_eq (P := P) (w := w) 20 t ks hk hag 10000 (by omega) l m us.toArray vs.toArray b (by simpa using g1) (by simpa using g2) hb
    refine ⟨_, ?_, .ofB _⟩
    rcases hop with rfl | rfl
    · simp [execOp, ho, f1, f2, run_eqGuard_agg (P := P) w _ t x y us.toArray vs.toArray hg, run_eql_struct, this]
    · simp [execOp, ho, f1, f2, run_eqGuard_agg (P := P) w _ t x y us.toArray vs.toArray hg, run_neq_struct, this]
  · cases hv
theorem bound_val {P : Program} {w : World} {k : IntKind} {n : Int} {y : Nat} {c : BoundsCode} (h0 : 0 ≤ n) (h1 : n ≤ y) : (Instr.sliceBound (.int k n) y c).run P w = .ok n.toNat w := by
  simp [Instr.sliceBound, asIntOf, h0, h1]
theorem optB (ht : All2 (RA w own nm) tm a.tmps.toList) {x : Option Operand} {X : Option XArg} (hX : cOpt x = some X) {d n : Int} (hn : optI tm X d = some n) : (x = none ∧ n = d) ∨ ∃ y k, x = some y ∧ a.eval y = .int k n := by
  cases x with
  | none => simp only [cOpt, Option.some.injEq] at hX; subst hX; simp only [optI, Option.some.injEq] at hn; exact .inl ⟨rfl, hn.symm⟩
  | some y =>
    simp only [cOpt] at hX
    obtain ⟨Y, hY, rfl⟩ := Option.map_eq_some_iff.1 hX
    obtain ⟨k, hk⟩ := optI_ok ht hY hn
    exact .inr ⟨y, k, rfl, hk⟩
theorem bounds2 (ht : All2 (RA w own nm) tm a.tmps.toList) {lo hi : Option Operand} {LO HI : Option XArg} (hlo : cOpt lo = some LO) (hhi : cOpt hi = some HI) {p q : Int} {len cap : Nat} {isS : Bool} (hp : optI tm LO 0 = some p) (hq : optI tm HI len = some q)
    (h0 : 0 ≤ p) (h1 : p ≤ q) (h2 : q ≤ len) (hc : len ≤ cap) : (Instr.sliceBounds isS len cap (lo.map a.eval) (hi.map a.eval) none).run P w = .ok (p.toNat, q.toNat, cap) w := by
  rcases optB ht hlo hp with ⟨rfl, rfl⟩ | ⟨y, k, rfl, ey⟩ <;> rcases optB ht hhi hq with ⟨rfl, rfl⟩ | ⟨z, k', rfl, ez⟩
  · simp [Instr.sliceBounds]
  · simp [Instr.sliceBounds, ez, bound_val (P := P) (w := w) (k := k') (n := q) (y := cap) (by omega) (by omega)]
  · simp [Instr.sliceBounds, ey, bound_val (P := P) (w := w) (k := k) (n := p) (y := len) h0 (by omega)]
  · simp [Instr.sliceBounds, ey, ez, bound_val (P := P) (w := w) (k := k') (n := q) (y := cap) (by omega) (by omega), bound_val (P := P) (w := w) (k := k) (n := p) (y := q.toNat) h0 (by omega)]
theorem sliceS_ok (ht : All2 (RA w own nm) tm a.tmps.toList) {o : Oper} {t : TypeId} {x : Operand} {X : XArg} {lo hi : Option Operand} {LO HI : Option XArg} (ho : o.op = .slice t x lo hi none) (hu : P.underlying t = some .string) (hx : cArg x = some X)
    (hlo : cOpt lo = some LO) (hhi : cOpt hi = some HI) {v : AV} {call : Oracle} (hv : evP call (.sliceS X LO HI) tm = some v) : Stays P w own nm a.eval o v := by
  have h1 := arg_ok ht hx
  simp only [evP] at hv
  split at hv
  · rename_i l e
    rw [e] at h1
    have e1 := h1.str
    split at hv
    · rename_i p q hp hq
      split at hv
      · rename_i hc
        cases hv
        have hsz : (⟨l.toArray⟩ : ByteArray).size = l.length := by simp [ByteArray.size]
        have := bounds2 (P := P) ht hlo hhi (isS := false) (len := l.length) (cap := l.length) hp hq hc.1 hc.2.1 hc.2.2 (Nat.le_refl _)
        refine ⟨.string ⟨((l.drop p.toNat).take (q.toNat - p.toNat)).toArray⟩, ?_, .ofS _⟩
        simp [execOp, ho, e1, Instr.sliceAt, Instr.slice, run_und hu, hsz, this, ByteArray.extract_mk]
      · cases hv
    · cases hv
  · cases hv
omit [GOk w own] in
theorem SlAt.cut {o : SO} {es : List PV} {ad : Addr} {cap sz : Nat} (hs : SlAt w own o sz es (some ad) cap) {so : SO} {p q m : Nat} (hpq : p ≤ q) (hqe : q ≤ es.length) (hqm : q ≤ m) (hm : m ≤ cap) (hso : so = .shut ∨ (so = .full ∧ m = q)) :
    SlAt w own so sz ((es.drop p).take (q - p)) (some (if m = p then ad else ad.add (p * sz))) (m - p) := by
  obtain ⟨us, h2, h3⟩ := hs.mem
  have hlen : ((es.drop p).take (q - p)).length = q - p := by simp; omega
  have hget : ∀ (i : Nat) (e : PV), ((es.drop p).take (q - p))[i]? = some e → es[p + i]? = some e := by
    intro i e h
    rw [List.getElem?_take] at h
    split at h
    · rwa [List.getElem?_drop] at h
    · cases h
  refine ⟨by omega, Nat.le_trans (Nat.sub_le _ _) (Nat.le_trans hm hs.mx), (fun h => ?_), (fun _ h => by cases h), (fun h => ?_), (fun h => by cases h), (fun i e h => hs.el _ e (hget i e h)), ⟨fun i j => us (p + i) j, (fun ad' h hp => ?_), (fun i j e c h hc => h3 _ j e c (hget i e h) hc)⟩⟩
  · rcases hso with rfl | ⟨rfl, _⟩ <;> cases h
  · rcases hso with rfl | ⟨rfl, h1⟩
    · cases h
    · omega
  · cases h
    obtain ⟨h4, h5⟩ := h2 ad rfl (by omega)
    have hmp : ¬ m = p := by omega
    rw [if_neg hmp, addrAdd' ad h4]
    refine ⟨rfl, fun i j hi hj => ?_⟩
    have := h5 (p + i) j (by omega) hj
    rw [show ad.off + p * sz + i * sz + j = ad.off + (p + i) * sz + j by rw [Nat.add_mul]; omega]
    exact this
theorem sliceV_ok (ht : All2 (RA w own nm) tm a.tmps.toList) {o : Oper} {t e : TypeId} {x : Operand} {X : XArg} {lo hi mx : Option Operand} {LO HI MX : Option XArg} {sz : Nat} (ho : o.op = .slice t x lo hi mx) (hu : P.underlying t = some (.slice e)) (hs : sizeT P e = some sz) (hx : cArg x = some X)
    (hlo : cOpt lo = some LO) (hhi : cOpt hi = some HI) (hmx : cOpt mx = some MX) (hmh : (MX.isSome && HI.isNone) = false) {v : AV} {call : Oracle} (hv : evP call (.sliceV sz X LO HI MX) tm = some v) : Stays P w own nm a.eval o v := by
  have h1 := arg_ok ht hx
  simp only [evP] at hv
  have key : ∀ (ad : Option Addr) (n cap l h m : Nat), a.eval x = .slice ad n cap → (Instr.sliceBounds true n cap (lo.map a.eval) (hi.map a.eval) (mx.map a.eval)).run P w = .ok (l, h, m) w →
      (execOp a.eval o).run P w = .ok (.value (.slice (if m = l then ad else ad.map (·.add (l * sz))) (h - l) (m - l))) w := by
    intro ad n cap l h m e1 e2
    simp [execOp, ho, e1, Instr.sliceAt, Instr.slice, run_und hu, e2, run_size hs]
  have nomx : MX = none → mx = none := by
    intro h
    subst h
    cases mx with
    | none => rfl
    | some y => simp only [cOpt] at hmx; obtain ⟨_, _, h⟩ := Option.map_eq_some_iff.1 hmx; cases h
  have empty : ∀ (ad : Addr), SlAt w own .shut sz [] (some ad) 0 := fun ad => ⟨by simp, by unfold maxLen; omega, (fun h => by cases h), (fun _ h => by cases h), (fun h => by cases h), (fun h => by cases h), (fun i e h => by simp at h), ⟨fun _ _ => undef, (fun ad' _ hp => by simp at hp), (fun i j e c h => by simp at h)⟩⟩
  have shutE : ∀ (ad : Addr) (c : Nat), c ≤ maxLen → RA w own nm (.sl .shut sz []) (.slice (some ad) 0 c) := fun ad c hc => .ofP (SlAt.rp (o := .shut) (sz := sz) (es := []) (a := some ad) (cap := c) ⟨by simp, hc, (fun h => by cases h), (fun _ h => by cases h), (fun h => by cases h), (fun h => by cases h), (fun i e h => by simp at h), ⟨fun _ _ => undef, (fun ad' _ hp => by simp at hp), (fun i j e c h => by simp at h)⟩⟩)
  split at hv
  · rename_i k off s n e0
    rw [e0] at h1
    obtain ⟨g, cap, e1, hk, hc1, hc2, hsz, cs, T, fz, hb, hfit⟩ := h1.cv.msv
    split at hv
    · rename_i _ p q hp hq
      have := nomx rfl; subst this
      split at hv
      · rename_i hc
        obtain ⟨rfl, h0, hpq, hqn⟩ := hc
        have hb2 := bounds2 (P := P) ht hlo hhi (isS := true) (len := n) (cap := cap) hp hq h0 hpq hqn hc1
        have hr := key _ _ _ _ _ _ e1 (by simpa using hb2)
        cases hv
        refine ⟨_, hr, ?_⟩
        by_cases hpq' : p = q
        · rw [if_pos hpq']
          subst hpq'
          rw [Nat.sub_self]
          by_cases hcp : cap = p.toNat
          · rw [if_pos hcp]; exact shutE _ _ (by omega)
          · rw [if_neg hcp]; exact shutE _ _ (by omega)
        · rw [if_neg hpq', if_neg (by omega)]
          simp only [Option.map_some, addrAdd]
          refine .ofC (.ms k _ s _ g _ hk (by omega) (by omega) hsz ⟨cs, T, fz, hb, ?_⟩)
          have : p.toNat * s + (cap - p.toNat) * s = cap * s := by rw [← Nat.add_mul]; congr 1; omega
          omega
      · cases hv
    · cases hv
  · rename_i y hne e0
    rw [e0] at h1
    split at hv
    · rename_i es hes
      obtain ⟨so, sz', ad, cap, e1, hs1, hx1⟩ := slEs_ok h1.cv hes
      split at hv
      · rename_i hsz
        have hz := szOk_ok hx1 hsz
        -- a nil slice: it stays
        have nilcase : so = .nil → ∀ (p q m : Nat), p ≤ q → q ≤ es.length → m ≤ es.length → RA w own nm (.c y) (.slice (if m = p then ad else ad.map (·.add (p * sz))) (q - p) (m - p)) := by
          intro hso p q m hpq hq hm
          have ha := hs1.nil hso
          subst ha
          obtain ⟨rfl, rfl⟩ := hs1.z rfl
          have hy : y = .pv (.sl so sz' []) := by rcases hx1 with h | ⟨h, _⟩; exact h; rw [h] at hso; cases hso
          simp at hq hm
          subst hq; subst hm
          obtain rfl : p = 0 := by omega
          have h1' := h1
          rw [e1] at h1'
          simpa using h1'
        have realcase : so ≠ .nil → ∀ (so' : SO) (p q m : Nat), p ≤ q → q ≤ es.length → q ≤ m → m ≤ cap → (so' = .shut ∨ (so' = .full ∧ m = q)) → RA w own nm (.sl so' sz ((es.drop p).take (q - p))) (.slice (if m = p then ad else ad.map (·.add (p * sz))) (q - p) (m - p)) := by
          intro hso so' p q m hpq hq hqm hm hso'
          obtain rfl : sz' = sz := by rcases hz with h | h; exact absurd h hso; exact h
          cases ad with
          | none => exact absurd rfl (hs1.nn hso)
          | some ad =>
            have hc := hs1.cut hpq hq hqm hm hso'
            have hlen : ((es.drop p).take (q - p)).length = q - p := by simp; omega
            have := hc.rp
            rw [hlen] at this
            by_cases hmp : m = p
            · rw [if_pos hmp] at this ⊢; exact .ofP this
            · rw [if_neg hmp] at this ⊢; exact .ofP this
        have hres : ∀ (so' : SO) (p q m : Nat), p ≤ q → q ≤ es.length → q ≤ m → m ≤ cap → (so = .nil → m ≤ es.length) → (so' = .shut ∨ (so' = .full ∧ m = q)) →
            RA w own nm (match y with | .pv (.sl .nil _ _) => .c y | _ => .sl so' sz ((es.drop p).take (q - p))) (.slice (if m = p then ad else ad.map (·.add (p * sz))) (q - p) (m - p)) := by
          intro so' p q m hpq hq hqm hm hnm hso'
          by_cases hso : so = .nil
          · have hy : ∃ s e, y = .pv (.sl .nil s e) := by
              rcases hx1 with h | ⟨h, _⟩
              · exact ⟨_, _, by rw [h, hso]⟩
              · rw [h] at hso; cases hso
            obtain ⟨s1, e2, rfl⟩ := hy
            exact nilcase hso p q m hpq hq (hnm hso)
          · have hy : (match y with | .pv (.sl .nil _ _) => AV.c y | _ => .sl so' sz ((es.drop p).take (q - p))) = .sl so' sz ((es.drop p).take (q - p)) := by
              rcases hx1 with rfl | ⟨rfl, i, rfl⟩
              · cases so
                · exact absurd rfl hso
                · rfl
                · rfl
              · rfl
            rw [hy]
            exact realcase hso so' p q m hpq hq hqm hm hso'
        have hcapn : so = .nil → cap ≤ es.length := fun h => by have := (hs1.z (hs1.nil h)).2; omega
        have hfit := hs1.fits
        split at hv
        · rename_i _ p q hp hq
          have := nomx rfl; subst this
          split at hv
          · rename_i hc
            obtain ⟨h0, hpq, hqn⟩ := hc
            have hb2 := bounds2 (P := P) ht hlo hhi (isS := true) (len := es.length) (cap := cap) hp hq h0 hpq hqn hfit
            have hr := key _ _ _ _ _ _ e1 (by simpa using hb2)
            refine ⟨_, hr, ?_⟩
            have hx := hres .shut p.toNat q.toNat cap (by omega) (by omega) (by omega) (Nat.le_refl _) hcapn (.inl rfl)
            have hv' : v = (match y with | .pv (.sl .nil _ _) => AV.c y | _ => .sl .shut sz ((es.drop p.toNat).take (q.toNat - p.toNat))) := by
              split at hv <;> first | (cases hv; rfl) | (rename_i hn; cases hv; split; exact absurd rfl (hn _ _); rfl)
            rw [hv']; exact hx
          · cases hv
        · rename_i _ p q MX' hp hq
          obtain ⟨mx', rfl⟩ : ∃ mx', mx = some mx' := by
            cases mx with
            | none => simp [cOpt] at hmx
            | some m' => exact ⟨m', rfl⟩
          simp only [cOpt] at hmx
          obtain ⟨M, hM, hM'⟩ := Option.map_eq_some_iff.1 hmx
          cases hM'
          split at hv
          · rename_i cc hcc
            obtain ⟨km, hkm⟩ := asI_ok (arg_ok ht hM) hcc
            split at hv
            · rename_i hc
              obtain ⟨h0, hpq, rfl, hqn⟩ := hc
              have hb3 : (Instr.sliceBounds true es.length cap (lo.map a.eval) (hi.map a.eval) (some (a.eval mx'))).run P w = .ok (p.toNat, q.toNat, q.toNat) w := by
                have hbm : ∀ c, (Instr.sliceBound (a.eval mx') cap c).run P w = .ok q.toNat w := fun c => by rw [hkm]; exact bound_val (by omega) (by omega)
                rcases optB ht hhi hq with ⟨rfl, hq'⟩ | ⟨z, k', rfl, ez⟩
                · simp only [cOpt, Option.some.injEq] at hhi; subst hhi; simp at hmh
                · rcases optB ht hlo hp with ⟨rfl, rfl⟩ | ⟨y', k, rfl, ey⟩
                  · simp [Instr.sliceBounds, hbm, ez, bound_val (P := P) (w := w) (k := k') (n := q) (y := q.toNat) (by omega) (by omega)]
                  · simp [Instr.sliceBounds, hbm, ez, ey, bound_val (P := P) (w := w) (k := k') (n := q) (y := q.toNat) (by omega) (by omega), bound_val (P := P) (w := w) (k := k) (n := p) (y := q.toNat) h0 (by omega)]
              have hr := key _ _ _ _ _ _ e1 (by simpa using hb3)
              refine ⟨_, hr, ?_⟩
              have hx := hres .full p.toNat q.toNat q.toNat (by omega) (by omega) (Nat.le_refl _) (by omega) (fun _ => by omega) (.inr ⟨rfl, rfl⟩)
              have hv' : v = (match y with | .pv (.sl .nil _ _) => AV.c y | _ => .sl .full sz ((es.drop p.toNat).take (q.toNat - p.toNat))) := by
                split at hv <;> first | (cases hv; rfl) | (rename_i hn; cases hv; split; exact absurd rfl (hn _ _); rfl)
              rw [hv']; exact hx
            · cases hv
          · cases hv
        · cases hv
      · cases hv
    · cases hv
  · cases hv
theorem sliceA_ok (ht : All2 (RA w own nm) tm a.tmps.toList) {bx : List Box} (hb : RB w own nm bx) {o : Oper} {t e : TypeId} {x : Operand} {X : XArg} {lo hi : Option Operand} {LO HI : Option XArg} {n sz : Nat} (ho : o.op = .slice t x lo hi none) (hu : P.underlying t = some (.array n e)) (hs : sizeT P e = some sz) (hx : cArg x = some X)
    (hlo : cOpt lo = some LO) (hhi : cOpt hi = some HI) {v : AV} (hv : evR (.sliceA n sz X LO HI) tm bx = some v) : Stays P w own nm a.eval o v := by
  have h1 := arg_ok ht hx
  simp only [evR] at hv
  split at hv
  · rename_i k off e0
    rw [e0] at h1
    obtain ⟨g, e1, hk⟩ := h1.cv.ptrv
    split at hv
    · rename_i cs hcs
      split at hv
      · rename_i p q hp hq
        split at hv
        · rename_i hc
          obtain ⟨h0, hpq, hqn, hn, hsz, hfit⟩ := hc
          have hb2 := bounds2 (P := P) ht hlo hhi (isS := false) (len := n) (cap := n) hp hq h0 hpq hqn (Nat.le_refl _)
          have hr : (execOp a.eval o).run P w = .ok (.value (.slice (some (if n = p.toNat then ⟨g, off, none⟩ else (⟨g, off, none⟩ : Addr).add (p.toNat * sz))) (q.toNat - p.toNat) (n - p.toNat))) w := by
            simp [execOp, ho, e1, Instr.sliceAt, run_und hu, Instr.sureAddr, hb2, run_size hs]
          cases hv
          refine ⟨_, hr, ?_⟩
          have shutE : ∀ (ad : Addr) (c : Nat), c ≤ maxLen → RA w own nm (.sl .shut sz []) (.slice (some ad) 0 c) := fun ad c hc => .ofP (SlAt.rp (o := .shut) (sz := sz) (es := []) (a := some ad) (cap := c) ⟨by simp, hc, (fun h => by cases h), (fun _ h => by cases h), (fun h => by cases h), (fun h => by cases h), (fun i e h => by simp at h), ⟨fun _ _ => undef, (fun ad' _ hp => by simp at hp), (fun i j e c h => by simp at h)⟩⟩)
          by_cases hpq' : p = q
          · rw [if_pos hpq']
            subst hpq'
            rw [Nat.sub_self]
            exact shutE _ _ (by unfold maxLen; omega)
          · rw [if_neg hpq', if_neg (by omega)]
            rw [addrAdd]
            have hbox := hb.box k g _ hcs hk
            cases hbox with
            | cells _ _ us T hb1 _ hb3 =>
              obtain ⟨fz, hb1, _⟩ := hb1
              refine .ofC (.ms k _ sz _ g _ hk (by omega) (by unfold maxLen; omega) hsz ⟨_, T, fz, hb1, ?_⟩)
              have : p.toNat * sz + (n - p.toNat) * sz = n * sz := by rw [← Nat.add_mul]; congr 1; omega
              have hl := hb3.1
              simp only [List.size_toArray]
              omega
        · cases hv
      · cases hv
    · cases hv
  · cases hv
end
end Go.Sx
