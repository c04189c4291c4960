/- Slices of boxes that are cut, appended to and cleared where they lie. -/
import Derived.Test.YtggopflifieoiaaDoorSxAdopt
namespace Go.Sx
open Go
section
variable {P : Program} {o : Oper} {a : Act} {M : Nm} {w0 w w' : World} {own0 own own' : Own} {nm nm' : Nm} {st : St} {tmps : List Value} {tm : List AV}
theorem bounds3 [GOk w own] (ht : All2 (RA w own nm) tm a.tmps.toList) {lo hi : Option Operand} {LO HI : Option XArg} (hlo : cOpt lo = some LO) (hhi : cOpt hi = some HI) {p q : Int} {len cap : Nat} (hp : optI tm LO 0 = some p) (hq : optI tm HI len = some q)
    (h0 : 0 ≤ p) (h1 : p ≤ q) (h2 : q ≤ cap) : (Instr.sliceBounds true len cap (lo.map a.eval) (hi.map a.eval) none).run P w = .ok (p.toNat, q.toNat, cap) w := by
  rcases optB ht hlo hp with ⟨rfl, rfl⟩ | ⟨y, k, rfl, ey⟩ <;> rcases optB ht hhi hq with ⟨rfl, rfl⟩ | ⟨z, k', rfl, ez⟩
  · simp [Instr.sliceBounds]
  · simp [Instr.sliceBounds, ez, bound_val (P := P) (w := w) (k := k') (n := q) (y := cap) (by omega) (by omega)]
  · simp [Instr.sliceBounds, ey, bound_val (P := P) (w := w) (k := k) (n := p) (y := len) h0 (by omega)]
  · simp [Instr.sliceBounds, ey, ez, bound_val (P := P) (w := w) (k := k') (n := q) (y := cap) (by omega) (by omega), bound_val (P := P) (w := w) (k := k) (n := p) (y := q.toNat) h0 (by omega)]
theorem row_size {sz g : Nat} {es : List PV} (h : RBx w own nm (.row sz es) g) {cs : Array Value} {T : TypeId} {fz : Nat × Nat} (hb : w.heap[g]? = some (.cells cs T fz)) : es.length * sz ≤ cs.size := by
  cases h with
  | row _ _ _ h hr hs => cases h with
    | mk us ex T' h1 h2 h3 =>
      obtain ⟨fz', h1, _⟩ := h1
      rw [h1] at hb
      cases hb
      have := flatR_len (List.all_eq_true.1 hr)
      have := h3.1
      simp only [List.size_toArray, List.length_append]
      omega
theorem cap_row {sz off cap n m : Nat} (hsz : 0 < sz) (h : n * sz ≤ m) (hm : off + cap * sz = m) (ho : off % sz = 0) : n ≤ off / sz + cap := by
  have h1 := Nat.div_add_mod off sz
  rw [ho, Nat.add_zero, Nat.mul_comm] at h1
  refine Nat.le_of_mul_le_mul_right ?_ hsz
  rw [Nat.add_mul, h1]
  omega
theorem sliceM_ok [GOk w own] (ht : All2 (RA w own nm) tm a.tmps.toList) {bx : List Box} (hb : RB w own nm bx) {t e : TypeId} {x : Operand} {X : XArg} {lo hi mx : Option Operand} {LO HI MX : Option XArg} {sz : Nat} (ho : o.op = .slice t x lo hi mx) (hu : P.underlying t = some (.slice e)) (hs : sizeT P e = some sz) (hx : cArg x = some X)
    (hlo : cOpt lo = some LO) (hhi : cOpt hi = some HI) (hmx : cOpt mx = some MX) (hmh : (MX.isSome && HI.isNone) = false) {v : AV} (hv : evR (.sliceM sz X LO HI MX) tm bx = some v) : Stays P w own nm a.eval o v := by
  have h1 := arg_ok ht hx
  simp only [evR] at hv
  have key : ∀ (ad : Option Addr) (n cap l h m : Nat), a.eval x = .slice ad n cap → (Instr.sliceBounds true n cap (lo.map a.eval) (hi.map a.eval) (mx.map a.eval)).run P w = .ok (l, h, m) w →
      (execOp a.eval o).run P w = .ok (.value (.slice (if m = l then ad else ad.map (·.add (l * sz))) (h - l) (m - l))) w := by
    intro ad n cap l h m e1 e2
    simp [execOp, ho, e1, Instr.sliceAt, Instr.slice, run_und hu, e2, run_size hs]
  have nomx : MX = none → mx = none := by
    intro h
    subst h
    cases mx with
    | none => rfl
    | some y => simp only [cOpt] at hmx; obtain ⟨_, _, h⟩ := Option.map_eq_some_iff.1 hmx; cases h
  split at hv
  · rename_i k off s n e0
    rw [e0] at h1
    obtain ⟨g, cap, e1, hk, hc1, hc2, hsz, cs, T, fz, hbk, hfit⟩ := h1.cv.msv
    split at hv
    · rename_i s' es hes
      split at hv
      · rename_i hcond
        obtain ⟨rfl, rfl, hmod⟩ := hcond
        have hle := cap_row hsz (row_size (hb.box k g _ hes hk) hbk) hfit hmod
        split at hv
        · rename_i _ p q hp hq
          have := nomx rfl; subst this
          split at hv
          · rename_i hc
            obtain ⟨h0, hpq, hqn, hpe⟩ := hc
            have hb2 := bounds3 (P := P) ht hlo hhi (len := n) (cap := cap) hp hq h0 hpq (by omega)
            have hr := key _ _ _ _ _ _ e1 (by simpa using hb2)
            cases hv
            refine ⟨_, hr, ?_⟩
            have hadr : (if cap = p.toNat then some (⟨g, off, none⟩ : Addr) else (some (⟨g, off, none⟩ : Addr)).map (·.add (p.toNat * s'))) = some ⟨g, off + p.toNat * s', none⟩ := by
              rcases hpe with rfl | hpe
              · by_cases hc0 : cap = (0 : Int).toNat
                · rw [if_pos hc0]; simp
                · rw [if_neg hc0]; simp [addrAdd]
              · rw [if_neg (by omega)]; simp [addrAdd]
            rw [hadr]
            refine .ofC (.ms k _ s' _ g _ hk (by omega) (by omega) hsz ⟨cs, T, fz, hbk, ?_⟩)
            have : p.toNat * s' + (cap - p.toNat) * s' = cap * s' := by rw [← Nat.add_mul]; congr 1; omega
            omega
          · cases hv
        · rename_i _ p q MX' hp hq
          obtain ⟨mx', rfl⟩ : ∃ mx', mx = some mx' := by
            cases mx with
            | none => simp [cOpt] at hmx
            | some m' => exact ⟨m', rfl⟩
          simp only [cOpt] at hmx
          obtain ⟨MM, hM, hM'⟩ := Option.map_eq_some_iff.1 hmx
          cases hM'
          split at hv
          · rename_i cc hcc
            obtain ⟨km, hkm⟩ := asI_ok (arg_ok ht hM) hcc
            split at hv
            · rename_i hc
              obtain ⟨h0, hpq, hqc, hqn⟩ := hc
              cases hv
              have hb3 : (Instr.sliceBounds true n cap (lo.map a.eval) (hi.map a.eval) (some (a.eval mx'))).run P w = .ok (p.toNat, q.toNat, cc.toNat) w := by
                have hbm : ∀ c, (Instr.sliceBound (a.eval mx') cap c).run P w = .ok cc.toNat w := fun c => by rw [hkm]; exact bound_val (by omega) (by omega)
                rcases optB ht hhi hq with ⟨rfl, hq'⟩ | ⟨z, k', rfl, ez⟩
                · simp only [cOpt, Option.some.injEq] at hhi; subst hhi; simp at hmh
                · rcases optB ht hlo hp with ⟨rfl, rfl⟩ | ⟨y', k, rfl, ey⟩
                  · simp [Instr.sliceBounds, hbm, ez, bound_val (P := P) (w := w) (k := k') (n := q) (y := cc.toNat) (by omega) (by omega)]
                  · simp [Instr.sliceBounds, hbm, ez, ey, bound_val (P := P) (w := w) (k := k') (n := q) (y := cc.toNat) (by omega) (by omega), bound_val (P := P) (w := w) (k := k) (n := p) (y := q.toNat) h0 (by omega)]
              exact ⟨_, key _ _ _ _ _ _ e1 (by simpa using hb3), .ofU _⟩
            · cases hv
          · cases hv
        · cases hv
      · cases hv
    · cases hv
  · cases hv
theorem putB_all : ∀ {vs m : List CV}, m.length = vs.length → putB m 0 vs = some vs
  | [], m, h => by rw [List.eq_nil_of_length_eq_zero h]; rfl
  | x :: vs, [], h => by simp at h
  | x :: vs, y :: m, h => by
    have ih := putB_all (vs := vs) (m := m) (by simpa using h)
    have := putB_app (a := [x]) (b := []) ih
    simp only [List.append_nil, List.cons_append, List.nil_append, List.length_singleton, Nat.add_zero] at this
    simp only [putB, List.length_cons, Nat.zero_lt_succ, if_true, List.set_cons_zero, Nat.zero_add]
    exact this
theorem putEs_row {sz off : Nat} {es new : List PV} (h : ∀ e ∈ es, rowE sz e = true) (hn : ∀ e ∈ new, rowE sz e = true) (hm : off % sz = 0) (hle : off / sz + new.length ≤ es.length) :
    putB (flatR es) off (flatR new) = some (flatR (putEs es (off / sz) new)) ∧ ∀ e ∈ putEs es (off / sz) new, rowE sz e = true := by
  have h1 : es = es.take (off / sz) ++ ((es.drop (off / sz)).take new.length ++ es.drop (off / sz + new.length)) := by
    have := List.take_append_drop new.length (es.drop (off / sz))
    rw [List.drop_drop] at this
    rw [this, List.take_append_drop]
  refine ⟨?_, fun e he => ?_⟩
  · have e1 : ∀ e ∈ es.take (off / sz), rowE sz e = true := fun e he => h e (List.mem_of_mem_take he)
    have e2 : ∀ e ∈ (es.drop (off / sz)).take new.length, rowE sz e = true := fun e he => h e (List.mem_of_mem_drop (List.mem_of_mem_take he))
    have l1 := flatR_len e1
    have l2 := flatR_len e2
    have l3 := flatR_len hn
    have k2 : ((es.drop (off / sz)).take new.length).length = new.length := by rw [List.length_take, List.length_drop]; omega
    have k1 : (es.take (off / sz)).length = off / sz := by rw [List.length_take]; omega
    have ho : off = off / sz * sz := by
      have := Nat.div_add_mod off sz
      rw [hm, Nat.add_zero, Nat.mul_comm] at this
      exact this.symm
    have := putB_app (a := flatR (es.take (off / sz))) (b := flatR (es.drop (off / sz + new.length))) (putB_all (vs := flatR new) (m := flatR ((es.drop (off / sz)).take new.length)) (by rw [l2, l3, k2]))
    rw [l1, k1, Nat.add_zero, ← ho] at this
    simp only [← flatR_append] at this
    rw [List.append_assoc, ← h1] at this
    exact this
  · simp only [putEs, List.mem_append] at he
    rcases he with (he | he) | he
    · exact h e (List.mem_of_mem_take he)
    · exact hn e he
    · exact h e (List.mem_of_mem_drop he)
theorem putEs_ok {b b' : Box} {g sz off : Nat} {new : List PV} (hb : RBx w own nm b g) (hp : b.putEs sz off new = some b') : ∃ (cs cs' : List CV) (us ex : List Value) (T : TypeId), TC w g (us ++ ex) T ∧ own g = some 0 ∧ All2 (RC w own nm) cs us ∧ putB cs off (flatR new) = some cs' ∧
    ∀ (w' : World) (own' : Own) (nm' : Nm) (us' : List Value) (T' : TypeId), TC w' g (us' ++ ex) T' → own' g = some 0 → All2 (RC w' own' nm') cs' us' → RBx w' own' nm' b' g := by
  cases hb with
  | cells cs _ us T h1 h2 h3 =>
    obtain ⟨cs', h4, rfl⟩ := Option.map_eq_some_iff.1 hp
    exact ⟨cs, cs', us, [], T, by rw [List.append_nil]; exact h1, h2, h3, h4, fun _ _ _ us' T' k1 k2 k3 => .cells cs' g us' T' (by rw [List.append_nil] at k1; exact k1) k2 k3⟩
  | row s r _ h hr hs => cases h with
    | mk us ex T h1 h2 h3 =>
      simp only [Box.putEs] at hp
      split at hp
      · rename_i hc
        obtain ⟨rfl, hm, hle, hn⟩ := hc
        cases hp
        obtain ⟨h5, h6⟩ := putEs_row (List.all_eq_true.1 hr) (List.all_eq_true.1 hn) hm hle
        exact ⟨_, _, us, ex, T, h1, h2, h3, h5, fun _ _ _ us' T' k1 k2 k3 => .row s _ g (.mk us' ex T' k1 k2 k3) (List.all_eq_true.2 h6) hs⟩
      · cases hp
  | _ => simp [Box.putEs] at hp
theorem putEs_goes (I : Inv M w0 own0 w own nm st tmps) {k g sz off : Nat} {new : List PV} {b b' : Box} (hcs : st.bx[k]? = some b) (hk : nm.adr[k]? = some g) (hp : b.putEs sz off new = some b') {nv : List Value} (hcells : All2 (RC w own nm) (flatR new) nv) (hone : ∀ u ∈ nv, u.oneCell' = true) (hne : flatR new ≠ []) :
    (∃ (cs : Array Value) (T : TypeId) (fz : Nat × Nat), w.heap[g]? = some (.cells cs T fz) ∧ off + nv.length ≤ cs.size) ∧
    ∃ w', (storeCells ⟨g, off, none⟩ nv).run P w = .ok () w' ∧ Inv M w0 own0 w' own nm ⟨st.tm, st.bx.set k b'⟩ tmps ∧ NmLe w own nm w' own nm := by
  obtain ⟨cs, cs', us, ex, T, hb1, hb2, hb3, hp, hback⟩ := putEs_ok (I.rb.box k g _ hcs hk) hp
  obtain ⟨fz, hb1, hz, hz2⟩ := hb1.free
  obtain ⟨g1, g2, g3⟩ := putB_ok hb3 hcells hp
  have hkl : k < st.bx.length := (List.getElem?_eq_some_iff.1 hcs).1
  have hnl : nv.length = (flatR new).length := hcells.1
  have hfit : off + nv.length ≤ us.length := by
    rw [if_neg hne] at g1
    have := hb3.1; omega
  have hrun := run_storeCells_fz P g off T fz nv 0 (us ++ ex).toArray w hb1 (by simpa using hz) (by simp; omega) hone
  have hnew : ((us ++ ex).toArray.toList.take (off + 0) ++ nv ++ (us ++ ex).toArray.toList.drop (off + 0 + nv.length)) = (us.take off ++ nv ++ us.drop (off + nv.length)) ++ ex := by
    simp only [Nat.add_zero, List.append_assoc]
    rw [List.take_append_of_le_length (by omega), List.drop_append_of_le_length (by omega)]
  rw [hnew] at hrun
  have hheap := setRow_heap w g _ (us.take off ++ nv ++ us.drop (off + nv.length) ++ ex).toArray T fz hb1
  obtain ⟨I', hle⟩ := I.upd (w' := w.setRow g (us.take off ++ nv ++ us.drop (off + nv.length) ++ ex).toArray) (k := k) (g := g) (b := b') hk hkl hb2 rfl rfl rfl (by simp [World.setRow]) (fun j hj => setRow_other w g j _ hj)
    (fun cs2 T2 fz2 h2 => by
      rw [hb1] at h2
      cases h2
      refine ⟨_, hheap, ?_⟩
      simp only [List.size_toArray, List.length_append, List.length_take, List.length_drop]
      omega)
    (fun hle => hback _ _ _ _ T ⟨_, hheap, hz2.imp_right fun h => by
      simp only [List.length_append, List.length_take, List.length_drop] at h ⊢
      omega⟩ hb2 (g3.imp fun _ _ => RC.le hle))
  exact ⟨⟨_, T, fz, hb1, by simp; omega⟩, _, hrun, I', hle⟩
theorem appM_goes (I : Inv M w0 own0 w own nm st a.tmps.toList) {t u e : TypeId} {s x : Operand} {S X : XArg} {i : TypeInfo} {zv : Value} {c : Call} (ho : o.op = .call c) (hc1 : c.callee = .builtin .append) (hc2 : c.args = #[s, x]) (hc3 : c.argTypes = #[t, u]) (T : AppT P t u e i zv)
    (hs : cArg s = some S) (hx : cArg x = some X) {v : AV} {st' : St} {call : Oracle} (hv : evW call o.dst (.appM i.size S X) st = some (v, st')) : Goes P o a w (Left M w0 own0 st' a.tmps.toList v) := by
  haveI := I.good.toGOk
  have h1 := arg_ok I.rt hs
  have h2 := arg_ok I.rt hx
  have run : ∀ {r : Value} {w' : World}, (Builtin.append_ #[t, u] o.type #[a.eval s, a.eval x]).run P w = .ok r w' → (execOp a.eval o).run P w = .ok (.value r) w' := by
    intro r w' h
    simp only [execOp, ho, resolve, hc1, hc2, hc3, Sem.run_bind, Sem.run_pure, Result.andThen_ok, invoke, builtin]
    simp [h]
  have hzs0 : 0 < i.size := Nat.pos_of_ne_zero T.hs0
  simp only [evW] at hv
  split at hv
  · rename_i new k off s' n hnew e1
    split at hv
    · rename_i hsz'
      subst hsz'
      rw [e1] at h1
      obtain ⟨g, cap, e2, hk, hc1', hc2', hsz, cs, TT, fz, hbk, hfit⟩ := h1.cv.msv
      obtain ⟨nv, Sr⟩ := src_ok (P := P) I h2 hnew
      split at hv
      · rename_i hn0
        subst hn0
        cases hv
        refine Goes.value (run ?_) ⟨own, nm, I, h1⟩
        rw [e2]
        exact run_app_none T Sr hc1'
      · rename_i hn0
        split at hv
        · rename_i b' hb'
          cases hv
          obtain ⟨b, hcs, hp⟩ := Option.bind_eq_some_iff.1 hb'
          have hcells : All2 (RC w own nm) (flatR new) nv := flat_all2 (sz := i.size) (fun e he => by
            obtain ⟨j, hj⟩ := List.mem_iff_getElem?.1 he
            exact (Sr.el j e hj).1.1) (by rw [Sr.nlen]) fun p j e c u hi hc hu => by
            obtain ⟨u', hu', hr⟩ := (Sr.el p e hi).2 j c hc
            rw [hu'] at hu
            cases hu
            exact .pv hr
          have hm : 0 < new.length := List.length_pos_iff.2 hn0
          have hl : (flatR new).length = new.length * i.size := by rw [← hcells.1, Sr.nlen]
          have hne : flatR new ≠ [] := by
            intro h
            rw [h, List.length_nil] at hl
            have := Nat.mul_pos hm hzs0
            omega
          obtain ⟨⟨cs2, T2, fz2, hbk2, hfit2⟩, w', hrun, I', hle⟩ := putEs_goes (P := P) I hcs hk hp hcells Sr.one hne
          rw [hbk] at hbk2
          cases hbk2
          have hroom : n + new.length ≤ cap := by
            refine Nat.le_of_mul_le_mul_right ?_ hzs0
            rw [Nat.add_mul]
            have := Sr.nlen
            omega
          refine Goes.value (v := .slice (some ⟨g, off, none⟩) (n + new.length) cap) (w' := w') (run ?_) ⟨_, _, I', .ofC ?_⟩
          · rw [e2]
            have hlo := Sr.lenOf w
            have hf := Sr.first w rfl
            rcases T.hu with ⟨d, hd⟩ | hd <;>
              simp [Builtin.append_, run_und T.ht, run_und hd, sizeOf, typeInfo, T.hi, hlo, hroom, hf, addrAdd, hrun]
          · obtain ⟨cs', hb2, hz2⟩ := hle.size g (List.mem_iff_getElem?.2 ⟨k, hk⟩) cs TT fz hbk
            exact .ms k off i.size _ g cap (hle.adr _ _ hk) hroom hc2' hsz ⟨cs', TT, fz, hb2, by omega⟩
        · cases hv
    · cases hv
  · cases hv
theorem clr_goes (I : Inv M w0 own0 w own nm st a.tmps.toList) {t e : TypeId} {x : Operand} {X : XArg} {z : List CV} {sz : Nat} {c : Call} (ho : o.op = .call c) (hc1 : c.callee = .builtin .clear) (hc2 : c.args = #[x]) (hc3 : c.argTypes = #[t]) (hu : P.underlying t = some (.slice e)) (hzt : zeroT P e = some z)
    (hx : cArg x = some X) {v : AV} {st' : St} {call : Oracle} (hv : evW call o.dst (.clr z sz X) st = some (v, st')) : Goes P o a w (Left M w0 own0 st' a.tmps.toList v) := by
  haveI := I.good.toGOk
  have h1 := arg_ok I.rt hx
  have run : ∀ {r : Value} {w' : World}, (Builtin.clear_ #[t] o.type #[a.eval x]).run P w = .ok r w' → (execOp a.eval o).run P w = .ok (.value r) w' := by
    intro r w' h
    simp only [execOp, ho, resolve, hc1, hc2, hc3, Sem.run_bind, Sem.run_pure, Result.andThen_ok, invoke, builtin]
    simp [h]
  simp only [evW] at hv
  split at hv
  · rename_i k off s n ps e1 hps
    split at hv
    · rename_i hcond
      obtain ⟨rfl, hzl, hrow⟩ := hcond
      rw [e1] at h1
      obtain ⟨g, cap, e2, hk, hc1', hc2', hsz, cs, TT, fz, hbk, hfit⟩ := h1.cv.msv
      split at hv
      · rename_i hn0
        subst hn0
        cases hv
        refine Goes.value (v := .tuple #[]) (w' := w) (run ?_) ⟨own, nm, I, .tup [] [] ⟨rfl, fun i _ _ h => by simp at h⟩⟩
        rw [e2]
        simp [Builtin.clear_, run_und hu]
      · rename_i hn0
        split at hv
        · rename_i b' hb'
          cases hv
          obtain ⟨b, hcs, hp⟩ := Option.bind_eq_some_iff.1 hb'
          obtain ⟨zv, bb, hz1, hz2, hz3, hz4, hz5⟩ := run_zero (P := P) (w := w) (own := own) (nm := nm) hzt
          have hzc : All2 (RC w own nm) z zv.cells.toList := by subst hz2; exact hz3.cellsF hz5
          have hpl : ps.length = s := by rw [(toPVs_ok hps hzc).2.1, hzl]
          have hzp : z = ps.map .pv := toPVs_plain hps (rowOf_cells hrow hpl).2
          have hall := repC_ok (n := n) hzl hsz hzc
          have hzs : zv.cells.size = s := by have := hzc.1; rw [hzl] at this; simpa using this
          have hflat : flatR (List.replicate n (rowOf s ps)) = repC z n := by rw [flatR_rep hrow hpl, ← hzp]
          rw [← hflat] at hall
          have hlen : (flatR (List.replicate n (rowOf s ps))).length = n * s := by rw [hflat, repC_len hzl]
          have hone : ∀ u ∈ ((Array.range (n * s)).map (zv.cells[· % zv.cells.size]!)).toList, u.oneCell' = true := by
            intro u hu
            obtain ⟨j, hj⟩ := List.mem_iff_getElem?.1 hu
            have hjl : j < (flatR (List.replicate n (rowOf s ps))).length := by rw [← hall.1]; exact (List.getElem?_eq_some_iff.1 hj).1
            have hx := List.getElem?_eq_getElem hjl
            obtain ⟨p, hpx, hpp⟩ := flatR_mem (sz := s) (fun e he => by rw [(List.mem_replicate.1 he).2]; exact hrow) (List.mem_of_getElem? hx)
            have hr := hall.2 j _ u hx hj
            rw [hpx] at hr
            exact hr.pvv.one (PV.plain0_flat hpp)
          have hne : flatR (List.replicate n (rowOf s ps)) ≠ [] := by
            intro h
            rw [h, List.length_nil] at hlen
            have := Nat.mul_pos (Nat.pos_of_ne_zero hn0) hsz
            omega
          obtain ⟨_, w', hrun, I', hle⟩ := putEs_goes (P := P) I hcs hk hp hall hone hne
          refine Goes.value (v := .tuple #[]) (w' := w') (run ?_) ⟨_, _, I', .tup [] [] ⟨rfl, fun i _ _ h => by simp at h⟩⟩
          rw [e2]
          obtain ⟨m, rfl⟩ : ∃ m, n = m + 1 := ⟨n - 1, by omega⟩
          have hz1' : (zeroValue e).run P w = .ok zv w := hz1
          simp [Builtin.clear_, run_und hu, hz1', Builtin.zeroCells, hzs] at hrun ⊢
          rw [hrun]
          simp
        · cases hv
    · cases hv
  · cases hv
end
end Go.Sx
