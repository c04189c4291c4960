/- From the program's code to the evaluator's: code, functions. -/
import Derived.Test.YtggopflifieoiaaDoorSxCmp
import Derived.Orders
import Derived.Test.YtggopflifieoiaaDoorSxOper2
import Derived.Tactics
namespace Go.Sx
def XOper.uses (x : XOper) : List Nat := x.op.args.flatMap XArg.tmps ++ (match x.grd with | some (t, _) => [t] | none => [])
def XOper.allocs (x : XOper) : Bool := x.cls == .w && match x.op with | .alloc _ => true | .callM _ _ => true | _ => false
def XOper.stores (x : XOper) : Bool := x.cls == .w && match x.op with | .store _ _ _ => true | .storeO _ _ _ _ => true | .ment _ _ _ _ => true | _ => false
def XOper.storesO (x : XOper) (u : Nat) : Bool := x.cls == .w && match x.op with | .storeO _ _ _ (.tmp q) => q == u | _ => false
def XOper.apps (x : XOper) : Bool := x.cls == .w && match x.op with | .app _ _ _ _ => true | _ => false
def XOper.calls (x : XOper) : Bool := x.cls == .w && match x.op with | .call false _ _ _ => true | _ => false
def AV.fixed : AV → Bool
  | .c x => x.ids.isEmpty
  | .agg cs => cs.all fun x => x.ids.isEmpty
  | .tup _ => false
def litEven : XArg → Bool
  | .tmp _ => true
  | .lit a => a.fixed
def evenOp : XOp → Bool
  | .buildSl z _ _ _ => z.all fun x => x.ids.isEmpty
  | .sliceV _ _ _ _ none => true
  | .mv _ | .pick _ _ _ | .load _ _ _ | .loadR _ _ _ _ | .nilc _ | .bin _ _ _ | .eqB _ _ _ | .eqN _ _ _ _ | .un _ _ | .convI _ _ | .convS _ | .bytesS _ | .faddr _ _ | .iaddrS _ _ _ | .iaddrA _ _ _ _ | .idxS _ _ | .len _ | .lenS _ | .call _ _ _ _ => true
  | _ => false
def XOper.even (x : XOper) : Bool := evenOp x.op && x.op.args.all litEven
def okLoad (x y : XOper) : Bool :=
  x.cls == .r && match x.op with
  | .load _ _ _ => y.apps
  | .loadR _ _ _ (.tmp u) => y.apps || match y.op with
    | .call _ ap _ _ => ap.any fun X => match X with | .tmp q => q == u | .lit _ => false
    | _ => false
  | _ => false
def okEnt : XOp → XOp → Bool
  | .mlook (.int q a) false (.tmp m) (.tmp k) n, .ment (.int q' a') (.tmp m') (.tmp k') n' => decide (q = q' ∧ a = a' ∧ m = m' ∧ k = k' ∧ n = n')
  | _, _ => false
def okKind (x y : XOper) : Bool :=
  (x.cls != .w && y.cls != .w) || (x.cls != .w && y.allocs) || (x.allocs && y.cls == .p) || (x.cls == .p && y.stores) || (x.stores && y.cls == .p) || (x.even && (x.cls == .p || okLoad x y) && (y.apps || y.calls)) || (x.cls == .r && match x.op with | .loadR _ _ _ (.tmp u) => y.storesO u | _ => false) || (x.cls == .r && okEnt x.op y.op && y.stores)
def okPair (x y : XOper) : Bool :=
  (match x.dst with | some d => !y.uses.contains d && y.dst != some d | none => true) &&
  (match y.dst with | some d => !x.uses.contains d | none => true) &&
  okKind x y
def masksGo : List Oper → List Nat → List Nat
  | [], acc => acc
  | o :: r, acc => masksGo r (acc ++ [o.after.toList.foldl (fun s e => if Region.binds .any e then s ||| 2 ^ e.on ||| acc.getD e.on 0 else s) 0])
def maskOk (ms : List Nat) (n : Nat) (o : Oper) (m : Nat) : Bool :=
  (List.range n).all fun k => !m.testBit k || o.after.toList.any fun e => Region.binds .any e && (e.on == k || (ms.getD e.on 0).testBit k)
def masksOk (ops : Array Oper) (ms : List Nat) : Bool :=
  (List.range ops.size).all fun i => match ops[i]? with
    | some o => maskOk ms ops.size o (ms.getD i 0)
    | none => false
def permOk (ops : Array Oper) (xs : List XOper) (ms : List Nat) : List Nat → List Nat → Bool
  | [], seen => (List.range ops.size).all fun j => seen.contains j
  | i :: r, seen => match ops[i]?, xs[i]? with
    | some o, some y => !seen.contains i && (o.after.toList.all fun e => !Region.binds .any e || seen.contains e.on) &&
        (seen.all fun k => (ms.getD i 0).testBit k || match xs[k]? with | some x => okPair x y | none => false) && permOk ops xs ms r (i :: seen)
    | _, _ => false
def litKey : XArg → Bool
  | .tmp _ => true
  | .lit a => match a with
    | .c x => x.keys.isEmpty
    | .agg cs => cs.all fun x => x.keys.isEmpty
    | .tup _ => false
def renOp (o : XOper) : Bool := o.grd.isNone && o.op.args.all litKey && match o.cls, o.op with
  | .w, .store _ _ _ => true
  | .w, .storeO _ _ _ _ => true
  | .r, .load _ _ _ => true
  | .r, .loadR _ _ _ _ => true
  | .p, .mv _ => true
  | .p, .faddr _ _ => true
  | .p, .convI _ _ => true
  | .p, .len _ => true
  | .p, .bin _ _ _ => true
  | .p, .iaddrS _ _ _ => true
  | .p, .load _ _ _ => true
  | _, _ => false
def okMk (o : XOper) : Bool := o.grd.isNone && o.dst.isSome && match o.cls, o.op with
  | .w, .alloc z => z.all fun x => x.keys.isEmpty
  | _, _ => false
def permOkX (ops : Array Oper) (xs : List XOper) (ms : List Nat) (ex : Nat → Nat → Bool) : List Nat → List Nat → Bool
  | [], seen => (List.range ops.size).all fun j => seen.contains j
  | i :: r, seen => match ops[i]?, xs[i]? with
    | some o, some y => !seen.contains i && (o.after.toList.all fun e => !Region.binds .any e || seen.contains e.on) &&
        (seen.all fun k => (ms.getD i 0).testBit k || ex k i || match xs[k]? with | some x => okPair x y | none => false) && permOkX ops xs ms ex r (i :: seen)
    | _, _ => false
def okMk2 (ops : Array Oper) (xs : List XOper) (ms perm : List Nat) (k : Nat) : Bool :=
  match perm[k]?, perm[k + 1]? with
  | some A, some B =>
    (match ops[B]?, xs[A]?, xs[B]? with
     | some o, some x, some y => okMk x && okMk y && x.dst != y.dst && o.after.toList.all fun e => !Region.binds .any e || e.on != A
     | _, _, _ => false) &&
    ((perm.take k ++ perm.drop (k + 2)).all fun i => match xs[i]? with | some z => renOp z | none => false) &&
    permOkX ops xs ms (fun k i => k == A && i == B) perm []
  | _, _ => false
def okDraw (ops : Array Oper) (xs : List XOper) (perm : List Nat) : Bool :=
  let ms := masksGo ops.toList []
  masksOk ops ms && (permOk ops xs ms perm [] || (List.range perm.length).any fun k => okMk2 ops xs ms perm k)
def pickL (xs : List XOper) : List Nat → Option (List XOper)
  | [] => some []
  | i :: r => match xs[i]?, pickL xs r with
    | some x, some l => some (x :: l)
    | _, _ => none
def Hints.under : Hints → Hints
  | .tr _ _ h => h
  | h => h
def Hints.wrap : Hints → XCode → XCode
  | .tr m cut _, c => .tr m cut c
  | _, c => c
def cmpCode (P : Program) : Code → Hints → Option XCode
  | .skip, _ => some .skip
  | .region _ ops draw, h => match cmpOpers P ops ops.toList h.under.list with
    | some xs => if draw then (if okDraw ops xs (h.under.perm ops.size) then (pickL xs (h.under.perm ops.size)).map fun ys => h.wrap (.region true ys) else none) else some (h.wrap (.region false xs))
    | none => none
  | .seq a b, h => match cmpCode P a h.under.fst, cmpCode P b h.under.snd with
    | some x, some y => some (h.wrap (.seq x y))
    | _, _ => none
  | .cond c a b, h => match cArg c, cmpCode P a h.under.fst, cmpCode P b h.under.snd with
    | some c, some x, some y => some (h.wrap (.cond c x y))
    | _, _, _ => none
  | .block id c, h => (cmpCode P c h.under).map fun x => h.wrap (.block id x)
  | .loop c, h => (cmpCode P c h.under.fst).map fun x => h.wrap (.loop h.under.mask x)
  | .exit id, h => some (h.wrap (.exit id))
  | .scope c, h => (cmpCode P c h.under).map fun x => h.wrap (.scope x)
  | .label _, _ => some .label
  | .ret, h => some (h.wrap .ret)
  | _, _ => none
def cmpRes (P : Program) : List ResultVar → Option (List XRes)
  | [] => some []
  | .tmp t :: r => (cmpRes P r).map (.tmp t :: ·)
  | .cell a t :: r => match cmpRes P r, isAggD (P.underlying t), sizeT P t with
    | some l, some ag, some n => some (.cell a ag (if ag then n else 1) :: l)
    | _, _, _ => none
def cmpFunc (P : Program) (f : Nat) (h : Hints) : Option XFunc :=
  match P.funcs[f]? with
  | some fn => match fn.body with
    | some c => if fn.name == "runtime.NumGoroutine" then none else match cmpCode P c h, cmpRes P fn.results.toList with
      | some x, some rs => some ⟨fn.ntmps, rs, x⟩
      | _, _ => none
    | none => none
  | none => none
end Go.Sx
/- Regions: one operation after the other. -/
namespace Go.Sx
open Go
def Sat (M : Nm) (w0 : World) (own0 : Own) (st : St) (a : Act) (w : World) : Prop := a.defers = [] ∧ ∃ own nm, Inv M w0 own0 w own nm st a.tmps.toList
section
variable {P : Program} {ops : Array Oper} {o : Oper} {a : Act} {M : Nm} {w0 w w' : World} {own0 own own' : Own} {nm nm' : Nm} {st st' : St} {Q : Exit → Act → World → Prop}
theorem Inv.put (I : Inv M w0 own0 w own nm st a.tmps.toList) {v : AV} {r : Value} (h : RA w own nm v r) (dst : Option Nat) : Inv M w0 own0 w own nm ⟨putD st.tm dst v, st.bx⟩ (a.put dst r).tmps.toList := by
  haveI := I.good.toGOk
  refine ⟨I.fr, I.good, I.nmok, I.rb, ?_, I.mineA, I.mineR, I.ext⟩
  cases dst with
  | none => exact I.rt
  | some d =>
    simp only [putD, Act.put, Array.toList_setIfInBounds]
    exact I.rt.set d h
theorem put_defers (a : Act) (dst : Option Nat) (v : Value) : (a.put dst v).defers = a.defers := by cases dst <;> rfl
theorem getD_some {tm : List AV} {t : Nat} {v : AV} (h : tm.getD t .undef = v) (hv : v ≠ .undef) : tm[t]? = some v := by
  rw [List.getD_eq_getElem?_getD] at h
  cases e : tm[t]? with
  | none => rw [e] at h; exact absurd h.symm hv
  | some u => rw [e] at h; exact congrArg some h
theorem guard_ok (I : Inv M w0 own0 w own nm st a.tmps.toList) {g : Option (Nat × Bool)} (hg : cGrd ops o.guard = some g) {b : Bool} (hw : wantG st.tm g = some b) : Region.wanted o (yielded ops a.tmps) = b := by
  haveI := I.good.toGOk
  unfold Region.wanted
  cases e : o.guard with
  | none =>
    rw [e] at hg
    simp only [cGrd, Option.some.injEq] at hg
    subst hg
    simpa [wantG] using hw
  | some p =>
    obtain ⟨j, want⟩ := p
    rw [e] at hg
    simp only [cGrd] at hg
    split at hg
    · rename_i t ht
      cases hg
      simp only [wantG] at hw
      have hy : ∀ v : AV, st.tm.getD t .undef = v → v ≠ .undef → ∃ r, a.tmps[t]? = some r ∧ RA w own nm v r := by
        intro v h1 h2
        obtain ⟨r, h3, h4⟩ := I.rt.get (getD_some h1 h2)
        exact ⟨r, by simpa using h3, h4⟩
      split at hw
      · rename_i x hx
        obtain ⟨r, h1, h2⟩ := hy _ hx (by simp)
        cases h2.bool
        have : yielded ops a.tmps j = some x := by unfold yielded; rw [ht]; simp [h1]
        simp only [this]
        cases x <;> cases want <;> simp_all
      · rename_i hx
        obtain ⟨r, h1, h2⟩ := hy _ hx (by simp)
        obtain ⟨us, rfl, _⟩ := h2.tupv
        have : yielded ops a.tmps j = none := by unfold yielded; rw [ht]; simp [h1]
        simp only [this]
        simpa using hw
      · cases hw
    · cases hg
theorem RA.skipped : RA w own nm (.tup []) undef := by
  have := RA.tup (w := w) (own := own) (nm := nm) [] [] All2.nil
  exact this
theorem evV_val {call : Oracle} {x : XOper} {v : AV} (h : evV call x st = some v) : (wantG st.tm x.grd = some false ∧ v = .tup []) ∨ (wantG st.tm x.grd = some true ∧ (if x.cls = .p then evP call x.op st.tm else evR x.op st.tm st.bx) = some v) := by
  unfold evV at h
  split at h
  · cases h
  · rename_i hw; cases h; exact .inl ⟨hw, rfl⟩
  · rename_i hw
    exact .inr ⟨hw, h⟩
theorem op_step {call : Oracle} (hok : OkOr P call) {h : Hint} {x : XOper} (hc : cmpOper P ops o h = some x) (hs : Sat M w0 own0 st a w) (he : evOper call x st = some st') {K : Act → World → Prop} (hk : ∀ a' w', Sat M w0 own0 st' a' w' → K a' w') :
    if Region.wanted o (yielded ops a.tmps) then o.wp P a w K Q ∨ (o.asks P a w ∧ LetsOut Q) else K (a.put o.dst undef) w := by
  obtain ⟨hd, own, nm, I⟩ := hs
  simp only [cmpOper] at hc
  split at hc
  · rename_i y g hy hg
    cases hc
    have skip : ∀ st1 : St, st1 = st → Sat M w0 own0 ⟨putD st1.tm o.dst (.tup []), st1.bx⟩ (a.put o.dst undef) w := by
      intro st1 e
      subst e
      exact ⟨by rw [put_defers]; exact hd, own, nm, I.put RA.skipped o.dst⟩
    have fin : ∀ {s : St} {v : AV}, Goes P o a w (Left M w0 own0 s a.tmps.toList v) → st' = ⟨putD s.tm o.dst v, s.bx⟩ → o.wp P a w K Q := by
      intro s v hgo e
      refine hgo K Q fun r w' hl => hk _ _ ?_
      obtain ⟨own', nm', I', hr⟩ := hl
      subst e
      exact ⟨by rw [put_defers]; exact hd, own', nm', I'.put hr o.dst⟩
    have hpr : (h.cls.getD (clsOf y)) ≠ .w → ∀ v, evV call ⟨o.dst, withHint h y, g, h.cls.getD (clsOf y)⟩ st = some v → st' = ⟨putD st.tm o.dst v, st.bx⟩ →
        if Region.wanted o (yielded ops a.tmps) then o.wp P a w K Q ∨ (o.asks P a w ∧ LetsOut Q) else K (a.put o.dst undef) w := by
      intro hcl v hv e
      rcases evV_val hv with ⟨h1, rfl⟩ | ⟨h1, h2⟩
      · rw [guard_ok I hg h1]
        simp only [Bool.false_eq_true, if_false]
        subst e
        exact hk _ _ (skip st rfl)
      · rw [guard_ok I hg h1]
        simp only [if_true]
        refine .inl ?_
        simp only at h2
        split at h2
        · exact fin (evP_goes I hok hy h2) e
        · exact fin (evR_goes I hy h2) e
    cases hcl : h.cls.getD (clsOf y) with
    | w =>
      simp only [evOper, hcl] at he
      split at he
      · rename_i v s hv
        cases he
        simp only [evS] at hv
        split at hv
        · cases hv
        · rename_i hw
          cases hv
          rw [guard_ok I hg hw]
          simp only [Bool.false_eq_true, if_false]
          exact hk _ _ (skip st rfl)
        · rename_i hw
          rw [guard_ok I hg hw]
          simp only [if_true]
          exact .inl (fin (evW_goes I hok hy hv) rfl)
      · cases he
    | p =>
      simp only [evOper, hcl] at he
      split at he
      · rename_i v hv
        cases he
        exact hpr (by rw [hcl]; simp) v (by rw [hcl]; exact hv) rfl
      · cases he
    | r =>
      simp only [evOper, hcl] at he
      split at he
      · rename_i v hv
        cases he
        exact hpr (by rw [hcl]; simp) v (by rw [hcl]; exact hv) rfl
      · cases he
  · rename_i g hy hg
    cases hc
    simp only [evOper] at he
    split at he
    · rename_i v s hv
      cases he
      simp only [evS] at hv
      split at hv
      · cases hv
      · rename_i hw
        cases hv
        rw [guard_ok I hg hw]
        simp only [Bool.false_eq_true, if_false]
        exact hk _ _ ⟨by rw [put_defers]; exact hd, own, nm, I.put RA.skipped o.dst⟩
      · simp [evW] at hv
    · cases he
  · cases hc
theorem ops_ok {call : Oracle} (hok : OkOr P call) : ∀ {l : List Oper} {hs : List Hint} {xs : List XOper} {st st' : St} {a : Act} {w : World}, cmpOpers P ops l hs = some xs → Sat M w0 own0 st a w → evOps call xs st = some st' →
    (∀ a' w', Sat M w0 own0 st' a' w' → Q .normal a' w') → wpList P ops Q l a w
  | [], hs, xs, st, st', a, w, hc, hS, he, hq => by
    simp only [cmpOpers, Option.some.injEq] at hc
    subst hc
    simp only [evOps, Option.some.injEq] at he
    subst he
    exact hq _ _ hS
  | o :: l, hs, xs, st, st', a, w, hc, hS, he, hq => by
    simp only [cmpOpers] at hc
    split at hc
    · rename_i x xs' h1 h2
      cases hc
      simp only [evOps] at he
      split at he
      · rename_i st1 h3
        simp only [wpList]
        exact op_step hok h1 hS h3 fun a' w' hS' => ops_ok hok h2 hS' he hq
      · cases he
    · cases hc
end
end Go.Sx
