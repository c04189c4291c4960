/- The evaluator without fuel. -/
import Derived.Test.YtggopflifieoiaaDoorSxFun
namespace Go.Sx
open Go
def OLe {α : Type} (a b : Option α) : Prop := ∀ r, a = some r → b = some r
theorem OLe.refl {α : Type} (a : Option α) : OLe a a := fun _ h => h
def Le (c c' : Oracle) : Prop := ∀ f a b, OLe (c f a b) (c' f a b)
section
variable {call call' : Oracle}
theorem evP_mono (h : Le call call') (op : XOp) (tm : List AV) : OLe (evP call op tm) (evP call' op tm) := by
  intro r hr
  cases op with
  | call fz ap f as =>
    simp only [evP] at hr ⊢
    split at hr
    · split at hr
      · rename_i hall
        rw [if_pos hall]
        split at hr
        · rename_i v hv
          rw [h _ _ _ _ hv]
          exact hr
        · cases hr
      · cases hr
    · cases hr
  | _ => exact hr
theorem callW_mono (h : Le call call') (d : Option Nat) (fz : Bool) (ap : List XArg) (f : XArg) (as : List XArg) (st : St) : OLe (callW call d fz ap f as st) (callW call' d fz ap f as st) := by
  intro r hr
  simp only [callW] at hr ⊢
  generalize (if fz = true then St.freeze (fun k => ((as.map (getA st.tm)).flatMap AV.all |>.flatMap msKeys).contains k) st else st) = st1 at hr ⊢
  split at hr
  · split at hr
    · rename_i hall
      rw [if_pos hall]
      split at hr
      · split at hr
        · rename_i v bs hv
          rw [h _ _ _ _ hv]
          exact hr
        · cases hr
      · cases hr
    · cases hr
  · cases hr
theorem evW_mono (h : Le call call') (d : Option Nat) (op : XOp) (st : St) : OLe (evW call d op st) (evW call' d op st) := by
  cases op with
  | call fz ap f as => exact callW_mono h d fz ap f as st
  | callM f as =>
    intro r hr
    simp only [evW, callMV] at hr ⊢
    split at hr
    · split at hr
      · rename_i hall
        rw [if_pos hall]
        split at hr
        · rename_i e
          rw [h _ _ _ _ e]
          exact hr
        · cases hr
      · cases hr
    · cases hr
  | _ => exact fun r hr => hr
theorem evV_mono (h : Le call call') (o : XOper) (st : St) : OLe (evV call o st) (evV call' o st) := by
  intro r hr
  unfold evV at hr ⊢
  split at hr
  · cases hr
  · exact hr
  · split
    · rename_i hc; rw [if_pos hc] at hr; exact evP_mono h _ _ _ hr
    · rename_i hc; rw [if_neg hc] at hr; exact hr
theorem evS_mono (h : Le call call') (o : XOper) (st : St) : OLe (evS call o st) (evS call' o st) := by
  intro r hr
  unfold evS at hr ⊢
  split at hr
  · cases hr
  · exact hr
  · exact evW_mono h _ _ _ _ hr
theorem evOper_mono (h : Le call call') (o : XOper) (st : St) : OLe (evOper call o st) (evOper call' o st) := by
  intro r hr
  unfold evOper at hr ⊢
  split
  · rename_i hc
    simp only [hc] at hr
    split at hr
    · rename_i v s hv; rw [evS_mono h _ _ _ hv]; exact hr
    · cases hr
  · split at hr
    · rename_i hc; rename_i hne; first | exact absurd hc hne | exact absurd hc (by assumption)
    · split at hr
      · rename_i v hv; rw [evV_mono h _ _ _ hv]; exact hr
      · cases hr
theorem evOps_mono (h : Le call call') : ∀ (l : List XOper) (st : St), OLe (evOps call l st) (evOps call' l st)
  | [], st => fun _ hr => hr
  | o :: l, st => by
    intro r hr
    simp only [evOps] at hr ⊢
    split at hr
    · rename_i s hs; rw [evOper_mono h _ _ _ hs]; exact evOps_mono h l s r hr
    · cases hr
theorem evL_mono {b b' : St → Option (XExit × St)} (h : ∀ st, OLe (b st) (b' st)) (m : List Bool) (L : Nat) : ∀ {n n' : Nat} (_ : n ≤ n') (st : St), OLe (evL b m L n st) (evL b' m L n' st)
  | 0, n', _, st => fun r hr => by simp [evL] at hr
  | n + 1, 0, hn, st => by omega
  | n + 1, n' + 1, hn, st => by
    intro r hr
    simp only [evL] at hr ⊢
    split at hr
    · rename_i s hs; rw [h _ _ hs]; exact evL_mono h m L (by omega) s r hr
    · rename_i hne
      rw [h _ _ hr]
      split
      · rename_i e; cases e; exact absurd hr (hne _)
      · rfl
theorem evC_mono (h : Le call call') {n n' : Nat} (hn : n ≤ n') : ∀ (x : XCode) (st : St), OLe (evC call n x st) (evC call' n' x st)
  | .skip, st => fun _ hr => hr
  | .region _ l, st => by
    intro r hr
    simp only [evC] at hr ⊢
    obtain ⟨s, h1, h2⟩ := Option.map_eq_some_iff.1 hr
    rw [evOps_mono h _ _ _ h1, ← h2]; rfl
  | .seq a b, st => by
    intro r hr
    simp only [evC] at hr ⊢
    split at hr
    · rename_i s hs; rw [evC_mono h hn a _ _ hs]; exact evC_mono h hn b s r hr
    · rename_i hne
      rw [evC_mono h hn a _ _ hr]
      split
      · rename_i e; cases e; exact absurd hr (hne _)
      · rfl
  | .cond c a b, st => by
    intro r hr
    simp only [evC] at hr ⊢
    split at hr
    · rename_i t ht
      split
      · rename_i hc; rw [if_pos hc] at hr; exact evC_mono h hn a _ _ hr
      · rename_i hc; rw [if_neg hc] at hr; exact evC_mono h hn b _ _ hr
    · cases hr
  | .block id c, st => by
    intro r hr
    simp only [evC] at hr ⊢
    split at hr
    · rename_i j s hs; rw [evC_mono h hn c _ _ hs]; exact hr
    · rename_i hne
      rw [evC_mono h hn c _ _ hr]
      split
      · rename_i e; cases e; exact absurd hr (hne _ _)
      · rfl
  | .loop m c, st => fun r hr => by
    simp only [evC] at hr ⊢
    exact evL_mono (fun st => evC_mono h hn c st) m _ hn st r hr
  | .exit id, st => fun _ hr => hr
  | .scope c, st => fun r hr => by simp only [evC] at hr ⊢; exact evC_mono h hn c st r hr
  | .label, st => fun _ hr => hr
  | .ret, st => fun _ hr => hr
  | .tr m cut c, st => fun r hr => by
    simp only [evC] at hr ⊢
    split at hr
    · rename_i e s hs; rw [evC_mono h hn c _ _ hs]; exact hr
    · cases hr
theorem runF_mono (h : Le call call') {n n' : Nat} (hn : n ≤ n') (x : XFunc) (args : List AV) (bx : List Box) : OLe (runF call n x args bx) (runF call' n' x args bx) := by
  intro r hr
  simp only [runF] at hr ⊢
  cases hq : evC call n x.body ⟨args ++ List.replicate (x.nt - args.length) .undef, bx⟩ with
  | none => rw [hq] at hr; cases hr
  | some q => rw [hq] at hr; rw [evC_mono h hn x.body _ _ hq]; exact hr
theorem evF_succ (X : Nat → Option XFunc) (E : Oracle) : ∀ n, Le (evF X E n) (evF X E (n + 1))
  | 0 => fun f a b r hr => by simp [evF] at hr
  | n + 1 => fun f a b r hr => by
    simp only [evF] at hr ⊢
    split at hr
    · exact runF_mono (evF_succ X E n) (by omega) _ _ _ _ hr
    · exact hr
theorem evF_mono (X : Nat → Option XFunc) (E : Oracle) {n m : Nat} (h : n ≤ m) : Le (evF X E n) (evF X E m) := by
  induction h with
  | refl => exact fun f a b => OLe.refl _
  | step _ ih => exact fun f a b r hr => evF_succ X E _ f a b r (ih f a b r hr)
end
open Classical in
noncomputable def lim {α : Type} (g : Nat → Option α) : Option α := if h : ∃ n, (g n).isSome = true then g (Classical.choose h) else none
theorem lim_of {α : Type} {g : Nat → Option α} (hm : ∀ n m, n ≤ m → OLe (g n) (g m)) {n : Nat} {r : α} (h : g n = some r) : lim g = some r := by
  unfold lim
  have hex : ∃ n, (g n).isSome = true := ⟨n, by rw [h]; rfl⟩
  rw [dif_pos hex]
  have h1 := Classical.choose_spec hex
  cases h2 : g (Classical.choose hex) with
  | none => rw [h2] at h1; cases h1
  | some q =>
    have a := hm _ (max n (Classical.choose hex)) (Nat.le_max_left _ _) _ h
    have b := hm _ (max n (Classical.choose hex)) (Nat.le_max_right _ _) _ h2
    rw [a] at b; exact b.symm
theorem lim_ex {α : Type} {g : Nat → Option α} {r : α} (h : lim g = some r) : ∃ n, g n = some r := by
  unfold lim at h
  split at h
  · exact ⟨_, h⟩
  · cases h
noncomputable def ev (X : Nat → Option XFunc) (E : Oracle) : Oracle := fun f a b => lim fun n => evF X E n f a b
noncomputable def lv (body : St → Option (XExit × St)) (m : List Bool) (L : Nat) (st : St) : Option (XExit × St) := lim fun n => evL body m L n st
noncomputable def cv (call : Oracle) : XCode → St → Option (XExit × St)
  | .skip, st => some (.normal, st)
  | .region _ ops, st => (evOps call ops st).map fun s => (.normal, s)
  | .seq a b, st => match cv call a st with
    | some (.normal, st') => cv call b st'
    | r => r
  | .cond c a b, st => match getA st.tm c with
    | .c (.pv (.bool t)) => if t then cv call a st else cv call b st
    | _ => none
  | .block id c, st => match cv call c st with
    | some (.exit j, st') => if j = id then some (.normal, st') else some (.exit j, st')
    | r => r
  | .loop m c, st => lv (cv call c) m st.bx.length st
  | .exit id, st => some (.exit id, st)
  | .scope c, st => cv call c st
  | .label, st => some (.normal, st)
  | .ret, st => some (.ret, st)
  | .tr m cut c, st => match cv call c st with
    | some (e, st') => some (e, trSt m cut st.bx.length st')
    | none => none
noncomputable def rv (call : Oracle) (x : XFunc) (args : List AV) (bx : List Box) : Option (AV × List Box) :=
  match cv call x.body ⟨args ++ List.replicate (x.nt - args.length) .undef, bx⟩ with
  | some (.exit _, _) => none
  | some (_, st) => match getRes st x.res with
    | some vs => if vs.all noTup then some (leave bx.length (packRes vs) st.bx) else none
    | none => none
  | none => none
theorem lv_eq (body : St → Option (XExit × St)) (m : List Bool) (L : Nat) (st : St) : lv body m L st = match body (trimSt m L st) with
    | some (.normal, st') => lv body m L st'
    | r => r := by
  have hm : ∀ (st : St) n m', n ≤ m' → OLe (evL body m L n st) (evL body m L m' st) := fun st n m' h => evL_mono (fun _ => OLe.refl _) m L h st
  have step : ∀ n, evL body m L (n + 1) st = match body (trimSt m L st) with
    | some (.normal, st') => evL body m L n st'
    | r => r := fun n => rfl
  cases hb : body (trimSt m L st) with
  | none =>
    simp only
    cases hl : lv body m L st with
    | none => rfl
    | some r =>
      obtain ⟨n, hn⟩ := lim_ex hl
      cases n with
      | zero => simp [evL] at hn
      | succ n => rw [step, hb] at hn; cases hn
  | some q =>
    obtain ⟨e, s⟩ := q
    cases e with
    | normal =>
      simp only
      cases hl : lv body m L s with
      | none =>
        cases hl2 : lv body m L st with
        | none => rfl
        | some r =>
          obtain ⟨n, hn⟩ := lim_ex hl2
          cases n with
          | zero => simp [evL] at hn
          | succ n =>
            rw [step, hb] at hn
            have := lim_of (hm s) (n := n) hn
            rw [show lim (fun n => evL body m L n s) = lv body m L s from rfl, hl] at this
            cases this
      | some r =>
        obtain ⟨n, hn⟩ := lim_ex hl
        exact lim_of (hm st) (n := n + 1) (by rw [step, hb]; exact hn)
    | exit id => exact lim_of (hm st) (n := 1) (by rw [step, hb])
    | ret => exact lim_of (hm st) (n := 1) (by rw [step, hb])
section
variable {X : Nat → Option XFunc} {E : Oracle}
theorem ev_of {n f : Nat} {a : List AV} {b : List Box} {r : AV × List Box} (h : evF X E n f a b = some r) : ev X E f a b = some r := lim_of (g := fun n => evF X E n f a b) (fun _ _ hnm => evF_mono X E hnm f a b) h
theorem evP_lim {op : XOp} {tm : List AV} {v : AV} (h : evP (ev X E) op tm = some v) : ∃ n, evP (evF X E n) op tm = some v := by
  cases op with
  | call fz ap f as =>
    simp only [evP] at h
    split at h
    · rename_i g e
      split at h
      · rename_i hall
        split at h
        · rename_i r hr
          obtain ⟨n, hn⟩ := lim_ex hr
          refine ⟨n, ?_⟩
          simp only [evP, e]
          rw [if_pos hall]
          simp only [hn]
          exact h
        · cases h
      · cases h
    · cases h
  | _ => exact ⟨0, h⟩
theorem callW_lim {d : Option Nat} {fz : Bool} {ap : List XArg} {f : XArg} {as : List XArg} {st : St} {r : AV × St} (h : callW (ev X E) d fz ap f as st = some r) : ∃ n, callW (evF X E n) d fz ap f as st = some r := by
  simp only [callW] at h
  generalize hs : (if fz = true then St.freeze (fun k => ((as.map (getA st.tm)).flatMap AV.all |>.flatMap msKeys).contains k) st else st) = st1 at h
  split at h
  · rename_i g caps e
    split at h
    · rename_i hall
      split at h
      · rename_i sub hsub
        split at h
        · rename_i v bs hv
          obtain ⟨n, hn⟩ := lim_ex hv
          refine ⟨n, ?_⟩
          simp only [callW, hs, e]
          rw [if_pos hall]
          simp only [hsub, hn]
          exact h
        · cases h
      · cases h
    · cases h
  · cases h
theorem evOper_lim {o : XOper} {st st' : St} (h : evOper (ev X E) o st = some st') : ∃ n, evOper (evF X E n) o st = some st' := by
  have hv : ∀ v, evV (ev X E) o st = some v → ∃ n, evV (evF X E n) o st = some v := by
    intro v hv
    simp only [evV] at hv ⊢
    split at hv
    · cases hv
    · exact ⟨0, hv⟩
    · by_cases hc : o.cls = .p
      · simp only [hc, if_true] at hv ⊢; exact evP_lim hv
      · simp only [hc, if_false] at hv ⊢; exact ⟨0, hv⟩
  have hS : ∀ v, evS (ev X E) o st = some v → ∃ n, evS (evF X E n) o st = some v := by
    intro v hv
    simp only [evS] at hv ⊢
    split at hv
    · cases hv
    · exact ⟨0, hv⟩
    · cases hop : o.op with
      | call fz ap f as => rw [hop] at hv; exact callW_lim hv
      | callM f as =>
        rw [hop] at hv
        simp only [evW, callMV] at hv ⊢
        split at hv
        · rename_i g e
          split at hv
          · rename_i hall
            split at hv
            · rename_i i sz es hr
              obtain ⟨n, hn⟩ := lim_ex hr
              refine ⟨n, ?_⟩
              rw [if_pos hall, hn]
              exact hv
            · cases hv
          · cases hv
        · cases hv
      | _ => rw [hop] at hv; exact ⟨0, hv⟩
  cases hc : o.cls with
  | w =>
    simp only [evOper, hc] at h ⊢
    split at h
    · rename_i v s hvs
      obtain ⟨n, hn⟩ := hS _ hvs
      exact ⟨n, by rw [hn]; exact h⟩
    · cases h
  | p =>
    simp only [evOper, hc] at h ⊢
    split at h
    · rename_i v hvs
      obtain ⟨n, hn⟩ := hv _ hvs
      exact ⟨n, by rw [hn]; exact h⟩
    · cases h
  | r =>
    simp only [evOper, hc] at h ⊢
    split at h
    · rename_i v hvs
      obtain ⟨n, hn⟩ := hv _ hvs
      exact ⟨n, by rw [hn]; exact h⟩
    · cases h
theorem evOps_lim : ∀ {l : List XOper} {st st' : St}, evOps (ev X E) l st = some st' → ∃ n, evOps (evF X E n) l st = some st'
  | [], st, st', h => ⟨0, h⟩
  | o :: l, st, st', h => by
    simp only [evOps] at h
    split at h
    · rename_i s hs
      obtain ⟨n, hn⟩ := evOper_lim hs
      obtain ⟨m, hm⟩ := evOps_lim h
      refine ⟨max n m, ?_⟩
      simp only [evOps]
      rw [evOper_mono (evF_mono X E (Nat.le_max_left n m)) _ _ _ hn]
      exact evOps_mono (evF_mono X E (Nat.le_max_right n m)) _ _ _ hm
    · cases h
theorem cv_lim : ∀ {x : XCode} {st : St} {r : XExit × St}, cv (ev X E) x st = some r → ∃ n, evC (evF X E n) n x st = some r
  | .skip, st, r, h => ⟨0, h⟩
  | .label, st, r, h => ⟨0, h⟩
  | .exit _, st, r, h => ⟨0, h⟩
  | .ret, st, r, h => ⟨0, h⟩
  | .tr m cut c, st, r, h => by
    simp only [cv] at h
    split at h
    · rename_i e s hs
      obtain ⟨n, hn⟩ := cv_lim hs
      exact ⟨n, by simp only [evC, hn]; exact h⟩
    · cases h
  | .scope c, st, r, h => by simp only [cv] at h; obtain ⟨n, hn⟩ := cv_lim h; exact ⟨n, by simpa only [evC] using hn⟩
  | .region _ l, st, r, h => by
    simp only [cv] at h
    obtain ⟨s, h1, rfl⟩ := Option.map_eq_some_iff.1 h
    obtain ⟨n, hn⟩ := evOps_lim h1
    exact ⟨n, by simp only [evC, hn]; rfl⟩
  | .seq a b, st, r, h => by
    simp only [cv] at h
    split at h
    · rename_i s hs
      obtain ⟨n, hn⟩ := cv_lim hs
      obtain ⟨m, hm⟩ := cv_lim h
      refine ⟨max n m, ?_⟩
      simp only [evC]
      rw [evC_mono (evF_mono X E (Nat.le_max_left n m)) (Nat.le_max_left n m) _ _ _ hn]
      exact evC_mono (evF_mono X E (Nat.le_max_right n m)) (Nat.le_max_right n m) _ _ _ hm
    · rename_i hne
      obtain ⟨n, hn⟩ := cv_lim h
      refine ⟨n, ?_⟩
      simp only [evC, hn]
      split
      · rename_i e; cases e; exact absurd h (hne _)
      · rfl
  | .cond c a b, st, r, h => by
    simp only [cv] at h
    split at h
    · rename_i t ht
      cases t with
      | true => obtain ⟨n, hn⟩ := cv_lim (x := a) (by simpa using h); exact ⟨n, by simp only [evC, ht, if_true]; exact hn⟩
      | false => obtain ⟨n, hn⟩ := cv_lim (x := b) (by simpa using h); exact ⟨n, by simp only [evC, ht, Bool.false_eq_true, if_false]; exact hn⟩
    · cases h
  | .block id c, st, r, h => by
    simp only [cv] at h
    split at h
    · rename_i j s hs
      obtain ⟨n, hn⟩ := cv_lim hs
      exact ⟨n, by simp only [evC, hn]; exact h⟩
    · rename_i hne
      obtain ⟨n, hn⟩ := cv_lim h
      refine ⟨n, ?_⟩
      simp only [evC, hn]
      split
      · rename_i e; cases e; exact absurd h (hne _ _)
      · rfl
  | .loop m c, st, r, h => by
    simp only [cv] at h
    obtain ⟨k, hk⟩ := lim_ex h
    simp only [evC]
    have key : ∀ (L k : Nat) (st : St), evL (cv (ev X E) c) m L k st = some r → ∃ n, evL (evC (evF X E n) n c) m L n st = some r := by
      intro L k
      induction k with
      | zero => intro st hk; simp [evL] at hk
      | succ k ih =>
        intro st hk
        simp only [evL] at hk
        split at hk
        · rename_i s hs
          obtain ⟨n1, h1⟩ := cv_lim hs
          obtain ⟨n2, h2⟩ := ih s hk
          refine ⟨max n1 n2 + 1, ?_⟩
          simp only [evL]
          rw [evC_mono (evF_mono X E (show n1 ≤ max n1 n2 + 1 by omega)) (show n1 ≤ max n1 n2 + 1 by omega) _ _ _ h1]
          exact evL_mono (fun st => evC_mono (evF_mono X E (show n2 ≤ max n1 n2 + 1 by omega)) (by omega) c st) m L (by omega) s r h2
        · rename_i hne
          obtain ⟨n1, h1⟩ := cv_lim hk
          refine ⟨n1 + 1, ?_⟩
          simp only [evL]
          rw [evC_mono (evF_mono X E (show n1 ≤ n1 + 1 by omega)) (show n1 ≤ n1 + 1 by omega) _ _ _ h1]
          split
          · rename_i e; cases e; exact absurd hk (hne _)
          · rfl
    exact key _ k st hk
theorem rv_ev {f : Nat} {x : XFunc} (hx : X f = some x) {args : List AV} {bx : List Box} {r : AV × List Box} (h : rv (ev X E) x args bx = some r) : ev X E f args bx = some r := by
  simp only [rv] at h
  cases hq : cv (ev X E) x.body ⟨args ++ List.replicate (x.nt - args.length) .undef, bx⟩ with
  | none => rw [hq] at h; cases h
  | some q =>
    rw [hq] at h
    obtain ⟨n, hn⟩ := cv_lim hq
    refine ev_of (n := n + 1) ?_
    simp only [evF, hx, runF, hn]
    exact h
theorem ev_ok {P : Program} (hX : ∀ f x, X f = some x → ∃ h, cmpFunc P f h = some x) (hE : OkOr P E) (hmo : P.follows .mixedOrders = true) : OkOr P (ev X E) := fun f args bx r bx' h => by
  obtain ⟨n, hn⟩ := lim_ex h
  exact evF_ok hX hE hmo n f args bx r bx' hn
end
end Go.Sx
