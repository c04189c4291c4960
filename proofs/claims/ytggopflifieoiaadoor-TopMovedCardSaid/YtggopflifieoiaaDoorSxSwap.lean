/- Two variables that are made in either order. -/
import Derived.Test.YtggopflifieoiaaDoorSxAny
namespace Go.Sx
open Go
def sw (n k : Nat) : Nat := if k = n then n + 1 else if k = n + 1 then n else k
theorem sw_sw (n k : Nat) : sw n (sw n k) = k := by
  unfold sw
  by_cases h : k = n
  · rw [if_pos h, if_neg (by omega), if_pos rfl]; exact h.symm
  · rw [if_neg h]
    by_cases h2 : k = n + 1
    · rw [if_pos h2, if_pos rfl]; exact h2.symm
    · rw [if_neg h2, if_neg h, if_neg h2]
theorem sw_lt {n k : Nat} (h : k < n) : sw n k = k := by unfold sw; rw [if_neg (by omega), if_neg (by omega)]
theorem sw_inj {n j k : Nat} (h : sw n j = sw n k) : j = k := by rw [← sw_sw n j, h, sw_sw]
def cr (n : Nat) : CV → CV := CV.ren (sw n)
def AV.rn0 (n : Nat) : AV → AV
  | .c x => .c (cr n x)
  | .agg cs => .agg (cs.map (cr n))
  | .tup vs => .tup vs
def AV.rn (n : Nat) : AV → AV
  | .c x => .c (cr n x)
  | .agg cs => .agg (cs.map (cr n))
  | .tup vs => .tup (vs.map (AV.rn0 n))
theorem cr_cr (n : Nat) (x : CV) : cr n (cr n x) = x := by
  cases x <;> simp [cr, CV.ren, sw_sw, Function.comp_def]
theorem cr_keys {n : Nat} {x : CV} (h : ∀ k ∈ x.keys, k < n) : cr n x = x := by
  cases x with
  | ms k o s m => simp only [cr, CV.ren, sw_lt (h k (by simp [CV.keys]))]
  | ptr k o => simp only [cr, CV.ren, sw_lt (h k (by simp [CV.keys]))]
  | mp k => simp only [cr, CV.ren, sw_lt (h k (by simp [CV.keys]))]
  | fn f caps =>
    simp only [cr, CV.ren]
    congr 1
    have : caps.map (sw n) = caps.map id := List.map_congr_left fun k hk => sw_lt (h k (by simpa [CV.keys] using hk))
    rw [this, List.map_id]
  | _ => rfl
theorem cr_none {n : Nat} {x : CV} (h : x.keys.isEmpty = true) : cr n x = x := cr_keys fun k hk => by
  rw [List.isEmpty_iff] at h; rw [h] at hk; cases hk
theorem crs_none {n : Nat} {cs : List CV} (h : (cs.all fun x => x.keys.isEmpty) = true) : cs.map (cr n) = cs := by
  have : cs.map (cr n) = cs.map id := List.map_congr_left fun x hx => cr_none (List.all_eq_true.1 h x hx)
  rw [this, List.map_id]
theorem getA_rn {n : Nat} {tm : List AV} {X : XArg} (h : litKey X = true) : getA (tm.map (AV.rn n)) X = (getA tm X).rn n := by
  cases X with
  | tmp t =>
    simp only [getA, List.getD_eq_getElem?_getD, List.getElem?_map]
    cases tm[t]? <;> rfl
  | lit a =>
    cases a with
    | c x => simp only [getA, AV.rn]; rw [cr_none (by simpa [litKey] using h)]
    | agg cs => simp only [getA, AV.rn]; rw [crs_none (by simpa [litKey] using h)]
    | tup vs => simp [litKey] at h
structure REq (n : Nat) (s s' : St) : Prop where
  tm : s'.tm = s.tm.map (AV.rn n)
  len : s'.bx.length = s.bx.length
  bx : ∀ k, s'.bx[sw n k]? = (s.bx[k]?).map (Box.map' (cr n))
theorem putD_rn (n : Nat) (d : Option Nat) (v : AV) (tm : List AV) : (putD tm d v).map (AV.rn n) = putD (tm.map (AV.rn n)) d (v.rn n) := by
  cases d with
  | none => rfl
  | some d => simp only [putD, List.map_set]
theorem takeB_rn {n : Nat} {cs : List CV} : ∀ (m off : Nat) (l : List CV), takeB m cs off = some l → takeB m (cs.map (cr n)) off = some (l.map (cr n))
  | 0, off, l, h => by simp only [takeB, Option.some.injEq] at h ⊢; subst h; rfl
  | m + 1, off, l, h => by
    simp only [takeB] at h ⊢
    split at h
    · rename_i p r hp hr
      cases h
      rw [List.getElem?_map, hp, takeB_rn m (off + 1) r hr]
      rfl
    · cases h
theorem takeC_rn {n : Nat} {cells : List PV} : ∀ (m off : Nat) (l : List CV), takeC m cells off = some l → l.map (cr n) = l
  | 0, off, l, h => by simp only [takeC, Option.some.injEq] at h; subst h; rfl
  | m + 1, off, l, h => by
    simp only [takeC] at h
    split at h
    · rename_i p r hp hr
      cases h
      rw [List.map_cons, takeC_rn m (off + 1) r hr]
      rfl
    · cases h
theorem takeR_rn {n m sz off : Nat} {es : List PV} {l : List CV} (h : takeR m sz es off = some l) : l.map (cr n) = l := by
  unfold takeR at h
  split at h
  · exact takeC_rn _ _ _ h
  · cases h
theorem look_rn {n : Nat} {b : Box} {m off : Nat} {l : List CV} (h : b.look m off = some l) : (b.map' (cr n)).look m off = some (l.map (cr n)) := by
  cases b with
  | cells cs => exact takeB_rn m off l h
  | row sz es => simp only [Box.look] at h; simp only [Box.map', Box.look]; rw [takeR_rn h]; exact h
  | _ => simp [Box.look] at h
theorem load_fin' {n : Nat} {ag : Bool} {l : List CV} {v : AV} (h : (if ag = true then some (AV.agg l) else match l with | [x] => some (.c x) | _ => none) = some v) :
    (if ag = true then some (AV.agg (l.map (cr n))) else match l.map (cr n) with | [x] => some (.c x) | _ => none) = some (v.rn n) := by
  cases ag with
  | true => simp only [if_true, Option.some.injEq] at h ⊢; subst h; rfl
  | false =>
    simp only [Bool.false_eq_true, if_false] at h ⊢
    split at h
    · rename_i x; cases h; rfl
    · cases h
theorem loadB_rn {n : Nat} {s s' : St} (h : REq n s s') {ag : Bool} {m k off : Nat} {v : AV} (hl : loadB s.bx ag m k off = some v) : loadB s'.bx ag m (sw n k) off = some (v.rn n) := by
  unfold loadB at hl ⊢
  rw [h.bx k]
  cases hb : s.bx[k]? with
  | none => rw [hb] at hl; simp at hl
  | some b =>
    rw [hb] at hl
    simp only [Option.bind_some, Option.map_some] at hl ⊢
    cases hk : b.look m off with
    | none => rw [hk] at hl; simp at hl
    | some l =>
      rw [hk] at hl
      rw [look_rn hk]
      exact load_fin' hl
theorem toPV_rn (n : Nat) (x : CV) : (cr n x).toPV = x.toPV := by cases x <;> rfl
theorem toPVs_rn (n : Nat) : ∀ l : List CV, toPVs (l.map (cr n)) = toPVs l
  | [] => rfl
  | x :: l => by simp only [List.map_cons, toPVs, toPV_rn, toPVs_rn n l]
theorem putB_rn {n : Nat} : ∀ {vs l l' : List CV} {c : Nat}, putB l c vs = some l' → putB (l.map (cr n)) c (vs.map (cr n)) = some (l'.map (cr n))
  | [], l, l', c, h => by simp only [putB, Option.some.injEq, List.map_nil] at h ⊢; rw [h]
  | x :: vs, l, l', c, h => by
    simp only [putB, List.map_cons, List.length_map] at h ⊢
    split at h
    · rename_i hc
      rw [if_pos hc, ← List.map_set]
      exact putB_rn h
    · cases h
theorem pvs_rn (n : Nat) (l : List PV) : (l.map CV.pv).map (cr n) = l.map CV.pv := by rw [List.map_map]; rfl
theorem put_rn {n : Nat} {b b' : Box} {off : Nat} {vs : List CV} (h : b.put off vs = some b') : (b.map' (cr n)).put off (vs.map (cr n)) = some (b'.map' (cr n)) := by
  cases b with
  | cells cs =>
    simp only [Box.put, Option.map_eq_some_iff] at h
    obtain ⟨l, hl, rfl⟩ := h
    simp only [Box.map', Box.put, putB_rn hl, Option.map_some]
  | row sz es =>
    simp only [Box.put, Option.map_eq_some_iff] at h
    obtain ⟨l, hl, rfl⟩ := h
    simp only [Box.map', Box.put]
    unfold putR at hl ⊢
    split at hl
    · rename_i e he
      rw [Option.map_eq_some_iff] at hl
      obtain ⟨e', he', rfl⟩ := hl
      unfold putE at he' ⊢
      rw [Option.map_eq_some_iff]
      refine ⟨_, ?_, rfl⟩
      rw [Option.map_eq_some_iff]
      refine ⟨e', ?_, rfl⟩
      cases hp : putB (e.cells.map .pv) (off % sz) vs with
      | none => rw [hp] at he'; simp at he'
      | some l =>
        rw [hp] at he'
        have := putB_rn (n := n) hp
        rw [pvs_rn] at this
        rw [this]
        simp only [Option.bind_some] at he' ⊢
        rw [toPVs_rn]
        exact he'
    · cases hl
  | _ => simp [Box.put] at h
theorem asI_rn (n : Nat) (x : AV) : asI (x.rn n) = asI x := by
  cases x with
  | c x => cases x <;> rfl
  | _ => rfl
theorem binV_rn {n : Nat} {op : BinOp} {a b v : AV} (h : binV op a b = some v) : binV op (a.rn n) (b.rn n) = some (v.rn n) := by
  have key : v.rn n = v ∧ a.rn n = a ∧ b.rn n = b := by
    unfold binV at h
    split at h
    · refine ⟨?_, rfl, rfl⟩
      split at h
      · rw [Option.map_eq_some_iff] at h
        obtain ⟨p, _, rfl⟩ := h; rfl
      · split at h
        · rw [Option.map_eq_some_iff] at h
          obtain ⟨p, _, rfl⟩ := h; rfl
        · cases h
    · refine ⟨?_, rfl, rfl⟩
      rw [Option.map_eq_some_iff] at h
      obtain ⟨p, _, rfl⟩ := h; rfl
    · cases h
  rw [key.1, key.2.1, key.2.2]; exact h
theorem flat_rn {n : Nat} {v : AV} (h : v.flat = true) : (v.rn n).flat = true ∧ (v.rn n).cells = v.cells.map (cr n) := by
  have hx : ∀ x : CV, x.flat = true → (cr n x).flat = true := fun x hx => by cases x <;> first | exact hx | rfl
  cases v with
  | c x => exact ⟨hx x h, rfl⟩
  | agg cs =>
    simp only [AV.flat, List.all_eq_true] at h
    simp only [AV.rn, AV.flat, List.all_eq_true, List.mem_map]
    exact ⟨by rintro _ ⟨x, hm, rfl⟩; exact hx x (h x hm), rfl⟩
  | tup vs => simp [AV.flat] at h
section
variable {call : Oracle} {n : Nat} {s s' t : St}
theorem evP_rn {o : XOper} (ho : renOp o = true) (hc : o.cls = .p) {v : AV} {tm : List AV} (h : evP call o.op tm = some v) : evP call o.op (tm.map (AV.rn n)) = some (v.rn n) := by
  simp only [renOp, Bool.and_eq_true, List.all_eq_true] at ho
  obtain ⟨⟨_, ha⟩, hk⟩ := ho
  rw [hc] at hk
  cases hop : o.op <;> rw [hop] at hk ha h <;> simp only [Bool.false_eq_true] at hk
  case mv x =>
    have hx := ha x (by simp [XOp.args])
    simp only [evP, Option.some.injEq] at h ⊢
    rw [getA_rn hx, h]
  case faddr off x =>
    have hx := ha x (by simp [XOp.args])
    simp only [evP] at h ⊢
    rw [getA_rn hx]
    split at h
    · rename_i k o' e; cases h; rw [e]; rfl
    · rename_i l o' e; cases h; rw [e]; rfl
    · cases h
  case convI k x =>
    have hx := ha x (by simp [XOp.args])
    simp only [evP] at h ⊢
    rw [getA_rn hx]
    split at h
    · rename_i k' m e; cases h; rw [e]; rfl
    · cases h
  case len x =>
    have hx := ha x (by simp [XOp.args])
    simp only [evP] at h ⊢
    rw [getA_rn hx]
    cases e : getA tm x with
    | c y =>
      rw [e] at h
      cases y with
      | ms k o' s' m => simp only [Option.some.injEq] at h; subst h; rfl
      | pv p =>
        simp only [Option.map_eq_some_iff] at h
        obtain ⟨es, h1, rfl⟩ := h
        simp only [AV.rn, cr, CV.ren, h1]; rfl
      | own i s' es => simp only [slEs, Option.map_some, Option.some.injEq] at h; subst h; rfl
      | _ => simp [slEs] at h
    | agg cs => rw [e] at h; simp at h
    | tup vs => rw [e] at h; simp at h
  case bin op x y =>
    have hx := ha x (by simp [XOp.args])
    have hy := ha y (by simp [XOp.args])
    simp only [evP] at h ⊢
    rw [getA_rn hx, getA_rn hy]
    exact binV_rn h
  case iaddrS sz x i =>
    have hx := ha x (by simp [XOp.args])
    have hi := ha i (by simp [XOp.args])
    simp only [evP] at h ⊢
    rw [getA_rn hx, getA_rn hi, asI_rn]
    cases e : getA tm x with
    | c y =>
      rw [e] at h
      cases ei : asI (getA tm i) with
      | none => rw [ei] at h; cases y <;> simp at h
      | some j =>
        rw [ei] at h
        cases y with
        | ms k o' s' m =>
          simp only at h
          split at h
          · rename_i hh
            cases h
            simp only [AV.rn, cr, CV.ren]
            rw [if_pos hh]
          · cases h
        | pv p =>
          have hv : v.rn n = v := by
            simp only at h
            split at h
            · split at h
              · split at h
                · cases h; rfl
                · cases h
              · cases h
            · cases h
          rw [hv]; exact h
        | own a b es =>
          have hv : v.rn n = v := by
            simp only at h
            split at h
            · split at h
              · split at h
                · cases h; rfl
                · cases h
              · cases h
            · cases h
          rw [hv]; exact h
        | _ => simp [slEs] at h
    | agg cs => rw [e] at h; simp at h
    | tup vs => rw [e] at h; simp at h
  case load ag m a =>
    have hx := ha a (by simp [XOp.args])
    simp only [evP] at h ⊢
    rw [getA_rn hx]
    split at h
    · rename_i cells off e
      rw [e]
      simp only [AV.rn, cr, CV.ren]
      split at h
      · rename_i l hl
        have := load_fin' (n := n) h
        rw [takeC_rn m off l hl] at this
        exact this
      · cases h
    · cases h
theorem evR_rn {o : XOper} (ho : renOp o = true) (hc : o.cls = .r) (hq : REq n s s') {v : AV} (h : evR o.op s.tm s.bx = some v) : evR o.op s'.tm s'.bx = some (v.rn n) := by
  simp only [renOp, Bool.and_eq_true, List.all_eq_true] at ho
  obtain ⟨⟨_, ha⟩, hk⟩ := ho
  rw [hc] at hk
  cases hop : o.op <;> rw [hop] at hk ha h <;> simp only [Bool.false_eq_true] at hk
  case load ag m a =>
    have hx := ha a (by simp [XOp.args])
    simp only [evR] at h ⊢
    rw [hq.tm, getA_rn hx]
    split at h
    · rename_i cells off e
      rw [e]
      simp only [AV.rn, cr, CV.ren]
      split at h
      · rename_i l hl
        have := load_fin' (n := n) h
        rw [takeC_rn m off l hl] at this
        exact this
      · cases h
    · rename_i k off e
      rw [e]
      exact loadB_rn hq h
    · cases h
  case loadR ag m a u =>
    have hx := ha a (by simp [XOp.args])
    have hu := ha u (by simp [XOp.args])
    simp only [evR] at h ⊢
    rw [hq.tm, getA_rn hx, getA_rn hu]
    split at h
    · rename_i k off k' o' e1 e2
      rw [e1, e2]
      split at h
      · rename_i hh
        subst hh
        simp only [AV.rn, cr, CV.ren]
        rw [if_pos trivial]
        exact loadB_rn hq h
      · cases h
    · cases h
theorem store_rn (hq : REq n s s') {k off : Nat} {b b' : Box} (hb : s.bx[k]? = some b) {vs : List CV} (hp : b.put off vs = some b') (m : Nat) :
    s'.bx[sw n k]? = some (b.map' (cr n)) ∧ (b.map' (cr n)).put off (vs.map (cr n)) = some (b'.map' (cr n)) ∧ REq n ⟨s.tm, s.bx.set k b'⟩ ⟨s'.tm, s'.bx.set (sw n k) (b'.map' (cr n))⟩ := by
  refine ⟨by rw [hq.bx, hb]; rfl, put_rn hp, hq.tm, by simp only [List.length_set]; exact hq.len, fun j => ?_⟩
  have hk : k < s.bx.length := (List.getElem?_eq_some_iff.1 hb).1
  have hk' : sw n k < s'.bx.length := by
    have : s'.bx[sw n k]? = some (b.map' (cr n)) := by rw [hq.bx, hb]; rfl
    exact (List.getElem?_eq_some_iff.1 this).1
  simp only [List.getElem?_set]
  by_cases hj : k = j
  · subst hj
    rw [if_pos rfl, if_pos rfl, if_pos hk, if_pos hk']; rfl
  · rw [if_neg (fun e => hj (sw_inj e)), if_neg hj]
    exact hq.bx j
theorem evOper_rn {o : XOper} (ho : renOp o = true) (hq : REq n s s') (he : evOper call o s = some t) : ∃ t', evOper call o s' = some t' ∧ REq n t t' ∧ t.bx.length = s.bx.length := by
  have hg : o.grd = none := by
    simp only [renOp, Bool.and_eq_true] at ho
    exact Option.isNone_iff_eq_none.1 ho.1.1
  have hw : ∀ tm, wantG tm o.grd = some true := fun tm => by rw [hg]; rfl
  unfold evOper at he ⊢
  cases hc : o.cls with
  | p =>
    simp only [hc] at he ⊢
    simp only [evV, hw, hc, if_true] at he ⊢
    split at he
    · rename_i v hv
      cases he
      rw [hq.tm, evP_rn ho hc hv]
      exact ⟨_, rfl, ⟨by rw [putD_rn], hq.len, hq.bx⟩, rfl⟩
    · cases he
  | r =>
    simp only [hc] at he ⊢
    simp only [evV, hw, hc] at he ⊢
    rw [if_neg (by decide)] at he ⊢
    split at he
    · rename_i v hv
      cases he
      rw [evR_rn ho hc hq hv]
      exact ⟨_, rfl, ⟨by rw [hq.tm, putD_rn], hq.len, hq.bx⟩, rfl⟩
    · cases he
  | w =>
    simp only [hc] at he ⊢
    simp only [evS, hw] at he ⊢
    simp only [renOp, Bool.and_eq_true, List.all_eq_true] at ho
    obtain ⟨⟨_, ha⟩, hk⟩ := ho
    rw [hc] at hk
    cases hop : o.op <;> rw [hop] at hk ha he <;> simp only [Bool.false_eq_true] at hk
    case store m a x =>
      have hA := ha a (by simp [XOp.args])
      have hX := ha x (by simp [XOp.args])
      simp only [evW] at he ⊢
      rw [hq.tm, getA_rn hA, getA_rn hX]
      cases e : getA s.tm a with
      | c y =>
        rw [e] at he
        cases y with
        | ptr k off =>
          simp only at he
          cases hb : s.bx[k]? with
          | none => rw [hb] at he; simp at he
          | some b =>
            rw [hb] at he
            simp only at he
            by_cases hf : (getA s.tm x).flat = true ∧ (getA s.tm x).cells.length = m ∧ 0 < m
            · rw [if_pos hf] at he
              cases hp : b.put off (getA s.tm x).cells with
              | none => rw [hp] at he; simp at he
              | some b' =>
                rw [hp] at he
                simp only [Option.some.injEq] at he
                subst he
                obtain ⟨h1, h2, h3⟩ := store_rn hq hb hp m
                have hfl := flat_rn (n := n) hf.1
                rw [show AV.rn n (.c (.ptr k off)) = .c (.ptr (sw n k) off) from rfl]
                simp only [h1]
                rw [if_pos ⟨hfl.1, by rw [hfl.2, List.length_map]; exact hf.2.1, hf.2.2⟩, hfl.2, h2]
                refine ⟨_, rfl, ⟨?_, h3.len, h3.bx⟩, by simp only [List.length_set]⟩
                rw [putD_rn]; rfl
            · rw [if_neg hf] at he; cases he
        | _ => simp at he
      | agg cs => rw [e] at he; simp at he
      | tup vs => rw [e] at he; simp at he
    case storeO m a x u =>
      have hA := ha a (by simp [XOp.args])
      have hX := ha x (by simp [XOp.args])
      have hU := ha u (by simp [XOp.args])
      simp only [evW] at he ⊢
      rw [hq.tm, getA_rn hA, getA_rn hX, getA_rn hU]
      cases e : getA s.tm a with
      | c y =>
        rw [e] at he
        cases y with
        | ptr k off =>
          cases eu : getA s.tm u with
          | c z =>
            rw [eu] at he
            cases z with
            | ptr k2 off2 =>
              simp only at he
              by_cases hkk : k = k2
              · rw [if_pos hkk] at he; cases he
              · rw [if_neg hkk] at he
                cases hb : s.bx[k]? with
                | none => rw [hb] at he; simp at he
                | some b =>
                  rw [hb] at he
                  simp only at he
                  by_cases hf : (getA s.tm x).flat = true ∧ (getA s.tm x).cells.length = m ∧ 0 < m
                  · rw [if_pos hf] at he
                    cases hp : b.put off (getA s.tm x).cells with
                    | none => rw [hp] at he; simp at he
                    | some b' =>
                      rw [hp] at he
                      simp only [Option.some.injEq] at he
                      subst he
                      obtain ⟨h1, h2, h3⟩ := store_rn hq hb hp m
                      have hfl := flat_rn (n := n) hf.1
                      rw [show AV.rn n (.c (.ptr k off)) = .c (.ptr (sw n k) off) from rfl, show AV.rn n (.c (.ptr k2 off2)) = .c (.ptr (sw n k2) off2) from rfl]
                      simp only [h1]
                      rw [if_neg (fun e => hkk (sw_inj e)), if_pos ⟨hfl.1, by rw [hfl.2, List.length_map]; exact hf.2.1, hf.2.2⟩, hfl.2, h2]
                      refine ⟨_, rfl, ⟨?_, h3.len, h3.bx⟩, by simp only [List.length_set]⟩
                      rw [putD_rn]; rfl
                  · rw [if_neg hf] at he; cases he
            | _ => simp at he
          | agg cs => rw [eu] at he; simp at he
          | tup vs => rw [eu] at he; simp at he
        | _ => simp at he
      | agg cs => rw [e] at he; simp at he
      | tup vs => rw [e] at he; simp at he
theorem evI_rn {xs : List XOper} : ∀ {l : List Nat} {s s' t : St}, (∀ i ∈ l, ∃ x, xs[i]? = some x ∧ renOp x = true) → REq n s s' → evI call xs l s = some t → ∃ t', evI call xs l s' = some t' ∧ REq n t t' ∧ t.bx.length = s.bx.length
  | [], s, s', t, _, hq, h => by
    simp only [evI, Option.some.injEq] at h ⊢
    subst h
    exact ⟨s', rfl, hq, rfl⟩
  | i :: l, s, s', t, hl, hq, h => by
    obtain ⟨x, hx, ho⟩ := hl i (by simp)
    simp only [evI, hx] at h ⊢
    split at h
    · rename_i s1 h1
      obtain ⟨s1', e1, hq1, len1⟩ := evOper_rn ho hq h1
      obtain ⟨t', e2, hq2, len2⟩ := evI_rn (fun j hj => hl j (by simp [hj])) hq1 h
      simp only [e1]
      exact ⟨t', e2, hq2, by rw [len2, len1]⟩
    · cases h
theorem evI_app {xs : List XOper} : ∀ {l m : List Nat} {s : St}, evI call xs (l ++ m) s = (evI call xs l s).bind (evI call xs m)
  | [], m, s => rfl
  | i :: l, m, s => by
    simp only [List.cons_append, evI]
    cases xs[i]? with
    | none => rfl
    | some x =>
      simp only
      cases evOper call x s with
      | none => rfl
      | some s1 => exact evI_app
def mkOp (o : XOper) (d : Nat) (z : List CV) : Prop := o.dst = some d ∧ o.op = .alloc z ∧ o.grd = none ∧ o.cls = .w ∧ (z.all fun x => x.keys.isEmpty) = true
theorem mk_ev {o : XOper} {d : Nat} {z : List CV} (h : mkOp o d z) (s : St) : evOper call o s = some ⟨s.tm.set d (.c (.ptr s.bx.length 0)), s.bx ++ [.cells z]⟩ := by
  obtain ⟨h1, h2, h3, h4, _⟩ := h
  unfold evOper
  rw [h4]
  simp only [evS, h3, wantG, h2, evW, h1, putD]
theorem swap_ok {xs : List XOper} {pre r : List Nat} {A B a b : Nat} {x y : XOper} {za zb : List CV} (hp : ∀ i ∈ pre, ∃ x, xs[i]? = some x ∧ renOp x = true) (hr : ∀ i ∈ r, ∃ x, xs[i]? = some x ∧ renOp x = true)
    (hx : xs[A]? = some x) (hy : xs[B]? = some y) (hA : mkOp x a za) (hB : mkOp y b zb) (hab : a ≠ b) {st F1 : St} (hq : REq st.bx.length st st) (h : evI call xs (pre ++ A :: B :: r) st = some F1) :
    ∃ F2, evI call xs (pre ++ B :: A :: r) st = some F2 ∧ REq st.bx.length F1 F2 ∧ F1.bx.length = st.bx.length + 2 := by
  rw [evI_app] at h ⊢
  cases hsp : evI call xs pre st with
  | none => rw [hsp] at h; simp at h
  | some sp =>
    rw [hsp] at h
    simp only [Option.bind_some] at h ⊢
    obtain ⟨sp', e1, hq1, len1⟩ := evI_rn hp hq hsp
    rw [hsp] at e1
    cases e1
    simp only [evI, hx, hy, mk_ev hA, mk_ev hB] at h ⊢
    have hz : ∀ {z : List CV}, (z.all fun x => x.keys.isEmpty) = true → (Box.cells z).map' (cr st.bx.length) = .cells z := fun hz => by
      simp only [Box.map', crs_none hz]
    have hq2 : REq st.bx.length ⟨(sp.tm.set a (.c (.ptr sp.bx.length 0))).set b (.c (.ptr (sp.bx ++ [Box.cells za]).length 0)), sp.bx ++ [.cells za] ++ [.cells zb]⟩
        ⟨(sp.tm.set b (.c (.ptr sp.bx.length 0))).set a (.c (.ptr (sp.bx ++ [Box.cells zb]).length 0)), sp.bx ++ [.cells zb] ++ [.cells za]⟩ := by
      refine ⟨?_, by simp, fun k => ?_⟩
      · have e : sp.tm.map (AV.rn st.bx.length) = sp.tm := hq1.tm.symm
        simp only [List.map_set, e, List.length_append, List.length_singleton]
        rw [len1, List.set_comm _ _ hab]
        simp only [AV.rn, cr, CV.ren]
        rw [show sw st.bx.length st.bx.length = st.bx.length + 1 by simp [sw], show sw st.bx.length (st.bx.length + 1) = st.bx.length by simp [sw]]
      · have len1' : sp.bx.length = st.bx.length := len1
        have app : ∀ (u v : Box), (sp.bx ++ [u] ++ [v])[st.bx.length]? = some u ∧ (sp.bx ++ [u] ++ [v])[st.bx.length + 1]? = some v := fun u v => by
          rw [← len1']; constructor <;> simp
        show (sp.bx ++ [Box.cells zb] ++ [Box.cells za])[sw st.bx.length k]? = ((sp.bx ++ [Box.cells za] ++ [Box.cells zb])[k]?).map (Box.map' (cr st.bx.length))
        by_cases h1 : k < st.bx.length
        · have := hq1.bx k
          rw [sw_lt h1] at this ⊢
          rw [List.append_assoc, List.append_assoc, List.getElem?_append_left (by omega), List.getElem?_append_left (by omega)]
          exact this
        · by_cases h2 : k = st.bx.length
          · rw [h2, show sw st.bx.length st.bx.length = st.bx.length + 1 by simp [sw], (app _ _).1, (app _ _).2]
            simp [hz hA.2.2.2.2]
          · by_cases h3 : k = st.bx.length + 1
            · rw [h3, show sw st.bx.length (st.bx.length + 1) = st.bx.length by simp [sw], (app _ _).1, (app _ _).2]
              simp [hz hB.2.2.2.2]
            · rw [show sw st.bx.length k = k by simp [sw, h2, h3], List.getElem?_eq_none (by simp; omega), List.getElem?_eq_none (by simp; omega)]
              rfl
    obtain ⟨F2, e2, hq3, len3⟩ := evI_rn hr hq2 h
    refine ⟨F2, e2, hq3, ?_⟩
    rw [len3]; simp; exact len1
end
end Go.Sx
