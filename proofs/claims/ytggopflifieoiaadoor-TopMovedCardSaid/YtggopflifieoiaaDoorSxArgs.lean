/- What an argument that reads is, as a plain value. -/
import Derived.Test.YtggopflifieoiaaDoorSxLim
import Derived.DataReads
import Derived.DataElems
import Derived.ChangeArms
import Derived.OpenShut
import Derived.ChangeOld
import Derived.Below
namespace Go.Sx
open Go Go.RowKit
inductive CT where
  | int (k : IntKind)
  | bool
  | str
  | sl (el : List CT)
  deriving Inhabited, Repr
inductive WT : CT → PV → Prop
  | int {k : IntKind} {n : Int} (h : (Lit.int k n).wf = true) : WT (.int k) (.int k n)
  | bool (b : Bool) : WT .bool (.bool b)
  | str {l : List UInt8} (h : l.length ≤ maxLen) : WT .str (.str l)
  | nil (el : List CT) : WT (.sl el) (.sl .nil el.length [])
  | sl (el : List CT) (es : List PV) (hl : es.length ≤ maxLen) (hs : ∀ e ∈ es, e.cells.length = el.length ∧ (el.length = 1 → e.flat = true) ∧ (el.length ≠ 1 → e = .agg e.cells))
      (hc : ∀ e ∈ es, ∀ (i : Nat) (c : CT) (p : PV), el[i]? = some c → e.cells[i]? = some p → WT c p) : WT (.sl el) (.sl .shut el.length es)
theorem WT.flat {c : CT} {p : PV} (h : WT c p) : p.flat = true := by cases h <;> rfl
def ctsF (P : Program) (rec : TypeId → Option (List CT)) : Nat → List Field → Option (List CT)
  | _, [] => some []
  | off, f :: fs => match rec f.type with
    | some l => if f.offset = off ∧ P.cellsOf f.type = l.length then (ctsF P rec (off + l.length) fs).map (l ++ ·) else none
    | none => none
def ctsR (l : List CT) : Nat → List CT
  | 0 => []
  | n + 1 => l ++ ctsR l n
def cts (P : Program) : Nat → TypeId → Option (List CT)
  | 0, _ => none
  | d + 1, t => match P.underlying t with
    | some .bool => some [.bool]
    | some (.int k) => some [.int k]
    | some .string => some [.str]
    | some (.slice e) => match cts P d e with
      | some l => if P.cellsOf e = l.length ∧ 0 < l.length then some [.sl l] else none
      | none => none
    | some (.struct fs) => match ctsF P (cts P d) 0 fs.toList with
      | some l => if P.cellsOf t = l.length then some l else none
      | none => none
    | some (.array n e) => match cts P d e with
      | some l => if P.cellsOf e = l.length ∧ P.cellsOf t = n * l.length then some (ctsR l n) else none
      | none => none
    | _ => none
def Reads (w : World) (l : List CT) (cs : List Value) : Prop :=
  ∃ ps : List PV, All2 WT l ps ∧ ∀ own : Own, (∀ g, own g = none) → All2 (RP w own) ps cs
section
variable {H : Type} {enc : TypeId × Value → H} {P : Program} {w : World} {base : Nat} {spare : Nat → Bool} {held : Bool}
theorem Reads.append {l m : List CT} {cs ds : List Value} (h : Reads w l cs) (k : Reads w m ds) : Reads w (l ++ m) (cs ++ ds) := by
  obtain ⟨ps, h1, h2⟩ := h
  obtain ⟨qs, k1, k2⟩ := k
  exact ⟨ps ++ qs, h1.append k1, fun own ho => (h2 own ho).append (k2 own ho)⟩
theorem Reads.one {c : CT} {p : PV} {v : Value} (h : WT c p) (k : ∀ own : Own, (∀ g, own g = none) → RP w own p v) : Reads w [c] [v] :=
  ⟨[p], All2.cons h All2.nil, fun own ho => All2.cons (k own ho) All2.nil⟩
theorem open_cells : ∀ (n : Nat) (t : TypeId) (cs : List Value) (x : DataW H × List MemPlace) (d : Nat) (l : List CT), DataW.trod enc P w base spare held n t cs = some x → cts P d t = some l → cs.length = l.length ∧ Reads w l cs := by
  intro n
  induction n with
  | zero => intro t cs x d l h; simp [DataW.trod] at h
  | succ n ih =>
    intro t cs x d l h hc
    cases d with
    | zero => simp [cts] at hc
    | succ d =>
      simp only [cts] at hc
      split at hc
      · rename_i hu
        cases hc
        obtain ⟨b, rfl, _⟩ := DataW.trod_bool hu h
        exact ⟨rfl, Reads.one (.bool b) fun own _ => .bool b⟩
      · rename_i k hu
        cases hc
        obtain ⟨z, rfl, _, hw⟩ := DataW.trod_int hu h
        exact ⟨rfl, Reads.one (.int hw) fun own _ => .int k z⟩
      · rename_i hu
        cases hc
        obtain ⟨s, rfl, _, hs⟩ := DataW.trod_string hu h
        refine ⟨rfl, Reads.one (p := .str s.data.toList) (.str (by simpa using hs)) fun own _ => ?_⟩
        have := RP.str (w := w) (own := own) s.data.toList
        simpa using this
      · rename_i e hu
        split at hc
        · rename_i el hel
          split at hc
          · rename_i hcond
            cases hc
            obtain ⟨hce, hpos⟩ := hcond
            rcases DataW.trod_slice hu h with ⟨rfl, _⟩ | ⟨a, len, cap, elems, rest, m, hm, rfl, _, _, hlc, hmx, hlen, hel2, _⟩
            · refine ⟨rfl, Reads.one (.nil el) fun own _ => ?_⟩
              have : ∀ z, SlAt w own .nil z [] none 0 := fun z => ⟨by simp, by simp [maxLen], fun _ => rfl, fun h => absurd rfl h, (fun h => by cases h), fun _ => ⟨rfl, rfl⟩, (fun i e h => by simp at h), ⟨fun _ _ => undef, (fun ad h => by simp at h), fun i j e c h => by simp at h⟩⟩
              exact (this _).rp
            · cases hm
              refine ⟨rfl, ?_⟩
              have hcell : ∀ i, i < len → ∃ csi : List Value, csi.length = el.length ∧ (∀ j, j < el.length → w.cell? (a.add (i * el.length + j)) = csi[j]?) ∧ Reads w el csi := by
                intro i hi
                have h1 := hel2 i hi
                rw [List.getElem?_eq_getElem (by omega : i < elems.length)] at h1
                obtain ⟨csi, h2, h3⟩ := Option.bind_eq_some_iff.1 h1
                obtain ⟨h4, h5⟩ := ih e csi _ d el h3 hel
                obtain ⟨_, h6, h7⟩ := World.cells?_some h2
                refine ⟨csi, h4, fun j hj => ?_, h5⟩
                have := h7 j (by rw [hce]; exact hj)
                rw [Addr.add_add, hce] at this
                exact this
              have hex : ∀ i, ∃ ps : List PV, i < len → All2 WT el ps ∧ ∃ csi : List Value, csi.length = el.length ∧ (∀ j, j < el.length → w.cell? (a.add (i * el.length + j)) = csi[j]?) ∧ ∀ own : Own, (∀ g, own g = none) → All2 (RP w own) ps csi := by
                intro i
                by_cases hi : i < len
                · obtain ⟨csi, h1, h2, ps, h3, h4⟩ := hcell i hi
                  exact ⟨ps, fun _ => ⟨h3, csi, h1, h2, h4⟩⟩
                · exact ⟨[], fun h => absurd h hi⟩
              obtain ⟨f, hf⟩ := Classical.skolem.1 hex
              have hfl : ∀ i, i < len → (f i).length = el.length := fun i hi => (hf i hi).1.1
              let mk : List PV → PV := fun ps => if el.length = 1 then ps.headD default else .agg ps
              have hmk : ∀ i, i < len → (mk (f i)).cells = f i ∧ (el.length = 1 → (mk (f i)).flat = true) ∧ (el.length ≠ 1 → mk (f i) = .agg (f i)) := by
                intro i hi
                have hl := hfl i hi
                by_cases h1 : el.length = 1
                · match hq : f i with
                  | [] => rw [hq] at hl; simp at hl; omega
                  | [p] =>
                    have hp : p.flat = true := by
                      have h0 : el[0]? = some el[0] := List.getElem?_eq_getElem (by omega)
                      exact ((hf i hi).1.2 0 _ p h0 (by rw [hq]; rfl)).flat
                    have e : mk [p] = p := by simp only [mk, h1, if_true, List.headD_cons]
                    rw [e]
                    exact ⟨by cases p <;> first | rfl | simp [PV.flat] at hp, fun _ => hp, fun h => absurd h1 h⟩
                  | p :: q :: r => rw [hq] at hl; simp at hl; omega
                · have e : mk (f i) = .agg (f i) := by simp only [mk, h1, if_false]
                  rw [e]
                  exact ⟨rfl, fun h => absurd h h1, fun _ => rfl⟩
              let es : List PV := (List.range len).map fun i => mk (f i)
              have hes : es.length = len := by simp [es]
              have hget : ∀ (i : Nat) (e : PV), es[i]? = some e → i < len ∧ e = mk (f i) := by
                intro i e he
                simp only [es, List.getElem?_map] at he
                obtain ⟨j, hj, rfl⟩ := Option.map_eq_some_iff.1 he
                obtain ⟨h1, h2⟩ := List.getElem?_eq_some_iff.1 hj
                simp only [List.length_range] at h1
                simp only [List.getElem_range] at h2
                subst h2
                exact ⟨h1, rfl⟩
              have hmem : ∀ e ∈ es, ∃ i, i < len ∧ e = mk (f i) := fun e he => by
                obtain ⟨i, hi⟩ := List.mem_iff_getElem?.1 he
                exact ⟨i, hget i e hi⟩
              refine Reads.one (p := .sl .shut el.length es) (.sl el es (by omega) (fun e he => ?_) (fun e he i c p hc hp => ?_)) fun own ho => ?_
              · obtain ⟨i, hi, rfl⟩ := hmem e he
                obtain ⟨h1, h2, h3⟩ := hmk i hi
                rw [h1]
                exact ⟨hfl i hi, h2, h3⟩
              · obtain ⟨j, hj, rfl⟩ := hmem e he
                rw [(hmk j hj).1] at hp
                exact (hf j hj).1.2 i c p hc hp
              · have : SlAt w own .shut el.length es (some a) cap := by
                  refine ⟨by omega, hmx, (fun h => by cases h), (fun _ h => by cases h), (fun h => by cases h), (fun h => by cases h), fun i e he => ?_, ⟨fun i j => (w.cell? (a.add (i * el.length + j))).getD undef, fun ad had hp => ?_, fun i j e c he hc => ?_⟩⟩
                  · obtain ⟨hi, rfl⟩ := hget i e he
                    rw [(hmk i hi).1]
                    refine ⟨hfl i hi, fun c hc => ?_⟩
                    obtain ⟨j, hj⟩ := List.mem_iff_getElem?.1 hc
                    have hjl : j < el.length := by have := (List.getElem?_eq_some_iff.1 hj).1; rw [hfl i hi] at this; exact this
                    exact ((hf i hi).1.2 j _ c (List.getElem?_eq_getElem hjl) hj).flat
                  · cases had
                    have hsome : ∀ i j, i < len → j < el.length → ∃ v, w.cell? (a.add (i * el.length + j)) = some v := by
                      intro i j hi hj
                      obtain ⟨_, csi, h1, h2, _⟩ := hf i hi
                      exact ⟨csi[j], by rw [h2 j hj]; exact List.getElem?_eq_getElem (by omega)⟩
                    have hsp : a.spot = none := by
                      obtain ⟨v, hv⟩ := hsome 0 0 (by omega) hpos
                      simp only [Nat.zero_mul, Nat.zero_add, Addr.add, if_true] at hv
                      unfold World.cell? at hv
                      split at hv
                      · split at hv
                        · cases hv
                        · rename_i h; simpa using h
                      · cases hv
                    refine ⟨hsp, fun i j hi hj => ?_⟩
                    obtain ⟨v, hv⟩ := hsome i j (by omega) hj
                    simp only [hv, Option.getD_some]
                    rw [addrAdd' a hsp, ← Nat.add_assoc] at hv
                    exact ⟨hv, fun L hL => by rw [ho] at hL; cases hL⟩
                  · obtain ⟨hi, rfl⟩ := hget i e he
                    rw [(hmk i hi).1] at hc
                    obtain ⟨_, csi, h1, h2, h3⟩ := hf i hi
                    obtain ⟨v, hv, hr⟩ := (h3 own ho).get hc
                    have hj : j < el.length := by have := (List.getElem?_eq_some_iff.1 hv).1; omega
                    simp only [h2 j hj, hv, Option.getD_some]
                    exact hr
                have := this.rp
                rw [hes] at this
                exact this
          · cases hc
        · cases hc
      · rename_i fs hu
        obtain ⟨xs, m, hm, _, hlen, _, hf⟩ := DataW.trod_struct hu h
        cases hm
        have key : ∀ (r : List Field) (off : Nat) (l : List CT), ctsF P (cts P d) off r = some l → (∀ f ∈ r, f ∈ fs.toList) → off + l.length ≤ cs.length → Reads w l ((cs.drop off).take l.length) := by
          intro r
          induction r with
          | nil =>
            intro off l hl _ _
            simp only [ctsF, Option.some.injEq] at hl
            subst hl
            exact ⟨[], All2.nil, fun own _ => by simpa using All2.nil⟩
          | cons f r ihr =>
            intro off l hl hin hle
            simp only [ctsF] at hl
            split at hl
            · rename_i lf hlf
              split at hl
              · rename_i hcond
                obtain ⟨l', hl', rfl⟩ := Option.map_eq_some_iff.1 hl
                obtain ⟨hoff, hco⟩ := hcond
                obtain ⟨i, hi⟩ := List.mem_iff_getElem?.1 (hin f (by simp))
                have h1 := hf i f (by simpa using hi)
                rw [hoff, hco] at h1
                simp only [List.length_append] at hle
                have hxi : ∃ y, xs[i]? = some y := by
                  cases hq : xs[i]? with
                  | some y => exact ⟨y, rfl⟩
                  | none =>
                    have h3 := (List.getElem?_eq_some_iff.1 hi).1
                    have h4 := List.getElem?_eq_none_iff.1 hq
                    have h5 : xs.length = fs.size := by assumption
                    simp at h3; omega
                obtain ⟨y, hy⟩ := hxi
                rw [hy] at h1
                obtain ⟨_, h2⟩ := ih f.type _ y d lf h1 hlf
                have h3 := ihr (off + lf.length) l' hl' (fun g hg => hin g (by simp [hg])) (by omega)
                have e : (cs.drop off).take (lf ++ l').length = (cs.drop off).take lf.length ++ (cs.drop (off + lf.length)).take l'.length := by
                  rw [List.length_append, List.take_add, List.drop_drop]
                rw [e]
                exact h2.append h3
              · cases hl
            · cases hl
        split at hc
        · rename_i l' hl'
          split at hc
          · rename_i hco
            cases hc
            have hcl : cs.length = l.length := by rw [hlen]; exact hco
            have := key fs.toList 0 l hl' (fun f h => h) (by omega)
            rw [List.drop_zero, ← hcl, List.take_length] at this
            exact ⟨hcl, this⟩
          · cases hc
        · cases hc
      · rename_i k e hu
        split at hc
        · rename_i el hel
          split at hc
          · rename_i hcond
            cases hc
            obtain ⟨hce, hct⟩ := hcond
            obtain ⟨xs, m, hm, _, hlen, hxl, hf⟩ := DataW.trod_array hu h
            cases hm
            have hrl : ∀ q, (ctsR el q).length = q * el.length := by
              intro q
              induction q with
              | zero => simp [ctsR]
              | succ q ihq => simp [ctsR, ihq, Nat.add_mul]; omega
            have key : ∀ (q i : Nat), i + q = k → Reads w (ctsR el q) ((cs.drop (i * el.length)).take (q * el.length)) := by
              intro q
              induction q with
              | zero => intro i _; exact ⟨[], All2.nil, fun own _ => by simpa using All2.nil⟩
              | succ q ihq =>
                intro i hik
                have h1 := hf i (by omega)
                rw [hce, List.getElem?_eq_getElem (by omega : i < xs.length)] at h1
                obtain ⟨_, h2⟩ := ih e _ _ d el h1 hel
                have h3 := ihq (i + 1) (by omega)
                have e1 : (cs.drop (i * el.length)).take ((q + 1) * el.length) = (cs.drop (i * el.length)).take el.length ++ (cs.drop ((i + 1) * el.length)).take (q * el.length) := by
                  rw [show (q + 1) * el.length = el.length + q * el.length by rw [Nat.add_mul]; omega, List.take_add, List.drop_drop, show i * el.length + el.length = (i + 1) * el.length by rw [Nat.add_mul]; omega]
                rw [e1]
                exact h2.append h3
            have hcl : cs.length = (ctsR el k).length := by rw [hlen, hct, hrl]
            have := key k 0 (by omega)
            rw [Nat.zero_mul, List.drop_zero, ← hrl, ← hcl, List.take_length] at this
            exact ⟨hcl, this⟩
          · cases hc
        · cases hc
      · cases hc
theorem open_flat {r : Reach} {b0 : Nat} {t : TypeId} {v : Value} {y : DataW H} {ps : List MemPlace} (hval : Value.okWide P w r b0 t v) (h : DataW.Trod enc P w base spare held t v y ps) {d : Nat} {c : CT} (hc : cts P d t = some [c]) (hag : isAggD (P.underlying t) = some false) :
    ∃ p, WT c p ∧ ∀ own nm, (∀ g, own g = none) → RA w own nm (.c (.pv p)) v := by
  obtain ⟨fuel, hf⟩ := h
  obtain ⟨_, qs, h1, h2⟩ := open_cells fuel t _ _ d _ hf hc
  obtain ⟨q, qs', rfl, hq, h3⟩ := All2.of_cons h1
  have := All2.of_nil h3
  subst this
  have hv : v.cells = #[v] := by
    have hne : ∀ us, v ≠ .agg us := by
      intro us e
      subst e
      unfold Value.okWide at hval
      cases hu : P.underlying t with
      | none => rw [hu] at hag; cases hag
      | some dsc => rw [hu] at hval hag; cases dsc <;> simp_all [isAggD, Cell.okWide, Cell.ok]
    cases v <;> first | rfl | exact absurd rfl (hne _)
  refine ⟨q, hq, fun own nm ho => ?_⟩
  have h4 := h2 own ho
  rw [hv] at h4
  obtain ⟨b, m', h5, h6, _⟩ := All2.of_cons h4
  cases h5
  exact RA.ofP h6
theorem open_agg {r : Reach} {b0 : Nat} {t : TypeId} {v : Value} {y : DataW H} {ps : List MemPlace} (hval : Value.okWide P w r b0 t v) (h : DataW.Trod enc P w base spare held t v y ps) {d : Nat} {l : List CT} (hc : cts P d t = some l) (hag : isAggD (P.underlying t) = some true) :
    ∃ qs, All2 WT l qs ∧ ∀ own nm, (∀ g, own g = none) → RA w own nm (.agg (qs.map .pv)) v := by
  obtain ⟨fuel, hf⟩ := h
  obtain ⟨_, qs, h1, h2⟩ := open_cells fuel t _ _ d _ hf hc
  have hv : ∃ cs, v = .agg cs := by
    unfold Value.okWide at hval
    cases hu : P.underlying t with
    | none => rw [hu] at hag; cases hag
    | some dsc => rw [hu] at hval hag; cases dsc <;> simp_all [isAggD] <;> (obtain ⟨cs, rfl, _⟩ := hval; exact ⟨cs, rfl⟩)
  obtain ⟨cs, rfl⟩ := hv
  refine ⟨qs, h1, fun own nm ho => ?_⟩
  have h4 : All2 (RP w own) qs cs.toList := h2 own ho
  have h5 : All2 (RC w own nm) (qs.map .pv) cs.toList := h4.map fun a b _ hr => .pv hr
  have := RA0.agg (qs.map CV.pv) cs.toList h5
  exact .of (by simpa using this)
theorem law_calls {call : Oracle} (hok : OkOr P call) {f : Nat} {args : List AV} {vals : List Value} (hr : All2 (RA w (fun _ => none) nm0) args vals) (he : call f args [] = some (.b true, [])) (hG : GOk w (fun _ => none)) :
    Calls P f vals.toArray w fun e w' => e = .returned (.bool true) ∧ Below w.heap.size w w' := by
  obtain ⟨_, hC⟩ := hok f args [] _ _ he
  refine (hC w (fun _ => none) nm0 vals ⟨hG, fun g L h => by cases h⟩ (nm0_ok _) (rb0 _ _) hr).mono fun e w' h => ?_
  obtain ⟨v, rfl, own', nm', hfr, _, _, _, hra, _⟩ := h
  refine ⟨by rw [hra.bool], ⟨hfr.os, hfr.tape, hfr.output, hfr.size, fun k hk => (hfr.old k hk ?_).1⟩⟩
  rintro (h | ⟨i, h⟩) <;> simp [nm0] at h
end
end Go.Sx
