/- A block that a call has made, and that nothing else of the frame knows, becomes a box. -/
import Derived.Test.YtggopflifieoiaaDoorSxCallW2
namespace Go.Sx
open Go
section
variable {M : Nm} {w0 w w' : World} {own0 own own' : Own} {nm nm' : Nm} {st : St} {tmps : List Value}
theorem Inv.adopt (I : Inv M w0 own0 w own nm st tmps) (hf : Fr (Mod nm0) w own w' own') (hgd : Good w' own') {g : Nat} (hg : w.heap.size ≤ g) (hg' : g < w'.heap.size) {b : Box}
    (hb : ∀ (nm' : Nm), NmLe w own nm w' (setOwn own' g (some 0)) nm' → RBx w' (setOwn own' g (some 0)) nm' b g) :
    Inv M w0 own0 w' (setOwn own' g (some 0)) ⟨nm.adr ++ [g], nm.sp⟩ ⟨st.tm, st.bx ++ [b]⟩ tmps ∧ NmLe w own nm w' (setOwn own' g (some 0)) ⟨nm.adr ++ [g], nm.sp⟩ ∧ (nm.adr ++ [g])[st.bx.length]? = some g := by
  have hno : ∀ j, ¬ Mod nm0 j := by
    rintro j (h | ⟨i, h⟩) <;> simp [nm0] at h
  have hso : ∀ j, j < w.heap.size → setOwn own' g (some 0) j = own' j := fun j hj => by simp only [setOwn, if_neg (show j ≠ g by omega)]
  have hold : ∀ j, j < w.heap.size → w'.heap[j]? = w.heap[j]? ∧ setOwn own' g (some 0) j = own j := fun j hj => by
    obtain ⟨h1, h2⟩ := hf.old j hj (hno j)
    exact ⟨h1, by rw [hso j hj]; exact h2⟩
  have hkeep : Keeps w own w' (setOwn own' g (some 0)) := by
    intro j o v hv hp
    have hj := cell_lt hv
    obtain ⟨a, c⟩ := hf.keeps j o v hv hp
    refine ⟨a, fun L hL => ?_⟩
    rw [hso j hj] at hL
    exact c L hL
  have hle : NmLe w own nm w' (setOwn own' g (some 0)) ⟨nm.adr ++ [g], nm.sp⟩ := by
    refine ⟨hkeep, fun k j hk => ?_, fun i j hi => ?_, fun j hj cs T _ hc => ?_⟩
    · show (nm.adr ++ [g])[k]? = some j
      rw [List.getElem?_append_left (List.getElem?_eq_some_iff.1 hk).1]; exact hk
    · have := I.nmok.row_lt I.good hi
      exact ⟨hi, (hold j this).1, (hold j this).2⟩
    · exact ⟨cs, by rw [(hold j (I.rb.lt j hj)).1]; exact hc, rfl⟩
  have hlast : (nm.adr ++ [g])[st.bx.length]? = some g := by rw [← I.rb.len]; simp
  have hfr : Fr (Mod M) w0 own0 w' (setOwn own' g (some 0)) := by
    refine ⟨hf.os.trans I.fr.os, hf.tape.trans I.fr.tape, hf.output.trans I.fr.output, Nat.le_trans I.fr.size hf.size, I.fr.keeps.trans hkeep, fun j hj hm => ?_, I.fr.sizes.trans hf.sizes⟩
    obtain ⟨h1, h2⟩ := I.fr.old j hj hm
    have hj' : j < w.heap.size := Nat.lt_of_lt_of_le hj I.fr.size
    exact ⟨(hold j hj').1.trans h1, (hold j hj').2.trans h2⟩
  have hgood : Good w' (setOwn own' g (some 0)) := by
    refine ⟨I.good.toGOk.keeps hkeep, fun j L hL => ?_⟩
    simp only [setOwn] at hL
    split at hL
    · rename_i e; rw [e]; exact hg'
    · exact hgd.lt j L hL
  refine ⟨⟨hfr, hgood, ⟨I.nmok.inj, fun i j hi => ?_⟩, ⟨by simp [I.rb.len], ?_, fun j hj => ?_, fun k j b' hb' hk => ?_⟩, I.rt.imp fun _ _ => RA.le hle, fun j hj => ?_, I.mineR, fun k j hk => hle.adr k j (I.ext k j hk)⟩, hle, hlast⟩
  · have := I.nmok.row_lt I.good hi
    obtain ⟨h1, h2⟩ := I.nmok.row i j hi
    refine ⟨?_, by rw [(hold j this).2]; exact h2⟩
    simp only [List.mem_append, List.mem_singleton, not_or]
    exact ⟨h1, by omega⟩
  · rw [List.nodup_append]
    refine ⟨I.rb.nodup, by simp, fun x hx y hy => ?_⟩
    simp only [List.mem_singleton] at hy
    subst hy
    have := I.rb.lt x hx
    omega
  · simp only [List.mem_append, List.mem_singleton] at hj
    rcases hj with hj | rfl
    · have := I.rb.lt j hj; have := hf.size; omega
    · exact hg'
  · by_cases hkl : k < st.bx.length
    · rw [List.getElem?_append_left hkl] at hb'
      have hk' : nm.adr[k]? = some j := by
        have : (nm.adr ++ [g])[k]? = some j := hk
        rwa [List.getElem?_append_left (by rw [I.rb.len]; exact hkl)] at this
      have hlt := I.rb.lt j (List.mem_of_getElem? hk')
      exact (I.rb.box k j b' hb' hk').le hle (hold j hlt).1 (hold j hlt).2
    · have hk1 : k = st.bx.length := by
        have := (List.getElem?_eq_some_iff.1 hb').1
        simp at this; omega
      subst hk1
      have : j = g := by
        have h1 : (nm.adr ++ [g])[st.bx.length]? = some j := hk
        rw [hlast] at h1; cases h1; rfl
      subst this
      simp at hb'
      subst hb'
      exact hb _ hle
  · simp only [List.mem_append, List.mem_singleton] at hj
    rcases hj with hj | rfl
    · exact I.mineA j hj
    · exact .inr (Nat.le_trans I.fr.size hg)
theorem flat_all2 {R : CV → Value → Prop} {sz : Nat} : ∀ {es : List PV} {us : List Value}, (∀ e ∈ es, e.cells.length = sz) → us.length = es.length * sz →
    (∀ (i j : Nat) (e c : PV) (u : Value), es[i]? = some e → e.cells[j]? = some c → us[i * sz + j]? = some u → R (.pv c) u) → All2 R (es.flatMap fun e => e.cells.map .pv) us
  | [], us, _, hl, _ => by
    have : us = [] := List.eq_nil_of_length_eq_zero (by simpa using hl)
    subst this
    exact All2.nil
  | e :: es, us, h, hl, k => by
    have he := h e (by simp)
    have hl' : us.length = es.length * sz + sz := by rw [hl, List.length_cons, Nat.succ_mul]
    have h1 : All2 R (e.cells.map .pv) (us.take sz) := by
      refine ⟨by rw [List.length_map, he, List.length_take]; omega, fun j x u hx hu => ?_⟩
      rw [List.getElem?_map] at hx
      obtain ⟨c, hc, rfl⟩ := Option.map_eq_some_iff.1 hx
      have hj : j < sz := by rw [← he]; exact (List.getElem?_eq_some_iff.1 hc).1
      rw [List.getElem?_take, if_pos hj] at hu
      exact k 0 j e c u rfl hc (by rw [Nat.zero_mul, Nat.zero_add]; exact hu)
    have h2 : All2 R (es.flatMap fun e => e.cells.map .pv) (us.drop sz) := flat_all2 (fun e he => h e (by simp [he])) (by rw [List.length_drop]; omega) fun i j e c u hi hc hu => by
      rw [List.getElem?_drop] at hu
      exact k (i + 1) j e c u (by simpa using hi) hc (by rw [Nat.succ_mul]; rw [show i * sz + sz + j = sz + (i * sz + j) by omega]; exact hu)
    have := h1.append h2
    rw [List.take_append_drop] at this
    simpa using this
end
section
variable {P : Program} {o : Oper} {a : Act} {M : Nm} {w0 w w' : World} {own0 own own' : Own} {nm nm' : Nm} {st : St}
theorem callM_goes (I : Inv M w0 own0 w own nm st a.tmps.toList) {call : Oracle} (hok : OkOr P call) {c : Call} {f : Operand} {F : XArg} {As : List XArg} (ho : o.op = .call c) (hc : c.callee = .value f) (hf : cArg f = some F) (hargs : cList cArg c.args.toList = some As)
    {v : AV} {st' : St} (hv : callMV call F As st = some (v, st')) : Goes P o a w (Left M w0 own0 st' a.tmps.toList v) := by
  haveI := I.good.toGOk
  have h1 := arg_ok I.rt hf
  have h2 := args_ok I.rt hargs
  simp only [callMV] at hv
  split at hv
  · rename_i g e
    rw [e] at h1
    obtain ⟨us, e1, hl, _⟩ := h1.cv.fnv
    have hus : us = [] := List.eq_nil_of_length_eq_zero (by simpa using hl)
    subst hus
    split at hv
    · rename_i hall
      split at hv
      · rename_i i sz es hcall
        split at hv
        · rename_i hcond
          cases hv
          simp only [Bool.and_eq_true, decide_eq_true_eq] at hcond
          obtain ⟨hrowE, hsz0⟩ := hcond
          have hel : ∀ e ∈ es, e.cells.length = sz ∧ ∀ c ∈ e.cells, c.plain0 = true := fun e he => rowE_cells (List.all_eq_true.1 hrowE e he)
          obtain ⟨hent, hC⟩ := hok _ _ _ _ _ hcall
          have hargs' : All2 (RA w own nm0) ((As.map (getA st.tm)).map (AV.map CV.shutAll)) (c.args.toList.map a.eval) := by
            refine h2.map fun x y hx hr => ?_
            have := List.all_eq_true.1 hall x hx
            simp only [Bool.and_eq_true] at this
            exact (RA.noTup hr this.1).bare (by simpa using this.2) nm0
          refine Goes.call (caps := []) ho hc e1 hent ?_
          rw [List.append_nil]
          refine (hC w own nm0 _ I.good (nm0_ok own) (rb0 w own) hargs').mono fun e w' h => ?_
          obtain ⟨v, rfl, own', nm', hfr, hg, _, hrb, hra, _, _, h7⟩ := h
          obtain ⟨b, cap, rfl, hsp, hrow, hcap, hrp⟩ := hra.cv.ownv
          have hge : w.heap.size ≤ b := by
            rcases h7 i b hsp with ⟨j, hj⟩ | h
            · simp [nm0] at hj
            · exact h
          obtain ⟨cs, T, hblk, hcs⟩ := hrow.blk
          have hlt : b < w'.heap.size := (Array.getElem?_eq_some_iff.1 hblk).1
          have hle0 : es.length * sz ≤ cs.toList.length := by
            have : es.length * sz ≤ cap * sz := Nat.mul_le_mul_right _ hcap
            simpa [hcs] using this
          obtain ⟨ad, cap', hsl, hat⟩ := hrp.slv
          simp only [Value.slice.injEq] at hsl
          obtain ⟨rfl, _, rfl⟩ := hsl
          obtain ⟨_, hmx, _, _, _, _, _, ⟨us', hm, hev⟩⟩ := hat
          have hall2 : ∀ nmx, All2 (RC w' (setOwn own' b (some 0)) nmx) (es.flatMap fun e => e.cells.map .pv) (cs.toList.take (es.length * sz)) := by
            intro nmx
            refine flat_all2 (fun e he => (hel e he).1) (by rw [List.length_take]; omega) fun i j e c u hi hc hu => ?_
            have hmem := List.mem_of_getElem? hi
            have hil := (List.getElem?_eq_some_iff.1 hi).1
            have hj : j < sz := by rw [← (hel e hmem).1]; exact (List.getElem?_eq_some_iff.1 hc).1
            have hpos : 0 < es.length := by omega
            obtain ⟨_, hm2⟩ := hm _ rfl hpos
            obtain ⟨hcell, _⟩ := hm2 i j hil hj
            have hr := hev i j e c hi hc
            rw [List.getElem?_take] at hu
            split at hu
            · have : w'.cell? ⟨b, 0 + i * sz + j, none⟩ = some u := by
                simp only [World.cell?, hblk]
                rw [Nat.zero_add]
                simpa using hu
              rw [this] at hcell
              cases hcell
              exact .pv (hr.plain0 ((hel e hmem).2 c (List.mem_of_getElem? hc)))
            · cases hu
          obtain ⟨I', _, hlast⟩ := I.adopt hfr hg hge hlt (b := .row sz es) fun nmx _ =>
            .row sz es b (.mk (cs.toList.take (es.length * sz)) (cs.toList.drop (es.length * sz)) T ⟨_, by rw [List.take_append_drop]; simpa using hblk, .inl rfl⟩ (by simp [setOwn]) (hall2 nmx)) hrowE hsz0
          exact ⟨_, rfl, _, _, I', .ofC (.ms _ 0 _ _ b cap hlast hcap hmx hsz0 ⟨cs, T, _, hblk, by rw [hcs]; omega⟩)⟩
        · cases hv
      · cases hv
    · cases hv
  · cases hv
end
end Go.Sx
