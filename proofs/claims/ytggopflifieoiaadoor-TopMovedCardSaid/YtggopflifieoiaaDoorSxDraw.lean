/- Operations that may run in either order. -/
import Derived.Test.YtggopflifieoiaaDoorSxCode
namespace Go.Sx
open Go
section
variable {call : Oracle} {tm tm' : List AV} {bx bx' : List Box}
theorem capKeys_congr : ∀ {xs : List XArg}, (∀ X ∈ xs, getA tm X = getA tm' X) → capKeys tm xs = capKeys tm' xs
  | [], _ => rfl
  | x :: r, h => by
    simp only [capKeys]
    rw [h x (by simp), capKeys_congr fun X hX => h X (by simp [hX])]
theorem args_congr {xs : List XArg} (h : ∀ X ∈ xs, getA tm X = getA tm' X) : xs.map (getA tm) = xs.map (getA tm') := List.map_congr_left h
theorem parts_congr {ps : List (Nat × Nat × XArg)} (h : ∀ X ∈ ps.map (fun p => p.2.2), getA tm X = getA tm' X) : (ps.map fun (o, n, x) => (o, n, getA tm x)) = ps.map fun (o, n, x) => (o, n, getA tm' x) :=
  List.map_congr_left fun p hp => by
    obtain ⟨o, n, x⟩ := p
    simp only [h x (List.mem_map.2 ⟨(o, n, x), hp, rfl⟩)]
theorem optI_congr {x : Option XArg} {d : Int} (h : ∀ X ∈ argsOf x, getA tm X = getA tm' X) : optI tm x d = optI tm' x d := by
  cases x with
  | none => rfl
  | some X => simp only [optI]; rw [h X (by simp [argsOf])]
theorem evP_congr {op : XOp} (h : ∀ X ∈ op.args, getA tm X = getA tm' X) : evP call op tm = evP call op tm' := by
  cases op <;> simp only [XOp.args] at h <;> simp only [evP]
  case build z ps => rw [parts_congr h]
  case buildSl z l sz ps => rw [parts_congr h]
  case mkfn f cs => rw [capKeys_congr h]
  case sliceS x lo hi =>
    rw [h x (by simp), optI_congr (x := lo) fun X hX => h X (by simp [hX])]
    simp only [fun d => optI_congr (tm := tm) (tm' := tm') (x := hi) (d := d) fun X hX => h X (by simp [hX])]
  case sliceV sz x lo hi mx =>
    rw [h x (by simp), optI_congr (x := lo) fun X hX => h X (by simp [hX])]
    simp only [fun d => optI_congr (tm := tm) (tm' := tm') (x := hi) (d := d) fun X hX => h X (by simp [hX])]
    cases mx with
    | none =>
      cases optI tm' lo 0 with
      | none => rfl
      | some p =>
        split
        · rfl
        · split
          · split
            · cases optI tm' hi _ <;> rfl
            · rfl
          · rfl
        · rfl
    | some m =>
      have hm := h m (by simp [argsOf])
      cases optI tm' lo 0 with
      | none => rfl
      | some p =>
        split
        · rfl
        · split
          · split
            · cases optI tm' hi _ with
              | none => rfl
              | some q => simp only [hm]
            · rfl
          · rfl
        · rfl
  case call fz f as => rw [h f (by simp), args_congr fun X hX => h X (by simp [hX])]
  case minI xs => rw [args_congr h]
  case maxI xs => rw [args_congr h]
  all_goals (try (simp only [List.mem_cons, List.not_mem_nil, or_false, forall_eq_or_imp, forall_eq] at h))
  all_goals first | rfl | rw [h] | (obtain ⟨h1, h2⟩ := h; rw [h1, h2]) | (obtain ⟨h1, h2, h3⟩ := h; rw [h1, h2, h3])
theorem evR_congr {op : XOp} (h : ∀ X ∈ op.args, getA tm X = getA tm' X) : evR op tm bx = evR op tm' bx := by
  cases op <;> simp only [XOp.args] at h <;> simp only [evR]
  case load ag n a => rw [h a (by simp)]
  case loadR ag n a u => rw [h a (by simp), h u (by simp)]
  case sliceA len sz x lo hi =>
    rw [h x (by simp)]
    simp only [fun d => optI_congr (tm := tm) (tm' := tm') (x := lo) (d := d) fun X hX => h X (by simp [hX]), fun d => optI_congr (tm := tm) (tm' := tm') (x := hi) (d := d) fun X hX => h X (by simp [hX])]
  case bytesM x => rw [h x (by simp)]
  case sliceM sz x lo hi mx =>
    rw [h x (by simp)]
    simp only [fun d => optI_congr (tm := tm) (tm' := tm') (x := lo) (d := d) fun X hX => h X (by simp [hX]), fun d => optI_congr (tm := tm) (tm' := tm') (x := hi) (d := d) fun X hX => h X (by simp [hX])]
    split
    · split
      · split
        · cases optI tm' lo 0 with
          | none => rfl
          | some p =>
            cases optI tm' hi _ with
            | none => rfl
            | some q => cases mx with
              | none => rfl
              | some m => simp only [h m (by simp [argsOf])]
        · rfl
      · rfl
    · rfl
  case mlook z ok m k n => rw [h m (by simp), h k (by simp)]
theorem evR_more {op : XOp} {v : AV} (h : evR op tm bx = some v) (b : Box) : evR op tm (bx ++ [b]) = some v := by
  have key : ∀ {k : Nat} {c : Box}, bx[k]? = some c → (bx ++ [b])[k]? = some c := by
    intro k c hk
    rw [List.getElem?_append_left (List.getElem?_eq_some_iff.1 hk).1]
    exact hk
  cases op <;> simp only [evR] at h ⊢ <;> try (cases h; done)
  case load ag n a =>
    split at h
    · exact h
    · rename_i k off e
      unfold loadB at h ⊢
      split at h
      · rename_i l hl
        obtain ⟨b, hk, hl⟩ := Option.bind_eq_some_iff.1 hl
        simp only [key hk, Option.bind_some, hl]
        exact h
      · cases h
    · cases h
  case loadR ag n a u =>
    split at h
    · split at h
      · rename_i hk
        rw [if_pos hk]
        unfold loadB at h ⊢
        split at h
        · rename_i l hl
          obtain ⟨b, hk, hl⟩ := Option.bind_eq_some_iff.1 hl
          simp only [key hk, Option.bind_some, hl]
          exact h
        · cases h
      · cases h
    · cases h
  case sliceA len sz x lo hi =>
    split at h
    · rename_i k off e
      split at h
      · rename_i cs hk
        simp only [key hk]
        exact h
      · cases h
    · cases h
  case bytesM x =>
    split at h
    · split at h
      · rename_i hk
        simp only [key hk]
        exact h
      · cases h
    · cases h
  case sliceM sz x lo hi mx =>
    split at h
    · rename_i k off s n e
      split at h
      · rename_i s' es hk
        simp only [key hk]
        exact h
      · cases h
    · cases h
  case mlook z ok m k n =>
    split at h
    · rename_i j p e1 e2
      split at h
      · rename_i kv hk
        simp only [key hk]
        exact h
      · cases h
    · cases h
theorem getA_put {dst : Option Nat} {v : AV} {X : XArg} (h : ∀ d, dst = some d → d ∉ X.tmps) : getA (putD tm dst v) X = getA tm X := by
  cases dst with
  | none => rfl
  | some d =>
    cases X with
    | lit a => rfl
    | tmp t =>
      have : d ≠ t := fun e => h d rfl (by simp [XArg.tmps, e])
      simp [getA, putD, List.getD_eq_getElem?_getD, this]
def SameFor (o : XOper) (tm tm' : List AV) : Prop := (∀ X ∈ o.op.args, getA tm X = getA tm' X) ∧ wantG tm o.grd = wantG tm' o.grd
theorem SameFor.put {o : XOper} {dst : Option Nat} {v : AV} (h : ∀ d, dst = some d → d ∉ o.uses) : SameFor o (putD tm dst v) tm := by
  refine ⟨fun X hX => getA_put fun d hd hm => h d hd ?_, ?_⟩
  · exact List.mem_append_left _ (List.mem_flatMap.2 ⟨X, hX, hm⟩)
  · cases hg : o.grd with
    | none => rfl
    | some p =>
      obtain ⟨t, b⟩ := p
      have : getA (putD tm dst v) (.tmp t) = getA tm (.tmp t) := getA_put fun d hd hm => h d hd (by
        simp only [XArg.tmps, List.mem_singleton] at hm
        subst hm
        simp [XOper.uses, hg])
      simp only [getA] at this
      simp only [wantG, this]
theorem evV_congr {o : XOper} (h : SameFor o tm tm') (hb : o.cls = .p ∨ bx = bx') : evV call o ⟨tm, bx⟩ = evV call o ⟨tm', bx'⟩ := by
  obtain ⟨h1, h2⟩ := h
  simp only [evV, h2, evP_congr h1]
  rcases hb with hb | hb
  · simp only [hb, if_true]
  · subst hb
    rw [evR_congr h1]
theorem evV_more {o : XOper} {v : AV} (h : evV call o ⟨tm, bx⟩ = some v) (b : Box) : evV call o ⟨tm, bx ++ [b]⟩ = some v := by
  by_cases hc : o.cls = .p
  · rw [← h]; exact evV_congr ⟨fun _ _ => rfl, rfl⟩ (.inl hc)
  · simp only [evV, hc, if_false] at h ⊢
    split at h
    · cases h
    · exact h
    · exact evR_more h b
theorem putD_comm {d e : Option Nat} {u v : AV} (h : ∀ x, d = some x → e ≠ some x) : putD (putD tm d u) e v = putD (putD tm e v) d u := by
  cases d with
  | none => rfl
  | some x =>
    cases e with
    | none => rfl
    | some y =>
      have : x ≠ y := fun hxy => h x rfl (by rw [hxy])
      simp only [putD]
      rw [List.set_comm _ _ this]
theorem shutIds_comp (is js : List Nat) (x : CV) : (x.shutIds is).shutIds js = x.shutIds (is ++ js) := by
  cases x with
  | own i sz es =>
    simp only [CV.shutIds, List.contains_eq_mem, List.mem_append, decide_eq_true_eq]
    by_cases h1 : i ∈ is <;> by_cases h2 : i ∈ js <;> simp [h1, h2]
  | _ => rfl
theorem shutId_eq (i : Nat) : CV.shutId i = CV.shutIds [i] := by
  funext x
  cases x with
  | own j sz es => simp only [CV.shutId, CV.shutIds, List.contains_eq_mem, List.mem_singleton, decide_eq_true_eq]
  | _ => rfl
theorem AV.map_comp (is js : List Nat) (a : AV) : ((AV.map (CV.shutIds js)) ∘ (AV.map (CV.shutIds is))) a = a.map (CV.shutIds (is ++ js)) := by
  cases a with
  | c x => simp only [Function.comp_apply, AV.map, shutIds_comp]
  | agg cs => simp only [Function.comp_apply, AV.map, List.map_map, AV.agg.injEq]; exact List.map_congr_left fun x _ => shutIds_comp is js x
  | tup vs =>
    simp only [Function.comp_apply, AV.map, List.map_map, AV.tup.injEq]
    refine List.map_congr_left fun x _ => ?_
    cases x with
    | c x => simp only [Function.comp_apply, AV.map0, shutIds_comp]
    | agg cs => simp only [Function.comp_apply, AV.map0, List.map_map, AV.agg.injEq]; exact List.map_congr_left fun x _ => shutIds_comp is js x
    | tup vs => rfl
theorem Box.map_comp (is js : List Nat) (b : Box) : (b.map' (CV.shutIds is)).map' (CV.shutIds js) = b.map' (CV.shutIds (is ++ js)) := by
  cases b with
  | cells cs => simp only [Box.map', List.map_map, Box.cells.injEq]; exact List.map_congr_left fun x _ => shutIds_comp is js x
  | _ => rfl
theorem mapC_comp (is js : List Nat) (st : St) : (st.mapC (CV.shutIds is)).mapC (CV.shutIds js) = st.mapC (CV.shutIds (is ++ js)) := by
  simp only [St.mapC, List.map_map, St.mk.injEq]
  exact ⟨List.map_congr_left fun x _ => AV.map_comp is js x, List.map_congr_left fun x _ => Box.map_comp is js x⟩
section
variable {is : List Nat}
theorem fixC {x : CV} (h : x.ids = []) : x.shutIds is = x := by cases x <;> first | rfl | simp [CV.ids] at h
theorem getA_map {X : XArg} (h : litEven X = true) : getA (tm.map (AV.map (CV.shutIds is))) X = (getA tm X).map (CV.shutIds is) := by
  cases X with
  | lit a =>
    simp only [getA]
    cases a with
    | c x => simp only [AV.map]; rw [fixC (by simpa [litEven, AV.fixed] using h)]
    | agg cs =>
      simp only [AV.map, AV.agg.injEq]
      refine ((List.map_congr_left fun x hx => fixC ?_).trans (List.map_id' cs)).symm
      have := List.all_eq_true.1 (by simpa only [litEven, AV.fixed] using h) x hx
      simpa using this
    | tup vs => simp [litEven, AV.fixed] at h
  | tmp t =>
    simp only [getA, List.getD_eq_getElem?_getD, List.getElem?_map]
    cases tm[t]? <;> rfl
theorem wantG_map {g : Option (Nat × Bool)} {b : Bool} (h : wantG tm g = some b) : wantG (tm.map (AV.map (CV.shutIds is))) g = some b := by
  cases g with
  | none => exact h
  | some p =>
    obtain ⟨t, c⟩ := p
    have : (tm.map (AV.map (CV.shutIds is))).getD t .undef = (tm.getD t .undef).map (CV.shutIds is) := getA_map (X := .tmp t) rfl
    simp only [wantG] at h ⊢
    rw [this]
    split at h
    · rename_i x hx; rw [hx]; exact h
    · rename_i hx; rw [hx]; exact h
    · cases h
theorem takeC_fix : ∀ {n off : Nat} {cells : List PV} {l : List CV}, takeC n cells off = some l → l.map (CV.shutIds is) = l
  | 0, off, cells, l, h => by simp only [takeC, Option.some.injEq] at h; subst h; rfl
  | n + 1, off, cells, l, h => by
    simp only [takeC] at h
    split at h
    · rename_i p r h1 h2
      cases h
      simp only [List.map_cons, CV.shutIds, takeC_fix h2]
    · cases h
theorem slEs_map {x : CV} {es : List PV} (h : slEs x = some es) : slEs (x.shutIds is) = some es := by
  cases x with
  | pv p => exact h
  | own i sz es' => simp only [CV.shutIds]; split <;> exact h
  | _ => simp [slEs] at h
theorem szOk_map {x : CV} {es : List PV} (h : slEs x = some es) {s : Nat} (k : szOk s x = true) : szOk s (x.shutIds is) = true := by
  cases x with
  | pv p => exact k
  | own i sz es' => simp only [CV.shutIds]; split <;> simpa [szOk] using k
  | _ => simp [slEs] at h
theorem asI_map {x : AV} {n : Int} (h : asI x = some n) : asI (x.map (CV.shutIds is)) = some n := by
  unfold asI at h
  split at h
  · exact h
  · cases h
theorem load_fin {ag : Bool} {l : List CV} {v : AV} (h : (if ag = true then some (AV.agg l) else match l with | [x] => some (.c x) | _ => none) = some v) :
    (if ag = true then some (AV.agg (l.map (CV.shutIds is))) else match l.map (CV.shutIds is) with | [x] => some (.c x) | _ => none) = some (v.map (CV.shutIds is)) := by
  cases ag with
  | true => simp only [if_true, Option.some.injEq] at h ⊢; subst h; rfl
  | false =>
    simp only [Bool.false_eq_true, if_false] at h ⊢
    split at h
    · cases h; rfl
    · cases h
theorem toPV_shut (x : CV) : (x.shutIds is).toPV = x.toPV := by
  cases x with
  | own i sz es => simp only [CV.shutIds]; split <;> simp [CV.toPV, PV.flat]
  | _ => rfl
theorem toPVs_shut : ∀ (l : List CV), toPVs (l.map (CV.shutIds is)) = toPVs l
  | [] => rfl
  | x :: l => by simp only [List.map_cons, toPVs, toPV_shut, toPVs_shut l]
theorem putB_shut : ∀ {vs l l' : List CV} {c : Nat}, putB l c vs = some l' → putB (l.map (CV.shutIds is)) c (vs.map (CV.shutIds is)) = some (l'.map (CV.shutIds is))
  | [], l, l', c, h => by simp only [putB, Option.some.injEq] at h; subst h; rfl
  | x :: vs, l, l', c, h => by
    simp only [putB, List.map_cons] at h ⊢
    split at h
    · rename_i hc
      rw [if_pos (by simpa using hc), ← List.map_set]
      exact putB_shut h
    · cases h
theorem flat_shut {x : CV} (h : x.flat = true) : (x.shutIds is).flat = true := by
  cases x with
  | own i sz es => simp only [CV.shutIds]; split <;> rfl
  | _ => exact h
theorem cells_shut {v : AV} (h : v.flat = true) : (v.map (CV.shutIds is)).flat = true ∧ (v.map (CV.shutIds is)).cells = v.cells.map (CV.shutIds is) := by
  cases v with
  | c x => exact ⟨flat_shut h, rfl⟩
  | agg cs => exact ⟨by simp only [AV.map, AV.flat, List.all_map, List.all_eq_true] at h ⊢; exact fun x hx => flat_shut (h x hx), rfl⟩
  | tup vs => cases h
theorem fillC_shut : ∀ {parts : List (Nat × Nat × AV)} {z cs : List CV}, fillC z parts = some cs → fillC (z.map (CV.shutIds is)) (parts.map fun p => (p.1, p.2.1, p.2.2.map (CV.shutIds is))) = some (cs.map (CV.shutIds is))
  | [], z, cs, h => by simp only [fillC, Option.some.injEq] at h; subst h; rfl
  | (off, n, v) :: r, z, cs, h => by
    simp only [fillC, List.map_cons] at h ⊢
    split at h
    · rename_i hc
      obtain ⟨c1, c2⟩ := cells_shut (is := is) hc.1
      rw [if_pos ⟨c1, by rw [c2, List.length_map]; exact hc.2.1, hc.2.2⟩, c2]
      split at h
      · rename_i z' hz
        rw [putB_shut hz]
        exact fillC_shut h
      · cases h
    · cases h
theorem takeB_shut {cs : List CV} : ∀ (n off : Nat) (l : List CV), takeB n cs off = some l → takeB n (cs.map (CV.shutIds is)) off = some (l.map (CV.shutIds is))
  | 0, off, l, hl => by simp only [takeB, Option.some.injEq] at hl ⊢; subst hl; rfl
  | n + 1, off, l, hl => by
    simp only [takeB] at hl ⊢
    split at hl
    · rename_i p r h2 h3
      cases hl
      simp only [List.getElem?_map, h2, Option.map_some, takeB_shut _ _ _ h3]
      rfl
    · cases hl
theorem elemsB_shut {cs : List CV} {sz : Nat} : ∀ {n off : Nat} {es : List PV}, elemsB cs sz off n = some es → elemsB (cs.map (CV.shutIds is)) sz off n = some es
  | 0, off, es, h => h
  | n + 1, off, es, h => by
    simp only [elemsB] at h ⊢
    split at h
    · rename_i ps r h1 h2
      obtain ⟨l, h3, h4⟩ := Option.bind_eq_some_iff.1 h1
      rw [takeB_shut _ _ _ h3, Option.bind_some, toPVs_shut, h4, elemsB_shut h2]
      exact h
    · cases h
theorem repC_shut {z : List CV} : ∀ n, (repC z n).map (CV.shutIds is) = repC (z.map (CV.shutIds is)) n
  | 0 => rfl
  | n + 1 => by simp only [repC, List.map_append, repC_shut n]
theorem map_fix {z : List CV} (h : (z.all fun x => x.ids.isEmpty) = true) : z.map (CV.shutIds is) = z := by
  have : ∀ x ∈ z, x.shutIds is = x := fun x hx => fixC (by simpa using List.all_eq_true.1 h x hx)
  rw [List.map_congr_left this]; simp
theorem optI_even {tm tm' : List AV} {o : Option XArg} (g : ∀ X ∈ argsOf o, getA tm' X = (getA tm X).map (CV.shutIds is)) {d a : Int} (h : optI tm o d = some a) : optI tm' o d = some a := by
  cases o with
  | none => exact h
  | some X =>
    simp only [optI] at h ⊢
    rw [g X (by simp [argsOf])]
    exact asI_map h
theorem av_map_map (f g : CV → CV) (hf : f .undef = .undef) (a : AV) : (a.map g).map f = a.map fun x => f (g x) := by
  cases a with
  | c x => rfl
  | agg cs => simp only [AV.map, List.map_map]; rfl
  | tup vs =>
    simp only [AV.map, List.map_map]
    congr 2
    funext x
    cases x with
    | c x => rfl
    | agg cs => simp only [Function.comp, AV.map0, List.map_map]; rfl
    | tup vs => simp only [Function.comp, AV.map0, hf]
theorem shutAll_Ids (x : CV) : (x.shutIds is).shutAll = x.shutAll := by
  cases x with
  | own i sz es => simp only [CV.shutIds]; split <;> rfl
  | _ => rfl
theorem shutIds_All (x : CV) : x.shutAll.shutIds is = x.shutAll := by
  cases x <;> rfl
theorem keys_shutIds (x : CV) : (x.shutIds is).keys = x.keys := by
  cases x with
  | own i sz es => simp only [CV.shutIds]; split <;> rfl
  | _ => rfl
theorem av_keys (a : AV) (h : noTup a = true) : (a.map (CV.shutIds is)).keys = a.keys := by
  cases a with
  | c x => simp only [AV.keys, AV.map, AV.all, List.flatMap_cons, List.flatMap_nil, keys_shutIds]
  | agg cs => simp only [AV.keys, AV.map, AV.all, List.flatMap_map, keys_shutIds]
  | tup vs => cases h
theorem noTup_map (a : AV) (f : CV → CV) : noTup (a.map f) = noTup a := by cases a <;> rfl
theorem evP_even {op : XOp} {v : AV} (he : evenOp op = true) (ha : op.args.all litEven = true) (h : evP call op tm = some v) : evP call op (tm.map (AV.map (CV.shutIds is))) = some (v.map (CV.shutIds is)) := by
  have g : ∀ X ∈ op.args, getA (tm.map (AV.map (CV.shutIds is))) X = (getA tm X).map (CV.shutIds is) := fun X hX => getA_map (List.all_eq_true.1 ha X hX)
  cases op <;> (try (simp [evenOp] at he; done)) <;> simp only [XOp.args] at g <;> simp only [evP] at h ⊢
  case mv x => rw [g x (by simp), ← Option.some.inj h]
  case call fz ap f args =>
    rw [g f (by simp)]
    split at h
    · rename_i q e
      rw [e, show (AV.c (.fn q [])).map (CV.shutIds is) = .c (.fn q []) from rfl]
      simp only at h ⊢
      have ea : args.map (getA (tm.map (AV.map (CV.shutIds is)))) = (args.map (getA tm)).map (AV.map (CV.shutIds is)) := by
        rw [List.map_map]
        exact List.map_congr_left fun X hX => by simp only [Function.comp]; exact g X (by simp [hX])
      rw [ea]
      split at h
      · rename_i hall
        have hall' : ((args.map (getA tm)).map (AV.map (CV.shutIds is))).all (fun a => noTup a && a.keys.isEmpty) = true := by
          rw [List.all_eq_true] at hall ⊢
          intro y hy
          obtain ⟨x, hx, rfl⟩ := List.mem_map.1 hy
          have := hall x hx
          simp only [Bool.and_eq_true] at this
          rw [noTup_map, av_keys x this.1, this.1, this.2]
          rfl
        rw [if_pos hall']
        have em : ((args.map (getA tm)).map (AV.map (CV.shutIds is))).map (AV.map CV.shutAll) = (args.map (getA tm)).map (AV.map CV.shutAll) := by
          rw [List.map_map]
          refine List.map_congr_left fun x _ => ?_
          simp only [Function.comp]
          rw [av_map_map _ _ rfl]
          congr 1
          funext y
          exact shutAll_Ids y
        rw [em]
        split at h
        · cases h
          simp only [Option.some.injEq]
          rw [av_map_map _ _ rfl]
          congr 1
          funext y
          exact (shutIds_All y).symm
        · cases h
      · cases h
    · cases h
  case pick c a b =>
    rw [g c (by simp), g a (by simp), g b (by simp)]
    split at h
    · rename_i t e
      rw [e]
      cases h
      cases t <;> rfl
    · cases h
  case buildSl z len sz parts =>
    simp only [evenOp] at he
    have hp : (parts.map fun (p : Nat × Nat × XArg) => (p.1, p.2.1, getA (tm.map (AV.map (CV.shutIds is))) p.2.2)) = (parts.map fun (p : Nat × Nat × XArg) => (p.1, p.2.1, getA tm p.2.2)).map fun p => (p.1, p.2.1, p.2.2.map (CV.shutIds is)) := by
      rw [List.map_map]
      exact List.map_congr_left fun p hp => by simp only [Function.comp]; rw [g p.2.2 (List.mem_map.2 ⟨p, hp, rfl⟩)]
    split at h
    · rename_i cs hcs
      obtain ⟨es, h1, rfl⟩ := Option.map_eq_some_iff.1 h
      have hf := fillC_shut (is := is) hcs
      rw [repC_shut, map_fix he] at hf
      have : fillC (repC z len) (parts.map fun (p : Nat × Nat × XArg) => (p.1, p.2.1, getA (tm.map (AV.map (CV.shutIds is))) p.2.2)) = some (cs.map (CV.shutIds is)) := by rw [hp]; exact hf
      rw [this]
      simp only [elemsB_shut h1, Option.map_some]
      rfl
    · cases h
  case load ag n a =>
    rw [g a (by simp)]
    split at h
    · rename_i cells off e
      rw [e, show (AV.c (.cptr cells off)).map (CV.shutIds is) = .c (.cptr cells off) from rfl]
      split at h
      · rename_i l hl
        have := load_fin (is := is) h
        rw [takeC_fix hl] at this
        simp only [hl]
        exact this
      · cases h
    · cases h
  case loadR ag n a u => cases h
  case nilc x =>
    rw [g x (by simp)]
    split at h <;> first | (rename_i e; rw [e]; cases h; rfl) | cases h
  case bin op x y =>
    rw [g x (by simp), g y (by simp)]
    unfold binV at h ⊢
    split at h
    · rename_i k a k' b e1 e2
      rw [e1, e2]
      simp only [AV.map, CV.shutIds]
      split at h
      · rename_i hs
        rw [if_pos hs]
        obtain ⟨p, h1, rfl⟩ := Option.map_eq_some_iff.1 h
        rw [h1]; rfl
      · rename_i hs
        rw [if_neg hs]
        split at h
        · rename_i hk
          rw [if_pos hk]
          obtain ⟨p, h1, rfl⟩ := Option.map_eq_some_iff.1 h
          rw [h1]; rfl
        · cases h
    · rename_i a b e1 e2
      rw [e1, e2]
      obtain ⟨p, h1, rfl⟩ := Option.map_eq_some_iff.1 h
      simp only [AV.map, CV.shutIds, h1, Option.map_some]
    · cases h
  case eqB neg x y =>
    rw [g x (by simp), g y (by simp)]
    unfold eqBV at h ⊢
    split at h
    · rename_i a b e1 e2
      rw [e1, e2]
      cases h; rfl
    · cases h
  case eqN tag neg x y =>
    rw [g x (by simp), g y (by simp)]
    unfold eqNV at h ⊢
    split at h
    · rename_i a b e1 e2
      rw [e1, e2]
      obtain ⟨t, h1, rfl⟩ := Option.map_eq_some_iff.1 h
      have : CV.nilEq tag (a.shutIds is) (b.shutIds is) = some t := by
        unfold CV.nilEq at h1
        split at h1 <;> first | exact h1 | (cases h1; done) | (simp only [CV.shutIds]; split <;> exact h1)
      simp only [AV.map, this, Option.map_some]
      rfl
    · cases h
  case un op x =>
    rw [g x (by simp)]
    unfold unV at h ⊢
    split at h
    · rename_i e; rw [e]; cases h; rfl
    · rename_i e
      rw [e]
      obtain ⟨p, h1, rfl⟩ := Option.map_eq_some_iff.1 h
      simp only [AV.map, CV.shutIds, h1, Option.map_some]
    · rename_i e; rw [e]; cases h; rfl
    · cases h
  case convI k x =>
    rw [g x (by simp)]
    split at h
    · rename_i e; rw [e]; cases h; rfl
    · cases h
  case convS x =>
    rw [g x (by simp)]
    split at h
    · rename_i e; rw [e]; cases h; rfl
    · cases h
  case bytesS x =>
    rw [g x (by simp)]
    split at h
    · rename_i y e
      rw [e]
      simp only [AV.map]
      split at h
      · rename_i es hes
        rw [slEs_map hes]
        obtain ⟨p, h1, rfl⟩ := Option.map_eq_some_iff.1 h
        simp only [h1, Option.map_some]
        rfl
      · cases h
    · cases h
  case faddr off x =>
    rw [g x (by simp)]
    split at h <;> first | (rename_i e; rw [e]; cases h; rfl) | cases h
  case sliceV sz x lo hi mx =>
    cases mx with
    | some m => simp [evenOp] at he
    | none =>
      have gl : ∀ X ∈ argsOf lo, getA (tm.map (AV.map (CV.shutIds is))) X = (getA tm X).map (CV.shutIds is) := fun X hX => g X (by simp [hX])
      have gh : ∀ X ∈ argsOf hi, getA (tm.map (AV.map (CV.shutIds is))) X = (getA tm X).map (CV.shutIds is) := fun X hX => g X (by simp [hX])
      rw [g x (by simp)]
      split at h
      · rename_i k off s n e
        rw [e]
        simp only [AV.map, CV.shutIds]
        split at h
        · rename_i a b ha hb _
          rw [optI_even gl ha, optI_even gh hb]
          split at h
          · rename_i hc
            have hv := Option.some.inj h
            subst hv
            show (if s = sz ∧ 0 ≤ a ∧ a ≤ b ∧ b ≤ (n : Int) then some (if a = b then AV.sl SO.shut sz [] else AV.c (CV.ms k (off + a.toNat * s) s (b.toNat - a.toNat))) else none) = some (AV.map (CV.shutIds is) (if a = b then AV.sl SO.shut sz [] else AV.c (CV.ms k (off + a.toNat * s) s (b.toNat - a.toNat))))
            rw [if_pos hc]
            split <;> rfl
          · cases h
        · cases h
      · rename_i y hne e
        rw [e]
        simp only [AV.map]
        split at h
        · rename_i es hes
          split at h
          · rename_i hsz
            have h1 := slEs_map (is := is) hes
            have h2 := szOk_map (is := is) hes hsz
            cases ha : optI tm lo 0 with
            | none => rw [ha] at h; simp at h
            | some a =>
              cases hb : optI tm hi es.length with
              | none => rw [ha, hb] at h; simp at h
              | some b =>
                rw [ha, hb] at h
                have ha' := optI_even gl ha
                have hb' := optI_even gh hb
                replace h : (if 0 ≤ a ∧ a ≤ b ∧ b ≤ (es.length : Int) then (match y with | .pv (.sl .nil _ _) => some (AV.c y) | _ => some (.sl .shut sz ((es.drop a.toNat).take (b.toNat - a.toNat)))) else none) = some v := h
                by_cases hc : 0 ≤ a ∧ a ≤ b ∧ b ≤ (es.length : Int)
                · rw [if_pos hc] at h
                  have fin : ∀ y' : CV, slEs y' = some es → szOk sz y' = true → (match y' with | .pv (.sl .nil _ _) => some (AV.c y') | _ => some (AV.sl .shut sz ((es.drop a.toNat).take (b.toNat - a.toNat)))) = some (v.map (CV.shutIds is)) →
                      (match AV.c y' with
                       | .c (.ms k off s n) => match optI (tm.map (AV.map (CV.shutIds is))) lo 0, optI (tm.map (AV.map (CV.shutIds is))) hi n, (none : Option XArg) with
                         | some a, some b, none => if s = sz ∧ 0 ≤ a ∧ a ≤ b ∧ b ≤ n then some (if a = b then .sl .shut sz [] else .c (.ms k (off + a.toNat * s) s (b.toNat - a.toNat))) else none
                         | _, _, _ => none
                       | .c y => match slEs y with
                         | some es => if szOk sz y then match optI (tm.map (AV.map (CV.shutIds is))) lo 0, optI (tm.map (AV.map (CV.shutIds is))) hi es.length, (none : Option XArg) with
                           | some a, some b, none => if 0 ≤ a ∧ a ≤ b ∧ b ≤ es.length then
                               (match y with
                                | .pv (.sl .nil _ _) => some (.c y)
                                | _ => some (.sl .shut sz ((es.drop a.toNat).take (b.toNat - a.toNat)))) else none
                           | some a, some b, some m => match asI (getA (tm.map (AV.map (CV.shutIds is))) m) with
                             | some c => if 0 ≤ a ∧ a ≤ b ∧ b = c ∧ c ≤ es.length then
                               (match y with
                                | .pv (.sl .nil _ _) => some (.c y)
                                | _ => some (.sl .full sz ((es.drop a.toNat).take (b.toNat - a.toNat)))) else none
                             | none => none
                           | _, _, _ => none
                           else none
                         | none => none
                       | _ => none) = some (v.map (CV.shutIds is)) := by
                    intro y' e1 e2 e3
                    cases y' with
                    | pv p =>
                      simp only [e1, e2, if_true]
                      rw [ha', hb']
                      show (if _ then _ else none) = _
                      rw [if_pos hc]; exact e3
                    | own i s' l =>
                      simp only [e1, e2, if_true]
                      rw [ha', hb']
                      show (if _ then _ else none) = _
                      rw [if_pos hc]; exact e3
                    | _ => simp [slEs] at e1
                  refine fin _ h1 h2 ?_
                  cases y with
                  | pv p =>
                    simp only [CV.shutIds]
                    split at h
                    · cases h; rfl
                    · cases h; rfl
                  | own i s' l =>
                    simp only at h
                    cases h
                    cases hi' : is.contains i with
                    | true => simp only [CV.shutIds, hi', if_true]; rfl
                    | false => simp only [CV.shutIds, hi', Bool.false_eq_true, if_false]; rfl
                  | _ => simp [slEs] at hes
                · rw [if_neg hc] at h; cases h
          · cases h
        · cases h
      · cases h
  case iaddrS sz x i =>
    rw [g x (by simp), g i (by simp)]
    split at h
    · rename_i k off s n j e1 e2
      rw [e1, asI_map e2]
      simp only [AV.map, CV.shutIds]
      split at h
      · rename_i hc; rw [if_pos hc]; cases h; rfl
      · cases h
    · rename_i y j hne e1 e2
      rw [e1, asI_map e2]
      simp only [AV.map]
      split at h
      · rename_i es hes
        split at h
        · rename_i hc
          split at h
          · rename_i el hel
            cases h
            have h1 := slEs_map (is := is) hes
            have h2 := szOk_map (is := is) hes hc.2
            generalize y.shutIds is = y' at h1 h2 ⊢
            cases y' with
            | pv p => simp only [h1, hc.1, h2, and_self, if_true, hel]; rfl
            | own a b c => simp only [h1, hc.1, h2, and_self, if_true, hel]; rfl
            | _ => simp [slEs] at h1
          · cases h
        · cases h
      · cases h
    · cases h
  case iaddrA len sz x i =>
    rw [g x (by simp), g i (by simp)]
    split at h
    · rename_i k o j e1 e2
      rw [e1, asI_map e2]
      simp only [AV.map, CV.shutIds]
      split at h
      · rename_i hc; rw [if_pos hc]; cases h; rfl
      · cases h
    · rename_i l o j e1 e2
      rw [e1, asI_map e2]
      simp only [AV.map, CV.shutIds]
      split at h
      · rename_i hc; rw [if_pos hc]; cases h; rfl
      · cases h
    · cases h
  case idxS x i =>
    rw [g x (by simp), g i (by simp)]
    split at h
    · rename_i l j e1 e2
      rw [e1, asI_map e2]
      simp only [AV.map, CV.shutIds]
      split at h
      · rename_i hc
        rw [if_pos hc]
        split at h
        · rename_i b hb; cases h; rfl
        · cases h
      · cases h
    · cases h
  case len x =>
    rw [g x (by simp)]
    split at h
    · rename_i e; rw [e]; cases h; rfl
    · rename_i y hne e
      rw [e]
      obtain ⟨es, h1, rfl⟩ := Option.map_eq_some_iff.1 h
      have h2 := slEs_map (is := is) h1
      simp only [AV.map]
      generalize y.shutIds is = y' at h2 ⊢
      cases y' with
      | pv p => simp only [h2, Option.map_some]; rfl
      | own a b c => simp only [h2, Option.map_some]; rfl
      | _ => simp [slEs] at h2
    · cases h
  case lenS x =>
    rw [g x (by simp)]
    split at h
    · rename_i e; rw [e]; cases h; rfl
    · cases h
end
theorem evS_alloc {o : XOper} (ho : o.allocs = true) {st : St} {v : AV} {s : St} (h : evS call o st = some (v, s)) : s.tm = st.tm ∧ (s.bx = st.bx ∨ ∃ b, s.bx = st.bx ++ [b]) ∧ ∀ tm', SameFor o st.tm tm' → evS call o ⟨tm', st.bx⟩ = some (v, ⟨tm', s.bx⟩) := by
  simp only [XOper.allocs, Bool.and_eq_true] at ho
  obtain ⟨_, ho⟩ := ho
  split at ho
  · rename_i z hz
    simp only [evS] at h
    split at h
    · cases h
    · rename_i hw
      cases h
      exact ⟨rfl, .inl rfl, fun tm' hs => by simp only [evS, ← hs.2, hw]⟩
    · rename_i hw
      simp only [hz, evW, Option.some.injEq, Prod.mk.injEq] at h
      obtain ⟨rfl, rfl⟩ := h
      exact ⟨rfl, .inr ⟨_, rfl⟩, fun tm' hs => by simp only [evS, ← hs.2, hw, hz, evW]⟩
  · rename_i F As hz
    simp only [evS] at h
    split at h
    · cases h
    · rename_i hw
      cases h
      exact ⟨rfl, .inl rfl, fun tm' hs => by simp only [evS, ← hs.2, hw]⟩
    · rename_i hw
      simp only [hz, evW, callMV] at h
      split at h
      · rename_i g e
        split at h
        · rename_i hall
          split at h
          · rename_i i sz es hcall
            split at h
            · rename_i hcond
              cases h
              refine ⟨rfl, .inr ⟨_, rfl⟩, fun tm' hs => ?_⟩
              have h1 : getA tm' F = getA st.tm F := (hs.1 F (by simp [hz, XOp.args])).symm
              have h2 : As.map (getA tm') = As.map (getA st.tm) := (args_congr fun X hX => hs.1 X (by simp [hz, XOp.args, hX])).symm
              simp only [evS, ← hs.2, hw, hz, evW, callMV, h1, e, h2]
              rw [if_pos hall, hcall]
              simp only
              rw [if_pos hcond]
            · cases h
          · cases h
        · cases h
      · cases h
  · cases ho
theorem evS_store {o : XOper} (ho : o.stores = true) {st : St} {v : AV} {s : St} (h : evS call o st = some (v, s)) : s.tm = st.tm ∧ ∀ tm', SameFor o st.tm tm' → evS call o ⟨tm', st.bx⟩ = some (v, ⟨tm', s.bx⟩) := by
  simp only [XOper.stores, Bool.and_eq_true] at ho
  obtain ⟨_, ho⟩ := ho
  split at ho
  · rename_i n A X hz
    simp only [evS] at h
    split at h
    · cases h
    · rename_i hw
      cases h
      exact ⟨rfl, fun tm' hs => by simp only [evS, ← hs.2, hw]⟩
    · rename_i hw
      simp only [hz, evW] at h
      split at h
      · rename_i k off e1
        split at h
        · rename_i cs e2
          split at h
          · rename_i hcond
            split at h
            · rename_i cs' e3
              cases h
              refine ⟨rfl, fun tm' hs => ?_⟩
              have hA := hs.1 A (by simp [hz, XOp.args])
              have hX := hs.1 X (by simp [hz, XOp.args])
              simp only [evS, ← hs.2, hw, hz, evW, ← hA, ← hX, e1, e2, hcond, and_self, if_true, e3]
            · cases h
          · cases h
        · cases h
      · cases h
  · rename_i n A X U hz
    simp only [evS] at h
    split at h
    · cases h
    · rename_i hw
      cases h
      exact ⟨rfl, fun tm' hs => by simp only [evS, ← hs.2, hw]⟩
    · rename_i hw
      simp only [hz, evW] at h
      split at h
      · rename_i k off k' off' e1 e1'
        split at h
        · cases h
        · rename_i hne
          split at h
          · rename_i cs e2
            split at h
            · rename_i hcond
              split at h
              · rename_i cs' e3
                cases h
                refine ⟨rfl, fun tm' hs => ?_⟩
                have hA := hs.1 A (by simp [hz, XOp.args])
                have hX := hs.1 X (by simp [hz, XOp.args])
                have hU := hs.1 U (by simp [hz, XOp.args])
                simp only [evS, ← hs.2, hw, hz, evW, ← hA, ← hX, ← hU, e1, e1', hne, if_false, e2, hcond, and_self, if_true, e3]
              · cases h
            · cases h
          · cases h
      · cases h
  · rename_i z A K n hz
    simp only [evS] at h
    split at h
    · cases h
    · rename_i hw
      cases h
      exact ⟨rfl, fun tm' hs => by simp only [evS, ← hs.2, hw]⟩
    · rename_i hw
      simp only [hz, evW] at h
      split at h
      · rename_i b p e1 e2
        split at h
        · rename_i kv e3
          split at h
          · rename_i hkn
            split at h
            · rename_i j u e4
              cases h
              refine ⟨rfl, fun tm' hs => ?_⟩
              have hA := hs.1 A (by simp [hz, XOp.args])
              have hK := hs.1 K (by simp [hz, XOp.args])
              simp only [evS, ← hs.2, hw, hz, evW, ← hA, ← hK, e1, e2, e3, hkn, if_true, e4]
            · rename_i e4
              cases h
              refine ⟨rfl, fun tm' hs => ?_⟩
              have hA := hs.1 A (by simp [hz, XOp.args])
              have hK := hs.1 K (by simp [hz, XOp.args])
              simp only [evS, ← hs.2, hw, hz, evW, ← hA, ← hK, e1, e2, e3, hkn, if_true, e4]
            · cases h
          · cases h
        · cases h
      · cases h
  · cases ho
theorem evS_storeO {o : XOper} {u : Nat} (ho : o.storesO u = true) {st : St} {v : AV} {s : St} (h : evS call o st = some (v, s)) {k' off' : Nat} (hu : getA st.tm (.tmp u) = .c (.ptr k' off')) : s.bx[k']? = st.bx[k']? := by
  simp only [XOper.storesO, Bool.and_eq_true] at ho
  obtain ⟨_, ho⟩ := ho
  split at ho
  · rename_i n A X q hz
    have hq : q = u := by simpa using ho
    subst hq
    simp only [evS] at h
    split at h
    · cases h
    · cases h; rfl
    · simp only [hz, evW, hu] at h
      split at h
      · rename_i k off k2 off2 e1 e1'
        cases e1'
        split at h
        · cases h
        · rename_i hne
          split at h
          · split at h
            · split at h
              · cases h
                exact List.getElem?_set_ne hne
              · cases h
            · cases h
          · cases h
      · cases h
  · cases ho
def Apart (o : XOper) (st : St) (k : Nat) : Prop := o.apps = true ∨ k < st.bx.length ∧ ∀ fz ap f as, o.op = .call fz ap f as → k ∉ reach st.bx 200 ((as.map (getA st.tm) ++ (match getA st.tm f with | .c (.fn _ caps) => caps.map fun k => AV.c (.ptr k 0) | _ => [])).flatMap AV.keys) []
theorem evS_stir {o : XOper} (ho : o.apps = true ∨ o.calls = true) {st : St} {v : AV} {s : St} (h : evS call o st = some (v, s)) :
    (s = st ∧ ∀ tm', SameFor o st.tm tm' → evS call o ⟨tm', st.bx⟩ = some (v, ⟨tm', st.bx⟩)) ∨
    ∃ is, wantG st.tm o.grd = some true ∧ s.tm = st.tm.map (AV.map (CV.shutIds is)) ∧ (∀ tm', SameFor o st.tm tm' → evS call o ⟨tm', st.bx⟩ = some (v, ⟨tm'.map (AV.map (CV.shutIds is)), s.bx⟩)) ∧ ∀ k b, st.bx[k]? = some b → Apart o st k → s.bx[k]? = some (b.map' (CV.shutIds is)) := by
  simp only [evS] at h
  split at h
  · cases h
  · rename_i hw
    cases h
    exact .inl ⟨rfl, fun tm' hs => by simp only [evS, ← hs.2, hw]⟩
  · rename_i hw
    rcases ho with ho | ho
    · simp only [XOper.apps, Bool.and_eq_true] at ho
      obtain ⟨_, ho⟩ := ho
      split at ho
      · rename_i sz bytes S X hz
        simp only [hz, evW] at h
        have fin : ∀ tm', SameFor o st.tm tm' → wantG tm' o.grd = some true ∧ getA tm' S = getA st.tm S ∧ getA tm' X = getA st.tm X := fun tm' hs =>
          ⟨by rw [← hs.2]; exact hw, (hs.1 S (by simp [hz, XOp.args])).symm, (hs.1 X (by simp [hz, XOp.args])).symm⟩
        split at h
        · rename_i new hnew
          split at h
          · rename_i so s' es e1
            split at h
            · rename_i h0
              cases h
              refine .inl ⟨rfl, fun tm' hs => ?_⟩
              obtain ⟨a1, a2, a3⟩ := fin tm' hs
              simp only [evS, a1, hz, evW, a2, a3, hnew, e1, h0, if_true]
            · rename_i h0
              split at h
              · rename_i hcond
                cases h
                refine .inr ⟨[idOf o.dst 63], hw, by rw [← shutId_eq]; rfl, fun tm' hs => ?_, fun k b hb _ => by rw [← shutId_eq]; simp [St.mapC, hb]⟩
                obtain ⟨a1, a2, a3⟩ := fin tm' hs
                simp only [evS, a1, hz, evW, a2, a3, hnew, e1, h0, if_false]
                rw [if_pos hcond, ← shutId_eq]
                rfl
              · cases h
          · rename_i i s' es e1
            split at h
            · rename_i hcond
              have key : ∀ t : St, (t.mapC (CV.shutId i)).mapC (CV.shutId (idOf o.dst 63)) = t.mapC (CV.shutIds ([i] ++ [idOf o.dst 63])) := fun t => by rw [shutId_eq, shutId_eq, mapC_comp]
              rw [key] at h
              cases h
              refine .inr ⟨[i] ++ [idOf o.dst 63], hw, rfl, fun tm' hs => ?_, fun k b hb _ => by simp [St.mapC, hb]⟩
              obtain ⟨a1, a2, a3⟩ := fin tm' hs
              simp only [evS, a1, hz, evW, a2, a3, hnew, e1]
              rw [if_pos hcond, key]
              rfl
            · cases h
          · cases h
        · cases h
      · cases ho
    · simp only [XOper.calls, Bool.and_eq_true] at ho
      obtain ⟨_, ho⟩ := ho
      split at ho
      · rename_i ap F As hz
        simp only [hz, evW, callW, Bool.false_eq_true, if_false] at h
        have fin : ∀ tm', SameFor o st.tm tm' → wantG tm' o.grd = some true ∧ getA tm' F = getA st.tm F ∧ As.map (getA tm') = As.map (getA st.tm) ∧ ∀ K, apOk tm' K ap = apOk st.tm K ap := fun tm' hs =>
          ⟨by rw [← hs.2]; exact hw, (hs.1 F (by simp [hz, XOp.args])).symm, (args_congr fun X hX => hs.1 X (by simp [hz, XOp.args, hX])).symm, fun K => by
            unfold apOk
            rw [Bool.eq_iff_iff]
            simp only [List.all_eq_true]
            have : ∀ X ∈ ap, getA st.tm X = getA tm' X := fun X hX => hs.1 X (by simp [hz, XOp.args, hX])
            exact ⟨fun hh X hX => by rw [this X hX]; exact hh X hX, fun hh X hX => by rw [← this X hX]; exact hh X hX⟩⟩
        split at h
        · rename_i g caps e1
          split at h
          · rename_i hall
            split at h
            · rename_i sub hsub
              split at h
              · rename_i r bs hcall
                split at h
                · rename_i hlen
                  rw [mapC_comp] at h
                  cases h
                  refine .inr ⟨_, hw, rfl, fun tm' hs => ?_, fun k b hb hap => ?_⟩
                  · obtain ⟨a1, a2, a3, a4⟩ := fin tm' hs
                    simp only [evS, a1, hz, evW, callW, Bool.false_eq_true, if_false, a2, e1, a3, a4, hall, if_true, hsub, hcall, hlen, mapC_comp]
                    rfl
                  · rcases hap with hap | ⟨hkl, hap⟩
                    · simp only [XOper.apps, Bool.and_eq_true] at hap
                      rw [hz] at hap
                      simp at hap
                    · have := hap _ _ _ _ hz
                      rw [e1] at this
                      simp only
                      rw [List.getElem?_append_left (by simpa [setBs_len, St.mapC] using hkl), setBs_out this]
                      simp [St.mapC, hb]
                · cases h
              · cases h
            · cases h
          · cases h
        · cases h
      · cases ho
theorem evS_ap {o : XOper} (ho : o.calls = true) {st : St} {v : AV} {s : St} (h : evS call o st = some (v, s)) (hw : wantG st.tm o.grd = some true) {fz : Bool} {ap as : List XArg} {f : XArg} (hop : o.op = .call fz ap f as) {X : XArg} (hX : X ∈ ap) {k off : Nat} (hg : getA st.tm X = .c (.ptr k off)) (hk : k < st.bx.length) : Apart o st k := by
  simp only [XOper.calls, Bool.and_eq_true] at ho
  rw [hop] at ho
  have hfz : fz = false := by
    have := ho.2
    cases fz
    · rfl
    · simp at this
  subst hfz
  simp only [evS, hw, hop, evW, callW, Bool.false_eq_true, if_false] at h
  refine .inr ⟨hk, fun fz' ap' f' as' hop' => ?_⟩
  rw [hop] at hop'
  cases hop'
  split at h
  · rename_i g caps e1
    rw [e1]
    split at h
    · rename_i hall
      simp only [Bool.and_eq_true] at hall
      have := List.all_eq_true.1 hall.2 X hX
      rw [hg] at this
      simpa using this
    · cases h
  · cases h
theorem takeB_fix {is : List Nat} {cs : List CV} : ∀ (n off : Nat) (l : List CV), takeB n cs off = some l → takeB n (cs.map (CV.shutIds is)) off = some (l.map (CV.shutIds is)) := by
  intro n
  induction n with
  | zero => intro off l hl; simp only [takeB, Option.some.injEq] at hl ⊢; subst hl; rfl
  | succ n ih =>
    intro off l hl
    simp only [takeB] at hl ⊢
    split at hl
    · rename_i p r h2 h3
      cases hl
      simp only [List.getElem?_map, h2, Option.map_some, ih _ _ h3]
      rfl
    · cases hl
theorem look_fix {is : List Nat} {b : Box} {n off : Nat} {l : List CV} (h : b.look n off = some l) : (b.map' (CV.shutIds is)).look n off = some (l.map (CV.shutIds is)) := by
  cases b with
  | cells cs => exact takeB_fix n off l h
  | row sz es =>
    simp only [Box.map', Box.look, takeR] at h ⊢
    split at h
    · rw [h, takeC_fix h]
    · cases h
  | _ => simp [Box.look] at h
theorem loadB_even {is : List Nat} {ag : Bool} {n k off : Nat} {u : AV} (h : loadB bx ag n k off = some u) (hb : ∀ b, bx[k]? = some b → bx'[k]? = some (b.map' (CV.shutIds is))) : loadB bx' ag n k off = some (u.map (CV.shutIds is)) := by
  unfold loadB at h ⊢
  split at h
  · rename_i l hl
    obtain ⟨b, hk, hl⟩ := Option.bind_eq_some_iff.1 hl
    simp only [hb _ hk, Option.bind_some, look_fix hl]
    exact load_fin h
  · cases h
theorem evV_even {is : List Nat} {x : XOper} {v : AV} (he : x.even = true) (hc : x.cls = .p ∨ (x.cls = .r ∧ ((∃ ag n a, x.op = .load ag n a ∧ ∀ (k : Nat) (b : Box), bx[k]? = some b → bx'[k]? = some (b.map' (CV.shutIds is))) ∨
      ∃ ag n a u, x.op = .loadR ag n a u ∧ ∀ (k off : Nat) (b : Box), getA tm u = .c (.ptr k off) → bx[k]? = some b → bx'[k]? = some (b.map' (CV.shutIds is))))) (h : evV call x ⟨tm, bx⟩ = some v) :
    evV call x ⟨tm.map (AV.map (CV.shutIds is)), bx'⟩ = some (v.map (CV.shutIds is)) := by
  simp only [XOper.even, Bool.and_eq_true] at he
  simp only [evV] at h ⊢
  split at h
  · cases h
  · rename_i hw; cases h; rw [wantG_map hw]; rfl
  · rename_i hw
    rw [wantG_map hw]
    rcases hc with hc | ⟨hc, ⟨ag, n, a, hop, hb⟩ | ⟨ag, n, a, u, hop, hb⟩⟩
    · simp only [hc, if_true] at h ⊢
      exact evP_even he.1 he.2 h
    · have hne : ¬ x.cls = .p := by rw [hc]; simp
      have hlit : litEven a = true := by
        have := he.2; rw [hop] at this; simpa [XOp.args] using this
      simp only [hne, if_false, hop, evR] at h ⊢
      rw [getA_map hlit]
      split at h
      · rename_i cells off e
        rw [e, show (AV.c (.cptr cells off)).map (CV.shutIds is) = .c (.cptr cells off) from rfl]
        split at h
        · rename_i l hl
          have := load_fin (is := is) h
          rw [takeC_fix hl] at this
          simp only [hl]
          exact this
        · cases h
      · rename_i k off e
        rw [e, show (AV.c (.ptr k off)).map (CV.shutIds is) = .c (.ptr k off) from rfl]
        exact loadB_even h (hb k)
      · cases h
    · have hne : ¬ x.cls = .p := by rw [hc]; simp
      have hlit : litEven a = true ∧ litEven u = true := by
        have := he.2; rw [hop] at this; simpa [XOp.args] using this
      simp only [hne, if_false, hop, evR] at h ⊢
      rw [getA_map hlit.1, getA_map hlit.2]
      split at h
      · rename_i k off k' o' e1 e2
        rw [e1, e2, show (AV.c (.ptr k off)).map (CV.shutIds is) = .c (.ptr k off) from rfl, show (AV.c (.ptr k' o')).map (CV.shutIds is) = .c (.ptr k' o') from rfl]
        split at h
        · rename_i hk
          subst hk
          simp only [if_true]
          exact loadB_even h (fun b => hb k o' b e2)
        · cases h
      · cases h
theorem putD_map (f : CV → CV) (d : Option Nat) (v : AV) (tm : List AV) : (putD tm d v).map (AV.map f) = putD (tm.map (AV.map f)) d (v.map f) := by
  cases d with
  | none => rfl
  | some d => simp [putD, List.map_set]
theorem keyEq_ints : ∀ {l : List PV}, l.all PV.isInt = true → keyEq l l = some true
  | [], _ => rfl
  | x :: l, h => by
    rw [List.all_cons, Bool.and_eq_true] at h
    cases x <;> simp only [PV.isInt, Bool.false_eq_true, false_and] at h
    simp only [keyEq, keyEq_ints h.2, if_true, Option.map_some, beq_self_eq_true, Bool.true_and]
theorem mapPos_get : ∀ {kv : List (PV × PV)} {p : PV} {i : Nat} {r : Option (Nat × PV)}, mapPos kv p i = some r → mapGet kv p = some (r.map (·.2))
  | [], p, i, r, h => by
    cases p <;> simp only [mapPos, Option.some.injEq, reduceCtorEq] at h <;> subst h <;> rfl
  | (key, u) :: kv, p, i, r, h => by
    cases p <;> cases key <;> simp only [mapPos, reduceCtorEq] at h
    · simp only [mapGet]
      split at h
      · rename_i hk
        rw [if_pos hk]
        split at h
        · rename_i ha
          cases h
          rw [if_pos ha]; rfl
        · rename_i ha
          rw [if_neg ha]; exact mapPos_get h
      · cases h
    · simp only [mapGet]
      split at h
      · cases h; rfl
      · exact mapPos_get h
      · cases h
theorem mapGet_snoc {z : PV} {n : Nat} : ∀ {kv : List (PV × PV)} {p : PV}, keyN n p = true → mapGet kv p = some none → mapGet (kv ++ [(p, z)]) p = some (some z)
  | [], p, hk, h => by
    cases n with
    | zero =>
      cases p <;> simp only [keyN, Bool.false_eq_true] at hk
      simp [mapGet]
    | succ n =>
      cases p <;> simp only [keyN, Bool.false_eq_true, Bool.and_eq_true] at hk
      simp only [List.nil_append, mapGet, keyEq_ints hk.2]
  | (key, u) :: kv, p, hk, h => by
    cases p <;> cases key <;> simp only [mapGet, reduceCtorEq, List.cons_append] at h ⊢
    · split at h
      · rename_i hq
        rw [if_pos hq]
        split at h
        · cases h
        · rename_i ha
          rw [if_neg ha]; exact mapGet_snoc hk h
      · cases h
    · split at h
      · cases h
      · exact mapGet_snoc hk h
      · cases h
theorem ent_look {x y : XOper} (hE : okEnt x.op y.op = true) (k1 : x.cls = .r) {st : St} {bx' : List Box} {v w : AV} (hv : evS call y st = some (v, ⟨st.tm, bx'⟩)) (hw : evV call x st = some w) : evV call x ⟨st.tm, bx'⟩ = some w := by
  unfold okEnt at hE
  split at hE
  · rename_i q a m k n q' a' m' k' n' hx hy
    simp only [decide_eq_true_eq] at hE
    obtain ⟨rfl, rfl, rfl, rfl, rfl⟩ := hE
    simp only [evV] at hw ⊢
    split at hw
    · cases hw
    · exact hw
    · simp only [k1, hx, reduceCtorEq, if_false, evR] at hw ⊢
      simp only [evS] at hv
      split at hv
      · cases hv
      · simp only [Option.some.injEq, Prod.mk.injEq] at hv
        have hb : bx' = st.bx := (congrArg St.bx hv.2).symm
        rw [hb]
        exact hw
      · simp only [hy, evW] at hv
        split at hw
        · rename_i b p e1 e2
          split at hw
          · rename_i kv e3
            have hbl : b < st.bx.length := (List.getElem?_eq_some_iff.1 e3).1
            split at hw
            · rename_i hkn
              simp only [e1, e2, e3, hkn, if_true] at hv
              split at hv
              · rename_i j u e4
                simp only [Option.some.injEq, Prod.mk.injEq, St.mk.injEq, true_and] at hv
                obtain ⟨_, rfl⟩ := hv
                simp only [List.getElem?_set_self hbl, hkn, if_true]
                exact hw
              · rename_i e4
                simp only [Option.some.injEq, Prod.mk.injEq, St.mk.injEq, true_and] at hv
                obtain ⟨_, rfl⟩ := hv
                have g1 : mapGet kv p = some none := mapPos_get e4
                simp only [List.getElem?_set_self hbl, hkn, if_true, mapGet_snoc (z := PV.int q a) hkn g1]
                rw [g1] at hw
                exact hw
              · cases hv
            · cases hw
          · cases hw
        · cases hw
  · cases hE
theorem evOper_comm {x y : XOper} (h : okPair x y = true) {st st1 st2 : St} (h1 : evOper call x st = some st1) (h2 : evOper call y st1 = some st2) : ∃ st1', evOper call y st = some st1' ∧ evOper call x st1' = some st2 := by
  simp only [okPair, Bool.and_eq_true] at h
  obtain ⟨⟨hA, hB⟩, hk⟩ := h
  have a1 : ∀ d, x.dst = some d → d ∉ y.uses := fun d hd => by rw [hd] at hA; simp only [Bool.and_eq_true, Bool.not_eq_true'] at hA; simpa using hA.1
  have a2 : ∀ d, x.dst = some d → y.dst ≠ some d := fun d hd => by rw [hd] at hA; simp only [Bool.and_eq_true] at hA; simpa using hA.2
  have a3 : ∀ d, y.dst = some d → d ∉ x.uses := fun d hd => by rw [hd] at hB; simpa using hB
  have pr : ∀ {o : XOper} {s s' : St}, o.cls ≠ .w → evOper call o s = some s' → ∃ v, evV call o s = some v ∧ s' = ⟨putD s.tm o.dst v, s.bx⟩ := by
    intro o s s' hc he
    unfold evOper at he
    split at he
    · rename_i e; exact absurd e hc
    · split at he
      · rename_i v hv; cases he; exact ⟨v, hv, rfl⟩
      · cases he
  have pr' : ∀ {o : XOper} {s : St} {v : AV}, o.cls ≠ .w → evV call o s = some v → evOper call o s = some ⟨putD s.tm o.dst v, s.bx⟩ := by
    intro o s v hc he
    unfold evOper
    split
    · rename_i e; exact absurd e hc
    · rw [he]
  have wr : ∀ {o : XOper} {s s' : St}, o.cls = .w → evOper call o s = some s' → ∃ v t, evS call o s = some (v, t) ∧ s' = ⟨putD t.tm o.dst v, t.bx⟩ := by
    intro o s s' hc he
    simp only [evOper, hc] at he
    split at he
    · rename_i v t hv; cases he; exact ⟨v, t, hv, rfl⟩
    · cases he
  have wr' : ∀ {o : XOper} {s t : St} {v : AV}, o.cls = .w → evS call o s = some (v, t) → evOper call o s = some ⟨putD t.tm o.dst v, t.bx⟩ := by
    intro o s t v hc he
    simp only [evOper, hc, he]
  have sx : ∀ v, SameFor x (putD st.tm y.dst v) st.tm := fun v => SameFor.put a3
  have sy : ∀ v, SameFor y (putD st.tm x.dst v) st.tm := fun v => SameFor.put a1
  have clsw : ∀ {o : XOper}, (o.allocs = true ∨ o.stores = true ∨ o.apps = true ∨ o.calls = true) → o.cls = .w := by
    intro o ho
    rcases ho with ho | ho | ho | ho <;> simp only [XOper.allocs, XOper.stores, XOper.apps, XOper.calls, Bool.and_eq_true, beq_iff_eq] at ho <;> exact ho.1
  simp only [okKind, Bool.or_eq_true, Bool.and_eq_true, bne_iff_ne, beq_iff_eq] at hk
  rcases hk with ((((((⟨k1, k2⟩ | ⟨k1, k2⟩) | ⟨k1, k2⟩) | ⟨k1, k2⟩) | ⟨k1, k2⟩) | ⟨⟨k3, k1⟩, k2⟩) | ⟨k1, k2⟩) | ⟨⟨k1, k3⟩, k2⟩
  rotate_right
  · -- a map is asked, and then gets the entry
    have k1n : x.cls ≠ .w := by rw [k1]; simp
    obtain ⟨w, hw, rfl⟩ := pr k1n h1
    obtain ⟨v, t, hv, rfl⟩ := wr (clsw (.inr (.inl k2))) h2
    obtain ⟨e1, e3⟩ := evS_store k2 hv
    simp only at e1 e3
    have hv' := e3 st.tm (sy w)
    refine ⟨_, wr' (clsw (.inr (.inl k2))) hv', ?_⟩
    have hu' : evV call x ⟨putD st.tm y.dst v, t.bx⟩ = some w := by
      rw [evV_congr (sx v) (.inr rfl)]
      exact ent_look k3 k1 hv' hw
    rw [pr' k1n hu']
    simp only [e1, putD_comm a2]
  rotate_right
  · -- a box is written, and another one is looked at
    have k1n : x.cls ≠ .w := by rw [k1]; simp
    split at k2
    · rename_i ag n a u hx
      have k2w : y.cls = .w := by simp only [XOper.storesO, Bool.and_eq_true, beq_iff_eq] at k2; exact k2.1
      have k2s : y.stores = true := by
        simp only [XOper.storesO, XOper.stores, Bool.and_eq_true] at k2 ⊢
        refine ⟨k2.1, ?_⟩
        have := k2.2
        split at this
        · rename_i e; rw [e]
        · cases this
      obtain ⟨w, hw, rfl⟩ := pr k1n h1
      obtain ⟨v, t, hv, rfl⟩ := wr k2w h2
      obtain ⟨e1, e3⟩ := evS_store k2s hv
      simp only at e1 e3
      have hv' := e3 st.tm (sy w)
      refine ⟨_, wr' k2w hv', ?_⟩
      have hu' : evV call x ⟨putD st.tm y.dst v, t.bx⟩ = some w := by
        rw [evV_congr (sx v) (.inr rfl)]
        simp only [evV] at hw ⊢
        split at hw
        · cases hw
        · exact hw
        · simp only [k1, hx] at hw ⊢
          simp only [reduceCtorEq, if_false, evR] at hw ⊢
          split at hw
          · rename_i k off k' off' f1 f2
            split at hw
            · rename_i hkk
              subst hkk
              have hb := evS_storeO k2 hv' f2
              simp only at hb
              rw [if_pos rfl]
              simp only [loadB] at hw ⊢
              rw [hb]; exact hw
            · cases hw
          · cases hw
      rw [pr' k1n hu']
      simp only [e1, putD_comm a2]
    · cases k2
  · -- both only look
    obtain ⟨u, hu, rfl⟩ := pr k1 h1
    obtain ⟨v, hv, rfl⟩ := pr k2 h2
    have hv' : evV call y st = some v := by rw [← hv]; exact (evV_congr (sy u) (.inr rfl)).symm
    refine ⟨_, pr' k2 hv', ?_⟩
    have hu' : evV call x ⟨putD st.tm y.dst v, st.bx⟩ = some u := by rw [← hu]; exact evV_congr (sx v) (.inr rfl)
    rw [pr' k1 hu']
    simp only [putD_comm a2]
  · -- a box is made, and something is looked at
    have k2w := clsw (.inl k2)
    obtain ⟨u, hu, rfl⟩ := pr k1 h1
    obtain ⟨v, t, hv, rfl⟩ := wr k2w h2
    obtain ⟨e1, e2, e3⟩ := evS_alloc k2 hv
    simp only at e1 e2 e3
    have hv' := e3 st.tm (sy u)
    refine ⟨_, wr' k2w hv', ?_⟩
    have hu' : evV call x ⟨putD st.tm y.dst v, t.bx⟩ = some u := by
      rw [evV_congr (sx v) (.inr rfl)]
      rcases e2 with e2 | ⟨b, e2⟩
      · rw [e2]; exact hu
      · rw [e2]; exact evV_more hu b
    rw [pr' k1 hu']
    simp only [e1, putD_comm a2]
  · have k1w := clsw (.inl k1)
    have k2n : y.cls ≠ .w := by rw [k2]; simp
    obtain ⟨u, t, hu, rfl⟩ := wr k1w h1
    obtain ⟨v, hv, rfl⟩ := pr k2n h2
    obtain ⟨e1, e2, e3⟩ := evS_alloc k1 hu
    have hv' : evV call y st = some v := by
      rw [← hv]
      simp only [e1]
      exact (evV_congr (sy u) (.inl k2)).symm
    refine ⟨_, pr' k2n hv', ?_⟩
    have hu' := e3 (putD st.tm y.dst v) ⟨fun X hX => ((sx v).1 X hX).symm, (sx v).2.symm⟩
    rw [wr' k1w hu']
    simp only [e1, putD_comm a2]
  · -- a box is written, and something is looked at that is none
    have k2w := clsw (.inr (.inl k2))
    have k1n : x.cls ≠ .w := by rw [k1]; simp
    obtain ⟨u, hu, rfl⟩ := pr k1n h1
    obtain ⟨v, t, hv, rfl⟩ := wr k2w h2
    obtain ⟨e1, e3⟩ := evS_store k2 hv
    simp only at e1 e3
    have hv' := e3 st.tm (sy u)
    refine ⟨_, wr' k2w hv', ?_⟩
    have hu' : evV call x ⟨putD st.tm y.dst v, t.bx⟩ = some u := by
      rw [← hu]
      exact evV_congr (sx v) (.inl k1)
    rw [pr' k1n hu']
    simp only [e1, putD_comm a2]
  · have k1w := clsw (.inr (.inl k1))
    have k2n : y.cls ≠ .w := by rw [k2]; simp
    obtain ⟨u, t, hu, rfl⟩ := wr k1w h1
    obtain ⟨v, hv, rfl⟩ := pr k2n h2
    obtain ⟨e1, e3⟩ := evS_store k1 hu
    have hv' : evV call y st = some v := by
      rw [← hv]
      simp only [e1]
      exact (evV_congr (sy u) (.inl k2)).symm
    refine ⟨_, pr' k2n hv', ?_⟩
    have hu' := e3 (putD st.tm y.dst v) ⟨fun X hX => ((sx v).1 X hX).symm, (sx v).2.symm⟩
    rw [wr' k1w hu']
    simp only [e1, putD_comm a2]
  · -- something is appended, or called, and something is looked at
    have k2w : y.cls = .w := by rcases k2 with k2 | k2; exact clsw (.inr (.inr (.inl k2))); exact clsw (.inr (.inr (.inr k2)))
    have k1n : x.cls ≠ .w := by
      rcases k1 with k1 | k1
      · rw [k1]; simp
      · simp only [okLoad, Bool.and_eq_true, beq_iff_eq] at k1; rw [k1.1]; simp
    obtain ⟨u, hu, rfl⟩ := pr k1n h1
    obtain ⟨v, t, hv, rfl⟩ := wr k2w h2
    rcases evS_stir k2 hv with ⟨e1, e3⟩ | ⟨is, hwy, e1, e3, e4⟩
    · subst e1
      have hv' := e3 st.tm (sy u)
      refine ⟨_, wr' k2w hv', ?_⟩
      have hu' : evV call x ⟨putD st.tm y.dst v, st.bx⟩ = some u := by
        rw [← hu]
        exact evV_congr (sx v) (.inr rfl)
      rw [pr' k1n hu']
      simp only [putD_comm a2]
    · simp only at e1 e3 e4
      have hv' := e3 st.tm (sy u)
      refine ⟨_, wr' k2w hv', ?_⟩
      have b1 : evV call x ⟨st.tm.map (AV.map (CV.shutIds is)), t.bx⟩ = some (u.map (CV.shutIds is)) := by
        · refine evV_even k3 ?_ hu
          rcases k1 with k1 | k1
          · exact .inl k1
          · simp only [okLoad, Bool.and_eq_true, beq_iff_eq] at k1
            obtain ⟨k1, k4⟩ := k1
            refine .inr ⟨k1, ?_⟩
            split at k4
            · rename_i ag n A hop
              exact .inl ⟨ag, n, A, hop, fun k b hb => e4 k b hb (.inl k4)⟩
            · rename_i ag n A uu hop
              refine .inr ⟨ag, n, A, .tmp uu, hop, fun k off b hg hb => e4 k b hb ?_⟩
              simp only [Bool.or_eq_true] at k4
              rcases k4 with k4 | k4
              · exact .inl k4
              · split at k4
                · rename_i fz ap f as hopy
                  obtain ⟨X, hX, hXt⟩ := List.any_eq_true.1 k4
                  cases X with
                  | lit _ => simp at hXt
                  | tmp q =>
                    simp only [beq_iff_eq] at hXt
                    subst hXt
                    have hcalls : y.calls = true := by
                      rcases k2 with k2 | k2
                      · simp only [XOper.apps, Bool.and_eq_true] at k2; rw [hopy] at k2; simp at k2
                      · exact k2
                    have hgy : getA (putD st.tm x.dst u) (.tmp q) = .c (.ptr k off) := by
                      rw [(sy u).1 (.tmp q) (by simp [hopy, XOp.args, hX])]; exact hg
                    exact evS_ap hcalls hv hwy hopy hX hgy (List.getElem?_eq_some_iff.1 hb).1
                · cases k4
            · cases k4
      have hu' : evV call x ⟨putD (st.tm.map (AV.map (CV.shutIds is))) y.dst v, t.bx⟩ = some (u.map (CV.shutIds is)) := by
        rw [← b1]
        exact evV_congr (SameFor.put a3) (.inr rfl)
      rw [pr' k1n hu']
      simp only [e1, putD_map, putD_comm a2]
end
end Go.Sx
