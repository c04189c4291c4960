/- '==' of structs and arrays; parts of values; memory that is read. -/
import Derived.Test.YtggopflifieoiaaDoorSxOps
namespace Go.Sx
open Go
theorem eqCells_nil {l m : List CV} {b : Bool} (h : eqCells [] l m = some b) : l = [] ∧ m = [] ∧ b = true := by
  cases l with
  | nil => cases m with
    | nil => simp [eqCells] at h; exact ⟨rfl, rfl, h⟩
    | cons y m => simp [eqCells] at h
  | cons x l => simp [eqCells] at h
theorem eqCells_cons {k : Nat} {ks : List Nat} {l m : List CV} {b : Bool} (h : eqCells (k :: ks) l m = some b) :
    ∃ x l' y m' a c, l = .pv x :: l' ∧ m = .pv y :: m' ∧ PV.eqCell k x y = some a ∧ eqCells ks l' m' = some c ∧ b = (a && c) := by
  cases l with
  | nil => simp [eqCells] at h
  | cons x l => cases m with
    | nil => cases x <;> simp [eqCells] at h
    | cons y m =>
      cases x <;> cases y <;> simp only [eqCells, reduceCtorEq] at h
      split at h
      · rename_i a c ha hc
        cases h
        exact ⟨_, _, _, _, a, c, rfl, rfl, ha, hc, rfl⟩
      · cases h
theorem eqCells_split : ∀ (k1 k2 : List Nat) (l m : List CV) (b : Bool), eqCells (k1 ++ k2) l m = some b →
    ∃ b1 b2, eqCells k1 (l.take k1.length) (m.take k1.length) = some b1 ∧ eqCells k2 (l.drop k1.length) (m.drop k1.length) = some b2 ∧ b = (b1 && b2)
  | [], k2, l, m, b, h => ⟨true, b, by simp [eqCells], by simpa using h, by simp⟩
  | k :: k1, k2, l, m, b, h => by
    obtain ⟨x, l', y, m', a, c, rfl, rfl, ha, hc, rfl⟩ := eqCells_cons h
    obtain ⟨b1, b2, h1, h2, h3⟩ := eqCells_split k1 k2 l' m' c hc
    exact ⟨a && b1, b2, by simp [eqCells, ha, h1], by simpa using h2, by rw [h3, Bool.and_assoc]⟩
theorem All2.extract {w : World} {own : Own} {nm : Nm} {l : List CV} {xs : Array Value} (h : All2 (RC w own nm) l xs.toList) (off n : Nat) : All2 (RC w own nm) ((l.drop off).take n) (xs.extract off (off + n)).toList := by
  have e : (xs.extract off (off + n)).toList = (xs.toList.drop off).take n := by
    rw [Array.toList_extract, List.extract_eq_take_drop]
    congr 1
    omega
  rw [e]
  exact (h.drop off).take n
section
variable {P : Program} {w : World} {own : Own} {nm : Nm}
theorem cell_eq {k : Nat} {x y : PV} {b : Bool} {vx vy : Value} (hx : RP w own x vx) (hy : RP w own y vy) (h : PV.eqCell k x y = some b) {t : TypeId} {d : Nat} (ht : flatK P (d + 1) t = some [k])
    (hag : isAggD (P.underlying t) = some false) : ∀ D, (Op.equalIn (D + 1) t vx vy).run P w = .ok b w := by
  intro D
  unfold flatK at ht
  unfold PV.eqCell at h
  split at h
  · split at h
    · rename_i k1 a k2 c e
      subst e
      cases h; cases hx; cases hy
      split at ht
      · rename_i hu; exact run_equalIn_int w D t _ _ _ _ hu
      all_goals first | (simp at ht; done) | (rename_i hu; simp [hu, isAggD] at hag)
    · cases h
  · cases h; cases hx; cases hy
    split at ht
    · simp at ht
    · rename_i hu; exact run_equalIn_bool w D t _ _ hu
    all_goals first | (simp at ht; done) | (rename_i hu; simp [hu, isAggD] at hag)
  · cases h; cases hx; cases hy
    split at ht
    · simp at ht
    · simp at ht
    · rename_i hu; rw [run_equalIn_string w D t _ _ hu, ByteArray.toList_mk, ByteArray.toList_mk]
    all_goals first | (simp at ht; done) | (rename_i hu; simp [hu, isAggD] at hag)
  · cases h
theorem run_part_cell {t : TypeId} (h : isAggD (P.underlying t) = some false) {xs : Array Value} {off : Nat} {v : Value} (hv : xs[off]? = some v) : (part t xs off).run P w = .ok v w := by
  simp [part, run_isAgg h, hv]
theorem run_part_agg {t : TypeId} (h : isAggD (P.underlying t) = some true) {xs : Array Value} {off n : Nat} (hn : sizeT P t = some n) : (part t xs off).run P w = .ok (.agg (xs.extract off (off + n))) w := by
  simp [part, run_isAgg h, run_size hn]
theorem flatK_size {d : Nat} {t : TypeId} {ks : List Nat} (h : flatK P d t = some ks) (hag : isAggD (P.underlying t) = some true) : sizeT P t = some ks.length := by
  cases d with
  | zero => simp [flatK] at h
  | succ d =>
    unfold flatK at h
    split at h
    · rename_i hu; simp [hu, isAggD] at hag
    · rename_i hu; simp [hu, isAggD] at hag
    · rename_i hu; simp [hu, isAggD] at hag
    · split at h
      · cases h
      · split at h
        · split at h
          · cases h; assumption
          · cases h
        · cases h
    · split at h
      · split at h
        · rename_i hc; cases h; exact hc.2
        · cases h
      · cases h
    · cases h
theorem flatK_kind {d : Nat} {t : TypeId} {ks : List Nat} (h : flatK P d t = some ks) : isAggD (P.underlying t) = some true ∨ (isAggD (P.underlying t) = some false ∧ ∃ k, ks = [k]) := by
  cases d with
  | zero => simp [flatK] at h
  | succ d =>
    unfold flatK at h
    split at h
    · rename_i hu; cases h; exact .inr ⟨by simp [hu, isAggD], _, rfl⟩
    · rename_i hu; cases h; exact .inr ⟨by simp [hu, isAggD], _, rfl⟩
    · rename_i hu; cases h; exact .inr ⟨by simp [hu, isAggD], _, rfl⟩
    · rename_i hu; exact .inl (by simp [hu, isAggD])
    · rename_i hu; exact .inl (by simp [hu, isAggD])
    · cases h
theorem part_eq {d : Nat} {t : TypeId} {ks : List Nat} (hk : flatK P (d + 1) t = some ks)
    (hrec : isAggD (P.underlying t) = some true → ∀ D, d + 1 ≤ D → ∀ (l m : List CV) (xs ys : Array Value) (b : Bool), All2 (RC w own nm) l xs.toList → All2 (RC w own nm) m ys.toList → eqCells ks l m = some b → (Op.equalIn D t (.agg xs) (.agg ys)).run P w = .ok b w)
    {D : Nat} (hD : d + 1 ≤ D) {l m : List CV} {xs ys : Array Value} {off : Nat} {b : Bool} (hl : All2 (RC w own nm) l xs.toList) (hm : All2 (RC w own nm) m ys.toList)
    (he : eqCells ks ((l.drop off).take ks.length) ((m.drop off).take ks.length) = some b) :
    ∃ a c, (part t xs off).run P w = .ok a w ∧ (part t ys off).run P w = .ok c w ∧ (Op.equalIn D t a c).run P w = .ok b w := by
  rcases flatK_kind hk with hag | ⟨hag, k, rfl⟩
  · have hs := flatK_size hk hag
    exact ⟨_, _, run_part_agg hag hs, run_part_agg hag hs, hrec hag D hD _ _ _ _ b (hl.extract _ _) (hm.extract _ _) he⟩
  · simp only [List.length_cons, List.length_nil, Nat.zero_add] at he
    obtain ⟨x, l', y, m', a, c, e1, e2, ha, hc, rfl⟩ := eqCells_cons he
    obtain ⟨rfl, rfl, rfl⟩ := eqCells_nil hc
    have g1 : l[off]? = some (.pv x) := by
      have := congrArg (·[0]?) e1
      simpa [List.getElem?_take, List.getElem?_drop] using this
    have g2 : m[off]? = some (.pv y) := by
      have := congrArg (·[0]?) e2
      simpa [List.getElem?_take, List.getElem?_drop] using this
    obtain ⟨vx, h1, r1⟩ := hl.get g1
    obtain ⟨vy, h2, r2⟩ := hm.get g2
    cases r1 with | pv r1 => cases r2 with | pv r2 =>
    obtain ⟨D', rfl⟩ : ∃ D', D = D' + 1 := ⟨D - 1, by omega⟩
    refine ⟨vx, vy, run_part_cell hag (by simpa using h1), run_part_cell hag (by simpa using h2), ?_⟩
    rw [Bool.and_true]
    exact cell_eq r1 r2 ha hk hag D'
theorem fields_eq {d D : Nat} (hD : d ≤ D) (ih : ∀ t ks, flatK P d t = some ks → ∀ (l m : List CV) (xs ys : Array Value) (off : Nat) (b : Bool), All2 (RC w own nm) l xs.toList → All2 (RC w own nm) m ys.toList →
      eqCells ks ((l.drop off).take ks.length) ((m.drop off).take ks.length) = some b → ∃ a c, (part t xs off).run P w = .ok a w ∧ (part t ys off).run P w = .ok c w ∧ (Op.equalIn D t a c).run P w = .ok b w)
    {l m : List CV} {xs ys : Array Value} (hl : All2 (RC w own nm) l xs.toList) (hm : All2 (RC w own nm) m ys.toList) :
    ∀ (fs : List Field) (off : Nat) (ks : List Nat) (b : Bool), flatFs P (flatK P d) off fs = some ks → eqCells ks (l.drop off) (m.drop off) = some b → (Op.eqFields D xs ys fs).run P w = .ok b w
  | [], off, ks, b, h, he => by
    simp only [flatFs, Option.some.injEq] at h
    subst h
    obtain ⟨_, _, rfl⟩ := eqCells_nil he
    rfl
  | f :: fs, off, ks, b, h, he => by
    simp only [flatFs] at h
    split at h
    · rename_i hn
      split at h
      · rename_i k1 hk1
        split at h
        · obtain ⟨k2, hk2, rfl⟩ := Option.map_eq_some_iff.1 h
          obtain ⟨b1, b2, e1, e2, rfl⟩ := eqCells_split k1 k2 _ _ b he
          rw [List.drop_drop, List.drop_drop] at e2
          obtain ⟨a, c, p1, p2, p3⟩ := ih f.type k1 hk1 l m xs ys off b1 hl hm e1
          have hr := fields_eq hD ih hl hm fs (off + k1.length) k2 b2 hk2 e2
          simp only [Op.eqFields, hn.1, ne_eq, not_false_eq_true, if_true, Sem.run_bind, hn.2, p1, p2, p3, Result.andThen_ok]
          cases b1
          · simp
          · simpa using hr
        · cases h
      · cases h
    · cases h
theorem items_eq {d D : Nat} {e : TypeId} {ks : List Nat} (hk : flatK P d e = some ks) (hs : sizeT P e = some ks.length) (ih : ∀ (l m : List CV) (xs ys : Array Value) (off : Nat) (b : Bool), All2 (RC w own nm) l xs.toList → All2 (RC w own nm) m ys.toList →
      eqCells ks ((l.drop off).take ks.length) ((m.drop off).take ks.length) = some b → ∃ a c, (part e xs off).run P w = .ok a w ∧ (part e ys off).run P w = .ok c w ∧ (Op.equalIn D e a c).run P w = .ok b w)
    {l m : List CV} {xs ys : Array Value} (hl : All2 (RC w own nm) l xs.toList) (hm : All2 (RC w own nm) m ys.toList) :
    ∀ (n i : Nat) (b : Bool), eqCells (repK ks n) (l.drop (i * ks.length)) (m.drop (i * ks.length)) = some b → (Op.eqItems D e ks.length xs ys (List.range' i n)).run P w = .ok b w
  | 0, i, b, he => by
    simp only [repK] at he
    obtain ⟨_, _, rfl⟩ := eqCells_nil he
    rfl
  | n + 1, i, b, he => by
    simp only [repK] at he
    obtain ⟨b1, b2, e1, e2, rfl⟩ := eqCells_split ks _ _ _ b he
    rw [List.drop_drop, List.drop_drop] at e2
    have hi : i * ks.length + ks.length = (i + 1) * ks.length := by rw [Nat.add_mul, Nat.one_mul]
    rw [hi] at e2
    obtain ⟨a, c, p1, p2, p3⟩ := ih l m xs ys (i * ks.length) b1 hl hm e1
    have hr := items_eq hk hs ih hl hm n (i + 1) b2 e2
    rw [List.range'_succ]
    simp only [Op.eqItems, Sem.run_bind, p1, p2, p3, Result.andThen_ok]
    cases b1
    · simp
    · simpa using hr
theorem agg_eq : ∀ (d : Nat) (t : TypeId) (ks : List Nat), flatK P d t = some ks → isAggD (P.underlying t) = some true → ∀ D, d ≤ D → ∀ (l m : List CV) (xs ys : Array Value) (b : Bool),
    All2 (RC w own nm) l xs.toList → All2 (RC w own nm) m ys.toList → eqCells ks l m = some b → (Op.equalIn D t (.agg xs) (.agg ys)).run P w = .ok b w
  | 0, t, ks, h, _ => by simp [flatK] at h
  | d + 1, t, ks, h, hag => by
    intro D hD l m xs ys b hl hm he
    obtain ⟨D, rfl⟩ : ∃ D', D = D' + 1 := ⟨D - 1, by omega⟩
    have ih : ∀ t ks, flatK P d t = some ks → ∀ (l m : List CV) (xs ys : Array Value) (off : Nat) (b : Bool), All2 (RC w own nm) l xs.toList → All2 (RC w own nm) m ys.toList →
      eqCells ks ((l.drop off).take ks.length) ((m.drop off).take ks.length) = some b → ∃ a c, (part t xs off).run P w = .ok a w ∧ (part t ys off).run P w = .ok c w ∧ (Op.equalIn D t a c).run P w = .ok b w := by
      intro t ks hk l m xs ys off b hl hm he
      cases d with
      | zero => simp [flatK] at hk
      | succ d => exact part_eq hk (fun hag D hD => agg_eq (d + 1) t ks hk hag D hD) (by omega) hl hm he
    unfold flatK at h
    split at h
    · rename_i hu; simp [hu, isAggD] at hag
    · rename_i hu; simp [hu, isAggD] at hag
    · rename_i hu; simp [hu, isAggD] at hag
    · rename_i fs hu
      split at h
      · cases h
      · rename_i hst
        split at h
        · rename_i ks' hks
          split at h
          · cases h
            have hf : P.fieldsOf t = fs := by simp [Program.fieldsOf, hu]
            rw [run_equalIn_struct w D t xs ys (by rw [hf]; exact hu) (by simpa using hst), hf]
            exact fields_eq (d := d) (D := D) (by omega) ih hl hm fs.toList 0 _ b hks (by simpa using he)
          · cases h
        · cases h
    · rename_i n e hu
      split at h
      · rename_i ks' hks
        split at h
        · rename_i hc
          cases h
          obtain ⟨i, hi, hsz⟩ := Option.map_eq_some_iff.1 hc.1
          have hce : P.cellsOf e = ks'.length := by simp [Program.cellsOf, hi, hsz]
          rw [run_equalIn_array w D xs ys hu hi, hce, List.range_eq_range']
          exact items_eq hks hc.1 (ih e ks' hks) hl hm n 0 b (by simpa using he)
        · cases h
      · cases h
    · cases h
end
end Go.Sx
