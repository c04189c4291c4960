/- Calendars: what they come to. -/
import Derived.Test.YtggopflifieoiaaDoorC3
import Derived.Test.YtggopflifieoiaaDoorSxLem
namespace Go.Sx.Tryd
open Go Go.Sx
theorem ltH {l : List Hol} {i : Nat} (h : i < l.length) : (i : Int) < (((l.map Hol.pv).length : Nat) : Int) := by rw [List.length_map]; omega
def kvK (l : List Hol) : List (PV × PV) := l.map fun h => (keyH h, PV.int .i64 1)
theorem keyEq_hol (x y : Hol) : keyEq [PV.int .i32 x.known, PV.int .i32 x.day] [PV.int .i32 y.known, PV.int .i32 y.day] = some (decide (x.known = y.known ∧ x.day = y.day)) := by
  simp only [keyEq, if_true, Option.map_some, Option.some.injEq, Bool.and_true]
  rw [Bool.eq_iff_iff]; simp
theorem kv_none {x : Hol} : ∀ {l : List Hol} (i : Nat), (∀ y ∈ l, ¬ (x.known = y.known ∧ x.day = y.day)) → mapGet (kvK l) (keyH x) = some none ∧ mapPos (kvK l) (keyH x) i = some none
  | [], _, _ => ⟨rfl, rfl⟩
  | y :: l, i, h => by
    have hy := h y (by simp)
    obtain ⟨g1, g2⟩ := kv_none (l := l) (i + 1) fun z hz => h z (by simp [hz])
    simp only [kvK, List.map_cons, mapGet, mapPos, keyEq_hol, decide_eq_false hy]
    exact ⟨g1, g2⟩
theorem kv_some {x : Hol} : ∀ {l : List Hol} (i : Nat), (∃ y ∈ l, x.known = y.known ∧ x.day = y.day) → mapGet (kvK l) (keyH x) = some (some (PV.int .i64 1)) ∧ ∃ j, j < l.length ∧ mapPos (kvK l) (keyH x) i = some (some (i + j, PV.int .i64 1)) ∧ mapGet (mapSet (kvK l) j (PV.int .i64 2)) (keyH x) = some (some (PV.int .i64 2))
  | [], _, h => by obtain ⟨y, hy, _⟩ := h; simp at hy
  | y :: l, i, h => by
    by_cases c : x.known = y.known ∧ x.day = y.day
    · refine ⟨?_, 0, by simp, ?_, ?_⟩
      · simp only [kvK, List.map_cons, mapGet, keyEq_hol, decide_eq_true c]
      · simp only [kvK, List.map_cons, mapPos, keyEq_hol, decide_eq_true c, Nat.add_zero]
      · simp only [kvK, List.map_cons, mapSet, List.modify_zero_cons, mapGet, keyEq_hol, decide_eq_true c]
    · have h' : ∃ y ∈ l, x.known = y.known ∧ x.day = y.day := by
        obtain ⟨z, hz, hk⟩ := h
        rcases List.mem_cons.1 hz with rfl | hz
        · exact absurd hk c
        · exact ⟨z, hz, hk⟩
      obtain ⟨g1, j, g2, g3, g4⟩ := kv_some (i + 1) h'
      refine ⟨?_, j + 1, by simpa using g2, ?_, ?_⟩
      · simp only [kvK, List.map_cons, mapGet, keyEq_hol, decide_eq_false c]; exact g1
      · simp only [kvK, List.map_cons, mapPos, keyEq_hol, decide_eq_false c]
        rw [show i + (j + 1) = i + 1 + j by omega]; exact g3
      · simp only [kvK, List.map_cons, mapSet, List.modify_succ_cons, mapGet, keyEq_hol, decide_eq_false c]; exact g4
theorem set_end (q : PV) : ∀ (a : List (PV × PV)) (x : PV × PV), mapSet (a ++ [x]) a.length q = a ++ [(x.1, q)]
  | [], x => rfl
  | y :: a, x => by
    have ih := set_end q a x
    unfold mapSet at ih ⊢
    rw [List.cons_append, List.length_cons, List.modify_succ_cons, ih, List.cons_append]
theorem set_last (l : List Hol) (x : Hol) : mapSet (kvK l ++ [(keyH x, PV.int .i64 0)]) (kvK l).length (PV.int .i64 1) = kvK (l ++ [x]) := by
  rw [set_end]
  simp [kvK]
theorem get_last {l : List Hol} {x : Hol} (h : ∀ y ∈ l, ¬ (x.known = y.known ∧ x.day = y.day)) : mapGet (kvK (l ++ [x])) (keyH x) = some (some (PV.int .i64 1)) := (kv_some 0 ⟨x, by simp, rfl, rfl⟩).1
theorem qa19 {l : List Hol} {o : SO} (hl : l.length ≤ 1000) : ∀ (r pre : List Hol), l = pre ++ r →
    (∃ kv, lv (cv (ev X E0) xf19_l0) (rl [0, 2, 3, 0, 0]) 1 (QS19 l o (kvK pre) (pre.length : Nat)) = some (XExit.exit 0, St.mk (tmOf 47 [(0, AV.c (CV.pv (PV.sl o 3 (List.map Hol.pv l))))]) [Box.map kv])) ∨
    (∃ kv x, lv (cv (ev X E0) xf19_l0) (rl [0, 2, 3, 0, 0]) 1 (QS19 l o (kvK pre) (pre.length : Nat)) = some (XExit.ret, St.mk (tmOf 47 [(2, AV.c (CV.pv (PV.bool false)))]) [Box.map kv, Box.cells (Hol.cs x)]))
  | [], pre, e => by
    rw [List.append_nil] at e
    subst e
    exact .inl ⟨_, ql19x_1 l o (kvK l) l.length (by simp)⟩
  | y :: r, pre, e => by
    have hlen : l.length = pre.length + r.length + 1 := by rw [e]; simp; omega
    have hat : l[pre.length]? = some y := by rw [e]; simp
    have hlt := ltH (l := l) (i := pre.length) (by omega)
    by_cases c : ∃ z ∈ pre, y.known = z.known ∧ y.day = z.day
    · obtain ⟨g1, j, g2, g3, g4⟩ := kv_some 0 c
      rw [Nat.zero_add] at g3
      exact .inr ⟨_, y, ql19s_4 l o (kvK pre) pre.length j y hat hlt g1 g3 _ _ ⟨by omega, by simpa [kvK] using g2, rfl⟩ g4 (by decide)⟩
    · have c' : ∀ z ∈ pre, ¬ (y.known = z.known ∧ y.day = z.day) := fun z hz hk => c ⟨z, hz, hk⟩
      obtain ⟨g1, g2⟩ := kv_none 0 c'
      have g3 : mapSet (kvK pre ++ [(keyH y, PV.int .i64 0)]) (kvK pre).length (PV.int .i64 1) = kvK (pre ++ [y]) := set_last pre y
      have gg := get_last c'
      cases d1 : datOk y.known with
      | false => exact .inr ⟨_, y, ql19n_5 l o (kvK pre) pre.length y hat hlt g1 g2 _ _ ⟨by omega, by simp, g3⟩ gg (by decide) d1⟩
      | true =>
        cases d2 : datOk y.day with
        | false => exact .inr ⟨_, y, ql19n_6 l o (kvK pre) pre.length y hat hlt g1 g2 _ _ ⟨by omega, by simp, g3⟩ gg (by decide) d1 d2⟩
        | true =>
          have st := ql19n_7 l o (kvK pre) pre.length y hat hlt g1 g2 _ _ ⟨by omega, by simp, g3⟩ gg (by decide) d1 d2
          rw [wi64 (by omega) (by omega)] at st
          have ih := qa19 (o := o) hl r (pre ++ [y]) (by rw [e]; simp)
          rw [List.length_append, List.length_singleton, Int.natCast_add, Int.natCast_one] at ih
          rcases ih with ⟨kv, h⟩ | ⟨kv, x, h⟩
          · exact .inl ⟨kv, st.trans h⟩
          · exact .inr ⟨kv, x, st.trans h⟩
theorem qs19 (l : List Hol) (o : SO) (hl : l.length ≤ 1000) : ∃ b, cc (ev X E0) 19 [AV.sl o 3 (l.map Hol.pv)] [] = some (.b b, []) := by
  rcases qa19 (o := o) hl l [] rfl with ⟨kv, h⟩ | ⟨kv, x, h⟩
  · exact ⟨_, qg19_1 l o kv h⟩
  · exact ⟨_, qg19r_1 l o kv x h⟩
def KVok (hol : List Int) (kv : List (PV × PV)) : Prop := ∀ e ∈ kv, ∃ (d a b : Int) (c : Bool), e = (PV.int .i32 d, PV.agg [PV.int .i32 a, PV.int .i32 b, PV.bool c]) ∧ d ∈ hol
theorem get_kv {hol : List Int} (d : Int) : ∀ {kv : List (PV × PV)}, KVok hol kv → mapGet kv (PV.int .i32 d) = some none ∨ ∃ a b c, mapGet kv (PV.int .i32 d) = some (some (PV.agg [PV.int .i32 a, PV.int .i32 b, PV.bool c])) ∧ d ∈ hol
  | [], _ => .inl rfl
  | e :: kv, h => by
    obtain ⟨d', a, b, c, rfl, hd⟩ := h e (by simp)
    simp only [mapGet, if_true]
    by_cases hc : d' = d
    · subst hc
      exact .inr ⟨a, b, c, by simp, hd⟩
    · rw [if_neg hc]
      exact get_kv d fun e he => h e (by simp [he])
theorem put_kv {hol : List Int} {x : Hol} (hx : x.day ∈ hol) : ∀ {kv : List (PV × PV)}, KVok hol kv → ∃ kv', mapPut kv (PV.int .i32 x.day) (Hol.pv x) = some kv' ∧ KVok hol kv'
  | [], _ => ⟨_, rfl, fun e he => by simp only [List.mem_singleton] at he; exact ⟨_, _, _, _, he, hx⟩⟩
  | e :: kv, h => by
    have ho := h e (by simp)
    obtain ⟨d', a, b, c, rfl, hd⟩ := ho
    simp only [mapPut, if_true]
    by_cases hc : d' = x.day
    · subst hc
      refine ⟨_, if_pos rfl, fun e he => ?_⟩
      rcases List.mem_cons.1 he with rfl | he
      · exact ⟨_, _, _, _, rfl, hx⟩
      · exact h e (by simp [he])
    · obtain ⟨kv', g1, g2⟩ := put_kv hx (kv := kv) fun e he => h e (by simp [he])
      refine ⟨_, by rw [if_neg hc, g1]; rfl, fun e he => ?_⟩
      rcases List.mem_cons.1 he with rfl | he
      · exact ⟨_, _, _, _, rfl, hd⟩
      · exact g2 e he
theorem qa63 {l : List Hol} {o : SO} {k : Int} (hl : l.length ≤ 1000) : ∀ (r pre : List Hol) (kv : List (PV × PV)), l = pre ++ r → KVok (l.map Hol.day) kv →
    ∃ kv', KVok (l.map Hol.day) kv' ∧ lv (cv (ev X E0) xf63_l0) (rl [1, 3, 5, 0, 0]) 1 (QS63 l o k kv (pre.length : Nat)) = some (XExit.exit 0, St.mk (tmOf 45 [(5, AV.c (CV.mp 0))]) [Box.map kv'])
  | [], pre, kv, e, h => by
    rw [List.append_nil] at e
    subst e
    exact ⟨kv, h, ql63x_1 l o k kv l.length (by simp)⟩
  | y :: r, pre, kv, e, h => by
    have hlen : l.length = pre.length + r.length + 1 := by rw [e]; simp; omega
    have hat : l[pre.length]? = some y := by rw [e]; simp
    have hlt := ltH (l := l) (i := pre.length) (by omega)
    have hmem : y.day ∈ l.map Hol.day := List.mem_map.2 ⟨y, by rw [e]; simp, rfl⟩
    have go : ∀ kv1, KVok (l.map Hol.day) kv1 → lv (cv (ev X E0) xf63_l0) (rl [1, 3, 5, 0, 0]) 1 (QS63 l o k kv (pre.length : Nat)) = lv (cv (ev X E0) xf63_l0) (rl [1, 3, 5, 0, 0]) 1 (QS63 l o k kv1 (IntKind.wrap .i64 ((pre.length : Nat) + 1))) →
        ∃ kv', KVok (l.map Hol.day) kv' ∧ lv (cv (ev X E0) xf63_l0) (rl [1, 3, 5, 0, 0]) 1 (QS63 l o k kv (pre.length : Nat)) = some (XExit.exit 0, St.mk (tmOf 45 [(5, AV.c (CV.mp 0))]) [Box.map kv']) := by
      intro kv1 h1 st
      rw [wi64 (by omega) (by omega)] at st
      obtain ⟨kv', g1, g2⟩ := qa63 (o := o) (k := k) hl r (pre ++ [y]) kv1 (by rw [e]; simp) h1
      rw [List.length_append, List.length_singleton, Int.natCast_add, Int.natCast_one] at g2
      exact ⟨kv', g1, st.trans g2⟩
    rcases get_kv y.day h with g | ⟨a, b, c, g, _⟩
    · by_cases c1 : y.known ≤ k
      · obtain ⟨kv1, p1, p2⟩ := put_kv hmem h
        exact go kv1 p2 (ql63n_1 l o k kv pre.length y hat hlt g _ c1 p1)
      · exact go kv h (ql63n_2 l o k kv pre.length y hat hlt g c1)
    · by_cases c1 : y.known ≤ k
      · by_cases c2 : a < y.known
        · obtain ⟨kv1, p1, p2⟩ := put_kv hmem h
          exact go kv1 p2 (ql63s_1 l o k kv pre.length y a b c hat hlt g _ c1 c2 p1)
        · exact go kv h (ql63s_2 l o k kv pre.length y a b c hat hlt g c1 c2)
      · exact go kv h (ql63s_3 l o k kv pre.length y a b c hat hlt g c1)
theorem qs63 (l : List Hol) (o : SO) (k : Int) (hl : l.length ≤ 1000) : ∃ kv, KVok (l.map Hol.day) kv ∧ cc (ev X E0) 63 [AV.sl o 3 (l.map Hol.pv), AV.int .i32 k] [] = some (AV.c (CV.mp 0), [Box.map kv]) := by
  obtain ⟨kv, h1, h2⟩ := qa63 (o := o) (k := k) hl l [] [] rfl (fun e he => by simp at he)
  exact ⟨kv, h1, qg63_1 l o k kv h2⟩
def wdI (d : Int) : Int := (d + 50006) % 7
def opn (kv : List (PV × PV)) (d : Int) : Bool := match mapGet kv (PV.int .i32 d) with
  | some (some (.agg [_, _, .bool c])) => c
  | _ => decide (wdI d < 5)
theorem w32h {n : Int} (h : -1000000 ≤ n) (h' : n ≤ 1000000) : IntKind.wrap .i32 n = n := by
  simp [IntKind.wrap, IntKind.signed, IntKind.bits]; omega
theorem dat_iff {d : Int} : datOk d = true ↔ -50000 ≤ d ∧ d ≤ 50000 := by simp [datOk]
theorem qs64 {hol : List Int} {kv : List (PV × PV)} (h : KVok hol kv) {d : Int} (hd : datOk d = true) : cc (ev X E0) 64 [AV.c (CV.mp 0), AV.int .i32 d] [Box.map kv] = some (.b (opn kv d), [Box.map kv]) := by
  have hd' := dat_iff.1 hd
  have h106 := qg106_2 d hd
  rw [w32h (by omega) (by omega), wi64 (n := d - -50000) (by omega) (by omega), wi64 (by omega) (by omega)] at h106
  have e1 : Int.tmod (d - -50000 + 6) 7 = wdI d := by
    rw [Int.tmod_eq_emod_of_nonneg (by omega)]
    unfold wdI
    congr 1
    omega
  rw [e1] at h106
  rcases get_kv d h with g | ⟨a, b, c, g, _⟩
  · rw [qg64n_1 kv d _ _ g h106, opn, g]
  · rw [qg64s_1 kv d a b c g, opn, g]
theorem opn_wd {hol : List Int} {kv : List (PV × PV)} (h : KVok hol kv) (d : Int) (hd : d ∉ hol) (hw : wdI d < 5) : opn kv d = true := by
  rcases get_kv d h with g | ⟨_, _, _, _, hm⟩
  · rw [opn, g]; exact decide_eq_true hw
  · exact absurd hm hd
theorem next_up {hol : List Int} {kv : List (PV × PV)} (h : KVok hol kv) : ∀ (n : Nat) (d : Int), -50000 ≤ d → 50001 - d ≤ n → d ≤ 50001 →
    (∃ x, IsUp (opn kv) d x ∧ lv (cv (ev X E0) xf102_l0) (rl [0, 0, 0]) 1 (QS102 kv d 1) = some (XExit.ret, St.mk (tmOf 17 [(6, AV.c (CV.pv (PV.int .i32 x))), (7, AV.c (CV.pv (PV.int .i64 0)))]) [Box.map kv])) ∨
    (NoUp (opn kv) d ∧ lv (cv (ev X E0) xf102_l0) (rl [0, 0, 0]) 1 (QS102 kv d 1) = some (XExit.exit 0, St.mk (tmOf 17 []) [Box.map kv]))
  | n, d, h1, h2, h3 => by
    cases hd : datOk d with
    | false =>
      have : d = 50001 := by
        simp only [datOk, decide_eq_false_iff_not] at hd; omega
      subst this
      exact .inr ⟨fun y y1 y2 => by omega, ql102e_1 kv 50001 1 hd⟩
    | true =>
      have hd' := dat_iff.1 hd
      have h64 := qs64 h hd
      cases hw : opn kv d with
      | true =>
        rw [hw] at h64
        exact .inl ⟨d, ⟨by omega, by omega, hw, fun y y1 y2 => by omega⟩, ql102_1 kv d 1 true h64 hd rfl⟩
      | false =>
        rw [hw] at h64
        have st := ql102_2 kv d 1 false h64 hd rfl
        rw [w32h (by omega) (by omega)] at st
        cases n with
        | zero => omega
        | succ n =>
          rcases next_up h n (d + 1) (by omega) (by omega) (by omega) with ⟨x, hx, g⟩ | ⟨hx, g⟩
          · refine .inl ⟨x, ⟨by have := hx.1; omega, hx.2.1, hx.2.2.1, fun y y1 y2 => ?_⟩, st.trans g⟩
            by_cases c : y = d
            · subst c; exact hw
            · exact hx.2.2.2 y (by omega) y2
          · refine .inr ⟨fun y y1 y2 => ?_, st.trans g⟩
            by_cases c : y = d
            · subst c; exact hw
            · exact hx y (by omega) y2
theorem next_dn {hol : List Int} {kv : List (PV × PV)} (h : KVok hol kv) : ∀ (n : Nat) (d : Int), d ≤ 50000 → d + 50001 ≤ n → -50001 ≤ d →
    (∃ x, IsDn (opn kv) d x ∧ lv (cv (ev X E0) xf102_l0) (rl [0, 0, 0]) 1 (QS102 kv d (-1)) = some (XExit.ret, St.mk (tmOf 17 [(6, AV.c (CV.pv (PV.int .i32 x))), (7, AV.c (CV.pv (PV.int .i64 0)))]) [Box.map kv])) ∨
    lv (cv (ev X E0) xf102_l0) (rl [0, 0, 0]) 1 (QS102 kv d (-1)) = some (XExit.exit 0, St.mk (tmOf 17 []) [Box.map kv])
  | n, d, h1, h2, h3 => by
    cases hd : datOk d with
    | false =>
      have : d = -50001 := by
        simp only [datOk, decide_eq_false_iff_not] at hd; omega
      subst this
      exact .inr (ql102e_1 kv (-50001) (-1) hd)
    | true =>
      have hd' := dat_iff.1 hd
      have h64 := qs64 h hd
      cases hw : opn kv d with
      | true =>
        rw [hw] at h64
        exact .inl ⟨d, ⟨by omega, by omega, hw, fun y y1 y2 => by omega⟩, ql102_1 kv d (-1) true h64 hd rfl⟩
      | false =>
        rw [hw] at h64
        have st := ql102_2 kv d (-1) false h64 hd rfl
        rw [w32h (by omega) (by omega)] at st
        cases n with
        | zero => omega
        | succ n =>
          rcases next_dn h n (d + -1) (by omega) (by omega) (by omega) with ⟨x, hx, g⟩ | g
          · refine .inl ⟨x, ⟨by have := hx.1; omega, hx.2.1, hx.2.2.1, fun y y1 y2 => ?_⟩, st.trans g⟩
            by_cases c : y = d
            · subst c; exact hw
            · exact hx.2.2.2 y y1 (by omega)
          · exact .inr (st.trans g)
end Go.Sx.Tryd
