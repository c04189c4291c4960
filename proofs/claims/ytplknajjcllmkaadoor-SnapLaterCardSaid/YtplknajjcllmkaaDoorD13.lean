/- The statement SnapLater, of the evaluator. -/
import Derived.Test.YtplknajjcllmkaaDoorD12
namespace Go.Sx.Tryd
open Go Go.Sx
theorem a5 {m : List Act} {q : SO} {k v : Int} {l : List Act} {o : SO} (hl : l.length ≤ 1000) : ∀ (r pre : List Act) (d : Dk) (n : Nat), l = pre ++ r → Gd d n → n + r.length ≤ 400 → (∀ a ∈ r, Nice a.p) →
    ∃ d', Gd d' (n + r.length) ∧ lv (cv (ev X E0) xf5_l0) (rl [1, 0, 0, 5, 30, 0, 0]) 1 (S5a m q k v l o d (pre.length : Nat)) = E5a m q k v d'
  | [], pre, d, n, e, h, _, _ => by
    rw [List.append_nil] at e
    subst e
    exact ⟨d, h, dl5z_1 m q k v l o d l.length (by simp)⟩
  | y :: r, pre, d, n, e, h, hn, hN => by
    have hlen : l.length = pre.length + r.length + 1 := by rw [e]; simp; omega
    have hat : l[pre.length]? = some y := by rw [e]; simp
    rw [List.length_cons] at hn
    obtain ⟨d1, e1, g, h31, _⟩ := sDo h (by omega) (hN y (by simp))
    have st := dl5a_1 m q k v l o d pre.length y hat (ltA (by omega)) d1 e1 h31
    rw [wi64 (by omega) (by omega)] at st
    obtain ⟨d', g', h'⟩ := a5 (m := m) (q := q) (k := k) (v := v) (o := o) hl r (pre ++ [y]) d1 (n + 1) (by rw [e]; simp) g (by omega) (fun a ha => hN a (by simp [ha]))
    rw [List.length_append, List.length_singleton, Int.natCast_add, Int.natCast_one] at h'
    refine ⟨d', ?_, st.trans h'⟩
    rw [List.length_cons, show n + (r.length + 1) = n + 1 + r.length by omega]
    exact g'
theorem b5 {m : List Act} {q : SO} {k v n0 e0 fr : Int} {b0 : List Post} {r0 : List Rd} {x0 : Int} (hl : m.length ≤ 1000) : ∀ (r pre : List Act) (d : Dk) (n : Nat), m = pre ++ r → Gd d n → n + r.length ≤ 400 → (∀ a ∈ r, Nice a.p) → d.r = r0 → d.nx = x0 → b0 = d.b.take b0.length →
    ∃ d', Gd d' (n + r.length) ∧ d'.r = r0 ∧ d'.nx = x0 ∧ b0 = d'.b.take b0.length ∧ lv (cv (ev X E0) xf5_l1) (rl [2, 0, 5, 3, 0, 0, 49, 0, 0]) 1 (S5b m q k v n0 e0 fr d (pre.length : Nat)) = E5b k v n0 e0 fr d'
  | [], pre, d, n, e, h, _, _, hr, hx, hb => by
    rw [List.append_nil] at e
    subst e
    exact ⟨d, h, hr, hx, hb, dl5y_1 m q k v n0 e0 fr d m.length (by simp)⟩
  | y :: r, pre, d, n, e, h, hn, hN, hr, hx, hb => by
    have hlen : m.length = pre.length + r.length + 1 := by rw [e]; simp; omega
    have hat : m[pre.length]? = some y := by rw [e]; simp
    have hlt := ltA (l := m) (i := pre.length) (by omega)
    rw [List.length_cons] at hn
    rw [List.length_cons, show n + (r.length + 1) = n + 1 + r.length by omega]
    have next : ∀ d1, Gd d1 (n + 1) → d1.r = r0 → d1.nx = x0 → b0 = d1.b.take b0.length → ∃ d', Gd d' (n + 1 + r.length) ∧ d'.r = r0 ∧ d'.nx = x0 ∧ b0 = d'.b.take b0.length ∧ lv (cv (ev X E0) xf5_l1) (rl [2, 0, 5, 3, 0, 0, 49, 0, 0]) 1 (S5b m q k v n0 e0 fr d1 ((pre.length : Nat) + 1)) = E5b k v n0 e0 fr d' := fun d1 g q1 q2 q3 => by
      have ih := b5 (q := q) (k := k) (v := v) (n0 := n0) (e0 := e0) (fr := fr) hl r (pre ++ [y]) d1 (n + 1) (by rw [e]; simp) g (by omega) (fun a ha => hN a (by simp [ha])) q1 q2 q3
      rw [List.length_append, List.length_singleton, Int.natCast_add, Int.natCast_one] at ih
      exact ih
    obtain ⟨d1, e1, g, h31, _, _, _, h0⟩ := sDo h (by omega) (hN y (by simp))
    by_cases c : y.dod = 0
    · obtain ⟨p1, p2, p3⟩ := h0 c
      have st := dl5b_1 m q k v n0 e0 fr d pre.length y hat hlt d1 e1 (fun _ => h31) c
      rw [wi64 (by omega) (by omega)] at st
      have hle : b0.length ≤ d.b.length := by
        have := congrArg List.length hb
        rw [List.length_take] at this
        omega
      obtain ⟨d', g', k1, k2, k3, h'⟩ := next d1 g (p1.trans hr) (p2.trans hx) (hb.trans (by
        have e3 := congrArg (List.take b0.length) p3
        rw [List.take_take, Nat.min_eq_left hle] at e3
        exact e3))
      exact ⟨d', g', k1, k2, k3, st.trans h'⟩
    · have st := dl5b_2 m q k v n0 e0 fr d pre.length y hat hlt d1 e1 (fun _ => h31) c
      rw [wi64 (by omega) (by omega)] at st
      obtain ⟨d', g', k1, k2, k3, h'⟩ := next d (h.more (by omega)) hr hx hb
      exact ⟨d', g', k1, k2, k3, st.trans h'⟩
theorem Z_desk : deskB Z = false := by simp [deskB, Z]
theorem Z_ok : Z.Ok := ⟨Z_wf, by decide, by decide, by simp [Z]⟩
theorem z5 {m : List Act} {q : SO} {k v n0 e0 fr : Int} (hl : m.length ≤ 1000) : ∀ (r pre : List Act), m = pre ++ r → (∀ a ∈ r, Nice a.p) →
    lv (cv (ev X E0) xf5_l1) (rl [2, 0, 5, 3, 0, 0, 49, 0, 0]) 1 (S5b m q k v n0 e0 fr Z (pre.length : Nat)) = E5b k v n0 e0 fr Z
  | [], pre, e, _ => by
    rw [List.append_nil] at e
    subst e
    exact dl5y_1 m q k v n0 e0 fr Z m.length (by simp)
  | y :: r, pre, e, hN => by
    have hlen : m.length = pre.length + r.length + 1 := by rw [e]; simp; omega
    have hat : m[pre.length]? = some y := by rw [e]; simp
    have hlt := ltA (l := m) (i := pre.length) (by omega)
    have ih := z5 (q := q) (k := k) (v := v) (n0 := n0) (e0 := e0) (fr := fr) hl r (pre ++ [y]) (by rw [e]; simp) (fun a ha => hN a (by simp [ha]))
    rw [List.length_append, List.length_singleton, Int.natCast_add, Int.natCast_one] at ih
    refine Eq.trans ?_ ih
    have hp := hN y (by simp)
    have h31 : y.dod = 0 → cs (ev X E0) 31 [Z.av, y.av] = some (.tup [Z.av, .i 1]) := fun c0 => by
      have hnum : Nice { y.p with id := IntKind.wrap .i64 ((↑(List.length (List.map Post.pv Z.b)) : Int) + 1) } := ⟨hp.memo, hp.legs, hp.so⟩
      obtain ⟨d', w, h15, p1, p2⟩ := sWrite Z_ok hnum
      have he : wrE Z { y.p with id := IntKind.wrap .i64 ((↑(List.length (List.map Post.pv Z.b)) : Int) + 1) } = 1 := by unfold wrE; rw [Z_desk]; rfl
      rw [he] at h15
      exact cs_of (df31_1 _ _ _ _ _ _ _ y _ _ _ _ _ _ _ 0 _ (fun _ => h15) (fun e => by omega) (fun e => by omega) c0 (by decide))
    by_cases c : y.dod = 0
    · have st := dl5b_1 m q k v n0 e0 fr Z pre.length y hat hlt Z 1 h31 c
      rw [wi64 (by omega) (by omega)] at st
      exact st
    · have st := dl5b_2 m q k v n0 e0 fr Z pre.length y hat hlt Z 1 h31 c
      rw [wi64 (by omega) (by omega)] at st
      exact st
theorem ltP' {l : List Post} {i : Nat} (h : i < l.length) : (i : Int) < (((l.map Post.pv).length : Nat) : Int) := by rw [List.length_map]; omega
abbrev E5c (x : CV) (oy : SO) (sy : Nat) (ly : List Post) (d : Dk) : Option (XExit × St) := some (XExit.exit 4, St.mk (tmOf 169 [(20, AV.c x), (22, AV.c (CV.pv (PV.sl oy sy (List.map Post.pv ly))))]) [Box.cells (Dk.cs d)])
theorem c5 {k v : Int} {oy : SO} {sy : Nat} {ly L : List Post} {d : Dk} (hl : L.length ≤ 1000) : ∀ (r pre es : List Post) (j : Nat), L = pre ++ r → es.length + r.length ≤ 10000 →
    ∃ j', lv (cv (ev X E0) xf5_l2) (rl [2, 0, 16, 1, 119, 0, 0]) 1 (S5c k v (CV.own j 7 (List.map Post.pv es)) oy sy ly .shut 7 (List.map Post.pv L) d (pre.length : Nat)) = E5c (CV.own j' 7 (List.map Post.pv (es ++ r.filter (within k v)))) oy sy ly d
  | [], pre, es, j, e, _ => by
    rw [List.append_nil] at e
    subst e
    refine ⟨j, ?_⟩
    rw [List.filter_nil, List.append_nil]
    exact dl5w_1 k v _ oy sy ly .shut 7 (List.map Post.pv L) d L.length (by simp)
  | y :: r, pre, es, j, e, h => by
    have hlen : L.length = pre.length + r.length + 1 := by rw [e]; simp; omega
    have hat : L[pre.length]? = some y := by rw [e]; simp
    have hlt := ltP' (l := L) (i := pre.length) (by omega)
    rw [List.length_cons] at h
    have ih := fun es' j hes => c5 (k := k) (v := v) (oy := oy) (sy := sy) (ly := ly) (d := d) hl r (pre ++ [y]) es' j (by rw [e]; simp) hes
    rw [List.length_append, List.length_singleton, Int.natCast_add, Int.natCast_one] at ih
    have hw : IntKind.wrap .i64 ((pre.length : Int) + 1) = (pre.length : Int) + 1 := wi64 (by omega) (by omega)
    by_cases c1 : y.known ≤ k
    · by_cases c2 : y.value ≤ v
      · have st := dl5c_1 k v j (List.map Post.pv es) oy sy ly L d pre.length y hat hlt c1 c2 (by rw [List.length_map]; simp; omega)
        rw [hw] at st
        obtain ⟨j', h'⟩ := ih (es ++ [y]) 10367 (by simp; omega)
        rw [List.map_append] at h'
        refine ⟨j', ?_⟩
        rw [List.filter_cons_of_pos (by simp [within, c1, c2]), show es ++ y :: List.filter (within k v) r = es ++ [y] ++ List.filter (within k v) r by simp]
        exact st.trans h'
      · have st := dl5c_2 k v j (List.map Post.pv es) oy sy ly L d pre.length y hat hlt c1 c2
        rw [hw] at st
        obtain ⟨j', h'⟩ := ih es j (by omega)
        refine ⟨j', ?_⟩
        rw [List.filter_cons_of_neg (by simp [within, c1, c2])]
        exact st.trans h'
    · have st := dl5c_3 k v j (List.map Post.pv es) oy sy ly L d pre.length y hat hlt c1
      rw [hw] at st
      obtain ⟨j', h'⟩ := ih es j (by omega)
      refine ⟨j', ?_⟩
      rw [List.filter_cons_of_neg (by simp [within, c1])]
      exact st.trans h'
theorem d5 {k v : Int} {oy : SO} {sy : Nat} {ly L : List Post} {d : Dk} (hl : L.length ≤ 1000) : ∀ (r pre : List Post), L = pre ++ r →
    (r.filter (within k v) = [] → lv (cv (ev X E0) xf5_l2) (rl [2, 0, 16, 1, 119, 0, 0]) 1 (S5c k v (CV.pv (PV.sl .nil 0 [])) oy sy ly .shut 7 (List.map Post.pv L) d (pre.length : Nat)) = E5c (CV.pv (PV.sl .nil 0 [])) oy sy ly d) ∧
    (r.filter (within k v) ≠ [] → ∃ j', lv (cv (ev X E0) xf5_l2) (rl [2, 0, 16, 1, 119, 0, 0]) 1 (S5c k v (CV.pv (PV.sl .nil 0 [])) oy sy ly .shut 7 (List.map Post.pv L) d (pre.length : Nat)) = E5c (CV.own j' 7 (List.map Post.pv (r.filter (within k v)))) oy sy ly d)
  | [], pre, e => by
    rw [List.append_nil] at e
    subst e
    exact ⟨fun _ => dl5w_1 k v _ oy sy ly .shut 7 (List.map Post.pv L) d L.length (by simp), fun h => absurd rfl h⟩
  | y :: r, pre, e => by
    have hlen : L.length = pre.length + r.length + 1 := by rw [e]; simp; omega
    have hat : L[pre.length]? = some y := by rw [e]; simp
    have hlt := ltP' (l := L) (i := pre.length) (by omega)
    have ih := d5 (k := k) (v := v) (oy := oy) (sy := sy) (ly := ly) (d := d) hl r (pre ++ [y]) (by rw [e]; simp)
    rw [List.length_append, List.length_singleton, Int.natCast_add, Int.natCast_one] at ih
    have hw : IntKind.wrap .i64 ((pre.length : Int) + 1) = (pre.length : Int) + 1 := wi64 (by omega) (by omega)
    have skip : within k v y = false → lv (cv (ev X E0) xf5_l2) (rl [2, 0, 16, 1, 119, 0, 0]) 1 (S5c k v (CV.pv (PV.sl .nil 0 [])) oy sy ly .shut 7 (List.map Post.pv L) d (pre.length : Nat)) = lv (cv (ev X E0) xf5_l2) (rl [2, 0, 16, 1, 119, 0, 0]) 1 (S5c k v (CV.pv (PV.sl .nil 0 [])) oy sy ly .shut 7 (List.map Post.pv L) d ((pre.length : Nat) + 1)) := fun hf => by
      by_cases c1 : y.known ≤ k
      · have c2 : ¬ y.value ≤ v := fun c2 => by simp [within, c1, c2] at hf
        have st := dl5d_2 k v oy sy ly L d pre.length y hat hlt c1 c2
        rw [hw] at st
        exact st
      · have st := dl5d_3 k v oy sy ly L d pre.length y hat hlt c1
        rw [hw] at st
        exact st
    cases hf : within k v y with
    | false =>
      rw [List.filter_cons_of_neg (by rw [hf]; simp)]
      exact ⟨fun h => (skip hf).trans (ih.1 h), fun h => by obtain ⟨j', h'⟩ := ih.2 h; exact ⟨j', (skip hf).trans h'⟩⟩
    | true =>
      rw [List.filter_cons_of_pos hf]
      refine ⟨(fun h => by cases h), fun _ => ?_⟩
      have c : y.known ≤ k ∧ y.value ≤ v := by simpa [within] using hf
      have st := dl5d_1 k v oy sy ly L d pre.length y hat hlt c.1 c.2 (by simp)
      rw [hw] at st
      obtain ⟨j', h'⟩ := c5 (k := k) (v := v) (oy := oy) (sy := sy) (ly := ly) (d := d) hl r (pre ++ [y]) [y] 10367 (by rw [e]; simp) (by simp; omega)
      rw [List.length_append, List.length_singleton, Int.natCast_add, Int.natCast_one] at h'
      exact ⟨j', st.trans h'⟩
end Go.Sx.Tryd
/- The statement SnapLater, of the evaluator: its end. -/
namespace Go.Sx.Tryd
open Go Go.Sx
theorem fil_sh {l : List Post} (h : Shut l) (w : Post → Bool) : (l.filter w).map sh = l.filter w := shut_sh fun p hp => h p (List.mem_filter.1 hp).1
theorem outA_cases (es : List Post) : (es = [] ∧ outA es = CV.pv (.sl .nil 0 [])) ∨ outA es = CV.own 0 7 (List.map Post.pv (es.map sh)) := by
  cases es with
  | nil => exact .inl ⟨rfl, rfl⟩
  | cons p r => exact .inr rfl
theorem SnapLater0 (l m : List Act) (o q : SO) (k v : Int) (hw : ∀ a ∈ l, a.p.so = .nil → a.p.legs = []) (hw' : ∀ a ∈ m, a.p.so = .nil → a.p.legs = []) : cc (ev X E0) 5 [AV.sl o 11 (l.map Act.pv), AV.sl q 11 (m.map Act.pv), AV.int .i32 k, AV.int .i32 v] [] = some (.b true, []) := by
  have h30 := s30 l o
  have h30' := s30 m q
  cases hf : fitsA l with
  | false => rw [hf] at h30; exact df5x_1 l m o q k v h30 alive
  | true =>
  rw [hf] at h30
  cases hf' : fitsA m with
  | false => rw [hf'] at h30'; exact df5y_1 l m o q k v h30 h30' alive
  | true =>
  rw [hf'] at h30'
  obtain ⟨l1, l2⟩ := fitsA_nice hf hw
  obtain ⟨m1, m2⟩ := fitsA_nice hf' hw'
  obtain ⟨d0, g0, h20⟩ := new_gd
  obtain ⟨d1, g1, hl⟩ := a5 (m := m) (q := q) (k := k) (v := v) (l := l) (o := o) (by omega) l [] d0 0 rfl g0 (by omega) l2
  obtain ⟨d2, n, w, h16, p1, p2⟩ := sOpen (g1.ok (by omega)) k v
  by_cases c : opE d1 k v = 0
  · obtain ⟨q1, q2, q3, q4⟩ := p1 c
    obtain ⟨g2, hb⟩ := gd_opened g1 w c q1 q2 q3
    rw [c, q4] at h16
    obtain ⟨d3, g3, r1, r2, r3, hl2⟩ := b5 (m := m) (q := q) (k := k) (v := v) (n0 := d1.nx) (e0 := 0) (fr := (↑(List.length (List.map Post.pv (Dk.b d2))) : Int)) (b0 := d2.b) (r0 := d2.r) (x0 := d2.nx) (by omega) m [] d2 _ rfl g2 (by omega) m2 rfl rfl (by rw [List.take_length])
    obtain ⟨d4, n2, w4, h16b, s1, s2⟩ := sOpen (g3.ok (by omega)) k v
    obtain ⟨_, dk, dv, _, _⟩ := op_inv c
    by_cases c2 : opE d3 k v = 0
    · obtain ⟨t1, t2, t3, t4⟩ := s1 c2
      obtain ⟨g4, hb4⟩ := gd_opened g3 w4 c2 t1 t2 t3
      rw [c2] at h16b
      have hz1 : (⟨d1.nx, d1.b.length, k, v⟩ : Rd) ∈ d4.r := by rw [t2, r1, q2]; simp
      have hz2 : (⟨d3.nx, d3.b.length, k, v⟩ : Rd) ∈ d4.r := by rw [t2]; simp
      obtain ⟨u1, u2, _, u4⟩ := has_eq g4.desk hz1
      obtain ⟨v1, v2, _, _⟩ := has_eq g4.desk hz2
      simp only [Int.toNat_natCast] at u1 v1
      rw [← hb4, List.take_length] at v1
      rw [← hb] at u1
      have hle : d2.b.length ≤ d4.b.length := by
        have := congrArg List.length r3
        rw [List.length_take] at this
        rw [hb4]
        omega
      have o4 := g4.ok (by omega)
      obtain ⟨oy, sy, ly, h18y, i1, i2, i3, _⟩ := sHas o4 d3.nx
      rw [← t4] at h18y v2
      rw [v2] at h18y
      have hly : ly = d4.b.filter (within k v) := by
        rw [i3 (t4 ▸ v2), v1]; exact fil_sh g4.shut _
      have h18 := sHasC o4 d1.nx
      rw [if_pos u2, u2, u1] at h18
      have hbl := g4.bl
      have hsp : (d4.b.take d2.b.length).filter (within k v) ++ (d4.b.drop d2.b.length).filter (within k v) = ly := by
        rw [hly, ← List.filter_append, List.take_append_drop]
      have hsh : Shut (d4.b.take d2.b.length) := fun p hp => g4.shut p (List.mem_of_mem_take hp)
      have hnice : ∀ p ∈ ly, p.legs.length ≤ 1000000 := by
        intro p hp
        rw [hly] at hp
        exact (g4.nice p (List.mem_filter.1 hp).1).legs
      have hlen : ly.length ≤ 1000000 := by
        rw [hly]
        exact Nat.le_trans (List.length_filter_le _ _) (by omega)
      have h28 : ∀ (ox : SO) (sx : Nat), szOk 7 (CV.pv (PV.sl ox sx (List.map Post.pv ly))) = true → cc (ev X E0) 28 [AV.sl ox sx (ly.map Post.pv), AV.sl oy sy (ly.map Post.pv)] [] = some (.b true, []) := fun ox sx hx => by
        have h := s27 (l := ly) (m := ly) hx i1 hlen hnice
        rwa [sames_refl] at h
      have g1' : ¬ ((List.map Post.pv (Dk.b d2)).length : Int) > (List.map Post.pv (Dk.b d4)).length := by rw [lenP, lenP]; omega
      have g2' : ((List.map Post.pv (Dk.b d2)).length : Int) ≤ (List.map Post.pv (Dk.b d4)).length := by rw [lenP, lenP]; omega
      by_cases hn : d4.o = .nil
      · have hb0 := g4.bn hn
        have hd2 : d2.b = [] := List.eq_nil_of_length_eq_zero (by rw [hb0] at hle; simpa using hle)
        have hly0 : ly = [] := by rw [hly, hb0]; rfl
        rw [hb0, List.take_nil] at h18
        have h28' := h28 .nil 0 (by rw [hly0]; rfl)
        rcases g4.bs hn with hs | hs
        · have h16b' := h16b
          unfold Dk.av at h16b' h18 h18y
          rw [hb0, hn, hs] at h16b' h18 h18y
          exact df5z0_2 l m o q k v h30 h30' alive d0 d1 d2 d3 d4 hd2 0 d1.nx n2 h20 hl h16 hl2 h16b' oy sy ly h18y h18 (dl5w_1 k v _ oy sy ly .nil 0 [] (Dk.mk [] .nil 0 d4.r d4.q d4.t d4.nx) 0 (by simp)) (by rw [hly0] at h28' ⊢; exact h28') (by rw [hd2]; simp) (by rw [hd2]; simp)
        · have h16b' := h16b
          unfold Dk.av at h16b' h18 h18y
          rw [hb0, hn, hs] at h16b' h18 h18y
          exact df5z7_2 l m o q k v h30 h30' alive d0 d1 d2 d3 d4 hd2 0 d1.nx n2 h20 hl h16 hl2 h16b' oy sy ly h18y h18 (dl5w_1 k v _ oy sy ly .nil 7 [] (Dk.mk [] .nil 7 d4.r d4.q d4.t d4.nx) 0 (by simp)) (by rw [hly0] at h28' ⊢; exact h28') (by rw [hd2]; simp) (by rw [hd2]; simp)
      · have nn : CV.some' (CV.pv (PV.sl d4.o d4.s (List.map Post.pv d4.b))) = true := by simp only [CV.some', bne_iff_ne]; exact hn
        have hdr : List.drop (List.length (List.map Post.pv (Dk.b d2))) (List.map Post.pv (Dk.b d4)) = List.map Post.pv (d4.b.drop d2.b.length) := by rw [List.length_map, List.map_drop]
        have hL : (d4.b.drop d2.b.length).length ≤ 1000 := by rw [List.length_drop]; omega
        rcases outA_cases ((d4.b.take d2.b.length).filter (within k v)) with ⟨e0, e1⟩ | e1
        · rw [e1] at h18
          rw [e0, List.nil_append] at hsp
          have hd := d5 (k := k) (v := v) (oy := oy) (sy := sy) (ly := ly) (L := d4.b.drop d2.b.length) (d := d4) hL _ [] rfl
          rw [hsp] at hd
          by_cases cy : ly = []
          · have h28' := h28 .nil 0 (by rw [cy]; rfl)
            have h3 := hd.1 cy
            rw [← hdr] at h3
            exact df5nn_2 l m o q k v h30 h30' alive d0 d1 d2 d3 d4 0 d1.nx n2 h20 hl h16 hl2 h16b oy sy ly h18y g4.bz nn h18 h3 (by rw [cy] at h28' ⊢; exact h28') g1' g2'
          · obtain ⟨j, h3⟩ := hd.2 cy
            rw [← hdr] at h3
            exact df5no_2 l m o q k v h30 h30' alive d0 d1 d2 d3 d4 0 d1.nx n2 h20 hl h16 hl2 h16b oy sy ly h18y g4.bz nn ly j h18 h3 (h28 .shut 7 rfl) g1' g2'
        · rw [e1, fil_sh hsh] at h18
          obtain ⟨j, h3⟩ := c5 (k := k) (v := v) (oy := oy) (sy := sy) (ly := ly) (L := d4.b.drop d2.b.length) (d := d4) hL _ [] ((d4.b.take d2.b.length).filter (within k v)) 7104 rfl (by
            have := List.length_filter_le (within k v) (d4.b.take d2.b.length)
            rw [List.length_take] at this
            omega)
          rw [hsp, ← hdr] at h3
          exact df5oo_2 l m o q k v h30 h30' alive d0 d1 d2 d3 d4 0 d1.nx n2 h20 hl h16 hl2 h16b oy sy ly h18y g4.bz nn _ ly j h18 h3 (h28 .shut 7 rfl) g1' g2'
    · have he : opE d3 k v = 6 := by
        rcases op_err g3 (by omega) k v with e | e | e
        · exact absurd e c2
        · unfold opE at e
          rw [if_pos g3.desk, dk, dv] at e
          simp only [Bool.and_self, if_true] at e
          by_cases x1 : d3.r.length = 16
          · rw [if_pos x1] at e; cases e
          · rw [if_neg x1] at e
            by_cases x2 : d3.nx = 1000000
            · rw [if_pos x2] at e; cases e
            · rw [if_neg x2] at e; cases e
        · exact e
      rw [he] at h16b
      have := df5e_6 l m o q k v h30 h30' alive d0 d1 d2 d3 d4 0 d1.nx 0 n2 6 h20 hl h16 hl2 h16b (.inr (by decide)) rfl (by decide) (by decide) (by decide)
      exact this
  · obtain ⟨z1, _⟩ := p2 c
    have hl2 := z5 (m := m) (q := q) (k := k) (v := v) (n0 := n) (e0 := opE d1 k v) (fr := (↑(List.length (List.map Post.pv (Dk.b Z))) : Int)) (by omega) m [] rfl m2
    obtain ⟨d4, n2, w4, h16b, s1, s2⟩ := sOpen Z_ok k v
    rw [z1] at h16
    rcases op_err g1 (by omega) k v with e | e | e
    · exact absurd e c
    · exact df5e_1 l m o q k v h30 h30' alive d0 d1 Z Z d4 0 n _ n2 _ h20 hl h16 hl2 h16b (.inl c) c e
    · exact df5e_2 l m o q k v h30 h30' alive d0 d1 Z Z d4 0 n _ n2 _ h20 hl h16 hl2 h16b (.inl c) c (by omega) e
theorem SnapLater (x0 : PV) (t0 : WT (.sl ctA) x0) (x1 : PV) (t1 : WT (.sl ctA) x1) (x2 : PV) (t2 : WT (.int .i32) x2) (x3 : PV) (t3 : WT (.int .i32) x3) : ev X E0 5 [.c (.pv x0), .c (.pv x1), .c (.pv x2), .c (.pv x3)] [] = some (.b true, []) := by
  obtain ⟨o, l, rfl, hl⟩ := acts_inv t0
  obtain ⟨q, m, rfl, hm⟩ := acts_inv t1
  obtain ⟨k, _, _, rfl⟩ := i32_inv t2
  obtain ⟨v, _, _, rfl⟩ := i32_inv t3
  exact ev_cc (SnapLater0 l m o q k v hl hm)
end Go.Sx.Tryd
