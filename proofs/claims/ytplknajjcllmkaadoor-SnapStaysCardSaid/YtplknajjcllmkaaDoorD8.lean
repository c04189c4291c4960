/- Acts that are handed in. -/
import Derived.Test.YtplknajjcllmkaaDoorD5
import Derived.Test.YtplknajjcllmkaaDoorK5a
import Derived.Test.YtplknajjcllmkaaDoorD6
import Derived.Test.YtplknajjcllmkaaDoorN1d
namespace Go.Sx.Tryd
open Go Go.Sx
abbrev ctA : List CT := [.int .i64, .int .i64, .int .i64, .int .i32, .int .i32, .sl ctL, .int .i64, .int .i64, .str, .int .i32, .int .i32]
theorem act_inv {e : PV} (h1 : e.cells.length = 11) (h2 : e = .agg e.cells) (h3 : ∀ (i : Nat) (c : CT) (p : PV), ctA[i]? = some c → e.cells[i]? = some p → WT c p) : ∃ a : Act, (a.p.so = .nil → a.p.legs = []) ∧ e = a.pv := by
  match hc : e.cells, h1 with
  | [c0, c1, c2, c3, c4, c5, c6, c7, c8, c9, c10], _ =>
    rw [hc] at h2 h3
    obtain ⟨n0, _, _, rfl⟩ := i64_inv (h3 0 _ c0 rfl rfl)
    obtain ⟨n1, _, _, rfl⟩ := i64_inv (h3 1 _ c1 rfl rfl)
    obtain ⟨n2, _, _, rfl⟩ := i64_inv (h3 2 _ c2 rfl rfl)
    obtain ⟨n3, _, _, rfl⟩ := i32_inv (h3 3 _ c3 rfl rfl)
    obtain ⟨n4, _, _, rfl⟩ := i32_inv (h3 4 _ c4 rfl rfl)
    obtain ⟨o, l, rfl, hl, ho⟩ := legs_inv (h3 5 _ c5 rfl rfl)
    obtain ⟨n6, _, _, rfl⟩ := i64_inv (h3 6 _ c6 rfl rfl)
    obtain ⟨n7, _, _, rfl⟩ := i64_inv (h3 7 _ c7 rfl rfl)
    obtain ⟨s, rfl, _⟩ := str_inv (h3 8 _ c8 rfl rfl)
    obtain ⟨n9, _, _, rfl⟩ := i32_inv (h3 9 _ c9 rfl rfl)
    obtain ⟨n10, _, _, rfl⟩ := i32_inv (h3 10 _ c10 rfl rfl)
    exact ⟨⟨n0, n1, ⟨n2, n3, n4, o, l, n6, n7, s⟩, n9, n10⟩, ho, h2⟩
theorem acts_inv {x : PV} (h : WT (.sl ctA) x) : ∃ (o : SO) (l : List Act), x = .sl o 11 (l.map Act.pv) ∧ ∀ a ∈ l, a.p.so = .nil → a.p.legs = [] := by
  rcases sl_inv h with rfl | ⟨es, rfl, _, hs, hc⟩
  · exact ⟨.nil, [], rfl, by simp⟩
  · obtain ⟨l, hl, rfl⟩ := list_of (f := Act.pv) (Q := fun a => a.p.so = .nil → a.p.legs = []) fun e he => act_inv (hs e he).1 ((hs e he).2.2 (by simp)) (hc e he)
    exact ⟨.shut, l, rfl, hl⟩
end Go.Sx.Tryd
/- The statement SnapStays, of the evaluator. -/
namespace Go.Sx.Tryd
open Go Go.Sx
def fitsA (l : List Act) : Bool := decide (l.length ≤ 40) && l.all fun a => fits a.p
theorem lenA (l : List Act) : (((l.map Act.pv).length : Nat) : Int) = l.length := by rw [List.length_map]
theorem ltA {l : List Act} {i : Nat} (h : i < l.length) : (i : Int) < (((l.map Act.pv).length : Nat) : Int) := by rw [List.length_map]; omega
theorem a30 {l : List Act} {o : SO} (hl : l.length ≤ 1000) : lv (cv (ev X E0) xf30_l0) (rl [8, 0, 0]) 0 (S30a l o 0) = some ((l.find? (fun a => !fits a.p)).elim (XExit.exit 0, St.mk (tmOf 20 []) []) (fun a => (XExit.ret, St.mk (tmOf 20 [(2, AV.c (CV.pv (PV.bool false)))]) [Box.cells (Act.cs a)]))) := by
  have h12 : ∀ (p : Post), cc (ev X E0) 12 [AV.c (CV.pv (PV.sl .full 7 [Post.pv p]))] [] = some (.b (fits p), []) := fun p => by
    have := s15 [p] .full
    have e : fitsAll [p] = fits p := by simp [fitsAll]
    rw [e] at this
    exact this
  refine lv_find (l := l) (w := fun a => !fits a.p) (S30a l o) (dl30e_1 l o l.length (by simp)) (fun i y hat hlt hw => ?_) fun i y hat hlt hw => ?_
  · have hf : fits y.p = false := by simpa using hw
    exact dl30_1 l o i y hat (ltA hlt) _ (h12 y.p) hf
  · have hf : fits y.p = true := by simpa using hw
    have := dl30_2 l o i y hat (ltA hlt) _ (h12 y.p) hf
    rwa [wi64 (by omega) (by omega)] at this
theorem s30 (l : List Act) (o : SO) : cc (ev X E0) 30 [AV.sl o 11 (l.map Act.pv)] [] = some (.b (fitsA l), []) := by
  by_cases c : l.length ≤ 40
  · have h := a30 (l := l) (o := o) (by omega)
    cases hf : l.find? (fun a => !fits a.p) with
    | none =>
      rw [hf] at h
      have e : fitsA l = true := by
        simp only [fitsA, Bool.and_eq_true, decide_eq_true_eq, List.all_eq_true]
        exact ⟨c, fun a ha => by simpa using find_none hf a ha⟩
      rw [e]
      exact df30_2 l o h (by rw [lenA]; omega)
    | some a =>
      rw [hf] at h
      have ha := List.find?_some hf
      have e : fitsA l = false := by
        have hm := List.mem_of_find?_eq_some hf
        simp only [fitsA, Bool.and_eq_false_iff]
        exact .inr (List.all_eq_false.2 ⟨a, hm, by simpa using ha⟩)
      rw [e]
      exact df30r_2 l o a h (by rw [lenA]; omega)
  · have e : fitsA l = false := by simp [fitsA, c]
    rw [e]
    exact df30x_1 l o (by rw [lenA]; omega)
theorem fitsA_nice {l : List Act} (h : fitsA l = true) (hw : ∀ a ∈ l, a.p.so = .nil → a.p.legs = []) : l.length ≤ 40 ∧ ∀ a ∈ l, Nice a.p := by
  simp only [fitsA, Bool.and_eq_true, decide_eq_true_eq, List.all_eq_true] at h
  exact ⟨h.1, fun a ha => fits_nice (h.2 a ha) (hw a ha)⟩
theorem a4 {m : List Act} {q : SO} {k v : Int} {l : List Act} {o : SO} (hl : l.length ≤ 1000) : ∀ (r pre : List Act) (d : Dk) (n : Nat), l = pre ++ r → Gd d n → n + r.length ≤ 400 → (∀ a ∈ r, Nice a.p) →
    ∃ d', Gd d' (n + r.length) ∧ lv (cv (ev X E0) xf4_l0) (rl [1, 0, 0, 5, 25, 0, 0]) 1 (S4a m q k v l o d (pre.length : Nat)) = E4a m q k v d'
  | [], pre, d, n, e, h, _, _ => by
    rw [List.append_nil] at e
    subst e
    exact ⟨d, h, dl4z_1 m q k v l o d l.length (by simp)⟩
  | y :: r, pre, d, n, e, h, hn, hN => by
    have hlen : l.length = pre.length + r.length + 1 := by rw [e]; simp; omega
    have hat : l[pre.length]? = some y := by rw [e]; simp
    rw [List.length_cons] at hn
    obtain ⟨d1, e1, g, h31, _⟩ := sDo h (by omega) (hN y (by simp))
    have st := dl4a_1 m q k v l o d pre.length y hat (ltA (by omega)) d1 e1 h31
    rw [wi64 (by omega) (by omega)] at st
    obtain ⟨d', g', h'⟩ := a4 (m := m) (q := q) (k := k) (v := v) (o := o) hl r (pre ++ [y]) d1 (n + 1) (by rw [e]; simp) g (by omega) (fun a ha => hN a (by simp [ha]))
    rw [List.length_append, List.length_singleton, Int.natCast_add, Int.natCast_one] at h'
    refine ⟨d', ?_, st.trans h'⟩
    rw [List.length_cons, show n + (r.length + 1) = n + 1 + r.length by omega]
    exact g'
theorem st_take {d d' : Dk} (h : St1 d d') {m : Nat} (hm : m ≤ d.b.length) : d'.b.take m = d.b.take m := by
  cases h with
  | same h => rw [h]
  | wrote p hb _ _ => rw [hb, List.take_append_of_le_length hm]
  | opened k v hb _ _ => rw [hb]
  | closed id z _ _ hb _ _ => rw [hb]
theorem has_eq {d : Dk} (h : deskB d = true) {z : Rd} (hz : z ∈ d.r) : hasL d z.id = (d.b.take z.sees.toNat).filter (within z.known z.value) ∧ fdE d z.id = 0 ∧ 0 ≤ z.sees ∧ z.sees ≤ d.b.length := by
  obtain ⟨r1, r2, r3, r4, r5⟩ := desk_right h
  obtain ⟨s1, s2, _⟩ := rd_sees r5 (by decide) z hz
  refine ⟨by unfold hasL; rw [rd_place r5 hz], ?_, s1, s2⟩
  unfold fdE
  rw [if_pos h, if_pos (there_iff.2 ⟨z, hz, rfl⟩)]
theorem sames_refl : ∀ (l : List Post), samesB l l = true := by
  intro l
  unfold samesB
  rw [decide_eq_true rfl, Bool.true_and, Bool.not_eq_true']
  induction l with
  | nil => rfl
  | cons p l ih => rw [List.zip_cons_cons, List.any_cons, same_refl, ih]; rfl
theorem take_nice {d : Dk} (h : ∀ p ∈ d.b, Nice p) {n : Nat} {w : Post → Bool} : ∀ p ∈ (((d.b.take n).filter w).map sh), p.legs.length ≤ 1000000 := by
  intro p hp
  obtain ⟨q, hq, rfl⟩ := List.mem_map.1 hp
  exact (h q (List.mem_of_mem_take (List.mem_filter.1 hq).1)).legs
theorem b4 {m : List Act} {q : SO} {z : Rd} {ow : SO} {sw : Nat} {was W : List Post} (hl : m.length ≤ 1000) (hw : was = W.map sh) (hsz : szOk 7 (CV.pv (PV.sl ow sw (List.map Post.pv was))) = true) : ∀ (r pre : List Act) (d : Dk) (n : Nat), m = pre ++ r → Gd d n → n + r.length ≤ 400 → (∀ a ∈ r, Nice a.p) → z ∈ d.r → (d.b.take z.sees.toNat).filter (within z.known z.value) = W →
    ∃ d', lv (cv (ev X E0) xf4_l1) (rl [9, 3, 1, 59, 0, 0]) 1 (S4b m q z.id ow sw was d (pre.length : Nat)) = some (XExit.exit 2, St.mk (tmOf 112 []) [Box.cells (Dk.cs d')])
  | [], pre, d, n, e, h, _, _, _, _ => by
    rw [List.append_nil] at e
    subst e
    exact ⟨d, dl4x_1 m q z.id ow sw was d m.length (by simp)⟩
  | y :: r, pre, d, n, e, h, hn, hN, hz, hW => by
    have hlen : m.length = pre.length + r.length + 1 := by rw [e]; simp; omega
    have hat : m[pre.length]? = some y := by rw [e]; simp
    have hlt := ltA (l := m) (i := pre.length) (by omega)
    rw [List.length_cons] at hn
    have next : ∀ d1, Gd d1 (n + 1) → z ∈ d1.r → (d1.b.take z.sees.toNat).filter (within z.known z.value) = W → ∃ d', lv (cv (ev X E0) xf4_l1) (rl [9, 3, 1, 59, 0, 0]) 1 (S4b m q z.id ow sw was d1 ((pre.length : Nat) + 1)) = some (XExit.exit 2, St.mk (tmOf 112 []) [Box.cells (Dk.cs d')]) := fun d1 g hz1 hW1 => by
      have ih := b4 (q := q) hl hw hsz r (pre ++ [y]) d1 (n + 1) (by rw [e]; simp) g (by omega) (fun a ha => hN a (by simp [ha])) hz1 hW1
      rw [List.length_append, List.length_singleton, Int.natCast_add, Int.natCast_one] at ih
      exact ih
    by_cases c : y.dod = 2 ∧ y.id = z.id
    · have st := dl4c_1 m q z.id ow sw was d pre.length y hat hlt c.1 c.2
      rw [wi64 (by omega) (by omega)] at st
      obtain ⟨d', h'⟩ := next d (h.more (by omega)) hz hW
      exact ⟨d', st.trans h'⟩
    · obtain ⟨d1, e1, g, h31, hst, _, hk, _⟩ := sDo h (by omega) (hN y (by simp))
      have hz1 : z ∈ d1.r := by rcases hk z hz with hk | hk; exact absurd hk c; exact hk
      obtain ⟨_, _, t1, t2⟩ := has_eq h.desk hz
      obtain ⟨u1, u2, _, _⟩ := has_eq g.desk hz1
      have htk := st_take hst (m := z.sees.toNat) (by omega)
      rw [← htk] at hW
      obtain ⟨oi, si, is, h18, i1, i2, i3, _⟩ := sHas (g.ok (by omega)) z.id
      rw [u2] at h18
      have hi := i3 u2
      have h28 := s27 (l := is) (m := was) i1 hsz (by rw [hi, u1, List.length_map]; exact Nat.le_trans (List.length_filter_le _ _) (by rw [List.length_take]; have := g.bl; omega)) (by rw [hi, u1]; exact take_nice g.nice)
      have hsame : is = was := by rw [hi, u1, hW, hw]
      rw [show samesB is was = true by rw [hsame]; exact sames_refl _] at h28
      obtain ⟨d', h'⟩ := next d1 g hz1 hW
      by_cases c2 : y.dod = 2
      · have st := dl4b_2 m q z.id ow sw was d pre.length y hat hlt d1 e1 h31 oi si is h18 h28 c2 (fun e => c ⟨c2, e⟩)
        rw [wi64 (by omega) (by omega)] at st
        exact ⟨d', st.trans h'⟩
      · have st := dl4b_3 m q z.id ow sw was d pre.length y hat hlt d1 e1 h31 oi si is h18 h28 c2
        rw [wi64 (by omega) (by omega)] at st
        exact ⟨d', st.trans h'⟩
theorem new_gd : ∃ d0 : Dk, Gd d0 0 ∧ cc (ev X E0) 20 [Bk .nil 0 []] [] = some (.tup [Dv d0.b d0.o d0.s d0.r d0.q d0.t d0.nx, .i 0], []) := by
  obtain ⟨d', w, h, p, _⟩ := sNew (l := []) (o := .nil) (s := 0) rfl (fun _ => rfl) (by simp) (by simp)
  obtain ⟨p1, p2, p3⟩ := p rfl
  refine ⟨d', ⟨w, ?_, ?_, ?_, ?_, ?_⟩, h⟩
  · unfold deskB; rw [p1, p2, p3]; rfl
  · rw [p1]; exact sh_shut []
  · rw [p1]; simp
  · rw [p1]; simp
  · rw [p3]; decide
theorem op_err {d : Dk} {n : Nat} (h : Gd d n) (hn : n ≤ 1000) (k v : Int) : opE d k v = 0 ∨ opE d k v = 11 ∨ opE d k v = 6 := by
  unfold opE
  rw [if_pos h.desk]
  by_cases c2 : (datOk k && datOk v) = true
  · rw [if_pos c2]
    by_cases c3 : d.r.length = 16
    · rw [if_pos c3]; exact .inr (.inr rfl)
    · rw [if_neg c3, if_neg (by have := h.nl; omega)]; exact .inl rfl
  · rw [if_neg c2]; exact .inr (.inl rfl)
theorem SnapStays0 (l m : List Act) (o q : SO) (k v : Int) (hw : ∀ a ∈ l, a.p.so = .nil → a.p.legs = []) (hw' : ∀ a ∈ m, a.p.so = .nil → a.p.legs = []) : cc (ev X E0) 4 [AV.sl o 11 (l.map Act.pv), AV.sl q 11 (m.map Act.pv), AV.int .i32 k, AV.int .i32 v] [] = some (.b true, []) := by
  have h30 := s30 l o
  have h30' := s30 m q
  cases hf : fitsA l with
  | false => rw [hf] at h30; exact df4x_1 l m o q k v true h30 alive
  | true =>
  rw [hf] at h30
  cases hf' : fitsA m with
  | false => rw [hf'] at h30'; exact df4y_1 l m o q k v h30 h30' alive
  | true =>
  rw [hf'] at h30'
  obtain ⟨l1, l2⟩ := fitsA_nice hf hw
  obtain ⟨m1, m2⟩ := fitsA_nice hf' hw'
  obtain ⟨d0, g0, h20⟩ := new_gd
  obtain ⟨d1, g1, hl⟩ := a4 (m := m) (q := q) (k := k) (v := v) (l := l) (o := o) (by omega) l [] d0 0 rfl g0 (by omega) l2
  obtain ⟨d2, n, w, h16, p1, p2⟩ := sOpen (g1.ok (by omega)) k v
  by_cases c : opE d1 k v = 0
  · obtain ⟨q1, q2, q3, q4⟩ := p1 c
    obtain ⟨g2, hb⟩ := gd_opened g1 w c q1 q2 q3
    have hz : (⟨d1.nx, d1.b.length, k, v⟩ : Rd) ∈ d2.r := by rw [q2]; simp
    obtain ⟨u1, u2, _, _⟩ := has_eq g2.desk hz
    obtain ⟨ow, sw, was, h18, i1, i2, i3, _⟩ := sHas (g2.ok (by omega)) d1.nx
    rw [u2] at h18
    rw [c, q4] at h16
    obtain ⟨d3, hl2⟩ := b4 (m := m) (q := q) (z := ⟨d1.nx, d1.b.length, k, v⟩) (ow := ow) (sw := sw) (was := was) (by omega) (i3 u2) i1 m [] d2 _ rfl g2 (by omega) m2 hz u1.symm
    exact df4g_1 l m o q k v h30 h30' alive d0 d1 d2 d3 0 d1.nx h20 hl h16 ow sw was h18 hl2
  · rcases op_err g1 (by omega) k v with e | e | e
    · exact absurd e c
    · exact df4e_1 l m o q k v h30 h30' alive d0 d1 d2 0 n _ c h20 hl h16 e
    · have := df4e_2 l m o q k v h30 h30' alive d0 d1 d2 0 n _ c h20 hl h16 (by omega)
      rw [e] at this
      exact this
theorem SnapStays (x0 : PV) (t0 : WT (.sl ctA) x0) (x1 : PV) (t1 : WT (.sl ctA) x1) (x2 : PV) (t2 : WT (.int .i32) x2) (x3 : PV) (t3 : WT (.int .i32) x3) : ev X E0 4 [.c (.pv x0), .c (.pv x1), .c (.pv x2), .c (.pv x3)] [] = some (.b true, []) := by
  obtain ⟨o, l, rfl, hl⟩ := acts_inv t0
  obtain ⟨q, m, rfl, hm⟩ := acts_inv t1
  obtain ⟨k, _, _, rfl⟩ := i32_inv t2
  obtain ⟨v, _, _, rfl⟩ := i32_inv t3
  exact ev_cc (SnapStays0 l m o q k v hl hm)
end Go.Sx.Tryd
