/- The statement SnapSums, of the evaluator. -/
import Derived.Test.YtplknajjcllmkaaDoorD10
namespace Go.Sx.Tryd
open Go Go.Sx
theorem sum_congr {acc cur v v' : Int} : ∀ {l : List Post}, (∀ p ∈ l, p.value ≤ v ↔ p.value ≤ v') → sumBook acc cur v l = sumBook acc cur v' l
  | [], _ => rfl
  | p :: l, h => by
    simp only [sumBook]
    rw [sum_congr (l := l) fun q hq => h q (by simp [hq])]
    by_cases c : p.value ≤ v
    · rw [if_pos c, if_pos ((h p (by simp)).1 c)]
    · rw [if_neg c, if_neg fun e => c ((h p (by simp)).2 e)]
theorem chk_sh (p : Post) : chk (sh p) = chk p := rfl
theorem sSum {L : List Post} {o : SO} {s : Nat} (hs : szOk 7 (CV.pv (PV.sl o s (List.map Post.pv (L.map sh)))) = true) (hN : ∀ p ∈ L, Nice p) (hc : ∀ p ∈ L, chk p = 0) (hl : L.length ≤ 400) {acc c v : Int} (h0 : 0 ≤ c) (h4 : c < 4) :
    cc (ev X E0) 34 [AV.sl o s ((L.map sh).map Post.pv), AV.i acc, AV.i c, AV.int .i32 v] [] = some (.tup [.i (sumBook acc c v (L.map sh)), .i 0], []) := by
  have h := s33 hs acc c v (by rw [List.length_map]; exact hl) (fun p hp => by
    obtain ⟨q, hq, rfl⟩ := List.mem_map.1 hp
    rw [chk_sh]; exact hc q hq) (fun p hp => by
    obtain ⟨q, hq, rfl⟩ := List.mem_map.1 hp
    exact sh_nice (hN q hq))
  rw [if_neg (by omega), if_neg (by omega)] at h
  exact h
theorem a6 {acc c : Int} {l : List Act} {o : SO} (hl : l.length ≤ 1000) : ∀ (r pre : List Act) (d : Dk) (n : Nat), l = pre ++ r → Gd d n → n + r.length ≤ 400 → (∀ a ∈ r, Nice a.p) →
    ∃ d', Gd d' (n + r.length) ∧ lv (cv (ev X E0) xf6_l0) (rl [1, 5, 1, 22, 0, 0]) 1 (S6a acc c l o d (pre.length : Nat)) = E6a acc c d'
  | [], pre, d, n, e, h, _, _ => by
    rw [List.append_nil] at e
    subst e
    exact ⟨d, h, dl6z_1 acc c l o d l.length (by simp)⟩
  | y :: r, pre, d, n, e, h, hn, hN => by
    have hlen : l.length = pre.length + r.length + 1 := by rw [e]; simp; omega
    have hat : l[pre.length]? = some y := by rw [e]; simp
    rw [List.length_cons] at hn
    obtain ⟨d1, e1, g, h31, _⟩ := sDo h (by omega) (hN y (by simp))
    have h21 := sR (g.ok (by omega))
    rw [g.desk] at h21
    have st := dl6a_1 acc c l o d pre.length y hat (ltA (by omega)) d1 e1 h31 h21
    rw [wi64 (by omega) (by omega)] at st
    obtain ⟨d', g', h'⟩ := a6 (acc := acc) (c := c) (o := o) hl r (pre ++ [y]) d1 (n + 1) (by rw [e]; simp) g (by omega) (fun a ha => hN a (by simp [ha]))
    rw [List.length_append, List.length_singleton, Int.natCast_add, Int.natCast_one] at h'
    refine ⟨d', ?_, st.trans h'⟩
    rw [List.length_cons, show n + (r.length + 1) = n + 1 + r.length by omega]
    exact g'
theorem b6 {acc c : Int} {d : Dk} {n : Nat} (g : Gd d n) (hn : n ≤ 400) (h0 : 0 ≤ c) (h4 : c < 4) : ∀ (r pre : List Rd), d.r = pre ++ r →
    lv (cv (ev X E0) xf6_l1) (rl [1, 5, 1, 39, 0, 0]) 1 (S6b acc c d.b d.o d.s d.r d.q d.t d.nx (pre.length : Nat)) = some (XExit.exit 2, St.mk (tmOf 117 []) [Box.cells (Dk.cs d)])
  | [], pre, e => by
    rw [List.append_nil] at e
    rw [show pre.length = d.r.length by rw [e]]
    exact dl6y_1 acc c d.b d.o d.s d.r d.q d.t d.nx d.r.length (by simp)
  | z :: r, pre, e => by
    have hz : z ∈ d.r := by rw [e]; simp
    obtain ⟨k1, k2, _, _, k5⟩ := desk_right g.desk
    have hlen : d.r.length = pre.length + r.length + 1 := by rw [e]; simp; omega
    have hat : d.r[pre.length]? = some z := by rw [e]; simp
    have hlt := ltR (l := d.r) (i := pre.length) (by omega)
    obtain ⟨s1, s2, _, s4, s5⟩ := rd_sees k5 (by decide) z hz
    have dv := datOk_iff.1 s5
    obtain ⟨u1, u2, _, _⟩ := has_eq g.desk hz
    obtain ⟨oi, si, is, h18, i1, i2, i3, _⟩ := sHas (g.ok (by omega)) z.id
    rw [u2] at h18
    have hi := i3 u2
    rw [u1] at hi
    subst hi
    have hbl := g.bl
    have hrt : rightB (d.b.take z.sees.toNat) = true := right_take k1 _
    have hLN : ∀ p ∈ (d.b.take z.sees.toNat).filter (within z.known z.value), Nice p := fun p hp => g.nice p (List.mem_of_mem_take (List.mem_filter.1 hp).1)
    have hLc : ∀ p ∈ (d.b.take z.sees.toNat).filter (within z.known z.value), chk p = 0 := fun p hp => right_chk hrt p (List.mem_filter.1 hp).1
    have hLl : ((d.b.take z.sees.toNat).filter (within z.known z.value)).length ≤ 400 := Nat.le_trans (List.length_filter_le _ _) (by rw [List.length_take]; omega)
    have h34 := sSum i1 hLN hLc hLl (acc := acc) (v := 50000) h0 h4
    have hsum : sumBook acc c 50000 (((d.b.take z.sees.toNat).filter (within z.known z.value)).map sh) = sumBook acc c z.value (((d.b.take z.sees.toNat).filter (within z.known z.value)).map sh) := sum_congr fun p hp => by
      obtain ⟨q, hq, rfl⟩ := List.mem_map.1 hp
      have := (List.mem_filter.1 hq).2
      simp only [within, decide_eq_true_eq] at this
      show q.value ≤ 50000 ↔ q.value ≤ z.value
      omega
    have h32 := df32_1 d z.id acc c oi si _ h18 _ _ h34
    rw [hsum] at h32
    obtain ⟨ox, sx, e1, e2, _⟩ := out_form (pickR (d.b.take z.sees.toNat) (within z.known z.value))
    have hpick : pickR (d.b.take z.sees.toNat) (within z.known z.value) = (d.b.take z.sees.toNat).filter (within z.known z.value) := by unfold pickR; rw [if_pos hrt]
    rw [hpick] at e1 e2
    have h34' := sSum e2 hLN hLc hLl (acc := acc) (v := z.value) h0 h4
    have hE : pickE (d.b.take z.sees.toNat) = 0 := by unfold pickE; rw [if_pos hrt]
    have ih := b6 (acc := acc) (c := c) g hn h0 h4 r (pre ++ [z]) (by rw [e]; simp)
    rw [List.length_append, List.length_singleton, Int.natCast_add, Int.natCast_one] at ih
    refine Eq.trans ?_ ih
    have hw : IntKind.wrap .i64 ((pre.length : Int) + 1) = (pre.length : Int) + 1 := wi64 (by omega) (by omega)
    by_cases hn' : d.o = .nil
    · have hb := g.bn hn'
      have ht : d.b.take z.sees.toNat = [] := by rw [hb, List.take_nil]
      have hl0 : d.b.length = 0 := by rw [hb]; rfl
      rcases g.bs hn' with hs | hs
      · have h33 := s21 (l := []) (o := .nil) (s := 0) rfl (fun _ => rfl) (by simp) (by simp) z.known z.value
        rw [← ht, hpick, e1, hE, ht] at h33
        have h32' := h32
        rw [hb, hn', hs] at h32' ⊢
        have st := dl6n_3 acc c d.r d.q d.t g.rz d.nx pre.length z hat hlt _ h32' ox sx _ h33 (by simp only [hb, List.take_nil] at h34' ⊢; exact h34') (by omega) (by omega) s1 (by omega) rfl
        rw [hw] at st
        exact st
      · have h33 := s21 (l := []) (o := .nil) (s := 7) rfl (fun _ => rfl) (by simp) (by simp) z.known z.value
        rw [← ht, hpick, e1, hE, ht] at h33
        have h32' := h32
        rw [hb, hn', hs] at h32' ⊢
        have st := dl6m_3 acc c d.r d.q d.t g.rz d.nx pre.length z hat hlt _ h32' ox sx _ h33 (by simp only [hb, List.take_nil] at h34' ⊢; exact h34') (by omega) (by omega) s1 (by omega) rfl
        rw [hw] at st
        exact st
    · have nn : CV.some' (CV.pv (PV.sl d.o d.s (List.map Post.pv d.b))) = true := by simp only [CV.some', bne_iff_ne]; exact hn'
      have h33 := s21 (l := d.b.take z.sees.toNat) (o := .shut) (s := 7) rfl (fun h => by cases h) (by rw [List.length_take]; omega) (fun p hp => g.nice p (List.mem_of_mem_take hp)) z.known z.value
      rw [hpick, e1, hE, show Bk SO.shut 7 (List.take z.sees.toNat d.b) = AV.agg [CV.pv (PV.sl .shut 7 (List.take z.sees.toNat (List.map Post.pv d.b)))] by unfold Bk; rw [List.map_take]] at h33
      have st := dl6b_3 acc c d.b d.o d.s g.bz nn d.r d.q d.t g.rz d.nx pre.length z hat hlt _ h32 ox sx _ h33 h34' (by rw [lenP]; omega) (by omega) s1 (by rw [lenP]; omega) rfl
      rw [hw] at st
      exact st
theorem SnapSums0 (l : List Act) (o : SO) (acc cur : Int) (h0 : 0 ≤ cur) (h1 : cur ≤ 255) (hw : ∀ a ∈ l, a.p.so = .nil → a.p.legs = []) : cc (ev X E0) 6 [AV.sl o 11 (l.map Act.pv), AV.i acc, AV.int .u8 cur] [] = some (.b true, []) := by
  have h30 := s30 l o
  cases hf : fitsA l with
  | false => rw [hf] at h30; exact df6x_1 l o acc cur h30 alive
  | true =>
  rw [hf] at h30
  obtain ⟨l1, l2⟩ := fitsA_nice hf hw
  obtain ⟨d0, g0, h20⟩ := new_gd
  have t1 : 0 ≤ Int.tmod cur 4 := Int.tmod_nonneg _ h0
  have t2 : Int.tmod cur 4 < 4 := Int.tmod_lt_of_pos _ (by decide)
  have hc : IntKind.wrap .i64 (Int.tmod cur 4) = Int.tmod cur 4 := wi64 (by omega) (by omega)
  obtain ⟨d1, g1, hl⟩ := a6 (acc := acc) (c := IntKind.wrap .i64 (Int.tmod cur 4)) (l := l) (o := o) (by omega) l [] d0 0 rfl g0 (by omega) l2
  have hl2 := b6 (acc := acc) (c := IntKind.wrap .i64 (Int.tmod cur 4)) g1 (by omega) (by omega) (by omega) d1.r [] rfl
  exact df6_1 l o acc cur h30 alive d0 d1 0 h20 hl hl2
theorem SnapSums (x0 : PV) (t0 : WT (.sl ctA) x0) (x1 : PV) (t1 : WT (.int .i64) x1) (x2 : PV) (t2 : WT (.int .u8) x2) : ev X E0 6 [.c (.pv x0), .c (.pv x1), .c (.pv x2)] [] = some (.b true, []) := by
  obtain ⟨o, l, rfl, hl⟩ := acts_inv t0
  obtain ⟨acc, _, _, rfl⟩ := i64_inv t1
  obtain ⟨cur, c1, c2, rfl⟩ := u8_inv t2
  exact ev_cc (SnapSums0 l o acc cur c1 c2 hl)
end Go.Sx.Tryd
