/- The statement SnapTells, of the evaluator. -/
import Derived.Test.YtplknajjcllmkaaDoorD15
import Derived.Test.YtplknajjcllmkaaDoorD16
import Derived.Test.YtplknajjcllmkaaDoorD17
namespace Go.Sx.Tryd
open Go Go.Sx
theorem sames_of : ∀ {l m : List Post}, l.map sh = m.map sh → samesB l m = true
  | [], [], _ => rfl
  | [], _ :: _, h => by simp at h
  | _ :: _, [], h => by simp at h
  | p :: l, q :: m, h => by
    simp only [List.map_cons, List.cons.injEq] at h
    have ih := sames_of h.2
    have hs : same p q = true := by
      have : same (sh p) (sh q) = true := by rw [h.1]; exact same_refl _
      exact this
    simp only [samesB, Bool.and_eq_true, decide_eq_true_eq, Bool.not_eq_true'] at ih ⊢
    refine ⟨by rw [List.length_cons, List.length_cons, ih.1], ?_⟩
    rw [List.zip_cons_cons, List.any_cons, ih.2, hs]
    rfl
theorem sh_sh (l : List Post) : (l.map sh).map sh = l.map sh := shut_sh (sh_shut l)
theorem same_desk {d e : Dk} (hd : d.Wf) (he : szOk 7 (CV.pv (PV.sl e.o e.s (List.map Post.pv e.b))) = true ∧ szOk 4 (CV.pv (PV.sl e.q e.t (List.map Rd.pv e.r))) = true) (hb : d.b.map sh = e.b.map sh) (hr : d.r = e.r) (hx : d.nx = e.nx) (hl : d.r.length ≤ 1000) (bl : d.b.length ≤ 1000) (hN : ∀ p ∈ d.b, p.legs.length ≤ 1000000) : cc (ev X E0) 23 [d.av, e.av] [] = some (.b true, []) := by
  obtain ⟨b, o, s, r, q, t, nx⟩ := d
  obtain ⟨b2, o2, s2, r2, q2, t2, nx2⟩ := e
  dsimp only at hr hx
  subst hr hx
  exact s23d hd.bz he.1 hd.rz he.2 hl (by omega) hN (sames_of hb)
theorem legs_sh {l : List Post} (h : ∀ p ∈ l, Nice p) : ∀ p ∈ l.map sh, p.legs.length ≤ 1000000 := by
  intro p hp
  obtain ⟨q, hq, rfl⟩ := List.mem_map.1 hp
  exact (h q hq).legs
theorem Z_same : cc (ev X E0) 23 [Z.av, Z.av] [] = some (.b true, []) := same_desk Z_wf ⟨rfl, rfl⟩ rfl rfl rfl (by decide) (by decide) (by simp [Z])
theorem SnapTells0 (b : List Post) (o : SO) (r : List Rd) (q : SO) (nx : Int) (p : Post) (id k v : Int) (hb0 : ∀ p ∈ b, p.so = .nil → p.legs = []) (ho : o = .nil → b = []) (hq : q = .nil → r = []) (hp : p.so = .nil → p.legs = []) : cc (ev X E0) 3 [Dv b o 7 r q 4 nx, Post.av p, AV.i id, AV.int .i32 k, AV.int .i32 v] [] = some (.b true, []) := by
  have h12 := s15 b o
  have h12p : cc (ev X E0) 12 [AV.c (CV.pv (PV.sl .full 7 [Post.pv p]))] [] = some (.b (fits p), []) := by
    have := s15 [p] .full
    have e : fitsAll [p] = fits p := by simp [fitsAll]
    rw [e] at this
    exact this
  cases hf1 : fitsAll b with
  | false => exact df3x_1 b o r q nx p id k v _ _ h12 h12p alive hf1
  | true =>
  cases hf2 : fits p with
  | false => exact df3x_2 b o r q nx p id k v _ _ h12 h12p alive hf1 hf2
  | true =>
  by_cases hr : (↑(List.length (List.map Rd.pv r)) : Int) > 40
  · exact df3x_3 b o r q nx p id k v _ _ h12 h12p alive hf1 hf2 hr
  rw [hf1] at h12
  rw [hf2] at h12p
  have hrl : r.length ≤ 40 := by rw [lenR] at hr; omega
  obtain ⟨bl, bf⟩ := fits_fair hf1
  have hP : Nice p := fits_nice hf2 hp
  have hN : ∀ p ∈ b, Nice p := fun p hp => fits_nice (bf p hp).1 (hb0 p hp)
  have ok : Dk.Ok ⟨b, o, 7, r, q, 4, nx⟩ := ⟨⟨rfl, ho, (fun _ => .inr rfl), rfl, hq⟩, by show b.length ≤ 1000; omega, by show r.length ≤ 1000; omega, hN⟩
  have h14 := s14 ok (by show b.length < 400; omega)
  have h21 := sR ok
  obtain ⟨w, ww, h15, w1, w2⟩ := sWrite ok hP
  obtain ⟨y, n, wy, h16, y1, y2⟩ := sOpen ok k v
  obtain ⟨c, wc, h17, c1, c2⟩ := sClose ok id
  have h18c := cs_of (sHasC ok id)
  obtain ⟨ol, sl, ll, h18, l1, l2, l3, l4⟩ := sHas ok id
  have h19 := sOldest ok
  obtain ⟨x, wx, h20, x1, x2⟩ := sNew (l := b) (o := o) (s := 7) ok.bz ho (by omega) hN
  have h22 := s18 (l := b) (o := o) (s := 7) ok.bz ho (by omega) hN
  have h23 := Z_same
  have h23x : rightB b = true → cc (ev X E0) 23 [x.av, AV.agg [CV.pv (PV.sl o 7 (b.map Post.pv)), CV.pv (PV.sl .nil 0 []), CV.pv (PV.int .i64 1)]] [] = some (.b true, []) := fun hb => by
    obtain ⟨e1, e2, e3⟩ := x1 hb
    exact same_desk (d := x) (e := ⟨b, o, 7, [], .nil, 0, 1⟩) wx ⟨rfl, rfl⟩ (by rw [e1]; exact sh_sh b) e2 e3 (by rw [e2]; decide) (by rw [e1, List.length_map]; omega) (by rw [e1]; exact legs_sh hN)
  cases hd : deskB ⟨b, o, 7, r, q, 4, nx⟩ with
  | false =>
    have hdf : ¬ deskB ⟨b, o, 7, r, q, 4, nx⟩ = true := by rw [hd]; decide
    have hw : wrE ⟨b, o, 7, r, q, 4, nx⟩ p = 1 := by unfold wrE; rw [if_neg hdf]
    have hy : opE ⟨b, o, 7, r, q, 4, nx⟩ k v = 1 := by unfold opE; rw [if_neg hdf]
    have hc : fdE ⟨b, o, 7, r, q, 4, nx⟩ id = 1 := by unfold fdE; rw [if_neg hdf]
    have k1 := w2 (by rw [hw]; decide)
    obtain ⟨k2, k3⟩ := y2 (by rw [hy]; decide)
    have k4 := c2 (by rw [hc]; decide)
    rw [hw, k1] at h15
    rw [hy, k2, k3] at h16
    rw [hc, k4] at h17
    rw [hc, if_neg (by decide)] at h18c
    rw [hd] at h14 h21
    rw [hd, if_neg (by decide)] at h19
    cases hb : rightB b with
    | true =>
      have hx := h23x hb
      rw [hb, if_pos rfl] at h20
      rw [hb] at h22
      exact df3a_1 b o r q nx p id k v h12 h12p alive hr h14 h15 h16 h17 h18c h19 x 0 h20 h21 true rfl h22 (fun _ => hx) h23 rfl
    | false =>
      rw [hb, if_neg (by decide)] at h20
      rw [hb] at h22
      exact df3a_3 b o r q nx p id k v h12 h12p alive hr h14 h15 h16 h17 h18c h19 x 1 h20 h21 false rfl h22 (fun e => by cases e) h23 (by decide) rfl
  | true =>
    obtain ⟨r1, r2, r3, r4, r5⟩ := desk_right hd
    have hb : rightB b = true := r1
    rw [hd] at h14 h21
    rw [hb, if_pos rfl] at h20
    have h23x := h23x hb
    rw [hb] at h22
    have h24 := s26 (l := b) (o := o) (s := 7) ok.bz (by omega) hN hP
    have hwe : wrE ⟨b, o, 7, r, q, 4, nx⟩ p = fullE b p := by
      unfold wrE addE
      rw [if_pos hd, if_pos hb]
    rw [← hwe] at h24
    obtain ⟨ur, uq, ut, unx, h25, u1⟩ := s25d ok hd k v
    have h26 := s26d ok id
    rw [hd, if_pos rfl] at h19
    have hs : szOk 4 (CV.pv (PV.sl q 4 (List.map Rd.pv r))) = true := rfl
    have shb : (b.map sh).map sh = b.map sh := sh_sh b
    -- what is written
    have hs1 : ∀ n : Nat, n ≤ 1000 → ((n : Nat) : Int) * 72 ≤ 140737488355328 := fun n hn => by omega
    have wS : wrE ⟨b, o, 7, r, q, 4, nx⟩ p = 0 → cc (ev X E0) 23 [w.av, (Dk.mk (b ++ [p]) .shut 7 r q 4 nx).av] [] = some (.b true, []) := fun h => by
      obtain ⟨e1, e2, e3⟩ := w1 h
      exact same_desk (d := w) (e := ⟨b ++ [p], .shut, 7, r, q, 4, nx⟩) ww ⟨rfl, rfl⟩ (by rw [e1]; exact sh_sh (b ++ [p])) e2 e3 (by rw [e2]; show r.length ≤ 1000; omega) (by rw [e1, List.length_map, List.length_append]; show b.length + 1 ≤ 1000; omega) (by
        rw [e1]
        refine legs_sh fun x hx => ?_
        rcases List.mem_append.1 hx with hx | hx
        · exact hN x hx
        · rw [List.mem_singleton] at hx; rw [hx]; exact hP)
    -- what is opened
    have yS : opE ⟨b, o, 7, r, q, 4, nx⟩ k v = 0 → cs (ev X E0) 16 [Dv b o 7 r q 4 nx, AV.int .i32 k, AV.int .i32 v] = some (.tup [y.av, .i nx, .i 0]) ∧ cs (ev X E0) 25 [Dv b o 7 r q 4 nx, AV.int .i32 k, AV.int .i32 v] = some (.tup [(Dk.mk b o 7 ur uq ut unx).av, .i 0]) ∧ cc (ev X E0) 23 [y.av, (Dk.mk b o 7 ur uq ut unx).av] [] = some (.b true, []) := fun h => by
      obtain ⟨e1, e2, e3, e4⟩ := y1 h
      obtain ⟨f1, f2, f3⟩ := u1 h
      rw [if_pos h] at h25
      rw [h] at h16 h25
      rw [e4] at h16
      exact ⟨h16, h25, same_desk (d := y) (e := ⟨b, o, 7, ur, uq, ut, unx⟩) wy ⟨rfl, f1⟩ (by rw [e1]; exact shb) (e2.trans f2.symm) (e3.trans f3.symm) (by rw [e2, List.length_append]; show r.length + 1 ≤ 1000; omega) (by rw [e1, List.length_map]; show b.length ≤ 1000; omega) (by rw [e1]; exact legs_sh hN)⟩
    have zS : opE ⟨b, o, 7, r, q, 4, nx⟩ k v ≠ 0 → cs (ev X E0) 16 [Dv b o 7 r q 4 nx, AV.int .i32 k, AV.int .i32 v] = some (.tup [Z.av, .i 0, .i (opE ⟨b, o, 7, r, q, 4, nx⟩ k v)]) ∧ cs (ev X E0) 25 [Dv b o 7 r q 4 nx, AV.int .i32 k, AV.int .i32 v] = some (.tup [Z.av, .i (opE ⟨b, o, 7, r, q, 4, nx⟩ k v)]) := fun h => by
      obtain ⟨e1, e2⟩ := y2 h
      rw [e1, e2] at h16
      rw [if_neg h] at h25
      exact ⟨h16, h25⟩
    -- who is there
    have tN : ¬ there id r = true → cs (ev X E0) 17 [Dv b o 7 r q 4 nx, AV.i id] = some (.tup [Z.av, .i 8]) ∧ cs (ev X E0) 18 [Dv b o 7 r q 4 nx, AV.i id] = some (.tup [.c (CV.pv (PV.sl .nil 0 [])), .i 8]) ∧ cc (ev X E0) 26 [Dv b o 7 r q 4 nx, AV.i id] [] = some (.i (-1), []) := fun h => by
      have hc : fdE ⟨b, o, 7, r, q, 4, nx⟩ id = 8 := by unfold fdE; rw [if_pos hd, if_neg h]
      have k4 := c2 (by rw [hc]; decide)
      rw [hc, k4] at h17
      rw [hc, if_neg (by decide)] at h18c
      have hp : place id r = -1 := by unfold place; rw [if_neg h]
      rw [show place id (Dk.mk b o 7 r q 4 nx).r = -1 from hp] at h26
      exact ⟨h17, h18c, h26⟩
    have tS : there id r = true → ∃ (i : Nat) (c2 : Dk) (om : SO) (sm : Nat) (mm : List Post), cs (ev X E0) 17 [Dv b o 7 r q 4 nx, AV.i id] = some (.tup [c.av, .i 0]) ∧ cs (ev X E0) 18 [Dv b o 7 r q 4 nx, AV.i id] = some (.tup [.c (CV.pv (PV.sl ol sl (ll.map Post.pv))), .i 0]) ∧ cc (ev X E0) 26 [Dv b o 7 r q 4 nx, AV.i id] [] = some (.i (i : Int), []) ∧ cs (ev X E0) 27 [Dv b o 7 r q 4 nx, AV.i (i : Int)] = some c2.av ∧ cc (ev X E0) 23 [c.av, c2.av] [] = some (.b true, []) ∧ cs (ev X E0) 29 [Dv b o 7 r q 4 nx, AV.i (i : Int)] = some (.c (CV.pv (PV.sl om sm (mm.map Post.pv)))) ∧ cc (ev X E0) 28 [AV.sl ol sl (ll.map Post.pv), AV.sl om sm (mm.map Post.pv)] [] = some (.b true, []) ∧ r ≠ [] := fun h => by
      have hc : fdE ⟨b, o, 7, r, q, 4, nx⟩ id = 0 := by unfold fdE; rw [if_pos hd, if_pos h]
      obtain ⟨e1, e2, e3⟩ := c1 hc
      obtain ⟨z, hz, _⟩ := place_lt h
      have hlt : placeN id r < r.length := (List.getElem?_eq_some_iff.1 hz).1
      obtain ⟨q', t', h27, hs'⟩ := s27d ok (i := placeN id r) hlt
      obtain ⟨z0, z1, _, _, _⟩ := rd_sees r5 (by decide) z (List.mem_of_getElem? hz)
      obtain ⟨om, sm, h29, m1⟩ := s29d ok (fun _ => rfl) hz z0 z1
      have hp : place id r = (placeN id r : Int) := by unfold place; rw [if_pos h]
      rw [show place id (Dk.mk b o 7 r q 4 nx).r = (placeN id r : Int) from hp] at h26
      have hL : hasL ⟨b, o, 7, r, q, 4, nx⟩ id = (b.take z.sees.toNat).filter (within z.known z.value) := by
        have hz' : (Dk.mk b o 7 r q 4 nx).r[placeN id (Dk.mk b o 7 r q 4 nx).r]? = some z := hz
        unfold hasL
        rw [hz']
      have hll := l3 hc
      rw [hL] at hll
      rw [hc] at h17 h18
      have hne : r ≠ [] := fun e => by rw [e] at hlt; simp at hlt
      refine ⟨placeN id r, _, om, sm, _, h17, h18, h26, h27, ?_, h29, ?_, hne⟩
      · exact same_desk wc ⟨rfl, hs'⟩ (by rw [e1]; exact shb) e2 e3 (by rw [e2, List.length_append, List.length_take, List.length_drop]; show min (placeN id r) r.length + (r.length - (placeN id r + 1)) ≤ 1000; omega) (by rw [e1, List.length_map]; show b.length ≤ 1000; omega) (by rw [e1]; exact legs_sh hN)
      · have hmN : ∀ p ∈ (b.take z.sees.toNat).filter (within z.known z.value), Nice p := fun p hp => hN p (List.mem_of_mem_take (List.mem_filter.1 hp).1)
        have h28 := s27 (l := ll) (m := (b.take z.sees.toNat).filter (within z.known z.value)) l1 m1 (by rw [hll, List.length_map]; exact Nat.le_trans (List.length_filter_le _ _) (by rw [List.length_take]; omega)) (by rw [hll]; exact legs_sh hmN)
        rw [sames_of (by rw [hll]; exact sh_sh _)] at h28
        exact h28
    have h19n : r = [] → cc (ev X E0) 19 [Dv b o 7 r q 4 nx] [] = some (.tup [.i 0, .b false], []) := fun e => by subst e; exact h19
    have h19s : ∀ z, r[0]? = some z → cc (ev X E0) 19 [Dv b o 7 r q 4 nx] [] = some (.tup [.i z.sees, .b true], []) := fun z hz => by
      cases r with
      | nil => simp at hz
      | cons a l => simp at hz; subst hz; exact h19
    have hnn : r = [] → (false == decide ((↑(List.length (List.map Rd.pv r)) : Int) > 0)) = true := fun e => by subst e; rfl
    have hns : ∀ z, r[0]? = some z → (true == decide ((↑(List.length (List.map Rd.pv r)) : Int) > 0)) = true := fun z hz => by
      cases r with
      | nil => simp at hz
      | cons a l => simp
    have hz0 : r ≠ [] → ∃ z, r[0]? = some z := fun h => by
      cases r with
      | nil => exact absurd rfl h
      | cons a l => exact ⟨a, rfl⟩
    by_cases we : wrE ⟨b, o, 7, r, q, 4, nx⟩ p = 0
    · have h23w0 := wS we
      rw [we] at h15 h24
      by_cases hb0' : b = []
      · have hbm : List.map Post.pv b = [] := by rw [hb0']; rfl
        have e : List.map Post.pv (b ++ [p]) = [Post.pv p] := by rw [hb0']; rfl
        have h23w : cc (ev X E0) 23 [w.av, AV.agg [CV.pv (PV.sl .shut 7 [Post.pv p]), CV.pv (PV.sl q 4 (r.map Rd.pv)), CV.pv (PV.int .i64 nx)]] [] = some (.b true, []) := by rw [← e]; exact h23w0
        by_cases yo : opE ⟨b, o, 7, r, q, 4, nx⟩ k v = 0
        · obtain ⟨h16, h25, h23o⟩ := yS yo
          by_cases ht : there id r = true
          · obtain ⟨i, c2, om, sm, mm, h17, h18, h26, h27, h23c, h29, h28, hne⟩ := tS ht
            obtain ⟨z, hz⟩ := hz0 hne
            exact df3aot_1 b o r q nx p id k v h12 h12p alive hr h14 x h20 h21 h22 h23 h23x hbm w h15 h24 h23w y ⟨b, o, 7, ur, uq, ut, unx⟩ h16 h25 h23o (hns z hz) hs z hz (h19s z hz) c c2 h17 ol sl ll h18 (i : Int) (by omega) h26 h27 h23c om sm mm h29 h28 (by rw [List.length_singleton]; decide) rfl rfl
          · obtain ⟨h17, h18, h26⟩ := tN ht
            by_cases hr0 : r = []
            · exact df3aon_1 b o r q nx p id k v h12 h12p alive hr h14 x h20 h21 h22 h23 h23x hbm w h15 h24 h23w y ⟨b, o, 7, ur, uq, ut, unx⟩ h16 h25 h23o (hnn hr0) (h19n hr0) h17 h18 (-1) (by decide) h26 (by rw [List.length_singleton]; decide) rfl
            · obtain ⟨z, hz⟩ := hz0 hr0
              exact df3aos_1 b o r q nx p id k v h12 h12p alive hr h14 x h20 h21 h22 h23 h23x hbm w h15 h24 h23w y ⟨b, o, 7, ur, uq, ut, unx⟩ h16 h25 h23o (hns z hz) hs z hz (h19s z hz) h17 h18 (-1) (by decide) h26 (by rw [List.length_singleton]; decide) rfl rfl
        · obtain ⟨h16, h25⟩ := zS yo
          by_cases ht : there id r = true
          · obtain ⟨i, c2, om, sm, mm, h17, h18, h26, h27, h23c, h29, h28, hne⟩ := tS ht
            obtain ⟨z, hz⟩ := hz0 hne
            exact df3aft_1 b o r q nx p id k v h12 h12p alive hr h14 x h20 h21 h22 h23 h23x hbm w h15 h24 h23w (opE ⟨b, o, 7, r, q, 4, nx⟩ k v) yo h16 h25 (hns z hz) hs z hz (h19s z hz) c c2 h17 ol sl ll h18 (i : Int) (by omega) h26 h27 h23c om sm mm h29 h28 (by rw [List.length_singleton]; decide) rfl rfl
          · obtain ⟨h17, h18, h26⟩ := tN ht
            by_cases hr0 : r = []
            · exact df3afn_1 b o r q nx p id k v h12 h12p alive hr h14 x h20 h21 h22 h23 h23x hbm w h15 h24 h23w (opE ⟨b, o, 7, r, q, 4, nx⟩ k v) yo h16 h25 (hnn hr0) (h19n hr0) h17 h18 (-1) (by decide) h26 (by rw [List.length_singleton]; decide) rfl
            · obtain ⟨z, hz⟩ := hz0 hr0
              exact df3afs_1 b o r q nx p id k v h12 h12p alive hr h14 x h20 h21 h22 h23 h23x hbm w h15 h24 h23w (opE ⟨b, o, 7, r, q, 4, nx⟩ k v) yo h16 h25 (hns z hz) hs z hz (h19s z hz) h17 h18 (-1) (by decide) h26 (by rw [List.length_singleton]; decide) rfl rfl
      · have hbm : List.map Post.pv b ≠ [] := by simpa using hb0'
        have e : List.map Post.pv (b ++ [p]) = b.map Post.pv ++ [Post.pv p] := by simp
        have h23w : cc (ev X E0) 23 [w.av, AV.agg [CV.pv (PV.sl .shut 7 (b.map Post.pv ++ [Post.pv p])), CV.pv (PV.sl q 4 (r.map Rd.pv)), CV.pv (PV.int .i64 nx)]] [] = some (.b true, []) := by rw [← e]; exact h23w0
        by_cases yo : opE ⟨b, o, 7, r, q, 4, nx⟩ k v = 0
        · obtain ⟨h16, h25, h23o⟩ := yS yo
          by_cases ht : there id r = true
          · obtain ⟨i, c2, om, sm, mm, h17, h18, h26, h27, h23c, h29, h28, hne⟩ := tS ht
            obtain ⟨z, hz⟩ := hz0 hne
            exact df3bot_1 b o r q nx p id k v h12 h12p alive hr h14 x h20 h21 h22 h23 h23x hbm w h15 h24 h23w y ⟨b, o, 7, ur, uq, ut, unx⟩ h16 h25 h23o (hns z hz) hs z hz (h19s z hz) c c2 h17 ol sl ll h18 (i : Int) (by omega) h26 h27 h23c om sm mm h29 h28 (by rw [Nat.zero_add, List.length_map]; exact hs1 _ (by omega)) (by rw [List.nil_append, List.length_map, List.length_singleton]; exact hs1 _ (by omega)) rfl rfl
          · obtain ⟨h17, h18, h26⟩ := tN ht
            by_cases hr0 : r = []
            · exact df3bon_1 b o r q nx p id k v h12 h12p alive hr h14 x h20 h21 h22 h23 h23x hbm w h15 h24 h23w y ⟨b, o, 7, ur, uq, ut, unx⟩ h16 h25 h23o (hnn hr0) (h19n hr0) h17 h18 (-1) (by decide) h26 (by rw [Nat.zero_add, List.length_map]; exact hs1 _ (by omega)) (by rw [List.nil_append, List.length_map, List.length_singleton]; exact hs1 _ (by omega)) rfl
            · obtain ⟨z, hz⟩ := hz0 hr0
              exact df3bos_1 b o r q nx p id k v h12 h12p alive hr h14 x h20 h21 h22 h23 h23x hbm w h15 h24 h23w y ⟨b, o, 7, ur, uq, ut, unx⟩ h16 h25 h23o (hns z hz) hs z hz (h19s z hz) h17 h18 (-1) (by decide) h26 (by rw [Nat.zero_add, List.length_map]; exact hs1 _ (by omega)) (by rw [List.nil_append, List.length_map, List.length_singleton]; exact hs1 _ (by omega)) rfl rfl
        · obtain ⟨h16, h25⟩ := zS yo
          by_cases ht : there id r = true
          · obtain ⟨i, c2, om, sm, mm, h17, h18, h26, h27, h23c, h29, h28, hne⟩ := tS ht
            obtain ⟨z, hz⟩ := hz0 hne
            exact df3bft_1 b o r q nx p id k v h12 h12p alive hr h14 x h20 h21 h22 h23 h23x hbm w h15 h24 h23w (opE ⟨b, o, 7, r, q, 4, nx⟩ k v) yo h16 h25 (hns z hz) hs z hz (h19s z hz) c c2 h17 ol sl ll h18 (i : Int) (by omega) h26 h27 h23c om sm mm h29 h28 (by rw [Nat.zero_add, List.length_map]; exact hs1 _ (by omega)) (by rw [List.nil_append, List.length_map, List.length_singleton]; exact hs1 _ (by omega)) rfl rfl
          · obtain ⟨h17, h18, h26⟩ := tN ht
            by_cases hr0 : r = []
            · exact df3bfn_1 b o r q nx p id k v h12 h12p alive hr h14 x h20 h21 h22 h23 h23x hbm w h15 h24 h23w (opE ⟨b, o, 7, r, q, 4, nx⟩ k v) yo h16 h25 (hnn hr0) (h19n hr0) h17 h18 (-1) (by decide) h26 (by rw [Nat.zero_add, List.length_map]; exact hs1 _ (by omega)) (by rw [List.nil_append, List.length_map, List.length_singleton]; exact hs1 _ (by omega)) rfl
            · obtain ⟨z, hz⟩ := hz0 hr0
              exact df3bfs_1 b o r q nx p id k v h12 h12p alive hr h14 x h20 h21 h22 h23 h23x hbm w h15 h24 h23w (opE ⟨b, o, 7, r, q, 4, nx⟩ k v) yo h16 h25 (hns z hz) hs z hz (h19s z hz) h17 h18 (-1) (by decide) h26 (by rw [Nat.zero_add, List.length_map]; exact hs1 _ (by omega)) (by rw [List.nil_append, List.length_map, List.length_singleton]; exact hs1 _ (by omega)) rfl rfl
    · have hwz := w2 we
      rw [hwz] at h15
      by_cases yo : opE ⟨b, o, 7, r, q, 4, nx⟩ k v = 0
      · obtain ⟨h16, h25, h23o⟩ := yS yo
        by_cases ht : there id r = true
        · obtain ⟨i, c2, om, sm, mm, h17, h18, h26, h27, h23c, h29, h28, hne⟩ := tS ht
          obtain ⟨z, hz⟩ := hz0 hne
          exact df3wot_1 b o r q nx p id k v h12 h12p alive hr h14 x h20 h21 h22 h23 h23x (wrE ⟨b, o, 7, r, q, 4, nx⟩ p) we h15 h24 y ⟨b, o, 7, ur, uq, ut, unx⟩ h16 h25 h23o (hns z hz) hs z hz (h19s z hz) c c2 h17 ol sl ll h18 (i : Int) (by omega) h26 h27 h23c om sm mm h29 h28 rfl rfl rfl
        · obtain ⟨h17, h18, h26⟩ := tN ht
          by_cases hr0 : r = []
          · exact df3won_1 b o r q nx p id k v h12 h12p alive hr h14 x h20 h21 h22 h23 h23x (wrE ⟨b, o, 7, r, q, 4, nx⟩ p) we h15 h24 y ⟨b, o, 7, ur, uq, ut, unx⟩ h16 h25 h23o (hnn hr0) (h19n hr0) h17 h18 (-1) (by decide) h26 rfl rfl
          · obtain ⟨z, hz⟩ := hz0 hr0
            exact df3wos_1 b o r q nx p id k v h12 h12p alive hr h14 x h20 h21 h22 h23 h23x (wrE ⟨b, o, 7, r, q, 4, nx⟩ p) we h15 h24 y ⟨b, o, 7, ur, uq, ut, unx⟩ h16 h25 h23o (hns z hz) hs z hz (h19s z hz) h17 h18 (-1) (by decide) h26 rfl rfl rfl
      · obtain ⟨h16, h25⟩ := zS yo
        by_cases ht : there id r = true
        · obtain ⟨i, c2, om, sm, mm, h17, h18, h26, h27, h23c, h29, h28, hne⟩ := tS ht
          obtain ⟨z, hz⟩ := hz0 hne
          exact df3wft_1 b o r q nx p id k v h12 h12p alive hr h14 x h20 h21 h22 h23 h23x (wrE ⟨b, o, 7, r, q, 4, nx⟩ p) we h15 h24 (opE ⟨b, o, 7, r, q, 4, nx⟩ k v) yo h16 h25 (hns z hz) hs z hz (h19s z hz) c c2 h17 ol sl ll h18 (i : Int) (by omega) h26 h27 h23c om sm mm h29 h28 rfl rfl rfl
        · obtain ⟨h17, h18, h26⟩ := tN ht
          by_cases hr0 : r = []
          · exact df3wfn_1 b o r q nx p id k v h12 h12p alive hr h14 x h20 h21 h22 h23 h23x (wrE ⟨b, o, 7, r, q, 4, nx⟩ p) we h15 h24 (opE ⟨b, o, 7, r, q, 4, nx⟩ k v) yo h16 h25 (hnn hr0) (h19n hr0) h17 h18 (-1) (by decide) h26 rfl rfl
          · obtain ⟨z, hz⟩ := hz0 hr0
            exact df3wfs_1 b o r q nx p id k v h12 h12p alive hr h14 x h20 h21 h22 h23 h23x (wrE ⟨b, o, 7, r, q, 4, nx⟩ p) we h15 h24 (opE ⟨b, o, 7, r, q, 4, nx⟩ k v) yo h16 h25 (hns z hz) hs z hz (h19s z hz) h17 h18 (-1) (by decide) h26 rfl rfl rfl
abbrev ctRd : List CT := [.int .i64, .int .i64, .int .i32, .int .i32]
abbrev ctD : List CT := [.sl ctP, .sl ctRd, .int .i64]
theorem rds_inv {x : PV} (h : WT (.sl ctRd) x) : ∃ (q : SO) (l : List Rd), x = .sl q 4 (l.map Rd.pv) ∧ (q = .nil → l = []) := by
  rcases sl_inv h with rfl | ⟨es, rfl, _, hs, hc⟩
  · exact ⟨.nil, [], rfl, fun _ => rfl⟩
  · obtain ⟨l, _, rfl⟩ := list_of (f := Rd.pv) (Q := fun _ => True) fun e he => by
      have h1 := (hs e he).1
      have h2 := (hs e he).2.2 (by simp)
      have h3 := hc e he
      match hc : e.cells, h1 with
      | [a, b, c, d], _ =>
        rw [hc] at h2 h3
        obtain ⟨n0, _, _, rfl⟩ := i64_inv (h3 0 _ a rfl rfl)
        obtain ⟨n1, _, _, rfl⟩ := i64_inv (h3 1 _ b rfl rfl)
        obtain ⟨n2, _, _, rfl⟩ := i32_inv (h3 2 _ c rfl rfl)
        obtain ⟨n3, _, _, rfl⟩ := i32_inv (h3 3 _ d rfl rfl)
        exact ⟨⟨n0, n1, n2, n3⟩, trivial, h2⟩
    exact ⟨.shut, l, rfl, fun h => by cases h⟩
theorem SnapTells (x0 : List PV) (t0 : All2 WT ctD x0) (x1 : List PV) (t1 : All2 WT ctP x1) (x2 : PV) (t2 : WT (.int .i64) x2) (x3 : PV) (t3 : WT (.int .i32) x3) (x4 : PV) (t4 : WT (.int .i32) x4) : ev X E0 3 [.agg (x0.map .pv), .agg (x1.map .pv), .c (.pv x2), .c (.pv x3), .c (.pv x4)] [] = some (.b true, []) := by
  match x0, t0.1, x1, t1.1 with
  | [u0, u1, u2], _, [a, b, c, d, e, f, g], _ =>
  obtain ⟨o, l, rfl, hl, ho⟩ := posts_inv (t0.2 0 _ u0 rfl rfl)
  obtain ⟨q, r, rfl, hq⟩ := rds_inv (t0.2 1 _ u1 rfl rfl)
  obtain ⟨nx, _, _, rfl⟩ := i64_inv (t0.2 2 _ u2 rfl rfl)
  obtain ⟨p, hp, hpe⟩ := cells7 t1.2
  obtain ⟨id, _, _, rfl⟩ := i64_inv t2
  obtain ⟨k, _, _, rfl⟩ := i32_inv t3
  obtain ⟨v, _, _, rfl⟩ := i32_inv t4
  rw [hpe]
  exact ev_cc (SnapTells0 l o r q nx p id k v (fun p hp => (hl p hp).so) ho hq hp.so)
end Go.Sx.Tryd
