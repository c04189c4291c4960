/- The statement TopMoved, of the evaluator. -/
import Derived.Test.YtggopflifieoiaaDoorV4
import Derived.Test.YtggopflifieoiaaDoorSxLem
namespace Go.Sx.Tryd
open Go Go.Sx
theorem aliveM : cc (ev X E0) 20 [] [] = some (.b true, []) := by
  show (ev X E0 20 [] []).bind canon = _
  rw [CaliveB.aliveB]
  rfl
theorem us21 (x : Odr) (hr : oR x = true) (n : Int) (c : List Hol) (o : SO) (hc : c.length ≤ 1000) (k p pe : Int) (h19 : cc (ev X E0) 19 [AV.sl o 3 (c.map Hol.pv)] [] = some (.b true, [])) (hk : datOk k = true) (h22 : cc (ev X E0) 22 [AV.int .i32 x.first, AV.i (IntKind.wrap .i64 (n * x.months))] [] = some (.tup [.int .i32 p, .i pe], [])) (hp : pe = 0 → datOk p = true) {kv : List (PV × PV)} (hkv : KVok (c.map Hol.day) kv) (h63 : cc (ev X E0) 63 [AV.sl o 3 (c.map Hol.pv), AV.int .i32 k] [] = some (AV.c (.mp 0), [.map kv])) :
    ∃ u e, cc (ev X E0) 21 [Odr.av x, AV.i n, AV.sl o 3 (c.map Hol.pv), AV.int .i32 k] [] = some (.tup [.int .i32 u, .i e], []) ∧ (e = 0 → pe = 0 ∧ Rolled x.how splM (opn kv) p u) ∧ (e = 1 ↔ wthn n 0 (IntKind.wrap .i64 (x.many - 1)) = false ∨ pe = 1) := by
  have h56 := os56 n 0 (IntKind.wrap .i64 (x.many - 1))
  have h51 := s51 x
  rw [hr] at h51
  have hh := oR_how hr
  by_cases hpe : pe = 0
  · obtain ⟨q, qe, h57, hq, hq1⟩ := us57 c o hc k p x.how h19 hk (hp hpe) hh.1 hh.2 hkv h63
    cases hw : wthn n 0 (IntKind.wrap .i64 (x.many - 1)) with
    | false => rw [hw] at h56; exact ⟨_, _, og21_2 x n c o k true false p pe q qe h51 h56 h22 (fun _ _ => h57) rfl rfl, fun h => absurd h (by decide), by simp⟩
    | true => rw [hw] at h56; exact ⟨_, _, og21_4 x n c o k true true p pe q qe h51 h56 h22 (fun _ _ => h57) rfl rfl hpe, fun h => ⟨hpe, hq h⟩, by simp [hq1, hpe]⟩
  · have h57 : true = true → pe = 0 → cc (ev X E0) 57 [AV.sl o 3 (c.map Hol.pv), AV.int .i32 k, AV.int .i32 p, AV.i x.how] [] = some (.tup [.int .i32 0, .i 0], []) := fun _ h => absurd h hpe
    cases hw : wthn n 0 (IntKind.wrap .i64 (x.many - 1)) with
    | false => rw [hw] at h56; exact ⟨_, _, og21_2 x n c o k true false p pe 0 0 h51 h56 h22 h57 rfl rfl, fun h => absurd h (by decide), by simp⟩
    | true => rw [hw] at h56; exact ⟨_, _, og21_3 x n c o k true true p pe 0 0 h51 h56 h22 h57 rfl rfl hpe, fun h => absurd h hpe, by simp⟩
theorem va4 (x : Odr) (a b n u v lo hi : Int) {l : List Int} (hl : l.length ≤ 200000) (hin : ∀ d ∈ l, lo ≤ d ∧ d < hi + 1) : ∀ (r pre : List Int), l = pre ++ r →
    lv (cv (ev X E0) xf4_l0) (rl [9, 1, 3, 0, 0, 1]) 2 (VS4 x a b n u v lo hi (shL l) (pre.length : Nat)) = some (XExit.exit 0, VE4 x a b n u v (shL l))
  | [], pre, e => by
    rw [List.append_nil] at e
    subst e
    exact vl4_4 x a b n u v lo hi l l.length (by simp)
  | y :: r, pre, e => by
    have hlen : l.length = pre.length + r.length + 1 := by rw [e]; simp; omega
    have hat : l[pre.length]? = some y := by rw [e]; simp
    have hy := hin y (by rw [e]; simp)
    have st := vl4_3 x a b n u v lo hi l pre.length y (lt_len32 (by omega)) hat (by omega) (by omega)
    rw [wi64 (by omega) (by omega)] at st
    have ih := va4 x a b n u v lo hi hl hin r (pre ++ [y]) (by rw [e]; simp)
    rw [List.length_append, List.length_singleton, Int.natCast_add, Int.natCast_one] at ih
    exact st.trans ih
theorem dayx_ok (x : Int) : datOk (dayx x) = true := by
  have h := Int.tmod_lt_of_pos x (b := 1000) (by decide)
  have h' : -1000 < Int.tmod x 1000 := by
    have := Int.tmod_lt_of_pos (-x) (b := 1000) (by decide)
    rw [Int.neg_tmod] at this
    omega
  rw [dayx, w32h (by omega) (by omega)]
  exact dat_iff.2 (by omega)
theorem rolled_in {how : Int} {mon : Int → Int} {w : Int → Bool} {d x : Int} (hd : datOk d = true) (h : Rolled how mon w d x) : -50000 ≤ x ∧ x ≤ 50000 := by
  have hd := dat_iff.1 hd
  cases h with
  | on _ u => have := u.1; have := u.2.1; omega
  | back _ u => have := u.1; have := u.2.1; omega
  | within _ u _ => have := u.1; have := u.2.1; omega
  | none _ _ v => have := v.1; have := v.2.1; omega
  | other _ _ _ _ v => have := v.1; have := v.2.1; omega
theorem TopMoved0 (x : Odr) (c : List Hol) (o : SO) (a b n : Int) : cc (ev X E0) 4 [Odr.av x, AV.sl o 3 (c.map Hol.pv), XA3 a b n] [] = some (.b true, []) := by
  by_cases hc : (↑(List.length (List.map Hol.pv c)) : Int) > 60
  · exact vg4z_1 x c o a b n hc aliveM
  have hc60 : c.length ≤ 60 := by rw [List.length_map] at hc; omega
  have h18 := os18 x
  obtain ⟨w, h19⟩ := qs19 c o (by omega)
  obtain ⟨p, pe, h22, hp⟩ := us22 x.first (IntKind.wrap .i64 (n * x.months))
  obtain ⟨kva, hka, qa⟩ := qs63 c o (dayx a) (by omega)
  obtain ⟨kvb, hkb, qb⟩ := qs63 c o (dayx b) (by omega)
  have D : ∀ (y : Int) (kv : List (PV × PV)), KVok (c.map Hol.day) kv → cc (ev X E0) 63 [AV.sl o 3 (c.map Hol.pv), AV.int .i32 (dayx y)] [] = some (AV.c (.mp 0), [.map kv]) → ∃ u e, oR x = true → w = true → (cc (ev X E0) 21 [Odr.av x, AV.i n, AV.sl o 3 (c.map Hol.pv), AV.int .i32 (dayx y)] [] = some (.tup [.int .i32 u, .i e], []) ∧ (e = 0 → pe = 0 ∧ Rolled x.how splM (opn kv) p u) ∧ (e = 1 ↔ wthn n 0 (IntKind.wrap .i64 (x.many - 1)) = false ∨ pe = 1)) := fun y kv hkv h63 => by
    by_cases h : oR x = true ∧ w = true
    · obtain ⟨u, e, g⟩ := us21 x h.1 n c o (by omega) (dayx y) p pe (by rw [h19, h.2]) (dayx_ok y) h22 hp hkv h63
      exact ⟨u, e, fun _ _ => g⟩
    · exact ⟨0, 0, fun h1 h2 => absurd ⟨h1, h2⟩ h⟩
  obtain ⟨u, e, ha⟩ := D a kva hka qa
  obtain ⟨v, f, hb⟩ := D b kvb hkb qb
  have r0 : (if oR x = true then (0 : Int) else 1) = 0 → oR x = true := fun h => by
    by_cases c : oR x = true
    · exact c
    · rw [if_neg c] at h; exact absurd h (by decide)
  have a1 := fun (h : (if oR x = true then (0 : Int) else 1) = 0) (h2 : w = true) => (ha (r0 h) h2).1
  have b1 := fun (h : (if oR x = true then (0 : Int) else 1) = 0) (h2 : w = true) => (hb (r0 h) h2).1
  by_cases hm : x.many > 24
  · exact vg4a_2 x c o a b n _ u e v f p pe w h18 h19 a1 b1 h22 aliveM hc hm
  by_cases g3 : (if oR x = true then (0 : Int) else 1) = 0
  · by_cases g4 : w = true
    · obtain ⟨a2, a3, a4⟩ := ha (r0 g3) g4
      obtain ⟨b2, b3, b4⟩ := hb (r0 g3) g4
      have hef : ((e == 1) == (f == 1)) = true := by
        have : e = 1 ↔ f = 1 := a4.trans b4.symm
        by_cases h1 : e = 1
        · have h2 := this.1 h1; simp [h1, h2]
        · have h2 : ¬ f = 1 := fun h => h1 (this.2 h)
          rw [beq_eq_false_iff_ne.2 h1, beq_eq_false_iff_ne.2 h2]; rfl
      by_cases g5 : e = 0
      · by_cases g6 : f = 0
        · by_cases g7 : highM u v p ≥ 50000
          · exact vg4a_7 x c o a b n _ u e v f p pe w h18 h19 a1 b1 h22 aliveM hc hm g3 g4 g5 g6 g7
          · subst g5
            subst g6
            obtain ⟨p0, ra⟩ := a3 rfl
            obtain ⟨_, rb⟩ := b3 rfl
            rw [p0] at h22
            rw [g4] at h19
            rw [g3] at h18
            have hpd := hp p0
            have hpi := dat_iff.1 hpd
            have ia := rolled_in hpd ra
            have ib := rolled_in hpd rb
            have na := rolled_near (wd := wdI) (k := 50006) (fun _ => rfl) (fun d h1 h2 => opn_wd hka d h1 h2) ra
            have nb := rolled_near (wd := wdI) (k := 50006) (fun _ => rfl) (fun d h1 h2 => opn_wd hkb d h1 h2) rb
            rw [List.length_map] at na nb
            have l1 : lowM u v p = min (min u v) p := by unfold lowM; split <;> split at * <;> omega
            have l2 : highM u v p = max (max u v) p := by unfold highM; split <;> split at * <;> omega
            have whi : IntKind.wrap .i32 (highM u v p + 1) = highM u v p + 1 := w32h (by omega) (by omega)
            rcases vs23 c o (by omega) (dayx a) (dayx b) (lowM u v p) (highM u v p + 1) h19 (dayx_ok a) (dayx_ok b) (by omega) (by omega) (by omega) (by omega) hka hkb qa qb with ⟨h23, hs⟩ | ⟨l, hl, hn, hin, h23⟩
            · have huv : u = v := rolled_same ra rb fun z z1 z2 => hs z (by omega) (by omega)
              have := vg4n_2 x c o a b n u v p hc hm h18 h19 a2 b2 h22 g7 (by rw [whi]; exact h23) aliveM (vl4z_1 x a b n u v _ _) g7
              rw [this, huv]
              simp
            · have hlp : (↑(List.length (List.map i32P l)) : Int) > 0 := by
                rw [List.length_map]
                have := List.length_pos_iff.2 hl
                omega
              exact vg4o_2 x c o a b n u v p l hc hm h18 h19 a2 b2 h22 g7 (by rw [whi]; exact h23) aliveM (va4 x a b n u v _ _ hn hin l [] rfl) g7 hlp
        · have := vg4a_6 x c o a b n _ u e v f p pe w h18 h19 a1 b1 h22 aliveM hc hm g3 g4 g5 g6
          rw [hef] at this
          exact this
      · have := vg4a_5 x c o a b n _ u e v f p pe w h18 h19 a1 b1 h22 aliveM hc hm g3 g4 g5
        rw [hef] at this
        exact this
    · exact vg4a_4 x c o a b n _ u e v f p pe w h18 h19 a1 b1 h22 aliveM hc hm g3 (by simpa using g4)
  · exact vg4a_3 x c o a b n _ u e v f p pe w h18 h19 a1 b1 h22 aliveM hc hm g3
abbrev ctO : List CT := [.int .i64, .int .i64, .int .i64, .int .i64, .int .i64, .int .i64, .int .i32, .int .i64, .int .i64, .int .i64]
theorem cellsO {a b c d e f g i j k : PV} (h : ∀ (m : Nat) (t : CT) (p : PV), ctO[m]? = some t → [a, b, c, d, e, f, g, i, j, k][m]? = some p → WT t p) : ∃ x : Odr, [a, b, c, d, e, f, g, i, j, k] = x.pv.cells := by
  obtain ⟨n0, _, _, rfl⟩ := i64_inv (h 0 _ a rfl rfl)
  obtain ⟨n1, _, _, rfl⟩ := i64_inv (h 1 _ b rfl rfl)
  obtain ⟨n2, _, _, rfl⟩ := i64_inv (h 2 _ c rfl rfl)
  obtain ⟨n3, _, _, rfl⟩ := i64_inv (h 3 _ d rfl rfl)
  obtain ⟨n4, _, _, rfl⟩ := i64_inv (h 4 _ e rfl rfl)
  obtain ⟨n5, _, _, rfl⟩ := i64_inv (h 5 _ f rfl rfl)
  obtain ⟨n6, _, _, rfl⟩ := i32_inv (h 6 _ g rfl rfl)
  obtain ⟨n7, _, _, rfl⟩ := i64_inv (h 7 _ i rfl rfl)
  obtain ⟨n8, _, _, rfl⟩ := i64_inv (h 8 _ j rfl rfl)
  obtain ⟨n9, _, _, rfl⟩ := i64_inv (h 9 _ k rfl rfl)
  exact ⟨⟨n0, n1, n2, n3, n4, n5, n6, n7, n8, n9⟩, rfl⟩
abbrev ctHol : List CT := [.int .i32, .int .i32, .bool]
theorem hol_inv {e : PV} (h1 : e.cells.length = 3) (h2 : e = .agg e.cells) (h3 : ∀ (i : Nat) (c : CT) (p : PV), ctHol[i]? = some c → e.cells[i]? = some p → WT c p) : ∃ x : Hol, True ∧ e = x.pv := by
  match hc : e.cells, h1 with
  | [a, b, c], _ =>
    rw [hc] at h2 h3
    obtain ⟨n0, _, _, rfl⟩ := i32_inv (h3 0 _ a rfl rfl)
    obtain ⟨n1, _, _, rfl⟩ := i32_inv (h3 1 _ b rfl rfl)
    obtain ⟨n2, rfl⟩ := bool_inv (h3 2 _ c rfl rfl)
    exact ⟨⟨n0, n1, n2⟩, trivial, h2⟩
abbrev ctI3 : List CT := [.int .i64, .int .i64, .int .i64]
theorem TopMoved (x0 : List PV) (t0 : All2 WT ctO x0) (x1 : PV) (t1 : WT (.sl ctHol) x1) (x2 : List PV) (t2 : All2 WT ctI3 x2) : ev X E0 4 [.agg (x0.map .pv), .c (.pv x1), .agg (x2.map .pv)] [] = some (.b true, []) := by
  match x0, t0.1 with
  | [a, b, c, d, e, f, g, i, j, k], _ =>
  obtain ⟨x, hx⟩ := cellsO t0.2
  rw [hx]
  match x2, t2.1 with
  | [a2, b2, c2], _ =>
  obtain ⟨n0, _, _, rfl⟩ := i64_inv (t2.2 0 _ a2 rfl rfl)
  obtain ⟨n1, _, _, rfl⟩ := i64_inv (t2.2 1 _ b2 rfl rfl)
  obtain ⟨n2, _, _, rfl⟩ := i64_inv (t2.2 2 _ c2 rfl rfl)
  rcases sl_inv t1 with rfl | ⟨es, rfl, _, hs, hc⟩
  · exact ev_cc (TopMoved0 x [] .nil n0 n1 n2)
  · obtain ⟨l, _, rfl⟩ := list_of (f := Hol.pv) (Q := fun _ => True) fun e he => hol_inv (hs e he).1 ((hs e he).2.2 (by simp)) (hc e he)
    exact ev_cc (TopMoved0 x l .shut n0 n1 n2)
end Go.Sx.Tryd
