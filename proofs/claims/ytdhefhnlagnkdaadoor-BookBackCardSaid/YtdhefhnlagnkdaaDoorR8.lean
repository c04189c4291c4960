/- The statement BookBack, of the evaluator: the whole. -/
import Derived.Test.YtdhefhnlagnkdaaDoorW8
namespace Go.Sx.Tryd
open Go Go.Sx
theorem step_nil (w : Int) : stepB [] w = [] := rfl
theorem fold_nil : ∀ ws : List Int, ws.foldl stepB [] = []
  | [] => rfl
  | w :: ws => by rw [List.foldl_cons, step_nil]; exact fold_nil ws
theorem a8 {acc cur v : Int} {wo : SO} {ws : List Int} (hws : szOk 1 (CV.pv (PV.sl wo 1 (List.map u8P ws))) = true) (hwl : ws.length ≤ 60) (hw0 : ∀ w ∈ ws, 0 ≤ w ∧ w ≤ 255) : ∀ (q pre : List Int) (b : List Post) (n : Nat), ws = pre ++ q → Built b n → n + q.length ≤ 299 →
    lv (cv (ev X E0) xf8_l1) (rl [2, 0, 0, 6, 31, 0, 0]) 1 (S8 acc cur v wo ws (pre.length : Nat) (bo b) (bz b) b) = some (XExit.exit 0, Eb acc cur v (q.foldl stepB b))
  | [], pre, b, n, e, hb, hn => by
    rw [List.append_nil] at e
    rw [← e]
    exact l8_2 acc cur v wo ws hws ws.length (bo b) (bz b) b (b_sz b) (by simp)
  | w :: q, pre, b, n, e, hb, hn => by
    have hl : ws.length = pre.length + q.length + 1 := by rw [e]; simp; omega
    have hat : ws[pre.length]? = some w := by rw [e]; simp
    by_cases hne : b = []
    · subst hne
      have st := l8_1 acc cur v wo ws hws pre.length (bo []) (bz []) [] (b_sz []) w (ltw (by omega)) hat (by simp)
      rw [List.foldl_cons, step_nil, fold_nil]
      exact st
    · have st := a8s (acc := acc) (cur := cur) (v := v) hws (by omega) hat (hw0 w (by rw [e]; simp)) hb (by simp at hn; omega) hne
      have ih := a8 (acc := acc) (cur := cur) (v := v) hws hwl hw0 q (pre ++ [w]) (stepB b w) (n + 1) (by rw [e]; simp) (step_built hb w) (by simp at hn; omega)
      rw [List.length_append, List.length_singleton, Int.natCast_add, Int.natCast_one] at ih
      rw [List.foldl_cons]
      exact st.trans ih
theorem fold_b : ∀ (ws : List Int) {b : List Post} {n : Nat}, Built b n → Built (ws.foldl stepB b) (n + ws.length)
  | [], b, n, h => h
  | w :: ws, b, n, h => by
    have := fold_b ws (step_built h w)
    rw [List.foldl_cons, List.length_cons, show n + (ws.length + 1) = n + 1 + ws.length by omega]
    exact this
abbrev Es (acc cur v : Int) (b st : List Post) (x : CV) : St := St.mk (tmOf 202 [(2, AV.c (CV.pv (PV.int .i64 acc))), (3, AV.c (CV.pv (PV.int .u8 cur))), (4, AV.c (CV.pv (PV.int .i32 v))), (11, AV.c (CV.ptr 0 0)), (24, AV.c (CV.pv (PV.int .i64 0))), (25, AV.c x)]) [Box.cells [slA (bo b) (bz b) b]]
theorem id_at {b st : List Post} (hR : rightB b = true) (hs : ∀ p ∈ st, p ∈ b) (hlen : b.length ≤ 1000) {p : Post} (hp : p ∈ st) : b[Int.toNat (IntKind.wrap .i64 (p.id - 1))]? = some p ∧ 1 ≤ p.id ∧ p.id ≤ b.length := by
  have hb := hs p hp
  have hm := right_mem hR hb
  obtain ⟨i, hi⟩ := List.mem_iff_getElem?.1 hb
  have hid := right_id hR hi
  refine ⟨?_, hm.1, hm.2.1⟩
  rw [wi64 (by omega) (by omega), show (p.id - 1).toNat = i by omega]
  exact hi
theorem a82 {acc cur v : Int} {b st : List Post} (hR : rightB b = true) (hs : ∀ p ∈ st, p ∈ b) (hlen : b.length ≤ 1000) (hsl : st.length ≤ 1000) : ∀ (q pre : List Post), st = pre ++ q →
    lv (cv (ev X E0) xf8_l2) (rl [2, 0, 0, 6, 12, 0, 112, 0, 0]) 1 (S82 acc cur v (bo b) (bz b) b 0 (CV.own 10367 7 (pre.map Post.pv)) (PV.sl .shut 1 (List.map i64P (st.map Post.id))) (↑(List.length (List.map i64P (st.map Post.id))) : Int) (pre.length : Nat)) = some (XExit.exit 4, Es acc cur v b st (CV.own 10367 7 (st.map Post.pv)))
  | [], pre, e => by
    rw [List.append_nil] at e
    rw [← e]
    exact l82x_1 acc cur v (bo b) (bz b) b 0 (st.map Post.id) st.length 10367 _ (by simp)
  | p :: q, pre, e => by
    have hl : st.length = pre.length + q.length + 1 := by rw [e]; simp; omega
    have hat : (st.map Post.id)[pre.length]? = some p.id := by rw [e]; simp
    obtain ⟨h1, h2, h3⟩ := id_at hR hs hlen (p := p) (by rw [e]; simp)
    have s1 := l82_3 acc cur v (bo b) (bz b) b (b_sz b) 0 (st.map Post.id) pre.length p p.id hat h1 10367 (pre.map Post.pv) (by simp only [List.length_map]; omega) (by omega) (by rw [List.length_map]; omega) (by rw [wi64 (by omega) (by omega)]; omega) (by simp only [List.length_map, List.length_singleton]; omega)
    have ih := a82 (acc := acc) (cur := cur) (v := v) hR hs hlen hsl q (pre ++ [p]) (by rw [e]; simp)
    rw [List.length_append, List.length_singleton, Int.natCast_add, Int.natCast_one, List.map_append] at ih
    rw [wi64 (n := ((pre.length : Nat) : Int) + 1) (by omega) (by omega)] at s1
    exact s1.trans ih
theorem BookBack0 (l : List Post) (o wo : SO) (ws : List Int) (acc cur v : Int) (hcur : 0 ≤ cur ∧ cur ≤ 255) (hws : szOk 1 (CV.pv (PV.sl wo 1 (List.map u8P ws))) = true) (hw0 : ∀ w ∈ ws, 0 ≤ w ∧ w ≤ 255) (hwl : ∀ p ∈ l, p.so = .nil → p.legs = []) :
    cc (ev X E0) 8 [AV.sl o 7 (l.map Post.pv), AV.sl wo 1 (List.map u8P ws), AV.i acc, AV.int .u8 cur, AV.int .i32 v] [] = some (.b true, []) := by
  have h15 := s15 l o
  cases hb : fitsAll l with
  | false => rw [hb] at h15; exact f8x_1 l o wo ws acc cur v h15 alive
  | true =>
  rw [hb] at h15
  by_cases hw : (((ws.map u8P).length : Nat) : Int) > 60
  · exact f8y_1 l o wo ws acc cur v h15 alive hw
  have hwn : ws.length ≤ 60 := by rw [List.length_map] at hw; omega
  obtain ⟨hl, hfa⟩ := fits_fair hb
  have hN : ∀ p ∈ l, Nice p := fun p hp => by
    have h := (hfa p hp).1
    simp only [fits, decide_eq_true_eq] at h
    exact ⟨by omega, by omega, hwl p hp⟩
  have hB0 := made_built hN
  have h36 := s36 (o := o) (by omega) hN
  have hl1 := a8 (acc := acc) (cur := cur) (v := v) hws hwn hw0 ws [] (made l) l.length rfl hB0 (by omega)
  have hB := fold_b ws hB0
  generalize hbb : ws.foldl stepB (made l) = b at hl1 hB
  have hlen := hB.len
  have hblen : b.length ≤ 200 := by omega
  have hc : cOf cur = cur % 4 := by
    unfold cOf
    rw [Int.tmod_eq_emod_of_nonneg hcur.1, wi64 (by omega) (by omega)]
  have hc0 : 0 ≤ cOf cur ∧ cOf cur < 4 := by rw [hc]; omega
  have hchk : ∀ p ∈ b, chk p = 0 := fun p hp => (right_mem hB.right hp).2.2.2.2
  have h33 := s33 (b_sz b) acc (cOf cur) v (by omega) hchk hB.nice
  rw [if_neg (by omega), if_neg (by omega)] at h33
  have h24 := s24 (b_sz b) b_nil (by omega) hB.nice
  rw [show pickE b = 0 by unfold pickE; rw [if_pos hB.right], show pickR b (stands b) = b.filter (stands b) by unfold pickR; rw [if_pos hB.right]] at h24
  have hsum := stand_sum acc (cOf cur) v b hB.right
  have hsub : ∀ p ∈ b.filter (stands b), p ∈ b := fun p hp => (List.mem_filter.1 hp).1
  have hsl : (b.filter (stands b)).length ≤ b.length := List.length_filter_le _ _
  have hdc : ∀ p ∈ b.filter (stands b), chk p = 0 := fun p hp => hchk p (hsub p hp)
  have hdN : ∀ p ∈ b.filter (stands b), Nice p := fun p hp => hB.nice p (hsub p hp)
  generalize b.filter (stands b) = st at h24 hsum hsub hsl hdc hdN
  have fin : ∀ n : Int, (n == n) = true := fun n => beq_self_eq_true n
  by_cases hst : st = []
  · subst hst
    have h3 := s33 (l := []) (o := .full) (s := 7) rfl acc (cOf cur) v (by simp) (by simp) (by simp)
    rw [if_neg (by omega), if_neg (by omega), hsum] at h3
    have hl2 := l82n_1 acc cur v (bo b) (bz b) b 0
    have := f8n_1 l o wo ws acc cur v h15 alive hw _ _ _ _ _ _ _ h36 hl1 h33 h24 hl2 h3
    rw [fin] at this; exact this
  · obtain ⟨p, q, e⟩ : ∃ p q, st = p :: q := by
      cases st with
      | nil => exact absurd rfl hst
      | cons p q => exact ⟨p, q, rfl⟩
    have h24' : cs (ev X E0) 24 [Bk (bo b) (bz b) b] = some (.tup [.c (CV.pv (PV.sl .shut 1 (List.map i64P (st.map Post.id)))), .i 0]) := by
      have : idsP st = PV.sl .shut 1 (List.map i64P (st.map Post.id)) := by
        unfold idsP
        rw [e, List.map_map]; rfl
      rw [← this]; exact h24
    have h3 := s33 (l := st) (o := .shut) (s := 7) rfl acc (cOf cur) v (by omega) hdc hdN
    rw [if_neg (by omega), if_neg (by omega), hsum] at h3
    have hat : (st.map Post.id)[0]? = some p.id := by rw [e]; rfl
    obtain ⟨h1, h2, h4⟩ := id_at hB.right hsub (by omega) (p := p) (by rw [e]; simp)
    have s1 := l82a_3 acc cur v (bo b) (bz b) b (b_sz b) 0 (st.map Post.id) 0 p p.id hat h1 (by rw [e]; simp) (by omega) (by rw [List.length_map]; omega) (by rw [wi64 (by omega) (by omega)]; omega) (by rw [List.length_singleton]; decide)
    rw [wi64 (n := ((0 : Nat) : Int) + 1) (by omega) (by omega)] at s1
    have s2 := a82 (acc := acc) (cur := cur) (v := v) hB.right hsub (by omega) (by omega) q [p] (by rw [e]; rfl)
    have hl2 := s1.trans s2
    have := f8o_1 l o wo ws acc cur v h15 alive hw _ _ _ _ _ _ _ h36 hl1 h33 _ _ h24' hl2 h3
    rw [fin] at this; exact this
theorem bytes_inv {x : PV} (h : WT (.sl [.int .u8]) x) : ∃ (o : SO) (ws : List Int), x = .sl o 1 (List.map u8P ws) ∧ ∀ w ∈ ws, 0 ≤ w ∧ w ≤ 255 := by
  rcases sl_inv h with rfl | ⟨es, rfl, _, hs, hc⟩
  · exact ⟨.nil, [], rfl, by simp⟩
  · obtain ⟨l, hl, rfl⟩ := list_of (f := u8P) (Q := fun w => 0 ≤ w ∧ w ≤ 255) (es := es) fun e he => by
      have hf := (hs e he).2.1 rfl
      have ht := hc e he 0 (.int .u8) e rfl (by cases e <;> first | rfl | (simp [PV.flat] at hf))
      obtain ⟨n, h1, h2, rfl⟩ := u8_inv ht
      exact ⟨n, ⟨h1, h2⟩, rfl⟩
    exact ⟨.shut, l, rfl, hl⟩
theorem BookBack (x0 : PV) (t0 : WT (.sl ctP) x0) (x1 : PV) (t1 : WT (.sl [.int .u8]) x1) (x2 : PV) (t2 : WT (.int .i64) x2) (x3 : PV) (t3 : WT (.int .u8) x3) (x4 : PV) (t4 : WT (.int .i32) x4) : ev X E0 8 [.c (.pv x0), .c (.pv x1), .c (.pv x2), .c (.pv x3), .c (.pv x4)] [] = some (.b true, []) := by
  obtain ⟨o, l, rfl, hl, _⟩ := posts_inv t0
  obtain ⟨wo, ws, rfl, hw⟩ := bytes_inv t1
  obtain ⟨acc, _, _, rfl⟩ := i64_inv t2
  obtain ⟨cur, c1, c2, rfl⟩ := u8_inv t3
  obtain ⟨v, _, _, rfl⟩ := i32_inv t4
  exact ev_cc (BookBack0 l o wo ws acc cur v ⟨c1, c2⟩ (by simp [szOk]) hw fun p hp => (hl p hp).so)
end Go.Sx.Tryd
