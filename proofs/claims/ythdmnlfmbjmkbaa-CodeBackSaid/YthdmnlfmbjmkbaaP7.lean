/- There and back: what is read of what was written. -/
import Derived.Test.YthdmnlfmbjmkbaaM7
namespace Go.Sx.Try
open Go Go.Sx
theorem ofNat_toNat {n : Nat} (h : n < 256) : (UInt8.ofNat n).toNat = n := by simp [UInt8.toNat_ofNat', Nat.mod_eq_of_lt h]
theorem vr_vb (n : Nat) : ∀ (i u : Nat) (r : List UInt8), i ≤ 9 → n * 128 ^ i < 18446744073709551616 → (i = 0 ∨ n ≠ 0) → vr (vb n ++ r) i u = (u + n * 128 ^ i, i + (vb n).length, 0) := by
  induction n using Nat.strongRecOn with
  | ind n ih =>
    intro i u r hi hn h0
    by_cases h9 : i = 9 ∧ 1 < n
    · obtain ⟨rfl, h1⟩ := h9
      have : 2 * 128 ^ 9 ≤ n * 128 ^ 9 := Nat.mul_le_mul_right _ h1
      omega
    · by_cases h : n < 128
      · rw [vb, if_pos h, List.singleton_append]
        simp only [vr, ofNat_toNat (show n < 256 by omega)]
        rw [if_neg (by omega), if_pos h]; rfl
      · have hi8 : i ≤ 8 := by omega
        have hq : n / 128 * 128 ^ (i + 1) ≤ n * 128 ^ i := by
          rw [Nat.pow_succ, Nat.mul_comm (128 ^ i) 128, ← Nat.mul_assoc]
          exact Nat.mul_le_mul_right _ (Nat.div_mul_le_self n 128)
        rw [vb, if_neg h, List.cons_append]
        simp only [vr, ofNat_toNat (show n % 128 + 128 < 256 by omega)]
        rw [if_neg (by omega), if_neg (by omega), ih (n / 128) (by omega) (i + 1) _ r (by omega) (by omega) (by omega)]
        have e : u + (n % 128 + 128) % 128 * 128 ^ i + n / 128 * 128 ^ (i + 1) = u + n * 128 ^ i := by
          have e1 : (n % 128 + 128) % 128 = n % 128 := by omega
          have e2 : n * 128 ^ i = (n % 128 + 128 * (n / 128)) * 128 ^ i := by rw [Nat.mod_add_div]
          rw [e1, e2, Nat.add_mul, Nat.pow_succ, Nat.mul_comm 128 (n / 128), Nat.mul_assoc (n / 128) 128, Nat.mul_comm 128 (128 ^ i), Nat.add_assoc]
        rw [e, List.length_cons, show i + 1 + (vb (n / 128)).length = i + ((vb (n / 128)).length + 1) by omega]
theorem vr_take : ∀ (b : List UInt8) (i u : Nat), i ≤ 9 → (vr b i u).2.2 = 0 → ∃ k, (vr b i u).1 = u + k * 128 ^ i ∧ (i = 0 ∨ k ≠ 0) ∧ b.take ((vr b i u).2.1 - i) = vb k
  | [], i, u, _, h => by simp [vr] at h
  | c :: r, i, u, hi, h => by
    have hc := c.toNat_lt
    simp only [vr] at h ⊢
    by_cases h1 : (i = 9 ∧ 1 < c.toNat) ∨ (0 < i ∧ c.toNat = 0)
    · rw [if_pos h1] at h; simp at h
    · rw [if_neg h1] at h ⊢
      by_cases h2 : c.toNat < 128
      · rw [if_pos h2] at h ⊢
        refine ⟨c.toNat, rfl, by omega, ?_⟩
        rw [vb, if_pos h2, show i + 1 - i = 1 by omega]
        simp
      · rw [if_neg h2] at h ⊢
        obtain ⟨k, e1, e2, e3⟩ := vr_take r (i + 1) (u + c.toNat % 128 * 128 ^ i) (by omega) h
        have hn := vr_n r (i + 1) (u + c.toNat % 128 * 128 ^ i) h
        refine ⟨c.toNat % 128 + 128 * k, ?_, by omega, ?_⟩
        · rw [e1, Nat.add_mul, Nat.pow_succ, Nat.mul_comm (128 ^ i) 128, ← Nat.mul_assoc, Nat.mul_comm k 128, Nat.add_assoc]
        · generalize (vr r (i + 1) (u + c.toNat % 128 * 128 ^ i)).2.1 = n at e3 hn
          rw [vb, if_neg (by omega), show n - i = (n - (i + 1)) + 1 by omega, List.take_succ_cons, e3, show (c.toNat % 128 + 128 * k) / 128 = k by omega,
            show (c.toNat % 128 + 128 * k) % 128 + 128 = c.toNat by omega]
          simp
theorem v_vb {n : Nat} (hn : n < 18446744073709551616) (r : List UInt8) : vU (vb n ++ r) = n ∧ vN (vb n ++ r) = (vb n).length ∧ vE (vb n ++ r) = 0 := by
  have := vr_vb n 0 0 r (by omega) (by omega) (Or.inl rfl)
  unfold vU vN vE
  rw [this]
  simp
theorem v_take {b : List UInt8} (h : vE b = 0) : b.take (vN b) = vb (vU b) := by
  obtain ⟨k, e1, _, e3⟩ := vr_take b 0 0 (by omega) h
  have : vU b = k := by unfold vU; rw [e1]; simp
  rw [this, ← e3]; rfl
theorem vr_pre (n : Nat) : ∀ (i u : Nat), i ≤ 9 → n * 128 ^ i < 18446744073709551616 → (vr (vpre n) i u).2.2 = 2 := by
  induction n using Nat.strongRecOn with
  | ind n ih =>
    intro i u hi hn
    rw [vpre]
    by_cases h : n < 128
    · rw [if_pos h]; rfl
    · rw [if_neg h]
      have h9 : i ≠ 9 := by
        intro h9; subst h9
        have : 2 * 128 ^ 9 ≤ n * 128 ^ 9 := Nat.mul_le_mul_right _ (by omega)
        omega
      have hq : n / 128 * 128 ^ (i + 1) ≤ n * 128 ^ i := by
        rw [Nat.pow_succ, Nat.mul_comm (128 ^ i) 128, ← Nat.mul_assoc]
        exact Nat.mul_le_mul_right _ (Nat.div_mul_le_self n 128)
      simp only [vr, ofNat_toNat (show n % 128 + 128 < 256 by omega)]
      rw [if_neg (by omega), if_neg (by omega)]
      exact ih (n / 128) (by omega) (i + 1) _ (by omega) (by omega)
theorem v_pre {n : Nat} (hn : n < 18446744073709551616) : vE (vpre n) = 2 := vr_pre n 0 0 (by omega) (by omega)
theorem vb_dropLast (n : Nat) : (vb n).dropLast = vpre n := by rw [vb_eq]; simp
theorem sgn_zz {n : Int} : sgn (zz n) = n := by
  unfold sgn zz
  by_cases h : 0 ≤ n
  · rw [if_pos h, if_pos (by omega)]; omega
  · rw [if_neg h, if_neg (by omega)]; omega
theorem zz_sgn (u : Nat) : zz (sgn u) = u := by
  unfold sgn zz
  by_cases h : u % 2 = 0
  · rw [if_pos h, if_pos (by omega)]; omega
  · rw [if_neg h, if_neg (by omega)]; omega
theorem qV_vb {n : Nat} (hn : n < 18446744073709551616) (r : List UInt8) : qV (vb n ++ r) = ⟨n, (vb n).length, 0⟩ := by
  obtain ⟨h1, h2, h3⟩ := v_vb hn r
  unfold qV; rw [h1, h2, h3]
theorem qT_tb {s : List UInt8} {m : Int} (hm : (s.length : Int) ≤ m) (hs : s.length < 18446744073709551616) (r : List UInt8) : qT m (tb s ++ r) = ⟨s, (tb s).length, 0⟩ := by
  obtain ⟨h1, h2, h3⟩ := v_vb hs (s ++ r)
  unfold qT tb
  rw [List.append_assoc, h1, h2, h3]
  rw [if_neg (by simp), if_neg (by omega), if_neg (by simp only [List.length_append]; omega)]
  simp
theorem bb_eq (x : Bool) : bb x = [if x then 1 else 0] := by
  unfold bb
  cases x <;> rw [vb] <;> rfl
theorem qB_bb (x : Bool) (r : List UInt8) : qB (bb x ++ r) = ⟨x, 1, 0⟩ := by
  rw [bb_eq]
  cases x <;> rfl
theorem qM_mb {c m : Int} (h0 : 0 ≤ c) (h3 : c ≤ 3) (m0 : -1000000000000000 ≤ m) (m1 : m ≤ 1000000000000000) (r : List UInt8) : qM (mb c m ++ r) = ⟨(c, m), (mb c m).length, 0⟩ := by
  obtain ⟨h1, h2, h4⟩ := v_vb (zz_lt (n := c) (by omega) (by omega)) (vb (zz m) ++ r)
  obtain ⟨g1, g2, g3⟩ := v_vb (zz_lt (n := m) (by omega) (by omega)) r
  unfold qM mb
  rw [List.append_assoc, h1, h2, h4]
  rw [List.drop_left, g1, g2, g3, sgn_zz, sgn_zz]
  rw [if_neg (by simp), if_neg (by simp), if_neg (by omega), if_neg (by omega), List.length_append]
/-! ### With a byte less -/
theorem qV_pre {n : Nat} (hn : n < 18446744073709551616) : (qV (vb n).dropLast).e = 2 := by rw [vb_dropLast]; exact v_pre hn
theorem qT_pre {s : List UInt8} {m : Int} (hm : (s.length : Int) ≤ m) (hs : s.length < 18446744073709551616) : (qT m (tb s).dropLast).e = 2 := by
  unfold tb
  by_cases h : s = []
  · subst h
    rw [List.append_nil, vb_dropLast]
    unfold qT
    rw [if_pos (by rw [v_pre hs]; decide)]
    exact v_pre hs
  · rw [List.dropLast_append_of_ne_nil h]
    obtain ⟨h1, h2, h3⟩ := v_vb hs s.dropLast
    have hl : 0 < s.length := List.length_pos_iff.2 h
    unfold qT
    rw [h1, h2, h3, if_neg (by simp), if_neg (by omega), if_pos (by simp only [List.length_append, List.length_dropLast]; omega)]
theorem qB_pre (x : Bool) : (qB (bb x).dropLast).e = 2 := by rw [bb_eq]; rfl
theorem qM_pre {c m : Int} (c0 : -9223372036854775808 ≤ c) (c1 : c ≤ 9223372036854775807) (m0 : -9223372036854775808 ≤ m) (m1 : m ≤ 9223372036854775807) : (qM (mb c m).dropLast).e = 2 := by
  have hne : vb (zz m) ≠ [] := by have := vb_pos (zz m); intro h; rw [h] at this; simp at this
  unfold mb
  rw [List.dropLast_append_of_ne_nil hne, vb_dropLast]
  obtain ⟨h1, h2, h3⟩ := v_vb (zz_lt c0 c1) (vpre (zz m))
  have hp := v_pre (zz_lt m0 m1)
  unfold qM
  rw [h1, h2, h3, List.drop_left, hp, if_neg (by simp), if_pos (by decide)]
/-! ### One way -/
theorem qV_take {b : List UInt8} (h : (qV b).e = 0) : b.take (qV b).n = vb (qV b).v := v_take h
theorem qT_take {m : Int} {b : List UInt8} (h : (qT m b).e = 0) : b.take (qT m b).n = tb (qT m b).v := by
  have hn := qT_n h
  unfold qT at h hn ⊢
  by_cases he : vE b = 0
  · have := vN_le he
    rw [if_neg (by simp [he])] at h hn ⊢
    by_cases h1 : m < (vU b : Int)
    · simp [h1] at h
    · rw [if_neg h1] at h hn ⊢
      by_cases h2 : b.length - vN b < vU b
      · simp [h2] at h
      · rw [if_neg h2] at hn ⊢
        unfold tb
        have hl : ((b.drop (vN b)).take (vU b)).length = vU b := by rw [List.length_take, List.length_drop]; omega
        simp only
        rw [hl, ← v_take he, List.take_add]
  · rw [if_pos he] at h; exact absurd h he
theorem qB_take {b : List UInt8} (h : (qB b).e = 0) : b.take (qB b).n = bb (qB b).v := by
  cases b with
  | nil => simp [qB] at h
  | cons c r =>
    unfold qB at h ⊢
    simp only at h ⊢
    by_cases hc : c.toNat > 1
    · rw [if_pos hc] at h; simp at h
    · rw [if_neg hc, bb_eq]
      have : c = 0 ∨ c = 1 := by
        have h01 : c.toNat = 0 ∨ c.toNat = 1 := by omega
        rcases h01 with h | h
        · left; exact UInt8.toNat.inj h
        · right; exact UInt8.toNat.inj h
      rcases this with rfl | rfl <;> rfl
theorem qM_take {b : List UInt8} (h : (qM b).e = 0) : b.take (qM b).n = mb (qM b).v.1 (qM b).v.2 ∧ (0 ≤ (qM b).v.1 ∧ (qM b).v.1 ≤ 3) ∧ -1000000000000000 ≤ (qM b).v.2 ∧ (qM b).v.2 ≤ 1000000000000000 := by
  unfold qM at h ⊢
  by_cases he : vE b = 0
  · rw [if_neg (fun h => h he)] at h ⊢
    by_cases he2 : vE (b.drop (vN b)) = 0
    · rw [if_neg (fun h => h he2)] at h ⊢
      by_cases c1 : sgn (vU b) < 0 ∨ 3 < sgn (vU b)
      · rw [if_pos c1] at h; simp at h
      · rw [if_neg c1] at h ⊢
        by_cases c2 : sgn (vU (b.drop (vN b))) < -1000000000000000 ∨ 1000000000000000 < sgn (vU (b.drop (vN b)))
        · rw [if_pos c2] at h; simp at h
        · rw [if_neg c2]
          unfold mb
          simp only
          rw [zz_sgn, zz_sgn, ← v_take he, ← v_take he2, List.take_add]
          exact ⟨rfl, by omega, by omega, by omega⟩
    · rw [if_pos he2] at h; exact absurd h he2
  · rw [if_pos he] at h; exact absurd h he
end Go.Sx.Try
