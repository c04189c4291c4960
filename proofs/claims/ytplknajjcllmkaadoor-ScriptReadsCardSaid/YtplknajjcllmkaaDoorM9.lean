/- The program's reader of code: its methods. -/
import Derived.Test.YtplknajjcllmkaaDoorQ9
namespace Go.Sx.Tryd
open Go Go.Sx
theorem step_f {α : Type} {z : α} {q : List UInt8 → Got α} {b : List UInt8} {f : Int} (h : ¬ f = 0) : step z q b f = (z, b, f) := by simp [step, h]
theorem step_e {α : Type} {z : α} {q : List UInt8 → Got α} {b : List UInt8} (h : ¬ (q b).e = 0) : step z q b 0 = (z, b, (q b).e) := by simp [step, h]
theorem step_ok {α : Type} {z : α} {q : List UInt8 → Got α} {b : List UInt8} (h : (q b).e = 0) : step z q b 0 = ((q b).v, b.drop (q b).n, 0) := by simp [step, h]
theorem qT_n {m : Int} {b : List UInt8} (h : (qT m b).e = 0) : (qT m b).n ≤ b.length := by
  unfold qT at h ⊢
  by_cases he : vE b = 0
  · have := vN_le he
    rw [if_neg (by simp [he])] at h ⊢
    by_cases h1 : m < (vU b : Int)
    · simp [h1] at h
    · rw [if_neg h1] at h ⊢
      by_cases h2 : b.length - vN b < vU b
      · simp [h2] at h
      · rw [if_neg h2]; simp only; omega
  · rw [if_pos he] at h; exact absurd h he
theorem qB_n {b : List UInt8} (h : (qB b).e = 0) : (qB b).n ≤ b.length := by
  cases b with
  | nil => simp [qB] at h
  | cons c r =>
    unfold qB at h ⊢
    simp only at h ⊢
    split at h
    · simp at h
    · rename_i hc; rw [if_neg hc]; simp
theorem qM_n {b : List UInt8} (h : (qM b).e = 0) : (qM b).n ≤ b.length := by
  unfold qM at h ⊢
  by_cases he : vE b = 0
  · have := vN_le he
    rw [if_neg (by simp [he])] at h ⊢
    by_cases he2 : vE (b.drop (vN b)) = 0
    · have hn := vN_le he2
      rw [List.length_drop] at hn
      rw [if_neg (by simp [he2])] at h ⊢
      split
      · simp only; omega
      · split
        · simp only; omega
        · simp only; omega
    · rw [if_pos he2] at h; exact absurd h he2
  · rw [if_pos he] at h; exact absurd h he
theorem tkS (b : List UInt8) (f : Int) (hb : b.length ≤ 1000000) : cc (ev X E0) 122 [AV.c (.ptr 0 0), AV.c (.fn 123 [])] [Box.cells [.pv (.str b), .pv (.int .i64 f)]] =
    some (AV.c (CV.pv (.int .u64 (step 0 qV b f).1)), [Box.cells [.pv (.str (step 0 qV b f).2.1), .pv (.int .i64 (step 0 qV b f).2.2)]]) := by
  by_cases hf : f = 0
  · subst hf
    by_cases he : vE b = 0
    · rw [step_ok (q := qV) he]; exact tk_3 b 0 rfl hb he (by have := vN_le he; omega)
    · rw [step_e (q := qV) he]; exact tk_2 b 0 rfl hb he
  · rw [step_f hf]; exact tk_1 b f hf
theorem qC_e (m : Int) (b : List UInt8) : (qC m b).e = cE m b := by unfold qC cE; split <;> (try rfl); split <;> rfl
theorem tcS (b : List UInt8) (f m : Int) (hb : b.length ≤ 1000000) (hm : m ≤ 9223372036854775807) : cc (ev X E0) 125 [AV.c (.ptr 0 0), AV.c (.fn 126 [1])] [Box.cells [.pv (.str b), .pv (.int .i64 f)], Box.cells [.pv (.int .i64 m)]] =
    some (AV.c (CV.pv (.int .i64 (step 0 (qC m) b f).1)), [Box.cells [.pv (.str (step 0 (qC m) b f).2.1), .pv (.int .i64 (step 0 (qC m) b f).2.2)], Box.cells [.pv (.int .i64 m)]]) := by
  by_cases hf : f = 0
  · subst hf
    have hq := qC_e m b
    by_cases he : cE m b = 0
    · have hv : vE b = 0 := by unfold cE at he; split at he <;> simp_all
      have hl : ¬ m < (vU b : Int) := by intro h; simp [cE, hv, h] at he
      have hq' : qC m b = ⟨vU b, vN b, 0⟩ := by unfold qC; rw [if_neg (by simp [hv]), if_neg hl]
      rw [step_ok (by rw [hq']), hq']
      have := tc_3 b 0 m rfl hb hm he (by have := vN_le hv; omega)
      rw [wi64 (by omega) (by omega)] at this
      exact this
    · rw [step_e (by rw [hq]; exact he), hq]; exact tc_2 b 0 m rfl hb hm he
  · rw [step_f hf]; exact tc_1 b f m hf
theorem txS (b : List UInt8) (f m : Int) (hb : b.length ≤ 1000000) (hm : m ≤ 9223372036854775807) : cc (ev X E0) 132 [AV.c (.ptr 0 0), AV.c (.fn 133 [1])] [Box.cells [.pv (.str b), .pv (.int .i64 f)], Box.cells [.pv (.int .i64 m)]] =
    some (AV.c (CV.pv (.str (step [] (qT m) b f).1)), [Box.cells [.pv (.str (step [] (qT m) b f).2.1), .pv (.int .i64 (step [] (qT m) b f).2.2)], Box.cells [.pv (.int .i64 m)]]) := by
  by_cases hf : f = 0
  · subst hf
    by_cases he : (qT m b).e = 0
    · rw [step_ok he]; exact tx_3 b 0 m rfl hb hm he (by have := qT_n he; omega)
    · rw [step_e he]; exact tx_2 b 0 m rfl hb hm he
  · rw [step_f hf]; exact tx_1 b f m hf
theorem tbS (b : List UInt8) (f : Int) : cc (ev X E0) 130 [AV.c (.ptr 0 0), AV.c (.fn 131 [])] [Box.cells [.pv (.str b), .pv (.int .i64 f)]] =
    some (AV.c (CV.pv (.bool (step false qB b f).1)), [Box.cells [.pv (.str (step false qB b f).2.1), .pv (.int .i64 (step false qB b f).2.2)]]) := by
  by_cases hf : f = 0
  · subst hf
    by_cases he : (qB b).e = 0
    · rw [step_ok he]; exact tb_3 b 0 rfl he (by have := qB_n he; omega)
    · rw [step_e he]; exact tb_2 b 0 rfl he
  · rw [step_f hf]; exact tb_1 b f hf
theorem tmS (b : List UInt8) (f : Int) (hb : b.length ≤ 1000000) : cc (ev X E0) 127 [AV.c (.ptr 0 0), AV.c (.fn 128 [])] [Box.cells [.pv (.str b), .pv (.int .i64 f)]] =
    some (AV.agg [.pv (.int .i64 (step (0, 0) qM b f).1.1), .pv (.int .i64 (step (0, 0) qM b f).1.2)], [Box.cells [.pv (.str (step (0, 0) qM b f).2.1), .pv (.int .i64 (step (0, 0) qM b f).2.2)]]) := by
  by_cases hf : f = 0
  · subst hf
    by_cases he : (qM b).e = 0
    · rw [step_ok he]; exact tm_3 b 0 rfl hb he (by have := qM_n he; omega)
    · rw [step_e he]; exact tm_2 b 0 rfl hb he
  · rw [step_f hf]; exact tm_1 b f hf
theorem step_v_lt (b : List UInt8) (f : Int) : (step 0 qV b f).1 < 18446744073709551616 := by
  unfold step
  split
  · simp
  · split
    · simp
    · exact vU_lt b
theorem RV_1 (b : List UInt8) (f : Int) (g1 : List.length b ≤ 1000000) :
    cc (ev X E0) 88 [AV.c (.ptr 0 0)] [.cells [.pv (.str b), vi f]] = some (AV.c (.pv (.int .u64 (↑(Prod.fst (step 0 qV b f)) : Int))), [.cells [.pv (.str (Prod.fst (Prod.snd (step 0 qV b f)))), vi (Prod.snd (Prod.snd (step 0 qV b f)))]]) :=
  cc_path (x := xf88) rfl [.call (AV.c (.pv (.int .u64 (↑(Prod.fst (step 0 qV b f)) : Int)))) [.cells [.pv (.str (Prod.fst (Prod.snd (step 0 qV b f)))), vi (Prod.snd (Prod.snd (step 0 qV b f)))]]]
    (c := [cc (ev X E0) 122 [AV.c (.ptr 0 0), AV.c (.fn 123 [])] [.cells [.pv (.str b), vi f]] = some (AV.c (.pv (.int .u64 (↑(Prod.fst (step 0 qV b f)) : Int))), [.cells [.pv (.str (Prod.fst (Prod.snd (step 0 qV b f)))), vi (Prod.snd (Prod.snd (step 0 qV b f)))]])]) (by kernel_rfl)
    ⟨(tkS _ _ g1), trivial⟩
theorem RZ_1 (b : List UInt8) (f : Int) (g1 : List.length b ≤ 1000000) (g2 : 0 ≤ (↑(Prod.fst (step 0 qV b f)) : Int)) (g3 : (↑(Prod.fst (step 0 qV b f)) : Int) < 18446744073709551616) :
    cc (ev X E0) 124 [AV.c (.ptr 0 0)] [.cells [.pv (.str b), vi f]] = some (AV.c (vi (sgn (Prod.fst (step 0 qV b f)))), [.cells [.pv (.str (Prod.fst (Prod.snd (step 0 qV b f)))), vi (Prod.snd (Prod.snd (step 0 qV b f)))]]) :=
  cc_path (x := xf124) rfl [.call (AV.c (.pv (.int .u64 (↑(Prod.fst (step 0 qV b f)) : Int)))) [.cells [.pv (.str (Prod.fst (Prod.snd (step 0 qV b f)))), vi (Prod.snd (Prod.snd (step 0 qV b f)))]], .call (AV.c (vi (sgn (Prod.fst (step 0 qV b f))))) []]
    (c := [cc (ev X E0) 122 [AV.c (.ptr 0 0), AV.c (.fn 123 [])] [.cells [.pv (.str b), vi f]] = some (AV.c (.pv (.int .u64 (↑(Prod.fst (step 0 qV b f)) : Int))), [.cells [.pv (.str (Prod.fst (Prod.snd (step 0 qV b f)))), vi (Prod.snd (Prod.snd (step 0 qV b f)))]]), cc (ev X E0) 129 [AV.c (.pv (.int .u64 (↑(Prod.fst (step 0 qV b f)) : Int)))] [] = some (AV.c (vi (sgn (Prod.fst (step 0 qV b f)))), [])]) (by kernel_rfl)
    ⟨(tkS _ _ g1), (signed _ g2 g3), trivial⟩
theorem RT_1 (b : List UInt8) (f m : Int) (g1 : List.length b ≤ 1000000) (g2 : m ≤ 9223372036854775807) :
    cc (ev X E0) 97 [AV.c (.ptr 0 0), AV.c (vi m)] [.cells [.pv (.str b), vi f]] = some (AV.c (.pv (.str (Prod.fst (step [] (qT m) b f)))), [.cells [.pv (.str (Prod.fst (Prod.snd (step [] (qT m) b f)))), vi (Prod.snd (Prod.snd (step [] (qT m) b f)))]]) :=
  cc_path (x := xf97) rfl [.call (AV.c (.pv (.str (Prod.fst (step [] (qT m) b f))))) [.cells [.pv (.str (Prod.fst (Prod.snd (step [] (qT m) b f)))), vi (Prod.snd (Prod.snd (step [] (qT m) b f)))], .cells [vi m]]]
    (c := [cc (ev X E0) 132 [AV.c (.ptr 0 0), AV.c (.fn 133 [1])] [.cells [.pv (.str b), vi f], .cells [vi m]] = some (AV.c (.pv (.str (Prod.fst (step [] (qT m) b f)))), [.cells [.pv (.str (Prod.fst (Prod.snd (step [] (qT m) b f)))), vi (Prod.snd (Prod.snd (step [] (qT m) b f)))], .cells [vi m]])]) (by kernel_rfl)
    ⟨(txS _ _ _ g1 g2), trivial⟩
theorem RB_1 (b : List UInt8) (f : Int) :
    cc (ev X E0) 95 [AV.c (.ptr 0 0)] [.cells [.pv (.str b), vi f]] = some (AV.c (.pv (.bool (Prod.fst (step false qB b f)))), [.cells [.pv (.str (Prod.fst (Prod.snd (step false qB b f)))), vi (Prod.snd (Prod.snd (step false qB b f)))]]) :=
  cc_path (x := xf95) rfl [.call (AV.c (.pv (.bool (Prod.fst (step false qB b f))))) [.cells [.pv (.str (Prod.fst (Prod.snd (step false qB b f)))), vi (Prod.snd (Prod.snd (step false qB b f)))]]]
    (c := [cc (ev X E0) 130 [AV.c (.ptr 0 0), AV.c (.fn 131 [])] [.cells [.pv (.str b), vi f]] = some (AV.c (.pv (.bool (Prod.fst (step false qB b f)))), [.cells [.pv (.str (Prod.fst (Prod.snd (step false qB b f)))), vi (Prod.snd (Prod.snd (step false qB b f)))]])]) (by kernel_rfl)
    ⟨(tbS _ _), trivial⟩
theorem RM_1 (b : List UInt8) (f : Int) (g1 : List.length b ≤ 1000000) :
    cc (ev X E0) 94 [AV.c (.ptr 0 0)] [.cells [.pv (.str b), vi f]] = some (AV.agg [vi (Prod.fst (Prod.fst (step (0, 0) qM b f))), vi (Prod.snd (Prod.fst (step (0, 0) qM b f)))], [.cells [.pv (.str (Prod.fst (Prod.snd (step (0, 0) qM b f)))), vi (Prod.snd (Prod.snd (step (0, 0) qM b f)))]]) :=
  cc_path (x := xf94) rfl [.call (AV.agg [vi (Prod.fst (Prod.fst (step (0, 0) qM b f))), vi (Prod.snd (Prod.fst (step (0, 0) qM b f)))]) [.cells [.pv (.str (Prod.fst (Prod.snd (step (0, 0) qM b f)))), vi (Prod.snd (Prod.snd (step (0, 0) qM b f)))]]]
    (c := [cc (ev X E0) 127 [AV.c (.ptr 0 0), AV.c (.fn 128 [])] [.cells [.pv (.str b), vi f]] = some (AV.agg [vi (Prod.fst (Prod.fst (step (0, 0) qM b f))), vi (Prod.snd (Prod.fst (step (0, 0) qM b f)))], [.cells [.pv (.str (Prod.fst (Prod.snd (step (0, 0) qM b f)))), vi (Prod.snd (Prod.snd (step (0, 0) qM b f)))]])]) (by kernel_rfl)
    ⟨(tmS _ _ g1), trivial⟩
theorem RC_1 (b : List UInt8) (f m : Int) (g1 : List.length b ≤ 1000000) (g2 : m ≤ 9223372036854775807) :
    cc (ev X E0) 93 [AV.c (.ptr 0 0), AV.c (vi m)] [.cells [.pv (.str b), vi f]] = some (AV.c (vi (↑(Prod.fst (step 0 (qC m) b f)) : Int)), [.cells [.pv (.str (Prod.fst (Prod.snd (step 0 (qC m) b f)))), vi (Prod.snd (Prod.snd (step 0 (qC m) b f)))]]) :=
  cc_path (x := xf93) rfl [.call (AV.c (vi (↑(Prod.fst (step 0 (qC m) b f)) : Int))) [.cells [.pv (.str (Prod.fst (Prod.snd (step 0 (qC m) b f)))), vi (Prod.snd (Prod.snd (step 0 (qC m) b f)))], .cells [vi m]]]
    (c := [cc (ev X E0) 125 [AV.c (.ptr 0 0), AV.c (.fn 126 [1])] [.cells [.pv (.str b), vi f], .cells [vi m]] = some (AV.c (vi (↑(Prod.fst (step 0 (qC m) b f)) : Int)), [.cells [.pv (.str (Prod.fst (Prod.snd (step 0 (qC m) b f)))), vi (Prod.snd (Prod.snd (step 0 (qC m) b f)))], .cells [vi m]])]) (by kernel_rfl)
    ⟨(tcS _ _ _ g1 g2), trivial⟩
theorem NR_1 (b : List UInt8) :
    cc (ev X E0) 87 [AV.c (.pv (.str b))] [] = some (AV.c (.ptr 0 0), [.cells [.pv (.str b), vi 0]]) :=
  cc_path (x := xf87) rfl []
    (c := []) (by kernel_rfl)
    trivial
theorem RFault_1 (b : List UInt8) (f : Int) :
    cc (ev X E0) 89 [AV.c (.ptr 0 0)] [.cells [.pv (.str b), vi f]] = some (AV.c (vi f), [.cells [.pv (.str b), vi f]]) :=
  cc_path (x := xf89) rfl [.br false]
    (c := [false = false]) (by kernel_rfl)
    ⟨rfl, trivial⟩
theorem REnd_1 (b : List UInt8) (f : Int) (g1 : ¬f = 0) :
    cc (ev X E0) 96 [AV.c (.ptr 0 0)] [.cells [.pv (.str b), vi f]] = some (AV.c (vi f), [.cells [.pv (.str b), vi f]]) :=
  cc_path (x := xf96) rfl [.call (AV.c (vi f)) [.cells [.pv (.str b), vi f]], .br true]
    (c := [cc (ev X E0) 89 [AV.c (.ptr 0 0)] [.cells [.pv (.str b), vi f]] = some (AV.c (vi f), [.cells [.pv (.str b), vi f]]), (f != 0) = true]) (by kernel_rfl)
    ⟨(RFault_1 _ _), (bne_iff_ne.mpr g1), trivial⟩
theorem REnd_2 (b : List UInt8) (f : Int) (g1 : f = 0) (g2 : (↑(List.length b) : Int) > 0) :
    cc (ev X E0) 96 [AV.c (.ptr 0 0)] [.cells [.pv (.str b), vi f]] = some (AV.c (vi 3), [.cells [.pv (.str b), vi f]]) :=
  cc_path (x := xf96) rfl [.call (AV.c (vi f)) [.cells [.pv (.str b), vi f]], .br false, .br true]
    (c := [cc (ev X E0) 89 [AV.c (.ptr 0 0)] [.cells [.pv (.str b), vi f]] = some (AV.c (vi f), [.cells [.pv (.str b), vi f]]), (f != 0) = false, decide ((↑(List.length b) : Int) > 0) = true]) (by kernel_rfl)
    ⟨(RFault_1 _ _), (bne_f g1), (dT g2), trivial⟩
theorem REnd_3 (b : List UInt8) (f : Int) (g1 : f = 0) (g2 : ¬(↑(List.length b) : Int) > 0) :
    cc (ev X E0) 96 [AV.c (.ptr 0 0)] [.cells [.pv (.str b), vi f]] = some (AV.c (vi 0), [.cells [.pv (.str b), vi f]]) :=
  cc_path (x := xf96) rfl [.call (AV.c (vi f)) [.cells [.pv (.str b), vi f]], .br false, .br false]
    (c := [cc (ev X E0) 89 [AV.c (.ptr 0 0)] [.cells [.pv (.str b), vi f]] = some (AV.c (vi f), [.cells [.pv (.str b), vi f]]), (f != 0) = false, decide ((↑(List.length b) : Int) > 0) = false]) (by kernel_rfl)
    ⟨(RFault_1 _ _), (bne_f g1), (dF g2), trivial⟩
end Go.Sx.Tryd
/- There and back: what is read of what was written. -/
namespace Go.Sx.Tryd
open Go Go.Sx
theorem ofNat_toNat {n : Nat} (h : n < 256) : (UInt8.ofNat n).toNat = n := by simp [UInt8.toNat_ofNat', Nat.mod_eq_of_lt h]
theorem vr_vb (n : Nat) : ∀ (i u : Nat) (r : List UInt8), i ≤ 9 → n * 128 ^ i < 18446744073709551616 → (i = 0 ∨ n ≠ 0) → vr (vb n ++ r) i u = (u + n * 128 ^ i, i + (vb n).length, 0) := by
  induction n using Nat.strongRecOn with
  | ind n ih =>
    intro i u r hi hn h0
    by_cases h9 : i = 9 ∧ 1 < n
    · obtain ⟨rfl, h1⟩ := h9
      have : 2 * 128 ^ 9 ≤ n * 128 ^ 9 := Nat.mul_le_mul_right _ h1
      omega
    · by_cases h : n < 128
      · rw [vb, if_pos h, List.singleton_append]
        simp only [vr, ofNat_toNat (show n < 256 by omega)]
        rw [if_neg (by omega), if_pos h]; rfl
      · have hi8 : i ≤ 8 := by omega
        have hq : n / 128 * 128 ^ (i + 1) ≤ n * 128 ^ i := by
          rw [Nat.pow_succ, Nat.mul_comm (128 ^ i) 128, ← Nat.mul_assoc]
          exact Nat.mul_le_mul_right _ (Nat.div_mul_le_self n 128)
        rw [vb, if_neg h, List.cons_append]
        simp only [vr, ofNat_toNat (show n % 128 + 128 < 256 by omega)]
        rw [if_neg (by omega), if_neg (by omega), ih (n / 128) (by omega) (i + 1) _ r (by omega) (by omega) (by omega)]
        have e : u + (n % 128 + 128) % 128 * 128 ^ i + n / 128 * 128 ^ (i + 1) = u + n * 128 ^ i := by
          have e1 : (n % 128 + 128) % 128 = n % 128 := by omega
          have e2 : n * 128 ^ i = (n % 128 + 128 * (n / 128)) * 128 ^ i := by rw [Nat.mod_add_div]
          rw [e1, e2, Nat.add_mul, Nat.pow_succ, Nat.mul_comm 128 (n / 128), Nat.mul_assoc (n / 128) 128, Nat.mul_comm 128 (128 ^ i), Nat.add_assoc]
        rw [e, List.length_cons, show i + 1 + (vb (n / 128)).length = i + ((vb (n / 128)).length + 1) by omega]
theorem vr_take : ∀ (b : List UInt8) (i u : Nat), i ≤ 9 → (vr b i u).2.2 = 0 → ∃ k, (vr b i u).1 = u + k * 128 ^ i ∧ (i = 0 ∨ k ≠ 0) ∧ b.take ((vr b i u).2.1 - i) = vb k
  | [], i, u, _, h => by simp [vr] at h
  | c :: r, i, u, hi, h => by
    have hc := c.toNat_lt
    simp only [vr] at h ⊢
    by_cases h1 : (i = 9 ∧ 1 < c.toNat) ∨ (0 < i ∧ c.toNat = 0)
    · rw [if_pos h1] at h; simp at h
    · rw [if_neg h1] at h ⊢
      by_cases h2 : c.toNat < 128
      · rw [if_pos h2] at h ⊢
        refine ⟨c.toNat, rfl, by omega, ?_⟩
        rw [vb, if_pos h2, show i + 1 - i = 1 by omega]
        simp
      · rw [if_neg h2] at h ⊢
        obtain ⟨k, e1, e2, e3⟩ := vr_take r (i + 1) (u + c.toNat % 128 * 128 ^ i) (by omega) h
        have hn := vr_n r (i + 1) (u + c.toNat % 128 * 128 ^ i) h
        refine ⟨c.toNat % 128 + 128 * k, ?_, by omega, ?_⟩
        · rw [e1, Nat.add_mul, Nat.pow_succ, Nat.mul_comm (128 ^ i) 128, ← Nat.mul_assoc, Nat.mul_comm k 128, Nat.add_assoc]
        · generalize (vr r (i + 1) (u + c.toNat % 128 * 128 ^ i)).2.1 = n at e3 hn
          rw [vb, if_neg (by omega), show n - i = (n - (i + 1)) + 1 by omega, List.take_succ_cons, e3, show (c.toNat % 128 + 128 * k) / 128 = k by omega,
            show (c.toNat % 128 + 128 * k) % 128 + 128 = c.toNat by omega]
          simp
theorem v_vb {n : Nat} (hn : n < 18446744073709551616) (r : List UInt8) : vU (vb n ++ r) = n ∧ vN (vb n ++ r) = (vb n).length ∧ vE (vb n ++ r) = 0 := by
  have := vr_vb n 0 0 r (by omega) (by omega) (Or.inl rfl)
  unfold vU vN vE
  rw [this]
  simp
theorem v_take {b : List UInt8} (h : vE b = 0) : b.take (vN b) = vb (vU b) := by
  obtain ⟨k, e1, _, e3⟩ := vr_take b 0 0 (by omega) h
  have : vU b = k := by unfold vU; rw [e1]; simp
  rw [this, ← e3]; rfl
theorem sgn_zz {n : Int} : sgn (zz n) = n := by
  unfold sgn zz
  by_cases h : 0 ≤ n
  · rw [if_pos h, if_pos (by omega)]; omega
  · rw [if_neg h, if_neg (by omega)]; omega
theorem zz_sgn (u : Nat) : zz (sgn u) = u := by
  unfold sgn zz
  by_cases h : u % 2 = 0
  · rw [if_pos h, if_pos (by omega)]; omega
  · rw [if_neg h, if_neg (by omega)]; omega
theorem qV_vb {n : Nat} (hn : n < 18446744073709551616) (r : List UInt8) : qV (vb n ++ r) = ⟨n, (vb n).length, 0⟩ := by
  obtain ⟨h1, h2, h3⟩ := v_vb hn r
  unfold qV; rw [h1, h2, h3]
theorem qT_tb {s : List UInt8} {m : Int} (hm : (s.length : Int) ≤ m) (hs : s.length < 18446744073709551616) (r : List UInt8) : qT m (tb s ++ r) = ⟨s, (tb s).length, 0⟩ := by
  obtain ⟨h1, h2, h3⟩ := v_vb hs (s ++ r)
  unfold qT tb
  rw [List.append_assoc, h1, h2, h3]
  rw [if_neg (by simp), if_neg (by omega), if_neg (by simp only [List.length_append]; omega)]
  simp
theorem bb_eq (x : Bool) : bb x = [if x then 1 else 0] := by
  unfold bb
  cases x <;> rw [vb] <;> rfl
theorem qB_bb (x : Bool) (r : List UInt8) : qB (bb x ++ r) = ⟨x, 1, 0⟩ := by
  rw [bb_eq]
  cases x <;> rfl
theorem qM_mb {c m : Int} (h0 : 0 ≤ c) (h3 : c ≤ 3) (m0 : -1000000000000000 ≤ m) (m1 : m ≤ 1000000000000000) (r : List UInt8) : qM (mb c m ++ r) = ⟨(c, m), (mb c m).length, 0⟩ := by
  obtain ⟨h1, h2, h4⟩ := v_vb (zz_lt (n := c) (by omega) (by omega)) (vb (zz m) ++ r)
  obtain ⟨g1, g2, g3⟩ := v_vb (zz_lt (n := m) (by omega) (by omega)) r
  unfold qM mb
  rw [List.append_assoc, h1, h2, h4]
  rw [List.drop_left, g1, g2, g3, sgn_zz, sgn_zz]
  rw [if_neg (by simp), if_neg (by simp), if_neg (by omega), if_neg (by omega), List.length_append]
theorem qV_take {b : List UInt8} (h : (qV b).e = 0) : b.take (qV b).n = vb (qV b).v := v_take h
theorem qT_take {m : Int} {b : List UInt8} (h : (qT m b).e = 0) : b.take (qT m b).n = tb (qT m b).v := by
  have hn := qT_n h
  unfold qT at h hn ⊢
  by_cases he : vE b = 0
  · have := vN_le he
    rw [if_neg (by simp [he])] at h hn ⊢
    by_cases h1 : m < (vU b : Int)
    · simp [h1] at h
    · rw [if_neg h1] at h hn ⊢
      by_cases h2 : b.length - vN b < vU b
      · simp [h2] at h
      · rw [if_neg h2] at hn ⊢
        unfold tb
        have hl : ((b.drop (vN b)).take (vU b)).length = vU b := by rw [List.length_take, List.length_drop]; omega
        simp only
        rw [hl, ← v_take he, List.take_add]
  · rw [if_pos he] at h; exact absurd h he
theorem qB_take {b : List UInt8} (h : (qB b).e = 0) : b.take (qB b).n = bb (qB b).v := by
  cases b with
  | nil => simp [qB] at h
  | cons c r =>
    unfold qB at h ⊢
    simp only at h ⊢
    by_cases hc : c.toNat > 1
    · rw [if_pos hc] at h; simp at h
    · rw [if_neg hc, bb_eq]
      have : c = 0 ∨ c = 1 := by
        have h01 : c.toNat = 0 ∨ c.toNat = 1 := by omega
        rcases h01 with h | h
        · left; exact UInt8.toNat.inj h
        · right; exact UInt8.toNat.inj h
      rcases this with rfl | rfl <;> rfl
theorem qM_take {b : List UInt8} (h : (qM b).e = 0) : b.take (qM b).n = mb (qM b).v.1 (qM b).v.2 ∧ (0 ≤ (qM b).v.1 ∧ (qM b).v.1 ≤ 3) ∧ -1000000000000000 ≤ (qM b).v.2 ∧ (qM b).v.2 ≤ 1000000000000000 := by
  unfold qM at h ⊢
  by_cases he : vE b = 0
  · rw [if_neg (fun h => h he)] at h ⊢
    by_cases he2 : vE (b.drop (vN b)) = 0
    · rw [if_neg (fun h => h he2)] at h ⊢
      by_cases c1 : sgn (vU b) < 0 ∨ 3 < sgn (vU b)
      · rw [if_pos c1] at h; simp at h
      · rw [if_neg c1] at h ⊢
        by_cases c2 : sgn (vU (b.drop (vN b))) < -1000000000000000 ∨ 1000000000000000 < sgn (vU (b.drop (vN b)))
        · rw [if_pos c2] at h; simp at h
        · rw [if_neg c2]
          unfold mb
          simp only
          rw [zz_sgn, zz_sgn, ← v_take he, ← v_take he2, List.take_add]
          exact ⟨rfl, by omega, by omega, by omega⟩
    · rw [if_pos he2] at h; exact absurd h he2
  · rw [if_pos he] at h; exact absurd h he
end Go.Sx.Tryd
