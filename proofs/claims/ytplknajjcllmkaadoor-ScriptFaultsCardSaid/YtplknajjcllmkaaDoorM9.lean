/- The program's reader of code: its methods. -/
import Derived.Test.YtplknajjcllmkaaDoorQ9
namespace Go.Sx.Tryd
open Go Go.Sx
theorem step_f {α : Type} {z : α} {q : List UInt8 → Got α} {b : List UInt8} {f : Int} (h : ¬ f = 0) : step z q b f = (z, b, f) := by simp [step, h]
theorem step_e {α : Type} {z : α} {q : List UInt8 → Got α} {b : List UInt8} (h : ¬ (q b).e = 0) : step z q b 0 = (z, b, (q b).e) := by simp [step, h]
theorem step_ok {α : Type} {z : α} {q : List UInt8 → Got α} {b : List UInt8} (h : (q b).e = 0) : step z q b 0 = ((q b).v, b.drop (q b).n, 0) := by simp [step, h]
theorem qT_n {m : Int} {b : List UInt8} (h : (qT m b).e = 0) : (qT m b).n ≤ b.length := by
  unfold qT at h ⊢
  by_cases he : vE b = 0
  · have := vN_le he
    rw [if_neg (by simp [he])] at h ⊢
    by_cases h1 : m < (vU b : Int)
    · simp [h1] at h
    · rw [if_neg h1] at h ⊢
      by_cases h2 : b.length - vN b < vU b
      · simp [h2] at h
      · rw [if_neg h2]; simp only; omega
  · rw [if_pos he] at h; exact absurd h he
theorem qB_n {b : List UInt8} (h : (qB b).e = 0) : (qB b).n ≤ b.length := by
  cases b with
  | nil => simp [qB] at h
  | cons c r =>
    unfold qB at h ⊢
    simp only at h ⊢
    split at h
    · simp at h
    · rename_i hc; rw [if_neg hc]; simp
theorem qM_n {b : List UInt8} (h : (qM b).e = 0) : (qM b).n ≤ b.length := by
  unfold qM at h ⊢
  by_cases he : vE b = 0
  · have := vN_le he
    rw [if_neg (by simp [he])] at h ⊢
    by_cases he2 : vE (b.drop (vN b)) = 0
    · have hn := vN_le he2
      rw [List.length_drop] at hn
      rw [if_neg (by simp [he2])] at h ⊢
      split
      · simp only; omega
      · split
        · simp only; omega
        · simp only; omega
    · rw [if_pos he2] at h; exact absurd h he2
  · rw [if_pos he] at h; exact absurd h he
theorem tkS (b : List UInt8) (f : Int) (hb : b.length ≤ 1000000) : cc (ev X E0) 122 [AV.c (.ptr 0 0), AV.c (.fn 123 [])] [Box.cells [.pv (.str b), .pv (.int .i64 f)]] =
    some (AV.c (CV.pv (.int .u64 (step 0 qV b f).1)), [Box.cells [.pv (.str (step 0 qV b f).2.1), .pv (.int .i64 (step 0 qV b f).2.2)]]) := by
  by_cases hf : f = 0
  · subst hf
    by_cases he : vE b = 0
    · rw [step_ok (q := qV) he]; exact tk_3 b 0 rfl hb he (by have := vN_le he; omega)
    · rw [step_e (q := qV) he]; exact tk_2 b 0 rfl hb he
  · rw [step_f hf]; exact tk_1 b f hf
theorem qC_e (m : Int) (b : List UInt8) : (qC m b).e = cE m b := by unfold qC cE; split <;> (try rfl); split <;> rfl
theorem tcS (b : List UInt8) (f m : Int) (hb : b.length ≤ 1000000) (hm : m ≤ 9223372036854775807) : cc (ev X E0) 125 [AV.c (.ptr 0 0), AV.c (.fn 126 [1])] [Box.cells [.pv (.str b), .pv (.int .i64 f)], Box.cells [.pv (.int .i64 m)]] =
    some (AV.c (CV.pv (.int .i64 (step 0 (qC m) b f).1)), [Box.cells [.pv (.str (step 0 (qC m) b f).2.1), .pv (.int .i64 (step 0 (qC m) b f).2.2)], Box.cells [.pv (.int .i64 m)]]) := by
  by_cases hf : f = 0
  · subst hf
    have hq := qC_e m b
    by_cases he : cE m b = 0
    · have hv : vE b = 0 := by unfold cE at he; split at he <;> simp_all
      have hl : ¬ m < (vU b : Int) := by intro h; simp [cE, hv, h] at he
      have hq' : qC m b = ⟨vU b, vN b, 0⟩ := by unfold qC; rw [if_neg (by simp [hv]), if_neg hl]
      rw [step_ok (by rw [hq']), hq']
      have := tc_3 b 0 m rfl hb hm he (by have := vN_le hv; omega)
      rw [wi64 (by omega) (by omega)] at this
      exact this
    · rw [step_e (by rw [hq]; exact he), hq]; exact tc_2 b 0 m rfl hb hm he
  · rw [step_f hf]; exact tc_1 b f m hf
theorem txS (b : List UInt8) (f m : Int) (hb : b.length ≤ 1000000) (hm : m ≤ 9223372036854775807) : cc (ev X E0) 132 [AV.c (.ptr 0 0), AV.c (.fn 133 [1])] [Box.cells [.pv (.str b), .pv (.int .i64 f)], Box.cells [.pv (.int .i64 m)]] =
    some (AV.c (CV.pv (.str (step [] (qT m) b f).1)), [Box.cells [.pv (.str (step [] (qT m) b f).2.1), .pv (.int .i64 (step [] (qT m) b f).2.2)], Box.cells [.pv (.int .i64 m)]]) := by
  by_cases hf : f = 0
  · subst hf
    by_cases he : (qT m b).e = 0
    · rw [step_ok he]; exact tx_3 b 0 m rfl hb hm he (by have := qT_n he; omega)
    · rw [step_e he]; exact tx_2 b 0 m rfl hb hm he
  · rw [step_f hf]; exact tx_1 b f m hf
theorem tbS (b : List UInt8) (f : Int) : cc (ev X E0) 130 [AV.c (.ptr 0 0), AV.c (.fn 131 [])] [Box.cells [.pv (.str b), .pv (.int .i64 f)]] =
    some (AV.c (CV.pv (.bool (step false qB b f).1)), [Box.cells [.pv (.str (step false qB b f).2.1), .pv (.int .i64 (step false qB b f).2.2)]]) := by
  by_cases hf : f = 0
  · subst hf
    by_cases he : (qB b).e = 0
    · rw [step_ok he]; exact tb_3 b 0 rfl he (by have := qB_n he; omega)
    · rw [step_e he]; exact tb_2 b 0 rfl he
  · rw [step_f hf]; exact tb_1 b f hf
theorem tmS (b : List UInt8) (f : Int) (hb : b.length ≤ 1000000) : cc (ev X E0) 127 [AV.c (.ptr 0 0), AV.c (.fn 128 [])] [Box.cells [.pv (.str b), .pv (.int .i64 f)]] =
    some (AV.agg [.pv (.int .i64 (step (0, 0) qM b f).1.1), .pv (.int .i64 (step (0, 0) qM b f).1.2)], [Box.cells [.pv (.str (step (0, 0) qM b f).2.1), .pv (.int .i64 (step (0, 0) qM b f).2.2)]]) := by
  by_cases hf : f = 0
  · subst hf
    by_cases he : (qM b).e = 0
    · rw [step_ok he]; exact tm_3 b 0 rfl hb he (by have := qM_n he; omega)
    · rw [step_e he]; exact tm_2 b 0 rfl hb he
  · rw [step_f hf]; exact tm_1 b f hf
theorem step_v_lt (b : List UInt8) (f : Int) : (step 0 qV b f).1 < 18446744073709551616 := by
  unfold step
  split
  · simp
  · split
    · simp
    · exact vU_lt b
theorem RV_1 (b : List UInt8) (f : Int) (g1 : List.length b ≤ 1000000) :
    cc (ev X E0) 88 [AV.c (.ptr 0 0)] [.cells [.pv (.str b), vi f]] = some (AV.c (.pv (.int .u64 (↑(Prod.fst (step 0 qV b f)) : Int))), [.cells [.pv (.str (Prod.fst (Prod.snd (step 0 qV b f)))), vi (Prod.snd (Prod.snd (step 0 qV b f)))]]) :=
  cc_path (x := xf88) rfl [.call (AV.c (.pv (.int .u64 (↑(Prod.fst (step 0 qV b f)) : Int)))) [.cells [.pv (.str (Prod.fst (Prod.snd (step 0 qV b f)))), vi (Prod.snd (Prod.snd (step 0 qV b f)))]]]
    (c := [cc (ev X E0) 122 [AV.c (.ptr 0 0), AV.c (.fn 123 [])] [.cells [.pv (.str b), vi f]] = some (AV.c (.pv (.int .u64 (↑(Prod.fst (step 0 qV b f)) : Int))), [.cells [.pv (.str (Prod.fst (Prod.snd (step 0 qV b f)))), vi (Prod.snd (Prod.snd (step 0 qV b f)))]])]) (by kernel_rfl)
    ⟨(tkS _ _ g1), trivial⟩
theorem RZ_1 (b : List UInt8) (f : Int) (g1 : List.length b ≤ 1000000) (g2 : 0 ≤ (↑(Prod.fst (step 0 qV b f)) : Int)) (g3 : (↑(Prod.fst (step 0 qV b f)) : Int) < 18446744073709551616) :
    cc (ev X E0) 124 [AV.c (.ptr 0 0)] [.cells [.pv (.str b), vi f]] = some (AV.c (vi (sgn (Prod.fst (step 0 qV b f)))), [.cells [.pv (.str (Prod.fst (Prod.snd (step 0 qV b f)))), vi (Prod.snd (Prod.snd (step 0 qV b f)))]]) :=
  cc_path (x := xf124) rfl [.call (AV.c (.pv (.int .u64 (↑(Prod.fst (step 0 qV b f)) : Int)))) [.cells [.pv (.str (Prod.fst (Prod.snd (step 0 qV b f)))), vi (Prod.snd (Prod.snd (step 0 qV b f)))]], .call (AV.c (vi (sgn (Prod.fst (step 0 qV b f))))) []]
    (c := [cc (ev X E0) 122 [AV.c (.ptr 0 0), AV.c (.fn 123 [])] [.cells [.pv (.str b), vi f]] = some (AV.c (.pv (.int .u64 (↑(Prod.fst (step 0 qV b f)) : Int))), [.cells [.pv (.str (Prod.fst (Prod.snd (step 0 qV b f)))), vi (Prod.snd (Prod.snd (step 0 qV b f)))]]), cc (ev X E0) 129 [AV.c (.pv (.int .u64 (↑(Prod.fst (step 0 qV b f)) : Int)))] [] = some (AV.c (vi (sgn (Prod.fst (step 0 qV b f)))), [])]) (by kernel_rfl)
    ⟨(tkS _ _ g1), (signed _ g2 g3), trivial⟩
theorem RT_1 (b : List UInt8) (f m : Int) (g1 : List.length b ≤ 1000000) (g2 : m ≤ 9223372036854775807) :
    cc (ev X E0) 97 [AV.c (.ptr 0 0), AV.c (vi m)] [.cells [.pv (.str b), vi f]] = some (AV.c (.pv (.str (Prod.fst (step [] (qT m) b f)))), [.cells [.pv (.str (Prod.fst (Prod.snd (step [] (qT m) b f)))), vi (Prod.snd (Prod.snd (step [] (qT m) b f)))]]) :=
  cc_path (x := xf97) rfl [.call (AV.c (.pv (.str (Prod.fst (step [] (qT m) b f))))) [.cells [.pv (.str (Prod.fst (Prod.snd (step [] (qT m) b f)))), vi (Prod.snd (Prod.snd (step [] (qT m) b f)))], .cells [vi m]]]
    (c := [cc (ev X E0) 132 [AV.c (.ptr 0 0), AV.c (.fn 133 [1])] [.cells [.pv (.str b), vi f], .cells [vi m]] = some (AV.c (.pv (.str (Prod.fst (step [] (qT m) b f)))), [.cells [.pv (.str (Prod.fst (Prod.snd (step [] (qT m) b f)))), vi (Prod.snd (Prod.snd (step [] (qT m) b f)))], .cells [vi m]])]) (by kernel_rfl)
    ⟨(txS _ _ _ g1 g2), trivial⟩
theorem RB_1 (b : List UInt8) (f : Int) :
    cc (ev X E0) 95 [AV.c (.ptr 0 0)] [.cells [.pv (.str b), vi f]] = some (AV.c (.pv (.bool (Prod.fst (step false qB b f)))), [.cells [.pv (.str (Prod.fst (Prod.snd (step false qB b f)))), vi (Prod.snd (Prod.snd (step false qB b f)))]]) :=
  cc_path (x := xf95) rfl [.call (AV.c (.pv (.bool (Prod.fst (step false qB b f))))) [.cells [.pv (.str (Prod.fst (Prod.snd (step false qB b f)))), vi (Prod.snd (Prod.snd (step false qB b f)))]]]
    (c := [cc (ev X E0) 130 [AV.c (.ptr 0 0), AV.c (.fn 131 [])] [.cells [.pv (.str b), vi f]] = some (AV.c (.pv (.bool (Prod.fst (step false qB b f)))), [.cells [.pv (.str (Prod.fst (Prod.snd (step false qB b f)))), vi (Prod.snd (Prod.snd (step false qB b f)))]])]) (by kernel_rfl)
    ⟨(tbS _ _), trivial⟩
theorem RM_1 (b : List UInt8) (f : Int) (g1 : List.length b ≤ 1000000) :
    cc (ev X E0) 94 [AV.c (.ptr 0 0)] [.cells [.pv (.str b), vi f]] = some (AV.agg [vi (Prod.fst (Prod.fst (step (0, 0) qM b f))), vi (Prod.snd (Prod.fst (step (0, 0) qM b f)))], [.cells [.pv (.str (Prod.fst (Prod.snd (step (0, 0) qM b f)))), vi (Prod.snd (Prod.snd (step (0, 0) qM b f)))]]) :=
  cc_path (x := xf94) rfl [.call (AV.agg [vi (Prod.fst (Prod.fst (step (0, 0) qM b f))), vi (Prod.snd (Prod.fst (step (0, 0) qM b f)))]) [.cells [.pv (.str (Prod.fst (Prod.snd (step (0, 0) qM b f)))), vi (Prod.snd (Prod.snd (step (0, 0) qM b f)))]]]
    (c := [cc (ev X E0) 127 [AV.c (.ptr 0 0), AV.c (.fn 128 [])] [.cells [.pv (.str b), vi f]] = some (AV.agg [vi (Prod.fst (Prod.fst (step (0, 0) qM b f))), vi (Prod.snd (Prod.fst (step (0, 0) qM b f)))], [.cells [.pv (.str (Prod.fst (Prod.snd (step (0, 0) qM b f)))), vi (Prod.snd (Prod.snd (step (0, 0) qM b f)))]])]) (by kernel_rfl)
    ⟨(tmS _ _ g1), trivial⟩
theorem RC_1 (b : List UInt8) (f m : Int) (g1 : List.length b ≤ 1000000) (g2 : m ≤ 9223372036854775807) :
    cc (ev X E0) 93 [AV.c (.ptr 0 0), AV.c (vi m)] [.cells [.pv (.str b), vi f]] = some (AV.c (vi (↑(Prod.fst (step 0 (qC m) b f)) : Int)), [.cells [.pv (.str (Prod.fst (Prod.snd (step 0 (qC m) b f)))), vi (Prod.snd (Prod.snd (step 0 (qC m) b f)))]]) :=
  cc_path (x := xf93) rfl [.call (AV.c (vi (↑(Prod.fst (step 0 (qC m) b f)) : Int))) [.cells [.pv (.str (Prod.fst (Prod.snd (step 0 (qC m) b f)))), vi (Prod.snd (Prod.snd (step 0 (qC m) b f)))], .cells [vi m]]]
    (c := [cc (ev X E0) 125 [AV.c (.ptr 0 0), AV.c (.fn 126 [1])] [.cells [.pv (.str b), vi f], .cells [vi m]] = some (AV.c (vi (↑(Prod.fst (step 0 (qC m) b f)) : Int)), [.cells [.pv (.str (Prod.fst (Prod.snd (step 0 (qC m) b f)))), vi (Prod.snd (Prod.snd (step 0 (qC m) b f)))], .cells [vi m]])]) (by kernel_rfl)
    ⟨(tcS _ _ _ g1 g2), trivial⟩
theorem NR_1 (b : List UInt8) :
    cc (ev X E0) 87 [AV.c (.pv (.str b))] [] = some (AV.c (.ptr 0 0), [.cells [.pv (.str b), vi 0]]) :=
  cc_path (x := xf87) rfl []
    (c := []) (by kernel_rfl)
    trivial
theorem RFault_1 (b : List UInt8) (f : Int) :
    cc (ev X E0) 89 [AV.c (.ptr 0 0)] [.cells [.pv (.str b), vi f]] = some (AV.c (vi f), [.cells [.pv (.str b), vi f]]) :=
  cc_path (x := xf89) rfl [.br false]
    (c := [false = false]) (by kernel_rfl)
    ⟨rfl, trivial⟩
theorem REnd_1 (b : List UInt8) (f : Int) (g1 : ¬f = 0) :
    cc (ev X E0) 96 [AV.c (.ptr 0 0)] [.cells [.pv (.str b), vi f]] = some (AV.c (vi f), [.cells [.pv (.str b), vi f]]) :=
  cc_path (x := xf96) rfl [.call (AV.c (vi f)) [.cells [.pv (.str b), vi f]], .br true]
    (c := [cc (ev X E0) 89 [AV.c (.ptr 0 0)] [.cells [.pv (.str b), vi f]] = some (AV.c (vi f), [.cells [.pv (.str b), vi f]]), (f != 0) = true]) (by kernel_rfl)
    ⟨(RFault_1 _ _), (bne_iff_ne.mpr g1), trivial⟩
theorem REnd_2 (b : List UInt8) (f : Int) (g1 : f = 0) (g2 : (↑(List.length b) : Int) > 0) :
    cc (ev X E0) 96 [AV.c (.ptr 0 0)] [.cells [.pv (.str b), vi f]] = some (AV.c (vi 3), [.cells [.pv (.str b), vi f]]) :=
  cc_path (x := xf96) rfl [.call (AV.c (vi f)) [.cells [.pv (.str b), vi f]], .br false, .br true]
    (c := [cc (ev X E0) 89 [AV.c (.ptr 0 0)] [.cells [.pv (.str b), vi f]] = some (AV.c (vi f), [.cells [.pv (.str b), vi f]]), (f != 0) = false, decide ((↑(List.length b) : Int) > 0) = true]) (by kernel_rfl)
    ⟨(RFault_1 _ _), (bne_f g1), (dT g2), trivial⟩
theorem REnd_3 (b : List UInt8) (f : Int) (g1 : f = 0) (g2 : ¬(↑(List.length b) : Int) > 0) :
    cc (ev X E0) 96 [AV.c (.ptr 0 0)] [.cells [.pv (.str b), vi f]] = some (AV.c (vi 0), [.cells [.pv (.str b), vi f]]) :=
  cc_path (x := xf96) rfl [.call (AV.c (vi f)) [.cells [.pv (.str b), vi f]], .br false, .br false]
    (c := [cc (ev X E0) 89 [AV.c (.ptr 0 0)] [.cells [.pv (.str b), vi f]] = some (AV.c (vi f), [.cells [.pv (.str b), vi f]]), (f != 0) = false, decide ((↑(List.length b) : Int) > 0) = false]) (by kernel_rfl)
    ⟨(RFault_1 _ _), (bne_f g1), (dF g2), trivial⟩
end Go.Sx.Tryd
/- There and back: what is read of what was written. -/
namespace Go.Sx.Tryd
open Go Go.Sx
theorem ofNat_toNat {n : Nat} (h : n < 256) : (UInt8.ofNat n).toNat = n := by simp [UInt8.toNat_ofNat', Nat.mod_eq_of_lt h]
theorem vr_vb (n : Nat) : ∀ (i u : Nat) (r : List UInt8), i ≤ 9 → n * 128 ^ i < 18446744073709551616 → (i = 0 ∨ n ≠ 0) → vr (vb n ++ r) i u = (u + n * 128 ^ i, i + (vb n).length, 0) := by
  induction n using Nat.strongRecOn with
  | ind n ih =>
    intro i u r hi hn h0
    by_cases h9 : i = 9 ∧ 1 < n
    · obtain ⟨rfl, h1⟩ := h9
      have : 2 * 128 ^ 9 ≤ n * 128 ^ 9 := Nat.mul_le_mul_right _ h1
      omega
    · by_cases h : n < 128
      · rw [vb, if_pos h, List.singleton_append]
        simp only [vr, ofNat_toNat (show n < 256 by omega)]
        rw [if_neg (by omega), if_pos h]; rfl
      · have hi8 : i ≤ 8 := by omega
        have hq : n / 128 * 128 ^ (i + 1) ≤ n * 128 ^ i := by
          rw [Nat.pow_succ, Nat.mul_comm (128 ^ i) 128, ← Nat.mul_assoc]
          exact Nat.mul_le_mul_right _ (Nat.div_mul_le_self n 128)
        rw [vb, if_neg h, List.cons_append]
        simp only [vr, ofNat_toNat (show n % 128 + 128 < 256 by omega)]
        rw [if_neg (by omega), if_neg (by omega), ih (n / 128) (by omega) (i + 1) _ r (by omega) (by omega) (by omega)]
        have e : u + (n % 128 + 128) % 128 * 128 ^ i + n / 128 * 128 ^ (i + 1) = u + n * 128 ^ i := by
          have e1 : (n % 128 + 128) % 128 = n % 128 := by omega
          have e2 : n * 128 ^ i = (n % 128 + 128 * (n / 128)) * 128 ^ i := by rw [Nat.mod_add_div]
          rw [e1, e2, Nat.add_mul, Nat.pow_succ, Nat.mul_comm 128 (n / 128), Nat.mul_assoc (n / 128) 128, Nat.mul_comm 128 (128 ^ i), Nat.add_assoc]
        rw [e, List.length_cons, show i + 1 + (vb (n / 128)).length = i + ((vb (n / 128)).length + 1) by omega]
theorem v_vb {n : Nat} (hn : n < 18446744073709551616) (r : List UInt8) : vU (vb n ++ r) = n ∧ vN (vb n ++ r) = (vb n).length ∧ vE (vb n ++ r) = 0 := by
  have := vr_vb n 0 0 r (by omega) (by omega) (Or.inl rfl)
  unfold vU vN vE
  rw [this]
  simp
theorem sgn_zz {n : Int} : sgn (zz n) = n := by
  unfold sgn zz
  by_cases h : 0 ≤ n
  · rw [if_pos h, if_pos (by omega)]; omega
  · rw [if_neg h, if_neg (by omega)]; omega
theorem qV_vb {n : Nat} (hn : n < 18446744073709551616) (r : List UInt8) : qV (vb n ++ r) = ⟨n, (vb n).length, 0⟩ := by
  obtain ⟨h1, h2, h3⟩ := v_vb hn r
  unfold qV; rw [h1, h2, h3]
theorem qT_tb {s : List UInt8} {m : Int} (hm : (s.length : Int) ≤ m) (hs : s.length < 18446744073709551616) (r : List UInt8) : qT m (tb s ++ r) = ⟨s, (tb s).length, 0⟩ := by
  obtain ⟨h1, h2, h3⟩ := v_vb hs (s ++ r)
  unfold qT tb
  rw [List.append_assoc, h1, h2, h3]
  rw [if_neg (by simp), if_neg (by omega), if_neg (by simp only [List.length_append]; omega)]
  simp
theorem bb_eq (x : Bool) : bb x = [if x then 1 else 0] := by
  unfold bb
  cases x <;> rw [vb] <;> rfl
theorem qB_bb (x : Bool) (r : List UInt8) : qB (bb x ++ r) = ⟨x, 1, 0⟩ := by
  rw [bb_eq]
  cases x <;> rfl
theorem qM_mb {c m : Int} (h0 : 0 ≤ c) (h3 : c ≤ 3) (m0 : -1000000000000000 ≤ m) (m1 : m ≤ 1000000000000000) (r : List UInt8) : qM (mb c m ++ r) = ⟨(c, m), (mb c m).length, 0⟩ := by
  obtain ⟨h1, h2, h4⟩ := v_vb (zz_lt (n := c) (by omega) (by omega)) (vb (zz m) ++ r)
  obtain ⟨g1, g2, g3⟩ := v_vb (zz_lt (n := m) (by omega) (by omega)) r
  unfold qM mb
  rw [List.append_assoc, h1, h2, h4]
  rw [List.drop_left, g1, g2, g3, sgn_zz, sgn_zz]
  rw [if_neg (by simp), if_neg (by simp), if_neg (by omega), if_neg (by omega), List.length_append]
end Go.Sx.Tryd
/- Items, one behind the other: how they are written, and how they are read. -/
namespace Go.Sx.Tryd
open Go Go.Sx
structure Leg where
  acc : Int
  cur : Int
  minor : Int
inductive It where
  | z (n : Int)
  | t (s : List UInt8)
  | m (c n : Int)
  | b (x : Bool)
  | ls (l : List Leg)
inductive Sh where
  | z
  | t (k : Nat)
  | m
  | b
  | ls
def lgB (x : Leg) : List UInt8 := vb (zz x.acc) ++ mb x.cur x.minor
def lsB : List Leg → List UInt8
  | [] => []
  | x :: r => lgB x ++ lsB r
def itB : It → List UInt8
  | .z n => vb (zz n)
  | .t s => tb s
  | .m c n => mb c n
  | .b x => bb x
  | .ls l => vb l.length ++ lsB l
structure FitL (x : Leg) : Prop where
  acc : -9223372036854775808 ≤ x.acc ∧ x.acc ≤ 9223372036854775807
  cur : 0 ≤ x.cur ∧ x.cur ≤ 3
  minor : -1000000000000000 ≤ x.minor ∧ x.minor ≤ 1000000000000000
def Fit : Sh → It → Prop
  | .z, .z n => -9223372036854775808 ≤ n ∧ n ≤ 9223372036854775807
  | .t k, .t s => s.length ≤ k ∧ s.length ≤ 1000000
  | .m, .m c n => (0 ≤ c ∧ c ≤ 3) ∧ -1000000000000000 ≤ n ∧ n ≤ 1000000000000000
  | .b, .b _ => True
  | .ls, .ls l => l.length ≤ 16 ∧ ∀ x ∈ l, FitL x
  | _, _ => False
def rdL : Nat → List UInt8 → Int → List Leg × List UInt8 × Int
  | 0, b, f => ([], b, f)
  | k + 1, b, f =>
    (⟨sgn (step 0 qV b f).1, (step (0, 0) qM (step 0 qV b f).2.1 (step 0 qV b f).2.2).1.1, (step (0, 0) qM (step 0 qV b f).2.1 (step 0 qV b f).2.2).1.2⟩
      :: (rdL k (step (0, 0) qM (step 0 qV b f).2.1 (step 0 qV b f).2.2).2.1 (step (0, 0) qM (step 0 qV b f).2.1 (step 0 qV b f).2.2).2.2).1,
      (rdL k (step (0, 0) qM (step 0 qV b f).2.1 (step 0 qV b f).2.2).2.1 (step (0, 0) qM (step 0 qV b f).2.1 (step 0 qV b f).2.2).2.2).2)
def rdS : Sh → List UInt8 → Int → It × List UInt8 × Int
  | .z, b, f => (.z (sgn (step 0 qV b f).1), (step 0 qV b f).2)
  | .t k, b, f => (.t (step [] (qT k) b f).1, (step [] (qT k) b f).2)
  | .m, b, f => (.m (step (0, 0) qM b f).1.1 (step (0, 0) qM b f).1.2, (step (0, 0) qM b f).2)
  | .b, b, f => (.b (step false qB b f).1, (step false qB b f).2)
  | .ls, b, f => (.ls (rdL (step 0 (qC 16) b f).1 (step 0 (qC 16) b f).2.1 (step 0 (qC 16) b f).2.2).1, (rdL (step 0 (qC 16) b f).1 (step 0 (qC 16) b f).2.1 (step 0 (qC 16) b f).2.2).2)
inductive Fits : List Sh → List It → Prop
  | nil : Fits [] []
  | cons {s : Sh} {i : It} {ss : List Sh} {is : List It} (h : Fit s i) (k : Fits ss is) : Fits (s :: ss) (i :: is)
theorem step_w {α : Type} {z : α} {q : List UInt8 → Got α} {w r : List UInt8} {v : α} (h : q (w ++ r) = ⟨v, w.length, 0⟩) : step z q (w ++ r) 0 = (v, r, 0) := by
  rw [step_ok (by rw [h]), h]
  simp
theorem qC_vb {n : Nat} {m : Int} (hn : (n : Int) ≤ m) (hn2 : n < 18446744073709551616) (r : List UInt8) : qC m (vb n ++ r) = ⟨n, (vb n).length, 0⟩ := by
  obtain ⟨h1, h2, h3⟩ := v_vb hn2 r
  unfold qC; rw [h1, h2, h3, if_neg (by simp), if_neg (by omega)]
theorem rdL_w : ∀ (l : List Leg) (r : List UInt8), (∀ x ∈ l, FitL x) → rdL l.length (lsB l ++ r) 0 = (l, r, 0)
  | [], r, _ => rfl
  | x :: l, r, h => by
    have hx := h x (by simp)
    have h1 := hx.acc; have h2 := hx.cur; have h3 := hx.minor
    have e1 : step 0 qV (vb (zz x.acc) ++ (mb x.cur x.minor ++ (lsB l ++ r))) 0 = (zz x.acc, mb x.cur x.minor ++ (lsB l ++ r), 0) := step_w (qV_vb (zz_lt (by omega) (by omega)) _)
    have e2 : step (0, 0) qM (mb x.cur x.minor ++ (lsB l ++ r)) 0 = ((x.cur, x.minor), lsB l ++ r, 0) := step_w (qM_mb (by omega) (by omega) (by omega) (by omega) _)
    rw [List.length_cons, rdL, lsB, lgB, List.append_assoc, List.append_assoc, e1]
    dsimp only
    rw [e2]
    dsimp only
    rw [rdL_w l r fun y hy => h y (by simp [hy]), sgn_zz]
theorem rdS_w : ∀ {s : Sh} {i : It}, Fit s i → ∀ r : List UInt8, rdS s (itB i ++ r) 0 = (i, r, 0)
  | .z, .z n, h, r => by
    have e : step 0 qV (vb (zz n) ++ r) 0 = (zz n, r, 0) := step_w (qV_vb (zz_lt h.1 h.2) r)
    simp only [rdS, itB, e, sgn_zz]
  | .t k, .t s, h, r => by
    have e : step [] (qT k) (tb s ++ r) 0 = (s, r, 0) := step_w (qT_tb (by have := h.1; omega) (by have := h.2; omega) r)
    simp only [rdS, itB, e]
  | .m, .m c n, h, r => by
    have e : step (0, 0) qM (mb c n ++ r) 0 = ((c, n), r, 0) := step_w (qM_mb h.1.1 h.1.2 h.2.1 h.2.2 r)
    simp only [rdS, itB, e]
  | .b, .b x, _, r => by
    have e : step false qB (bb x ++ r) 0 = (x, r, 0) := step_w (by rw [qB_bb, bb_eq]; rfl)
    simp only [rdS, itB, e]
  | .ls, .ls l, h, r => by
    have e : step 0 (qC 16) (vb l.length ++ (lsB l ++ r)) 0 = (l.length, lsB l ++ r, 0) := step_w (qC_vb (by have := h.1; omega) (by have := h.1; omega) _)
    simp only [rdS, itB, List.append_assoc, e, rdL_w l r h.2]
end Go.Sx.Tryd
/- What each kind of request tells. -/
namespace Go.Sx.Tryd
open Go Go.Sx
def tellsT : List Int := [1, 2, 516, 2048, 112, 8, 900, 1160, 8, 1536, 0]
def hasB (d p : Int) : Bool := IntKind.wrap .i64 (((BitVec.ofInt 64 (tellsT.getD d.toNat 0) &&& BitVec.ofInt 64 p).toNat : Nat) : Int) != 0
theorem has0_1 (p : Int) :
    cc (ev X E0) 74 [AV.c (vi 0), AV.c (vi p)] [] = some (AV.c (.pv (.bool (IntKind.wrap .i64 (↑(BitVec.toNat (BitVec.ofInt 64 1 &&& BitVec.ofInt 64 p)) : Int) != 0))), []) :=
  cc_path (x := xf74) rfl []
    (c := [(0 : Int) ≤ (0 : Int), (0 : Int) < (11 : Int)]) (by kernel_rfl)
    ⟨(Int.le_refl _), (by decide), trivial⟩
theorem has1_1 (p : Int) :
    cc (ev X E0) 74 [AV.c (vi 1), AV.c (vi p)] [] = some (AV.c (.pv (.bool (IntKind.wrap .i64 (↑(BitVec.toNat (BitVec.ofInt 64 2 &&& BitVec.ofInt 64 p)) : Int) != 0))), []) :=
  cc_path (x := xf74) rfl []
    (c := [(0 : Int) ≤ (1 : Int), (1 : Int) < (11 : Int)]) (by kernel_rfl)
    ⟨(by decide), (by decide), trivial⟩
theorem has2_1 (p : Int) :
    cc (ev X E0) 74 [AV.c (vi 2), AV.c (vi p)] [] = some (AV.c (.pv (.bool (IntKind.wrap .i64 (↑(BitVec.toNat (BitVec.ofInt 64 516 &&& BitVec.ofInt 64 p)) : Int) != 0))), []) :=
  cc_path (x := xf74) rfl []
    (c := [(0 : Int) ≤ (2 : Int), (2 : Int) < (11 : Int)]) (by kernel_rfl)
    ⟨(by decide), (by decide), trivial⟩
theorem has3_1 (p : Int) :
    cc (ev X E0) 74 [AV.c (vi 3), AV.c (vi p)] [] = some (AV.c (.pv (.bool (IntKind.wrap .i64 (↑(BitVec.toNat (BitVec.ofInt 64 2048 &&& BitVec.ofInt 64 p)) : Int) != 0))), []) :=
  cc_path (x := xf74) rfl []
    (c := [(0 : Int) ≤ (3 : Int), (3 : Int) < (11 : Int)]) (by kernel_rfl)
    ⟨(by decide), (by decide), trivial⟩
theorem has4_1 (p : Int) :
    cc (ev X E0) 74 [AV.c (vi 4), AV.c (vi p)] [] = some (AV.c (.pv (.bool (IntKind.wrap .i64 (↑(BitVec.toNat (BitVec.ofInt 64 112 &&& BitVec.ofInt 64 p)) : Int) != 0))), []) :=
  cc_path (x := xf74) rfl []
    (c := [(0 : Int) ≤ (4 : Int), (4 : Int) < (11 : Int)]) (by kernel_rfl)
    ⟨(by decide), (by decide), trivial⟩
theorem has5_1 (p : Int) :
    cc (ev X E0) 74 [AV.c (vi 5), AV.c (vi p)] [] = some (AV.c (.pv (.bool (IntKind.wrap .i64 (↑(BitVec.toNat (BitVec.ofInt 64 8 &&& BitVec.ofInt 64 p)) : Int) != 0))), []) :=
  cc_path (x := xf74) rfl []
    (c := [(0 : Int) ≤ (5 : Int), (5 : Int) < (11 : Int)]) (by kernel_rfl)
    ⟨(by decide), (by decide), trivial⟩
theorem has6_1 (p : Int) :
    cc (ev X E0) 74 [AV.c (vi 6), AV.c (vi p)] [] = some (AV.c (.pv (.bool (IntKind.wrap .i64 (↑(BitVec.toNat (BitVec.ofInt 64 900 &&& BitVec.ofInt 64 p)) : Int) != 0))), []) :=
  cc_path (x := xf74) rfl []
    (c := [(0 : Int) ≤ (6 : Int), (6 : Int) < (11 : Int)]) (by kernel_rfl)
    ⟨(by decide), (by decide), trivial⟩
theorem has7_1 (p : Int) :
    cc (ev X E0) 74 [AV.c (vi 7), AV.c (vi p)] [] = some (AV.c (.pv (.bool (IntKind.wrap .i64 (↑(BitVec.toNat (BitVec.ofInt 64 1160 &&& BitVec.ofInt 64 p)) : Int) != 0))), []) :=
  cc_path (x := xf74) rfl []
    (c := [(0 : Int) ≤ (7 : Int), (7 : Int) < (11 : Int)]) (by kernel_rfl)
    ⟨(by decide), (by decide), trivial⟩
theorem has8_1 (p : Int) :
    cc (ev X E0) 74 [AV.c (vi 8), AV.c (vi p)] [] = some (AV.c (.pv (.bool (IntKind.wrap .i64 (↑(BitVec.toNat (BitVec.ofInt 64 8 &&& BitVec.ofInt 64 p)) : Int) != 0))), []) :=
  cc_path (x := xf74) rfl []
    (c := [(0 : Int) ≤ (8 : Int), (8 : Int) < (11 : Int)]) (by kernel_rfl)
    ⟨(by decide), (by decide), trivial⟩
theorem has9_1 (p : Int) :
    cc (ev X E0) 74 [AV.c (vi 9), AV.c (vi p)] [] = some (AV.c (.pv (.bool (IntKind.wrap .i64 (↑(BitVec.toNat (BitVec.ofInt 64 1536 &&& BitVec.ofInt 64 p)) : Int) != 0))), []) :=
  cc_path (x := xf74) rfl []
    (c := [(0 : Int) ≤ (9 : Int), (9 : Int) < (11 : Int)]) (by kernel_rfl)
    ⟨(by decide), (by decide), trivial⟩
theorem has10_1 (p : Int) :
    cc (ev X E0) 74 [AV.c (vi 10), AV.c (vi p)] [] = some (AV.c (.pv (.bool false)), []) :=
  cc_path (x := xf74) rfl []
    (c := [(0 : Int) ≤ (10 : Int), (10 : Int) < (11 : Int)]) (by kernel_rfl)
    ⟨(by decide), (by decide), trivial⟩
theorem s74 (d p : Int) (h0 : 0 ≤ d) (h1 : d ≤ 10) : cc (ev X E0) 74 [AV.i d, AV.i p] [] = some (.b (hasB d p), []) := by
  have h : d = 0 ∨ d = 1 ∨ d = 2 ∨ d = 3 ∨ d = 4 ∨ d = 5 ∨ d = 6 ∨ d = 7 ∨ d = 8 ∨ d = 9 ∨ d = 10 := by omega
  rcases h with rfl | rfl | rfl | rfl | rfl | rfl | rfl | rfl | rfl | rfl | rfl
  · exact has0_1 p
  · exact has1_1 p
  · exact has2_1 p
  · exact has3_1 p
  · exact has4_1 p
  · exact has5_1 p
  · exact has6_1 p
  · exact has7_1 p
  · exact has8_1 p
  · exact has9_1 p
  · rw [show hasB 10 p = false by unfold hasB; rw [show (BitVec.ofInt 64 (tellsT.getD (10 : Int).toNat 0)) = 0#64 from rfl, BitVec.zero_and]; rfl]
    exact has10_1 p
end Go.Sx.Tryd
