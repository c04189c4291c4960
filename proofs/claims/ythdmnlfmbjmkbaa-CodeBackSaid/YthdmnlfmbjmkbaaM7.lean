/- The program's reader of code: its methods. -/
import Derived.Test.YthdmnlfmbjmkbaaQ7
namespace Go.Sx.Try
open Go Go.Sx
theorem step_f {α : Type} {z : α} {q : List UInt8 → Got α} {b : List UInt8} {f : Int} (h : ¬ f = 0) : step z q b f = (z, b, f) := by simp [step, h]
theorem step_e {α : Type} {z : α} {q : List UInt8 → Got α} {b : List UInt8} (h : ¬ (q b).e = 0) : step z q b 0 = (z, b, (q b).e) := by simp [step, h]
theorem step_ok {α : Type} {z : α} {q : List UInt8 → Got α} {b : List UInt8} (h : (q b).e = 0) : step z q b 0 = ((q b).v, b.drop (q b).n, 0) := by simp [step, h]
theorem qT_n {m : Int} {b : List UInt8} (h : (qT m b).e = 0) : (qT m b).n ≤ b.length := by
  unfold qT at h ⊢
  by_cases he : vE b = 0
  · have := vN_le he
    rw [if_neg (by simp [he])] at h ⊢
    by_cases h1 : m < (vU b : Int)
    · simp [h1] at h
    · rw [if_neg h1] at h ⊢
      by_cases h2 : b.length - vN b < vU b
      · simp [h2] at h
      · rw [if_neg h2]; simp only; omega
  · rw [if_pos he] at h; exact absurd h he
theorem qB_n {b : List UInt8} (h : (qB b).e = 0) : (qB b).n ≤ b.length := by
  cases b with
  | nil => simp [qB] at h
  | cons c r =>
    unfold qB at h ⊢
    simp only at h ⊢
    split at h
    · simp at h
    · rename_i hc; rw [if_neg hc]; simp
theorem qM_n {b : List UInt8} (h : (qM b).e = 0) : (qM b).n ≤ b.length := by
  unfold qM at h ⊢
  by_cases he : vE b = 0
  · have := vN_le he
    rw [if_neg (by simp [he])] at h ⊢
    by_cases he2 : vE (b.drop (vN b)) = 0
    · have hn := vN_le he2
      rw [List.length_drop] at hn
      rw [if_neg (by simp [he2])] at h ⊢
      split
      · simp only; omega
      · split
        · simp only; omega
        · simp only; omega
    · rw [if_pos he2] at h; exact absurd h he2
  · rw [if_pos he] at h; exact absurd h he
theorem tkS (b : List UInt8) (f : Int) (hb : b.length ≤ 1000000) : cc (ev X E0) 43 [AV.c (.ptr 0 0), AV.c (.fn 44 [])] [Box.cells [.pv (.str b), .pv (.int .i64 f)]] =
    some (AV.c (CV.pv (.int .u64 (step 0 qV b f).1)), [Box.cells [.pv (.str (step 0 qV b f).2.1), .pv (.int .i64 (step 0 qV b f).2.2)]]) := by
  by_cases hf : f = 0
  · subst hf
    by_cases he : vE b = 0
    · rw [step_ok (q := qV) he]; exact tk_3 b 0 rfl hb he (by have := vN_le he; omega)
    · rw [step_e (q := qV) he]; exact tk_2 b 0 rfl hb he
  · rw [step_f hf]; exact tk_1 b f hf
theorem qC_e (m : Int) (b : List UInt8) : (qC m b).e = cE m b := by unfold qC cE; split <;> (try rfl); split <;> rfl
theorem tcS (b : List UInt8) (f m : Int) (hb : b.length ≤ 1000000) (hm : m ≤ 9223372036854775807) : cc (ev X E0) 52 [AV.c (.ptr 0 0), AV.c (.fn 53 [1])] [Box.cells [.pv (.str b), .pv (.int .i64 f)], Box.cells [.pv (.int .i64 m)]] =
    some (AV.c (CV.pv (.int .i64 (step 0 (qC m) b f).1)), [Box.cells [.pv (.str (step 0 (qC m) b f).2.1), .pv (.int .i64 (step 0 (qC m) b f).2.2)], Box.cells [.pv (.int .i64 m)]]) := by
  by_cases hf : f = 0
  · subst hf
    have hq := qC_e m b
    by_cases he : cE m b = 0
    · have hv : vE b = 0 := by unfold cE at he; split at he <;> simp_all
      have hl : ¬ m < (vU b : Int) := by intro h; simp [cE, hv, h] at he
      have hq' : qC m b = ⟨vU b, vN b, 0⟩ := by unfold qC; rw [if_neg (by simp [hv]), if_neg hl]
      rw [step_ok (by rw [hq']), hq']
      have := tc_3 b 0 m rfl hb hm he (by have := vN_le hv; omega)
      rw [wi64 (by omega) (by omega)] at this
      exact this
    · rw [step_e (by rw [hq]; exact he), hq]; exact tc_2 b 0 m rfl hb hm he
  · rw [step_f hf]; exact tc_1 b f m hf
theorem txS (b : List UInt8) (f m : Int) (hb : b.length ≤ 1000000) (hm : m ≤ 9223372036854775807) : cc (ev X E0) 46 [AV.c (.ptr 0 0), AV.c (.fn 47 [1])] [Box.cells [.pv (.str b), .pv (.int .i64 f)], Box.cells [.pv (.int .i64 m)]] =
    some (AV.c (CV.pv (.str (step [] (qT m) b f).1)), [Box.cells [.pv (.str (step [] (qT m) b f).2.1), .pv (.int .i64 (step [] (qT m) b f).2.2)], Box.cells [.pv (.int .i64 m)]]) := by
  by_cases hf : f = 0
  · subst hf
    by_cases he : (qT m b).e = 0
    · rw [step_ok he]; exact tx_3 b 0 m rfl hb hm he (by have := qT_n he; omega)
    · rw [step_e he]; exact tx_2 b 0 m rfl hb hm he
  · rw [step_f hf]; exact tx_1 b f m hf
theorem tbS (b : List UInt8) (f : Int) : cc (ev X E0) 48 [AV.c (.ptr 0 0), AV.c (.fn 49 [])] [Box.cells [.pv (.str b), .pv (.int .i64 f)]] =
    some (AV.c (CV.pv (.bool (step false qB b f).1)), [Box.cells [.pv (.str (step false qB b f).2.1), .pv (.int .i64 (step false qB b f).2.2)]]) := by
  by_cases hf : f = 0
  · subst hf
    by_cases he : (qB b).e = 0
    · rw [step_ok he]; exact tb_3 b 0 rfl he (by have := qB_n he; omega)
    · rw [step_e he]; exact tb_2 b 0 rfl he
  · rw [step_f hf]; exact tb_1 b f hf
theorem tmS (b : List UInt8) (f : Int) (hb : b.length ≤ 1000000) : cc (ev X E0) 50 [AV.c (.ptr 0 0), AV.c (.fn 51 [])] [Box.cells [.pv (.str b), .pv (.int .i64 f)]] =
    some (AV.agg [.pv (.int .i64 (step (0, 0) qM b f).1.1), .pv (.int .i64 (step (0, 0) qM b f).1.2)], [Box.cells [.pv (.str (step (0, 0) qM b f).2.1), .pv (.int .i64 (step (0, 0) qM b f).2.2)]]) := by
  by_cases hf : f = 0
  · subst hf
    by_cases he : (qM b).e = 0
    · rw [step_ok he]; exact tm_3 b 0 rfl hb he (by have := qM_n he; omega)
    · rw [step_e he]; exact tm_2 b 0 rfl hb he
  · rw [step_f hf]; exact tm_1 b f hf
theorem step_v_lt (b : List UInt8) (f : Int) : (step 0 qV b f).1 < 18446744073709551616 := by
  unfold step
  split
  · simp
  · split
    · simp
    · exact vU_lt b
theorem RV_1 (b : List UInt8) (f : Int) (g1 : List.length b ≤ 1000000) :
    cc (ev X E0) 22 [AV.c (CV.ptr 0 0)] [Box.cells [CV.pv (PV.str b), CV.pv (PV.int .i64 f)]] = some (AV.c (CV.pv (PV.int .u64 (↑(Prod.fst (step 0 qV b f)) : Int))), [Box.cells [CV.pv (PV.str (Prod.fst (Prod.snd (step 0 qV b f)))), CV.pv (PV.int .i64 (Prod.snd (Prod.snd (step 0 qV b f))))]]) :=
  cc_path (x := xf22) rfl [It.call (AV.c (CV.pv (PV.int .u64 (↑(Prod.fst (step 0 qV b f)) : Int)))) [Box.cells [CV.pv (PV.str (Prod.fst (Prod.snd (step 0 qV b f)))), CV.pv (PV.int .i64 (Prod.snd (Prod.snd (step 0 qV b f))))]]]
    (c := [cc (ev X E0) 43 [AV.c (CV.ptr 0 0), AV.c (CV.fn 44 [])] [Box.cells [CV.pv (PV.str b), CV.pv (PV.int .i64 f)]] = some (AV.c (CV.pv (PV.int .u64 (↑(Prod.fst (step 0 qV b f)) : Int))), [Box.cells [CV.pv (PV.str (Prod.fst (Prod.snd (step 0 qV b f)))), CV.pv (PV.int .i64 (Prod.snd (Prod.snd (step 0 qV b f))))]])]) (by kernel_rfl)
    ⟨(tkS _ _ g1), trivial⟩
theorem RZ_1 (b : List UInt8) (f : Int) (g1 : List.length b ≤ 1000000) (g2 : 0 ≤ (↑(Prod.fst (step 0 qV b f)) : Int)) (g3 : (↑(Prod.fst (step 0 qV b f)) : Int) < 18446744073709551616) :
    cc (ev X E0) 23 [AV.c (CV.ptr 0 0)] [Box.cells [CV.pv (PV.str b), CV.pv (PV.int .i64 f)]] = some (AV.c (CV.pv (PV.int .i64 (sgn (Prod.fst (step 0 qV b f))))), [Box.cells [CV.pv (PV.str (Prod.fst (Prod.snd (step 0 qV b f)))), CV.pv (PV.int .i64 (Prod.snd (Prod.snd (step 0 qV b f))))]]) :=
  cc_path (x := xf23) rfl [It.call (AV.c (CV.pv (PV.int .u64 (↑(Prod.fst (step 0 qV b f)) : Int)))) [Box.cells [CV.pv (PV.str (Prod.fst (Prod.snd (step 0 qV b f)))), CV.pv (PV.int .i64 (Prod.snd (Prod.snd (step 0 qV b f))))]], It.call (AV.c (CV.pv (PV.int .i64 (sgn (Prod.fst (step 0 qV b f)))))) []]
    (c := [cc (ev X E0) 43 [AV.c (CV.ptr 0 0), AV.c (CV.fn 44 [])] [Box.cells [CV.pv (PV.str b), CV.pv (PV.int .i64 f)]] = some (AV.c (CV.pv (PV.int .u64 (↑(Prod.fst (step 0 qV b f)) : Int))), [Box.cells [CV.pv (PV.str (Prod.fst (Prod.snd (step 0 qV b f)))), CV.pv (PV.int .i64 (Prod.snd (Prod.snd (step 0 qV b f))))]]), cc (ev X E0) 45 [AV.c (CV.pv (PV.int .u64 (↑(Prod.fst (step 0 qV b f)) : Int)))] [] = some (AV.c (CV.pv (PV.int .i64 (sgn (Prod.fst (step 0 qV b f))))), [])]) (by kernel_rfl)
    ⟨(tkS _ _ g1), (signed _ g2 g3), trivial⟩
theorem RT_1 (b : List UInt8) (f : Int) (m : Int) (g1 : List.length b ≤ 1000000) (g2 : m ≤ 9223372036854775807) :
    cc (ev X E0) 24 [AV.c (CV.ptr 0 0), AV.c (CV.pv (PV.int .i64 m))] [Box.cells [CV.pv (PV.str b), CV.pv (PV.int .i64 f)]] = some (AV.c (CV.pv (PV.str (Prod.fst (step [] (qT m) b f)))), [Box.cells [CV.pv (PV.str (Prod.fst (Prod.snd (step [] (qT m) b f)))), CV.pv (PV.int .i64 (Prod.snd (Prod.snd (step [] (qT m) b f))))]]) :=
  cc_path (x := xf24) rfl [It.call (AV.c (CV.pv (PV.str (Prod.fst (step [] (qT m) b f))))) [Box.cells [CV.pv (PV.str (Prod.fst (Prod.snd (step [] (qT m) b f)))), CV.pv (PV.int .i64 (Prod.snd (Prod.snd (step [] (qT m) b f))))], Box.cells [CV.pv (PV.int .i64 m)]]]
    (c := [cc (ev X E0) 46 [AV.c (CV.ptr 0 0), AV.c (CV.fn 47 [1])] [Box.cells [CV.pv (PV.str b), CV.pv (PV.int .i64 f)], Box.cells [CV.pv (PV.int .i64 m)]] = some (AV.c (CV.pv (PV.str (Prod.fst (step [] (qT m) b f)))), [Box.cells [CV.pv (PV.str (Prod.fst (Prod.snd (step [] (qT m) b f)))), CV.pv (PV.int .i64 (Prod.snd (Prod.snd (step [] (qT m) b f))))], Box.cells [CV.pv (PV.int .i64 m)]])]) (by kernel_rfl)
    ⟨(txS _ _ _ g1 g2), trivial⟩
theorem RB_1 (b : List UInt8) (f : Int) :
    cc (ev X E0) 25 [AV.c (CV.ptr 0 0)] [Box.cells [CV.pv (PV.str b), CV.pv (PV.int .i64 f)]] = some (AV.c (CV.pv (PV.bool (Prod.fst (step false qB b f)))), [Box.cells [CV.pv (PV.str (Prod.fst (Prod.snd (step false qB b f)))), CV.pv (PV.int .i64 (Prod.snd (Prod.snd (step false qB b f))))]]) :=
  cc_path (x := xf25) rfl [It.call (AV.c (CV.pv (PV.bool (Prod.fst (step false qB b f))))) [Box.cells [CV.pv (PV.str (Prod.fst (Prod.snd (step false qB b f)))), CV.pv (PV.int .i64 (Prod.snd (Prod.snd (step false qB b f))))]]]
    (c := [cc (ev X E0) 48 [AV.c (CV.ptr 0 0), AV.c (CV.fn 49 [])] [Box.cells [CV.pv (PV.str b), CV.pv (PV.int .i64 f)]] = some (AV.c (CV.pv (PV.bool (Prod.fst (step false qB b f)))), [Box.cells [CV.pv (PV.str (Prod.fst (Prod.snd (step false qB b f)))), CV.pv (PV.int .i64 (Prod.snd (Prod.snd (step false qB b f))))]])]) (by kernel_rfl)
    ⟨(tbS _ _), trivial⟩
theorem RM_1 (b : List UInt8) (f : Int) (g1 : List.length b ≤ 1000000) :
    cc (ev X E0) 26 [AV.c (CV.ptr 0 0)] [Box.cells [CV.pv (PV.str b), CV.pv (PV.int .i64 f)]] = some (AV.agg [CV.pv (PV.int .i64 (Prod.fst (Prod.fst (step (0, 0) qM b f)))), CV.pv (PV.int .i64 (Prod.snd (Prod.fst (step (0, 0) qM b f))))], [Box.cells [CV.pv (PV.str (Prod.fst (Prod.snd (step (0, 0) qM b f)))), CV.pv (PV.int .i64 (Prod.snd (Prod.snd (step (0, 0) qM b f))))]]) :=
  cc_path (x := xf26) rfl [It.call (AV.agg [CV.pv (PV.int .i64 (Prod.fst (Prod.fst (step (0, 0) qM b f)))), CV.pv (PV.int .i64 (Prod.snd (Prod.fst (step (0, 0) qM b f))))]) [Box.cells [CV.pv (PV.str (Prod.fst (Prod.snd (step (0, 0) qM b f)))), CV.pv (PV.int .i64 (Prod.snd (Prod.snd (step (0, 0) qM b f))))]]]
    (c := [cc (ev X E0) 50 [AV.c (CV.ptr 0 0), AV.c (CV.fn 51 [])] [Box.cells [CV.pv (PV.str b), CV.pv (PV.int .i64 f)]] = some (AV.agg [CV.pv (PV.int .i64 (Prod.fst (Prod.fst (step (0, 0) qM b f)))), CV.pv (PV.int .i64 (Prod.snd (Prod.fst (step (0, 0) qM b f))))], [Box.cells [CV.pv (PV.str (Prod.fst (Prod.snd (step (0, 0) qM b f)))), CV.pv (PV.int .i64 (Prod.snd (Prod.snd (step (0, 0) qM b f))))]])]) (by kernel_rfl)
    ⟨(tmS _ _ g1), trivial⟩
theorem RC_1 (b : List UInt8) (f : Int) (m : Int) (g1 : List.length b ≤ 1000000) (g2 : m ≤ 9223372036854775807) :
    cc (ev X E0) 27 [AV.c (CV.ptr 0 0), AV.c (CV.pv (PV.int .i64 m))] [Box.cells [CV.pv (PV.str b), CV.pv (PV.int .i64 f)]] = some (AV.c (CV.pv (PV.int .i64 (↑(Prod.fst (step 0 (qC m) b f)) : Int))), [Box.cells [CV.pv (PV.str (Prod.fst (Prod.snd (step 0 (qC m) b f)))), CV.pv (PV.int .i64 (Prod.snd (Prod.snd (step 0 (qC m) b f))))]]) :=
  cc_path (x := xf27) rfl [It.call (AV.c (CV.pv (PV.int .i64 (↑(Prod.fst (step 0 (qC m) b f)) : Int)))) [Box.cells [CV.pv (PV.str (Prod.fst (Prod.snd (step 0 (qC m) b f)))), CV.pv (PV.int .i64 (Prod.snd (Prod.snd (step 0 (qC m) b f))))], Box.cells [CV.pv (PV.int .i64 m)]]]
    (c := [cc (ev X E0) 52 [AV.c (CV.ptr 0 0), AV.c (CV.fn 53 [1])] [Box.cells [CV.pv (PV.str b), CV.pv (PV.int .i64 f)], Box.cells [CV.pv (PV.int .i64 m)]] = some (AV.c (CV.pv (PV.int .i64 (↑(Prod.fst (step 0 (qC m) b f)) : Int))), [Box.cells [CV.pv (PV.str (Prod.fst (Prod.snd (step 0 (qC m) b f)))), CV.pv (PV.int .i64 (Prod.snd (Prod.snd (step 0 (qC m) b f))))], Box.cells [CV.pv (PV.int .i64 m)]])]) (by kernel_rfl)
    ⟨(tcS _ _ _ g1 g2), trivial⟩
theorem NR_1 (b : List UInt8) :
    cc (ev X E0) 14 [AV.c (CV.pv (PV.str b))] [] = some (AV.c (CV.ptr 0 0), [Box.cells [CV.pv (PV.str b), CV.pv (PV.int .i64 0)]]) :=
  cc_path (x := xf14) rfl []
    (c := []) (by kernel_rfl)
    trivial
theorem RFault_1 (b : List UInt8) (f : Int) :
    cc (ev X E0) 16 [AV.c (CV.ptr 0 0)] [Box.cells [CV.pv (PV.str b), CV.pv (PV.int .i64 f)]] = some (AV.c (CV.pv (PV.int .i64 f)), [Box.cells [CV.pv (PV.str b), CV.pv (PV.int .i64 f)]]) :=
  cc_path (x := xf16) rfl [It.br false]
    (c := [false = false]) (by kernel_rfl)
    ⟨rfl, trivial⟩
theorem RLeft_1 (b : List UInt8) (f : Int) :
    cc (ev X E0) 17 [AV.c (CV.ptr 0 0)] [Box.cells [CV.pv (PV.str b), CV.pv (PV.int .i64 f)]] = some (AV.c (CV.pv (PV.int .i64 (↑(List.length b) : Int))), [Box.cells [CV.pv (PV.str b), CV.pv (PV.int .i64 f)]]) :=
  cc_path (x := xf17) rfl [It.br false]
    (c := [false = false]) (by kernel_rfl)
    ⟨rfl, trivial⟩
theorem REnd_1 (b : List UInt8) (f : Int) (g1 : ¬f = 0) :
    cc (ev X E0) 18 [AV.c (CV.ptr 0 0)] [Box.cells [CV.pv (PV.str b), CV.pv (PV.int .i64 f)]] = some (AV.c (CV.pv (PV.int .i64 f)), [Box.cells [CV.pv (PV.str b), CV.pv (PV.int .i64 f)]]) :=
  cc_path (x := xf18) rfl [It.call (AV.c (CV.pv (PV.int .i64 f))) [Box.cells [CV.pv (PV.str b), CV.pv (PV.int .i64 f)]], It.br true]
    (c := [cc (ev X E0) 16 [AV.c (CV.ptr 0 0)] [Box.cells [CV.pv (PV.str b), CV.pv (PV.int .i64 f)]] = some (AV.c (CV.pv (PV.int .i64 f)), [Box.cells [CV.pv (PV.str b), CV.pv (PV.int .i64 f)]]), (f != 0) = true]) (by kernel_rfl)
    ⟨(RFault_1 _ _), (bne_iff_ne.mpr g1), trivial⟩
theorem REnd_2 (b : List UInt8) (f : Int) (g1 : f = 0) (g2 : (↑(List.length b) : Int) > 0) :
    cc (ev X E0) 18 [AV.c (CV.ptr 0 0)] [Box.cells [CV.pv (PV.str b), CV.pv (PV.int .i64 f)]] = some (AV.c (CV.pv (PV.int .i64 3)), [Box.cells [CV.pv (PV.str b), CV.pv (PV.int .i64 f)]]) :=
  cc_path (x := xf18) rfl [It.call (AV.c (CV.pv (PV.int .i64 f))) [Box.cells [CV.pv (PV.str b), CV.pv (PV.int .i64 f)]], It.br false, It.br true]
    (c := [cc (ev X E0) 16 [AV.c (CV.ptr 0 0)] [Box.cells [CV.pv (PV.str b), CV.pv (PV.int .i64 f)]] = some (AV.c (CV.pv (PV.int .i64 f)), [Box.cells [CV.pv (PV.str b), CV.pv (PV.int .i64 f)]]), (f != 0) = false, decide ((↑(List.length b) : Int) > 0) = true]) (by kernel_rfl)
    ⟨(RFault_1 _ _), (bne_f g1), (decide_eq_true g2), trivial⟩
theorem REnd_3 (b : List UInt8) (f : Int) (g1 : f = 0) (g2 : ¬(↑(List.length b) : Int) > 0) :
    cc (ev X E0) 18 [AV.c (CV.ptr 0 0)] [Box.cells [CV.pv (PV.str b), CV.pv (PV.int .i64 f)]] = some (AV.c (CV.pv (PV.int .i64 0)), [Box.cells [CV.pv (PV.str b), CV.pv (PV.int .i64 f)]]) :=
  cc_path (x := xf18) rfl [It.call (AV.c (CV.pv (PV.int .i64 f))) [Box.cells [CV.pv (PV.str b), CV.pv (PV.int .i64 f)]], It.br false, It.br false]
    (c := [cc (ev X E0) 16 [AV.c (CV.ptr 0 0)] [Box.cells [CV.pv (PV.str b), CV.pv (PV.int .i64 f)]] = some (AV.c (CV.pv (PV.int .i64 f)), [Box.cells [CV.pv (PV.str b), CV.pv (PV.int .i64 f)]]), (f != 0) = false, decide ((↑(List.length b) : Int) > 0) = false]) (by kernel_rfl)
    ⟨(RFault_1 _ _), (bne_f g1), (decide_eq_false g2), trivial⟩
end Go.Sx.Try
