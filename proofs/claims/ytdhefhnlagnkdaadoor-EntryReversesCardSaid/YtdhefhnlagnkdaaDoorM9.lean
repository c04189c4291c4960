/- The program's reader of code: its methods. -/
import Derived.Test.YtdhefhnlagnkdaaDoorQ9
namespace Go.Sx.Tryd
open Go Go.Sx
theorem step_f {α : Type} {z : α} {q : List UInt8 → Got α} {b : List UInt8} {f : Int} (h : ¬ f = 0) : step z q b f = (z, b, f) := by simp [step, h]
theorem step_e {α : Type} {z : α} {q : List UInt8 → Got α} {b : List UInt8} (h : ¬ (q b).e = 0) : step z q b 0 = (z, b, (q b).e) := by simp [step, h]
theorem step_ok {α : Type} {z : α} {q : List UInt8 → Got α} {b : List UInt8} (h : (q b).e = 0) : step z q b 0 = ((q b).v, b.drop (q b).n, 0) := by simp [step, h]
theorem qT_n {m : Int} {b : List UInt8} (h : (qT m b).e = 0) : (qT m b).n ≤ b.length := by
  unfold qT at h ⊢
  by_cases he : vE b = 0
  · have := vN_le he
    rw [if_neg (by simp [he])] at h ⊢
    by_cases h1 : m < (vU b : Int)
    · simp [h1] at h
    · rw [if_neg h1] at h ⊢
      by_cases h2 : b.length - vN b < vU b
      · simp [h2] at h
      · rw [if_neg h2]; simp only; omega
  · rw [if_pos he] at h; exact absurd h he
theorem qM_n {b : List UInt8} (h : (qM b).e = 0) : (qM b).n ≤ b.length := by
  unfold qM at h ⊢
  by_cases he : vE b = 0
  · have := vN_le he
    rw [if_neg (by simp [he])] at h ⊢
    by_cases he2 : vE (b.drop (vN b)) = 0
    · have hn := vN_le he2
      rw [List.length_drop] at hn
      rw [if_neg (by simp [he2])] at h ⊢
      split
      · simp only; omega
      · split
        · simp only; omega
        · simp only; omega
    · rw [if_pos he2] at h; exact absurd h he2
  · rw [if_pos he] at h; exact absurd h he
theorem tkS (b : List UInt8) (f : Int) (hb : b.length ≤ 1000000) : cc (ev X E0) 131 [AV.c (.ptr 0 0), AV.c (.fn 132 [])] [Box.cells [.pv (.str b), .pv (.int .i64 f)]] =
    some (AV.c (CV.pv (.int .u64 (step 0 qV b f).1)), [Box.cells [.pv (.str (step 0 qV b f).2.1), .pv (.int .i64 (step 0 qV b f).2.2)]]) := by
  by_cases hf : f = 0
  · subst hf
    by_cases he : vE b = 0
    · rw [step_ok (q := qV) he]; exact tk_3 b 0 rfl hb he (by have := vN_le he; omega)
    · rw [step_e (q := qV) he]; exact tk_2 b 0 rfl hb he
  · rw [step_f hf]; exact tk_1 b f hf
theorem qC_e (m : Int) (b : List UInt8) : (qC m b).e = cE m b := by unfold qC cE; split <;> (try rfl); split <;> rfl
theorem tcS (b : List UInt8) (f m : Int) (hb : b.length ≤ 1000000) (hm : m ≤ 9223372036854775807) : cc (ev X E0) 136 [AV.c (.ptr 0 0), AV.c (.fn 137 [1])] [Box.cells [.pv (.str b), .pv (.int .i64 f)], Box.cells [.pv (.int .i64 m)]] =
    some (AV.c (CV.pv (.int .i64 (step 0 (qC m) b f).1)), [Box.cells [.pv (.str (step 0 (qC m) b f).2.1), .pv (.int .i64 (step 0 (qC m) b f).2.2)], Box.cells [.pv (.int .i64 m)]]) := by
  by_cases hf : f = 0
  · subst hf
    have hq := qC_e m b
    by_cases he : cE m b = 0
    · have hv : vE b = 0 := by unfold cE at he; split at he <;> simp_all
      have hl : ¬ m < (vU b : Int) := by intro h; simp [cE, hv, h] at he
      have hq' : qC m b = ⟨vU b, vN b, 0⟩ := by unfold qC; rw [if_neg (by simp [hv]), if_neg hl]
      rw [step_ok (by rw [hq']), hq']
      have := tc_3 b 0 m rfl hb hm he (by have := vN_le hv; omega)
      rw [wi64 (by omega) (by omega)] at this
      exact this
    · rw [step_e (by rw [hq]; exact he), hq]; exact tc_2 b 0 m rfl hb hm he
  · rw [step_f hf]; exact tc_1 b f m hf
theorem txS (b : List UInt8) (f m : Int) (hb : b.length ≤ 1000000) (hm : m ≤ 9223372036854775807) : cc (ev X E0) 134 [AV.c (.ptr 0 0), AV.c (.fn 135 [1])] [Box.cells [.pv (.str b), .pv (.int .i64 f)], Box.cells [.pv (.int .i64 m)]] =
    some (AV.c (CV.pv (.str (step [] (qT m) b f).1)), [Box.cells [.pv (.str (step [] (qT m) b f).2.1), .pv (.int .i64 (step [] (qT m) b f).2.2)], Box.cells [.pv (.int .i64 m)]]) := by
  by_cases hf : f = 0
  · subst hf
    by_cases he : (qT m b).e = 0
    · rw [step_ok he]; exact tx_3 b 0 m rfl hb hm he (by have := qT_n he; omega)
    · rw [step_e he]; exact tx_2 b 0 m rfl hb hm he
  · rw [step_f hf]; exact tx_1 b f m hf
theorem tmS (b : List UInt8) (f : Int) (hb : b.length ≤ 1000000) : cc (ev X E0) 138 [AV.c (.ptr 0 0), AV.c (.fn 139 [])] [Box.cells [.pv (.str b), .pv (.int .i64 f)]] =
    some (AV.agg [.pv (.int .i64 (step (0, 0) qM b f).1.1), .pv (.int .i64 (step (0, 0) qM b f).1.2)], [Box.cells [.pv (.str (step (0, 0) qM b f).2.1), .pv (.int .i64 (step (0, 0) qM b f).2.2)]]) := by
  by_cases hf : f = 0
  · subst hf
    by_cases he : (qM b).e = 0
    · rw [step_ok he]; exact tm_3 b 0 rfl hb he (by have := qM_n he; omega)
    · rw [step_e he]; exact tm_2 b 0 rfl hb he
  · rw [step_f hf]; exact tm_1 b f hf
theorem step_v_lt (b : List UInt8) (f : Int) : (step 0 qV b f).1 < 18446744073709551616 := by
  unfold step
  split
  · simp
  · split
    · simp
    · exact vU_lt b
theorem RV_1 (b : List UInt8) (f : Int) (g1 : List.length b ≤ 1000000) :
    cc (ev X E0) 103 [AV.c (.ptr 0 0)] [.cells [.pv (.str b), vi f]] = some (AV.c (.pv (.int .u64 (↑(Prod.fst (step 0 qV b f)) : Int))), [.cells [.pv (.str (Prod.fst (Prod.snd (step 0 qV b f)))), vi (Prod.snd (Prod.snd (step 0 qV b f)))]]) :=
  cc_path (x := xf103) rfl [.call (AV.c (.pv (.int .u64 (↑(Prod.fst (step 0 qV b f)) : Int)))) [.cells [.pv (.str (Prod.fst (Prod.snd (step 0 qV b f)))), vi (Prod.snd (Prod.snd (step 0 qV b f)))]]]
    (c := [cc (ev X E0) 131 [AV.c (.ptr 0 0), AV.c (.fn 132 [])] [.cells [.pv (.str b), vi f]] = some (AV.c (.pv (.int .u64 (↑(Prod.fst (step 0 qV b f)) : Int))), [.cells [.pv (.str (Prod.fst (Prod.snd (step 0 qV b f)))), vi (Prod.snd (Prod.snd (step 0 qV b f)))]])]) (by kernel_rfl)
    ⟨(tkS _ _ g1), trivial⟩
theorem RZ_1 (b : List UInt8) (f : Int) (g1 : List.length b ≤ 1000000) (g2 : 0 ≤ (↑(Prod.fst (step 0 qV b f)) : Int)) (g3 : (↑(Prod.fst (step 0 qV b f)) : Int) < 18446744073709551616) :
    cc (ev X E0) 105 [AV.c (.ptr 0 0)] [.cells [.pv (.str b), vi f]] = some (AV.c (vi (sgn (Prod.fst (step 0 qV b f)))), [.cells [.pv (.str (Prod.fst (Prod.snd (step 0 qV b f)))), vi (Prod.snd (Prod.snd (step 0 qV b f)))]]) :=
  cc_path (x := xf105) rfl [.call (AV.c (.pv (.int .u64 (↑(Prod.fst (step 0 qV b f)) : Int)))) [.cells [.pv (.str (Prod.fst (Prod.snd (step 0 qV b f)))), vi (Prod.snd (Prod.snd (step 0 qV b f)))]], .call (AV.c (vi (sgn (Prod.fst (step 0 qV b f))))) []]
    (c := [cc (ev X E0) 131 [AV.c (.ptr 0 0), AV.c (.fn 132 [])] [.cells [.pv (.str b), vi f]] = some (AV.c (.pv (.int .u64 (↑(Prod.fst (step 0 qV b f)) : Int))), [.cells [.pv (.str (Prod.fst (Prod.snd (step 0 qV b f)))), vi (Prod.snd (Prod.snd (step 0 qV b f)))]]), cc (ev X E0) 133 [AV.c (.pv (.int .u64 (↑(Prod.fst (step 0 qV b f)) : Int)))] [] = some (AV.c (vi (sgn (Prod.fst (step 0 qV b f)))), [])]) (by kernel_rfl)
    ⟨(tkS _ _ g1), (signed _ g2 g3), trivial⟩
theorem RT_1 (b : List UInt8) (f : Int) (m : Int) (g1 : List.length b ≤ 1000000) (g2 : m ≤ 9223372036854775807) :
    cc (ev X E0) 106 [AV.c (.ptr 0 0), AV.c (vi m)] [.cells [.pv (.str b), vi f]] = some (AV.c (.pv (.str (Prod.fst (step [] (qT m) b f)))), [.cells [.pv (.str (Prod.fst (Prod.snd (step [] (qT m) b f)))), vi (Prod.snd (Prod.snd (step [] (qT m) b f)))]]) :=
  cc_path (x := xf106) rfl [.call (AV.c (.pv (.str (Prod.fst (step [] (qT m) b f))))) [.cells [.pv (.str (Prod.fst (Prod.snd (step [] (qT m) b f)))), vi (Prod.snd (Prod.snd (step [] (qT m) b f)))], .cells [vi m]]]
    (c := [cc (ev X E0) 134 [AV.c (.ptr 0 0), AV.c (.fn 135 [1])] [.cells [.pv (.str b), vi f], .cells [vi m]] = some (AV.c (.pv (.str (Prod.fst (step [] (qT m) b f)))), [.cells [.pv (.str (Prod.fst (Prod.snd (step [] (qT m) b f)))), vi (Prod.snd (Prod.snd (step [] (qT m) b f)))], .cells [vi m]])]) (by kernel_rfl)
    ⟨(txS _ _ _ g1 g2), trivial⟩
theorem RM_1 (b : List UInt8) (f : Int) (g1 : List.length b ≤ 1000000) :
    cc (ev X E0) 108 [AV.c (.ptr 0 0)] [.cells [.pv (.str b), vi f]] = some (AV.agg [vi (Prod.fst (Prod.fst (step (0, 0) qM b f))), vi (Prod.snd (Prod.fst (step (0, 0) qM b f)))], [.cells [.pv (.str (Prod.fst (Prod.snd (step (0, 0) qM b f)))), vi (Prod.snd (Prod.snd (step (0, 0) qM b f)))]]) :=
  cc_path (x := xf108) rfl [.call (AV.agg [vi (Prod.fst (Prod.fst (step (0, 0) qM b f))), vi (Prod.snd (Prod.fst (step (0, 0) qM b f)))]) [.cells [.pv (.str (Prod.fst (Prod.snd (step (0, 0) qM b f)))), vi (Prod.snd (Prod.snd (step (0, 0) qM b f)))]]]
    (c := [cc (ev X E0) 138 [AV.c (.ptr 0 0), AV.c (.fn 139 [])] [.cells [.pv (.str b), vi f]] = some (AV.agg [vi (Prod.fst (Prod.fst (step (0, 0) qM b f))), vi (Prod.snd (Prod.fst (step (0, 0) qM b f)))], [.cells [.pv (.str (Prod.fst (Prod.snd (step (0, 0) qM b f)))), vi (Prod.snd (Prod.snd (step (0, 0) qM b f)))]])]) (by kernel_rfl)
    ⟨(tmS _ _ g1), trivial⟩
theorem RC_1 (b : List UInt8) (f : Int) (m : Int) (g1 : List.length b ≤ 1000000) (g2 : m ≤ 9223372036854775807) :
    cc (ev X E0) 107 [AV.c (.ptr 0 0), AV.c (vi m)] [.cells [.pv (.str b), vi f]] = some (AV.c (vi (↑(Prod.fst (step 0 (qC m) b f)) : Int)), [.cells [.pv (.str (Prod.fst (Prod.snd (step 0 (qC m) b f)))), vi (Prod.snd (Prod.snd (step 0 (qC m) b f)))]]) :=
  cc_path (x := xf107) rfl [.call (AV.c (vi (↑(Prod.fst (step 0 (qC m) b f)) : Int))) [.cells [.pv (.str (Prod.fst (Prod.snd (step 0 (qC m) b f)))), vi (Prod.snd (Prod.snd (step 0 (qC m) b f)))], .cells [vi m]]]
    (c := [cc (ev X E0) 136 [AV.c (.ptr 0 0), AV.c (.fn 137 [1])] [.cells [.pv (.str b), vi f], .cells [vi m]] = some (AV.c (vi (↑(Prod.fst (step 0 (qC m) b f)) : Int)), [.cells [.pv (.str (Prod.fst (Prod.snd (step 0 (qC m) b f)))), vi (Prod.snd (Prod.snd (step 0 (qC m) b f)))], .cells [vi m]])]) (by kernel_rfl)
    ⟨(tcS _ _ _ g1 g2), trivial⟩
theorem NR_1 (b : List UInt8) :
    cc (ev X E0) 101 [AV.c (.pv (.str b))] [] = some (AV.c (.ptr 0 0), [.cells [.pv (.str b), vi 0]]) :=
  cc_path (x := xf101) rfl []
    (c := []) (by kernel_rfl)
    trivial
theorem RFault_1 (b : List UInt8) (f : Int) :
    cc (ev X E0) 140 [AV.c (.ptr 0 0)] [.cells [.pv (.str b), vi f]] = some (AV.c (vi f), [.cells [.pv (.str b), vi f]]) :=
  cc_path (x := xf140) rfl [.br false]
    (c := [false = false]) (by kernel_rfl)
    ⟨rfl, trivial⟩
theorem REnd_1 (b : List UInt8) (f : Int) (g1 : ¬f = 0) :
    cc (ev X E0) 109 [AV.c (.ptr 0 0)] [.cells [.pv (.str b), vi f]] = some (AV.c (vi f), [.cells [.pv (.str b), vi f]]) :=
  cc_path (x := xf109) rfl [.call (AV.c (vi f)) [.cells [.pv (.str b), vi f]], .br true]
    (c := [cc (ev X E0) 140 [AV.c (.ptr 0 0)] [.cells [.pv (.str b), vi f]] = some (AV.c (vi f), [.cells [.pv (.str b), vi f]]), (f != 0) = true]) (by kernel_rfl)
    ⟨(RFault_1 _ _), (bne_iff_ne.mpr g1), trivial⟩
theorem REnd_2 (b : List UInt8) (f : Int) (g1 : f = 0) (g2 : (↑(List.length b) : Int) > 0) :
    cc (ev X E0) 109 [AV.c (.ptr 0 0)] [.cells [.pv (.str b), vi f]] = some (AV.c (vi 3), [.cells [.pv (.str b), vi f]]) :=
  cc_path (x := xf109) rfl [.call (AV.c (vi f)) [.cells [.pv (.str b), vi f]], .br false, .br true]
    (c := [cc (ev X E0) 140 [AV.c (.ptr 0 0)] [.cells [.pv (.str b), vi f]] = some (AV.c (vi f), [.cells [.pv (.str b), vi f]]), (f != 0) = false, decide ((↑(List.length b) : Int) > 0) = true]) (by kernel_rfl)
    ⟨(RFault_1 _ _), (bne_f g1), (decide_eq_true g2), trivial⟩
theorem REnd_3 (b : List UInt8) (f : Int) (g1 : f = 0) (g2 : ¬(↑(List.length b) : Int) > 0) :
    cc (ev X E0) 109 [AV.c (.ptr 0 0)] [.cells [.pv (.str b), vi f]] = some (AV.c (vi 0), [.cells [.pv (.str b), vi f]]) :=
  cc_path (x := xf109) rfl [.call (AV.c (vi f)) [.cells [.pv (.str b), vi f]], .br false, .br false]
    (c := [cc (ev X E0) 140 [AV.c (.ptr 0 0)] [.cells [.pv (.str b), vi f]] = some (AV.c (vi f), [.cells [.pv (.str b), vi f]]), (f != 0) = false, decide ((↑(List.length b) : Int) > 0) = false]) (by kernel_rfl)
    ⟨(RFault_1 _ _), (bne_f g1), (decide_eq_false g2), trivial⟩
end Go.Sx.Tryd
