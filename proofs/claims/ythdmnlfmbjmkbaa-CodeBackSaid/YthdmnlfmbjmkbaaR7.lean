/- What the document's answer writes, and what a value's writing comes to. -/
import Derived.Test.YthdmnlfmbjmkbaaW7
namespace Go.Sx.Try
open Go Go.Sx
theorem rVl_1 (i : Nat) (n : Nat) (l : List UInt8) (g1 : (↑n : Int) > 127) (g2 : (↑(List.length (pvBytes l) + List.length [PV.int .u8 (IntKind.wrap .u8 (IntKind.wrap .u64 (Int.tmod (↑n : Int) 128 + 128)))]) : Int) * 1 ≤ 140737488355328) :
    lv (cv (ev X E0) xf33_l0) [false, false, false, true, true] 0 (St.mk (tmOf 22 [(3, AV.c (CV.own i 1 (pvBytes l))), (4, AV.int IntKind.u64 (↑n : Int))]) []) = lv (cv (ev X E0) xf33_l0) [false, false, false, true, true] 0 (St.mk (tmOf 22 [(3, AV.c (CV.own 959 1 (pvBytes l ++ [PV.int .u8 (IntKind.wrap .u8 (IntKind.wrap .u64 (Int.tmod (↑n : Int) 128 + 128)))]))), (4, AV.c (CV.pv (PV.int .u64 (IntKind.wrap .u64 (Int.tdiv (↑n : Int) 128)))))]) []) :=
  lv_next [It.br true]
    (c := [decide ((↑n : Int) > 127) = true, (128 : Int) ≠ (0 : Int), (↑(List.length (pvBytes l) + List.length [PV.int .u8 (IntKind.wrap .u8 (IntKind.wrap .u64 (Int.tmod (↑n : Int) 128 + 128)))]) : Int) * 1 ≤ 140737488355328, (128 : Int) ≠ (0 : Int)]) (by kernel_rfl)
    ⟨(decide_eq_true g1), (by decide), g2, (by decide), trivial⟩
theorem rVl_2 (i : Nat) (n : Nat) (l : List UInt8) (g1 : ¬(↑n : Int) > 127) :
    lv (cv (ev X E0) xf33_l0) [false, false, false, true, true] 0 (St.mk (tmOf 22 [(3, AV.c (CV.own i 1 (pvBytes l))), (4, AV.int IntKind.u64 (↑n : Int))]) []) = some (XExit.exit 0, St.mk (tmOf 22 [(3, AV.c (CV.own i 1 (pvBytes l))), (4, AV.c (CV.pv (PV.int .u64 (↑n : Int))))]) []) :=
  lv_exit [It.br false]
    (c := [decide ((↑n : Int) > 127) = false]) (by kernel_rfl)
    ⟨(decide_eq_false g1), trivial⟩
theorem rVn_1 (n : Nat) (g1 : (↑n : Int) > 127) (g2 : (↑(0 + List.length [PV.int .u8 (IntKind.wrap .u8 (IntKind.wrap .u64 (Int.tmod (↑n : Int) 128 + 128)))]) : Int) * 1 ≤ 140737488355328) :
    lv (cv (ev X E0) xf33_l0) [false, false, false, true, true] 0 (St.mk (tmOf 22 [(3, AV.c (CV.pv (PV.sl SO.nil 0 []))), (4, AV.int IntKind.u64 (↑n : Int))]) []) = lv (cv (ev X E0) xf33_l0) [false, false, false, true, true] 0 (St.mk (tmOf 22 [(3, AV.c (CV.own 959 1 [PV.int .u8 (IntKind.wrap .u8 (IntKind.wrap .u64 (Int.tmod (↑n : Int) 128 + 128)))])), (4, AV.c (CV.pv (PV.int .u64 (IntKind.wrap .u64 (Int.tdiv (↑n : Int) 128)))))]) []) :=
  lv_next [It.br true, It.emp false]
    (c := [decide ((↑n : Int) > 127) = true, (128 : Int) ≠ (0 : Int), [PV.int .u8 (IntKind.wrap .u8 (IntKind.wrap .u64 (Int.tmod (↑n : Int) 128 + 128)))] ≠ [], (↑(0 + List.length [PV.int .u8 (IntKind.wrap .u8 (IntKind.wrap .u64 (Int.tmod (↑n : Int) 128 + 128)))]) : Int) * 1 ≤ 140737488355328, (128 : Int) ≠ (0 : Int)]) (by kernel_rfl)
    ⟨(decide_eq_true g1), (by decide), (List.cons_ne_nil _ _), g2, (by decide), trivial⟩
theorem rVn_2 (n : Nat) (g1 : ¬(↑n : Int) > 127) :
    lv (cv (ev X E0) xf33_l0) [false, false, false, true, true] 0 (St.mk (tmOf 22 [(3, AV.c (CV.pv (PV.sl SO.nil 0 []))), (4, AV.int IntKind.u64 (↑n : Int))]) []) = some (XExit.exit 0, St.mk (tmOf 22 [(3, AV.c (CV.pv (PV.sl SO.nil 0 []))), (4, AV.c (CV.pv (PV.int .u64 (↑n : Int))))]) []) :=
  lv_exit [It.br false]
    (c := [decide ((↑n : Int) > 127) = false]) (by kernel_rfl)
    ⟨(decide_eq_false g1), trivial⟩
theorem div128 (n : Nat) (h : n < 18446744073709551616) : IntKind.wrap .u64 (Int.tdiv (n : Int) 128) = ((n / 128 : Nat) : Int) := by
  rw [wu64, Int.tdiv_eq_ediv_of_nonneg (by omega)]; omega
theorem rVl (n : Nat) : ∀ (i : Nat) (l : List UInt8) (hn : n < 18446744073709551616) (hl : l.length + (vb n).length ≤ 100000000000000),
    lv (cv (ev X E0) xf33_l0) [false, false, false, true, true] 0 (St.mk (tmOf 22 [(3, AV.c (.own i 1 (pvBytes l))), (4, AV.c (CV.pv (PV.int .u64 (n : Int))))]) []) =
      some (.exit 0, St.mk (tmOf 22 [(3, AV.c (.own (vid i 959 n) 1 (pvBytes (l ++ vpre n)))), (4, AV.c (CV.pv (PV.int .u64 (vlast n : Int))))]) []) := by
  induction n using Nat.strongRecOn with
  | ind n ih =>
    intro i l hn hl
    rw [show AV.c (CV.pv (PV.int .u64 (n : Int))) = AV.int .u64 n from rfl]
    by_cases h : n < 128
    · rw [vlast, if_pos h, vpre, if_pos h, vid, if_pos h, List.append_nil]
      exact rVl_2 i n l (by omega)
    · rw [vlast, if_neg h, vpre, if_neg h, vid, if_neg h]
      have hb : (vb n).length = (vb (n / 128)).length + 1 := by rw [vb, if_neg h]; rfl
      rw [rVl_1 i n l (by omega) (by simp only [pvBytes_length, List.length_singleton]; omega)]
      rw [pvByte (refByte n) (by omega), ← pvBytes_append, div128 n hn]
      rw [ih (n / 128) (by omega) 959 _ (by omega) (by simp only [List.length_append, List.length_singleton]; omega)]
      simp only [vid, ite_self, List.append_assoc, List.singleton_append]
theorem rVn1 (n : Nat) (h : n < 128) :
    lv (cv (ev X E0) xf33_l0) [false, false, false, true, true] 0 (St.mk (tmOf 22 [(3, AV.c (CV.pv (PV.sl SO.nil 0 []))), (4, AV.c (CV.pv (PV.int .u64 (n : Int))))]) []) =
      some (.exit 0, St.mk (tmOf 22 [(3, AV.c (CV.pv (PV.sl SO.nil 0 []))), (4, AV.c (CV.pv (PV.int .u64 (n : Int))))]) []) := rVn_2 n (by omega)
theorem rVn2 (n : Nat) (h : ¬ n < 128) (hn : n < 18446744073709551616) :
    lv (cv (ev X E0) xf33_l0) [false, false, false, true, true] 0 (St.mk (tmOf 22 [(3, AV.c (CV.pv (PV.sl SO.nil 0 []))), (4, AV.c (CV.pv (PV.int .u64 (n : Int))))]) []) =
      some (.exit 0, St.mk (tmOf 22 [(3, AV.c (.own (vid 959 959 (n / 128)) 1 (pvBytes (vpre n)))), (4, AV.c (CV.pv (PV.int .u64 (vlast n : Int))))]) []) := by
  have hb := vb_len10 hn
  have hb' : (vb n).length = (vb (n / 128)).length + 1 := by rw [vb, if_neg h]; rfl
  rw [show AV.c (CV.pv (PV.int .u64 (n : Int))) = AV.int .u64 n from rfl]
  rw [vlast, if_neg h, vpre, if_neg h, rVn_1 n (by omega) (by simp), pvByte (refByte n) (by omega), div128 n hn]
  rw [rVl (n / 128) 959 _ (by omega) (by simp only [List.length_singleton]; omega)]
  rfl
theorem rV_1 (n : Nat) (g1 : n < 128) (g2 : (↑(0 + List.length [PV.int .u8 (IntKind.wrap .u8 (↑n : Int))]) : Int) * 1 ≤ 140737488355328) :
    cc (ev X E0) 33 [AV.c (CV.pv (PV.int .u64 (↑n : Int)))] [] = some (AV.c (CV.own 0 1 [PV.int .u8 (IntKind.wrap .u8 (↑n : Int))]), []) :=
  cc_path (x := xf33) rfl [It.loop (XExit.exit 0) (St.mk (tmOf 22 [(3, AV.c (CV.pv (PV.sl SO.nil 0 []))), (4, AV.c (CV.pv (PV.int .u64 (↑n : Int))))]) []), It.emp false]
    (c := [lv (cv (ev X E0) xf33_l0) [false, false, false, true, true] 0 (St.mk (tmOf 22 [(3, AV.c (CV.pv (PV.sl SO.nil 0 []))), (4, AV.c (CV.pv (PV.int .u64 (↑n : Int))))]) []) = some (XExit.exit 0, St.mk (tmOf 22 [(3, AV.c (CV.pv (PV.sl SO.nil 0 []))), (4, AV.c (CV.pv (PV.int .u64 (↑n : Int))))]) []), [PV.int .u8 (IntKind.wrap .u8 (↑n : Int))] ≠ [], (↑(0 + List.length [PV.int .u8 (IntKind.wrap .u8 (↑n : Int))]) : Int) * 1 ≤ 140737488355328]) (by kernel_rfl)
    ⟨(rVn1 _ g1), (List.cons_ne_nil _ _), g2, trivial⟩
theorem rW_1 (n : Nat) (g1 : ¬n < 128) (g2 : n < 18446744073709551616) (g3 : (↑(List.length (pvBytes (vpre n)) + List.length [PV.int .u8 (IntKind.wrap .u8 (↑(vlast n) : Int))]) : Int) * 1 ≤ 140737488355328) :
    cc (ev X E0) 33 [AV.c (CV.pv (PV.int .u64 (↑n : Int)))] [] = some (AV.c (CV.own 0 1 (pvBytes (vpre n) ++ [PV.int .u8 (IntKind.wrap .u8 (↑(vlast n) : Int))])), []) :=
  cc_path (x := xf33) rfl [It.loop (XExit.exit 0) (St.mk (tmOf 22 [(3, AV.c (CV.own (vid 959 959 (n / 128)) 1 (pvBytes (vpre n)))), (4, AV.c (CV.pv (PV.int .u64 (↑(vlast n) : Int))))]) [])]
    (c := [lv (cv (ev X E0) xf33_l0) [false, false, false, true, true] 0 (St.mk (tmOf 22 [(3, AV.c (CV.pv (PV.sl SO.nil 0 []))), (4, AV.c (CV.pv (PV.int .u64 (↑n : Int))))]) []) = some (XExit.exit 0, St.mk (tmOf 22 [(3, AV.c (CV.own (vid 959 959 (n / 128)) 1 (pvBytes (vpre n)))), (4, AV.c (CV.pv (PV.int .u64 (↑(vlast n) : Int))))]) []), (↑(List.length (pvBytes (vpre n)) + List.length [PV.int .u8 (IntKind.wrap .u8 (↑(vlast n) : Int))]) : Int) * 1 ≤ 140737488355328]) (by kernel_rfl)
    ⟨(rVn2 _ g1 g2), g3, trivial⟩
theorem rVint (u : Int) (h0 : 0 ≤ u) (hn : u < 18446744073709551616) :
    cc (ev X E0) 33 [AV.int .u64 u] [] = some (.c (.own 0 1 (pvBytes (vb u.toNat))), []) := by
  obtain ⟨n, rfl⟩ := Int.eq_ofNat_of_zero_le h0
  simp only [Int.toNat_natCast]
  rw [show AV.int .u64 (n : Int) = AV.c (CV.pv (PV.int .u64 (n : Int))) from rfl]
  by_cases h : n < 128
  · rw [rV_1 n h (by simp), pvByte (n := n) (by rw [wu8]; omega) (by omega), vb, if_pos h]
  · have h' := vpre_length n
    have h2 := vb_len10 (n := n) (by omega)
    have := vbEnd [] n
    simp only [List.nil_append] at this
    rw [rW_1 n h (by omega) (by simp only [pvBytes_length, List.length_singleton]; omega), this]
theorem rZ_1 (n : Int) (g1 : n ≥ 0) :
    cc (ev X E0) 34 [AV.c (CV.pv (PV.int .i64 n))] [] = some (AV.c (CV.pv (PV.int .u64 (IntKind.wrap .u64 (2 * IntKind.wrap .u64 n)))), []) :=
  cc_path (x := xf34) rfl [It.br true]
    (c := [decide (n ≥ 0) = true]) (by kernel_rfl)
    ⟨(decide_eq_true g1), trivial⟩
theorem rZ_2 (n : Int) (g1 : ¬n ≥ 0) :
    cc (ev X E0) 34 [AV.c (CV.pv (PV.int .i64 n))] [] = some (AV.c (CV.pv (PV.int .u64 (IntKind.wrap .u64 (IntKind.wrap .u64 (2 * IntKind.wrap .u64 (IntKind.wrap .i64 (0 - IntKind.wrap .i64 (n + 1)))) + 1)))), []) :=
  cc_path (x := xf34) rfl [It.br false]
    (c := [decide (n ≥ 0) = false]) (by kernel_rfl)
    ⟨(decide_eq_false g1), trivial⟩
theorem rZig (n : Int) (h : -9223372036854775808 ≤ n) (h' : n ≤ 9223372036854775807) :
    cc (ev X E0) 34 [AV.int .i64 n] [] = some (AV.int .u64 (zz n), []) := by
  rw [show AV.int .i64 n = AV.c (CV.pv (PV.int .i64 n)) from rfl]
  by_cases h0 : n ≥ 0
  · rw [rZ_1 n h0]
    rw [show IntKind.wrap .u64 (2 * IntKind.wrap .u64 n) = ((zz n : Nat) : Int) by rw [wu64, wu64, zz, if_pos h0]; omega]
  · rw [rZ_2 n h0]
    rw [wi64 (n := n + 1) (by omega) (by omega), wi64 (by omega) (by omega)]
    rw [show IntKind.wrap .u64 (IntKind.wrap .u64 (2 * IntKind.wrap .u64 (0 - (n + 1))) + 1) = ((zz n : Nat) : Int) by simp only [wu64]; rw [zz, if_neg (by omega)]; omega]
theorem rT_1 (s : List UInt8) (g1 : 0 ≤ IntKind.wrap .u64 (↑(List.length s) : Int)) (g2 : IntKind.wrap .u64 (↑(List.length s) : Int) < 18446744073709551616) (g3 : pvBytes (vb (Int.toNat (IntKind.wrap .u64 (↑(List.length s) : Int)))) = []) (g4 : pvBytes s = []) :
    cc (ev X E0) 35 [AV.c (CV.pv (PV.str s))] [] = some (AV.c (CV.pv (PV.sl SO.full 1 [])), []) :=
  cc_path (x := xf35) rfl [It.call (AV.c (CV.own 0 1 (pvBytes (vb (Int.toNat (IntKind.wrap .u64 (↑(List.length s) : Int))))))) [], It.emp true, It.emp true]
    (c := [cc (ev X E0) 33 [AV.c (CV.pv (PV.int .u64 (IntKind.wrap .u64 (↑(List.length s) : Int))))] [] = some (AV.c (CV.own 0 1 (pvBytes (vb (Int.toNat (IntKind.wrap .u64 (↑(List.length s) : Int)))))), []), pvBytes (vb (Int.toNat (IntKind.wrap .u64 (↑(List.length s) : Int)))) = [], pvBytes s = []]) (by kernel_rfl)
    ⟨(rVint _ g1 g2), g3, g4, trivial⟩
theorem rT_2 (s : List UInt8) (g1 : 0 ≤ IntKind.wrap .u64 (↑(List.length s) : Int)) (g2 : IntKind.wrap .u64 (↑(List.length s) : Int) < 18446744073709551616) (g3 : pvBytes (vb (Int.toNat (IntKind.wrap .u64 (↑(List.length s) : Int)))) = []) (g4 : pvBytes s ≠ []) (g5 : (↑(0 + List.length (pvBytes s)) : Int) * 1 ≤ 140737488355328) :
    cc (ev X E0) 35 [AV.c (CV.pv (PV.str s))] [] = some (AV.c (CV.own 0 1 ([] ++ pvBytes s)), []) :=
  cc_path (x := xf35) rfl [It.call (AV.c (CV.own 0 1 (pvBytes (vb (Int.toNat (IntKind.wrap .u64 (↑(List.length s) : Int))))))) [], It.emp true, It.emp false]
    (c := [cc (ev X E0) 33 [AV.c (CV.pv (PV.int .u64 (IntKind.wrap .u64 (↑(List.length s) : Int))))] [] = some (AV.c (CV.own 0 1 (pvBytes (vb (Int.toNat (IntKind.wrap .u64 (↑(List.length s) : Int)))))), []), pvBytes (vb (Int.toNat (IntKind.wrap .u64 (↑(List.length s) : Int)))) = [], pvBytes s ≠ [], (↑(0 + List.length (pvBytes s)) : Int) * 1 ≤ 140737488355328]) (by kernel_rfl)
    ⟨(rVint _ g1 g2), g3, g4, g5, trivial⟩
theorem rT_3 (s : List UInt8) (g1 : 0 ≤ IntKind.wrap .u64 (↑(List.length s) : Int)) (g2 : IntKind.wrap .u64 (↑(List.length s) : Int) < 18446744073709551616) (g3 : pvBytes (vb (Int.toNat (IntKind.wrap .u64 (↑(List.length s) : Int)))) ≠ []) (g4 : (↑(0 + List.length (pvBytes (vb (Int.toNat (IntKind.wrap .u64 (↑(List.length s) : Int)))))) : Int) * 1 ≤ 140737488355328) (g5 : (↑(List.length ([] ++ pvBytes (vb (Int.toNat (IntKind.wrap .u64 (↑(List.length s) : Int))))) + List.length (pvBytes s)) : Int) * 1 ≤ 140737488355328) :
    cc (ev X E0) 35 [AV.c (CV.pv (PV.str s))] [] = some (AV.c (CV.own 0 1 ([] ++ pvBytes (vb (Int.toNat (IntKind.wrap .u64 (↑(List.length s) : Int)))) ++ pvBytes s)), []) :=
  cc_path (x := xf35) rfl [It.call (AV.c (CV.own 0 1 (pvBytes (vb (Int.toNat (IntKind.wrap .u64 (↑(List.length s) : Int))))))) [], It.emp false]
    (c := [cc (ev X E0) 33 [AV.c (CV.pv (PV.int .u64 (IntKind.wrap .u64 (↑(List.length s) : Int))))] [] = some (AV.c (CV.own 0 1 (pvBytes (vb (Int.toNat (IntKind.wrap .u64 (↑(List.length s) : Int)))))), []), pvBytes (vb (Int.toNat (IntKind.wrap .u64 (↑(List.length s) : Int)))) ≠ [], (↑(0 + List.length (pvBytes (vb (Int.toNat (IntKind.wrap .u64 (↑(List.length s) : Int)))))) : Int) * 1 ≤ 140737488355328, (↑(List.length ([] ++ pvBytes (vb (Int.toNat (IntKind.wrap .u64 (↑(List.length s) : Int))))) + List.length (pvBytes s)) : Int) * 1 ≤ 140737488355328]) (by kernel_rfl)
    ⟨(rVint _ g1 g2), g3, g4, g5, trivial⟩
theorem pv_ne {l : List UInt8} (h : 0 < l.length) : pvBytes l ≠ [] := by
  cases l with
  | nil => simp at h
  | cons a l => simp [pvBytes]
theorem rText (s : List UInt8) (hs : s.length ≤ 1000000) :
    cc (ev X E0) 35 [AV.s s] [] = some (.c (.own 0 1 (pvBytes (tb s))), []) := by
  have h := rT_3 s
  have hv := vb_small (n := s.length) (by omega)
  rw [vb_toNat (by omega), wu64] at h
  simp only [List.nil_append, ← pvBytes_append] at h
  exact h (by omega) (by omega) (pv_ne (vb_pos _)) (by simp only [pvBytes_length]; omega) (by simp only [pvBytes_length]; omega)
theorem rM_1 (c : Int) (m : Int) (g1 : -9223372036854775808 ≤ c) (g2 : c ≤ 9223372036854775807) (g3 : 0 ≤ (↑(zz c) : Int)) (g4 : (↑(zz c) : Int) < 18446744073709551616) (g5 : pvBytes (vb (Int.toNat (↑(zz c) : Int))) = []) (g6 : -9223372036854775808 ≤ m) (g7 : m ≤ 9223372036854775807) (g8 : 0 ≤ (↑(zz m) : Int)) (g9 : (↑(zz m) : Int) < 18446744073709551616) (g10 : pvBytes (vb (Int.toNat (↑(zz m) : Int))) = []) :
    cc (ev X E0) 36 [AV.agg [CV.pv (PV.int .i64 c), CV.pv (PV.int .i64 m)]] [] = some (AV.c (CV.pv (PV.sl SO.full 1 [])), []) :=
  cc_path (x := xf36) rfl [It.call (AV.c (CV.pv (PV.int .u64 (↑(zz c) : Int)))) [], It.call (AV.c (CV.own 0 1 (pvBytes (vb (Int.toNat (↑(zz c) : Int)))))) [], It.emp true, It.call (AV.c (CV.pv (PV.int .u64 (↑(zz m) : Int)))) [], It.call (AV.c (CV.own 0 1 (pvBytes (vb (Int.toNat (↑(zz m) : Int)))))) [], It.emp true]
    (c := [cc (ev X E0) 34 [AV.c (CV.pv (PV.int .i64 c))] [] = some (AV.c (CV.pv (PV.int .u64 (↑(zz c) : Int))), []), cc (ev X E0) 33 [AV.c (CV.pv (PV.int .u64 (↑(zz c) : Int)))] [] = some (AV.c (CV.own 0 1 (pvBytes (vb (Int.toNat (↑(zz c) : Int))))), []), pvBytes (vb (Int.toNat (↑(zz c) : Int))) = [], cc (ev X E0) 34 [AV.c (CV.pv (PV.int .i64 m))] [] = some (AV.c (CV.pv (PV.int .u64 (↑(zz m) : Int))), []), cc (ev X E0) 33 [AV.c (CV.pv (PV.int .u64 (↑(zz m) : Int)))] [] = some (AV.c (CV.own 0 1 (pvBytes (vb (Int.toNat (↑(zz m) : Int))))), []), pvBytes (vb (Int.toNat (↑(zz m) : Int))) = []]) (by kernel_rfl)
    ⟨(rZig _ g1 g2), (rVint _ g3 g4), g5, (rZig _ g6 g7), (rVint _ g8 g9), g10, trivial⟩
theorem rM_2 (c : Int) (m : Int) (g1 : -9223372036854775808 ≤ c) (g2 : c ≤ 9223372036854775807) (g3 : 0 ≤ (↑(zz c) : Int)) (g4 : (↑(zz c) : Int) < 18446744073709551616) (g5 : pvBytes (vb (Int.toNat (↑(zz c) : Int))) = []) (g6 : -9223372036854775808 ≤ m) (g7 : m ≤ 9223372036854775807) (g8 : 0 ≤ (↑(zz m) : Int)) (g9 : (↑(zz m) : Int) < 18446744073709551616) (g10 : pvBytes (vb (Int.toNat (↑(zz m) : Int))) ≠ []) (g11 : (↑(0 + List.length (pvBytes (vb (Int.toNat (↑(zz m) : Int))))) : Int) * 1 ≤ 140737488355328) :
    cc (ev X E0) 36 [AV.agg [CV.pv (PV.int .i64 c), CV.pv (PV.int .i64 m)]] [] = some (AV.c (CV.own 0 1 ([] ++ pvBytes (vb (Int.toNat (↑(zz m) : Int))))), []) :=
  cc_path (x := xf36) rfl [It.call (AV.c (CV.pv (PV.int .u64 (↑(zz c) : Int)))) [], It.call (AV.c (CV.own 0 1 (pvBytes (vb (Int.toNat (↑(zz c) : Int)))))) [], It.emp true, It.call (AV.c (CV.pv (PV.int .u64 (↑(zz m) : Int)))) [], It.call (AV.c (CV.own 0 1 (pvBytes (vb (Int.toNat (↑(zz m) : Int)))))) [], It.emp false]
    (c := [cc (ev X E0) 34 [AV.c (CV.pv (PV.int .i64 c))] [] = some (AV.c (CV.pv (PV.int .u64 (↑(zz c) : Int))), []), cc (ev X E0) 33 [AV.c (CV.pv (PV.int .u64 (↑(zz c) : Int)))] [] = some (AV.c (CV.own 0 1 (pvBytes (vb (Int.toNat (↑(zz c) : Int))))), []), pvBytes (vb (Int.toNat (↑(zz c) : Int))) = [], cc (ev X E0) 34 [AV.c (CV.pv (PV.int .i64 m))] [] = some (AV.c (CV.pv (PV.int .u64 (↑(zz m) : Int))), []), cc (ev X E0) 33 [AV.c (CV.pv (PV.int .u64 (↑(zz m) : Int)))] [] = some (AV.c (CV.own 0 1 (pvBytes (vb (Int.toNat (↑(zz m) : Int))))), []), pvBytes (vb (Int.toNat (↑(zz m) : Int))) ≠ [], (↑(0 + List.length (pvBytes (vb (Int.toNat (↑(zz m) : Int))))) : Int) * 1 ≤ 140737488355328]) (by kernel_rfl)
    ⟨(rZig _ g1 g2), (rVint _ g3 g4), g5, (rZig _ g6 g7), (rVint _ g8 g9), g10, g11, trivial⟩
theorem rM_3 (c : Int) (m : Int) (g1 : -9223372036854775808 ≤ c) (g2 : c ≤ 9223372036854775807) (g3 : 0 ≤ (↑(zz c) : Int)) (g4 : (↑(zz c) : Int) < 18446744073709551616) (g5 : pvBytes (vb (Int.toNat (↑(zz c) : Int))) ≠ []) (g6 : (↑(0 + List.length (pvBytes (vb (Int.toNat (↑(zz c) : Int))))) : Int) * 1 ≤ 140737488355328) (g7 : -9223372036854775808 ≤ m) (g8 : m ≤ 9223372036854775807) (g9 : 0 ≤ (↑(zz m) : Int)) (g10 : (↑(zz m) : Int) < 18446744073709551616) (g11 : (↑(List.length ([] ++ pvBytes (vb (Int.toNat (↑(zz c) : Int)))) + List.length (pvBytes (vb (Int.toNat (↑(zz m) : Int))))) : Int) * 1 ≤ 140737488355328) :
    cc (ev X E0) 36 [AV.agg [CV.pv (PV.int .i64 c), CV.pv (PV.int .i64 m)]] [] = some (AV.c (CV.own 0 1 ([] ++ pvBytes (vb (Int.toNat (↑(zz c) : Int))) ++ pvBytes (vb (Int.toNat (↑(zz m) : Int))))), []) :=
  cc_path (x := xf36) rfl [It.call (AV.c (CV.pv (PV.int .u64 (↑(zz c) : Int)))) [], It.call (AV.c (CV.own 0 1 (pvBytes (vb (Int.toNat (↑(zz c) : Int)))))) [], It.emp false, It.call (AV.c (CV.pv (PV.int .u64 (↑(zz m) : Int)))) [], It.call (AV.c (CV.own 0 1 (pvBytes (vb (Int.toNat (↑(zz m) : Int)))))) []]
    (c := [cc (ev X E0) 34 [AV.c (CV.pv (PV.int .i64 c))] [] = some (AV.c (CV.pv (PV.int .u64 (↑(zz c) : Int))), []), cc (ev X E0) 33 [AV.c (CV.pv (PV.int .u64 (↑(zz c) : Int)))] [] = some (AV.c (CV.own 0 1 (pvBytes (vb (Int.toNat (↑(zz c) : Int))))), []), pvBytes (vb (Int.toNat (↑(zz c) : Int))) ≠ [], (↑(0 + List.length (pvBytes (vb (Int.toNat (↑(zz c) : Int))))) : Int) * 1 ≤ 140737488355328, cc (ev X E0) 34 [AV.c (CV.pv (PV.int .i64 m))] [] = some (AV.c (CV.pv (PV.int .u64 (↑(zz m) : Int))), []), cc (ev X E0) 33 [AV.c (CV.pv (PV.int .u64 (↑(zz m) : Int)))] [] = some (AV.c (CV.own 0 1 (pvBytes (vb (Int.toNat (↑(zz m) : Int))))), []), (↑(List.length ([] ++ pvBytes (vb (Int.toNat (↑(zz c) : Int)))) + List.length (pvBytes (vb (Int.toNat (↑(zz m) : Int))))) : Int) * 1 ≤ 140737488355328]) (by kernel_rfl)
    ⟨(rZig _ g1 g2), (rVint _ g3 g4), g5, g6, (rZig _ g7 g8), (rVint _ g9 g10), g11, trivial⟩
theorem rMoney (c m : Int) (h1 : -9223372036854775808 ≤ c) (h2 : c ≤ 9223372036854775807) (h3 : -9223372036854775808 ≤ m) (h4 : m ≤ 9223372036854775807) :
    cc (ev X E0) 36 [AV.agg [.pv (.int .i64 c), .pv (.int .i64 m)]] [] = some (.c (.own 0 1 (pvBytes (mb c m))), []) := by
  have hc := zz_lt h1 h2
  have hm := zz_lt h3 h4
  have h := rM_3 c m h1 h2 (by omega) (by omega) (pv_ne (vb_pos _)) (by have := vb_len10 hc; simp only [pvBytes_length, Int.toNat_natCast]; omega) h3 h4 (by omega) (by omega)
    (by have := vb_len10 hc; have := vb_len10 hm; simp only [List.nil_append, pvBytes_length, Int.toNat_natCast]; omega)
  simp only [List.nil_append, ← pvBytes_append, Int.toNat_natCast] at h
  exact h
/-- A value. -/
structure Val where
  kind : Int
  u : Int
  n : Int
  s : List UInt8
  c : Int
  m : Int
def Val.cells (v : Val) : List CV := [.pv (.int .u8 v.kind), .pv (.int .u64 v.u), .pv (.int .i64 v.n), .pv (.str v.s), .pv (.int .i64 v.c), .pv (.int .i64 v.m)]
def Val.pv (v : Val) : PV := .agg [.int .u8 v.kind, .int .u64 v.u, .int .i64 v.n, .str v.s, .int .i64 v.c, .int .i64 v.m]
structure Val.Ok (v : Val) : Prop where
  k0 : 0 ≤ v.kind
  k1 : v.kind ≤ 255
  u0 : 0 ≤ v.u
  u1 : v.u ≤ 18446744073709551615
  n0 : -9223372036854775808 ≤ v.n
  n1 : v.n ≤ 9223372036854775807
  c0 : -9223372036854775808 ≤ v.c
  c1 : v.c ≤ 9223372036854775807
  m0 : -9223372036854775808 ≤ v.m
  m1 : v.m ≤ 9223372036854775807
/-- A value's bytes. -/
def wv (v : Val) : List UInt8 :=
  if Int.tmod v.kind 5 = 0 then vb v.u.toNat else if Int.tmod v.kind 5 = 1 then vb (zz v.n) else if Int.tmod v.kind 5 = 2 then tb v.s
  else if Int.tmod v.kind 5 = 3 then bb (Int.tmod v.u 2 == 1) else mb v.c v.m
theorem wO_1 (v : Val) (l : List UInt8) (g1 : Int.tmod (Val.kind v) 5 = 0) (g2 : 0 ≤ Val.u v) (g3 : List.length l + List.length (vb (Int.toNat (Val.u v))) ≤ 100000000000000) :
    cc (ev X E0) 11 [AV.c (CV.ptr 0 0), AV.agg [CV.pv (PV.int .u8 (Val.kind v)), CV.pv (PV.int .u64 (Val.u v)), CV.pv (PV.int .i64 (Val.n v)), CV.pv (PV.str (Val.s v)), CV.pv (PV.int .i64 (Val.c v)), CV.pv (PV.int .i64 (Val.m v))]] [Box.cells [CV.own 0 1 (pvBytes l)]] = some (AV.tup [], [Box.cells [CV.own 0 1 (pvBytes (l ++ vb (Int.toNat (Val.u v))))]]) :=
  cc_path (x := xf11) rfl [It.br true, It.call (AV.tup []) [Box.cells [CV.own 0 1 (pvBytes (l ++ vb (Int.toNat (Val.u v))))]]]
    (c := [(5 : Int) ≠ (0 : Int), (Int.tmod (Val.kind v) 5 == 0) = true, cc (ev X E0) 28 [AV.c (CV.ptr 0 0), AV.c (CV.pv (PV.int .u64 (Val.u v)))] [Box.cells [CV.own 0 1 (pvBytes l)]] = some (AV.tup [], [Box.cells [CV.own 0 1 (pvBytes (l ++ vb (Int.toNat (Val.u v))))]])]) (by kernel_rfl)
    ⟨(by decide), (beq_iff_eq.mpr g1), (Vint_own _ _ _ g2 g3), trivial⟩
theorem wO_2 (v : Val) (l : List UInt8) (g1 : ¬Int.tmod (Val.kind v) 5 = 0) (g2 : Int.tmod (Val.kind v) 5 = 1) (g3 : -9223372036854775808 ≤ Val.n v) (g4 : Val.n v ≤ 9223372036854775807) (g5 : List.length l ≤ 1000000000) :
    cc (ev X E0) 11 [AV.c (CV.ptr 0 0), AV.agg [CV.pv (PV.int .u8 (Val.kind v)), CV.pv (PV.int .u64 (Val.u v)), CV.pv (PV.int .i64 (Val.n v)), CV.pv (PV.str (Val.s v)), CV.pv (PV.int .i64 (Val.c v)), CV.pv (PV.int .i64 (Val.m v))]] [Box.cells [CV.own 0 1 (pvBytes l)]] = some (AV.tup [], [Box.cells [CV.own 0 1 (pvBytes (l ++ vb (zz (Val.n v))))]]) :=
  cc_path (x := xf11) rfl [It.br false, It.br true, It.call (AV.tup []) [Box.cells [CV.own 0 1 (pvBytes (l ++ vb (zz (Val.n v))))]]]
    (c := [(5 : Int) ≠ (0 : Int), (Int.tmod (Val.kind v) 5 == 0) = false, (Int.tmod (Val.kind v) 5 == 1) = true, cc (ev X E0) 29 [AV.c (CV.ptr 0 0), AV.c (CV.pv (PV.int .i64 (Val.n v)))] [Box.cells [CV.own 0 1 (pvBytes l)]] = some (AV.tup [], [Box.cells [CV.own 0 1 (pvBytes (l ++ vb (zz (Val.n v))))]])]) (by kernel_rfl)
    ⟨(by decide), (beq_eq_false_iff_ne.mpr g1), (beq_iff_eq.mpr g2), (Zig_own _ _ g3 g4 g5), trivial⟩
theorem wO_3 (v : Val) (l : List UInt8) (g1 : ¬Int.tmod (Val.kind v) 5 = 0) (g2 : ¬Int.tmod (Val.kind v) 5 = 1) (g3 : Int.tmod (Val.kind v) 5 = 2) (g4 : List.length (Val.s v) ≤ 1000000) (g5 : List.length l ≤ 1000000000) :
    cc (ev X E0) 11 [AV.c (CV.ptr 0 0), AV.agg [CV.pv (PV.int .u8 (Val.kind v)), CV.pv (PV.int .u64 (Val.u v)), CV.pv (PV.int .i64 (Val.n v)), CV.pv (PV.str (Val.s v)), CV.pv (PV.int .i64 (Val.c v)), CV.pv (PV.int .i64 (Val.m v))]] [Box.cells [CV.own 0 1 (pvBytes l)]] = some (AV.tup [], [Box.cells [CV.own 0 1 (pvBytes (l ++ tb (Val.s v)))]]) :=
  cc_path (x := xf11) rfl [It.br false, It.br false, It.br true, It.call (AV.tup []) [Box.cells [CV.own 0 1 (pvBytes (l ++ tb (Val.s v)))]]]
    (c := [(5 : Int) ≠ (0 : Int), (Int.tmod (Val.kind v) 5 == 0) = false, (Int.tmod (Val.kind v) 5 == 1) = false, (Int.tmod (Val.kind v) 5 == 2) = true, cc (ev X E0) 30 [AV.c (CV.ptr 0 0), AV.c (CV.pv (PV.str (Val.s v)))] [Box.cells [CV.own 0 1 (pvBytes l)]] = some (AV.tup [], [Box.cells [CV.own 0 1 (pvBytes (l ++ tb (Val.s v)))]])]) (by kernel_rfl)
    ⟨(by decide), (beq_eq_false_iff_ne.mpr g1), (beq_eq_false_iff_ne.mpr g2), (beq_iff_eq.mpr g3), (Text_own _ _ g4 g5), trivial⟩
theorem wO_4 (v : Val) (l : List UInt8) (g1 : ¬Int.tmod (Val.kind v) 5 = 0) (g2 : ¬Int.tmod (Val.kind v) 5 = 1) (g3 : ¬Int.tmod (Val.kind v) 5 = 2) (g4 : Int.tmod (Val.kind v) 5 = 3) (g5 : List.length l ≤ 1000000000) :
    cc (ev X E0) 11 [AV.c (CV.ptr 0 0), AV.agg [CV.pv (PV.int .u8 (Val.kind v)), CV.pv (PV.int .u64 (Val.u v)), CV.pv (PV.int .i64 (Val.n v)), CV.pv (PV.str (Val.s v)), CV.pv (PV.int .i64 (Val.c v)), CV.pv (PV.int .i64 (Val.m v))]] [Box.cells [CV.own 0 1 (pvBytes l)]] = some (AV.tup [], [Box.cells [CV.own 0 1 (pvBytes (l ++ bb (Int.tmod (Val.u v) 2 == 1)))]]) :=
  cc_path (x := xf11) rfl [It.br false, It.br false, It.br false, It.br true, It.call (AV.tup []) [Box.cells [CV.own 0 1 (pvBytes (l ++ bb (Int.tmod (Val.u v) 2 == 1)))]]]
    (c := [(5 : Int) ≠ (0 : Int), (Int.tmod (Val.kind v) 5 == 0) = false, (Int.tmod (Val.kind v) 5 == 1) = false, (Int.tmod (Val.kind v) 5 == 2) = false, (Int.tmod (Val.kind v) 5 == 3) = true, (2 : Int) ≠ (0 : Int), cc (ev X E0) 31 [AV.c (CV.ptr 0 0), AV.c (CV.pv (PV.bool (Int.tmod (Val.u v) 2 == 1)))] [Box.cells [CV.own 0 1 (pvBytes l)]] = some (AV.tup [], [Box.cells [CV.own 0 1 (pvBytes (l ++ bb (Int.tmod (Val.u v) 2 == 1)))]])]) (by kernel_rfl)
    ⟨(by decide), (beq_eq_false_iff_ne.mpr g1), (beq_eq_false_iff_ne.mpr g2), (beq_eq_false_iff_ne.mpr g3), (beq_iff_eq.mpr g4), (by decide), (Bool_own _ _ g5), trivial⟩
theorem wO_5 (v : Val) (l : List UInt8) (g1 : ¬Int.tmod (Val.kind v) 5 = 0) (g2 : ¬Int.tmod (Val.kind v) 5 = 1) (g3 : ¬Int.tmod (Val.kind v) 5 = 2) (g4 : ¬Int.tmod (Val.kind v) 5 = 3) (g5 : Int.tmod (Val.kind v) 5 = 4) (g6 : -9223372036854775808 ≤ Val.c v) (g7 : Val.c v ≤ 9223372036854775807) (g8 : -9223372036854775808 ≤ Val.m v) (g9 : Val.m v ≤ 9223372036854775807) (g10 : List.length l ≤ 100000000) :
    cc (ev X E0) 11 [AV.c (CV.ptr 0 0), AV.agg [CV.pv (PV.int .u8 (Val.kind v)), CV.pv (PV.int .u64 (Val.u v)), CV.pv (PV.int .i64 (Val.n v)), CV.pv (PV.str (Val.s v)), CV.pv (PV.int .i64 (Val.c v)), CV.pv (PV.int .i64 (Val.m v))]] [Box.cells [CV.own 0 1 (pvBytes l)]] = some (AV.tup [], [Box.cells [CV.own 0 1 (pvBytes (l ++ mb (Val.c v) (Val.m v)))]]) :=
  cc_path (x := xf11) rfl [It.br false, It.br false, It.br false, It.br false, It.br true, It.call (AV.tup []) [Box.cells [CV.own 0 1 (pvBytes (l ++ mb (Val.c v) (Val.m v)))]]]
    (c := [(5 : Int) ≠ (0 : Int), (Int.tmod (Val.kind v) 5 == 0) = false, (Int.tmod (Val.kind v) 5 == 1) = false, (Int.tmod (Val.kind v) 5 == 2) = false, (Int.tmod (Val.kind v) 5 == 3) = false, (Int.tmod (Val.kind v) 5 == 4) = true, cc (ev X E0) 32 [AV.c (CV.ptr 0 0), AV.agg [CV.pv (PV.int .i64 (Val.c v)), CV.pv (PV.int .i64 (Val.m v))]] [Box.cells [CV.own 0 1 (pvBytes l)]] = some (AV.tup [], [Box.cells [CV.own 0 1 (pvBytes (l ++ mb (Val.c v) (Val.m v)))]])]) (by kernel_rfl)
    ⟨(by decide), (beq_eq_false_iff_ne.mpr g1), (beq_eq_false_iff_ne.mpr g2), (beq_eq_false_iff_ne.mpr g3), (beq_eq_false_iff_ne.mpr g4), (beq_iff_eq.mpr g5), (Money_own _ _ _ g6 g7 g8 g9 g10), trivial⟩
theorem wO_6 (v : Val) (l : List UInt8) (g1 : ¬Int.tmod (Val.kind v) 5 = 0) (g2 : ¬Int.tmod (Val.kind v) 5 = 1) (g3 : ¬Int.tmod (Val.kind v) 5 = 2) (g4 : ¬Int.tmod (Val.kind v) 5 = 3) (g5 : ¬Int.tmod (Val.kind v) 5 = 4) :
    cc (ev X E0) 11 [AV.c (CV.ptr 0 0), AV.agg [CV.pv (PV.int .u8 (Val.kind v)), CV.pv (PV.int .u64 (Val.u v)), CV.pv (PV.int .i64 (Val.n v)), CV.pv (PV.str (Val.s v)), CV.pv (PV.int .i64 (Val.c v)), CV.pv (PV.int .i64 (Val.m v))]] [Box.cells [CV.own 0 1 (pvBytes l)]] = some (AV.tup [], [Box.cells [CV.own 0 1 (pvBytes l)]]) :=
  cc_path (x := xf11) rfl [It.br false, It.br false, It.br false, It.br false, It.br false]
    (c := [(5 : Int) ≠ (0 : Int), (Int.tmod (Val.kind v) 5 == 0) = false, (Int.tmod (Val.kind v) 5 == 1) = false, (Int.tmod (Val.kind v) 5 == 2) = false, (Int.tmod (Val.kind v) 5 == 3) = false, (Int.tmod (Val.kind v) 5 == 4) = false]) (by kernel_rfl)
    ⟨(by decide), (beq_eq_false_iff_ne.mpr g1), (beq_eq_false_iff_ne.mpr g2), (beq_eq_false_iff_ne.mpr g3), (beq_eq_false_iff_ne.mpr g4), (beq_eq_false_iff_ne.mpr g5), trivial⟩
theorem wN_1 (z : Nat) (v : Val) (g1 : Int.tmod (Val.kind v) 5 = 0) (g2 : 0 ≤ Val.u v) (g3 : List.length (vb (Int.toNat (Val.u v))) ≤ 100000000000000) :
    cc (ev X E0) 11 [AV.c (CV.ptr 0 0), AV.agg [CV.pv (PV.int .u8 (Val.kind v)), CV.pv (PV.int .u64 (Val.u v)), CV.pv (PV.int .i64 (Val.n v)), CV.pv (PV.str (Val.s v)), CV.pv (PV.int .i64 (Val.c v)), CV.pv (PV.int .i64 (Val.m v))]] [Box.cells [CV.pv (PV.sl SO.nil z [])]] = some (AV.tup [], [Box.cells [CV.own 0 1 (pvBytes (vb (Int.toNat (Val.u v))))]]) :=
  cc_path (x := xf11) rfl [It.br true, It.call (AV.tup []) [Box.cells [CV.own 0 1 (pvBytes (vb (Int.toNat (Val.u v))))]]]
    (c := [(5 : Int) ≠ (0 : Int), (Int.tmod (Val.kind v) 5 == 0) = true, cc (ev X E0) 28 [AV.c (CV.ptr 0 0), AV.c (CV.pv (PV.int .u64 (Val.u v)))] [Box.cells [CV.pv (PV.sl SO.nil z [])]] = some (AV.tup [], [Box.cells [CV.own 0 1 (pvBytes (vb (Int.toNat (Val.u v))))]])]) (by kernel_rfl)
    ⟨(by decide), (beq_iff_eq.mpr g1), (Vint_nil _ _ g2 g3), trivial⟩
theorem wN_2 (z : Nat) (v : Val) (g1 : ¬Int.tmod (Val.kind v) 5 = 0) (g2 : Int.tmod (Val.kind v) 5 = 1) (g3 : -9223372036854775808 ≤ Val.n v) (g4 : Val.n v ≤ 9223372036854775807) :
    cc (ev X E0) 11 [AV.c (CV.ptr 0 0), AV.agg [CV.pv (PV.int .u8 (Val.kind v)), CV.pv (PV.int .u64 (Val.u v)), CV.pv (PV.int .i64 (Val.n v)), CV.pv (PV.str (Val.s v)), CV.pv (PV.int .i64 (Val.c v)), CV.pv (PV.int .i64 (Val.m v))]] [Box.cells [CV.pv (PV.sl SO.nil z [])]] = some (AV.tup [], [Box.cells [CV.own 0 1 (pvBytes (vb (zz (Val.n v))))]]) :=
  cc_path (x := xf11) rfl [It.br false, It.br true, It.call (AV.tup []) [Box.cells [CV.own 0 1 (pvBytes (vb (zz (Val.n v))))]]]
    (c := [(5 : Int) ≠ (0 : Int), (Int.tmod (Val.kind v) 5 == 0) = false, (Int.tmod (Val.kind v) 5 == 1) = true, cc (ev X E0) 29 [AV.c (CV.ptr 0 0), AV.c (CV.pv (PV.int .i64 (Val.n v)))] [Box.cells [CV.pv (PV.sl SO.nil z [])]] = some (AV.tup [], [Box.cells [CV.own 0 1 (pvBytes (vb (zz (Val.n v))))]])]) (by kernel_rfl)
    ⟨(by decide), (beq_eq_false_iff_ne.mpr g1), (beq_iff_eq.mpr g2), (Zig_nil _ _ g3 g4), trivial⟩
theorem wN_3 (z : Nat) (v : Val) (g1 : ¬Int.tmod (Val.kind v) 5 = 0) (g2 : ¬Int.tmod (Val.kind v) 5 = 1) (g3 : Int.tmod (Val.kind v) 5 = 2) (g4 : List.length (Val.s v) ≤ 1000000) :
    cc (ev X E0) 11 [AV.c (CV.ptr 0 0), AV.agg [CV.pv (PV.int .u8 (Val.kind v)), CV.pv (PV.int .u64 (Val.u v)), CV.pv (PV.int .i64 (Val.n v)), CV.pv (PV.str (Val.s v)), CV.pv (PV.int .i64 (Val.c v)), CV.pv (PV.int .i64 (Val.m v))]] [Box.cells [CV.pv (PV.sl SO.nil z [])]] = some (AV.tup [], [Box.cells [CV.own 0 1 (pvBytes (tb (Val.s v)))]]) :=
  cc_path (x := xf11) rfl [It.br false, It.br false, It.br true, It.call (AV.tup []) [Box.cells [CV.own 0 1 (pvBytes (tb (Val.s v)))]]]
    (c := [(5 : Int) ≠ (0 : Int), (Int.tmod (Val.kind v) 5 == 0) = false, (Int.tmod (Val.kind v) 5 == 1) = false, (Int.tmod (Val.kind v) 5 == 2) = true, cc (ev X E0) 30 [AV.c (CV.ptr 0 0), AV.c (CV.pv (PV.str (Val.s v)))] [Box.cells [CV.pv (PV.sl SO.nil z [])]] = some (AV.tup [], [Box.cells [CV.own 0 1 (pvBytes (tb (Val.s v)))]])]) (by kernel_rfl)
    ⟨(by decide), (beq_eq_false_iff_ne.mpr g1), (beq_eq_false_iff_ne.mpr g2), (beq_iff_eq.mpr g3), (Text_nil _ _ g4), trivial⟩
theorem wN_4 (z : Nat) (v : Val) (g1 : ¬Int.tmod (Val.kind v) 5 = 0) (g2 : ¬Int.tmod (Val.kind v) 5 = 1) (g3 : ¬Int.tmod (Val.kind v) 5 = 2) (g4 : Int.tmod (Val.kind v) 5 = 3) :
    cc (ev X E0) 11 [AV.c (CV.ptr 0 0), AV.agg [CV.pv (PV.int .u8 (Val.kind v)), CV.pv (PV.int .u64 (Val.u v)), CV.pv (PV.int .i64 (Val.n v)), CV.pv (PV.str (Val.s v)), CV.pv (PV.int .i64 (Val.c v)), CV.pv (PV.int .i64 (Val.m v))]] [Box.cells [CV.pv (PV.sl SO.nil z [])]] = some (AV.tup [], [Box.cells [CV.own 0 1 (pvBytes (bb (Int.tmod (Val.u v) 2 == 1)))]]) :=
  cc_path (x := xf11) rfl [It.br false, It.br false, It.br false, It.br true, It.call (AV.tup []) [Box.cells [CV.own 0 1 (pvBytes (bb (Int.tmod (Val.u v) 2 == 1)))]]]
    (c := [(5 : Int) ≠ (0 : Int), (Int.tmod (Val.kind v) 5 == 0) = false, (Int.tmod (Val.kind v) 5 == 1) = false, (Int.tmod (Val.kind v) 5 == 2) = false, (Int.tmod (Val.kind v) 5 == 3) = true, (2 : Int) ≠ (0 : Int), cc (ev X E0) 31 [AV.c (CV.ptr 0 0), AV.c (CV.pv (PV.bool (Int.tmod (Val.u v) 2 == 1)))] [Box.cells [CV.pv (PV.sl SO.nil z [])]] = some (AV.tup [], [Box.cells [CV.own 0 1 (pvBytes (bb (Int.tmod (Val.u v) 2 == 1)))]])]) (by kernel_rfl)
    ⟨(by decide), (beq_eq_false_iff_ne.mpr g1), (beq_eq_false_iff_ne.mpr g2), (beq_eq_false_iff_ne.mpr g3), (beq_iff_eq.mpr g4), (by decide), (Bool_nil _ _), trivial⟩
theorem wN_5 (z : Nat) (v : Val) (g1 : ¬Int.tmod (Val.kind v) 5 = 0) (g2 : ¬Int.tmod (Val.kind v) 5 = 1) (g3 : ¬Int.tmod (Val.kind v) 5 = 2) (g4 : ¬Int.tmod (Val.kind v) 5 = 3) (g5 : Int.tmod (Val.kind v) 5 = 4) (g6 : -9223372036854775808 ≤ Val.c v) (g7 : Val.c v ≤ 9223372036854775807) (g8 : -9223372036854775808 ≤ Val.m v) (g9 : Val.m v ≤ 9223372036854775807) :
    cc (ev X E0) 11 [AV.c (CV.ptr 0 0), AV.agg [CV.pv (PV.int .u8 (Val.kind v)), CV.pv (PV.int .u64 (Val.u v)), CV.pv (PV.int .i64 (Val.n v)), CV.pv (PV.str (Val.s v)), CV.pv (PV.int .i64 (Val.c v)), CV.pv (PV.int .i64 (Val.m v))]] [Box.cells [CV.pv (PV.sl SO.nil z [])]] = some (AV.tup [], [Box.cells [CV.own 0 1 (pvBytes (mb (Val.c v) (Val.m v)))]]) :=
  cc_path (x := xf11) rfl [It.br false, It.br false, It.br false, It.br false, It.br true, It.call (AV.tup []) [Box.cells [CV.own 0 1 (pvBytes (mb (Val.c v) (Val.m v)))]]]
    (c := [(5 : Int) ≠ (0 : Int), (Int.tmod (Val.kind v) 5 == 0) = false, (Int.tmod (Val.kind v) 5 == 1) = false, (Int.tmod (Val.kind v) 5 == 2) = false, (Int.tmod (Val.kind v) 5 == 3) = false, (Int.tmod (Val.kind v) 5 == 4) = true, cc (ev X E0) 32 [AV.c (CV.ptr 0 0), AV.agg [CV.pv (PV.int .i64 (Val.c v)), CV.pv (PV.int .i64 (Val.m v))]] [Box.cells [CV.pv (PV.sl SO.nil z [])]] = some (AV.tup [], [Box.cells [CV.own 0 1 (pvBytes (mb (Val.c v) (Val.m v)))]])]) (by kernel_rfl)
    ⟨(by decide), (beq_eq_false_iff_ne.mpr g1), (beq_eq_false_iff_ne.mpr g2), (beq_eq_false_iff_ne.mpr g3), (beq_eq_false_iff_ne.mpr g4), (beq_iff_eq.mpr g5), (Money_nil _ _ _ g6 g7 g8 g9), trivial⟩
theorem wN_6 (z : Nat) (v : Val) (g1 : ¬Int.tmod (Val.kind v) 5 = 0) (g2 : ¬Int.tmod (Val.kind v) 5 = 1) (g3 : ¬Int.tmod (Val.kind v) 5 = 2) (g4 : ¬Int.tmod (Val.kind v) 5 = 3) (g5 : ¬Int.tmod (Val.kind v) 5 = 4) :
    cc (ev X E0) 11 [AV.c (CV.ptr 0 0), AV.agg [CV.pv (PV.int .u8 (Val.kind v)), CV.pv (PV.int .u64 (Val.u v)), CV.pv (PV.int .i64 (Val.n v)), CV.pv (PV.str (Val.s v)), CV.pv (PV.int .i64 (Val.c v)), CV.pv (PV.int .i64 (Val.m v))]] [Box.cells [CV.pv (PV.sl SO.nil z [])]] = some (AV.tup [], [Box.cells [CV.pv (PV.sl SO.nil z [])]]) :=
  cc_path (x := xf11) rfl [It.br false, It.br false, It.br false, It.br false, It.br false]
    (c := [(5 : Int) ≠ (0 : Int), (Int.tmod (Val.kind v) 5 == 0) = false, (Int.tmod (Val.kind v) 5 == 1) = false, (Int.tmod (Val.kind v) 5 == 2) = false, (Int.tmod (Val.kind v) 5 == 3) = false, (Int.tmod (Val.kind v) 5 == 4) = false]) (by kernel_rfl)
    ⟨(by decide), (beq_eq_false_iff_ne.mpr g1), (beq_eq_false_iff_ne.mpr g2), (beq_eq_false_iff_ne.mpr g3), (beq_eq_false_iff_ne.mpr g4), (beq_eq_false_iff_ne.mpr g5), trivial⟩
theorem wZ_1 (v : Val) (g1 : Int.tmod (Val.kind v) 5 = 0) :
    cc (ev X E0) 11 [AV.c CV.nilp, AV.agg [CV.pv (PV.int .u8 (Val.kind v)), CV.pv (PV.int .u64 (Val.u v)), CV.pv (PV.int .i64 (Val.n v)), CV.pv (PV.str (Val.s v)), CV.pv (PV.int .i64 (Val.c v)), CV.pv (PV.int .i64 (Val.m v))]] [] = some (AV.tup [], []) :=
  cc_path (x := xf11) rfl [It.br true, It.call (AV.tup []) []]
    (c := [(5 : Int) ≠ (0 : Int), (Int.tmod (Val.kind v) 5 == 0) = true, cc (ev X E0) 28 [AV.c CV.nilp, AV.c (CV.pv (PV.int .u64 (Val.u v)))] [] = some (AV.tup [], [])]) (by kernel_rfl)
    ⟨(by decide), (beq_iff_eq.mpr g1), (VZ_1 _), trivial⟩
theorem wZ_2 (v : Val) (g1 : ¬Int.tmod (Val.kind v) 5 = 0) (g2 : Int.tmod (Val.kind v) 5 = 1) :
    cc (ev X E0) 11 [AV.c CV.nilp, AV.agg [CV.pv (PV.int .u8 (Val.kind v)), CV.pv (PV.int .u64 (Val.u v)), CV.pv (PV.int .i64 (Val.n v)), CV.pv (PV.str (Val.s v)), CV.pv (PV.int .i64 (Val.c v)), CV.pv (PV.int .i64 (Val.m v))]] [] = some (AV.tup [], []) :=
  cc_path (x := xf11) rfl [It.br false, It.br true, It.call (AV.tup []) []]
    (c := [(5 : Int) ≠ (0 : Int), (Int.tmod (Val.kind v) 5 == 0) = false, (Int.tmod (Val.kind v) 5 == 1) = true, cc (ev X E0) 29 [AV.c CV.nilp, AV.c (CV.pv (PV.int .i64 (Val.n v)))] [] = some (AV.tup [], [])]) (by kernel_rfl)
    ⟨(by decide), (beq_eq_false_iff_ne.mpr g1), (beq_iff_eq.mpr g2), (ZZ_1 _), trivial⟩
theorem wZ_3 (v : Val) (g1 : ¬Int.tmod (Val.kind v) 5 = 0) (g2 : ¬Int.tmod (Val.kind v) 5 = 1) (g3 : Int.tmod (Val.kind v) 5 = 2) :
    cc (ev X E0) 11 [AV.c CV.nilp, AV.agg [CV.pv (PV.int .u8 (Val.kind v)), CV.pv (PV.int .u64 (Val.u v)), CV.pv (PV.int .i64 (Val.n v)), CV.pv (PV.str (Val.s v)), CV.pv (PV.int .i64 (Val.c v)), CV.pv (PV.int .i64 (Val.m v))]] [] = some (AV.tup [], []) :=
  cc_path (x := xf11) rfl [It.br false, It.br false, It.br true, It.call (AV.tup []) []]
    (c := [(5 : Int) ≠ (0 : Int), (Int.tmod (Val.kind v) 5 == 0) = false, (Int.tmod (Val.kind v) 5 == 1) = false, (Int.tmod (Val.kind v) 5 == 2) = true, cc (ev X E0) 30 [AV.c CV.nilp, AV.c (CV.pv (PV.str (Val.s v)))] [] = some (AV.tup [], [])]) (by kernel_rfl)
    ⟨(by decide), (beq_eq_false_iff_ne.mpr g1), (beq_eq_false_iff_ne.mpr g2), (beq_iff_eq.mpr g3), (TZ_1 _), trivial⟩
theorem wZ_4 (v : Val) (g1 : ¬Int.tmod (Val.kind v) 5 = 0) (g2 : ¬Int.tmod (Val.kind v) 5 = 1) (g3 : ¬Int.tmod (Val.kind v) 5 = 2) (g4 : Int.tmod (Val.kind v) 5 = 3) (g5 : (Int.tmod (Val.u v) 2 == 1) = true) :
    cc (ev X E0) 11 [AV.c CV.nilp, AV.agg [CV.pv (PV.int .u8 (Val.kind v)), CV.pv (PV.int .u64 (Val.u v)), CV.pv (PV.int .i64 (Val.n v)), CV.pv (PV.str (Val.s v)), CV.pv (PV.int .i64 (Val.c v)), CV.pv (PV.int .i64 (Val.m v))]] [] = some (AV.tup [], []) :=
  cc_path (x := xf11) rfl [It.br false, It.br false, It.br false, It.br true, It.call (AV.tup []) []]
    (c := [(5 : Int) ≠ (0 : Int), (Int.tmod (Val.kind v) 5 == 0) = false, (Int.tmod (Val.kind v) 5 == 1) = false, (Int.tmod (Val.kind v) 5 == 2) = false, (Int.tmod (Val.kind v) 5 == 3) = true, (2 : Int) ≠ (0 : Int), cc (ev X E0) 31 [AV.c CV.nilp, AV.c (CV.pv (PV.bool (Int.tmod (Val.u v) 2 == 1)))] [] = some (AV.tup [], [])]) (by kernel_rfl)
    ⟨(by decide), (beq_eq_false_iff_ne.mpr g1), (beq_eq_false_iff_ne.mpr g2), (beq_eq_false_iff_ne.mpr g3), (beq_iff_eq.mpr g4), (by decide), (BZ_1 _ g5), trivial⟩
theorem wZ_5 (v : Val) (g1 : ¬Int.tmod (Val.kind v) 5 = 0) (g2 : ¬Int.tmod (Val.kind v) 5 = 1) (g3 : ¬Int.tmod (Val.kind v) 5 = 2) (g4 : Int.tmod (Val.kind v) 5 = 3) (g5 : (Int.tmod (Val.u v) 2 == 1) = false) :
    cc (ev X E0) 11 [AV.c CV.nilp, AV.agg [CV.pv (PV.int .u8 (Val.kind v)), CV.pv (PV.int .u64 (Val.u v)), CV.pv (PV.int .i64 (Val.n v)), CV.pv (PV.str (Val.s v)), CV.pv (PV.int .i64 (Val.c v)), CV.pv (PV.int .i64 (Val.m v))]] [] = some (AV.tup [], []) :=
  cc_path (x := xf11) rfl [It.br false, It.br false, It.br false, It.br true, It.call (AV.tup []) []]
    (c := [(5 : Int) ≠ (0 : Int), (Int.tmod (Val.kind v) 5 == 0) = false, (Int.tmod (Val.kind v) 5 == 1) = false, (Int.tmod (Val.kind v) 5 == 2) = false, (Int.tmod (Val.kind v) 5 == 3) = true, (2 : Int) ≠ (0 : Int), cc (ev X E0) 31 [AV.c CV.nilp, AV.c (CV.pv (PV.bool (Int.tmod (Val.u v) 2 == 1)))] [] = some (AV.tup [], [])]) (by kernel_rfl)
    ⟨(by decide), (beq_eq_false_iff_ne.mpr g1), (beq_eq_false_iff_ne.mpr g2), (beq_eq_false_iff_ne.mpr g3), (beq_iff_eq.mpr g4), (by decide), (BZ_2 _ g5), trivial⟩
theorem wZ_6 (v : Val) (g1 : ¬Int.tmod (Val.kind v) 5 = 0) (g2 : ¬Int.tmod (Val.kind v) 5 = 1) (g3 : ¬Int.tmod (Val.kind v) 5 = 2) (g4 : ¬Int.tmod (Val.kind v) 5 = 3) (g5 : Int.tmod (Val.kind v) 5 = 4) :
    cc (ev X E0) 11 [AV.c CV.nilp, AV.agg [CV.pv (PV.int .u8 (Val.kind v)), CV.pv (PV.int .u64 (Val.u v)), CV.pv (PV.int .i64 (Val.n v)), CV.pv (PV.str (Val.s v)), CV.pv (PV.int .i64 (Val.c v)), CV.pv (PV.int .i64 (Val.m v))]] [] = some (AV.tup [], []) :=
  cc_path (x := xf11) rfl [It.br false, It.br false, It.br false, It.br false, It.br true, It.call (AV.tup []) []]
    (c := [(5 : Int) ≠ (0 : Int), (Int.tmod (Val.kind v) 5 == 0) = false, (Int.tmod (Val.kind v) 5 == 1) = false, (Int.tmod (Val.kind v) 5 == 2) = false, (Int.tmod (Val.kind v) 5 == 3) = false, (Int.tmod (Val.kind v) 5 == 4) = true, cc (ev X E0) 32 [AV.c CV.nilp, AV.agg [CV.pv (PV.int .i64 (Val.c v)), CV.pv (PV.int .i64 (Val.m v))]] [] = some (AV.tup [], [])]) (by kernel_rfl)
    ⟨(by decide), (beq_eq_false_iff_ne.mpr g1), (beq_eq_false_iff_ne.mpr g2), (beq_eq_false_iff_ne.mpr g3), (beq_eq_false_iff_ne.mpr g4), (beq_iff_eq.mpr g5), (MZ_1 _ _), trivial⟩
theorem wZ_7 (v : Val) (g1 : ¬Int.tmod (Val.kind v) 5 = 0) (g2 : ¬Int.tmod (Val.kind v) 5 = 1) (g3 : ¬Int.tmod (Val.kind v) 5 = 2) (g4 : ¬Int.tmod (Val.kind v) 5 = 3) (g5 : ¬Int.tmod (Val.kind v) 5 = 4) :
    cc (ev X E0) 11 [AV.c CV.nilp, AV.agg [CV.pv (PV.int .u8 (Val.kind v)), CV.pv (PV.int .u64 (Val.u v)), CV.pv (PV.int .i64 (Val.n v)), CV.pv (PV.str (Val.s v)), CV.pv (PV.int .i64 (Val.c v)), CV.pv (PV.int .i64 (Val.m v))]] [] = some (AV.tup [], []) :=
  cc_path (x := xf11) rfl [It.br false, It.br false, It.br false, It.br false, It.br false]
    (c := [(5 : Int) ≠ (0 : Int), (Int.tmod (Val.kind v) 5 == 0) = false, (Int.tmod (Val.kind v) 5 == 1) = false, (Int.tmod (Val.kind v) 5 == 2) = false, (Int.tmod (Val.kind v) 5 == 3) = false, (Int.tmod (Val.kind v) 5 == 4) = false]) (by kernel_rfl)
    ⟨(by decide), (beq_eq_false_iff_ne.mpr g1), (beq_eq_false_iff_ne.mpr g2), (beq_eq_false_iff_ne.mpr g3), (beq_eq_false_iff_ne.mpr g4), (beq_eq_false_iff_ne.mpr g5), trivial⟩
theorem wa_1 (v : Val) (g1 : Int.tmod (Val.kind v) 5 = 0) (g2 : 0 ≤ Val.u v) (g3 : Val.u v < 18446744073709551616) :
    cc (ev X E0) 12 [AV.agg [CV.pv (PV.int .u8 (Val.kind v)), CV.pv (PV.int .u64 (Val.u v)), CV.pv (PV.int .i64 (Val.n v)), CV.pv (PV.str (Val.s v)), CV.pv (PV.int .i64 (Val.c v)), CV.pv (PV.int .i64 (Val.m v))]] [] = some (AV.c (CV.pv (PV.sl SO.shut 1 (pvBytes (vb (Int.toNat (Val.u v)))))), []) :=
  cc_path (x := xf12) rfl [It.br true, It.call (AV.c (CV.own 0 1 (pvBytes (vb (Int.toNat (Val.u v)))))) []]
    (c := [(5 : Int) ≠ (0 : Int), (Int.tmod (Val.kind v) 5 == 0) = true, cc (ev X E0) 33 [AV.c (CV.pv (PV.int .u64 (Val.u v)))] [] = some (AV.c (CV.own 0 1 (pvBytes (vb (Int.toNat (Val.u v))))), [])]) (by kernel_rfl)
    ⟨(by decide), (beq_iff_eq.mpr g1), (rVint _ g2 g3), trivial⟩
theorem wa_2 (v : Val) (g1 : ¬Int.tmod (Val.kind v) 5 = 0) (g2 : Int.tmod (Val.kind v) 5 = 1) (g3 : -9223372036854775808 ≤ Val.n v) (g4 : Val.n v ≤ 9223372036854775807) (g5 : 0 ≤ (↑(zz (Val.n v)) : Int)) (g6 : (↑(zz (Val.n v)) : Int) < 18446744073709551616) :
    cc (ev X E0) 12 [AV.agg [CV.pv (PV.int .u8 (Val.kind v)), CV.pv (PV.int .u64 (Val.u v)), CV.pv (PV.int .i64 (Val.n v)), CV.pv (PV.str (Val.s v)), CV.pv (PV.int .i64 (Val.c v)), CV.pv (PV.int .i64 (Val.m v))]] [] = some (AV.c (CV.pv (PV.sl SO.shut 1 (pvBytes (vb (Int.toNat (↑(zz (Val.n v)) : Int)))))), []) :=
  cc_path (x := xf12) rfl [It.br false, It.br true, It.call (AV.c (CV.pv (PV.int .u64 (↑(zz (Val.n v)) : Int)))) [], It.call (AV.c (CV.own 0 1 (pvBytes (vb (Int.toNat (↑(zz (Val.n v)) : Int)))))) []]
    (c := [(5 : Int) ≠ (0 : Int), (Int.tmod (Val.kind v) 5 == 0) = false, (Int.tmod (Val.kind v) 5 == 1) = true, cc (ev X E0) 34 [AV.c (CV.pv (PV.int .i64 (Val.n v)))] [] = some (AV.c (CV.pv (PV.int .u64 (↑(zz (Val.n v)) : Int))), []), cc (ev X E0) 33 [AV.c (CV.pv (PV.int .u64 (↑(zz (Val.n v)) : Int)))] [] = some (AV.c (CV.own 0 1 (pvBytes (vb (Int.toNat (↑(zz (Val.n v)) : Int))))), [])]) (by kernel_rfl)
    ⟨(by decide), (beq_eq_false_iff_ne.mpr g1), (beq_iff_eq.mpr g2), (rZig _ g3 g4), (rVint _ g5 g6), trivial⟩
theorem wa_3 (v : Val) (g1 : ¬Int.tmod (Val.kind v) 5 = 0) (g2 : ¬Int.tmod (Val.kind v) 5 = 1) (g3 : Int.tmod (Val.kind v) 5 = 2) (g4 : List.length (Val.s v) ≤ 1000000) :
    cc (ev X E0) 12 [AV.agg [CV.pv (PV.int .u8 (Val.kind v)), CV.pv (PV.int .u64 (Val.u v)), CV.pv (PV.int .i64 (Val.n v)), CV.pv (PV.str (Val.s v)), CV.pv (PV.int .i64 (Val.c v)), CV.pv (PV.int .i64 (Val.m v))]] [] = some (AV.c (CV.pv (PV.sl SO.shut 1 (pvBytes (tb (Val.s v))))), []) :=
  cc_path (x := xf12) rfl [It.br false, It.br false, It.br true, It.call (AV.c (CV.own 0 1 (pvBytes (tb (Val.s v))))) []]
    (c := [(5 : Int) ≠ (0 : Int), (Int.tmod (Val.kind v) 5 == 0) = false, (Int.tmod (Val.kind v) 5 == 1) = false, (Int.tmod (Val.kind v) 5 == 2) = true, cc (ev X E0) 35 [AV.c (CV.pv (PV.str (Val.s v)))] [] = some (AV.c (CV.own 0 1 (pvBytes (tb (Val.s v)))), [])]) (by kernel_rfl)
    ⟨(by decide), (beq_eq_false_iff_ne.mpr g1), (beq_eq_false_iff_ne.mpr g2), (beq_iff_eq.mpr g3), (rText _ g4), trivial⟩
theorem wa_4 (v : Val) (g1 : ¬Int.tmod (Val.kind v) 5 = 0) (g2 : ¬Int.tmod (Val.kind v) 5 = 1) (g3 : ¬Int.tmod (Val.kind v) 5 = 2) (g4 : Int.tmod (Val.kind v) 5 = 3) :
    cc (ev X E0) 12 [AV.agg [CV.pv (PV.int .u8 (Val.kind v)), CV.pv (PV.int .u64 (Val.u v)), CV.pv (PV.int .i64 (Val.n v)), CV.pv (PV.str (Val.s v)), CV.pv (PV.int .i64 (Val.c v)), CV.pv (PV.int .i64 (Val.m v))]] [] = some (AV.c (CV.pv (PV.sl SO.full 1 [PV.int .u8 (IntKind.wrap .u8 (Int.tmod (Val.u v) 2))])), []) :=
  cc_path (x := xf12) rfl [It.br false, It.br false, It.br false, It.br true]
    (c := [(5 : Int) ≠ (0 : Int), (Int.tmod (Val.kind v) 5 == 0) = false, (Int.tmod (Val.kind v) 5 == 1) = false, (Int.tmod (Val.kind v) 5 == 2) = false, (Int.tmod (Val.kind v) 5 == 3) = true, (2 : Int) ≠ (0 : Int)]) (by kernel_rfl)
    ⟨(by decide), (beq_eq_false_iff_ne.mpr g1), (beq_eq_false_iff_ne.mpr g2), (beq_eq_false_iff_ne.mpr g3), (beq_iff_eq.mpr g4), (by decide), trivial⟩
theorem wa_5 (v : Val) (g1 : ¬Int.tmod (Val.kind v) 5 = 0) (g2 : ¬Int.tmod (Val.kind v) 5 = 1) (g3 : ¬Int.tmod (Val.kind v) 5 = 2) (g4 : ¬Int.tmod (Val.kind v) 5 = 3) (g5 : -9223372036854775808 ≤ Val.c v) (g6 : Val.c v ≤ 9223372036854775807) (g7 : -9223372036854775808 ≤ Val.m v) (g8 : Val.m v ≤ 9223372036854775807) :
    cc (ev X E0) 12 [AV.agg [CV.pv (PV.int .u8 (Val.kind v)), CV.pv (PV.int .u64 (Val.u v)), CV.pv (PV.int .i64 (Val.n v)), CV.pv (PV.str (Val.s v)), CV.pv (PV.int .i64 (Val.c v)), CV.pv (PV.int .i64 (Val.m v))]] [] = some (AV.c (CV.pv (PV.sl SO.shut 1 (pvBytes (mb (Val.c v) (Val.m v))))), []) :=
  cc_path (x := xf12) rfl [It.br false, It.br false, It.br false, It.br false, It.call (AV.c (CV.own 0 1 (pvBytes (mb (Val.c v) (Val.m v))))) []]
    (c := [(5 : Int) ≠ (0 : Int), (Int.tmod (Val.kind v) 5 == 0) = false, (Int.tmod (Val.kind v) 5 == 1) = false, (Int.tmod (Val.kind v) 5 == 2) = false, (Int.tmod (Val.kind v) 5 == 3) = false, cc (ev X E0) 36 [AV.agg [CV.pv (PV.int .i64 (Val.c v)), CV.pv (PV.int .i64 (Val.m v))]] [] = some (AV.c (CV.own 0 1 (pvBytes (mb (Val.c v) (Val.m v)))), [])]) (by kernel_rfl)
    ⟨(by decide), (beq_eq_false_iff_ne.mpr g1), (beq_eq_false_iff_ne.mpr g2), (beq_eq_false_iff_ne.mpr g3), (beq_eq_false_iff_ne.mpr g4), (rMoney _ _ g5 g6 g7 g8), trivial⟩
theorem kinds {v : Val} (h : v.Ok) : Int.tmod v.kind 5 = v.kind % 5 := Int.tmod_eq_emod_of_nonneg h.k0
theorem wv_pos (v : Val) : 0 < (wv v).length := by
  unfold wv tb bb mb
  (repeat' split) <;> (try simp only [List.length_append]) <;> (first | exact vb_pos _ | exact Nat.add_pos_left (vb_pos _) _)
theorem wv_le {v : Val} (h : v.Ok) (hs : v.s.length ≤ 400) : (wv v).length ≤ 500 := by
  have hu := vb_len10 (n := v.u.toNat) (by have := h.u1; have := h.u0; omega)
  have hn := vb_len10 (zz_lt h.n0 h.n1)
  have hc := vb_len10 (zz_lt h.c0 h.c1)
  have hm := vb_len10 (zz_lt h.m0 h.m1)
  have hl := vb_small (n := v.s.length) (by omega)
  have h1 := vb_small (n := 1) (by omega)
  have h0 := vb_small (n := 0) (by omega)
  unfold wv tb bb mb
  (repeat' split) <;> (try simp only [List.length_append]) <;> omega
theorem write_own (v : Val) (l : List UInt8) (h : v.Ok) (hs : v.s.length ≤ 400) (hl : l.length ≤ 100000000) :
    cc (ev X E0) 11 [AV.c (.ptr 0 0), AV.agg v.cells] [Box.cells [.own 0 1 (pvBytes l)]] = some (.tup [], [Box.cells [.own 0 1 (pvBytes (l ++ wv v))]]) := by
  have hu := vb_len10 (n := v.u.toNat) (by have := h.u1; have := h.u0; omega)
  have hk := kinds h
  have hk0 := h.k0
  unfold wv
  by_cases h0 : Int.tmod v.kind 5 = 0
  · rw [if_pos h0]; exact wO_1 v l h0 h.u0 (by omega)
  rw [if_neg h0]
  by_cases h1 : Int.tmod v.kind 5 = 1
  · rw [if_pos h1]; exact wO_2 v l h0 h1 h.n0 h.n1 (by omega)
  rw [if_neg h1]
  by_cases h2 : Int.tmod v.kind 5 = 2
  · rw [if_pos h2]; exact wO_3 v l h0 h1 h2 (by omega) (by omega)
  rw [if_neg h2]
  by_cases h3 : Int.tmod v.kind 5 = 3
  · rw [if_pos h3]; exact wO_4 v l h0 h1 h2 h3 (by omega)
  rw [if_neg h3]
  exact wO_5 v l h0 h1 h2 h3 (by omega) h.c0 h.c1 h.m0 h.m1 hl
theorem write_nil (z : Nat) (v : Val) (h : v.Ok) (hs : v.s.length ≤ 400) :
    cc (ev X E0) 11 [AV.c (.ptr 0 0), AV.agg v.cells] [Box.cells [.pv (.sl .nil z [])]] = some (.tup [], [Box.cells [.own 0 1 (pvBytes (wv v))]]) := by
  have hu := vb_len10 (n := v.u.toNat) (by have := h.u1; have := h.u0; omega)
  have hk := kinds h
  have hk0 := h.k0
  unfold wv
  by_cases h0 : Int.tmod v.kind 5 = 0
  · rw [if_pos h0]; exact wN_1 z v h0 h.u0 (by omega)
  rw [if_neg h0]
  by_cases h1 : Int.tmod v.kind 5 = 1
  · rw [if_pos h1]; exact wN_2 z v h0 h1 h.n0 h.n1
  rw [if_neg h1]
  by_cases h2 : Int.tmod v.kind 5 = 2
  · rw [if_pos h2]; exact wN_3 z v h0 h1 h2 (by omega)
  rw [if_neg h2]
  by_cases h3 : Int.tmod v.kind 5 = 3
  · rw [if_pos h3]; exact wN_4 z v h0 h1 h2 h3
  rw [if_neg h3]
  exact wN_5 z v h0 h1 h2 h3 (by omega) h.c0 h.c1 h.m0 h.m1
theorem write_no (v : Val) (h : v.Ok) : cc (ev X E0) 11 [AV.c .nilp, AV.agg v.cells] [] = some (.tup [], []) := by
  by_cases h0 : Int.tmod v.kind 5 = 0
  · exact wZ_1 v h0
  by_cases h1 : Int.tmod v.kind 5 = 1
  · exact wZ_2 v h0 h1
  by_cases h2 : Int.tmod v.kind 5 = 2
  · exact wZ_3 v h0 h1 h2
  by_cases h3 : Int.tmod v.kind 5 = 3
  · by_cases h4 : (Int.tmod v.u 2 == 1) = true
    · exact wZ_4 v h0 h1 h2 h3 h4
    · exact wZ_5 v h0 h1 h2 h3 (by simpa using h4)
  by_cases h4 : Int.tmod v.kind 5 = 4
  · exact wZ_6 v h0 h1 h2 h3 h4
  · exact wZ_7 v h0 h1 h2 h3 h4
theorem want_not3 (v : Val) (h : v.Ok) (hs : v.s.length ≤ 400) (h3 : ¬ Int.tmod v.kind 5 = 3) :
    cc (ev X E0) 12 [AV.agg v.cells] [] = some (.c (.pv (.sl .shut 1 (pvBytes (wv v)))), []) := by
  unfold wv
  by_cases h0 : Int.tmod v.kind 5 = 0
  · rw [if_pos h0]; exact wa_1 v h0 h.u0 (by have := h.u1; omega)
  rw [if_neg h0]
  by_cases h1 : Int.tmod v.kind 5 = 1
  · have := zz_lt h.n0 h.n1
    rw [if_pos h1]; exact wa_2 v h0 h1 h.n0 h.n1 (by omega) (by omega)
  rw [if_neg h1]
  by_cases h2 : Int.tmod v.kind 5 = 2
  · rw [if_pos h2]; exact wa_3 v h0 h1 h2 (by omega)
  rw [if_neg h2, if_neg h3]
  exact wa_5 v h0 h1 h2 h3 h.c0 h.c1 h.m0 h.m1
theorem want_3 (v : Val) (h : v.Ok) (h3 : Int.tmod v.kind 5 = 3) :
    cc (ev X E0) 12 [AV.agg v.cells] [] = some (.c (.pv (.sl .full 1 (pvBytes (wv v)))), []) := by
  have h' := wa_4 v (by omega) (by omega) (by omega) h3
  unfold wv
  rw [if_neg (by omega), if_neg (by omega), if_neg (by omega), if_pos h3]
  have hu : Int.tmod v.u 2 = v.u % 2 := Int.tmod_eq_emod_of_nonneg h.u0
  rw [show [PV.int .u8 (IntKind.wrap .u8 (Int.tmod v.u 2))] = pvBytes (bb (Int.tmod v.u 2 == 1)) by
    rw [hu]
    rcases Int.emod_two_eq v.u with e | e <;> rw [e] <;> unfold bb <;> rw [vb] <;> rfl] at h'
  exact h'
end Go.Sx.Try
