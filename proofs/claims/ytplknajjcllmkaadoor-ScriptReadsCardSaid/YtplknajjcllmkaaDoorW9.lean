/- What the writer of code and the document's answer write: the bytes of numbers, texts, bools and money. -/
import Derived.Test.YtplknajjcllmkaaDoorXS
namespace Go.Sx.Tryd
open Go Go.Sx
def vb (n : Nat) : List UInt8 := if n < 128 then [UInt8.ofNat n] else UInt8.ofNat (n % 128 + 128) :: vb (n / 128)
def vpre (n : Nat) : List UInt8 := if n < 128 then [] else UInt8.ofNat (n % 128 + 128) :: vpre (n / 128)
def vlast (n : Nat) : Nat := if n < 128 then n else vlast (n / 128)
def vid (i j n : Nat) : Nat := if n < 128 then i else j
def zz (n : Int) : Nat := if 0 ≤ n then (2 * n).toNat else (-2 * n - 1).toNat
theorem vb_eq (n : Nat) : vb n = vpre n ++ [UInt8.ofNat (vlast n)] := by
  induction n using Nat.strongRecOn with
  | ind n ih =>
    rw [vb, vpre, vlast]
    split
    · rfl
    · rw [ih (n / 128) (by omega)]; rfl
theorem vlast_lt (n : Nat) : vlast n < 128 := by
  induction n using Nat.strongRecOn with
  | ind n ih =>
    rw [vlast]
    split
    · assumption
    · exact ih _ (by omega)
theorem vb_pos (n : Nat) : 0 < (vb n).length := by rw [vb_eq]; simp
theorem vpre_length (n : Nat) : (vb n).length = (vpre n).length + 1 := by rw [vb_eq]; simp
theorem vb_len (k : Nat) : ∀ n, n < 128 ^ (k + 1) → (vb n).length ≤ k + 1 := by
  induction k with
  | zero => intro n h; rw [vb, if_pos (by omega)]; simp
  | succ k ih =>
    intro n h
    rw [vb]
    split
    · simp
    · have := ih (n / 128) (by rw [Nat.pow_succ] at h; omega)
      simp only [List.length_cons]; omega
theorem vb_len10 {n : Nat} (h : n < 18446744073709551616) : (vb n).length ≤ 10 := vb_len 9 n (by omega)
theorem zz_lt {n : Int} (h : -9223372036854775808 ≤ n) (h' : n ≤ 9223372036854775807) : zz n < 18446744073709551616 := by unfold zz; split <;> omega
theorem refByte (n : Nat) : IntKind.wrap .u8 (IntKind.wrap .u64 (Int.tmod (n : Int) 128 + 128)) = ((n % 128 + 128 : Nat) : Int) := by
  rw [wu8, wu64]
  have : Int.tmod (n : Int) 128 = ((n % 128 : Nat) : Int) := by rw [Int.tmod_eq_emod_of_nonneg (by omega)]; omega
  rw [this]; omega
theorem lastByte (n : Nat) : [PV.int .u8 (IntKind.wrap .u8 (↑(vlast n) : Int))] = pvBytes [UInt8.ofNat (vlast n)] := pvByte (by rw [wu8]; have := vlast_lt n; omega) (by have := vlast_lt n; omega)
theorem vbEnd (l : List UInt8) (n : Nat) : pvBytes (l ++ vpre n) ++ [PV.int .u8 (IntKind.wrap .u8 (↑(vlast n) : Int))] = pvBytes (l ++ vb n) := by
  rw [lastByte, ← pvBytes_append, vb_eq, List.append_assoc]
theorem xorNeg (x : BitVec 64) : (x ^^^ BitVec.ofInt 64 18446744073709551615).toNat = 18446744073709551615 - x.toNat := by
  have : BitVec.ofInt 64 18446744073709551615 = BitVec.allOnes 64 := by decide
  rw [this, BitVec.xor_allOnes, BitVec.toNat_not]
theorem vb_toNat {s : List UInt8} (hs : s.length ≤ 1000000000) : (IntKind.wrap .u64 (↑(List.length s) : Int)).toNat = s.length := by rw [wu64]; omega
theorem vb_small {n : Nat} (h : n ≤ 1000000000000000) : (vb n).length ≤ 10 := vb_len10 (by omega)
def tb (s : List UInt8) : List UInt8 := vb s.length ++ s
def bb (b : Bool) : List UInt8 := vb (if b then 1 else 0)
def mb (c m : Int) : List UInt8 := vb (zz c) ++ vb (zz m)
end Go.Sx.Tryd
/- What the document's answer writes, and what a value's writing comes to. -/
namespace Go.Sx.Tryd
open Go Go.Sx
theorem rVl_1 (i n : Nat) (l : List UInt8) (g1 : (↑n : Int) > 127) (g2 : (↑(List.length (pvBytes l) + List.length [PV.int .u8 (IntKind.wrap .u8 (IntKind.wrap .u64 (Int.tmod (↑n : Int) 128 + 128)))]) : Int) * 1 ≤ 140737488355328) :
    lv (cv (ev X E0) xf81_l0) [false, false, false, true, true] 0 (St.mk (tmOf 22 [(3, AV.c (.own i 1 (pvBytes l))), (4, AV.int IntKind.u64 (↑n : Int))]) []) = lv (cv (ev X E0) xf81_l0) [false, false, false, true, true] 0 (St.mk (tmOf 22 [(3, AV.c (.own 959 1 (pvBytes l ++ [PV.int .u8 (IntKind.wrap .u8 (IntKind.wrap .u64 (Int.tmod (↑n : Int) 128 + 128)))]))), (4, AV.c (.pv (.int .u64 (IntKind.wrap .u64 (Int.tdiv (↑n : Int) 128)))))]) []) :=
  lv_next [.br true]
    (c := rq [(1, decide ((↑n : Int) > 127) = true), (1, (128 : Int) ≠ (0 : Int)), ty g2, (1, (128 : Int) ≠ (0 : Int))]) (by kernel_rfl)
    (aq ⟨(dT g1), (by decide), g2, (by decide), trivial⟩)
theorem rVl_2 (i n : Nat) (l : List UInt8) (g1 : ¬(↑n : Int) > 127) :
    lv (cv (ev X E0) xf81_l0) [false, false, false, true, true] 0 (St.mk (tmOf 22 [(3, AV.c (.own i 1 (pvBytes l))), (4, AV.int IntKind.u64 (↑n : Int))]) []) = some (XExit.exit 0, St.mk (tmOf 22 [(3, AV.c (.own i 1 (pvBytes l))), (4, AV.c (.pv (.int .u64 (↑n : Int))))]) []) :=
  lv_exit [.br false]
    (c := [decide ((↑n : Int) > 127) = false]) (by kernel_rfl)
    ⟨(dF g1), trivial⟩
theorem rVn_1 (n : Nat) (g1 : (↑n : Int) > 127) (g2 : (↑(0 + List.length [PV.int .u8 (IntKind.wrap .u8 (IntKind.wrap .u64 (Int.tmod (↑n : Int) 128 + 128)))]) : Int) * 1 ≤ 140737488355328) :
    lv (cv (ev X E0) xf81_l0) [false, false, false, true, true] 0 (St.mk (tmOf 22 [(3, AV.c (.pv (.sl SO.nil 0 []))), (4, AV.int IntKind.u64 (↑n : Int))]) []) = lv (cv (ev X E0) xf81_l0) [false, false, false, true, true] 0 (St.mk (tmOf 22 [(3, AV.c (.own 959 1 [PV.int .u8 (IntKind.wrap .u8 (IntKind.wrap .u64 (Int.tmod (↑n : Int) 128 + 128)))])), (4, AV.c (.pv (.int .u64 (IntKind.wrap .u64 (Int.tdiv (↑n : Int) 128)))))]) []) :=
  lv_next [.br true, .emp false]
    (c := rq [(1, decide ((↑n : Int) > 127) = true), (1, (128 : Int) ≠ (0 : Int)), (1, [PV.int .u8 (IntKind.wrap .u8 (IntKind.wrap .u64 (Int.tmod (↑n : Int) 128 + 128)))] ≠ []), ty g2, (1, (128 : Int) ≠ (0 : Int))]) (by kernel_rfl)
    (aq ⟨(dT g1), (by decide), (List.cons_ne_nil _ _), g2, (by decide), trivial⟩)
theorem rVn_2 (n : Nat) (g1 : ¬(↑n : Int) > 127) :
    lv (cv (ev X E0) xf81_l0) [false, false, false, true, true] 0 (St.mk (tmOf 22 [(3, AV.c (.pv (.sl SO.nil 0 []))), (4, AV.int IntKind.u64 (↑n : Int))]) []) = some (XExit.exit 0, St.mk (tmOf 22 [(3, AV.c (.pv (.sl SO.nil 0 []))), (4, AV.c (.pv (.int .u64 (↑n : Int))))]) []) :=
  lv_exit [.br false]
    (c := [decide ((↑n : Int) > 127) = false]) (by kernel_rfl)
    ⟨(dF g1), trivial⟩
theorem div128 (n : Nat) (h : n < 18446744073709551616) : IntKind.wrap .u64 (Int.tdiv (n : Int) 128) = ((n / 128 : Nat) : Int) := by
  rw [wu64, Int.tdiv_eq_ediv_of_nonneg (by omega)]; omega
theorem rVl (n : Nat) : ∀ (i : Nat) (l : List UInt8) (hn : n < 18446744073709551616) (hl : l.length + (vb n).length ≤ 100000000000000),
    lv (cv (ev X E0) xf81_l0) [false, false, false, true, true] 0 (St.mk (tmOf 22 [(3, AV.c (.own i 1 (pvBytes l))), (4, AV.c (CV.pv (PV.int .u64 (n : Int))))]) []) =
      some (.exit 0, St.mk (tmOf 22 [(3, AV.c (.own (vid i 959 n) 1 (pvBytes (l ++ vpre n)))), (4, AV.c (CV.pv (PV.int .u64 (vlast n : Int))))]) []) := by
  induction n using Nat.strongRecOn with
  | ind n ih =>
    intro i l hn hl
    rw [show AV.c (CV.pv (PV.int .u64 (n : Int))) = AV.int .u64 n from rfl]
    by_cases h : n < 128
    · rw [vlast, if_pos h, vpre, if_pos h, vid, if_pos h, List.append_nil]
      exact rVl_2 i n l (by omega)
    · rw [vlast, if_neg h, vpre, if_neg h, vid, if_neg h]
      have hb : (vb n).length = (vb (n / 128)).length + 1 := by rw [vb, if_neg h]; rfl
      rw [rVl_1 i n l (by omega) (by simp only [pvBytes_length, List.length_singleton]; omega)]
      rw [pvByte (refByte n) (by omega), ← pvBytes_append, div128 n hn]
      rw [ih (n / 128) (by omega) 959 _ (by omega) (by simp only [List.length_append, List.length_singleton]; omega)]
      simp only [vid, ite_self, List.append_assoc, List.singleton_append]
theorem rVn1 (n : Nat) (h : n < 128) :
    lv (cv (ev X E0) xf81_l0) [false, false, false, true, true] 0 (St.mk (tmOf 22 [(3, AV.c (CV.pv (PV.sl SO.nil 0 []))), (4, AV.c (CV.pv (PV.int .u64 (n : Int))))]) []) =
      some (.exit 0, St.mk (tmOf 22 [(3, AV.c (CV.pv (PV.sl SO.nil 0 []))), (4, AV.c (CV.pv (PV.int .u64 (n : Int))))]) []) := rVn_2 n (by omega)
theorem rVn2 (n : Nat) (h : ¬ n < 128) (hn : n < 18446744073709551616) :
    lv (cv (ev X E0) xf81_l0) [false, false, false, true, true] 0 (St.mk (tmOf 22 [(3, AV.c (CV.pv (PV.sl SO.nil 0 []))), (4, AV.c (CV.pv (PV.int .u64 (n : Int))))]) []) =
      some (.exit 0, St.mk (tmOf 22 [(3, AV.c (.own (vid 959 959 (n / 128)) 1 (pvBytes (vpre n)))), (4, AV.c (CV.pv (PV.int .u64 (vlast n : Int))))]) []) := by
  have hb := vb_len10 hn
  have hb' : (vb n).length = (vb (n / 128)).length + 1 := by rw [vb, if_neg h]; rfl
  rw [show AV.c (CV.pv (PV.int .u64 (n : Int))) = AV.int .u64 n from rfl]
  rw [vlast, if_neg h, vpre, if_neg h, rVn_1 n (by omega) (by simp), pvByte (refByte n) (by omega), div128 n hn]
  rw [rVl (n / 128) 959 _ (by omega) (by simp only [List.length_singleton]; omega)]
  rfl
theorem rV_1 (n : Nat) (g1 : n < 128) (g2 : (↑(0 + List.length [PV.int .u8 (IntKind.wrap .u8 (↑n : Int))]) : Int) * 1 ≤ 140737488355328) :
    cc (ev X E0) 81 [AV.c (.pv (.int .u64 (↑n : Int)))] [] = some (AV.c (.own 0 1 [PV.int .u8 (IntKind.wrap .u8 (↑n : Int))]), []) :=
  cc_path (x := xf81) rfl [.loop (XExit.exit 0) (St.mk (tmOf 22 [(3, AV.c (.pv (.sl SO.nil 0 []))), (4, AV.c (.pv (.int .u64 (↑n : Int))))]) []), .emp false]
    (c := rq [(1, lv (cv (ev X E0) xf81_l0) (rl [3, 0]) 0 (St.mk (tmOf 22 [(3, AV.c (.pv (.sl SO.nil 0 []))), (4, AV.c (.pv (.int .u64 (↑n : Int))))]) []) = some (XExit.exit 0, St.mk (tmOf 22 [(3, AV.c (.pv (.sl SO.nil 0 []))), (4, AV.c (.pv (.int .u64 (↑n : Int))))]) [])), (1, [PV.int .u8 (IntKind.wrap .u8 (↑n : Int))] ≠ []), ty g2]) (by kernel_rfl)
    (aq ⟨(rVn1 _ g1), (List.cons_ne_nil _ _), g2, trivial⟩)
theorem rW_1 (n : Nat) (g1 : ¬n < 128) (g2 : n < 18446744073709551616) (g3 : (↑(List.length (pvBytes (vpre n)) + List.length [PV.int .u8 (IntKind.wrap .u8 (↑(vlast n) : Int))]) : Int) * 1 ≤ 140737488355328) :
    cc (ev X E0) 81 [AV.c (.pv (.int .u64 (↑n : Int)))] [] = some (AV.c (.own 0 1 (pvBytes (vpre n) ++ [PV.int .u8 (IntKind.wrap .u8 (↑(vlast n) : Int))])), []) :=
  cc_path (x := xf81) rfl [.loop (XExit.exit 0) (St.mk (tmOf 22 [(3, AV.c (.own (vid 959 959 (n / 128)) 1 (pvBytes (vpre n)))), (4, AV.c (.pv (.int .u64 (↑(vlast n) : Int))))]) [])]
    (c := rq [(1, lv (cv (ev X E0) xf81_l0) (rl [3, 0]) 0 (St.mk (tmOf 22 [(3, AV.c (.pv (.sl SO.nil 0 []))), (4, AV.c (.pv (.int .u64 (↑n : Int))))]) []) = some (XExit.exit 0, St.mk (tmOf 22 [(3, AV.c (.own (vid 959 959 (n / 128)) 1 (pvBytes (vpre n)))), (4, AV.c (.pv (.int .u64 (↑(vlast n) : Int))))]) [])), ty g3]) (by kernel_rfl)
    (aq ⟨(rVn2 _ g1 g2), g3, trivial⟩)
theorem rVint (u : Int) (h0 : 0 ≤ u) (hn : u < 18446744073709551616) :
    cc (ev X E0) 81 [AV.int .u64 u] [] = some (.c (.own 0 1 (pvBytes (vb u.toNat))), []) := by
  obtain ⟨n, rfl⟩ := Int.eq_ofNat_of_zero_le h0
  simp only [Int.toNat_natCast]
  rw [show AV.int .u64 (n : Int) = AV.c (CV.pv (PV.int .u64 (n : Int))) from rfl]
  by_cases h : n < 128
  · rw [rV_1 n h (by simp), pvByte (n := n) (by rw [wu8]; omega) (by omega), vb, if_pos h]
  · have h' := vpre_length n
    have h2 := vb_len10 (n := n) (by omega)
    have := vbEnd [] n
    simp only [List.nil_append] at this
    rw [rW_1 n h (by omega) (by simp only [pvBytes_length, List.length_singleton]; omega), this]
theorem rZ_1 (n : Int) (g1 : n ≥ 0) :
    cc (ev X E0) 121 [AV.c (vi n)] [] = some (AV.c (.pv (.int .u64 (IntKind.wrap .u64 (2 * IntKind.wrap .u64 n)))), []) :=
  cc_path (x := xf121) rfl [.br true]
    (c := [decide (n ≥ 0) = true]) (by kernel_rfl)
    ⟨(dT g1), trivial⟩
theorem rZ_2 (n : Int) (g1 : ¬n ≥ 0) :
    cc (ev X E0) 121 [AV.c (vi n)] [] = some (AV.c (.pv (.int .u64 (IntKind.wrap .u64 (IntKind.wrap .u64 (2 * IntKind.wrap .u64 (IntKind.wrap .i64 (0 - IntKind.wrap .i64 (n + 1)))) + 1)))), []) :=
  cc_path (x := xf121) rfl [.br false]
    (c := [decide (n ≥ 0) = false]) (by kernel_rfl)
    ⟨(dF g1), trivial⟩
theorem rZig (n : Int) (h : -9223372036854775808 ≤ n) (h' : n ≤ 9223372036854775807) :
    cc (ev X E0) 121 [AV.int .i64 n] [] = some (AV.int .u64 (zz n), []) := by
  rw [show AV.int .i64 n = AV.c (CV.pv (PV.int .i64 n)) from rfl]
  by_cases h0 : n ≥ 0
  · rw [rZ_1 n h0]
    rw [show IntKind.wrap .u64 (2 * IntKind.wrap .u64 n) = ((zz n : Nat) : Int) by rw [wu64, wu64, zz, if_pos h0]; omega]
  · rw [rZ_2 n h0]
    rw [wi64 (n := n + 1) (by omega) (by omega), wi64 (by omega) (by omega)]
    rw [show IntKind.wrap .u64 (IntKind.wrap .u64 (2 * IntKind.wrap .u64 (0 - (n + 1))) + 1) = ((zz n : Nat) : Int) by simp only [wu64]; rw [zz, if_neg (by omega)]; omega]
theorem rT_3 (s : List UInt8) (g1 : 0 ≤ IntKind.wrap .u64 (↑(List.length s) : Int)) (g2 : IntKind.wrap .u64 (↑(List.length s) : Int) < 18446744073709551616) (g3 : pvBytes (vb (Int.toNat (IntKind.wrap .u64 (↑(List.length s) : Int)))) ≠ []) (g4 : (↑(0 + List.length (pvBytes (vb (Int.toNat (IntKind.wrap .u64 (↑(List.length s) : Int)))))) : Int) * 1 ≤ 140737488355328) (g5 : (↑(List.length ([] ++ pvBytes (vb (Int.toNat (IntKind.wrap .u64 (↑(List.length s) : Int))))) + List.length (pvBytes s)) : Int) * 1 ≤ 140737488355328) :
    cc (ev X E0) 83 [AV.c (.pv (.str s))] [] = some (AV.c (.own 0 1 ([] ++ pvBytes (vb (Int.toNat (IntKind.wrap .u64 (↑(List.length s) : Int)))) ++ pvBytes s)), []) :=
  cc_path (x := xf83) rfl [.call (AV.c (.own 0 1 (pvBytes (vb (Int.toNat (IntKind.wrap .u64 (↑(List.length s) : Int))))))) [], .emp false]
    (c := rq [(1, cc (ev X E0) 81 [AV.c (.pv (.int .u64 (IntKind.wrap .u64 (↑(List.length s) : Int))))] [] = some (AV.c (.own 0 1 (pvBytes (vb (Int.toNat (IntKind.wrap .u64 (↑(List.length s) : Int)))))), [])), ty g3, ty g4, ty g5]) (by kernel_rfl)
    (aq ⟨(rVint _ g1 g2), g3, g4, g5, trivial⟩)
theorem pv_ne {l : List UInt8} (h : 0 < l.length) : pvBytes l ≠ [] := by
  cases l with
  | nil => simp at h
  | cons a l => simp [pvBytes]
theorem rText (s : List UInt8) (hs : s.length ≤ 1000000) :
    cc (ev X E0) 83 [AV.s s] [] = some (.c (.own 0 1 (pvBytes (tb s))), []) := by
  have h := rT_3 s
  have hv := vb_small (n := s.length) (by omega)
  rw [vb_toNat (by omega), wu64] at h
  simp only [List.nil_append, ← pvBytes_append] at h
  exact h (by omega) (by omega) (pv_ne (vb_pos _)) (by simp only [pvBytes_length]; omega) (by simp only [pvBytes_length]; omega)
theorem rM_3 (c m : Int) (g1 : -9223372036854775808 ≤ c) (g2 : c ≤ 9223372036854775807) (g3 : 0 ≤ (↑(zz c) : Int)) (g4 : (↑(zz c) : Int) < 18446744073709551616) (g5 : pvBytes (vb (zz c)) ≠ []) (g6 : (↑(0 + List.length (pvBytes (vb (zz c)))) : Int) * 1 ≤ 140737488355328) (g7 : -9223372036854775808 ≤ m) (g8 : m ≤ 9223372036854775807) (g9 : 0 ≤ (↑(zz m) : Int)) (g10 : (↑(zz m) : Int) < 18446744073709551616) (g11 : (↑(List.length ([] ++ pvBytes (vb (zz c))) + List.length (pvBytes (vb (zz m)))) : Int) * 1 ≤ 140737488355328) :
    cc (ev X E0) 84 [AV.agg [vi c, vi m]] [] = some (AV.c (.own 0 1 ([] ++ pvBytes (vb (zz c)) ++ pvBytes (vb (zz m)))), []) :=
  cc_path (x := xf84) rfl [.call (AV.c (.pv (.int .u64 (↑(zz c) : Int)))) [], .call (AV.c (.own 0 1 (pvBytes (vb (zz c))))) [], .emp false, .call (AV.c (.pv (.int .u64 (↑(zz m) : Int)))) [], .call (AV.c (.own 0 1 (pvBytes (vb (zz m))))) []]
    (c := rq [(1, cc (ev X E0) 121 [AV.c (vi c)] [] = some (AV.c (.pv (.int .u64 (↑(zz c) : Int))), [])), (1, cc (ev X E0) 81 [AV.c (.pv (.int .u64 (↑(zz c) : Int)))] [] = some (AV.c (.own 0 1 (pvBytes (vb (zz c)))), [])), ty g5, ty g6, (1, cc (ev X E0) 121 [AV.c (vi m)] [] = some (AV.c (.pv (.int .u64 (↑(zz m) : Int))), [])), (1, cc (ev X E0) 81 [AV.c (.pv (.int .u64 (↑(zz m) : Int)))] [] = some (AV.c (.own 0 1 (pvBytes (vb (zz m)))), [])), ty g11]) (by kernel_rfl)
    (aq ⟨(rZig _ g1 g2), (rVint _ g3 g4), g5, g6, (rZig _ g7 g8), (rVint _ g9 g10), g11, trivial⟩)
theorem rMoney (c m : Int) (h1 : -9223372036854775808 ≤ c) (h2 : c ≤ 9223372036854775807) (h3 : -9223372036854775808 ≤ m) (h4 : m ≤ 9223372036854775807) :
    cc (ev X E0) 84 [AV.agg [.pv (.int .i64 c), .pv (.int .i64 m)]] [] = some (.c (.own 0 1 (pvBytes (mb c m))), []) := by
  have hc := zz_lt h1 h2
  have hm := zz_lt h3 h4
  have h := rM_3 c m h1 h2 (by omega) (by omega) (pv_ne (vb_pos _)) (by have := vb_len10 hc; simp only [pvBytes_length, Int.toNat_natCast]; omega) h3 h4 (by omega) (by omega)
    (by have := vb_len10 hc; have := vb_len10 hm; simp only [List.nil_append, pvBytes_length, Int.toNat_natCast]; omega)
  simp only [List.nil_append, ← pvBytes_append, Int.toNat_natCast] at h
  exact h
end Go.Sx.Tryd
