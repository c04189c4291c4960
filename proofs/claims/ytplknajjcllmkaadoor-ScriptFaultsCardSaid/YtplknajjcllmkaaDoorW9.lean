/- What the writer of code and the document's answer write: the bytes of numbers, texts, bools and money. -/
import Derived.Test.YtplknajjcllmkaaDoorXS
namespace Go.Sx.Tryd
open Go Go.Sx
def vb (n : Nat) : List UInt8 := if n < 128 then [UInt8.ofNat n] else UInt8.ofNat (n % 128 + 128) :: vb (n / 128)
def vpre (n : Nat) : List UInt8 := if n < 128 then [] else UInt8.ofNat (n % 128 + 128) :: vpre (n / 128)
def vlast (n : Nat) : Nat := if n < 128 then n else vlast (n / 128)
def vid (i j n : Nat) : Nat := if n < 128 then i else j
def zz (n : Int) : Nat := if 0 ≤ n then (2 * n).toNat else (-2 * n - 1).toNat
theorem vb_eq (n : Nat) : vb n = vpre n ++ [UInt8.ofNat (vlast n)] := by
  induction n using Nat.strongRecOn with
  | ind n ih =>
    rw [vb, vpre, vlast]
    split
    · rfl
    · rw [ih (n / 128) (by omega)]; rfl
theorem vlast_lt (n : Nat) : vlast n < 128 := by
  induction n using Nat.strongRecOn with
  | ind n ih =>
    rw [vlast]
    split
    · assumption
    · exact ih _ (by omega)
theorem vpre_length (n : Nat) : (vb n).length = (vpre n).length + 1 := by rw [vb_eq]; simp
theorem vb_len (k : Nat) : ∀ n, n < 128 ^ (k + 1) → (vb n).length ≤ k + 1 := by
  induction k with
  | zero => intro n h; rw [vb, if_pos (by omega)]; simp
  | succ k ih =>
    intro n h
    rw [vb]
    split
    · simp
    · have := ih (n / 128) (by rw [Nat.pow_succ] at h; omega)
      simp only [List.length_cons]; omega
theorem vb_len10 {n : Nat} (h : n < 18446744073709551616) : (vb n).length ≤ 10 := vb_len 9 n (by omega)
theorem zz_lt {n : Int} (h : -9223372036854775808 ≤ n) (h' : n ≤ 9223372036854775807) : zz n < 18446744073709551616 := by unfold zz; split <;> omega
theorem or128 {n : Nat} : IntKind.wrap .u8 (↑(BitVec.toNat (BitVec.ofInt 8 (IntKind.wrap .u8 (n : Int)) ||| BitVec.ofInt 8 128)) : Int) = ((n % 128 + 128 : Nat) : Int) := by
  have h : ∀ m : Fin 256, (BitVec.toNat (BitVec.ofInt 8 ((m : Nat) : Int) ||| BitVec.ofInt 8 128)) = m.val % 128 + 128 := by decide +kernel
  have := h ⟨n % 256, by omega⟩
  rw [wu8, wu8]
  rw [show ((n : Int) % 256) = (((n % 256 : Nat)) : Int) by omega, this]
  simp only
  omega
theorem orByte (n : Nat) : [PV.int .u8 (IntKind.wrap .u8 (↑(BitVec.toNat (BitVec.ofInt 8 (IntKind.wrap .u8 (n : Int)) ||| BitVec.ofInt 8 128)) : Int))] = pvBytes [UInt8.ofNat (n % 128 + 128)] := pvByte or128 (by omega)
theorem lastByte (n : Nat) : [PV.int .u8 (IntKind.wrap .u8 (↑(vlast n) : Int))] = pvBytes [UInt8.ofNat (vlast n)] := pvByte (by rw [wu8]; have := vlast_lt n; omega) (by have := vlast_lt n; omega)
theorem Vl_1 (i n : Nat) (l : List UInt8) (g1 : (↑n : Int) ≥ 128) (g2 : (↑(List.length (pvBytes l) + List.length [PV.int .u8 (IntKind.wrap .u8 (↑(BitVec.toNat (BitVec.ofInt 8 (IntKind.wrap .u8 (↑n : Int)) ||| BitVec.ofInt 8 128)) : Int))]) : Int) * 1 ≤ 140737488355328) :
    lv (cv (ev X E0) xf49_l0) [true, true] 1 (St.mk (tmOf 33 [(0, AV.c (.ptr 0 0)), (1, AV.int IntKind.u64 (↑n : Int))]) [.cells [.own i 1 (pvBytes l)]]) = lv (cv (ev X E0) xf49_l0) [true, true] 1 (St.mk (tmOf 33 [(0, AV.c (.ptr 0 0)), (1, AV.c (.pv (.int .u64 (Int.fdiv (↑n : Int) 128))))]) [.cells [.own 1279 1 (pvBytes l ++ [PV.int .u8 (IntKind.wrap .u8 (↑(BitVec.toNat (BitVec.ofInt 8 (IntKind.wrap .u8 (↑n : Int)) ||| BitVec.ofInt 8 128)) : Int))])]]) :=
  lv_next [.br true]
    (c := rq [(1, decide ((↑n : Int) ≥ 128) = true), ty g2, (1, (0 : Int) ≤ (7 : Int))]) (by kernel_rfl)
    (aq ⟨(dT g1), g2, (by decide), trivial⟩)
theorem Vl_2 (i n : Nat) (l : List UInt8) (g1 : ¬(↑n : Int) ≥ 128) :
    lv (cv (ev X E0) xf49_l0) [true, true] 1 (St.mk (tmOf 33 [(0, AV.c (.ptr 0 0)), (1, AV.int IntKind.u64 (↑n : Int))]) [.cells [.own i 1 (pvBytes l)]]) = some (XExit.exit 0, St.mk (tmOf 33 [(0, AV.c (.ptr 0 0)), (1, AV.c (.pv (.int .u64 (↑n : Int))))]) [.cells [.own i 1 (pvBytes l)]]) :=
  lv_exit [.br false]
    (c := [decide ((↑n : Int) ≥ 128) = false]) (by kernel_rfl)
    ⟨(dF g1), trivial⟩
theorem Vn_1 (z n : Nat) (g1 : (↑n : Int) ≥ 128) (g2 : (↑(0 + List.length [PV.int .u8 (IntKind.wrap .u8 (↑(BitVec.toNat (BitVec.ofInt 8 (IntKind.wrap .u8 (↑n : Int)) ||| BitVec.ofInt 8 128)) : Int))]) : Int) * 1 ≤ 140737488355328) :
    lv (cv (ev X E0) xf49_l0) [true, true] 1 (St.mk (tmOf 33 [(0, AV.c (.ptr 0 0)), (1, AV.int IntKind.u64 (↑n : Int))]) [.cells [.pv (.sl SO.nil z [])]]) = lv (cv (ev X E0) xf49_l0) [true, true] 1 (St.mk (tmOf 33 [(0, AV.c (.ptr 0 0)), (1, AV.c (.pv (.int .u64 (Int.fdiv (↑n : Int) 128))))]) [.cells [.own 1279 1 [PV.int .u8 (IntKind.wrap .u8 (↑(BitVec.toNat (BitVec.ofInt 8 (IntKind.wrap .u8 (↑n : Int)) ||| BitVec.ofInt 8 128)) : Int))]]]) :=
  lv_next [.br true, .emp false]
    (c := rq [(1, decide ((↑n : Int) ≥ 128) = true), (1, [PV.int .u8 (IntKind.wrap .u8 (↑(BitVec.toNat (BitVec.ofInt 8 (IntKind.wrap .u8 (↑n : Int)) ||| BitVec.ofInt 8 128)) : Int))] ≠ []), ty g2, (1, (0 : Int) ≤ (7 : Int))]) (by kernel_rfl)
    (aq ⟨(dT g1), (List.cons_ne_nil _ _), g2, (by decide), trivial⟩)
theorem Vn_2 (z n : Nat) (g1 : ¬(↑n : Int) ≥ 128) :
    lv (cv (ev X E0) xf49_l0) [true, true] 1 (St.mk (tmOf 33 [(0, AV.c (.ptr 0 0)), (1, AV.int IntKind.u64 (↑n : Int))]) [.cells [.pv (.sl SO.nil z [])]]) = some (XExit.exit 0, St.mk (tmOf 33 [(0, AV.c (.ptr 0 0)), (1, AV.c (.pv (.int .u64 (↑n : Int))))]) [.cells [.pv (.sl SO.nil z [])]]) :=
  lv_exit [.br false]
    (c := [decide ((↑n : Int) ≥ 128) = false]) (by kernel_rfl)
    ⟨(dF g1), trivial⟩
theorem Vl (n : Nat) : ∀ (i : Nat) (l : List UInt8) (hl : l.length + (vb n).length ≤ 100000000000000),
    lv (cv (ev X E0) xf49_l0) [true, true] 1 (St.mk (tmOf 33 [(0, AV.c (CV.ptr 0 0)), (1, AV.c (CV.pv (PV.int .u64 (n : Int))))]) [.cells [.own i 1 (pvBytes l)]]) =
      some (.exit 0, St.mk (tmOf 33 [(0, AV.c (CV.ptr 0 0)), (1, AV.c (CV.pv (PV.int .u64 (vlast n : Int))))]) [.cells [.own (vid i 1279 n) 1 (pvBytes (l ++ vpre n))]]) := by
  induction n using Nat.strongRecOn with
  | ind n ih =>
    intro i l hl
    by_cases h : n < 128
    · rw [vlast, if_pos h, vpre, if_pos h, vid, if_pos h, List.append_nil]
      exact Vl_2 i n l (by omega)
    · rw [vlast, if_neg h, vpre, if_neg h, vid, if_neg h]
      have hb : (vb n).length = (vb (n / 128)).length + 1 := by rw [vb, if_neg h]; rfl
      rw [show AV.c (CV.pv (PV.int .u64 (n : Int))) = AV.int .u64 n from rfl]
      rw [Vl_1 i n l (by omega) (by simp only [pvBytes_length, List.length_singleton]; omega)]
      rw [orByte, ← pvBytes_append, show Int.fdiv (n : Int) 128 = ((n / 128 : Nat) : Int) by rw [Int.fdiv_eq_ediv_of_nonneg _ (by omega)]; omega]
      rw [ih (n / 128) (by omega) 1279 _ (by simp only [List.length_append, List.length_singleton]; omega)]
      simp only [vid, ite_self, List.append_assoc, List.singleton_append]
theorem Vn1 (z n : Nat) (h : n < 128) :
    lv (cv (ev X E0) xf49_l0) [true, true] 1 (St.mk (tmOf 33 [(0, AV.c (CV.ptr 0 0)), (1, AV.c (CV.pv (PV.int .u64 (n : Int))))]) [.cells [.pv (.sl .nil z [])]]) =
      some (.exit 0, St.mk (tmOf 33 [(0, AV.c (CV.ptr 0 0)), (1, AV.c (CV.pv (PV.int .u64 (n : Int))))]) [.cells [.pv (.sl .nil z [])]]) := Vn_2 z n (by omega)
theorem Vn2 (z n : Nat) (h : ¬ n < 128) (hl : (vb n).length ≤ 100000000000000) :
    lv (cv (ev X E0) xf49_l0) [true, true] 1 (St.mk (tmOf 33 [(0, AV.c (CV.ptr 0 0)), (1, AV.c (CV.pv (PV.int .u64 (n : Int))))]) [.cells [.pv (.sl .nil z [])]]) =
      some (.exit 0, St.mk (tmOf 33 [(0, AV.c (CV.ptr 0 0)), (1, AV.c (CV.pv (PV.int .u64 (vlast n : Int))))]) [.cells [.own (vid 1279 1279 (n / 128)) 1 (pvBytes (vpre n))]]) := by
  have hb : (vb n).length = (vb (n / 128)).length + 1 := by rw [vb, if_neg h]; rfl
  rw [vlast, if_neg h, vpre, if_neg h]
  rw [show AV.c (CV.pv (PV.int .u64 (n : Int))) = AV.int .u64 n from rfl]
  rw [Vn_1 z n (by omega) (by simp)]
  rw [orByte, show Int.fdiv (n : Int) 128 = ((n / 128 : Nat) : Int) by rw [Int.fdiv_eq_ediv_of_nonneg _ (by omega)]; omega]
  rw [Vl (n / 128) 1279 _ (by simp only [List.length_singleton]; omega)]
  rfl
theorem VO_1 (i n : Nat) (l : List UInt8) (g1 : List.length l + List.length (vb n) ≤ 100000000000000) (g2 : (↑(List.length (pvBytes (l ++ vpre n)) + List.length [PV.int .u8 (IntKind.wrap .u8 (↑(vlast n) : Int))]) : Int) * 1 ≤ 140737488355328) :
    cc (ev X E0) 49 [AV.c (.ptr 0 0), AV.c (.pv (.int .u64 (↑n : Int)))] [.cells [.own i 1 (pvBytes l)]] = some (AV.tup [], [.cells [.own 0 1 (pvBytes (l ++ vpre n) ++ [PV.int .u8 (IntKind.wrap .u8 (↑(vlast n) : Int))])]]) :=
  cc_path (x := xf49) rfl [.br false, .loop (XExit.exit 0) (St.mk (tmOf 33 [(0, AV.c (.ptr 0 0)), (1, AV.c (.pv (.int .u64 (↑(vlast n) : Int))))]) [.cells [.own (vid i 1279 n) 1 (pvBytes (l ++ vpre n))]])]
    (c := rq [(1, false = false), (1, lv (cv (ev X E0) xf49_l0) (rl [0, 0]) 1 (St.mk (tmOf 33 [(0, AV.c (.ptr 0 0)), (1, AV.c (.pv (.int .u64 (↑n : Int))))]) [.cells [.own i 1 (pvBytes l)]]) = some (XExit.exit 0, St.mk (tmOf 33 [(0, AV.c (.ptr 0 0)), (1, AV.c (.pv (.int .u64 (↑(vlast n) : Int))))]) [.cells [.own (vid i 1279 n) 1 (pvBytes (l ++ vpre n))]])), ty g2]) (by kernel_rfl)
    (aq ⟨rfl, (Vl _ _ _ g1), g2, trivial⟩)
theorem VN_1 (z n : Nat) (g1 : n < 128) (g2 : (↑(0 + List.length [PV.int .u8 (IntKind.wrap .u8 (↑n : Int))]) : Int) * 1 ≤ 140737488355328) :
    cc (ev X E0) 49 [AV.c (.ptr 0 0), AV.c (.pv (.int .u64 (↑n : Int)))] [.cells [.pv (.sl SO.nil z [])]] = some (AV.tup [], [.cells [.own 0 1 [PV.int .u8 (IntKind.wrap .u8 (↑n : Int))]]]) :=
  cc_path (x := xf49) rfl [.br false, .loop (XExit.exit 0) (St.mk (tmOf 33 [(0, AV.c (.ptr 0 0)), (1, AV.c (.pv (.int .u64 (↑n : Int))))]) [.cells [.pv (.sl SO.nil z [])]]), .emp false]
    (c := rq [(1, false = false), (1, lv (cv (ev X E0) xf49_l0) (rl [0, 0]) 1 (St.mk (tmOf 33 [(0, AV.c (.ptr 0 0)), (1, AV.c (.pv (.int .u64 (↑n : Int))))]) [.cells [.pv (.sl SO.nil z [])]]) = some (XExit.exit 0, St.mk (tmOf 33 [(0, AV.c (.ptr 0 0)), (1, AV.c (.pv (.int .u64 (↑n : Int))))]) [.cells [.pv (.sl SO.nil z [])]])), (1, [PV.int .u8 (IntKind.wrap .u8 (↑n : Int))] ≠ []), ty g2]) (by kernel_rfl)
    (aq ⟨rfl, (Vn1 _ _ g1), (List.cons_ne_nil _ _), g2, trivial⟩)
theorem VM_1 (z n : Nat) (g1 : ¬n < 128) (g2 : List.length (vb n) ≤ 100000000000000) (g3 : (↑(List.length (pvBytes (vpre n)) + List.length [PV.int .u8 (IntKind.wrap .u8 (↑(vlast n) : Int))]) : Int) * 1 ≤ 140737488355328) :
    cc (ev X E0) 49 [AV.c (.ptr 0 0), AV.c (.pv (.int .u64 (↑n : Int)))] [.cells [.pv (.sl SO.nil z [])]] = some (AV.tup [], [.cells [.own 0 1 (pvBytes (vpre n) ++ [PV.int .u8 (IntKind.wrap .u8 (↑(vlast n) : Int))])]]) :=
  cc_path (x := xf49) rfl [.br false, .loop (XExit.exit 0) (St.mk (tmOf 33 [(0, AV.c (.ptr 0 0)), (1, AV.c (.pv (.int .u64 (↑(vlast n) : Int))))]) [.cells [.own (vid 1279 1279 (n / 128)) 1 (pvBytes (vpre n))]])]
    (c := rq [(1, false = false), (1, lv (cv (ev X E0) xf49_l0) (rl [0, 0]) 1 (St.mk (tmOf 33 [(0, AV.c (.ptr 0 0)), (1, AV.c (.pv (.int .u64 (↑n : Int))))]) [.cells [.pv (.sl SO.nil z [])]]) = some (XExit.exit 0, St.mk (tmOf 33 [(0, AV.c (.ptr 0 0)), (1, AV.c (.pv (.int .u64 (↑(vlast n) : Int))))]) [.cells [.own (vid 1279 1279 (n / 128)) 1 (pvBytes (vpre n))]])), ty g3]) (by kernel_rfl)
    (aq ⟨rfl, (Vn2 _ _ g1 g2), g3, trivial⟩)
theorem vbEnd (l : List UInt8) (n : Nat) : pvBytes (l ++ vpre n) ++ [PV.int .u8 (IntKind.wrap .u8 (↑(vlast n) : Int))] = pvBytes (l ++ vb n) := by
  rw [lastByte, ← pvBytes_append, vb_eq, List.append_assoc]
theorem Vint_own (i : Nat) (u : Int) (l : List UInt8) (hu : 0 ≤ u) (hl : l.length + (vb u.toNat).length ≤ 100000000000000) :
    cc (ev X E0) 49 [AV.c (.ptr 0 0), AV.int .u64 u] [Box.cells [.own i 1 (pvBytes l)]] = some (.tup [], [Box.cells [.own 0 1 (pvBytes (l ++ vb u.toNat))]]) := by
  obtain ⟨n, rfl⟩ := Int.eq_ofNat_of_zero_le hu
  simp only [Int.toNat_natCast] at hl ⊢
  have h := vpre_length n
  rw [show AV.int .u64 (n : Int) = AV.c (CV.pv (PV.int .u64 (n : Int))) from rfl, VO_1 i n l hl (by simp only [pvBytes_length, List.length_append, List.length_singleton]; omega), vbEnd]
theorem Vint_nil (z : Nat) (u : Int) (hu : 0 ≤ u) (hl : (vb u.toNat).length ≤ 100000000000000) :
    cc (ev X E0) 49 [AV.c (.ptr 0 0), AV.int .u64 u] [Box.cells [.pv (.sl .nil z [])]] = some (.tup [], [Box.cells [.own 0 1 (pvBytes (vb u.toNat))]]) := by
  obtain ⟨n, rfl⟩ := Int.eq_ofNat_of_zero_le hu
  simp only [Int.toNat_natCast] at hl ⊢
  rw [show AV.int .u64 (n : Int) = AV.c (CV.pv (PV.int .u64 (n : Int))) from rfl]
  by_cases h : n < 128
  · rw [VN_1 z n h (by simp), pvByte (n := n) (by rw [wu8]; omega) (by omega), vb, if_pos h]
  · have h' := vpre_length n
    rw [VM_1 z n h hl (by simp only [pvBytes_length, List.length_singleton]; omega)]
    have := vbEnd [] n
    simp only [List.nil_append] at this
    rw [this]
theorem xorNeg (x : BitVec 64) : (x ^^^ BitVec.ofInt 64 18446744073709551615).toNat = 18446744073709551615 - x.toNat := by
  have : BitVec.ofInt 64 18446744073709551615 = BitVec.allOnes 64 := by decide
  rw [this, BitVec.xor_allOnes, BitVec.toNat_not]
theorem zigzag {n : Int} (h : -9223372036854775808 ≤ n) (h' : n ≤ 9223372036854775807) :
    IntKind.wrap .u64 (↑(BitVec.toNat (BitVec.ofInt 64 (IntKind.wrap .u64 (IntKind.wrap .u64 n * 2)) ^^^ BitVec.ofInt 64 (IntKind.wrap .u64 (Int.fdiv n 9223372036854775808)))) : Int) = ((zz n : Nat) : Int) := by
  rw [Int.fdiv_eq_ediv_of_nonneg _ (by omega)]
  simp only [wu64]
  unfold zz
  split
  · rename_i h0
    have : n / 9223372036854775808 % 18446744073709551616 = 0 := by omega
    rw [this]
    simp only [BitVec.ofInt_ofNat, BitVec.toNat_xor, BitVec.toNat_ofInt, BitVec.toNat_ofNat]
    simp
    omega
  · have : n / 9223372036854775808 % 18446744073709551616 = 18446744073709551615 := by omega
    rw [this, xorNeg, BitVec.toNat_ofInt]
    omega
theorem ZO_1 (n : Int) (l : List UInt8) (g1 : 0 ≤ IntKind.wrap .u64 (↑(BitVec.toNat (BitVec.ofInt 64 (IntKind.wrap .u64 (IntKind.wrap .u64 n * 2)) ^^^ BitVec.ofInt 64 (IntKind.wrap .u64 (Int.fdiv n 9223372036854775808)))) : Int)) (g2 : List.length l + List.length (vb (Int.toNat (IntKind.wrap .u64 (↑(BitVec.toNat (BitVec.ofInt 64 (IntKind.wrap .u64 (IntKind.wrap .u64 n * 2)) ^^^ BitVec.ofInt 64 (IntKind.wrap .u64 (Int.fdiv n 9223372036854775808)))) : Int)))) ≤ 100000000000000) :
    cc (ev X E0) 75 [AV.c (.ptr 0 0), AV.c (vi n)] [.cells [.own 0 1 (pvBytes l)]] = some (AV.tup [], [.cells [.own 0 1 (pvBytes (l ++ vb (Int.toNat (IntKind.wrap .u64 (↑(BitVec.toNat (BitVec.ofInt 64 (IntKind.wrap .u64 (IntKind.wrap .u64 n * 2)) ^^^ BitVec.ofInt 64 (IntKind.wrap .u64 (Int.fdiv n 9223372036854775808)))) : Int)))))]]) :=
  cc_path (x := xf75) rfl [.call (AV.tup []) [.cells [.own 0 1 (pvBytes (l ++ vb (Int.toNat (IntKind.wrap .u64 (↑(BitVec.toNat (BitVec.ofInt 64 (IntKind.wrap .u64 (IntKind.wrap .u64 n * 2)) ^^^ BitVec.ofInt 64 (IntKind.wrap .u64 (Int.fdiv n 9223372036854775808)))) : Int)))))]]]
    (c := [(0 : Int) ≤ (1 : Int), (0 : Int) ≤ (63 : Int), cc (ev X E0) 49 [AV.c (.ptr 0 0), AV.c (.pv (.int .u64 (IntKind.wrap .u64 (↑(BitVec.toNat (BitVec.ofInt 64 (IntKind.wrap .u64 (IntKind.wrap .u64 n * 2)) ^^^ BitVec.ofInt 64 (IntKind.wrap .u64 (Int.fdiv n 9223372036854775808)))) : Int))))] [.cells [.own 0 1 (pvBytes l)]] = some (AV.tup [], [.cells [.own 0 1 (pvBytes (l ++ vb (Int.toNat (IntKind.wrap .u64 (↑(BitVec.toNat (BitVec.ofInt 64 (IntKind.wrap .u64 (IntKind.wrap .u64 n * 2)) ^^^ BitVec.ofInt 64 (IntKind.wrap .u64 (Int.fdiv n 9223372036854775808)))) : Int)))))]])]) (by kernel_rfl)
    ⟨(by decide), (by decide), (Vint_own _ _ _ g1 g2), trivial⟩
theorem Zig_own (n : Int) (l : List UInt8) (h : -9223372036854775808 ≤ n) (h' : n ≤ 9223372036854775807) (hl : l.length ≤ 1000000000) :
    cc (ev X E0) 75 [AV.c (.ptr 0 0), AV.int .i64 n] [Box.cells [.own 0 1 (pvBytes l)]] = some (.tup [], [Box.cells [.own 0 1 (pvBytes (l ++ vb (zz n)))]]) := by
  have := ZO_1 n l
  rw [zigzag h h'] at this
  exact this (by omega) (by have := vb_len10 (zz_lt h h'); simp only [Int.toNat_natCast]; omega)
theorem TO_1 (s l : List UInt8) (g1 : 0 ≤ IntKind.wrap .u64 (↑(List.length s) : Int)) (g2 : List.length l + List.length (vb (Int.toNat (IntKind.wrap .u64 (↑(List.length s) : Int)))) ≤ 100000000000000) (g3 : (↑(List.length (pvBytes (l ++ vb (Int.toNat (IntKind.wrap .u64 (↑(List.length s) : Int))))) + List.length (pvBytes s)) : Int) * 1 ≤ 140737488355328) :
    cc (ev X E0) 50 [AV.c (.ptr 0 0), AV.c (.pv (.str s))] [.cells [.own 0 1 (pvBytes l)]] = some (AV.tup [], [.cells [.own 0 1 (pvBytes (l ++ vb (Int.toNat (IntKind.wrap .u64 (↑(List.length s) : Int)))) ++ pvBytes s)]]) :=
  cc_path (x := xf50) rfl [.br true, .call (AV.tup []) [.cells [.own 0 1 (pvBytes (l ++ vb (Int.toNat (IntKind.wrap .u64 (↑(List.length s) : Int)))))]]]
    (c := rq [(1, true = true), (1, cc (ev X E0) 49 [AV.c (.ptr 0 0), AV.c (.pv (.int .u64 (IntKind.wrap .u64 (↑(List.length s) : Int))))] [.cells [.own 0 1 (pvBytes l)]] = some (AV.tup [], [.cells [.own 0 1 (pvBytes (l ++ vb (Int.toNat (IntKind.wrap .u64 (↑(List.length s) : Int)))))]])), ty g3]) (by kernel_rfl)
    (aq ⟨rfl, (Vint_own _ _ _ g1 g2), g3, trivial⟩)
theorem BO_1 (s : Bool) (l : List UInt8) (g1 : s = true) (g2 : List.length l + List.length (vb 1) ≤ 100000000000000) :
    cc (ev X E0) 77 [AV.c (.ptr 0 0), AV.c (.pv (.bool s))] [.cells [.own 0 1 (pvBytes l)]] = some (AV.tup [], [.cells [.own 0 1 (pvBytes (l ++ vb 1))]]) :=
  cc_path (x := xf77) rfl [.br true, .call (AV.tup []) [.cells [.own 0 1 (pvBytes (l ++ vb 1))]]]
    (c := [s = true, cc (ev X E0) 49 [AV.c (.ptr 0 0), AV.c (.pv (.int .u64 1))] [.cells [.own 0 1 (pvBytes l)]] = some (AV.tup [], [.cells [.own 0 1 (pvBytes (l ++ vb 1))]])]) (by kernel_rfl)
    ⟨g1, (Vint_own _ _ _ (by decide) g2), trivial⟩
theorem BO_2 (s : Bool) (l : List UInt8) (g1 : s = false) (g2 : List.length l + List.length (vb 0) ≤ 100000000000000) :
    cc (ev X E0) 77 [AV.c (.ptr 0 0), AV.c (.pv (.bool s))] [.cells [.own 0 1 (pvBytes l)]] = some (AV.tup [], [.cells [.own 0 1 (pvBytes (l ++ vb 0))]]) :=
  cc_path (x := xf77) rfl [.br false, .call (AV.tup []) [.cells [.own 0 1 (pvBytes (l ++ vb 0))]]]
    (c := [s = false, cc (ev X E0) 49 [AV.c (.ptr 0 0), AV.c (.pv (.int .u64 0))] [.cells [.own 0 1 (pvBytes l)]] = some (AV.tup [], [.cells [.own 0 1 (pvBytes (l ++ vb 0))]])]) (by kernel_rfl)
    ⟨g1, (Vint_own _ _ _ (by decide) g2), trivial⟩
theorem vb_toNat {s : List UInt8} (hs : s.length ≤ 1000000000) : (IntKind.wrap .u64 (↑(List.length s) : Int)).toNat = s.length := by rw [wu64]; omega
theorem vb_small {n : Nat} (h : n ≤ 1000000000000000) : (vb n).length ≤ 10 := vb_len10 (by omega)
def tb (s : List UInt8) : List UInt8 := vb s.length ++ s
theorem Text_own (s l : List UInt8) (hs : s.length ≤ 1000000) (hl : l.length ≤ 1000000000) :
    cc (ev X E0) 50 [AV.c (.ptr 0 0), AV.s s] [Box.cells [.own 0 1 (pvBytes l)]] = some (.tup [], [Box.cells [.own 0 1 (pvBytes (l ++ tb s))]]) := by
  have h := TO_1 s l
  have hv := vb_small (n := s.length) (by omega)
  rw [vb_toNat (by omega), ← pvBytes_append, List.append_assoc] at h
  exact h (by rw [wu64]; omega) (by omega) (by simp only [pvBytes_length, List.length_append]; omega)
def bb (b : Bool) : List UInt8 := vb (if b then 1 else 0)
theorem Bool_own (b : Bool) (l : List UInt8) (hl : l.length ≤ 1000000000) :
    cc (ev X E0) 77 [AV.c (.ptr 0 0), AV.b b] [Box.cells [.own 0 1 (pvBytes l)]] = some (.tup [], [Box.cells [.own 0 1 (pvBytes (l ++ bb b))]]) := by
  have h1 := vb_small (n := 1) (by omega)
  have h0 := vb_small (n := 0) (by omega)
  cases b
  · exact BO_2 false l rfl (by omega)
  · exact BO_1 true l rfl (by omega)
theorem MO_1 (c m : Int) (l : List UInt8) (g1 : -9223372036854775808 ≤ c) (g2 : c ≤ 9223372036854775807) (g3 : List.length l ≤ 1000000000) (g4 : -9223372036854775808 ≤ m) (g5 : m ≤ 9223372036854775807) (g6 : List.length (l ++ vb (zz c)) ≤ 1000000000) :
    cc (ev X E0) 76 [AV.c (.ptr 0 0), AV.agg [vi c, vi m]] [.cells [.own 0 1 (pvBytes l)]] = some (AV.tup [], [.cells [.own 0 1 (pvBytes (l ++ vb (zz c) ++ vb (zz m)))]]) :=
  cc_path (x := xf76) rfl [.call (AV.tup []) [.cells [.own 0 1 (pvBytes (l ++ vb (zz c)))]], .call (AV.tup []) [.cells [.own 0 1 (pvBytes (l ++ vb (zz c) ++ vb (zz m)))]]]
    (c := [cc (ev X E0) 75 [AV.c (.ptr 0 0), AV.c (vi c)] [.cells [.own 0 1 (pvBytes l)]] = some (AV.tup [], [.cells [.own 0 1 (pvBytes (l ++ vb (zz c)))]]), cc (ev X E0) 75 [AV.c (.ptr 0 0), AV.c (vi m)] [.cells [.own 0 1 (pvBytes (l ++ vb (zz c)))]] = some (AV.tup [], [.cells [.own 0 1 (pvBytes (l ++ vb (zz c) ++ vb (zz m)))]])]) (by kernel_rfl)
    ⟨(Zig_own _ _ g1 g2 g3), (Zig_own _ _ g4 g5 g6), trivial⟩
def mb (c m : Int) : List UInt8 := vb (zz c) ++ vb (zz m)
theorem Money_own (c m : Int) (l : List UInt8) (h1 : -9223372036854775808 ≤ c) (h2 : c ≤ 9223372036854775807) (h3 : -9223372036854775808 ≤ m) (h4 : m ≤ 9223372036854775807) (hl : l.length ≤ 100000000) :
    cc (ev X E0) 76 [AV.c (.ptr 0 0), AV.agg [.pv (.int .i64 c), .pv (.int .i64 m)]] [Box.cells [.own 0 1 (pvBytes l)]] = some (.tup [], [Box.cells [.own 0 1 (pvBytes (l ++ mb c m))]]) := by
  have := vb_len10 (zz_lt h1 h2)
  rw [mb, ← List.append_assoc]
  exact MO_1 c m l h1 h2 (by omega) h3 h4 (by rw [List.length_append]; omega)
theorem NW_1 :
    cc (ev X E0) (48 : Nat) [] [] = some (AV.c (.ptr (0 : Nat) (0 : Nat)), [.cells [.pv (.sl SO.nil (0 : Nat) [])]]) :=
  cc_path (x := xf48) rfl []
    (c := []) (by kernel_rfl)
    trivial
theorem BytesO_1 (i : Nat) (l : List UInt8) :
    cc (ev X E0) 51 [AV.c (.ptr 0 0)] [.cells [.own i 1 (pvBytes l)]] = some (AV.c (.pv (.str l)), [.cells [renIdBy (idsOf (leave (List.length [Box.cells [.own i 1 (pvBytes l)]]) (packRes [List.getD [AV.c .undef, AV.c .undef, AV.c (.pv (.str l)), AV.c .undef, AV.c .undef, AV.c .undef, AV.c .undef, AV.c .undef, AV.c .undef, AV.c .undef] 2 AV.undef]) [.cells [.own i 1 (pvBytes l)]])) id (CV.freeze [.cells [.own i 1 (pvBytes l)]] (fun k => decide (List.length [Box.cells [.own i 1 (pvBytes l)]] ≤ k)) (.own i 1 (pvBytes l)))]]) :=
  cc_path (x := xf51) rfl [.br false, .bytes l]
    (c := [false = false, bytesOf' (pvBytes l) = some l]) (by kernel_rfl)
    ⟨rfl, (bytesOf_pv _), trivial⟩
end Go.Sx.Tryd
