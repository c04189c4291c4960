/- Reading a number's bytes: the program's, and the document's answer. -/
import Derived.Test.YtplknajjcllmkaaDoorW9
namespace Go.Sx.Tryd
open Go Go.Sx
def vr : List UInt8 → Nat → Nat → Nat × Nat × Int
  | [], _, u => (u, 0, 2)
  | c :: r, i, u =>
    if (i = 9 ∧ 1 < c.toNat) ∨ (0 < i ∧ c.toNat = 0) then (u, 0, 3)
    else if c.toNat < 128 then (u + c.toNat * 128 ^ i, i + 1, 0)
    else vr r (i + 1) (u + c.toNat % 128 * 128 ^ i)
theorem p128 (i : Nat) : 128 ^ i = 2 ^ (7 * i) := by rw [Nat.pow_mul]
theorem orShift {u c i : Nat} (hi : i ≤ 9) (hu : u < 128 ^ i) (hc : u + c * 128 ^ i < 18446744073709551616) (hc' : c < 256) :
    IntKind.wrap .u64 (↑(BitVec.toNat (BitVec.ofInt 64 (u : Int) ||| BitVec.ofInt 64 (IntKind.wrap .u64 (IntKind.wrap .u64 (c : Int) * 2 ^ min (Int.toNat (IntKind.wrap .i64 (7 * (i : Int)))) 64)))) : Int) = ((u + c * 128 ^ i : Nat) : Int) := by
  rw [wi64 (n := 7 * (i : Int)) (by omega) (by omega), show min (Int.toNat (7 * (i : Int))) 64 = 7 * i by omega, wu64_nat (n := c) (by omega)]
  rw [show (c : Int) * 2 ^ (7 * i) = ((c * 2 ^ (7 * i) : Nat) : Int) by push_cast; rfl, ← p128]
  rw [wu64_nat (n := c * 128 ^ i) (by omega)]
  rw [BitVec.ofInt_natCast, BitVec.ofInt_natCast, BitVec.toNat_or, BitVec.toNat_ofNat, BitVec.toNat_ofNat, Nat.mod_eq_of_lt (by omega), Nat.mod_eq_of_lt (by omega)]
  rw [p128] at hu hc ⊢
  have := Nat.shiftLeft_add_eq_or_of_lt hu c
  rw [Nat.shiftLeft_eq] at this
  rw [Nat.or_comm, ← this, Nat.add_comm]
  exact wu64_nat hc
theorem and127 (y : UInt8) : IntKind.wrap .u8 (↑(BitVec.toNat (BitVec.ofInt 8 (↑(UInt8.toNat y) : Int) &&& BitVec.ofInt 8 127)) : Int) = ((y.toNat % 128 : Nat) : Int) := by
  have h : ∀ m : Fin 256, (BitVec.toNat (BitVec.ofInt 8 ((m : Nat) : Int) &&& BitVec.ofInt 8 127)) = m.val % 128 := by decide +kernel
  have := h ⟨y.toNat, y.toNat_lt⟩
  simp only at this
  rw [this, wu8]; omega
theorem vl_1 (b : List UInt8) (u i m : Int) (y1 : UInt8) (g1 : i < m) (g2 : 0 ≤ i) (g3 : b[Int.toNat i]? = some y1) (g4 : i = 9) (g5 : (↑(UInt8.toNat y1) : Int) > 1) :
    lv (cv (ev X E0) xf123_l0) [true, false, false, false, false, true, true, true, false, false, false, true, true] 0 (St.mk (tmOf 57 [(0, AV.c (.pv (.str b))), (5, AV.c (.pv (.int .u64 u))), (6, AV.c (vi 0)), (7, AV.c (vi 2)), (11, AV.c (vi m)), (12, AV.c (vi i))]) []) = some (XExit.exit 0, St.mk (tmOf 57 [(5, AV.c (.pv (.int .u64 u))), (6, AV.c (vi 0)), (7, AV.c (vi 3))]) []) :=
  lv_exit [.br true, .byte y1, .br true, .br true, .br true, .br true, .br true, .br true, .br true, .br true, .br true]
    (c := rq [(1, decide (i < m) = true), (1, 0 ≤ i), ty g3, (3, (i == 9) = true), (5, decide ((↑(UInt8.toNat y1) : Int) > 1) = true), (1, true = true)]) (by kernel_rfl)
    (aq ⟨(dT g1), g2, g3, (beq_iff_eq.mpr g4), (dT g5), rfl, trivial⟩)
theorem vl_2 (b : List UInt8) (u i m : Int) (y1 : UInt8) (g1 : i < m) (g2 : 0 ≤ i) (g3 : b[Int.toNat i]? = some y1) (g4 : i = 9) (g5 : ¬(↑(UInt8.toNat y1) : Int) > 1) (g6 : i > 0) (g7 : (↑(UInt8.toNat y1) : Int) = 0) :
    lv (cv (ev X E0) xf123_l0) [true, false, false, false, false, true, true, true, false, false, false, true, true] 0 (St.mk (tmOf 57 [(0, AV.c (.pv (.str b))), (5, AV.c (.pv (.int .u64 u))), (6, AV.c (vi 0)), (7, AV.c (vi 2)), (11, AV.c (vi m)), (12, AV.c (vi i))]) []) = some (XExit.exit 0, St.mk (tmOf 57 [(5, AV.c (.pv (.int .u64 u))), (6, AV.c (vi 0)), (7, AV.c (vi 3))]) []) :=
  lv_exit [.br true, .byte y1, .br true, .br true, .br true, .br false, .br false, .br false, .br true, .br true, .br false, .br true, .br false, .br true]
    (c := rq [(1, decide (i < m) = true), (1, 0 ≤ i), ty g3, (3, (i == 9) = true), (3, decide ((↑(UInt8.toNat y1) : Int) > 1) = false), (2, decide (i > 0) = true), (1, decide ((↑(UInt8.toNat y1) : Int) > 1) = false), (1, decide (i > 0) = true), (1, decide ((↑(UInt8.toNat y1) : Int) > 1) = false), (1, ((↑(UInt8.toNat y1) : Int) == 0) = true)]) (by kernel_rfl)
    (aq ⟨(dT g1), g2, g3, (beq_iff_eq.mpr g4), (dF g5), (dT g6), (dF g5), (dT g6), (dF g5), (beq_iff_eq.mpr g7), trivial⟩)
theorem vl_3 (b : List UInt8) (u i m : Int) (y1 : UInt8) (g1 : i < m) (g2 : 0 ≤ i) (g3 : b[Int.toNat i]? = some y1) (g4 : i = 9) (g5 : ¬(↑(UInt8.toNat y1) : Int) > 1) (g6 : i > 0) (g7 : ¬(↑(UInt8.toNat y1) : Int) = 0) (g8 : (↑(UInt8.toNat y1) : Int) < 128) (g9 : 0 ≤ IntKind.wrap .i64 (7 * i)) :
    lv (cv (ev X E0) xf123_l0) [true, false, false, false, false, true, true, true, false, false, false, true, true] 0 (St.mk (tmOf 57 [(0, AV.c (.pv (.str b))), (5, AV.c (.pv (.int .u64 u))), (6, AV.c (vi 0)), (7, AV.c (vi 2)), (11, AV.c (vi m)), (12, AV.c (vi i))]) []) = some (XExit.exit 0, St.mk (tmOf 57 [(5, AV.c (.pv (.int .u64 (IntKind.wrap .u64 (↑(BitVec.toNat (BitVec.ofInt 64 u ||| BitVec.ofInt 64 (IntKind.wrap .u64 (IntKind.wrap .u64 (↑(UInt8.toNat y1) : Int) * 2 ^ min (Int.toNat (IntKind.wrap .i64 (7 * i))) 64)))) : Int))))), (6, AV.c (vi (IntKind.wrap .i64 (i + 1)))), (7, AV.c (vi 0))]) []) :=
  lv_exit [.br true, .byte y1, .br true, .br true, .br true, .br false, .br false, .br false, .br true, .br true, .br false, .br true, .br false, .br false, .br true]
    (c := rq [(1, decide (i < m) = true), (1, 0 ≤ i), ty g3, (3, (i == 9) = true), (3, decide ((↑(UInt8.toNat y1) : Int) > 1) = false), (2, decide (i > 0) = true), (1, decide ((↑(UInt8.toNat y1) : Int) > 1) = false), (1, decide (i > 0) = true), (1, decide ((↑(UInt8.toNat y1) : Int) > 1) = false), (1, ((↑(UInt8.toNat y1) : Int) == 0) = false), (1, decide ((↑(UInt8.toNat y1) : Int) < 128) = true), ty g9]) (by kernel_rfl)
    (aq ⟨(dT g1), g2, g3, (beq_iff_eq.mpr g4), (dF g5), (dT g6), (dF g5), (dT g6), (dF g5), (beq_eq_false_iff_ne.mpr g7), (dT g8), g9, trivial⟩)
theorem vl_7 (b : List UInt8) (u i m : Int) (y1 : UInt8) (g1 : i < m) (g2 : 0 ≤ i) (g3 : b[Int.toNat i]? = some y1) (g4 : ¬i = 9) (g5 : i > 0) (g6 : (↑(UInt8.toNat y1) : Int) = 0) :
    lv (cv (ev X E0) xf123_l0) [true, false, false, false, false, true, true, true, false, false, false, true, true] 0 (St.mk (tmOf 57 [(0, AV.c (.pv (.str b))), (5, AV.c (.pv (.int .u64 u))), (6, AV.c (vi 0)), (7, AV.c (vi 2)), (11, AV.c (vi m)), (12, AV.c (vi i))]) []) = some (XExit.exit 0, St.mk (tmOf 57 [(5, AV.c (.pv (.int .u64 u))), (6, AV.c (vi 0)), (7, AV.c (vi 3))]) []) :=
  lv_exit [.br true, .byte y1, .br false, .br false, .br false, .br false, .br false, .br false, .br true, .br true, .br false, .br true, .br false, .br true]
    (c := rq [(1, decide (i < m) = true), (1, 0 ≤ i), ty g3, (3, (i == 9) = false), (3, false = false), (2, decide (i > 0) = true), (1, false = false), (1, decide (i > 0) = true), (1, false = false), (1, ((↑(UInt8.toNat y1) : Int) == 0) = true)]) (by kernel_rfl)
    (aq ⟨(dT g1), g2, g3, (beq_eq_false_iff_ne.mpr g4), rfl, (dT g5), rfl, (dT g5), rfl, (beq_iff_eq.mpr g6), trivial⟩)
theorem vl_8 (b : List UInt8) (u i m : Int) (y1 : UInt8) (g1 : i < m) (g2 : 0 ≤ i) (g3 : b[Int.toNat i]? = some y1) (g4 : ¬i = 9) (g5 : i > 0) (g6 : ¬(↑(UInt8.toNat y1) : Int) = 0) (g7 : (↑(UInt8.toNat y1) : Int) < 128) (g8 : 0 ≤ IntKind.wrap .i64 (7 * i)) :
    lv (cv (ev X E0) xf123_l0) [true, false, false, false, false, true, true, true, false, false, false, true, true] 0 (St.mk (tmOf 57 [(0, AV.c (.pv (.str b))), (5, AV.c (.pv (.int .u64 u))), (6, AV.c (vi 0)), (7, AV.c (vi 2)), (11, AV.c (vi m)), (12, AV.c (vi i))]) []) = some (XExit.exit 0, St.mk (tmOf 57 [(5, AV.c (.pv (.int .u64 (IntKind.wrap .u64 (↑(BitVec.toNat (BitVec.ofInt 64 u ||| BitVec.ofInt 64 (IntKind.wrap .u64 (IntKind.wrap .u64 (↑(UInt8.toNat y1) : Int) * 2 ^ min (Int.toNat (IntKind.wrap .i64 (7 * i))) 64)))) : Int))))), (6, AV.c (vi (IntKind.wrap .i64 (i + 1)))), (7, AV.c (vi 0))]) []) :=
  lv_exit [.br true, .byte y1, .br false, .br false, .br false, .br false, .br false, .br false, .br true, .br true, .br false, .br true, .br false, .br false, .br true]
    (c := rq [(1, decide (i < m) = true), (1, 0 ≤ i), ty g3, (3, (i == 9) = false), (3, false = false), (2, decide (i > 0) = true), (1, false = false), (1, decide (i > 0) = true), (1, false = false), (1, ((↑(UInt8.toNat y1) : Int) == 0) = false), (1, decide ((↑(UInt8.toNat y1) : Int) < 128) = true), ty g8]) (by kernel_rfl)
    (aq ⟨(dT g1), g2, g3, (beq_eq_false_iff_ne.mpr g4), rfl, (dT g5), rfl, (dT g5), rfl, (beq_eq_false_iff_ne.mpr g6), (dT g7), g8, trivial⟩)
theorem vl_9 (b : List UInt8) (u i m : Int) (y1 : UInt8) (g1 : i < m) (g2 : 0 ≤ i) (g3 : b[Int.toNat i]? = some y1) (g4 : ¬i = 9) (g5 : i > 0) (g6 : ¬(↑(UInt8.toNat y1) : Int) = 0) (g7 : ¬(↑(UInt8.toNat y1) : Int) < 128) (g8 : 0 ≤ IntKind.wrap .i64 (7 * i)) :
    lv (cv (ev X E0) xf123_l0) [true, false, false, false, false, true, true, true, false, false, false, true, true] 0 (St.mk (tmOf 57 [(0, AV.c (.pv (.str b))), (5, AV.c (.pv (.int .u64 u))), (6, AV.c (vi 0)), (7, AV.c (vi 2)), (11, AV.c (vi m)), (12, AV.c (vi i))]) []) = lv (cv (ev X E0) xf123_l0) [true, false, false, false, false, true, true, true, false, false, false, true, true] 0 (St.mk (tmOf 57 [(0, AV.c (.pv (.str b))), (5, AV.c (.pv (.int .u64 (IntKind.wrap .u64 (↑(BitVec.toNat (BitVec.ofInt 64 u ||| BitVec.ofInt 64 (IntKind.wrap .u64 (IntKind.wrap .u64 (IntKind.wrap .u8 (↑(BitVec.toNat (BitVec.ofInt 8 (↑(UInt8.toNat y1) : Int) &&& BitVec.ofInt 8 127)) : Int)) * 2 ^ min (Int.toNat (IntKind.wrap .i64 (7 * i))) 64)))) : Int))))), (6, AV.c (vi 0)), (7, AV.c (vi 2)), (11, AV.c (vi m)), (12, AV.c (vi (IntKind.wrap .i64 (i + 1))))]) []) :=
  lv_next [.br true, .byte y1, .br false, .br false, .br false, .br false, .br false, .br false, .br true, .br true, .br false, .br true, .br false, .br false, .br false]
    (c := rq [(1, decide (i < m) = true), (1, 0 ≤ i), ty g3, (3, (i == 9) = false), (3, false = false), (2, decide (i > 0) = true), (1, false = false), (1, decide (i > 0) = true), (1, false = false), (1, ((↑(UInt8.toNat y1) : Int) == 0) = false), (1, decide ((↑(UInt8.toNat y1) : Int) < 128) = false), ty g8]) (by kernel_rfl)
    (aq ⟨(dT g1), g2, g3, (beq_eq_false_iff_ne.mpr g4), rfl, (dT g5), rfl, (dT g5), rfl, (beq_eq_false_iff_ne.mpr g6), (dF g7), g8, trivial⟩)
theorem vl_10 (b : List UInt8) (u i m : Int) (y1 : UInt8) (g1 : i < m) (g2 : 0 ≤ i) (g3 : b[Int.toNat i]? = some y1) (g4 : ¬i = 9) (g5 : ¬i > 0) (g6 : (↑(UInt8.toNat y1) : Int) < 128) (g7 : 0 ≤ IntKind.wrap .i64 (7 * i)) :
    lv (cv (ev X E0) xf123_l0) [true, false, false, false, false, true, true, true, false, false, false, true, true] 0 (St.mk (tmOf 57 [(0, AV.c (.pv (.str b))), (5, AV.c (.pv (.int .u64 u))), (6, AV.c (vi 0)), (7, AV.c (vi 2)), (11, AV.c (vi m)), (12, AV.c (vi i))]) []) = some (XExit.exit 0, St.mk (tmOf 57 [(5, AV.c (.pv (.int .u64 (IntKind.wrap .u64 (↑(BitVec.toNat (BitVec.ofInt 64 u ||| BitVec.ofInt 64 (IntKind.wrap .u64 (IntKind.wrap .u64 (↑(UInt8.toNat y1) : Int) * 2 ^ min (Int.toNat (IntKind.wrap .i64 (7 * i))) 64)))) : Int))))), (6, AV.c (vi (IntKind.wrap .i64 (i + 1)))), (7, AV.c (vi 0))]) []) :=
  lv_exit [.br true, .byte y1, .br false, .br false, .br false, .br false, .br false, .br false, .br false, .br false, .br false, .br false, .br false, .br false, .br true]
    (c := rq [(1, decide (i < m) = true), (1, 0 ≤ i), ty g3, (3, (i == 9) = false), (3, false = false), (2, decide (i > 0) = false), (1, false = false), (1, decide (i > 0) = false), (2, false = false), (1, decide ((↑(UInt8.toNat y1) : Int) < 128) = true), ty g7]) (by kernel_rfl)
    (aq ⟨(dT g1), g2, g3, (beq_eq_false_iff_ne.mpr g4), rfl, (dF g5), rfl, (dF g5), rfl, (dT g6), g7, trivial⟩)
theorem vl_11 (b : List UInt8) (u i m : Int) (y1 : UInt8) (g1 : i < m) (g2 : 0 ≤ i) (g3 : b[Int.toNat i]? = some y1) (g4 : ¬i = 9) (g5 : ¬i > 0) (g6 : ¬(↑(UInt8.toNat y1) : Int) < 128) (g7 : 0 ≤ IntKind.wrap .i64 (7 * i)) :
    lv (cv (ev X E0) xf123_l0) [true, false, false, false, false, true, true, true, false, false, false, true, true] 0 (St.mk (tmOf 57 [(0, AV.c (.pv (.str b))), (5, AV.c (.pv (.int .u64 u))), (6, AV.c (vi 0)), (7, AV.c (vi 2)), (11, AV.c (vi m)), (12, AV.c (vi i))]) []) = lv (cv (ev X E0) xf123_l0) [true, false, false, false, false, true, true, true, false, false, false, true, true] 0 (St.mk (tmOf 57 [(0, AV.c (.pv (.str b))), (5, AV.c (.pv (.int .u64 (IntKind.wrap .u64 (↑(BitVec.toNat (BitVec.ofInt 64 u ||| BitVec.ofInt 64 (IntKind.wrap .u64 (IntKind.wrap .u64 (IntKind.wrap .u8 (↑(BitVec.toNat (BitVec.ofInt 8 (↑(UInt8.toNat y1) : Int) &&& BitVec.ofInt 8 127)) : Int)) * 2 ^ min (Int.toNat (IntKind.wrap .i64 (7 * i))) 64)))) : Int))))), (6, AV.c (vi 0)), (7, AV.c (vi 2)), (11, AV.c (vi m)), (12, AV.c (vi (IntKind.wrap .i64 (i + 1))))]) []) :=
  lv_next [.br true, .byte y1, .br false, .br false, .br false, .br false, .br false, .br false, .br false, .br false, .br false, .br false, .br false, .br false, .br false]
    (c := rq [(1, decide (i < m) = true), (1, 0 ≤ i), ty g3, (3, (i == 9) = false), (3, false = false), (2, decide (i > 0) = false), (1, false = false), (1, decide (i > 0) = false), (2, false = false), (1, decide ((↑(UInt8.toNat y1) : Int) < 128) = false), ty g7]) (by kernel_rfl)
    (aq ⟨(dT g1), g2, g3, (beq_eq_false_iff_ne.mpr g4), rfl, (dF g5), rfl, (dF g5), rfl, (dF g6), g7, trivial⟩)
theorem vl_12 (b : List UInt8) (u i m : Int) (g1 : ¬i < m) :
    lv (cv (ev X E0) xf123_l0) [true, false, false, false, false, true, true, true, false, false, false, true, true] 0 (St.mk (tmOf 57 [(0, AV.c (.pv (.str b))), (5, AV.c (.pv (.int .u64 u))), (6, AV.c (vi 0)), (7, AV.c (vi 2)), (11, AV.c (vi m)), (12, AV.c (vi i))]) []) = some (XExit.exit 0, St.mk (tmOf 57 [(5, AV.c (.pv (.int .u64 u))), (6, AV.c (vi 0)), (7, AV.c (vi 2))]) []) :=
  lv_exit [.br false]
    (c := [decide (i < m) = false]) (by kernel_rfl)
    ⟨(dF g1), trivial⟩
abbrev S44 (b : List UInt8) (u i m : Int) : St := St.mk (tmOf 57 [(0, AV.c (CV.pv (PV.str b))), (5, AV.c (CV.pv (PV.int .u64 u))), (6, AV.c (CV.pv (PV.int .i64 0))), (7, AV.c (CV.pv (PV.int .i64 2))), (11, AV.c (CV.pv (PV.int .i64 m))), (12, AV.c (CV.pv (PV.int .i64 i)))]) []
abbrev T44 (q : Nat × Nat × Int) : St := St.mk (tmOf 57 [(5, AV.c (CV.pv (PV.int .u64 (q.1 : Int)))), (6, AV.c (CV.pv (PV.int .i64 (q.2.1 : Int)))), (7, AV.c (CV.pv (PV.int .i64 q.2.2)))]) []
theorem pow_step {i u c : Nat} (hu : u < 128 ^ i) : u + c % 128 * 128 ^ i < 128 ^ (i + 1) := by
  have h1 : c % 128 ≤ 127 := by omega
  have h2 : c % 128 * 128 ^ i ≤ 127 * 128 ^ i := Nat.mul_le_mul_right _ h1
  rw [Nat.pow_succ]; omega
theorem pow9 {i : Nat} (hi : i ≤ 9) : 128 ^ i ≤ 9223372036854775808 := by
  have := Nat.pow_le_pow_right (n := 128) (by omega) hi
  omega
theorem pow8 {i : Nat} (hi : i ≤ 8) : 128 ^ i ≤ 72057594037927936 := by
  have := Nat.pow_le_pow_right (n := 128) (by omega) hi
  omega
theorem sum_lt {i u c : Nat} (hi : i ≤ 9) (hu : u < 128 ^ i) (hc : c < 256) (h : i = 9 → c ≤ 1) : u + c * 128 ^ i < 18446744073709551616 := by
  by_cases h9 : i = 9
  · subst h9
    have := h rfl
    have : c * 128 ^ 9 ≤ 1 * 128 ^ 9 := Nat.mul_le_mul_right _ this
    omega
  · have := pow8 (i := i) (by omega)
    have : c * 128 ^ i ≤ 255 * 128 ^ i := Nat.mul_le_mul_right _ (by omega)
    omega
theorem vl_all (b : List UInt8) (hb : b.length ≤ 1000000) : ∀ (r pre : List UInt8) (u : Nat), b = pre ++ r → pre.length ≤ 9 → u < 128 ^ pre.length →
    lv (cv (ev X E0) xf123_l0) [true, false, false, false, false, true, true, true, false, false, false, true, true] 0 (S44 b u pre.length b.length) = some (.exit 0, T44 (vr r pre.length u))
  | [], pre, u, h, hi, hu => by
    rw [List.append_nil] at h
    subst h
    exact vl_12 b u b.length b.length (by omega)
  | c :: r, pre, u, h, hi, hu => by
    have hc := c.toNat_lt
    have hlen : b.length = pre.length + r.length + 1 := by rw [h]; simp; omega
    have hat : b[Int.toNat (pre.length : Int)]? = some c := by rw [h]; exact at_pre pre c r
    simp only [vr]
    by_cases h9 : pre.length = 9
    · by_cases h1 : 1 < c.toNat
      · rw [if_pos (Or.inl ⟨h9, h1⟩)]
        exact vl_1 b u pre.length b.length c (by omega) (by omega) hat (by omega) (by omega)
      · by_cases h0 : c.toNat = 0
        · rw [if_pos (Or.inr ⟨by omega, h0⟩)]
          exact vl_2 b u pre.length b.length c (by omega) (by omega) hat (by omega) (by omega) (by omega) (by omega)
        · rw [if_neg (by omega), if_pos (by omega)]
          have := vl_3 b u pre.length b.length c (by omega) (by omega) hat (by omega) (by omega) (by omega) (by omega) (by omega) (by rw [wi64 (by omega) (by omega)]; omega)
          rw [orShift hi hu (sum_lt hi hu hc (by omega)) hc, wi64 (by omega) (by omega)] at this
          exact this
    · by_cases h0 : 0 < pre.length ∧ c.toNat = 0
      · rw [if_pos (Or.inr h0)]
        exact vl_7 b u pre.length b.length c (by omega) (by omega) hat (by omega) (by omega) (by omega)
      · rw [if_neg (by omega)]
        by_cases h128 : c.toNat < 128
        · rw [if_pos h128]
          by_cases hp : 0 < pre.length
          · have := vl_8 b u pre.length b.length c (by omega) (by omega) hat (by omega) (by omega) (by omega) (by omega) (by rw [wi64 (by omega) (by omega)]; omega)
            rw [orShift hi hu (sum_lt hi hu hc (by omega)) hc, wi64 (by omega) (by omega)] at this
            exact this
          · have := vl_10 b u pre.length b.length c (by omega) (by omega) hat (by omega) (by omega) (by omega) (by rw [wi64 (by omega) (by omega)]; omega)
            rw [orShift hi hu (sum_lt hi hu hc (by omega)) hc, wi64 (by omega) (by omega)] at this
            exact this
        · rw [if_neg h128]
          have step : lv (cv (ev X E0) xf123_l0) [true, false, false, false, false, true, true, true, false, false, false, true, true] 0 (S44 b u pre.length b.length) =
              lv (cv (ev X E0) xf123_l0) [true, false, false, false, false, true, true, true, false, false, false, true, true] 0 (S44 b ((u + c.toNat % 128 * 128 ^ pre.length : Nat) : Int) ((pre.length : Int) + 1) b.length) := by
            have hs : u + c.toNat % 128 * 128 ^ pre.length < 18446744073709551616 := sum_lt hi hu (by omega) (by omega)
            by_cases hp : 0 < pre.length
            · have := vl_9 b u pre.length b.length c (by omega) (by omega) hat (by omega) (by omega) (by omega) (by omega) (by rw [wi64 (by omega) (by omega)]; omega)
              rw [and127, orShift hi hu hs (by omega), wi64 (by omega) (by omega)] at this
              exact this
            · have := vl_11 b u pre.length b.length c (by omega) (by omega) hat (by omega) (by omega) (by omega) (by rw [wi64 (by omega) (by omega)]; omega)
              rw [and127, orShift hi hu hs (by omega), wi64 (by omega) (by omega)] at this
              exact this
          rw [step]
          have := vl_all b hb r (pre ++ [c]) (u + c.toNat % 128 * 128 ^ pre.length) (by rw [h]; simp) (by simp; omega) (by rw [List.length_append]; exact pow_step hu)
          rw [List.length_append, List.length_singleton] at this
          exact this
theorem vl0 (b : List UInt8) (hb : b.length ≤ 1000000) :
    lv (cv (ev X E0) xf123_l0) [true, false, false, false, false, true, true, true, false, false, false, true, true] 0 (S44 b 0 0 b.length) = some (.exit 0, T44 (vr b 0 0)) := vl_all b hb b [] 0 rfl (by simp) (by simp)
theorem vi_1 (b : List UInt8) (g1 : List.length b ≤ 1000000) :
    cc (ev X E0) 123 [AV.c (.pv (.str b))] [] = some (AV.tup [AV.c (.pv (.int .u64 (↑(Prod.fst (vr b 0 0)) : Int))), AV.c (vi (↑(Prod.fst (Prod.snd (vr b 0 0))) : Int)), AV.c (vi (Prod.snd (Prod.snd (vr b 0 0))))], []) :=
  cc_path (x := xf123) rfl [.loop (XExit.exit 0) (St.mk (tmOf 57 [(5, AV.c (.pv (.int .u64 (↑(Prod.fst (vr b 0 0)) : Int)))), (6, AV.c (vi (↑(Prod.fst (Prod.snd (vr b 0 0))) : Int))), (7, AV.c (vi (Prod.snd (Prod.snd (vr b 0 0)))))]) [])]
    (c := [lv (cv (ev X E0) xf123_l0) (rl [0, 4, 0, 0, 3, 0]) 0 (St.mk (tmOf 57 [(0, AV.c (.pv (.str b))), (5, AV.c (.pv (.int .u64 0))), (6, AV.c (vi 0)), (7, AV.c (vi 2)), (11, AV.c (vi (↑(List.length b) : Int))), (12, AV.c (vi 0))]) []) = some (XExit.exit 0, St.mk (tmOf 57 [(5, AV.c (.pv (.int .u64 (↑(Prod.fst (vr b 0 0)) : Int)))), (6, AV.c (vi (↑(Prod.fst (Prod.snd (vr b 0 0))) : Int))), (7, AV.c (vi (Prod.snd (Prod.snd (vr b 0 0)))))]) [])]) (by kernel_rfl)
    ⟨(vl0 _ g1), trivial⟩
end Go.Sx.Tryd
