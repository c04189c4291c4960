/- Dates: what they come to. -/
import Derived.Test.YtggopflifieoiaaDoorU2
import Derived.Test.YtggopflifieoiaaDoorC4
namespace Go.Sx.Tryd
open Go Go.Sx
def fE (n : Nat) : Nat := n - n / 1460 + n / 36524 - n / 146096
def gE (y : Nat) : Nat := 365 * y + y / 4 - y / 100
theorem f_step {n : Nat} (h : n < 146096) : fE n ≤ fE (n + 1) := by unfold fE; omega
theorem f_mono : ∀ {k n : Nat}, n + k ≤ 146096 → fE n ≤ fE (n + k)
  | 0, n, _ => Nat.le_refl _
  | k + 1, n, h => Nat.le_trans (f_mono (k := k) (by omega)) (f_step (by omega))
theorem g_all : ((List.range 400).all fun k => decide (fE (gE (k + 1) - 1) < 365 * (k + 1) ∧ gE (k + 1) ≤ 146096)) = true := by decide +kernel
theorem fE_le (n : Nat) : fE n ≤ n := by unfold fE; omega
theorem year_le {n : Nat} (h : n ≤ 146096) : gE (fE n / 365) ≤ n := by
  have hf := fE_le n
  cases hy : fE n / 365 with
  | zero => exact Nat.zero_le _
  | succ k =>
    have hk : k < 400 := by omega
    have := List.all_eq_true.1 g_all k (List.mem_range.2 hk)
    simp only [decide_eq_true_eq] at this
    by_cases c : gE (k + 1) ≤ n
    · exact c
    · have hm := f_mono (n := n) (k := gE (k + 1) - 1 - n) (by omega)
      rw [show n + (gE (k + 1) - 1 - n) = gE (k + 1) - 1 by omega] at hm
      omega
theorem n1_nonneg {x : Int} (h1 : -50000 ≤ x) (h2 : x ≤ 50000) : 0 ≤ uN1 x := by
  have w0 : IntKind.wrap .i64 x = x := wi64 (by omega) (by omega)
  have w1 : IntKind.wrap .i64 (x + 730425) = x + 730425 := wi64 (by omega) (by omega)
  obtain ⟨n, hn, hn9⟩ : ∃ n : Nat, Int.tmod (x + 730425) 146097 = n ∧ n ≤ 146096 := by
    have a := Int.tmod_nonneg 146097 (show 0 ≤ x + 730425 by omega)
    have b := Int.tmod_lt_of_pos (x + 730425) (show (0 : Int) < 146097 by decide)
    exact ⟨(Int.tmod (x + 730425) 146097).toNat, by omega, by omega⟩
  have t1 : Int.tdiv (n : Int) 1460 = ((n / 1460 : Nat) : Int) := rfl
  have t2 : Int.tdiv (n : Int) 36524 = ((n / 36524 : Nat) : Int) := rfl
  have t3 : Int.tdiv (n : Int) 146096 = ((n / 146096 : Nat) : Int) := rfl
  unfold uN1
  rw [w0, w1, hn, t1, t2, t3]
  rw [wi64 (n := ((n / 1460 : Nat) : Int)) (by omega) (by omega), wi64 (n := ((n / 36524 : Nat) : Int)) (by omega) (by omega), wi64 (n := ((n / 146096 : Nat) : Int)) (by omega) (by omega)]
  rw [wi64 (n := (n : Int) - ((n / 1460 : Nat) : Int)) (by omega) (by omega), wi64 (n := (n : Int) - ((n / 1460 : Nat) : Int) + ((n / 36524 : Nat) : Int)) (by omega) (by omega), wi64 (n := (n : Int) - ((n / 1460 : Nat) : Int) + ((n / 36524 : Nat) : Int) - ((n / 146096 : Nat) : Int)) (by omega) (by omega)]
  have e1 : (n : Int) - ((n / 1460 : Nat) : Int) + ((n / 36524 : Nat) : Int) - ((n / 146096 : Nat) : Int) = ((fE n : Nat) : Int) := by unfold fE; omega
  rw [e1]
  have t4 : Int.tdiv ((fE n : Nat) : Int) 365 = ((fE n / 365 : Nat) : Int) := rfl
  have hf := fE_le n
  rw [t4, wi64 (n := ((fE n / 365 : Nat) : Int)) (by omega) (by omega)]
  have hy := year_le hn9
  unfold gE at hy
  generalize fE n / 365 = y at hy
  have t5 : Int.tdiv (y : Int) 4 = ((y / 4 : Nat) : Int) := rfl
  have t6 : Int.tdiv (y : Int) 100 = ((y / 100 : Nat) : Int) := rfl
  rw [t5, t6]
  have hyb : y ≤ 1000 := by omega
  rw [wi64 (n := (y : Int) * 365) (by omega) (by omega), wi64 (n := ((y / 4 : Nat) : Int)) (by omega) (by omega), wi64 (n := ((y / 100 : Nat) : Int)) (by omega) (by omega)]
  rw [wi64 (n := (y : Int) * 365 + ((y / 4 : Nat) : Int)) (by omega) (by omega), wi64 (n := (y : Int) * 365 + ((y / 4 : Nat) : Int) - ((y / 100 : Nat) : Int)) (by omega) (by omega), wi64 (by omega) (by omega)]
  omega
theorem us58l {n c y : Int} (hn : 0 ≤ n) : ∃ m : Nat, m ≤ 11 ∧ lv (cv (ev X E0) xf58_l0) (rl [6, 0, 0, 0]) 0 (US58 n c y 11) = some (XExit.exit 0, US58 n c y (m : Int)) := by
  by_cases c11 : 337 > n
  rotate_left
  · exact ⟨11, by omega, ul58m11_2 n c y c11⟩
  by_cases c10 : 306 > n
  rotate_left
  · exact ⟨10, by omega, (ul58m11_1 n c y c11).trans (ul58m10_2 n c y c10)⟩
  by_cases c9 : 275 > n
  rotate_left
  · exact ⟨9, by omega, (ul58m11_1 n c y c11).trans ((ul58m10_1 n c y c10).trans (ul58m9_2 n c y c9))⟩
  by_cases c8 : 245 > n
  rotate_left
  · exact ⟨8, by omega, (ul58m11_1 n c y c11).trans ((ul58m10_1 n c y c10).trans ((ul58m9_1 n c y c9).trans (ul58m8_2 n c y c8)))⟩
  by_cases c7 : 214 > n
  rotate_left
  · exact ⟨7, by omega, (ul58m11_1 n c y c11).trans ((ul58m10_1 n c y c10).trans ((ul58m9_1 n c y c9).trans ((ul58m8_1 n c y c8).trans (ul58m7_2 n c y c7))))⟩
  by_cases c6 : 184 > n
  rotate_left
  · exact ⟨6, by omega, (ul58m11_1 n c y c11).trans ((ul58m10_1 n c y c10).trans ((ul58m9_1 n c y c9).trans ((ul58m8_1 n c y c8).trans ((ul58m7_1 n c y c7).trans (ul58m6_2 n c y c6)))))⟩
  by_cases c5 : 153 > n
  rotate_left
  · exact ⟨5, by omega, (ul58m11_1 n c y c11).trans ((ul58m10_1 n c y c10).trans ((ul58m9_1 n c y c9).trans ((ul58m8_1 n c y c8).trans ((ul58m7_1 n c y c7).trans ((ul58m6_1 n c y c6).trans (ul58m5_2 n c y c5))))))⟩
  by_cases c4 : 122 > n
  rotate_left
  · exact ⟨4, by omega, (ul58m11_1 n c y c11).trans ((ul58m10_1 n c y c10).trans ((ul58m9_1 n c y c9).trans ((ul58m8_1 n c y c8).trans ((ul58m7_1 n c y c7).trans ((ul58m6_1 n c y c6).trans ((ul58m5_1 n c y c5).trans (ul58m4_2 n c y c4)))))))⟩
  by_cases c3 : 92 > n
  rotate_left
  · exact ⟨3, by omega, (ul58m11_1 n c y c11).trans ((ul58m10_1 n c y c10).trans ((ul58m9_1 n c y c9).trans ((ul58m8_1 n c y c8).trans ((ul58m7_1 n c y c7).trans ((ul58m6_1 n c y c6).trans ((ul58m5_1 n c y c5).trans ((ul58m4_1 n c y c4).trans (ul58m3_2 n c y c3))))))))⟩
  by_cases c2 : 61 > n
  rotate_left
  · exact ⟨2, by omega, (ul58m11_1 n c y c11).trans ((ul58m10_1 n c y c10).trans ((ul58m9_1 n c y c9).trans ((ul58m8_1 n c y c8).trans ((ul58m7_1 n c y c7).trans ((ul58m6_1 n c y c6).trans ((ul58m5_1 n c y c5).trans ((ul58m4_1 n c y c4).trans ((ul58m3_1 n c y c3).trans (ul58m2_2 n c y c2)))))))))⟩
  by_cases c1 : 31 > n
  rotate_left
  · exact ⟨1, by omega, (ul58m11_1 n c y c11).trans ((ul58m10_1 n c y c10).trans ((ul58m9_1 n c y c9).trans ((ul58m8_1 n c y c8).trans ((ul58m7_1 n c y c7).trans ((ul58m6_1 n c y c6).trans ((ul58m5_1 n c y c5).trans ((ul58m4_1 n c y c4).trans ((ul58m3_1 n c y c3).trans ((ul58m2_1 n c y c2).trans (ul58m1_2 n c y c1))))))))))⟩
  exact ⟨0, by omega, (ul58m11_1 n c y c11).trans ((ul58m10_1 n c y c10).trans ((ul58m9_1 n c y c9).trans ((ul58m8_1 n c y c8).trans ((ul58m7_1 n c y c7).trans ((ul58m6_1 n c y c6).trans ((ul58m5_1 n c y c5).trans ((ul58m4_1 n c y c4).trans ((ul58m3_1 n c y c3).trans ((ul58m2_1 n c y c2).trans ((ul58m1_1 n c y c1).trans (ul58m0_2 n c y (by omega))))))))))))⟩
theorem us58 (x : Int) : ∃ y m d e, cc (ev X E0) 58 [AV.int .i32 x] [] = some (.tup [.i y, .i m, .i d, .i e], []) := by
  cases hx : datOk x with
  | false => exact ⟨_, _, _, _, ug58e_1 x hx⟩
  | true =>
    have hd := dat_iff.1 hx
    obtain ⟨m, hm, h⟩ := us58l (c := uCY x) (y := uYY x) (n1_nonneg hd.1 hd.2)
    match m, hm, h with
    | 0, _, h => exact ⟨_, _, _, _, ug58m0_1 x hx h⟩
    | 1, _, h => exact ⟨_, _, _, _, ug58m1_1 x hx h⟩
    | 2, _, h => exact ⟨_, _, _, _, ug58m2_1 x hx h⟩
    | 3, _, h => exact ⟨_, _, _, _, ug58m3_1 x hx h⟩
    | 4, _, h => exact ⟨_, _, _, _, ug58m4_1 x hx h⟩
    | 5, _, h => exact ⟨_, _, _, _, ug58m5_1 x hx h⟩
    | 6, _, h => exact ⟨_, _, _, _, ug58m6_1 x hx h⟩
    | 7, _, h => exact ⟨_, _, _, _, ug58m7_1 x hx h⟩
    | 8, _, h => exact ⟨_, _, _, _, ug58m8_1 x hx h⟩
    | 9, _, h => exact ⟨_, _, _, _, ug58m9_1 x hx h⟩
    | 10, _, h => exact ⟨_, _, _, _, ug58m10_1 x hx h⟩
    | 11, _, h => exact ⟨_, _, _, _, ug58m11_1 x hx h⟩
    | _ + 12, hm, _ => omega
theorem us60 (y m : Int) : ∃ l, cc (ev X E0) 60 [AV.i y, AV.i m] [] = some (.i l, []) := by
  obtain ⟨b, hb⟩ : ∃ b, cc (ev X E0) 104 [AV.i y] [] = some (.b b, []) := by
    by_cases c1 : Int.tmod y 4 = 0
    · by_cases c2 : Int.tmod y 100 = 0
      · exact ⟨_, ug104_2 y c1 c2⟩
      · exact ⟨_, ug104_1 y c1 c2⟩
    · exact ⟨_, ug104_3 y c1⟩
  by_cases c1 : m = 2
  · cases b with
    | true => exact ⟨_, ug60_1 y m _ hb c1 rfl⟩
    | false => exact ⟨_, ug60_2 y m _ hb c1 rfl⟩
  · by_cases c2 : m = 4
    · exact ⟨_, ug60_3 y m _ hb c1 c2⟩
    · by_cases c3 : m = 6
      · exact ⟨_, ug60_4 y m _ hb c1 c2 c3⟩
      · by_cases c4 : m = 9
        · exact ⟨_, ug60_5 y m _ hb c1 c2 c3 c4⟩
        · by_cases c5 : m = 11
          · exact ⟨_, ug60_6 y m _ hb c1 c2 c3 c4 c5⟩
          · exact ⟨_, ug60_7 y m _ hb c1 c2 c3 c4 c5⟩
theorem us103 (y m d : Int) (h1 : 1 ≤ m) (h2 : m ≤ 12) : ∃ n, cc (ev X E0) 103 [AV.i y, AV.i m, AV.i d] [] = some (.i n, []) := by
  have hm : m = 1 ∨ m = 2 ∨ m = 3 ∨ m = 4 ∨ m = 5 ∨ m = 6 ∨ m = 7 ∨ m = 8 ∨ m = 9 ∨ m = 10 ∨ m = 11 ∨ m = 12 := by omega
  rcases hm with rfl | rfl | rfl | rfl | rfl | rfl | rfl | rfl | rfl | rfl | rfl | rfl
  · exact ⟨_, ug103m1_1 y d⟩
  · exact ⟨_, ug103m2_1 y d⟩
  · exact ⟨_, ug103m3_1 y d⟩
  · exact ⟨_, ug103m4_1 y d⟩
  · exact ⟨_, ug103m5_1 y d⟩
  · exact ⟨_, ug103m6_1 y d⟩
  · exact ⟨_, ug103m7_1 y d⟩
  · exact ⟨_, ug103m8_1 y d⟩
  · exact ⟨_, ug103m9_1 y d⟩
  · exact ⟨_, ug103m10_1 y d⟩
  · exact ⟨_, ug103m11_1 y d⟩
  · exact ⟨_, ug103m12_1 y d⟩
theorem us59 (y m d : Int) : ∃ x e, cc (ev X E0) 59 [AV.i y, AV.i m, AV.i d] [] = some (.tup [.int .i32 x, .i e], []) ∧ (e = 0 → datOk x = true) := by
  obtain ⟨l, h60⟩ := us60 y m
  obtain ⟨n, h103⟩ : ∃ n, 1 ≤ m → m ≤ 12 → cc (ev X E0) 103 [AV.i y, AV.i m, AV.i d] [] = some (.i n, []) := by
    by_cases c : 1 ≤ m ∧ m ≤ 12
    · obtain ⟨n, h⟩ := us103 y m d c.1 c.2
      exact ⟨n, fun _ _ => h⟩
    · exact ⟨0, fun a b => absurd ⟨a, b⟩ c⟩
  have ne : (11 : Int) ≠ 0 := by decide
  by_cases c1 : y < 1
  · exact ⟨_, _, ug59_1 y m d n l h60 h103 c1, fun h => absurd h ne⟩
  · by_cases c2 : y ≥ 10000
    · exact ⟨_, _, ug59_2 y m d n l h60 h103 c1 c2, fun h => absurd h ne⟩
    · by_cases c3 : m < 1
      · exact ⟨_, _, ug59_3 y m d n l h60 h103 c1 c2 c3, fun h => absurd h ne⟩
      · by_cases c4 : m > 12
        · exact ⟨_, _, ug59_4 y m d n l h60 h103 c1 c2 c3 c4, fun h => absurd h ne⟩
        · by_cases c5 : d < 1
          · exact ⟨_, _, ug59_5 y m d n l h60 h103 c1 c2 c3 c4 c5, fun h => absurd h ne⟩
          · by_cases c6 : d > l
            · exact ⟨_, _, ug59_6 y m d n l h60 h103 c1 c2 c3 c4 c5 c6, fun h => absurd h ne⟩
            · by_cases c7 : IntKind.wrap .i64 (n - 730425) < -50000
              · exact ⟨_, _, ug59_7 y m d n l h60 h103 c1 c2 c3 c4 c5 c6 (by omega) (by omega) c7, fun h => absurd h ne⟩
              · by_cases c8 : IntKind.wrap .i64 (n - 730425) > 50000
                · exact ⟨_, _, ug59_8 y m d n l h60 h103 c1 c2 c3 c4 c5 c6 (by omega) (by omega) c7 c8, fun h => absurd h ne⟩
                · refine ⟨_, _, ug59_9 y m d n l h60 h103 c1 c2 c3 c4 c5 c6 (by omega) (by omega) c7 c8, fun _ => ?_⟩
                  rw [w32h (by omega) (by omega)]
                  exact dat_iff.2 ⟨by omega, by omega⟩
end Go.Sx.Tryd
