/- What is wrong with a posting. -/
import Derived.Test.YtggopflifieoiaaDoorK1
namespace Go.Sx.Tryd
open Go Go.Sx
def accBad (x : Leg) : Bool := decide (x.acc < 1 ∨ 999 < x.acc)
def curBad (x : Leg) : Bool := !curOk x.cur
def minOk (m : Int) : Bool := decide (-1000000000000000 ≤ m ∧ m ≤ 1000000000000000)
def overBad (x : Leg) : Bool := !(curOk x.cur && minOk x.minor)
def zeroBad (x : Leg) : Bool := x.minor == 0
theorem s78 (x : Leg) : cc (ev X E0) 86 [Leg.av x] [] = some (.b (accBad x), []) := by
  by_cases h : x.acc < 1
  · rw [f78_1 x h, accBad, decide_eq_true (by omega)]
  · rw [f78_2 x h, accBad]; congr 5; rw [Bool.eq_iff_iff, decide_eq_true_eq, decide_eq_true_eq]; omega
theorem s82 (c m : Int) : cc (ev X E0) 30 [AV.agg [.pv (.int .i64 c), .pv (.int .i64 m)]] [] = some (.b (curOk c && minOk m), []) := by
  cases hc : curOk c with
  | false => rw [f82_3 c m hc, Bool.false_and]
  | true =>
    by_cases h : m ≥ -1000000000000000
    · rw [f82_1 c m hc h, minOk, Bool.true_and]; congr 5; rw [Bool.eq_iff_iff, decide_eq_true_eq, decide_eq_true_eq]; omega
    · rw [f82_2 c m hc h, minOk, decide_eq_false (by omega), Bool.true_and]
theorem s79 (x : Leg) : cc (ev X E0) 87 [Leg.av x] [] = some (.b (curBad x), []) := by
  obtain ⟨a, c, m⟩ := x
  have hk := s130 c
  cases hc : curOk c with
  | false =>
    rw [hc] at hk
    rw [f79_1 ⟨a, c, m⟩ [] (f80_1 c hk), curBad, hc]; rfl
  | true =>
    rw [hc] at hk
    have : c = 0 ∨ c = 1 ∨ c = 2 ∨ c = 3 := by simp only [curOk, decide_eq_true_eq] at hc; omega
    rcases this with rfl | rfl | rfl | rfl
    · rw [f79_1 ⟨a, 0, m⟩ _ (f800_1 hk), curBad]; rfl
    · rw [f79_1 ⟨a, 1, m⟩ _ (f801_1 hk), curBad]; rfl
    · rw [f79_1 ⟨a, 2, m⟩ _ (f802_1 hk), curBad]; rfl
    · rw [f79_1 ⟨a, 3, m⟩ _ (f803_1 hk), curBad]; rfl
theorem s81 (x : Leg) : cc (ev X E0) 89 [Leg.av x] [] = some (.b (overBad x), []) := by
  rw [f81_1 x _ (s82 x.cur x.minor), overBad]
theorem s83 (x : Leg) : cc (ev X E0) 90 [Leg.av x] [] = some (.b (zeroBad x), []) := f83_1 x
theorem l840_1 (l : List Leg) (o : SO) (i : Nat) (a m s0 s1 s2 s3 : Int) (hy : l[i]? = some (Leg.mk a 0 m)) (g1 : (↑i : Int) < (↑(List.length (List.map Leg.pv l)) : Int)) :
    lv (cv (ev X E0) xf91_l0) [false, false, false, true, false, false, true, true, true] 1 (St.mk (tmOf 26 [(3, AV.c (.ptr 0 0)), (6, AV.c (.pv (.sl o 3 (List.map Leg.pv l)))), (7, AV.c (vi (↑(List.length (List.map Leg.pv l)) : Int))), (8, AV.c (vi (↑i : Int)))]) [.cells [vi s0, vi s1, vi s2, vi s3]]) = lv (cv (ev X E0) xf91_l0) [false, false, false, true, false, false, true, true, true] 1 (St.mk (tmOf 26 [(3, AV.c (.ptr 0 0)), (6, AV.c (.pv (.sl o 3 (List.map Leg.pv l)))), (7, AV.c (vi (↑(List.length (List.map Leg.pv l)) : Int))), (8, AV.c (vi (IntKind.wrap .i64 ((↑i : Int) + 1))))]) [.cells [vi (IntKind.wrap .i64 (s0 + m)), vi s1, vi s2, vi s3]]) :=
  lv_next [.br true, .el (.agg [PV.int .i64 a, .int .i64 0, .int .i64 m])]
    (c := [decide ((↑i : Int) < (↑(List.length (List.map Leg.pv l)) : Int)) = true, 0 ≤ (↑i : Int), (List.map Leg.pv l)[i]? = some (PV.agg [PV.int .i64 a, .int .i64 0, .int .i64 m]), (0 : Int) ≤ (0 : Int), (0 : Int) < (4 : Int), (0 : Int) ≤ (0 : Int), (0 : Int) < (4 : Int)]) (by kernel_rfl)
    ⟨(dT g1), (Int.natCast_nonneg _), (map_at hy), (Int.le_refl _), (by decide), (Int.le_refl _), (by decide), trivial⟩
theorem l841_1 (l : List Leg) (o : SO) (i : Nat) (a m s0 s1 s2 s3 : Int) (hy : l[i]? = some (Leg.mk a 1 m)) (g1 : (↑i : Int) < (↑(List.length (List.map Leg.pv l)) : Int)) :
    lv (cv (ev X E0) xf91_l0) [false, false, false, true, false, false, true, true, true] 1 (St.mk (tmOf 26 [(3, AV.c (.ptr 0 0)), (6, AV.c (.pv (.sl o 3 (List.map Leg.pv l)))), (7, AV.c (vi (↑(List.length (List.map Leg.pv l)) : Int))), (8, AV.c (vi (↑i : Int)))]) [.cells [vi s0, vi s1, vi s2, vi s3]]) = lv (cv (ev X E0) xf91_l0) [false, false, false, true, false, false, true, true, true] 1 (St.mk (tmOf 26 [(3, AV.c (.ptr 0 0)), (6, AV.c (.pv (.sl o 3 (List.map Leg.pv l)))), (7, AV.c (vi (↑(List.length (List.map Leg.pv l)) : Int))), (8, AV.c (vi (IntKind.wrap .i64 ((↑i : Int) + 1))))]) [.cells [vi s0, vi (IntKind.wrap .i64 (s1 + m)), vi s2, vi s3]]) :=
  lv_next [.br true, .el (.agg [PV.int .i64 a, .int .i64 1, .int .i64 m])]
    (c := [decide ((↑i : Int) < (↑(List.length (List.map Leg.pv l)) : Int)) = true, 0 ≤ (↑i : Int), (List.map Leg.pv l)[i]? = some (PV.agg [PV.int .i64 a, .int .i64 1, .int .i64 m]), (0 : Int) ≤ (1 : Int), (1 : Int) < (4 : Int), (0 : Int) ≤ (1 : Int), (1 : Int) < (4 : Int)]) (by kernel_rfl)
    ⟨(dT g1), (Int.natCast_nonneg _), (map_at hy), (by decide), (by decide), (by decide), (by decide), trivial⟩
theorem l842_1 (l : List Leg) (o : SO) (i : Nat) (a m s0 s1 s2 s3 : Int) (hy : l[i]? = some (Leg.mk a 2 m)) (g1 : (↑i : Int) < (↑(List.length (List.map Leg.pv l)) : Int)) :
    lv (cv (ev X E0) xf91_l0) [false, false, false, true, false, false, true, true, true] 1 (St.mk (tmOf 26 [(3, AV.c (.ptr 0 0)), (6, AV.c (.pv (.sl o 3 (List.map Leg.pv l)))), (7, AV.c (vi (↑(List.length (List.map Leg.pv l)) : Int))), (8, AV.c (vi (↑i : Int)))]) [.cells [vi s0, vi s1, vi s2, vi s3]]) = lv (cv (ev X E0) xf91_l0) [false, false, false, true, false, false, true, true, true] 1 (St.mk (tmOf 26 [(3, AV.c (.ptr 0 0)), (6, AV.c (.pv (.sl o 3 (List.map Leg.pv l)))), (7, AV.c (vi (↑(List.length (List.map Leg.pv l)) : Int))), (8, AV.c (vi (IntKind.wrap .i64 ((↑i : Int) + 1))))]) [.cells [vi s0, vi s1, vi (IntKind.wrap .i64 (s2 + m)), vi s3]]) :=
  lv_next [.br true, .el (.agg [PV.int .i64 a, .int .i64 2, .int .i64 m])]
    (c := [decide ((↑i : Int) < (↑(List.length (List.map Leg.pv l)) : Int)) = true, 0 ≤ (↑i : Int), (List.map Leg.pv l)[i]? = some (PV.agg [PV.int .i64 a, .int .i64 2, .int .i64 m]), (0 : Int) ≤ (2 : Int), (2 : Int) < (4 : Int), (0 : Int) ≤ (2 : Int), (2 : Int) < (4 : Int)]) (by kernel_rfl)
    ⟨(dT g1), (Int.natCast_nonneg _), (map_at hy), (by decide), (by decide), (by decide), (by decide), trivial⟩
theorem l843_1 (l : List Leg) (o : SO) (i : Nat) (a m s0 s1 s2 s3 : Int) (hy : l[i]? = some (Leg.mk a 3 m)) (g1 : (↑i : Int) < (↑(List.length (List.map Leg.pv l)) : Int)) :
    lv (cv (ev X E0) xf91_l0) [false, false, false, true, false, false, true, true, true] 1 (St.mk (tmOf 26 [(3, AV.c (.ptr 0 0)), (6, AV.c (.pv (.sl o 3 (List.map Leg.pv l)))), (7, AV.c (vi (↑(List.length (List.map Leg.pv l)) : Int))), (8, AV.c (vi (↑i : Int)))]) [.cells [vi s0, vi s1, vi s2, vi s3]]) = lv (cv (ev X E0) xf91_l0) [false, false, false, true, false, false, true, true, true] 1 (St.mk (tmOf 26 [(3, AV.c (.ptr 0 0)), (6, AV.c (.pv (.sl o 3 (List.map Leg.pv l)))), (7, AV.c (vi (↑(List.length (List.map Leg.pv l)) : Int))), (8, AV.c (vi (IntKind.wrap .i64 ((↑i : Int) + 1))))]) [.cells [vi s0, vi s1, vi s2, vi (IntKind.wrap .i64 (s3 + m))]]) :=
  lv_next [.br true, .el (.agg [PV.int .i64 a, .int .i64 3, .int .i64 m])]
    (c := [decide ((↑i : Int) < (↑(List.length (List.map Leg.pv l)) : Int)) = true, 0 ≤ (↑i : Int), (List.map Leg.pv l)[i]? = some (PV.agg [PV.int .i64 a, .int .i64 3, .int .i64 m]), (0 : Int) ≤ (3 : Int), (3 : Int) < (4 : Int), (0 : Int) ≤ (3 : Int), (3 : Int) < (4 : Int)]) (by kernel_rfl)
    ⟨(dT g1), (Int.natCast_nonneg _), (map_at hy), (by decide), (by decide), (by decide), (by decide), trivial⟩
abbrev m84 : List Bool := [false, false, false, true, false, false, true, true, true]
abbrev S84 (l : List Leg) (o : SO) (i s0 s1 s2 s3 : Int) : St := St.mk (tmOf 26 [(3, AV.c (CV.ptr 0 0)), (6, AV.c (CV.pv (PV.sl o 3 (List.map Leg.pv l)))), (7, AV.c (CV.pv (PV.int .i64 (↑(List.length (List.map Leg.pv l)) : Int)))), (8, AV.c (CV.pv (PV.int .i64 i)))]) [Box.cells [CV.pv (PV.int .i64 s0), CV.pv (PV.int .i64 s1), CV.pv (PV.int .i64 s2), CV.pv (PV.int .i64 s3)]]
theorem l84x_1 (l : List Leg) (o : SO) (i : Nat) (s0 s1 s2 s3 : Int) (hi : ¬(↑i : Int) < (↑(List.length (List.map Leg.pv l)) : Int)) :
    lv (cv (ev X E0) xf91_l0) m84 1 (S84 l o (↑i : Int) s0 s1 s2 s3) = some (XExit.exit 0, St.mk (tmOf 26 [(3, AV.c (.ptr 0 0))]) [.cells [vi s0, vi s1, vi s2, vi s3]]) :=
  lv_exit [.br false]
    (c := [decide ((↑i : Int) < (↑(List.length (List.map Leg.pv l)) : Int)) = false]) (by kernel_rfl)
    ⟨(dF hi), trivial⟩
def sumCur (c : Int) : List Leg → Int
  | [] => 0
  | x :: r => (if x.cur = c then x.minor else 0) + sumCur c r
theorem sumCur_append (c : Int) (a b : List Leg) : sumCur c (a ++ b) = sumCur c a + sumCur c b := by
  induction a with
  | nil => simp [sumCur]
  | cons x r ih => simp only [List.cons_append, sumCur, ih]; omega
theorem sumCur_bound {c : Int} : ∀ {l : List Leg}, (∀ x ∈ l, minOk x.minor = true) → -(1000000000000000 * (l.length : Int)) ≤ sumCur c l ∧ sumCur c l ≤ 1000000000000000 * (l.length : Int)
  | [], _ => by simp [sumCur]
  | x :: r, h => by
    have h1 := h x (by simp)
    have ih := sumCur_bound (c := c) (l := r) fun y hy => h y (by simp [hy])
    simp only [minOk, decide_eq_true_eq] at h1
    simp only [sumCur, List.length_cons, Int.natCast_add, Int.natCast_one]
    split <;> omega
theorem al84 {l : List Leg} {o : SO} (hl : l.length ≤ 100) (hc : ∀ x ∈ l, curOk x.cur = true) (hm : ∀ x ∈ l, minOk x.minor = true) : ∀ (r pre : List Leg), l = pre ++ r →
    lv (cv (ev X E0) xf91_l0) m84 1 (S84 l o (pre.length : Nat) (sumCur 0 pre) (sumCur 1 pre) (sumCur 2 pre) (sumCur 3 pre)) = some (XExit.exit 0, St.mk (tmOf 26 [(3, AV.c (CV.ptr 0 0))]) [Box.cells [CV.pv (PV.int .i64 (sumCur 0 l)), CV.pv (PV.int .i64 (sumCur 1 l)), CV.pv (PV.int .i64 (sumCur 2 l)), CV.pv (PV.int .i64 (sumCur 3 l))]])
  | [], pre, e => by
    rw [List.append_nil] at e
    subst e
    exact l84x_1 l o l.length _ _ _ _ (by simp)
  | y :: r, pre, e => by
    have hlen : l.length = pre.length + r.length + 1 := by rw [e]; simp; omega
    have hat : l[pre.length]? = some y := by rw [e]; simp
    have hlt : ((pre.length : Nat) : Int) < (((l.map Leg.pv).length : Nat) : Int) := by rw [List.length_map]; omega
    have hb : ∀ c, -(1000000000000000 * (pre.length : Int)) ≤ sumCur c pre ∧ sumCur c pre ≤ 1000000000000000 * (pre.length : Int) := fun c => sumCur_bound fun x hx => hm x (by rw [e]; simp [hx])
    have hy := hm y (by rw [e]; simp)
    have hyc := hc y (by rw [e]; simp)
    have ih := al84 (o := o) hl hc hm r (pre ++ [y]) (by rw [e]; simp)
    simp only [sumCur_append, List.length_append, List.length_singleton, Int.natCast_add, sumCur] at ih
    obtain ⟨a, c, m⟩ := y
    simp only [minOk, decide_eq_true_eq] at hy
    have hcc : c = 0 ∨ c = 1 ∨ c = 2 ∨ c = 3 := by simp only [curOk, decide_eq_true_eq] at hyc; omega
    have b0 := hb 0; have b1 := hb 1; have b2 := hb 2; have b3 := hb 3
    rcases hcc with rfl | rfl | rfl | rfl
    · have st := l840_1 l o pre.length a m (sumCur 0 pre) (sumCur 1 pre) (sumCur 2 pre) (sumCur 3 pre) hat hlt
      rw [wi64 (by omega) (by omega), wi64 (by omega) (by omega)] at st
      simp at ih
      exact st.trans ih
    · have st := l841_1 l o pre.length a m (sumCur 0 pre) (sumCur 1 pre) (sumCur 2 pre) (sumCur 3 pre) hat hlt
      rw [wi64 (by omega) (by omega), wi64 (by omega) (by omega)] at st
      simp at ih
      exact st.trans ih
    · have st := l842_1 l o pre.length a m (sumCur 0 pre) (sumCur 1 pre) (sumCur 2 pre) (sumCur 3 pre) hat hlt
      rw [wi64 (by omega) (by omega), wi64 (by omega) (by omega)] at st
      simp at ih
      exact st.trans ih
    · have st := l843_1 l o pre.length a m (sumCur 0 pre) (sumCur 1 pre) (sumCur 2 pre) (sumCur 3 pre) hat hlt
      rw [wi64 (by omega) (by omega), wi64 (by omega) (by omega)] at st
      simp at ih
      exact st.trans ih
def bal (l : List Leg) : Bool := sumCur 0 l == 0 && (sumCur 1 l == 0 && (sumCur 2 l == 0 && (sumCur 3 l == 0 && true)))
theorem f84_1 (l : List Leg) (o : SO) (h : lv (cv (ev X E0) xf91_l0) m84 1 (S84 l o 0 0 0 0 0) = some (XExit.exit 0, St.mk (tmOf 26 [(3, AV.c (.ptr 0 0))]) [.cells [vi (sumCur 0 l), vi (sumCur 1 l), vi (sumCur 2 l), vi (sumCur 3 l)]])) :
    cc (ev X E0) 91 [AV.c (.pv (.sl o 3 (List.map Leg.pv l)))] [] = some (AV.c (.pv (.bool (sumCur 0 l == 0 && (sumCur 1 l == 0 && (sumCur 2 l == 0 && (sumCur 3 l == 0 && true)))))), []) :=
  cc_path (x := xf91) rfl [.loop (XExit.exit 0) (St.mk (tmOf 26 [(3, AV.c (.ptr 0 0))]) [.cells [vi (sumCur 0 l), vi (sumCur 1 l), vi (sumCur 2 l), vi (sumCur 3 l)]])]
    (c := rq [ty h]) (by kernel_rfl)
    (aq ⟨h, trivial⟩)
theorem s84 {l : List Leg} {o : SO} (hl : l.length ≤ 100) (hc : ∀ x ∈ l, curOk x.cur = true) (hm : ∀ x ∈ l, minOk x.minor = true) : cc (ev X E0) 91 [AV.sl o 3 (l.map Leg.pv)] [] = some (.b (bal l), []) := f84_1 l o (al84 hl hc hm l [] rfl)
end Go.Sx.Tryd
