/- What is wrong with a request. -/
import Derived.Test.YtplknajjcllmkaaDoorH6
import Derived.Test.YtplknajjcllmkaaDoorH4
namespace Go.Sx.Tryd
open Go Go.Sx
theorem lt_map {α β : Type} {f : α → β} {l : List α} {i : Nat} (h : i < l.length) : (i : Int) < (((l.map f).length : Nat) : Int) := by rw [List.length_map]; omega
theorem not_lt_map {α β : Type} {f : α → β} {l : List α} : ¬ ((l.length : Nat) : Int) < (((l.map f).length : Nat) : Int) := by rw [List.length_map]; omega
theorem a79 {l : List (Int × Int)} {o : SO} (hl : l.length ≤ 1000000) : ∀ (r pre : List (Int × Int)) (e : Int), l = pre ++ r →
    (r.all (fun m => curOk m.1) = true ∧ lv (cv (ev X E0) xf79_l0) (rl [3, 2, 0, 0]) 0 (S79 l o e (pre.length : Nat)) = some (XExit.exit 0, St.mk (tmOf 32 [(3, AV.c (CV.pv (PV.int .i64 (if r.all (fun m => minOk m.2) = true then e else 9))))]) [])) ∨
    (r.all (fun m => curOk m.1) = false ∧ ∃ c m, lv (cv (ev X E0) xf79_l0) (rl [3, 2, 0, 0]) 0 (S79 l o e (pre.length : Nat)) = some (XExit.ret, St.mk (tmOf 32 [(2, AV.c (CV.pv (PV.int .i64 12)))]) [Box.cells [CV.pv (PV.int .i64 c), CV.pv (PV.int .i64 m)]]))
  | [], pre, e, h => by
    rw [List.append_nil] at h
    subst h
    exact Or.inl ⟨rfl, l79_6 l o e l.length not_lt_map⟩
  | y :: r, pre, e, h => by
    have hat : l[pre.length]? = some y := by rw [h]; simp
    have hlen : l.length = pre.length + r.length + 1 := by rw [h]; simp; omega
    have hlt := lt_map (f := pvM) (l := l) (i := pre.length) (by omega)
    by_cases c1 : y.1 < 0
    · exact Or.inr ⟨by simp only [List.all_cons, Bool.and_eq_false_iff]; exact Or.inl (by unfold curOk; rw [decide_eq_false (by omega)]), _, _, l79_1 l o e pre.length y hlt hat c1⟩
    by_cases c2 : y.1 ≥ 4
    · exact Or.inr ⟨by simp only [List.all_cons, Bool.and_eq_false_iff]; exact Or.inl (by unfold curOk; rw [decide_eq_false (by omega)]), _, _, l79_2 l o e pre.length y hlt hat c1 c2⟩
    have hc : curOk y.1 = true := by unfold curOk; rw [decide_eq_true (by omega)]
    have key : ∀ e', lv (cv (ev X E0) xf79_l0) (rl [3, 2, 0, 0]) 0 (S79 l o e (pre.length : Nat)) = lv (cv (ev X E0) xf79_l0) (rl [3, 2, 0, 0]) 0 (S79 l o e' ((pre ++ [y]).length : Nat)) → (minOk y.2 = true ∧ e' = e ∨ minOk y.2 = false ∧ e' = 9) →
      (List.all (y :: r) (fun m => curOk m.1) = true ∧ lv (cv (ev X E0) xf79_l0) (rl [3, 2, 0, 0]) 0 (S79 l o e (pre.length : Nat)) = some (XExit.exit 0, St.mk (tmOf 32 [(3, AV.c (CV.pv (PV.int .i64 (if List.all (y :: r) (fun m => minOk m.2) = true then e else 9))))]) [])) ∨
      (List.all (y :: r) (fun m => curOk m.1) = false ∧ ∃ c m, lv (cv (ev X E0) xf79_l0) (rl [3, 2, 0, 0]) 0 (S79 l o e (pre.length : Nat)) = some (XExit.ret, St.mk (tmOf 32 [(2, AV.c (CV.pv (PV.int .i64 12)))]) [Box.cells [CV.pv (PV.int .i64 c), CV.pv (PV.int .i64 m)]])) := by
      intro e' st he
      simp only [List.all_cons, hc, Bool.true_and]
      rw [st]
      rcases a79 (o := o) hl r (pre ++ [y]) e' (by rw [h]; simp) with ⟨g1, g2⟩ | ⟨g1, g2⟩
      · refine Or.inl ⟨g1, ?_⟩
        rw [g2]
        rcases he with ⟨m1, rfl⟩ | ⟨m1, rfl⟩
        · simp only [m1, Bool.true_and]
        · simp [m1]
      · exact Or.inr ⟨g1, g2⟩
    have hw : IntKind.wrap .i64 ((pre.length : Int) + 1) = (((pre ++ [y]).length : Nat) : Int) := by rw [wi64 (by omega) (by omega), List.length_append, List.length_singleton]; omega
    by_cases c3 : y.2 < -1000000000000000
    · have st := l79_3 l o e pre.length y hlt hat c1 c2 c3
      rw [hw] at st
      exact key 9 st (Or.inr ⟨by unfold minOk; rw [decide_eq_false (by omega)], rfl⟩)
    by_cases c4 : y.2 > 1000000000000000
    · have st := l79_4 l o e pre.length y hlt hat c1 c2 c3 c4
      rw [hw] at st
      exact key 9 st (Or.inr ⟨by unfold minOk; rw [decide_eq_false (by omega)], rfl⟩)
    have st := l79_5 l o e pre.length y hlt hat c1 c2 c3 c4
    rw [hw] at st
    exact key e st (Or.inl ⟨by unfold minOk; rw [decide_eq_true (by omega)], rfl⟩)
theorem s79 (l : List (Int × Int)) (o : SO) (hl : l.length ≤ 1000000) : cc (ev X E0) 79 [AV.sl o 2 (l.map pvM)] [] = some (.i (amts l), []) := by
  unfold amts
  rcases a79 (o := o) hl l [] 0 rfl with ⟨h1, h2⟩ | ⟨h1, c, m, h2⟩
  · rw [f79a_1 l o _ h2]
    cases hm : l.all (fun m => minOk m.2) <;> simp [h1]
  · rw [f79b_1 l o c m h2]; simp [h1]
theorem s143 (l : List Int) (o : SO) (hl : l.length ≤ 1000000) : ∃ j : Int, cc (ev X E0) 143 [AV.sl o 1 (l.map pvI), AV.c (.fn 120 [])] [] = some (.i j, []) ∧ decide (j ≥ 0) = !l.all n32 := by
  have key : ∀ (r pre : List Int), l = pre ++ r →
    (r.all n32 = true ∧ lv (cv (ev X E0) xf143_l0) (rl [0, 0, 5, 0]) 0 (S143 l o (pre.length : Nat)) = some (XExit.exit 0, St.mk (tmOf 19 []) [])) ∨
    (r.all n32 = false ∧ ∃ j : Nat, lv (cv (ev X E0) xf143_l0) (rl [0, 0, 5, 0]) 0 (S143 l o (pre.length : Nat)) = some (XExit.ret, St.mk (tmOf 19 [(4, AV.c (CV.pv (PV.int .i64 (j : Int))))]) [])) := by
    intro r
    induction r with
    | nil =>
      intro pre h
      rw [List.append_nil] at h
      subst h
      exact Or.inl ⟨rfl, l143_3 l o l.length not_lt_map⟩
    | cons y r ih =>
      intro pre h
      have hat : l[pre.length]? = some y := by rw [h]; simp
      have hlen : l.length = pre.length + r.length + 1 := by rw [h]; simp; omega
      have hlt := lt_map (f := pvI) (l := l) (i := pre.length) (by omega)
      cases c : n32 y with
      | false => exact Or.inr ⟨by simp [c], pre.length, l143_1 l o pre.length y hlt hat c⟩
      | true =>
        have st := l143_2 l o pre.length y hlt hat c
        have hw : IntKind.wrap .i64 ((pre.length : Int) + 1) = (((pre ++ [y]).length : Nat) : Int) := by rw [wi64 (by omega) (by omega), List.length_append, List.length_singleton]; omega
        rw [hw] at st
        rw [st]
        simp only [List.all_cons, c, Bool.true_and]
        exact ih (pre ++ [y]) (by rw [h]; simp)
  rcases key l [] rfl with ⟨h1, h2⟩ | ⟨h1, j, h2⟩
  · exact ⟨-1, f143a_1 l o h2, by rw [h1]; rfl⟩
  · exact ⟨j, f143b_1 l o j h2, by rw [h1]; simp⟩
theorem s80 (l : List Int) (o : SO) (hl : l.length ≤ 1000000) : cc (ev X E0) 80 [AV.sl o 1 (l.map pvI)] [] = some (.b (l.all n32), []) := by
  obtain ⟨j, h1, h2⟩ := s143 l o hl
  have h := f80_1 l o _ (f119_1 l o j h1)
  rw [h2, Bool.not_not] at h
  exact h
end Go.Sx.Tryd
