/- All accounts together. -/
import Derived.Test.YtdhefhnlagnkdaaDoorM1
import Derived.Test.YtdhefhnlagnkdaaDoorP1
namespace Go.Sx.Tryd
open Go Go.Sx
def sumOver : List Int → (Int → Int) → Int
  | [], _ => 0
  | a :: r, f => f a + sumOver r f
theorem sumOver_add (f g : Int → Int) : ∀ S : List Int, sumOver S (fun a => f a + g a) = sumOver S f + sumOver S g
  | [] => rfl
  | a :: r => by simp only [sumOver]; rw [sumOver_add f g r]; omega
theorem sumOver_zero : ∀ S : List Int, sumOver S (fun _ => 0) = 0
  | [] => rfl
  | a :: r => by simp only [sumOver]; rw [sumOver_zero r]; rfl
theorem sumOver_congr {f g : Int → Int} : ∀ {S : List Int}, (∀ a ∈ S, f a = g a) → sumOver S f = sumOver S g
  | [], _ => rfl
  | a :: r, h => by simp only [sumOver]; rw [h a (by simp), sumOver_congr fun b hb => h b (by simp [hb])]
theorem sumOver_single {k m : Int} : ∀ {S : List Int}, S.Nodup → k ∈ S → sumOver S (fun a => if k = a then m else 0) = m
  | a :: r, hn, hk => by
    have hn' := List.nodup_cons.1 hn
    simp only [sumOver]
    by_cases c : k = a
    · subst c
      have hz : sumOver r (fun a => if k = a then m else 0) = 0 := by
        rw [sumOver_congr (g := fun _ => 0) fun b hb => if_neg (fun e : k = b => hn'.1 (e.symm ▸ hb)), sumOver_zero]
      rw [if_pos rfl, hz, Int.add_zero]
    · rw [if_neg c, sumOver_single hn'.2 (by rcases List.mem_cons.1 hk with h | h; exact absurd h c; exact h), Int.zero_add]
theorem sumOver_legs {S : List Int} (hn : S.Nodup) (c : Int) : ∀ {l : List Leg}, (∀ x ∈ l, x.acc ∈ S) → sumOver S (fun a => sumIf (onW a c) l) = sumCur c l
  | [], _ => by simp only [sumIf, sumCur]; exact sumOver_zero S
  | x :: l, h => by
    simp only [sumIf, sumCur]
    rw [sumOver_add, sumOver_legs hn c fun y hy => h y (by simp [hy])]
    congr 1
    have e : ∀ a, (if onW a c x = true then x.minor else 0) = if x.acc = a then (if x.cur = c then x.minor else 0) else 0 := by
      intro a
      by_cases ha : x.acc = a
      · by_cases hc : x.cur = c
        · rw [show onW a c x = true by simp [onW, ha, hc], if_pos rfl, if_pos ha, if_pos hc]
        · rw [show onW a c x = false by simp [onW, hc], if_neg (by simp), if_pos ha, if_neg hc]
      · rw [show onW a c x = false by simp [onW, ha], if_neg (by simp), if_neg ha]
    rw [sumOver_congr (g := fun a => if x.acc = a then (if x.cur = c then x.minor else 0) else 0) fun a _ => e a]
    exact sumOver_single hn (h x (by simp))
theorem bal_cur {l : List Leg} (h : bal l = true) {c : Int} (h0 : 0 ≤ c) (h4 : c < 4) : sumCur c l = 0 := by
  simp only [bal, Bool.and_eq_true, beq_iff_eq] at h
  have : c = 0 ∨ c = 1 ∨ c = 2 ∨ c = 3 := by omega
  rcases this with rfl | rfl | rfl | rfl
  · exact h.1
  · exact h.2.1
  · exact h.2.2.1
  · exact h.2.2.2.1
theorem all_zero {S : List Int} (hn : S.Nodup) {c v : Int} (h0 : 0 ≤ c) (h4 : c < 4) : ∀ {b : List Post}, (∀ p ∈ b, chk p = 0 ∧ ∀ x ∈ p.legs, x.acc ∈ S) → sumOver S (fun a => sumBook a c v b) = 0
  | [], _ => by simp only [sumBook]; exact sumOver_zero S
  | p :: b, h => by
    obtain ⟨hc, hl⟩ := h p (by simp)
    simp only [sumBook]
    rw [sumOver_add, all_zero hn h0 h4 fun q hq => h q (by simp [hq]), Int.add_zero]
    by_cases hv : p.value ≤ v
    · have : (fun a => if p.value ≤ v then sumIf (onW a c) p.legs else 0) = fun a => sumIf (onW a c) p.legs := by funext a; rw [if_pos hv]
      rw [this, sumOver_legs hn c hl, bal_cur (chk_inv hc).2.2.2.2.2.2.2.2.2 h0 h4]
    · have : (fun a => if p.value ≤ v then sumIf (onW a c) p.legs else 0) = fun _ => 0 := by funext a; rw [if_neg hv]
      rw [this, sumOver_zero]
theorem by_day (acc c v : Int) : ∀ b : List Post, sumBook acc c v b = sumBook acc c (v - 1) b + sumBook acc c v (b.filter fun p => p.value == v)
  | [] => rfl
  | p :: b => by
    have ih := by_day acc c v b
    simp only [sumBook]
    by_cases h : p.value = v
    · rw [List.filter_cons_of_pos (by simpa using h), sumBook, if_pos (by omega), if_neg (by omega)]; omega
    · rw [List.filter_cons_of_neg (by simpa using h)]
      by_cases h2 : p.value ≤ v
      · rw [if_pos h2, if_pos (by omega)]; omega
      · rw [if_neg h2, if_neg (by omega)]; omega
/-- Numbers that are seen, as a map. -/
def kvi (ks : List Int) : List (PV × PV) := ks.map fun k => (.int .i64 k, .int .i64 1)
theorem get_kvi (k : Int) : ∀ ks : List Int, mapGet (kvi ks) (.int .i64 k) = some (if k ∈ ks then some (.int .i64 1) else none)
  | [] => by simp [kvi, mapGet]
  | a :: ks => by
    have ih := get_kvi k ks
    unfold kvi at ih ⊢
    simp only [List.map_cons, mapGet, if_true]
    by_cases h : a = k
    · rw [if_pos h, if_pos (by simp [h])]
    · rw [if_neg h, ih]
      have : k ∈ a :: ks ↔ k ∈ ks := by simp [Ne.symm h]
      simp only [this]
theorem put_kvi (k : Int) : ∀ ks : List Int, k ∉ ks → mapPut (kvi ks) (.int .i64 k) (.int .i64 1) = some (kvi (ks ++ [k]))
  | [], _ => by simp [kvi, mapPut]
  | a :: ks, h => by
    have ih := put_kvi k ks (fun hh => h (by simp [hh]))
    have hne : ¬ a = k := fun e => h (by simp [e])
    unfold kvi at ih ⊢
    simp only [List.cons_append, List.map_cons, mapPut, if_true]
    rw [if_neg hne, ih]
    rfl
theorem wrap_add (a b : Int) : IntKind.wrap .i64 (IntKind.wrap .i64 a + b) = IntKind.wrap .i64 (a + b) := by
  rw [wi64', wi64', wi64']
  split <;> split <;> split <;> omega
theorem sumOver_snoc (f : Int → Int) (S : List Int) (a : Int) : sumOver (S ++ [a]) f = sumOver S f + f a := by
  induction S with
  | nil => simp [sumOver]
  | cons b r ih => simp only [List.cons_append, sumOver, ih]; omega
end Go.Sx.Tryd
