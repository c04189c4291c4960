/- Books of postings that reverse none, known on one day: in any order the same. -/
import Derived.Test.YtdhefhnlagnkdaaDoorP1
import Derived.Test.YtdhefhnlagnkdaaDoorN5
import Derived.Test.YtdhefhnlagnkdaaDoorM1
namespace Go.Sx.Tryd
open Go Go.Sx
/-- A posting that reverses none, known on day 7. -/
def norm7 (p : Post) : Post := ⟨1, 7, p.value, p.so, p.legs, 0, p.kind, p.memo⟩
structure Row (p : Post) : Prop where
  rev : p.rev = 0
  known : p.known = 7
  chk : chk p = 0
  nice : Nice p
def withId (p : Post) (n : Int) : Post := ⟨n, p.known, p.value, p.so, p.legs, p.rev, p.kind, p.memo⟩
theorem chk_id {p : Post} (h : chk p = 0) (hr : p.rev = 0) {n : Int} (h1 : 1 ≤ n) (h2 : n ≤ 1000000) : chk (withId p n) = 0 := by
  have hh := (chk_inv h).1
  have hh2 : headed (withId p n) = true := by
    unfold headed at hh ⊢
    simp only [Bool.and_eq_true, decide_eq_true_eq] at hh ⊢
    exact ⟨⟨h1, h2, hh.1.2.2.1, by show p.rev < n; omega, hh.1.2.2.2.2⟩, hh.2⟩
  have key : ∀ q : Post, headed q = true → chk q = (if datOk q.known = false then 11 else if datOk q.value = false then 11 else if q.legs.length < 2 then 2 else if 16 < q.legs.length then 4
      else if q.legs.any accBad = true then 8 else if q.legs.any curBad = true then 12 else if q.legs.any overBad = true then 9 else if q.legs.any zeroBad = true then 10 else if bal q.legs = false then 15 else 0) := by
    intro q hq
    unfold chk
    rw [if_neg (by rw [hq]; simp)]
  rw [key _ hh2]
  have := key p hh
  rw [h] at this
  exact this.symm
/-- Postings, numbered from n on. -/
def numL : Nat → List Post → List Post
  | _, [] => []
  | n, p :: r => sh (withId p ((n : Int) + 1)) :: numL (n + 1) r
theorem put_row {b : List Post} (hb : ∀ q ∈ b, q.known = 7) (hl : b.length < 400) {p : Post} (hp : Row p) : put b p = b ++ [sh (withId p ((b.length : Int) + 1))] := by
  have hc := chk_id hp.chk hp.rev (n := (b.length : Int) + 1) (by omega) (by omega)
  have hf : fullE b (numbered b p) = 0 := by
    have e : numbered b p = withId p ((b.length : Int) + 1) := rfl
    rw [e]
    unfold fullE
    rw [if_pos hc]
    unfold nextE
    rw [if_neg (by omega), if_neg (by simp [withId])]
    have hk : lastKn b (withId p ((b.length : Int) + 1)).known = false := by
      unfold lastKn
      cases hq : b.getLast? with
      | none => rfl
      | some q =>
        have hm : q ∈ b := List.mem_of_getLast? hq
        simp only [Option.elim, withId, hp.known, hb q hm]
        decide
    rw [hk, if_neg (by simp)]
    exact if_pos hp.rev
  unfold put
  rw [if_pos hf]
  rfl
theorem fold_row : ∀ {l b : List Post}, (∀ q ∈ b, q.known = 7) → b.length + l.length ≤ 400 → (∀ p ∈ l, Row p) → l.foldl put b = b ++ numL b.length l
  | [], b, _, _, _ => by simp [numL]
  | p :: l, b, hb, hl, hR => by
    have hp := hR p (by simp)
    simp only [List.length_cons] at hl
    rw [List.foldl_cons, put_row hb (by omega) hp, fold_row (fun q hq => by
      rcases List.mem_append.1 hq with h | h
      · exact hb q h
      · simp only [List.mem_singleton] at h; subst h; exact hp.known) (by simp; omega) fun q hq => hR q (by simp [hq])]
    rw [List.length_append, List.length_singleton, List.append_assoc]
    rfl
theorem made_row {l : List Post} (hl : l.length ≤ 400) (hR : ∀ p ∈ l, Row p) : made l = numL 0 l := by
  have := fold_row (l := l) (b := []) (by simp) (by simpa using hl) hR
  simpa [made] using this
theorem numL_len : ∀ (l : List Post) (n : Nat), (numL n l).length = l.length
  | [], n => rfl
  | p :: l, n => by simp [numL, numL_len l]
theorem numL_filter (v : Int) : ∀ {l : List Post} {n : Nat}, (∀ p ∈ l, p.known = 7) → ((numL n l).filter (within 7 v)).length = (l.filter fun p => decide (p.value ≤ v)).length
  | [], n, _ => rfl
  | p :: l, n, h => by
    have ih := numL_filter v (l := l) (n := n + 1) fun q hq => h q (by simp [hq])
    have hk := h p (by simp)
    by_cases c : p.value ≤ v
    · have h1 : within 7 v (sh (withId p ((n : Int) + 1))) = true := by simp [within, withId, hk, c]
      rw [numL, List.filter_cons_of_pos h1, List.filter_cons_of_pos (by simpa using c), List.length_cons, List.length_cons, ih]
    · have h1 : within 7 v (sh (withId p ((n : Int) + 1))) = false := by simp [within, withId, c]
      rw [numL, List.filter_cons_of_neg (by simp [h1]), List.filter_cons_of_neg (by simpa using c), ih]
theorem numL_sum (acc cur v : Int) : ∀ {l : List Post} {n : Nat}, (∀ p ∈ l, p.known = 7) → sumBook acc cur v ((numL n l).filter (within 7 v)) = sumBook acc cur v l
  | [], n, _ => rfl
  | p :: l, n, h => by
    have ih := numL_sum acc cur v (l := l) (n := n + 1) fun q hq => h q (by simp [hq])
    have hk := h p (by simp)
    by_cases c : p.value ≤ v
    · have h1 : within 7 v (sh (withId p ((n : Int) + 1))) = true := by simp [within, withId, hk, c]
      rw [numL, List.filter_cons_of_pos h1, sumBook, sumBook, ih]
      rfl
    · have h1 : within 7 v (sh (withId p ((n : Int) + 1))) = false := by simp [within, withId, c]
      rw [numL, List.filter_cons_of_neg (by simp [h1]), sumBook, if_neg c, ih, Int.zero_add]
theorem sumBook_append (acc cur v : Int) (a b : List Post) : sumBook acc cur v (a ++ b) = sumBook acc cur v a + sumBook acc cur v b := by
  induction a with
  | nil => simp [sumBook]
  | cons p r ih => simp only [List.cons_append, sumBook, ih]; omega
theorem sumBook_reverse (acc cur v : Int) (l : List Post) : sumBook acc cur v l.reverse = sumBook acc cur v l := by
  induction l with
  | nil => rfl
  | cons p r ih => rw [List.reverse_cons, sumBook_append, ih, sumBook, sumBook, sumBook]; omega
theorem norm7_row {p : Post} (h : Nice p) (hc : chk (norm7 p) = 0) : Row (norm7 p) := ⟨rfl, rfl, hc, ⟨h.memo, h.legs, h.so⟩⟩
end Go.Sx.Tryd
