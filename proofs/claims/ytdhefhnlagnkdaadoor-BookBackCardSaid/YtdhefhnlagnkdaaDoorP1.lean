/- Books that may be: beginnings, order, copies. -/
import Derived.Test.YtdhefhnlagnkdaaDoorN4
namespace Go.Sx.Tryd
open Go Go.Sx
theorem rightFrom_append : ∀ (a pre b : List Post), rightFrom pre (a ++ b) = (rightFrom pre a && rightFrom (pre ++ a) b)
  | [], pre, b => by simp [rightFrom]
  | x :: a, pre, b => by
    simp only [List.cons_append, rightFrom]
    rw [rightFrom_append a (pre ++ [x]) b, Bool.and_assoc, List.append_assoc]
    rfl
theorem rightB_append (a b : List Post) : rightB (a ++ b) = (rightB a && rightFrom a b) := by
  unfold rightB
  rw [rightFrom_append a [] b]
  rfl
theorem rightB_snoc (l : List Post) (p : Post) : rightB (l ++ [p]) = (rightB l && (fullE l p == 0)) := by
  rw [rightB_append]
  simp [rightFrom]
theorem right_take {l : List Post} (h : rightB l = true) (n : Nat) : rightB (l.take n) = true := by
  have := rightB_append (l.take n) (l.drop n)
  rw [List.take_append_drop, h] at this
  have h2 := this.symm
  rw [Bool.and_eq_true] at h2
  exact h2.1
theorem fullE_known {l : List Post} {p : Post} (h : fullE l p = 0) : chk p = 0 ∧ p.id = l.length + 1 ∧ ∀ q, l.getLast? = some q → q.known ≤ p.known := by
  unfold fullE at h
  by_cases c : chk p = 0
  · rw [if_pos c] at h
    unfold nextE at h
    by_cases c1 : l.length = 400
    · rw [if_pos c1] at h; cases h
    rw [if_neg c1] at h
    by_cases c2 : p.id ≠ l.length + 1
    · rw [if_pos c2] at h; cases h
    rw [if_neg c2] at h
    by_cases c3 : lastKn l p.known = true
    · rw [if_pos c3] at h; cases h
    refine ⟨c, by simpa using c2, fun q hq => ?_⟩
    unfold lastKn at c3
    rw [hq] at c3
    simp only [Option.elim, decide_eq_true_eq] at c3
    omega
  · rw [if_neg c] at h; exact absurd h c
theorem fullE_sh (l : List Post) (p : Post) : fullE l (sh p) = fullE l p := rfl
def Shut (l : List Post) : Prop := ∀ p ∈ l, p.so = .shut
theorem shut_sh {l : List Post} (h : Shut l) : l.map sh = l := by
  have : ∀ p ∈ l, sh p = p := fun p hp => by
    have := h p hp
    obtain ⟨a, b, c, d, e, f, g, i⟩ := p
    simp only at this
    subst this
    rfl
  rw [List.map_congr_left this]; simp
theorem sh_shut (l : List Post) : Shut (l.map sh) := by
  intro p hp
  obtain ⟨q, _, rfl⟩ := List.mem_map.1 hp
  rfl
theorem sh_nice {p : Post} (h : Nice p) : Nice (sh p) := ⟨h.memo, h.legs, fun e => by cases e⟩
def numbered (b : List Post) (p : Post) : Post := { p with id := (b.length : Int) + 1 }
theorem num_nice {b : List Post} {p : Post} (h : Nice p) : Nice (numbered b p) := ⟨h.memo, h.legs, h.so⟩
def put (b : List Post) (p : Post) : List Post := if fullE b (numbered b p) = 0 then b ++ [sh (numbered b p)] else b
def made (l : List Post) : List Post := l.foldl put []
structure Built (b : List Post) (n : Nat) : Prop where
  right : rightB b = true
  shut : Shut b
  nice : ∀ p ∈ b, Nice p
  len : b.length ≤ n
theorem put_built {b : List Post} {n : Nat} (h : Built b n) {p : Post} (hp : Nice p) : Built (put b p) (n + 1) := by
  unfold put
  split
  · rename_i c
    refine ⟨by rw [rightB_snoc, h.right, fullE_sh, c]; rfl, fun q hq => ?_, fun q hq => ?_, by rw [List.length_append]; have := h.len; simp; omega⟩
    · rcases List.mem_append.1 hq with hq | hq
      · exact h.shut q hq
      · simp only [List.mem_singleton] at hq; subst hq; rfl
    · rcases List.mem_append.1 hq with hq | hq
      · exact h.nice q hq
      · simp only [List.mem_singleton] at hq; subst hq; exact sh_nice (num_nice hp)
  · exact ⟨h.right, h.shut, h.nice, by have := h.len; omega⟩
theorem fold_built : ∀ {l b : List Post} {n : Nat}, Built b n → (∀ p ∈ l, Nice p) → Built (l.foldl put b) (n + l.length)
  | [], b, n, h, _ => h
  | p :: l, b, n, h, hN => by
    have := fold_built (l := l) (put_built h (hN p (by simp))) fun q hq => hN q (by simp [hq])
    rw [List.length_cons, show n + (l.length + 1) = n + 1 + l.length by omega]
    exact this
theorem made_built {l : List Post} (hN : ∀ p ∈ l, Nice p) : Built (made l) l.length := by
  have := fold_built (l := l) (b := []) (n := 0) ⟨rfl, fun p hp => by simp at hp, fun p hp => by simp at hp, Nat.le_refl _⟩ hN
  rwa [Nat.zero_add] at this
end Go.Sx.Tryd
