/- Books that may be: beginnings, order, copies. -/
import Derived.Test.YtplknajjcllmkaaDoorN4
namespace Go.Sx.Tryd
open Go Go.Sx
theorem rightFrom_append : ∀ (a pre b : List Post), rightFrom pre (a ++ b) = (rightFrom pre a && rightFrom (pre ++ a) b)
  | [], pre, b => by simp [rightFrom]
  | x :: a, pre, b => by
    simp only [List.cons_append, rightFrom]
    rw [rightFrom_append a (pre ++ [x]) b, Bool.and_assoc, List.append_assoc]
    rfl
theorem rightB_append (a b : List Post) : rightB (a ++ b) = (rightB a && rightFrom a b) := by
  unfold rightB
  rw [rightFrom_append a [] b]
  rfl
theorem rightB_snoc (l : List Post) (p : Post) : rightB (l ++ [p]) = (rightB l && (fullE l p == 0)) := by
  rw [rightB_append]
  simp [rightFrom]
theorem right_take {l : List Post} (h : rightB l = true) (n : Nat) : rightB (l.take n) = true := by
  have := rightB_append (l.take n) (l.drop n)
  rw [List.take_append_drop, h] at this
  have h2 := this.symm
  rw [Bool.and_eq_true] at h2
  exact h2.1
theorem fullE_sh (l : List Post) (p : Post) : fullE l (sh p) = fullE l p := rfl
def Shut (l : List Post) : Prop := ∀ p ∈ l, p.so = .shut
theorem shut_sh {l : List Post} (h : Shut l) : l.map sh = l := by
  have : ∀ p ∈ l, sh p = p := fun p hp => by
    have := h p hp
    obtain ⟨a, b, c, d, e, f, g, i⟩ := p
    simp only at this
    subst this
    rfl
  rw [List.map_congr_left this]; simp
theorem sh_shut (l : List Post) : Shut (l.map sh) := by
  intro p hp
  obtain ⟨q, _, rfl⟩ := List.mem_map.1 hp
  rfl
theorem sh_nice {p : Post} (h : Nice p) : Nice (sh p) := ⟨h.memo, h.legs, fun e => by cases e⟩
def numbered (b : List Post) (p : Post) : Post := { p with id := (b.length : Int) + 1 }
def put (b : List Post) (p : Post) : List Post := if fullE b (numbered b p) = 0 then b ++ [sh (numbered b p)] else b
def made (l : List Post) : List Post := l.foldl put []
structure Built (b : List Post) (n : Nat) : Prop where
  right : rightB b = true
  shut : Shut b
  nice : ∀ p ∈ b, Nice p
  len : b.length ≤ n
end Go.Sx.Tryd
