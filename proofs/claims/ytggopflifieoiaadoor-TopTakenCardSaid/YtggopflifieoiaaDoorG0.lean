/- Loops that go through a list. -/
import Derived.Test.YtggopflifieoiaaDoorSxLem
import Derived.Test.YtggopflifieoiaaDoorK1
namespace Go.Sx
open Go
section
variable {b : St → Option (XExit × St)} {m : List Bool} {L : Nat}
theorem lv_scan {α : Type} {l : List α} {w : α → Bool} (S : Int → St) {e r : XExit × St}
    (hend : lv b m L (S (l.length : Nat)) = some e)
    (hbad : ∀ (i : Nat) (y : α), l[i]? = some y → i < l.length → w y = true → lv b m L (S i) = some r)
    (hok : ∀ (i : Nat) (y : α), l[i]? = some y → i < l.length → w y = false → lv b m L (S i) = lv b m L (S ((i : Int) + 1))) :
    lv b m L (S 0) = some (if l.any w = true then r else e) := by
  have key : ∀ (q pre : List α), l = pre ++ q → lv b m L (S (pre.length : Nat)) = some (if q.any w = true then r else e) := by
    intro q
    induction q with
    | nil => intro pre h; rw [List.append_nil] at h; rw [← h]; simpa using hend
    | cons y q ih =>
      intro pre h
      have hat : l[pre.length]? = some y := by rw [h]; simp
      have hlt : pre.length < l.length := by rw [h]; simp
      cases hw : w y with
      | true => rw [hbad _ y hat hlt hw]; simp [hw]
      | false =>
        have := ih (pre ++ [y]) (by rw [h]; simp)
        rw [List.length_append, List.length_singleton, Int.natCast_add, Int.natCast_one] at this
        rw [hok _ y hat hlt hw, this]
        simp [hw]
  exact key l [] rfl
theorem lv_find {α : Type} {l : List α} {w : α → Bool} (S : Int → St) {e : XExit × St} {r : α → XExit × St}
    (hend : lv b m L (S (l.length : Nat)) = some e)
    (hbad : ∀ (i : Nat) (y : α), l[i]? = some y → i < l.length → w y = true → lv b m L (S i) = some (r y))
    (hok : ∀ (i : Nat) (y : α), l[i]? = some y → i < l.length → w y = false → lv b m L (S i) = lv b m L (S ((i : Int) + 1))) :
    lv b m L (S 0) = some ((l.find? w).elim e r) := by
  have key : ∀ (q pre : List α), l = pre ++ q → lv b m L (S (pre.length : Nat)) = some ((q.find? w).elim e r) := by
    intro q
    induction q with
    | nil => intro pre h; rw [List.append_nil] at h; rw [← h]; exact hend
    | cons y q ih =>
      intro pre h
      have hat : l[pre.length]? = some y := by rw [h]; simp
      have hlt : pre.length < l.length := by rw [h]; simp
      cases hw : w y with
      | true => rw [hbad _ y hat hlt hw, List.find?_cons, hw]; rfl
      | false =>
        have := ih (pre ++ [y]) (by rw [h]; simp)
        rw [List.length_append, List.length_singleton, Int.natCast_add, Int.natCast_one] at this
        rw [hok _ y hat hlt hw, this, List.find?_cons, hw]
  exact key l [] rfl
theorem lv_fold {α β : Type} {l : List α} (f : β → α → β) (b0 : β) (S : Int → β → St) {e : XExit × St}
    (hend : lv b m L (S (l.length : Nat) (l.foldl f b0)) = some e)
    (hstep : ∀ (i : Nat) (y : α) (c : β), l[i]? = some y → i < l.length → c = (l.take i).foldl f b0 → lv b m L (S i c) = lv b m L (S ((i : Int) + 1) (f c y))) :
    lv b m L (S 0 b0) = some e := by
  have key : ∀ (q pre : List α), l = pre ++ q → lv b m L (S (pre.length : Nat) (pre.foldl f b0)) = some e := by
    intro q
    induction q with
    | nil => intro pre h; rw [List.append_nil] at h; rw [← h]; exact hend
    | cons y q ih =>
      intro pre h
      have hat : l[pre.length]? = some y := by rw [h]; simp
      have hlt : pre.length < l.length := by rw [h]; simp
      have := ih (pre ++ [y]) (by rw [h]; simp)
      rw [List.length_append, List.length_singleton, Int.natCast_add, Int.natCast_one, List.foldl_append] at this
      rw [hstep _ y _ hat hlt (by rw [h]; simp)]
      exact this
  exact key l [] rfl
end
end Go.Sx
/- Whether postings are gone through. -/
namespace Go.Sx.Tryd
open Go Go.Sx
def Fair (p : Post) : Prop := p.memo.length ≤ 1000000 ∧ p.legs.length ≤ 4000000000000000000
theorem lt_lenP {l : List Post} {i : Nat} (h : i < l.length) : (i : Int) < (((l.map Post.pv).length : Nat) : Int) := by rw [List.length_map]; omega
end Go.Sx.Tryd
