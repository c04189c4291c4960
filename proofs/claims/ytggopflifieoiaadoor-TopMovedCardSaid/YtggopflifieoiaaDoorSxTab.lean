/- Closed calls: what a call comes to, out of what the calls that it makes come to. -/
import Derived.Test.YtggopflifieoiaaDoorSxLim
namespace Go.Sx
open Go
mutual
def PV.beq : PV → PV → Bool
  | .bool a, .bool b => a == b
  | .int k a, .int k' b => decide (k = k') && decide (a = b)
  | .str a, .str b => a == b
  | .agg l, .agg m => PV.beqL l m
  | .sl o s l, .sl o' s' m => decide (o = o') && decide (s = s') && PV.beqL l m
  | _, _ => false
def PV.beqL : List PV → List PV → Bool
  | [], [] => true
  | a :: l, b :: m => PV.beq a b && PV.beqL l m
  | _, _ => false
end
mutual
theorem PV.beq_ok : ∀ {a b : PV}, PV.beq a b = true → a = b
  | .bool a, b, h => by cases b <;> simp only [PV.beq, Bool.false_eq_true, beq_iff_eq] at h; rw [h]
  | .int k a, b, h => by cases b <;> simp only [PV.beq, Bool.false_eq_true, Bool.and_eq_true, decide_eq_true_eq] at h; rw [h.1, h.2]
  | .str a, b, h => by cases b <;> simp only [PV.beq, Bool.false_eq_true, beq_iff_eq] at h; rw [h]
  | .agg l, b, h => by
    cases b with
    | agg m => simp only [PV.beq] at h; rw [PV.beqL_ok h]
    | _ => simp [PV.beq] at h
  | .sl o s l, b, h => by
    cases b with
    | sl o' s' m => simp only [PV.beq, Bool.and_eq_true, decide_eq_true_eq] at h; rw [h.1.1, h.1.2, PV.beqL_ok h.2]
    | _ => simp [PV.beq] at h
theorem PV.beqL_ok : ∀ {l m : List PV}, PV.beqL l m = true → l = m
  | [], [], _ => rfl
  | a :: l, b :: m, h => by simp only [PV.beqL, Bool.and_eq_true] at h; rw [PV.beq_ok h.1, PV.beqL_ok h.2]
  | [], _ :: _, h => by simp [PV.beqL] at h
  | _ :: _, [], h => by simp [PV.beqL] at h
end
def listB {α : Type} (f : α → α → Bool) : List α → List α → Bool
  | [], [] => true
  | a :: l, b :: m => f a b && listB f l m
  | _, _ => false
theorem listB_ok {α : Type} {f : α → α → Bool} (hf : ∀ a b, f a b = true → a = b) : ∀ {l m : List α}, listB f l m = true → l = m
  | [], [], _ => rfl
  | a :: l, b :: m, h => by simp only [listB, Bool.and_eq_true] at h; rw [hf _ _ h.1, listB_ok hf h.2]
  | [], _ :: _, h => by simp [listB] at h
  | _ :: _, [], h => by simp [listB] at h
def CV.beq : CV → CV → Bool
  | .undef, .undef => true
  | .pv a, .pv b => PV.beq a b
  | .own i s l, .own i' s' m => decide (i = i') && decide (s = s') && PV.beqL l m
  | .ms k o s n, .ms k' o' s' n' => decide (k = k') && decide (o = o') && decide (s = s') && decide (n = n')
  | .ptr k o, .ptr k' o' => decide (k = k') && decide (o = o')
  | .cptr l o, .cptr m o' => decide (o = o') && PV.beqL l m
  | .nilp, .nilp => true
  | .fn f c, .fn f' c' => decide (f = f') && decide (c = c')
  | .nilf, .nilf => true
  | .mp k, .mp k' => decide (k = k')
  | .nilm, .nilm => true
  | _, _ => false
theorem CV.beq_ok : ∀ {a b : CV}, CV.beq a b = true → a = b := by
  intro a b h
  cases a <;> cases b <;> first
    | rfl
    | (simp [CV.beq] at h; done)
    | (simp only [CV.beq, Bool.and_eq_true, decide_eq_true_eq] at h; simp_all; done)
    | (simp only [CV.beq, Bool.and_eq_true, decide_eq_true_eq] at h; obtain ⟨⟨rfl, rfl⟩, h⟩ := h; rw [PV.beqL_ok h]; done)
    | (simp only [CV.beq, Bool.and_eq_true, decide_eq_true_eq] at h; obtain ⟨rfl, h⟩ := h; rw [PV.beqL_ok h]; done)
    | (simp only [CV.beq] at h; rw [PV.beq_ok h]; done)
def AV.beq : AV → AV → Bool
  | .c x, .c y => CV.beq x y
  | .agg l, .agg m => listB CV.beq l m
  | _, _ => false
theorem AV.beq_ok : ∀ (a b : AV), AV.beq a b = true → a = b := by
  intro a b h
  cases a <;> cases b <;> first | (simp [AV.beq] at h; done) | (simp only [AV.beq] at h; rw [CV.beq_ok h]; done) | (simp only [AV.beq] at h; rw [listB_ok (fun _ _ => CV.beq_ok) h]; done)
def kvB (a b : PV × PV) : Bool := PV.beq a.1 b.1 && PV.beq a.2 b.2
theorem kvB_ok (a b : PV × PV) (h : kvB a b = true) : a = b := by
  simp only [kvB, Bool.and_eq_true] at h
  exact Prod.ext (PV.beq_ok h.1) (PV.beq_ok h.2)
def Box.beq : Box → Box → Bool
  | .cells l, .cells m => listB CV.beq l m
  | .map l, .map m => listB kvB l m
  | .iter l p, .iter m q => decide (p = q) && l == m
  | .row s l, .row s' m => decide (s = s') && PV.beqL l m
  | .dead, .dead => true
  | _, _ => false
theorem Box.beq_ok (a b : Box) (h : Box.beq a b = true) : a = b := by
  cases a <;> cases b <;> first | rfl | (simp [Box.beq] at h; done) | (simp only [Box.beq] at h; rw [listB_ok (fun _ _ => CV.beq_ok) h]; done) | (simp only [Box.beq] at h; rw [listB_ok kvB_ok h]; done) |
    (simp only [Box.beq, Bool.and_eq_true, decide_eq_true_eq, beq_iff_eq] at h; rw [h.1, h.2]; done) | (simp only [Box.beq, Bool.and_eq_true, decide_eq_true_eq] at h; rw [h.1, PV.beqL_ok h.2])
structure Fact where
  f : Nat
  a : List AV
  b : List Box
  r : AV × List Box
def tabOr : List Fact → Oracle
  | [], _, _, _ => none
  | t :: r, f, a, b => if decide (t.f = f) && listB AV.beq t.a a && listB Box.beq t.b b then some t.r else tabOr r f a b
def Holds (call : Oracle) : List Fact → Prop
  | [] => True
  | t :: r => call t.f t.a t.b = some t.r ∧ Holds call r
theorem Holds.le {call : Oracle} : ∀ {t : List Fact}, Holds call t → Le (tabOr t) call
  | [], _, _, _, _, _, h => by simp [tabOr] at h
  | t :: r, hh, f, a, b, q, h => by
    simp only [tabOr] at h
    split at h
    · rename_i hc
      simp only [Bool.and_eq_true, decide_eq_true_eq] at hc
      cases h
      rw [← hc.1.1, ← listB_ok AV.beq_ok hc.1.2, ← listB_ok Box.beq_ok hc.2]
      exact hh.1
    · exact Holds.le hh.2 f a b q h
section
variable {X : Nat → Option XFunc} {E : Oracle}
theorem Holds.lim : ∀ {t : List Fact}, Holds (ev X E) t → ∃ n, Holds (evF X E n) t
  | [], _ => ⟨0, trivial⟩
  | t :: r, h => by
    obtain ⟨n, hn⟩ := lim_ex h.1
    obtain ⟨m, hm⟩ := Holds.lim h.2
    have up : ∀ {l : List Fact} {n m : Nat}, n ≤ m → Holds (evF X E n) l → Holds (evF X E m) l := by
      intro l
      induction l with
      | nil => intro _ _ _ _; trivial
      | cons t l ih => intro n m hnm h; exact ⟨evF_mono X E hnm _ _ _ _ h.1, ih hnm h.2⟩
    exact ⟨max n m, evF_mono X E (Nat.le_max_left n m) _ _ _ _ hn, up (Nat.le_max_right n m) hm⟩
theorem ev_tab {f n : Nat} {x : XFunc} (hx : X f = some x) {a : List AV} {b : List Box} {r : AV × List Box} {t : List Fact} (h : runF (tabOr t) n x a b = some r) (ht : Holds (ev X E) t) : ev X E f a b = some r := by
  obtain ⟨m, hm⟩ := ht.lim
  refine ev_of (n := max m n + 1) ?_
  show (match X f with | some x => runF (evF X E (max m n)) (max m n) x a b | none => E f a b) = some r
  rw [hx]
  exact runF_mono (fun f a b q h => evF_mono X E (Nat.le_max_left m n) f a b q (hm.le f a b q h)) (Nat.le_max_right m n) x a b r h
end
end Go.Sx
