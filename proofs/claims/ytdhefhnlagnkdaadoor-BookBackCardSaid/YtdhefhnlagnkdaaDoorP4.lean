/- What stands is what the book comes to. -/
import Derived.Test.YtdhefhnlagnkdaaDoorM1
import Derived.Test.YtdhefhnlagnkdaaDoorP1
import Derived.Test.YtdhefhnlagnkdaaDoorN5
namespace Go.Sx.Tryd
open Go Go.Sx
theorem right_split {l : List Post} (h : rightB l = true) {i : Nat} {p : Post} (hi : l[i]? = some p) : rightB (l.take i) = true ∧ fullE (l.take i) p = 0 := by
  have hlt : i < l.length := (List.getElem?_eq_some_iff.1 hi).1
  have h1 := right_take h (i + 1)
  have e : l.take (i + 1) = l.take i ++ [p] := by
    rw [List.take_add_one, hi]; rfl
  rw [e, rightB_snoc] at h1
  simp only [Bool.and_eq_true, beq_iff_eq] at h1
  exact h1
theorem right_id {l : List Post} (h : rightB l = true) {i : Nat} {p : Post} (hi : l[i]? = some p) : p.id = (i : Int) + 1 := by
  have hlt : i < l.length := (List.getElem?_eq_some_iff.1 hi).1
  have := (fullE_known (right_split h hi).2).2.1
  rw [List.length_take] at this
  omega
theorem right_mem {l : List Post} (h : rightB l = true) {p : Post} (hp : p ∈ l) : 1 ≤ p.id ∧ p.id ≤ l.length ∧ 0 ≤ p.rev ∧ p.rev < p.id ∧ chk p = 0 := by
  obtain ⟨i, hi⟩ := List.mem_iff_getElem?.1 hp
  have hlt : i < l.length := (List.getElem?_eq_some_iff.1 hi).1
  have h1 := right_id h hi
  have hc := (fullE_known (right_split h hi).2).1
  have := chk_rev hc
  exact ⟨by omega, by omega, this.1, this.2.1, hc⟩
def valP (acc cur v : Int) (p : Post) : Int := if p.value ≤ v then sumIf (onW acc cur) p.legs else 0
theorem sumBook_app (acc cur v : Int) (a b : List Post) : sumBook acc cur v (a ++ b) = sumBook acc cur v a + sumBook acc cur v b := by
  induction a with
  | nil => simp [sumBook]
  | cons x a ih => simp only [List.cons_append, sumBook, ih]; omega
theorem sumBook_one (acc cur v : Int) (p : Post) : sumBook acc cur v [p] = valP acc cur v p := by simp [sumBook, valP]
theorem sum_split (acc cur v k : Int) (w : Post → Bool) : ∀ l : List Post, sumBook acc cur v (l.filter w) = sumBook acc cur v (l.filter fun q => w q && !(k == q.id)) + sumBook acc cur v (l.filter fun q => w q && (k == q.id))
  | [] => rfl
  | x :: l => by
    have ih := sum_split acc cur v k w l
    cases hw : w x with
    | false =>
      rw [List.filter_cons_of_neg (by simp [hw]), List.filter_cons_of_neg (by simp [hw]), List.filter_cons_of_neg (by simp [hw])]
      exact ih
    | true =>
      cases hk : (k == x.id) with
      | true =>
        rw [List.filter_cons_of_pos (by simp [hw]), List.filter_cons_of_neg (by simp [hw, hk]), List.filter_cons_of_pos (by simp [hw, hk])]
        simp only [sumBook]; omega
      | false =>
        rw [List.filter_cons_of_pos (by simp [hw]), List.filter_cons_of_pos (by simp [hw, hk]), List.filter_cons_of_neg (by simp [hw, hk])]
        simp only [sumBook]; omega
theorem only_one {l : List Post} (h : rightB l = true) {i : Nat} {p : Post} (hi : l[i]? = some p) (w : Post → Bool) (hw : w p = true) : (l.filter fun q => w q && (p.id == q.id)) = [p] := by
  have hlt : i < l.length := (List.getElem?_eq_some_iff.1 hi).1
  have e : l = l.take i ++ p :: l.drop (i + 1) := by
    have h1 : l.drop i = p :: l.drop (i + 1) := by
      rw [List.drop_eq_getElem_cons hlt]; congr 1; exact (List.getElem?_eq_some_iff.1 hi).2
    rw [← h1, List.take_append_drop]
  have hp := right_id h hi
  rw [e, List.filter_append, List.filter_cons_of_pos (by simp [hw])]
  rw [List.filter_eq_nil_iff.2, List.filter_eq_nil_iff.2]
  · rfl
  · intro q hq
    obtain ⟨j, hj⟩ := List.mem_iff_getElem?.1 hq
    rw [List.getElem?_drop] at hj
    have := right_id h hj
    simp only [Bool.and_eq_true, beq_iff_eq, not_and]
    intro _; omega
  · intro q hq
    obtain ⟨j, hj⟩ := List.mem_iff_getElem?.1 hq
    have hjl : j < (l.take i).length := (List.getElem?_eq_some_iff.1 hj).1
    rw [List.getElem?_take_of_lt (by rw [List.length_take] at hjl; omega)] at hj
    have := right_id h hj
    rw [List.length_take] at hjl
    simp only [Bool.and_eq_true, beq_iff_eq, not_and]
    intro _; omega
theorem onW_neg' (a c : Int) : ∀ l : List Leg, sumIf (onW a c) (l.map neg) = - sumIf (onW a c) l
  | [] => rfl
  | x :: r => by
    have ih := onW_neg' a c r
    simp only [List.map_cons, sumIf]
    rw [ih, show onW a c (neg x) = onW a c x from rfl, show (neg x).minor = -x.minor from rfl]
    by_cases h : onW a c x = true
    · rw [if_pos h, if_pos h]; omega
    · rw [if_neg h, if_neg h]; omega
theorem same_inv {p q : Post} (h : same p q = true) : p.legs = q.legs ∧ p.id = q.id ∧ p.known = q.known ∧ p.value = q.value ∧ p.rev = q.rev := by
  simp only [same, legsEq, Bool.and_eq_true, decide_eq_true_eq, Bool.not_eq_true'] at h
  exact ⟨(zip_any h.1.1).1 h.1.2, h.2.1, h.2.2.1, h.2.2.2.1, h.2.2.2.2.1⟩
theorem rev_inv {l : List Post} (h : rightB l = true) {p : Post} (hf : fullE l p = 0) (hr : p.rev ≠ 0) : ∃ (k : Nat) (old : Post), l[k]? = some old ∧ p.rev = old.id ∧ old.rev = 0 ∧ (l.any fun q => q.rev == p.rev) = false ∧ p.legs = old.legs.map neg ∧ p.value = old.value := by
  obtain ⟨hc, hid, _⟩ := fullE_known hf
  have hb := chk_rev hc
  unfold fullE at hf
  rw [if_pos hc] at hf
  unfold nextE at hf
  by_cases c1 : l.length = 400
  · rw [if_pos c1] at hf; cases hf
  rw [if_neg c1] at hf
  rw [if_neg (by omega)] at hf
  by_cases c2 : lastKn l p.known = true
  · rw [if_pos c2] at hf; cases hf
  rw [if_neg c2, if_neg hr] at hf
  have hlt : (p.rev - 1).toNat < l.length := by omega
  refine ⟨(p.rev - 1).toNat, l[(p.rev - 1).toNat], List.getElem?_eq_getElem hlt, ?_⟩
  rw [List.getElem?_eq_getElem hlt] at hf
  simp only [Option.elim_some] at hf
  have hoi := right_id h (List.getElem?_eq_getElem hlt)
  generalize l[(p.rev - 1).toNat] = old at hf hoi
  unfold oldE at hf
  by_cases d1 : old.rev > 0
  · rw [if_pos d1] at hf; cases hf
  rw [if_neg d1] at hf
  by_cases d2 : (l.any fun q => q.rev == p.rev) = true
  · rw [if_pos d2] at hf; cases hf
  rw [if_neg d2] at hf
  by_cases d3 : revE old p.id p.known = 0 ∧ same (rvp old p.id p.known) p = true
  · obtain ⟨e1, e2, e3, e4, e5⟩ := same_inv d3.2
    have hco : chk old = 0 := by
      have := d3.1
      unfold revE at this
      by_cases c : chk old = 0
      · exact c
      · rw [if_neg c] at this; exact absurd this c
    have := chk_rev hco
    exact ⟨by omega, by omega, by simpa using d2, e1.symm, e4.symm⟩
  · rw [if_neg d3] at hf; cases hf
theorem snoc_ind {α : Type} {P : List α → Prop} (h0 : P []) (h1 : ∀ l x, P l → P (l ++ [x])) (l : List α) : P l := by
  have key : ∀ n : Nat, ∀ l : List α, l.length = n → P l := by
    intro n
    induction n with
    | zero => intro l hl; rw [List.length_eq_zero_iff.1 hl]; exact h0
    | succ n ih =>
      intro l hl
      have hne : l ≠ [] := fun e => by rw [e] at hl; simp at hl
      rw [← List.dropLast_concat_getLast hne]
      exact h1 _ _ (ih _ (by rw [List.length_dropLast]; omega))
  exact key _ l rfl
theorem stand_sum (acc cur v : Int) (b : List Post) : rightB b = true → sumBook acc cur v (b.filter (stands b)) = sumBook acc cur v b := by
  refine snoc_ind (P := fun b => rightB b = true → sumBook acc cur v (b.filter (stands b)) = sumBook acc cur v b) (fun _ => rfl) (fun l p ih h => ?_) b
  rw [rightB_snoc] at h
  simp only [Bool.and_eq_true, beq_iff_eq] at h
  obtain ⟨hl, hf⟩ := h
  have ih := ih hl
  obtain ⟨hc, hid, _⟩ := fullE_known hf
  rw [List.filter_append, sumBook_app, sumBook_app, sumBook_one]
  by_cases hr : p.rev = 0
  · have e1 : l.filter (stands (l ++ [p])) = l.filter (stands l) := List.filter_congr fun q hq => by
      have hm := right_mem hl hq
      unfold stands
      rw [List.any_append]
      have : ([p].any fun q' => q'.rev == q.id) = false := by simp [hr]; omega
      rw [this, Bool.or_false]
    have e2 : stands (l ++ [p]) p = true := by
      unfold stands
      have a1 : (l.any fun q => q.rev == p.id) = false := by
        rw [List.any_eq_false]; intro q hq
        have := right_mem hl hq
        simp; omega
      rw [List.any_append, a1]
      simp [hr]; omega
    rw [e1, List.filter_cons_of_pos e2, List.filter_nil, sumBook_one, ih]
  · obtain ⟨k, old, hk, ho, horev, hany, hlegs, hval⟩ := rev_inv hl hf hr
    have e2 : stands (l ++ [p]) p = false := by
      unfold stands
      rw [show (p.rev == 0) = false by simpa using hr, Bool.false_and]
    have e1 : l.filter (stands (l ++ [p])) = l.filter (fun q => stands l q && !(old.id == q.id)) := List.filter_congr fun q hq => by
      unfold stands
      rw [List.any_append, List.any_cons, List.any_nil, Bool.or_false, ho]
      cases (q.rev == 0) <;> cases (l.any fun q' => q'.rev == q.id) <;> cases (old.id == q.id) <;> rfl
    have hst : stands l old = true := by
      unfold stands
      rw [ho] at hany
      rw [horev, hany]; rfl
    have hs := sum_split acc cur v old.id (stands l) l
    rw [only_one hl hk (stands l) hst, sumBook_one, ih] at hs
    rw [e1, List.filter_cons_of_neg (by rw [e2]; simp), List.filter_nil, hs]
    have hv : valP acc cur v p = - valP acc cur v old := by
      unfold valP
      rw [hlegs, hval, onW_neg']
      split <;> omega
    rw [hv]
    simp [sumBook]
    omega
end Go.Sx.Tryd
