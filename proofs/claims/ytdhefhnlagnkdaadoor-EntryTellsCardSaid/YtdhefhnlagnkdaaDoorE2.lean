/- Taken back: what reverses a posting. -/
import Derived.Test.YtdhefhnlagnkdaaDoorE1
namespace Go.Sx.Tryd
open Go Go.Sx
abbrev S12a (p r : Post) (id kn i : Int) : St := St.mk (tmOf 196 [(2, AV.c (CV.ptr 0 0)), (5, AV.c (CV.ptr 2 0)), (7, AV.c (CV.pv (PV.int .i64 i)))]) [Box.cells (Post.cs p), Box.cells [CV.pv (PV.int .i64 id), CV.pv (PV.int .i32 kn)], Box.cells (Post.cs r)]
abbrev S12b (p r t : Post) (id kn i : Int) : St := St.mk (tmOf 196 [(2, AV.c (CV.ptr 0 0)), (17, AV.c (CV.ptr 3 0)), (19, AV.c (CV.pv (PV.int .i64 i)))]) [Box.cells (Post.cs p), Box.cells [CV.pv (PV.int .i64 id), CV.pv (PV.int .i32 kn)], Box.cells (Post.cs r), Box.cells (Post.cs t)]
abbrev ask (id kn : Int) : AV := AV.agg [.pv (.int .i64 id), .pv (.int .i32 kn)]
theorem chk_mk {p : Post} (h1 : headed p = true) (h2 : datOk p.known = true) (h3 : datOk p.value = true) (h4 : 2 ≤ p.legs.length) (h5 : p.legs.length ≤ 16) (h6 : p.legs.any accBad = false) (h7 : p.legs.any curBad = false) (h8 : p.legs.any overBad = false) (h9 : p.legs.any zeroBad = false) (h10 : bal p.legs = true) : chk p = 0 := by
  unfold chk
  rw [h1, h2, h3, h6, h7, h8, h9, h10, if_neg (by omega : ¬ p.legs.length < 2), if_neg (by omega : ¬ 16 < p.legs.length)]
  rfl
theorem sumCur_neg (c : Int) : ∀ l : List Leg, sumCur c (l.map neg) = - sumCur c l
  | [] => rfl
  | x :: r => by
    simp only [List.map_cons, sumCur, neg]
    rw [show List.map neg r = r.map neg from rfl, sumCur_neg c r]
    split <;> omega
theorem onW_neg (a c : Int) : ∀ l : List Leg, sumIf (onW a c) (l.map neg) = - sumIf (onW a c) l
  | [] => rfl
  | x :: r => by
    have ih := onW_neg a c r
    simp only [List.map_cons, sumIf]
    rw [ih, show onW a c (neg x) = onW a c x from rfl, show (neg x).minor = -x.minor from rfl]
    by_cases h : onW a c x = true
    · rw [if_pos h, if_pos h]; omega
    · rw [if_neg h, if_neg h]; omega
theorem debs_neg (c : Int) : ∀ l : List Leg, sumIf (debW c) (l.map neg) = - sumIf (credW c) l
  | [] => rfl
  | x :: r => by
    have ih := debs_neg c r
    simp only [List.map_cons, sumIf]
    rw [ih]
    simp only [debW, credW, neg]
    by_cases h : x.minor < 0
    · have h2 : 0 < -x.minor := by omega
      by_cases h1 : x.cur = c
      · simp [h, h1]; omega
      · simp [h1]
    · have h2 : ¬ 0 < -x.minor := by omega
      simp [h, h2]
theorem any_of {α : Type} {w : α → Bool} {l : List α} (h : ∀ x ∈ l, w x = false) : l.any w = false := by
  rw [List.any_eq_false]; intro x hx; rw [h x hx]; simp
theorem chk_neg {p : Post} (hc : chk p = 0) {q : Post} (hh : headed q = true) (hk : datOk q.known = true) (hv : datOk q.value = true) (hl : q.legs = p.legs.map neg) : chk q = 0 := by
  obtain ⟨_, _, _, h4, h5, h6, h7, h8, h9, h10⟩ := chk_inv hc
  refine chk_mk hh hk hv (by rw [hl, List.length_map]; exact h4) (by rw [hl, List.length_map]; exact h5) ?_ ?_ ?_ ?_ ?_
  · refine any_of fun x hx => ?_
    rw [hl] at hx
    obtain ⟨y, hy, rfl⟩ := List.mem_map.1 hx
    exact h6 y hy
  · refine any_of fun x hx => ?_
    rw [hl] at hx
    obtain ⟨y, hy, rfl⟩ := List.mem_map.1 hx
    have := h7 y hy
    simp [curBad, neg, this]
  · refine any_of fun x hx => ?_
    rw [hl] at hx
    obtain ⟨y, hy, rfl⟩ := List.mem_map.1 hx
    have h1 := h7 y hy
    have h2 := h8 y hy
    have h3 : minOk (-y.minor) = true := by simp only [minOk, decide_eq_true_eq] at h2 ⊢; omega
    simp [overBad, neg, h1, h3]
  · refine any_of fun x hx => ?_
    rw [hl] at hx
    obtain ⟨y, hy, rfl⟩ := List.mem_map.1 hx
    have h1 := h9 y hy
    simp only [zeroBad, beq_eq_false_iff_ne, neg] at h1 ⊢
    omega
  · rw [hl]
    have e : ∀ c, 0 ≤ c → c < 4 → sumCur c (p.legs.map neg) = 0 := fun c h0 h1 => by rw [sumCur_neg, bal_inv h10 h0 h1]; rfl
    simp [bal, e 0 (by omega) (by omega), e 1 (by omega) (by omega), e 2 (by omega) (by omega), e 3 (by omega) (by omega)]
end Go.Sx.Tryd
