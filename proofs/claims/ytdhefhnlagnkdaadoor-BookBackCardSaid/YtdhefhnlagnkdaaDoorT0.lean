/- What is handed in, as data; live questions. -/
import Derived.Test.YtdhefhnlagnkdaaDoorK5a
import Derived.Test.YtdhefhnlagnkdaaDoorAl
namespace Go.Sx.Tryd
open Go Go.Sx
abbrev ctL : List CT := [.int .i64, .int .i64, .int .i64]
abbrev ctP : List CT := [.int .i64, .int .i32, .int .i32, .sl ctL, .int .i64, .int .i64, .str]
def W64 (n : Int) : Prop := -9223372036854775808 ≤ n ∧ n ≤ 9223372036854775807
def W32 (n : Int) : Prop := -2147483648 ≤ n ∧ n ≤ 2147483647
structure WLeg (x : Leg) : Prop where
  acc : W64 x.acc
  cur : W64 x.cur
  minor : W64 x.minor
structure WPost (p : Post) : Prop where
  so : p.so = .nil → p.legs = []
  id : W64 p.id
  known : W32 p.known
  value : W32 p.value
  rev : W64 p.rev
  kind : W64 p.kind
  memo : p.memo.length ≤ 9223372036854775807
  legs : ∀ x ∈ p.legs, WLeg x
theorem leg_inv {e : PV} (h1 : e.cells.length = 3) (h2 : e = .agg e.cells) (h3 : ∀ (i : Nat) (c : CT) (p : PV), ctL[i]? = some c → e.cells[i]? = some p → WT c p) : ∃ x : Leg, WLeg x ∧ e = x.pv := by
  match hc : e.cells, h1 with
  | [a, b, c], _ =>
    rw [hc] at h2 h3
    obtain ⟨n, n1, n2, rfl⟩ := i64_inv (h3 0 _ a rfl rfl)
    obtain ⟨m, m1, m2, rfl⟩ := i64_inv (h3 1 _ b rfl rfl)
    obtain ⟨k, k1, k2, rfl⟩ := i64_inv (h3 2 _ c rfl rfl)
    exact ⟨⟨n, m, k⟩, ⟨⟨n1, n2⟩, ⟨m1, m2⟩, ⟨k1, k2⟩⟩, h2⟩
theorem legs_inv {x : PV} (h : WT (.sl ctL) x) : ∃ (o : SO) (l : List Leg), x = .sl o 3 (l.map Leg.pv) ∧ (∀ y ∈ l, WLeg y) ∧ (o = .nil → l = []) := by
  rcases sl_inv h with rfl | ⟨es, rfl, _, hs, hc⟩
  · exact ⟨.nil, [], rfl, by simp, fun _ => rfl⟩
  · obtain ⟨l, hl, rfl⟩ := list_of (f := Leg.pv) (Q := WLeg) fun e he => leg_inv (hs e he).1 ((hs e he).2.2 (by simp)) (hc e he)
    exact ⟨.shut, l, rfl, hl, fun h => by cases h⟩
theorem cells7 {a b c d e f g : PV} (h : ∀ (i : Nat) (t : CT) (p : PV), ctP[i]? = some t → [a, b, c, d, e, f, g][i]? = some p → WT t p) : ∃ p : Post, WPost p ∧ [a, b, c, d, e, f, g] = p.pv.cells := by
  obtain ⟨n0, a0, b0, rfl⟩ := i64_inv (h 0 _ a rfl rfl)
  obtain ⟨n1, a1, b1, rfl⟩ := i32_inv (h 1 _ b rfl rfl)
  obtain ⟨n2, a2, b2, rfl⟩ := i32_inv (h 2 _ c rfl rfl)
  obtain ⟨o, l, rfl, hl, ho⟩ := legs_inv (h 3 _ d rfl rfl)
  obtain ⟨n4, a4, b4, rfl⟩ := i64_inv (h 4 _ e rfl rfl)
  obtain ⟨n5, a5, b5, rfl⟩ := i64_inv (h 5 _ f rfl rfl)
  obtain ⟨s, rfl, hs⟩ := str_inv (h 6 _ g rfl rfl)
  exact ⟨⟨n0, n1, n2, o, l, n4, n5, s⟩, ⟨ho, ⟨a0, b0⟩, ⟨a1, b1⟩, ⟨a2, b2⟩, ⟨a4, b4⟩, ⟨a5, b5⟩, hs, hl⟩, rfl⟩
theorem post_inv {e : PV} (h1 : e.cells.length = 7) (h2 : e = .agg e.cells) (h3 : ∀ (i : Nat) (c : CT) (p : PV), ctP[i]? = some c → e.cells[i]? = some p → WT c p) : ∃ p : Post, WPost p ∧ e = p.pv := by
  match hc : e.cells, h1 with
  | [a, b, c, d, e', f, g], _ =>
    rw [hc] at h2 h3
    obtain ⟨p, hp, he⟩ := cells7 h3
    exact ⟨p, hp, by rw [h2, he]; rfl⟩
theorem posts_inv {x : PV} (h : WT (.sl ctP) x) : ∃ (o : SO) (l : List Post), x = .sl o 7 (l.map Post.pv) ∧ (∀ p ∈ l, WPost p) ∧ (o = .nil → l = []) := by
  rcases sl_inv h with rfl | ⟨es, rfl, _, hs, hc⟩
  · exact ⟨.nil, [], rfl, by simp, fun _ => rfl⟩
  · obtain ⟨l, hl, rfl⟩ := list_of (f := Post.pv) (Q := WPost) fun e he => post_inv (hs e he).1 ((hs e he).2.2 (by simp)) (hc e he)
    exact ⟨.shut, l, rfl, hl, fun h => by cases h⟩
theorem alive : cc (ev X E0) 17 [] [] = some (.b true, []) := by
  show (ev X E0 17 [] []).bind canon = _
  rw [Calive20.alive20]
  rfl
theorem fits_fair {l : List Post} (h : fitsAll l = true) : l.length ≤ 60 ∧ ∀ p ∈ l, fits p = true ∧ Fair p := by
  simp only [fitsAll, Bool.and_eq_true, decide_eq_true_eq, List.all_eq_true] at h
  refine ⟨h.1, fun p hp => ⟨h.2 p hp, ?_⟩⟩
  have := h.2 p hp
  simp only [fits, decide_eq_true_eq] at this
  exact ⟨by omega, by omega⟩
end Go.Sx.Tryd
