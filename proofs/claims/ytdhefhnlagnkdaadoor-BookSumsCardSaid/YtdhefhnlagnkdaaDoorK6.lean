/- What is handed in, as data; the statement BookSums, of the evaluator. -/
import Derived.Test.YtdhefhnlagnkdaaDoorK5
import Derived.Test.YtdhefhnlagnkdaaDoorAl
namespace Go.Sx.Tryd
open Go Go.Sx
abbrev ctL : List CT := [.int .i64, .int .i64, .int .i64]
abbrev ctP : List CT := [.int .i64, .int .i32, .int .i32, .sl ctL, .int .i64, .int .i64, .str]
def W64 (n : Int) : Prop := -9223372036854775808 ≤ n ∧ n ≤ 9223372036854775807
def W32 (n : Int) : Prop := -2147483648 ≤ n ∧ n ≤ 2147483647
structure WLeg (x : Leg) : Prop where
  acc : W64 x.acc
  cur : W64 x.cur
  minor : W64 x.minor
structure WPost (p : Post) : Prop where
  id : W64 p.id
  known : W32 p.known
  value : W32 p.value
  rev : W64 p.rev
  kind : W64 p.kind
  memo : p.memo.length ≤ 9223372036854775807
  legs : ∀ x ∈ p.legs, WLeg x
theorem leg_inv {e : PV} (h1 : e.cells.length = 3) (h2 : e = .agg e.cells) (h3 : ∀ (i : Nat) (c : CT) (p : PV), ctL[i]? = some c → e.cells[i]? = some p → WT c p) : ∃ x : Leg, WLeg x ∧ e = x.pv := by
  match hc : e.cells, h1 with
  | [a, b, c], _ =>
    rw [hc] at h2 h3
    obtain ⟨n, n1, n2, rfl⟩ := i64_inv (h3 0 _ a rfl rfl)
    obtain ⟨m, m1, m2, rfl⟩ := i64_inv (h3 1 _ b rfl rfl)
    obtain ⟨k, k1, k2, rfl⟩ := i64_inv (h3 2 _ c rfl rfl)
    exact ⟨⟨n, m, k⟩, ⟨⟨n1, n2⟩, ⟨m1, m2⟩, ⟨k1, k2⟩⟩, h2⟩
theorem legs_inv {x : PV} (h : WT (.sl ctL) x) : ∃ (o : SO) (l : List Leg), x = .sl o 3 (l.map Leg.pv) ∧ ∀ y ∈ l, WLeg y := by
  rcases sl_inv h with rfl | ⟨es, rfl, _, hs, hc⟩
  · exact ⟨.nil, [], rfl, by simp⟩
  · obtain ⟨l, hl, rfl⟩ := list_of (f := Leg.pv) (Q := WLeg) fun e he => leg_inv (hs e he).1 ((hs e he).2.2 (by simp)) (hc e he)
    exact ⟨.shut, l, rfl, hl⟩
theorem cells7 {a b c d e f g : PV} (h : ∀ (i : Nat) (t : CT) (p : PV), ctP[i]? = some t → [a, b, c, d, e, f, g][i]? = some p → WT t p) : ∃ p : Post, WPost p ∧ [a, b, c, d, e, f, g] = p.pv.cells := by
  obtain ⟨n0, a0, b0, rfl⟩ := i64_inv (h 0 _ a rfl rfl)
  obtain ⟨n1, a1, b1, rfl⟩ := i32_inv (h 1 _ b rfl rfl)
  obtain ⟨n2, a2, b2, rfl⟩ := i32_inv (h 2 _ c rfl rfl)
  obtain ⟨o, l, rfl, hl⟩ := legs_inv (h 3 _ d rfl rfl)
  obtain ⟨n4, a4, b4, rfl⟩ := i64_inv (h 4 _ e rfl rfl)
  obtain ⟨n5, a5, b5, rfl⟩ := i64_inv (h 5 _ f rfl rfl)
  obtain ⟨s, rfl, hs⟩ := str_inv (h 6 _ g rfl rfl)
  exact ⟨⟨n0, n1, n2, o, l, n4, n5, s⟩, ⟨⟨a0, b0⟩, ⟨a1, b1⟩, ⟨a2, b2⟩, ⟨a4, b4⟩, ⟨a5, b5⟩, hs, hl⟩, rfl⟩
theorem post_inv {e : PV} (h1 : e.cells.length = 7) (h2 : e = .agg e.cells) (h3 : ∀ (i : Nat) (c : CT) (p : PV), ctP[i]? = some c → e.cells[i]? = some p → WT c p) : ∃ p : Post, WPost p ∧ e = p.pv := by
  match hc : e.cells, h1 with
  | [a, b, c, d, e', f, g], _ =>
    rw [hc] at h2 h3
    obtain ⟨p, hp, he⟩ := cells7 h3
    exact ⟨p, hp, by rw [h2, he]; rfl⟩
theorem posts_inv {x : PV} (h : WT (.sl ctP) x) : ∃ (o : SO) (l : List Post), x = .sl o 7 (l.map Post.pv) ∧ ∀ p ∈ l, WPost p := by
  rcases sl_inv h with rfl | ⟨es, rfl, _, hs, hc⟩
  · exact ⟨.nil, [], rfl, by simp⟩
  · obtain ⟨l, hl, rfl⟩ := list_of (f := Post.pv) (Q := WPost) fun e he => post_inv (hs e he).1 ((hs e he).2.2 (by simp)) (hc e he)
    exact ⟨.shut, l, rfl, hl⟩
theorem alive : cc (ev X E0) 17 [] [] = some (.b true, []) := by
  show (ev X E0 17 [] []).bind canon = _
  rw [Calive20.alive20]
  rfl
theorem fits_fair {l : List Post} (h : fitsAll l = true) : l.length ≤ 60 ∧ ∀ p ∈ l, fits p = true ∧ Fair p := by
  simp only [fitsAll, Bool.and_eq_true, decide_eq_true_eq, List.all_eq_true] at h
  refine ⟨h.1, fun p hp => ⟨h.2 p hp, ?_⟩⟩
  have := h.2 p hp
  simp only [fits, decide_eq_true_eq] at this
  exact ⟨by omega, by omega⟩
/-- The document's order: the first one that is wrong. -/
def why (p : Post) (w : Int) : Int := if chk p = 0 then w else chk p
theorem why_err (l : List Post) : l.foldr why 0 = errOf l := by
  induction l with
  | nil => rfl
  | cons p r ih =>
    simp only [List.foldr_cons, why, errOf, List.find?_cons, bad]
    by_cases h : chk p = 0
    · rw [if_pos h, ih]; simp [h, errOf]
    · rw [if_neg h]
      have : (!(chk p == 0)) = true := by simpa using h
      rw [this]; rfl
theorem a4 {l : List Post} {o : SO} {acc cur v n e : Int} (hl : l.length ≤ 400) (hf : ∀ p ∈ l, Fair p) : lv (cv (ev X E0) xf4_l0) (rl [0, 0, 0, 0, 5, 0, 0, 0]) 0 (S4 l o acc cur v n e (IntKind.wrap .i64 ((↑(List.length (List.map Post.pv l)) : Int) - 1)) 0) = some (XExit.exit 0, St.mk (tmOf 79 [(0, AV.c (CV.pv (PV.sl o 7 (List.map Post.pv l)))), (1, AV.c (CV.pv (PV.int .i64 acc))), (2, AV.c (CV.pv (PV.int .i64 cur))), (3, AV.c (CV.pv (PV.int .i32 v))), (9, AV.c (CV.pv (PV.int .i64 n))), (10, AV.c (CV.pv (PV.int .i64 e))), (11, AV.c (CV.pv (PV.int .i64 (errOf l))))]) []) := by
  rw [List.length_map, wi64 (by omega) (by omega)]
  refine lv_foldr (l := l) why 0 (fun i w => S4 l o acc cur v n e i w) (by rw [why_err]; exact l4_3 l o acc cur v n e _ (-1) (by omega)) fun i y w hat hlt hw => ?_
  have hy := hf y (List.mem_of_getElem? hat)
  simp only [why]
  by_cases h : chk y = 0
  · have := l4_2 l o acc cur v n e w i y (by omega) (by omega) (by simpa using hat) hy.1 hy.2 h
    rw [wi64 (by omega) (by omega)] at this
    rw [if_pos h]; exact this
  · have := l4_1 l o acc cur v n e w i y (by omega) (by omega) (by simpa using hat) hy.1 hy.2 h
    rw [wi64 (by omega) (by omega)] at this
    rw [if_neg h]; exact this
theorem errOf_inv {l : List Post} (h : errOf l = 0) : l.find? bad = none ∧ ∀ p ∈ l, chk p = 0 := by
  have hn : l.find? bad = none := by
    cases hf : l.find? bad with
    | none => rfl
    | some p =>
      have := List.find?_some hf
      simp only [errOf, hf, Option.elim] at h
      simp [bad, h] at this
  exact ⟨hn, fun p hp => by have := find_none hn p hp; simpa [bad] using this⟩
theorem f4f_1 (l : List Post) (o : SO) (acc : Int) (cur : Int) (v : Int) (h15 : cc (ev X E0) 15 [AV.sl o 7 (List.map Post.pv l)] [] = some (AV.b false, [])) (h17 : cc (ev X E0) (17 : Nat) [] [] = some (AV.b true, [])) :
    cc (ev X E0) 4 [AV.c (CV.pv (PV.sl o 7 (List.map Post.pv l))), AV.c (CV.pv (PV.int .i64 acc)), AV.c (CV.pv (PV.int .i64 cur)), AV.c (CV.pv (PV.int .i32 v))] [] = some (AV.c (CV.pv (PV.bool true)), []) :=
  cc_path (x := xf4) rfl [It.call (AV.c (CV.pv (PV.bool false))) [], It.br true, It.call (AV.c (CV.pv (PV.bool true))) []]
    (c := [cc (ev X E0) 15 [AV.c (CV.pv (PV.sl o 7 (List.map Post.pv l)))] [] = some (AV.c (CV.pv (PV.bool false)), []), true = true, cc (ev X E0) (17 : Nat) [] [] = some (AV.c (CV.pv (PV.bool true)), [])]) (by kernel_rfl)
    ⟨(h15), rfl, (h17), trivial⟩
theorem BookSums0 (l : List Post) (o : SO) (acc cur v : Int) : cc (ev X E0) 4 [AV.sl o 7 (l.map Post.pv), AV.i acc, AV.i cur, AV.int .i32 v] [] = some (.b true, []) := by
  have h15 := s15 l o
  cases hb : fitsAll l with
  | false =>
    rw [hb] at h15
    exact f4f_1 l o acc cur v h15 alive
  | true =>
    rw [hb] at h15
    obtain ⟨hl, hfa⟩ := fits_fair hb
    have hf : ∀ p ∈ l, Fair p := fun p hp => (hfa p hp).2
    have len : (((l.map Post.pv).length : Nat) : Int) = l.length := by rw [List.length_map]
    have a := a33 (o := o) (acc := acc) (cur := cur) (v := v) (by omega) hf
    by_cases he : errOf l = 0
    · obtain ⟨hn, hc⟩ := errOf_inv he
      rw [hn] at a
      have b := b33 (o := o) (acc := acc) (cur := cur) (v := v) (by omega) hf hc
      have h35 := f35_1 l o acc cur v _ (a35 (by omega) hc)
      have aw := fun n e => a4 (o := o) (acc := acc) (cur := cur) (v := v) (n := n) (e := e) (by omega) hf
      rw [he] at aw
      by_cases c1 : cur < 0
      · have h33 := f33_2 l o acc cur v _ a b (by rw [len]; omega) c1
        exact f4_2 l o acc cur v _ _ _ _ _ h15 alive h33 (aw _ _) (fun _ => h35) rfl rfl c1 rfl
      · by_cases c2 : cur ≥ 4
        · have h33 := f33_3 l o acc cur v _ a b (by rw [len]; omega) c1 c2
          exact f4_4 l o acc cur v _ _ _ _ _ h15 alive h33 (aw _ _) (fun _ => h35) rfl rfl c1 (by omega) rfl
        · have h33 := f33_4 l o acc cur v _ a b (by rw [len]; omega) c1 c2
          have := f4_6 l o acc cur v _ _ _ _ _ h15 alive h33 (aw _ _) (fun _ => h35) rfl rfl c1 (by omega) rfl
          simpa using this
    · cases hp : l.find? bad with
      | none => exact absurd (by rw [errOf, hp]; rfl) he
      | some p =>
        rw [hp] at a
        have h33 := f33r_2 l o acc cur v p a (by rw [len]; omega)
        have aw := a4 (o := o) (acc := acc) (cur := cur) (v := v) (n := 0) (e := chk p) (by omega) hf
        have ep : errOf l = chk p := by rw [errOf, hp]; rfl
        have := f4_8 l o acc cur v _ _ _ 0 _ h15 alive h33 aw (fun h => absurd h he) rfl he ep.symm
        simpa using this
theorem BookSums (x0 : PV) (t0 : WT (.sl ctP) x0) (x1 : PV) (t1 : WT (.int .i64) x1) (x2 : PV) (t2 : WT (.int .i64) x2) (x3 : PV) (t3 : WT (.int .i32) x3) : ev X E0 4 [.c (.pv x0), .c (.pv x1), .c (.pv x2), .c (.pv x3)] [] = some (.b true, []) := by
  obtain ⟨o, l, rfl, _⟩ := posts_inv t0
  obtain ⟨acc, _, _, rfl⟩ := i64_inv t1
  obtain ⟨cur, _, _, rfl⟩ := i64_inv t2
  obtain ⟨v, _, _, rfl⟩ := i32_inv t3
  exact ev_cc (BookSums0 l o acc cur v)
end Go.Sx.Tryd
