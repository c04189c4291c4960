/- Whether postings are gone through. -/
import Derived.Test.YtplknajjcllmkaaDoorK1
import Derived.Test.YtplknajjcllmkaaDoorSxLem
import Derived.Test.YtplknajjcllmkaaDoorSxTab
import Derived.Test.YtplknajjcllmkaaDoorN6
namespace Go.Sx.Tryd
open Go Go.Sx
abbrev S15 (l : List Post) (o : SO) (i : Int) : St := St.mk (tmOf 18 [(8, AV.c (CV.pv (PV.sl o 7 (List.map Post.pv l)))), (9, AV.c (CV.pv (PV.int .i64 (↑(List.length (List.map Post.pv l)) : Int)))), (10, AV.c (CV.pv (PV.int .i64 i)))]) []
theorem l15_1 (l : List Post) (o : SO) (i : Nat) (y1 : Post) (g1 : (↑i : Int) < (↑(List.length (List.map Post.pv l)) : Int)) (g2 : l[i]? = some y1) (g3 : fits y1 = false) :
    lv (cv (ev X E0) xf12_l0) (rl [8, 0, 0]) 0 (S15 l o (↑i : Int)) = some (XExit.ret, St.mk (tmOf 18 [(2, AV.b false)]) [.cells (Post.cs y1)]) :=
  lv_ret [.br true, .el (Post.pv y1), .call (AV.c (.pv (.bool (fits y1)))) [], .br true]
    (c := [decide ((↑i : Int) < (↑(List.length (List.map Post.pv l)) : Int)) = true, 0 ≤ (↑i : Int), (List.map Post.pv l)[i]? = some (Post.pv y1), cc (ev X E0) 52 [AV.agg (Post.cs y1)] [] = some (AV.c (.pv (.bool (fits y1))), []), (!fits y1) = true]) (by kernel_rfl)
    ⟨(dT g1), (Int.natCast_nonneg _), (map_at g2), (s16 _), (not_t g3), trivial⟩
theorem l15_2 (l : List Post) (o : SO) (i : Nat) (y1 : Post) (g1 : (↑i : Int) < (↑(List.length (List.map Post.pv l)) : Int)) (g2 : l[i]? = some y1) (g3 : fits y1 = true) :
    lv (cv (ev X E0) xf12_l0) (rl [8, 0, 0]) 0 (S15 l o (↑i : Int)) = lv (cv (ev X E0) xf12_l0) (rl [8, 0, 0]) 0 (St.mk (tmOf 18 [(8, AV.c (.pv (.sl o 7 (List.map Post.pv l)))), (9, AV.c (vi (↑(List.length (List.map Post.pv l)) : Int))), (10, AV.c (vi (IntKind.wrap .i64 ((↑i : Int) + 1))))]) []) :=
  lv_next [.br true, .el (Post.pv y1), .call (AV.c (.pv (.bool (fits y1)))) [], .br false]
    (c := [decide ((↑i : Int) < (↑(List.length (List.map Post.pv l)) : Int)) = true, 0 ≤ (↑i : Int), (List.map Post.pv l)[i]? = some (Post.pv y1), cc (ev X E0) 52 [AV.agg (Post.cs y1)] [] = some (AV.c (.pv (.bool (fits y1))), []), (!fits y1) = false]) (by kernel_rfl)
    ⟨(dT g1), (Int.natCast_nonneg _), (map_at g2), (s16 _), (not_f g3), trivial⟩
theorem l15_3 (l : List Post) (o : SO) (i : Nat) (g1 : ¬(↑i : Int) < (↑(List.length (List.map Post.pv l)) : Int)) :
    lv (cv (ev X E0) xf12_l0) (rl [8, 0, 0]) 0 (S15 l o (↑i : Int)) = some (XExit.exit 0, St.mk (tmOf 18 []) []) :=
  lv_exit [.br false]
    (c := [decide ((↑i : Int) < (↑(List.length (List.map Post.pv l)) : Int)) = false]) (by kernel_rfl)
    ⟨(dF g1), trivial⟩
def Fair (p : Post) : Prop := p.memo.length ≤ 1000000 ∧ p.legs.length ≤ 4000000000000000000
theorem lt_lenP {l : List Post} {i : Nat} (h : i < l.length) : (i : Int) < (((l.map Post.pv).length : Nat) : Int) := by rw [List.length_map]; omega
theorem a15 {l : List Post} {o : SO} (hl : l.length ≤ 100) : lv (cv (ev X E0) xf12_l0) (rl [8, 0, 0]) 0 (S15 l o 0) = some ((l.find? (fun p => !fits p)).elim (XExit.exit 0, St.mk (tmOf 18 []) []) (fun p => (XExit.ret, St.mk (tmOf 18 [(2, AV.c (CV.pv (PV.bool false)))]) [Box.cells (Post.cs p)]))) := by
  refine lv_find (S15 l o) (l15_3 l o l.length (by simp)) (fun i y hat hlt hw => ?_) fun i y hat hlt hw => ?_
  · exact l15_1 l o i y (lt_lenP hlt) hat (by simpa using hw)
  · have := l15_2 l o i y (lt_lenP hlt) hat (by simpa using hw)
    rwa [wi64 (by omega) (by omega)] at this
def fitsAll (l : List Post) : Bool := decide (l.length ≤ 60) && l.all fits
theorem f15h_1 (l : List Post) (o : SO) (g1 : (↑(List.length (List.map Post.pv l)) : Int) > 60) :
    cc (ev X E0) 12 [AV.c (.pv (.sl o 7 (List.map Post.pv l)))] [] = some (AV.b false, []) :=
  cc_path (x := xf12) rfl [.br true]
    (c := [decide ((↑(List.length (List.map Post.pv l)) : Int) > 60) = true]) (by kernel_rfl)
    ⟨(dT g1), trivial⟩
theorem f15_2 (l : List Post) (o : SO) (h : lv (cv (ev X E0) xf12_l0) (rl [8, 0, 0]) 0 (S15 l o 0) = some (XExit.exit 0, St.mk (tmOf 18 []) [])) (g1 : ¬(↑(List.length (List.map Post.pv l)) : Int) > 60) :
    cc (ev X E0) 12 [AV.c (.pv (.sl o 7 (List.map Post.pv l)))] [] = some (AV.b true, []) :=
  cc_path (x := xf12) rfl [.br false, .loop (XExit.exit (0 : Nat)) (St.mk (tmOf (18 : Nat) []) [])]
    (c := rq [(1, decide ((↑(List.length (List.map Post.pv l)) : Int) > 60) = false), ty h]) (by kernel_rfl)
    (aq ⟨(dF g1), h, trivial⟩)
theorem f15r_2 (l : List Post) (o : SO) (p : Post) (h : lv (cv (ev X E0) xf12_l0) (rl [8, 0, 0]) 0 (S15 l o 0) = some (XExit.ret, St.mk (tmOf 18 [(2, AV.b false)]) [.cells (Post.cs p)])) (g1 : ¬(↑(List.length (List.map Post.pv l)) : Int) > 60) :
    cc (ev X E0) 12 [AV.c (.pv (.sl o 7 (List.map Post.pv l)))] [] = some (AV.b false, []) :=
  cc_path (x := xf12) rfl [.br false, .loop XExit.ret (St.mk (tmOf 18 [(2, AV.b false)]) [.cells (Post.cs p)])]
    (c := rq [(1, decide ((↑(List.length (List.map Post.pv l)) : Int) > 60) = false), ty h]) (by kernel_rfl)
    (aq ⟨(dF g1), h, trivial⟩)
theorem find_none {α : Type} {w : α → Bool} {l : List α} (h : l.find? w = none) : ∀ x ∈ l, w x = false := by
  intro x hx
  have := List.find?_eq_none.1 h x hx
  simpa using this
theorem s15 (l : List Post) (o : SO) : cc (ev X E0) 12 [AV.sl o 7 (l.map Post.pv)] [] = some (.b (fitsAll l), []) := by
  have len : (((l.map Post.pv).length : Nat) : Int) = l.length := by rw [List.length_map]
  by_cases hl : l.length ≤ 60
  · have a := a15 (o := o) (l := l) (by omega)
    cases hf : l.find? (fun p => !fits p) with
    | none =>
      rw [hf] at a
      rw [f15_2 l o a (by rw [len]; omega), fitsAll, decide_eq_true hl, Bool.true_and]
      congr 5; symm
      rw [List.all_eq_true]
      exact fun p hp => by have := find_none hf p hp; simpa using this
    | some p =>
      rw [hf] at a
      rw [f15r_2 l o p a (by rw [len]; omega), fitsAll, decide_eq_true hl, Bool.true_and]
      congr 5; symm
      rw [List.all_eq_false]
      exact ⟨p, List.mem_of_find?_eq_some hf, by have := List.find?_some hf; simpa using this⟩
  · rw [f15h_1 l o (by rw [len]; omega), fitsAll, decide_eq_false hl, Bool.false_and]
end Go.Sx.Tryd
/- What is handed in, as data; live questions. -/
namespace Go.Sx.Tryd
open Go Go.Sx
abbrev ctL : List CT := [.int .i64, .int .i64, .int .i64]
abbrev ctP : List CT := [.int .i64, .int .i32, .int .i32, .sl ctL, .int .i64, .int .i64, .str]
def W64 (n : Int) : Prop := -9223372036854775808 ≤ n ∧ n ≤ 9223372036854775807
def W32 (n : Int) : Prop := -2147483648 ≤ n ∧ n ≤ 2147483647
structure WLeg (x : Leg) : Prop where
  acc : W64 x.acc
  cur : W64 x.cur
  minor : W64 x.minor
structure WPost (p : Post) : Prop where
  so : p.so = .nil → p.legs = []
  id : W64 p.id
  known : W32 p.known
  value : W32 p.value
  rev : W64 p.rev
  kind : W64 p.kind
  memo : p.memo.length ≤ 9223372036854775807
  legs : ∀ x ∈ p.legs, WLeg x
theorem leg_inv {e : PV} (h1 : e.cells.length = 3) (h2 : e = .agg e.cells) (h3 : ∀ (i : Nat) (c : CT) (p : PV), ctL[i]? = some c → e.cells[i]? = some p → WT c p) : ∃ x : Leg, WLeg x ∧ e = x.pv := by
  match hc : e.cells, h1 with
  | [a, b, c], _ =>
    rw [hc] at h2 h3
    obtain ⟨n, n1, n2, rfl⟩ := i64_inv (h3 0 _ a rfl rfl)
    obtain ⟨m, m1, m2, rfl⟩ := i64_inv (h3 1 _ b rfl rfl)
    obtain ⟨k, k1, k2, rfl⟩ := i64_inv (h3 2 _ c rfl rfl)
    exact ⟨⟨n, m, k⟩, ⟨⟨n1, n2⟩, ⟨m1, m2⟩, ⟨k1, k2⟩⟩, h2⟩
theorem legs_inv {x : PV} (h : WT (.sl ctL) x) : ∃ (o : SO) (l : List Leg), x = .sl o 3 (l.map Leg.pv) ∧ (∀ y ∈ l, WLeg y) ∧ (o = .nil → l = []) := by
  rcases sl_inv h with rfl | ⟨es, rfl, _, hs, hc⟩
  · exact ⟨.nil, [], rfl, by simp, fun _ => rfl⟩
  · obtain ⟨l, hl, rfl⟩ := list_of (f := Leg.pv) (Q := WLeg) fun e he => leg_inv (hs e he).1 ((hs e he).2.2 (by simp)) (hc e he)
    exact ⟨.shut, l, rfl, hl, fun h => by cases h⟩
theorem cells7 {a b c d e f g : PV} (h : ∀ (i : Nat) (t : CT) (p : PV), ctP[i]? = some t → [a, b, c, d, e, f, g][i]? = some p → WT t p) : ∃ p : Post, WPost p ∧ [a, b, c, d, e, f, g] = p.pv.cells := by
  obtain ⟨n0, a0, b0, rfl⟩ := i64_inv (h 0 _ a rfl rfl)
  obtain ⟨n1, a1, b1, rfl⟩ := i32_inv (h 1 _ b rfl rfl)
  obtain ⟨n2, a2, b2, rfl⟩ := i32_inv (h 2 _ c rfl rfl)
  obtain ⟨o, l, rfl, hl, ho⟩ := legs_inv (h 3 _ d rfl rfl)
  obtain ⟨n4, a4, b4, rfl⟩ := i64_inv (h 4 _ e rfl rfl)
  obtain ⟨n5, a5, b5, rfl⟩ := i64_inv (h 5 _ f rfl rfl)
  obtain ⟨s, rfl, hs⟩ := str_inv (h 6 _ g rfl rfl)
  exact ⟨⟨n0, n1, n2, o, l, n4, n5, s⟩, ⟨ho, ⟨a0, b0⟩, ⟨a1, b1⟩, ⟨a2, b2⟩, ⟨a4, b4⟩, ⟨a5, b5⟩, hs, hl⟩, rfl⟩
theorem post_inv {e : PV} (h1 : e.cells.length = 7) (h2 : e = .agg e.cells) (h3 : ∀ (i : Nat) (c : CT) (p : PV), ctP[i]? = some c → e.cells[i]? = some p → WT c p) : ∃ p : Post, WPost p ∧ e = p.pv := by
  match hc : e.cells, h1 with
  | [a, b, c, d, e', f, g], _ =>
    rw [hc] at h2 h3
    obtain ⟨p, hp, he⟩ := cells7 h3
    exact ⟨p, hp, by rw [h2, he]; rfl⟩
theorem posts_inv {x : PV} (h : WT (.sl ctP) x) : ∃ (o : SO) (l : List Post), x = .sl o 7 (l.map Post.pv) ∧ (∀ p ∈ l, WPost p) ∧ (o = .nil → l = []) := by
  rcases sl_inv h with rfl | ⟨es, rfl, _, hs, hc⟩
  · exact ⟨.nil, [], rfl, by simp, fun _ => rfl⟩
  · obtain ⟨l, hl, rfl⟩ := list_of (f := Post.pv) (Q := WPost) fun e he => post_inv (hs e he).1 ((hs e he).2.2 (by simp)) (hc e he)
    exact ⟨.shut, l, rfl, hl, fun h => by cases h⟩
theorem alive : cc (ev X E0) 13 [] [] = some (.b true, []) := by
  show (ev X E0 13 [] []).bind canon = _
  rw [Calive35.alive35]
  rfl
theorem fits_fair {l : List Post} (h : fitsAll l = true) : l.length ≤ 60 ∧ ∀ p ∈ l, fits p = true ∧ Fair p := by
  simp only [fitsAll, Bool.and_eq_true, decide_eq_true_eq, List.all_eq_true] at h
  refine ⟨h.1, fun p hp => ⟨h.2 p hp, ?_⟩⟩
  have := h.2 p hp
  simp only [fits, decide_eq_true_eq] at this
  exact ⟨by omega, by omega⟩
end Go.Sx.Tryd
/- The statement BookTells, of the evaluator. -/
namespace Go.Sx.Tryd
open Go Go.Sx
theorem same_refl (p : Post) : same p p = true := by
  unfold same
  rw [legsEq_iff.2 rfl]
  simp
theorem pick_eq {l : List Post} (hr : rightB l = true) {w w' : Post → Bool} (h : ∀ p, chk p = 0 → w p = w' p) : pickR l w = l.filter w' := by
  unfold pickR
  rw [if_pos hr]
  exact List.filter_congr fun p hp => h p (right_chk hr p hp)
theorem fits_nice {p : Post} (h : fits p = true) (hw : p.so = .nil → p.legs = []) : Nice p := by
  simp only [fits, decide_eq_true_eq] at h
  exact ⟨by omega, by omega, hw⟩
end Go.Sx.Tryd
