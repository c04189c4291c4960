/- Sameness of lists, of the document. -/
import Derived.Test.YtplknajjcllmkaaDoorN2
import Derived.Test.YtplknajjcllmkaaDoorN1b
import Derived.Test.YtplknajjcllmkaaDoorK1
import Derived.Test.YtplknajjcllmkaaDoorSxLem
import Derived.Test.YtplknajjcllmkaaDoorAl
import Derived.Test.YtplknajjcllmkaaDoorK3
import Derived.Test.YtplknajjcllmkaaDoorN1
import Derived.Test.YtplknajjcllmkaaDoorN5
namespace Go.Sx.Tryd
open Go Go.Sx
abbrev S27 (l m : List Post) (o q : SO) (s t : Nat) (i : Int) : St := St.mk (tmOf 27 [(0, AV.c (CV.pv (PV.sl o s (List.map Post.pv l)))), (1, AV.c (CV.pv (PV.sl q t (List.map Post.pv m)))), (5, AV.c (CV.pv (PV.int .i64 i)))]) []
theorem l27_1 (l m : List Post) (o q : SO) (s t : Nat) (hs : SZ o s l) (ht : szOk 7 (.pv (.sl q t (List.map Post.pv m))) = true) (i : Nat) (y1 y2 : Post) (g1 : (↑i : Int) < (↑(List.length (List.map Post.pv l)) : Int)) (g2 : l[i]? = some y1) (g3 : m[i]? = some y2) (g4 : List.length y1.legs ≤ 1000000) (g5 : same y1 y2 = false) :
    lv (cv (ev X E0) xf28_l0) (rl [0, 0, 3]) 0 (S27 l m o q s t (↑i : Int)) = some (XExit.ret, St.mk (tmOf 27 [(4, AV.c (.pv (.bool false)))]) []) :=
  lv_ret [.br true, .sz, .el (Post.pv y1), .sz, .el (Post.pv y2), .call (AV.c (.pv (.bool (same y1 y2)))) [], .br true]
    (c := [decide ((↑i : Int) < (↑(List.length (List.map Post.pv l)) : Int)) = true, SZ o s l, 0 ≤ (↑i : Int), (List.map Post.pv l)[i]? = some (Post.pv y1), szOk 7 (.pv (.sl q t (List.map Post.pv m))) = true, 0 ≤ (↑i : Int), (List.map Post.pv m)[i]? = some (Post.pv y2), cc (ev X E0) 65 [AV.agg (Post.cs y1), AV.agg (Post.cs y2)] [] = some (AV.c (.pv (.bool (same y1 y2))), []), (!same y1 y2) = true]) (by kernel_rfl)
    ⟨(dT g1), hs, (Int.natCast_nonneg _), (map_at g2), ht, (Int.natCast_nonneg _), (map_at g3), (s44 _ _ g4), (not_t g5), trivial⟩
theorem l27_2 (l m : List Post) (o q : SO) (s t : Nat) (hs : SZ o s l) (ht : szOk 7 (.pv (.sl q t (List.map Post.pv m))) = true) (i : Nat) (y1 y2 : Post) (g1 : (↑i : Int) < (↑(List.length (List.map Post.pv l)) : Int)) (g2 : l[i]? = some y1) (g3 : m[i]? = some y2) (g4 : List.length y1.legs ≤ 1000000) (g5 : same y1 y2 = true) :
    lv (cv (ev X E0) xf28_l0) (rl [0, 0, 3]) 0 (S27 l m o q s t (↑i : Int)) = lv (cv (ev X E0) xf28_l0) (rl [0, 0, 3]) 0 (St.mk (tmOf 27 [(0, AV.c (.pv (.sl o s (List.map Post.pv l)))), (1, AV.c (.pv (.sl q t (List.map Post.pv m)))), (5, AV.c (vi (IntKind.wrap .i64 ((↑i : Int) + 1))))]) []) :=
  lv_next [.br true, .sz, .el (Post.pv y1), .sz, .el (Post.pv y2), .call (AV.c (.pv (.bool (same y1 y2)))) [], .br false]
    (c := [decide ((↑i : Int) < (↑(List.length (List.map Post.pv l)) : Int)) = true, SZ o s l, 0 ≤ (↑i : Int), (List.map Post.pv l)[i]? = some (Post.pv y1), szOk 7 (.pv (.sl q t (List.map Post.pv m))) = true, 0 ≤ (↑i : Int), (List.map Post.pv m)[i]? = some (Post.pv y2), cc (ev X E0) 65 [AV.agg (Post.cs y1), AV.agg (Post.cs y2)] [] = some (AV.c (.pv (.bool (same y1 y2))), []), (!same y1 y2) = false]) (by kernel_rfl)
    ⟨(dT g1), hs, (Int.natCast_nonneg _), (map_at g2), ht, (Int.natCast_nonneg _), (map_at g3), (s44 _ _ g4), (not_f g5), trivial⟩
theorem l27_3 (l m : List Post) (o q : SO) (s t : Nat) (_hs : SZ o s l) (_ht : szOk 7 (.pv (.sl q t (List.map Post.pv m))) = true) (i : Nat) (g1 : ¬(↑i : Int) < (↑(List.length (List.map Post.pv l)) : Int)) :
    lv (cv (ev X E0) xf28_l0) (rl [0, 0, 3]) 0 (S27 l m o q s t (↑i : Int)) = some (XExit.exit 0, St.mk (tmOf 27 []) []) :=
  lv_exit [.br false]
    (c := [decide ((↑i : Int) < (↑(List.length (List.map Post.pv l)) : Int)) = false]) (by kernel_rfl)
    ⟨(dF g1), trivial⟩
def samesB (l m : List Post) : Bool := decide (l.length = m.length) && !(l.zip m).any fun q => !same q.1 q.2
theorem zip_atP {l m : List Post} {i : Nat} {q : Post × Post} (h : (l.zip m)[i]? = some q) : l[i]? = some q.1 ∧ m[i]? = some q.2 := by
  rw [List.getElem?_zip_eq_some] at h
  exact h
theorem a27 {l m : List Post} {o q : SO} {s t : Nat} (hs : szOk 7 (CV.pv (PV.sl o s (List.map Post.pv l))) = true) (ht : szOk 7 (CV.pv (PV.sl q t (List.map Post.pv m))) = true) (hl : l.length ≤ 1000000) (hN : ∀ p ∈ l, p.legs.length ≤ 1000000) (he : l.length = m.length) :
    lv (cv (ev X E0) xf28_l0) (rl [0, 0, 3]) 0 (S27 l m o q s t 0) = some (if ((l.zip m).any fun q => !same q.1 q.2) = true then (XExit.ret, St.mk (tmOf 27 [(4, AV.c (CV.pv (PV.bool false)))]) []) else (XExit.exit 0, St.mk (tmOf 27 []) [])) := by
  have hz : (l.zip m).length = l.length := by rw [List.length_zip]; omega
  refine lv_scan (l := l.zip m) (S27 l m o q s t) (by rw [hz]; exact l27_3 l m o q s t hs ht l.length (by simp)) (fun i y hat hlt hw => ?_) fun i y hat hlt hw => ?_
  · obtain ⟨h1, h2⟩ := zip_atP hat
    exact l27_1 l m o q s t hs ht i y.1 y.2 (ltP (by omega)) h1 h2 (hN _ (List.mem_of_getElem? h1)) (by simpa using hw)
  · obtain ⟨h1, h2⟩ := zip_atP hat
    have := l27_2 l m o q s t hs ht i y.1 y.2 (ltP (by omega)) h1 h2 (hN _ (List.mem_of_getElem? h1)) (by simpa using hw)
    rwa [wi64 (by omega) (by omega)] at this
theorem f27n_1 (l m : List Post) (o q : SO) (s t : Nat) (hne : ¬(↑(List.length (List.map Post.pv l)) : Int) = (↑(List.length (List.map Post.pv m)) : Int)) :
    cc (ev X E0) 28 [AV.c (.pv (.sl o s (List.map Post.pv l))), AV.c (.pv (.sl q t (List.map Post.pv m)))] [] = some (AV.c (.pv (.bool false)), []) :=
  cc_path (x := xf28) rfl [.br true]
    (c := [((↑(List.length (List.map Post.pv l)) : Int) != (↑(List.length (List.map Post.pv m)) : Int)) = true]) (by kernel_rfl)
    ⟨(bne_iff_ne.mpr hne), trivial⟩
theorem f27a_1 (l m : List Post) (o q : SO) (s t : Nat) (he : (↑(List.length (List.map Post.pv l)) : Int) = (↑(List.length (List.map Post.pv m)) : Int)) (h : lv (cv (ev X E0) xf28_l0) (rl [0, 0, 3]) 0 (S27 l m o q s t 0) = some (XExit.exit 0, St.mk (tmOf 27 []) [])) :
    cc (ev X E0) 28 [AV.c (.pv (.sl o s (List.map Post.pv l))), AV.c (.pv (.sl q t (List.map Post.pv m)))] [] = some (AV.c (.pv (.bool true)), []) :=
  cc_path (x := xf28) rfl [.br false, .loop (XExit.exit (0 : Nat)) (St.mk (tmOf (27 : Nat) []) [])]
    (c := rq [(1, ((↑(List.length (List.map Post.pv l)) : Int) != (↑(List.length (List.map Post.pv m)) : Int)) = false), ty h]) (by kernel_rfl)
    (aq ⟨(bne_f he), h, trivial⟩)
theorem f27b_1 (l m : List Post) (o q : SO) (s t : Nat) (he : (↑(List.length (List.map Post.pv l)) : Int) = (↑(List.length (List.map Post.pv m)) : Int)) (h : lv (cv (ev X E0) xf28_l0) (rl [0, 0, 3]) 0 (S27 l m o q s t 0) = some (XExit.ret, St.mk (tmOf 27 [(4, AV.c (.pv (.bool false)))]) [])) :
    cc (ev X E0) 28 [AV.c (.pv (.sl o s (List.map Post.pv l))), AV.c (.pv (.sl q t (List.map Post.pv m)))] [] = some (AV.c (.pv (.bool false)), []) :=
  cc_path (x := xf28) rfl [.br false, .loop XExit.ret (St.mk (tmOf (27 : Nat) [((4 : Nat), AV.c (.pv (.bool false)))]) [])]
    (c := rq [(1, ((↑(List.length (List.map Post.pv l)) : Int) != (↑(List.length (List.map Post.pv m)) : Int)) = false), ty h]) (by kernel_rfl)
    (aq ⟨(bne_f he), h, trivial⟩)
theorem s27 {l m : List Post} {o q : SO} {s t : Nat} (hs : szOk 7 (CV.pv (PV.sl o s (List.map Post.pv l))) = true) (ht : szOk 7 (CV.pv (PV.sl q t (List.map Post.pv m))) = true) (hl : l.length ≤ 1000000) (hN : ∀ p ∈ l, p.legs.length ≤ 1000000) :
    cc (ev X E0) 28 [AV.sl o s (l.map Post.pv), AV.sl q t (m.map Post.pv)] [] = some (.b (samesB l m), []) := by
  unfold samesB
  by_cases he : l.length = m.length
  · have a := a27 hs ht hl hN he
    have hh : (↑(List.length (List.map Post.pv l)) : Int) = (↑(List.length (List.map Post.pv m)) : Int) := by rw [lenP, lenP]; omega
    rw [decide_eq_true he, Bool.true_and]
    cases hz : (l.zip m).any fun q => !same q.1 q.2 with
    | true => rw [hz] at a; exact f27b_1 l m o q s t hh a
    | false => rw [hz] at a; exact f27a_1 l m o q s t hh a
  · rw [f27n_1 l m o q s t (by rw [lenP, lenP]; omega), decide_eq_false he]; rfl
end Go.Sx.Tryd
/- Whether postings are gone through. -/
namespace Go.Sx.Tryd
open Go Go.Sx
abbrev S15 (l : List Post) (o : SO) (i : Int) : St := St.mk (tmOf 18 [(8, AV.c (CV.pv (PV.sl o 7 (List.map Post.pv l)))), (9, AV.c (CV.pv (PV.int .i64 (↑(List.length (List.map Post.pv l)) : Int)))), (10, AV.c (CV.pv (PV.int .i64 i)))]) []
theorem l15_1 (l : List Post) (o : SO) (i : Nat) (y1 : Post) (g1 : (↑i : Int) < (↑(List.length (List.map Post.pv l)) : Int)) (g2 : l[i]? = some y1) (g3 : fits y1 = false) :
    lv (cv (ev X E0) xf12_l0) (rl [8, 0, 0]) 0 (S15 l o (↑i : Int)) = some (XExit.ret, St.mk (tmOf 18 [(2, AV.c (.pv (.bool false)))]) [.cells (Post.cs y1)]) :=
  lv_ret [.br true, .el (Post.pv y1), .call (AV.c (.pv (.bool (fits y1)))) [], .br true]
    (c := [decide ((↑i : Int) < (↑(List.length (List.map Post.pv l)) : Int)) = true, 0 ≤ (↑i : Int), (List.map Post.pv l)[i]? = some (Post.pv y1), cc (ev X E0) 52 [AV.agg (Post.cs y1)] [] = some (AV.c (.pv (.bool (fits y1))), []), (!fits y1) = true]) (by kernel_rfl)
    ⟨(dT g1), (Int.natCast_nonneg _), (map_at g2), (s16 _), (not_t g3), trivial⟩
theorem l15_2 (l : List Post) (o : SO) (i : Nat) (y1 : Post) (g1 : (↑i : Int) < (↑(List.length (List.map Post.pv l)) : Int)) (g2 : l[i]? = some y1) (g3 : fits y1 = true) :
    lv (cv (ev X E0) xf12_l0) (rl [8, 0, 0]) 0 (S15 l o (↑i : Int)) = lv (cv (ev X E0) xf12_l0) (rl [8, 0, 0]) 0 (St.mk (tmOf 18 [(8, AV.c (.pv (.sl o 7 (List.map Post.pv l)))), (9, AV.c (vi (↑(List.length (List.map Post.pv l)) : Int))), (10, AV.c (vi (IntKind.wrap .i64 ((↑i : Int) + 1))))]) []) :=
  lv_next [.br true, .el (Post.pv y1), .call (AV.c (.pv (.bool (fits y1)))) [], .br false]
    (c := [decide ((↑i : Int) < (↑(List.length (List.map Post.pv l)) : Int)) = true, 0 ≤ (↑i : Int), (List.map Post.pv l)[i]? = some (Post.pv y1), cc (ev X E0) 52 [AV.agg (Post.cs y1)] [] = some (AV.c (.pv (.bool (fits y1))), []), (!fits y1) = false]) (by kernel_rfl)
    ⟨(dT g1), (Int.natCast_nonneg _), (map_at g2), (s16 _), (not_f g3), trivial⟩
theorem l15_3 (l : List Post) (o : SO) (i : Nat) (g1 : ¬(↑i : Int) < (↑(List.length (List.map Post.pv l)) : Int)) :
    lv (cv (ev X E0) xf12_l0) (rl [8, 0, 0]) 0 (S15 l o (↑i : Int)) = some (XExit.exit 0, St.mk (tmOf 18 []) []) :=
  lv_exit [.br false]
    (c := [decide ((↑i : Int) < (↑(List.length (List.map Post.pv l)) : Int)) = false]) (by kernel_rfl)
    ⟨(dF g1), trivial⟩
theorem lt_lenP {l : List Post} {i : Nat} (h : i < l.length) : (i : Int) < (((l.map Post.pv).length : Nat) : Int) := by rw [List.length_map]; omega
theorem a15 {l : List Post} {o : SO} (hl : l.length ≤ 100) : lv (cv (ev X E0) xf12_l0) (rl [8, 0, 0]) 0 (S15 l o 0) = some ((l.find? (fun p => !fits p)).elim (XExit.exit 0, St.mk (tmOf 18 []) []) (fun p => (XExit.ret, St.mk (tmOf 18 [(2, AV.c (CV.pv (PV.bool false)))]) [Box.cells (Post.cs p)]))) := by
  refine lv_find (S15 l o) (l15_3 l o l.length (by simp)) (fun i y hat hlt hw => ?_) fun i y hat hlt hw => ?_
  · exact l15_1 l o i y (lt_lenP hlt) hat (by simpa using hw)
  · have := l15_2 l o i y (lt_lenP hlt) hat (by simpa using hw)
    rwa [wi64 (by omega) (by omega)] at this
def fitsAll (l : List Post) : Bool := decide (l.length ≤ 60) && l.all fits
theorem f15h_1 (l : List Post) (o : SO) (g1 : (↑(List.length (List.map Post.pv l)) : Int) > 60) :
    cc (ev X E0) 12 [AV.c (.pv (.sl o 7 (List.map Post.pv l)))] [] = some (AV.c (.pv (.bool false)), []) :=
  cc_path (x := xf12) rfl [.br true]
    (c := [decide ((↑(List.length (List.map Post.pv l)) : Int) > 60) = true]) (by kernel_rfl)
    ⟨(dT g1), trivial⟩
theorem f15_2 (l : List Post) (o : SO) (h : lv (cv (ev X E0) xf12_l0) (rl [8, 0, 0]) 0 (S15 l o 0) = some (XExit.exit 0, St.mk (tmOf 18 []) [])) (g1 : ¬(↑(List.length (List.map Post.pv l)) : Int) > 60) :
    cc (ev X E0) 12 [AV.c (.pv (.sl o 7 (List.map Post.pv l)))] [] = some (AV.c (.pv (.bool true)), []) :=
  cc_path (x := xf12) rfl [.br false, .loop (XExit.exit (0 : Nat)) (St.mk (tmOf (18 : Nat) []) [])]
    (c := rq [(1, decide ((↑(List.length (List.map Post.pv l)) : Int) > 60) = false), ty h]) (by kernel_rfl)
    (aq ⟨(dF g1), h, trivial⟩)
theorem f15r_2 (l : List Post) (o : SO) (p : Post) (h : lv (cv (ev X E0) xf12_l0) (rl [8, 0, 0]) 0 (S15 l o 0) = some (XExit.ret, St.mk (tmOf 18 [(2, AV.c (.pv (.bool false)))]) [.cells (Post.cs p)])) (g1 : ¬(↑(List.length (List.map Post.pv l)) : Int) > 60) :
    cc (ev X E0) 12 [AV.c (.pv (.sl o 7 (List.map Post.pv l)))] [] = some (AV.c (.pv (.bool false)), []) :=
  cc_path (x := xf12) rfl [.br false, .loop XExit.ret (St.mk (tmOf 18 [(2, AV.c (.pv (.bool false)))]) [.cells (Post.cs p)])]
    (c := rq [(1, decide ((↑(List.length (List.map Post.pv l)) : Int) > 60) = false), ty h]) (by kernel_rfl)
    (aq ⟨(dF g1), h, trivial⟩)
theorem find_none {α : Type} {w : α → Bool} {l : List α} (h : l.find? w = none) : ∀ x ∈ l, w x = false := by
  intro x hx
  have := List.find?_eq_none.1 h x hx
  simpa using this
theorem s15 (l : List Post) (o : SO) : cc (ev X E0) 12 [AV.sl o 7 (l.map Post.pv)] [] = some (.b (fitsAll l), []) := by
  have len : (((l.map Post.pv).length : Nat) : Int) = l.length := by rw [List.length_map]
  by_cases hl : l.length ≤ 60
  · have a := a15 (o := o) (l := l) (by omega)
    cases hf : l.find? (fun p => !fits p) with
    | none =>
      rw [hf] at a
      rw [f15_2 l o a (by rw [len]; omega), fitsAll, decide_eq_true hl, Bool.true_and]
      congr 5; symm
      rw [List.all_eq_true]
      exact fun p hp => by have := find_none hf p hp; simpa using this
    | some p =>
      rw [hf] at a
      rw [f15r_2 l o p a (by rw [len]; omega), fitsAll, decide_eq_true hl, Bool.true_and]
      congr 5; symm
      rw [List.all_eq_false]
      exact ⟨p, List.mem_of_find?_eq_some hf, by have := List.find?_some hf; simpa using this⟩
  · rw [f15h_1 l o (by rw [len]; omega), fitsAll, decide_eq_false hl, Bool.false_and]
end Go.Sx.Tryd
/- What is handed in, as data; live questions. -/
namespace Go.Sx.Tryd
open Go Go.Sx
abbrev ctL : List CT := [.int .i64, .int .i64, .int .i64]
def W64 (n : Int) : Prop := -9223372036854775808 ≤ n ∧ n ≤ 9223372036854775807
def W32 (n : Int) : Prop := -2147483648 ≤ n ∧ n ≤ 2147483647
structure WLeg (x : Leg) : Prop where
  acc : W64 x.acc
  cur : W64 x.cur
  minor : W64 x.minor
structure WPost (p : Post) : Prop where
  so : p.so = .nil → p.legs = []
  id : W64 p.id
  known : W32 p.known
  value : W32 p.value
  rev : W64 p.rev
  kind : W64 p.kind
  memo : p.memo.length ≤ 9223372036854775807
  legs : ∀ x ∈ p.legs, WLeg x
theorem leg_inv {e : PV} (h1 : e.cells.length = 3) (h2 : e = .agg e.cells) (h3 : ∀ (i : Nat) (c : CT) (p : PV), ctL[i]? = some c → e.cells[i]? = some p → WT c p) : ∃ x : Leg, WLeg x ∧ e = x.pv := by
  match hc : e.cells, h1 with
  | [a, b, c], _ =>
    rw [hc] at h2 h3
    obtain ⟨n, n1, n2, rfl⟩ := i64_inv (h3 0 _ a rfl rfl)
    obtain ⟨m, m1, m2, rfl⟩ := i64_inv (h3 1 _ b rfl rfl)
    obtain ⟨k, k1, k2, rfl⟩ := i64_inv (h3 2 _ c rfl rfl)
    exact ⟨⟨n, m, k⟩, ⟨⟨n1, n2⟩, ⟨m1, m2⟩, ⟨k1, k2⟩⟩, h2⟩
theorem legs_inv {x : PV} (h : WT (.sl ctL) x) : ∃ (o : SO) (l : List Leg), x = .sl o 3 (l.map Leg.pv) ∧ (∀ y ∈ l, WLeg y) ∧ (o = .nil → l = []) := by
  rcases sl_inv h with rfl | ⟨es, rfl, _, hs, hc⟩
  · exact ⟨.nil, [], rfl, by simp, fun _ => rfl⟩
  · obtain ⟨l, hl, rfl⟩ := list_of (f := Leg.pv) (Q := WLeg) fun e he => leg_inv (hs e he).1 ((hs e he).2.2 (by simp)) (hc e he)
    exact ⟨.shut, l, rfl, hl, fun h => by cases h⟩
theorem alive : cc (ev X E0) 13 [] [] = some (.b true, []) := by
  show (ev X E0 13 [] []).bind canon = _
  rw [Calive35.alive35]
  rfl
end Go.Sx.Tryd
/- What is wrong with a posting, of the document. -/
namespace Go.Sx.Tryd
open Go Go.Sx
-- keep f34: 8 9 10 11 12
-- keep f34r: 8
end Go.Sx.Tryd
/- What reverses a posting, of the document. -/
namespace Go.Sx.Tryd
open Go Go.Sx
end Go.Sx.Tryd
/- What is wrong with a posting behind others, of the document; whether a book may be. -/
namespace Go.Sx.Tryd
open Go Go.Sx
-- keep f26n: 1 2 3 4 5 6 7
-- keep f26b: 5
-- keep f26c: 4 5
-- keep f26d: 4
end Go.Sx.Tryd
/- What the document tells of a book. -/
namespace Go.Sx.Tryd
open Go Go.Sx
end Go.Sx.Tryd
/- The statement BookTells, of the evaluator. -/
namespace Go.Sx.Tryd
open Go Go.Sx
theorem same_refl (p : Post) : same p p = true := by
  unfold same
  rw [legsEq_iff.2 rfl]
  simp
theorem pick_eq {l : List Post} (hr : rightB l = true) {w w' : Post → Bool} (h : ∀ p, chk p = 0 → w p = w' p) : pickR l w = l.filter w' := by
  unfold pickR
  rw [if_pos hr]
  exact List.filter_congr fun p hp => h p (right_chk hr p hp)
theorem fits_nice {p : Post} (h : fits p = true) (hw : p.so = .nil → p.legs = []) : Nice p := by
  simp only [fits, decide_eq_true_eq] at h
  exact ⟨by omega, by omega, hw⟩
end Go.Sx.Tryd
