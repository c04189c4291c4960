/- Sameness of lists, of the document. -/
import Derived.Test.YtplknajjcllmkaaDoorN2
import Derived.Test.YtplknajjcllmkaaDoorN1b
namespace Go.Sx.Tryd
open Go Go.Sx
abbrev S27 (l m : List Post) (o q : SO) (s t : Nat) (i : Int) : St := St.mk (tmOf 27 [(0, AV.c (CV.pv (PV.sl o s (List.map Post.pv l)))), (1, AV.c (CV.pv (PV.sl q t (List.map Post.pv m)))), (5, AV.c (CV.pv (PV.int .i64 i)))]) []
theorem l27_1 (l m : List Post) (o q : SO) (s t : Nat) (hs : SZ o s l) (ht : szOk 7 (.pv (.sl q t (List.map Post.pv m))) = true) (i : Nat) (y1 y2 : Post) (g1 : (↑i : Int) < (↑(List.length (List.map Post.pv l)) : Int)) (g2 : l[i]? = some y1) (g3 : m[i]? = some y2) (g4 : List.length y1.legs ≤ 1000000) (g5 : same y1 y2 = false) :
    lv (cv (ev X E0) xf28_l0) (rl [0, 0, 3]) 0 (S27 l m o q s t (↑i : Int)) = some (XExit.ret, St.mk (tmOf 27 [(4, AV.c (.pv (.bool false)))]) []) :=
  lv_ret [.br true, .sz, .el (Post.pv y1), .sz, .el (Post.pv y2), .call (AV.c (.pv (.bool (same y1 y2)))) [], .br true]
    (c := [decide ((↑i : Int) < (↑(List.length (List.map Post.pv l)) : Int)) = true, SZ o s l, 0 ≤ (↑i : Int), (List.map Post.pv l)[i]? = some (Post.pv y1), szOk 7 (.pv (.sl q t (List.map Post.pv m))) = true, 0 ≤ (↑i : Int), (List.map Post.pv m)[i]? = some (Post.pv y2), cc (ev X E0) 65 [AV.agg (Post.cs y1), AV.agg (Post.cs y2)] [] = some (AV.c (.pv (.bool (same y1 y2))), []), (!same y1 y2) = true]) (by kernel_rfl)
    ⟨(dT g1), hs, (Int.natCast_nonneg _), (map_at g2), ht, (Int.natCast_nonneg _), (map_at g3), (s44 _ _ g4), (not_t g5), trivial⟩
theorem l27_2 (l m : List Post) (o q : SO) (s t : Nat) (hs : SZ o s l) (ht : szOk 7 (.pv (.sl q t (List.map Post.pv m))) = true) (i : Nat) (y1 y2 : Post) (g1 : (↑i : Int) < (↑(List.length (List.map Post.pv l)) : Int)) (g2 : l[i]? = some y1) (g3 : m[i]? = some y2) (g4 : List.length y1.legs ≤ 1000000) (g5 : same y1 y2 = true) :
    lv (cv (ev X E0) xf28_l0) (rl [0, 0, 3]) 0 (S27 l m o q s t (↑i : Int)) = lv (cv (ev X E0) xf28_l0) (rl [0, 0, 3]) 0 (St.mk (tmOf 27 [(0, AV.c (.pv (.sl o s (List.map Post.pv l)))), (1, AV.c (.pv (.sl q t (List.map Post.pv m)))), (5, AV.c (vi (IntKind.wrap .i64 ((↑i : Int) + 1))))]) []) :=
  lv_next [.br true, .sz, .el (Post.pv y1), .sz, .el (Post.pv y2), .call (AV.c (.pv (.bool (same y1 y2)))) [], .br false]
    (c := [decide ((↑i : Int) < (↑(List.length (List.map Post.pv l)) : Int)) = true, SZ o s l, 0 ≤ (↑i : Int), (List.map Post.pv l)[i]? = some (Post.pv y1), szOk 7 (.pv (.sl q t (List.map Post.pv m))) = true, 0 ≤ (↑i : Int), (List.map Post.pv m)[i]? = some (Post.pv y2), cc (ev X E0) 65 [AV.agg (Post.cs y1), AV.agg (Post.cs y2)] [] = some (AV.c (.pv (.bool (same y1 y2))), []), (!same y1 y2) = false]) (by kernel_rfl)
    ⟨(dT g1), hs, (Int.natCast_nonneg _), (map_at g2), ht, (Int.natCast_nonneg _), (map_at g3), (s44 _ _ g4), (not_f g5), trivial⟩
theorem l27_3 (l m : List Post) (o q : SO) (s t : Nat) (_hs : SZ o s l) (_ht : szOk 7 (.pv (.sl q t (List.map Post.pv m))) = true) (i : Nat) (g1 : ¬(↑i : Int) < (↑(List.length (List.map Post.pv l)) : Int)) :
    lv (cv (ev X E0) xf28_l0) (rl [0, 0, 3]) 0 (S27 l m o q s t (↑i : Int)) = some (XExit.exit 0, St.mk (tmOf 27 []) []) :=
  lv_exit [.br false]
    (c := [decide ((↑i : Int) < (↑(List.length (List.map Post.pv l)) : Int)) = false]) (by kernel_rfl)
    ⟨(dF g1), trivial⟩
def samesB (l m : List Post) : Bool := decide (l.length = m.length) && !(l.zip m).any fun q => !same q.1 q.2
theorem zip_atP {l m : List Post} {i : Nat} {q : Post × Post} (h : (l.zip m)[i]? = some q) : l[i]? = some q.1 ∧ m[i]? = some q.2 := by
  rw [List.getElem?_zip_eq_some] at h
  exact h
theorem a27 {l m : List Post} {o q : SO} {s t : Nat} (hs : szOk 7 (CV.pv (PV.sl o s (List.map Post.pv l))) = true) (ht : szOk 7 (CV.pv (PV.sl q t (List.map Post.pv m))) = true) (hl : l.length ≤ 1000000) (hN : ∀ p ∈ l, p.legs.length ≤ 1000000) (he : l.length = m.length) :
    lv (cv (ev X E0) xf28_l0) (rl [0, 0, 3]) 0 (S27 l m o q s t 0) = some (if ((l.zip m).any fun q => !same q.1 q.2) = true then (XExit.ret, St.mk (tmOf 27 [(4, AV.c (CV.pv (PV.bool false)))]) []) else (XExit.exit 0, St.mk (tmOf 27 []) [])) := by
  have hz : (l.zip m).length = l.length := by rw [List.length_zip]; omega
  refine lv_scan (l := l.zip m) (S27 l m o q s t) (by rw [hz]; exact l27_3 l m o q s t hs ht l.length (by simp)) (fun i y hat hlt hw => ?_) fun i y hat hlt hw => ?_
  · obtain ⟨h1, h2⟩ := zip_atP hat
    exact l27_1 l m o q s t hs ht i y.1 y.2 (ltP (by omega)) h1 h2 (hN _ (List.mem_of_getElem? h1)) (by simpa using hw)
  · obtain ⟨h1, h2⟩ := zip_atP hat
    have := l27_2 l m o q s t hs ht i y.1 y.2 (ltP (by omega)) h1 h2 (hN _ (List.mem_of_getElem? h1)) (by simpa using hw)
    rwa [wi64 (by omega) (by omega)] at this
theorem f27n_1 (l m : List Post) (o q : SO) (s t : Nat) (hne : ¬(↑(List.length (List.map Post.pv l)) : Int) = (↑(List.length (List.map Post.pv m)) : Int)) :
    cc (ev X E0) 28 [AV.c (.pv (.sl o s (List.map Post.pv l))), AV.c (.pv (.sl q t (List.map Post.pv m)))] [] = some (AV.c (.pv (.bool false)), []) :=
  cc_path (x := xf28) rfl [.br true]
    (c := [((↑(List.length (List.map Post.pv l)) : Int) != (↑(List.length (List.map Post.pv m)) : Int)) = true]) (by kernel_rfl)
    ⟨(bne_iff_ne.mpr hne), trivial⟩
theorem f27a_1 (l m : List Post) (o q : SO) (s t : Nat) (he : (↑(List.length (List.map Post.pv l)) : Int) = (↑(List.length (List.map Post.pv m)) : Int)) (h : lv (cv (ev X E0) xf28_l0) (rl [0, 0, 3]) 0 (S27 l m o q s t 0) = some (XExit.exit 0, St.mk (tmOf 27 []) [])) :
    cc (ev X E0) 28 [AV.c (.pv (.sl o s (List.map Post.pv l))), AV.c (.pv (.sl q t (List.map Post.pv m)))] [] = some (AV.c (.pv (.bool true)), []) :=
  cc_path (x := xf28) rfl [.br false, .loop (XExit.exit (0 : Nat)) (St.mk (tmOf (27 : Nat) []) [])]
    (c := rq [(1, ((↑(List.length (List.map Post.pv l)) : Int) != (↑(List.length (List.map Post.pv m)) : Int)) = false), ty h]) (by kernel_rfl)
    (aq ⟨(bne_f he), h, trivial⟩)
theorem f27b_1 (l m : List Post) (o q : SO) (s t : Nat) (he : (↑(List.length (List.map Post.pv l)) : Int) = (↑(List.length (List.map Post.pv m)) : Int)) (h : lv (cv (ev X E0) xf28_l0) (rl [0, 0, 3]) 0 (S27 l m o q s t 0) = some (XExit.ret, St.mk (tmOf 27 [(4, AV.c (.pv (.bool false)))]) [])) :
    cc (ev X E0) 28 [AV.c (.pv (.sl o s (List.map Post.pv l))), AV.c (.pv (.sl q t (List.map Post.pv m)))] [] = some (AV.c (.pv (.bool false)), []) :=
  cc_path (x := xf28) rfl [.br false, .loop XExit.ret (St.mk (tmOf (27 : Nat) [((4 : Nat), AV.c (.pv (.bool false)))]) [])]
    (c := rq [(1, ((↑(List.length (List.map Post.pv l)) : Int) != (↑(List.length (List.map Post.pv m)) : Int)) = false), ty h]) (by kernel_rfl)
    (aq ⟨(bne_f he), h, trivial⟩)
theorem s27 {l m : List Post} {o q : SO} {s t : Nat} (hs : szOk 7 (CV.pv (PV.sl o s (List.map Post.pv l))) = true) (ht : szOk 7 (CV.pv (PV.sl q t (List.map Post.pv m))) = true) (hl : l.length ≤ 1000000) (hN : ∀ p ∈ l, p.legs.length ≤ 1000000) :
    cc (ev X E0) 28 [AV.sl o s (l.map Post.pv), AV.sl q t (m.map Post.pv)] [] = some (.b (samesB l m), []) := by
  unfold samesB
  by_cases he : l.length = m.length
  · have a := a27 hs ht hl hN he
    have hh : (↑(List.length (List.map Post.pv l)) : Int) = (↑(List.length (List.map Post.pv m)) : Int) := by rw [lenP, lenP]; omega
    rw [decide_eq_true he, Bool.true_and]
    cases hz : (l.zip m).any fun q => !same q.1 q.2 with
    | true => rw [hz] at a; exact f27b_1 l m o q s t hh a
    | false => rw [hz] at a; exact f27a_1 l m o q s t hh a
  · rw [f27n_1 l m o q s t (by rw [lenP, lenP]; omega), decide_eq_false he]; rfl
end Go.Sx.Tryd
