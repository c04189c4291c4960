/- Whether postings are gone through. -/
import Derived.Test.YtdhefhnlagnkdaaDoorK1
import Derived.Test.YtdhefhnlagnkdaaDoorG0
namespace Go.Sx.Tryd
open Go Go.Sx
abbrev S15 (l : List Post) (o : SO) (i : Int) : St := St.mk (tmOf 18 [(8, AV.c (CV.pv (PV.sl o 7 (List.map Post.pv l)))), (9, AV.c (CV.pv (PV.int .i64 (↑(List.length (List.map Post.pv l)) : Int)))), (10, AV.c (CV.pv (PV.int .i64 i)))]) []
theorem l15_1 (l : List Post) (o : SO) (i : Nat) (y1 : Post) (g1 : (↑i : Int) < (↑(List.length (List.map Post.pv l)) : Int)) (g2 : l[i]? = some y1) (g3 : fits y1 = false) :
    lv (cv (ev X E0) xf15_l0) (rl [8, 0, 0]) 0 (S15 l o (↑i : Int)) = some (XExit.ret, St.mk (tmOf 18 [(2, AV.c (.pv (.bool false)))]) [.cells (Post.cs y1)]) :=
  lv_ret [.br true, .el (Post.pv y1), .call (AV.c (.pv (.bool (fits y1)))) [], .br true]
    (c := [decide ((↑i : Int) < (↑(List.length (List.map Post.pv l)) : Int)) = true, 0 ≤ (↑i : Int), (List.map Post.pv l)[i]? = some (Post.pv y1), cc (ev X E0) 16 [AV.agg (Post.cs y1)] [] = some (AV.c (.pv (.bool (fits y1))), []), (!fits y1) = true]) (by kernel_rfl)
    ⟨(decide_eq_true g1), (Int.natCast_nonneg _), (map_at g2), (s16 _), (not_t g3), trivial⟩
theorem l15_2 (l : List Post) (o : SO) (i : Nat) (y1 : Post) (g1 : (↑i : Int) < (↑(List.length (List.map Post.pv l)) : Int)) (g2 : l[i]? = some y1) (g3 : fits y1 = true) :
    lv (cv (ev X E0) xf15_l0) (rl [8, 0, 0]) 0 (S15 l o (↑i : Int)) = lv (cv (ev X E0) xf15_l0) (rl [8, 0, 0]) 0 (St.mk (tmOf 18 [(8, AV.c (.pv (.sl o 7 (List.map Post.pv l)))), (9, AV.c (vi (↑(List.length (List.map Post.pv l)) : Int))), (10, AV.c (vi (IntKind.wrap .i64 ((↑i : Int) + 1))))]) []) :=
  lv_next [.br true, .el (Post.pv y1), .call (AV.c (.pv (.bool (fits y1)))) [], .br false]
    (c := [decide ((↑i : Int) < (↑(List.length (List.map Post.pv l)) : Int)) = true, 0 ≤ (↑i : Int), (List.map Post.pv l)[i]? = some (Post.pv y1), cc (ev X E0) 16 [AV.agg (Post.cs y1)] [] = some (AV.c (.pv (.bool (fits y1))), []), (!fits y1) = false]) (by kernel_rfl)
    ⟨(decide_eq_true g1), (Int.natCast_nonneg _), (map_at g2), (s16 _), (not_f g3), trivial⟩
theorem l15_3 (l : List Post) (o : SO) (i : Nat) (g1 : ¬(↑i : Int) < (↑(List.length (List.map Post.pv l)) : Int)) :
    lv (cv (ev X E0) xf15_l0) (rl [8, 0, 0]) 0 (S15 l o (↑i : Int)) = some (XExit.exit 0, St.mk (tmOf 18 []) []) :=
  lv_exit [.br false]
    (c := [decide ((↑i : Int) < (↑(List.length (List.map Post.pv l)) : Int)) = false]) (by kernel_rfl)
    ⟨(decide_eq_false g1), trivial⟩
def Fair (p : Post) : Prop := p.memo.length ≤ 1000000 ∧ p.legs.length ≤ 4000000000000000000
theorem lt_lenP {l : List Post} {i : Nat} (h : i < l.length) : (i : Int) < (((l.map Post.pv).length : Nat) : Int) := by rw [List.length_map]; omega
theorem a15 {l : List Post} {o : SO} (hl : l.length ≤ 100) : lv (cv (ev X E0) xf15_l0) (rl [8, 0, 0]) 0 (S15 l o 0) = some ((l.find? (fun p => !fits p)).elim (XExit.exit 0, St.mk (tmOf 18 []) []) (fun p => (XExit.ret, St.mk (tmOf 18 [(2, AV.c (CV.pv (PV.bool false)))]) [Box.cells (Post.cs p)]))) := by
  refine lv_find (S15 l o) (l15_3 l o l.length (by simp)) (fun i y hat hlt hw => ?_) fun i y hat hlt hw => ?_
  · exact l15_1 l o i y (lt_lenP hlt) hat (by simpa using hw)
  · have := l15_2 l o i y (lt_lenP hlt) hat (by simpa using hw)
    rwa [wi64 (by omega) (by omega)] at this
def fitsAll (l : List Post) : Bool := decide (l.length ≤ 60) && l.all fits
theorem f15h_1 (l : List Post) (o : SO) (g1 : (↑(List.length (List.map Post.pv l)) : Int) > 60) :
    cc (ev X E0) 15 [AV.c (.pv (.sl o 7 (List.map Post.pv l)))] [] = some (AV.c (.pv (.bool false)), []) :=
  cc_path (x := xf15) rfl [.br true]
    (c := [decide ((↑(List.length (List.map Post.pv l)) : Int) > 60) = true]) (by kernel_rfl)
    ⟨(decide_eq_true g1), trivial⟩
theorem f15_2 (l : List Post) (o : SO) (h : lv (cv (ev X E0) xf15_l0) (rl [8, 0, 0]) 0 (S15 l o 0) = some (XExit.exit 0, St.mk (tmOf 18 []) [])) (g1 : ¬(↑(List.length (List.map Post.pv l)) : Int) > 60) :
    cc (ev X E0) 15 [AV.c (.pv (.sl o 7 (List.map Post.pv l)))] [] = some (AV.c (.pv (.bool true)), []) :=
  cc_path (x := xf15) rfl [.br false, .loop (XExit.exit (0 : Nat)) (St.mk (tmOf (18 : Nat) []) [])]
    (c := [decide ((↑(List.length (List.map Post.pv l)) : Int) > 60) = false, lv (cv (ev X E0) xf15_l0) (rl [8, 0, 0]) 0 (St.mk (tmOf 18 [(8, AV.c (.pv (.sl o 7 (List.map Post.pv l)))), (9, AV.c (vi (↑(List.length (List.map Post.pv l)) : Int))), (10, AV.c (vi 0))]) []) = some (XExit.exit 0, St.mk (tmOf 18 []) [])]) (by kernel_rfl)
    ⟨(decide_eq_false g1), (h), trivial⟩
theorem f15r_2 (l : List Post) (o : SO) (p : Post) (h : lv (cv (ev X E0) xf15_l0) (rl [8, 0, 0]) 0 (S15 l o 0) = some (XExit.ret, St.mk (tmOf 18 [(2, AV.c (.pv (.bool false)))]) [.cells (Post.cs p)])) (g1 : ¬(↑(List.length (List.map Post.pv l)) : Int) > 60) :
    cc (ev X E0) 15 [AV.c (.pv (.sl o 7 (List.map Post.pv l)))] [] = some (AV.c (.pv (.bool false)), []) :=
  cc_path (x := xf15) rfl [.br false, .loop XExit.ret (St.mk (tmOf 18 [(2, AV.c (.pv (.bool false)))]) [.cells (Post.cs p)])]
    (c := [decide ((↑(List.length (List.map Post.pv l)) : Int) > 60) = false, lv (cv (ev X E0) xf15_l0) (rl [8, 0, 0]) 0 (St.mk (tmOf 18 [(8, AV.c (.pv (.sl o 7 (List.map Post.pv l)))), (9, AV.c (vi (↑(List.length (List.map Post.pv l)) : Int))), (10, AV.c (vi 0))]) []) = some (XExit.ret, St.mk (tmOf 18 [(2, AV.c (.pv (.bool false)))]) [.cells (Post.cs p)])]) (by kernel_rfl)
    ⟨(decide_eq_false g1), (h), trivial⟩
theorem find_none {α : Type} {w : α → Bool} {l : List α} (h : l.find? w = none) : ∀ x ∈ l, w x = false := by
  intro x hx
  have := List.find?_eq_none.1 h x hx
  simpa using this
theorem s15 (l : List Post) (o : SO) : cc (ev X E0) 15 [AV.sl o 7 (l.map Post.pv)] [] = some (.b (fitsAll l), []) := by
  have len : (((l.map Post.pv).length : Nat) : Int) = l.length := by rw [List.length_map]
  by_cases hl : l.length ≤ 60
  · have a := a15 (o := o) (l := l) (by omega)
    cases hf : l.find? (fun p => !fits p) with
    | none =>
      rw [hf] at a
      rw [f15_2 l o a (by rw [len]; omega), fitsAll, decide_eq_true hl, Bool.true_and]
      congr 5; symm
      rw [List.all_eq_true]
      exact fun p hp => by have := find_none hf p hp; simpa using this
    | some p =>
      rw [hf] at a
      rw [f15r_2 l o p a (by rw [len]; omega), fitsAll, decide_eq_true hl, Bool.true_and]
      congr 5; symm
      rw [List.all_eq_false]
      exact ⟨p, List.mem_of_find?_eq_some hf, by have := List.find?_some hf; simpa using this⟩
  · rw [f15h_1 l o (by rw [len]; omega), fitsAll, decide_eq_false hl, Bool.false_and]
end Go.Sx.Tryd
