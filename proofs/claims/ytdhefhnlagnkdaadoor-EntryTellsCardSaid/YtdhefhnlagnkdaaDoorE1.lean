/- Each posting balances. -/
import Derived.Test.YtdhefhnlagnkdaaDoorD1
import Derived.Test.YtdhefhnlagnkdaaDoorN1
import Derived.Test.YtdhefhnlagnkdaaDoorV0
namespace Go.Sx.Tryd
open Go Go.Sx
abbrev S11a (p : Post) (c s k a i : Int) : St := St.mk (tmOf 114 [(1, AV.c (CV.ptr 0 0)), (3, AV.c (CV.pv (PV.int .i64 c))), (4, AV.c (CV.pv (PV.int .i64 c))), (5, AV.c (CV.pv (PV.int .i64 s))), (6, AV.c (CV.pv (PV.int .i64 k))), (7, AV.c (CV.pv (PV.int .i64 a))), (8, AV.c (CV.pv (PV.int .i64 i)))]) [Box.cells (Post.cs p)]
theorem l11a_1 (p : Post) (c : Int) (s : Int) (k : Int) (a : Int) (i : Nat) (y1 : Leg) (g1 : (↑i : Int) < (↑(List.length (List.map Leg.pv p.legs)) : Int)) (g2 : p.legs[i]? = some y1) (g3 : ¬y1.cur = c) :
    lv (cv (ev X E0) xf11_l0) (rl [1, 1, 0, 0, 0, 0, 0]) 1 (S11a p c s k a (↑i : Int)) = lv (cv (ev X E0) xf11_l0) (rl [1, 1, 0, 0, 0, 0, 0]) 1 (St.mk (tmOf 114 [(1, AV.c (.ptr 0 0)), (3, AV.c (vi c)), (4, AV.c (vi c)), (5, AV.c (vi s)), (6, AV.c (vi k)), (7, AV.c (vi a)), (8, AV.c (vi (IntKind.wrap .i64 ((↑i : Int) + 1))))]) [.cells (Post.cs p)]) :=
  lv_next [.br true, .el (Leg.pv y1), .br true]
    (c := [decide ((↑i : Int) < (↑(List.length (List.map Leg.pv p.legs)) : Int)) = true, 0 ≤ (↑i : Int), (List.map Leg.pv p.legs)[i]? = some (Leg.pv y1), (y1.cur != c) = true]) (by kernel_rfl)
    ⟨(decide_eq_true g1), (Int.natCast_nonneg _), (map_at g2), (bne_iff_ne.mpr g3), trivial⟩
theorem l11a_2 (p : Post) (c : Int) (s : Int) (k : Int) (a : Int) (i : Nat) (y1 : Leg) (g1 : (↑i : Int) < (↑(List.length (List.map Leg.pv p.legs)) : Int)) (g2 : p.legs[i]? = some y1) (g3 : y1.cur = c) (g4 : y1.minor < 0) :
    lv (cv (ev X E0) xf11_l0) (rl [1, 1, 0, 0, 0, 0, 0]) 1 (S11a p c s k a (↑i : Int)) = lv (cv (ev X E0) xf11_l0) (rl [1, 1, 0, 0, 0, 0, 0]) 1 (St.mk (tmOf 114 [(1, AV.c (.ptr 0 0)), (3, AV.c (vi c)), (4, AV.c (vi c)), (5, AV.c (vi (IntKind.wrap .i64 (s + y1.minor)))), (6, AV.c (vi (IntKind.wrap .i64 (k - y1.minor)))), (7, AV.c (vi a)), (8, AV.c (vi (IntKind.wrap .i64 ((↑i : Int) + 1))))]) [.cells (Post.cs p)]) :=
  lv_next [.br true, .el (Leg.pv y1), .br false, .br true]
    (c := [decide ((↑i : Int) < (↑(List.length (List.map Leg.pv p.legs)) : Int)) = true, 0 ≤ (↑i : Int), (List.map Leg.pv p.legs)[i]? = some (Leg.pv y1), (y1.cur != c) = false, decide (y1.minor < 0) = true]) (by kernel_rfl)
    ⟨(decide_eq_true g1), (Int.natCast_nonneg _), (map_at g2), (bne_f g3), (decide_eq_true g4), trivial⟩
theorem l11a_3 (p : Post) (c : Int) (s : Int) (k : Int) (a : Int) (i : Nat) (y1 : Leg) (g1 : (↑i : Int) < (↑(List.length (List.map Leg.pv p.legs)) : Int)) (g2 : p.legs[i]? = some y1) (g3 : y1.cur = c) (g4 : ¬y1.minor < 0) :
    lv (cv (ev X E0) xf11_l0) (rl [1, 1, 0, 0, 0, 0, 0]) 1 (S11a p c s k a (↑i : Int)) = lv (cv (ev X E0) xf11_l0) (rl [1, 1, 0, 0, 0, 0, 0]) 1 (St.mk (tmOf 114 [(1, AV.c (.ptr 0 0)), (3, AV.c (vi c)), (4, AV.c (vi c)), (5, AV.c (vi (IntKind.wrap .i64 (s + y1.minor)))), (6, AV.c (vi k)), (7, AV.c (vi a)), (8, AV.c (vi (IntKind.wrap .i64 ((↑i : Int) + 1))))]) [.cells (Post.cs p)]) :=
  lv_next [.br true, .el (Leg.pv y1), .br false, .br false]
    (c := [decide ((↑i : Int) < (↑(List.length (List.map Leg.pv p.legs)) : Int)) = true, 0 ≤ (↑i : Int), (List.map Leg.pv p.legs)[i]? = some (Leg.pv y1), (y1.cur != c) = false, decide (y1.minor < 0) = false]) (by kernel_rfl)
    ⟨(decide_eq_true g1), (Int.natCast_nonneg _), (map_at g2), (bne_f g3), (decide_eq_false g4), trivial⟩
theorem l11a_4 (p : Post) (c : Int) (s : Int) (k : Int) (a : Int) (i : Nat) (g1 : ¬(↑i : Int) < (↑(List.length (List.map Leg.pv p.legs)) : Int)) :
    lv (cv (ev X E0) xf11_l0) (rl [1, 1, 0, 0, 0, 0, 0]) 1 (S11a p c s k a (↑i : Int)) = some (XExit.exit 2, St.mk (tmOf 114 [(1, AV.c (.ptr 0 0)), (3, AV.c (vi c)), (4, AV.c (vi c)), (5, AV.c (vi s)), (6, AV.c (vi k)), (7, AV.c (vi a))]) [.cells (Post.cs p)]) :=
  lv_exit [.br false]
    (c := [decide ((↑i : Int) < (↑(List.length (List.map Leg.pv p.legs)) : Int)) = false]) (by kernel_rfl)
    ⟨(decide_eq_false g1), trivial⟩
abbrev S11b (p : Post) (c s k a n : Int) : St := St.mk (tmOf 114 [(1, AV.c (CV.ptr 0 0)), (3, AV.c (CV.pv (PV.int .i64 c))), (4, AV.c (CV.pv (PV.int .i64 c))), (5, AV.c (CV.pv (PV.int .i64 s))), (6, AV.c (CV.pv (PV.int .i64 k))), (7, AV.c (CV.pv (PV.int .i64 a))), (10, AV.c (CV.pv (PV.int .i64 n)))]) [Box.cells (Post.cs p)]
theorem l11b_3 (p : Post) (c : Int) (s : Int) (k : Int) (a : Int) (n : Int) (v : Int) (e : Int) (h : cc (ev X E0) 40 [Post.av p, AV.i n, AV.i c] [] = some (AV.tup [AV.i v, AV.i e], [])) (g1 : n ≤ 1000) (g2 : e = 0) (g3 : n < 1) (g4 : v = 0) :
    lv (cv (ev X E0) xf11_l1) (rl [1, 1, 0, 0, 0, 0, 2]) 1 (S11b p c s k a n) = lv (cv (ev X E0) xf11_l1) (rl [1, 1, 0, 0, 0, 0, 2]) 1 (St.mk (tmOf 114 [(1, AV.c (.ptr 0 0)), (3, AV.c (vi c)), (4, AV.c (vi c)), (5, AV.c (vi s)), (6, AV.c (vi k)), (7, AV.c (vi (IntKind.wrap .i64 (a + v)))), (10, AV.c (vi (IntKind.wrap .i64 (n + 1))))]) [.cells (Post.cs p)]) :=
  lv_next [.br true, .call (AV.tup [AV.c (vi v), AV.c (vi e)]) [], .br false, .br false, .br false, .br true, .br true, .br false, .br true, .br false, .br true, .br true, .br false, .br true, .br false, .br false]
    (c := [decide (n ≤ 1000) = true, cc (ev X E0) 40 [AV.agg (Post.cs p), AV.c (vi n), AV.c (vi c)] [] = some (AV.tup [AV.c (vi v), AV.c (vi e)], []), (e != 0) = false, (e != 0) = false, (e != 0) = false, decide (n < 1) = true, decide (n < 1) = true, (e != 0) = false, decide (n < 1) = true, (e != 0) = false, true = true, true = true, (e != 0) = false, true = true, (e != 0) = false, (v != 0) = false]) (by kernel_rfl)
    ⟨(decide_eq_true g1), (h), (bne_f g2), (bne_f g2), (bne_f g2), (decide_eq_true g3), (decide_eq_true g3), (bne_f g2), (decide_eq_true g3), (bne_f g2), rfl, rfl, (bne_f g2), rfl, (bne_f g2), (bne_f g4), trivial⟩
theorem l11b_5 (p : Post) (c : Int) (s : Int) (k : Int) (a : Int) (n : Int) (v : Int) (e : Int) (h : cc (ev X E0) 40 [Post.av p, AV.i n, AV.i c] [] = some (AV.tup [AV.i v, AV.i e], [])) (g1 : n ≤ 1000) (g2 : e = 0) (g3 : ¬n < 1) (g4 : n > 999) (g5 : v = 0) :
    lv (cv (ev X E0) xf11_l1) (rl [1, 1, 0, 0, 0, 0, 2]) 1 (S11b p c s k a n) = lv (cv (ev X E0) xf11_l1) (rl [1, 1, 0, 0, 0, 0, 2]) 1 (St.mk (tmOf 114 [(1, AV.c (.ptr 0 0)), (3, AV.c (vi c)), (4, AV.c (vi c)), (5, AV.c (vi s)), (6, AV.c (vi k)), (7, AV.c (vi (IntKind.wrap .i64 (a + v)))), (10, AV.c (vi (IntKind.wrap .i64 (n + 1))))]) [.cells (Post.cs p)]) :=
  lv_next [.br true, .call (AV.tup [AV.c (vi v), AV.c (vi e)]) [], .br false, .br false, .br false, .br false, .br false, .br false, .br false, .br false, .br true, .br true, .br false, .br true, .br false, .br false]
    (c := [decide (n ≤ 1000) = true, cc (ev X E0) 40 [AV.agg (Post.cs p), AV.c (vi n), AV.c (vi c)] [] = some (AV.tup [AV.c (vi v), AV.c (vi e)], []), (e != 0) = false, (e != 0) = false, (e != 0) = false, decide (n < 1) = false, decide (n < 1) = false, (e != 0) = false, decide (n < 1) = false, (e != 0) = false, decide (n > 999) = true, decide (n > 999) = true, (e != 0) = false, decide (n > 999) = true, (e != 0) = false, (v != 0) = false]) (by kernel_rfl)
    ⟨(decide_eq_true g1), (h), (bne_f g2), (bne_f g2), (bne_f g2), (decide_eq_false g3), (decide_eq_false g3), (bne_f g2), (decide_eq_false g3), (bne_f g2), (decide_eq_true g4), (decide_eq_true g4), (bne_f g2), (decide_eq_true g4), (bne_f g2), (bne_f g5), trivial⟩
theorem l11b_6 (p : Post) (c : Int) (s : Int) (k : Int) (a : Int) (n : Int) (v : Int) (e : Int) (h : cc (ev X E0) 40 [Post.av p, AV.i n, AV.i c] [] = some (AV.tup [AV.i v, AV.i e], [])) (g1 : n ≤ 1000) (g2 : e = 0) (g3 : ¬n < 1) (g4 : ¬n > 999) :
    lv (cv (ev X E0) xf11_l1) (rl [1, 1, 0, 0, 0, 0, 2]) 1 (S11b p c s k a n) = lv (cv (ev X E0) xf11_l1) (rl [1, 1, 0, 0, 0, 0, 2]) 1 (St.mk (tmOf 114 [(1, AV.c (.ptr 0 0)), (3, AV.c (vi c)), (4, AV.c (vi c)), (5, AV.c (vi s)), (6, AV.c (vi k)), (7, AV.c (vi (IntKind.wrap .i64 (a + v)))), (10, AV.c (vi (IntKind.wrap .i64 (n + 1))))]) [.cells (Post.cs p)]) :=
  lv_next [.br true, .call (AV.tup [AV.c (vi v), AV.c (vi e)]) [], .br false, .br false, .br false, .br false, .br false, .br false, .br false, .br false, .br false, .br false, .br false, .br false, .br false, .br false]
    (c := [decide (n ≤ 1000) = true, cc (ev X E0) 40 [AV.agg (Post.cs p), AV.c (vi n), AV.c (vi c)] [] = some (AV.tup [AV.c (vi v), AV.c (vi e)], []), (e != 0) = false, (e != 0) = false, (e != 0) = false, decide (n < 1) = false, decide (n < 1) = false, (e != 0) = false, decide (n < 1) = false, (e != 0) = false, decide (n > 999) = false, decide (n > 999) = false, (e != 0) = false, decide (n > 999) = false, (e != 0) = false, false = false]) (by kernel_rfl)
    ⟨(decide_eq_true g1), (h), (bne_f g2), (bne_f g2), (bne_f g2), (decide_eq_false g3), (decide_eq_false g3), (bne_f g2), (decide_eq_false g3), (bne_f g2), (decide_eq_false g4), (decide_eq_false g4), (bne_f g2), (decide_eq_false g4), (bne_f g2), rfl, trivial⟩
theorem l11b_7 (p : Post) (c : Int) (s : Int) (k : Int) (a : Int) (n : Int) (v : Int) (e : Int) (h : cc (ev X E0) 40 [Post.av p, AV.i n, AV.i c] [] = some (AV.tup [AV.i v, AV.i e], [])) (g1 : ¬n ≤ 1000) :
    lv (cv (ev X E0) xf11_l1) (rl [1, 1, 0, 0, 0, 0, 2]) 1 (S11b p c s k a n) = some (XExit.exit 4, St.mk (tmOf 114 [(1, AV.c (.ptr 0 0)), (3, AV.c (vi c)), (4, AV.c (vi c)), (5, AV.c (vi s)), (6, AV.c (vi k)), (7, AV.c (vi a))]) [.cells (Post.cs p)]) :=
  lv_exit [.br false]
    (c := [decide (n ≤ 1000) = false]) (by kernel_rfl)
    ⟨(decide_eq_false g1), trivial⟩
abbrev S11c (p : Post) (c : Int) : St := St.mk (tmOf 114 [(1, AV.c (CV.ptr 0 0)), (3, AV.c (CV.pv (PV.int .i64 c)))]) [Box.cells (Post.cs p)]
theorem l11e_1 (p : Post) (c : Int) (hc : ¬c < 4) :
    lv (cv (ev X E0) xf11_l2) (rl [1, 1]) 1 (S11c p c) = some (XExit.exit 0, St.mk (tmOf 114 []) [.cells (Post.cs p)]) :=
  lv_exit [.br false]
    (c := [decide (c < 4) = false]) (by kernel_rfl)
    ⟨(decide_eq_false hc), trivial⟩
theorem l11c_4 (p : Post) (c : Int) (d : Int) (e : Int) (k : Int) (h1 : lv (cv (ev X E0) xf11_l0) (rl [1, 1, 0, 0, 0, 0, 0]) 1 (S11a p c 0 0 0 0) = some (XExit.exit 2, St.mk (tmOf 114 [(1, AV.c (.ptr 0 0)), (3, AV.c (vi c)), (4, AV.c (vi c)), (5, AV.c (vi 0)), (6, AV.c (vi k)), (7, AV.c (vi 0))]) [.cells (Post.cs p)])) (h2 : lv (cv (ev X E0) xf11_l1) (rl [1, 1, 0, 0, 0, 0, 2]) 1 (S11b p c 0 k 0 0) = some (XExit.exit 4, St.mk (tmOf 114 [(1, AV.c (.ptr 0 0)), (3, AV.c (vi c)), (4, AV.c (vi c)), (5, AV.c (vi 0)), (6, AV.c (vi k)), (7, AV.c (vi 0))]) [.cells (Post.cs p)])) (h3 : cc (ev X E0) 41 [Post.av p, AV.i c] [] = some (AV.tup [AV.i d, AV.i e], [])) (g1 : c < 4) (g2 : e = 0) (g3 : d = k) (g4 : ¬d < 0) :
    lv (cv (ev X E0) xf11_l2) (rl [1, 1]) 1 (S11c p c) = lv (cv (ev X E0) xf11_l2) (rl [1, 1]) 1 (St.mk (tmOf 114 [(1, AV.c (.ptr 0 0)), (3, AV.c (vi (IntKind.wrap .i64 (c + 1))))]) [.cells (Post.cs p)]) :=
  lv_next [.br true, .loop (XExit.exit 2) (St.mk (tmOf 114 [(1, AV.c (.ptr 0 0)), (3, AV.c (vi c)), (4, AV.c (vi c)), (5, AV.c (vi 0)), (6, AV.c (vi k)), (7, AV.c (vi 0))]) [.cells (Post.cs p)]), .loop (XExit.exit 4) (St.mk (tmOf 114 [(1, AV.c (.ptr 0 0)), (3, AV.c (vi c)), (4, AV.c (vi c)), (5, AV.c (vi 0)), (6, AV.c (vi k)), (7, AV.c (vi 0))]) [.cells (Post.cs p)]), .call (AV.tup [AV.c (vi d), AV.c (vi e)]) [], .br false, .br false, .br false, .br false, .br false, .br false, .br false, .br false, .br false, .br false, .br false, .br false, .br false, .br false]
    (c := [decide (c < 4) = true, lv (cv (ev X E0) xf11_l0) (rl [1, 1, 0, 0, 0, 0, 0]) 1 (St.mk (tmOf 114 [(1, AV.c (.ptr 0 0)), (3, AV.c (vi c)), (4, AV.c (vi c)), (5, AV.c (vi 0)), (6, AV.c (vi 0)), (7, AV.c (vi 0)), (8, AV.c (vi 0))]) [.cells (Post.cs p)]) = some (XExit.exit 2, St.mk (tmOf 114 [(1, AV.c (.ptr 0 0)), (3, AV.c (vi c)), (4, AV.c (vi c)), (5, AV.c (vi 0)), (6, AV.c (vi k)), (7, AV.c (vi 0))]) [.cells (Post.cs p)]), lv (cv (ev X E0) xf11_l1) (rl [1, 1, 0, 0, 0, 0, 2]) 1 (St.mk (tmOf 114 [(1, AV.c (.ptr 0 0)), (3, AV.c (vi c)), (4, AV.c (vi c)), (5, AV.c (vi 0)), (6, AV.c (vi k)), (7, AV.c (vi 0)), (10, AV.c (vi 0))]) [.cells (Post.cs p)]) = some (XExit.exit 4, St.mk (tmOf 114 [(1, AV.c (.ptr 0 0)), (3, AV.c (vi c)), (4, AV.c (vi c)), (5, AV.c (vi 0)), (6, AV.c (vi k)), (7, AV.c (vi 0))]) [.cells (Post.cs p)]), cc (ev X E0) 41 [AV.agg (Post.cs p), AV.c (vi c)] [] = some (AV.tup [AV.c (vi d), AV.c (vi e)], []), (e != 0) = false, (e != 0) = false, (e != 0) = false, false = false, false = false, false = false, false = false, false = false, false = false, false = false, (d != k) = false, (d != k) = false, (d != k) = false, decide (d < 0) = false]) (by kernel_rfl)
    ⟨(decide_eq_true g1), (h1), (h2), (h3), (bne_f g2), (bne_f g2), (bne_f g2), rfl, rfl, rfl, rfl, rfl, rfl, rfl, (bne_f g3), (bne_f g3), (bne_f g3), (decide_eq_false g4), trivial⟩
def credW (cur : Int) (x : Leg) : Bool := decide (x.minor < 0) && x.cur == cur
def stp11 (c : Int) (q : Int × Int) (x : Leg) : Int × Int := if x.cur = c then (q.1 + x.minor, if x.minor < 0 then q.2 - x.minor else q.2) else q
theorem fold11 (c : Int) : ∀ (l : List Leg) (s k : Int), l.foldl (stp11 c) (s, k) = (s + sumCur c l, k - sumIf (credW c) l)
  | [], s, k => by simp [sumCur, sumIf]
  | x :: r, s, k => by
    rw [List.foldl_cons]
    simp only [stp11, sumCur, sumIf, credW]
    by_cases h : x.cur = c
    · by_cases h2 : x.minor < 0
      · simp only [h, if_true, h2, decide_true, Bool.true_and, beq_self_eq_true]
        rw [fold11 c r]; congr 1 <;> omega
      · simp only [h, if_true, h2, if_false, decide_false, Bool.false_and]
        rw [fold11 c r]; congr 1 <;> first | omega | simp
    · simp only [h, if_false, show (x.cur == c) = false by simpa using h, Bool.and_false]
      rw [fold11 c r]; congr 1 <;> first | omega | simp
theorem a11a {p : Post} {c : Int} (hl : p.legs.length ≤ 100) (hm : ∀ x ∈ p.legs, minOk x.minor = true) : lv (cv (ev X E0) xf11_l0) (rl [1, 1, 0, 0, 0, 0, 0]) 1 (S11a p c 0 0 0 0) = some (XExit.exit 2, St.mk (tmOf 114 [(1, AV.c (CV.ptr 0 0)), (3, AV.c (CV.pv (PV.int .i64 c))), (4, AV.c (CV.pv (PV.int .i64 c))), (5, AV.c (CV.pv (PV.int .i64 (sumCur c p.legs)))), (6, AV.c (CV.pv (PV.int .i64 (0 - sumIf (credW c) p.legs)))), (7, AV.c (CV.pv (PV.int .i64 0)))]) [Box.cells (Post.cs p)]) := by
  have hf := fold11 c p.legs 0 0
  rw [Int.zero_add] at hf
  refine lv_fold (l := p.legs) (stp11 c) (0, 0) (fun i q => S11a p c q.1 q.2 0 i) (by rw [hf]; exact l11a_4 p c _ _ 0 p.legs.length (by simp)) fun i y q hat hlt hn => ?_
  have hb1 := sumCur_bound (c := c) (l := p.legs.take i) fun x hx => hm x (List.mem_of_mem_take hx)
  have hb2 := sumIf_bound (w := credW c) (l := p.legs.take i) fun x hx => hm x (List.mem_of_mem_take hx)
  have hlen : (p.legs.take i).length = i := by rw [List.length_take]; omega
  rw [fold11, Int.zero_add] at hn
  rw [hlen] at hb1 hb2
  have hy := hm y (List.mem_of_getElem? hat)
  simp only [minOk, decide_eq_true_eq] at hy
  obtain ⟨s, k⟩ := q
  simp only [Prod.mk.injEq] at hn
  simp only [stp11]
  by_cases h : y.cur = c
  · by_cases h2 : y.minor < 0
    · have := l11a_2 p c s k 0 i y (lt_len hlt) hat h h2
      rw [wi64 (by omega) (by omega), wi64 (by omega) (by omega), wi64 (by omega) (by omega)] at this
      rw [if_pos h, if_pos h2]; exact this
    · have := l11a_3 p c s k 0 i y (lt_len hlt) hat h h2
      rw [wi64 (by omega) (by omega), wi64 (by omega) (by omega)] at this
      rw [if_pos h, if_neg h2]; exact this
  · have := l11a_1 p c s k 0 i y (lt_len hlt) hat h
    rw [wi64 (by omega) (by omega)] at this
    rw [if_neg h]; exact this
/-! ### All accounts together -/
def allW (c n : Int) (x : Leg) : Bool := decide (x.acc < n) && x.cur == c
theorem allW_step (c n : Int) : ∀ l : List Leg, sumIf (allW c (n + 1)) l = sumIf (allW c n) l + sumIf (onW n c) l
  | [] => rfl
  | x :: r => by
    have ih := allW_step c n r
    simp only [sumIf]
    rw [ih]
    simp only [allW, onW]
    by_cases h1 : x.cur = c
    · by_cases h2 : x.acc < n
      · have h3 : ¬ x.acc = n := by omega
        have h4 : x.acc < n + 1 := by omega
        simp [h1, h2, h3, h4]; omega
      · by_cases h3 : x.acc = n
        · simp [h1, h3]; omega
        · have h4 : ¬ x.acc < n + 1 := by omega
          simp [h1, h2, h3, h4]
    · simp [h1]
theorem allW_0 {c n : Int} : ∀ {l : List Leg}, (∀ x ∈ l, n ≤ x.acc) → sumIf (allW c n) l = 0
  | [], _ => rfl
  | x :: r, h => by
    have := h x (by simp)
    rw [sumIf, allW_0 (l := r) fun y hy => h y (by simp [hy])]
    have h4 : ¬ x.acc < n := by omega
    simp [allW, h4]
theorem allW_all {c n : Int} : ∀ {l : List Leg}, (∀ x ∈ l, x.acc < n) → sumIf (allW c n) l = sumCur c l
  | [], _ => rfl
  | x :: r, h => by
    have := h x (by simp)
    rw [sumIf, sumCur, allW_all (l := r) fun y hy => h y (by simp [hy])]
    by_cases h1 : x.cur = c <;> simp [allW, h1, this]
theorem onW_0 {c n : Int} : ∀ {l : List Leg}, (∀ x ∈ l, x.acc ≠ n) → sumIf (onW n c) l = 0
  | [], _ => rfl
  | x :: r, h => by
    have := h x (by simp)
    rw [sumIf, onW_0 (l := r) fun y hy => h y (by simp [hy])]
    simp [onW, this]
theorem debs_creds (c : Int) : ∀ l : List Leg, sumIf (debW c) l + sumIf (credW c) l = sumCur c l
  | [] => rfl
  | x :: r => by
    have := debs_creds c r
    simp only [sumIf, sumCur]
    rw [← this]
    simp only [debW, credW]
    by_cases h1 : x.cur = c
    · by_cases h2 : x.minor < 0
      · have h3 : ¬ 0 < x.minor := by omega
        simp [h1, h2, h3]; omega
      · by_cases h3 : 0 < x.minor
        · simp [h1, h2, h3]; omega
        · simp [h1, h2, h3]; omega
    · simp [h1]
theorem debs_pos (c : Int) : ∀ l : List Leg, 0 ≤ sumIf (debW c) l
  | [] => by simp [sumIf]
  | x :: r => by
    have := debs_pos c r
    simp only [sumIf, debW]
    by_cases h3 : 0 < x.minor
    · by_cases h1 : x.cur = c
      · simp [h1, h3]; omega
      · simp [h1]; exact this
    · simp [h3]; exact this
theorem a11b {p : Post} {c k : Int} (hc : chk p = 0) : ∀ m n : Nat, n + m = 1001 →
    lv (cv (ev X E0) xf11_l1) (rl [1, 1, 0, 0, 0, 0, 2]) 1 (S11b p c 0 k (sumIf (allW c n) p.legs) n) = some (XExit.exit 4, St.mk (tmOf 114 [(1, AV.c (CV.ptr 0 0)), (3, AV.c (CV.pv (PV.int .i64 c))), (4, AV.c (CV.pv (PV.int .i64 c))), (5, AV.c (CV.pv (PV.int .i64 0))), (6, AV.c (CV.pv (PV.int .i64 k))), (7, AV.c (CV.pv (PV.int .i64 (sumCur c p.legs))))]) [Box.cells (Post.cs p)]) := by
  obtain ⟨hh, _, _, _, hl, ha, _, hm, _, _⟩ := chk_inv hc
  have hmm : p.memo.length ≤ 1000000 := by
    simp only [headed, Bool.and_eq_true, decide_eq_true_eq] at hh; omega
  have hacc : ∀ x ∈ p.legs, 1 ≤ x.acc ∧ x.acc ≤ 999 := fun x hx => by
    have := ha x hx
    simp only [accBad, decide_eq_false_iff_not] at this; omega
  intro m
  induction m with
  | zero =>
    intro n hn
    rw [allW_all fun x hx => by have := hacc x hx; omega]
    have h := s40 p n c hmm (by omega)
    exact l11b_7 p c 0 k _ n _ _ h (by omega)
  | succ m ih =>
    intro n hn
    have h := s40 p n c hmm (by omega)
    rw [hc] at h
    have hv : onV p n c = sumIf (onW n c) p.legs := by rw [onV, if_pos hc]
    rw [hv] at h
    have b1 := sumIf_bound (w := allW c n) (l := p.legs) hm
    have b2 := sumIf_bound (w := onW n c) (l := p.legs) hm
    have ih := ih (n + 1) (by omega)
    rw [Int.natCast_add, Int.natCast_one, allW_step] at ih
    have w1 : IntKind.wrap .i64 (sumIf (allW c n) p.legs + sumIf (onW n c) p.legs) = sumIf (allW c n) p.legs + sumIf (onW n c) p.legs := wi64 (by omega) (by omega)
    have w2 : IntKind.wrap .i64 ((n : Int) + 1) = (n : Int) + 1 := wi64 (by omega) (by omega)
    by_cases h1 : (n : Int) < 1
    · have h0 := onW_0 (c := c) (n := n) (l := p.legs) fun x hx => by have := hacc x hx; omega
      have st := l11b_3 p c 0 k (sumIf (allW c n) p.legs) n _ _ h (by omega) rfl h1 h0
      rw [w1, w2] at st
      exact st.trans ih
    · by_cases h2 : (n : Int) > 999
      · have h0 := onW_0 (c := c) (n := n) (l := p.legs) fun x hx => by have := hacc x hx; omega
        have st := l11b_5 p c 0 k (sumIf (allW c n) p.legs) n _ _ h (by omega) rfl h1 h2 h0
        rw [w1, w2] at st
        exact st.trans ih
      · have st := l11b_6 p c 0 k (sumIf (allW c n) p.legs) n _ _ h (by omega) rfl h1 h2
        rw [w1, w2] at st
        exact st.trans ih
theorem bal_inv {l : List Leg} (h : bal l = true) {c : Int} (h0 : 0 ≤ c) (h4 : c < 4) : sumCur c l = 0 := by
  simp only [bal, Bool.and_eq_true, beq_iff_eq] at h
  obtain ⟨h1, h2, h3, h5, _⟩ := h
  have : c = 0 ∨ c = 1 ∨ c = 2 ∨ c = 3 := by omega
  rcases this with rfl | rfl | rfl | rfl <;> assumption
theorem a11c {p : Post} (hc : chk p = 0) : ∀ m n : Nat, n + m = 4 →
    lv (cv (ev X E0) xf11_l2) (rl [1, 1]) 1 (S11c p n) = some (XExit.exit 0, St.mk (tmOf 114 []) [Box.cells (Post.cs p)]) := by
  obtain ⟨hh, _, _, _, hl, ha, _, hm, _, hbl⟩ := chk_inv hc
  have hmm : p.memo.length ≤ 1000000 := by
    simp only [headed, Bool.and_eq_true, decide_eq_true_eq] at hh; omega
  have hacc : ∀ x ∈ p.legs, (0 : Int) ≤ x.acc := fun x hx => by
    have := ha x hx
    simp only [accBad, decide_eq_false_iff_not] at this; omega
  have key : ∀ n : Nat, n < 4 → lv (cv (ev X E0) xf11_l2) (rl [1, 1]) 1 (S11c p n) = lv (cv (ev X E0) xf11_l2) (rl [1, 1]) 1 (S11c p ((n : Int) + 1)) := fun n hn => by
    have hz := bal_inv hbl (c := (n : Int)) (by omega) (by omega)
    have h1 := a11a (p := p) (c := (n : Int)) (by omega) hm
    rw [hz] at h1
    have h2 := a11b (k := 0 - sumIf (credW n) p.legs) (c := (n : Int)) hc 1001 0 rfl
    rw [hz, Int.ofNat_zero, allW_0 hacc] at h2
    have h3 := s41 p n hmm (by omega)
    rw [hc, debV, if_pos hc] at h3
    have e := debs_creds (n : Int) p.legs
    have e2 := debs_pos (n : Int) p.legs
    have st := l11c_4 p n _ _ _ h1 h2 h3 (by omega) rfl (by omega) (by omega)
    rw [wi64 (by omega) (by omega)] at st
    exact st
  intro m
  induction m with
  | zero => intro n hn; obtain rfl : n = 4 := by omega
            exact l11e_1 p 4 (by omega)
  | succ m ih =>
    intro n hn
    rw [key n (by omega)]
    exact ih (n + 1) (by omega)
theorem f11x_1 (p : Post) (a : Bool) (h1 : cc (ev X E0) 16 [Post.av p] [] = some (AV.b false, [])) (h3 : cc (ev X E0) 39 [] [] = some (AV.b a, [])) :
    cc (ev X E0) 11 [AV.agg (Post.cs p)] [] = some (AV.c (.pv (.bool a)), []) :=
  cc_path (x := xf11) rfl [.call (AV.c (.pv (.bool false))) [], .br true, .br true, .br true, .br true, .br true, .call (AV.c (.pv (.bool a))) []]
    (c := [cc (ev X E0) 16 [AV.agg (Post.cs p)] [] = some (AV.c (.pv (.bool false)), []), true = true, true = true, true = true, true = true, true = true, cc (ev X E0) 39 [] [] = some (AV.c (.pv (.bool a)), [])]) (by kernel_rfl)
    ⟨(h1), rfl, rfl, rfl, rfl, rfl, (h3), trivial⟩
theorem f11_2 (p : Post) (b : Bool) (a : Bool) (e : Int) (h1 : cc (ev X E0) 16 [Post.av p] [] = some (AV.b b, [])) (h2 : cc (ev X E0) 37 [Post.av p] [] = some (AV.i e, [])) (h3 : cc (ev X E0) 39 [] [] = some (AV.b a, [])) (h4 : e = 0 → lv (cv (ev X E0) xf11_l2) (rl [1, 1]) 1 (S11c p 0) = some (XExit.exit 0, St.mk (tmOf 114 []) [.cells (Post.cs p)])) (g1 : b = true) (g2 : ¬e = 0) :
    cc (ev X E0) 11 [AV.agg (Post.cs p)] [] = some (AV.c (.pv (.bool a)), []) :=
  cc_path (x := xf11) rfl [.call (AV.c (.pv (.bool b))) [], .br false, .br false, .call (AV.c (vi e)) [], .br false, .br false, .br true, .call (AV.c (.pv (.bool a))) []]
    (c := [cc (ev X E0) 16 [AV.agg (Post.cs p)] [] = some (AV.c (.pv (.bool b)), []), (!b) = false, (!b) = false, cc (ev X E0) 37 [AV.agg (Post.cs p)] [] = some (AV.c (vi e), []), (!b) = false, (!b) = false, (e != 0) = true, cc (ev X E0) 39 [] [] = some (AV.c (.pv (.bool a)), [])]) (by kernel_rfl)
    ⟨(h1), (not_f g1), (not_f g1), (h2), (not_f g1), (not_f g1), (bne_iff_ne.mpr g2), (h3), trivial⟩
theorem f11_3 (p : Post) (b : Bool) (a : Bool) (e : Int) (h1 : cc (ev X E0) 16 [Post.av p] [] = some (AV.b b, [])) (h2 : cc (ev X E0) 37 [Post.av p] [] = some (AV.i e, [])) (h3 : cc (ev X E0) 39 [] [] = some (AV.b a, [])) (h4 : e = 0 → lv (cv (ev X E0) xf11_l2) (rl [1, 1]) 1 (S11c p 0) = some (XExit.exit 0, St.mk (tmOf 114 []) [.cells (Post.cs p)])) (g1 : b = true) (g2 : e = 0) :
    cc (ev X E0) 11 [AV.agg (Post.cs p)] [] = some (AV.c (.pv (.bool a)), []) :=
  cc_path (x := xf11) rfl [.call (AV.c (.pv (.bool b))) [], .br false, .br false, .call (AV.c (vi e)) [], .br false, .br false, .br false, .loop (XExit.exit 0) (St.mk (tmOf 114 []) [.cells (Post.cs p)]), .call (AV.c (.pv (.bool a))) []]
    (c := [cc (ev X E0) 16 [AV.agg (Post.cs p)] [] = some (AV.c (.pv (.bool b)), []), (!b) = false, (!b) = false, cc (ev X E0) 37 [AV.agg (Post.cs p)] [] = some (AV.c (vi e), []), (!b) = false, (!b) = false, (e != 0) = false, lv (cv (ev X E0) xf11_l2) (rl [1, 1]) 1 (St.mk (tmOf 114 [(1, AV.c (.ptr 0 0)), (3, AV.c (vi 0))]) [.cells (Post.cs p)]) = some (XExit.exit 0, St.mk (tmOf 114 []) [.cells (Post.cs p)]), cc (ev X E0) 39 [] [] = some (AV.c (.pv (.bool a)), [])]) (by kernel_rfl)
    ⟨(h1), (not_f g1), (not_f g1), (h2), (not_f g1), (not_f g1), (bne_f g2), (h4 g2), (h3), trivial⟩
theorem EntryBalances0 (p : Post) : cc (ev X E0) 11 [Post.av p] [] = some (.b true, []) := by
  have h16 := s16 p
  cases hf : fits p with
  | false =>
    rw [hf] at h16
    exact f11x_1 p true h16 alive
  | true =>
    rw [hf] at h16
    have hb := fits_fair hf
    have h37 := s37 p (by omega) (by omega)
    by_cases hc : chk p = 0
    · exact f11_3 p true true _ h16 h37 alive (fun _ => a11c hc 4 0 rfl) rfl hc
    · exact f11_2 p true true _ h16 h37 alive (fun e => absurd e hc) rfl hc
theorem EntryBalances (x0 : List PV) (t0 : All2 WT ctP x0) : ev X E0 11 [.agg (x0.map .pv)] [] = some (.b true, []) := by
  match x0, t0.1 with
  | [a, b, c, d, e, f, g], _ =>
  obtain ⟨p, hp, hpe⟩ := cells7 t0.2
  rw [hpe]
  exact ev_cc (EntryBalances0 p)
end Go.Sx.Tryd
