/- What the document tells of a book. -/
import Derived.Test.YtdhefhnlagnkdaaDoorN5
import Derived.Test.YtdhefhnlagnkdaaDoorN3
namespace Go.Sx.Tryd
open Go Go.Sx
abbrev pvI (n : Int) : PV := .int .i64 n
abbrev S27 (l m : List Post) (o q : SO) (s t : Nat) (i : Int) : St := St.mk (tmOf 27 [(0, AV.c (CV.pv (PV.sl o s (List.map Post.pv l)))), (1, AV.c (CV.pv (PV.sl q t (List.map Post.pv m)))), (5, AV.c (CV.pv (PV.int .i64 i)))]) []
theorem l27_1 (l : List Post) (m : List Post) (o : SO) (q : SO) (s : Nat) (t : Nat) (hs : SZ o s l) (ht : szOk 7 (.pv (.sl q t (List.map Post.pv m))) = true) (i : Nat) (y1 : Post) (y2 : Post) (g1 : (↑i : Int) < (↑(List.length (List.map Post.pv l)) : Int)) (g2 : l[i]? = some y1) (g3 : m[i]? = some y2) (g4 : List.length y1.legs ≤ 1000000) (g5 : same y1 y2 = false) :
    lv (cv (ev X E0) xf27_l0) (rl [0, 0, 3]) 0 (S27 l m o q s t (↑i : Int)) = some (XExit.ret, St.mk (tmOf 27 [(4, AV.c (.pv (.bool false)))]) []) :=
  lv_ret [.br true, .sz, .el (Post.pv y1), .sz, .el (Post.pv y2), .call (AV.c (.pv (.bool (same y1 y2)))) [], .br true]
    (c := [decide ((↑i : Int) < (↑(List.length (List.map Post.pv l)) : Int)) = true, SZ o s l, 0 ≤ (↑i : Int), (List.map Post.pv l)[i]? = some (Post.pv y1), szOk 7 (.pv (.sl q t (List.map Post.pv m))) = true, 0 ≤ (↑i : Int), (List.map Post.pv m)[i]? = some (Post.pv y2), cc (ev X E0) 44 [AV.agg (Post.cs y1), AV.agg (Post.cs y2)] [] = some (AV.c (.pv (.bool (same y1 y2))), []), (!same y1 y2) = true]) (by kernel_rfl)
    ⟨(decide_eq_true g1), hs, (Int.natCast_nonneg _), (map_at g2), ht, (Int.natCast_nonneg _), (map_at g3), (s44 _ _ g4), (not_t g5), trivial⟩
theorem l27_2 (l : List Post) (m : List Post) (o : SO) (q : SO) (s : Nat) (t : Nat) (hs : SZ o s l) (ht : szOk 7 (.pv (.sl q t (List.map Post.pv m))) = true) (i : Nat) (y1 : Post) (y2 : Post) (g1 : (↑i : Int) < (↑(List.length (List.map Post.pv l)) : Int)) (g2 : l[i]? = some y1) (g3 : m[i]? = some y2) (g4 : List.length y1.legs ≤ 1000000) (g5 : same y1 y2 = true) :
    lv (cv (ev X E0) xf27_l0) (rl [0, 0, 3]) 0 (S27 l m o q s t (↑i : Int)) = lv (cv (ev X E0) xf27_l0) (rl [0, 0, 3]) 0 (St.mk (tmOf 27 [(0, AV.c (.pv (.sl o s (List.map Post.pv l)))), (1, AV.c (.pv (.sl q t (List.map Post.pv m)))), (5, AV.c (vi (IntKind.wrap .i64 ((↑i : Int) + 1))))]) []) :=
  lv_next [.br true, .sz, .el (Post.pv y1), .sz, .el (Post.pv y2), .call (AV.c (.pv (.bool (same y1 y2)))) [], .br false]
    (c := [decide ((↑i : Int) < (↑(List.length (List.map Post.pv l)) : Int)) = true, SZ o s l, 0 ≤ (↑i : Int), (List.map Post.pv l)[i]? = some (Post.pv y1), szOk 7 (.pv (.sl q t (List.map Post.pv m))) = true, 0 ≤ (↑i : Int), (List.map Post.pv m)[i]? = some (Post.pv y2), cc (ev X E0) 44 [AV.agg (Post.cs y1), AV.agg (Post.cs y2)] [] = some (AV.c (.pv (.bool (same y1 y2))), []), (!same y1 y2) = false]) (by kernel_rfl)
    ⟨(decide_eq_true g1), hs, (Int.natCast_nonneg _), (map_at g2), ht, (Int.natCast_nonneg _), (map_at g3), (s44 _ _ g4), (not_f g5), trivial⟩
theorem l27_3 (l : List Post) (m : List Post) (o : SO) (q : SO) (s : Nat) (t : Nat) (hs : SZ o s l) (ht : szOk 7 (.pv (.sl q t (List.map Post.pv m))) = true) (i : Nat) (g1 : ¬(↑i : Int) < (↑(List.length (List.map Post.pv l)) : Int)) :
    lv (cv (ev X E0) xf27_l0) (rl [0, 0, 3]) 0 (S27 l m o q s t (↑i : Int)) = some (XExit.exit 0, St.mk (tmOf 27 []) []) :=
  lv_exit [.br false]
    (c := [decide ((↑i : Int) < (↑(List.length (List.map Post.pv l)) : Int)) = false]) (by kernel_rfl)
    ⟨(decide_eq_false g1), trivial⟩
abbrev S28 (l : List Post) (o : SO) (s : Nat) (k i : Int) (d : Int) (b : Bool) : St := St.mk (tmOf 42 [(0, AV.c (CV.pv (PV.sl o s (List.map Post.pv l)))), (1, AV.c (CV.pv (PV.int .i64 k))), (6, AV.c (CV.pv (PV.int .i32 d))), (7, AV.c (CV.pv (PV.bool b))), (8, AV.c (CV.pv (PV.int .i64 i)))]) []
theorem l28_1 (l : List Post) (o : SO) (s : Nat) (hs : SZ o s l) (k : Int) (d : Int) (b : Bool) (i : Nat) (y1 : Post) (g1 : (↑i : Int) < (↑(List.length (List.map Post.pv l)) : Int)) (g2 : l[i]? = some y1) (g3 : y1.id > k) (g4 : b = false) :
    lv (cv (ev X E0) xf28_l0) (rl [0, 0, 4, 0, 0]) 0 (S28 l o s k (↑i : Int) d b) = lv (cv (ev X E0) xf28_l0) (rl [0, 0, 4, 0, 0]) 0 (St.mk (tmOf 42 [(0, AV.c (.pv (.sl o s (List.map Post.pv l)))), (1, AV.c (vi k)), (6, AV.c (vw y1.value)), (7, AV.c (.pv (.bool true))), (8, AV.c (vi (IntKind.wrap .i64 ((↑i : Int) + 1))))]) []) :=
  lv_next [.br true, .sz, .el (Post.pv y1), .br true, .br true, .br true, .br true, .br true, .br true, .br true, .br true, .br true, .br true, .br true, .br true, .br true, .br true, .sz, .el (Post.pv y1)]
    (c := [decide ((↑i : Int) < (↑(List.length (List.map Post.pv l)) : Int)) = true, SZ o s l, 0 ≤ (↑i : Int), (List.map Post.pv l)[i]? = some (Post.pv y1), decide (y1.id > k) = true, decide (y1.id > k) = true, decide (y1.id > k) = true, (!b) = true, (!b) = true, (!b) = true, (!b) = true, (!b) = true, (!b) = true, (!b) = true, decide (y1.id > k) = true, (!b) = true, decide (y1.id > k) = true, true = true, SZ o s l, 0 ≤ (↑i : Int), (List.map Post.pv l)[i]? = some (Post.pv y1)]) (by kernel_rfl)
    ⟨(decide_eq_true g1), hs, (Int.natCast_nonneg _), (map_at g2), (decide_eq_true g3), (decide_eq_true g3), (decide_eq_true g3), (not_t g4), (not_t g4), (not_t g4), (not_t g4), (not_t g4), (not_t g4), (not_t g4), (decide_eq_true g3), (not_t g4), (decide_eq_true g3), rfl, hs, (Int.natCast_nonneg _), (map_at g2), trivial⟩
theorem l28_2 (l : List Post) (o : SO) (s : Nat) (hs : SZ o s l) (k : Int) (d : Int) (b : Bool) (i : Nat) (y1 : Post) (g1 : (↑i : Int) < (↑(List.length (List.map Post.pv l)) : Int)) (g2 : l[i]? = some y1) (g3 : y1.id > k) (g4 : b = true) (g5 : y1.value < d) :
    lv (cv (ev X E0) xf28_l0) (rl [0, 0, 4, 0, 0]) 0 (S28 l o s k (↑i : Int) d b) = lv (cv (ev X E0) xf28_l0) (rl [0, 0, 4, 0, 0]) 0 (St.mk (tmOf 42 [(0, AV.c (.pv (.sl o s (List.map Post.pv l)))), (1, AV.c (vi k)), (6, AV.c (vw y1.value)), (7, AV.c (.pv (.bool true))), (8, AV.c (vi (IntKind.wrap .i64 ((↑i : Int) + 1))))]) []) :=
  lv_next [.br true, .sz, .el (Post.pv y1), .br true, .br true, .br true, .br false, .br false, .br false, .sz, .el (Post.pv y1), .br false, .br false, .br false, .br false, .br true, .br false, .br true, .br true, .sz, .el (Post.pv y1)]
    (c := [decide ((↑i : Int) < (↑(List.length (List.map Post.pv l)) : Int)) = true, SZ o s l, 0 ≤ (↑i : Int), (List.map Post.pv l)[i]? = some (Post.pv y1), decide (y1.id > k) = true, decide (y1.id > k) = true, decide (y1.id > k) = true, (!b) = false, (!b) = false, (!b) = false, SZ o s l, 0 ≤ (↑i : Int), (List.map Post.pv l)[i]? = some (Post.pv y1), (!b) = false, (!b) = false, (!b) = false, (!b) = false, decide (y1.id > k) = true, (!b) = false, decide (y1.id > k) = true, decide (y1.value < d) = true, SZ o s l, 0 ≤ (↑i : Int), (List.map Post.pv l)[i]? = some (Post.pv y1)]) (by kernel_rfl)
    ⟨(decide_eq_true g1), hs, (Int.natCast_nonneg _), (map_at g2), (decide_eq_true g3), (decide_eq_true g3), (decide_eq_true g3), (not_f g4), (not_f g4), (not_f g4), hs, (Int.natCast_nonneg _), (map_at g2), (not_f g4), (not_f g4), (not_f g4), (not_f g4), (decide_eq_true g3), (not_f g4), (decide_eq_true g3), (decide_eq_true g5), hs, (Int.natCast_nonneg _), (map_at g2), trivial⟩
theorem l28_3 (l : List Post) (o : SO) (s : Nat) (hs : SZ o s l) (k : Int) (d : Int) (b : Bool) (i : Nat) (y1 : Post) (g1 : (↑i : Int) < (↑(List.length (List.map Post.pv l)) : Int)) (g2 : l[i]? = some y1) (g3 : y1.id > k) (g4 : b = true) (g5 : ¬y1.value < d) :
    lv (cv (ev X E0) xf28_l0) (rl [0, 0, 4, 0, 0]) 0 (S28 l o s k (↑i : Int) d b) = lv (cv (ev X E0) xf28_l0) (rl [0, 0, 4, 0, 0]) 0 (St.mk (tmOf 42 [(0, AV.c (.pv (.sl o s (List.map Post.pv l)))), (1, AV.c (vi k)), (6, AV.c (vw d)), (7, AV.c (.pv (.bool b))), (8, AV.c (vi (IntKind.wrap .i64 ((↑i : Int) + 1))))]) []) :=
  lv_next [.br true, .sz, .el (Post.pv y1), .br true, .br true, .br true, .br false, .br false, .br false, .sz, .el (Post.pv y1), .br false, .br false, .br false, .br false, .br true, .br false, .br true, .br false]
    (c := [decide ((↑i : Int) < (↑(List.length (List.map Post.pv l)) : Int)) = true, SZ o s l, 0 ≤ (↑i : Int), (List.map Post.pv l)[i]? = some (Post.pv y1), decide (y1.id > k) = true, decide (y1.id > k) = true, decide (y1.id > k) = true, (!b) = false, (!b) = false, (!b) = false, SZ o s l, 0 ≤ (↑i : Int), (List.map Post.pv l)[i]? = some (Post.pv y1), (!b) = false, (!b) = false, (!b) = false, (!b) = false, decide (y1.id > k) = true, (!b) = false, decide (y1.id > k) = true, decide (y1.value < d) = false]) (by kernel_rfl)
    ⟨(decide_eq_true g1), hs, (Int.natCast_nonneg _), (map_at g2), (decide_eq_true g3), (decide_eq_true g3), (decide_eq_true g3), (not_f g4), (not_f g4), (not_f g4), hs, (Int.natCast_nonneg _), (map_at g2), (not_f g4), (not_f g4), (not_f g4), (not_f g4), (decide_eq_true g3), (not_f g4), (decide_eq_true g3), (decide_eq_false g5), trivial⟩
theorem l28_4 (l : List Post) (o : SO) (s : Nat) (hs : SZ o s l) (k : Int) (d : Int) (b : Bool) (i : Nat) (y1 : Post) (g1 : (↑i : Int) < (↑(List.length (List.map Post.pv l)) : Int)) (g2 : l[i]? = some y1) (g3 : ¬y1.id > k) :
    lv (cv (ev X E0) xf28_l0) (rl [0, 0, 4, 0, 0]) 0 (S28 l o s k (↑i : Int) d b) = lv (cv (ev X E0) xf28_l0) (rl [0, 0, 4, 0, 0]) 0 (St.mk (tmOf 42 [(0, AV.c (.pv (.sl o s (List.map Post.pv l)))), (1, AV.c (vi k)), (6, AV.c (vw d)), (7, AV.c (.pv (.bool b))), (8, AV.c (vi (IntKind.wrap .i64 ((↑i : Int) + 1))))]) []) :=
  lv_next [.br true, .sz, .el (Post.pv y1), .br false, .br false, .br false, .br false, .br false, .br false]
    (c := [decide ((↑i : Int) < (↑(List.length (List.map Post.pv l)) : Int)) = true, SZ o s l, 0 ≤ (↑i : Int), (List.map Post.pv l)[i]? = some (Post.pv y1), decide (y1.id > k) = false, decide (y1.id > k) = false, decide (y1.id > k) = false, decide (y1.id > k) = false, decide (y1.id > k) = false, false = false]) (by kernel_rfl)
    ⟨(decide_eq_true g1), hs, (Int.natCast_nonneg _), (map_at g2), (decide_eq_false g3), (decide_eq_false g3), (decide_eq_false g3), (decide_eq_false g3), (decide_eq_false g3), rfl, trivial⟩
theorem l28_5 (l : List Post) (o : SO) (s : Nat) (hs : SZ o s l) (k : Int) (d : Int) (b : Bool) (i : Nat) (g1 : ¬(↑i : Int) < (↑(List.length (List.map Post.pv l)) : Int)) :
    lv (cv (ev X E0) xf28_l0) (rl [0, 0, 4, 0, 0]) 0 (S28 l o s k (↑i : Int) d b) = some (XExit.exit 0, St.mk (tmOf 42 [(6, AV.c (vw d)), (7, AV.c (.pv (.bool b)))]) []) :=
  lv_exit [.br false]
    (c := [decide ((↑i : Int) < (↑(List.length (List.map Post.pv l)) : Int)) = false]) (by kernel_rfl)
    ⟨(decide_eq_false g1), trivial⟩
abbrev S29 (l : List Post) (o : SO) (s : Nat) (k v i : Int) (x : CV) : St := St.mk (tmOf 40 [(0, AV.c (CV.pv (PV.sl o s (List.map Post.pv l)))), (1, AV.c (CV.pv (PV.int .i32 k))), (2, AV.c (CV.pv (PV.int .i32 v))), (7, AV.c x), (8, AV.c (CV.pv (PV.int .i64 i)))]) []
theorem l29n_1 (l : List Post) (o : SO) (s : Nat) (hs : SZ o s l) (k : Int) (v : Int) (i : Nat) (y1 : Post) (g1 : (↑i : Int) < (↑(List.length (List.map Post.pv l)) : Int)) (g2 : l[i]? = some y1) (g3 : y1.known ≤ k) (g4 : y1.value ≤ v) (g5 : (↑(0 + List.length [Post.pv y1]) : Int) * 72 ≤ 140737488355328) :
    lv (cv (ev X E0) xf29_l0) (rl [0, 0, 0, 4, 0]) 0 (S29 l o s k v (↑i : Int) (.pv (.sl SO.full 7 []))) = lv (cv (ev X E0) xf29_l0) (rl [0, 0, 0, 4, 0]) 0 (St.mk (tmOf 40 [(0, AV.c (.pv (.sl o s (List.map Post.pv l)))), (1, AV.c (vw k)), (2, AV.c (vw v)), (7, AV.c (.own 2495 7 [Post.pv y1])), (8, AV.c (vi (IntKind.wrap .i64 ((↑i : Int) + 1))))]) []) :=
  lv_next [.br true, .sz, .el (Post.pv y1), .br true, .br true, .br true, .sz, .el (Post.pv y1), .br true, .br true, .br true, .br true, .br true, .br true, .sz, .el (Post.pv y1), .emp false]
    (c := [decide ((↑i : Int) < (↑(List.length (List.map Post.pv l)) : Int)) = true, SZ o s l, 0 ≤ (↑i : Int), (List.map Post.pv l)[i]? = some (Post.pv y1), decide (y1.known ≤ k) = true, decide (y1.known ≤ k) = true, decide (y1.known ≤ k) = true, SZ o s l, 0 ≤ (↑i : Int), (List.map Post.pv l)[i]? = some (Post.pv y1), decide (y1.known ≤ k) = true, decide (y1.known ≤ k) = true, decide (y1.known ≤ k) = true, decide (y1.known ≤ k) = true, decide (y1.known ≤ k) = true, decide (y1.value ≤ v) = true, SZ o s l, 0 ≤ (↑i : Int), (List.map Post.pv l)[i]? = some (Post.pv y1), [Post.pv y1] ≠ [], (↑(0 + List.length [Post.pv y1]) : Int) * 72 ≤ 140737488355328]) (by kernel_rfl)
    ⟨(decide_eq_true g1), hs, (Int.natCast_nonneg _), (map_at g2), (decide_eq_true g3), (decide_eq_true g3), (decide_eq_true g3), hs, (Int.natCast_nonneg _), (map_at g2), (decide_eq_true g3), (decide_eq_true g3), (decide_eq_true g3), (decide_eq_true g3), (decide_eq_true g3), (decide_eq_true g4), hs, (Int.natCast_nonneg _), (map_at g2), (List.cons_ne_nil _ _), g5, trivial⟩
theorem l29n_2 (l : List Post) (o : SO) (s : Nat) (hs : SZ o s l) (k : Int) (v : Int) (i : Nat) (y1 : Post) (g1 : (↑i : Int) < (↑(List.length (List.map Post.pv l)) : Int)) (g2 : l[i]? = some y1) (g3 : y1.known ≤ k) (g4 : ¬y1.value ≤ v) :
    lv (cv (ev X E0) xf29_l0) (rl [0, 0, 0, 4, 0]) 0 (S29 l o s k v (↑i : Int) (.pv (.sl SO.full 7 []))) = lv (cv (ev X E0) xf29_l0) (rl [0, 0, 0, 4, 0]) 0 (St.mk (tmOf 40 [(0, AV.c (.pv (.sl o s (List.map Post.pv l)))), (1, AV.c (vw k)), (2, AV.c (vw v)), (7, AV.c (.pv (.sl SO.full 7 []))), (8, AV.c (vi (IntKind.wrap .i64 ((↑i : Int) + 1))))]) []) :=
  lv_next [.br true, .sz, .el (Post.pv y1), .br true, .br true, .br true, .sz, .el (Post.pv y1), .br true, .br true, .br true, .br true, .br true, .br false]
    (c := [decide ((↑i : Int) < (↑(List.length (List.map Post.pv l)) : Int)) = true, SZ o s l, 0 ≤ (↑i : Int), (List.map Post.pv l)[i]? = some (Post.pv y1), decide (y1.known ≤ k) = true, decide (y1.known ≤ k) = true, decide (y1.known ≤ k) = true, SZ o s l, 0 ≤ (↑i : Int), (List.map Post.pv l)[i]? = some (Post.pv y1), decide (y1.known ≤ k) = true, decide (y1.known ≤ k) = true, decide (y1.known ≤ k) = true, decide (y1.known ≤ k) = true, decide (y1.known ≤ k) = true, decide (y1.value ≤ v) = false]) (by kernel_rfl)
    ⟨(decide_eq_true g1), hs, (Int.natCast_nonneg _), (map_at g2), (decide_eq_true g3), (decide_eq_true g3), (decide_eq_true g3), hs, (Int.natCast_nonneg _), (map_at g2), (decide_eq_true g3), (decide_eq_true g3), (decide_eq_true g3), (decide_eq_true g3), (decide_eq_true g3), (decide_eq_false g4), trivial⟩
theorem l29n_3 (l : List Post) (o : SO) (s : Nat) (hs : SZ o s l) (k : Int) (v : Int) (i : Nat) (y1 : Post) (g1 : (↑i : Int) < (↑(List.length (List.map Post.pv l)) : Int)) (g2 : l[i]? = some y1) (g3 : ¬y1.known ≤ k) :
    lv (cv (ev X E0) xf29_l0) (rl [0, 0, 0, 4, 0]) 0 (S29 l o s k v (↑i : Int) (.pv (.sl SO.full 7 []))) = lv (cv (ev X E0) xf29_l0) (rl [0, 0, 0, 4, 0]) 0 (St.mk (tmOf 40 [(0, AV.c (.pv (.sl o s (List.map Post.pv l)))), (1, AV.c (vw k)), (2, AV.c (vw v)), (7, AV.c (.pv (.sl SO.full 7 []))), (8, AV.c (vi (IntKind.wrap .i64 ((↑i : Int) + 1))))]) []) :=
  lv_next [.br true, .sz, .el (Post.pv y1), .br false, .br false, .br false, .br false, .br false, .br false, .br false, .br false, .br false]
    (c := [decide ((↑i : Int) < (↑(List.length (List.map Post.pv l)) : Int)) = true, SZ o s l, 0 ≤ (↑i : Int), (List.map Post.pv l)[i]? = some (Post.pv y1), decide (y1.known ≤ k) = false, decide (y1.known ≤ k) = false, decide (y1.known ≤ k) = false, decide (y1.known ≤ k) = false, decide (y1.known ≤ k) = false, decide (y1.known ≤ k) = false, decide (y1.known ≤ k) = false, decide (y1.known ≤ k) = false, false = false]) (by kernel_rfl)
    ⟨(decide_eq_true g1), hs, (Int.natCast_nonneg _), (map_at g2), (decide_eq_false g3), (decide_eq_false g3), (decide_eq_false g3), (decide_eq_false g3), (decide_eq_false g3), (decide_eq_false g3), (decide_eq_false g3), (decide_eq_false g3), rfl, trivial⟩
theorem l29n_4 (l : List Post) (o : SO) (s : Nat) (hs : SZ o s l) (k : Int) (v : Int) (i : Nat) (g1 : ¬(↑i : Int) < (↑(List.length (List.map Post.pv l)) : Int)) :
    lv (cv (ev X E0) xf29_l0) (rl [0, 0, 0, 4, 0]) 0 (S29 l o s k v (↑i : Int) (.pv (.sl SO.full 7 []))) = some (XExit.exit 0, St.mk (tmOf 40 [(7, AV.c (.pv (.sl SO.full 7 [])))]) []) :=
  lv_exit [.br false]
    (c := [decide ((↑i : Int) < (↑(List.length (List.map Post.pv l)) : Int)) = false]) (by kernel_rfl)
    ⟨(decide_eq_false g1), trivial⟩
theorem l29o_1 (l : List Post) (o : SO) (s : Nat) (hs : SZ o s l) (k : Int) (v : Int) (j : Nat) (es : List PV) (i : Nat) (y1 : Post) (g1 : (↑i : Int) < (↑(List.length (List.map Post.pv l)) : Int)) (g2 : l[i]? = some y1) (g3 : y1.known ≤ k) (g4 : y1.value ≤ v) (g5 : (↑(List.length es + List.length [Post.pv y1]) : Int) * 72 ≤ 140737488355328) :
    lv (cv (ev X E0) xf29_l0) (rl [0, 0, 0, 4, 0]) 0 (S29 l o s k v (↑i : Int) (.own j 7 es)) = lv (cv (ev X E0) xf29_l0) (rl [0, 0, 0, 4, 0]) 0 (St.mk (tmOf 40 [(0, AV.c (.pv (.sl o s (List.map Post.pv l)))), (1, AV.c (vw k)), (2, AV.c (vw v)), (7, AV.c (.own 2495 7 (es ++ [Post.pv y1]))), (8, AV.c (vi (IntKind.wrap .i64 ((↑i : Int) + 1))))]) []) :=
  lv_next [.br true, .sz, .el (Post.pv y1), .br true, .br true, .br true, .sz, .el (Post.pv y1), .br true, .br true, .br true, .br true, .br true, .br true, .sz, .el (Post.pv y1)]
    (c := [decide ((↑i : Int) < (↑(List.length (List.map Post.pv l)) : Int)) = true, SZ o s l, 0 ≤ (↑i : Int), (List.map Post.pv l)[i]? = some (Post.pv y1), decide (y1.known ≤ k) = true, decide (y1.known ≤ k) = true, decide (y1.known ≤ k) = true, SZ o s l, 0 ≤ (↑i : Int), (List.map Post.pv l)[i]? = some (Post.pv y1), decide (y1.known ≤ k) = true, decide (y1.known ≤ k) = true, decide (y1.known ≤ k) = true, decide (y1.known ≤ k) = true, decide (y1.known ≤ k) = true, decide (y1.value ≤ v) = true, SZ o s l, 0 ≤ (↑i : Int), (List.map Post.pv l)[i]? = some (Post.pv y1), (↑(List.length es + List.length [Post.pv y1]) : Int) * 72 ≤ 140737488355328]) (by kernel_rfl)
    ⟨(decide_eq_true g1), hs, (Int.natCast_nonneg _), (map_at g2), (decide_eq_true g3), (decide_eq_true g3), (decide_eq_true g3), hs, (Int.natCast_nonneg _), (map_at g2), (decide_eq_true g3), (decide_eq_true g3), (decide_eq_true g3), (decide_eq_true g3), (decide_eq_true g3), (decide_eq_true g4), hs, (Int.natCast_nonneg _), (map_at g2), g5, trivial⟩
theorem l29o_2 (l : List Post) (o : SO) (s : Nat) (hs : SZ o s l) (k : Int) (v : Int) (j : Nat) (es : List PV) (i : Nat) (y1 : Post) (g1 : (↑i : Int) < (↑(List.length (List.map Post.pv l)) : Int)) (g2 : l[i]? = some y1) (g3 : y1.known ≤ k) (g4 : ¬y1.value ≤ v) :
    lv (cv (ev X E0) xf29_l0) (rl [0, 0, 0, 4, 0]) 0 (S29 l o s k v (↑i : Int) (.own j 7 es)) = lv (cv (ev X E0) xf29_l0) (rl [0, 0, 0, 4, 0]) 0 (St.mk (tmOf 40 [(0, AV.c (.pv (.sl o s (List.map Post.pv l)))), (1, AV.c (vw k)), (2, AV.c (vw v)), (7, AV.c (.own j 7 es)), (8, AV.c (vi (IntKind.wrap .i64 ((↑i : Int) + 1))))]) []) :=
  lv_next [.br true, .sz, .el (Post.pv y1), .br true, .br true, .br true, .sz, .el (Post.pv y1), .br true, .br true, .br true, .br true, .br true, .br false]
    (c := [decide ((↑i : Int) < (↑(List.length (List.map Post.pv l)) : Int)) = true, SZ o s l, 0 ≤ (↑i : Int), (List.map Post.pv l)[i]? = some (Post.pv y1), decide (y1.known ≤ k) = true, decide (y1.known ≤ k) = true, decide (y1.known ≤ k) = true, SZ o s l, 0 ≤ (↑i : Int), (List.map Post.pv l)[i]? = some (Post.pv y1), decide (y1.known ≤ k) = true, decide (y1.known ≤ k) = true, decide (y1.known ≤ k) = true, decide (y1.known ≤ k) = true, decide (y1.known ≤ k) = true, decide (y1.value ≤ v) = false]) (by kernel_rfl)
    ⟨(decide_eq_true g1), hs, (Int.natCast_nonneg _), (map_at g2), (decide_eq_true g3), (decide_eq_true g3), (decide_eq_true g3), hs, (Int.natCast_nonneg _), (map_at g2), (decide_eq_true g3), (decide_eq_true g3), (decide_eq_true g3), (decide_eq_true g3), (decide_eq_true g3), (decide_eq_false g4), trivial⟩
theorem l29o_3 (l : List Post) (o : SO) (s : Nat) (hs : SZ o s l) (k : Int) (v : Int) (j : Nat) (es : List PV) (i : Nat) (y1 : Post) (g1 : (↑i : Int) < (↑(List.length (List.map Post.pv l)) : Int)) (g2 : l[i]? = some y1) (g3 : ¬y1.known ≤ k) :
    lv (cv (ev X E0) xf29_l0) (rl [0, 0, 0, 4, 0]) 0 (S29 l o s k v (↑i : Int) (.own j 7 es)) = lv (cv (ev X E0) xf29_l0) (rl [0, 0, 0, 4, 0]) 0 (St.mk (tmOf 40 [(0, AV.c (.pv (.sl o s (List.map Post.pv l)))), (1, AV.c (vw k)), (2, AV.c (vw v)), (7, AV.c (.own j 7 es)), (8, AV.c (vi (IntKind.wrap .i64 ((↑i : Int) + 1))))]) []) :=
  lv_next [.br true, .sz, .el (Post.pv y1), .br false, .br false, .br false, .br false, .br false, .br false, .br false, .br false, .br false]
    (c := [decide ((↑i : Int) < (↑(List.length (List.map Post.pv l)) : Int)) = true, SZ o s l, 0 ≤ (↑i : Int), (List.map Post.pv l)[i]? = some (Post.pv y1), decide (y1.known ≤ k) = false, decide (y1.known ≤ k) = false, decide (y1.known ≤ k) = false, decide (y1.known ≤ k) = false, decide (y1.known ≤ k) = false, decide (y1.known ≤ k) = false, decide (y1.known ≤ k) = false, decide (y1.known ≤ k) = false, false = false]) (by kernel_rfl)
    ⟨(decide_eq_true g1), hs, (Int.natCast_nonneg _), (map_at g2), (decide_eq_false g3), (decide_eq_false g3), (decide_eq_false g3), (decide_eq_false g3), (decide_eq_false g3), (decide_eq_false g3), (decide_eq_false g3), (decide_eq_false g3), rfl, trivial⟩
theorem l29o_4 (l : List Post) (o : SO) (s : Nat) (hs : SZ o s l) (k : Int) (v : Int) (j : Nat) (es : List PV) (i : Nat) (g1 : ¬(↑i : Int) < (↑(List.length (List.map Post.pv l)) : Int)) :
    lv (cv (ev X E0) xf29_l0) (rl [0, 0, 0, 4, 0]) 0 (S29 l o s k v (↑i : Int) (.own j 7 es)) = some (XExit.exit 0, St.mk (tmOf 40 [(7, AV.c (.own j 7 es))]) []) :=
  lv_exit [.br false]
    (c := [decide ((↑i : Int) < (↑(List.length (List.map Post.pv l)) : Int)) = false]) (by kernel_rfl)
    ⟨(decide_eq_false g1), trivial⟩
abbrev S30 (l : List Post) (o : SO) (s : Nat) (i : Int) (x : CV) : St := St.mk (tmOf 26 [(0, AV.c (CV.pv (PV.sl o s (List.map Post.pv l)))), (3, AV.c x), (4, AV.c (CV.pv (PV.int .i64 i)))]) []
theorem l30n_1 (l : List Post) (o : SO) (s : Nat) (hs : SZ o s l) (i : Nat) (y1 : Post) (g1 : (↑i : Int) < (↑(List.length (List.map Post.pv l)) : Int)) (g2 : l[i]? = some y1) (g3 : y1.kind = 0) (g4 : (↑(0 + List.length [Post.pv y1]) : Int) * 72 ≤ 140737488355328) :
    lv (cv (ev X E0) xf30_l0) (rl [0, 2, 0]) 0 (S30 l o s (↑i : Int) (.pv (.sl SO.full 7 []))) = lv (cv (ev X E0) xf30_l0) (rl [0, 2, 0]) 0 (St.mk (tmOf 26 [(0, AV.c (.pv (.sl o s (List.map Post.pv l)))), (3, AV.c (.own 1599 7 [Post.pv y1])), (4, AV.c (vi (IntKind.wrap .i64 ((↑i : Int) + 1))))]) []) :=
  lv_next [.br true, .sz, .el (Post.pv y1), .br true, .sz, .el (Post.pv y1), .emp false]
    (c := [decide ((↑i : Int) < (↑(List.length (List.map Post.pv l)) : Int)) = true, SZ o s l, 0 ≤ (↑i : Int), (List.map Post.pv l)[i]? = some (Post.pv y1), (y1.kind == 0) = true, SZ o s l, 0 ≤ (↑i : Int), (List.map Post.pv l)[i]? = some (Post.pv y1), [Post.pv y1] ≠ [], (↑(0 + List.length [Post.pv y1]) : Int) * 72 ≤ 140737488355328]) (by kernel_rfl)
    ⟨(decide_eq_true g1), hs, (Int.natCast_nonneg _), (map_at g2), (beq_iff_eq.mpr g3), hs, (Int.natCast_nonneg _), (map_at g2), (List.cons_ne_nil _ _), g4, trivial⟩
theorem l30n_2 (l : List Post) (o : SO) (s : Nat) (hs : SZ o s l) (i : Nat) (y1 : Post) (g1 : (↑i : Int) < (↑(List.length (List.map Post.pv l)) : Int)) (g2 : l[i]? = some y1) (g3 : ¬y1.kind = 0) :
    lv (cv (ev X E0) xf30_l0) (rl [0, 2, 0]) 0 (S30 l o s (↑i : Int) (.pv (.sl SO.full 7 []))) = lv (cv (ev X E0) xf30_l0) (rl [0, 2, 0]) 0 (St.mk (tmOf 26 [(0, AV.c (.pv (.sl o s (List.map Post.pv l)))), (3, AV.c (.pv (.sl SO.full 7 []))), (4, AV.c (vi (IntKind.wrap .i64 ((↑i : Int) + 1))))]) []) :=
  lv_next [.br true, .sz, .el (Post.pv y1), .br false]
    (c := [decide ((↑i : Int) < (↑(List.length (List.map Post.pv l)) : Int)) = true, SZ o s l, 0 ≤ (↑i : Int), (List.map Post.pv l)[i]? = some (Post.pv y1), (y1.kind == 0) = false]) (by kernel_rfl)
    ⟨(decide_eq_true g1), hs, (Int.natCast_nonneg _), (map_at g2), (beq_eq_false_iff_ne.mpr g3), trivial⟩
theorem l30n_3 (l : List Post) (o : SO) (s : Nat) (hs : SZ o s l) (i : Nat) (g1 : ¬(↑i : Int) < (↑(List.length (List.map Post.pv l)) : Int)) :
    lv (cv (ev X E0) xf30_l0) (rl [0, 2, 0]) 0 (S30 l o s (↑i : Int) (.pv (.sl SO.full 7 []))) = some (XExit.exit 0, St.mk (tmOf 26 [(3, AV.c (.pv (.sl SO.full 7 [])))]) []) :=
  lv_exit [.br false]
    (c := [decide ((↑i : Int) < (↑(List.length (List.map Post.pv l)) : Int)) = false]) (by kernel_rfl)
    ⟨(decide_eq_false g1), trivial⟩
theorem l30o_1 (l : List Post) (o : SO) (s : Nat) (hs : SZ o s l) (j : Nat) (es : List PV) (i : Nat) (y1 : Post) (g1 : (↑i : Int) < (↑(List.length (List.map Post.pv l)) : Int)) (g2 : l[i]? = some y1) (g3 : y1.kind = 0) (g4 : (↑(List.length es + List.length [Post.pv y1]) : Int) * 72 ≤ 140737488355328) :
    lv (cv (ev X E0) xf30_l0) (rl [0, 2, 0]) 0 (S30 l o s (↑i : Int) (.own j 7 es)) = lv (cv (ev X E0) xf30_l0) (rl [0, 2, 0]) 0 (St.mk (tmOf 26 [(0, AV.c (.pv (.sl o s (List.map Post.pv l)))), (3, AV.c (.own 1599 7 (es ++ [Post.pv y1]))), (4, AV.c (vi (IntKind.wrap .i64 ((↑i : Int) + 1))))]) []) :=
  lv_next [.br true, .sz, .el (Post.pv y1), .br true, .sz, .el (Post.pv y1)]
    (c := [decide ((↑i : Int) < (↑(List.length (List.map Post.pv l)) : Int)) = true, SZ o s l, 0 ≤ (↑i : Int), (List.map Post.pv l)[i]? = some (Post.pv y1), (y1.kind == 0) = true, SZ o s l, 0 ≤ (↑i : Int), (List.map Post.pv l)[i]? = some (Post.pv y1), (↑(List.length es + List.length [Post.pv y1]) : Int) * 72 ≤ 140737488355328]) (by kernel_rfl)
    ⟨(decide_eq_true g1), hs, (Int.natCast_nonneg _), (map_at g2), (beq_iff_eq.mpr g3), hs, (Int.natCast_nonneg _), (map_at g2), g4, trivial⟩
theorem l30o_2 (l : List Post) (o : SO) (s : Nat) (hs : SZ o s l) (j : Nat) (es : List PV) (i : Nat) (y1 : Post) (g1 : (↑i : Int) < (↑(List.length (List.map Post.pv l)) : Int)) (g2 : l[i]? = some y1) (g3 : ¬y1.kind = 0) :
    lv (cv (ev X E0) xf30_l0) (rl [0, 2, 0]) 0 (S30 l o s (↑i : Int) (.own j 7 es)) = lv (cv (ev X E0) xf30_l0) (rl [0, 2, 0]) 0 (St.mk (tmOf 26 [(0, AV.c (.pv (.sl o s (List.map Post.pv l)))), (3, AV.c (.own j 7 es)), (4, AV.c (vi (IntKind.wrap .i64 ((↑i : Int) + 1))))]) []) :=
  lv_next [.br true, .sz, .el (Post.pv y1), .br false]
    (c := [decide ((↑i : Int) < (↑(List.length (List.map Post.pv l)) : Int)) = true, SZ o s l, 0 ≤ (↑i : Int), (List.map Post.pv l)[i]? = some (Post.pv y1), (y1.kind == 0) = false]) (by kernel_rfl)
    ⟨(decide_eq_true g1), hs, (Int.natCast_nonneg _), (map_at g2), (beq_eq_false_iff_ne.mpr g3), trivial⟩
theorem l30o_3 (l : List Post) (o : SO) (s : Nat) (hs : SZ o s l) (j : Nat) (es : List PV) (i : Nat) (g1 : ¬(↑i : Int) < (↑(List.length (List.map Post.pv l)) : Int)) :
    lv (cv (ev X E0) xf30_l0) (rl [0, 2, 0]) 0 (S30 l o s (↑i : Int) (.own j 7 es)) = some (XExit.exit 0, St.mk (tmOf 26 [(3, AV.c (.own j 7 es))]) []) :=
  lv_exit [.br false]
    (c := [decide ((↑i : Int) < (↑(List.length (List.map Post.pv l)) : Int)) = false]) (by kernel_rfl)
    ⟨(decide_eq_false g1), trivial⟩
abbrev S31 (l m : List Int) (o q : SO) (s t : Nat) (i : Int) : St := St.mk (tmOf 26 [(0, AV.c (CV.pv (PV.sl o s (List.map pvI l)))), (1, AV.c (CV.pv (PV.sl q t (List.map pvI m)))), (5, AV.c (CV.pv (PV.int .i64 i)))]) []
theorem l31_1 (l : List Int) (m : List Int) (o : SO) (q : SO) (s : Nat) (t : Nat) (hs : szOk 1 (.pv (.sl o s (List.map pvI l))) = true) (ht : szOk 1 (.pv (.sl q t (List.map pvI m))) = true) (i : Nat) (y1 : Int) (y2 : Int) (g1 : (↑i : Int) < (↑(List.length (List.map pvI l)) : Int)) (g2 : l[i]? = some y1) (g3 : m[i]? = some y2) (g4 : ¬y1 = y2) :
    lv (cv (ev X E0) xf31_l0) (rl [0, 0, 3]) 0 (S31 l m o q s t (↑i : Int)) = some (XExit.ret, St.mk (tmOf 26 [(4, AV.c (.pv (.bool false)))]) []) :=
  lv_ret [.br true, .sz, .el (.int .i64 y1), .sz, .el (.int .i64 y2), .br true]
    (c := [decide ((↑i : Int) < (↑(List.length (List.map pvI l)) : Int)) = true, szOk 1 (.pv (.sl o s (List.map pvI l))) = true, 0 ≤ (↑i : Int), (List.map pvI l)[i]? = some (PV.int .i64 y1), szOk 1 (.pv (.sl q t (List.map pvI m))) = true, 0 ≤ (↑i : Int), (List.map pvI m)[i]? = some (PV.int .i64 y2), (y1 != y2) = true]) (by kernel_rfl)
    ⟨(decide_eq_true g1), hs, (Int.natCast_nonneg _), (map_at g2), ht, (Int.natCast_nonneg _), (map_at g3), (bne_iff_ne.mpr g4), trivial⟩
theorem l31_2 (l : List Int) (m : List Int) (o : SO) (q : SO) (s : Nat) (t : Nat) (hs : szOk 1 (.pv (.sl o s (List.map pvI l))) = true) (ht : szOk 1 (.pv (.sl q t (List.map pvI m))) = true) (i : Nat) (y1 : Int) (y2 : Int) (g1 : (↑i : Int) < (↑(List.length (List.map pvI l)) : Int)) (g2 : l[i]? = some y1) (g3 : m[i]? = some y2) (g4 : y1 = y2) :
    lv (cv (ev X E0) xf31_l0) (rl [0, 0, 3]) 0 (S31 l m o q s t (↑i : Int)) = lv (cv (ev X E0) xf31_l0) (rl [0, 0, 3]) 0 (St.mk (tmOf 26 [(0, AV.c (.pv (.sl o s (List.map pvI l)))), (1, AV.c (.pv (.sl q t (List.map pvI m)))), (5, AV.c (vi (IntKind.wrap .i64 ((↑i : Int) + 1))))]) []) :=
  lv_next [.br true, .sz, .el (.int .i64 y1), .sz, .el (.int .i64 y2), .br false]
    (c := [decide ((↑i : Int) < (↑(List.length (List.map pvI l)) : Int)) = true, szOk 1 (.pv (.sl o s (List.map pvI l))) = true, 0 ≤ (↑i : Int), (List.map pvI l)[i]? = some (PV.int .i64 y1), szOk 1 (.pv (.sl q t (List.map pvI m))) = true, 0 ≤ (↑i : Int), (List.map pvI m)[i]? = some (PV.int .i64 y2), (y1 != y2) = false]) (by kernel_rfl)
    ⟨(decide_eq_true g1), hs, (Int.natCast_nonneg _), (map_at g2), ht, (Int.natCast_nonneg _), (map_at g3), (bne_f g4), trivial⟩
theorem l31_3 (l : List Int) (m : List Int) (o : SO) (q : SO) (s : Nat) (t : Nat) (hs : szOk 1 (.pv (.sl o s (List.map pvI l))) = true) (ht : szOk 1 (.pv (.sl q t (List.map pvI m))) = true) (i : Nat) (g1 : ¬(↑i : Int) < (↑(List.length (List.map pvI l)) : Int)) :
    lv (cv (ev X E0) xf31_l0) (rl [0, 0, 3]) 0 (S31 l m o q s t (↑i : Int)) = some (XExit.exit 0, St.mk (tmOf 26 []) []) :=
  lv_exit [.br false]
    (c := [decide ((↑i : Int) < (↑(List.length (List.map pvI l)) : Int)) = false]) (by kernel_rfl)
    ⟨(decide_eq_false g1), trivial⟩
abbrev S32i (l : List Post) (o : SO) (s : Nat) (x : CV) (i : Int) (g : Bool) (k : Int) : St := St.mk (tmOf 51 [(0, AV.c (CV.pv (PV.sl o s (List.map Post.pv l)))), (3, AV.c x), (4, AV.c (CV.pv (PV.int .i64 i))), (5, AV.c (CV.pv (PV.bool g))), (6, AV.c (CV.pv (PV.int .i64 k)))]) []
theorem l32in_1 (l : List Post) (o : SO) (s : Nat) (hs : SZ o s l) (i : Nat) (p : Post) (hp : l[i]? = some p) (g : Bool) (k : Nat) (g1 : (↑k : Int) < (↑(List.length (List.map Post.pv l)) : Int)) (g2 : g = true) :
    lv (cv (ev X E0) xf32_l0) (rl [0, 2, 0, 0, 0]) 0 (S32i l o s (.pv (.sl SO.full 1 [])) (↑i : Int) g (↑k : Int)) = lv (cv (ev X E0) xf32_l0) (rl [0, 2, 0, 0, 0]) 0 (St.mk (tmOf 51 [(0, AV.c (.pv (.sl o s (List.map Post.pv l)))), (3, AV.c (.pv (.sl SO.full 1 []))), (4, AV.c (vi (↑i : Int))), (5, AV.c (.pv (.bool true))), (6, AV.c (vi (IntKind.wrap .i64 ((↑k : Int) + 1))))]) []) :=
  lv_next [.br true, .br true, .br true, .br true, .br true, .br true, .br true, .br true, .br true, .br true, .br true, .br true, .br true]
    (c := [decide ((↑k : Int) < (↑(List.length (List.map Post.pv l)) : Int)) = true, g = true, g = true, g = true, g = true, g = true, g = true, g = true, g = true, g = true, g = true, g = true, g = true]) (by kernel_rfl)
    ⟨(decide_eq_true g1), g2, g2, g2, g2, g2, g2, g2, g2, g2, g2, g2, g2, trivial⟩
theorem l32in_2 (l : List Post) (o : SO) (s : Nat) (hs : SZ o s l) (i : Nat) (p : Post) (hp : l[i]? = some p) (g : Bool) (k : Nat) (y1 : Post) (g1 : (↑k : Int) < (↑(List.length (List.map Post.pv l)) : Int)) (g2 : g = false) (g3 : l[k]? = some y1) :
    lv (cv (ev X E0) xf32_l0) (rl [0, 2, 0, 0, 0]) 0 (S32i l o s (.pv (.sl SO.full 1 [])) (↑i : Int) g (↑k : Int)) = lv (cv (ev X E0) xf32_l0) (rl [0, 2, 0, 0, 0]) 0 (St.mk (tmOf 51 [(0, AV.c (.pv (.sl o s (List.map Post.pv l)))), (3, AV.c (.pv (.sl SO.full 1 []))), (4, AV.c (vi (↑i : Int))), (5, AV.c (.pv (.bool (y1.rev == p.id)))), (6, AV.c (vi (IntKind.wrap .i64 ((↑k : Int) + 1))))]) []) :=
  lv_next [.br true, .br false, .br false, .br false, .sz, .el (Post.pv y1), .br false, .br false, .br false, .br false, .br false, .sz, .el (Post.pv p), .br false, .br false, .br false, .br false]
    (c := [decide ((↑k : Int) < (↑(List.length (List.map Post.pv l)) : Int)) = true, g = false, g = false, g = false, SZ o s l, 0 ≤ (↑k : Int), (List.map Post.pv l)[k]? = some (Post.pv y1), g = false, g = false, g = false, g = false, g = false, SZ o s l, 0 ≤ (↑i : Int), (List.map Post.pv l)[i]? = some (Post.pv p), g = false, g = false, g = false, g = false]) (by kernel_rfl)
    ⟨(decide_eq_true g1), g2, g2, g2, hs, (Int.natCast_nonneg _), (map_at g3), g2, g2, g2, g2, g2, hs, (Int.natCast_nonneg _), (map_at hp), g2, g2, g2, g2, trivial⟩
theorem l32in_3 (l : List Post) (o : SO) (s : Nat) (hs : SZ o s l) (i : Nat) (p : Post) (hp : l[i]? = some p) (g : Bool) (k : Nat) (g1 : ¬(↑k : Int) < (↑(List.length (List.map Post.pv l)) : Int)) :
    lv (cv (ev X E0) xf32_l0) (rl [0, 2, 0, 0, 0]) 0 (S32i l o s (.pv (.sl SO.full 1 [])) (↑i : Int) g (↑k : Int)) = some (XExit.exit 2, St.mk (tmOf 51 [(0, AV.c (.pv (.sl o s (List.map Post.pv l)))), (3, AV.c (.pv (.sl SO.full 1 []))), (4, AV.c (vi (↑i : Int))), (5, AV.c (.pv (.bool g)))]) []) :=
  lv_exit [.br false]
    (c := [decide ((↑k : Int) < (↑(List.length (List.map Post.pv l)) : Int)) = false]) (by kernel_rfl)
    ⟨(decide_eq_false g1), trivial⟩
theorem l32io_1 (l : List Post) (o : SO) (s : Nat) (hs : SZ o s l) (j : Nat) (es : List PV) (i : Nat) (p : Post) (hp : l[i]? = some p) (g : Bool) (k : Nat) (g1 : (↑k : Int) < (↑(List.length (List.map Post.pv l)) : Int)) (g2 : g = true) :
    lv (cv (ev X E0) xf32_l0) (rl [0, 2, 0, 0, 0]) 0 (S32i l o s (.own j 1 es) (↑i : Int) g (↑k : Int)) = lv (cv (ev X E0) xf32_l0) (rl [0, 2, 0, 0, 0]) 0 (St.mk (tmOf 51 [(0, AV.c (.pv (.sl o s (List.map Post.pv l)))), (3, AV.c (.own j 1 es)), (4, AV.c (vi (↑i : Int))), (5, AV.c (.pv (.bool true))), (6, AV.c (vi (IntKind.wrap .i64 ((↑k : Int) + 1))))]) []) :=
  lv_next [.br true, .br true, .br true, .br true, .br true, .br true, .br true, .br true, .br true, .br true, .br true, .br true, .br true]
    (c := [decide ((↑k : Int) < (↑(List.length (List.map Post.pv l)) : Int)) = true, g = true, g = true, g = true, g = true, g = true, g = true, g = true, g = true, g = true, g = true, g = true, g = true]) (by kernel_rfl)
    ⟨(decide_eq_true g1), g2, g2, g2, g2, g2, g2, g2, g2, g2, g2, g2, g2, trivial⟩
theorem l32io_2 (l : List Post) (o : SO) (s : Nat) (hs : SZ o s l) (j : Nat) (es : List PV) (i : Nat) (p : Post) (hp : l[i]? = some p) (g : Bool) (k : Nat) (y1 : Post) (g1 : (↑k : Int) < (↑(List.length (List.map Post.pv l)) : Int)) (g2 : g = false) (g3 : l[k]? = some y1) :
    lv (cv (ev X E0) xf32_l0) (rl [0, 2, 0, 0, 0]) 0 (S32i l o s (.own j 1 es) (↑i : Int) g (↑k : Int)) = lv (cv (ev X E0) xf32_l0) (rl [0, 2, 0, 0, 0]) 0 (St.mk (tmOf 51 [(0, AV.c (.pv (.sl o s (List.map Post.pv l)))), (3, AV.c (.own j 1 es)), (4, AV.c (vi (↑i : Int))), (5, AV.c (.pv (.bool (y1.rev == p.id)))), (6, AV.c (vi (IntKind.wrap .i64 ((↑k : Int) + 1))))]) []) :=
  lv_next [.br true, .br false, .br false, .br false, .sz, .el (Post.pv y1), .br false, .br false, .br false, .br false, .br false, .sz, .el (Post.pv p), .br false, .br false, .br false, .br false]
    (c := [decide ((↑k : Int) < (↑(List.length (List.map Post.pv l)) : Int)) = true, g = false, g = false, g = false, SZ o s l, 0 ≤ (↑k : Int), (List.map Post.pv l)[k]? = some (Post.pv y1), g = false, g = false, g = false, g = false, g = false, SZ o s l, 0 ≤ (↑i : Int), (List.map Post.pv l)[i]? = some (Post.pv p), g = false, g = false, g = false, g = false]) (by kernel_rfl)
    ⟨(decide_eq_true g1), g2, g2, g2, hs, (Int.natCast_nonneg _), (map_at g3), g2, g2, g2, g2, g2, hs, (Int.natCast_nonneg _), (map_at hp), g2, g2, g2, g2, trivial⟩
theorem l32io_3 (l : List Post) (o : SO) (s : Nat) (hs : SZ o s l) (j : Nat) (es : List PV) (i : Nat) (p : Post) (hp : l[i]? = some p) (g : Bool) (k : Nat) (g1 : ¬(↑k : Int) < (↑(List.length (List.map Post.pv l)) : Int)) :
    lv (cv (ev X E0) xf32_l0) (rl [0, 2, 0, 0, 0]) 0 (S32i l o s (.own j 1 es) (↑i : Int) g (↑k : Int)) = some (XExit.exit 2, St.mk (tmOf 51 [(0, AV.c (.pv (.sl o s (List.map Post.pv l)))), (3, AV.c (.own j 1 es)), (4, AV.c (vi (↑i : Int))), (5, AV.c (.pv (.bool g)))]) []) :=
  lv_exit [.br false]
    (c := [decide ((↑k : Int) < (↑(List.length (List.map Post.pv l)) : Int)) = false]) (by kernel_rfl)
    ⟨(decide_eq_false g1), trivial⟩
abbrev S32 (l : List Post) (o : SO) (s : Nat) (x : CV) (i : Int) : St := St.mk (tmOf 51 [(0, AV.c (CV.pv (PV.sl o s (List.map Post.pv l)))), (3, AV.c x), (4, AV.c (CV.pv (PV.int .i64 i)))]) []
abbrev E32 (l : List Post) (o : SO) (s : Nat) (x : CV) (i : Int) (g : Bool) : St := St.mk (tmOf 51 [(0, AV.c (CV.pv (PV.sl o s (List.map Post.pv l)))), (3, AV.c x), (4, AV.c (vi i)), (5, AV.c (CV.pv (PV.bool g)))]) []
theorem l32n_1 (l : List Post) (o : SO) (s : Nat) (hs : SZ o s l) (i : Nat) (p : Post) (hp : l[i]? = some p) (g : Bool) (h : lv (cv (ev X E0) xf32_l0) (rl [0, 2, 0, 0, 0]) 0 (S32i l o s (.pv (.sl SO.full 1 [])) (↑i : Int) (decide (p.rev > 0)) 0) = some (XExit.exit 2, E32 l o s (.pv (.sl SO.full 1 [])) (↑i : Int) g)) (g1 : (↑i : Int) < (↑(List.length (List.map Post.pv l)) : Int)) (g2 : g = false) (g3 : (↑(0 + List.length [PV.int .i64 p.id]) : Int) * 8 ≤ 140737488355328) :
    lv (cv (ev X E0) xf32_l1) (rl [0, 2, 0]) 0 (S32 l o s (.pv (.sl SO.full 1 [])) (↑i : Int)) = lv (cv (ev X E0) xf32_l1) (rl [0, 2, 0]) 0 (St.mk (tmOf 51 [(0, AV.c (.pv (.sl o s (List.map Post.pv l)))), (3, AV.c (.own 3199 1 [PV.int .i64 p.id])), (4, AV.c (vi (IntKind.wrap .i64 ((↑i : Int) + 1))))]) []) :=
  lv_next [.br true, .sz, .el (Post.pv p), .loop (XExit.exit 2) (St.mk (tmOf 51 [(0, AV.c (.pv (.sl o s (List.map Post.pv l)))), (3, AV.c (.pv (.sl SO.full 1 []))), (4, AV.c (vi (↑i : Int))), (5, AV.c (.pv (.bool g)))]) []), .br true, .sz, .el (Post.pv p), .emp false]
    (c := [decide ((↑i : Int) < (↑(List.length (List.map Post.pv l)) : Int)) = true, SZ o s l, 0 ≤ (↑i : Int), (List.map Post.pv l)[i]? = some (Post.pv p), lv (cv (ev X E0) xf32_l0) (rl [0, 2, 0, 0, 0]) 0 (St.mk (tmOf 51 [(0, AV.c (.pv (.sl o s (List.map Post.pv l)))), (3, AV.c (.pv (.sl SO.full 1 []))), (4, AV.c (vi (↑i : Int))), (5, AV.c (.pv (.bool (decide (p.rev > 0))))), (6, AV.c (vi 0))]) []) = some (XExit.exit 2, St.mk (tmOf 51 [(0, AV.c (.pv (.sl o s (List.map Post.pv l)))), (3, AV.c (.pv (.sl SO.full 1 []))), (4, AV.c (vi (↑i : Int))), (5, AV.c (.pv (.bool g)))]) []), (!g) = true, SZ o s l, 0 ≤ (↑i : Int), (List.map Post.pv l)[i]? = some (Post.pv p), [PV.int .i64 p.id] ≠ [], (↑(0 + List.length [PV.int .i64 p.id]) : Int) * 8 ≤ 140737488355328]) (by kernel_rfl)
    ⟨(decide_eq_true g1), hs, (Int.natCast_nonneg _), (map_at hp), (h), (not_t g2), hs, (Int.natCast_nonneg _), (map_at hp), (List.cons_ne_nil _ _), g3, trivial⟩
theorem l32n_2 (l : List Post) (o : SO) (s : Nat) (hs : SZ o s l) (i : Nat) (p : Post) (hp : l[i]? = some p) (g : Bool) (h : lv (cv (ev X E0) xf32_l0) (rl [0, 2, 0, 0, 0]) 0 (S32i l o s (.pv (.sl SO.full 1 [])) (↑i : Int) (decide (p.rev > 0)) 0) = some (XExit.exit 2, E32 l o s (.pv (.sl SO.full 1 [])) (↑i : Int) g)) (g1 : (↑i : Int) < (↑(List.length (List.map Post.pv l)) : Int)) (g2 : g = true) :
    lv (cv (ev X E0) xf32_l1) (rl [0, 2, 0]) 0 (S32 l o s (.pv (.sl SO.full 1 [])) (↑i : Int)) = lv (cv (ev X E0) xf32_l1) (rl [0, 2, 0]) 0 (St.mk (tmOf 51 [(0, AV.c (.pv (.sl o s (List.map Post.pv l)))), (3, AV.c (.pv (.sl SO.full 1 []))), (4, AV.c (vi (IntKind.wrap .i64 ((↑i : Int) + 1))))]) []) :=
  lv_next [.br true, .sz, .el (Post.pv p), .loop (XExit.exit 2) (St.mk (tmOf 51 [(0, AV.c (.pv (.sl o s (List.map Post.pv l)))), (3, AV.c (.pv (.sl SO.full 1 []))), (4, AV.c (vi (↑i : Int))), (5, AV.c (.pv (.bool g)))]) []), .br false]
    (c := [decide ((↑i : Int) < (↑(List.length (List.map Post.pv l)) : Int)) = true, SZ o s l, 0 ≤ (↑i : Int), (List.map Post.pv l)[i]? = some (Post.pv p), lv (cv (ev X E0) xf32_l0) (rl [0, 2, 0, 0, 0]) 0 (St.mk (tmOf 51 [(0, AV.c (.pv (.sl o s (List.map Post.pv l)))), (3, AV.c (.pv (.sl SO.full 1 []))), (4, AV.c (vi (↑i : Int))), (5, AV.c (.pv (.bool (decide (p.rev > 0))))), (6, AV.c (vi 0))]) []) = some (XExit.exit 2, St.mk (tmOf 51 [(0, AV.c (.pv (.sl o s (List.map Post.pv l)))), (3, AV.c (.pv (.sl SO.full 1 []))), (4, AV.c (vi (↑i : Int))), (5, AV.c (.pv (.bool g)))]) []), (!g) = false]) (by kernel_rfl)
    ⟨(decide_eq_true g1), hs, (Int.natCast_nonneg _), (map_at hp), (h), (not_f g2), trivial⟩
theorem l32o_1 (l : List Post) (o : SO) (s : Nat) (hs : SZ o s l) (es : List PV) (i : Nat) (p : Post) (hp : l[i]? = some p) (g : Bool) (h : lv (cv (ev X E0) xf32_l0) (rl [0, 2, 0, 0, 0]) 0 (S32i l o s (.own 3199 1 es) (↑i : Int) (decide (p.rev > 0)) 0) = some (XExit.exit 2, E32 l o s (.own 3199 1 es) (↑i : Int) g)) (g1 : (↑i : Int) < (↑(List.length (List.map Post.pv l)) : Int)) (g2 : g = false) (g3 : (↑(List.length es + List.length [PV.int .i64 p.id]) : Int) * 8 ≤ 140737488355328) :
    lv (cv (ev X E0) xf32_l1) (rl [0, 2, 0]) 0 (S32 l o s (.own 3199 1 es) (↑i : Int)) = lv (cv (ev X E0) xf32_l1) (rl [0, 2, 0]) 0 (St.mk (tmOf 51 [(0, AV.c (.pv (.sl o s (List.map Post.pv l)))), (3, AV.c (.own 3199 1 (es ++ [PV.int .i64 p.id]))), (4, AV.c (vi (IntKind.wrap .i64 ((↑i : Int) + 1))))]) []) :=
  lv_next [.br true, .sz, .el (Post.pv p), .loop (XExit.exit 2) (St.mk (tmOf 51 [(0, AV.c (.pv (.sl o s (List.map Post.pv l)))), (3, AV.c (.own 3199 1 es)), (4, AV.c (vi (↑i : Int))), (5, AV.c (.pv (.bool g)))]) []), .br true, .sz, .el (Post.pv p)]
    (c := [decide ((↑i : Int) < (↑(List.length (List.map Post.pv l)) : Int)) = true, SZ o s l, 0 ≤ (↑i : Int), (List.map Post.pv l)[i]? = some (Post.pv p), lv (cv (ev X E0) xf32_l0) (rl [0, 2, 0, 0, 0]) 0 (St.mk (tmOf 51 [(0, AV.c (.pv (.sl o s (List.map Post.pv l)))), (3, AV.c (.own 3199 1 es)), (4, AV.c (vi (↑i : Int))), (5, AV.c (.pv (.bool (decide (p.rev > 0))))), (6, AV.c (vi 0))]) []) = some (XExit.exit 2, St.mk (tmOf 51 [(0, AV.c (.pv (.sl o s (List.map Post.pv l)))), (3, AV.c (.own 3199 1 es)), (4, AV.c (vi (↑i : Int))), (5, AV.c (.pv (.bool g)))]) []), (!g) = true, SZ o s l, 0 ≤ (↑i : Int), (List.map Post.pv l)[i]? = some (Post.pv p), (↑(List.length es + List.length [PV.int .i64 p.id]) : Int) * 8 ≤ 140737488355328]) (by kernel_rfl)
    ⟨(decide_eq_true g1), hs, (Int.natCast_nonneg _), (map_at hp), (h), (not_t g2), hs, (Int.natCast_nonneg _), (map_at hp), g3, trivial⟩
theorem l32o_2 (l : List Post) (o : SO) (s : Nat) (hs : SZ o s l) (es : List PV) (i : Nat) (p : Post) (hp : l[i]? = some p) (g : Bool) (h : lv (cv (ev X E0) xf32_l0) (rl [0, 2, 0, 0, 0]) 0 (S32i l o s (.own 3199 1 es) (↑i : Int) (decide (p.rev > 0)) 0) = some (XExit.exit 2, E32 l o s (.own 3199 1 es) (↑i : Int) g)) (g1 : (↑i : Int) < (↑(List.length (List.map Post.pv l)) : Int)) (g2 : g = true) :
    lv (cv (ev X E0) xf32_l1) (rl [0, 2, 0]) 0 (S32 l o s (.own 3199 1 es) (↑i : Int)) = lv (cv (ev X E0) xf32_l1) (rl [0, 2, 0]) 0 (St.mk (tmOf 51 [(0, AV.c (.pv (.sl o s (List.map Post.pv l)))), (3, AV.c (.own 3199 1 es)), (4, AV.c (vi (IntKind.wrap .i64 ((↑i : Int) + 1))))]) []) :=
  lv_next [.br true, .sz, .el (Post.pv p), .loop (XExit.exit 2) (St.mk (tmOf 51 [(0, AV.c (.pv (.sl o s (List.map Post.pv l)))), (3, AV.c (.own 3199 1 es)), (4, AV.c (vi (↑i : Int))), (5, AV.c (.pv (.bool g)))]) []), .br false]
    (c := [decide ((↑i : Int) < (↑(List.length (List.map Post.pv l)) : Int)) = true, SZ o s l, 0 ≤ (↑i : Int), (List.map Post.pv l)[i]? = some (Post.pv p), lv (cv (ev X E0) xf32_l0) (rl [0, 2, 0, 0, 0]) 0 (St.mk (tmOf 51 [(0, AV.c (.pv (.sl o s (List.map Post.pv l)))), (3, AV.c (.own 3199 1 es)), (4, AV.c (vi (↑i : Int))), (5, AV.c (.pv (.bool (decide (p.rev > 0))))), (6, AV.c (vi 0))]) []) = some (XExit.exit 2, St.mk (tmOf 51 [(0, AV.c (.pv (.sl o s (List.map Post.pv l)))), (3, AV.c (.own 3199 1 es)), (4, AV.c (vi (↑i : Int))), (5, AV.c (.pv (.bool g)))]) []), (!g) = false]) (by kernel_rfl)
    ⟨(decide_eq_true g1), hs, (Int.natCast_nonneg _), (map_at hp), (h), (not_f g2), trivial⟩
theorem l32xn_1 (l : List Post) (o : SO) (s : Nat) (i : Nat) (hi : ¬(↑i : Int) < (↑(List.length (List.map Post.pv l)) : Int)) :
    lv (cv (ev X E0) xf32_l1) (rl [0, 2, 0]) 0 (S32 l o s (.pv (.sl SO.full 1 [])) (↑i : Int)) = some (XExit.exit 0, St.mk (tmOf 51 [(3, AV.c (.pv (.sl SO.full 1 [])))]) []) :=
  lv_exit [.br false]
    (c := [decide ((↑i : Int) < (↑(List.length (List.map Post.pv l)) : Int)) = false]) (by kernel_rfl)
    ⟨(decide_eq_false hi), trivial⟩
theorem l32xo_1 (l : List Post) (o : SO) (s : Nat) (es : List PV) (i : Nat) (hi : ¬(↑i : Int) < (↑(List.length (List.map Post.pv l)) : Int)) :
    lv (cv (ev X E0) xf32_l1) (rl [0, 2, 0]) 0 (S32 l o s (.own 3199 1 es) (↑i : Int)) = some (XExit.exit 0, St.mk (tmOf 51 [(3, AV.c (.own 3199 1 es))]) []) :=
  lv_exit [.br false]
    (c := [decide ((↑i : Int) < (↑(List.length (List.map Post.pv l)) : Int)) = false]) (by kernel_rfl)
    ⟨(decide_eq_false hi), trivial⟩
def samesB (l m : List Post) : Bool := decide (l.length = m.length) && !(l.zip m).any fun q => !same q.1 q.2
theorem zip_atP {l m : List Post} {i : Nat} {q : Post × Post} (h : (l.zip m)[i]? = some q) : l[i]? = some q.1 ∧ m[i]? = some q.2 := by
  rw [List.getElem?_zip_eq_some] at h
  exact h
theorem a27 {l m : List Post} {o q : SO} {s t : Nat} (hs : szOk 7 (CV.pv (PV.sl o s (List.map Post.pv l))) = true) (ht : szOk 7 (CV.pv (PV.sl q t (List.map Post.pv m))) = true) (hl : l.length ≤ 1000000) (hN : ∀ p ∈ l, p.legs.length ≤ 1000000) (he : l.length = m.length) :
    lv (cv (ev X E0) xf27_l0) (rl [0, 0, 3]) 0 (S27 l m o q s t 0) = some (if ((l.zip m).any fun q => !same q.1 q.2) = true then (XExit.ret, St.mk (tmOf 27 [(4, AV.c (CV.pv (PV.bool false)))]) []) else (XExit.exit 0, St.mk (tmOf 27 []) [])) := by
  have hz : (l.zip m).length = l.length := by rw [List.length_zip]; omega
  refine lv_scan (l := l.zip m) (S27 l m o q s t) (by rw [hz]; exact l27_3 l m o q s t hs ht l.length (by simp)) (fun i y hat hlt hw => ?_) fun i y hat hlt hw => ?_
  · obtain ⟨h1, h2⟩ := zip_atP hat
    exact l27_1 l m o q s t hs ht i y.1 y.2 (ltP (by omega)) h1 h2 (hN _ (List.mem_of_getElem? h1)) (by simpa using hw)
  · obtain ⟨h1, h2⟩ := zip_atP hat
    have := l27_2 l m o q s t hs ht i y.1 y.2 (ltP (by omega)) h1 h2 (hN _ (List.mem_of_getElem? h1)) (by simpa using hw)
    rwa [wi64 (by omega) (by omega)] at this
theorem f27n_1 (l : List Post) (m : List Post) (o : SO) (q : SO) (s : Nat) (t : Nat) (hne : ¬(↑(List.length (List.map Post.pv l)) : Int) = (↑(List.length (List.map Post.pv m)) : Int)) :
    cc (ev X E0) 27 [AV.c (.pv (.sl o s (List.map Post.pv l))), AV.c (.pv (.sl q t (List.map Post.pv m)))] [] = some (AV.c (.pv (.bool false)), []) :=
  cc_path (x := xf27) rfl [.br true]
    (c := [((↑(List.length (List.map Post.pv l)) : Int) != (↑(List.length (List.map Post.pv m)) : Int)) = true]) (by kernel_rfl)
    ⟨(bne_iff_ne.mpr hne), trivial⟩
theorem f27a_1 (l : List Post) (m : List Post) (o : SO) (q : SO) (s : Nat) (t : Nat) (he : (↑(List.length (List.map Post.pv l)) : Int) = (↑(List.length (List.map Post.pv m)) : Int)) (h : lv (cv (ev X E0) xf27_l0) (rl [0, 0, 3]) 0 (S27 l m o q s t 0) = some (XExit.exit 0, St.mk (tmOf 27 []) [])) :
    cc (ev X E0) 27 [AV.c (.pv (.sl o s (List.map Post.pv l))), AV.c (.pv (.sl q t (List.map Post.pv m)))] [] = some (AV.c (.pv (.bool true)), []) :=
  cc_path (x := xf27) rfl [.br false, .loop (XExit.exit (0 : Nat)) (St.mk (tmOf (27 : Nat) []) [])]
    (c := [((↑(List.length (List.map Post.pv l)) : Int) != (↑(List.length (List.map Post.pv m)) : Int)) = false, lv (cv (ev X E0) xf27_l0) (rl [0, 0, 3]) 0 (St.mk (tmOf 27 [(0, AV.c (.pv (.sl o s (List.map Post.pv l)))), (1, AV.c (.pv (.sl q t (List.map Post.pv m)))), (5, AV.c (vi 0))]) []) = some (XExit.exit 0, St.mk (tmOf 27 []) [])]) (by kernel_rfl)
    ⟨(bne_f he), (h), trivial⟩
theorem f27b_1 (l : List Post) (m : List Post) (o : SO) (q : SO) (s : Nat) (t : Nat) (he : (↑(List.length (List.map Post.pv l)) : Int) = (↑(List.length (List.map Post.pv m)) : Int)) (h : lv (cv (ev X E0) xf27_l0) (rl [0, 0, 3]) 0 (S27 l m o q s t 0) = some (XExit.ret, St.mk (tmOf 27 [(4, AV.c (.pv (.bool false)))]) [])) :
    cc (ev X E0) 27 [AV.c (.pv (.sl o s (List.map Post.pv l))), AV.c (.pv (.sl q t (List.map Post.pv m)))] [] = some (AV.c (.pv (.bool false)), []) :=
  cc_path (x := xf27) rfl [.br false, .loop XExit.ret (St.mk (tmOf (27 : Nat) [((4 : Nat), AV.c (.pv (.bool false)))]) [])]
    (c := [((↑(List.length (List.map Post.pv l)) : Int) != (↑(List.length (List.map Post.pv m)) : Int)) = false, lv (cv (ev X E0) xf27_l0) (rl [0, 0, 3]) 0 (St.mk (tmOf 27 [(0, AV.c (.pv (.sl o s (List.map Post.pv l)))), (1, AV.c (.pv (.sl q t (List.map Post.pv m)))), (5, AV.c (vi 0))]) []) = some (XExit.ret, St.mk (tmOf 27 [(4, AV.c (.pv (.bool false)))]) [])]) (by kernel_rfl)
    ⟨(bne_f he), (h), trivial⟩
theorem s27 {l m : List Post} {o q : SO} {s t : Nat} (hs : szOk 7 (CV.pv (PV.sl o s (List.map Post.pv l))) = true) (ht : szOk 7 (CV.pv (PV.sl q t (List.map Post.pv m))) = true) (hl : l.length ≤ 1000000) (hN : ∀ p ∈ l, p.legs.length ≤ 1000000) :
    cc (ev X E0) 27 [AV.sl o s (l.map Post.pv), AV.sl q t (m.map Post.pv)] [] = some (.b (samesB l m), []) := by
  unfold samesB
  by_cases he : l.length = m.length
  · have a := a27 hs ht hl hN he
    have hh : (↑(List.length (List.map Post.pv l)) : Int) = (↑(List.length (List.map Post.pv m)) : Int) := by rw [lenP, lenP]; omega
    rw [decide_eq_true he, Bool.true_and]
    cases hz : (l.zip m).any fun q => !same q.1 q.2 with
    | true => rw [hz] at a; exact f27b_1 l m o q s t hh a
    | false => rw [hz] at a; exact f27a_1 l m o q s t hh a
  · rw [f27n_1 l m o q s t (by rw [lenP, lenP]; omega), decide_eq_false he]; rfl
theorem leastV_snoc (l : List Post) (y : Post) : leastV (l ++ [y]) = if l.isEmpty then y.value else if y.value < leastV l then y.value else leastV l := by
  cases l with
  | nil => rfl
  | cons p r =>
    simp only [List.cons_append, leastV, List.foldl_append, List.foldl_cons, List.foldl_nil, List.isEmpty_cons, Bool.false_eq_true, if_false]
    have h : ∀ z : Post, (lesser z y).value = if y.value < z.value then y.value else z.value := by
      intro z
      unfold lesser
      by_cases c : y.value < z.value <;> simp [c]
    exact h _
theorem a28 {l : List Post} {o : SO} {s : Nat} (hs : szOk 7 (CV.pv (PV.sl o s (List.map Post.pv l))) = true) {k : Int} {w : Post → Bool} (hw : ∀ p, w p = decide (p.id > k)) (hl : l.length ≤ 1000000) : ∀ (r pre : List Post), l = pre ++ r →
    lv (cv (ev X E0) xf28_l0) (rl [0, 0, 4, 0, 0]) 0 (S28 l o s k (pre.length : Nat) (leastV (pre.filter w)) (!(pre.filter w).isEmpty)) = some (XExit.exit 0, St.mk (tmOf 42 [(6, AV.c (vw (leastV (l.filter w)))), (7, AV.c (CV.pv (PV.bool (!(l.filter w).isEmpty))))]) [])
  | [], pre, e => by
    rw [List.append_nil] at e
    subst e
    exact l28_5 l o s hs k _ _ l.length (by simp)
  | y :: r, pre, e => by
    have hlen : l.length = pre.length + r.length + 1 := by rw [e]; simp; omega
    have hat : l[pre.length]? = some y := by rw [e]; simp
    have hlt := ltP (l := l) (i := pre.length) (by omega)
    have ih := a28 hs hw hl r (pre ++ [y]) (by rw [e]; simp)
    rw [List.length_append, List.length_singleton, Int.natCast_add, Int.natCast_one, List.filter_append] at ih
    by_cases c : y.id > k
    · have hy : [y].filter w = [y] := by simp [hw, c]
      rw [hy, leastV_snoc, show (pre.filter w ++ [y]).isEmpty = false by simp] at ih
      cases he : (pre.filter w).isEmpty with
      | true =>
        have st := l28_1 l o s hs k (leastV (pre.filter w)) (!true) pre.length y hlt hat c rfl
        rw [wi64 (by omega) (by omega)] at st
        rw [he, if_pos rfl] at ih
        exact st.trans ih
      | false =>
        rw [he, if_neg (by simp)] at ih
        by_cases c2 : y.value < leastV (pre.filter w)
        · have st := l28_2 l o s hs k (leastV (pre.filter w)) (!false) pre.length y hlt hat c rfl c2
          rw [wi64 (by omega) (by omega)] at st
          rw [if_pos c2] at ih
          exact st.trans ih
        · have st := l28_3 l o s hs k (leastV (pre.filter w)) (!false) pre.length y hlt hat c rfl c2
          rw [wi64 (by omega) (by omega)] at st
          rw [if_neg c2] at ih
          exact st.trans ih
    · have hy : [y].filter w = [] := by simp [hw, c]
      rw [hy, List.append_nil] at ih
      have st := l28_4 l o s hs k (leastV (pre.filter w)) (!(pre.filter w).isEmpty) pre.length y hlt hat c
      rw [wi64 (by omega) (by omega)] at st
      exact st.trans ih
theorem f28_1 (l : List Post) (o : SO) (s : Nat) (k : Int) (d : Int) (b : Bool) (h : lv (cv (ev X E0) xf28_l0) (rl [0, 0, 4, 0, 0]) 0 (S28 l o s k 0 0 false) = some (XExit.exit 0, St.mk (tmOf 42 [(6, AV.c (vw d)), (7, AV.c (.pv (.bool b)))]) [])) :
    cc (ev X E0) 28 [AV.c (.pv (.sl o s (List.map Post.pv l))), AV.c (vi k)] [] = some (AV.tup [AV.c (vw d), AV.c (.pv (.bool b))], []) :=
  cc_path (x := xf28) rfl [.loop (XExit.exit 0) (St.mk (tmOf 42 [(6, AV.c (vw d)), (7, AV.c (.pv (.bool b)))]) [])]
    (c := [lv (cv (ev X E0) xf28_l0) (rl [0, 0, 4, 0, 0]) 0 (St.mk (tmOf 42 [(0, AV.c (.pv (.sl o s (List.map Post.pv l)))), (1, AV.c (vi k)), (6, AV.c (vw 0)), (7, AV.c (.pv (.bool false))), (8, AV.c (vi 0))]) []) = some (XExit.exit 0, St.mk (tmOf 42 [(6, AV.c (vw d)), (7, AV.c (.pv (.bool b)))]) [])]) (by kernel_rfl)
    ⟨(h), trivial⟩
theorem s28 {l : List Post} {o : SO} {s : Nat} (hs : szOk 7 (CV.pv (PV.sl o s (List.map Post.pv l))) = true) (k : Int) (hl : l.length ≤ 1000000) : cc (ev X E0) 28 [AV.sl o s (l.map Post.pv), AV.i k] [] = some (.tup [.int .i32 (leastV (l.filter fun p => decide (p.id > k))), .b (!(l.filter fun p => decide (p.id > k)).isEmpty)], []) :=
  f28_1 l o s k _ _ (a28 hs (w := fun p => decide (p.id > k)) (fun _ => rfl) hl l [] rfl)
def outF (n : Nat) (es : List Post) : CV := if es.isEmpty then CV.pv (PV.sl SO.full 7 []) else CV.own n 7 (es.map Post.pv)
theorem outF_snoc (n : Nat) (es : List Post) (y : Post) : outF n (es ++ [y]) = CV.own n 7 (es.map Post.pv ++ [Post.pv y]) := by
  unfold outF
  rw [if_neg (by simp)]; simp
theorem outF_cases (n : Nat) (es : List Post) : (es = [] ∧ outF n es = CV.pv (PV.sl SO.full 7 [])) ∨ outF n es = CV.own n 7 (es.map Post.pv) := by
  unfold outF; cases es <;> simp
def outFP (es : List Post) : PV := if es.isEmpty then PV.sl SO.full 7 [] else PV.sl .shut 7 (es.map Post.pv)
theorem a29 {l : List Post} {o : SO} {s : Nat} (hs : szOk 7 (CV.pv (PV.sl o s (List.map Post.pv l))) = true) {k v : Int} (hl : l.length ≤ 1000000) : ∀ (r pre : List Post), l = pre ++ r →
    lv (cv (ev X E0) xf29_l0) (rl [0, 0, 0, 4, 0]) 0 (S29 l o s k v (pre.length : Nat) (outF 2495 (pre.filter (within k v)))) = some (XExit.exit 0, St.mk (tmOf 40 [(7, AV.c (outF 2495 (l.filter (within k v))))]) [])
  | [], pre, e => by
    rw [List.append_nil] at e
    subst e
    rcases outF_cases 2495 (l.filter (within k v)) with ⟨_, h0⟩ | h0
    · rw [h0]; exact l29n_4 l o s hs k v l.length (by simp)
    · rw [h0]; exact l29o_4 l o s hs k v _ _ l.length (by simp)
  | y :: r, pre, e => by
    have hlen : l.length = pre.length + r.length + 1 := by rw [e]; simp; omega
    have hat : l[pre.length]? = some y := by rw [e]; simp
    have hlt := ltP (l := l) (i := pre.length) (by omega)
    have hfl : (pre.filter (within k v)).length ≤ pre.length := List.length_filter_le _ _
    have ih := a29 (k := k) (v := v) hs hl r (pre ++ [y]) (by rw [e]; simp)
    rw [List.length_append, List.length_singleton, Int.natCast_add, Int.natCast_one, List.filter_append] at ih
    by_cases c : y.known ≤ k
    · by_cases c2 : y.value ≤ v
      · rw [show [y].filter (within k v) = [y] by simp [within, c, c2], outF_snoc] at ih
        rcases outF_cases 2495 (pre.filter (within k v)) with ⟨h1, h0⟩ | h0
        · have st := l29n_1 l o s hs k v pre.length y hlt hat c c2 (by simp)
          rw [wi64 (by omega) (by omega)] at st
          rw [h1] at ih
          rw [h0]; exact st.trans ih
        · have st := l29o_1 l o s hs k v 2495 ((pre.filter (within k v)).map Post.pv) pre.length y hlt hat c c2 (by simp only [List.length_map, List.length_singleton]; omega)
          rw [wi64 (by omega) (by omega)] at st
          rw [h0]; exact st.trans ih
      · rw [show [y].filter (within k v) = [] by simp [within, c2], List.append_nil] at ih
        rcases outF_cases 2495 (pre.filter (within k v)) with ⟨_, h0⟩ | h0
        · have st := l29n_2 l o s hs k v pre.length y hlt hat c c2
          rw [wi64 (by omega) (by omega)] at st
          rw [h0] at ih ⊢; exact st.trans ih
        · have st := l29o_2 l o s hs k v 2495 ((pre.filter (within k v)).map Post.pv) pre.length y hlt hat c c2
          rw [wi64 (by omega) (by omega)] at st
          rw [h0] at ih ⊢; exact st.trans ih
    · rw [show [y].filter (within k v) = [] by simp [within, c], List.append_nil] at ih
      rcases outF_cases 2495 (pre.filter (within k v)) with ⟨_, h0⟩ | h0
      · have st := l29n_3 l o s hs k v pre.length y hlt hat c
        rw [wi64 (by omega) (by omega)] at st
        rw [h0] at ih ⊢; exact st.trans ih
      · have st := l29o_3 l o s hs k v 2495 ((pre.filter (within k v)).map Post.pv) pre.length y hlt hat c
        rw [wi64 (by omega) (by omega)] at st
        rw [h0] at ih ⊢; exact st.trans ih
theorem f29n_1 (l : List Post) (o : SO) (s : Nat) (k : Int) (v : Int) (h : lv (cv (ev X E0) xf29_l0) (rl [0, 0, 0, 4, 0]) 0 (S29 l o s k v 0 (.pv (.sl SO.full 7 []))) = some (XExit.exit 0, St.mk (tmOf 40 [(7, AV.c (.pv (.sl SO.full 7 [])))]) [])) :
    cc (ev X E0) 29 [AV.c (.pv (.sl o s (List.map Post.pv l))), AV.c (vw k), AV.c (vw v)] [] = some (AV.c (.pv (.sl SO.full 7 [])), []) :=
  cc_path (x := xf29) rfl [.loop (XExit.exit (0 : Nat)) (St.mk (tmOf (40 : Nat) [((7 : Nat), AV.c (.pv (.sl SO.full (7 : Nat) [])))]) [])]
    (c := [lv (cv (ev X E0) xf29_l0) (rl [0, 0, 0, 4, 0]) 0 (St.mk (tmOf 40 [(0, AV.c (.pv (.sl o s (List.map Post.pv l)))), (1, AV.c (vw k)), (2, AV.c (vw v)), (7, AV.c (.pv (.sl SO.full 7 []))), (8, AV.c (vi 0))]) []) = some (XExit.exit 0, St.mk (tmOf 40 [(7, AV.c (.pv (.sl SO.full 7 [])))]) [])]) (by kernel_rfl)
    ⟨(h), trivial⟩
theorem f29o_1 (l : List Post) (o : SO) (s : Nat) (k : Int) (v : Int) (es : List PV) (h : lv (cv (ev X E0) xf29_l0) (rl [0, 0, 0, 4, 0]) 0 (S29 l o s k v 0 (.pv (.sl SO.full 7 []))) = some (XExit.exit 0, St.mk (tmOf 40 [(7, AV.c (.own 2495 7 es))]) [])) :
    cc (ev X E0) 29 [AV.c (.pv (.sl o s (List.map Post.pv l))), AV.c (vw k), AV.c (vw v)] [] = some (AV.c (.own 0 7 es), []) :=
  cc_path (x := xf29) rfl [.loop (XExit.exit 0) (St.mk (tmOf 40 [(7, AV.c (.own 2495 7 es))]) [])]
    (c := [lv (cv (ev X E0) xf29_l0) (rl [0, 0, 0, 4, 0]) 0 (St.mk (tmOf 40 [(0, AV.c (.pv (.sl o s (List.map Post.pv l)))), (1, AV.c (vw k)), (2, AV.c (vw v)), (7, AV.c (.pv (.sl SO.full 7 []))), (8, AV.c (vi 0))]) []) = some (XExit.exit 0, St.mk (tmOf 40 [(7, AV.c (.own 2495 7 es))]) [])]) (by kernel_rfl)
    ⟨(h), trivial⟩
theorem outFP_cases (n : Nat) (es : List Post) : (outF n es = CV.pv (PV.sl SO.full 7 []) ∧ outFP es = PV.sl SO.full 7 []) ∨ (outF n es = CV.own n 7 (es.map Post.pv) ∧ outFP es = PV.sl .shut 7 (es.map Post.pv)) := by
  unfold outF outFP; cases es <;> simp
theorem s29 {l : List Post} {o : SO} {s : Nat} (hs : szOk 7 (CV.pv (PV.sl o s (List.map Post.pv l))) = true) (k v : Int) (hl : l.length ≤ 1000000) : cs (ev X E0) 29 [AV.sl o s (l.map Post.pv), AV.int .i32 k, AV.int .i32 v] = some (.c (CV.pv (outFP (l.filter (within k v))))) := by
  have a := a29 (k := k) (v := v) hs hl l [] rfl
  rcases outFP_cases 2495 (l.filter (within k v)) with ⟨h0, h1⟩ | ⟨h0, h1⟩
  · rw [h0] at a; rw [h1]; exact cs_of (f29n_1 l o s k v a)
  · rw [h0] at a; rw [h1]; exact cs_of (f29o_1 l o s k v _ a)
def askd (p : Post) : Bool := p.kind == 0
theorem a30 {l : List Post} {o : SO} {s : Nat} (hs : szOk 7 (CV.pv (PV.sl o s (List.map Post.pv l))) = true) (hl : l.length ≤ 1000000) : ∀ (r pre : List Post), l = pre ++ r →
    lv (cv (ev X E0) xf30_l0) (rl [0, 2, 0]) 0 (S30 l o s (pre.length : Nat) (outF 1599 (pre.filter askd))) = some (XExit.exit 0, St.mk (tmOf 26 [(3, AV.c (outF 1599 (l.filter askd)))]) [])
  | [], pre, e => by
    rw [List.append_nil] at e
    subst e
    rcases outF_cases 1599 (l.filter askd) with ⟨_, h0⟩ | h0
    · rw [h0]; exact l30n_3 l o s hs l.length (by simp)
    · rw [h0]; exact l30o_3 l o s hs _ _ l.length (by simp)
  | y :: r, pre, e => by
    have hlen : l.length = pre.length + r.length + 1 := by rw [e]; simp; omega
    have hat : l[pre.length]? = some y := by rw [e]; simp
    have hlt := ltP (l := l) (i := pre.length) (by omega)
    have hfl : (pre.filter askd).length ≤ pre.length := List.length_filter_le _ _
    have ih := a30 hs hl r (pre ++ [y]) (by rw [e]; simp)
    rw [List.length_append, List.length_singleton, Int.natCast_add, Int.natCast_one, List.filter_append] at ih
    by_cases c : y.kind = 0
    · rw [show [y].filter askd = [y] by simp [askd, c], outF_snoc] at ih
      rcases outF_cases 1599 (pre.filter askd) with ⟨h1, h0⟩ | h0
      · have st := l30n_1 l o s hs pre.length y hlt hat c (by simp)
        rw [wi64 (by omega) (by omega)] at st
        rw [h1] at ih
        rw [h0]; exact st.trans ih
      · have st := l30o_1 l o s hs 1599 ((pre.filter askd).map Post.pv) pre.length y hlt hat c (by simp only [List.length_map, List.length_singleton]; omega)
        rw [wi64 (by omega) (by omega)] at st
        rw [h0]; exact st.trans ih
    · rw [show [y].filter askd = [] by simp [askd, c], List.append_nil] at ih
      rcases outF_cases 1599 (pre.filter askd) with ⟨_, h0⟩ | h0
      · have st := l30n_2 l o s hs pre.length y hlt hat c
        rw [wi64 (by omega) (by omega)] at st
        rw [h0] at ih ⊢; exact st.trans ih
      · have st := l30o_2 l o s hs 1599 ((pre.filter askd).map Post.pv) pre.length y hlt hat c
        rw [wi64 (by omega) (by omega)] at st
        rw [h0] at ih ⊢; exact st.trans ih
theorem f30n_1 (l : List Post) (o : SO) (s : Nat) (h : lv (cv (ev X E0) xf30_l0) (rl [0, 2, 0]) 0 (S30 l o s 0 (.pv (.sl SO.full 7 []))) = some (XExit.exit 0, St.mk (tmOf 26 [(3, AV.c (.pv (.sl SO.full 7 [])))]) [])) :
    cc (ev X E0) 30 [AV.c (.pv (.sl o s (List.map Post.pv l)))] [] = some (AV.c (.pv (.sl SO.full 7 [])), []) :=
  cc_path (x := xf30) rfl [.loop (XExit.exit (0 : Nat)) (St.mk (tmOf (26 : Nat) [((3 : Nat), AV.c (.pv (.sl SO.full (7 : Nat) [])))]) [])]
    (c := [lv (cv (ev X E0) xf30_l0) (rl [0, 2, 0]) 0 (St.mk (tmOf 26 [(0, AV.c (.pv (.sl o s (List.map Post.pv l)))), (3, AV.c (.pv (.sl SO.full 7 []))), (4, AV.c (vi 0))]) []) = some (XExit.exit 0, St.mk (tmOf 26 [(3, AV.c (.pv (.sl SO.full 7 [])))]) [])]) (by kernel_rfl)
    ⟨(h), trivial⟩
theorem f30o_1 (l : List Post) (o : SO) (s : Nat) (es : List PV) (h : lv (cv (ev X E0) xf30_l0) (rl [0, 2, 0]) 0 (S30 l o s 0 (.pv (.sl SO.full 7 []))) = some (XExit.exit 0, St.mk (tmOf 26 [(3, AV.c (.own 1599 7 es))]) [])) :
    cc (ev X E0) 30 [AV.c (.pv (.sl o s (List.map Post.pv l)))] [] = some (AV.c (.own 0 7 es), []) :=
  cc_path (x := xf30) rfl [.loop (XExit.exit 0) (St.mk (tmOf 26 [(3, AV.c (.own 1599 7 es))]) [])]
    (c := [lv (cv (ev X E0) xf30_l0) (rl [0, 2, 0]) 0 (St.mk (tmOf 26 [(0, AV.c (.pv (.sl o s (List.map Post.pv l)))), (3, AV.c (.pv (.sl SO.full 7 []))), (4, AV.c (vi 0))]) []) = some (XExit.exit 0, St.mk (tmOf 26 [(3, AV.c (.own 1599 7 es))]) [])]) (by kernel_rfl)
    ⟨(h), trivial⟩
theorem s30 {l : List Post} {o : SO} {s : Nat} (hs : szOk 7 (CV.pv (PV.sl o s (List.map Post.pv l))) = true) (hl : l.length ≤ 1000000) : cs (ev X E0) 30 [AV.sl o s (l.map Post.pv)] = some (.c (CV.pv (outFP (l.filter askd)))) := by
  have a := a30 hs hl l [] rfl
  rcases outFP_cases 1599 (l.filter askd) with ⟨h0, h1⟩ | ⟨h0, h1⟩
  · rw [h0] at a; rw [h1]; exact cs_of (f30n_1 l o s a)
  · rw [h0] at a; rw [h1]; exact cs_of (f30o_1 l o s _ a)
def intsB (l m : List Int) : Bool := decide (l.length = m.length) && !(l.zip m).any fun q => !(q.1 == q.2)
theorem a31 {l m : List Int} {o q : SO} {s t : Nat} (hs : szOk 1 (CV.pv (PV.sl o s (List.map pvI l))) = true) (ht : szOk 1 (CV.pv (PV.sl q t (List.map pvI m))) = true) (hl : l.length ≤ 1000000) (he : l.length = m.length) :
    lv (cv (ev X E0) xf31_l0) (rl [0, 0, 3]) 0 (S31 l m o q s t 0) = some (if ((l.zip m).any fun q => !(q.1 == q.2)) = true then (XExit.ret, St.mk (tmOf 26 [(4, AV.c (CV.pv (PV.bool false)))]) []) else (XExit.exit 0, St.mk (tmOf 26 []) [])) := by
  have hz : (l.zip m).length = l.length := by rw [List.length_zip]; omega
  refine lv_scan (l := l.zip m) (S31 l m o q s t) (by rw [hz]; exact l31_3 l m o q s t hs ht l.length (by simp)) (fun i y hat hlt hw => ?_) fun i y hat hlt hw => ?_
  · obtain ⟨h1, h2⟩ := (List.getElem?_zip_eq_some).1 hat
    exact l31_1 l m o q s t hs ht i y.1 y.2 (by rw [List.length_map]; omega) h1 h2 (by simpa using hw)
  · obtain ⟨h1, h2⟩ := (List.getElem?_zip_eq_some).1 hat
    have := l31_2 l m o q s t hs ht i y.1 y.2 (by rw [List.length_map]; omega) h1 h2 (by simpa using hw)
    rwa [wi64 (by omega) (by omega)] at this
theorem f31n_1 (l : List Int) (m : List Int) (o : SO) (q : SO) (s : Nat) (t : Nat) (hne : ¬(↑(List.length (List.map pvI l)) : Int) = (↑(List.length (List.map pvI m)) : Int)) :
    cc (ev X E0) 31 [AV.c (.pv (.sl o s (List.map pvI l))), AV.c (.pv (.sl q t (List.map pvI m)))] [] = some (AV.c (.pv (.bool false)), []) :=
  cc_path (x := xf31) rfl [.br true]
    (c := [((↑(List.length (List.map pvI l)) : Int) != (↑(List.length (List.map pvI m)) : Int)) = true]) (by kernel_rfl)
    ⟨(bne_iff_ne.mpr hne), trivial⟩
theorem f31a_1 (l : List Int) (m : List Int) (o : SO) (q : SO) (s : Nat) (t : Nat) (he : (↑(List.length (List.map pvI l)) : Int) = (↑(List.length (List.map pvI m)) : Int)) (h : lv (cv (ev X E0) xf31_l0) (rl [0, 0, 3]) 0 (S31 l m o q s t 0) = some (XExit.exit 0, St.mk (tmOf 26 []) [])) :
    cc (ev X E0) 31 [AV.c (.pv (.sl o s (List.map pvI l))), AV.c (.pv (.sl q t (List.map pvI m)))] [] = some (AV.c (.pv (.bool true)), []) :=
  cc_path (x := xf31) rfl [.br false, .loop (XExit.exit (0 : Nat)) (St.mk (tmOf (26 : Nat) []) [])]
    (c := [((↑(List.length (List.map pvI l)) : Int) != (↑(List.length (List.map pvI m)) : Int)) = false, lv (cv (ev X E0) xf31_l0) (rl [0, 0, 3]) 0 (St.mk (tmOf 26 [(0, AV.c (.pv (.sl o s (List.map pvI l)))), (1, AV.c (.pv (.sl q t (List.map pvI m)))), (5, AV.c (vi 0))]) []) = some (XExit.exit 0, St.mk (tmOf 26 []) [])]) (by kernel_rfl)
    ⟨(bne_f he), (h), trivial⟩
theorem f31b_1 (l : List Int) (m : List Int) (o : SO) (q : SO) (s : Nat) (t : Nat) (he : (↑(List.length (List.map pvI l)) : Int) = (↑(List.length (List.map pvI m)) : Int)) (h : lv (cv (ev X E0) xf31_l0) (rl [0, 0, 3]) 0 (S31 l m o q s t 0) = some (XExit.ret, St.mk (tmOf 26 [(4, AV.c (.pv (.bool false)))]) [])) :
    cc (ev X E0) 31 [AV.c (.pv (.sl o s (List.map pvI l))), AV.c (.pv (.sl q t (List.map pvI m)))] [] = some (AV.c (.pv (.bool false)), []) :=
  cc_path (x := xf31) rfl [.br false, .loop XExit.ret (St.mk (tmOf (26 : Nat) [((4 : Nat), AV.c (.pv (.bool false)))]) [])]
    (c := [((↑(List.length (List.map pvI l)) : Int) != (↑(List.length (List.map pvI m)) : Int)) = false, lv (cv (ev X E0) xf31_l0) (rl [0, 0, 3]) 0 (St.mk (tmOf 26 [(0, AV.c (.pv (.sl o s (List.map pvI l)))), (1, AV.c (.pv (.sl q t (List.map pvI m)))), (5, AV.c (vi 0))]) []) = some (XExit.ret, St.mk (tmOf 26 [(4, AV.c (.pv (.bool false)))]) [])]) (by kernel_rfl)
    ⟨(bne_f he), (h), trivial⟩
theorem s31 {l m : List Int} {o q : SO} {s t : Nat} (hs : szOk 1 (CV.pv (PV.sl o s (List.map pvI l))) = true) (ht : szOk 1 (CV.pv (PV.sl q t (List.map pvI m))) = true) (hl : l.length ≤ 1000000) :
    cc (ev X E0) 31 [AV.sl o s (l.map pvI), AV.sl q t (m.map pvI)] [] = some (.b (intsB l m), []) := by
  unfold intsB
  by_cases he : l.length = m.length
  · have a := a31 hs ht hl he
    have hh : (↑(List.length (List.map pvI l)) : Int) = (↑(List.length (List.map pvI m)) : Int) := by rw [List.length_map, List.length_map]; omega
    rw [decide_eq_true he, Bool.true_and]
    cases hz : (l.zip m).any fun q => !(q.1 == q.2) with
    | true => rw [hz] at a; exact f31b_1 l m o q s t hh a
    | false => rw [hz] at a; exact f31a_1 l m o q s t hh a
  · rw [f31n_1 l m o q s t (by rw [List.length_map, List.length_map]; omega), decide_eq_false he]; rfl
def goneB (l : List Post) (p : Post) : Bool := decide (p.rev > 0) || l.any fun q => q.rev == p.id
theorem a32i {l : List Post} {o : SO} {s : Nat} (hs : szOk 7 (CV.pv (PV.sl o s (List.map Post.pv l))) = true) (hl : l.length ≤ 1000000) {i : Nat} {p : Post} (hp : l[i]? = some p) {x : CV} (hx : x = CV.pv (PV.sl SO.full 1 []) ∨ ∃ es, x = CV.own 3199 1 es) {g : Bool} :
    lv (cv (ev X E0) xf32_l0) (rl [0, 2, 0, 0, 0]) 0 (S32i l o s x i g 0) = some (XExit.exit 2, E32 l o s x i (g || l.any fun q => q.rev == p.id)) := by
  have key : ∀ (r pre : List Post), l = pre ++ r → lv (cv (ev X E0) xf32_l0) (rl [0, 2, 0, 0, 0]) 0 (S32i l o s x i (g || pre.any fun q => q.rev == p.id) (pre.length : Nat)) = some (XExit.exit 2, E32 l o s x i (g || l.any fun q => q.rev == p.id)) := by
    intro r
    induction r with
    | nil =>
      intro pre e
      rw [List.append_nil] at e
      subst e
      rcases hx with rfl | ⟨es, rfl⟩
      · exact l32in_3 l o s hs i p hp _ l.length (by simp)
      · exact l32io_3 l o s hs _ _ i p hp _ l.length (by simp)
    | cons y r ih =>
      intro pre e
      have hlen : l.length = pre.length + r.length + 1 := by rw [e]; simp; omega
      have hat : l[pre.length]? = some y := by rw [e]; simp
      have hlt := ltP (l := l) (i := pre.length) (by omega)
      have ih := ih (pre ++ [y]) (by rw [e]; simp)
      rw [List.length_append, List.length_singleton, Int.natCast_add, Int.natCast_one, List.any_append] at ih
      cases hg : (g || pre.any fun q => q.rev == p.id) with
      | true =>
        rw [← Bool.or_assoc, hg, Bool.true_or] at ih
        rcases hx with rfl | ⟨es, rfl⟩
        · have st := l32in_1 l o s hs i p hp true pre.length hlt rfl
          rw [wi64 (by omega) (by omega)] at st
          exact st.trans ih
        · have st := l32io_1 l o s hs 3199 es i p hp true pre.length hlt rfl
          rw [wi64 (by omega) (by omega)] at st
          exact st.trans ih
      | false =>
        rw [← Bool.or_assoc, hg, Bool.false_or, List.any_cons, List.any_nil, Bool.or_false] at ih
        rcases hx with rfl | ⟨es, rfl⟩
        · have st := l32in_2 l o s hs i p hp false pre.length y hlt rfl hat
          rw [wi64 (by omega) (by omega)] at st
          exact st.trans ih
        · have st := l32io_2 l o s hs 3199 es i p hp false pre.length y hlt rfl hat
          rw [wi64 (by omega) (by omega)] at st
          exact st.trans ih
  have := key l [] rfl
  rw [List.any_nil, Bool.or_false] at this
  exact this
def outG (es : List Post) : CV := if es.isEmpty then CV.pv (PV.sl SO.full 1 []) else CV.own 3199 1 (es.map fun p => PV.int .i64 p.id)
def outGP (es : List Post) : PV := if es.isEmpty then PV.sl SO.full 1 [] else PV.sl .shut 1 (es.map fun p => PV.int .i64 p.id)
theorem outG_cases (es : List Post) : (es = [] ∧ outG es = CV.pv (PV.sl SO.full 1 []) ∧ outGP es = PV.sl SO.full 1 []) ∨ (outG es = CV.own 3199 1 (es.map fun p => PV.int .i64 p.id) ∧ outGP es = PV.sl .shut 1 (es.map fun p => PV.int .i64 p.id)) := by
  unfold outG outGP; cases es <;> simp
theorem outG_snoc (es : List Post) (y : Post) : outG (es ++ [y]) = CV.own 3199 1 ((es.map fun p => PV.int .i64 p.id) ++ [PV.int .i64 y.id]) := by
  unfold outG
  rw [if_neg (by simp)]; simp
theorem a32 {l : List Post} {o : SO} {s : Nat} (hs : szOk 7 (CV.pv (PV.sl o s (List.map Post.pv l))) = true) (hl : l.length ≤ 1000000) : ∀ (r pre : List Post), l = pre ++ r →
    lv (cv (ev X E0) xf32_l1) (rl [0, 2, 0]) 0 (S32 l o s (outG (pre.filter fun p => !goneB l p)) (pre.length : Nat)) = some (XExit.exit 0, St.mk (tmOf 51 [(3, AV.c (outG (l.filter fun p => !goneB l p)))]) [])
  | [], pre, e => by
    rw [List.append_nil] at e
    rw [← e]
    rcases outG_cases (l.filter fun p => !goneB l p) with ⟨_, h0, _⟩ | ⟨h0, _⟩
    · rw [h0]; exact l32xn_1 l o s l.length (by simp)
    · rw [h0]; exact l32xo_1 l o s _ l.length (by simp)
  | y :: r, pre, e => by
    have hlen : l.length = pre.length + r.length + 1 := by rw [e]; simp; omega
    have hat : l[pre.length]? = some y := by rw [e]; simp
    have hlt := ltP (l := l) (i := pre.length) (by omega)
    have hfl : (pre.filter fun p => !goneB l p).length ≤ pre.length := List.length_filter_le _ _
    have ih := a32 hs hl r (pre ++ [y]) (by rw [e]; simp)
    rw [List.length_append, List.length_singleton, Int.natCast_add, Int.natCast_one, List.filter_append] at ih
    have hin := a32i hs hl hat (g := decide (y.rev > 0)) (x := outG (pre.filter fun p => !goneB l p)) (by
      rcases outG_cases (pre.filter fun p => !goneB l p) with ⟨_, h0, _⟩ | ⟨h0, _⟩
      · exact .inl h0
      · exact .inr ⟨_, h0⟩)
    cases hg : goneB l y with
    | true =>
      rw [show [y].filter (fun p => !goneB l p) = [] by simp [hg], List.append_nil] at ih
      rcases outG_cases (pre.filter fun p => !goneB l p) with ⟨_, h0, _⟩ | ⟨h0, _⟩
      · rw [h0] at hin ih ⊢
        have st := l32n_2 l o s hs pre.length y hat _ hin hlt hg
        rw [wi64 (by omega) (by omega)] at st
        exact st.trans ih
      · rw [h0] at hin ih ⊢
        have st := l32o_2 l o s hs _ pre.length y hat _ hin hlt hg
        rw [wi64 (by omega) (by omega)] at st
        exact st.trans ih
    | false =>
      rw [show [y].filter (fun p => !goneB l p) = [y] by simp [hg], outG_snoc] at ih
      rcases outG_cases (pre.filter fun p => !goneB l p) with ⟨h1, h0, _⟩ | ⟨h0, _⟩
      · rw [h0] at hin ⊢
        rw [h1] at ih
        have st := l32n_1 l o s hs pre.length y hat _ hin hlt hg (by simp)
        rw [wi64 (by omega) (by omega)] at st
        exact st.trans ih
      · rw [h0] at hin ⊢
        have st := l32o_1 l o s hs _ pre.length y hat _ hin hlt hg (by simp only [List.length_map, List.length_singleton]; omega)
        rw [wi64 (by omega) (by omega)] at st
        exact st.trans ih
theorem f32n_1 (l : List Post) (o : SO) (s : Nat) (h : lv (cv (ev X E0) xf32_l1) (rl [0, 2, 0]) 0 (S32 l o s (.pv (.sl SO.full 1 [])) 0) = some (XExit.exit 0, St.mk (tmOf 51 [(3, AV.c (.pv (.sl SO.full 1 [])))]) [])) :
    cc (ev X E0) 32 [AV.c (.pv (.sl o s (List.map Post.pv l)))] [] = some (AV.c (.pv (.sl SO.full 1 [])), []) :=
  cc_path (x := xf32) rfl [.loop (XExit.exit (0 : Nat)) (St.mk (tmOf (51 : Nat) [((3 : Nat), AV.c (.pv (.sl SO.full (1 : Nat) [])))]) [])]
    (c := [lv (cv (ev X E0) xf32_l1) (rl [0, 2, 0]) 0 (St.mk (tmOf 51 [(0, AV.c (.pv (.sl o s (List.map Post.pv l)))), (3, AV.c (.pv (.sl SO.full 1 []))), (4, AV.c (vi 0))]) []) = some (XExit.exit 0, St.mk (tmOf 51 [(3, AV.c (.pv (.sl SO.full 1 [])))]) [])]) (by kernel_rfl)
    ⟨(h), trivial⟩
theorem f32o_1 (l : List Post) (o : SO) (s : Nat) (es : List PV) (h : lv (cv (ev X E0) xf32_l1) (rl [0, 2, 0]) 0 (S32 l o s (.pv (.sl SO.full 1 [])) 0) = some (XExit.exit 0, St.mk (tmOf 51 [(3, AV.c (.own 3199 1 es))]) [])) :
    cc (ev X E0) 32 [AV.c (.pv (.sl o s (List.map Post.pv l)))] [] = some (AV.c (.own 0 1 es), []) :=
  cc_path (x := xf32) rfl [.loop (XExit.exit 0) (St.mk (tmOf 51 [(3, AV.c (.own 3199 1 es))]) [])]
    (c := [lv (cv (ev X E0) xf32_l1) (rl [0, 2, 0]) 0 (St.mk (tmOf 51 [(0, AV.c (.pv (.sl o s (List.map Post.pv l)))), (3, AV.c (.pv (.sl SO.full 1 []))), (4, AV.c (vi 0))]) []) = some (XExit.exit 0, St.mk (tmOf 51 [(3, AV.c (.own 3199 1 es))]) [])]) (by kernel_rfl)
    ⟨(h), trivial⟩
theorem s32 {l : List Post} {o : SO} {s : Nat} (hs : szOk 7 (CV.pv (PV.sl o s (List.map Post.pv l))) = true) (hl : l.length ≤ 1000000) : cs (ev X E0) 32 [AV.sl o s (l.map Post.pv)] = some (.c (CV.pv (outGP (l.filter fun p => !goneB l p)))) := by
  have a := a32 hs hl l [] rfl
  rcases outG_cases (l.filter fun p => !goneB l p) with ⟨_, h0, h1⟩ | ⟨h0, h1⟩
  · rw [h0] at a; rw [h1]; exact cs_of (f32n_1 l o s a)
  · rw [h0] at a; rw [h1]; exact cs_of (f32o_1 l o s _ a)
end Go.Sx.Tryd
