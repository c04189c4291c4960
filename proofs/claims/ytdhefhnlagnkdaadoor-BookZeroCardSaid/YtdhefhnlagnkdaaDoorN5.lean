/- What is told of a book. -/
import Derived.Test.YtdhefhnlagnkdaaDoorN4
namespace Go.Sx.Tryd
open Go Go.Sx
abbrev Bk (o : SO) (s : Nat) (l : List Post) : AV := AV.agg [CV.pv (PV.sl o s (l.map Post.pv))]
theorem f20n_1 (l : List Post) (o : SO) (s : Nat) (k : Int) (e : Int) (h : cc (ev X E0) 64 [AV.agg [.pv (.sl o s (List.map Post.pv l))], AV.c (.fn 65 [0])] [.cells [vw k]] = some (AV.tup [AV.c (.pv (.sl SO.nil 0 [])), AV.i e], [.cells [vw k]])) :
    cc (ev X E0) 20 [AV.agg [.pv (.sl o s (List.map Post.pv l))], AV.c (vw k)] [] = some (AV.tup [AV.agg [.pv (.sl SO.nil 0 [])], AV.c (vi e)], []) :=
  cc_path (x := xf20) rfl [.call (AV.tup [AV.c (.pv (.sl SO.nil 0 [])), AV.c (vi e)]) [.cells [vw k]]]
    (c := [cc (ev X E0) 64 [AV.agg [.pv (.sl o s (List.map Post.pv l))], AV.c (.fn 65 [0])] [.cells [vw k]] = some (AV.tup [AV.c (.pv (.sl SO.nil 0 [])), AV.c (vi e)], [.cells [vw k]])]) (by kernel_rfl)
    ⟨(h), trivial⟩
theorem f20o_1 (l : List Post) (o : SO) (s : Nat) (k : Int) (e : Int) (es : List PV) (h : cc (ev X E0) 64 [AV.agg [.pv (.sl o s (List.map Post.pv l))], AV.c (.fn 65 [0])] [.cells [vw k]] = some (AV.tup [AV.c (.own 0 7 es), AV.i e], [.cells [vw k]])) :
    cc (ev X E0) 20 [AV.agg [.pv (.sl o s (List.map Post.pv l))], AV.c (vw k)] [] = some (AV.tup [AV.agg [.own 0 7 es], AV.c (vi e)], []) :=
  cc_path (x := xf20) rfl [.call (AV.tup [AV.c (.own 0 7 es), AV.c (vi e)]) [.cells [vw k]]]
    (c := [cc (ev X E0) 64 [AV.agg [.pv (.sl o s (List.map Post.pv l))], AV.c (.fn 65 [0])] [.cells [vw k]] = some (AV.tup [AV.c (.own 0 7 es), AV.c (vi e)], [.cells [vw k]])]) (by kernel_rfl)
    ⟨(h), trivial⟩
theorem f21n_1 (l : List Post) (o : SO) (s : Nat) (k : Int) (v : Int) (e : Int) (h : cc (ev X E0) 64 [AV.agg [.pv (.sl o s (List.map Post.pv l))], AV.c (.fn 66 [0, 1])] [.cells [vw k], .cells [vw v]] = some (AV.tup [AV.c (.pv (.sl SO.nil 0 [])), AV.i e], [.cells [vw k], .cells [vw v]])) :
    cc (ev X E0) 21 [AV.agg [.pv (.sl o s (List.map Post.pv l))], AV.c (vw k), AV.c (vw v)] [] = some (AV.tup [AV.c (.pv (.sl SO.nil 0 [])), AV.c (vi e)], []) :=
  cc_path (x := xf21) rfl [.call (AV.tup [AV.c (.pv (.sl SO.nil 0 [])), AV.c (vi e)]) [.cells [vw k], .cells [vw v]]]
    (c := [cc (ev X E0) 64 [AV.agg [.pv (.sl o s (List.map Post.pv l))], AV.c (.fn 66 [0, 1])] [.cells [vw k], .cells [vw v]] = some (AV.tup [AV.c (.pv (.sl SO.nil 0 [])), AV.c (vi e)], [.cells [vw k], .cells [vw v]])]) (by kernel_rfl)
    ⟨(h), trivial⟩
theorem f21o_1 (l : List Post) (o : SO) (s : Nat) (k : Int) (v : Int) (e : Int) (es : List PV) (h : cc (ev X E0) 64 [AV.agg [.pv (.sl o s (List.map Post.pv l))], AV.c (.fn 66 [0, 1])] [.cells [vw k], .cells [vw v]] = some (AV.tup [AV.c (.own 0 7 es), AV.i e], [.cells [vw k], .cells [vw v]])) :
    cc (ev X E0) 21 [AV.agg [.pv (.sl o s (List.map Post.pv l))], AV.c (vw k), AV.c (vw v)] [] = some (AV.tup [AV.c (.own 0 7 es), AV.c (vi e)], []) :=
  cc_path (x := xf21) rfl [.call (AV.tup [AV.c (.own 0 7 es), AV.c (vi e)]) [.cells [vw k], .cells [vw v]]]
    (c := [cc (ev X E0) 64 [AV.agg [.pv (.sl o s (List.map Post.pv l))], AV.c (.fn 66 [0, 1])] [.cells [vw k], .cells [vw v]] = some (AV.tup [AV.c (.own 0 7 es), AV.c (vi e)], [.cells [vw k], .cells [vw v]])]) (by kernel_rfl)
    ⟨(h), trivial⟩
theorem f22n_1 (l : List Post) (o : SO) (s : Nat) (e : Int) (h : cc (ev X E0) 64 [AV.agg [.pv (.sl o s (List.map Post.pv l))], AV.c (.fn 67 [])] [] = some (AV.tup [AV.c (.pv (.sl SO.nil 0 [])), AV.i e], [])) :
    cc (ev X E0) 22 [AV.agg [.pv (.sl o s (List.map Post.pv l))]] [] = some (AV.tup [AV.c (.pv (.sl SO.nil 0 [])), AV.c (vi e)], []) :=
  cc_path (x := xf22) rfl [.call (AV.tup [AV.c (.pv (.sl SO.nil 0 [])), AV.c (vi e)]) []]
    (c := [cc (ev X E0) 64 [AV.agg [.pv (.sl o s (List.map Post.pv l))], AV.c (.fn 67 [])] [] = some (AV.tup [AV.c (.pv (.sl SO.nil 0 [])), AV.c (vi e)], [])]) (by kernel_rfl)
    ⟨(h), trivial⟩
theorem f22o_1 (l : List Post) (o : SO) (s : Nat) (e : Int) (es : List PV) (h : cc (ev X E0) 64 [AV.agg [.pv (.sl o s (List.map Post.pv l))], AV.c (.fn 67 [])] [] = some (AV.tup [AV.c (.own 0 7 es), AV.i e], [])) :
    cc (ev X E0) 22 [AV.agg [.pv (.sl o s (List.map Post.pv l))]] [] = some (AV.tup [AV.c (.own 0 7 es), AV.c (vi e)], []) :=
  cc_path (x := xf22) rfl [.call (AV.tup [AV.c (.own 0 7 es), AV.c (vi e)]) []]
    (c := [cc (ev X E0) 64 [AV.agg [.pv (.sl o s (List.map Post.pv l))], AV.c (.fn 67 [])] [] = some (AV.tup [AV.c (.own 0 7 es), AV.c (vi e)], [])]) (by kernel_rfl)
    ⟨(h), trivial⟩
theorem f23n_1 (l : List Post) (o : SO) (s : Nat) (k : Int) (e : Int) (h : cc (ev X E0) 64 [AV.agg [.pv (.sl o s (List.map Post.pv l))], AV.c (.fn 68 [0])] [.cells [vi k]] = some (AV.tup [AV.c (.pv (.sl SO.nil 0 [])), AV.i e], [.cells [vi k]])) (g1 : ¬e = 0) :
    cc (ev X E0) 23 [AV.agg [.pv (.sl o s (List.map Post.pv l))], AV.c (vi k)] [] = some (AV.tup [AV.c (vw 0), AV.c (.pv (.bool false))], []) :=
  cc_path (x := xf23) rfl [.call (AV.tup [AV.c (.pv (.sl SO.nil 0 [])), AV.c (vi e)]) [.cells [vi k]], .br true, .br true, .br true, .br true, .br true]
    (c := [cc (ev X E0) 64 [AV.agg [.pv (.sl o s (List.map Post.pv l))], AV.c (.fn 68 [0])] [.cells [vi k]] = some (AV.tup [AV.c (.pv (.sl SO.nil 0 [])), AV.c (vi e)], [.cells [vi k]]), (e != 0) = true, (e != 0) = true, (e != 0) = true, (e != 0) = true, true = true]) (by kernel_rfl)
    ⟨(h), (bne_iff_ne.mpr g1), (bne_iff_ne.mpr g1), (bne_iff_ne.mpr g1), (bne_iff_ne.mpr g1), rfl, trivial⟩
theorem f23n_2 (l : List Post) (o : SO) (s : Nat) (k : Int) (e : Int) (h : cc (ev X E0) 64 [AV.agg [.pv (.sl o s (List.map Post.pv l))], AV.c (.fn 68 [0])] [.cells [vi k]] = some (AV.tup [AV.c (.pv (.sl SO.nil 0 [])), AV.i e], [.cells [vi k]])) (g1 : e = 0) :
    cc (ev X E0) 23 [AV.agg [.pv (.sl o s (List.map Post.pv l))], AV.c (vi k)] [] = some (AV.tup [AV.c (vw 0), AV.c (.pv (.bool false))], []) :=
  cc_path (x := xf23) rfl [.call (AV.tup [AV.c (.pv (.sl SO.nil 0 [])), AV.c (vi e)]) [.cells [vi k]], .br false, .br false, .br false, .br false, .br true]
    (c := [cc (ev X E0) 64 [AV.agg [.pv (.sl o s (List.map Post.pv l))], AV.c (.fn 68 [0])] [.cells [vi k]] = some (AV.tup [AV.c (.pv (.sl SO.nil 0 [])), AV.c (vi e)], [.cells [vi k]]), (e != 0) = false, (e != 0) = false, (e != 0) = false, (e != 0) = false, true = true]) (by kernel_rfl)
    ⟨(h), (bne_f g1), (bne_f g1), (bne_f g1), (bne_f g1), rfl, trivial⟩
theorem f23o_1 (l : List Post) (o : SO) (s : Nat) (k : Int) (m : List Post) (hm : ¬(↑(List.length (List.map Post.pv m)) : Int) = 0) (q : Post) (h : cc (ev X E0) 64 [AV.agg [.pv (.sl o s (List.map Post.pv l))], AV.c (.fn 68 [0])] [.cells [vi k]] = some (AV.tup [AV.c (.own 0 7 (List.map Post.pv m)), AV.i 0], [.cells [vi k]])) (h69 : cc (ev X E0) 69 [AV.sl SO.shut 7 (List.map Post.pv m), AV.c (.fn 70 [])] [] = some (Post.av q, [])) :
    cc (ev X E0) 23 [AV.agg [.pv (.sl o s (List.map Post.pv l))], AV.c (vi k)] [] = some (AV.tup [AV.c (vw q.value), AV.c (.pv (.bool true))], []) :=
  cc_path (x := xf23) rfl [.call (AV.tup [AV.c (.own 0 7 (List.map Post.pv m)), AV.c (vi 0)]) [.cells [vi k]], .br false, .br false, .br false, .br false, .br false, .call (AV.agg (Post.cs q)) []]
    (c := [cc (ev X E0) 64 [AV.agg [.pv (.sl o s (List.map Post.pv l))], AV.c (.fn 68 [0])] [.cells [vi k]] = some (AV.tup [AV.c (.own 0 7 (List.map Post.pv m)), AV.c (vi 0)], [.cells [vi k]]), false = false, false = false, false = false, false = false, ((↑(List.length (List.map Post.pv m)) : Int) == 0) = false, cc (ev X E0) 69 [AV.c (.pv (.sl SO.shut 7 (List.map Post.pv m))), AV.c (.fn 70 [])] [] = some (AV.agg (Post.cs q), [])]) (by kernel_rfl)
    ⟨(h), rfl, rfl, rfl, rfl, (beq_eq_false_iff_ne.mpr hm), (h69), trivial⟩
theorem f70_1 (p : Post) (q : Post) :
    cc (ev X E0) 70 [AV.agg (Post.cs p), AV.agg (Post.cs q)] [] = some (AV.c (vi (IntKind.wrap .i64 (IntKind.wrap .i64 p.value - IntKind.wrap .i64 q.value))), []) :=
  cc_path (x := xf70) rfl []
    (c := []) (by kernel_rfl)
    trivial
abbrev S69 (m : List Post) (q : Post) (i : Int) : St := St.mk (tmOf 33 [(0, AV.c (CV.pv (PV.sl SO.shut 7 (List.map Post.pv m)))), (1, AV.c (CV.fn 70 [])), (4, AV.c (CV.ptr 0 0)), (5, AV.c (CV.ptr 1 0)), (6, AV.c (CV.pv (PV.int .i64 i)))]) [Box.cells Z7, Box.cells (Post.cs q)]
theorem l69_1 (m : List Post) (q : Post) (i : Nat) (y1 : Post) (g1 : (↑i : Int) < (↑(List.length (List.map Post.pv m)) : Int)) (g2 : m[i]? = some y1) (g3 : IntKind.wrap .i64 (IntKind.wrap .i64 y1.value - IntKind.wrap .i64 q.value) < 0) :
    lv (cv (ev X E0) xf69_l0) (rl [0, 0, 2, 0, 0]) 2 (S69 m q (↑i : Int)) = lv (cv (ev X E0) xf69_l0) (rl [0, 0, 2, 0, 0]) 2 (St.mk (tmOf 33 [(0, AV.c (.pv (.sl SO.shut 7 (List.map Post.pv m)))), (1, AV.c (.fn 70 [])), (4, AV.c (.ptr 0 0)), (5, AV.c (.ptr 1 0)), (6, AV.c (vi (IntKind.wrap .i64 ((↑i : Int) + 1))))]) [.cells [vi 0, vw 0, vw 0, .pv (.sl SO.nil 0 []), vi 0, vi 0, .pv (.str [])], .cells (Post.cs y1)]) :=
  lv_next [.br true, .el (Post.pv y1), .call (AV.c (vi (IntKind.wrap .i64 (IntKind.wrap .i64 y1.value - IntKind.wrap .i64 q.value)))) [], .br true, .el (Post.pv y1)]
    (c := [decide ((↑i : Int) < (↑(List.length (List.map Post.pv m)) : Int)) = true, 0 ≤ (↑i : Int), (List.map Post.pv m)[i]? = some (Post.pv y1), cc (ev X E0) 70 [AV.agg (Post.cs y1), AV.agg (Post.cs q)] [] = some (AV.c (vi (IntKind.wrap .i64 (IntKind.wrap .i64 y1.value - IntKind.wrap .i64 q.value))), []), decide (IntKind.wrap .i64 (IntKind.wrap .i64 y1.value - IntKind.wrap .i64 q.value) < 0) = true, 0 ≤ (↑i : Int), (List.map Post.pv m)[i]? = some (Post.pv y1)]) (by kernel_rfl)
    ⟨(decide_eq_true g1), (Int.natCast_nonneg _), (map_at g2), (f70_1 _ _), (decide_eq_true g3), (Int.natCast_nonneg _), (map_at g2), trivial⟩
theorem l69_2 (m : List Post) (q : Post) (i : Nat) (y1 : Post) (g1 : (↑i : Int) < (↑(List.length (List.map Post.pv m)) : Int)) (g2 : m[i]? = some y1) (g3 : ¬IntKind.wrap .i64 (IntKind.wrap .i64 y1.value - IntKind.wrap .i64 q.value) < 0) :
    lv (cv (ev X E0) xf69_l0) (rl [0, 0, 2, 0, 0]) 2 (S69 m q (↑i : Int)) = lv (cv (ev X E0) xf69_l0) (rl [0, 0, 2, 0, 0]) 2 (St.mk (tmOf 33 [(0, AV.c (.pv (.sl SO.shut 7 (List.map Post.pv m)))), (1, AV.c (.fn 70 [])), (4, AV.c (.ptr 0 0)), (5, AV.c (.ptr 1 0)), (6, AV.c (vi (IntKind.wrap .i64 ((↑i : Int) + 1))))]) [.cells [vi 0, vw 0, vw 0, .pv (.sl SO.nil 0 []), vi 0, vi 0, .pv (.str [])], .cells (Post.cs q)]) :=
  lv_next [.br true, .el (Post.pv y1), .call (AV.c (vi (IntKind.wrap .i64 (IntKind.wrap .i64 y1.value - IntKind.wrap .i64 q.value)))) [], .br false]
    (c := [decide ((↑i : Int) < (↑(List.length (List.map Post.pv m)) : Int)) = true, 0 ≤ (↑i : Int), (List.map Post.pv m)[i]? = some (Post.pv y1), cc (ev X E0) 70 [AV.agg (Post.cs y1), AV.agg (Post.cs q)] [] = some (AV.c (vi (IntKind.wrap .i64 (IntKind.wrap .i64 y1.value - IntKind.wrap .i64 q.value))), []), decide (IntKind.wrap .i64 (IntKind.wrap .i64 y1.value - IntKind.wrap .i64 q.value) < 0) = false]) (by kernel_rfl)
    ⟨(decide_eq_true g1), (Int.natCast_nonneg _), (map_at g2), (f70_1 _ _), (decide_eq_false g3), trivial⟩
theorem l69_3 (m : List Post) (q : Post) (i : Nat) (g1 : ¬(↑i : Int) < (↑(List.length (List.map Post.pv m)) : Int)) :
    lv (cv (ev X E0) xf69_l0) (rl [0, 0, 2, 0, 0]) 2 (S69 m q (↑i : Int)) = some (XExit.exit 0, St.mk (tmOf 33 [(4, AV.c (.ptr 0 0)), (5, AV.c (.ptr 1 0))]) [.cells [vi 0, vw 0, vw 0, .pv (.sl SO.nil 0 []), vi 0, vi 0, .pv (.str [])], .cells (Post.cs q)]) :=
  lv_exit [.br false]
    (c := [decide ((↑i : Int) < (↑(List.length (List.map Post.pv m)) : Int)) = false]) (by kernel_rfl)
    ⟨(decide_eq_false g1), trivial⟩
abbrev S24 (l : List Post) (o : SO) (s : Nat) (kv : List (PV × PV)) (e : Int) (m : List Post) (x : CV) (i : Int) : St := St.mk (tmOf 33 [(6, AV.c (CV.pv (PV.int .i64 e))), (7, AV.c x), (19, AV.c (CV.own 1024 7 (List.map Post.pv m))), (20, AV.c (CV.pv (PV.int .i64 (↑(List.length (List.map Post.pv m)) : Int)))), (21, AV.c (CV.pv (PV.int .i64 i)))]) [Box.cells [CV.pv (PV.sl o s (List.map Post.pv l))], Box.map kv, Box.cells [CV.mp 1]]
theorem l24n_1 (l : List Post) (o : SO) (s : Nat) (kv : List (PV × PV)) (e : Int) (m : List Post) (i : Nat) (y1 : Post) (g1 : (↑i : Int) < (↑(List.length (List.map Post.pv m)) : Int)) (g2 : m[i]? = some y1) (g3 : (↑(0 + List.length [PV.int .i64 y1.id]) : Int) * 8 ≤ 140737488355328) :
    lv (cv (ev X E0) xf24_l0) (rl [6, 0, 11, 0, 0]) 3 (S24 l o s kv e m (.pv (.sl SO.nil 0 [])) (↑i : Int)) = lv (cv (ev X E0) xf24_l0) (rl [6, 0, 11, 0, 0]) 3 (St.mk (tmOf 33 [(6, AV.c (vi e)), (7, AV.c (.own 1919 1 [PV.int .i64 y1.id])), (19, AV.c (.own 1024 7 (List.map Post.pv m))), (20, AV.c (vi (↑(List.length (List.map Post.pv m)) : Int))), (21, AV.c (vi (IntKind.wrap .i64 ((↑i : Int) + 1))))]) [.cells [.pv (.sl o s (List.map Post.pv l))], .map kv, .cells [.mp 1]]) :=
  lv_next [.br true, .el (Post.pv y1), .emp false]
    (c := [decide ((↑i : Int) < (↑(List.length (List.map Post.pv m)) : Int)) = true, 0 ≤ (↑i : Int), (List.map Post.pv m)[i]? = some (Post.pv y1), [PV.int .i64 y1.id] ≠ [], (↑(0 + List.length [PV.int .i64 y1.id]) : Int) * 8 ≤ 140737488355328]) (by kernel_rfl)
    ⟨(decide_eq_true g1), (Int.natCast_nonneg _), (map_at g2), (List.cons_ne_nil _ _), g3, trivial⟩
theorem l24n_2 (l : List Post) (o : SO) (s : Nat) (kv : List (PV × PV)) (e : Int) (m : List Post) (i : Nat) (g1 : ¬(↑i : Int) < (↑(List.length (List.map Post.pv m)) : Int)) :
    lv (cv (ev X E0) xf24_l0) (rl [6, 0, 11, 0, 0]) 3 (S24 l o s kv e m (.pv (.sl SO.nil 0 [])) (↑i : Int)) = some (XExit.exit 0, St.mk (tmOf 33 [(6, AV.c (vi e)), (7, AV.c (.pv (.sl SO.nil 0 [])))]) [.cells [.pv (.sl o s (List.map Post.pv l))], .map kv, .cells [.mp 1]]) :=
  lv_exit [.br false]
    (c := [decide ((↑i : Int) < (↑(List.length (List.map Post.pv m)) : Int)) = false]) (by kernel_rfl)
    ⟨(decide_eq_false g1), trivial⟩
theorem l24o_1 (l : List Post) (o : SO) (s : Nat) (kv : List (PV × PV)) (e : Int) (m : List Post) (es : List PV) (i : Nat) (y1 : Post) (g1 : (↑i : Int) < (↑(List.length (List.map Post.pv m)) : Int)) (g2 : m[i]? = some y1) (g3 : (↑(List.length es + List.length [PV.int .i64 y1.id]) : Int) * 8 ≤ 140737488355328) :
    lv (cv (ev X E0) xf24_l0) (rl [6, 0, 11, 0, 0]) 3 (S24 l o s kv e m (.own 1919 1 es) (↑i : Int)) = lv (cv (ev X E0) xf24_l0) (rl [6, 0, 11, 0, 0]) 3 (St.mk (tmOf 33 [(6, AV.c (vi e)), (7, AV.c (.own 1919 1 (es ++ [PV.int .i64 y1.id]))), (19, AV.c (.own 1024 7 (List.map Post.pv m))), (20, AV.c (vi (↑(List.length (List.map Post.pv m)) : Int))), (21, AV.c (vi (IntKind.wrap .i64 ((↑i : Int) + 1))))]) [.cells [.pv (.sl o s (List.map Post.pv l))], .map kv, .cells [.mp 1]]) :=
  lv_next [.br true, .el (Post.pv y1)]
    (c := [decide ((↑i : Int) < (↑(List.length (List.map Post.pv m)) : Int)) = true, 0 ≤ (↑i : Int), (List.map Post.pv m)[i]? = some (Post.pv y1), (↑(List.length es + List.length [PV.int .i64 y1.id]) : Int) * 8 ≤ 140737488355328]) (by kernel_rfl)
    ⟨(decide_eq_true g1), (Int.natCast_nonneg _), (map_at g2), g3, trivial⟩
theorem l24o_2 (l : List Post) (o : SO) (s : Nat) (kv : List (PV × PV)) (e : Int) (m : List Post) (es : List PV) (i : Nat) (g1 : ¬(↑i : Int) < (↑(List.length (List.map Post.pv m)) : Int)) :
    lv (cv (ev X E0) xf24_l0) (rl [6, 0, 11, 0, 0]) 3 (S24 l o s kv e m (.own 1919 1 es) (↑i : Int)) = some (XExit.exit 0, St.mk (tmOf 33 [(6, AV.c (vi e)), (7, AV.c (.own 1919 1 es))]) [.cells [.pv (.sl o s (List.map Post.pv l))], .map kv, .cells [.mp 1]]) :=
  lv_exit [.br false]
    (c := [decide ((↑i : Int) < (↑(List.length (List.map Post.pv m)) : Int)) = false]) (by kernel_rfl)
    ⟨(decide_eq_false g1), trivial⟩
theorem l24z_1 (l : List Post) (o : SO) (s : Nat) (kv : List (PV × PV)) (e : Int) :
    lv (cv (ev X E0) xf24_l0) (rl [6, 0, 11, 0, 0]) 3 (St.mk (tmOf 33 [(6, AV.c (vi e)), (7, AV.c (.pv (.sl SO.nil 0 []))), (19, AV.c (.pv (.sl SO.nil 0 []))), (20, AV.c (vi 0)), (21, AV.c (vi 0))]) [.cells [.pv (.sl o s (List.map Post.pv l))], .map kv, .cells [.mp 1]]) = some (XExit.exit 0, St.mk (tmOf 33 [(6, AV.c (vi e)), (7, AV.c (.pv (.sl SO.nil 0 [])))]) [.cells [.pv (.sl o s (List.map Post.pv l))], .map kv, .cells [.mp 1]]) :=
  lv_exit [.br false]
    (c := [false = false]) (by kernel_rfl)
    ⟨rfl, trivial⟩
theorem f24n_1 (l : List Post) (o : SO) (s : Nat) (kv : List (PV × PV)) (e : Int) (h60 : cc (ev X E0) 60 [AV.sl o s (List.map Post.pv l)] [] = some (AV.c (.mp 0), [.map kv])) (h : cc (ev X E0) 64 [AV.agg [.pv (.sl o s (List.map Post.pv l))], AV.c (.fn 71 [0])] [.cells [.mp 1], .map kv] = some (AV.tup [AV.c (.pv (.sl SO.nil 0 [])), AV.i e], [.cells [.mp 1], .map kv])) :
    cc (ev X E0) 24 [AV.agg [.pv (.sl o s (List.map Post.pv l))]] [] = some (AV.tup [AV.c (.pv (.sl SO.nil 0 [])), AV.c (vi e)], []) :=
  cc_path (x := xf24) rfl [.call (AV.c (.mp 0)) [.map kv], .call (AV.tup [AV.c (.pv (.sl SO.nil 0 [])), AV.c (vi e)]) [.cells [.mp 1], .map kv], .loop (XExit.exit 0) (St.mk (tmOf 33 [(6, AV.c (vi e)), (7, AV.c (.pv (.sl SO.nil 0 [])))]) [.cells [.pv (.sl o s (List.map Post.pv l))], .map kv, .cells [.mp 1]])]
    (c := [cc (ev X E0) 60 [AV.c (.pv (.sl o s (List.map Post.pv l)))] [] = some (AV.c (.mp 0), [.map kv]), cc (ev X E0) 64 [AV.agg [.pv (.sl o s (List.map Post.pv l))], AV.c (.fn 71 [0])] [.cells [.mp 1], .map kv] = some (AV.tup [AV.c (.pv (.sl SO.nil 0 [])), AV.c (vi e)], [.cells [.mp 1], .map kv]), lv (cv (ev X E0) xf24_l0) (rl [6, 0, 11, 0, 0]) 3 (St.mk (tmOf 33 [(6, AV.c (vi e)), (7, AV.c (.pv (.sl SO.nil 0 []))), (19, AV.c (.pv (.sl SO.nil 0 []))), (20, AV.c (vi 0)), (21, AV.c (vi 0))]) [.cells [.pv (.sl o s (List.map Post.pv l))], .map kv, .cells [.mp 1]]) = some (XExit.exit 0, St.mk (tmOf 33 [(6, AV.c (vi e)), (7, AV.c (.pv (.sl SO.nil 0 [])))]) [.cells [.pv (.sl o s (List.map Post.pv l))], .map kv, .cells [.mp 1]])]) (by kernel_rfl)
    ⟨(h60), (h), (l24z_1 _ _ _ _ _), trivial⟩
theorem f24o_1 (l : List Post) (o : SO) (s : Nat) (kv : List (PV × PV)) (e : Int) (m : List Post) (es : List PV) (h60 : cc (ev X E0) 60 [AV.sl o s (List.map Post.pv l)] [] = some (AV.c (.mp 0), [.map kv])) (h : cc (ev X E0) 64 [AV.agg [.pv (.sl o s (List.map Post.pv l))], AV.c (.fn 71 [0])] [.cells [.mp 1], .map kv] = some (AV.tup [AV.c (.own 0 7 (List.map Post.pv m)), AV.i e], [.cells [.mp 1], .map kv])) (hl : lv (cv (ev X E0) xf24_l0) (rl [6, 0, 11, 0, 0]) 3 (S24 l o s kv e m (.pv (.sl SO.nil 0 [])) 0) = some (XExit.exit 0, St.mk (tmOf 33 [(6, AV.c (vi e)), (7, AV.c (.own 1919 1 es))]) [.cells [.pv (.sl o s (List.map Post.pv l))], .map kv, .cells [.mp 1]])) :
    cc (ev X E0) 24 [AV.agg [.pv (.sl o s (List.map Post.pv l))]] [] = some (AV.tup [AV.c (.own 0 1 es), AV.c (vi e)], []) :=
  cc_path (x := xf24) rfl [.call (AV.c (.mp 0)) [.map kv], .call (AV.tup [AV.c (.own 0 7 (List.map Post.pv m)), AV.c (vi e)]) [.cells [.mp 1], .map kv], .loop (XExit.exit 0) (St.mk (tmOf 33 [(6, AV.c (vi e)), (7, AV.c (.own 1919 1 es))]) [.cells [.pv (.sl o s (List.map Post.pv l))], .map kv, .cells [.mp 1]])]
    (c := [cc (ev X E0) 60 [AV.c (.pv (.sl o s (List.map Post.pv l)))] [] = some (AV.c (.mp 0), [.map kv]), cc (ev X E0) 64 [AV.agg [.pv (.sl o s (List.map Post.pv l))], AV.c (.fn 71 [0])] [.cells [.mp 1], .map kv] = some (AV.tup [AV.c (.own 0 7 (List.map Post.pv m)), AV.c (vi e)], [.cells [.mp 1], .map kv]), lv (cv (ev X E0) xf24_l0) (rl [6, 0, 11, 0, 0]) 3 (St.mk (tmOf 33 [(6, AV.c (vi e)), (7, AV.c (.pv (.sl SO.nil 0 []))), (19, AV.c (.own 1024 7 (List.map Post.pv m))), (20, AV.c (vi (↑(List.length (List.map Post.pv m)) : Int))), (21, AV.c (vi 0))]) [.cells [.pv (.sl o s (List.map Post.pv l))], .map kv, .cells [.mp 1]]) = some (XExit.exit 0, St.mk (tmOf 33 [(6, AV.c (vi e)), (7, AV.c (.own 1919 1 es))]) [.cells [.pv (.sl o s (List.map Post.pv l))], .map kv, .cells [.mp 1]])]) (by kernel_rfl)
    ⟨(h60), (h), (hl), trivial⟩
theorem f69_1 (m : List Post) (p : Post) (q : Post) (hm : ¬(↑(List.length (List.map Post.pv m)) : Int) < 1) (hp : m[0]? = some p) (hl : lv (cv (ev X E0) xf69_l0) (rl [0, 0, 2, 0, 0]) 2 (S69 m p 1) = some (XExit.exit 0, St.mk (tmOf 33 [(4, AV.c (.ptr 0 0)), (5, AV.c (.ptr 1 0))]) [.cells Z7, .cells (Post.cs q)])) :
    cc (ev X E0) 69 [AV.c (.pv (.sl SO.shut 7 (List.map Post.pv m))), AV.c (.fn 70 [])] [] = some (AV.agg (Post.cs q), []) :=
  cc_path (x := xf69) rfl [.br false, .el (Post.pv p), .loop (XExit.exit 0) (St.mk (tmOf 33 [(4, AV.c (.ptr 0 0)), (5, AV.c (.ptr 1 0))]) [.cells [vi 0, vw 0, vw 0, .pv (.sl SO.nil 0 []), vi 0, vi 0, .pv (.str [])], .cells (Post.cs q)])]
    (c := [decide ((↑(List.length (List.map Post.pv m)) : Int) < 1) = false, (0 : Int) ≤ (0 : Int), (List.map Post.pv m)[0]? = some (Post.pv p), lv (cv (ev X E0) xf69_l0) (rl [0, 0, 2, 0, 0]) 2 (St.mk (tmOf 33 [(0, AV.c (.pv (.sl SO.shut 7 (List.map Post.pv m)))), (1, AV.c (.fn 70 [])), (4, AV.c (.ptr 0 0)), (5, AV.c (.ptr 1 0)), (6, AV.c (vi 1))]) [.cells [vi 0, vw 0, vw 0, .pv (.sl SO.nil 0 []), vi 0, vi 0, .pv (.str [])], .cells (Post.cs p)]) = some (XExit.exit 0, St.mk (tmOf 33 [(4, AV.c (.ptr 0 0)), (5, AV.c (.ptr 1 0))]) [.cells [vi 0, vw 0, vw 0, .pv (.sl SO.nil 0 []), vi 0, vi 0, .pv (.str [])], .cells (Post.cs q)])]) (by kernel_rfl)
    ⟨(decide_eq_false hm), (Int.le_refl _), (map_at hp), (hl), trivial⟩
def outP (es : List Post) : PV := if es.isEmpty then PV.sl SO.nil 0 [] else PV.sl .shut 7 ((es.map sh).map Post.pv)
theorem outA_shut (es : List Post) : (outA es).shutAll = CV.pv (outP es) := by
  unfold outA outP
  cases es <;> rfl
theorem s20 {l : List Post} {o : SO} {s : Nat} (hs : szOk 7 (CV.pv (PV.sl o s (List.map Post.pv l))) = true) (ho : o = .nil → l = []) (hl : l.length ≤ 1000) (hN : ∀ p ∈ l, Nice p) (k : Int) :
    cs (ev X E0) 20 [Bk o s l, AV.int .i32 k] = some (.tup [.agg [CV.pv (outP (pickR l fun p => decide (p.known ≤ k)))], .i (pickE l)]) := by
  have h := s64a hs ho (x := .int .i32 k) (w := fun p => decide (p.known ≤ k)) (fun p => f65_1 p k) hl hN
  rw [← outA_shut]
  rcases out_cases (pickR l fun p => decide (p.known ≤ k)) with ⟨_, h1⟩ | ⟨_, h1⟩
  · rw [h1] at h ⊢; exact cs_of (f20n_1 l o s k _ h)
  · rw [h1] at h ⊢; exact cs_of (f20o_1 l o s k _ _ h)
def within (k v : Int) (p : Post) : Bool := decide (p.known ≤ k ∧ p.value ≤ v)
theorem s66 (k v : Int) (p : Post) : cc (ev X E0) 66 [Post.av p, AV.c (.ptr 0 0), AV.c (.ptr 1 0)] [Box.cells [CV.pv (.int .i32 k)], Box.cells [CV.pv (.int .i32 v)]] = some (.b (within k v p), [Box.cells [CV.pv (.int .i32 k)], Box.cells [CV.pv (.int .i32 v)]]) := by
  by_cases h : p.known ≤ k
  · rw [f66_1 p k v h, within]; congr 5; rw [Bool.eq_iff_iff]; simp [h]
  · rw [f66_2 p k v h, within, decide_eq_false (by omega)]
theorem s21 {l : List Post} {o : SO} {s : Nat} (hs : szOk 7 (CV.pv (PV.sl o s (List.map Post.pv l))) = true) (ho : o = .nil → l = []) (hl : l.length ≤ 1000) (hN : ∀ p ∈ l, Nice p) (k v : Int) :
    cs (ev X E0) 21 [Bk o s l, AV.int .i32 k, AV.int .i32 v] = some (.tup [.c (CV.pv (outP (pickR l (within k v)))), .i (pickE l)]) := by
  have h := s64b hs ho (x := .int .i32 k) (z := .int .i32 v) (w := within k v) (fun p => s66 k v p) hl hN
  rw [← outA_shut]
  rcases out_cases (pickR l (within k v)) with ⟨_, h1⟩ | ⟨_, h1⟩
  · rw [h1] at h ⊢; exact cs_of (f21n_1 l o s k v _ h)
  · rw [h1] at h ⊢; exact cs_of (f21o_1 l o s k v _ _ h)
theorem s22 {l : List Post} {o : SO} {s : Nat} (hs : szOk 7 (CV.pv (PV.sl o s (List.map Post.pv l))) = true) (ho : o = .nil → l = []) (hl : l.length ≤ 1000) (hN : ∀ p ∈ l, Nice p) :
    cs (ev X E0) 22 [Bk o s l] = some (.tup [.c (CV.pv (outP (pickR l fun p => p.kind == 0))), .i (pickE l)]) := by
  have h := s64z hs ho (w := fun p => p.kind == 0) (fun p => f67_1 p) hl hN
  rw [← outA_shut]
  rcases out_cases (pickR l fun p => p.kind == 0) with ⟨_, h1⟩ | ⟨_, h1⟩
  · rw [h1] at h ⊢; exact cs_of (f22n_1 l o s _ h)
  · rw [h1] at h ⊢; exact cs_of (f22o_1 l o s _ _ h)
def lesser (q p : Post) : Post := if p.value < q.value then p else q
theorem datOk_iff {d : Int} : datOk d = true ↔ -50000 ≤ d ∧ d ≤ 50000 := by simp [datOk]
theorem lesser_mem : ∀ (r : List Post) (q : Post), r.foldl lesser q = q ∨ r.foldl lesser q ∈ r
  | [], q => .inl rfl
  | p :: r, q => by
    rw [List.foldl_cons]
    rcases lesser_mem r (lesser q p) with h | h
    · rw [h]; unfold lesser; split
      · exact .inr (by simp)
      · exact .inl rfl
    · exact .inr (by simp [h])
theorem a69 {m : List Post} {p : Post} {r : List Post} (hm : m = p :: r) (hl : m.length ≤ 1000000) (hv : ∀ q ∈ m, datOk q.value = true) : ∀ (t pre : List Post), r = pre ++ t →
    lv (cv (ev X E0) xf69_l0) (rl [0, 0, 2, 0, 0]) 2 (S69 m (pre.foldl lesser p) ((pre.length : Int) + 1)) = some (XExit.exit 0, St.mk (tmOf 33 [(4, AV.c (CV.ptr 0 0)), (5, AV.c (CV.ptr 1 0))]) [Box.cells Z7, Box.cells (Post.cs (r.foldl lesser p))])
  | [], pre, e => by
    rw [List.append_nil] at e
    subst e
    have := l69_3 m (r.foldl lesser p) (r.length + 1) (by rw [hm]; simp)
    rwa [Int.natCast_add, Int.natCast_one] at this
  | y :: t, pre, e => by
    have hat : m[pre.length + 1]? = some y := by rw [hm, e]; simp
    have hlen : m.length = pre.length + t.length + 2 := by rw [hm, e]; simp; omega
    have hlt := ltP (l := m) (i := pre.length + 1) (by omega)
    have hy := datOk_iff.1 (hv y (by rw [hm, e]; simp))
    have hq : -50000 ≤ (pre.foldl lesser p).value ∧ (pre.foldl lesser p).value ≤ 50000 := by
      rcases lesser_mem pre p with h | h
      · rw [h]; exact datOk_iff.1 (hv p (by rw [hm]; simp))
      · exact datOk_iff.1 (hv _ (by rw [hm, e]; simp [h]))
    have hw : IntKind.wrap .i64 (IntKind.wrap .i64 y.value - IntKind.wrap .i64 (pre.foldl lesser p).value) = y.value - (pre.foldl lesser p).value := by
      rw [wi64 (n := y.value) (by omega) (by omega), wi64 (n := (pre.foldl lesser p).value) (by omega) (by omega), wi64 (by omega) (by omega)]
    have ih := a69 hm hl hv t (pre ++ [y]) (by rw [e]; simp)
    rw [List.length_append, List.length_singleton, Int.natCast_add, Int.natCast_one, List.foldl_append] at ih
    by_cases c : y.value < (pre.foldl lesser p).value
    · have st := l69_1 m (pre.foldl lesser p) (pre.length + 1) y hlt hat (by rw [hw]; omega)
      rw [Int.natCast_add, Int.natCast_one, wi64 (by omega) (by omega)] at st
      rw [show [y].foldl lesser (pre.foldl lesser p) = y by simp [lesser, c]] at ih
      exact st.trans ih
    · have st := l69_2 m (pre.foldl lesser p) (pre.length + 1) y hlt hat (by rw [hw]; omega)
      rw [Int.natCast_add, Int.natCast_one, wi64 (by omega) (by omega)] at st
      rw [show [y].foldl lesser (pre.foldl lesser p) = pre.foldl lesser p by simp [lesser, c]] at ih
      exact st.trans ih
theorem s69 {m : List Post} {p : Post} {r : List Post} (hm : m = p :: r) (hl : m.length ≤ 1000000) (hv : ∀ q ∈ m, datOk q.value = true) : cc (ev X E0) 69 [AV.sl .shut 7 (m.map Post.pv), AV.c (CV.fn 70 [])] [] = some (Post.av (r.foldl lesser p), []) :=
  f69_1 m p _ (by rw [hm]; simp; omega) (by rw [hm]; rfl) (a69 hm hl hv r [] rfl)
/-- The least value date, if there is one. -/
def leastV : List Post → Int
  | [] => 0
  | p :: r => (r.foldl lesser p).value
theorem fold_sh : ∀ (r : List Post) (p : Post), ((r.map sh).foldl lesser (sh p)) = sh (r.foldl lesser p)
  | [], p => rfl
  | q :: r, p => by
    rw [List.map_cons, List.foldl_cons, List.foldl_cons]
    have : lesser (sh p) (sh q) = sh (lesser p q) := by unfold lesser; simp only; split <;> rfl
    rw [this, fold_sh r]
theorem s23 {l : List Post} {o : SO} {s : Nat} (hs : szOk 7 (CV.pv (PV.sl o s (List.map Post.pv l))) = true) (ho : o = .nil → l = []) (hl : l.length ≤ 1000) (hN : ∀ p ∈ l, Nice p) (k : Int) :
    cs (ev X E0) 23 [Bk o s l, AV.i k] = some (.tup [.int .i32 (leastV (pickR l fun p => decide (p.id > k))), .b (!(pickR l fun p => decide (p.id > k)).isEmpty)]) := by
  have h := s64a hs ho (x := .int .i64 k) (w := fun p => decide (p.id > k)) (fun p => f68_1 p k) hl hN
  cases he : pickR l fun p => decide (p.id > k) with
  | nil =>
    rw [he] at h
    by_cases e : pickE l = 0
    · exact cs_of (f23n_2 l o s k _ h e)
    · exact cs_of (f23n_1 l o s k _ h e)
  | cons p r =>
    have hmem : ∀ q ∈ p :: r, q ∈ l ∧ chk q = 0 := by
      intro q hq
      rw [← he] at hq
      unfold pickR at hq
      split at hq
      · rename_i hr
        have := (List.mem_filter.1 hq).1
        exact ⟨this, right_chk hr q this⟩
      · simp at hq
    have hE : pickE l = 0 := by
      unfold pickE
      unfold pickR at he
      split at he
      · rename_i hr; rw [if_pos hr]
      · cases he
    have hlen : (p :: r).length ≤ l.length := by
      rw [← he]; unfold pickR; split
      · exact List.length_filter_le _ _
      · simp
    rw [he, hE] at h
    have h69 := s69 (m := (p :: r).map sh) (p := sh p) (r := r.map sh) rfl (by rw [List.length_map]; omega) (by
      intro q hq
      obtain ⟨q', hq', rfl⟩ := List.mem_map.1 hq
      exact (chk_inv (hmem q' hq').2).2.2.1)
    rw [fold_sh] at h69
    exact cs_of (f23o_1 l o s k ((p :: r).map sh) (by simp; omega) (sh (r.foldl lesser p)) h h69)
def outI (es : List Post) : CV := if es.isEmpty then CV.pv (PV.sl SO.nil 0 []) else CV.own 1919 1 (es.map fun p => PV.int .i64 p.id)
def idsP (es : List Post) : PV := if es.isEmpty then PV.sl SO.nil 0 [] else PV.sl .shut 1 (es.map fun p => PV.int .i64 p.id)
theorem a24 {l : List Post} {o : SO} {s : Nat} {kv : List (PV × PV)} {e : Int} {m : List Post} (hl : m.length ≤ 1000000) : ∀ (r pre : List Post), m = pre ++ r →
    lv (cv (ev X E0) xf24_l0) (rl [6, 0, 11, 0, 0]) 3 (S24 l o s kv e m (outI pre) (pre.length : Nat)) = some (XExit.exit 0, St.mk (tmOf 33 [(6, AV.c (vi e)), (7, AV.c (outI m))]) [Box.cells [CV.pv (PV.sl o s (List.map Post.pv l))], Box.map kv, Box.cells [CV.mp 1]])
  | [], pre, h => by
    rw [List.append_nil] at h
    subst h
    cases m with
    | nil => exact l24n_2 l o s kv e [] 0 (by simp)
    | cons y r => exact l24o_2 l o s kv e (y :: r) _ _ (by simp)
  | y :: r, pre, h => by
    have hlen : m.length = pre.length + r.length + 1 := by rw [h]; simp; omega
    have hat : m[pre.length]? = some y := by rw [h]; simp
    have hlt := ltP (l := m) (i := pre.length) (by omega)
    have ih := a24 (l := l) (o := o) (s := s) (kv := kv) (e := e) hl r (pre ++ [y]) (by rw [h]; simp)
    rw [List.length_append, List.length_singleton, Int.natCast_add, Int.natCast_one] at ih
    have ho : outI (pre ++ [y]) = CV.own 1919 1 ((pre.map fun p => PV.int .i64 p.id) ++ [PV.int .i64 y.id]) := by unfold outI; rw [if_neg (by simp)]; simp
    rw [ho] at ih
    cases pre with
    | nil =>
      have st := l24n_1 l o s kv e m 0 y hlt hat (by simp)
      rw [wi64 (by omega) (by omega)] at st
      exact st.trans ih
    | cons z pre =>
      have st := l24o_1 l o s kv e m ((z :: pre).map fun p => PV.int .i64 p.id) (z :: pre).length y hlt hat (by simp only [List.length_map, List.length_singleton]; omega)
      rw [wi64 (by omega) (by omega)] at st
      exact st.trans ih
def stands (l : List Post) (p : Post) : Bool := p.rev == 0 && !(l.any fun q => q.rev == p.id)
theorem s71 (l : List Post) (p : Post) : cc (ev X E0) 71 [Post.av p, AV.c (.ptr 0 0)] [Box.cells [CV.mp 1], Box.map (kvs (keysOf l))] = some (.b (stands l p), [Box.cells [CV.mp 1], Box.map (kvs (keysOf l))]) := by
  have hg := get_kvs p.id (keysOf l)
  unfold stands
  by_cases c : p.rev = 0
  · rw [beq_iff_eq.2 c, Bool.true_and]
    by_cases c2 : (l.any fun q => q.rev == p.id) = true
    · rw [if_pos ((mem_keys l).2 c2)] at hg
      rw [c2]; exact f71_2 p _ true c hg
    · rw [if_neg (fun h => c2 ((mem_keys l).1 h))] at hg
      rw [Bool.not_eq_true] at c2
      rw [c2]; exact f71_1 p _ c hg
  · rw [beq_eq_false_iff_ne.2 c, Bool.false_and]; exact f71_3 p _ c
theorem s24 {l : List Post} {o : SO} {s : Nat} (hs : szOk 7 (CV.pv (PV.sl o s (List.map Post.pv l))) = true) (ho : o = .nil → l = []) (hl : l.length ≤ 1000) (hN : ∀ p ∈ l, Nice p) :
    cs (ev X E0) 24 [Bk o s l] = some (.tup [.c (CV.pv (idsP (pickR l (stands l)))), .i (pickE l)]) := by
  have h60 := s60 (l := l) hs (by omega)
  have h := s64m hs ho (kv := kvs (keysOf l)) (w := stands l) (fun p => s71 l p) hl hN
  have hlen : (pickR l (stands l)).length ≤ l.length := by
    unfold pickR; split
    · exact List.length_filter_le _ _
    · simp
  cases he : pickR l (stands l) with
  | nil => rw [he] at h; exact cs_of (f24n_1 l o s _ _ h60 h)
  | cons p r =>
    rw [he] at h hlen
    have a := a24 (l := l) (o := o) (s := s) (kv := kvs (keysOf l)) (e := pickE l) (m := (p :: r).map sh) (by rw [List.length_map]; omega) _ [] rfl
    have := cs_of (f24o_1 l o s _ _ ((p :: r).map sh) _ h60 h a)
    rw [this]
    simp [idsP, CV.shutAll, AV.map, AV.map0]
def addE (l : List Post) (p : Post) : Int := if rightB l = true then fullE l p else 1
def addR (l : List Post) (p : Post) : List Post := if addE l p = 0 then l ++ [p] else []
theorem f19r_1 (l : List Post) (o : SO) (s : Nat) (p : Post) (h25 : cc (ev X E0) 25 [AV.agg [.pv (.sl o s (List.map Post.pv l))]] [] = some (AV.b false, [])) :
    cc (ev X E0) 19 [AV.agg [.pv (.sl o s (List.map Post.pv l))], AV.agg (Post.cs p)] [] = some (AV.tup [AV.agg [.pv (.sl SO.nil 0 [])], AV.c (vi 1)], []) :=
  cc_path (x := xf19) rfl [.call (AV.c (.pv (.bool false))) [], .br true]
    (c := [cc (ev X E0) 25 [AV.agg [.pv (.sl o s (List.map Post.pv l))]] [] = some (AV.c (.pv (.bool false)), []), true = true]) (by kernel_rfl)
    ⟨(h25), rfl, trivial⟩
theorem f19e_1 (l : List Post) (o : SO) (s : Nat) (p : Post) (h25 : cc (ev X E0) 25 [AV.agg [.pv (.sl o s (List.map Post.pv l))]] [] = some (AV.b true, [])) (e : Int) (he : ¬e = 0) (h37 : cc (ev X E0) 37 [Post.av p] [] = some (AV.i e, [])) :
    cc (ev X E0) 19 [AV.agg [.pv (.sl o s (List.map Post.pv l))], AV.agg (Post.cs p)] [] = some (AV.tup [AV.agg [.pv (.sl SO.nil 0 [])], AV.c (vi e)], []) :=
  cc_path (x := xf19) rfl [.call (AV.c (.pv (.bool true))) [], .br false, .call (AV.c (vi e)) [], .br true]
    (c := [cc (ev X E0) 25 [AV.agg [.pv (.sl o s (List.map Post.pv l))]] [] = some (AV.c (.pv (.bool true)), []), false = false, cc (ev X E0) 37 [AV.agg (Post.cs p)] [] = some (AV.c (vi e), []), (e != 0) = true]) (by kernel_rfl)
    ⟨(h25), rfl, (h37), (bne_iff_ne.mpr he), trivial⟩
theorem f19x_1 (l : List Post) (o : SO) (s : Nat) (p : Post) (kv : List (PV × PV)) (h25 : cc (ev X E0) 25 [AV.agg [.pv (.sl o s (List.map Post.pv l))]] [] = some (AV.b true, [])) (h37 : cc (ev X E0) 37 [Post.av p] [] = some (AV.i 0, [])) (h60 : cc (ev X E0) 60 [AV.sl o s (List.map Post.pv l)] [] = some (AV.c (.mp 0), [.map kv])) (e : Int) (he : ¬e = 0) (h59 : cc (ev X E0) 59 [AV.sl o s (List.map Post.pv l), AV.c (.mp 0), Post.av p] [.map kv] = some (AV.i e, [.map kv])) :
    cc (ev X E0) 19 [AV.agg [.pv (.sl o s (List.map Post.pv l))], AV.agg (Post.cs p)] [] = some (AV.tup [AV.agg [.pv (.sl SO.nil 0 [])], AV.c (vi e)], []) :=
  cc_path (x := xf19) rfl [.call (AV.c (.pv (.bool true))) [], .br false, .call (AV.c (vi (0 : Int))) [], .br false, .call (AV.c (.mp 0)) [.map kv], .call (AV.c (vi e)) [.map kv], .br true]
    (c := [cc (ev X E0) 25 [AV.agg [.pv (.sl o s (List.map Post.pv l))]] [] = some (AV.c (.pv (.bool true)), []), false = false, cc (ev X E0) 37 [AV.agg (Post.cs p)] [] = some (AV.c (vi 0), []), false = false, cc (ev X E0) 60 [AV.c (.pv (.sl o s (List.map Post.pv l)))] [] = some (AV.c (.mp 0), [.map kv]), cc (ev X E0) 59 [AV.c (.pv (.sl o s (List.map Post.pv l))), AV.c (.mp 0), AV.agg (Post.cs p)] [.map kv] = some (AV.c (vi e), [.map kv]), (e != 0) = true]) (by kernel_rfl)
    ⟨(h25), rfl, (h37), rfl, (h60), (h59), (bne_iff_ne.mpr he), trivial⟩
theorem f19n_1 (l : List Post) (o : SO) (s : Nat) (p : Post) (kv : List (PV × PV)) (h25 : cc (ev X E0) 25 [AV.agg [.pv (.sl o s (List.map Post.pv l))]] [] = some (AV.b true, [])) (h37 : cc (ev X E0) 37 [Post.av p] [] = some (AV.i 0, [])) (h60 : cc (ev X E0) 60 [AV.sl o s (List.map Post.pv l)] [] = some (AV.c (.mp 0), [.map kv])) (h59 : cc (ev X E0) 59 [AV.sl o s (List.map Post.pv l), AV.c (.mp 0), Post.av p] [.map kv] = some (AV.i 0, [.map kv])) (h63 : cc (ev X E0) 63 [Post.av p] [] = some (Post.av (sh p), [])) (h62 : cc (ev X E0) 62 [AV.sl o s (List.map Post.pv l), AV.c (.fn 61 [])] [] = some (AV.c (.pv (.sl SO.nil 0 [])), [])) (g1 : (↑(0 + List.length [Post.pv (sh p)]) : Int) * 72 ≤ 140737488355328) :
    cc (ev X E0) 19 [AV.agg [.pv (.sl o s (List.map Post.pv l))], AV.agg (Post.cs p)] [] = some (AV.tup [AV.agg [.own 0 7 [Post.pv (sh p)]], AV.c (vi 0)], []) :=
  cc_path (x := xf19) rfl [.call (AV.c (.pv (.bool true))) [], .br false, .call (AV.c (vi (0 : Int))) [], .br false, .call (AV.c (.mp 0)) [.map kv], .call (AV.c (vi 0)) [.map kv], .br false, .call (AV.c (.pv (.sl SO.nil (0 : Nat) []))) [], .call (AV.agg [vi (Post.id (sh p)), vw (Post.known (sh p)), vw (Post.value (sh p)), .pv (.sl SO.shut 3 (List.map Leg.pv (Post.legs (sh p)))), vi (Post.rev (sh p)), vi (Post.kind (sh p)), .pv (.str (Post.memo (sh p)))]) [], .emp false]
    (c := [cc (ev X E0) 25 [AV.agg [.pv (.sl o s (List.map Post.pv l))]] [] = some (AV.c (.pv (.bool true)), []), false = false, cc (ev X E0) 37 [AV.agg (Post.cs p)] [] = some (AV.c (vi 0), []), false = false, cc (ev X E0) 60 [AV.c (.pv (.sl o s (List.map Post.pv l)))] [] = some (AV.c (.mp 0), [.map kv]), cc (ev X E0) 59 [AV.c (.pv (.sl o s (List.map Post.pv l))), AV.c (.mp 0), AV.agg (Post.cs p)] [.map kv] = some (AV.c (vi 0), [.map kv]), false = false, cc (ev X E0) 62 [AV.c (.pv (.sl o s (List.map Post.pv l))), AV.c (.fn 61 [])] [] = some (AV.c (.pv (.sl SO.nil 0 [])), []), cc (ev X E0) 63 [AV.agg (Post.cs p)] [] = some (AV.agg [vi (Post.id (sh p)), vw (Post.known (sh p)), vw (Post.value (sh p)), .pv (.sl SO.shut 3 (List.map Leg.pv (Post.legs (sh p)))), vi (Post.rev (sh p)), vi (Post.kind (sh p)), .pv (.str (Post.memo (sh p)))], []), [Post.pv (sh p)] ≠ [], (↑(0 + List.length [Post.pv (sh p)]) : Int) * 72 ≤ 140737488355328]) (by kernel_rfl)
    ⟨(h25), rfl, (h37), rfl, (h60), (h59), rfl, (h62), (h63), (List.cons_ne_nil _ _), g1, trivial⟩
theorem f19o_1 (l : List Post) (o : SO) (s : Nat) (p : Post) (kv : List (PV × PV)) (es : List PV) (h25 : cc (ev X E0) 25 [AV.agg [.pv (.sl o s (List.map Post.pv l))]] [] = some (AV.b true, [])) (h37 : cc (ev X E0) 37 [Post.av p] [] = some (AV.i 0, [])) (h60 : cc (ev X E0) 60 [AV.sl o s (List.map Post.pv l)] [] = some (AV.c (.mp 0), [.map kv])) (h59 : cc (ev X E0) 59 [AV.sl o s (List.map Post.pv l), AV.c (.mp 0), Post.av p] [.map kv] = some (AV.i 0, [.map kv])) (h63 : cc (ev X E0) 63 [Post.av p] [] = some (Post.av (sh p), [])) (h62 : cc (ev X E0) 62 [AV.sl o s (List.map Post.pv l), AV.c (.fn 61 [])] [] = some (AV.c (.own 0 7 es), [])) (g1 : (↑(List.length es + List.length [Post.pv (sh p)]) : Int) * 72 ≤ 140737488355328) :
    cc (ev X E0) 19 [AV.agg [.pv (.sl o s (List.map Post.pv l))], AV.agg (Post.cs p)] [] = some (AV.tup [AV.agg [.own 0 7 (es ++ [Post.pv (sh p)])], AV.c (vi 0)], []) :=
  cc_path (x := xf19) rfl [.call (AV.c (.pv (.bool true))) [], .br false, .call (AV.c (vi (0 : Int))) [], .br false, .call (AV.c (.mp 0)) [.map kv], .call (AV.c (vi 0)) [.map kv], .br false, .call (AV.c (.own 0 7 es)) [], .call (AV.agg [vi (Post.id (sh p)), vw (Post.known (sh p)), vw (Post.value (sh p)), .pv (.sl SO.shut 3 (List.map Leg.pv (Post.legs (sh p)))), vi (Post.rev (sh p)), vi (Post.kind (sh p)), .pv (.str (Post.memo (sh p)))]) []]
    (c := [cc (ev X E0) 25 [AV.agg [.pv (.sl o s (List.map Post.pv l))]] [] = some (AV.c (.pv (.bool true)), []), false = false, cc (ev X E0) 37 [AV.agg (Post.cs p)] [] = some (AV.c (vi 0), []), false = false, cc (ev X E0) 60 [AV.c (.pv (.sl o s (List.map Post.pv l)))] [] = some (AV.c (.mp 0), [.map kv]), cc (ev X E0) 59 [AV.c (.pv (.sl o s (List.map Post.pv l))), AV.c (.mp 0), AV.agg (Post.cs p)] [.map kv] = some (AV.c (vi 0), [.map kv]), false = false, cc (ev X E0) 62 [AV.c (.pv (.sl o s (List.map Post.pv l))), AV.c (.fn 61 [])] [] = some (AV.c (.own 0 7 es), []), cc (ev X E0) 63 [AV.agg (Post.cs p)] [] = some (AV.agg [vi (Post.id (sh p)), vw (Post.known (sh p)), vw (Post.value (sh p)), .pv (.sl SO.shut 3 (List.map Leg.pv (Post.legs (sh p)))), vi (Post.rev (sh p)), vi (Post.kind (sh p)), .pv (.str (Post.memo (sh p)))], []), (↑(List.length es + List.length [Post.pv (sh p)]) : Int) * 72 ≤ 140737488355328]) (by kernel_rfl)
    ⟨(h25), rfl, (h37), rfl, (h60), (h59), rfl, (h62), (h63), g1, trivial⟩
theorem s19 {l : List Post} {o : SO} {s : Nat} (hs : szOk 7 (CV.pv (PV.sl o s (List.map Post.pv l))) = true) (ho : o = .nil → l = []) (hl : l.length ≤ 1000) (hN : ∀ p ∈ l, Nice p) {p : Post} (hp : Nice p) :
    cs (ev X E0) 19 [Bk o s l, Post.av p] = some (.tup [.agg [CV.pv (outP (addR l p))], .i (addE l p)]) := by
  have h25 := s25 hs ho hl hN
  have h37 := s37 p hp.memo (by have := hp.legs; omega)
  have h60 := s60 (l := l) hs (by omega)
  have hz : ∀ e : Int, e ≠ 0 → addE l p = e → outP (addR l p) = PV.sl SO.nil 0 [] := fun e he h => by unfold addR; rw [h, if_neg he]; rfl
  cases hr : rightB l with
  | false =>
    rw [hr] at h25
    have e : addE l p = 1 := by unfold addE; rw [hr]; rfl
    rw [hz 1 (by decide) e, e]
    exact cs_of (f19r_1 l o s p h25)
  | true =>
    rw [hr] at h25
    have e0 : addE l p = fullE l p := by unfold addE; rw [hr]; rfl
    by_cases c : chk p = 0
    · have hrv := chk_rev c
      have h59 := s59 hs hl hN hrv.1 hrv.2.1
      rw [c] at h37
      have e1 : addE l p = nextE l p := by rw [e0, fullE, if_pos c]
      by_cases c2 : nextE l p = 0
      · rw [c2] at h59
        have h63 : cc (ev X E0) 63 [Post.av p] [] = some (Post.av (sh p), []) := s63 c hp.so
        have h62 := s62z hs (g := 61) (w := fun _ => true) (fun q => f61_1 q) (by omega) fun q hq => ⟨right_chk hr q hq, hN q hq⟩
        rw [show l.filter (fun _ => true) = l by simp] at h62
        have ea : addR l p = l ++ [p] := by unfold addR; rw [e1, c2]; rfl
        have eo : outP (l ++ [p]) = PV.sl .shut 7 ((l.map sh).map Post.pv ++ [Post.pv (sh p)]) := by unfold outP; rw [if_neg (by simp)]; simp
        rw [e1, c2, ea, eo]
        cases l with
        | nil => exact cs_of (f19n_1 [] o s p _ h25 h37 h60 h59 h63 h62 (by simp))
        | cons y r => exact cs_of (f19o_1 (y :: r) o s p _ _ h25 h37 h60 h59 h63 h62 (by simp only [List.length_map, List.length_singleton]; omega))
      · rw [hz _ c2 e1, e1]
        exact cs_of (f19x_1 l o s p _ h25 h37 h60 _ c2 h59)
    · have e1 : addE l p = chk p := by rw [e0, fullE, if_neg c]
      rw [hz _ c e1, e1]
      exact cs_of (f19e_1 l o s p h25 _ c h37)
end Go.Sx.Tryd
