/- Taken back: what reverses a posting. -/
import Derived.Test.YtdhefhnlagnkdaaDoorE1
namespace Go.Sx.Tryd
open Go Go.Sx
abbrev S12a (p r : Post) (id kn i : Int) : St := St.mk (tmOf 196 [(2, AV.c (CV.ptr 0 0)), (5, AV.c (CV.ptr 2 0)), (7, AV.c (CV.pv (PV.int .i64 i)))]) [Box.cells (Post.cs p), Box.cells [CV.pv (PV.int .i64 id), CV.pv (PV.int .i32 kn)], Box.cells (Post.cs r)]
theorem l12a_5 (p : Post) (r : Post) (id : Int) (kn : Int) (i : Nat) (y1 : Leg) (g1 : (↑i : Int) < (↑(List.length (List.map Leg.pv p.legs)) : Int)) (g2 : p.legs[i]? = some y1) (g3 : List.length p.memo ≤ 1000000) (g4 : List.length p.legs ≤ 4000000000000000000) (g5 : List.length r.memo ≤ 1000000) (g6 : List.length r.legs ≤ 4000000000000000000) (g7 : chk p = 0) (g8 : chk r = 0) (g9 : IntKind.wrap .i64 (onV p y1.acc y1.cur + onV r y1.acc y1.cur) = 0) (g10 : debV r y1.cur = debV p y1.cur) :
    lv (cv (ev X E0) xf12_l0) (rl [2, 2, 1]) 3 (S12a p r id kn (↑i : Int)) = lv (cv (ev X E0) xf12_l0) (rl [2, 2, 1]) 3 (St.mk (tmOf 196 [(2, AV.c (.ptr 0 0)), (5, AV.c (.ptr 2 0)), (7, AV.c (vi (IntKind.wrap .i64 ((↑i : Int) + 1))))]) [.cells (Post.cs p), .cells [vi id, vw kn], .cells (Post.cs r)]) :=
  lv_next [.br true, .el (Leg.pv y1), .el (Leg.pv y1), .call (AV.tup [AV.c (vi (onV p y1.acc y1.cur)), AV.c (vi (chk p))]) [], .el (Leg.pv y1), .call (AV.tup [AV.c (vi (onV r y1.acc y1.cur)), AV.c (vi (chk r))]) [], .call (AV.tup [AV.c (vi (debV p y1.cur)), AV.c (vi (chk p))]) [], .call (AV.tup [AV.c (vi (debV r y1.cur)), AV.c (vi (chk r))]) [], .br false, .br false, .br false, .br false, .br false, .br false, .br false, .br false, .br false, .br false, .br false, .br false, .br false, .br false, .br false, .br false, .br false, .br false, .br false]
    (c := [decide ((↑i : Int) < (↑(List.length (List.map Leg.pv p.legs)) : Int)) = true, 0 ≤ (↑i : Int), (List.map Leg.pv p.legs)[i]? = some (Leg.pv y1), 0 ≤ (↑i : Int), (List.map Leg.pv p.legs)[i]? = some (Leg.pv y1), cc (ev X E0) 40 [AV.agg (Post.cs p), AV.c (vi y1.acc), AV.c (vi y1.cur)] [] = some (AV.tup [AV.c (vi (onV p y1.acc y1.cur)), AV.c (vi (chk p))], []), 0 ≤ (↑i : Int), (List.map Leg.pv p.legs)[i]? = some (Leg.pv y1), cc (ev X E0) 40 [AV.agg (Post.cs r), AV.c (vi y1.acc), AV.c (vi y1.cur)] [] = some (AV.tup [AV.c (vi (onV r y1.acc y1.cur)), AV.c (vi (chk r))], []), cc (ev X E0) 41 [AV.agg (Post.cs p), AV.c (vi y1.cur)] [] = some (AV.tup [AV.c (vi (debV p y1.cur)), AV.c (vi (chk p))], []), cc (ev X E0) 41 [AV.agg (Post.cs r), AV.c (vi y1.cur)] [] = some (AV.tup [AV.c (vi (debV r y1.cur)), AV.c (vi (chk r))], []), (chk p != 0) = false, (chk p != 0) = false, (chk p != 0) = false, (chk r != 0) = false, (chk r != 0) = false, (chk r != 0) = false, (chk p != 0) = false, (chk p != 0) = false, (chk p != 0) = false, (chk r != 0) = false, (chk r != 0) = false, (chk r != 0) = false, (chk r != 0) = false, (chk r != 0) = false, (IntKind.wrap .i64 (onV p y1.acc y1.cur + onV r y1.acc y1.cur) != 0) = false, (IntKind.wrap .i64 (onV p y1.acc y1.cur + onV r y1.acc y1.cur) != 0) = false, (IntKind.wrap .i64 (onV p y1.acc y1.cur + onV r y1.acc y1.cur) != 0) = false, (IntKind.wrap .i64 (onV p y1.acc y1.cur + onV r y1.acc y1.cur) != 0) = false, (debV r y1.cur != debV p y1.cur) = false]) (by kernel_rfl)
    ⟨(decide_eq_true g1), (Int.natCast_nonneg _), (map_at g2), (Int.natCast_nonneg _), (map_at g2), (s40 _ _ _ g3 g4), (Int.natCast_nonneg _), (map_at g2), (s40 _ _ _ g5 g6), (s41 _ _ g3 g4), (s41 _ _ g5 g6), (bne_f g7), (bne_f g7), (bne_f g7), (bne_f g8), (bne_f g8), (bne_f g8), (bne_f g7), (bne_f g7), (bne_f g7), (bne_f g8), (bne_f g8), (bne_f g8), (bne_f g8), (bne_f g8), (bne_f g9), (bne_f g9), (bne_f g9), (bne_f g9), (bne_f g10), trivial⟩
theorem l12a_6 (p : Post) (r : Post) (id : Int) (kn : Int) (i : Nat) (g1 : ¬(↑i : Int) < (↑(List.length (List.map Leg.pv p.legs)) : Int)) :
    lv (cv (ev X E0) xf12_l0) (rl [2, 2, 1]) 3 (S12a p r id kn (↑i : Int)) = some (XExit.exit 0, St.mk (tmOf 196 [(2, AV.c (.ptr 0 0)), (5, AV.c (.ptr 2 0))]) [.cells (Post.cs p), .cells [vi id, vw kn], .cells (Post.cs r)]) :=
  lv_exit [.br false]
    (c := [decide ((↑i : Int) < (↑(List.length (List.map Leg.pv p.legs)) : Int)) = false]) (by kernel_rfl)
    ⟨(decide_eq_false g1), trivial⟩
abbrev S12b (p r t : Post) (id kn i : Int) : St := St.mk (tmOf 196 [(2, AV.c (CV.ptr 0 0)), (17, AV.c (CV.ptr 3 0)), (19, AV.c (CV.pv (PV.int .i64 i)))]) [Box.cells (Post.cs p), Box.cells [CV.pv (PV.int .i64 id), CV.pv (PV.int .i32 kn)], Box.cells (Post.cs r), Box.cells (Post.cs t)]
theorem l12b_3 (p : Post) (r : Post) (t : Post) (id : Int) (kn : Int) (i : Nat) (y1 : Leg) (y2 : Leg) (g1 : (↑i : Int) < (↑(List.length (List.map Leg.pv p.legs)) : Int)) (g2 : (↑(List.length (List.map Leg.pv t.legs)) : Int) = (↑(List.length (List.map Leg.pv p.legs)) : Int)) (g3 : t.legs[i]? = some y1) (g4 : p.legs[i]? = some y2) (g5 : y1.acc = y2.acc ∧ y1.cur = y2.cur ∧ y1.minor = y2.minor ∧ true = true) :
    lv (cv (ev X E0) xf12_l1) (rl [2, 14, 1]) 4 (S12b p r t id kn (↑i : Int)) = lv (cv (ev X E0) xf12_l1) (rl [2, 14, 1]) 4 (St.mk (tmOf 196 [(2, AV.c (.ptr 0 0)), (17, AV.c (.ptr 3 0)), (19, AV.c (vi (IntKind.wrap .i64 ((↑i : Int) + 1))))]) [.cells (Post.cs p), .cells [vi id, vw kn], .cells (Post.cs r), .cells (Post.cs t)]) :=
  lv_next [.br true, .br false, .br false, .br false, .br false, .el (Leg.pv y1), .br false, .br false, .br false, .br false, .br false, .el (Leg.pv y2), .br false, .br false, .br false, .br false]
    (c := [decide ((↑i : Int) < (↑(List.length (List.map Leg.pv p.legs)) : Int)) = true, ((↑(List.length (List.map Leg.pv t.legs)) : Int) != (↑(List.length (List.map Leg.pv p.legs)) : Int)) = false, ((↑(List.length (List.map Leg.pv t.legs)) : Int) != (↑(List.length (List.map Leg.pv p.legs)) : Int)) = false, ((↑(List.length (List.map Leg.pv t.legs)) : Int) != (↑(List.length (List.map Leg.pv p.legs)) : Int)) = false, ((↑(List.length (List.map Leg.pv t.legs)) : Int) != (↑(List.length (List.map Leg.pv p.legs)) : Int)) = false, 0 ≤ (↑i : Int), (List.map Leg.pv t.legs)[i]? = some (Leg.pv y1), ((↑(List.length (List.map Leg.pv t.legs)) : Int) != (↑(List.length (List.map Leg.pv p.legs)) : Int)) = false, ((↑(List.length (List.map Leg.pv t.legs)) : Int) != (↑(List.length (List.map Leg.pv p.legs)) : Int)) = false, ((↑(List.length (List.map Leg.pv t.legs)) : Int) != (↑(List.length (List.map Leg.pv p.legs)) : Int)) = false, ((↑(List.length (List.map Leg.pv t.legs)) : Int) != (↑(List.length (List.map Leg.pv p.legs)) : Int)) = false, ((↑(List.length (List.map Leg.pv t.legs)) : Int) != (↑(List.length (List.map Leg.pv p.legs)) : Int)) = false, 0 ≤ (↑i : Int), (List.map Leg.pv p.legs)[i]? = some (Leg.pv y2), ((↑(List.length (List.map Leg.pv t.legs)) : Int) != (↑(List.length (List.map Leg.pv p.legs)) : Int)) = false, ((↑(List.length (List.map Leg.pv t.legs)) : Int) != (↑(List.length (List.map Leg.pv p.legs)) : Int)) = false, ((↑(List.length (List.map Leg.pv t.legs)) : Int) != (↑(List.length (List.map Leg.pv p.legs)) : Int)) = false, (!(y1.acc == y2.acc && (y1.cur == y2.cur && (y1.minor == y2.minor && true)))) = false]) (by kernel_rfl)
    ⟨(decide_eq_true g1), (bne_f g2), (bne_f g2), (bne_f g2), (bne_f g2), (Int.natCast_nonneg _), (map_at g3), (bne_f g2), (bne_f g2), (bne_f g2), (bne_f g2), (bne_f g2), (Int.natCast_nonneg _), (map_at g4), (bne_f g2), (bne_f g2), (bne_f g2), (not_f (and_t (beq_iff_eq.mpr (And.left g5)) (and_t (beq_iff_eq.mpr (And.left (And.right g5))) (and_t (beq_iff_eq.mpr (And.left (And.right (And.right g5)))) (And.right (And.right (And.right g5))))))), trivial⟩
theorem l12b_4 (p : Post) (r : Post) (t : Post) (id : Int) (kn : Int) (i : Nat) (g1 : ¬(↑i : Int) < (↑(List.length (List.map Leg.pv p.legs)) : Int)) :
    lv (cv (ev X E0) xf12_l1) (rl [2, 14, 1]) 4 (S12b p r t id kn (↑i : Int)) = some (XExit.exit 2, St.mk (tmOf 196 []) [.cells (Post.cs p), .cells [vi id, vw kn], .cells (Post.cs r), .cells (Post.cs t)]) :=
  lv_exit [.br false]
    (c := [decide ((↑i : Int) < (↑(List.length (List.map Leg.pv p.legs)) : Int)) = false]) (by kernel_rfl)
    ⟨(decide_eq_false g1), trivial⟩
abbrev ask (id kn : Int) : AV := AV.agg [.pv (.int .i64 id), .pv (.int .i32 kn)]
theorem f12x_1 (p : Post) (id : Int) (kn : Int) (a : Bool) (h1 : cc (ev X E0) 16 [Post.av p] [] = some (AV.b false, [])) (h3 : cc (ev X E0) 39 [] [] = some (AV.b a, [])) :
    cc (ev X E0) 12 [AV.agg (Post.cs p), AV.agg [vi id, vw kn]] [] = some (AV.c (.pv (.bool a)), []) :=
  cc_path (x := xf12) rfl [.call (AV.c (.pv (.bool false))) [], .br true, .call (AV.c (.pv (.bool a))) []]
    (c := [cc (ev X E0) 16 [AV.agg (Post.cs p)] [] = some (AV.c (.pv (.bool false)), []), true = true, cc (ev X E0) 39 [] [] = some (AV.c (.pv (.bool a)), [])]) (by kernel_rfl)
    ⟨(h1), rfl, (h3), trivial⟩
theorem f12y_1 (p : Post) (id : Int) (kn : Int) (e : Int) (a : Bool) (h1 : cc (ev X E0) 16 [Post.av p] [] = some (AV.b true, [])) (h3 : cc (ev X E0) 39 [] [] = some (AV.b a, [])) (h38 : cc (ev X E0) 38 [Post.av p, AV.i id, AV.int IntKind.i32 kn] [] = some (AV.tup [AV.agg Z7, AV.i e], [])) (he : ¬e = 0) (g1 : a = true) :
    cc (ev X E0) 12 [AV.agg (Post.cs p), AV.agg [vi id, vw kn]] [] = some (AV.c (.pv (.bool true)), []) :=
  cc_path (x := xf12) rfl [.call (AV.c (.pv (.bool true))) [], .br false, .call (AV.tup [AV.agg [vi 0, vw 0, vw 0, .pv (.sl SO.nil 0 []), vi 0, vi 0, .pv (.str [])], AV.c (vi e)]) [], .br true, .call (AV.c (.pv (.bool a))) [], .br true, .br true, .br true, .br true, .br true]
    (c := [cc (ev X E0) 16 [AV.agg (Post.cs p)] [] = some (AV.c (.pv (.bool true)), []), false = false, cc (ev X E0) 38 [AV.agg (Post.cs p), AV.c (vi id), AV.c (vw kn)] [] = some (AV.tup [AV.agg [vi 0, vw 0, vw 0, .pv (.sl SO.nil 0 []), vi 0, vi 0, .pv (.str [])], AV.c (vi e)], []), (e != 0) = true, cc (ev X E0) 39 [] [] = some (AV.c (.pv (.bool a)), []), a = true, a = true, a = true, a = true, a = true]) (by kernel_rfl)
    ⟨(h1), rfl, (h38), (bne_iff_ne.mpr he), (h3), g1, g1, g1, g1, g1, trivial⟩
theorem f12z_6 (p : Post) (r : Post) (id : Int) (kn : Int) (e : Int) (f : Int) (a : Bool) (h1 : cc (ev X E0) 16 [Post.av p] [] = some (AV.b true, [])) (h3 : cc (ev X E0) 39 [] [] = some (AV.b a, [])) (h38 : cc (ev X E0) 38 [Post.av p, AV.i id, AV.int IntKind.i32 kn] [] = some (AV.tup [Post.av r, AV.i 0], [])) (h37 : cc (ev X E0) 37 [Post.av r] [] = some (AV.i e, [])) (hl : lv (cv (ev X E0) xf12_l0) (rl [2, 2, 1]) 3 (S12a p r id kn 0) = some (XExit.exit 0, St.mk (tmOf 196 [(2, AV.c (.ptr 0 0)), (5, AV.c (.ptr 2 0))]) [.cells (Post.cs p), .cells [vi id, vw kn], .cells (Post.cs r)])) (h38r : cc (ev X E0) 38 [Post.av r, AV.i (IntKind.wrap .i64 (r.id + 1)), AV.int IntKind.i32 r.known] [] = some (AV.tup [AV.agg Z7, AV.i f], [])) (hf : ¬f = 0) (g1 : e = 0) (g2 : ¬r.known < p.known) (g3 : r.value = p.value) (g4 : r.rev = p.id) (g5 : (↑(List.length (List.map Leg.pv r.legs)) : Int) = (↑(List.length (List.map Leg.pv p.legs)) : Int)) (g6 : a = true) :
    cc (ev X E0) 12 [AV.agg (Post.cs p), AV.agg [vi id, vw kn]] [] = some (AV.c (.pv (.bool (r.id == 1000000))), []) :=
  cc_path (x := xf12) rfl [.call (AV.c (.pv (.bool true))) [], .br false, .call (AV.tup [AV.agg (Post.cs r), AV.c (vi 0)]) [], .br false, .call (AV.c (vi e)) [], .br false, .br false, .br false, .br false, .br false, .br false, .br false, .br false, .br false, .br false, .br false, .br false, .br false, .br false, .br false, .br false, .br false, .br false, .br false, .br false, .br false, .br false, .br false, .br false, .br false, .br false, .br false, .loop (XExit.exit 0) (St.mk (tmOf 196 [(2, AV.c (.ptr 0 0)), (5, AV.c (.ptr 2 0))]) [.cells (Post.cs p), .cells [vi id, vw kn], .cells (Post.cs r)]), .call (AV.tup [AV.agg [vi 0, vw 0, vw 0, .pv (.sl SO.nil 0 []), vi 0, vi 0, .pv (.str [])], AV.c (vi f)]) [], .br true, .call (AV.c (.pv (.bool a))) [], .br true, .br true, .br true, .br true]
    (c := [cc (ev X E0) 16 [AV.agg (Post.cs p)] [] = some (AV.c (.pv (.bool true)), []), false = false, cc (ev X E0) 38 [AV.agg (Post.cs p), AV.c (vi id), AV.c (vw kn)] [] = some (AV.tup [AV.agg (Post.cs r), AV.c (vi 0)], []), false = false, cc (ev X E0) 37 [AV.agg (Post.cs r)] [] = some (AV.c (vi e), []), (e != 0) = false, (e != 0) = false, (e != 0) = false, (e != 0) = false, (e != 0) = false, (e != 0) = false, decide (r.known < p.known) = false, decide (r.known < p.known) = false, decide (r.known < p.known) = false, decide (r.known < p.known) = false, decide (r.known < p.known) = false, decide (r.known < p.known) = false, (r.value != p.value) = false, (r.value != p.value) = false, (r.value != p.value) = false, (r.value != p.value) = false, (r.value != p.value) = false, (r.value != p.value) = false, (r.rev != p.id) = false, (r.rev != p.id) = false, (r.rev != p.id) = false, (r.rev != p.id) = false, (r.rev != p.id) = false, (r.rev != p.id) = false, (r.rev != p.id) = false, (r.rev != p.id) = false, ((↑(List.length (List.map Leg.pv r.legs)) : Int) != (↑(List.length (List.map Leg.pv p.legs)) : Int)) = false, lv (cv (ev X E0) xf12_l0) (rl [2, 2, 1]) 3 (St.mk (tmOf 196 [(2, AV.c (.ptr 0 0)), (5, AV.c (.ptr 2 0)), (7, AV.c (vi 0))]) [.cells (Post.cs p), .cells [vi id, vw kn], .cells (Post.cs r)]) = some (XExit.exit 0, St.mk (tmOf 196 [(2, AV.c (.ptr 0 0)), (5, AV.c (.ptr 2 0))]) [.cells (Post.cs p), .cells [vi id, vw kn], .cells (Post.cs r)]), cc (ev X E0) 38 [AV.agg (Post.cs r), AV.c (vi (IntKind.wrap .i64 (r.id + 1))), AV.c (vw r.known)] [] = some (AV.tup [AV.agg [vi 0, vw 0, vw 0, .pv (.sl SO.nil 0 []), vi 0, vi 0, .pv (.str [])], AV.c (vi f)], []), (f != 0) = true, cc (ev X E0) 39 [] [] = some (AV.c (.pv (.bool a)), []), a = true, a = true, a = true, a = true]) (by kernel_rfl)
    ⟨(h1), rfl, (h38), rfl, (h37), (bne_f g1), (bne_f g1), (bne_f g1), (bne_f g1), (bne_f g1), (bne_f g1), (decide_eq_false g2), (decide_eq_false g2), (decide_eq_false g2), (decide_eq_false g2), (decide_eq_false g2), (decide_eq_false g2), (bne_f g3), (bne_f g3), (bne_f g3), (bne_f g3), (bne_f g3), (bne_f g3), (bne_f g4), (bne_f g4), (bne_f g4), (bne_f g4), (bne_f g4), (bne_f g4), (bne_f g4), (bne_f g4), (bne_f g5), (hl), (h38r), (bne_iff_ne.mpr hf), (h3), g6, g6, g6, g6, trivial⟩
theorem f12w_6 (p : Post) (r : Post) (t : Post) (id : Int) (kn : Int) (e : Int) (a : Bool) (h1 : cc (ev X E0) 16 [Post.av p] [] = some (AV.b true, [])) (h3 : cc (ev X E0) 39 [] [] = some (AV.b a, [])) (h38 : cc (ev X E0) 38 [Post.av p, AV.i id, AV.int IntKind.i32 kn] [] = some (AV.tup [Post.av r, AV.i 0], [])) (h37 : cc (ev X E0) 37 [Post.av r] [] = some (AV.i e, [])) (hl : lv (cv (ev X E0) xf12_l0) (rl [2, 2, 1]) 3 (S12a p r id kn 0) = some (XExit.exit 0, St.mk (tmOf 196 [(2, AV.c (.ptr 0 0)), (5, AV.c (.ptr 2 0))]) [.cells (Post.cs p), .cells [vi id, vw kn], .cells (Post.cs r)])) (h38r : cc (ev X E0) 38 [Post.av r, AV.i (IntKind.wrap .i64 (r.id + 1)), AV.int IntKind.i32 r.known] [] = some (AV.tup [Post.av t, AV.i 0], [])) (hl2 : lv (cv (ev X E0) xf12_l1) (rl [2, 14, 1]) 4 (S12b p r t id kn 0) = some (XExit.exit 2, St.mk (tmOf 196 []) [.cells (Post.cs p), .cells [vi id, vw kn], .cells (Post.cs r), .cells (Post.cs t)])) (g1 : e = 0) (g2 : ¬r.known < p.known) (g3 : r.value = p.value) (g4 : r.rev = p.id) (g5 : (↑(List.length (List.map Leg.pv r.legs)) : Int) = (↑(List.length (List.map Leg.pv p.legs)) : Int)) :
    cc (ev X E0) 12 [AV.agg (Post.cs p), AV.agg [vi id, vw kn]] [] = some (AV.c (.pv (.bool a)), []) :=
  cc_path (x := xf12) rfl [.call (AV.c (.pv (.bool true))) [], .br false, .call (AV.tup [AV.agg (Post.cs r), AV.c (vi 0)]) [], .br false, .call (AV.c (vi e)) [], .br false, .br false, .br false, .br false, .br false, .br false, .br false, .br false, .br false, .br false, .br false, .br false, .br false, .br false, .br false, .br false, .br false, .br false, .br false, .br false, .br false, .br false, .br false, .br false, .br false, .br false, .br false, .loop (XExit.exit 0) (St.mk (tmOf 196 [(2, AV.c (.ptr 0 0)), (5, AV.c (.ptr 2 0))]) [.cells (Post.cs p), .cells [vi id, vw kn], .cells (Post.cs r)]), .call (AV.tup [AV.agg (Post.cs t), AV.c (vi 0)]) [], .br false, .loop (XExit.exit 2) (St.mk (tmOf 196 []) [.cells (Post.cs p), .cells [vi id, vw kn], .cells (Post.cs r), .cells (Post.cs t)]), .call (AV.c (.pv (.bool a))) []]
    (c := [cc (ev X E0) 16 [AV.agg (Post.cs p)] [] = some (AV.c (.pv (.bool true)), []), false = false, cc (ev X E0) 38 [AV.agg (Post.cs p), AV.c (vi id), AV.c (vw kn)] [] = some (AV.tup [AV.agg (Post.cs r), AV.c (vi 0)], []), false = false, cc (ev X E0) 37 [AV.agg (Post.cs r)] [] = some (AV.c (vi e), []), (e != 0) = false, (e != 0) = false, (e != 0) = false, (e != 0) = false, (e != 0) = false, (e != 0) = false, decide (r.known < p.known) = false, decide (r.known < p.known) = false, decide (r.known < p.known) = false, decide (r.known < p.known) = false, decide (r.known < p.known) = false, decide (r.known < p.known) = false, (r.value != p.value) = false, (r.value != p.value) = false, (r.value != p.value) = false, (r.value != p.value) = false, (r.value != p.value) = false, (r.value != p.value) = false, (r.rev != p.id) = false, (r.rev != p.id) = false, (r.rev != p.id) = false, (r.rev != p.id) = false, (r.rev != p.id) = false, (r.rev != p.id) = false, (r.rev != p.id) = false, (r.rev != p.id) = false, ((↑(List.length (List.map Leg.pv r.legs)) : Int) != (↑(List.length (List.map Leg.pv p.legs)) : Int)) = false, lv (cv (ev X E0) xf12_l0) (rl [2, 2, 1]) 3 (St.mk (tmOf 196 [(2, AV.c (.ptr 0 0)), (5, AV.c (.ptr 2 0)), (7, AV.c (vi 0))]) [.cells (Post.cs p), .cells [vi id, vw kn], .cells (Post.cs r)]) = some (XExit.exit 0, St.mk (tmOf 196 [(2, AV.c (.ptr 0 0)), (5, AV.c (.ptr 2 0))]) [.cells (Post.cs p), .cells [vi id, vw kn], .cells (Post.cs r)]), cc (ev X E0) 38 [AV.agg (Post.cs r), AV.c (vi (IntKind.wrap .i64 (r.id + 1))), AV.c (vw r.known)] [] = some (AV.tup [AV.agg (Post.cs t), AV.c (vi 0)], []), false = false, lv (cv (ev X E0) xf12_l1) (rl [2, 14, 1]) 4 (St.mk (tmOf 196 [(2, AV.c (.ptr 0 0)), (17, AV.c (.ptr 3 0)), (19, AV.c (vi 0))]) [.cells (Post.cs p), .cells [vi id, vw kn], .cells (Post.cs r), .cells (Post.cs t)]) = some (XExit.exit 2, St.mk (tmOf 196 []) [.cells (Post.cs p), .cells [vi id, vw kn], .cells (Post.cs r), .cells (Post.cs t)]), cc (ev X E0) 39 [] [] = some (AV.c (.pv (.bool a)), [])]) (by kernel_rfl)
    ⟨(h1), rfl, (h38), rfl, (h37), (bne_f g1), (bne_f g1), (bne_f g1), (bne_f g1), (bne_f g1), (bne_f g1), (decide_eq_false g2), (decide_eq_false g2), (decide_eq_false g2), (decide_eq_false g2), (decide_eq_false g2), (decide_eq_false g2), (bne_f g3), (bne_f g3), (bne_f g3), (bne_f g3), (bne_f g3), (bne_f g3), (bne_f g4), (bne_f g4), (bne_f g4), (bne_f g4), (bne_f g4), (bne_f g4), (bne_f g4), (bne_f g4), (bne_f g5), (hl), (h38r), rfl, (hl2), (h3), trivial⟩
theorem chk_mk {p : Post} (h1 : headed p = true) (h2 : datOk p.known = true) (h3 : datOk p.value = true) (h4 : 2 ≤ p.legs.length) (h5 : p.legs.length ≤ 16) (h6 : p.legs.any accBad = false) (h7 : p.legs.any curBad = false) (h8 : p.legs.any overBad = false) (h9 : p.legs.any zeroBad = false) (h10 : bal p.legs = true) : chk p = 0 := by
  unfold chk
  rw [h1, h2, h3, h6, h7, h8, h9, h10, if_neg (by omega : ¬ p.legs.length < 2), if_neg (by omega : ¬ 16 < p.legs.length)]
  rfl
theorem sumCur_neg (c : Int) : ∀ l : List Leg, sumCur c (l.map neg) = - sumCur c l
  | [] => rfl
  | x :: r => by
    simp only [List.map_cons, sumCur, neg]
    rw [show List.map neg r = r.map neg from rfl, sumCur_neg c r]
    split <;> omega
theorem onW_neg (a c : Int) : ∀ l : List Leg, sumIf (onW a c) (l.map neg) = - sumIf (onW a c) l
  | [] => rfl
  | x :: r => by
    have ih := onW_neg a c r
    simp only [List.map_cons, sumIf]
    rw [ih, show onW a c (neg x) = onW a c x from rfl, show (neg x).minor = -x.minor from rfl]
    by_cases h : onW a c x = true
    · rw [if_pos h, if_pos h]; omega
    · rw [if_neg h, if_neg h]; omega
theorem debs_neg (c : Int) : ∀ l : List Leg, sumIf (debW c) (l.map neg) = - sumIf (credW c) l
  | [] => rfl
  | x :: r => by
    have ih := debs_neg c r
    simp only [List.map_cons, sumIf]
    rw [ih]
    simp only [debW, credW, neg]
    by_cases h : x.minor < 0
    · have h2 : 0 < -x.minor := by omega
      by_cases h1 : x.cur = c
      · simp [h, h1]; omega
      · simp [h1]
    · have h2 : ¬ 0 < -x.minor := by omega
      simp [h, h2]
theorem any_of {α : Type} {w : α → Bool} {l : List α} (h : ∀ x ∈ l, w x = false) : l.any w = false := by
  rw [List.any_eq_false]; intro x hx; rw [h x hx]; simp
theorem chk_neg {p : Post} (hc : chk p = 0) {q : Post} (hh : headed q = true) (hk : datOk q.known = true) (hv : datOk q.value = true) (hl : q.legs = p.legs.map neg) : chk q = 0 := by
  obtain ⟨_, _, _, h4, h5, h6, h7, h8, h9, h10⟩ := chk_inv hc
  refine chk_mk hh hk hv (by rw [hl, List.length_map]; exact h4) (by rw [hl, List.length_map]; exact h5) ?_ ?_ ?_ ?_ ?_
  · refine any_of fun x hx => ?_
    rw [hl] at hx
    obtain ⟨y, hy, rfl⟩ := List.mem_map.1 hx
    exact h6 y hy
  · refine any_of fun x hx => ?_
    rw [hl] at hx
    obtain ⟨y, hy, rfl⟩ := List.mem_map.1 hx
    have := h7 y hy
    simp [curBad, neg, this]
  · refine any_of fun x hx => ?_
    rw [hl] at hx
    obtain ⟨y, hy, rfl⟩ := List.mem_map.1 hx
    have h1 := h7 y hy
    have h2 := h8 y hy
    have h3 : minOk (-y.minor) = true := by simp only [minOk, decide_eq_true_eq] at h2 ⊢; omega
    simp [overBad, neg, h1, h3]
  · refine any_of fun x hx => ?_
    rw [hl] at hx
    obtain ⟨y, hy, rfl⟩ := List.mem_map.1 hx
    have h1 := h9 y hy
    simp only [zeroBad, beq_eq_false_iff_ne, neg] at h1 ⊢
    omega
  · rw [hl]
    have e : ∀ c, 0 ≤ c → c < 4 → sumCur c (p.legs.map neg) = 0 := fun c h0 h1 => by rw [sumCur_neg, bal_inv h10 h0 h1]; rfl
    simp [bal, e 0 (by omega) (by omega), e 1 (by omega) (by omega), e 2 (by omega) (by omega), e 3 (by omega) (by omega)]
end Go.Sx.Tryd
