/- What is wrong with a posting behind others; whether a book may be. -/
import Derived.Test.YtggopflifieoiaaDoorN1
namespace Go.Sx.Tryd
open Go Go.Sx
theorem f59n_1 (l : List Post) (o : SO) (s : Nat) (_hs : SZ o s l) (kv : List (PV × PV)) (p : Post) (g1 : (↑(List.length (List.map Post.pv l)) : Int) = 400) :
    cc (ev X E0) 39 [AV.c (.pv (.sl o s (List.map Post.pv l))), AV.c (.mp 0), AV.agg (Post.cs p)] [.map kv] = some (AV.c (vi 6), [.map kv]) :=
  cc_path (x := xf39) rfl [.br true]
    (c := [((↑(List.length (List.map Post.pv l)) : Int) == 400) = true]) (by kernel_rfl)
    ⟨(beq_iff_eq.mpr g1), trivial⟩
theorem f59n_2 (l : List Post) (o : SO) (s : Nat) (_hs : SZ o s l) (kv : List (PV × PV)) (p : Post) (g1 : ¬(↑(List.length (List.map Post.pv l)) : Int) = 400) (g2 : ¬p.id = IntKind.wrap .i64 ((↑(List.length (List.map Post.pv l)) : Int) + 1)) :
    cc (ev X E0) 39 [AV.c (.pv (.sl o s (List.map Post.pv l))), AV.c (.mp 0), AV.agg (Post.cs p)] [.map kv] = some (AV.c (vi 25), [.map kv]) :=
  cc_path (x := xf39) rfl [.br false, .br true]
    (c := [((↑(List.length (List.map Post.pv l)) : Int) == 400) = false, (p.id != IntKind.wrap .i64 ((↑(List.length (List.map Post.pv l)) : Int) + 1)) = true]) (by kernel_rfl)
    ⟨(beq_eq_false_iff_ne.mpr g1), (bne_iff_ne.mpr g2), trivial⟩
theorem f59n_3 (l : List Post) (o : SO) (s : Nat) (hs : SZ o s l) (kv : List (PV × PV)) (p y1 : Post) (g1 : ¬(↑(List.length (List.map Post.pv l)) : Int) = 400) (g2 : p.id = IntKind.wrap .i64 ((↑(List.length (List.map Post.pv l)) : Int) + 1)) (g3 : (↑(List.length (List.map Post.pv l)) : Int) > 0) (g4 : 0 ≤ IntKind.wrap .i64 ((↑(List.length (List.map Post.pv l)) : Int) - 1)) (g5 : l[Int.toNat (IntKind.wrap .i64 ((↑(List.length (List.map Post.pv l)) : Int) - 1))]? = some y1) (g6 : p.known < y1.known) :
    cc (ev X E0) 39 [AV.c (.pv (.sl o s (List.map Post.pv l))), AV.c (.mp 0), AV.agg (Post.cs p)] [.map kv] = some (AV.c (vi 20), [.map kv]) :=
  cc_path (x := xf39) rfl ([.br false, .br false] ++ bs 6 true ++ [.sz, .el (Post.pv y1)] ++ bs 5 true)
    (c := rq [(1, ((↑(List.length (List.map Post.pv l)) : Int) == 400) = false), (1, (p.id != IntKind.wrap .i64 ((↑(List.length (List.map Post.pv l)) : Int) + 1)) = false), (6, decide ((↑(List.length (List.map Post.pv l)) : Int) > 0) = true), (1, SZ o s l), ty g4, (1, (List.map Post.pv l)[Int.toNat (IntKind.wrap .i64 ((↑(List.length (List.map Post.pv l)) : Int) - 1))]? = some (Post.pv y1)), (4, decide ((↑(List.length (List.map Post.pv l)) : Int) > 0) = true), (1, decide (p.known < y1.known) = true)]) (by kernel_rfl)
    (aq ⟨(beq_eq_false_iff_ne.mpr g1), (bne_f g2), (dT g3), hs, g4, (map_at g5), (dT g3), (dT g6), trivial⟩)
theorem f59n_4 (l : List Post) (o : SO) (s : Nat) (hs : SZ o s l) (kv : List (PV × PV)) (p y1 : Post) (g1 : ¬(↑(List.length (List.map Post.pv l)) : Int) = 400) (g2 : p.id = IntKind.wrap .i64 ((↑(List.length (List.map Post.pv l)) : Int) + 1)) (g3 : (↑(List.length (List.map Post.pv l)) : Int) > 0) (g4 : 0 ≤ IntKind.wrap .i64 ((↑(List.length (List.map Post.pv l)) : Int) - 1)) (g5 : l[Int.toNat (IntKind.wrap .i64 ((↑(List.length (List.map Post.pv l)) : Int) - 1))]? = some y1) (g6 : ¬p.known < y1.known) (g7 : p.rev = 0) :
    cc (ev X E0) 39 [AV.c (.pv (.sl o s (List.map Post.pv l))), AV.c (.mp 0), AV.agg (Post.cs p)] [.map kv] = some (AV.c (vi 0), [.map kv]) :=
  cc_path (x := xf39) rfl ([.br false, .br false] ++ bs 6 true ++ [.sz, .el (Post.pv y1)] ++ bs 4 true ++ [.br false, .br true])
    (c := rq [(1, ((↑(List.length (List.map Post.pv l)) : Int) == 400) = false), (1, (p.id != IntKind.wrap .i64 ((↑(List.length (List.map Post.pv l)) : Int) + 1)) = false), (6, decide ((↑(List.length (List.map Post.pv l)) : Int) > 0) = true), (1, SZ o s l), ty g4, (1, (List.map Post.pv l)[Int.toNat (IntKind.wrap .i64 ((↑(List.length (List.map Post.pv l)) : Int) - 1))]? = some (Post.pv y1)), (4, decide ((↑(List.length (List.map Post.pv l)) : Int) > 0) = true), (1, decide (p.known < y1.known) = false), (1, (p.rev == 0) = true)]) (by kernel_rfl)
    (aq ⟨(beq_eq_false_iff_ne.mpr g1), (bne_f g2), (dT g3), hs, g4, (map_at g5), (dT g3), (dF g6), (beq_iff_eq.mpr g7), trivial⟩)
theorem f59n_5 (l : List Post) (o : SO) (s : Nat) (_hs : SZ o s l) (kv : List (PV × PV)) (p : Post) (g1 : ¬(↑(List.length (List.map Post.pv l)) : Int) = 400) (g2 : p.id = IntKind.wrap .i64 ((↑(List.length (List.map Post.pv l)) : Int) + 1)) (g3 : ¬(↑(List.length (List.map Post.pv l)) : Int) > 0) (g4 : p.rev = 0) :
    cc (ev X E0) 39 [AV.c (.pv (.sl o s (List.map Post.pv l))), AV.c (.mp 0), AV.agg (Post.cs p)] [.map kv] = some (AV.c (vi 0), [.map kv]) :=
  cc_path (x := xf39) rfl (bs 13 false ++ [.br true])
    (c := rq [(1, ((↑(List.length (List.map Post.pv l)) : Int) == 400) = false), (1, (p.id != IntKind.wrap .i64 ((↑(List.length (List.map Post.pv l)) : Int) + 1)) = false), (10, decide ((↑(List.length (List.map Post.pv l)) : Int) > 0) = false), (1, false = false), (1, (p.rev == 0) = true)]) (by kernel_rfl)
    (aq ⟨(beq_eq_false_iff_ne.mpr g1), (bne_f g2), (dF g3), rfl, (beq_iff_eq.mpr g4), trivial⟩)
abbrev f59_h38 (p old q : Post) : Prop := cc (ev X E0) 13 [Post.av old, AV.i p.id, AV.int IntKind.i32 p.known] [] = some (AV.tup [Post.av q, AV.i 0], [])
theorem f59_4 (l : List Post) (o : SO) (s : Nat) (hs : SZ o s l) (kv : List (PV × PV)) (p old q : Post) (ho : l[Int.toNat (IntKind.wrap .i64 (p.rev - 1))]? = some old) (b : Bool) (hlen : (↑(List.length (List.map Post.pv l)) : Int) > 0) (hr : ¬p.rev = 0) (h38 : f59_h38 p old q) (_h43 : cc (ev X E0) 92 [Post.av q, Post.av p] [] = some (AV.b b, [])) (y1 : Post) (g1 : ¬(↑(List.length (List.map Post.pv l)) : Int) = 400) (g2 : p.id = IntKind.wrap .i64 ((↑(List.length (List.map Post.pv l)) : Int) + 1)) (g3 : 0 ≤ IntKind.wrap .i64 ((↑(List.length (List.map Post.pv l)) : Int) - 1)) (g4 : l[Int.toNat (IntKind.wrap .i64 ((↑(List.length (List.map Post.pv l)) : Int) - 1))]? = some y1) (g5 : ¬p.known < y1.known) (g6 : 0 ≤ IntKind.wrap .i64 (p.rev - 1)) (g7 : old.rev > 0) :
    cc (ev X E0) 39 [AV.c (.pv (.sl o s (List.map Post.pv l))), AV.c (.mp 0), AV.agg (Post.cs p)] [.map kv] = some (AV.c (vi 27), [.map kv]) :=
  cc_path (x := xf39) rfl ([.br false, .br false] ++ bs 6 true ++ [.sz, .el (Post.pv y1)] ++ bs 4 true ++ [.br false, .br false, .sz, .el (Post.pv old), .call (AV.tup [AV.agg (Post.cs q), AV.c (vi 0)]) [], .br true])
    (c := rq [(1, ((↑(List.length (List.map Post.pv l)) : Int) == 400) = false), (1, (p.id != IntKind.wrap .i64 ((↑(List.length (List.map Post.pv l)) : Int) + 1)) = false), (6, decide ((↑(List.length (List.map Post.pv l)) : Int) > 0) = true), (1, SZ o s l), ty g3, (1, (List.map Post.pv l)[Int.toNat (IntKind.wrap .i64 ((↑(List.length (List.map Post.pv l)) : Int) - 1))]? = some (Post.pv y1)), (4, decide ((↑(List.length (List.map Post.pv l)) : Int) > 0) = true), (1, decide (p.known < y1.known) = false), (1, (p.rev == 0) = false), (1, SZ o s l), ty g6, (1, (List.map Post.pv l)[Int.toNat (IntKind.wrap .i64 (p.rev - 1))]? = some (Post.pv old)), ty h38, (1, decide (old.rev > 0) = true)]) (by kernel_rfl)
    (aq ⟨(beq_eq_false_iff_ne.mpr g1), (bne_f g2), (dT hlen), hs, g3, (map_at g4), (dT hlen), (dF g5), (beq_eq_false_iff_ne.mpr hr), hs, g6, (map_at ho), h38, (dT g7), trivial⟩)
theorem f59_5 (l : List Post) (o : SO) (s : Nat) (hs : SZ o s l) (kv : List (PV × PV)) (p old q : Post) (ho : l[Int.toNat (IntKind.wrap .i64 (p.rev - 1))]? = some old) (b : Bool) (hlen : (↑(List.length (List.map Post.pv l)) : Int) > 0) (hr : ¬p.rev = 0) (h38 : f59_h38 p old q) (h43 : cc (ev X E0) 92 [Post.av q, Post.av p] [] = some (AV.b b, [])) (y1 : Post) (g1 : ¬(↑(List.length (List.map Post.pv l)) : Int) = 400) (g2 : p.id = IntKind.wrap .i64 ((↑(List.length (List.map Post.pv l)) : Int) + 1)) (g3 : 0 ≤ IntKind.wrap .i64 ((↑(List.length (List.map Post.pv l)) : Int) - 1)) (g4 : l[Int.toNat (IntKind.wrap .i64 ((↑(List.length (List.map Post.pv l)) : Int) - 1))]? = some y1) (g5 : ¬p.known < y1.known) (g6 : 0 ≤ IntKind.wrap .i64 (p.rev - 1)) (g7 : ¬old.rev > 0) (g8 : mapGet kv (.int .i64 p.rev) = some none) (g9 : b = false) :
    cc (ev X E0) 39 [AV.c (.pv (.sl o s (List.map Post.pv l))), AV.c (.mp 0), AV.agg (Post.cs p)] [.map kv] = some (AV.c (vi 3), [.map kv]) :=
  cc_path (x := xf39) rfl ([.br false, .br false] ++ bs 6 true ++ [.sz, .el (Post.pv y1)] ++ bs 4 true ++ [.br false, .br false, .sz, .el (Post.pv old), .call (AV.tup [AV.agg (Post.cs q), AV.c (vi 0)]) [], .br false, .opt none] ++ bs 4 false ++ [.call (AV.c (.pv (.bool b))) [], .br false, .br false, .br true])
    (c := rq [(1, ((↑(List.length (List.map Post.pv l)) : Int) == 400) = false), (1, (p.id != IntKind.wrap .i64 ((↑(List.length (List.map Post.pv l)) : Int) + 1)) = false), (6, decide ((↑(List.length (List.map Post.pv l)) : Int) > 0) = true), (1, SZ o s l), ty g3, (1, (List.map Post.pv l)[Int.toNat (IntKind.wrap .i64 ((↑(List.length (List.map Post.pv l)) : Int) - 1))]? = some (Post.pv y1)), (4, decide ((↑(List.length (List.map Post.pv l)) : Int) > 0) = true), (1, decide (p.known < y1.known) = false), (1, (p.rev == 0) = false), (1, SZ o s l), ty g6, (1, (List.map Post.pv l)[Int.toNat (IntKind.wrap .i64 (p.rev - 1))]? = some (Post.pv old)), ty h38, (1, decide (old.rev > 0) = false), ty g8, (4, false = false), ty h43, (2, false = false), (1, (!b) = true)]) (by kernel_rfl)
    (aq ⟨(beq_eq_false_iff_ne.mpr g1), (bne_f g2), (dT hlen), hs, g3, (map_at g4), (dT hlen), (dF g5), (beq_eq_false_iff_ne.mpr hr), hs, g6, (map_at ho), h38, (dF g7), g8, rfl, h43, rfl, (not_t g9), trivial⟩)
theorem f59_6 (l : List Post) (o : SO) (s : Nat) (hs : SZ o s l) (kv : List (PV × PV)) (p old q : Post) (ho : l[Int.toNat (IntKind.wrap .i64 (p.rev - 1))]? = some old) (b : Bool) (hlen : (↑(List.length (List.map Post.pv l)) : Int) > 0) (hr : ¬p.rev = 0) (h38 : f59_h38 p old q) (h43 : cc (ev X E0) 92 [Post.av q, Post.av p] [] = some (AV.b b, [])) (y1 : Post) (g1 : ¬(↑(List.length (List.map Post.pv l)) : Int) = 400) (g2 : p.id = IntKind.wrap .i64 ((↑(List.length (List.map Post.pv l)) : Int) + 1)) (g3 : 0 ≤ IntKind.wrap .i64 ((↑(List.length (List.map Post.pv l)) : Int) - 1)) (g4 : l[Int.toNat (IntKind.wrap .i64 ((↑(List.length (List.map Post.pv l)) : Int) - 1))]? = some y1) (g5 : ¬p.known < y1.known) (g6 : 0 ≤ IntKind.wrap .i64 (p.rev - 1)) (g7 : ¬old.rev > 0) (g8 : mapGet kv (.int .i64 p.rev) = some none) (g9 : b = true) :
    cc (ev X E0) 39 [AV.c (.pv (.sl o s (List.map Post.pv l))), AV.c (.mp 0), AV.agg (Post.cs p)] [.map kv] = some (AV.c (vi 0), [.map kv]) :=
  cc_path (x := xf39) rfl ([.br false, .br false] ++ bs 6 true ++ [.sz, .el (Post.pv y1)] ++ bs 4 true ++ [.br false, .br false, .sz, .el (Post.pv old), .call (AV.tup [AV.agg (Post.cs q), AV.c (vi 0)]) [], .br false, .opt none] ++ bs 4 false ++ [.call (AV.c (.pv (.bool b))) []] ++ bs 3 false)
    (c := rq [(1, ((↑(List.length (List.map Post.pv l)) : Int) == 400) = false), (1, (p.id != IntKind.wrap .i64 ((↑(List.length (List.map Post.pv l)) : Int) + 1)) = false), (6, decide ((↑(List.length (List.map Post.pv l)) : Int) > 0) = true), (1, SZ o s l), ty g3, (1, (List.map Post.pv l)[Int.toNat (IntKind.wrap .i64 ((↑(List.length (List.map Post.pv l)) : Int) - 1))]? = some (Post.pv y1)), (4, decide ((↑(List.length (List.map Post.pv l)) : Int) > 0) = true), (1, decide (p.known < y1.known) = false), (1, (p.rev == 0) = false), (1, SZ o s l), ty g6, (1, (List.map Post.pv l)[Int.toNat (IntKind.wrap .i64 (p.rev - 1))]? = some (Post.pv old)), ty h38, (1, decide (old.rev > 0) = false), ty g8, (4, false = false), ty h43, (2, false = false), (1, (!b) = false)]) (by kernel_rfl)
    (aq ⟨(beq_eq_false_iff_ne.mpr g1), (bne_f g2), (dT hlen), hs, g3, (map_at g4), (dT hlen), (dF g5), (beq_eq_false_iff_ne.mpr hr), hs, g6, (map_at ho), h38, (dF g7), g8, rfl, h43, rfl, (not_f g9), trivial⟩)
theorem f59_7 (l : List Post) (o : SO) (s : Nat) (hs : SZ o s l) (kv : List (PV × PV)) (p old q : Post) (ho : l[Int.toNat (IntKind.wrap .i64 (p.rev - 1))]? = some old) (b : Bool) (hlen : (↑(List.length (List.map Post.pv l)) : Int) > 0) (hr : ¬p.rev = 0) (h38 : f59_h38 p old q) (_h43 : cc (ev X E0) 92 [Post.av q, Post.av p] [] = some (AV.b b, [])) (y1 : Post) (y2 : Bool) (g1 : ¬(↑(List.length (List.map Post.pv l)) : Int) = 400) (g2 : p.id = IntKind.wrap .i64 ((↑(List.length (List.map Post.pv l)) : Int) + 1)) (g3 : 0 ≤ IntKind.wrap .i64 ((↑(List.length (List.map Post.pv l)) : Int) - 1)) (g4 : l[Int.toNat (IntKind.wrap .i64 ((↑(List.length (List.map Post.pv l)) : Int) - 1))]? = some y1) (g5 : ¬p.known < y1.known) (g6 : 0 ≤ IntKind.wrap .i64 (p.rev - 1)) (g7 : ¬old.rev > 0) (g8 : mapGet kv (.int .i64 p.rev) = some (some (PV.bool y2))) (g9 : y2 = true) :
    cc (ev X E0) 39 [AV.c (.pv (.sl o s (List.map Post.pv l))), AV.c (.mp 0), AV.agg (Post.cs p)] [.map kv] = some (AV.c (vi 23), [.map kv]) :=
  cc_path (x := xf39) rfl ([.br false, .br false] ++ bs 6 true ++ [.sz, .el (Post.pv y1)] ++ bs 4 true ++ [.br false, .br false, .sz, .el (Post.pv old), .call (AV.tup [AV.agg (Post.cs q), AV.c (vi 0)]) [], .br false, .opt (some (PV.bool y2)), .br true])
    (c := rq [(1, ((↑(List.length (List.map Post.pv l)) : Int) == 400) = false), (1, (p.id != IntKind.wrap .i64 ((↑(List.length (List.map Post.pv l)) : Int) + 1)) = false), (6, decide ((↑(List.length (List.map Post.pv l)) : Int) > 0) = true), (1, SZ o s l), ty g3, (1, (List.map Post.pv l)[Int.toNat (IntKind.wrap .i64 ((↑(List.length (List.map Post.pv l)) : Int) - 1))]? = some (Post.pv y1)), (4, decide ((↑(List.length (List.map Post.pv l)) : Int) > 0) = true), (1, decide (p.known < y1.known) = false), (1, (p.rev == 0) = false), (1, SZ o s l), ty g6, (1, (List.map Post.pv l)[Int.toNat (IntKind.wrap .i64 (p.rev - 1))]? = some (Post.pv old)), ty h38, (1, decide (old.rev > 0) = false), ty g8, (1, y2 = true)]) (by kernel_rfl)
    (aq ⟨(beq_eq_false_iff_ne.mpr g1), (bne_f g2), (dT hlen), hs, g3, (map_at g4), (dT hlen), (dF g5), (beq_eq_false_iff_ne.mpr hr), hs, g6, (map_at ho), h38, (dF g7), g8, g9, trivial⟩)
-- keep f59: 4 5 6 7
abbrev f59e_h38 (p old : Post) (e : Int) : Prop := cc (ev X E0) 13 [Post.av old, AV.i p.id, AV.int IntKind.i32 p.known] [] = some (AV.tup [AV.agg Z7, AV.i e], [])
theorem f59e_4 (l : List Post) (o : SO) (s : Nat) (hs : SZ o s l) (kv : List (PV × PV)) (p old : Post) (ho : l[Int.toNat (IntKind.wrap .i64 (p.rev - 1))]? = some old) (e : Int) (_he : ¬e = 0) (hlen : (↑(List.length (List.map Post.pv l)) : Int) > 0) (hr : ¬p.rev = 0) (h38 : f59e_h38 p old e) (y1 : Post) (g1 : ¬(↑(List.length (List.map Post.pv l)) : Int) = 400) (g2 : p.id = IntKind.wrap .i64 ((↑(List.length (List.map Post.pv l)) : Int) + 1)) (g3 : 0 ≤ IntKind.wrap .i64 ((↑(List.length (List.map Post.pv l)) : Int) - 1)) (g4 : l[Int.toNat (IntKind.wrap .i64 ((↑(List.length (List.map Post.pv l)) : Int) - 1))]? = some y1) (g5 : ¬p.known < y1.known) (g6 : 0 ≤ IntKind.wrap .i64 (p.rev - 1)) (g7 : old.rev > 0) :
    cc (ev X E0) 39 [AV.c (.pv (.sl o s (List.map Post.pv l))), AV.c (.mp 0), AV.agg (Post.cs p)] [.map kv] = some (AV.c (vi 27), [.map kv]) :=
  cc_path (x := xf39) rfl ([.br false, .br false] ++ bs 6 true ++ [.sz, .el (Post.pv y1)] ++ bs 4 true ++ [.br false, .br false, .sz, .el (Post.pv old), .call (AV.tup [AV.agg [vi 0, vw 0, vw 0, .pv (.sl SO.nil 0 []), vi 0, vi 0, .pv (.str [])], AV.c (vi e)]) [], .br true])
    (c := rq [(1, ((↑(List.length (List.map Post.pv l)) : Int) == 400) = false), (1, (p.id != IntKind.wrap .i64 ((↑(List.length (List.map Post.pv l)) : Int) + 1)) = false), (6, decide ((↑(List.length (List.map Post.pv l)) : Int) > 0) = true), (1, SZ o s l), ty g3, (1, (List.map Post.pv l)[Int.toNat (IntKind.wrap .i64 ((↑(List.length (List.map Post.pv l)) : Int) - 1))]? = some (Post.pv y1)), (4, decide ((↑(List.length (List.map Post.pv l)) : Int) > 0) = true), (1, decide (p.known < y1.known) = false), (1, (p.rev == 0) = false), (1, SZ o s l), ty g6, (1, (List.map Post.pv l)[Int.toNat (IntKind.wrap .i64 (p.rev - 1))]? = some (Post.pv old)), ty h38, (1, decide (old.rev > 0) = true)]) (by kernel_rfl)
    (aq ⟨(beq_eq_false_iff_ne.mpr g1), (bne_f g2), (dT hlen), hs, g3, (map_at g4), (dT hlen), (dF g5), (beq_eq_false_iff_ne.mpr hr), hs, g6, (map_at ho), h38, (dT g7), trivial⟩)
theorem f59e_5 (l : List Post) (o : SO) (s : Nat) (hs : SZ o s l) (kv : List (PV × PV)) (p old : Post) (ho : l[Int.toNat (IntKind.wrap .i64 (p.rev - 1))]? = some old) (e : Int) (he : ¬e = 0) (hlen : (↑(List.length (List.map Post.pv l)) : Int) > 0) (hr : ¬p.rev = 0) (h38 : f59e_h38 p old e) (y1 : Post) (g1 : ¬(↑(List.length (List.map Post.pv l)) : Int) = 400) (g2 : p.id = IntKind.wrap .i64 ((↑(List.length (List.map Post.pv l)) : Int) + 1)) (g3 : 0 ≤ IntKind.wrap .i64 ((↑(List.length (List.map Post.pv l)) : Int) - 1)) (g4 : l[Int.toNat (IntKind.wrap .i64 ((↑(List.length (List.map Post.pv l)) : Int) - 1))]? = some y1) (g5 : ¬p.known < y1.known) (g6 : 0 ≤ IntKind.wrap .i64 (p.rev - 1)) (g7 : ¬old.rev > 0) (g8 : mapGet kv (.int .i64 p.rev) = some none) :
    cc (ev X E0) 39 [AV.c (.pv (.sl o s (List.map Post.pv l))), AV.c (.mp 0), AV.agg (Post.cs p)] [.map kv] = some (AV.c (vi 3), [.map kv]) :=
  cc_path (x := xf39) rfl ([.br false, .br false] ++ bs 6 true ++ [.sz, .el (Post.pv y1)] ++ bs 4 true ++ [.br false, .br false, .sz, .el (Post.pv old), .call (AV.tup [AV.agg [vi 0, vw 0, vw 0, .pv (.sl SO.nil 0 []), vi 0, vi 0, .pv (.str [])], AV.c (vi e)]) [], .br false, .opt none, .br false] ++ bs 6 true)
    (c := rq [(1, ((↑(List.length (List.map Post.pv l)) : Int) == 400) = false), (1, (p.id != IntKind.wrap .i64 ((↑(List.length (List.map Post.pv l)) : Int) + 1)) = false), (6, decide ((↑(List.length (List.map Post.pv l)) : Int) > 0) = true), (1, SZ o s l), ty g3, (1, (List.map Post.pv l)[Int.toNat (IntKind.wrap .i64 ((↑(List.length (List.map Post.pv l)) : Int) - 1))]? = some (Post.pv y1)), (4, decide ((↑(List.length (List.map Post.pv l)) : Int) > 0) = true), (1, decide (p.known < y1.known) = false), (1, (p.rev == 0) = false), (1, SZ o s l), ty g6, (1, (List.map Post.pv l)[Int.toNat (IntKind.wrap .i64 (p.rev - 1))]? = some (Post.pv old)), ty h38, (1, decide (old.rev > 0) = false), ty g8, (1, false = false), (5, (e != 0) = true), (1, true = true)]) (by kernel_rfl)
    (aq ⟨(beq_eq_false_iff_ne.mpr g1), (bne_f g2), (dT hlen), hs, g3, (map_at g4), (dT hlen), (dF g5), (beq_eq_false_iff_ne.mpr hr), hs, g6, (map_at ho), h38, (dF g7), g8, rfl, (bne_iff_ne.mpr he), rfl, trivial⟩)
theorem f59e_6 (l : List Post) (o : SO) (s : Nat) (hs : SZ o s l) (kv : List (PV × PV)) (p old : Post) (ho : l[Int.toNat (IntKind.wrap .i64 (p.rev - 1))]? = some old) (e : Int) (_he : ¬e = 0) (hlen : (↑(List.length (List.map Post.pv l)) : Int) > 0) (hr : ¬p.rev = 0) (h38 : f59e_h38 p old e) (y1 : Post) (y2 : Bool) (g1 : ¬(↑(List.length (List.map Post.pv l)) : Int) = 400) (g2 : p.id = IntKind.wrap .i64 ((↑(List.length (List.map Post.pv l)) : Int) + 1)) (g3 : 0 ≤ IntKind.wrap .i64 ((↑(List.length (List.map Post.pv l)) : Int) - 1)) (g4 : l[Int.toNat (IntKind.wrap .i64 ((↑(List.length (List.map Post.pv l)) : Int) - 1))]? = some y1) (g5 : ¬p.known < y1.known) (g6 : 0 ≤ IntKind.wrap .i64 (p.rev - 1)) (g7 : ¬old.rev > 0) (g8 : mapGet kv (.int .i64 p.rev) = some (some (PV.bool y2))) (g9 : y2 = true) :
    cc (ev X E0) 39 [AV.c (.pv (.sl o s (List.map Post.pv l))), AV.c (.mp 0), AV.agg (Post.cs p)] [.map kv] = some (AV.c (vi 23), [.map kv]) :=
  cc_path (x := xf39) rfl ([.br false, .br false] ++ bs 6 true ++ [.sz, .el (Post.pv y1)] ++ bs 4 true ++ [.br false, .br false, .sz, .el (Post.pv old), .call (AV.tup [AV.agg [vi 0, vw 0, vw 0, .pv (.sl SO.nil 0 []), vi 0, vi 0, .pv (.str [])], AV.c (vi e)]) [], .br false, .opt (some (PV.bool y2)), .br true])
    (c := rq [(1, ((↑(List.length (List.map Post.pv l)) : Int) == 400) = false), (1, (p.id != IntKind.wrap .i64 ((↑(List.length (List.map Post.pv l)) : Int) + 1)) = false), (6, decide ((↑(List.length (List.map Post.pv l)) : Int) > 0) = true), (1, SZ o s l), ty g3, (1, (List.map Post.pv l)[Int.toNat (IntKind.wrap .i64 ((↑(List.length (List.map Post.pv l)) : Int) - 1))]? = some (Post.pv y1)), (4, decide ((↑(List.length (List.map Post.pv l)) : Int) > 0) = true), (1, decide (p.known < y1.known) = false), (1, (p.rev == 0) = false), (1, SZ o s l), ty g6, (1, (List.map Post.pv l)[Int.toNat (IntKind.wrap .i64 (p.rev - 1))]? = some (Post.pv old)), ty h38, (1, decide (old.rev > 0) = false), ty g8, (1, y2 = true)]) (by kernel_rfl)
    (aq ⟨(beq_eq_false_iff_ne.mpr g1), (bne_f g2), (dT hlen), hs, g3, (map_at g4), (dT hlen), (dF g5), (beq_eq_false_iff_ne.mpr hr), hs, g6, (map_at ho), h38, (dF g7), g8, g9, trivial⟩)
-- keep f59e: 4 5 6
def addK (ks : List Int) (k : Int) : List Int := if k ∈ ks then ks else ks ++ [k]
def kvs (ks : List Int) : List (PV × PV) := ks.map fun k => (.int .i64 k, .bool true)
theorem get_kvs (k : Int) : ∀ ks : List Int, mapGet (kvs ks) (.int .i64 k) = some (if k ∈ ks then some (.bool true) else none)
  | [] => by simp [kvs, mapGet]
  | a :: ks => by
    have ih := get_kvs k ks
    unfold kvs at ih ⊢
    simp only [List.map_cons, mapGet, if_true]
    by_cases h : a = k
    · rw [if_pos h, if_pos (by simp [h])]
    · rw [if_neg h, ih]
      have : k ∈ a :: ks ↔ k ∈ ks := by simp [Ne.symm h]
      simp only [this]
theorem put_kvs (k : Int) : ∀ ks : List Int, mapPut (kvs ks) (.int .i64 k) (.bool true) = some (kvs (addK ks k))
  | [] => by simp [kvs, mapPut, addK]
  | a :: ks => by
    have ih := put_kvs k ks
    unfold kvs at ih ⊢
    simp only [List.map_cons, mapPut, if_true]
    by_cases h : a = k
    · rw [if_pos h]; simp [addK, h]
    · rw [if_neg h, ih]
      by_cases hk : k ∈ ks
      · simp [addK, hk]
      · simp [addK, hk, Ne.symm h]
def keysOf (l : List Post) : List Int := l.foldl (fun ks p => addK ks p.rev) []
theorem mem_addK {ks : List Int} {k j : Int} : j ∈ addK ks k ↔ j ∈ ks ∨ j = k := by
  unfold addK
  split
  · rename_i h
    exact ⟨Or.inl, fun hh => hh.elim id fun e => e ▸ h⟩
  · simp
theorem keysOf_snoc (l : List Post) (p : Post) : keysOf (l ++ [p]) = addK (keysOf l) p.rev := by simp [keysOf]
theorem mem_keys {k : Int} (l : List Post) : k ∈ keysOf l ↔ (l.any fun q => q.rev == k) = true := by
  have key : ∀ (l : List Post) (ks : List Int), k ∈ l.foldl (fun ks p => addK ks p.rev) ks ↔ k ∈ ks ∨ (l.any fun q => q.rev == k) = true := by
    intro l
    induction l with
    | nil => intro ks; simp
    | cons p l ih =>
      intro ks
      rw [List.foldl_cons, ih, mem_addK, List.any_cons, Bool.or_eq_true, beq_iff_eq, or_assoc]
      simp only [eq_comm]
  have := key l []
  simp only [List.not_mem_nil, false_or] at this
  exact this
structure Nice (p : Post) : Prop where
  memo : p.memo.length ≤ 1000000
  legs : p.legs.length ≤ 1000000
  so : p.so = .nil → p.legs = []
def lastKn (l : List Post) (k : Int) : Bool := (l.getLast?).elim false fun q => decide (k < q.known)
def oldE (l : List Post) (p old : Post) : Int := if old.rev > 0 then 27 else if (l.any fun q => q.rev == p.rev) = true then 23 else if revE old p.id p.known = 0 ∧ same (rvp old p.id p.known) p = true then 0 else 3
def nextE (l : List Post) (p : Post) : Int :=
  if l.length = 400 then 6 else if p.id ≠ l.length + 1 then 25 else if lastKn l p.known = true then 20 else if p.rev = 0 then 0 else (l[(p.rev - 1).toNat]?).elim 0 (oldE l p)
theorem s59 {l : List Post} {o : SO} {s : Nat} (hs : szOk 7 (CV.pv (PV.sl o s (List.map Post.pv l))) = true) (hl : l.length ≤ 1000) (hn : ∀ q ∈ l, Nice q) {p : Post} (hr : 0 ≤ p.rev) (hr2 : p.rev < p.id) :
    cc (ev X E0) 39 [AV.sl o s (l.map Post.pv), AV.c (.mp 0), Post.av p] [Box.map (kvs (keysOf l))] = some (.i (nextE l p), [Box.map (kvs (keysOf l))]) := by
  have len : (((l.map Post.pv).length : Nat) : Int) = l.length := by rw [List.length_map]
  unfold nextE
  by_cases c1 : l.length = 400
  · rw [if_pos c1]; exact f59n_1 l o s hs _ p (by rw [len]; omega)
  rw [if_neg c1]
  have g1 : ¬(↑(List.length (List.map Post.pv l)) : Int) = 400 := by rw [len]; omega
  by_cases c2 : p.id ≠ l.length + 1
  · rw [if_pos c2]; exact f59n_2 l o s hs _ p g1 (by rw [len, wi64 (by omega) (by omega)]; exact c2)
  rw [if_neg c2]
  replace c2 : p.id = l.length + 1 := by simpa using c2
  have g2 : p.id = IntKind.wrap .i64 ((↑(List.length (List.map Post.pv l)) : Int) + 1) := by rw [len, wi64 (by omega) (by omega)]; exact c2
  by_cases c3 : l = []
  · subst c3
    have hr0 : p.rev = 0 := by simp at c2; omega
    rw [if_neg (by simp [lastKn]), if_pos hr0]
    exact f59n_5 [] o s hs _ p g1 g2 (by simp) hr0
  have hpos : 0 < l.length := List.length_pos_iff.2 c3
  have hlast : l[l.length - 1]? = some (l.getLast c3) := by rw [List.getLast_eq_getElem]; exact List.getElem?_eq_getElem (by omega)
  have hw : IntKind.wrap .i64 ((↑(List.length (List.map Post.pv l)) : Int) - 1) = ((l.length - 1 : Nat) : Int) := by rw [len, wi64 (by omega) (by omega)]; omega
  have g3 : (↑(List.length (List.map Post.pv l)) : Int) > 0 := by rw [len]; omega
  have g4 : 0 ≤ IntKind.wrap .i64 ((↑(List.length (List.map Post.pv l)) : Int) - 1) := by rw [hw]; omega
  have g5 : l[Int.toNat (IntKind.wrap .i64 ((↑(List.length (List.map Post.pv l)) : Int) - 1))]? = some (l.getLast c3) := by rw [hw]; exact hlast
  have hlk : lastKn l p.known = decide (p.known < (l.getLast c3).known) := by rw [lastKn, List.getLast?_eq_some_getLast c3]; rfl
  rw [hlk]
  by_cases c4 : p.known < (l.getLast c3).known
  · rw [if_pos (by simpa using c4)]; exact f59n_3 l o s hs _ p _ g1 g2 g3 g4 g5 c4
  rw [if_neg (by simpa using c4)]
  by_cases c5 : p.rev = 0
  · rw [if_pos c5]; exact f59n_4 l o s hs _ p _ g1 g2 g3 g4 g5 c4 c5
  rw [if_neg c5]
  have hlt : (p.rev - 1).toNat < l.length := by omega
  have hold := List.getElem?_eq_getElem hlt
  have hwr : IntKind.wrap .i64 (p.rev - 1) = p.rev - 1 := wi64 (by omega) (by omega)
  have ho : l[Int.toNat (IntKind.wrap IntKind.i64 (Post.rev p - 1))]? = some l[(p.rev - 1).toNat] := by rw [hwr]; exact hold
  have g6 : 0 ≤ IntKind.wrap .i64 (p.rev - 1) := by rw [hwr]; omega
  rw [hold]
  show _ = some (AV.i (oldE l p l[(p.rev - 1).toNat]), _)
  generalize hq : l[(p.rev - 1).toNat] = old at ho
  have hmem : old ∈ l := by rw [← hq]; exact List.getElem_mem hlt
  have hN := hn old hmem
  have h38 := s38 old p.id p.known ⟨hN.memo, by have := hN.legs; omega⟩ hN.so
  have hget := get_kvs p.rev (keysOf l)
  have hcong : (p.rev ∈ keysOf l) ↔ (l.any fun q => q.rev == p.rev) = true := mem_keys l
  unfold oldE
  by_cases e0 : revE old p.id p.known = 0
  · rw [e0, if_pos rfl] at h38
    have h43 := s43 (rvp old p.id p.known) p (by simp only [rvp, List.length_map]; exact hN.legs)
    by_cases c6 : old.rev > 0
    · rw [if_pos c6]
      exact f59_4 l o s hs _ p old _ ho _ g3 c5 h38 h43 _ g1 g2 g4 g5 c4 g6 c6
    rw [if_neg c6]
    by_cases c7 : (l.any fun q => q.rev == p.rev) = true
    · rw [if_pos c7]
      rw [if_pos (hcong.2 c7)] at hget
      exact f59_7 l o s hs _ p old _ ho _ g3 c5 h38 h43 _ true g1 g2 g4 g5 c4 g6 c6 hget rfl
    rw [if_neg c7]
    rw [if_neg (fun h => c7 (hcong.1 h))] at hget
    cases hb : same (rvp old p.id p.known) p with
    | true =>
      rw [hb] at h43
      rw [if_pos ⟨e0, rfl⟩]
      exact f59_6 l o s hs _ p old _ ho _ g3 c5 h38 h43 _ g1 g2 g4 g5 c4 g6 c6 hget rfl
    | false =>
      rw [hb] at h43
      rw [if_neg (by simp)]
      exact f59_5 l o s hs _ p old _ ho _ g3 c5 h38 h43 _ g1 g2 g4 g5 c4 g6 c6 hget rfl
  · rw [if_neg e0] at h38
    by_cases c6 : old.rev > 0
    · rw [if_pos c6]
      exact f59e_4 l o s hs _ p old ho _ e0 g3 c5 h38 _ g1 g2 g4 g5 c4 g6 c6
    rw [if_neg c6]
    by_cases c7 : (l.any fun q => q.rev == p.rev) = true
    · rw [if_pos c7]
      rw [if_pos (hcong.2 c7)] at hget
      exact f59e_6 l o s hs _ p old ho _ e0 g3 c5 h38 _ true g1 g2 g4 g5 c4 g6 c6 hget rfl
    rw [if_neg c7]
    rw [if_neg (fun h => c7 (hcong.1 h))] at hget
    rw [if_neg (fun h => e0 h.1)]
    exact f59e_5 l o s hs _ p old ho _ e0 g3 c5 h38 _ g1 g2 g4 g5 c4 g6 c6 hget
abbrev S60 (l : List Post) (o : SO) (s : Nat) (kv : List (PV × PV)) (i : Int) : St := St.mk (tmOf 18 [(3, AV.c (CV.mp 0)), (7, AV.c (CV.pv (PV.sl o s (List.map Post.pv l)))), (8, AV.c (CV.pv (PV.int .i64 (↑(List.length (List.map Post.pv l)) : Int)))), (9, AV.c (CV.pv (PV.int .i64 i)))]) [Box.map kv]
theorem l60_1 (l : List Post) (o : SO) (s : Nat) (hs : SZ o s l) (kv : List (PV × PV)) (i : Nat) (y1 : Post) (y2 : List (PV × PV)) (g1 : (↑i : Int) < (↑(List.length (List.map Post.pv l)) : Int)) (g2 : l[i]? = some y1) (g3 : mapPut kv (.int .i64 y1.rev) (.bool true) = some y2) :
    lv (cv (ev X E0) xf40_l0) (rl [3, 3, 0, 0]) 1 (S60 l o s kv (↑i : Int)) = lv (cv (ev X E0) xf40_l0) (rl [3, 3, 0, 0]) 1 (St.mk (tmOf 18 [(3, AV.c (.mp 0)), (7, AV.c (.pv (.sl o s (List.map Post.pv l)))), (8, AV.c (vi (↑(List.length (List.map Post.pv l)) : Int))), (9, AV.c (vi (IntKind.wrap .i64 ((↑i : Int) + 1))))]) [.map y2]) :=
  lv_next [.br true, .sz, .el (Post.pv y1), .kv y2]
    (c := rq [(1, decide ((↑i : Int) < (↑(List.length (List.map Post.pv l)) : Int)) = true), (1, SZ o s l), (1, 0 ≤ (↑i : Int)), (1, (List.map Post.pv l)[i]? = some (Post.pv y1)), ty g3]) (by kernel_rfl)
    (aq ⟨(dT g1), hs, (Int.natCast_nonneg _), (map_at g2), g3, trivial⟩)
theorem l60_2 (l : List Post) (o : SO) (s : Nat) (_hs : SZ o s l) (kv : List (PV × PV)) (i : Nat) (g1 : ¬(↑i : Int) < (↑(List.length (List.map Post.pv l)) : Int)) :
    lv (cv (ev X E0) xf40_l0) (rl [3, 3, 0, 0]) 1 (S60 l o s kv (↑i : Int)) = some (XExit.exit 0, St.mk (tmOf 18 [(3, AV.c (.mp 0))]) [.map kv]) :=
  lv_exit [.br false]
    (c := [decide ((↑i : Int) < (↑(List.length (List.map Post.pv l)) : Int)) = false]) (by kernel_rfl)
    ⟨(dF g1), trivial⟩
abbrev S25 (l : List Post) (o : SO) (s : Nat) (kv : List (PV × PV)) (i : Int) : St := St.mk (tmOf 32 [(1, AV.c (CV.ptr 0 0)), (3, AV.c (CV.mp 1)), (8, AV.c (CV.pv (PV.sl o s (List.map Post.pv l)))), (9, AV.c (CV.pv (PV.int .i64 (↑(List.length (List.map Post.pv l)) : Int)))), (10, AV.c (CV.pv (PV.int .i64 i)))]) [Box.cells [CV.pv (PV.sl o s (List.map Post.pv l))], Box.map kv]
abbrev l25_h59 (l : List Post) (kv : List (PV × PV)) (i : Nat) (y : Post) (e e2 : Int) : Prop := e = 0 → cc (ev X E0) 39 [AV.sl SO.shut 7 (List.take i (List.map Post.pv l)), AV.c (.mp 0), Post.av y] [.map kv] = some (AV.i e2, [.map kv])
theorem l25_1 (l : List Post) (o : SO) (s : Nat) (hs : SZ o s l) (_hn : CV.some' (.pv (.sl o s (List.map Post.pv l))) = true) (kv : List (PV × PV)) (i : Nat) (y : Post) (hy : l[i]? = some y) (e e2 : Int) (h37 : cc (ev X E0) 36 [Post.av y] [] = some (AV.i e, [])) (_h59 : l25_h59 l kv i y e e2) (g1 : (↑i : Int) < (↑(List.length (List.map Post.pv l)) : Int)) (g2 : ¬e = 0) :
    lv (cv (ev X E0) xf38_l0) (rl [1, 1, 4, 0, 0]) 2 (S25 l o s kv (↑i : Int)) = some (XExit.ret, St.mk (tmOf 32 [(2, AV.c (.pv (.bool false)))]) [.cells [.pv (.sl o s (List.map Post.pv l))], .map kv, .cells (Post.cs y)]) :=
  lv_ret ([.br true, .sz, .el (Post.pv y), .call (AV.c (vi e)) []] ++ bs 10 true)
    (c := rq [(1, decide ((↑i : Int) < (↑(List.length (List.map Post.pv l)) : Int)) = true), (1, SZ o s l), (1, 0 ≤ (↑i : Int)), (1, (List.map Post.pv l)[i]? = some (Post.pv y)), ty h37, (9, (e != 0) = true), (1, true = true)]) (by kernel_rfl)
    (aq ⟨(dT g1), hs, (Int.natCast_nonneg _), (map_at hy), h37, (bne_iff_ne.mpr g2), rfl, trivial⟩)
theorem l25_2 (l : List Post) (o : SO) (s : Nat) (hs : SZ o s l) (hn : CV.some' (.pv (.sl o s (List.map Post.pv l))) = true) (kv : List (PV × PV)) (i : Nat) (y : Post) (hy : l[i]? = some y) (e e2 : Int) (h37 : cc (ev X E0) 36 [Post.av y] [] = some (AV.i e, [])) (h59 : l25_h59 l kv i y e e2) (g1 : (↑i : Int) < (↑(List.length (List.map Post.pv l)) : Int)) (g2 : e = 0) (g3 : (↑i : Int) ≤ (↑(List.length (List.map Post.pv l)) : Int)) (g4 : ¬e2 = 0) :
    lv (cv (ev X E0) xf38_l0) (rl [1, 1, 4, 0, 0]) 2 (S25 l o s kv (↑i : Int)) = some (XExit.ret, St.mk (tmOf 32 [(2, AV.c (.pv (.bool false)))]) [.cells [.pv (.sl o s (List.map Post.pv l))], .map kv, .cells (Post.cs y)]) :=
  lv_ret ([.br true, .sz, .el (Post.pv y), .call (AV.c (vi e)) []] ++ bs 4 false ++ [.nn] ++ bs 3 false ++ [.call (AV.c (vi e2)) [.map kv], .br false, .br false, .br true])
    (c := rq [(1, decide ((↑i : Int) < (↑(List.length (List.map Post.pv l)) : Int)) = true), (1, SZ o s l), (1, 0 ≤ (↑i : Int)), (1, (List.map Post.pv l)[i]? = some (Post.pv y)), ty h37, (4, (e != 0) = false), (1, SZ o s l), ty hn, (1, (0 : Int) ≤ (0 : Int)), (1, 0 ≤ (↑i : Int)), ty g3, (3, (e != 0) = false), (1, cc (ev X E0) 39 [AV.c (.pv (.sl SO.shut 7 (List.take i (List.map Post.pv l)))), AV.c (.mp 0), AV.agg (Post.cs y)] [.map kv] = some (AV.c (vi e2), [.map kv])), (2, (e != 0) = false), (1, (e2 != 0) = true)]) (by kernel_rfl)
    (aq ⟨(dT g1), hs, (Int.natCast_nonneg _), (map_at hy), h37, (bne_f g2), hs, hn, (Int.le_refl _), (Int.natCast_nonneg _), g3, (bne_f g2), (h59 g2), (bne_f g2), (bne_iff_ne.mpr g4), trivial⟩)
theorem l25_3 (l : List Post) (o : SO) (s : Nat) (hs : SZ o s l) (hn : CV.some' (.pv (.sl o s (List.map Post.pv l))) = true) (kv : List (PV × PV)) (i : Nat) (y : Post) (hy : l[i]? = some y) (e e2 : Int) (h37 : cc (ev X E0) 36 [Post.av y] [] = some (AV.i e, [])) (h59 : l25_h59 l kv i y e e2) (y1 : List (PV × PV)) (g1 : (↑i : Int) < (↑(List.length (List.map Post.pv l)) : Int)) (g2 : e = 0) (g3 : (↑i : Int) ≤ (↑(List.length (List.map Post.pv l)) : Int)) (g4 : e2 = 0) (g5 : mapPut kv (.int .i64 y.rev) (.bool true) = some y1) :
    lv (cv (ev X E0) xf38_l0) (rl [1, 1, 4, 0, 0]) 2 (S25 l o s kv (↑i : Int)) = lv (cv (ev X E0) xf38_l0) (rl [1, 1, 4, 0, 0]) 2 (St.mk (tmOf 32 [(1, AV.c (.ptr 0 0)), (3, AV.c (.mp 1)), (8, AV.c (.pv (.sl o s (List.map Post.pv l)))), (9, AV.c (vi (↑(List.length (List.map Post.pv l)) : Int))), (10, AV.c (vi (IntKind.wrap .i64 ((↑i : Int) + 1))))]) [.cells [.pv (.sl o s (List.map Post.pv l))], .map y1]) :=
  lv_next ([.br true, .sz, .el (Post.pv y), .call (AV.c (vi e)) []] ++ bs 4 false ++ [.nn] ++ bs 3 false ++ [.call (AV.c (vi e2)) [.map kv]] ++ bs 3 false ++ [.kv y1])
    (c := rq [(1, decide ((↑i : Int) < (↑(List.length (List.map Post.pv l)) : Int)) = true), (1, SZ o s l), (1, 0 ≤ (↑i : Int)), (1, (List.map Post.pv l)[i]? = some (Post.pv y)), ty h37, (4, (e != 0) = false), (1, SZ o s l), ty hn, (1, (0 : Int) ≤ (0 : Int)), (1, 0 ≤ (↑i : Int)), ty g3, (3, (e != 0) = false), (1, cc (ev X E0) 39 [AV.c (.pv (.sl SO.shut 7 (List.take i (List.map Post.pv l)))), AV.c (.mp 0), AV.agg (Post.cs y)] [.map kv] = some (AV.c (vi e2), [.map kv])), (2, (e != 0) = false), (1, (e2 != 0) = false), ty g5]) (by kernel_rfl)
    (aq ⟨(dT g1), hs, (Int.natCast_nonneg _), (map_at hy), h37, (bne_f g2), hs, hn, (Int.le_refl _), (Int.natCast_nonneg _), g3, (bne_f g2), (h59 g2), (bne_f g2), (bne_f g4), g5, trivial⟩)
theorem l25x_1 (l : List Post) (o : SO) (s : Nat) (kv : List (PV × PV)) (i : Nat) (hi : ¬(↑i : Int) < (↑(List.length (List.map Post.pv l)) : Int)) :
    lv (cv (ev X E0) xf38_l0) (rl [1, 1, 4, 0, 0]) 2 (S25 l o s kv (↑i : Int)) = some (XExit.exit 0, St.mk (tmOf 32 []) [.cells [.pv (.sl o s (List.map Post.pv l))], .map kv]) :=
  lv_exit [.br false]
    (c := [decide ((↑i : Int) < (↑(List.length (List.map Post.pv l)) : Int)) = false]) (by kernel_rfl)
    ⟨(dF hi), trivial⟩
theorem ltP {l : List Post} {i : Nat} (h : i < l.length) : (i : Int) < (((l.map Post.pv).length : Nat) : Int) := by rw [List.length_map]; omega
theorem a60 {l : List Post} {o : SO} {s : Nat} (hs : szOk 7 (CV.pv (PV.sl o s (List.map Post.pv l))) = true) (hl : l.length ≤ 1000000) : lv (cv (ev X E0) xf40_l0) (rl [3, 3, 0, 0]) 1 (S60 l o s [] 0) = some (XExit.exit 0, St.mk (tmOf 18 [(3, AV.c (CV.mp 0))]) [Box.map (kvs (keysOf l))]) := by
  refine lv_fold (l := l) (fun ks (p : Post) => addK ks p.rev) [] (fun i ks => S60 l o s (kvs ks) i) (l60_2 l o s hs _ l.length (by simp)) fun i y ks hat hlt hn => ?_
  have := l60_1 l o s hs (kvs ks) i y _ (ltP hlt) hat (put_kvs y.rev ks)
  rwa [wi64 (by omega) (by omega)] at this
theorem f60_1 (l : List Post) (o : SO) (s : Nat) (kv : List (PV × PV)) (h : lv (cv (ev X E0) xf40_l0) (rl [3, 3, 0, 0]) 1 (S60 l o s [] 0) = some (XExit.exit 0, St.mk (tmOf 18 [(3, AV.c (.mp 0))]) [.map kv])) :
    cc (ev X E0) 40 [AV.c (.pv (.sl o s (List.map Post.pv l)))] [] = some (AV.c (.mp 0), [.map kv]) :=
  cc_path (x := xf40) rfl [.loop (XExit.exit 0) (St.mk (tmOf 18 [(3, AV.c (.mp 0))]) [.map kv])]
    (c := rq [ty h]) (by kernel_rfl)
    (aq ⟨h, trivial⟩)
theorem s60 {l : List Post} {o : SO} {s : Nat} (hs : szOk 7 (CV.pv (PV.sl o s (List.map Post.pv l))) = true) (hl : l.length ≤ 1000000) : cc (ev X E0) 40 [AV.sl o s (l.map Post.pv)] [] = some (AV.c (CV.mp 0), [Box.map (kvs (keysOf l))]) := f60_1 l o s _ (a60 hs hl)
def fullE (l : List Post) (p : Post) : Int := if chk p = 0 then nextE l p else chk p
def rightFrom : List Post → List Post → Bool
  | _, [] => true
  | pre, y :: r => fullE pre y == 0 && rightFrom (pre ++ [y]) r
def rightB (l : List Post) : Bool := rightFrom [] l
theorem take_pre {l pre r : List Post} {y : Post} (h : l = pre ++ y :: r) : List.take pre.length (List.map Post.pv l) = List.map Post.pv pre := by
  rw [h, List.map_append, List.take_append_of_le_length (by simp), List.take_of_length_le (by simp)]
theorem chk_rev {p : Post} (h : chk p = 0) : 0 ≤ p.rev ∧ p.rev < p.id ∧ 1 ≤ p.id ∧ p.id ≤ 1000000 := by
  have := (chk_inv h).1
  simp only [headed, Bool.and_eq_true, decide_eq_true_eq] at this
  omega
theorem nn_of {o : SO} {s : Nat} {l : List Post} (hn : o = .nil → l = []) (h : l ≠ []) : CV.some' (CV.pv (PV.sl o s (List.map Post.pv l))) = true := by
  simp only [CV.some', bne_iff_ne]
  exact fun e => h (hn e)
theorem a25 {l : List Post} {o : SO} {s : Nat} (hs : szOk 7 (CV.pv (PV.sl o s (List.map Post.pv l))) = true) (ho : o = .nil → l = []) (hl : l.length ≤ 1000) (hN : ∀ q ∈ l, Nice q) : ∀ (r pre : List Post), l = pre ++ r →
    (rightFrom pre r = true → lv (cv (ev X E0) xf38_l0) (rl [1, 1, 4, 0, 0]) 2 (S25 l o s (kvs (keysOf pre)) (pre.length : Nat)) = some (XExit.exit 0, St.mk (tmOf 32 []) [Box.cells [CV.pv (PV.sl o s (List.map Post.pv l))], Box.map (kvs (keysOf l))])) ∧
    (rightFrom pre r = false → ∃ (kv : List (PV × PV)) (y : Post), lv (cv (ev X E0) xf38_l0) (rl [1, 1, 4, 0, 0]) 2 (S25 l o s (kvs (keysOf pre)) (pre.length : Nat)) = some (XExit.ret, St.mk (tmOf 32 [(2, AV.c (CV.pv (PV.bool false)))]) [Box.cells [CV.pv (PV.sl o s (List.map Post.pv l))], Box.map kv, Box.cells (Post.cs y)]))
  | [], pre, e => by
    rw [List.append_nil] at e
    subst e
    exact ⟨fun _ => l25x_1 l o s _ l.length (by simp), fun h => by simp [rightFrom] at h⟩
  | y :: r, pre, e => by
    have hlen : l.length = pre.length + r.length + 1 := by rw [e]; simp; omega
    have hat : l[pre.length]? = some y := by rw [e]; simp
    have hlt : ((pre.length : Nat) : Int) < (((l.map Post.pv).length : Nat) : Int) := ltP (by omega)
    have hy := hN y (by rw [e]; simp)
    have nn := nn_of (s := s) ho (by rw [e]; simp)
    have h37 := s37 y hy.memo (by have := hy.legs; omega)
    have h59 : chk y = 0 → cc (ev X E0) 39 [AV.sl .shut 7 (List.take pre.length (List.map Post.pv l)), AV.c (.mp 0), Post.av y] [Box.map (kvs (keysOf pre))] = some (.i (nextE pre y), [Box.map (kvs (keysOf pre))]) := fun c => by
      rw [take_pre e]
      have hr := chk_rev c
      exact s59 rfl (by omega) (fun q hq => hN q (by rw [e]; simp [hq])) hr.1 hr.2.1
    by_cases c : chk y = 0
    · by_cases c2 : nextE pre y = 0
      · have st := l25_3 l o s hs nn (kvs (keysOf pre)) pre.length y hat _ _ h37 h59 _ hlt c (by omega) c2 (put_kvs y.rev _)
        rw [wi64 (by omega) (by omega), ← keysOf_snoc] at st
        have ih := a25 hs ho hl hN r (pre ++ [y]) (by rw [e]; simp)
        rw [List.length_append, List.length_singleton, Int.natCast_add, Int.natCast_one] at ih
        have hf : fullE pre y = 0 := by rw [fullE, if_pos c, c2]
        simp only [rightFrom, hf, beq_self_eq_true, Bool.true_and]
        exact ⟨fun h => st.trans (ih.1 h), fun h => by obtain ⟨kv, z, hz⟩ := ih.2 h; exact ⟨kv, z, st.trans hz⟩⟩
      · have hf : (fullE pre y == 0) = false := by rw [fullE, if_pos c]; simpa using c2
        simp only [rightFrom, hf, Bool.false_and]
        exact ⟨fun h => (by cases h), fun _ => ⟨_, y, l25_2 l o s hs nn _ pre.length y hat _ _ h37 h59 hlt c (by omega) c2⟩⟩
    · have hf : (fullE pre y == 0) = false := by rw [fullE, if_neg c]; simpa using c
      simp only [rightFrom, hf, Bool.false_and]
      exact ⟨fun h => (by cases h), fun _ => ⟨_, y, l25_1 l o s hs nn _ pre.length y hat _ 0 h37 (fun c' => absurd c' c) hlt c⟩⟩
theorem f25_1 (l : List Post) (o : SO) (s : Nat) (kv : List (PV × PV)) (h : lv (cv (ev X E0) xf38_l0) (rl [1, 1, 4, 0, 0]) 2 (S25 l o s [] 0) = some (XExit.exit 0, St.mk (tmOf 32 []) [.cells [.pv (.sl o s (List.map Post.pv l))], .map kv])) :
    cc (ev X E0) 38 [AV.agg [.pv (.sl o s (List.map Post.pv l))]] [] = some (AV.c (.pv (.bool true)), []) :=
  cc_path (x := xf38) rfl [.loop (XExit.exit 0) (St.mk (tmOf 32 []) [.cells [.pv (.sl o s (List.map Post.pv l))], .map kv])]
    (c := rq [ty h]) (by kernel_rfl)
    (aq ⟨h, trivial⟩)
theorem f25r_1 (l : List Post) (o : SO) (s : Nat) (kv : List (PV × PV)) (y : Post) (h : lv (cv (ev X E0) xf38_l0) (rl [1, 1, 4, 0, 0]) 2 (S25 l o s [] 0) = some (XExit.ret, St.mk (tmOf 32 [(2, AV.c (.pv (.bool false)))]) [.cells [.pv (.sl o s (List.map Post.pv l))], .map kv, .cells (Post.cs y)])) :
    cc (ev X E0) 38 [AV.agg [.pv (.sl o s (List.map Post.pv l))]] [] = some (AV.c (.pv (.bool false)), []) :=
  cc_path (x := xf38) rfl [.loop XExit.ret (St.mk (tmOf 32 [(2, AV.c (.pv (.bool false)))]) [.cells [.pv (.sl o s (List.map Post.pv l))], .map kv, .cells (Post.cs y)])]
    (c := rq [ty h]) (by kernel_rfl)
    (aq ⟨h, trivial⟩)
theorem s25 {l : List Post} {o : SO} {s : Nat} (hs : szOk 7 (CV.pv (PV.sl o s (List.map Post.pv l))) = true) (ho : o = .nil → l = []) (hl : l.length ≤ 1000) (hN : ∀ q ∈ l, Nice q) : cc (ev X E0) 38 [AV.agg [CV.pv (PV.sl o s (l.map Post.pv))]] [] = some (.b (rightB l), []) := by
  have a := a25 hs ho hl hN l [] rfl
  cases h : rightB l with
  | true => exact f25_1 l o s _ (a.1 h)
  | false =>
    obtain ⟨kv, y, hy⟩ := a.2 h
    exact f25r_1 l o s kv y hy
end Go.Sx.Tryd
