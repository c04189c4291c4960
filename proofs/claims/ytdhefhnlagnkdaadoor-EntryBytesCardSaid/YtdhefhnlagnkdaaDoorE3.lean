/- The bytes of a posting, of the program and of the document. -/
import Derived.Test.YtdhefhnlagnkdaaDoorE1
import Derived.Test.YtdhefhnlagnkdaaDoorR9
namespace Go.Sx.Tryd
open Go Go.Sx
def legB (x : Leg) : List UInt8 := vb x.acc.toNat ++ mb x.cur x.minor
def legsB : List Leg → List UInt8
  | [] => []
  | x :: r => legB x ++ legsB r
def headB (p : Post) : List UInt8 := vb p.id.toNat ++ vb (zz p.known) ++ vb (zz p.value) ++ vb p.kind.toNat ++ vb p.rev.toNat ++ tb p.memo ++ vb p.legs.length
def enc (p : Post) : List UInt8 := headB p ++ legsB p.legs
abbrev headW (p : Post) : List UInt8 := vb (Int.toNat (IntKind.wrap .u64 (Post.id p))) ++ vb (zz (IntKind.wrap .i64 (Post.known p))) ++ vb (zz (IntKind.wrap .i64 (Post.value p))) ++ vb (Int.toNat (IntKind.wrap .u64 (Post.kind p))) ++ vb (Int.toNat (IntKind.wrap .u64 (Post.rev p))) ++ tb (Post.memo p) ++ vb (Int.toNat (IntKind.wrap .u64 (↑(List.length (List.map Leg.pv (Post.legs p))) : Int)))
abbrev S42 (p : Post) (g : Nat) (b : List UInt8) (i : Int) : St := St.mk (tmOf 68 [(5, AV.c (CV.ptr 1 0)), (50, AV.c (CV.pv (PV.sl (Post.so p) 3 (List.map Leg.pv (Post.legs p))))), (51, AV.c (CV.pv (PV.int .i64 (↑(List.length (List.map Leg.pv (Post.legs p))) : Int)))), (52, AV.c (CV.pv (PV.int .i64 i)))]) [Box.cells (Post.cs p), Box.cells [CV.own g 1 (pvBytes b)]]
theorem l42a_1 (p : Post) (b : List UInt8) (i : Nat) (y1 : Leg) (g1 : (↑i : Int) < (↑(List.length (List.map Leg.pv p.legs)) : Int)) (g2 : p.legs[i]? = some y1) (g3 : 0 ≤ IntKind.wrap .u64 y1.acc) (g4 : List.length b + List.length (vb (Int.toNat (IntKind.wrap .u64 y1.acc))) ≤ 100000000000000) (g5 : -9223372036854775808 ≤ y1.cur) (g6 : y1.cur ≤ 9223372036854775807) (g7 : -9223372036854775808 ≤ y1.minor) (g8 : y1.minor ≤ 9223372036854775807) (g9 : List.length (b ++ vb (Int.toNat (IntKind.wrap .u64 y1.acc))) ≤ 100000000) :
    lv (cv (ev X E0) xf42_l0) (rl [5, 44, 0, 0]) 2 (S42 p 3072 b (↑i : Int)) = lv (cv (ev X E0) xf42_l0) (rl [5, 44, 0, 0]) 2 (St.mk (tmOf 68 [(5, AV.c (.ptr 1 0)), (50, AV.c (.pv (.sl p.so 3 (List.map Leg.pv p.legs)))), (51, AV.c (vi (↑(List.length (List.map Leg.pv p.legs)) : Int))), (52, AV.c (vi (IntKind.wrap .i64 ((↑i : Int) + 1))))]) [.cells (Post.cs p), .cells [.own 4096 1 (pvBytes (b ++ vb (Int.toNat (IntKind.wrap .u64 y1.acc)) ++ mb y1.cur y1.minor))]]) :=
  lv_next [.br true, .el (Leg.pv y1), .call (AV.tup []) [.cells [.own 0 1 (pvBytes (b ++ vb (Int.toNat (IntKind.wrap .u64 y1.acc))))]], .call (AV.tup []) [.cells [.own 0 1 (pvBytes (b ++ vb (Int.toNat (IntKind.wrap .u64 y1.acc)) ++ mb y1.cur y1.minor))]]]
    (c := [decide ((↑i : Int) < (↑(List.length (List.map Leg.pv p.legs)) : Int)) = true, 0 ≤ (↑i : Int), (List.map Leg.pv p.legs)[i]? = some (Leg.pv y1), cc (ev X E0) 91 [AV.c (.ptr 0 0), AV.c (.pv (.int .u64 (IntKind.wrap .u64 y1.acc)))] [.cells [.own 0 1 (pvBytes b)]] = some (AV.tup [], [.cells [.own 0 1 (pvBytes (b ++ vb (Int.toNat (IntKind.wrap .u64 y1.acc))))]]), cc (ev X E0) 94 [AV.c (.ptr 0 0), AV.agg [vi y1.cur, vi y1.minor]] [.cells [.own 0 1 (pvBytes (b ++ vb (Int.toNat (IntKind.wrap .u64 y1.acc))))]] = some (AV.tup [], [.cells [.own 0 1 (pvBytes (b ++ vb (Int.toNat (IntKind.wrap .u64 y1.acc)) ++ mb y1.cur y1.minor))]])]) (by kernel_rfl)
    ⟨(decide_eq_true g1), (Int.natCast_nonneg _), (map_at g2), (Vint_own _ _ _ g3 g4), (Money_own _ _ _ g5 g6 g7 g8 g9), trivial⟩
theorem l42_1 (p : Post) (b : List UInt8) (i : Nat) (y1 : Leg) (g1 : (↑i : Int) < (↑(List.length (List.map Leg.pv p.legs)) : Int)) (g2 : p.legs[i]? = some y1) (g3 : 0 ≤ IntKind.wrap .u64 y1.acc) (g4 : List.length b + List.length (vb (Int.toNat (IntKind.wrap .u64 y1.acc))) ≤ 100000000000000) (g5 : -9223372036854775808 ≤ y1.cur) (g6 : y1.cur ≤ 9223372036854775807) (g7 : -9223372036854775808 ≤ y1.minor) (g8 : y1.minor ≤ 9223372036854775807) (g9 : List.length (b ++ vb (Int.toNat (IntKind.wrap .u64 y1.acc))) ≤ 100000000) :
    lv (cv (ev X E0) xf42_l0) (rl [5, 44, 0, 0]) 2 (S42 p 4096 b (↑i : Int)) = lv (cv (ev X E0) xf42_l0) (rl [5, 44, 0, 0]) 2 (St.mk (tmOf 68 [(5, AV.c (.ptr 1 0)), (50, AV.c (.pv (.sl p.so 3 (List.map Leg.pv p.legs)))), (51, AV.c (vi (↑(List.length (List.map Leg.pv p.legs)) : Int))), (52, AV.c (vi (IntKind.wrap .i64 ((↑i : Int) + 1))))]) [.cells (Post.cs p), .cells [.own 4096 1 (pvBytes (b ++ vb (Int.toNat (IntKind.wrap .u64 y1.acc)) ++ mb y1.cur y1.minor))]]) :=
  lv_next [.br true, .el (Leg.pv y1), .call (AV.tup []) [.cells [.own 0 1 (pvBytes (b ++ vb (Int.toNat (IntKind.wrap .u64 y1.acc))))]], .call (AV.tup []) [.cells [.own 0 1 (pvBytes (b ++ vb (Int.toNat (IntKind.wrap .u64 y1.acc)) ++ mb y1.cur y1.minor))]]]
    (c := [decide ((↑i : Int) < (↑(List.length (List.map Leg.pv p.legs)) : Int)) = true, 0 ≤ (↑i : Int), (List.map Leg.pv p.legs)[i]? = some (Leg.pv y1), cc (ev X E0) 91 [AV.c (.ptr 0 0), AV.c (.pv (.int .u64 (IntKind.wrap .u64 y1.acc)))] [.cells [.own 0 1 (pvBytes b)]] = some (AV.tup [], [.cells [.own 0 1 (pvBytes (b ++ vb (Int.toNat (IntKind.wrap .u64 y1.acc))))]]), cc (ev X E0) 94 [AV.c (.ptr 0 0), AV.agg [vi y1.cur, vi y1.minor]] [.cells [.own 0 1 (pvBytes (b ++ vb (Int.toNat (IntKind.wrap .u64 y1.acc))))]] = some (AV.tup [], [.cells [.own 0 1 (pvBytes (b ++ vb (Int.toNat (IntKind.wrap .u64 y1.acc)) ++ mb y1.cur y1.minor))]])]) (by kernel_rfl)
    ⟨(decide_eq_true g1), (Int.natCast_nonneg _), (map_at g2), (Vint_own _ _ _ g3 g4), (Money_own _ _ _ g5 g6 g7 g8 g9), trivial⟩
theorem l42_2 (p : Post) (b : List UInt8) (i : Nat) (g1 : ¬(↑i : Int) < (↑(List.length (List.map Leg.pv p.legs)) : Int)) :
    lv (cv (ev X E0) xf42_l0) (rl [5, 44, 0, 0]) 2 (S42 p 4096 b (↑i : Int)) = some (XExit.exit 0, St.mk (tmOf 68 [(5, AV.c (.ptr 1 0))]) [.cells (Post.cs p), .cells [.own 4096 1 (pvBytes b)]]) :=
  lv_exit [.br false]
    (c := [decide ((↑i : Int) < (↑(List.length (List.map Leg.pv p.legs)) : Int)) = false]) (by kernel_rfl)
    ⟨(decide_eq_false g1), trivial⟩
theorem f42_1 (p : Post) (e : Int) (h : cc (ev X E0) 37 [Post.av p] [] = some (AV.i e, [])) (hl : e = 0 → lv (cv (ev X E0) xf42_l0) (rl [5, 44, 0, 0]) 2 (S42 p 3072 (headW p) 0) = some (XExit.exit 0, St.mk (tmOf 68 [(5, AV.c (.ptr 1 0))]) [.cells (Post.cs p), .cells [.own 4096 1 (pvBytes (headW p ++ legsB p.legs))]])) (g1 : ¬e = 0) :
    cc (ev X E0) 42 [AV.agg (Post.cs p)] [] = some (AV.tup [AV.c (.pv (.str [])), AV.c (vi e)], []) :=
  cc_path (x := xf42) rfl [.call (AV.c (vi e)) [], .br true]
    (c := [cc (ev X E0) 37 [AV.agg (Post.cs p)] [] = some (AV.c (vi e), []), (e != 0) = true]) (by kernel_rfl)
    ⟨(h), (bne_iff_ne.mpr g1), trivial⟩
theorem f42_2 (p : Post) (e : Int) (h : cc (ev X E0) 37 [Post.av p] [] = some (AV.i e, [])) (hl : e = 0 → lv (cv (ev X E0) xf42_l0) (rl [5, 44, 0, 0]) 2 (S42 p 3072 (headW p) 0) = some (XExit.exit 0, St.mk (tmOf 68 [(5, AV.c (.ptr 1 0))]) [.cells (Post.cs p), .cells [.own 4096 1 (pvBytes (headW p ++ legsB p.legs))]])) (g1 : e = 0) (g2 : 0 ≤ IntKind.wrap .u64 p.id) (g3 : List.length (vb (Int.toNat (IntKind.wrap .u64 p.id))) ≤ 100000000000000) (g4 : -9223372036854775808 ≤ IntKind.wrap .i64 p.known) (g5 : IntKind.wrap .i64 p.known ≤ 9223372036854775807) (g6 : List.length (vb (Int.toNat (IntKind.wrap .u64 p.id))) ≤ 1000000000) (g7 : -9223372036854775808 ≤ IntKind.wrap .i64 p.value) (g8 : IntKind.wrap .i64 p.value ≤ 9223372036854775807) (g9 : List.length (vb (Int.toNat (IntKind.wrap .u64 p.id)) ++ vb (zz (IntKind.wrap .i64 p.known))) ≤ 1000000000) (g10 : 0 ≤ IntKind.wrap .u64 p.kind) (g11 : List.length (vb (Int.toNat (IntKind.wrap .u64 p.id)) ++ vb (zz (IntKind.wrap .i64 p.known)) ++ vb (zz (IntKind.wrap .i64 p.value))) + List.length (vb (Int.toNat (IntKind.wrap .u64 p.kind))) ≤ 100000000000000) (g12 : 0 ≤ IntKind.wrap .u64 p.rev) (g13 : List.length (vb (Int.toNat (IntKind.wrap .u64 p.id)) ++ vb (zz (IntKind.wrap .i64 p.known)) ++ vb (zz (IntKind.wrap .i64 p.value)) ++ vb (Int.toNat (IntKind.wrap .u64 p.kind))) + List.length (vb (Int.toNat (IntKind.wrap .u64 p.rev))) ≤ 100000000000000) (g14 : List.length p.memo ≤ 1000000) (g15 : List.length (vb (Int.toNat (IntKind.wrap .u64 p.id)) ++ vb (zz (IntKind.wrap .i64 p.known)) ++ vb (zz (IntKind.wrap .i64 p.value)) ++ vb (Int.toNat (IntKind.wrap .u64 p.kind)) ++ vb (Int.toNat (IntKind.wrap .u64 p.rev))) ≤ 1000000000) (g16 : 0 ≤ IntKind.wrap .u64 (↑(List.length (List.map Leg.pv p.legs)) : Int)) (g17 : List.length (vb (Int.toNat (IntKind.wrap .u64 p.id)) ++ vb (zz (IntKind.wrap .i64 p.known)) ++ vb (zz (IntKind.wrap .i64 p.value)) ++ vb (Int.toNat (IntKind.wrap .u64 p.kind)) ++ vb (Int.toNat (IntKind.wrap .u64 p.rev)) ++ tb p.memo) + List.length (vb (Int.toNat (IntKind.wrap .u64 (↑(List.length (List.map Leg.pv p.legs)) : Int)))) ≤ 100000000000000) :
    cc (ev X E0) 42 [AV.agg (Post.cs p)] [] = some (AV.tup [AV.c (.pv (.str (headW p ++ legsB p.legs))), AV.c (vi 0)], []) :=
  cc_path (x := xf42) rfl [.call (AV.c (vi e)) [], .br false, .call (AV.c (.ptr (0 : Nat) (0 : Nat))) [.cells [.pv (.sl SO.nil (0 : Nat) [])]], .call (AV.tup []) [.cells [.own 0 1 (pvBytes (vb (Int.toNat (IntKind.wrap .u64 p.id))))]], .call (AV.tup []) [.cells [.own 0 1 (pvBytes (vb (Int.toNat (IntKind.wrap .u64 p.id)) ++ vb (zz (IntKind.wrap .i64 p.known))))]], .call (AV.tup []) [.cells [.own 0 1 (pvBytes (vb (Int.toNat (IntKind.wrap .u64 p.id)) ++ vb (zz (IntKind.wrap .i64 p.known)) ++ vb (zz (IntKind.wrap .i64 p.value))))]], .call (AV.tup []) [.cells [.own 0 1 (pvBytes (vb (Int.toNat (IntKind.wrap .u64 p.id)) ++ vb (zz (IntKind.wrap .i64 p.known)) ++ vb (zz (IntKind.wrap .i64 p.value)) ++ vb (Int.toNat (IntKind.wrap .u64 p.kind))))]], .call (AV.tup []) [.cells [.own 0 1 (pvBytes (vb (Int.toNat (IntKind.wrap .u64 p.id)) ++ vb (zz (IntKind.wrap .i64 p.known)) ++ vb (zz (IntKind.wrap .i64 p.value)) ++ vb (Int.toNat (IntKind.wrap .u64 p.kind)) ++ vb (Int.toNat (IntKind.wrap .u64 p.rev))))]], .call (AV.tup []) [.cells [.own 0 1 (pvBytes (vb (Int.toNat (IntKind.wrap .u64 p.id)) ++ vb (zz (IntKind.wrap .i64 p.known)) ++ vb (zz (IntKind.wrap .i64 p.value)) ++ vb (Int.toNat (IntKind.wrap .u64 p.kind)) ++ vb (Int.toNat (IntKind.wrap .u64 p.rev)) ++ tb p.memo))]], .call (AV.tup []) [.cells [.own 0 1 (pvBytes (vb (Int.toNat (IntKind.wrap .u64 p.id)) ++ vb (zz (IntKind.wrap .i64 p.known)) ++ vb (zz (IntKind.wrap .i64 p.value)) ++ vb (Int.toNat (IntKind.wrap .u64 p.kind)) ++ vb (Int.toNat (IntKind.wrap .u64 p.rev)) ++ tb p.memo ++ vb (Int.toNat (IntKind.wrap .u64 (↑(List.length (List.map Leg.pv p.legs)) : Int)))))]], .loop (XExit.exit 0) (St.mk (tmOf 68 [(5, AV.c (.ptr 1 0))]) [.cells (Post.cs p), .cells [.own 4096 1 (pvBytes (headW p ++ legsB p.legs))]]), .call (AV.c (.pv (.str (headW p ++ legsB p.legs)))) [.cells [.own 0 1 (pvBytes (headW p ++ legsB p.legs))]]]
    (c := [cc (ev X E0) 37 [AV.agg (Post.cs p)] [] = some (AV.c (vi e), []), (e != 0) = false, cc (ev X E0) (90 : Nat) [] [] = some (AV.c (.ptr (0 : Nat) (0 : Nat)), [.cells [.pv (.sl SO.nil (0 : Nat) [])]]), cc (ev X E0) 91 [AV.c (.ptr 0 0), AV.c (.pv (.int .u64 (IntKind.wrap .u64 p.id)))] [.cells [.pv (.sl SO.nil 0 [])]] = some (AV.tup [], [.cells [.own 0 1 (pvBytes (vb (Int.toNat (IntKind.wrap .u64 p.id))))]]), cc (ev X E0) 92 [AV.c (.ptr 0 0), AV.c (vi (IntKind.wrap .i64 p.known))] [.cells [.own 0 1 (pvBytes (vb (Int.toNat (IntKind.wrap .u64 p.id))))]] = some (AV.tup [], [.cells [.own 0 1 (pvBytes (vb (Int.toNat (IntKind.wrap .u64 p.id)) ++ vb (zz (IntKind.wrap .i64 p.known))))]]), cc (ev X E0) 92 [AV.c (.ptr 0 0), AV.c (vi (IntKind.wrap .i64 p.value))] [.cells [.own 0 1 (pvBytes (vb (Int.toNat (IntKind.wrap .u64 p.id)) ++ vb (zz (IntKind.wrap .i64 p.known))))]] = some (AV.tup [], [.cells [.own 0 1 (pvBytes (vb (Int.toNat (IntKind.wrap .u64 p.id)) ++ vb (zz (IntKind.wrap .i64 p.known)) ++ vb (zz (IntKind.wrap .i64 p.value))))]]), cc (ev X E0) 91 [AV.c (.ptr 0 0), AV.c (.pv (.int .u64 (IntKind.wrap .u64 p.kind)))] [.cells [.own 0 1 (pvBytes (vb (Int.toNat (IntKind.wrap .u64 p.id)) ++ vb (zz (IntKind.wrap .i64 p.known)) ++ vb (zz (IntKind.wrap .i64 p.value))))]] = some (AV.tup [], [.cells [.own 0 1 (pvBytes (vb (Int.toNat (IntKind.wrap .u64 p.id)) ++ vb (zz (IntKind.wrap .i64 p.known)) ++ vb (zz (IntKind.wrap .i64 p.value)) ++ vb (Int.toNat (IntKind.wrap .u64 p.kind))))]]), cc (ev X E0) 91 [AV.c (.ptr 0 0), AV.c (.pv (.int .u64 (IntKind.wrap .u64 p.rev)))] [.cells [.own 0 1 (pvBytes (vb (Int.toNat (IntKind.wrap .u64 p.id)) ++ vb (zz (IntKind.wrap .i64 p.known)) ++ vb (zz (IntKind.wrap .i64 p.value)) ++ vb (Int.toNat (IntKind.wrap .u64 p.kind))))]] = some (AV.tup [], [.cells [.own 0 1 (pvBytes (vb (Int.toNat (IntKind.wrap .u64 p.id)) ++ vb (zz (IntKind.wrap .i64 p.known)) ++ vb (zz (IntKind.wrap .i64 p.value)) ++ vb (Int.toNat (IntKind.wrap .u64 p.kind)) ++ vb (Int.toNat (IntKind.wrap .u64 p.rev))))]]), cc (ev X E0) 93 [AV.c (.ptr 0 0), AV.c (.pv (.str p.memo))] [.cells [.own 0 1 (pvBytes (vb (Int.toNat (IntKind.wrap .u64 p.id)) ++ vb (zz (IntKind.wrap .i64 p.known)) ++ vb (zz (IntKind.wrap .i64 p.value)) ++ vb (Int.toNat (IntKind.wrap .u64 p.kind)) ++ vb (Int.toNat (IntKind.wrap .u64 p.rev))))]] = some (AV.tup [], [.cells [.own 0 1 (pvBytes (vb (Int.toNat (IntKind.wrap .u64 p.id)) ++ vb (zz (IntKind.wrap .i64 p.known)) ++ vb (zz (IntKind.wrap .i64 p.value)) ++ vb (Int.toNat (IntKind.wrap .u64 p.kind)) ++ vb (Int.toNat (IntKind.wrap .u64 p.rev)) ++ tb p.memo))]]), cc (ev X E0) 91 [AV.c (.ptr 0 0), AV.c (.pv (.int .u64 (IntKind.wrap .u64 (↑(List.length (List.map Leg.pv p.legs)) : Int))))] [.cells [.own 0 1 (pvBytes (vb (Int.toNat (IntKind.wrap .u64 p.id)) ++ vb (zz (IntKind.wrap .i64 p.known)) ++ vb (zz (IntKind.wrap .i64 p.value)) ++ vb (Int.toNat (IntKind.wrap .u64 p.kind)) ++ vb (Int.toNat (IntKind.wrap .u64 p.rev)) ++ tb p.memo))]] = some (AV.tup [], [.cells [.own 0 1 (pvBytes (vb (Int.toNat (IntKind.wrap .u64 p.id)) ++ vb (zz (IntKind.wrap .i64 p.known)) ++ vb (zz (IntKind.wrap .i64 p.value)) ++ vb (Int.toNat (IntKind.wrap .u64 p.kind)) ++ vb (Int.toNat (IntKind.wrap .u64 p.rev)) ++ tb p.memo ++ vb (Int.toNat (IntKind.wrap .u64 (↑(List.length (List.map Leg.pv p.legs)) : Int)))))]]), lv (cv (ev X E0) xf42_l0) (rl [5, 44, 0, 0]) 2 (St.mk (tmOf 68 [(5, AV.c (.ptr 1 0)), (50, AV.c (.pv (.sl p.so 3 (List.map Leg.pv p.legs)))), (51, AV.c (vi (↑(List.length (List.map Leg.pv p.legs)) : Int))), (52, AV.c (vi 0))]) [.cells (Post.cs p), .cells [.own 3072 1 (pvBytes (vb (Int.toNat (IntKind.wrap .u64 p.id)) ++ vb (zz (IntKind.wrap .i64 p.known)) ++ vb (zz (IntKind.wrap .i64 p.value)) ++ vb (Int.toNat (IntKind.wrap .u64 p.kind)) ++ vb (Int.toNat (IntKind.wrap .u64 p.rev)) ++ tb p.memo ++ vb (Int.toNat (IntKind.wrap .u64 (↑(List.length (List.map Leg.pv p.legs)) : Int)))))]]) = some (XExit.exit 0, St.mk (tmOf 68 [(5, AV.c (.ptr 1 0))]) [.cells (Post.cs p), .cells [.own 4096 1 (pvBytes (headW p ++ legsB p.legs))]]), cc (ev X E0) 95 [AV.c (.ptr 0 0)] [.cells [.own 0 1 (pvBytes (headW p ++ legsB p.legs))]] = some (AV.c (.pv (.str (headW p ++ legsB p.legs))), [.cells [.own 0 1 (pvBytes (headW p ++ legsB p.legs))]])]) (by kernel_rfl)
    ⟨(h), (bne_f g1), (NW_1), (Vint_nil _ _ g2 g3), (Zig_own _ _ g4 g5 g6), (Zig_own _ _ g7 g8 g9), (Vint_own _ _ _ g10 g11), (Vint_own _ _ _ g12 g13), (Text_own _ _ g14 g15), (Vint_own _ _ _ g16 g17), (hl g1), (BytesO_1 _ _), trivial⟩
end Go.Sx.Tryd
/- What a posting's bytes are: of the program, and of the document. -/
namespace Go.Sx.Tryd
open Go Go.Sx
structure FairL (x : Leg) : Prop where
  acc : 1 ≤ x.acc ∧ x.acc ≤ 999
  cur : 0 ≤ x.cur ∧ x.cur < 4
  minor : -1000000000000000 ≤ x.minor ∧ x.minor ≤ 1000000000000000
  zero : x.minor ≠ 0
structure Fair (p : Post) : Prop where
  id : 1 ≤ p.id ∧ p.id ≤ 1000000
  known : -50000 ≤ p.known ∧ p.known ≤ 50000
  value : -50000 ≤ p.value ∧ p.value ≤ 50000
  kind : 0 ≤ p.kind ∧ p.kind ≤ 4
  rev : 0 ≤ p.rev ∧ p.rev < p.id
  memo : p.memo.length ≤ 32
  len : 2 ≤ p.legs.length ∧ p.legs.length ≤ 16
  legs : ∀ x ∈ p.legs, FairL x
theorem fair {p : Post} (hc : chk p = 0) : Fair p := by
  obtain ⟨hh, hk, hv, h1, h2, ha, hcu, hm, hz, _⟩ := chk_inv hc
  simp only [headed, datOk, Bool.and_eq_true, decide_eq_true_eq] at hh hk hv
  refine ⟨by omega, hk, hv, by omega, by omega, by omega, by omega, fun x hx => ⟨?_, ?_, ?_, ?_⟩⟩
  · have := ha x hx
    simp only [accBad, decide_eq_false_iff_not] at this; omega
  · have := hcu x hx
    simpa only [curOk, decide_eq_true_eq] using this
  · have := hm x hx
    simpa only [minOk, decide_eq_true_eq] using this
  · have := hz x hx
    simpa only [zeroBad, beq_eq_false_iff_ne] using this
theorem u64_id {n : Int} (h : 0 ≤ n) (h' : n ≤ 1000000) : IntKind.wrap .u64 n = n := by rw [wu64]; omega
theorem mb_len {c m : Int} (hc : 0 ≤ c ∧ c < 4) (hm : -1000000000000000 ≤ m ∧ m ≤ 1000000000000000) : (mb c m).length ≤ 20 := by
  have h1 := vb_len10 (zz_lt (n := c) (by omega) (by omega))
  have h2 := vb_len10 (zz_lt (n := m) (by omega) (by omega))
  unfold mb
  rw [List.length_append]; omega
theorem tb_len {s : List UInt8} (h : s.length ≤ 1000000) : (tb s).length ≤ 10 + s.length := by
  have := vb_len10 (n := s.length) (by omega)
  unfold tb
  rw [List.length_append]; omega
theorem legB_w {y : Leg} (hy : FairL y) : vb (Int.toNat (IntKind.wrap .u64 y.acc)) ++ mb y.cur y.minor = legB y := by
  have := hy.acc
  rw [u64_id (by omega) (by omega)]; rfl
theorem a42 {p : Post} (hf : Fair p) : ∀ (r pre : List Leg) (b : List UInt8), p.legs = pre ++ r → b.length + 50 * r.length ≤ 1000000 →
    lv (cv (ev X E0) xf42_l0) (rl [5, 44, 0, 0]) 2 (S42 p 4096 b (pre.length : Nat)) = some (XExit.exit 0, St.mk (tmOf 68 [(5, AV.c (CV.ptr 1 0))]) [Box.cells (Post.cs p), Box.cells [CV.own 4096 1 (pvBytes (b ++ legsB r))]])
  | [], pre, b, e, hb => by
    rw [List.append_nil] at e
    rw [legsB, List.append_nil]
    exact l42_2 p b pre.length (by rw [e]; simp)
  | y :: r, pre, b, e, hb => by
    have hlen : p.legs.length = pre.length + r.length + 1 := by rw [e]; simp; omega
    have hat : p.legs[pre.length]? = some y := by rw [e]; simp
    have hlt := lt_len (l := p.legs) (i := pre.length) (by omega)
    have hy := hf.legs y (by rw [e]; simp)
    have h1 := hy.acc; have h2 := hy.cur; have h3 := hy.minor
    have hw : IntKind.wrap .u64 y.acc = y.acc := u64_id (by omega) (by omega)
    have a1 : (vb (Int.toNat (IntKind.wrap .u64 y.acc))).length ≤ 10 := vb_len10 (by rw [hw]; omega)
    have a2 := mb_len h2 h3
    rw [List.length_cons] at hb
    have st := l42_1 p b pre.length y hlt hat (by omega) (by omega) (by omega) (by omega) (by omega) (by omega) (by rw [List.length_append]; omega)
    have := hf.len
    rw [wi64 (n := ((pre.length : Nat) : Int) + 1) (by omega) (by omega)] at st
    have ih := a42 hf r (pre ++ [y]) (b ++ legB y) (by rw [e]; simp) (by
      rw [← legB_w hy]; simp only [List.length_append]; omega)
    rw [List.length_append, List.length_singleton, Int.natCast_add, Int.natCast_one] at ih
    rw [List.append_assoc, legB_w hy] at st
    rw [legsB, ← List.append_assoc]
    exact st.trans ih
theorem headW_eq {p : Post} (hf : Fair p) : headW p = headB p := by
  have h1 := hf.id; have h2 := hf.known; have h3 := hf.value; have h4 := hf.kind; have h5 := hf.rev; have h6 := hf.len
  unfold headB
  show vb _ ++ vb _ ++ vb _ ++ vb _ ++ vb _ ++ tb _ ++ vb _ = _
  rw [u64_id (n := p.id) (by omega) (by omega), u64_id (n := p.kind) (by omega) (by omega), u64_id (n := p.rev) (by omega) (by omega), wi64 (n := p.known) (by omega) (by omega), wi64 (n := p.value) (by omega) (by omega), List.length_map,
    u64_id (n := (p.legs.length : Int)) (by omega) (by omega), Int.toNat_natCast]
def encV (p : Post) : List UInt8 := if chk p = 0 then enc p else []
structure Lens (p : Post) : Prop where
  a1 : (vb (Int.toNat (IntKind.wrap .u64 p.id))).length ≤ 10
  a2 : (vb (zz (IntKind.wrap .i64 p.known))).length ≤ 10
  a3 : (vb (zz (IntKind.wrap .i64 p.value))).length ≤ 10
  a4 : (vb (Int.toNat (IntKind.wrap .u64 p.kind))).length ≤ 10
  a5 : (vb (Int.toNat (IntKind.wrap .u64 p.rev))).length ≤ 10
  a6 : (tb p.memo).length ≤ 42
  a7 : (vb (Int.toNat (IntKind.wrap .u64 (((p.legs.map Leg.pv).length : Nat) : Int)))).length ≤ 10
  w1 : IntKind.wrap .u64 p.id = p.id
  w2 : IntKind.wrap .i64 p.known = p.known
  w3 : IntKind.wrap .i64 p.value = p.value
  w4 : IntKind.wrap .u64 p.kind = p.kind
  w5 : IntKind.wrap .u64 p.rev = p.rev
  w7 : IntKind.wrap .u64 (((p.legs.map Leg.pv).length : Nat) : Int) = p.legs.length
theorem lens {p : Post} (hf : Fair p) : Lens p := by
  have h1 := hf.id; have h2 := hf.known; have h3 := hf.value; have h4 := hf.kind; have h5 := hf.rev; have h6 := hf.len; have h7 := hf.memo
  have w1 : IntKind.wrap .u64 p.id = p.id := u64_id (by omega) (by omega)
  have w2 : IntKind.wrap .i64 p.known = p.known := wi64 (by omega) (by omega)
  have w3 : IntKind.wrap .i64 p.value = p.value := wi64 (by omega) (by omega)
  have w4 : IntKind.wrap .u64 p.kind = p.kind := u64_id (by omega) (by omega)
  have w5 : IntKind.wrap .u64 p.rev = p.rev := u64_id (by omega) (by omega)
  have w7 : IntKind.wrap .u64 (((p.legs.map Leg.pv).length : Nat) : Int) = p.legs.length := by rw [List.length_map]; exact u64_id (by omega) (by omega)
  exact ⟨vb_len10 (by rw [w1]; omega), vb_len10 (by rw [w2]; exact zz_lt (by omega) (by omega)), vb_len10 (by rw [w3]; exact zz_lt (by omega) (by omega)), vb_len10 (by rw [w4]; omega), vb_len10 (by rw [w5]; omega),
    by have := tb_len (s := p.memo) (by omega); omega, vb_len10 (by rw [w7]; omega), w1, w2, w3, w4, w5, w7⟩
theorem s42 (p : Post) (hm : p.memo.length ≤ 1000000) (hl : p.legs.length ≤ 4000000000000000000) : cc (ev X E0) 42 [Post.av p] [] = some (.tup [AV.s (encV p), AV.i (chk p)], []) := by
  have h37 := s37 p hm hl
  unfold encV
  by_cases c : chk p = 0
  · rw [if_pos c, c]
    rw [c] at h37
    have hf := fair c
    have hl := hf.len
    have L := lens hf
    have h1 := hf.id; have h2 := hf.known; have h3 := hf.value; have h4 := hf.kind; have h5 := hf.rev
    obtain ⟨a1, a2, a3, a4, a5, a6, a7, w1, w2, w3, w4, w5, w7⟩ := L
    have hll : lv (cv (ev X E0) xf42_l0) (rl [5, 44, 0, 0]) 2 (S42 p 3072 (headW p) 0) = some (XExit.exit 0, St.mk (tmOf 68 [(5, AV.c (CV.ptr 1 0))]) [Box.cells (Post.cs p), Box.cells [CV.own 4096 1 (pvBytes (headW p ++ legsB p.legs))]]) := by
      obtain ⟨y, r, e⟩ : ∃ y r, p.legs = y :: r := by
        cases h : p.legs with
        | nil => rw [h] at hl; simp at hl
        | cons y r => exact ⟨y, r, rfl⟩
      have hat : p.legs[0]? = some y := by rw [e]; rfl
      have hy := hf.legs y (by rw [e]; simp)
      have g1 := hy.acc; have g2 := hy.cur; have g3 := hy.minor
      have hw : IntKind.wrap .u64 y.acc = y.acc := u64_id (by omega) (by omega)
      have b1 : (vb (Int.toNat (IntKind.wrap .u64 y.acc))).length ≤ 10 := vb_len10 (by rw [hw]; omega)
      have b2 := mb_len g2 g3
      have hr : r.length ≤ 16 := by rw [e, List.length_cons] at hl; omega
      have st := l42a_1 p (headW p) 0 y (lt_len (by omega)) hat (by omega) (by simp only [List.length_append]; omega) (by omega) (by omega) (by omega) (by omega) (by simp only [List.length_append]; omega)
      rw [wi64 (n := ((0 : Nat) : Int) + 1) (by omega) (by omega), List.append_assoc, legB_w hy] at st
      have ih := a42 hf r [y] (headW p ++ legB y) (by rw [e]; rfl) (by rw [← legB_w hy]; simp only [List.length_append]; omega)
      have e' : legsB p.legs = legB y ++ legsB r := by rw [e]; rfl
      rw [e', ← List.append_assoc]
      exact st.trans ih
    have := f42_2 p 0 h37 (fun _ => hll) rfl (by omega) (by omega) (by omega) (by omega) (by omega) (by omega) (by omega) (by simp only [List.length_append]; omega) (by omega) (by simp only [List.length_append]; omega)
      (by omega) (by simp only [List.length_append]; omega) hm (by simp only [List.length_append]; omega) (by omega) (by simp only [List.length_append]; omega)
    rw [show enc p = headW p ++ legsB p.legs by rw [headW_eq hf]; rfl]
    exact this
  · rw [if_neg c]
    exact f42_1 p _ h37 (fun e => absurd e c) c
end Go.Sx.Tryd
