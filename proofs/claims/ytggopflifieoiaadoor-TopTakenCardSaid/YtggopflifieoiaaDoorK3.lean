/- What is wrong with a posting, of the program. -/
import Derived.Test.YtggopflifieoiaaDoorK2
namespace Go.Sx.Tryd
open Go Go.Sx
theorem s74 {p : Post} {g : Nat} {w : Leg → Bool} (h : ∀ x : Leg, cc (ev X E0) g [Leg.av x] [] = some (.b (w x), [])) (hl : p.legs.length ≤ 4000000000000000000) : cc (ev X E0) 83 [AV.c (.fn g []), AV.c (.ptr 0 0)] [Box.cells p.cs] = some (.b (p.legs.any w), [Box.cells p.cs]) := f74_1 p g _ (s75 h hl)
abbrev f37_h78 (p : Post) (b78 : Bool) : Prop := cc (ev X E0) 83 [AV.c (.fn 86 []), AV.c (.ptr 0 0)] [.cells (Post.cs p)] = some (AV.b b78, [.cells (Post.cs p)])
abbrev f37_h79 (p : Post) (b79 : Bool) : Prop := cc (ev X E0) 83 [AV.c (.fn 87 []), AV.c (.ptr 0 0)] [.cells (Post.cs p)] = some (AV.b b79, [.cells (Post.cs p)])
abbrev f37_h81 (p : Post) (b81 : Bool) : Prop := cc (ev X E0) 83 [AV.c (.fn 89 []), AV.c (.ptr 0 0)] [.cells (Post.cs p)] = some (AV.b b81, [.cells (Post.cs p)])
abbrev f37_h83 (p : Post) (b83 : Bool) : Prop := cc (ev X E0) 83 [AV.c (.fn 90 []), AV.c (.ptr 0 0)] [.cells (Post.cs p)] = some (AV.b b83, [.cells (Post.cs p)])
abbrev f37_h84 (p : Post) (b79 b81 b84 : Bool) : Prop := b79 = false → b81 = false → ¬(↑(List.length (List.map Leg.pv p.legs)) : Int) > 16 → cc (ev X E0) 91 [AV.sl p.so 3 (List.map Leg.pv p.legs)] [] = some (AV.b b84, [])
theorem f37_1 (p : Post) (b76 b78 b79 b81 b83 b84 : Bool) (h76 : cc (ev X E0) 85 [Post.av p] [] = some (AV.b b76, [])) (_h78 : f37_h78 p b78) (_h79 : f37_h79 p b79) (_h81 : f37_h81 p b81) (_h83 : f37_h83 p b83) (_h84 : f37_h84 p b79 b81 b84) (g1 : b76 = false) :
    cc (ev X E0) 36 [AV.agg (Post.cs p)] [] = some (AV.c (vi 1), []) :=
  cc_path (x := xf36) rfl [.call (AV.c (.pv (.bool b76))) [], .br true]
    (c := rq [ty h76, (1, (!b76) = true)]) (by kernel_rfl)
    (aq ⟨h76, (not_t g1), trivial⟩)
theorem f37_2 (p : Post) (b76 b78 b79 b81 b83 b84 : Bool) (h76 : cc (ev X E0) 85 [Post.av p] [] = some (AV.b b76, [])) (_h78 : f37_h78 p b78) (_h79 : f37_h79 p b79) (_h81 : f37_h81 p b81) (_h83 : f37_h83 p b83) (_h84 : f37_h84 p b79 b81 b84) (g1 : b76 = true) (g2 : datOk p.known = false) :
    cc (ev X E0) 36 [AV.agg (Post.cs p)] [] = some (AV.c (vi 11), []) :=
  cc_path (x := xf36) rfl ([.call (AV.c (.pv (.bool b76))) [], .br false, .call (AV.c (.pv (.bool (datOk p.known)))) []] ++ bs 6 true)
    (c := rq [ty h76, (1, (!b76) = false), (1, cc (ev X E0) 53 [AV.c (vw p.known)] [] = some (AV.c (.pv (.bool (datOk p.known))), [])), (5, (!datOk p.known) = true), (1, true = true)]) (by kernel_rfl)
    (aq ⟨h76, (not_f g1), (s77 _), (not_t g2), rfl, trivial⟩)
theorem f37_3 (p : Post) (b76 b78 b79 b81 b83 b84 : Bool) (h76 : cc (ev X E0) 85 [Post.av p] [] = some (AV.b b76, [])) (_h78 : f37_h78 p b78) (_h79 : f37_h79 p b79) (_h81 : f37_h81 p b81) (_h83 : f37_h83 p b83) (_h84 : f37_h84 p b79 b81 b84) (g1 : b76 = true) (g2 : datOk p.known = true) (g3 : datOk p.value = false) :
    cc (ev X E0) 36 [AV.agg (Post.cs p)] [] = some (AV.c (vi 11), []) :=
  cc_path (x := xf36) rfl ([.call (AV.c (.pv (.bool b76))) [], .br false, .call (AV.c (.pv (.bool (datOk p.known)))) []] ++ bs 3 false ++ [.call (AV.c (.pv (.bool (datOk p.value)))) [], .br false, .br false, .br true])
    (c := rq [ty h76, (1, (!b76) = false), (1, cc (ev X E0) 53 [AV.c (vw p.known)] [] = some (AV.c (.pv (.bool (datOk p.known))), [])), (3, (!datOk p.known) = false), (1, cc (ev X E0) 53 [AV.c (vw p.value)] [] = some (AV.c (.pv (.bool (datOk p.value))), [])), (2, (!datOk p.known) = false), (1, (!datOk p.value) = true)]) (by kernel_rfl)
    (aq ⟨h76, (not_f g1), (s77 _), (not_f g2), (s77 _), (not_f g2), (not_t g3), trivial⟩)
theorem f37_4 (p : Post) (b76 b78 b79 b81 b83 b84 : Bool) (h76 : cc (ev X E0) 85 [Post.av p] [] = some (AV.b b76, [])) (_h78 : f37_h78 p b78) (_h79 : f37_h79 p b79) (_h81 : f37_h81 p b81) (_h83 : f37_h83 p b83) (_h84 : f37_h84 p b79 b81 b84) (g1 : b76 = true) (g2 : datOk p.known = true) (g3 : datOk p.value = true) (g4 : (↑(List.length (List.map Leg.pv p.legs)) : Int) < 2) :
    cc (ev X E0) 36 [AV.agg (Post.cs p)] [] = some (AV.c (vi 2), []) :=
  cc_path (x := xf36) rfl ([.call (AV.c (.pv (.bool b76))) [], .br false, .call (AV.c (.pv (.bool (datOk p.known)))) []] ++ bs 3 false ++ [.call (AV.c (.pv (.bool (datOk p.value)))) []] ++ bs 3 false ++ [.br true])
    (c := rq [ty h76, (1, (!b76) = false), (1, cc (ev X E0) 53 [AV.c (vw p.known)] [] = some (AV.c (.pv (.bool (datOk p.known))), [])), (3, (!datOk p.known) = false), (1, cc (ev X E0) 53 [AV.c (vw p.value)] [] = some (AV.c (.pv (.bool (datOk p.value))), [])), (2, (!datOk p.known) = false), (1, (!datOk p.value) = false), (1, decide ((↑(List.length (List.map Leg.pv p.legs)) : Int) < 2) = true)]) (by kernel_rfl)
    (aq ⟨h76, (not_f g1), (s77 _), (not_f g2), (s77 _), (not_f g2), (not_f g3), (dT g4), trivial⟩)
theorem f37_5 (p : Post) (b76 b78 b79 b81 b83 b84 : Bool) (h76 : cc (ev X E0) 85 [Post.av p] [] = some (AV.b b76, [])) (_h78 : f37_h78 p b78) (_h79 : f37_h79 p b79) (_h81 : f37_h81 p b81) (_h83 : f37_h83 p b83) (_h84 : f37_h84 p b79 b81 b84) (g1 : b76 = true) (g2 : datOk p.known = true) (g3 : datOk p.value = true) (g4 : ¬(↑(List.length (List.map Leg.pv p.legs)) : Int) < 2) (g5 : (↑(List.length (List.map Leg.pv p.legs)) : Int) > 16) :
    cc (ev X E0) 36 [AV.agg (Post.cs p)] [] = some (AV.c (vi 4), []) :=
  cc_path (x := xf36) rfl ([.call (AV.c (.pv (.bool b76))) [], .br false, .call (AV.c (.pv (.bool (datOk p.known)))) []] ++ bs 3 false ++ [.call (AV.c (.pv (.bool (datOk p.value)))) []] ++ bs 4 false ++ [.br true])
    (c := rq [ty h76, (1, (!b76) = false), (1, cc (ev X E0) 53 [AV.c (vw p.known)] [] = some (AV.c (.pv (.bool (datOk p.known))), [])), (3, (!datOk p.known) = false), (1, cc (ev X E0) 53 [AV.c (vw p.value)] [] = some (AV.c (.pv (.bool (datOk p.value))), [])), (2, (!datOk p.known) = false), (1, (!datOk p.value) = false), (1, decide ((↑(List.length (List.map Leg.pv p.legs)) : Int) < 2) = false), (1, decide ((↑(List.length (List.map Leg.pv p.legs)) : Int) > 16) = true)]) (by kernel_rfl)
    (aq ⟨h76, (not_f g1), (s77 _), (not_f g2), (s77 _), (not_f g2), (not_f g3), (dF g4), (dT g5), trivial⟩)
theorem f37_6 (p : Post) (b76 b78 b79 b81 b83 b84 : Bool) (h76 : cc (ev X E0) 85 [Post.av p] [] = some (AV.b b76, [])) (h78 : f37_h78 p b78) (_h79 : f37_h79 p b79) (_h81 : f37_h81 p b81) (_h83 : f37_h83 p b83) (_h84 : f37_h84 p b79 b81 b84) (g1 : b76 = true) (g2 : datOk p.known = true) (g3 : datOk p.value = true) (g4 : ¬(↑(List.length (List.map Leg.pv p.legs)) : Int) < 2) (g5 : ¬(↑(List.length (List.map Leg.pv p.legs)) : Int) > 16) (g6 : b78 = true) :
    cc (ev X E0) 36 [AV.agg (Post.cs p)] [] = some (AV.c (vi 8), []) :=
  cc_path (x := xf36) rfl ([.call (AV.c (.pv (.bool b76))) [], .br false, .call (AV.c (.pv (.bool (datOk p.known)))) []] ++ bs 3 false ++ [.call (AV.c (.pv (.bool (datOk p.value)))) []] ++ bs 5 false ++ [.call (AV.c (.pv (.bool b78))) [.cells (Post.cs p)], .br true])
    (c := rq [ty h76, (1, (!b76) = false), (1, cc (ev X E0) 53 [AV.c (vw p.known)] [] = some (AV.c (.pv (.bool (datOk p.known))), [])), (3, (!datOk p.known) = false), (1, cc (ev X E0) 53 [AV.c (vw p.value)] [] = some (AV.c (.pv (.bool (datOk p.value))), [])), (2, (!datOk p.known) = false), (1, (!datOk p.value) = false), (1, decide ((↑(List.length (List.map Leg.pv p.legs)) : Int) < 2) = false), (1, decide ((↑(List.length (List.map Leg.pv p.legs)) : Int) > 16) = false), ty h78, (1, b78 = true)]) (by kernel_rfl)
    (aq ⟨h76, (not_f g1), (s77 _), (not_f g2), (s77 _), (not_f g2), (not_f g3), (dF g4), (dF g5), h78, g6, trivial⟩)
theorem f37_7 (p : Post) (b76 b78 b79 b81 b83 b84 : Bool) (h76 : cc (ev X E0) 85 [Post.av p] [] = some (AV.b b76, [])) (h78 : f37_h78 p b78) (h79 : f37_h79 p b79) (_h81 : f37_h81 p b81) (_h83 : f37_h83 p b83) (_h84 : f37_h84 p b79 b81 b84) (g1 : b76 = true) (g2 : datOk p.known = true) (g3 : datOk p.value = true) (g4 : ¬(↑(List.length (List.map Leg.pv p.legs)) : Int) < 2) (g5 : ¬(↑(List.length (List.map Leg.pv p.legs)) : Int) > 16) (g6 : b78 = false) (g7 : b79 = true) :
    cc (ev X E0) 36 [AV.agg (Post.cs p)] [] = some (AV.c (vi 12), []) :=
  cc_path (x := xf36) rfl ([.call (AV.c (.pv (.bool b76))) [], .br false, .call (AV.c (.pv (.bool (datOk p.known)))) []] ++ bs 3 false ++ [.call (AV.c (.pv (.bool (datOk p.value)))) []] ++ bs 5 false ++ [.call (AV.c (.pv (.bool b78))) [.cells (Post.cs p)], .br false, .call (AV.c (.pv (.bool b79))) [.cells (Post.cs p)], .br true])
    (c := rq [ty h76, (1, (!b76) = false), (1, cc (ev X E0) 53 [AV.c (vw p.known)] [] = some (AV.c (.pv (.bool (datOk p.known))), [])), (3, (!datOk p.known) = false), (1, cc (ev X E0) 53 [AV.c (vw p.value)] [] = some (AV.c (.pv (.bool (datOk p.value))), [])), (2, (!datOk p.known) = false), (1, (!datOk p.value) = false), (1, decide ((↑(List.length (List.map Leg.pv p.legs)) : Int) < 2) = false), (1, decide ((↑(List.length (List.map Leg.pv p.legs)) : Int) > 16) = false), ty h78, (1, b78 = false), ty h79, (1, b79 = true)]) (by kernel_rfl)
    (aq ⟨h76, (not_f g1), (s77 _), (not_f g2), (s77 _), (not_f g2), (not_f g3), (dF g4), (dF g5), h78, g6, h79, g7, trivial⟩)
theorem f37_8 (p : Post) (b76 b78 b79 b81 b83 b84 : Bool) (h76 : cc (ev X E0) 85 [Post.av p] [] = some (AV.b b76, [])) (h78 : f37_h78 p b78) (h79 : f37_h79 p b79) (h81 : f37_h81 p b81) (_h83 : f37_h83 p b83) (_h84 : f37_h84 p b79 b81 b84) (g1 : b76 = true) (g2 : datOk p.known = true) (g3 : datOk p.value = true) (g4 : ¬(↑(List.length (List.map Leg.pv p.legs)) : Int) < 2) (g5 : ¬(↑(List.length (List.map Leg.pv p.legs)) : Int) > 16) (g6 : b78 = false) (g7 : b79 = false) (g8 : b81 = true) :
    cc (ev X E0) 36 [AV.agg (Post.cs p)] [] = some (AV.c (vi 9), []) :=
  cc_path (x := xf36) rfl ([.call (AV.c (.pv (.bool b76))) [], .br false, .call (AV.c (.pv (.bool (datOk p.known)))) []] ++ bs 3 false ++ [.call (AV.c (.pv (.bool (datOk p.value)))) []] ++ bs 5 false ++ [.call (AV.c (.pv (.bool b78))) [.cells (Post.cs p)], .br false, .call (AV.c (.pv (.bool b79))) [.cells (Post.cs p)], .br false, .call (AV.c (.pv (.bool b81))) [.cells (Post.cs p)], .br true])
    (c := rq [ty h76, (1, (!b76) = false), (1, cc (ev X E0) 53 [AV.c (vw p.known)] [] = some (AV.c (.pv (.bool (datOk p.known))), [])), (3, (!datOk p.known) = false), (1, cc (ev X E0) 53 [AV.c (vw p.value)] [] = some (AV.c (.pv (.bool (datOk p.value))), [])), (2, (!datOk p.known) = false), (1, (!datOk p.value) = false), (1, decide ((↑(List.length (List.map Leg.pv p.legs)) : Int) < 2) = false), (1, decide ((↑(List.length (List.map Leg.pv p.legs)) : Int) > 16) = false), ty h78, (1, b78 = false), ty h79, (1, b79 = false), ty h81, (1, b81 = true)]) (by kernel_rfl)
    (aq ⟨h76, (not_f g1), (s77 _), (not_f g2), (s77 _), (not_f g2), (not_f g3), (dF g4), (dF g5), h78, g6, h79, g7, h81, g8, trivial⟩)
theorem f37_9 (p : Post) (b76 b78 b79 b81 b83 b84 : Bool) (h76 : cc (ev X E0) 85 [Post.av p] [] = some (AV.b b76, [])) (h78 : f37_h78 p b78) (h79 : f37_h79 p b79) (h81 : f37_h81 p b81) (h83 : f37_h83 p b83) (_h84 : f37_h84 p b79 b81 b84) (g1 : b76 = true) (g2 : datOk p.known = true) (g3 : datOk p.value = true) (g4 : ¬(↑(List.length (List.map Leg.pv p.legs)) : Int) < 2) (g5 : ¬(↑(List.length (List.map Leg.pv p.legs)) : Int) > 16) (g6 : b78 = false) (g7 : b79 = false) (g8 : b81 = false) (g9 : b83 = true) :
    cc (ev X E0) 36 [AV.agg (Post.cs p)] [] = some (AV.c (vi 10), []) :=
  cc_path (x := xf36) rfl ([.call (AV.c (.pv (.bool b76))) [], .br false, .call (AV.c (.pv (.bool (datOk p.known)))) []] ++ bs 3 false ++ [.call (AV.c (.pv (.bool (datOk p.value)))) []] ++ bs 5 false ++ [.call (AV.c (.pv (.bool b78))) [.cells (Post.cs p)], .br false, .call (AV.c (.pv (.bool b79))) [.cells (Post.cs p)], .br false, .call (AV.c (.pv (.bool b81))) [.cells (Post.cs p)], .br false, .call (AV.c (.pv (.bool b83))) [.cells (Post.cs p)], .br true])
    (c := rq [ty h76, (1, (!b76) = false), (1, cc (ev X E0) 53 [AV.c (vw p.known)] [] = some (AV.c (.pv (.bool (datOk p.known))), [])), (3, (!datOk p.known) = false), (1, cc (ev X E0) 53 [AV.c (vw p.value)] [] = some (AV.c (.pv (.bool (datOk p.value))), [])), (2, (!datOk p.known) = false), (1, (!datOk p.value) = false), (1, decide ((↑(List.length (List.map Leg.pv p.legs)) : Int) < 2) = false), (1, decide ((↑(List.length (List.map Leg.pv p.legs)) : Int) > 16) = false), ty h78, (1, b78 = false), ty h79, (1, b79 = false), ty h81, (1, b81 = false), ty h83, (1, b83 = true)]) (by kernel_rfl)
    (aq ⟨h76, (not_f g1), (s77 _), (not_f g2), (s77 _), (not_f g2), (not_f g3), (dF g4), (dF g5), h78, g6, h79, g7, h81, g8, h83, g9, trivial⟩)
theorem f37_10 (p : Post) (b76 b78 b79 b81 b83 b84 : Bool) (h76 : cc (ev X E0) 85 [Post.av p] [] = some (AV.b b76, [])) (h78 : f37_h78 p b78) (h79 : f37_h79 p b79) (h81 : f37_h81 p b81) (h83 : f37_h83 p b83) (h84 : f37_h84 p b79 b81 b84) (g1 : b76 = true) (g2 : datOk p.known = true) (g3 : datOk p.value = true) (g4 : ¬(↑(List.length (List.map Leg.pv p.legs)) : Int) < 2) (g5 : ¬(↑(List.length (List.map Leg.pv p.legs)) : Int) > 16) (g6 : b78 = false) (g7 : b79 = false) (g8 : b81 = false) (g9 : b83 = false) (g10 : b84 = false) :
    cc (ev X E0) 36 [AV.agg (Post.cs p)] [] = some (AV.c (vi 15), []) :=
  cc_path (x := xf36) rfl ([.call (AV.c (.pv (.bool b76))) [], .br false, .call (AV.c (.pv (.bool (datOk p.known)))) []] ++ bs 3 false ++ [.call (AV.c (.pv (.bool (datOk p.value)))) []] ++ bs 5 false ++ [.call (AV.c (.pv (.bool b78))) [.cells (Post.cs p)], .br false, .call (AV.c (.pv (.bool b79))) [.cells (Post.cs p)], .br false, .call (AV.c (.pv (.bool b81))) [.cells (Post.cs p)], .br false, .call (AV.c (.pv (.bool b83))) [.cells (Post.cs p)], .br false, .call (AV.c (.pv (.bool b84))) [], .br true])
    (c := rq [ty h76, (1, (!b76) = false), (1, cc (ev X E0) 53 [AV.c (vw p.known)] [] = some (AV.c (.pv (.bool (datOk p.known))), [])), (3, (!datOk p.known) = false), (1, cc (ev X E0) 53 [AV.c (vw p.value)] [] = some (AV.c (.pv (.bool (datOk p.value))), [])), (2, (!datOk p.known) = false), (1, (!datOk p.value) = false), (1, decide ((↑(List.length (List.map Leg.pv p.legs)) : Int) < 2) = false), (1, decide ((↑(List.length (List.map Leg.pv p.legs)) : Int) > 16) = false), ty h78, (1, b78 = false), ty h79, (1, b79 = false), ty h81, (1, b81 = false), ty h83, (1, b83 = false), (1, cc (ev X E0) 91 [AV.c (.pv (.sl p.so 3 (List.map Leg.pv p.legs)))] [] = some (AV.c (.pv (.bool b84)), [])), (1, (!b84) = true)]) (by kernel_rfl)
    (aq ⟨h76, (not_f g1), (s77 _), (not_f g2), (s77 _), (not_f g2), (not_f g3), (dF g4), (dF g5), h78, g6, h79, g7, h81, g8, h83, g9, (h84 g7 g8 g5), (not_t g10), trivial⟩)
theorem f37_11 (p : Post) (b76 b78 b79 b81 b83 b84 : Bool) (h76 : cc (ev X E0) 85 [Post.av p] [] = some (AV.b b76, [])) (h78 : f37_h78 p b78) (h79 : f37_h79 p b79) (h81 : f37_h81 p b81) (h83 : f37_h83 p b83) (h84 : f37_h84 p b79 b81 b84) (g1 : b76 = true) (g2 : datOk p.known = true) (g3 : datOk p.value = true) (g4 : ¬(↑(List.length (List.map Leg.pv p.legs)) : Int) < 2) (g5 : ¬(↑(List.length (List.map Leg.pv p.legs)) : Int) > 16) (g6 : b78 = false) (g7 : b79 = false) (g8 : b81 = false) (g9 : b83 = false) (g10 : b84 = true) :
    cc (ev X E0) 36 [AV.agg (Post.cs p)] [] = some (AV.c (vi 0), []) :=
  cc_path (x := xf36) rfl ([.call (AV.c (.pv (.bool b76))) [], .br false, .call (AV.c (.pv (.bool (datOk p.known)))) []] ++ bs 3 false ++ [.call (AV.c (.pv (.bool (datOk p.value)))) []] ++ bs 5 false ++ [.call (AV.c (.pv (.bool b78))) [.cells (Post.cs p)], .br false, .call (AV.c (.pv (.bool b79))) [.cells (Post.cs p)], .br false, .call (AV.c (.pv (.bool b81))) [.cells (Post.cs p)], .br false, .call (AV.c (.pv (.bool b83))) [.cells (Post.cs p)], .br false, .call (AV.c (.pv (.bool b84))) [], .br false])
    (c := rq [ty h76, (1, (!b76) = false), (1, cc (ev X E0) 53 [AV.c (vw p.known)] [] = some (AV.c (.pv (.bool (datOk p.known))), [])), (3, (!datOk p.known) = false), (1, cc (ev X E0) 53 [AV.c (vw p.value)] [] = some (AV.c (.pv (.bool (datOk p.value))), [])), (2, (!datOk p.known) = false), (1, (!datOk p.value) = false), (1, decide ((↑(List.length (List.map Leg.pv p.legs)) : Int) < 2) = false), (1, decide ((↑(List.length (List.map Leg.pv p.legs)) : Int) > 16) = false), ty h78, (1, b78 = false), ty h79, (1, b79 = false), ty h81, (1, b81 = false), ty h83, (1, b83 = false), (1, cc (ev X E0) 91 [AV.c (.pv (.sl p.so 3 (List.map Leg.pv p.legs)))] [] = some (AV.c (.pv (.bool b84)), [])), (1, (!b84) = false)]) (by kernel_rfl)
    (aq ⟨h76, (not_f g1), (s77 _), (not_f g2), (s77 _), (not_f g2), (not_f g3), (dF g4), (dF g5), h78, g6, h79, g7, h81, g8, h83, g9, (h84 g7 g8 g5), (not_f g10), trivial⟩)
def chk (p : Post) : Int :=
  if headed p = false then 1 else if datOk p.known = false then 11 else if datOk p.value = false then 11 else if p.legs.length < 2 then 2 else if 16 < p.legs.length then 4
  else if p.legs.any accBad = true then 8 else if p.legs.any curBad = true then 12 else if p.legs.any overBad = true then 9 else if p.legs.any zeroBad = true then 10 else if bal p.legs = false then 15 else 0
theorem any_false {α : Type} {w : α → Bool} {l : List α} (h : l.any w = false) : ∀ x ∈ l, w x = false := by
  intro x hx
  have := List.any_eq_false.1 h x hx
  simpa using this
theorem s37 (p : Post) (hm : p.memo.length ≤ 1000000) (hl : p.legs.length ≤ 4000000000000000000) : cc (ev X E0) 36 [Post.av p] [] = some (.i (chk p), []) := by
  have h76 := s76 p hm
  have h78 := s74 (p := p) s78 hl
  have h79 := s74 (p := p) s79 hl
  have h81 := s74 (p := p) s81 hl
  have h83 := s74 (p := p) s83 hl
  have h84 : p.legs.any curBad = false → p.legs.any overBad = false → ¬(↑(List.length (List.map Leg.pv (Post.legs p))) : Int) > 16 → cc (ev X E0) 91 [AV.sl (Post.so p) 3 ((Post.legs p).map Leg.pv)] [] = some (.b (bal p.legs), []) := by
    intro h1 h2 h3
    refine s84 (by simp only [List.length_map] at h3; omega) (fun x hx => ?_) fun x hx => ?_
    · have := any_false h1 x hx; simpa [curBad] using this
    · have := any_false h2 x hx; simp only [overBad, Bool.not_eq_false', Bool.and_eq_true] at this; exact this.2
  unfold chk
  by_cases c1 : headed p = false
  · rw [if_pos c1]; exact f37_1 p _ _ _ _ _ _ h76 h78 h79 h81 h83 h84 c1
  rw [if_neg c1]
  replace c1 : headed p = true := by simpa using c1
  by_cases c2 : datOk p.known = false
  · rw [if_pos c2]; exact f37_2 p _ _ _ _ _ _ h76 h78 h79 h81 h83 h84 c1 c2
  rw [if_neg c2]
  replace c2 : datOk p.known = true := by simpa using c2
  by_cases c3 : datOk p.value = false
  · rw [if_pos c3]; exact f37_3 p _ _ _ _ _ _ h76 h78 h79 h81 h83 h84 c1 c2 c3
  rw [if_neg c3]
  replace c3 : datOk p.value = true := by simpa using c3
  by_cases c4 : p.legs.length < 2
  · rw [if_pos c4]; exact f37_4 p _ _ _ _ _ _ h76 h78 h79 h81 h83 h84 c1 c2 c3 (by rw [List.length_map]; omega)
  rw [if_neg c4]
  replace c4 : ¬(↑(List.length (List.map Leg.pv (Post.legs p))) : Int) < 2 := by rw [List.length_map]; omega
  by_cases c5 : 16 < p.legs.length
  · rw [if_pos c5]; exact f37_5 p _ _ _ _ _ _ h76 h78 h79 h81 h83 h84 c1 c2 c3 c4 (by rw [List.length_map]; omega)
  rw [if_neg c5]
  replace c5 : ¬(↑(List.length (List.map Leg.pv (Post.legs p))) : Int) > 16 := by rw [List.length_map]; omega
  by_cases c6 : p.legs.any accBad = true
  · rw [if_pos c6]; exact f37_6 p _ _ _ _ _ _ h76 h78 h79 h81 h83 h84 c1 c2 c3 c4 c5 c6
  rw [if_neg c6]
  replace c6 : p.legs.any accBad = false := by simpa using c6
  by_cases c7 : p.legs.any curBad = true
  · rw [if_pos c7]; exact f37_7 p _ _ _ _ _ _ h76 h78 h79 h81 h83 h84 c1 c2 c3 c4 c5 c6 c7
  rw [if_neg c7]
  replace c7 : p.legs.any curBad = false := by simpa using c7
  by_cases c8 : p.legs.any overBad = true
  · rw [if_pos c8]; exact f37_8 p _ _ _ _ _ _ h76 h78 h79 h81 h83 h84 c1 c2 c3 c4 c5 c6 c7 c8
  rw [if_neg c8]
  replace c8 : p.legs.any overBad = false := by simpa using c8
  by_cases c9 : p.legs.any zeroBad = true
  · rw [if_pos c9]; exact f37_9 p _ _ _ _ _ _ h76 h78 h79 h81 h83 h84 c1 c2 c3 c4 c5 c6 c7 c8 c9
  rw [if_neg c9]
  replace c9 : p.legs.any zeroBad = false := by simpa using c9
  by_cases c10 : bal p.legs = false
  · rw [if_pos c10]; exact f37_10 p _ _ _ _ _ _ h76 h78 h79 h81 h83 h84 c1 c2 c3 c4 c5 c6 c7 c8 c9 c10
  · rw [if_neg c10]; exact f37_11 p _ _ _ _ _ _ h76 h78 h79 h81 h83 h84 c1 c2 c3 c4 c5 c6 c7 c8 c9 (by simpa using c10)
theorem chk_inv {p : Post} (h : chk p = 0) : headed p = true ∧ datOk p.known = true ∧ datOk p.value = true ∧ 2 ≤ p.legs.length ∧ p.legs.length ≤ 16 ∧ (∀ x ∈ p.legs, accBad x = false) ∧ (∀ x ∈ p.legs, curOk x.cur = true) ∧ (∀ x ∈ p.legs, minOk x.minor = true) ∧ (∀ x ∈ p.legs, zeroBad x = false) ∧ bal p.legs = true := by
  unfold chk at h
  by_cases c1 : headed p = false
  · rw [if_pos c1] at h; cases h
  rw [if_neg c1] at h
  by_cases c2 : datOk p.known = false
  · rw [if_pos c2] at h; cases h
  rw [if_neg c2] at h
  by_cases c3 : datOk p.value = false
  · rw [if_pos c3] at h; cases h
  rw [if_neg c3] at h
  by_cases c4 : p.legs.length < 2
  · rw [if_pos c4] at h; cases h
  rw [if_neg c4] at h
  by_cases c5 : 16 < p.legs.length
  · rw [if_pos c5] at h; cases h
  rw [if_neg c5] at h
  by_cases c6 : p.legs.any accBad = true
  · rw [if_pos c6] at h; cases h
  rw [if_neg c6] at h
  by_cases c7 : p.legs.any curBad = true
  · rw [if_pos c7] at h; cases h
  rw [if_neg c7] at h
  by_cases c8 : p.legs.any overBad = true
  · rw [if_pos c8] at h; cases h
  rw [if_neg c8] at h
  by_cases c9 : p.legs.any zeroBad = true
  · rw [if_pos c9] at h; cases h
  rw [if_neg c9] at h
  by_cases c10 : bal p.legs = false
  · rw [if_pos c10] at h; cases h
  refine ⟨by simpa using c1, by simpa using c2, by simpa using c3, by omega, by omega, any_false (by simpa using c6), fun x hx => ?_, fun x hx => ?_, any_false (by simpa using c9), by simpa using c10⟩
  · have := any_false (w := curBad) (by simpa using c7) x hx; simpa [curBad] using this
  · have := any_false (w := overBad) (by simpa using c8) x hx; simp only [overBad, Bool.not_eq_false', Bool.and_eq_true] at this; exact this.2
end Go.Sx.Tryd
