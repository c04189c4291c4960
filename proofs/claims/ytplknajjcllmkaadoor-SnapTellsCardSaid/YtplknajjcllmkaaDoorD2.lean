/- Desks: their paths. -/
import Derived.Test.YtplknajjcllmkaaDoorD1
import Derived.Test.YtplknajjcllmkaaDoorN5
namespace Go.Sx.Tryd
open Go Go.Sx
abbrev Dv (b : List Post) (o : SO) (s : Nat) (r : List Rd) (q : SO) (t : Nat) (nx : Int) : AV := AV.agg [CV.pv (PV.sl o s (List.map Post.pv b)), CV.pv (PV.sl q t (List.map Rd.pv r)), CV.pv (PV.int .i64 nx)]
abbrev df21_h62 (b : List Post) (r : List Rd) (q : SO) (t : Nat) (nx : Int) (rr : Bool) : Prop := cc (ev X E0) 62 [AV.sl q t (List.map Rd.pv r), AV.i (↑(List.length (List.map Post.pv b)) : Int), AV.i nx] [] = some (AV.b rr, [])
theorem df21_1 (b : List Post) (o : SO) (s : Nat) (r : List Rd) (q : SO) (t : Nat) (nx : Int) (rb rr : Bool) (h61 : cc (ev X E0) 61 [Bk o s b] [] = some (AV.b rb, [])) (h62 : df21_h62 b r q t nx rr) (g1 : rb = true) (g2 : (↑(List.length (List.map Rd.pv r)) : Int) ≤ 16) (g3 : nx ≥ 1) (g4 : nx ≤ 1000000) :
    cc (ev X E0) 21 [AV.agg [.pv (.sl o s (List.map Post.pv b)), .pv (.sl q t (List.map Rd.pv r)), vi nx]] [] = some (AV.b rr, []) :=
  cc_path (x := xf21) rfl ([kb rb] ++ bs 22 true ++ [kb rr, .br true])
    (c := rq [ty h61, (5, rb = true), (4, decide ((↑(List.length (List.map Rd.pv r)) : Int) ≤ 16) = true), (4, decide (nx ≥ 1) = true), (9, decide (nx ≤ 1000000) = true), ty h62, (1, decide (nx ≤ 1000000) = true)]) (by kernel_rfl)
    (aq ⟨h61, g1, (dT g2), (dT g3), (dT g4), h62, (dT g4), trivial⟩)
theorem df21_2 (b : List Post) (o : SO) (s : Nat) (r : List Rd) (q : SO) (t : Nat) (nx : Int) (rb rr : Bool) (h61 : cc (ev X E0) 61 [Bk o s b] [] = some (AV.b rb, [])) (_h62 : df21_h62 b r q t nx rr) (g1 : rb = true) (g2 : (↑(List.length (List.map Rd.pv r)) : Int) ≤ 16) (g3 : nx ≥ 1) (g4 : ¬nx ≤ 1000000) :
    cc (ev X E0) 21 [AV.agg [.pv (.sl o s (List.map Post.pv b)), .pv (.sl q t (List.map Rd.pv r)), vi nx]] [] = some (AV.b false, []) :=
  cc_path (x := xf21) rfl ([kb rb] ++ bs 13 true ++ bs 10 false)
    (c := rq [ty h61, (5, rb = true), (4, decide ((↑(List.length (List.map Rd.pv r)) : Int) ≤ 16) = true), (4, decide (nx ≥ 1) = true), (10, decide (nx ≤ 1000000) = false)]) (by kernel_rfl)
    (aq ⟨h61, g1, (dT g2), (dT g3), (dF g4), trivial⟩)
theorem df21_3 (b : List Post) (o : SO) (s : Nat) (r : List Rd) (q : SO) (t : Nat) (nx : Int) (rb rr : Bool) (h61 : cc (ev X E0) 61 [Bk o s b] [] = some (AV.b rb, [])) (_h62 : df21_h62 b r q t nx rr) (g1 : rb = true) (g2 : (↑(List.length (List.map Rd.pv r)) : Int) ≤ 16) (g3 : ¬nx ≥ 1) :
    cc (ev X E0) 21 [AV.agg [.pv (.sl o s (List.map Post.pv b)), .pv (.sl q t (List.map Rd.pv r)), vi nx]] [] = some (AV.b false, []) :=
  cc_path (x := xf21) rfl ([kb rb] ++ bs 9 true ++ bs 14 false)
    (c := rq [ty h61, (5, rb = true), (4, decide ((↑(List.length (List.map Rd.pv r)) : Int) ≤ 16) = true), (4, decide (nx ≥ 1) = false), zf 10]) (by kernel_rfl)
    (aq ⟨h61, g1, (dT g2), (dF g3), rfl, trivial⟩)
theorem df21_4 (b : List Post) (o : SO) (s : Nat) (r : List Rd) (q : SO) (t : Nat) (nx : Int) (rb rr : Bool) (h61 : cc (ev X E0) 61 [Bk o s b] [] = some (AV.b rb, [])) (_h62 : df21_h62 b r q t nx rr) (g1 : rb = true) (g2 : ¬(↑(List.length (List.map Rd.pv r)) : Int) ≤ 16) :
    cc (ev X E0) 21 [AV.agg [.pv (.sl o s (List.map Post.pv b)), .pv (.sl q t (List.map Rd.pv r)), vi nx]] [] = some (AV.b false, []) :=
  cc_path (x := xf21) rfl ([kb rb] ++ bs 5 true ++ bs 18 false)
    (c := rq [ty h61, (5, rb = true), (4, decide ((↑(List.length (List.map Rd.pv r)) : Int) ≤ 16) = false), zf 14]) (by kernel_rfl)
    (aq ⟨h61, g1, (dF g2), rfl, trivial⟩)
theorem df21_5 (b : List Post) (o : SO) (s : Nat) (r : List Rd) (q : SO) (t : Nat) (nx : Int) (rb rr : Bool) (h61 : cc (ev X E0) 61 [Bk o s b] [] = some (AV.b rb, [])) (_h62 : df21_h62 b r q t nx rr) (g1 : rb = false) :
    cc (ev X E0) 21 [AV.agg [.pv (.sl o s (List.map Post.pv b)), .pv (.sl q t (List.map Rd.pv r)), vi nx]] [] = some (AV.b false, []) :=
  cc_path (x := xf21) rfl ([kb rb] ++ bs 23 false)
    (c := rq [ty h61, (5, rb = false), zf 18]) (by kernel_rfl)
    (aq ⟨h61, g1, rfl, trivial⟩)
theorem df58_1 (b : List Post) (o : SO) (s : Nat) (ox : SO) (sx : Nat) (mx : List Post) (e : Int) (h : cs (ev X E0) 103 [Bk o s b, AV.int IntKind.i32 50000] = some (AV.tup [AV.agg [.pv (.sl ox sx (List.map Post.pv mx))], AV.i e])) :
    cc (ev X E0) 58 [AV.agg [.pv (.sl o s (List.map Post.pv b))]] [] = some (AV.agg [.pv (.sl ox sx (List.map Post.pv mx))], []) :=
  cc_path (x := xf58) rfl [.shut (AV.tup [AV.agg [.pv (.sl ox sx (List.map Post.pv mx))], AV.c (vi e)])]
    (c := rq [ty h]) (by kernel_rfl)
    (aq ⟨h, trivial⟩)
theorem df20_1 (b : List Post) (o : SO) (s : Nat) (ox : SO) (sx : Nat) (mx : List Post) (rb : Bool) (h61 : cc (ev X E0) 61 [Bk o s b] [] = some (AV.b rb, [])) (_h58 : cs (ev X E0) 58 [Bk o s b] = some (AV.agg [.pv (.sl ox sx (List.map Post.pv mx))])) (g1 : rb = false) :
    cc (ev X E0) 20 [AV.agg [.pv (.sl o s (List.map Post.pv b))]] [] = some (AV.tup [AV.agg [.pv (.sl SO.nil 0 []), .pv (.sl SO.nil 0 []), vi 0], AV.c (vi 1)], []) :=
  cc_path (x := xf20) rfl [kb rb, .br true]
    (c := rq [ty h61, (1, (!rb) = true)]) (by kernel_rfl)
    (aq ⟨h61, (not_t g1), trivial⟩)
theorem df20_2 (b : List Post) (o : SO) (s : Nat) (ox : SO) (sx : Nat) (mx : List Post) (rb : Bool) (h61 : cc (ev X E0) 61 [Bk o s b] [] = some (AV.b rb, [])) (h58 : cs (ev X E0) 58 [Bk o s b] = some (AV.agg [.pv (.sl ox sx (List.map Post.pv mx))])) (g1 : rb = true) :
    cc (ev X E0) 20 [AV.agg [.pv (.sl o s (List.map Post.pv b))]] [] = some (AV.tup [AV.agg [.pv (.sl ox sx (List.map Post.pv mx)), .pv (.sl SO.nil 0 []), vi 1], AV.c (vi 0)], []) :=
  cc_path (x := xf20) rfl [kb rb, .br false, .shut (AV.agg [.pv (.sl ox sx (List.map Post.pv mx))])]
    (c := rq [ty h61, (1, (!rb) = false), ty h58]) (by kernel_rfl)
    (aq ⟨h61, (not_f g1), h58, trivial⟩)
theorem df15_1 (b : List Post) (o : SO) (s : Nat) (r : List Rd) (q : SO) (t : Nat) (nx : Int) (p : Post) (ox : SO) (sx : Nat) (mx : List Post) (oy : SO) (sy : Nat) (my : List Rd) (d : Bool) (e : Int) (h21 : cc (ev X E0) 21 [Dv b o s r q t nx] [] = some (AV.b d, [])) (_h55 : cs (ev X E0) 55 [Bk o s b, Post.av p] = some (AV.tup [AV.agg [.pv (.sl ox sx (List.map Post.pv mx))], AV.i e])) (_h56 : cs (ev X E0) 56 [AV.sl q t (List.map Rd.pv r)] = some (AV.c (.pv (.sl oy sy (List.map Rd.pv my))))) (g1 : d = false) :
    cc (ev X E0) 15 [AV.agg [.pv (.sl o s (List.map Post.pv b)), .pv (.sl q t (List.map Rd.pv r)), vi nx], AV.agg (Post.cs p)] [] = some (AV.tup [AV.agg [.pv (.sl SO.nil 0 []), .pv (.sl SO.nil 0 []), vi 0], AV.c (vi 1)], []) :=
  cc_path (x := xf15) rfl [kb d, .br true]
    (c := rq [ty h21, (1, (!d) = true)]) (by kernel_rfl)
    (aq ⟨h21, (not_t g1), trivial⟩)
theorem df15_2 (b : List Post) (o : SO) (s : Nat) (r : List Rd) (q : SO) (t : Nat) (nx : Int) (p : Post) (ox : SO) (sx : Nat) (mx : List Post) (oy : SO) (sy : Nat) (my : List Rd) (d : Bool) (e : Int) (h21 : cc (ev X E0) 21 [Dv b o s r q t nx] [] = some (AV.b d, [])) (h55 : cs (ev X E0) 55 [Bk o s b, Post.av p] = some (AV.tup [AV.agg [.pv (.sl ox sx (List.map Post.pv mx))], AV.i e])) (_h56 : cs (ev X E0) 56 [AV.sl q t (List.map Rd.pv r)] = some (AV.c (.pv (.sl oy sy (List.map Rd.pv my))))) (g1 : d = true) (g2 : ¬e = 0) :
    cc (ev X E0) 15 [AV.agg [.pv (.sl o s (List.map Post.pv b)), .pv (.sl q t (List.map Rd.pv r)), vi nx], AV.agg (Post.cs p)] [] = some (AV.tup [AV.agg [.pv (.sl SO.nil 0 []), .pv (.sl SO.nil 0 []), vi 0], AV.c (vi e)], []) :=
  cc_path (x := xf15) rfl [kb d, .br false, .shut (AV.tup [AV.agg [.pv (.sl ox sx (List.map Post.pv mx))], AV.c (vi e)]), .br true]
    (c := rq [ty h21, (1, (!d) = false), ty h55, (1, (e != 0) = true)]) (by kernel_rfl)
    (aq ⟨h21, (not_f g1), h55, (bne_iff_ne.mpr g2), trivial⟩)
theorem df15_3 (b : List Post) (o : SO) (s : Nat) (r : List Rd) (q : SO) (t : Nat) (nx : Int) (p : Post) (ox : SO) (sx : Nat) (mx : List Post) (oy : SO) (sy : Nat) (my : List Rd) (d : Bool) (e : Int) (h21 : cc (ev X E0) 21 [Dv b o s r q t nx] [] = some (AV.b d, [])) (h55 : cs (ev X E0) 55 [Bk o s b, Post.av p] = some (AV.tup [AV.agg [.pv (.sl ox sx (List.map Post.pv mx))], AV.i e])) (h56 : cs (ev X E0) 56 [AV.sl q t (List.map Rd.pv r)] = some (AV.c (.pv (.sl oy sy (List.map Rd.pv my))))) (g1 : d = true) (g2 : e = 0) :
    cc (ev X E0) 15 [AV.agg [.pv (.sl o s (List.map Post.pv b)), .pv (.sl q t (List.map Rd.pv r)), vi nx], AV.agg (Post.cs p)] [] = some (AV.tup [AV.agg [.pv (.sl ox sx (List.map Post.pv mx)), .pv (.sl oy sy (List.map Rd.pv my)), vi nx], AV.c (vi 0)], []) :=
  cc_path (x := xf15) rfl [kb d, .br false, .shut (AV.tup [AV.agg [.pv (.sl ox sx (List.map Post.pv mx))], AV.c (vi e)]), .br false, .shut (AV.c (.pv (.sl oy sy (List.map Rd.pv my))))]
    (c := rq [ty h21, (1, (!d) = false), ty h55, (1, (e != 0) = false), ty h56]) (by kernel_rfl)
    (aq ⟨h21, (not_f g1), h55, (bne_f g2), h56, trivial⟩)
theorem df16e_1 (b : List Post) (o : SO) (s : Nat) (r : List Rd) (q : SO) (t : Nat) (nx k v : Int) (d : Bool) (h21 : cc (ev X E0) 21 [Dv b o s r q t nx] [] = some (AV.b d, [])) (g1 : d = false) :
    cc (ev X E0) 16 [AV.agg [.pv (.sl o s (List.map Post.pv b)), .pv (.sl q t (List.map Rd.pv r)), vi nx], AV.c (vw k), AV.c (vw v)] [] = some (AV.tup [AV.agg [.pv (.sl SO.nil 0 []), .pv (.sl SO.nil 0 []), vi 0], AV.c (vi 0), AV.c (vi 1)], []) :=
  cc_path (x := xf16) rfl [kb d, .br true]
    (c := rq [ty h21, (1, (!d) = true)]) (by kernel_rfl)
    (aq ⟨h21, (not_t g1), trivial⟩)
theorem df16e_2 (b : List Post) (o : SO) (s : Nat) (r : List Rd) (q : SO) (t : Nat) (nx k v : Int) (d : Bool) (h21 : cc (ev X E0) 21 [Dv b o s r q t nx] [] = some (AV.b d, [])) (g1 : d = true) (g2 : datOk k = false) :
    cc (ev X E0) 16 [AV.agg [.pv (.sl o s (List.map Post.pv b)), .pv (.sl q t (List.map Rd.pv r)), vi nx], AV.c (vw k), AV.c (vw v)] [] = some (AV.tup [AV.agg [.pv (.sl SO.nil 0 []), .pv (.sl SO.nil 0 []), vi 0], AV.c (vi 0), AV.c (vi 11)], []) :=
  cc_path (x := xf16) rfl ([kb d, .br false, .call (AV.c (.pv (.bool (datOk k)))) []] ++ bs 5 true)
    (c := rq [ty h21, (1, (!d) = false), (1, cc (ev X E0) 57 [AV.c (vw k)] [] = some (AV.c (.pv (.bool (datOk k))), [])), (4, (!datOk k) = true), zt 1]) (by kernel_rfl)
    (aq ⟨h21, (not_f g1), (s77 _), (not_t g2), rfl, trivial⟩)
theorem df16e_3 (b : List Post) (o : SO) (s : Nat) (r : List Rd) (q : SO) (t : Nat) (nx k v : Int) (d : Bool) (h21 : cc (ev X E0) 21 [Dv b o s r q t nx] [] = some (AV.b d, [])) (g1 : d = true) (g2 : datOk k = true) (g3 : datOk v = false) :
    cc (ev X E0) 16 [AV.agg [.pv (.sl o s (List.map Post.pv b)), .pv (.sl q t (List.map Rd.pv r)), vi nx], AV.c (vw k), AV.c (vw v)] [] = some (AV.tup [AV.agg [.pv (.sl SO.nil 0 []), .pv (.sl SO.nil 0 []), vi 0], AV.c (vi 0), AV.c (vi 11)], []) :=
  cc_path (x := xf16) rfl [kb d, .br false, .call (AV.c (.pv (.bool (datOk k)))) [], .br false, .br false, .call (AV.c (.pv (.bool (datOk v)))) [], .br false, .br false, .br true]
    (c := rq [ty h21, (1, (!d) = false), (1, cc (ev X E0) 57 [AV.c (vw k)] [] = some (AV.c (.pv (.bool (datOk k))), [])), (2, (!datOk k) = false), (1, cc (ev X E0) 57 [AV.c (vw v)] [] = some (AV.c (.pv (.bool (datOk v))), [])), (2, (!datOk k) = false), (1, (!datOk v) = true)]) (by kernel_rfl)
    (aq ⟨h21, (not_f g1), (s77 _), (not_f g2), (s77 _), (not_f g2), (not_t g3), trivial⟩)
theorem df16e_4 (b : List Post) (o : SO) (s : Nat) (r : List Rd) (q : SO) (t : Nat) (nx k v : Int) (d : Bool) (h21 : cc (ev X E0) 21 [Dv b o s r q t nx] [] = some (AV.b d, [])) (g1 : d = true) (g2 : datOk k = true) (g3 : datOk v = true) (g4 : (↑(List.length (List.map Rd.pv r)) : Int) = 16) :
    cc (ev X E0) 16 [AV.agg [.pv (.sl o s (List.map Post.pv b)), .pv (.sl q t (List.map Rd.pv r)), vi nx], AV.c (vw k), AV.c (vw v)] [] = some (AV.tup [AV.agg [.pv (.sl SO.nil 0 []), .pv (.sl SO.nil 0 []), vi 0], AV.c (vi 0), AV.c (vi 6)], []) :=
  cc_path (x := xf16) rfl ([kb d, .br false, .call (AV.c (.pv (.bool (datOk k)))) [], .br false, .br false, .call (AV.c (.pv (.bool (datOk v)))) []] ++ bs 3 false ++ [.br true])
    (c := rq [ty h21, (1, (!d) = false), (1, cc (ev X E0) 57 [AV.c (vw k)] [] = some (AV.c (.pv (.bool (datOk k))), [])), (2, (!datOk k) = false), (1, cc (ev X E0) 57 [AV.c (vw v)] [] = some (AV.c (.pv (.bool (datOk v))), [])), (2, (!datOk k) = false), (1, (!datOk v) = false), (1, ((↑(List.length (List.map Rd.pv r)) : Int) == 16) = true)]) (by kernel_rfl)
    (aq ⟨h21, (not_f g1), (s77 _), (not_f g2), (s77 _), (not_f g2), (not_f g3), (beq_iff_eq.mpr g4), trivial⟩)
theorem df16e_5 (b : List Post) (o : SO) (s : Nat) (r : List Rd) (q : SO) (t : Nat) (nx k v : Int) (d : Bool) (h21 : cc (ev X E0) 21 [Dv b o s r q t nx] [] = some (AV.b d, [])) (g1 : d = true) (g2 : datOk k = true) (g3 : datOk v = true) (g4 : ¬(↑(List.length (List.map Rd.pv r)) : Int) = 16) (g5 : nx = 1000000) :
    cc (ev X E0) 16 [AV.agg [.pv (.sl o s (List.map Post.pv b)), .pv (.sl q t (List.map Rd.pv r)), vi nx], AV.c (vw k), AV.c (vw v)] [] = some (AV.tup [AV.agg [.pv (.sl SO.nil 0 []), .pv (.sl SO.nil 0 []), vi 0], AV.c (vi 0), AV.c (vi 9)], []) :=
  cc_path (x := xf16) rfl ([kb d, .br false, .call (AV.c (.pv (.bool (datOk k)))) [], .br false, .br false, .call (AV.c (.pv (.bool (datOk v)))) []] ++ bs 4 false ++ [.br true])
    (c := rq [ty h21, (1, (!d) = false), (1, cc (ev X E0) 57 [AV.c (vw k)] [] = some (AV.c (.pv (.bool (datOk k))), [])), (2, (!datOk k) = false), (1, cc (ev X E0) 57 [AV.c (vw v)] [] = some (AV.c (.pv (.bool (datOk v))), [])), (2, (!datOk k) = false), (1, (!datOk v) = false), (1, ((↑(List.length (List.map Rd.pv r)) : Int) == 16) = false), (1, (nx == 1000000) = true)]) (by kernel_rfl)
    (aq ⟨h21, (not_f g1), (s77 _), (not_f g2), (s77 _), (not_f g2), (not_f g3), (beq_eq_false_iff_ne.mpr g4), (beq_iff_eq.mpr g5), trivial⟩)
theorem df16_6 (b : List Post) (o : SO) (s : Nat) (r : List Rd) (q : SO) (t : Nat) (nx k v : Int) (ox : SO) (sx : Nat) (mx : List Post) (d : Bool) (h21 : cc (ev X E0) 21 [Dv b o s r q t nx] [] = some (AV.b d, [])) (h58 : cs (ev X E0) 58 [Bk o s b] = some (AV.agg [.pv (.sl ox sx (List.map Post.pv mx))])) (h56 : cc (ev X E0) 56 [AV.sl q t (List.map Rd.pv r)] [] = some (AV.c (.own 0 4 (List.map Rd.pv r)), [])) (g1 : d = true) (g2 : datOk k = true) (g3 : datOk v = true) (g4 : ¬(↑(List.length (List.map Rd.pv r)) : Int) = 16) (g5 : ¬nx = 1000000) (g6 : (↑(List.length (List.map Rd.pv r) + List.length [PV.agg [PV.int .i64 nx, .int .i64 (↑(List.length (List.map Post.pv b)) : Int), .int .i32 k, .int .i32 v]]) : Int) * 24 ≤ 140737488355328) :
    cc (ev X E0) 16 [AV.agg [.pv (.sl o s (List.map Post.pv b)), .pv (.sl q t (List.map Rd.pv r)), vi nx], AV.c (vw k), AV.c (vw v)] [] = some (AV.tup [AV.agg [.pv (.sl ox sx (List.map Post.pv mx)), .own 0 4 (List.map Rd.pv r ++ [PV.agg [PV.int .i64 nx, .int .i64 (↑(List.length (List.map Post.pv b)) : Int), .int .i32 k, .int .i32 v]]), vi (IntKind.wrap .i64 (nx + 1))], AV.c (vi nx), AV.c (vi 0)], []) :=
  cc_path (x := xf16) rfl ([kb d, .br false, .call (AV.c (.pv (.bool (datOk k)))) [], .br false, .br false, .call (AV.c (.pv (.bool (datOk v)))) []] ++ bs 5 false ++ [.shut (AV.agg [.pv (.sl ox sx (List.map Post.pv mx))]), .call (AV.c (.own 0 4 (List.map Rd.pv r))) []])
    (c := rq [ty h21, (1, (!d) = false), (1, cc (ev X E0) 57 [AV.c (vw k)] [] = some (AV.c (.pv (.bool (datOk k))), [])), (2, (!datOk k) = false), (1, cc (ev X E0) 57 [AV.c (vw v)] [] = some (AV.c (.pv (.bool (datOk v))), [])), (2, (!datOk k) = false), (1, (!datOk v) = false), (1, ((↑(List.length (List.map Rd.pv r)) : Int) == 16) = false), (1, (nx == 1000000) = false), ty h58, ty h56, ty g6]) (by kernel_rfl)
    (aq ⟨h21, (not_f g1), (s77 _), (not_f g2), (s77 _), (not_f g2), (not_f g3), (beq_eq_false_iff_ne.mpr g4), (beq_eq_false_iff_ne.mpr g5), h58, h56, g6, trivial⟩)
theorem df16n_5 (b : List Post) (o : SO) (s : Nat) (q : SO) (t : Nat) (nx k v : Int) (ox : SO) (sx : Nat) (mx : List Post) (d : Bool) (h21 : cc (ev X E0) 21 [Dv b o s [] q t nx] [] = some (AV.b d, [])) (h58 : cs (ev X E0) 58 [Bk o s b] = some (AV.agg [.pv (.sl ox sx (List.map Post.pv mx))])) (h56 : cc (ev X E0) 56 [AV.sl q t (List.map Rd.pv [])] [] = some (AV.c (.pv (.sl SO.nil 0 [])), [])) (g1 : d = true) (g2 : datOk k = true) (g3 : datOk v = true) (g4 : ¬nx = 1000000) (g5 : (↑(0 + List.length [PV.agg [PV.int .i64 nx, .int .i64 (↑(List.length (List.map Post.pv b)) : Int), .int .i32 k, .int .i32 v]]) : Int) * 24 ≤ 140737488355328) :
    cc (ev X E0) 16 [AV.agg [.pv (.sl o s (List.map Post.pv b)), .pv (.sl q t []), vi nx], AV.c (vw k), AV.c (vw v)] [] = some (AV.tup [AV.agg [.pv (.sl ox sx (List.map Post.pv mx)), .own 0 4 [PV.agg [PV.int .i64 nx, .int .i64 (↑(List.length (List.map Post.pv b)) : Int), .int .i32 k, .int .i32 v]], vi (IntKind.wrap .i64 (nx + 1))], AV.c (vi nx), AV.c (vi 0)], []) :=
  cc_path (x := xf16) rfl ([kb d, .br false, .call (AV.c (.pv (.bool (datOk k)))) [], .br false, .br false, .call (AV.c (.pv (.bool (datOk v)))) []] ++ bs 5 false ++ [.shut (AV.agg [.pv (.sl ox sx (List.map Post.pv mx))]), .call (AV.c (.pv (.sl SO.nil (0 : Nat) []))) [], .emp false])
    (c := rq [ty h21, (1, (!d) = false), (1, cc (ev X E0) 57 [AV.c (vw k)] [] = some (AV.c (.pv (.bool (datOk k))), [])), (2, (!datOk k) = false), (1, cc (ev X E0) 57 [AV.c (vw v)] [] = some (AV.c (.pv (.bool (datOk v))), [])), (2, (!datOk k) = false), (1, (!datOk v) = false), zf 1, (1, (nx == 1000000) = false), ty h58, ty h56, (1, [PV.agg [PV.int .i64 nx, .int .i64 (↑(List.length (List.map Post.pv b)) : Int), .int .i32 k, .int .i32 v]] ≠ []), ty g5]) (by kernel_rfl)
    (aq ⟨h21, (not_f g1), (s77 _), (not_f g2), (s77 _), (not_f g2), (not_f g3), rfl, (beq_eq_false_iff_ne.mpr g4), h58, h56, (List.cons_ne_nil _ _), g5, trivial⟩)
theorem df16f_5 (b : List Post) (o : SO) (s : Nat) (q : SO) (t : Nat) (nx k v : Int) (ox : SO) (sx : Nat) (mx : List Post) (d : Bool) (h21 : cc (ev X E0) 21 [Dv b o s [] q t nx] [] = some (AV.b d, [])) (h58 : cs (ev X E0) 58 [Bk o s b] = some (AV.agg [.pv (.sl ox sx (List.map Post.pv mx))])) (h56 : cc (ev X E0) 56 [AV.sl q t (List.map Rd.pv [])] [] = some (AV.c (.pv (.sl SO.full 4 [])), [])) (g1 : d = true) (g2 : datOk k = true) (g3 : datOk v = true) (g4 : ¬nx = 1000000) (g5 : (↑(0 + List.length [PV.agg [PV.int .i64 nx, .int .i64 (↑(List.length (List.map Post.pv b)) : Int), .int .i32 k, .int .i32 v]]) : Int) * 24 ≤ 140737488355328) :
    cc (ev X E0) 16 [AV.agg [.pv (.sl o s (List.map Post.pv b)), .pv (.sl q t []), vi nx], AV.c (vw k), AV.c (vw v)] [] = some (AV.tup [AV.agg [.pv (.sl ox sx (List.map Post.pv mx)), .own 0 4 [PV.agg [PV.int .i64 nx, .int .i64 (↑(List.length (List.map Post.pv b)) : Int), .int .i32 k, .int .i32 v]], vi (IntKind.wrap .i64 (nx + 1))], AV.c (vi nx), AV.c (vi 0)], []) :=
  cc_path (x := xf16) rfl ([kb d, .br false, .call (AV.c (.pv (.bool (datOk k)))) [], .br false, .br false, .call (AV.c (.pv (.bool (datOk v)))) []] ++ bs 5 false ++ [.shut (AV.agg [.pv (.sl ox sx (List.map Post.pv mx))]), .call (AV.c (.pv (.sl SO.full (4 : Nat) []))) [], .emp false])
    (c := rq [ty h21, (1, (!d) = false), (1, cc (ev X E0) 57 [AV.c (vw k)] [] = some (AV.c (.pv (.bool (datOk k))), [])), (2, (!datOk k) = false), (1, cc (ev X E0) 57 [AV.c (vw v)] [] = some (AV.c (.pv (.bool (datOk v))), [])), (2, (!datOk k) = false), (1, (!datOk v) = false), zf 1, (1, (nx == 1000000) = false), ty h58, ty h56, (1, [PV.agg [PV.int .i64 nx, .int .i64 (↑(List.length (List.map Post.pv b)) : Int), .int .i32 k, .int .i32 v]] ≠ []), ty g5]) (by kernel_rfl)
    (aq ⟨h21, (not_f g1), (s77 _), (not_f g2), (s77 _), (not_f g2), (not_f g3), rfl, (beq_eq_false_iff_ne.mpr g4), h58, h56, (List.cons_ne_nil _ _), g5, trivial⟩)
abbrev df59_h104 (r : List Rd) (q : SO) (t : Nat) (id i : Int) : Prop := cc (ev X E0) 104 [AV.sl q t (List.map Rd.pv r), AV.c (.fn 105 [0])] [.cells [vi id]] = some (AV.i i, [.cells [vi id]])
theorem df59_1 (b : List Post) (o : SO) (s : Nat) (r : List Rd) (q : SO) (t : Nat) (nx id : Int) (d : Bool) (i : Int) (h21 : cc (ev X E0) 21 [Dv b o s r q t nx] [] = some (AV.b d, [])) (_h104 : df59_h104 r q t id i) (g1 : d = false) :
    cc (ev X E0) 59 [AV.agg [.pv (.sl o s (List.map Post.pv b)), .pv (.sl q t (List.map Rd.pv r)), vi nx], AV.c (vi id)] [] = some (AV.tup [AV.c (vi 0), AV.c (vi 1)], []) :=
  cc_path (x := xf59) rfl [kb d, .br true]
    (c := rq [ty h21, (1, (!d) = true)]) (by kernel_rfl)
    (aq ⟨h21, (not_t g1), trivial⟩)
theorem df59_2 (b : List Post) (o : SO) (s : Nat) (r : List Rd) (q : SO) (t : Nat) (nx id : Int) (d : Bool) (i : Int) (h21 : cc (ev X E0) 21 [Dv b o s r q t nx] [] = some (AV.b d, [])) (h104 : df59_h104 r q t id i) (g1 : d = true) (g2 : i < 0) :
    cc (ev X E0) 59 [AV.agg [.pv (.sl o s (List.map Post.pv b)), .pv (.sl q t (List.map Rd.pv r)), vi nx], AV.c (vi id)] [] = some (AV.tup [AV.c (vi 0), AV.c (vi 8)], []) :=
  cc_path (x := xf59) rfl [kb d, .br false, .call (AV.c (vi i)) [.cells [vi id]], .br true]
    (c := rq [ty h21, (1, (!d) = false), ty h104, (1, decide (i < 0) = true)]) (by kernel_rfl)
    (aq ⟨h21, (not_f g1), h104, (dT g2), trivial⟩)
theorem df59_3 (b : List Post) (o : SO) (s : Nat) (r : List Rd) (q : SO) (t : Nat) (nx id : Int) (d : Bool) (i : Int) (h21 : cc (ev X E0) 21 [Dv b o s r q t nx] [] = some (AV.b d, [])) (h104 : df59_h104 r q t id i) (g1 : d = true) (g2 : ¬i < 0) :
    cc (ev X E0) 59 [AV.agg [.pv (.sl o s (List.map Post.pv b)), .pv (.sl q t (List.map Rd.pv r)), vi nx], AV.c (vi id)] [] = some (AV.tup [AV.c (vi i), AV.c (vi 0)], []) :=
  cc_path (x := xf59) rfl [kb d, .br false, .call (AV.c (vi i)) [.cells [vi id]], .br false]
    (c := rq [ty h21, (1, (!d) = false), ty h104, (1, decide (i < 0) = false)]) (by kernel_rfl)
    (aq ⟨h21, (not_f g1), h104, (dF g2), trivial⟩)
theorem df17e_1 (b : List Post) (o : SO) (s : Nat) (r : List Rd) (q : SO) (t : Nat) (nx id i e : Int) (he : ¬e = 0) (h59 : cc (ev X E0) 59 [Dv b o s r q t nx, AV.i id] [] = some (AV.tup [AV.i i, AV.i e], [])) :
    cc (ev X E0) 17 [AV.agg [.pv (.sl o s (List.map Post.pv b)), .pv (.sl q t (List.map Rd.pv r)), vi nx], AV.c (vi id)] [] = some (AV.tup [AV.agg [.pv (.sl SO.nil 0 []), .pv (.sl SO.nil 0 []), vi 0], AV.c (vi e)], []) :=
  cc_path (x := xf17) rfl [.call (AV.tup [AV.c (vi i), AV.c (vi e)]) [], .br true]
    (c := rq [ty h59, (1, (e != 0) = true)]) (by kernel_rfl)
    (aq ⟨h59, (bne_iff_ne.mpr he), trivial⟩)
theorem df17_2 (b : List Post) (o : SO) (s : Nat) (r : List Rd) (q : SO) (t : Nat) (nx id i e : Int) (ox : SO) (sx : Nat) (mx : List Post) (es : List PV) (h59 : cc (ev X E0) 59 [Dv b o s r q t nx, AV.i id] [] = some (AV.tup [AV.i i, AV.i e], [])) (h58 : cs (ev X E0) 58 [Bk o s b] = some (AV.agg [.pv (.sl ox sx (List.map Post.pv mx))])) (h56 : cc (ev X E0) 56 [AV.sl q t (List.map Rd.pv r)] [] = some (AV.c (.own 0 4 (List.map Rd.pv r)), [])) (h60 : cc (ev X E0) 60 [AV.c (.ms 0 0 4 (List.length (List.map Rd.pv r))), AV.i i, AV.i (IntKind.wrap .i64 (i + 1))] [.row 4 (List.map Rd.pv r)] = some (AV.c (.ms 0 0 4 (List.length (List.map Rd.pv r) - 1)), [.row 4 es])) (y1 : List PV) (g1 : e = 0) (g2 : frzE (some (Box.row 4 es)) 4 0 (List.length (List.map Rd.pv r) - 1) = some y1) :
    cc (ev X E0) 17 [AV.agg [.pv (.sl o s (List.map Post.pv b)), .pv (.sl q t (List.map Rd.pv r)), vi nx], AV.c (vi id)] [] = some (AV.tup [AV.agg [.pv (.sl ox sx (List.map Post.pv mx)), .pv (.sl SO.shut 4 y1), vi nx], AV.c (vi 0)], []) :=
  cc_path (x := xf17) rfl [.call (AV.tup [AV.c (vi i), AV.c (vi e)]) [], .br false, .shut (AV.agg [.pv (.sl ox sx (List.map Post.pv mx))]), .call (AV.c (.own 0 4 (List.map Rd.pv r))) [], .call (AV.c (.ms 0 0 4 (List.length (List.map Rd.pv r) - 1))) [.row 4 es], .els y1]
    (c := rq [ty h59, (1, (e != 0) = false), ty h58, (1, List.all (List.map Rd.pv r) (rowE 4) = true), ty h56, ty h60, ty g2]) (by kernel_rfl)
    (aq ⟨h59, (bne_f g1), h58, (rows_map fun _ => rfl), h56, h60, g2, trivial⟩)
theorem df18_1 (b : List Post) (o : SO) (s : Nat) (r : List Rd) (q : SO) (t : Nat) (nx id i e : Int) (he : ¬e = 0) (h59 : cc (ev X E0) 59 [Dv b o s r q t nx, AV.i id] [] = some (AV.tup [AV.i i, AV.i e], [])) :
    cc (ev X E0) 18 [AV.agg [.pv (.sl o s (List.map Post.pv b)), .pv (.sl q t (List.map Rd.pv r)), vi nx], AV.c (vi id)] [] = some (AV.tup [AV.c (.pv (.sl SO.nil 0 [])), AV.c (vi e)], []) :=
  cc_path (x := xf18) rfl [.call (AV.tup [AV.c (vi i), AV.c (vi e)]) [], .br true]
    (c := rq [ty h59, (1, (e != 0) = true)]) (by kernel_rfl)
    (aq ⟨h59, (bne_iff_ne.mpr he), trivial⟩)
theorem df18s_1 (b : List Post) (o : SO) (s : Nat) (hb : szOk 7 (.pv (.sl o s (List.map Post.pv b))) = true) (hn : CV.some' (.pv (.sl o s (List.map Post.pv b))) = true) (r : List Rd) (q : SO) (t : Nat) (hs : szOk 4 (.pv (.sl q t (List.map Rd.pv r))) = true) (nx id i e2 : Int) (z : Rd) (hz : r[Int.toNat i]? = some z) (es : List PV) (h59 : cc (ev X E0) 59 [Dv b o s r q t nx, AV.i id] [] = some (AV.tup [AV.i i, AV.i 0], [])) (h33 : cc (ev X E0) 33 [AV.agg [.pv (.sl SO.shut 7 (List.take (Int.toNat (Rd.sees z)) (List.map Post.pv b)))], AV.int IntKind.i32 (Rd.known z), AV.int IntKind.i32 (Rd.value z)] [] = some (AV.tup [AV.c (.own 0 7 es), AV.i e2], [])) (g1 : 0 ≤ i) (g2 : 0 ≤ Rd.sees z) (g3 : Rd.sees z ≤ (↑(List.length (List.map Post.pv b)) : Int)) :
    cc (ev X E0) 18 [AV.agg [.pv (.sl o s (List.map Post.pv b)), .pv (.sl q t (List.map Rd.pv r)), vi nx], AV.c (vi id)] [] = some (AV.tup [AV.c (.own 0 7 es), AV.c (vi e2)], []) :=
  cc_path (x := xf18) rfl [.call (AV.tup [AV.c (vi i), AV.c (vi 0)]) [], .br false, .sz, .el (.agg [PV.int .i64 (Rd.id z), .int .i64 (Rd.sees z), .int .i32 (Rd.known z), .int .i32 (Rd.value z)]), .nn, .call (AV.tup [AV.c (.own 0 7 es), AV.c (vi e2)]) []]
    (c := rq [ty h59, zf 1, ty hs, (1, 0 ≤ i), (1, (List.map Rd.pv r)[Int.toNat i]? = some (PV.agg [PV.int .i64 (Rd.id z), .int .i64 (Rd.sees z), .int .i32 (Rd.known z), .int .i32 (Rd.value z)])), ty hb, ty hn, (1, (0 : Int) ≤ (0 : Int)), (1, 0 ≤ Rd.sees z), ty g3, ty h33]) (by kernel_rfl)
    (aq ⟨h59, rfl, hs, g1, (map_at hz), hb, hn, (Int.le_refl _), g2, g3, h33, trivial⟩)
theorem df18t_1 (b : List Post) (o : SO) (s : Nat) (hb : szOk 7 (.pv (.sl o s (List.map Post.pv b))) = true) (hn : CV.some' (.pv (.sl o s (List.map Post.pv b))) = true) (r : List Rd) (q : SO) (t : Nat) (hs : szOk 4 (.pv (.sl q t (List.map Rd.pv r))) = true) (nx id i e2 : Int) (z : Rd) (hz : r[Int.toNat i]? = some z) (h59 : cc (ev X E0) 59 [Dv b o s r q t nx, AV.i id] [] = some (AV.tup [AV.i i, AV.i 0], [])) (h33 : cc (ev X E0) 33 [AV.agg [.pv (.sl SO.shut 7 (List.take (Int.toNat (Rd.sees z)) (List.map Post.pv b)))], AV.int IntKind.i32 (Rd.known z), AV.int IntKind.i32 (Rd.value z)] [] = some (AV.tup [AV.c (.pv (.sl SO.nil 0 [])), AV.i e2], [])) (g1 : 0 ≤ i) (g2 : 0 ≤ Rd.sees z) (g3 : Rd.sees z ≤ (↑(List.length (List.map Post.pv b)) : Int)) :
    cc (ev X E0) 18 [AV.agg [.pv (.sl o s (List.map Post.pv b)), .pv (.sl q t (List.map Rd.pv r)), vi nx], AV.c (vi id)] [] = some (AV.tup [AV.c (.pv (.sl SO.nil 0 [])), AV.c (vi e2)], []) :=
  cc_path (x := xf18) rfl [.call (AV.tup [AV.c (vi i), AV.c (vi 0)]) [], .br false, .sz, .el (.agg [PV.int .i64 (Rd.id z), .int .i64 (Rd.sees z), .int .i32 (Rd.known z), .int .i32 (Rd.value z)]), .nn, .call (AV.tup [AV.c (.pv (.sl SO.nil 0 [])), AV.c (vi e2)]) []]
    (c := rq [ty h59, zf 1, ty hs, (1, 0 ≤ i), (1, (List.map Rd.pv r)[Int.toNat i]? = some (PV.agg [PV.int .i64 (Rd.id z), .int .i64 (Rd.sees z), .int .i32 (Rd.known z), .int .i32 (Rd.value z)])), ty hb, ty hn, (1, (0 : Int) ≤ (0 : Int)), (1, 0 ≤ Rd.sees z), ty g3, ty h33]) (by kernel_rfl)
    (aq ⟨h59, rfl, hs, g1, (map_at hz), hb, hn, (Int.le_refl _), g2, g3, h33, trivial⟩)
theorem df18n_1 (r : List Rd) (q : SO) (t : Nat) (hs : szOk 4 (.pv (.sl q t (List.map Rd.pv r))) = true) (nx id i e2 : Int) (z : Rd) (hz : r[Int.toNat i]? = some z) (h59 : cc (ev X E0) 59 [Dv [] SO.nil 0 r q t nx, AV.i id] [] = some (AV.tup [AV.i i, AV.i 0], [])) (h33 : cc (ev X E0) 33 [Bk SO.nil 0 [], AV.int IntKind.i32 (Rd.known z), AV.int IntKind.i32 (Rd.value z)] [] = some (AV.tup [AV.c (.pv (.sl SO.nil 0 [])), AV.i e2], [])) (g1 : 0 ≤ i) (g2 : 0 ≤ Rd.sees z) (g3 : Rd.sees z ≤ 0) :
    cc (ev X E0) 18 [AV.agg [.pv (.sl SO.nil 0 []), .pv (.sl q t (List.map Rd.pv r)), vi nx], AV.c (vi id)] [] = some (AV.tup [AV.c (.pv (.sl SO.nil 0 [])), AV.c (vi e2)], []) :=
  cc_path (x := xf18) rfl [.call (AV.tup [AV.c (vi i), AV.c (vi 0)]) [], .br false, .sz, .el (.agg [PV.int .i64 (Rd.id z), .int .i64 (Rd.sees z), .int .i32 (Rd.known z), .int .i32 (Rd.value z)]), .call (AV.tup [AV.c (.pv (.sl SO.nil 0 [])), AV.c (vi e2)]) []]
    (c := rq [ty h59, zf 1, ty hs, (1, 0 ≤ i), (1, (List.map Rd.pv r)[Int.toNat i]? = some (PV.agg [PV.int .i64 (Rd.id z), .int .i64 (Rd.sees z), .int .i32 (Rd.known z), .int .i32 (Rd.value z)])), (1, (0 : Int) ≤ (0 : Int)), (1, 0 ≤ Rd.sees z), (1, Rd.sees z ≤ 0), ty h33]) (by kernel_rfl)
    (aq ⟨h59, rfl, hs, g1, (map_at hz), (Int.le_refl _), g2, g3, h33, trivial⟩)
theorem df18m_1 (r : List Rd) (q : SO) (t : Nat) (hs : szOk 4 (.pv (.sl q t (List.map Rd.pv r))) = true) (nx id i e2 : Int) (z : Rd) (hz : r[Int.toNat i]? = some z) (h59 : cc (ev X E0) 59 [Dv [] SO.nil 7 r q t nx, AV.i id] [] = some (AV.tup [AV.i i, AV.i 0], [])) (h33 : cc (ev X E0) 33 [Bk SO.nil 7 [], AV.int IntKind.i32 (Rd.known z), AV.int IntKind.i32 (Rd.value z)] [] = some (AV.tup [AV.c (.pv (.sl SO.nil 0 [])), AV.i e2], [])) (g1 : 0 ≤ i) (g2 : 0 ≤ Rd.sees z) (g3 : Rd.sees z ≤ 0) :
    cc (ev X E0) 18 [AV.agg [.pv (.sl SO.nil 7 []), .pv (.sl q t (List.map Rd.pv r)), vi nx], AV.c (vi id)] [] = some (AV.tup [AV.c (.pv (.sl SO.nil 0 [])), AV.c (vi e2)], []) :=
  cc_path (x := xf18) rfl [.call (AV.tup [AV.c (vi i), AV.c (vi 0)]) [], .br false, .sz, .el (.agg [PV.int .i64 (Rd.id z), .int .i64 (Rd.sees z), .int .i32 (Rd.known z), .int .i32 (Rd.value z)]), .call (AV.tup [AV.c (.pv (.sl SO.nil 0 [])), AV.c (vi e2)]) []]
    (c := rq [ty h59, zf 1, ty hs, (1, 0 ≤ i), (1, (List.map Rd.pv r)[Int.toNat i]? = some (PV.agg [PV.int .i64 (Rd.id z), .int .i64 (Rd.sees z), .int .i32 (Rd.known z), .int .i32 (Rd.value z)])), (1, (0 : Int) ≤ (0 : Int)), (1, 0 ≤ Rd.sees z), (1, Rd.sees z ≤ 0), ty h33]) (by kernel_rfl)
    (aq ⟨h59, rfl, hs, g1, (map_at hz), (Int.le_refl _), g2, g3, h33, trivial⟩)
theorem df19_1 (b : List Post) (o : SO) (s : Nat) (r : List Rd) (q : SO) (t : Nat) (_hs : szOk 4 (.pv (.sl q t (List.map Rd.pv r))) = true) (nx : Int) (d : Bool) (h21 : cc (ev X E0) 21 [Dv b o s r q t nx] [] = some (AV.b d, [])) (g1 : d = false) :
    cc (ev X E0) 19 [AV.agg [.pv (.sl o s (List.map Post.pv b)), .pv (.sl q t (List.map Rd.pv r)), vi nx]] [] = some (AV.tup [AV.c (vi 0), AV.b false], []) :=
  cc_path (x := xf19) rfl ([kb d] ++ bs 6 true)
    (c := rq [ty h21, (5, (!d) = true), zt 1]) (by kernel_rfl)
    (aq ⟨h21, (not_t g1), rfl, trivial⟩)
theorem df19_2 (b : List Post) (o : SO) (s : Nat) (r : List Rd) (q : SO) (t : Nat) (_hs : szOk 4 (.pv (.sl q t (List.map Rd.pv r))) = true) (nx : Int) (d : Bool) (h21 : cc (ev X E0) 21 [Dv b o s r q t nx] [] = some (AV.b d, [])) (g1 : d = true) (g2 : (↑(List.length (List.map Rd.pv r)) : Int) = 0) :
    cc (ev X E0) 19 [AV.agg [.pv (.sl o s (List.map Post.pv b)), .pv (.sl q t (List.map Rd.pv r)), vi nx]] [] = some (AV.tup [AV.c (vi 0), AV.b false], []) :=
  cc_path (x := xf19) rfl ([kb d] ++ bs 5 false ++ [.br true])
    (c := rq [ty h21, (5, (!d) = false), (1, ((↑(List.length (List.map Rd.pv r)) : Int) == 0) = true)]) (by kernel_rfl)
    (aq ⟨h21, (not_f g1), (beq_iff_eq.mpr g2), trivial⟩)
theorem df19_3 (b : List Post) (o : SO) (s : Nat) (r : List Rd) (q : SO) (t : Nat) (hs : szOk 4 (.pv (.sl q t (List.map Rd.pv r))) = true) (nx : Int) (d : Bool) (h21 : cc (ev X E0) 21 [Dv b o s r q t nx] [] = some (AV.b d, [])) (y1 : Rd) (g1 : d = true) (g2 : ¬(↑(List.length (List.map Rd.pv r)) : Int) = 0) (g3 : r[0]? = some y1) :
    cc (ev X E0) 19 [AV.agg [.pv (.sl o s (List.map Post.pv b)), .pv (.sl q t (List.map Rd.pv r)), vi nx]] [] = some (AV.tup [AV.c (vi (Rd.sees y1)), AV.b true], []) :=
  cc_path (x := xf19) rfl ([kb d] ++ bs 6 false ++ [.sz, .el (.agg [PV.int .i64 (Rd.id y1), .int .i64 (Rd.sees y1), .int .i32 (Rd.known y1), .int .i32 (Rd.value y1)])])
    (c := rq [ty h21, (5, (!d) = false), (1, ((↑(List.length (List.map Rd.pv r)) : Int) == 0) = false), ty hs, (1, (0 : Int) ≤ (0 : Int)), (1, (List.map Rd.pv r)[0]? = some (PV.agg [PV.int .i64 (Rd.id y1), .int .i64 (Rd.sees y1), .int .i32 (Rd.known y1), .int .i32 (Rd.value y1)]))]) (by kernel_rfl)
    (aq ⟨h21, (not_f g1), (beq_eq_false_iff_ne.mpr g2), hs, (Int.le_refl _), (map_at g3), trivial⟩)
end Go.Sx.Tryd
