/- Acts on desks: what comes of them. -/
import Derived.Test.YtplknajjcllmkaaDoorD3
import Derived.Test.YtplknajjcllmkaaDoorN1d
namespace Go.Sx.Tryd
open Go Go.Sx
structure Act where
  dod : Int
  id : Int
  p : Post
  known : Int
  value : Int
abbrev Act.cs (a : Act) : List CV := [.pv (.int .i64 a.dod), .pv (.int .i64 a.id), .pv (.int .i64 a.p.id), .pv (.int .i32 a.p.known), .pv (.int .i32 a.p.value), .pv (.sl a.p.so 3 (a.p.legs.map Leg.pv)), .pv (.int .i64 a.p.rev), .pv (.int .i64 a.p.kind), .pv (.str a.p.memo), .pv (.int .i32 a.known), .pv (.int .i32 a.value)]
abbrev Act.av (a : Act) : AV := .agg a.cs
abbrev Act.pv (a : Act) : PV := .agg [.int .i64 a.dod, .int .i64 a.id, .int .i64 a.p.id, .int .i32 a.p.known, .int .i32 a.p.value, .sl a.p.so 3 (a.p.legs.map Leg.pv), .int .i64 a.p.rev, .int .i64 a.p.kind, .str a.p.memo, .int .i32 a.known, .int .i32 a.value]
theorem df31_1 (b : List Post) (o : SO) (s : Nat) (r : List Rd) (q : SO) (t : Nat) (nx : Int) (a : Act) (b2 : List Post) (o2 : SO) (s2 : Nat) (r2 : List Rd) (q2 : SO) (t2 : Nat) (nx2 : Int) (n : Int) (e : Int) (h15 : Act.dod a = 0 →
  cs (ev X E0) 15
      [Dv b o s r q t nx,
        Post.av
          (let __src := Act.p a;
          Post.mk (IntKind.wrap .i64 ((↑(List.length (List.map Post.pv b)) : Int) + 1)) (Post.known __src) (Post.value __src) (Post.so __src) (Post.legs __src) (Post.rev __src) (Post.kind __src) (Post.memo __src))] =
    some (AV.tup [Dv b2 o2 s2 r2 q2 t2 nx2, AV.i e])) (h16 : Act.dod a = 1 → cs (ev X E0) 16 [Dv b o s r q t nx, AV.int IntKind.i32 (Act.known a), AV.int IntKind.i32 (Act.value a)] = some (AV.tup [Dv b2 o2 s2 r2 q2 t2 nx2, AV.i n, AV.i e])) (h17 : Act.dod a = 2 → cs (ev X E0) 17 [Dv b o s r q t nx, AV.i (Act.id a)] = some (AV.tup [Dv b2 o2 s2 r2 q2 t2 nx2, AV.i e])) (g1 : Act.dod a = 0) (g2 : ¬e = 0) :
    cc (ev X E0) 31 [AV.agg [.pv (.sl o s (List.map Post.pv b)), .pv (.sl q t (List.map Rd.pv r)), vi nx], AV.agg [vi (Act.dod a), vi (Act.id a), vi (Post.id (Act.p a)), vw (Post.known (Act.p a)), vw (Post.value (Act.p a)), .pv (.sl (Post.so (Act.p a)) 3 (List.map Leg.pv (Post.legs (Act.p a)))), vi (Post.rev (Act.p a)), vi (Post.kind (Act.p a)), .pv (.str (Post.memo (Act.p a))), vw (Act.known a), vw (Act.value a)]] [] = some (AV.tup [AV.agg [.pv (.sl o s (List.map Post.pv b)), .pv (.sl q t (List.map Rd.pv r)), vi nx], AV.c (vi e)], []) :=
  cc_path (x := xf31) rfl [.br true, .shut (AV.tup [AV.agg [.pv (.sl o2 s2 (List.map Post.pv b2)), .pv (.sl q2 t2 (List.map Rd.pv r2)), vi nx2], AV.c (vi e)]), .br true]
    (c := [(Act.dod a == 0) = true, cs (ev X E0) 15 [AV.agg [.pv (.sl o s (List.map Post.pv b)), .pv (.sl q t (List.map Rd.pv r)), vi nx], AV.agg [vi (IntKind.wrap .i64 ((↑(List.length (List.map Post.pv b)) : Int) + 1)), vw (Post.known (Act.p a)), vw (Post.value (Act.p a)), .pv (.sl (Post.so (Act.p a)) 3 (List.map Leg.pv (Post.legs (Act.p a)))), vi (Post.rev (Act.p a)), vi (Post.kind (Act.p a)), .pv (.str (Post.memo (Act.p a)))]] = some (AV.tup [AV.agg [.pv (.sl o2 s2 (List.map Post.pv b2)), .pv (.sl q2 t2 (List.map Rd.pv r2)), vi nx2], AV.c (vi e)]), (e != 0) = true]) (by kernel_rfl)
    ⟨(beq_iff_eq.mpr g1), (h15 g1), (bne_iff_ne.mpr g2), trivial⟩
theorem df31_2 (b : List Post) (o : SO) (s : Nat) (r : List Rd) (q : SO) (t : Nat) (nx : Int) (a : Act) (b2 : List Post) (o2 : SO) (s2 : Nat) (r2 : List Rd) (q2 : SO) (t2 : Nat) (nx2 : Int) (n : Int) (e : Int) (h15 : Act.dod a = 0 →
  cs (ev X E0) 15
      [Dv b o s r q t nx,
        Post.av
          (let __src := Act.p a;
          Post.mk (IntKind.wrap .i64 ((↑(List.length (List.map Post.pv b)) : Int) + 1)) (Post.known __src) (Post.value __src) (Post.so __src) (Post.legs __src) (Post.rev __src) (Post.kind __src) (Post.memo __src))] =
    some (AV.tup [Dv b2 o2 s2 r2 q2 t2 nx2, AV.i e])) (h16 : Act.dod a = 1 → cs (ev X E0) 16 [Dv b o s r q t nx, AV.int IntKind.i32 (Act.known a), AV.int IntKind.i32 (Act.value a)] = some (AV.tup [Dv b2 o2 s2 r2 q2 t2 nx2, AV.i n, AV.i e])) (h17 : Act.dod a = 2 → cs (ev X E0) 17 [Dv b o s r q t nx, AV.i (Act.id a)] = some (AV.tup [Dv b2 o2 s2 r2 q2 t2 nx2, AV.i e])) (g1 : Act.dod a = 0) (g2 : e = 0) :
    cc (ev X E0) 31 [AV.agg [.pv (.sl o s (List.map Post.pv b)), .pv (.sl q t (List.map Rd.pv r)), vi nx], AV.agg [vi (Act.dod a), vi (Act.id a), vi (Post.id (Act.p a)), vw (Post.known (Act.p a)), vw (Post.value (Act.p a)), .pv (.sl (Post.so (Act.p a)) 3 (List.map Leg.pv (Post.legs (Act.p a)))), vi (Post.rev (Act.p a)), vi (Post.kind (Act.p a)), .pv (.str (Post.memo (Act.p a))), vw (Act.known a), vw (Act.value a)]] [] = some (AV.tup [AV.agg [.pv (.sl o2 s2 (List.map Post.pv b2)), .pv (.sl q2 t2 (List.map Rd.pv r2)), vi nx2], AV.c (vi 0)], []) :=
  cc_path (x := xf31) rfl [.br true, .shut (AV.tup [AV.agg [.pv (.sl o2 s2 (List.map Post.pv b2)), .pv (.sl q2 t2 (List.map Rd.pv r2)), vi nx2], AV.c (vi e)]), .br false]
    (c := [(Act.dod a == 0) = true, cs (ev X E0) 15 [AV.agg [.pv (.sl o s (List.map Post.pv b)), .pv (.sl q t (List.map Rd.pv r)), vi nx], AV.agg [vi (IntKind.wrap .i64 ((↑(List.length (List.map Post.pv b)) : Int) + 1)), vw (Post.known (Act.p a)), vw (Post.value (Act.p a)), .pv (.sl (Post.so (Act.p a)) 3 (List.map Leg.pv (Post.legs (Act.p a)))), vi (Post.rev (Act.p a)), vi (Post.kind (Act.p a)), .pv (.str (Post.memo (Act.p a)))]] = some (AV.tup [AV.agg [.pv (.sl o2 s2 (List.map Post.pv b2)), .pv (.sl q2 t2 (List.map Rd.pv r2)), vi nx2], AV.c (vi e)]), (e != 0) = false]) (by kernel_rfl)
    ⟨(beq_iff_eq.mpr g1), (h15 g1), (bne_f g2), trivial⟩
theorem df31_3 (b : List Post) (o : SO) (s : Nat) (r : List Rd) (q : SO) (t : Nat) (nx : Int) (a : Act) (b2 : List Post) (o2 : SO) (s2 : Nat) (r2 : List Rd) (q2 : SO) (t2 : Nat) (nx2 : Int) (n : Int) (e : Int) (h15 : Act.dod a = 0 →
  cs (ev X E0) 15
      [Dv b o s r q t nx,
        Post.av
          (let __src := Act.p a;
          Post.mk (IntKind.wrap .i64 ((↑(List.length (List.map Post.pv b)) : Int) + 1)) (Post.known __src) (Post.value __src) (Post.so __src) (Post.legs __src) (Post.rev __src) (Post.kind __src) (Post.memo __src))] =
    some (AV.tup [Dv b2 o2 s2 r2 q2 t2 nx2, AV.i e])) (h16 : Act.dod a = 1 → cs (ev X E0) 16 [Dv b o s r q t nx, AV.int IntKind.i32 (Act.known a), AV.int IntKind.i32 (Act.value a)] = some (AV.tup [Dv b2 o2 s2 r2 q2 t2 nx2, AV.i n, AV.i e])) (h17 : Act.dod a = 2 → cs (ev X E0) 17 [Dv b o s r q t nx, AV.i (Act.id a)] = some (AV.tup [Dv b2 o2 s2 r2 q2 t2 nx2, AV.i e])) (g1 : ¬Act.dod a = 0) (g2 : Act.dod a = 1) (g3 : ¬e = 0) :
    cc (ev X E0) 31 [AV.agg [.pv (.sl o s (List.map Post.pv b)), .pv (.sl q t (List.map Rd.pv r)), vi nx], AV.agg [vi (Act.dod a), vi (Act.id a), vi (Post.id (Act.p a)), vw (Post.known (Act.p a)), vw (Post.value (Act.p a)), .pv (.sl (Post.so (Act.p a)) 3 (List.map Leg.pv (Post.legs (Act.p a)))), vi (Post.rev (Act.p a)), vi (Post.kind (Act.p a)), .pv (.str (Post.memo (Act.p a))), vw (Act.known a), vw (Act.value a)]] [] = some (AV.tup [AV.agg [.pv (.sl o s (List.map Post.pv b)), .pv (.sl q t (List.map Rd.pv r)), vi nx], AV.c (vi e)], []) :=
  cc_path (x := xf31) rfl [.br false, .br true, .shut (AV.tup [AV.agg [.pv (.sl o2 s2 (List.map Post.pv b2)), .pv (.sl q2 t2 (List.map Rd.pv r2)), vi nx2], AV.c (vi n), AV.c (vi e)]), .br true]
    (c := [(Act.dod a == 0) = false, (Act.dod a == 1) = true, cs (ev X E0) 16 [AV.agg [.pv (.sl o s (List.map Post.pv b)), .pv (.sl q t (List.map Rd.pv r)), vi nx], AV.c (vw (Act.known a)), AV.c (vw (Act.value a))] = some (AV.tup [AV.agg [.pv (.sl o2 s2 (List.map Post.pv b2)), .pv (.sl q2 t2 (List.map Rd.pv r2)), vi nx2], AV.c (vi n), AV.c (vi e)]), (e != 0) = true]) (by kernel_rfl)
    ⟨(beq_eq_false_iff_ne.mpr g1), (beq_iff_eq.mpr g2), (h16 g2), (bne_iff_ne.mpr g3), trivial⟩
theorem df31_4 (b : List Post) (o : SO) (s : Nat) (r : List Rd) (q : SO) (t : Nat) (nx : Int) (a : Act) (b2 : List Post) (o2 : SO) (s2 : Nat) (r2 : List Rd) (q2 : SO) (t2 : Nat) (nx2 : Int) (n : Int) (e : Int) (h15 : Act.dod a = 0 →
  cs (ev X E0) 15
      [Dv b o s r q t nx,
        Post.av
          (let __src := Act.p a;
          Post.mk (IntKind.wrap .i64 ((↑(List.length (List.map Post.pv b)) : Int) + 1)) (Post.known __src) (Post.value __src) (Post.so __src) (Post.legs __src) (Post.rev __src) (Post.kind __src) (Post.memo __src))] =
    some (AV.tup [Dv b2 o2 s2 r2 q2 t2 nx2, AV.i e])) (h16 : Act.dod a = 1 → cs (ev X E0) 16 [Dv b o s r q t nx, AV.int IntKind.i32 (Act.known a), AV.int IntKind.i32 (Act.value a)] = some (AV.tup [Dv b2 o2 s2 r2 q2 t2 nx2, AV.i n, AV.i e])) (h17 : Act.dod a = 2 → cs (ev X E0) 17 [Dv b o s r q t nx, AV.i (Act.id a)] = some (AV.tup [Dv b2 o2 s2 r2 q2 t2 nx2, AV.i e])) (g1 : ¬Act.dod a = 0) (g2 : Act.dod a = 1) (g3 : e = 0) :
    cc (ev X E0) 31 [AV.agg [.pv (.sl o s (List.map Post.pv b)), .pv (.sl q t (List.map Rd.pv r)), vi nx], AV.agg [vi (Act.dod a), vi (Act.id a), vi (Post.id (Act.p a)), vw (Post.known (Act.p a)), vw (Post.value (Act.p a)), .pv (.sl (Post.so (Act.p a)) 3 (List.map Leg.pv (Post.legs (Act.p a)))), vi (Post.rev (Act.p a)), vi (Post.kind (Act.p a)), .pv (.str (Post.memo (Act.p a))), vw (Act.known a), vw (Act.value a)]] [] = some (AV.tup [AV.agg [.pv (.sl o2 s2 (List.map Post.pv b2)), .pv (.sl q2 t2 (List.map Rd.pv r2)), vi nx2], AV.c (vi 0)], []) :=
  cc_path (x := xf31) rfl [.br false, .br true, .shut (AV.tup [AV.agg [.pv (.sl o2 s2 (List.map Post.pv b2)), .pv (.sl q2 t2 (List.map Rd.pv r2)), vi nx2], AV.c (vi n), AV.c (vi e)]), .br false]
    (c := [(Act.dod a == 0) = false, (Act.dod a == 1) = true, cs (ev X E0) 16 [AV.agg [.pv (.sl o s (List.map Post.pv b)), .pv (.sl q t (List.map Rd.pv r)), vi nx], AV.c (vw (Act.known a)), AV.c (vw (Act.value a))] = some (AV.tup [AV.agg [.pv (.sl o2 s2 (List.map Post.pv b2)), .pv (.sl q2 t2 (List.map Rd.pv r2)), vi nx2], AV.c (vi n), AV.c (vi e)]), (e != 0) = false]) (by kernel_rfl)
    ⟨(beq_eq_false_iff_ne.mpr g1), (beq_iff_eq.mpr g2), (h16 g2), (bne_f g3), trivial⟩
theorem df31_5 (b : List Post) (o : SO) (s : Nat) (r : List Rd) (q : SO) (t : Nat) (nx : Int) (a : Act) (b2 : List Post) (o2 : SO) (s2 : Nat) (r2 : List Rd) (q2 : SO) (t2 : Nat) (nx2 : Int) (n : Int) (e : Int) (h15 : Act.dod a = 0 →
  cs (ev X E0) 15
      [Dv b o s r q t nx,
        Post.av
          (let __src := Act.p a;
          Post.mk (IntKind.wrap .i64 ((↑(List.length (List.map Post.pv b)) : Int) + 1)) (Post.known __src) (Post.value __src) (Post.so __src) (Post.legs __src) (Post.rev __src) (Post.kind __src) (Post.memo __src))] =
    some (AV.tup [Dv b2 o2 s2 r2 q2 t2 nx2, AV.i e])) (h16 : Act.dod a = 1 → cs (ev X E0) 16 [Dv b o s r q t nx, AV.int IntKind.i32 (Act.known a), AV.int IntKind.i32 (Act.value a)] = some (AV.tup [Dv b2 o2 s2 r2 q2 t2 nx2, AV.i n, AV.i e])) (h17 : Act.dod a = 2 → cs (ev X E0) 17 [Dv b o s r q t nx, AV.i (Act.id a)] = some (AV.tup [Dv b2 o2 s2 r2 q2 t2 nx2, AV.i e])) (g1 : ¬Act.dod a = 0) (g2 : ¬Act.dod a = 1) (g3 : Act.dod a = 2) (g4 : ¬e = 0) :
    cc (ev X E0) 31 [AV.agg [.pv (.sl o s (List.map Post.pv b)), .pv (.sl q t (List.map Rd.pv r)), vi nx], AV.agg [vi (Act.dod a), vi (Act.id a), vi (Post.id (Act.p a)), vw (Post.known (Act.p a)), vw (Post.value (Act.p a)), .pv (.sl (Post.so (Act.p a)) 3 (List.map Leg.pv (Post.legs (Act.p a)))), vi (Post.rev (Act.p a)), vi (Post.kind (Act.p a)), .pv (.str (Post.memo (Act.p a))), vw (Act.known a), vw (Act.value a)]] [] = some (AV.tup [AV.agg [.pv (.sl o s (List.map Post.pv b)), .pv (.sl q t (List.map Rd.pv r)), vi nx], AV.c (vi e)], []) :=
  cc_path (x := xf31) rfl [.br false, .br false, .br true, .shut (AV.tup [AV.agg [.pv (.sl o2 s2 (List.map Post.pv b2)), .pv (.sl q2 t2 (List.map Rd.pv r2)), vi nx2], AV.c (vi e)]), .br true]
    (c := [(Act.dod a == 0) = false, (Act.dod a == 1) = false, (Act.dod a == 2) = true, cs (ev X E0) 17 [AV.agg [.pv (.sl o s (List.map Post.pv b)), .pv (.sl q t (List.map Rd.pv r)), vi nx], AV.c (vi (Act.id a))] = some (AV.tup [AV.agg [.pv (.sl o2 s2 (List.map Post.pv b2)), .pv (.sl q2 t2 (List.map Rd.pv r2)), vi nx2], AV.c (vi e)]), (e != 0) = true]) (by kernel_rfl)
    ⟨(beq_eq_false_iff_ne.mpr g1), (beq_eq_false_iff_ne.mpr g2), (beq_iff_eq.mpr g3), (h17 g3), (bne_iff_ne.mpr g4), trivial⟩
theorem df31_6 (b : List Post) (o : SO) (s : Nat) (r : List Rd) (q : SO) (t : Nat) (nx : Int) (a : Act) (b2 : List Post) (o2 : SO) (s2 : Nat) (r2 : List Rd) (q2 : SO) (t2 : Nat) (nx2 : Int) (n : Int) (e : Int) (h15 : Act.dod a = 0 →
  cs (ev X E0) 15
      [Dv b o s r q t nx,
        Post.av
          (let __src := Act.p a;
          Post.mk (IntKind.wrap .i64 ((↑(List.length (List.map Post.pv b)) : Int) + 1)) (Post.known __src) (Post.value __src) (Post.so __src) (Post.legs __src) (Post.rev __src) (Post.kind __src) (Post.memo __src))] =
    some (AV.tup [Dv b2 o2 s2 r2 q2 t2 nx2, AV.i e])) (h16 : Act.dod a = 1 → cs (ev X E0) 16 [Dv b o s r q t nx, AV.int IntKind.i32 (Act.known a), AV.int IntKind.i32 (Act.value a)] = some (AV.tup [Dv b2 o2 s2 r2 q2 t2 nx2, AV.i n, AV.i e])) (h17 : Act.dod a = 2 → cs (ev X E0) 17 [Dv b o s r q t nx, AV.i (Act.id a)] = some (AV.tup [Dv b2 o2 s2 r2 q2 t2 nx2, AV.i e])) (g1 : ¬Act.dod a = 0) (g2 : ¬Act.dod a = 1) (g3 : Act.dod a = 2) (g4 : e = 0) :
    cc (ev X E0) 31 [AV.agg [.pv (.sl o s (List.map Post.pv b)), .pv (.sl q t (List.map Rd.pv r)), vi nx], AV.agg [vi (Act.dod a), vi (Act.id a), vi (Post.id (Act.p a)), vw (Post.known (Act.p a)), vw (Post.value (Act.p a)), .pv (.sl (Post.so (Act.p a)) 3 (List.map Leg.pv (Post.legs (Act.p a)))), vi (Post.rev (Act.p a)), vi (Post.kind (Act.p a)), .pv (.str (Post.memo (Act.p a))), vw (Act.known a), vw (Act.value a)]] [] = some (AV.tup [AV.agg [.pv (.sl o2 s2 (List.map Post.pv b2)), .pv (.sl q2 t2 (List.map Rd.pv r2)), vi nx2], AV.c (vi 0)], []) :=
  cc_path (x := xf31) rfl [.br false, .br false, .br true, .shut (AV.tup [AV.agg [.pv (.sl o2 s2 (List.map Post.pv b2)), .pv (.sl q2 t2 (List.map Rd.pv r2)), vi nx2], AV.c (vi e)]), .br false]
    (c := [(Act.dod a == 0) = false, (Act.dod a == 1) = false, (Act.dod a == 2) = true, cs (ev X E0) 17 [AV.agg [.pv (.sl o s (List.map Post.pv b)), .pv (.sl q t (List.map Rd.pv r)), vi nx], AV.c (vi (Act.id a))] = some (AV.tup [AV.agg [.pv (.sl o2 s2 (List.map Post.pv b2)), .pv (.sl q2 t2 (List.map Rd.pv r2)), vi nx2], AV.c (vi e)]), (e != 0) = false]) (by kernel_rfl)
    ⟨(beq_eq_false_iff_ne.mpr g1), (beq_eq_false_iff_ne.mpr g2), (beq_iff_eq.mpr g3), (h17 g3), (bne_f g4), trivial⟩
theorem df31_7 (b : List Post) (o : SO) (s : Nat) (r : List Rd) (q : SO) (t : Nat) (nx : Int) (a : Act) (b2 : List Post) (o2 : SO) (s2 : Nat) (r2 : List Rd) (q2 : SO) (t2 : Nat) (nx2 : Int) (n : Int) (e : Int) (h15 : Act.dod a = 0 →
  cs (ev X E0) 15
      [Dv b o s r q t nx,
        Post.av
          (let __src := Act.p a;
          Post.mk (IntKind.wrap .i64 ((↑(List.length (List.map Post.pv b)) : Int) + 1)) (Post.known __src) (Post.value __src) (Post.so __src) (Post.legs __src) (Post.rev __src) (Post.kind __src) (Post.memo __src))] =
    some (AV.tup [Dv b2 o2 s2 r2 q2 t2 nx2, AV.i e])) (h16 : Act.dod a = 1 → cs (ev X E0) 16 [Dv b o s r q t nx, AV.int IntKind.i32 (Act.known a), AV.int IntKind.i32 (Act.value a)] = some (AV.tup [Dv b2 o2 s2 r2 q2 t2 nx2, AV.i n, AV.i e])) (h17 : Act.dod a = 2 → cs (ev X E0) 17 [Dv b o s r q t nx, AV.i (Act.id a)] = some (AV.tup [Dv b2 o2 s2 r2 q2 t2 nx2, AV.i e])) (g1 : ¬Act.dod a = 0) (g2 : ¬Act.dod a = 1) (g3 : ¬Act.dod a = 2) :
    cc (ev X E0) 31 [AV.agg [.pv (.sl o s (List.map Post.pv b)), .pv (.sl q t (List.map Rd.pv r)), vi nx], AV.agg [vi (Act.dod a), vi (Act.id a), vi (Post.id (Act.p a)), vw (Post.known (Act.p a)), vw (Post.value (Act.p a)), .pv (.sl (Post.so (Act.p a)) 3 (List.map Leg.pv (Post.legs (Act.p a)))), vi (Post.rev (Act.p a)), vi (Post.kind (Act.p a)), .pv (.str (Post.memo (Act.p a))), vw (Act.known a), vw (Act.value a)]] [] = some (AV.tup [AV.agg [.pv (.sl o s (List.map Post.pv b)), .pv (.sl q t (List.map Rd.pv r)), vi nx], AV.c (vi 0)], []) :=
  cc_path (x := xf31) rfl [.br false, .br false, .br false, .br false]
    (c := [(Act.dod a == 0) = false, (Act.dod a == 1) = false, (Act.dod a == 2) = false, false = false]) (by kernel_rfl)
    ⟨(beq_eq_false_iff_ne.mpr g1), (beq_eq_false_iff_ne.mpr g2), (beq_eq_false_iff_ne.mpr g3), rfl, trivial⟩
theorem rd_from {many next : Int} : ∀ {l : List Rd} {x y : Rd}, rdFrom many next y l = true → x.id ≤ y.id → x.sees ≤ y.sees → rdFrom many next x l = true
  | [], _, _, _, _, _ => rfl
  | r :: l, x, y, h, h1, h2 => by
    simp only [rdFrom, rOk, Bool.and_eq_true, decide_eq_true_eq] at h ⊢
    obtain ⟨⟨⟨k1, k2, k3, k4⟩, k5⟩, k6⟩ := h
    exact ⟨⟨⟨by omega, k2, by omega, k4⟩, k5⟩, k6⟩
theorem rd_more {many next many' next' : Int} (h1 : many ≤ many') (h2 : next ≤ next') : ∀ {l : List Rd} {x : Rd}, rdFrom many next x l = true → rdFrom many' next' x l = true
  | [], _, _ => rfl
  | r :: l, x, h => by
    simp only [rdFrom, rOk, Bool.and_eq_true, decide_eq_true_eq] at h ⊢
    obtain ⟨⟨⟨k1, k2, k3, k4⟩, k5⟩, k6⟩ := h
    exact ⟨⟨⟨k1, by omega, k3, by omega⟩, k5⟩, rd_more h1 h2 k6⟩
theorem rd_snoc {many next : Int} {z : Rd} : ∀ {l : List Rd} {x : Rd}, rdFrom many next x l = true → x.id < z.id → x.sees ≤ z.sees → (∀ y ∈ l, y.id < z.id ∧ y.sees ≤ z.sees) → z.id < next → z.sees ≤ many → datOk z.known = true → datOk z.value = true → rdFrom many next x (l ++ [z]) = true
  | [], x, _, h1, h2, _, h3, h4, h5, h6 => by
    simp only [List.nil_append, rdFrom, rOk, Bool.and_eq_true, decide_eq_true_eq]
    exact ⟨⟨⟨h1, h3, h2, h4⟩, h5, h6⟩, trivial⟩
  | r :: l, x, h, h1, h2, hl, h3, h4, h5, h6 => by
    simp only [List.cons_append, rdFrom, Bool.and_eq_true] at h ⊢
    have := hl r (by simp)
    exact ⟨h.1, rd_snoc h.2 this.1 this.2 (fun y hy => hl y (by simp [hy])) h3 h4 h5 h6⟩
theorem rd_erase {many next : Int} : ∀ {l : List Rd} {x : Rd} {i : Nat}, rdFrom many next x l = true → rdFrom many next x (l.eraseIdx i) = true
  | [], _, _, _ => rfl
  | r :: l, x, 0, h => by
    simp only [rdFrom, rOk, Bool.and_eq_true, decide_eq_true_eq] at h
    obtain ⟨⟨⟨k1, k2, k3, k4⟩, k5⟩, k6⟩ := h
    exact rd_from k6 (by omega) k3
  | r :: l, x, i + 1, h => by
    simp only [List.eraseIdx_cons_succ, rdFrom, Bool.and_eq_true] at h ⊢
    exact ⟨h.1, rd_erase h.2⟩
theorem rd_above {many next : Int} : ∀ {l : List Rd} {x : Rd}, rdFrom many next x l = true → ∀ z ∈ l, x.id < z.id ∧ x.sees ≤ z.sees
  | [], _, _, z, hz => by simp at hz
  | r :: l, x, h, z, hz => by
    simp only [rdFrom, rOk, Bool.and_eq_true, decide_eq_true_eq] at h
    obtain ⟨⟨⟨k1, k2, k3, k4⟩, k5⟩, k6⟩ := h
    rcases List.mem_cons.1 hz with rfl | hz
    · exact ⟨k1, k3⟩
    · have := rd_above k6 z hz
      omega
theorem rd_place {many next : Int} : ∀ {l : List Rd} {x z : Rd}, rdFrom many next x l = true → z ∈ l → l[placeN z.id l]? = some z
  | [], _, _, _, hz => by simp at hz
  | r :: l, x, z, h, hz => by
    simp only [rdFrom, Bool.and_eq_true] at h
    by_cases c : r.id = z.id
    · rcases List.mem_cons.1 hz with rfl | hz
      · simp [placeN]
      · have := rd_above h.2 z hz; omega
    · rcases List.mem_cons.1 hz with rfl | hz
      · exact absurd rfl c
      · rw [placeN, if_neg c, List.getElem?_cons_succ]; exact rd_place h.2 hz
theorem there_iff {id : Int} {l : List Rd} : there id l = true ↔ ∃ z ∈ l, z.id = id := by simp [there]
structure Gd (d : Dk) (n : Nat) : Prop extends Dk.Wf d where
  desk : deskB d = true
  shut : Shut d.b
  nice : ∀ p ∈ d.b, Nice p
  bl : d.b.length ≤ n
  nl : d.nx ≤ n + 1
theorem Gd.ok {d : Dk} {n : Nat} (h : Gd d n) (hn : n ≤ 1000) : d.Ok := ⟨h.toWf, by have := h.bl; omega, by have := (desk_right h.desk).2.1; omega, h.nice⟩
theorem Gd.more {d : Dk} {n m : Nat} (h : Gd d n) (hn : n ≤ m) : Gd d m := ⟨h.toWf, h.desk, h.shut, h.nice, by have := h.bl; omega, by have := h.nl; omega⟩
inductive St1 (d d' : Dk) : Prop
  | same (h : d' = d) : St1 d d'
  | wrote (p : Post) (hb : d'.b = d.b ++ [p]) (hr : d'.r = d.r) (hx : d'.nx = d.nx) : St1 d d'
  | opened (k v : Int) (hb : d'.b = d.b) (hr : d'.r = d.r ++ [⟨d.nx, d.b.length, k, v⟩]) (hx : d'.nx = d.nx + 1) : St1 d d'
  | closed (id : Int) (z : Rd) (ht : d.r[placeN id d.r]? = some z) (hz : z.id = id) (hb : d'.b = d.b) (hr : d'.r = d.r.eraseIdx (placeN id d.r)) (hx : d'.nx = d.nx) : St1 d d'
theorem gd_wrote {d d' : Dk} {n : Nat} (h : Gd d n) {p : Post} (hp : Nice p) (w : d'.Wf) (he : wrE d p = 0) (hb : d'.b = (d.b ++ [p]).map sh) (hr : d'.r = d.r) (hx : d'.nx = d.nx) : Gd d' (n + 1) ∧ d'.b = d.b ++ [sh p] := by
  obtain ⟨r1, r2, r3, r4, r5⟩ := desk_right h.desk
  have hb' : d'.b = d.b ++ [sh p] := by rw [hb, List.map_append, shut_sh h.shut]; rfl
  have hf : fullE d.b p = 0 := by
    unfold wrE at he
    rw [if_pos h.desk] at he
    unfold addE at he
    rwa [if_pos r1] at he
  refine ⟨⟨w, ?_, ?_, ?_, ?_, ?_⟩, hb'⟩
  · unfold deskB
    rw [hb', hr, hx, rightB_snoc, r1, fullE_sh, hf, decide_eq_true ⟨r2, r3, r4⟩, rd_more (many := d.b.length) (next := d.nx) (by simp; omega) (Int.le_refl _) r5]
    rfl
  · rw [hb]; exact sh_shut _
  · intro q hq
    rw [hb'] at hq
    rcases List.mem_append.1 hq with hq | hq
    · exact h.nice q hq
    · rw [List.mem_singleton] at hq; subst hq; exact sh_nice hp
  · rw [hb', List.length_append, List.length_singleton]; have := h.bl; omega
  · rw [hx]; have := h.nl; omega
theorem op_inv {d : Dk} {k v : Int} (h : opE d k v = 0) : deskB d = true ∧ datOk k = true ∧ datOk v = true ∧ d.r.length ≠ 16 ∧ d.nx ≠ 1000000 := by
  unfold opE at h
  by_cases c1 : deskB d = true
  · rw [if_pos c1] at h
    by_cases c2 : (datOk k && datOk v) = true
    · rw [if_pos c2] at h
      by_cases c3 : d.r.length = 16
      · rw [if_pos c3] at h; cases h
      · rw [if_neg c3] at h
        by_cases c4 : d.nx = 1000000
        · rw [if_pos c4] at h; cases h
        · simp only [Bool.and_eq_true] at c2
          exact ⟨c1, c2.1, c2.2, c3, c4⟩
    · rw [if_neg c2] at h; cases h
  · rw [if_neg c1] at h; cases h
theorem gd_opened {d d' : Dk} {n : Nat} (h : Gd d n) {k v : Int} (w : d'.Wf) (he : opE d k v = 0) (hb : d'.b = d.b.map sh) (hr : d'.r = d.r ++ [⟨d.nx, d.b.length, k, v⟩]) (hx : d'.nx = d.nx + 1) : Gd d' (n + 1) ∧ d'.b = d.b := by
  obtain ⟨r1, r2, r3, r4, r5⟩ := desk_right h.desk
  obtain ⟨_, k1, k2, k3, k4⟩ := op_inv he
  have hb' : d'.b = d.b := by rw [hb, shut_sh h.shut]
  refine ⟨⟨w, ?_, ?_, ?_, ?_, ?_⟩, hb'⟩
  · unfold deskB
    rw [hb', hr, hx, r1, decide_eq_true ⟨by rw [List.length_append, List.length_singleton]; omega, by omega, by omega⟩]
    rw [rd_snoc (rd_more (Int.le_refl _) (by omega) r5) (by show (0 : Int) < d.nx; omega) (by show (0 : Int) ≤ d.b.length; omega) (fun y hy => by
      obtain ⟨s1, s2, s3, _⟩ := rd_sees r5 (by decide) y hy
      exact ⟨s3, s2⟩) (by show d.nx < d.nx + 1; omega) (Int.le_refl _) k1 k2]
    rfl
  · rw [hb']; exact h.shut
  · rw [hb']; exact h.nice
  · rw [hb']; have := h.bl; omega
  · rw [hx]; have := h.nl; omega
theorem gd_closed {d d' : Dk} {n : Nat} (h : Gd d n) {i : Nat} (w : d'.Wf) (hb : d'.b = d.b.map sh) (hr : d'.r = d.r.eraseIdx i) (hx : d'.nx = d.nx) : Gd d' (n + 1) ∧ d'.b = d.b := by
  obtain ⟨r1, r2, r3, r4, r5⟩ := desk_right h.desk
  have hb' : d'.b = d.b := by rw [hb, shut_sh h.shut]
  have hlen : (d.r.eraseIdx i).length ≤ d.r.length := List.length_eraseIdx_le ..
  refine ⟨⟨w, ?_, ?_, ?_, ?_, ?_⟩, hb'⟩
  · unfold deskB
    rw [hb', hr, hx, r1, decide_eq_true ⟨by omega, r3, r4⟩, rd_erase r5]
    rfl
  · rw [hb']; exact h.shut
  · rw [hb']; exact h.nice
  · rw [hb']; have := h.bl; omega
  · rw [hx]; have := h.nl; omega
theorem sDo {d : Dk} {n : Nat} (h : Gd d n) (hn : n ≤ 400) {a : Act} (hp : Nice a.p) : ∃ (d' : Dk) (e : Int), Gd d' (n + 1) ∧ cs (ev X E0) 31 [d.av, a.av] = some (.tup [d'.av, .i e]) ∧ St1 d d' ∧ (d'.r.length ≤ d.r.length ∨ a.dod = 1) ∧ (∀ z ∈ d.r, (a.dod = 2 ∧ a.id = z.id) ∨ z ∈ d'.r) ∧ (a.dod = 0 → d'.r = d.r ∧ d'.nx = d.nx ∧ d.b = d'.b.take d.b.length) := by
  have ok := h.ok (by omega)
  have hg := h.more (m := n + 1) (by omega)
  have hnum : Nice { a.p with id := IntKind.wrap .i64 ((↑(List.length (List.map Post.pv d.b)) : Int) + 1) } := ⟨hp.memo, hp.legs, hp.so⟩
  have keep : ∀ e : Int, cs (ev X E0) 31 [d.av, a.av] = some (.tup [d.av, .i e]) → ∃ (d' : Dk) (e : Int), Gd d' (n + 1) ∧ cs (ev X E0) 31 [d.av, a.av] = some (.tup [d'.av, .i e]) ∧ St1 d d' ∧ (d'.r.length ≤ d.r.length ∨ a.dod = 1) ∧ (∀ z ∈ d.r, (a.dod = 2 ∧ a.id = z.id) ∨ z ∈ d'.r) ∧ (a.dod = 0 → d'.r = d.r ∧ d'.nx = d.nx ∧ d.b = d'.b.take d.b.length) := fun e he =>
    ⟨d, e, hg, he, .same rfl, .inl (Nat.le_refl _), (fun z hz => .inr hz), (fun _ => ⟨rfl, rfl, by rw [List.take_length]⟩)⟩
  by_cases c0 : a.dod = 0
  · obtain ⟨d', w, h15, p1, p2⟩ := sWrite ok hnum
    have no1 : a.dod = 1 → cs (ev X E0) 16 [d.av, AV.int .i32 a.known, AV.int .i32 a.value] = some (.tup [d'.av, .i 0, .i (wrE d { a.p with id := IntKind.wrap .i64 ((↑(List.length (List.map Post.pv d.b)) : Int) + 1) })]) := fun e => by omega
    have no2 : a.dod = 2 → cs (ev X E0) 17 [d.av, AV.i a.id] = some (.tup [d'.av, .i (wrE d { a.p with id := IntKind.wrap .i64 ((↑(List.length (List.map Post.pv d.b)) : Int) + 1) })]) := fun e => by omega
    by_cases ce : wrE d { a.p with id := IntKind.wrap .i64 ((↑(List.length (List.map Post.pv d.b)) : Int) + 1) } = 0
    · obtain ⟨q1, q2, q3⟩ := p1 ce
      obtain ⟨g, hb⟩ := gd_wrote h hnum w ce q1 q2 q3
      refine ⟨d', 0, g, cs_of (df31_2 _ _ _ _ _ _ _ a _ _ _ _ _ _ _ 0 _ (fun _ => h15) no1 no2 c0 ce), .wrote _ hb q2 q3, .inl (by rw [q2]; exact Nat.le_refl _), (fun z hz => .inr (by rw [q2]; exact hz)), (fun _ => ⟨q2, q3, by rw [hb, List.take_append_of_le_length (Nat.le_refl _), List.take_length]⟩)⟩
    · exact keep _ (cs_of (df31_1 _ _ _ _ _ _ _ a _ _ _ _ _ _ _ 0 _ (fun _ => h15) no1 no2 c0 ce))
  by_cases c1 : a.dod = 1
  · obtain ⟨d', m, w, h16, p1, p2⟩ := sOpen ok a.known a.value
    have no0 : a.dod = 0 → cs (ev X E0) 15 [d.av, Post.av { a.p with id := IntKind.wrap .i64 ((↑(List.length (List.map Post.pv d.b)) : Int) + 1) }] = some (.tup [d'.av, .i (opE d a.known a.value)]) := fun e => by omega
    have no2 : a.dod = 2 → cs (ev X E0) 17 [d.av, AV.i a.id] = some (.tup [d'.av, .i (opE d a.known a.value)]) := fun e => by omega
    by_cases ce : opE d a.known a.value = 0
    · obtain ⟨q1, q2, q3, q4⟩ := p1 ce
      obtain ⟨g, hb⟩ := gd_opened h w ce q1 q2 q3
      refine ⟨d', 0, g, cs_of (df31_4 _ _ _ _ _ _ _ a _ _ _ _ _ _ _ _ _ no0 (fun _ => h16) no2 c0 c1 ce), .opened _ _ hb q2 q3, .inr c1, (fun z hz => .inr (by rw [q2]; exact List.mem_append_left _ hz)), (fun e => absurd e c0)⟩
    · exact keep _ (cs_of (df31_3 _ _ _ _ _ _ _ a _ _ _ _ _ _ _ _ _ no0 (fun _ => h16) no2 c0 c1 ce))
  by_cases c2 : a.dod = 2
  · obtain ⟨d', w, h17, p1, p2⟩ := sClose ok a.id
    have no0 : a.dod = 0 → cs (ev X E0) 15 [d.av, Post.av { a.p with id := IntKind.wrap .i64 ((↑(List.length (List.map Post.pv d.b)) : Int) + 1) }] = some (.tup [d'.av, .i (fdE d a.id)]) := fun e => by omega
    have no1 : a.dod = 1 → cs (ev X E0) 16 [d.av, AV.int .i32 a.known, AV.int .i32 a.value] = some (.tup [d'.av, .i 0, .i (fdE d a.id)]) := fun e => by omega
    by_cases ce : fdE d a.id = 0
    · obtain ⟨q1, q2, q3⟩ := p1 ce
      rw [← List.eraseIdx_eq_take_drop_succ] at q2
      obtain ⟨g, hb⟩ := gd_closed h w q1 q2 q3
      obtain ⟨k1, k2⟩ := fd_inv ce
      obtain ⟨z, hz, hzi⟩ := place_lt k2
      refine ⟨d', 0, g, cs_of (df31_6 _ _ _ _ _ _ _ a _ _ _ _ _ _ _ 0 _ no0 no1 (fun _ => h17) c0 c1 c2 ce), .closed _ z hz hzi hb q2 q3, .inl (by rw [q2]; exact List.length_eraseIdx_le ..), (fun y hy => ?_), (fun e => absurd e c0)⟩
      by_cases cy : a.id = y.id
      · exact .inl ⟨c2, cy⟩
      · refine .inr ?_
        rw [q2, List.mem_eraseIdx_iff_getElem?]
        obtain ⟨j, hj⟩ := List.mem_iff_getElem?.1 hy
        refine ⟨j, fun e => ?_, hj⟩
        rw [e, hz] at hj
        cases hj
        exact cy hzi.symm
    · exact keep _ (cs_of (df31_5 _ _ _ _ _ _ _ a _ _ _ _ _ _ _ 0 _ no0 no1 (fun _ => h17) c0 c1 c2 ce))
  · have no0 : a.dod = 0 → cs (ev X E0) 15 [d.av, Post.av { a.p with id := IntKind.wrap .i64 ((↑(List.length (List.map Post.pv d.b)) : Int) + 1) }] = some (.tup [d.av, .i 0]) := fun e => by omega
    have no1 : a.dod = 1 → cs (ev X E0) 16 [d.av, AV.int .i32 a.known, AV.int .i32 a.value] = some (.tup [d.av, .i 0, .i 0]) := fun e => by omega
    have no2 : a.dod = 2 → cs (ev X E0) 17 [d.av, AV.i a.id] = some (.tup [d.av, .i 0]) := fun e => by omega
    exact keep _ (cs_of (df31_7 _ _ _ _ _ _ _ a _ _ _ _ _ _ _ 0 0 no0 no1 no2 c0 c1 c2))
end Go.Sx.Tryd
