/- What is wrong with a posting behind others, of the document; whether a book may be. -/
import Derived.Test.YtplknajjcllmkaaDoorN2
import Derived.Test.YtplknajjcllmkaaDoorN1b
import Derived.Test.YtplknajjcllmkaaDoorN1c
namespace Go.Sx.Tryd
open Go Go.Sx
abbrev S18 (l : List Post) (o : SO) (s : Nat) (i : Int) : St := St.mk (tmOf 22 [(1, AV.c (CV.ptr 0 0)), (3, AV.c (CV.pv (PV.int .i64 i)))]) [Box.cells [CV.pv (PV.sl o s (List.map Post.pv l))]]
theorem l18_1 (l : List Post) (o : SO) (s : Nat) (hs : SZ o s l) (hn : CV.some' (.pv (.sl o s (List.map Post.pv l))) = true) (i : Nat) (y : Post) (hy : l[i]? = some y) (e : Int) (h26 : cc (ev X E0) 24 [AV.sl SO.shut 7 (List.take i (List.map Post.pv l)), Post.av y] [] = some (AV.i e, [])) (g1 : (↑i : Int) < (↑(List.length (List.map Post.pv l)) : Int)) (g2 : (↑i : Int) ≤ (↑(List.length (List.map Post.pv l)) : Int)) (g3 : ¬e = 0) :
    lv (cv (ev X E0) xf22_l0) (rl [1, 1]) 1 (S18 l o s (↑i : Int)) = some (XExit.ret, St.mk (tmOf 22 [(2, AV.b false)]) [.cells [.pv (.sl o s (List.map Post.pv l))]]) :=
  lv_ret [.br true, .nn, .sz, .el (Post.pv y), .call (AV.c (vi e)) [], .br true]
    (c := rq [(1, decide ((↑i : Int) < (↑(List.length (List.map Post.pv l)) : Int)) = true), (1, SZ o s l), ty hn, (1, (0 : Int) ≤ (0 : Int)), (1, 0 ≤ (↑i : Int)), ty g2, (1, SZ o s l), (1, 0 ≤ (↑i : Int)), (1, (List.map Post.pv l)[i]? = some (Post.pv y)), ty h26, (1, (e != 0) = true)]) (by kernel_rfl)
    (aq ⟨(dT g1), hs, hn, (Int.le_refl _), (Int.natCast_nonneg _), g2, hs, (Int.natCast_nonneg _), (map_at hy), h26, (bne_iff_ne.mpr g3), trivial⟩)
theorem l18_2 (l : List Post) (o : SO) (s : Nat) (hs : SZ o s l) (hn : CV.some' (.pv (.sl o s (List.map Post.pv l))) = true) (i : Nat) (y : Post) (hy : l[i]? = some y) (e : Int) (h26 : cc (ev X E0) 24 [AV.sl SO.shut 7 (List.take i (List.map Post.pv l)), Post.av y] [] = some (AV.i e, [])) (g1 : (↑i : Int) < (↑(List.length (List.map Post.pv l)) : Int)) (g2 : (↑i : Int) ≤ (↑(List.length (List.map Post.pv l)) : Int)) (g3 : e = 0) :
    lv (cv (ev X E0) xf22_l0) (rl [1, 1]) 1 (S18 l o s (↑i : Int)) = lv (cv (ev X E0) xf22_l0) (rl [1, 1]) 1 (St.mk (tmOf 22 [(1, AV.c (.ptr 0 0)), (3, AV.c (vi (IntKind.wrap .i64 ((↑i : Int) + 1))))]) [.cells [.pv (.sl o s (List.map Post.pv l))]]) :=
  lv_next [.br true, .nn, .sz, .el (Post.pv y), .call (AV.c (vi e)) [], .br false]
    (c := rq [(1, decide ((↑i : Int) < (↑(List.length (List.map Post.pv l)) : Int)) = true), (1, SZ o s l), ty hn, (1, (0 : Int) ≤ (0 : Int)), (1, 0 ≤ (↑i : Int)), ty g2, (1, SZ o s l), (1, 0 ≤ (↑i : Int)), (1, (List.map Post.pv l)[i]? = some (Post.pv y)), ty h26, (1, (e != 0) = false)]) (by kernel_rfl)
    (aq ⟨(dT g1), hs, hn, (Int.le_refl _), (Int.natCast_nonneg _), g2, hs, (Int.natCast_nonneg _), (map_at hy), h26, (bne_f g3), trivial⟩)
theorem l18x_1 (l : List Post) (o : SO) (s i : Nat) (hi : ¬(↑i : Int) < (↑(List.length (List.map Post.pv l)) : Int)) :
    lv (cv (ev X E0) xf22_l0) (rl [1, 1]) 1 (S18 l o s (↑i : Int)) = some (XExit.exit 0, St.mk (tmOf 22 []) [.cells [.pv (.sl o s (List.map Post.pv l))]]) :=
  lv_exit [.br false]
    (c := [decide ((↑i : Int) < (↑(List.length (List.map Post.pv l)) : Int)) = false]) (by kernel_rfl)
    ⟨(dF hi), trivial⟩
abbrev S26 (l : List Post) (o : SO) (s : Nat) (p : Post) (i : Int) : St := St.mk (tmOf 82 [(0, AV.c (CV.pv (PV.sl o s (List.map Post.pv l)))), (3, AV.c (CV.ptr 0 0)), (5, AV.c (CV.pv (PV.int .i64 (↑(List.length (List.map Post.pv l)) : Int)))), (6, AV.c (CV.pv (PV.int .i64 i)))]) [Box.cells (Post.cs p)]
theorem l26_1 (l : List Post) (o : SO) (s : Nat) (hs : SZ o s l) (p : Post) (i : Nat) (y1 : Post) (g1 : (↑i : Int) < (↑(List.length (List.map Post.pv l)) : Int)) (g2 : l[i]? = some y1) (g3 : y1.rev = p.rev) :
    lv (cv (ev X E0) xf24_l0) (rl [0, 2, 1, 0]) 1 (S26 l o s p (↑i : Int)) = some (XExit.ret, St.mk (tmOf 82 [(4, AV.c (vi 23))]) [.cells (Post.cs p)]) :=
  lv_ret [.br true, .sz, .el (Post.pv y1), .br true]
    (c := [decide ((↑i : Int) < (↑(List.length (List.map Post.pv l)) : Int)) = true, SZ o s l, 0 ≤ (↑i : Int), (List.map Post.pv l)[i]? = some (Post.pv y1), (y1.rev == p.rev) = true]) (by kernel_rfl)
    ⟨(dT g1), hs, (Int.natCast_nonneg _), (map_at g2), (beq_iff_eq.mpr g3), trivial⟩
theorem l26_2 (l : List Post) (o : SO) (s : Nat) (hs : SZ o s l) (p : Post) (i : Nat) (y1 : Post) (g1 : (↑i : Int) < (↑(List.length (List.map Post.pv l)) : Int)) (g2 : l[i]? = some y1) (g3 : ¬y1.rev = p.rev) :
    lv (cv (ev X E0) xf24_l0) (rl [0, 2, 1, 0]) 1 (S26 l o s p (↑i : Int)) = lv (cv (ev X E0) xf24_l0) (rl [0, 2, 1, 0]) 1 (St.mk (tmOf 82 [(0, AV.c (.pv (.sl o s (List.map Post.pv l)))), (3, AV.c (.ptr 0 0)), (5, AV.c (vi (↑(List.length (List.map Post.pv l)) : Int))), (6, AV.c (vi (IntKind.wrap .i64 ((↑i : Int) + 1))))]) [.cells (Post.cs p)]) :=
  lv_next [.br true, .sz, .el (Post.pv y1), .br false]
    (c := [decide ((↑i : Int) < (↑(List.length (List.map Post.pv l)) : Int)) = true, SZ o s l, 0 ≤ (↑i : Int), (List.map Post.pv l)[i]? = some (Post.pv y1), (y1.rev == p.rev) = false]) (by kernel_rfl)
    ⟨(dT g1), hs, (Int.natCast_nonneg _), (map_at g2), (beq_eq_false_iff_ne.mpr g3), trivial⟩
theorem l26_3 (l : List Post) (o : SO) (s : Nat) (_hs : SZ o s l) (p : Post) (i : Nat) (g1 : ¬(↑i : Int) < (↑(List.length (List.map Post.pv l)) : Int)) :
    lv (cv (ev X E0) xf24_l0) (rl [0, 2, 1, 0]) 1 (S26 l o s p (↑i : Int)) = some (XExit.exit 0, St.mk (tmOf 82 [(0, AV.c (.pv (.sl o s (List.map Post.pv l)))), (3, AV.c (.ptr 0 0))]) [.cells (Post.cs p)]) :=
  lv_exit [.br false]
    (c := [decide ((↑i : Int) < (↑(List.length (List.map Post.pv l)) : Int)) = false]) (by kernel_rfl)
    ⟨(dF g1), trivial⟩
theorem a26 {l : List Post} {o : SO} {s : Nat} (hs : szOk 7 (CV.pv (PV.sl o s (List.map Post.pv l))) = true) (hl : l.length ≤ 1000) (p : Post) : lv (cv (ev X E0) xf24_l0) (rl [0, 2, 1, 0]) 1 (S26 l o s p 0) = some (if (l.any fun q => q.rev == p.rev) = true then (XExit.ret, St.mk (tmOf 82 [(4, AV.c (vi 23))]) [Box.cells (Post.cs p)]) else (XExit.exit 0, St.mk (tmOf 82 [(0, AV.c (CV.pv (PV.sl o s (List.map Post.pv l)))), (3, AV.c (CV.ptr 0 0))]) [Box.cells (Post.cs p)])) := by
  refine lv_scan (S26 l o s p) (l26_3 l o s hs p l.length (by simp)) (fun i y hat hlt hw => ?_) fun i y hat hlt hw => ?_
  · exact l26_1 l o s hs p i y (ltP hlt) hat (by simpa using hw)
  · have := l26_2 l o s hs p i y (ltP hlt) hat (by simpa using hw)
    rwa [wi64 (by omega) (by omega)] at this
abbrev ownA (q : Post) : AV := AV.agg [CV.pv (PV.int .i64 (Post.id q)), CV.pv (PV.int .i32 (Post.known q)), CV.pv (PV.int .i32 (Post.value q)), CV.own 0 3 (List.map Leg.pv (Post.legs q)), CV.pv (PV.int .i64 (Post.rev q)), CV.pv (PV.int .i64 (Post.kind q)), CV.pv (PV.str (Post.memo q))]
theorem s48 (p : Post) (id kn : Int) (hN : Nice p) : cc (ev X E0) 64 [Post.av p, AV.i id, AV.int .i32 kn] [] = some (.tup [if revE p id kn = 0 then ownA (rvp p id kn) else AV.agg Z7, AV.i (revE p id kn)], []) := by
  have h := s34 p hN.memo (by have := hN.legs; omega)
  have h2 : chk p = 0 → cc (ev X E0) 63 [Post.av (rvp p id kn)] [] = some (.i (chk (rvp p id kn)), []) := fun _ => s34 (rvp p id kn) hN.memo (by simp only [rvp, List.length_map]; have := hN.legs; omega)
  have hl := fun c : chk p = 0 => b48 (p := p) (id := id) (kn := kn) (fun e => by have := (chk_inv c).2.2.2.1; rw [e] at this; simp at this) (by have := (chk_inv c).2.2.2.2.1; omega) (chk_inv c).2.2.2.2.2.2.2.1
  by_cases c : chk p = 0
  · by_cases c1 : id ≤ p.id
    · have e : revE p id kn = 20 := by rw [revE, if_pos c, if_pos (Or.inl c1)]
      rw [e, if_neg (by decide)]
      exact f48_2 p id kn _ _ h hl h2 c c1
    · by_cases c2 : kn < p.known
      · have e : revE p id kn = 20 := by rw [revE, if_pos c, if_pos (Or.inr c2)]
        rw [e, if_neg (by decide)]
        exact f48_3 p id kn _ _ h hl h2 c c1 c2
      · have e : revE p id kn = chk (rvp p id kn) := by rw [revE, if_pos c, if_neg (by rintro (h | h) <;> omega)]
        by_cases c3 : chk (rvp p id kn) = 0
        · rw [e, if_pos c3, c3]
          exact f48_5 p id kn _ _ h hl h2 c c1 c2 c3
        · rw [e, if_neg c3]
          exact f48_4 p id kn _ _ h hl h2 c c1 c2 c3
  · have e : revE p id kn = chk p := by rw [revE, if_neg c]
    rw [e, if_neg c]
    exact f48_1 p id kn _ _ h hl h2 c
theorem f26n_1 (l : List Post) (o : SO) (s : Nat) (_hs : SZ o s l) (p : Post) (e : Int) (h34 : cc (ev X E0) 63 [Post.av p] [] = some (AV.i e, [])) (g1 : ¬e = 0) :
    cc (ev X E0) 24 [AV.c (.pv (.sl o s (List.map Post.pv l))), AV.agg (Post.cs p)] [] = some (AV.c (vi e), []) :=
  cc_path (x := xf24) rfl [.call (AV.c (vi e)) [], .br true, .call (AV.c (vi e)) []]
    (c := rq [ty h34, (1, (e != 0) = true), ty h34]) (by kernel_rfl)
    (aq ⟨h34, (bne_iff_ne.mpr g1), h34, trivial⟩)
theorem f26n_3 (l : List Post) (o : SO) (s : Nat) (_hs : SZ o s l) (p : Post) (e : Int) (h34 : cc (ev X E0) 63 [Post.av p] [] = some (AV.i e, [])) (g1 : e = 0) (g2 : ¬(↑(List.length (List.map Post.pv l)) : Int) ≥ 400) (g3 : ¬p.id = IntKind.wrap .i64 ((↑(List.length (List.map Post.pv l)) : Int) + 1)) :
    cc (ev X E0) 24 [AV.c (.pv (.sl o s (List.map Post.pv l))), AV.agg (Post.cs p)] [] = some (AV.c (vi 25), []) :=
  cc_path (x := xf24) rfl [.call (AV.c (vi e)) [], .br false, .br false, .br true]
    (c := rq [ty h34, (1, (e != 0) = false), (1, decide ((↑(List.length (List.map Post.pv l)) : Int) ≥ 400) = false), (1, (p.id != IntKind.wrap .i64 ((↑(List.length (List.map Post.pv l)) : Int) + 1)) = true)]) (by kernel_rfl)
    (aq ⟨h34, (bne_f g1), (dF g2), (bne_iff_ne.mpr g3), trivial⟩)
theorem f26n_4 (l : List Post) (o : SO) (s : Nat) (hs : SZ o s l) (p : Post) (e : Int) (h34 : cc (ev X E0) 63 [Post.av p] [] = some (AV.i e, [])) (y1 : Post) (g1 : e = 0) (g2 : ¬(↑(List.length (List.map Post.pv l)) : Int) ≥ 400) (g3 : p.id = IntKind.wrap .i64 ((↑(List.length (List.map Post.pv l)) : Int) + 1)) (g4 : (↑(List.length (List.map Post.pv l)) : Int) > 0) (g5 : 0 ≤ IntKind.wrap .i64 ((↑(List.length (List.map Post.pv l)) : Int) - 1)) (g6 : l[Int.toNat (IntKind.wrap .i64 ((↑(List.length (List.map Post.pv l)) : Int) - 1))]? = some y1) (g7 : p.known < y1.known) :
    cc (ev X E0) 24 [AV.c (.pv (.sl o s (List.map Post.pv l))), AV.agg (Post.cs p)] [] = some (AV.c (vi 20), []) :=
  cc_path (x := xf24) rfl ([.call (AV.c (vi e)) []] ++ bs 3 false ++ bs 6 true ++ [.sz, .el (Post.pv y1)] ++ bs 5 true)
    (c := rq [ty h34, (1, (e != 0) = false), (1, decide ((↑(List.length (List.map Post.pv l)) : Int) ≥ 400) = false), (1, (p.id != IntKind.wrap .i64 ((↑(List.length (List.map Post.pv l)) : Int) + 1)) = false), (6, decide ((↑(List.length (List.map Post.pv l)) : Int) > 0) = true), (1, SZ o s l), ty g5, (1, (List.map Post.pv l)[Int.toNat (IntKind.wrap .i64 ((↑(List.length (List.map Post.pv l)) : Int) - 1))]? = some (Post.pv y1)), (4, decide ((↑(List.length (List.map Post.pv l)) : Int) > 0) = true), (1, decide (p.known < y1.known) = true)]) (by kernel_rfl)
    (aq ⟨h34, (bne_f g1), (dF g2), (bne_f g3), (dT g4), hs, g5, (map_at g6), (dT g4), (dT g7), trivial⟩)
theorem f26n_5 (l : List Post) (o : SO) (s : Nat) (hs : SZ o s l) (p : Post) (e : Int) (h34 : cc (ev X E0) 63 [Post.av p] [] = some (AV.i e, [])) (y1 : Post) (g1 : e = 0) (g2 : ¬(↑(List.length (List.map Post.pv l)) : Int) ≥ 400) (g3 : p.id = IntKind.wrap .i64 ((↑(List.length (List.map Post.pv l)) : Int) + 1)) (g4 : (↑(List.length (List.map Post.pv l)) : Int) > 0) (g5 : 0 ≤ IntKind.wrap .i64 ((↑(List.length (List.map Post.pv l)) : Int) - 1)) (g6 : l[Int.toNat (IntKind.wrap .i64 ((↑(List.length (List.map Post.pv l)) : Int) - 1))]? = some y1) (g7 : ¬p.known < y1.known) (g8 : p.rev = 0) :
    cc (ev X E0) 24 [AV.c (.pv (.sl o s (List.map Post.pv l))), AV.agg (Post.cs p)] [] = some (AV.c (vi 0), []) :=
  cc_path (x := xf24) rfl ([.call (AV.c (vi e)) []] ++ bs 3 false ++ bs 6 true ++ [.sz, .el (Post.pv y1)] ++ bs 4 true ++ [.br false, .br true])
    (c := rq [ty h34, (1, (e != 0) = false), (1, decide ((↑(List.length (List.map Post.pv l)) : Int) ≥ 400) = false), (1, (p.id != IntKind.wrap .i64 ((↑(List.length (List.map Post.pv l)) : Int) + 1)) = false), (6, decide ((↑(List.length (List.map Post.pv l)) : Int) > 0) = true), (1, SZ o s l), ty g5, (1, (List.map Post.pv l)[Int.toNat (IntKind.wrap .i64 ((↑(List.length (List.map Post.pv l)) : Int) - 1))]? = some (Post.pv y1)), (4, decide ((↑(List.length (List.map Post.pv l)) : Int) > 0) = true), (1, decide (p.known < y1.known) = false), (1, (p.rev == 0) = true)]) (by kernel_rfl)
    (aq ⟨h34, (bne_f g1), (dF g2), (bne_f g3), (dT g4), hs, g5, (map_at g6), (dT g4), (dF g7), (beq_iff_eq.mpr g8), trivial⟩)
theorem f26n_6 (l : List Post) (o : SO) (s : Nat) (hs : SZ o s l) (p : Post) (e : Int) (h34 : cc (ev X E0) 63 [Post.av p] [] = some (AV.i e, [])) (y1 y2 : Post) (g1 : e = 0) (g2 : ¬(↑(List.length (List.map Post.pv l)) : Int) ≥ 400) (g3 : p.id = IntKind.wrap .i64 ((↑(List.length (List.map Post.pv l)) : Int) + 1)) (g4 : (↑(List.length (List.map Post.pv l)) : Int) > 0) (g5 : 0 ≤ IntKind.wrap .i64 ((↑(List.length (List.map Post.pv l)) : Int) - 1)) (g6 : l[Int.toNat (IntKind.wrap .i64 ((↑(List.length (List.map Post.pv l)) : Int) - 1))]? = some y1) (g7 : ¬p.known < y1.known) (g8 : ¬p.rev = 0) (g9 : 0 ≤ IntKind.wrap .i64 (p.rev - 1)) (g10 : l[Int.toNat (IntKind.wrap .i64 (p.rev - 1))]? = some y2) (g11 : y2.rev > 0) :
    cc (ev X E0) 24 [AV.c (.pv (.sl o s (List.map Post.pv l))), AV.agg (Post.cs p)] [] = some (AV.c (vi 27), []) :=
  cc_path (x := xf24) rfl ([.call (AV.c (vi e)) []] ++ bs 3 false ++ bs 6 true ++ [.sz, .el (Post.pv y1)] ++ bs 4 true ++ [.br false, .br false, .sz, .el (Post.pv y2), .br true])
    (c := rq [ty h34, (1, (e != 0) = false), (1, decide ((↑(List.length (List.map Post.pv l)) : Int) ≥ 400) = false), (1, (p.id != IntKind.wrap .i64 ((↑(List.length (List.map Post.pv l)) : Int) + 1)) = false), (6, decide ((↑(List.length (List.map Post.pv l)) : Int) > 0) = true), (1, SZ o s l), ty g5, (1, (List.map Post.pv l)[Int.toNat (IntKind.wrap .i64 ((↑(List.length (List.map Post.pv l)) : Int) - 1))]? = some (Post.pv y1)), (4, decide ((↑(List.length (List.map Post.pv l)) : Int) > 0) = true), (1, decide (p.known < y1.known) = false), (1, (p.rev == 0) = false), (1, SZ o s l), ty g9, (1, (List.map Post.pv l)[Int.toNat (IntKind.wrap .i64 (p.rev - 1))]? = some (Post.pv y2)), (1, decide (y2.rev > 0) = true)]) (by kernel_rfl)
    (aq ⟨h34, (bne_f g1), (dF g2), (bne_f g3), (dT g4), hs, g5, (map_at g6), (dT g4), (dF g7), (beq_eq_false_iff_ne.mpr g8), hs, g9, (map_at g10), (dT g11), trivial⟩)
theorem f26n_7 (l : List Post) (o : SO) (s : Nat) (_hs : SZ o s l) (p : Post) (e : Int) (h34 : cc (ev X E0) 63 [Post.av p] [] = some (AV.i e, [])) (g1 : e = 0) (g2 : ¬(↑(List.length (List.map Post.pv l)) : Int) ≥ 400) (g3 : p.id = IntKind.wrap .i64 ((↑(List.length (List.map Post.pv l)) : Int) + 1)) (g4 : ¬(↑(List.length (List.map Post.pv l)) : Int) > 0) (g5 : p.rev = 0) :
    cc (ev X E0) 24 [AV.c (.pv (.sl o s (List.map Post.pv l))), AV.agg (Post.cs p)] [] = some (AV.c (vi 0), []) :=
  cc_path (x := xf24) rfl ([.call (AV.c (vi e)) []] ++ bs 14 false ++ [.br true])
    (c := rq [ty h34, (1, (e != 0) = false), (1, decide ((↑(List.length (List.map Post.pv l)) : Int) ≥ 400) = false), (1, (p.id != IntKind.wrap .i64 ((↑(List.length (List.map Post.pv l)) : Int) + 1)) = false), (10, decide ((↑(List.length (List.map Post.pv l)) : Int) > 0) = false), zf 1, (1, (p.rev == 0) = true)]) (by kernel_rfl)
    (aq ⟨h34, (bne_f g1), (dF g2), (bne_f g3), (dF g4), rfl, (beq_iff_eq.mpr g5), trivial⟩)
theorem f26b_5 (l : List Post) (o : SO) (s : Nat) (hs : SZ o s l) (p old : Post) (ho : l[Int.toNat (IntKind.wrap .i64 (p.rev - 1))]? = some old) (hlen : (↑(List.length (List.map Post.pv l)) : Int) > 0) (hr : ¬p.rev = 0) (h34 : cc (ev X E0) 63 [Post.av p] [] = some (AV.i 0, [])) (hl : lv (cv (ev X E0) xf24_l0) (rl [0, 2, 1, 0]) 1 (S26 l o s p 0) = some (XExit.ret, St.mk (tmOf 82 [(4, AV.c (vi 23))]) [.cells (Post.cs p)])) (y1 : Post) (g1 : ¬(↑(List.length (List.map Post.pv l)) : Int) ≥ 400) (g2 : p.id = IntKind.wrap .i64 ((↑(List.length (List.map Post.pv l)) : Int) + 1)) (g3 : 0 ≤ IntKind.wrap .i64 ((↑(List.length (List.map Post.pv l)) : Int) - 1)) (g4 : l[Int.toNat (IntKind.wrap .i64 ((↑(List.length (List.map Post.pv l)) : Int) - 1))]? = some y1) (g5 : ¬p.known < y1.known) (g6 : 0 ≤ IntKind.wrap .i64 (p.rev - 1)) (g7 : ¬old.rev > 0) :
    cc (ev X E0) 24 [AV.c (.pv (.sl o s (List.map Post.pv l))), AV.agg (Post.cs p)] [] = some (AV.c (vi 23), []) :=
  cc_path (x := xf24) rfl ([.call (AV.c (vi (0 : Int))) []] ++ bs 3 false ++ bs 6 true ++ [.sz, .el (Post.pv y1)] ++ bs 4 true ++ [.br false, .br false, .sz, .el (Post.pv old), .br false, .loop XExit.ret (St.mk (tmOf 82 [(4, AV.c (vi 23))]) [.cells (Post.cs p)])])
    (c := rq [ty h34, zf 1, (1, decide ((↑(List.length (List.map Post.pv l)) : Int) ≥ 400) = false), (1, (p.id != IntKind.wrap .i64 ((↑(List.length (List.map Post.pv l)) : Int) + 1)) = false), (6, decide ((↑(List.length (List.map Post.pv l)) : Int) > 0) = true), (1, SZ o s l), ty g3, (1, (List.map Post.pv l)[Int.toNat (IntKind.wrap .i64 ((↑(List.length (List.map Post.pv l)) : Int) - 1))]? = some (Post.pv y1)), (4, decide ((↑(List.length (List.map Post.pv l)) : Int) > 0) = true), (1, decide (p.known < y1.known) = false), (1, (p.rev == 0) = false), (1, SZ o s l), ty g6, (1, (List.map Post.pv l)[Int.toNat (IntKind.wrap .i64 (p.rev - 1))]? = some (Post.pv old)), (1, decide (old.rev > 0) = false), ty hl]) (by kernel_rfl)
    (aq ⟨h34, rfl, (dF g1), (bne_f g2), (dT hlen), hs, g3, (map_at g4), (dT hlen), (dF g5), (beq_eq_false_iff_ne.mpr hr), hs, g6, (map_at ho), (dF g7), hl, trivial⟩)
abbrev f26c_i (l : List Post) (o : SO) (s : Nat) (p old q : Post) (b : Bool) (y1 : Post) : List Go.Sx.It := [.call (AV.c (vi (0 : Int))) [], .br false, .br false, .br false, .br true, .br true, .br true, .br true, .br true, .br true, .sz, .el (Post.pv y1), .br true, .br true, .br true, .br true, .br false, .br false, .sz, .el (Post.pv old), .br false, .loop (XExit.exit 0) (St.mk (tmOf 82 [(0, AV.c (.pv (.sl o s (List.map Post.pv l)))), (3, AV.c (.ptr 0 0))]) [.cells (Post.cs p)]), .sz, .el (Post.pv old), .call (AV.tup [AV.agg [vi q.id, vw q.known, vw q.value, .own 0 3 (List.map Leg.pv q.legs), vi q.rev, vi q.kind, .pv (.str q.memo)], AV.c (vi 0)]) [], .br false, .br false, .br false, kb b, .br false, .br false]
abbrev f26c_hl (l : List Post) (o : SO) (s : Nat) (p : Post) : Prop := lv (cv (ev X E0) xf24_l0) (rl [0, 2, 1, 0]) 1 (S26 l o s p 0) = some (XExit.exit 0, St.mk (tmOf 82 [(0, AV.c (.pv (.sl o s (List.map Post.pv l)))), (3, AV.c (.ptr 0 0))]) [.cells (Post.cs p)])
abbrev f26c_h48 (p old q : Post) : Prop := cc (ev X E0) 64 [Post.av old, AV.i p.id, AV.int IntKind.i32 p.known] [] = some (AV.tup [AV.agg [vi q.id, vw q.known, vw q.value, .own 0 3 (List.map Leg.pv q.legs), vi q.rev, vi q.kind, .pv (.str q.memo)], AV.i 0], [])
theorem f26c_4 (l : List Post) (o : SO) (s : Nat) (hs : SZ o s l) (p old q : Post) (b : Bool) (ho : l[Int.toNat (IntKind.wrap .i64 (p.rev - 1))]? = some old) (hlen : (↑(List.length (List.map Post.pv l)) : Int) > 0) (hr : ¬p.rev = 0) (hrev : ¬old.rev > 0) (h34 : cc (ev X E0) 63 [Post.av p] [] = some (AV.i 0, [])) (hl : f26c_hl l o s p) (h48 : f26c_h48 p old q) (h44 : cc (ev X E0) 65 [AV.agg (Post.cs (sh q)), Post.av p] [] = some (AV.b b, [])) (y1 : Post) (g1 : ¬(↑(List.length (List.map Post.pv l)) : Int) ≥ 400) (g2 : p.id = IntKind.wrap .i64 ((↑(List.length (List.map Post.pv l)) : Int) + 1)) (g3 : 0 ≤ IntKind.wrap .i64 ((↑(List.length (List.map Post.pv l)) : Int) - 1)) (g4 : l[Int.toNat (IntKind.wrap .i64 ((↑(List.length (List.map Post.pv l)) : Int) - 1))]? = some y1) (g5 : ¬p.known < y1.known) (g6 : 0 ≤ IntKind.wrap .i64 (p.rev - 1)) (g7 : b = false) :
    cc (ev X E0) 24 [AV.c (.pv (.sl o s (List.map Post.pv l))), AV.agg (Post.cs p)] [] = some (AV.c (vi 3), []) :=
  cc_path (x := xf24) rfl (f26c_i l o s p old q b y1 ++ [.br true])
    (c := rq [ty h34, zf 1, (1, decide ((↑(List.length (List.map Post.pv l)) : Int) ≥ 400) = false), (1, (p.id != IntKind.wrap .i64 ((↑(List.length (List.map Post.pv l)) : Int) + 1)) = false), (6, decide ((↑(List.length (List.map Post.pv l)) : Int) > 0) = true), (1, SZ o s l), ty g3, (1, (List.map Post.pv l)[Int.toNat (IntKind.wrap .i64 ((↑(List.length (List.map Post.pv l)) : Int) - 1))]? = some (Post.pv y1)), (4, decide ((↑(List.length (List.map Post.pv l)) : Int) > 0) = true), (1, decide (p.known < y1.known) = false), (1, (p.rev == 0) = false), (1, SZ o s l), ty g6, (1, (List.map Post.pv l)[Int.toNat (IntKind.wrap .i64 (p.rev - 1))]? = some (Post.pv old)), (1, decide (old.rev > 0) = false), ty hl, (1, SZ o s l), ty g6, (1, (List.map Post.pv l)[Int.toNat (IntKind.wrap .i64 (p.rev - 1))]? = some (Post.pv old)), ty h48, zf 3, ty h44, zf 2, (1, (!b) = true)]) (by kernel_rfl)
    (aq ⟨h34, rfl, (dF g1), (bne_f g2), (dT hlen), hs, g3, (map_at g4), (dT hlen), (dF g5), (beq_eq_false_iff_ne.mpr hr), hs, g6, (map_at ho), (dF hrev), hl, hs, g6, (map_at ho), h48, rfl, h44, rfl, (not_t g7), trivial⟩)
theorem f26c_5 (l : List Post) (o : SO) (s : Nat) (hs : SZ o s l) (p old q : Post) (b : Bool) (ho : l[Int.toNat (IntKind.wrap .i64 (p.rev - 1))]? = some old) (hlen : (↑(List.length (List.map Post.pv l)) : Int) > 0) (hr : ¬p.rev = 0) (hrev : ¬old.rev > 0) (h34 : cc (ev X E0) 63 [Post.av p] [] = some (AV.i 0, [])) (hl : f26c_hl l o s p) (h48 : f26c_h48 p old q) (h44 : cc (ev X E0) 65 [AV.agg (Post.cs (sh q)), Post.av p] [] = some (AV.b b, [])) (y1 : Post) (g1 : ¬(↑(List.length (List.map Post.pv l)) : Int) ≥ 400) (g2 : p.id = IntKind.wrap .i64 ((↑(List.length (List.map Post.pv l)) : Int) + 1)) (g3 : 0 ≤ IntKind.wrap .i64 ((↑(List.length (List.map Post.pv l)) : Int) - 1)) (g4 : l[Int.toNat (IntKind.wrap .i64 ((↑(List.length (List.map Post.pv l)) : Int) - 1))]? = some y1) (g5 : ¬p.known < y1.known) (g6 : 0 ≤ IntKind.wrap .i64 (p.rev - 1)) (g7 : b = true) :
    cc (ev X E0) 24 [AV.c (.pv (.sl o s (List.map Post.pv l))), AV.agg (Post.cs p)] [] = some (AV.c (vi 0), []) :=
  cc_path (x := xf24) rfl (f26c_i l o s p old q b y1 ++ [.br false])
    (c := rq [ty h34, zf 1, (1, decide ((↑(List.length (List.map Post.pv l)) : Int) ≥ 400) = false), (1, (p.id != IntKind.wrap .i64 ((↑(List.length (List.map Post.pv l)) : Int) + 1)) = false), (6, decide ((↑(List.length (List.map Post.pv l)) : Int) > 0) = true), (1, SZ o s l), ty g3, (1, (List.map Post.pv l)[Int.toNat (IntKind.wrap .i64 ((↑(List.length (List.map Post.pv l)) : Int) - 1))]? = some (Post.pv y1)), (4, decide ((↑(List.length (List.map Post.pv l)) : Int) > 0) = true), (1, decide (p.known < y1.known) = false), (1, (p.rev == 0) = false), (1, SZ o s l), ty g6, (1, (List.map Post.pv l)[Int.toNat (IntKind.wrap .i64 (p.rev - 1))]? = some (Post.pv old)), (1, decide (old.rev > 0) = false), ty hl, (1, SZ o s l), ty g6, (1, (List.map Post.pv l)[Int.toNat (IntKind.wrap .i64 (p.rev - 1))]? = some (Post.pv old)), ty h48, zf 3, ty h44, zf 2, (1, (!b) = false)]) (by kernel_rfl)
    (aq ⟨h34, rfl, (dF g1), (bne_f g2), (dT hlen), hs, g3, (map_at g4), (dT hlen), (dF g5), (beq_eq_false_iff_ne.mpr hr), hs, g6, (map_at ho), (dF hrev), hl, hs, g6, (map_at ho), h48, rfl, h44, rfl, (not_f g7), trivial⟩)
theorem f26d_4 (l : List Post) (o : SO) (s : Nat) (hs : SZ o s l) (p old : Post) (e : Int) (he : ¬e = 0) (ho : l[Int.toNat (IntKind.wrap .i64 (p.rev - 1))]? = some old) (hlen : (↑(List.length (List.map Post.pv l)) : Int) > 0) (hr : ¬p.rev = 0) (hrev : ¬old.rev > 0) (h34 : cc (ev X E0) 63 [Post.av p] [] = some (AV.i 0, [])) (hl : lv (cv (ev X E0) xf24_l0) (rl [0, 2, 1, 0]) 1 (S26 l o s p 0) = some (XExit.exit 0, St.mk (tmOf 82 [(0, AV.c (.pv (.sl o s (List.map Post.pv l)))), (3, AV.c (.ptr 0 0))]) [.cells (Post.cs p)])) (h48 : cc (ev X E0) 64 [Post.av old, AV.i p.id, AV.int IntKind.i32 p.known] [] = some (AV.tup [AV.agg Z7, AV.i e], [])) (y1 : Post) (g1 : ¬(↑(List.length (List.map Post.pv l)) : Int) ≥ 400) (g2 : p.id = IntKind.wrap .i64 ((↑(List.length (List.map Post.pv l)) : Int) + 1)) (g3 : 0 ≤ IntKind.wrap .i64 ((↑(List.length (List.map Post.pv l)) : Int) - 1)) (g4 : l[Int.toNat (IntKind.wrap .i64 ((↑(List.length (List.map Post.pv l)) : Int) - 1))]? = some y1) (g5 : ¬p.known < y1.known) (g6 : 0 ≤ IntKind.wrap .i64 (p.rev - 1)) :
    cc (ev X E0) 24 [AV.c (.pv (.sl o s (List.map Post.pv l))), AV.agg (Post.cs p)] [] = some (AV.c (vi 3), []) :=
  cc_path (x := xf24) rfl ([.call (AV.c (vi (0 : Int))) []] ++ bs 3 false ++ bs 6 true ++ [.sz, .el (Post.pv y1)] ++ bs 4 true ++ [.br false, .br false, .sz, .el (Post.pv old), .br false, .loop (XExit.exit 0) (St.mk (tmOf 82 [(0, AV.c (.pv (.sl o s (List.map Post.pv l)))), (3, AV.c (.ptr 0 0))]) [.cells (Post.cs p)]), .sz, .el (Post.pv old), .call (AV.tup [AV.agg [vi 0, vw 0, vw 0, .pv (.sl SO.nil 0 []), vi 0, vi 0, .pv (.str [])], AV.c (vi e)]) []] ++ bs 6 true)
    (c := rq [ty h34, zf 1, (1, decide ((↑(List.length (List.map Post.pv l)) : Int) ≥ 400) = false), (1, (p.id != IntKind.wrap .i64 ((↑(List.length (List.map Post.pv l)) : Int) + 1)) = false), (6, decide ((↑(List.length (List.map Post.pv l)) : Int) > 0) = true), (1, SZ o s l), ty g3, (1, (List.map Post.pv l)[Int.toNat (IntKind.wrap .i64 ((↑(List.length (List.map Post.pv l)) : Int) - 1))]? = some (Post.pv y1)), (4, decide ((↑(List.length (List.map Post.pv l)) : Int) > 0) = true), (1, decide (p.known < y1.known) = false), (1, (p.rev == 0) = false), (1, SZ o s l), ty g6, (1, (List.map Post.pv l)[Int.toNat (IntKind.wrap .i64 (p.rev - 1))]? = some (Post.pv old)), (1, decide (old.rev > 0) = false), ty hl, (1, SZ o s l), ty g6, (1, (List.map Post.pv l)[Int.toNat (IntKind.wrap .i64 (p.rev - 1))]? = some (Post.pv old)), ty h48, (5, (e != 0) = true), zt 1]) (by kernel_rfl)
    (aq ⟨h34, rfl, (dF g1), (bne_f g2), (dT hlen), hs, g3, (map_at g4), (dT hlen), (dF g5), (beq_eq_false_iff_ne.mpr hr), hs, g6, (map_at ho), (dF hrev), hl, hs, g6, (map_at ho), h48, (bne_iff_ne.mpr he), rfl, trivial⟩)
-- keep f26n: 1 2 3 4 5 6 7
-- keep f26b: 5
-- keep f26c: 4 5
-- keep f26d: 4
theorem s26 {l : List Post} {o : SO} {s : Nat} (hs : szOk 7 (CV.pv (PV.sl o s (List.map Post.pv l))) = true) (hl : l.length < 400) (hn : ∀ q ∈ l, Nice q) {p : Post} (hp : Nice p) :
    cc (ev X E0) 24 [AV.sl o s (l.map Post.pv), Post.av p] [] = some (.i (fullE l p), []) := by
  have len : (((l.map Post.pv).length : Nat) : Int) = l.length := by rw [List.length_map]
  have h34 := s34 p hp.memo (by have := hp.legs; omega)
  unfold fullE
  by_cases c0 : ¬ chk p = 0
  · rw [if_neg c0]; exact f26n_1 l o s hs p _ h34 c0
  replace c0 : chk p = 0 := by simpa using c0
  rw [if_pos c0]
  rw [c0] at h34
  obtain ⟨hr, hr2, _, _⟩ := chk_rev c0
  unfold nextE
  rw [if_neg (by omega)]
  have g1 : ¬(↑(List.length (List.map Post.pv l)) : Int) ≥ 400 := by rw [len]; omega
  by_cases c2 : p.id ≠ l.length + 1
  · rw [if_pos c2]; exact f26n_3 l o s hs p _ h34 rfl g1 (by rw [len, wi64 (by omega) (by omega)]; exact c2)
  rw [if_neg c2]
  replace c2 : p.id = l.length + 1 := by simpa using c2
  have g2 : p.id = IntKind.wrap .i64 ((↑(List.length (List.map Post.pv l)) : Int) + 1) := by rw [len, wi64 (by omega) (by omega)]; exact c2
  by_cases c3 : l = []
  · subst c3
    have hr0 : p.rev = 0 := by simp at c2; omega
    rw [if_neg (by simp [lastKn]), if_pos hr0]
    exact f26n_7 [] o s hs p _ h34 rfl g1 g2 (by simp) hr0
  have hpos : 0 < l.length := List.length_pos_iff.2 c3
  have hlast : l[l.length - 1]? = some (l.getLast c3) := by rw [List.getLast_eq_getElem]; exact List.getElem?_eq_getElem (by omega)
  have hw : IntKind.wrap .i64 ((↑(List.length (List.map Post.pv l)) : Int) - 1) = ((l.length - 1 : Nat) : Int) := by rw [len, wi64 (by omega) (by omega)]; omega
  have g3 : (↑(List.length (List.map Post.pv l)) : Int) > 0 := by rw [len]; omega
  have g4 : 0 ≤ IntKind.wrap .i64 ((↑(List.length (List.map Post.pv l)) : Int) - 1) := by rw [hw]; omega
  have g5 : l[Int.toNat (IntKind.wrap .i64 ((↑(List.length (List.map Post.pv l)) : Int) - 1))]? = some (l.getLast c3) := by rw [hw]; exact hlast
  have hlk : lastKn l p.known = decide (p.known < (l.getLast c3).known) := by rw [lastKn, List.getLast?_eq_some_getLast c3]; rfl
  rw [hlk]
  by_cases c4 : p.known < (l.getLast c3).known
  · rw [if_pos (by simpa using c4)]; exact f26n_4 l o s hs p _ h34 _ rfl g1 g2 g3 g4 g5 c4
  rw [if_neg (by simpa using c4)]
  by_cases c5 : p.rev = 0
  · rw [if_pos c5]; exact f26n_5 l o s hs p _ h34 _ rfl g1 g2 g3 g4 g5 c4 c5
  rw [if_neg c5]
  have hlt : (p.rev - 1).toNat < l.length := by omega
  have hold := List.getElem?_eq_getElem hlt
  have hwr : IntKind.wrap .i64 (p.rev - 1) = p.rev - 1 := wi64 (by omega) (by omega)
  have ho : l[Int.toNat (IntKind.wrap IntKind.i64 (Post.rev p - 1))]? = some l[(p.rev - 1).toNat] := by rw [hwr]; exact hold
  have g6 : 0 ≤ IntKind.wrap .i64 (p.rev - 1) := by rw [hwr]; omega
  rw [hold]
  show _ = some (AV.i (oldE l p l[(p.rev - 1).toNat]), _)
  generalize hq : l[(p.rev - 1).toNat] = old at ho
  have hmem : old ∈ l := by rw [← hq]; exact List.getElem_mem hlt
  have hN := hn old hmem
  have h48 := s48 old p.id p.known hN
  have ha := a26 hs (by omega) p
  unfold oldE
  by_cases c6 : old.rev > 0
  · rw [if_pos c6]; exact f26n_6 l o s hs p _ h34 _ _ rfl g1 g2 g3 g4 g5 c4 c5 g6 ho c6
  rw [if_neg c6]
  by_cases c7 : (l.any fun q => q.rev == p.rev) = true
  · rw [if_pos c7] at ha ⊢; exact f26b_5 l o s hs p old ho g3 c5 h34 ha _ g1 g2 g4 g5 c4 g6 c6
  rw [if_neg c7] at ha ⊢
  by_cases e0 : revE old p.id p.known = 0
  · rw [e0, if_pos rfl] at h48
    have h44 := s44 (rvp old p.id p.known) p (by simp only [rvp, List.length_map]; exact hN.legs)
    cases hb : same (rvp old p.id p.known) p with
    | true =>
      rw [hb] at h44
      rw [if_pos ⟨e0, rfl⟩]
      exact f26c_5 l o s hs p old (rvp old p.id p.known) _ ho g3 c5 c6 h34 ha h48 h44 _ g1 g2 g4 g5 c4 g6 rfl
    | false =>
      rw [hb] at h44
      rw [if_neg (by simp)]
      exact f26c_4 l o s hs p old (rvp old p.id p.known) _ ho g3 c5 c6 h34 ha h48 h44 _ g1 g2 g4 g5 c4 g6 rfl
  · rw [if_neg e0] at h48
    rw [if_neg (fun h => e0 h.1)]
    exact f26d_4 l o s hs p old _ e0 ho g3 c5 c6 h34 ha h48 _ g1 g2 g4 g5 c4 g6
theorem a18 {l : List Post} {o : SO} {s : Nat} (hs : szOk 7 (CV.pv (PV.sl o s (List.map Post.pv l))) = true) (ho : o = .nil → l = []) (hl : l.length < 400) (hN : ∀ q ∈ l, Nice q) : ∀ (r pre : List Post), l = pre ++ r →
    lv (cv (ev X E0) xf22_l0) (rl [1, 1]) 1 (S18 l o s (pre.length : Nat)) = some (if rightFrom pre r = true then (XExit.exit 0, St.mk (tmOf 22 []) [Box.cells [CV.pv (PV.sl o s (List.map Post.pv l))]]) else (XExit.ret, St.mk (tmOf 22 [(2, AV.c (CV.pv (PV.bool false)))]) [Box.cells [CV.pv (PV.sl o s (List.map Post.pv l))]]))
  | [], pre, e => by
    rw [List.append_nil] at e
    subst e
    exact l18x_1 l o s l.length (by simp)
  | y :: r, pre, e => by
    have hlen : l.length = pre.length + r.length + 1 := by rw [e]; simp; omega
    have hat : l[pre.length]? = some y := by rw [e]; simp
    have hlt : ((pre.length : Nat) : Int) < (((l.map Post.pv).length : Nat) : Int) := ltP (by omega)
    have nn := nn_of (s := s) ho (by rw [e]; simp)
    have h26 : cc (ev X E0) 24 [AV.sl .shut 7 (List.take pre.length (List.map Post.pv l)), Post.av y] [] = some (.i (fullE pre y), []) := by
      rw [take_pre e]
      exact s26 rfl (by omega) (fun q hq => hN q (by rw [e]; simp [hq])) (hN y (by rw [e]; simp))
    by_cases c : fullE pre y = 0
    · have st := l18_2 l o s hs nn pre.length y hat _ h26 hlt (by omega) c
      rw [wi64 (by omega) (by omega)] at st
      have ih := a18 hs ho hl hN r (pre ++ [y]) (by rw [e]; simp)
      rw [List.length_append, List.length_singleton, Int.natCast_add, Int.natCast_one] at ih
      simp only [rightFrom, c, beq_self_eq_true, Bool.true_and]
      exact st.trans ih
    · have hf : (fullE pre y == 0) = false := by simpa using c
      simp only [rightFrom, hf, Bool.false_and]
      exact l18_1 l o s hs nn pre.length y hat _ h26 hlt (by omega) c
theorem f18_1 (l : List Post) (o : SO) (s : Nat) (h : lv (cv (ev X E0) xf22_l0) (rl [1, 1]) 1 (S18 l o s 0) = some (XExit.exit 0, St.mk (tmOf 22 []) [.cells [.pv (.sl o s (List.map Post.pv l))]])) :
    cc (ev X E0) 22 [AV.agg [.pv (.sl o s (List.map Post.pv l))]] [] = some (AV.b true, []) :=
  cc_path (x := xf22) rfl [.loop (XExit.exit 0) (St.mk (tmOf 22 []) [.cells [.pv (.sl o s (List.map Post.pv l))]])]
    (c := rq [ty h]) (by kernel_rfl)
    (aq ⟨h, trivial⟩)
theorem f18r_1 (l : List Post) (o : SO) (s : Nat) (h : lv (cv (ev X E0) xf22_l0) (rl [1, 1]) 1 (S18 l o s 0) = some (XExit.ret, St.mk (tmOf 22 [(2, AV.b false)]) [.cells [.pv (.sl o s (List.map Post.pv l))]])) :
    cc (ev X E0) 22 [AV.agg [.pv (.sl o s (List.map Post.pv l))]] [] = some (AV.b false, []) :=
  cc_path (x := xf22) rfl [.loop XExit.ret (St.mk (tmOf 22 [(2, AV.b false)]) [.cells [.pv (.sl o s (List.map Post.pv l))]])]
    (c := rq [ty h]) (by kernel_rfl)
    (aq ⟨h, trivial⟩)
theorem s18 {l : List Post} {o : SO} {s : Nat} (hs : szOk 7 (CV.pv (PV.sl o s (List.map Post.pv l))) = true) (ho : o = .nil → l = []) (hl : l.length < 400) (hN : ∀ q ∈ l, Nice q) : cc (ev X E0) 22 [AV.agg [CV.pv (PV.sl o s (l.map Post.pv))]] [] = some (.b (rightB l), []) := by
  have a := a18 hs ho hl hN l [] rfl
  unfold rightB
  cases h : rightFrom [] l with
  | true => rw [h] at a; exact f18_1 l o s a
  | false => rw [h] at a; exact f18r_1 l o s a
end Go.Sx.Tryd
