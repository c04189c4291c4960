/- What reverses a posting, of the document. -/
import Derived.Test.YtplknajjcllmkaaDoorK4
namespace Go.Sx.Tryd
open Go Go.Sx
abbrev S48 (p : Post) (id kn : Int) (x : CV) (i : Int) : St := St.mk (tmOf 82 [(3, AV.c (CV.ptr 0 0)), (6, AV.c (CV.ptr 1 0)), (9, AV.c (CV.ptr 2 0)), (10, AV.c (CV.pv (PV.int .i64 i)))]) [Box.cells (Post.cs p), Box.cells Z7, Box.cells [CV.pv (PV.int .i64 id), CV.pv (PV.int .i32 kn), CV.pv (PV.int .i32 (Post.value p)), x, CV.pv (PV.int .i64 (Post.id p)), CV.pv (PV.int .i64 (Post.kind p)), CV.pv (PV.str (Post.memo p))]]
theorem l48a_1 (p : Post) (id kn : Int) (y1 : Leg) (g1 : 0 < (↑(List.length (List.map Leg.pv p.legs)) : Int)) (g2 : p.legs[0]? = some y1) (g3 : (↑(0 + List.length [PV.agg [PV.int .i64 y1.acc, .int .i64 y1.cur, .int .i64 (IntKind.wrap .i64 (0 - y1.minor))]]) : Int) * 24 ≤ 140737488355328) :
    lv (cv (ev X E0) xf64_l0) (rl [3, 2, 2, 0]) 3 (S48 p id kn (.pv (.sl SO.nil 0 [])) 0) = lv (cv (ev X E0) xf64_l0) (rl [3, 2, 2, 0]) 3 (St.mk (tmOf 82 [(3, AV.c (.ptr 0 0)), (6, AV.c (.ptr 1 0)), (9, AV.c (.ptr 2 0)), (10, AV.c (vi 1))]) [.cells (Post.cs p), .cells [vi 0, vw 0, vw 0, .pv (.sl SO.nil 0 []), vi 0, vi 0, .pv (.str [])], .cells [vi id, vw kn, vw p.value, .own 4735 3 [PV.agg [PV.int .i64 y1.acc, .int .i64 y1.cur, .int .i64 (IntKind.wrap .i64 (0 - y1.minor))]], vi p.id, vi p.kind, .pv (.str p.memo)]]) :=
  lv_next [.br true, .el (Leg.pv y1), .el (Leg.pv y1), .el (Leg.pv y1), .emp false]
    (c := rq [(1, decide (0 < (↑(List.length (List.map Leg.pv p.legs)) : Int)) = true), (1, (0 : Int) ≤ (0 : Int)), (1, (List.map Leg.pv p.legs)[0]? = some (Leg.pv y1)), (1, (0 : Int) ≤ (0 : Int)), (1, (List.map Leg.pv p.legs)[0]? = some (Leg.pv y1)), (1, (0 : Int) ≤ (0 : Int)), (1, (List.map Leg.pv p.legs)[0]? = some (Leg.pv y1)), (1, [PV.agg [PV.int .i64 y1.acc, .int .i64 y1.cur, .int .i64 (IntKind.wrap .i64 (0 - y1.minor))]] ≠ []), ty g3]) (by kernel_rfl)
    (aq ⟨(dT g1), (Int.le_refl _), (map_at g2), (Int.le_refl _), (map_at g2), (Int.le_refl _), (map_at g2), (List.cons_ne_nil _ _), g3, trivial⟩)
theorem l48_1 (p : Post) (id kn : Int) (j : Nat) (es : List PV) (i : Nat) (y1 : Leg) (g1 : (↑i : Int) < (↑(List.length (List.map Leg.pv p.legs)) : Int)) (g2 : p.legs[i]? = some y1) (g3 : (↑(List.length es + List.length [PV.agg [PV.int .i64 y1.acc, .int .i64 y1.cur, .int .i64 (IntKind.wrap .i64 (0 - y1.minor))]]) : Int) * 24 ≤ 140737488355328) :
    lv (cv (ev X E0) xf64_l0) (rl [3, 2, 2, 0]) 3 (S48 p id kn (.own j 3 es) (↑i : Int)) = lv (cv (ev X E0) xf64_l0) (rl [3, 2, 2, 0]) 3 (St.mk (tmOf 82 [(3, AV.c (.ptr 0 0)), (6, AV.c (.ptr 1 0)), (9, AV.c (.ptr 2 0)), (10, AV.c (vi (IntKind.wrap .i64 ((↑i : Int) + 1))))]) [.cells (Post.cs p), .cells [vi 0, vw 0, vw 0, .pv (.sl SO.nil 0 []), vi 0, vi 0, .pv (.str [])], .cells [vi id, vw kn, vw p.value, .own 4735 3 (es ++ [PV.agg [PV.int .i64 y1.acc, .int .i64 y1.cur, .int .i64 (IntKind.wrap .i64 (0 - y1.minor))]]), vi p.id, vi p.kind, .pv (.str p.memo)]]) :=
  lv_next [.br true, .el (Leg.pv y1), .el (Leg.pv y1), .el (Leg.pv y1)]
    (c := rq [(1, decide ((↑i : Int) < (↑(List.length (List.map Leg.pv p.legs)) : Int)) = true), (1, 0 ≤ (↑i : Int)), (1, (List.map Leg.pv p.legs)[i]? = some (Leg.pv y1)), (1, 0 ≤ (↑i : Int)), (1, (List.map Leg.pv p.legs)[i]? = some (Leg.pv y1)), (1, 0 ≤ (↑i : Int)), (1, (List.map Leg.pv p.legs)[i]? = some (Leg.pv y1)), ty g3]) (by kernel_rfl)
    (aq ⟨(dT g1), (Int.natCast_nonneg _), (map_at g2), (Int.natCast_nonneg _), (map_at g2), (Int.natCast_nonneg _), (map_at g2), g3, trivial⟩)
theorem l48_2 (p : Post) (id kn : Int) (j : Nat) (es : List PV) (i : Nat) (g1 : ¬(↑i : Int) < (↑(List.length (List.map Leg.pv p.legs)) : Int)) :
    lv (cv (ev X E0) xf64_l0) (rl [3, 2, 2, 0]) 3 (S48 p id kn (.own j 3 es) (↑i : Int)) = some (XExit.exit 0, St.mk (tmOf 82 [(6, AV.c (.ptr 1 0)), (9, AV.c (.ptr 2 0))]) [.cells (Post.cs p), .cells [vi 0, vw 0, vw 0, .pv (.sl SO.nil 0 []), vi 0, vi 0, .pv (.str [])], .cells [vi id, vw kn, vw p.value, .own j 3 es, vi p.id, vi p.kind, .pv (.str p.memo)]]) :=
  lv_exit [.br false]
    (c := [decide ((↑i : Int) < (↑(List.length (List.map Leg.pv p.legs)) : Int)) = false]) (by kernel_rfl)
    ⟨(dF g1), trivial⟩
theorem a48 {p : Post} {id kn : Int} (hl : p.legs.length ≤ 100) (hm : ∀ x ∈ p.legs, minOk x.minor = true) : ∀ (r pre : List Leg), p.legs = pre ++ r →
    lv (cv (ev X E0) xf64_l0) (rl [3, 2, 2, 0]) 3 (S48 p id kn (CV.own 4735 3 ((pre.map neg).map Leg.pv)) (pre.length : Nat)) =
      some (XExit.exit 0, St.mk (tmOf 82 [(6, AV.c (CV.ptr 1 0)), (9, AV.c (CV.ptr 2 0))]) [Box.cells (Post.cs p), Box.cells Z7, Box.cells [CV.pv (PV.int .i64 id), CV.pv (PV.int .i32 kn), CV.pv (PV.int .i32 (Post.value p)), CV.own 4735 3 ((p.legs.map neg).map Leg.pv), CV.pv (PV.int .i64 (Post.id p)), CV.pv (PV.int .i64 (Post.kind p)), CV.pv (PV.str (Post.memo p))]])
  | [], pre, e => by
    rw [List.append_nil] at e
    have := l48_2 p id kn 4735 ((pre.map neg).map Leg.pv) pre.length (by rw [List.length_map, e]; omega)
    rw [show p.legs.map neg = pre.map neg by rw [e]]
    exact this
  | y :: r, pre, e => by
    have hlen : p.legs.length = pre.length + r.length + 1 := by rw [e]; simp; omega
    have hat : p.legs[pre.length]? = some y := by rw [e]; simp
    have hy := hm y (by rw [e]; simp)
    simp only [minOk, decide_eq_true_eq] at hy
    have st := l48_1 p id kn 4735 ((pre.map neg).map Leg.pv) pre.length y (lt_len (by omega)) hat (by simp only [List.length_map, List.length_singleton]; omega)
    rw [wi64 (by omega) (by omega), wi64 (by omega) (by omega)] at st
    have hset : ((pre.map neg).map Leg.pv) ++ [PV.agg [PV.int .i64 y.acc, PV.int .i64 y.cur, PV.int .i64 (0 - y.minor)]] = ((pre ++ [y]).map neg).map Leg.pv := by simp [neg]
    rw [hset] at st
    have ih := a48 (id := id) (kn := kn) hl hm r (pre ++ [y]) (by rw [e]; simp)
    rw [List.length_append, List.length_singleton, Int.natCast_add, Int.natCast_one] at ih
    exact st.trans ih
theorem b48 {p : Post} {id kn : Int} (h1 : p.legs ≠ []) (hl : p.legs.length ≤ 100) (hm : ∀ x ∈ p.legs, minOk x.minor = true) :
    lv (cv (ev X E0) xf64_l0) (rl [3, 2, 2, 0]) 3 (S48 p id kn (CV.pv (PV.sl .nil 0 [])) 0) =
      some (XExit.exit 0, St.mk (tmOf 82 [(6, AV.c (CV.ptr 1 0)), (9, AV.c (CV.ptr 2 0))]) [Box.cells (Post.cs p), Box.cells Z7, Box.cells [CV.pv (PV.int .i64 id), CV.pv (PV.int .i32 kn), CV.pv (PV.int .i32 (Post.value p)), CV.own 4735 3 ((p.legs.map neg).map Leg.pv), CV.pv (PV.int .i64 (Post.id p)), CV.pv (PV.int .i64 (Post.kind p)), CV.pv (PV.str (Post.memo p))]]) := by
  cases hp : p.legs with
  | nil => exact absurd hp h1
  | cons y r =>
    have hlen : p.legs.length = r.length + 1 := by rw [hp]; simp
    have hat : p.legs[0]? = some y := by rw [hp]; rfl
    have hy := hm y (by rw [hp]; simp)
    simp only [minOk, decide_eq_true_eq] at hy
    have st := l48a_1 p id kn y (by rw [List.length_map]; omega) hat (by simp)
    rw [wi64 (by omega) (by omega)] at st
    have hset : [PV.agg [PV.int .i64 y.acc, PV.int .i64 y.cur, PV.int .i64 (0 - y.minor)]] = ([y].map neg).map Leg.pv := by simp [neg]
    rw [hset] at st
    have ih := a48 (id := id) (kn := kn) hl hm r [y] (by rw [hp]; rfl)
    rw [← hp]
    exact st.trans ih
abbrev f48_hl (p : Post) (id kn e : Int) : Prop := e = 0 → lv (cv (ev X E0) xf64_l0) (rl [3, 2, 2, 0]) 3 (S48 p id kn (.pv (.sl SO.nil 0 [])) 0) = some (XExit.exit 0, St.mk (tmOf 82 [(6, AV.c (.ptr 1 0)), (9, AV.c (.ptr 2 0))]) [.cells (Post.cs p), .cells Z7, .cells [vi id, vw kn, vw p.value, .own 4735 3 (List.map Leg.pv (List.map neg p.legs)), vi p.id, vi p.kind, .pv (.str p.memo)]])
theorem f48_1 (p : Post) (id kn e e2 : Int) (h : cc (ev X E0) 63 [Post.av p] [] = some (AV.i e, [])) (_hl : f48_hl p id kn e) (_h2 : e = 0 → cc (ev X E0) 63 [Post.av (rvp p id kn)] [] = some (AV.i e2, [])) (g1 : ¬e = 0) :
    cc (ev X E0) 64 [AV.agg (Post.cs p), AV.c (vi id), AV.c (vw kn)] [] = some (AV.tup [AV.agg [vi 0, vw 0, vw 0, .pv (.sl SO.nil 0 []), vi 0, vi 0, .pv (.str [])], AV.c (vi e)], []) :=
  cc_path (x := xf64) rfl [.call (AV.c (vi e)) [], .br true]
    (c := rq [ty h, (1, (e != 0) = true)]) (by kernel_rfl)
    (aq ⟨h, (bne_iff_ne.mpr g1), trivial⟩)
theorem f48_2 (p : Post) (id kn e e2 : Int) (h : cc (ev X E0) 63 [Post.av p] [] = some (AV.i e, [])) (_hl : f48_hl p id kn e) (_h2 : e = 0 → cc (ev X E0) 63 [Post.av (rvp p id kn)] [] = some (AV.i e2, [])) (g1 : e = 0) (g2 : id ≤ p.id) :
    cc (ev X E0) 64 [AV.agg (Post.cs p), AV.c (vi id), AV.c (vw kn)] [] = some (AV.tup [AV.agg [vi 0, vw 0, vw 0, .pv (.sl SO.nil 0 []), vi 0, vi 0, .pv (.str [])], AV.c (vi 20)], []) :=
  cc_path (x := xf64) rfl ([.call (AV.c (vi e)) [], .br false] ++ bs 6 true)
    (c := rq [ty h, (1, (e != 0) = false), (5, decide (id ≤ p.id) = true), zt 1]) (by kernel_rfl)
    (aq ⟨h, (bne_f g1), (dT g2), rfl, trivial⟩)
theorem f48_3 (p : Post) (id kn e e2 : Int) (h : cc (ev X E0) 63 [Post.av p] [] = some (AV.i e, [])) (_hl : f48_hl p id kn e) (_h2 : e = 0 → cc (ev X E0) 63 [Post.av (rvp p id kn)] [] = some (AV.i e2, [])) (g1 : e = 0) (g2 : ¬id ≤ p.id) (g3 : kn < p.known) :
    cc (ev X E0) 64 [AV.agg (Post.cs p), AV.c (vi id), AV.c (vw kn)] [] = some (AV.tup [AV.agg [vi 0, vw 0, vw 0, .pv (.sl SO.nil 0 []), vi 0, vi 0, .pv (.str [])], AV.c (vi 20)], []) :=
  cc_path (x := xf64) rfl ([.call (AV.c (vi e)) []] ++ bs 6 false ++ [.br true])
    (c := rq [ty h, (1, (e != 0) = false), (5, decide (id ≤ p.id) = false), (1, decide (kn < p.known) = true)]) (by kernel_rfl)
    (aq ⟨h, (bne_f g1), (dF g2), (dT g3), trivial⟩)
theorem f48_4 (p : Post) (id kn e e2 : Int) (h : cc (ev X E0) 63 [Post.av p] [] = some (AV.i e, [])) (hl : f48_hl p id kn e) (h2 : e = 0 → cc (ev X E0) 63 [Post.av (rvp p id kn)] [] = some (AV.i e2, [])) (g1 : e = 0) (g2 : ¬id ≤ p.id) (g3 : ¬kn < p.known) (g4 : ¬e2 = 0) :
    cc (ev X E0) 64 [AV.agg (Post.cs p), AV.c (vi id), AV.c (vw kn)] [] = some (AV.tup [AV.agg [vi 0, vw 0, vw 0, .pv (.sl SO.nil 0 []), vi 0, vi 0, .pv (.str [])], AV.c (vi e2)], []) :=
  cc_path (x := xf64) rfl ([.call (AV.c (vi e)) []] ++ bs 7 false ++ [.loop (XExit.exit 0) (St.mk (tmOf 82 [(6, AV.c (.ptr 1 0)), (9, AV.c (.ptr 2 0))]) [.cells (Post.cs p), .cells [vi 0, vw 0, vw 0, .pv (.sl SO.nil 0 []), vi 0, vi 0, .pv (.str [])], .cells [vi id, vw kn, vw p.value, .own 4735 3 (List.map Leg.pv (List.map neg p.legs)), vi p.id, vi p.kind, .pv (.str p.memo)]]), .call (AV.c (vi e2)) [], .br true])
    (c := rq [ty h, (1, (e != 0) = false), (5, decide (id ≤ p.id) = false), (1, decide (kn < p.known) = false), (1, lv (cv (ev X E0) xf64_l0) (rl [3, 2, 2, 0]) 3 (St.mk (tmOf 82 [(3, AV.c (.ptr 0 0)), (6, AV.c (.ptr 1 0)), (9, AV.c (.ptr 2 0)), (10, AV.c (vi 0))]) [.cells (Post.cs p), .cells [vi 0, vw 0, vw 0, .pv (.sl SO.nil 0 []), vi 0, vi 0, .pv (.str [])], .cells [vi id, vw kn, vw p.value, .pv (.sl SO.nil 0 []), vi p.id, vi p.kind, .pv (.str p.memo)]]) = some (XExit.exit 0, St.mk (tmOf 82 [(6, AV.c (.ptr 1 0)), (9, AV.c (.ptr 2 0))]) [.cells (Post.cs p), .cells [vi 0, vw 0, vw 0, .pv (.sl SO.nil 0 []), vi 0, vi 0, .pv (.str [])], .cells [vi id, vw kn, vw p.value, .own 4735 3 (List.map Leg.pv (List.map neg p.legs)), vi p.id, vi p.kind, .pv (.str p.memo)]])), (1, cc (ev X E0) 63 [AV.agg [vi id, vw kn, vw p.value, .pv (.sl SO.shut 3 (List.map Leg.pv (List.map neg p.legs))), vi p.id, vi p.kind, .pv (.str p.memo)]] [] = some (AV.c (vi e2), [])), (1, (e2 != 0) = true)]) (by kernel_rfl)
    (aq ⟨h, (bne_f g1), (dF g2), (dF g3), (hl g1), (h2 g1), (bne_iff_ne.mpr g4), trivial⟩)
theorem f48_5 (p : Post) (id kn e e2 : Int) (h : cc (ev X E0) 63 [Post.av p] [] = some (AV.i e, [])) (hl : f48_hl p id kn e) (h2 : e = 0 → cc (ev X E0) 63 [Post.av (rvp p id kn)] [] = some (AV.i e2, [])) (g1 : e = 0) (g2 : ¬id ≤ p.id) (g3 : ¬kn < p.known) (g4 : e2 = 0) :
    cc (ev X E0) 64 [AV.agg (Post.cs p), AV.c (vi id), AV.c (vw kn)] [] = some (AV.tup [AV.agg [vi id, vw kn, vw p.value, .own 0 3 (List.map Leg.pv (List.map neg p.legs)), vi p.id, vi p.kind, .pv (.str p.memo)], AV.c (vi 0)], []) :=
  cc_path (x := xf64) rfl ([.call (AV.c (vi e)) []] ++ bs 7 false ++ [.loop (XExit.exit 0) (St.mk (tmOf 82 [(6, AV.c (.ptr 1 0)), (9, AV.c (.ptr 2 0))]) [.cells (Post.cs p), .cells [vi 0, vw 0, vw 0, .pv (.sl SO.nil 0 []), vi 0, vi 0, .pv (.str [])], .cells [vi id, vw kn, vw p.value, .own 4735 3 (List.map Leg.pv (List.map neg p.legs)), vi p.id, vi p.kind, .pv (.str p.memo)]]), .call (AV.c (vi e2)) [], .br false])
    (c := rq [ty h, (1, (e != 0) = false), (5, decide (id ≤ p.id) = false), (1, decide (kn < p.known) = false), (1, lv (cv (ev X E0) xf64_l0) (rl [3, 2, 2, 0]) 3 (St.mk (tmOf 82 [(3, AV.c (.ptr 0 0)), (6, AV.c (.ptr 1 0)), (9, AV.c (.ptr 2 0)), (10, AV.c (vi 0))]) [.cells (Post.cs p), .cells [vi 0, vw 0, vw 0, .pv (.sl SO.nil 0 []), vi 0, vi 0, .pv (.str [])], .cells [vi id, vw kn, vw p.value, .pv (.sl SO.nil 0 []), vi p.id, vi p.kind, .pv (.str p.memo)]]) = some (XExit.exit 0, St.mk (tmOf 82 [(6, AV.c (.ptr 1 0)), (9, AV.c (.ptr 2 0))]) [.cells (Post.cs p), .cells [vi 0, vw 0, vw 0, .pv (.sl SO.nil 0 []), vi 0, vi 0, .pv (.str [])], .cells [vi id, vw kn, vw p.value, .own 4735 3 (List.map Leg.pv (List.map neg p.legs)), vi p.id, vi p.kind, .pv (.str p.memo)]])), (1, cc (ev X E0) 63 [AV.agg [vi id, vw kn, vw p.value, .pv (.sl SO.shut 3 (List.map Leg.pv (List.map neg p.legs))), vi p.id, vi p.kind, .pv (.str p.memo)]] [] = some (AV.c (vi e2), [])), (1, (e2 != 0) = false)]) (by kernel_rfl)
    (aq ⟨h, (bne_f g1), (dF g2), (dF g3), (hl g1), (h2 g1), (bne_f g4), trivial⟩)
end Go.Sx.Tryd
