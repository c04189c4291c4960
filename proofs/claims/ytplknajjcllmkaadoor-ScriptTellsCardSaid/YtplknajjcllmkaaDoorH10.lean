/- The bytes of a request: how parts are written. -/
import Derived.Test.YtplknajjcllmkaaDoorH9
namespace Go.Sx.Tryd
open Go Go.Sx
def zzs : List Int → List UInt8
  | [] => []
  | n :: r => vb (zz n) ++ zzs r
abbrev Req.rc (p : Req) : List CV := [CV.pv (PV.int .i64 p.racc), CV.pv (PV.int .i64 p.rkind), CV.pv (PV.int .i64 p.rcur), CV.pv (PV.int .i64 p.rcust), CV.pv (PV.int .i64 p.rprod), CV.pv (PV.int .i64 p.rpart), CV.pv (PV.int .i32 p.rfrom), CV.pv (PV.int .i32 p.rto)]
abbrev B73 (d : Int) (p : Req) (g : Nat) (w : List UInt8) : List Box := [Box.cells (Req.csD d p), Box.cells [CV.ptr 2 0], Box.cells [CV.own g 1 (pvBytes w)]]
abbrev S73 (d part : Int) (p : Req) (l : List Int) (g : Nat) (w : List UInt8) (i : Int) : St := St.mk (tmOf 22 [(0, AV.c (CV.pv (PV.int .i64 part))), (2, AV.c (CV.ptr 0 0)), (3, AV.c (CV.ptr 1 0)), (8, AV.c (CV.pv (PV.sl .full 1 (List.map pvI l)))), (9, AV.c (CV.pv (PV.int .i64 (↑(List.length (List.map pvI l)) : Int)))), (10, AV.c (CV.pv (PV.int .i64 i)))]) (B73 d p g w)
theorem l73a_1 (d part : Int) (p : Req) (l : List Int) (w : List UInt8) (i : Nat) (b : Bool) (h : cc (ev X E0) 74 [AV.i d, AV.i part] [] = some (AV.b b, [])) (y1 : Int) (g1 : (↑i : Int) < (↑(List.length (List.map pvI l)) : Int)) (g2 : l[i]? = some y1) (g3 : b = true) (g4 : -9223372036854775808 ≤ y1) (g5 : y1 ≤ 9223372036854775807) (g6 : List.length w ≤ 1000000000) :
    lv (cv (ev X E0) xf73_l0) (rl [0, 1, 0, 4, 0, 0]) 3 (S73 d part p l 0 w (↑i : Int)) = lv (cv (ev X E0) xf73_l0) (rl [0, 1, 0, 4, 0, 0]) 3 (St.mk (tmOf 22 [(0, AV.c (vi part)), (2, AV.c (.ptr 0 0)), (3, AV.c (.ptr 1 0)), (8, AV.c (.pv (.sl SO.full 1 (List.map pvI l)))), (9, AV.c (vi (↑(List.length (List.map pvI l)) : Int))), (10, AV.c (vi (IntKind.wrap .i64 ((↑i : Int) + 1))))]) [.cells (Req.csD d p), .cells [.ptr 2 0], .cells [.own 1280 1 (pvBytes (w ++ vb (zz y1)))]]) :=
  lv_next [.br true, .el (.int .i64 y1), .call (AV.c (.pv (.bool b))) [], .br true, .call (AV.tup []) [.cells [.own 0 1 (pvBytes (w ++ vb (zz y1)))]]]
    (c := rq [(1, decide ((↑i : Int) < (↑(List.length (List.map pvI l)) : Int)) = true), (1, 0 ≤ (↑i : Int)), (1, (List.map pvI l)[i]? = some (PV.int .i64 y1)), (1, type_of% h), (1, b = true), (1, cc (ev X E0) 75 [AV.c (.ptr 0 0), AV.c (vi y1)] [.cells [.own 0 1 (pvBytes w)]] = some (AV.tup [], [.cells [.own 0 1 (pvBytes (w ++ vb (zz y1)))]]))]) (by kernel_rfl)
    (aq ⟨(decide_eq_true g1), (Int.natCast_nonneg _), (map_at g2), h, g3, (Zig_own _ _ g4 g5 g6), trivial⟩)
theorem l73a_2 (d part : Int) (p : Req) (l : List Int) (w : List UInt8) (i : Nat) (b : Bool) (h : cc (ev X E0) 74 [AV.i d, AV.i part] [] = some (AV.b b, [])) (y1 : Int) (g1 : (↑i : Int) < (↑(List.length (List.map pvI l)) : Int)) (g2 : l[i]? = some y1) (g3 : b = false) :
    lv (cv (ev X E0) xf73_l0) (rl [0, 1, 0, 4, 0, 0]) 3 (S73 d part p l 0 w (↑i : Int)) = lv (cv (ev X E0) xf73_l0) (rl [0, 1, 0, 4, 0, 0]) 3 (St.mk (tmOf 22 [(0, AV.c (vi part)), (2, AV.c (.ptr 0 0)), (3, AV.c (.ptr 1 0)), (8, AV.c (.pv (.sl SO.full 1 (List.map pvI l)))), (9, AV.c (vi (↑(List.length (List.map pvI l)) : Int))), (10, AV.c (vi (IntKind.wrap .i64 ((↑i : Int) + 1))))]) [.cells (Req.csD d p), .cells [.ptr 2 0], .cells [.own 0 1 (pvBytes w)]]) :=
  lv_next [.br true, .el (.int .i64 y1), .call (AV.c (.pv (.bool b))) [], .br false]
    (c := rq [(1, decide ((↑i : Int) < (↑(List.length (List.map pvI l)) : Int)) = true), (1, 0 ≤ (↑i : Int)), (1, (List.map pvI l)[i]? = some (PV.int .i64 y1)), (1, type_of% h), (1, b = false)]) (by kernel_rfl)
    (aq ⟨(decide_eq_true g1), (Int.natCast_nonneg _), (map_at g2), h, g3, trivial⟩)
theorem l73a_3 (d part : Int) (p : Req) (l : List Int) (w : List UInt8) (i : Nat) (b : Bool) (h : cc (ev X E0) 74 [AV.i d, AV.i part] [] = some (AV.b b, [])) (g1 : ¬(↑i : Int) < (↑(List.length (List.map pvI l)) : Int)) :
    lv (cv (ev X E0) xf73_l0) (rl [0, 1, 0, 4, 0, 0]) 3 (S73 d part p l 0 w (↑i : Int)) = some (XExit.exit 0, St.mk (tmOf 22 []) [.cells (Req.csD d p), .cells [.ptr 2 0], .cells [.own 0 1 (pvBytes w)]]) :=
  lv_exit [.br false]
    (c := [decide ((↑i : Int) < (↑(List.length (List.map pvI l)) : Int)) = false]) (by kernel_rfl)
    ⟨(decide_eq_false g1), trivial⟩
theorem l73_1 (d part : Int) (p : Req) (l : List Int) (w : List UInt8) (i : Nat) (b : Bool) (h : cc (ev X E0) 74 [AV.i d, AV.i part] [] = some (AV.b b, [])) (y1 : Int) (g1 : (↑i : Int) < (↑(List.length (List.map pvI l)) : Int)) (g2 : l[i]? = some y1) (g3 : b = true) (g4 : -9223372036854775808 ≤ y1) (g5 : y1 ≤ 9223372036854775807) (g6 : List.length w ≤ 1000000000) :
    lv (cv (ev X E0) xf73_l0) (rl [0, 1, 0, 4, 0, 0]) 3 (S73 d part p l 1280 w (↑i : Int)) = lv (cv (ev X E0) xf73_l0) (rl [0, 1, 0, 4, 0, 0]) 3 (St.mk (tmOf 22 [(0, AV.c (vi part)), (2, AV.c (.ptr 0 0)), (3, AV.c (.ptr 1 0)), (8, AV.c (.pv (.sl SO.full 1 (List.map pvI l)))), (9, AV.c (vi (↑(List.length (List.map pvI l)) : Int))), (10, AV.c (vi (IntKind.wrap .i64 ((↑i : Int) + 1))))]) [.cells (Req.csD d p), .cells [.ptr 2 0], .cells [.own 1280 1 (pvBytes (w ++ vb (zz y1)))]]) :=
  lv_next [.br true, .el (.int .i64 y1), .call (AV.c (.pv (.bool b))) [], .br true, .call (AV.tup []) [.cells [.own 0 1 (pvBytes (w ++ vb (zz y1)))]]]
    (c := rq [(1, decide ((↑i : Int) < (↑(List.length (List.map pvI l)) : Int)) = true), (1, 0 ≤ (↑i : Int)), (1, (List.map pvI l)[i]? = some (PV.int .i64 y1)), (1, type_of% h), (1, b = true), (1, cc (ev X E0) 75 [AV.c (.ptr 0 0), AV.c (vi y1)] [.cells [.own 0 1 (pvBytes w)]] = some (AV.tup [], [.cells [.own 0 1 (pvBytes (w ++ vb (zz y1)))]]))]) (by kernel_rfl)
    (aq ⟨(decide_eq_true g1), (Int.natCast_nonneg _), (map_at g2), h, g3, (Zig_own _ _ g4 g5 g6), trivial⟩)
theorem l73_3 (d part : Int) (p : Req) (l : List Int) (w : List UInt8) (i : Nat) (b : Bool) (h : cc (ev X E0) 74 [AV.i d, AV.i part] [] = some (AV.b b, [])) (g1 : ¬(↑i : Int) < (↑(List.length (List.map pvI l)) : Int)) :
    lv (cv (ev X E0) xf73_l0) (rl [0, 1, 0, 4, 0, 0]) 3 (S73 d part p l 1280 w (↑i : Int)) = some (XExit.exit 0, St.mk (tmOf 22 []) [.cells (Req.csD d p), .cells [.ptr 2 0], .cells [.own 1280 1 (pvBytes w)]]) :=
  lv_exit [.br false]
    (c := [decide ((↑i : Int) < (↑(List.length (List.map pvI l)) : Int)) = false]) (by kernel_rfl)
    ⟨(decide_eq_false g1), trivial⟩
theorem f73a_1 (d part : Int) (p : Req) (l : List Int) (w v : List UInt8) (h : lv (cv (ev X E0) xf73_l0) (rl [0, 1, 0, 4, 0, 0]) 3 (S73 d part p l 0 w 0) = some (XExit.exit 0, St.mk (tmOf 22 []) (B73 d p 0 v))) :
    cc (ev X E0) 73 [AV.c (vi part), AV.c (.pv (.sl SO.full 1 (List.map pvI l))), AV.c (.ptr 0 0), AV.c (.ptr 1 0)] [.cells (Req.csD d p), .cells [.ptr 2 0], .cells [.own 0 1 (pvBytes w)]] = some (AV.tup [], [.cells (Req.csD d p), .cells [.ptr 2 0], .cells [.own 0 1 (pvBytes v)]]) :=
  cc_path (x := xf73) rfl [.loop (XExit.exit 0) (St.mk (tmOf 22 []) [.cells (Req.csD d p), .cells [.ptr 2 0], .cells [.own 0 1 (pvBytes v)]])]
    (c := rq [(1, type_of% h)]) (by kernel_rfl)
    (aq ⟨h, trivial⟩)
theorem f73b_1 (d part : Int) (p : Req) (l : List Int) (w v : List UInt8) (h : lv (cv (ev X E0) xf73_l0) (rl [0, 1, 0, 4, 0, 0]) 3 (S73 d part p l 0 w 0) = some (XExit.exit 0, St.mk (tmOf 22 []) (B73 d p 1280 v))) :
    cc (ev X E0) 73 [AV.c (vi part), AV.c (.pv (.sl SO.full 1 (List.map pvI l))), AV.c (.ptr 0 0), AV.c (.ptr 1 0)] [.cells (Req.csD d p), .cells [.ptr 2 0], .cells [.own 0 1 (pvBytes w)]] = some (AV.tup [], [.cells (Req.csD d p), .cells [.ptr 2 0], .cells [.own 0 1 (pvBytes v)]]) :=
  cc_path (x := xf73) rfl [.loop (XExit.exit 0) (St.mk (tmOf 22 []) [.cells (Req.csD d p), .cells [.ptr 2 0], .cells [.own 1280 1 (pvBytes v)]])]
    (c := rq [(1, type_of% h)]) (by kernel_rfl)
    (aq ⟨h, trivial⟩)
theorem f85_1 (b : Bool) (g1 : b = true) :
    cc (ev X E0) 85 [AV.c (.pv (.bool b))] [] = some (AV.c (.pv (.str [1])), []) :=
  cc_path (x := xf85) rfl [.br true]
    (c := [b = true]) (by kernel_rfl)
    ⟨g1, trivial⟩
theorem f85_2 (b : Bool) (g1 : b = false) :
    cc (ev X E0) 85 [AV.c (.pv (.bool b))] [] = some (AV.c (.pv (.str [0])), []) :=
  cc_path (x := xf85) rfl [.br false]
    (c := [b = false]) (by kernel_rfl)
    ⟨g1, trivial⟩
abbrev S82 (l : List Int) (x : CV) (i : Int) : St := St.mk (tmOf 22 [(0, AV.c (CV.pv (PV.sl SO.full 1 (List.map pvI l)))), (3, AV.c x), (4, AV.c (CV.pv (PV.int .i64 i)))]) []
theorem l82f_2 (l : List Int) (i : Nat) (y1 : Int) (g1 : (↑i : Int) < (↑(List.length (List.map pvI l)) : Int)) (g2 : l[i]? = some y1) (g3 : -9223372036854775808 ≤ y1) (g4 : y1 ≤ 9223372036854775807) (g5 : 0 ≤ (↑(zz y1) : Int)) (g6 : (↑(zz y1) : Int) < 18446744073709551616) (g7 : pvBytes (vb (zz y1)) ≠ []) (g8 : (↑(0 + List.length (pvBytes (vb (zz y1)))) : Int) * 1 ≤ 140737488355328) :
    lv (cv (ev X E0) xf82_l0) (rl [0, 2, 0]) 0 (S82 l (.pv (.sl SO.full 1 [])) (↑i : Int)) = lv (cv (ev X E0) xf82_l0) (rl [0, 2, 0]) 0 (St.mk (tmOf 22 [(0, AV.c (.pv (.sl SO.full 1 (List.map pvI l)))), (3, AV.c (.own 1279 1 ([] ++ pvBytes (vb (zz y1))))), (4, AV.c (vi (IntKind.wrap .i64 ((↑i : Int) + 1))))]) []) :=
  lv_next [.br true, .el (.int .i64 y1), .call (AV.c (.pv (.int .u64 (↑(zz y1) : Int)))) [], .call (AV.c (.own 0 1 (pvBytes (vb (zz y1))))) [], .emp false]
    (c := rq [(1, decide ((↑i : Int) < (↑(List.length (List.map pvI l)) : Int)) = true), (1, 0 ≤ (↑i : Int)), (1, (List.map pvI l)[i]? = some (PV.int .i64 y1)), (1, cc (ev X E0) 121 [AV.c (vi y1)] [] = some (AV.c (.pv (.int .u64 (↑(zz y1) : Int))), [])), (1, cc (ev X E0) 81 [AV.c (.pv (.int .u64 (↑(zz y1) : Int)))] [] = some (AV.c (.own 0 1 (pvBytes (vb (zz y1)))), [])), (1, type_of% g7), (1, type_of% g8)]) (by kernel_rfl)
    (aq ⟨(decide_eq_true g1), (Int.natCast_nonneg _), (map_at g2), (rZig _ g3 g4), (rVint _ g5 g6), g7, g8, trivial⟩)
theorem l82f_3 (l : List Int) (i : Nat) (g1 : ¬(↑i : Int) < (↑(List.length (List.map pvI l)) : Int)) :
    lv (cv (ev X E0) xf82_l0) (rl [0, 2, 0]) 0 (S82 l (.pv (.sl SO.full 1 [])) (↑i : Int)) = some (XExit.exit 0, St.mk (tmOf 22 [(3, AV.c (.pv (.sl SO.full 1 [])))]) []) :=
  lv_exit [.br false]
    (c := [decide ((↑i : Int) < (↑(List.length (List.map pvI l)) : Int)) = false]) (by kernel_rfl)
    ⟨(decide_eq_false g1), trivial⟩
theorem l82_1 (l : List Int) (w : List UInt8) (i g : Nat) (y1 : Int) (g1 : (↑i : Int) < (↑(List.length (List.map pvI l)) : Int)) (g2 : l[i]? = some y1) (g3 : -9223372036854775808 ≤ y1) (g4 : y1 ≤ 9223372036854775807) (g5 : 0 ≤ (↑(zz y1) : Int)) (g6 : (↑(zz y1) : Int) < 18446744073709551616) (g7 : (↑(List.length (pvBytes w) + List.length (pvBytes (vb (zz y1)))) : Int) * 1 ≤ 140737488355328) :
    lv (cv (ev X E0) xf82_l0) (rl [0, 2, 0]) 0 (S82 l (.own g 1 (pvBytes w)) (↑i : Int)) = lv (cv (ev X E0) xf82_l0) (rl [0, 2, 0]) 0 (St.mk (tmOf 22 [(0, AV.c (.pv (.sl SO.full 1 (List.map pvI l)))), (3, AV.c (.own 1279 1 (pvBytes w ++ pvBytes (vb (zz y1))))), (4, AV.c (vi (IntKind.wrap .i64 ((↑i : Int) + 1))))]) []) :=
  lv_next [.br true, .el (.int .i64 y1), .call (AV.c (.pv (.int .u64 (↑(zz y1) : Int)))) [], .call (AV.c (.own 0 1 (pvBytes (vb (zz y1))))) []]
    (c := rq [(1, decide ((↑i : Int) < (↑(List.length (List.map pvI l)) : Int)) = true), (1, 0 ≤ (↑i : Int)), (1, (List.map pvI l)[i]? = some (PV.int .i64 y1)), (1, cc (ev X E0) 121 [AV.c (vi y1)] [] = some (AV.c (.pv (.int .u64 (↑(zz y1) : Int))), [])), (1, cc (ev X E0) 81 [AV.c (.pv (.int .u64 (↑(zz y1) : Int)))] [] = some (AV.c (.own 0 1 (pvBytes (vb (zz y1)))), [])), (1, type_of% g7)]) (by kernel_rfl)
    (aq ⟨(decide_eq_true g1), (Int.natCast_nonneg _), (map_at g2), (rZig _ g3 g4), (rVint _ g5 g6), g7, trivial⟩)
theorem l82_2 (l : List Int) (w : List UInt8) (i g : Nat) (g1 : ¬(↑i : Int) < (↑(List.length (List.map pvI l)) : Int)) :
    lv (cv (ev X E0) xf82_l0) (rl [0, 2, 0]) 0 (S82 l (.own g 1 (pvBytes w)) (↑i : Int)) = some (XExit.exit 0, St.mk (tmOf 22 [(3, AV.c (.own g 1 (pvBytes w)))]) []) :=
  lv_exit [.br false]
    (c := [decide ((↑i : Int) < (↑(List.length (List.map pvI l)) : Int)) = false]) (by kernel_rfl)
    ⟨(decide_eq_false g1), trivial⟩
end Go.Sx.Tryd
/- The bytes of a request, of the program and of the document: what is written. -/
namespace Go.Sx.Tryd
open Go Go.Sx
theorem zz_len {n : Int} (h : W64 n) : (vb (zz n)).length ≤ 10 := vb_len10 (zz_lt h.1 h.2)
theorem zzs_len : ∀ {l : List Int}, (∀ n ∈ l, W64 n) → (zzs l).length ≤ 10 * l.length
  | [], _ => by simp [zzs]
  | x :: r, h => by
    have := zz_len (h x (by simp))
    have ih := zzs_len (l := r) fun y hy => h y (by simp [hy])
    rw [zzs, List.length_append, List.length_cons]; omega
theorem wrap_next {pre : List Int} {y : Int} (h : pre.length ≤ 1000000000) : IntKind.wrap .i64 ((pre.length : Int) + 1) = (((pre ++ [y]).length : Nat) : Int) := by rw [wi64 (by omega) (by omega), List.length_append, List.length_singleton]; omega
theorem a73f {d part : Int} {p : Req} {l : List Int} {w : List UInt8} (h : cc (ev X E0) 74 [AV.i d, AV.i part] [] = some (.b false, [])) (hl : l.length ≤ 1000000) : ∀ (r pre : List Int), l = pre ++ r →
    lv (cv (ev X E0) xf73_l0) (rl [0, 1, 0, 4, 0, 0]) 3 (S73 d part p l 0 w (pre.length : Nat)) = some (XExit.exit 0, St.mk (tmOf 22 []) (B73 d p 0 w))
  | [], pre, e => by
    rw [List.append_nil] at e
    rw [← e]
    exact l73a_3 d part p l w l.length false h not_lt_map
  | y :: r, pre, e => by
    have hat : l[pre.length]? = some y := by rw [e]; simp
    have hlen : l.length = pre.length + r.length + 1 := by rw [e]; simp; omega
    have st := l73a_2 d part p l w pre.length false h y (lt_map (by omega)) hat rfl
    rw [wrap_next (y := y) (by omega)] at st
    exact st.trans (a73f h hl r (pre ++ [y]) (by rw [e]; simp))
theorem a73t {d part : Int} {p : Req} {l : List Int} (h : cc (ev X E0) 74 [AV.i d, AV.i part] [] = some (.b true, [])) (hl : l.length ≤ 1000000) (hn : ∀ n ∈ l, W64 n) : ∀ (r pre : List Int) (w : List UInt8), l = pre ++ r → w.length + 10 * r.length ≤ 1000000000 →
    lv (cv (ev X E0) xf73_l0) (rl [0, 1, 0, 4, 0, 0]) 3 (S73 d part p l 1280 w (pre.length : Nat)) = some (XExit.exit 0, St.mk (tmOf 22 []) (B73 d p 1280 (w ++ zzs r)))
  | [], pre, w, e, _ => by
    rw [List.append_nil] at e
    rw [← e, zzs, List.append_nil]
    exact l73_3 d part p l w l.length true h not_lt_map
  | y :: r, pre, w, e, hw => by
    have hat : l[pre.length]? = some y := by rw [e]; simp
    have hlen : l.length = pre.length + r.length + 1 := by rw [e]; simp; omega
    have hy := hn y (by rw [e]; simp)
    have hz := zz_len hy
    rw [List.length_cons] at hw
    have st := l73_1 d part p l w pre.length true h y (lt_map (by omega)) hat rfl hy.1 hy.2 (by omega)
    rw [wrap_next (y := y) (by omega)] at st
    have ih := a73t (p := p) h hl hn r (pre ++ [y]) (w ++ vb (zz y)) (by rw [e]; simp) (by rw [List.length_append]; omega)
    rw [List.append_assoc] at ih
    exact st.trans ih
theorem s73 (d part : Int) (p : Req) (l : List Int) (w : List UInt8) (h0 : 0 ≤ d) (h1 : d ≤ 10) (hn : ∀ n ∈ l, W64 n) (hw : w.length + 10 * l.length ≤ 1000000) :
    cc (ev X E0) 73 [AV.i part, AV.sl .full 1 (l.map pvI), AV.c (.ptr 0 0), AV.c (.ptr 1 0)] (B73 d p 0 w) = some (.tup [], B73 d p 0 (if hasB d part = true then w ++ zzs l else w)) := by
  have h := s74 d part h0 h1
  cases hb : hasB d part with
  | false =>
    rw [hb] at h
    simp only [Bool.false_eq_true, if_false]
    exact f73a_1 d part p l w w (a73f h (by omega) l [] rfl)
  | true =>
    rw [hb] at h
    simp only [if_true]
    cases l with
    | nil => rw [zzs, List.append_nil]; exact f73a_1 d part p [] w w (l73a_3 d part p [] w 0 true h (by simp))
    | cons y r =>
      have hy := hn y (by simp)
      have hz := zz_len hy
      rw [List.length_cons] at hw
      have st := l73a_1 d part p (y :: r) w 0 true h y (by simp) rfl rfl hy.1 hy.2 (by omega)
      rw [show IntKind.wrap .i64 (((0 : Nat) : Int) + 1) = (([y].length : Nat) : Int) by rfl] at st
      have ih := a73t (p := p) h (by rw [List.length_cons]; omega) hn r [y] (w ++ vb (zz y)) rfl (by rw [List.length_append]; omega)
      rw [List.append_assoc] at ih
      exact f73b_1 d part p (y :: r) w _ (st.trans ih)
theorem f82f_1 (l : List Int) (h : lv (cv (ev X E0) xf82_l0) (rl [0, 2, 0]) 0 (S82 l (.pv (.sl SO.full 1 [])) 0) = some (XExit.exit 0, St.mk (tmOf 22 [(3, AV.c (.pv (.sl SO.full 1 [])))]) [])) :
    cc (ev X E0) 82 [AV.c (.pv (.sl SO.full 1 (List.map pvI l)))] [] = some (AV.c (.pv (.str [])), []) :=
  cc_path (x := xf82) rfl [.loop (XExit.exit (0 : Nat)) (St.mk (tmOf (22 : Nat) [((3 : Nat), AV.c (.pv (.sl SO.full (1 : Nat) [])))]) [])]
    (c := rq [(1, type_of% h)]) (by kernel_rfl)
    (aq ⟨h, trivial⟩)
theorem f82_1 (l : List Int) (w : List UInt8) (h : lv (cv (ev X E0) xf82_l0) (rl [0, 2, 0]) 0 (S82 l (.pv (.sl SO.full 1 [])) 0) = some (XExit.exit 0, St.mk (tmOf 22 [(3, AV.c (.own 1279 1 (pvBytes w)))]) [])) :
    cc (ev X E0) 82 [AV.c (.pv (.sl SO.full 1 (List.map pvI l)))] [] = some (AV.c (.pv (.str w)), []) :=
  cc_path (x := xf82) rfl [.loop (XExit.exit 0) (St.mk (tmOf 22 [(3, AV.c (.own 1279 1 (pvBytes w)))]) []), .bytes w]
    (c := rq [(1, type_of% h), (1, bytesOf' (pvBytes w) = some w)]) (by kernel_rfl)
    (aq ⟨h, (bytesOf_pv _), trivial⟩)
theorem a82 {l : List Int} (hl : l.length ≤ 1000) (hn : ∀ n ∈ l, W64 n) : ∀ (r pre : List Int) (w : List UInt8), l = pre ++ r → w.length ≤ 10 * pre.length →
    lv (cv (ev X E0) xf82_l0) (rl [0, 2, 0]) 0 (S82 l (CV.own 1279 1 (pvBytes w)) (pre.length : Nat)) = some (XExit.exit 0, St.mk (tmOf 22 [(3, AV.c (CV.own 1279 1 (pvBytes (w ++ zzs r))))]) [])
  | [], pre, w, e, _ => by
    rw [List.append_nil] at e
    rw [← e, zzs, List.append_nil]
    exact l82_2 l w l.length 1279 not_lt_map
  | y :: r, pre, w, e, hw => by
    have hat : l[pre.length]? = some y := by rw [e]; simp
    have hlen : l.length = pre.length + r.length + 1 := by rw [e]; simp; omega
    have hy := hn y (by rw [e]; simp)
    have hz := zz_len hy
    have st := l82_1 l w pre.length 1279 y (lt_map (by omega)) hat hy.1 hy.2 (by omega) (by have := zz_lt hy.1 hy.2; omega) (by rw [pvBytes_length, pvBytes_length]; omega)
    rw [wrap_next (y := y) (by omega), ← pvBytes_append] at st
    have ih := a82 hl hn r (pre ++ [y]) (w ++ vb (zz y)) (by rw [e]; simp) (by rw [List.length_append, List.length_append, List.length_singleton]; omega)
    rw [List.append_assoc] at ih
    exact st.trans ih
theorem s82 (l : List Int) (hl : l.length ≤ 1000) (hn : ∀ n ∈ l, W64 n) : cc (ev X E0) 82 [AV.sl .full 1 (l.map pvI)] [] = some (AV.s (zzs l), []) := by
  cases l with
  | nil => exact f82f_1 [] (l82f_3 [] 0 (by simp))
  | cons y r =>
    have hy := hn y (by simp)
    have hz := zz_len hy
    have st := l82f_2 (y :: r) 0 y (by simp) rfl hy.1 hy.2 (by omega) (by have := zz_lt hy.1 hy.2; omega) (pv_ne (vb_pos _)) (by simp only [List.length_nil, pvBytes_length]; omega)
    rw [show IntKind.wrap .i64 (((0 : Nat) : Int) + 1) = (([y].length : Nat) : Int) by rfl, List.nil_append] at st
    exact f82_1 (y :: r) _ (st.trans (a82 hl hn r [y] (vb (zz y)) rfl (by simp; omega)))
theorem s85 (b : Bool) : cc (ev X E0) 85 [AV.b b] [] = some (AV.s (bb b), []) := by
  cases b with
  | true => rw [bb_eq]; exact f85_1 true rfl
  | false => rw [bb_eq]; exact f85_2 false rfl
theorem s73_1 (d part : Int) (p : Req) (n1 : Int) (w : List UInt8) (h0 : 0 ≤ d) (h1 : d ≤ 10) (hn : ∀ n ∈ [n1], W64 n) (hw : w.length ≤ 900000) :
    cc (ev X E0) 73 [AV.i part, AV.c (CV.pv (PV.sl .full 1 [PV.int .i64 n1])), AV.c (.ptr 0 0), AV.c (.ptr 1 0)] (B73 d p 0 w) = some (.tup [], B73 d p 0 (if hasB d part = true then w ++ zzs [n1] else w)) :=
  s73 d part p [n1] w h0 h1 hn (by simp only [List.length_cons, List.length_nil]; omega)
theorem s73_8 (d part : Int) (p : Req) (n1 n2 n3 n4 n5 n6 n7 n8 : Int) (w : List UInt8) (h0 : 0 ≤ d) (h1 : d ≤ 10) (hn : ∀ n ∈ [n1, n2, n3, n4, n5, n6, n7, n8], W64 n) (hw : w.length ≤ 900000) :
    cc (ev X E0) 73 [AV.i part, AV.c (CV.pv (PV.sl .full 1 [PV.int .i64 n1, PV.int .i64 n2, PV.int .i64 n3, PV.int .i64 n4, PV.int .i64 n5, PV.int .i64 n6, PV.int .i64 n7, PV.int .i64 n8])), AV.c (.ptr 0 0), AV.c (.ptr 1 0)] (B73 d p 0 w) = some (.tup [], B73 d p 0 (if hasB d part = true then w ++ zzs [n1, n2, n3, n4, n5, n6, n7, n8] else w)) :=
  s73 d part p [n1, n2, n3, n4, n5, n6, n7, n8] w h0 h1 hn (by simp only [List.length_cons, List.length_nil]; omega)
theorem s82_1 (n1 : Int) (hn : ∀ n ∈ [n1], W64 n) : cc (ev X E0) 82 [AV.c (CV.pv (PV.sl .full 1 [PV.int .i64 n1]))] [] = some (AV.s (zzs [n1]), []) := s82 [n1] (by simp) hn
theorem s82_2 (n1 n2 : Int) (hn : ∀ n ∈ [n1, n2], W64 n) : cc (ev X E0) 82 [AV.c (CV.pv (PV.sl .full 1 [PV.int .i64 n1, PV.int .i64 n2]))] [] = some (AV.s (zzs [n1, n2]), []) := s82 [n1, n2] (by simp) hn
theorem s82_8 (n1 n2 n3 n4 n5 n6 n7 n8 : Int) (hn : ∀ n ∈ [n1, n2, n3, n4, n5, n6, n7, n8], W64 n) : cc (ev X E0) 82 [AV.c (CV.pv (PV.sl .full 1 [PV.int .i64 n1, PV.int .i64 n2, PV.int .i64 n3, PV.int .i64 n4, PV.int .i64 n5, PV.int .i64 n6, PV.int .i64 n7, PV.int .i64 n8]))] [] = some (AV.s (zzs [n1, n2, n3, n4, n5, n6, n7, n8]), []) := s82 [n1, n2, n3, n4, n5, n6, n7, n8] (by simp) hn
end Go.Sx.Tryd
