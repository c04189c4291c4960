/- The bytes of a request: how parts are written. -/
import Derived.Test.YtplknajjcllmkaaDoorH9
namespace Go.Sx.Tryd
open Go Go.Sx
def zzs : List Int → List UInt8
  | [] => []
  | n :: r => vb (zz n) ++ zzs r
abbrev Req.rc (p : Req) : List CV := [CV.pv (PV.int .i64 p.racc), CV.pv (PV.int .i64 p.rkind), CV.pv (PV.int .i64 p.rcur), CV.pv (PV.int .i64 p.rcust), CV.pv (PV.int .i64 p.rprod), CV.pv (PV.int .i64 p.rpart), CV.pv (PV.int .i32 p.rfrom), CV.pv (PV.int .i32 p.rto)]
theorem f85_1 (b : Bool) (g1 : b = true) :
    cc (ev X E0) 85 [AV.c (.pv (.bool b))] [] = some (AV.c (.pv (.str [1])), []) :=
  cc_path (x := xf85) rfl [.br true]
    (c := [b = true]) (by kernel_rfl)
    ⟨g1, trivial⟩
theorem f85_2 (b : Bool) (g1 : b = false) :
    cc (ev X E0) 85 [AV.c (.pv (.bool b))] [] = some (AV.c (.pv (.str [0])), []) :=
  cc_path (x := xf85) rfl [.br false]
    (c := [b = false]) (by kernel_rfl)
    ⟨g1, trivial⟩
abbrev S82 (l : List Int) (x : CV) (i : Int) : St := St.mk (tmOf 22 [(0, AV.c (CV.pv (PV.sl SO.full 1 (List.map pvI l)))), (3, AV.c x), (4, AV.c (CV.pv (PV.int .i64 i)))]) []
theorem l82f_2 (l : List Int) (i : Nat) (y1 : Int) (g1 : (↑i : Int) < (↑(List.length (List.map pvI l)) : Int)) (g2 : l[i]? = some y1) (g3 : -9223372036854775808 ≤ y1) (g4 : y1 ≤ 9223372036854775807) (g5 : 0 ≤ (↑(zz y1) : Int)) (g6 : (↑(zz y1) : Int) < 18446744073709551616) (g7 : pvBytes (vb (zz y1)) ≠ []) (g8 : (↑(0 + List.length (pvBytes (vb (zz y1)))) : Int) * 1 ≤ 140737488355328) :
    lv (cv (ev X E0) xf82_l0) (rl [0, 2, 0]) 0 (S82 l (.pv (.sl SO.full 1 [])) (↑i : Int)) = lv (cv (ev X E0) xf82_l0) (rl [0, 2, 0]) 0 (St.mk (tmOf 22 [(0, AV.c (.pv (.sl SO.full 1 (List.map pvI l)))), (3, AV.c (.own 1279 1 ([] ++ pvBytes (vb (zz y1))))), (4, AV.c (vi (IntKind.wrap .i64 ((↑i : Int) + 1))))]) []) :=
  lv_next [.br true, .el (.int .i64 y1), .call (AV.c (.pv (.int .u64 (↑(zz y1) : Int)))) [], .call (AV.c (.own 0 1 (pvBytes (vb (zz y1))))) [], .emp false]
    (c := rq [(1, decide ((↑i : Int) < (↑(List.length (List.map pvI l)) : Int)) = true), (1, 0 ≤ (↑i : Int)), (1, (List.map pvI l)[i]? = some (PV.int .i64 y1)), (1, cc (ev X E0) 121 [AV.c (vi y1)] [] = some (AV.c (.pv (.int .u64 (↑(zz y1) : Int))), [])), (1, cc (ev X E0) 81 [AV.c (.pv (.int .u64 (↑(zz y1) : Int)))] [] = some (AV.c (.own 0 1 (pvBytes (vb (zz y1)))), [])), ty g7, ty g8]) (by kernel_rfl)
    (aq ⟨(dT g1), (Int.natCast_nonneg _), (map_at g2), (rZig _ g3 g4), (rVint _ g5 g6), g7, g8, trivial⟩)
theorem l82f_3 (l : List Int) (i : Nat) (g1 : ¬(↑i : Int) < (↑(List.length (List.map pvI l)) : Int)) :
    lv (cv (ev X E0) xf82_l0) (rl [0, 2, 0]) 0 (S82 l (.pv (.sl SO.full 1 [])) (↑i : Int)) = some (XExit.exit 0, St.mk (tmOf 22 [(3, AV.c (.pv (.sl SO.full 1 [])))]) []) :=
  lv_exit [.br false]
    (c := [decide ((↑i : Int) < (↑(List.length (List.map pvI l)) : Int)) = false]) (by kernel_rfl)
    ⟨(dF g1), trivial⟩
theorem l82_1 (l : List Int) (w : List UInt8) (i g : Nat) (y1 : Int) (g1 : (↑i : Int) < (↑(List.length (List.map pvI l)) : Int)) (g2 : l[i]? = some y1) (g3 : -9223372036854775808 ≤ y1) (g4 : y1 ≤ 9223372036854775807) (g5 : 0 ≤ (↑(zz y1) : Int)) (g6 : (↑(zz y1) : Int) < 18446744073709551616) (g7 : (↑(List.length (pvBytes w) + List.length (pvBytes (vb (zz y1)))) : Int) * 1 ≤ 140737488355328) :
    lv (cv (ev X E0) xf82_l0) (rl [0, 2, 0]) 0 (S82 l (.own g 1 (pvBytes w)) (↑i : Int)) = lv (cv (ev X E0) xf82_l0) (rl [0, 2, 0]) 0 (St.mk (tmOf 22 [(0, AV.c (.pv (.sl SO.full 1 (List.map pvI l)))), (3, AV.c (.own 1279 1 (pvBytes w ++ pvBytes (vb (zz y1))))), (4, AV.c (vi (IntKind.wrap .i64 ((↑i : Int) + 1))))]) []) :=
  lv_next [.br true, .el (.int .i64 y1), .call (AV.c (.pv (.int .u64 (↑(zz y1) : Int)))) [], .call (AV.c (.own 0 1 (pvBytes (vb (zz y1))))) []]
    (c := rq [(1, decide ((↑i : Int) < (↑(List.length (List.map pvI l)) : Int)) = true), (1, 0 ≤ (↑i : Int)), (1, (List.map pvI l)[i]? = some (PV.int .i64 y1)), (1, cc (ev X E0) 121 [AV.c (vi y1)] [] = some (AV.c (.pv (.int .u64 (↑(zz y1) : Int))), [])), (1, cc (ev X E0) 81 [AV.c (.pv (.int .u64 (↑(zz y1) : Int)))] [] = some (AV.c (.own 0 1 (pvBytes (vb (zz y1)))), [])), ty g7]) (by kernel_rfl)
    (aq ⟨(dT g1), (Int.natCast_nonneg _), (map_at g2), (rZig _ g3 g4), (rVint _ g5 g6), g7, trivial⟩)
theorem l82_2 (l : List Int) (w : List UInt8) (i g : Nat) (g1 : ¬(↑i : Int) < (↑(List.length (List.map pvI l)) : Int)) :
    lv (cv (ev X E0) xf82_l0) (rl [0, 2, 0]) 0 (S82 l (.own g 1 (pvBytes w)) (↑i : Int)) = some (XExit.exit 0, St.mk (tmOf 22 [(3, AV.c (.own g 1 (pvBytes w)))]) []) :=
  lv_exit [.br false]
    (c := [decide ((↑i : Int) < (↑(List.length (List.map pvI l)) : Int)) = false]) (by kernel_rfl)
    ⟨(dF g1), trivial⟩
end Go.Sx.Tryd
/- The bytes of a request, of the program and of the document: what is written. -/
namespace Go.Sx.Tryd
open Go Go.Sx
theorem zz_len {n : Int} (h : W64 n) : (vb (zz n)).length ≤ 10 := vb_len10 (zz_lt h.1 h.2)
theorem zzs_len : ∀ {l : List Int}, (∀ n ∈ l, W64 n) → (zzs l).length ≤ 10 * l.length
  | [], _ => by simp [zzs]
  | x :: r, h => by
    have := zz_len (h x (by simp))
    have ih := zzs_len (l := r) fun y hy => h y (by simp [hy])
    rw [zzs, List.length_append, List.length_cons]; omega
theorem wrap_next {pre : List Int} {y : Int} (h : pre.length ≤ 1000000000) : IntKind.wrap .i64 ((pre.length : Int) + 1) = (((pre ++ [y]).length : Nat) : Int) := by rw [wi64 (by omega) (by omega), List.length_append, List.length_singleton]; omega
theorem f82f_1 (l : List Int) (h : lv (cv (ev X E0) xf82_l0) (rl [0, 2, 0]) 0 (S82 l (.pv (.sl SO.full 1 [])) 0) = some (XExit.exit 0, St.mk (tmOf 22 [(3, AV.c (.pv (.sl SO.full 1 [])))]) [])) :
    cc (ev X E0) 82 [AV.c (.pv (.sl SO.full 1 (List.map pvI l)))] [] = some (AV.c (.pv (.str [])), []) :=
  cc_path (x := xf82) rfl [.loop (XExit.exit (0 : Nat)) (St.mk (tmOf (22 : Nat) [((3 : Nat), AV.c (.pv (.sl SO.full (1 : Nat) [])))]) [])]
    (c := rq [ty h]) (by kernel_rfl)
    (aq ⟨h, trivial⟩)
theorem f82_1 (l : List Int) (w : List UInt8) (h : lv (cv (ev X E0) xf82_l0) (rl [0, 2, 0]) 0 (S82 l (.pv (.sl SO.full 1 [])) 0) = some (XExit.exit 0, St.mk (tmOf 22 [(3, AV.c (.own 1279 1 (pvBytes w)))]) [])) :
    cc (ev X E0) 82 [AV.c (.pv (.sl SO.full 1 (List.map pvI l)))] [] = some (AV.c (.pv (.str w)), []) :=
  cc_path (x := xf82) rfl [.loop (XExit.exit 0) (St.mk (tmOf 22 [(3, AV.c (.own 1279 1 (pvBytes w)))]) []), .bytes w]
    (c := rq [ty h, (1, bytesOf' (pvBytes w) = some w)]) (by kernel_rfl)
    (aq ⟨h, (bytesOf_pv _), trivial⟩)
theorem a82 {l : List Int} (hl : l.length ≤ 1000) (hn : ∀ n ∈ l, W64 n) : ∀ (r pre : List Int) (w : List UInt8), l = pre ++ r → w.length ≤ 10 * pre.length →
    lv (cv (ev X E0) xf82_l0) (rl [0, 2, 0]) 0 (S82 l (CV.own 1279 1 (pvBytes w)) (pre.length : Nat)) = some (XExit.exit 0, St.mk (tmOf 22 [(3, AV.c (CV.own 1279 1 (pvBytes (w ++ zzs r))))]) [])
  | [], pre, w, e, _ => by
    rw [List.append_nil] at e
    rw [← e, zzs, List.append_nil]
    exact l82_2 l w l.length 1279 not_lt_map
  | y :: r, pre, w, e, hw => by
    have hat : l[pre.length]? = some y := by rw [e]; simp
    have hlen : l.length = pre.length + r.length + 1 := by rw [e]; simp; omega
    have hy := hn y (by rw [e]; simp)
    have hz := zz_len hy
    have st := l82_1 l w pre.length 1279 y (lt_map (by omega)) hat hy.1 hy.2 (by omega) (by have := zz_lt hy.1 hy.2; omega) (by rw [pvBytes_length, pvBytes_length]; omega)
    rw [wrap_next (y := y) (by omega), ← pvBytes_append] at st
    have ih := a82 hl hn r (pre ++ [y]) (w ++ vb (zz y)) (by rw [e]; simp) (by rw [List.length_append, List.length_append, List.length_singleton]; omega)
    rw [List.append_assoc] at ih
    exact st.trans ih
theorem s82 (l : List Int) (hl : l.length ≤ 1000) (hn : ∀ n ∈ l, W64 n) : cc (ev X E0) 82 [AV.sl .full 1 (l.map pvI)] [] = some (AV.s (zzs l), []) := by
  cases l with
  | nil => exact f82f_1 [] (l82f_3 [] 0 (by simp))
  | cons y r =>
    have hy := hn y (by simp)
    have hz := zz_len hy
    have st := l82f_2 (y :: r) 0 y (by simp) rfl hy.1 hy.2 (by omega) (by have := zz_lt hy.1 hy.2; omega) (pv_ne (vb_pos _)) (by simp only [List.length_nil, pvBytes_length]; omega)
    rw [show IntKind.wrap .i64 (((0 : Nat) : Int) + 1) = (([y].length : Nat) : Int) by rfl, List.nil_append] at st
    exact f82_1 (y :: r) _ (st.trans (a82 hl hn r [y] (vb (zz y)) rfl (by simp; omega)))
theorem s85 (b : Bool) : cc (ev X E0) 85 [AV.b b] [] = some (AV.s (bb b), []) := by
  cases b with
  | true => rw [bb_eq]; exact f85_1 true rfl
  | false => rw [bb_eq]; exact f85_2 false rfl
theorem s82_1 (n1 : Int) (hn : ∀ n ∈ [n1], W64 n) : cc (ev X E0) 82 [AV.c (CV.pv (PV.sl .full 1 [PV.int .i64 n1]))] [] = some (AV.s (zzs [n1]), []) := s82 [n1] (by simp) hn
theorem s82_2 (n1 n2 : Int) (hn : ∀ n ∈ [n1, n2], W64 n) : cc (ev X E0) 82 [AV.c (CV.pv (PV.sl .full 1 [PV.int .i64 n1, PV.int .i64 n2]))] [] = some (AV.s (zzs [n1, n2]), []) := s82 [n1, n2] (by simp) hn
theorem s82_8 (n1 n2 n3 n4 n5 n6 n7 n8 : Int) (hn : ∀ n ∈ [n1, n2, n3, n4, n5, n6, n7, n8], W64 n) : cc (ev X E0) 82 [AV.c (CV.pv (PV.sl .full 1 [PV.int .i64 n1, PV.int .i64 n2, PV.int .i64 n3, PV.int .i64 n4, PV.int .i64 n5, PV.int .i64 n6, PV.int .i64 n7, PV.int .i64 n8]))] [] = some (AV.s (zzs [n1, n2, n3, n4, n5, n6, n7, n8]), []) := s82 [n1, n2, n3, n4, n5, n6, n7, n8] (by simp) hn
end Go.Sx.Tryd
/- The bytes of a posting that is asked for: the legs. -/
namespace Go.Sx.Tryd
open Go Go.Sx
abbrev Wlb (l : List Int) : Prop := ∀ n ∈ l, W64 n
abbrev T74b (d k : Int) (b : Bool) : Prop := cc (ev X E0) 74 [AV.c (vi d), AV.c (vi k)] [] = some (AV.c (.pv (.bool b)), [])
abbrev S41 (p : Req) (w : List UInt8) (i : Int) : St := St.mk (tmOf 194 [(1, AV.c (CV.ptr 0 0)), (3, AV.c (CV.pv (PV.str w))), (5, AV.c (CV.pv (PV.int .i64 i)))]) [Box.cells (Req.csD 4 p), Box.cells (Req.rc p)]
theorem l41_1 (p : Req) (w : List UInt8) (i : Nat) (hs : szOk 3 (.pv (.sl (Req.so p) (Req.sz p) (List.map Leg.pv (Req.legs p)))) = true) (y1 : Leg) (g1 : (↑i : Int) < (↑(List.length (List.map Leg.pv (Req.legs p))) : Int)) (g2 : (Req.legs p)[i]? = some y1) (g3 : Wlb [y1.acc]) (g4 : List.length w + List.length (zzs [y1.acc]) ≤ 9223372036854775807) (g5 : -9223372036854775808 ≤ y1.cur) (g6 : y1.cur ≤ 9223372036854775807) (g7 : -9223372036854775808 ≤ y1.minor) (g8 : y1.minor ≤ 9223372036854775807) (g9 : List.length (w ++ zzs [y1.acc]) + List.length (mb y1.cur y1.minor) ≤ 9223372036854775807) :
    lv (cv (ev X E0) xf41_l0) (rl [1, 1, 1]) 2 (S41 p w (↑i : Int)) = lv (cv (ev X E0) xf41_l0) (rl [1, 1, 1]) 2 (St.mk (tmOf 194 [(1, AV.c (.ptr 0 0)), (3, AV.c (.pv (.str (w ++ zzs [y1.acc] ++ mb y1.cur y1.minor)))), (5, AV.c (vi (IntKind.wrap .i64 ((↑i : Int) + 1))))]) [.cells (Req.csD 4 p), .cells (Req.rc p)]) :=
  lv_next [.br true, .sz, .el (Leg.pv y1), .call (AV.c (.pv (.str (zzs [y1.acc])))) [], .sz, .el (Leg.pv y1), .call (AV.c (.own 0 1 (pvBytes (mb y1.cur y1.minor)))) [], .bytes (mb y1.cur y1.minor)]
    (c := rq [(1, decide ((↑i : Int) < (↑(List.length (List.map Leg.pv (Req.legs p))) : Int)) = true), ty hs, (1, 0 ≤ (↑i : Int)), (1, (List.map Leg.pv (Req.legs p))[i]? = some (Leg.pv y1)), (1, cc (ev X E0) 82 [AV.c (.pv (.sl SO.full 1 [PV.int .i64 y1.acc]))] [] = some (AV.c (.pv (.str (zzs [y1.acc]))), [])), ty g4, ty hs, (1, 0 ≤ (↑i : Int)), (1, (List.map Leg.pv (Req.legs p))[i]? = some (Leg.pv y1)), (1, cc (ev X E0) 84 [AV.agg [vi y1.cur, vi y1.minor]] [] = some (AV.c (.own 0 1 (pvBytes (mb y1.cur y1.minor))), [])), (1, bytesOf' (pvBytes (mb y1.cur y1.minor)) = some (mb y1.cur y1.minor)), ty g9]) (by kernel_rfl)
    (aq ⟨(dT g1), hs, (Int.natCast_nonneg _), (map_at g2), (s82_1 _ g3), g4, hs, (Int.natCast_nonneg _), (map_at g2), (rMoney _ _ g5 g6 g7 g8), (bytesOf_pv _), g9, trivial⟩)
theorem l41_2 (p : Req) (w : List UInt8) (i : Nat) (_hs : szOk 3 (.pv (.sl (Req.so p) (Req.sz p) (List.map Leg.pv (Req.legs p)))) = true) (g1 : ¬(↑i : Int) < (↑(List.length (List.map Leg.pv (Req.legs p))) : Int)) :
    lv (cv (ev X E0) xf41_l0) (rl [1, 1, 1]) 2 (S41 p w (↑i : Int)) = some (XExit.exit 1, St.mk (tmOf 194 [(3, AV.c (.pv (.str w)))]) [.cells (Req.csD 4 p), .cells (Req.rc p)]) :=
  lv_exit [.br false]
    (c := [decide ((↑i : Int) < (↑(List.length (List.map Leg.pv (Req.legs p))) : Int)) = false]) (by kernel_rfl)
    ⟨(dF g1), trivial⟩
theorem b4_1 (p : Req) (v0 vL out : List UInt8) (h0 : cc (ev X E0) 81 [AV.int IntKind.u64 4] [] = some (AV.c (.own 0 1 (pvBytes v0)), [])) (hL : cc (ev X E0) 81 [AV.int IntKind.u64 (IntKind.wrap .u64 (↑(List.length (List.map Leg.pv (Req.legs p))) : Int))] [] = some (AV.c (.own 0 1 (pvBytes vL)), [])) (hl : lv (cv (ev X E0) xf41_l0) (rl [1, 1, 1]) 2 (S41 p (v0 ++ zzs [IntKind.wrap .i64 (Req.day p)] ++ tb (Req.memo p) ++ vL) 0) = some (XExit.exit 1, St.mk (tmOf 194 [(3, AV.c (.pv (.str out)))]) [.cells (Req.csD 4 p), .cells (Req.rc p)])) (g1 : Wlb [IntKind.wrap .i64 (Req.day p)]) (g2 : List.length v0 + List.length (zzs [IntKind.wrap .i64 (Req.day p)]) ≤ 9223372036854775807) (g3 : List.length (Req.memo p) ≤ 1000000) (g4 : List.length (v0 ++ zzs [IntKind.wrap .i64 (Req.day p)]) + List.length (tb (Req.memo p)) ≤ 9223372036854775807) (g5 : List.length (v0 ++ zzs [IntKind.wrap .i64 (Req.day p)] ++ tb (Req.memo p)) + List.length vL ≤ 9223372036854775807) :
    cc (ev X E0) 41 [AV.agg (Req.csD 4 p)] [] = some (AV.c (.pv (.str out)), []) :=
  cc_path (x := xf41) rfl ([.call (AV.c (.own 0 1 (pvBytes v0))) [], .bytes v0] ++ bs 4 false ++ [.br true, .call (AV.c (.pv (.str (zzs [IntKind.wrap .i64 (Req.day p)])))) [], .call (AV.c (.own 0 1 (pvBytes (tb (Req.memo p))))) [], .bytes (tb (Req.memo p)), .call (AV.c (.own 0 1 (pvBytes vL))) [], .bytes vL, .loop (XExit.exit 1) (St.mk (tmOf 194 [(3, AV.c (.pv (.str out)))]) [.cells (Req.csD 4 p), .cells (Req.rc p)])])
    (c := rq [ty h0, (1, bytesOf' (pvBytes v0) = some v0), (4, false = false), (1, true = true), (1, cc (ev X E0) 82 [AV.c (.pv (.sl SO.full 1 [PV.int .i64 (IntKind.wrap .i64 (Req.day p))]))] [] = some (AV.c (.pv (.str (zzs [IntKind.wrap .i64 (Req.day p)]))), [])), ty g2, (1, cc (ev X E0) 83 [AV.c (.pv (.str (Req.memo p)))] [] = some (AV.c (.own 0 1 (pvBytes (tb (Req.memo p)))), [])), (1, bytesOf' (pvBytes (tb (Req.memo p))) = some (tb (Req.memo p))), ty g4, ty hL, (1, bytesOf' (pvBytes vL) = some vL), ty g5, ty hl]) (by kernel_rfl)
    (aq ⟨h0, (bytesOf_pv _), rfl, rfl, (s82_1 _ g1), g2, (rText _ g3), (bytesOf_pv _), g4, hL, (bytesOf_pv _), g5, hl, trivial⟩)
end Go.Sx.Tryd
/- The bytes of a request: the paths. -/
namespace Go.Sx.Tryd
open Go Go.Sx
abbrev Wla (l : List Int) : Prop := ∀ n ∈ l, W64 n
abbrev T74a (d k : Int) (b : Bool) : Prop := cc (ev X E0) 74 [AV.c (vi d), AV.c (vi k)] [] = some (AV.c (.pv (.bool b)), [])
theorem b0_1 (p : Req) (v0 : List UInt8) (h0 : cc (ev X E0) 81 [AV.int IntKind.u64 0] [] = some (AV.c (.own 0 1 (pvBytes v0)), [])) (g1 : Wla [Req.cid p]) (g2 : List.length v0 + List.length (zzs [Req.cid p]) ≤ 9223372036854775807) (g3 : List.length (Req.cname p) ≤ 1000000) (g4 : List.length (v0 ++ zzs [Req.cid p]) + List.length (tb (Req.cname p)) ≤ 9223372036854775807) (g5 : Wla [Req.ckind p]) (g6 : List.length (v0 ++ zzs [Req.cid p] ++ tb (Req.cname p)) + List.length (zzs [Req.ckind p]) ≤ 9223372036854775807) :
    cc (ev X E0) 41 [AV.agg (Req.csD 0 p)] [] = some (AV.c (.pv (.str (v0 ++ zzs [Req.cid p] ++ tb (Req.cname p) ++ zzs [Req.ckind p]))), []) :=
  cc_path (x := xf41) rfl [.call (AV.c (.own 0 1 (pvBytes v0))) [], .bytes v0, .br true, .call (AV.c (.pv (.str (zzs [Req.cid p])))) [], .call (AV.c (.own 0 1 (pvBytes (tb (Req.cname p))))) [], .bytes (tb (Req.cname p)), .call (AV.c (.pv (.str (zzs [Req.ckind p])))) []]
    (c := rq [ty h0, (1, bytesOf' (pvBytes v0) = some v0), (1, true = true), (1, cc (ev X E0) 82 [AV.c (.pv (.sl SO.full 1 [PV.int .i64 (Req.cid p)]))] [] = some (AV.c (.pv (.str (zzs [Req.cid p]))), [])), ty g2, (1, cc (ev X E0) 83 [AV.c (.pv (.str (Req.cname p)))] [] = some (AV.c (.own 0 1 (pvBytes (tb (Req.cname p)))), [])), (1, bytesOf' (pvBytes (tb (Req.cname p))) = some (tb (Req.cname p))), ty g4, (1, cc (ev X E0) 82 [AV.c (.pv (.sl SO.full 1 [PV.int .i64 (Req.ckind p)]))] [] = some (AV.c (.pv (.str (zzs [Req.ckind p]))), [])), ty g6]) (by kernel_rfl)
    (aq ⟨h0, (bytesOf_pv _), rfl, (s82_1 _ g1), g2, (rText _ g3), (bytesOf_pv _), g4, (s82_1 _ g5), g6, trivial⟩)
theorem b1_1 (p : Req) (v0 : List UInt8) (h0 : cc (ev X E0) 81 [AV.int IntKind.u64 1] [] = some (AV.c (.own 0 1 (pvBytes v0)), [])) (g1 : Wla [Req.racc p, Req.rkind p, Req.rcur p, Req.rcust p, Req.rprod p, Req.rpart p, IntKind.wrap .i64 (Req.rfrom p), IntKind.wrap .i64 (Req.rto p)]) (g2 : List.length v0 + List.length (zzs [Req.racc p, Req.rkind p, Req.rcur p, Req.rcust p, Req.rprod p, Req.rpart p, IntKind.wrap .i64 (Req.rfrom p), IntKind.wrap .i64 (Req.rto p)]) ≤ 9223372036854775807) :
    cc (ev X E0) 41 [AV.agg (Req.csD 1 p)] [] = some (AV.c (.pv (.str (v0 ++ zzs [Req.racc p, Req.rkind p, Req.rcur p, Req.rcust p, Req.rprod p, Req.rpart p, IntKind.wrap .i64 (Req.rfrom p), IntKind.wrap .i64 (Req.rto p)]))), []) :=
  cc_path (x := xf41) rfl [.call (AV.c (.own 0 1 (pvBytes v0))) [], .bytes v0, .br false, .br true, .call (AV.c (.pv (.str (zzs [Req.racc p, Req.rkind p, Req.rcur p, Req.rcust p, Req.rprod p, Req.rpart p, IntKind.wrap .i64 (Req.rfrom p), IntKind.wrap .i64 (Req.rto p)])))) []]
    (c := rq [ty h0, (1, bytesOf' (pvBytes v0) = some v0), (1, false = false), (1, true = true), (1, cc (ev X E0) 82 [AV.c (.pv (.sl SO.full 1 [PV.int .i64 (Req.racc p), .int .i64 (Req.rkind p), .int .i64 (Req.rcur p), .int .i64 (Req.rcust p), .int .i64 (Req.rprod p), .int .i64 (Req.rpart p), .int .i64 (IntKind.wrap .i64 (Req.rfrom p)), .int .i64 (IntKind.wrap .i64 (Req.rto p))]))] [] = some (AV.c (.pv (.str (zzs [Req.racc p, Req.rkind p, Req.rcur p, Req.rcust p, Req.rprod p, Req.rpart p, IntKind.wrap .i64 (Req.rfrom p), IntKind.wrap .i64 (Req.rto p)]))), [])), ty g2]) (by kernel_rfl)
    (aq ⟨h0, (bytesOf_pv _), rfl, rfl, (s82_8 _ _ _ _ _ _ _ _ g1), g2, trivial⟩)
theorem b2_1 (p : Req) (v0 : List UInt8) (h0 : cc (ev X E0) 81 [AV.int IntKind.u64 2] [] = some (AV.c (.own 0 1 (pvBytes v0)), [])) (g1 : Wla [Req.acc p, IntKind.wrap .i64 (Req.day p)]) (g2 : List.length v0 + List.length (zzs [Req.acc p, IntKind.wrap .i64 (Req.day p)]) ≤ 9223372036854775807) :
    cc (ev X E0) 41 [AV.agg (Req.csD 2 p)] [] = some (AV.c (.pv (.str (v0 ++ zzs [Req.acc p, IntKind.wrap .i64 (Req.day p)]))), []) :=
  cc_path (x := xf41) rfl [.call (AV.c (.own 0 1 (pvBytes v0))) [], .bytes v0, .br false, .br false, .br true, .call (AV.c (.pv (.str (zzs [Req.acc p, IntKind.wrap .i64 (Req.day p)])))) []]
    (c := rq [ty h0, (1, bytesOf' (pvBytes v0) = some v0), (2, false = false), (1, true = true), (1, cc (ev X E0) 82 [AV.c (.pv (.sl SO.full 1 [PV.int .i64 (Req.acc p), .int .i64 (IntKind.wrap .i64 (Req.day p))]))] [] = some (AV.c (.pv (.str (zzs [Req.acc p, IntKind.wrap .i64 (Req.day p)]))), [])), ty g2]) (by kernel_rfl)
    (aq ⟨h0, (bytesOf_pv _), rfl, rfl, (s82_2 _ _ g1), g2, trivial⟩)
theorem b3_1 (p : Req) (v0 : List UInt8) (h0 : cc (ev X E0) 81 [AV.int IntKind.u64 3] [] = some (AV.c (.own 0 1 (pvBytes v0)), [])) (g1 : List.length (Req.text p) ≤ 1000000) (g2 : List.length v0 + List.length (tb (Req.text p)) ≤ 9223372036854775807) :
    cc (ev X E0) 41 [AV.agg (Req.csD 3 p)] [] = some (AV.c (.pv (.str (v0 ++ tb (Req.text p)))), []) :=
  cc_path (x := xf41) rfl ([.call (AV.c (.own 0 1 (pvBytes v0))) [], .bytes v0] ++ bs 3 false ++ [.br true, .call (AV.c (.own 0 1 (pvBytes (tb (Req.text p))))) [], .bytes (tb (Req.text p))])
    (c := rq [ty h0, (1, bytesOf' (pvBytes v0) = some v0), (3, false = false), (1, true = true), (1, cc (ev X E0) 83 [AV.c (.pv (.str (Req.text p)))] [] = some (AV.c (.own 0 1 (pvBytes (tb (Req.text p)))), [])), (1, bytesOf' (pvBytes (tb (Req.text p))) = some (tb (Req.text p))), ty g2]) (by kernel_rfl)
    (aq ⟨h0, (bytesOf_pv _), rfl, rfl, (rText _ g1), (bytesOf_pv _), g2, trivial⟩)
theorem b5_1 (p : Req) (v0 : List UInt8) (h0 : cc (ev X E0) 81 [AV.int IntKind.u64 5] [] = some (AV.c (.own 0 1 (pvBytes v0)), [])) (g1 : Wla [Req.id p]) (g2 : List.length v0 + List.length (zzs [Req.id p]) ≤ 9223372036854775807) :
    cc (ev X E0) 41 [AV.agg (Req.csD 5 p)] [] = some (AV.c (.pv (.str (v0 ++ zzs [Req.id p]))), []) :=
  cc_path (x := xf41) rfl ([.call (AV.c (.own 0 1 (pvBytes v0))) [], .bytes v0] ++ bs 5 false ++ [.br true, .call (AV.c (.pv (.str (zzs [Req.id p])))) []])
    (c := rq [ty h0, (1, bytesOf' (pvBytes v0) = some v0), (5, false = false), (1, true = true), (1, cc (ev X E0) 82 [AV.c (.pv (.sl SO.full 1 [PV.int .i64 (Req.id p)]))] [] = some (AV.c (.pv (.str (zzs [Req.id p]))), [])), ty g2]) (by kernel_rfl)
    (aq ⟨h0, (bytesOf_pv _), rfl, rfl, (s82_1 _ g1), g2, trivial⟩)
theorem b6_1 (p : Req) (v0 : List UInt8) (h0 : cc (ev X E0) 81 [AV.int IntKind.u64 6] [] = some (AV.c (.own 0 1 (pvBytes v0)), [])) (g1 : Wla [Req.acc p]) (g2 : List.length v0 + List.length (zzs [Req.acc p]) ≤ 9223372036854775807) (g3 : -9223372036854775808 ≤ Req.cur p) (g4 : Req.cur p ≤ 9223372036854775807) (g5 : -9223372036854775808 ≤ Req.minor p) (g6 : Req.minor p ≤ 9223372036854775807) (g7 : List.length (v0 ++ zzs [Req.acc p]) + List.length (mb (Req.cur p) (Req.minor p)) ≤ 9223372036854775807) (g8 : Wla [Req.id p, IntKind.wrap .i64 (Req.day p)]) (g9 : List.length (v0 ++ zzs [Req.acc p] ++ mb (Req.cur p) (Req.minor p)) + List.length (zzs [Req.id p, IntKind.wrap .i64 (Req.day p)]) ≤ 9223372036854775807) :
    cc (ev X E0) 41 [AV.agg (Req.csD 6 p)] [] = some (AV.c (.pv (.str (v0 ++ zzs [Req.acc p] ++ mb (Req.cur p) (Req.minor p) ++ zzs [Req.id p, IntKind.wrap .i64 (Req.day p)]))), []) :=
  cc_path (x := xf41) rfl ([.call (AV.c (.own 0 1 (pvBytes v0))) [], .bytes v0] ++ bs 6 false ++ [.br true, .call (AV.c (.pv (.str (zzs [Req.acc p])))) [], .call (AV.c (.own 0 1 (pvBytes (mb (Req.cur p) (Req.minor p))))) [], .bytes (mb (Req.cur p) (Req.minor p)), .call (AV.c (.pv (.str (zzs [Req.id p, IntKind.wrap .i64 (Req.day p)])))) []])
    (c := rq [ty h0, (1, bytesOf' (pvBytes v0) = some v0), (6, false = false), (1, true = true), (1, cc (ev X E0) 82 [AV.c (.pv (.sl SO.full 1 [PV.int .i64 (Req.acc p)]))] [] = some (AV.c (.pv (.str (zzs [Req.acc p]))), [])), ty g2, (1, cc (ev X E0) 84 [AV.agg [vi (Req.cur p), vi (Req.minor p)]] [] = some (AV.c (.own 0 1 (pvBytes (mb (Req.cur p) (Req.minor p)))), [])), (1, bytesOf' (pvBytes (mb (Req.cur p) (Req.minor p))) = some (mb (Req.cur p) (Req.minor p))), ty g7, (1, cc (ev X E0) 82 [AV.c (.pv (.sl SO.full 1 [PV.int .i64 (Req.id p), .int .i64 (IntKind.wrap .i64 (Req.day p))]))] [] = some (AV.c (.pv (.str (zzs [Req.id p, IntKind.wrap .i64 (Req.day p)]))), [])), ty g9]) (by kernel_rfl)
    (aq ⟨h0, (bytesOf_pv _), rfl, rfl, (s82_1 _ g1), g2, (rMoney _ _ g3 g4 g5 g6), (bytesOf_pv _), g7, (s82_2 _ _ g8), g9, trivial⟩)
theorem b7_1 (p : Req) (v0 : List UInt8) (h0 : cc (ev X E0) 81 [AV.int IntKind.u64 7] [] = some (AV.c (.own 0 1 (pvBytes v0)), [])) (g1 : Wla [Req.id p]) (g2 : List.length v0 + List.length (zzs [Req.id p]) ≤ 9223372036854775807) (g3 : -9223372036854775808 ≤ Req.cur p) (g4 : Req.cur p ≤ 9223372036854775807) (g5 : -9223372036854775808 ≤ Req.minor p) (g6 : Req.minor p ≤ 9223372036854775807) (g7 : List.length (v0 ++ zzs [Req.id p]) + List.length (mb (Req.cur p) (Req.minor p)) ≤ 9223372036854775807) (g8 : List.length (v0 ++ zzs [Req.id p] ++ mb (Req.cur p) (Req.minor p)) + List.length (bb (Req.last p)) ≤ 9223372036854775807) :
    cc (ev X E0) 41 [AV.agg (Req.csD 7 p)] [] = some (AV.c (.pv (.str (v0 ++ zzs [Req.id p] ++ mb (Req.cur p) (Req.minor p) ++ bb (Req.last p)))), []) :=
  cc_path (x := xf41) rfl ([.call (AV.c (.own 0 1 (pvBytes v0))) [], .bytes v0] ++ bs 7 false ++ [.br true, .call (AV.c (.pv (.str (zzs [Req.id p])))) [], .call (AV.c (.own 0 1 (pvBytes (mb (Req.cur p) (Req.minor p))))) [], .bytes (mb (Req.cur p) (Req.minor p)), .call (AV.c (.pv (.str (bb (Req.last p))))) []])
    (c := rq [ty h0, (1, bytesOf' (pvBytes v0) = some v0), (7, false = false), (1, true = true), (1, cc (ev X E0) 82 [AV.c (.pv (.sl SO.full 1 [PV.int .i64 (Req.id p)]))] [] = some (AV.c (.pv (.str (zzs [Req.id p]))), [])), ty g2, (1, cc (ev X E0) 84 [AV.agg [vi (Req.cur p), vi (Req.minor p)]] [] = some (AV.c (.own 0 1 (pvBytes (mb (Req.cur p) (Req.minor p)))), [])), (1, bytesOf' (pvBytes (mb (Req.cur p) (Req.minor p))) = some (mb (Req.cur p) (Req.minor p))), ty g7, (1, cc (ev X E0) 85 [AV.c (.pv (.bool (Req.last p)))] [] = some (AV.c (.pv (.str (bb (Req.last p)))), [])), ty g8]) (by kernel_rfl)
    (aq ⟨h0, (bytesOf_pv _), rfl, rfl, (s82_1 _ g1), g2, (rMoney _ _ g3 g4 g5 g6), (bytesOf_pv _), g7, (s85 _), g8, trivial⟩)
theorem b8_1 (p : Req) (v0 : List UInt8) (h0 : cc (ev X E0) 81 [AV.int IntKind.u64 8] [] = some (AV.c (.own 0 1 (pvBytes v0)), [])) (g1 : Wla [Req.id p]) (g2 : List.length v0 + List.length (zzs [Req.id p]) ≤ 9223372036854775807) :
    cc (ev X E0) 41 [AV.agg (Req.csD 8 p)] [] = some (AV.c (.pv (.str (v0 ++ zzs [Req.id p]))), []) :=
  cc_path (x := xf41) rfl ([.call (AV.c (.own 0 1 (pvBytes v0))) [], .bytes v0] ++ bs 8 false ++ [.br true, .call (AV.c (.pv (.str (zzs [Req.id p])))) []])
    (c := rq [ty h0, (1, bytesOf' (pvBytes v0) = some v0), (8, false = false), (1, true = true), (1, cc (ev X E0) 82 [AV.c (.pv (.sl SO.full 1 [PV.int .i64 (Req.id p)]))] [] = some (AV.c (.pv (.str (zzs [Req.id p]))), [])), ty g2]) (by kernel_rfl)
    (aq ⟨h0, (bytesOf_pv _), rfl, rfl, (s82_1 _ g1), g2, trivial⟩)
theorem b9_1 (p : Req) (v0 : List UInt8) (h0 : cc (ev X E0) 81 [AV.int IntKind.u64 9] [] = some (AV.c (.own 0 1 (pvBytes v0)), [])) (g1 : Wla [IntKind.wrap .i64 (Req.day p)]) (g2 : List.length v0 + List.length (zzs [IntKind.wrap .i64 (Req.day p)]) ≤ 9223372036854775807) (g3 : List.length (v0 ++ zzs [IntKind.wrap .i64 (Req.day p)]) + List.length (bb (Req.last p)) ≤ 9223372036854775807) :
    cc (ev X E0) 41 [AV.agg (Req.csD 9 p)] [] = some (AV.c (.pv (.str (v0 ++ zzs [IntKind.wrap .i64 (Req.day p)] ++ bb (Req.last p)))), []) :=
  cc_path (x := xf41) rfl ([.call (AV.c (.own 0 1 (pvBytes v0))) [], .bytes v0] ++ bs 9 false ++ [.br true, .call (AV.c (.pv (.str (zzs [IntKind.wrap .i64 (Req.day p)])))) [], .call (AV.c (.pv (.str (bb (Req.last p))))) []])
    (c := rq [ty h0, (1, bytesOf' (pvBytes v0) = some v0), (9, false = false), (1, true = true), (1, cc (ev X E0) 82 [AV.c (.pv (.sl SO.full 1 [PV.int .i64 (IntKind.wrap .i64 (Req.day p))]))] [] = some (AV.c (.pv (.str (zzs [IntKind.wrap .i64 (Req.day p)]))), [])), ty g2, (1, cc (ev X E0) 85 [AV.c (.pv (.bool (Req.last p)))] [] = some (AV.c (.pv (.str (bb (Req.last p)))), [])), ty g3]) (by kernel_rfl)
    (aq ⟨h0, (bytesOf_pv _), rfl, rfl, (s82_1 _ g1), g2, (s85 _), g3, trivial⟩)
theorem b10_1 (p : Req) (v0 : List UInt8) (h0 : cc (ev X E0) 81 [AV.int IntKind.u64 10] [] = some (AV.c (.own 0 1 (pvBytes v0)), [])) :
    cc (ev X E0) 41 [AV.agg (Req.csD 10 p)] [] = some (AV.c (.pv (.str v0)), []) :=
  cc_path (x := xf41) rfl ([.call (AV.c (.own 0 1 (pvBytes v0))) [], .bytes v0] ++ bs 10 false)
    (c := rq [ty h0, (1, bytesOf' (pvBytes v0) = some v0), (10, false = false)]) (by kernel_rfl)
    (aq ⟨h0, (bytesOf_pv _), rfl, trivial⟩)
end Go.Sx.Tryd
