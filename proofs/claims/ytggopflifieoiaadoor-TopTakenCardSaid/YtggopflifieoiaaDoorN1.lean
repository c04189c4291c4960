/- Copies, what reverses a posting, and sameness. -/
import Derived.Test.YtggopflifieoiaaDoorK3
import Derived.Test.YtggopflifieoiaaDoorG0
namespace Go.Sx.Tryd
open Go Go.Sx
theorem lt_len {l : List Leg} {i : Nat} (h : i < l.length) : (i : Int) < (((l.map Leg.pv).length : Nat) : Int) := by rw [List.length_map]; omega
theorem f85_3 (l : List Leg) (o : SO) (_hn : CV.some' (.pv (.sl o 3 (List.map Leg.pv l))) = true) (g1 : (o == SO.nil) = false) (g2 : List.map Leg.pv l ≠ []) (g3 : (↑(0 + List.length (List.map Leg.pv l)) : Int) * 24 ≤ 140737488355328) :
    cc (ev X E0) 37 [AV.c (.pv (.sl o 3 (List.map Leg.pv l)))] [] = some (AV.c (.own 0 3 ([] ++ List.map Leg.pv l)), []) :=
  cc_path (x := xf37) rfl [.br false, .emp false]
    (c := rq [ty g1, ty g2, ty g3]) (by kernel_rfl)
    (aq ⟨g1, g2, g3, trivial⟩)
theorem f63_1 (p : Post) (h : cc (ev X E0) 37 [AV.sl p.so 3 (List.map Leg.pv p.legs)] [] = some (AV.c (.own 0 3 (List.map Leg.pv p.legs)), [])) :
    cc (ev X E0) 43 [AV.agg (Post.cs p)] [] = some (AV.agg (Post.cs (sh p)), []) :=
  cc_path (x := xf43) rfl [.call (AV.c (.own 0 3 (List.map Leg.pv p.legs))) []]
    (c := rq [ty h]) (by kernel_rfl)
    (aq ⟨h, trivial⟩)
abbrev Z7 : List CV := [CV.pv (PV.int .i64 0), CV.pv (PV.int .i32 0), CV.pv (PV.int .i32 0), CV.pv (PV.sl SO.nil 0 []), CV.pv (PV.int .i64 0), CV.pv (PV.int .i64 0), CV.pv (PV.str [])]
abbrev B38 (p : Post) (id kn : Int) (es : List PV) (n : Nat) : List Box := [Box.cells (Post.cs p), Box.cells Z7, Box.cells [CV.pv (PV.int .i64 id), CV.pv (PV.int .i32 kn), CV.pv (PV.int .i32 (Post.value p)), CV.ms 3 0 3 n, CV.pv (PV.int .i64 (Post.id p)), CV.pv (PV.int .i64 (Post.kind p)), CV.pv (PV.str (Post.memo p))], Box.row 3 es]
abbrev S38 (p : Post) (id kn : Int) (es : List PV) (n : Nat) (i : Int) : St := St.mk (tmOf 69 [(6, AV.c (CV.ptr 1 0)), (9, AV.c (CV.ptr 2 0)), (43, AV.c (CV.pv (PV.int .i64 (n : Int)))), (44, AV.c (CV.pv (PV.int .i64 i)))]) (B38 p id kn es n)
theorem l38_1 (p : Post) (id kn : Int) (es : List PV) (n i : Nat) (a c m : Int) (hy : es[i]? = some (PV.agg [PV.int .i64 a, .int .i64 c, .int .i64 m])) (g1 : (↑i : Int) < (↑n : Int)) :
    lv (cv (ev X E0) xf13_l0) (rl [6, 2, 33, 0]) 4 (S38 p id kn es n (↑i : Int)) = lv (cv (ev X E0) xf13_l0) (rl [6, 2, 33, 0]) 4 (St.mk (tmOf 69 [(6, AV.c (.ptr 1 0)), (9, AV.c (.ptr 2 0)), (43, AV.c (vi (↑n : Int))), (44, AV.c (vi (IntKind.wrap .i64 ((↑i : Int) + 1))))]) [.cells (Post.cs p), .cells [vi 0, vw 0, vw 0, .pv (.sl SO.nil 0 []), vi 0, vi 0, .pv (.str [])], .cells [vi id, vw kn, vw p.value, .ms 3 0 3 n, vi p.id, vi p.kind, .pv (.str p.memo)], .row 3 (List.set es i (rowOf 3 [PV.int .i64 a, .int .i64 c, .int .i64 (IntKind.wrap .i64 (0 - m))]))]) :=
  lv_next [.br true, .at i 2 (.agg [PV.int .i64 a, .int .i64 c, .int .i64 m]), .at i 2 (.agg [PV.int .i64 a, .int .i64 c, .int .i64 m])]
    (c := rq [(1, decide ((↑i : Int) < (↑n : Int)) = true), (1, 0 ≤ (↑i : Int)), ty g1, (1, 0 + i * 3 + 1 + 1 = i * 3 + 2), ty hy, (1, 0 ≤ (↑i : Int)), ty g1, (1, 0 + i * 3 + 1 + 1 = i * 3 + 2), ty hy]) (by kernel_rfl)
    (aq ⟨(dT g1), (Int.natCast_nonneg _), g1, (by omega), hy, (Int.natCast_nonneg _), g1, (by omega), hy, trivial⟩)
abbrev S96 (l m : List Leg) (o q : SO) (i : Int) : St := St.mk (tmOf 26 [(0, AV.c (CV.pv (PV.sl o 3 (List.map Leg.pv l)))), (1, AV.c (CV.pv (PV.sl q 3 (List.map Leg.pv m)))), (12, AV.c (CV.pv (PV.int .i64 (↑(List.length (List.map Leg.pv l)) : Int)))), (13, AV.c (CV.pv (PV.int .i64 i)))]) []
theorem l96_1 (l m : List Leg) (o q : SO) (i : Nat) (y1 y2 : Leg) (g1 : (↑i : Int) < (↑(List.length (List.map Leg.pv l)) : Int)) (g2 : l[i]? = some y1) (g3 : m[i]? = some y2) (g4 : (y1.acc == y2.acc && (y1.cur == y2.cur && (y1.minor == y2.minor && true))) = false) :
    lv (cv (ev X E0) xf124_l0) (rl [0, 0, 10, 0]) 0 (S96 l m o q (↑i : Int)) = some (XExit.ret, St.mk (tmOf 26 [(4, AV.c (.pv (.bool false)))]) []) :=
  lv_ret [.br true, .el (Leg.pv y1), .el (Leg.pv y2), .br true]
    (c := [decide ((↑i : Int) < (↑(List.length (List.map Leg.pv l)) : Int)) = true, 0 ≤ (↑i : Int), (List.map Leg.pv l)[i]? = some (Leg.pv y1), 0 ≤ (↑i : Int), (List.map Leg.pv m)[i]? = some (Leg.pv y2), (!(y1.acc == y2.acc && (y1.cur == y2.cur && (y1.minor == y2.minor && true)))) = true]) (by kernel_rfl)
    ⟨(dT g1), (Int.natCast_nonneg _), (map_at g2), (Int.natCast_nonneg _), (map_at g3), (not_t g4), trivial⟩
theorem l96_2 (l m : List Leg) (o q : SO) (i : Nat) (y1 y2 : Leg) (g1 : (↑i : Int) < (↑(List.length (List.map Leg.pv l)) : Int)) (g2 : l[i]? = some y1) (g3 : m[i]? = some y2) (g4 : y1.acc = y2.acc ∧ y1.cur = y2.cur ∧ y1.minor = y2.minor ∧ true = true) :
    lv (cv (ev X E0) xf124_l0) (rl [0, 0, 10, 0]) 0 (S96 l m o q (↑i : Int)) = lv (cv (ev X E0) xf124_l0) (rl [0, 0, 10, 0]) 0 (St.mk (tmOf 26 [(0, AV.c (.pv (.sl o 3 (List.map Leg.pv l)))), (1, AV.c (.pv (.sl q 3 (List.map Leg.pv m)))), (12, AV.c (vi (↑(List.length (List.map Leg.pv l)) : Int))), (13, AV.c (vi (IntKind.wrap .i64 ((↑i : Int) + 1))))]) []) :=
  lv_next [.br true, .el (Leg.pv y1), .el (Leg.pv y2), .br false]
    (c := [decide ((↑i : Int) < (↑(List.length (List.map Leg.pv l)) : Int)) = true, 0 ≤ (↑i : Int), (List.map Leg.pv l)[i]? = some (Leg.pv y1), 0 ≤ (↑i : Int), (List.map Leg.pv m)[i]? = some (Leg.pv y2), (!(y1.acc == y2.acc && (y1.cur == y2.cur && (y1.minor == y2.minor && true)))) = false]) (by kernel_rfl)
    ⟨(dT g1), (Int.natCast_nonneg _), (map_at g2), (Int.natCast_nonneg _), (map_at g3), (not_f (and_t (beq_iff_eq.mpr (And.left g4)) (and_t (beq_iff_eq.mpr (And.left (And.right g4))) (and_t (beq_iff_eq.mpr (And.left (And.right (And.right g4)))) (And.right (And.right (And.right g4))))))), trivial⟩
theorem l96_3 (l m : List Leg) (o q : SO) (i : Nat) (g1 : ¬(↑i : Int) < (↑(List.length (List.map Leg.pv l)) : Int)) :
    lv (cv (ev X E0) xf124_l0) (rl [0, 0, 10, 0]) 0 (S96 l m o q (↑i : Int)) = some (XExit.exit 0, St.mk (tmOf 26 []) []) :=
  lv_exit [.br false]
    (c := [decide ((↑i : Int) < (↑(List.length (List.map Leg.pv l)) : Int)) = false]) (by kernel_rfl)
    ⟨(dF g1), trivial⟩
theorem l38x_1 (p : Post) (id kn : Int) (es : List PV) (n i : Nat) (hi : ¬(↑i : Int) < (↑n : Int)) :
    lv (cv (ev X E0) xf13_l0) (rl [6, 2, 33, 0]) 4 (S38 p id kn es n (↑i : Int)) = some (XExit.exit 0, St.mk (tmOf 69 [(6, AV.c (.ptr 1 0)), (9, AV.c (.ptr 2 0))]) [.cells (Post.cs p), .cells [vi 0, vw 0, vw 0, .pv (.sl SO.nil 0 []), vi 0, vi 0, .pv (.str [])], .cells [vi id, vw kn, vw p.value, .ms 3 0 3 n, vi p.id, vi p.kind, .pv (.str p.memo)], .row 3 es]) :=
  lv_exit [.br false]
    (c := [decide ((↑i : Int) < (↑n : Int)) = false]) (by kernel_rfl)
    ⟨(dF hi), trivial⟩
def neg (x : Leg) : Leg := ⟨x.acc, x.cur, -x.minor⟩
theorem a38 {p : Post} {id kn : Int} (hl : p.legs.length ≤ 100) (hm : ∀ x ∈ p.legs, minOk x.minor = true) : ∀ (r pre : List Leg), p.legs = pre ++ r →
    lv (cv (ev X E0) xf13_l0) (rl [6, 2, 33, 0]) 4 (S38 p id kn ((pre.map neg ++ r).map Leg.pv) p.legs.length (pre.length : Nat)) =
      some (XExit.exit 0, St.mk (tmOf 69 [(6, AV.c (CV.ptr 1 0)), (9, AV.c (CV.ptr 2 0))]) (B38 p id kn ((p.legs.map neg).map Leg.pv) p.legs.length))
  | [], pre, e => by
    rw [List.append_nil] at e ⊢
    have hn : ¬ ((pre.length : Nat) : Int) < ((p.legs.length : Nat) : Int) := by rw [e]; omega
    rw [show p.legs.map neg = pre.map neg by rw [e]]
    exact l38x_1 p id kn ((pre.map neg).map Leg.pv) p.legs.length pre.length hn
  | y :: r, pre, e => by
    have hlen : p.legs.length = pre.length + r.length + 1 := by rw [e]; simp; omega
    have hat : ((pre.map neg ++ y :: r).map Leg.pv)[pre.length]? = some (PV.agg [PV.int .i64 y.acc, PV.int .i64 y.cur, PV.int .i64 y.minor]) := by
      rw [List.getElem?_map, List.getElem?_append_right (by simp)]; simp
    have hy := hm y (by rw [e]; simp)
    simp only [minOk, decide_eq_true_eq] at hy
    have st := l38_1 p id kn _ p.legs.length pre.length _ _ _ hat (by omega)
    rw [wi64 (by omega) (by omega), wi64 (by omega) (by omega)] at st
    have hset : ((pre.map neg ++ y :: r).map Leg.pv).set pre.length (rowOf 3 [PV.int .i64 y.acc, PV.int .i64 y.cur, PV.int .i64 (0 - y.minor)]) = ((pre ++ [y]).map neg ++ r).map Leg.pv := by
      rw [List.map_append, List.set_append_right _ _ (by simp)]
      simp [neg, rowOf]
    rw [hset] at st
    have ih := a38 (id := id) (kn := kn) hl hm r (pre ++ [y]) (by rw [e]; simp)
    rw [List.length_append, List.length_singleton, Int.natCast_add, Int.natCast_one] at ih
    exact st.trans ih
def rvp (p : Post) (id kn : Int) : Post := ⟨id, kn, p.value, .shut, p.legs.map neg, p.id, p.kind, p.memo⟩
abbrev f38_h85 (p : Post) (e : Int) : Prop := e = 0 → cc (ev X E0) 37 [AV.sl p.so 3 (List.map Leg.pv p.legs)] [] = some (AV.c (.own 0 3 (List.map Leg.pv p.legs)), [])
abbrev f38_hl (p : Post) (id kn e : Int) : Prop := e = 0 → lv (cv (ev X E0) xf13_l0) (rl [6, 2, 33, 0]) 4 (S38 p id kn (List.map Leg.pv p.legs) (List.length (List.map Leg.pv p.legs)) 0) = some (XExit.exit 0, St.mk (tmOf 69 [(6, AV.c (.ptr 1 0)), (9, AV.c (.ptr 2 0))]) (B38 p id kn (List.map Leg.pv (List.map neg p.legs)) (List.length (List.map Leg.pv p.legs))))
theorem f38_1 (p : Post) (id kn e e2 : Int) (h : cc (ev X E0) 36 [Post.av p] [] = some (AV.i e, [])) (_h85 : f38_h85 p e) (_hl : f38_hl p id kn e) (_h2 : e = 0 → cc (ev X E0) 36 [Post.av (rvp p id kn)] [] = some (AV.i e2, [])) (g1 : ¬e = 0) :
    cc (ev X E0) 13 [AV.agg (Post.cs p), AV.c (vi id), AV.c (vw kn)] [] = some (AV.tup [AV.agg [vi 0, vw 0, vw 0, .pv (.sl SO.nil 0 []), vi 0, vi 0, .pv (.str [])], AV.c (vi e)], []) :=
  cc_path (x := xf13) rfl [.call (AV.c (vi e)) [], .br true]
    (c := rq [ty h, (1, (e != 0) = true)]) (by kernel_rfl)
    (aq ⟨h, (bne_iff_ne.mpr g1), trivial⟩)
theorem f38_2 (p : Post) (id kn e e2 : Int) (h : cc (ev X E0) 36 [Post.av p] [] = some (AV.i e, [])) (_h85 : f38_h85 p e) (_hl : f38_hl p id kn e) (_h2 : e = 0 → cc (ev X E0) 36 [Post.av (rvp p id kn)] [] = some (AV.i e2, [])) (g1 : e = 0) (g2 : id ≤ p.id) :
    cc (ev X E0) 13 [AV.agg (Post.cs p), AV.c (vi id), AV.c (vw kn)] [] = some (AV.tup [AV.agg [vi 0, vw 0, vw 0, .pv (.sl SO.nil 0 []), vi 0, vi 0, .pv (.str [])], AV.c (vi 20)], []) :=
  cc_path (x := xf13) rfl ([.call (AV.c (vi e)) [], .br false] ++ bs 6 true)
    (c := rq [ty h, (1, (e != 0) = false), (5, decide (id ≤ p.id) = true), (1, true = true)]) (by kernel_rfl)
    (aq ⟨h, (bne_f g1), (dT g2), rfl, trivial⟩)
theorem f38_3 (p : Post) (id kn e e2 : Int) (h : cc (ev X E0) 36 [Post.av p] [] = some (AV.i e, [])) (_h85 : f38_h85 p e) (_hl : f38_hl p id kn e) (_h2 : e = 0 → cc (ev X E0) 36 [Post.av (rvp p id kn)] [] = some (AV.i e2, [])) (g1 : e = 0) (g2 : ¬id ≤ p.id) (g3 : kn < p.known) :
    cc (ev X E0) 13 [AV.agg (Post.cs p), AV.c (vi id), AV.c (vw kn)] [] = some (AV.tup [AV.agg [vi 0, vw 0, vw 0, .pv (.sl SO.nil 0 []), vi 0, vi 0, .pv (.str [])], AV.c (vi 20)], []) :=
  cc_path (x := xf13) rfl ([.call (AV.c (vi e)) []] ++ bs 6 false ++ [.br true])
    (c := rq [ty h, (1, (e != 0) = false), (5, decide (id ≤ p.id) = false), (1, decide (kn < p.known) = true)]) (by kernel_rfl)
    (aq ⟨h, (bne_f g1), (dF g2), (dT g3), trivial⟩)
theorem f38_4 (p : Post) (id kn e e2 : Int) (h : cc (ev X E0) 36 [Post.av p] [] = some (AV.i e, [])) (h85 : f38_h85 p e) (hl : f38_hl p id kn e) (h2 : e = 0 → cc (ev X E0) 36 [Post.av (rvp p id kn)] [] = some (AV.i e2, [])) (g1 : e = 0) (g2 : ¬id ≤ p.id) (g3 : ¬kn < p.known) (g4 : ¬e2 = 0) :
    cc (ev X E0) 13 [AV.agg (Post.cs p), AV.c (vi id), AV.c (vw kn)] [] = some (AV.tup [AV.agg [vi 0, vw 0, vw 0, .pv (.sl SO.nil 0 []), vi 0, vi 0, .pv (.str [])], AV.c (vi e2)], []) :=
  cc_path (x := xf13) rfl ([.call (AV.c (vi e)) []] ++ bs 7 false ++ [.call (AV.c (.own 0 3 (List.map Leg.pv p.legs))) [], .loop (XExit.exit 0) (St.mk (tmOf 69 [(6, AV.c (.ptr 1 0)), (9, AV.c (.ptr 2 0))]) [.cells (Post.cs p), .cells [vi 0, vw 0, vw 0, .pv (.sl SO.nil 0 []), vi 0, vi 0, .pv (.str [])], .cells [vi id, vw kn, vw p.value, .ms 3 0 3 (List.length (List.map Leg.pv p.legs)), vi p.id, vi p.kind, .pv (.str p.memo)], .row 3 (List.map Leg.pv (List.map neg p.legs))]), .els (List.map Leg.pv (List.map neg p.legs)), .call (AV.c (vi e2)) [], .br true])
    (c := rq [ty h, (1, (e != 0) = false), (5, decide (id ≤ p.id) = false), (1, decide (kn < p.known) = false), (1, List.all (List.map Leg.pv p.legs) (rowE 3) = true), (1, cc (ev X E0) 37 [AV.c (.pv (.sl p.so 3 (List.map Leg.pv p.legs)))] [] = some (AV.c (.own 0 3 (List.map Leg.pv p.legs)), [])), (1, lv (cv (ev X E0) xf13_l0) (rl [6, 2, 33, 0]) 4 (St.mk (tmOf 69 [(6, AV.c (.ptr 1 0)), (9, AV.c (.ptr 2 0)), (43, AV.c (vi (↑(List.length (List.map Leg.pv p.legs)) : Int))), (44, AV.c (vi 0))]) [.cells (Post.cs p), .cells [vi 0, vw 0, vw 0, .pv (.sl SO.nil 0 []), vi 0, vi 0, .pv (.str [])], .cells [vi id, vw kn, vw p.value, .ms 3 0 3 (List.length (List.map Leg.pv p.legs)), vi p.id, vi p.kind, .pv (.str p.memo)], .row 3 (List.map Leg.pv p.legs)]) = some (XExit.exit 0, St.mk (tmOf 69 [(6, AV.c (.ptr 1 0)), (9, AV.c (.ptr 2 0))]) [.cells (Post.cs p), .cells [vi 0, vw 0, vw 0, .pv (.sl SO.nil 0 []), vi 0, vi 0, .pv (.str [])], .cells [vi id, vw kn, vw p.value, .ms 3 0 3 (List.length (List.map Leg.pv p.legs)), vi p.id, vi p.kind, .pv (.str p.memo)], .row 3 (List.map Leg.pv (List.map neg p.legs))])), (2, frzE (some (Box.row 3 (List.map Leg.pv (List.map neg p.legs)))) 3 0 (List.length (List.map Leg.pv p.legs)) = some (List.map Leg.pv (List.map neg p.legs))), (1, cc (ev X E0) 36 [AV.agg [vi id, vw kn, vw p.value, .pv (.sl SO.shut 3 (List.map Leg.pv (List.map neg p.legs))), vi p.id, vi p.kind, .pv (.str p.memo)]] [] = some (AV.c (vi e2), [])), (1, (e2 != 0) = true)]) (by kernel_rfl)
    (aq ⟨h, (bne_f g1), (dF g2), (dF g3), (rows_map fun _ => rfl), (h85 g1), (hl g1), (frz_all rfl (by simp)), (h2 g1), (bne_iff_ne.mpr g4), trivial⟩)
theorem f38_5 (p : Post) (id kn e e2 : Int) (h : cc (ev X E0) 36 [Post.av p] [] = some (AV.i e, [])) (h85 : f38_h85 p e) (hl : f38_hl p id kn e) (h2 : e = 0 → cc (ev X E0) 36 [Post.av (rvp p id kn)] [] = some (AV.i e2, [])) (g1 : e = 0) (g2 : ¬id ≤ p.id) (g3 : ¬kn < p.known) (g4 : e2 = 0) :
    cc (ev X E0) 13 [AV.agg (Post.cs p), AV.c (vi id), AV.c (vw kn)] [] = some (AV.tup [AV.agg [vi id, vw kn, vw p.value, .pv (.sl SO.shut 3 (List.map Leg.pv (List.map neg p.legs))), vi p.id, vi p.kind, .pv (.str p.memo)], AV.c (vi 0)], []) :=
  cc_path (x := xf13) rfl ([.call (AV.c (vi e)) []] ++ bs 7 false ++ [.call (AV.c (.own 0 3 (List.map Leg.pv p.legs))) [], .loop (XExit.exit 0) (St.mk (tmOf 69 [(6, AV.c (.ptr 1 0)), (9, AV.c (.ptr 2 0))]) [.cells (Post.cs p), .cells [vi 0, vw 0, vw 0, .pv (.sl SO.nil 0 []), vi 0, vi 0, .pv (.str [])], .cells [vi id, vw kn, vw p.value, .ms 3 0 3 (List.length (List.map Leg.pv p.legs)), vi p.id, vi p.kind, .pv (.str p.memo)], .row 3 (List.map Leg.pv (List.map neg p.legs))]), .els (List.map Leg.pv (List.map neg p.legs)), .call (AV.c (vi e2)) [], .br false])
    (c := rq [ty h, (1, (e != 0) = false), (5, decide (id ≤ p.id) = false), (1, decide (kn < p.known) = false), (1, List.all (List.map Leg.pv p.legs) (rowE 3) = true), (1, cc (ev X E0) 37 [AV.c (.pv (.sl p.so 3 (List.map Leg.pv p.legs)))] [] = some (AV.c (.own 0 3 (List.map Leg.pv p.legs)), [])), (1, lv (cv (ev X E0) xf13_l0) (rl [6, 2, 33, 0]) 4 (St.mk (tmOf 69 [(6, AV.c (.ptr 1 0)), (9, AV.c (.ptr 2 0)), (43, AV.c (vi (↑(List.length (List.map Leg.pv p.legs)) : Int))), (44, AV.c (vi 0))]) [.cells (Post.cs p), .cells [vi 0, vw 0, vw 0, .pv (.sl SO.nil 0 []), vi 0, vi 0, .pv (.str [])], .cells [vi id, vw kn, vw p.value, .ms 3 0 3 (List.length (List.map Leg.pv p.legs)), vi p.id, vi p.kind, .pv (.str p.memo)], .row 3 (List.map Leg.pv p.legs)]) = some (XExit.exit 0, St.mk (tmOf 69 [(6, AV.c (.ptr 1 0)), (9, AV.c (.ptr 2 0))]) [.cells (Post.cs p), .cells [vi 0, vw 0, vw 0, .pv (.sl SO.nil 0 []), vi 0, vi 0, .pv (.str [])], .cells [vi id, vw kn, vw p.value, .ms 3 0 3 (List.length (List.map Leg.pv p.legs)), vi p.id, vi p.kind, .pv (.str p.memo)], .row 3 (List.map Leg.pv (List.map neg p.legs))])), (2, frzE (some (Box.row 3 (List.map Leg.pv (List.map neg p.legs)))) 3 0 (List.length (List.map Leg.pv p.legs)) = some (List.map Leg.pv (List.map neg p.legs))), (1, cc (ev X E0) 36 [AV.agg [vi id, vw kn, vw p.value, .pv (.sl SO.shut 3 (List.map Leg.pv (List.map neg p.legs))), vi p.id, vi p.kind, .pv (.str p.memo)]] [] = some (AV.c (vi e2), [])), (1, (e2 != 0) = false)]) (by kernel_rfl)
    (aq ⟨h, (bne_f g1), (dF g2), (dF g3), (rows_map fun _ => rfl), (h85 g1), (hl g1), (frz_all rfl (by simp)), (h2 g1), (bne_f g4), trivial⟩)
theorem f96_1 (l m : List Leg) (o q : SO) (g1 : ¬(↑(List.length (List.map Leg.pv l)) : Int) = (↑(List.length (List.map Leg.pv m)) : Int)) :
    cc (ev X E0) 124 [AV.c (.pv (.sl o 3 (List.map Leg.pv l))), AV.c (.pv (.sl q 3 (List.map Leg.pv m)))] [] = some (AV.c (.pv (.bool false)), []) :=
  cc_path (x := xf124) rfl [.br true]
    (c := [((↑(List.length (List.map Leg.pv l)) : Int) != (↑(List.length (List.map Leg.pv m)) : Int)) = true]) (by kernel_rfl)
    ⟨(bne_iff_ne.mpr g1), trivial⟩
theorem chk_so {p : Post} (h : chk p = 0) (hw : p.so = .nil → p.legs = []) : CV.some' (CV.pv (PV.sl p.so 3 (List.map Leg.pv p.legs))) = true ∧ (p.so == SO.nil) = false ∧ List.map Leg.pv p.legs ≠ [] := by
  have hi := (chk_inv h).2.2.2.1
  have hne : p.legs ≠ [] := fun e => by rw [e] at hi; simp at hi
  have hn : p.so ≠ .nil := fun e => hne (hw e)
  exact ⟨by simpa [CV.some'] using hn, by simpa using hn, by simpa using hne⟩
theorem s85 {p : Post} (h : chk p = 0) (hw : p.so = .nil → p.legs = []) : cc (ev X E0) 37 [AV.sl p.so 3 (p.legs.map Leg.pv)] [] = some (AV.c (CV.own 0 3 (p.legs.map Leg.pv)), []) := by
  obtain ⟨h1, h2, h3⟩ := chk_so h hw
  have hi := (chk_inv h).2.2.2.2.1
  have := f85_3 p.legs p.so h1 h2 h3 (by rw [List.length_map]; omega)
  rw [List.nil_append] at this
  exact this
def revE (p : Post) (id kn : Int) : Int := if chk p = 0 then (if id ≤ p.id ∨ kn < p.known then 20 else chk (rvp p id kn)) else chk p
theorem s38 (p : Post) (id kn : Int) (hf : p.memo.length ≤ 1000000 ∧ p.legs.length ≤ 4000000000000000000) (hw : p.so = .nil → p.legs = []) :
    cc (ev X E0) 13 [Post.av p, AV.i id, AV.int .i32 kn] [] = some (.tup [if revE p id kn = 0 then Post.av (rvp p id kn) else AV.agg Z7, AV.i (revE p id kn)], []) := by
  have h := s37 p hf.1 hf.2
  have h2 : chk p = 0 → cc (ev X E0) 36 [Post.av (rvp p id kn)] [] = some (.i (chk (rvp p id kn)), []) := fun _ => s37 (rvp p id kn) hf.1 (by simp only [rvp, List.length_map]; exact hf.2)
  have hl : chk p = 0 → lv (cv (ev X E0) xf13_l0) (rl [6, 2, 33, 0]) 4 (S38 p id kn (p.legs.map Leg.pv) (p.legs.map Leg.pv).length 0) = some (XExit.exit 0, St.mk (tmOf 69 [(6, AV.c (CV.ptr 1 0)), (9, AV.c (CV.ptr 2 0))]) (B38 p id kn ((p.legs.map neg).map Leg.pv) (p.legs.map Leg.pv).length)) := fun c => by
    have hi := chk_inv c
    rw [List.length_map]
    exact a38 (by omega) hi.2.2.2.2.2.2.2.1 p.legs [] rfl
  by_cases c : chk p = 0
  · by_cases c1 : id ≤ p.id
    · have e : revE p id kn = 20 := by rw [revE, if_pos c, if_pos (Or.inl c1)]
      rw [e, if_neg (by decide)]
      exact f38_2 p id kn _ _ h (fun c => s85 c hw) hl h2 c c1
    · by_cases c2 : kn < p.known
      · have e : revE p id kn = 20 := by rw [revE, if_pos c, if_pos (Or.inr c2)]
        rw [e, if_neg (by decide)]
        exact f38_3 p id kn _ _ h (fun c => s85 c hw) hl h2 c c1 c2
      · have e : revE p id kn = chk (rvp p id kn) := by rw [revE, if_pos c, if_neg (by rintro (h | h) <;> omega)]
        by_cases c3 : chk (rvp p id kn) = 0
        · rw [e, if_pos c3, c3]
          exact f38_5 p id kn _ _ h (fun c => s85 c hw) hl h2 c c1 c2 c3
        · rw [e, if_neg c3]
          exact f38_4 p id kn _ _ h (fun c => s85 c hw) hl h2 c c1 c2 c3
  · have e : revE p id kn = chk p := by rw [revE, if_neg c]
    rw [e, if_neg c]
    exact f38_1 p id kn _ _ h (fun c => s85 c hw) hl h2 c
theorem s63 {p : Post} (h : chk p = 0) (hw : p.so = .nil → p.legs = []) : cc (ev X E0) 43 [Post.av p] [] = some (Post.av { p with so := .shut }, []) := f63_1 p (s85 h hw)
def legEq (x y : Leg) : Bool := x.acc == y.acc && (x.cur == y.cur && (x.minor == y.minor && true))
theorem legEq_iff {x y : Leg} : legEq x y = true ↔ x = y := by
  obtain ⟨a, b, c⟩ := x
  obtain ⟨d, e, f⟩ := y
  simp [legEq]
def legsEq (l m : List Leg) : Bool := decide (l.length = m.length) && !(l.zip m).any fun q => !legEq q.1 q.2
theorem zip_at {l m : List Leg} {i : Nat} {q : Leg × Leg} (h : (l.zip m)[i]? = some q) : l[i]? = some q.1 ∧ m[i]? = some q.2 := by
  rw [List.getElem?_zip_eq_some] at h
  exact h
theorem a96 {l m : List Leg} {o q : SO} (hl : l.length ≤ 1000000) (he : l.length = m.length) : lv (cv (ev X E0) xf124_l0) (rl [0, 0, 10, 0]) 0 (S96 l m o q 0) = some (if ((l.zip m).any fun q => !legEq q.1 q.2) = true then (XExit.ret, St.mk (tmOf 26 [(4, AV.c (CV.pv (PV.bool false)))]) []) else (XExit.exit 0, St.mk (tmOf 26 []) [])) := by
  have hz : (l.zip m).length = l.length := by rw [List.length_zip]; omega
  refine lv_scan (l := l.zip m) (S96 l m o q) (by rw [hz]; exact l96_3 l m o q l.length (by simp)) (fun i y hat hlt hw => ?_) fun i y hat hlt hw => ?_
  · obtain ⟨h1, h2⟩ := zip_at hat
    exact l96_1 l m o q i y.1 y.2 (lt_len (by omega)) h1 h2 (by simpa only [legEq, Bool.not_eq_true'] using hw)
  · obtain ⟨h1, h2⟩ := zip_at hat
    have h := legEq_iff.1 (by simpa using hw)
    have := l96_2 l m o q i y.1 y.2 (lt_len (by omega)) h1 h2 ⟨by rw [h], by rw [h], by rw [h], rfl⟩
    rwa [wi64 (by omega) (by omega)] at this
theorem f96a_2 (l m : List Leg) (o q : SO) (h : lv (cv (ev X E0) xf124_l0) (rl [0, 0, 10, 0]) 0 (S96 l m o q 0) = some (XExit.exit 0, St.mk (tmOf 26 []) [])) (g1 : (↑(List.length (List.map Leg.pv l)) : Int) = (↑(List.length (List.map Leg.pv m)) : Int)) :
    cc (ev X E0) 124 [AV.c (.pv (.sl o 3 (List.map Leg.pv l))), AV.c (.pv (.sl q 3 (List.map Leg.pv m)))] [] = some (AV.c (.pv (.bool true)), []) :=
  cc_path (x := xf124) rfl [.br false, .loop (XExit.exit (0 : Nat)) (St.mk (tmOf (26 : Nat) []) [])]
    (c := rq [(1, ((↑(List.length (List.map Leg.pv l)) : Int) != (↑(List.length (List.map Leg.pv m)) : Int)) = false), ty h]) (by kernel_rfl)
    (aq ⟨(bne_f g1), h, trivial⟩)
theorem f96b_2 (l m : List Leg) (o q : SO) (h : lv (cv (ev X E0) xf124_l0) (rl [0, 0, 10, 0]) 0 (S96 l m o q 0) = some (XExit.ret, St.mk (tmOf 26 [(4, AV.c (.pv (.bool false)))]) [])) (g1 : (↑(List.length (List.map Leg.pv l)) : Int) = (↑(List.length (List.map Leg.pv m)) : Int)) :
    cc (ev X E0) 124 [AV.c (.pv (.sl o 3 (List.map Leg.pv l))), AV.c (.pv (.sl q 3 (List.map Leg.pv m)))] [] = some (AV.c (.pv (.bool false)), []) :=
  cc_path (x := xf124) rfl [.br false, .loop XExit.ret (St.mk (tmOf (26 : Nat) [((4 : Nat), AV.c (.pv (.bool false)))]) [])]
    (c := rq [(1, ((↑(List.length (List.map Leg.pv l)) : Int) != (↑(List.length (List.map Leg.pv m)) : Int)) = false), ty h]) (by kernel_rfl)
    (aq ⟨(bne_f g1), h, trivial⟩)
theorem s96 (l m : List Leg) (o q : SO) (hl : l.length ≤ 1000000) : cc (ev X E0) 124 [AV.sl o 3 (l.map Leg.pv), AV.sl q 3 (m.map Leg.pv)] [] = some (.b (legsEq l m), []) := by
  have e1 : (((l.map Leg.pv).length : Nat) : Int) = l.length := by rw [List.length_map]
  have e2 : (((m.map Leg.pv).length : Nat) : Int) = m.length := by rw [List.length_map]
  by_cases he : l.length = m.length
  · have a := a96 (o := o) (q := q) hl he
    cases hz : (l.zip m).any fun q => !legEq q.1 q.2 with
    | true =>
      rw [hz] at a
      rw [f96b_2 l m o q a (by rw [e1, e2]; omega), legsEq, hz]; simp
    | false =>
      rw [hz] at a
      rw [f96a_2 l m o q a (by rw [e1, e2]; omega), legsEq, hz, decide_eq_true he]; rfl
  · rw [f96_1 l m o q (by rw [e1, e2]; omega), legsEq, decide_eq_false he]; rfl
abbrev f43_h (p q : Post) (b : Bool) : Prop := cc (ev X E0) 124 [AV.sl p.so 3 (List.map Leg.pv p.legs), AV.sl q.so 3 (List.map Leg.pv q.legs)] [] = some (AV.b b, [])
theorem f43_1 (p q : Post) (b : Bool) (h : f43_h p q b) (g1 : b = true) (g2 : p.id = q.id) (g3 : p.known = q.known) (g4 : p.value = q.value) (g5 : p.rev = q.rev) (g6 : p.kind = q.kind) :
    cc (ev X E0) 92 [AV.agg (Post.cs p), AV.agg (Post.cs q)] [] = some (AV.c (.pv (.bool (p.memo == q.memo))), []) :=
  cc_path (x := xf92) rfl ([.call (AV.c (.pv (.bool b))) []] ++ bs 36 true)
    (c := rq [ty h, (6, b = true), (6, (p.id == q.id) = true), (6, (p.known == q.known) = true), (6, (p.value == q.value) = true), (6, (p.rev == q.rev) = true), (6, (p.kind == q.kind) = true)]) (by kernel_rfl)
    (aq ⟨h, g1, (beq_iff_eq.mpr g2), (beq_iff_eq.mpr g3), (beq_iff_eq.mpr g4), (beq_iff_eq.mpr g5), (beq_iff_eq.mpr g6), trivial⟩)
theorem f43_2 (p q : Post) (b : Bool) (h : f43_h p q b) (g1 : b = true) (g2 : p.id = q.id) (g3 : p.known = q.known) (g4 : p.value = q.value) (g5 : p.rev = q.rev) (g6 : ¬p.kind = q.kind) :
    cc (ev X E0) 92 [AV.agg (Post.cs p), AV.agg (Post.cs q)] [] = some (AV.c (.pv (.bool false)), []) :=
  cc_path (x := xf92) rfl ([.call (AV.c (.pv (.bool b))) []] ++ bs 30 true ++ bs 6 false)
    (c := rq [ty h, (6, b = true), (6, (p.id == q.id) = true), (6, (p.known == q.known) = true), (6, (p.value == q.value) = true), (6, (p.rev == q.rev) = true), (6, (p.kind == q.kind) = false)]) (by kernel_rfl)
    (aq ⟨h, g1, (beq_iff_eq.mpr g2), (beq_iff_eq.mpr g3), (beq_iff_eq.mpr g4), (beq_iff_eq.mpr g5), (beq_eq_false_iff_ne.mpr g6), trivial⟩)
theorem f43_3 (p q : Post) (b : Bool) (h : f43_h p q b) (g1 : b = true) (g2 : p.id = q.id) (g3 : p.known = q.known) (g4 : p.value = q.value) (g5 : ¬p.rev = q.rev) :
    cc (ev X E0) 92 [AV.agg (Post.cs p), AV.agg (Post.cs q)] [] = some (AV.c (.pv (.bool false)), []) :=
  cc_path (x := xf92) rfl ([.call (AV.c (.pv (.bool b))) []] ++ bs 24 true ++ bs 12 false)
    (c := rq [ty h, (6, b = true), (6, (p.id == q.id) = true), (6, (p.known == q.known) = true), (6, (p.value == q.value) = true), (6, (p.rev == q.rev) = false), (6, false = false)]) (by kernel_rfl)
    (aq ⟨h, g1, (beq_iff_eq.mpr g2), (beq_iff_eq.mpr g3), (beq_iff_eq.mpr g4), (beq_eq_false_iff_ne.mpr g5), rfl, trivial⟩)
theorem f43_4 (p q : Post) (b : Bool) (h : f43_h p q b) (g1 : b = true) (g2 : p.id = q.id) (g3 : p.known = q.known) (g4 : ¬p.value = q.value) :
    cc (ev X E0) 92 [AV.agg (Post.cs p), AV.agg (Post.cs q)] [] = some (AV.c (.pv (.bool false)), []) :=
  cc_path (x := xf92) rfl ([.call (AV.c (.pv (.bool b))) []] ++ bs 18 true ++ bs 18 false)
    (c := rq [ty h, (6, b = true), (6, (p.id == q.id) = true), (6, (p.known == q.known) = true), (6, (p.value == q.value) = false), (12, false = false)]) (by kernel_rfl)
    (aq ⟨h, g1, (beq_iff_eq.mpr g2), (beq_iff_eq.mpr g3), (beq_eq_false_iff_ne.mpr g4), rfl, trivial⟩)
theorem f43_5 (p q : Post) (b : Bool) (h : f43_h p q b) (g1 : b = true) (g2 : p.id = q.id) (g3 : ¬p.known = q.known) :
    cc (ev X E0) 92 [AV.agg (Post.cs p), AV.agg (Post.cs q)] [] = some (AV.c (.pv (.bool false)), []) :=
  cc_path (x := xf92) rfl ([.call (AV.c (.pv (.bool b))) []] ++ bs 12 true ++ bs 24 false)
    (c := rq [ty h, (6, b = true), (6, (p.id == q.id) = true), (6, (p.known == q.known) = false), (18, false = false)]) (by kernel_rfl)
    (aq ⟨h, g1, (beq_iff_eq.mpr g2), (beq_eq_false_iff_ne.mpr g3), rfl, trivial⟩)
theorem f43_6 (p q : Post) (b : Bool) (h : f43_h p q b) (g1 : b = true) (g2 : ¬p.id = q.id) :
    cc (ev X E0) 92 [AV.agg (Post.cs p), AV.agg (Post.cs q)] [] = some (AV.c (.pv (.bool false)), []) :=
  cc_path (x := xf92) rfl ([.call (AV.c (.pv (.bool b))) []] ++ bs 6 true ++ bs 30 false)
    (c := rq [ty h, (6, b = true), (6, (p.id == q.id) = false), (24, false = false)]) (by kernel_rfl)
    (aq ⟨h, g1, (beq_eq_false_iff_ne.mpr g2), rfl, trivial⟩)
theorem f43_7 (p q : Post) (b : Bool) (h : f43_h p q b) (g1 : b = false) :
    cc (ev X E0) 92 [AV.agg (Post.cs p), AV.agg (Post.cs q)] [] = some (AV.c (.pv (.bool false)), []) :=
  cc_path (x := xf92) rfl ([.call (AV.c (.pv (.bool b))) []] ++ bs 36 false)
    (c := rq [ty h, (6, b = false), (30, false = false)]) (by kernel_rfl)
    (aq ⟨h, g1, rfl, trivial⟩)
def same (p q : Post) : Bool := legsEq p.legs q.legs && decide (p.id = q.id ∧ p.known = q.known ∧ p.value = q.value ∧ p.rev = q.rev ∧ p.kind = q.kind ∧ p.memo = q.memo)
theorem s43 (p q : Post) (hl : p.legs.length ≤ 1000000) : cc (ev X E0) 92 [Post.av p, Post.av q] [] = some (.b (same p q), []) := by
  have h := s96 p.legs q.legs p.so q.so hl
  unfold same
  cases hb : legsEq p.legs q.legs with
  | false => rw [hb] at h; rw [f43_7 p q _ h rfl, Bool.false_and]
  | true =>
    rw [hb] at h
    rw [Bool.true_and]
    by_cases c1 : p.id = q.id
    · by_cases c2 : p.known = q.known
      · by_cases c3 : p.value = q.value
        · by_cases c4 : p.rev = q.rev
          · by_cases c5 : p.kind = q.kind
            · rw [f43_1 p q _ h rfl c1 c2 c3 c4 c5]; congr 5; rw [Bool.eq_iff_iff]; simp [c1, c2, c3, c4, c5]
            · rw [f43_2 p q _ h rfl c1 c2 c3 c4 c5, decide_eq_false (by simp [c5])]
          · rw [f43_3 p q _ h rfl c1 c2 c3 c4, decide_eq_false (by simp [c4])]
        · rw [f43_4 p q _ h rfl c1 c2 c3, decide_eq_false (by simp [c3])]
      · rw [f43_5 p q _ h rfl c1 c2, decide_eq_false (by simp [c2])]
    · rw [f43_6 p q _ h rfl c1, decide_eq_false (by simp [c1])]
end Go.Sx.Tryd
