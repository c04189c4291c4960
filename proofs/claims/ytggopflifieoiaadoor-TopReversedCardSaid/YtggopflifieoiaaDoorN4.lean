/- Those of a book that are picked. -/
import Derived.Test.YtggopflifieoiaaDoorN2
namespace Go.Sx.Tryd
open Go Go.Sx
theorem f61_1 (p : Post) :
    cc (ev X E0) 41 [AV.agg (Post.cs p)] [] = some (AV.c (.pv (.bool true)), []) :=
  cc_path (x := xf41) rfl []
    (c := []) (by kernel_rfl)
    trivial
def outC (es : List Post) : CV := if es.isEmpty then CV.pv (PV.sl SO.nil 0 []) else CV.own 1407 7 ((es.map sh).map Post.pv)
def outA (es : List Post) : CV := if es.isEmpty then CV.pv (PV.sl SO.nil 0 []) else CV.own 0 7 ((es.map sh).map Post.pv)
theorem outC_cases (es : List Post) : outC es = CV.pv (PV.sl SO.nil 0 []) ∨ outC es = CV.own 1407 7 ((es.map sh).map Post.pv) := by
  unfold outC; cases es <;> simp
theorem out_cases (es : List Post) : (outC es = CV.pv (PV.sl SO.nil 0 []) ∧ outA es = CV.pv (PV.sl SO.nil 0 [])) ∨ (outC es = CV.own 1407 7 ((es.map sh).map Post.pv) ∧ outA es = CV.own 0 7 ((es.map sh).map Post.pv)) := by
  unfold outC outA; cases es <;> simp
theorem outC_nil {es : List Post} (h : outC es = CV.pv (PV.sl SO.nil 0 [])) : es = [] := by
  cases es with
  | nil => rfl
  | cons p r => simp [outC] at h
theorem outC_snoc (es : List Post) (y : Post) : outC (es ++ [y]) = CV.own 1407 7 ((es.map sh).map Post.pv ++ [Post.pv (sh y)]) := by
  unfold outC
  rw [if_neg (by simp)]
  simp
theorem rightFrom_chk : ∀ {r pre : List Post}, rightFrom pre r = true → ∀ p ∈ r, chk p = 0
  | [], _, _, p, hp => by simp at hp
  | y :: r, pre, h, p, hp => by
    simp only [rightFrom, Bool.and_eq_true, beq_iff_eq] at h
    rcases List.mem_cons.1 hp with rfl | hp
    · by_cases c : chk p = 0
      · exact c
      · have := h.1; rw [fullE, if_neg c] at this; exact this
    · exact rightFrom_chk h.2 p hp
theorem right_chk {l : List Post} (h : rightB l = true) : ∀ p ∈ l, chk p = 0 := rightFrom_chk h
def pickR (l : List Post) (w : Post → Bool) : List Post := if rightB l = true then l.filter w else []
def pickE (l : List Post) : Int := if rightB l = true then 0 else 1
abbrev B62z : List Box := []
abbrev S62z (l : List Post) (o : SO) (s : Nat) (g : Nat) (x5 : CV) (i : Int) : St := St.mk (tmOf 24 [(1, AV.c (CV.fn g [])), (5, AV.c x5), (8, AV.c (CV.pv (PV.sl o s (List.map Post.pv l)))), (9, AV.c (CV.pv (PV.int .i64 (↑(List.length (List.map Post.pv l)) : Int)))), (10, AV.c (CV.pv (PV.int .i64 i)))]) B62z
theorem l62zn_1 (l : List Post) (o : SO) (s : Nat) (hs : SZ o s l) (g : Nat) (w : Post → Bool) (h : ∀ (p : Post), cc (ev X E0) g [Post.av p] [] = some (AV.b (w p), [])) (i : Nat) (y1 : Post) (g1 : (↑i : Int) < (↑(List.length (List.map Post.pv l)) : Int)) (g2 : l[i]? = some y1) (g3 : w y1 = true) (g4 : chk y1 = 0) (g5 : y1.so = SO.nil → y1.legs = []) (g6 : (↑(0 + List.length [Post.pv (sh y1)]) : Int) * 72 ≤ 140737488355328) :
    lv (cv (ev X E0) xf42_l0) (rl [1, 3, 2, 0, 0]) 0 (S62z l o s g (.pv (.sl SO.nil 0 [])) (↑i : Int)) = lv (cv (ev X E0) xf42_l0) (rl [1, 3, 2, 0, 0]) 0 (St.mk (tmOf 24 [(1, AV.c (.fn g [])), (5, AV.c (.own 1407 7 [Post.pv (sh y1)])), (8, AV.c (.pv (.sl o s (List.map Post.pv l)))), (9, AV.c (vi (↑(List.length (List.map Post.pv l)) : Int))), (10, AV.c (vi (IntKind.wrap .i64 ((↑i : Int) + 1))))]) []) :=
  lv_next [.br true, .sz, .el (Post.pv y1), .call (AV.c (.pv (.bool (w y1)))) [], .br true, .call (AV.agg (Post.cs (sh y1))) [], .emp false]
    (c := [decide ((↑i : Int) < (↑(List.length (List.map Post.pv l)) : Int)) = true, SZ o s l, 0 ≤ (↑i : Int), (List.map Post.pv l)[i]? = some (Post.pv y1), cc (ev X E0) g [AV.agg (Post.cs y1)] [] = some (AV.c (.pv (.bool (w y1))), []), w y1 = true, cc (ev X E0) 43 [AV.agg (Post.cs y1)] [] = some (AV.agg (Post.cs (sh y1)), []), [Post.pv (sh y1)] ≠ [], (↑(0 + List.length [Post.pv (sh y1)]) : Int) * 72 ≤ 140737488355328]) (by kernel_rfl)
    ⟨(dT g1), hs, (Int.natCast_nonneg _), (map_at g2), (h _), g3, (s63 g4 g5), (List.cons_ne_nil _ _), g6, trivial⟩
theorem l62zn_2 (l : List Post) (o : SO) (s : Nat) (hs : SZ o s l) (g : Nat) (w : Post → Bool) (h : ∀ (p : Post), cc (ev X E0) g [Post.av p] [] = some (AV.b (w p), [])) (i : Nat) (y1 : Post) (g1 : (↑i : Int) < (↑(List.length (List.map Post.pv l)) : Int)) (g2 : l[i]? = some y1) (g3 : w y1 = false) :
    lv (cv (ev X E0) xf42_l0) (rl [1, 3, 2, 0, 0]) 0 (S62z l o s g (.pv (.sl SO.nil 0 [])) (↑i : Int)) = lv (cv (ev X E0) xf42_l0) (rl [1, 3, 2, 0, 0]) 0 (St.mk (tmOf 24 [(1, AV.c (.fn g [])), (5, AV.c (.pv (.sl SO.nil 0 []))), (8, AV.c (.pv (.sl o s (List.map Post.pv l)))), (9, AV.c (vi (↑(List.length (List.map Post.pv l)) : Int))), (10, AV.c (vi (IntKind.wrap .i64 ((↑i : Int) + 1))))]) []) :=
  lv_next [.br true, .sz, .el (Post.pv y1), .call (AV.c (.pv (.bool (w y1)))) [], .br false]
    (c := [decide ((↑i : Int) < (↑(List.length (List.map Post.pv l)) : Int)) = true, SZ o s l, 0 ≤ (↑i : Int), (List.map Post.pv l)[i]? = some (Post.pv y1), cc (ev X E0) g [AV.agg (Post.cs y1)] [] = some (AV.c (.pv (.bool (w y1))), []), w y1 = false]) (by kernel_rfl)
    ⟨(dT g1), hs, (Int.natCast_nonneg _), (map_at g2), (h _), g3, trivial⟩
theorem l62zn_3 (l : List Post) (o : SO) (s : Nat) (_hs : SZ o s l) (g : Nat) (w : Post → Bool) (_h : ∀ (p : Post), cc (ev X E0) g [Post.av p] [] = some (AV.b (w p), [])) (i : Nat) (g1 : ¬(↑i : Int) < (↑(List.length (List.map Post.pv l)) : Int)) :
    lv (cv (ev X E0) xf42_l0) (rl [1, 3, 2, 0, 0]) 0 (S62z l o s g (.pv (.sl SO.nil 0 [])) (↑i : Int)) = some (XExit.exit 0, St.mk (tmOf 24 [(5, AV.c (.pv (.sl SO.nil 0 [])))]) []) :=
  lv_exit [.br false]
    (c := [decide ((↑i : Int) < (↑(List.length (List.map Post.pv l)) : Int)) = false]) (by kernel_rfl)
    ⟨(dF g1), trivial⟩
theorem l62zo_1 (l : List Post) (o : SO) (s : Nat) (hs : SZ o s l) (g : Nat) (w : Post → Bool) (h : ∀ (p : Post), cc (ev X E0) g [Post.av p] [] = some (AV.b (w p), [])) (j : Nat) (es : List PV) (i : Nat) (y1 : Post) (g1 : (↑i : Int) < (↑(List.length (List.map Post.pv l)) : Int)) (g2 : l[i]? = some y1) (g3 : w y1 = true) (g4 : chk y1 = 0) (g5 : y1.so = SO.nil → y1.legs = []) (g6 : (↑(List.length es + List.length [Post.pv (sh y1)]) : Int) * 72 ≤ 140737488355328) :
    lv (cv (ev X E0) xf42_l0) (rl [1, 3, 2, 0, 0]) 0 (S62z l o s g (.own j 7 es) (↑i : Int)) = lv (cv (ev X E0) xf42_l0) (rl [1, 3, 2, 0, 0]) 0 (St.mk (tmOf 24 [(1, AV.c (.fn g [])), (5, AV.c (.own 1407 7 (es ++ [Post.pv (sh y1)]))), (8, AV.c (.pv (.sl o s (List.map Post.pv l)))), (9, AV.c (vi (↑(List.length (List.map Post.pv l)) : Int))), (10, AV.c (vi (IntKind.wrap .i64 ((↑i : Int) + 1))))]) []) :=
  lv_next [.br true, .sz, .el (Post.pv y1), .call (AV.c (.pv (.bool (w y1)))) [], .br true, .call (AV.agg (Post.cs (sh y1))) []]
    (c := rq [(1, decide ((↑i : Int) < (↑(List.length (List.map Post.pv l)) : Int)) = true), (1, SZ o s l), (1, 0 ≤ (↑i : Int)), (1, (List.map Post.pv l)[i]? = some (Post.pv y1)), (1, cc (ev X E0) g [AV.agg (Post.cs y1)] [] = some (AV.c (.pv (.bool (w y1))), [])), (1, w y1 = true), (1, cc (ev X E0) 43 [AV.agg (Post.cs y1)] [] = some (AV.agg (Post.cs (sh y1)), [])), ty g6]) (by kernel_rfl)
    (aq ⟨(dT g1), hs, (Int.natCast_nonneg _), (map_at g2), (h _), g3, (s63 g4 g5), g6, trivial⟩)
theorem l62zo_2 (l : List Post) (o : SO) (s : Nat) (hs : SZ o s l) (g : Nat) (w : Post → Bool) (h : ∀ (p : Post), cc (ev X E0) g [Post.av p] [] = some (AV.b (w p), [])) (j : Nat) (es : List PV) (i : Nat) (y1 : Post) (g1 : (↑i : Int) < (↑(List.length (List.map Post.pv l)) : Int)) (g2 : l[i]? = some y1) (g3 : w y1 = false) :
    lv (cv (ev X E0) xf42_l0) (rl [1, 3, 2, 0, 0]) 0 (S62z l o s g (.own j 7 es) (↑i : Int)) = lv (cv (ev X E0) xf42_l0) (rl [1, 3, 2, 0, 0]) 0 (St.mk (tmOf 24 [(1, AV.c (.fn g [])), (5, AV.c (.own j 7 es)), (8, AV.c (.pv (.sl o s (List.map Post.pv l)))), (9, AV.c (vi (↑(List.length (List.map Post.pv l)) : Int))), (10, AV.c (vi (IntKind.wrap .i64 ((↑i : Int) + 1))))]) []) :=
  lv_next [.br true, .sz, .el (Post.pv y1), .call (AV.c (.pv (.bool (w y1)))) [], .br false]
    (c := [decide ((↑i : Int) < (↑(List.length (List.map Post.pv l)) : Int)) = true, SZ o s l, 0 ≤ (↑i : Int), (List.map Post.pv l)[i]? = some (Post.pv y1), cc (ev X E0) g [AV.agg (Post.cs y1)] [] = some (AV.c (.pv (.bool (w y1))), []), w y1 = false]) (by kernel_rfl)
    ⟨(dT g1), hs, (Int.natCast_nonneg _), (map_at g2), (h _), g3, trivial⟩
theorem l62zo_3 (l : List Post) (o : SO) (s : Nat) (_hs : SZ o s l) (g : Nat) (w : Post → Bool) (_h : ∀ (p : Post), cc (ev X E0) g [Post.av p] [] = some (AV.b (w p), [])) (j : Nat) (es : List PV) (i : Nat) (g1 : ¬(↑i : Int) < (↑(List.length (List.map Post.pv l)) : Int)) :
    lv (cv (ev X E0) xf42_l0) (rl [1, 3, 2, 0, 0]) 0 (S62z l o s g (.own j 7 es) (↑i : Int)) = some (XExit.exit 0, St.mk (tmOf 24 [(5, AV.c (.own j 7 es))]) []) :=
  lv_exit [.br false]
    (c := [decide ((↑i : Int) < (↑(List.length (List.map Post.pv l)) : Int)) = false]) (by kernel_rfl)
    ⟨(dF g1), trivial⟩
theorem a62z {l : List Post} {o : SO} {s : Nat} (hs : szOk 7 (CV.pv (PV.sl o s (List.map Post.pv l))) = true) {g : Nat} {w : Post → Bool} (h : ∀ p : Post, cc (ev X E0) g [Post.av p] [] = some (.b (w p), [])) (hl : l.length ≤ 1000000) (hc : ∀ p ∈ l, chk p = 0 ∧ Nice p) : ∀ (r pre : List Post), l = pre ++ r →
    lv (cv (ev X E0) xf42_l0) (rl [1, 3, 2, 0, 0]) 0 (S62z l o s g (outC (pre.filter w)) (pre.length : Nat)) = some (XExit.exit 0, St.mk (tmOf 24 [(5, AV.c (outC (l.filter w)))]) B62z)
  | [], pre, e => by
    rw [List.append_nil] at e
    subst e
    rcases outC_cases (l.filter w) with h0 | h0
    · rw [h0]; exact l62zn_3 l o s hs g w h l.length (by simp)
    · rw [h0]; exact l62zo_3 l o s hs g w h _ _ l.length (by simp)
  | y :: r, pre, e => by
    have hlen : l.length = pre.length + r.length + 1 := by rw [e]; simp; omega
    have hat : l[pre.length]? = some y := by rw [e]; simp
    have hlt := ltP (l := l) (i := pre.length) (by omega)
    obtain ⟨hy, hN⟩ := hc y (by rw [e]; simp)
    have ih := a62z hs h hl hc r (pre ++ [y]) (by rw [e]; simp)
    rw [List.length_append, List.length_singleton, Int.natCast_add, Int.natCast_one, List.filter_append] at ih
    have hfl : (pre.filter w).length ≤ pre.length := List.length_filter_le _ _
    cases hw : w y with
    | true =>
      rw [show [y].filter w = [y] by simp [hw]] at ih
      rcases outC_cases (pre.filter w) with h0 | h0
      · have st := l62zn_1 l o s hs g w h pre.length y hlt hat hw hy hN.so (by simp)
        rw [wi64 (by omega) (by omega)] at st
        rw [outC_nil h0, List.nil_append] at ih
        rw [h0]
        exact st.trans ih
      · have st := l62zo_1 l o s hs g w h 1407 (((pre.filter w).map sh).map Post.pv) pre.length y hlt hat hw hy hN.so (by simp only [List.length_map, List.length_singleton]; omega)
        rw [wi64 (by omega) (by omega)] at st
        rw [h0]
        rw [outC_snoc] at ih
        exact st.trans ih
    | false =>
      rw [show [y].filter w = [] by simp [hw], List.append_nil] at ih
      rcases outC_cases (pre.filter w) with h0 | h0
      · have st := l62zn_2 l o s hs g w h pre.length y hlt hat hw
        rw [wi64 (by omega) (by omega)] at st
        rw [h0] at ih ⊢
        exact st.trans ih
      · have st := l62zo_2 l o s hs g w h 1407 (((pre.filter w).map sh).map Post.pv) pre.length y hlt hat hw
        rw [wi64 (by omega) (by omega)] at st
        rw [h0] at ih ⊢
        exact st.trans ih
theorem f62zn_1 (l : List Post) (o : SO) (s g : Nat) (h : lv (cv (ev X E0) xf42_l0) (rl [1, 3, 2, 0, 0]) 0 (S62z l o s g (.pv (.sl SO.nil 0 [])) 0) = some (XExit.exit 0, St.mk (tmOf 24 [(5, AV.c (.pv (.sl SO.nil 0 [])))]) B62z)) :
    cc (ev X E0) 42 [AV.c (.pv (.sl o s (List.map Post.pv l))), AV.c (.fn g [])] [] = some (AV.c (.pv (.sl SO.nil 0 [])), []) :=
  cc_path (x := xf42) rfl [.loop (XExit.exit (0 : Nat)) (St.mk (tmOf (24 : Nat) [((5 : Nat), AV.c (.pv (.sl SO.nil (0 : Nat) [])))]) [])]
    (c := rq [ty h]) (by kernel_rfl)
    (aq ⟨h, trivial⟩)
theorem f62zo_1 (l : List Post) (o : SO) (s g : Nat) (es : List PV) (h : lv (cv (ev X E0) xf42_l0) (rl [1, 3, 2, 0, 0]) 0 (S62z l o s g (.pv (.sl SO.nil 0 [])) 0) = some (XExit.exit 0, St.mk (tmOf 24 [(5, AV.c (.own 1407 7 es))]) B62z)) :
    cc (ev X E0) 42 [AV.c (.pv (.sl o s (List.map Post.pv l))), AV.c (.fn g [])] [] = some (AV.c (.own 0 7 es), []) :=
  cc_path (x := xf42) rfl [.loop (XExit.exit 0) (St.mk (tmOf 24 [(5, AV.c (.own 1407 7 es))]) [])]
    (c := rq [ty h]) (by kernel_rfl)
    (aq ⟨h, trivial⟩)
theorem s62z {l : List Post} {o : SO} {s : Nat} (hs : szOk 7 (CV.pv (PV.sl o s (List.map Post.pv l))) = true) {g : Nat} {w : Post → Bool} (h : ∀ p : Post, cc (ev X E0) g [Post.av p] [] = some (.b (w p), [])) (hl : l.length ≤ 1000000) (hc : ∀ p ∈ l, chk p = 0 ∧ Nice p) : cc (ev X E0) 42 [AV.sl o s (l.map Post.pv), AV.c (.fn g [])] [] = some (AV.c (outA (l.filter w)), []) := by
  have a := a62z hs h hl hc l [] rfl
  rcases out_cases (l.filter w) with ⟨h0, h1⟩ | ⟨h0, h1⟩
  · rw [h0] at a; rw [h1]; exact f62zn_1 l o s g a
  · rw [h0] at a; rw [h1]; exact f62zo_1 l o s g _ a
abbrev B62m (kv : List (PV × PV)) : List Box := [Box.cells [CV.mp 1], Box.map kv]
abbrev S62m (l : List Post) (o : SO) (s : Nat) (g : Nat) (kv : List (PV × PV)) (x5 : CV) (i : Int) : St := St.mk (tmOf 24 [(1, AV.c (CV.fn g [0])), (5, AV.c x5), (8, AV.c (CV.pv (PV.sl o s (List.map Post.pv l)))), (9, AV.c (CV.pv (PV.int .i64 (↑(List.length (List.map Post.pv l)) : Int)))), (10, AV.c (CV.pv (PV.int .i64 i)))]) (B62m kv)
abbrev l62mn_h (g : Nat) (kv : List (PV × PV)) (w : Post → Bool) : Prop := ∀ (p : Post), cc (ev X E0) g [Post.av p, AV.c (.ptr 0 0)] [.cells [.mp 1], .map kv] = some (AV.b (w p), [.cells [.mp 1], .map kv])
theorem l62mn_1 (l : List Post) (o : SO) (s : Nat) (hs : SZ o s l) (g : Nat) (kv : List (PV × PV)) (w : Post → Bool) (h : l62mn_h g kv w) (i : Nat) (y1 : Post) (g1 : (↑i : Int) < (↑(List.length (List.map Post.pv l)) : Int)) (g2 : l[i]? = some y1) (g3 : w y1 = true) (g4 : chk y1 = 0) (g5 : y1.so = SO.nil → y1.legs = []) (g6 : (↑(0 + List.length [Post.pv (sh y1)]) : Int) * 72 ≤ 140737488355328) :
    lv (cv (ev X E0) xf42_l0) (rl [1, 3, 2, 0, 0]) 2 (S62m l o s g kv (.pv (.sl SO.nil 0 [])) (↑i : Int)) = lv (cv (ev X E0) xf42_l0) (rl [1, 3, 2, 0, 0]) 2 (St.mk (tmOf 24 [(1, AV.c (.fn g [0])), (5, AV.c (.own 1407 7 [Post.pv (sh y1)])), (8, AV.c (.pv (.sl o s (List.map Post.pv l)))), (9, AV.c (vi (↑(List.length (List.map Post.pv l)) : Int))), (10, AV.c (vi (IntKind.wrap .i64 ((↑i : Int) + 1))))]) [.cells [.mp 1], .map kv]) :=
  lv_next [.br true, .sz, .el (Post.pv y1), .call (AV.c (.pv (.bool (w y1)))) [.cells [.mp 1], .map kv], .br true, .call (AV.agg (Post.cs (sh y1))) [], .emp false]
    (c := [decide ((↑i : Int) < (↑(List.length (List.map Post.pv l)) : Int)) = true, SZ o s l, 0 ≤ (↑i : Int), (List.map Post.pv l)[i]? = some (Post.pv y1), cc (ev X E0) g [AV.agg (Post.cs y1), AV.c (.ptr 0 0)] [.cells [.mp 1], .map kv] = some (AV.c (.pv (.bool (w y1))), [.cells [.mp 1], .map kv]), w y1 = true, cc (ev X E0) 43 [AV.agg (Post.cs y1)] [] = some (AV.agg (Post.cs (sh y1)), []), [Post.pv (sh y1)] ≠ [], (↑(0 + List.length [Post.pv (sh y1)]) : Int) * 72 ≤ 140737488355328]) (by kernel_rfl)
    ⟨(dT g1), hs, (Int.natCast_nonneg _), (map_at g2), (h _), g3, (s63 g4 g5), (List.cons_ne_nil _ _), g6, trivial⟩
theorem l62mn_2 (l : List Post) (o : SO) (s : Nat) (hs : SZ o s l) (g : Nat) (kv : List (PV × PV)) (w : Post → Bool) (h : l62mn_h g kv w) (i : Nat) (y1 : Post) (g1 : (↑i : Int) < (↑(List.length (List.map Post.pv l)) : Int)) (g2 : l[i]? = some y1) (g3 : w y1 = false) :
    lv (cv (ev X E0) xf42_l0) (rl [1, 3, 2, 0, 0]) 2 (S62m l o s g kv (.pv (.sl SO.nil 0 [])) (↑i : Int)) = lv (cv (ev X E0) xf42_l0) (rl [1, 3, 2, 0, 0]) 2 (St.mk (tmOf 24 [(1, AV.c (.fn g [0])), (5, AV.c (.pv (.sl SO.nil 0 []))), (8, AV.c (.pv (.sl o s (List.map Post.pv l)))), (9, AV.c (vi (↑(List.length (List.map Post.pv l)) : Int))), (10, AV.c (vi (IntKind.wrap .i64 ((↑i : Int) + 1))))]) [.cells [.mp 1], .map kv]) :=
  lv_next [.br true, .sz, .el (Post.pv y1), .call (AV.c (.pv (.bool (w y1)))) [.cells [.mp 1], .map kv], .br false]
    (c := [decide ((↑i : Int) < (↑(List.length (List.map Post.pv l)) : Int)) = true, SZ o s l, 0 ≤ (↑i : Int), (List.map Post.pv l)[i]? = some (Post.pv y1), cc (ev X E0) g [AV.agg (Post.cs y1), AV.c (.ptr 0 0)] [.cells [.mp 1], .map kv] = some (AV.c (.pv (.bool (w y1))), [.cells [.mp 1], .map kv]), w y1 = false]) (by kernel_rfl)
    ⟨(dT g1), hs, (Int.natCast_nonneg _), (map_at g2), (h _), g3, trivial⟩
theorem l62mn_3 (l : List Post) (o : SO) (s : Nat) (_hs : SZ o s l) (g : Nat) (kv : List (PV × PV)) (w : Post → Bool) (_h : l62mn_h g kv w) (i : Nat) (g1 : ¬(↑i : Int) < (↑(List.length (List.map Post.pv l)) : Int)) :
    lv (cv (ev X E0) xf42_l0) (rl [1, 3, 2, 0, 0]) 2 (S62m l o s g kv (.pv (.sl SO.nil 0 [])) (↑i : Int)) = some (XExit.exit 0, St.mk (tmOf 24 [(5, AV.c (.pv (.sl SO.nil 0 [])))]) [.cells [.mp 1], .map kv]) :=
  lv_exit [.br false]
    (c := [decide ((↑i : Int) < (↑(List.length (List.map Post.pv l)) : Int)) = false]) (by kernel_rfl)
    ⟨(dF g1), trivial⟩
abbrev l62mo_h (g : Nat) (kv : List (PV × PV)) (w : Post → Bool) : Prop := ∀ (p : Post), cc (ev X E0) g [Post.av p, AV.c (.ptr 0 0)] [.cells [.mp 1], .map kv] = some (AV.b (w p), [.cells [.mp 1], .map kv])
theorem l62mo_1 (l : List Post) (o : SO) (s : Nat) (hs : SZ o s l) (g : Nat) (kv : List (PV × PV)) (w : Post → Bool) (h : l62mo_h g kv w) (j : Nat) (es : List PV) (i : Nat) (y1 : Post) (g1 : (↑i : Int) < (↑(List.length (List.map Post.pv l)) : Int)) (g2 : l[i]? = some y1) (g3 : w y1 = true) (g4 : chk y1 = 0) (g5 : y1.so = SO.nil → y1.legs = []) (g6 : (↑(List.length es + List.length [Post.pv (sh y1)]) : Int) * 72 ≤ 140737488355328) :
    lv (cv (ev X E0) xf42_l0) (rl [1, 3, 2, 0, 0]) 2 (S62m l o s g kv (.own j 7 es) (↑i : Int)) = lv (cv (ev X E0) xf42_l0) (rl [1, 3, 2, 0, 0]) 2 (St.mk (tmOf 24 [(1, AV.c (.fn g [0])), (5, AV.c (.own 1407 7 (es ++ [Post.pv (sh y1)]))), (8, AV.c (.pv (.sl o s (List.map Post.pv l)))), (9, AV.c (vi (↑(List.length (List.map Post.pv l)) : Int))), (10, AV.c (vi (IntKind.wrap .i64 ((↑i : Int) + 1))))]) [.cells [.mp 1], .map kv]) :=
  lv_next [.br true, .sz, .el (Post.pv y1), .call (AV.c (.pv (.bool (w y1)))) [.cells [.mp 1], .map kv], .br true, .call (AV.agg (Post.cs (sh y1))) []]
    (c := rq [(1, decide ((↑i : Int) < (↑(List.length (List.map Post.pv l)) : Int)) = true), (1, SZ o s l), (1, 0 ≤ (↑i : Int)), (1, (List.map Post.pv l)[i]? = some (Post.pv y1)), (1, cc (ev X E0) g [AV.agg (Post.cs y1), AV.c (.ptr 0 0)] [.cells [.mp 1], .map kv] = some (AV.c (.pv (.bool (w y1))), [.cells [.mp 1], .map kv])), (1, w y1 = true), (1, cc (ev X E0) 43 [AV.agg (Post.cs y1)] [] = some (AV.agg (Post.cs (sh y1)), [])), ty g6]) (by kernel_rfl)
    (aq ⟨(dT g1), hs, (Int.natCast_nonneg _), (map_at g2), (h _), g3, (s63 g4 g5), g6, trivial⟩)
theorem l62mo_2 (l : List Post) (o : SO) (s : Nat) (hs : SZ o s l) (g : Nat) (kv : List (PV × PV)) (w : Post → Bool) (h : l62mo_h g kv w) (j : Nat) (es : List PV) (i : Nat) (y1 : Post) (g1 : (↑i : Int) < (↑(List.length (List.map Post.pv l)) : Int)) (g2 : l[i]? = some y1) (g3 : w y1 = false) :
    lv (cv (ev X E0) xf42_l0) (rl [1, 3, 2, 0, 0]) 2 (S62m l o s g kv (.own j 7 es) (↑i : Int)) = lv (cv (ev X E0) xf42_l0) (rl [1, 3, 2, 0, 0]) 2 (St.mk (tmOf 24 [(1, AV.c (.fn g [0])), (5, AV.c (.own j 7 es)), (8, AV.c (.pv (.sl o s (List.map Post.pv l)))), (9, AV.c (vi (↑(List.length (List.map Post.pv l)) : Int))), (10, AV.c (vi (IntKind.wrap .i64 ((↑i : Int) + 1))))]) [.cells [.mp 1], .map kv]) :=
  lv_next [.br true, .sz, .el (Post.pv y1), .call (AV.c (.pv (.bool (w y1)))) [.cells [.mp 1], .map kv], .br false]
    (c := [decide ((↑i : Int) < (↑(List.length (List.map Post.pv l)) : Int)) = true, SZ o s l, 0 ≤ (↑i : Int), (List.map Post.pv l)[i]? = some (Post.pv y1), cc (ev X E0) g [AV.agg (Post.cs y1), AV.c (.ptr 0 0)] [.cells [.mp 1], .map kv] = some (AV.c (.pv (.bool (w y1))), [.cells [.mp 1], .map kv]), w y1 = false]) (by kernel_rfl)
    ⟨(dT g1), hs, (Int.natCast_nonneg _), (map_at g2), (h _), g3, trivial⟩
theorem l62mo_3 (l : List Post) (o : SO) (s : Nat) (_hs : SZ o s l) (g : Nat) (kv : List (PV × PV)) (w : Post → Bool) (_h : l62mo_h g kv w) (j : Nat) (es : List PV) (i : Nat) (g1 : ¬(↑i : Int) < (↑(List.length (List.map Post.pv l)) : Int)) :
    lv (cv (ev X E0) xf42_l0) (rl [1, 3, 2, 0, 0]) 2 (S62m l o s g kv (.own j 7 es) (↑i : Int)) = some (XExit.exit 0, St.mk (tmOf 24 [(5, AV.c (.own j 7 es))]) [.cells [.mp 1], .map kv]) :=
  lv_exit [.br false]
    (c := [decide ((↑i : Int) < (↑(List.length (List.map Post.pv l)) : Int)) = false]) (by kernel_rfl)
    ⟨(dF g1), trivial⟩
theorem a62m {l : List Post} {o : SO} {s : Nat} (hs : szOk 7 (CV.pv (PV.sl o s (List.map Post.pv l))) = true) {g : Nat} {kv : List (PV × PV)} {w : Post → Bool} (h : ∀ p : Post, cc (ev X E0) g [Post.av p, AV.c (.ptr 0 0)] [Box.cells [CV.mp 1], Box.map kv] = some (.b (w p), [Box.cells [CV.mp 1], Box.map kv])) (hl : l.length ≤ 1000000) (hc : ∀ p ∈ l, chk p = 0 ∧ Nice p) : ∀ (r pre : List Post), l = pre ++ r →
    lv (cv (ev X E0) xf42_l0) (rl [1, 3, 2, 0, 0]) 2 (S62m l o s g kv (outC (pre.filter w)) (pre.length : Nat)) = some (XExit.exit 0, St.mk (tmOf 24 [(5, AV.c (outC (l.filter w)))]) (B62m kv))
  | [], pre, e => by
    rw [List.append_nil] at e
    subst e
    rcases outC_cases (l.filter w) with h0 | h0
    · rw [h0]; exact l62mn_3 l o s hs g kv w h l.length (by simp)
    · rw [h0]; exact l62mo_3 l o s hs g kv w h _ _ l.length (by simp)
  | y :: r, pre, e => by
    have hlen : l.length = pre.length + r.length + 1 := by rw [e]; simp; omega
    have hat : l[pre.length]? = some y := by rw [e]; simp
    have hlt := ltP (l := l) (i := pre.length) (by omega)
    obtain ⟨hy, hN⟩ := hc y (by rw [e]; simp)
    have ih := a62m hs (kv := kv) h hl hc r (pre ++ [y]) (by rw [e]; simp)
    rw [List.length_append, List.length_singleton, Int.natCast_add, Int.natCast_one, List.filter_append] at ih
    have hfl : (pre.filter w).length ≤ pre.length := List.length_filter_le _ _
    cases hw : w y with
    | true =>
      rw [show [y].filter w = [y] by simp [hw]] at ih
      rcases outC_cases (pre.filter w) with h0 | h0
      · have st := l62mn_1 l o s hs g kv w h pre.length y hlt hat hw hy hN.so (by simp)
        rw [wi64 (by omega) (by omega)] at st
        rw [outC_nil h0, List.nil_append] at ih
        rw [h0]
        exact st.trans ih
      · have st := l62mo_1 l o s hs g kv w h 1407 (((pre.filter w).map sh).map Post.pv) pre.length y hlt hat hw hy hN.so (by simp only [List.length_map, List.length_singleton]; omega)
        rw [wi64 (by omega) (by omega)] at st
        rw [h0]
        rw [outC_snoc] at ih
        exact st.trans ih
    | false =>
      rw [show [y].filter w = [] by simp [hw], List.append_nil] at ih
      rcases outC_cases (pre.filter w) with h0 | h0
      · have st := l62mn_2 l o s hs g kv w h pre.length y hlt hat hw
        rw [wi64 (by omega) (by omega)] at st
        rw [h0] at ih ⊢
        exact st.trans ih
      · have st := l62mo_2 l o s hs g kv w h 1407 (((pre.filter w).map sh).map Post.pv) pre.length y hlt hat hw
        rw [wi64 (by omega) (by omega)] at st
        rw [h0] at ih ⊢
        exact st.trans ih
theorem f62mn_1 (l : List Post) (o : SO) (s g : Nat) (kv : List (PV × PV)) (h : lv (cv (ev X E0) xf42_l0) (rl [1, 3, 2, 0, 0]) 2 (S62m l o s g kv (.pv (.sl SO.nil 0 [])) 0) = some (XExit.exit 0, St.mk (tmOf 24 [(5, AV.c (.pv (.sl SO.nil 0 [])))]) (B62m kv))) :
    cc (ev X E0) 42 [AV.c (.pv (.sl o s (List.map Post.pv l))), AV.c (.fn g [0])] [.cells [.mp 1], .map kv] = some (AV.c (.pv (.sl SO.nil 0 [])), [.cells [.mp 1], .map kv]) :=
  cc_path (x := xf42) rfl [.loop (XExit.exit 0) (St.mk (tmOf 24 [(5, AV.c (.pv (.sl SO.nil 0 [])))]) [.cells [.mp 1], .map kv])]
    (c := rq [ty h]) (by kernel_rfl)
    (aq ⟨h, trivial⟩)
theorem f62mo_1 (l : List Post) (o : SO) (s g : Nat) (kv : List (PV × PV)) (es : List PV) (h : lv (cv (ev X E0) xf42_l0) (rl [1, 3, 2, 0, 0]) 2 (S62m l o s g kv (.pv (.sl SO.nil 0 [])) 0) = some (XExit.exit 0, St.mk (tmOf 24 [(5, AV.c (.own 1407 7 es))]) (B62m kv))) :
    cc (ev X E0) 42 [AV.c (.pv (.sl o s (List.map Post.pv l))), AV.c (.fn g [0])] [.cells [.mp 1], .map kv] = some (AV.c (.own 0 7 es), [.cells [.mp 1], .map kv]) :=
  cc_path (x := xf42) rfl [.loop (XExit.exit 0) (St.mk (tmOf 24 [(5, AV.c (.own 1407 7 es))]) [.cells [.mp 1], .map kv])]
    (c := rq [ty h]) (by kernel_rfl)
    (aq ⟨h, trivial⟩)
theorem s62m {l : List Post} {o : SO} {s : Nat} (hs : szOk 7 (CV.pv (PV.sl o s (List.map Post.pv l))) = true) {g : Nat} {kv : List (PV × PV)} {w : Post → Bool} (h : ∀ p : Post, cc (ev X E0) g [Post.av p, AV.c (.ptr 0 0)] [Box.cells [CV.mp 1], Box.map kv] = some (.b (w p), [Box.cells [CV.mp 1], Box.map kv])) (hl : l.length ≤ 1000000) (hc : ∀ p ∈ l, chk p = 0 ∧ Nice p) : cc (ev X E0) 42 [AV.sl o s (l.map Post.pv), AV.c (.fn g [0])] [Box.cells [CV.mp 1], Box.map kv] = some (AV.c (outA (l.filter w)), [Box.cells [CV.mp 1], Box.map kv]) := by
  have a := a62m hs (kv := kv) h hl hc l [] rfl
  rcases out_cases (l.filter w) with ⟨h0, h1⟩ | ⟨h0, h1⟩
  · rw [h0] at a; rw [h1]; exact f62mn_1 l o s g kv a
  · rw [h0] at a; rw [h1]; exact f62mo_1 l o s g kv _ a
abbrev f64mn_h (l : List Post) (o : SO) (s g : Nat) (kv : List (PV × PV)) (b : Bool) : Prop := b = true → cc (ev X E0) 42 [AV.sl o s (List.map Post.pv l), AV.c (.fn g [0])] [.cells [.mp 1], .map kv] = some (AV.c (.pv (.sl SO.nil 0 [])), [.cells [.mp 1], .map kv])
theorem f64mn_1 (l : List Post) (o : SO) (s g : Nat) (kv : List (PV × PV)) (b : Bool) (h25 : cc (ev X E0) 38 [AV.agg [.pv (.sl o s (List.map Post.pv l))]] [] = some (AV.b b, [])) (_h : f64mn_h l o s g kv b) (g1 : b = false) :
    cc (ev X E0) 48 [AV.agg [.pv (.sl o s (List.map Post.pv l))], AV.c (.fn g [0])] [.cells [.mp 1], .map kv] = some (AV.tup [AV.c (.pv (.sl SO.nil 0 [])), AV.c (vi 1)], [.cells [.mp 1], .map kv]) :=
  cc_path (x := xf48) rfl [.call (AV.c (.pv (.bool b))) [], .br true]
    (c := rq [ty h25, (1, (!b) = true)]) (by kernel_rfl)
    (aq ⟨h25, (not_t g1), trivial⟩)
theorem f64mn_2 (l : List Post) (o : SO) (s g : Nat) (kv : List (PV × PV)) (b : Bool) (h25 : cc (ev X E0) 38 [AV.agg [.pv (.sl o s (List.map Post.pv l))]] [] = some (AV.b b, [])) (h : f64mn_h l o s g kv b) (g1 : b = true) :
    cc (ev X E0) 48 [AV.agg [.pv (.sl o s (List.map Post.pv l))], AV.c (.fn g [0])] [.cells [.mp 1], .map kv] = some (AV.tup [AV.c (.pv (.sl SO.nil 0 [])), AV.c (vi 0)], [.cells [.mp 1], .map kv]) :=
  cc_path (x := xf48) rfl [.call (AV.c (.pv (.bool b))) [], .br false, .call (AV.c (.pv (.sl SO.nil 0 []))) [.cells [.mp 1], .map kv]]
    (c := rq [ty h25, (1, (!b) = false), (1, cc (ev X E0) 42 [AV.c (.pv (.sl o s (List.map Post.pv l))), AV.c (.fn g [0])] [.cells [.mp 1], .map kv] = some (AV.c (.pv (.sl SO.nil 0 [])), [.cells [.mp 1], .map kv]))]) (by kernel_rfl)
    (aq ⟨h25, (not_f g1), (h g1), trivial⟩)
theorem f64mo_2 (l : List Post) (o : SO) (s g : Nat) (kv : List (PV × PV)) (es : List PV) (b : Bool) (h25 : cc (ev X E0) 38 [AV.agg [.pv (.sl o s (List.map Post.pv l))]] [] = some (AV.b b, [])) (h : b = true → cc (ev X E0) 42 [AV.sl o s (List.map Post.pv l), AV.c (.fn g [0])] [.cells [.mp 1], .map kv] = some (AV.c (.own 0 7 es), [.cells [.mp 1], .map kv])) (g1 : b = true) :
    cc (ev X E0) 48 [AV.agg [.pv (.sl o s (List.map Post.pv l))], AV.c (.fn g [0])] [.cells [.mp 1], .map kv] = some (AV.tup [AV.c (.own 0 7 es), AV.c (vi 0)], [.cells [.mp 1], .map kv]) :=
  cc_path (x := xf48) rfl [.call (AV.c (.pv (.bool b))) [], .br false, .call (AV.c (.own 0 7 es)) [.cells [.mp 1], .map kv]]
    (c := rq [ty h25, (1, (!b) = false), (1, cc (ev X E0) 42 [AV.c (.pv (.sl o s (List.map Post.pv l))), AV.c (.fn g [0])] [.cells [.mp 1], .map kv] = some (AV.c (.own 0 7 es), [.cells [.mp 1], .map kv]))]) (by kernel_rfl)
    (aq ⟨h25, (not_f g1), (h g1), trivial⟩)
theorem s64m {l : List Post} {o : SO} {s : Nat} (hs : szOk 7 (CV.pv (PV.sl o s (List.map Post.pv l))) = true) (ho : o = .nil → l = []) {g : Nat} {kv : List (PV × PV)} {w : Post → Bool} (h : ∀ p : Post, cc (ev X E0) g [Post.av p, AV.c (.ptr 0 0)] [Box.cells [CV.mp 1], Box.map kv] = some (.b (w p), [Box.cells [CV.mp 1], Box.map kv])) (hl : l.length ≤ 1000) (hN : ∀ p ∈ l, Nice p) : cc (ev X E0) 48 [AV.agg [CV.pv (PV.sl o s (l.map Post.pv))], AV.c (.fn g [0])] [Box.cells [CV.mp 1], Box.map kv] = some (.tup [AV.c (outA (pickR l w)), AV.i (pickE l)], [Box.cells [CV.mp 1], Box.map kv]) := by
  have h25 := s25 hs ho hl hN
  unfold pickR pickE
  cases hr : rightB l with
  | false =>
    rw [hr] at h25
    exact f64mn_1 l o s g kv _ h25 (fun h => by cases h) rfl
  | true =>
    rw [hr] at h25
    have a := fun _ : true = true => s62m hs (o := o) (kv := kv) h (by omega) fun p hp => ⟨right_chk hr p hp, hN p hp⟩
    rcases out_cases (l.filter w) with ⟨_, h1⟩ | ⟨_, h1⟩
    · rw [h1] at a; simp only [if_true]; rw [h1]; exact f64mn_2 l o s g kv _ h25 a rfl
    · rw [h1] at a; simp only [if_true]; rw [h1]; exact f64mo_2 l o s g kv _ _ h25 a rfl
end Go.Sx.Tryd
