/- What the document tells of a book. -/
import Derived.Test.YtplknajjcllmkaaDoorN5
import Derived.Test.YtplknajjcllmkaaDoorN3
import Derived.Test.YtplknajjcllmkaaDoorN1b
namespace Go.Sx.Tryd
open Go Go.Sx
abbrev S29 (l : List Post) (o : SO) (s : Nat) (k v i : Int) (x : CV) : St := St.mk (tmOf 40 [(0, AV.c (CV.pv (PV.sl o s (List.map Post.pv l)))), (1, AV.c (CV.pv (PV.int .i32 k))), (2, AV.c (CV.pv (PV.int .i32 v))), (7, AV.c x), (8, AV.c (CV.pv (PV.int .i64 i)))]) []
theorem l29n_1 (l : List Post) (o : SO) (s : Nat) (hs : SZ o s l) (k v : Int) (i : Nat) (y1 : Post) (g1 : (↑i : Int) < (↑(List.length (List.map Post.pv l)) : Int)) (g2 : l[i]? = some y1) (g3 : y1.known ≤ k) (g4 : y1.value ≤ v) (g5 : (↑(0 + List.length [Post.pv y1]) : Int) * 72 ≤ 140737488355328) :
    lv (cv (ev X E0) xf66_l0) (rl [0, 0, 0, 4, 0]) 0 (S29 l o s k v (↑i : Int) (.pv (.sl SO.full 7 []))) = lv (cv (ev X E0) xf66_l0) (rl [0, 0, 0, 4, 0]) 0 (St.mk (tmOf 40 [(0, AV.c (.pv (.sl o s (List.map Post.pv l)))), (1, AV.c (vw k)), (2, AV.c (vw v)), (7, AV.c (.own 2495 7 [Post.pv y1])), (8, AV.c (vi (IntKind.wrap .i64 ((↑i : Int) + 1))))]) []) :=
  lv_next ([.br true, .sz, .el (Post.pv y1)] ++ bs 3 true ++ [.sz, .el (Post.pv y1)] ++ bs 6 true ++ [.sz, .el (Post.pv y1), .emp false])
    (c := rq [(1, decide ((↑i : Int) < (↑(List.length (List.map Post.pv l)) : Int)) = true), (1, SZ o s l), (1, 0 ≤ (↑i : Int)), (1, (List.map Post.pv l)[i]? = some (Post.pv y1)), (3, decide (y1.known ≤ k) = true), (1, SZ o s l), (1, 0 ≤ (↑i : Int)), (1, (List.map Post.pv l)[i]? = some (Post.pv y1)), (5, decide (y1.known ≤ k) = true), (1, decide (y1.value ≤ v) = true), (1, SZ o s l), (1, 0 ≤ (↑i : Int)), (1, (List.map Post.pv l)[i]? = some (Post.pv y1)), (1, [Post.pv y1] ≠ []), ty g5]) (by kernel_rfl)
    (aq ⟨(dT g1), hs, (Int.natCast_nonneg _), (map_at g2), (dT g3), hs, (Int.natCast_nonneg _), (map_at g2), (dT g3), (dT g4), hs, (Int.natCast_nonneg _), (map_at g2), (List.cons_ne_nil _ _), g5, trivial⟩)
theorem l29n_2 (l : List Post) (o : SO) (s : Nat) (hs : SZ o s l) (k v : Int) (i : Nat) (y1 : Post) (g1 : (↑i : Int) < (↑(List.length (List.map Post.pv l)) : Int)) (g2 : l[i]? = some y1) (g3 : y1.known ≤ k) (g4 : ¬y1.value ≤ v) :
    lv (cv (ev X E0) xf66_l0) (rl [0, 0, 0, 4, 0]) 0 (S29 l o s k v (↑i : Int) (.pv (.sl SO.full 7 []))) = lv (cv (ev X E0) xf66_l0) (rl [0, 0, 0, 4, 0]) 0 (St.mk (tmOf 40 [(0, AV.c (.pv (.sl o s (List.map Post.pv l)))), (1, AV.c (vw k)), (2, AV.c (vw v)), (7, AV.c (.pv (.sl SO.full 7 []))), (8, AV.c (vi (IntKind.wrap .i64 ((↑i : Int) + 1))))]) []) :=
  lv_next ([.br true, .sz, .el (Post.pv y1)] ++ bs 3 true ++ [.sz, .el (Post.pv y1)] ++ bs 5 true ++ [.br false])
    (c := rq [(1, decide ((↑i : Int) < (↑(List.length (List.map Post.pv l)) : Int)) = true), (1, SZ o s l), (1, 0 ≤ (↑i : Int)), (1, (List.map Post.pv l)[i]? = some (Post.pv y1)), (3, decide (y1.known ≤ k) = true), (1, SZ o s l), (1, 0 ≤ (↑i : Int)), (1, (List.map Post.pv l)[i]? = some (Post.pv y1)), (5, decide (y1.known ≤ k) = true), (1, decide (y1.value ≤ v) = false)]) (by kernel_rfl)
    (aq ⟨(dT g1), hs, (Int.natCast_nonneg _), (map_at g2), (dT g3), hs, (Int.natCast_nonneg _), (map_at g2), (dT g3), (dF g4), trivial⟩)
theorem l29n_3 (l : List Post) (o : SO) (s : Nat) (hs : SZ o s l) (k v : Int) (i : Nat) (y1 : Post) (g1 : (↑i : Int) < (↑(List.length (List.map Post.pv l)) : Int)) (g2 : l[i]? = some y1) (g3 : ¬y1.known ≤ k) :
    lv (cv (ev X E0) xf66_l0) (rl [0, 0, 0, 4, 0]) 0 (S29 l o s k v (↑i : Int) (.pv (.sl SO.full 7 []))) = lv (cv (ev X E0) xf66_l0) (rl [0, 0, 0, 4, 0]) 0 (St.mk (tmOf 40 [(0, AV.c (.pv (.sl o s (List.map Post.pv l)))), (1, AV.c (vw k)), (2, AV.c (vw v)), (7, AV.c (.pv (.sl SO.full 7 []))), (8, AV.c (vi (IntKind.wrap .i64 ((↑i : Int) + 1))))]) []) :=
  lv_next ([.br true, .sz, .el (Post.pv y1)] ++ bs 9 false)
    (c := rq [(1, decide ((↑i : Int) < (↑(List.length (List.map Post.pv l)) : Int)) = true), (1, SZ o s l), (1, 0 ≤ (↑i : Int)), (1, (List.map Post.pv l)[i]? = some (Post.pv y1)), (8, decide (y1.known ≤ k) = false), zf 1]) (by kernel_rfl)
    (aq ⟨(dT g1), hs, (Int.natCast_nonneg _), (map_at g2), (dF g3), rfl, trivial⟩)
theorem l29n_4 (l : List Post) (o : SO) (s : Nat) (_hs : SZ o s l) (k v : Int) (i : Nat) (g1 : ¬(↑i : Int) < (↑(List.length (List.map Post.pv l)) : Int)) :
    lv (cv (ev X E0) xf66_l0) (rl [0, 0, 0, 4, 0]) 0 (S29 l o s k v (↑i : Int) (.pv (.sl SO.full 7 []))) = some (XExit.exit 0, St.mk (tmOf 40 [(7, AV.c (.pv (.sl SO.full 7 [])))]) []) :=
  lv_exit [.br false]
    (c := [decide ((↑i : Int) < (↑(List.length (List.map Post.pv l)) : Int)) = false]) (by kernel_rfl)
    ⟨(dF g1), trivial⟩
theorem l29o_1 (l : List Post) (o : SO) (s : Nat) (hs : SZ o s l) (k v : Int) (j : Nat) (es : List PV) (i : Nat) (y1 : Post) (g1 : (↑i : Int) < (↑(List.length (List.map Post.pv l)) : Int)) (g2 : l[i]? = some y1) (g3 : y1.known ≤ k) (g4 : y1.value ≤ v) (g5 : (↑(List.length es + List.length [Post.pv y1]) : Int) * 72 ≤ 140737488355328) :
    lv (cv (ev X E0) xf66_l0) (rl [0, 0, 0, 4, 0]) 0 (S29 l o s k v (↑i : Int) (.own j 7 es)) = lv (cv (ev X E0) xf66_l0) (rl [0, 0, 0, 4, 0]) 0 (St.mk (tmOf 40 [(0, AV.c (.pv (.sl o s (List.map Post.pv l)))), (1, AV.c (vw k)), (2, AV.c (vw v)), (7, AV.c (.own 2495 7 (es ++ [Post.pv y1]))), (8, AV.c (vi (IntKind.wrap .i64 ((↑i : Int) + 1))))]) []) :=
  lv_next ([.br true, .sz, .el (Post.pv y1)] ++ bs 3 true ++ [.sz, .el (Post.pv y1)] ++ bs 6 true ++ [.sz, .el (Post.pv y1)])
    (c := rq [(1, decide ((↑i : Int) < (↑(List.length (List.map Post.pv l)) : Int)) = true), (1, SZ o s l), (1, 0 ≤ (↑i : Int)), (1, (List.map Post.pv l)[i]? = some (Post.pv y1)), (3, decide (y1.known ≤ k) = true), (1, SZ o s l), (1, 0 ≤ (↑i : Int)), (1, (List.map Post.pv l)[i]? = some (Post.pv y1)), (5, decide (y1.known ≤ k) = true), (1, decide (y1.value ≤ v) = true), (1, SZ o s l), (1, 0 ≤ (↑i : Int)), (1, (List.map Post.pv l)[i]? = some (Post.pv y1)), ty g5]) (by kernel_rfl)
    (aq ⟨(dT g1), hs, (Int.natCast_nonneg _), (map_at g2), (dT g3), hs, (Int.natCast_nonneg _), (map_at g2), (dT g3), (dT g4), hs, (Int.natCast_nonneg _), (map_at g2), g5, trivial⟩)
theorem l29o_2 (l : List Post) (o : SO) (s : Nat) (hs : SZ o s l) (k v : Int) (j : Nat) (es : List PV) (i : Nat) (y1 : Post) (g1 : (↑i : Int) < (↑(List.length (List.map Post.pv l)) : Int)) (g2 : l[i]? = some y1) (g3 : y1.known ≤ k) (g4 : ¬y1.value ≤ v) :
    lv (cv (ev X E0) xf66_l0) (rl [0, 0, 0, 4, 0]) 0 (S29 l o s k v (↑i : Int) (.own j 7 es)) = lv (cv (ev X E0) xf66_l0) (rl [0, 0, 0, 4, 0]) 0 (St.mk (tmOf 40 [(0, AV.c (.pv (.sl o s (List.map Post.pv l)))), (1, AV.c (vw k)), (2, AV.c (vw v)), (7, AV.c (.own j 7 es)), (8, AV.c (vi (IntKind.wrap .i64 ((↑i : Int) + 1))))]) []) :=
  lv_next ([.br true, .sz, .el (Post.pv y1)] ++ bs 3 true ++ [.sz, .el (Post.pv y1)] ++ bs 5 true ++ [.br false])
    (c := rq [(1, decide ((↑i : Int) < (↑(List.length (List.map Post.pv l)) : Int)) = true), (1, SZ o s l), (1, 0 ≤ (↑i : Int)), (1, (List.map Post.pv l)[i]? = some (Post.pv y1)), (3, decide (y1.known ≤ k) = true), (1, SZ o s l), (1, 0 ≤ (↑i : Int)), (1, (List.map Post.pv l)[i]? = some (Post.pv y1)), (5, decide (y1.known ≤ k) = true), (1, decide (y1.value ≤ v) = false)]) (by kernel_rfl)
    (aq ⟨(dT g1), hs, (Int.natCast_nonneg _), (map_at g2), (dT g3), hs, (Int.natCast_nonneg _), (map_at g2), (dT g3), (dF g4), trivial⟩)
theorem l29o_3 (l : List Post) (o : SO) (s : Nat) (hs : SZ o s l) (k v : Int) (j : Nat) (es : List PV) (i : Nat) (y1 : Post) (g1 : (↑i : Int) < (↑(List.length (List.map Post.pv l)) : Int)) (g2 : l[i]? = some y1) (g3 : ¬y1.known ≤ k) :
    lv (cv (ev X E0) xf66_l0) (rl [0, 0, 0, 4, 0]) 0 (S29 l o s k v (↑i : Int) (.own j 7 es)) = lv (cv (ev X E0) xf66_l0) (rl [0, 0, 0, 4, 0]) 0 (St.mk (tmOf 40 [(0, AV.c (.pv (.sl o s (List.map Post.pv l)))), (1, AV.c (vw k)), (2, AV.c (vw v)), (7, AV.c (.own j 7 es)), (8, AV.c (vi (IntKind.wrap .i64 ((↑i : Int) + 1))))]) []) :=
  lv_next ([.br true, .sz, .el (Post.pv y1)] ++ bs 9 false)
    (c := rq [(1, decide ((↑i : Int) < (↑(List.length (List.map Post.pv l)) : Int)) = true), (1, SZ o s l), (1, 0 ≤ (↑i : Int)), (1, (List.map Post.pv l)[i]? = some (Post.pv y1)), (8, decide (y1.known ≤ k) = false), zf 1]) (by kernel_rfl)
    (aq ⟨(dT g1), hs, (Int.natCast_nonneg _), (map_at g2), (dF g3), rfl, trivial⟩)
theorem l29o_4 (l : List Post) (o : SO) (s : Nat) (_hs : SZ o s l) (k v : Int) (j : Nat) (es : List PV) (i : Nat) (g1 : ¬(↑i : Int) < (↑(List.length (List.map Post.pv l)) : Int)) :
    lv (cv (ev X E0) xf66_l0) (rl [0, 0, 0, 4, 0]) 0 (S29 l o s k v (↑i : Int) (.own j 7 es)) = some (XExit.exit 0, St.mk (tmOf 40 [(7, AV.c (.own j 7 es))]) []) :=
  lv_exit [.br false]
    (c := [decide ((↑i : Int) < (↑(List.length (List.map Post.pv l)) : Int)) = false]) (by kernel_rfl)
    ⟨(dF g1), trivial⟩
def outF (n : Nat) (es : List Post) : CV := if es.isEmpty then CV.pv (PV.sl SO.full 7 []) else CV.own n 7 (es.map Post.pv)
theorem outF_snoc (n : Nat) (es : List Post) (y : Post) : outF n (es ++ [y]) = CV.own n 7 (es.map Post.pv ++ [Post.pv y]) := by
  unfold outF
  rw [if_neg (by simp)]; simp
theorem outF_cases (n : Nat) (es : List Post) : (es = [] ∧ outF n es = CV.pv (PV.sl SO.full 7 [])) ∨ outF n es = CV.own n 7 (es.map Post.pv) := by
  unfold outF; cases es <;> simp
def outFP (es : List Post) : PV := if es.isEmpty then PV.sl SO.full 7 [] else PV.sl .shut 7 (es.map Post.pv)
theorem a29 {l : List Post} {o : SO} {s : Nat} (hs : szOk 7 (CV.pv (PV.sl o s (List.map Post.pv l))) = true) {k v : Int} (hl : l.length ≤ 1000000) : ∀ (r pre : List Post), l = pre ++ r →
    lv (cv (ev X E0) xf66_l0) (rl [0, 0, 0, 4, 0]) 0 (S29 l o s k v (pre.length : Nat) (outF 2495 (pre.filter (within k v)))) = some (XExit.exit 0, St.mk (tmOf 40 [(7, AV.c (outF 2495 (l.filter (within k v))))]) [])
  | [], pre, e => by
    rw [List.append_nil] at e
    subst e
    rcases outF_cases 2495 (l.filter (within k v)) with ⟨_, h0⟩ | h0
    · rw [h0]; exact l29n_4 l o s hs k v l.length (by simp)
    · rw [h0]; exact l29o_4 l o s hs k v _ _ l.length (by simp)
  | y :: r, pre, e => by
    have hlen : l.length = pre.length + r.length + 1 := by rw [e]; simp; omega
    have hat : l[pre.length]? = some y := by rw [e]; simp
    have hlt := ltP (l := l) (i := pre.length) (by omega)
    have hfl : (pre.filter (within k v)).length ≤ pre.length := List.length_filter_le _ _
    have ih := a29 (k := k) (v := v) hs hl r (pre ++ [y]) (by rw [e]; simp)
    rw [List.length_append, List.length_singleton, Int.natCast_add, Int.natCast_one, List.filter_append] at ih
    by_cases c : y.known ≤ k
    · by_cases c2 : y.value ≤ v
      · rw [show [y].filter (within k v) = [y] by simp [within, c, c2], outF_snoc] at ih
        rcases outF_cases 2495 (pre.filter (within k v)) with ⟨h1, h0⟩ | h0
        · have st := l29n_1 l o s hs k v pre.length y hlt hat c c2 (by simp)
          rw [wi64 (by omega) (by omega)] at st
          rw [h1] at ih
          rw [h0]; exact st.trans ih
        · have st := l29o_1 l o s hs k v 2495 ((pre.filter (within k v)).map Post.pv) pre.length y hlt hat c c2 (by simp only [List.length_map, List.length_singleton]; omega)
          rw [wi64 (by omega) (by omega)] at st
          rw [h0]; exact st.trans ih
      · rw [show [y].filter (within k v) = [] by simp [within, c2], List.append_nil] at ih
        rcases outF_cases 2495 (pre.filter (within k v)) with ⟨_, h0⟩ | h0
        · have st := l29n_2 l o s hs k v pre.length y hlt hat c c2
          rw [wi64 (by omega) (by omega)] at st
          rw [h0] at ih ⊢; exact st.trans ih
        · have st := l29o_2 l o s hs k v 2495 ((pre.filter (within k v)).map Post.pv) pre.length y hlt hat c c2
          rw [wi64 (by omega) (by omega)] at st
          rw [h0] at ih ⊢; exact st.trans ih
    · rw [show [y].filter (within k v) = [] by simp [within, c], List.append_nil] at ih
      rcases outF_cases 2495 (pre.filter (within k v)) with ⟨_, h0⟩ | h0
      · have st := l29n_3 l o s hs k v pre.length y hlt hat c
        rw [wi64 (by omega) (by omega)] at st
        rw [h0] at ih ⊢; exact st.trans ih
      · have st := l29o_3 l o s hs k v 2495 ((pre.filter (within k v)).map Post.pv) pre.length y hlt hat c
        rw [wi64 (by omega) (by omega)] at st
        rw [h0] at ih ⊢; exact st.trans ih
theorem f29n_1 (l : List Post) (o : SO) (s : Nat) (k v : Int) (h : lv (cv (ev X E0) xf66_l0) (rl [0, 0, 0, 4, 0]) 0 (S29 l o s k v 0 (.pv (.sl SO.full 7 []))) = some (XExit.exit 0, St.mk (tmOf 40 [(7, AV.c (.pv (.sl SO.full 7 [])))]) [])) :
    cc (ev X E0) 66 [AV.c (.pv (.sl o s (List.map Post.pv l))), AV.c (vw k), AV.c (vw v)] [] = some (AV.c (.pv (.sl SO.full 7 [])), []) :=
  cc_path (x := xf66) rfl [.loop (XExit.exit (0 : Nat)) (St.mk (tmOf (40 : Nat) [((7 : Nat), AV.c (.pv (.sl SO.full (7 : Nat) [])))]) [])]
    (c := rq [ty h]) (by kernel_rfl)
    (aq ⟨h, trivial⟩)
theorem f29o_1 (l : List Post) (o : SO) (s : Nat) (k v : Int) (es : List PV) (h : lv (cv (ev X E0) xf66_l0) (rl [0, 0, 0, 4, 0]) 0 (S29 l o s k v 0 (.pv (.sl SO.full 7 []))) = some (XExit.exit 0, St.mk (tmOf 40 [(7, AV.c (.own 2495 7 es))]) [])) :
    cc (ev X E0) 66 [AV.c (.pv (.sl o s (List.map Post.pv l))), AV.c (vw k), AV.c (vw v)] [] = some (AV.c (.own 0 7 es), []) :=
  cc_path (x := xf66) rfl [.loop (XExit.exit 0) (St.mk (tmOf 40 [(7, AV.c (.own 2495 7 es))]) [])]
    (c := rq [ty h]) (by kernel_rfl)
    (aq ⟨h, trivial⟩)
theorem outFP_cases (n : Nat) (es : List Post) : (outF n es = CV.pv (PV.sl SO.full 7 []) ∧ outFP es = PV.sl SO.full 7 []) ∨ (outF n es = CV.own n 7 (es.map Post.pv) ∧ outFP es = PV.sl .shut 7 (es.map Post.pv)) := by
  unfold outF outFP; cases es <;> simp
theorem s29 {l : List Post} {o : SO} {s : Nat} (hs : szOk 7 (CV.pv (PV.sl o s (List.map Post.pv l))) = true) (k v : Int) (hl : l.length ≤ 1000000) : cs (ev X E0) 66 [AV.sl o s (l.map Post.pv), AV.int .i32 k, AV.int .i32 v] = some (.c (CV.pv (outFP (l.filter (within k v))))) := by
  have a := a29 (k := k) (v := v) hs hl l [] rfl
  rcases outFP_cases 2495 (l.filter (within k v)) with ⟨h0, h1⟩ | ⟨h0, h1⟩
  · rw [h0] at a; rw [h1]; exact cs_of (f29n_1 l o s k v a)
  · rw [h0] at a; rw [h1]; exact cs_of (f29o_1 l o s k v _ a)
end Go.Sx.Tryd
