/- What is told of a book. -/
import Derived.Test.YtdhefhnlagnkdaaDoorN4
namespace Go.Sx.Tryd
open Go Go.Sx
abbrev Bk (o : SO) (s : Nat) (l : List Post) : AV := AV.agg [CV.pv (PV.sl o s (l.map Post.pv))]
abbrev S24 (l : List Post) (o : SO) (s : Nat) (kv : List (PV × PV)) (e : Int) (m : List Post) (x : CV) (i : Int) : St := St.mk (tmOf 33 [(6, AV.c (CV.pv (PV.int .i64 e))), (7, AV.c x), (19, AV.c (CV.own 1024 7 (List.map Post.pv m))), (20, AV.c (CV.pv (PV.int .i64 (↑(List.length (List.map Post.pv m)) : Int)))), (21, AV.c (CV.pv (PV.int .i64 i)))]) [Box.cells [CV.pv (PV.sl o s (List.map Post.pv l))], Box.map kv, Box.cells [CV.mp 1]]
theorem l24n_1 (l : List Post) (o : SO) (s : Nat) (kv : List (PV × PV)) (e : Int) (m : List Post) (i : Nat) (y1 : Post) (g1 : (↑i : Int) < (↑(List.length (List.map Post.pv m)) : Int)) (g2 : m[i]? = some y1) (g3 : (↑(0 + List.length [PV.int .i64 y1.id]) : Int) * 8 ≤ 140737488355328) :
    lv (cv (ev X E0) xf24_l0) (rl [6, 0, 11, 0, 0]) 3 (S24 l o s kv e m (.pv (.sl SO.nil 0 [])) (↑i : Int)) = lv (cv (ev X E0) xf24_l0) (rl [6, 0, 11, 0, 0]) 3 (St.mk (tmOf 33 [(6, AV.c (vi e)), (7, AV.c (.own 1919 1 [PV.int .i64 y1.id])), (19, AV.c (.own 1024 7 (List.map Post.pv m))), (20, AV.c (vi (↑(List.length (List.map Post.pv m)) : Int))), (21, AV.c (vi (IntKind.wrap .i64 ((↑i : Int) + 1))))]) [.cells [.pv (.sl o s (List.map Post.pv l))], .map kv, .cells [.mp 1]]) :=
  lv_next [.br true, .el (Post.pv y1), .emp false]
    (c := [decide ((↑i : Int) < (↑(List.length (List.map Post.pv m)) : Int)) = true, 0 ≤ (↑i : Int), (List.map Post.pv m)[i]? = some (Post.pv y1), [PV.int .i64 y1.id] ≠ [], (↑(0 + List.length [PV.int .i64 y1.id]) : Int) * 8 ≤ 140737488355328]) (by kernel_rfl)
    ⟨(decide_eq_true g1), (Int.natCast_nonneg _), (map_at g2), (List.cons_ne_nil _ _), g3, trivial⟩
theorem l24n_2 (l : List Post) (o : SO) (s : Nat) (kv : List (PV × PV)) (e : Int) (m : List Post) (i : Nat) (g1 : ¬(↑i : Int) < (↑(List.length (List.map Post.pv m)) : Int)) :
    lv (cv (ev X E0) xf24_l0) (rl [6, 0, 11, 0, 0]) 3 (S24 l o s kv e m (.pv (.sl SO.nil 0 [])) (↑i : Int)) = some (XExit.exit 0, St.mk (tmOf 33 [(6, AV.c (vi e)), (7, AV.c (.pv (.sl SO.nil 0 [])))]) [.cells [.pv (.sl o s (List.map Post.pv l))], .map kv, .cells [.mp 1]]) :=
  lv_exit [.br false]
    (c := [decide ((↑i : Int) < (↑(List.length (List.map Post.pv m)) : Int)) = false]) (by kernel_rfl)
    ⟨(decide_eq_false g1), trivial⟩
theorem l24o_1 (l : List Post) (o : SO) (s : Nat) (kv : List (PV × PV)) (e : Int) (m : List Post) (es : List PV) (i : Nat) (y1 : Post) (g1 : (↑i : Int) < (↑(List.length (List.map Post.pv m)) : Int)) (g2 : m[i]? = some y1) (g3 : (↑(List.length es + List.length [PV.int .i64 y1.id]) : Int) * 8 ≤ 140737488355328) :
    lv (cv (ev X E0) xf24_l0) (rl [6, 0, 11, 0, 0]) 3 (S24 l o s kv e m (.own 1919 1 es) (↑i : Int)) = lv (cv (ev X E0) xf24_l0) (rl [6, 0, 11, 0, 0]) 3 (St.mk (tmOf 33 [(6, AV.c (vi e)), (7, AV.c (.own 1919 1 (es ++ [PV.int .i64 y1.id]))), (19, AV.c (.own 1024 7 (List.map Post.pv m))), (20, AV.c (vi (↑(List.length (List.map Post.pv m)) : Int))), (21, AV.c (vi (IntKind.wrap .i64 ((↑i : Int) + 1))))]) [.cells [.pv (.sl o s (List.map Post.pv l))], .map kv, .cells [.mp 1]]) :=
  lv_next [.br true, .el (Post.pv y1)]
    (c := [decide ((↑i : Int) < (↑(List.length (List.map Post.pv m)) : Int)) = true, 0 ≤ (↑i : Int), (List.map Post.pv m)[i]? = some (Post.pv y1), (↑(List.length es + List.length [PV.int .i64 y1.id]) : Int) * 8 ≤ 140737488355328]) (by kernel_rfl)
    ⟨(decide_eq_true g1), (Int.natCast_nonneg _), (map_at g2), g3, trivial⟩
theorem l24o_2 (l : List Post) (o : SO) (s : Nat) (kv : List (PV × PV)) (e : Int) (m : List Post) (es : List PV) (i : Nat) (g1 : ¬(↑i : Int) < (↑(List.length (List.map Post.pv m)) : Int)) :
    lv (cv (ev X E0) xf24_l0) (rl [6, 0, 11, 0, 0]) 3 (S24 l o s kv e m (.own 1919 1 es) (↑i : Int)) = some (XExit.exit 0, St.mk (tmOf 33 [(6, AV.c (vi e)), (7, AV.c (.own 1919 1 es))]) [.cells [.pv (.sl o s (List.map Post.pv l))], .map kv, .cells [.mp 1]]) :=
  lv_exit [.br false]
    (c := [decide ((↑i : Int) < (↑(List.length (List.map Post.pv m)) : Int)) = false]) (by kernel_rfl)
    ⟨(decide_eq_false g1), trivial⟩
theorem l24z_1 (l : List Post) (o : SO) (s : Nat) (kv : List (PV × PV)) (e : Int) :
    lv (cv (ev X E0) xf24_l0) (rl [6, 0, 11, 0, 0]) 3 (St.mk (tmOf 33 [(6, AV.c (vi e)), (7, AV.c (.pv (.sl SO.nil 0 []))), (19, AV.c (.pv (.sl SO.nil 0 []))), (20, AV.c (vi 0)), (21, AV.c (vi 0))]) [.cells [.pv (.sl o s (List.map Post.pv l))], .map kv, .cells [.mp 1]]) = some (XExit.exit 0, St.mk (tmOf 33 [(6, AV.c (vi e)), (7, AV.c (.pv (.sl SO.nil 0 [])))]) [.cells [.pv (.sl o s (List.map Post.pv l))], .map kv, .cells [.mp 1]]) :=
  lv_exit [.br false]
    (c := [false = false]) (by kernel_rfl)
    ⟨rfl, trivial⟩
theorem f24n_1 (l : List Post) (o : SO) (s : Nat) (kv : List (PV × PV)) (e : Int) (h60 : cc (ev X E0) 60 [AV.sl o s (List.map Post.pv l)] [] = some (AV.c (.mp 0), [.map kv])) (h : cc (ev X E0) 64 [AV.agg [.pv (.sl o s (List.map Post.pv l))], AV.c (.fn 71 [0])] [.cells [.mp 1], .map kv] = some (AV.tup [AV.c (.pv (.sl SO.nil 0 [])), AV.i e], [.cells [.mp 1], .map kv])) :
    cc (ev X E0) 24 [AV.agg [.pv (.sl o s (List.map Post.pv l))]] [] = some (AV.tup [AV.c (.pv (.sl SO.nil 0 [])), AV.c (vi e)], []) :=
  cc_path (x := xf24) rfl [.call (AV.c (.mp 0)) [.map kv], .call (AV.tup [AV.c (.pv (.sl SO.nil 0 [])), AV.c (vi e)]) [.cells [.mp 1], .map kv], .loop (XExit.exit 0) (St.mk (tmOf 33 [(6, AV.c (vi e)), (7, AV.c (.pv (.sl SO.nil 0 [])))]) [.cells [.pv (.sl o s (List.map Post.pv l))], .map kv, .cells [.mp 1]])]
    (c := [cc (ev X E0) 60 [AV.c (.pv (.sl o s (List.map Post.pv l)))] [] = some (AV.c (.mp 0), [.map kv]), cc (ev X E0) 64 [AV.agg [.pv (.sl o s (List.map Post.pv l))], AV.c (.fn 71 [0])] [.cells [.mp 1], .map kv] = some (AV.tup [AV.c (.pv (.sl SO.nil 0 [])), AV.c (vi e)], [.cells [.mp 1], .map kv]), lv (cv (ev X E0) xf24_l0) (rl [6, 0, 11, 0, 0]) 3 (St.mk (tmOf 33 [(6, AV.c (vi e)), (7, AV.c (.pv (.sl SO.nil 0 []))), (19, AV.c (.pv (.sl SO.nil 0 []))), (20, AV.c (vi 0)), (21, AV.c (vi 0))]) [.cells [.pv (.sl o s (List.map Post.pv l))], .map kv, .cells [.mp 1]]) = some (XExit.exit 0, St.mk (tmOf 33 [(6, AV.c (vi e)), (7, AV.c (.pv (.sl SO.nil 0 [])))]) [.cells [.pv (.sl o s (List.map Post.pv l))], .map kv, .cells [.mp 1]])]) (by kernel_rfl)
    ⟨(h60), (h), (l24z_1 _ _ _ _ _), trivial⟩
theorem f24o_1 (l : List Post) (o : SO) (s : Nat) (kv : List (PV × PV)) (e : Int) (m : List Post) (es : List PV) (h60 : cc (ev X E0) 60 [AV.sl o s (List.map Post.pv l)] [] = some (AV.c (.mp 0), [.map kv])) (h : cc (ev X E0) 64 [AV.agg [.pv (.sl o s (List.map Post.pv l))], AV.c (.fn 71 [0])] [.cells [.mp 1], .map kv] = some (AV.tup [AV.c (.own 0 7 (List.map Post.pv m)), AV.i e], [.cells [.mp 1], .map kv])) (hl : lv (cv (ev X E0) xf24_l0) (rl [6, 0, 11, 0, 0]) 3 (S24 l o s kv e m (.pv (.sl SO.nil 0 [])) 0) = some (XExit.exit 0, St.mk (tmOf 33 [(6, AV.c (vi e)), (7, AV.c (.own 1919 1 es))]) [.cells [.pv (.sl o s (List.map Post.pv l))], .map kv, .cells [.mp 1]])) :
    cc (ev X E0) 24 [AV.agg [.pv (.sl o s (List.map Post.pv l))]] [] = some (AV.tup [AV.c (.own 0 1 es), AV.c (vi e)], []) :=
  cc_path (x := xf24) rfl [.call (AV.c (.mp 0)) [.map kv], .call (AV.tup [AV.c (.own 0 7 (List.map Post.pv m)), AV.c (vi e)]) [.cells [.mp 1], .map kv], .loop (XExit.exit 0) (St.mk (tmOf 33 [(6, AV.c (vi e)), (7, AV.c (.own 1919 1 es))]) [.cells [.pv (.sl o s (List.map Post.pv l))], .map kv, .cells [.mp 1]])]
    (c := [cc (ev X E0) 60 [AV.c (.pv (.sl o s (List.map Post.pv l)))] [] = some (AV.c (.mp 0), [.map kv]), cc (ev X E0) 64 [AV.agg [.pv (.sl o s (List.map Post.pv l))], AV.c (.fn 71 [0])] [.cells [.mp 1], .map kv] = some (AV.tup [AV.c (.own 0 7 (List.map Post.pv m)), AV.c (vi e)], [.cells [.mp 1], .map kv]), lv (cv (ev X E0) xf24_l0) (rl [6, 0, 11, 0, 0]) 3 (St.mk (tmOf 33 [(6, AV.c (vi e)), (7, AV.c (.pv (.sl SO.nil 0 []))), (19, AV.c (.own 1024 7 (List.map Post.pv m))), (20, AV.c (vi (↑(List.length (List.map Post.pv m)) : Int))), (21, AV.c (vi 0))]) [.cells [.pv (.sl o s (List.map Post.pv l))], .map kv, .cells [.mp 1]]) = some (XExit.exit 0, St.mk (tmOf 33 [(6, AV.c (vi e)), (7, AV.c (.own 1919 1 es))]) [.cells [.pv (.sl o s (List.map Post.pv l))], .map kv, .cells [.mp 1]])]) (by kernel_rfl)
    ⟨(h60), (h), (hl), trivial⟩
def outP (es : List Post) : PV := if es.isEmpty then PV.sl SO.nil 0 [] else PV.sl .shut 7 ((es.map sh).map Post.pv)
def outI (es : List Post) : CV := if es.isEmpty then CV.pv (PV.sl SO.nil 0 []) else CV.own 1919 1 (es.map fun p => PV.int .i64 p.id)
def idsP (es : List Post) : PV := if es.isEmpty then PV.sl SO.nil 0 [] else PV.sl .shut 1 (es.map fun p => PV.int .i64 p.id)
theorem a24 {l : List Post} {o : SO} {s : Nat} {kv : List (PV × PV)} {e : Int} {m : List Post} (hl : m.length ≤ 1000000) : ∀ (r pre : List Post), m = pre ++ r →
    lv (cv (ev X E0) xf24_l0) (rl [6, 0, 11, 0, 0]) 3 (S24 l o s kv e m (outI pre) (pre.length : Nat)) = some (XExit.exit 0, St.mk (tmOf 33 [(6, AV.c (vi e)), (7, AV.c (outI m))]) [Box.cells [CV.pv (PV.sl o s (List.map Post.pv l))], Box.map kv, Box.cells [CV.mp 1]])
  | [], pre, h => by
    rw [List.append_nil] at h
    subst h
    cases m with
    | nil => exact l24n_2 l o s kv e [] 0 (by simp)
    | cons y r => exact l24o_2 l o s kv e (y :: r) _ _ (by simp)
  | y :: r, pre, h => by
    have hlen : m.length = pre.length + r.length + 1 := by rw [h]; simp; omega
    have hat : m[pre.length]? = some y := by rw [h]; simp
    have hlt := ltP (l := m) (i := pre.length) (by omega)
    have ih := a24 (l := l) (o := o) (s := s) (kv := kv) (e := e) hl r (pre ++ [y]) (by rw [h]; simp)
    rw [List.length_append, List.length_singleton, Int.natCast_add, Int.natCast_one] at ih
    have ho : outI (pre ++ [y]) = CV.own 1919 1 ((pre.map fun p => PV.int .i64 p.id) ++ [PV.int .i64 y.id]) := by unfold outI; rw [if_neg (by simp)]; simp
    rw [ho] at ih
    cases pre with
    | nil =>
      have st := l24n_1 l o s kv e m 0 y hlt hat (by simp)
      rw [wi64 (by omega) (by omega)] at st
      exact st.trans ih
    | cons z pre =>
      have st := l24o_1 l o s kv e m ((z :: pre).map fun p => PV.int .i64 p.id) (z :: pre).length y hlt hat (by simp only [List.length_map, List.length_singleton]; omega)
      rw [wi64 (by omega) (by omega)] at st
      exact st.trans ih
def stands (l : List Post) (p : Post) : Bool := p.rev == 0 && !(l.any fun q => q.rev == p.id)
theorem s71 (l : List Post) (p : Post) : cc (ev X E0) 71 [Post.av p, AV.c (.ptr 0 0)] [Box.cells [CV.mp 1], Box.map (kvs (keysOf l))] = some (.b (stands l p), [Box.cells [CV.mp 1], Box.map (kvs (keysOf l))]) := by
  have hg := get_kvs p.id (keysOf l)
  unfold stands
  by_cases c : p.rev = 0
  · rw [beq_iff_eq.2 c, Bool.true_and]
    by_cases c2 : (l.any fun q => q.rev == p.id) = true
    · rw [if_pos ((mem_keys l).2 c2)] at hg
      rw [c2]; exact f71_2 p _ true c hg
    · rw [if_neg (fun h => c2 ((mem_keys l).1 h))] at hg
      rw [Bool.not_eq_true] at c2
      rw [c2]; exact f71_1 p _ c hg
  · rw [beq_eq_false_iff_ne.2 c, Bool.false_and]; exact f71_3 p _ c
theorem s24 {l : List Post} {o : SO} {s : Nat} (hs : szOk 7 (CV.pv (PV.sl o s (List.map Post.pv l))) = true) (ho : o = .nil → l = []) (hl : l.length ≤ 1000) (hN : ∀ p ∈ l, Nice p) :
    cs (ev X E0) 24 [Bk o s l] = some (.tup [.c (CV.pv (idsP (pickR l (stands l)))), .i (pickE l)]) := by
  have h60 := s60 (l := l) hs (by omega)
  have h := s64m hs ho (kv := kvs (keysOf l)) (w := stands l) (fun p => s71 l p) hl hN
  have hlen : (pickR l (stands l)).length ≤ l.length := by
    unfold pickR; split
    · exact List.length_filter_le _ _
    · simp
  cases he : pickR l (stands l) with
  | nil => rw [he] at h; exact cs_of (f24n_1 l o s _ _ h60 h)
  | cons p r =>
    rw [he] at h hlen
    have a := a24 (l := l) (o := o) (s := s) (kv := kvs (keysOf l)) (e := pickE l) (m := (p :: r).map sh) (by rw [List.length_map]; omega) _ [] rfl
    have := cs_of (f24o_1 l o s _ _ ((p :: r).map sh) _ h60 h a)
    rw [this]
    simp [idsP, CV.shutAll, AV.map, AV.map0]
def addE (l : List Post) (p : Post) : Int := if rightB l = true then fullE l p else 1
def addR (l : List Post) (p : Post) : List Post := if addE l p = 0 then l ++ [p] else []
theorem f19r_1 (l : List Post) (o : SO) (s : Nat) (p : Post) (h25 : cc (ev X E0) 25 [AV.agg [.pv (.sl o s (List.map Post.pv l))]] [] = some (AV.b false, [])) :
    cc (ev X E0) 19 [AV.agg [.pv (.sl o s (List.map Post.pv l))], AV.agg (Post.cs p)] [] = some (AV.tup [AV.agg [.pv (.sl SO.nil 0 [])], AV.c (vi 1)], []) :=
  cc_path (x := xf19) rfl [.call (AV.c (.pv (.bool false))) [], .br true]
    (c := [cc (ev X E0) 25 [AV.agg [.pv (.sl o s (List.map Post.pv l))]] [] = some (AV.c (.pv (.bool false)), []), true = true]) (by kernel_rfl)
    ⟨(h25), rfl, trivial⟩
theorem f19e_1 (l : List Post) (o : SO) (s : Nat) (p : Post) (h25 : cc (ev X E0) 25 [AV.agg [.pv (.sl o s (List.map Post.pv l))]] [] = some (AV.b true, [])) (e : Int) (he : ¬e = 0) (h37 : cc (ev X E0) 37 [Post.av p] [] = some (AV.i e, [])) :
    cc (ev X E0) 19 [AV.agg [.pv (.sl o s (List.map Post.pv l))], AV.agg (Post.cs p)] [] = some (AV.tup [AV.agg [.pv (.sl SO.nil 0 [])], AV.c (vi e)], []) :=
  cc_path (x := xf19) rfl [.call (AV.c (.pv (.bool true))) [], .br false, .call (AV.c (vi e)) [], .br true]
    (c := [cc (ev X E0) 25 [AV.agg [.pv (.sl o s (List.map Post.pv l))]] [] = some (AV.c (.pv (.bool true)), []), false = false, cc (ev X E0) 37 [AV.agg (Post.cs p)] [] = some (AV.c (vi e), []), (e != 0) = true]) (by kernel_rfl)
    ⟨(h25), rfl, (h37), (bne_iff_ne.mpr he), trivial⟩
theorem f19x_1 (l : List Post) (o : SO) (s : Nat) (p : Post) (kv : List (PV × PV)) (h25 : cc (ev X E0) 25 [AV.agg [.pv (.sl o s (List.map Post.pv l))]] [] = some (AV.b true, [])) (h37 : cc (ev X E0) 37 [Post.av p] [] = some (AV.i 0, [])) (h60 : cc (ev X E0) 60 [AV.sl o s (List.map Post.pv l)] [] = some (AV.c (.mp 0), [.map kv])) (e : Int) (he : ¬e = 0) (h59 : cc (ev X E0) 59 [AV.sl o s (List.map Post.pv l), AV.c (.mp 0), Post.av p] [.map kv] = some (AV.i e, [.map kv])) :
    cc (ev X E0) 19 [AV.agg [.pv (.sl o s (List.map Post.pv l))], AV.agg (Post.cs p)] [] = some (AV.tup [AV.agg [.pv (.sl SO.nil 0 [])], AV.c (vi e)], []) :=
  cc_path (x := xf19) rfl [.call (AV.c (.pv (.bool true))) [], .br false, .call (AV.c (vi (0 : Int))) [], .br false, .call (AV.c (.mp 0)) [.map kv], .call (AV.c (vi e)) [.map kv], .br true]
    (c := [cc (ev X E0) 25 [AV.agg [.pv (.sl o s (List.map Post.pv l))]] [] = some (AV.c (.pv (.bool true)), []), false = false, cc (ev X E0) 37 [AV.agg (Post.cs p)] [] = some (AV.c (vi 0), []), false = false, cc (ev X E0) 60 [AV.c (.pv (.sl o s (List.map Post.pv l)))] [] = some (AV.c (.mp 0), [.map kv]), cc (ev X E0) 59 [AV.c (.pv (.sl o s (List.map Post.pv l))), AV.c (.mp 0), AV.agg (Post.cs p)] [.map kv] = some (AV.c (vi e), [.map kv]), (e != 0) = true]) (by kernel_rfl)
    ⟨(h25), rfl, (h37), rfl, (h60), (h59), (bne_iff_ne.mpr he), trivial⟩
theorem f19n_1 (l : List Post) (o : SO) (s : Nat) (p : Post) (kv : List (PV × PV)) (h25 : cc (ev X E0) 25 [AV.agg [.pv (.sl o s (List.map Post.pv l))]] [] = some (AV.b true, [])) (h37 : cc (ev X E0) 37 [Post.av p] [] = some (AV.i 0, [])) (h60 : cc (ev X E0) 60 [AV.sl o s (List.map Post.pv l)] [] = some (AV.c (.mp 0), [.map kv])) (h59 : cc (ev X E0) 59 [AV.sl o s (List.map Post.pv l), AV.c (.mp 0), Post.av p] [.map kv] = some (AV.i 0, [.map kv])) (h63 : cc (ev X E0) 63 [Post.av p] [] = some (Post.av (sh p), [])) (h62 : cc (ev X E0) 62 [AV.sl o s (List.map Post.pv l), AV.c (.fn 61 [])] [] = some (AV.c (.pv (.sl SO.nil 0 [])), [])) (g1 : (↑(0 + List.length [Post.pv (sh p)]) : Int) * 72 ≤ 140737488355328) :
    cc (ev X E0) 19 [AV.agg [.pv (.sl o s (List.map Post.pv l))], AV.agg (Post.cs p)] [] = some (AV.tup [AV.agg [.own 0 7 [Post.pv (sh p)]], AV.c (vi 0)], []) :=
  cc_path (x := xf19) rfl [.call (AV.c (.pv (.bool true))) [], .br false, .call (AV.c (vi (0 : Int))) [], .br false, .call (AV.c (.mp 0)) [.map kv], .call (AV.c (vi 0)) [.map kv], .br false, .call (AV.c (.pv (.sl SO.nil (0 : Nat) []))) [], .call (AV.agg [vi (Post.id (sh p)), vw (Post.known (sh p)), vw (Post.value (sh p)), .pv (.sl SO.shut 3 (List.map Leg.pv (Post.legs (sh p)))), vi (Post.rev (sh p)), vi (Post.kind (sh p)), .pv (.str (Post.memo (sh p)))]) [], .emp false]
    (c := [cc (ev X E0) 25 [AV.agg [.pv (.sl o s (List.map Post.pv l))]] [] = some (AV.c (.pv (.bool true)), []), false = false, cc (ev X E0) 37 [AV.agg (Post.cs p)] [] = some (AV.c (vi 0), []), false = false, cc (ev X E0) 60 [AV.c (.pv (.sl o s (List.map Post.pv l)))] [] = some (AV.c (.mp 0), [.map kv]), cc (ev X E0) 59 [AV.c (.pv (.sl o s (List.map Post.pv l))), AV.c (.mp 0), AV.agg (Post.cs p)] [.map kv] = some (AV.c (vi 0), [.map kv]), false = false, cc (ev X E0) 62 [AV.c (.pv (.sl o s (List.map Post.pv l))), AV.c (.fn 61 [])] [] = some (AV.c (.pv (.sl SO.nil 0 [])), []), cc (ev X E0) 63 [AV.agg (Post.cs p)] [] = some (AV.agg [vi (Post.id (sh p)), vw (Post.known (sh p)), vw (Post.value (sh p)), .pv (.sl SO.shut 3 (List.map Leg.pv (Post.legs (sh p)))), vi (Post.rev (sh p)), vi (Post.kind (sh p)), .pv (.str (Post.memo (sh p)))], []), [Post.pv (sh p)] ≠ [], (↑(0 + List.length [Post.pv (sh p)]) : Int) * 72 ≤ 140737488355328]) (by kernel_rfl)
    ⟨(h25), rfl, (h37), rfl, (h60), (h59), rfl, (h62), (h63), (List.cons_ne_nil _ _), g1, trivial⟩
theorem f19o_1 (l : List Post) (o : SO) (s : Nat) (p : Post) (kv : List (PV × PV)) (es : List PV) (h25 : cc (ev X E0) 25 [AV.agg [.pv (.sl o s (List.map Post.pv l))]] [] = some (AV.b true, [])) (h37 : cc (ev X E0) 37 [Post.av p] [] = some (AV.i 0, [])) (h60 : cc (ev X E0) 60 [AV.sl o s (List.map Post.pv l)] [] = some (AV.c (.mp 0), [.map kv])) (h59 : cc (ev X E0) 59 [AV.sl o s (List.map Post.pv l), AV.c (.mp 0), Post.av p] [.map kv] = some (AV.i 0, [.map kv])) (h63 : cc (ev X E0) 63 [Post.av p] [] = some (Post.av (sh p), [])) (h62 : cc (ev X E0) 62 [AV.sl o s (List.map Post.pv l), AV.c (.fn 61 [])] [] = some (AV.c (.own 0 7 es), [])) (g1 : (↑(List.length es + List.length [Post.pv (sh p)]) : Int) * 72 ≤ 140737488355328) :
    cc (ev X E0) 19 [AV.agg [.pv (.sl o s (List.map Post.pv l))], AV.agg (Post.cs p)] [] = some (AV.tup [AV.agg [.own 0 7 (es ++ [Post.pv (sh p)])], AV.c (vi 0)], []) :=
  cc_path (x := xf19) rfl [.call (AV.c (.pv (.bool true))) [], .br false, .call (AV.c (vi (0 : Int))) [], .br false, .call (AV.c (.mp 0)) [.map kv], .call (AV.c (vi 0)) [.map kv], .br false, .call (AV.c (.own 0 7 es)) [], .call (AV.agg [vi (Post.id (sh p)), vw (Post.known (sh p)), vw (Post.value (sh p)), .pv (.sl SO.shut 3 (List.map Leg.pv (Post.legs (sh p)))), vi (Post.rev (sh p)), vi (Post.kind (sh p)), .pv (.str (Post.memo (sh p)))]) []]
    (c := [cc (ev X E0) 25 [AV.agg [.pv (.sl o s (List.map Post.pv l))]] [] = some (AV.c (.pv (.bool true)), []), false = false, cc (ev X E0) 37 [AV.agg (Post.cs p)] [] = some (AV.c (vi 0), []), false = false, cc (ev X E0) 60 [AV.c (.pv (.sl o s (List.map Post.pv l)))] [] = some (AV.c (.mp 0), [.map kv]), cc (ev X E0) 59 [AV.c (.pv (.sl o s (List.map Post.pv l))), AV.c (.mp 0), AV.agg (Post.cs p)] [.map kv] = some (AV.c (vi 0), [.map kv]), false = false, cc (ev X E0) 62 [AV.c (.pv (.sl o s (List.map Post.pv l))), AV.c (.fn 61 [])] [] = some (AV.c (.own 0 7 es), []), cc (ev X E0) 63 [AV.agg (Post.cs p)] [] = some (AV.agg [vi (Post.id (sh p)), vw (Post.known (sh p)), vw (Post.value (sh p)), .pv (.sl SO.shut 3 (List.map Leg.pv (Post.legs (sh p)))), vi (Post.rev (sh p)), vi (Post.kind (sh p)), .pv (.str (Post.memo (sh p)))], []), (↑(List.length es + List.length [Post.pv (sh p)]) : Int) * 72 ≤ 140737488355328]) (by kernel_rfl)
    ⟨(h25), rfl, (h37), rfl, (h60), (h59), rfl, (h62), (h63), g1, trivial⟩
theorem s19 {l : List Post} {o : SO} {s : Nat} (hs : szOk 7 (CV.pv (PV.sl o s (List.map Post.pv l))) = true) (ho : o = .nil → l = []) (hl : l.length ≤ 1000) (hN : ∀ p ∈ l, Nice p) {p : Post} (hp : Nice p) :
    cs (ev X E0) 19 [Bk o s l, Post.av p] = some (.tup [.agg [CV.pv (outP (addR l p))], .i (addE l p)]) := by
  have h25 := s25 hs ho hl hN
  have h37 := s37 p hp.memo (by have := hp.legs; omega)
  have h60 := s60 (l := l) hs (by omega)
  have hz : ∀ e : Int, e ≠ 0 → addE l p = e → outP (addR l p) = PV.sl SO.nil 0 [] := fun e he h => by unfold addR; rw [h, if_neg he]; rfl
  cases hr : rightB l with
  | false =>
    rw [hr] at h25
    have e : addE l p = 1 := by unfold addE; rw [hr]; rfl
    rw [hz 1 (by decide) e, e]
    exact cs_of (f19r_1 l o s p h25)
  | true =>
    rw [hr] at h25
    have e0 : addE l p = fullE l p := by unfold addE; rw [hr]; rfl
    by_cases c : chk p = 0
    · have hrv := chk_rev c
      have h59 := s59 hs hl hN hrv.1 hrv.2.1
      rw [c] at h37
      have e1 : addE l p = nextE l p := by rw [e0, fullE, if_pos c]
      by_cases c2 : nextE l p = 0
      · rw [c2] at h59
        have h63 : cc (ev X E0) 63 [Post.av p] [] = some (Post.av (sh p), []) := s63 c hp.so
        have h62 := s62z hs (g := 61) (w := fun _ => true) (fun q => f61_1 q) (by omega) fun q hq => ⟨right_chk hr q hq, hN q hq⟩
        rw [show l.filter (fun _ => true) = l by simp] at h62
        have ea : addR l p = l ++ [p] := by unfold addR; rw [e1, c2]; rfl
        have eo : outP (l ++ [p]) = PV.sl .shut 7 ((l.map sh).map Post.pv ++ [Post.pv (sh p)]) := by unfold outP; rw [if_neg (by simp)]; simp
        rw [e1, c2, ea, eo]
        cases l with
        | nil => exact cs_of (f19n_1 [] o s p _ h25 h37 h60 h59 h63 h62 (by simp))
        | cons y r => exact cs_of (f19o_1 (y :: r) o s p _ _ h25 h37 h60 h59 h63 h62 (by simp only [List.length_map, List.length_singleton]; omega))
      · rw [hz _ c2 e1, e1]
        exact cs_of (f19x_1 l o s p _ h25 h37 h60 _ c2 h59)
    · have e1 : addE l p = chk p := by rw [e0, fullE, if_neg c]
      rw [hz _ c e1, e1]
      exact cs_of (f19e_1 l o s p h25 _ c h37)
end Go.Sx.Tryd
