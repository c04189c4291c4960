/- Sameness of requests, of the program and of the document. -/
import Derived.Test.YtplknajjcllmkaaDoorH3
import Derived.Test.YtplknajjcllmkaaDoorSxLem
namespace Go.Sx.Tryd
open Go Go.Sx
abbrev lsz (o : SO) (s : Nat) (l : List Leg) : Prop := szOk 3 (CV.pv (PV.sl o s (List.map Leg.pv l))) = true
abbrev S86 (l m : List Leg) (o q : SO) (s t : Nat) (i : Int) : St := St.mk (tmOf 26 [(0, AV.c (CV.pv (PV.sl o s (List.map Leg.pv l)))), (1, AV.c (CV.pv (PV.sl q t (List.map Leg.pv m)))), (12, AV.c (CV.pv (PV.int .i64 (↑(List.length (List.map Leg.pv l)) : Int)))), (13, AV.c (CV.pv (PV.int .i64 i)))]) []
theorem l86_1 (l m : List Leg) (o q : SO) (s t : Nat) (hs : szOk 3 (.pv (.sl o s (List.map Leg.pv l))) = true) (ht : szOk 3 (.pv (.sl q t (List.map Leg.pv m))) = true) (i : Nat) (y1 y2 : Leg) (g1 : (↑i : Int) < (↑(List.length (List.map Leg.pv l)) : Int)) (g2 : l[i]? = some y1) (g3 : m[i]? = some y2) (g4 : (y1.acc == y2.acc && (y1.cur == y2.cur && (y1.minor == y2.minor && true))) = false) :
    lv (cv (ev X E0) xf86_l0) (rl [0, 0, 10, 0]) 0 (S86 l m o q s t (↑i : Int)) = some (XExit.ret, St.mk (tmOf 26 [(4, AV.c (.pv (.bool false)))]) []) :=
  lv_ret [.br true, .sz, .el (Leg.pv y1), .sz, .el (Leg.pv y2), .br true]
    (c := rq [(1, decide ((↑i : Int) < (↑(List.length (List.map Leg.pv l)) : Int)) = true), ty hs, (1, 0 ≤ (↑i : Int)), (1, (List.map Leg.pv l)[i]? = some (Leg.pv y1)), ty ht, (1, 0 ≤ (↑i : Int)), (1, (List.map Leg.pv m)[i]? = some (Leg.pv y2)), (1, (!(y1.acc == y2.acc && (y1.cur == y2.cur && (y1.minor == y2.minor && true)))) = true)]) (by kernel_rfl)
    (aq ⟨(dT g1), hs, (Int.natCast_nonneg _), (map_at g2), ht, (Int.natCast_nonneg _), (map_at g3), (not_t g4), trivial⟩)
theorem l86_2 (l m : List Leg) (o q : SO) (s t : Nat) (hs : szOk 3 (.pv (.sl o s (List.map Leg.pv l))) = true) (ht : szOk 3 (.pv (.sl q t (List.map Leg.pv m))) = true) (i : Nat) (y1 y2 : Leg) (g1 : (↑i : Int) < (↑(List.length (List.map Leg.pv l)) : Int)) (g2 : l[i]? = some y1) (g3 : m[i]? = some y2) (g4 : y1.acc = y2.acc ∧ y1.cur = y2.cur ∧ y1.minor = y2.minor ∧ true = true) :
    lv (cv (ev X E0) xf86_l0) (rl [0, 0, 10, 0]) 0 (S86 l m o q s t (↑i : Int)) = lv (cv (ev X E0) xf86_l0) (rl [0, 0, 10, 0]) 0 (St.mk (tmOf 26 [(0, AV.c (.pv (.sl o s (List.map Leg.pv l)))), (1, AV.c (.pv (.sl q t (List.map Leg.pv m)))), (12, AV.c (vi (↑(List.length (List.map Leg.pv l)) : Int))), (13, AV.c (vi (IntKind.wrap .i64 ((↑i : Int) + 1))))]) []) :=
  lv_next [.br true, .sz, .el (Leg.pv y1), .sz, .el (Leg.pv y2), .br false]
    (c := rq [(1, decide ((↑i : Int) < (↑(List.length (List.map Leg.pv l)) : Int)) = true), ty hs, (1, 0 ≤ (↑i : Int)), (1, (List.map Leg.pv l)[i]? = some (Leg.pv y1)), ty ht, (1, 0 ≤ (↑i : Int)), (1, (List.map Leg.pv m)[i]? = some (Leg.pv y2)), (1, (!(y1.acc == y2.acc && (y1.cur == y2.cur && (y1.minor == y2.minor && true)))) = false)]) (by kernel_rfl)
    (aq ⟨(dT g1), hs, (Int.natCast_nonneg _), (map_at g2), ht, (Int.natCast_nonneg _), (map_at g3), (not_f (and_t (beq_iff_eq.mpr (And.left g4)) (and_t (beq_iff_eq.mpr (And.left (And.right g4))) (and_t (beq_iff_eq.mpr (And.left (And.right (And.right g4)))) (And.right (And.right (And.right g4))))))), trivial⟩)
theorem l86_3 (l m : List Leg) (o q : SO) (s t : Nat) (_hs : szOk 3 (.pv (.sl o s (List.map Leg.pv l))) = true) (_ht : szOk 3 (.pv (.sl q t (List.map Leg.pv m))) = true) (i : Nat) (g1 : ¬(↑i : Int) < (↑(List.length (List.map Leg.pv l)) : Int)) :
    lv (cv (ev X E0) xf86_l0) (rl [0, 0, 10, 0]) 0 (S86 l m o q s t (↑i : Int)) = some (XExit.exit 0, St.mk (tmOf 26 []) []) :=
  lv_exit [.br false]
    (c := [decide ((↑i : Int) < (↑(List.length (List.map Leg.pv l)) : Int)) = false]) (by kernel_rfl)
    ⟨(dF g1), trivial⟩
theorem f86_1 (l m : List Leg) (o q : SO) (s t : Nat) (g1 : ¬(↑(List.length (List.map Leg.pv l)) : Int) = (↑(List.length (List.map Leg.pv m)) : Int)) :
    cc (ev X E0) 86 [AV.c (.pv (.sl o s (List.map Leg.pv l))), AV.c (.pv (.sl q t (List.map Leg.pv m)))] [] = some (AV.c (.pv (.bool false)), []) :=
  cc_path (x := xf86) rfl [.br true]
    (c := [((↑(List.length (List.map Leg.pv l)) : Int) != (↑(List.length (List.map Leg.pv m)) : Int)) = true]) (by kernel_rfl)
    ⟨(bne_iff_ne.mpr g1), trivial⟩
theorem f86a_2 (l m : List Leg) (o q : SO) (s t : Nat) (h : lv (cv (ev X E0) xf86_l0) (rl [0, 0, 10, 0]) 0 (S86 l m o q s t 0) = some (XExit.exit 0, St.mk (tmOf 26 []) [])) (g1 : (↑(List.length (List.map Leg.pv l)) : Int) = (↑(List.length (List.map Leg.pv m)) : Int)) :
    cc (ev X E0) 86 [AV.c (.pv (.sl o s (List.map Leg.pv l))), AV.c (.pv (.sl q t (List.map Leg.pv m)))] [] = some (AV.c (.pv (.bool true)), []) :=
  cc_path (x := xf86) rfl [.br false, .loop (XExit.exit (0 : Nat)) (St.mk (tmOf (26 : Nat) []) [])]
    (c := rq [(1, ((↑(List.length (List.map Leg.pv l)) : Int) != (↑(List.length (List.map Leg.pv m)) : Int)) = false), ty h]) (by kernel_rfl)
    (aq ⟨(bne_f g1), h, trivial⟩)
theorem f86b_2 (l m : List Leg) (o q : SO) (s t : Nat) (h : lv (cv (ev X E0) xf86_l0) (rl [0, 0, 10, 0]) 0 (S86 l m o q s t 0) = some (XExit.ret, St.mk (tmOf 26 [(4, AV.c (.pv (.bool false)))]) [])) (g1 : (↑(List.length (List.map Leg.pv l)) : Int) = (↑(List.length (List.map Leg.pv m)) : Int)) :
    cc (ev X E0) 86 [AV.c (.pv (.sl o s (List.map Leg.pv l))), AV.c (.pv (.sl q t (List.map Leg.pv m)))] [] = some (AV.c (.pv (.bool false)), []) :=
  cc_path (x := xf86) rfl [.br false, .loop XExit.ret (St.mk (tmOf (26 : Nat) [((4 : Nat), AV.c (.pv (.bool false)))]) [])]
    (c := rq [(1, ((↑(List.length (List.map Leg.pv l)) : Int) != (↑(List.length (List.map Leg.pv m)) : Int)) = false), ty h]) (by kernel_rfl)
    (aq ⟨(bne_f g1), h, trivial⟩)
theorem lt_len {l : List Leg} {i : Nat} (h : i < l.length) : (i : Int) < (((l.map Leg.pv).length : Nat) : Int) := by rw [List.length_map]; omega
theorem zip_at {l m : List Leg} {i : Nat} {q : Leg × Leg} (h : (l.zip m)[i]? = some q) : l[i]? = some q.1 ∧ m[i]? = some q.2 := by
  rw [List.getElem?_zip_eq_some] at h
  exact h
theorem a86 {l m : List Leg} {o q : SO} {s t : Nat} (hs : lsz o s l) (ht : lsz q t m) (hl : l.length ≤ 1000000) (he : l.length = m.length) : lv (cv (ev X E0) xf86_l0) (rl [0, 0, 10, 0]) 0 (S86 l m o q s t 0) = some (if ((l.zip m).any fun q => !legEq q.1 q.2) = true then (XExit.ret, St.mk (tmOf 26 [(4, AV.c (CV.pv (PV.bool false)))]) []) else (XExit.exit 0, St.mk (tmOf 26 []) [])) := by
  have hz : (l.zip m).length = l.length := by rw [List.length_zip]; omega
  refine lv_scan (l := l.zip m) (S86 l m o q s t) (by rw [hz]; exact l86_3 l m o q s t hs ht l.length (by simp)) (fun i y hat hlt hw => ?_) fun i y hat hlt hw => ?_
  · obtain ⟨h1, h2⟩ := zip_at hat
    exact l86_1 l m o q s t hs ht i y.1 y.2 (lt_len (by omega)) h1 h2 (by simpa only [legEq, Bool.not_eq_true'] using hw)
  · obtain ⟨h1, h2⟩ := zip_at hat
    have h := legEq_iff.1 (by simpa using hw)
    have := l86_2 l m o q s t hs ht i y.1 y.2 (lt_len (by omega)) h1 h2 ⟨by rw [h], by rw [h], by rw [h], rfl⟩
    rwa [wi64 (by omega) (by omega)] at this
theorem s86 (l m : List Leg) (o q : SO) (s t : Nat) (hs : lsz o s l) (ht : lsz q t m) (hl : l.length ≤ 1000000) : cc (ev X E0) 86 [AV.sl o s (l.map Leg.pv), AV.sl q t (m.map Leg.pv)] [] = some (.b (legsEq l m), []) := by
  have e1 : (((l.map Leg.pv).length : Nat) : Int) = l.length := by rw [List.length_map]
  have e2 : (((m.map Leg.pv).length : Nat) : Int) = m.length := by rw [List.length_map]
  by_cases he : l.length = m.length
  · have a := a86 hs ht hl he
    cases hz : (l.zip m).any fun q => !legEq q.1 q.2 with
    | true =>
      rw [hz] at a
      rw [f86b_2 l m o q s t a (by rw [e1, e2]; omega), legsEq, hz]; simp
    | false =>
      rw [hz] at a
      rw [f86a_2 l m o q s t a (by rw [e1, e2]; omega), legsEq, hz, decide_eq_true he]; rfl
  · rw [f86_1 l m o q s t (by rw [e1, e2]; omega), legsEq, decide_eq_false he]; rfl
abbrev f42_h (p q : Req) (b : Bool) : Prop := cc (ev X E0) 86 [AV.sl (Req.so p) (Req.sz p) (List.map Leg.pv (Req.legs p)), AV.sl (Req.so q) (Req.sz q) (List.map Leg.pv (Req.legs q))] [] = some (AV.b b, [])
abbrev f42_g3 (p q : Req) : Prop := Req.racc p = Req.racc q ∧ Req.rkind p = Req.rkind q ∧ Req.rcur p = Req.rcur q ∧ Req.rcust p = Req.rcust q ∧ Req.rprod p = Req.rprod q ∧ Req.rpart p = Req.rpart q ∧ Req.rfrom p = Req.rfrom q ∧ Req.rto p = Req.rto q ∧ true = true
theorem f42_1 (p q : Req) (b : Bool) (h : f42_h p q b) (g1 : Req.kd p = Req.kd q) (g2 : Req.cid p = Req.cid q ∧ Req.cname p = Req.cname q ∧ Req.ckind p = Req.ckind q ∧ true = true) (g3 : f42_g3 p q) (g4 : Req.acc p = Req.acc q) (g5 : Req.id p = Req.id q) (g6 : Req.day p = Req.day q) (g7 : Req.cur p = Req.cur q ∧ Req.minor p = Req.minor q ∧ true = true) (g8 : (Req.last p == Req.last q) = true) (g9 : b = true) (g10 : Req.memo p = Req.memo q) :
    cc (ev X E0) 42 [AV.agg (Req.cs p), AV.agg (Req.cs q)] [] = some (AV.c (.pv (.bool (Req.text p == Req.text q))), []) :=
  cc_path (x := xf42) rfl (bs 47 true ++ [.call (AV.c (.pv (.bool b))) []] ++ bs 13 true)
    (c := rq [(6, (Req.kd p == Req.kd q) = true), (6, (eC p q) = true), (6, (eR p q) = true), (6, (Req.acc p == Req.acc q) = true), (6, (Req.id p == Req.id q) = true), (6, (Req.day p == Req.day q) = true), (6, (eM p q) = true), (5, type_of% g8), ty h, ty g8, (6, b = true), (6, (Req.memo p == Req.memo q) = true)]) (by kernel_rfl)
    (aq ⟨(beq_iff_eq.mpr g1), (and_t (beq_iff_eq.mpr (And.left g2)) (and_t (beq_iff_eq.mpr (And.left (And.right g2))) (and_t (beq_iff_eq.mpr (And.left (And.right (And.right g2)))) (And.right (And.right (And.right g2)))))), (tR g3), (beq_iff_eq.mpr g4), (beq_iff_eq.mpr g5), (beq_iff_eq.mpr g6), (and_t (beq_iff_eq.mpr (And.left g7)) (and_t (beq_iff_eq.mpr (And.left (And.right g7))) (And.right (And.right g7)))), g8, h, g8, g9, (beq_iff_eq.mpr g10), trivial⟩)
theorem f42_2 (p q : Req) (b : Bool) (h : f42_h p q b) (g1 : Req.kd p = Req.kd q) (g2 : Req.cid p = Req.cid q ∧ Req.cname p = Req.cname q ∧ Req.ckind p = Req.ckind q ∧ true = true) (g3 : f42_g3 p q) (g4 : Req.acc p = Req.acc q) (g5 : Req.id p = Req.id q) (g6 : Req.day p = Req.day q) (g7 : Req.cur p = Req.cur q ∧ Req.minor p = Req.minor q ∧ true = true) (g8 : (Req.last p == Req.last q) = true) (g9 : b = true) (g10 : ¬Req.memo p = Req.memo q) :
    cc (ev X E0) 42 [AV.agg (Req.cs p), AV.agg (Req.cs q)] [] = some (AV.c (.pv (.bool false)), []) :=
  cc_path (x := xf42) rfl (bs 47 true ++ [.call (AV.c (.pv (.bool b))) []] ++ bs 7 true ++ bs 6 false)
    (c := rq [(6, (Req.kd p == Req.kd q) = true), (6, (eC p q) = true), (6, (eR p q) = true), (6, (Req.acc p == Req.acc q) = true), (6, (Req.id p == Req.id q) = true), (6, (Req.day p == Req.day q) = true), (6, (eM p q) = true), (5, type_of% g8), ty h, ty g8, (6, b = true), (6, (Req.memo p == Req.memo q) = false)]) (by kernel_rfl)
    (aq ⟨(beq_iff_eq.mpr g1), (and_t (beq_iff_eq.mpr (And.left g2)) (and_t (beq_iff_eq.mpr (And.left (And.right g2))) (and_t (beq_iff_eq.mpr (And.left (And.right (And.right g2)))) (And.right (And.right (And.right g2)))))), (tR g3), (beq_iff_eq.mpr g4), (beq_iff_eq.mpr g5), (beq_iff_eq.mpr g6), (and_t (beq_iff_eq.mpr (And.left g7)) (and_t (beq_iff_eq.mpr (And.left (And.right g7))) (And.right (And.right g7)))), g8, h, g8, g9, (beq_eq_false_iff_ne.mpr g10), trivial⟩)
theorem f42_3 (p q : Req) (b : Bool) (h : f42_h p q b) (g1 : Req.kd p = Req.kd q) (g2 : Req.cid p = Req.cid q ∧ Req.cname p = Req.cname q ∧ Req.ckind p = Req.ckind q ∧ true = true) (g3 : f42_g3 p q) (g4 : Req.acc p = Req.acc q) (g5 : Req.id p = Req.id q) (g6 : Req.day p = Req.day q) (g7 : Req.cur p = Req.cur q ∧ Req.minor p = Req.minor q ∧ true = true) (g8 : (Req.last p == Req.last q) = true) (g9 : b = false) :
    cc (ev X E0) 42 [AV.agg (Req.cs p), AV.agg (Req.cs q)] [] = some (AV.c (.pv (.bool false)), []) :=
  cc_path (x := xf42) rfl (bs 47 true ++ [.call (AV.c (.pv (.bool b))) [], .br true] ++ bs 12 false)
    (c := rq [(6, (Req.kd p == Req.kd q) = true), (6, (eC p q) = true), (6, (eR p q) = true), (6, (Req.acc p == Req.acc q) = true), (6, (Req.id p == Req.id q) = true), (6, (Req.day p == Req.day q) = true), (6, (eM p q) = true), (5, type_of% g8), ty h, ty g8, (6, b = false), (6, false = false)]) (by kernel_rfl)
    (aq ⟨(beq_iff_eq.mpr g1), (and_t (beq_iff_eq.mpr (And.left g2)) (and_t (beq_iff_eq.mpr (And.left (And.right g2))) (and_t (beq_iff_eq.mpr (And.left (And.right (And.right g2)))) (And.right (And.right (And.right g2)))))), (tR g3), (beq_iff_eq.mpr g4), (beq_iff_eq.mpr g5), (beq_iff_eq.mpr g6), (and_t (beq_iff_eq.mpr (And.left g7)) (and_t (beq_iff_eq.mpr (And.left (And.right g7))) (And.right (And.right g7)))), g8, h, g8, g9, rfl, trivial⟩)
theorem f42_4 (p q : Req) (b : Bool) (_h : f42_h p q b) (g1 : Req.kd p = Req.kd q) (g2 : Req.cid p = Req.cid q ∧ Req.cname p = Req.cname q ∧ Req.ckind p = Req.ckind q ∧ true = true) (g3 : f42_g3 p q) (g4 : Req.acc p = Req.acc q) (g5 : Req.id p = Req.id q) (g6 : Req.day p = Req.day q) (g7 : Req.cur p = Req.cur q ∧ Req.minor p = Req.minor q ∧ true = true) (g8 : (Req.last p == Req.last q) = false) :
    cc (ev X E0) 42 [AV.agg (Req.cs p), AV.agg (Req.cs q)] [] = some (AV.c (.pv (.bool false)), []) :=
  cc_path (x := xf42) rfl (bs 42 true ++ bs 18 false)
    (c := rq [(6, (Req.kd p == Req.kd q) = true), (6, (eC p q) = true), (6, (eR p q) = true), (6, (Req.acc p == Req.acc q) = true), (6, (Req.id p == Req.id q) = true), (6, (Req.day p == Req.day q) = true), (6, (eM p q) = true), (6, type_of% g8), (12, false = false)]) (by kernel_rfl)
    (aq ⟨(beq_iff_eq.mpr g1), (and_t (beq_iff_eq.mpr (And.left g2)) (and_t (beq_iff_eq.mpr (And.left (And.right g2))) (and_t (beq_iff_eq.mpr (And.left (And.right (And.right g2)))) (And.right (And.right (And.right g2)))))), (tR g3), (beq_iff_eq.mpr g4), (beq_iff_eq.mpr g5), (beq_iff_eq.mpr g6), (and_t (beq_iff_eq.mpr (And.left g7)) (and_t (beq_iff_eq.mpr (And.left (And.right g7))) (And.right (And.right g7)))), g8, rfl, trivial⟩)
theorem f42_5 (p q : Req) (b : Bool) (_h : f42_h p q b) (g1 : Req.kd p = Req.kd q) (g2 : Req.cid p = Req.cid q ∧ Req.cname p = Req.cname q ∧ Req.ckind p = Req.ckind q ∧ true = true) (g3 : f42_g3 p q) (g4 : Req.acc p = Req.acc q) (g5 : Req.id p = Req.id q) (g6 : Req.day p = Req.day q) (g7 : (eM p q) = false) :
    cc (ev X E0) 42 [AV.agg (Req.cs p), AV.agg (Req.cs q)] [] = some (AV.c (.pv (.bool false)), []) :=
  cc_path (x := xf42) rfl (bs 36 true ++ bs 24 false)
    (c := rq [(6, (Req.kd p == Req.kd q) = true), (6, (eC p q) = true), (6, (eR p q) = true), (6, (Req.acc p == Req.acc q) = true), (6, (Req.id p == Req.id q) = true), (6, (Req.day p == Req.day q) = true), (6, (eM p q) = false), (18, false = false)]) (by kernel_rfl)
    (aq ⟨(beq_iff_eq.mpr g1), (and_t (beq_iff_eq.mpr (And.left g2)) (and_t (beq_iff_eq.mpr (And.left (And.right g2))) (and_t (beq_iff_eq.mpr (And.left (And.right (And.right g2)))) (And.right (And.right (And.right g2)))))), (tR g3), (beq_iff_eq.mpr g4), (beq_iff_eq.mpr g5), (beq_iff_eq.mpr g6), g7, rfl, trivial⟩)
theorem f42_6 (p q : Req) (b : Bool) (_h : f42_h p q b) (g1 : Req.kd p = Req.kd q) (g2 : Req.cid p = Req.cid q ∧ Req.cname p = Req.cname q ∧ Req.ckind p = Req.ckind q ∧ true = true) (g3 : f42_g3 p q) (g4 : Req.acc p = Req.acc q) (g5 : Req.id p = Req.id q) (g6 : ¬Req.day p = Req.day q) :
    cc (ev X E0) 42 [AV.agg (Req.cs p), AV.agg (Req.cs q)] [] = some (AV.c (.pv (.bool false)), []) :=
  cc_path (x := xf42) rfl (bs 30 true ++ bs 30 false)
    (c := rq [(6, (Req.kd p == Req.kd q) = true), (6, (eC p q) = true), (6, (eR p q) = true), (6, (Req.acc p == Req.acc q) = true), (6, (Req.id p == Req.id q) = true), (6, (Req.day p == Req.day q) = false), (24, false = false)]) (by kernel_rfl)
    (aq ⟨(beq_iff_eq.mpr g1), (and_t (beq_iff_eq.mpr (And.left g2)) (and_t (beq_iff_eq.mpr (And.left (And.right g2))) (and_t (beq_iff_eq.mpr (And.left (And.right (And.right g2)))) (And.right (And.right (And.right g2)))))), (tR g3), (beq_iff_eq.mpr g4), (beq_iff_eq.mpr g5), (beq_eq_false_iff_ne.mpr g6), rfl, trivial⟩)
theorem f42_7 (p q : Req) (b : Bool) (_h : f42_h p q b) (g1 : Req.kd p = Req.kd q) (g2 : Req.cid p = Req.cid q ∧ Req.cname p = Req.cname q ∧ Req.ckind p = Req.ckind q ∧ true = true) (g3 : f42_g3 p q) (g4 : Req.acc p = Req.acc q) (g5 : ¬Req.id p = Req.id q) :
    cc (ev X E0) 42 [AV.agg (Req.cs p), AV.agg (Req.cs q)] [] = some (AV.c (.pv (.bool false)), []) :=
  cc_path (x := xf42) rfl (bs 24 true ++ bs 36 false)
    (c := rq [(6, (Req.kd p == Req.kd q) = true), (6, (eC p q) = true), (6, (eR p q) = true), (6, (Req.acc p == Req.acc q) = true), (6, (Req.id p == Req.id q) = false), (30, false = false)]) (by kernel_rfl)
    (aq ⟨(beq_iff_eq.mpr g1), (and_t (beq_iff_eq.mpr (And.left g2)) (and_t (beq_iff_eq.mpr (And.left (And.right g2))) (and_t (beq_iff_eq.mpr (And.left (And.right (And.right g2)))) (And.right (And.right (And.right g2)))))), (tR g3), (beq_iff_eq.mpr g4), (beq_eq_false_iff_ne.mpr g5), rfl, trivial⟩)
theorem f42_8 (p q : Req) (b : Bool) (_h : f42_h p q b) (g1 : Req.kd p = Req.kd q) (g2 : Req.cid p = Req.cid q ∧ Req.cname p = Req.cname q ∧ Req.ckind p = Req.ckind q ∧ true = true) (g3 : f42_g3 p q) (g4 : ¬Req.acc p = Req.acc q) :
    cc (ev X E0) 42 [AV.agg (Req.cs p), AV.agg (Req.cs q)] [] = some (AV.c (.pv (.bool false)), []) :=
  cc_path (x := xf42) rfl (bs 18 true ++ bs 42 false)
    (c := rq [(6, (Req.kd p == Req.kd q) = true), (6, (eC p q) = true), (6, (eR p q) = true), (6, (Req.acc p == Req.acc q) = false), (36, false = false)]) (by kernel_rfl)
    (aq ⟨(beq_iff_eq.mpr g1), (and_t (beq_iff_eq.mpr (And.left g2)) (and_t (beq_iff_eq.mpr (And.left (And.right g2))) (and_t (beq_iff_eq.mpr (And.left (And.right (And.right g2)))) (And.right (And.right (And.right g2)))))), (tR g3), (beq_eq_false_iff_ne.mpr g4), rfl, trivial⟩)
theorem f42_9 (p q : Req) (b : Bool) (_h : f42_h p q b) (g1 : Req.kd p = Req.kd q) (g2 : Req.cid p = Req.cid q ∧ Req.cname p = Req.cname q ∧ Req.ckind p = Req.ckind q ∧ true = true) (g3 : (eR p q) = false) :
    cc (ev X E0) 42 [AV.agg (Req.cs p), AV.agg (Req.cs q)] [] = some (AV.c (.pv (.bool false)), []) :=
  cc_path (x := xf42) rfl (bs 12 true ++ bs 48 false)
    (c := rq [(6, (Req.kd p == Req.kd q) = true), (6, (eC p q) = true), (6, (eR p q) = false), (42, false = false)]) (by kernel_rfl)
    (aq ⟨(beq_iff_eq.mpr g1), (and_t (beq_iff_eq.mpr (And.left g2)) (and_t (beq_iff_eq.mpr (And.left (And.right g2))) (and_t (beq_iff_eq.mpr (And.left (And.right (And.right g2)))) (And.right (And.right (And.right g2)))))), g3, rfl, trivial⟩)
theorem f42_10 (p q : Req) (b : Bool) (_h : f42_h p q b) (g1 : Req.kd p = Req.kd q) (g2 : (eC p q) = false) :
    cc (ev X E0) 42 [AV.agg (Req.cs p), AV.agg (Req.cs q)] [] = some (AV.c (.pv (.bool false)), []) :=
  cc_path (x := xf42) rfl (bs 6 true ++ bs 54 false)
    (c := rq [(6, (Req.kd p == Req.kd q) = true), (6, (eC p q) = false), (48, false = false)]) (by kernel_rfl)
    (aq ⟨(beq_iff_eq.mpr g1), g2, rfl, trivial⟩)
theorem f42_11 (p q : Req) (b : Bool) (_h : f42_h p q b) (g1 : ¬Req.kd p = Req.kd q) :
    cc (ev X E0) 42 [AV.agg (Req.cs p), AV.agg (Req.cs q)] [] = some (AV.c (.pv (.bool false)), []) :=
  cc_path (x := xf42) rfl (bs 60 false)
    (c := rq [(6, (Req.kd p == Req.kd q) = false), (54, false = false)]) (by kernel_rfl)
    (aq ⟨(beq_eq_false_iff_ne.mpr g1), rfl, trivial⟩)
abbrev S43 (p q : Req) (i : Int) : St := St.mk (tmOf 101 [(2, AV.c (CV.ptr 0 0)), (3, AV.c (CV.ptr 1 0)), (5, AV.c (CV.pv (PV.int .i64 i)))]) [Box.cells (Req.cs p), Box.cells (Req.cs q)]
theorem l43_1 (p q : Req) (hs : szOk 3 (.pv (.sl (Req.so p) (Req.sz p) (List.map Leg.pv (Req.legs p)))) = true) (ht : szOk 3 (.pv (.sl (Req.so q) (Req.sz q) (List.map Leg.pv (Req.legs q)))) = true) (i : Nat) (y1 y2 : Leg) (g1 : (↑i : Int) < (↑(List.length (List.map Leg.pv (Req.legs p))) : Int)) (g2 : (Req.legs p)[i]? = some y1) (g3 : (Req.legs q)[i]? = some y2) (g4 : (y1.acc == y2.acc && (y1.cur == y2.cur && (y1.minor == y2.minor && true))) = false) :
    lv (cv (ev X E0) xf43_l0) (rl [2, 0, 1]) 2 (S43 p q (↑i : Int)) = some (XExit.ret, St.mk (tmOf 101 [(4, AV.c (.pv (.bool false)))]) [.cells (Req.cs p), .cells (Req.cs q)]) :=
  lv_ret [.br true, .sz, .el (Leg.pv y1), .sz, .el (Leg.pv y2), .br true]
    (c := rq [(1, decide ((↑i : Int) < (↑(List.length (List.map Leg.pv (Req.legs p))) : Int)) = true), ty hs, (1, 0 ≤ (↑i : Int)), (1, (List.map Leg.pv (Req.legs p))[i]? = some (Leg.pv y1)), ty ht, (1, 0 ≤ (↑i : Int)), (1, (List.map Leg.pv (Req.legs q))[i]? = some (Leg.pv y2)), (1, (!(y1.acc == y2.acc && (y1.cur == y2.cur && (y1.minor == y2.minor && true)))) = true)]) (by kernel_rfl)
    (aq ⟨(dT g1), hs, (Int.natCast_nonneg _), (map_at g2), ht, (Int.natCast_nonneg _), (map_at g3), (not_t g4), trivial⟩)
theorem l43_2 (p q : Req) (hs : szOk 3 (.pv (.sl (Req.so p) (Req.sz p) (List.map Leg.pv (Req.legs p)))) = true) (ht : szOk 3 (.pv (.sl (Req.so q) (Req.sz q) (List.map Leg.pv (Req.legs q)))) = true) (i : Nat) (y1 y2 : Leg) (g1 : (↑i : Int) < (↑(List.length (List.map Leg.pv (Req.legs p))) : Int)) (g2 : (Req.legs p)[i]? = some y1) (g3 : (Req.legs q)[i]? = some y2) (g4 : y1.acc = y2.acc ∧ y1.cur = y2.cur ∧ y1.minor = y2.minor ∧ true = true) :
    lv (cv (ev X E0) xf43_l0) (rl [2, 0, 1]) 2 (S43 p q (↑i : Int)) = lv (cv (ev X E0) xf43_l0) (rl [2, 0, 1]) 2 (St.mk (tmOf 101 [(2, AV.c (.ptr 0 0)), (3, AV.c (.ptr 1 0)), (5, AV.c (vi (IntKind.wrap .i64 ((↑i : Int) + 1))))]) [.cells (Req.cs p), .cells (Req.cs q)]) :=
  lv_next [.br true, .sz, .el (Leg.pv y1), .sz, .el (Leg.pv y2), .br false]
    (c := rq [(1, decide ((↑i : Int) < (↑(List.length (List.map Leg.pv (Req.legs p))) : Int)) = true), ty hs, (1, 0 ≤ (↑i : Int)), (1, (List.map Leg.pv (Req.legs p))[i]? = some (Leg.pv y1)), ty ht, (1, 0 ≤ (↑i : Int)), (1, (List.map Leg.pv (Req.legs q))[i]? = some (Leg.pv y2)), (1, (!(y1.acc == y2.acc && (y1.cur == y2.cur && (y1.minor == y2.minor && true)))) = false)]) (by kernel_rfl)
    (aq ⟨(dT g1), hs, (Int.natCast_nonneg _), (map_at g2), ht, (Int.natCast_nonneg _), (map_at g3), (not_f (and_t (beq_iff_eq.mpr (And.left g4)) (and_t (beq_iff_eq.mpr (And.left (And.right g4))) (and_t (beq_iff_eq.mpr (And.left (And.right (And.right g4)))) (And.right (And.right (And.right g4))))))), trivial⟩)
theorem l43_3 (p q : Req) (_hs : szOk 3 (.pv (.sl (Req.so p) (Req.sz p) (List.map Leg.pv (Req.legs p)))) = true) (_ht : szOk 3 (.pv (.sl (Req.so q) (Req.sz q) (List.map Leg.pv (Req.legs q)))) = true) (i : Nat) (g1 : ¬(↑i : Int) < (↑(List.length (List.map Leg.pv (Req.legs p))) : Int)) :
    lv (cv (ev X E0) xf43_l0) (rl [2, 0, 1]) 2 (S43 p q (↑i : Int)) = some (XExit.exit 0, St.mk (tmOf 101 []) [.cells (Req.cs p), .cells (Req.cs q)]) :=
  lv_exit [.br false]
    (c := [decide ((↑i : Int) < (↑(List.length (List.map Leg.pv (Req.legs p))) : Int)) = false]) (by kernel_rfl)
    ⟨(dF g1), trivial⟩
theorem f43_1 (p q : Req) (g1 : ¬Req.kd p = Req.kd q) :
    cc (ev X E0) 43 [AV.agg (Req.cs p), AV.agg (Req.cs q)] [] = some (AV.c (.pv (.bool false)), []) :=
  cc_path (x := xf43) rfl (bs 63 true)
    (c := rq [(6, (Req.kd p != Req.kd q) = true), (57, true = true)]) (by kernel_rfl)
    (aq ⟨(bne_iff_ne.mpr g1), rfl, trivial⟩)
theorem f43_2 (p q : Req) (g1 : Req.kd p = Req.kd q) (g2 : (eC p q) = false) :
    cc (ev X E0) 43 [AV.agg (Req.cs p), AV.agg (Req.cs q)] [] = some (AV.c (.pv (.bool false)), []) :=
  cc_path (x := xf43) rfl (bs 6 false ++ bs 57 true)
    (c := rq [(6, (Req.kd p != Req.kd q) = false), (6, (!(eC p q)) = true), (51, true = true)]) (by kernel_rfl)
    (aq ⟨(bne_f g1), (not_t g2), rfl, trivial⟩)
theorem f43_3 (p q : Req) (g1 : Req.kd p = Req.kd q) (g2 : Req.cid p = Req.cid q ∧ Req.cname p = Req.cname q ∧ Req.ckind p = Req.ckind q ∧ true = true) (g3 : (eR p q) = false) :
    cc (ev X E0) 43 [AV.agg (Req.cs p), AV.agg (Req.cs q)] [] = some (AV.c (.pv (.bool false)), []) :=
  cc_path (x := xf43) rfl (bs 12 false ++ bs 51 true)
    (c := rq [(6, (Req.kd p != Req.kd q) = false), (6, (!(eC p q)) = false), (6, (!(eR p q)) = true), (45, true = true)]) (by kernel_rfl)
    (aq ⟨(bne_f g1), (not_f (and_t (beq_iff_eq.mpr (And.left g2)) (and_t (beq_iff_eq.mpr (And.left (And.right g2))) (and_t (beq_iff_eq.mpr (And.left (And.right (And.right g2)))) (And.right (And.right (And.right g2))))))), (not_t g3), rfl, trivial⟩)
abbrev f43_g3 (p q : Req) : Prop := Req.racc p = Req.racc q ∧ Req.rkind p = Req.rkind q ∧ Req.rcur p = Req.rcur q ∧ Req.rcust p = Req.rcust q ∧ Req.rprod p = Req.rprod q ∧ Req.rpart p = Req.rpart q ∧ Req.rfrom p = Req.rfrom q ∧ Req.rto p = Req.rto q ∧ true = true
theorem f43_4 (p q : Req) (g1 : Req.kd p = Req.kd q) (g2 : Req.cid p = Req.cid q ∧ Req.cname p = Req.cname q ∧ Req.ckind p = Req.ckind q ∧ true = true) (g3 : f43_g3 p q) (g4 : ¬Req.acc p = Req.acc q) :
    cc (ev X E0) 43 [AV.agg (Req.cs p), AV.agg (Req.cs q)] [] = some (AV.c (.pv (.bool false)), []) :=
  cc_path (x := xf43) rfl (bs 18 false ++ bs 45 true)
    (c := rq [(6, (Req.kd p != Req.kd q) = false), (6, (!(eC p q)) = false), (6, (!(eR p q)) = false), (6, (Req.acc p != Req.acc q) = true), (39, true = true)]) (by kernel_rfl)
    (aq ⟨(bne_f g1), (not_f (and_t (beq_iff_eq.mpr (And.left g2)) (and_t (beq_iff_eq.mpr (And.left (And.right g2))) (and_t (beq_iff_eq.mpr (And.left (And.right (And.right g2)))) (And.right (And.right (And.right g2))))))), (not_f (tR g3)), (bne_iff_ne.mpr g4), rfl, trivial⟩)
theorem f43_5 (p q : Req) (g1 : Req.kd p = Req.kd q) (g2 : Req.cid p = Req.cid q ∧ Req.cname p = Req.cname q ∧ Req.ckind p = Req.ckind q ∧ true = true) (g3 : f43_g3 p q) (g4 : Req.acc p = Req.acc q) (g5 : ¬Req.id p = Req.id q) :
    cc (ev X E0) 43 [AV.agg (Req.cs p), AV.agg (Req.cs q)] [] = some (AV.c (.pv (.bool false)), []) :=
  cc_path (x := xf43) rfl (bs 24 false ++ bs 39 true)
    (c := rq [(6, (Req.kd p != Req.kd q) = false), (6, (!(eC p q)) = false), (6, (!(eR p q)) = false), (6, (Req.acc p != Req.acc q) = false), (6, (Req.id p != Req.id q) = true), (33, true = true)]) (by kernel_rfl)
    (aq ⟨(bne_f g1), (not_f (and_t (beq_iff_eq.mpr (And.left g2)) (and_t (beq_iff_eq.mpr (And.left (And.right g2))) (and_t (beq_iff_eq.mpr (And.left (And.right (And.right g2)))) (And.right (And.right (And.right g2))))))), (not_f (tR g3)), (bne_f g4), (bne_iff_ne.mpr g5), rfl, trivial⟩)
theorem f43_6 (p q : Req) (g1 : Req.kd p = Req.kd q) (g2 : Req.cid p = Req.cid q ∧ Req.cname p = Req.cname q ∧ Req.ckind p = Req.ckind q ∧ true = true) (g3 : f43_g3 p q) (g4 : Req.acc p = Req.acc q) (g5 : Req.id p = Req.id q) (g6 : ¬Req.day p = Req.day q) :
    cc (ev X E0) 43 [AV.agg (Req.cs p), AV.agg (Req.cs q)] [] = some (AV.c (.pv (.bool false)), []) :=
  cc_path (x := xf43) rfl (bs 30 false ++ bs 33 true)
    (c := rq [(6, (Req.kd p != Req.kd q) = false), (6, (!(eC p q)) = false), (6, (!(eR p q)) = false), (6, (Req.acc p != Req.acc q) = false), (6, (Req.id p != Req.id q) = false), (6, (Req.day p != Req.day q) = true), (27, true = true)]) (by kernel_rfl)
    (aq ⟨(bne_f g1), (not_f (and_t (beq_iff_eq.mpr (And.left g2)) (and_t (beq_iff_eq.mpr (And.left (And.right g2))) (and_t (beq_iff_eq.mpr (And.left (And.right (And.right g2)))) (And.right (And.right (And.right g2))))))), (not_f (tR g3)), (bne_f g4), (bne_f g5), (bne_iff_ne.mpr g6), rfl, trivial⟩)
theorem f43_7 (p q : Req) (g1 : Req.kd p = Req.kd q) (g2 : Req.cid p = Req.cid q ∧ Req.cname p = Req.cname q ∧ Req.ckind p = Req.ckind q ∧ true = true) (g3 : f43_g3 p q) (g4 : Req.acc p = Req.acc q) (g5 : Req.id p = Req.id q) (g6 : Req.day p = Req.day q) (g7 : (eM p q) = false) :
    cc (ev X E0) 43 [AV.agg (Req.cs p), AV.agg (Req.cs q)] [] = some (AV.c (.pv (.bool false)), []) :=
  cc_path (x := xf43) rfl (bs 36 false ++ bs 27 true)
    (c := rq [(6, (Req.kd p != Req.kd q) = false), (6, (!(eC p q)) = false), (6, (!(eR p q)) = false), (6, (Req.acc p != Req.acc q) = false), (6, (Req.id p != Req.id q) = false), (6, (Req.day p != Req.day q) = false), (6, (!(eM p q)) = true), (21, true = true)]) (by kernel_rfl)
    (aq ⟨(bne_f g1), (not_f (and_t (beq_iff_eq.mpr (And.left g2)) (and_t (beq_iff_eq.mpr (And.left (And.right g2))) (and_t (beq_iff_eq.mpr (And.left (And.right (And.right g2)))) (And.right (And.right (And.right g2))))))), (not_f (tR g3)), (bne_f g4), (bne_f g5), (bne_f g6), (not_t g7), rfl, trivial⟩)
theorem f43_8 (p q : Req) (g1 : Req.kd p = Req.kd q) (g2 : Req.cid p = Req.cid q ∧ Req.cname p = Req.cname q ∧ Req.ckind p = Req.ckind q ∧ true = true) (g3 : f43_g3 p q) (g4 : Req.acc p = Req.acc q) (g5 : Req.id p = Req.id q) (g6 : Req.day p = Req.day q) (g7 : Req.cur p = Req.cur q ∧ Req.minor p = Req.minor q ∧ true = true) (g8 : (Req.last p == Req.last q) = false) :
    cc (ev X E0) 43 [AV.agg (Req.cs p), AV.agg (Req.cs q)] [] = some (AV.c (.pv (.bool false)), []) :=
  cc_path (x := xf43) rfl (bs 42 false ++ bs 21 true)
    (c := rq [(6, (Req.kd p != Req.kd q) = false), (6, (!(eC p q)) = false), (6, (!(eR p q)) = false), (6, (Req.acc p != Req.acc q) = false), (6, (Req.id p != Req.id q) = false), (6, (Req.day p != Req.day q) = false), (6, (!(eM p q)) = false), (6, (!Req.last p == Req.last q) = true), (15, true = true)]) (by kernel_rfl)
    (aq ⟨(bne_f g1), (not_f (and_t (beq_iff_eq.mpr (And.left g2)) (and_t (beq_iff_eq.mpr (And.left (And.right g2))) (and_t (beq_iff_eq.mpr (And.left (And.right (And.right g2)))) (And.right (And.right (And.right g2))))))), (not_f (tR g3)), (bne_f g4), (bne_f g5), (bne_f g6), (not_f (and_t (beq_iff_eq.mpr (And.left g7)) (and_t (beq_iff_eq.mpr (And.left (And.right g7))) (And.right (And.right g7))))), (not_t g8), rfl, trivial⟩)
theorem f43_9 (p q : Req) (g1 : Req.kd p = Req.kd q) (g2 : Req.cid p = Req.cid q ∧ Req.cname p = Req.cname q ∧ Req.ckind p = Req.ckind q ∧ true = true) (g3 : f43_g3 p q) (g4 : Req.acc p = Req.acc q) (g5 : Req.id p = Req.id q) (g6 : Req.day p = Req.day q) (g7 : Req.cur p = Req.cur q ∧ Req.minor p = Req.minor q ∧ true = true) (g8 : (Req.last p == Req.last q) = true) (g9 : ¬Req.memo p = Req.memo q) :
    cc (ev X E0) 43 [AV.agg (Req.cs p), AV.agg (Req.cs q)] [] = some (AV.c (.pv (.bool false)), []) :=
  cc_path (x := xf43) rfl (bs 48 false ++ bs 15 true)
    (c := rq [(6, (Req.kd p != Req.kd q) = false), (6, (!(eC p q)) = false), (6, (!(eR p q)) = false), (6, (Req.acc p != Req.acc q) = false), (6, (Req.id p != Req.id q) = false), (6, (Req.day p != Req.day q) = false), (6, (!(eM p q)) = false), (6, (!Req.last p == Req.last q) = false), (6, (!Req.memo p == Req.memo q) = true), (9, true = true)]) (by kernel_rfl)
    (aq ⟨(bne_f g1), (not_f (and_t (beq_iff_eq.mpr (And.left g2)) (and_t (beq_iff_eq.mpr (And.left (And.right g2))) (and_t (beq_iff_eq.mpr (And.left (And.right (And.right g2)))) (And.right (And.right (And.right g2))))))), (not_f (tR g3)), (bne_f g4), (bne_f g5), (bne_f g6), (not_f (and_t (beq_iff_eq.mpr (And.left g7)) (and_t (beq_iff_eq.mpr (And.left (And.right g7))) (And.right (And.right g7))))), (not_f g8), (not_t (beq_eq_false_iff_ne.mpr g9)), rfl, trivial⟩)
theorem f43_10 (p q : Req) (g1 : Req.kd p = Req.kd q) (g2 : Req.cid p = Req.cid q ∧ Req.cname p = Req.cname q ∧ Req.ckind p = Req.ckind q ∧ true = true) (g3 : f43_g3 p q) (g4 : Req.acc p = Req.acc q) (g5 : Req.id p = Req.id q) (g6 : Req.day p = Req.day q) (g7 : Req.cur p = Req.cur q ∧ Req.minor p = Req.minor q ∧ true = true) (g8 : (Req.last p == Req.last q) = true) (g9 : Req.memo p = Req.memo q) (g10 : ¬Req.text p = Req.text q) :
    cc (ev X E0) 43 [AV.agg (Req.cs p), AV.agg (Req.cs q)] [] = some (AV.c (.pv (.bool false)), []) :=
  cc_path (x := xf43) rfl (bs 54 false ++ bs 9 true)
    (c := rq [(6, (Req.kd p != Req.kd q) = false), (6, (!(eC p q)) = false), (6, (!(eR p q)) = false), (6, (Req.acc p != Req.acc q) = false), (6, (Req.id p != Req.id q) = false), (6, (Req.day p != Req.day q) = false), (6, (!(eM p q)) = false), (6, (!Req.last p == Req.last q) = false), (6, (!Req.memo p == Req.memo q) = false), (8, (!Req.text p == Req.text q) = true), (1, true = true)]) (by kernel_rfl)
    (aq ⟨(bne_f g1), (not_f (and_t (beq_iff_eq.mpr (And.left g2)) (and_t (beq_iff_eq.mpr (And.left (And.right g2))) (and_t (beq_iff_eq.mpr (And.left (And.right (And.right g2)))) (And.right (And.right (And.right g2))))))), (not_f (tR g3)), (bne_f g4), (bne_f g5), (bne_f g6), (not_f (and_t (beq_iff_eq.mpr (And.left g7)) (and_t (beq_iff_eq.mpr (And.left (And.right g7))) (And.right (And.right g7))))), (not_f g8), (not_f (beq_iff_eq.mpr g9)), (not_t (beq_eq_false_iff_ne.mpr g10)), rfl, trivial⟩)
theorem f43_11 (p q : Req) (g1 : Req.kd p = Req.kd q) (g2 : Req.cid p = Req.cid q ∧ Req.cname p = Req.cname q ∧ Req.ckind p = Req.ckind q ∧ true = true) (g3 : f43_g3 p q) (g4 : Req.acc p = Req.acc q) (g5 : Req.id p = Req.id q) (g6 : Req.day p = Req.day q) (g7 : Req.cur p = Req.cur q ∧ Req.minor p = Req.minor q ∧ true = true) (g8 : (Req.last p == Req.last q) = true) (g9 : Req.memo p = Req.memo q) (g10 : Req.text p = Req.text q) (g11 : ¬(↑(List.length (List.map Leg.pv (Req.legs p))) : Int) = (↑(List.length (List.map Leg.pv (Req.legs q))) : Int)) :
    cc (ev X E0) 43 [AV.agg (Req.cs p), AV.agg (Req.cs q)] [] = some (AV.c (.pv (.bool false)), []) :=
  cc_path (x := xf43) rfl (bs 62 false ++ [.br true])
    (c := rq [(6, (Req.kd p != Req.kd q) = false), (6, (!(eC p q)) = false), (6, (!(eR p q)) = false), (6, (Req.acc p != Req.acc q) = false), (6, (Req.id p != Req.id q) = false), (6, (Req.day p != Req.day q) = false), (6, (!(eM p q)) = false), (6, (!Req.last p == Req.last q) = false), (6, (!Req.memo p == Req.memo q) = false), (8, (!Req.text p == Req.text q) = false), (1, ((↑(List.length (List.map Leg.pv (Req.legs p))) : Int) != (↑(List.length (List.map Leg.pv (Req.legs q))) : Int)) = true)]) (by kernel_rfl)
    (aq ⟨(bne_f g1), (not_f (and_t (beq_iff_eq.mpr (And.left g2)) (and_t (beq_iff_eq.mpr (And.left (And.right g2))) (and_t (beq_iff_eq.mpr (And.left (And.right (And.right g2)))) (And.right (And.right (And.right g2))))))), (not_f (tR g3)), (bne_f g4), (bne_f g5), (bne_f g6), (not_f (and_t (beq_iff_eq.mpr (And.left g7)) (and_t (beq_iff_eq.mpr (And.left (And.right g7))) (And.right (And.right g7))))), (not_f g8), (not_f (beq_iff_eq.mpr g9)), (not_f (beq_iff_eq.mpr g10)), (bne_iff_ne.mpr g11), trivial⟩)
theorem f43a_1 (p q : Req) (c1 : Req.kd p = Req.kd q) (c2 : Req.cid p = Req.cid q ∧ Req.cname p = Req.cname q ∧ Req.ckind p = Req.ckind q ∧ true = true) (c3 : Req.racc p = Req.racc q ∧ Req.rkind p = Req.rkind q ∧ Req.rcur p = Req.rcur q ∧ Req.rcust p = Req.rcust q ∧ Req.rprod p = Req.rprod q ∧ Req.rpart p = Req.rpart q ∧ Req.rfrom p = Req.rfrom q ∧ Req.rto p = Req.rto q ∧ true = true) (c4 : Req.acc p = Req.acc q) (c5 : Req.id p = Req.id q) (c6 : Req.day p = Req.day q) (c7 : Req.cur p = Req.cur q ∧ Req.minor p = Req.minor q ∧ true = true) (c8 : (Req.last p == Req.last q) = true) (c9 : Req.memo p = Req.memo q) (c10 : Req.text p = Req.text q) (c11 : (↑(List.length (List.map Leg.pv (Req.legs p))) : Int) = (↑(List.length (List.map Leg.pv (Req.legs q))) : Int)) (hl : lv (cv (ev X E0) xf43_l0) (rl [2, 0, 1]) 2 (S43 p q 0) = some (XExit.exit 0, St.mk (tmOf 101 []) [.cells (Req.cs p), .cells (Req.cs q)])) :
    cc (ev X E0) 43 [AV.agg (Req.cs p), AV.agg (Req.cs q)] [] = some (AV.c (.pv (.bool true)), []) :=
  cc_path (x := xf43) rfl (bs 63 false ++ [.loop (XExit.exit 0) (St.mk (tmOf 101 []) [.cells (Req.cs p), .cells (Req.cs q)])])
    (c := rq [(6, (Req.kd p != Req.kd q) = false), (6, (!(eC p q)) = false), (6, (!(eR p q)) = false), (6, (Req.acc p != Req.acc q) = false), (6, (Req.id p != Req.id q) = false), (6, (Req.day p != Req.day q) = false), (6, (!(eM p q)) = false), (6, (!Req.last p == Req.last q) = false), (6, (!Req.memo p == Req.memo q) = false), (8, (!Req.text p == Req.text q) = false), (1, ((↑(List.length (List.map Leg.pv (Req.legs p))) : Int) != (↑(List.length (List.map Leg.pv (Req.legs q))) : Int)) = false), ty hl]) (by kernel_rfl)
    (aq ⟨(bne_f c1), (not_f (and_t (beq_iff_eq.mpr (And.left c2)) (and_t (beq_iff_eq.mpr (And.left (And.right c2))) (and_t (beq_iff_eq.mpr (And.left (And.right (And.right c2)))) (And.right (And.right (And.right c2))))))), (not_f (tR c3)), (bne_f c4), (bne_f c5), (bne_f c6), (not_f (and_t (beq_iff_eq.mpr (And.left c7)) (and_t (beq_iff_eq.mpr (And.left (And.right c7))) (And.right (And.right c7))))), (not_f c8), (not_f (beq_iff_eq.mpr c9)), (not_f (beq_iff_eq.mpr c10)), (bne_f c11), hl, trivial⟩)
theorem f43b_1 (p q : Req) (c1 : Req.kd p = Req.kd q) (c2 : Req.cid p = Req.cid q ∧ Req.cname p = Req.cname q ∧ Req.ckind p = Req.ckind q ∧ true = true) (c3 : Req.racc p = Req.racc q ∧ Req.rkind p = Req.rkind q ∧ Req.rcur p = Req.rcur q ∧ Req.rcust p = Req.rcust q ∧ Req.rprod p = Req.rprod q ∧ Req.rpart p = Req.rpart q ∧ Req.rfrom p = Req.rfrom q ∧ Req.rto p = Req.rto q ∧ true = true) (c4 : Req.acc p = Req.acc q) (c5 : Req.id p = Req.id q) (c6 : Req.day p = Req.day q) (c7 : Req.cur p = Req.cur q ∧ Req.minor p = Req.minor q ∧ true = true) (c8 : (Req.last p == Req.last q) = true) (c9 : Req.memo p = Req.memo q) (c10 : Req.text p = Req.text q) (c11 : (↑(List.length (List.map Leg.pv (Req.legs p))) : Int) = (↑(List.length (List.map Leg.pv (Req.legs q))) : Int)) (hl : lv (cv (ev X E0) xf43_l0) (rl [2, 0, 1]) 2 (S43 p q 0) = some (XExit.ret, St.mk (tmOf 101 [(4, AV.c (.pv (.bool false)))]) [.cells (Req.cs p), .cells (Req.cs q)])) :
    cc (ev X E0) 43 [AV.agg (Req.cs p), AV.agg (Req.cs q)] [] = some (AV.c (.pv (.bool false)), []) :=
  cc_path (x := xf43) rfl (bs 63 false ++ [.loop XExit.ret (St.mk (tmOf 101 [(4, AV.c (.pv (.bool false)))]) [.cells (Req.cs p), .cells (Req.cs q)])])
    (c := rq [(6, (Req.kd p != Req.kd q) = false), (6, (!(eC p q)) = false), (6, (!(eR p q)) = false), (6, (Req.acc p != Req.acc q) = false), (6, (Req.id p != Req.id q) = false), (6, (Req.day p != Req.day q) = false), (6, (!(eM p q)) = false), (6, (!Req.last p == Req.last q) = false), (6, (!Req.memo p == Req.memo q) = false), (8, (!Req.text p == Req.text q) = false), (1, ((↑(List.length (List.map Leg.pv (Req.legs p))) : Int) != (↑(List.length (List.map Leg.pv (Req.legs q))) : Int)) = false), ty hl]) (by kernel_rfl)
    (aq ⟨(bne_f c1), (not_f (and_t (beq_iff_eq.mpr (And.left c2)) (and_t (beq_iff_eq.mpr (And.left (And.right c2))) (and_t (beq_iff_eq.mpr (And.left (And.right (And.right c2)))) (And.right (And.right (And.right c2))))))), (not_f (tR c3)), (bne_f c4), (bne_f c5), (bne_f c6), (not_f (and_t (beq_iff_eq.mpr (And.left c7)) (and_t (beq_iff_eq.mpr (And.left (And.right c7))) (And.right (And.right c7))))), (not_f c8), (not_f (beq_iff_eq.mpr c9)), (not_f (beq_iff_eq.mpr c10)), (bne_f c11), hl, trivial⟩)
theorem sameF {p q : Req} (h : SameR p q → False) : sameB p q = false := by
  cases e : sameB p q with
  | false => rfl
  | true => exact (h (sameB_iff.1 e)).elim
theorem s42 (p q : Req) (hs : lsz p.so p.sz p.legs) (ht : lsz q.so q.sz q.legs) (hl : p.legs.length ≤ 1000000) : cc (ev X E0) 42 [Req.av p, Req.av q] [] = some (.b (sameB p q), []) := by
  have h := s86 p.legs q.legs p.so q.so p.sz q.sz hs ht hl
  by_cases c1 : p.kd = q.kd
  rotate_left
  · rw [sameF fun s => c1 s.kd]; exact f42_11 p q _ h c1
  cases c2 : (p.cid == q.cid && (p.cname == q.cname && (p.ckind == q.ckind && true))) with
  | false => rw [sameF fun s => by rw [s.cid, s.cname, s.ckind] at c2; simp at c2]; exact f42_10 p q _ h c1 c2
  | true =>
  have c2' : p.cid = q.cid ∧ p.cname = q.cname ∧ p.ckind = q.ckind ∧ true = true := by simpa using c2
  cases c3 : (p.racc == q.racc && (p.rkind == q.rkind && (p.rcur == q.rcur && (p.rcust == q.rcust && (p.rprod == q.rprod && (p.rpart == q.rpart && (p.rfrom == q.rfrom && (p.rto == q.rto && true)))))))) with
  | false => rw [sameF fun s => by rw [s.racc, s.rkind, s.rcur, s.rcust, s.rprod, s.rpart, s.rfrom, s.rto] at c3; simp at c3]; exact f42_9 p q _ h c1 c2' c3
  | true =>
  have c3' : p.racc = q.racc ∧ p.rkind = q.rkind ∧ p.rcur = q.rcur ∧ p.rcust = q.rcust ∧ p.rprod = q.rprod ∧ p.rpart = q.rpart ∧ p.rfrom = q.rfrom ∧ p.rto = q.rto ∧ true = true := by simpa using c3
  by_cases c4 : p.acc = q.acc
  rotate_left
  · rw [sameF fun s => c4 s.acc]; exact f42_8 p q _ h c1 c2' c3' c4
  by_cases c5 : p.id = q.id
  rotate_left
  · rw [sameF fun s => c5 s.id]; exact f42_7 p q _ h c1 c2' c3' c4 c5
  by_cases c6 : p.day = q.day
  rotate_left
  · rw [sameF fun s => c6 s.day]; exact f42_6 p q _ h c1 c2' c3' c4 c5 c6
  cases c7 : (p.cur == q.cur && (p.minor == q.minor && true)) with
  | false => rw [sameF fun s => by rw [s.cur, s.minor] at c7; simp at c7]; exact f42_5 p q _ h c1 c2' c3' c4 c5 c6 c7
  | true =>
  have c7' : p.cur = q.cur ∧ p.minor = q.minor ∧ true = true := by simpa using c7
  cases c8 : (p.last == q.last) with
  | false => rw [sameF fun s => by rw [s.last] at c8; simp at c8]; exact f42_4 p q _ h c1 c2' c3' c4 c5 c6 c7' c8
  | true =>
  cases c9 : legsEq p.legs q.legs with
  | false => rw [sameF fun s => by rw [legsEq_iff.2 s.legs] at c9; exact absurd c9 (by simp)]; exact f42_3 p q _ h c1 c2' c3' c4 c5 c6 c7' c8 c9
  | true =>
  by_cases c10 : p.memo = q.memo
  rotate_left
  · rw [sameF fun s => c10 s.memo]; exact f42_2 p q _ h c1 c2' c3' c4 c5 c6 c7' c8 c9 c10
  have := f42_1 p q _ h c1 c2' c3' c4 c5 c6 c7' c8 c9 c10
  rw [this]
  have e : (p.text == q.text) = sameB p q := by
    by_cases c11 : p.text = q.text
    · rw [sameB_iff.2 ⟨c1, c2'.1, c2'.2.1, c2'.2.2.1, c3'.1, c3'.2.1, c3'.2.2.1, c3'.2.2.2.1, c3'.2.2.2.2.1, c3'.2.2.2.2.2.1, c3'.2.2.2.2.2.2.1, c3'.2.2.2.2.2.2.2.1, c4, c5, c6, c7'.1, c7'.2.1, by simpa using c8, legsEq_iff.1 c9, c10, c11⟩, c11]; simp
    · rw [sameF fun s => c11 s.text]; simpa using c11
  rw [e]
theorem s43 (p q : Req) (hs : lsz p.so p.sz p.legs) (ht : lsz q.so q.sz q.legs) (hl : p.legs.length ≤ 1000000) : cc (ev X E0) 43 [Req.av p, Req.av q] [] = some (.b (sameB p q), []) := by
  by_cases c1 : p.kd = q.kd
  rotate_left
  · rw [sameF fun s => c1 s.kd]; exact f43_1 p q c1
  cases c2 : (p.cid == q.cid && (p.cname == q.cname && (p.ckind == q.ckind && true))) with
  | false => rw [sameF fun s => by rw [s.cid, s.cname, s.ckind] at c2; simp at c2]; exact f43_2 p q c1 c2
  | true =>
  have c2' : p.cid = q.cid ∧ p.cname = q.cname ∧ p.ckind = q.ckind ∧ true = true := by simpa using c2
  cases c3 : (p.racc == q.racc && (p.rkind == q.rkind && (p.rcur == q.rcur && (p.rcust == q.rcust && (p.rprod == q.rprod && (p.rpart == q.rpart && (p.rfrom == q.rfrom && (p.rto == q.rto && true)))))))) with
  | false => rw [sameF fun s => by rw [s.racc, s.rkind, s.rcur, s.rcust, s.rprod, s.rpart, s.rfrom, s.rto] at c3; simp at c3]; exact f43_3 p q c1 c2' c3
  | true =>
  have c3' : p.racc = q.racc ∧ p.rkind = q.rkind ∧ p.rcur = q.rcur ∧ p.rcust = q.rcust ∧ p.rprod = q.rprod ∧ p.rpart = q.rpart ∧ p.rfrom = q.rfrom ∧ p.rto = q.rto ∧ true = true := by simpa using c3
  by_cases c4 : p.acc = q.acc
  rotate_left
  · rw [sameF fun s => c4 s.acc]; exact f43_4 p q c1 c2' c3' c4
  by_cases c5 : p.id = q.id
  rotate_left
  · rw [sameF fun s => c5 s.id]; exact f43_5 p q c1 c2' c3' c4 c5
  by_cases c6 : p.day = q.day
  rotate_left
  · rw [sameF fun s => c6 s.day]; exact f43_6 p q c1 c2' c3' c4 c5 c6
  cases c7 : (p.cur == q.cur && (p.minor == q.minor && true)) with
  | false => rw [sameF fun s => by rw [s.cur, s.minor] at c7; simp at c7]; exact f43_7 p q c1 c2' c3' c4 c5 c6 c7
  | true =>
  have c7' : p.cur = q.cur ∧ p.minor = q.minor ∧ true = true := by simpa using c7
  cases c8 : (p.last == q.last) with
  | false => rw [sameF fun s => by rw [s.last] at c8; simp at c8]; exact f43_8 p q c1 c2' c3' c4 c5 c6 c7' c8
  | true =>
  by_cases c9 : p.memo = q.memo
  rotate_left
  · rw [sameF fun s => c9 s.memo]; exact f43_9 p q c1 c2' c3' c4 c5 c6 c7' c8 c9
  by_cases c10 : p.text = q.text
  rotate_left
  · rw [sameF fun s => c10 s.text]; exact f43_10 p q c1 c2' c3' c4 c5 c6 c7' c8 c9 c10
  by_cases c11 : (↑(List.length (List.map Leg.pv (Req.legs p))) : Int) = (↑(List.length (List.map Leg.pv (Req.legs q))) : Int)
  rotate_left
  · rw [sameF fun s => c11 (by rw [s.legs])]; exact f43_11 p q c1 c2' c3' c4 c5 c6 c7' c8 c9 c10 c11
  have he : p.legs.length = q.legs.length := by rw [List.length_map, List.length_map] at c11; omega
  have hz : (p.legs.zip q.legs).length = p.legs.length := by rw [List.length_zip]; omega
  have a : lv (cv (ev X E0) xf43_l0) (rl [2, 0, 1]) 2 (S43 p q 0) = some (if ((p.legs.zip q.legs).any fun q => !legEq q.1 q.2) = true then (XExit.ret, St.mk (tmOf 101 [(4, AV.c (CV.pv (PV.bool false)))]) [Box.cells (Req.cs p), Box.cells (Req.cs q)]) else (XExit.exit 0, St.mk (tmOf 101 []) [Box.cells (Req.cs p), Box.cells (Req.cs q)])) := by
    refine lv_scan (l := p.legs.zip q.legs) (S43 p q) (by rw [hz]; exact l43_3 p q hs ht p.legs.length (by simp)) (fun i y hat hlt hw => ?_) fun i y hat hlt hw => ?_
    · obtain ⟨h1, h2⟩ := zip_at hat
      exact l43_1 p q hs ht i y.1 y.2 (lt_len (by omega)) h1 h2 (by simpa only [legEq, Bool.not_eq_true'] using hw)
    · obtain ⟨h1, h2⟩ := zip_at hat
      have h := legEq_iff.1 (by simpa using hw)
      have := l43_2 p q hs ht i y.1 y.2 (lt_len (by omega)) h1 h2 ⟨by rw [h], by rw [h], by rw [h], rfl⟩
      rwa [wi64 (by omega) (by omega)] at this
  cases hw : (p.legs.zip q.legs).any fun q => !legEq q.1 q.2 with
  | true =>
    rw [hw] at a
    rw [sameF fun s => by have := (zip_any he).2 s.legs; rw [this] at hw; exact absurd hw (by simp)]
    exact f43b_1 p q c1 c2' c3' c4 c5 c6 c7' c8 c9 c10 c11 a
  | false =>
    rw [hw] at a
    rw [sameB_iff.2 ⟨c1, c2'.1, c2'.2.1, c2'.2.2.1, c3'.1, c3'.2.1, c3'.2.2.1, c3'.2.2.2.1, c3'.2.2.2.2.1, c3'.2.2.2.2.2.1, c3'.2.2.2.2.2.2.1, c3'.2.2.2.2.2.2.2.1, c4, c5, c6, c7'.1, c7'.2.1, by simpa using c8, (zip_any he).1 hw, c9, c10⟩]
    exact f43a_1 p q c1 c2' c3' c4 c5 c6 c7' c8 c9 c10 c11 a
end Go.Sx.Tryd
