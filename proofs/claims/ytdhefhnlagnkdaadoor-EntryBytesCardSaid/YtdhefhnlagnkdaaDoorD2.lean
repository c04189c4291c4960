/- The posting of bytes: what is read. -/
import Derived.Test.YtdhefhnlagnkdaaDoorN1
import Derived.Test.YtdhefhnlagnkdaaDoorS9
import Derived.Test.YtdhefhnlagnkdaaDoorK9
namespace Go.Sx.Tryd
open Go Go.Sx
def small (u : Nat) : Int := if 1000000 < u then -1 else u
def dayOf (n : Int) : Int := if n < -50000 ∨ 50000 < n then 50001 else n
theorem f102_1 (u : Int) (g1 : u > 1000000) :
    cc (ev X E0) 102 [AV.c (.pv (.int .u64 u))] [] = some (AV.c (vi (-1)), []) :=
  cc_path (x := xf102) rfl [.br true]
    (c := [decide (u > 1000000) = true]) (by kernel_rfl)
    ⟨(decide_eq_true g1), trivial⟩
theorem f102_2 (u : Int) (g1 : ¬u > 1000000) :
    cc (ev X E0) 102 [AV.c (.pv (.int .u64 u))] [] = some (AV.c (vi (IntKind.wrap .i64 u)), []) :=
  cc_path (x := xf102) rfl [.br false]
    (c := [decide (u > 1000000) = false]) (by kernel_rfl)
    ⟨(decide_eq_false g1), trivial⟩
theorem f104_1 (n : Int) (g1 : n < -50000) :
    cc (ev X E0) 104 [AV.c (vi n)] [] = some (AV.c (vw 50001), []) :=
  cc_path (x := xf104) rfl [.br true, .br true, .br true, .br true]
    (c := [decide (n < -50000) = true, decide (n < -50000) = true, decide (n < -50000) = true, true = true]) (by kernel_rfl)
    ⟨(decide_eq_true g1), (decide_eq_true g1), (decide_eq_true g1), rfl, trivial⟩
theorem f104_2 (n : Int) (g1 : ¬n < -50000) (g2 : n > 50000) :
    cc (ev X E0) 104 [AV.c (vi n)] [] = some (AV.c (vw 50001), []) :=
  cc_path (x := xf104) rfl [.br false, .br false, .br false, .br true]
    (c := [decide (n < -50000) = false, decide (n < -50000) = false, decide (n < -50000) = false, decide (n > 50000) = true]) (by kernel_rfl)
    ⟨(decide_eq_false g1), (decide_eq_false g1), (decide_eq_false g1), (decide_eq_true g2), trivial⟩
theorem f104_3 (n : Int) (g1 : ¬n < -50000) (g2 : ¬n > 50000) :
    cc (ev X E0) 104 [AV.c (vi n)] [] = some (AV.c (vw (IntKind.wrap .i32 n)), []) :=
  cc_path (x := xf104) rfl [.br false, .br false, .br false, .br false]
    (c := [decide (n < -50000) = false, decide (n < -50000) = false, decide (n < -50000) = false, decide (n > 50000) = false]) (by kernel_rfl)
    ⟨(decide_eq_false g1), (decide_eq_false g1), (decide_eq_false g1), (decide_eq_false g2), trivial⟩
theorem s102 (u : Nat) : cc (ev X E0) 102 [AV.int .u64 (u : Int)] [] = some (AV.i (small u), []) := by
  unfold small
  by_cases h : 1000000 < u
  · rw [if_pos h]; exact f102_1 u (by omega)
  · have := f102_2 u (by omega)
    rw [wi64 (by omega) (by omega)] at this
    rw [if_neg h]; exact this
theorem s104 (n : Int) : cc (ev X E0) 104 [AV.i n] [] = some (AV.int .i32 (dayOf n), []) := by
  unfold dayOf
  by_cases h : n < -50000
  · rw [if_pos (Or.inl h)]; exact f104_1 n h
  · by_cases h2 : n > 50000
    · rw [if_pos (Or.inr h2)]; exact f104_2 n h h2
    · have := f104_3 n h h2
      rw [wi32 (by omega) (by omega)] at this
      rw [if_neg (by omega)]; exact this
theorem s103 (b : List UInt8) (f : Int) (hb : b.length ≤ 1000000) : cc (ev X E0) 103 [AV.c (.ptr 0 0)] [Box.cells [.pv (.str b), .pv (.int .i64 f)]] =
    some (AV.c (CV.pv (.int .u64 (step 0 qV b f).1)), [Box.cells [.pv (.str (step 0 qV b f).2.1), .pv (.int .i64 (step 0 qV b f).2.2)]]) := RV_1 b f hb
theorem s108 (b : List UInt8) (f : Int) (hb : b.length ≤ 1000000) : cc (ev X E0) 108 [AV.c (.ptr 0 0)] [Box.cells [.pv (.str b), .pv (.int .i64 f)]] =
    some (AV.agg [.pv (.int .i64 (step (0, 0) qM b f).1.1), .pv (.int .i64 (step (0, 0) qM b f).1.2)], [Box.cells [.pv (.str (step (0, 0) qM b f).2.1), .pv (.int .i64 (step (0, 0) qM b f).2.2)]]) := RM_1 b f hb
def rdLegs : Nat → List UInt8 → Int → List Leg × List UInt8 × Int
  | 0, b, f => ([], b, f)
  | k + 1, b, f =>
    (⟨small (step 0 qV b f).1, (step (0, 0) qM (step 0 qV b f).2.1 (step 0 qV b f).2.2).1.1, (step (0, 0) qM (step 0 qV b f).2.1 (step 0 qV b f).2.2).1.2⟩
      :: (rdLegs k (step (0, 0) qM (step 0 qV b f).2.1 (step 0 qV b f).2.2).2.1 (step (0, 0) qM (step 0 qV b f).2.1 (step 0 qV b f).2.2).2.2).1,
      (rdLegs k (step (0, 0) qM (step 0 qV b f).2.1 (step 0 qV b f).2.2).2.1 (step (0, 0) qM (step 0 qV b f).2.1 (step 0 qV b f).2.2).2.2).2)
abbrev csX (h : Post) (x : CV) : List CV := [.pv (.int .i64 h.id), .pv (.int .i32 h.known), .pv (.int .i32 h.value), x, .pv (.int .i64 h.rev), .pv (.int .i64 h.kind), .pv (.str h.memo)]
abbrev S49 (h : Post) (b : List UInt8) (f : Int) (x : CV) (n k : Int) : St := St.mk (tmOf 56 [(2, AV.c (CV.ptr 0 0)), (4, AV.c (CV.ptr 1 0)), (5, AV.c (CV.ptr 2 0)), (29, AV.c (CV.pv (PV.int .i64 n))), (30, AV.c (CV.pv (PV.int .i64 k)))]) [Box.cells Z7, Box.cells [.pv (.str b), .pv (.int .i64 f)], Box.cells (csX h x)]
theorem l49a_1 (h : Post) (b : List UInt8) (f : Int) (n : Int) (k : Nat) (g1 : (↑k : Int) < n) (g2 : List.length b ≤ 1000000) (g3 : List.length (Prod.fst (Prod.snd (step 0 qV b f))) ≤ 1000000) (g4 : (↑(0 + List.length [PV.agg [PV.int .i64 (small (Prod.fst (step 0 qV b f))), .int .i64 (Prod.fst (Prod.fst (step (0, 0) qM (Prod.fst (Prod.snd (step 0 qV b f))) (Prod.snd (Prod.snd (step 0 qV b f)))))), .int .i64 (Prod.snd (Prod.fst (step (0, 0) qM (Prod.fst (Prod.snd (step 0 qV b f))) (Prod.snd (Prod.snd (step 0 qV b f))))))]]) : Int) * 24 ≤ 140737488355328) :
    lv (cv (ev X E0) xf49_l0) (rl [2, 1, 0, 23, 0]) 3 (S49 h b f (.pv (.sl SO.nil 0 [])) n (↑k : Int)) = lv (cv (ev X E0) xf49_l0) (rl [2, 1, 0, 23, 0]) 3 (St.mk (tmOf 56 [(2, AV.c (.ptr 0 0)), (4, AV.c (.ptr 1 0)), (5, AV.c (.ptr 2 0)), (29, AV.c (vi n)), (30, AV.c (vi (IntKind.wrap .i64 ((↑k : Int) + 1))))]) [.cells [vi 0, vw 0, vw 0, .pv (.sl SO.nil 0 []), vi 0, vi 0, .pv (.str [])], .cells [.pv (.str (Prod.fst (Prod.snd (step (0, 0) qM (Prod.fst (Prod.snd (step 0 qV b f))) (Prod.snd (Prod.snd (step 0 qV b f))))))), vi (Prod.snd (Prod.snd (step (0, 0) qM (Prod.fst (Prod.snd (step 0 qV b f))) (Prod.snd (Prod.snd (step 0 qV b f))))))], .cells [vi h.id, vw h.known, vw h.value, .own 2751 3 [PV.agg [PV.int .i64 (small (Prod.fst (step 0 qV b f))), .int .i64 (Prod.fst (Prod.fst (step (0, 0) qM (Prod.fst (Prod.snd (step 0 qV b f))) (Prod.snd (Prod.snd (step 0 qV b f)))))), .int .i64 (Prod.snd (Prod.fst (step (0, 0) qM (Prod.fst (Prod.snd (step 0 qV b f))) (Prod.snd (Prod.snd (step 0 qV b f))))))]], vi h.rev, vi h.kind, .pv (.str h.memo)]]) :=
  lv_next [.br true, .call (AV.c (.pv (.int .u64 (↑(Prod.fst (step 0 qV b f)) : Int)))) [.cells [.pv (.str (Prod.fst (Prod.snd (step 0 qV b f)))), vi (Prod.snd (Prod.snd (step 0 qV b f)))]], .call (AV.c (vi (small (Prod.fst (step 0 qV b f))))) [], .call (AV.agg [vi (Prod.fst (Prod.fst (step (0, 0) qM (Prod.fst (Prod.snd (step 0 qV b f))) (Prod.snd (Prod.snd (step 0 qV b f)))))), vi (Prod.snd (Prod.fst (step (0, 0) qM (Prod.fst (Prod.snd (step 0 qV b f))) (Prod.snd (Prod.snd (step 0 qV b f))))))]) [.cells [.pv (.str (Prod.fst (Prod.snd (step (0, 0) qM (Prod.fst (Prod.snd (step 0 qV b f))) (Prod.snd (Prod.snd (step 0 qV b f))))))), vi (Prod.snd (Prod.snd (step (0, 0) qM (Prod.fst (Prod.snd (step 0 qV b f))) (Prod.snd (Prod.snd (step 0 qV b f))))))]], .emp false]
    (c := [decide ((↑k : Int) < n) = true, cc (ev X E0) 103 [AV.c (.ptr 0 0)] [.cells [.pv (.str b), vi f]] = some (AV.c (.pv (.int .u64 (↑(Prod.fst (step 0 qV b f)) : Int))), [.cells [.pv (.str (Prod.fst (Prod.snd (step 0 qV b f)))), vi (Prod.snd (Prod.snd (step 0 qV b f)))]]), cc (ev X E0) 102 [AV.c (.pv (.int .u64 (↑(Prod.fst (step 0 qV b f)) : Int)))] [] = some (AV.c (vi (small (Prod.fst (step 0 qV b f)))), []), cc (ev X E0) 108 [AV.c (.ptr 0 0)] [.cells [.pv (.str (Prod.fst (Prod.snd (step 0 qV b f)))), vi (Prod.snd (Prod.snd (step 0 qV b f)))]] = some (AV.agg [vi (Prod.fst (Prod.fst (step (0, 0) qM (Prod.fst (Prod.snd (step 0 qV b f))) (Prod.snd (Prod.snd (step 0 qV b f)))))), vi (Prod.snd (Prod.fst (step (0, 0) qM (Prod.fst (Prod.snd (step 0 qV b f))) (Prod.snd (Prod.snd (step 0 qV b f))))))], [.cells [.pv (.str (Prod.fst (Prod.snd (step (0, 0) qM (Prod.fst (Prod.snd (step 0 qV b f))) (Prod.snd (Prod.snd (step 0 qV b f))))))), vi (Prod.snd (Prod.snd (step (0, 0) qM (Prod.fst (Prod.snd (step 0 qV b f))) (Prod.snd (Prod.snd (step 0 qV b f))))))]]), [PV.agg [PV.int .i64 (small (Prod.fst (step 0 qV b f))), .int .i64 (Prod.fst (Prod.fst (step (0, 0) qM (Prod.fst (Prod.snd (step 0 qV b f))) (Prod.snd (Prod.snd (step 0 qV b f)))))), .int .i64 (Prod.snd (Prod.fst (step (0, 0) qM (Prod.fst (Prod.snd (step 0 qV b f))) (Prod.snd (Prod.snd (step 0 qV b f))))))]] ≠ [], (↑(0 + List.length [PV.agg [PV.int .i64 (small (Prod.fst (step 0 qV b f))), .int .i64 (Prod.fst (Prod.fst (step (0, 0) qM (Prod.fst (Prod.snd (step 0 qV b f))) (Prod.snd (Prod.snd (step 0 qV b f)))))), .int .i64 (Prod.snd (Prod.fst (step (0, 0) qM (Prod.fst (Prod.snd (step 0 qV b f))) (Prod.snd (Prod.snd (step 0 qV b f))))))]]) : Int) * 24 ≤ 140737488355328]) (by kernel_rfl)
    ⟨(decide_eq_true g1), (s103 _ _ g2), (s102 _), (s108 _ _ g3), (List.cons_ne_nil _ _), g4, trivial⟩
theorem l49a_2 (h : Post) (b : List UInt8) (f : Int) (n : Int) (k : Nat) (g1 : ¬(↑k : Int) < n) :
    lv (cv (ev X E0) xf49_l0) (rl [2, 1, 0, 23, 0]) 3 (S49 h b f (.pv (.sl SO.nil 0 [])) n (↑k : Int)) = some (XExit.exit 0, St.mk (tmOf 56 [(2, AV.c (.ptr 0 0)), (4, AV.c (.ptr 1 0)), (5, AV.c (.ptr 2 0))]) [.cells [vi 0, vw 0, vw 0, .pv (.sl SO.nil 0 []), vi 0, vi 0, .pv (.str [])], .cells [.pv (.str b), vi f], .cells [vi h.id, vw h.known, vw h.value, .pv (.sl SO.nil 0 []), vi h.rev, vi h.kind, .pv (.str h.memo)]]) :=
  lv_exit [.br false]
    (c := [decide ((↑k : Int) < n) = false]) (by kernel_rfl)
    ⟨(decide_eq_false g1), trivial⟩
theorem l49_1 (h : Post) (b : List UInt8) (f : Int) (n : Int) (j : Nat) (l : List Leg) (k : Nat) (g1 : (↑k : Int) < n) (g2 : List.length b ≤ 1000000) (g3 : List.length (Prod.fst (Prod.snd (step 0 qV b f))) ≤ 1000000) (g4 : (↑(List.length (List.map Leg.pv l) + List.length [PV.agg [PV.int .i64 (small (Prod.fst (step 0 qV b f))), .int .i64 (Prod.fst (Prod.fst (step (0, 0) qM (Prod.fst (Prod.snd (step 0 qV b f))) (Prod.snd (Prod.snd (step 0 qV b f)))))), .int .i64 (Prod.snd (Prod.fst (step (0, 0) qM (Prod.fst (Prod.snd (step 0 qV b f))) (Prod.snd (Prod.snd (step 0 qV b f))))))]]) : Int) * 24 ≤ 140737488355328) :
    lv (cv (ev X E0) xf49_l0) (rl [2, 1, 0, 23, 0]) 3 (S49 h b f (.own j 3 (List.map Leg.pv l)) n (↑k : Int)) = lv (cv (ev X E0) xf49_l0) (rl [2, 1, 0, 23, 0]) 3 (St.mk (tmOf 56 [(2, AV.c (.ptr 0 0)), (4, AV.c (.ptr 1 0)), (5, AV.c (.ptr 2 0)), (29, AV.c (vi n)), (30, AV.c (vi (IntKind.wrap .i64 ((↑k : Int) + 1))))]) [.cells [vi 0, vw 0, vw 0, .pv (.sl SO.nil 0 []), vi 0, vi 0, .pv (.str [])], .cells [.pv (.str (Prod.fst (Prod.snd (step (0, 0) qM (Prod.fst (Prod.snd (step 0 qV b f))) (Prod.snd (Prod.snd (step 0 qV b f))))))), vi (Prod.snd (Prod.snd (step (0, 0) qM (Prod.fst (Prod.snd (step 0 qV b f))) (Prod.snd (Prod.snd (step 0 qV b f))))))], .cells [vi h.id, vw h.known, vw h.value, .own 2751 3 (List.map Leg.pv l ++ [PV.agg [PV.int .i64 (small (Prod.fst (step 0 qV b f))), .int .i64 (Prod.fst (Prod.fst (step (0, 0) qM (Prod.fst (Prod.snd (step 0 qV b f))) (Prod.snd (Prod.snd (step 0 qV b f)))))), .int .i64 (Prod.snd (Prod.fst (step (0, 0) qM (Prod.fst (Prod.snd (step 0 qV b f))) (Prod.snd (Prod.snd (step 0 qV b f))))))]]), vi h.rev, vi h.kind, .pv (.str h.memo)]]) :=
  lv_next [.br true, .call (AV.c (.pv (.int .u64 (↑(Prod.fst (step 0 qV b f)) : Int)))) [.cells [.pv (.str (Prod.fst (Prod.snd (step 0 qV b f)))), vi (Prod.snd (Prod.snd (step 0 qV b f)))]], .call (AV.c (vi (small (Prod.fst (step 0 qV b f))))) [], .call (AV.agg [vi (Prod.fst (Prod.fst (step (0, 0) qM (Prod.fst (Prod.snd (step 0 qV b f))) (Prod.snd (Prod.snd (step 0 qV b f)))))), vi (Prod.snd (Prod.fst (step (0, 0) qM (Prod.fst (Prod.snd (step 0 qV b f))) (Prod.snd (Prod.snd (step 0 qV b f))))))]) [.cells [.pv (.str (Prod.fst (Prod.snd (step (0, 0) qM (Prod.fst (Prod.snd (step 0 qV b f))) (Prod.snd (Prod.snd (step 0 qV b f))))))), vi (Prod.snd (Prod.snd (step (0, 0) qM (Prod.fst (Prod.snd (step 0 qV b f))) (Prod.snd (Prod.snd (step 0 qV b f))))))]]]
    (c := [decide ((↑k : Int) < n) = true, cc (ev X E0) 103 [AV.c (.ptr 0 0)] [.cells [.pv (.str b), vi f]] = some (AV.c (.pv (.int .u64 (↑(Prod.fst (step 0 qV b f)) : Int))), [.cells [.pv (.str (Prod.fst (Prod.snd (step 0 qV b f)))), vi (Prod.snd (Prod.snd (step 0 qV b f)))]]), cc (ev X E0) 102 [AV.c (.pv (.int .u64 (↑(Prod.fst (step 0 qV b f)) : Int)))] [] = some (AV.c (vi (small (Prod.fst (step 0 qV b f)))), []), cc (ev X E0) 108 [AV.c (.ptr 0 0)] [.cells [.pv (.str (Prod.fst (Prod.snd (step 0 qV b f)))), vi (Prod.snd (Prod.snd (step 0 qV b f)))]] = some (AV.agg [vi (Prod.fst (Prod.fst (step (0, 0) qM (Prod.fst (Prod.snd (step 0 qV b f))) (Prod.snd (Prod.snd (step 0 qV b f)))))), vi (Prod.snd (Prod.fst (step (0, 0) qM (Prod.fst (Prod.snd (step 0 qV b f))) (Prod.snd (Prod.snd (step 0 qV b f))))))], [.cells [.pv (.str (Prod.fst (Prod.snd (step (0, 0) qM (Prod.fst (Prod.snd (step 0 qV b f))) (Prod.snd (Prod.snd (step 0 qV b f))))))), vi (Prod.snd (Prod.snd (step (0, 0) qM (Prod.fst (Prod.snd (step 0 qV b f))) (Prod.snd (Prod.snd (step 0 qV b f))))))]]), (↑(List.length (List.map Leg.pv l) + List.length [PV.agg [PV.int .i64 (small (Prod.fst (step 0 qV b f))), .int .i64 (Prod.fst (Prod.fst (step (0, 0) qM (Prod.fst (Prod.snd (step 0 qV b f))) (Prod.snd (Prod.snd (step 0 qV b f)))))), .int .i64 (Prod.snd (Prod.fst (step (0, 0) qM (Prod.fst (Prod.snd (step 0 qV b f))) (Prod.snd (Prod.snd (step 0 qV b f))))))]]) : Int) * 24 ≤ 140737488355328]) (by kernel_rfl)
    ⟨(decide_eq_true g1), (s103 _ _ g2), (s102 _), (s108 _ _ g3), g4, trivial⟩
theorem l49_2 (h : Post) (b : List UInt8) (f : Int) (n : Int) (j : Nat) (l : List Leg) (k : Nat) (g1 : ¬(↑k : Int) < n) :
    lv (cv (ev X E0) xf49_l0) (rl [2, 1, 0, 23, 0]) 3 (S49 h b f (.own j 3 (List.map Leg.pv l)) n (↑k : Int)) = some (XExit.exit 0, St.mk (tmOf 56 [(2, AV.c (.ptr 0 0)), (4, AV.c (.ptr 1 0)), (5, AV.c (.ptr 2 0))]) [.cells [vi 0, vw 0, vw 0, .pv (.sl SO.nil 0 []), vi 0, vi 0, .pv (.str [])], .cells [.pv (.str b), vi f], .cells [vi h.id, vw h.known, vw h.value, .own j 3 (List.map Leg.pv l), vi h.rev, vi h.kind, .pv (.str h.memo)]]) :=
  lv_exit [.br false]
    (c := [decide ((↑k : Int) < n) = false]) (by kernel_rfl)
    ⟨(decide_eq_false g1), trivial⟩
abbrev rdr (b : List UInt8) (f : Int) : Box := Box.cells [.pv (.str b), .pv (.int .i64 f)]
theorem f49_1 (s : List UInt8) (b1 : List UInt8) (b2 : List UInt8) (b3 : List UInt8) (b4 : List UInt8) (b5 : List UInt8) (b6 : List UInt8) (b7 : List UInt8) (b8 : List UInt8) (f1 : Int) (f2 : Int) (f3 : Int) (f4 : Int) (f5 : Int) (f6 : Int) (f7 : Int) (f8 : Int) (v2 : Int) (v3 : Int) (e : Int) (v1 : Nat) (v4 : Nat) (v5 : Nat) (n : Nat) (memo : List UInt8) (legs : List Leg) (h1 : cc (ev X E0) 103 [AV.c (.ptr 0 0)] [rdr s 0] = some (AV.int IntKind.u64 (↑v1 : Int), [rdr b1 f1])) (h2 : cc (ev X E0) 105 [AV.c (.ptr 0 0)] [rdr b1 f1] = some (AV.i v2, [rdr b2 f2])) (h3 : cc (ev X E0) 105 [AV.c (.ptr 0 0)] [rdr b2 f2] = some (AV.i v3, [rdr b3 f3])) (h4 : cc (ev X E0) 103 [AV.c (.ptr 0 0)] [rdr b3 f3] = some (AV.int IntKind.u64 (↑v4 : Int), [rdr b4 f4])) (h5 : cc (ev X E0) 103 [AV.c (.ptr 0 0)] [rdr b4 f4] = some (AV.int IntKind.u64 (↑v5 : Int), [rdr b5 f5])) (h6 : cc (ev X E0) 106 [AV.c (.ptr 0 0), AV.i 32] [rdr b5 f5] = some (AV.s memo, [rdr b6 f6])) (h7 : cc (ev X E0) 107 [AV.c (.ptr 0 0), AV.i 16] [rdr b6 f6] = some (AV.i (↑n : Int), [rdr b7 f7])) (hl : lv (cv (ev X E0) xf49_l0) (rl [2, 1, 0, 23, 0]) 3 (S49 (Post.mk (small v1) (dayOf v2) (dayOf v3) SO.nil [] (small v5) (small v4) memo) b7 f7 (.pv (.sl SO.nil 0 [])) (↑n : Int) 0) = some (XExit.exit 0, St.mk (tmOf 56 [(2, AV.c (.ptr 0 0)), (4, AV.c (.ptr 1 0)), (5, AV.c (.ptr 2 0))]) [.cells Z7, rdr b8 f8, .cells (csX (Post.mk (small v1) (dayOf v2) (dayOf v3) SO.nil [] (small v5) (small v4) memo) (.own 2751 3 (List.map Leg.pv legs)))])) (h8 : cc (ev X E0) 109 [AV.c (.ptr 0 0)] [rdr b8 f8] = some (AV.i 0, [rdr b8 f8])) (h9 : cc (ev X E0) 37 [Post.av (Post.mk (small v1) (dayOf v2) (dayOf v3) SO.shut legs (small v5) (small v4) memo)] [] = some (AV.i e, [])) (g1 : ¬e = 0) :
    cc (ev X E0) 49 [AV.c (.pv (.str s))] [] = some (AV.tup [AV.agg [vi 0, vw 0, vw 0, .pv (.sl SO.nil 0 []), vi 0, vi 0, .pv (.str [])], AV.c (vi e)], []) :=
  cc_path (x := xf49) rfl [.call (AV.c (.ptr 0 0)) [.cells [.pv (.str s), vi 0]], .call (AV.c (.pv (.int .u64 (↑v1 : Int)))) [.cells [.pv (.str b1), vi f1]], .call (AV.c (vi (small v1))) [], .call (AV.c (vi v2)) [.cells [.pv (.str b2), vi f2]], .call (AV.c (vw (dayOf v2))) [], .call (AV.c (vi v3)) [.cells [.pv (.str b3), vi f3]], .call (AV.c (vw (dayOf v3))) [], .call (AV.c (.pv (.int .u64 (↑v4 : Int)))) [.cells [.pv (.str b4), vi f4]], .call (AV.c (vi (small v4))) [], .call (AV.c (.pv (.int .u64 (↑v5 : Int)))) [.cells [.pv (.str b5), vi f5]], .call (AV.c (vi (small v5))) [], .call (AV.c (.pv (.str memo))) [.cells [.pv (.str b6), vi f6]], .call (AV.c (vi (↑n : Int))) [.cells [.pv (.str b7), vi f7]], .loop (XExit.exit 0) (St.mk (tmOf 56 [(2, AV.c (.ptr 0 0)), (4, AV.c (.ptr 1 0)), (5, AV.c (.ptr 2 0))]) [.cells [vi 0, vw 0, vw 0, .pv (.sl SO.nil 0 []), vi 0, vi 0, .pv (.str [])], .cells [.pv (.str b8), vi f8], .cells [vi (small v1), vw (dayOf v2), vw (dayOf v3), .own 2751 3 (List.map Leg.pv legs), vi (small v5), vi (small v4), .pv (.str memo)]]), .call (AV.c (vi 0)) [.cells [.pv (.str b8), vi f8]], .br true, .call (AV.c (vi e)) [], .br true]
    (c := [cc (ev X E0) 101 [AV.c (.pv (.str s))] [] = some (AV.c (.ptr 0 0), [.cells [.pv (.str s), vi 0]]), cc (ev X E0) 103 [AV.c (.ptr 0 0)] [.cells [.pv (.str s), vi 0]] = some (AV.c (.pv (.int .u64 (↑v1 : Int))), [.cells [.pv (.str b1), vi f1]]), cc (ev X E0) 102 [AV.c (.pv (.int .u64 (↑v1 : Int)))] [] = some (AV.c (vi (small v1)), []), cc (ev X E0) 105 [AV.c (.ptr 0 0)] [.cells [.pv (.str b1), vi f1]] = some (AV.c (vi v2), [.cells [.pv (.str b2), vi f2]]), cc (ev X E0) 104 [AV.c (vi v2)] [] = some (AV.c (vw (dayOf v2)), []), cc (ev X E0) 105 [AV.c (.ptr 0 0)] [.cells [.pv (.str b2), vi f2]] = some (AV.c (vi v3), [.cells [.pv (.str b3), vi f3]]), cc (ev X E0) 104 [AV.c (vi v3)] [] = some (AV.c (vw (dayOf v3)), []), cc (ev X E0) 103 [AV.c (.ptr 0 0)] [.cells [.pv (.str b3), vi f3]] = some (AV.c (.pv (.int .u64 (↑v4 : Int))), [.cells [.pv (.str b4), vi f4]]), cc (ev X E0) 102 [AV.c (.pv (.int .u64 (↑v4 : Int)))] [] = some (AV.c (vi (small v4)), []), cc (ev X E0) 103 [AV.c (.ptr 0 0)] [.cells [.pv (.str b4), vi f4]] = some (AV.c (.pv (.int .u64 (↑v5 : Int))), [.cells [.pv (.str b5), vi f5]]), cc (ev X E0) 102 [AV.c (.pv (.int .u64 (↑v5 : Int)))] [] = some (AV.c (vi (small v5)), []), cc (ev X E0) 106 [AV.c (.ptr 0 0), AV.c (vi 32)] [.cells [.pv (.str b5), vi f5]] = some (AV.c (.pv (.str memo)), [.cells [.pv (.str b6), vi f6]]), cc (ev X E0) 107 [AV.c (.ptr 0 0), AV.c (vi 16)] [.cells [.pv (.str b6), vi f6]] = some (AV.c (vi (↑n : Int)), [.cells [.pv (.str b7), vi f7]]), lv (cv (ev X E0) xf49_l0) (rl [2, 1, 0, 23, 0]) 3 (St.mk (tmOf 56 [(2, AV.c (.ptr 0 0)), (4, AV.c (.ptr 1 0)), (5, AV.c (.ptr 2 0)), (29, AV.c (vi (↑n : Int))), (30, AV.c (vi 0))]) [.cells [vi 0, vw 0, vw 0, .pv (.sl SO.nil 0 []), vi 0, vi 0, .pv (.str [])], .cells [.pv (.str b7), vi f7], .cells [vi (small v1), vw (dayOf v2), vw (dayOf v3), .pv (.sl SO.nil 0 []), vi (small v5), vi (small v4), .pv (.str memo)]]) = some (XExit.exit 0, St.mk (tmOf 56 [(2, AV.c (.ptr 0 0)), (4, AV.c (.ptr 1 0)), (5, AV.c (.ptr 2 0))]) [.cells [vi 0, vw 0, vw 0, .pv (.sl SO.nil 0 []), vi 0, vi 0, .pv (.str [])], .cells [.pv (.str b8), vi f8], .cells [vi (small v1), vw (dayOf v2), vw (dayOf v3), .own 2751 3 (List.map Leg.pv legs), vi (small v5), vi (small v4), .pv (.str memo)]]), cc (ev X E0) 109 [AV.c (.ptr 0 0)] [.cells [.pv (.str b8), vi f8]] = some (AV.c (vi 0), [.cells [.pv (.str b8), vi f8]]), true = true, cc (ev X E0) 37 [AV.agg [vi (small v1), vw (dayOf v2), vw (dayOf v3), .pv (.sl SO.shut 3 (List.map Leg.pv legs)), vi (small v5), vi (small v4), .pv (.str memo)]] [] = some (AV.c (vi e), []), (e != 0) = true]) (by kernel_rfl)
    ⟨(NR_1 _), (h1), (s102 _), (h2), (s104 _), (h3), (s104 _), (h4), (s102 _), (h5), (s102 _), (h6), (h7), (hl), (h8), rfl, (h9), (bne_iff_ne.mpr g1), trivial⟩
theorem f49_2 (s : List UInt8) (b1 : List UInt8) (b2 : List UInt8) (b3 : List UInt8) (b4 : List UInt8) (b5 : List UInt8) (b6 : List UInt8) (b7 : List UInt8) (b8 : List UInt8) (f1 : Int) (f2 : Int) (f3 : Int) (f4 : Int) (f5 : Int) (f6 : Int) (f7 : Int) (f8 : Int) (v2 : Int) (v3 : Int) (e : Int) (v1 : Nat) (v4 : Nat) (v5 : Nat) (n : Nat) (memo : List UInt8) (legs : List Leg) (h1 : cc (ev X E0) 103 [AV.c (.ptr 0 0)] [rdr s 0] = some (AV.int IntKind.u64 (↑v1 : Int), [rdr b1 f1])) (h2 : cc (ev X E0) 105 [AV.c (.ptr 0 0)] [rdr b1 f1] = some (AV.i v2, [rdr b2 f2])) (h3 : cc (ev X E0) 105 [AV.c (.ptr 0 0)] [rdr b2 f2] = some (AV.i v3, [rdr b3 f3])) (h4 : cc (ev X E0) 103 [AV.c (.ptr 0 0)] [rdr b3 f3] = some (AV.int IntKind.u64 (↑v4 : Int), [rdr b4 f4])) (h5 : cc (ev X E0) 103 [AV.c (.ptr 0 0)] [rdr b4 f4] = some (AV.int IntKind.u64 (↑v5 : Int), [rdr b5 f5])) (h6 : cc (ev X E0) 106 [AV.c (.ptr 0 0), AV.i 32] [rdr b5 f5] = some (AV.s memo, [rdr b6 f6])) (h7 : cc (ev X E0) 107 [AV.c (.ptr 0 0), AV.i 16] [rdr b6 f6] = some (AV.i (↑n : Int), [rdr b7 f7])) (hl : lv (cv (ev X E0) xf49_l0) (rl [2, 1, 0, 23, 0]) 3 (S49 (Post.mk (small v1) (dayOf v2) (dayOf v3) SO.nil [] (small v5) (small v4) memo) b7 f7 (.pv (.sl SO.nil 0 [])) (↑n : Int) 0) = some (XExit.exit 0, St.mk (tmOf 56 [(2, AV.c (.ptr 0 0)), (4, AV.c (.ptr 1 0)), (5, AV.c (.ptr 2 0))]) [.cells Z7, rdr b8 f8, .cells (csX (Post.mk (small v1) (dayOf v2) (dayOf v3) SO.nil [] (small v5) (small v4) memo) (.own 2751 3 (List.map Leg.pv legs)))])) (h8 : cc (ev X E0) 109 [AV.c (.ptr 0 0)] [rdr b8 f8] = some (AV.i 0, [rdr b8 f8])) (h9 : cc (ev X E0) 37 [Post.av (Post.mk (small v1) (dayOf v2) (dayOf v3) SO.shut legs (small v5) (small v4) memo)] [] = some (AV.i e, [])) (g1 : e = 0) :
    cc (ev X E0) 49 [AV.c (.pv (.str s))] [] = some (AV.tup [AV.agg [vi (small v1), vw (dayOf v2), vw (dayOf v3), .own 0 3 (List.map Leg.pv legs), vi (small v5), vi (small v4), .pv (.str memo)], AV.c (vi 0)], []) :=
  cc_path (x := xf49) rfl [.call (AV.c (.ptr 0 0)) [.cells [.pv (.str s), vi 0]], .call (AV.c (.pv (.int .u64 (↑v1 : Int)))) [.cells [.pv (.str b1), vi f1]], .call (AV.c (vi (small v1))) [], .call (AV.c (vi v2)) [.cells [.pv (.str b2), vi f2]], .call (AV.c (vw (dayOf v2))) [], .call (AV.c (vi v3)) [.cells [.pv (.str b3), vi f3]], .call (AV.c (vw (dayOf v3))) [], .call (AV.c (.pv (.int .u64 (↑v4 : Int)))) [.cells [.pv (.str b4), vi f4]], .call (AV.c (vi (small v4))) [], .call (AV.c (.pv (.int .u64 (↑v5 : Int)))) [.cells [.pv (.str b5), vi f5]], .call (AV.c (vi (small v5))) [], .call (AV.c (.pv (.str memo))) [.cells [.pv (.str b6), vi f6]], .call (AV.c (vi (↑n : Int))) [.cells [.pv (.str b7), vi f7]], .loop (XExit.exit 0) (St.mk (tmOf 56 [(2, AV.c (.ptr 0 0)), (4, AV.c (.ptr 1 0)), (5, AV.c (.ptr 2 0))]) [.cells [vi 0, vw 0, vw 0, .pv (.sl SO.nil 0 []), vi 0, vi 0, .pv (.str [])], .cells [.pv (.str b8), vi f8], .cells [vi (small v1), vw (dayOf v2), vw (dayOf v3), .own 2751 3 (List.map Leg.pv legs), vi (small v5), vi (small v4), .pv (.str memo)]]), .call (AV.c (vi 0)) [.cells [.pv (.str b8), vi f8]], .br true, .call (AV.c (vi e)) [], .br false]
    (c := [cc (ev X E0) 101 [AV.c (.pv (.str s))] [] = some (AV.c (.ptr 0 0), [.cells [.pv (.str s), vi 0]]), cc (ev X E0) 103 [AV.c (.ptr 0 0)] [.cells [.pv (.str s), vi 0]] = some (AV.c (.pv (.int .u64 (↑v1 : Int))), [.cells [.pv (.str b1), vi f1]]), cc (ev X E0) 102 [AV.c (.pv (.int .u64 (↑v1 : Int)))] [] = some (AV.c (vi (small v1)), []), cc (ev X E0) 105 [AV.c (.ptr 0 0)] [.cells [.pv (.str b1), vi f1]] = some (AV.c (vi v2), [.cells [.pv (.str b2), vi f2]]), cc (ev X E0) 104 [AV.c (vi v2)] [] = some (AV.c (vw (dayOf v2)), []), cc (ev X E0) 105 [AV.c (.ptr 0 0)] [.cells [.pv (.str b2), vi f2]] = some (AV.c (vi v3), [.cells [.pv (.str b3), vi f3]]), cc (ev X E0) 104 [AV.c (vi v3)] [] = some (AV.c (vw (dayOf v3)), []), cc (ev X E0) 103 [AV.c (.ptr 0 0)] [.cells [.pv (.str b3), vi f3]] = some (AV.c (.pv (.int .u64 (↑v4 : Int))), [.cells [.pv (.str b4), vi f4]]), cc (ev X E0) 102 [AV.c (.pv (.int .u64 (↑v4 : Int)))] [] = some (AV.c (vi (small v4)), []), cc (ev X E0) 103 [AV.c (.ptr 0 0)] [.cells [.pv (.str b4), vi f4]] = some (AV.c (.pv (.int .u64 (↑v5 : Int))), [.cells [.pv (.str b5), vi f5]]), cc (ev X E0) 102 [AV.c (.pv (.int .u64 (↑v5 : Int)))] [] = some (AV.c (vi (small v5)), []), cc (ev X E0) 106 [AV.c (.ptr 0 0), AV.c (vi 32)] [.cells [.pv (.str b5), vi f5]] = some (AV.c (.pv (.str memo)), [.cells [.pv (.str b6), vi f6]]), cc (ev X E0) 107 [AV.c (.ptr 0 0), AV.c (vi 16)] [.cells [.pv (.str b6), vi f6]] = some (AV.c (vi (↑n : Int)), [.cells [.pv (.str b7), vi f7]]), lv (cv (ev X E0) xf49_l0) (rl [2, 1, 0, 23, 0]) 3 (St.mk (tmOf 56 [(2, AV.c (.ptr 0 0)), (4, AV.c (.ptr 1 0)), (5, AV.c (.ptr 2 0)), (29, AV.c (vi (↑n : Int))), (30, AV.c (vi 0))]) [.cells [vi 0, vw 0, vw 0, .pv (.sl SO.nil 0 []), vi 0, vi 0, .pv (.str [])], .cells [.pv (.str b7), vi f7], .cells [vi (small v1), vw (dayOf v2), vw (dayOf v3), .pv (.sl SO.nil 0 []), vi (small v5), vi (small v4), .pv (.str memo)]]) = some (XExit.exit 0, St.mk (tmOf 56 [(2, AV.c (.ptr 0 0)), (4, AV.c (.ptr 1 0)), (5, AV.c (.ptr 2 0))]) [.cells [vi 0, vw 0, vw 0, .pv (.sl SO.nil 0 []), vi 0, vi 0, .pv (.str [])], .cells [.pv (.str b8), vi f8], .cells [vi (small v1), vw (dayOf v2), vw (dayOf v3), .own 2751 3 (List.map Leg.pv legs), vi (small v5), vi (small v4), .pv (.str memo)]]), cc (ev X E0) 109 [AV.c (.ptr 0 0)] [.cells [.pv (.str b8), vi f8]] = some (AV.c (vi 0), [.cells [.pv (.str b8), vi f8]]), true = true, cc (ev X E0) 37 [AV.agg [vi (small v1), vw (dayOf v2), vw (dayOf v3), .pv (.sl SO.shut 3 (List.map Leg.pv legs)), vi (small v5), vi (small v4), .pv (.str memo)]] [] = some (AV.c (vi e), []), (e != 0) = false]) (by kernel_rfl)
    ⟨(NR_1 _), (h1), (s102 _), (h2), (s104 _), (h3), (s104 _), (h4), (s102 _), (h5), (s102 _), (h6), (h7), (hl), (h8), rfl, (h9), (bne_f g1), trivial⟩
theorem f49n_1 (s : List UInt8) (b1 : List UInt8) (b2 : List UInt8) (b3 : List UInt8) (b4 : List UInt8) (b5 : List UInt8) (b6 : List UInt8) (b7 : List UInt8) (b8 : List UInt8) (f1 : Int) (f2 : Int) (f3 : Int) (f4 : Int) (f5 : Int) (f6 : Int) (f7 : Int) (f8 : Int) (v2 : Int) (v3 : Int) (e : Int) (v1 : Nat) (v4 : Nat) (v5 : Nat) (n : Nat) (memo : List UInt8) (h1 : cc (ev X E0) 103 [AV.c (.ptr 0 0)] [rdr s 0] = some (AV.int IntKind.u64 (↑v1 : Int), [rdr b1 f1])) (h2 : cc (ev X E0) 105 [AV.c (.ptr 0 0)] [rdr b1 f1] = some (AV.i v2, [rdr b2 f2])) (h3 : cc (ev X E0) 105 [AV.c (.ptr 0 0)] [rdr b2 f2] = some (AV.i v3, [rdr b3 f3])) (h4 : cc (ev X E0) 103 [AV.c (.ptr 0 0)] [rdr b3 f3] = some (AV.int IntKind.u64 (↑v4 : Int), [rdr b4 f4])) (h5 : cc (ev X E0) 103 [AV.c (.ptr 0 0)] [rdr b4 f4] = some (AV.int IntKind.u64 (↑v5 : Int), [rdr b5 f5])) (h6 : cc (ev X E0) 106 [AV.c (.ptr 0 0), AV.i 32] [rdr b5 f5] = some (AV.s memo, [rdr b6 f6])) (h7 : cc (ev X E0) 107 [AV.c (.ptr 0 0), AV.i 16] [rdr b6 f6] = some (AV.i (↑n : Int), [rdr b7 f7])) (hl : lv (cv (ev X E0) xf49_l0) (rl [2, 1, 0, 23, 0]) 3 (S49 (Post.mk (small v1) (dayOf v2) (dayOf v3) SO.nil [] (small v5) (small v4) memo) b7 f7 (.pv (.sl SO.nil 0 [])) (↑n : Int) 0) = some (XExit.exit 0, St.mk (tmOf 56 [(2, AV.c (.ptr 0 0)), (4, AV.c (.ptr 1 0)), (5, AV.c (.ptr 2 0))]) [.cells Z7, rdr b8 f8, .cells (csX (Post.mk (small v1) (dayOf v2) (dayOf v3) SO.nil [] (small v5) (small v4) memo) (.pv (.sl SO.nil 0 [])))])) (h8 : cc (ev X E0) 109 [AV.c (.ptr 0 0)] [rdr b8 f8] = some (AV.i 0, [rdr b8 f8])) (h9 : cc (ev X E0) 37 [AV.agg [vi (small v1), vw (dayOf v2), vw (dayOf v3), .pv (.sl SO.nil 0 []), vi (small v5), vi (small v4), .pv (.str memo)]] [] = some (AV.i e, [])) (hec : ¬e = 0) :
    cc (ev X E0) 49 [AV.c (.pv (.str s))] [] = some (AV.tup [AV.agg [vi 0, vw 0, vw 0, .pv (.sl SO.nil 0 []), vi 0, vi 0, .pv (.str [])], AV.c (vi e)], []) :=
  cc_path (x := xf49) rfl [.call (AV.c (.ptr 0 0)) [.cells [.pv (.str s), vi 0]], .call (AV.c (.pv (.int .u64 (↑v1 : Int)))) [.cells [.pv (.str b1), vi f1]], .call (AV.c (vi (small v1))) [], .call (AV.c (vi v2)) [.cells [.pv (.str b2), vi f2]], .call (AV.c (vw (dayOf v2))) [], .call (AV.c (vi v3)) [.cells [.pv (.str b3), vi f3]], .call (AV.c (vw (dayOf v3))) [], .call (AV.c (.pv (.int .u64 (↑v4 : Int)))) [.cells [.pv (.str b4), vi f4]], .call (AV.c (vi (small v4))) [], .call (AV.c (.pv (.int .u64 (↑v5 : Int)))) [.cells [.pv (.str b5), vi f5]], .call (AV.c (vi (small v5))) [], .call (AV.c (.pv (.str memo))) [.cells [.pv (.str b6), vi f6]], .call (AV.c (vi (↑n : Int))) [.cells [.pv (.str b7), vi f7]], .loop (XExit.exit 0) (St.mk (tmOf 56 [(2, AV.c (.ptr 0 0)), (4, AV.c (.ptr 1 0)), (5, AV.c (.ptr 2 0))]) [.cells [vi 0, vw 0, vw 0, .pv (.sl SO.nil 0 []), vi 0, vi 0, .pv (.str [])], .cells [.pv (.str b8), vi f8], .cells [vi (small v1), vw (dayOf v2), vw (dayOf v3), .pv (.sl SO.nil 0 []), vi (small v5), vi (small v4), .pv (.str memo)]]), .call (AV.c (vi 0)) [.cells [.pv (.str b8), vi f8]], .br true, .call (AV.c (vi e)) [], .br true]
    (c := [cc (ev X E0) 101 [AV.c (.pv (.str s))] [] = some (AV.c (.ptr 0 0), [.cells [.pv (.str s), vi 0]]), cc (ev X E0) 103 [AV.c (.ptr 0 0)] [.cells [.pv (.str s), vi 0]] = some (AV.c (.pv (.int .u64 (↑v1 : Int))), [.cells [.pv (.str b1), vi f1]]), cc (ev X E0) 102 [AV.c (.pv (.int .u64 (↑v1 : Int)))] [] = some (AV.c (vi (small v1)), []), cc (ev X E0) 105 [AV.c (.ptr 0 0)] [.cells [.pv (.str b1), vi f1]] = some (AV.c (vi v2), [.cells [.pv (.str b2), vi f2]]), cc (ev X E0) 104 [AV.c (vi v2)] [] = some (AV.c (vw (dayOf v2)), []), cc (ev X E0) 105 [AV.c (.ptr 0 0)] [.cells [.pv (.str b2), vi f2]] = some (AV.c (vi v3), [.cells [.pv (.str b3), vi f3]]), cc (ev X E0) 104 [AV.c (vi v3)] [] = some (AV.c (vw (dayOf v3)), []), cc (ev X E0) 103 [AV.c (.ptr 0 0)] [.cells [.pv (.str b3), vi f3]] = some (AV.c (.pv (.int .u64 (↑v4 : Int))), [.cells [.pv (.str b4), vi f4]]), cc (ev X E0) 102 [AV.c (.pv (.int .u64 (↑v4 : Int)))] [] = some (AV.c (vi (small v4)), []), cc (ev X E0) 103 [AV.c (.ptr 0 0)] [.cells [.pv (.str b4), vi f4]] = some (AV.c (.pv (.int .u64 (↑v5 : Int))), [.cells [.pv (.str b5), vi f5]]), cc (ev X E0) 102 [AV.c (.pv (.int .u64 (↑v5 : Int)))] [] = some (AV.c (vi (small v5)), []), cc (ev X E0) 106 [AV.c (.ptr 0 0), AV.c (vi 32)] [.cells [.pv (.str b5), vi f5]] = some (AV.c (.pv (.str memo)), [.cells [.pv (.str b6), vi f6]]), cc (ev X E0) 107 [AV.c (.ptr 0 0), AV.c (vi 16)] [.cells [.pv (.str b6), vi f6]] = some (AV.c (vi (↑n : Int)), [.cells [.pv (.str b7), vi f7]]), lv (cv (ev X E0) xf49_l0) (rl [2, 1, 0, 23, 0]) 3 (St.mk (tmOf 56 [(2, AV.c (.ptr 0 0)), (4, AV.c (.ptr 1 0)), (5, AV.c (.ptr 2 0)), (29, AV.c (vi (↑n : Int))), (30, AV.c (vi 0))]) [.cells [vi 0, vw 0, vw 0, .pv (.sl SO.nil 0 []), vi 0, vi 0, .pv (.str [])], .cells [.pv (.str b7), vi f7], .cells [vi (small v1), vw (dayOf v2), vw (dayOf v3), .pv (.sl SO.nil 0 []), vi (small v5), vi (small v4), .pv (.str memo)]]) = some (XExit.exit 0, St.mk (tmOf 56 [(2, AV.c (.ptr 0 0)), (4, AV.c (.ptr 1 0)), (5, AV.c (.ptr 2 0))]) [.cells [vi 0, vw 0, vw 0, .pv (.sl SO.nil 0 []), vi 0, vi 0, .pv (.str [])], .cells [.pv (.str b8), vi f8], .cells [vi (small v1), vw (dayOf v2), vw (dayOf v3), .pv (.sl SO.nil 0 []), vi (small v5), vi (small v4), .pv (.str memo)]]), cc (ev X E0) 109 [AV.c (.ptr 0 0)] [.cells [.pv (.str b8), vi f8]] = some (AV.c (vi 0), [.cells [.pv (.str b8), vi f8]]), true = true, cc (ev X E0) 37 [AV.agg [vi (small v1), vw (dayOf v2), vw (dayOf v3), .pv (.sl SO.nil 0 []), vi (small v5), vi (small v4), .pv (.str memo)]] [] = some (AV.c (vi e), []), (e != 0) = true]) (by kernel_rfl)
    ⟨(NR_1 _), (h1), (s102 _), (h2), (s104 _), (h3), (s104 _), (h4), (s102 _), (h5), (s102 _), (h6), (h7), (hl), (h8), rfl, (h9), (bne_iff_ne.mpr hec), trivial⟩
theorem f49e_1 (s : List UInt8) (b1 : List UInt8) (b2 : List UInt8) (b3 : List UInt8) (b4 : List UInt8) (b5 : List UInt8) (b6 : List UInt8) (b7 : List UInt8) (b8 : List UInt8) (f1 : Int) (f2 : Int) (f3 : Int) (f4 : Int) (f5 : Int) (f6 : Int) (f7 : Int) (f8 : Int) (v2 : Int) (v3 : Int) (e : Int) (v1 : Nat) (v4 : Nat) (v5 : Nat) (n : Nat) (memo : List UInt8) (x : CV) (h1 : cc (ev X E0) 103 [AV.c (.ptr 0 0)] [rdr s 0] = some (AV.int IntKind.u64 (↑v1 : Int), [rdr b1 f1])) (h2 : cc (ev X E0) 105 [AV.c (.ptr 0 0)] [rdr b1 f1] = some (AV.i v2, [rdr b2 f2])) (h3 : cc (ev X E0) 105 [AV.c (.ptr 0 0)] [rdr b2 f2] = some (AV.i v3, [rdr b3 f3])) (h4 : cc (ev X E0) 103 [AV.c (.ptr 0 0)] [rdr b3 f3] = some (AV.int IntKind.u64 (↑v4 : Int), [rdr b4 f4])) (h5 : cc (ev X E0) 103 [AV.c (.ptr 0 0)] [rdr b4 f4] = some (AV.int IntKind.u64 (↑v5 : Int), [rdr b5 f5])) (h6 : cc (ev X E0) 106 [AV.c (.ptr 0 0), AV.i 32] [rdr b5 f5] = some (AV.s memo, [rdr b6 f6])) (h7 : cc (ev X E0) 107 [AV.c (.ptr 0 0), AV.i 16] [rdr b6 f6] = some (AV.i (↑n : Int), [rdr b7 f7])) (hl : lv (cv (ev X E0) xf49_l0) (rl [2, 1, 0, 23, 0]) 3 (S49 (Post.mk (small v1) (dayOf v2) (dayOf v3) SO.nil [] (small v5) (small v4) memo) b7 f7 (.pv (.sl SO.nil 0 [])) (↑n : Int) 0) = some (XExit.exit 0, St.mk (tmOf 56 [(2, AV.c (.ptr 0 0)), (4, AV.c (.ptr 1 0)), (5, AV.c (.ptr 2 0))]) [.cells Z7, rdr b8 f8, .cells (csX (Post.mk (small v1) (dayOf v2) (dayOf v3) SO.nil [] (small v5) (small v4) memo) x)])) (h8 : cc (ev X E0) 109 [AV.c (.ptr 0 0)] [rdr b8 f8] = some (AV.i e, [rdr b8 f8])) (he : ¬e = 0) :
    cc (ev X E0) 49 [AV.c (.pv (.str s))] [] = some (AV.tup [AV.agg [vi 0, vw 0, vw 0, .pv (.sl SO.nil 0 []), vi 0, vi 0, .pv (.str [])], AV.c (vi e)], []) :=
  cc_path (x := xf49) rfl [.call (AV.c (.ptr 0 0)) [.cells [.pv (.str s), vi 0]], .call (AV.c (.pv (.int .u64 (↑v1 : Int)))) [.cells [.pv (.str b1), vi f1]], .call (AV.c (vi (small v1))) [], .call (AV.c (vi v2)) [.cells [.pv (.str b2), vi f2]], .call (AV.c (vw (dayOf v2))) [], .call (AV.c (vi v3)) [.cells [.pv (.str b3), vi f3]], .call (AV.c (vw (dayOf v3))) [], .call (AV.c (.pv (.int .u64 (↑v4 : Int)))) [.cells [.pv (.str b4), vi f4]], .call (AV.c (vi (small v4))) [], .call (AV.c (.pv (.int .u64 (↑v5 : Int)))) [.cells [.pv (.str b5), vi f5]], .call (AV.c (vi (small v5))) [], .call (AV.c (.pv (.str memo))) [.cells [.pv (.str b6), vi f6]], .call (AV.c (vi (↑n : Int))) [.cells [.pv (.str b7), vi f7]], .loop (XExit.exit 0) (St.mk (tmOf 56 [(2, AV.c (.ptr 0 0)), (4, AV.c (.ptr 1 0)), (5, AV.c (.ptr 2 0))]) [.cells [vi 0, vw 0, vw 0, .pv (.sl SO.nil 0 []), vi 0, vi 0, .pv (.str [])], .cells [.pv (.str b8), vi f8], .cells [vi (small v1), vw (dayOf v2), vw (dayOf v3), x, vi (small v5), vi (small v4), .pv (.str memo)]]), .call (AV.c (vi e)) [.cells [.pv (.str b8), vi f8]], .br false, .br true]
    (c := [cc (ev X E0) 101 [AV.c (.pv (.str s))] [] = some (AV.c (.ptr 0 0), [.cells [.pv (.str s), vi 0]]), cc (ev X E0) 103 [AV.c (.ptr 0 0)] [.cells [.pv (.str s), vi 0]] = some (AV.c (.pv (.int .u64 (↑v1 : Int))), [.cells [.pv (.str b1), vi f1]]), cc (ev X E0) 102 [AV.c (.pv (.int .u64 (↑v1 : Int)))] [] = some (AV.c (vi (small v1)), []), cc (ev X E0) 105 [AV.c (.ptr 0 0)] [.cells [.pv (.str b1), vi f1]] = some (AV.c (vi v2), [.cells [.pv (.str b2), vi f2]]), cc (ev X E0) 104 [AV.c (vi v2)] [] = some (AV.c (vw (dayOf v2)), []), cc (ev X E0) 105 [AV.c (.ptr 0 0)] [.cells [.pv (.str b2), vi f2]] = some (AV.c (vi v3), [.cells [.pv (.str b3), vi f3]]), cc (ev X E0) 104 [AV.c (vi v3)] [] = some (AV.c (vw (dayOf v3)), []), cc (ev X E0) 103 [AV.c (.ptr 0 0)] [.cells [.pv (.str b3), vi f3]] = some (AV.c (.pv (.int .u64 (↑v4 : Int))), [.cells [.pv (.str b4), vi f4]]), cc (ev X E0) 102 [AV.c (.pv (.int .u64 (↑v4 : Int)))] [] = some (AV.c (vi (small v4)), []), cc (ev X E0) 103 [AV.c (.ptr 0 0)] [.cells [.pv (.str b4), vi f4]] = some (AV.c (.pv (.int .u64 (↑v5 : Int))), [.cells [.pv (.str b5), vi f5]]), cc (ev X E0) 102 [AV.c (.pv (.int .u64 (↑v5 : Int)))] [] = some (AV.c (vi (small v5)), []), cc (ev X E0) 106 [AV.c (.ptr 0 0), AV.c (vi 32)] [.cells [.pv (.str b5), vi f5]] = some (AV.c (.pv (.str memo)), [.cells [.pv (.str b6), vi f6]]), cc (ev X E0) 107 [AV.c (.ptr 0 0), AV.c (vi 16)] [.cells [.pv (.str b6), vi f6]] = some (AV.c (vi (↑n : Int)), [.cells [.pv (.str b7), vi f7]]), lv (cv (ev X E0) xf49_l0) (rl [2, 1, 0, 23, 0]) 3 (St.mk (tmOf 56 [(2, AV.c (.ptr 0 0)), (4, AV.c (.ptr 1 0)), (5, AV.c (.ptr 2 0)), (29, AV.c (vi (↑n : Int))), (30, AV.c (vi 0))]) [.cells [vi 0, vw 0, vw 0, .pv (.sl SO.nil 0 []), vi 0, vi 0, .pv (.str [])], .cells [.pv (.str b7), vi f7], .cells [vi (small v1), vw (dayOf v2), vw (dayOf v3), .pv (.sl SO.nil 0 []), vi (small v5), vi (small v4), .pv (.str memo)]]) = some (XExit.exit 0, St.mk (tmOf 56 [(2, AV.c (.ptr 0 0)), (4, AV.c (.ptr 1 0)), (5, AV.c (.ptr 2 0))]) [.cells [vi 0, vw 0, vw 0, .pv (.sl SO.nil 0 []), vi 0, vi 0, .pv (.str [])], .cells [.pv (.str b8), vi f8], .cells [vi (small v1), vw (dayOf v2), vw (dayOf v3), x, vi (small v5), vi (small v4), .pv (.str memo)]]), cc (ev X E0) 109 [AV.c (.ptr 0 0)] [.cells [.pv (.str b8), vi f8]] = some (AV.c (vi e), [.cells [.pv (.str b8), vi f8]]), (e == 0) = false, (e != 0) = true]) (by kernel_rfl)
    ⟨(NR_1 _), (h1), (s102 _), (h2), (s104 _), (h3), (s104 _), (h4), (s102 _), (h5), (s102 _), (h6), (h7), (hl), (h8), (beq_eq_false_iff_ne.mpr he), (bne_iff_ne.mpr he), trivial⟩
end Go.Sx.Tryd
/- The posting of bytes, of the program and of the document: the same. -/
namespace Go.Sx.Tryd
open Go Go.Sx
theorem step_len {α : Type} {z : α} {q : List UInt8 → Got α} {b : List UInt8} {f : Int} : (step z q b f).2.1.length ≤ b.length := by
  unfold step
  split
  · exact Nat.le_refl _
  · split
    · exact Nat.le_refl _
    · rw [List.length_drop]; omega
def d1 (s : List UInt8) := step 0 qV s 0
def d2 (s : List UInt8) := step 0 qV (d1 s).2.1 (d1 s).2.2
def d3 (s : List UInt8) := step 0 qV (d2 s).2.1 (d2 s).2.2
def d4 (s : List UInt8) := step 0 qV (d3 s).2.1 (d3 s).2.2
def d5 (s : List UInt8) := step 0 qV (d4 s).2.1 (d4 s).2.2
def d6 (s : List UInt8) := step ([] : List UInt8) (qT 32) (d5 s).2.1 (d5 s).2.2
def d7 (s : List UInt8) := step 0 (qC 16) (d6 s).2.1 (d6 s).2.2
def d8 (s : List UInt8) := rdLegs (d7 s).1 (d7 s).2.1 (d7 s).2.2
def endE (b : List UInt8) (f : Int) : Int := if f = 0 then (if b = [] then 0 else 3) else f
def decP (s : List UInt8) : Post := ⟨small (d1 s).1, dayOf (sgn (d2 s).1), dayOf (sgn (d3 s).1), .shut, (d8 s).1, small (d5 s).1, small (d4 s).1, (d6 s).1⟩
def decE (s : List UInt8) : Int := if endE (d8 s).2.1 (d8 s).2.2 = 0 then chk (decP s) else endE (d8 s).2.1 (d8 s).2.2
theorem sEnd (b : List UInt8) (f : Int) : cc (ev X E0) 109 [AV.c (.ptr 0 0)] [rdr b f] = some (AV.i (endE b f), [rdr b f]) := by
  unfold endE
  by_cases h : f = 0
  · rw [if_pos h]
    by_cases h2 : b = []
    · subst h2; rw [if_pos rfl]; exact REnd_3 [] f h (by simp)
    · rw [if_neg h2]; exact REnd_2 b f h (by have := List.length_pos_iff.2 h2; omega)
  · rw [if_neg h]; exact REnd_1 b f h
theorem chk_nil {p : Post} (h : p.legs = []) : chk p = chkN p := by
  unfold chk chkN
  rw [h]; rfl
abbrev T49 : List AV := tmOf 56 [(2, AV.c (CV.ptr 0 0)), (4, AV.c (CV.ptr 1 0)), (5, AV.c (CV.ptr 2 0))]
theorem a49 {h : Post} {n : Nat} (hn : n ≤ 16) : ∀ (m k : Nat) (b : List UInt8) (f : Int) (l : List Leg), k + m = n → b.length ≤ 1000000 → l.length = k →
    lv (cv (ev X E0) xf49_l0) (rl [2, 1, 0, 23, 0]) 3 (S49 h b f (CV.own 2751 3 (l.map Leg.pv)) n k) = some (XExit.exit 0, St.mk T49 [Box.cells Z7, rdr (rdLegs m b f).2.1 (rdLegs m b f).2.2, Box.cells (csX h (CV.own 2751 3 ((l ++ (rdLegs m b f).1).map Leg.pv)))])
  | 0, k, b, f, l, hk, hb, hl => by
    simp only [rdLegs, List.append_nil]
    exact l49_2 h b f n 2751 l k (by omega)
  | m + 1, k, b, f, l, hk, hb, hl => by
    have hb2 : (step 0 qV b f).2.1.length ≤ 1000000 := Nat.le_trans step_len hb
    have hb3 : (step (0, 0) qM (step 0 qV b f).2.1 (step 0 qV b f).2.2).2.1.length ≤ 1000000 := Nat.le_trans step_len hb2
    have st := l49_1 h b f n 2751 l k (by omega) hb hb2 (by simp only [List.length_map, List.length_singleton]; omega)
    have ih := a49 (h := h) hn m (k + 1) (step (0, 0) qM (step 0 qV b f).2.1 (step 0 qV b f).2.2).2.1 (step (0, 0) qM (step 0 qV b f).2.1 (step 0 qV b f).2.2).2.2
      (l ++ [⟨small (step 0 qV b f).1, (step (0, 0) qM (step 0 qV b f).2.1 (step 0 qV b f).2.2).1.1, (step (0, 0) qM (step 0 qV b f).2.1 (step 0 qV b f).2.2).1.2⟩]) (by omega) hb3 (by rw [List.length_append, List.length_singleton]; omega)
    rw [wi64 (n := (k : Int) + 1) (by omega) (by omega)] at st
    rw [Int.natCast_add, Int.natCast_one, List.append_assoc, List.map_append] at ih
    rw [rdLegs]
    exact st.trans ih
theorem a49n {h : Post} {n : Nat} (hn : n ≤ 16) (b : List UInt8) (f : Int) (hb : b.length ≤ 1000000) :
    lv (cv (ev X E0) xf49_l0) (rl [2, 1, 0, 23, 0]) 3 (S49 h b f (CV.pv (PV.sl .nil 0 [])) n 0) = some (XExit.exit 0, St.mk T49 [Box.cells Z7, rdr (rdLegs n b f).2.1 (rdLegs n b f).2.2, Box.cells (csX h (if n = 0 then CV.pv (PV.sl .nil 0 []) else CV.own 2751 3 ((rdLegs n b f).1.map Leg.pv)))]) := by
  match n, hn with
  | 0, _ => exact l49a_2 h b f 0 0 (by omega)
  | n + 1, hn =>
    have hb2 : (step 0 qV b f).2.1.length ≤ 1000000 := Nat.le_trans step_len hb
    have hb3 : (step (0, 0) qM (step 0 qV b f).2.1 (step 0 qV b f).2.2).2.1.length ≤ 1000000 := Nat.le_trans step_len hb2
    have st := l49a_1 h b f ((n + 1 : Nat) : Int) 0 (by omega) hb hb2 (by simp only [List.length_singleton]; omega)
    have ih := a49 (h := h) hn n 1 (step (0, 0) qM (step 0 qV b f).2.1 (step 0 qV b f).2.2).2.1 (step (0, 0) qM (step 0 qV b f).2.1 (step 0 qV b f).2.2).2.2
      [⟨small (step 0 qV b f).1, (step (0, 0) qM (step 0 qV b f).2.1 (step 0 qV b f).2.2).1.1, (step (0, 0) qM (step 0 qV b f).2.1 (step 0 qV b f).2.2).1.2⟩] (by omega) hb3 rfl
    rw [wi64 (n := ((0 : Nat) : Int) + 1) (by omega) (by omega)] at st
    rw [if_neg (by omega), rdLegs]
    exact st.trans ih
theorem qC_le {m : Nat} {b : List UInt8} {f : Int} : (step 0 (qC m) b f).1 ≤ m := by
  unfold step
  split
  · exact Nat.zero_le _
  · split
    · exact Nat.zero_le _
    · unfold qC
      split
      · exact Nat.zero_le _
      · split
        · exact Nat.zero_le _
        · simp only; omega
theorem qT_le {m : Nat} {b : List UInt8} {f : Int} : (step [] (qT m) b f).1.length ≤ m := by
  unfold step
  split
  · exact Nat.zero_le _
  · split
    · exact Nat.zero_le _
    · unfold qT
      split
      · exact Nat.zero_le _
      · split
        · exact Nat.zero_le _
        · split
          · exact Nat.zero_le _
          · simp only [List.length_take]; omega
structure DLen (s : List UInt8) : Prop where
  l1 : (d1 s).2.1.length ≤ 1000000
  l2 : (d2 s).2.1.length ≤ 1000000
  l3 : (d3 s).2.1.length ≤ 1000000
  l4 : (d4 s).2.1.length ≤ 1000000
  l5 : (d5 s).2.1.length ≤ 1000000
  l6 : (d6 s).2.1.length ≤ 1000000
  l7 : (d7 s).2.1.length ≤ 1000000
  n : (d7 s).1 ≤ 16
  m : (d6 s).1.length ≤ 32
theorem dlen {s : List UInt8} (h : s.length ≤ 1000000) : DLen s := by
  have l1 : (d1 s).2.1.length ≤ 1000000 := Nat.le_trans step_len h
  have l2 : (d2 s).2.1.length ≤ 1000000 := Nat.le_trans step_len l1
  have l3 : (d3 s).2.1.length ≤ 1000000 := Nat.le_trans step_len l2
  have l4 : (d4 s).2.1.length ≤ 1000000 := Nat.le_trans step_len l3
  have l5 : (d5 s).2.1.length ≤ 1000000 := Nat.le_trans step_len l4
  have l6 : (d6 s).2.1.length ≤ 1000000 := Nat.le_trans step_len l5
  exact ⟨l1, l2, l3, l4, l5, l6, Nat.le_trans step_len l6, qC_le (m := 16), qT_le (m := 32)⟩
abbrev decA (s : List UInt8) : AV := .tup [if decE s = 0 then Post.av (decP s) else AV.agg Z7, AV.i (decE s)]
theorem rdLegs_len : ∀ (n : Nat) (b : List UInt8) (f : Int), (rdLegs n b f).1.length = n
  | 0, b, f => rfl
  | n + 1, b, f => by rw [rdLegs, List.length_cons, rdLegs_len n]
theorem s49 (s : List UInt8) (hs : s.length ≤ 1000000) : cs (ev X E0) 49 [AV.s s] = some (decA s) := by
  obtain ⟨l1, l2, l3, l4, l5, l6, l7, hn, hm⟩ := dlen hs
  have lt (b : List UInt8) (f : Int) := step_v_lt b f
  have h1 := s103 s 0 hs
  have h2 := RZS (d1 s).2.1 (d1 s).2.2 l1
  have h3 := RZS (d2 s).2.1 (d2 s).2.2 l2
  have h4 := s103 (d3 s).2.1 (d3 s).2.2 l3
  have h5 := s103 (d4 s).2.1 (d4 s).2.2 l4
  have h6 := RT_1 (d5 s).2.1 (d5 s).2.2 32 l5 (by omega)
  have h7 := RC_1 (d6 s).2.1 (d6 s).2.2 16 l6 (by omega)
  have hl := a49n (h := ⟨small (d1 s).1, dayOf (sgn (d2 s).1), dayOf (sgn (d3 s).1), .nil, [], small (d5 s).1, small (d4 s).1, (d6 s).1⟩) hn (d7 s).2.1 (d7 s).2.2 l7
  have h8 := sEnd (d8 s).2.1 (d8 s).2.2
  have hlen := rdLegs_len (d7 s).1 (d7 s).2.1 (d7 s).2.2
  by_cases e0 : endE (d8 s).2.1 (d8 s).2.2 = 0
  · have hE : decE s = chk (decP s) := by unfold decE; rw [if_pos e0]
    by_cases n0 : (d7 s).1 = 0
    · rw [if_pos n0] at hl
      have hnil : (decP s).legs = [] := List.length_eq_zero_iff.1 (by show (d8 s).1.length = 0; unfold d8; rw [hlen, n0])
      rw [chk_nil hnil] at hE
      have h9 := s37n (decP s) (by show (d6 s).1.length ≤ _; omega)
      rw [decA, hE, if_neg (chkN_ne _)]
      exact cs_of (f49n_1 s _ _ _ _ _ _ _ _ _ _ _ _ _ _ _ _ _ _ _ _ _ _ _ _ h1 h2 h3 h4 h5 h6 h7 hl (by rw [e0] at h8; exact h8) h9 (chkN_ne _))
    · rw [if_neg n0] at hl
      have h9 := s37 (decP s) (by show (d6 s).1.length ≤ _; omega) (by show (d8 s).1.length ≤ _; unfold d8; rw [hlen]; omega)
      by_cases hc : chk (decP s) = 0
      · rw [decA, hE, if_pos hc, hc]
        exact cs_of (f49_2 s _ _ _ _ _ _ _ _ _ _ _ _ _ _ _ _ _ _ _ _ _ _ _ _ _ h1 h2 h3 h4 h5 h6 h7 hl (by rw [e0] at h8; exact h8) h9 hc)
      · rw [decA, hE, if_neg hc]
        exact cs_of (f49_1 s _ _ _ _ _ _ _ _ _ _ _ _ _ _ _ _ _ _ _ _ _ _ _ _ _ h1 h2 h3 h4 h5 h6 h7 hl (by rw [e0] at h8; exact h8) h9 hc)
  · have hE : decE s = endE (d8 s).2.1 (d8 s).2.2 := by unfold decE; rw [if_neg e0]
    rw [decA, hE, if_neg e0]
    exact cs_of (f49e_1 s _ _ _ _ _ _ _ _ _ _ _ _ _ _ _ _ _ _ _ _ _ _ _ _ _ h1 h2 h3 h4 h5 h6 h7 hl h8 e0)
end Go.Sx.Tryd
