/- Claims that may be. -/
import Derived.Test.YtggopflifieoiaaDoorK1
import Derived.Test.YtggopflifieoiaaDoorSxLem
namespace Go.Sx.Tryd
open Go Go.Sx
structure Cl where
  id : Int
  fr : Int
  to : Int
  cur : Int
  n : Int
  day : Int
abbrev Cl.pv (x : Cl) : PV := .agg [.int .i64 x.id, .int .i64 x.fr, .int .i64 x.to, .int .i64 x.cur, .int .i64 x.n, .int .i32 x.day]
abbrev Cl.cs (x : Cl) : List CV := [.pv (.int .i64 x.id), .pv (.int .i64 x.fr), .pv (.int .i64 x.to), .pv (.int .i64 x.cur), .pv (.int .i64 x.n), .pv (.int .i32 x.day)]
abbrev Cl.av (x : Cl) : AV := .agg [.pv (.int .i64 x.id), .pv (.int .i64 x.fr), .pv (.int .i64 x.to), .pv (.int .i64 x.cur), .pv (.int .i64 x.n), .pv (.int .i32 x.day)]
structure Cl.Ok (c : Cl) : Prop where
  f0 : 0 ≤ c.fr
  f1 : c.fr < 16
  t0 : 0 ≤ c.to
  t1 : c.to < 16
  ne : c.fr ≠ c.to
  lo : 1 ≤ c.n
  hi : c.n ≤ 1000000000000
theorem ltC {l : List Cl} {i : Nat} (h : i < l.length) : (i : Int) < (((l.map Cl.pv).length : Nat) : Int) := by rw [List.length_map]; omega
theorem yg136_1 (n : Int) (g1 : n ≥ 0) :
    cc (ev X E0) 136 [AV.c (vi n)] [] = some (AV.c (.pv (.bool (decide (n < 16)))), []) :=
  cc_path (x := xf136) rfl (bs 3 true)
    (c := rq [(3, decide (n ≥ 0) = true)]) (by kernel_rfl)
    (aq ⟨(dT g1), trivial⟩)
theorem yg136_2 (n : Int) (g1 : ¬n ≥ 0) :
    cc (ev X E0) 136 [AV.c (vi n)] [] = some (AV.c (.pv (.bool false)), []) :=
  cc_path (x := xf136) rfl (bs 3 false)
    (c := rq [(3, decide (n ≥ 0) = false)]) (by kernel_rfl)
    (aq ⟨(dF g1), trivial⟩)
theorem yg81_1 (n : Int) (g1 : n ≥ 0) :
    cc (ev X E0) 81 [AV.c (vi n)] [] = some (AV.c (.pv (.bool (decide (n ≤ 3)))), []) :=
  cc_path (x := xf81) rfl (bs 3 true)
    (c := rq [(3, decide (n ≥ 0) = true)]) (by kernel_rfl)
    (aq ⟨(dT g1), trivial⟩)
theorem yg81_2 (n : Int) (g1 : ¬n ≥ 0) :
    cc (ev X E0) 81 [AV.c (vi n)] [] = some (AV.c (.pv (.bool false)), []) :=
  cc_path (x := xf81) rfl (bs 3 false)
    (c := rq [(3, decide (n ≥ 0) = false)]) (by kernel_rfl)
    (aq ⟨(dF g1), trivial⟩)
def bankOk (n : Int) : Bool := decide (0 ≤ n ∧ n < 16)
theorem ys136 (n : Int) : cc (ev X E0) 136 [AV.i n] [] = some (.b (bankOk n), []) := by
  unfold bankOk
  by_cases h : n ≥ 0
  · rw [yg136_1 n h]; congr 5; rw [Bool.eq_iff_iff]; simp; omega
  · rw [yg136_2 n h, decide_eq_false (by omega)]
theorem ys81 (n : Int) : cc (ev X E0) 81 [AV.i n] [] = some (.b (curOk n), []) := by
  unfold curOk
  by_cases h : n ≥ 0
  · rw [yg81_1 n h]; congr 5; rw [Bool.eq_iff_iff]; simp; omega
  · rw [yg81_2 n h, decide_eq_false (by omega)]
theorem yg120_1 (x : Cl) (g1 : Cl.id x ≥ 1) (g2 : bankOk (Cl.fr x) = true) (g3 : bankOk (Cl.to x) = true) (g4 : ¬Cl.fr x = Cl.to x) (g5 : curOk (Cl.cur x) = true) (g6 : Cl.n x ≥ 1) (g7 : Cl.n x ≤ 1000000000000) :
    cc (ev X E0) 120 [AV.agg [vi (Cl.id x), vi (Cl.fr x), vi (Cl.to x), vi (Cl.cur x), vi (Cl.n x), vw (Cl.day x)]] [] = some (AV.c (.pv (.bool (datOk (Cl.day x)))), []) :=
  cc_path (x := xf120) rfl (bs 3 true ++ [.call (AV.c (.pv (.bool (bankOk (Cl.fr x))))) []] ++ bs 4 true ++ [.call (AV.c (.pv (.bool (bankOk (Cl.to x))))) []] ++ bs 11 true ++ [.call (AV.c (.pv (.bool (curOk (Cl.cur x))))) []] ++ bs 14 true ++ [.call (AV.c (.pv (.bool (datOk (Cl.day x))))) [], .br true])
    (c := rq [(3, decide (Cl.id x ≥ 1) = true), (1, cc (ev X E0) 136 [AV.c (vi (Cl.fr x))] [] = some (AV.c (.pv (.bool (bankOk (Cl.fr x)))), [])), (1, decide (Cl.id x ≥ 1) = true), (3, type_of% g2), (1, cc (ev X E0) 136 [AV.c (vi (Cl.to x))] [] = some (AV.c (.pv (.bool (bankOk (Cl.to x)))), [])), ty g2, (6, type_of% g3), (4, (Cl.fr x != Cl.to x) = true), (1, cc (ev X E0) 81 [AV.c (vi (Cl.cur x))] [] = some (AV.c (.pv (.bool (curOk (Cl.cur x)))), [])), (1, (Cl.fr x != Cl.to x) = true), (5, type_of% g5), (5, decide (Cl.n x ≥ 1) = true), (3, decide (Cl.n x ≤ 1000000000000) = true), (1, cc (ev X E0) 53 [AV.c (vw (Cl.day x))] [] = some (AV.c (.pv (.bool (datOk (Cl.day x)))), [])), (1, decide (Cl.n x ≤ 1000000000000) = true)]) (by kernel_rfl)
    (aq ⟨(dT g1), (ys136 _), (dT g1), g2, (ys136 _), g2, g3, (bne_iff_ne.mpr g4), (ys81 _), (bne_iff_ne.mpr g4), g5, (dT g6), (dT g7), (s77 _), (dT g7), trivial⟩)
theorem yg120_2 (x : Cl) (g1 : Cl.id x ≥ 1) (g2 : bankOk (Cl.fr x) = true) (g3 : bankOk (Cl.to x) = true) (g4 : ¬Cl.fr x = Cl.to x) (g5 : curOk (Cl.cur x) = true) (g6 : Cl.n x ≥ 1) (g7 : ¬Cl.n x ≤ 1000000000000) :
    cc (ev X E0) 120 [AV.agg [vi (Cl.id x), vi (Cl.fr x), vi (Cl.to x), vi (Cl.cur x), vi (Cl.n x), vw (Cl.day x)]] [] = some (AV.c (.pv (.bool false)), []) :=
  cc_path (x := xf120) rfl (bs 3 true ++ [.call (AV.c (.pv (.bool (bankOk (Cl.fr x))))) []] ++ bs 4 true ++ [.call (AV.c (.pv (.bool (bankOk (Cl.to x))))) []] ++ bs 11 true ++ [.call (AV.c (.pv (.bool (curOk (Cl.cur x))))) []] ++ bs 11 true ++ bs 4 false)
    (c := rq [(3, decide (Cl.id x ≥ 1) = true), (1, cc (ev X E0) 136 [AV.c (vi (Cl.fr x))] [] = some (AV.c (.pv (.bool (bankOk (Cl.fr x)))), [])), (1, decide (Cl.id x ≥ 1) = true), (3, type_of% g2), (1, cc (ev X E0) 136 [AV.c (vi (Cl.to x))] [] = some (AV.c (.pv (.bool (bankOk (Cl.to x)))), [])), ty g2, (6, type_of% g3), (4, (Cl.fr x != Cl.to x) = true), (1, cc (ev X E0) 81 [AV.c (vi (Cl.cur x))] [] = some (AV.c (.pv (.bool (curOk (Cl.cur x)))), [])), (1, (Cl.fr x != Cl.to x) = true), (5, type_of% g5), (5, decide (Cl.n x ≥ 1) = true), (4, decide (Cl.n x ≤ 1000000000000) = false)]) (by kernel_rfl)
    (aq ⟨(dT g1), (ys136 _), (dT g1), g2, (ys136 _), g2, g3, (bne_iff_ne.mpr g4), (ys81 _), (bne_iff_ne.mpr g4), g5, (dT g6), (dF g7), trivial⟩)
theorem yg120_3 (x : Cl) (g1 : Cl.id x ≥ 1) (g2 : bankOk (Cl.fr x) = true) (g3 : bankOk (Cl.to x) = true) (g4 : ¬Cl.fr x = Cl.to x) (g5 : curOk (Cl.cur x) = true) (g6 : ¬Cl.n x ≥ 1) :
    cc (ev X E0) 120 [AV.agg [vi (Cl.id x), vi (Cl.fr x), vi (Cl.to x), vi (Cl.cur x), vi (Cl.n x), vw (Cl.day x)]] [] = some (AV.c (.pv (.bool false)), []) :=
  cc_path (x := xf120) rfl (bs 3 true ++ [.call (AV.c (.pv (.bool (bankOk (Cl.fr x))))) []] ++ bs 4 true ++ [.call (AV.c (.pv (.bool (bankOk (Cl.to x))))) []] ++ bs 11 true ++ [.call (AV.c (.pv (.bool (curOk (Cl.cur x))))) []] ++ bs 6 true ++ bs 9 false)
    (c := rq [(3, decide (Cl.id x ≥ 1) = true), (1, cc (ev X E0) 136 [AV.c (vi (Cl.fr x))] [] = some (AV.c (.pv (.bool (bankOk (Cl.fr x)))), [])), (1, decide (Cl.id x ≥ 1) = true), (3, type_of% g2), (1, cc (ev X E0) 136 [AV.c (vi (Cl.to x))] [] = some (AV.c (.pv (.bool (bankOk (Cl.to x)))), [])), ty g2, (6, type_of% g3), (4, (Cl.fr x != Cl.to x) = true), (1, cc (ev X E0) 81 [AV.c (vi (Cl.cur x))] [] = some (AV.c (.pv (.bool (curOk (Cl.cur x)))), [])), (1, (Cl.fr x != Cl.to x) = true), (5, type_of% g5), (5, decide (Cl.n x ≥ 1) = false), (4, false = false)]) (by kernel_rfl)
    (aq ⟨(dT g1), (ys136 _), (dT g1), g2, (ys136 _), g2, g3, (bne_iff_ne.mpr g4), (ys81 _), (bne_iff_ne.mpr g4), g5, (dF g6), rfl, trivial⟩)
theorem yg120_4 (x : Cl) (g1 : Cl.id x ≥ 1) (g2 : bankOk (Cl.fr x) = true) (g3 : bankOk (Cl.to x) = true) (g4 : ¬Cl.fr x = Cl.to x) (g5 : curOk (Cl.cur x) = false) :
    cc (ev X E0) 120 [AV.agg [vi (Cl.id x), vi (Cl.fr x), vi (Cl.to x), vi (Cl.cur x), vi (Cl.n x), vw (Cl.day x)]] [] = some (AV.c (.pv (.bool false)), []) :=
  cc_path (x := xf120) rfl (bs 3 true ++ [.call (AV.c (.pv (.bool (bankOk (Cl.fr x))))) []] ++ bs 4 true ++ [.call (AV.c (.pv (.bool (bankOk (Cl.to x))))) []] ++ bs 11 true ++ [.call (AV.c (.pv (.bool (curOk (Cl.cur x))))) [], .br true] ++ bs 14 false)
    (c := rq [(3, decide (Cl.id x ≥ 1) = true), (1, cc (ev X E0) 136 [AV.c (vi (Cl.fr x))] [] = some (AV.c (.pv (.bool (bankOk (Cl.fr x)))), [])), (1, decide (Cl.id x ≥ 1) = true), (3, type_of% g2), (1, cc (ev X E0) 136 [AV.c (vi (Cl.to x))] [] = some (AV.c (.pv (.bool (bankOk (Cl.to x)))), [])), ty g2, (6, type_of% g3), (4, (Cl.fr x != Cl.to x) = true), (1, cc (ev X E0) 81 [AV.c (vi (Cl.cur x))] [] = some (AV.c (.pv (.bool (curOk (Cl.cur x)))), [])), (1, (Cl.fr x != Cl.to x) = true), (5, type_of% g5), (9, false = false)]) (by kernel_rfl)
    (aq ⟨(dT g1), (ys136 _), (dT g1), g2, (ys136 _), g2, g3, (bne_iff_ne.mpr g4), (ys81 _), (bne_iff_ne.mpr g4), g5, rfl, trivial⟩)
theorem yg120_5 (x : Cl) (g1 : Cl.id x ≥ 1) (g2 : bankOk (Cl.fr x) = true) (g3 : bankOk (Cl.to x) = true) (g4 : Cl.fr x = Cl.to x) :
    cc (ev X E0) 120 [AV.agg [vi (Cl.id x), vi (Cl.fr x), vi (Cl.to x), vi (Cl.cur x), vi (Cl.n x), vw (Cl.day x)]] [] = some (AV.c (.pv (.bool false)), []) :=
  cc_path (x := xf120) rfl (bs 3 true ++ [.call (AV.c (.pv (.bool (bankOk (Cl.fr x))))) []] ++ bs 4 true ++ [.call (AV.c (.pv (.bool (bankOk (Cl.to x))))) []] ++ bs 7 true ++ bs 19 false)
    (c := rq [(3, decide (Cl.id x ≥ 1) = true), (1, cc (ev X E0) 136 [AV.c (vi (Cl.fr x))] [] = some (AV.c (.pv (.bool (bankOk (Cl.fr x)))), [])), (1, decide (Cl.id x ≥ 1) = true), (3, type_of% g2), (1, cc (ev X E0) 136 [AV.c (vi (Cl.to x))] [] = some (AV.c (.pv (.bool (bankOk (Cl.to x)))), [])), ty g2, (6, type_of% g3), (5, (Cl.fr x != Cl.to x) = false), (14, false = false)]) (by kernel_rfl)
    (aq ⟨(dT g1), (ys136 _), (dT g1), g2, (ys136 _), g2, g3, (bne_f g4), rfl, trivial⟩)
theorem yg120_6 (x : Cl) (g1 : Cl.id x ≥ 1) (g2 : bankOk (Cl.fr x) = true) (g3 : bankOk (Cl.to x) = false) :
    cc (ev X E0) 120 [AV.agg [vi (Cl.id x), vi (Cl.fr x), vi (Cl.to x), vi (Cl.cur x), vi (Cl.n x), vw (Cl.day x)]] [] = some (AV.c (.pv (.bool false)), []) :=
  cc_path (x := xf120) rfl (bs 3 true ++ [.call (AV.c (.pv (.bool (bankOk (Cl.fr x))))) []] ++ bs 4 true ++ [.call (AV.c (.pv (.bool (bankOk (Cl.to x))))) [], .br true] ++ bs 25 false)
    (c := rq [(3, decide (Cl.id x ≥ 1) = true), (1, cc (ev X E0) 136 [AV.c (vi (Cl.fr x))] [] = some (AV.c (.pv (.bool (bankOk (Cl.fr x)))), [])), (1, decide (Cl.id x ≥ 1) = true), (3, type_of% g2), (1, cc (ev X E0) 136 [AV.c (vi (Cl.to x))] [] = some (AV.c (.pv (.bool (bankOk (Cl.to x)))), [])), ty g2, (6, type_of% g3), (19, false = false)]) (by kernel_rfl)
    (aq ⟨(dT g1), (ys136 _), (dT g1), g2, (ys136 _), g2, g3, rfl, trivial⟩)
theorem yg120_7 (x : Cl) (g1 : Cl.id x ≥ 1) (g2 : bankOk (Cl.fr x) = false) :
    cc (ev X E0) 120 [AV.agg [vi (Cl.id x), vi (Cl.fr x), vi (Cl.to x), vi (Cl.cur x), vi (Cl.n x), vw (Cl.day x)]] [] = some (AV.c (.pv (.bool false)), []) :=
  cc_path (x := xf120) rfl (bs 3 true ++ [.call (AV.c (.pv (.bool (bankOk (Cl.fr x))))) [], .br true] ++ bs 29 false)
    (c := rq [(3, decide (Cl.id x ≥ 1) = true), (1, cc (ev X E0) 136 [AV.c (vi (Cl.fr x))] [] = some (AV.c (.pv (.bool (bankOk (Cl.fr x)))), [])), (1, decide (Cl.id x ≥ 1) = true), (4, type_of% g2), (25, false = false)]) (by kernel_rfl)
    (aq ⟨(dT g1), (ys136 _), (dT g1), g2, rfl, trivial⟩)
theorem yg120_8 (x : Cl) (g1 : ¬Cl.id x ≥ 1) :
    cc (ev X E0) 120 [AV.agg [vi (Cl.id x), vi (Cl.fr x), vi (Cl.to x), vi (Cl.cur x), vi (Cl.n x), vw (Cl.day x)]] [] = some (AV.c (.pv (.bool false)), []) :=
  cc_path (x := xf120) rfl (bs 33 false)
    (c := rq [(4, decide (Cl.id x ≥ 1) = false), (29, false = false)]) (by kernel_rfl)
    (aq ⟨(dF g1), rfl, trivial⟩)
def clOk (x : Cl) : Bool := decide (1 ≤ x.id) && bankOk x.fr && bankOk x.to && !(x.fr == x.to) && curOk x.cur && decide (1 ≤ x.n) && decide (x.n ≤ 1000000000000) && datOk x.day
theorem ys120 (x : Cl) : cc (ev X E0) 120 [Cl.av x] [] = some (.b (clOk x), []) := by
  unfold clOk
  by_cases c1 : x.id ≥ 1
  · cases c2 : bankOk x.fr with
    | false => rw [yg120_7 x c1 c2]; simp
    | true =>
      cases c3 : bankOk x.to with
      | false => rw [yg120_6 x c1 c2 c3]; simp
      | true =>
        by_cases c4 : x.fr = x.to
        · rw [yg120_5 x c1 c2 c3 c4]; simp [c4]
        · cases c5 : curOk x.cur with
          | false => rw [yg120_4 x c1 c2 c3 c4 c5]; simp
          | true =>
            by_cases c6 : x.n ≥ 1
            · by_cases c7 : x.n ≤ 1000000000000
              · rw [yg120_1 x c1 c2 c3 c4 c5 c6 c7]
                have e1 : decide (1 ≤ x.id) = true := decide_eq_true c1
                have e2 : decide (1 ≤ x.n) = true := decide_eq_true c6
                have e3 : decide (x.n ≤ 1000000000000) = true := decide_eq_true c7
                have e4 : (x.fr == x.to) = false := by simpa using c4
                rw [e1, e2, e3, e4]; rfl
              · rw [yg120_2 x c1 c2 c3 c4 c5 c6 c7, decide_eq_false c7]; simp
            · rw [yg120_3 x c1 c2 c3 c4 c5 c6, decide_eq_false (by omega : ¬ 1 ≤ x.n)]; simp
  · rw [yg120_8 x c1, decide_eq_false (by omega : ¬ 1 ≤ x.id)]; simp
theorem clOk_inv {x : Cl} (h : clOk x = true) : x.Ok ∧ 0 ≤ x.cur ∧ x.cur < 4 := by
  simp only [clOk, bankOk, curOk, Bool.and_eq_true, decide_eq_true_eq, Bool.not_eq_true', beq_eq_false_iff_ne] at h
  obtain ⟨⟨⟨⟨⟨⟨⟨h1, h2⟩, h3⟩, h4⟩, h5⟩, h6⟩, h7⟩, h8⟩ := h
  exact ⟨⟨h2.1, h2.2, h3.1, h3.2, h4, h6, h7⟩, h5.1, h5.2⟩
abbrev YS80 (l : List Cl) (o : SO) (i : Int) : St := St.mk (tmOf 34 [(0, AV.c (CV.pv (PV.sl o 6 (List.map Cl.pv l)))), (5, AV.c (CV.pv (PV.sl o 6 (List.map Cl.pv l)))), (6, AV.c (CV.pv (PV.int .i64 (↑(List.length (List.map Cl.pv l)) : Int)))), (7, AV.c (CV.pv (PV.int .i64 i)))]) []
theorem yl80_1 (l : List Cl) (o : SO) (i : Nat) (y1 : Cl) (g1 : (↑i : Int) < (↑(List.length (List.map Cl.pv l)) : Int)) (g2 : l[i]? = some y1) (g3 : clOk y1 = false) :
    lv (cv (ev X E0) xf80_l0) (rl [0, 4, 0, 0]) 0 (YS80 l o (↑i : Int)) = some (XExit.ret, St.mk (tmOf 34 [(2, AV.c (.pv (.bool false)))]) [.cells [vi (Cl.id y1), vi (Cl.fr y1), vi (Cl.to y1), vi (Cl.cur y1), vi (Cl.n y1), vw (Cl.day y1)]]) :=
  lv_ret ([.br true, .el (.agg [PV.int .i64 (Cl.id y1), .int .i64 (Cl.fr y1), .int .i64 (Cl.to y1), .int .i64 (Cl.cur y1), .int .i64 (Cl.n y1), .int .i32 (Cl.day y1)]), .call (AV.c (.pv (.bool (clOk y1)))) []] ++ bs 6 true)
    (c := rq [(1, decide ((↑i : Int) < (↑(List.length (List.map Cl.pv l)) : Int)) = true), (1, 0 ≤ (↑i : Int)), (1, (List.map Cl.pv l)[i]? = some (PV.agg [PV.int .i64 (Cl.id y1), .int .i64 (Cl.fr y1), .int .i64 (Cl.to y1), .int .i64 (Cl.cur y1), .int .i64 (Cl.n y1), .int .i32 (Cl.day y1)])), (1, cc (ev X E0) 120 [AV.agg [vi (Cl.id y1), vi (Cl.fr y1), vi (Cl.to y1), vi (Cl.cur y1), vi (Cl.n y1), vw (Cl.day y1)]] [] = some (AV.c (.pv (.bool (clOk y1))), [])), (5, (!clOk y1) = true), (1, true = true)]) (by kernel_rfl)
    (aq ⟨(dT g1), (Int.natCast_nonneg _), (map_at g2), (ys120 _), (not_t g3), rfl, trivial⟩)
theorem yl80_2 (l : List Cl) (o : SO) (i : Nat) (y1 y2 : Cl) (g1 : (↑i : Int) < (↑(List.length (List.map Cl.pv l)) : Int)) (g2 : l[i]? = some y1) (g3 : clOk y1 = true) (g4 : (↑i : Int) > 0) (g5 : 0 ≤ IntKind.wrap .i64 ((↑i : Int) - 1)) (g6 : l[Int.toNat (IntKind.wrap .i64 ((↑i : Int) - 1))]? = some y2) (g7 : Cl.id y2 ≥ Cl.id y1) :
    lv (cv (ev X E0) xf80_l0) (rl [0, 4, 0, 0]) 0 (YS80 l o (↑i : Int)) = some (XExit.ret, St.mk (tmOf 34 [(2, AV.c (.pv (.bool false)))]) [.cells [vi (Cl.id y1), vi (Cl.fr y1), vi (Cl.to y1), vi (Cl.cur y1), vi (Cl.n y1), vw (Cl.day y1)]]) :=
  lv_ret ([.br true, .el (.agg [PV.int .i64 (Cl.id y1), .int .i64 (Cl.fr y1), .int .i64 (Cl.to y1), .int .i64 (Cl.cur y1), .int .i64 (Cl.n y1), .int .i32 (Cl.day y1)]), .call (AV.c (.pv (.bool (clOk y1)))) []] ++ bs 3 false ++ bs 4 true ++ [.el (.agg [PV.int .i64 (Cl.id y2), .int .i64 (Cl.fr y2), .int .i64 (Cl.to y2), .int .i64 (Cl.cur y2), .int .i64 (Cl.n y2), .int .i32 (Cl.day y2)])] ++ bs 5 true ++ [.br false, .br true, .br false, .br true])
    (c := rq [(1, decide ((↑i : Int) < (↑(List.length (List.map Cl.pv l)) : Int)) = true), (1, 0 ≤ (↑i : Int)), (1, (List.map Cl.pv l)[i]? = some (PV.agg [PV.int .i64 (Cl.id y1), .int .i64 (Cl.fr y1), .int .i64 (Cl.to y1), .int .i64 (Cl.cur y1), .int .i64 (Cl.n y1), .int .i32 (Cl.day y1)])), (1, cc (ev X E0) 120 [AV.agg [vi (Cl.id y1), vi (Cl.fr y1), vi (Cl.to y1), vi (Cl.cur y1), vi (Cl.n y1), vw (Cl.day y1)]] [] = some (AV.c (.pv (.bool (clOk y1))), [])), (3, (!clOk y1) = false), (4, decide ((↑i : Int) > 0) = true), ty g5, (1, (List.map Cl.pv l)[Int.toNat (IntKind.wrap .i64 ((↑i : Int) - 1))]? = some (PV.agg [PV.int .i64 (Cl.id y2), .int .i64 (Cl.fr y2), .int .i64 (Cl.to y2), .int .i64 (Cl.cur y2), .int .i64 (Cl.n y2), .int .i32 (Cl.day y2)])), (5, decide ((↑i : Int) > 0) = true), (1, (!clOk y1) = false), (1, decide ((↑i : Int) > 0) = true), (1, (!clOk y1) = false), (1, decide (Cl.id y2 ≥ Cl.id y1) = true)]) (by kernel_rfl)
    (aq ⟨(dT g1), (Int.natCast_nonneg _), (map_at g2), (ys120 _), (not_f g3), (dT g4), g5, (map_at g6), (dT g4), (not_f g3), (dT g4), (not_f g3), (dT g7), trivial⟩)
theorem yl80_3 (l : List Cl) (o : SO) (i : Nat) (y1 y2 : Cl) (g1 : (↑i : Int) < (↑(List.length (List.map Cl.pv l)) : Int)) (g2 : l[i]? = some y1) (g3 : clOk y1 = true) (g4 : (↑i : Int) > 0) (g5 : 0 ≤ IntKind.wrap .i64 ((↑i : Int) - 1)) (g6 : l[Int.toNat (IntKind.wrap .i64 ((↑i : Int) - 1))]? = some y2) (g7 : ¬Cl.id y2 ≥ Cl.id y1) :
    lv (cv (ev X E0) xf80_l0) (rl [0, 4, 0, 0]) 0 (YS80 l o (↑i : Int)) = lv (cv (ev X E0) xf80_l0) (rl [0, 4, 0, 0]) 0 (St.mk (tmOf 34 [(0, AV.c (.pv (.sl o 6 (List.map Cl.pv l)))), (5, AV.c (.pv (.sl o 6 (List.map Cl.pv l)))), (6, AV.c (vi (↑(List.length (List.map Cl.pv l)) : Int))), (7, AV.c (vi (IntKind.wrap .i64 ((↑i : Int) + 1))))]) []) :=
  lv_next ([.br true, .el (.agg [PV.int .i64 (Cl.id y1), .int .i64 (Cl.fr y1), .int .i64 (Cl.to y1), .int .i64 (Cl.cur y1), .int .i64 (Cl.n y1), .int .i32 (Cl.day y1)]), .call (AV.c (.pv (.bool (clOk y1)))) []] ++ bs 3 false ++ bs 4 true ++ [.el (.agg [PV.int .i64 (Cl.id y2), .int .i64 (Cl.fr y2), .int .i64 (Cl.to y2), .int .i64 (Cl.cur y2), .int .i64 (Cl.n y2), .int .i32 (Cl.day y2)])] ++ bs 5 true ++ [.br false, .br true, .br false, .br false])
    (c := rq [(1, decide ((↑i : Int) < (↑(List.length (List.map Cl.pv l)) : Int)) = true), (1, 0 ≤ (↑i : Int)), (1, (List.map Cl.pv l)[i]? = some (PV.agg [PV.int .i64 (Cl.id y1), .int .i64 (Cl.fr y1), .int .i64 (Cl.to y1), .int .i64 (Cl.cur y1), .int .i64 (Cl.n y1), .int .i32 (Cl.day y1)])), (1, cc (ev X E0) 120 [AV.agg [vi (Cl.id y1), vi (Cl.fr y1), vi (Cl.to y1), vi (Cl.cur y1), vi (Cl.n y1), vw (Cl.day y1)]] [] = some (AV.c (.pv (.bool (clOk y1))), [])), (3, (!clOk y1) = false), (4, decide ((↑i : Int) > 0) = true), ty g5, (1, (List.map Cl.pv l)[Int.toNat (IntKind.wrap .i64 ((↑i : Int) - 1))]? = some (PV.agg [PV.int .i64 (Cl.id y2), .int .i64 (Cl.fr y2), .int .i64 (Cl.to y2), .int .i64 (Cl.cur y2), .int .i64 (Cl.n y2), .int .i32 (Cl.day y2)])), (5, decide ((↑i : Int) > 0) = true), (1, (!clOk y1) = false), (1, decide ((↑i : Int) > 0) = true), (1, (!clOk y1) = false), (1, decide (Cl.id y2 ≥ Cl.id y1) = false)]) (by kernel_rfl)
    (aq ⟨(dT g1), (Int.natCast_nonneg _), (map_at g2), (ys120 _), (not_f g3), (dT g4), g5, (map_at g6), (dT g4), (not_f g3), (dT g4), (not_f g3), (dF g7), trivial⟩)
theorem yl80_4 (l : List Cl) (o : SO) (i : Nat) (y1 : Cl) (g1 : (↑i : Int) < (↑(List.length (List.map Cl.pv l)) : Int)) (g2 : l[i]? = some y1) (g3 : clOk y1 = true) (g4 : ¬(↑i : Int) > 0) :
    lv (cv (ev X E0) xf80_l0) (rl [0, 4, 0, 0]) 0 (YS80 l o (↑i : Int)) = lv (cv (ev X E0) xf80_l0) (rl [0, 4, 0, 0]) 0 (St.mk (tmOf 34 [(0, AV.c (.pv (.sl o 6 (List.map Cl.pv l)))), (5, AV.c (.pv (.sl o 6 (List.map Cl.pv l)))), (6, AV.c (vi (↑(List.length (List.map Cl.pv l)) : Int))), (7, AV.c (vi (IntKind.wrap .i64 ((↑i : Int) + 1))))]) []) :=
  lv_next ([.br true, .el (.agg [PV.int .i64 (Cl.id y1), .int .i64 (Cl.fr y1), .int .i64 (Cl.to y1), .int .i64 (Cl.cur y1), .int .i64 (Cl.n y1), .int .i32 (Cl.day y1)]), .call (AV.c (.pv (.bool (clOk y1)))) []] ++ bs 16 false)
    (c := rq [(1, decide ((↑i : Int) < (↑(List.length (List.map Cl.pv l)) : Int)) = true), (1, 0 ≤ (↑i : Int)), (1, (List.map Cl.pv l)[i]? = some (PV.agg [PV.int .i64 (Cl.id y1), .int .i64 (Cl.fr y1), .int .i64 (Cl.to y1), .int .i64 (Cl.cur y1), .int .i64 (Cl.n y1), .int .i32 (Cl.day y1)])), (1, cc (ev X E0) 120 [AV.agg [vi (Cl.id y1), vi (Cl.fr y1), vi (Cl.to y1), vi (Cl.cur y1), vi (Cl.n y1), vw (Cl.day y1)]] [] = some (AV.c (.pv (.bool (clOk y1))), [])), (3, (!clOk y1) = false), (9, decide ((↑i : Int) > 0) = false), (1, (!clOk y1) = false), (1, decide ((↑i : Int) > 0) = false), (1, (!clOk y1) = false), (1, false = false)]) (by kernel_rfl)
    (aq ⟨(dT g1), (Int.natCast_nonneg _), (map_at g2), (ys120 _), (not_f g3), (dF g4), (not_f g3), (dF g4), (not_f g3), rfl, trivial⟩)
theorem yl80_5 (l : List Cl) (o : SO) (i : Nat) (g1 : ¬(↑i : Int) < (↑(List.length (List.map Cl.pv l)) : Int)) :
    lv (cv (ev X E0) xf80_l0) (rl [0, 4, 0, 0]) 0 (YS80 l o (↑i : Int)) = some (XExit.exit 0, St.mk (tmOf 34 [(0, AV.c (.pv (.sl o 6 (List.map Cl.pv l))))]) []) :=
  lv_exit [.br false]
    (c := [decide ((↑i : Int) < (↑(List.length (List.map Cl.pv l)) : Int)) = false]) (by kernel_rfl)
    ⟨(dF g1), trivial⟩
theorem yg80_1 (l : List Cl) (o : SO) (h : lv (cv (ev X E0) xf80_l0) (rl [0, 4, 0, 0]) 0 (YS80 l o 0) = some (XExit.exit 0, St.mk (tmOf 34 [(0, AV.c (.pv (.sl o 6 (List.map Cl.pv l))))]) [])) :
    cc (ev X E0) 80 [AV.c (.pv (.sl o 6 (List.map Cl.pv l)))] [] = some (AV.c (.pv (.bool (decide ((↑(List.length (List.map Cl.pv l)) : Int) ≤ 300)))), []) :=
  cc_path (x := xf80) rfl [.loop (XExit.exit 0) (St.mk (tmOf 34 [(0, AV.c (.pv (.sl o 6 (List.map Cl.pv l))))]) [])]
    (c := rq [ty h]) (by kernel_rfl)
    (aq ⟨h, trivial⟩)
theorem yg80r_1 (l : List Cl) (o : SO) (b : Bool) (x : Cl) (h : lv (cv (ev X E0) xf80_l0) (rl [0, 4, 0, 0]) 0 (YS80 l o 0) = some (XExit.ret, St.mk (tmOf 34 [(2, AV.c (.pv (.bool b)))]) [.cells (Cl.cs x)])) :
    cc (ev X E0) 80 [AV.c (.pv (.sl o 6 (List.map Cl.pv l)))] [] = some (AV.c (.pv (.bool b)), []) :=
  cc_path (x := xf80) rfl [.loop XExit.ret (St.mk (tmOf 34 [(2, AV.c (.pv (.bool b)))]) [.cells [vi (Cl.id x), vi (Cl.fr x), vi (Cl.to x), vi (Cl.cur x), vi (Cl.n x), vw (Cl.day x)]])]
    (c := rq [ty h]) (by kernel_rfl)
    (aq ⟨h, trivial⟩)
theorem yg33_1 (l : List Cl) (o : SO) (cur day : Int) (b : Bool) (h : cc (ev X E0) 80 [AV.sl o 6 (List.map Cl.pv l)] [] = some (AV.b b, [])) (g1 : b = false) :
    cc (ev X E0) 33 [AV.c (.pv (.sl o 6 (List.map Cl.pv l))), AV.c (vi cur), AV.c (vw day)] [] = some (AV.c (vi 1), []) :=
  cc_path (x := xf33) rfl [.call (AV.c (.pv (.bool b))) [], .br true]
    (c := rq [ty h, (1, (!b) = true)]) (by kernel_rfl)
    (aq ⟨h, (not_t g1), trivial⟩)
theorem yg33_2 (l : List Cl) (o : SO) (cur day : Int) (b : Bool) (h : cc (ev X E0) 80 [AV.sl o 6 (List.map Cl.pv l)] [] = some (AV.b b, [])) (g1 : b = true) (g2 : curOk cur = false) :
    cc (ev X E0) 33 [AV.c (.pv (.sl o 6 (List.map Cl.pv l))), AV.c (vi cur), AV.c (vw day)] [] = some (AV.c (vi 12), []) :=
  cc_path (x := xf33) rfl [.call (AV.c (.pv (.bool b))) [], .br false, .call (AV.c (.pv (.bool (curOk cur)))) [], .br true]
    (c := rq [ty h, (1, (!b) = false), (1, cc (ev X E0) 81 [AV.c (vi cur)] [] = some (AV.c (.pv (.bool (curOk cur))), [])), (1, (!curOk cur) = true)]) (by kernel_rfl)
    (aq ⟨h, (not_f g1), (ys81 _), (not_t g2), trivial⟩)
theorem yg33_3 (l : List Cl) (o : SO) (cur day : Int) (b : Bool) (h : cc (ev X E0) 80 [AV.sl o 6 (List.map Cl.pv l)] [] = some (AV.b b, [])) (g1 : b = true) (g2 : curOk cur = true) (g3 : datOk day = false) :
    cc (ev X E0) 33 [AV.c (.pv (.sl o 6 (List.map Cl.pv l))), AV.c (vi cur), AV.c (vw day)] [] = some (AV.c (vi 11), []) :=
  cc_path (x := xf33) rfl [.call (AV.c (.pv (.bool b))) [], .br false, .call (AV.c (.pv (.bool (curOk cur)))) [], .br false, .call (AV.c (.pv (.bool (datOk day)))) [], .br true]
    (c := rq [ty h, (1, (!b) = false), (1, cc (ev X E0) 81 [AV.c (vi cur)] [] = some (AV.c (.pv (.bool (curOk cur))), [])), (1, (!curOk cur) = false), (1, cc (ev X E0) 53 [AV.c (vw day)] [] = some (AV.c (.pv (.bool (datOk day))), [])), (1, (!datOk day) = true)]) (by kernel_rfl)
    (aq ⟨h, (not_f g1), (ys81 _), (not_f g2), (s77 _), (not_t g3), trivial⟩)
theorem yg33_4 (l : List Cl) (o : SO) (cur day : Int) (b : Bool) (h : cc (ev X E0) 80 [AV.sl o 6 (List.map Cl.pv l)] [] = some (AV.b b, [])) (g1 : b = true) (g2 : curOk cur = true) (g3 : datOk day = true) :
    cc (ev X E0) 33 [AV.c (.pv (.sl o 6 (List.map Cl.pv l))), AV.c (vi cur), AV.c (vw day)] [] = some (AV.c (vi 0), []) :=
  cc_path (x := xf33) rfl [.call (AV.c (.pv (.bool b))) [], .br false, .call (AV.c (.pv (.bool (curOk cur)))) [], .br false, .call (AV.c (.pv (.bool (datOk day)))) [], .br false]
    (c := rq [ty h, (1, (!b) = false), (1, cc (ev X E0) 81 [AV.c (vi cur)] [] = some (AV.c (.pv (.bool (curOk cur))), [])), (1, (!curOk cur) = false), (1, cc (ev X E0) 53 [AV.c (vw day)] [] = some (AV.c (.pv (.bool (datOk day))), [])), (1, (!datOk day) = false)]) (by kernel_rfl)
    (aq ⟨h, (not_f g1), (ys81 _), (not_f g2), (s77 _), (not_f g3), trivial⟩)
abbrev i64P (n : Int) : PV := PV.int .i64 n
abbrev n0 : List Int := [0, 0, 0, 0, 0, 0, 0, 0, 0, 0, 0, 0, 0, 0, 0, 0]
abbrev netR (net : List Int) : Box := Box.row 1 (List.map i64P net)
abbrev YS34 (l : List Cl) (o : SO) (cur day : Int) (net : List Int) (i : Int) : St := St.mk (tmOf 50 [(1, AV.c (CV.pv (PV.int .i64 cur))), (2, AV.c (CV.pv (PV.int .i32 day))), (7, AV.c (CV.ms 0 0 1 16)), (11, AV.c (CV.pv (PV.sl o 6 (List.map Cl.pv l)))), (12, AV.c (CV.pv (PV.int .i64 (↑(List.length (List.map Cl.pv l)) : Int)))), (13, AV.c (CV.pv (PV.int .i64 i)))]) [netR net]
abbrev yl34_hb (net : List Int) (x : Cl) (a b : Int) : Prop := (List.set (List.map i64P net) (Int.toNat (Cl.fr x)) (rowOf 1 [PV.int .i64 (IntKind.wrap .i64 (a - Cl.n x))]))[Int.toNat (Cl.to x)]? = some (PV.int .i64 b)
theorem yl34_1 (l : List Cl) (o : SO) (cur day : Int) (net : List Int) (i : Nat) (x : Cl) (a b : Int) (hx : l[i]? = some x) (ha : net[Int.toNat (Cl.fr x)]? = some a) (hb : yl34_hb net x a b) (g1 : (↑i : Int) < (↑(List.length (List.map Cl.pv l)) : Int)) (g2 : Cl.cur x = cur) (g3 : Cl.day x = day) (g4 : 0 ≤ Cl.fr x) (g5 : Cl.fr x < 16) (g6 : 0 ≤ Cl.to x) (g7 : Cl.to x < 16) :
    lv (cv (ev X E0) xf34_l0) (rl [1, 0, 4, 3, 0, 0]) 1 (YS34 l o cur day net (↑i : Int)) = lv (cv (ev X E0) xf34_l0) (rl [1, 0, 4, 3, 0, 0]) 1 (St.mk (tmOf 50 [(1, AV.c (vi cur)), (2, AV.c (vw day)), (7, AV.c (.ms 0 0 1 16)), (11, AV.c (.pv (.sl o 6 (List.map Cl.pv l)))), (12, AV.c (vi (↑(List.length (List.map Cl.pv l)) : Int))), (13, AV.c (vi (IntKind.wrap .i64 ((↑i : Int) + 1))))]) [.row 1 (List.set (List.set (List.map i64P net) (Int.toNat (Cl.fr x)) (rowOf 1 [PV.int .i64 (IntKind.wrap .i64 (a - Cl.n x))])) (Int.toNat (Cl.to x)) (rowOf 1 [PV.int .i64 (IntKind.wrap .i64 (b + Cl.n x))]))]) :=
  lv_next ([.br true, .el (.agg [PV.int .i64 (Cl.id x), .int .i64 (Cl.fr x), .int .i64 (Cl.to x), .int .i64 (Cl.cur x), .int .i64 (Cl.n x), .int .i32 (Cl.day x)])] ++ bs 6 true ++ [.at (Int.toNat (Cl.fr x)) 0 (.int .i64 a), .at (Int.toNat (Cl.fr x)) 0 (.int .i64 a), .at (Int.toNat (Cl.to x)) 0 (.int .i64 b), .at (Int.toNat (Cl.to x)) 0 (.int .i64 b)])
    (c := rq [(1, decide ((↑i : Int) < (↑(List.length (List.map Cl.pv l)) : Int)) = true), (1, 0 ≤ (↑i : Int)), (1, (List.map Cl.pv l)[i]? = some (PV.agg [PV.int .i64 (Cl.id x), .int .i64 (Cl.fr x), .int .i64 (Cl.to x), .int .i64 (Cl.cur x), .int .i64 (Cl.n x), .int .i32 (Cl.day x)])), (5, (Cl.cur x == cur) = true), (1, (Cl.day x == day) = true), (1, 0 ≤ Cl.fr x), (1, Cl.fr x < 16), (1, 0 + Int.toNat (Cl.fr x) * 1 = Int.toNat (Cl.fr x) * 1 + 0), (1, (List.map i64P net)[Int.toNat (Cl.fr x)]? = some (PV.int .i64 a)), (1, 0 ≤ Cl.fr x), (1, Cl.fr x < 16), (1, 0 + Int.toNat (Cl.fr x) * 1 = Int.toNat (Cl.fr x) * 1 + 0), (1, (List.map i64P net)[Int.toNat (Cl.fr x)]? = some (PV.int .i64 a)), (1, 0 ≤ Cl.to x), (1, Cl.to x < 16), (1, 0 + Int.toNat (Cl.to x) * 1 = Int.toNat (Cl.to x) * 1 + 0), ty hb, (1, 0 ≤ Cl.to x), (1, Cl.to x < 16), (1, 0 + Int.toNat (Cl.to x) * 1 = Int.toNat (Cl.to x) * 1 + 0), ty hb]) (by kernel_rfl)
    (aq ⟨(dT g1), (Int.natCast_nonneg _), (map_at hx), (beq_iff_eq.mpr g2), (beq_iff_eq.mpr g3), g4, g5, (by omega), (map_at ha), g4, g5, (by omega), (map_at ha), g6, g7, (by omega), hb, g6, g7, (by omega), hb, trivial⟩)
theorem yl34_2 (l : List Cl) (o : SO) (cur day : Int) (net : List Int) (i : Nat) (x : Cl) (a b : Int) (hx : l[i]? = some x) (_ha : net[Int.toNat (Cl.fr x)]? = some a) (_hb : yl34_hb net x a b) (g1 : (↑i : Int) < (↑(List.length (List.map Cl.pv l)) : Int)) (g2 : Cl.cur x = cur) (g3 : ¬Cl.day x = day) :
    lv (cv (ev X E0) xf34_l0) (rl [1, 0, 4, 3, 0, 0]) 1 (YS34 l o cur day net (↑i : Int)) = lv (cv (ev X E0) xf34_l0) (rl [1, 0, 4, 3, 0, 0]) 1 (St.mk (tmOf 50 [(1, AV.c (vi cur)), (2, AV.c (vw day)), (7, AV.c (.ms 0 0 1 16)), (11, AV.c (.pv (.sl o 6 (List.map Cl.pv l)))), (12, AV.c (vi (↑(List.length (List.map Cl.pv l)) : Int))), (13, AV.c (vi (IntKind.wrap .i64 ((↑i : Int) + 1))))]) [.row 1 (List.map i64P net)]) :=
  lv_next ([.br true, .el (.agg [PV.int .i64 (Cl.id x), .int .i64 (Cl.fr x), .int .i64 (Cl.to x), .int .i64 (Cl.cur x), .int .i64 (Cl.n x), .int .i32 (Cl.day x)])] ++ bs 5 true ++ [.br false])
    (c := rq [(1, decide ((↑i : Int) < (↑(List.length (List.map Cl.pv l)) : Int)) = true), (1, 0 ≤ (↑i : Int)), (1, (List.map Cl.pv l)[i]? = some (PV.agg [PV.int .i64 (Cl.id x), .int .i64 (Cl.fr x), .int .i64 (Cl.to x), .int .i64 (Cl.cur x), .int .i64 (Cl.n x), .int .i32 (Cl.day x)])), (5, (Cl.cur x == cur) = true), (1, (Cl.day x == day) = false)]) (by kernel_rfl)
    (aq ⟨(dT g1), (Int.natCast_nonneg _), (map_at hx), (beq_iff_eq.mpr g2), (beq_eq_false_iff_ne.mpr g3), trivial⟩)
theorem yl34_3 (l : List Cl) (o : SO) (cur day : Int) (net : List Int) (i : Nat) (x : Cl) (a b : Int) (hx : l[i]? = some x) (_ha : net[Int.toNat (Cl.fr x)]? = some a) (_hb : yl34_hb net x a b) (g1 : (↑i : Int) < (↑(List.length (List.map Cl.pv l)) : Int)) (g2 : ¬Cl.cur x = cur) :
    lv (cv (ev X E0) xf34_l0) (rl [1, 0, 4, 3, 0, 0]) 1 (YS34 l o cur day net (↑i : Int)) = lv (cv (ev X E0) xf34_l0) (rl [1, 0, 4, 3, 0, 0]) 1 (St.mk (tmOf 50 [(1, AV.c (vi cur)), (2, AV.c (vw day)), (7, AV.c (.ms 0 0 1 16)), (11, AV.c (.pv (.sl o 6 (List.map Cl.pv l)))), (12, AV.c (vi (↑(List.length (List.map Cl.pv l)) : Int))), (13, AV.c (vi (IntKind.wrap .i64 ((↑i : Int) + 1))))]) [.row 1 (List.map i64P net)]) :=
  lv_next ([.br true, .el (.agg [PV.int .i64 (Cl.id x), .int .i64 (Cl.fr x), .int .i64 (Cl.to x), .int .i64 (Cl.cur x), .int .i64 (Cl.n x), .int .i32 (Cl.day x)])] ++ bs 6 false)
    (c := rq [(1, decide ((↑i : Int) < (↑(List.length (List.map Cl.pv l)) : Int)) = true), (1, 0 ≤ (↑i : Int)), (1, (List.map Cl.pv l)[i]? = some (PV.agg [PV.int .i64 (Cl.id x), .int .i64 (Cl.fr x), .int .i64 (Cl.to x), .int .i64 (Cl.cur x), .int .i64 (Cl.n x), .int .i32 (Cl.day x)])), (5, (Cl.cur x == cur) = false), (1, false = false)]) (by kernel_rfl)
    (aq ⟨(dT g1), (Int.natCast_nonneg _), (map_at hx), (beq_eq_false_iff_ne.mpr g2), rfl, trivial⟩)
theorem yl34x_1 (l : List Cl) (o : SO) (cur day : Int) (net : List Int) (i : Nat) (hn : ¬(↑i : Int) < (↑(List.length (List.map Cl.pv l)) : Int)) :
    lv (cv (ev X E0) xf34_l0) (rl [1, 0, 4, 3, 0, 0]) 1 (YS34 l o cur day net (↑i : Int)) = some (XExit.exit 0, St.mk (tmOf 50 [(7, AV.c (.ms 0 0 1 16))]) [.row 1 (List.map i64P net)]) :=
  lv_exit [.br false]
    (c := [decide ((↑i : Int) < (↑(List.length (List.map Cl.pv l)) : Int)) = false]) (by kernel_rfl)
    ⟨(dF hn), trivial⟩
theorem yg34_1 (l : List Cl) (o : SO) (cur day : Int) (net : List Int) (h : lv (cv (ev X E0) xf34_l0) (rl [1, 0, 4, 3, 0, 0]) 1 (YS34 l o cur day n0 0) = some (XExit.exit 0, St.mk (tmOf 50 [(7, AV.c (.ms 0 0 1 16))]) [netR net])) (y1 : List PV) (g1 : frzE (some (Box.row 1 (List.map i64P net))) 1 0 16 = some y1) :
    cc (ev X E0) 34 [AV.c (.pv (.sl o 6 (List.map Cl.pv l))), AV.c (vi cur), AV.c (vw day)] [] = some (AV.c (.pv (.sl SO.shut 1 y1)), []) :=
  cc_path (x := xf34) rfl [.loop (XExit.exit 0) (St.mk (tmOf 50 [(7, AV.c (.ms 0 0 1 16))]) [.row 1 (List.map i64P net)]), .els y1]
    (c := rq [ty h, ty g1]) (by kernel_rfl)
    (aq ⟨h, g1, trivial⟩)
end Go.Sx.Tryd
