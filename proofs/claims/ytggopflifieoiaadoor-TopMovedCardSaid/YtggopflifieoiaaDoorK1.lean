/- Postings as data, and what tells of them alone. -/
import Derived.Test.YtggopflifieoiaaDoorB1
import Derived.Test.YtggopflifieoiaaDoorSxLem
namespace Go.Sx.Tryd
open Go Go.Sx
structure Leg where
  acc : Int
  cur : Int
  minor : Int
abbrev Leg.pv (x : Leg) : PV := .agg [.int .i64 x.acc, .int .i64 x.cur, .int .i64 x.minor]
abbrev Leg.av (x : Leg) : AV := .agg [.pv (.int .i64 x.acc), .pv (.int .i64 x.cur), .pv (.int .i64 x.minor)]
structure Post where
  id : Int
  known : Int
  value : Int
  so : SO
  legs : List Leg
  rev : Int
  kind : Int
  memo : List UInt8
abbrev Leg.cs (x : Leg) : List CV := [.pv (.int .i64 x.acc), .pv (.int .i64 x.cur), .pv (.int .i64 x.minor)]
abbrev Post.cs (p : Post) : List CV := [.pv (.int .i64 p.id), .pv (.int .i32 p.known), .pv (.int .i32 p.value), .pv (.sl p.so 3 (p.legs.map Leg.pv)), .pv (.int .i64 p.rev), .pv (.int .i64 p.kind), .pv (.str p.memo)]
abbrev Post.pv (p : Post) : PV := .agg [.int .i64 p.id, .int .i32 p.known, .int .i32 p.value, .sl p.so 3 (p.legs.map Leg.pv), .int .i64 p.rev, .int .i64 p.kind, .str p.memo]
abbrev Post.av (p : Post) : AV := .agg [.pv (.int .i64 p.id), .pv (.int .i32 p.known), .pv (.int .i32 p.value), .pv (.sl p.so 3 (p.legs.map Leg.pv)), .pv (.int .i64 p.rev), .pv (.int .i64 p.kind), .pv (.str p.memo)]
theorem f77_1 (d : Int) (g1 : d ≥ -50000) :
    cc (ev X E0) 53 [AV.c (vw d)] [] = some (AV.c (.pv (.bool (decide (d ≤ 50000)))), []) :=
  cc_path (x := xf53) rfl (bs 3 true)
    (c := rq [(3, decide (d ≥ -50000) = true)]) (by kernel_rfl)
    (aq ⟨(dT g1), trivial⟩)
theorem f77_2 (d : Int) (g1 : ¬d ≥ -50000) :
    cc (ev X E0) 53 [AV.c (vw d)] [] = some (AV.c (.pv (.bool false)), []) :=
  cc_path (x := xf53) rfl (bs 3 false)
    (c := rq [(3, decide (d ≥ -50000) = false)]) (by kernel_rfl)
    (aq ⟨(dF g1), trivial⟩)
theorem f130_1 (d : Int) (g1 : d ≥ 0) :
    cc (ev X E0) 74 [AV.c (vi d)] [] = some (AV.c (.pv (.bool (decide (d < 4)))), []) :=
  cc_path (x := xf74) rfl (bs 3 true)
    (c := rq [(3, decide (d ≥ 0) = true)]) (by kernel_rfl)
    (aq ⟨(dT g1), trivial⟩)
theorem f130_2 (d : Int) (g1 : ¬d ≥ 0) :
    cc (ev X E0) 74 [AV.c (vi d)] [] = some (AV.c (.pv (.bool false)), []) :=
  cc_path (x := xf74) rfl (bs 3 false)
    (c := rq [(3, decide (d ≥ 0) = false)]) (by kernel_rfl)
    (aq ⟨(dF g1), trivial⟩)
def datOk (d : Int) : Bool := decide (-50000 ≤ d ∧ d ≤ 50000)
theorem s77 (d : Int) : cc (ev X E0) 53 [AV.int .i32 d] [] = some (.b (datOk d), []) := by
  by_cases h : d ≥ -50000
  · rw [f77_1 d h, datOk]; congr 4; simp; omega
  · rw [f77_2 d h, datOk]; congr 4; simp; omega
def fits (p : Post) : Bool := decide (p.legs.length ≤ 40 ∧ p.memo.length ≤ 400)
def curOk (c : Int) : Bool := decide (0 ≤ c ∧ c < 4)
theorem s130 (d : Int) : cc (ev X E0) 74 [AV.i d] [] = some (.b (curOk d), []) := by
  by_cases h : d ≥ 0
  · rw [f130_1 d h, curOk]; congr 4; simp; omega
  · rw [f130_2 d h, curOk]; congr 4; simp; omega
theorem f82_1 (c m : Int) (g1 : curOk c = true) (g2 : m ≥ -1000000000000000) :
    cc (ev X E0) 30 [AV.agg [vi c, vi m]] [] = some (AV.c (.pv (.bool (decide (m ≤ 1000000000000000)))), []) :=
  cc_path (x := xf30) rfl ([.call (AV.c (.pv (.bool (curOk c)))) []] ++ bs 8 true)
    (c := rq [(1, cc (ev X E0) 74 [AV.c (vi c)] [] = some (AV.c (.pv (.bool (curOk c))), [])), (4, curOk c = true), (4, decide (m ≥ -1000000000000000) = true)]) (by kernel_rfl)
    (aq ⟨(s130 _), g1, (dT g2), trivial⟩)
theorem f82_2 (c m : Int) (g1 : curOk c = true) (g2 : ¬m ≥ -1000000000000000) :
    cc (ev X E0) 30 [AV.agg [vi c, vi m]] [] = some (AV.c (.pv (.bool false)), []) :=
  cc_path (x := xf30) rfl ([.call (AV.c (.pv (.bool (curOk c)))) []] ++ bs 4 true ++ bs 4 false)
    (c := rq [(1, cc (ev X E0) 74 [AV.c (vi c)] [] = some (AV.c (.pv (.bool (curOk c))), [])), (4, curOk c = true), (4, decide (m ≥ -1000000000000000) = false)]) (by kernel_rfl)
    (aq ⟨(s130 _), g1, (dF g2), trivial⟩)
theorem f82_3 (c m : Int) (g1 : curOk c = false) :
    cc (ev X E0) 30 [AV.agg [vi c, vi m]] [] = some (AV.c (.pv (.bool false)), []) :=
  cc_path (x := xf30) rfl ([.call (AV.c (.pv (.bool (curOk c)))) []] ++ bs 8 false)
    (c := rq [(1, cc (ev X E0) 74 [AV.c (vi c)] [] = some (AV.c (.pv (.bool (curOk c))), [])), (4, curOk c = false), (4, false = false)]) (by kernel_rfl)
    (aq ⟨(s130 _), g1, rfl, trivial⟩)
end Go.Sx.Tryd
/- What is wrong with a posting. -/
namespace Go.Sx.Tryd
open Go Go.Sx
def minOk (m : Int) : Bool := decide (-1000000000000000 ≤ m ∧ m ≤ 1000000000000000)
theorem s82 (c m : Int) : cc (ev X E0) 30 [AV.agg [.pv (.int .i64 c), .pv (.int .i64 m)]] [] = some (.b (curOk c && minOk m), []) := by
  cases hc : curOk c with
  | false => rw [f82_3 c m hc, Bool.false_and]
  | true =>
    by_cases h : m ≥ -1000000000000000
    · rw [f82_1 c m hc h, minOk, Bool.true_and]; congr 5; rw [Bool.eq_iff_iff, decide_eq_true_eq, decide_eq_true_eq]; omega
    · rw [f82_2 c m hc h, minOk, decide_eq_false (by omega), Bool.true_and]
end Go.Sx.Tryd
/- Calendars: paths. -/
namespace Go.Sx.Tryd
open Go Go.Sx
structure Hol where
  known : Int
  day : Int
  open' : Bool
abbrev Hol.pv (x : Hol) : PV := .agg [.int .i32 x.known, .int .i32 x.day, .bool x.open']
abbrev Hol.cs (x : Hol) : List CV := [.pv (.int .i32 x.known), .pv (.int .i32 x.day), .pv (.bool x.open')]
abbrev keyH (x : Hol) : PV := .agg [.int .i32 x.known, .int .i32 x.day]
abbrev QS19 (l : List Hol) (o : SO) (kv : List (PV × PV)) (i : Int) : St := St.mk (tmOf 47 [(0, AV.c (CV.pv (PV.sl o 3 (List.map Hol.pv l)))), (3, AV.c (CV.mp 0)), (7, AV.c (CV.pv (PV.sl o 3 (List.map Hol.pv l)))), (8, AV.c (CV.pv (PV.int .i64 (↑(List.length (List.map Hol.pv l)) : Int)))), (9, AV.c (CV.pv (PV.int .i64 i)))]) [Box.map kv]
abbrev ql19n_g1 (kv : List (PV × PV)) (x : Hol) (y1 : List (PV × PV)) : Prop := 0 ≤ (↑(List.length kv) : Int) ∧ List.length kv < List.length (kv ++ [(.agg [PV.int .i32 (Hol.known x), .int .i32 (Hol.day x)], .int .i64 0)]) ∧ mapSet (kv ++ [(.agg [PV.int .i32 (Hol.known x), .int .i32 (Hol.day x)], .int .i64 0)]) (List.length kv) (.int .i64 1) = y1
theorem ql19n_5 (l : List Hol) (o : SO) (kv : List (PV × PV)) (i : Nat) (x : Hol) (hx : l[i]? = some x) (hi : (↑i : Int) < (↑(List.length (List.map Hol.pv l)) : Int)) (hg : mapGet kv (.agg [PV.int .i32 (Hol.known x), .int .i32 (Hol.day x)]) = some none) (hp : mapPos kv (.agg [PV.int .i32 (Hol.known x), .int .i32 (Hol.day x)]) 0 = some none) (y1 : List (PV × PV)) (y2 : Int) (g1 : ql19n_g1 kv x y1) (g2 : mapGet y1 (.agg [PV.int .i32 (Hol.known x), .int .i32 (Hol.day x)]) = some (some (PV.int .i64 y2))) (g3 : ¬y2 > 1) (g4 : datOk (Hol.known x) = false) :
    lv (cv (ev X E0) xf19_l0) (rl [0, 2, 3, 0, 0]) 1 (QS19 l o kv (↑i : Int)) = some (XExit.ret, St.mk (tmOf 47 [(2, AV.c (.pv (.bool false)))]) [.map y1, .cells [vw (Hol.known x), vw (Hol.day x), .pv (.bool (Hol.open' x))]]) :=
  lv_ret ([.br true, .el (.agg [PV.int .i32 (Hol.known x), .int .i32 (Hol.day x), .bool (Hol.open' x)]), .opt none, .opt none, .kv y1, .opt (some (PV.int .i64 y2))] ++ bs 3 false ++ [.call (AV.c (.pv (.bool (datOk (Hol.known x))))) [], .br false, .br false] ++ bs 6 true)
    (c := rq [(1, decide ((↑i : Int) < (↑(List.length (List.map Hol.pv l)) : Int)) = true), (1, 0 ≤ (↑i : Int)), (1, (List.map Hol.pv l)[i]? = some (PV.agg [PV.int .i32 (Hol.known x), .int .i32 (Hol.day x), .bool (Hol.open' x)])), ty hg, ty hp, ty g1, ty g2, (3, decide (y2 > 1) = false), (1, cc (ev X E0) 53 [AV.c (vw (Hol.known x))] [] = some (AV.c (.pv (.bool (datOk (Hol.known x)))), [])), (2, decide (y2 > 1) = false), (5, (!datOk (Hol.known x)) = true), (1, true = true)]) (by kernel_rfl)
    (aq ⟨(dT hi), (Int.natCast_nonneg _), (map_at hx), hg, hp, g1, g2, (dF g3), (s77 _), (dF g3), (not_t g4), rfl, trivial⟩)
theorem ql19n_6 (l : List Hol) (o : SO) (kv : List (PV × PV)) (i : Nat) (x : Hol) (hx : l[i]? = some x) (hi : (↑i : Int) < (↑(List.length (List.map Hol.pv l)) : Int)) (hg : mapGet kv (.agg [PV.int .i32 (Hol.known x), .int .i32 (Hol.day x)]) = some none) (hp : mapPos kv (.agg [PV.int .i32 (Hol.known x), .int .i32 (Hol.day x)]) 0 = some none) (y1 : List (PV × PV)) (y2 : Int) (g1 : ql19n_g1 kv x y1) (g2 : mapGet y1 (.agg [PV.int .i32 (Hol.known x), .int .i32 (Hol.day x)]) = some (some (PV.int .i64 y2))) (g3 : ¬y2 > 1) (g4 : datOk (Hol.known x) = true) (g5 : datOk (Hol.day x) = false) :
    lv (cv (ev X E0) xf19_l0) (rl [0, 2, 3, 0, 0]) 1 (QS19 l o kv (↑i : Int)) = some (XExit.ret, St.mk (tmOf 47 [(2, AV.c (.pv (.bool false)))]) [.map y1, .cells [vw (Hol.known x), vw (Hol.day x), .pv (.bool (Hol.open' x))]]) :=
  lv_ret ([.br true, .el (.agg [PV.int .i32 (Hol.known x), .int .i32 (Hol.day x), .bool (Hol.open' x)]), .opt none, .opt none, .kv y1, .opt (some (PV.int .i64 y2))] ++ bs 3 false ++ [.call (AV.c (.pv (.bool (datOk (Hol.known x))))) []] ++ bs 5 false ++ [.call (AV.c (.pv (.bool (datOk (Hol.day x))))) [], .br false, .br false, .br true])
    (c := rq [(1, decide ((↑i : Int) < (↑(List.length (List.map Hol.pv l)) : Int)) = true), (1, 0 ≤ (↑i : Int)), (1, (List.map Hol.pv l)[i]? = some (PV.agg [PV.int .i32 (Hol.known x), .int .i32 (Hol.day x), .bool (Hol.open' x)])), ty hg, ty hp, ty g1, ty g2, (3, decide (y2 > 1) = false), (1, cc (ev X E0) 53 [AV.c (vw (Hol.known x))] [] = some (AV.c (.pv (.bool (datOk (Hol.known x)))), [])), (2, decide (y2 > 1) = false), (3, (!datOk (Hol.known x)) = false), (1, cc (ev X E0) 53 [AV.c (vw (Hol.day x))] [] = some (AV.c (.pv (.bool (datOk (Hol.day x)))), [])), (2, (!datOk (Hol.known x)) = false), (1, (!datOk (Hol.day x)) = true)]) (by kernel_rfl)
    (aq ⟨(dT hi), (Int.natCast_nonneg _), (map_at hx), hg, hp, g1, g2, (dF g3), (s77 _), (dF g3), (not_f g4), (s77 _), (not_f g4), (not_t g5), trivial⟩)
theorem ql19n_7 (l : List Hol) (o : SO) (kv : List (PV × PV)) (i : Nat) (x : Hol) (hx : l[i]? = some x) (hi : (↑i : Int) < (↑(List.length (List.map Hol.pv l)) : Int)) (hg : mapGet kv (.agg [PV.int .i32 (Hol.known x), .int .i32 (Hol.day x)]) = some none) (hp : mapPos kv (.agg [PV.int .i32 (Hol.known x), .int .i32 (Hol.day x)]) 0 = some none) (y1 : List (PV × PV)) (y2 : Int) (g1 : ql19n_g1 kv x y1) (g2 : mapGet y1 (.agg [PV.int .i32 (Hol.known x), .int .i32 (Hol.day x)]) = some (some (PV.int .i64 y2))) (g3 : ¬y2 > 1) (g4 : datOk (Hol.known x) = true) (g5 : datOk (Hol.day x) = true) :
    lv (cv (ev X E0) xf19_l0) (rl [0, 2, 3, 0, 0]) 1 (QS19 l o kv (↑i : Int)) = lv (cv (ev X E0) xf19_l0) (rl [0, 2, 3, 0, 0]) 1 (St.mk (tmOf 47 [(0, AV.c (.pv (.sl o 3 (List.map Hol.pv l)))), (3, AV.c (.mp 0)), (7, AV.c (.pv (.sl o 3 (List.map Hol.pv l)))), (8, AV.c (vi (↑(List.length (List.map Hol.pv l)) : Int))), (9, AV.c (vi (IntKind.wrap .i64 ((↑i : Int) + 1))))]) [.map y1]) :=
  lv_next ([.br true, .el (.agg [PV.int .i32 (Hol.known x), .int .i32 (Hol.day x), .bool (Hol.open' x)]), .opt none, .opt none, .kv y1, .opt (some (PV.int .i64 y2))] ++ bs 3 false ++ [.call (AV.c (.pv (.bool (datOk (Hol.known x))))) []] ++ bs 5 false ++ [.call (AV.c (.pv (.bool (datOk (Hol.day x))))) []] ++ bs 3 false)
    (c := rq [(1, decide ((↑i : Int) < (↑(List.length (List.map Hol.pv l)) : Int)) = true), (1, 0 ≤ (↑i : Int)), (1, (List.map Hol.pv l)[i]? = some (PV.agg [PV.int .i32 (Hol.known x), .int .i32 (Hol.day x), .bool (Hol.open' x)])), ty hg, ty hp, ty g1, ty g2, (3, decide (y2 > 1) = false), (1, cc (ev X E0) 53 [AV.c (vw (Hol.known x))] [] = some (AV.c (.pv (.bool (datOk (Hol.known x)))), [])), (2, decide (y2 > 1) = false), (3, (!datOk (Hol.known x)) = false), (1, cc (ev X E0) 53 [AV.c (vw (Hol.day x))] [] = some (AV.c (.pv (.bool (datOk (Hol.day x)))), [])), (2, (!datOk (Hol.known x)) = false), (1, (!datOk (Hol.day x)) = false)]) (by kernel_rfl)
    (aq ⟨(dT hi), (Int.natCast_nonneg _), (map_at hx), hg, hp, g1, g2, (dF g3), (s77 _), (dF g3), (not_f g4), (s77 _), (not_f g4), (not_f g5), trivial⟩)
theorem ql19s_4 (l : List Hol) (o : SO) (kv : List (PV × PV)) (i j : Nat) (x : Hol) (hx : l[i]? = some x) (hi : (↑i : Int) < (↑(List.length (List.map Hol.pv l)) : Int)) (hg : mapGet kv (.agg [PV.int .i32 (Hol.known x), .int .i32 (Hol.day x)]) = some (some (PV.int .i64 1))) (hp : mapPos kv (.agg [PV.int .i32 (Hol.known x), .int .i32 (Hol.day x)]) 0 = some (some (j, .int .i64 1))) (y1 : List (PV × PV)) (y2 : Int) (g1 : 0 ≤ (↑j : Int) ∧ j < List.length kv ∧ mapSet kv j (.int .i64 2) = y1) (g2 : mapGet y1 (.agg [PV.int .i32 (Hol.known x), .int .i32 (Hol.day x)]) = some (some (PV.int .i64 y2))) (g3 : y2 > 1) :
    lv (cv (ev X E0) xf19_l0) (rl [0, 2, 3, 0, 0]) 1 (QS19 l o kv (↑i : Int)) = some (XExit.ret, St.mk (tmOf 47 [(2, AV.c (.pv (.bool false)))]) [.map y1, .cells [vw (Hol.known x), vw (Hol.day x), .pv (.bool (Hol.open' x))]]) :=
  lv_ret ([.br true, .el (.agg [PV.int .i32 (Hol.known x), .int .i32 (Hol.day x), .bool (Hol.open' x)]), .opt (some (PV.int .i64 (1 : Int))), .opt (some (PV.int .i64 (1 : Int))), It.pl j, .kv y1, .opt (some (PV.int .i64 y2))] ++ bs 11 true)
    (c := rq [(1, decide ((↑i : Int) < (↑(List.length (List.map Hol.pv l)) : Int)) = true), (1, 0 ≤ (↑i : Int)), (1, (List.map Hol.pv l)[i]? = some (PV.agg [PV.int .i32 (Hol.known x), .int .i32 (Hol.day x), .bool (Hol.open' x)])), ty hg, ty hp, ty g1, ty g2, (5, decide (y2 > 1) = true), (6, true = true)]) (by kernel_rfl)
    (aq ⟨(dT hi), (Int.natCast_nonneg _), (map_at hx), hg, hp, g1, g2, (dT g3), rfl, trivial⟩)
theorem ql19x_1 (l : List Hol) (o : SO) (kv : List (PV × PV)) (i : Nat) (hi : ¬(↑i : Int) < (↑(List.length (List.map Hol.pv l)) : Int)) :
    lv (cv (ev X E0) xf19_l0) (rl [0, 2, 3, 0, 0]) 1 (QS19 l o kv (↑i : Int)) = some (XExit.exit 0, St.mk (tmOf 47 [(0, AV.c (.pv (.sl o 3 (List.map Hol.pv l))))]) [.map kv]) :=
  lv_exit [.br false]
    (c := [decide ((↑i : Int) < (↑(List.length (List.map Hol.pv l)) : Int)) = false]) (by kernel_rfl)
    ⟨(dF hi), trivial⟩
theorem qg19_1 (l : List Hol) (o : SO) (kv : List (PV × PV)) (h : lv (cv (ev X E0) xf19_l0) (rl [0, 2, 3, 0, 0]) 1 (QS19 l o [] 0) = some (XExit.exit 0, St.mk (tmOf 47 [(0, AV.c (.pv (.sl o 3 (List.map Hol.pv l))))]) [.map kv])) :
    cc (ev X E0) 19 [AV.c (.pv (.sl o 3 (List.map Hol.pv l)))] [] = some (AV.c (.pv (.bool (decide ((↑(List.length (List.map Hol.pv l)) : Int) ≤ 64)))), []) :=
  cc_path (x := xf19) rfl [.loop (XExit.exit 0) (St.mk (tmOf 47 [(0, AV.c (.pv (.sl o 3 (List.map Hol.pv l))))]) [.map kv])]
    (c := rq [ty h]) (by kernel_rfl)
    (aq ⟨h, trivial⟩)
theorem qg19r_1 (l : List Hol) (o : SO) (kv : List (PV × PV)) (x : Hol) (h : lv (cv (ev X E0) xf19_l0) (rl [0, 2, 3, 0, 0]) 1 (QS19 l o [] 0) = some (XExit.ret, St.mk (tmOf 47 [(2, AV.c (.pv (.bool false)))]) [.map kv, .cells (Hol.cs x)])) :
    cc (ev X E0) 19 [AV.c (.pv (.sl o 3 (List.map Hol.pv l)))] [] = some (AV.c (.pv (.bool false)), []) :=
  cc_path (x := xf19) rfl [.loop XExit.ret (St.mk (tmOf 47 [(2, AV.c (.pv (.bool false)))]) [.map kv, .cells [vw (Hol.known x), vw (Hol.day x), .pv (.bool (Hol.open' x))]])]
    (c := rq [ty h]) (by kernel_rfl)
    (aq ⟨h, trivial⟩)
end Go.Sx.Tryd
