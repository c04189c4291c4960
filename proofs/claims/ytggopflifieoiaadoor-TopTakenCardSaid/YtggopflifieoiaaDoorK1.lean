/- Postings as data, and what tells of them alone. -/
import Derived.Test.YtggopflifieoiaaDoorXT
namespace Go.Sx.Tryd
open Go Go.Sx
structure Leg where
  acc : Int
  cur : Int
  minor : Int
abbrev Leg.pv (x : Leg) : PV := .agg [.int .i64 x.acc, .int .i64 x.cur, .int .i64 x.minor]
abbrev Leg.av (x : Leg) : AV := .agg [.pv (.int .i64 x.acc), .pv (.int .i64 x.cur), .pv (.int .i64 x.minor)]
structure Post where
  id : Int
  known : Int
  value : Int
  so : SO
  legs : List Leg
  rev : Int
  kind : Int
  memo : List UInt8
abbrev Leg.cs (x : Leg) : List CV := [.pv (.int .i64 x.acc), .pv (.int .i64 x.cur), .pv (.int .i64 x.minor)]
abbrev Post.cs (p : Post) : List CV := [.pv (.int .i64 p.id), .pv (.int .i32 p.known), .pv (.int .i32 p.value), .pv (.sl p.so 3 (p.legs.map Leg.pv)), .pv (.int .i64 p.rev), .pv (.int .i64 p.kind), .pv (.str p.memo)]
abbrev Post.pv (p : Post) : PV := .agg [.int .i64 p.id, .int .i32 p.known, .int .i32 p.value, .sl p.so 3 (p.legs.map Leg.pv), .int .i64 p.rev, .int .i64 p.kind, .str p.memo]
abbrev SZ (o : SO) (s : Nat) (l : List Post) : Prop := szOk 7 (CV.pv (PV.sl o s (List.map Post.pv l))) = true
abbrev sh (p : Post) : Post := ⟨p.id, p.known, p.value, .shut, p.legs, p.rev, p.kind, p.memo⟩
abbrev Post.av (p : Post) : AV := .agg [.pv (.int .i64 p.id), .pv (.int .i32 p.known), .pv (.int .i32 p.value), .pv (.sl p.so 3 (p.legs.map Leg.pv)), .pv (.int .i64 p.rev), .pv (.int .i64 p.kind), .pv (.str p.memo)]
theorem f77_1 (d : Int) (g1 : d ≥ -50000) :
    cc (ev X E0) 53 [AV.c (vw d)] [] = some (AV.c (.pv (.bool (decide (d ≤ 50000)))), []) :=
  cc_path (x := xf53) rfl (bs 3 true)
    (c := rq [(3, decide (d ≥ -50000) = true)]) (by kernel_rfl)
    (aq ⟨(dT g1), trivial⟩)
theorem f77_2 (d : Int) (g1 : ¬d ≥ -50000) :
    cc (ev X E0) 53 [AV.c (vw d)] [] = some (AV.c (.pv (.bool false)), []) :=
  cc_path (x := xf53) rfl (bs 3 false)
    (c := rq [(3, decide (d ≥ -50000) = false)]) (by kernel_rfl)
    (aq ⟨(dF g1), trivial⟩)
theorem f130_1 (d : Int) (g1 : d ≥ 0) :
    cc (ev X E0) 74 [AV.c (vi d)] [] = some (AV.c (.pv (.bool (decide (d < 4)))), []) :=
  cc_path (x := xf74) rfl (bs 3 true)
    (c := rq [(3, decide (d ≥ 0) = true)]) (by kernel_rfl)
    (aq ⟨(dT g1), trivial⟩)
theorem f130_2 (d : Int) (g1 : ¬d ≥ 0) :
    cc (ev X E0) 74 [AV.c (vi d)] [] = some (AV.c (.pv (.bool false)), []) :=
  cc_path (x := xf74) rfl (bs 3 false)
    (c := rq [(3, decide (d ≥ 0) = false)]) (by kernel_rfl)
    (aq ⟨(dF g1), trivial⟩)
theorem f76_1 (p : Post) (b : Bool) (h : cc (ev X E0) 123 [AV.s p.memo, AV.c (.fn 122 [])] [] = some (AV.b b, [])) (g1 : p.id ≥ 1) (g2 : p.id ≤ 1000000) (g3 : p.rev ≥ 0) (g4 : p.rev < p.id) (g5 : p.kind ≥ 0) (g6 : p.kind ≤ 4) (g7 : (↑(List.length p.memo) : Int) ≤ 32) :
    cc (ev X E0) 85 [AV.agg (Post.cs p)] [] = some (AV.c (.pv (.bool !b)), []) :=
  cc_path (x := xf85) rfl (bs 31 true ++ [.call (AV.c (.pv (.bool b))) [], .br true, .br true])
    (c := rq [(4, decide (p.id ≥ 1) = true), (4, decide (p.id ≤ 1000000) = true), (6, decide (p.rev ≥ 0) = true), (4, decide (p.rev < p.id) = true), (4, decide (p.kind ≥ 0) = true), (5, decide (p.kind ≤ 4) = true), (4, decide ((↑(List.length p.memo) : Int) ≤ 32) = true), ty h, (2, decide ((↑(List.length p.memo) : Int) ≤ 32) = true)]) (by kernel_rfl)
    (aq ⟨(dT g1), (dT g2), (dT g3), (dT g4), (dT g5), (dT g6), (dT g7), h, (dT g7), trivial⟩)
theorem f76_2 (p : Post) (b : Bool) (_h : cc (ev X E0) 123 [AV.s p.memo, AV.c (.fn 122 [])] [] = some (AV.b b, [])) (g1 : p.id ≥ 1) (g2 : p.id ≤ 1000000) (g3 : p.rev ≥ 0) (g4 : p.rev < p.id) (g5 : p.kind ≥ 0) (g6 : p.kind ≤ 4) (g7 : ¬(↑(List.length p.memo) : Int) ≤ 32) :
    cc (ev X E0) 85 [AV.agg (Post.cs p)] [] = some (AV.c (.pv (.bool false)), []) :=
  cc_path (x := xf85) rfl (bs 27 true ++ bs 6 false)
    (c := rq [(4, decide (p.id ≥ 1) = true), (4, decide (p.id ≤ 1000000) = true), (6, decide (p.rev ≥ 0) = true), (4, decide (p.rev < p.id) = true), (4, decide (p.kind ≥ 0) = true), (5, decide (p.kind ≤ 4) = true), (6, decide ((↑(List.length p.memo) : Int) ≤ 32) = false)]) (by kernel_rfl)
    (aq ⟨(dT g1), (dT g2), (dT g3), (dT g4), (dT g5), (dT g6), (dF g7), trivial⟩)
theorem f76_3 (p : Post) (b : Bool) (_h : cc (ev X E0) 123 [AV.s p.memo, AV.c (.fn 122 [])] [] = some (AV.b b, [])) (g1 : p.id ≥ 1) (g2 : p.id ≤ 1000000) (g3 : p.rev ≥ 0) (g4 : p.rev < p.id) (g5 : p.kind ≥ 0) (g6 : ¬p.kind ≤ 4) :
    cc (ev X E0) 85 [AV.agg (Post.cs p)] [] = some (AV.c (.pv (.bool false)), []) :=
  cc_path (x := xf85) rfl (bs 22 true ++ bs 11 false)
    (c := rq [(4, decide (p.id ≥ 1) = true), (4, decide (p.id ≤ 1000000) = true), (6, decide (p.rev ≥ 0) = true), (4, decide (p.rev < p.id) = true), (4, decide (p.kind ≥ 0) = true), (5, decide (p.kind ≤ 4) = false), (6, false = false)]) (by kernel_rfl)
    (aq ⟨(dT g1), (dT g2), (dT g3), (dT g4), (dT g5), (dF g6), rfl, trivial⟩)
theorem f76_4 (p : Post) (b : Bool) (_h : cc (ev X E0) 123 [AV.s p.memo, AV.c (.fn 122 [])] [] = some (AV.b b, [])) (g1 : p.id ≥ 1) (g2 : p.id ≤ 1000000) (g3 : p.rev ≥ 0) (g4 : p.rev < p.id) (g5 : ¬p.kind ≥ 0) :
    cc (ev X E0) 85 [AV.agg (Post.cs p)] [] = some (AV.c (.pv (.bool false)), []) :=
  cc_path (x := xf85) rfl (bs 18 true ++ bs 15 false)
    (c := rq [(4, decide (p.id ≥ 1) = true), (4, decide (p.id ≤ 1000000) = true), (6, decide (p.rev ≥ 0) = true), (4, decide (p.rev < p.id) = true), (4, decide (p.kind ≥ 0) = false), (11, false = false)]) (by kernel_rfl)
    (aq ⟨(dT g1), (dT g2), (dT g3), (dT g4), (dF g5), rfl, trivial⟩)
theorem f76_5 (p : Post) (b : Bool) (_h : cc (ev X E0) 123 [AV.s p.memo, AV.c (.fn 122 [])] [] = some (AV.b b, [])) (g1 : p.id ≥ 1) (g2 : p.id ≤ 1000000) (g3 : p.rev ≥ 0) (g4 : ¬p.rev < p.id) :
    cc (ev X E0) 85 [AV.agg (Post.cs p)] [] = some (AV.c (.pv (.bool false)), []) :=
  cc_path (x := xf85) rfl (bs 14 true ++ bs 19 false)
    (c := rq [(4, decide (p.id ≥ 1) = true), (4, decide (p.id ≤ 1000000) = true), (6, decide (p.rev ≥ 0) = true), (4, decide (p.rev < p.id) = false), (15, false = false)]) (by kernel_rfl)
    (aq ⟨(dT g1), (dT g2), (dT g3), (dF g4), rfl, trivial⟩)
theorem f76_6 (p : Post) (b : Bool) (_h : cc (ev X E0) 123 [AV.s p.memo, AV.c (.fn 122 [])] [] = some (AV.b b, [])) (g1 : p.id ≥ 1) (g2 : p.id ≤ 1000000) (g3 : ¬p.rev ≥ 0) :
    cc (ev X E0) 85 [AV.agg (Post.cs p)] [] = some (AV.c (.pv (.bool false)), []) :=
  cc_path (x := xf85) rfl (bs 8 true ++ bs 25 false)
    (c := rq [(4, decide (p.id ≥ 1) = true), (4, decide (p.id ≤ 1000000) = true), (6, decide (p.rev ≥ 0) = false), (19, false = false)]) (by kernel_rfl)
    (aq ⟨(dT g1), (dT g2), (dF g3), rfl, trivial⟩)
theorem f76_7 (p : Post) (b : Bool) (_h : cc (ev X E0) 123 [AV.s p.memo, AV.c (.fn 122 [])] [] = some (AV.b b, [])) (g1 : p.id ≥ 1) (g2 : ¬p.id ≤ 1000000) :
    cc (ev X E0) 85 [AV.agg (Post.cs p)] [] = some (AV.c (.pv (.bool false)), []) :=
  cc_path (x := xf85) rfl (bs 4 true ++ bs 29 false)
    (c := rq [(4, decide (p.id ≥ 1) = true), (4, decide (p.id ≤ 1000000) = false), (25, false = false)]) (by kernel_rfl)
    (aq ⟨(dT g1), (dF g2), rfl, trivial⟩)
theorem f76_8 (p : Post) (b : Bool) (_h : cc (ev X E0) 123 [AV.s p.memo, AV.c (.fn 122 [])] [] = some (AV.b b, [])) (g1 : ¬p.id ≥ 1) :
    cc (ev X E0) 85 [AV.agg (Post.cs p)] [] = some (AV.c (.pv (.bool false)), []) :=
  cc_path (x := xf85) rfl (bs 33 false)
    (c := rq [(4, decide (p.id ≥ 1) = false), (29, false = false)]) (by kernel_rfl)
    (aq ⟨(dF g1), rfl, trivial⟩)
def datOk (d : Int) : Bool := decide (-50000 ≤ d ∧ d ≤ 50000)
theorem s77 (d : Int) : cc (ev X E0) 53 [AV.int .i32 d] [] = some (.b (datOk d), []) := by
  by_cases h : d ≥ -50000
  · rw [f77_1 d h, datOk]; congr 4; simp; omega
  · rw [f77_2 d h, datOk]; congr 4; simp; omega
def fits (p : Post) : Bool := decide (p.legs.length ≤ 40 ∧ p.memo.length ≤ 400)
def headed (p : Post) : Bool := decide (1 ≤ p.id ∧ p.id ≤ 1000000 ∧ 0 ≤ p.rev ∧ p.rev < p.id ∧ 0 ≤ p.kind ∧ p.kind ≤ 4 ∧ p.memo.length ≤ 32) && !p.memo.any odd
theorem s76 (p : Post) (hm : p.memo.length ≤ 1000000) : cc (ev X E0) 85 [Post.av p] [] = some (.b (headed p), []) := by
  have hc := contains p.memo hm
  unfold headed
  by_cases h1 : p.id ≥ 1
  · by_cases h2 : p.id ≤ 1000000
    · by_cases h3 : p.rev ≥ 0
      · by_cases h4 : p.rev < p.id
        · by_cases h5 : p.kind ≥ 0
          · by_cases h6 : p.kind ≤ 4
            · by_cases h7 : ((p.memo.length : Nat) : Int) ≤ 32
              · rw [f76_1 p _ hc h1 h2 h3 h4 h5 h6 h7, decide_eq_true (by omega), Bool.true_and]
              · rw [f76_2 p _ hc h1 h2 h3 h4 h5 h6 h7, decide_eq_false (by omega), Bool.false_and]
            · rw [f76_3 p _ hc h1 h2 h3 h4 h5 h6, decide_eq_false (by omega), Bool.false_and]
          · rw [f76_4 p _ hc h1 h2 h3 h4 h5, decide_eq_false (by omega), Bool.false_and]
        · rw [f76_5 p _ hc h1 h2 h3 h4, decide_eq_false (by omega), Bool.false_and]
      · rw [f76_6 p _ hc h1 h2 h3, decide_eq_false (by omega), Bool.false_and]
    · rw [f76_7 p _ hc h1 h2, decide_eq_false (by omega), Bool.false_and]
  · rw [f76_8 p _ hc h1, decide_eq_false (by omega), Bool.false_and]
def curOk (c : Int) : Bool := decide (0 ≤ c ∧ c < 4)
theorem s130 (d : Int) : cc (ev X E0) 74 [AV.i d] [] = some (.b (curOk d), []) := by
  by_cases h : d ≥ 0
  · rw [f130_1 d h, curOk]; congr 4; simp; omega
  · rw [f130_2 d h, curOk]; congr 4; simp; omega
theorem f82_1 (c m : Int) (g1 : curOk c = true) (g2 : m ≥ -1000000000000000) :
    cc (ev X E0) 30 [AV.agg [vi c, vi m]] [] = some (AV.c (.pv (.bool (decide (m ≤ 1000000000000000)))), []) :=
  cc_path (x := xf30) rfl ([.call (AV.c (.pv (.bool (curOk c)))) []] ++ bs 8 true)
    (c := rq [(1, cc (ev X E0) 74 [AV.c (vi c)] [] = some (AV.c (.pv (.bool (curOk c))), [])), (4, curOk c = true), (4, decide (m ≥ -1000000000000000) = true)]) (by kernel_rfl)
    (aq ⟨(s130 _), g1, (dT g2), trivial⟩)
theorem f82_2 (c m : Int) (g1 : curOk c = true) (g2 : ¬m ≥ -1000000000000000) :
    cc (ev X E0) 30 [AV.agg [vi c, vi m]] [] = some (AV.c (.pv (.bool false)), []) :=
  cc_path (x := xf30) rfl ([.call (AV.c (.pv (.bool (curOk c)))) []] ++ bs 4 true ++ bs 4 false)
    (c := rq [(1, cc (ev X E0) 74 [AV.c (vi c)] [] = some (AV.c (.pv (.bool (curOk c))), [])), (4, curOk c = true), (4, decide (m ≥ -1000000000000000) = false)]) (by kernel_rfl)
    (aq ⟨(s130 _), g1, (dF g2), trivial⟩)
theorem f82_3 (c m : Int) (g1 : curOk c = false) :
    cc (ev X E0) 30 [AV.agg [vi c, vi m]] [] = some (AV.c (.pv (.bool false)), []) :=
  cc_path (x := xf30) rfl ([.call (AV.c (.pv (.bool (curOk c)))) []] ++ bs 8 false)
    (c := rq [(1, cc (ev X E0) 74 [AV.c (vi c)] [] = some (AV.c (.pv (.bool (curOk c))), [])), (4, curOk c = false), (4, false = false)]) (by kernel_rfl)
    (aq ⟨(s130 _), g1, rfl, trivial⟩)
theorem f80_1 (c : Int) (h : cc (ev X E0) 74 [AV.i c] [] = some (AV.b false, [])) :
    cc (ev X E0) 88 [AV.c (vi c)] [] = some (AV.c (.pv (.str [])), []) :=
  cc_path (x := xf88) rfl [.call (AV.c (.pv (.bool false))) [], .br true]
    (c := rq [ty h, (1, true = true)]) (by kernel_rfl)
    (aq ⟨h, rfl, trivial⟩)
theorem f800_1 (h : cc (ev X E0) (74 : Nat) [AV.i (0 : Int)] [] = some (AV.b true, [])) :
    cc (ev X E0) (88 : Nat) [AV.c (vi (0 : Int))] [] = some (AV.c (.pv (.str [(69 : UInt8), (85 : UInt8), (82 : UInt8)])), []) :=
  cc_path (x := xf88) rfl [.call (AV.c (.pv (.bool true))) [], .br false]
    (c := rq [ty h, (1, false = false), (1, (0 : Int) ≤ (0 : Int)), (1, (0 : Int) < (4 : Int))]) (by kernel_rfl)
    (aq ⟨h, rfl, (Int.le_refl _), (by decide), trivial⟩)
theorem f801_1 (h : cc (ev X E0) (74 : Nat) [AV.i (1 : Int)] [] = some (AV.b true, [])) :
    cc (ev X E0) (88 : Nat) [AV.c (vi (1 : Int))] [] = some (AV.c (.pv (.str [(74 : UInt8), (80 : UInt8), (89 : UInt8)])), []) :=
  cc_path (x := xf88) rfl [.call (AV.c (.pv (.bool true))) [], .br false]
    (c := rq [ty h, (1, false = false), (1, (0 : Int) ≤ (1 : Int)), (1, (1 : Int) < (4 : Int))]) (by kernel_rfl)
    (aq ⟨h, rfl, (by decide), (by decide), trivial⟩)
theorem f802_1 (h : cc (ev X E0) (74 : Nat) [AV.i (2 : Int)] [] = some (AV.b true, [])) :
    cc (ev X E0) (88 : Nat) [AV.c (vi (2 : Int))] [] = some (AV.c (.pv (.str [(66 : UInt8), (72 : UInt8), (68 : UInt8)])), []) :=
  cc_path (x := xf88) rfl [.call (AV.c (.pv (.bool true))) [], .br false]
    (c := rq [ty h, (1, false = false), (1, (0 : Int) ≤ (2 : Int)), (1, (2 : Int) < (4 : Int))]) (by kernel_rfl)
    (aq ⟨h, rfl, (by decide), (by decide), trivial⟩)
theorem f803_1 (h : cc (ev X E0) (74 : Nat) [AV.i (3 : Int)] [] = some (AV.b true, [])) :
    cc (ev X E0) (88 : Nat) [AV.c (vi (3 : Int))] [] = some (AV.c (.pv (.str [(85 : UInt8), (83 : UInt8), (68 : UInt8)])), []) :=
  cc_path (x := xf88) rfl [.call (AV.c (.pv (.bool true))) [], .br false]
    (c := rq [ty h, (1, false = false), (1, (0 : Int) ≤ (3 : Int)), (1, (3 : Int) < (4 : Int))]) (by kernel_rfl)
    (aq ⟨h, rfl, (by decide), (by decide), trivial⟩)
theorem f78_1 (x : Leg) (g1 : x.acc < 1) :
    cc (ev X E0) 86 [AV.agg (Leg.cs x)] [] = some (AV.c (.pv (.bool true)), []) :=
  cc_path (x := xf86) rfl (bs 4 true)
    (c := rq [(4, decide (x.acc < 1) = true)]) (by kernel_rfl)
    (aq ⟨(dT g1), trivial⟩)
theorem f78_2 (x : Leg) (g1 : ¬x.acc < 1) :
    cc (ev X E0) 86 [AV.agg (Leg.cs x)] [] = some (AV.c (.pv (.bool (decide (x.acc > 999)))), []) :=
  cc_path (x := xf86) rfl (bs 4 false)
    (c := rq [(4, decide (x.acc < 1) = false)]) (by kernel_rfl)
    (aq ⟨(dF g1), trivial⟩)
theorem f79_1 (x : Leg) (s : List UInt8) (h : cc (ev X E0) 88 [AV.i x.cur] [] = some (AV.s s, [])) :
    cc (ev X E0) 87 [AV.agg (Leg.cs x)] [] = some (AV.c (.pv (.bool (s == []))), []) :=
  cc_path (x := xf87) rfl [.call (AV.c (.pv (.str s))) []]
    (c := rq [ty h]) (by kernel_rfl)
    (aq ⟨h, trivial⟩)
theorem f81_1 (x : Leg) (b : Bool) (h : cc (ev X E0) 30 [AV.agg [vi x.cur, vi x.minor]] [] = some (AV.b b, [])) :
    cc (ev X E0) 89 [AV.agg (Leg.cs x)] [] = some (AV.c (.pv (.bool !b)), []) :=
  cc_path (x := xf89) rfl [.call (AV.c (.pv (.bool b))) []]
    (c := rq [ty h]) (by kernel_rfl)
    (aq ⟨h, trivial⟩)
theorem f83_1 (x : Leg) :
    cc (ev X E0) 90 [AV.agg (Leg.cs x)] [] = some (AV.c (.pv (.bool (x.minor == 0))), []) :=
  cc_path (x := xf90) rfl []
    (c := []) (by kernel_rfl)
    trivial
theorem l127_1 (l : List Leg) (o : SO) (g : Nat) (w : Leg → Bool) (h : ∀ (x : Leg), cc (ev X E0) g [Leg.av x] [] = some (AV.b (w x), [])) (i : Nat) (y1 : Leg) (g1 : (↑i : Int) < (↑(List.length (List.map Leg.pv l)) : Int)) (g2 : l[i]? = some y1) (g3 : w y1 = true) :
    lv (cv (ev X E0) xf121_l0) [true, true, false, false, false, false, false, true, true] 0 (St.mk (tmOf 19 [(0, AV.c (.pv (.sl o 3 (List.map Leg.pv l)))), (1, AV.c (.fn g [])), (7, AV.c (vi (↑(List.length (List.map Leg.pv l)) : Int))), (8, AV.c (vi (↑i : Int)))]) []) = some (XExit.ret, St.mk (tmOf 19 [(4, AV.c (vi (↑i : Int)))]) []) :=
  lv_ret [.br true, .el (Leg.pv y1), .call (AV.c (.pv (.bool (w y1)))) [], .br true]
    (c := [decide ((↑i : Int) < (↑(List.length (List.map Leg.pv l)) : Int)) = true, 0 ≤ (↑i : Int), (List.map Leg.pv l)[i]? = some (Leg.pv y1), cc (ev X E0) g [AV.agg (Leg.cs y1)] [] = some (AV.c (.pv (.bool (w y1))), []), w y1 = true]) (by kernel_rfl)
    ⟨(dT g1), (Int.natCast_nonneg _), (map_at g2), (h _), g3, trivial⟩
theorem l127_2 (l : List Leg) (o : SO) (g : Nat) (w : Leg → Bool) (h : ∀ (x : Leg), cc (ev X E0) g [Leg.av x] [] = some (AV.b (w x), [])) (i : Nat) (y1 : Leg) (g1 : (↑i : Int) < (↑(List.length (List.map Leg.pv l)) : Int)) (g2 : l[i]? = some y1) (g3 : w y1 = false) :
    lv (cv (ev X E0) xf121_l0) [true, true, false, false, false, false, false, true, true] 0 (St.mk (tmOf 19 [(0, AV.c (.pv (.sl o 3 (List.map Leg.pv l)))), (1, AV.c (.fn g [])), (7, AV.c (vi (↑(List.length (List.map Leg.pv l)) : Int))), (8, AV.c (vi (↑i : Int)))]) []) = lv (cv (ev X E0) xf121_l0) [true, true, false, false, false, false, false, true, true] 0 (St.mk (tmOf 19 [(0, AV.c (.pv (.sl o 3 (List.map Leg.pv l)))), (1, AV.c (.fn g [])), (7, AV.c (vi (↑(List.length (List.map Leg.pv l)) : Int))), (8, AV.c (vi (IntKind.wrap .i64 ((↑i : Int) + 1))))]) []) :=
  lv_next [.br true, .el (Leg.pv y1), .call (AV.c (.pv (.bool (w y1)))) [], .br false]
    (c := [decide ((↑i : Int) < (↑(List.length (List.map Leg.pv l)) : Int)) = true, 0 ≤ (↑i : Int), (List.map Leg.pv l)[i]? = some (Leg.pv y1), cc (ev X E0) g [AV.agg (Leg.cs y1)] [] = some (AV.c (.pv (.bool (w y1))), []), w y1 = false]) (by kernel_rfl)
    ⟨(dT g1), (Int.natCast_nonneg _), (map_at g2), (h _), g3, trivial⟩
theorem l127_3 (l : List Leg) (o : SO) (g : Nat) (w : Leg → Bool) (_h : ∀ (x : Leg), cc (ev X E0) g [Leg.av x] [] = some (AV.b (w x), [])) (i : Nat) (g1 : ¬(↑i : Int) < (↑(List.length (List.map Leg.pv l)) : Int)) :
    lv (cv (ev X E0) xf121_l0) [true, true, false, false, false, false, false, true, true] 0 (St.mk (tmOf 19 [(0, AV.c (.pv (.sl o 3 (List.map Leg.pv l)))), (1, AV.c (.fn g [])), (7, AV.c (vi (↑(List.length (List.map Leg.pv l)) : Int))), (8, AV.c (vi (↑i : Int)))]) []) = some (XExit.exit 0, St.mk (tmOf 19 []) []) :=
  lv_exit [.br false]
    (c := [decide ((↑i : Int) < (↑(List.length (List.map Leg.pv l)) : Int)) = false]) (by kernel_rfl)
    ⟨(dF g1), trivial⟩
abbrev m127 : List Bool := [true, true, false, false, false, false, false, true, true]
abbrev S127 (l : List Leg) (o : SO) (g : Nat) (i : Int) : St := St.mk (tmOf 19 [(0, AV.c (CV.pv (PV.sl o 3 (List.map Leg.pv l)))), (1, AV.c (CV.fn g [])), (7, AV.c (CV.pv (PV.int .i64 (↑(List.length (List.map Leg.pv l)) : Int)))), (8, AV.c (CV.pv (PV.int .i64 i)))]) []
theorem al127 {l : List Leg} {o : SO} {g : Nat} {w : Leg → Bool} (h : ∀ x : Leg, cc (ev X E0) g [Leg.av x] [] = some (.b (w x), [])) (hl : l.length ≤ 4000000000000000000) : ∀ (r pre : List Leg), l = pre ++ r →
    (r.any w = false → lv (cv (ev X E0) xf121_l0) m127 0 (S127 l o g (pre.length : Nat)) = some (XExit.exit 0, St.mk (tmOf 19 []) [])) ∧
    (r.any w = true → ∃ j : Nat, lv (cv (ev X E0) xf121_l0) m127 0 (S127 l o g (pre.length : Nat)) = some (XExit.ret, St.mk (tmOf 19 [(4, AV.c (CV.pv (PV.int .i64 (j : Int))))]) []))
  | [], pre, e => by
    rw [List.append_nil] at e
    subst e
    exact ⟨fun _ => l127_3 l o g w h l.length (by simp), fun h => by simp at h⟩
  | y :: r, pre, e => by
    have hlen : l.length = pre.length + r.length + 1 := by rw [e]; simp; omega
    have hat : l[pre.length]? = some y := by rw [e]; simp
    have hlt : ((pre.length : Nat) : Int) < (((l.map Leg.pv).length : Nat) : Int) := by rw [List.length_map]; omega
    cases hw : w y with
    | true => exact ⟨fun h => by simp [hw] at h, fun _ => ⟨pre.length, l127_1 l o g w h pre.length y hlt hat hw⟩⟩
    | false =>
      have st := l127_2 l o g w h pre.length y hlt hat hw
      rw [wi64 (by omega) (by omega)] at st
      have ih := al127 (o := o) h hl r (pre ++ [y]) (by rw [e]; simp)
      rw [List.length_append, List.length_singleton, Int.natCast_add] at ih
      simp only [List.any_cons, hw, Bool.false_or]
      exact ⟨fun hr => st.trans (ih.1 hr), fun hr => by obtain ⟨j, hj⟩ := ih.2 hr; exact ⟨j, st.trans hj⟩⟩
theorem f127a_1 (l : List Leg) (o : SO) (g : Nat) (h : lv (cv (ev X E0) xf121_l0) m127 0 (S127 l o g 0) = some (XExit.exit 0, St.mk (tmOf 19 []) [])) :
    cc (ev X E0) 121 [AV.c (.pv (.sl o 3 (List.map Leg.pv l))), AV.c (.fn g [])] [] = some (AV.c (vi (-1)), []) :=
  cc_path (x := xf121) rfl [.loop (XExit.exit (0 : Nat)) (St.mk (tmOf (19 : Nat) []) [])]
    (c := rq [ty h]) (by kernel_rfl)
    (aq ⟨h, trivial⟩)
theorem f127b_1 (l : List Leg) (o : SO) (g j : Nat) (h : lv (cv (ev X E0) xf121_l0) m127 0 (S127 l o g 0) = some (XExit.ret, St.mk (tmOf 19 [(4, AV.c (vi (↑j : Int)))]) [])) :
    cc (ev X E0) 121 [AV.c (.pv (.sl o 3 (List.map Leg.pv l))), AV.c (.fn g [])] [] = some (AV.c (vi (↑j : Int)), []) :=
  cc_path (x := xf121) rfl [.loop XExit.ret (St.mk (tmOf 19 [(4, AV.c (vi (↑j : Int)))]) [])]
    (c := rq [ty h]) (by kernel_rfl)
    (aq ⟨h, trivial⟩)
theorem f75_1 (l : List Leg) (o : SO) (g : Nat) (j : Int) (h : cc (ev X E0) 121 [AV.sl o 3 (List.map Leg.pv l), AV.c (.fn g [])] [] = some (AV.i j, [])) :
    cc (ev X E0) 84 [AV.c (.pv (.sl o 3 (List.map Leg.pv l))), AV.c (.fn g [])] [] = some (AV.c (.pv (.bool (decide (j ≥ 0)))), []) :=
  cc_path (x := xf84) rfl [.call (AV.c (vi j)) []]
    (c := rq [ty h]) (by kernel_rfl)
    (aq ⟨h, trivial⟩)
theorem s75 {l : List Leg} {o : SO} {g : Nat} {w : Leg → Bool} (h : ∀ x : Leg, cc (ev X E0) g [Leg.av x] [] = some (.b (w x), [])) (hl : l.length ≤ 4000000000000000000) : cc (ev X E0) 84 [AV.sl o 3 (l.map Leg.pv), AV.c (.fn g [])] [] = some (.b (l.any w), []) := by
  have al := al127 (o := o) h hl l [] rfl
  cases hw : l.any w with
  | false => exact f75_1 l o g (-1) (f127a_1 l o g (al.1 hw))
  | true =>
    obtain ⟨j, hj⟩ := al.2 hw
    have := f75_1 l o g j (f127b_1 l o g j hj)
    rw [show decide ((j : Int) ≥ 0) = true by simp] at this
    exact this
theorem f74_1 (p : Post) (g : Nat) (b : Bool) (h : cc (ev X E0) 84 [AV.sl p.so 3 (List.map Leg.pv p.legs), AV.c (.fn g [])] [] = some (AV.b b, [])) :
    cc (ev X E0) 83 [AV.c (.fn g []), AV.c (.ptr 0 0)] [.cells (Post.cs p)] = some (AV.c (.pv (.bool b)), [.cells (Post.cs p)]) :=
  cc_path (x := xf83) rfl [.call (AV.c (.pv (.bool b))) []]
    (c := rq [ty h]) (by kernel_rfl)
    (aq ⟨h, trivial⟩)
end Go.Sx.Tryd
