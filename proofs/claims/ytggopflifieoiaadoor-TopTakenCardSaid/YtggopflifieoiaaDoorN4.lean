/- Those of a book that are picked. -/
import Derived.Test.YtggopflifieoiaaDoorN2
import Derived.Test.YtggopflifieoiaaDoorM1
import Derived.Test.YtggopflifieoiaaDoorK3b
namespace Go.Sx.Tryd
open Go Go.Sx
theorem f61_1 (p : Post) :
    cc (ev X E0) 41 [AV.agg (Post.cs p)] [] = some (AV.c (.pv (.bool true)), []) :=
  cc_path (x := xf41) rfl []
    (c := []) (by kernel_rfl)
    trivial
def outC (es : List Post) : CV := if es.isEmpty then CV.pv (PV.sl SO.nil 0 []) else CV.own 1407 7 ((es.map sh).map Post.pv)
def outA (es : List Post) : CV := if es.isEmpty then CV.pv (PV.sl SO.nil 0 []) else CV.own 0 7 ((es.map sh).map Post.pv)
theorem outC_cases (es : List Post) : outC es = CV.pv (PV.sl SO.nil 0 []) ∨ outC es = CV.own 1407 7 ((es.map sh).map Post.pv) := by
  unfold outC; cases es <;> simp
theorem out_cases (es : List Post) : (outC es = CV.pv (PV.sl SO.nil 0 []) ∧ outA es = CV.pv (PV.sl SO.nil 0 [])) ∨ (outC es = CV.own 1407 7 ((es.map sh).map Post.pv) ∧ outA es = CV.own 0 7 ((es.map sh).map Post.pv)) := by
  unfold outC outA; cases es <;> simp
theorem outC_nil {es : List Post} (h : outC es = CV.pv (PV.sl SO.nil 0 [])) : es = [] := by
  cases es with
  | nil => rfl
  | cons p r => simp [outC] at h
theorem outC_snoc (es : List Post) (y : Post) : outC (es ++ [y]) = CV.own 1407 7 ((es.map sh).map Post.pv ++ [Post.pv (sh y)]) := by
  unfold outC
  rw [if_neg (by simp)]
  simp
theorem rightFrom_chk : ∀ {r pre : List Post}, rightFrom pre r = true → ∀ p ∈ r, chk p = 0
  | [], _, _, p, hp => by simp at hp
  | y :: r, pre, h, p, hp => by
    simp only [rightFrom, Bool.and_eq_true, beq_iff_eq] at h
    rcases List.mem_cons.1 hp with rfl | hp
    · by_cases c : chk p = 0
      · exact c
      · have := h.1; rw [fullE, if_neg c] at this; exact this
    · exact rightFrom_chk h.2 p hp
theorem right_chk {l : List Post} (h : rightB l = true) : ∀ p ∈ l, chk p = 0 := rightFrom_chk h
abbrev B62z : List Box := []
abbrev S62z (l : List Post) (o : SO) (s : Nat) (g : Nat) (x5 : CV) (i : Int) : St := St.mk (tmOf 24 [(1, AV.c (CV.fn g [])), (5, AV.c x5), (8, AV.c (CV.pv (PV.sl o s (List.map Post.pv l)))), (9, AV.c (CV.pv (PV.int .i64 (↑(List.length (List.map Post.pv l)) : Int)))), (10, AV.c (CV.pv (PV.int .i64 i)))]) B62z
theorem l62zn_1 (l : List Post) (o : SO) (s : Nat) (hs : SZ o s l) (g : Nat) (w : Post → Bool) (h : ∀ (p : Post), cc (ev X E0) g [Post.av p] [] = some (AV.b (w p), [])) (i : Nat) (y1 : Post) (g1 : (↑i : Int) < (↑(List.length (List.map Post.pv l)) : Int)) (g2 : l[i]? = some y1) (g3 : w y1 = true) (g4 : chk y1 = 0) (g5 : y1.so = SO.nil → y1.legs = []) (g6 : (↑(0 + List.length [Post.pv (sh y1)]) : Int) * 72 ≤ 140737488355328) :
    lv (cv (ev X E0) xf42_l0) (rl [1, 3, 2, 0, 0]) 0 (S62z l o s g (.pv (.sl SO.nil 0 [])) (↑i : Int)) = lv (cv (ev X E0) xf42_l0) (rl [1, 3, 2, 0, 0]) 0 (St.mk (tmOf 24 [(1, AV.c (.fn g [])), (5, AV.c (.own 1407 7 [Post.pv (sh y1)])), (8, AV.c (.pv (.sl o s (List.map Post.pv l)))), (9, AV.c (vi (↑(List.length (List.map Post.pv l)) : Int))), (10, AV.c (vi (IntKind.wrap .i64 ((↑i : Int) + 1))))]) []) :=
  lv_next [.br true, .sz, .el (Post.pv y1), .call (AV.c (.pv (.bool (w y1)))) [], .br true, .call (AV.agg (Post.cs (sh y1))) [], .emp false]
    (c := [decide ((↑i : Int) < (↑(List.length (List.map Post.pv l)) : Int)) = true, SZ o s l, 0 ≤ (↑i : Int), (List.map Post.pv l)[i]? = some (Post.pv y1), cc (ev X E0) g [AV.agg (Post.cs y1)] [] = some (AV.c (.pv (.bool (w y1))), []), w y1 = true, cc (ev X E0) 43 [AV.agg (Post.cs y1)] [] = some (AV.agg (Post.cs (sh y1)), []), [Post.pv (sh y1)] ≠ [], (↑(0 + List.length [Post.pv (sh y1)]) : Int) * 72 ≤ 140737488355328]) (by kernel_rfl)
    ⟨(dT g1), hs, (Int.natCast_nonneg _), (map_at g2), (h _), g3, (s63 g4 g5), (List.cons_ne_nil _ _), g6, trivial⟩
theorem l62zn_2 (l : List Post) (o : SO) (s : Nat) (hs : SZ o s l) (g : Nat) (w : Post → Bool) (h : ∀ (p : Post), cc (ev X E0) g [Post.av p] [] = some (AV.b (w p), [])) (i : Nat) (y1 : Post) (g1 : (↑i : Int) < (↑(List.length (List.map Post.pv l)) : Int)) (g2 : l[i]? = some y1) (g3 : w y1 = false) :
    lv (cv (ev X E0) xf42_l0) (rl [1, 3, 2, 0, 0]) 0 (S62z l o s g (.pv (.sl SO.nil 0 [])) (↑i : Int)) = lv (cv (ev X E0) xf42_l0) (rl [1, 3, 2, 0, 0]) 0 (St.mk (tmOf 24 [(1, AV.c (.fn g [])), (5, AV.c (.pv (.sl SO.nil 0 []))), (8, AV.c (.pv (.sl o s (List.map Post.pv l)))), (9, AV.c (vi (↑(List.length (List.map Post.pv l)) : Int))), (10, AV.c (vi (IntKind.wrap .i64 ((↑i : Int) + 1))))]) []) :=
  lv_next [.br true, .sz, .el (Post.pv y1), .call (AV.c (.pv (.bool (w y1)))) [], .br false]
    (c := [decide ((↑i : Int) < (↑(List.length (List.map Post.pv l)) : Int)) = true, SZ o s l, 0 ≤ (↑i : Int), (List.map Post.pv l)[i]? = some (Post.pv y1), cc (ev X E0) g [AV.agg (Post.cs y1)] [] = some (AV.c (.pv (.bool (w y1))), []), w y1 = false]) (by kernel_rfl)
    ⟨(dT g1), hs, (Int.natCast_nonneg _), (map_at g2), (h _), g3, trivial⟩
theorem l62zn_3 (l : List Post) (o : SO) (s : Nat) (_hs : SZ o s l) (g : Nat) (w : Post → Bool) (_h : ∀ (p : Post), cc (ev X E0) g [Post.av p] [] = some (AV.b (w p), [])) (i : Nat) (g1 : ¬(↑i : Int) < (↑(List.length (List.map Post.pv l)) : Int)) :
    lv (cv (ev X E0) xf42_l0) (rl [1, 3, 2, 0, 0]) 0 (S62z l o s g (.pv (.sl SO.nil 0 [])) (↑i : Int)) = some (XExit.exit 0, St.mk (tmOf 24 [(5, AV.c (.pv (.sl SO.nil 0 [])))]) []) :=
  lv_exit [.br false]
    (c := [decide ((↑i : Int) < (↑(List.length (List.map Post.pv l)) : Int)) = false]) (by kernel_rfl)
    ⟨(dF g1), trivial⟩
theorem l62zo_1 (l : List Post) (o : SO) (s : Nat) (hs : SZ o s l) (g : Nat) (w : Post → Bool) (h : ∀ (p : Post), cc (ev X E0) g [Post.av p] [] = some (AV.b (w p), [])) (j : Nat) (es : List PV) (i : Nat) (y1 : Post) (g1 : (↑i : Int) < (↑(List.length (List.map Post.pv l)) : Int)) (g2 : l[i]? = some y1) (g3 : w y1 = true) (g4 : chk y1 = 0) (g5 : y1.so = SO.nil → y1.legs = []) (g6 : (↑(List.length es + List.length [Post.pv (sh y1)]) : Int) * 72 ≤ 140737488355328) :
    lv (cv (ev X E0) xf42_l0) (rl [1, 3, 2, 0, 0]) 0 (S62z l o s g (.own j 7 es) (↑i : Int)) = lv (cv (ev X E0) xf42_l0) (rl [1, 3, 2, 0, 0]) 0 (St.mk (tmOf 24 [(1, AV.c (.fn g [])), (5, AV.c (.own 1407 7 (es ++ [Post.pv (sh y1)]))), (8, AV.c (.pv (.sl o s (List.map Post.pv l)))), (9, AV.c (vi (↑(List.length (List.map Post.pv l)) : Int))), (10, AV.c (vi (IntKind.wrap .i64 ((↑i : Int) + 1))))]) []) :=
  lv_next [.br true, .sz, .el (Post.pv y1), .call (AV.c (.pv (.bool (w y1)))) [], .br true, .call (AV.agg (Post.cs (sh y1))) []]
    (c := rq [(1, decide ((↑i : Int) < (↑(List.length (List.map Post.pv l)) : Int)) = true), (1, SZ o s l), (1, 0 ≤ (↑i : Int)), (1, (List.map Post.pv l)[i]? = some (Post.pv y1)), (1, cc (ev X E0) g [AV.agg (Post.cs y1)] [] = some (AV.c (.pv (.bool (w y1))), [])), (1, w y1 = true), (1, cc (ev X E0) 43 [AV.agg (Post.cs y1)] [] = some (AV.agg (Post.cs (sh y1)), [])), ty g6]) (by kernel_rfl)
    (aq ⟨(dT g1), hs, (Int.natCast_nonneg _), (map_at g2), (h _), g3, (s63 g4 g5), g6, trivial⟩)
theorem l62zo_2 (l : List Post) (o : SO) (s : Nat) (hs : SZ o s l) (g : Nat) (w : Post → Bool) (h : ∀ (p : Post), cc (ev X E0) g [Post.av p] [] = some (AV.b (w p), [])) (j : Nat) (es : List PV) (i : Nat) (y1 : Post) (g1 : (↑i : Int) < (↑(List.length (List.map Post.pv l)) : Int)) (g2 : l[i]? = some y1) (g3 : w y1 = false) :
    lv (cv (ev X E0) xf42_l0) (rl [1, 3, 2, 0, 0]) 0 (S62z l o s g (.own j 7 es) (↑i : Int)) = lv (cv (ev X E0) xf42_l0) (rl [1, 3, 2, 0, 0]) 0 (St.mk (tmOf 24 [(1, AV.c (.fn g [])), (5, AV.c (.own j 7 es)), (8, AV.c (.pv (.sl o s (List.map Post.pv l)))), (9, AV.c (vi (↑(List.length (List.map Post.pv l)) : Int))), (10, AV.c (vi (IntKind.wrap .i64 ((↑i : Int) + 1))))]) []) :=
  lv_next [.br true, .sz, .el (Post.pv y1), .call (AV.c (.pv (.bool (w y1)))) [], .br false]
    (c := [decide ((↑i : Int) < (↑(List.length (List.map Post.pv l)) : Int)) = true, SZ o s l, 0 ≤ (↑i : Int), (List.map Post.pv l)[i]? = some (Post.pv y1), cc (ev X E0) g [AV.agg (Post.cs y1)] [] = some (AV.c (.pv (.bool (w y1))), []), w y1 = false]) (by kernel_rfl)
    ⟨(dT g1), hs, (Int.natCast_nonneg _), (map_at g2), (h _), g3, trivial⟩
theorem l62zo_3 (l : List Post) (o : SO) (s : Nat) (_hs : SZ o s l) (g : Nat) (w : Post → Bool) (_h : ∀ (p : Post), cc (ev X E0) g [Post.av p] [] = some (AV.b (w p), [])) (j : Nat) (es : List PV) (i : Nat) (g1 : ¬(↑i : Int) < (↑(List.length (List.map Post.pv l)) : Int)) :
    lv (cv (ev X E0) xf42_l0) (rl [1, 3, 2, 0, 0]) 0 (S62z l o s g (.own j 7 es) (↑i : Int)) = some (XExit.exit 0, St.mk (tmOf 24 [(5, AV.c (.own j 7 es))]) []) :=
  lv_exit [.br false]
    (c := [decide ((↑i : Int) < (↑(List.length (List.map Post.pv l)) : Int)) = false]) (by kernel_rfl)
    ⟨(dF g1), trivial⟩
theorem a62z {l : List Post} {o : SO} {s : Nat} (hs : szOk 7 (CV.pv (PV.sl o s (List.map Post.pv l))) = true) {g : Nat} {w : Post → Bool} (h : ∀ p : Post, cc (ev X E0) g [Post.av p] [] = some (.b (w p), [])) (hl : l.length ≤ 1000000) (hc : ∀ p ∈ l, chk p = 0 ∧ Nice p) : ∀ (r pre : List Post), l = pre ++ r →
    lv (cv (ev X E0) xf42_l0) (rl [1, 3, 2, 0, 0]) 0 (S62z l o s g (outC (pre.filter w)) (pre.length : Nat)) = some (XExit.exit 0, St.mk (tmOf 24 [(5, AV.c (outC (l.filter w)))]) B62z)
  | [], pre, e => by
    rw [List.append_nil] at e
    subst e
    rcases outC_cases (l.filter w) with h0 | h0
    · rw [h0]; exact l62zn_3 l o s hs g w h l.length (by simp)
    · rw [h0]; exact l62zo_3 l o s hs g w h _ _ l.length (by simp)
  | y :: r, pre, e => by
    have hlen : l.length = pre.length + r.length + 1 := by rw [e]; simp; omega
    have hat : l[pre.length]? = some y := by rw [e]; simp
    have hlt := ltP (l := l) (i := pre.length) (by omega)
    obtain ⟨hy, hN⟩ := hc y (by rw [e]; simp)
    have ih := a62z hs h hl hc r (pre ++ [y]) (by rw [e]; simp)
    rw [List.length_append, List.length_singleton, Int.natCast_add, Int.natCast_one, List.filter_append] at ih
    have hfl : (pre.filter w).length ≤ pre.length := List.length_filter_le _ _
    cases hw : w y with
    | true =>
      rw [show [y].filter w = [y] by simp [hw]] at ih
      rcases outC_cases (pre.filter w) with h0 | h0
      · have st := l62zn_1 l o s hs g w h pre.length y hlt hat hw hy hN.so (by simp)
        rw [wi64 (by omega) (by omega)] at st
        rw [outC_nil h0, List.nil_append] at ih
        rw [h0]
        exact st.trans ih
      · have st := l62zo_1 l o s hs g w h 1407 (((pre.filter w).map sh).map Post.pv) pre.length y hlt hat hw hy hN.so (by simp only [List.length_map, List.length_singleton]; omega)
        rw [wi64 (by omega) (by omega)] at st
        rw [h0]
        rw [outC_snoc] at ih
        exact st.trans ih
    | false =>
      rw [show [y].filter w = [] by simp [hw], List.append_nil] at ih
      rcases outC_cases (pre.filter w) with h0 | h0
      · have st := l62zn_2 l o s hs g w h pre.length y hlt hat hw
        rw [wi64 (by omega) (by omega)] at st
        rw [h0] at ih ⊢
        exact st.trans ih
      · have st := l62zo_2 l o s hs g w h 1407 (((pre.filter w).map sh).map Post.pv) pre.length y hlt hat hw
        rw [wi64 (by omega) (by omega)] at st
        rw [h0] at ih ⊢
        exact st.trans ih
theorem f62zn_1 (l : List Post) (o : SO) (s g : Nat) (h : lv (cv (ev X E0) xf42_l0) (rl [1, 3, 2, 0, 0]) 0 (S62z l o s g (.pv (.sl SO.nil 0 [])) 0) = some (XExit.exit 0, St.mk (tmOf 24 [(5, AV.c (.pv (.sl SO.nil 0 [])))]) B62z)) :
    cc (ev X E0) 42 [AV.c (.pv (.sl o s (List.map Post.pv l))), AV.c (.fn g [])] [] = some (AV.c (.pv (.sl SO.nil 0 [])), []) :=
  cc_path (x := xf42) rfl [.loop (XExit.exit (0 : Nat)) (St.mk (tmOf (24 : Nat) [((5 : Nat), AV.c (.pv (.sl SO.nil (0 : Nat) [])))]) [])]
    (c := rq [ty h]) (by kernel_rfl)
    (aq ⟨h, trivial⟩)
theorem f62zo_1 (l : List Post) (o : SO) (s g : Nat) (es : List PV) (h : lv (cv (ev X E0) xf42_l0) (rl [1, 3, 2, 0, 0]) 0 (S62z l o s g (.pv (.sl SO.nil 0 [])) 0) = some (XExit.exit 0, St.mk (tmOf 24 [(5, AV.c (.own 1407 7 es))]) B62z)) :
    cc (ev X E0) 42 [AV.c (.pv (.sl o s (List.map Post.pv l))), AV.c (.fn g [])] [] = some (AV.c (.own 0 7 es), []) :=
  cc_path (x := xf42) rfl [.loop (XExit.exit 0) (St.mk (tmOf 24 [(5, AV.c (.own 1407 7 es))]) [])]
    (c := rq [ty h]) (by kernel_rfl)
    (aq ⟨h, trivial⟩)
theorem s62z {l : List Post} {o : SO} {s : Nat} (hs : szOk 7 (CV.pv (PV.sl o s (List.map Post.pv l))) = true) {g : Nat} {w : Post → Bool} (h : ∀ p : Post, cc (ev X E0) g [Post.av p] [] = some (.b (w p), [])) (hl : l.length ≤ 1000000) (hc : ∀ p ∈ l, chk p = 0 ∧ Nice p) : cc (ev X E0) 42 [AV.sl o s (l.map Post.pv), AV.c (.fn g [])] [] = some (AV.c (outA (l.filter w)), []) := by
  have a := a62z hs h hl hc l [] rfl
  rcases out_cases (l.filter w) with ⟨h0, h1⟩ | ⟨h0, h1⟩
  · rw [h0] at a; rw [h1]; exact f62zn_1 l o s g a
  · rw [h0] at a; rw [h1]; exact f62zo_1 l o s g _ a
end Go.Sx.Tryd
/- Books that may be: beginnings, order, copies. -/
namespace Go.Sx.Tryd
open Go Go.Sx
theorem rightFrom_append : ∀ (a pre b : List Post), rightFrom pre (a ++ b) = (rightFrom pre a && rightFrom (pre ++ a) b)
  | [], pre, b => by simp [rightFrom]
  | x :: a, pre, b => by
    simp only [List.cons_append, rightFrom]
    rw [rightFrom_append a (pre ++ [x]) b, Bool.and_assoc, List.append_assoc]
    rfl
theorem rightB_append (a b : List Post) : rightB (a ++ b) = (rightB a && rightFrom a b) := by
  unfold rightB
  rw [rightFrom_append a [] b]
  rfl
theorem rightB_snoc (l : List Post) (p : Post) : rightB (l ++ [p]) = (rightB l && (fullE l p == 0)) := by
  rw [rightB_append]
  simp [rightFrom]
def Shut (l : List Post) : Prop := ∀ p ∈ l, p.so = .shut
def numbered (b : List Post) (p : Post) : Post := { p with id := (b.length : Int) + 1 }
def put (b : List Post) (p : Post) : List Post := if fullE b (numbered b p) = 0 then b ++ [sh (numbered b p)] else b
def made (l : List Post) : List Post := l.foldl put []
structure Built (b : List Post) (n : Nat) : Prop where
  right : rightB b = true
  shut : Shut b
  nice : ∀ p ∈ b, Nice p
  len : b.length ≤ n
end Go.Sx.Tryd
/- What stands is what the book comes to. -/
namespace Go.Sx.Tryd
open Go Go.Sx
end Go.Sx.Tryd
/- Netting: plain numbers. -/
namespace Go.Sx.Tryd
structure Tr where
  fr : Nat
  to : Nat
  n : Int
def at0 (l : List Int) (i : Nat) : Int := l.getD i 0
def total : List Int → Int
  | [] => 0
  | x :: l => x + total l
def flow : List Tr → Nat → Int
  | [], _ => 0
  | t :: l, i => ((if t.to = i then t.n else 0) - (if t.fr = i then t.n else 0)) + flow l i
def Inv (net left : List Int) (out : List Tr) : Prop := left.length = net.length ∧ total left = 0 ∧ ∀ i, at0 net i = at0 left i + flow out i
end Go.Sx.Tryd
/- Netting: the book of a settlement. -/
namespace Go.Sx.Tryd
open Go Go.Sx
structure Tr.Ok (t : Tr) : Prop where
  fr : t.fr < 16
  to : t.to < 16
  ne : t.fr ≠ t.to
  lo : 1 ≤ t.n
  hi : t.n ≤ 100000000000000
theorem full_new {b : List Post} {p : Post} (hl : b.length < 400) (h0 : chk p = 0) (hid : p.id = (b.length : Int) + 1) (hk : lastKn b p.known = false) (hr : p.rev = 0) : fullE b p = 0 := by
  unfold fullE
  rw [if_pos h0]
  unfold nextE
  rw [if_neg (by omega), if_neg (by omega), if_neg (by rw [hk]; decide), if_pos hr]
end Go.Sx.Tryd
/- Netting: the book of a settlement, and of its reversal. -/
namespace Go.Sx.Tryd
open Go Go.Sx
theorem lastKn_all {b : List Post} {k : Int} (h : ∀ p ∈ b, p.known ≤ k) : lastKn b k = false := by
  unfold lastKn
  cases hl : b.getLast? with
  | none => rfl
  | some q =>
    have := h q (List.mem_of_getLast? hl)
    simp only [Option.elim_some, decide_eq_false_iff_not]
    omega
end Go.Sx.Tryd
/- What is taken of a hold: its book. -/
namespace Go.Sx.Tryd
open Go Go.Sx
def takeP (acc cur n id day : Int) : Post := ⟨id, day, day, .shut, [⟨acc, cur, n⟩, ⟨500, cur, -n⟩], 0, 0, []⟩
theorem chk_take {acc cur n id day : Int} (ha : 1 ≤ acc) (ha9 : acc ≤ 999) (hc : 0 ≤ cur) (hc4 : cur < 4) (hn : 1 ≤ n) (hn9 : n ≤ 1000000000000000) (h1 : 1 ≤ id) (h2 : id ≤ 1000000) (hd : datOk day = true) : chk (takeP acc cur n id day) = 0 := by
  have c1 : headed (takeP acc cur n id day) = true := by simp [headed, takeP, h1, h2]; omega
  have l1 : curOk cur = true := by simp [curOk]; omega
  have m1 : minOk n = true := by simp [minOk]; omega
  have m2 : minOk (-n) = true := by simp [minOk]; omega
  unfold chk
  rw [if_neg (by rw [c1]; decide), if_neg (by show ¬ datOk day = false; rw [hd]; decide), if_neg (by show ¬ datOk day = false; rw [hd]; decide), if_neg (by show ¬ (2 < 2); decide), if_neg (by show ¬ (16 < 2); decide)]
  rw [if_neg (by simp [takeP, accBad]; omega), if_neg (by simp [takeP, curBad, l1]), if_neg (by simp [takeP, overBad, l1, m1, m2]), if_neg (by simp [takeP, zeroBad]; omega)]
  rw [if_neg]
  have : bal (takeP acc cur n id day).legs = true := by
    have hcur : cur = 0 ∨ cur = 1 ∨ cur = 2 ∨ cur = 3 := by omega
    rcases hcur with rfl | rfl | rfl | rfl <;> simp [bal, takeP, sumCur] <;> omega
  rw [this]; decide
theorem take_on {acc cur n id day : Int} (h5 : acc ≠ 500) : sumIf (onW acc cur) (takeP acc cur n id day).legs = n := by
  simp only [takeP, sumIf, onW, beq_self_eq_true, Bool.and_true, beq_iff_eq]
  rw [if_pos trivial, if_neg (fun e => h5 e.symm)]
  omega
end Go.Sx.Tryd
