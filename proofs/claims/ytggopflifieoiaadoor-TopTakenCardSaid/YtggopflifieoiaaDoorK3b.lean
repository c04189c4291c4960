/- What is on an account. -/
import Derived.Test.YtggopflifieoiaaDoorK3
namespace Go.Sx.Tryd
open Go Go.Sx
theorem f88_1 (x : Leg) (acc cur : Int) (g1 : x.acc = acc) :
    cc (ev X E0) 117 [AV.agg (Leg.cs x), AV.c (.ptr 0 0), AV.c (.ptr 1 0)] [.cells [vi acc], .cells [vi cur]] = some (AV.c (.pv (.bool (x.cur == cur))), [.cells [vi acc], .cells [vi cur]]) :=
  cc_path (x := xf117) rfl (bs 6 true)
    (c := rq [(6, (x.acc == acc) = true)]) (by kernel_rfl)
    (aq ⟨(beq_iff_eq.mpr g1), trivial⟩)
theorem f88_2 (x : Leg) (acc cur : Int) (g1 : ¬x.acc = acc) :
    cc (ev X E0) 117 [AV.agg (Leg.cs x), AV.c (.ptr 0 0), AV.c (.ptr 1 0)] [.cells [vi acc], .cells [vi cur]] = some (AV.c (.pv (.bool false)), [.cells [vi acc], .cells [vi cur]]) :=
  cc_path (x := xf117) rfl (bs 6 false)
    (c := rq [(6, (x.acc == acc) = false)]) (by kernel_rfl)
    (aq ⟨(beq_eq_false_iff_ne.mpr g1), trivial⟩)
def onW (acc cur : Int) (x : Leg) : Bool := x.acc == acc && x.cur == cur
theorem s88 (acc cur : Int) (x : Leg) : cc (ev X E0) 117 [Leg.av x, AV.c (.ptr 0 0), AV.c (.ptr 1 0)] [Box.cells [.pv (.int .i64 acc)], Box.cells [.pv (.int .i64 cur)]] = some (.b (onW acc cur x), [Box.cells [.pv (.int .i64 acc)], Box.cells [.pv (.int .i64 cur)]]) := by
  by_cases h : x.acc = acc
  · rw [f88_1 x acc cur h, onW, beq_iff_eq.2 h, Bool.true_and]
  · rw [f88_2 x acc cur h, onW, beq_eq_false_iff_ne.2 h, Bool.false_and]
abbrev m87 : List Bool := [false, true, false, false, false, false, false, true, false, false, false, false, false, false, false, false, true, true, true]
abbrev S87 (p : Post) (acc cur n i : Int) : St := St.mk (tmOf 32 [(1, AV.c (CV.fn 117 [0, 1])), (7, AV.c (CV.pv (PV.int .i64 n))), (16, AV.c (CV.pv (PV.sl (Post.so p) 3 (List.map Leg.pv (Post.legs p))))), (17, AV.c (CV.pv (PV.int .i64 (↑(List.length (List.map Leg.pv (Post.legs p))) : Int)))), (18, AV.c (CV.pv (PV.int .i64 i)))]) [Box.cells [CV.pv (PV.int .i64 acc)], Box.cells [CV.pv (PV.int .i64 cur)], Box.cells (Post.cs p)]
theorem l87_1 (p : Post) (acc cur n : Int) (i : Nat) (y1 : Leg) (g1 : (↑i : Int) < (↑(List.length (List.map Leg.pv p.legs)) : Int)) (g2 : p.legs[i]? = some y1) (g3 : onW acc cur y1 = true) :
    lv (cv (ev X E0) xf116_l0) m87 3 (S87 p acc cur n (↑i : Int)) = lv (cv (ev X E0) xf116_l0) m87 3 (St.mk (tmOf 32 [(1, AV.c (.fn 117 [0, 1])), (7, AV.c (vi (IntKind.wrap .i64 (n + y1.minor)))), (16, AV.c (.pv (.sl p.so 3 (List.map Leg.pv p.legs)))), (17, AV.c (vi (↑(List.length (List.map Leg.pv p.legs)) : Int))), (18, AV.c (vi (IntKind.wrap .i64 ((↑i : Int) + 1))))]) [.cells [vi acc], .cells [vi cur], .cells (Post.cs p)]) :=
  lv_next [.br true, .el (Leg.pv y1), .call (AV.c (.pv (.bool (onW acc cur y1)))) [.cells [vi acc], .cells [vi cur]], .br true]
    (c := [decide ((↑i : Int) < (↑(List.length (List.map Leg.pv p.legs)) : Int)) = true, 0 ≤ (↑i : Int), (List.map Leg.pv p.legs)[i]? = some (Leg.pv y1), cc (ev X E0) 117 [AV.agg (Leg.cs y1), AV.c (.ptr 0 0), AV.c (.ptr 1 0)] [.cells [vi acc], .cells [vi cur]] = some (AV.c (.pv (.bool (onW acc cur y1))), [.cells [vi acc], .cells [vi cur]]), onW acc cur y1 = true]) (by kernel_rfl)
    ⟨(dT g1), (Int.natCast_nonneg _), (map_at g2), (s88 _ _ _), g3, trivial⟩
theorem l87_2 (p : Post) (acc cur n : Int) (i : Nat) (y1 : Leg) (g1 : (↑i : Int) < (↑(List.length (List.map Leg.pv p.legs)) : Int)) (g2 : p.legs[i]? = some y1) (g3 : onW acc cur y1 = false) :
    lv (cv (ev X E0) xf116_l0) m87 3 (S87 p acc cur n (↑i : Int)) = lv (cv (ev X E0) xf116_l0) m87 3 (St.mk (tmOf 32 [(1, AV.c (.fn 117 [0, 1])), (7, AV.c (vi n)), (16, AV.c (.pv (.sl p.so 3 (List.map Leg.pv p.legs)))), (17, AV.c (vi (↑(List.length (List.map Leg.pv p.legs)) : Int))), (18, AV.c (vi (IntKind.wrap .i64 ((↑i : Int) + 1))))]) [.cells [vi acc], .cells [vi cur], .cells (Post.cs p)]) :=
  lv_next [.br true, .el (Leg.pv y1), .call (AV.c (.pv (.bool (onW acc cur y1)))) [.cells [vi acc], .cells [vi cur]], .br false]
    (c := [decide ((↑i : Int) < (↑(List.length (List.map Leg.pv p.legs)) : Int)) = true, 0 ≤ (↑i : Int), (List.map Leg.pv p.legs)[i]? = some (Leg.pv y1), cc (ev X E0) 117 [AV.agg (Leg.cs y1), AV.c (.ptr 0 0), AV.c (.ptr 1 0)] [.cells [vi acc], .cells [vi cur]] = some (AV.c (.pv (.bool (onW acc cur y1))), [.cells [vi acc], .cells [vi cur]]), onW acc cur y1 = false]) (by kernel_rfl)
    ⟨(dT g1), (Int.natCast_nonneg _), (map_at g2), (s88 _ _ _), g3, trivial⟩
theorem l87_3 (p : Post) (acc cur n : Int) (i : Nat) (g1 : ¬(↑i : Int) < (↑(List.length (List.map Leg.pv p.legs)) : Int)) :
    lv (cv (ev X E0) xf116_l0) m87 3 (S87 p acc cur n (↑i : Int)) = some (XExit.exit 0, St.mk (tmOf 32 [(7, AV.c (vi n))]) [.cells [vi acc], .cells [vi cur], .cells (Post.cs p)]) :=
  lv_exit [.br false]
    (c := [decide ((↑i : Int) < (↑(List.length (List.map Leg.pv p.legs)) : Int)) = false]) (by kernel_rfl)
    ⟨(dF g1), trivial⟩
def sumIf (w : Leg → Bool) : List Leg → Int
  | [] => 0
  | x :: r => (if w x = true then x.minor else 0) + sumIf w r
theorem sumIf_append (w : Leg → Bool) (a b : List Leg) : sumIf w (a ++ b) = sumIf w a + sumIf w b := by
  induction a with
  | nil => simp [sumIf]
  | cons x r ih => simp only [List.cons_append, sumIf, ih]; omega
theorem sumIf_bound {w : Leg → Bool} : ∀ {l : List Leg}, (∀ x ∈ l, minOk x.minor = true) → -(1000000000000000 * (l.length : Int)) ≤ sumIf w l ∧ sumIf w l ≤ 1000000000000000 * (l.length : Int)
  | [], _ => by simp [sumIf]
  | x :: r, h => by
    have h1 := h x (by simp)
    have ih := sumIf_bound (w := w) (l := r) fun y hy => h y (by simp [hy])
    simp only [minOk, decide_eq_true_eq] at h1
    simp only [sumIf, List.length_cons, Int.natCast_add, Int.natCast_one]
    split <;> omega
theorem al87 {p : Post} {acc cur : Int} (hl : p.legs.length ≤ 100) (hm : ∀ x ∈ p.legs, minOk x.minor = true) : ∀ (r pre : List Leg), p.legs = pre ++ r →
    lv (cv (ev X E0) xf116_l0) m87 3 (S87 p acc cur (sumIf (onW acc cur) pre) (pre.length : Nat)) = some (XExit.exit 0, St.mk (tmOf 32 [(7, AV.c (CV.pv (PV.int .i64 (sumIf (onW acc cur) p.legs))))]) [Box.cells [CV.pv (PV.int .i64 acc)], Box.cells [CV.pv (PV.int .i64 cur)], Box.cells (Post.cs p)])
  | [], pre, e => by
    rw [List.append_nil] at e
    rw [← e]
    exact l87_3 p acc cur _ p.legs.length (by simp)
  | y :: r, pre, e => by
    have hlen : p.legs.length = pre.length + r.length + 1 := by rw [e]; simp; omega
    have hat : p.legs[pre.length]? = some y := by rw [e]; simp
    have hlt : ((pre.length : Nat) : Int) < (((p.legs.map Leg.pv).length : Nat) : Int) := by rw [List.length_map]; omega
    have hb := sumIf_bound (w := onW acc cur) (l := pre) fun x hx => hm x (by rw [e]; simp [hx])
    have hy := hm y (by rw [e]; simp)
    simp only [minOk, decide_eq_true_eq] at hy
    have ih := al87 (acc := acc) (cur := cur) hl hm r (pre ++ [y]) (by rw [e]; simp)
    simp only [sumIf_append, List.length_append, List.length_singleton, Int.natCast_add, sumIf] at ih
    cases hw : onW acc cur y with
    | true =>
      have st := l87_1 p acc cur (sumIf (onW acc cur) pre) pre.length y hlt hat hw
      rw [wi64 (by omega) (by omega), wi64 (by omega) (by omega)] at st
      simp [hw] at ih
      exact st.trans ih
    | false =>
      have st := l87_2 p acc cur (sumIf (onW acc cur) pre) pre.length y hlt hat hw
      rw [wi64 (by omega) (by omega)] at st
      simp [hw] at ih
      exact st.trans ih
abbrev f87_hl (p : Post) (e acc cur : Int) : Prop := e = 0 → lv (cv (ev X E0) xf116_l0) m87 3 (S87 p acc cur 0 0) = some (XExit.exit 0, St.mk (tmOf 32 [(7, AV.c (vi (sumIf (onW acc cur) p.legs)))]) [.cells [vi acc], .cells [vi cur], .cells (Post.cs p)])
theorem f87_1 (p : Post) (e : Int) (h : cc (ev X E0) 36 [Post.av p] [] = some (AV.i e, [])) (acc cur : Int) (_hl : f87_hl p e acc cur) (g1 : ¬e = 0) :
    cc (ev X E0) 116 [AV.agg (Post.cs p), AV.c (.fn 117 [0, 1])] [.cells [vi acc], .cells [vi cur]] = some (AV.tup [AV.c (vi 0), AV.c (vi e)], [.cells [vi acc], .cells [vi cur]]) :=
  cc_path (x := xf116) rfl [.call (AV.c (vi e)) [], .br true]
    (c := rq [ty h, (1, (e != 0) = true)]) (by kernel_rfl)
    (aq ⟨h, (bne_iff_ne.mpr g1), trivial⟩)
theorem f87_2 (p : Post) (e : Int) (h : cc (ev X E0) 36 [Post.av p] [] = some (AV.i e, [])) (acc cur : Int) (hl : f87_hl p e acc cur) (g1 : e = 0) :
    cc (ev X E0) 116 [AV.agg (Post.cs p), AV.c (.fn 117 [0, 1])] [.cells [vi acc], .cells [vi cur]] = some (AV.tup [AV.c (vi (sumIf (onW acc cur) p.legs)), AV.c (vi 0)], [.cells [vi acc], .cells [vi cur]]) :=
  cc_path (x := xf116) rfl [.call (AV.c (vi e)) [], .br false, .loop (XExit.exit 0) (St.mk (tmOf 32 [(7, AV.c (vi (sumIf (onW acc cur) p.legs)))]) [.cells [vi acc], .cells [vi cur], .cells (Post.cs p)])]
    (c := rq [ty h, (1, (e != 0) = false), (1, lv (cv (ev X E0) xf116_l0) (rl [1, 5, 8, 0, 0]) 3 (St.mk (tmOf 32 [(1, AV.c (.fn 117 [0, 1])), (7, AV.c (vi 0)), (16, AV.c (.pv (.sl p.so 3 (List.map Leg.pv p.legs)))), (17, AV.c (vi (↑(List.length (List.map Leg.pv p.legs)) : Int))), (18, AV.c (vi 0))]) [.cells [vi acc], .cells [vi cur], .cells (Post.cs p)]) = some (XExit.exit 0, St.mk (tmOf 32 [(7, AV.c (vi (sumIf (onW acc cur) p.legs)))]) [.cells [vi acc], .cells [vi cur], .cells (Post.cs p)]))]) (by kernel_rfl)
    (aq ⟨h, (bne_f g1), (hl g1), trivial⟩)
theorem f40_1 (p : Post) (acc cur n e : Int) (h : cc (ev X E0) 116 [Post.av p, AV.c (.fn 117 [0, 1])] [.cells [vi acc], .cells [vi cur]] = some (AV.tup [AV.i n, AV.i e], [.cells [vi acc], .cells [vi cur]])) :
    cc (ev X E0) 73 [AV.agg (Post.cs p), AV.c (vi acc), AV.c (vi cur)] [] = some (AV.tup [AV.c (vi n), AV.c (vi e)], []) :=
  cc_path (x := xf73) rfl [.call (AV.tup [AV.c (vi n), AV.c (vi e)]) [.cells [vi acc], .cells [vi cur]]]
    (c := rq [ty h]) (by kernel_rfl)
    (aq ⟨h, trivial⟩)
def onV (p : Post) (acc cur : Int) : Int := if chk p = 0 then sumIf (onW acc cur) p.legs else 0
theorem s40 (p : Post) (acc cur : Int) (hm : p.memo.length ≤ 1000000) (hl : p.legs.length ≤ 4000000000000000000) : cc (ev X E0) 73 [Post.av p, AV.i acc, AV.i cur] [] = some (.tup [AV.i (onV p acc cur), AV.i (chk p)], []) := by
  have h := s37 p hm hl
  refine f40_1 p acc cur _ _ ?_
  unfold onV
  by_cases c : chk p = 0
  · rw [if_pos c]
    have hi := chk_inv c
    have := f87_2 p _ h acc cur (fun _ => al87 (by omega) hi.2.2.2.2.2.2.2.1 p.legs [] rfl) c
    rw [c]; exact this
  · rw [if_neg c]
    exact f87_1 p _ h acc cur (fun e => absurd e c) c
end Go.Sx.Tryd
