/- Orders: what they come to. -/
import Derived.Test.YtggopflifieoiaaDoorO1
namespace Go.Sx.Tryd
open Go Go.Sx
theorem cc_of_rv {f : Nat} {xf : XFunc} (hx : X f = some xf) {args : List AV} {r : AV × List Box} (h : rv (ev X E0) xf args [] = some r) {r' : AV × List Box} (hc : canon r = some r') : cc (ev X E0) f args [] = some r' := by
  show (ev X E0 f args []).bind canon = _
  rw [rv_ev hx h]
  exact hc
theorem os51a (x : Odr) : ∃ t3, cv (ev X E0) c51a (St.mk (tmOf 76 [(1, AV.c (CV.ptr 0 0))]) (OB x)) = some (XExit.normal, St.mk (tmOf 76 [(1, AV.c (CV.ptr 0 0)), (3, AV.c (CV.pv (PV.bool t3)))]) (OB x)) := by
  cases c1 : wthn x.fr 1 999 with
  | false => exact ⟨_, oc51a_3 x c1⟩
  | true =>
    cases c2 : wthn x.to 1 999 with
    | false => exact ⟨_, oc51a_2 x c1 c2⟩
    | true => exact ⟨_, oc51a_1 x c1 c2⟩
theorem os51b (x : Odr) (t3 : Bool) : ∃ t4, cv (ev X E0) c51b (St.mk (tmOf 76 [(1, AV.c (CV.ptr 0 0)), (3, AV.c (CV.pv (PV.bool t3)))]) (OB x)) = some (XExit.normal, St.mk (tmOf 76 [(1, AV.c (CV.ptr 0 0)), (3, AV.c (CV.pv (PV.bool t3))), (4, AV.c (CV.pv (PV.bool t4)))]) (OB x)) := by
  have h30 := s82 x.cur x.minor
  cases c1 : (curOk x.cur && minOk x.minor) with
  | false => rw [c1] at h30; exact ⟨_, oc51b_4 x t3 false h30 rfl⟩
  | true =>
    rw [c1] at h30
    by_cases c2 : x.minor > 0
    · exact ⟨_, oc51b_1 x t3 true h30 rfl c2⟩
    · by_cases c3 : x.minor = 0
      · exact ⟨_, oc51b_2 x t3 true h30 rfl c2 c3⟩
      · exact ⟨_, oc51b_3 x t3 true h30 rfl c2 c3⟩
theorem os51c (x : Odr) (t3 t4 : Bool) : ∃ t5, cv (ev X E0) c51c (St.mk (tmOf 76 [(1, AV.c (CV.ptr 0 0)), (3, AV.c (CV.pv (PV.bool t3))), (4, AV.c (CV.pv (PV.bool t4)))]) (OB x)) = some (XExit.normal, St.mk (tmOf 76 [(1, AV.c (CV.ptr 0 0)), (3, AV.c (CV.pv (PV.bool t3))), (4, AV.c (CV.pv (PV.bool t4))), (5, AV.c (CV.pv (PV.bool t5)))]) (OB x)) := by
  cases c1 : datOk x.first with
  | false => exact ⟨_, oc51c_3 x t3 t4 c1⟩
  | true =>
    cases c2 : wthn x.months 1 12 with
    | false => exact ⟨_, oc51c_2 x t3 t4 c1 c2⟩
    | true => exact ⟨_, oc51c_1 x t3 t4 c1 c2⟩
theorem os51d (x : Odr) (t3 t4 t5 : Bool) : ∃ r, cv (ev X E0) c51d (St.mk (tmOf 76 [(1, AV.c (CV.ptr 0 0)), (3, AV.c (CV.pv (PV.bool t3))), (4, AV.c (CV.pv (PV.bool t4))), (5, AV.c (CV.pv (PV.bool t5)))]) (OB x)) = some (XExit.ret, St.mk (tmOf 76 [(2, AV.c (CV.pv (PV.bool r)))]) (OB x)) ∧ (r = true → wthn x.how 0 2 = true) := by
  cases c1 : wthn x.id 1 1000000 with
  | false => exact ⟨_, oc51d_6 x t3 t4 t5 c1, fun h => by cases h⟩
  | true =>
    cases c2 : wthn x.kind 0 2 with
    | false => exact ⟨_, oc51d_5 x t3 t4 t5 c1 c2, fun h => by cases h⟩
    | true =>
      cases t3 with
      | false => exact ⟨_, oc51d_4 x _ t4 t5 c1 c2 rfl, fun h => by cases h⟩
      | true =>
        cases t4 with
        | false => exact ⟨_, oc51d_3 x _ _ t5 c1 c2 rfl rfl, fun h => by cases h⟩
        | true =>
          cases t5 with
          | false => exact ⟨_, oc51d_2 x _ _ _ c1 c2 rfl rfl rfl, fun h => by cases h⟩
          | true => exact ⟨_, oc51d_1 x _ _ _ c1 c2 rfl rfl rfl, fun h => h⟩
theorem os51 (x : Odr) : ∃ r, cc (ev X E0) 51 [Odr.av x] [] = some (.b r, []) ∧ (r = true → wthn x.how 0 2 = true) := by
  obtain ⟨t3, ha⟩ := os51a x
  obtain ⟨t4, hb⟩ := os51b x t3
  obtain ⟨t5, hc⟩ := os51c x t3 t4
  obtain ⟨r, hd, hr⟩ := os51d x t3 t4 t5
  refine ⟨r, cc_of_rv (xf := xf51) rfl (r := (.b r, [])) ?_ rfl, hr⟩
  have hz := oc51z_1 x
  have hbody : XFunc.body xf51 = .seq c51z (.seq c51a (.seq c51b (.seq c51c c51d))) := rfl
  have e0 : St.mk ([Odr.av x] ++ List.replicate (xf51.nt - 1) .undef) [] = St.mk (tmOf 76 [(0, Odr.av x)]) [] := rfl
  unfold rv
  rw [hbody]
  show (match cv (ev X E0) (.seq c51z (.seq c51a (.seq c51b (.seq c51c c51d)))) (St.mk ([Odr.av x] ++ List.replicate (xf51.nt - 1) .undef) []) with
    | some (.exit _, _) => none
    | some (_, st) => match getRes st xf51.res with
      | some vs => if vs.all noTup then some (leave 0 (packRes vs) st.bx) else none
      | none => none
    | none => none) = _
  rw [e0]
  simp only [cv, hz, ha, hb, hc, hd]
  rfl
theorem og50_1 (x : Odr) (r : Bool) (h : cc (ev X E0) 51 [Odr.av x] [] = some (AV.b r, [])) :
    cc (ev X E0) 50 [AV.agg [vi (Odr.id x), vi (Odr.kind x), vi (Odr.fr x), vi (Odr.to x), vi (Odr.cur x), vi (Odr.minor x), vw (Odr.first x), vi (Odr.months x), vi (Odr.many x), vi (Odr.how x)]] [] = some (AV.c (.pv (.bool !r)), []) :=
  cc_path (x := xf50) rfl [.call (AV.c (.pv (.bool r))) []]
    (c := rq [ty h]) (by kernel_rfl)
    (aq ⟨h, trivial⟩)
abbrev OS97 (x : Odr) (i : Int) : St := St.mk (tmOf 19 [(0, AV.c (CV.pv (PV.sl .full 10 [Odr.pv x]))), (1, AV.c (CV.fn 50 [])), (7, AV.c (CV.pv (PV.int .i64 1))), (8, AV.c (CV.pv (PV.int .i64 i)))]) []
theorem ol97a_1 (x : Odr) (w : Bool) (h : cc (ev X E0) 50 [Odr.av x] [] = some (AV.b w, [])) (g1 : w = true) :
    lv (cv (ev X E0) xf97_l0) (rl [0, 0, 5, 0]) 0 (OS97 x 0) = some (XExit.ret, St.mk (tmOf 19 [(4, AV.c (vi 0))]) []) :=
  lv_ret [.br true, .call (AV.c (.pv (.bool w))) [], .br true]
    (c := rq [(1, true = true), ty h, (1, w = true)]) (by kernel_rfl)
    (aq ⟨rfl, h, g1, trivial⟩)
theorem ol97a_2 (x : Odr) (w : Bool) (h : cc (ev X E0) 50 [Odr.av x] [] = some (AV.b w, [])) (g1 : w = false) :
    lv (cv (ev X E0) xf97_l0) (rl [0, 0, 5, 0]) 0 (OS97 x 0) = lv (cv (ev X E0) xf97_l0) (rl [0, 0, 5, 0]) 0 (St.mk (tmOf 19 [(0, AV.c (.pv (.sl SO.full 10 [PV.agg [PV.int .i64 (Odr.id x), .int .i64 (Odr.kind x), .int .i64 (Odr.fr x), .int .i64 (Odr.to x), .int .i64 (Odr.cur x), .int .i64 (Odr.minor x), .int .i32 (Odr.first x), .int .i64 (Odr.months x), .int .i64 (Odr.many x), .int .i64 (Odr.how x)]]))), (1, AV.c (.fn 50 [])), (7, AV.c (vi 1)), (8, AV.c (vi 1))]) []) :=
  lv_next [.br true, .call (AV.c (.pv (.bool w))) [], .br false]
    (c := rq [(1, true = true), ty h, (1, w = false)]) (by kernel_rfl)
    (aq ⟨rfl, h, g1, trivial⟩)
theorem ol97b_1 (x : Odr) :
    lv (cv (ev X E0) xf97_l0) (rl [0, 0, 5, 0]) 0 (OS97 x 1) = some (XExit.exit 0, St.mk (tmOf 19 []) []) :=
  lv_exit [.br false]
    (c := [false = false]) (by kernel_rfl)
    ⟨rfl, trivial⟩
theorem og97_1 (x : Odr) (h : lv (cv (ev X E0) xf97_l0) (rl [0, 0, 5, 0]) 0 (OS97 x 0) = some (XExit.exit 0, St.mk (tmOf 19 []) [])) :
    cc (ev X E0) 97 [AV.c (.pv (.sl SO.full 10 [PV.agg [PV.int .i64 (Odr.id x), .int .i64 (Odr.kind x), .int .i64 (Odr.fr x), .int .i64 (Odr.to x), .int .i64 (Odr.cur x), .int .i64 (Odr.minor x), .int .i32 (Odr.first x), .int .i64 (Odr.months x), .int .i64 (Odr.many x), .int .i64 (Odr.how x)]])), AV.c (.fn 50 [])] [] = some (AV.c (vi (-1)), []) :=
  cc_path (x := xf97) rfl [.loop (XExit.exit (0 : Nat)) (St.mk (tmOf (19 : Nat) []) [])]
    (c := rq [ty h]) (by kernel_rfl)
    (aq ⟨h, trivial⟩)
theorem og97r_1 (x : Odr) (h : lv (cv (ev X E0) xf97_l0) (rl [0, 0, 5, 0]) 0 (OS97 x 0) = some (XExit.ret, St.mk (tmOf 19 [(4, AV.c (vi 0))]) [])) :
    cc (ev X E0) 97 [AV.c (.pv (.sl SO.full 10 [PV.agg [PV.int .i64 (Odr.id x), .int .i64 (Odr.kind x), .int .i64 (Odr.fr x), .int .i64 (Odr.to x), .int .i64 (Odr.cur x), .int .i64 (Odr.minor x), .int .i32 (Odr.first x), .int .i64 (Odr.months x), .int .i64 (Odr.many x), .int .i64 (Odr.how x)]])), AV.c (.fn 50 [])] [] = some (AV.c (vi 0), []) :=
  cc_path (x := xf97) rfl [.loop XExit.ret (St.mk (tmOf (19 : Nat) [((4 : Nat), AV.c (vi (0 : Int)))]) [])]
    (c := rq [ty h]) (by kernel_rfl)
    (aq ⟨h, trivial⟩)
theorem og52_1 (x : Odr) (j : Int) (h : cc (ev X E0) 97 [AV.sl SO.full 10 [Odr.pv x], AV.c (.fn 50 [])] [] = some (AV.i j, [])) :
    cc (ev X E0) 52 [AV.c (.pv (.sl SO.full 10 [PV.agg [PV.int .i64 (Odr.id x), .int .i64 (Odr.kind x), .int .i64 (Odr.fr x), .int .i64 (Odr.to x), .int .i64 (Odr.cur x), .int .i64 (Odr.minor x), .int .i32 (Odr.first x), .int .i64 (Odr.months x), .int .i64 (Odr.many x), .int .i64 (Odr.how x)]])), AV.c (.fn 50 [])] [] = some (AV.c (.pv (.bool (decide (j ≥ 0)))), []) :=
  cc_path (x := xf52) rfl [.call (AV.c (vi j)) []]
    (c := rq [ty h]) (by kernel_rfl)
    (aq ⟨h, trivial⟩)
abbrev OS18 (x : Odr) (i : Int) : St := St.mk (tmOf 29 [(0, AV.c (CV.pv (PV.sl .full 10 [Odr.pv x]))), (4, AV.c (CV.pv (PV.int .i64 i)))]) []
theorem ol18_1 (x : Odr) :
    lv (cv (ev X E0) xf18_l0) (rl [0, 3]) 0 (OS18 x 1) = some (XExit.exit 0, St.mk (tmOf 29 [(0, AV.c (.pv (.sl SO.full 10 [PV.agg [PV.int .i64 (Odr.id x), .int .i64 (Odr.kind x), .int .i64 (Odr.fr x), .int .i64 (Odr.to x), .int .i64 (Odr.cur x), .int .i64 (Odr.minor x), .int .i32 (Odr.first x), .int .i64 (Odr.months x), .int .i64 (Odr.many x), .int .i64 (Odr.how x)]])))]) []) :=
  lv_exit [.br false]
    (c := [false = false]) (by kernel_rfl)
    ⟨rfl, trivial⟩
abbrev og18_hl (x : Odr) : Prop := lv (cv (ev X E0) xf18_l0) (rl [0, 3]) 0 (OS18 x 1) = some (XExit.exit 0, St.mk (tmOf 29 [(0, AV.c (.pv (.sl SO.full 10 [Odr.pv x])))]) [])
theorem og18_1 (x : Odr) (w : Bool) (h : cc (ev X E0) 52 [AV.sl SO.full 10 [Odr.pv x], AV.c (.fn 50 [])] [] = some (AV.b w, [])) (_hl : og18_hl x) (g1 : w = true) :
    cc (ev X E0) 18 [AV.c (.pv (.sl SO.full 10 [PV.agg [PV.int .i64 (Odr.id x), .int .i64 (Odr.kind x), .int .i64 (Odr.fr x), .int .i64 (Odr.to x), .int .i64 (Odr.cur x), .int .i64 (Odr.minor x), .int .i32 (Odr.first x), .int .i64 (Odr.months x), .int .i64 (Odr.many x), .int .i64 (Odr.how x)]]))] [] = some (AV.c (vi 1), []) :=
  cc_path (x := xf18) rfl [.call (AV.c (.pv (.bool w))) [], .br true]
    (c := rq [ty h, (1, w = true)]) (by kernel_rfl)
    (aq ⟨h, g1, trivial⟩)
theorem og18_2 (x : Odr) (w : Bool) (h : cc (ev X E0) 52 [AV.sl SO.full 10 [Odr.pv x], AV.c (.fn 50 [])] [] = some (AV.b w, [])) (hl : og18_hl x) (g1 : w = false) :
    cc (ev X E0) 18 [AV.c (.pv (.sl SO.full 10 [PV.agg [PV.int .i64 (Odr.id x), .int .i64 (Odr.kind x), .int .i64 (Odr.fr x), .int .i64 (Odr.to x), .int .i64 (Odr.cur x), .int .i64 (Odr.minor x), .int .i32 (Odr.first x), .int .i64 (Odr.months x), .int .i64 (Odr.many x), .int .i64 (Odr.how x)]]))] [] = some (AV.c (vi 0), []) :=
  cc_path (x := xf18) rfl [.call (AV.c (.pv (.bool w))) [], .br false, .loop (XExit.exit 0) (St.mk (tmOf 29 [(0, AV.c (.pv (.sl SO.full 10 [PV.agg [PV.int .i64 (Odr.id x), .int .i64 (Odr.kind x), .int .i64 (Odr.fr x), .int .i64 (Odr.to x), .int .i64 (Odr.cur x), .int .i64 (Odr.minor x), .int .i32 (Odr.first x), .int .i64 (Odr.months x), .int .i64 (Odr.many x), .int .i64 (Odr.how x)]])))]) []), .br false]
    (c := rq [ty h, (1, w = false), ty hl, (1, false = false)]) (by kernel_rfl)
    (aq ⟨h, g1, hl, rfl, trivial⟩)
end Go.Sx.Tryd
