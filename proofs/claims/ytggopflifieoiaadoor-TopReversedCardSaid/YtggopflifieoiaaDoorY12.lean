/- TopReversed: paths of the whole. -/
import Derived.Test.YtggopflifieoiaaDoorY10
import Derived.Test.YtggopflifieoiaaDoorSxTab
namespace Go.Sx.Tryd
open Go Go.Sx
abbrev cut100 (l : List Cl) : List PV := List.take (Int.toNat (if 100 < (↑(List.length (List.map Cl.pv l)) : Int) then 100 else (↑(List.length (List.map Cl.pv l)) : Int))) (List.map Cl.pv l)
theorem yg3a_1 (l : List Cl) (o : SO) (cur kn va e : Int) (he : ¬e = 0) (h8 : cc (ev X E0) 8 [AV.sl SO.shut 6 (List.take (Int.toNat (if 100 < (↑(List.length (List.map Cl.pv l)) : Int) then 100 else (↑(List.length (List.map Cl.pv l)) : Int))) (List.map Cl.pv l)), AV.i cur, AV.int IntKind.i32 5] [] = some (AV.tup [AV.c nilC, AV.i e], [])) (h9 : cc (ev X E0) (9 : Nat) [] [] = some (AV.b true, [])) (g1 : CV.some' (.pv (.sl o 6 (List.map Cl.pv l))) = true) (g2 : 0 ≤ if 100 < (↑(List.length (List.map Cl.pv l)) : Int) then 100 else (↑(List.length (List.map Cl.pv l)) : Int)) (g3 : (if 100 < (↑(List.length (List.map Cl.pv l)) : Int) then 100 else (↑(List.length (List.map Cl.pv l)) : Int)) ≤ (↑(List.length (List.map Cl.pv l)) : Int)) :
    cc (ev X E0) 3 [AV.c (.pv (.sl o 6 (List.map Cl.pv l))), AV.c (vi cur), AV.c (vi kn), AV.c (vi va)] [] = some (AV.c (.pv (.bool true)), []) :=
  cc_path (x := xf3) rfl ([.nn, .call (AV.tup [AV.c (.pv (.sl SO.nil 0 [])), AV.c (vi e)]) [], .br true, .call (AV.c (.pv (.bool true))) []] ++ bs 4 true)
    (c := rq [(1, szOk 6 (.pv (.sl o 6 (List.map Cl.pv l))) = true), ty g1, (1, (0 : Int) ≤ (0 : Int)), ty g2, ty g3, ty h8, (1, (e != 0) = true), ty h9, (4, true = true)]) (by kernel_rfl)
    (aq ⟨rfl, g1, (Int.le_refl _), g2, g3, h8, (bne_iff_ne.mpr he), h9, rfl, trivial⟩)
theorem yg3b_1 (l : List Cl) (o : SO) (cur kn va k v : Int) (net : List Int) (to : SO) (tz : Nat) (ts : List Tr) (bo bo' : SO) (bz bz' : Nat) (b b' : List Post) (h8 : cc (ev X E0) 8 [AV.sl SO.shut 6 (List.take (Int.toNat (if 100 < (↑(List.length (List.map Cl.pv l)) : Int) then 100 else (↑(List.length (List.map Cl.pv l)) : Int))) (List.map Cl.pv l)), AV.i cur, AV.int IntKind.i32 5] [] = some (AV.tup [netI net, AV.i 0], [])) (hlen : (↑(List.length (List.map i64P net)) : Int) = 16) (h10 : cc (ev X E0) 10 [netI net] [] = some (AV.tup [AV.c (.pv (.sl to tz (List.map Tr.pv ts))), AV.i 0], [])) (h30 : lv (cv (ev X E0) xf3_l0) (rl [1, 0, 0, 5, 0, 3, 52, 0, 0]) 1 (YS30 cur kn va net SO.nil 0 [] to tz ts 0) = some (XExit.exit 0, St.mk (tmOf 186 [(1, AV.c (vi cur)), (2, AV.c (vi kn)), (3, AV.c (vi va)), (9, AV.c (vw 5)), (10, AV.c (.pv (.sl SO.shut 1 (List.map i64P net)))), (14, AV.c (.ptr 0 0))]) [.cells [.pv (.sl bo bz (List.map Post.pv b))]])) (h31 : lv (cv (ev X E0) xf3_l1) (rl [1, 0, 0, 5, 0, 3, 81, 0]) 1 (YS31 cur kn va net bo bz b (↑(List.length (List.map Post.pv b)) : Int) 0) = some (XExit.exit 2, St.mk (tmOf 186 [(1, AV.c (vi cur)), (2, AV.c (vi kn)), (3, AV.c (vi va)), (9, AV.c (vw 5)), (10, AV.c (.pv (.sl SO.shut 1 (List.map i64P net)))), (14, AV.c (.ptr 0 0))]) [.cells [.pv (.sl bo' bz' (List.map Post.pv b'))]])) (h15 : cc (ev X E0) 15 [AV.i kn, AV.i 30] [] = some (AV.i k, [])) (h16 : cc (ev X E0) 15 [AV.i va, AV.i 12] [] = some (AV.i v, [])) (h32 : lv (cv (ev X E0) xf3_l2) (rl [1, 7, 4, 10, 0, 106, 0, 0]) 1 (YS32 cur (IntKind.wrap .i32 k) (IntKind.wrap .i32 v) net bo' bz' b' 0) = some (XExit.exit 4, St.mk (tmOf 186 [(14, AV.c (.ptr 0 0))]) [.cells [.pv (.sl bo' bz' (List.map Post.pv b'))]])) (h17 : cs (ev X E0) 17 [Bk bo' bz' b'] = some (AV.tup [AV.c (.pv (.sl SO.nil 0 [])), AV.i 0])) (h9 : cc (ev X E0) (9 : Nat) [] [] = some (AV.b true, [])) (g1 : CV.some' (.pv (.sl o 6 (List.map Cl.pv l))) = true) (g2 : 0 ≤ if 100 < (↑(List.length (List.map Cl.pv l)) : Int) then 100 else (↑(List.length (List.map Cl.pv l)) : Int)) (g3 : (if 100 < (↑(List.length (List.map Cl.pv l)) : Int) then 100 else (↑(List.length (List.map Cl.pv l)) : Int)) ≤ (↑(List.length (List.map Cl.pv l)) : Int)) :
    cc (ev X E0) 3 [AV.c (.pv (.sl o 6 (List.map Cl.pv l))), AV.c (vi cur), AV.c (vi kn), AV.c (vi va)] [] = some (AV.c (.pv (.bool true)), []) :=
  cc_path (x := xf3) rfl ([.nn, .call (AV.tup [AV.c (.pv (.sl SO.shut 1 (List.map i64P net))), AV.c (vi 0)]) [], .br false, .call (AV.tup [AV.c (.pv (.sl to tz (List.map Tr.pv ts))), AV.c (vi 0)]) []] ++ bs 5 false ++ [.loop (XExit.exit 0) (St.mk (tmOf 186 [(1, AV.c (vi cur)), (2, AV.c (vi kn)), (3, AV.c (vi va)), (9, AV.c (vw 5)), (10, AV.c (.pv (.sl SO.shut 1 (List.map i64P net)))), (14, AV.c (.ptr 0 0))]) [.cells [.pv (.sl bo bz (List.map Post.pv b))]]), .loop (XExit.exit 2) (St.mk (tmOf 186 [(1, AV.c (vi cur)), (2, AV.c (vi kn)), (3, AV.c (vi va)), (9, AV.c (vw 5)), (10, AV.c (.pv (.sl SO.shut 1 (List.map i64P net)))), (14, AV.c (.ptr 0 0))]) [.cells [.pv (.sl bo' bz' (List.map Post.pv b'))]]), .call (AV.c (vi k)) [], .call (AV.c (vi v)) [], .loop (XExit.exit 4) (St.mk (tmOf 186 [(14, AV.c (.ptr 0 0))]) [.cells [.pv (.sl bo' bz' (List.map Post.pv b'))]]), .shut (AV.tup [AV.c (.pv (.sl SO.nil (0 : Nat) [])), AV.c (vi (0 : Int))])] ++ bs 5 true ++ [.call (AV.c (.pv (.bool true))) [], .br true])
    (c := rq [(1, szOk 6 (.pv (.sl o 6 (List.map Cl.pv l))) = true), ty g1, (1, (0 : Int) ≤ (0 : Int)), ty g2, ty g3, ty h8, (1, false = false), ty h10, (4, false = false), (1, ((↑(List.length (List.map i64P net)) : Int) != 16) = false), ty h30, ty h31, ty h15, ty h16, ty h32, ty h17, (5, true = true), ty h9, (1, true = true)]) (by kernel_rfl)
    (aq ⟨rfl, g1, (Int.le_refl _), g2, g3, h8, rfl, h10, rfl, (bne_f hlen), h30, h31, h15, h16, h32, h17, rfl, h9, rfl, trivial⟩)
theorem yg3na_1 (cur kn va e : Int) (he : ¬e = 0) (h8 : cc (ev X E0) 8 [AV.sl SO.nil 6 [], AV.i cur, AV.int IntKind.i32 5] [] = some (AV.tup [AV.c nilC, AV.i e], [])) (h9 : cc (ev X E0) (9 : Nat) [] [] = some (AV.b true, [])) :
    cc (ev X E0) 3 [AV.c (.pv (.sl SO.nil 6 [])), AV.c (vi cur), AV.c (vi kn), AV.c (vi va)] [] = some (AV.c (.pv (.bool true)), []) :=
  cc_path (x := xf3) rfl ([.call (AV.tup [AV.c (.pv (.sl SO.nil 0 [])), AV.c (vi e)]) [], .br true, .call (AV.c (.pv (.bool true))) []] ++ bs 4 true)
    (c := rq [(3, (0 : Int) ≤ (0 : Int)), ty h8, (1, (e != 0) = true), ty h9, (4, true = true)]) (by kernel_rfl)
    (aq ⟨(Int.le_refl _), h8, (bne_iff_ne.mpr he), h9, rfl, trivial⟩)
theorem yg3nb_1 (cur kn va k v : Int) (net : List Int) (to : SO) (tz : Nat) (ts : List Tr) (bo bo' : SO) (bz bz' : Nat) (b b' : List Post) (h8 : cc (ev X E0) 8 [AV.sl SO.nil 6 [], AV.i cur, AV.int IntKind.i32 5] [] = some (AV.tup [netI net, AV.i 0], [])) (hlen : (↑(List.length (List.map i64P net)) : Int) = 16) (h10 : cc (ev X E0) 10 [netI net] [] = some (AV.tup [AV.c (.pv (.sl to tz (List.map Tr.pv ts))), AV.i 0], [])) (h30 : lv (cv (ev X E0) xf3_l0) (rl [1, 0, 0, 5, 0, 3, 52, 0, 0]) 1 (YS30 cur kn va net SO.nil 0 [] to tz ts 0) = some (XExit.exit 0, St.mk (tmOf 186 [(1, AV.c (vi cur)), (2, AV.c (vi kn)), (3, AV.c (vi va)), (9, AV.c (vw 5)), (10, AV.c (.pv (.sl SO.shut 1 (List.map i64P net)))), (14, AV.c (.ptr 0 0))]) [.cells [.pv (.sl bo bz (List.map Post.pv b))]])) (h31 : lv (cv (ev X E0) xf3_l1) (rl [1, 0, 0, 5, 0, 3, 81, 0]) 1 (YS31 cur kn va net bo bz b (↑(List.length (List.map Post.pv b)) : Int) 0) = some (XExit.exit 2, St.mk (tmOf 186 [(1, AV.c (vi cur)), (2, AV.c (vi kn)), (3, AV.c (vi va)), (9, AV.c (vw 5)), (10, AV.c (.pv (.sl SO.shut 1 (List.map i64P net)))), (14, AV.c (.ptr 0 0))]) [.cells [.pv (.sl bo' bz' (List.map Post.pv b'))]])) (h15 : cc (ev X E0) 15 [AV.i kn, AV.i 30] [] = some (AV.i k, [])) (h16 : cc (ev X E0) 15 [AV.i va, AV.i 12] [] = some (AV.i v, [])) (h32 : lv (cv (ev X E0) xf3_l2) (rl [1, 7, 4, 10, 0, 106, 0, 0]) 1 (YS32 cur (IntKind.wrap .i32 k) (IntKind.wrap .i32 v) net bo' bz' b' 0) = some (XExit.exit 4, St.mk (tmOf 186 [(14, AV.c (.ptr 0 0))]) [.cells [.pv (.sl bo' bz' (List.map Post.pv b'))]])) (h17 : cs (ev X E0) 17 [Bk bo' bz' b'] = some (AV.tup [AV.c (.pv (.sl SO.nil 0 [])), AV.i 0])) (h9 : cc (ev X E0) (9 : Nat) [] [] = some (AV.b true, [])) :
    cc (ev X E0) 3 [AV.c (.pv (.sl SO.nil 6 [])), AV.c (vi cur), AV.c (vi kn), AV.c (vi va)] [] = some (AV.c (.pv (.bool true)), []) :=
  cc_path (x := xf3) rfl ([.call (AV.tup [AV.c (.pv (.sl SO.shut 1 (List.map i64P net))), AV.c (vi 0)]) [], .br false, .call (AV.tup [AV.c (.pv (.sl to tz (List.map Tr.pv ts))), AV.c (vi 0)]) []] ++ bs 5 false ++ [.loop (XExit.exit 0) (St.mk (tmOf 186 [(1, AV.c (vi cur)), (2, AV.c (vi kn)), (3, AV.c (vi va)), (9, AV.c (vw 5)), (10, AV.c (.pv (.sl SO.shut 1 (List.map i64P net)))), (14, AV.c (.ptr 0 0))]) [.cells [.pv (.sl bo bz (List.map Post.pv b))]]), .loop (XExit.exit 2) (St.mk (tmOf 186 [(1, AV.c (vi cur)), (2, AV.c (vi kn)), (3, AV.c (vi va)), (9, AV.c (vw 5)), (10, AV.c (.pv (.sl SO.shut 1 (List.map i64P net)))), (14, AV.c (.ptr 0 0))]) [.cells [.pv (.sl bo' bz' (List.map Post.pv b'))]]), .call (AV.c (vi k)) [], .call (AV.c (vi v)) [], .loop (XExit.exit 4) (St.mk (tmOf 186 [(14, AV.c (.ptr 0 0))]) [.cells [.pv (.sl bo' bz' (List.map Post.pv b'))]]), .shut (AV.tup [AV.c (.pv (.sl SO.nil (0 : Nat) [])), AV.c (vi (0 : Int))])] ++ bs 5 true ++ [.call (AV.c (.pv (.bool true))) [], .br true])
    (c := rq [(3, (0 : Int) ≤ (0 : Int)), ty h8, (1, false = false), ty h10, (4, false = false), (1, ((↑(List.length (List.map i64P net)) : Int) != 16) = false), ty h30, ty h31, ty h15, ty h16, ty h32, ty h17, (5, true = true), ty h9, (1, true = true)]) (by kernel_rfl)
    (aq ⟨(Int.le_refl _), h8, rfl, h10, rfl, (bne_f hlen), h30, h31, h15, h16, h32, h17, rfl, h9, rfl, trivial⟩)
end Go.Sx.Tryd
/- TopReversed, of the evaluator. -/
namespace Go.Sx.Tryd
open Go Go.Sx
def bo (b : List Post) : SO := if b.isEmpty then .nil else .shut
def bz (b : List Post) : Nat := if b.isEmpty then 0 else 7
theorem bk_ok (b : List Post) : szOk 7 (CV.pv (PV.sl (bo b) (bz b) (List.map Post.pv b))) = true ∧ (bo b = .nil → b = []) := by
  cases b with
  | nil => exact ⟨rfl, fun _ => rfl⟩
  | cons p r => exact ⟨rfl, fun h => by cases h⟩
theorem ts_nice {cur : Int} {ts : List Tr} : ∀ p ∈ tsB cur ts, Nice p := fun p hp => by
  obtain ⟨_, _, _, h4, h5, h6⟩ := tsB_mem hp
  exact ⟨by rw [h6]; simp, by omega, fun h => by rw [h4] at h; cases h⟩
theorem rv_nice {cur : Int} {ts : List Tr} {k : Nat} : ∀ p ∈ tsB cur ts ++ rvL cur ts k, Nice p := fun p hp => by
  rcases List.mem_append.1 hp with hp | hp
  · exact ts_nice p hp
  · obtain ⟨_, _, h3, h4, h5, _⟩ := rvL_mem hp
    exact ⟨by rw [h5]; simp, by omega, fun h => by rw [h3] at h; cases h⟩
theorem sh_id : ∀ {l : List Post}, (∀ p ∈ l, p.so = .shut) → l.map sh = l
  | [], _ => rfl
  | p :: l, h => by
    have hp := h p (by simp)
    have e : sh p = p := by cases p; simp only at hp; subst hp; rfl
    rw [List.map_cons, e, sh_id fun q hq => h q (by simp [hq])]
theorem tr_id {t : Tr} (h : t.Ok) : IntKind.wrap .i64 (0 - t.n) = -t.n := by
  have := h.lo; have := h.hi
  rw [wi64 (by omega) (by omega)]; omega
theorem add_pay {cur : Int} (hc : 0 ≤ cur) (hc4 : cur < 4) {pre : List Tr} {t : Tr} (ht : t.Ok) (hl : pre.length ≤ 100) (hR : rightB (tsB cur pre) = true) :
    cc (ev X E0) 11 [AV.agg [CV.pv (PV.sl (bo (tsB cur pre)) (bz (tsB cur pre)) (List.map Post.pv (tsB cur pre)))], payA t.fr t.to cur t.n] [] = some (.tup [.agg [CV.pv (PV.sl .shut 7 (List.map Post.pv (tsB cur (pre ++ [t]))))], .b true], []) := by
  obtain ⟨k1, k2⟩ := bk_ok (tsB cur pre)
  have b1 := ht.fr; have b2 := ht.to; have b3 := ht.lo; have b4 := ht.hi
  have hlen := tsB_len cur pre
  have hw : IntKind.wrap .i64 (((List.map Post.pv (tsB cur pre)).length : Int) + 1) = (pre.length : Int) + 1 := by
    rw [List.length_map, hlen]; exact wi64 (by omega) (by omega)
  have e : payA t.fr t.to cur t.n = Post.av ⟨0, 10, 5, .full, [⟨(t.fr : Int) + 1, cur, -t.n⟩, ⟨(t.to : Int) + 1, cur, t.n⟩], 0, 0, []⟩ := by
    simp only [payA, tr_id ht]
    rw [wi64 (n := (t.fr : Int) + 1) (by omega) (by omega), wi64 (n := (t.to : Int) + 1) (by omega) (by omega)]
    rfl
  rw [e]
  refine yg11_1 (tsB cur pre) (tsB cur (pre ++ [t])) _ _ _ ?_
  rw [hw]
  have h := s19 k1 k2 (by omega) ts_nice (p := ⟨(pre.length : Int) + 1, 10, 5, .full, [⟨(t.fr : Int) + 1, cur, -t.n⟩, ⟨(t.to : Int) + 1, cur, t.n⟩], 0, 0, []⟩) ⟨by simp, by simp, fun h => by cases h⟩
  have hf : fullE (tsB cur pre) ⟨(pre.length : Int) + 1, 10, 5, .full, [⟨(t.fr : Int) + 1, cur, -t.n⟩, ⟨(t.to : Int) + 1, cur, t.n⟩], 0, 0, []⟩ = 0 := ts_full hc hc4 hl ht
  have hadd : addE (tsB cur pre) ⟨(pre.length : Int) + 1, 10, 5, .full, [⟨(t.fr : Int) + 1, cur, -t.n⟩, ⟨(t.to : Int) + 1, cur, t.n⟩], 0, 0, []⟩ = 0 := by unfold addE; rw [hR, if_pos rfl, hf]
  rw [hadd] at h
  have hout : outP (addR (tsB cur pre) ⟨(pre.length : Int) + 1, 10, 5, .full, [⟨(t.fr : Int) + 1, cur, -t.n⟩, ⟨(t.to : Int) + 1, cur, t.n⟩], 0, 0, []⟩) = PV.sl .shut 7 (List.map Post.pv (tsB cur (pre ++ [t]))) := by
    unfold addR
    rw [hadd, if_pos rfl, outP, if_neg (by simp), List.map_append, sh_id fun p hp => (tsB_mem hp).2.2.2.1, tsB_snoc]
    rfl
  rw [hout] at h
  exact h
theorem ya30 {cur : Int} (hc : 0 ≤ cur) (hc4 : cur < 4) (kn va : Int) (net : List Int) {ts : List Tr} (ho : ∀ t ∈ ts, t.Ok) (hl : ts.length ≤ 100) : ∀ (r pre : List Tr), ts = pre ++ r →
    lv (cv (ev X E0) xf3_l0) (rl [1, 0, 0, 5, 0, 3, 52, 0, 0]) 1 (YS30 cur kn va net (bo (tsB cur pre)) (bz (tsB cur pre)) (tsB cur pre) .shut 3 ts (pre.length : Nat)) = some (XExit.exit 0, St.mk (tmOf 186 [(1, AV.c (vi cur)), (2, AV.c (vi kn)), (3, AV.c (vi va)), (9, AV.c (CV.pv (PV.int .i32 5))), (10, AV.c (CV.pv (PV.sl .shut 1 (List.map i64P net)))), (14, AV.c (CV.ptr 0 0))]) [Box.cells [CV.pv (PV.sl (bo (tsB cur ts)) (bz (tsB cur ts)) (List.map Post.pv (tsB cur ts)))]])
  | [], pre, e => by
    rw [List.append_nil] at e
    subst e
    exact yl30x_1 cur kn va net _ _ (tsB cur ts) .shut 3 ts ts.length (by rw [List.length_map]; omega)
  | y :: r, pre, e => by
    have hlen : ts.length = pre.length + r.length + 1 := by rw [e]; simp; omega
    have hat : ts[pre.length]? = some y := by rw [e]; simp
    have hlt : (pre.length : Int) < (((ts.map Tr.pv).length : Nat) : Int) := by rw [List.length_map]; omega
    have hy := ho y (by rw [e]; simp)
    have hR := ts_right hc hc4 pre [] (by simp; omega) (fun t ht => ho t (by rw [e]; simp [ht])) rfl
    rw [List.nil_append] at hR
    have st := yl30_1 cur kn va net _ _ (tsB cur pre) (tsB cur (pre ++ [y])) ts pre.length y hat hlt (add_pay hc hc4 hy (by omega) hR)
    rw [wi64 (by omega) (by omega)] at st
    have ih := ya30 hc hc4 kn va net ho hl r (pre ++ [y]) (by rw [e]; simp)
    rw [List.length_append, List.length_singleton, Int.natCast_add, Int.natCast_one] at ih
    have hne : (tsB cur (pre ++ [y])).isEmpty = false := by rw [tsB_snoc]; simp
    have e1 : bo (tsB cur (pre ++ [y])) = .shut := by unfold bo; rw [hne]; rfl
    have e2 : bz (tsB cur (pre ++ [y])) = 7 := by unfold bz; rw [hne]; rfl
    rw [e1, e2] at ih
    exact st.trans ih
theorem ya31 {cur : Int} (hc : 0 ≤ cur) (hc4 : cur < 4) (kn va : Int) (net : List Int) {ts : List Tr} (ho : ∀ t ∈ ts, t.Ok) (hl : ts.length ≤ 100) : ∀ (m k : Nat), k + m = ts.length →
    lv (cv (ev X E0) xf3_l1) (rl [1, 0, 0, 5, 0, 3, 81, 0]) 1 (YS31 cur kn va net .shut 7 (tsB cur ts ++ rvL cur ts k) (ts.length : Nat) (k : Nat)) = some (XExit.exit 2, St.mk (tmOf 186 [(1, AV.c (vi cur)), (2, AV.c (vi kn)), (3, AV.c (vi va)), (9, AV.c (CV.pv (PV.int .i32 5))), (10, AV.c (CV.pv (PV.sl .shut 1 (List.map i64P net)))), (14, AV.c (CV.ptr 0 0))]) [Box.cells [CV.pv (PV.sl .shut 7 (List.map Post.pv (tsB cur ts ++ rvL cur ts ts.length)))]])
  | 0, k, e => by
    have : k = ts.length := by omega
    subst this
    exact yl31x_1 cur kn va net .shut 7 _ _ ts.length (by omega)
  | m + 1, k, e => by
    have hk : k < ts.length := by omega
    have hat := List.getElem?_eq_getElem hk
    have hok := ho _ (List.getElem_mem hk)
    have hR := rv_right hc hc4 hl ho k (by omega)
    obtain ⟨f1, f2⟩ := rv_full hc hc4 hl hok hat hR
    have hlen : (tsB cur ts ++ rvL cur ts k).length = ts.length + k := by rw [List.length_append, tsB_len, rvL_len (by omega)]
    have hp : (tsB cur ts ++ rvL cur ts k)[k]? = some (payP (ts[k]'hk) cur ((k : Int) + 1) 10 5) := by
      rw [List.getElem?_append_left (by rw [tsB_len]; exact hk)]; exact tsB_at hat
    have hw : IntKind.wrap .i64 (((List.map Post.pv (tsB cur ts ++ rvL cur ts k)).length : Int) + 1) = (ts.length : Int) + k + 1 := by
      rw [List.length_map, hlen, wi64 (by omega) (by omega)]; omega
    have h13 := s38 (payP (ts[k]'hk) cur ((k : Int) + 1) 10 5) ((ts.length : Int) + k + 1) 20 ⟨by simp [payP], by simp [payP]⟩ (fun h => by cases h)
    rw [f1, if_pos rfl] at h13
    have h14 := s19 (l := tsB cur ts ++ rvL cur ts k) (o := .shut) (s := 7) rfl (fun h => by cases h) (by omega) rv_nice (p := rvp (payP (ts[k]'hk) cur ((k : Int) + 1) 10 5) ((ts.length : Int) + k + 1) 20) ⟨by simp [rvp, payP], by simp [rvp, payP], fun h => by cases h⟩
    have hadd : addE (tsB cur ts ++ rvL cur ts k) (rvp (payP (ts[k]'hk) cur ((k : Int) + 1) 10 5) ((ts.length : Int) + k + 1) 20) = 0 := by unfold addE; rw [hR, if_pos rfl, f2]
    rw [hadd] at h14
    have hout : outP (addR (tsB cur ts ++ rvL cur ts k) (rvp (payP (ts[k]'hk) cur ((k : Int) + 1) 10 5) ((ts.length : Int) + k + 1) 20)) = PV.sl .shut 7 (List.map Post.pv (tsB cur ts ++ rvL cur ts (k + 1))) := by
      unfold addR
      rw [hadd, if_pos rfl, outP, if_neg (by simp), rvL_succ hat, ← List.append_assoc, sh_id]
      intro p hp
      rcases List.mem_append.1 hp with hp | hp
      · rcases List.mem_append.1 hp with hp | hp
        · exact (tsB_mem hp).2.2.2.1
        · exact (rvL_mem hp).2.2.1
      · rw [List.mem_singleton] at hp; subst hp; rfl
    rw [hout] at h14
    have st := yl31_1 cur kn va net (tsB cur ts ++ rvL cur ts k) (tsB cur ts ++ rvL cur ts (k + 1)) (ts.length : Nat) k _ _ hp (by omega) (by rw [hw]; exact h13) h14
    rw [wi64 (by omega) (by omega)] at st
    have ih := ya31 hc hc4 kn va net ho hl m (k + 1) (by omega)
    rw [Int.natCast_add, Int.natCast_one] at ih
    exact st.trans ih
theorem ya32 {cur k v : Int} {net : List Int} {o : SO} {s : Nat} {b : List Post} (hl : net.length = 16) (hb : ∀ i : Nat, i < 16 → ∃ m, cc (ev X E0) 16 [AV.sl o s (List.map Post.pv b), AV.i ((i : Int) + 1), AV.i cur, AV.int .i32 k, AV.int .i32 v] [] = some (.tup [.i m, .i 0], []) ∧ m = if 10 ≤ k ∧ k < 20 ∧ 5 ≤ v then at0 net i else 0) : ∀ (m i : Nat), i + m = 16 →
    lv (cv (ev X E0) xf3_l2) (rl [1, 7, 4, 10, 0, 106, 0, 0]) 1 (YS32 cur k v net o s b (i : Nat)) = some (XExit.exit 4, St.mk (tmOf 186 [(14, AV.c (CV.ptr 0 0))]) [Box.cells [CV.pv (PV.sl o s (List.map Post.pv b))]])
  | 0, i, e => yl32x_1 cur k v net o s b i (by rw [List.length_map]; omega)
  | m + 1, i, e => by
    have hlt : (i : Int) < (((net.map i64P).length : Nat) : Int) := by rw [List.length_map]; omega
    have hat := at0_get (l := net) (i := i) (by omega)
    have hw : IntKind.wrap .i64 ((i : Int) + 1) = (i : Int) + 1 := wi64 (by omega) (by omega)
    obtain ⟨x, hx, he⟩ := hb i (by omega)
    rw [← hw] at hx
    have ih := ya32 hl hb m (i + 1) (by omega)
    rw [Int.natCast_add, Int.natCast_one] at ih
    by_cases c1 : k ≥ 10
    · by_cases c2 : k < 20
      · by_cases c3 : v ≥ 5
        · rw [if_pos ⟨c1, c2, c3⟩] at he
          have st := yl32_2 cur k v net o s b i _ x hat hlt hx c1 c2 c3 he
          rw [hw] at st; exact st.trans ih
        · rw [if_neg (by omega)] at he
          have st := yl32_4 cur k v net o s b i _ x hat hlt hx c1 c2 c3 he
          rw [hw] at st; exact st.trans ih
      · rw [if_neg (by omega)] at he
        have st := yl32_6 cur k v net o s b i _ x hat hlt hx c1 c2 he
        rw [hw] at st; exact st.trans ih
    · rw [if_neg (by omega)] at he
      have st := yl32_8 cur k v net o s b i _ x hat hlt hx c1 he
      rw [hw] at st; exact st.trans ih
theorem rest_in (v : Int) {n : Int} (h0 : 0 < n) (hn : n ≤ 1000) : 0 ≤ Int.tmod (IntKind.wrap .i64 (Int.tmod v n + n)) n ∧ Int.tmod (IntKind.wrap .i64 (Int.tmod v n + n)) n < n := by
  have h1 := Int.lt_tmod_of_pos v h0
  have h2 := Int.tmod_lt_of_pos v h0
  rw [wi64 (by omega) (by omega)]
  exact ⟨Int.tmod_nonneg _ (by omega), Int.tmod_lt_of_pos _ h0⟩
theorem w32 {n : Int} (h : 0 ≤ n) (h' : n ≤ 1000) : IntKind.wrap .i32 n = n := by
  simp [IntKind.wrap, IntKind.signed, IntKind.bits]; omega
end Go.Sx.Tryd
