/- What is told of a book. -/
import Derived.Test.YtplknajjcllmkaaDoorN4
import Derived.Test.YtplknajjcllmkaaDoorK1
import Derived.Test.YtplknajjcllmkaaDoorSxLem
import Derived.Test.YtplknajjcllmkaaDoorAl
import Derived.Test.YtplknajjcllmkaaDoorK3
import Derived.Test.YtplknajjcllmkaaDoorN1
import Derived.Test.YtplknajjcllmkaaDoorN2
namespace Go.Sx.Tryd
open Go Go.Sx
abbrev Bk (o : SO) (s : Nat) (l : List Post) : AV := AV.agg [CV.pv (PV.sl o s (l.map Post.pv))]
theorem f20n_1 (l : List Post) (o : SO) (s : Nat) (k e : Int) (h : cc (ev X E0) 67 [AV.agg [.pv (.sl o s (List.map Post.pv l))], AV.c (.fn 137 [0])] [.cells [vw k]] = some (AV.tup [AV.c (.pv (.sl SO.nil 0 [])), AV.i e], [.cells [vw k]])) :
    cc (ev X E0) 103 [AV.agg [.pv (.sl o s (List.map Post.pv l))], AV.c (vw k)] [] = some (AV.tup [AV.agg [.pv (.sl SO.nil 0 [])], AV.c (vi e)], []) :=
  cc_path (x := xf103) rfl [.call (AV.tup [AV.c (.pv (.sl SO.nil 0 [])), AV.c (vi e)]) [.cells [vw k]]]
    (c := rq [ty h]) (by kernel_rfl)
    (aq ⟨h, trivial⟩)
theorem f20o_1 (l : List Post) (o : SO) (s : Nat) (k e : Int) (es : List PV) (h : cc (ev X E0) 67 [AV.agg [.pv (.sl o s (List.map Post.pv l))], AV.c (.fn 137 [0])] [.cells [vw k]] = some (AV.tup [AV.c (.own 0 7 es), AV.i e], [.cells [vw k]])) :
    cc (ev X E0) 103 [AV.agg [.pv (.sl o s (List.map Post.pv l))], AV.c (vw k)] [] = some (AV.tup [AV.agg [.own 0 7 es], AV.c (vi e)], []) :=
  cc_path (x := xf103) rfl [.call (AV.tup [AV.c (.own 0 7 es), AV.c (vi e)]) [.cells [vw k]]]
    (c := rq [ty h]) (by kernel_rfl)
    (aq ⟨h, trivial⟩)
theorem f21n_1 (l : List Post) (o : SO) (s : Nat) (k v e : Int) (h : cc (ev X E0) 67 [AV.agg [.pv (.sl o s (List.map Post.pv l))], AV.c (.fn 68 [0, 1])] [.cells [vw k], .cells [vw v]] = some (AV.tup [AV.c (.pv (.sl SO.nil 0 [])), AV.i e], [.cells [vw k], .cells [vw v]])) :
    cc (ev X E0) 33 [AV.agg [.pv (.sl o s (List.map Post.pv l))], AV.c (vw k), AV.c (vw v)] [] = some (AV.tup [AV.c (.pv (.sl SO.nil 0 [])), AV.c (vi e)], []) :=
  cc_path (x := xf33) rfl [.call (AV.tup [AV.c (.pv (.sl SO.nil 0 [])), AV.c (vi e)]) [.cells [vw k], .cells [vw v]]]
    (c := rq [ty h]) (by kernel_rfl)
    (aq ⟨h, trivial⟩)
theorem f21o_1 (l : List Post) (o : SO) (s : Nat) (k v e : Int) (es : List PV) (h : cc (ev X E0) 67 [AV.agg [.pv (.sl o s (List.map Post.pv l))], AV.c (.fn 68 [0, 1])] [.cells [vw k], .cells [vw v]] = some (AV.tup [AV.c (.own 0 7 es), AV.i e], [.cells [vw k], .cells [vw v]])) :
    cc (ev X E0) 33 [AV.agg [.pv (.sl o s (List.map Post.pv l))], AV.c (vw k), AV.c (vw v)] [] = some (AV.tup [AV.c (.own 0 7 es), AV.c (vi e)], []) :=
  cc_path (x := xf33) rfl [.call (AV.tup [AV.c (.own 0 7 es), AV.c (vi e)]) [.cells [vw k], .cells [vw v]]]
    (c := rq [ty h]) (by kernel_rfl)
    (aq ⟨h, trivial⟩)
def outP (es : List Post) : PV := if es.isEmpty then PV.sl SO.nil 0 [] else PV.sl .shut 7 ((es.map sh).map Post.pv)
theorem outA_shut (es : List Post) : (outA es).shutAll = CV.pv (outP es) := by
  unfold outA outP
  cases es <;> rfl
theorem s20 {l : List Post} {o : SO} {s : Nat} (hs : szOk 7 (CV.pv (PV.sl o s (List.map Post.pv l))) = true) (ho : o = .nil → l = []) (hl : l.length ≤ 1000) (hN : ∀ p ∈ l, Nice p) (k : Int) :
    cs (ev X E0) 103 [Bk o s l, AV.int .i32 k] = some (.tup [.agg [CV.pv (outP (pickR l fun p => decide (p.known ≤ k)))], .i (pickE l)]) := by
  have h := s64a hs ho (x := .int .i32 k) (w := fun p => decide (p.known ≤ k)) (fun p => f65_1 p k) hl hN
  rw [← outA_shut]
  rcases out_cases (pickR l fun p => decide (p.known ≤ k)) with ⟨_, h1⟩ | ⟨_, h1⟩
  · rw [h1] at h ⊢; exact cs_of (f20n_1 l o s k _ h)
  · rw [h1] at h ⊢; exact cs_of (f20o_1 l o s k _ _ h)
def within (k v : Int) (p : Post) : Bool := decide (p.known ≤ k ∧ p.value ≤ v)
theorem s66 (k v : Int) (p : Post) : cc (ev X E0) 68 [Post.av p, AV.c (.ptr 0 0), AV.c (.ptr 1 0)] [Box.cells [CV.pv (.int .i32 k)], Box.cells [CV.pv (.int .i32 v)]] = some (.b (within k v p), [Box.cells [CV.pv (.int .i32 k)], Box.cells [CV.pv (.int .i32 v)]]) := by
  by_cases h : p.known ≤ k
  · rw [f66_1 p k v h, within]; congr 5; rw [Bool.eq_iff_iff]; simp [h]
  · rw [f66_2 p k v h, within, decide_eq_false (by omega)]
theorem s21 {l : List Post} {o : SO} {s : Nat} (hs : szOk 7 (CV.pv (PV.sl o s (List.map Post.pv l))) = true) (ho : o = .nil → l = []) (hl : l.length ≤ 1000) (hN : ∀ p ∈ l, Nice p) (k v : Int) :
    cs (ev X E0) 33 [Bk o s l, AV.int .i32 k, AV.int .i32 v] = some (.tup [.c (CV.pv (outP (pickR l (within k v)))), .i (pickE l)]) := by
  have h := s64b hs ho (x := .int .i32 k) (z := .int .i32 v) (w := within k v) (fun p => s66 k v p) hl hN
  rw [← outA_shut]
  rcases out_cases (pickR l (within k v)) with ⟨_, h1⟩ | ⟨_, h1⟩
  · rw [h1] at h ⊢; exact cs_of (f21n_1 l o s k v _ h)
  · rw [h1] at h ⊢; exact cs_of (f21o_1 l o s k v _ _ h)
theorem datOk_iff {d : Int} : datOk d = true ↔ -50000 ≤ d ∧ d ≤ 50000 := by simp [datOk]
def addE (l : List Post) (p : Post) : Int := if rightB l = true then fullE l p else 1
def addR (l : List Post) (p : Post) : List Post := if addE l p = 0 then l ++ [p] else []
theorem f19r_1 (l : List Post) (o : SO) (s : Nat) (p : Post) (h25 : cc (ev X E0) 61 [AV.agg [.pv (.sl o s (List.map Post.pv l))]] [] = some (AV.b false, [])) :
    cc (ev X E0) 55 [AV.agg [.pv (.sl o s (List.map Post.pv l))], AV.agg (Post.cs p)] [] = some (AV.tup [AV.agg [.pv (.sl SO.nil 0 [])], AV.c (vi 1)], []) :=
  cc_path (x := xf55) rfl [.call (AV.c (.pv (.bool false))) [], .br true]
    (c := rq [ty h25, (1, true = true)]) (by kernel_rfl)
    (aq ⟨h25, rfl, trivial⟩)
theorem f19e_1 (l : List Post) (o : SO) (s : Nat) (p : Post) (h25 : cc (ev X E0) 61 [AV.agg [.pv (.sl o s (List.map Post.pv l))]] [] = some (AV.b true, [])) (e : Int) (he : ¬e = 0) (h37 : cc (ev X E0) 69 [Post.av p] [] = some (AV.i e, [])) :
    cc (ev X E0) 55 [AV.agg [.pv (.sl o s (List.map Post.pv l))], AV.agg (Post.cs p)] [] = some (AV.tup [AV.agg [.pv (.sl SO.nil 0 [])], AV.c (vi e)], []) :=
  cc_path (x := xf55) rfl [.call (AV.c (.pv (.bool true))) [], .br false, .call (AV.c (vi e)) [], .br true]
    (c := rq [ty h25, (1, false = false), ty h37, (1, (e != 0) = true)]) (by kernel_rfl)
    (aq ⟨h25, rfl, h37, (bne_iff_ne.mpr he), trivial⟩)
theorem f19x_1 (l : List Post) (o : SO) (s : Nat) (p : Post) (kv : List (PV × PV)) (h25 : cc (ev X E0) 61 [AV.agg [.pv (.sl o s (List.map Post.pv l))]] [] = some (AV.b true, [])) (h37 : cc (ev X E0) 69 [Post.av p] [] = some (AV.i 0, [])) (h60 : cc (ev X E0) 99 [AV.sl o s (List.map Post.pv l)] [] = some (AV.c (.mp 0), [.map kv])) (e : Int) (he : ¬e = 0) (h59 : cc (ev X E0) 98 [AV.sl o s (List.map Post.pv l), AV.c (.mp 0), Post.av p] [.map kv] = some (AV.i e, [.map kv])) :
    cc (ev X E0) 55 [AV.agg [.pv (.sl o s (List.map Post.pv l))], AV.agg (Post.cs p)] [] = some (AV.tup [AV.agg [.pv (.sl SO.nil 0 [])], AV.c (vi e)], []) :=
  cc_path (x := xf55) rfl [.call (AV.c (.pv (.bool true))) [], .br false, .call (AV.c (vi (0 : Int))) [], .br false, .call (AV.c (.mp 0)) [.map kv], .call (AV.c (vi e)) [.map kv], .br true]
    (c := rq [ty h25, (1, false = false), ty h37, (1, false = false), ty h60, ty h59, (1, (e != 0) = true)]) (by kernel_rfl)
    (aq ⟨h25, rfl, h37, rfl, h60, h59, (bne_iff_ne.mpr he), trivial⟩)
theorem f19n_1 (l : List Post) (o : SO) (s : Nat) (p : Post) (kv : List (PV × PV)) (h25 : cc (ev X E0) 61 [AV.agg [.pv (.sl o s (List.map Post.pv l))]] [] = some (AV.b true, [])) (h37 : cc (ev X E0) 69 [Post.av p] [] = some (AV.i 0, [])) (h60 : cc (ev X E0) 99 [AV.sl o s (List.map Post.pv l)] [] = some (AV.c (.mp 0), [.map kv])) (h59 : cc (ev X E0) 98 [AV.sl o s (List.map Post.pv l), AV.c (.mp 0), Post.av p] [.map kv] = some (AV.i 0, [.map kv])) (h63 : cc (ev X E0) 102 [Post.av p] [] = some (Post.av (sh p), [])) (h62 : cc (ev X E0) 101 [AV.sl o s (List.map Post.pv l), AV.c (.fn 100 [])] [] = some (AV.c (.pv (.sl SO.nil 0 [])), [])) (g1 : (↑(0 + List.length [Post.pv (sh p)]) : Int) * 72 ≤ 140737488355328) :
    cc (ev X E0) 55 [AV.agg [.pv (.sl o s (List.map Post.pv l))], AV.agg (Post.cs p)] [] = some (AV.tup [AV.agg [.own 0 7 [Post.pv (sh p)]], AV.c (vi 0)], []) :=
  cc_path (x := xf55) rfl [.call (AV.c (.pv (.bool true))) [], .br false, .call (AV.c (vi (0 : Int))) [], .br false, .call (AV.c (.mp 0)) [.map kv], .call (AV.c (vi 0)) [.map kv], .br false, .call (AV.c (.pv (.sl SO.nil (0 : Nat) []))) [], .call (AV.agg [vi (Post.id (sh p)), vw (Post.known (sh p)), vw (Post.value (sh p)), .pv (.sl SO.shut 3 (List.map Leg.pv (Post.legs (sh p)))), vi (Post.rev (sh p)), vi (Post.kind (sh p)), .pv (.str (Post.memo (sh p)))]) [], .emp false]
    (c := rq [ty h25, (1, false = false), ty h37, (1, false = false), ty h60, ty h59, (1, false = false), ty h62, ty h63, (1, [Post.pv (sh p)] ≠ []), ty g1]) (by kernel_rfl)
    (aq ⟨h25, rfl, h37, rfl, h60, h59, rfl, h62, h63, (List.cons_ne_nil _ _), g1, trivial⟩)
theorem f19o_1 (l : List Post) (o : SO) (s : Nat) (p : Post) (kv : List (PV × PV)) (es : List PV) (h25 : cc (ev X E0) 61 [AV.agg [.pv (.sl o s (List.map Post.pv l))]] [] = some (AV.b true, [])) (h37 : cc (ev X E0) 69 [Post.av p] [] = some (AV.i 0, [])) (h60 : cc (ev X E0) 99 [AV.sl o s (List.map Post.pv l)] [] = some (AV.c (.mp 0), [.map kv])) (h59 : cc (ev X E0) 98 [AV.sl o s (List.map Post.pv l), AV.c (.mp 0), Post.av p] [.map kv] = some (AV.i 0, [.map kv])) (h63 : cc (ev X E0) 102 [Post.av p] [] = some (Post.av (sh p), [])) (h62 : cc (ev X E0) 101 [AV.sl o s (List.map Post.pv l), AV.c (.fn 100 [])] [] = some (AV.c (.own 0 7 es), [])) (g1 : (↑(List.length es + List.length [Post.pv (sh p)]) : Int) * 72 ≤ 140737488355328) :
    cc (ev X E0) 55 [AV.agg [.pv (.sl o s (List.map Post.pv l))], AV.agg (Post.cs p)] [] = some (AV.tup [AV.agg [.own 0 7 (es ++ [Post.pv (sh p)])], AV.c (vi 0)], []) :=
  cc_path (x := xf55) rfl [.call (AV.c (.pv (.bool true))) [], .br false, .call (AV.c (vi (0 : Int))) [], .br false, .call (AV.c (.mp 0)) [.map kv], .call (AV.c (vi 0)) [.map kv], .br false, .call (AV.c (.own 0 7 es)) [], .call (AV.agg [vi (Post.id (sh p)), vw (Post.known (sh p)), vw (Post.value (sh p)), .pv (.sl SO.shut 3 (List.map Leg.pv (Post.legs (sh p)))), vi (Post.rev (sh p)), vi (Post.kind (sh p)), .pv (.str (Post.memo (sh p)))]) []]
    (c := rq [ty h25, (1, false = false), ty h37, (1, false = false), ty h60, ty h59, (1, false = false), ty h62, ty h63, ty g1]) (by kernel_rfl)
    (aq ⟨h25, rfl, h37, rfl, h60, h59, rfl, h62, h63, g1, trivial⟩)
theorem s19 {l : List Post} {o : SO} {s : Nat} (hs : szOk 7 (CV.pv (PV.sl o s (List.map Post.pv l))) = true) (ho : o = .nil → l = []) (hl : l.length ≤ 1000) (hN : ∀ p ∈ l, Nice p) {p : Post} (hp : Nice p) :
    cs (ev X E0) 55 [Bk o s l, Post.av p] = some (.tup [.agg [CV.pv (outP (addR l p))], .i (addE l p)]) := by
  have h25 := s25 hs ho hl hN
  have h37 := s37 p hp.memo (by have := hp.legs; omega)
  have h60 := s60 (l := l) hs (by omega)
  have hz : ∀ e : Int, e ≠ 0 → addE l p = e → outP (addR l p) = PV.sl SO.nil 0 [] := fun e he h => by unfold addR; rw [h, if_neg he]; rfl
  cases hr : rightB l with
  | false =>
    rw [hr] at h25
    have e : addE l p = 1 := by unfold addE; rw [hr]; rfl
    rw [hz 1 (by decide) e, e]
    exact cs_of (f19r_1 l o s p h25)
  | true =>
    rw [hr] at h25
    have e0 : addE l p = fullE l p := by unfold addE; rw [hr]; rfl
    by_cases c : chk p = 0
    · have hrv := chk_rev c
      have h59 := s59 hs hl hN hrv.1 hrv.2.1
      rw [c] at h37
      have e1 : addE l p = nextE l p := by rw [e0, fullE, if_pos c]
      by_cases c2 : nextE l p = 0
      · rw [c2] at h59
        have h63 : cc (ev X E0) 102 [Post.av p] [] = some (Post.av (sh p), []) := s63 c hp.so
        have h62 := s62z hs (g := 100) (w := fun _ => true) (fun q => f61_1 q) (by omega) fun q hq => ⟨right_chk hr q hq, hN q hq⟩
        rw [show l.filter (fun _ => true) = l by simp] at h62
        have ea : addR l p = l ++ [p] := by unfold addR; rw [e1, c2]; rfl
        have eo : outP (l ++ [p]) = PV.sl .shut 7 ((l.map sh).map Post.pv ++ [Post.pv (sh p)]) := by unfold outP; rw [if_neg (by simp)]; simp
        rw [e1, c2, ea, eo]
        cases l with
        | nil => exact cs_of (f19n_1 [] o s p _ h25 h37 h60 h59 h63 h62 (by simp))
        | cons y r => exact cs_of (f19o_1 (y :: r) o s p _ _ h25 h37 h60 h59 h63 h62 (by simp only [List.length_map, List.length_singleton]; omega))
      · rw [hz _ c2 e1, e1]
        exact cs_of (f19x_1 l o s p _ h25 h37 h60 _ c2 h59)
    · have e1 : addE l p = chk p := by rw [e0, fullE, if_neg c]
      rw [hz _ c e1, e1]
      exact cs_of (f19e_1 l o s p h25 _ c h37)
end Go.Sx.Tryd
/- Whether postings are gone through. -/
namespace Go.Sx.Tryd
open Go Go.Sx
abbrev S15 (l : List Post) (o : SO) (i : Int) : St := St.mk (tmOf 18 [(8, AV.c (CV.pv (PV.sl o 7 (List.map Post.pv l)))), (9, AV.c (CV.pv (PV.int .i64 (↑(List.length (List.map Post.pv l)) : Int)))), (10, AV.c (CV.pv (PV.int .i64 i)))]) []
theorem l15_1 (l : List Post) (o : SO) (i : Nat) (y1 : Post) (g1 : (↑i : Int) < (↑(List.length (List.map Post.pv l)) : Int)) (g2 : l[i]? = some y1) (g3 : fits y1 = false) :
    lv (cv (ev X E0) xf12_l0) (rl [8, 0, 0]) 0 (S15 l o (↑i : Int)) = some (XExit.ret, St.mk (tmOf 18 [(2, AV.c (.pv (.bool false)))]) [.cells (Post.cs y1)]) :=
  lv_ret [.br true, .el (Post.pv y1), .call (AV.c (.pv (.bool (fits y1)))) [], .br true]
    (c := [decide ((↑i : Int) < (↑(List.length (List.map Post.pv l)) : Int)) = true, 0 ≤ (↑i : Int), (List.map Post.pv l)[i]? = some (Post.pv y1), cc (ev X E0) 52 [AV.agg (Post.cs y1)] [] = some (AV.c (.pv (.bool (fits y1))), []), (!fits y1) = true]) (by kernel_rfl)
    ⟨(dT g1), (Int.natCast_nonneg _), (map_at g2), (s16 _), (not_t g3), trivial⟩
theorem l15_2 (l : List Post) (o : SO) (i : Nat) (y1 : Post) (g1 : (↑i : Int) < (↑(List.length (List.map Post.pv l)) : Int)) (g2 : l[i]? = some y1) (g3 : fits y1 = true) :
    lv (cv (ev X E0) xf12_l0) (rl [8, 0, 0]) 0 (S15 l o (↑i : Int)) = lv (cv (ev X E0) xf12_l0) (rl [8, 0, 0]) 0 (St.mk (tmOf 18 [(8, AV.c (.pv (.sl o 7 (List.map Post.pv l)))), (9, AV.c (vi (↑(List.length (List.map Post.pv l)) : Int))), (10, AV.c (vi (IntKind.wrap .i64 ((↑i : Int) + 1))))]) []) :=
  lv_next [.br true, .el (Post.pv y1), .call (AV.c (.pv (.bool (fits y1)))) [], .br false]
    (c := [decide ((↑i : Int) < (↑(List.length (List.map Post.pv l)) : Int)) = true, 0 ≤ (↑i : Int), (List.map Post.pv l)[i]? = some (Post.pv y1), cc (ev X E0) 52 [AV.agg (Post.cs y1)] [] = some (AV.c (.pv (.bool (fits y1))), []), (!fits y1) = false]) (by kernel_rfl)
    ⟨(dT g1), (Int.natCast_nonneg _), (map_at g2), (s16 _), (not_f g3), trivial⟩
theorem l15_3 (l : List Post) (o : SO) (i : Nat) (g1 : ¬(↑i : Int) < (↑(List.length (List.map Post.pv l)) : Int)) :
    lv (cv (ev X E0) xf12_l0) (rl [8, 0, 0]) 0 (S15 l o (↑i : Int)) = some (XExit.exit 0, St.mk (tmOf 18 []) []) :=
  lv_exit [.br false]
    (c := [decide ((↑i : Int) < (↑(List.length (List.map Post.pv l)) : Int)) = false]) (by kernel_rfl)
    ⟨(dF g1), trivial⟩
def Fair (p : Post) : Prop := p.memo.length ≤ 1000000 ∧ p.legs.length ≤ 4000000000000000000
theorem lt_lenP {l : List Post} {i : Nat} (h : i < l.length) : (i : Int) < (((l.map Post.pv).length : Nat) : Int) := by rw [List.length_map]; omega
theorem a15 {l : List Post} {o : SO} (hl : l.length ≤ 100) : lv (cv (ev X E0) xf12_l0) (rl [8, 0, 0]) 0 (S15 l o 0) = some ((l.find? (fun p => !fits p)).elim (XExit.exit 0, St.mk (tmOf 18 []) []) (fun p => (XExit.ret, St.mk (tmOf 18 [(2, AV.c (CV.pv (PV.bool false)))]) [Box.cells (Post.cs p)]))) := by
  refine lv_find (S15 l o) (l15_3 l o l.length (by simp)) (fun i y hat hlt hw => ?_) fun i y hat hlt hw => ?_
  · exact l15_1 l o i y (lt_lenP hlt) hat (by simpa using hw)
  · have := l15_2 l o i y (lt_lenP hlt) hat (by simpa using hw)
    rwa [wi64 (by omega) (by omega)] at this
def fitsAll (l : List Post) : Bool := decide (l.length ≤ 60) && l.all fits
theorem f15h_1 (l : List Post) (o : SO) (g1 : (↑(List.length (List.map Post.pv l)) : Int) > 60) :
    cc (ev X E0) 12 [AV.c (.pv (.sl o 7 (List.map Post.pv l)))] [] = some (AV.c (.pv (.bool false)), []) :=
  cc_path (x := xf12) rfl [.br true]
    (c := [decide ((↑(List.length (List.map Post.pv l)) : Int) > 60) = true]) (by kernel_rfl)
    ⟨(dT g1), trivial⟩
theorem f15_2 (l : List Post) (o : SO) (h : lv (cv (ev X E0) xf12_l0) (rl [8, 0, 0]) 0 (S15 l o 0) = some (XExit.exit 0, St.mk (tmOf 18 []) [])) (g1 : ¬(↑(List.length (List.map Post.pv l)) : Int) > 60) :
    cc (ev X E0) 12 [AV.c (.pv (.sl o 7 (List.map Post.pv l)))] [] = some (AV.c (.pv (.bool true)), []) :=
  cc_path (x := xf12) rfl [.br false, .loop (XExit.exit (0 : Nat)) (St.mk (tmOf (18 : Nat) []) [])]
    (c := rq [(1, decide ((↑(List.length (List.map Post.pv l)) : Int) > 60) = false), ty h]) (by kernel_rfl)
    (aq ⟨(dF g1), h, trivial⟩)
theorem f15r_2 (l : List Post) (o : SO) (p : Post) (h : lv (cv (ev X E0) xf12_l0) (rl [8, 0, 0]) 0 (S15 l o 0) = some (XExit.ret, St.mk (tmOf 18 [(2, AV.c (.pv (.bool false)))]) [.cells (Post.cs p)])) (g1 : ¬(↑(List.length (List.map Post.pv l)) : Int) > 60) :
    cc (ev X E0) 12 [AV.c (.pv (.sl o 7 (List.map Post.pv l)))] [] = some (AV.c (.pv (.bool false)), []) :=
  cc_path (x := xf12) rfl [.br false, .loop XExit.ret (St.mk (tmOf 18 [(2, AV.c (.pv (.bool false)))]) [.cells (Post.cs p)])]
    (c := rq [(1, decide ((↑(List.length (List.map Post.pv l)) : Int) > 60) = false), ty h]) (by kernel_rfl)
    (aq ⟨(dF g1), h, trivial⟩)
theorem find_none {α : Type} {w : α → Bool} {l : List α} (h : l.find? w = none) : ∀ x ∈ l, w x = false := by
  intro x hx
  have := List.find?_eq_none.1 h x hx
  simpa using this
theorem s15 (l : List Post) (o : SO) : cc (ev X E0) 12 [AV.sl o 7 (l.map Post.pv)] [] = some (.b (fitsAll l), []) := by
  have len : (((l.map Post.pv).length : Nat) : Int) = l.length := by rw [List.length_map]
  by_cases hl : l.length ≤ 60
  · have a := a15 (o := o) (l := l) (by omega)
    cases hf : l.find? (fun p => !fits p) with
    | none =>
      rw [hf] at a
      rw [f15_2 l o a (by rw [len]; omega), fitsAll, decide_eq_true hl, Bool.true_and]
      congr 5; symm
      rw [List.all_eq_true]
      exact fun p hp => by have := find_none hf p hp; simpa using this
    | some p =>
      rw [hf] at a
      rw [f15r_2 l o p a (by rw [len]; omega), fitsAll, decide_eq_true hl, Bool.true_and]
      congr 5; symm
      rw [List.all_eq_false]
      exact ⟨p, List.mem_of_find?_eq_some hf, by have := List.find?_some hf; simpa using this⟩
  · rw [f15h_1 l o (by rw [len]; omega), fitsAll, decide_eq_false hl, Bool.false_and]
end Go.Sx.Tryd
/- What is handed in, as data; live questions. -/
namespace Go.Sx.Tryd
open Go Go.Sx
abbrev ctL : List CT := [.int .i64, .int .i64, .int .i64]
def W64 (n : Int) : Prop := -9223372036854775808 ≤ n ∧ n ≤ 9223372036854775807
def W32 (n : Int) : Prop := -2147483648 ≤ n ∧ n ≤ 2147483647
structure WLeg (x : Leg) : Prop where
  acc : W64 x.acc
  cur : W64 x.cur
  minor : W64 x.minor
structure WPost (p : Post) : Prop where
  so : p.so = .nil → p.legs = []
  id : W64 p.id
  known : W32 p.known
  value : W32 p.value
  rev : W64 p.rev
  kind : W64 p.kind
  memo : p.memo.length ≤ 9223372036854775807
  legs : ∀ x ∈ p.legs, WLeg x
theorem leg_inv {e : PV} (h1 : e.cells.length = 3) (h2 : e = .agg e.cells) (h3 : ∀ (i : Nat) (c : CT) (p : PV), ctL[i]? = some c → e.cells[i]? = some p → WT c p) : ∃ x : Leg, WLeg x ∧ e = x.pv := by
  match hc : e.cells, h1 with
  | [a, b, c], _ =>
    rw [hc] at h2 h3
    obtain ⟨n, n1, n2, rfl⟩ := i64_inv (h3 0 _ a rfl rfl)
    obtain ⟨m, m1, m2, rfl⟩ := i64_inv (h3 1 _ b rfl rfl)
    obtain ⟨k, k1, k2, rfl⟩ := i64_inv (h3 2 _ c rfl rfl)
    exact ⟨⟨n, m, k⟩, ⟨⟨n1, n2⟩, ⟨m1, m2⟩, ⟨k1, k2⟩⟩, h2⟩
theorem legs_inv {x : PV} (h : WT (.sl ctL) x) : ∃ (o : SO) (l : List Leg), x = .sl o 3 (l.map Leg.pv) ∧ (∀ y ∈ l, WLeg y) ∧ (o = .nil → l = []) := by
  rcases sl_inv h with rfl | ⟨es, rfl, _, hs, hc⟩
  · exact ⟨.nil, [], rfl, by simp, fun _ => rfl⟩
  · obtain ⟨l, hl, rfl⟩ := list_of (f := Leg.pv) (Q := WLeg) fun e he => leg_inv (hs e he).1 ((hs e he).2.2 (by simp)) (hc e he)
    exact ⟨.shut, l, rfl, hl, fun h => by cases h⟩
theorem alive : cc (ev X E0) 13 [] [] = some (.b true, []) := by
  show (ev X E0 13 [] []).bind canon = _
  rw [Calive35.alive35]
  rfl
end Go.Sx.Tryd
/- What is wrong with a posting, of the document. -/
namespace Go.Sx.Tryd
open Go Go.Sx
-- keep f34: 8 9 10 11 12
-- keep f34r: 8
end Go.Sx.Tryd
/- What reverses a posting, of the document. -/
namespace Go.Sx.Tryd
open Go Go.Sx
end Go.Sx.Tryd
/- Sameness, of the document. -/
namespace Go.Sx.Tryd
open Go Go.Sx
end Go.Sx.Tryd
/- Sameness of lists, of the document. -/
namespace Go.Sx.Tryd
open Go Go.Sx
end Go.Sx.Tryd
/- What is wrong with a posting behind others, of the document; whether a book may be. -/
namespace Go.Sx.Tryd
open Go Go.Sx
-- keep f26n: 1 2 3 4 5 6 7
-- keep f26b: 5
-- keep f26c: 4 5
-- keep f26d: 4
end Go.Sx.Tryd
/- What the document tells of a book. -/
namespace Go.Sx.Tryd
open Go Go.Sx
end Go.Sx.Tryd
/- The statement BookTells, of the evaluator. -/
namespace Go.Sx.Tryd
open Go Go.Sx
theorem pick_eq {l : List Post} (hr : rightB l = true) {w w' : Post → Bool} (h : ∀ p, chk p = 0 → w p = w' p) : pickR l w = l.filter w' := by
  unfold pickR
  rw [if_pos hr]
  exact List.filter_congr fun p hp => h p (right_chk hr p hp)
theorem fits_nice {p : Post} (h : fits p = true) (hw : p.so = .nil → p.legs = []) : Nice p := by
  simp only [fits, decide_eq_true_eq] at h
  exact ⟨by omega, by omega, hw⟩
end Go.Sx.Tryd
