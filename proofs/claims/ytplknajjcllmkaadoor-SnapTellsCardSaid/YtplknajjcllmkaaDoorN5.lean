/- What is told of a book. -/
import Derived.Test.YtplknajjcllmkaaDoorN4
namespace Go.Sx.Tryd
open Go Go.Sx
abbrev Bk (o : SO) (s : Nat) (l : List Post) : AV := AV.agg [CV.pv (PV.sl o s (l.map Post.pv))]
theorem f20n_1 (l : List Post) (o : SO) (s : Nat) (k e : Int) (h : cc (ev X E0) 67 [AV.agg [.pv (.sl o s (List.map Post.pv l))], AV.c (.fn 137 [0])] [.cells [vw k]] = some (AV.tup [AV.c (.pv (.sl SO.nil 0 [])), AV.i e], [.cells [vw k]])) :
    cc (ev X E0) 103 [AV.agg [.pv (.sl o s (List.map Post.pv l))], AV.c (vw k)] [] = some (AV.tup [AV.agg [.pv (.sl SO.nil 0 [])], AV.c (vi e)], []) :=
  cc_path (x := xf103) rfl [.call (AV.tup [AV.c (.pv (.sl SO.nil 0 [])), AV.c (vi e)]) [.cells [vw k]]]
    (c := rq [ty h]) (by kernel_rfl)
    (aq ⟨h, trivial⟩)
theorem f20o_1 (l : List Post) (o : SO) (s : Nat) (k e : Int) (es : List PV) (h : cc (ev X E0) 67 [AV.agg [.pv (.sl o s (List.map Post.pv l))], AV.c (.fn 137 [0])] [.cells [vw k]] = some (AV.tup [AV.c (.own 0 7 es), AV.i e], [.cells [vw k]])) :
    cc (ev X E0) 103 [AV.agg [.pv (.sl o s (List.map Post.pv l))], AV.c (vw k)] [] = some (AV.tup [AV.agg [.own 0 7 es], AV.c (vi e)], []) :=
  cc_path (x := xf103) rfl [.call (AV.tup [AV.c (.own 0 7 es), AV.c (vi e)]) [.cells [vw k]]]
    (c := rq [ty h]) (by kernel_rfl)
    (aq ⟨h, trivial⟩)
theorem f21n_1 (l : List Post) (o : SO) (s : Nat) (k v e : Int) (h : cc (ev X E0) 67 [AV.agg [.pv (.sl o s (List.map Post.pv l))], AV.c (.fn 68 [0, 1])] [.cells [vw k], .cells [vw v]] = some (AV.tup [AV.c (.pv (.sl SO.nil 0 [])), AV.i e], [.cells [vw k], .cells [vw v]])) :
    cc (ev X E0) 33 [AV.agg [.pv (.sl o s (List.map Post.pv l))], AV.c (vw k), AV.c (vw v)] [] = some (AV.tup [AV.c (.pv (.sl SO.nil 0 [])), AV.c (vi e)], []) :=
  cc_path (x := xf33) rfl [.call (AV.tup [AV.c (.pv (.sl SO.nil 0 [])), AV.c (vi e)]) [.cells [vw k], .cells [vw v]]]
    (c := rq [ty h]) (by kernel_rfl)
    (aq ⟨h, trivial⟩)
theorem f21o_1 (l : List Post) (o : SO) (s : Nat) (k v e : Int) (es : List PV) (h : cc (ev X E0) 67 [AV.agg [.pv (.sl o s (List.map Post.pv l))], AV.c (.fn 68 [0, 1])] [.cells [vw k], .cells [vw v]] = some (AV.tup [AV.c (.own 0 7 es), AV.i e], [.cells [vw k], .cells [vw v]])) :
    cc (ev X E0) 33 [AV.agg [.pv (.sl o s (List.map Post.pv l))], AV.c (vw k), AV.c (vw v)] [] = some (AV.tup [AV.c (.own 0 7 es), AV.c (vi e)], []) :=
  cc_path (x := xf33) rfl [.call (AV.tup [AV.c (.own 0 7 es), AV.c (vi e)]) [.cells [vw k], .cells [vw v]]]
    (c := rq [ty h]) (by kernel_rfl)
    (aq ⟨h, trivial⟩)
def outP (es : List Post) : PV := if es.isEmpty then PV.sl SO.nil 0 [] else PV.sl .shut 7 ((es.map sh).map Post.pv)
theorem outA_shut (es : List Post) : (outA es).shutAll = CV.pv (outP es) := by
  unfold outA outP
  cases es <;> rfl
theorem s20 {l : List Post} {o : SO} {s : Nat} (hs : szOk 7 (CV.pv (PV.sl o s (List.map Post.pv l))) = true) (ho : o = .nil → l = []) (hl : l.length ≤ 1000) (hN : ∀ p ∈ l, Nice p) (k : Int) :
    cs (ev X E0) 103 [Bk o s l, AV.int .i32 k] = some (.tup [.agg [CV.pv (outP (pickR l fun p => decide (p.known ≤ k)))], .i (pickE l)]) := by
  have h := s64a hs ho (x := .int .i32 k) (w := fun p => decide (p.known ≤ k)) (fun p => f65_1 p k) hl hN
  rw [← outA_shut]
  rcases out_cases (pickR l fun p => decide (p.known ≤ k)) with ⟨_, h1⟩ | ⟨_, h1⟩
  · rw [h1] at h ⊢; exact cs_of (f20n_1 l o s k _ h)
  · rw [h1] at h ⊢; exact cs_of (f20o_1 l o s k _ _ h)
def within (k v : Int) (p : Post) : Bool := decide (p.known ≤ k ∧ p.value ≤ v)
theorem s66 (k v : Int) (p : Post) : cc (ev X E0) 68 [Post.av p, AV.c (.ptr 0 0), AV.c (.ptr 1 0)] [Box.cells [CV.pv (.int .i32 k)], Box.cells [CV.pv (.int .i32 v)]] = some (.b (within k v p), [Box.cells [CV.pv (.int .i32 k)], Box.cells [CV.pv (.int .i32 v)]]) := by
  by_cases h : p.known ≤ k
  · rw [f66_1 p k v h, within]; congr 5; rw [Bool.eq_iff_iff]; simp [h]
  · rw [f66_2 p k v h, within, decide_eq_false (by omega)]
theorem datOk_iff {d : Int} : datOk d = true ↔ -50000 ≤ d ∧ d ≤ 50000 := by simp [datOk]
def addE (l : List Post) (p : Post) : Int := if rightB l = true then fullE l p else 1
def addR (l : List Post) (p : Post) : List Post := if addE l p = 0 then l ++ [p] else []
theorem f19r_1 (l : List Post) (o : SO) (s : Nat) (p : Post) (h25 : cc (ev X E0) 61 [AV.agg [.pv (.sl o s (List.map Post.pv l))]] [] = some (AV.b false, [])) :
    cc (ev X E0) 55 [AV.agg [.pv (.sl o s (List.map Post.pv l))], AV.agg (Post.cs p)] [] = some (AV.tup [AV.agg [.pv (.sl SO.nil 0 [])], AV.c (vi 1)], []) :=
  cc_path (x := xf55) rfl [kb false, .br true]
    (c := rq [ty h25, zt 1]) (by kernel_rfl)
    (aq ⟨h25, rfl, trivial⟩)
theorem f19e_1 (l : List Post) (o : SO) (s : Nat) (p : Post) (h25 : cc (ev X E0) 61 [AV.agg [.pv (.sl o s (List.map Post.pv l))]] [] = some (AV.b true, [])) (e : Int) (he : ¬e = 0) (h37 : cc (ev X E0) 69 [Post.av p] [] = some (AV.i e, [])) :
    cc (ev X E0) 55 [AV.agg [.pv (.sl o s (List.map Post.pv l))], AV.agg (Post.cs p)] [] = some (AV.tup [AV.agg [.pv (.sl SO.nil 0 [])], AV.c (vi e)], []) :=
  cc_path (x := xf55) rfl [kb true, .br false, .call (AV.c (vi e)) [], .br true]
    (c := rq [ty h25, zf 1, ty h37, (1, (e != 0) = true)]) (by kernel_rfl)
    (aq ⟨h25, rfl, h37, (bne_iff_ne.mpr he), trivial⟩)
theorem f19x_1 (l : List Post) (o : SO) (s : Nat) (p : Post) (kv : List (PV × PV)) (h25 : cc (ev X E0) 61 [AV.agg [.pv (.sl o s (List.map Post.pv l))]] [] = some (AV.b true, [])) (h37 : cc (ev X E0) 69 [Post.av p] [] = some (AV.i 0, [])) (h60 : cc (ev X E0) 99 [AV.sl o s (List.map Post.pv l)] [] = some (AV.c (.mp 0), [.map kv])) (e : Int) (he : ¬e = 0) (h59 : cc (ev X E0) 98 [AV.sl o s (List.map Post.pv l), AV.c (.mp 0), Post.av p] [.map kv] = some (AV.i e, [.map kv])) :
    cc (ev X E0) 55 [AV.agg [.pv (.sl o s (List.map Post.pv l))], AV.agg (Post.cs p)] [] = some (AV.tup [AV.agg [.pv (.sl SO.nil 0 [])], AV.c (vi e)], []) :=
  cc_path (x := xf55) rfl [kb true, .br false, .call (AV.c (vi (0 : Int))) [], .br false, .call (AV.c (.mp 0)) [.map kv], .call (AV.c (vi e)) [.map kv], .br true]
    (c := rq [ty h25, zf 1, ty h37, zf 1, ty h60, ty h59, (1, (e != 0) = true)]) (by kernel_rfl)
    (aq ⟨h25, rfl, h37, rfl, h60, h59, (bne_iff_ne.mpr he), trivial⟩)
theorem f19n_1 (l : List Post) (o : SO) (s : Nat) (p : Post) (kv : List (PV × PV)) (h25 : cc (ev X E0) 61 [AV.agg [.pv (.sl o s (List.map Post.pv l))]] [] = some (AV.b true, [])) (h37 : cc (ev X E0) 69 [Post.av p] [] = some (AV.i 0, [])) (h60 : cc (ev X E0) 99 [AV.sl o s (List.map Post.pv l)] [] = some (AV.c (.mp 0), [.map kv])) (h59 : cc (ev X E0) 98 [AV.sl o s (List.map Post.pv l), AV.c (.mp 0), Post.av p] [.map kv] = some (AV.i 0, [.map kv])) (h63 : cc (ev X E0) 102 [Post.av p] [] = some (Post.av (sh p), [])) (h62 : cc (ev X E0) 101 [AV.sl o s (List.map Post.pv l), AV.c (.fn 100 [])] [] = some (AV.c (.pv (.sl SO.nil 0 [])), [])) (g1 : (↑(0 + List.length [Post.pv (sh p)]) : Int) * 72 ≤ 140737488355328) :
    cc (ev X E0) 55 [AV.agg [.pv (.sl o s (List.map Post.pv l))], AV.agg (Post.cs p)] [] = some (AV.tup [AV.agg [.own 0 7 [Post.pv (sh p)]], AV.c (vi 0)], []) :=
  cc_path (x := xf55) rfl [kb true, .br false, .call (AV.c (vi (0 : Int))) [], .br false, .call (AV.c (.mp 0)) [.map kv], .call (AV.c (vi 0)) [.map kv], .br false, .call (AV.c (.pv (.sl SO.nil (0 : Nat) []))) [], .call (AV.agg [vi (Post.id (sh p)), vw (Post.known (sh p)), vw (Post.value (sh p)), .pv (.sl SO.shut 3 (List.map Leg.pv (Post.legs (sh p)))), vi (Post.rev (sh p)), vi (Post.kind (sh p)), .pv (.str (Post.memo (sh p)))]) [], .emp false]
    (c := rq [ty h25, zf 1, ty h37, zf 1, ty h60, ty h59, zf 1, ty h62, ty h63, (1, [Post.pv (sh p)] ≠ []), ty g1]) (by kernel_rfl)
    (aq ⟨h25, rfl, h37, rfl, h60, h59, rfl, h62, h63, (List.cons_ne_nil _ _), g1, trivial⟩)
theorem f19o_1 (l : List Post) (o : SO) (s : Nat) (p : Post) (kv : List (PV × PV)) (es : List PV) (h25 : cc (ev X E0) 61 [AV.agg [.pv (.sl o s (List.map Post.pv l))]] [] = some (AV.b true, [])) (h37 : cc (ev X E0) 69 [Post.av p] [] = some (AV.i 0, [])) (h60 : cc (ev X E0) 99 [AV.sl o s (List.map Post.pv l)] [] = some (AV.c (.mp 0), [.map kv])) (h59 : cc (ev X E0) 98 [AV.sl o s (List.map Post.pv l), AV.c (.mp 0), Post.av p] [.map kv] = some (AV.i 0, [.map kv])) (h63 : cc (ev X E0) 102 [Post.av p] [] = some (Post.av (sh p), [])) (h62 : cc (ev X E0) 101 [AV.sl o s (List.map Post.pv l), AV.c (.fn 100 [])] [] = some (AV.c (.own 0 7 es), [])) (g1 : (↑(List.length es + List.length [Post.pv (sh p)]) : Int) * 72 ≤ 140737488355328) :
    cc (ev X E0) 55 [AV.agg [.pv (.sl o s (List.map Post.pv l))], AV.agg (Post.cs p)] [] = some (AV.tup [AV.agg [.own 0 7 (es ++ [Post.pv (sh p)])], AV.c (vi 0)], []) :=
  cc_path (x := xf55) rfl [kb true, .br false, .call (AV.c (vi (0 : Int))) [], .br false, .call (AV.c (.mp 0)) [.map kv], .call (AV.c (vi 0)) [.map kv], .br false, .call (AV.c (.own 0 7 es)) [], .call (AV.agg [vi (Post.id (sh p)), vw (Post.known (sh p)), vw (Post.value (sh p)), .pv (.sl SO.shut 3 (List.map Leg.pv (Post.legs (sh p)))), vi (Post.rev (sh p)), vi (Post.kind (sh p)), .pv (.str (Post.memo (sh p)))]) []]
    (c := rq [ty h25, zf 1, ty h37, zf 1, ty h60, ty h59, zf 1, ty h62, ty h63, ty g1]) (by kernel_rfl)
    (aq ⟨h25, rfl, h37, rfl, h60, h59, rfl, h62, h63, g1, trivial⟩)
theorem s19 {l : List Post} {o : SO} {s : Nat} (hs : szOk 7 (CV.pv (PV.sl o s (List.map Post.pv l))) = true) (ho : o = .nil → l = []) (hl : l.length ≤ 1000) (hN : ∀ p ∈ l, Nice p) {p : Post} (hp : Nice p) :
    cs (ev X E0) 55 [Bk o s l, Post.av p] = some (.tup [.agg [CV.pv (outP (addR l p))], .i (addE l p)]) := by
  have h25 := s25 hs ho hl hN
  have h37 := s37 p hp.memo (by have := hp.legs; omega)
  have h60 := s60 (l := l) hs (by omega)
  have hz : ∀ e : Int, e ≠ 0 → addE l p = e → outP (addR l p) = PV.sl SO.nil 0 [] := fun e he h => by unfold addR; rw [h, if_neg he]; rfl
  cases hr : rightB l with
  | false =>
    rw [hr] at h25
    have e : addE l p = 1 := by unfold addE; rw [hr]; rfl
    rw [hz 1 (by decide) e, e]
    exact cs_of (f19r_1 l o s p h25)
  | true =>
    rw [hr] at h25
    have e0 : addE l p = fullE l p := by unfold addE; rw [hr]; rfl
    by_cases c : chk p = 0
    · have hrv := chk_rev c
      have h59 := s59 hs hl hN hrv.1 hrv.2.1
      rw [c] at h37
      have e1 : addE l p = nextE l p := by rw [e0, fullE, if_pos c]
      by_cases c2 : nextE l p = 0
      · rw [c2] at h59
        have h63 : cc (ev X E0) 102 [Post.av p] [] = some (Post.av (sh p), []) := s63 c hp.so
        have h62 := s62z hs (g := 100) (w := fun _ => true) (fun q => f61_1 q) (by omega) fun q hq => ⟨right_chk hr q hq, hN q hq⟩
        rw [show l.filter (fun _ => true) = l by simp] at h62
        have ea : addR l p = l ++ [p] := by unfold addR; rw [e1, c2]; rfl
        have eo : outP (l ++ [p]) = PV.sl .shut 7 ((l.map sh).map Post.pv ++ [Post.pv (sh p)]) := by unfold outP; rw [if_neg (by simp)]; simp
        rw [e1, c2, ea, eo]
        cases l with
        | nil => exact cs_of (f19n_1 [] o s p _ h25 h37 h60 h59 h63 h62 (by simp))
        | cons y r => exact cs_of (f19o_1 (y :: r) o s p _ _ h25 h37 h60 h59 h63 h62 (by simp only [List.length_map, List.length_singleton]; omega))
      · rw [hz _ c2 e1, e1]
        exact cs_of (f19x_1 l o s p _ h25 h37 h60 _ c2 h59)
    · have e1 : addE l p = chk p := by rw [e0, fullE, if_neg c]
      rw [hz _ c e1, e1]
      exact cs_of (f19e_1 l o s p h25 _ c h37)
end Go.Sx.Tryd
