/- What is told of a book. -/
import Derived.Test.YtggopflifieoiaaDoorN4
namespace Go.Sx.Tryd
open Go Go.Sx
abbrev Bk (o : SO) (s : Nat) (l : List Post) : AV := AV.agg [CV.pv (PV.sl o s (l.map Post.pv))]
def outP (es : List Post) : PV := if es.isEmpty then PV.sl SO.nil 0 [] else PV.sl .shut 7 ((es.map sh).map Post.pv)
def stands (l : List Post) (p : Post) : Bool := p.rev == 0 && !(l.any fun q => q.rev == p.id)
def addE (l : List Post) (p : Post) : Int := if rightB l = true then fullE l p else 1
def addR (l : List Post) (p : Post) : List Post := if addE l p = 0 then l ++ [p] else []
theorem f19r_1 (l : List Post) (o : SO) (s : Nat) (p : Post) (h25 : cc (ev X E0) 38 [AV.agg [.pv (.sl o s (List.map Post.pv l))]] [] = some (AV.b false, [])) :
    cc (ev X E0) 14 [AV.agg [.pv (.sl o s (List.map Post.pv l))], AV.agg (Post.cs p)] [] = some (AV.tup [AV.agg [.pv (.sl SO.nil 0 [])], AV.c (vi 1)], []) :=
  cc_path (x := xf14) rfl [.call (AV.c (.pv (.bool false))) [], .br true]
    (c := rq [ty h25, (1, true = true)]) (by kernel_rfl)
    (aq ⟨h25, rfl, trivial⟩)
theorem f19e_1 (l : List Post) (o : SO) (s : Nat) (p : Post) (h25 : cc (ev X E0) 38 [AV.agg [.pv (.sl o s (List.map Post.pv l))]] [] = some (AV.b true, [])) (e : Int) (he : ¬e = 0) (h37 : cc (ev X E0) 36 [Post.av p] [] = some (AV.i e, [])) :
    cc (ev X E0) 14 [AV.agg [.pv (.sl o s (List.map Post.pv l))], AV.agg (Post.cs p)] [] = some (AV.tup [AV.agg [.pv (.sl SO.nil 0 [])], AV.c (vi e)], []) :=
  cc_path (x := xf14) rfl [.call (AV.c (.pv (.bool true))) [], .br false, .call (AV.c (vi e)) [], .br true]
    (c := rq [ty h25, (1, false = false), ty h37, (1, (e != 0) = true)]) (by kernel_rfl)
    (aq ⟨h25, rfl, h37, (bne_iff_ne.mpr he), trivial⟩)
theorem f19x_1 (l : List Post) (o : SO) (s : Nat) (p : Post) (kv : List (PV × PV)) (h25 : cc (ev X E0) 38 [AV.agg [.pv (.sl o s (List.map Post.pv l))]] [] = some (AV.b true, [])) (h37 : cc (ev X E0) 36 [Post.av p] [] = some (AV.i 0, [])) (h60 : cc (ev X E0) 40 [AV.sl o s (List.map Post.pv l)] [] = some (AV.c (.mp 0), [.map kv])) (e : Int) (he : ¬e = 0) (h59 : cc (ev X E0) 39 [AV.sl o s (List.map Post.pv l), AV.c (.mp 0), Post.av p] [.map kv] = some (AV.i e, [.map kv])) :
    cc (ev X E0) 14 [AV.agg [.pv (.sl o s (List.map Post.pv l))], AV.agg (Post.cs p)] [] = some (AV.tup [AV.agg [.pv (.sl SO.nil 0 [])], AV.c (vi e)], []) :=
  cc_path (x := xf14) rfl [.call (AV.c (.pv (.bool true))) [], .br false, .call (AV.c (vi (0 : Int))) [], .br false, .call (AV.c (.mp 0)) [.map kv], .call (AV.c (vi e)) [.map kv], .br true]
    (c := rq [ty h25, (1, false = false), ty h37, (1, false = false), ty h60, ty h59, (1, (e != 0) = true)]) (by kernel_rfl)
    (aq ⟨h25, rfl, h37, rfl, h60, h59, (bne_iff_ne.mpr he), trivial⟩)
theorem f19n_1 (l : List Post) (o : SO) (s : Nat) (p : Post) (kv : List (PV × PV)) (h25 : cc (ev X E0) 38 [AV.agg [.pv (.sl o s (List.map Post.pv l))]] [] = some (AV.b true, [])) (h37 : cc (ev X E0) 36 [Post.av p] [] = some (AV.i 0, [])) (h60 : cc (ev X E0) 40 [AV.sl o s (List.map Post.pv l)] [] = some (AV.c (.mp 0), [.map kv])) (h59 : cc (ev X E0) 39 [AV.sl o s (List.map Post.pv l), AV.c (.mp 0), Post.av p] [.map kv] = some (AV.i 0, [.map kv])) (h63 : cc (ev X E0) 43 [Post.av p] [] = some (Post.av (sh p), [])) (h62 : cc (ev X E0) 42 [AV.sl o s (List.map Post.pv l), AV.c (.fn 41 [])] [] = some (AV.c (.pv (.sl SO.nil 0 [])), [])) (g1 : (↑(0 + List.length [Post.pv (sh p)]) : Int) * 72 ≤ 140737488355328) :
    cc (ev X E0) 14 [AV.agg [.pv (.sl o s (List.map Post.pv l))], AV.agg (Post.cs p)] [] = some (AV.tup [AV.agg [.own 0 7 [Post.pv (sh p)]], AV.c (vi 0)], []) :=
  cc_path (x := xf14) rfl [.call (AV.c (.pv (.bool true))) [], .br false, .call (AV.c (vi (0 : Int))) [], .br false, .call (AV.c (.mp 0)) [.map kv], .call (AV.c (vi 0)) [.map kv], .br false, .call (AV.c (.pv (.sl SO.nil (0 : Nat) []))) [], .call (AV.agg [vi (Post.id (sh p)), vw (Post.known (sh p)), vw (Post.value (sh p)), .pv (.sl SO.shut 3 (List.map Leg.pv (Post.legs (sh p)))), vi (Post.rev (sh p)), vi (Post.kind (sh p)), .pv (.str (Post.memo (sh p)))]) [], .emp false]
    (c := rq [ty h25, (1, false = false), ty h37, (1, false = false), ty h60, ty h59, (1, false = false), ty h62, ty h63, (1, [Post.pv (sh p)] ≠ []), ty g1]) (by kernel_rfl)
    (aq ⟨h25, rfl, h37, rfl, h60, h59, rfl, h62, h63, (List.cons_ne_nil _ _), g1, trivial⟩)
theorem f19o_1 (l : List Post) (o : SO) (s : Nat) (p : Post) (kv : List (PV × PV)) (es : List PV) (h25 : cc (ev X E0) 38 [AV.agg [.pv (.sl o s (List.map Post.pv l))]] [] = some (AV.b true, [])) (h37 : cc (ev X E0) 36 [Post.av p] [] = some (AV.i 0, [])) (h60 : cc (ev X E0) 40 [AV.sl o s (List.map Post.pv l)] [] = some (AV.c (.mp 0), [.map kv])) (h59 : cc (ev X E0) 39 [AV.sl o s (List.map Post.pv l), AV.c (.mp 0), Post.av p] [.map kv] = some (AV.i 0, [.map kv])) (h63 : cc (ev X E0) 43 [Post.av p] [] = some (Post.av (sh p), [])) (h62 : cc (ev X E0) 42 [AV.sl o s (List.map Post.pv l), AV.c (.fn 41 [])] [] = some (AV.c (.own 0 7 es), [])) (g1 : (↑(List.length es + List.length [Post.pv (sh p)]) : Int) * 72 ≤ 140737488355328) :
    cc (ev X E0) 14 [AV.agg [.pv (.sl o s (List.map Post.pv l))], AV.agg (Post.cs p)] [] = some (AV.tup [AV.agg [.own 0 7 (es ++ [Post.pv (sh p)])], AV.c (vi 0)], []) :=
  cc_path (x := xf14) rfl [.call (AV.c (.pv (.bool true))) [], .br false, .call (AV.c (vi (0 : Int))) [], .br false, .call (AV.c (.mp 0)) [.map kv], .call (AV.c (vi 0)) [.map kv], .br false, .call (AV.c (.own 0 7 es)) [], .call (AV.agg [vi (Post.id (sh p)), vw (Post.known (sh p)), vw (Post.value (sh p)), .pv (.sl SO.shut 3 (List.map Leg.pv (Post.legs (sh p)))), vi (Post.rev (sh p)), vi (Post.kind (sh p)), .pv (.str (Post.memo (sh p)))]) []]
    (c := rq [ty h25, (1, false = false), ty h37, (1, false = false), ty h60, ty h59, (1, false = false), ty h62, ty h63, ty g1]) (by kernel_rfl)
    (aq ⟨h25, rfl, h37, rfl, h60, h59, rfl, h62, h63, g1, trivial⟩)
theorem s19 {l : List Post} {o : SO} {s : Nat} (hs : szOk 7 (CV.pv (PV.sl o s (List.map Post.pv l))) = true) (ho : o = .nil → l = []) (hl : l.length ≤ 1000) (hN : ∀ p ∈ l, Nice p) {p : Post} (hp : Nice p) :
    cs (ev X E0) 14 [Bk o s l, Post.av p] = some (.tup [.agg [CV.pv (outP (addR l p))], .i (addE l p)]) := by
  have h25 := s25 hs ho hl hN
  have h37 := s37 p hp.memo (by have := hp.legs; omega)
  have h60 := s60 (l := l) hs (by omega)
  have hz : ∀ e : Int, e ≠ 0 → addE l p = e → outP (addR l p) = PV.sl SO.nil 0 [] := fun e he h => by unfold addR; rw [h, if_neg he]; rfl
  cases hr : rightB l with
  | false =>
    rw [hr] at h25
    have e : addE l p = 1 := by unfold addE; rw [hr]; rfl
    rw [hz 1 (by decide) e, e]
    exact cs_of (f19r_1 l o s p h25)
  | true =>
    rw [hr] at h25
    have e0 : addE l p = fullE l p := by unfold addE; rw [hr]; rfl
    by_cases c : chk p = 0
    · have hrv := chk_rev c
      have h59 := s59 hs hl hN hrv.1 hrv.2.1
      rw [c] at h37
      have e1 : addE l p = nextE l p := by rw [e0, fullE, if_pos c]
      by_cases c2 : nextE l p = 0
      · rw [c2] at h59
        have h63 : cc (ev X E0) 43 [Post.av p] [] = some (Post.av (sh p), []) := s63 c hp.so
        have h62 := s62z hs (g := 41) (w := fun _ => true) (fun q => f61_1 q) (by omega) fun q hq => ⟨right_chk hr q hq, hN q hq⟩
        rw [show l.filter (fun _ => true) = l by simp] at h62
        have ea : addR l p = l ++ [p] := by unfold addR; rw [e1, c2]; rfl
        have eo : outP (l ++ [p]) = PV.sl .shut 7 ((l.map sh).map Post.pv ++ [Post.pv (sh p)]) := by unfold outP; rw [if_neg (by simp)]; simp
        rw [e1, c2, ea, eo]
        cases l with
        | nil => exact cs_of (f19n_1 [] o s p _ h25 h37 h60 h59 h63 h62 (by simp))
        | cons y r => exact cs_of (f19o_1 (y :: r) o s p _ _ h25 h37 h60 h59 h63 h62 (by simp only [List.length_map, List.length_singleton]; omega))
      · rw [hz _ c2 e1, e1]
        exact cs_of (f19x_1 l o s p _ h25 h37 h60 _ c2 h59)
    · have e1 : addE l p = chk p := by rw [e0, fullE, if_neg c]
      rw [hz _ c e1, e1]
      exact cs_of (f19e_1 l o s p h25 _ c h37)
end Go.Sx.Tryd
