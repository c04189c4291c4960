/- What is told of a book. -/
import Derived.Test.YtggopflifieoiaaDoorN4
import Derived.Test.YtggopflifieoiaaDoorY2
import Derived.Test.YtggopflifieoiaaDoorZ4
namespace Go.Sx.Tryd
open Go Go.Sx
abbrev Bk (o : SO) (s : Nat) (l : List Post) : AV := AV.agg [CV.pv (PV.sl o s (l.map Post.pv))]
def outP (es : List Post) : PV := if es.isEmpty then PV.sl SO.nil 0 [] else PV.sl .shut 7 ((es.map sh).map Post.pv)
def stands (l : List Post) (p : Post) : Bool := p.rev == 0 && !(l.any fun q => q.rev == p.id)
def addE (l : List Post) (p : Post) : Int := if rightB l = true then fullE l p else 1
def addR (l : List Post) (p : Post) : List Post := if addE l p = 0 then l ++ [p] else []
theorem f19r_1 (l : List Post) (o : SO) (s : Nat) (p : Post) (h25 : cc (ev X E0) 38 [AV.agg [.pv (.sl o s (List.map Post.pv l))]] [] = some (AV.b false, [])) :
    cc (ev X E0) 14 [AV.agg [.pv (.sl o s (List.map Post.pv l))], AV.agg (Post.cs p)] [] = some (AV.tup [AV.agg [.pv (.sl SO.nil 0 [])], AV.c (vi 1)], []) :=
  cc_path (x := xf14) rfl [.call (AV.c (.pv (.bool false))) [], .br true]
    (c := rq [ty h25, (1, true = true)]) (by kernel_rfl)
    (aq ⟨h25, rfl, trivial⟩)
theorem f19e_1 (l : List Post) (o : SO) (s : Nat) (p : Post) (h25 : cc (ev X E0) 38 [AV.agg [.pv (.sl o s (List.map Post.pv l))]] [] = some (AV.b true, [])) (e : Int) (he : ¬e = 0) (h37 : cc (ev X E0) 36 [Post.av p] [] = some (AV.i e, [])) :
    cc (ev X E0) 14 [AV.agg [.pv (.sl o s (List.map Post.pv l))], AV.agg (Post.cs p)] [] = some (AV.tup [AV.agg [.pv (.sl SO.nil 0 [])], AV.c (vi e)], []) :=
  cc_path (x := xf14) rfl [.call (AV.c (.pv (.bool true))) [], .br false, .call (AV.c (vi e)) [], .br true]
    (c := rq [ty h25, (1, false = false), ty h37, (1, (e != 0) = true)]) (by kernel_rfl)
    (aq ⟨h25, rfl, h37, (bne_iff_ne.mpr he), trivial⟩)
theorem f19x_1 (l : List Post) (o : SO) (s : Nat) (p : Post) (kv : List (PV × PV)) (h25 : cc (ev X E0) 38 [AV.agg [.pv (.sl o s (List.map Post.pv l))]] [] = some (AV.b true, [])) (h37 : cc (ev X E0) 36 [Post.av p] [] = some (AV.i 0, [])) (h60 : cc (ev X E0) 40 [AV.sl o s (List.map Post.pv l)] [] = some (AV.c (.mp 0), [.map kv])) (e : Int) (he : ¬e = 0) (h59 : cc (ev X E0) 39 [AV.sl o s (List.map Post.pv l), AV.c (.mp 0), Post.av p] [.map kv] = some (AV.i e, [.map kv])) :
    cc (ev X E0) 14 [AV.agg [.pv (.sl o s (List.map Post.pv l))], AV.agg (Post.cs p)] [] = some (AV.tup [AV.agg [.pv (.sl SO.nil 0 [])], AV.c (vi e)], []) :=
  cc_path (x := xf14) rfl [.call (AV.c (.pv (.bool true))) [], .br false, .call (AV.c (vi (0 : Int))) [], .br false, .call (AV.c (.mp 0)) [.map kv], .call (AV.c (vi e)) [.map kv], .br true]
    (c := rq [ty h25, (1, false = false), ty h37, (1, false = false), ty h60, ty h59, (1, (e != 0) = true)]) (by kernel_rfl)
    (aq ⟨h25, rfl, h37, rfl, h60, h59, (bne_iff_ne.mpr he), trivial⟩)
theorem f19n_1 (l : List Post) (o : SO) (s : Nat) (p : Post) (kv : List (PV × PV)) (h25 : cc (ev X E0) 38 [AV.agg [.pv (.sl o s (List.map Post.pv l))]] [] = some (AV.b true, [])) (h37 : cc (ev X E0) 36 [Post.av p] [] = some (AV.i 0, [])) (h60 : cc (ev X E0) 40 [AV.sl o s (List.map Post.pv l)] [] = some (AV.c (.mp 0), [.map kv])) (h59 : cc (ev X E0) 39 [AV.sl o s (List.map Post.pv l), AV.c (.mp 0), Post.av p] [.map kv] = some (AV.i 0, [.map kv])) (h63 : cc (ev X E0) 43 [Post.av p] [] = some (Post.av (sh p), [])) (h62 : cc (ev X E0) 42 [AV.sl o s (List.map Post.pv l), AV.c (.fn 41 [])] [] = some (AV.c (.pv (.sl SO.nil 0 [])), [])) (g1 : (↑(0 + List.length [Post.pv (sh p)]) : Int) * 72 ≤ 140737488355328) :
    cc (ev X E0) 14 [AV.agg [.pv (.sl o s (List.map Post.pv l))], AV.agg (Post.cs p)] [] = some (AV.tup [AV.agg [.own 0 7 [Post.pv (sh p)]], AV.c (vi 0)], []) :=
  cc_path (x := xf14) rfl [.call (AV.c (.pv (.bool true))) [], .br false, .call (AV.c (vi (0 : Int))) [], .br false, .call (AV.c (.mp 0)) [.map kv], .call (AV.c (vi 0)) [.map kv], .br false, .call (AV.c (.pv (.sl SO.nil (0 : Nat) []))) [], .call (AV.agg [vi (Post.id (sh p)), vw (Post.known (sh p)), vw (Post.value (sh p)), .pv (.sl SO.shut 3 (List.map Leg.pv (Post.legs (sh p)))), vi (Post.rev (sh p)), vi (Post.kind (sh p)), .pv (.str (Post.memo (sh p)))]) [], .emp false]
    (c := rq [ty h25, (1, false = false), ty h37, (1, false = false), ty h60, ty h59, (1, false = false), ty h62, ty h63, (1, [Post.pv (sh p)] ≠ []), ty g1]) (by kernel_rfl)
    (aq ⟨h25, rfl, h37, rfl, h60, h59, rfl, h62, h63, (List.cons_ne_nil _ _), g1, trivial⟩)
theorem f19o_1 (l : List Post) (o : SO) (s : Nat) (p : Post) (kv : List (PV × PV)) (es : List PV) (h25 : cc (ev X E0) 38 [AV.agg [.pv (.sl o s (List.map Post.pv l))]] [] = some (AV.b true, [])) (h37 : cc (ev X E0) 36 [Post.av p] [] = some (AV.i 0, [])) (h60 : cc (ev X E0) 40 [AV.sl o s (List.map Post.pv l)] [] = some (AV.c (.mp 0), [.map kv])) (h59 : cc (ev X E0) 39 [AV.sl o s (List.map Post.pv l), AV.c (.mp 0), Post.av p] [.map kv] = some (AV.i 0, [.map kv])) (h63 : cc (ev X E0) 43 [Post.av p] [] = some (Post.av (sh p), [])) (h62 : cc (ev X E0) 42 [AV.sl o s (List.map Post.pv l), AV.c (.fn 41 [])] [] = some (AV.c (.own 0 7 es), [])) (g1 : (↑(List.length es + List.length [Post.pv (sh p)]) : Int) * 72 ≤ 140737488355328) :
    cc (ev X E0) 14 [AV.agg [.pv (.sl o s (List.map Post.pv l))], AV.agg (Post.cs p)] [] = some (AV.tup [AV.agg [.own 0 7 (es ++ [Post.pv (sh p)])], AV.c (vi 0)], []) :=
  cc_path (x := xf14) rfl [.call (AV.c (.pv (.bool true))) [], .br false, .call (AV.c (vi (0 : Int))) [], .br false, .call (AV.c (.mp 0)) [.map kv], .call (AV.c (vi 0)) [.map kv], .br false, .call (AV.c (.own 0 7 es)) [], .call (AV.agg [vi (Post.id (sh p)), vw (Post.known (sh p)), vw (Post.value (sh p)), .pv (.sl SO.shut 3 (List.map Leg.pv (Post.legs (sh p)))), vi (Post.rev (sh p)), vi (Post.kind (sh p)), .pv (.str (Post.memo (sh p)))]) []]
    (c := rq [ty h25, (1, false = false), ty h37, (1, false = false), ty h60, ty h59, (1, false = false), ty h62, ty h63, ty g1]) (by kernel_rfl)
    (aq ⟨h25, rfl, h37, rfl, h60, h59, rfl, h62, h63, g1, trivial⟩)
theorem s19 {l : List Post} {o : SO} {s : Nat} (hs : szOk 7 (CV.pv (PV.sl o s (List.map Post.pv l))) = true) (ho : o = .nil → l = []) (hl : l.length ≤ 1000) (hN : ∀ p ∈ l, Nice p) {p : Post} (hp : Nice p) :
    cs (ev X E0) 14 [Bk o s l, Post.av p] = some (.tup [.agg [CV.pv (outP (addR l p))], .i (addE l p)]) := by
  have h25 := s25 hs ho hl hN
  have h37 := s37 p hp.memo (by have := hp.legs; omega)
  have h60 := s60 (l := l) hs (by omega)
  have hz : ∀ e : Int, e ≠ 0 → addE l p = e → outP (addR l p) = PV.sl SO.nil 0 [] := fun e he h => by unfold addR; rw [h, if_neg he]; rfl
  cases hr : rightB l with
  | false =>
    rw [hr] at h25
    have e : addE l p = 1 := by unfold addE; rw [hr]; rfl
    rw [hz 1 (by decide) e, e]
    exact cs_of (f19r_1 l o s p h25)
  | true =>
    rw [hr] at h25
    have e0 : addE l p = fullE l p := by unfold addE; rw [hr]; rfl
    by_cases c : chk p = 0
    · have hrv := chk_rev c
      have h59 := s59 hs hl hN hrv.1 hrv.2.1
      rw [c] at h37
      have e1 : addE l p = nextE l p := by rw [e0, fullE, if_pos c]
      by_cases c2 : nextE l p = 0
      · rw [c2] at h59
        have h63 : cc (ev X E0) 43 [Post.av p] [] = some (Post.av (sh p), []) := s63 c hp.so
        have h62 := s62z hs (g := 41) (w := fun _ => true) (fun q => f61_1 q) (by omega) fun q hq => ⟨right_chk hr q hq, hN q hq⟩
        rw [show l.filter (fun _ => true) = l by simp] at h62
        have ea : addR l p = l ++ [p] := by unfold addR; rw [e1, c2]; rfl
        have eo : outP (l ++ [p]) = PV.sl .shut 7 ((l.map sh).map Post.pv ++ [Post.pv (sh p)]) := by unfold outP; rw [if_neg (by simp)]; simp
        rw [e1, c2, ea, eo]
        cases l with
        | nil => exact cs_of (f19n_1 [] o s p _ h25 h37 h60 h59 h63 h62 (by simp))
        | cons y r => exact cs_of (f19o_1 (y :: r) o s p _ _ h25 h37 h60 h59 h63 h62 (by simp only [List.length_map, List.length_singleton]; omega))
      · rw [hz _ c2 e1, e1]
        exact cs_of (f19x_1 l o s p _ h25 h37 h60 _ c2 h59)
    · have e1 : addE l p = chk p := by rw [e0, fullE, if_neg c]
      rw [hz _ c e1, e1]
      exact cs_of (f19e_1 l o s p h25 _ c h37)
end Go.Sx.Tryd
/- Settling, and posting of what is paid. -/
namespace Go.Sx.Tryd
open Go Go.Sx
abbrev YS10 (l : List Int) (s i : Int) : St := St.mk (tmOf 32 [(0, AV.c (CV.pv (PV.sl .shut 1 (List.map i64P l)))), (4, AV.c (CV.pv (PV.int .i64 s))), (7, AV.c (CV.pv (PV.sl .shut 1 (List.map i64P l)))), (8, AV.c (CV.pv (PV.int .i64 (↑(List.length (List.map i64P l)) : Int)))), (9, AV.c (CV.pv (PV.int .i64 i)))]) []
theorem yl10_3 (l : List Int) (s : Int) (i : Nat) (y1 : Int) (g1 : (↑i : Int) < (↑(List.length (List.map i64P l)) : Int)) (g2 : l[i]? = some y1) (g3 : ¬y1 < -300000000000000) (g4 : ¬y1 > 300000000000000) :
    lv (cv (ev X E0) xf10_l0) (rl [0, 3, 2, 0, 0]) 0 (YS10 l s (↑i : Int)) = lv (cv (ev X E0) xf10_l0) (rl [0, 3, 2, 0, 0]) 0 (St.mk (tmOf 32 [(0, AV.c (.pv (.sl SO.shut 1 (List.map i64P l)))), (4, AV.c (vi (IntKind.wrap .i64 (s + y1)))), (7, AV.c (.pv (.sl SO.shut 1 (List.map i64P l)))), (8, AV.c (vi (↑(List.length (List.map i64P l)) : Int))), (9, AV.c (vi (IntKind.wrap .i64 ((↑i : Int) + 1))))]) []) :=
  lv_next ([.br true, .el (.int .i64 y1)] ++ bs 4 false)
    (c := rq [(1, decide ((↑i : Int) < (↑(List.length (List.map i64P l)) : Int)) = true), (1, 0 ≤ (↑i : Int)), (1, (List.map i64P l)[i]? = some (PV.int .i64 y1)), (3, decide (y1 < -300000000000000) = false), (1, decide (y1 > 300000000000000) = false)]) (by kernel_rfl)
    (aq ⟨(dT g1), (Int.natCast_nonneg _), (map_at g2), (dF g3), (dF g4), trivial⟩)
theorem yl10_4 (l : List Int) (s : Int) (i : Nat) (g1 : ¬(↑i : Int) < (↑(List.length (List.map i64P l)) : Int)) :
    lv (cv (ev X E0) xf10_l0) (rl [0, 3, 2, 0, 0]) 0 (YS10 l s (↑i : Int)) = some (XExit.exit 0, St.mk (tmOf 32 [(0, AV.c (.pv (.sl SO.shut 1 (List.map i64P l)))), (4, AV.c (vi s))]) []) :=
  lv_exit [.br false]
    (c := [decide ((↑i : Int) < (↑(List.length (List.map i64P l)) : Int)) = false]) (by kernel_rfl)
    ⟨(dF g1), trivial⟩
theorem yg10n_3 (l : List Int) (s : Int) (h : lv (cv (ev X E0) xf10_l0) (rl [0, 3, 2, 0, 0]) 0 (YS10 l 0 0) = some (XExit.exit 0, St.mk (tmOf 32 [(0, AV.c (.pv (.sl SO.shut 1 (List.map i64P l)))), (4, AV.c (vi s))]) [])) (h35 : cc (ev X E0) 35 [netI l] [] = some (AV.c nilC, [])) (g1 : (↑(List.length (List.map i64P l)) : Int) = 16) (g2 : s = 0) :
    cc (ev X E0) 10 [AV.c (.pv (.sl SO.shut 1 (List.map i64P l)))] [] = some (AV.tup [AV.c (.pv (.sl SO.nil 0 [])), AV.c (vi 0)], []) :=
  cc_path (x := xf10) rfl [.loop (XExit.exit 0) (St.mk (tmOf 32 [(0, AV.c (.pv (.sl SO.shut 1 (List.map i64P l)))), (4, AV.c (vi s))]) []), .br false, .br false, .call (AV.c (.pv (.sl SO.nil (0 : Nat) []))) []]
    (c := rq [ty h, (1, ((↑(List.length (List.map i64P l)) : Int) != 16) = false), (1, (s != 0) = false), ty h35]) (by kernel_rfl)
    (aq ⟨h, (bne_f g1), (bne_f g2), h35, trivial⟩)
theorem yg10o_3 (l : List Int) (s : Int) (out : List Tr) (h : lv (cv (ev X E0) xf10_l0) (rl [0, 3, 2, 0, 0]) 0 (YS10 l 0 0) = some (XExit.exit 0, St.mk (tmOf 32 [(0, AV.c (.pv (.sl SO.shut 1 (List.map i64P l)))), (4, AV.c (vi s))]) [])) (h35 : cc (ev X E0) 35 [netI l] [] = some (AV.c (.own 0 3 (List.map Tr.pv out)), [])) (g1 : (↑(List.length (List.map i64P l)) : Int) = 16) (g2 : s = 0) :
    cc (ev X E0) 10 [AV.c (.pv (.sl SO.shut 1 (List.map i64P l)))] [] = some (AV.tup [AV.c (.pv (.sl SO.shut 3 (List.map Tr.pv out))), AV.c (vi 0)], []) :=
  cc_path (x := xf10) rfl [.loop (XExit.exit 0) (St.mk (tmOf 32 [(0, AV.c (.pv (.sl SO.shut 1 (List.map i64P l)))), (4, AV.c (vi s))]) []), .br false, .br false, .call (AV.c (.own 0 3 (List.map Tr.pv out))) []]
    (c := rq [ty h, (1, ((↑(List.length (List.map i64P l)) : Int) != 16) = false), (1, (s != 0) = false), ty h35]) (by kernel_rfl)
    (aq ⟨h, (bne_f g1), (bne_f g2), h35, trivial⟩)
theorem yg12_1 (fr to cur n known value : Int) :
    cc (ev X E0) 12 [AV.c (vi fr), AV.c (vi to), AV.c (vi cur), AV.c (vi n), AV.c (vw known), AV.c (vw value)] [] = some (AV.agg [vi 0, vw known, vw value, .pv (.sl SO.full 3 [PV.agg [PV.int .i64 fr, .int .i64 cur, .int .i64 (IntKind.wrap .i64 (0 - n))], .agg [PV.int .i64 to, .int .i64 cur, .int .i64 n]]), vi 0, vi 0, .pv (.str [])], []) :=
  cc_path (x := xf12) rfl []
    (c := []) (by kernel_rfl)
    trivial
theorem yg15_1 (v n : Int) (g1 : n ≠ 0) :
    cc (ev X E0) 15 [AV.c (vi v), AV.c (vi n)] [] = some (AV.c (vi (Int.tmod (IntKind.wrap .i64 (Int.tmod v n + n)) n)), []) :=
  cc_path (x := xf15) rfl []
    (c := [n ≠ 0, n ≠ 0]) (by kernel_rfl)
    ⟨g1, g1, trivial⟩
end Go.Sx.Tryd
/- Balances: the legs of an account. -/
namespace Go.Sx.Tryd
open Go Go.Sx
structure Lg where
  known : Int
  value : Int
  n : Int
def legP (acc cur : Int) (p : Post) : List Lg := (p.legs.filter (onW acc cur)).map fun x => ⟨p.known, p.value, x.minor⟩
def legsOf (acc cur : Int) (l : List Post) : List Lg := l.flatMap (legP acc cur)
def sumW (w : Lg → Bool) : List Lg → Int
  | [] => 0
  | x :: l => (if w x = true then x.n else 0) + sumW w l
theorem sumW_append (w : Lg → Bool) (a b : List Lg) : sumW w (a ++ b) = sumW w a + sumW w b := by
  induction a with
  | nil => simp [sumW]
  | cons p a ih => simp only [List.cons_append, sumW, ih]; omega
def upto (k v : Int) (x : Lg) : Bool := decide (x.value ≤ v ∧ x.known ≤ k)
theorem sum_leg (acc cur k v : Int) (kn va : Int) : ∀ l : List Leg, sumW (upto k v) ((l.filter (onW acc cur)).map fun x => (⟨kn, va, x.minor⟩ : Lg)) = if va ≤ v ∧ kn ≤ k then sumIf (onW acc cur) l else 0
  | [] => by simp [sumW, sumIf]
  | x :: l => by
    have ih := sum_leg acc cur k v kn va l
    cases h : onW acc cur x with
    | true =>
      rw [List.filter_cons_of_pos h, List.map_cons]
      simp only [sumW, sumIf, ih, h, if_true, upto, decide_eq_true_eq]
      split <;> omega
    | false =>
      rw [List.filter_cons_of_neg (by rw [h]; decide)]
      simp only [sumIf, ih, h]
      split <;> simp
theorem sum_legs (acc cur k v : Int) : ∀ l : List Post, sumW (upto k v) (legsOf acc cur l) = balS acc cur k v l
  | [] => rfl
  | p :: l => by
    have ih := sum_legs acc cur k v l
    simp only [legsOf, List.flatMap_cons, balS] at ih ⊢
    rw [sumW_append, ih]
    simp only [legP, sum_leg]
def greatL : List Lg → Int
  | [] => 0
  | x :: l => (if x.n < 0 then -x.n else x.n) + greatL l
theorem great_append (a b : List Lg) : greatL (a ++ b) = greatL a + greatL b := by
  induction a with
  | nil => simp [greatL]
  | cons p a ih => simp only [List.cons_append, greatL, ih]; omega
theorem great_nonneg : ∀ l : List Lg, 0 ≤ greatL l
  | [] => Int.le_refl _
  | x :: l => by have := great_nonneg l; simp only [greatL]; split <;> omega
theorem great_legs {m : Int} (hm : 0 ≤ m) (acc cur kn va : Int) : ∀ l : List Leg, (∀ x ∈ l, -m ≤ x.minor ∧ x.minor ≤ m) → greatL ((l.filter (onW acc cur)).map fun x => (⟨kn, va, x.minor⟩ : Lg)) ≤ m * l.length
  | [], _ => by simp [greatL]
  | x :: l, h => by
    have ih := great_legs hm acc cur kn va l fun y hy => h y (by simp [hy])
    have hx := h x (by simp)
    have e : m * ((x :: l).length : Int) = m * (l.length : Int) + m := by rw [List.length_cons]; simp [Int.mul_add]
    rw [e]
    cases c : onW acc cur x with
    | true =>
      rw [List.filter_cons_of_pos c, List.map_cons]
      simp only [greatL]
      split <;> omega
    | false =>
      rw [List.filter_cons_of_neg (by rw [c]; decide)]
      omega
theorem great_book {m : Int} (hm : 0 ≤ m) (acc cur : Int) : ∀ l : List Post, (∀ p ∈ l, p.legs.length = 2 ∧ ∀ x ∈ p.legs, -m ≤ x.minor ∧ x.minor ≤ m) → greatL (legsOf acc cur l) ≤ 2 * m * l.length
  | [], _ => by simp [legsOf, greatL]
  | p :: l, h => by
    have ih := great_book hm acc cur l fun y hy => h y (by simp [hy])
    obtain ⟨h1, h2⟩ := h p (by simp)
    have hp := great_legs hm acc cur p.known p.value p.legs h2
    rw [h1] at hp
    have e : 2 * m * ((p :: l).length : Int) = 2 * m * (l.length : Int) + 2 * m := by rw [List.length_cons]; simp [Int.mul_add]
    rw [e]
    simp only [legsOf, List.flatMap_cons] at ih ⊢
    rw [great_append]
    have : greatL (legP acc cur p) ≤ m * 2 := by simpa [legP] using hp
    omega
end Go.Sx.Tryd
/- What stands of a book: nothing; posting of what is paid. -/
namespace Go.Sx.Tryd
open Go Go.Sx
theorem yf71_1 (p : Post) (kv : List (PV × PV)) (g1 : p.rev = 0) (g2 : mapGet kv (.int .i64 p.id) = some none) :
    cc (ev X E0) 49 [AV.agg (Post.cs p), AV.c (.ptr 0 0)] [.cells [.mp 1], .map kv] = some (AV.c (.pv (.bool true)), [.cells [.mp 1], .map kv]) :=
  cc_path (x := xf49) rfl (bs 4 true ++ [.opt none, .br true, .br true])
    (c := rq [(4, (p.rev == 0) = true), ty g2, (2, (p.rev == 0) = true)]) (by kernel_rfl)
    (aq ⟨(beq_iff_eq.mpr g1), g2, (beq_iff_eq.mpr g1), trivial⟩)
theorem yf71_2 (p : Post) (kv : List (PV × PV)) (y1 : Bool) (g1 : p.rev = 0) (g2 : mapGet kv (.int .i64 p.id) = some (some (PV.bool y1))) :
    cc (ev X E0) 49 [AV.agg (Post.cs p), AV.c (.ptr 0 0)] [.cells [.mp 1], .map kv] = some (AV.c (.pv (.bool !y1)), [.cells [.mp 1], .map kv]) :=
  cc_path (x := xf49) rfl (bs 4 true ++ [.opt (some (PV.bool y1)), .br true, .br true])
    (c := rq [(4, (p.rev == 0) = true), ty g2, (2, (p.rev == 0) = true)]) (by kernel_rfl)
    (aq ⟨(beq_iff_eq.mpr g1), g2, (beq_iff_eq.mpr g1), trivial⟩)
theorem yf71_3 (p : Post) (kv : List (PV × PV)) (g1 : ¬p.rev = 0) :
    cc (ev X E0) 49 [AV.agg (Post.cs p), AV.c (.ptr 0 0)] [.cells [.mp 1], .map kv] = some (AV.c (.pv (.bool false)), [.cells [.mp 1], .map kv]) :=
  cc_path (x := xf49) rfl (bs 6 false)
    (c := rq [(6, (p.rev == 0) = false)]) (by kernel_rfl)
    (aq ⟨(beq_eq_false_iff_ne.mpr g1), trivial⟩)
theorem yl24z_1 (l : List Post) (o : SO) (s : Nat) (kv : List (PV × PV)) (e : Int) :
    lv (cv (ev X E0) xf17_l0) (rl [6, 0, 11, 0, 0]) 3 (St.mk (tmOf 33 [(6, AV.c (vi e)), (7, AV.c (.pv (.sl SO.nil 0 []))), (19, AV.c (.pv (.sl SO.nil 0 []))), (20, AV.c (vi 0)), (21, AV.c (vi 0))]) [.cells [.pv (.sl o s (List.map Post.pv l))], .map kv, .cells [.mp 1]]) = some (XExit.exit 0, St.mk (tmOf 33 [(6, AV.c (vi e)), (7, AV.c (.pv (.sl SO.nil 0 [])))]) [.cells [.pv (.sl o s (List.map Post.pv l))], .map kv, .cells [.mp 1]]) :=
  lv_exit [.br false]
    (c := [false = false]) (by kernel_rfl)
    ⟨rfl, trivial⟩
theorem yf24n_1 (l : List Post) (o : SO) (s : Nat) (kv : List (PV × PV)) (e : Int) (h60 : cc (ev X E0) 40 [AV.sl o s (List.map Post.pv l)] [] = some (AV.c (.mp 0), [.map kv])) (h : cc (ev X E0) 48 [AV.agg [.pv (.sl o s (List.map Post.pv l))], AV.c (.fn 49 [0])] [.cells [.mp 1], .map kv] = some (AV.tup [AV.c (.pv (.sl SO.nil 0 [])), AV.i e], [.cells [.mp 1], .map kv])) :
    cc (ev X E0) 17 [AV.agg [.pv (.sl o s (List.map Post.pv l))]] [] = some (AV.tup [AV.c (.pv (.sl SO.nil 0 [])), AV.c (vi e)], []) :=
  cc_path (x := xf17) rfl [.call (AV.c (.mp 0)) [.map kv], .call (AV.tup [AV.c (.pv (.sl SO.nil 0 [])), AV.c (vi e)]) [.cells [.mp 1], .map kv], .loop (XExit.exit 0) (St.mk (tmOf 33 [(6, AV.c (vi e)), (7, AV.c (.pv (.sl SO.nil 0 [])))]) [.cells [.pv (.sl o s (List.map Post.pv l))], .map kv, .cells [.mp 1]])]
    (c := rq [ty h60, ty h, (1, lv (cv (ev X E0) xf17_l0) (rl [6, 0, 11, 0, 0]) 3 (St.mk (tmOf 33 [(6, AV.c (vi e)), (7, AV.c (.pv (.sl SO.nil 0 []))), (19, AV.c (.pv (.sl SO.nil 0 []))), (20, AV.c (vi 0)), (21, AV.c (vi 0))]) [.cells [.pv (.sl o s (List.map Post.pv l))], .map kv, .cells [.mp 1]]) = some (XExit.exit 0, St.mk (tmOf 33 [(6, AV.c (vi e)), (7, AV.c (.pv (.sl SO.nil 0 [])))]) [.cells [.pv (.sl o s (List.map Post.pv l))], .map kv, .cells [.mp 1]]))]) (by kernel_rfl)
    (aq ⟨h60, h, (yl24z_1 _ _ _ _ _), trivial⟩)
theorem ys71 (l : List Post) (p : Post) : cc (ev X E0) 49 [Post.av p, AV.c (.ptr 0 0)] [Box.cells [CV.mp 1], Box.map (kvs (keysOf l))] = some (.b (stands l p), [Box.cells [CV.mp 1], Box.map (kvs (keysOf l))]) := by
  have hg := get_kvs p.id (keysOf l)
  unfold stands
  by_cases c : p.rev = 0
  · rw [beq_iff_eq.2 c, Bool.true_and]
    by_cases c2 : (l.any fun q => q.rev == p.id) = true
    · rw [if_pos ((mem_keys l).2 c2)] at hg
      rw [c2]; exact yf71_2 p _ true c hg
    · rw [if_neg (fun h => c2 ((mem_keys l).1 h))] at hg
      rw [Bool.not_eq_true] at c2
      rw [c2]; exact yf71_1 p _ c hg
  · rw [beq_eq_false_iff_ne.2 c, Bool.false_and]; exact yf71_3 p _ c
theorem ys24 {l : List Post} {o : SO} {s : Nat} (hs : szOk 7 (CV.pv (PV.sl o s (List.map Post.pv l))) = true) (ho : o = .nil → l = []) (hl : l.length ≤ 1000) (hN : ∀ p ∈ l, Nice p) (hr : rightB l = true) (hn : ∀ p ∈ l, stands l p = false) :
    cs (ev X E0) 17 [Bk o s l] = some (.tup [.c (CV.pv (PV.sl SO.nil 0 [])), .i 0]) := by
  have h60 := s60 (l := l) hs (by omega)
  have h := s64m hs ho (kv := kvs (keysOf l)) (w := stands l) (fun p => ys71 l p) hl hN
  have he : pickR l (stands l) = [] := by
    unfold pickR
    rw [if_pos hr, List.filter_eq_nil_iff]
    intro p hp
    rw [hn p hp]; decide
  have e2 : pickE l = 0 := by unfold pickE; rw [if_pos hr]
  rw [he, e2] at h
  exact cs_of (yf24n_1 l o s _ _ h60 h)
theorem yg11_1 (l q : List Post) (o : SO) (s : Nat) (p : Post) (h : cs (ev X E0) 14 [Bk o s l, Post.av (Post.mk (IntKind.wrap .i64 ((↑(List.length (List.map Post.pv l)) : Int) + 1)) p.known p.value p.so p.legs p.rev p.kind p.memo)] = some (AV.tup [AV.agg [.pv (.sl SO.shut 7 (List.map Post.pv q))], AV.i 0])) :
    cc (ev X E0) 11 [AV.agg [.pv (.sl o s (List.map Post.pv l))], AV.agg (Post.cs p)] [] = some (AV.tup [AV.agg [.pv (.sl SO.shut 7 (List.map Post.pv q))], AV.c (.pv (.bool true))], []) :=
  cc_path (x := xf11) rfl [.shut (AV.tup [AV.agg [.pv (.sl SO.shut 7 (List.map Post.pv q))], AV.c (vi 0)]), .br false]
    (c := rq [ty h, (1, false = false)]) (by kernel_rfl)
    (aq ⟨h, rfl, trivial⟩)
end Go.Sx.Tryd
