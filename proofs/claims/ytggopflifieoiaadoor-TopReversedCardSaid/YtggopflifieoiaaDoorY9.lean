/- What an account comes to, as known on a day. -/
import Derived.Test.YtggopflifieoiaaDoorY8
namespace Go.Sx.Tryd
open Go Go.Sx
def absI (n : Int) : Int := if n < 0 then -n else n
theorem ys95 {n g : Int} (hn : -1000000000000000 ≤ n ∧ n ≤ 1000000000000000) (hg : 0 ≤ g ∧ g ≤ 900000000000000000) : cc (ev X E0) 95 [AV.c (.ptr 0 0), AV.i n] [Box.cells [CV.pv (.int .i64 g)]] = some (.b false, [Box.cells [CV.pv (.int .i64 (g + absI n))]]) := by
  have w1 : IntKind.wrap .i64 (0 - n) = 0 - n := wi64 (by omega) (by omega)
  have w2 : IntKind.wrap .i64 (1000000000000000000 - g) = 1000000000000000000 - g := wi64 (by omega) (by omega)
  unfold absI
  by_cases c : n < 0
  · have := yg95_3 n g c (by rw [w1]; omega) (by rw [w1, w2]; omega)
    rw [w1, wi64 (by omega) (by omega)] at this
    rw [this, if_pos c, Int.zero_sub]
  · have := yg95_5 n g c (by rw [w2]; omega)
    rw [wi64 (by omega) (by omega)] at this
    rw [this, if_neg c]
theorem lt_lenL {l : List Leg} {i : Nat} (h : i < l.length) : (i : Int) < (((l.map Leg.pv).length : Nat) : Int) := by rw [List.length_map]; omega
def outL (out : List Lg) : CV := match out with
  | [] => nilC
  | x :: l => ownG (x :: l)
def legR (acc cur : Int) (p : Post) (r : List Leg) : List Lg := (r.filter (onW acc cur)).map fun x => ⟨p.known, p.value, x.minor⟩
theorem outL_snoc (out : List Lg) (x : Lg) : outL (out ++ [x]) = ownG (out ++ [x]) := by cases out <;> rfl
theorem ya45 {l : List Post} {p : Post} {acc cur i : Int} (hl : p.legs.length ≤ 100) (hm : ∀ x ∈ p.legs, -1000000000000000 ≤ x.minor ∧ x.minor ≤ 1000000000000000) : ∀ (r pre : List Leg) (out : List Lg) (g : Int), p.legs = pre ++ r → 0 ≤ g → g + greatL (legR acc cur p r) ≤ 900000000000000000 → out.length + r.length ≤ 100000 →
    lv (cv (ev X E0) xf45_l0) (rl [1, 0, 5, 0, 1, 2, 0, 0, 4, 0, 0]) 2 (YS45 l p (outL out) acc cur g i (pre.length : Nat)) = some (XExit.exit 2, YS45e l p (outL (out ++ legR acc cur p r)) acc cur (g + greatL (legR acc cur p r)) i)
  | [], pre, out, g, e, hg, hb, hn => by
    rw [List.append_nil] at e
    have hx : ¬ ((pre.length : Nat) : Int) < (↑(List.length (List.map Leg.pv p.legs)) : Int) := by rw [e, List.length_map]; omega
    simp only [legR, List.filter_nil, List.map_nil, List.append_nil, greatL, Int.add_zero]
    cases out with
    | nil => exact yl45nx_1 l p acc cur g i pre.length hx
    | cons z out => exact yl45ox_1 l p (z :: out) acc cur g i pre.length hx
  | y :: r, pre, out, g, e, hg, hb, hn => by
    have hlen : p.legs.length = pre.length + r.length + 1 := by rw [e]; simp; omega
    have hat : p.legs[pre.length]? = some y := by rw [e]; simp
    have hlt := lt_lenL (l := p.legs) (i := pre.length) (by omega)
    have hy := hm y (by rw [e]; simp)
    rw [List.length_cons] at hn
    have hw : IntKind.wrap .i64 ((pre.length : Int) + 1) = (pre.length : Int) + 1 := wi64 (by omega) (by omega)
    cases c : onW acc cur y with
    | true =>
      have e1 : legR acc cur p (y :: r) = ⟨p.known, p.value, y.minor⟩ :: legR acc cur p r := by
        simp only [legR]; rw [List.filter_cons_of_pos c, List.map_cons]
      rw [e1] at hb ⊢
      simp only [greatL] at hb ⊢
      have hnn := great_nonneg (legR acc cur p r)
      have ha : 0 ≤ absI y.minor := by unfold absI; split <;> omega
      have hb' : g + (absI y.minor + greatL (legR acc cur p r)) ≤ 900000000000000000 := hb
      have h95 := ys95 (n := y.minor) (g := g) hy ⟨hg, by omega⟩
      have ih := ya45 (l := l) (acc := acc) (cur := cur) (i := i) hl hm r (pre ++ [y]) (out ++ [⟨p.known, p.value, y.minor⟩]) (g + absI y.minor) (by rw [e]; simp) (by omega) (by omega) (by rw [List.length_append, List.length_singleton]; omega)
      rw [List.length_append, List.length_singleton, Int.natCast_add, Int.natCast_one, outL_snoc, List.append_assoc, List.singleton_append] at ih
      have hb2 : g + ((if y.minor < 0 then -y.minor else y.minor) + greatL (legR acc cur p r)) = g + absI y.minor + greatL (legR acc cur p r) := by unfold absI; omega
      rw [hb2, ← ih]
      simp only [onW, Bool.and_eq_true, beq_iff_eq] at c
      cases out with
      | nil =>
        have st := yl45n_3 l p acc cur g _ i pre.length y hat h95 hlt c.1 c.2 (by simp)
        rw [hw] at st
        exact st
      | cons z out =>
        have st := yl45o_3 l p (z :: out) acc cur g _ i pre.length y hat h95 hlt c.1 c.2 (by simp only [List.length_map, List.length_cons, List.length_nil] at hn ⊢; omega)
        rw [hw] at st
        refine st.trans ?_
        simp only [ownG, List.map_append]
        rfl
    | false =>
      have e1 : legR acc cur p (y :: r) = legR acc cur p r := by
        simp only [legR]; rw [List.filter_cons_of_neg (by rw [c]; decide)]
      rw [e1] at hb ⊢
      have hnn := great_nonneg (legR acc cur p r)
      have h95 := ys95 (n := y.minor) (g := g) hy ⟨hg, by omega⟩
      have ih := ya45 (l := l) (acc := acc) (cur := cur) (i := i) hl hm r (pre ++ [y]) out g (by rw [e]; simp) hg hb (by omega)
      rw [List.length_append, List.length_singleton, Int.natCast_add, Int.natCast_one] at ih
      rw [← ih]
      by_cases c1 : y.acc = acc
      · have c2 : ¬ y.cur = cur := fun c2 => by simp [onW, c1, c2] at c
        cases out with
        | nil =>
          have st := yl45n_2 l p acc cur g _ i pre.length y hat h95 hlt c1 c2
          rw [hw] at st; exact st
        | cons z out =>
          have st := yl45o_2 l p (z :: out) acc cur g _ i pre.length y hat h95 hlt c1 c2
          rw [hw] at st; exact st
      · cases out with
        | nil =>
          have st := yl45n_1 l p acc cur g _ i pre.length y hat h95 hlt c1
          rw [hw] at st; exact st
        | cons z out =>
          have st := yl45o_1 l p (z :: out) acc cur g _ i pre.length y hat h95 hlt c1
          rw [hw] at st; exact st
def Sm (p : Post) : Prop := p.legs.length ≤ 100 ∧ ∀ x ∈ p.legs, -1000000000000000 ≤ x.minor ∧ x.minor ≤ 1000000000000000
theorem legR_len (acc cur : Int) (p : Post) (r : List Leg) : (legR acc cur p r).length ≤ r.length := by
  unfold legR; rw [List.length_map]; exact List.length_filter_le _ _
theorem ya451 {l : List Post} {acc cur : Int} (hl : l.length ≤ 500) (hm : ∀ p ∈ l, Sm p) : ∀ (r pre : List Post) (out : List Lg) (g : Int), l = pre ++ r → 0 ≤ g → g + greatL (legsOf acc cur r) ≤ 900000000000000000 → out.length ≤ 100 * pre.length →
    lv (cv (ev X E0) xf45_l1) (rl [1, 0, 5, 0, 4, 0, 0]) 1 (YS45o l (outL out) acc cur g (pre.length : Nat)) = some (XExit.exit 0, St.mk (tmOf 56 [(8, AV.c (outL (out ++ legsOf acc cur r)))]) [Box.cells [CV.pv (.int .i64 (g + greatL (legsOf acc cur r)))]])
  | [], pre, out, g, e, hg, hb, hn => by
    rw [List.append_nil] at e
    have hx : ¬ ((pre.length : Nat) : Int) < (↑(List.length (List.map Post.pv l)) : Int) := by rw [e, List.length_map]; omega
    simp only [legsOf, List.flatMap_nil, List.append_nil, greatL, Int.add_zero]
    cases out with
    | nil => exact yl451nx_1 l acc cur g pre.length hx
    | cons z out => exact yl451ox_1 l (z :: out) acc cur g pre.length hx
  | y :: r, pre, out, g, e, hg, hb, hn => by
    have hlen : l.length = pre.length + r.length + 1 := by rw [e]; simp; omega
    have hat : l[pre.length]? = some y := by rw [e]; simp
    have hlt := lt_lenP (l := l) (i := pre.length) (by omega)
    have hy := hm y (by rw [e]; simp)
    have hw : IntKind.wrap .i64 ((pre.length : Int) + 1) = (pre.length : Int) + 1 := wi64 (by omega) (by omega)
    have e1 : legsOf acc cur (y :: r) = legR acc cur y y.legs ++ legsOf acc cur r := rfl
    rw [e1] at hb ⊢
    rw [great_append] at hb ⊢
    have n1 := great_nonneg (legR acc cur y y.legs)
    have n2 := great_nonneg (legsOf acc cur r)
    have hi := ya45 (l := l) (p := y) (acc := acc) (cur := cur) (i := (pre.length : Nat)) hy.1 hy.2 y.legs [] out g rfl hg (by omega) (by have := hy.1; omega)
    have hr := legR_len acc cur y y.legs
    have hrl : out.length + (legR acc cur y y.legs).length ≤ 100 * (pre.length + 1) := by have := hy.1; omega
    have ih := ya451 (acc := acc) (cur := cur) hl hm r (pre ++ [y]) (out ++ legR acc cur y y.legs) (g + greatL (legR acc cur y y.legs)) (by rw [e]; simp) (by omega) (by omega) (by rw [List.length_append, List.length_append, List.length_singleton]; exact hrl)
    rw [List.length_append, List.length_singleton, Int.natCast_add, Int.natCast_one, List.append_assoc] at ih
    rw [← Int.add_assoc, ← ih]
    cases ho : out ++ legR acc cur y y.legs with
    | nil =>
      have h0 : out = [] := (List.append_eq_nil_iff.1 ho).1
      rw [ho] at hi
      subst h0
      have st := yl451nn_1 l y acc cur g _ pre.length hat hlt hi
      rw [hw] at st; exact st
    | cons z out' =>
      rw [ho] at hi
      cases out with
      | nil =>
        have st := yl451no_1 l y (z :: out') acc cur g _ pre.length hat hlt hi
        rw [hw] at st; exact st
      | cons z' out =>
        have st := yl451oo_1 l y (z' :: out) (z :: out') acc cur g _ pre.length hat hlt hi
        rw [hw] at st; exact st
theorem ys47 (k v : Int) (x : Lg) : cc (ev X E0) 47 [Lg.av x, AV.c (.ptr 0 0), AV.c (.ptr 1 0)] [Box.cells [CV.pv (.int .i32 v)], Box.cells [CV.pv (.int .i32 k)]] = some (.b (upto k v x), [Box.cells [CV.pv (.int .i32 v)], Box.cells [CV.pv (.int .i32 k)]]) := by
  unfold upto
  by_cases c : x.value ≤ v
  · rw [yg47_1 x k v c]; congr 5; rw [Bool.eq_iff_iff]; simp [c]
  · rw [yg47_2 x k v c, decide_eq_false (by omega)]
theorem sumW_le (w : Lg → Bool) : ∀ l : List Lg, -greatL l ≤ sumW w l ∧ sumW w l ≤ greatL l
  | [] => by simp [sumW, greatL]
  | x :: l => by
    have := sumW_le w l
    simp only [sumW, greatL]
    split <;> split <;> omega
theorem ya46 {l : List Lg} {k v : Int} (hl : l.length ≤ 100000) (hg : greatL l ≤ 900000000000000000) : ∀ (r pre : List Lg), l = pre ++ r →
    lv (cv (ev X E0) xf46_l0) (rl [1, 3, 2, 0, 0]) 2 (YS46 l .shut 3 k v (sumW (upto k v) pre) (pre.length : Nat)) = some (XExit.exit 0, St.mk (tmOf 23 [(5, AV.c (CV.pv (PV.int .i64 (sumW (upto k v) l))))]) [Box.cells [CV.pv (.int .i32 v)], Box.cells [CV.pv (.int .i32 k)]])
  | [], pre, e => by
    rw [List.append_nil] at e
    subst e
    exact yl46_3 l k v _ l.length _ (ys47 k v) (by simp)
  | y :: r, pre, e => by
    have hlen : l.length = pre.length + r.length + 1 := by rw [e]; simp; omega
    have hat : l[pre.length]? = some y := by rw [e]; simp
    have hlt : (pre.length : Int) < (((l.map Lg.pv).length : Nat) : Int) := by rw [List.length_map]; omega
    have ih := ya46 (k := k) (v := v) hl hg r (pre ++ [y]) (by rw [e]; simp)
    rw [List.length_append, List.length_singleton, Int.natCast_add, Int.natCast_one, sumW_append] at ih
    have b1 := sumW_le (upto k v) (pre ++ [y])
    rw [e] at hg
    rw [show pre ++ y :: r = (pre ++ [y]) ++ r by simp, great_append] at hg
    have b2 := great_nonneg r
    rw [sumW_append] at b1
    simp only [sumW] at ih b1
    cases c : upto k v y with
    | true =>
      have st := yl46_1 l k v (sumW (upto k v) pre) pre.length _ (ys47 k v) y hlt hat c
      rw [c, if_pos rfl] at ih b1
      rw [Int.add_zero] at ih b1
      rw [wi64 (n := (pre.length : Int) + 1) (by omega) (by omega), wi64 (by omega) (by omega)] at st
      exact st.trans ih
    | false =>
      have st := yl46_2 l k v (sumW (upto k v) pre) pre.length _ (ys47 k v) y hlt hat c
      rw [c] at ih
      simp only [Bool.false_eq_true, if_false, Int.add_zero] at ih
      rw [wi64 (by omega) (by omega)] at st
      exact st.trans ih
theorem ys16 {l : List Post} (hl : l.length ≤ 500) (hm : ∀ p ∈ l, Sm p) {acc cur k v : Int} (hg : greatL (legsOf acc cur l) ≤ 900000000000000000) (hk : datOk k = true) (hv : datOk v = true) :
    cc (ev X E0) 16 [AV.sl .shut 7 (l.map Post.pv), AV.i acc, AV.i cur, AV.int .i32 k, AV.int .i32 v] [] = some (.tup [.i (balS acc cur k v l), .i 0], []) := by
  have d1 : cc (ev X E0) 93 [AV.int .i32 v] [] = some (.b false, []) := by rw [yg93_1 v, hv]; rfl
  have d2 : cc (ev X E0) 93 [AV.int .i32 k] [] = some (.b false, []) := by rw [yg93_1 k, hk]; rfl
  have h44 := yg44_1 l .shut 7 k v (by rw [List.length_map]; omega) d1 (yg94_1 k (yg125_1 k ((yl125a_1 k d2).trans (yl125b_1 k)))) (by omega)
  have h := ya451 (acc := acc) (cur := cur) hl hm l [] [] 0 rfl (by omega) (by omega) (by simp)
  rw [List.nil_append] at h
  have hlen : (legsOf acc cur l).length ≤ 100000 := by
    have key : ∀ r : List Post, (∀ p ∈ r, Sm p) → (legsOf acc cur r).length ≤ 100 * r.length := by
      intro r
      induction r with
      | nil => intro _; simp [legsOf]
      | cons p r ih =>
        intro h
        have := ih fun q hq => h q (by simp [hq])
        have h2 := legR_len acc cur p p.legs
        have h3 := (h p (by simp)).1
        rw [show legsOf acc cur (p :: r) = legR acc cur p p.legs ++ legsOf acc cur r from rfl, List.length_append, List.length_cons]
        omega
    have := key l hm
    omega
  rw [← sum_legs]
  cases hx : legsOf acc cur l with
  | nil =>
    rw [hx] at h
    exact yg16z_1 l acc cur k v h44 (yg45n_1 l acc cur _ h) (yg46z_1 k v (yl46z_1 k v))
  | cons z out =>
    rw [hx] at h hg hlen
    have a := ya46 (k := k) (v := v) hlen hg (z :: out) [] rfl
    exact yg16_1 l (z :: out) acc cur k v _ h44 (yg45o_1 l (z :: out) acc cur _ h) (yg46_1 (z :: out) k v _ a)
end Go.Sx.Tryd
