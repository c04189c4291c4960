/- Books that are built up. -/
import Derived.Test.YtdhefhnlagnkdaaDoorP1
import Derived.Test.YtdhefhnlagnkdaaDoorN5
namespace Go.Sx.Tryd
open Go Go.Sx
abbrev numA (n : Int) (y : Post) : AV := AV.agg [CV.pv (PV.int .i64 n), CV.pv (PV.int .i32 y.known), CV.pv (PV.int .i32 y.value), CV.pv (PV.sl y.so 3 (List.map Leg.pv y.legs)), CV.pv (PV.int .i64 y.rev), CV.pv (PV.int .i64 y.kind), CV.pv (PV.str y.memo)]
abbrev nxt (b : List Post) : Int := IntKind.wrap .i64 ((↑(List.length (List.map Post.pv b)) : Int) + 1)
abbrev S36 (l : List Post) (o : SO) (x : CV) (i : Int) : St := St.mk (tmOf 31 [(2, AV.c (CV.ptr 0 0)), (3, AV.c (CV.ptr 1 0)), (9, AV.c (CV.pv (PV.sl o 7 (List.map Post.pv l)))), (10, AV.c (CV.pv (PV.int .i64 (↑(List.length (List.map Post.pv l)) : Int)))), (11, AV.c (CV.pv (PV.int .i64 i)))]) [Box.cells [CV.pv (PV.sl SO.nil 0 [])], Box.cells [x]]
theorem l36_1 (l : List Post) (o : SO) (o2 : SO) (o3 : SO) (s2 : Nat) (s3 : Nat) (b : List Post) (c : List Post) (e : Int) (i : Nat) (y : Post) (hy : l[i]? = some y) (h : cs (ev X E0) 19 [Bk o2 s2 b, numA (nxt b) y] = some (AV.tup [Bk o3 s3 c, AV.i e])) (g1 : (↑i : Int) < (↑(List.length (List.map Post.pv l)) : Int)) (g2 : e = 0) :
    lv (cv (ev X E0) xf36_l0) (rl [2, 0, 5, 0, 0]) 2 (S36 l o (.pv (.sl o2 s2 (List.map Post.pv b))) (↑i : Int)) = lv (cv (ev X E0) xf36_l0) (rl [2, 0, 5, 0, 0]) 2 (St.mk (tmOf 31 [(2, AV.c (.ptr 0 0)), (3, AV.c (.ptr 1 0)), (9, AV.c (.pv (.sl o 7 (List.map Post.pv l)))), (10, AV.c (vi (↑(List.length (List.map Post.pv l)) : Int))), (11, AV.c (vi (IntKind.wrap .i64 ((↑i : Int) + 1))))]) [.cells [.pv (.sl SO.nil 0 [])], .cells [.pv (.sl o3 s3 (List.map Post.pv c))]]) :=
  lv_next [.br true, .el (Post.pv y), .shut (AV.tup [AV.agg [.pv (.sl o3 s3 (List.map Post.pv c))], AV.c (vi e)]), .br true]
    (c := [decide ((↑i : Int) < (↑(List.length (List.map Post.pv l)) : Int)) = true, 0 ≤ (↑i : Int), (List.map Post.pv l)[i]? = some (Post.pv y), cs (ev X E0) 19 [AV.agg [.pv (.sl o2 s2 (List.map Post.pv b))], AV.agg [vi (IntKind.wrap .i64 ((↑(List.length (List.map Post.pv b)) : Int) + 1)), vw y.known, vw y.value, .pv (.sl y.so 3 (List.map Leg.pv y.legs)), vi y.rev, vi y.kind, .pv (.str y.memo)]] = some (AV.tup [AV.agg [.pv (.sl o3 s3 (List.map Post.pv c))], AV.c (vi e)]), (e == 0) = true]) (by kernel_rfl)
    ⟨(decide_eq_true g1), (Int.natCast_nonneg _), (map_at hy), (h), (beq_iff_eq.mpr g2), trivial⟩
theorem l36_2 (l : List Post) (o : SO) (o2 : SO) (o3 : SO) (s2 : Nat) (s3 : Nat) (b : List Post) (c : List Post) (e : Int) (i : Nat) (y : Post) (hy : l[i]? = some y) (h : cs (ev X E0) 19 [Bk o2 s2 b, numA (nxt b) y] = some (AV.tup [Bk o3 s3 c, AV.i e])) (g1 : (↑i : Int) < (↑(List.length (List.map Post.pv l)) : Int)) (g2 : ¬e = 0) :
    lv (cv (ev X E0) xf36_l0) (rl [2, 0, 5, 0, 0]) 2 (S36 l o (.pv (.sl o2 s2 (List.map Post.pv b))) (↑i : Int)) = lv (cv (ev X E0) xf36_l0) (rl [2, 0, 5, 0, 0]) 2 (St.mk (tmOf 31 [(2, AV.c (.ptr 0 0)), (3, AV.c (.ptr 1 0)), (9, AV.c (.pv (.sl o 7 (List.map Post.pv l)))), (10, AV.c (vi (↑(List.length (List.map Post.pv l)) : Int))), (11, AV.c (vi (IntKind.wrap .i64 ((↑i : Int) + 1))))]) [.cells [.pv (.sl SO.nil 0 [])], .cells [.pv (.sl o2 s2 (List.map Post.pv b))]]) :=
  lv_next [.br true, .el (Post.pv y), .shut (AV.tup [AV.agg [.pv (.sl o3 s3 (List.map Post.pv c))], AV.c (vi e)]), .br false]
    (c := [decide ((↑i : Int) < (↑(List.length (List.map Post.pv l)) : Int)) = true, 0 ≤ (↑i : Int), (List.map Post.pv l)[i]? = some (Post.pv y), cs (ev X E0) 19 [AV.agg [.pv (.sl o2 s2 (List.map Post.pv b))], AV.agg [vi (IntKind.wrap .i64 ((↑(List.length (List.map Post.pv b)) : Int) + 1)), vw y.known, vw y.value, .pv (.sl y.so 3 (List.map Leg.pv y.legs)), vi y.rev, vi y.kind, .pv (.str y.memo)]] = some (AV.tup [AV.agg [.pv (.sl o3 s3 (List.map Post.pv c))], AV.c (vi e)]), (e == 0) = false]) (by kernel_rfl)
    ⟨(decide_eq_true g1), (Int.natCast_nonneg _), (map_at hy), (h), (beq_eq_false_iff_ne.mpr g2), trivial⟩
theorem l36x_1 (l : List Post) (o : SO) (o2 : SO) (s2 : Nat) (b : List Post) (i : Nat) (hi : ¬(↑i : Int) < (↑(List.length (List.map Post.pv l)) : Int)) :
    lv (cv (ev X E0) xf36_l0) (rl [2, 0, 5, 0, 0]) 2 (S36 l o (.pv (.sl o2 s2 (List.map Post.pv b))) (↑i : Int)) = some (XExit.exit 0, St.mk (tmOf 31 [(2, AV.c (.ptr 0 0)), (3, AV.c (.ptr 1 0))]) [.cells [.pv (.sl SO.nil 0 [])], .cells [.pv (.sl o2 s2 (List.map Post.pv b))]]) :=
  lv_exit [.br false]
    (c := [decide ((↑i : Int) < (↑(List.length (List.map Post.pv l)) : Int)) = false]) (by kernel_rfl)
    ⟨(decide_eq_false hi), trivial⟩
theorem f36_1 (l : List Post) (o : SO) (o2 : SO) (s2 : Nat) (b : List Post) (h : lv (cv (ev X E0) xf36_l0) (rl [2, 0, 5, 0, 0]) 2 (S36 l o (.pv (.sl SO.nil 0 [])) 0) = some (XExit.exit 0, St.mk (tmOf 31 [(2, AV.c (.ptr 0 0)), (3, AV.c (.ptr 1 0))]) [.cells [.pv (.sl SO.nil 0 [])], .cells [.pv (.sl o2 s2 (List.map Post.pv b))]])) :
    cc (ev X E0) 36 [AV.c (.pv (.sl o 7 (List.map Post.pv l)))] [] = some (AV.agg [.pv (.sl o2 s2 (List.map Post.pv b))], []) :=
  cc_path (x := xf36) rfl [.loop (XExit.exit 0) (St.mk (tmOf 31 [(2, AV.c (.ptr 0 0)), (3, AV.c (.ptr 1 0))]) [.cells [.pv (.sl SO.nil 0 [])], .cells [.pv (.sl o2 s2 (List.map Post.pv b))]])]
    (c := [lv (cv (ev X E0) xf36_l0) (rl [2, 0, 5, 0, 0]) 2 (St.mk (tmOf 31 [(2, AV.c (.ptr 0 0)), (3, AV.c (.ptr 1 0)), (9, AV.c (.pv (.sl o 7 (List.map Post.pv l)))), (10, AV.c (vi (↑(List.length (List.map Post.pv l)) : Int))), (11, AV.c (vi 0))]) [.cells [.pv (.sl SO.nil 0 [])], .cells [.pv (.sl SO.nil 0 [])]]) = some (XExit.exit 0, St.mk (tmOf 31 [(2, AV.c (.ptr 0 0)), (3, AV.c (.ptr 1 0))]) [.cells [.pv (.sl SO.nil 0 [])], .cells [.pv (.sl o2 s2 (List.map Post.pv b))]])]) (by kernel_rfl)
    ⟨(h), trivial⟩
def bo (b : List Post) : SO := if b.isEmpty then .nil else .shut
def bz (b : List Post) : Nat := if b.isEmpty then 0 else 7
theorem b_sz (b : List Post) : szOk 7 (CV.pv (PV.sl (bo b) (bz b) (List.map Post.pv b))) = true := by cases b <;> rfl
theorem b_nil {b : List Post} (h : bo b = .nil) : b = [] := by
  cases b with
  | nil => rfl
  | cons p r => cases h
theorem outP_shut {b : List Post} (h : Shut b) : outP b = PV.sl (bo b) (bz b) (List.map Post.pv b) := by
  cases b with
  | nil => rfl
  | cons p r =>
    unfold outP
    rw [if_neg (by simp), shut_sh h]
    rfl
theorem put_right {b : List Post} {n : Nat} (hb : Built b n) (p : Post) : addE b (numbered b p) = fullE b (numbered b p) := by unfold addE; rw [hb.right]; rfl
theorem num_av {b : List Post} (hl : b.length ≤ 1000000) (y : Post) : numA (nxt b) y = Post.av (numbered b y) := by
  have : nxt b = (b.length : Int) + 1 := by unfold nxt; rw [List.length_map, wi64 (by omega) (by omega)]
  rw [this]; rfl
theorem add_put {b : List Post} {n : Nat} (hb : Built b n) (hn : n ≤ 1000) {p : Post} (hp : Nice p) :
    (fullE b (numbered b p) = 0 → cs (ev X E0) 19 [Bk (bo b) (bz b) b, numA (nxt b) p] = some (.tup [Bk (bo (put b p)) (bz (put b p)) (put b p), .i 0])) ∧
    (fullE b (numbered b p) ≠ 0 → cs (ev X E0) 19 [Bk (bo b) (bz b) b, numA (nxt b) p] = some (.tup [Bk .nil 0 [], .i (fullE b (numbered b p))])) := by
  have hl := hb.len
  have h := s19 (b_sz b) b_nil (by omega) hb.nice (num_nice (b := b) hp)
  rw [← num_av (by omega), put_right hb] at h
  constructor
  · intro c
    have hp2 := put_built hb hp
    have e : addR b (numbered b p) = b ++ [numbered b p] := by unfold addR; rw [put_right hb, if_pos c]
    have e2 : (b ++ [numbered b p]).map sh = put b p := by unfold put; rw [if_pos c, List.map_append, shut_sh hb.shut]; rfl
    have e3 : outP (b ++ [numbered b p]) = outP (put b p) := by
      rw [← e2]
      unfold outP
      rw [if_neg (by simp), if_neg (by simp), shut_sh (sh_shut _)]
    rw [e, e3, outP_shut hp2.shut, c] at h
    exact h
  · intro c
    have e : addR b (numbered b p) = [] := by unfold addR; rw [put_right hb, if_neg c]
    rw [e] at h
    exact h
theorem put_same {b : List Post} {p : Post} (h : fullE b (numbered b p) ≠ 0) : put b p = b := by unfold put; rw [if_neg h]
theorem a36 {l : List Post} {o : SO} (hl : l.length ≤ 300) (hN : ∀ p ∈ l, Nice p) : ∀ (r pre : List Post), l = pre ++ r →
    lv (cv (ev X E0) xf36_l0) (rl [2, 0, 5, 0, 0]) 2 (S36 l o (CV.pv (PV.sl (bo (made pre)) (bz (made pre)) (List.map Post.pv (made pre)))) (pre.length : Nat)) = some (XExit.exit 0, St.mk (tmOf 31 [(2, AV.c (CV.ptr 0 0)), (3, AV.c (CV.ptr 1 0))]) [Box.cells [CV.pv (PV.sl SO.nil 0 [])], Box.cells [CV.pv (PV.sl (bo (made l)) (bz (made l)) (List.map Post.pv (made l)))]])
  | [], pre, e => by
    rw [List.append_nil] at e
    subst e
    exact l36x_1 l o _ _ _ l.length (by simp)
  | y :: r, pre, e => by
    have hlen : l.length = pre.length + r.length + 1 := by rw [e]; simp; omega
    have hat : l[pre.length]? = some y := by rw [e]; simp
    have hlt := ltP (l := l) (i := pre.length) (by omega)
    have hb := made_built (l := pre) fun p hp => hN p (by rw [e]; simp [hp])
    have hy := hN y (by rw [e]; simp)
    have hadd := add_put hb (by omega) hy
    have ih := a36 (o := o) hl hN r (pre ++ [y]) (by rw [e]; simp)
    rw [List.length_append, List.length_singleton, Int.natCast_add, Int.natCast_one, show made (pre ++ [y]) = put (made pre) y by simp [made]] at ih
    by_cases c : fullE (made pre) (numbered (made pre) y) = 0
    · have st := l36_1 l o _ _ _ _ _ _ _ pre.length y hat (hadd.1 c) hlt rfl
      rw [wi64 (by omega) (by omega)] at st
      exact st.trans ih
    · have st := l36_2 l o _ _ _ _ _ _ _ pre.length y hat (hadd.2 c) hlt c
      rw [wi64 (by omega) (by omega)] at st
      rw [put_same c] at ih
      exact st.trans ih
theorem s36 {l : List Post} {o : SO} (hl : l.length ≤ 300) (hN : ∀ p ∈ l, Nice p) : cs (ev X E0) 36 [AV.sl o 7 (l.map Post.pv)] = some (Bk (bo (made l)) (bz (made l)) (made l)) :=
  cs_of (f36_1 l o _ _ _ (a36 hl hN l [] rfl))
end Go.Sx.Tryd
