/- Days of turns, rolled. -/
import Derived.Test.YtggopflifieoiaaDoorU4
import Derived.Test.YtggopflifieoiaaDoorO2
namespace Go.Sx.Tryd
open Go Go.Sx
theorem us22 (x n : Int) : ∃ r e, cc (ev X E0) 22 [AV.int .i32 x, AV.i n] [] = some (.tup [.int .i32 r, .i e], []) ∧ (e = 0 → datOk r = true) := by
  obtain ⟨y, m, d, e, h58⟩ := us58 x
  obtain ⟨l, h60⟩ := us60 (IntKind.wrap .i64 (Int.tdiv (IntKind.wrap .i64 (IntKind.wrap .i64 (IntKind.wrap .i64 (IntKind.wrap .i64 (12 * y) + m) - 1) + n)) 12)) (IntKind.wrap .i64 (Int.tmod (IntKind.wrap .i64 (IntKind.wrap .i64 (IntKind.wrap .i64 (IntKind.wrap .i64 (12 * y) + m) - 1) + n)) 12 + 1))
  obtain ⟨r, e2, h59, he⟩ := us59 (IntKind.wrap .i64 (Int.tdiv (IntKind.wrap .i64 (IntKind.wrap .i64 (IntKind.wrap .i64 (IntKind.wrap .i64 (12 * y) + m) - 1) + n)) 12)) (IntKind.wrap .i64 (Int.tmod (IntKind.wrap .i64 (IntKind.wrap .i64 (IntKind.wrap .i64 (IntKind.wrap .i64 (12 * y) + m) - 1) + n)) 12 + 1)) (if l < d then l else d)
  have ne : (11 : Int) ≠ 0 := by decide
  by_cases c1 : e = 0
  · by_cases c2 : n < -120000
    · exact ⟨_, _, ug22_2 x n y m d e l r e2 h58 h60 h59 c1 c2, fun h => absurd h ne⟩
    · by_cases c3 : n > 120000
      · exact ⟨_, _, ug22_3 x n y m d e l r e2 h58 h60 h59 c1 c2 c3, fun h => absurd h ne⟩
      · by_cases c4 : IntKind.wrap .i64 (IntKind.wrap .i64 (IntKind.wrap .i64 (IntKind.wrap .i64 (12 * y) + m) - 1) + n) < 12
        · exact ⟨_, _, ug22_4 x n y m d e l r e2 h58 h60 h59 c1 c2 c3 c4, fun h => absurd h ne⟩
        · exact ⟨_, _, ug22_5 x n y m d e l r e2 h58 h60 h59 c1 c2 c3 c4, he⟩
  · exact ⟨_, _, ug22_1 x n y m d e l r e2 h58 h60 h59 c1, fun h => absurd h ne⟩
theorem lt_len32 {l : List Int} {i : Nat} (h : i < l.length) : (i : Int) < (((l.map i32P).length : Nat) : Int) := by rw [List.length_map]; omega
theorem ua125 {l : List Int} (hl : l.length ≤ 100) : ∀ (r pre : List Int), l = pre ++ r →
    (lv (cv (ev X E0) xf125_l0) (rl [0, 0, 5, 0]) 0 (US125 .full l (pre.length : Nat)) = some (XExit.exit 0, St.mk (tmOf 19 []) []) ∧ ∀ d ∈ r, datOk d = true) ∨
    (∃ j : Nat, lv (cv (ev X E0) xf125_l0) (rl [0, 0, 5, 0]) 0 (US125 .full l (pre.length : Nat)) = some (XExit.ret, St.mk (tmOf 19 [(4, AV.c (CV.pv (PV.int .i64 (j : Int))))]) []) ∧ ¬ ∀ d ∈ r, datOk d = true)
  | [], pre, e => by
    rw [List.append_nil] at e
    subst e
    exact .inl ⟨ul125_3 l l.length _ ug105_1 (by simp), by simp⟩
  | y :: r, pre, e => by
    have hlen : l.length = pre.length + r.length + 1 := by rw [e]; simp; omega
    have hat : l[pre.length]? = some y := by rw [e]; simp
    have hlt := lt_len32 (l := l) (i := pre.length) (by omega)
    cases d : datOk y with
    | false =>
      refine .inr ⟨pre.length, ul125_1 l pre.length _ ug105_1 y hlt hat (by rw [d]; rfl), fun h => ?_⟩
      have := h y (by simp)
      rw [d] at this; cases this
    | true =>
      have st := ul125_2 l pre.length _ ug105_1 y hlt hat (by rw [d]; rfl)
      rw [wi64 (by omega) (by omega)] at st
      have ih := ua125 hl r (pre ++ [y]) (by rw [e]; simp)
      rw [List.length_append, List.length_singleton, Int.natCast_add, Int.natCast_one] at ih
      rcases ih with ⟨h1, h2⟩ | ⟨j, h1, h2⟩
      · refine .inl ⟨st.trans h1, fun z hz => ?_⟩
        rcases List.mem_cons.1 hz with rfl | hz
        · exact d
        · exact h2 z hz
      · exact .inr ⟨j, st.trans h1, fun h => h2 fun z hz => h z (by simp [hz])⟩
theorem us61 (c : List Hol) (o : SO) (hc : c.length ≤ 1000) (l : List Int) (hl : l.length ≤ 100) {b : Bool} (h19 : cc (ev X E0) 19 [AV.sl o 3 (c.map Hol.pv)] [] = some (.b b, [])) :
    ∃ e, cc (ev X E0) 61 [AV.sl o 3 (c.map Hol.pv), AV.sl .full 1 (l.map i32P)] [] = some (.i e, []) ∧ (e = 0 ↔ b = true ∧ ∀ d ∈ l, datOk d = true) := by
  rcases ua125 hl l [] rfl with ⟨h, hd⟩ | ⟨j, h, hd⟩
  · have h94 := ug94_1 l _ (ug125_1 l h)
    cases b with
    | false => exact ⟨_, ug61_1 c o l _ _ h19 h94 rfl, by simp⟩
    | true => exact ⟨_, ug61_3 c o l _ _ h19 h94 rfl (by decide), by simpa using hd⟩
  · have h94 := ug94_1 l _ (ug125r_1 l j h)
    cases b with
    | false => exact ⟨_, ug61_1 c o l _ _ h19 h94 rfl, by simp⟩
    | true => exact ⟨_, ug61_2 c o l _ _ h19 h94 rfl (by simp), by simpa using hd⟩
noncomputable def splM (x : Int) : Int := (us58 x).choose_spec.choose
theorem spl_ok (x : Int) : ∃ y d e, cc (ev X E0) 58 [AV.int .i32 x] [] = some (.tup [.i y, .i (splM x), .i d, .i e], []) := by
  obtain ⟨d, e, h⟩ := (us58 x).choose_spec.choose_spec
  exact ⟨_, d, e, h⟩
theorem us102u {hol : List Int} {kv : List (PV × PV)} (h : KVok hol kv) {d : Int} (hd : datOk d = true) : ∃ x e, cc (ev X E0) 102 [AV.c (CV.mp 0), AV.int .i32 d, AV.int .i32 1] [Box.map kv] = some (.tup [.int .i32 x, .i e], [Box.map kv]) ∧ (e = 0 ∧ IsUp (opn kv) d x ∨ ¬ e = 0 ∧ NoUp (opn kv) d) ∧ e ≠ 1 := by
  have := dat_iff.1 hd
  rcases next_up h 200000 d (by omega) (by omega) (by omega) with ⟨x, hx, g⟩ | ⟨hx, g⟩
  · exact ⟨x, 0, qg102r_1 kv d 1 x g, .inl ⟨rfl, hx⟩, by decide⟩
  · exact ⟨0, 11, qg102_1 kv d 1 g, .inr ⟨by decide, hx⟩, by decide⟩
theorem us102d {hol : List Int} {kv : List (PV × PV)} (h : KVok hol kv) {d : Int} (hd : datOk d = true) : ∃ x e, cc (ev X E0) 102 [AV.c (CV.mp 0), AV.int .i32 d, AV.int .i32 (-1)] [Box.map kv] = some (.tup [.int .i32 x, .i e], [Box.map kv]) ∧ (e = 0 → IsDn (opn kv) d x) ∧ e ≠ 1 := by
  have := dat_iff.1 hd
  rcases next_dn h 200000 d (by omega) (by omega) (by omega) with ⟨x, hx, g⟩ | g
  · exact ⟨x, 0, qg102r_1 kv d (-1) x g, fun _ => hx, by decide⟩
  · exact ⟨0, 11, qg102_1 kv d (-1) g, fun h => absurd h (by decide), by decide⟩
theorem us57 (c : List Hol) (o : SO) (hc : c.length ≤ 1000) (k d how : Int) (h19 : cc (ev X E0) 19 [AV.sl o 3 (c.map Hol.pv)] [] = some (.b true, [])) (hk : datOk k = true) (hd : datOk d = true) (h0 : 0 ≤ how) (h2 : how ≤ 2) {kv : List (PV × PV)} (hkv : KVok (c.map Hol.day) kv) (h63 : cc (ev X E0) 63 [AV.sl o 3 (c.map Hol.pv), AV.int .i32 k] [] = some (AV.c (CV.mp 0), [Box.map kv])) :
    ∃ x e, cc (ev X E0) 57 [AV.sl o 3 (c.map Hol.pv), AV.int .i32 k, AV.int .i32 d, AV.i how] [] = some (.tup [.int .i32 x, .i e], []) ∧ (e = 0 → Rolled how splM (opn kv) d x) ∧ e ≠ 1 := by
  obtain ⟨e0, h61, he0⟩ := us61 c o hc [k, d] (by simp) h19
  have he : e0 = 0 := he0.2 ⟨rfl, by simp [hk, hd]⟩
  obtain ⟨x1, e1, hu, hu', n1⟩ := us102u hkv hd
  obtain ⟨x2, e2, hd2, hd2', n2⟩ := us102d hkv hd
  obtain ⟨ya, da, ea, ha⟩ := spl_ok d
  obtain ⟨yb, db, eb, hb⟩ := spl_ok x1
  by_cases c1 : how = 2
  · exact ⟨x2, e2, ug57_4 c o k d how e0 x1 e1 x2 e2 ya _ da ea yb _ db eb kv h61 (fun _ => h63) (fun _ => hu) (fun _ => hd2) ha hb (by omega) (by omega) he c1, fun h => .back c1 (hd2' h), n2⟩
  · by_cases c2 : how = 0
    · refine ⟨x1, e1, ug57_5 c o k d how e0 x1 e1 x2 e2 ya _ da ea yb _ db eb kv h61 (fun _ => h63) (fun _ => hu) (fun _ => hd2) ha hb (by omega) (by omega) he c1 c2, fun h => ?_, n1⟩
      rcases hu' with ⟨_, hx⟩ | ⟨hx, _⟩
      · exact .on c2 hx
      · exact absurd h hx
    · rcases hu' with ⟨hz, hx⟩ | ⟨hz, hx⟩
      · by_cases c3 : splM d = splM x1
        · exact ⟨x1, 0, ug57_8 c o k d how e0 x1 e1 x2 e2 ya _ da ea yb _ db eb kv h61 (fun _ => h63) (fun _ => hu) (fun _ => hd2) ha hb (by omega) (by omega) he c1 c2 hz c3, fun _ => .within (by omega) hx c3.symm, by decide⟩
        · exact ⟨x2, e2, ug57_7 c o k d how e0 x1 e1 x2 e2 ya _ da ea yb _ db eb kv h61 (fun _ => h63) (fun _ => hu) (fun _ => hd2) ha hb (by omega) (by omega) he c1 c2 hz c3, fun h => .other (by omega) x1 hx (fun m => c3 m.symm) (hd2' h), n2⟩
      · exact ⟨x2, e2, ug57_6 c o k d how e0 x1 e1 x2 e2 ya _ da ea yb _ db eb kv h61 (fun _ => h63) (fun _ => hu) (fun _ => hd2) ha hb (by omega) (by omega) he c1 c2 hz, fun h => .none (by omega) hx (hd2' h), n2⟩
end Go.Sx.Tryd
/- Orders: whether one may be, and the day of a turn. -/
namespace Go.Sx.Tryd
open Go Go.Sx
noncomputable def oR (x : Odr) : Bool := (os51 x).choose
theorem s51 (x : Odr) : cc (ev X E0) 51 [Odr.av x] [] = some (.b (oR x), []) := (os51 x).choose_spec.1
theorem oR_how {x : Odr} (h : oR x = true) : 0 ≤ x.how ∧ x.how ≤ 2 := by
  have := (os51 x).choose_spec.2 h
  simpa [wthn] using this
theorem os18 (x : Odr) : cc (ev X E0) 18 [AV.sl .full 10 [Odr.pv x]] [] = some (.i (if oR x then 0 else 1), []) := by
  have h50 := og50_1 x _ (s51 x)
  cases hr : oR x with
  | true =>
    rw [hr] at h50
    have hl := (ol97a_2 x false h50 rfl).trans (ol97b_1 x)
    exact og18_2 x false (og52_1 x _ (og97_1 x hl)) (ol18_1 x) rfl
  | false =>
    rw [hr] at h50
    have hl := ol97a_1 x true h50 rfl
    exact og18_1 x true (og52_1 x _ (og97r_1 x hl)) (ol18_1 x) rfl
abbrev og21_h22 (x : Odr) (n p pe : Int) : Prop := cc (ev X E0) 22 [AV.int IntKind.i32 (Odr.first x), AV.i (IntKind.wrap .i64 (n * Odr.months x))] [] = some (AV.tup [AV.int IntKind.i32 p, AV.i pe], [])
abbrev og21_h57 (x : Odr) (c : List Hol) (o : SO) (k : Int) (r : Bool) (p pe q qe : Int) : Prop := r = true → pe = 0 → cc (ev X E0) 57 [AV.sl o 3 (List.map Hol.pv c), AV.int IntKind.i32 k, AV.int IntKind.i32 p, AV.i (Odr.how x)] [] = some (AV.tup [AV.int IntKind.i32 q, AV.i qe], [])
theorem og21_2 (x : Odr) (n : Int) (c : List Hol) (o : SO) (k : Int) (r w : Bool) (p pe q qe : Int) (h51 : cc (ev X E0) 51 [Odr.av x] [] = some (AV.b r, [])) (h56 : cc (ev X E0) 56 [AV.i n, AV.i 0, AV.i (IntKind.wrap .i64 (Odr.many x - 1))] [] = some (AV.b w, [])) (_h22 : og21_h22 x n p pe) (_h57 : og21_h57 x c o k r p pe q qe) (g1 : r = true) (g2 : w = false) :
    cc (ev X E0) 21 [AV.agg [vi (Odr.id x), vi (Odr.kind x), vi (Odr.fr x), vi (Odr.to x), vi (Odr.cur x), vi (Odr.minor x), vw (Odr.first x), vi (Odr.months x), vi (Odr.many x), vi (Odr.how x)], AV.c (vi n), AV.c (.pv (.sl o 3 (List.map Hol.pv c))), AV.c (vw k)] [] = some (AV.tup [AV.c (vw 0), AV.c (vi 1)], []) :=
  cc_path (x := xf21) rfl ([.call (AV.c (.pv (.bool r))) []] ++ bs 5 false ++ [.call (AV.c (.pv (.bool w))) [], .br false, .br false, .br true])
    (c := rq [ty h51, (5, (!r) = false), ty h56, (2, (!r) = false), (1, (!w) = true)]) (by kernel_rfl)
    (aq ⟨h51, (not_f g1), h56, (not_f g1), (not_t g2), trivial⟩)
theorem og21_3 (x : Odr) (n : Int) (c : List Hol) (o : SO) (k : Int) (r w : Bool) (p pe q qe : Int) (h51 : cc (ev X E0) 51 [Odr.av x] [] = some (AV.b r, [])) (h56 : cc (ev X E0) 56 [AV.i n, AV.i 0, AV.i (IntKind.wrap .i64 (Odr.many x - 1))] [] = some (AV.b w, [])) (h22 : og21_h22 x n p pe) (_h57 : og21_h57 x c o k r p pe q qe) (g1 : r = true) (g2 : w = true) (g3 : ¬pe = 0) :
    cc (ev X E0) 21 [AV.agg [vi (Odr.id x), vi (Odr.kind x), vi (Odr.fr x), vi (Odr.to x), vi (Odr.cur x), vi (Odr.minor x), vw (Odr.first x), vi (Odr.months x), vi (Odr.many x), vi (Odr.how x)], AV.c (vi n), AV.c (.pv (.sl o 3 (List.map Hol.pv c))), AV.c (vw k)] [] = some (AV.tup [AV.c (vw 0), AV.c (vi pe)], []) :=
  cc_path (x := xf21) rfl ([.call (AV.c (.pv (.bool r))) []] ++ bs 5 false ++ [.call (AV.c (.pv (.bool w))) []] ++ bs 3 false ++ [.call (AV.tup [AV.c (vw p), AV.c (vi pe)]) [], .br true])
    (c := rq [ty h51, (5, (!r) = false), ty h56, (2, (!r) = false), (1, (!w) = false), ty h22, (1, (pe != 0) = true)]) (by kernel_rfl)
    (aq ⟨h51, (not_f g1), h56, (not_f g1), (not_f g2), h22, (bne_iff_ne.mpr g3), trivial⟩)
theorem og21_4 (x : Odr) (n : Int) (c : List Hol) (o : SO) (k : Int) (r w : Bool) (p pe q qe : Int) (h51 : cc (ev X E0) 51 [Odr.av x] [] = some (AV.b r, [])) (h56 : cc (ev X E0) 56 [AV.i n, AV.i 0, AV.i (IntKind.wrap .i64 (Odr.many x - 1))] [] = some (AV.b w, [])) (h22 : og21_h22 x n p pe) (h57 : og21_h57 x c o k r p pe q qe) (g1 : r = true) (g2 : w = true) (g3 : pe = 0) :
    cc (ev X E0) 21 [AV.agg [vi (Odr.id x), vi (Odr.kind x), vi (Odr.fr x), vi (Odr.to x), vi (Odr.cur x), vi (Odr.minor x), vw (Odr.first x), vi (Odr.months x), vi (Odr.many x), vi (Odr.how x)], AV.c (vi n), AV.c (.pv (.sl o 3 (List.map Hol.pv c))), AV.c (vw k)] [] = some (AV.tup [AV.c (vw q), AV.c (vi qe)], []) :=
  cc_path (x := xf21) rfl ([.call (AV.c (.pv (.bool r))) []] ++ bs 5 false ++ [.call (AV.c (.pv (.bool w))) []] ++ bs 3 false ++ [.call (AV.tup [AV.c (vw p), AV.c (vi pe)]) [], .br false, .call (AV.tup [AV.c (vw q), AV.c (vi qe)]) []])
    (c := rq [ty h51, (5, (!r) = false), ty h56, (2, (!r) = false), (1, (!w) = false), ty h22, (1, (pe != 0) = false), (1, cc (ev X E0) 57 [AV.c (.pv (.sl o 3 (List.map Hol.pv c))), AV.c (vw k), AV.c (vw p), AV.c (vi (Odr.how x))] [] = some (AV.tup [AV.c (vw q), AV.c (vi qe)], []))]) (by kernel_rfl)
    (aq ⟨h51, (not_f g1), h56, (not_f g1), (not_f g2), h22, (bne_f g3), (h57 g1 g3), trivial⟩)
end Go.Sx.Tryd
