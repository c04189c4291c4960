/- The net of claims, as it is computed. -/
import Derived.Test.YtggopflifieoiaaDoorY1
import Derived.Test.YtggopflifieoiaaDoorZ4
import Derived.Test.YtggopflifieoiaaDoorY3
namespace Go.Sx.Tryd
open Go Go.Sx
theorem ya80 {l : List Cl} {o : SO} (hl : l.length ≤ 1000) : ∀ (r pre : List Cl), l = pre ++ r →
    (lv (cv (ev X E0) xf80_l0) (rl [0, 4, 0, 0]) 0 (YS80 l o (pre.length : Nat)) = some (XExit.exit 0, St.mk (tmOf 34 [(0, AV.c (CV.pv (PV.sl o 6 (List.map Cl.pv l))))]) []) ∧ ∀ c ∈ r, clOk c = true) ∨
    (∃ x : Cl, lv (cv (ev X E0) xf80_l0) (rl [0, 4, 0, 0]) 0 (YS80 l o (pre.length : Nat)) = some (XExit.ret, St.mk (tmOf 34 [(2, AV.c (CV.pv (PV.bool false)))]) [Box.cells (Cl.cs x)]))
  | [], pre, e => by
    rw [List.append_nil] at e
    subst e
    exact .inl ⟨yl80_5 l o l.length (by simp), by simp⟩
  | y :: r, pre, e => by
    have hlen : l.length = pre.length + r.length + 1 := by rw [e]; simp; omega
    have hat : l[pre.length]? = some y := by rw [e]; simp
    have hlt := ltC (l := l) (i := pre.length) (by omega)
    cases ok : clOk y with
    | false => exact .inr ⟨y, yl80_1 l o pre.length y hlt hat ok⟩
    | true =>
      have ih := ya80 (o := o) hl r (pre ++ [y]) (by rw [e]; simp)
      rw [List.length_append, List.length_singleton, Int.natCast_add, Int.natCast_one] at ih
      have go : lv (cv (ev X E0) xf80_l0) (rl [0, 4, 0, 0]) 0 (YS80 l o (pre.length : Nat)) = lv (cv (ev X E0) xf80_l0) (rl [0, 4, 0, 0]) 0 (YS80 l o ((pre.length : Nat) + 1)) →
          (lv (cv (ev X E0) xf80_l0) (rl [0, 4, 0, 0]) 0 (YS80 l o (pre.length : Nat)) = some (XExit.exit 0, St.mk (tmOf 34 [(0, AV.c (CV.pv (PV.sl o 6 (List.map Cl.pv l))))]) []) ∧ ∀ c ∈ y :: r, clOk c = true) ∨
          (∃ x : Cl, lv (cv (ev X E0) xf80_l0) (rl [0, 4, 0, 0]) 0 (YS80 l o (pre.length : Nat)) = some (XExit.ret, St.mk (tmOf 34 [(2, AV.c (CV.pv (PV.bool false)))]) [Box.cells (Cl.cs x)])) := by
        intro st
        rcases ih with ⟨h1, h2⟩ | ⟨x, h1⟩
        · refine .inl ⟨st.trans h1, fun c hc => ?_⟩
          rcases List.mem_cons.1 hc with rfl | hc
          · exact ok
          · exact h2 c hc
        · exact .inr ⟨x, st.trans h1⟩
      by_cases c0 : (pre.length : Int) > 0
      · have hw : IntKind.wrap .i64 ((pre.length : Int) - 1) = (pre.length : Int) - 1 := wi64 (by omega) (by omega)
        have hz : l[Int.toNat (IntKind.wrap .i64 ((pre.length : Int) - 1))]? = some (l[pre.length - 1]'(by omega)) := by
          rw [hw, show Int.toNat ((pre.length : Int) - 1) = pre.length - 1 by omega]
          exact List.getElem?_eq_getElem _
        by_cases c1 : (l[pre.length - 1]'(by omega)).id ≥ y.id
        · exact .inr ⟨y, yl80_2 l o pre.length y _ hlt hat ok c0 (by rw [hw]; omega) hz c1⟩
        · have st := yl80_3 l o pre.length y _ hlt hat ok c0 (by rw [hw]; omega) hz c1
          rw [wi64 (by omega) (by omega)] at st
          exact go st
      · have st := yl80_4 l o pre.length y hlt hat ok c0
        rw [wi64 (by omega) (by omega)] at st
        exact go st
theorem ys80 {l : List Cl} (o : SO) (hl : l.length ≤ 100) : ∃ b, cc (ev X E0) 80 [AV.sl o 6 (l.map Cl.pv)] [] = some (.b b, []) ∧ (b = true → ∀ c ∈ l, clOk c = true) := by
  rcases ya80 (o := o) (l := l) (by omega) l [] rfl with ⟨h1, h2⟩ | ⟨x, h1⟩
  · exact ⟨_, yg80_1 l o h1, fun _ => h2⟩
  · exact ⟨false, yg80r_1 l o false x h1, fun h => by cases h⟩
theorem ys33 {l : List Cl} (o : SO) (hl : l.length ≤ 100) (cur day : Int) : ∃ e, cc (ev X E0) 33 [AV.sl o 6 (l.map Cl.pv), AV.i cur, AV.int .i32 day] [] = some (.i e, []) ∧ (e = 0 → (∀ c ∈ l, clOk c = true) ∧ curOk cur = true) := by
  obtain ⟨b, h, hb⟩ := ys80 (l := l) o hl
  cases b with
  | false => exact ⟨1, yg33_1 l o cur day _ h rfl, fun h => by cases h⟩
  | true =>
    cases c1 : curOk cur with
    | false => exact ⟨12, yg33_2 l o cur day _ h rfl c1, fun h => by cases h⟩
    | true =>
      cases c2 : datOk day with
      | false => exact ⟨11, yg33_3 l o cur day _ h rfl c1 c2, fun h => by cases h⟩
      | true => exact ⟨0, yg33_4 l o cur day _ h rfl c1 c2, fun _ => ⟨hb rfl, rfl⟩⟩
theorem ya34 {l : List Cl} {o : SO} {cur day : Int} (hl : l.length ≤ 100) : ∀ (r pre : List Cl) (net : List Int) (m : Int), l = pre ++ r → (∀ c ∈ r, c.Ok) → net.length = 16 → total net = 0 → (∀ i, -m ≤ at0 net i ∧ at0 net i ≤ m) → m + 1000000000000 * r.length ≤ 200000000000000 →
    lv (cv (ev X E0) xf34_l0) (rl [1, 0, 4, 3, 0, 0]) 1 (YS34 l o cur day net (pre.length : Nat)) = some (XExit.exit 0, St.mk (tmOf 50 [(7, AV.c (CV.ms 0 0 1 16))]) [netR (r.foldl (netS cur day) net)])
  | [], pre, net, m, e, _, _, _, _, _ => by
    rw [List.append_nil] at e
    subst e
    exact yl34x_1 l o cur day net l.length (by simp)
  | y :: r, pre, net, m, e, ok, hn, ht, hm, hb => by
    have hlen : l.length = pre.length + r.length + 1 := by rw [e]; simp; omega
    have hat : l[pre.length]? = some y := by rw [e]; simp
    have hlt := ltC (l := l) (i := pre.length) (by omega)
    obtain ⟨f0, f1, t0, t1, ne, lo, hi⟩ := ok y (by simp)
    rw [List.length_cons] at hb
    have hfl : y.fr.toNat < net.length := by omega
    have htl : y.to.toNat < net.length := by omega
    have ha : net[Int.toNat y.fr]? = some (at0 net y.fr.toNat) := by
      rw [at0, List.getD_eq_getElem?_getD, List.getElem?_eq_getElem hfl]; rfl
    have hb' : net[Int.toNat y.to]? = some (at0 net y.to.toNat) := by
      rw [at0, List.getD_eq_getElem?_getD, List.getElem?_eq_getElem htl]; rfl
    have hne : y.fr.toNat ≠ y.to.toNat := by omega
    have hbb : (List.set (List.map i64P net) (Int.toNat y.fr) (rowOf 1 [PV.int .i64 (IntKind.wrap .i64 (at0 net y.fr.toNat - y.n))]))[Int.toNat y.to]? = some (PV.int .i64 (at0 net y.to.toNat)) := by
      rw [List.getElem?_set_ne hne, List.getElem?_map, hb']; rfl
    have k := net_step (cur := cur) (day := day) ⟨f0, f1, t0, t1, ne, lo, hi⟩ hn ht hm
    have ih := ya34 (o := o) (cur := cur) (day := day) hl r (pre ++ [y]) (netS cur day net y) (m + 1000000000000) (by rw [e]; simp) (fun c hc => ok c (by simp [hc])) k.1 k.2.1 k.2.2 (by omega)
    rw [List.length_append, List.length_singleton, Int.natCast_add, Int.natCast_one] at ih
    rw [List.foldl_cons]
    have b1 := hm y.fr.toNat
    have b2 := hm y.to.toNat
    by_cases c1 : y.cur = cur
    · by_cases c2 : y.day = day
      · have st := yl34_1 l o cur day net pre.length y _ _ hat ha hbb hlt c1 c2 f0 f1 t0 t1
        rw [wi64 (n := (pre.length : Int) + 1) (by omega) (by omega), wi64 (n := at0 net y.fr.toNat - y.n) (by omega) (by omega), wi64 (n := at0 net y.to.toNat + y.n) (by omega) (by omega)] at st
        have hs : List.set (List.set (List.map i64P net) (Int.toNat y.fr) (rowOf 1 [PV.int .i64 (at0 net y.fr.toNat - y.n)])) (Int.toNat y.to) (rowOf 1 [PV.int .i64 (at0 net y.to.toNat + y.n)]) = List.map i64P (netS cur day net y) := by
          rw [netS, if_pos ⟨c1, c2⟩, pay, List.map_set, List.map_set]
          congr 2
          · simp only [rowOf, if_true, List.headD_cons]; congr 1; omega
        rw [hs] at st
        exact st.trans ih
      · have st := yl34_2 l o cur day net pre.length y _ _ hat ha hbb hlt c1 c2
        rw [wi64 (by omega) (by omega)] at st
        rw [netS, if_neg (fun h => c2 h.2)] at ih ⊢
        exact st.trans ih
    · have st := yl34_3 l o cur day net pre.length y _ _ hat ha hbb hlt c1
      rw [wi64 (by omega) (by omega)] at st
      rw [netS, if_neg (fun h => c1 h.1)] at ih ⊢
      exact st.trans ih
theorem at0_n0 : ∀ i, at0 n0 i = 0
  | 0 | 1 | 2 | 3 | 4 | 5 | 6 | 7 | 8 | 9 | 10 | 11 | 12 | 13 | 14 | 15 => rfl
  | _ + 16 => rfl
abbrev netI (l : List Int) : AV := AV.sl .shut 1 (l.map i64P)
theorem ys34 {l : List Cl} (o : SO) {cur day : Int} (hl : l.length ≤ 100) (ok : ∀ c ∈ l, c.Ok) : cc (ev X E0) 34 [AV.sl o 6 (l.map Cl.pv), AV.i cur, AV.int .i32 day] [] = some (netI (l.foldl (netS cur day) n0), []) := by
  have h0 := at0_n0
  have a := ya34 (o := o) (cur := cur) (day := day) hl l [] n0 0 rfl ok rfl rfl (fun i => by rw [h0 i]; omega) (by omega)
  have hlen := (net_all (cur := cur) (day := day) l n0 0 ok rfl rfl (fun i => by rw [h0 i]; omega)).1
  exact yg34_1 l o cur day _ a _ (frz_all rfl (by rw [List.length_map, hlen]))
theorem net_facts {l : List Cl} {cur day : Int} (hl : l.length ≤ 100) (ok : ∀ c ∈ l, c.Ok) : (l.foldl (netS cur day) n0).length = 16 ∧ total (l.foldl (netS cur day) n0) = 0 ∧ ∀ i, -100000000000000 ≤ at0 (l.foldl (netS cur day) n0) i ∧ at0 (l.foldl (netS cur day) n0) i ≤ 100000000000000 := by
  have h0 := at0_n0
  obtain ⟨h1, h2, h3⟩ := net_all (cur := cur) (day := day) l n0 0 ok rfl rfl (fun i => by rw [h0 i]; omega)
  exact ⟨h1, h2, fun i => by have := h3 i; omega⟩
abbrev yg8_h34 (l : List Cl) (o : SO) (cur day : Int) (net : List Int) (e : Int) : Prop := e = 0 → cc (ev X E0) 34 [AV.sl o 6 (List.map Cl.pv l), AV.i cur, AV.int IntKind.i32 day] [] = some (netI net, [])
theorem yg8_1 (l : List Cl) (o : SO) (cur day : Int) (net : List Int) (e : Int) (h : cc (ev X E0) 33 [AV.sl o 6 (List.map Cl.pv l), AV.i cur, AV.int IntKind.i32 day] [] = some (AV.i e, [])) (_h34 : yg8_h34 l o cur day net e) (g1 : ¬e = 0) :
    cc (ev X E0) 8 [AV.c (.pv (.sl o 6 (List.map Cl.pv l))), AV.c (vi cur), AV.c (vw day)] [] = some (AV.tup [AV.c (.pv (.sl SO.nil 0 [])), AV.c (vi e)], []) :=
  cc_path (x := xf8) rfl [.call (AV.c (vi e)) [], .br true]
    (c := rq [ty h, (1, (e != 0) = true)]) (by kernel_rfl)
    (aq ⟨h, (bne_iff_ne.mpr g1), trivial⟩)
theorem yg8_2 (l : List Cl) (o : SO) (cur day : Int) (net : List Int) (e : Int) (h : cc (ev X E0) 33 [AV.sl o 6 (List.map Cl.pv l), AV.i cur, AV.int IntKind.i32 day] [] = some (AV.i e, [])) (h34 : yg8_h34 l o cur day net e) (g1 : e = 0) :
    cc (ev X E0) 8 [AV.c (.pv (.sl o 6 (List.map Cl.pv l))), AV.c (vi cur), AV.c (vw day)] [] = some (AV.tup [AV.c (.pv (.sl SO.shut 1 (List.map i64P net))), AV.c (vi 0)], []) :=
  cc_path (x := xf8) rfl [.call (AV.c (vi e)) [], .br false, .call (AV.c (.pv (.sl SO.shut 1 (List.map i64P net)))) []]
    (c := rq [ty h, (1, (e != 0) = false), (1, cc (ev X E0) 34 [AV.c (.pv (.sl o 6 (List.map Cl.pv l))), AV.c (vi cur), AV.c (vw day)] [] = some (AV.c (.pv (.sl SO.shut 1 (List.map i64P net))), []))]) (by kernel_rfl)
    (aq ⟨h, (bne_f g1), (h34 g1), trivial⟩)
end Go.Sx.Tryd
/- How a net is settled. -/
namespace Go.Sx.Tryd
open Go Go.Sx
theorem at0_get {l : List Int} {i : Nat} (h : i < l.length) : l[i]? = some (at0 l i) := by
  rw [at0, List.getD_eq_getElem?_getD, List.getElem?_eq_getElem h]; rfl
theorem ya350n {left : List Int} (hl : left.length = 16) (t : Nat) : ∀ (k f : Nat), 16 ≤ f + k → f ≤ 16 → lv (cv (ev X E0) xf35_l0) (rl [3, 0, 0, 0]) 1 (YS35 left nilC (f : Nat) (t : Nat)) = some (XExit.exit 2, YS35 left nilC (skip up0 left f : Nat) (t : Nat))
  | 0, f, h, h' => by
    rw [skip_end (by omega)]
    exact yl350n_3 left f t (by omega)
  | k + 1, f, h, h' => by
    by_cases c : (f : Int) < 16
    · have hx := at0_get (l := left) (i := f) (by omega)
      by_cases c1 : at0 left f ≥ 0
      · have st := yl350n_1 left f t _ c hx c1
        rw [wi64 (by omega) (by omega)] at st
        rw [skip_in hx (by simpa [up0] using c1)]
        exact st.trans (ya350n hl t k (f + 1) (by omega) (by omega))
      · rw [skip_out hx (by simpa [up0] using c1)]
        exact yl350n_2 left f t _ c hx c1
    · rw [skip_end (by omega)]
      exact yl350n_3 left f t c
theorem ya351n {left : List Int} (hl : left.length = 16) (f : Nat) : ∀ (k t : Nat), 16 ≤ t + k → t ≤ 16 → lv (cv (ev X E0) xf35_l1) (rl [3, 0, 0, 0]) 1 (YS35 left nilC (f : Nat) (t : Nat)) = some (XExit.exit 4, YS35 left nilC (f : Nat) (skip dn0 left t : Nat))
  | 0, t, h, h' => by
    rw [skip_end (by omega)]
    exact yl351n_3 left f t (by omega)
  | k + 1, t, h, h' => by
    by_cases c : (t : Int) < 16
    · have hx := at0_get (l := left) (i := t) (by omega)
      by_cases c1 : at0 left t ≤ 0
      · have st := yl351n_1 left f t _ c hx c1
        rw [wi64 (by omega) (by omega)] at st
        rw [skip_in hx (by simpa [dn0] using c1)]
        exact st.trans (ya351n hl f k (t + 1) (by omega) (by omega))
      · rw [skip_out hx (by simpa [dn0] using c1)]
        exact yl351n_2 left f t _ c hx c1
    · rw [skip_end (by omega)]
      exact yl351n_3 left f t c
theorem ya350o {left : List Int} {out : List Tr} (hl : left.length = 16) (t : Nat) : ∀ (k f : Nat), 16 ≤ f + k → f ≤ 16 → lv (cv (ev X E0) xf35_l0) (rl [3, 0, 0, 0]) 1 (YS35 left (ownT out) (f : Nat) (t : Nat)) = some (XExit.exit 2, YS35 left (ownT out) (skip up0 left f : Nat) (t : Nat))
  | 0, f, h, h' => by
    rw [skip_end (by omega)]
    exact yl350o_3 left out f t (by omega)
  | k + 1, f, h, h' => by
    by_cases c : (f : Int) < 16
    · have hx := at0_get (l := left) (i := f) (by omega)
      by_cases c1 : at0 left f ≥ 0
      · have st := yl350o_1 left out f t _ c hx c1
        rw [wi64 (by omega) (by omega)] at st
        rw [skip_in hx (by simpa [up0] using c1)]
        exact st.trans (ya350o hl t k (f + 1) (by omega) (by omega))
      · rw [skip_out hx (by simpa [up0] using c1)]
        exact yl350o_2 left out f t _ c hx c1
    · rw [skip_end (by omega)]
      exact yl350o_3 left out f t c
theorem ya351o {left : List Int} {out : List Tr} (hl : left.length = 16) (f : Nat) : ∀ (k t : Nat), 16 ≤ t + k → t ≤ 16 → lv (cv (ev X E0) xf35_l1) (rl [3, 0, 0, 0]) 1 (YS35 left (ownT out) (f : Nat) (t : Nat)) = some (XExit.exit 4, YS35 left (ownT out) (f : Nat) (skip dn0 left t : Nat))
  | 0, t, h, h' => by
    rw [skip_end (by omega)]
    exact yl351o_3 left out f t (by omega)
  | k + 1, t, h, h' => by
    by_cases c : (t : Int) < 16
    · have hx := at0_get (l := left) (i := t) (by omega)
      by_cases c1 : at0 left t ≤ 0
      · have st := yl351o_1 left out f t _ c hx c1
        rw [wi64 (by omega) (by omega)] at st
        rw [skip_in hx (by simpa [dn0] using c1)]
        exact st.trans (ya351o hl f k (t + 1) (by omega) (by omega))
      · rw [skip_out hx (by simpa [dn0] using c1)]
        exact yl351o_2 left out f t _ c hx c1
    · rw [skip_end (by omega)]
      exact yl351o_3 left out f t c
theorem row1 (p : PV) : rowOf 1 [p] = p := rfl
theorem pay_row {left : List Int} {f t : Nat} (hf : f < left.length) (ht : t < left.length) (hne : f ≠ t) (b1 : -100000000000000 ≤ at0 left f ∧ at0 left f ≤ 100000000000000) (b2 : -100000000000000 ≤ at0 left t ∧ at0 left t ≤ 100000000000000) {n : Int} (hn : n = min (-at0 left f) (at0 left t)) :
    (if at0 left t < IntKind.wrap .i64 (0 - at0 left f) then at0 left t else IntKind.wrap .i64 (0 - at0 left f)) = n ∧
    (List.set (List.map i64P left) f (rowOf 1 [PV.int .i64 (IntKind.wrap .i64 (at0 left f + n))]))[t]? = some (PV.int .i64 (at0 left t)) ∧
    (List.set (List.set (List.map i64P left) f (rowOf 1 [PV.int .i64 (IntKind.wrap .i64 (at0 left f + n))])) t (rowOf 1 [PV.int .i64 (IntKind.wrap .i64 (at0 left t - n))])) = List.map i64P (pay left f t n) := by
  refine ⟨?_, ?_, ?_⟩
  · rw [wi64 (by omega) (by omega)]
    split <;> omega
  · rw [List.getElem?_set_ne hne, List.getElem?_map, at0_get ht]; rfl
  · rw [wi64 (by omega) (by omega), wi64 (by omega) (by omega), row1, row1, pay, List.map_set, List.map_set]
theorem ya352e {net left : List Int} {out : List Tr} {f t : Nat} (ih : ∀ (left' : List Int) (out' : List Tr) (f' t' : Nat), Stl net left' out' f' t' → nz left' < nz left → ∃ left'' out'', lv (cv (ev X E0) xf35_l2) (rl [3, 0, 0, 0]) 1 (YS35 left' (ownT out') (f' : Nat) (t' : Nat)) = some (XExit.ret, St.mk (tmOf 78 [(2, AV.c (ownT out''))]) [netR left'']) ∧
    (∀ i, at0 net i = flow out'' i) ∧ (∀ x ∈ out'', x.Ok) ∧ out''.length ≤ 16) (h : Stl net left out f t) :
    ∃ left' out', lv (cv (ev X E0) xf35_l2) (rl [3, 0, 0, 0]) 1 (YS35 left (ownT out) (f : Nat) (t : Nat)) = some (XExit.ret, St.mk (tmOf 78 [(2, AV.c (ownT out'))]) [netR left']) ∧
    (∀ i, at0 net i = flow out' i) ∧ (∀ x ∈ out', x.Ok) ∧ out'.length ≤ 16 := by
  have hl := h.len
  have h0 := ya350o (out := out) hl t 16 f (by omega) h.f16
  obtain ⟨k1, k2⟩ := stl_f h
  have h1 := ya351o (out := out) hl (skip up0 left f) 16 t (by omega) h.t16
  obtain ⟨k3, k4⟩ := stl_t k1
  by_cases e1 : skip up0 left f = 16
  · exact ⟨left, out, yl352oe_1 left out f t _ _ h0 h1 (by omega), stl_end k3 (.inl e1)⟩
  by_cases e2 : skip dn0 left t = 16
  · exact ⟨left, out, yl352ot_1 left out f t _ _ h0 h1 (by omega) (by omega), stl_end k3 (.inr e2)⟩
  have f16 := k3.f16
  have t16 := k3.t16
  have p1 := k2 (by omega)
  have p2 := k4 (by omega)
  obtain ⟨hne, q1, q2, q3, q4⟩ := stl_pay k3 (by omega) (by omega) p1 p2 rfl
  obtain ⟨r1, r2, r3⟩ := pay_row (left := left) (f := skip up0 left f) (t := skip dn0 left t) (by omega) (by omega) hne (k3.bd _) (k3.bd _) rfl
  have st := yl352o_3 left out f t _ _ _ _ _ h0 h1 (at0_get (by omega)) (at0_get (by omega)) (by rw [r1]; exact r2) (by omega) (by omega) (by omega) (by omega) (by
    have := k3.cnt
    simp only [List.length_map, List.length_cons, List.length_nil]
    omega)
  rw [r1, r3] at st
  obtain ⟨left', out', j1, j2⟩ := ih _ _ _ _ q4 q3
  refine ⟨left', out', st.trans ?_, j2⟩
  rw [← j1]
  simp only [YS35, ownT, List.map_append]
  rfl
theorem ya352o : ∀ (k : Nat) (net left : List Int) (out : List Tr) (f t : Nat), Stl net left out f t → nz left ≤ k → ∃ left' out', lv (cv (ev X E0) xf35_l2) (rl [3, 0, 0, 0]) 1 (YS35 left (ownT out) (f : Nat) (t : Nat)) = some (XExit.ret, St.mk (tmOf 78 [(2, AV.c (ownT out'))]) [netR left']) ∧
    (∀ i, at0 net i = flow out' i) ∧ (∀ x ∈ out', x.Ok) ∧ out'.length ≤ 16 := by
  intro k
  induction k with
  | zero =>
    intro net left out f t h hk
    exact ya352e (fun left' out' f' t' hs hz => by omega) h
  | succ k ih =>
    intro net left out f t h hk
    exact ya352e (fun left' out' f' t' hs hz => ih net left' out' f' t' hs (by omega)) h
theorem ys35 {net : List Int} (hl : net.length = 16) (ht : total net = 0) (hb : ∀ i, -100000000000000 ≤ at0 net i ∧ at0 net i ≤ 100000000000000) :
    ∃ (c : CV) (out : List Tr), (c = nilC ∧ out = [] ∨ c = CV.own 0 3 (List.map Tr.pv out)) ∧ cc (ev X E0) 35 [netI net] [] = some (AV.c c, []) ∧
    (∀ i, at0 net i = flow out i) ∧ (∀ x ∈ out, x.Ok) ∧ out.length ≤ 16 := by
  have hc := yg82_3 net .shut rfl rfl (by intro e; rw [List.map_eq_nil_iff] at e; rw [e] at hl; simp at hl) (by rw [List.length_map, hl]; decide)
  rw [List.nil_append] at hc
  have len : (List.map i64P net).length = 16 := by rw [List.length_map, hl]
  have h := stl_new hl ht hb
  have h0 := ya350n hl 0 16 0 (by omega) h.f16
  obtain ⟨k1, k2⟩ := stl_f h
  have h1 := ya351n hl (skip up0 net 0) 16 0 (by omega) h.t16
  obtain ⟨k3, k4⟩ := stl_t k1
  by_cases e1 : skip up0 net 0 = 16
  · exact ⟨nilC, [], .inl ⟨rfl, rfl⟩, yg35n_1 net net hc (by rw [len]; exact yl352ne_1 net 0 0 _ _ h0 h1 (by omega)), stl_end k3 (.inl e1)⟩
  by_cases e2 : skip dn0 net 0 = 16
  · exact ⟨nilC, [], .inl ⟨rfl, rfl⟩, yg35n_1 net net hc (by rw [len]; exact yl352nt_1 net 0 0 _ _ h0 h1 (by omega) (by omega)), stl_end k3 (.inr e2)⟩
  have f16 := k3.f16
  have t16 := k3.t16
  have p1 := k2 (by omega)
  have p2 := k4 (by omega)
  obtain ⟨hne, q1, q2, q3, q4⟩ := stl_pay k3 (by omega) (by omega) p1 p2 rfl
  obtain ⟨r1, r2, r3⟩ := pay_row (left := net) (f := skip up0 net 0) (t := skip dn0 net 0) (by omega) (by omega) hne (k3.bd _) (k3.bd _) rfl
  have st := yl352n_3 net 0 0 _ _ _ _ _ h0 h1 (at0_get (by omega)) (at0_get (by omega)) (by rw [r1]; exact r2) (by omega) (by omega) (by omega) (by omega) (by
    simp only [List.length_cons, List.length_nil]
    omega)
  rw [r1, r3] at st
  obtain ⟨left', out', j1, j2⟩ := ya352o 16 _ _ _ _ _ q4 (by have := q4.cnt; omega)
  exact ⟨_, out', .inr rfl, yg35o_1 net left' out' hc (by rw [len]; exact st.trans j1), j2⟩
end Go.Sx.Tryd
