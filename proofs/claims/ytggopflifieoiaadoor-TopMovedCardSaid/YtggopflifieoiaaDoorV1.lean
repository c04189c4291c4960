/- Days on which calendars differ: paths. -/
import Derived.Test.YtggopflifieoiaaDoorU5
namespace Go.Sx.Tryd
open Go Go.Sx
theorem vg62_3 (a b : Int) (g1 : ¬IntKind.wrap .i32 (b - a) > 4000) (g2 : ¬IntKind.wrap .i32 (a - b) > 4000) :
    cc (ev X E0) 62 [AV.c (vw a), AV.c (vw b)] [] = some (AV.c (vi 0), []) :=
  cc_path (x := xf62) rfl (bs 6 false)
    (c := rq [(5, decide (IntKind.wrap .i32 (b - a) > 4000) = false), (1, decide (IntKind.wrap .i32 (a - b) > 4000) = false)]) (by kernel_rfl)
    (aq ⟨(dF g1), (dF g2), trivial⟩)
abbrev ownI (out : List Int) : CV := CV.own 3647 1 (List.map i32P out)
abbrev nilI : CV := CV.pv (PV.sl SO.nil 0 [])
abbrev VS23 (kva kvb : List (PV × PV)) (c : CV) (t d : Int) : St := St.mk (tmOf 58 [(4, AV.c (CV.pv (PV.int .i32 t))), (14, AV.c (CV.mp 0)), (15, AV.c (CV.mp 1)), (16, AV.c c), (17, AV.c (CV.pv (PV.int .i32 d)))]) [Box.map kva, Box.map kvb]
theorem vl23n_1 (kva kvb : List (PV × PV)) (t d : Int) (wa wb : Bool) (ha : cc (ev X E0) 64 [AV.c (.mp 0), AV.int IntKind.i32 d] [.map kva] = some (AV.b wa, [.map kva])) (hb : cc (ev X E0) 64 [AV.c (.mp 0), AV.int IntKind.i32 d] [.map kvb] = some (AV.b wb, [.map kvb])) (hd : d < t) (g1 : (wa == wb) = false) (g2 : (↑(0 + List.length [PV.int .i32 d]) : Int) * 4 ≤ 140737488355328) :
    lv (cv (ev X E0) xf23_l0) (rl [4, 9, 0, 0, 0]) 2 (VS23 kva kvb nilI t d) = lv (cv (ev X E0) xf23_l0) (rl [4, 9, 0, 0, 0]) 2 (St.mk (tmOf 58 [(4, AV.c (vw t)), (14, AV.c (.mp 0)), (15, AV.c (.mp 1)), (16, AV.c (.own 3647 1 [PV.int .i32 d])), (17, AV.c (vw (IntKind.wrap .i32 (d + 1))))]) [.map kva, .map kvb]) :=
  lv_next [.br true, .call (AV.c (.pv (.bool wa))) [.map kva], .call (AV.c (.pv (.bool wb))) [.map kvb], .br true, .emp false]
    (c := rq [(1, decide (d < t) = true), ty ha, ty hb, (1, (!wa == wb) = true), (1, [PV.int .i32 d] ≠ []), ty g2]) (by kernel_rfl)
    (aq ⟨(dT hd), ha, hb, (not_t g1), (List.cons_ne_nil _ _), g2, trivial⟩)
theorem vl23n_2 (kva kvb : List (PV × PV)) (t d : Int) (wa wb : Bool) (ha : cc (ev X E0) 64 [AV.c (.mp 0), AV.int IntKind.i32 d] [.map kva] = some (AV.b wa, [.map kva])) (hb : cc (ev X E0) 64 [AV.c (.mp 0), AV.int IntKind.i32 d] [.map kvb] = some (AV.b wb, [.map kvb])) (hd : d < t) (g1 : (wa == wb) = true) :
    lv (cv (ev X E0) xf23_l0) (rl [4, 9, 0, 0, 0]) 2 (VS23 kva kvb nilI t d) = lv (cv (ev X E0) xf23_l0) (rl [4, 9, 0, 0, 0]) 2 (St.mk (tmOf 58 [(4, AV.c (vw t)), (14, AV.c (.mp 0)), (15, AV.c (.mp 1)), (16, AV.c (.pv (.sl SO.nil 0 []))), (17, AV.c (vw (IntKind.wrap .i32 (d + 1))))]) [.map kva, .map kvb]) :=
  lv_next [.br true, .call (AV.c (.pv (.bool wa))) [.map kva], .call (AV.c (.pv (.bool wb))) [.map kvb], .br false]
    (c := rq [(1, decide (d < t) = true), ty ha, ty hb, (1, (!wa == wb) = false)]) (by kernel_rfl)
    (aq ⟨(dT hd), ha, hb, (not_f g1), trivial⟩)
theorem vl23o_1 (kva kvb : List (PV × PV)) (out : List Int) (t d : Int) (wa wb : Bool) (ha : cc (ev X E0) 64 [AV.c (.mp 0), AV.int IntKind.i32 d] [.map kva] = some (AV.b wa, [.map kva])) (hb : cc (ev X E0) 64 [AV.c (.mp 0), AV.int IntKind.i32 d] [.map kvb] = some (AV.b wb, [.map kvb])) (hd : d < t) (g1 : (wa == wb) = false) (g2 : (↑(List.length (List.map i32P out) + List.length [PV.int .i32 d]) : Int) * 4 ≤ 140737488355328) :
    lv (cv (ev X E0) xf23_l0) (rl [4, 9, 0, 0, 0]) 2 (VS23 kva kvb (ownI out) t d) = lv (cv (ev X E0) xf23_l0) (rl [4, 9, 0, 0, 0]) 2 (St.mk (tmOf 58 [(4, AV.c (vw t)), (14, AV.c (.mp 0)), (15, AV.c (.mp 1)), (16, AV.c (.own 3647 1 (List.map i32P out ++ [PV.int .i32 d]))), (17, AV.c (vw (IntKind.wrap .i32 (d + 1))))]) [.map kva, .map kvb]) :=
  lv_next [.br true, .call (AV.c (.pv (.bool wa))) [.map kva], .call (AV.c (.pv (.bool wb))) [.map kvb], .br true]
    (c := rq [(1, decide (d < t) = true), ty ha, ty hb, (1, (!wa == wb) = true), ty g2]) (by kernel_rfl)
    (aq ⟨(dT hd), ha, hb, (not_t g1), g2, trivial⟩)
theorem vl23o_2 (kva kvb : List (PV × PV)) (out : List Int) (t d : Int) (wa wb : Bool) (ha : cc (ev X E0) 64 [AV.c (.mp 0), AV.int IntKind.i32 d] [.map kva] = some (AV.b wa, [.map kva])) (hb : cc (ev X E0) 64 [AV.c (.mp 0), AV.int IntKind.i32 d] [.map kvb] = some (AV.b wb, [.map kvb])) (hd : d < t) (g1 : (wa == wb) = true) :
    lv (cv (ev X E0) xf23_l0) (rl [4, 9, 0, 0, 0]) 2 (VS23 kva kvb (ownI out) t d) = lv (cv (ev X E0) xf23_l0) (rl [4, 9, 0, 0, 0]) 2 (St.mk (tmOf 58 [(4, AV.c (vw t)), (14, AV.c (.mp 0)), (15, AV.c (.mp 1)), (16, AV.c (.own 3647 1 (List.map i32P out))), (17, AV.c (vw (IntKind.wrap .i32 (d + 1))))]) [.map kva, .map kvb]) :=
  lv_next [.br true, .call (AV.c (.pv (.bool wa))) [.map kva], .call (AV.c (.pv (.bool wb))) [.map kvb], .br false]
    (c := rq [(1, decide (d < t) = true), ty ha, ty hb, (1, (!wa == wb) = false)]) (by kernel_rfl)
    (aq ⟨(dT hd), ha, hb, (not_f g1), trivial⟩)
theorem vl23nx_1 (kva kvb : List (PV × PV)) (t d : Int) (hd : ¬d < t) :
    lv (cv (ev X E0) xf23_l0) (rl [4, 9, 0, 0, 0]) 2 (VS23 kva kvb nilI t d) = some (XExit.exit 0, St.mk (tmOf 58 [(16, AV.c (.pv (.sl SO.nil 0 [])))]) [.map kva, .map kvb]) :=
  lv_exit [.br false]
    (c := [decide (d < t) = false]) (by kernel_rfl)
    ⟨(dF hd), trivial⟩
theorem vl23ox_1 (kva kvb : List (PV × PV)) (out : List Int) (t d : Int) (hd : ¬d < t) :
    lv (cv (ev X E0) xf23_l0) (rl [4, 9, 0, 0, 0]) 2 (VS23 kva kvb (ownI out) t d) = some (XExit.exit 0, St.mk (tmOf 58 [(16, AV.c (.own 3647 1 (List.map i32P out)))]) [.map kva, .map kvb]) :=
  lv_exit [.br false]
    (c := [decide (d < t) = false]) (by kernel_rfl)
    ⟨(dF hd), trivial⟩
theorem vg23n_1 (c : List Hol) (o : SO) (a b f t : Int) (kva kvb : List (PV × PV)) (h61 : cc (ev X E0) 61 [AV.sl o 3 (List.map Hol.pv c), AV.sl SO.full 1 [PV.int .i32 a, .int .i32 b, .int .i32 f, .int .i32 t]] [] = some (AV.i 0, [])) (h62 : cc (ev X E0) 62 [AV.int IntKind.i32 f, AV.int IntKind.i32 t] [] = some (AV.i 0, [])) (ha : cc (ev X E0) 63 [AV.sl o 3 (List.map Hol.pv c), AV.int IntKind.i32 a] [] = some (AV.c (.mp 0), [.map kva])) (hb : cc (ev X E0) 63 [AV.sl o 3 (List.map Hol.pv c), AV.int IntKind.i32 b] [] = some (AV.c (.mp 0), [.map kvb])) (hl : lv (cv (ev X E0) xf23_l0) (rl [4, 9, 0, 0, 0]) 2 (VS23 kva kvb nilI t f) = some (XExit.exit 0, St.mk (tmOf 58 [(16, AV.c nilI)]) [.map kva, .map kvb])) :
    cc (ev X E0) 23 [AV.c (.pv (.sl o 3 (List.map Hol.pv c))), AV.c (vw a), AV.c (vw b), AV.c (vw f), AV.c (vw t)] [] = some (AV.tup [AV.c (.pv (.sl SO.nil 0 [])), AV.c (vi 0)], []) :=
  cc_path (x := xf23) rfl [.call (AV.c (vi (0 : Int))) [], .br false, .call (AV.c (vi (0 : Int))) [], .br false, .call (AV.c (.mp 0)) [.map kva], .call (AV.c (.mp 0)) [.map kvb], .loop (XExit.exit 0) (St.mk (tmOf 58 [(16, AV.c (.pv (.sl SO.nil 0 [])))]) [.map kva, .map kvb])]
    (c := rq [ty h61, (1, false = false), ty h62, (1, false = false), ty ha, ty hb, ty hl]) (by kernel_rfl)
    (aq ⟨h61, rfl, h62, rfl, ha, hb, hl, trivial⟩)
theorem vg23o_1 (c : List Hol) (o : SO) (a b f t : Int) (out : List Int) (kva kvb : List (PV × PV)) (h61 : cc (ev X E0) 61 [AV.sl o 3 (List.map Hol.pv c), AV.sl SO.full 1 [PV.int .i32 a, .int .i32 b, .int .i32 f, .int .i32 t]] [] = some (AV.i 0, [])) (h62 : cc (ev X E0) 62 [AV.int IntKind.i32 f, AV.int IntKind.i32 t] [] = some (AV.i 0, [])) (ha : cc (ev X E0) 63 [AV.sl o 3 (List.map Hol.pv c), AV.int IntKind.i32 a] [] = some (AV.c (.mp 0), [.map kva])) (hb : cc (ev X E0) 63 [AV.sl o 3 (List.map Hol.pv c), AV.int IntKind.i32 b] [] = some (AV.c (.mp 0), [.map kvb])) (hl : lv (cv (ev X E0) xf23_l0) (rl [4, 9, 0, 0, 0]) 2 (VS23 kva kvb nilI t f) = some (XExit.exit 0, St.mk (tmOf 58 [(16, AV.c (ownI out))]) [.map kva, .map kvb])) :
    cc (ev X E0) 23 [AV.c (.pv (.sl o 3 (List.map Hol.pv c))), AV.c (vw a), AV.c (vw b), AV.c (vw f), AV.c (vw t)] [] = some (AV.tup [AV.c (.own 0 1 (List.map i32P out)), AV.c (vi 0)], []) :=
  cc_path (x := xf23) rfl [.call (AV.c (vi (0 : Int))) [], .br false, .call (AV.c (vi (0 : Int))) [], .br false, .call (AV.c (.mp 0)) [.map kva], .call (AV.c (.mp 0)) [.map kvb], .loop (XExit.exit 0) (St.mk (tmOf 58 [(16, AV.c (.own 3647 1 (List.map i32P out)))]) [.map kva, .map kvb])]
    (c := rq [ty h61, (1, false = false), ty h62, (1, false = false), ty ha, ty hb, ty hl]) (by kernel_rfl)
    (aq ⟨h61, rfl, h62, rfl, ha, hb, hl, trivial⟩)
end Go.Sx.Tryd
/- Days on which calendars differ: what comes. -/
namespace Go.Sx.Tryd
open Go Go.Sx
theorem all_app {P : Int → Prop} {l : List Int} {d : Int} (h : ∀ x ∈ l, P x) (hd : P d) : ∀ x ∈ l ++ [d], P x := fun x hx => by
  rcases List.mem_append.1 hx with h1 | h1
  · exact h x h1
  · rw [List.mem_singleton.1 h1]; exact hd
theorem va23o {hol : List Int} {kva kvb : List (PV × PV)} (ha : KVok hol kva) (hb : KVok hol kvb) {f t : Int} (hf : -50000 ≤ f) (ht : t ≤ 50000) : ∀ (n : Nat) (d : Int) (out : List Int), f ≤ d → d ≤ 60000 → t - d ≤ n → (out.length : Int) ≤ d - f → out ≠ [] → (∀ x ∈ out, f ≤ x ∧ x < t) →
    ∃ l : List Int, l ≠ [] ∧ l.length ≤ 200000 ∧ (∀ x ∈ l, f ≤ x ∧ x < t) ∧ lv (cv (ev X E0) xf23_l0) (rl [4, 9, 0, 0, 0]) 2 (VS23 kva kvb (ownI out) t d) = some (XExit.exit 0, St.mk (tmOf 58 [(16, AV.c (ownI l))]) [Box.map kva, Box.map kvb])
  | n, d, out, h1, h2, h3, h4, h5, h6 => by
    by_cases hd : d < t
    · cases n with
      | zero => omega
      | succ n =>
        have hdd : datOk d = true := dat_iff.2 (by omega)
        have qa := qs64 ha hdd
        have qb := qs64 hb hdd
        cases hw : (opn kva d == opn kvb d) with
        | false =>
          have st := vl23o_1 kva kvb out t d _ _ qa qb hd hw (by rw [List.length_map]; simp only [List.length_singleton]; omega)
          rw [w32h (by omega) (by omega)] at st
          rw [st, show List.map i32P out ++ [PV.int .i32 d] = List.map i32P (out ++ [d]) from by simp]
          exact va23o ha hb hf ht n (d + 1) (out ++ [d]) (by omega) (by omega) (by omega) (by rw [List.length_append, List.length_singleton]; omega) (by simp) (all_app h6 (by omega))
        | true =>
          have st := vl23o_2 kva kvb out t d _ _ qa qb hd hw
          rw [w32h (by omega) (by omega)] at st
          rw [st]
          exact va23o ha hb hf ht n (d + 1) out (by omega) (by omega) (by omega) (by omega) h5 h6
    · exact ⟨out, h5, by omega, h6, vl23ox_1 kva kvb out t d hd⟩
theorem va23n {hol : List Int} {kva kvb : List (PV × PV)} (ha : KVok hol kva) (hb : KVok hol kvb) {f t : Int} (hf : -50000 ≤ f) (ht : t ≤ 50000) : ∀ (n : Nat) (d : Int), f ≤ d → d ≤ 60000 → t - d ≤ n → (∀ x, f ≤ x → x < d → opn kva x = opn kvb x) →
    (lv (cv (ev X E0) xf23_l0) (rl [4, 9, 0, 0, 0]) 2 (VS23 kva kvb nilI t d) = some (XExit.exit 0, St.mk (tmOf 58 [(16, AV.c nilI)]) [Box.map kva, Box.map kvb]) ∧ ∀ x, f ≤ x → x < t → opn kva x = opn kvb x) ∨
    ∃ l : List Int, l ≠ [] ∧ l.length ≤ 200000 ∧ (∀ x ∈ l, f ≤ x ∧ x < t) ∧ lv (cv (ev X E0) xf23_l0) (rl [4, 9, 0, 0, 0]) 2 (VS23 kva kvb nilI t d) = some (XExit.exit 0, St.mk (tmOf 58 [(16, AV.c (ownI l))]) [Box.map kva, Box.map kvb])
  | n, d, h1, h2, h3, h6 => by
    by_cases hd : d < t
    · cases n with
      | zero => omega
      | succ n =>
        have hdd : datOk d = true := dat_iff.2 (by omega)
        have qa := qs64 ha hdd
        have qb := qs64 hb hdd
        cases hw : (opn kva d == opn kvb d) with
        | false =>
          have st := vl23n_1 kva kvb t d _ _ qa qb hd hw (by simp only [List.length_singleton]; omega)
          rw [w32h (by omega) (by omega)] at st
          right
          rw [st]
          exact va23o ha hb hf ht n (d + 1) [d] (by omega) (by omega) (by omega) (by simp only [List.length_singleton]; omega) (by simp) (fun x hx => by rw [List.mem_singleton.1 hx]; omega)
        | true =>
          have st := vl23n_2 kva kvb t d _ _ qa qb hd hw
          rw [w32h (by omega) (by omega)] at st
          rw [st]
          exact va23n ha hb hf ht n (d + 1) (by omega) (by omega) (by omega) fun x x1 x2 => by
            by_cases c : x = d
            · subst c; exact eq_of_beq hw
            · exact h6 x x1 (by omega)
    · exact .inl ⟨vl23nx_1 kva kvb t d hd, fun x x1 x2 => h6 x x1 (by omega)⟩
theorem vs23 (c : List Hol) (o : SO) (hc : c.length ≤ 1000) (a b f t : Int) (h19 : cc (ev X E0) 19 [AV.sl o 3 (c.map Hol.pv)] [] = some (.b true, [])) (hka : datOk a = true) (hkb : datOk b = true) (hf : -50000 ≤ f) (hft : f ≤ t) (ht : t ≤ 50000) (hfar : t - f ≤ 4000) {kva kvb : List (PV × PV)} (ha : KVok (c.map Hol.day) kva) (hb : KVok (c.map Hol.day) kvb)
    (qa : cc (ev X E0) 63 [AV.sl o 3 (c.map Hol.pv), AV.int .i32 a] [] = some (AV.c (.mp 0), [.map kva])) (qb : cc (ev X E0) 63 [AV.sl o 3 (c.map Hol.pv), AV.int .i32 b] [] = some (AV.c (.mp 0), [.map kvb])) :
    (cc (ev X E0) 23 [AV.sl o 3 (c.map Hol.pv), AV.int .i32 a, AV.int .i32 b, AV.int .i32 f, AV.int .i32 t] [] = some (.tup [.c nilI, .i 0], []) ∧ ∀ x, f ≤ x → x < t → opn kva x = opn kvb x) ∨
    ∃ l : List Int, l ≠ [] ∧ l.length ≤ 200000 ∧ (∀ x ∈ l, f ≤ x ∧ x < t) ∧ cc (ev X E0) 23 [AV.sl o 3 (c.map Hol.pv), AV.int .i32 a, AV.int .i32 b, AV.int .i32 f, AV.int .i32 t] [] = some (.tup [.c (.own 0 1 (l.map i32P)), .i 0], []) := by
  obtain ⟨e, h61, he⟩ := us61 c o hc [a, b, f, t] (by simp) h19
  have hF : datOk f = true := dat_iff.2 (by omega)
  have hT : datOk t = true := dat_iff.2 (by omega)
  have he0 : e = 0 := he.2 ⟨rfl, by simp [hka, hkb, hF, hT]⟩
  subst he0
  have h62 := vg62_3 f t (by rw [w32h (by omega) (by omega)]; omega) (by rw [w32h (by omega) (by omega)]; omega)
  rcases va23n ha hb hf ht 200000 f (by omega) (by omega) (by omega) (fun x x1 x2 => by omega) with ⟨hl, h⟩ | ⟨l, h1, h2, h3, hl⟩
  · exact .inl ⟨vg23n_1 c o a b f t kva kvb h61 h62 qa qb hl, h⟩
  · exact .inr ⟨l, h1, h2, h3, vg23o_1 c o a b f t l kva kvb h61 h62 qa qb hl⟩
end Go.Sx.Tryd
