/- Whether acts are gone through: paths. -/
import Derived.Test.YtplknajjcllmkaaDoorD5
import Derived.Test.YtplknajjcllmkaaDoorN1d
namespace Go.Sx.Tryd
open Go Go.Sx
abbrev S30a (l : List Act) (o : SO) (i : Int) : St := St.mk (tmOf 20 [(8, AV.c (CV.pv (PV.sl o 11 (List.map Act.pv l)))), (9, AV.c (CV.pv (PV.int IntKind.i64 (↑(List.length (List.map Act.pv l)) : Int)))), (10, AV.c (CV.pv (PV.int IntKind.i64 i)))]) []
theorem dl30e_1 (l : List Act) (o : SO) (i : Nat) (hlt : ¬(↑i : Int) < (↑(List.length (List.map Act.pv l)) : Int)) :
    lv (cv (ev X E0) xf30_l0) (rl [8, 0, 0]) 0 (S30a l o (↑i : Int)) = some (XExit.exit 0, St.mk (tmOf 20 []) []) :=
  lv_exit [.br false]
    (c := [decide ((↑i : Int) < (↑(List.length (List.map Act.pv l)) : Int)) = false]) (by kernel_rfl)
    ⟨(dF hlt), trivial⟩
theorem dl30_1 (l : List Act) (o : SO) (i : Nat) (y : Act) (hy : l[i]? = some y) (hlt : (↑i : Int) < (↑(List.length (List.map Act.pv l)) : Int)) (f : Bool) (h12 : cc (ev X E0) 12 [AV.c (.pv (.sl SO.full 7 [Post.pv (Act.p y)]))] [] = some (AV.b f, [])) (g1 : f = false) :
    lv (cv (ev X E0) xf30_l0) (rl [8, 0, 0]) 0 (S30a l o (↑i : Int)) = some (XExit.ret, St.mk (tmOf 20 [(2, AV.c (.pv (.bool false)))]) [.cells [vi (Act.dod y), vi (Act.id y), vi (Post.id (Act.p y)), vw (Post.known (Act.p y)), vw (Post.value (Act.p y)), .pv (.sl (Post.so (Act.p y)) 3 (List.map Leg.pv (Post.legs (Act.p y)))), vi (Post.rev (Act.p y)), vi (Post.kind (Act.p y)), .pv (.str (Post.memo (Act.p y))), vw (Act.known y), vw (Act.value y)]]) :=
  lv_ret [.br true, .el (.agg [PV.int .i64 (Act.dod y), .int .i64 (Act.id y), .int .i64 (Post.id (Act.p y)), .int .i32 (Post.known (Act.p y)), .int .i32 (Post.value (Act.p y)), .sl (Post.so (Act.p y)) 3 (List.map Leg.pv (Post.legs (Act.p y))), .int .i64 (Post.rev (Act.p y)), .int .i64 (Post.kind (Act.p y)), .str (Post.memo (Act.p y)), .int .i32 (Act.known y), .int .i32 (Act.value y)]), .call (AV.c (.pv (.bool f))) [], .br true]
    (c := rq [(1, decide ((↑i : Int) < (↑(List.length (List.map Act.pv l)) : Int)) = true), (1, 0 ≤ (↑i : Int)), (1, (List.map Act.pv l)[i]? = some (PV.agg [PV.int .i64 (Act.dod y), .int .i64 (Act.id y), .int .i64 (Post.id (Act.p y)), .int .i32 (Post.known (Act.p y)), .int .i32 (Post.value (Act.p y)), .sl (Post.so (Act.p y)) 3 (List.map Leg.pv (Post.legs (Act.p y))), .int .i64 (Post.rev (Act.p y)), .int .i64 (Post.kind (Act.p y)), .str (Post.memo (Act.p y)), .int .i32 (Act.known y), .int .i32 (Act.value y)])), ty h12, (1, (!f) = true)]) (by kernel_rfl)
    (aq ⟨(dT hlt), (Int.natCast_nonneg _), (map_at hy), h12, (not_t g1), trivial⟩)
theorem dl30_2 (l : List Act) (o : SO) (i : Nat) (y : Act) (hy : l[i]? = some y) (hlt : (↑i : Int) < (↑(List.length (List.map Act.pv l)) : Int)) (f : Bool) (h12 : cc (ev X E0) 12 [AV.c (.pv (.sl SO.full 7 [Post.pv (Act.p y)]))] [] = some (AV.b f, [])) (g1 : f = true) :
    lv (cv (ev X E0) xf30_l0) (rl [8, 0, 0]) 0 (S30a l o (↑i : Int)) = lv (cv (ev X E0) xf30_l0) (rl [8, 0, 0]) 0 (St.mk (tmOf 20 [(8, AV.c (.pv (.sl o 11 (List.map Act.pv l)))), (9, AV.c (vi (↑(List.length (List.map Act.pv l)) : Int))), (10, AV.c (vi (IntKind.wrap .i64 ((↑i : Int) + 1))))]) []) :=
  lv_next [.br true, .el (.agg [PV.int .i64 (Act.dod y), .int .i64 (Act.id y), .int .i64 (Post.id (Act.p y)), .int .i32 (Post.known (Act.p y)), .int .i32 (Post.value (Act.p y)), .sl (Post.so (Act.p y)) 3 (List.map Leg.pv (Post.legs (Act.p y))), .int .i64 (Post.rev (Act.p y)), .int .i64 (Post.kind (Act.p y)), .str (Post.memo (Act.p y)), .int .i32 (Act.known y), .int .i32 (Act.value y)]), .call (AV.c (.pv (.bool f))) [], .br false]
    (c := rq [(1, decide ((↑i : Int) < (↑(List.length (List.map Act.pv l)) : Int)) = true), (1, 0 ≤ (↑i : Int)), (1, (List.map Act.pv l)[i]? = some (PV.agg [PV.int .i64 (Act.dod y), .int .i64 (Act.id y), .int .i64 (Post.id (Act.p y)), .int .i32 (Post.known (Act.p y)), .int .i32 (Post.value (Act.p y)), .sl (Post.so (Act.p y)) 3 (List.map Leg.pv (Post.legs (Act.p y))), .int .i64 (Post.rev (Act.p y)), .int .i64 (Post.kind (Act.p y)), .str (Post.memo (Act.p y)), .int .i32 (Act.known y), .int .i32 (Act.value y)])), ty h12, (1, (!f) = false)]) (by kernel_rfl)
    (aq ⟨(dT hlt), (Int.natCast_nonneg _), (map_at hy), h12, (not_f g1), trivial⟩)
abbrev Dk.cs (d : Dk) : List CV := [CV.pv (PV.sl d.o d.s (List.map Post.pv d.b)), CV.pv (PV.sl d.q d.t (List.map Rd.pv d.r)), CV.pv (PV.int .i64 d.nx)]
theorem df30x_1 (l : List Act) (o : SO) (h : (↑(List.length (List.map Act.pv l)) : Int) > 40) :
    cc (ev X E0) 30 [AV.c (.pv (.sl o 11 (List.map Act.pv l)))] [] = some (AV.c (.pv (.bool false)), []) :=
  cc_path (x := xf30) rfl [.br true]
    (c := [decide ((↑(List.length (List.map Act.pv l)) : Int) > 40) = true]) (by kernel_rfl)
    ⟨(dT h), trivial⟩
theorem df30_2 (l : List Act) (o : SO) (h : lv (cv (ev X E0) xf30_l0) (rl [8, 0, 0]) 0 (S30a l o 0) = some (XExit.exit 0, St.mk (tmOf 20 []) [])) (g1 : ¬(↑(List.length (List.map Act.pv l)) : Int) > 40) :
    cc (ev X E0) 30 [AV.c (.pv (.sl o 11 (List.map Act.pv l)))] [] = some (AV.c (.pv (.bool true)), []) :=
  cc_path (x := xf30) rfl [.br false, .loop (XExit.exit (0 : Nat)) (St.mk (tmOf (20 : Nat) []) [])]
    (c := rq [(1, decide ((↑(List.length (List.map Act.pv l)) : Int) > 40) = false), ty h]) (by kernel_rfl)
    (aq ⟨(dF g1), h, trivial⟩)
theorem df30r_2 (l : List Act) (o : SO) (a : Act) (h : lv (cv (ev X E0) xf30_l0) (rl [8, 0, 0]) 0 (S30a l o 0) = some (XExit.ret, St.mk (tmOf 20 [(2, AV.c (.pv (.bool false)))]) [.cells (Act.cs a)])) (g1 : ¬(↑(List.length (List.map Act.pv l)) : Int) > 40) :
    cc (ev X E0) 30 [AV.c (.pv (.sl o 11 (List.map Act.pv l)))] [] = some (AV.c (.pv (.bool false)), []) :=
  cc_path (x := xf30) rfl [.br false, .loop XExit.ret (St.mk (tmOf 20 [(2, AV.c (.pv (.bool false)))]) [.cells [vi (Act.dod a), vi (Act.id a), vi (Post.id (Act.p a)), vw (Post.known (Act.p a)), vw (Post.value (Act.p a)), .pv (.sl (Post.so (Act.p a)) 3 (List.map Leg.pv (Post.legs (Act.p a)))), vi (Post.rev (Act.p a)), vi (Post.kind (Act.p a)), .pv (.str (Post.memo (Act.p a))), vw (Act.known a), vw (Act.value a)]])]
    (c := rq [(1, decide ((↑(List.length (List.map Act.pv l)) : Int) > 40) = false), ty h]) (by kernel_rfl)
    (aq ⟨(dF g1), h, trivial⟩)
end Go.Sx.Tryd
/- Acts that are handed in. -/
namespace Go.Sx.Tryd
open Go Go.Sx
abbrev ctA : List CT := [.int .i64, .int .i64, .int .i64, .int .i32, .int .i32, .sl ctL, .int .i64, .int .i64, .str, .int .i32, .int .i32]
theorem act_inv {e : PV} (h1 : e.cells.length = 11) (h2 : e = .agg e.cells) (h3 : ∀ (i : Nat) (c : CT) (p : PV), ctA[i]? = some c → e.cells[i]? = some p → WT c p) : ∃ a : Act, (a.p.so = .nil → a.p.legs = []) ∧ e = a.pv := by
  match hc : e.cells, h1 with
  | [c0, c1, c2, c3, c4, c5, c6, c7, c8, c9, c10], _ =>
    rw [hc] at h2 h3
    obtain ⟨n0, _, _, rfl⟩ := i64_inv (h3 0 _ c0 rfl rfl)
    obtain ⟨n1, _, _, rfl⟩ := i64_inv (h3 1 _ c1 rfl rfl)
    obtain ⟨n2, _, _, rfl⟩ := i64_inv (h3 2 _ c2 rfl rfl)
    obtain ⟨n3, _, _, rfl⟩ := i32_inv (h3 3 _ c3 rfl rfl)
    obtain ⟨n4, _, _, rfl⟩ := i32_inv (h3 4 _ c4 rfl rfl)
    obtain ⟨o, l, rfl, hl, ho⟩ := legs_inv (h3 5 _ c5 rfl rfl)
    obtain ⟨n6, _, _, rfl⟩ := i64_inv (h3 6 _ c6 rfl rfl)
    obtain ⟨n7, _, _, rfl⟩ := i64_inv (h3 7 _ c7 rfl rfl)
    obtain ⟨s, rfl, _⟩ := str_inv (h3 8 _ c8 rfl rfl)
    obtain ⟨n9, _, _, rfl⟩ := i32_inv (h3 9 _ c9 rfl rfl)
    obtain ⟨n10, _, _, rfl⟩ := i32_inv (h3 10 _ c10 rfl rfl)
    exact ⟨⟨n0, n1, ⟨n2, n3, n4, o, l, n6, n7, s⟩, n9, n10⟩, ho, h2⟩
theorem acts_inv {x : PV} (h : WT (.sl ctA) x) : ∃ (o : SO) (l : List Act), x = .sl o 11 (l.map Act.pv) ∧ ∀ a ∈ l, a.p.so = .nil → a.p.legs = [] := by
  rcases sl_inv h with rfl | ⟨es, rfl, _, hs, hc⟩
  · exact ⟨.nil, [], rfl, by simp⟩
  · obtain ⟨l, hl, rfl⟩ := list_of (f := Act.pv) (Q := fun a => a.p.so = .nil → a.p.legs = []) fun e he => act_inv (hs e he).1 ((hs e he).2.2 (by simp)) (hc e he)
    exact ⟨.shut, l, rfl, hl⟩
end Go.Sx.Tryd
/- What desks that are come by have. -/
namespace Go.Sx.Tryd
open Go Go.Sx
def fitsA (l : List Act) : Bool := decide (l.length ≤ 40) && l.all fun a => fits a.p
theorem lenA (l : List Act) : (((l.map Act.pv).length : Nat) : Int) = l.length := by rw [List.length_map]
theorem ltA {l : List Act} {i : Nat} (h : i < l.length) : (i : Int) < (((l.map Act.pv).length : Nat) : Int) := by rw [List.length_map]; omega
theorem a30 {l : List Act} {o : SO} (hl : l.length ≤ 1000) : lv (cv (ev X E0) xf30_l0) (rl [8, 0, 0]) 0 (S30a l o 0) = some ((l.find? (fun a => !fits a.p)).elim (XExit.exit 0, St.mk (tmOf 20 []) []) (fun a => (XExit.ret, St.mk (tmOf 20 [(2, AV.c (CV.pv (PV.bool false)))]) [Box.cells (Act.cs a)]))) := by
  have h12 : ∀ (p : Post), cc (ev X E0) 12 [AV.c (CV.pv (PV.sl .full 7 [Post.pv p]))] [] = some (.b (fits p), []) := fun p => by
    have := s15 [p] .full
    have e : fitsAll [p] = fits p := by simp [fitsAll]
    rw [e] at this
    exact this
  refine lv_find (l := l) (w := fun a => !fits a.p) (S30a l o) (dl30e_1 l o l.length (by simp)) (fun i y hat hlt hw => ?_) fun i y hat hlt hw => ?_
  · have hf : fits y.p = false := by simpa using hw
    exact dl30_1 l o i y hat (ltA hlt) _ (h12 y.p) hf
  · have hf : fits y.p = true := by simpa using hw
    have := dl30_2 l o i y hat (ltA hlt) _ (h12 y.p) hf
    rwa [wi64 (by omega) (by omega)] at this
theorem s30 (l : List Act) (o : SO) : cc (ev X E0) 30 [AV.sl o 11 (l.map Act.pv)] [] = some (.b (fitsA l), []) := by
  by_cases c : l.length ≤ 40
  · have h := a30 (l := l) (o := o) (by omega)
    cases hf : l.find? (fun a => !fits a.p) with
    | none =>
      rw [hf] at h
      have e : fitsA l = true := by
        simp only [fitsA, Bool.and_eq_true, decide_eq_true_eq, List.all_eq_true]
        exact ⟨c, fun a ha => by simpa using find_none hf a ha⟩
      rw [e]
      exact df30_2 l o h (by rw [lenA]; omega)
    | some a =>
      rw [hf] at h
      have ha := List.find?_some hf
      have e : fitsA l = false := by
        have hm := List.mem_of_find?_eq_some hf
        simp only [fitsA, Bool.and_eq_false_iff]
        exact .inr (List.all_eq_false.2 ⟨a, hm, by simpa using ha⟩)
      rw [e]
      exact df30r_2 l o a h (by rw [lenA]; omega)
  · have e : fitsA l = false := by simp [fitsA, c]
    rw [e]
    exact df30x_1 l o (by rw [lenA]; omega)
theorem fitsA_nice {l : List Act} (h : fitsA l = true) (hw : ∀ a ∈ l, a.p.so = .nil → a.p.legs = []) : l.length ≤ 40 ∧ ∀ a ∈ l, Nice a.p := by
  simp only [fitsA, Bool.and_eq_true, decide_eq_true_eq, List.all_eq_true] at h
  exact ⟨h.1, fun a ha => fits_nice (h.2 a ha) (hw a ha)⟩
theorem has_eq {d : Dk} (h : deskB d = true) {z : Rd} (hz : z ∈ d.r) : hasL d z.id = (d.b.take z.sees.toNat).filter (within z.known z.value) ∧ fdE d z.id = 0 ∧ 0 ≤ z.sees ∧ z.sees ≤ d.b.length := by
  obtain ⟨r1, r2, r3, r4, r5⟩ := desk_right h
  obtain ⟨s1, s2, _⟩ := rd_sees r5 (by decide) z hz
  refine ⟨by unfold hasL; rw [rd_place r5 hz], ?_, s1, s2⟩
  unfold fdE
  rw [if_pos h, if_pos (there_iff.2 ⟨z, hz, rfl⟩)]
theorem sames_refl : ∀ (l : List Post), samesB l l = true := by
  intro l
  unfold samesB
  rw [decide_eq_true rfl, Bool.true_and, Bool.not_eq_true']
  induction l with
  | nil => rfl
  | cons p l ih => rw [List.zip_cons_cons, List.any_cons, same_refl, ih]; rfl
theorem new_gd : ∃ d0 : Dk, Gd d0 0 ∧ cc (ev X E0) 20 [Bk .nil 0 []] [] = some (.tup [Dv d0.b d0.o d0.s d0.r d0.q d0.t d0.nx, .i 0], []) := by
  obtain ⟨d', w, h, p, _⟩ := sNew (l := []) (o := .nil) (s := 0) rfl (fun _ => rfl) (by simp) (by simp)
  obtain ⟨p1, p2, p3⟩ := p rfl
  refine ⟨d', ⟨w, ?_, ?_, ?_, ?_, ?_⟩, h⟩
  · unfold deskB; rw [p1, p2, p3]; rfl
  · rw [p1]; exact sh_shut []
  · rw [p1]; simp
  · rw [p1]; simp
  · rw [p3]; decide
theorem op_err {d : Dk} {n : Nat} (h : Gd d n) (hn : n ≤ 1000) (k v : Int) : opE d k v = 0 ∨ opE d k v = 11 ∨ opE d k v = 6 := by
  unfold opE
  rw [if_pos h.desk]
  by_cases c2 : (datOk k && datOk v) = true
  · rw [if_pos c2]
    by_cases c3 : d.r.length = 16
    · rw [if_pos c3]; exact .inr (.inr rfl)
    · rw [if_neg c3, if_neg (by have := h.nl; omega)]; exact .inl rfl
  · rw [if_neg c2]; exact .inr (.inl rfl)
end Go.Sx.Tryd
