/- Holds: what is taken of one. -/
import Derived.Test.YtggopflifieoiaaDoorW2
namespace Go.Sx.Tryd
open Go Go.Sx
def live (x : Hd) (now : Int) : Bool := !x.done && decide (x.made ≤ now ∧ now ≤ x.till)
def restOf (x : Hd) (now : Int) : Int := if live x now = true then x.minor - x.taken else 0
theorem ts28 {x : Hd} (h : HdR x) (now : Int) : cc (ev X E0) 28 [Hd.av x, AV.int .i32 now] [] = some (.b (live x now), []) := by
  have h70 := ts70t h
  unfold live
  rcases bcase x.done with c | c
  · rw [tg28_3 x now true h70 rfl c, c]; rfl
  · by_cases c2 : now ≥ x.made
    · rw [tg28_1 x now true h70 rfl c c2, c]
      simp only [Bool.not_false, Bool.true_and]
      congr 5; rw [Bool.eq_iff_iff]; simp; omega
    · rw [tg28_2 x now true h70 rfl c c2, c, decide_eq_false (by omega)]; rfl
theorem minor_le {x : Hd} (h : HdR x) : x.minor ≤ 1000000000000000 := by
  have := h.mon
  simp only [Bool.and_eq_true, minOk, decide_eq_true_eq] at this
  omega
theorem ts29 {x : Hd} (h : HdR x) (now : Int) : cc (ev X E0) 29 [Hd.av x, AV.int .i32 now] [] = some (.i (restOf x now), []) := by
  have h28 := ts28 h now
  have hm := minor_le h
  have := h.tak
  unfold restOf
  rcases bcase (live x now) with c | c
  · rw [tg29_2 x now _ h28 c, c, if_pos rfl, wi64 (by omega) (by omega)]
  · rw [tg29_1 x now _ h28 c, c]; rfl
def tkn (x : Hd) (m : Int) (last : Bool) : Hd := { x with taken := x.taken + m, done := last || decide (x.taken + m = x.minor) }
def takes (x : Hd) (m now : Int) : Bool := live x now && decide (1 ≤ m ∧ m ≤ x.minor - x.taken)
theorem tkn_ok {x : Hd} (h : HdR x) {m : Int} (h1 : 1 ≤ m) (h2 : m ≤ x.minor - x.taken) (last : Bool) : HdR (tkn x m last) :=
  ⟨h.id, h.acc, h.rank, h.pos, h.mon, ⟨by have := h.tak; show 0 ≤ x.taken + m; omega, by show x.taken + m ≤ x.minor; omega⟩, h.made, h.till, h.le⟩
theorem ts68 {x : Hd} (h : HdR x) (o : SO) : cc (ev X E0) 68 [AV.sl o 9 [Hd.pv x]] [] = some (.i 0, []) := by
  have h70 := ts70t h
  have h109 : cc (ev X E0) 109 [Hd.av x] [] = some (.b false, []) := tg109_1 x true h70
  exact tg68_1 x o (tg110_1 x o (tg131_1 x o ((tl131a_1 x o h109).trans (tl131b_1 x o)))) (tl68_1 x o)
theorem ts112 (x : Hd) : cc (ev X E0) 112 [Hd.av x, AV.i x.id] [] = some (.i 0, []) := by
  have h132 : cc (ev X E0) 132 [AV.i x.id] [] = some (.b false, []) := by rw [tg132_1]; simp
  exact tg112_1 x x.id (tg113_3 x.id x.id h132 h132 (by omega) (by omega))
theorem ts69 (x : Hd) (o : SO) : cc (ev X E0) 69 [AV.sl o 9 [Hd.pv x], AV.i x.id] [] = some (.tup [.i 0, .b true], []) :=
  tg69_1 x o x.id (tg111_1 x o x.id (ts112 x) ((tl111a_1 x o x.id (ts112 x)).trans (tl111b_1 x o x.id)))
theorem ts26 {x : Hd} (h : HdR x) (m now : Int) (hm : 0 ≤ m ∧ m ≤ 100000) (last : Bool) :
    (takes x m now = true → cc (ev X E0) 26 [AV.sl .shut 9 [Hd.pv x], AV.i x.id, AV.agg [.pv (.int .i64 x.cur), .pv (.int .i64 m)], AV.int .i32 now, AV.b last] [] = some (.tup [AV.c (CV.pv (PV.sl .shut 9 [Hd.pv (tkn x m last)])), .i 0], [])) ∧
    (takes x m now = false → ∃ e, ¬ e = 0 ∧ cc (ev X E0) 26 [AV.sl .shut 9 [Hd.pv x], AV.i x.id, AV.agg [.pv (.int .i64 x.cur), .pv (.int .i64 m)], AV.int .i32 now, AV.b last] [] = some (.tup [AV.c (CV.pv (PV.sl .nil 0 [])), .i e], [])) := by
  have h28 := ts28 h now
  have h29 := ts29 h now
  have h68 := ts68 h .shut
  have h69 := ts69 x .shut
  have hcur : curOk x.cur = true := by have := h.mon; simp only [Bool.and_eq_true] at this; exact this.1
  have h30 : cc (ev X E0) 30 [AV.agg [.pv (.int .i64 x.cur), .pv (.int .i64 m)]] [] = some (.b true, []) := by
    rw [s82, hcur]
    have : minOk m = true := by simp only [minOk, decide_eq_true_eq]; omega
    rw [this]; rfl
  have h72 := tg72_1 x (by simp only [List.length_cons, List.length_nil]; omega)
  have hw := minor_le h
  have ht := h.tak
  unfold takes
  rcases bcase (live x now) with c | c
  · have hr : restOf x now = x.minor - x.taken := by unfold restOf; rw [if_pos c]
    by_cases c1 : m ≤ 0
    · refine ⟨fun hh => ?_, fun _ => ⟨_, by decide, tg26_3 x x.cur m now _ last _ _ h68 h69 h28 h30 h29 h72 rfl c rfl c1⟩⟩
      rw [c] at hh; simp only [Bool.true_and, decide_eq_true_eq] at hh; omega
    · by_cases c2 : m > restOf x now
      · refine ⟨fun hh => ?_, fun _ => ⟨_, by decide, tg26_4 x x.cur m now _ last _ _ h68 h69 h28 h30 h29 h72 rfl c rfl c1 c2⟩⟩
        rw [c] at hh; simp only [Bool.true_and, decide_eq_true_eq] at hh; omega
      · refine ⟨fun _ => ?_, fun hh => ?_⟩
        · have hwr : IntKind.wrap .i64 (x.taken + m) = x.taken + m := wi64 (by omega) (by omega)
          rcases bcase last with l | l
          · subst l
            have := tg26_5 x x.cur m now _ true _ _ h68 h69 h28 h30 h29 h72 rfl _ c rfl c1 c2 rfl rfl rfl (frz_all rfl rfl)
            rw [hwr] at this
            exact this
          · subst l
            have := tg26_6 x x.cur m now _ false _ _ h68 h69 h28 h30 h29 h72 rfl _ c rfl c1 c2 rfl rfl rfl (frz_all rfl rfl)
            rw [hwr] at this
            exact this
        · rw [c] at hh; simp only [Bool.true_and, decide_eq_false_iff_not] at hh; omega
  · refine ⟨fun hh => ?_, fun _ => ⟨_, by decide, tg26_1 x x.cur m now _ last _ _ h68 h69 h28 h30 h29 h72 rfl c⟩⟩
    rw [c] at hh; simp at hh
end Go.Sx.Tryd
