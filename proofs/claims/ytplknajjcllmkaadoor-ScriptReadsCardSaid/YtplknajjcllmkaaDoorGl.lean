/- What the package variable 'script.tells' holds when a law of this seat begins. -/
import Derived.Test.YtplknajjcllmkaaDoorRows
import Derived.Test.YtplknajjcllmkaaDoorSxArgs
import Derived.ProofKit
import Derived.LaidMore
import Derived.OpenShut
import Derived.Stop.Joined
namespace Go.Proofs.YtplknajjcllmkaaDoor
open Go Go.Sx Go.ChangeShapes Go.WideShapes Go.ChangeAt Go.WideMaps Go.WideElems Go.RowKit
theorem gCur : Tryd.prog.globalNamed "cashbook/script.tells" = some 0 := by kernel_rfl
theorem tCur : (Tryd.prog.globals[0]?).map (·.type) = some 174 := by kernel_rfl
theorem u174 : Tryd.prog.underlying 174 = some (.array 11 3) := by kernel_rfl
theorem u3 : Tryd.prog.underlying 3 = some (.int .i64) := by kernel_rfl
theorem k3 : Tryd.prog.cellsOf 3 = 1 := by kernel_rfl
theorem k174 : Tryd.prog.cellsOf 174 = 11 := by kernel_rfl
abbrev laidB : List (String × DataW Unit) := [("cashbook/script.tells", Rows.laid_cashbook_script_tells)]
theorem len11 {α : Type} {l : List α} (h : l.length = 11) : ∃ c0 c1 c2 c3 c4 c5 c6 c7 c8 c9 c10, l = [c0, c1, c2, c3, c4, c5, c6, c7, c8, c9, c10] := by
  match l, h with
  | [c0, c1, c2, c3, c4, c5, c6, c7, c8, c9, c10], _ => exact ⟨c0, c1, c2, c3, c4, c5, c6, c7, c8, c9, c10, rfl⟩
theorem int_of {H : Type} {enc : TypeId × Value → H} {w : World} {base : Nat} {spare : Nat → Bool} {held : Bool} {fuel : Nat} {c : Value} {x : DataW H × List MemPlace} (h : DataW.trod enc Tryd.prog w base spare held fuel 3 [c] = some x) {a : Int} (hx : x.1 = .lit (.int .i64 a)) : c = .int .i64 a := by
  obtain ⟨n, g1, g2, _⟩ := DataW.trod_int u3 h
  simp only [List.cons.injEq, and_true] at g1
  subst g1
  rw [g2] at hx
  simp only [DataW.lit.injEq, Lit.int.injEq, true_and] at hx
  rw [hx]
theorem gok {W : World} (h : laidMetH Tryd.prog laidB W) : GOk W (fun _ => .none) := by
  rw [MakeChecks.laidMetH_plain _ _ _ (by kernel_rfl)] at h
  obtain ⟨ps, ⟨g0, t0, cs0, p0, q0, r0, hg0, ht0, hv0, hd0, _⟩, _⟩ := h
  obtain rfl := Option.some.inj (gCur.symm.trans hg0)
  obtain rfl := Option.some.inj (tCur.symm.trans ht0)
  obtain ⟨xs, m, rfl, hx, hl, hn, hel⟩ := DataW.trod_array u174 hd0
  rw [k174] at hl
  obtain ⟨c0, c1, c2, c3, c4, c5, c6, c7, c8, c9, c10, hcl⟩ := len11 hl
  obtain ⟨x0, x1, x2, x3, x4, x5, x6, x7, x8, x9, x10, rfl⟩ := len11 hn
  rw [k3, hcl] at hel
  simp only [Rows.laid_cashbook_script_tells, List.map_cons, List.map_nil, Prod.mk.injEq, DataW.agg.injEq, List.cons.injEq, and_true] at hx
  obtain ⟨⟨y0, y1, y2, y3, y4, y5, y6, y7, y8, y9, y10⟩, _⟩ := hx
  have e0 := int_of (c := c0) (hel 0 (by decide)) y0.symm
  have e1 := int_of (c := c1) (hel 1 (by decide)) y1.symm
  have e2 := int_of (c := c2) (hel 2 (by decide)) y2.symm
  have e3 := int_of (c := c3) (hel 3 (by decide)) y3.symm
  have e4 := int_of (c := c4) (hel 4 (by decide)) y4.symm
  have e5 := int_of (c := c5) (hel 5 (by decide)) y5.symm
  have e6 := int_of (c := c6) (hel 6 (by decide)) y6.symm
  have e7 := int_of (c := c7) (hel 7 (by decide)) y7.symm
  have e8 := int_of (c := c8) (hel 8 (by decide)) y8.symm
  have e9 := int_of (c := c9) (hel 9 (by decide)) y9.symm
  have e10 := int_of (c := c10) (hel 10 (by decide)) y10.symm
  subst e0 e1 e2 e3 e4 e5 e6 e7 e8 e9 e10
  refine ⟨fun g cells hg => ?_⟩
  simp only [globs] at hg
  split at hg
  · rename_i g0
    subst g0
    cases hg
    refine ⟨fun j => (cs0[j]?).getD Go.undef, fun j c hj => ?_⟩
    have hcell := fun j => World.var?_cell gCur hv0 j
    have hr : All2 (RP W (fun _ => .none)) [.int .i64 1, .int .i64 2, .int .i64 516, .int .i64 2048, .int .i64 112, .int .i64 8, .int .i64 900, .int .i64 1160, .int .i64 8, .int .i64 1536, .int .i64 0] cs0.toList := by
      rw [hcl]
      exact All2.cons (.int _ _) (All2.cons (.int _ _) (All2.cons (.int _ _) (All2.cons (.int _ _) (All2.cons (.int _ _) (All2.cons (.int _ _) (All2.cons (.int _ _) (All2.cons (.int _ _) (All2.cons (.int _ _) (All2.cons (.int _ _) (All2.cons (.int _ _) All2.nil))))))))))
    obtain ⟨u, hu, hru⟩ := hr.get hj
    have hu' : cs0[j]? = some u := by simpa using hu
    refine ⟨?_, fun L hL => (by cases hL), ?_⟩
    · rw [Nat.zero_add, hcell, hu']; simp only [hu', Option.getD_some]
    · simp only [hu', Option.getD_some]; exact hru
  · cases hg
end Go.Proofs.YtplknajjcllmkaaDoor
