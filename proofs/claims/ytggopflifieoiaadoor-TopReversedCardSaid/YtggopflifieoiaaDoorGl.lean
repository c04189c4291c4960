/- What the package variable 'money.currencies' holds when a law of this seat begins. -/
import Derived.Test.YtggopflifieoiaaDoorRows
import Derived.Test.YtggopflifieoiaaDoorSxArgs
import Derived.ProofKit
import Derived.LaidMore
import Derived.OpenShut
import Derived.Stop.Joined
namespace Go.Proofs.YtggopflifieoiaaDoor
open Go Go.Sx Go.ChangeShapes Go.WideShapes Go.ChangeAt Go.WideMaps Go.WideElems Go.RowKit
theorem gCur : Tryd.prog.globalNamed "cashbook/money.currencies" = some 2 := by kernel_rfl
theorem tCur : (Tryd.prog.globals[2]?).map (·.type) = some 203 := by kernel_rfl
theorem u165 : Tryd.prog.underlying 203 = some (.array 4 202) := by kernel_rfl
noncomputable def fs164 : Array Field := match Tryd.prog.underlying 202 with | some (.struct fs) => fs | _ => #[]
theorem u164 : Tryd.prog.underlying 202 = some (.struct fs164) := by kernel_rfl
theorem n164 : fs164.size = 3 := by kernel_rfl
noncomputable def fd (i : Nat) : Field := fs164.getD i default
theorem f0 : fs164[0]? = some (fd 0) := by kernel_rfl
theorem f1 : fs164[1]? = some (fd 1) := by kernel_rfl
theorem f2 : fs164[2]? = some (fd 2) := by kernel_rfl
theorem ut0 : Tryd.prog.underlying (fd 0).type = some .string := by kernel_rfl
theorem ut1 : Tryd.prog.underlying (fd 1).type = some (.int .i64) := by kernel_rfl
theorem ut2 : Tryd.prog.underlying (fd 2).type = some (.int .i64) := by kernel_rfl
theorem o0 : (fd 0).offset = 0 := by kernel_rfl
theorem o1 : (fd 1).offset = 1 := by kernel_rfl
theorem o2 : (fd 2).offset = 2 := by kernel_rfl
theorem c0 : Tryd.prog.cellsOf (fd 0).type = 1 := by kernel_rfl
theorem c1 : Tryd.prog.cellsOf (fd 1).type = 1 := by kernel_rfl
theorem c2 : Tryd.prog.cellsOf (fd 2).type = 1 := by kernel_rfl
theorem c164 : Tryd.prog.cellsOf 202 = 3 := by kernel_rfl
theorem c165 : Tryd.prog.cellsOf 203 = 12 := by kernel_rfl
abbrev laidB : List (String × DataW Unit) := [("cashbook/money.currencies", Rows.laid_cashbook_money_currencies)]
theorem len3 {α : Type} {l : List α} (h : l.length = 3) : ∃ a b c, l = [a, b, c] := by
  match l, h with
  | [a, b, c], _ => exact ⟨a, b, c, rfl⟩
theorem len4 {α : Type} {l : List α} (h : l.length = 4) : ∃ a b c d, l = [a, b, c, d] := by
  match l, h with
  | [a, b, c, d], _ => exact ⟨a, b, c, d, rfl⟩
theorem cur_of {H : Type} {enc : TypeId × Value → H} {w : World} {base : Nat} {spare : Nat → Bool} {held : Bool} {fuel : Nat} {l : List Value} {x : DataW H × List MemPlace} (h : DataW.trod enc Tryd.prog w base spare held fuel 202 l = some x) {s : List UInt8} {a b : Int}
    (hx : x.1 = .agg [.lit (.string s), .lit (.int .i64 a), .lit (.int .i64 b)]) : l = [.string ⟨s.toArray⟩, .int .i64 a, .int .i64 b] := by
  obtain ⟨xs, m, rfl, rfl, hl, hn, hf⟩ := DataW.trod_struct u164 h
  rw [n164] at hn
  rw [c164] at hl
  have h0 := hf 0 _ f0
  have h1 := hf 1 _ f1
  have h2 := hf 2 _ f2
  rw [o0, c0] at h0
  rw [o1, c1] at h1
  rw [o2, c2] at h2
  obtain ⟨x0, x1, x2, rfl⟩ := len3 hn
  obtain ⟨v0, v1, v2, rfl⟩ := len3 hl
  simp only [List.map_cons, List.map_nil, DataW.agg.injEq, List.cons.injEq, and_true] at hx
  obtain ⟨q0, q1, q2⟩ := hx
  obtain ⟨t, e1, e2, _⟩ := DataW.trod_string ut0 h0
  obtain ⟨n1, g1, g2, _⟩ := DataW.trod_int ut1 h1
  obtain ⟨n2, k1, k2, _⟩ := DataW.trod_int ut2 h2
  simp only [List.drop_zero, List.drop_succ_cons, List.take_succ_cons, List.take_zero, List.cons.injEq, and_true] at e1 g1 k1
  subst e1 g1 k1
  rw [e2] at q0
  rw [g2] at q1
  rw [k2] at q2
  simp only [DataW.lit.injEq, Lit.string.injEq, Lit.int.injEq, true_and] at q0 q1 q2
  subst q0 q1 q2
  rfl
theorem gok {W : World} (h : laidMetH Tryd.prog laidB W) : GOk W (fun _ => .none) := by
  rw [MakeChecks.laidMetH_plain _ _ _ (by kernel_rfl)] at h
  obtain ⟨ps, ⟨g0, t0, cs0, p0, q0, r0, hg0, ht0, hv0, hd0, _⟩, _⟩ := h
  obtain rfl := Option.some.inj (gCur.symm.trans hg0)
  obtain rfl := Option.some.inj (tCur.symm.trans ht0)
  obtain ⟨xs, m, rfl, hx, hl, hn, hel⟩ := DataW.trod_array u165 hd0
  rw [c165] at hl
  have h0 := hel 0 (by decide)
  have h1 := hel 1 (by decide)
  have h2 := hel 2 (by decide)
  have h3 := hel 3 (by decide)
  rw [c164] at h0 h1 h2 h3
  obtain ⟨x0, x1, x2, x3, rfl⟩ := len4 hn
  simp only [Rows.laid_cashbook_money_currencies, List.map_cons, List.map_nil, Prod.mk.injEq, DataW.agg.injEq, List.cons.injEq, and_true] at hx
  obtain ⟨⟨y0, y1, y2, y3⟩, _⟩ := hx
  have e0 := cur_of h0 y0.symm
  have e1 := cur_of h1 y1.symm
  have e2 := cur_of h2 y2.symm
  have e3 := cur_of h3 y3.symm
  have hcs : cs0.toList = [.string ⟨#[69, 85, 82]⟩, .int .i64 2, .int .i64 100, .string ⟨#[74, 80, 89]⟩, .int .i64 0, .int .i64 1, .string ⟨#[66, 72, 68]⟩, .int .i64 3, .int .i64 1000, .string ⟨#[85, 83, 68]⟩, .int .i64 2, .int .i64 100] := by
    have s0 : cs0.toList = cs0.toList.take 3 ++ ((cs0.toList.drop 3).take 3 ++ ((cs0.toList.drop 6).take 3 ++ (cs0.toList.drop 9).take 3)) := by
      have : (cs0.toList.drop 9).take 3 = cs0.toList.drop 9 := List.take_of_length_le (by rw [List.length_drop, hl]; decide)
      rw [this]
      have a2 : (cs0.toList.drop 6).take 3 ++ cs0.toList.drop 9 = cs0.toList.drop 6 := by rw [show cs0.toList.drop 9 = (cs0.toList.drop 6).drop 3 by rw [List.drop_drop]]; exact List.take_append_drop 3 _
      rw [a2]
      have a1 : (cs0.toList.drop 3).take 3 ++ cs0.toList.drop 6 = cs0.toList.drop 3 := by rw [show cs0.toList.drop 6 = (cs0.toList.drop 3).drop 3 by rw [List.drop_drop]]; exact List.take_append_drop 3 _
      rw [a1]
      exact (List.take_append_drop 3 _).symm
    rw [s0]
    simp only [Nat.zero_mul, Nat.one_mul, List.drop_zero, show 2 * 3 = 6 from rfl, show 3 * 3 = 9 from rfl] at e0 e1 e2 e3
    rw [e0, e1, e2, e3]
    rfl
  refine ⟨fun g cells hg => ?_⟩
  simp only [globs] at hg
  split at hg
  · rename_i g0
    subst g0
    cases hg
    refine ⟨fun j => (cs0[j]?).getD Go.undef, fun j c hj => ?_⟩
    have hcell := fun j => World.var?_cell gCur hv0 j
    have hr : All2 (RP W (fun _ => .none)) [.str [69, 85, 82], .int .i64 2, .int .i64 100, .str [74, 80, 89], .int .i64 0, .int .i64 1, .str [66, 72, 68], .int .i64 3, .int .i64 1000, .str [85, 83, 68], .int .i64 2, .int .i64 100] cs0.toList := by
      rw [hcs]
      exact All2.cons (.str _) (All2.cons (.int _ _) (All2.cons (.int _ _) (All2.cons (.str _) (All2.cons (.int _ _) (All2.cons (.int _ _) (All2.cons (.str _) (All2.cons (.int _ _) (All2.cons (.int _ _) (All2.cons (.str _) (All2.cons (.int _ _) (All2.cons (.int _ _) All2.nil)))))))))))
    obtain ⟨u, hu, hru⟩ := hr.get hj
    have hu' : cs0[j]? = some u := by simpa using hu
    refine ⟨?_, fun L hL => (by cases hL), ?_⟩
    · rw [Nat.zero_add, hcell, hu']; simp only [hu', Option.getD_some]
    · simp only [hu', Option.getD_some]; exact hru
  · cases hg
end Go.Proofs.YtggopflifieoiaaDoor
