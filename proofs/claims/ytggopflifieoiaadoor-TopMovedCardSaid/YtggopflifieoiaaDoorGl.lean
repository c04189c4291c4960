/- What the package variables that a law of this seat lists hold when it begins: money.currencies, date.before, order.words. -/
import Derived.Test.YtggopflifieoiaaDoorRows
import Derived.Test.YtggopflifieoiaaDoorSxArgs
import Derived.ProofKit
import Derived.LaidMore
import Derived.OpenShut
import Derived.Stop.Joined
namespace Go.Proofs.YtggopflifieoiaaDoor
open Go Go.Sx Go.ChangeShapes Go.WideShapes Go.ChangeAt Go.WideMaps Go.WideElems Go.RowKit
theorem gCur : Tryd.prog.globalNamed "cashbook/money.currencies" = some 2 := by kernel_rfl
theorem tCur : (Tryd.prog.globals[2]?).map (·.type) = some 203 := by kernel_rfl
theorem u165 : Tryd.prog.underlying 203 = some (.array 4 202) := by kernel_rfl
noncomputable def fs164 : Array Field := match Tryd.prog.underlying 202 with | some (.struct fs) => fs | _ => #[]
theorem u164 : Tryd.prog.underlying 202 = some (.struct fs164) := by kernel_rfl
theorem n164 : fs164.size = 3 := by kernel_rfl
noncomputable def fd (i : Nat) : Field := fs164.getD i default
theorem f0 : fs164[0]? = some (fd 0) := by kernel_rfl
theorem f1 : fs164[1]? = some (fd 1) := by kernel_rfl
theorem f2 : fs164[2]? = some (fd 2) := by kernel_rfl
theorem ut0 : Tryd.prog.underlying (fd 0).type = some .string := by kernel_rfl
theorem ut1 : Tryd.prog.underlying (fd 1).type = some (.int .i64) := by kernel_rfl
theorem ut2 : Tryd.prog.underlying (fd 2).type = some (.int .i64) := by kernel_rfl
theorem o0 : (fd 0).offset = 0 := by kernel_rfl
theorem o1 : (fd 1).offset = 1 := by kernel_rfl
theorem o2 : (fd 2).offset = 2 := by kernel_rfl
theorem c0 : Tryd.prog.cellsOf (fd 0).type = 1 := by kernel_rfl
theorem c1 : Tryd.prog.cellsOf (fd 1).type = 1 := by kernel_rfl
theorem c2 : Tryd.prog.cellsOf (fd 2).type = 1 := by kernel_rfl
theorem c164 : Tryd.prog.cellsOf 202 = 3 := by kernel_rfl
theorem c165 : Tryd.prog.cellsOf 203 = 12 := by kernel_rfl
abbrev laidB : List (String × DataW Unit) := [("math/bits.deBruijn32tab", Rows.laid_math_bits_deBruijn32tab), ("math/bits.deBruijn64tab", Rows.laid_math_bits_deBruijn64tab), ("internal/strconv.uint64pow10", Rows.laid_internal_strconv_uint64pow10), ("cashbook/date.before", Rows.laid_cashbook_date_before), ("cashbook/money.currencies", Rows.laid_cashbook_money_currencies), ("cashbook/order.words", Rows.laid_cashbook_order_words)]
theorem len3 {α : Type} {l : List α} (h : l.length = 3) : ∃ a b c, l = [a, b, c] := by
  match l, h with
  | [a, b, c], _ => exact ⟨a, b, c, rfl⟩
theorem len4 {α : Type} {l : List α} (h : l.length = 4) : ∃ a b c d, l = [a, b, c, d] := by
  match l, h with
  | [a, b, c, d], _ => exact ⟨a, b, c, d, rfl⟩
theorem cur_of {H : Type} {enc : TypeId × Value → H} {w : World} {base : Nat} {spare : Nat → Bool} {held : Bool} {fuel : Nat} {l : List Value} {x : DataW H × List MemPlace} (h : DataW.trod enc Tryd.prog w base spare held fuel 202 l = some x) {s : List UInt8} {a b : Int}
    (hx : x.1 = .agg [.lit (.string s), .lit (.int .i64 a), .lit (.int .i64 b)]) : l = [.string ⟨s.toArray⟩, .int .i64 a, .int .i64 b] := by
  obtain ⟨xs, m, rfl, rfl, hl, hn, hf⟩ := DataW.trod_struct u164 h
  rw [n164] at hn
  rw [c164] at hl
  have h0 := hf 0 _ f0
  have h1 := hf 1 _ f1
  have h2 := hf 2 _ f2
  rw [o0, c0] at h0
  rw [o1, c1] at h1
  rw [o2, c2] at h2
  obtain ⟨x0, x1, x2, rfl⟩ := len3 hn
  obtain ⟨v0, v1, v2, rfl⟩ := len3 hl
  simp only [List.map_cons, List.map_nil, DataW.agg.injEq, List.cons.injEq, and_true] at hx
  obtain ⟨q0, q1, q2⟩ := hx
  obtain ⟨t, e1, e2, _⟩ := DataW.trod_string ut0 h0
  obtain ⟨n1, g1, g2, _⟩ := DataW.trod_int ut1 h1
  obtain ⟨n2, k1, k2, _⟩ := DataW.trod_int ut2 h2
  simp only [List.drop_zero, List.drop_succ_cons, List.take_succ_cons, List.take_zero, List.cons.injEq, and_true] at e1 g1 k1
  subst e1 g1 k1
  rw [e2] at q0
  rw [g2] at q1
  rw [k2] at q2
  simp only [DataW.lit.injEq, Lit.string.injEq, Lit.int.injEq, true_and] at q0 q1 q2
  subst q0 q1 q2
  rfl
theorem gBef : Tryd.prog.globalNamed "cashbook/date.before" = some 1 := by kernel_rfl
theorem tBef : (Tryd.prog.globals[1]?).map (·.type) = some 179 := by kernel_rfl
theorem uBef : Tryd.prog.underlying 179 = some (.array 12 3) := by kernel_rfl
theorem cBef : Tryd.prog.cellsOf 179 = 12 := by kernel_rfl
theorem uInt : Tryd.prog.underlying 3 = some (.int .i64) := by kernel_rfl
theorem cInt : Tryd.prog.cellsOf 3 = 1 := by kernel_rfl
theorem gWor : Tryd.prog.globalNamed "cashbook/order.words" = some 0 := by kernel_rfl
theorem tWor : (Tryd.prog.globals[0]?).map (·.type) = some 173 := by kernel_rfl
theorem uWor : Tryd.prog.underlying 173 = some (.array 3 9) := by kernel_rfl
theorem cWor : Tryd.prog.cellsOf 173 = 3 := by kernel_rfl
theorem uStr : Tryd.prog.underlying 9 = some .string := by kernel_rfl
theorem cStr : Tryd.prog.cellsOf 9 = 1 := by kernel_rfl
theorem ones_eq {α : Type} (l xs : List α) (hl : l.length = xs.length) (h : ∀ (i : Nat) (x : α), xs[i]? = some x → (l.drop i).take 1 = [x]) : l = xs := by
  apply List.ext_getElem? 
  intro i
  by_cases c : i < xs.length
  · have hx := List.getElem?_eq_getElem c
    have h1 := h i _ hx
    have h2 := congrArg (·[0]?) h1
    rw [hx]
    simpa [List.getElem?_take, List.getElem?_drop] using h2
  · rw [List.getElem?_eq_none (by omega), List.getElem?_eq_none (by omega)]
theorem ints_of {H : Type} {enc : TypeId × Value → H} {w : World} {base : Nat} {spare : Nat → Bool} {held : Bool} {fuel : Nat} {t n : Nat} {l : List Value} {x : DataW H × List MemPlace} (hu : Tryd.prog.underlying t = some (.array n 3)) (hc : Tryd.prog.cellsOf t = n) (h : DataW.trod enc Tryd.prog w base spare held fuel t l = some x) {ks : List Int}
    (hx : x.1 = .agg (ks.map fun k => .lit (.int .i64 k))) : l = ks.map (.int .i64) := by
  obtain ⟨xs, m, rfl, rfl, hl, hn, hel⟩ := DataW.trod_array hu h
  rw [hc] at hl
  simp only [DataW.agg.injEq] at hx
  have hks : ks.length = n := by have := congrArg List.length hx; simpa [hn] using this.symm
  refine ones_eq l _ (by rw [hl, List.length_map, hks]) fun i v hv => ?_
  rw [List.getElem?_map] at hv
  obtain ⟨k, hk, rfl⟩ := Option.map_eq_some_iff.1 hv
  have hi : i < n := by rw [← hks]; exact (List.getElem?_eq_some_iff.1 hk).1
  have h1 := hel i hi
  rw [cInt, Nat.mul_one] at h1
  have hxi : xs[i]? = some xs[i] := List.getElem?_eq_getElem (by omega)
  rw [hxi] at h1
  obtain ⟨k', e1, e2, _⟩ := DataW.trod_int uInt h1
  have h3 := congrArg (·[i]?) hx
  simp only [List.getElem?_map, hxi, hk, Option.map_some, e2, Option.some.injEq, DataW.lit.injEq, Lit.int.injEq, true_and] at h3
  rw [e1, h3]
theorem strs_of {H : Type} {enc : TypeId × Value → H} {w : World} {base : Nat} {spare : Nat → Bool} {held : Bool} {fuel : Nat} {t n : Nat} {l : List Value} {x : DataW H × List MemPlace} (hu : Tryd.prog.underlying t = some (.array n 9)) (hc : Tryd.prog.cellsOf t = n) (h : DataW.trod enc Tryd.prog w base spare held fuel t l = some x) {ks : List (List UInt8)}
    (hx : x.1 = .agg (ks.map fun k => .lit (.string k))) : l = ks.map fun k => .string ⟨k.toArray⟩ := by
  obtain ⟨xs, m, rfl, rfl, hl, hn, hel⟩ := DataW.trod_array hu h
  rw [hc] at hl
  simp only [DataW.agg.injEq] at hx
  have hks : ks.length = n := by have := congrArg List.length hx; simpa [hn] using this.symm
  refine ones_eq l _ (by rw [hl, List.length_map, hks]) fun i v hv => ?_
  rw [List.getElem?_map] at hv
  obtain ⟨k, hk, rfl⟩ := Option.map_eq_some_iff.1 hv
  have hi : i < n := by rw [← hks]; exact (List.getElem?_eq_some_iff.1 hk).1
  have h1 := hel i hi
  rw [cStr, Nat.mul_one] at h1
  have hxi : xs[i]? = some xs[i] := List.getElem?_eq_getElem (by omega)
  rw [hxi] at h1
  obtain ⟨k', e1, e2, _⟩ := DataW.trod_string uStr h1
  have h3 := congrArg (·[i]?) hx
  simp only [List.getElem?_map, hxi, hk, Option.map_some, e2, Option.some.injEq, DataW.lit.injEq, Lit.string.injEq] at h3
  rw [e1, ← h3]
theorem cells_ok {W : World} {nm : String} {g : Nat} {cs : Array Value} (hg : Tryd.prog.globalNamed nm = some g) (hv : W.var? Tryd.prog nm = some cs) {ps : List PV} (hr : All2 (RP W (fun _ => .none)) ps cs.toList) :
    ∃ us : Nat → Value, ∀ (j : Nat) (c : PV), ps[j]? = some c → W.cell? ⟨g, 0 + j, none⟩ = some (us j) ∧ Pr (fun _ => .none) g (0 + j) ∧ RP W (fun _ => .none) c (us j) := by
  refine ⟨fun j => (cs[j]?).getD Go.undef, fun j c hj => ?_⟩
  have hcell := fun j => World.var?_cell hg hv j
  obtain ⟨u, hu, hru⟩ := hr.get hj
  have hu' : cs[j]? = some u := by simpa using hu
  refine ⟨?_, fun L hL => (by cases hL), ?_⟩
  · rw [Nat.zero_add, hcell, hu']; simp only [hu', Option.getD_some]
  · simp only [hu', Option.getD_some]; exact hru
theorem gok {W : World} (h : laidMetH Tryd.prog laidB W) : GOk W (fun _ => .none) := by
  rw [MakeChecks.laidMetH_plain _ _ _ (by kernel_rfl)] at h
  obtain ⟨ps, ⟨_, _, _, _, _, _, _, _, _, _, ⟨_, _, _, _, _, _, _, _, _, _, ⟨_, _, _, _, _, _, _, _, _, _, ⟨gb, tb, csb, _, _, _, hgb, htb, hvb, hdb, ⟨g0, t0, cs0, p0, q0, r0, hg0, ht0, hv0, hd0, ⟨gw, tw, csw, _, _, _, hgw, htw, hvw, hdw, _, _⟩, _⟩, _⟩, _⟩, _⟩, _⟩, _⟩ := h
  obtain rfl := Option.some.inj (gBef.symm.trans hgb)
  obtain rfl := Option.some.inj (tBef.symm.trans htb)
  obtain rfl := Option.some.inj (gWor.symm.trans hgw)
  obtain rfl := Option.some.inj (tWor.symm.trans htw)
  obtain rfl := Option.some.inj (gCur.symm.trans hg0)
  obtain rfl := Option.some.inj (tCur.symm.trans ht0)
  have hcb := ints_of uBef cBef hdb (ks := [0, 31, 61, 92, 122, 153, 184, 214, 245, 275, 306, 337]) rfl
  have hcw := strs_of uWor cWor hdw (ks := [[115, 116, 97, 110, 100, 105, 110, 103], [115, 119, 101, 101, 112], [100, 101, 98, 105, 116]]) rfl
  obtain ⟨xs, m, rfl, hx, hl, hn, hel⟩ := DataW.trod_array u165 hd0
  rw [c165] at hl
  have h0 := hel 0 (by decide)
  have h1 := hel 1 (by decide)
  have h2 := hel 2 (by decide)
  have h3 := hel 3 (by decide)
  rw [c164] at h0 h1 h2 h3
  obtain ⟨x0, x1, x2, x3, rfl⟩ := len4 hn
  simp only [Rows.laid_cashbook_money_currencies, List.map_cons, List.map_nil, Prod.mk.injEq, DataW.agg.injEq, List.cons.injEq, and_true] at hx
  obtain ⟨⟨y0, y1, y2, y3⟩, _⟩ := hx
  have e0 := cur_of h0 y0.symm
  have e1 := cur_of h1 y1.symm
  have e2 := cur_of h2 y2.symm
  have e3 := cur_of h3 y3.symm
  have hcs : cs0.toList = [.string ⟨#[69, 85, 82]⟩, .int .i64 2, .int .i64 100, .string ⟨#[74, 80, 89]⟩, .int .i64 0, .int .i64 1, .string ⟨#[66, 72, 68]⟩, .int .i64 3, .int .i64 1000, .string ⟨#[85, 83, 68]⟩, .int .i64 2, .int .i64 100] := by
    have s0 : cs0.toList = cs0.toList.take 3 ++ ((cs0.toList.drop 3).take 3 ++ ((cs0.toList.drop 6).take 3 ++ (cs0.toList.drop 9).take 3)) := by
      have : (cs0.toList.drop 9).take 3 = cs0.toList.drop 9 := List.take_of_length_le (by rw [List.length_drop, hl]; decide)
      rw [this]
      have a2 : (cs0.toList.drop 6).take 3 ++ cs0.toList.drop 9 = cs0.toList.drop 6 := by rw [show cs0.toList.drop 9 = (cs0.toList.drop 6).drop 3 by rw [List.drop_drop]]; exact List.take_append_drop 3 _
      rw [a2]
      have a1 : (cs0.toList.drop 3).take 3 ++ cs0.toList.drop 6 = cs0.toList.drop 3 := by rw [show cs0.toList.drop 6 = (cs0.toList.drop 3).drop 3 by rw [List.drop_drop]]; exact List.take_append_drop 3 _
      rw [a1]
      exact (List.take_append_drop 3 _).symm
    rw [s0]
    simp only [Nat.zero_mul, Nat.one_mul, List.drop_zero, show 2 * 3 = 6 from rfl, show 3 * 3 = 9 from rfl] at e0 e1 e2 e3
    rw [e0, e1, e2, e3]
    rfl
  refine ⟨fun g cells hg => ?_⟩
  simp only [globs] at hg
  split at hg
  · rename_i g0
    subst g0
    cases hg
    refine cells_ok gCur hv0 ?_
    rw [hcs]
    exact All2.cons (.str _) (All2.cons (.int _ _) (All2.cons (.int _ _) (All2.cons (.str _) (All2.cons (.int _ _) (All2.cons (.int _ _) (All2.cons (.str _) (All2.cons (.int _ _) (All2.cons (.int _ _) (All2.cons (.str _) (All2.cons (.int _ _) (All2.cons (.int _ _) All2.nil)))))))))))
  · split at hg
    · rename_i g0
      subst g0
      cases hg
      refine cells_ok gWor hvw ?_
      rw [hcw]
      exact All2.cons (.str _) (All2.cons (.str _) (All2.cons (.str _) All2.nil))
    · split at hg
      · rename_i g0
        subst g0
        cases hg
        refine cells_ok gBef hvb ?_
        rw [hcb]
        exact All2.cons (.int _ _) (All2.cons (.int _ _) (All2.cons (.int _ _) (All2.cons (.int _ _) (All2.cons (.int _ _) (All2.cons (.int _ _) (All2.cons (.int _ _) (All2.cons (.int _ _) (All2.cons (.int _ _) (All2.cons (.int _ _) (All2.cons (.int _ _) (All2.cons (.int _ _) All2.nil)))))))))))
      · cases hg
end Go.Proofs.YtggopflifieoiaaDoor
