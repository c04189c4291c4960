/- Small lemmas for paths, and for whole numbers. -/
import Derived.Test.YtggopflifieoiaaDoorSxPath
namespace Go.Sx
open Go
abbrev vi (n : Int) : CV := .pv (.int .i64 n)
abbrev vw (n : Int) : CV := .pv (.int .i32 n)
theorem not_t {x : Bool} (h : x = false) : (!x) = true := by simp [h]
theorem not_f {x : Bool} (h : x = true) : (!x) = false := by simp [h]
theorem bne_f {α : Type} [BEq α] [LawfulBEq α] {a b : α} (h : a = b) : (a != b) = false := by simp [h]
theorem and_t {x y : Bool} (h : x = true) (h' : y = true) : (x && y) = true := by simp [h, h']
theorem map_at {α β : Type} {f : α → β} {l : List α} {i : Nat} {y : α} (h : l[i]? = some y) : (l.map f)[i]? = some (f y) := by simp [h]
theorem wi64' (n : Int) : IntKind.wrap .i64 n = if n % 18446744073709551616 ≥ 9223372036854775808 then n % 18446744073709551616 - 18446744073709551616 else n % 18446744073709551616 := by simp [IntKind.wrap, IntKind.signed, IntKind.bits]
theorem wi64 {n : Int} (h : -9223372036854775808 ≤ n) (h' : n ≤ 9223372036854775807) : IntKind.wrap .i64 n = n := by
  rw [wi64']; split <;> omega
theorem int_inv {k : IntKind} {p : PV} (h : WT (.int k) p) : ∃ n, k.min ≤ n ∧ n ≤ k.max ∧ p = .int k n := by
  cases h with
  | int h =>
    rename_i n
    have : k.min ≤ n ∧ n ≤ k.max := by simpa [Lit.wf] using h
    exact ⟨n, this.1, this.2, rfl⟩
theorem i64_inv {p : PV} (h : WT (.int .i64) p) : ∃ n, -9223372036854775808 ≤ n ∧ n ≤ 9223372036854775807 ∧ p = .int .i64 n := int_inv h
theorem i32_inv {p : PV} (h : WT (.int .i32) p) : ∃ n, -2147483648 ≤ n ∧ n ≤ 2147483647 ∧ p = .int .i32 n := int_inv h
theorem u8_inv {p : PV} (h : WT (.int .u8) p) : ∃ n, 0 ≤ n ∧ n ≤ 255 ∧ p = .int .u8 n := int_inv h
theorem bool_inv {p : PV} (h : WT .bool p) : ∃ b, p = .bool b := by cases h; exact ⟨_, rfl⟩
theorem sl_inv {el : List CT} {p : PV} (h : WT (.sl el) p) : p = .sl .nil el.length [] ∨ ∃ es, p = .sl .shut el.length es ∧ es.length ≤ 9223372036854775807 ∧
    (∀ e ∈ es, e.cells.length = el.length ∧ (el.length = 1 → e.flat = true) ∧ (el.length ≠ 1 → e = .agg e.cells)) ∧ ∀ e ∈ es, ∀ (i : Nat) (c : CT) (p : PV), el[i]? = some c → e.cells[i]? = some p → WT c p := by
  cases h with
  | nil => exact Or.inl rfl
  | sl _ es hl hs hc => exact Or.inr ⟨es, rfl, hl, hs, hc⟩
theorem list_of {α : Type} {f : α → PV} {Q : α → Prop} : ∀ {es : List PV}, (∀ e ∈ es, ∃ v, Q v ∧ e = f v) → ∃ l : List α, (∀ v ∈ l, Q v) ∧ es = l.map f
  | [], _ => ⟨[], by simp, rfl⟩
  | e :: es, h => by
    obtain ⟨v, hv, rfl⟩ := h e (by simp)
    obtain ⟨l, hl, rfl⟩ := list_of (es := es) fun e he => h e (by simp [he])
    exact ⟨v :: l, by simpa using ⟨hv, hl⟩, rfl⟩
end Go.Sx
