/- Small lemmas for paths, and for whole numbers. -/
import Derived.Test.YtggopflifieoiaaDoorSxPath
namespace Go.Sx
open Go
abbrev vi (n : Int) : CV := .pv (.int .i64 n)
abbrev vw (n : Int) : CV := .pv (.int .i32 n)
theorem not_t {x : Bool} (h : x = false) : (!x) = true := by simp [h]
theorem not_f {x : Bool} (h : x = true) : (!x) = false := by simp [h]
theorem bne_f {α : Type} [BEq α] [LawfulBEq α] {a b : α} (h : a = b) : (a != b) = false := by simp [h]
theorem map_at {α β : Type} {f : α → β} {l : List α} {i : Nat} {y : α} (h : l[i]? = some y) : (l.map f)[i]? = some (f y) := by simp [h]
theorem wi64' (n : Int) : IntKind.wrap .i64 n = if n % 18446744073709551616 ≥ 9223372036854775808 then n % 18446744073709551616 - 18446744073709551616 else n % 18446744073709551616 := by simp [IntKind.wrap, IntKind.signed, IntKind.bits]
theorem wi64 {n : Int} (h : -9223372036854775808 ≤ n) (h' : n ≤ 9223372036854775807) : IntKind.wrap .i64 n = n := by
  rw [wi64']; split <;> omega
theorem int_inv {k : IntKind} {p : PV} (h : WT (.int k) p) : ∃ n, k.min ≤ n ∧ n ≤ k.max ∧ p = .int k n := by
  cases h with
  | int h =>
    rename_i n
    have : k.min ≤ n ∧ n ≤ k.max := by simpa [Lit.wf] using h
    exact ⟨n, this.1, this.2, rfl⟩
theorem i64_inv {p : PV} (h : WT (.int .i64) p) : ∃ n, -9223372036854775808 ≤ n ∧ n ≤ 9223372036854775807 ∧ p = .int .i64 n := int_inv h
theorem i32_inv {p : PV} (h : WT (.int .i32) p) : ∃ n, -2147483648 ≤ n ∧ n ≤ 2147483647 ∧ p = .int .i32 n := int_inv h
theorem bool_inv {p : PV} (h : WT .bool p) : ∃ b, p = .bool b := by cases h; exact ⟨_, rfl⟩
theorem sl_inv {el : List CT} {p : PV} (h : WT (.sl el) p) : p = .sl .nil el.length [] ∨ ∃ es, p = .sl .shut el.length es ∧ es.length ≤ 9223372036854775807 ∧
    (∀ e ∈ es, e.cells.length = el.length ∧ (el.length = 1 → e.flat = true) ∧ (el.length ≠ 1 → e = .agg e.cells)) ∧ ∀ e ∈ es, ∀ (i : Nat) (c : CT) (p : PV), el[i]? = some c → e.cells[i]? = some p → WT c p := by
  cases h with
  | nil => exact Or.inl rfl
  | sl _ es hl hs hc => exact Or.inr ⟨es, rfl, hl, hs, hc⟩
theorem list_of {α : Type} {f : α → PV} {Q : α → Prop} : ∀ {es : List PV}, (∀ e ∈ es, ∃ v, Q v ∧ e = f v) → ∃ l : List α, (∀ v ∈ l, Q v) ∧ es = l.map f
  | [], _ => ⟨[], by simp, rfl⟩
  | e :: es, h => by
    obtain ⟨v, hv, rfl⟩ := h e (by simp)
    obtain ⟨l, hl, rfl⟩ := list_of (es := es) fun e he => h e (by simp [he])
    exact ⟨v :: l, by simpa using ⟨hv, hl⟩, rfl⟩
end Go.Sx
/- Loops that go through a list. -/
namespace Go.Sx
open Go
section
variable {b : St → Option (XExit × St)} {m : List Bool} {L : Nat}
end
end Go.Sx
/- Pieces of code. -/
namespace Go.Sx
open Go
theorem cv_ok {call : Oracle} {x : XCode} {st s : St} {e : XExit} (its : List It) {c : List Prop} (h : (pC call x st its).map (fun q => (q.1, q.2.1, q.2.2.1)) = some (e, s, c)) (hc : AllP c) : cv call x st = some (e, s) := by
  obtain ⟨⟨e1, s1, c1, its1⟩, h1, h2⟩ := Option.map_eq_some_iff.1 h
  simp only [Prod.mk.injEq] at h2
  obtain ⟨rfl, rfl, rfl⟩ := h2
  exact pC_ok h1 hc
def sqA : XCode → XCode
  | .seq a _ => a
  | x => x
def sqB : XCode → XCode
  | .seq _ b => b
  | x => x
end Go.Sx
/- Rolling to a day with business: what calendars that differ change. -/
namespace Go.Sx.Tryd
def IsUp (w : Int → Bool) (d x : Int) : Prop := d ≤ x ∧ x ≤ 50000 ∧ w x = true ∧ ∀ y, d ≤ y → y < x → w y = false
def NoUp (w : Int → Bool) (d : Int) : Prop := ∀ y, d ≤ y → y ≤ 50000 → w y = false
def IsDn (w : Int → Bool) (d x : Int) : Prop := x ≤ d ∧ -50000 ≤ x ∧ w x = true ∧ ∀ y, x < y → y ≤ d → w y = false
inductive Rolled (how : Int) (mon : Int → Int) (w : Int → Bool) (d x : Int) : Prop
  | on (h : how = 0) (u : IsUp w d x) : Rolled how mon w d x
  | back (h : how = 2) (u : IsDn w d x) : Rolled how mon w d x
  | within (h : how = 1) (u : IsUp w d x) (m : mon x = mon d) : Rolled how mon w d x
  | none (h : how = 1) (u : NoUp w d) (v : IsDn w d x) : Rolled how mon w d x
  | other (h : how = 1) (y : Int) (u : IsUp w d y) (m : mon y ≠ mon d) (v : IsDn w d x) : Rolled how mon w d x
theorem up_le {w v : Int → Bool} {d x y : Int} (hx : IsUp w d x) (hy : IsUp v d y) (h : ∀ z, d ≤ z → z ≤ x → w z = v z) : y ≤ x := by
  obtain ⟨a, b, c, e⟩ := hx
  obtain ⟨a', b', c', e'⟩ := hy
  by_cases hlt : x < y
  · have := e' x a hlt
    rw [← h x a (Int.le_refl _), c] at this
    cases this
  · omega
theorem dn_ge {w v : Int → Bool} {d x y : Int} (hx : IsDn w d x) (hy : IsDn v d y) (h : ∀ z, x ≤ z → z ≤ d → w z = v z) : x ≤ y := by
  obtain ⟨a, b, c, e⟩ := hx
  obtain ⟨a', b', c', e'⟩ := hy
  by_cases hlt : y < x
  · have := e' x hlt a
    rw [← h x (Int.le_refl _) a, c] at this
    cases this
  · omega
theorem mixed {mon : Int → Int} {w v : Int → Bool} {d x y : Int} (hx : IsUp w d x) (m : mon x = mon d) (hn : NoUp v d ∨ ∃ z, IsUp v d z ∧ mon z ≠ mon d) (h : ∀ z, d ≤ z → z ≤ x → w z = v z) : False := by
  obtain ⟨a, b, c, e⟩ := hx
  have hv : v x = true := by rw [← h x a (Int.le_refl _)]; exact c
  rcases hn with hn | ⟨z, hz, hm⟩
  · have := hn x a b
    rw [hv] at this
    cases this
  · have hle := up_le (w := w) (v := v) ⟨a, b, c, e⟩ hz h
    by_cases hlt : z < x
    · have h1 := e z hz.1 hlt
      have h2 := hz.2.2.1
      rw [← h z hz.1 (by omega), h1] at h2
      cases h2
    · have : z = x := by omega
      subst this
      exact hm m
theorem rolled_same {how : Int} {mon : Int → Int} {w v : Int → Bool} {d x y : Int} (hx : Rolled how mon w d x) (hy : Rolled how mon v d y) (h : ∀ z, min (min x y) d ≤ z → z ≤ max (max x y) d → w z = v z) : x = y := by
  have sym : ∀ z, min (min x y) d ≤ z → z ≤ max (max x y) d → v z = w z := fun z h1 h2 => (h z h1 h2).symm
  have ups : IsUp w d x → IsUp v d y → x = y := fun a b => by
    have h1 := up_le a b fun z z1 z2 => h z (by omega) (by omega)
    have h2 := up_le b a fun z z1 z2 => sym z (by omega) (by omega)
    omega
  have dns : IsDn w d x → IsDn v d y → x = y := fun a b => by
    have h1 := dn_ge a b fun z z1 z2 => h z (by omega) (by omega)
    have h2 := dn_ge b a fun z z1 z2 => sym z (by omega) (by omega)
    omega
  cases hx with
  | on e a =>
    cases hy with
    | on _ b => exact ups a b
    | back e' _ => omega
    | within e' _ _ => omega
    | none e' _ _ => omega
    | other e' _ _ _ _ => omega
  | back e a =>
    cases hy with
    | on e' _ => omega
    | back _ b => exact dns a b
    | within e' _ _ => omega
    | none e' _ _ => omega
    | other e' _ _ _ _ => omega
  | within e a m =>
    cases hy with
    | on e' _ => omega
    | back e' _ => omega
    | within _ b _ => exact ups a b
    | none _ u b => exact absurd (mixed (y := y) a m (.inl u) fun z z1 z2 => h z (by omega) (by omega)) id
    | other _ z u m' b => exact absurd (mixed (y := y) a m (.inr ⟨z, u, m'⟩) fun z z1 z2 => h z (by omega) (by omega)) id
  | none e u a =>
    cases hy with
    | on e' _ => omega
    | back e' _ => omega
    | within _ b m => exact absurd (mixed (y := x) b m (.inl u) fun z z1 z2 => sym z (by omega) (by omega)) id
    | none _ _ b => exact dns a b
    | other _ _ _ _ b => exact dns a b
  | other e z u m' a =>
    cases hy with
    | on e' _ => omega
    | back e' _ => omega
    | within _ b m => exact absurd (mixed (y := x) b m (.inr ⟨z, u, m'⟩) fun z z1 z2 => sym z (by omega) (by omega)) id
    | none _ _ b => exact dns a b
    | other _ _ _ _ b => exact dns a b
end Go.Sx.Tryd
/- A day with business is never far. -/
namespace Go.Sx.Tryd
def inR (a b : Int) (h : Int) : Bool := decide (a ≤ h ∧ h < b)
theorem count_split {a b c : Int} (h1 : a ≤ b) (h2 : b ≤ c) : ∀ l : List Int, l.countP (inR a b) + l.countP (inR b c) = l.countP (inR a c)
  | [] => rfl
  | x :: l => by
    have ih := count_split h1 h2 l
    simp only [List.countP_cons, inR, decide_eq_true_eq] at ih ⊢
    by_cases c1 : a ≤ x ∧ x < b
    · rw [if_pos c1, if_neg (by omega), if_pos (by omega)]; omega
    · by_cases c2 : b ≤ x ∧ x < c
      · rw [if_neg c1, if_pos c2, if_pos (by omega)]; omega
      · rw [if_neg c1, if_neg c2, if_neg (by omega)]; omega
theorem count_pos {a b x : Int} {l : List Int} (h : x ∈ l) (h1 : a ≤ x) (h2 : x < b) : 1 ≤ l.countP (inR a b) := List.countP_pos_iff.2 ⟨x, h, by simp [inR, h1, h2]⟩
theorem week {wd : Int → Int} {k : Int} (hw : ∀ d, wd d = (d + k) % 7) (d : Int) : ∃ y, d ≤ y ∧ y < d + 7 ∧ wd y < 5 := by
  by_cases c : wd d < 5
  · exact ⟨d, Int.le_refl _, by omega, c⟩
  · refine ⟨d + 2, by omega, by omega, ?_⟩
    rw [hw] at c ⊢
    omega
theorem closed_count {wd : Int → Int} {k : Int} (hw : ∀ d, wd d = (d + k) % 7) {w : Int → Bool} {hol : List Int} (ho : ∀ d, d ∉ hol → wd d < 5 → w d = true) (d : Int) : ∀ n : Nat, (∀ y, d ≤ y → y < d + 7 * n → w y = false) → n ≤ hol.countP (inR d (d + 7 * n))
  | 0, _ => Nat.zero_le _
  | n + 1, h => by
    have ih := closed_count hw ho d n fun y h1 h2 => h y h1 (by omega)
    obtain ⟨y, y1, y2, y3⟩ := week hw (d + 7 * n)
    have hy : y ∈ hol := by
      by_cases c : y ∈ hol
      · exact c
      · have h1 := ho y c y3
        have h2 := h y (by omega) (by omega)
        rw [h1] at h2
        cases h2
    have c1 := count_pos (a := d + 7 * n) (b := d + 7 * (n + 1 : Nat)) hy y1 (by omega)
    have c2 := count_split (a := d) (b := d + 7 * n) (c := d + 7 * (n + 1 : Nat)) (by omega) (by omega) hol
    omega
theorem open_near {wd : Int → Int} {k : Int} (hw : ∀ d, wd d = (d + k) % 7) {w : Int → Bool} {hol : List Int} (ho : ∀ d, d ∉ hol → wd d < 5 → w d = true) (d : Int) : ∃ y, d ≤ y ∧ y < d + 7 * ((hol.length + 1 : Nat) : Int) ∧ w y = true := by
  by_cases c : ∃ y, d ≤ y ∧ y < d + 7 * ((hol.length + 1 : Nat) : Int) ∧ w y = true
  · exact c
  · have := closed_count hw ho d (hol.length + 1) fun y h1 h2 => by
      cases hy : w y with
      | false => rfl
      | true => exact absurd ⟨y, h1, h2, hy⟩ c
    have h3 := List.countP_le_length (p := inR d (d + 7 * ((hol.length + 1 : Nat) : Int))) (l := hol)
    omega
theorem up_near {wd : Int → Int} {k : Int} (hw : ∀ d, wd d = (d + k) % 7) {w : Int → Bool} {hol : List Int} (ho : ∀ d, d ∉ hol → wd d < 5 → w d = true) {d x : Int} (h : IsUp w d x) : x < d + 7 * ((hol.length + 1 : Nat) : Int) := by
  obtain ⟨y, y1, y2, y3⟩ := open_near hw ho d
  by_cases c : y < x
  · have := h.2.2.2 y y1 c
    rw [y3] at this
    cases this
  · omega
theorem dn_near {wd : Int → Int} {k : Int} (hw : ∀ d, wd d = (d + k) % 7) {w : Int → Bool} {hol : List Int} (ho : ∀ d, d ∉ hol → wd d < 5 → w d = true) {d x : Int} (h : IsDn w d x) : d - 7 * ((hol.length + 1 : Nat) : Int) < x := by
  obtain ⟨y, y1, y2, y3⟩ := open_near hw ho (d - 7 * ((hol.length + 1 : Nat) : Int) + 1)
  by_cases c : x < y
  · have := h.2.2.2 y c (by omega)
    rw [y3] at this
    cases this
  · omega
theorem rolled_near {wd : Int → Int} {k : Int} (hw : ∀ d, wd d = (d + k) % 7) {how : Int} {mon : Int → Int} {w : Int → Bool} {hol : List Int} (ho : ∀ d, d ∉ hol → wd d < 5 → w d = true) {d x : Int} (h : Rolled how mon w d x) : d - 7 * ((hol.length + 1 : Nat) : Int) < x ∧ x < d + 7 * ((hol.length + 1 : Nat) : Int) := by
  cases h with
  | on _ u => exact ⟨by have := u.1; omega, up_near hw ho u⟩
  | back _ u => exact ⟨dn_near hw ho u, by have := u.1; omega⟩
  | within _ u _ => exact ⟨by have := u.1; omega, up_near hw ho u⟩
  | none _ _ v => exact ⟨dn_near hw ho v, by have := v.1; omega⟩
  | other _ _ _ _ v => exact ⟨dn_near hw ho v, by have := v.1; omega⟩
end Go.Sx.Tryd
