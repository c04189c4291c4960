/- Books that may be: beginnings, order, copies. -/
import Derived.Test.YtggopflifieoiaaDoorN4
import Derived.Test.YtggopflifieoiaaDoorK1
import Derived.Test.YtggopflifieoiaaDoorSxLem
import Derived.Test.YtggopflifieoiaaDoorK3
import Derived.Test.YtggopflifieoiaaDoorN2
namespace Go.Sx.Tryd
open Go Go.Sx
theorem rightFrom_append : ∀ (a pre b : List Post), rightFrom pre (a ++ b) = (rightFrom pre a && rightFrom (pre ++ a) b)
  | [], pre, b => by simp [rightFrom]
  | x :: a, pre, b => by
    simp only [List.cons_append, rightFrom]
    rw [rightFrom_append a (pre ++ [x]) b, Bool.and_assoc, List.append_assoc]
    rfl
theorem rightB_append (a b : List Post) : rightB (a ++ b) = (rightB a && rightFrom a b) := by
  unfold rightB
  rw [rightFrom_append a [] b]
  rfl
theorem rightB_snoc (l : List Post) (p : Post) : rightB (l ++ [p]) = (rightB l && (fullE l p == 0)) := by
  rw [rightB_append]
  simp [rightFrom]
theorem right_take {l : List Post} (h : rightB l = true) (n : Nat) : rightB (l.take n) = true := by
  have := rightB_append (l.take n) (l.drop n)
  rw [List.take_append_drop, h] at this
  have h2 := this.symm
  rw [Bool.and_eq_true] at h2
  exact h2.1
theorem fullE_known {l : List Post} {p : Post} (h : fullE l p = 0) : chk p = 0 ∧ p.id = l.length + 1 ∧ ∀ q, l.getLast? = some q → q.known ≤ p.known := by
  unfold fullE at h
  by_cases c : chk p = 0
  · rw [if_pos c] at h
    unfold nextE at h
    by_cases c1 : l.length = 400
    · rw [if_pos c1] at h; cases h
    rw [if_neg c1] at h
    by_cases c2 : p.id ≠ l.length + 1
    · rw [if_pos c2] at h; cases h
    rw [if_neg c2] at h
    by_cases c3 : lastKn l p.known = true
    · rw [if_pos c3] at h; cases h
    refine ⟨c, by simpa using c2, fun q hq => ?_⟩
    unfold lastKn at c3
    rw [hq] at c3
    simp only [Option.elim, decide_eq_true_eq] at c3
    omega
  · rw [if_neg c] at h; exact absurd h c
def Shut (l : List Post) : Prop := ∀ p ∈ l, p.so = .shut
def numbered (b : List Post) (p : Post) : Post := { p with id := (b.length : Int) + 1 }
def put (b : List Post) (p : Post) : List Post := if fullE b (numbered b p) = 0 then b ++ [sh (numbered b p)] else b
def made (l : List Post) : List Post := l.foldl put []
structure Built (b : List Post) (n : Nat) : Prop where
  right : rightB b = true
  shut : Shut b
  nice : ∀ p ∈ b, Nice p
  len : b.length ≤ n
end Go.Sx.Tryd
/- Whether postings are gone through. -/
namespace Go.Sx.Tryd
open Go Go.Sx
theorem lt_lenP {l : List Post} {i : Nat} (h : i < l.length) : (i : Int) < (((l.map Post.pv).length : Nat) : Int) := by rw [List.length_map]; omega
end Go.Sx.Tryd
/- What is on an account. -/
namespace Go.Sx.Tryd
open Go Go.Sx
def onW (acc cur : Int) (x : Leg) : Bool := x.acc == acc && x.cur == cur
def sumIf (w : Leg → Bool) : List Leg → Int
  | [] => 0
  | x :: r => (if w x = true then x.minor else 0) + sumIf w r
end Go.Sx.Tryd
/- What an account has, of a book: a slice of any size that is told. -/
namespace Go.Sx.Tryd
open Go Go.Sx
end Go.Sx.Tryd
/- What stands is what the book comes to. -/
namespace Go.Sx.Tryd
open Go Go.Sx
theorem right_split {l : List Post} (h : rightB l = true) {i : Nat} {p : Post} (hi : l[i]? = some p) : rightB (l.take i) = true ∧ fullE (l.take i) p = 0 := by
  have hlt : i < l.length := (List.getElem?_eq_some_iff.1 hi).1
  have h1 := right_take h (i + 1)
  have e : l.take (i + 1) = l.take i ++ [p] := by
    rw [List.take_add_one, hi]; rfl
  rw [e, rightB_snoc] at h1
  simp only [Bool.and_eq_true, beq_iff_eq] at h1
  exact h1
theorem right_id {l : List Post} (h : rightB l = true) {i : Nat} {p : Post} (hi : l[i]? = some p) : p.id = (i : Int) + 1 := by
  have hlt : i < l.length := (List.getElem?_eq_some_iff.1 hi).1
  have := (fullE_known (right_split h hi).2).2.1
  rw [List.length_take] at this
  omega
end Go.Sx.Tryd
/- Netting: plain numbers. -/
namespace Go.Sx.Tryd
structure Tr where
  fr : Nat
  to : Nat
  n : Int
def at0 (l : List Int) (i : Nat) : Int := l.getD i 0
def total : List Int → Int
  | [] => 0
  | x :: l => x + total l
def nz : List Int → Nat
  | [] => 0
  | x :: l => (if x = 0 then 0 else 1) + nz l
def flow : List Tr → Nat → Int
  | [], _ => 0
  | t :: l, i => ((if t.to = i then t.n else 0) - (if t.fr = i then t.n else 0)) + flow l i
theorem flow_append (a b : List Tr) (i : Nat) : flow (a ++ b) i = flow a i + flow b i := by
  induction a with
  | nil => simp [flow]
  | cons t a ih => simp only [List.cons_append, flow, ih]; omega
theorem at0_set {l : List Int} {i j : Nat} {x : Int} (h : i < l.length) : at0 (l.set i x) j = if i = j then x else at0 l j := by
  unfold at0
  rw [List.getD_eq_getElem?_getD, List.getD_eq_getElem?_getD, List.getElem?_set]
  by_cases c : i = j
  · rw [if_pos c, if_pos (c ▸ h), if_pos c]; rfl
  · rw [if_neg c, if_neg c]
theorem total_set : ∀ {l : List Int} {i : Nat} {x : Int}, i < l.length → total (l.set i x) = total l - at0 l i + x
  | [], _, _, h => by simp at h
  | y :: l, 0, x, _ => by simp [total, at0]; omega
  | y :: l, i + 1, x, h => by
    have ih := total_set (l := l) (i := i) (x := x) (by simpa using h)
    have : at0 (y :: l) (i + 1) = at0 l i := by simp [at0]
    simp only [List.set_cons_succ, total, ih, this]
    omega
theorem nz_set : ∀ {l : List Int} {i : Nat} {x : Int}, i < l.length → nz (l.set i x) + (if at0 l i = 0 then 0 else 1) = nz l + (if x = 0 then 0 else 1)
  | [], _, _, h => by simp at h
  | y :: l, 0, x, _ => by simp [nz, at0]; omega
  | y :: l, i + 1, x, h => by
    have ih := nz_set (l := l) (i := i) (x := x) (by simpa using h)
    have : at0 (y :: l) (i + 1) = at0 l i := by simp [at0]
    simp only [List.set_cons_succ, nz, this]
    omega
theorem nz_le : ∀ l : List Int, nz l ≤ l.length
  | [] => Nat.le_refl _
  | x :: l => by have := nz_le l; simp only [nz, List.length_cons]; split <;> omega
theorem zero_of_nonneg : ∀ {l : List Int}, (∀ x ∈ l, 0 ≤ x) → 0 ≤ total l ∧ (total l = 0 → ∀ x ∈ l, x = 0)
  | [], _ => ⟨Int.le_refl _, fun _ x hx => by simp at hx⟩
  | y :: l, h => by
    have ih := zero_of_nonneg (l := l) fun x hx => h x (by simp [hx])
    have hy := h y (by simp)
    refine ⟨by simp only [total]; omega, fun e x hx => ?_⟩
    simp only [total] at e
    rcases List.mem_cons.1 hx with rfl | hx
    · omega
    · exact ih.2 (by omega) x hx
theorem zero_of_nonpos : ∀ {l : List Int}, (∀ x ∈ l, x ≤ 0) → total l ≤ 0 ∧ (total l = 0 → ∀ x ∈ l, x = 0)
  | [], _ => ⟨Int.le_refl _, fun _ x hx => by simp at hx⟩
  | y :: l, h => by
    have ih := zero_of_nonpos (l := l) fun x hx => h x (by simp [hx])
    have hy := h y (by simp)
    refine ⟨by simp only [total]; omega, fun e x hx => ?_⟩
    simp only [total] at e
    rcases List.mem_cons.1 hx with rfl | hx
    · omega
    · exact ih.2 (by omega) x hx
theorem at0_mem {l : List Int} {P : Int → Prop} (h : ∀ i, i < l.length → P (at0 l i)) : ∀ x ∈ l, P x := by
  intro x hx
  obtain ⟨i, hi, rfl⟩ := List.mem_iff_getElem.1 hx
  have := h i hi
  simpa [at0, hi] using this
def pay (l : List Int) (f t : Nat) (n : Int) : List Int := (l.set f (at0 l f + n)).set t (at0 l t - n)
theorem pay_len (l : List Int) (f t : Nat) (n : Int) : (pay l f t n).length = l.length := by simp [pay]
theorem at0_pay {l : List Int} {f t : Nat} {n : Int} (hf : f < l.length) (ht : t < l.length) (hne : f ≠ t) (i : Nat) : at0 (pay l f t n) i = at0 l i + (if f = i then n else 0) - (if t = i then n else 0) := by
  unfold pay
  rw [at0_set (by simpa using ht), at0_set hf]
  by_cases c1 : t = i
  · rw [if_pos c1, if_pos c1, if_neg (fun e => hne (e.trans c1.symm)), c1]; omega
  · rw [if_neg c1, if_neg c1]
    by_cases c2 : f = i
    · rw [if_pos c2, if_pos c2, c2]; omega
    · rw [if_neg c2, if_neg c2]; omega
theorem total_pay {l : List Int} {f t : Nat} {n : Int} (hf : f < l.length) (ht : t < l.length) (hne : f ≠ t) : total (pay l f t n) = total l := by
  unfold pay
  rw [total_set (by simpa using ht), total_set hf, at0_set hf, if_neg hne]
  omega
def Inv (net left : List Int) (out : List Tr) : Prop := left.length = net.length ∧ total left = 0 ∧ ∀ i, at0 net i = at0 left i + flow out i
theorem inv_pay {net left : List Int} {out : List Tr} {f t : Nat} {n : Int} (h : Inv net left out) (hf : f < left.length) (ht : t < left.length) (hne : f ≠ t) : Inv net (pay left f t n) (out ++ [⟨f, t, n⟩]) := by
  obtain ⟨h1, h2, h3⟩ := h
  refine ⟨(pay_len ..).trans h1, (total_pay hf ht hne).trans h2, fun i => ?_⟩
  rw [at0_pay hf ht hne, flow_append, h3 i]
  simp only [flow]
  omega
theorem inv_end {net left : List Int} {out : List Tr} (h : Inv net left out) (he : (∀ i, i < left.length → 0 ≤ at0 left i) ∨ (∀ i, i < left.length → at0 left i ≤ 0)) : ∀ i, at0 net i = flow out i := by
  obtain ⟨h1, h2, h3⟩ := h
  have hz : ∀ x ∈ left, x = 0 := by
    rcases he with he | he
    · exact (zero_of_nonneg (at0_mem he)).2 h2
    · exact (zero_of_nonpos (at0_mem he)).2 h2
  intro i
  rw [h3 i]
  have : at0 left i = 0 := by
    by_cases c : i < left.length
    · have := hz left[i] (List.getElem_mem c)
      simpa [at0, c] using this
    · simp [at0, List.getD_eq_getElem?_getD, List.getElem?_eq_none (Nat.le_of_not_lt c)]
  omega
theorem nz_pay {l : List Int} {f t : Nat} {n : Int} (hf : f < l.length) (ht : t < l.length) (hne : f ≠ t) (h1 : at0 l f < 0) (h2 : 0 < at0 l t) (hn : n = min (-at0 l f) (at0 l t)) : nz (pay l f t n) < nz l := by
  unfold pay
  have e1 := nz_set (l := l) (i := f) (x := at0 l f + n) hf
  have e2 := nz_set (l := l.set f (at0 l f + n)) (i := t) (x := at0 l t - n) (by simpa using ht)
  rw [at0_set hf, if_neg hne] at e2
  rw [if_neg (by omega)] at e1 e2
  have : at0 l f + n = 0 ∨ at0 l t - n = 0 := by omega
  rcases this with h | h
  · rw [if_pos h] at e1
    split at e2 <;> omega
  · rw [if_pos h] at e2
    split at e1 <;> omega
end Go.Sx.Tryd
/- Netting: the book of a settlement. -/
namespace Go.Sx.Tryd
open Go Go.Sx
def payP (t : Tr) (cur id known value : Int) : Post := ⟨id, known, value, .shut, [⟨t.fr + 1, cur, -t.n⟩, ⟨t.to + 1, cur, t.n⟩], 0, 0, []⟩
structure Tr.Ok (t : Tr) : Prop where
  fr : t.fr < 16
  to : t.to < 16
  ne : t.fr ≠ t.to
  lo : 1 ≤ t.n
  hi : t.n ≤ 100000000000000
theorem chk_pay {t : Tr} (h : t.Ok) {cur id known value : Int} (hc : 0 ≤ cur) (hc4 : cur < 4) (h1 : 1 ≤ id) (h2 : id ≤ 1000000) (hk : datOk known = true) (hv : datOk value = true) : chk (payP t cur id known value) = 0 := by
  obtain ⟨a, b, c, d, e⟩ := h
  have c1 : headed (payP t cur id known value) = true := by simp [headed, payP, h1, h2]; omega
  have l1 : curOk cur = true := by simp [curOk]; omega
  have m1 : minOk t.n = true := by simp [minOk]; omega
  have m2 : minOk (-t.n) = true := by simp [minOk]; omega
  unfold chk
  rw [if_neg (by rw [c1]; decide), if_neg (by show ¬ datOk known = false; rw [hk]; decide), if_neg (by show ¬ datOk value = false; rw [hv]; decide), if_neg (by show ¬ (2 < 2); decide), if_neg (by show ¬ (16 < 2); decide)]
  rw [if_neg (by simp [payP, accBad]; omega), if_neg (by simp [payP, curBad, l1]), if_neg (by simp [payP, overBad, l1, m1, m2]), if_neg (by simp [payP, zeroBad]; omega)]
  rw [if_neg]
  have : bal (payP t cur id known value).legs = true := by
    have hcur : cur = 0 ∨ cur = 1 ∨ cur = 2 ∨ cur = 3 := by omega
    rcases hcur with rfl | rfl | rfl | rfl <;> simp [bal, payP, sumCur] <;> omega
  rw [this]; decide
theorem pay_back {t : Tr} (h : t.Ok) {cur id known value : Int} (hc : 0 ≤ cur) (hc4 : cur < 4) {id' kn : Int} (h1 : 1 ≤ id) (h2 : id < id') (h3 : id' ≤ 1000000) (hk : datOk known = true) (hv : datOk value = true) (hkn : datOk kn = true) (hle : known ≤ kn) : revE (payP t cur id known value) id' kn = 0 := by
  have h0 := chk_pay h hc hc4 h1 (by omega) hk hv
  unfold revE
  rw [if_pos h0, if_neg (by show ¬ (id' ≤ id ∨ kn < known); omega)]
  obtain ⟨a, b, c, d, e⟩ := h
  have c1 : headed (rvp (payP t cur id known value) id' kn) = true := by simp [headed, rvp, payP]; omega
  have l1 : curOk cur = true := by simp [curOk]; omega
  have m1 : minOk t.n = true := by simp [minOk]; omega
  have m2 : minOk (-t.n) = true := by simp [minOk]; omega
  unfold chk
  rw [if_neg (by rw [c1]; decide), if_neg (by show ¬ datOk kn = false; rw [hkn]; decide), if_neg (by show ¬ datOk value = false; rw [hv]; decide), if_neg (by show ¬ (2 < 2); decide), if_neg (by show ¬ (16 < 2); decide)]
  rw [if_neg (by simp [rvp, neg, payP, accBad]; omega), if_neg (by simp [rvp, neg, payP, curBad, l1]), if_neg (by simp [rvp, neg, payP, overBad, l1, m1, m2]), if_neg (by simp [rvp, neg, payP, zeroBad]; omega)]
  rw [if_neg]
  have : bal (rvp (payP t cur id known value) id' kn).legs = true := by
    have hcur : cur = 0 ∨ cur = 1 ∨ cur = 2 ∨ cur = 3 := by omega
    rcases hcur with rfl | rfl | rfl | rfl <;> simp [bal, rvp, neg, payP, sumCur] <;> omega
  rw [this]; decide
theorem full_new {b : List Post} {p : Post} (hl : b.length < 400) (h0 : chk p = 0) (hid : p.id = (b.length : Int) + 1) (hk : lastKn b p.known = false) (hr : p.rev = 0) : fullE b p = 0 := by
  unfold fullE
  rw [if_pos h0]
  unfold nextE
  rw [if_neg (by omega), if_neg (by omega), if_neg (by rw [hk]; decide), if_pos hr]
theorem full_rv {b : List Post} (hR : rightB b = true) (hl : b.length < 400) {k : Nat} {old : Post} {kn : Int} (ho : b[k]? = some old) (hk : lastKn b kn = false) (hr : revE old ((b.length : Int) + 1) kn = 0) (h0 : old.rev = 0) (hn : (b.any fun q => q.rev == old.id) = false) : fullE b (rvp old ((b.length : Int) + 1) kn) = 0 := by
  have hid := right_id hR ho
  have hco : chk (rvp old ((b.length : Int) + 1) kn) = 0 := by
    have hh := hr
    unfold revE at hh
    by_cases c : chk old = 0
    · rw [if_pos c] at hh
      by_cases c2 : (b.length : Int) + 1 ≤ old.id ∨ kn < old.known
      · rw [if_pos c2] at hh; cases hh
      · rw [if_neg c2] at hh; exact hh
    · rw [if_neg c] at hh; exact absurd hh c
  unfold fullE
  rw [if_pos hco]
  unfold nextE
  rw [if_neg (by omega : ¬ b.length = 400), if_neg (by show ¬ ((b.length : Int) + 1 ≠ _); omega)]
  rw [if_neg (by show ¬ lastKn b kn = true; rw [hk]; decide)]
  rw [show (rvp old ((b.length : Int) + 1) kn).rev = old.id from rfl, if_neg (by omega), show (old.id - 1).toNat = k by omega, ho]
  simp only [Option.elim_some]
  unfold oldE
  rw [show (rvp old ((b.length : Int) + 1) kn).rev = old.id from rfl, show (rvp old ((b.length : Int) + 1) kn).id = (b.length : Int) + 1 from rfl, show (rvp old ((b.length : Int) + 1) kn).known = kn from rfl]
  have hs : same (rvp old ((b.length : Int) + 1) kn) (rvp old ((b.length : Int) + 1) kn) = true := by
    have h0 : ∀ l : List Leg, ((l.zip l).any fun q => !legEq q.1 q.2) = false := fun l => (zip_any rfl).2 rfl
    simp [same, legsEq, h0]
  rw [if_neg (by omega), if_neg (by rw [hn]; decide), if_pos (⟨hr, hs⟩ : revE old ((b.length : Int) + 1) kn = 0 ∧ _)]
end Go.Sx.Tryd
/- Netting: the book of a settlement, and of its reversal. -/
namespace Go.Sx.Tryd
open Go Go.Sx
def tsB (cur : Int) (ts : List Tr) : List Post := ts.mapIdx fun i t => payP t cur ((i : Int) + 1) 10 5
theorem tsB_len (cur : Int) (ts : List Tr) : (tsB cur ts).length = ts.length := by simp [tsB]
theorem tsB_snoc (cur : Int) (ts : List Tr) (t : Tr) : tsB cur (ts ++ [t]) = tsB cur ts ++ [payP t cur ((ts.length : Int) + 1) 10 5] := by simp [tsB, List.mapIdx_append]
theorem tsB_at {cur : Int} {ts : List Tr} {k : Nat} {t : Tr} (h : ts[k]? = some t) : (tsB cur ts)[k]? = some (payP t cur ((k : Int) + 1) 10 5) := by simp [tsB, h]
theorem tsB_mem {cur : Int} {ts : List Tr} {p : Post} (h : p ∈ tsB cur ts) : p.rev = 0 ∧ p.known = 10 ∧ p.value = 5 ∧ p.so = .shut ∧ p.legs.length = 2 ∧ p.memo = [] := by
  obtain ⟨k, hk⟩ := List.mem_iff_getElem?.1 h
  have : k < ts.length := by rw [← tsB_len cur ts]; exact (List.getElem?_eq_some_iff.1 hk).1
  rw [tsB_at (List.getElem?_eq_getElem this)] at hk
  cases hk
  exact ⟨rfl, rfl, rfl, rfl, rfl, rfl⟩
theorem lastKn_all {b : List Post} {k : Int} (h : ∀ p ∈ b, p.known ≤ k) : lastKn b k = false := by
  unfold lastKn
  cases hl : b.getLast? with
  | none => rfl
  | some q =>
    have := h q (List.mem_of_getLast? hl)
    simp only [Option.elim_some, decide_eq_false_iff_not]
    omega
theorem ts_full {cur : Int} (hc : 0 ≤ cur) (hc4 : cur < 4) {ts : List Tr} (hl : ts.length ≤ 100) {t : Tr} (ht : t.Ok) : fullE (tsB cur ts) (payP t cur ((ts.length : Int) + 1) 10 5) = 0 :=
  full_new (by rw [tsB_len]; omega) (chk_pay ht hc hc4 (by omega) (by omega) (by decide) (by decide)) (by rw [tsB_len]; rfl) (lastKn_all fun p hp => by rw [(tsB_mem hp).2.1]; exact Int.le_refl _) rfl
theorem ts_right {cur : Int} (hc : 0 ≤ cur) (hc4 : cur < 4) : ∀ (r pre : List Tr), (pre ++ r).length ≤ 101 → (∀ t ∈ r, t.Ok) → rightB (tsB cur pre) = true → rightB (tsB cur (pre ++ r)) = true
  | [], pre, _, _, h => by rw [List.append_nil]; exact h
  | t :: r, pre, hl, ho, h => by
    rw [List.length_append, List.length_cons] at hl
    have ih := ts_right (cur := cur) hc hc4 r (pre ++ [t]) (by simp; omega) (fun x hx => ho x (by simp [hx])) (by
      rw [tsB_snoc, rightB_snoc, h, ts_full hc hc4 (by omega) (ho t (by simp))]
      rfl)
    rw [List.append_assoc, List.singleton_append] at ih
    exact ih
def rvL (cur : Int) (ts : List Tr) (k : Nat) : List Post := ((tsB cur ts).take k).mapIdx fun i p => rvp p ((ts.length : Int) + i + 1) 20
theorem rvL_len {cur : Int} {ts : List Tr} {k : Nat} (h : k ≤ ts.length) : (rvL cur ts k).length = k := by simp [rvL, tsB_len]; omega
theorem rvL_succ {cur : Int} {ts : List Tr} {k : Nat} {t : Tr} (h : ts[k]? = some t) : rvL cur ts (k + 1) = rvL cur ts k ++ [rvp (payP t cur ((k : Int) + 1) 10 5) ((ts.length : Int) + k + 1) 20] := by
  have hk : k < ts.length := (List.getElem?_eq_some_iff.1 h).1
  unfold rvL
  have hm : min k ts.length = k := by omega
  rw [List.take_add_one, tsB_at h, List.mapIdx_append]
  simp [tsB_len, hm]
theorem rvL_mem {cur : Int} {ts : List Tr} {k : Nat} {p : Post} (h : p ∈ rvL cur ts k) : p.known = 20 ∧ p.value = 5 ∧ p.so = .shut ∧ p.legs.length = 2 ∧ p.memo = [] ∧ 1 ≤ p.rev ∧ p.rev ≤ k := by
  obtain ⟨i, hi⟩ := List.mem_iff_getElem?.1 h
  have hlen := (List.getElem?_eq_some_iff.1 hi).1
  simp only [rvL, List.length_mapIdx, List.length_take, tsB_len] at hlen
  have hl : i < ts.length := by omega
  have he := tsB_at (cur := cur) (List.getElem?_eq_getElem hl)
  simp only [rvL, List.getElem?_mapIdx] at hi
  rw [List.getElem?_take_of_lt (by omega), he] at hi
  simp only [Option.map_some, Option.some.injEq] at hi
  subst hi
  exact ⟨rfl, rfl, rfl, rfl, rfl, by show (1 : Int) ≤ (i : Int) + 1; omega, by show (i : Int) + 1 ≤ k; omega⟩
theorem rv_full {cur : Int} (hc : 0 ≤ cur) (hc4 : cur < 4) {ts : List Tr} (hl : ts.length ≤ 100) {k : Nat} {t : Tr} (ht : t.Ok) (h : ts[k]? = some t) (hR : rightB (tsB cur ts ++ rvL cur ts k) = true) :
    revE (payP t cur ((k : Int) + 1) 10 5) ((ts.length : Int) + k + 1) 20 = 0 ∧ fullE (tsB cur ts ++ rvL cur ts k) (rvp (payP t cur ((k : Int) + 1) 10 5) ((ts.length : Int) + k + 1) 20) = 0 := by
  have hk : k < ts.length := (List.getElem?_eq_some_iff.1 h).1
  have hlen : (tsB cur ts ++ rvL cur ts k).length = ts.length + k := by rw [List.length_append, tsB_len, rvL_len (by omega)]
  have hr := pay_back ht (cur := cur) (id := (k : Int) + 1) (known := 10) (value := 5) hc hc4 (id' := (ts.length : Int) + k + 1) (kn := 20) (by omega) (by omega) (by omega) (by decide) (by decide) (by decide) (by decide)
  refine ⟨hr, ?_⟩
  have e : ((ts.length : Int) + k + 1) = ((tsB cur ts ++ rvL cur ts k).length : Int) + 1 := by rw [hlen]; omega
  rw [e] at hr ⊢
  refine full_rv hR (by omega) (k := k) ?_ (lastKn_all fun p hp => ?_) hr rfl ?_
  · rw [List.getElem?_append_left (by rw [tsB_len]; exact hk)]; exact tsB_at h
  · rcases List.mem_append.1 hp with hp | hp
    · rw [(tsB_mem hp).2.1]; decide
    · rw [(rvL_mem hp).1]; decide
  · rw [List.any_eq_false]
    intro p hp
    show ¬ (p.rev == (k : Int) + 1) = true
    rw [beq_iff_eq]
    rcases List.mem_append.1 hp with hp | hp
    · rw [(tsB_mem hp).1]; omega
    · have := (rvL_mem hp).2.2.2.2.2; omega
theorem rv_right {cur : Int} (hc : 0 ≤ cur) (hc4 : cur < 4) {ts : List Tr} (hl : ts.length ≤ 100) (ho : ∀ t ∈ ts, t.Ok) : ∀ k : Nat, k ≤ ts.length → rightB (tsB cur ts ++ rvL cur ts k) = true
  | 0, _ => by
    have := ts_right hc hc4 ts [] (by simp; omega) ho rfl
    simpa [rvL] using this
  | k + 1, h => by
    have ih := rv_right hc hc4 hl ho k (by omega)
    have hk : ts[k]? = some (ts[k]'(by omega)) := List.getElem?_eq_getElem _
    rw [rvL_succ hk, ← List.append_assoc, rightB_snoc, ih, (rv_full hc hc4 hl (ho _ (List.getElem_mem _)) hk ih).2]
    rfl
end Go.Sx.Tryd
