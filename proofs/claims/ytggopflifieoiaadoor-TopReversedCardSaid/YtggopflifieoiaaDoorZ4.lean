/- Netting: what the book of a settlement comes to. -/
import Derived.Test.YtggopflifieoiaaDoorP1
import Derived.Test.YtggopflifieoiaaDoorY1
namespace Go.Sx.Tryd
open Go Go.Sx
def balS (acc cur k v : Int) : List Post → Int
  | [] => 0
  | p :: l => (if p.value ≤ v ∧ p.known ≤ k then sumIf (onW acc cur) p.legs else 0) + balS acc cur k v l
theorem balS_append (acc cur k v : Int) (a b : List Post) : balS acc cur k v (a ++ b) = balS acc cur k v a + balS acc cur k v b := by
  induction a with
  | nil => simp [balS]
  | cons p a ih => simp only [List.cons_append, balS, ih]; omega
theorem pay_on (t : Tr) (cur id kn v : Int) (b : Nat) : sumIf (onW ((b : Int) + 1) cur) (payP t cur id kn v).legs = flow [t] b := by
  simp only [payP, sumIf, onW, flow, beq_self_eq_true, Bool.and_true, beq_iff_eq]
  by_cases c1 : t.fr = b
  · by_cases c2 : t.to = b
    · rw [if_pos (by omega), if_pos (by omega), if_pos c2, if_pos c1]; omega
    · rw [if_pos (by omega), if_neg (by omega), if_neg c2, if_pos c1]; omega
  · by_cases c2 : t.to = b
    · rw [if_neg (by omega), if_pos (by omega), if_pos c2, if_neg c1]; omega
    · rw [if_neg (by omega), if_neg (by omega), if_neg c2, if_neg c1]; omega
theorem sumIf_neg (a c : Int) : ∀ l : List Leg, sumIf (onW a c) (l.map neg) = - sumIf (onW a c) l
  | [] => rfl
  | x :: l => by
    have ih := sumIf_neg a c l
    have e : onW a c (neg x) = onW a c x := rfl
    simp only [List.map_cons, sumIf, ih, e]
    split <;> simp [neg] <;> omega
theorem bal_ts (cur k v : Int) (b : Nat) : ∀ (r pre : List Tr), balS ((b : Int) + 1) cur k v (tsB cur pre) = (if 5 ≤ v ∧ 10 ≤ k then flow pre b else 0) → balS ((b : Int) + 1) cur k v (tsB cur (pre ++ r)) = (if 5 ≤ v ∧ 10 ≤ k then flow (pre ++ r) b else 0)
  | [], pre, h => by rw [List.append_nil]; exact h
  | t :: r, pre, h => by
    have ih := bal_ts cur k v b r (pre ++ [t]) (by
      rw [tsB_snoc, balS_append, h, flow_append]
      simp only [balS, pay_on]
      rw [show (payP t cur ((pre.length : Int) + 1) 10 5).value = 5 from rfl, show (payP t cur ((pre.length : Int) + 1) 10 5).known = 10 from rfl]
      split <;> omega)
    rw [List.append_assoc, List.singleton_append] at ih
    exact ih
theorem bal_rv {cur k v : Int} {b : Nat} {ts : List Tr} : ∀ n : Nat, n ≤ ts.length → balS ((b : Int) + 1) cur k v (rvL cur ts n) = (if 5 ≤ v ∧ 20 ≤ k then - flow (ts.take n) b else 0)
  | 0, _ => by simp [rvL, balS, flow]
  | n + 1, h => by
    have ih := bal_rv (cur := cur) (k := k) (v := v) (b := b) (ts := ts) n (by omega)
    have hn : n < ts.length := by omega
    have hk : ts[n]? = some (ts[n]'hn) := List.getElem?_eq_getElem hn
    rw [rvL_succ hk, balS_append, ih, List.take_add_one, hk, flow_append]
    simp only [balS]
    rw [show (rvp (payP (ts[n]'hn) cur ((n : Int) + 1) 10 5) ((ts.length : Int) + n + 1) 20).value = 5 from rfl, show (rvp (payP (ts[n]'hn) cur ((n : Int) + 1) 10 5) ((ts.length : Int) + n + 1) 20).known = 20 from rfl, show (rvp (payP (ts[n]'hn) cur ((n : Int) + 1) 10 5) ((ts.length : Int) + n + 1) 20).legs = (payP (ts[n]'hn) cur ((n : Int) + 1) 10 5).legs.map neg from rfl, sumIf_neg, pay_on]
    simp only [Option.toList]
    split <;> omega
theorem bal_all (cur k v : Int) (b : Nat) (ts : List Tr) : balS ((b : Int) + 1) cur k v (tsB cur ts ++ rvL cur ts ts.length) = if 10 ≤ k ∧ k < 20 ∧ 5 ≤ v then flow ts b else 0 := by
  have h1 := bal_ts cur k v b ts [] (by simp [tsB, balS, flow])
  have h2 := bal_rv (cur := cur) (k := k) (v := v) (b := b) (ts := ts) ts.length (Nat.le_refl _)
  rw [List.nil_append] at h1
  rw [List.take_length] at h2
  rw [balS_append, h1, h2]
  by_cases c1 : 5 ≤ v
  · by_cases c2 : 10 ≤ k
    · by_cases c3 : 20 ≤ k
      · rw [if_pos ⟨c1, c2⟩, if_pos ⟨c1, c3⟩, if_neg (by omega)]; omega
      · rw [if_pos ⟨c1, c2⟩, if_neg (by omega), if_pos (by omega)]; omega
    · rw [if_neg (by omega), if_neg (by omega), if_neg (by omega)]; omega
  · rw [if_neg (by omega), if_neg (by omega), if_neg (by omega)]; omega
theorem rvL_at {cur : Int} {ts : List Tr} {i m : Nat} {t : Tr} (h : ts[i]? = some t) (hi : i < m) (_hm : m ≤ ts.length) : (rvL cur ts m)[i]? = some (rvp (payP t cur ((i : Int) + 1) 10 5) ((ts.length : Int) + i + 1) 20) := by
  unfold rvL
  rw [List.getElem?_mapIdx, List.getElem?_take_of_lt hi, tsB_at h]
  rfl
theorem none_stands (cur : Int) (ts : List Tr) : ∀ p ∈ tsB cur ts ++ rvL cur ts ts.length, (p.rev == 0 && !((tsB cur ts ++ rvL cur ts ts.length).any fun q => q.rev == p.id)) = false := by
  intro p hp
  rcases List.mem_append.1 hp with hp | hp
  · obtain ⟨i, hi⟩ := List.mem_iff_getElem?.1 hp
    have hl : i < ts.length := by rw [← tsB_len cur ts]; exact (List.getElem?_eq_some_iff.1 hi).1
    have ht := List.getElem?_eq_getElem hl
    rw [tsB_at ht] at hi
    cases hi
    rw [Bool.and_eq_false_iff]
    refine .inr ?_
    rw [Bool.not_eq_false', List.any_eq_true]
    have hm := List.mem_of_getElem? (rvL_at (cur := cur) ht hl (Nat.le_refl _))
    exact ⟨_, List.mem_append_right _ hm, by show ((i : Int) + 1 == (i : Int) + 1) = true; simp⟩
  · have := (rvL_mem hp).2.2.2.2.2
    rw [Bool.and_eq_false_iff]
    exact .inl (by rw [beq_eq_false_iff_ne]; omega)
def netS (cur day : Int) (l : List Int) (c : Cl) : List Int := if c.cur = cur ∧ c.day = day then pay l c.fr.toNat c.to.toNat (-c.n) else l
theorem net_step {cur day : Int} {l : List Int} {c : Cl} (h : c.Ok) (h1 : l.length = 16) (h2 : total l = 0) {m : Int} (h3 : ∀ i, -m ≤ at0 l i ∧ at0 l i ≤ m) :
    (netS cur day l c).length = 16 ∧ total (netS cur day l c) = 0 ∧ ∀ i, -(m + 1000000000000) ≤ at0 (netS cur day l c) i ∧ at0 (netS cur day l c) i ≤ m + 1000000000000 := by
  obtain ⟨f0, f1, t0, t1, ne, lo, hi⟩ := h
  unfold netS
  split
  · have hf : c.fr.toNat < l.length := by omega
    have ht : c.to.toNat < l.length := by omega
    have hne : c.fr.toNat ≠ c.to.toNat := by omega
    refine ⟨(pay_len ..).trans h1, (total_pay hf ht hne).trans h2, fun i => ?_⟩
    rw [at0_pay hf ht hne]
    have := h3 i
    by_cases c1 : c.fr.toNat = i
    · rw [if_pos c1, if_neg (by omega)]; omega
    · by_cases c2 : c.to.toNat = i
      · rw [if_neg c1, if_pos c2]; omega
      · rw [if_neg c1, if_neg c2]; omega
  · exact ⟨h1, h2, fun i => by have := h3 i; omega⟩
theorem net_all {cur day : Int} : ∀ (r : List Cl) (l : List Int) (m : Int), (∀ c ∈ r, c.Ok) → l.length = 16 → total l = 0 → (∀ i, -m ≤ at0 l i ∧ at0 l i ≤ m) →
    (r.foldl (netS cur day) l).length = 16 ∧ total (r.foldl (netS cur day) l) = 0 ∧ ∀ i, -(m + 1000000000000 * r.length) ≤ at0 (r.foldl (netS cur day) l) i ∧ at0 (r.foldl (netS cur day) l) i ≤ m + 1000000000000 * r.length
  | [], l, m, _, h1, h2, h3 => ⟨h1, h2, fun i => by have := h3 i; simp only [List.foldl_nil, List.length_nil]; omega⟩
  | c :: r, l, m, ho, h1, h2, h3 => by
    obtain ⟨k1, k2, k3⟩ := net_step (cur := cur) (day := day) (ho c (by simp)) h1 h2 h3
    obtain ⟨j1, j2, j3⟩ := net_all r (netS cur day l c) (m + 1000000000000) (fun x hx => ho x (by simp [hx])) k1 k2 k3
    refine ⟨j1, j2, fun i => ?_⟩
    have := j3 i
    rw [List.foldl_cons, List.length_cons]
    omega
end Go.Sx.Tryd
/- Netting: how it is settled. -/
namespace Go.Sx.Tryd
open Go Go.Sx
def skip (w : Int → Bool) (l : List Int) (i : Nat) : Nat := i + ((l.drop i).takeWhile w).length
theorem skip_in {w : Int → Bool} {l : List Int} {i : Nat} {x : Int} (h : l[i]? = some x) (hw : w x = true) : skip w l i = skip w l (i + 1) := by
  have hi : i < l.length := (List.getElem?_eq_some_iff.1 h).1
  have hx : l[i] = x := (List.getElem?_eq_some_iff.1 h).2
  unfold skip
  rw [List.drop_eq_getElem_cons hi, hx, List.takeWhile_cons_of_pos hw, List.length_cons]
  omega
theorem skip_out {w : Int → Bool} {l : List Int} {i : Nat} {x : Int} (h : l[i]? = some x) (hw : w x = false) : skip w l i = i := by
  have hi : i < l.length := (List.getElem?_eq_some_iff.1 h).1
  have hx : l[i] = x := (List.getElem?_eq_some_iff.1 h).2
  unfold skip
  rw [List.drop_eq_getElem_cons hi, hx, List.takeWhile_cons_of_neg (by rw [hw]; decide)]
  rfl
theorem skip_end {w : Int → Bool} {l : List Int} {i : Nat} (h : l.length ≤ i) : skip w l i = i := by
  unfold skip
  rw [List.drop_eq_nil_of_le h]
  rfl
theorem at0_some {l : List Int} {i : Nat} {x : Int} (h : l[i]? = some x) : at0 l i = x := by unfold at0; rw [List.getD_eq_getElem?_getD, h]; rfl
theorem skip_spec {w : Int → Bool} {l : List Int} : ∀ (n i : Nat), l.length ≤ i + n → i ≤ l.length → i ≤ skip w l i ∧ skip w l i ≤ l.length ∧ (∀ j, i ≤ j → j < skip w l i → w (at0 l j) = true) ∧ (skip w l i < l.length → w (at0 l (skip w l i)) = false)
  | 0, i, h, h' => by
    rw [skip_end (by omega)]
    exact ⟨Nat.le_refl _, h', fun j h1 h2 => by omega, fun h1 => by omega⟩
  | n + 1, i, h, h' => by
    by_cases c : i < l.length
    · have hx : l[i]? = some l[i] := List.getElem?_eq_getElem c
      cases hw : w l[i] with
      | true =>
        obtain ⟨k1, k2, k3, k4⟩ := skip_spec (w := w) (l := l) n (i + 1) (by omega) (by omega)
        rw [skip_in hx hw]
        refine ⟨by omega, k2, fun j h1 h2 => ?_, k4⟩
        by_cases e : j = i
        · subst e; rw [at0_some hx]; exact hw
        · exact k3 j (by omega) h2
      | false =>
        rw [skip_out hx hw]
        exact ⟨Nat.le_refl _, h', fun j h1 h2 => by omega, fun _ => by rw [at0_some hx]; exact hw⟩
    · rw [skip_end (by omega)]
      exact ⟨Nat.le_refl _, h', fun j h1 h2 => by omega, fun h1 => by omega⟩
structure Stl (net left : List Int) (out : List Tr) (f t : Nat) : Prop where
  inv : Inv net left out
  len : left.length = 16
  f16 : f ≤ 16
  t16 : t ≤ 16
  fn : ∀ j, j < f → 0 ≤ at0 left j
  tn : ∀ j, j < t → at0 left j ≤ 0
  bd : ∀ i, -100000000000000 ≤ at0 left i ∧ at0 left i ≤ 100000000000000
  ok : ∀ x ∈ out, x.Ok
  cnt : out.length + nz left ≤ 16
def up0 (x : Int) : Bool := decide (0 ≤ x)
def dn0 (x : Int) : Bool := decide (x ≤ 0)
theorem stl_new {net : List Int} (h1 : net.length = 16) (h2 : total net = 0) (h3 : ∀ i, -100000000000000 ≤ at0 net i ∧ at0 net i ≤ 100000000000000) : Stl net net [] 0 0 :=
  ⟨⟨rfl, h2, fun i => by simp [flow]⟩, h1, by omega, by omega, fun j h => by omega, fun j h => by omega, h3, by simp, by have := nz_le net; simp; omega⟩
theorem stl_f {net left : List Int} {out : List Tr} {f t : Nat} (h : Stl net left out f t) : Stl net left out (skip up0 left f) t ∧ (skip up0 left f < 16 → at0 left (skip up0 left f) < 0) := by
  obtain ⟨k1, k2, k3, k4⟩ := skip_spec (w := up0) (l := left) 16 f (by have := h.len; omega) (by have := h.len; have := h.f16; omega)
  refine ⟨{ h with f16 := by have := h.len; omega, fn := fun j hj => ?_ }, fun hl => ?_⟩
  · by_cases c : j < f
    · exact h.fn j c
    · have := k3 j (by omega) hj
      simpa [up0] using this
  · have := k4 (by have := h.len; omega)
    simp only [up0, decide_eq_false_iff_not] at this
    omega
theorem stl_t {net left : List Int} {out : List Tr} {f t : Nat} (h : Stl net left out f t) : Stl net left out f (skip dn0 left t) ∧ (skip dn0 left t < 16 → 0 < at0 left (skip dn0 left t)) := by
  obtain ⟨k1, k2, k3, k4⟩ := skip_spec (w := dn0) (l := left) 16 t (by have := h.len; omega) (by have := h.len; have := h.t16; omega)
  refine ⟨{ h with t16 := by have := h.len; omega, tn := fun j hj => ?_ }, fun hl => ?_⟩
  · by_cases c : j < t
    · exact h.tn j c
    · have := k3 j (by omega) hj
      simpa [dn0] using this
  · have := k4 (by have := h.len; omega)
    simp only [dn0, decide_eq_false_iff_not] at this
    omega
theorem stl_pay {net left : List Int} {out : List Tr} {f t : Nat} (h : Stl net left out f t) (hf : f < 16) (ht : t < 16) (h1 : at0 left f < 0) (h2 : 0 < at0 left t) {n : Int} (hn : n = min (-at0 left f) (at0 left t)) :
    f ≠ t ∧ 1 ≤ n ∧ n ≤ 100000000000000 ∧ nz (pay left f t n) < nz left ∧ Stl net (pay left f t n) (out ++ [⟨f, t, n⟩]) f t := by
  have hne : f ≠ t := fun e => by subst e; omega
  have hfl : f < left.length := by have := h.len; omega
  have htl : t < left.length := by have := h.len; omega
  have b1 := h.bd f
  have b2 := h.bd t
  have hz := nz_pay hfl htl hne h1 h2 hn
  have hlo : 1 ≤ n := by omega
  have hhi : n ≤ 100000000000000 := by omega
  refine ⟨hne, hlo, hhi, hz, inv_pay h.inv hfl htl hne, (pay_len ..).trans h.len, by omega, by omega, fun j hj => ?_, fun j hj => ?_, fun i => ?_, fun x hx => ?_, ?_⟩
  · rw [at0_pay hfl htl hne, if_neg (by omega)]
    have := h.fn j hj
    by_cases c : t = j
    · subst c; rw [if_pos rfl]; omega
    · rw [if_neg c]; omega
  · rw [at0_pay hfl htl hne, if_neg (by omega : ¬ t = j)]
    have := h.tn j hj
    by_cases c : f = j
    · subst c; rw [if_pos rfl]; omega
    · rw [if_neg c]; omega
  · rw [at0_pay hfl htl hne]
    have := h.bd i
    by_cases c : f = i
    · subst c; rw [if_pos rfl, if_neg (fun e => hne e.symm)]; omega
    · by_cases c2 : t = i
      · subst c2; rw [if_neg c, if_pos rfl]; omega
      · rw [if_neg c, if_neg c2]; omega
  · rcases List.mem_append.1 hx with hx | hx
    · exact h.ok x hx
    · rw [List.mem_singleton] at hx
      subst hx
      exact ⟨hf, ht, hne, hlo, hhi⟩
  · have := h.cnt
    rw [List.length_append, List.length_singleton]
    omega
theorem stl_end {net left : List Int} {out : List Tr} {f t : Nat} (h : Stl net left out f t) (he : f = 16 ∨ t = 16) : (∀ i, at0 net i = flow out i) ∧ (∀ x ∈ out, x.Ok) ∧ out.length ≤ 16 := by
  refine ⟨inv_end h.inv ?_, h.ok, by have := h.cnt; omega⟩
  rcases he with e | e
  · exact .inl fun i hi => h.fn i (by have := h.len; omega)
  · exact .inr fun i hi => h.tn i (by have := h.len; omega)
end Go.Sx.Tryd
