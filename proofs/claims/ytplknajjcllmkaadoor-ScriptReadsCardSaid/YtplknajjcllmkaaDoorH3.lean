/- The request of bytes, in plain Lean: there and back. -/
import Derived.Test.YtplknajjcllmkaaDoorH2
namespace Go.Sx.Tryd
open Go Go.Sx
def zA (l : List It) (i : Nat) : Int := match l[i]? with
  | some (.z n) => n
  | _ => 0
def tA (l : List It) (i : Nat) : List UInt8 := match l[i]? with
  | some (.t s) => s
  | _ => []
def cA (l : List It) (i : Nat) : Int := match l[i]? with
  | some (.m c _) => c
  | _ => 0
def mA (l : List It) (i : Nat) : Int := match l[i]? with
  | some (.m _ n) => n
  | _ => 0
def bA (l : List It) (i : Nat) : Bool := match l[i]? with
  | some (.b x) => x
  | _ => false
def lA (l : List It) (i : Nat) : List Leg := match l[i]? with
  | some (.ls x) => x
  | _ => []
def dn (n : Int) : Int := if n32 n then n else 0
def bad (l : List It) : Bool := !(n32 (zA l 9) && n32 (zA l 10) && n32 (zA l 13) && n32 (zA l 18))
def reqOf (d : Int) (l : List It) : Req where
  kd := d
  cid := zA l 0
  cname := tA l 1
  ckind := zA l 2
  racc := zA l 3
  rkind := zA l 4
  rcur := zA l 5
  rcust := zA l 6
  rprod := zA l 7
  rpart := zA l 8
  rfrom := dn (zA l 9)
  rto := dn (zA l 10)
  acc := zA l 11
  id := IntKind.wrap .i64 (zA l 12 + zA l 17)
  day := IntKind.wrap .i32 (dn (zA l 13) + dn (zA l 18))
  cur := cA l 16
  minor := mA l 16
  last := bA l 19
  so := if lA l 15 = [] then .nil else .shut
  sz := if lA l 15 = [] then 0 else 3
  legs := lA l 15
  memo := tA l 14
  text := tA l 20
def zeroR : Req := ⟨0, 0, [], 0, 0, 0, 0, 0, 0, 0, 0, 0, 0, 0, 0, 0, 0, false, .nil, 0, [], [], []⟩
def endE (b : List UInt8) (f : Int) : Int := if f = 0 then (if b = [] then 0 else 3) else f
def dv (s : List UInt8) := step 0 qV s 0
def dR (s : List UInt8) := rdO ((dv s).1 : Int) SH (dv s).2.1 0
def decP (s : List UInt8) : Req := reqOf ((dv s).1 : Int) (dR s).1
def decE (s : List UInt8) : Int :=
  if (dv s).2.2 ≠ 0 then (dv s).2.2 else if 11 ≤ (dv s).1 then 3
  else if endE (dR s).2.1 (dR s).2.2 ≠ 0 then endE (dR s).2.1 (dR s).2.2
  else if chk (decP s) ≠ 12 ∧ bad (dR s).1 = true then 9 else chk (decP s)
structure Typ (p : Req) : Prop where
  from' : -2147483648 ≤ p.rfrom ∧ p.rfrom ≤ 2147483647
  to' : -2147483648 ≤ p.rto ∧ p.rto ≤ 2147483647
  day : -2147483648 ≤ p.day ∧ p.day ≤ 2147483647
theorem FitO.z {d k : Int} {ss : List (Int × Sh)} {l : List It} (h : FitO d ((k, .z) :: ss) l) : ∃ n t, l = .z n :: t ∧ (hasB d k = false → n = 0) ∧ (-9223372036854775808 ≤ n ∧ n ≤ 9223372036854775807) ∧ FitO d ss t := by
  cases h with
  | cons h g r =>
    rename_i i t
    cases hk : hasB d k with
    | true =>
      have := h hk
      cases i with
      | z n => exact ⟨n, t, rfl, (fun e => absurd e (by simp)), this, r⟩
      | t s => exact this.elim
      | m a b => exact this.elim
      | b x => exact this.elim
      | ls x => exact this.elim
    | false => rw [g hk]; exact ⟨0, t, rfl, fun _ => rfl, by omega, r⟩
theorem FitO.t {d k : Int} {m : Nat} {ss : List (Int × Sh)} {l : List It} (h : FitO d ((k, .t m) :: ss) l) : ∃ s t, l = .t s :: t ∧ (hasB d k = false → s = []) ∧ s.length ≤ m ∧ FitO d ss t := by
  cases h with
  | cons h g r =>
    rename_i i t
    cases hk : hasB d k with
    | true =>
      have := h hk
      cases i with
      | z n => exact this.elim
      | t s => exact ⟨s, t, rfl, (fun e => absurd e (by simp)), this.1, r⟩
      | m a b => exact this.elim
      | b x => exact this.elim
      | ls x => exact this.elim
    | false => rw [g hk]; exact ⟨[], t, rfl, fun _ => rfl, by simp, r⟩
theorem FitO.m {d k : Int} {ss : List (Int × Sh)} {l : List It} (h : FitO d ((k, .m) :: ss) l) : ∃ a n t, l = .m a n :: t ∧ (hasB d k = false → a = 0 ∧ n = 0) ∧ FitO d ss t := by
  cases h with
  | cons h g r =>
    rename_i i t
    cases hk : hasB d k with
    | true =>
      have := h hk
      cases i with
      | z n => exact this.elim
      | t s => exact this.elim
      | m a b => exact ⟨a, b, t, rfl, (fun e => absurd e (by simp)), r⟩
      | b x => exact this.elim
      | ls x => exact this.elim
    | false => rw [g hk]; exact ⟨0, 0, t, rfl, fun _ => ⟨rfl, rfl⟩, r⟩
theorem FitO.b {d k : Int} {ss : List (Int × Sh)} {l : List It} (h : FitO d ((k, .b) :: ss) l) : ∃ x t, l = .b x :: t ∧ (hasB d k = false → x = false) ∧ FitO d ss t := by
  cases h with
  | cons h g r =>
    rename_i i t
    cases hk : hasB d k with
    | true =>
      have := h hk
      cases i with
      | z n => exact this.elim
      | t s => exact this.elim
      | m a b => exact this.elim
      | b x => exact ⟨x, t, rfl, (fun e => absurd e (by simp)), r⟩
      | ls x => exact this.elim
    | false => rw [g hk]; exact ⟨false, t, rfl, fun _ => rfl, r⟩
theorem FitO.ls {d k : Int} {ss : List (Int × Sh)} {l : List It} (h : FitO d ((k, .ls) :: ss) l) : ∃ x t, l = .ls x :: t ∧ (hasB d k = false → x = []) ∧ x.length ≤ 16 ∧ FitO d ss t := by
  cases h with
  | cons h g r =>
    rename_i i t
    cases hk : hasB d k with
    | true =>
      have := h hk
      cases i with
      | z n => exact this.elim
      | t s => exact this.elim
      | m a b => exact this.elim
      | b x => exact this.elim
      | ls x => exact ⟨x, t, rfl, (fun e => absurd e (by simp)), this.1, r⟩
    | false => rw [g hk]; exact ⟨[], t, rfl, fun _ => rfl, by simp, r⟩
theorem fit_its {p : Req} (h : Fine p) (t : Typ p) : FitO p.kd SH (its p) := by
  have o := h.only
  have b1 := h.acc; have b2 := h.id; have b3 := h.cid; have b4 := h.ckind; have b5 := h.racc; have b6 := h.rkind; have b7 := h.rcust; have b8 := h.rprod; have b9 := h.rpart
  have b10 := h.rcur; have b11 := t.from'; have b12 := t.to'; have b13 := t.day
  have z (k : Int) (n : Int) (hn : -9223372036854775808 ≤ n ∧ n ≤ 9223372036854775807) : hasB p.kd k = true → Fit .z (.z n) := fun _ => hn
  have i1 : -9223372036854775808 ≤ (if hasB p.kd 8 then p.id else 0) ∧ (if hasB p.kd 8 then p.id else 0) ≤ 9223372036854775807 := by split <;> omega
  have i2 : -9223372036854775808 ≤ (if hasB p.kd 256 then p.id else 0) ∧ (if hasB p.kd 256 then p.id else 0) ≤ 9223372036854775807 := by split <;> omega
  have i3 : -9223372036854775808 ≤ (if hasB p.kd 16 then p.day else 0) ∧ (if hasB p.kd 16 then p.day else 0) ≤ 9223372036854775807 := by split <;> omega
  have i4 : -9223372036854775808 ≤ (if hasB p.kd 512 then p.day else 0) ∧ (if hasB p.kd 512 then p.day else 0) ≤ 9223372036854775807 := by split <;> omega
  refine .cons (z 1 _ (by omega)) (fun e => ?_) ?_
  · have := o.cid; simp only [onlyR, e] at this; rw [← this]; rfl
  refine .cons (fun _ => ⟨h.cname, by have := h.cname; omega⟩) (fun e => ?_) ?_
  · have := o.cname; simp only [onlyR, e] at this; rw [← this]; rfl
  refine .cons (z 1 _ (by omega)) (fun e => ?_) ?_
  · have := o.ckind; simp only [onlyR, e] at this; rw [← this]; rfl
  refine .cons (z 2 _ (by omega)) (fun e => ?_) ?_
  · have := o.racc; simp only [onlyR, e] at this; rw [← this]; rfl
  refine .cons (z 2 _ (by omega)) (fun e => ?_) ?_
  · have := o.rkind; simp only [onlyR, e] at this; rw [← this]; rfl
  refine .cons (z 2 _ (by omega)) (fun e => ?_) ?_
  · have := o.rcur; simp only [onlyR, e] at this; rw [← this]; rfl
  refine .cons (z 2 _ (by omega)) (fun e => ?_) ?_
  · have := o.rcust; simp only [onlyR, e] at this; rw [← this]; rfl
  refine .cons (z 2 _ (by omega)) (fun e => ?_) ?_
  · have := o.rprod; simp only [onlyR, e] at this; rw [← this]; rfl
  refine .cons (z 2 _ (by omega)) (fun e => ?_) ?_
  · have := o.rpart; simp only [onlyR, e] at this; rw [← this]; rfl
  refine .cons (z 2 _ (by omega)) (fun e => ?_) ?_
  · have := o.rfrom; simp only [onlyR, e] at this; rw [← this]; rfl
  refine .cons (z 2 _ (by omega)) (fun e => ?_) ?_
  · have := o.rto; simp only [onlyR, e] at this; rw [← this]; rfl
  refine .cons (z 4 _ (by omega)) (fun e => ?_) ?_
  · have := o.acc; simp only [onlyR, e] at this; rw [← this]; rfl
  refine .cons (z 8 _ i1) (fun e => by rw [e]; rfl) ?_
  refine .cons (z 16 _ i3) (fun e => by rw [e]; rfl) ?_
  refine .cons (fun _ => ⟨h.memo, by have := h.memo; omega⟩) (fun e => ?_) ?_
  · have := o.memo; simp only [onlyR, e] at this; rw [← this]; rfl
  refine .cons (fun _ => ⟨h.legs, h.fit⟩) (fun e => ?_) ?_
  · have := o.legs; simp only [onlyR, e] at this; rw [← this]; rfl
  refine .cons (fun _ => ⟨h.cur, h.minor⟩) (fun e => ?_) ?_
  · have := o.cur; have u := o.minor; simp only [onlyR, e] at this u; rw [← this, ← u]; rfl
  refine .cons (z 256 _ i2) (fun e => by rw [e]; rfl) ?_
  refine .cons (z 512 _ i4) (fun e => by rw [e]; rfl) ?_
  refine .cons (fun _ => trivial) (fun e => ?_) ?_
  · have := o.last; simp only [onlyR, e] at this; rw [← this]; rfl
  refine .cons (fun _ => ⟨h.text, by have := h.text; omega⟩) (fun e => ?_) .nil
  have := o.text; simp only [onlyR, e] at this; rw [← this]; rfl
theorem SameR.symm {p q : Req} (h : SameR p q) : SameR q p :=
  ⟨h.kd.symm, h.cid.symm, h.cname.symm, h.ckind.symm, h.racc.symm, h.rkind.symm, h.rcur.symm, h.rcust.symm, h.rprod.symm, h.rpart.symm, h.rfrom.symm, h.rto.symm, h.acc.symm, h.id.symm, h.day.symm, h.cur.symm, h.minor.symm, h.last.symm, h.legs.symm, h.memo.symm, h.text.symm⟩
theorem SameR.trans {p q r : Req} (h : SameR p q) (g : SameR q r) : SameR p r :=
  ⟨h.kd.trans g.kd, h.cid.trans g.cid, h.cname.trans g.cname, h.ckind.trans g.ckind, h.racc.trans g.racc, h.rkind.trans g.rkind, h.rcur.trans g.rcur, h.rcust.trans g.rcust, h.rprod.trans g.rprod, h.rpart.trans g.rpart, h.rfrom.trans g.rfrom, h.rto.trans g.rto, h.acc.trans g.acc, h.id.trans g.id, h.day.trans g.day, h.cur.trans g.cur, h.minor.trans g.minor, h.last.trans g.last, h.legs.trans g.legs, h.memo.trans g.memo, h.text.trans g.text⟩
theorem only_same {p q : Req} (h : SameR p q) : SameR (onlyR p) (onlyR q) := by
  obtain ⟨h1, h2, h3, h4, h5, h6, h7, h8, h9, h10, h11, h12, h13, h14, h15, h16, h17, h18, h19, h20, h21⟩ := h
  constructor <;> simp only [onlyR, *]
theorem same_same {p q r s : Req} (h : SameR p q) (g : SameR r s) : sameB p r = sameB q s := by
  rw [Bool.eq_iff_iff, sameB_iff, sameB_iff]
  exact ⟨fun k => (h.symm.trans k).trans g, fun k => (h.trans k).trans g.symm⟩
theorem chk_same {p q : Req} (h : SameR p q) : chk p = chk q := by
  have ho := only_same h
  unfold chk
  rw [mons_same ho, nums_same ho, ho.rcur, same_same ho h, h.kd, h.cname, h.memo, h.text, h.legs]
theorem n32_iff {n : Int} : n32 n = true ↔ -2147483648 ≤ n ∧ n ≤ 2147483647 := by simp [n32]
theorem dn_id {n : Int} (h : -2147483648 ≤ n) (h' : n ≤ 2147483647) : dn n = n := by unfold dn; rw [if_pos (n32_iff.2 ⟨h, h'⟩)]
theorem dn_range (n : Int) : -2147483648 ≤ dn n ∧ dn n ≤ 2147483647 := by
  unfold dn
  split
  · rename_i h; exact n32_iff.1 h
  · omega
theorem reqOf_its {p : Req} (h : Fine p) (t : Typ p) : SameR (reqOf p.kd (its p)) p ∧ bad (its p) = false := by
  have o := h.only; have hk := h.k
  have b2 := h.id; have b11 := t.from'; have b12 := t.to'; have b13 := t.day
  have hid : IntKind.wrap .i64 ((if hasB p.kd 8 then p.id else 0) + (if hasB p.kd 256 then p.id else 0)) = p.id := by
    have e := o.id
    simp only [onlyR, hk.id] at e
    cases h8 : hasB p.kd 8 with
    | true => rw [hk.id2 h8]; simp only [if_true, Bool.false_eq_true, if_false]; rw [wi64 (by omega) (by omega)]; omega
    | false =>
      rw [h8, Bool.false_or] at e
      rw [e]; simp only [Bool.false_eq_true, if_false]; rw [wi64 (by omega) (by omega)]; omega
  have d1 : dn (if hasB p.kd 16 then p.day else 0) = if hasB p.kd 16 then p.day else 0 := by split <;> exact dn_id (by omega) (by omega)
  have d2 : dn (if hasB p.kd 512 then p.day else 0) = if hasB p.kd 512 then p.day else 0 := by split <;> exact dn_id (by omega) (by omega)
  have n1 : n32 (if hasB p.kd 16 then p.day else 0) = true := by split <;> exact n32_iff.2 (by omega)
  have n2 : n32 (if hasB p.kd 512 then p.day else 0) = true := by split <;> exact n32_iff.2 (by omega)
  have hday : IntKind.wrap .i32 ((if hasB p.kd 16 then p.day else 0) + (if hasB p.kd 512 then p.day else 0)) = p.day := by
    have e := o.day
    simp only [onlyR, hk.day] at e
    cases h8 : hasB p.kd 16 with
    | true => rw [hk.day2 h8]; simp only [if_true, Bool.false_eq_true, if_false]; rw [wi32 (by omega) (by omega)]; omega
    | false =>
      rw [h8, Bool.false_or] at e
      rw [e]; simp only [Bool.false_eq_true, if_false]; rw [wi32 (by omega) (by omega)]; omega
  constructor
  · refine ⟨rfl, rfl, rfl, rfl, rfl, rfl, rfl, rfl, rfl, rfl, dn_id b11.1 b11.2, dn_id b12.1 b12.2, rfl, hid, ?_, rfl, rfl, rfl, rfl, rfl, rfl⟩
    show IntKind.wrap .i32 (dn (if hasB p.kd 16 then p.day else 0) + dn (if hasB p.kd 512 then p.day else 0)) = _
    rw [d1, d2]; exact hday
  · unfold bad
    show (!(n32 p.rfrom && n32 p.rto && n32 (if hasB p.kd 16 then p.day else 0) && n32 (if hasB p.kd 512 then p.day else 0))) = false
    rw [n1, n2, n32_iff.2 b11, n32_iff.2 b12]; rfl
theorem enc_dv {p : Req} (h : Kd p.kd) (r : List UInt8) : dv (enc p ++ r) = (p.kd.toNat, oB p.kd SH (its p) ++ r, 0) := by
  have := h.lo; have := h.hi
  unfold dv enc
  rw [List.append_assoc]
  exact step_w (qV_vb (by omega) _)
theorem dec_enc {p : Req} (hc : chk p = 0) (t : Typ p) (r : List UInt8) : SameR (decP (enc p ++ r)) p ∧ decE (enc p ++ r) = if r = [] then 0 else 3 := by
  have hf := chk_fine hc
  have h0 := hf.k.lo; have h1 := hf.k.hi
  have e1 := enc_dv hf.k r
  have ek : ((p.kd.toNat : Nat) : Int) = p.kd := by omega
  have e2 : dR (enc p ++ r) = (its p, r, 0) := by
    unfold dR; rw [e1]; simp only [ek]; exact rdO_w (fit_its hf t) r
  obtain ⟨a, b⟩ := reqOf_its hf t
  have e3 : decP (enc p ++ r) = reqOf p.kd (its p) := by unfold decP; rw [e1, e2]; simp only [ek]
  refine ⟨by rw [e3]; exact a, ?_⟩
  unfold decE
  rw [e3, chk_same a, hc, e1, e2, b]
  simp only [ne_eq, not_true_eq_false, if_false]
  rw [if_neg (by omega)]
  unfold endE
  by_cases hr : r = []
  · simp [hr]
  · simp [hr]
theorem reqOf_inv {d : Int} (hk : Kd d) {l : List It} (h : FitO d SH l) (hb : bad l = false) : its (reqOf d l) = l := by
  obtain ⟨cid, l1, rfl, c1, r1, h⟩ := h.z
  obtain ⟨cname, l2, rfl, c2, r2, h⟩ := h.t
  obtain ⟨ckind, l3, rfl, c3, r3, h⟩ := h.z
  obtain ⟨racc, l4, rfl, c4, r4, h⟩ := h.z
  obtain ⟨rkind, l5, rfl, c5, r5, h⟩ := h.z
  obtain ⟨rcur, l6, rfl, c6, r6, h⟩ := h.z
  obtain ⟨rcust, l7, rfl, c7, r7, h⟩ := h.z
  obtain ⟨rprod, l8, rfl, c8, r8, h⟩ := h.z
  obtain ⟨rpart, l9, rfl, c9, r9, h⟩ := h.z
  obtain ⟨rfrom, l10, rfl, c10, r10, h⟩ := h.z
  obtain ⟨rto, l11, rfl, c11, r11, h⟩ := h.z
  obtain ⟨acc, l12, rfl, c12, r12, h⟩ := h.z
  obtain ⟨id1, l13, rfl, c13, r13, h⟩ := h.z
  obtain ⟨day1, l14, rfl, c14, r14, h⟩ := h.z
  obtain ⟨memo, l15, rfl, c15, r15, h⟩ := h.t
  obtain ⟨legs, l16, rfl, c16, r16, h⟩ := h.ls
  obtain ⟨cur, minor, l17, rfl, c17, h⟩ := h.m
  obtain ⟨id2, l18, rfl, c18, r18, h⟩ := h.z
  obtain ⟨day2, l19, rfl, c19, r19, h⟩ := h.z
  obtain ⟨last, l20, rfl, c20, h⟩ := h.b
  obtain ⟨text, l21, rfl, c21, r21, h⟩ := h.t
  cases h
  have hb' : (n32 rfrom && n32 rto && n32 day1 && n32 day2) = true := by
    have : (!(n32 rfrom && n32 rto && n32 day1 && n32 day2)) = false := hb
    simpa using this
  simp only [Bool.and_eq_true, n32_iff] at hb'
  obtain ⟨⟨⟨f1, f2⟩, f3⟩, f4⟩ := hb'
  have g1 : (if hasB d 8 then IntKind.wrap .i64 (id1 + id2) else 0) = id1 := by
    cases h8 : hasB d 8 with
    | true => rw [c18 (hk.id2 h8)]; simp only [if_true]; rw [wi64 (by omega) (by omega)]; omega
    | false => simp only [Bool.false_eq_true, if_false]; exact (c13 h8).symm
  have g2 : (if hasB d 256 then IntKind.wrap .i64 (id1 + id2) else 0) = id2 := by
    cases h8 : hasB d 8 with
    | true => rw [hk.id2 h8]; simp only [Bool.false_eq_true, if_false]; exact (c18 (hk.id2 h8)).symm
    | false =>
      rw [c13 h8]
      cases h2 : hasB d 256 with
      | true => simp only [if_true]; rw [wi64 (by omega) (by omega)]; omega
      | false => simp only [Bool.false_eq_true, if_false]; exact (c18 h2).symm
  have g3 : (if hasB d 16 then IntKind.wrap .i32 (dn day1 + dn day2) else 0) = day1 := by
    rw [dn_id f3.1 f3.2, dn_id f4.1 f4.2]
    cases h8 : hasB d 16 with
    | true => rw [c19 (hk.day2 h8)]; simp only [if_true]; rw [wi32 (by omega) (by omega)]; omega
    | false => simp only [Bool.false_eq_true, if_false]; exact (c14 h8).symm
  have g4 : (if hasB d 512 then IntKind.wrap .i32 (dn day1 + dn day2) else 0) = day2 := by
    rw [dn_id f3.1 f3.2, dn_id f4.1 f4.2]
    cases h8 : hasB d 16 with
    | true => rw [hk.day2 h8]; simp only [Bool.false_eq_true, if_false]; exact (c19 (hk.day2 h8)).symm
    | false =>
      rw [c14 h8]
      cases h2 : hasB d 512 with
      | true => simp only [if_true]; rw [wi32 (by omega) (by omega)]; omega
      | false => simp only [Bool.false_eq_true, if_false]; exact (c19 h2).symm
  show [It.z cid, .t cname, .z ckind, .z racc, .z rkind, .z rcur, .z rcust, .z rprod, .z rpart, .z (dn rfrom), .z (dn rto), .z acc, .z (if hasB d 8 then IntKind.wrap .i64 (id1 + id2) else 0), .z (if hasB d 16 then IntKind.wrap .i32 (dn day1 + dn day2) else 0), .t memo, .ls legs, .m cur minor, .z (if hasB d 256 then IntKind.wrap .i64 (id1 + id2) else 0), .z (if hasB d 512 then IntKind.wrap .i32 (dn day1 + dn day2) else 0), .b last, .t text] = _
  rw [g1, g2, g3, g4, dn_id f1.1 f1.2, dn_id f2.1 f2.2]
theorem typ_dec (s : List UInt8) : Typ (decP s) := ⟨dn_range _, dn_range _, by
  show -2147483648 ≤ IntKind.wrap .i32 _ ∧ IntKind.wrap .i32 _ ≤ 2147483647
  rw [wi32']; split <;> omega⟩
theorem enc_dec {s : List UInt8} (hs : s.length ≤ 1000000) (h : decE s = 0) : enc (decP s) = s ∧ chk (decP s) = 0 := by
  unfold decE at h
  split at h <;> try contradiction
  rename_i h1
  split at h <;> try contradiction
  rename_i h2
  split at h <;> try contradiction
  rename_i h3
  split at h <;> try contradiction
  rename_i h4
  refine ⟨?_, h⟩
  have hk : Kd ((dv s).1 : Int) := kd (by omega) (by omega)
  have hv : (dv s).2.2 = 0 := by omega
  have he : endE (dR s).2.1 (dR s).2.2 = 0 := by omega
  have hR : (dR s).2.2 = 0 ∧ (dR s).2.1 = [] := by
    unfold endE at he
    split at he <;> try contradiction
    rename_i e1
    split at he <;> try contradiction
    rename_i e2
    exact ⟨e1, e2⟩
  obtain ⟨k1, k2, k3, k4⟩ := step_inv (z := 0) (q := qV) (b := s) (f := 0) hv
  have hl : (dv s).2.1.length ≤ 1000000 := by
    show (step 0 qV s 0).2.1.length ≤ _
    rw [k4, List.length_drop]; omega
  obtain ⟨j1, j2, j3⟩ := rdO_inv (d := ((dv s).1 : Int)) (ss := SH) (b := (dv s).2.1) (f := 0) hl hR.1
  have hb : bad (dR s).1 = false := by
    cases e : bad (dR s).1 with
    | false => rfl
    | true => exact absurd ⟨by rw [h]; decide, e⟩ h4
  have hi := reqOf_inv hk j3 hb
  unfold enc
  show vb (((dv s).1 : Int)).toNat ++ oB ((dv s).1 : Int) SH (its (decP s)) = s
  have hi' : its (decP s) = (rdO ((dv s).1 : Int) SH (dv s).2.1 0).1 := hi
  have j2' : oB ((dv s).1 : Int) SH (rdO ((dv s).1 : Int) SH (dv s).2.1 0).1 = (dv s).2.1 := by
    have e : (rdO ((dv s).1 : Int) SH (dv s).2.1 0).2.1 = [] := hR.2
    rw [e, List.append_nil] at j2
    exact j2.symm
  rw [hi', j2', Int.toNat_natCast]
  have hv2 := qV_take k2
  show vb (step 0 qV s 0).1 ++ (step 0 qV s 0).2.1 = s
  rw [k3, ← hv2, k4, List.take_append_drop]
end Go.Sx.Tryd
/- Requests that are handed in, as data. -/
namespace Go.Sx.Tryd
open Go Go.Sx
abbrev ctL : List CT := [.int .i64, .int .i64, .int .i64]
abbrev ctR : List CT := [.int .i64, .int .i64, .str, .int .i64, .int .i64, .int .i64, .int .i64, .int .i64, .int .i64, .int .i64, .int .i32, .int .i32, .int .i64, .int .i64, .int .i32, .int .i64, .int .i64, .bool, .sl ctL, .str, .str]
def Req.pv (p : Req) : PV := .agg [.int .i64 p.kd, .int .i64 p.cid, .str p.cname, .int .i64 p.ckind, .int .i64 p.racc, .int .i64 p.rkind, .int .i64 p.rcur, .int .i64 p.rcust, .int .i64 p.rprod, .int .i64 p.rpart, .int .i32 p.rfrom, .int .i32 p.rto, .int .i64 p.acc, .int .i64 p.id, .int .i32 p.day, .int .i64 p.cur, .int .i64 p.minor, .bool p.last, .sl p.so p.sz (List.map Leg.pv p.legs), .str p.memo, .str p.text]
def W64 (n : Int) : Prop := -9223372036854775808 ≤ n ∧ n ≤ 9223372036854775807
structure WLeg (x : Leg) : Prop where
  acc : W64 x.acc
  cur : W64 x.cur
  minor : W64 x.minor
structure WReq (p : Req) : Prop where
  so : p.so = .nil → p.legs = []
  sz : p.sz = 3
  kd : W64 p.kd
  typ : Typ p
theorem leg_inv {e : PV} (h1 : e.cells.length = 3) (h2 : e = .agg e.cells) (h3 : ∀ (i : Nat) (c : CT) (p : PV), ctL[i]? = some c → e.cells[i]? = some p → WT c p) : ∃ x : Leg, WLeg x ∧ e = x.pv := by
  match hc : e.cells, h1 with
  | [a, b, c], _ =>
    rw [hc] at h2 h3
    obtain ⟨n, n1, n2, rfl⟩ := i64_inv (h3 0 _ a rfl rfl)
    obtain ⟨m, m1, m2, rfl⟩ := i64_inv (h3 1 _ b rfl rfl)
    obtain ⟨k, k1, k2, rfl⟩ := i64_inv (h3 2 _ c rfl rfl)
    exact ⟨⟨n, m, k⟩, ⟨⟨n1, n2⟩, ⟨m1, m2⟩, ⟨k1, k2⟩⟩, h2⟩
theorem legs_inv {x : PV} (h : WT (.sl ctL) x) : ∃ (o : SO) (l : List Leg), x = .sl o 3 (l.map Leg.pv) ∧ (∀ y ∈ l, WLeg y) ∧ (o = .nil → l = []) := by
  rcases sl_inv h with rfl | ⟨es, rfl, _, hs, hc⟩
  · exact ⟨.nil, [], rfl, by simp, fun _ => rfl⟩
  · obtain ⟨l, hl, rfl⟩ := list_of (f := Leg.pv) (Q := WLeg) fun e he => leg_inv (hs e he).1 ((hs e he).2.2 (by simp)) (hc e he)
    exact ⟨.shut, l, rfl, hl, fun h => by cases h⟩
theorem cells21 {a0 a1 a2 a3 a4 a5 a6 a7 a8 a9 a10 a11 a12 a13 a14 a15 a16 a17 a18 a19 a20 : PV} (h : ∀ (i : Nat) (t : CT) (p : PV), ctR[i]? = some t → [a0, a1, a2, a3, a4, a5, a6, a7, a8, a9, a10, a11, a12, a13, a14, a15, a16, a17, a18, a19, a20][i]? = some p → WT t p) : ∃ p : Req, WReq p ∧ [a0, a1, a2, a3, a4, a5, a6, a7, a8, a9, a10, a11, a12, a13, a14, a15, a16, a17, a18, a19, a20] = p.pv.cells := by
  obtain ⟨n0, u0, v0, rfl⟩ := i64_inv (h 0 _ a0 rfl rfl)
  obtain ⟨n1, u1, v1, rfl⟩ := i64_inv (h 1 _ a1 rfl rfl)
  obtain ⟨s2, rfl, _⟩ := str_inv (h 2 _ a2 rfl rfl)
  obtain ⟨n3, u3, v3, rfl⟩ := i64_inv (h 3 _ a3 rfl rfl)
  obtain ⟨n4, u4, v4, rfl⟩ := i64_inv (h 4 _ a4 rfl rfl)
  obtain ⟨n5, u5, v5, rfl⟩ := i64_inv (h 5 _ a5 rfl rfl)
  obtain ⟨n6, u6, v6, rfl⟩ := i64_inv (h 6 _ a6 rfl rfl)
  obtain ⟨n7, u7, v7, rfl⟩ := i64_inv (h 7 _ a7 rfl rfl)
  obtain ⟨n8, u8, v8, rfl⟩ := i64_inv (h 8 _ a8 rfl rfl)
  obtain ⟨n9, u9, v9, rfl⟩ := i64_inv (h 9 _ a9 rfl rfl)
  obtain ⟨n10, u10, v10, rfl⟩ := i32_inv (h 10 _ a10 rfl rfl)
  obtain ⟨n11, u11, v11, rfl⟩ := i32_inv (h 11 _ a11 rfl rfl)
  obtain ⟨n12, u12, v12, rfl⟩ := i64_inv (h 12 _ a12 rfl rfl)
  obtain ⟨n13, u13, v13, rfl⟩ := i64_inv (h 13 _ a13 rfl rfl)
  obtain ⟨n14, u14, v14, rfl⟩ := i32_inv (h 14 _ a14 rfl rfl)
  obtain ⟨n15, u15, v15, rfl⟩ := i64_inv (h 15 _ a15 rfl rfl)
  obtain ⟨n16, u16, v16, rfl⟩ := i64_inv (h 16 _ a16 rfl rfl)
  obtain ⟨b17, rfl⟩ := bool_inv (h 17 _ a17 rfl rfl)
  obtain ⟨o, l, rfl, hl, ho⟩ := legs_inv (h 18 _ a18 rfl rfl)
  obtain ⟨s19, rfl, _⟩ := str_inv (h 19 _ a19 rfl rfl)
  obtain ⟨s20, rfl, _⟩ := str_inv (h 20 _ a20 rfl rfl)
  exact ⟨⟨n0, n1, s2, n3, n4, n5, n6, n7, n8, n9, n10, n11, n12, n13, n14, n15, n16, b17, o, 3, l, s19, s20⟩, ⟨ho, rfl, ⟨u0, v0⟩, ⟨⟨u10, v10⟩, ⟨u11, v11⟩, ⟨u14, v14⟩⟩⟩, rfl⟩
abbrev eR (p q : Req) : Bool := (Req.racc p == Req.racc q && (Req.rkind p == Req.rkind q && (Req.rcur p == Req.rcur q && (Req.rcust p == Req.rcust q && (Req.rprod p == Req.rprod q && (Req.rpart p == Req.rpart q && (Req.rfrom p == Req.rfrom q && (Req.rto p == Req.rto q && true))))))))
theorem tR {p q : Req} (g : p.racc = q.racc ∧ p.rkind = q.rkind ∧ p.rcur = q.rcur ∧ p.rcust = q.rcust ∧ p.rprod = q.rprod ∧ p.rpart = q.rpart ∧ p.rfrom = q.rfrom ∧ p.rto = q.rto ∧ true = true) : eR p q = true := (and_t (beq_iff_eq.mpr (And.left g)) (and_t (beq_iff_eq.mpr (And.left (And.right g))) (and_t (beq_iff_eq.mpr (And.left (And.right (And.right g)))) (and_t (beq_iff_eq.mpr (And.left (And.right (And.right (And.right g))))) (and_t (beq_iff_eq.mpr (And.left (And.right (And.right (And.right (And.right g)))))) (and_t (beq_iff_eq.mpr (And.left (And.right (And.right (And.right (And.right (And.right g))))))) (and_t (beq_iff_eq.mpr (And.left (And.right (And.right (And.right (And.right (And.right (And.right g)))))))) (and_t (beq_iff_eq.mpr (And.left (And.right (And.right (And.right (And.right (And.right (And.right (And.right g))))))))) (And.right (And.right (And.right (And.right (And.right (And.right (And.right (And.right g))))))))))))))))
abbrev eC (p q : Req) : Bool := (Req.cid p == Req.cid q && (Req.cname p == Req.cname q && (Req.ckind p == Req.ckind q && true)))
abbrev eM (p q : Req) : Bool := (Req.cur p == Req.cur q && (Req.minor p == Req.minor q && true))
end Go.Sx.Tryd
