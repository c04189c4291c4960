/- The request of bytes, in plain Lean: there and back. -/
import Derived.Test.YtplknajjcllmkaaDoorH2
namespace Go.Sx.Tryd
open Go Go.Sx
def zA (l : List It) (i : Nat) : Int := match l[i]? with
  | some (.z n) => n
  | _ => 0
def tA (l : List It) (i : Nat) : List UInt8 := match l[i]? with
  | some (.t s) => s
  | _ => []
def cA (l : List It) (i : Nat) : Int := match l[i]? with
  | some (.m c _) => c
  | _ => 0
def mA (l : List It) (i : Nat) : Int := match l[i]? with
  | some (.m _ n) => n
  | _ => 0
def bA (l : List It) (i : Nat) : Bool := match l[i]? with
  | some (.b x) => x
  | _ => false
def lA (l : List It) (i : Nat) : List Leg := match l[i]? with
  | some (.ls x) => x
  | _ => []
def dn (n : Int) : Int := if n32 n then n else 0
def bad (l : List It) : Bool := !(n32 (zA l 9) && n32 (zA l 10) && n32 (zA l 13) && n32 (zA l 18))
def reqOf (d : Int) (l : List It) : Req where
  kd := d
  cid := zA l 0
  cname := tA l 1
  ckind := zA l 2
  racc := zA l 3
  rkind := zA l 4
  rcur := zA l 5
  rcust := zA l 6
  rprod := zA l 7
  rpart := zA l 8
  rfrom := dn (zA l 9)
  rto := dn (zA l 10)
  acc := zA l 11
  id := IntKind.wrap .i64 (zA l 12 + zA l 17)
  day := IntKind.wrap .i32 (dn (zA l 13) + dn (zA l 18))
  cur := cA l 16
  minor := mA l 16
  last := bA l 19
  so := if lA l 15 = [] then .nil else .shut
  sz := if lA l 15 = [] then 0 else 3
  legs := lA l 15
  memo := tA l 14
  text := tA l 20
def endE (b : List UInt8) (f : Int) : Int := if f = 0 then (if b = [] then 0 else 3) else f
def dv (s : List UInt8) := step 0 qV s 0
def dR (s : List UInt8) := rdO ((dv s).1 : Int) SH (dv s).2.1 0
def decP (s : List UInt8) : Req := reqOf ((dv s).1 : Int) (dR s).1
def decE (s : List UInt8) : Int :=
  if (dv s).2.2 ≠ 0 then (dv s).2.2 else if 11 ≤ (dv s).1 then 3
  else if endE (dR s).2.1 (dR s).2.2 ≠ 0 then endE (dR s).2.1 (dR s).2.2
  else if chk (decP s) ≠ 12 ∧ bad (dR s).1 = true then 9 else chk (decP s)
structure Typ (p : Req) : Prop where
  from' : -2147483648 ≤ p.rfrom ∧ p.rfrom ≤ 2147483647
  to' : -2147483648 ≤ p.rto ∧ p.rto ≤ 2147483647
  day : -2147483648 ≤ p.day ∧ p.day ≤ 2147483647
theorem FitO.z {d k : Int} {ss : List (Int × Sh)} {l : List It} (h : FitO d ((k, .z) :: ss) l) : ∃ n t, l = .z n :: t ∧ (hasB d k = false → n = 0) ∧ (-9223372036854775808 ≤ n ∧ n ≤ 9223372036854775807) ∧ FitO d ss t := by
  cases h with
  | cons h g r =>
    rename_i i t
    cases hk : hasB d k with
    | true =>
      have := h hk
      cases i with
      | z n => exact ⟨n, t, rfl, (fun e => absurd e (by simp)), this, r⟩
      | t s => exact this.elim
      | m a b => exact this.elim
      | b x => exact this.elim
      | ls x => exact this.elim
    | false => rw [g hk]; exact ⟨0, t, rfl, fun _ => rfl, by omega, r⟩
theorem FitO.t {d k : Int} {m : Nat} {ss : List (Int × Sh)} {l : List It} (h : FitO d ((k, .t m) :: ss) l) : ∃ s t, l = .t s :: t ∧ (hasB d k = false → s = []) ∧ s.length ≤ m ∧ FitO d ss t := by
  cases h with
  | cons h g r =>
    rename_i i t
    cases hk : hasB d k with
    | true =>
      have := h hk
      cases i with
      | z n => exact this.elim
      | t s => exact ⟨s, t, rfl, (fun e => absurd e (by simp)), this.1, r⟩
      | m a b => exact this.elim
      | b x => exact this.elim
      | ls x => exact this.elim
    | false => rw [g hk]; exact ⟨[], t, rfl, fun _ => rfl, by simp, r⟩
theorem FitO.m {d k : Int} {ss : List (Int × Sh)} {l : List It} (h : FitO d ((k, .m) :: ss) l) : ∃ a n t, l = .m a n :: t ∧ (hasB d k = false → a = 0 ∧ n = 0) ∧ FitO d ss t := by
  cases h with
  | cons h g r =>
    rename_i i t
    cases hk : hasB d k with
    | true =>
      have := h hk
      cases i with
      | z n => exact this.elim
      | t s => exact this.elim
      | m a b => exact ⟨a, b, t, rfl, (fun e => absurd e (by simp)), r⟩
      | b x => exact this.elim
      | ls x => exact this.elim
    | false => rw [g hk]; exact ⟨0, 0, t, rfl, fun _ => ⟨rfl, rfl⟩, r⟩
theorem FitO.b {d k : Int} {ss : List (Int × Sh)} {l : List It} (h : FitO d ((k, .b) :: ss) l) : ∃ x t, l = .b x :: t ∧ (hasB d k = false → x = false) ∧ FitO d ss t := by
  cases h with
  | cons h g r =>
    rename_i i t
    cases hk : hasB d k with
    | true =>
      have := h hk
      cases i with
      | z n => exact this.elim
      | t s => exact this.elim
      | m a b => exact this.elim
      | b x => exact ⟨x, t, rfl, (fun e => absurd e (by simp)), r⟩
      | ls x => exact this.elim
    | false => rw [g hk]; exact ⟨false, t, rfl, fun _ => rfl, r⟩
theorem FitO.ls {d k : Int} {ss : List (Int × Sh)} {l : List It} (h : FitO d ((k, .ls) :: ss) l) : ∃ x t, l = .ls x :: t ∧ (hasB d k = false → x = []) ∧ x.length ≤ 16 ∧ FitO d ss t := by
  cases h with
  | cons h g r =>
    rename_i i t
    cases hk : hasB d k with
    | true =>
      have := h hk
      cases i with
      | z n => exact this.elim
      | t s => exact this.elim
      | m a b => exact this.elim
      | b x => exact this.elim
      | ls x => exact ⟨x, t, rfl, (fun e => absurd e (by simp)), this.1, r⟩
    | false => rw [g hk]; exact ⟨[], t, rfl, fun _ => rfl, by simp, r⟩
theorem SameR.symm {p q : Req} (h : SameR p q) : SameR q p :=
  ⟨h.kd.symm, h.cid.symm, h.cname.symm, h.ckind.symm, h.racc.symm, h.rkind.symm, h.rcur.symm, h.rcust.symm, h.rprod.symm, h.rpart.symm, h.rfrom.symm, h.rto.symm, h.acc.symm, h.id.symm, h.day.symm, h.cur.symm, h.minor.symm, h.last.symm, h.legs.symm, h.memo.symm, h.text.symm⟩
theorem SameR.trans {p q r : Req} (h : SameR p q) (g : SameR q r) : SameR p r :=
  ⟨h.kd.trans g.kd, h.cid.trans g.cid, h.cname.trans g.cname, h.ckind.trans g.ckind, h.racc.trans g.racc, h.rkind.trans g.rkind, h.rcur.trans g.rcur, h.rcust.trans g.rcust, h.rprod.trans g.rprod, h.rpart.trans g.rpart, h.rfrom.trans g.rfrom, h.rto.trans g.rto, h.acc.trans g.acc, h.id.trans g.id, h.day.trans g.day, h.cur.trans g.cur, h.minor.trans g.minor, h.last.trans g.last, h.legs.trans g.legs, h.memo.trans g.memo, h.text.trans g.text⟩
end Go.Sx.Tryd
/- Requests that are handed in, as data. -/
namespace Go.Sx.Tryd
open Go Go.Sx
abbrev ctL : List CT := [.int .i64, .int .i64, .int .i64]
abbrev ctR : List CT := [.int .i64, .int .i64, .str, .int .i64, .int .i64, .int .i64, .int .i64, .int .i64, .int .i64, .int .i64, .int .i32, .int .i32, .int .i64, .int .i64, .int .i32, .int .i64, .int .i64, .bool, .sl ctL, .str, .str]
def Req.pv (p : Req) : PV := .agg [.int .i64 p.kd, .int .i64 p.cid, .str p.cname, .int .i64 p.ckind, .int .i64 p.racc, .int .i64 p.rkind, .int .i64 p.rcur, .int .i64 p.rcust, .int .i64 p.rprod, .int .i64 p.rpart, .int .i32 p.rfrom, .int .i32 p.rto, .int .i64 p.acc, .int .i64 p.id, .int .i32 p.day, .int .i64 p.cur, .int .i64 p.minor, .bool p.last, .sl p.so p.sz (List.map Leg.pv p.legs), .str p.memo, .str p.text]
def W64 (n : Int) : Prop := -9223372036854775808 ≤ n ∧ n ≤ 9223372036854775807
structure WLeg (x : Leg) : Prop where
  acc : W64 x.acc
  cur : W64 x.cur
  minor : W64 x.minor
structure WReq (p : Req) : Prop where
  so : p.so = .nil → p.legs = []
  sz : p.sz = 3
  kd : W64 p.kd
  typ : Typ p
theorem leg_inv {e : PV} (h1 : e.cells.length = 3) (h2 : e = .agg e.cells) (h3 : ∀ (i : Nat) (c : CT) (p : PV), ctL[i]? = some c → e.cells[i]? = some p → WT c p) : ∃ x : Leg, WLeg x ∧ e = x.pv := by
  match hc : e.cells, h1 with
  | [a, b, c], _ =>
    rw [hc] at h2 h3
    obtain ⟨n, n1, n2, rfl⟩ := i64_inv (h3 0 _ a rfl rfl)
    obtain ⟨m, m1, m2, rfl⟩ := i64_inv (h3 1 _ b rfl rfl)
    obtain ⟨k, k1, k2, rfl⟩ := i64_inv (h3 2 _ c rfl rfl)
    exact ⟨⟨n, m, k⟩, ⟨⟨n1, n2⟩, ⟨m1, m2⟩, ⟨k1, k2⟩⟩, h2⟩
theorem legs_inv {x : PV} (h : WT (.sl ctL) x) : ∃ (o : SO) (l : List Leg), x = .sl o 3 (l.map Leg.pv) ∧ (∀ y ∈ l, WLeg y) ∧ (o = .nil → l = []) := by
  rcases sl_inv h with rfl | ⟨es, rfl, _, hs, hc⟩
  · exact ⟨.nil, [], rfl, by simp, fun _ => rfl⟩
  · obtain ⟨l, hl, rfl⟩ := list_of (f := Leg.pv) (Q := WLeg) fun e he => leg_inv (hs e he).1 ((hs e he).2.2 (by simp)) (hc e he)
    exact ⟨.shut, l, rfl, hl, fun h => by cases h⟩
theorem cells21 {a0 a1 a2 a3 a4 a5 a6 a7 a8 a9 a10 a11 a12 a13 a14 a15 a16 a17 a18 a19 a20 : PV} (h : ∀ (i : Nat) (t : CT) (p : PV), ctR[i]? = some t → [a0, a1, a2, a3, a4, a5, a6, a7, a8, a9, a10, a11, a12, a13, a14, a15, a16, a17, a18, a19, a20][i]? = some p → WT t p) : ∃ p : Req, WReq p ∧ [a0, a1, a2, a3, a4, a5, a6, a7, a8, a9, a10, a11, a12, a13, a14, a15, a16, a17, a18, a19, a20] = p.pv.cells := by
  obtain ⟨n0, u0, v0, rfl⟩ := i64_inv (h 0 _ a0 rfl rfl)
  obtain ⟨n1, u1, v1, rfl⟩ := i64_inv (h 1 _ a1 rfl rfl)
  obtain ⟨s2, rfl, _⟩ := str_inv (h 2 _ a2 rfl rfl)
  obtain ⟨n3, u3, v3, rfl⟩ := i64_inv (h 3 _ a3 rfl rfl)
  obtain ⟨n4, u4, v4, rfl⟩ := i64_inv (h 4 _ a4 rfl rfl)
  obtain ⟨n5, u5, v5, rfl⟩ := i64_inv (h 5 _ a5 rfl rfl)
  obtain ⟨n6, u6, v6, rfl⟩ := i64_inv (h 6 _ a6 rfl rfl)
  obtain ⟨n7, u7, v7, rfl⟩ := i64_inv (h 7 _ a7 rfl rfl)
  obtain ⟨n8, u8, v8, rfl⟩ := i64_inv (h 8 _ a8 rfl rfl)
  obtain ⟨n9, u9, v9, rfl⟩ := i64_inv (h 9 _ a9 rfl rfl)
  obtain ⟨n10, u10, v10, rfl⟩ := i32_inv (h 10 _ a10 rfl rfl)
  obtain ⟨n11, u11, v11, rfl⟩ := i32_inv (h 11 _ a11 rfl rfl)
  obtain ⟨n12, u12, v12, rfl⟩ := i64_inv (h 12 _ a12 rfl rfl)
  obtain ⟨n13, u13, v13, rfl⟩ := i64_inv (h 13 _ a13 rfl rfl)
  obtain ⟨n14, u14, v14, rfl⟩ := i32_inv (h 14 _ a14 rfl rfl)
  obtain ⟨n15, u15, v15, rfl⟩ := i64_inv (h 15 _ a15 rfl rfl)
  obtain ⟨n16, u16, v16, rfl⟩ := i64_inv (h 16 _ a16 rfl rfl)
  obtain ⟨b17, rfl⟩ := bool_inv (h 17 _ a17 rfl rfl)
  obtain ⟨o, l, rfl, hl, ho⟩ := legs_inv (h 18 _ a18 rfl rfl)
  obtain ⟨s19, rfl, _⟩ := str_inv (h 19 _ a19 rfl rfl)
  obtain ⟨s20, rfl, _⟩ := str_inv (h 20 _ a20 rfl rfl)
  exact ⟨⟨n0, n1, s2, n3, n4, n5, n6, n7, n8, n9, n10, n11, n12, n13, n14, n15, n16, b17, o, 3, l, s19, s20⟩, ⟨ho, rfl, ⟨u0, v0⟩, ⟨⟨u10, v10⟩, ⟨u11, v11⟩, ⟨u14, v14⟩⟩⟩, rfl⟩
theorem req_inv {e : PV} (h1 : e.cells.length = 21) (h2 : e = .agg e.cells) (h3 : ∀ (i : Nat) (c : CT) (p : PV), ctR[i]? = some c → e.cells[i]? = some p → WT c p) : ∃ p : Req, WReq p ∧ e = p.pv := by
  match hc : e.cells, h1 with
  | [a0, a1, a2, a3, a4, a5, a6, a7, a8, a9, a10, a11, a12, a13, a14, a15, a16, a17, a18, a19, a20], _ =>
    rw [hc] at h2 h3
    obtain ⟨p, hp, e⟩ := cells21 h3
    exact ⟨p, hp, by rw [h2, e]; rfl⟩
theorem reqs_inv {x : PV} (h : WT (.sl ctR) x) : ∃ (o : SO) (l : List Req), x = .sl o 21 (l.map Req.pv) ∧ (∀ y ∈ l, WReq y) ∧ (o = .nil → l = []) := by
  rcases sl_inv h with rfl | ⟨es, rfl, _, hs, hc⟩
  · exact ⟨.nil, [], rfl, by simp, fun _ => rfl⟩
  · obtain ⟨l, hl, rfl⟩ := list_of (f := Req.pv) (Q := WReq) fun e he => req_inv (hs e he).1 ((hs e he).2.2 (by simp)) (hc e he)
    exact ⟨.shut, l, rfl, hl, fun h => by cases h⟩
abbrev eR (p q : Req) : Bool := (Req.racc p == Req.racc q && (Req.rkind p == Req.rkind q && (Req.rcur p == Req.rcur q && (Req.rcust p == Req.rcust q && (Req.rprod p == Req.rprod q && (Req.rpart p == Req.rpart q && (Req.rfrom p == Req.rfrom q && (Req.rto p == Req.rto q && true))))))))
theorem tR {p q : Req} (g : p.racc = q.racc ∧ p.rkind = q.rkind ∧ p.rcur = q.rcur ∧ p.rcust = q.rcust ∧ p.rprod = q.rprod ∧ p.rpart = q.rpart ∧ p.rfrom = q.rfrom ∧ p.rto = q.rto ∧ true = true) : eR p q = true := (and_t (beq_iff_eq.mpr (And.left g)) (and_t (beq_iff_eq.mpr (And.left (And.right g))) (and_t (beq_iff_eq.mpr (And.left (And.right (And.right g)))) (and_t (beq_iff_eq.mpr (And.left (And.right (And.right (And.right g))))) (and_t (beq_iff_eq.mpr (And.left (And.right (And.right (And.right (And.right g)))))) (and_t (beq_iff_eq.mpr (And.left (And.right (And.right (And.right (And.right (And.right g))))))) (and_t (beq_iff_eq.mpr (And.left (And.right (And.right (And.right (And.right (And.right (And.right g)))))))) (and_t (beq_iff_eq.mpr (And.left (And.right (And.right (And.right (And.right (And.right (And.right (And.right g))))))))) (And.right (And.right (And.right (And.right (And.right (And.right (And.right (And.right g))))))))))))))))
abbrev eC (p q : Req) : Bool := (Req.cid p == Req.cid q && (Req.cname p == Req.cname q && (Req.ckind p == Req.ckind q && true)))
abbrev eM (p q : Req) : Bool := (Req.cur p == Req.cur q && (Req.minor p == Req.minor q && true))
end Go.Sx.Tryd
