/- Requests, in plain Lean: what each kind tells, what may be, their bytes, and the way back. -/
import Derived.Test.YtplknajjcllmkaaDoorI1
namespace Go.Sx.Tryd
open Go Go.Sx
def Leg.pv (x : Leg) : PV := .agg [.int .i64 x.acc, .int .i64 x.cur, .int .i64 x.minor]
structure Req where
  kd : Int
  cid : Int
  cname : List UInt8
  ckind : Int
  racc : Int
  rkind : Int
  rcur : Int
  rcust : Int
  rprod : Int
  rpart : Int
  rfrom : Int
  rto : Int
  acc : Int
  id : Int
  day : Int
  cur : Int
  minor : Int
  last : Bool
  so : SO
  sz : Nat
  legs : List Leg
  memo : List UInt8
  text : List UInt8
abbrev Req.sl (p : Req) : CV := CV.pv (PV.sl p.so p.sz (List.map Leg.pv p.legs))
abbrev Req.cs (p : Req) : List CV := [CV.pv (PV.int .i64 p.kd), CV.pv (PV.int .i64 p.cid), CV.pv (PV.str p.cname), CV.pv (PV.int .i64 p.ckind), CV.pv (PV.int .i64 p.racc), CV.pv (PV.int .i64 p.rkind), CV.pv (PV.int .i64 p.rcur), CV.pv (PV.int .i64 p.rcust), CV.pv (PV.int .i64 p.rprod), CV.pv (PV.int .i64 p.rpart), CV.pv (PV.int .i32 p.rfrom), CV.pv (PV.int .i32 p.rto), CV.pv (PV.int .i64 p.acc), CV.pv (PV.int .i64 p.id), CV.pv (PV.int .i32 p.day), CV.pv (PV.int .i64 p.cur), CV.pv (PV.int .i64 p.minor), CV.pv (PV.bool p.last), CV.pv (PV.sl p.so p.sz (List.map Leg.pv p.legs)), CV.pv (PV.str p.memo), CV.pv (PV.str p.text)]
abbrev Req.av (p : Req) : AV := AV.agg p.cs
def Req.ok (p : Req) : Prop := szOk 3 (CV.pv (PV.sl p.so p.sz (List.map Leg.pv p.legs))) = true ∧ (p.so = .nil → p.legs = [])
structure Kd (d : Int) : Prop where
  lo : 0 ≤ d
  hi : d ≤ 10
  id : hasB d 264 = (hasB d 8 || hasB d 256)
  day : hasB d 528 = (hasB d 16 || hasB d 512)
  id2 : hasB d 8 = true → hasB d 256 = false
  day2 : hasB d 16 = true → hasB d 512 = false
theorem kd_cases {d : Int} (h0 : 0 ≤ d) (h1 : d ≤ 10) : d = 0 ∨ d = 1 ∨ d = 2 ∨ d = 3 ∨ d = 4 ∨ d = 5 ∨ d = 6 ∨ d = 7 ∨ d = 8 ∨ d = 9 ∨ d = 10 := by omega
theorem kd {d : Int} (h0 : 0 ≤ d) (h1 : d ≤ 10) : Kd d := by
  rcases kd_cases h0 h1 with rfl | rfl | rfl | rfl | rfl | rfl | rfl | rfl | rfl | rfl | rfl <;>
    exact ⟨by decide, by decide, by decide, by decide, by decide, by decide⟩
theorem hb0 : hasB 0 1 = true ∧ hasB 0 2 = false ∧ hasB 0 4 = false ∧ hasB 0 8 = false ∧ hasB 0 16 = false ∧ hasB 0 32 = false ∧ hasB 0 64 = false ∧ hasB 0 128 = false ∧ hasB 0 256 = false ∧ hasB 0 512 = false ∧ hasB 0 1024 = false ∧ hasB 0 2048 = false ∧ hasB 0 264 = false ∧ hasB 0 528 = false := by decide
theorem hb1 : hasB 1 1 = false ∧ hasB 1 2 = true ∧ hasB 1 4 = false ∧ hasB 1 8 = false ∧ hasB 1 16 = false ∧ hasB 1 32 = false ∧ hasB 1 64 = false ∧ hasB 1 128 = false ∧ hasB 1 256 = false ∧ hasB 1 512 = false ∧ hasB 1 1024 = false ∧ hasB 1 2048 = false ∧ hasB 1 264 = false ∧ hasB 1 528 = false := by decide
theorem hb2 : hasB 2 1 = false ∧ hasB 2 2 = false ∧ hasB 2 4 = true ∧ hasB 2 8 = false ∧ hasB 2 16 = false ∧ hasB 2 32 = false ∧ hasB 2 64 = false ∧ hasB 2 128 = false ∧ hasB 2 256 = false ∧ hasB 2 512 = true ∧ hasB 2 1024 = false ∧ hasB 2 2048 = false ∧ hasB 2 264 = false ∧ hasB 2 528 = true := by decide
theorem hb3 : hasB 3 1 = false ∧ hasB 3 2 = false ∧ hasB 3 4 = false ∧ hasB 3 8 = false ∧ hasB 3 16 = false ∧ hasB 3 32 = false ∧ hasB 3 64 = false ∧ hasB 3 128 = false ∧ hasB 3 256 = false ∧ hasB 3 512 = false ∧ hasB 3 1024 = false ∧ hasB 3 2048 = true ∧ hasB 3 264 = false ∧ hasB 3 528 = false := by decide
theorem hb4 : hasB 4 1 = false ∧ hasB 4 2 = false ∧ hasB 4 4 = false ∧ hasB 4 8 = false ∧ hasB 4 16 = true ∧ hasB 4 32 = true ∧ hasB 4 64 = true ∧ hasB 4 128 = false ∧ hasB 4 256 = false ∧ hasB 4 512 = false ∧ hasB 4 1024 = false ∧ hasB 4 2048 = false ∧ hasB 4 264 = false ∧ hasB 4 528 = true := by decide
theorem hb5 : hasB 5 1 = false ∧ hasB 5 2 = false ∧ hasB 5 4 = false ∧ hasB 5 8 = true ∧ hasB 5 16 = false ∧ hasB 5 32 = false ∧ hasB 5 64 = false ∧ hasB 5 128 = false ∧ hasB 5 256 = false ∧ hasB 5 512 = false ∧ hasB 5 1024 = false ∧ hasB 5 2048 = false ∧ hasB 5 264 = true ∧ hasB 5 528 = false := by decide
theorem hb6 : hasB 6 1 = false ∧ hasB 6 2 = false ∧ hasB 6 4 = true ∧ hasB 6 8 = false ∧ hasB 6 16 = false ∧ hasB 6 32 = false ∧ hasB 6 64 = false ∧ hasB 6 128 = true ∧ hasB 6 256 = true ∧ hasB 6 512 = true ∧ hasB 6 1024 = false ∧ hasB 6 2048 = false ∧ hasB 6 264 = true ∧ hasB 6 528 = true := by decide
theorem hb7 : hasB 7 1 = false ∧ hasB 7 2 = false ∧ hasB 7 4 = false ∧ hasB 7 8 = true ∧ hasB 7 16 = false ∧ hasB 7 32 = false ∧ hasB 7 64 = false ∧ hasB 7 128 = true ∧ hasB 7 256 = false ∧ hasB 7 512 = false ∧ hasB 7 1024 = true ∧ hasB 7 2048 = false ∧ hasB 7 264 = true ∧ hasB 7 528 = false := by decide
theorem hb8 : hasB 8 1 = false ∧ hasB 8 2 = false ∧ hasB 8 4 = false ∧ hasB 8 8 = true ∧ hasB 8 16 = false ∧ hasB 8 32 = false ∧ hasB 8 64 = false ∧ hasB 8 128 = false ∧ hasB 8 256 = false ∧ hasB 8 512 = false ∧ hasB 8 1024 = false ∧ hasB 8 2048 = false ∧ hasB 8 264 = true ∧ hasB 8 528 = false := by decide
theorem hb9 : hasB 9 1 = false ∧ hasB 9 2 = false ∧ hasB 9 4 = false ∧ hasB 9 8 = false ∧ hasB 9 16 = false ∧ hasB 9 32 = false ∧ hasB 9 64 = false ∧ hasB 9 128 = false ∧ hasB 9 256 = false ∧ hasB 9 512 = true ∧ hasB 9 1024 = true ∧ hasB 9 2048 = false ∧ hasB 9 264 = false ∧ hasB 9 528 = true := by decide
theorem hb10 : hasB 10 1 = false ∧ hasB 10 2 = false ∧ hasB 10 4 = false ∧ hasB 10 8 = false ∧ hasB 10 16 = false ∧ hasB 10 32 = false ∧ hasB 10 64 = false ∧ hasB 10 128 = false ∧ hasB 10 256 = false ∧ hasB 10 512 = false ∧ hasB 10 1024 = false ∧ hasB 10 2048 = false ∧ hasB 10 264 = false ∧ hasB 10 528 = false := by decide
def onlyR (p : Req) : Req where
  kd := p.kd
  cid := if hasB p.kd 1 then p.cid else 0
  cname := if hasB p.kd 1 then p.cname else []
  ckind := if hasB p.kd 1 then p.ckind else 0
  racc := if hasB p.kd 2 then p.racc else 0
  rkind := if hasB p.kd 2 then p.rkind else 0
  rcur := if hasB p.kd 2 then p.rcur else 0
  rcust := if hasB p.kd 2 then p.rcust else 0
  rprod := if hasB p.kd 2 then p.rprod else 0
  rpart := if hasB p.kd 2 then p.rpart else 0
  rfrom := if hasB p.kd 2 then p.rfrom else 0
  rto := if hasB p.kd 2 then p.rto else 0
  acc := if hasB p.kd 4 then p.acc else 0
  id := if hasB p.kd 264 then p.id else 0
  day := if hasB p.kd 528 then p.day else 0
  cur := if hasB p.kd 128 then p.cur else 0
  minor := if hasB p.kd 128 then p.minor else 0
  last := if hasB p.kd 1024 then p.last else false
  so := if hasB p.kd 64 then p.so else .nil
  sz := if hasB p.kd 64 then p.sz else 0
  legs := if hasB p.kd 64 then p.legs else []
  memo := if hasB p.kd 32 then p.memo else []
  text := if hasB p.kd 2048 then p.text else []
def legEq (x y : Leg) : Bool := x.acc == y.acc && (x.cur == y.cur && (x.minor == y.minor && true))
theorem legEq_iff {x y : Leg} : legEq x y = true ↔ x = y := by
  obtain ⟨a, b, c⟩ := x
  obtain ⟨d, e, f⟩ := y
  simp [legEq]
def legsEq (l m : List Leg) : Bool := decide (l.length = m.length) && !(l.zip m).any fun q => !legEq q.1 q.2
theorem zip_any {l m : List Leg} (h : l.length = m.length) : ((l.zip m).any fun q => !legEq q.1 q.2) = false ↔ l = m := by
  induction l generalizing m with
  | nil => cases m with | nil => simp | cons _ _ => simp at h
  | cons x l ih =>
    cases m with
    | nil => simp at h
    | cons y m =>
      simp only [List.zip_cons_cons, List.any_cons, Bool.or_eq_false_iff, Bool.not_eq_false', legEq_iff, List.cons.injEq]
      rw [ih (by simpa using h)]
theorem legsEq_iff {l m : List Leg} : legsEq l m = true ↔ l = m := by
  simp only [legsEq, Bool.and_eq_true, decide_eq_true_eq, Bool.not_eq_true']
  constructor
  · rintro ⟨h1, h2⟩; exact (zip_any h1).1 h2
  · rintro rfl; exact ⟨rfl, (zip_any rfl).2 rfl⟩
structure SameR (p q : Req) : Prop where
  kd : p.kd = q.kd
  cid : p.cid = q.cid
  cname : p.cname = q.cname
  ckind : p.ckind = q.ckind
  racc : p.racc = q.racc
  rkind : p.rkind = q.rkind
  rcur : p.rcur = q.rcur
  rcust : p.rcust = q.rcust
  rprod : p.rprod = q.rprod
  rpart : p.rpart = q.rpart
  rfrom : p.rfrom = q.rfrom
  rto : p.rto = q.rto
  acc : p.acc = q.acc
  id : p.id = q.id
  day : p.day = q.day
  cur : p.cur = q.cur
  minor : p.minor = q.minor
  last : p.last = q.last
  legs : p.legs = q.legs
  memo : p.memo = q.memo
  text : p.text = q.text
def sameB (p q : Req) : Bool :=
  p.kd == q.kd && (p.cid == q.cid && p.cname == q.cname && p.ckind == q.ckind) &&
  (p.racc == q.racc && p.rkind == q.rkind && p.rcur == q.rcur && p.rcust == q.rcust && p.rprod == q.rprod && p.rpart == q.rpart && p.rfrom == q.rfrom && p.rto == q.rto) &&
  p.acc == q.acc && p.id == q.id && p.day == q.day && (p.cur == q.cur && p.minor == q.minor) && p.last == q.last && legsEq p.legs q.legs && p.memo == q.memo && p.text == q.text
theorem sameB_iff {p q : Req} : sameB p q = true ↔ SameR p q := by
  unfold sameB
  simp only [Bool.and_eq_true, beq_iff_eq, legsEq_iff]
  constructor
  · rintro ⟨⟨⟨⟨⟨⟨⟨⟨⟨⟨h1, ⟨h2, h3⟩, h4⟩, ⟨⟨⟨⟨⟨⟨h5, h6⟩, h7⟩, h8⟩, h9⟩, h10⟩, h11⟩, h12⟩, h13⟩, h14⟩, h15⟩, h16, h17⟩, h18⟩, h19⟩, h20⟩, h21⟩
    exact ⟨h1, h2, h3, h4, h5, h6, h7, h8, h9, h10, h11, h12, h13, h14, h15, h16, h17, h18, h19, h20, h21⟩
  · rintro ⟨h1, h2, h3, h4, h5, h6, h7, h8, h9, h10, h11, h12, h13, h14, h15, h16, h17, h18, h19, h20, h21⟩
    exact ⟨⟨⟨⟨⟨⟨⟨⟨⟨⟨h1, ⟨h2, h3⟩, h4⟩, ⟨⟨⟨⟨⟨⟨h5, h6⟩, h7⟩, h8⟩, h9⟩, h10⟩, h11⟩, h12⟩, h13⟩, h14⟩, h15⟩, h16, h17⟩, h18⟩, h19⟩, h20⟩, h21⟩
theorem SameR.refl (p : Req) : SameR p p := ⟨rfl, rfl, rfl, rfl, rfl, rfl, rfl, rfl, rfl, rfl, rfl, rfl, rfl, rfl, rfl, rfl, rfl, rfl, rfl, rfl, rfl⟩
def curOk (c : Int) : Bool := decide (0 ≤ c ∧ c ≤ 3)
def minOk (m : Int) : Bool := decide (-1000000000000000 ≤ m ∧ m ≤ 1000000000000000)
def n32 (n : Int) : Bool := decide (-2147483648 ≤ n ∧ n ≤ 2147483647)
def mons (p : Req) : List (Int × Int) := (p.cur, p.minor) :: p.legs.map fun x => (x.cur, x.minor)
def nums (p : Req) : List Int := [p.acc, p.id, p.cid, p.ckind] ++ p.legs.map Leg.acc ++ [p.racc, p.rkind, p.rcust, p.rprod, p.rpart]
def amts (l : List (Int × Int)) : Int := if l.all (fun m => curOk m.1) = false then 12 else if l.all (fun m => minOk m.2) = false then 9 else 0
def chk (p : Req) : Int :=
  if p.kd < 0 ∨ 10 < p.kd then 3
  else if 32 < p.cname.length ∨ 32 < p.memo.length ∨ 2000 < p.text.length ∨ 16 < p.legs.length then 4
  else if curOk (onlyR p).rcur = false ∨ amts (mons (onlyR p)) = 12 then 12
  else if amts (mons (onlyR p)) ≠ 0 ∨ (nums (onlyR p)).all n32 = false then 9
  else if sameB (onlyR p) p = false then 1 else 0
structure Fine (p : Req) : Prop where
  k : Kd p.kd
  cname : p.cname.length ≤ 32
  memo : p.memo.length ≤ 32
  text : p.text.length ≤ 2000
  legs : p.legs.length ≤ 16
  only : SameR (onlyR p) p
  rcur : 0 ≤ p.rcur ∧ p.rcur ≤ 3
  cur : 0 ≤ p.cur ∧ p.cur ≤ 3
  minor : -1000000000000000 ≤ p.minor ∧ p.minor ≤ 1000000000000000
  fit : ∀ x ∈ p.legs, FitL x
  acc : -2147483648 ≤ p.acc ∧ p.acc ≤ 2147483647
  id : -2147483648 ≤ p.id ∧ p.id ≤ 2147483647
  cid : -2147483648 ≤ p.cid ∧ p.cid ≤ 2147483647
  ckind : -2147483648 ≤ p.ckind ∧ p.ckind ≤ 2147483647
  racc : -2147483648 ≤ p.racc ∧ p.racc ≤ 2147483647
  rkind : -2147483648 ≤ p.rkind ∧ p.rkind ≤ 2147483647
  rcust : -2147483648 ≤ p.rcust ∧ p.rcust ≤ 2147483647
  rprod : -2147483648 ≤ p.rprod ∧ p.rprod ≤ 2147483647
  rpart : -2147483648 ≤ p.rpart ∧ p.rpart ≤ 2147483647
theorem mons_same {p q : Req} (h : SameR p q) : mons p = mons q := by unfold mons; rw [h.cur, h.minor, h.legs]
theorem nums_same {p q : Req} (h : SameR p q) : nums p = nums q := by unfold nums; rw [h.acc, h.id, h.cid, h.ckind, h.legs, h.racc, h.rkind, h.rcust, h.rprod, h.rpart]
theorem chk_fine {p : Req} (h : chk p = 0) : Fine p := by
  unfold chk at h
  split at h <;> try contradiction
  rename_i c1
  split at h <;> try contradiction
  rename_i c2
  split at h <;> try contradiction
  rename_i c3
  split at h <;> try contradiction
  rename_i c4
  split at h <;> try contradiction
  rename_i c5
  have hs : SameR (onlyR p) p := sameB_iff.1 (by simpa using c5)
  rw [mons_same hs, hs.rcur] at c3
  rw [mons_same hs, nums_same hs] at c4
  have hm : amts (mons p) = 0 := by
    by_cases e : amts (mons p) = 0
    · exact e
    · exact absurd (Or.inl e) c4
  have hn : (nums p).all n32 = true := by
    cases e : (nums p).all n32 with
    | true => rfl
    | false => exact absurd (Or.inr e) c4
  have hrc : curOk p.rcur = true := by
    cases e : curOk p.rcur with
    | true => rfl
    | false => exact absurd (Or.inl e) c3
  unfold amts at hm
  split at hm <;> try contradiction
  rename_i m1
  split at hm <;> try contradiction
  rename_i m2
  have m1' : (mons p).all (fun m => curOk m.1) = true := by simpa using m1
  have m2' : (mons p).all (fun m => minOk m.2) = true := by simpa using m2
  rw [List.all_eq_true] at m1' m2' hn
  have a1 := m1' (p.cur, p.minor) (by simp [mons])
  have a2 := m2' (p.cur, p.minor) (by simp [mons])
  have N : ∀ n ∈ nums p, -2147483648 ≤ n ∧ n ≤ 2147483647 := fun n hn' => by have := hn n hn'; simpa [n32] using this
  refine ⟨kd (by omega) (by omega), by omega, by omega, by omega, by omega, hs, by simpa [curOk] using hrc, by simpa [curOk] using a1, by simpa [minOk] using a2, fun x hx => ?_,
    N _ (by simp [nums]), N _ (by simp [nums]), N _ (by simp [nums]), N _ (by simp [nums]), N _ (by simp [nums]), N _ (by simp [nums]), N _ (by simp [nums]), N _ (by simp [nums]), N _ (by simp [nums])⟩
  have b1 := m1' (x.cur, x.minor) (by simp only [mons, List.mem_cons, List.mem_map]; exact Or.inr ⟨x, hx, rfl⟩)
  have b2 := m2' (x.cur, x.minor) (by simp only [mons, List.mem_cons, List.mem_map]; exact Or.inr ⟨x, hx, rfl⟩)
  have b3 := N x.acc (by simp only [nums, List.mem_append, List.mem_map]; exact Or.inl (Or.inr ⟨x, hx, rfl⟩))
  exact ⟨by omega, by simpa [curOk] using b1, by simpa [minOk] using b2⟩
def SH : List (Int × Sh) := [(1, .z), (1, .t 32), (1, .z), (2, .z), (2, .z), (2, .z), (2, .z), (2, .z), (2, .z), (2, .z), (2, .z), (4, .z), (8, .z), (16, .z), (32, .t 32), (64, .ls), (128, .m), (256, .z), (512, .z), (1024, .b), (2048, .t 2000)]
def its (p : Req) : List It := [.z p.cid, .t p.cname, .z p.ckind, .z p.racc, .z p.rkind, .z p.rcur, .z p.rcust, .z p.rprod, .z p.rpart, .z p.rfrom, .z p.rto, .z p.acc, .z (if hasB p.kd 8 then p.id else 0), .z (if hasB p.kd 16 then p.day else 0), .t p.memo, .ls p.legs, .m p.cur p.minor, .z (if hasB p.kd 256 then p.id else 0), .z (if hasB p.kd 512 then p.day else 0), .b p.last, .t p.text]
def oB (d : Int) : List (Int × Sh) → List It → List UInt8
  | (k, _) :: ss, i :: is => (if hasB d k then itB i else []) ++ oB d ss is
  | _, _ => []
def enc (p : Req) : List UInt8 := vb p.kd.toNat ++ oB p.kd SH (its p)
def zer : Sh → It
  | .z => .z 0
  | .t _ => .t []
  | .m => .m 0 0
  | .b => .b false
  | .ls => .ls []
def rdO (d : Int) : List (Int × Sh) → List UInt8 → Int → List It × List UInt8 × Int
  | [], b, f => ([], b, f)
  | (k, s) :: r, b, f =>
    if hasB d k then ((rdS s b f).1 :: (rdO d r (rdS s b f).2.1 (rdS s b f).2.2).1, (rdO d r (rdS s b f).2.1 (rdS s b f).2.2).2)
    else (zer s :: (rdO d r b f).1, (rdO d r b f).2)
inductive FitO (d : Int) : List (Int × Sh) → List It → Prop
  | nil : FitO d [] []
  | cons {k : Int} {s : Sh} {i : It} {ss : List (Int × Sh)} {is : List It} (h : hasB d k = true → Fit s i) (g : hasB d k = false → i = zer s) (r : FitO d ss is) : FitO d ((k, s) :: ss) (i :: is)
theorem rdO_w {d : Int} : ∀ {ss : List (Int × Sh)} {is : List It}, FitO d ss is → ∀ r : List UInt8, rdO d ss (oB d ss is ++ r) 0 = (is, r, 0)
  | _, _, .nil, r => rfl
  | _, _, .cons (k := k) (s := s) (i := i) h g q, r => by
    rw [rdO, oB]
    cases hk : hasB d k with
    | true =>
      simp only [if_true, List.append_assoc, rdS_w (h hk), rdO_w q r]
    | false =>
      simp only [Bool.false_eq_true, if_false, List.nil_append, rdO_w q r, g hk]
theorem rdO_fault {d : Int} : ∀ {ss : List (Int × Sh)} {b : List UInt8} {f : Int}, f ≠ 0 → (rdO d ss b f).2.2 = f
  | [], b, f, _ => rfl
  | (k, s) :: ss, b, f, h => by
    rw [rdO]
    cases hk : hasB d k with
    | true =>
      simp only [if_true]
      rw [rdO_fault (by rw [rdS_fault h]; exact h), rdS_fault h]
    | false =>
      simp only [Bool.false_eq_true, if_false]
      exact rdO_fault h
theorem rdO_inv {d : Int} : ∀ {ss : List (Int × Sh)} {b : List UInt8} {f : Int}, b.length ≤ 1000000 → (rdO d ss b f).2.2 = 0 → f = 0 ∧ b = oB d ss (rdO d ss b f).1 ++ (rdO d ss b f).2.1 ∧ FitO d ss (rdO d ss b f).1
  | [], b, f, _, h => ⟨h, rfl, .nil⟩
  | (k, s) :: ss, b, f, hb, h => by
    rw [rdO] at h ⊢
    cases hk : hasB d k with
    | true =>
      simp only [hk, if_true] at h ⊢
      have h0 : (rdS s b f).2.2 = 0 := by
        by_cases c : (rdS s b f).2.2 = 0
        · exact c
        · rw [rdO_fault c] at h; exact h
      obtain ⟨k1, k2, k3⟩ := rdS_inv hb h0
      obtain ⟨j1, j2, j3⟩ := rdO_inv (ss := ss) (rdS_len hb h0) h
      refine ⟨k1, ?_, .cons (fun _ => k3) (fun e => by rw [hk] at e; exact absurd e (by decide)) j3⟩
      rw [oB]
      simp only [hk, if_true]
      rw [List.append_assoc, ← j2]
      exact k2
    | false =>
      simp only [hk, Bool.false_eq_true, if_false] at h ⊢
      obtain ⟨j1, j2, j3⟩ := rdO_inv (ss := ss) hb h
      refine ⟨j1, ?_, .cons (fun e => by rw [hk] at e; exact absurd e (by decide)) (fun _ => rfl) j3⟩
      rw [oB]
      simp only [hk, Bool.false_eq_true, if_false, List.nil_append]
      exact j2
end Go.Sx.Tryd
