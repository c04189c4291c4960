/- Closed calls: what a call comes to, out of what the calls that it makes come to. -/
import Derived.Test.YtggopflifieoiaaDoorSxLim
import Derived.Test.YtggopflifieoiaaDoorXT
namespace Go.Sx
open Go
mutual
def PV.beq : PV → PV → Bool
  | .bool a, .bool b => a == b
  | .int k a, .int k' b => decide (k = k') && decide (a = b)
  | .str a, .str b => a == b
  | .agg l, .agg m => PV.beqL l m
  | .sl o s l, .sl o' s' m => decide (o = o') && decide (s = s') && PV.beqL l m
  | _, _ => false
def PV.beqL : List PV → List PV → Bool
  | [], [] => true
  | a :: l, b :: m => PV.beq a b && PV.beqL l m
  | _, _ => false
end
mutual
theorem PV.beq_ok : ∀ {a b : PV}, PV.beq a b = true → a = b
  | .bool a, b, h => by cases b <;> simp only [PV.beq, Bool.false_eq_true, beq_iff_eq] at h; rw [h]
  | .int k a, b, h => by cases b <;> simp only [PV.beq, Bool.false_eq_true, Bool.and_eq_true, decide_eq_true_eq] at h; rw [h.1, h.2]
  | .str a, b, h => by cases b <;> simp only [PV.beq, Bool.false_eq_true, beq_iff_eq] at h; rw [h]
  | .agg l, b, h => by
    cases b with
    | agg m => simp only [PV.beq] at h; rw [PV.beqL_ok h]
    | _ => simp [PV.beq] at h
  | .sl o s l, b, h => by
    cases b with
    | sl o' s' m => simp only [PV.beq, Bool.and_eq_true, decide_eq_true_eq] at h; rw [h.1.1, h.1.2, PV.beqL_ok h.2]
    | _ => simp [PV.beq] at h
theorem PV.beqL_ok : ∀ {l m : List PV}, PV.beqL l m = true → l = m
  | [], [], _ => rfl
  | a :: l, b :: m, h => by simp only [PV.beqL, Bool.and_eq_true] at h; rw [PV.beq_ok h.1, PV.beqL_ok h.2]
  | [], _ :: _, h => by simp [PV.beqL] at h
  | _ :: _, [], h => by simp [PV.beqL] at h
end
def listB {α : Type} (f : α → α → Bool) : List α → List α → Bool
  | [], [] => true
  | a :: l, b :: m => f a b && listB f l m
  | _, _ => false
theorem listB_ok {α : Type} {f : α → α → Bool} (hf : ∀ a b, f a b = true → a = b) : ∀ {l m : List α}, listB f l m = true → l = m
  | [], [], _ => rfl
  | a :: l, b :: m, h => by simp only [listB, Bool.and_eq_true] at h; rw [hf _ _ h.1, listB_ok hf h.2]
  | [], _ :: _, h => by simp [listB] at h
  | _ :: _, [], h => by simp [listB] at h
def CV.beq : CV → CV → Bool
  | .undef, .undef => true
  | .pv a, .pv b => PV.beq a b
  | .own i s l, .own i' s' m => decide (i = i') && decide (s = s') && PV.beqL l m
  | .ms k o s n, .ms k' o' s' n' => decide (k = k') && decide (o = o') && decide (s = s') && decide (n = n')
  | .ptr k o, .ptr k' o' => decide (k = k') && decide (o = o')
  | .cptr l o, .cptr m o' => decide (o = o') && PV.beqL l m
  | .nilp, .nilp => true
  | .fn f c, .fn f' c' => decide (f = f') && decide (c = c')
  | .nilf, .nilf => true
  | .mp k, .mp k' => decide (k = k')
  | .nilm, .nilm => true
  | _, _ => false
theorem CV.beq_ok : ∀ {a b : CV}, CV.beq a b = true → a = b := by
  intro a b h
  cases a <;> cases b <;> first
    | rfl
    | (simp [CV.beq] at h; done)
    | (simp only [CV.beq, Bool.and_eq_true, decide_eq_true_eq] at h; simp_all; done)
    | (simp only [CV.beq, Bool.and_eq_true, decide_eq_true_eq] at h; obtain ⟨⟨rfl, rfl⟩, h⟩ := h; rw [PV.beqL_ok h]; done)
    | (simp only [CV.beq, Bool.and_eq_true, decide_eq_true_eq] at h; obtain ⟨rfl, h⟩ := h; rw [PV.beqL_ok h]; done)
    | (simp only [CV.beq] at h; rw [PV.beq_ok h]; done)
def AV.beq : AV → AV → Bool
  | .c x, .c y => CV.beq x y
  | .agg l, .agg m => listB CV.beq l m
  | _, _ => false
theorem AV.beq_ok : ∀ (a b : AV), AV.beq a b = true → a = b := by
  intro a b h
  cases a <;> cases b <;> first | (simp [AV.beq] at h; done) | (simp only [AV.beq] at h; rw [CV.beq_ok h]; done) | (simp only [AV.beq] at h; rw [listB_ok (fun _ _ => CV.beq_ok) h]; done)
def kvB (a b : PV × PV) : Bool := PV.beq a.1 b.1 && PV.beq a.2 b.2
theorem kvB_ok (a b : PV × PV) (h : kvB a b = true) : a = b := by
  simp only [kvB, Bool.and_eq_true] at h
  exact Prod.ext (PV.beq_ok h.1) (PV.beq_ok h.2)
def Box.beq : Box → Box → Bool
  | .cells l, .cells m => listB CV.beq l m
  | .map l, .map m => listB kvB l m
  | .iter l p, .iter m q => decide (p = q) && l == m
  | .row s l, .row s' m => decide (s = s') && PV.beqL l m
  | .dead, .dead => true
  | _, _ => false
theorem Box.beq_ok (a b : Box) (h : Box.beq a b = true) : a = b := by
  cases a <;> cases b <;> first | rfl | (simp [Box.beq] at h; done) | (simp only [Box.beq] at h; rw [listB_ok (fun _ _ => CV.beq_ok) h]; done) | (simp only [Box.beq] at h; rw [listB_ok kvB_ok h]; done) |
    (simp only [Box.beq, Bool.and_eq_true, decide_eq_true_eq, beq_iff_eq] at h; rw [h.1, h.2]; done) | (simp only [Box.beq, Bool.and_eq_true, decide_eq_true_eq] at h; rw [h.1, PV.beqL_ok h.2])
structure Fact where
  f : Nat
  a : List AV
  b : List Box
  r : AV × List Box
def tabOr : List Fact → Oracle
  | [], _, _, _ => none
  | t :: r, f, a, b => if decide (t.f = f) && listB AV.beq t.a a && listB Box.beq t.b b then some t.r else tabOr r f a b
def Holds (call : Oracle) : List Fact → Prop
  | [] => True
  | t :: r => call t.f t.a t.b = some t.r ∧ Holds call r
theorem Holds.le {call : Oracle} : ∀ {t : List Fact}, Holds call t → Le (tabOr t) call
  | [], _, _, _, _, _, h => by simp [tabOr] at h
  | t :: r, hh, f, a, b, q, h => by
    simp only [tabOr] at h
    split at h
    · rename_i hc
      simp only [Bool.and_eq_true, decide_eq_true_eq] at hc
      cases h
      rw [← hc.1.1, ← listB_ok AV.beq_ok hc.1.2, ← listB_ok Box.beq_ok hc.2]
      exact hh.1
    · exact Holds.le hh.2 f a b q h
section
variable {X : Nat → Option XFunc} {E : Oracle}
theorem Holds.lim : ∀ {t : List Fact}, Holds (ev X E) t → ∃ n, Holds (evF X E n) t
  | [], _ => ⟨0, trivial⟩
  | t :: r, h => by
    obtain ⟨n, hn⟩ := lim_ex h.1
    obtain ⟨m, hm⟩ := Holds.lim h.2
    have up : ∀ {l : List Fact} {n m : Nat}, n ≤ m → Holds (evF X E n) l → Holds (evF X E m) l := by
      intro l
      induction l with
      | nil => intro _ _ _ _; trivial
      | cons t l ih => intro n m hnm h; exact ⟨evF_mono X E hnm _ _ _ _ h.1, ih hnm h.2⟩
    exact ⟨max n m, evF_mono X E (Nat.le_max_left n m) _ _ _ _ hn, up (Nat.le_max_right n m) hm⟩
theorem ev_tab {f n : Nat} {x : XFunc} (hx : X f = some x) {a : List AV} {b : List Box} {r : AV × List Box} {t : List Fact} (h : runF (tabOr t) n x a b = some r) (ht : Holds (ev X E) t) : ev X E f a b = some r := by
  obtain ⟨m, hm⟩ := ht.lim
  refine ev_of (n := max m n + 1) ?_
  show (match X f with | some x => runF (evF X E (max m n)) (max m n) x a b | none => E f a b) = some r
  rw [hx]
  exact runF_mono (fun f a b q h => evF_mono X E (Nat.le_max_left m n) f a b q (hm.le f a b q h)) (Nat.le_max_right m n) x a b r h
end
end Go.Sx
/- Closed calls, each out of those that it makes. Printed by closed.py. -/
namespace Go.Sx.Tryd.CaliveA
open Go Go.Sx Go.Sx.Tryd
abbrev H1 (z : Fact) : Prop := Holds (ev X E0) [z]
theorem t0 {f : Nat} {x : XFunc} (hx : X f = some x) {a : List AV} {b : List Box} {r : AV × List Box} (h : runF (tabOr []) 400 x a b = some r) : ev X E0 f a b = some r := ev_tab hx (t := []) h trivial
theorem t1 {f : Nat} {x : XFunc} (hx : X f = some x) {a : List AV} {b : List Box} {r : AV × List Box} {t : List Fact} (h : runF (tabOr t) 400 x a b = some r) (ht : Holds (ev X E0) t) : ev X E0 f a b = some r := ev_tab hx h ht
abbrev h74 (a b : Int) (r : CV) : Fact := ⟨74, [.c (.pv (.int .i64 a)), .c (.pv (.int .i64 b))], [], (.c r, [])⟩
abbrev zi : CV := .pv (.int .i64 0)
abbrev zd : CV := .pv (.int .i32 0)
abbrev zs : CV := .pv (.str [])
abbrev zf : CV := .pv (.bool false)
abbrev zt : CV := .pv (.bool true)
abbrev zj : PV := .int .i64 0
abbrev zk : PV := .int .i32 0
def zw0 : PV := .agg [.int .i64 1, zj, .int .i64 (-30)]
def zw1 : PV := .agg [.int .i64 2, zj, .int .i64 30]
def zw2 : PV := .sl .full 3 [zw0, zw1]
def zu3 : AV := .agg [zi, .pv (.int .i32 5), .pv (.int .i32 3), .pv (zw2), zi, zi, zs]
def zw4 : PV := .sl .nil 0 []
def zu5 : AV := .agg [.pv (zw4)]
def zu6 : AV := .agg [.pv (.int .i64 1), .pv (.int .i32 5), .pv (.int .i32 3), .pv (zw2), zi, zi, zs]
def zb9 : Box := .cells [.pv (.int .i64 1), .pv (.int .i32 5), .pv (.int .i32 3), .pv (zw2), zi, zi, zs]
def zw12 : PV := .sl .shut 3 [zw0, zw1]
def zu13 : AV := .agg [.pv (.int .i64 1), .pv (.int .i32 5), .pv (.int .i32 3), .pv (zw12), zi, zi, zs]
def zw14 : PV := .agg [.int .i64 1, .int .i32 5, .int .i32 3, zw12, zj, zj, .str []]
def zu15 : AV := .agg [.own 2431 7 [zw14]]
def zw16 : PV := .sl .shut 7 [zw14]
def zu17 : AV := .agg [.pv (zw16)]
def zw18 : PV := .agg [.int .i64 2, zj, .int .i64 (-10)]
def zw19 : PV := .agg [.int .i64 1, zj, .int .i64 10]
def zw20 : PV := .sl .full 3 [zw18, zw19]
def zu21 : AV := .agg [zi, .pv (.int .i32 9), .pv (.int .i32 4), .pv (zw20), zi, zi, zs]
def zb22 : Box := .cells [.pv (.int .i64 1), .pv (.int .i32 5), .pv (.int .i32 3), .pv (zw12), zi, zi, zs]
def zw23 : PV := .sl .shut 7 []
def zu24 : AV := .agg [.pv (.int .i64 2), .pv (.int .i32 9), .pv (.int .i32 4), .pv (zw20), zi, zi, zs]
def zb27 : Box := .cells [.pv (.int .i64 2), .pv (.int .i32 9), .pv (.int .i32 4), .pv (zw20), zi, zi, zs]
def zw30 : PV := .sl .shut 3 [zw18, zw19]
def zu31 : AV := .agg [.pv (.int .i64 2), .pv (.int .i32 9), .pv (.int .i32 4), .pv (zw30), zi, zi, zs]
def zw32 : PV := .agg [.int .i64 2, .int .i32 9, .int .i32 4, zw30, zj, zj, .str []]
def zu33 : AV := .agg [.own 2431 7 [zw14, zw32]]
def zw34 : PV := .sl .shut 7 [zw14, zw32]
def zu35 : AV := .agg [.pv (zw34)]
def zt0 : Fact := ⟨12, [.c (.pv (.int .i64 1)), .c (.pv (.int .i64 2)), .c (zi), .c (.pv (.int .i64 30)), .c (.pv (.int .i32 5)), .c (.pv (.int .i32 3))], [], (zu3, [])⟩
theorem zt0_ok : H1 zt0 := ⟨t0 (x := xf12) rfl (by kernel_rfl), trivial⟩
def zt1 : Fact := ⟨38, [zu5], [], (.c (zt), [])⟩
theorem zt1_ok : H1 zt1 := ⟨t0 (x := xf38) rfl (by kernel_rfl), trivial⟩
def zt5 : Fact := ⟨85, [zu6], [], (.c (zt), [])⟩
theorem zt5_ok : H1 zt5 := ⟨ev_of (n := 60) (by kernel_rfl), trivial⟩
def zt6 : Fact := ⟨53, [.c (.pv (.int .i32 5))], [], (.c (zt), [])⟩
theorem zt6_ok : H1 zt6 := ⟨t0 (x := xf53) rfl (by kernel_rfl), trivial⟩
def zt7 : Fact := ⟨53, [.c (.pv (.int .i32 3))], [], (.c (zt), [])⟩
theorem zt7_ok : H1 zt7 := ⟨t0 (x := xf53) rfl (by kernel_rfl), trivial⟩
def zt12 : Fact := ⟨83, [.c (.fn 86 []), .c (.ptr 0 0)], [zb9], (.c (zf), [zb9])⟩
theorem zt12_ok : H1 zt12 := ⟨ev_of (n := 60) (by kernel_rfl), trivial⟩
def zt19 : Fact := ⟨83, [.c (.fn 87 []), .c (.ptr 0 0)], [zb9], (.c (zf), [zb9])⟩
theorem zt19_ok : H1 zt19 := ⟨ev_of (n := 60) (by kernel_rfl), trivial⟩
def zt26 : Fact := ⟨83, [.c (.fn 89 []), .c (.ptr 0 0)], [zb9], (.c (zf), [zb9])⟩
theorem zt26_ok : H1 zt26 := ⟨ev_of (n := 60) (by kernel_rfl), trivial⟩
def zt31 : Fact := ⟨83, [.c (.fn 90 []), .c (.ptr 0 0)], [zb9], (.c (zf), [zb9])⟩
theorem zt31_ok : H1 zt31 := ⟨ev_of (n := 60) (by kernel_rfl), trivial⟩
def zt32 : Fact := ⟨91, [.c (.pv (zw2))], [], (.c (zt), [])⟩
theorem zt32_ok : H1 zt32 := ⟨t0 (x := xf91) rfl (by kernel_rfl), trivial⟩
def zt33 : Fact := ⟨36, [zu6], [], (.c (zi), [])⟩
theorem zt33_ok : H1 zt33 := ⟨t1 (x := xf36) rfl (t := [zt5, zt6, zt7, zt12, zt19, zt26, zt31, zt32]) (by kernel_rfl) ⟨zt5_ok.1, zt6_ok.1, zt7_ok.1, zt12_ok.1, zt19_ok.1, zt26_ok.1, zt31_ok.1, zt32_ok.1, trivial⟩, trivial⟩
def zt34 : Fact := ⟨40, [.c (.pv (zw4))], [], (.c (.mp 0), [.map []])⟩
theorem zt34_ok : H1 zt34 := ⟨t0 (x := xf40) rfl (by kernel_rfl), trivial⟩
def zt35 : Fact := ⟨39, [.c (.pv (zw4)), .c (.mp 0), zu6], [.map []], (.c (zi), [.map []])⟩
theorem zt35_ok : H1 zt35 := ⟨t0 (x := xf39) rfl (by kernel_rfl), trivial⟩
def zt36 : Fact := ⟨42, [.c (.pv (zw4)), .c (.fn 41 [])], [], (.c (.pv (zw4)), [])⟩
theorem zt36_ok : H1 zt36 := ⟨t0 (x := xf42) rfl (by kernel_rfl), trivial⟩
def zt38 : Fact := ⟨43, [zu6], [], (zu13, [])⟩
theorem zt38_ok : H1 zt38 := ⟨ev_of (n := 60) (by kernel_rfl), trivial⟩
def zt39 : Fact := ⟨14, [zu5, zu6], [], (.tup [zu15, .c (zi)], [])⟩
theorem zt39_ok : H1 zt39 := ⟨t1 (x := xf14) rfl (t := [zt1, zt33, zt34, zt35, zt36, zt38]) (by kernel_rfl) ⟨zt1_ok.1, zt33_ok.1, zt34_ok.1, zt35_ok.1, zt36_ok.1, zt38_ok.1, trivial⟩, trivial⟩
def zt40 : Fact := ⟨11, [zu5, zu3], [], (.tup [zu17, .c (zt)], [])⟩
theorem zt40_ok : H1 zt40 := ⟨t1 (x := xf11) rfl (t := [zt39]) (by kernel_rfl) ⟨zt39_ok.1, trivial⟩, trivial⟩
def zt41 : Fact := ⟨12, [.c (.pv (.int .i64 2)), .c (.pv (.int .i64 1)), .c (zi), .c (.pv (.int .i64 10)), .c (.pv (.int .i32 9)), .c (.pv (.int .i32 4))], [], (zu21, [])⟩
theorem zt41_ok : H1 zt41 := ⟨t0 (x := xf12) rfl (by kernel_rfl), trivial⟩
def zt42 : Fact := ⟨85, [zu13], [], (.c (zt), [])⟩
theorem zt42_ok : H1 zt42 := ⟨ev_of (n := 60) (by kernel_rfl), trivial⟩
def zt45 : Fact := ⟨83, [.c (.fn 86 []), .c (.ptr 0 0)], [zb22], (.c (zf), [zb22])⟩
theorem zt45_ok : H1 zt45 := ⟨ev_of (n := 60) (by kernel_rfl), trivial⟩
def zt48 : Fact := ⟨83, [.c (.fn 87 []), .c (.ptr 0 0)], [zb22], (.c (zf), [zb22])⟩
theorem zt48_ok : H1 zt48 := ⟨ev_of (n := 60) (by kernel_rfl), trivial⟩
def zt51 : Fact := ⟨83, [.c (.fn 89 []), .c (.ptr 0 0)], [zb22], (.c (zf), [zb22])⟩
theorem zt51_ok : H1 zt51 := ⟨ev_of (n := 60) (by kernel_rfl), trivial⟩
def zt54 : Fact := ⟨83, [.c (.fn 90 []), .c (.ptr 0 0)], [zb22], (.c (zf), [zb22])⟩
theorem zt54_ok : H1 zt54 := ⟨ev_of (n := 60) (by kernel_rfl), trivial⟩
def zt55 : Fact := ⟨91, [.c (.pv (zw12))], [], (.c (zt), [])⟩
theorem zt55_ok : H1 zt55 := ⟨t0 (x := xf91) rfl (by kernel_rfl), trivial⟩
def zt56 : Fact := ⟨36, [zu13], [], (.c (zi), [])⟩
theorem zt56_ok : H1 zt56 := ⟨t1 (x := xf36) rfl (t := [zt42, zt6, zt7, zt45, zt48, zt51, zt54, zt55]) (by kernel_rfl) ⟨zt42_ok.1, zt6_ok.1, zt7_ok.1, zt45_ok.1, zt48_ok.1, zt51_ok.1, zt54_ok.1, zt55_ok.1, trivial⟩, trivial⟩
def zt57 : Fact := ⟨39, [.c (.pv (zw23)), .c (.mp 0), zu13], [.map []], (.c (zi), [.map []])⟩
theorem zt57_ok : H1 zt57 := ⟨t0 (x := xf39) rfl (by kernel_rfl), trivial⟩
def zt58 : Fact := ⟨38, [zu17], [], (.c (zt), [])⟩
theorem zt58_ok : H1 zt58 := ⟨t1 (x := xf38) rfl (t := [zt56, zt57]) (by kernel_rfl) ⟨zt56_ok.1, zt57_ok.1, trivial⟩, trivial⟩
def zt59 : Fact := ⟨85, [zu24], [], (.c (zt), [])⟩
theorem zt59_ok : H1 zt59 := ⟨ev_of (n := 60) (by kernel_rfl), trivial⟩
def zt60 : Fact := ⟨53, [.c (.pv (.int .i32 9))], [], (.c (zt), [])⟩
theorem zt60_ok : H1 zt60 := ⟨t0 (x := xf53) rfl (by kernel_rfl), trivial⟩
def zt61 : Fact := ⟨53, [.c (.pv (.int .i32 4))], [], (.c (zt), [])⟩
theorem zt61_ok : H1 zt61 := ⟨t0 (x := xf53) rfl (by kernel_rfl), trivial⟩
def zt66 : Fact := ⟨83, [.c (.fn 86 []), .c (.ptr 0 0)], [zb27], (.c (zf), [zb27])⟩
theorem zt66_ok : H1 zt66 := ⟨ev_of (n := 60) (by kernel_rfl), trivial⟩
def zt71 : Fact := ⟨83, [.c (.fn 87 []), .c (.ptr 0 0)], [zb27], (.c (zf), [zb27])⟩
theorem zt71_ok : H1 zt71 := ⟨ev_of (n := 60) (by kernel_rfl), trivial⟩
def zt78 : Fact := ⟨83, [.c (.fn 89 []), .c (.ptr 0 0)], [zb27], (.c (zf), [zb27])⟩
theorem zt78_ok : H1 zt78 := ⟨ev_of (n := 60) (by kernel_rfl), trivial⟩
def zt83 : Fact := ⟨83, [.c (.fn 90 []), .c (.ptr 0 0)], [zb27], (.c (zf), [zb27])⟩
theorem zt83_ok : H1 zt83 := ⟨ev_of (n := 60) (by kernel_rfl), trivial⟩
def zt84 : Fact := ⟨91, [.c (.pv (zw20))], [], (.c (zt), [])⟩
theorem zt84_ok : H1 zt84 := ⟨t0 (x := xf91) rfl (by kernel_rfl), trivial⟩
def zt85 : Fact := ⟨36, [zu24], [], (.c (zi), [])⟩
theorem zt85_ok : H1 zt85 := ⟨t1 (x := xf36) rfl (t := [zt59, zt60, zt61, zt66, zt71, zt78, zt83, zt84]) (by kernel_rfl) ⟨zt59_ok.1, zt60_ok.1, zt61_ok.1, zt66_ok.1, zt71_ok.1, zt78_ok.1, zt83_ok.1, zt84_ok.1, trivial⟩, trivial⟩
def zt86 : Fact := ⟨40, [.c (.pv (zw16))], [], (.c (.mp 0), [.map [(zj, .bool true)]])⟩
theorem zt86_ok : H1 zt86 := ⟨t0 (x := xf40) rfl (by kernel_rfl), trivial⟩
def zt87 : Fact := ⟨39, [.c (.pv (zw16)), .c (.mp 0), zu24], [.map [(zj, .bool true)]], (.c (zi), [.map [(zj, .bool true)]])⟩
theorem zt87_ok : H1 zt87 := ⟨t0 (x := xf39) rfl (by kernel_rfl), trivial⟩
def zt91 : Fact := ⟨42, [.c (.pv (zw16)), .c (.fn 41 [])], [], (.c (.own 1407 7 [zw14]), [])⟩
theorem zt91_ok : H1 zt91 := ⟨ev_of (n := 60) (by kernel_rfl), trivial⟩
def zt93 : Fact := ⟨43, [zu24], [], (zu31, [])⟩
theorem zt93_ok : H1 zt93 := ⟨ev_of (n := 60) (by kernel_rfl), trivial⟩
def zt94 : Fact := ⟨14, [zu17, zu24], [], (.tup [zu33, .c (zi)], [])⟩
theorem zt94_ok : H1 zt94 := ⟨t1 (x := xf14) rfl (t := [zt58, zt85, zt86, zt87, zt91, zt93]) (by kernel_rfl) ⟨zt58_ok.1, zt85_ok.1, zt86_ok.1, zt87_ok.1, zt91_ok.1, zt93_ok.1, trivial⟩, trivial⟩
def zt95 : Fact := ⟨11, [zu17, zu21], [], (.tup [zu35, .c (zt)], [])⟩
theorem zt95_ok : H1 zt95 := ⟨t1 (x := xf11) rfl (t := [zt94]) (by kernel_rfl) ⟨zt94_ok.1, trivial⟩, trivial⟩
def zt107 : Fact := ⟨16, [.c (.pv (zw34)), .c (.pv (.int .i64 2)), .c (zi), .c (.pv (.int .i32 5)), .c (.pv (.int .i32 9))], [], (.tup [.c (.pv (.int .i64 30)), .c (zi)], [])⟩
theorem zt107_ok : H1 zt107 := ⟨ev_of (n := 60) (by kernel_rfl), trivial⟩
def zt114 : Fact := ⟨32, [.c (.pv (zw34)), .c (.pv (.int .i64 2)), .c (zi), .c (.pv (.int .i32 9))], [], (.tup [.c (.pv (.int .i64 20)), .c (zi)], [])⟩
theorem zt114_ok : H1 zt114 := ⟨ev_of (n := 60) (by kernel_rfl), trivial⟩
def zt115 : Fact := ⟨9, [], [], (.c (zt), [])⟩
theorem zt115_ok : H1 zt115 := ⟨t1 (x := xf9) rfl (t := [zt0, zt40, zt41, zt95, zt107, zt114]) (by kernel_rfl) ⟨zt0_ok.1, zt40_ok.1, zt41_ok.1, zt95_ok.1, zt107_ok.1, zt114_ok.1, trivial⟩, trivial⟩
theorem aliveA : ev X E0 9 [] [] = some (.c (zt), []) := zt115_ok.1
end Go.Sx.Tryd.CaliveA
