/- Closed calls: what a call comes to, out of what the calls that it makes come to. -/
import Derived.Test.YtplknajjcllmkaaDoorSxLim
import Derived.Test.YtplknajjcllmkaaDoorXT
namespace Go.Sx
open Go
mutual
def PV.beq : PV → PV → Bool
  | .bool a, .bool b => a == b
  | .int k a, .int k' b => decide (k = k') && decide (a = b)
  | .str a, .str b => a == b
  | .agg l, .agg m => PV.beqL l m
  | .sl o s l, .sl o' s' m => decide (o = o') && decide (s = s') && PV.beqL l m
  | _, _ => false
def PV.beqL : List PV → List PV → Bool
  | [], [] => true
  | a :: l, b :: m => PV.beq a b && PV.beqL l m
  | _, _ => false
end
mutual
theorem PV.beq_ok : ∀ {a b : PV}, PV.beq a b = true → a = b
  | .bool a, b, h => by cases b <;> simp only [PV.beq, Bool.false_eq_true, beq_iff_eq] at h; rw [h]
  | .int k a, b, h => by cases b <;> simp only [PV.beq, Bool.false_eq_true, Bool.and_eq_true, decide_eq_true_eq] at h; rw [h.1, h.2]
  | .str a, b, h => by cases b <;> simp only [PV.beq, Bool.false_eq_true, beq_iff_eq] at h; rw [h]
  | .agg l, b, h => by
    cases b with
    | agg m => simp only [PV.beq] at h; rw [PV.beqL_ok h]
    | _ => simp [PV.beq] at h
  | .sl o s l, b, h => by
    cases b with
    | sl o' s' m => simp only [PV.beq, Bool.and_eq_true, decide_eq_true_eq] at h; rw [h.1.1, h.1.2, PV.beqL_ok h.2]
    | _ => simp [PV.beq] at h
theorem PV.beqL_ok : ∀ {l m : List PV}, PV.beqL l m = true → l = m
  | [], [], _ => rfl
  | a :: l, b :: m, h => by simp only [PV.beqL, Bool.and_eq_true] at h; rw [PV.beq_ok h.1, PV.beqL_ok h.2]
  | [], _ :: _, h => by simp [PV.beqL] at h
  | _ :: _, [], h => by simp [PV.beqL] at h
end
def listB {α : Type} (f : α → α → Bool) : List α → List α → Bool
  | [], [] => true
  | a :: l, b :: m => f a b && listB f l m
  | _, _ => false
theorem listB_ok {α : Type} {f : α → α → Bool} (hf : ∀ a b, f a b = true → a = b) : ∀ {l m : List α}, listB f l m = true → l = m
  | [], [], _ => rfl
  | a :: l, b :: m, h => by simp only [listB, Bool.and_eq_true] at h; rw [hf _ _ h.1, listB_ok hf h.2]
  | [], _ :: _, h => by simp [listB] at h
  | _ :: _, [], h => by simp [listB] at h
def CV.beq : CV → CV → Bool
  | .undef, .undef => true
  | .pv a, .pv b => PV.beq a b
  | .own i s l, .own i' s' m => decide (i = i') && decide (s = s') && PV.beqL l m
  | .ms k o s n, .ms k' o' s' n' => decide (k = k') && decide (o = o') && decide (s = s') && decide (n = n')
  | .ptr k o, .ptr k' o' => decide (k = k') && decide (o = o')
  | .cptr l o, .cptr m o' => decide (o = o') && PV.beqL l m
  | .nilp, .nilp => true
  | .fn f c, .fn f' c' => decide (f = f') && decide (c = c')
  | .nilf, .nilf => true
  | .mp k, .mp k' => decide (k = k')
  | .nilm, .nilm => true
  | _, _ => false
theorem CV.beq_ok : ∀ {a b : CV}, CV.beq a b = true → a = b := by
  intro a b h
  cases a <;> cases b <;> first
    | rfl
    | (simp [CV.beq] at h; done)
    | (simp only [CV.beq, Bool.and_eq_true, decide_eq_true_eq] at h; simp_all; done)
    | (simp only [CV.beq, Bool.and_eq_true, decide_eq_true_eq] at h; obtain ⟨⟨rfl, rfl⟩, h⟩ := h; rw [PV.beqL_ok h]; done)
    | (simp only [CV.beq, Bool.and_eq_true, decide_eq_true_eq] at h; obtain ⟨rfl, h⟩ := h; rw [PV.beqL_ok h]; done)
    | (simp only [CV.beq] at h; rw [PV.beq_ok h]; done)
def AV.beq : AV → AV → Bool
  | .c x, .c y => CV.beq x y
  | .agg l, .agg m => listB CV.beq l m
  | _, _ => false
theorem AV.beq_ok : ∀ (a b : AV), AV.beq a b = true → a = b := by
  intro a b h
  cases a <;> cases b <;> first | (simp [AV.beq] at h; done) | (simp only [AV.beq] at h; rw [CV.beq_ok h]; done) | (simp only [AV.beq] at h; rw [listB_ok (fun _ _ => CV.beq_ok) h]; done)
def kvB (a b : PV × PV) : Bool := PV.beq a.1 b.1 && PV.beq a.2 b.2
theorem kvB_ok (a b : PV × PV) (h : kvB a b = true) : a = b := by
  simp only [kvB, Bool.and_eq_true] at h
  exact Prod.ext (PV.beq_ok h.1) (PV.beq_ok h.2)
def Box.beq : Box → Box → Bool
  | .cells l, .cells m => listB CV.beq l m
  | .map l, .map m => listB kvB l m
  | .iter l p, .iter m q => decide (p = q) && l == m
  | .row s l, .row s' m => decide (s = s') && PV.beqL l m
  | .dead, .dead => true
  | _, _ => false
theorem Box.beq_ok (a b : Box) (h : Box.beq a b = true) : a = b := by
  cases a <;> cases b <;> first | rfl | (simp [Box.beq] at h; done) | (simp only [Box.beq] at h; rw [listB_ok (fun _ _ => CV.beq_ok) h]; done) | (simp only [Box.beq] at h; rw [listB_ok kvB_ok h]; done) |
    (simp only [Box.beq, Bool.and_eq_true, decide_eq_true_eq, beq_iff_eq] at h; rw [h.1, h.2]; done) | (simp only [Box.beq, Bool.and_eq_true, decide_eq_true_eq] at h; rw [h.1, PV.beqL_ok h.2])
structure Fact where
  f : Nat
  a : List AV
  b : List Box
  r : AV × List Box
def tabOr : List Fact → Oracle
  | [], _, _, _ => none
  | t :: r, f, a, b => if decide (t.f = f) && listB AV.beq t.a a && listB Box.beq t.b b then some t.r else tabOr r f a b
def Holds (call : Oracle) : List Fact → Prop
  | [] => True
  | t :: r => call t.f t.a t.b = some t.r ∧ Holds call r
theorem Holds.le {call : Oracle} : ∀ {t : List Fact}, Holds call t → Le (tabOr t) call
  | [], _, _, _, _, _, h => by simp [tabOr] at h
  | t :: r, hh, f, a, b, q, h => by
    simp only [tabOr] at h
    split at h
    · rename_i hc
      simp only [Bool.and_eq_true, decide_eq_true_eq] at hc
      cases h
      rw [← hc.1.1, ← listB_ok AV.beq_ok hc.1.2, ← listB_ok Box.beq_ok hc.2]
      exact hh.1
    · exact Holds.le hh.2 f a b q h
section
variable {X : Nat → Option XFunc} {E : Oracle}
theorem Holds.lim : ∀ {t : List Fact}, Holds (ev X E) t → ∃ n, Holds (evF X E n) t
  | [], _ => ⟨0, trivial⟩
  | t :: r, h => by
    obtain ⟨n, hn⟩ := lim_ex h.1
    obtain ⟨m, hm⟩ := Holds.lim h.2
    have up : ∀ {l : List Fact} {n m : Nat}, n ≤ m → Holds (evF X E n) l → Holds (evF X E m) l := by
      intro l
      induction l with
      | nil => intro _ _ _ _; trivial
      | cons t l ih => intro n m hnm h; exact ⟨evF_mono X E hnm _ _ _ _ h.1, ih hnm h.2⟩
    exact ⟨max n m, evF_mono X E (Nat.le_max_left n m) _ _ _ _ hn, up (Nat.le_max_right n m) hm⟩
theorem ev_tab {f n : Nat} {x : XFunc} (hx : X f = some x) {a : List AV} {b : List Box} {r : AV × List Box} {t : List Fact} (h : runF (tabOr t) n x a b = some r) (ht : Holds (ev X E) t) : ev X E f a b = some r := by
  obtain ⟨m, hm⟩ := ht.lim
  refine ev_of (n := max m n + 1) ?_
  show (match X f with | some x => runF (evF X E (max m n)) (max m n) x a b | none => E f a b) = some r
  rw [hx]
  exact runF_mono (fun f a b q h => evF_mono X E (Nat.le_max_left m n) f a b q (hm.le f a b q h)) (Nat.le_max_right m n) x a b r h
end
end Go.Sx
/- Closed calls, each out of those that it makes. Printed by closed.py. -/
namespace Go.Sx.Tryd.Calive35
open Go Go.Sx Go.Sx.Tryd
abbrev H1 (z : Fact) : Prop := Holds (ev X E0) [z]
theorem t0 {f : Nat} {x : XFunc} (hx : X f = some x) {a : List AV} {b : List Box} {r : AV × List Box} (h : runF (tabOr []) 400 x a b = some r) : ev X E0 f a b = some r := ev_tab hx (t := []) h trivial
theorem t1 {f : Nat} {x : XFunc} (hx : X f = some x) {a : List AV} {b : List Box} {r : AV × List Box} {t : List Fact} (h : runF (tabOr t) 400 x a b = some r) (ht : Holds (ev X E0) t) : ev X E0 f a b = some r := ev_tab hx h ht
abbrev h74 (a b : Int) (r : CV) : Fact := ⟨74, [.c (.pv (.int .i64 a)), .c (.pv (.int .i64 b))], [], (.c r, [])⟩
abbrev zi : CV := .pv (.int .i64 0)
abbrev zd : CV := .pv (.int .i32 0)
abbrev zs : CV := .pv (.str [])
abbrev zf : CV := .pv (.bool false)
abbrev zt : CV := .pv (.bool true)
abbrev zj : PV := .int .i64 0
abbrev zk : PV := .int .i32 0
def zw0 : PV := .sl .nil 0 []
def zu1 : AV := .agg [.pv (zw0)]
def zb2 : Box := .cells [.pv (.int .i32 50000)]
def zu3 : AV := .agg [.pv (zw0), .pv (zw0), .pv (.int .i64 1)]
def zw4 : PV := .agg [.int .i64 1, zj, .int .i32 9, .int .i32 9]
def zu5 : AV := .agg [.pv (zw0), .own 3455 4 [zw4], .pv (.int .i64 2)]
def zw6 : PV := .agg [.int .i64 2, zj, .int .i64 100]
def zw7 : PV := .agg [.int .i64 1, zj, .int .i64 (-100)]
def zw8 : PV := .sl .full 3 [zw6, zw7]
def zu9 : AV := .agg [.pv (.int .i64 1), .pv (.int .i32 5), .pv (.int .i32 3), .pv (zw8), zi, zi, zs]
def zw10 : PV := .sl .shut 4 [zw4]
def zu11 : AV := .agg [.pv (zw0), .pv (zw10), .pv (.int .i64 2)]
def zu12 : AV := .agg [.pv (.int .i64 2), zi, .pv (.int .i64 100)]
def zu13 : AV := .agg [.pv (.int .i64 1), zi, .pv (.int .i64 (-100))]
def zb14 : Box := .cells [.pv (.int .i64 1), .pv (.int .i32 5), .pv (.int .i32 3), .pv (zw8), zi, zi, zs]
def zw17 : PV := .sl .shut 3 [zw6, zw7]
def zu18 : AV := .agg [.pv (.int .i64 1), .pv (.int .i32 5), .pv (.int .i32 3), .pv (zw17), zi, zi, zs]
def zw19 : PV := .agg [.int .i64 1, .int .i32 5, .int .i32 3, zw17, zj, zj, .str []]
def zu20 : AV := .agg [.own 2431 7 [zw19]]
def zw21 : PV := .sl .shut 7 [zw19]
def zu22 : AV := .agg [.pv (zw21), .pv (zw10), .pv (.int .i64 2)]
def zb23 : Box := .cells [.pv (.int .i64 1), .pv (.int .i32 5), .pv (.int .i32 3), .pv (zw17), zi, zi, zs]
def zw24 : PV := .sl .shut 7 []
def zu25 : AV := .agg [.pv (zw21)]
def zu26 : AV := .agg [.own 704 7 [zw19]]
def zw27 : PV := .agg [.int .i64 2, .int .i64 1, .int .i32 9, .int .i32 9]
def zu28 : AV := .agg [.pv (zw21), .own 3455 4 [zw4, zw27], .pv (.int .i64 3)]
def zw29 : PV := .sl .shut 4 [zw4, zw27]
def zu30 : AV := .agg [.pv (zw21), .pv (zw29), .pv (.int .i64 3)]
def zb32 : Box := .cells [.pv (.int .i64 1)]
def zu33 : AV := .agg [.pv (zw24)]
def zb34 : Box := .cells [.pv (.int .i32 9)]
def zb35 : Box := .cells [.pv (.int .i64 2)]
def zb37 : Box := .cells [zi]
def zw38 : PV := .agg [zj, zj, zk, zk]
def zw39 : PV := .sl .shut 4 [zw27]
def zu40 : AV := .agg [.pv (zw21), .pv (zw39), .pv (.int .i64 3)]
def zu41 : AV := .agg [.pv (zw0), .pv (zw0), zi]
def zt0 : Fact := ⟨61, [zu1], [], (.c (zt), [])⟩
theorem zt0_ok : H1 zt0 := ⟨t0 (x := xf61) rfl (by kernel_rfl), trivial⟩
def zt5 : Fact := ⟨20, [zu1], [], (.tup [zu3, .c (zi)], [])⟩
theorem zt5_ok : H1 zt5 := ⟨ev_of (n := 60) (by kernel_rfl), trivial⟩
def zt8 : Fact := ⟨57, [.c (.pv (.int .i32 9))], [], (.c (zt), [])⟩
theorem zt8_ok : H1 zt8 := ⟨t0 (x := xf57) rfl (by kernel_rfl), trivial⟩
def zt10 : Fact := ⟨16, [zu3, .c (.pv (.int .i32 9)), .c (.pv (.int .i32 9))], [], (.tup [zu5, .c (.pv (.int .i64 1)), .c (zi)], [])⟩
theorem zt10_ok : H1 zt10 := ⟨ev_of (n := 60) (by kernel_rfl), trivial⟩
def zt11 : Fact := ⟨53, [.c (.pv (.int .i64 1)), .c (.pv (.int .i32 5)), .c (.pv (.int .i32 3)), .c (.pv (.int .i64 100))], [], (zu9, [])⟩
theorem zt11_ok : H1 zt11 := ⟨t0 (x := xf53) rfl (by kernel_rfl), trivial⟩
def zt13 : Fact := ⟨21, [zu11], [], (.c (zt), [])⟩
theorem zt13_ok : H1 zt13 := ⟨ev_of (n := 60) (by kernel_rfl), trivial⟩
def zt17 : Fact := ⟨109, [zu9], [], (.c (zt), [])⟩
theorem zt17_ok : H1 zt17 := ⟨ev_of (n := 60) (by kernel_rfl), trivial⟩
def zt18 : Fact := ⟨57, [.c (.pv (.int .i32 5))], [], (.c (zt), [])⟩
theorem zt18_ok : H1 zt18 := ⟨t0 (x := xf57) rfl (by kernel_rfl), trivial⟩
def zt19 : Fact := ⟨57, [.c (.pv (.int .i32 3))], [], (.c (zt), [])⟩
theorem zt19_ok : H1 zt19 := ⟨t0 (x := xf57) rfl (by kernel_rfl), trivial⟩
def zt24 : Fact := ⟨107, [.c (.fn 110 []), .c (.ptr 0 0)], [zb14], (.c (zf), [zb14])⟩
theorem zt24_ok : H1 zt24 := ⟨ev_of (n := 60) (by kernel_rfl), trivial⟩
def zt31 : Fact := ⟨107, [.c (.fn 111 []), .c (.ptr 0 0)], [zb14], (.c (zf), [zb14])⟩
theorem zt31_ok : H1 zt31 := ⟨ev_of (n := 60) (by kernel_rfl), trivial⟩
def zt38 : Fact := ⟨107, [.c (.fn 113 []), .c (.ptr 0 0)], [zb14], (.c (zf), [zb14])⟩
theorem zt38_ok : H1 zt38 := ⟨ev_of (n := 60) (by kernel_rfl), trivial⟩
def zt43 : Fact := ⟨107, [.c (.fn 115 []), .c (.ptr 0 0)], [zb14], (.c (zf), [zb14])⟩
theorem zt43_ok : H1 zt43 := ⟨ev_of (n := 60) (by kernel_rfl), trivial⟩
def zt44 : Fact := ⟨116, [.c (.pv (zw8))], [], (.c (zt), [])⟩
theorem zt44_ok : H1 zt44 := ⟨t0 (x := xf116) rfl (by kernel_rfl), trivial⟩
def zt45 : Fact := ⟨69, [zu9], [], (.c (zi), [])⟩
theorem zt45_ok : H1 zt45 := ⟨t1 (x := xf69) rfl (t := [zt17, zt18, zt19, zt24, zt31, zt38, zt43, zt44]) (by kernel_rfl) ⟨zt17_ok.1, zt18_ok.1, zt19_ok.1, zt24_ok.1, zt31_ok.1, zt38_ok.1, zt43_ok.1, zt44_ok.1, trivial⟩, trivial⟩
def zt46 : Fact := ⟨99, [.c (.pv (zw0))], [], (.c (.mp 0), [.map []])⟩
theorem zt46_ok : H1 zt46 := ⟨t0 (x := xf99) rfl (by kernel_rfl), trivial⟩
def zt47 : Fact := ⟨98, [.c (.pv (zw0)), .c (.mp 0), zu9], [.map []], (.c (zi), [.map []])⟩
theorem zt47_ok : H1 zt47 := ⟨t0 (x := xf98) rfl (by kernel_rfl), trivial⟩
def zt48 : Fact := ⟨101, [.c (.pv (zw0)), .c (.fn 100 [])], [], (.c (.pv (zw0)), [])⟩
theorem zt48_ok : H1 zt48 := ⟨t0 (x := xf101) rfl (by kernel_rfl), trivial⟩
def zt50 : Fact := ⟨102, [zu9], [], (zu18, [])⟩
theorem zt50_ok : H1 zt50 := ⟨ev_of (n := 60) (by kernel_rfl), trivial⟩
def zt51 : Fact := ⟨55, [zu1, zu9], [], (.tup [zu20, .c (zi)], [])⟩
theorem zt51_ok : H1 zt51 := ⟨t1 (x := xf55) rfl (t := [zt0, zt45, zt46, zt47, zt48, zt50]) (by kernel_rfl) ⟨zt0_ok.1, zt45_ok.1, zt46_ok.1, zt47_ok.1, zt48_ok.1, zt50_ok.1, trivial⟩, trivial⟩
def zt52 : Fact := ⟨56, [.c (.pv (zw10))], [], (.c (.own 511 4 [zw4]), [])⟩
theorem zt52_ok : H1 zt52 := ⟨t0 (x := xf56) rfl (by kernel_rfl), trivial⟩
def zt53 : Fact := ⟨15, [zu11, zu9], [], (.tup [zu22, .c (zi)], [])⟩
theorem zt53_ok : H1 zt53 := ⟨t1 (x := xf15) rfl (t := [zt13, zt51, zt52]) (by kernel_rfl) ⟨zt13_ok.1, zt51_ok.1, zt52_ok.1, trivial⟩, trivial⟩
def zt54 : Fact := ⟨109, [zu18], [], (.c (zt), [])⟩
theorem zt54_ok : H1 zt54 := ⟨ev_of (n := 60) (by kernel_rfl), trivial⟩
def zt57 : Fact := ⟨107, [.c (.fn 110 []), .c (.ptr 0 0)], [zb23], (.c (zf), [zb23])⟩
theorem zt57_ok : H1 zt57 := ⟨ev_of (n := 60) (by kernel_rfl), trivial⟩
def zt60 : Fact := ⟨107, [.c (.fn 111 []), .c (.ptr 0 0)], [zb23], (.c (zf), [zb23])⟩
theorem zt60_ok : H1 zt60 := ⟨ev_of (n := 60) (by kernel_rfl), trivial⟩
def zt63 : Fact := ⟨107, [.c (.fn 113 []), .c (.ptr 0 0)], [zb23], (.c (zf), [zb23])⟩
theorem zt63_ok : H1 zt63 := ⟨ev_of (n := 60) (by kernel_rfl), trivial⟩
def zt66 : Fact := ⟨107, [.c (.fn 115 []), .c (.ptr 0 0)], [zb23], (.c (zf), [zb23])⟩
theorem zt66_ok : H1 zt66 := ⟨ev_of (n := 60) (by kernel_rfl), trivial⟩
def zt67 : Fact := ⟨116, [.c (.pv (zw17))], [], (.c (zt), [])⟩
theorem zt67_ok : H1 zt67 := ⟨t0 (x := xf116) rfl (by kernel_rfl), trivial⟩
def zt68 : Fact := ⟨69, [zu18], [], (.c (zi), [])⟩
theorem zt68_ok : H1 zt68 := ⟨t1 (x := xf69) rfl (t := [zt54, zt18, zt19, zt57, zt60, zt63, zt66, zt67]) (by kernel_rfl) ⟨zt54_ok.1, zt18_ok.1, zt19_ok.1, zt57_ok.1, zt60_ok.1, zt63_ok.1, zt66_ok.1, zt67_ok.1, trivial⟩, trivial⟩
def zt69 : Fact := ⟨98, [.c (.pv (zw24)), .c (.mp 0), zu18], [.map []], (.c (zi), [.map []])⟩
theorem zt69_ok : H1 zt69 := ⟨t0 (x := xf98) rfl (by kernel_rfl), trivial⟩
def zt70 : Fact := ⟨61, [zu25], [], (.c (zt), [])⟩
theorem zt70_ok : H1 zt70 := ⟨t1 (x := xf61) rfl (t := [zt68, zt69]) (by kernel_rfl) ⟨zt68_ok.1, zt69_ok.1, trivial⟩, trivial⟩
def zt71 : Fact := ⟨62, [.c (.pv (zw10)), .c (.pv (.int .i64 1)), .c (.pv (.int .i64 2))], [], (.c (zt), [])⟩
theorem zt71_ok : H1 zt71 := ⟨ev_of (n := 60) (by kernel_rfl), trivial⟩
def zt72 : Fact := ⟨21, [zu22], [], (.c (zt), [])⟩
theorem zt72_ok : H1 zt72 := ⟨t1 (x := xf21) rfl (t := [zt70, zt71]) (by kernel_rfl) ⟨zt70_ok.1, zt71_ok.1, trivial⟩, trivial⟩
def zt76 : Fact := ⟨101, [.c (.pv (zw21)), .c (.fn 137 [0])], [zb2], (.c (.own 1407 7 [zw19]), [zb2])⟩
theorem zt76_ok : H1 zt76 := ⟨ev_of (n := 60) (by kernel_rfl), trivial⟩
def zt77 : Fact := ⟨67, [zu25, .c (.fn 137 [0])], [zb2], (.tup [.c (.own 768 7 [zw19]), .c (zi)], [zb2])⟩
theorem zt77_ok : H1 zt77 := ⟨t1 (x := xf67) rfl (t := [zt70, zt76]) (by kernel_rfl) ⟨zt70_ok.1, zt76_ok.1, trivial⟩, trivial⟩
def zt78 : Fact := ⟨103, [zu25, .c (.pv (.int .i32 50000))], [], (.tup [zu26, .c (zi)], [])⟩
theorem zt78_ok : H1 zt78 := ⟨t1 (x := xf103) rfl (t := [zt77]) (by kernel_rfl) ⟨zt77_ok.1, trivial⟩, trivial⟩
def zt79 : Fact := ⟨58, [zu25], [], (zu25, [])⟩
theorem zt79_ok : H1 zt79 := ⟨t1 (x := xf58) rfl (t := [zt78]) (by kernel_rfl) ⟨zt78_ok.1, trivial⟩, trivial⟩
def zt80 : Fact := ⟨16, [zu22, .c (.pv (.int .i32 9)), .c (.pv (.int .i32 9))], [], (.tup [zu28, .c (.pv (.int .i64 2)), .c (zi)], [])⟩
theorem zt80_ok : H1 zt80 := ⟨t1 (x := xf16) rfl (t := [zt72, zt8, zt79, zt52]) (by kernel_rfl) ⟨zt72_ok.1, zt8_ok.1, zt79_ok.1, zt52_ok.1, trivial⟩, trivial⟩
def zt81 : Fact := ⟨62, [.c (.pv (zw29)), .c (.pv (.int .i64 1)), .c (.pv (.int .i64 3))], [], (.c (zt), [])⟩
theorem zt81_ok : H1 zt81 := ⟨ev_of (n := 60) (by kernel_rfl), trivial⟩
def zt82 : Fact := ⟨21, [zu30], [], (.c (zt), [])⟩
theorem zt82_ok : H1 zt82 := ⟨t1 (x := xf21) rfl (t := [zt70, zt81]) (by kernel_rfl) ⟨zt70_ok.1, zt81_ok.1, trivial⟩, trivial⟩
def zt84 : Fact := ⟨104, [.c (.pv (zw29)), .c (.fn 105 [0])], [zb32], (.c (zi), [zb32])⟩
theorem zt84_ok : H1 zt84 := ⟨ev_of (n := 60) (by kernel_rfl), trivial⟩
def zt85 : Fact := ⟨59, [zu30, .c (.pv (.int .i64 1))], [], (.tup [.c (zi), .c (zi)], [])⟩
theorem zt85_ok : H1 zt85 := ⟨t1 (x := xf59) rfl (t := [zt82, zt84]) (by kernel_rfl) ⟨zt82_ok.1, zt84_ok.1, trivial⟩, trivial⟩
def zt89 : Fact := ⟨33, [zu33, .c (.pv (.int .i32 9)), .c (.pv (.int .i32 9))], [], (.tup [.c (.pv (zw0)), .c (zi)], [])⟩
theorem zt89_ok : H1 zt89 := ⟨ev_of (n := 60) (by kernel_rfl), trivial⟩
def zt90 : Fact := ⟨18, [zu30, .c (.pv (.int .i64 1))], [], (.tup [.c (.pv (zw0)), .c (zi)], [])⟩
theorem zt90_ok : H1 zt90 := ⟨t1 (x := xf18) rfl (t := [zt85, zt89]) (by kernel_rfl) ⟨zt85_ok.1, zt89_ok.1, trivial⟩, trivial⟩
def zt93 : Fact := ⟨104, [.c (.pv (zw29)), .c (.fn 105 [0])], [zb35], (.c (.pv (.int .i64 1)), [zb35])⟩
theorem zt93_ok : H1 zt93 := ⟨ev_of (n := 60) (by kernel_rfl), trivial⟩
def zt94 : Fact := ⟨59, [zu30, .c (.pv (.int .i64 2))], [], (.tup [.c (.pv (.int .i64 1)), .c (zi)], [])⟩
theorem zt94_ok : H1 zt94 := ⟨t1 (x := xf59) rfl (t := [zt82, zt93]) (by kernel_rfl) ⟨zt82_ok.1, zt93_ok.1, trivial⟩, trivial⟩
def zt96 : Fact := ⟨101, [.c (.pv (zw21)), .c (.fn 68 [0, 1])], [zb34, zb34], (.c (.own 1407 7 [zw19]), [zb34, zb34])⟩
theorem zt96_ok : H1 zt96 := ⟨ev_of (n := 60) (by kernel_rfl), trivial⟩
def zt97 : Fact := ⟨67, [zu25, .c (.fn 68 [0, 1])], [zb34, zb34], (.tup [.c (.own 768 7 [zw19]), .c (zi)], [zb34, zb34])⟩
theorem zt97_ok : H1 zt97 := ⟨t1 (x := xf67) rfl (t := [zt70, zt96]) (by kernel_rfl) ⟨zt70_ok.1, zt96_ok.1, trivial⟩, trivial⟩
def zt98 : Fact := ⟨33, [zu25, .c (.pv (.int .i32 9)), .c (.pv (.int .i32 9))], [], (.tup [.c (.own 640 7 [zw19]), .c (zi)], [])⟩
theorem zt98_ok : H1 zt98 := ⟨t1 (x := xf33) rfl (t := [zt97]) (by kernel_rfl) ⟨zt97_ok.1, trivial⟩, trivial⟩
def zt99 : Fact := ⟨18, [zu30, .c (.pv (.int .i64 2))], [], (.tup [.c (.own 2176 7 [zw19]), .c (zi)], [])⟩
theorem zt99_ok : H1 zt99 := ⟨t1 (x := xf18) rfl (t := [zt94, zt98]) (by kernel_rfl) ⟨zt94_ok.1, zt98_ok.1, trivial⟩, trivial⟩
def zt100 : Fact := ⟨118, [zu12, .c (.ptr 0 0), .c (.ptr 1 0)], [zb35, zb37], (.c (zt), [zb35, zb37])⟩
theorem zt100_ok : H1 zt100 := ⟨t0 (x := xf118) rfl (by kernel_rfl), trivial⟩
def zt101 : Fact := ⟨118, [zu13, .c (.ptr 0 0), .c (.ptr 1 0)], [zb35, zb37], (.c (zf), [zb35, zb37])⟩
theorem zt101_ok : H1 zt101 := ⟨t0 (x := xf118) rfl (by kernel_rfl), trivial⟩
def zt102 : Fact := ⟨117, [zu18, .c (.fn 118 [0, 1])], [zb35, zb37], (.tup [.c (.pv (.int .i64 100)), .c (zi)], [zb35, zb37])⟩
theorem zt102_ok : H1 zt102 := ⟨t1 (x := xf117) rfl (t := [zt68, zt100, zt101]) (by kernel_rfl) ⟨zt68_ok.1, zt100_ok.1, zt101_ok.1, trivial⟩, trivial⟩
def zt103 : Fact := ⟨70, [zu18, .c (.pv (.int .i64 2)), .c (zi)], [], (.tup [.c (.pv (.int .i64 100)), .c (zi)], [])⟩
theorem zt103_ok : H1 zt103 := ⟨t1 (x := xf70) rfl (t := [zt102]) (by kernel_rfl) ⟨zt102_ok.1, trivial⟩, trivial⟩
def zt104 : Fact := ⟨34, [.c (.pv (zw21)), .c (.pv (.int .i64 2)), .c (zi), .c (.pv (.int .i32 50000))], [], (.tup [.c (.pv (.int .i64 100)), .c (zi)], [])⟩
theorem zt104_ok : H1 zt104 := ⟨t1 (x := xf34) rfl (t := [zt68, zt103]) (by kernel_rfl) ⟨zt68_ok.1, zt103_ok.1, trivial⟩, trivial⟩
def zt105 : Fact := ⟨32, [zu30, .c (.pv (.int .i64 2)), .c (.pv (.int .i64 2)), .c (zi)], [], (.tup [.c (.pv (.int .i64 100)), .c (zi)], [])⟩
theorem zt105_ok : H1 zt105 := ⟨t1 (x := xf32) rfl (t := [zt99, zt104]) (by kernel_rfl) ⟨zt99_ok.1, zt104_ok.1, trivial⟩, trivial⟩
def zt106 : Fact := ⟨19, [zu30], [], (.tup [.c (zi), .c (zt)], [])⟩
theorem zt106_ok : H1 zt106 := ⟨t1 (x := xf19) rfl (t := [zt82]) (by kernel_rfl) ⟨zt82_ok.1, trivial⟩, trivial⟩
def zt107 : Fact := ⟨56, [.c (.pv (zw29))], [], (.c (.own 511 4 [zw4, zw27]), [])⟩
theorem zt107_ok : H1 zt107 := ⟨t0 (x := xf56) rfl (by kernel_rfl), trivial⟩
def zt108 : Fact := ⟨60, [.c (.ms 0 0 4 2), .c (zi), .c (.pv (.int .i64 1))], [.row 4 [zw4, zw27]], (.c (.ms 0 0 4 1), [.row 4 [zw27, zw38]])⟩
theorem zt108_ok : H1 zt108 := ⟨t0 (x := xf60) rfl (by kernel_rfl), trivial⟩
def zt109 : Fact := ⟨17, [zu30, .c (.pv (.int .i64 1))], [], (.tup [zu40, .c (zi)], [])⟩
theorem zt109_ok : H1 zt109 := ⟨t1 (x := xf17) rfl (t := [zt85, zt79, zt107, zt108]) (by kernel_rfl) ⟨zt85_ok.1, zt79_ok.1, zt107_ok.1, zt108_ok.1, trivial⟩, trivial⟩
def zt110 : Fact := ⟨62, [.c (.pv (zw39)), .c (.pv (.int .i64 1)), .c (.pv (.int .i64 3))], [], (.c (zt), [])⟩
theorem zt110_ok : H1 zt110 := ⟨ev_of (n := 60) (by kernel_rfl), trivial⟩
def zt111 : Fact := ⟨21, [zu40], [], (.c (zt), [])⟩
theorem zt111_ok : H1 zt111 := ⟨t1 (x := xf21) rfl (t := [zt70, zt110]) (by kernel_rfl) ⟨zt70_ok.1, zt110_ok.1, trivial⟩, trivial⟩
def zt113 : Fact := ⟨104, [.c (.pv (zw39)), .c (.fn 105 [0])], [zb32], (.c (.pv (.int .i64 (-1))), [zb32])⟩
theorem zt113_ok : H1 zt113 := ⟨ev_of (n := 60) (by kernel_rfl), trivial⟩
def zt114 : Fact := ⟨59, [zu40, .c (.pv (.int .i64 1))], [], (.tup [.c (zi), .c (.pv (.int .i64 8))], [])⟩
theorem zt114_ok : H1 zt114 := ⟨t1 (x := xf59) rfl (t := [zt111, zt113]) (by kernel_rfl) ⟨zt111_ok.1, zt113_ok.1, trivial⟩, trivial⟩
def zt115 : Fact := ⟨18, [zu40, .c (.pv (.int .i64 1))], [], (.tup [.c (.pv (zw0)), .c (.pv (.int .i64 8))], [])⟩
theorem zt115_ok : H1 zt115 := ⟨t1 (x := xf18) rfl (t := [zt114]) (by kernel_rfl) ⟨zt114_ok.1, trivial⟩, trivial⟩
def zt116 : Fact := ⟨57, [.c (.pv (.int .i32 50001))], [], (.c (zf), [])⟩
theorem zt116_ok : H1 zt116 := ⟨t0 (x := xf57) rfl (by kernel_rfl), trivial⟩
def zt117 : Fact := ⟨16, [zu30, .c (.pv (.int .i32 50001)), .c (zd)], [], (.tup [zu41, .c (zi), .c (.pv (.int .i64 11))], [])⟩
theorem zt117_ok : H1 zt117 := ⟨t1 (x := xf16) rfl (t := [zt82, zt116]) (by kernel_rfl) ⟨zt82_ok.1, zt116_ok.1, trivial⟩, trivial⟩
def zt118 : Fact := ⟨99, [.c (.pv (zw21))], [], (.c (.mp 0), [.map [(zj, .bool true)]])⟩
theorem zt118_ok : H1 zt118 := ⟨t0 (x := xf99) rfl (by kernel_rfl), trivial⟩
def zt119 : Fact := ⟨98, [.c (.pv (zw21)), .c (.mp 0), zu9], [.map [(zj, .bool true)]], (.c (.pv (.int .i64 25)), [.map [(zj, .bool true)]])⟩
theorem zt119_ok : H1 zt119 := ⟨t0 (x := xf98) rfl (by kernel_rfl), trivial⟩
def zt120 : Fact := ⟨55, [zu25, zu9], [], (.tup [zu1, .c (.pv (.int .i64 25))], [])⟩
theorem zt120_ok : H1 zt120 := ⟨t1 (x := xf55) rfl (t := [zt70, zt45, zt118, zt119]) (by kernel_rfl) ⟨zt70_ok.1, zt45_ok.1, zt118_ok.1, zt119_ok.1, trivial⟩, trivial⟩
def zt121 : Fact := ⟨15, [zu30, zu9], [], (.tup [zu41, .c (.pv (.int .i64 25))], [])⟩
theorem zt121_ok : H1 zt121 := ⟨t1 (x := xf15) rfl (t := [zt82, zt120]) (by kernel_rfl) ⟨zt82_ok.1, zt120_ok.1, trivial⟩, trivial⟩
def zt122 : Fact := ⟨21, [zu41], [], (.c (zf), [])⟩
theorem zt122_ok : H1 zt122 := ⟨ev_of (n := 60) (by kernel_rfl), trivial⟩
def zt123 : Fact := ⟨13, [], [], (.c (zt), [])⟩
theorem zt123_ok : H1 zt123 := ⟨t1 (x := xf13) rfl (t := [zt5, zt10, zt11, zt53, zt80, zt90, zt99, zt105, zt106, zt109, zt115, zt117, zt121, zt82, zt122]) (by kernel_rfl) ⟨zt5_ok.1, zt10_ok.1, zt11_ok.1, zt53_ok.1, zt80_ok.1, zt90_ok.1, zt99_ok.1, zt105_ok.1, zt106_ok.1, zt109_ok.1, zt115_ok.1, zt117_ok.1, zt121_ok.1, zt82_ok.1, zt122_ok.1, trivial⟩, trivial⟩
theorem alive35 : ev X E0 13 [] [] = some (.c (zt), []) := zt123_ok.1
end Go.Sx.Tryd.Calive35
