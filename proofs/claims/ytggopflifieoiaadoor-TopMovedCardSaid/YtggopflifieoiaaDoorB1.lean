/- A text that is gone through: whether it holds something below 32 or above 126. -/
import Derived.Test.YtggopflifieoiaaDoorXTp2
import Derived.Laws.RangeString
namespace Go.Sx.Tryd
open Go Go.Sx
theorem get_at {l : List UInt8} {p : Nat} {b : UInt8} (h : l[p]? = some b) : (⟨l.toArray⟩ : ByteArray).get! p = b := by
  show l.toArray[p]! = b
  obtain ⟨hp, hb⟩ := List.getElem?_eq_some_iff.1 h
  have hp' : p < l.toArray.size := by simpa using hp
  rw [getElem!_pos l.toArray p hp']
  simpa using hb
theorem dec_small {l : List UInt8} {p : Nat} {b : UInt8} (h : l[p]? = some b) (hb : b.toNat < 128) : Utf8.decode ⟨l.toArray⟩ p = (b.toNat, 1) := by
  have e : (⟨l.toArray⟩ : ByteArray).get! (p + 0) = b := get_at h
  simp only [Utf8.decode, e]
  rw [if_pos hb]
theorem dec_big {l : List UInt8} {p : Nat} {b : UInt8} (h : l[p]? = some b) (hb : ¬ b.toNat < 128) : 126 < (Utf8.decode ⟨l.toArray⟩ p).1 := by
  have e : (⟨l.toArray⟩ : ByteArray).get! (p + 0) = b := get_at h
  simp only [Utf8.decode, e]
  rw [if_neg hb]
  have hr : Utf8.runeError = 65533 := rfl
  (repeat' split) <;> simp only [hr] <;> (try omega)
  all_goals (rename_i hc; simp only [Bool.and_eq_true, decide_eq_true_eq, ge_iff_le] at hc; omega)
theorem o128_1 (r : Int) (g1 : r < 32) :
    cc (ev X E0) 122 [AV.c (vw r)] [] = some (AV.c (.pv (.bool true)), []) :=
  cc_path (x := xf122) rfl (bs 3 true)
    (c := rq [(3, decide (r < 32) = true)]) (by kernel_rfl)
    (aq ⟨(dT g1), trivial⟩)
theorem o128_2 (r : Int) (g1 : ¬r < 32) :
    cc (ev X E0) 122 [AV.c (vw r)] [] = some (AV.c (.pv (.bool (decide (r > 126)))), []) :=
  cc_path (x := xf122) rfl (bs 3 false)
    (c := rq [(3, decide (r < 32) = false)]) (by kernel_rfl)
    (aq ⟨(dF g1), trivial⟩)
theorem ol_1 (s : List UInt8) (p : Nat) (g1 : ¬p < List.length s) :
    lv (cv (ev X E0) xf141_l0) [false, true, true, false, false, false, false, false, false, false, true] 1 (St.mk (tmOf 21 [(1, AV.c (.fn 122 [])), (2, AV.c (.pv (.bool true))), (10, AV.c (.ptr 0 0))]) [.iter s p]) = some (XExit.exit 0, St.mk (tmOf 21 []) [.iter s p]) :=
  lv_exit [.emp true, .br false]
    (c := [¬p < List.length s, false = false]) (by kernel_rfl)
    ⟨g1, rfl, trivial⟩
theorem ol_2 (s : List UInt8) (p y1 y2 : Nat) (g1 : p < List.length s) (g2 : Utf8.decode (ByteArray.mk (List.toArray s)) p = (y1, y2)) (g3 : (↑y1 : Int) < 32) :
    lv (cv (ev X E0) xf141_l0) [false, true, true, false, false, false, false, false, false, false, true] 1 (St.mk (tmOf 21 [(1, AV.c (.fn 122 [])), (2, AV.c (.pv (.bool true))), (10, AV.c (.ptr 0 0))]) [.iter s p]) = some (XExit.ret, St.mk (tmOf 21 [(6, AV.c (vi (↑p : Int)))]) [.iter s (p + y2)]) :=
  lv_ret [.dec y1 y2, .br true, .call (AV.c (.pv (.bool true))) [], .br true]
    (c := rq [ty g1, ty g2, (1, true = true), (1, cc (ev X E0) 122 [AV.c (vw (↑y1 : Int))] [] = some (AV.c (.pv (.bool true)), [])), (1, true = true)]) (by kernel_rfl)
    (aq ⟨g1, g2, rfl, (o128_1 _ g3), rfl, trivial⟩)
theorem ol_3 (s : List UInt8) (p y1 y2 : Nat) (g1 : p < List.length s) (g2 : Utf8.decode (ByteArray.mk (List.toArray s)) p = (y1, y2)) (g3 : ¬(↑y1 : Int) < 32) (g4 : (decide ((↑y1 : Int) > 126) == true) = true) :
    lv (cv (ev X E0) xf141_l0) [false, true, true, false, false, false, false, false, false, false, true] 1 (St.mk (tmOf 21 [(1, AV.c (.fn 122 [])), (2, AV.c (.pv (.bool true))), (10, AV.c (.ptr 0 0))]) [.iter s p]) = some (XExit.ret, St.mk (tmOf 21 [(6, AV.c (vi (↑p : Int)))]) [.iter s (p + y2)]) :=
  lv_ret [.dec y1 y2, .br true, .call (AV.c (.pv (.bool (decide ((↑y1 : Int) > 126))))) [], .br true]
    (c := rq [ty g1, ty g2, (1, true = true), (1, cc (ev X E0) 122 [AV.c (vw (↑y1 : Int))] [] = some (AV.c (.pv (.bool (decide ((↑y1 : Int) > 126)))), [])), ty g4]) (by kernel_rfl)
    (aq ⟨g1, g2, rfl, (o128_2 _ g3), g4, trivial⟩)
theorem ol_4 (s : List UInt8) (p y1 y2 : Nat) (g1 : p < List.length s) (g2 : Utf8.decode (ByteArray.mk (List.toArray s)) p = (y1, y2)) (g3 : ¬(↑y1 : Int) < 32) (g4 : (decide ((↑y1 : Int) > 126) == true) = false) :
    lv (cv (ev X E0) xf141_l0) [false, true, true, false, false, false, false, false, false, false, true] 1 (St.mk (tmOf 21 [(1, AV.c (.fn 122 [])), (2, AV.c (.pv (.bool true))), (10, AV.c (.ptr 0 0))]) [.iter s p]) = lv (cv (ev X E0) xf141_l0) [false, true, true, false, false, false, false, false, false, false, true] 1 (St.mk (tmOf 21 [(1, AV.c (.fn 122 [])), (2, AV.c (.pv (.bool true))), (10, AV.c (.ptr 0 0))]) [.iter s (p + y2)]) :=
  lv_next [.dec y1 y2, .br true, .call (AV.c (.pv (.bool (decide ((↑y1 : Int) > 126))))) [], .br false]
    (c := rq [ty g1, ty g2, (1, true = true), (1, cc (ev X E0) 122 [AV.c (vw (↑y1 : Int))] [] = some (AV.c (.pv (.bool (decide ((↑y1 : Int) > 126)))), [])), ty g4]) (by kernel_rfl)
    (aq ⟨g1, g2, rfl, (o128_2 _ g3), g4, trivial⟩)
def odd (b : UInt8) : Bool := decide (b.toNat < 32 ∨ 126 < b.toNat)
abbrev S154 (s : List UInt8) (p : Nat) : St := St.mk (tmOf 21 [(1, AV.c (CV.fn 122 [])), (2, AV.c (CV.pv (PV.bool true))), (10, AV.c (CV.ptr 0 0))]) [Box.iter s p]
theorem ol_ok (s : List UInt8) : ∀ (r pre : List UInt8), s = pre ++ r → r.any odd = false →
    lv (cv (ev X E0) xf141_l0) [false, true, true, false, false, false, false, false, false, false, true] 1 (S154 s pre.length) = some (.exit 0, St.mk (tmOf 21 []) [Box.iter s s.length])
  | [], pre, h, _ => by
    rw [List.append_nil] at h
    subst h
    exact ol_1 s s.length (by omega)
  | b :: r, pre, h, ho => by
    simp only [List.any_cons, Bool.or_eq_false_iff] at ho
    have hb : 32 ≤ b.toNat ∧ b.toNat ≤ 126 := by have := ho.1; simp only [odd, decide_eq_false_iff_not, not_or] at this; omega
    have hat : s[pre.length]? = some b := by rw [h]; simp
    have hlen : s.length = pre.length + r.length + 1 := by rw [h]; simp; omega
    have st := ol_4 s pre.length b.toNat 1 (by omega) (dec_small hat (by omega)) (by omega) (by rw [beq_eq_false_iff_ne]; simp; omega)
    have ih := ol_ok s r (pre ++ [b]) (by rw [h]; simp) ho.2
    rw [List.length_append, List.length_singleton] at ih
    exact st.trans ih
theorem ol_bad (s : List UInt8) (hs : s.length ≤ 1000000) : ∀ (r pre : List UInt8), s = pre ++ r → r.any odd = true →
    ∃ p q : Nat, lv (cv (ev X E0) xf141_l0) [false, true, true, false, false, false, false, false, false, false, true] 1 (S154 s pre.length) = some (.ret, St.mk (tmOf 21 [(6, AV.c (CV.pv (PV.int .i64 (p : Int))))]) [Box.iter s q])
  | [], pre, h, ho => by simp at ho
  | b :: r, pre, h, ho => by
    have hat : s[pre.length]? = some b := by rw [h]; simp
    have hlen : s.length = pre.length + r.length + 1 := by rw [h]; simp; omega
    by_cases hb : odd b = true
    · simp only [odd, decide_eq_true_eq] at hb
      rcases hd : Utf8.decode ⟨s.toArray⟩ pre.length with ⟨c, w⟩
      by_cases h32 : b.toNat < 32
      · have := dec_small hat (by omega)
        rw [this] at hd; cases hd
        exact ⟨_, _, ol_2 s pre.length b.toNat 1 (by omega) this (by omega)⟩
      · have hc : 126 < c := by
          by_cases h128 : b.toNat < 128
          · have := dec_small hat h128
            rw [this] at hd; cases hd; omega
          · have := dec_big hat h128
            rw [hd] at this; exact this
        exact ⟨_, _, ol_3 s pre.length c w (by omega) hd (by omega) (by rw [beq_iff_eq]; simp; omega)⟩
    · have hb' : odd b = false := by simpa using hb
      have ho' : r.any odd = true := by simpa [hb'] using ho
      simp only [odd, decide_eq_false_iff_not, not_or] at hb'
      have st := ol_4 s pre.length b.toNat 1 (by omega) (dec_small hat (by omega)) (by omega) (by rw [beq_eq_false_iff_ne]; simp; omega)
      obtain ⟨p, q, ih⟩ := ol_bad s hs r (pre ++ [b]) (by rw [h]; simp) ho'
      rw [List.length_append, List.length_singleton] at ih
      exact ⟨p, q, st.trans ih⟩
theorem ol_ok0 (s : List UInt8) (ho : s.any odd = false) :
    lv (cv (ev X E0) xf141_l0) [false, true, true, false, false, false, false, false, false, false, true] 1 (St.mk (tmOf 21 [(1, AV.c (CV.fn 122 [])), (2, AV.c (CV.pv (PV.bool true))), (10, AV.c (CV.ptr 0 0))]) [Box.iter s 0]) = some (.exit 0, St.mk (tmOf 21 []) [Box.iter s s.length]) := ol_ok s s [] rfl ho
theorem ia_1 (s : List UInt8) (g1 : List.any s odd = false) :
    cc (ev X E0) 141 [AV.c (.pv (.str s)), AV.c (.fn 122 []), AV.c (.pv (.bool true))] [] = some (AV.c (vi (-1)), []) :=
  cc_path (x := xf141) rfl [.loop (XExit.exit 0) (St.mk (tmOf 21 []) [.iter s (List.length s)])]
    (c := [lv (cv (ev X E0) xf141_l0) (rl [1, 0, 7]) 1 (St.mk (tmOf 21 [(1, AV.c (.fn 122 [])), (2, AV.c (.pv (.bool true))), (10, AV.c (.ptr 0 0))]) [.iter s 0]) = some (XExit.exit 0, St.mk (tmOf 21 []) [.iter s (List.length s)])]) (by kernel_rfl)
    ⟨(ol_ok0 _ g1), trivial⟩
theorem ib_1 (s : List UInt8) (p q : Nat) (h : lv (cv (ev X E0) xf141_l0) [false, true, true, false, false, false, false, false, false, false, true] 1 (St.mk (tmOf 21 [(1, AV.c (.fn 122 [])), (2, AV.c (.pv (.bool true))), (10, AV.c (.ptr 0 0))]) [.iter s 0]) = some (XExit.ret, St.mk (tmOf 21 [(6, AV.c (vi (↑p : Int)))]) [.iter s q])) :
    cc (ev X E0) 141 [AV.c (.pv (.str s)), AV.c (.fn 122 []), AV.c (.pv (.bool true))] [] = some (AV.c (vi (↑p : Int)), []) :=
  cc_path (x := xf141) rfl [.loop XExit.ret (St.mk (tmOf 21 [(6, AV.c (vi (↑p : Int)))]) [.iter s q])]
    (c := rq [ty h]) (by kernel_rfl)
    (aq ⟨h, trivial⟩)
theorem ja_1 (s : List UInt8) (p : Int) (h : cc (ev X E0) 141 [AV.c (.pv (.str s)), AV.c (.fn 122 []), AV.c (.pv (.bool true))] [] = some (AV.i p, [])) :
    cc (ev X E0) 137 [AV.c (.pv (.str s)), AV.c (.fn 122 [])] [] = some (AV.c (vi p), []) :=
  cc_path (x := xf137) rfl [.call (AV.c (vi p)) []]
    (c := rq [ty h]) (by kernel_rfl)
    (aq ⟨h, trivial⟩)
theorem ka_1 (s : List UInt8) (p : Int) (h : cc (ev X E0) 137 [AV.c (.pv (.str s)), AV.c (.fn 122 [])] [] = some (AV.i p, [])) :
    cc (ev X E0) 123 [AV.c (.pv (.str s)), AV.c (.fn 122 [])] [] = some (AV.c (.pv (.bool (decide (p ≥ 0)))), []) :=
  cc_path (x := xf123) rfl [.call (AV.c (vi p)) []]
    (c := rq [ty h]) (by kernel_rfl)
    (aq ⟨h, trivial⟩)
theorem contains (s : List UInt8) (hs : s.length ≤ 1000000) : cc (ev X E0) 123 [AV.s s, AV.c (.fn 122 [])] [] = some (.b (s.any odd), []) := by
  cases ho : s.any odd with
  | false =>
    have h := ka_1 s (-1) (ja_1 s (-1) (ia_1 s ho))
    exact h
  | true =>
    obtain ⟨p, q, hp⟩ := ol_bad s hs s [] rfl ho
    have h := ka_1 s p (ja_1 s p (ib_1 s p q hp))
    have e : decide ((p : Int) ≥ 0) = true := by simp
    rw [e] at h
    exact h
end Go.Sx.Tryd
