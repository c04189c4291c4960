/- The requests of a script's bytes. -/
import Derived.Test.YtplknajjcllmkaaDoorH18
import Derived.Test.YtplknajjcllmkaaDoorAl
namespace Go.Sx.Tryd
open Go Go.Sx
def tk : Nat → List UInt8 → Int → Int × List Req × List UInt8 × Int
  | 0, b, f => (0, [], b, f)
  | k + 1, b, f =>
    if (step [] (qT 2400) b f).2.2 ≠ 0 then ((step [] (qT 2400) b f).2.2, [], (step [] (qT 2400) b f).2)
    else if decE (step [] (qT 2400) b f).1 ≠ 0 then (decE (step [] (qT 2400) b f).1, [], (step [] (qT 2400) b f).2)
    else ((tk k (step [] (qT 2400) b f).2.1 (step [] (qT 2400) b f).2.2).1, decP (step [] (qT 2400) b f).1 :: (tk k (step [] (qT 2400) b f).2.1 (step [] (qT 2400) b f).2.2).2.1, (tk k (step [] (qT 2400) b f).2.1 (step [] (qT 2400) b f).2.2).2.2)
def tkC (s : List UInt8) := step 0 (qC 200) s 0
def tkR (s : List UInt8) := tk (tkC s).1 (tkC s).2.1 (tkC s).2.2
def takeE (s : List UInt8) : Int := if (tkR s).1 ≠ 0 then (tkR s).1 else endE (tkR s).2.2.1 (tkR s).2.2.2
def takeL (s : List UInt8) : List Req := if takeE s = 0 then (tkR s).2.1 else []
theorem qT_le {m : Nat} {b : List UInt8} {f : Int} : (step [] (qT m) b f).1.length ≤ m := by
  unfold step
  split
  · exact Nat.zero_le _
  · split
    · exact Nat.zero_le _
    · unfold qT
      split
      · exact Nat.zero_le _
      · split
        · exact Nat.zero_le _
        · split
          · exact Nat.zero_le _
          · simp only [List.length_take]; omega
abbrev X46 (x : CV) (b : List UInt8) (f : Int) : Option (XExit × St) := some (XExit.exit 0, St.mk (tmOf 44 [(4, AV.c (CV.ptr 0 0)), (5, AV.c x)]) [Box.cells [CV.pv (PV.str b), CV.pv (PV.int .i64 f)]])
abbrev R46 (e : Int) (bs : List Box) : Option (XExit × St) := some (XExit.ret, St.mk (tmOf 44 [(2, AV.c (CV.pv (PV.sl SO.nil 0 []))), (3, AV.c (CV.pv (PV.int .i64 e)))]) bs)
def End46 (v : Option (XExit × St)) (x : CV) (r : Int × List Req × List UInt8 × Int) : Prop :=
  (r.1 = 0 ∧ v = X46 x r.2.2.1 r.2.2.2) ∨ (r.1 ≠ 0 ∧ ((∃ b1 f1, v = R46 r.1 [Box.cells [CV.pv (PV.str b1), CV.pv (PV.int .i64 f1)]]) ∨ ∃ b1 f1, v = R46 r.1 [Box.cells [CV.pv (PV.str b1), CV.pv (PV.int .i64 f1)], Box.cells Z21]))
theorem a46 {n : Nat} (hn : n ≤ 200) : ∀ (m k : Nat) (b : List UInt8) (f : Int) (l : List Req), k + m = n → b.length ≤ 1000000 → l.length = k →
    End46 (lv (cv (ev X E0) xf46_l0) (rl [4, 0, 9, 0]) 1 (S46 (CV.own 2367 21 (l.map Req.pv)) b f n k)) (CV.own 2367 21 ((l ++ (tk m b f).2.1).map Req.pv)) (tk m b f)
  | 0, k, b, f, l, hk, hb, hl => by
    refine Or.inl ⟨rfl, ?_⟩
    simp only [tk, List.append_nil]
    exact l46bx_1 l b f n k (by omega)
  | m + 1, k, b, f, l, hk, hb, hl => by
    have hT := RT_1 b f 2400 hb (by decide)
    have hlen := qT_le (m := 2400) (b := b) (f := f)
    have hb2 : (step [] (qT 2400) b f).2.1.length ≤ 1000000 := Nat.le_trans step_len hb
    rw [tk]
    change cc (ev X E0) 97 _ _ = some (AV.s (step [] (qT ((2400 : Nat) : Int)) b f).1, [Box.cells [CV.pv (PV.str (step [] (qT ((2400 : Nat) : Int)) b f).2.1), CV.pv (PV.int .i64 (step [] (qT ((2400 : Nat) : Int)) b f).2.2)]]) at hT
    change ((step [] (qT 2400) b f).1).length ≤ 2400 at hlen
    change cc (ev X E0) 97 _ _ = some (AV.s (step [] (qT 2400) b f).1, [Box.cells [CV.pv (PV.str (step [] (qT 2400) b f).2.1), CV.pv (PV.int .i64 (step [] (qT 2400) b f).2.2)]]) at hT
    generalize step [] (qT 2400) b f = T at hT hlen hb2 ⊢
    obtain ⟨t, b1, f1⟩ := T
    dsimp only at hT hlen hb2 ⊢
    by_cases hf : f1 = 0
    · rw [if_neg (by omega)]
      have h45 := s45 t (by omega)
      unfold decA at h45
      by_cases hd : decE t = 0
      · rw [if_neg (by omega)]
        rw [if_pos hd, hd] at h45
        have st := l46b_1 l b b1 t f f1 n k (decP t) (by omega) hT hf h45 (by simp only [List.length_map, List.length_singleton]; omega)
        rw [wi64 (n := (k : Int) + 1) (by omega) (by omega)] at st
        have ih := a46 hn m (k + 1) b1 f1 (l ++ [decP t]) (by omega) hb2 (by rw [List.length_append, List.length_singleton]; omega)
        rw [Int.natCast_add, Int.natCast_one, List.map_append, List.append_assoc] at ih
        rw [st]
        exact ih
      · rw [if_pos hd]
        rw [if_neg hd] at h45
        exact Or.inr ⟨hd, Or.inr ⟨b1, f1, l46bd_1 l b b1 t f f1 n (decE t) k (by omega) hT hf h45 hd⟩⟩
    · rw [if_pos hf]
      exact Or.inr ⟨hf, Or.inl ⟨b1, f1, l46be_1 l b b1 t f f1 n k (by omega) hT hf⟩⟩
theorem a46n {n : Nat} (hn : n ≤ 200) (b : List UInt8) (f : Int) (hb : b.length ≤ 1000000) :
    End46 (lv (cv (ev X E0) xf46_l0) (rl [4, 0, 9, 0]) 1 (S46 (CV.pv (PV.sl .nil 0 [])) b f n 0)) (if n = 0 then CV.pv (PV.sl .nil 0 []) else CV.own 2367 21 ((tk n b f).2.1.map Req.pv)) (tk n b f) := by
  match n, hn with
  | 0, _ => exact Or.inl ⟨rfl, l46ax_1 b f 0 0 (by omega)⟩
  | m + 1, hn =>
    have hT := RT_1 b f 2400 hb (by decide)
    have hlen := qT_le (m := 2400) (b := b) (f := f)
    have hb2 : (step [] (qT 2400) b f).2.1.length ≤ 1000000 := Nat.le_trans step_len hb
    rw [tk, if_neg (by omega)]
    change cc (ev X E0) 97 _ _ = some (AV.s (step [] (qT ((2400 : Nat) : Int)) b f).1, [Box.cells [CV.pv (PV.str (step [] (qT ((2400 : Nat) : Int)) b f).2.1), CV.pv (PV.int .i64 (step [] (qT ((2400 : Nat) : Int)) b f).2.2)]]) at hT
    change ((step [] (qT 2400) b f).1).length ≤ 2400 at hlen
    change cc (ev X E0) 97 _ _ = some (AV.s (step [] (qT 2400) b f).1, [Box.cells [CV.pv (PV.str (step [] (qT 2400) b f).2.1), CV.pv (PV.int .i64 (step [] (qT 2400) b f).2.2)]]) at hT
    generalize step [] (qT 2400) b f = T at hT hlen hb2 ⊢
    obtain ⟨t, b1, f1⟩ := T
    dsimp only at hT hlen hb2 ⊢
    by_cases hf : f1 = 0
    · rw [if_neg (by omega)]
      have h45 := s45 t (by omega)
      unfold decA at h45
      by_cases hd : decE t = 0
      · rw [if_neg (by omega)]
        rw [if_pos hd, hd] at h45
        have st := l46a_1 b b1 t f f1 ((m + 1 : Nat) : Int) 0 (decP t) (by omega) hT hf h45 (by simp only [List.length_singleton]; omega)
        rw [wi64 (n := ((0 : Nat) : Int) + 1) (by omega) (by omega)] at st
        have ih := a46 (n := m + 1) hn m 1 b1 f1 [decP t] (by omega) hb2 rfl
        have e : lv (cv (ev X E0) xf46_l0) (rl [4, 0, 9, 0]) 1 (S46 (CV.pv (PV.sl .nil 0 [])) b f ((m + 1 : Nat) : Int) 0) = lv (cv (ev X E0) xf46_l0) (rl [4, 0, 9, 0]) 1 (S46 (CV.own 2367 21 ([decP t].map Req.pv)) b1 f1 ((m + 1 : Nat) : Int) (1 : Nat)) := st
        rw [e]
        exact ih
      · rw [if_pos hd]
        rw [if_neg hd] at h45
        exact Or.inr ⟨hd, Or.inr ⟨b1, f1, l46ad_1 b b1 t f f1 _ (decE t) 0 (by omega) hT hf h45 hd⟩⟩
    · rw [if_pos hf]
      exact Or.inr ⟨hf, Or.inl ⟨b1, f1, l46ae_1 b b1 t f f1 _ 0 (by omega) hT hf⟩⟩
abbrev f46n_hC (s b0 : List UInt8) (f0 : Int) (n : Nat) : Prop := cc (ev X E0) 93 [AV.c (.ptr 0 0), AV.i 200] [.cells [.pv (.str s), vi 0]] = some (AV.i (↑n : Int), [.cells [.pv (.str b0), vi f0]])
abbrev f46n_h (b0 b1 : List UInt8) (f0 f1 : Int) (n : Nat) : Prop := lv (cv (ev X E0) xf46_l0) (rl [4, 0, 9, 0]) 1 (S46 (.pv (.sl SO.nil 0 [])) b0 f0 (↑n : Int) 0) = some (XExit.exit 0, St.mk (tmOf 44 [(4, AV.c (.ptr 0 0)), (5, AV.c (.pv (.sl SO.nil 0 [])))]) [.cells [.pv (.str b1), vi f1]])
abbrev f46n_hE (b1 : List UInt8) (f1 e : Int) : Prop := cc (ev X E0) 96 [AV.c (.ptr 0 0)] [.cells [.pv (.str b1), vi f1]] = some (AV.i e, [.cells [.pv (.str b1), vi f1]])
theorem f46n_1 (s b0 b1 : List UInt8) (f0 f1 e : Int) (n : Nat) (hC : f46n_hC s b0 f0 n) (h : f46n_h b0 b1 f0 f1 n) (hE : f46n_hE b1 f1 e) (g1 : ¬e = 0) :
    cc (ev X E0) 46 [AV.c (.pv (.str s))] [] = some (AV.tup [AV.c (.pv (.sl SO.nil 0 [])), AV.c (vi e)], []) :=
  cc_path (x := xf46) rfl [.call (AV.c (.ptr 0 0)) [.cells [.pv (.str s), vi 0]], .call (AV.c (vi (↑n : Int))) [.cells [.pv (.str b0), vi f0]], .loop (XExit.exit 0) (St.mk (tmOf 44 [(4, AV.c (.ptr 0 0)), (5, AV.c (.pv (.sl SO.nil 0 [])))]) [.cells [.pv (.str b1), vi f1]]), .call (AV.c (vi e)) [.cells [.pv (.str b1), vi f1]], .br true]
    (c := rq [(1, cc (ev X E0) 87 [AV.c (.pv (.str s))] [] = some (AV.c (.ptr 0 0), [.cells [.pv (.str s), vi 0]])), ty hC, ty h, ty hE, (1, (e != 0) = true)]) (by kernel_rfl)
    (aq ⟨(NR_1 _), hC, h, hE, (bne_iff_ne.mpr g1), trivial⟩)
theorem f46n_2 (s b0 b1 : List UInt8) (f0 f1 e : Int) (n : Nat) (hC : f46n_hC s b0 f0 n) (h : f46n_h b0 b1 f0 f1 n) (hE : f46n_hE b1 f1 e) (g1 : e = 0) :
    cc (ev X E0) 46 [AV.c (.pv (.str s))] [] = some (AV.tup [AV.c (.pv (.sl SO.nil 0 [])), AV.c (vi 0)], []) :=
  cc_path (x := xf46) rfl [.call (AV.c (.ptr 0 0)) [.cells [.pv (.str s), vi 0]], .call (AV.c (vi (↑n : Int))) [.cells [.pv (.str b0), vi f0]], .loop (XExit.exit 0) (St.mk (tmOf 44 [(4, AV.c (.ptr 0 0)), (5, AV.c (.pv (.sl SO.nil 0 [])))]) [.cells [.pv (.str b1), vi f1]]), .call (AV.c (vi e)) [.cells [.pv (.str b1), vi f1]], .br false]
    (c := rq [(1, cc (ev X E0) 87 [AV.c (.pv (.str s))] [] = some (AV.c (.ptr 0 0), [.cells [.pv (.str s), vi 0]])), ty hC, ty h, ty hE, (1, (e != 0) = false)]) (by kernel_rfl)
    (aq ⟨(NR_1 _), hC, h, hE, (bne_f g1), trivial⟩)
abbrev f46o_hC (s b0 : List UInt8) (f0 : Int) (n : Nat) : Prop := cc (ev X E0) 93 [AV.c (.ptr 0 0), AV.i 200] [.cells [.pv (.str s), vi 0]] = some (AV.i (↑n : Int), [.cells [.pv (.str b0), vi f0]])
abbrev f46o_h (b0 b1 : List UInt8) (f0 f1 : Int) (n : Nat) (l : List Req) : Prop := lv (cv (ev X E0) xf46_l0) (rl [4, 0, 9, 0]) 1 (S46 (.pv (.sl SO.nil 0 [])) b0 f0 (↑n : Int) 0) = some (XExit.exit 0, St.mk (tmOf 44 [(4, AV.c (.ptr 0 0)), (5, AV.c (.own 2367 21 (List.map Req.pv l)))]) [.cells [.pv (.str b1), vi f1]])
abbrev f46o_hE (b1 : List UInt8) (f1 e : Int) : Prop := cc (ev X E0) 96 [AV.c (.ptr 0 0)] [.cells [.pv (.str b1), vi f1]] = some (AV.i e, [.cells [.pv (.str b1), vi f1]])
theorem f46o_1 (s b0 b1 : List UInt8) (f0 f1 e : Int) (n : Nat) (l : List Req) (hC : f46o_hC s b0 f0 n) (h : f46o_h b0 b1 f0 f1 n l) (hE : f46o_hE b1 f1 e) (g1 : ¬e = 0) :
    cc (ev X E0) 46 [AV.c (.pv (.str s))] [] = some (AV.tup [AV.c (.pv (.sl SO.nil 0 [])), AV.c (vi e)], []) :=
  cc_path (x := xf46) rfl [.call (AV.c (.ptr 0 0)) [.cells [.pv (.str s), vi 0]], .call (AV.c (vi (↑n : Int))) [.cells [.pv (.str b0), vi f0]], .loop (XExit.exit 0) (St.mk (tmOf 44 [(4, AV.c (.ptr 0 0)), (5, AV.c (.own 2367 21 (List.map Req.pv l)))]) [.cells [.pv (.str b1), vi f1]]), .call (AV.c (vi e)) [.cells [.pv (.str b1), vi f1]], .br true]
    (c := rq [(1, cc (ev X E0) 87 [AV.c (.pv (.str s))] [] = some (AV.c (.ptr 0 0), [.cells [.pv (.str s), vi 0]])), ty hC, ty h, ty hE, (1, (e != 0) = true)]) (by kernel_rfl)
    (aq ⟨(NR_1 _), hC, h, hE, (bne_iff_ne.mpr g1), trivial⟩)
theorem f46o_2 (s b0 b1 : List UInt8) (f0 f1 e : Int) (n : Nat) (l : List Req) (hC : f46o_hC s b0 f0 n) (h : f46o_h b0 b1 f0 f1 n l) (hE : f46o_hE b1 f1 e) (g1 : e = 0) :
    cc (ev X E0) 46 [AV.c (.pv (.str s))] [] = some (AV.tup [AV.c (.own 0 21 (List.map Req.pv l)), AV.c (vi 0)], []) :=
  cc_path (x := xf46) rfl [.call (AV.c (.ptr 0 0)) [.cells [.pv (.str s), vi 0]], .call (AV.c (vi (↑n : Int))) [.cells [.pv (.str b0), vi f0]], .loop (XExit.exit 0) (St.mk (tmOf 44 [(4, AV.c (.ptr 0 0)), (5, AV.c (.own 2367 21 (List.map Req.pv l)))]) [.cells [.pv (.str b1), vi f1]]), .call (AV.c (vi e)) [.cells [.pv (.str b1), vi f1]], .br false]
    (c := rq [(1, cc (ev X E0) 87 [AV.c (.pv (.str s))] [] = some (AV.c (.ptr 0 0), [.cells [.pv (.str s), vi 0]])), ty hC, ty h, ty hE, (1, (e != 0) = false)]) (by kernel_rfl)
    (aq ⟨(NR_1 _), hC, h, hE, (bne_f g1), trivial⟩)
theorem f46r_1 (s b0 b1 : List UInt8) (f0 f1 e : Int) (n : Nat) (hC : cc (ev X E0) 93 [AV.c (.ptr 0 0), AV.i 200] [.cells [.pv (.str s), vi 0]] = some (AV.i (↑n : Int), [.cells [.pv (.str b0), vi f0]])) (h : lv (cv (ev X E0) xf46_l0) (rl [4, 0, 9, 0]) 1 (S46 (.pv (.sl SO.nil 0 [])) b0 f0 (↑n : Int) 0) = some (XExit.ret, St.mk (tmOf 44 [(2, AV.c (.pv (.sl SO.nil 0 []))), (3, AV.c (vi e))]) [.cells [.pv (.str b1), vi f1]])) :
    cc (ev X E0) 46 [AV.c (.pv (.str s))] [] = some (AV.tup [AV.c (.pv (.sl SO.nil 0 [])), AV.c (vi e)], []) :=
  cc_path (x := xf46) rfl [.call (AV.c (.ptr 0 0)) [.cells [.pv (.str s), vi 0]], .call (AV.c (vi (↑n : Int))) [.cells [.pv (.str b0), vi f0]], .loop XExit.ret (St.mk (tmOf 44 [(2, AV.c (.pv (.sl SO.nil 0 []))), (3, AV.c (vi e))]) [.cells [.pv (.str b1), vi f1]])]
    (c := rq [(1, cc (ev X E0) 87 [AV.c (.pv (.str s))] [] = some (AV.c (.ptr 0 0), [.cells [.pv (.str s), vi 0]])), ty hC, ty h]) (by kernel_rfl)
    (aq ⟨(NR_1 _), hC, h, trivial⟩)
theorem f46q_1 (s b0 b1 : List UInt8) (f0 f1 e : Int) (n : Nat) (hC : cc (ev X E0) 93 [AV.c (.ptr 0 0), AV.i 200] [.cells [.pv (.str s), vi 0]] = some (AV.i (↑n : Int), [.cells [.pv (.str b0), vi f0]])) (h : lv (cv (ev X E0) xf46_l0) (rl [4, 0, 9, 0]) 1 (S46 (.pv (.sl SO.nil 0 [])) b0 f0 (↑n : Int) 0) = some (XExit.ret, St.mk (tmOf 44 [(2, AV.c (.pv (.sl SO.nil 0 []))), (3, AV.c (vi e))]) [.cells [.pv (.str b1), vi f1], .cells Z21])) :
    cc (ev X E0) 46 [AV.c (.pv (.str s))] [] = some (AV.tup [AV.c (.pv (.sl SO.nil 0 [])), AV.c (vi e)], []) :=
  cc_path (x := xf46) rfl [.call (AV.c (.ptr 0 0)) [.cells [.pv (.str s), vi 0]], .call (AV.c (vi (↑n : Int))) [.cells [.pv (.str b0), vi f0]], .loop XExit.ret (St.mk (tmOf 44 [(2, AV.c (.pv (.sl SO.nil 0 []))), (3, AV.c (vi e))]) [.cells [.pv (.str b1), vi f1], .cells (Z21)])]
    (c := rq [(1, cc (ev X E0) 87 [AV.c (.pv (.str s))] [] = some (AV.c (.ptr 0 0), [.cells [.pv (.str s), vi 0]])), ty hC, ty h]) (by kernel_rfl)
    (aq ⟨(NR_1 _), hC, h, trivial⟩)
def outR (l : List Req) : CV := if l = [] then CV.pv (PV.sl .nil 0 []) else CV.pv (PV.sl .shut 21 (l.map Req.pv))
abbrev takA (s : List UInt8) : AV := .tup [AV.c (outR (takeL s)), AV.i (takeE s)]
theorem tk_len : ∀ (m : Nat) (b : List UInt8) (f : Int), (tk m b f).1 = 0 → (tk m b f).2.1.length = m
  | 0, b, f, _ => rfl
  | m + 1, b, f, h => by
    rw [tk] at h ⊢
    by_cases hf : (step [] (qT 2400) b f).2.2 = 0
    · rw [if_neg (by omega)] at h ⊢
      by_cases hd : decE (step [] (qT 2400) b f).1 = 0
      · rw [if_neg (by omega)] at h ⊢
        rw [List.length_cons, tk_len m _ _ h]
      · rw [if_pos hd] at h; exact absurd h hd
    · rw [if_pos hf] at h; exact absurd h hf
theorem s46 (s : List UInt8) (hs : s.length ≤ 1000000) : cs (ev X E0) 46 [AV.s s] = some (takA s) := by
  have hC := RC_1 s 0 200 hs (by decide)
  have hn : (tkC s).1 ≤ 200 := qC_le (m := 200)
  have hl : (tkC s).2.1.length ≤ 1000000 := Nat.le_trans step_len hs
  have hC' : cc (ev X E0) 93 [AV.c (.ptr 0 0), AV.i 200] [Box.cells [.pv (.str s), .pv (.int .i64 0)]] = some (AV.i ((tkC s).1 : Int), [Box.cells [.pv (.str (tkC s).2.1), .pv (.int .i64 (tkC s).2.2)]]) := hC
  have hA := a46n hn (tkC s).2.1 (tkC s).2.2 hl
  have hlen := tk_len (tkC s).1 (tkC s).2.1 (tkC s).2.2
  unfold takA takeL takeE
  unfold tkR
  generalize tkC s = C at hC' hn hl hA hlen ⊢
  obtain ⟨n, b0, f0⟩ := C
  dsimp only at hC' hn hl hA hlen ⊢
  generalize tk n b0 f0 = r at hA hlen ⊢
  obtain ⟨e, l, b1, f1⟩ := r
  dsimp only at hlen ⊢
  rcases hA with ⟨h1, h2⟩ | ⟨h1, h2⟩
  · dsimp only at h1 h2
    have hE := sEnd b1 f1
    have hll := hlen h1
    have hee : (if e ≠ 0 then e else endE b1 f1) = endE b1 f1 := if_neg (by omega)
    rw [hee]
    by_cases n0 : n = 0
    · have hnil : l = [] := List.length_eq_zero_iff.1 (by omega)
      rw [if_pos n0] at h2
      subst hnil
      have eo : outR (if endE b1 f1 = 0 then [] else []) = CV.pv (PV.sl .nil 0 []) := by split <;> rfl
      rw [eo]
      by_cases c : endE b1 f1 = 0
      · have e2 := cs_of (f46n_2 s b0 b1 f0 f1 _ n hC' h2 hE c)
        rw [c]; exact e2
      · exact cs_of (f46n_1 s b0 b1 f0 f1 _ n hC' h2 hE c)
    · rw [if_neg n0] at h2
      have hne : l ≠ [] := by intro h; rw [h] at hll; exact n0 hll.symm
      by_cases c : endE b1 f1 = 0
      · have e2 := cs_of (f46o_2 s b0 b1 f0 f1 _ n l hC' h2 hE c)
        rw [if_pos c, outR, if_neg hne, c]; exact e2
      · rw [if_neg c]; exact cs_of (f46o_1 s b0 b1 f0 f1 _ n l hC' h2 hE c)
  · dsimp only at h1 h2
    have hee : (if e ≠ 0 then e else endE b1 f1) = e := if_pos h1
    rw [hee, if_neg h1]
    rcases h2 with ⟨b1', f1', h2⟩ | ⟨b1', f1', h2⟩
    · exact cs_of (f46r_1 s b0 b1' f0 f1' e n hC' h2)
    · exact cs_of (f46q_1 s b0 b1' f0 f1' e n hC' h2)
end Go.Sx.Tryd
/- Scripts and their bytes, in plain Lean: there and back. -/
namespace Go.Sx.Tryd
open Go Go.Sx
theorem enc_read {x : Req} (hg : Good x) (hc : chk x = 0) (r : List UInt8) : step [] (qT 2400) (tb (enc x) ++ r) 0 = (enc x, r, 0) := by
  have := enc_len (chk_fine hc) hg.typ
  exact step_w (qT_tb (by omega) (by omega) r)
theorem dec_enc0 {x : Req} (hg : Good x) (hc : chk x = 0) : SameR (decP (enc x)) x ∧ decE (enc x) = 0 := by
  have h := dec_enc hc hg.typ []
  rw [List.append_nil, if_pos rfl] at h
  exact h
theorem tk_wrong : ∀ (l : List Req) (j : Nat) (w r : List UInt8), (∀ x ∈ l, Good x) → (∀ x ∈ l, chk x = 0) → w.length ≤ 2400 → decE w ≠ 0 → (tk (l.length + (j + 1)) (txts l ++ (tb w ++ r)) 0).1 = decE w
  | [], j, w, r, _, _, hw, hd => by
    have e1 : step [] (qT 2400) (tb w ++ r) 0 = (w, r, 0) := step_w (qT_tb (by omega) (by omega) r)
    rw [List.length_nil, Nat.zero_add, tk, txts, List.nil_append, e1]
    dsimp only
    rw [if_neg (by decide), if_pos hd]
  | x :: l, j, w, r, hg, hc, hw, hd => by
    have e1 := enc_read (hg x (by simp)) (hc x (by simp)) (txts l ++ (tb w ++ r))
    have e2 := (dec_enc0 (hg x (by simp)) (hc x (by simp))).2
    have ih := tk_wrong l j w r (fun y hy => hg y (by simp [hy])) (fun y hy => hc y (by simp [hy])) hw hd
    rw [List.length_cons, Nat.add_right_comm, tk, txts, List.append_assoc, e1]
    dsimp only
    rw [if_neg (by decide), e2, if_neg (by decide)]
    exact ih
theorem put_first {l : List Req} (h : putE l = 0) : l.length ≤ 200 ∧ ∀ x ∈ l, chk x = 0 := by
  unfold putE at h
  by_cases c : 200 < l.length
  · rw [if_pos c] at h; exact absurd h (by decide)
  · rw [if_neg c] at h; exact ⟨by omega, firstE_all h⟩
theorem put_bytes {l : List Req} (h : putE l = 0) : putB l = vb l.length ++ txts l := by unfold putB; rw [if_pos h]
theorem tkC_put {n : Nat} (h : n ≤ 200) (r : List UInt8) : tkC (vb n ++ r) = (n, r, 0) := step_w (qC_vb (by omega) (by omega) r)
end Go.Sx.Tryd
/- What is handed in may be gone through; live questions. -/
namespace Go.Sx.Tryd
open Go Go.Sx
theorem alive : cc (ev X E0) 36 [] [] = some (.b true, []) := by
  show (ev X E0 36 [] []).bind canon = _
  rw [Calive36.alive36]
  rfl
theorem fit_good {p : Req} (hw : WReq p) (hf : fitR p = true) : Good p := by
  simp only [fitR, decide_eq_true_eq] at hf
  refine ⟨?_, by omega, hw.typ⟩
  unfold lsz
  rw [hw.sz]
  unfold szOk
  cases p.so <;> rfl
theorem fits_good {l : List Req} (hw : ∀ x ∈ l, WReq x) (hf : fitsL l = true) : l.length ≤ 210 ∧ ∀ x ∈ l, Good x := by
  simp only [fitsL, Bool.and_eq_true, decide_eq_true_eq, List.all_eq_true] at hf
  exact ⟨hf.1, fun x hx => fit_good (hw x hx) (hf.2 x hx)⟩
end Go.Sx.Tryd
/- The statement ScriptBack: its paths. -/
namespace Go.Sx.Tryd
open Go Go.Sx
end Go.Sx.Tryd
/- The statement ScriptBack, of the evaluator. -/
namespace Go.Sx.Tryd
open Go Go.Sx
def oR (l : List Req) : SO := if l = [] then .nil else .shut
theorem s46e {s : List UInt8} (hs : s.length ≤ 1000000) (h : ¬ takeE s = 0) : cs (ev X E0) 46 [AV.s s] = some (.tup [AV.c (CV.pv (PV.sl .nil 0 [])), AV.i (takeE s)]) := by
  have e := s46 s hs
  have hl : takeL s = [] := by unfold takeL; rw [if_neg h]
  rw [takA, hl] at e
  exact e
theorem putB_len {l : List Req} (h : putE l = 0) (hg : ∀ x ∈ l, Good x) : (putB l).length ≤ 1000000 := by
  obtain ⟨h1, h2⟩ := put_first h
  have a := txts_len hg h2
  have b := vb_small (n := l.length) (by omega)
  rw [put_bytes h, List.length_append]; omega
end Go.Sx.Tryd
/- The statements ScriptCut, ScriptFaults: their loops. -/
namespace Go.Sx.Tryd
open Go Go.Sx
abbrev S11 (l : List Req) (o : SO) (wrong more : List UInt8) (w : Int) (g : Nat) (b : List UInt8) (i : Int) : St := St.mk (tmOf 97 [(0, AV.c (CV.pv (PV.sl o 21 (List.map Req.pv l)))), (1, AV.c (CV.pv (PV.str wrong))), (2, AV.c (CV.pv (PV.str more))), (8, AV.c (CV.pv (PV.int .i64 w))), (9, AV.c (CV.ptr 1 0)), (53, AV.c (CV.pv (PV.sl o 21 (List.map Req.pv l)))), (54, AV.c (CV.pv (PV.int .i64 (↑(List.length (List.map Req.pv l)) : Int)))), (55, AV.c (CV.pv (PV.int .i64 i)))]) [Box.cells Z21, Box.cells [CV.own g 1 (pvBytes b)]]
theorem l11a_1 (l : List Req) (o : SO) (wrong more b e : List UInt8) (w c : Int) (i : Nat) (y : Req) (hy : l[i]? = some y) (hlt : (↑i : Int) < (↑(List.length (List.map Req.pv l)) : Int)) (h38 : cc (ev X E0) 38 [Req.av y] [] = some (AV.tup [AV.s e, AV.i c], [])) (h3 : cc (ev X E0) (36 : Nat) [] [] = some (AV.b true, [])) (g1 : ¬c = 0) :
    lv (cv (ev X E0) xf11_l0) (rl [0, 0, 0, 5, 0, 43, 0, 0]) 2 (S11 l o wrong more w 3328 b (↑i : Int)) = some (XExit.ret, St.mk (tmOf 97 [(6, AV.c (.pv (.bool true)))]) [.cells (Z21), .cells [.own 3328 1 (pvBytes b)], .cells (Req.cs y)]) :=
  lv_ret [.br true, .el (Req.pv y), .call (AV.tup [AV.c (.pv (.str e)), AV.c (vi c)]) [], .br true, .call (AV.c (.pv (.bool true))) []]
    (c := rq [(1, decide ((↑i : Int) < (↑(List.length (List.map Req.pv l)) : Int)) = true), (1, 0 ≤ (↑i : Int)), (1, (List.map Req.pv l)[i]? = some (Req.pv y)), ty h38, (1, (c != 0) = true), ty h3]) (by kernel_rfl)
    (aq ⟨(dT hlt), (Int.natCast_nonneg _), (map_at hy), h38, (bne_iff_ne.mpr g1), h3, trivial⟩)
theorem l11a_2 (l : List Req) (o : SO) (wrong more b e : List UInt8) (w c : Int) (i : Nat) (y : Req) (hy : l[i]? = some y) (hlt : (↑i : Int) < (↑(List.length (List.map Req.pv l)) : Int)) (h38 : cc (ev X E0) 38 [Req.av y] [] = some (AV.tup [AV.s e, AV.i c], [])) (_h3 : cc (ev X E0) (36 : Nat) [] [] = some (AV.b true, [])) (g1 : c = 0) (g2 : List.length e ≤ 1000000) (g3 : List.length b ≤ 1000000000) :
    lv (cv (ev X E0) xf11_l0) (rl [0, 0, 0, 5, 0, 43, 0, 0]) 2 (S11 l o wrong more w 3328 b (↑i : Int)) = lv (cv (ev X E0) xf11_l0) (rl [0, 0, 0, 5, 0, 43, 0, 0]) 2 (St.mk (tmOf 97 [(0, AV.c (.pv (.sl o 21 (List.map Req.pv l)))), (1, AV.c (.pv (.str wrong))), (2, AV.c (.pv (.str more))), (8, AV.c (vi w)), (9, AV.c (.ptr 1 0)), (53, AV.c (.pv (.sl o 21 (List.map Req.pv l)))), (54, AV.c (vi (↑(List.length (List.map Req.pv l)) : Int))), (55, AV.c (vi (IntKind.wrap .i64 ((↑i : Int) + 1))))]) [.cells (Z21), .cells [.own 4416 1 (pvBytes (b ++ tb e))]]) :=
  lv_next [.br true, .el (Req.pv y), .call (AV.tup [AV.c (.pv (.str e)), AV.c (vi c)]) [], .br false, .call (AV.tup []) [.cells [.own 0 1 (pvBytes (b ++ tb e))]]]
    (c := rq [(1, decide ((↑i : Int) < (↑(List.length (List.map Req.pv l)) : Int)) = true), (1, 0 ≤ (↑i : Int)), (1, (List.map Req.pv l)[i]? = some (Req.pv y)), ty h38, (1, (c != 0) = false), (1, cc (ev X E0) 50 [AV.c (.ptr 0 0), AV.c (.pv (.str e))] [.cells [.own 0 1 (pvBytes b)]] = some (AV.tup [], [.cells [.own 0 1 (pvBytes (b ++ tb e))]]))]) (by kernel_rfl)
    (aq ⟨(dT hlt), (Int.natCast_nonneg _), (map_at hy), h38, (bne_f g1), (Text_own _ _ g2 g3), trivial⟩)
theorem l11x_1 (l : List Req) (o : SO) (wrong more b : List UInt8) (w : Int) (i : Nat) (hlt : ¬(↑i : Int) < (↑(List.length (List.map Req.pv l)) : Int)) :
    lv (cv (ev X E0) xf11_l0) (rl [0, 0, 0, 5, 0, 43, 0, 0]) 2 (S11 l o wrong more w 3328 b (↑i : Int)) = some (XExit.exit 0, St.mk (tmOf 97 [(0, AV.c (.pv (.sl o 21 (List.map Req.pv l)))), (1, AV.c (.pv (.str wrong))), (2, AV.c (.pv (.str more))), (8, AV.c (vi w)), (9, AV.c (.ptr 1 0))]) [.cells (Z21), .cells [.own 3328 1 (pvBytes b)]]) :=
  lv_exit [.br false]
    (c := [decide ((↑i : Int) < (↑(List.length (List.map Req.pv l)) : Int)) = false]) (by kernel_rfl)
    ⟨(dF hlt), trivial⟩
theorem l11b_1 (l : List Req) (o : SO) (wrong more b e : List UInt8) (w c : Int) (i : Nat) (y : Req) (hy : l[i]? = some y) (hlt : (↑i : Int) < (↑(List.length (List.map Req.pv l)) : Int)) (h38 : cc (ev X E0) 38 [Req.av y] [] = some (AV.tup [AV.s e, AV.i c], [])) (h3 : cc (ev X E0) (36 : Nat) [] [] = some (AV.b true, [])) (g1 : ¬c = 0) :
    lv (cv (ev X E0) xf11_l0) (rl [0, 0, 0, 5, 0, 43, 0, 0]) 2 (S11 l o wrong more w 4416 b (↑i : Int)) = some (XExit.ret, St.mk (tmOf 97 [(6, AV.c (.pv (.bool true)))]) [.cells (Z21), .cells [.own 4416 1 (pvBytes b)], .cells (Req.cs y)]) :=
  lv_ret [.br true, .el (Req.pv y), .call (AV.tup [AV.c (.pv (.str e)), AV.c (vi c)]) [], .br true, .call (AV.c (.pv (.bool true))) []]
    (c := rq [(1, decide ((↑i : Int) < (↑(List.length (List.map Req.pv l)) : Int)) = true), (1, 0 ≤ (↑i : Int)), (1, (List.map Req.pv l)[i]? = some (Req.pv y)), ty h38, (1, (c != 0) = true), ty h3]) (by kernel_rfl)
    (aq ⟨(dT hlt), (Int.natCast_nonneg _), (map_at hy), h38, (bne_iff_ne.mpr g1), h3, trivial⟩)
theorem l11b_2 (l : List Req) (o : SO) (wrong more b e : List UInt8) (w c : Int) (i : Nat) (y : Req) (hy : l[i]? = some y) (hlt : (↑i : Int) < (↑(List.length (List.map Req.pv l)) : Int)) (h38 : cc (ev X E0) 38 [Req.av y] [] = some (AV.tup [AV.s e, AV.i c], [])) (_h3 : cc (ev X E0) (36 : Nat) [] [] = some (AV.b true, [])) (g1 : c = 0) (g2 : List.length e ≤ 1000000) (g3 : List.length b ≤ 1000000000) :
    lv (cv (ev X E0) xf11_l0) (rl [0, 0, 0, 5, 0, 43, 0, 0]) 2 (S11 l o wrong more w 4416 b (↑i : Int)) = lv (cv (ev X E0) xf11_l0) (rl [0, 0, 0, 5, 0, 43, 0, 0]) 2 (St.mk (tmOf 97 [(0, AV.c (.pv (.sl o 21 (List.map Req.pv l)))), (1, AV.c (.pv (.str wrong))), (2, AV.c (.pv (.str more))), (8, AV.c (vi w)), (9, AV.c (.ptr 1 0)), (53, AV.c (.pv (.sl o 21 (List.map Req.pv l)))), (54, AV.c (vi (↑(List.length (List.map Req.pv l)) : Int))), (55, AV.c (vi (IntKind.wrap .i64 ((↑i : Int) + 1))))]) [.cells (Z21), .cells [.own 4416 1 (pvBytes (b ++ tb e))]]) :=
  lv_next [.br true, .el (Req.pv y), .call (AV.tup [AV.c (.pv (.str e)), AV.c (vi c)]) [], .br false, .call (AV.tup []) [.cells [.own 0 1 (pvBytes (b ++ tb e))]]]
    (c := rq [(1, decide ((↑i : Int) < (↑(List.length (List.map Req.pv l)) : Int)) = true), (1, 0 ≤ (↑i : Int)), (1, (List.map Req.pv l)[i]? = some (Req.pv y)), ty h38, (1, (c != 0) = false), (1, cc (ev X E0) 50 [AV.c (.ptr 0 0), AV.c (.pv (.str e))] [.cells [.own 0 1 (pvBytes b)]] = some (AV.tup [], [.cells [.own 0 1 (pvBytes (b ++ tb e))]]))]) (by kernel_rfl)
    (aq ⟨(dT hlt), (Int.natCast_nonneg _), (map_at hy), h38, (bne_f g1), (Text_own _ _ g2 g3), trivial⟩)
theorem l11y_1 (l : List Req) (o : SO) (wrong more b : List UInt8) (w : Int) (i : Nat) (hlt : ¬(↑i : Int) < (↑(List.length (List.map Req.pv l)) : Int)) :
    lv (cv (ev X E0) xf11_l0) (rl [0, 0, 0, 5, 0, 43, 0, 0]) 2 (S11 l o wrong more w 4416 b (↑i : Int)) = some (XExit.exit 0, St.mk (tmOf 97 [(0, AV.c (.pv (.sl o 21 (List.map Req.pv l)))), (1, AV.c (.pv (.str wrong))), (2, AV.c (.pv (.str more))), (8, AV.c (vi w)), (9, AV.c (.ptr 1 0))]) [.cells (Z21), .cells [.own 4416 1 (pvBytes b)]]) :=
  lv_exit [.br false]
    (c := [decide ((↑i : Int) < (↑(List.length (List.map Req.pv l)) : Int)) = false]) (by kernel_rfl)
    ⟨(dF hlt), trivial⟩
end Go.Sx.Tryd
