/- The request of bytes, of the program. -/
import Derived.Test.YtplknajjcllmkaaDoorH16z
import Derived.Test.YtplknajjcllmkaaDoorH16b
import Derived.Test.YtplknajjcllmkaaDoorH16m
import Derived.Test.YtplknajjcllmkaaDoorH16c
import Derived.Test.YtplknajjcllmkaaDoorH16n
import Derived.Test.YtplknajjcllmkaaDoorH16o
namespace Go.Sx.Tryd
open Go Go.Sx
def cV : It → Int
  | .m c _ => c
  | _ => 0
def mV : It → Int
  | .m _ n => n
  | _ => 0
def bV : It → Bool
  | .b x => x
  | _ => false
def lV : It → List Leg
  | .ls x => x
  | _ => []
theorem zA_at {l : List It} {i : Nat} {v : It} (h : l[i]? = some v) : zA l i = zV v := by unfold zA; rw [h]; cases v <;> rfl
theorem tA_at {l : List It} {i : Nat} {v : It} (h : l[i]? = some v) : tA l i = tV v := by unfold tA; rw [h]; cases v <;> rfl
theorem cA_at {l : List It} {i : Nat} {v : It} (h : l[i]? = some v) : cA l i = cV v := by unfold cA; rw [h]; cases v <;> rfl
theorem mA_at {l : List It} {i : Nat} {v : It} (h : l[i]? = some v) : mA l i = mV v := by unfold mA; rw [h]; cases v <;> rfl
theorem bA_at {l : List It} {i : Nat} {v : It} (h : l[i]? = some v) : bA l i = bV v := by unfold bA; rw [h]; cases v <;> rfl
theorem lA_at {l : List It} {i : Nat} {v : It} (h : l[i]? = some v) : lA l i = lV v := by unfold lA; rw [h]; cases v <;> rfl
theorem reqOf_eq (d : Int) (v1 v2 v3 v4 v5 v6 v7 v8 v9 v10 v11 v12 v13 v14 v15 v16 v17 v18 v19 v20 v21 : It) : reqOf d [v1, v2, v3, v4, v5, v6, v7, v8, v9, v10, v11, v12, v13, v14, v15, v16, v17, v18, v19, v20, v21] = ⟨d, zV v1, tV v2, zV v3, zV v4, zV v5, zV v6, zV v7, zV v8, zV v9, dn (zV v10), dn (zV v11), zV v12, IntKind.wrap .i64 (zV v13 + zV v18), IntKind.wrap .i32 (dn (zV v14) + dn (zV v19)), cV v17, mV v17, bV v20, if lV v16 = [] then .nil else .shut, if lV v16 = [] then 0 else 3, lV v16, tV v15, tV v21⟩ := by
  unfold reqOf
  rw [zA_at (l := [v1, v2, v3, v4, v5, v6, v7, v8, v9, v10, v11, v12, v13, v14, v15, v16, v17, v18, v19, v20, v21]) (i := 0) rfl]
  rw [zA_at (l := [v1, v2, v3, v4, v5, v6, v7, v8, v9, v10, v11, v12, v13, v14, v15, v16, v17, v18, v19, v20, v21]) (i := 2) rfl]
  rw [zA_at (l := [v1, v2, v3, v4, v5, v6, v7, v8, v9, v10, v11, v12, v13, v14, v15, v16, v17, v18, v19, v20, v21]) (i := 3) rfl]
  rw [zA_at (l := [v1, v2, v3, v4, v5, v6, v7, v8, v9, v10, v11, v12, v13, v14, v15, v16, v17, v18, v19, v20, v21]) (i := 4) rfl]
  rw [zA_at (l := [v1, v2, v3, v4, v5, v6, v7, v8, v9, v10, v11, v12, v13, v14, v15, v16, v17, v18, v19, v20, v21]) (i := 5) rfl]
  rw [zA_at (l := [v1, v2, v3, v4, v5, v6, v7, v8, v9, v10, v11, v12, v13, v14, v15, v16, v17, v18, v19, v20, v21]) (i := 6) rfl]
  rw [zA_at (l := [v1, v2, v3, v4, v5, v6, v7, v8, v9, v10, v11, v12, v13, v14, v15, v16, v17, v18, v19, v20, v21]) (i := 7) rfl]
  rw [zA_at (l := [v1, v2, v3, v4, v5, v6, v7, v8, v9, v10, v11, v12, v13, v14, v15, v16, v17, v18, v19, v20, v21]) (i := 8) rfl]
  rw [zA_at (l := [v1, v2, v3, v4, v5, v6, v7, v8, v9, v10, v11, v12, v13, v14, v15, v16, v17, v18, v19, v20, v21]) (i := 9) rfl]
  rw [zA_at (l := [v1, v2, v3, v4, v5, v6, v7, v8, v9, v10, v11, v12, v13, v14, v15, v16, v17, v18, v19, v20, v21]) (i := 10) rfl]
  rw [zA_at (l := [v1, v2, v3, v4, v5, v6, v7, v8, v9, v10, v11, v12, v13, v14, v15, v16, v17, v18, v19, v20, v21]) (i := 11) rfl]
  rw [zA_at (l := [v1, v2, v3, v4, v5, v6, v7, v8, v9, v10, v11, v12, v13, v14, v15, v16, v17, v18, v19, v20, v21]) (i := 12) rfl]
  rw [zA_at (l := [v1, v2, v3, v4, v5, v6, v7, v8, v9, v10, v11, v12, v13, v14, v15, v16, v17, v18, v19, v20, v21]) (i := 17) rfl]
  rw [zA_at (l := [v1, v2, v3, v4, v5, v6, v7, v8, v9, v10, v11, v12, v13, v14, v15, v16, v17, v18, v19, v20, v21]) (i := 13) rfl]
  rw [zA_at (l := [v1, v2, v3, v4, v5, v6, v7, v8, v9, v10, v11, v12, v13, v14, v15, v16, v17, v18, v19, v20, v21]) (i := 18) rfl]
  rw [tA_at (l := [v1, v2, v3, v4, v5, v6, v7, v8, v9, v10, v11, v12, v13, v14, v15, v16, v17, v18, v19, v20, v21]) (i := 1) rfl]
  rw [tA_at (l := [v1, v2, v3, v4, v5, v6, v7, v8, v9, v10, v11, v12, v13, v14, v15, v16, v17, v18, v19, v20, v21]) (i := 14) rfl]
  rw [tA_at (l := [v1, v2, v3, v4, v5, v6, v7, v8, v9, v10, v11, v12, v13, v14, v15, v16, v17, v18, v19, v20, v21]) (i := 20) rfl]
  rw [cA_at (l := [v1, v2, v3, v4, v5, v6, v7, v8, v9, v10, v11, v12, v13, v14, v15, v16, v17, v18, v19, v20, v21]) (i := 16) rfl]
  rw [mA_at (l := [v1, v2, v3, v4, v5, v6, v7, v8, v9, v10, v11, v12, v13, v14, v15, v16, v17, v18, v19, v20, v21]) (i := 16) rfl]
  rw [bA_at (l := [v1, v2, v3, v4, v5, v6, v7, v8, v9, v10, v11, v12, v13, v14, v15, v16, v17, v18, v19, v20, v21]) (i := 19) rfl]
  rw [lA_at (l := [v1, v2, v3, v4, v5, v6, v7, v8, v9, v10, v11, v12, v13, v14, v15, v16, v17, v18, v19, v20, v21]) (i := 15) rfl]
theorem bad_eq (v1 v2 v3 v4 v5 v6 v7 v8 v9 v10 v11 v12 v13 v14 v15 v16 v17 v18 v19 v20 v21 : It) : bad [v1, v2, v3, v4, v5, v6, v7, v8, v9, v10, v11, v12, v13, v14, v15, v16, v17, v18, v19, v20, v21] = !(n32 (zV v10) && n32 (zV v11) && n32 (zV v14) && n32 (zV v19)) := by
  unfold bad
  rw [zA_at (l := [v1, v2, v3, v4, v5, v6, v7, v8, v9, v10, v11, v12, v13, v14, v15, v16, v17, v18, v19, v20, v21]) (i := 9) rfl, zA_at (l := [v1, v2, v3, v4, v5, v6, v7, v8, v9, v10, v11, v12, v13, v14, v15, v16, v17, v18, v19, v20, v21]) (i := 10) rfl, zA_at (l := [v1, v2, v3, v4, v5, v6, v7, v8, v9, v10, v11, v12, v13, v14, v15, v16, v17, v18, v19, v20, v21]) (i := 13) rfl, zA_at (l := [v1, v2, v3, v4, v5, v6, v7, v8, v9, v10, v11, v12, v13, v14, v15, v16, v17, v18, v19, v20, v21]) (i := 18) rfl]
theorem bad_e (a b c d : Bool) : (if d then (if c then (if b then (if a then (0 : Int) else 9) else 9) else 9) else 9) = if (!(a && b && c && d)) = true then 9 else 0 := by
  cases a <;> cases b <;> cases c <;> cases d <;> rfl
theorem rdL_length : ∀ (n : Nat) (b : List UInt8) (f : Int), (rdL n b f).1.length = n
  | 0, b, f => rfl
  | n + 1, b, f => by rw [rdL, List.length_cons, rdL_length n]
theorem kd_ex {d : Int} (h0 : 0 ≤ d) (h1 : d ≤ 10) : (hasB d 64 = true → hasB d 128 = false ∧ hasB d 1024 = false) := by
  rcases kd_cases h0 h1 with rfl | rfl | rfl | rfl | rfl | rfl | rfl | rfl | rfl | rfl | rfl <;> decide
abbrev T45 : List AV := tmOf 205 [(2, AV.c (CV.ptr 0 0)), (4, AV.c (CV.ptr 2 0)), (6, AV.c (CV.ptr 3 0))]
theorem a45 {h : Req} {d e : Int} {n : Nat} (t : cc (ev X E0) 74 [AV.i d, AV.i 64] [] = some (.b true, [])) (hn : n ≤ 16) : ∀ (m k : Nat) (b : List UInt8) (f : Int) (l : List Leg), k + m = n → b.length ≤ 1000000 → l.length = k →
    lv (cv (ev X E0) xf45_l0) (rl [2, 1, 1, 114, 0]) 4 (S45 d e b f (csX h (CV.own 8767 3 (l.map Leg.pv))) n k) = some (XExit.exit 1, St.mk T45 (B45 d e (rdL m b f).2.1 (rdL m b f).2.2 (csX h (CV.own 8767 3 ((l ++ (rdL m b f).1).map Leg.pv)))))
  | 0, k, b, f, l, hk, hb, hl => by
    simp only [rdL, List.append_nil]
    exact l45_2 h d e b f n l k t (by omega)
  | m + 1, k, b, f, l, hk, hb, hl => by
    have hb2 : (step 0 qV b f).2.1.length ≤ 1000000 := Nat.le_trans step_len hb
    have hb3 : (step (0, 0) qM (step 0 qV b f).2.1 (step 0 qV b f).2.2).2.1.length ≤ 1000000 := Nat.le_trans step_len hb2
    have st := l45_1 h d e b f n l k t (by omega) t hb hb2 (by simp only [List.length_map, List.length_singleton]; omega)
    have ih := a45 (h := h) (e := e) t hn m (k + 1) (step (0, 0) qM (step 0 qV b f).2.1 (step 0 qV b f).2.2).2.1 (step (0, 0) qM (step 0 qV b f).2.1 (step 0 qV b f).2.2).2.2
      (l ++ [⟨sgn (step 0 qV b f).1, (step (0, 0) qM (step 0 qV b f).2.1 (step 0 qV b f).2.2).1.1, (step (0, 0) qM (step 0 qV b f).2.1 (step 0 qV b f).2.2).1.2⟩]) (by omega) hb3 (by rw [List.length_append, List.length_singleton]; omega)
    rw [wi64 (n := (k : Int) + 1) (by omega) (by omega)] at st
    rw [Int.natCast_add, Int.natCast_one, List.append_assoc, List.map_append] at ih
    rw [rdL]
    exact st.trans ih
theorem a45n {h : Req} {d e : Int} {n : Nat} (t : cc (ev X E0) 74 [AV.i d, AV.i 64] [] = some (.b true, [])) (hn : n ≤ 16) (b : List UInt8) (f : Int) (hb : b.length ≤ 1000000) :
    lv (cv (ev X E0) xf45_l0) (rl [2, 1, 1, 114, 0]) 4 (S45 d e b f (csX h (CV.pv (PV.sl .nil 0 []))) n 0) = some (XExit.exit 1, St.mk T45 (B45 d e (rdL n b f).2.1 (rdL n b f).2.2 (csX h (if n = 0 then CV.pv (PV.sl .nil 0 []) else CV.own 8767 3 ((rdL n b f).1.map Leg.pv))))) := by
  match n, hn with
  | 0, _ => exact l45n_2 h d e b f 0 0 t (by omega)
  | n + 1, hn =>
    have hb2 : (step 0 qV b f).2.1.length ≤ 1000000 := Nat.le_trans step_len hb
    have hb3 : (step (0, 0) qM (step 0 qV b f).2.1 (step 0 qV b f).2.2).2.1.length ≤ 1000000 := Nat.le_trans step_len hb2
    have st := l45n_1 h d e b f ((n + 1 : Nat) : Int) 0 t (by omega) t hb hb2 (by simp only [List.length_singleton]; omega)
    have ih := a45 (h := h) (e := e) t hn n 1 (step (0, 0) qM (step 0 qV b f).2.1 (step 0 qV b f).2.2).2.1 (step (0, 0) qM (step 0 qV b f).2.1 (step 0 qV b f).2.2).2.2
      [⟨sgn (step 0 qV b f).1, (step (0, 0) qM (step 0 qV b f).2.1 (step 0 qV b f).2.2).1.1, (step (0, 0) qM (step 0 qV b f).2.1 (step 0 qV b f).2.2).1.2⟩] (by omega) hb3 rfl
    rw [wi64 (n := ((0 : Nat) : Int) + 1) (by omega) (by omega)] at st
    rw [if_neg (by omega), rdL]
    exact st.trans ih
theorem qC_le {m : Nat} {b : List UInt8} {f : Int} : (step 0 (qC m) b f).1 ≤ m := by
  unfold step
  split
  · exact Nat.zero_le _
  · split
    · exact Nat.zero_le _
    · unfold qC
      split
      · exact Nat.zero_le _
      · split
        · exact Nat.zero_le _
        · simp only; omega
abbrev decA (s : List UInt8) : AV := .tup [if decE s = 0 then Req.av (decP s) else AV.agg Z21, AV.i (decE s)]
theorem decE_of {s : List UInt8} {l : List It} {b : List UInt8} {f : Int} (c0 : (dv s).2.2 = 0) (c1 : ¬ 11 ≤ (dv s).1) (hR : dR s = (l, b, f)) :
    decE s = if endE b f ≠ 0 then endE b f else if chk (decP s) ≠ 12 ∧ bad l = true then 9 else chk (decP s) := by
  unfold decE
  rw [if_neg (by omega), if_neg c1, hR]
theorem fin (s : List UInt8) {A : AV} {eE c re : Int} {bd : Bool} (hb : re = if bd = true then 9 else 0) (hE : decE s = if eE ≠ 0 then eE else if c ≠ 12 ∧ bd = true then 9 else c) (hP : Req.av (decP s) = A)
    (k1 : ¬ eE = 0 → cs (ev X E0) 45 [AV.s s] = some (.tup [AV.agg Z21, AV.i eE]))
    (k2 : eE = 0 → ¬ c = 12 → ¬ re = 0 → cs (ev X E0) 45 [AV.s s] = some (.tup [AV.agg Z21, AV.i re]))
    (k3 : eE = 0 → ¬ c = 12 → re = 0 → ¬ c = 0 → cs (ev X E0) 45 [AV.s s] = some (.tup [AV.agg Z21, AV.i c]))
    (k4 : eE = 0 → ¬ c = 12 → re = 0 → c = 0 → cs (ev X E0) 45 [AV.s s] = some (.tup [A, AV.i 0]))
    (k5 : eE = 0 → c = 12 → ¬ c = 0 → cs (ev X E0) 45 [AV.s s] = some (.tup [AV.agg Z21, AV.i c])) : cs (ev X E0) 45 [AV.s s] = some (decA s) := by
  unfold decA
  by_cases e0 : eE = 0
  · rw [if_neg (by omega)] at hE
    by_cases c12 : c = 12
    · rw [if_neg (by rintro ⟨h, _⟩; exact h c12)] at hE
      rw [hE, if_neg (by omega)]
      exact k5 e0 c12 (by omega)
    · cases hbd : bd with
      | true =>
        rw [hbd, if_pos rfl] at hb
        rw [hbd, if_pos ⟨c12, rfl⟩] at hE
        rw [hE, if_neg (by decide), ← hb]
        exact k2 e0 c12 (by omega)
      | false =>
        rw [hbd, if_neg (by decide)] at hb
        rw [hbd, if_neg (by rintro ⟨_, h⟩; exact absurd h (by decide))] at hE
        by_cases c0 : c = 0
        · rw [hE, if_pos c0, hP, c0]; exact k4 e0 c12 hb c0
        · rw [hE, if_neg c0]; exact k3 e0 c12 hb c0
  · rw [if_pos e0] at hE
    rw [hE, if_neg e0]
    exact k1 e0
theorem rdO_all {d : Int} {v1 v2 v3 v4 v5 v6 v7 v8 v9 v10 v11 v12 v13 v14 v15 v16 v17 v18 v19 v20 v21 : It} {b0 b1 b2 b3 b4 b5 b6 b7 b8 b9 b10 b11 b12 b13 b14 b15 b16 b17 b18 b19 b20 b21 : List UInt8} {f0 f1 f2 f3 f4 f5 f6 f7 f8 f9 f10 f11 f12 f13 f14 f15 f16 f17 f18 f19 f20 f21 : Int} (g1 : oS d 1 .z b0 f0 = (v1, b1, f1)) (g2 : oS d 1 (.t 32) b1 f1 = (v2, b2, f2)) (g3 : oS d 1 .z b2 f2 = (v3, b3, f3)) (g4 : oS d 2 .z b3 f3 = (v4, b4, f4)) (g5 : oS d 2 .z b4 f4 = (v5, b5, f5)) (g6 : oS d 2 .z b5 f5 = (v6, b6, f6)) (g7 : oS d 2 .z b6 f6 = (v7, b7, f7)) (g8 : oS d 2 .z b7 f7 = (v8, b8, f8)) (g9 : oS d 2 .z b8 f8 = (v9, b9, f9)) (g10 : oS d 2 .z b9 f9 = (v10, b10, f10)) (g11 : oS d 2 .z b10 f10 = (v11, b11, f11)) (g12 : oS d 4 .z b11 f11 = (v12, b12, f12)) (g13 : oS d 8 .z b12 f12 = (v13, b13, f13)) (g14 : oS d 16 .z b13 f13 = (v14, b14, f14)) (g15 : oS d 32 (.t 32) b14 f14 = (v15, b15, f15)) (g16 : oS d 64 .ls b15 f15 = (v16, b16, f16)) (g17 : oS d 128 .m b16 f16 = (v17, b17, f17)) (g18 : oS d 256 .z b17 f17 = (v18, b18, f18)) (g19 : oS d 512 .z b18 f18 = (v19, b19, f19)) (g20 : oS d 1024 .b b19 f19 = (v20, b20, f20)) (g21 : oS d 2048 (.t 2000) b20 f20 = (v21, b21, f21)) : rdO d SH b0 f0 = ([v1, v2, v3, v4, v5, v6, v7, v8, v9, v10, v11, v12, v13, v14, v15, v16, v17, v18, v19, v20, v21], b21, f21) := by
  unfold SH
  rw [rdO_cons, g1]; dsimp only
  rw [rdO_cons, g2]; dsimp only
  rw [rdO_cons, g3]; dsimp only
  rw [rdO_cons, g4]; dsimp only
  rw [rdO_cons, g5]; dsimp only
  rw [rdO_cons, g6]; dsimp only
  rw [rdO_cons, g7]; dsimp only
  rw [rdO_cons, g8]; dsimp only
  rw [rdO_cons, g9]; dsimp only
  rw [rdO_cons, g10]; dsimp only
  rw [rdO_cons, g11]; dsimp only
  rw [rdO_cons, g12]; dsimp only
  rw [rdO_cons, g13]; dsimp only
  rw [rdO_cons, g14]; dsimp only
  rw [rdO_cons, g15]; dsimp only
  rw [rdO_cons, g16]; dsimp only
  rw [rdO_cons, g17]; dsimp only
  rw [rdO_cons, g18]; dsimp only
  rw [rdO_cons, g19]; dsimp only
  rw [rdO_cons, g20]; dsimp only
  rw [rdO_cons, g21]; dsimp only
  rfl
theorem s45 (s : List UInt8) (hs : s.length ≤ 1000000) : cs (ev X E0) 45 [AV.s s] = some (decA s) := by
  have hV := RV_1 s 0 hs
  by_cases c0 : (dv s).2.2 = 0
  rotate_left
  · have e : decE s = (dv s).2.2 := by unfold decE; rw [if_pos c0]
    rw [decA, e, if_neg c0]
    exact cs_of (f45x_1 s _ _ _ hV c0)
  by_cases c1 : 11 ≤ (dv s).1
  · have e : decE s = 3 := by unfold decE; rw [if_neg (by omega), if_pos c1]
    rw [decA, e, if_neg (by decide)]
    exact cs_of (f45x_2 s _ _ _ hV c0 (show ((step 0 qV s 0).1 : Int) ≥ 11 by have : 11 ≤ (step 0 qV s 0).1 := c1; omega))
  have hlV : (dv s).2.1.length ≤ 1000000 := Nat.le_trans step_len hs
  have hu : (dv s).1 ≤ 10 := by omega
  have hdR : dR s = rdO ((dv s).1 : Int) SH (dv s).2.1 (dv s).2.2 := by rw [c0]; rfl
  have hdP : decP s = reqOf ((dv s).1 : Int) (dR s).1 := rfl
  have hdE := fun l b f => decE_of (s := s) (l := l) (b := b) (f := f) c0 c1
  have hV' : cc (ev X E0) 88 [AV.c (.ptr 0 0)] (rd2 s 0) = some (AV.int .u64 ((dv s).1 : Int), rd2 (dv s).2.1 (dv s).2.2) := hV
  clear hV
  generalize dv s = dd at c0 c1 hlV hu hdR hdP hV'
  obtain ⟨u, b0, f0⟩ := dd
  dsimp only at c0 c1 hlV hu hdR hdP hV'
  have hw : IntKind.wrap .i64 (u : Int) = u := wi64 (by omega) (by omega)
  have d0 : 0 ≤ IntKind.wrap .i64 (u : Int) := by omega
  have d1 : IntKind.wrap .i64 (u : Int) ≤ 10 := by omega
  have ku : ¬ (u : Int) ≥ 11 := by omega
  have l0 := hlV
  have q1 := s90 (IntKind.wrap .i64 (u : Int)) 0 1 b0 f0 d0 d1 l0
  have l1 := Nat.le_trans (oS_len (IntKind.wrap .i64 (u : Int)) 1 .z b0 f0) l0
  generalize g1 : oS (IntKind.wrap .i64 (u : Int)) 1 .z b0 f0 = i1 at q1 l1
  obtain ⟨v1, b1, f1⟩ := i1
  dsimp only at q1 l1
  have q2 := s91 (IntKind.wrap .i64 (u : Int)) 0 1 32 b1 f1 d0 d1 l1 (by decide)
  have l2 := Nat.le_trans (oS_len (IntKind.wrap .i64 (u : Int)) 1 (.t 32) b1 f1) l1
  generalize g2 : oS (IntKind.wrap .i64 (u : Int)) 1 (.t 32) b1 f1 = i2 at q2 l2
  obtain ⟨v2, b2, f2⟩ := i2
  dsimp only at q2 l2
  have q3 := s90 (IntKind.wrap .i64 (u : Int)) 0 1 b2 f2 d0 d1 l2
  have l3 := Nat.le_trans (oS_len (IntKind.wrap .i64 (u : Int)) 1 .z b2 f2) l2
  generalize g3 : oS (IntKind.wrap .i64 (u : Int)) 1 .z b2 f2 = i3 at q3 l3
  obtain ⟨v3, b3, f3⟩ := i3
  dsimp only at q3 l3
  have q4 := s90 (IntKind.wrap .i64 (u : Int)) 0 2 b3 f3 d0 d1 l3
  have l4 := Nat.le_trans (oS_len (IntKind.wrap .i64 (u : Int)) 2 .z b3 f3) l3
  generalize g4 : oS (IntKind.wrap .i64 (u : Int)) 2 .z b3 f3 = i4 at q4 l4
  obtain ⟨v4, b4, f4⟩ := i4
  dsimp only at q4 l4
  have q5 := s90 (IntKind.wrap .i64 (u : Int)) 0 2 b4 f4 d0 d1 l4
  have l5 := Nat.le_trans (oS_len (IntKind.wrap .i64 (u : Int)) 2 .z b4 f4) l4
  generalize g5 : oS (IntKind.wrap .i64 (u : Int)) 2 .z b4 f4 = i5 at q5 l5
  obtain ⟨v5, b5, f5⟩ := i5
  dsimp only at q5 l5
  have q6 := s90 (IntKind.wrap .i64 (u : Int)) 0 2 b5 f5 d0 d1 l5
  have l6 := Nat.le_trans (oS_len (IntKind.wrap .i64 (u : Int)) 2 .z b5 f5) l5
  generalize g6 : oS (IntKind.wrap .i64 (u : Int)) 2 .z b5 f5 = i6 at q6 l6
  obtain ⟨v6, b6, f6⟩ := i6
  dsimp only at q6 l6
  have q7 := s90 (IntKind.wrap .i64 (u : Int)) 0 2 b6 f6 d0 d1 l6
  have l7 := Nat.le_trans (oS_len (IntKind.wrap .i64 (u : Int)) 2 .z b6 f6) l6
  generalize g7 : oS (IntKind.wrap .i64 (u : Int)) 2 .z b6 f6 = i7 at q7 l7
  obtain ⟨v7, b7, f7⟩ := i7
  dsimp only at q7 l7
  have q8 := s90 (IntKind.wrap .i64 (u : Int)) 0 2 b7 f7 d0 d1 l7
  have l8 := Nat.le_trans (oS_len (IntKind.wrap .i64 (u : Int)) 2 .z b7 f7) l7
  generalize g8 : oS (IntKind.wrap .i64 (u : Int)) 2 .z b7 f7 = i8 at q8 l8
  obtain ⟨v8, b8, f8⟩ := i8
  dsimp only at q8 l8
  have q9 := s90 (IntKind.wrap .i64 (u : Int)) 0 2 b8 f8 d0 d1 l8
  have l9 := Nat.le_trans (oS_len (IntKind.wrap .i64 (u : Int)) 2 .z b8 f8) l8
  generalize g9 : oS (IntKind.wrap .i64 (u : Int)) 2 .z b8 f8 = i9 at q9 l9
  obtain ⟨v9, b9, f9⟩ := i9
  dsimp only at q9 l9
  have q10 := s92 (IntKind.wrap .i64 (u : Int)) 0 2 b9 f9 d0 d1 l9
  have l10 := Nat.le_trans (oS_len (IntKind.wrap .i64 (u : Int)) 2 .z b9 f9) l9
  generalize g10 : oS (IntKind.wrap .i64 (u : Int)) 2 .z b9 f9 = i10 at q10 l10
  obtain ⟨v10, b10, f10⟩ := i10
  dsimp only at q10 l10
  generalize r10 : (if n32 (zV v10) = true then (0 : Int) else 9) = e10 at q10
  have q11 := s92 (IntKind.wrap .i64 (u : Int)) e10 2 b10 f10 d0 d1 l10
  have l11 := Nat.le_trans (oS_len (IntKind.wrap .i64 (u : Int)) 2 .z b10 f10) l10
  generalize g11 : oS (IntKind.wrap .i64 (u : Int)) 2 .z b10 f10 = i11 at q11 l11
  obtain ⟨v11, b11, f11⟩ := i11
  dsimp only at q11 l11
  generalize r11 : (if n32 (zV v11) = true then e10 else 9) = e11 at q11
  have q12 := s90 (IntKind.wrap .i64 (u : Int)) e11 4 b11 f11 d0 d1 l11
  have l12 := Nat.le_trans (oS_len (IntKind.wrap .i64 (u : Int)) 4 .z b11 f11) l11
  generalize g12 : oS (IntKind.wrap .i64 (u : Int)) 4 .z b11 f11 = i12 at q12 l12
  obtain ⟨v12, b12, f12⟩ := i12
  dsimp only at q12 l12
  have q13 := s90 (IntKind.wrap .i64 (u : Int)) e11 8 b12 f12 d0 d1 l12
  have l13 := Nat.le_trans (oS_len (IntKind.wrap .i64 (u : Int)) 8 .z b12 f12) l12
  generalize g13 : oS (IntKind.wrap .i64 (u : Int)) 8 .z b12 f12 = i13 at q13 l13
  obtain ⟨v13, b13, f13⟩ := i13
  dsimp only at q13 l13
  have q14 := s92 (IntKind.wrap .i64 (u : Int)) e11 16 b13 f13 d0 d1 l13
  have l14 := Nat.le_trans (oS_len (IntKind.wrap .i64 (u : Int)) 16 .z b13 f13) l13
  generalize g14 : oS (IntKind.wrap .i64 (u : Int)) 16 .z b13 f13 = i14 at q14 l14
  obtain ⟨v14, b14, f14⟩ := i14
  dsimp only at q14 l14
  generalize r14 : (if n32 (zV v14) = true then e11 else 9) = e14 at q14
  have q15 := s91 (IntKind.wrap .i64 (u : Int)) e14 32 32 b14 f14 d0 d1 l14 (by decide)
  have l15 := Nat.le_trans (oS_len (IntKind.wrap .i64 (u : Int)) 32 (.t 32) b14 f14) l14
  generalize g15 : oS (IntKind.wrap .i64 (u : Int)) 32 (.t 32) b14 f14 = i15 at q15 l15
  obtain ⟨v15, b15, f15⟩ := i15
  dsimp only at q15 l15
  have l16 := Nat.le_trans (oS_len (IntKind.wrap .i64 (u : Int)) 64 .ls b15 f15) l15
  generalize g16 : oS (IntKind.wrap .i64 (u : Int)) 64 .ls b15 f15 = i16 at l16
  obtain ⟨v16, b16, f16⟩ := i16
  dsimp only at l16
  have l17 := Nat.le_trans (oS_len (IntKind.wrap .i64 (u : Int)) 128 .m b16 f16) l16
  generalize g17 : oS (IntKind.wrap .i64 (u : Int)) 128 .m b16 f16 = i17 at l17
  obtain ⟨v17, b17, f17⟩ := i17
  dsimp only at l17
  have q18 := s90 (IntKind.wrap .i64 (u : Int)) e14 256 b17 f17 d0 d1 l17
  have l18 := Nat.le_trans (oS_len (IntKind.wrap .i64 (u : Int)) 256 .z b17 f17) l17
  generalize g18 : oS (IntKind.wrap .i64 (u : Int)) 256 .z b17 f17 = i18 at q18 l18
  obtain ⟨v18, b18, f18⟩ := i18
  dsimp only at q18 l18
  have q19 := s92 (IntKind.wrap .i64 (u : Int)) e14 512 b18 f18 d0 d1 l18
  have l19 := Nat.le_trans (oS_len (IntKind.wrap .i64 (u : Int)) 512 .z b18 f18) l18
  generalize g19 : oS (IntKind.wrap .i64 (u : Int)) 512 .z b18 f18 = i19 at q19 l19
  obtain ⟨v19, b19, f19⟩ := i19
  dsimp only at q19 l19
  generalize r19 : (if n32 (zV v19) = true then e14 else 9) = e19 at q19
  have l20 := Nat.le_trans (oS_len (IntKind.wrap .i64 (u : Int)) 1024 .b b19 f19) l19
  generalize g20 : oS (IntKind.wrap .i64 (u : Int)) 1024 .b b19 f19 = i20 at l20
  obtain ⟨v20, b20, f20⟩ := i20
  dsimp only at l20
  have q21 := s91 (IntKind.wrap .i64 (u : Int)) e19 2048 2000 b20 f20 d0 d1 l20 (by decide)
  have l21 := Nat.le_trans (oS_len (IntKind.wrap .i64 (u : Int)) 2048 (.t 2000) b20 f20) l20
  generalize g21 : oS (IntKind.wrap .i64 (u : Int)) 2048 (.t 2000) b20 f20 = i21 at q21 l21
  obtain ⟨v21, b21, f21⟩ := i21
  dsimp only at q21 l21
  have hE := sEnd b21 f21
  have hR : dR s = ([v1, v2, v3, v4, v5, v6, v7, v8, v9, v10, v11, v12, v13, v14, v15, v16, v17, v18, v19, v20, v21], b21, f21) := by
    rw [hdR]
    rw [hw] at g1 g2 g3 g4 g5 g6 g7 g8 g9 g10 g11 g12 g13 g14 g15 g16 g17 g18 g19 g20 g21
    exact rdO_all g1 g2 g3 g4 g5 g6 g7 g8 g9 g10 g11 g12 g13 g14 g15 g16 g17 g18 g19 g20 g21
  have hP : decP s = reqOf (IntKind.wrap .i64 (u : Int)) [v1, v2, v3, v4, v5, v6, v7, v8, v9, v10, v11, v12, v13, v14, v15, v16, v17, v18, v19, v20, v21] := by rw [hdP, hR, hw]
  have hE2 := hdE _ _ _ hR
  rw [hP] at hE2
  rw [reqOf_eq] at hP hE2
  rw [bad_eq] at hE2
  have hbad : e19 = if (!(n32 (zV v10) && n32 (zV v11) && n32 (zV v14) && n32 (zV v19))) = true then 9 else 0 := by
    rw [← bad_e, ← r19, ← r14, ← r11, ← r10]
  have t64 := s74 (IntKind.wrap .i64 (u : Int)) 64 d0 d1
  have t128 := s74 (IntKind.wrap .i64 (u : Int)) 128 d0 d1
  have t1024 := s74 (IntKind.wrap .i64 (u : Int)) 1024 d0 d1
  have ex := kd_ex d0 d1
  cases h64 : hasB (IntKind.wrap .i64 (u : Int)) 64 with
  | true =>
    obtain ⟨h128, h1024⟩ := ex h64
    rw [h64] at t64; rw [h128] at t128; rw [h1024] at t1024
    rw [oS, h128, if_neg (by decide)] at g17
    injection g17 with gv gr
    injection gr with gb gf
    subst gv gb gf
    rw [oS, h1024, if_neg (by decide)] at g20
    injection g20 with gv gr
    injection gr with gb gf
    subst gv gb gf
    rw [oS, h64, if_pos rfl] at g16
    have hC := RC_1 b15 f15 16 l15 (by decide)
    have hn : (step 0 (qC 16) b15 f15).1 ≤ 16 := qC_le (m := 16)
    have lC : (step 0 (qC 16) b15 f15).2.1.length ≤ 1000000 := Nat.le_trans step_len l15
    have gL : (It.ls (rdL (step 0 (qC 16) b15 f15).1 (step 0 (qC 16) b15 f15).2.1 (step 0 (qC 16) b15 f15).2.2).1, (rdL (step 0 (qC 16) b15 f15).1 (step 0 (qC 16) b15 f15).2.1 (step 0 (qC 16) b15 f15).2.2).2) = (v16, b16, f16) := g16
    clear g16
    generalize step 0 (qC 16) b15 f15 = z at hC hn lC gL
    obtain ⟨n, bC, fC⟩ := z
    dsimp only at hC hn lC gL
    have ha := a45n (h := ⟨IntKind.wrap .i64 (u : Int), zV v1, tV v2, zV v3, zV v4, zV v5, zV v6, zV v7, zV v8, zV v9, dn (zV v10), dn (zV v11), zV v12, zV v13, dn (zV v14), 0, 0, false, .nil, 0, [], tV v15, []⟩) (e := e14) t64 hn bC fC lC
    have hlen := rdL_length n bC fC
    injection gL with gv gr
    generalize rdL n bC fC = w at ha hlen gv gr
    obtain ⟨legs, bL, fL⟩ := w
    dsimp only at ha hlen gv gr
    injection gr with gb gf
    subst gv gb gf
    by_cases n0 : n = 0
    · have hnil : legs = [] := List.length_eq_zero_iff.1 (by omega)
      subst hnil
      rw [if_pos n0] at ha
      have h40 := s40 ⟨IntKind.wrap .i64 (u : Int), zV v1, tV v2, zV v3, zV v4, zV v5, zV v6, zV v7, zV v8, zV v9, dn (zV v10), dn (zV v11), zV v12, IntKind.wrap .i64 (zV v13 + zV v18), IntKind.wrap .i32 (dn (zV v14) + dn (zV v19)), 0, 0, false, .nil, 0, [], tV v15, tV v21⟩ rfl (Nat.zero_le _)
      exact fin s hbad hE2 (congrArg Req.av hP) (fun a => cs_of (f45n_1 s _ _ _ _ _ _ _ _ _ _ _ _ _ _ _ _ _ [] _ _ [] _ _ _ _ _ _ _ _ _ _ _ _ _ _ _ _ _ _ _ _ _ 0 _ _ 0 _ _ _ _ _ _ _ _ _ _ _ _ _ _ _ _ _ _ _ _ _ _ _ _ _ _ hV' c0 ku q1 q2 q3 q4 q5 q6 q7 q8 q9 q10 q11 q12 q13 q14 q15 t64 hC ha t128 q18 q19 t1024 q21 hE h40 a)) (fun a b c => cs_of (f45n_2 s _ _ _ _ _ _ _ _ _ _ _ _ _ _ _ _ _ [] _ _ [] _ _ _ _ _ _ _ _ _ _ _ _ _ _ _ _ _ _ _ _ _ 0 _ _ 0 _ _ _ _ _ _ _ _ _ _ _ _ _ _ _ _ _ _ _ _ _ _ _ _ _ _ hV' c0 ku q1 q2 q3 q4 q5 q6 q7 q8 q9 q10 q11 q12 q13 q14 q15 t64 hC ha t128 q18 q19 t1024 q21 hE h40 a b c)) (fun a b c d => cs_of (f45n_3 s _ _ _ _ _ _ _ _ _ _ _ _ _ _ _ _ _ [] _ _ [] _ _ _ _ _ _ _ _ _ _ _ _ _ _ _ _ _ _ _ _ _ 0 _ _ 0 _ _ _ _ _ _ _ _ _ _ _ _ _ _ _ _ _ _ _ _ _ _ _ _ _ _ hV' c0 ku q1 q2 q3 q4 q5 q6 q7 q8 q9 q10 q11 q12 q13 q14 q15 t64 hC ha t128 q18 q19 t1024 q21 hE h40 a b c d)) (fun a b c d => cs_of (f45n_4 s _ _ _ _ _ _ _ _ _ _ _ _ _ _ _ _ _ [] _ _ [] _ _ _ _ _ _ _ _ _ _ _ _ _ _ _ _ _ _ _ _ _ 0 _ _ 0 _ _ _ _ _ _ _ _ _ _ _ _ _ _ _ _ _ _ _ _ _ _ _ _ _ _ hV' c0 ku q1 q2 q3 q4 q5 q6 q7 q8 q9 q10 q11 q12 q13 q14 q15 t64 hC ha t128 q18 q19 t1024 q21 hE h40 a b c d)) (fun a b c => cs_of (f45n_5 s _ _ _ _ _ _ _ _ _ _ _ _ _ _ _ _ _ [] _ _ [] _ _ _ _ _ _ _ _ _ _ _ _ _ _ _ _ _ _ _ _ _ 0 _ _ 0 _ _ _ _ _ _ _ _ _ _ _ _ _ _ _ _ _ _ _ _ _ _ _ _ _ _ hV' c0 ku q1 q2 q3 q4 q5 q6 q7 q8 q9 q10 q11 q12 q13 q14 q15 t64 hC ha t128 q18 q19 t1024 q21 hE h40 a b c))
    · have hne : legs ≠ [] := by intro h; rw [h] at hlen; exact n0 hlen.symm
      rw [if_neg n0] at ha
      have e1 : (if lV (It.ls legs) = [] then SO.nil else SO.shut) = SO.shut := if_neg hne
      have e2 : (if lV (It.ls legs) = [] then 0 else 3) = 3 := if_neg hne
      rw [e1, e2] at hP hE2
      have h40 := s40 ⟨IntKind.wrap .i64 (u : Int), zV v1, tV v2, zV v3, zV v4, zV v5, zV v6, zV v7, zV v8, zV v9, dn (zV v10), dn (zV v11), zV v12, IntKind.wrap .i64 (zV v13 + zV v18), IntKind.wrap .i32 (dn (zV v14) + dn (zV v19)), 0, 0, false, .shut, 3, legs, tV v15, tV v21⟩ rfl (by show legs.length ≤ _; omega)
      exact fin s hbad hE2 (congrArg Req.av hP) (fun a => cs_of (f45o_1 s _ _ _ _ _ _ _ _ _ _ _ _ _ _ _ _ _ [] _ _ [] _ _ _ _ _ _ _ _ _ _ _ _ _ _ _ _ _ _ _ _ _ 0 _ _ 0 _ _ _ _ _ _ _ _ _ _ _ _ _ _ _ _ _ _ _ _ _ _ _ _ _ _ _ hV' c0 ku q1 q2 q3 q4 q5 q6 q7 q8 q9 q10 q11 q12 q13 q14 q15 t64 hC ha t128 q18 q19 t1024 q21 hE h40 a)) (fun a b c => cs_of (f45o_2 s _ _ _ _ _ _ _ _ _ _ _ _ _ _ _ _ _ [] _ _ [] _ _ _ _ _ _ _ _ _ _ _ _ _ _ _ _ _ _ _ _ _ 0 _ _ 0 _ _ _ _ _ _ _ _ _ _ _ _ _ _ _ _ _ _ _ _ _ _ _ _ _ _ _ hV' c0 ku q1 q2 q3 q4 q5 q6 q7 q8 q9 q10 q11 q12 q13 q14 q15 t64 hC ha t128 q18 q19 t1024 q21 hE h40 a b c)) (fun a b c d => cs_of (f45o_3 s _ _ _ _ _ _ _ _ _ _ _ _ _ _ _ _ _ [] _ _ [] _ _ _ _ _ _ _ _ _ _ _ _ _ _ _ _ _ _ _ _ _ 0 _ _ 0 _ _ _ _ _ _ _ _ _ _ _ _ _ _ _ _ _ _ _ _ _ _ _ _ _ _ _ hV' c0 ku q1 q2 q3 q4 q5 q6 q7 q8 q9 q10 q11 q12 q13 q14 q15 t64 hC ha t128 q18 q19 t1024 q21 hE h40 a b c d)) (fun a b c d => cs_of (f45o_4 s _ _ _ _ _ _ _ _ _ _ _ _ _ _ _ _ _ [] _ _ [] _ _ _ _ _ _ _ _ _ _ _ _ _ _ _ _ _ _ _ _ _ 0 _ _ 0 _ _ _ _ _ _ _ _ _ _ _ _ _ _ _ _ _ _ _ _ _ _ _ _ _ _ _ hV' c0 ku q1 q2 q3 q4 q5 q6 q7 q8 q9 q10 q11 q12 q13 q14 q15 t64 hC ha t128 q18 q19 t1024 q21 hE h40 a b c d)) (fun a b c => cs_of (f45o_5 s _ _ _ _ _ _ _ _ _ _ _ _ _ _ _ _ _ [] _ _ [] _ _ _ _ _ _ _ _ _ _ _ _ _ _ _ _ _ _ _ _ _ 0 _ _ 0 _ _ _ _ _ _ _ _ _ _ _ _ _ _ _ _ _ _ _ _ _ _ _ _ _ _ _ hV' c0 ku q1 q2 q3 q4 q5 q6 q7 q8 q9 q10 q11 q12 q13 q14 q15 t64 hC ha t128 q18 q19 t1024 q21 hE h40 a b c))
  | false =>
    rw [h64] at t64
    rw [oS, h64, if_neg (by decide)] at g16
    injection g16 with gv gr
    injection gr with gb gf
    subst gv gb gf
    cases h128 : hasB (IntKind.wrap .i64 (u : Int)) 128 with
    | true =>
      rw [h128] at t128
      rw [oS, h128, if_pos rfl] at g17
      have hM := RM_1 b15 f15 l15
      have gL : (It.m (step (0, 0) qM b15 f15).1.1 (step (0, 0) qM b15 f15).1.2, (step (0, 0) qM b15 f15).2) = (v17, b17, f17) := g17
      clear g17
      generalize step (0, 0) qM b15 f15 = z at hM gL
      obtain ⟨⟨mc, mm⟩, bM, fM⟩ := z
      injection gL with gv gr
      injection gr with gb gf
      subst gv gb gf
      cases h1024 : hasB (IntKind.wrap .i64 (u : Int)) 1024 with
      | true =>
        rw [h1024] at t1024
        rw [oS, h1024, if_pos rfl] at g20
        have hB := RB_1 b19 f19
        have gL : (It.b (step false qB b19 f19).1, (step false qB b19 f19).2) = (v20, b20, f20) := g20
        clear g20
        generalize step false qB b19 f19 = z at hB gL
        obtain ⟨bx, bM, fM⟩ := z
        injection gL with gv gr
        injection gr with gb gf
        subst gv gb gf
        have h40 := s40 ⟨IntKind.wrap .i64 (u : Int), zV v1, tV v2, zV v3, zV v4, zV v5, zV v6, zV v7, zV v8, zV v9, dn (zV v10), dn (zV v11), zV v12, IntKind.wrap .i64 (zV v13 + zV v18), IntKind.wrap .i32 (dn (zV v14) + dn (zV v19)), mc, mm, bx, .nil, 0, [], tV v15, tV v21⟩ rfl (Nat.zero_le _)
        exact fin s hbad hE2 (congrArg Req.av hP) (fun a => cs_of (f45c_1 s _ _ _ _ _ _ _ _ _ _ _ _ _ _ _ _ [] _ _ _ _ _ _ _ _ _ _ _ _ _ _ _ _ _ _ _ _ _ _ _ _ 0 _ _ _ _ _ _ _ _ _ _ _ _ _ _ _ _ _ _ _ _ _ _ _ _ _ _ _ _ _ _ hV' c0 ku q1 q2 q3 q4 q5 q6 q7 q8 q9 q10 q11 q12 q13 q14 q15 t64 t128 hM q18 q19 t1024 hB q21 hE h40 a)) (fun a b c => cs_of (f45c_2 s _ _ _ _ _ _ _ _ _ _ _ _ _ _ _ _ [] _ _ _ _ _ _ _ _ _ _ _ _ _ _ _ _ _ _ _ _ _ _ _ _ 0 _ _ _ _ _ _ _ _ _ _ _ _ _ _ _ _ _ _ _ _ _ _ _ _ _ _ _ _ _ _ hV' c0 ku q1 q2 q3 q4 q5 q6 q7 q8 q9 q10 q11 q12 q13 q14 q15 t64 t128 hM q18 q19 t1024 hB q21 hE h40 a b c)) (fun a b c d => cs_of (f45c_3 s _ _ _ _ _ _ _ _ _ _ _ _ _ _ _ _ [] _ _ _ _ _ _ _ _ _ _ _ _ _ _ _ _ _ _ _ _ _ _ _ _ 0 _ _ _ _ _ _ _ _ _ _ _ _ _ _ _ _ _ _ _ _ _ _ _ _ _ _ _ _ _ _ hV' c0 ku q1 q2 q3 q4 q5 q6 q7 q8 q9 q10 q11 q12 q13 q14 q15 t64 t128 hM q18 q19 t1024 hB q21 hE h40 a b c d)) (fun a b c d => cs_of (f45c_4 s _ _ _ _ _ _ _ _ _ _ _ _ _ _ _ _ [] _ _ _ _ _ _ _ _ _ _ _ _ _ _ _ _ _ _ _ _ _ _ _ _ 0 _ _ _ _ _ _ _ _ _ _ _ _ _ _ _ _ _ _ _ _ _ _ _ _ _ _ _ _ _ _ hV' c0 ku q1 q2 q3 q4 q5 q6 q7 q8 q9 q10 q11 q12 q13 q14 q15 t64 t128 hM q18 q19 t1024 hB q21 hE h40 a b c d)) (fun a b c => cs_of (f45c_5 s _ _ _ _ _ _ _ _ _ _ _ _ _ _ _ _ [] _ _ _ _ _ _ _ _ _ _ _ _ _ _ _ _ _ _ _ _ _ _ _ _ 0 _ _ _ _ _ _ _ _ _ _ _ _ _ _ _ _ _ _ _ _ _ _ _ _ _ _ _ _ _ _ hV' c0 ku q1 q2 q3 q4 q5 q6 q7 q8 q9 q10 q11 q12 q13 q14 q15 t64 t128 hM q18 q19 t1024 hB q21 hE h40 a b c))
      | false =>
        rw [h1024] at t1024
        rw [oS, h1024, if_neg (by decide)] at g20
        injection g20 with gv gr
        injection gr with gb gf
        subst gv gb gf
        have h40 := s40 ⟨IntKind.wrap .i64 (u : Int), zV v1, tV v2, zV v3, zV v4, zV v5, zV v6, zV v7, zV v8, zV v9, dn (zV v10), dn (zV v11), zV v12, IntKind.wrap .i64 (zV v13 + zV v18), IntKind.wrap .i32 (dn (zV v14) + dn (zV v19)), mc, mm, false, .nil, 0, [], tV v15, tV v21⟩ rfl (Nat.zero_le _)
        exact fin s hbad hE2 (congrArg Req.av hP) (fun a => cs_of (f45m_1 s _ _ _ _ _ _ _ _ _ _ _ _ _ _ _ _ [] _ _ _ [] _ _ _ _ _ _ _ _ _ _ _ _ _ _ _ _ _ _ _ _ 0 _ _ _ 0 _ _ _ _ _ _ _ _ _ _ _ _ _ _ _ _ _ _ _ _ _ _ _ _ _ hV' c0 ku q1 q2 q3 q4 q5 q6 q7 q8 q9 q10 q11 q12 q13 q14 q15 t64 t128 hM q18 q19 t1024 q21 hE h40 a)) (fun a b c => cs_of (f45m_2 s _ _ _ _ _ _ _ _ _ _ _ _ _ _ _ _ [] _ _ _ [] _ _ _ _ _ _ _ _ _ _ _ _ _ _ _ _ _ _ _ _ 0 _ _ _ 0 _ _ _ _ _ _ _ _ _ _ _ _ _ _ _ _ _ _ _ _ _ _ _ _ _ hV' c0 ku q1 q2 q3 q4 q5 q6 q7 q8 q9 q10 q11 q12 q13 q14 q15 t64 t128 hM q18 q19 t1024 q21 hE h40 a b c)) (fun a b c d => cs_of (f45m_3 s _ _ _ _ _ _ _ _ _ _ _ _ _ _ _ _ [] _ _ _ [] _ _ _ _ _ _ _ _ _ _ _ _ _ _ _ _ _ _ _ _ 0 _ _ _ 0 _ _ _ _ _ _ _ _ _ _ _ _ _ _ _ _ _ _ _ _ _ _ _ _ _ hV' c0 ku q1 q2 q3 q4 q5 q6 q7 q8 q9 q10 q11 q12 q13 q14 q15 t64 t128 hM q18 q19 t1024 q21 hE h40 a b c d)) (fun a b c d => cs_of (f45m_4 s _ _ _ _ _ _ _ _ _ _ _ _ _ _ _ _ [] _ _ _ [] _ _ _ _ _ _ _ _ _ _ _ _ _ _ _ _ _ _ _ _ 0 _ _ _ 0 _ _ _ _ _ _ _ _ _ _ _ _ _ _ _ _ _ _ _ _ _ _ _ _ _ hV' c0 ku q1 q2 q3 q4 q5 q6 q7 q8 q9 q10 q11 q12 q13 q14 q15 t64 t128 hM q18 q19 t1024 q21 hE h40 a b c d)) (fun a b c => cs_of (f45m_5 s _ _ _ _ _ _ _ _ _ _ _ _ _ _ _ _ [] _ _ _ [] _ _ _ _ _ _ _ _ _ _ _ _ _ _ _ _ _ _ _ _ 0 _ _ _ 0 _ _ _ _ _ _ _ _ _ _ _ _ _ _ _ _ _ _ _ _ _ _ _ _ _ hV' c0 ku q1 q2 q3 q4 q5 q6 q7 q8 q9 q10 q11 q12 q13 q14 q15 t64 t128 hM q18 q19 t1024 q21 hE h40 a b c))
    | false =>
      rw [h128] at t128
      rw [oS, h128, if_neg (by decide)] at g17
      injection g17 with gv gr
      injection gr with gb gf
      subst gv gb gf
      cases h1024 : hasB (IntKind.wrap .i64 (u : Int)) 1024 with
      | true =>
        rw [h1024] at t1024
        rw [oS, h1024, if_pos rfl] at g20
        have hB := RB_1 b19 f19
        have gL : (It.b (step false qB b19 f19).1, (step false qB b19 f19).2) = (v20, b20, f20) := g20
        clear g20
        generalize step false qB b19 f19 = z at hB gL
        obtain ⟨bx, bM, fM⟩ := z
        injection gL with gv gr
        injection gr with gb gf
        subst gv gb gf
        have h40 := s40 ⟨IntKind.wrap .i64 (u : Int), zV v1, tV v2, zV v3, zV v4, zV v5, zV v6, zV v7, zV v8, zV v9, dn (zV v10), dn (zV v11), zV v12, IntKind.wrap .i64 (zV v13 + zV v18), IntKind.wrap .i32 (dn (zV v14) + dn (zV v19)), 0, 0, bx, .nil, 0, [], tV v15, tV v21⟩ rfl (Nat.zero_le _)
        exact fin s hbad hE2 (congrArg Req.av hP) (fun a => cs_of (f45b_1 s _ _ _ _ _ _ _ _ _ _ _ _ _ _ _ _ [] [] _ _ _ _ _ _ _ _ _ _ _ _ _ _ _ _ _ _ _ _ _ _ _ 0 0 _ _ _ _ _ _ _ _ _ _ _ _ _ _ _ _ _ _ _ _ _ _ _ _ _ _ _ hV' c0 ku q1 q2 q3 q4 q5 q6 q7 q8 q9 q10 q11 q12 q13 q14 q15 t64 t128 q18 q19 t1024 hB q21 hE h40 a)) (fun a b c => cs_of (f45b_2 s _ _ _ _ _ _ _ _ _ _ _ _ _ _ _ _ [] [] _ _ _ _ _ _ _ _ _ _ _ _ _ _ _ _ _ _ _ _ _ _ _ 0 0 _ _ _ _ _ _ _ _ _ _ _ _ _ _ _ _ _ _ _ _ _ _ _ _ _ _ _ hV' c0 ku q1 q2 q3 q4 q5 q6 q7 q8 q9 q10 q11 q12 q13 q14 q15 t64 t128 q18 q19 t1024 hB q21 hE h40 a b c)) (fun a b c d => cs_of (f45b_3 s _ _ _ _ _ _ _ _ _ _ _ _ _ _ _ _ [] [] _ _ _ _ _ _ _ _ _ _ _ _ _ _ _ _ _ _ _ _ _ _ _ 0 0 _ _ _ _ _ _ _ _ _ _ _ _ _ _ _ _ _ _ _ _ _ _ _ _ _ _ _ hV' c0 ku q1 q2 q3 q4 q5 q6 q7 q8 q9 q10 q11 q12 q13 q14 q15 t64 t128 q18 q19 t1024 hB q21 hE h40 a b c d)) (fun a b c d => cs_of (f45b_4 s _ _ _ _ _ _ _ _ _ _ _ _ _ _ _ _ [] [] _ _ _ _ _ _ _ _ _ _ _ _ _ _ _ _ _ _ _ _ _ _ _ 0 0 _ _ _ _ _ _ _ _ _ _ _ _ _ _ _ _ _ _ _ _ _ _ _ _ _ _ _ hV' c0 ku q1 q2 q3 q4 q5 q6 q7 q8 q9 q10 q11 q12 q13 q14 q15 t64 t128 q18 q19 t1024 hB q21 hE h40 a b c d)) (fun a b c => cs_of (f45b_5 s _ _ _ _ _ _ _ _ _ _ _ _ _ _ _ _ [] [] _ _ _ _ _ _ _ _ _ _ _ _ _ _ _ _ _ _ _ _ _ _ _ 0 0 _ _ _ _ _ _ _ _ _ _ _ _ _ _ _ _ _ _ _ _ _ _ _ _ _ _ _ hV' c0 ku q1 q2 q3 q4 q5 q6 q7 q8 q9 q10 q11 q12 q13 q14 q15 t64 t128 q18 q19 t1024 hB q21 hE h40 a b c))
      | false =>
        rw [h1024] at t1024
        rw [oS, h1024, if_neg (by decide)] at g20
        injection g20 with gv gr
        injection gr with gb gf
        subst gv gb gf
        have h40 := s40 ⟨IntKind.wrap .i64 (u : Int), zV v1, tV v2, zV v3, zV v4, zV v5, zV v6, zV v7, zV v8, zV v9, dn (zV v10), dn (zV v11), zV v12, IntKind.wrap .i64 (zV v13 + zV v18), IntKind.wrap .i32 (dn (zV v14) + dn (zV v19)), 0, 0, false, .nil, 0, [], tV v15, tV v21⟩ rfl (Nat.zero_le _)
        exact fin s hbad hE2 (congrArg Req.av hP) (fun a => cs_of (f45z_1 s _ _ _ _ _ _ _ _ _ _ _ _ _ _ _ _ [] [] _ _ [] _ _ _ _ _ _ _ _ _ _ _ _ _ _ _ _ _ _ _ _ 0 0 _ _ 0 _ _ _ _ _ _ _ _ _ _ _ _ _ _ _ _ _ _ _ _ _ _ _ hV' c0 ku q1 q2 q3 q4 q5 q6 q7 q8 q9 q10 q11 q12 q13 q14 q15 t64 t128 q18 q19 t1024 q21 hE h40 a)) (fun a b c => cs_of (f45z_2 s _ _ _ _ _ _ _ _ _ _ _ _ _ _ _ _ [] [] _ _ [] _ _ _ _ _ _ _ _ _ _ _ _ _ _ _ _ _ _ _ _ 0 0 _ _ 0 _ _ _ _ _ _ _ _ _ _ _ _ _ _ _ _ _ _ _ _ _ _ _ hV' c0 ku q1 q2 q3 q4 q5 q6 q7 q8 q9 q10 q11 q12 q13 q14 q15 t64 t128 q18 q19 t1024 q21 hE h40 a b c)) (fun a b c d => cs_of (f45z_3 s _ _ _ _ _ _ _ _ _ _ _ _ _ _ _ _ [] [] _ _ [] _ _ _ _ _ _ _ _ _ _ _ _ _ _ _ _ _ _ _ _ 0 0 _ _ 0 _ _ _ _ _ _ _ _ _ _ _ _ _ _ _ _ _ _ _ _ _ _ _ hV' c0 ku q1 q2 q3 q4 q5 q6 q7 q8 q9 q10 q11 q12 q13 q14 q15 t64 t128 q18 q19 t1024 q21 hE h40 a b c d)) (fun a b c d => cs_of (f45z_4 s _ _ _ _ _ _ _ _ _ _ _ _ _ _ _ _ [] [] _ _ [] _ _ _ _ _ _ _ _ _ _ _ _ _ _ _ _ _ _ _ _ 0 0 _ _ 0 _ _ _ _ _ _ _ _ _ _ _ _ _ _ _ _ _ _ _ _ _ _ _ hV' c0 ku q1 q2 q3 q4 q5 q6 q7 q8 q9 q10 q11 q12 q13 q14 q15 t64 t128 q18 q19 t1024 q21 hE h40 a b c d)) (fun a b c => cs_of (f45z_5 s _ _ _ _ _ _ _ _ _ _ _ _ _ _ _ _ [] [] _ _ [] _ _ _ _ _ _ _ _ _ _ _ _ _ _ _ _ _ _ _ _ 0 0 _ _ 0 _ _ _ _ _ _ _ _ _ _ _ _ _ _ _ _ _ _ _ _ _ _ _ hV' c0 ku q1 q2 q3 q4 q5 q6 q7 q8 q9 q10 q11 q12 q13 q14 q15 t64 t128 q18 q19 t1024 q21 hE h40 a b c))
end Go.Sx.Tryd
