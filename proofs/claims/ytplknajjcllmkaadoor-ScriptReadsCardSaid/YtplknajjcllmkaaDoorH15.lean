/- A request is read: its parts. -/
import Derived.Test.YtplknajjcllmkaaDoorH9
namespace Go.Sx.Tryd
open Go Go.Sx
theorem RZS (b : List UInt8) (f : Int) (hb : b.length ≤ 1000000) : cc (ev X E0) 124 [AV.c (.ptr 0 0)] [Box.cells [.pv (.str b), .pv (.int .i64 f)]] =
    some (AV.c (CV.pv (.int .i64 (sgn (step 0 qV b f).1))), [Box.cells [.pv (.str (step 0 qV b f).2.1), .pv (.int .i64 (step 0 qV b f).2.2)]]) := RZ_1 b f hb (by omega) (by have := step_v_lt b f; omega)
abbrev Z21 : List CV := [.pv (.int .i64 0), .pv (.int .i64 0), .pv (.str []), .pv (.int .i64 0), .pv (.int .i64 0), .pv (.int .i64 0), .pv (.int .i64 0), .pv (.int .i64 0), .pv (.int .i64 0), .pv (.int .i64 0), .pv (.int .i32 0), .pv (.int .i32 0), .pv (.int .i64 0), .pv (.int .i64 0), .pv (.int .i32 0), .pv (.int .i64 0), .pv (.int .i64 0), .pv (.bool false), .pv (.sl SO.nil 0 []), .pv (.str []), .pv (.str [])]
abbrev rdg (d e : Int) (b : List UInt8) (f : Int) : List Box := [Box.cells [CV.ptr 1 0, .pv (.int .i64 d), .pv (.int .i64 e)], Box.cells [.pv (.str b), .pv (.int .i64 f)]]
theorem f90_1 (d e k : Int) (b : List UInt8) (f : Int) (t : Bool) (h : cc (ev X E0) 74 [AV.i d, AV.i k] [] = some (AV.b t, [])) (g1 : t = false) :
    cc (ev X E0) 90 [AV.c (.ptr 0 0), AV.c (vi k)] [.cells [.ptr 1 0, vi d, vi e], .cells [.pv (.str b), vi f]] = some (AV.c (vi 0), [.cells [.ptr 1 0, vi d, vi e], .cells [.pv (.str b), vi f]]) :=
  cc_path (x := xf90) rfl [.call (AV.c (.pv (.bool t))) [], .br true]
    (c := rq [ty h, (1, (!t) = true)]) (by kernel_rfl)
    (aq ⟨h, (not_t g1), trivial⟩)
theorem f90_2 (d e k : Int) (b : List UInt8) (f : Int) (t : Bool) (h : cc (ev X E0) 74 [AV.i d, AV.i k] [] = some (AV.b t, [])) (g1 : t = true) (g2 : List.length b ≤ 1000000) :
    cc (ev X E0) 90 [AV.c (.ptr 0 0), AV.c (vi k)] [.cells [.ptr 1 0, vi d, vi e], .cells [.pv (.str b), vi f]] = some (AV.c (vi (sgn (Prod.fst (step 0 qV b f)))), [.cells [.ptr 1 0, vi d, vi e], .cells [.pv (.str (Prod.fst (Prod.snd (step 0 qV b f)))), vi (Prod.snd (Prod.snd (step 0 qV b f)))]]) :=
  cc_path (x := xf90) rfl [.call (AV.c (.pv (.bool t))) [], .br false, .call (AV.c (vi (sgn (Prod.fst (step 0 qV b f))))) [.cells [.pv (.str (Prod.fst (Prod.snd (step 0 qV b f)))), vi (Prod.snd (Prod.snd (step 0 qV b f)))]]]
    (c := rq [ty h, (1, (!t) = false), (1, cc (ev X E0) 124 [AV.c (.ptr 0 0)] [.cells [.pv (.str b), vi f]] = some (AV.c (vi (sgn (Prod.fst (step 0 qV b f)))), [.cells [.pv (.str (Prod.fst (Prod.snd (step 0 qV b f)))), vi (Prod.snd (Prod.snd (step 0 qV b f)))]]))]) (by kernel_rfl)
    (aq ⟨h, (not_f g1), (RZS _ _ g2), trivial⟩)
theorem f91_1 (d e k m : Int) (b : List UInt8) (f : Int) (t : Bool) (h : cc (ev X E0) 74 [AV.i d, AV.i k] [] = some (AV.b t, [])) (g1 : t = false) :
    cc (ev X E0) 91 [AV.c (.ptr 0 0), AV.c (vi k), AV.c (vi m)] [.cells [.ptr 1 0, vi d, vi e], .cells [.pv (.str b), vi f]] = some (AV.c (.pv (.str [])), [.cells [.ptr 1 0, vi d, vi e], .cells [.pv (.str b), vi f]]) :=
  cc_path (x := xf91) rfl [.call (AV.c (.pv (.bool t))) [], .br true]
    (c := rq [ty h, (1, (!t) = true)]) (by kernel_rfl)
    (aq ⟨h, (not_t g1), trivial⟩)
theorem f91_2 (d e k m : Int) (b : List UInt8) (f : Int) (t : Bool) (h : cc (ev X E0) 74 [AV.i d, AV.i k] [] = some (AV.b t, [])) (g1 : t = true) (g2 : List.length b ≤ 1000000) (g3 : m ≤ 9223372036854775807) :
    cc (ev X E0) 91 [AV.c (.ptr 0 0), AV.c (vi k), AV.c (vi m)] [.cells [.ptr 1 0, vi d, vi e], .cells [.pv (.str b), vi f]] = some (AV.c (.pv (.str (Prod.fst (step [] (qT m) b f)))), [.cells [.ptr 1 0, vi d, vi e], .cells [.pv (.str (Prod.fst (Prod.snd (step [] (qT m) b f)))), vi (Prod.snd (Prod.snd (step [] (qT m) b f)))]]) :=
  cc_path (x := xf91) rfl [.call (AV.c (.pv (.bool t))) [], .br false, .call (AV.c (.pv (.str (Prod.fst (step [] (qT m) b f))))) [.cells [.pv (.str (Prod.fst (Prod.snd (step [] (qT m) b f)))), vi (Prod.snd (Prod.snd (step [] (qT m) b f)))]]]
    (c := rq [ty h, (1, (!t) = false), (1, cc (ev X E0) 97 [AV.c (.ptr 0 0), AV.c (vi m)] [.cells [.pv (.str b), vi f]] = some (AV.c (.pv (.str (Prod.fst (step [] (qT m) b f)))), [.cells [.pv (.str (Prod.fst (Prod.snd (step [] (qT m) b f)))), vi (Prod.snd (Prod.snd (step [] (qT m) b f)))]]))]) (by kernel_rfl)
    (aq ⟨h, (not_f g1), (RT_1 _ _ _ g2 g3), trivial⟩)
theorem s80_1 (n : Int) : cc (ev X E0) 80 [AV.c (CV.pv (PV.sl .full 1 [PV.int .i64 n]))] [] = some (.b (n32 n), []) := by
  have := s80 [n] .full (by simp)
  simpa using this
theorem f92_1 (d e k : Int) (b b1 : List UInt8) (f f1 n : Int) (h : cc (ev X E0) 90 [AV.c (.ptr 0 0), AV.i k] (rdg d e b f) = some (AV.i n, rdg d e b1 f1)) (g1 : n32 n = false) :
    cc (ev X E0) 92 [AV.c (.ptr 0 0), AV.c (vi k)] [.cells [.ptr 1 0, vi d, vi e], .cells [.pv (.str b), vi f]] = some (AV.c (vw 0), [.cells [.ptr 1 0, vi d, vi 9], .cells [.pv (.str b1), vi f1]]) :=
  cc_path (x := xf92) rfl [.call (AV.c (vi n)) [.cells [.ptr 1 0, vi d, vi e], .cells [.pv (.str b1), vi f1]], .call (AV.c (.pv (.bool (n32 n)))) [], .br true]
    (c := rq [ty h, (1, cc (ev X E0) 80 [AV.c (.pv (.sl SO.full 1 [PV.int .i64 n]))] [] = some (AV.c (.pv (.bool (n32 n))), [])), (1, (!n32 n) = true)]) (by kernel_rfl)
    (aq ⟨h, (s80_1 _), (not_t g1), trivial⟩)
theorem f92_2 (d e k : Int) (b b1 : List UInt8) (f f1 n : Int) (h : cc (ev X E0) 90 [AV.c (.ptr 0 0), AV.i k] (rdg d e b f) = some (AV.i n, rdg d e b1 f1)) (g1 : n32 n = true) :
    cc (ev X E0) 92 [AV.c (.ptr 0 0), AV.c (vi k)] [.cells [.ptr 1 0, vi d, vi e], .cells [.pv (.str b), vi f]] = some (AV.c (vw (IntKind.wrap .i32 n)), [.cells [.ptr 1 0, vi d, vi e], .cells [.pv (.str b1), vi f1]]) :=
  cc_path (x := xf92) rfl [.call (AV.c (vi n)) [.cells [.ptr 1 0, vi d, vi e], .cells [.pv (.str b1), vi f1]], .call (AV.c (.pv (.bool (n32 n)))) [], .br false]
    (c := rq [ty h, (1, cc (ev X E0) 80 [AV.c (.pv (.sl SO.full 1 [PV.int .i64 n]))] [] = some (AV.c (.pv (.bool (n32 n))), [])), (1, (!n32 n) = false)]) (by kernel_rfl)
    (aq ⟨h, (s80_1 _), (not_f g1), trivial⟩)
def oS (d k : Int) (s : Sh) (b : List UInt8) (f : Int) : It × List UInt8 × Int := if hasB d k then rdS s b f else (zer s, b, f)
def zV : It → Int
  | .z n => n
  | _ => 0
def tV : It → List UInt8
  | .t s => s
  | _ => []
theorem s90t (d e k : Int) (b : List UInt8) (f : Int) (h : cc (ev X E0) 74 [AV.i d, AV.i k] [] = some (.b true, [])) (hb : b.length ≤ 1000000) :
    cc (ev X E0) 90 [AV.c (.ptr 0 0), AV.i k] (rdg d e b f) = some (AV.i (sgn (step 0 qV b f).1), rdg d e (step 0 qV b f).2.1 (step 0 qV b f).2.2) := f90_2 d e k b f true h rfl hb
theorem s90 (d e k : Int) (b : List UInt8) (f : Int) (h0 : 0 ≤ d) (h1 : d ≤ 10) (hb : b.length ≤ 1000000) :
    cc (ev X E0) 90 [AV.c (.ptr 0 0), AV.i k] (rdg d e b f) = some (AV.i (zV (oS d k .z b f).1), rdg d e (oS d k .z b f).2.1 (oS d k .z b f).2.2) := by
  have h := s74 d k h0 h1
  unfold oS
  cases hk : hasB d k with
  | false => rw [hk] at h; exact f90_1 d e k b f false h rfl
  | true => rw [hk] at h; exact f90_2 d e k b f true h rfl hb
theorem s91 (d e k : Int) (m : Nat) (b : List UInt8) (f : Int) (h0 : 0 ≤ d) (h1 : d ≤ 10) (hb : b.length ≤ 1000000) (hm : (m : Int) ≤ 9223372036854775807) :
    cc (ev X E0) 91 [AV.c (.ptr 0 0), AV.i k, AV.i (m : Int)] (rdg d e b f) = some (AV.s (tV (oS d k (.t m) b f).1), rdg d e (oS d k (.t m) b f).2.1 (oS d k (.t m) b f).2.2) := by
  have h := s74 d k h0 h1
  unfold oS
  cases hk : hasB d k with
  | false => rw [hk] at h; exact f91_1 d e k m b f false h rfl
  | true => rw [hk] at h; exact f91_2 d e k m b f true h rfl hb hm
theorem s92 (d e k : Int) (b : List UInt8) (f : Int) (h0 : 0 ≤ d) (h1 : d ≤ 10) (hb : b.length ≤ 1000000) :
    cc (ev X E0) 92 [AV.c (.ptr 0 0), AV.i k] (rdg d e b f) = some (AV.int .i32 (dn (zV (oS d k .z b f).1)), rdg d (if n32 (zV (oS d k .z b f).1) then e else 9) (oS d k .z b f).2.1 (oS d k .z b f).2.2) := by
  have h := s90 d e k b f h0 h1 hb
  unfold dn
  cases c : n32 (zV (oS d k .z b f).1) with
  | false => exact f92_1 d e k b _ f _ _ h c
  | true =>
    have e1 := f92_2 d e k b _ f _ _ h c
    have := n32_iff.1 c
    rw [wi32 (by omega) (by omega)] at e1
    exact e1
theorem step_len {α : Type} {z : α} {q : List UInt8 → Got α} {b : List UInt8} {f : Int} : (step z q b f).2.1.length ≤ b.length := by
  unfold step
  split
  · exact Nat.le_refl _
  · split
    · exact Nat.le_refl _
    · rw [List.length_drop]; omega
theorem rdL_len2 : ∀ (k : Nat) (b : List UInt8) (f : Int), (rdL k b f).2.1.length ≤ b.length
  | 0, b, f => Nat.le_refl _
  | k + 1, b, f => by
    rw [rdL]
    exact Nat.le_trans (rdL_len2 k _ _) (Nat.le_trans step_len step_len)
theorem rdS_len2 (s : Sh) (b : List UInt8) (f : Int) : (rdS s b f).2.1.length ≤ b.length := by
  cases s with
  | z => exact step_len
  | t k => exact step_len
  | m => exact step_len
  | b => exact step_len
  | ls => exact Nat.le_trans (rdL_len2 _ _ _) step_len
theorem oS_len (d k : Int) (s : Sh) (b : List UInt8) (f : Int) : (oS d k s b f).2.1.length ≤ b.length := by
  unfold oS
  split
  · exact rdS_len2 s b f
  · exact Nat.le_refl _
theorem rdO_cons (d k : Int) (s : Sh) (r : List (Int × Sh)) (b : List UInt8) (f : Int) : rdO d ((k, s) :: r) b f = ((oS d k s b f).1 :: (rdO d r (oS d k s b f).2.1 (oS d k s b f).2.2).1, (rdO d r (oS d k s b f).2.1 (oS d k s b f).2.2).2) := by
  rw [rdO, oS]
  split <;> rfl
theorem sEnd (b : List UInt8) (f : Int) : cc (ev X E0) 96 [AV.c (.ptr 0 0)] [Box.cells [.pv (.str b), .pv (.int .i64 f)]] = some (AV.i (endE b f), [Box.cells [.pv (.str b), .pv (.int .i64 f)]]) := by
  unfold endE
  by_cases h : f = 0
  · rw [if_pos h]
    by_cases h2 : b = []
    · subst h2; rw [if_pos rfl]; exact REnd_3 [] f h (by simp)
    · rw [if_neg h2]; exact REnd_2 b f h (by have := List.length_pos_iff.2 h2; omega)
  · rw [if_neg h]; exact REnd_1 b f h
end Go.Sx.Tryd
/- A request is read: the paths. -/
namespace Go.Sx.Tryd
open Go Go.Sx
abbrev rd2 (b : List UInt8) (f : Int) : List Box := [Box.cells [.pv (.str b), .pv (.int .i64 f)]]
theorem f45x_1 (s b0 : List UInt8) (f0 u : Int) (hV : cc (ev X E0) 88 [AV.c (.ptr 0 0)] (rd2 s 0) = some (AV.int IntKind.u64 u, rd2 b0 f0)) (g1 : ¬f0 = 0) :
    cc (ev X E0) 45 [AV.c (.pv (.str s))] [] = some (AV.tup [AV.agg (Z21), AV.c (vi f0)], []) :=
  cc_path (x := xf45) rfl [.call (AV.c (.ptr 0 0)) [.cells [.pv (.str s), vi 0]], .call (AV.c (.pv (.int .u64 u))) [.cells [.pv (.str b0), vi f0]], .call (AV.c (vi f0)) [.cells [.pv (.str b0), vi f0]], .br true, .call (AV.c (vi f0)) [.cells [.pv (.str b0), vi f0]]]
    (c := rq [(1, cc (ev X E0) 87 [AV.c (.pv (.str s))] [] = some (AV.c (.ptr 0 0), [.cells [.pv (.str s), vi 0]])), ty hV, (1, cc (ev X E0) 89 [AV.c (.ptr 0 0)] [.cells [.pv (.str b0), vi f0]] = some (AV.c (vi f0), [.cells [.pv (.str b0), vi f0]])), (1, (f0 != 0) = true), (1, cc (ev X E0) 89 [AV.c (.ptr 0 0)] [.cells [.pv (.str b0), vi f0]] = some (AV.c (vi f0), [.cells [.pv (.str b0), vi f0]]))]) (by kernel_rfl)
    (aq ⟨(NR_1 _), hV, (RFault_1 _ _), (bne_iff_ne.mpr g1), (RFault_1 _ _), trivial⟩)
theorem f45x_2 (s b0 : List UInt8) (f0 u : Int) (hV : cc (ev X E0) 88 [AV.c (.ptr 0 0)] (rd2 s 0) = some (AV.int IntKind.u64 u, rd2 b0 f0)) (g1 : f0 = 0) (g2 : u ≥ 11) :
    cc (ev X E0) 45 [AV.c (.pv (.str s))] [] = some (AV.tup [AV.agg (Z21), AV.c (vi 3)], []) :=
  cc_path (x := xf45) rfl [.call (AV.c (.ptr 0 0)) [.cells [.pv (.str s), vi 0]], .call (AV.c (.pv (.int .u64 u))) [.cells [.pv (.str b0), vi f0]], .call (AV.c (vi f0)) [.cells [.pv (.str b0), vi f0]], .br false, .br true]
    (c := rq [(1, cc (ev X E0) 87 [AV.c (.pv (.str s))] [] = some (AV.c (.ptr 0 0), [.cells [.pv (.str s), vi 0]])), ty hV, (1, cc (ev X E0) 89 [AV.c (.ptr 0 0)] [.cells [.pv (.str b0), vi f0]] = some (AV.c (vi f0), [.cells [.pv (.str b0), vi f0]])), (1, (f0 != 0) = false), (1, decide (u ≥ 11) = true)]) (by kernel_rfl)
    (aq ⟨(NR_1 _), hV, (RFault_1 _ _), (bne_f g1), (dT g2), trivial⟩)
abbrev csX (h : Req) (x : CV) : List CV := [CV.pv (PV.int .i64 h.kd), CV.pv (PV.int .i64 h.cid), CV.pv (PV.str h.cname), CV.pv (PV.int .i64 h.ckind), CV.pv (PV.int .i64 h.racc), CV.pv (PV.int .i64 h.rkind), CV.pv (PV.int .i64 h.rcur), CV.pv (PV.int .i64 h.rcust), CV.pv (PV.int .i64 h.rprod), CV.pv (PV.int .i64 h.rpart), CV.pv (PV.int .i32 h.rfrom), CV.pv (PV.int .i32 h.rto), CV.pv (PV.int .i64 h.acc), CV.pv (PV.int .i64 h.id), CV.pv (PV.int .i32 h.day), CV.pv (PV.int .i64 h.cur), CV.pv (PV.int .i64 h.minor), CV.pv (PV.bool h.last), x, CV.pv (PV.str h.memo), CV.pv (PV.str h.text)]
abbrev B45 (d e : Int) (b : List UInt8) (f : Int) (x : List CV) : List Box := [Box.cells Z21, Box.cells [.pv (.str b), .pv (.int .i64 f)], Box.cells [CV.ptr 1 0, .pv (.int .i64 d), .pv (.int .i64 e)], Box.cells x]
abbrev S45 (d e : Int) (b : List UInt8) (f : Int) (x : List CV) (n i : Int) : St := St.mk (tmOf 205 [(2, AV.c (CV.ptr 0 0)), (4, AV.c (CV.ptr 2 0)), (6, AV.c (CV.ptr 3 0)), (121, AV.c (CV.pv (PV.int .i64 n))), (122, AV.c (CV.pv (PV.int .i64 i)))]) (B45 d e b f x)
theorem l45n_1 (h : Req) (d e : Int) (b : List UInt8) (f n : Int) (k : Nat) (_t : cc (ev X E0) 74 [AV.i d, AV.i 64] [] = some (AV.b true, [])) (g1 : (↑k : Int) < n) (g2 : cc (ev X E0) 74 [AV.c (vi d), AV.c (vi 64)] [] = some (AV.c (.pv (.bool true)), [])) (g3 : List.length b ≤ 1000000) (g4 : List.length (Prod.fst (Prod.snd (step 0 qV b f))) ≤ 1000000) (g5 : (↑(0 + List.length [PV.agg [PV.int .i64 (sgn (Prod.fst (step 0 qV b f))), .int .i64 (Prod.fst (Prod.fst (step (0, 0) qM (Prod.fst (Prod.snd (step 0 qV b f))) (Prod.snd (Prod.snd (step 0 qV b f)))))), .int .i64 (Prod.snd (Prod.fst (step (0, 0) qM (Prod.fst (Prod.snd (step 0 qV b f))) (Prod.snd (Prod.snd (step 0 qV b f))))))]]) : Int) * 24 ≤ 140737488355328) :
    lv (cv (ev X E0) xf45_l0) (rl [2, 1, 1, 114, 0]) 4 (S45 d e b f (csX h (.pv (.sl SO.nil 0 []))) n (↑k : Int)) = lv (cv (ev X E0) xf45_l0) (rl [2, 1, 1, 114, 0]) 4 (St.mk (tmOf 205 [(2, AV.c (.ptr 0 0)), (4, AV.c (.ptr 2 0)), (6, AV.c (.ptr 3 0)), (121, AV.c (vi n)), (122, AV.c (vi (IntKind.wrap .i64 ((↑k : Int) + 1))))]) [.cells (Z21), .cells [.pv (.str (Prod.fst (Prod.snd (step (0, 0) qM (Prod.fst (Prod.snd (step 0 qV b f))) (Prod.snd (Prod.snd (step 0 qV b f))))))), vi (Prod.snd (Prod.snd (step (0, 0) qM (Prod.fst (Prod.snd (step 0 qV b f))) (Prod.snd (Prod.snd (step 0 qV b f))))))], .cells [.ptr 1 0, vi d, vi e], .cells [vi (Req.kd h), vi (Req.cid h), .pv (.str (Req.cname h)), vi (Req.ckind h), vi (Req.racc h), vi (Req.rkind h), vi (Req.rcur h), vi (Req.rcust h), vi (Req.rprod h), vi (Req.rpart h), vw (Req.rfrom h), vw (Req.rto h), vi (Req.acc h), vi (Req.id h), vw (Req.day h), vi (Req.cur h), vi (Req.minor h), .pv (.bool (Req.last h)), .own 8767 3 [PV.agg [PV.int .i64 (sgn (Prod.fst (step 0 qV b f))), .int .i64 (Prod.fst (Prod.fst (step (0, 0) qM (Prod.fst (Prod.snd (step 0 qV b f))) (Prod.snd (Prod.snd (step 0 qV b f)))))), .int .i64 (Prod.snd (Prod.fst (step (0, 0) qM (Prod.fst (Prod.snd (step 0 qV b f))) (Prod.snd (Prod.snd (step 0 qV b f))))))]], .pv (.str (Req.memo h)), .pv (.str (Req.text h))]]) :=
  lv_next [.br true, .call (AV.c (vi (sgn (Prod.fst (step 0 qV b f))))) [.cells [.ptr 1 0, vi d, vi e], .cells [.pv (.str (Prod.fst (Prod.snd (step 0 qV b f)))), vi (Prod.snd (Prod.snd (step 0 qV b f)))]], .call (AV.agg [vi (Prod.fst (Prod.fst (step (0, 0) qM (Prod.fst (Prod.snd (step 0 qV b f))) (Prod.snd (Prod.snd (step 0 qV b f)))))), vi (Prod.snd (Prod.fst (step (0, 0) qM (Prod.fst (Prod.snd (step 0 qV b f))) (Prod.snd (Prod.snd (step 0 qV b f))))))]) [.cells [.pv (.str (Prod.fst (Prod.snd (step (0, 0) qM (Prod.fst (Prod.snd (step 0 qV b f))) (Prod.snd (Prod.snd (step 0 qV b f))))))), vi (Prod.snd (Prod.snd (step (0, 0) qM (Prod.fst (Prod.snd (step 0 qV b f))) (Prod.snd (Prod.snd (step 0 qV b f))))))]], .emp false]
    (c := rq [(1, decide ((↑k : Int) < n) = true), (1, cc (ev X E0) 90 [AV.c (.ptr 0 0), AV.c (vi 64)] [.cells [.ptr 1 0, vi d, vi e], .cells [.pv (.str b), vi f]] = some (AV.c (vi (sgn (Prod.fst (step 0 qV b f)))), [.cells [.ptr 1 0, vi d, vi e], .cells [.pv (.str (Prod.fst (Prod.snd (step 0 qV b f)))), vi (Prod.snd (Prod.snd (step 0 qV b f)))]])), (1, cc (ev X E0) 94 [AV.c (.ptr 0 0)] [.cells [.pv (.str (Prod.fst (Prod.snd (step 0 qV b f)))), vi (Prod.snd (Prod.snd (step 0 qV b f)))]] = some (AV.agg [vi (Prod.fst (Prod.fst (step (0, 0) qM (Prod.fst (Prod.snd (step 0 qV b f))) (Prod.snd (Prod.snd (step 0 qV b f)))))), vi (Prod.snd (Prod.fst (step (0, 0) qM (Prod.fst (Prod.snd (step 0 qV b f))) (Prod.snd (Prod.snd (step 0 qV b f))))))], [.cells [.pv (.str (Prod.fst (Prod.snd (step (0, 0) qM (Prod.fst (Prod.snd (step 0 qV b f))) (Prod.snd (Prod.snd (step 0 qV b f))))))), vi (Prod.snd (Prod.snd (step (0, 0) qM (Prod.fst (Prod.snd (step 0 qV b f))) (Prod.snd (Prod.snd (step 0 qV b f))))))]])), (1, [PV.agg [PV.int .i64 (sgn (Prod.fst (step 0 qV b f))), .int .i64 (Prod.fst (Prod.fst (step (0, 0) qM (Prod.fst (Prod.snd (step 0 qV b f))) (Prod.snd (Prod.snd (step 0 qV b f)))))), .int .i64 (Prod.snd (Prod.fst (step (0, 0) qM (Prod.fst (Prod.snd (step 0 qV b f))) (Prod.snd (Prod.snd (step 0 qV b f))))))]] ≠ []), ty g5]) (by kernel_rfl)
    (aq ⟨(dT g1), (s90t _ _ _ _ _ g2 g3), (RM_1 _ _ g4), (List.cons_ne_nil _ _), g5, trivial⟩)
theorem l45n_2 (h : Req) (d e : Int) (b : List UInt8) (f n : Int) (k : Nat) (_t : cc (ev X E0) 74 [AV.i d, AV.i 64] [] = some (AV.b true, [])) (g1 : ¬(↑k : Int) < n) :
    lv (cv (ev X E0) xf45_l0) (rl [2, 1, 1, 114, 0]) 4 (S45 d e b f (csX h (.pv (.sl SO.nil 0 []))) n (↑k : Int)) = some (XExit.exit 1, St.mk (tmOf 205 [(2, AV.c (.ptr 0 0)), (4, AV.c (.ptr 2 0)), (6, AV.c (.ptr 3 0))]) [.cells (Z21), .cells [.pv (.str b), vi f], .cells [.ptr 1 0, vi d, vi e], .cells [vi (Req.kd h), vi (Req.cid h), .pv (.str (Req.cname h)), vi (Req.ckind h), vi (Req.racc h), vi (Req.rkind h), vi (Req.rcur h), vi (Req.rcust h), vi (Req.rprod h), vi (Req.rpart h), vw (Req.rfrom h), vw (Req.rto h), vi (Req.acc h), vi (Req.id h), vw (Req.day h), vi (Req.cur h), vi (Req.minor h), .pv (.bool (Req.last h)), .pv (.sl SO.nil 0 []), .pv (.str (Req.memo h)), .pv (.str (Req.text h))]]) :=
  lv_exit [.br false]
    (c := [decide ((↑k : Int) < n) = false]) (by kernel_rfl)
    ⟨(dF g1), trivial⟩
theorem l45_1 (h : Req) (d e : Int) (b : List UInt8) (f n : Int) (l : List Leg) (k : Nat) (_t : cc (ev X E0) 74 [AV.i d, AV.i 64] [] = some (AV.b true, [])) (g1 : (↑k : Int) < n) (g2 : cc (ev X E0) 74 [AV.c (vi d), AV.c (vi 64)] [] = some (AV.c (.pv (.bool true)), [])) (g3 : List.length b ≤ 1000000) (g4 : List.length (Prod.fst (Prod.snd (step 0 qV b f))) ≤ 1000000) (g5 : (↑(List.length (List.map Leg.pv l) + List.length [PV.agg [PV.int .i64 (sgn (Prod.fst (step 0 qV b f))), .int .i64 (Prod.fst (Prod.fst (step (0, 0) qM (Prod.fst (Prod.snd (step 0 qV b f))) (Prod.snd (Prod.snd (step 0 qV b f)))))), .int .i64 (Prod.snd (Prod.fst (step (0, 0) qM (Prod.fst (Prod.snd (step 0 qV b f))) (Prod.snd (Prod.snd (step 0 qV b f))))))]]) : Int) * 24 ≤ 140737488355328) :
    lv (cv (ev X E0) xf45_l0) (rl [2, 1, 1, 114, 0]) 4 (S45 d e b f (csX h (.own 8767 3 (List.map Leg.pv l))) n (↑k : Int)) = lv (cv (ev X E0) xf45_l0) (rl [2, 1, 1, 114, 0]) 4 (St.mk (tmOf 205 [(2, AV.c (.ptr 0 0)), (4, AV.c (.ptr 2 0)), (6, AV.c (.ptr 3 0)), (121, AV.c (vi n)), (122, AV.c (vi (IntKind.wrap .i64 ((↑k : Int) + 1))))]) [.cells (Z21), .cells [.pv (.str (Prod.fst (Prod.snd (step (0, 0) qM (Prod.fst (Prod.snd (step 0 qV b f))) (Prod.snd (Prod.snd (step 0 qV b f))))))), vi (Prod.snd (Prod.snd (step (0, 0) qM (Prod.fst (Prod.snd (step 0 qV b f))) (Prod.snd (Prod.snd (step 0 qV b f))))))], .cells [.ptr 1 0, vi d, vi e], .cells [vi (Req.kd h), vi (Req.cid h), .pv (.str (Req.cname h)), vi (Req.ckind h), vi (Req.racc h), vi (Req.rkind h), vi (Req.rcur h), vi (Req.rcust h), vi (Req.rprod h), vi (Req.rpart h), vw (Req.rfrom h), vw (Req.rto h), vi (Req.acc h), vi (Req.id h), vw (Req.day h), vi (Req.cur h), vi (Req.minor h), .pv (.bool (Req.last h)), .own 8767 3 (List.map Leg.pv l ++ [PV.agg [PV.int .i64 (sgn (Prod.fst (step 0 qV b f))), .int .i64 (Prod.fst (Prod.fst (step (0, 0) qM (Prod.fst (Prod.snd (step 0 qV b f))) (Prod.snd (Prod.snd (step 0 qV b f)))))), .int .i64 (Prod.snd (Prod.fst (step (0, 0) qM (Prod.fst (Prod.snd (step 0 qV b f))) (Prod.snd (Prod.snd (step 0 qV b f))))))]]), .pv (.str (Req.memo h)), .pv (.str (Req.text h))]]) :=
  lv_next [.br true, .call (AV.c (vi (sgn (Prod.fst (step 0 qV b f))))) [.cells [.ptr 1 0, vi d, vi e], .cells [.pv (.str (Prod.fst (Prod.snd (step 0 qV b f)))), vi (Prod.snd (Prod.snd (step 0 qV b f)))]], .call (AV.agg [vi (Prod.fst (Prod.fst (step (0, 0) qM (Prod.fst (Prod.snd (step 0 qV b f))) (Prod.snd (Prod.snd (step 0 qV b f)))))), vi (Prod.snd (Prod.fst (step (0, 0) qM (Prod.fst (Prod.snd (step 0 qV b f))) (Prod.snd (Prod.snd (step 0 qV b f))))))]) [.cells [.pv (.str (Prod.fst (Prod.snd (step (0, 0) qM (Prod.fst (Prod.snd (step 0 qV b f))) (Prod.snd (Prod.snd (step 0 qV b f))))))), vi (Prod.snd (Prod.snd (step (0, 0) qM (Prod.fst (Prod.snd (step 0 qV b f))) (Prod.snd (Prod.snd (step 0 qV b f))))))]]]
    (c := rq [(1, decide ((↑k : Int) < n) = true), (1, cc (ev X E0) 90 [AV.c (.ptr 0 0), AV.c (vi 64)] [.cells [.ptr 1 0, vi d, vi e], .cells [.pv (.str b), vi f]] = some (AV.c (vi (sgn (Prod.fst (step 0 qV b f)))), [.cells [.ptr 1 0, vi d, vi e], .cells [.pv (.str (Prod.fst (Prod.snd (step 0 qV b f)))), vi (Prod.snd (Prod.snd (step 0 qV b f)))]])), (1, cc (ev X E0) 94 [AV.c (.ptr 0 0)] [.cells [.pv (.str (Prod.fst (Prod.snd (step 0 qV b f)))), vi (Prod.snd (Prod.snd (step 0 qV b f)))]] = some (AV.agg [vi (Prod.fst (Prod.fst (step (0, 0) qM (Prod.fst (Prod.snd (step 0 qV b f))) (Prod.snd (Prod.snd (step 0 qV b f)))))), vi (Prod.snd (Prod.fst (step (0, 0) qM (Prod.fst (Prod.snd (step 0 qV b f))) (Prod.snd (Prod.snd (step 0 qV b f))))))], [.cells [.pv (.str (Prod.fst (Prod.snd (step (0, 0) qM (Prod.fst (Prod.snd (step 0 qV b f))) (Prod.snd (Prod.snd (step 0 qV b f))))))), vi (Prod.snd (Prod.snd (step (0, 0) qM (Prod.fst (Prod.snd (step 0 qV b f))) (Prod.snd (Prod.snd (step 0 qV b f))))))]])), ty g5]) (by kernel_rfl)
    (aq ⟨(dT g1), (s90t _ _ _ _ _ g2 g3), (RM_1 _ _ g4), g5, trivial⟩)
theorem l45_2 (h : Req) (d e : Int) (b : List UInt8) (f n : Int) (l : List Leg) (k : Nat) (_t : cc (ev X E0) 74 [AV.i d, AV.i 64] [] = some (AV.b true, [])) (g1 : ¬(↑k : Int) < n) :
    lv (cv (ev X E0) xf45_l0) (rl [2, 1, 1, 114, 0]) 4 (S45 d e b f (csX h (.own 8767 3 (List.map Leg.pv l))) n (↑k : Int)) = some (XExit.exit 1, St.mk (tmOf 205 [(2, AV.c (.ptr 0 0)), (4, AV.c (.ptr 2 0)), (6, AV.c (.ptr 3 0))]) [.cells (Z21), .cells [.pv (.str b), vi f], .cells [.ptr 1 0, vi d, vi e], .cells [vi (Req.kd h), vi (Req.cid h), .pv (.str (Req.cname h)), vi (Req.ckind h), vi (Req.racc h), vi (Req.rkind h), vi (Req.rcur h), vi (Req.rcust h), vi (Req.rprod h), vi (Req.rpart h), vw (Req.rfrom h), vw (Req.rto h), vi (Req.acc h), vi (Req.id h), vw (Req.day h), vi (Req.cur h), vi (Req.minor h), .pv (.bool (Req.last h)), .own 8767 3 (List.map Leg.pv l), .pv (.str (Req.memo h)), .pv (.str (Req.text h))]]) :=
  lv_exit [.br false]
    (c := [decide ((↑k : Int) < n) = false]) (by kernel_rfl)
    ⟨(dF g1), trivial⟩
end Go.Sx.Tryd
