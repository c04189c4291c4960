/- The statement EntryTells, of the evaluator. -/
import Derived.Test.YtdhefhnlagnkdaaDoorE3
import Derived.Test.YtdhefhnlagnkdaaDoorK4
import Derived.Test.YtdhefhnlagnkdaaDoorN1b
namespace Go.Sx.Tryd
open Go Go.Sx
abbrev legA (x : Leg) : AV := AV.agg [.pv (.int .i64 x.acc), .pv (.int .i64 x.cur), .pv (.int .i64 x.minor)]
theorem f9x_1 (p : Post) (q : Post) (x : Leg) (h1 : cc (ev X E0) 16 [Post.av p] [] = some (AV.b false, [])) (h3 : cc (ev X E0) (39 : Nat) [] [] = some (AV.b true, [])) :
    cc (ev X E0) 9 [AV.agg (Post.cs p), AV.agg (Post.cs q), AV.agg (Leg.cs x)] [] = some (AV.c (.pv (.bool true)), []) :=
  cc_path (x := xf9) rfl [.call (AV.c (.pv (.bool false))) [], .br true, .br true, .br true, .br true, .br true, .call (AV.c (.pv (.bool true))) []]
    (c := [cc (ev X E0) 16 [AV.agg (Post.cs p)] [] = some (AV.c (.pv (.bool false)), []), true = true, true = true, true = true, true = true, true = true, cc (ev X E0) (39 : Nat) [] [] = some (AV.c (.pv (.bool true)), [])]) (by kernel_rfl)
    ⟨(h1), rfl, rfl, rfl, rfl, rfl, (h3), trivial⟩
theorem f9y_1 (p : Post) (q : Post) (x : Leg) (h1 : cc (ev X E0) 16 [Post.av p] [] = some (AV.b true, [])) (h2 : cc (ev X E0) 16 [Post.av q] [] = some (AV.b false, [])) (h3 : cc (ev X E0) (39 : Nat) [] [] = some (AV.b true, [])) :
    cc (ev X E0) 9 [AV.agg (Post.cs p), AV.agg (Post.cs q), AV.agg (Leg.cs x)] [] = some (AV.c (.pv (.bool true)), []) :=
  cc_path (x := xf9) rfl [.call (AV.c (.pv (.bool true))) [], .br false, .br false, .call (AV.c (.pv (.bool false))) [], .br false, .br false, .br true, .call (AV.c (.pv (.bool true))) []]
    (c := [cc (ev X E0) 16 [AV.agg (Post.cs p)] [] = some (AV.c (.pv (.bool true)), []), false = false, false = false, cc (ev X E0) 16 [AV.agg (Post.cs q)] [] = some (AV.c (.pv (.bool false)), []), false = false, false = false, true = true, cc (ev X E0) (39 : Nat) [] [] = some (AV.c (.pv (.bool true)), [])]) (by kernel_rfl)
    ⟨(h1), rfl, rfl, (h2), rfl, rfl, rfl, (h3), trivial⟩
theorem f9z_2 (p : Post) (q : Post) (x : Leg) (e : Int) (b : Bool) (h1 : cc (ev X E0) 16 [Post.av p] [] = some (AV.b true, [])) (h2 : cc (ev X E0) 16 [Post.av q] [] = some (AV.b true, [])) (h3 : cc (ev X E0) (39 : Nat) [] [] = some (AV.b true, [])) (h37 : cc (ev X E0) 37 [Post.av p] [] = some (AV.i e, [])) (h34 : cc (ev X E0) 34 [Post.av p] [] = some (AV.i e, [])) (h40 : cc (ev X E0) 40 [Post.av p, AV.i x.acc, AV.i x.cur] [] = some (AV.tup [AV.i 0, AV.i e], [])) (h41 : cc (ev X E0) 41 [Post.av p, AV.i x.cur] [] = some (AV.tup [AV.i 0, AV.i e], [])) (h42 : cc (ev X E0) 42 [Post.av p] [] = some (AV.tup [AV.s [], AV.i e], [])) (h43 : cc (ev X E0) 43 [Post.av p, Post.av q] [] = some (AV.b b, [])) (h44 : cc (ev X E0) 44 [Post.av p, Post.av q] [] = some (AV.b b, [])) (he : ¬e = 0) (g1 : e = e) (g2 : (b == b) = true) :
    cc (ev X E0) 9 [AV.agg (Post.cs p), AV.agg (Post.cs q), AV.agg (Leg.cs x)] [] = some (AV.c (.pv (.bool true)), []) :=
  cc_path (x := xf9) rfl [.call (AV.c (.pv (.bool true))) [], .br false, .br false, .call (AV.c (.pv (.bool true))) [], .br false, .br false, .br false, .call (AV.c (vi e)) [], .call (AV.tup [AV.c (vi 0), AV.c (vi e)]) [], .call (AV.tup [AV.c (vi 0), AV.c (vi e)]) [], .call (AV.tup [AV.c (.pv (.str [])), AV.c (vi e)]) [], .call (AV.c (vi e)) [], .br false, .br false, .br false, .br false, .br false, .br false, .br false, .br false, .br false, .br false, .br false, .br false, .br false, .br false, .br false, .call (AV.c (.pv (.bool b))) [], .br false, .br false, .br false, .call (AV.c (.pv (.bool b))) [], .br false, .br false, .br false, .br true, .call (AV.c (.pv (.bool true))) [], .br true, .br true, .br true, .br true, .br true, .br true, .br true, .br true, .br true]
    (c := [cc (ev X E0) 16 [AV.agg (Post.cs p)] [] = some (AV.c (.pv (.bool true)), []), false = false, false = false, cc (ev X E0) 16 [AV.agg (Post.cs q)] [] = some (AV.c (.pv (.bool true)), []), false = false, false = false, false = false, cc (ev X E0) 37 [AV.agg (Post.cs p)] [] = some (AV.c (vi e), []), cc (ev X E0) 40 [AV.agg (Post.cs p), AV.c (vi x.acc), AV.c (vi x.cur)] [] = some (AV.tup [AV.c (vi 0), AV.c (vi e)], []), cc (ev X E0) 41 [AV.agg (Post.cs p), AV.c (vi x.cur)] [] = some (AV.tup [AV.c (vi 0), AV.c (vi e)], []), cc (ev X E0) 42 [AV.agg (Post.cs p)] [] = some (AV.tup [AV.c (.pv (.str [])), AV.c (vi e)], []), cc (ev X E0) 34 [AV.agg (Post.cs p)] [] = some (AV.c (vi e), []), (e != e) = false, (e != e) = false, (e != e) = false, (e != e) = false, (e != e) = false, (e != e) = false, (e != e) = false, (e != e) = false, (e != e) = false, (e != e) = false, (e != e) = false, (e != e) = false, (e != e) = false, (e != e) = false, (e != e) = false, cc (ev X E0) 43 [AV.agg (Post.cs p), AV.agg (Post.cs q)] [] = some (AV.c (.pv (.bool b)), []), (e != e) = false, (e != e) = false, (e != e) = false, cc (ev X E0) 44 [AV.agg (Post.cs p), AV.agg (Post.cs q)] [] = some (AV.c (.pv (.bool b)), []), (e != e) = false, (e != e) = false, (!b == b) = false, (e != 0) = true, cc (ev X E0) (39 : Nat) [] [] = some (AV.c (.pv (.bool true)), []), true = true, true = true, true = true, true = true, true = true, true = true, true = true, true = true, true = true]) (by kernel_rfl)
    ⟨(h1), rfl, rfl, (h2), rfl, rfl, rfl, (h37), (h40), (h41), (h42), (h34), (bne_f g1), (bne_f g1), (bne_f g1), (bne_f g1), (bne_f g1), (bne_f g1), (bne_f g1), (bne_f g1), (bne_f g1), (bne_f g1), (bne_f g1), (bne_f g1), (bne_f g1), (bne_f g1), (bne_f g1), (h43), (bne_f g1), (bne_f g1), (bne_f g1), (h44), (bne_f g1), (bne_f g1), (not_f g2), (bne_iff_ne.mpr he), (h3), rfl, rfl, rfl, rfl, rfl, rfl, rfl, rfl, rfl, trivial⟩
theorem f9w_2 (p : Post) (q : Post) (x : Leg) (b : Bool) (n : Int) (d : Int) (s : List UInt8) (h1 : cc (ev X E0) 16 [Post.av p] [] = some (AV.b true, [])) (h2 : cc (ev X E0) 16 [Post.av q] [] = some (AV.b true, [])) (h3 : cc (ev X E0) (39 : Nat) [] [] = some (AV.b true, [])) (h37 : cc (ev X E0) 37 [Post.av p] [] = some (AV.i 0, [])) (h34 : cc (ev X E0) 34 [Post.av p] [] = some (AV.i 0, [])) (h40 : cc (ev X E0) 40 [Post.av p, AV.i x.acc, AV.i x.cur] [] = some (AV.tup [AV.i n, AV.i 0], [])) (h41 : cc (ev X E0) 41 [Post.av p, AV.i x.cur] [] = some (AV.tup [AV.i d, AV.i 0], [])) (h42 : cc (ev X E0) 42 [Post.av p] [] = some (AV.tup [AV.s s, AV.i 0], [])) (h43 : cc (ev X E0) 43 [Post.av p, Post.av q] [] = some (AV.b b, [])) (h44 : cc (ev X E0) 44 [Post.av p, Post.av q] [] = some (AV.b b, [])) (h45 : cc (ev X E0) 45 [Post.av p, AV.i x.acc, AV.i x.cur] [] = some (AV.i n, [])) (h46 : cc (ev X E0) 46 [Post.av p, AV.i x.cur] [] = some (AV.i d, [])) (h47 : cc (ev X E0) 47 [Post.av p] [] = some (AV.s s, [])) (g1 : (b == b) = true) (g2 : n = n) (g3 : d = d) :
    cc (ev X E0) 9 [AV.agg (Post.cs p), AV.agg (Post.cs q), AV.agg (Leg.cs x)] [] = some (AV.c (.pv (.bool (s == s))), []) :=
  cc_path (x := xf9) rfl [.call (AV.c (.pv (.bool true))) [], .br false, .br false, .call (AV.c (.pv (.bool true))) [], .br false, .br false, .br false, .call (AV.c (vi (0 : Int))) [], .call (AV.tup [AV.c (vi n), AV.c (vi 0)]) [], .call (AV.tup [AV.c (vi d), AV.c (vi 0)]) [], .call (AV.tup [AV.c (.pv (.str s)), AV.c (vi 0)]) [], .call (AV.c (vi (0 : Int))) [], .br false, .br false, .br false, .br false, .br false, .br false, .br false, .br false, .br false, .br false, .br false, .br false, .br false, .br false, .br false, .call (AV.c (.pv (.bool b))) [], .br false, .br false, .br false, .call (AV.c (.pv (.bool b))) [], .br false, .br false, .br false, .br false, .call (AV.c (.pv (.bool true))) [], .br true, .br true, .br true, .br true, .br true, .br true, .br true, .br true, .call (AV.c (vi n)) [], .br true, .br true, .br true, .br true, .br true, .br true, .br true, .br true, .call (AV.c (vi d)) [], .br true, .br true, .br true, .br true, .br true, .call (AV.c (.pv (.str s))) [], .br true, .br true]
    (c := [cc (ev X E0) 16 [AV.agg (Post.cs p)] [] = some (AV.c (.pv (.bool true)), []), false = false, false = false, cc (ev X E0) 16 [AV.agg (Post.cs q)] [] = some (AV.c (.pv (.bool true)), []), false = false, false = false, false = false, cc (ev X E0) 37 [AV.agg (Post.cs p)] [] = some (AV.c (vi 0), []), cc (ev X E0) 40 [AV.agg (Post.cs p), AV.c (vi x.acc), AV.c (vi x.cur)] [] = some (AV.tup [AV.c (vi n), AV.c (vi 0)], []), cc (ev X E0) 41 [AV.agg (Post.cs p), AV.c (vi x.cur)] [] = some (AV.tup [AV.c (vi d), AV.c (vi 0)], []), cc (ev X E0) 42 [AV.agg (Post.cs p)] [] = some (AV.tup [AV.c (.pv (.str s)), AV.c (vi 0)], []), cc (ev X E0) 34 [AV.agg (Post.cs p)] [] = some (AV.c (vi 0), []), false = false, false = false, false = false, false = false, false = false, false = false, false = false, false = false, false = false, false = false, false = false, false = false, false = false, false = false, false = false, cc (ev X E0) 43 [AV.agg (Post.cs p), AV.agg (Post.cs q)] [] = some (AV.c (.pv (.bool b)), []), false = false, false = false, false = false, cc (ev X E0) 44 [AV.agg (Post.cs p), AV.agg (Post.cs q)] [] = some (AV.c (.pv (.bool b)), []), false = false, false = false, (!b == b) = false, false = false, cc (ev X E0) (39 : Nat) [] [] = some (AV.c (.pv (.bool true)), []), true = true, true = true, true = true, true = true, true = true, true = true, true = true, true = true, cc (ev X E0) 45 [AV.agg (Post.cs p), AV.c (vi x.acc), AV.c (vi x.cur)] [] = some (AV.c (vi n), []), true = true, true = true, (n == n) = true, (n == n) = true, (n == n) = true, (n == n) = true, (n == n) = true, (n == n) = true, cc (ev X E0) 46 [AV.agg (Post.cs p), AV.c (vi x.cur)] [] = some (AV.c (vi d), []), (n == n) = true, (n == n) = true, (d == d) = true, (d == d) = true, (d == d) = true, cc (ev X E0) 47 [AV.agg (Post.cs p)] [] = some (AV.c (.pv (.str s)), []), (d == d) = true, (d == d) = true]) (by kernel_rfl)
    ⟨(h1), rfl, rfl, (h2), rfl, rfl, rfl, (h37), (h40), (h41), (h42), (h34), rfl, rfl, rfl, rfl, rfl, rfl, rfl, rfl, rfl, rfl, rfl, rfl, rfl, rfl, rfl, (h43), rfl, rfl, rfl, (h44), rfl, rfl, (not_f g1), rfl, (h3), rfl, rfl, rfl, rfl, rfl, rfl, rfl, rfl, (h45), rfl, rfl, (beq_iff_eq.mpr g2), (beq_iff_eq.mpr g2), (beq_iff_eq.mpr g2), (beq_iff_eq.mpr g2), (beq_iff_eq.mpr g2), (beq_iff_eq.mpr g2), (h46), (beq_iff_eq.mpr g2), (beq_iff_eq.mpr g2), (beq_iff_eq.mpr g3), (beq_iff_eq.mpr g3), (beq_iff_eq.mpr g3), (h47), (beq_iff_eq.mpr g3), (beq_iff_eq.mpr g3), trivial⟩
theorem EntryTells0 (p q : Post) (x : Leg) : cc (ev X E0) 9 [Post.av p, Post.av q, legA x] [] = some (.b true, []) := by
  have h1 := s16 p
  have h2 := s16 q
  cases hf : fits p with
  | false => rw [hf] at h1; exact f9x_1 p q x h1 alive
  | true =>
    rw [hf] at h1
    cases hg : fits q with
    | false => rw [hg] at h2; exact f9y_1 p q x h1 h2 alive
    | true =>
      rw [hg] at h2
      have hb := fits_fair hf
      have h37 := s37 p (by omega) (by omega)
      have h34 := s34 p (by omega) (by omega)
      have h40 := s40 p x.acc x.cur (by omega) (by omega)
      have h41 := s41 p x.cur (by omega) (by omega)
      have h42 := s42 p (by omega) (by omega)
      have h43 := s43 p q (by omega)
      have h44 := s44 p q (by omega)
      by_cases c : chk p = 0
      · obtain ⟨_, _, _, _, _, _, _, hm, _, _⟩ := chk_inv c
        have h45 := s45 (p := p) (acc := x.acc) (cur := x.cur) (by omega) hm
        have h46 := s46 p x.cur c
        have h47 := s47 p c
        rw [c] at h37 h34 h40 h41 h42
        rw [show onV p x.acc x.cur = sumIf (onW x.acc x.cur) p.legs by rw [onV, if_pos c]] at h40
        rw [show encV p = enc p by rw [encV, if_pos c]] at h42
        have := f9w_2 p q x _ _ _ _ h1 h2 alive h37 h34 h40 h41 h42 h43 h44 h45 h46 h47 (by simp) rfl rfl
        rw [beq_self_eq_true] at this
        exact this
      · rw [show onV p x.acc x.cur = 0 by rw [onV, if_neg c]] at h40
        rw [show debV p x.cur = 0 by rw [debV, if_neg c]] at h41
        rw [show encV p = [] by rw [encV, if_neg c]] at h42
        exact f9z_2 p q x _ _ h1 h2 alive h37 h34 h40 h41 h42 h43 h44 c rfl (by simp)
theorem EntryTells (x0 : List PV) (t0 : All2 WT ctP x0) (x1 : List PV) (t1 : All2 WT ctP x1) (x2 : List PV) (t2 : All2 WT ctL x2) : ev X E0 9 [.agg (x0.map .pv), .agg (x1.map .pv), .agg (x2.map .pv)] [] = some (.b true, []) := by
  match x0, t0.1, x1, t1.1, x2, t2.1 with
  | [a, b, c, d, e, f, g], _, [a', b', c', d', e', f', g'], _, [u, v, w], _ =>
  obtain ⟨p, hp, hpe⟩ := cells7 t0.2
  obtain ⟨q, hq, hqe⟩ := cells7 t1.2
  obtain ⟨n, _, _, rfl⟩ := i64_inv (t2.2 0 _ u rfl rfl)
  obtain ⟨m, _, _, rfl⟩ := i64_inv (t2.2 1 _ v rfl rfl)
  obtain ⟨k, _, _, rfl⟩ := i64_inv (t2.2 2 _ w rfl rfl)
  rw [hpe, hqe]
  exact ev_cc (EntryTells0 p q ⟨n, m, k⟩)
end Go.Sx.Tryd
