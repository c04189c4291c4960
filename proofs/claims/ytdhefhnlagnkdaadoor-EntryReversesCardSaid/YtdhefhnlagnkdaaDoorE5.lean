/- The statement EntryReverses, of the evaluator. -/
import Derived.Test.YtdhefhnlagnkdaaDoorD2
import Derived.Test.YtdhefhnlagnkdaaDoorN1
import Derived.Test.YtdhefhnlagnkdaaDoorV0
import Derived.Test.YtdhefhnlagnkdaaDoorN1c
namespace Go.Sx.Tryd
open Go Go.Sx
theorem s48 (p : Post) (id kn : Int) (hm : p.memo.length ≤ 1000000) (hll : p.legs.length ≤ 1000000) : cs (ev X E0) 48 [Post.av p, AV.i id, AV.int .i32 kn] = some (.tup [if revE p id kn = 0 then Post.av (rvp p id kn) else AV.agg Z7, AV.i (revE p id kn)]) := by
  have h := s34 p hm (by omega)
  have h2 : chk p = 0 → cc (ev X E0) 34 [Post.av (rvp p id kn)] [] = some (.i (chk (rvp p id kn)), []) := fun _ => s34 (rvp p id kn) hm (by simp only [rvp, List.length_map]; omega)
  have hl := fun c : chk p = 0 => b48 (p := p) (id := id) (kn := kn) (fun e => by have := (chk_inv c).2.2.2.1; rw [e] at this; simp at this) (by have := (chk_inv c).2.2.2.2.1; omega) (chk_inv c).2.2.2.2.2.2.2.1
  by_cases c : chk p = 0
  · by_cases c1 : id ≤ p.id
    · have e : revE p id kn = 20 := by rw [revE, if_pos c, if_pos (Or.inl c1)]
      rw [e, if_neg (by decide)]
      exact cs_of (f48_2 p id kn _ _ h hl h2 c c1)
    · by_cases c2 : kn < p.known
      · have e : revE p id kn = 20 := by rw [revE, if_pos c, if_pos (Or.inr c2)]
        rw [e, if_neg (by decide)]
        exact cs_of (f48_3 p id kn _ _ h hl h2 c c1 c2)
      · have e : revE p id kn = chk (rvp p id kn) := by rw [revE, if_pos c, if_neg (by rintro (h | h) <;> omega)]
        by_cases c3 : chk (rvp p id kn) = 0
        · rw [e, if_pos c3, c3]
          exact cs_of (f48_5 p id kn _ _ h hl h2 c c1 c2 c3)
        · rw [e, if_neg c3]
          exact cs_of (f48_4 p id kn _ _ h hl h2 c c1 c2 c3)
  · have e : revE p id kn = chk p := by rw [revE, if_neg c]
    rw [e, if_neg c]
    exact cs_of (f48_1 p id kn _ _ h hl h2 c)
abbrev gA (i k v : Int) (o : SO) (z : Nat) (es : List PV) (r d : Int) (m : List UInt8) : AV := AV.agg [CV.pv (PV.int .i64 i), CV.pv (PV.int .i32 k), CV.pv (PV.int .i32 v), CV.pv (PV.sl o z es), CV.pv (PV.int .i64 r), CV.pv (PV.int .i64 d), CV.pv (PV.str m)]
abbrev ask2 (id kn : Int) : AV := AV.agg [.pv (.int .i64 id), .pv (.int .i32 kn)]
theorem f10x_1 (p : Post) (id : Int) (kn : Int) (s : List UInt8) (h1 : cc (ev X E0) 16 [Post.av p] [] = some (AV.b false, [])) (h3 : cc (ev X E0) (39 : Nat) [] [] = some (AV.b true, [])) :
    cc (ev X E0) 10 [AV.agg (Post.cs p), AV.agg [vi id, vw kn], AV.c (.pv (.str s))] [] = some (AV.c (.pv (.bool true)), []) :=
  cc_path (x := xf10) rfl [.call (AV.c (.pv (.bool false))) [], .br true, .br true, .br true, .br true, .br true, .call (AV.c (.pv (.bool true))) []]
    (c := [cc (ev X E0) 16 [AV.agg (Post.cs p)] [] = some (AV.c (.pv (.bool false)), []), true = true, true = true, true = true, true = true, true = true, cc (ev X E0) (39 : Nat) [] [] = some (AV.c (.pv (.bool true)), [])]) (by kernel_rfl)
    ⟨(h1), rfl, rfl, rfl, rfl, rfl, (h3), trivial⟩
theorem f10y_1 (p : Post) (id : Int) (kn : Int) (s : List UInt8) (h1 : cc (ev X E0) 16 [Post.av p] [] = some (AV.b true, [])) (h3 : cc (ev X E0) (39 : Nat) [] [] = some (AV.b true, [])) (hs : (↑(List.length s) : Int) > 400) :
    cc (ev X E0) 10 [AV.agg (Post.cs p), AV.agg [vi id, vw kn], AV.c (.pv (.str s))] [] = some (AV.c (.pv (.bool true)), []) :=
  cc_path (x := xf10) rfl [.call (AV.c (.pv (.bool true))) [], .br false, .br false, .br false, .br false, .br true, .call (AV.c (.pv (.bool true))) []]
    (c := [cc (ev X E0) 16 [AV.agg (Post.cs p)] [] = some (AV.c (.pv (.bool true)), []), false = false, false = false, false = false, false = false, decide ((↑(List.length s) : Int) > 400) = true, cc (ev X E0) (39 : Nat) [] [] = some (AV.c (.pv (.bool true)), [])]) (by kernel_rfl)
    ⟨(h1), rfl, rfl, rfl, rfl, (decide_eq_true hs), (h3), trivial⟩
theorem f10_2 (p : Post) (id : Int) (kn : Int) (s : List UInt8) (i : Int) (k : Int) (v : Int) (o : SO) (z : Nat) (es : List PV) (r : Int) (d : Int) (m : List UInt8) (i' : Int) (k' : Int) (v' : Int) (o' : SO) (z' : Nat) (es' : List PV) (r' : Int) (d' : Int) (m' : List UInt8) (e : Int) (g : Int) (h1 : cc (ev X E0) 16 [Post.av p] [] = some (AV.b true, [])) (h3 : cc (ev X E0) (39 : Nat) [] [] = some (AV.b true, [])) (h38 : cs (ev X E0) 38 [Post.av p, AV.i id, AV.int IntKind.i32 kn] = some (AV.tup [gA i k v o z es r d m, AV.i e])) (h48 : cs (ev X E0) 48 [Post.av p, AV.i id, AV.int IntKind.i32 kn] = some (AV.tup [gA i k v o z es r d m, AV.i e])) (h49 : cs (ev X E0) 49 [AV.s s] = some (AV.tup [gA i' k' v' o' z' es' r' d' m', AV.i g])) (h50 : cs (ev X E0) 50 [AV.s s] = some (AV.tup [gA i' k' v' o' z' es' r' d' m', AV.i g])) (h44 : cc (ev X E0) 44 [gA i k v o z es r d m, gA i k v o z es r d m] [] = some (AV.b true, [])) (h44b : cc (ev X E0) 44 [gA i' k' v' o' z' es' r' d' m', gA i' k' v' o' z' es' r' d' m'] [] = some (AV.b true, [])) (g1 : ¬(↑(List.length s) : Int) > 400) (g2 : e = e) :
    cc (ev X E0) 10 [AV.agg (Post.cs p), AV.agg [vi id, vw kn], AV.c (.pv (.str s))] [] = some (AV.c (.pv (.bool (g == g))), []) :=
  cc_path (x := xf10) rfl [.call (AV.c (.pv (.bool true))) [], .br false, .br false, .br false, .br false, .br false, .shut (AV.tup [AV.agg [vi i, vw k, vw v, .pv (.sl o z es), vi r, vi d, .pv (.str m)], AV.c (vi e)]), .shut (AV.tup [AV.agg [vi i, vw k, vw v, .pv (.sl o z es), vi r, vi d, .pv (.str m)], AV.c (vi e)]), .shut (AV.tup [AV.agg [vi i', vw k', vw v', .pv (.sl o' z' es'), vi r', vi d', .pv (.str m')], AV.c (vi g)]), .shut (AV.tup [AV.agg [vi i', vw k', vw v', .pv (.sl o' z' es'), vi r', vi d', .pv (.str m')], AV.c (vi g)]), .call (AV.c (.pv (.bool true))) [], .call (AV.c (.pv (.bool true))) [], .call (AV.c (.pv (.bool true))) [], .br true, .br true, .br true, .br true, .br true, .br true, .br true, .br true, .br true, .br true, .br true, .br true]
    (c := [cc (ev X E0) 16 [AV.agg (Post.cs p)] [] = some (AV.c (.pv (.bool true)), []), false = false, false = false, false = false, false = false, decide ((↑(List.length s) : Int) > 400) = false, cs (ev X E0) 38 [AV.agg (Post.cs p), AV.c (vi id), AV.c (vw kn)] = some (AV.tup [AV.agg [vi i, vw k, vw v, .pv (.sl o z es), vi r, vi d, .pv (.str m)], AV.c (vi e)]), cs (ev X E0) 48 [AV.agg (Post.cs p), AV.c (vi id), AV.c (vw kn)] = some (AV.tup [AV.agg [vi i, vw k, vw v, .pv (.sl o z es), vi r, vi d, .pv (.str m)], AV.c (vi e)]), cs (ev X E0) 49 [AV.c (.pv (.str s))] = some (AV.tup [AV.agg [vi i', vw k', vw v', .pv (.sl o' z' es'), vi r', vi d', .pv (.str m')], AV.c (vi g)]), cs (ev X E0) 50 [AV.c (.pv (.str s))] = some (AV.tup [AV.agg [vi i', vw k', vw v', .pv (.sl o' z' es'), vi r', vi d', .pv (.str m')], AV.c (vi g)]), cc (ev X E0) 44 [AV.agg [vi i, vw k, vw v, .pv (.sl o z es), vi r, vi d, .pv (.str m)], AV.agg [vi i, vw k, vw v, .pv (.sl o z es), vi r, vi d, .pv (.str m)]] [] = some (AV.c (.pv (.bool true)), []), cc (ev X E0) 44 [AV.agg [vi i', vw k', vw v', .pv (.sl o' z' es'), vi r', vi d', .pv (.str m')], AV.agg [vi i', vw k', vw v', .pv (.sl o' z' es'), vi r', vi d', .pv (.str m')]] [] = some (AV.c (.pv (.bool true)), []), cc (ev X E0) (39 : Nat) [] [] = some (AV.c (.pv (.bool true)), []), true = true, true = true, true = true, true = true, true = true, true = true, true = true, true = true, (e == e) = true, (e == e) = true, (e == e) = true, (e == e) = true]) (by kernel_rfl)
    ⟨(h1), rfl, rfl, rfl, rfl, (decide_eq_false g1), (h38), (h48), (h49), (h50), (h44), (h44b), (h3), rfl, rfl, rfl, rfl, rfl, rfl, rfl, rfl, (beq_iff_eq.mpr g2), (beq_iff_eq.mpr g2), (beq_iff_eq.mpr g2), (beq_iff_eq.mpr g2), trivial⟩
theorem s44z : cc (ev X E0) 44 [AV.agg Z7, AV.agg Z7] [] = some (.b true, []) := by
  have h : ev X E0 44 [AV.agg Z7, AV.agg Z7] [] = some (.b true, []) := ev_of (n := 60) (by kernel_rfl)
  show (ev X E0 44 [AV.agg Z7, AV.agg Z7] []).bind canon = _
  rw [h]; rfl
theorem same_refl (p : Post) : same p p = true := by
  have h0 : ∀ l : List Leg, ((l.zip l).any fun q => !legEq q.1 q.2) = false := fun l => (zip_any rfl).2 rfl
  have h : ∀ l : List Leg, legsEq l l = true := by
    intro l; simp [legsEq, h0]
  simp [same, h]
theorem rv_len {p : Post} {id kn : Int} : (rvp p id kn).legs.length = p.legs.length := by simp only [rvp, List.length_map]
theorem EntryReverses0 (p : Post) (id kn : Int) (s : List UInt8) (hw : p.so = .nil → p.legs = []) : cc (ev X E0) 10 [Post.av p, ask2 id kn, AV.s s] [] = some (.b true, []) := by
  have h1 := s16 p
  cases hf : fits p with
  | false => rw [hf] at h1; exact f10x_1 p id kn s h1 alive
  | true =>
    rw [hf] at h1
    have hb := fits_fair hf
    by_cases hs : ((s.length : Nat) : Int) > 400
    · exact f10y_1 p id kn s h1 alive hs
    · have h38 := cs_of (s38 p id kn ⟨by omega, by omega⟩ hw)
      have h48 := s48 p id kn (by omega) (by omega)
      have h49 := s49 s (by omega)
      have h50 := s50 s (by omega)
      have hm : (decP s).legs.length ≤ 1000000 := by
        show (d8 s).1.length ≤ _
        unfold d8; rw [rdLegs_len]; have := (dlen (s := s) (by omega)).n; omega
      have fin : ∀ g : Int, (g == g) = true := fun g => by simp
      by_cases c1 : revE p id kn = 0
      · rw [if_pos c1] at h38 h48
        have h44 := s44 (rvp p id kn) (rvp p id kn) (by rw [rv_len]; omega)
        rw [same_refl] at h44
        by_cases c2 : decE s = 0
        · rw [decA, if_pos c2] at h49 h50
          have h44b := s44 (decP s) (decP s) hm
          rw [same_refl] at h44b
          have := f10_2 p id kn s _ _ _ _ _ _ _ _ _ _ _ _ _ _ _ _ _ _ _ _ h1 alive h38 h48 h49 h50 h44 h44b hs rfl
          rw [fin] at this; exact this
        · rw [decA, if_neg c2] at h49 h50
          have := f10_2 p id kn s _ _ _ _ _ _ _ _ _ _ _ _ _ _ _ _ _ _ _ _ h1 alive h38 h48 h49 h50 h44 s44z hs rfl
          rw [fin] at this; exact this
      · rw [if_neg c1] at h38 h48
        by_cases c2 : decE s = 0
        · rw [decA, if_pos c2] at h49 h50
          have h44b := s44 (decP s) (decP s) hm
          rw [same_refl] at h44b
          have := f10_2 p id kn s _ _ _ _ _ _ _ _ _ _ _ _ _ _ _ _ _ _ _ _ h1 alive h38 h48 h49 h50 s44z h44b hs rfl
          rw [fin] at this; exact this
        · rw [decA, if_neg c2] at h49 h50
          have := f10_2 p id kn s _ _ _ _ _ _ _ _ _ _ _ _ _ _ _ _ _ _ _ _ h1 alive h38 h48 h49 h50 s44z s44z hs rfl
          rw [fin] at this; exact this
theorem EntryReverses (x0 : List PV) (t0 : All2 WT ctP x0) (x1 : List PV) (t1 : All2 WT [.int .i64, .int .i32] x1) (x2 : PV) (t2 : WT .str x2) : ev X E0 10 [.agg (x0.map .pv), .agg (x1.map .pv), .c (.pv x2)] [] = some (.b true, []) := by
  match x0, t0.1, x1, t1.1 with
  | [a, b, c, d, e, f, g], _, [u, v], _ =>
  obtain ⟨p, hp, hpe⟩ := cells7 t0.2
  obtain ⟨id, _, _, rfl⟩ := i64_inv (t1.2 0 _ u rfl rfl)
  obtain ⟨kn, _, _, rfl⟩ := i32_inv (t1.2 1 _ v rfl rfl)
  obtain ⟨s, rfl, _⟩ := str_inv t2
  rw [hpe]
  exact ev_cc (EntryReverses0 p id kn s hp.so)
end Go.Sx.Tryd
