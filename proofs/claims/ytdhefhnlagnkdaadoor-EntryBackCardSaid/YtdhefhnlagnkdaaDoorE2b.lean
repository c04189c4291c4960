/- The statement EntryBack, of the evaluator. -/
import Derived.Test.YtdhefhnlagnkdaaDoorE2
namespace Go.Sx.Tryd
open Go Go.Sx
theorem revE_inv {p : Post} {id kn : Int} (h : revE p id kn = 0) : chk p = 0 ∧ p.id < id ∧ p.known ≤ kn ∧ chk (rvp p id kn) = 0 := by
  unfold revE at h
  by_cases c : chk p = 0
  · rw [if_pos c] at h
    by_cases c2 : id ≤ p.id ∨ kn < p.known
    · rw [if_pos c2] at h; cases h
    · rw [if_neg c2] at h
      exact ⟨c, by omega, by omega, h⟩
  · rw [if_neg c] at h; exact absurd h c
theorem neg_neg (x : Leg) : neg (neg x) = x := by
  cases x; simp [neg]
theorem revE_next {r : Post} (hc : chk r = 0) (h : revE r (r.id + 1) r.known ≠ 0) : r.id = 1000000 := by
  obtain ⟨hh, hk, hv, _⟩ := chk_inv hc
  have hh' := hh
  simp only [headed, Bool.and_eq_true, decide_eq_true_eq] at hh
  obtain ⟨⟨h1, h2, h3, h4, h5, h6, h7⟩, h8⟩ := hh
  by_cases e : r.id = 1000000
  · exact e
  · refine absurd ?_ h
    unfold revE
    rw [if_pos hc, if_neg (by omega)]
    refine chk_neg hc ?_ hk hv rfl
    unfold headed rvp
    dsimp only
    simp only [Bool.and_eq_true, decide_eq_true_eq]
    exact ⟨by omega, h8⟩
theorem a12a {p : Post} {id kn : Int} (hm : p.memo.length ≤ 1000000) (hc : chk p = 0) (hcr : chk (rvp p id kn) = 0) :
    lv (cv (ev X E0) xf12_l0) (rl [2, 2, 1]) 3 (S12a p (rvp p id kn) id kn 0) = some (XExit.exit 0, St.mk (tmOf 196 [(2, AV.c (CV.ptr 0 0)), (5, AV.c (CV.ptr 2 0))]) [Box.cells (Post.cs p), Box.cells [CV.pv (PV.int .i64 id), CV.pv (PV.int .i32 kn)], Box.cells (Post.cs (rvp p id kn))]) := by
  obtain ⟨_, _, _, _, hl, _, hcur, hmin, _, hb⟩ := chk_inv hc
  refine lv_fold (l := p.legs) (fun (_ : Unit) _ => ()) () (fun i _ => S12a p (rvp p id kn) id kn i) (l12a_6 p _ id kn p.legs.length (by simp)) fun i y c hat hlt _ => ?_
  have hy := hcur y (List.mem_of_getElem? hat)
  have hrl : (rvp p id kn).legs.length ≤ 4000000000000000000 := by simp only [rvp, List.length_map]; omega
  have e1 : onV p y.acc y.cur + onV (rvp p id kn) y.acc y.cur = 0 := by
    rw [onV, if_pos hc, onV, if_pos hcr, show (rvp p id kn).legs = p.legs.map neg from rfl, onW_neg]; omega
  have e2 : debV (rvp p id kn) y.cur = debV p y.cur := by
    rw [debV, if_pos hcr, debV, if_pos hc, show (rvp p id kn).legs = p.legs.map neg from rfl, debs_neg]
    have h1 := debs_creds y.cur p.legs
    simp only [curOk, decide_eq_true_eq] at hy
    rw [bal_inv hb (by omega) (by omega)] at h1
    omega
  have st := l12a_5 p (rvp p id kn) id kn i y (lt_len hlt) hat hm (by omega) hm hrl hc hcr (by rw [e1]; rfl) e2
  rw [wi64 (n := (i : Int) + 1) (by omega) (by omega)] at st
  exact st
theorem a12b {p r t : Post} {id kn : Int} (hl : p.legs.length ≤ 100) (ht : t.legs = p.legs) :
    lv (cv (ev X E0) xf12_l1) (rl [2, 14, 1]) 4 (S12b p r t id kn 0) = some (XExit.exit 2, St.mk (tmOf 196 []) [Box.cells (Post.cs p), Box.cells [CV.pv (PV.int .i64 id), CV.pv (PV.int .i32 kn)], Box.cells (Post.cs r), Box.cells (Post.cs t)]) := by
  refine lv_fold (l := p.legs) (fun (_ : Unit) _ => ()) () (fun i _ => S12b p r t id kn i) (l12b_4 p r t id kn p.legs.length (by simp)) fun i y c hat hlt _ => ?_
  have st := l12b_3 p r t id kn i y y (lt_len hlt) (by rw [ht]) (by rw [ht]; exact hat) hat ⟨rfl, rfl, rfl, rfl⟩
  rw [wi64 (n := (i : Int) + 1) (by omega) (by omega)] at st
  exact st
theorem EntryBack0 (p : Post) (id kn : Int) (hw : p.so = .nil → p.legs = []) : cc (ev X E0) 12 [Post.av p, ask id kn] [] = some (.b true, []) := by
  have h16 := s16 p
  cases hf : fits p with
  | false =>
    rw [hf] at h16
    exact f12x_1 p id kn true h16 alive
  | true =>
    rw [hf] at h16
    have hb := fits_fair hf
    have h38 := s38 p id kn ⟨by omega, by omega⟩ hw
    by_cases he : revE p id kn = 0
    · rw [if_pos he, he] at h38
      obtain ⟨hc, hid, hkn, hcr⟩ := revE_inv he
      have h37 := s37 (rvp p id kn) (by show p.memo.length ≤ _; omega) (by simp only [rvp, List.length_map]; omega)
      rw [hcr] at h37
      have hl := a12a (p := p) (id := id) (kn := kn) (by omega) hc hcr
      have hrid : 1 ≤ id ∧ id ≤ 1000000 := by
        have := (chk_inv hcr).1
        unfold headed rvp at this
        dsimp only at this
        simp only [Bool.and_eq_true, decide_eq_true_eq] at this
        omega
      have hwr : IntKind.wrap .i64 ((rvp p id kn).id + 1) = (rvp p id kn).id + 1 := wi64 (by show -9223372036854775808 ≤ id + 1; omega) (by show id + 1 ≤ 9223372036854775807; omega)
      have h38r := s38 (rvp p id kn) ((rvp p id kn).id + 1) (rvp p id kn).known ⟨by show p.memo.length ≤ _; omega, by simp only [rvp, List.length_map]; omega⟩ (fun e => by cases e)
      have hlen : (((rvp p id kn).legs.map Leg.pv).length : Int) = ((p.legs.map Leg.pv).length : Int) := by simp [rvp]
      by_cases he2 : revE (rvp p id kn) ((rvp p id kn).id + 1) (rvp p id kn).known = 0
      · rw [if_pos he2, he2] at h38r
        have hl2 := a12b (p := p) (r := rvp p id kn) (t := rvp (rvp p id kn) ((rvp p id kn).id + 1) (rvp p id kn).known) (id := id) (kn := kn) (by omega) (by
          show (p.legs.map neg).map neg = p.legs
          rw [List.map_map, show (neg ∘ neg) = (fun x => x) from funext neg_neg, List.map_id'])
        exact f12w_6 p _ _ id kn 0 true h16 alive h38 h37 hl (by rw [hwr]; exact h38r) hl2 rfl (by show ¬ kn < p.known; omega) rfl rfl hlen
      · rw [if_neg he2] at h38r
        have hz := revE_next hcr he2
        have := f12z_6 p (rvp p id kn) id kn 0 _ true h16 alive h38 h37 hl (by rw [hwr]; exact h38r) he2 rfl (by show ¬ kn < p.known; omega) rfl rfl hlen rfl
        rw [hz] at this
        exact this
    · rw [if_neg he] at h38
      exact f12y_1 p id kn _ true h16 alive h38 he rfl
theorem EntryBack (x0 : List PV) (t0 : All2 WT ctP x0) (x1 : List PV) (t1 : All2 WT [.int .i64, .int .i32] x1) : ev X E0 12 [.agg (x0.map .pv), .agg (x1.map .pv)] [] = some (.b true, []) := by
  match x0, t0.1, x1, t1.1 with
  | [a, b, c, d, e, f, g], _, [u, v], _ =>
  obtain ⟨p, hp, hpe⟩ := cells7 t0.2
  obtain ⟨id, _, _, rfl⟩ := i64_inv (t1.2 0 _ u rfl rfl)
  obtain ⟨kn, _, _, rfl⟩ := i32_inv (t1.2 1 _ v rfl rfl)
  rw [hpe]
  exact ev_cc (EntryBack0 p id kn hp.so)
end Go.Sx.Tryd
