/- Scripts: their bytes, and the requests of bytes. -/
import Derived.Test.YtplknajjcllmkaaDoorH19
namespace Go.Sx.Tryd
open Go Go.Sx
theorem s39 (l : List Req) (o : SO) (s : Nat) (hs : lqs o s l) (hg : ∀ x ∈ l, Good x) : cc (ev X E0) 39 [AV.sl o s (l.map Req.pv)] [] = some (.tup [AV.s (putB l), AV.i (putE l)], []) := by
  have em : (((l.map Req.pv).length : Nat) : Int) = l.length := by rw [List.length_map]
  unfold putB putE
  by_cases hl : 200 < l.length
  · rw [if_pos hl, if_neg (by decide)]; exact f39x_1 l o s (by rw [em]; omega)
  rw [if_neg hl]
  have hn : ¬ (↑(List.length (List.map Req.pv l)) : Int) > 200 := by rw [em]; omega
  have el : Int.toNat (IntKind.wrap .u64 (↑(List.length (List.map Req.pv l)) : Int)) = l.length := by rw [em, wu64]; omega
  have ez : 0 ≤ IntKind.wrap .u64 (↑(List.length (List.map Req.pv l)) : Int) := by rw [wu64]; omega
  have vl := vb_small (n := l.length) (by omega)
  have ev : (vb (Int.toNat (IntKind.wrap .u64 (↑(List.length (List.map Req.pv l)) : Int)))).length ≤ 100000000000000 := by rw [el]; omega
  cases l with
  | nil =>
    have h := l39ax_1 [] o s (vb (Int.toNat (IntKind.wrap .u64 (↑(List.length (List.map Req.pv [])) : Int)))) 0 (by simp)
    have e := f39a_2 [] o s _ h hn ez ev
    rw [el] at e
    rw [firstE, if_pos rfl, txts, List.append_nil]
    exact e
  | cons y r =>
    have gy := hg y (by simp)
    have h38 := s38g gy
    rw [firstE]
    by_cases c : chk y = 0
    · rw [encV, if_pos c, c] at h38
      have hel := enc_len (chk_fine c) gy.typ
      have htb := tb_len (s := enc y) (by omega)
      have st := l39a_2 (y :: r) o s hs (vb (Int.toNat (IntKind.wrap .u64 (↑(List.length (List.map Req.pv (y :: r))) : Int)))) 0 y rfl _ _ h38 (by simp) rfl (by omega) (by rw [el]; omega)
      rw [show IntKind.wrap .i64 (((0 : Nat) : Int) + 1) = (([y].length : Nat) : Int) by rfl] at st
      rw [if_pos c]
      rcases a39b (o := o) (s := s) hs (by omega) hg r [y] (vb (Int.toNat (IntKind.wrap .u64 (↑(List.length (List.map Req.pv (y :: r))) : Int))) ++ tb (enc y)) rfl (by rw [List.length_append, el, List.length_singleton]; omega) with ⟨h1, h2⟩ | ⟨h1, w', z, h2⟩
      · have e := f39b_2 (y :: r) o s _ (st.trans h2) hn ez ev
        rw [el, List.append_assoc] at e
        rw [h1, if_pos rfl, txts]
        exact e
      · have e := f39br_2 (y :: r) o s _ z _ (st.trans h2) hn ez ev
        rw [if_neg h1]
        exact e
    · rw [if_neg c, if_neg c]
      exact f39ar_2 (y :: r) o s _ y _ (l39a_1 (y :: r) o s hs _ 0 y rfl _ _ h38 (by simp) c) hn ez ev
theorem s41g {p : Req} (h : Good p) (hc : chk p = 0) : cc (ev X E0) 41 [Req.av p] [] = some (AV.s (enc p), []) := s41 p h.sz hc h.typ
theorem a44 {l : List Req} {o : SO} {s : Nat} (hs : lqs o s l) (hl : l.length ≤ 1000) (hg : ∀ x ∈ l, Good x) (hc : ∀ x ∈ l, chk x = 0) : ∀ (r pre : List Req) (w : List UInt8), l = pre ++ r → w.length ≤ 100000 * (pre.length + 1) →
    lv (cv (ev X E0) xf44_l0) (rl [0, 2, 0]) 0 (S44q l o s w (pre.length : Nat)) = some (XExit.exit 0, St.mk (tmOf 26 [(3, AV.c (CV.pv (PV.str (w ++ txts r))))]) [])
  | [], pre, w, e, _ => by
    rw [List.append_nil] at e
    rw [← e, txts, List.append_nil]
    exact l44x_1 l o s w l.length not_lt_map
  | y :: r, pre, w, e, hw => by
    have hat : l[pre.length]? = some y := by rw [e]; simp
    have hlen : l.length = pre.length + r.length + 1 := by rw [e]; simp; omega
    have hlt := lt_map (f := Req.pv) (l := l) (i := pre.length) (by omega)
    have gy := hg y (by rw [e]; simp)
    have cy := hc y (by rw [e]; simp)
    have hel := enc_len (chk_fine cy) gy.typ
    have htb := tb_len (s := enc y) (by omega)
    have st := l44_1 l o s hs w pre.length y hat _ (s41g gy cy) hlt (by omega) (by omega)
    have hw' : IntKind.wrap .i64 ((pre.length : Int) + 1) = (((pre ++ [y]).length : Nat) : Int) := by rw [wi64 (by omega) (by omega), List.length_append, List.length_singleton]; omega
    rw [hw'] at st
    rw [st, txts, ← List.append_assoc]
    exact a44 hs hl hg hc r (pre ++ [y]) (w ++ tb (enc y)) (by rw [e]; simp) (by rw [List.length_append, List.length_append, List.length_singleton]; omega)
theorem f44_1 (l : List Req) (o : SO) (s : Nat) (vL w : List UInt8) (hL : cc (ev X E0) 81 [AV.int IntKind.u64 (IntKind.wrap .u64 (↑(List.length (List.map Req.pv l)) : Int))] [] = some (AV.c (.own 0 1 (pvBytes vL)), [])) (h : lv (cv (ev X E0) xf44_l0) (rl [0, 2, 0]) 0 (S44q l o s vL 0) = some (XExit.exit 0, St.mk (tmOf 26 [(3, AV.c (.pv (.str w)))]) [])) :
    cc (ev X E0) 44 [AV.c (.pv (.sl o s (List.map Req.pv l)))] [] = some (AV.c (.pv (.str w)), []) :=
  cc_path (x := xf44) rfl [.call (AV.c (.own 0 1 (pvBytes vL))) [], .bytes vL, .loop (XExit.exit 0) (St.mk (tmOf 26 [(3, AV.c (.pv (.str w)))]) [])]
    (c := rq [(1, type_of% hL), (1, bytesOf' (pvBytes vL) = some vL), (1, type_of% h)]) (by kernel_rfl)
    (aq ⟨hL, (bytesOf_pv _), h, trivial⟩)
theorem s44 (l : List Req) (o : SO) (s : Nat) (hs : lqs o s l) (hl : l.length ≤ 1000) (hg : ∀ x ∈ l, Good x) (hc : ∀ x ∈ l, chk x = 0) : cc (ev X E0) 44 [AV.sl o s (l.map Req.pv)] [] = some (AV.s (vb l.length ++ txts l), []) := by
  have em : (((l.map Req.pv).length : Nat) : Int) = l.length := by rw [List.length_map]
  have el : Int.toNat (IntKind.wrap .u64 (↑(List.length (List.map Req.pv l)) : Int)) = l.length := by rw [em, wu64]; omega
  have ez : 0 ≤ IntKind.wrap .u64 (↑(List.length (List.map Req.pv l)) : Int) := by rw [wu64]; omega
  have ey : IntKind.wrap .u64 (↑(List.length (List.map Req.pv l)) : Int) < 18446744073709551616 := by rw [wu64]; omega
  have hL := rVint _ ez ey
  have vl := vb_small (n := l.length) (by omega)
  have h := a44 (o := o) (s := s) hs hl hg hc l [] (vb (Int.toNat (IntKind.wrap .u64 (↑(List.length (List.map Req.pv l)) : Int)))) rfl (by rw [el]; omega)
  have e := f44_1 l o s _ _ hL h
  rw [el] at e
  exact e
end Go.Sx.Tryd
