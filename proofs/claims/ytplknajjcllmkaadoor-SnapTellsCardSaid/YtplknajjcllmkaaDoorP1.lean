/- Books that may be: beginnings, order, copies. -/
import Derived.Test.YtplknajjcllmkaaDoorN4
import Derived.Test.YtplknajjcllmkaaDoorD2
import Derived.Test.YtplknajjcllmkaaDoorK5a
namespace Go.Sx.Tryd
open Go Go.Sx
theorem rightFrom_append : ∀ (a pre b : List Post), rightFrom pre (a ++ b) = (rightFrom pre a && rightFrom (pre ++ a) b)
  | [], pre, b => by simp [rightFrom]
  | x :: a, pre, b => by
    simp only [List.cons_append, rightFrom]
    rw [rightFrom_append a (pre ++ [x]) b, Bool.and_assoc, List.append_assoc]
    rfl
theorem rightB_append (a b : List Post) : rightB (a ++ b) = (rightB a && rightFrom a b) := by
  unfold rightB
  rw [rightFrom_append a [] b]
  rfl
theorem right_take {l : List Post} (h : rightB l = true) (n : Nat) : rightB (l.take n) = true := by
  have := rightB_append (l.take n) (l.drop n)
  rw [List.take_append_drop, h] at this
  have h2 := this.symm
  rw [Bool.and_eq_true] at h2
  exact h2.1
def Shut (l : List Post) : Prop := ∀ p ∈ l, p.so = .shut
theorem shut_sh {l : List Post} (h : Shut l) : l.map sh = l := by
  have : ∀ p ∈ l, sh p = p := fun p hp => by
    have := h p hp
    obtain ⟨a, b, c, d, e, f, g, i⟩ := p
    simp only at this
    subst this
    rfl
  rw [List.map_congr_left this]; simp
theorem sh_shut (l : List Post) : Shut (l.map sh) := by
  intro p hp
  obtain ⟨q, _, rfl⟩ := List.mem_map.1 hp
  rfl
def numbered (b : List Post) (p : Post) : Post := { p with id := (b.length : Int) + 1 }
def put (b : List Post) (p : Post) : List Post := if fullE b (numbered b p) = 0 then b ++ [sh (numbered b p)] else b
def made (l : List Post) : List Post := l.foldl put []
structure Built (b : List Post) (n : Nat) : Prop where
  right : rightB b = true
  shut : Shut b
  nice : ∀ p ∈ b, Nice p
  len : b.length ≤ n
end Go.Sx.Tryd
/- Desks: what is told of them. -/
namespace Go.Sx.Tryd
open Go Go.Sx
structure Dk where
  b : List Post
  o : SO
  s : Nat
  r : List Rd
  q : SO
  t : Nat
  nx : Int
abbrev Dk.av (d : Dk) : AV := Dv d.b d.o d.s d.r d.q d.t d.nx
structure Dk.Wf (d : Dk) : Prop where
  bz : szOk 7 (CV.pv (PV.sl d.o d.s (List.map Post.pv d.b))) = true
  bn : d.o = .nil → d.b = []
  bs : d.o = .nil → d.s = 0 ∨ d.s = 7
  rz : szOk 4 (CV.pv (PV.sl d.q d.t (List.map Rd.pv d.r))) = true
  rn : d.q = .nil → d.r = []
structure Dk.Ok (d : Dk) : Prop extends Dk.Wf d where
  bl : d.b.length ≤ 1000
  rl : d.r.length ≤ 1000
  nice : ∀ p ∈ d.b, Nice p
def Z : Dk := ⟨[], .nil, 0, [], .nil, 0, 0⟩
theorem Z_wf : Z.Wf := ⟨rfl, (fun _ => rfl), (fun _ => .inl rfl), rfl, (fun _ => rfl)⟩
def deskB (d : Dk) : Bool := rightB d.b && (decide (d.r.length ≤ 16 ∧ 1 ≤ d.nx ∧ d.nx ≤ 1000000) && rdFrom d.b.length d.nx Rd0 d.r)
theorem sR {d : Dk} (h : d.Ok) : cc (ev X E0) 21 [d.av] [] = some (.b (deskB d), []) := by
  have h25 := s25 h.bz h.bn h.bl h.nice
  have h62 := sRd h.rz d.b.length d.nx h.rl
  rw [← lenP d.b] at h62
  unfold deskB
  cases hr : rightB d.b with
  | false => rw [hr] at h25; exact df21_5 _ _ _ _ _ _ _ _ _ h25 h62 rfl
  | true =>
    rw [hr] at h25
    rw [Bool.true_and]
    by_cases c1 : d.r.length ≤ 16
    · by_cases c2 : d.nx ≥ 1
      · by_cases c3 : d.nx ≤ 1000000
        · rw [decide_eq_true ⟨c1, c2, c3⟩, Bool.true_and, ← lenP d.b]
          exact df21_1 _ _ _ _ _ _ _ _ _ h25 h62 rfl (by rw [lenR]; omega) c2 c3
        · rw [decide_eq_false (fun h => c3 h.2.2), Bool.false_and]
          exact df21_2 _ _ _ _ _ _ _ _ _ h25 h62 rfl (by rw [lenR]; omega) c2 c3
      · rw [decide_eq_false (fun h => c2 h.2.1), Bool.false_and]
        exact df21_3 _ _ _ _ _ _ _ _ _ h25 h62 rfl (by rw [lenR]; omega) c2
    · rw [decide_eq_false (fun h => c1 h.1), Bool.false_and]
      exact df21_4 _ _ _ _ _ _ _ _ _ h25 h62 rfl (by rw [lenR]; omega)
theorem out_form (es : List Post) : ∃ (o : SO) (s : Nat), outP es = PV.sl o s (List.map Post.pv (es.map sh)) ∧ szOk 7 (CV.pv (PV.sl o s (List.map Post.pv (es.map sh)))) = true ∧ (o = .nil → es.map sh = [] ∧ s = 0) := by
  cases es with
  | nil => exact ⟨.nil, 0, rfl, rfl, fun _ => ⟨rfl, rfl⟩⟩
  | cons p r => exact ⟨.shut, 7, rfl, rfl, fun h => by cases h⟩
theorem sAll {l : List Post} {o : SO} {s : Nat} (hs : szOk 7 (CV.pv (PV.sl o s (List.map Post.pv l))) = true) (ho : o = .nil → l = []) (hl : l.length ≤ 1000) (hN : ∀ p ∈ l, Nice p) :
    ∃ (o' : SO) (s' : Nat) (m : List Post), cs (ev X E0) 58 [Bk o s l] = some (.agg [CV.pv (PV.sl o' s' (List.map Post.pv m))]) ∧ szOk 7 (CV.pv (PV.sl o' s' (List.map Post.pv m))) = true ∧ (o' = .nil → m = [] ∧ s' = 0) ∧ (rightB l = true → m = l.map sh) := by
  have h := s20 hs ho hl hN 50000
  obtain ⟨o', s', e1, e2, e3⟩ := out_form (pickR l fun p => decide (p.known ≤ 50000))
  rw [e1] at h
  refine ⟨o', s', _, cs_of (df58_1 l o s o' s' _ _ h), e2, e3, fun hr => ?_⟩
  have e := pick_eq hr (w := fun p => decide (p.known ≤ 50000)) (w' := fun _ => true) fun p hp => by
    have := datOk_iff.1 (chk_inv hp).2.1
    simp only [decide_eq_true_eq]
    omega
  rw [e, List.filter_eq_self.2 fun _ _ => rfl]
def wrE (d : Dk) (p : Post) : Int := if deskB d = true then addE d.b p else 1
def opE (d : Dk) (k v : Int) : Int := if deskB d = true then (if (datOk k && datOk v) = true then (if d.r.length = 16 then 6 else if d.nx = 1000000 then 9 else 0) else 11) else 1
def fdE (d : Dk) (id : Int) : Int := if deskB d = true then (if there id d.r = true then 0 else 8) else 1
theorem desk_right {d : Dk} (h : deskB d = true) : rightB d.b = true ∧ d.r.length ≤ 16 ∧ 1 ≤ d.nx ∧ d.nx ≤ 1000000 ∧ rdFrom d.b.length d.nx Rd0 d.r = true := by
  simp only [deskB, Bool.and_eq_true, decide_eq_true_eq] at h
  exact ⟨h.1, h.2.1.1, h.2.1.2.1, h.2.1.2.2, h.2.2⟩
theorem sNew {l : List Post} {o : SO} {s : Nat} (hs : szOk 7 (CV.pv (PV.sl o s (List.map Post.pv l))) = true) (ho : o = .nil → l = []) (hl : l.length ≤ 1000) (hN : ∀ p ∈ l, Nice p) :
    ∃ d' : Dk, d'.Wf ∧ cc (ev X E0) 20 [Bk o s l] [] = some (.tup [d'.av, .i (if rightB l = true then 0 else 1)], []) ∧ (rightB l = true → d'.b = l.map sh ∧ d'.r = [] ∧ d'.nx = 1) ∧ (rightB l = false → d' = Z) := by
  have h25 := s25 hs ho hl hN
  obtain ⟨o', s', m, e1, e2, e3, e4⟩ := sAll hs ho hl hN
  cases hr : rightB l with
  | false => rw [hr] at h25; exact ⟨Z, Z_wf, df20_1 _ _ _ _ _ _ _ h25 e1 rfl, (fun h => by cases h), (fun _ => rfl)⟩
  | true => rw [hr] at h25; exact ⟨⟨m, o', s', [], .nil, 0, 1⟩, ⟨e2, (fun h => (e3 h).1), (fun h => .inl (e3 h).2), rfl, fun _ => rfl⟩, df20_2 _ _ _ _ _ _ _ h25 e1 rfl, fun _ => ⟨e4 hr, rfl, rfl⟩, fun h => by cases h⟩
theorem sClone {l : List Rd} {o : SO} {s : Nat} (hs : szOk 4 (CV.pv (PV.sl o s (List.map Rd.pv l))) = true) (ho : o = .nil → l = []) (hl : l.length ≤ 1000) :
    (∃ (o' : SO) (s' : Nat), cs (ev X E0) 56 [AV.sl o s (l.map Rd.pv)] = some (.c (CV.pv (PV.sl o' s' (List.map Rd.pv l)))) ∧ szOk 4 (CV.pv (PV.sl o' s' (List.map Rd.pv l))) = true ∧ (o' = .nil → l = [])) ∧
    (l ≠ [] → cc (ev X E0) 56 [AV.sl o s (l.map Rd.pv)] [] = some (.c (CV.own 0 4 (l.map Rd.pv)), [])) ∧
    (l = [] → cc (ev X E0) 56 [AV.sl o s (List.map Rd.pv [])] [] = some (.c (CV.pv (PV.sl .nil 0 [])), []) ∨ cc (ev X E0) 56 [AV.sl o s (List.map Rd.pv [])] [] = some (.c (CV.pv (PV.sl .full 4 [])), [])) := by
  by_cases h0 : (o == SO.nil) = true
  · have := ho (by simpa using h0)
    subst this
    exact ⟨⟨.nil, 0, cs_of (df56_1 [] o s hs h0), rfl, fun _ => rfl⟩, (fun h => absurd rfl h), fun _ => .inl (df56_1 [] o s hs h0)⟩
  · have h0' : (o == SO.nil) = false := by simpa using h0
    by_cases h1 : l = []
    · subst h1
      exact ⟨⟨.full, 4, cs_of (df56_2 [] o s hs h0' rfl), rfl, fun h => by cases h⟩, (fun h => absurd rfl h), fun _ => .inr (df56_2 [] o s hs h0' rfl)⟩
    · have h := df56_3 l o s hs h0' (by simpa using h1) (by rw [List.length_map]; omega)
      rw [List.nil_append] at h
      exact ⟨⟨.shut, 4, cs_of h, rfl, fun h => by cases h⟩, (fun _ => h), fun h => absurd h h1⟩
theorem sWrite {d : Dk} (h : d.Ok) {p : Post} (hp : Nice p) : ∃ d' : Dk, d'.Wf ∧ cs (ev X E0) 15 [d.av, Post.av p] = some (.tup [d'.av, .i (wrE d p)]) ∧ (wrE d p = 0 → d'.b = (d.b ++ [p]).map sh ∧ d'.r = d.r ∧ d'.nx = d.nx) ∧ (wrE d p ≠ 0 → d' = Z) := by
  have h21 := sR h
  have h55 := s19 h.bz h.bn h.bl h.nice hp
  obtain ⟨o', s', e1, e2, e3⟩ := out_form (addR d.b p)
  rw [e1] at h55
  obtain ⟨⟨q', t', c1, c2, c3⟩, _, _⟩ := sClone h.rz h.rn h.rl
  unfold wrE
  cases hd : deskB d with
  | false => rw [hd] at h21; exact ⟨Z, Z_wf, cs_of (df15_1 _ _ _ _ _ _ _ _ _ _ _ _ _ _ _ _ h21 h55 c1 rfl), (fun h => by rw [if_neg (by simp)] at h; cases h), (fun _ => rfl)⟩
  | true =>
    rw [hd] at h21
    rw [if_pos rfl]
    by_cases c : addE d.b p = 0
    · rw [c] at h55 ⊢
      refine ⟨⟨_, o', s', d.r, q', t', d.nx⟩, ⟨e2, (fun h => (e3 h).1), (fun h => .inl (e3 h).2), c2, c3⟩, cs_of (df15_3 _ _ _ _ _ _ _ _ _ _ _ _ _ _ _ _ h21 h55 c1 rfl rfl), fun _ => ⟨?_, rfl, rfl⟩, fun h => absurd rfl h⟩
      unfold addR
      rw [if_pos c]
    · exact ⟨Z, Z_wf, cs_of (df15_2 _ _ _ _ _ _ _ _ _ _ _ _ _ _ _ _ h21 h55 c1 rfl c), fun h => absurd h c, fun _ => rfl⟩
theorem sOpen {d : Dk} (h : d.Ok) (k v : Int) : ∃ (d' : Dk) (n : Int), d'.Wf ∧ cs (ev X E0) 16 [d.av, AV.int .i32 k, AV.int .i32 v] = some (.tup [d'.av, .i n, .i (opE d k v)]) ∧
    (opE d k v = 0 → d'.b = d.b.map sh ∧ d'.r = d.r ++ [⟨d.nx, d.b.length, k, v⟩] ∧ d'.nx = d.nx + 1 ∧ n = d.nx) ∧ (opE d k v ≠ 0 → d' = Z ∧ n = 0) := by
  have h21 := sR h
  obtain ⟨o', s', m, e1, e2, e3, e4⟩ := sAll h.bz h.bn h.bl h.nice
  obtain ⟨_, c1, c2⟩ := sClone h.rz h.rn h.rl
  have bad : ∀ e : Int, opE d k v = e → e ≠ 0 → cs (ev X E0) 16 [d.av, AV.int .i32 k, AV.int .i32 v] = some (.tup [Z.av, .i 0, .i e]) → ∃ (d' : Dk) (n : Int), d'.Wf ∧ cs (ev X E0) 16 [d.av, AV.int .i32 k, AV.int .i32 v] = some (.tup [d'.av, .i n, .i (opE d k v)]) ∧
    (opE d k v = 0 → d'.b = d.b.map sh ∧ d'.r = d.r ++ [⟨d.nx, d.b.length, k, v⟩] ∧ d'.nx = d.nx + 1 ∧ n = d.nx) ∧ (opE d k v ≠ 0 → d' = Z ∧ n = 0) := fun e he h0 hc => by
    rw [he]
    exact ⟨Z, 0, Z_wf, hc, (fun h => absurd h h0), (fun _ => ⟨rfl, rfl⟩)⟩
  have h16 : opE d k v = 0 → ∃ (d' : Dk) (n : Int), d'.Wf ∧ cs (ev X E0) 16 [d.av, AV.int .i32 k, AV.int .i32 v] = some (.tup [d'.av, .i n, .i 0]) ∧ d'.b = d.b.map sh ∧ d'.r = d.r ++ [⟨d.nx, d.b.length, k, v⟩] ∧ d'.nx = d.nx + 1 ∧ n = d.nx := fun h0 => by
    unfold opE at h0
    by_cases hd : deskB d = true
    · rw [if_pos hd] at h0
      rw [hd] at h21
      by_cases hk : (datOk k && datOk v) = true
      · rw [if_pos hk] at h0
        by_cases g1 : d.r.length = 16
        · rw [if_pos g1] at h0; cases h0
        rw [if_neg g1] at h0
        by_cases g2 : d.nx = 1000000
        · rw [if_pos g2] at h0; cases h0
        simp only [Bool.and_eq_true] at hk
        obtain ⟨r1, r2, r3, r4, _⟩ := desk_right hd
        have hw : IntKind.wrap .i64 (d.nx + 1) = d.nx + 1 := wi64 (by omega) (by omega)
        by_cases c : d.r = []
        · have hr : d.r.map Rd.pv = [] := by rw [c]; rfl
          have fin : cc (ev X E0) 16 [d.av, AV.int .i32 k, AV.int .i32 v] [] = some (AV.tup [AV.agg [.pv (.sl o' s' (List.map Post.pv m)), .own 0 4 [PV.agg [PV.int .i64 d.nx, .int .i64 (↑(List.length (List.map Post.pv d.b)) : Int), .int .i32 k, .int .i32 v]], vi (IntKind.wrap .i64 (d.nx + 1))], AV.c (vi d.nx), AV.c (vi 0)], []) := by
            have h21' := h21
            unfold Dk.av at h21' ⊢
            unfold Dv at h21' ⊢
            rw [hr] at h21' ⊢
            rcases c2 c with c3 | c3
            · exact df16n_5 _ _ _ _ _ _ _ _ _ _ _ _ h21' e1 c3 rfl hk.1 hk.2 g2 (by simp)
            · exact df16f_5 _ _ _ _ _ _ _ _ _ _ _ _ h21' e1 c3 rfl hk.1 hk.2 g2 (by simp)
          refine ⟨⟨m, o', s', [⟨d.nx, d.b.length, k, v⟩], .shut, 4, d.nx + 1⟩, d.nx, ⟨e2, (fun h => (e3 h).1), (fun h => .inl (e3 h).2), rfl, fun h => by cases h⟩, ?_, e4 r1, (by rw [c]; rfl), rfl, rfl⟩
          rw [hw, lenP] at fin
          exact cs_of fin
        · have fin := df16_6 _ _ _ _ _ _ _ k v _ _ _ _ h21 e1 (c1 c) rfl hk.1 hk.2 (by rw [lenR]; omega) g2 (by rw [Int.natCast_add, lenR]; simp; omega)
          refine ⟨⟨m, o', s', d.r ++ [⟨d.nx, d.b.length, k, v⟩], .shut, 4, d.nx + 1⟩, d.nx, ⟨e2, (fun h => (e3 h).1), (fun h => .inl (e3 h).2), rfl, fun h => by cases h⟩, ?_, e4 r1, rfl, rfl, rfl⟩
          rw [hw, lenP] at fin
          have := cs_of fin
          unfold Dk.av Dv
          rw [List.map_append]
          exact this
      · rw [if_neg hk] at h0; cases h0
    · rw [if_neg hd] at h0; cases h0
  by_cases h0 : opE d k v = 0
  · obtain ⟨d', n, w, e, p1, p2, p3, p4⟩ := h16 h0
    rw [h0]
    exact ⟨d', n, w, e, (fun _ => ⟨p1, p2, p3, p4⟩), (fun h => absurd rfl h)⟩
  · refine bad _ rfl h0 ?_
    unfold opE at h0 ⊢
    cases hd : deskB d with
    | false => rw [hd] at h21; exact cs_of (df16e_1 _ _ _ _ _ _ _ k v _ h21 rfl)
    | true =>
      rw [hd] at h21 h0
      rw [if_pos rfl] at h0 ⊢
      cases hk : datOk k with
      | false => exact cs_of (df16e_2 _ _ _ _ _ _ _ k v _ h21 rfl hk)
      | true =>
        cases hv : datOk v with
        | false => exact cs_of (df16e_3 _ _ _ _ _ _ _ k v _ h21 rfl hk hv)
        | true =>
          rw [hk, hv] at h0
          simp only [Bool.and_self, if_true] at h0 ⊢
          by_cases g1 : d.r.length = 16
          · rw [if_pos g1]
            exact cs_of (df16e_4 _ _ _ _ _ _ _ k v _ h21 rfl hk hv (by rw [lenR]; omega))
          · rw [if_neg g1] at h0 ⊢
            by_cases g2 : d.nx = 1000000
            · rw [if_pos g2]
              exact cs_of (df16e_5 _ _ _ _ _ _ _ k v _ h21 rfl hk hv (by rw [lenR]; omega) g2)
            · rw [if_neg g2] at h0; exact absurd rfl h0
theorem sFind {d : Dk} (h : d.Ok) (id : Int) : cc (ev X E0) 59 [d.av, AV.i id] [] = some (.tup [.i (if fdE d id = 0 then (placeN id d.r : Int) else 0), .i (fdE d id)], []) := by
  have h21 := sR h
  have hp := sPl h.rz id h.rl
  unfold fdE
  cases hd : deskB d with
  | false => rw [hd] at h21; exact df59_1 _ _ _ _ _ _ _ _ _ _ h21 hp rfl
  | true =>
    rw [hd] at h21
    rw [if_pos rfl]
    unfold place at hp
    by_cases c : there id d.r = true
    · rw [if_pos c] at hp
      simp only [if_pos c, if_true]
      exact df59_3 _ _ _ _ _ _ _ _ _ _ h21 hp rfl (by omega)
    · rw [if_neg c] at hp
      simp only [if_neg c]
      exact df59_2 _ _ _ _ _ _ _ _ _ _ h21 hp rfl (by omega)
theorem place_lt {id : Int} : ∀ {l : List Rd}, there id l = true → ∃ z, l[placeN id l]? = some z ∧ z.id = id
  | [], h => by simp [there] at h
  | r :: l, h => by
    by_cases c : r.id = id
    · exact ⟨r, by simp [placeN, c], c⟩
    · have h' : there id l = true := by simpa [there, c] using h
      obtain ⟨z, h1, h2⟩ := place_lt h'
      exact ⟨z, by rw [placeN, if_neg c, List.getElem?_cons_succ]; exact h1, h2⟩
theorem fd_inv {d : Dk} {id : Int} (h : fdE d id = 0) : deskB d = true ∧ there id d.r = true := by
  unfold fdE at h
  by_cases c : deskB d = true
  · rw [if_pos c] at h
    by_cases c2 : there id d.r = true
    · exact ⟨c, c2⟩
    · rw [if_neg c2] at h; cases h
  · rw [if_neg c] at h; cases h
theorem sClose {d : Dk} (h : d.Ok) (id : Int) : ∃ d' : Dk, d'.Wf ∧ cs (ev X E0) 17 [d.av, AV.i id] = some (.tup [d'.av, .i (fdE d id)]) ∧
    (fdE d id = 0 → d'.b = d.b.map sh ∧ d'.r = d.r.take (placeN id d.r) ++ d.r.drop (placeN id d.r + 1) ∧ d'.nx = d.nx) ∧ (fdE d id ≠ 0 → d' = Z) := by
  have h59 := sFind h id
  by_cases c : fdE d id = 0
  · rw [if_pos c] at h59
    obtain ⟨k1, k2⟩ := fd_inv c
    obtain ⟨r1, r2, _, _, _⟩ := desk_right k1
    obtain ⟨o', s', m, e1, e2, e3, e4⟩ := sAll h.bz h.bn h.bl h.nice
    obtain ⟨_, c1, _⟩ := sClone h.rz h.rn h.rl
    obtain ⟨z, hz, _⟩ := place_lt k2
    have hlt : placeN id d.r < d.r.length := (List.getElem?_eq_some_iff.1 hz).1
    have hne : d.r ≠ [] := fun e => by rw [e] at hlt; simp at hlt
    have h60 := sDel (es := d.r.map Rd.pv) (i := placeN id d.r) (by rw [List.length_map]; exact hlt) (rows_map fun _ => rfl)
    have hw : IntKind.wrap .i64 ((placeN id d.r : Int) + 1) = ((placeN id d.r + 1 : Nat) : Int) := by rw [wi64 (by omega) (by omega)]; omega
    rw [← hw] at h60
    have hf : frzE (some (Box.row 4 (List.take (placeN id d.r) (d.r.map Rd.pv) ++ List.drop (placeN id d.r + 1) (d.r.map Rd.pv) ++ [zR]))) 4 0 (List.length (List.map Rd.pv d.r) - 1) = some (List.map Rd.pv (d.r.take (placeN id d.r) ++ d.r.drop (placeN id d.r + 1))) := by
      have hl : (List.take (placeN id d.r) (d.r.map Rd.pv) ++ List.drop (placeN id d.r + 1) (d.r.map Rd.pv)).length = (List.map Rd.pv d.r).length - 1 := by
        rw [List.length_append, List.length_take, List.length_drop, List.length_map]; omega
      simp only [frzE, Option.bind_some, Box.elems]
      rw [if_pos ⟨trivial, trivial, by rw [List.length_append (bs := [zR]), hl]; simp⟩]
      simp only [Nat.zero_div, List.drop_zero]
      rw [← hl, List.take_append_of_le_length (Nat.le_refl _), List.take_length, List.map_append, List.map_take, List.map_drop]
    refine ⟨⟨m, o', s', d.r.take (placeN id d.r) ++ d.r.drop (placeN id d.r + 1), .shut, 4, d.nx⟩, ⟨e2, (fun h => (e3 h).1), (fun h => .inl (e3 h).2), rfl, fun h => by cases h⟩, ?_, (fun _ => ⟨e4 r1, rfl, rfl⟩), (fun h => absurd c h)⟩
    rw [c] at h59 ⊢
    exact cs_of (df17_2 _ _ _ _ _ _ _ id _ _ _ _ _ _ h59 e1 (c1 hne) h60 _ rfl hf)
  · rw [if_neg c] at h59
    exact ⟨Z, Z_wf, cs_of (df17e_1 _ _ _ _ _ _ _ id _ _ c h59), (fun h => absurd h c), (fun _ => rfl)⟩
def hasL (d : Dk) (id : Int) : List Post := match d.r[placeN id d.r]? with
  | some z => (d.b.take z.sees.toNat).filter (within z.known z.value)
  | none => []
theorem rd_sees {many next : Int} : ∀ {l : List Rd} {x : Rd}, rdFrom many next x l = true → 0 ≤ x.sees → ∀ z ∈ l, 0 ≤ z.sees ∧ z.sees ≤ many ∧ z.id < next ∧ datOk z.known = true ∧ datOk z.value = true
  | [], _, _, _, z, hz => by simp at hz
  | r :: l, x, h, h0, z, hz => by
    simp only [rdFrom, rOk, Bool.and_eq_true, decide_eq_true_eq] at h
    obtain ⟨⟨⟨_, h2, h3, h4⟩, h5, h6⟩, h7⟩ := h
    rcases List.mem_cons.1 hz with rfl | hz
    · exact ⟨by omega, h4, h2, h5, h6⟩
    · exact rd_sees h7 (by omega) z hz
theorem s21c {l : List Post} {o : SO} {s : Nat} (hs : szOk 7 (CV.pv (PV.sl o s (List.map Post.pv l))) = true) (ho : o = .nil → l = []) (hl : l.length ≤ 1000) (hN : ∀ p ∈ l, Nice p) (k v : Int) :
    cc (ev X E0) 33 [Bk o s l, AV.int .i32 k, AV.int .i32 v] [] = some (.tup [.c (outA (pickR l (within k v))), .i (pickE l)], []) := by
  have h := s64b hs ho (x := .int .i32 k) (z := .int .i32 v) (w := within k v) (fun p => s66 k v p) hl hN
  rcases out_cases (pickR l (within k v)) with ⟨_, h1⟩ | ⟨_, h1⟩
  · rw [h1] at h ⊢; exact f21n_1 l o s k v _ h
  · rw [h1] at h ⊢; exact f21o_1 l o s k v _ _ h
theorem sHasC {d : Dk} (h : d.Ok) (id : Int) : cc (ev X E0) 18 [d.av, AV.i id] [] = some (.tup [.c (outA (if fdE d id = 0 then hasL d id else [])), .i (fdE d id)], []) := by
  have h59 := sFind h id
  by_cases c : fdE d id = 0
  · rw [if_pos c, c] at h59
    rw [if_pos c, c]
    obtain ⟨k1, k2⟩ := fd_inv c
    obtain ⟨r1, r2, _, _, r5⟩ := desk_right k1
    obtain ⟨z, hz, _⟩ := place_lt k2
    obtain ⟨s1, s2, _, _, _⟩ := rd_sees r5 (by decide) z (List.mem_of_getElem? hz)
    have hrt : rightB (d.b.take z.sees.toNat) = true := right_take r1 _
    have hL : hasL d id = (d.b.take z.sees.toNat).filter (within z.known z.value) := by unfold hasL; rw [hz]
    have hpick : pickR (d.b.take z.sees.toNat) (within z.known z.value) = hasL d id := by unfold pickR; rw [if_pos hrt, hL]
    have hi : d.r[Int.toNat (placeN id d.r : Int)]? = some z := by rw [Int.toNat_natCast]; exact hz
    by_cases hn : d.o = .nil
    · have hb := h.bn hn
      have h59' := h59
      unfold Dk.av at h59' ⊢
      have hlen : d.b.length = 0 := by rw [hb]; rfl
      have hL0 : hasL d id = [] := by rw [hL, hb, List.take_nil]; rfl
      rw [hL0]
      rcases h.bs hn with hs | hs
      · have h33 := s21c (l := []) (o := .nil) (s := 0) rfl (fun _ => rfl) (by simp) (by simp) z.known z.value
        rw [hb, hn, hs] at h59' ⊢
        exact df18n_1 _ _ _ h.rz _ id _ _ z hi h59' h33 (by omega) s1 (by omega)
      · have h33 := s21c (l := []) (o := .nil) (s := 7) rfl (fun _ => rfl) (by simp) (by simp) z.known z.value
        rw [hb, hn, hs] at h59' ⊢
        exact df18m_1 _ _ _ h.rz _ id _ _ z hi h59' h33 (by omega) s1 (by omega)
    · have nn : CV.some' (CV.pv (PV.sl d.o d.s (List.map Post.pv d.b))) = true := by simp only [CV.some', bne_iff_ne]; exact hn
      have h33 := s21c (l := d.b.take z.sees.toNat) (o := .shut) (s := 7) rfl (fun h => by cases h) (by rw [List.length_take]; have := h.bl; omega) (fun p hp => h.nice p (List.mem_of_mem_take hp)) z.known z.value
      have hE : pickE (d.b.take z.sees.toNat) = 0 := by unfold pickE; rw [if_pos hrt]
      rw [hpick, hE, show Bk SO.shut 7 (List.take z.sees.toNat d.b) = AV.agg [CV.pv (PV.sl .shut 7 (List.take z.sees.toNat (List.map Post.pv d.b)))] by unfold Bk; rw [List.map_take]] at h33
      rcases out_cases (hasL d id) with ⟨_, h1⟩ | ⟨_, h1⟩
      · rw [h1] at h33 ⊢
        exact df18t_1 _ _ _ h.bz nn _ _ _ h.rz _ id (placeN id d.r : Int) _ z hi h59 h33 (by omega) s1 (by rw [lenP]; exact s2)
      · rw [h1] at h33 ⊢
        exact df18s_1 _ _ _ h.bz nn _ _ _ h.rz _ id (placeN id d.r : Int) _ z hi _ h59 h33 (by omega) s1 (by rw [lenP]; exact s2)
  · rw [if_neg c] at h59
    rw [if_neg c]
    exact df18_1 _ _ _ _ _ _ _ id _ _ c h59
theorem sHas {d : Dk} (h : d.Ok) (id : Int) : ∃ (o : SO) (s : Nat) (l : List Post), cs (ev X E0) 18 [d.av, AV.i id] = some (.tup [.c (CV.pv (PV.sl o s (List.map Post.pv l))), .i (fdE d id)]) ∧ szOk 7 (CV.pv (PV.sl o s (List.map Post.pv l))) = true ∧ (o = .nil → l = [] ∧ s = 0) ∧
    (fdE d id = 0 → l = (hasL d id).map sh) ∧ (fdE d id ≠ 0 → l = []) := by
  have hc := cs_of (sHasC h id)
  obtain ⟨o', s', e1, e2, e3⟩ := out_form (if fdE d id = 0 then hasL d id else [])
  refine ⟨o', s', _, ?_, e2, e3, (fun c => by rw [if_pos c]), (fun c => by rw [if_neg c]; rfl)⟩
  rw [← e1, ← outA_shut]
  exact hc
theorem sOldest {d : Dk} (h : d.Ok) : cc (ev X E0) 19 [d.av] [] = some (.tup [.i (if deskB d = true then (d.r.head?).elim 0 Rd.sees else 0), .b (deskB d && !d.r.isEmpty)], []) := by
  have h21 := sR h
  cases hd : deskB d with
  | false => rw [hd] at h21; exact df19_1 _ _ _ _ _ _ h.rz _ _ h21 rfl
  | true =>
    rw [hd] at h21
    rw [if_pos rfl]
    cases hr : d.r with
    | nil => exact df19_2 _ _ _ _ _ _ h.rz _ _ h21 rfl (by rw [hr]; rfl)
    | cons z l => exact df19_3 _ _ _ _ _ _ h.rz _ _ h21 z rfl (by rw [lenR, hr]; simp; omega) (by rw [hr]; rfl)
end Go.Sx.Tryd
