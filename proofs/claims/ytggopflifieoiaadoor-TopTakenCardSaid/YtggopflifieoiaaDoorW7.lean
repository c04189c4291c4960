/- The statement TopTaken, of the evaluator. -/
import Derived.Test.YtggopflifieoiaaDoorW3
import Derived.Test.YtggopflifieoiaaDoorW5
import Derived.Test.YtggopflifieoiaaDoorW6
import Derived.Test.YtggopflifieoiaaDoorN4
import Derived.Test.YtggopflifieoiaaDoorAlB
namespace Go.Sx.Tryd
open Go Go.Sx
theorem sumBook_snoc (acc cur v : Int) (l : List Post) (p : Post) : sumBook acc cur v (l ++ [p]) = sumBook acc cur v l + (if p.value ≤ v then sumIf (onW acc cur) p.legs else 0) := by
  induction l with
  | nil => simp [sumBook]
  | cons q l ih => simp only [List.cons_append, sumBook, ih]; omega
structure TI (x0 x : Hd) (b : List Post) (now : Int) (n : Nat) : Prop where
  ok : HdR x
  id : x.id = x0.id
  acc : x.acc = x0.acc
  cur : x.cur = x0.cur
  minor : x.minor = x0.minor
  len : b.length ≤ n
  right : rightB b = true
  so : ∀ p ∈ b, p.so = .shut
  nice : ∀ p ∈ b, Nice p
  known : ∀ p ∈ b, p.known ≤ now
  sum : sumBook x0.acc x0.cur 50000 b = x.taken
  day : datOk now = true
def bo6 (b : List Post) : SO := if b.isEmpty then .nil else .shut
def bz6 (b : List Post) : Nat := if b.isEmpty then 0 else 7
theorem bk6 (b : List Post) : szOk 7 (CV.pv (PV.sl (bo6 b) (bz6 b) (List.map Post.pv b))) = true ∧ (bo6 b = .nil → b = []) := by
  cases b with
  | nil => exact ⟨rfl, fun _ => rfl⟩
  | cons p r => exact ⟨rfl, fun h => by cases h⟩
theorem sh_same : ∀ {l : List Post}, (∀ p ∈ l, p.so = .shut) → l.map sh = l
  | [], _ => rfl
  | p :: l, h => by
    have hp := h p (by simp)
    have e : sh p = p := by cases p; simp only at hp; subst hp; rfl
    rw [List.map_cons, e, sh_same fun q hq => h q (by simp [hq])]
def nxt (t now : Int) : Int := if Int.tmod t 3 = 0 ∧ now < 50000 then now + 1 else now
theorem nxt_ok {t now : Int} (h : datOk now = true) : datOk (nxt t now) = true ∧ now ≤ nxt t now := by
  simp only [datOk, decide_eq_true_eq] at h ⊢
  unfold nxt
  split <;> omega
theorem w32' {n : Int} (h : -60000 ≤ n) (h' : n ≤ 60000) : IntKind.wrap .i32 n = n := by
  simp [IntKind.wrap, IntKind.signed, IntKind.bits]; omega
theorem cur_of {x : Hd} (h : HdR x) : 0 ≤ x.cur ∧ x.cur < 4 := by
  have := h.mon
  simp only [Bool.and_eq_true, curOk, decide_eq_true_eq] at this
  exact this.1
theorem sum6 {x0 x : Hd} {b : List Post} {now : Int} {n : Nat} (h : TI x0 x b now n) (hn : n ≤ 100) {o : SO} {s : Nat} (hs : szOk 7 (CV.pv (PV.sl o s (List.map Post.pv b))) = true) :
    cc (ev X E0) 27 [AV.sl o s (b.map Post.pv), AV.i x0.acc, AV.i x0.cur, AV.int .i32 50000] [] = some (.tup [.i x.taken, .i 0], []) := by
  have hc := cur_of h.ok
  rw [h.cur] at hc
  have := s33 hs x0.acc x0.cur 50000 (by have := h.len; omega) (right_chk h.right) h.nice
  rw [if_neg (by omega), if_neg (by omega), h.sum] at this
  exact this
theorem rest_live {x : Hd} (h : HdR x) {now : Int} (c : live x now = true) : IntKind.wrap .i64 (restOf x now + x.taken) = x.minor ∧ x.done = false := by
  have := minor_le h
  have := h.tak
  unfold restOf
  rw [if_pos c, wi64 (by omega) (by omega)]
  unfold live at c
  simp only [Bool.and_eq_true, Bool.not_eq_true'] at c
  exact ⟨by omega, c.1⟩
theorem rest_dead {x : Hd} {now : Int} (c : live x now = false) : restOf x now = 0 := by
  unfold restOf; rw [c]; rfl
theorem tt6a {x0 x x' : Hd} {tk : List Int} {last now : Int} {b b' : List Post} {i : Nat} {t : Int} {bo : SO} {bz : Nat} (hi9 : i ≤ 100) (hnow : datOk now = true) (ht9 : 0 ≤ t ∧ t ≤ 70000) (hx : HdR x') (hmin : x'.minor = x0.minor)
    (ht : tk[i]? = some t) (hi : (i : Int) < (↑(List.length (List.map u16P tk)) : Int))
    (h26 : cc (ev X E0) 26 [AV.sl .shut 9 [Hd.pv x], AV.i x0.id, AV.agg [.pv (.int .i64 x0.cur), .pv (.int .i64 (IntKind.wrap .i64 t))], AV.int .i32 now, AV.b ((i : Int) == IntKind.wrap .i64 last)] [] = some (.tup [AV.c (CV.pv (PV.sl .shut 9 [Hd.pv x'])), .i 0], []))
    (h14 : cs (ev X E0) 14 [AV.agg [CV.pv (PV.sl bo bz (List.map Post.pv b))], AV.agg [.pv (.int .i64 (IntKind.wrap .i64 ((↑(List.length (List.map Post.pv b)) : Int) + 1))), .pv (.int .i32 now), .pv (.int .i32 now), .pv (.sl .full 3 [.agg [.int .i64 x0.acc, .int .i64 x0.cur, .int .i64 (IntKind.wrap .i64 t)], .agg [.int .i64 500, .int .i64 x0.cur, .int .i64 (IntKind.wrap .i64 (0 - IntKind.wrap .i64 t))]]), .pv (.int .i64 0), .pv (.int .i64 0), .pv (.str [])]] = some (.tup [.agg [CV.pv (PV.sl .shut 7 (List.map Post.pv b'))], .i 0]))
    (h27 : cc (ev X E0) 27 [AV.sl .shut 7 (List.map Post.pv b'), AV.i x0.acc, AV.i x0.cur, AV.int .i32 50000] [] = some (.tup [.i x'.taken, .i 0], []))
    (h28 : cc (ev X E0) 28 [Hd.av x', AV.int .i32 now] [] = some (.b (live x' now), [])) (h29 : cc (ev X E0) 29 [Hd.av x', AV.int .i32 now] [] = some (.i (restOf x' now), [])) :
    lv (cv (ev X E0) xf6_l0) (rl [1, 0, 0, 3, 1, 0, 0]) 2 (TS6 x0 .shut tk last x bo bz b now i) = lv (cv (ev X E0) xf6_l0) (rl [1, 0, 0, 3, 1, 0, 0]) 2 (TS6 x0 .shut tk last x' .shut 7 b' (nxt t now) ((i : Int) + 1)) := by
  have hw : IntKind.wrap .i64 t = t := wi64 (by omega) (by omega)
  have hn : -50000 ≤ now ∧ now ≤ 50000 := by simpa only [datOk, decide_eq_true_eq] using hnow
  have hle : ¬ x'.taken > x0.minor := by have := hx.tak; omega
  have hw1 : IntKind.wrap .i64 ((i : Int) + 1) = (i : Int) + 1 := wi64 (by omega) (by omega)
  have hw2 : now < 50000 → IntKind.wrap .i32 (now + 1) = now + 1 := fun _ => w32' (by omega) (by omega)
  rcases bcase (live x' now) with c | c
  · obtain ⟨e1, e2⟩ := rest_live hx c
    rw [hmin] at e1
    by_cases m3 : Int.tmod (IntKind.wrap .i64 t) 3 = 0
    · by_cases m5 : now < 50000
      · have st := tl6_6 x0 x x' tk last now bo bz b b' i t _ _ ht hi h26 h14 h27 h28 h29 hle rfl c e1 e2 m3 m5
        rw [hw1, hw2 m5] at st
        rw [hw] at m3
        rw [show nxt t now = now + 1 from if_pos ⟨m3, m5⟩]; exact st
      · have st := tl6_7 x0 x x' tk last now bo bz b b' i t _ _ ht hi h26 h14 h27 h28 h29 hle rfl c e1 e2 m3 m5
        rw [hw1] at st
        rw [show nxt t now = now from if_neg (fun h => m5 h.2)]; exact st
    · have st := tl6_8 x0 x x' tk last now bo bz b b' i t _ _ ht hi h26 h14 h27 h28 h29 hle rfl c e1 e2 m3
      rw [hw1] at st
      rw [hw] at m3
      rw [show nxt t now = now from if_neg (fun h => m3 h.1)]; exact st
  · have e1 := rest_dead c
    rcases bcase (x'.done) with d | d
    · by_cases m3 : Int.tmod (IntKind.wrap .i64 t) 3 = 0
      · by_cases m5 : now < 50000
        · have st := tl6_10 x0 x x' tk last now bo bz b b' i t _ _ ht hi h26 h14 h27 h28 h29 hle rfl c d e1 m3 m5
          rw [hw1, hw2 m5] at st
          rw [hw] at m3
          rw [show nxt t now = now + 1 from if_pos ⟨m3, m5⟩]; exact st
        · have st := tl6_11 x0 x x' tk last now bo bz b b' i t _ _ ht hi h26 h14 h27 h28 h29 hle rfl c d e1 m3 m5
          rw [hw1] at st
          rw [show nxt t now = now from if_neg (fun h => m5 h.2)]; exact st
      · have st := tl6_12 x0 x x' tk last now bo bz b b' i t _ _ ht hi h26 h14 h27 h28 h29 hle rfl c d e1 m3
        rw [hw1] at st
        rw [hw] at m3
        rw [show nxt t now = now from if_neg (fun h => m3 h.1)]; exact st
    · by_cases m3 : Int.tmod (IntKind.wrap .i64 t) 3 = 0
      · by_cases m5 : now < 50000
        · have st := tl6_13 x0 x x' tk last now bo bz b b' i t _ _ ht hi h26 h14 h27 h28 h29 hle rfl c d m3 m5
          rw [hw1, hw2 m5] at st
          rw [hw] at m3
          rw [show nxt t now = now + 1 from if_pos ⟨m3, m5⟩]; exact st
        · have st := tl6_14 x0 x x' tk last now bo bz b b' i t _ _ ht hi h26 h14 h27 h28 h29 hle rfl c d m3 m5
          rw [hw1] at st
          rw [show nxt t now = now from if_neg (fun h => m5 h.2)]; exact st
      · have st := tl6_15 x0 x x' tk last now bo bz b b' i t _ _ ht hi h26 h14 h27 h28 h29 hle rfl c d m3
        rw [hw1] at st
        rw [hw] at m3
        rw [show nxt t now = now from if_neg (fun h => m3 h.1)]; exact st
theorem tt6b {x0 x : Hd} {tk : List Int} {last now : Int} {b : List Post} {i : Nat} {t e : Int} {bo : SO} {bz : Nat} (hi9 : i ≤ 100) (hnow : datOk now = true) (ht9 : 0 ≤ t ∧ t ≤ 70000) (hx : HdR x) (hmin : x.minor = x0.minor)
    (ht : tk[i]? = some t) (hi : (i : Int) < (↑(List.length (List.map u16P tk)) : Int))
    (he : ¬ e = 0) (h26 : cc (ev X E0) 26 [AV.sl .shut 9 [Hd.pv x], AV.i x0.id, AV.agg [.pv (.int .i64 x0.cur), .pv (.int .i64 (IntKind.wrap .i64 t))], AV.int .i32 now, AV.b ((i : Int) == IntKind.wrap .i64 last)] [] = some (.tup [AV.c (CV.pv (PV.sl .nil 0 [])), .i e], []))
    (h27 : cc (ev X E0) 27 [AV.sl bo bz (List.map Post.pv b), AV.i x0.acc, AV.i x0.cur, AV.int .i32 50000] [] = some (.tup [.i x.taken, .i 0], []))
    (h28 : cc (ev X E0) 28 [Hd.av x, AV.int .i32 now] [] = some (.b (live x now), [])) (h29 : cc (ev X E0) 29 [Hd.av x, AV.int .i32 now] [] = some (.i (restOf x now), [])) :
    lv (cv (ev X E0) xf6_l0) (rl [1, 0, 0, 3, 1, 0, 0]) 2 (TS6 x0 .shut tk last x bo bz b now i) = lv (cv (ev X E0) xf6_l0) (rl [1, 0, 0, 3, 1, 0, 0]) 2 (TS6 x0 .shut tk last x bo bz b (nxt t now) ((i : Int) + 1)) := by
  have hw : IntKind.wrap .i64 t = t := wi64 (by omega) (by omega)
  have hn : -50000 ≤ now ∧ now ≤ 50000 := by simpa only [datOk, decide_eq_true_eq] using hnow
  have hle : ¬ x.taken > x0.minor := by have := hx.tak; omega
  have hw1 : IntKind.wrap .i64 ((i : Int) + 1) = (i : Int) + 1 := wi64 (by omega) (by omega)
  have hw2 : now < 50000 → IntKind.wrap .i32 (now + 1) = now + 1 := fun _ => w32' (by omega) (by omega)
  rcases bcase (live x now) with c | c
  · obtain ⟨e1, e2⟩ := rest_live hx c
    rw [hmin] at e1
    by_cases m3 : Int.tmod (IntKind.wrap .i64 t) 3 = 0
    · by_cases m5 : now < 50000
      · have st := tl6b_6 x0 x tk last now bo bz b i t _ e _ ht hi he h26 h27 h28 h29 hle rfl c e1 e2 m3 m5
        rw [hw1, hw2 m5] at st
        rw [hw] at m3
        rw [show nxt t now = now + 1 from if_pos ⟨m3, m5⟩]; exact st
      · have st := tl6b_7 x0 x tk last now bo bz b i t _ e _ ht hi he h26 h27 h28 h29 hle rfl c e1 e2 m3 m5
        rw [hw1] at st
        rw [show nxt t now = now from if_neg (fun h => m5 h.2)]; exact st
    · have st := tl6b_8 x0 x tk last now bo bz b i t _ e _ ht hi he h26 h27 h28 h29 hle rfl c e1 e2 m3
      rw [hw1] at st
      rw [hw] at m3
      rw [show nxt t now = now from if_neg (fun h => m3 h.1)]; exact st
  · have e1 := rest_dead c
    rcases bcase (x.done) with d | d
    · by_cases m3 : Int.tmod (IntKind.wrap .i64 t) 3 = 0
      · by_cases m5 : now < 50000
        · have st := tl6b_10 x0 x tk last now bo bz b i t _ e _ ht hi he h26 h27 h28 h29 hle rfl c d e1 m3 m5
          rw [hw1, hw2 m5] at st
          rw [hw] at m3
          rw [show nxt t now = now + 1 from if_pos ⟨m3, m5⟩]; exact st
        · have st := tl6b_11 x0 x tk last now bo bz b i t _ e _ ht hi he h26 h27 h28 h29 hle rfl c d e1 m3 m5
          rw [hw1] at st
          rw [show nxt t now = now from if_neg (fun h => m5 h.2)]; exact st
      · have st := tl6b_12 x0 x tk last now bo bz b i t _ e _ ht hi he h26 h27 h28 h29 hle rfl c d e1 m3
        rw [hw1] at st
        rw [hw] at m3
        rw [show nxt t now = now from if_neg (fun h => m3 h.1)]; exact st
    · by_cases m3 : Int.tmod (IntKind.wrap .i64 t) 3 = 0
      · by_cases m5 : now < 50000
        · have st := tl6b_13 x0 x tk last now bo bz b i t _ e _ ht hi he h26 h27 h28 h29 hle rfl c d m3 m5
          rw [hw1, hw2 m5] at st
          rw [hw] at m3
          rw [show nxt t now = now + 1 from if_pos ⟨m3, m5⟩]; exact st
        · have st := tl6b_14 x0 x tk last now bo bz b i t _ e _ ht hi he h26 h27 h28 h29 hle rfl c d m3 m5
          rw [hw1] at st
          rw [show nxt t now = now from if_neg (fun h => m5 h.2)]; exact st
      · have st := tl6b_15 x0 x tk last now bo bz b i t _ e _ ht hi he h26 h27 h28 h29 hle rfl c d m3
        rw [hw1] at st
        rw [hw] at m3
        rw [show nxt t now = now from if_neg (fun h => m3 h.1)]; exact st
theorem tt6 {x0 : Hd} (h500 : ¬ x0.acc = 500) {tk : List Int} {last : Int} (hl : tk.length ≤ 30) (hk : ∀ t ∈ tk, 0 ≤ t ∧ t ≤ 70000) : ∀ (r pre : List Int) (x : Hd) (b : List Post) (now : Int), tk = pre ++ r → TI x0 x b now pre.length →
    ∃ (b' : List Post), lv (cv (ev X E0) xf6_l0) (rl [1, 0, 0, 3, 1, 0, 0]) 2 (TS6 x0 .shut tk last x (bo6 b) (bz6 b) b now (pre.length : Nat)) = some (XExit.exit 0, St.mk (tmOf 188 []) [Box.cells (Hd.cs x0), Box.cells [CV.pv (PV.sl (bo6 b') (bz6 b') (List.map Post.pv b'))]])
  | [], pre, x, b, now, e, h => by
    rw [List.append_nil] at e
    subst e
    exact ⟨b, tl6x_1 x0 x .shut tk last now (bo6 b) (bz6 b) b tk.length (by rw [List.length_map]; omega)⟩
  | t :: r, pre, x, b, now, e, h => by
    have hlen : tk.length = pre.length + r.length + 1 := by rw [e]; simp; omega
    have hat : tk[pre.length]? = some t := by rw [e]; simp
    have hlt : (pre.length : Int) < (((tk.map u16P).length : Nat) : Int) := by rw [List.length_map]; omega
    have ht9 := hk t (by rw [e]; simp)
    have hw : IntKind.wrap .i64 t = t := wi64 (by omega) (by omega)
    obtain ⟨k1, k2⟩ := bk6 b
    obtain ⟨n1, n2⟩ := nxt_ok (t := t) h.day
    have hc := cur_of h.ok
    have h26 := ts26 h.ok t now (by omega) ((pre.length : Int) == IntKind.wrap .i64 last)
    rw [h.id, h.cur] at h26
    rcases bcase (takes x t now) with c | c
    · have g26 := h26.1 c
      have hd : 1 ≤ t ∧ t ≤ x.minor - x.taken := by
        unfold takes at c; simp only [Bool.and_eq_true, decide_eq_true_eq] at c; exact c.2
      have hok := tkn_ok h.ok hd.1 hd.2 ((pre.length : Int) == IntKind.wrap .i64 last)
      have hac := h.ok.acc
      have hbl := h.len
      have hchk := chk_take (acc := x0.acc) (cur := x0.cur) (n := t) (id := (b.length : Int) + 1) (day := now) (by rw [← h.acc]; exact hac.1) (by rw [← h.acc]; exact hac.2) (by rw [← h.cur]; exact hc.1) (by rw [← h.cur]; exact hc.2) hd.1 (by omega) (by omega) (by omega) h.day
      have hfull : fullE b (takeP x0.acc x0.cur t ((b.length : Int) + 1) now) = 0 := full_new (by omega) hchk rfl (lastKn_all h.known) rfl
      have h14 := s19 k1 k2 (by omega) h.nice (p := ⟨(b.length : Int) + 1, now, now, .full, [⟨x0.acc, x0.cur, t⟩, ⟨500, x0.cur, -t⟩], 0, 0, []⟩) ⟨by simp, by simp, fun h => by cases h⟩
      have hadd : addE b ⟨(b.length : Int) + 1, now, now, .full, [⟨x0.acc, x0.cur, t⟩, ⟨500, x0.cur, -t⟩], 0, 0, []⟩ = 0 := by
        unfold addE; rw [h.right, if_pos rfl]; exact hfull
      have hout : outP (addR b ⟨(b.length : Int) + 1, now, now, .full, [⟨x0.acc, x0.cur, t⟩, ⟨500, x0.cur, -t⟩], 0, 0, []⟩) = PV.sl .shut 7 (List.map Post.pv (b ++ [takeP x0.acc x0.cur t ((b.length : Int) + 1) now])) := by
        unfold addR
        rw [hadd, if_pos rfl, outP, if_neg (by simp), List.map_append, sh_same h.so]
        rfl
      rw [hadd, hout] at h14
      have hti : TI x0 (tkn x t ((pre.length : Int) == IntKind.wrap .i64 last)) (b ++ [takeP x0.acc x0.cur t ((b.length : Int) + 1) now]) (nxt t now) (pre.length + 1) := by
        refine ⟨hok, h.id, h.acc, h.cur, h.minor, by rw [List.length_append, List.length_singleton]; omega, ?_, fun p hp => ?_, fun p hp => ?_, fun p hp => ?_, ?_, n1⟩
        · rw [rightB_snoc, h.right, hfull]; rfl
        · rcases List.mem_append.1 hp with hp | hp
          · exact h.so p hp
          · rw [List.mem_singleton] at hp; subst hp; rfl
        · rcases List.mem_append.1 hp with hp | hp
          · exact h.nice p hp
          · rw [List.mem_singleton] at hp; subst hp; exact ⟨by simp [takeP], by simp [takeP], fun h => by cases h⟩
        · rcases List.mem_append.1 hp with hp | hp
          · have := h.known p hp; omega
          · rw [List.mem_singleton] at hp; subst hp; exact n2
        · rw [sumBook_snoc, h.sum, take_on h500]
          have : now ≤ 50000 := by have := h.day; simp only [datOk, decide_eq_true_eq] at this; omega
          rw [show (takeP x0.acc x0.cur t ((b.length : Int) + 1) now).value = now from rfl, if_pos this]
          rfl
      have h27 := sum6 hti (by omega) (o := .shut) (s := 7) rfl
      have hwl : IntKind.wrap .i64 ((↑(List.length (List.map Post.pv b)) : Int) + 1) = (b.length : Int) + 1 := by rw [List.length_map]; exact wi64 (by omega) (by omega)
      have hwn : IntKind.wrap .i64 (0 - t) = -t := by rw [wi64 (by omega) (by omega)]; omega
      have st := tt6a (last := last) (i := pre.length) (by omega) h.day ht9 hok h.minor hat hlt (by rw [hw]; exact g26) (by rw [hw, hwl, hwn]; exact h14) h27 (ts28 hok now) (ts29 hok now)
      obtain ⟨b', ih⟩ := tt6 h500 hl hk r (pre ++ [t]) (tkn x t ((pre.length : Int) == IntKind.wrap .i64 last)) (b ++ [takeP x0.acc x0.cur t ((b.length : Int) + 1) now]) (nxt t now) (by rw [e]; simp) (by rw [List.length_append, List.length_singleton]; exact hti)
      rw [List.length_append, List.length_singleton, Int.natCast_add, Int.natCast_one] at ih
      have hne : (b ++ [takeP x0.acc x0.cur t ((b.length : Int) + 1) now]).isEmpty = false := by simp
      have e1 : bo6 (b ++ [takeP x0.acc x0.cur t ((b.length : Int) + 1) now]) = .shut := by unfold bo6; rw [hne]; rfl
      have e2 : bz6 (b ++ [takeP x0.acc x0.cur t ((b.length : Int) + 1) now]) = 7 := by unfold bz6; rw [hne]; rfl
      rw [e1, e2] at ih
      exact ⟨b', st.trans ih⟩
    · obtain ⟨e', he', g26⟩ := h26.2 c
      have hti : TI x0 x b (nxt t now) (pre.length + 1) := ⟨h.ok, h.id, h.acc, h.cur, h.minor, by have := h.len; omega, h.right, h.so, h.nice, fun p hp => by have := h.known p hp; omega, h.sum, n1⟩
      have h27 := sum6 h (by omega) k1
      have st := tt6b (last := last) (i := pre.length) (by omega) h.day ht9 h.ok h.minor hat hlt he' (by rw [hw]; exact g26) h27 (ts28 h.ok now) (ts29 h.ok now)
      obtain ⟨b', ih⟩ := tt6 h500 hl hk r (pre ++ [t]) x b (nxt t now) (by rw [e]; simp) (by rw [List.length_append, List.length_singleton]; exact hti)
      rw [List.length_append, List.length_singleton, Int.natCast_add, Int.natCast_one] at ih
      exact ⟨b', st.trans ih⟩
theorem aliveB' : cc (ev X E0) 20 [] [] = some (.b true, []) := by
  show (ev X E0 20 [] []).bind canon = _
  rw [CaliveB.aliveB]
  rfl
theorem ts25 (x : Hd) : (∃ e, ¬ e = 0 ∧ cc (ev X E0) 25 [AV.sl .nil 0 [], Hd.av x] [] = some (.tup [AV.c (CV.pv (PV.sl .nil 0 [])), .i e], [])) ∨
    (HdR x ∧ x.taken = 0 ∧ cc (ev X E0) 25 [AV.sl .nil 0 [], Hd.av x] [] = some (.tup [AV.c (CV.pv (PV.sl .shut 9 [Hd.pv x])), .i 0], [])) := by
  obtain ⟨r, h70, hr⟩ := ts70 x
  have h68 : cc (ev X E0) 68 [AV.sl .nil 0 []] [] = some (.i 0, []) := tg68z_1 (tg110z_1 (tg131z_1 (tl131z_1 0))) (tl68z_1 0)
  have h69 := tg69z_1 x.id (tg111z_1 x.id (tl111z_1 x.id))
  have h72 := tg72z_1 0
  have h71 := tg71_1 x (by simp only [List.length_cons, List.length_nil]; omega)
  rcases bcase r with c | c
  · have hx := hr c
    by_cases c1 : x.taken > 0
    · exact .inl ⟨_, by decide, tg25_2 x r h68 h69 h70 h72 h71 c c1⟩
    · rcases bcase x.done with c2 | c2
      · exact .inl ⟨_, by decide, tg25_3 x r h68 h69 h70 h72 h71 c c1 c2⟩
      · exact .inr ⟨hx, by have := hx.tak; omega, tg25_4 x r h68 h69 h70 h72 h71 c c1 c2⟩
  · exact .inl ⟨_, by decide, tg25_1 x r h68 h69 h70 h72 h71 c⟩
abbrev ctH : List CT := [.int .i64, .int .i64, .int .i64, .int .i64, .int .i64, .int .i32, .int .i32, .int .i64, .bool]
theorem TopTaken0 (x : Hd) (o : SO) (tk : List Int) (last : Int) (ho : o = .nil ∧ tk = [] ∨ o = .shut) (hk : ∀ t ∈ tk, 0 ≤ t ∧ t ≤ 70000) : cc (ev X E0) 6 [Hd.av x, AV.sl o 1 (tk.map u16P), AV.int .u8 last] [] = some (.b true, []) := by
  rcases ts25 x with ⟨e, he, h25⟩ | ⟨hx, h0, h25⟩
  · have := tg6a_1 x o tk last e he h25 aliveB'
    rw [this]
    have e1 : ((e != 0) == true) = true := by simpa using he
    rw [e1]
  · by_cases hl : (↑(List.length (List.map u16P tk)) : Int) > 30
    · exact tg6b_1 x o tk last h25 hl aliveB'
    · by_cases h5 : x.acc = 500
      · exact tg6c_1 x o tk last h25 hl h5 aliveB'
      · rcases ho with ⟨rfl, rfl⟩ | rfl
        · exact tg6d_1 x .nil [] last .nil 0 [] h25 hl h5 aliveB' (tl6x_1 x x .nil [] last x.made .nil 0 [] 0 (by simp))
        · obtain ⟨b', h⟩ := tt6 (x0 := x) (last := last) h5 (by rw [List.length_map] at hl; omega) hk tk [] x [] x.made rfl
            ⟨hx, rfl, rfl, rfl, rfl, by simp, rfl, by simp, by simp, by simp, by rw [h0]; rfl, hx.made⟩
          exact tg6d_1 x .shut tk last _ _ b' h25 hl h5 aliveB' h
end Go.Sx.Tryd
/- The statement TopTaken, of the evaluator, for what is handed in. -/
namespace Go.Sx.Tryd
open Go Go.Sx
theorem u16_inv {p : PV} (h : WT (.int .u16) p) : ∃ n, 0 ≤ n ∧ n ≤ 65535 ∧ p = .int .u16 n := int_inv h
theorem cells9 {a b c d e f g i j : PV} (h : ∀ (k : Nat) (t : CT) (p : PV), ctH[k]? = some t → [a, b, c, d, e, f, g, i, j][k]? = some p → WT t p) : ∃ x : Hd, [a, b, c, d, e, f, g, i, j] = x.pv.cells := by
  obtain ⟨n0, _, _, rfl⟩ := i64_inv (h 0 _ a rfl rfl)
  obtain ⟨n1, _, _, rfl⟩ := i64_inv (h 1 _ b rfl rfl)
  obtain ⟨n2, _, _, rfl⟩ := i64_inv (h 2 _ c rfl rfl)
  obtain ⟨n3, _, _, rfl⟩ := i64_inv (h 3 _ d rfl rfl)
  obtain ⟨n4, _, _, rfl⟩ := i64_inv (h 4 _ e rfl rfl)
  obtain ⟨n5, _, _, rfl⟩ := i32_inv (h 5 _ f rfl rfl)
  obtain ⟨n6, _, _, rfl⟩ := i32_inv (h 6 _ g rfl rfl)
  obtain ⟨n7, _, _, rfl⟩ := i64_inv (h 7 _ i rfl rfl)
  obtain ⟨n8, rfl⟩ := bool_inv (h 8 _ j rfl rfl)
  exact ⟨⟨n0, n1, n2, n3, n4, n5, n6, n7, n8⟩, rfl⟩
theorem TopTaken (x0 : List PV) (t0 : All2 WT ctH x0) (x1 : PV) (t1 : WT (.sl [.int .u16]) x1) (x2 : PV) (t2 : WT (.int .u8) x2) : ev X E0 6 [.agg (x0.map .pv), .c (.pv x1), .c (.pv x2)] [] = some (.b true, []) := by
  match x0, t0.1 with
  | [a, b, c, d, e, f, g, i, j], _ =>
  obtain ⟨x, hx⟩ := cells9 t0.2
  rw [hx]
  obtain ⟨last, _, _, rfl⟩ := u8_inv t2
  rcases sl_inv t1 with rfl | ⟨es, rfl, _, hs, hc⟩
  · exact ev_cc (TopTaken0 x .nil [] last (.inl ⟨rfl, rfl⟩) (by simp))
  · obtain ⟨l, hl, rfl⟩ := list_of (f := u16P) (Q := fun n => 0 ≤ n ∧ n ≤ 65535) fun e he => by
      obtain ⟨q1, q2, _⟩ := hs e he
      have hf := q2 rfl
      match hcs : e.cells, q1 with
      | [p], _ =>
        have hw := hc e he 0 _ p rfl (by rw [hcs]; rfl)
        obtain ⟨n, n1, n2, rfl⟩ := u16_inv hw
        refine ⟨n, ⟨n1, n2⟩, ?_⟩
        cases e <;> simp_all [PV.cells, PV.flat]
    exact ev_cc (TopTaken0 x .shut l last (.inr rfl) fun t ht => by have := hl t ht; omega)
end Go.Sx.Tryd
