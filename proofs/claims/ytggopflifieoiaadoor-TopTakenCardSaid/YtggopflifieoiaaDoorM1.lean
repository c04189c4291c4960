/- What an account has, of a book: a slice of any size that is told. -/
import Derived.Test.YtggopflifieoiaaDoorK3b
import Derived.Test.YtggopflifieoiaaDoorG0
import Derived.Test.YtggopflifieoiaaDoorN2
namespace Go.Sx.Tryd
open Go Go.Sx
abbrev S33a (l : List Post) (o : SO) (s : Nat) (acc cur v i : Int) : St := St.mk (tmOf 61 [(0, AV.c (CV.pv (PV.sl o s (List.map Post.pv l)))), (1, AV.c (CV.pv (PV.int .i64 acc))), (2, AV.c (CV.pv (PV.int .i64 cur))), (3, AV.c (CV.pv (PV.int .i32 v))), (21, AV.c (CV.pv (PV.sl o s (List.map Post.pv l)))), (22, AV.c (CV.pv (PV.int .i64 (↑(List.length (List.map Post.pv l)) : Int)))), (23, AV.c (CV.pv (PV.int .i64 i)))]) []
theorem l33a_1 (l : List Post) (o : SO) (s : Nat) (hs : SZ o s l) (acc cur v : Int) (i : Nat) (y1 : Post) (g1 : (↑i : Int) < (↑(List.length (List.map Post.pv l)) : Int)) (g2 : l[i]? = some y1) (g3 : List.length y1.memo ≤ 1000000) (g4 : List.length y1.legs ≤ 4000000000000000000) (g5 : ¬chk y1 = 0) :
    lv (cv (ev X E0) xf27_l0) (rl [0, 0, 0, 0, 17, 0, 0]) 0 (S33a l o s acc cur v (↑i : Int)) = some (XExit.ret, St.mk (tmOf 61 [(8, AV.c (vi 0)), (9, AV.c (vi (chk y1)))]) [.cells (Post.cs y1)]) :=
  lv_ret [.br true, .sz, .el (Post.pv y1), .call (AV.c (vi (chk y1))) [], .br true]
    (c := [decide ((↑i : Int) < (↑(List.length (List.map Post.pv l)) : Int)) = true, SZ o s l, 0 ≤ (↑i : Int), (List.map Post.pv l)[i]? = some (Post.pv y1), cc (ev X E0) 36 [AV.agg (Post.cs y1)] [] = some (AV.c (vi (chk y1)), []), (chk y1 != 0) = true]) (by kernel_rfl)
    ⟨(dT g1), hs, (Int.natCast_nonneg _), (map_at g2), (s37 _ g3 g4), (bne_iff_ne.mpr g5), trivial⟩
theorem l33a_2 (l : List Post) (o : SO) (s : Nat) (hs : SZ o s l) (acc cur v : Int) (i : Nat) (y1 : Post) (g1 : (↑i : Int) < (↑(List.length (List.map Post.pv l)) : Int)) (g2 : l[i]? = some y1) (g3 : List.length y1.memo ≤ 1000000) (g4 : List.length y1.legs ≤ 4000000000000000000) (g5 : chk y1 = 0) :
    lv (cv (ev X E0) xf27_l0) (rl [0, 0, 0, 0, 17, 0, 0]) 0 (S33a l o s acc cur v (↑i : Int)) = lv (cv (ev X E0) xf27_l0) (rl [0, 0, 0, 0, 17, 0, 0]) 0 (St.mk (tmOf 61 [(0, AV.c (.pv (.sl o s (List.map Post.pv l)))), (1, AV.c (vi acc)), (2, AV.c (vi cur)), (3, AV.c (vw v)), (21, AV.c (.pv (.sl o s (List.map Post.pv l)))), (22, AV.c (vi (↑(List.length (List.map Post.pv l)) : Int))), (23, AV.c (vi (IntKind.wrap .i64 ((↑i : Int) + 1))))]) []) :=
  lv_next [.br true, .sz, .el (Post.pv y1), .call (AV.c (vi (chk y1))) [], .br false]
    (c := [decide ((↑i : Int) < (↑(List.length (List.map Post.pv l)) : Int)) = true, SZ o s l, 0 ≤ (↑i : Int), (List.map Post.pv l)[i]? = some (Post.pv y1), cc (ev X E0) 36 [AV.agg (Post.cs y1)] [] = some (AV.c (vi (chk y1)), []), (chk y1 != 0) = false]) (by kernel_rfl)
    ⟨(dT g1), hs, (Int.natCast_nonneg _), (map_at g2), (s37 _ g3 g4), (bne_f g5), trivial⟩
theorem l33a_3 (l : List Post) (o : SO) (s : Nat) (_hs : SZ o s l) (acc cur v : Int) (i : Nat) (g1 : ¬(↑i : Int) < (↑(List.length (List.map Post.pv l)) : Int)) :
    lv (cv (ev X E0) xf27_l0) (rl [0, 0, 0, 0, 17, 0, 0]) 0 (S33a l o s acc cur v (↑i : Int)) = some (XExit.exit 0, St.mk (tmOf 61 [(0, AV.c (.pv (.sl o s (List.map Post.pv l)))), (1, AV.c (vi acc)), (2, AV.c (vi cur)), (3, AV.c (vw v))]) []) :=
  lv_exit [.br false]
    (c := [decide ((↑i : Int) < (↑(List.length (List.map Post.pv l)) : Int)) = false]) (by kernel_rfl)
    ⟨(dF g1), trivial⟩
abbrev S33b (l : List Post) (o : SO) (s : Nat) (acc cur v i n : Int) : St := St.mk (tmOf 61 [(1, AV.c (CV.pv (PV.int .i64 acc))), (2, AV.c (CV.pv (PV.int .i64 cur))), (3, AV.c (CV.pv (PV.int .i32 v))), (13, AV.c (CV.pv (PV.int .i64 n))), (39, AV.c (CV.pv (PV.sl o s (List.map Post.pv l)))), (40, AV.c (CV.pv (PV.int .i64 (↑(List.length (List.map Post.pv l)) : Int)))), (41, AV.c (CV.pv (PV.int .i64 i)))]) []
theorem l33b_1 (l : List Post) (o : SO) (s : Nat) (hs : SZ o s l) (acc cur v n : Int) (i : Nat) (y1 : Post) (g1 : (↑i : Int) < (↑(List.length (List.map Post.pv l)) : Int)) (g2 : l[i]? = some y1) (g3 : List.length y1.memo ≤ 1000000) (g4 : List.length y1.legs ≤ 4000000000000000000) (g5 : y1.value ≤ v) :
    lv (cv (ev X E0) xf27_l1) (rl [1, 0, 0, 9, 25, 0, 0]) 0 (S33b l o s acc cur v (↑i : Int) n) = lv (cv (ev X E0) xf27_l1) (rl [1, 0, 0, 9, 25, 0, 0]) 0 (St.mk (tmOf 61 [(1, AV.c (vi acc)), (2, AV.c (vi cur)), (3, AV.c (vw v)), (13, AV.c (vi (IntKind.wrap .i64 (n + onV y1 acc cur)))), (39, AV.c (.pv (.sl o s (List.map Post.pv l)))), (40, AV.c (vi (↑(List.length (List.map Post.pv l)) : Int))), (41, AV.c (vi (IntKind.wrap .i64 ((↑i : Int) + 1))))]) []) :=
  lv_next [.br true, .sz, .el (Post.pv y1), .call (AV.tup [AV.c (vi (onV y1 acc cur)), AV.c (vi (chk y1))]) [], .br true]
    (c := [decide ((↑i : Int) < (↑(List.length (List.map Post.pv l)) : Int)) = true, SZ o s l, 0 ≤ (↑i : Int), (List.map Post.pv l)[i]? = some (Post.pv y1), cc (ev X E0) 73 [AV.agg (Post.cs y1), AV.c (vi acc), AV.c (vi cur)] [] = some (AV.tup [AV.c (vi (onV y1 acc cur)), AV.c (vi (chk y1))], []), decide (y1.value ≤ v) = true]) (by kernel_rfl)
    ⟨(dT g1), hs, (Int.natCast_nonneg _), (map_at g2), (s40 _ _ _ g3 g4), (dT g5), trivial⟩
theorem l33b_2 (l : List Post) (o : SO) (s : Nat) (hs : SZ o s l) (acc cur v n : Int) (i : Nat) (y1 : Post) (g1 : (↑i : Int) < (↑(List.length (List.map Post.pv l)) : Int)) (g2 : l[i]? = some y1) (g3 : List.length y1.memo ≤ 1000000) (g4 : List.length y1.legs ≤ 4000000000000000000) (g5 : ¬y1.value ≤ v) :
    lv (cv (ev X E0) xf27_l1) (rl [1, 0, 0, 9, 25, 0, 0]) 0 (S33b l o s acc cur v (↑i : Int) n) = lv (cv (ev X E0) xf27_l1) (rl [1, 0, 0, 9, 25, 0, 0]) 0 (St.mk (tmOf 61 [(1, AV.c (vi acc)), (2, AV.c (vi cur)), (3, AV.c (vw v)), (13, AV.c (vi n)), (39, AV.c (.pv (.sl o s (List.map Post.pv l)))), (40, AV.c (vi (↑(List.length (List.map Post.pv l)) : Int))), (41, AV.c (vi (IntKind.wrap .i64 ((↑i : Int) + 1))))]) []) :=
  lv_next [.br true, .sz, .el (Post.pv y1), .call (AV.tup [AV.c (vi (onV y1 acc cur)), AV.c (vi (chk y1))]) [], .br false]
    (c := [decide ((↑i : Int) < (↑(List.length (List.map Post.pv l)) : Int)) = true, SZ o s l, 0 ≤ (↑i : Int), (List.map Post.pv l)[i]? = some (Post.pv y1), cc (ev X E0) 73 [AV.agg (Post.cs y1), AV.c (vi acc), AV.c (vi cur)] [] = some (AV.tup [AV.c (vi (onV y1 acc cur)), AV.c (vi (chk y1))], []), decide (y1.value ≤ v) = false]) (by kernel_rfl)
    ⟨(dT g1), hs, (Int.natCast_nonneg _), (map_at g2), (s40 _ _ _ g3 g4), (dF g5), trivial⟩
theorem l33b_3 (l : List Post) (o : SO) (s : Nat) (_hs : SZ o s l) (acc cur v n : Int) (i : Nat) (g1 : ¬(↑i : Int) < (↑(List.length (List.map Post.pv l)) : Int)) :
    lv (cv (ev X E0) xf27_l1) (rl [1, 0, 0, 9, 25, 0, 0]) 0 (S33b l o s acc cur v (↑i : Int) n) = some (XExit.exit 2, St.mk (tmOf 61 [(13, AV.c (vi n))]) []) :=
  lv_exit [.br false]
    (c := [decide ((↑i : Int) < (↑(List.length (List.map Post.pv l)) : Int)) = false]) (by kernel_rfl)
    ⟨(dF g1), trivial⟩
def bad (p : Post) : Bool := !(chk p == 0)
theorem a33 {l : List Post} {o : SO} {s : Nat} (hs : szOk 7 (CV.pv (PV.sl o s (List.map Post.pv l))) = true) {acc cur v : Int} (hl : l.length ≤ 1000) (hf : ∀ p ∈ l, Fair p) : lv (cv (ev X E0) xf27_l0) (rl [0, 0, 0, 0, 17, 0, 0]) 0 (S33a l o s acc cur v 0) =
    some ((l.find? bad).elim (XExit.exit 0, St.mk (tmOf 61 [(0, AV.c (CV.pv (PV.sl o s (List.map Post.pv l)))), (1, AV.c (CV.pv (PV.int .i64 acc))), (2, AV.c (CV.pv (PV.int .i64 cur))), (3, AV.c (CV.pv (PV.int .i32 v)))]) [])
      (fun p => (XExit.ret, St.mk (tmOf 61 [(8, AV.c (CV.pv (PV.int .i64 0))), (9, AV.c (CV.pv (PV.int .i64 (chk p))))]) [Box.cells (Post.cs p)]))) := by
  refine lv_find (S33a l o s acc cur v) (l33a_3 l o s hs acc cur v l.length (by simp)) (fun i y hat hlt hw => ?_) fun i y hat hlt hw => ?_
  · have hy := hf y (List.mem_of_getElem? hat)
    exact l33a_1 l o s hs acc cur v i y (lt_lenP hlt) hat hy.1 hy.2 (by simpa [bad] using hw)
  · have hy := hf y (List.mem_of_getElem? hat)
    have := l33a_2 l o s hs acc cur v i y (lt_lenP hlt) hat hy.1 hy.2 (by simpa [bad] using hw)
    rwa [wi64 (by omega) (by omega)] at this
def addBook (acc cur v : Int) (n : Int) (p : Post) : Int := n + (if p.value ≤ v then sumIf (onW acc cur) p.legs else 0)
def sumBook (acc cur v : Int) : List Post → Int
  | [] => 0
  | p :: r => (if p.value ≤ v then sumIf (onW acc cur) p.legs else 0) + sumBook acc cur v r
theorem foldBook (acc cur v : Int) : ∀ (l : List Post) (n : Int), l.foldl (addBook acc cur v) n = n + sumBook acc cur v l
  | [], n => by simp [sumBook]
  | p :: r, n => by rw [List.foldl_cons, foldBook acc cur v r, sumBook, addBook]; omega
theorem sumBook_bound {acc cur v : Int} : ∀ {l : List Post}, (∀ p ∈ l, chk p = 0) → -(16000000000000000 * (l.length : Int)) ≤ sumBook acc cur v l ∧ sumBook acc cur v l ≤ 16000000000000000 * (l.length : Int)
  | [], _ => by simp [sumBook]
  | p :: r, h => by
    have hi := chk_inv (h p (by simp))
    have h1 := sumIf_bound (w := onW acc cur) hi.2.2.2.2.2.2.2.1
    have h2 := hi.2.2.2.2.1
    have ih := sumBook_bound (acc := acc) (cur := cur) (v := v) (l := r) fun y hy => h y (by simp [hy])
    simp only [sumBook, List.length_cons, Int.natCast_add, Int.natCast_one]
    split <;> omega
theorem b33 {l : List Post} {o : SO} {s : Nat} (hs : szOk 7 (CV.pv (PV.sl o s (List.map Post.pv l))) = true) {acc cur v : Int} (hl : l.length ≤ 400) (hf : ∀ p ∈ l, Fair p) (hc : ∀ p ∈ l, chk p = 0) : lv (cv (ev X E0) xf27_l1) (rl [1, 0, 0, 9, 25, 0, 0]) 0 (S33b l o s acc cur v 0 0) =
    some (XExit.exit 2, St.mk (tmOf 61 [(13, AV.c (CV.pv (PV.int .i64 (sumBook acc cur v l))))]) []) := by
  have hfo : l.foldl (addBook acc cur v) 0 = sumBook acc cur v l := by rw [foldBook]; omega
  refine lv_fold (l := l) (addBook acc cur v) 0 (fun i n => S33b l o s acc cur v i n) (by rw [hfo]; exact l33b_3 l o s hs acc cur v _ l.length (by simp)) fun i y n hat hlt hn => ?_
  have hb := sumBook_bound (acc := acc) (cur := cur) (v := v) (l := l.take i) fun x hx => hc x (List.mem_of_mem_take hx)
  have hlen : (l.take i).length = i := by rw [List.length_take]; omega
  rw [foldBook, Int.zero_add] at hn
  rw [hlen, ← hn] at hb
  have hm := List.mem_of_getElem? hat
  have hy := hf y hm
  have hi := chk_inv (hc y hm)
  have h1 := sumIf_bound (w := onW acc cur) hi.2.2.2.2.2.2.2.1
  have h2 := hi.2.2.2.2.1
  have hon : onV y acc cur = sumIf (onW acc cur) y.legs := by rw [onV, if_pos (hc y hm)]
  simp only [addBook]
  by_cases h : y.value ≤ v
  · have := l33b_1 l o s hs acc cur v n i y (lt_lenP hlt) hat hy.1 hy.2 h
    rw [hon, wi64 (by omega) (by omega), wi64 (by omega) (by omega)] at this
    rw [if_pos h]; exact this
  · have := l33b_2 l o s hs acc cur v n i y (lt_lenP hlt) hat hy.1 hy.2 h
    rw [wi64 (by omega) (by omega)] at this
    rw [if_neg h, Int.add_zero]; exact this
abbrev A33 (l : List Post) (o : SO) (s : Nat) (acc cur v : Int) : St := St.mk (tmOf 61 [(0, AV.c (CV.pv (PV.sl o s (List.map Post.pv l)))), (1, AV.c (CV.pv (PV.int .i64 acc))), (2, AV.c (CV.pv (PV.int .i64 cur))), (3, AV.c (CV.pv (PV.int .i32 v)))]) []
abbrev f33_h (l : List Post) (o : SO) (s : Nat) (acc cur v : Int) : Prop := lv (cv (ev X E0) xf27_l0) (rl [0, 0, 0, 0, 17, 0, 0]) 0 (S33a l o s acc cur v 0) = some (XExit.exit 0, A33 l o s acc cur v)
abbrev f33_h1 (l : List Post) (o : SO) (s : Nat) (acc cur v n : Int) : Prop := lv (cv (ev X E0) xf27_l1) (rl [1, 0, 0, 9, 25, 0, 0]) 0 (S33b l o s acc cur v 0 0) = some (XExit.exit 2, St.mk (tmOf 61 [(13, AV.c (vi n))]) [])
theorem f33_2 (l : List Post) (o : SO) (s : Nat) (acc cur v n : Int) (h : f33_h l o s acc cur v) (_h1 : f33_h1 l o s acc cur v n) (g1 : ¬(↑(List.length (List.map Post.pv l)) : Int) > 400) (g2 : cur < 0) :
    cc (ev X E0) 27 [AV.c (.pv (.sl o s (List.map Post.pv l))), AV.c (vi acc), AV.c (vi cur), AV.c (vw v)] [] = some (AV.tup [AV.c (vi 0), AV.c (vi 12)], []) :=
  cc_path (x := xf27) rfl ([.br false, .loop (XExit.exit 0) (St.mk (tmOf 61 [(0, AV.c (.pv (.sl o s (List.map Post.pv l)))), (1, AV.c (vi acc)), (2, AV.c (vi cur)), (3, AV.c (vw v))]) [])] ++ bs 4 true)
    (c := rq [(1, decide ((↑(List.length (List.map Post.pv l)) : Int) > 400) = false), ty h, (3, decide (cur < 0) = true), (1, true = true)]) (by kernel_rfl)
    (aq ⟨(dF g1), h, (dT g2), rfl, trivial⟩)
theorem f33_3 (l : List Post) (o : SO) (s : Nat) (acc cur v n : Int) (h : f33_h l o s acc cur v) (_h1 : f33_h1 l o s acc cur v n) (g1 : ¬(↑(List.length (List.map Post.pv l)) : Int) > 400) (g2 : ¬cur < 0) (g3 : cur ≥ 4) :
    cc (ev X E0) 27 [AV.c (.pv (.sl o s (List.map Post.pv l))), AV.c (vi acc), AV.c (vi cur), AV.c (vw v)] [] = some (AV.tup [AV.c (vi 0), AV.c (vi 12)], []) :=
  cc_path (x := xf27) rfl ([.br false, .loop (XExit.exit 0) (St.mk (tmOf 61 [(0, AV.c (.pv (.sl o s (List.map Post.pv l)))), (1, AV.c (vi acc)), (2, AV.c (vi cur)), (3, AV.c (vw v))]) [])] ++ bs 3 false ++ [.br true])
    (c := rq [(1, decide ((↑(List.length (List.map Post.pv l)) : Int) > 400) = false), ty h, (3, decide (cur < 0) = false), (1, decide (cur ≥ 4) = true)]) (by kernel_rfl)
    (aq ⟨(dF g1), h, (dF g2), (dT g3), trivial⟩)
theorem f33_4 (l : List Post) (o : SO) (s : Nat) (acc cur v n : Int) (h : f33_h l o s acc cur v) (h1 : f33_h1 l o s acc cur v n) (g1 : ¬(↑(List.length (List.map Post.pv l)) : Int) > 400) (g2 : ¬cur < 0) (g3 : ¬cur ≥ 4) :
    cc (ev X E0) 27 [AV.c (.pv (.sl o s (List.map Post.pv l))), AV.c (vi acc), AV.c (vi cur), AV.c (vw v)] [] = some (AV.tup [AV.c (vi n), AV.c (vi 0)], []) :=
  cc_path (x := xf27) rfl ([.br false, .loop (XExit.exit 0) (St.mk (tmOf 61 [(0, AV.c (.pv (.sl o s (List.map Post.pv l)))), (1, AV.c (vi acc)), (2, AV.c (vi cur)), (3, AV.c (vw v))]) [])] ++ bs 4 false ++ [.loop (XExit.exit 2) (St.mk (tmOf 61 [(13, AV.c (vi n))]) [])])
    (c := rq [(1, decide ((↑(List.length (List.map Post.pv l)) : Int) > 400) = false), ty h, (3, decide (cur < 0) = false), (1, decide (cur ≥ 4) = false), ty h1]) (by kernel_rfl)
    (aq ⟨(dF g1), h, (dF g2), (dF g3), h1, trivial⟩)
theorem s33 {l : List Post} {o : SO} {s : Nat} (hs : szOk 7 (CV.pv (PV.sl o s (List.map Post.pv l))) = true) (acc cur v : Int) (hl : l.length ≤ 400) (hc : ∀ p ∈ l, chk p = 0) (hN : ∀ p ∈ l, Nice p) :
    cc (ev X E0) 27 [AV.sl o s (l.map Post.pv), AV.i acc, AV.i cur, AV.int .i32 v] [] = some (.tup [AV.i (if cur < 0 ∨ cur ≥ 4 then 0 else sumBook acc cur v l), AV.i (if cur < 0 ∨ cur ≥ 4 then 12 else 0)], []) := by
  have len : (((l.map Post.pv).length : Nat) : Int) = l.length := by rw [List.length_map]
  have hf : ∀ p ∈ l, Fair p := fun p hp => ⟨(hN p hp).memo, by have := (hN p hp).legs; omega⟩
  have hn : l.find? bad = none := by
    rw [List.find?_eq_none]
    intro p hp
    simp [bad, hc p hp]
  have a := a33 (acc := acc) (cur := cur) (v := v) hs (by omega) hf
  rw [hn] at a
  have b := b33 (acc := acc) (cur := cur) (v := v) hs hl hf hc
  by_cases c1 : cur < 0
  · rw [if_pos (Or.inl c1), if_pos (Or.inl c1)]
    exact f33_2 l o s acc cur v _ a b (by rw [len]; omega) c1
  · by_cases c2 : cur ≥ 4
    · rw [if_pos (Or.inr c2), if_pos (Or.inr c2)]
      exact f33_3 l o s acc cur v _ a b (by rw [len]; omega) c1 c2
    · rw [if_neg (by omega), if_neg (by omega)]
      exact f33_4 l o s acc cur v _ a b (by rw [len]; omega) c1 c2
end Go.Sx.Tryd
