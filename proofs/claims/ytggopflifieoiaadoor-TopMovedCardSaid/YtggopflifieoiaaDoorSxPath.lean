/- One path through code, computed; what it takes for granted is told. -/
import Derived.Test.YtggopflifieoiaaDoorSxArgs
namespace Go.Sx
open Go
inductive It where
  | br (b : Bool)
  | emp (b : Bool)
  | el (p : PV)
  | byte (b : UInt8)
  | bytes (l : List UInt8)
  | opt (o : Option PV)
  | kv (l : List (PV × PV))
  | dec (c w : Nat)
  | v (a : AV)
  | s (a : AV) (st : St)
  | call (a : AV) (bs : List Box)
  | at (i c : Nat) (e : PV)
  | shut (a : AV)
  | sz
  | sa
  | nn
  | els (es : List PV)
  | pl (p : Nat)
  | loop (e : XExit) (st : St)
def AllP : List Prop → Prop
  | [] => True
  | p :: l => p ∧ AllP l
theorem AllP_append {a b : List Prop} : AllP (a ++ b) ↔ AllP a ∧ AllP b := by
  induction a with
  | nil => simp [AllP]
  | cons p l ih => simp [AllP, ih, and_assoc]
def tmOf (n : Nat) : List (Nat × AV) → List AV
  | [] => List.replicate n .undef
  | (i, v) :: r => (tmOf n r).set i v
def intBinO (op : BinOp) (k : IntKind) (x y : Int) : Option (PV × List Prop) :=
  match op with
  | .add => some (.int k (k.wrap (x + y)), [])
  | .sub => some (.int k (k.wrap (x - y)), [])
  | .mul => some (.int k (k.wrap (x * y)), [])
  | .quo => some (.int k (k.wrap (x.tdiv y)), [y ≠ 0])
  | .rem => some (.int k (x.tmod y), [y ≠ 0])
  | .and => some (.int k (k.wrap (BitVec.ofInt k.bits x &&& BitVec.ofInt k.bits y).toNat), [])
  | .or => some (.int k (k.wrap (BitVec.ofInt k.bits x ||| BitVec.ofInt k.bits y).toNat), [])
  | .xor => some (.int k (k.wrap (BitVec.ofInt k.bits x ^^^ BitVec.ofInt k.bits y).toNat), [])
  | .eql => some (.bool (x == y), [])
  | .neq => some (.bool (x != y), [])
  | .lss => some (.bool (x < y), [])
  | .leq => some (.bool (x ≤ y), [])
  | .gtr => some (.bool (x > y), [])
  | .geq => some (.bool (x ≥ y), [])
  | .shl => some (.int k (k.wrap (x * 2 ^ min y.toNat k.bits)), [0 ≤ y])
  | .shr => some (.int k (x.fdiv (2 ^ min y.toNat k.bits)), [0 ≤ y])
  | _ => none
theorem intBinO_ok {op : BinOp} {k k' : IntKind} {x y : Int} {p : PV} {c : List Prop} (h : intBinO op k x y = some (p, c)) (hc : AllP c) (hk : op = .shl ∨ op = .shr ∨ k = k') : binV op (.c (.pv (.int k x))) (.c (.pv (.int k' y))) = some (.c (.pv p)) := by
  cases op <;> simp only [intBinO, Option.some.injEq, Prod.mk.injEq, reduceCtorEq] at h <;> (try (obtain ⟨rfl, rfl⟩ := h)) <;>
    simp_all [binV, intBin, shiftBin, AllP] <;> (try omega)
def callArgs (f : XArg) (args : List XArg) (st : St) : Option (Nat × List AV × List Box) :=
  match getA st.tm f with
  | .c (.fn g caps) =>
    let as := args.map (getA st.tm) ++ caps.map fun k => .c (.ptr k 0)
    let K := reach st.bx 200 (as.flatMap AV.keys) []
    match getBs st.bx K with
    | some sub => some (g, as.map (AV.map fun x => x.shutAll.renK K), sub.map (Box.map' fun x => (freshIds id (sub.flatMap Box.all |>.flatMap CV.ids) x).renK K))
    | none => none
  | _ => none
def strBinO (op : BinOp) (x y : List UInt8) : Option (PV × List Prop) :=
  match op with
  | .add => some (.str (x ++ y), [x.length + y.length ≤ 9223372036854775807])
  | .eql => some (.bool (x == y), [])
  | .neq => some (.bool (!(x == y)), [])
  | _ => none
def binO (op : BinOp) (x y : AV) : Option (AV × List Prop) :=
  match x, y with
  | .c (.pv (.int k a)), .c (.pv (.int k' b)) => if op = .shl ∨ op = .shr ∨ k = k' then (intBinO op k a b).map fun p => (.c (.pv p.1), p.2) else none
  | .c (.pv (.str a)), .c (.pv (.str b)) => (strBinO op a b).map fun p => (.c (.pv p.1), p.2)
  | _, _ => none
theorem binO_ok {op : BinOp} {x y v : AV} {c : List Prop} (h : binO op x y = some (v, c)) (hc : AllP c) : binV op x y = some v := by
  unfold binO at h
  split at h
  · rename_i k a k' b
    split at h
    · rename_i hk
      obtain ⟨p, h1, h2⟩ := Option.map_eq_some_iff.1 h
      cases h2
      exact intBinO_ok h1 hc hk
    · cases h
  · rename_i a b
    obtain ⟨p, h1, h2⟩ := Option.map_eq_some_iff.1 h
    cases h2
    cases op <;> simp only [strBinO, Option.some.injEq, reduceCtorEq] at h1 <;> subst h1 <;> simp_all [binV, strBin, AllP]
  · cases h
def cut {α : Type} (l : List α) (lo hi : Bool) (a b : Int) : List α :=
  match lo, hi with
  | false, false => l
  | true, false => l.drop a.toNat
  | false, true => l.take b.toNat
  | true, true => (l.drop a.toNat).take (b.toNat - a.toNat)
theorem cut_eq {α : Type} {l : List α} {lo hi : Bool} {a b : Int} (h1 : lo = false → a = 0) (h2 : hi = false → b = l.length) : cut l lo hi a b = (l.drop a.toNat).take (b.toNat - a.toNat) := by
  cases lo <;> cases hi <;> simp only [cut]
  · rw [h1 rfl, h2 rfl]; simp
  · rw [h1 rfl]; simp
  · rw [h2 rfl, List.take_of_length_le]; simp
theorem optI_lo {tm : List AV} {o : Option XArg} {d a : Int} (h : optI tm o d = some a) : o.isSome = false → a = d := by
  cases o with
  | none => intro _; simpa [optI] using h.symm
  | some x => intro h; cases h
def CV.some' : CV → Bool
  | .pv (.sl o _ _) => o != .nil
  | .own _ _ _ => true
  | _ => false
def sliceVN (sz : Nat) (lo hi : Bool) (a b : Int) (m : Option (Option Int)) (es : List PV) : Option (AV × List Prop) :=
  match m with
  | none => some (.sl .shut sz (cut es lo hi a b), [0 ≤ a, a ≤ b, b ≤ es.length])
  | some (some c) => some (.sl .full sz (cut es lo hi a b), [0 ≤ a, a ≤ b, b = c, c ≤ es.length])
  | some none => none
def sliceVO (sz : Nat) (y : CV) (lo hi : Bool) (a b : Int) (m : Option (Option Int)) (es : List PV) : Option (AV × List Prop) :=
  match m with
  | none => some ((match y with
      | .pv (.sl .nil _ _) => .c y
      | _ => .sl .shut sz (cut es lo hi a b)), [0 ≤ a, a ≤ b, b ≤ es.length])
  | some (some c) => some ((match y with
      | .pv (.sl .nil _ _) => .c y
      | _ => .sl .full sz (cut es lo hi a b)), [0 ≤ a, a ≤ b, b = c, c ≤ es.length])
  | some none => none
def idsOf (q : AV × List Box) : List Nat := q.1.all.flatMap CV.ids ++ (q.2.flatMap Box.all |>.flatMap CV.ids)
def canon (q : AV × List Box) : Option (AV × List Box) :=
  if nodupB (idsOf q) then some (q.1.map (renIdBy (idsOf q) id), q.2.map (Box.map' (renIdBy (idsOf q) id))) else none
def cc (call : Oracle) : Oracle := fun g a b => (call g a b).bind canon
theorem idx_nodup : ∀ {l : List Nat} {p i : Nat}, l.Nodup → l[p]? = some i → l.idxOf? i = some p
  | [], _, _, _, h => by simp at h
  | a :: l, 0, i, _, h => by simp at h; subst h; simp [List.idxOf?_cons]
  | a :: l, p + 1, i, hn, h => by
    have hn' := List.nodup_cons.1 hn
    have h' : l[p]? = some i := by simpa using h
    have : a ≠ i := fun e => hn'.1 (e ▸ List.mem_of_getElem? h')
    rw [List.idxOf?_cons]
    simp [this, idx_nodup hn'.2 h']
def pos (I : List Nat) (i : Nat) : Nat := (I.idxOf? i).getD 0
theorem map_pos {I : List Nat} (h : I.Nodup) : I.map (pos I) = List.range I.length := by
  apply List.ext_getElem
  · simp
  · intro p h1 h2
    have hp : p < I.length := by simpa using h1
    simp only [List.getElem_map, List.getElem_range, pos]
    rw [idx_nodup h (List.getElem?_eq_getElem hp)]
    rfl
theorem idx_range {n p : Nat} (h : p < n) : (List.range n).idxOf? p = some p := idx_nodup List.nodup_range (by simp [h])
theorem idx_lt {I : List Nat} {i p : Nat} (h : I.idxOf? i = some p) : p < I.length := by
  have := idxOf?_get h
  exact (List.getElem?_eq_some_iff.1 this).1
theorem ren_ren (I : List Nat) (f : Nat → Nat) (x : CV) : renIdBy (List.range I.length) f (renIdBy I id x) = renIdBy I f x := by
  cases x with
  | own i sz es =>
    simp only [renIdBy]
    cases h : I.idxOf? i with
    | none => rfl
    | some p => simp only [id, idx_range (idx_lt h)]
  | _ => rfl
theorem mem_idx {I : List Nat} {i : Nat} (h : i ∈ I) : ∃ p, I.idxOf? i = some p := by
  cases e : I.idxOf? i with
  | some p => exact ⟨p, rfl⟩
  | none => simp only [List.idxOf?_eq_none_iff] at e; exact absurd h e
theorem ids_ren {I : List Nat} {x : CV} (h : ∀ i ∈ x.ids, i ∈ I) : (renIdBy I id x).ids = x.ids.map (pos I) := by
  cases x with
  | own i sz es =>
    obtain ⟨p, hp⟩ := mem_idx (h i (by simp [CV.ids]))
    simp [renIdBy, hp, CV.ids, pos]
  | _ => rfl
theorem ids_cells {I : List Nat} : ∀ {l : List CV}, (∀ i ∈ l.flatMap CV.ids, i ∈ I) → (l.map (renIdBy I id)).flatMap CV.ids = (l.flatMap CV.ids).map (pos I)
  | [], _ => rfl
  | x :: l, h => by
    simp only [List.map_cons, List.flatMap_cons, List.map_append]
    rw [ids_ren fun i hi => h i (by simp only [List.flatMap_cons, List.mem_append]; exact Or.inl hi), ids_cells fun i hi => h i (by simp only [List.flatMap_cons, List.mem_append]; exact Or.inr hi)]
theorem ids_all0 {I : List Nat} {a : AV} (h : ∀ i ∈ a.all0.flatMap CV.ids, i ∈ I) : ((a.map0 (renIdBy I id)).all0).flatMap CV.ids = (a.all0.flatMap CV.ids).map (pos I) := by
  cases a with
  | c x => exact ids_cells (l := [x]) h
  | agg cs => exact ids_cells h
  | tup vs => rfl
theorem ids_tup {I : List Nat} : ∀ {l : List AV}, (∀ i ∈ (l.flatMap AV.all0).flatMap CV.ids, i ∈ I) → ((l.map (AV.map0 (renIdBy I id))).flatMap AV.all0).flatMap CV.ids = ((l.flatMap AV.all0).flatMap CV.ids).map (pos I)
  | [], _ => rfl
  | a :: l, h => by
    simp only [List.map_cons, List.flatMap_cons, List.flatMap_append, List.map_append]
    rw [ids_all0 fun i hi => h i (by simp only [List.flatMap_cons, List.flatMap_append, List.mem_append]; exact Or.inl hi), ids_tup fun i hi => h i (by simp only [List.flatMap_cons, List.flatMap_append, List.mem_append]; exact Or.inr hi)]
theorem ids_all {I : List Nat} {a : AV} (h : ∀ i ∈ a.all.flatMap CV.ids, i ∈ I) : ((a.map (renIdBy I id)).all).flatMap CV.ids = (a.all.flatMap CV.ids).map (pos I) := by
  cases a with
  | c x => exact ids_cells (l := [x]) h
  | agg cs => exact ids_cells h
  | tup vs => exact ids_tup h
theorem ids_box {I : List Nat} {b : Box} (h : ∀ i ∈ b.all.flatMap CV.ids, i ∈ I) : ((b.map' (renIdBy I id)).all).flatMap CV.ids = (b.all.flatMap CV.ids).map (pos I) := by
  cases b with
  | cells cs => exact ids_cells h
  | _ => rfl
theorem ids_boxes {I : List Nat} : ∀ {l : List Box}, (∀ i ∈ (l.flatMap Box.all).flatMap CV.ids, i ∈ I) → ((l.map (Box.map' (renIdBy I id))).flatMap Box.all).flatMap CV.ids = ((l.flatMap Box.all).flatMap CV.ids).map (pos I)
  | [], _ => rfl
  | a :: l, h => by
    simp only [List.map_cons, List.flatMap_cons, List.flatMap_append, List.map_append]
    rw [ids_box fun i hi => h i (by simp only [List.flatMap_cons, List.flatMap_append, List.mem_append]; exact Or.inl hi), ids_boxes fun i hi => h i (by simp only [List.flatMap_cons, List.flatMap_append, List.mem_append]; exact Or.inr hi)]
theorem nodupB_nodup : ∀ {l : List Nat}, l.Nodup → nodupB l = true
  | [], _ => rfl
  | x :: l, h => by
    have := List.nodup_cons.1 h
    simp [nodupB, this.1, nodupB_nodup this.2]
theorem box_map_map (f g : CV → CV) (b : Box) : (b.map' g).map' f = b.map' fun x => f (g x) := by
  cases b <;> simp only [Box.map', List.map_map] <;> rfl
theorem cc_some {call : Oracle} {g : Nat} {a : List AV} {b : List Box} {r : AV} {bs : List Box} (h : cc call g a b = some (r, bs)) :
    ∃ r' bs', call g a b = some (r', bs') ∧ (idsOf (r', bs')).Nodup ∧ idsOf (r, bs) = List.range (idsOf (r', bs')).length ∧ r = r'.map (renIdBy (idsOf (r', bs')) id) ∧ bs = bs'.map (Box.map' (renIdBy (idsOf (r', bs')) id)) := by
  obtain ⟨⟨r', bs'⟩, h1, h2⟩ := Option.bind_eq_some_iff.1 h
  unfold canon at h2
  split at h2
  · rename_i hn
    cases h2
    refine ⟨r', bs', h1, nodupB_ok hn, ?_, rfl, rfl⟩
    rw [← map_pos (nodupB_ok hn)]
    show (_ : List Nat) ++ _ = _
    simp only
    rw [ids_all fun i hi => by simp only [idsOf, List.mem_append]; exact Or.inl hi, ids_boxes fun i hi => by simp only [idsOf, List.mem_append]; exact Or.inr hi, ← List.map_append]
    rfl
  · cases h2
theorem map_shut_ren (I : List Nat) (x : CV) : (renIdBy I id x).shutAll = x.shutAll := by
  cases x with
  | own i sz es => simp only [renIdBy]; split <;> rfl
  | _ => rfl
def cs (call : Oracle) (g : Nat) (a : List AV) : Option AV := match call g a [] with
  | some (r, []) => some (r.map CV.shutAll)
  | _ => none
def pPn (call : Oracle) (op : XOp) (tm : List AV) (its : List It) : Option (AV × List Prop × List It) := (evP call op tm).map fun a => (a, [], its)
def pP (call : Oracle) (op : XOp) (tm : List AV) (its : List It) : Option (AV × List Prop × List It) :=
  match op with
  | .bin op x y => (binO op (getA tm x) (getA tm y)).map fun p => (p.1, p.2, its)
  | .call _ _ f args => match its, getA tm f with
    | .shut r :: its', .c (.fn g []) => if ((args.map (getA tm)).all fun a => noTup a && a.keys.isEmpty) = true then some (r, [cs call g ((args.map (getA tm)).map (AV.map CV.shutAll)) = some r], its') else none
    | .call r bs :: its', .c (.fn g []) => if (((args.map (getA tm)).all fun a => noTup a && a.keys.isEmpty) && bs.isEmpty) = true then some (r.map CV.shutAll, [cc call g ((args.map (getA tm)).map (AV.map CV.shutAll)) [] = some (r, [])], its') else none
    | _, _ => none
  | .pick c a b => match its, getA tm c with
    | .br r :: its', .c (.pv (.bool t)) => some ((if r then getA tm a else getA tm b), [t = r], its')
    | _, _ => none
  | .idxS x i => match its, getA tm x, asI (getA tm i) with
    | .byte b :: its', .c (.pv (.str l)), some j => some (.int .u8 (b.toNat : Int), [0 ≤ j, l[j.toNat]? = some b], its')
    | its, _, _ => pPn call (.idxS x i) tm its
  | .iaddrA len sz x i => match getA tm x, asI (getA tm i) with
    | .c (.ptr k o), some j => some (.c (.ptr k (o + j.toNat * sz)), [0 ≤ j, j < len], its)
    | .c (.cptr l o), some j => some (.c (.cptr l (o + j.toNat * sz)), [0 ≤ j, j < len], its)
    | _, _ => none
  | .iaddrS sz x i => match its, getA tm x, asI (getA tm i) with
    | its, .c (.ms k off s n), some j => if s = sz then some (.c (.ptr k (off + j.toNat * sz)), [0 ≤ j, j < n], its) else none
    | .sz :: .el p :: its', .c y, some j => match slEs y with
      | some es => some (.c (.cptr p.cells 0), [szOk sz y = true, 0 ≤ j, es[j.toNat]? = some p], its')
      | none => none
    | .el p :: its', .c y, some j => match slEs y with
      | some es => if szOk sz y then some (.c (.cptr p.cells 0), [0 ≤ j, es[j.toNat]? = some p], its') else none
      | none => none
    | its, _, _ => pPn call (.iaddrS sz x i) tm its
  | .sliceS x lo hi => match getA tm x with
    | .c (.pv (.str l)) => match optI tm lo 0, optI tm hi l.length with
      | some a, some b => some (.s (cut l lo.isSome hi.isSome a b), [0 ≤ a, a ≤ b, b ≤ l.length], its)
      | _, _ => none
    | _ => none
  | .sliceV sz x lo hi mx => match getA tm x with
    | .c (.ms k off s n) => (match its, optI tm lo 0, optI tm hi n, mx with
      | .emp z :: its', some a, some b, none => if s = sz then some ((if z then .sl .shut sz [] else .c (.ms k (off + a.toNat * s) s (b.toNat - a.toNat))), [0 ≤ a, a ≤ b, b ≤ n, if z = true then a = b else ¬ a = b], its') else none
      | its, _, _, _ => pPn call (.sliceV sz x lo hi mx) tm its)
    | .c y => match slEs y with
      | some es => match its with
        | .nn :: its' => match optI tm lo 0, optI tm hi es.length with
          | some a, some b => (sliceVN sz lo.isSome hi.isSome a b (mx.map fun m => asI (getA tm m)) es).map fun p => (p.1, [szOk sz y = true, y.some' = true] ++ p.2, its')
          | _, _ => none
        | its => if szOk sz y then match optI tm lo 0, optI tm hi es.length with
        | some a, some b => (sliceVO sz y lo.isSome hi.isSome a b (mx.map fun m => asI (getA tm m)) es).map fun p => (p.1, p.2, its)
        | _, _ => none
        else none
      | none => none
    | _ => none
  | .bytesS x => match its, getA tm x with
    | .bytes l :: its', .c y => match slEs y with
      | some es => some (.s l, [bytesOf' es = some l], its')
      | none => none
    | its, _ => pPn call (.bytesS x) tm its
  | op => match its with
    | .v a :: its' => some (a, [evP call op tm = some a], its')
    | its => pPn call op tm its
theorem pPn_ok {call : Oracle} {op : XOp} {tm : List AV} {its its' : List It} {a : AV} {c : List Prop} (h : pPn call op tm its = some (a, c, its')) : evP call op tm = some a := by
  obtain ⟨b, h1, h2⟩ := Option.map_eq_some_iff.1 h
  cases h2; exact h1
theorem pP_ok {call : Oracle} {op : XOp} {tm : List AV} {its its' : List It} {a : AV} {c : List Prop} (h : pP call op tm its = some (a, c, its')) (hc : AllP c) : evP call op tm = some a := by
  unfold pP at h
  split at h
  · obtain ⟨p, h1, h2⟩ := Option.map_eq_some_iff.1 h
    cases h2
    simp only [evP]
    exact binO_ok h1 hc
  · split at h
    · rename_i r its2 g _ e
      split at h
      · rename_i hb
        cases h
        simp only [evP, e]
        rw [if_pos hb]
        exact hc.1
      · cases h
    · rename_i r bs its2 g _ e
      split at h
      · rename_i hb
        cases h
        simp only [Bool.and_eq_true] at hb
        obtain ⟨r', bs', e1, _, _, e2, e3⟩ := cc_some hc.1
        have e3 : bs' = [] := by cases bs' with | nil => rfl | cons _ _ => cases e3
        subst e3
        simp only [evP, e]
        rw [if_pos hb.1, e1, e2, av_map_map _ _ rfl]
        simp only [map_shut_ren]
      · cases h
    · cases h
  · split at h
    · rename_i r its2 t e1
      cases h
      simp only [evP, e1, hc.1]
    · cases h
  · split at h
    · rename_i b its2 l j e1 e2
      cases h
      simp only [evP, e1, e2]
      rw [if_pos hc.1, hc.2.1]
    · exact pPn_ok h
  · split at h
    · rename_i k o j e1 e2
      cases h
      simp only [evP, e1, e2]
      rw [if_pos ⟨hc.1, hc.2.1⟩]
    · rename_i k o j e1 e2
      cases h
      simp only [evP, e1, e2]
      rw [if_pos ⟨hc.1, hc.2.1⟩]
    · cases h
  · split at h
    · rename_i k off s n j e1 e2
      split at h
      · rename_i hs
        cases h
        simp only [evP, e1, e2]
        rw [if_pos ⟨hs, hc.1, hc.2.1⟩]
      · cases h
    · rename_i p its2 y j _ e1 e2
      split at h
      · rename_i es e3
        cases h
        simp only [evP, e1, e2, e3]
        rw [if_pos ⟨hc.2.1, hc.1⟩, hc.2.2.1]
      · cases h
    · rename_i p its2 y j _ e1 e2
      split at h
      · rename_i es e3
        split at h
        · rename_i e4
          cases h
          have h1 := hc.1; have h2 := hc.2.1
          simp only [evP, e1, e2, e3]
          rw [if_pos ⟨h1, e4⟩, h2]
        · cases h
      · cases h
    · exact pPn_ok h
  · split at h
    · rename_i l e1
      split at h
      · rename_i a b e2 e3
        cases h
        simp only [evP, e1, e2, e3]
        rw [if_pos ⟨hc.1, hc.2.1, hc.2.2.1⟩, cut_eq (optI_lo e2) (optI_lo e3)]
      · cases h
    · cases h
  · split at h
    · rename_i k off s n e1
      split at h
      · rename_i z its2 a b e2 e3
        split at h
        · rename_i hs
          cases h
          simp only [evP, e1, e2, e3]
          rw [if_pos ⟨hs, hc.1, hc.2.1, hc.2.2.1⟩]
          have h4 := hc.2.2.2.1
          cases z
          · rw [if_neg (by simpa using h4)]; rfl
          · rw [if_pos (by simpa using h4)]; rfl
        · cases h
      · exact pPn_ok h
    · rename_i y hne e1
      split at h
      · rename_i es e2
        split at h
        · rename_i its2
          split at h
          · rename_i a b e4 e5
            obtain ⟨p, h1, h2⟩ := Option.map_eq_some_iff.1 h
            cases h2
            have h3 := hc.1; have h4 := hc.2.1; have hc := hc.2.2
            simp only [evP, e1, e2, h3, if_true, e4, e5]
            have hn : ∀ s l, y ≠ .pv (.sl .nil s l) := fun s l h => by subst h; cases h4
            unfold sliceVN at h1
            split at h1
            · rename_i hm
              cases h1
              have hmx : _ = none := Option.map_eq_none_iff.1 hm
              subst hmx
              simp only
              rw [if_pos ⟨hc.1, hc.2.1, hc.2.2.1⟩, cut_eq (optI_lo e4) (optI_lo e5)]
              all_goals (split <;> first | rfl | exact absurd rfl (hn _ _))
            · rename_i c' hm
              cases h1
              obtain ⟨mm, rfl, hmm⟩ := Option.map_eq_some_iff.1 hm
              simp only [hmm]
              rw [if_pos ⟨hc.1, hc.2.1, hc.2.2.1, hc.2.2.2.1⟩, cut_eq (optI_lo e4) (optI_lo e5)]
              all_goals (split <;> first | rfl | exact absurd rfl (hn _ _))
            · cases h1
          · cases h
        · split at h
          · rename_i e3
            split at h
            · rename_i a b e4 e5
              obtain ⟨p, h1, h2⟩ := Option.map_eq_some_iff.1 h
              cases h2
              simp only [evP, e1, e2, e3, if_true, e4, e5]
              unfold sliceVO at h1
              split at h1
              · rename_i hm
                cases h1
                have hmx : _ = none := Option.map_eq_none_iff.1 hm
                subst hmx
                simp only
                rw [if_pos ⟨hc.1, hc.2.1, hc.2.2.1⟩, cut_eq (optI_lo e4) (optI_lo e5)]
                split <;> simp_all
              · rename_i c' hm
                cases h1
                obtain ⟨mm, rfl, hmm⟩ := Option.map_eq_some_iff.1 hm
                simp only [hmm]
                rw [if_pos ⟨hc.1, hc.2.1, hc.2.2.1, hc.2.2.2.1⟩, cut_eq (optI_lo e4) (optI_lo e5)]
                split <;> simp_all
              · cases h1
            · cases h
          · cases h
      · cases h
    · cases h
  · split at h
    · rename_i l its2 y e1
      split at h
      · rename_i es e2
        cases h
        simp only [evP, e1, e2, hc.1, Option.map_some]
      · cases h
    · exact pPn_ok h
  · split at h
    · cases h; exact hc.1
    · exact pPn_ok h
def isRow (bx : List Box) (k : Nat) : Bool := match bx[k]? with
  | some (.row _ _) => true
  | _ => false
def pAt (bx : List Box) (ag : Bool) (n k off i c : Nat) (e : PV) : Option (AV × List Prop) := match bx[k]? with
  | some (.row sz es) => if c < sz then (match takeC n e.cells c with
      | some l => (if ag then some (.agg l) else match l with
        | [x] => some (.c x)
        | _ => none).map fun v => (v, [off = i * sz + c, es[i]? = some e])
      | none => none) else none
  | _ => none
theorem at_div {i sz c off : Nat} (h : off = i * sz + c) (hc : c < sz) : off / sz = i ∧ off % sz = c := by
  subst h
  constructor
  · rw [Nat.add_comm, Nat.add_mul_div_right _ _ (by omega), Nat.div_eq_of_lt hc]; omega
  · rw [Nat.add_comm, Nat.add_mul_mod_self_right, Nat.mod_eq_of_lt hc]
theorem pAt_ok {bx : List Box} {ag : Bool} {n k off i c : Nat} {e : PV} {v : AV} {cs : List Prop} (h : pAt bx ag n k off i c e = some (v, cs)) (hc : AllP cs) : loadB bx ag n k off = some v := by
  unfold pAt at h
  split at h
  · rename_i sz es hk
    split at h
    · rename_i hlt
      split at h
      · rename_i l hl
        obtain ⟨w, h1, h2⟩ := Option.map_eq_some_iff.1 h
        cases h2
        obtain ⟨d1, d2⟩ := at_div hc.1 hlt
        simp only [loadB, hk, Option.bind_some, Box.look, takeR, d1, d2, hc.2.1, hl]
        exact h1
      · cases h
    · cases h
  · cases h
theorem bytesOf_pvB (l : List UInt8) : bytesOf' (pvBytes l) = some l := by
  induction l with
  | nil => rfl
  | cons b r ih =>
    have h : bytesOf' (pvBytes r) = some r := ih
    simp only [pvBytes, List.map_cons, bytesOf', byteOf]
    simp only [pvBytes] at h
    rw [h]
    simp
def frzE (b : Option Box) (sz off n : Nat) : Option (List PV) := b.bind (Box.elems sz off n)
def CV.frzT (es : List PV) (dies : Nat → Bool) : CV → CV
  | .ms k off sz n => if dies k then .pv (.sl .shut sz es) else .ms k off sz n
  | x => x.freeze [] dies
def CV.frzP (es : List PV) (bx : List Box) (dies : Nat → Bool) : CV → List Prop
  | .ms k off sz n => if dies k then [frzE bx[k]? sz off n = some es] else []
  | _ => []
theorem CV.frzT_ok {es : List PV} {bx : List Box} {dies : Nat → Bool} {x : CV} (h : AllP (x.frzP es bx dies)) : x.freeze bx dies = x.frzT es dies := by
  cases x with
  | ms k off sz n =>
    simp only [CV.freeze, CV.frzT, CV.frzP] at h ⊢
    split
    · rename_i hd
      rw [if_pos hd] at h
      have := h.1
      unfold frzE at this
      rw [this]
    · rfl
  | _ => rfl
theorem AllP_flat {α : Type} {f : α → List Prop} : ∀ {l : List α}, AllP (l.flatMap f) → ∀ x ∈ l, AllP (f x)
  | [], _, x, hx => by simp at hx
  | a :: l, h, x, hx => by
    rw [List.flatMap_cons] at h
    have h := AllP_append.1 h
    rcases List.mem_cons.1 hx with rfl | hx
    · exact h.1
    · exact AllP_flat h.2 x hx
theorem AV.map_eq {f g : CV → CV} {a : AV} (h : ∀ x ∈ a.all, f x = g x) : a.map f = a.map g := by
  cases a with
  | c x => simp only [AV.map]; rw [h x (by simp [AV.all])]
  | agg cs => exact congrArg AV.agg (List.map_congr_left fun x hx => h x hx)
  | tup vs =>
    simp only [AV.map]
    rw [List.map_congr_left fun x hx => ?_]
    have hx' : ∀ y ∈ x.all0, f y = g y := fun y hy => h y (by simp only [AV.all, List.mem_flatMap]; exact ⟨x, hx, hy⟩)
    cases x with
    | c x => simp only [AV.map0]; rw [hx' x (by simp [AV.all0])]
    | agg cs => exact congrArg AV.agg (List.map_congr_left fun y hy => hx' y hy)
    | tup vs => rfl
theorem Box.map_eq {f g : CV → CV} {b : Box} (h : ∀ x ∈ b.all, f x = g x) : b.map' f = b.map' g := by
  cases b with
  | cells cs => exact congrArg Box.cells (List.map_congr_left fun x hx => h x hx)
  | _ => rfl
def boxP (es : List PV) (bx : List Box) (dies : Nat → Bool) : Nat → List Box → List Prop
  | _, [] => []
  | j, b :: r => (if dies j then [] else b.all.flatMap (CV.frzP es bx dies)) ++ boxP es bx dies (j + 1) r
def St.frzT (es : List PV) (dies : Nat → Bool) (st : St) : St := ⟨st.tm.map (AV.map (CV.frzT es dies)), killB dies 0 (st.bx.map (Box.map' (CV.frzT es dies)))⟩
def St.frzP (es : List PV) (dies : Nat → Bool) (st : St) : List Prop := (st.tm.flatMap AV.all).flatMap (CV.frzP es st.bx dies) ++ boxP es st.bx dies 0 st.bx
theorem boxP_ok {es : List PV} {bx : List Box} {dies : Nat → Bool} : ∀ {l : List Box} {j : Nat}, AllP (boxP es bx dies j l) → killB dies j (l.map (Box.map' (CV.freeze bx dies))) = killB dies j (l.map (Box.map' (CV.frzT es dies)))
  | [], _, _ => rfl
  | b :: l, j, h => by
    simp only [boxP] at h
    have h := AllP_append.1 h
    simp only [List.map_cons, killB]
    rw [boxP_ok h.2]
    split
    · rfl
    · rename_i hd
      rw [if_neg hd] at h
      rw [Box.map_eq fun x hx => CV.frzT_ok (AllP_flat h.1 x hx)]
theorem St.frzT_ok {es : List PV} {dies : Nat → Bool} {st : St} (h : AllP (st.frzP es dies)) : st.freeze dies = st.frzT es dies := by
  have h := AllP_append.1 h
  simp only [St.freeze, St.frzT, St.mk.injEq]
  refine ⟨List.map_congr_left fun a ha => AV.map_eq fun x hx => CV.frzT_ok (AllP_flat h.1 x (List.mem_flatMap.2 ⟨a, ha, hx⟩)), boxP_ok h.2⟩
def leaveT (es : List PV) (m : Nat) (r : AV) (bx : List Box) : (AV × List Box) × List Prop :=
  if (r.all ++ (bx.take m).flatMap Box.all).any (CV.holds m) then ((r, bx), [])
  else ((r.map (CV.frzT es fun k => decide (m ≤ k)), (bx.take m).map (Box.map' (CV.frzT es fun k => decide (m ≤ k)))), (r.all ++ (bx.take m).flatMap Box.all).flatMap (CV.frzP es bx fun k => decide (m ≤ k)))
theorem leaveT_ok {es : List PV} {m : Nat} {r : AV} {bx : List Box} (h : AllP (leaveT es m r bx).2) : leave m r bx = (leaveT es m r bx).1 := by
  unfold leave leaveT at *
  split
  · rfl
  · rename_i hn
    rw [if_neg hn] at h
    simp only at h ⊢
    rw [AV.map_eq fun x hx => CV.frzT_ok (AllP_flat h x (by simp [hx]))]
    congr 1
    exact List.map_congr_left fun b hb => Box.map_eq fun x hx => CV.frzT_ok (AllP_flat h x (by simp only [List.mem_append, List.mem_flatMap]; exact .inr ⟨b, hb, hx⟩))
def pR (op : XOp) (tm : List AV) (bx : List Box) (its : List It) : Option (AV × List Prop × List It) :=
  match its with
  | .at i c e :: its' => match op with
    | .load ag n a => match getA tm a with
      | .c (.ptr k off) => if isRow bx k then (pAt bx ag n k off i c e).map fun p => (p.1, p.2, its') else (evR op tm bx).map fun a => (a, [], its)
      | _ => (evR op tm bx).map fun a => (a, [], its)
    | .loadR ag n a u => match getA tm a, getA tm u with
      | .c (.ptr k off), .c (.ptr k' _) => if isRow bx k then (if k = k' then (pAt bx ag n k off i c e).map fun p => (p.1, p.2, its') else none) else (evR op tm bx).map fun a => (a, [], its)
      | _, _ => none
    | _ => (evR op tm bx).map fun a => (a, [], its)
  | .v a :: its' => some (a, [evR op tm bx = some a], its')
  | .emp z :: its' => match op with
    | .sliceM sz x lo hi mx => match getA tm x with
      | .c (.ms k off s n) => match bx[k]? with
        | some (.row s' es) => if s = sz ∧ s' = sz ∧ off % sz = 0 then
            (match optI tm lo 0, optI tm hi n, mx with
             | some a, some b, none => some (.c (.ms k (off + a.toNat * sz) sz (b.toNat - a.toNat)), [0 ≤ a, a ≤ b, b.toNat + off / sz ≤ es.length, if z = true then a = 0 else a.toNat + off / sz < es.length], its')
             | some a, some b, some m => match asI (getA tm m) with
               | some c => some (.undef, [0 ≤ a, a ≤ b, b ≤ c, c.toNat + off / sz ≤ es.length], its')
               | none => none
             | _, _, _ => none)
          else none
        | _ => none
      | _ => none
    | _ => (evR op tm bx).map fun a => (a, [], its)
  | .bytes l :: its' => match op with
    | .bytesM x => match getA tm x with
      | .c (.ms k off sz n) => if sz = 1 then some (.s l, [frzE bx[k]? 1 off n = some (pvBytes l)], its') else none
      | _ => none
    | _ => (evR op tm bx).map fun a => (a, [], its)
  | .opt o :: its' => match op with
    | .mlook z ok m k n => match getA tm m, (getA tm k).toPV with
      | .c (.mp b), some p => match bx[b]? with
        | some (.map kv) => if keyN n p then some ((match o with
          | some v => if ok then .tup [mval z v, .b true] else mval z v
          | none => if ok then .tup [mval z z, .b false] else mval z z), [mapGet kv p = some o], its') else none
        | _ => none
      | _, _ => none
    | _ => (evR op tm bx).map fun a => (a, [], its)
  | its => (evR op tm bx).map fun a => (a, [], its)
theorem pR_ok {op : XOp} {tm : List AV} {bx : List Box} {its its' : List It} {a : AV} {c : List Prop} (h : pR op tm bx its = some (a, c, its')) (hc : AllP c) : evR op tm bx = some a := by
  have fin : ∀ {its : List It}, ((evR op tm bx).map fun a => (a, ([] : List Prop), its)) = some (a, c, its') → evR op tm bx = some a := by
    intro its h
    obtain ⟨b, h1, h2⟩ := Option.map_eq_some_iff.1 h
    cases h2; exact h1
  unfold pR at h
  split at h
  · split at h
    · split at h
      · rename_i e1
        split at h
        · obtain ⟨p, h1, h2⟩ := Option.map_eq_some_iff.1 h
          cases h2
          simp only [evR, e1]
          exact pAt_ok h1 hc
        · exact fin h
      · exact fin h
    · split at h
      · rename_i e1 e2
        split at h
        · split at h
          · rename_i hk
            obtain ⟨p, h1, h2⟩ := Option.map_eq_some_iff.1 h
            cases h2
            simp only [evR, e1, e2]
            rw [if_pos hk]
            exact pAt_ok h1 hc
          · cases h
        · exact fin h
      · cases h
    · exact fin h
  · cases h; exact hc.1
  · rename_i z its2
    split at h
    · split at h
      · rename_i k off s n e1
        split at h
        · rename_i s' es e2
          split at h
          · rename_i hcond
            simp only [evR, e1, e2]
            rw [if_pos hcond]
            split at h
            · rename_i _ a b hp hq
              cases h
              rw [hp, hq]
              simp only
              refine if_pos ⟨hc.1, hc.2.1, hc.2.2.1, ?_⟩
              have h4 := hc.2.2.2.1
              cases z
              · exact .inr (by simpa using h4)
              · exact .inl (by simpa using h4)
            · rename_i _ a b m hp hq
              rw [hp, hq]
              simp only
              split at h
              · rename_i c hm
                cases h
                rw [hm]
                exact if_pos ⟨hc.1, hc.2.1, hc.2.2.1, hc.2.2.2.1⟩
              · cases h
            · cases h
          · cases h
        · cases h
      · cases h
    · exact fin h
  · split at h
    · split at h
      · rename_i k off sz n e1
        split at h
        · rename_i hs
          subst hs
          cases h
          obtain ⟨b, h1, h2⟩ := Option.bind_eq_some_iff.1 (show bx[k]?.bind (Box.elems 1 off n) = _ from hc.1)
          simp only [evR, e1, h1, h2]
          rw [if_pos trivial, bytesOf_pvB]
          rfl
        · cases h
      · cases h
    · exact fin h
  · rename_i o its2
    split at h
    · split at h
      · rename_i b p e1 e2
        split at h
        · rename_i kv e3
          split at h
          · rename_i hkn
            cases h
            simp only [evR, e1, e2, e3]
            rw [if_pos hkn]
            simp only [hc.1]
            cases o <;> rfl
          · cases h
        · cases h
      · cases h
    · exact fin h
  · exact fin h
def pW (call : Oracle) (d : Option Nat) (op : XOp) (st : St) (its : List It) : Option (AV × St × List Prop × List It) :=
  match op with
  | .callM f args => match its, getA st.tm f with
    | .call (.c (.own i sz es)) [] :: its', .c (.fn g []) => if (((args.map (getA st.tm)).all fun a => noTup a && a.keys.isEmpty) && decide (0 < sz)) = true then some (.c (.ms st.bx.length 0 sz es.length), ⟨st.tm, st.bx ++ [.row sz es]⟩, [es.all (rowE sz) = true, cc call g ((args.map (getA st.tm)).map (AV.map CV.shutAll)) [] = some (.c (.own i sz es), [])], its') else none
    | _, _ => none
  | .store n a x => match its, getA st.tm a with
    | .at i c e :: its', .c (.ptr k off) => match st.bx[k]? with
      | some (.row sz es) => if ((getA st.tm x).flat ∧ (getA st.tm x).cells.length = n ∧ 0 < n) ∧ c < sz then (match putE sz e c (getA st.tm x).cells with
          | some e' => some (.undef, ⟨st.tm, st.bx.set k (.row sz (es.set i e'))⟩, [off = i * sz + c, es[i]? = some e], its')
          | none => none) else none
      | _ => (evW call d (.store n a x) st).map fun p => (p.1, p.2, [], its)
    | its, _ => (evW call d (.store n a x) st).map fun p => (p.1, p.2, [], its)
  | .call fz ap f args => match its with
    | .els es :: .call r bs :: its' => if fz then
        let dies := fun k => ((args.map (getA st.tm)).flatMap AV.all |>.flatMap msKeys).contains k
        match callArgs f args (st.frzT es dies) with
        | some (g, a, b) => (callW (fun _ _ _ => some (r, bs)) d false ap f args (st.frzT es dies)).map fun p => (p.1, p.2, st.frzP es dies ++ [cc call g a b = some (r, bs)], its')
        | none => none
      else none
    | .call r bs :: its' =>
      let st1 := if fz then st.freeze (fun k => ((args.map (getA st.tm)).flatMap AV.all |>.flatMap msKeys).contains k) else st
      match callArgs f args st1 with
      | some (g, a, b) => (callW (fun _ _ _ => some (r, bs)) d fz ap f args st).map fun p => (p.1, p.2, [cc call g a b = some (r, bs)], its')
      | none => none
    | _ => none
  | .app sz bytes s x => match (match its, getA st.tm x with
      | .sa :: its', .c (.pv (.sl o s' es)) => some (es, [szOk sz (.pv (.sl o s' es)) = true], its')
      | its, y => (srcEs sz st.bx y).map fun es => (es, [], its)) with
    | some (new, c0, its) => match getA st.tm s with
      | .c (.own i s' es) => if s' = sz then some (.c (.own (idOf d 63) sz (es ++ new)), (st.mapC (CV.shutId i)).mapC (CV.shutId (idOf d 63)), c0 ++ [((es.length + new.length : Nat) : Int) * bytes ≤ 140737488355328], its) else none
      | .c (.pv (.sl o s' es)) => match its with
        | .emp true :: its' => some (.c (.pv (.sl o s' es)), st, c0 ++ [new = []], its')
        | .emp false :: its' => if o ≠ .shut ∧ (o = .nil ∨ s' = sz) then some (.c (.own (idOf d 63) sz (es ++ new)), st.mapC (CV.shutId (idOf d 63)), c0 ++ [new ≠ [], ((es.length + new.length : Nat) : Int) * bytes ≤ 140737488355328], its') else none
        | _ => none
      | _ => none
    | none => none
  | .appM sz s x => match (match its, getA st.tm x with
      | .els new :: its', .c (.ms k off s' n) => if s' = sz then some (new, [frzE st.bx[k]? sz off n = some new], its') else none
      | its, y => (srcEs sz st.bx y).map fun es => (es, [], its)) with
    | some (new, c0, its) => match getA st.tm s with
      | .c (.ms k off s' n) => if s' = sz then
          (match its with
           | .emp true :: its' => some (.c (.ms k off sz n), st, c0 ++ [new = []], its')
           | .emp false :: its' => match st.bx[k]? with
             | some (.row z es) => if z = sz ∧ off % sz = 0 ∧ 0 < sz then some (.c (.ms k off sz (n + new.length)), ⟨st.tm, st.bx.set k (.row sz (putEs es (off / sz + n) new))⟩, c0 ++ [new ≠ [], off / sz + n + new.length ≤ es.length, new.all (rowE sz) = true], its') else none
             | _ => none
           | _ => none)
        else none
      | _ => none
    | none => none
  | .clr z sz x => match getA st.tm x, toPVs z with
    | .c (.ms k off s n), some ps => if s = sz ∧ z.length = sz ∧ rowE sz (rowOf sz ps) = true then
        (match its with
         | .emp true :: its' => some (.tup [], st, [n = 0], its')
         | .pl p :: its' => match st.bx[k]? with
           | some (.row z' es) => if z' = sz ∧ 0 < sz then some (.tup [], ⟨st.tm, st.bx.set k (.row sz (putEs es p (List.replicate n (rowOf sz ps))))⟩, [off = p * sz, n ≠ 0, p + n ≤ es.length], its') else none
           | _ => none
         | _ => none)
      else none
    | _, _ => none
  | .sbytes x => match getA st.tm x with
    | .c (.pv (.str l)) => some (.c (.ms st.bx.length 0 1 l.length), ⟨st.tm, st.bx ++ [.row 1 (pvBytes l)]⟩, [l.length ≤ 16777216], its)
    | _ => none
  | .mupd m k v n => match its, getA st.tm m, (getA st.tm k).toPV, (getA st.tm v).toPV with
    | .kv l :: its', .c (.mp b), some p, some q => match st.bx[b]? with
      | some (.map kv) => if keyN n p then some (.undef, ⟨st.tm, st.bx.set b (.map l)⟩, [mapPut kv p q = some l], its') else none
      | _ => none
    | its, _, _, _ => (evW call d (.mupd m k v n) st).map fun p => (p.1, p.2, [], its)
  | .ment z m k n => match its, getA st.tm m, (getA st.tm k).toPV with
    | .opt (some v) :: .pl i :: its', .c (.mp b), some p => match st.bx[b]? with
      | some (.map kv) => if keyN n p then some (.tup [mval z v, .i (i : Nat)], ⟨st.tm, st.bx.set b (.map kv)⟩, [mapPos kv p 0 = some (some (i, v))], its') else none
      | _ => none
    | .opt none :: its', .c (.mp b), some p => match st.bx[b]? with
      | some (.map kv) => if keyN n p then some (.tup [mval z z, .i (kv.length : Nat)], ⟨st.tm, st.bx.set b (.map (kv ++ [(p, z)]))⟩, [mapPos kv p 0 = some none], its') else none
      | _ => none
    | its, _, _ => (evW call d (.ment z m k n) st).map fun p => (p.1, p.2, [], its)
  | .mest m s v => match its, getA st.tm m, getA st.tm s, (getA st.tm v).toPV with
    | .kv l :: its', .c (.mp b), .c (.pv (.int .i64 i)), some q => match st.bx[b]? with
      | some (.map kv) => some (.undef, ⟨st.tm, st.bx.set b (.map l)⟩, [0 ≤ i ∧ i.toNat < kv.length ∧ mapSet kv i.toNat q = l], its')
      | _ => none
    | its, _, _, _ => (evW call d (.mest m s v) st).map fun p => (p.1, p.2, [], its)
  | .nxt it => match getA st.tm it with
    | .c (.ptr k 0) => match st.bx[k]? with
      | some (.iter l pos) => match its with
        | .dec c wd :: its' => some (.tup [.b true, .i pos, .int .i32 c], ⟨st.tm, st.bx.set k (.iter l (pos + wd))⟩, [pos < l.length, Utf8.decode ⟨l.toArray⟩ pos = (c, wd)], its')
        | .emp _ :: its' => some (.tup [.b false], st, [¬ pos < l.length], its')
        | _ => none
      | _ => none
    | _ => none
  | op => match its with
    | .s a st' :: its' => some (a, st', [evW call d op st = some (a, st')], its')
    | its => (evW call d op st).map fun p => (p.1, p.2, [], its)
theorem callW_told {call : Oracle} {r : AV} {bs : List Box} {d : Option Nat} {fz : Bool} {ap : List XArg} {f : XArg} {args : List XArg} {st : St} {p : AV × St} (h : callW (fun _ _ _ => some (r, bs)) d fz ap f args st = some p)
    {g : Nat} {a : List AV} {b : List Box}
    (ha : callArgs f args (if fz then st.freeze (fun k => ((args.map (getA st.tm)).flatMap AV.all |>.flatMap msKeys).contains k) else st) = some (g, a, b)) (hc : cc call g a b = some (r, bs)) : callW call d fz ap f args st = some p := by
  obtain ⟨r', bs', hc, hn, hI, hr, hbs⟩ := cc_some hc
  simp only [callW] at h ⊢
  generalize (if fz = true then St.freeze (fun k => ((args.map (getA st.tm)).flatMap AV.all |>.flatMap msKeys).contains k) st else st) = st1 at h ha ⊢
  split at h
  · rename_i g caps e
    split at h
    · rename_i hall
      rw [if_pos hall]
      split at h
      · rename_i sub hsub
        simp only [callArgs, e, hsub, Option.some.injEq, Prod.mk.injEq] at ha
        obtain ⟨rfl, rfl, rfl⟩ := ha
        rw [hc]
        simp only
        have hI' : r.all.flatMap CV.ids ++ (bs.flatMap Box.all |>.flatMap CV.ids) = List.range (idsOf (r', bs')).length := hI
        rw [hI'] at h
        have hl : bs.length = bs'.length := by rw [hbs, List.length_map]
        rw [hl] at h
        show _ = some p
        rw [← h]
        have hid : r'.all.flatMap CV.ids ++ (bs'.flatMap Box.all |>.flatMap CV.ids) = idsOf (r', bs') := rfl
        rw [hid, hr, hbs]
        have key : ∀ (K : List Nat) (L : Nat) (x : CV), (freshIds (idOf d) (List.range (idsOf (r', bs')).length) (renIdBy (idsOf (r', bs')) id x)).back K L = (freshIds (idOf d) (idsOf (r', bs')) x).back K L := by
          intro K L x
          unfold freshIds
          rw [if_pos (nodupB_nodup List.nodup_range), if_pos (nodupB_nodup hn), ren_ren]
        have und : ∀ (K : List Nat) (L : Nat), (fun x => (freshIds (idOf d) (List.range (idsOf (r', bs')).length) x).back K L) .undef = .undef := by
          intro K L
          simp only
          unfold freshIds
          rw [if_pos (nodupB_nodup List.nodup_range)]
          rfl
        rw [av_map_map _ _ (und _ _)]
        simp only [List.map_map, key, List.length_range]
        have bk : ∀ (K : List Nat) (L : Nat), ((Box.map' fun x => (freshIds (idOf d) (List.range (idsOf (r', bs')).length) x).back K L) ∘ Box.map' (renIdBy (idsOf (r', bs')) id)) = Box.map' fun x => (freshIds (idOf d) (idsOf (r', bs')) x).back K L := by
          intro K L
          funext b
          simp only [Function.comp, box_map_map, key]
        rw [bk]
      · cases h
    · cases h
  · cases h
theorem pW_ok {call : Oracle} {d : Option Nat} {op : XOp} {st s : St} {its its' : List It} {a : AV} {c : List Prop} (h : pW call d op st its = some (a, s, c, its')) (hc : AllP c) : evW call d op st = some (a, s) := by
  have fin : ∀ {its : List It} {op : XOp}, ((evW call d op st).map fun p => (p.1, p.2, ([] : List Prop), its)) = some (a, s, c, its') → evW call d op st = some (a, s) := by
    intro its op h
    obtain ⟨b, h1, h2⟩ := Option.map_eq_some_iff.1 h
    cases h2; exact h1
  unfold pW at h
  split at h
  · split at h
    · rename_i i sz es its2 g e
      split at h
      · rename_i hb
        cases h
        simp only [Bool.and_eq_true] at hb
        obtain ⟨r', bs', e1, _, _, e2, e3⟩ := cc_some hc.2.1
        have e3 : bs' = [] := by cases bs' with | nil => rfl | cons _ _ => cases e3
        subst e3
        cases r' with
        | c x =>
          cases x with
          | own i' sz' es' =>
            have : sz' = sz ∧ es' = es := by
              simp only [AV.map, renIdBy, AV.c.injEq] at e2
              split at e2 <;> cases e2
              exact ⟨rfl, rfl⟩
            obtain ⟨rfl, rfl⟩ := this
            simp only [evW, callMV, e]
            rw [if_pos hb.1, e1]
            simp only
            rw [if_pos (by rw [hc.1, hb.2]; rfl)]
          | _ => cases e2
        | _ => cases e2
      · cases h
    · cases h
  · split at h
    · rename_i i c' e its2 k off e1
      split at h
      · rename_i sz es hk
        split at h
        · rename_i hcond
          split at h
          · rename_i e' hp
            cases h
            obtain ⟨d1, d2⟩ := at_div hc.1 hcond.2
            simp only [evW, e1, hk]
            rw [if_pos hcond.1]
            simp only [Box.put, putR, d1, d2, hc.2.1, hp, Option.map_some]
          · cases h
        · cases h
      · exact fin h
    · exact fin h
  · split at h
    · rename_i es r bs its2
      split at h
      · rename_i hfz
        subst hfz
        simp only at h
        split at h
        · rename_i g x b e
          obtain ⟨p, h1, h2⟩ := Option.map_eq_some_iff.1 h
          cases h2
          have hc := AllP_append.1 hc
          have hf := St.frzT_ok hc.1
          have := callW_told (fz := false) h1 (by rw [if_neg (by simp)]; exact e) hc.2.1
          rw [← hf] at this
          simp only [evW, callW, if_true, Bool.false_eq_true, if_false] at this ⊢
          exact this
        · cases h
      · cases h
    · simp only at h
      split at h
      · rename_i g x b e
        obtain ⟨p, h1, h2⟩ := Option.map_eq_some_iff.1 h
        cases h2
        exact callW_told h1 e hc.1
      · cases h
    · cases h
  · rename_i sz0 bytes0 s0 x0
    split at h
    · rename_i new c0 its2 e0
      have e2 : AllP c0 → srcEs sz0 st.bx (getA st.tm x0) = some new := fun h0 => by
        split at e0
        · rename_i e
          cases e0
          rw [e]
          simp only [srcEs]
          rw [if_pos h0.1]
          rfl
        · obtain ⟨p, h1, h2⟩ := Option.map_eq_some_iff.1 e0
          cases h2
          exact h1
      split at h
      · rename_i i s' es e1
        split at h
        · rename_i hs
          cases h
          have hc := AllP_append.1 hc
          simp only [evW, e1, e2 hc.1]
          rw [if_pos ⟨hs, hc.2.1⟩]
        · cases h
      · rename_i o s' es e1
        split at h
        · cases h
          have hc := AllP_append.1 hc
          simp only [evW, e1, e2 hc.1]
          rw [if_pos hc.2.1]
        · split at h
          · rename_i ho
            cases h
            have hc := AllP_append.1 hc
            simp only [evW, e1, e2 hc.1]
            rw [if_neg hc.2.1, if_pos ⟨ho.1, ho.2, hc.2.2.1⟩]
          · cases h
        · cases h
      · cases h
    · cases h
  · rename_i sz0 s0 x0
    split at h
    · rename_i new c0 its2 e0
      have e2 : AllP c0 → srcEs sz0 st.bx (getA st.tm x0) = some new := fun h0 => by
        split at e0
        · rename_i k off s' n e
          split at e0
          · rename_i hs
            cases e0
            rw [e]
            simp only [srcEs]
            rw [if_pos hs]
            exact h0.1
          · cases e0
        · obtain ⟨p, h1, h2⟩ := Option.map_eq_some_iff.1 e0
          cases h2
          exact h1
      split at h
      · rename_i k off s' n e1
        split at h
        · rename_i hs
          subst hs
          split at h
          · cases h
            have hc := AllP_append.1 hc
            simp only [evW, e1, e2 hc.1, if_true]
            rw [if_pos hc.2.1]
          · split at h
            · rename_i z es hk
              split at h
              · rename_i hcond
                obtain ⟨rfl, hm, hpos⟩ := hcond
                cases h
                have hc := AllP_append.1 hc
                simp only [evW, e1, e2 hc.1, if_true]
                rw [if_neg hc.2.1, hk]
                simp only [Option.bind_some, Box.putEs, Nat.add_mul_mod_self_right, Nat.add_mul_div_right _ _ hpos]
                rw [if_pos ⟨trivial, hm, hc.2.2.1, hc.2.2.2.1⟩]
              · cases h
            · cases h
          · cases h
        · cases h
      · cases h
    · cases h
  · split at h
    · rename_i k off s n ps e1 e2
      split at h
      · rename_i hcond
        simp only [evW, e1, e2]
        rw [if_pos hcond]
        split at h
        · cases h
          rw [if_pos hc.1]
        · split at h
          · rename_i p its2 _ z' es hk
            split at h
            · rename_i hz
              obtain ⟨rfl, hpos⟩ := hz
              cases h
              obtain ⟨h1, h2, h3, _⟩ := hc
              have hm : off % z' = 0 := by rw [h1]; exact Nat.mul_mod_left _ _
              have hd : off / z' = p := by rw [h1]; exact Nat.mul_div_left _ hpos
              rw [if_neg h2, hk]
              simp only [Option.bind_some, Box.putEs]
              rw [hm, hd, if_pos ⟨trivial, rfl, by rw [List.length_replicate]; exact h3, by rw [List.all_eq_true]; intro e he; rw [(List.mem_replicate.1 he).2]; exact hcond.2.2⟩]
            · cases h
          · cases h
        · cases h
      · cases h
    · cases h
  · split at h
    · rename_i l e1
      cases h
      simp only [evW, e1]
      rw [if_pos hc.1]
    · cases h
  · split at h
    · rename_i l its2 b p q e1 e2 e3
      split at h
      · rename_i kv e4
        split at h
        · rename_i hkn
          cases h
          simp only [evW, e1, e2, e3, e4]
          rw [if_pos hkn]
          simp only [hc.1]
        · cases h
      · cases h
    · exact fin h
  · split at h
    · rename_i v i its2 b p e1 e2
      split at h
      · rename_i kv e4
        split at h
        · rename_i hkn
          cases h
          simp only [evW, e1, e2, e4]
          rw [if_pos hkn]
          simp only [hc.1]
        · cases h
      · cases h
    · rename_i its2 b p e1 e2
      split at h
      · rename_i kv e4
        split at h
        · rename_i hkn
          cases h
          simp only [evW, e1, e2, e4]
          rw [if_pos hkn]
          simp only [hc.1]
        · cases h
      · cases h
    · exact fin h
  · split at h
    · rename_i l its2 b i q e1 e2 e3
      split at h
      · rename_i kv e4
        cases h
        obtain ⟨h1, h2, h3⟩ := hc.1
        simp only [evW, e1, e2, e3, e4]
        rw [if_pos ⟨h1, h2⟩, h3]
      · cases h
    · exact fin h
  · split at h
    · rename_i k e1
      split at h
      · rename_i l pos e2
        split at h
        · cases h
          have h2 := hc.2.1
          simp only [evW, e1, e2]
          rw [if_pos hc.1, h2]
        · cases h
          simp only [evW, e1, e2]
          rw [if_neg hc.1]
        · cases h
      · cases h
    · cases h
  · split at h
    · cases h; exact hc.1
    · exact fin h
def pG (tm : List AV) (g : Option (Nat × Bool)) (its : List It) : Option (Bool × List Prop × List It) :=
  match g with
  | none => some (true, [], its)
  | some (t, b) => match tm.getD t .undef with
    | .c (.pv (.bool x)) => match its with
      | .br r :: its' => some (r == b, [x = r], its')
      | _ => none
    | .tup [] => some (false, [], its)
    | _ => none
theorem pG_ok {tm : List AV} {g : Option (Nat × Bool)} {its its' : List It} {b : Bool} {c : List Prop} (h : pG tm g its = some (b, c, its')) (hc : AllP c) : wantG tm g = some b := by
  unfold pG at h
  split at h
  · cases h; rfl
  · rename_i t want
    simp only [wantG]
    split at h
    · rename_i x e
      split at h
      · cases h; rw [e]; simp only [hc.1]
      · cases h
    · rename_i e; cases h; rw [e]
    · cases h
def pOper (call : Oracle) (o : XOper) (st : St) (its : List It) : Option (St × List Prop × List It) :=
  match pG st.tm o.grd its with
  | none => none
  | some (false, c, its) => some (⟨putD st.tm o.dst (.tup []), st.bx⟩, c, its)
  | some (true, c, its) => match o.cls with
    | .w => match pW call o.dst o.op st its with
      | some (v, s, c', its') => some (⟨putD s.tm o.dst v, s.bx⟩, c ++ c', its')
      | none => none
    | .p => match pP call o.op st.tm its with
      | some (v, c', its') => some (⟨putD st.tm o.dst v, st.bx⟩, c ++ c', its')
      | none => none
    | .r => match pR o.op st.tm st.bx its with
      | some (v, c', its') => some (⟨putD st.tm o.dst v, st.bx⟩, c ++ c', its')
      | none => none
theorem pOper_ok {call : Oracle} {o : XOper} {st s : St} {its its' : List It} {c : List Prop} (h : pOper call o st its = some (s, c, its')) (hc : AllP c) : evOper call o st = some s := by
  unfold pOper at h
  split at h
  · cases h
  · rename_i c1 its1 hg
    cases h
    have hw := pG_ok hg hc
    cases hcl : o.cls <;> simp only [evOper, hcl, evS, evV, hw]
  · rename_i c1 its1 hg
    split at h
    · rename_i hcl
      split at h
      · rename_i v s' c' its2 h2
        cases h
        have hc := AllP_append.1 hc
        have hw := pG_ok hg hc.1
        simp only [evOper, hcl, evS, hw, pW_ok h2 hc.2]
      · cases h
    · rename_i hcl
      split at h
      · rename_i v c' its2 h2
        cases h
        have hc := AllP_append.1 hc
        have hw := pG_ok hg hc.1
        simp only [evOper, hcl, evV, hw, pP_ok h2 hc.2, if_true]
      · cases h
    · rename_i hcl
      split at h
      · rename_i v c' its2 h2
        cases h
        have hc := AllP_append.1 hc
        have hw := pG_ok hg hc.1
        have hne : ¬ (Cls.r = Cls.p) := by simp
        simp only [evOper, hcl, evV, hw, hne, if_false, pR_ok h2 hc.2]
      · cases h
def pOps (call : Oracle) : List XOper → St → List It → Option (St × List Prop × List It)
  | [], st, its => some (st, [], its)
  | o :: r, st, its => match pOper call o st its with
    | some (s, c, its') => match pOps call r s its' with
      | some (s', c', its2) => some (s', c ++ c', its2)
      | none => none
    | none => none
theorem pOps_ok {call : Oracle} : ∀ {l : List XOper} {st s : St} {its its' : List It} {c : List Prop}, pOps call l st its = some (s, c, its') → AllP c → evOps call l st = some s
  | [], st, s, its, its', c, h, hc => by simp only [pOps, Option.some.injEq, Prod.mk.injEq] at h; obtain ⟨rfl, _, _⟩ := h; rfl
  | o :: l, st, s, its, its', c, h, hc => by
    simp only [pOps] at h
    split at h
    · rename_i s1 c1 its1 h1
      split at h
      · rename_i s2 c2 its2 h2
        cases h
        have hc := AllP_append.1 hc
        simp only [evOps, pOper_ok h1 hc.1]
        exact pOps_ok h2 hc.2
      · cases h
    · cases h
theorem CV.trim_trim (L : Nat) (x : CV) : (x.trim L).trim L = x.trim L := by
  cases x with
  | ms k o s n => by_cases h : k < L <;> simp [CV.trim, h]
  | ptr k o => by_cases h : k < L <;> simp [CV.trim, h]
  | fn f caps =>
    by_cases h : caps.all (· < L) = true
    · simp only [CV.trim]; rw [if_pos h]; simp only [CV.trim]; rw [if_pos h]
    · simp only [CV.trim]; rw [if_neg h]
  | mp k => by_cases h : k < L <;> simp [CV.trim, h]
  | _ => rfl
theorem trimL_trimL (L : Nat) : ∀ (m : List Bool) (l : List AV), trimL m L (trimL m L l) = trimL m L l
  | _, [] => by simp [trimL]
  | [], v :: r => by simp only [trimL]; rw [trimL_trimL L [] r]
  | b :: m, v :: r => by
    simp only [trimL]
    rw [trimL_trimL L m r]
    cases b
    · simp
    · simp only [if_true, List.cons.injEq, and_true]
      cases v with
      | c x => simp only [AV.map, CV.trim_trim]
      | agg cs => simp only [AV.map, List.map_map]; congr 2; funext x; exact CV.trim_trim L x
      | tup vs =>
        simp only [AV.map, List.map_map]
        congr 2
        funext x
        cases x with
        | c x => simp only [Function.comp, AV.map0, CV.trim_trim]
        | agg cs => simp only [Function.comp, AV.map0, List.map_map]; congr 2; funext x; exact CV.trim_trim L x
        | tup vs => simp only [Function.comp, AV.map0, CV.trim]
theorem trimSt_trimSt (m : List Bool) (L : Nat) (st : St) : trimSt m L (trimSt m L st) = trimSt m L st := by
  unfold trimSt
  simp only [trimL_trimL, St.mk.injEq, true_and]
  have : ∀ b : Box, Box.map' (CV.trim L) (Box.map' (CV.trim L) b) = Box.map' (CV.trim L) b := by
    intro b; cases b <;> simp only [Box.map', List.map_map]; congr 2; funext x; exact CV.trim_trim L x
  rw [← List.map_take, List.take_take, Nat.min_self, List.map_map]
  congr 1
  funext b; exact this b
theorem lv_trim (body : St → Option (XExit × St)) (m : List Bool) (L : Nat) (st : St) : lv body m L (trimSt m L st) = lv body m L st := by
  rw [lv_eq body m L st, lv_eq body m L (trimSt m L st), trimSt_trimSt]
def pC (call : Oracle) : XCode → St → List It → Option (XExit × St × List Prop × List It)
  | .skip, st, its => some (.normal, st, [], its)
  | .label, st, its => some (.normal, st, [], its)
  | .exit id, st, its => some (.exit id, st, [], its)
  | .ret, st, its => some (.ret, st, [], its)
  | .scope c, st, its => pC call c st its
  | .region _ ops, st, its => match pOps call ops st its with
    | some (s, c, its') => some (.normal, s, c, its')
    | none => none
  | .seq a b, st, its => match pC call a st its with
    | some (.normal, s, c, its') => match pC call b s its' with
      | some (e, s', c', its2) => some (e, s', c ++ c', its2)
      | none => none
    | r => r
  | .cond c a b, st, its => match getA st.tm c with
    | .c (.pv (.bool x)) => match its with
      | .br true :: its' => match pC call a st its' with
        | some (e, s, c', its2) => some (e, s, (x = true) :: c', its2)
        | none => none
      | .br false :: its' => match pC call b st its' with
        | some (e, s, c', its2) => some (e, s, (x = false) :: c', its2)
        | none => none
      | _ => none
    | _ => none
  | .block id c, st, its => match pC call c st its with
    | some (.exit j, s, c', its') => if j = id then some (.normal, s, c', its') else some (.exit j, s, c', its')
    | r => r
  | .loop m c, st, its => match its with
    | .loop e s :: its' => some (e, s, [lv (cv call c) m st.bx.length (trimSt m st.bx.length st) = some (e, s)], its')
    | _ => none
  | .tr m cut c, st, its => match pC call c st its with
    | some (e, s, c', its') => some (e, trSt m cut st.bx.length s, c', its')
    | none => none
theorem pC_ok {call : Oracle} : ∀ {x : XCode} {st s : St} {its its' : List It} {e : XExit} {c : List Prop}, pC call x st its = some (e, s, c, its') → AllP c → cv call x st = some (e, s)
  | .skip, st, s, its, its', e, c, h, hc => by simp only [pC, Option.some.injEq, Prod.mk.injEq] at h; obtain ⟨rfl, rfl, _, _⟩ := h; rfl
  | .label, st, s, its, its', e, c, h, hc => by simp only [pC, Option.some.injEq, Prod.mk.injEq] at h; obtain ⟨rfl, rfl, _, _⟩ := h; rfl
  | .exit id, st, s, its, its', e, c, h, hc => by simp only [pC, Option.some.injEq, Prod.mk.injEq] at h; obtain ⟨rfl, rfl, _, _⟩ := h; rfl
  | .ret, st, s, its, its', e, c, h, hc => by simp only [pC, Option.some.injEq, Prod.mk.injEq] at h; obtain ⟨rfl, rfl, _, _⟩ := h; rfl
  | .scope c, st, s, its, its', e, cc, h, hc => by simp only [pC] at h; simp only [cv]; exact pC_ok h hc
  | .region _ ops, st, s, its, its', e, cc, h, hc => by
    simp only [pC] at h
    split at h
    · rename_i s1 c1 its1 h1
      cases h
      simp only [cv, pOps_ok h1 hc]; rfl
    · cases h
  | .seq a b, st, s, its, its', e, cc, h, hc => by
    simp only [pC] at h
    split at h
    · rename_i s1 c1 its1 h1
      split at h
      · rename_i e2 s2 c2 its2 h2
        cases h
        have hc := AllP_append.1 hc
        simp only [cv, pC_ok h1 hc.1]
        exact pC_ok h2 hc.2
      · cases h
    · rename_i hne
      simp only [cv, pC_ok h hc]
      cases e with
      | normal => exact absurd h (hne _ _ _)
      | exit id => rfl
      | ret => rfl
  | .cond C a b, st, s, its, its', e, cc, h, hc => by
    simp only [pC] at h
    split at h
    · rename_i x ex
      split at h
      · split at h
        · rename_i e1 s1 c1 its1 h1
          cases h
          simp only [cv, ex, hc.1, if_true]
          exact pC_ok h1 hc.2
        · cases h
      · split at h
        · rename_i e1 s1 c1 its1 h1
          cases h
          simp only [cv, ex, hc.1, Bool.false_eq_true, if_false]
          exact pC_ok h1 hc.2
        · cases h
      · cases h
    · cases h
  | .block id c, st, s, its, its', e, cc, h, hc => by
    simp only [pC] at h
    split at h
    · rename_i j s1 c1 its1 h1
      split at h
      · rename_i hj
        cases h
        simp only [cv, pC_ok h1 hc, hj, if_true]
      · rename_i hj
        cases h
        simp only [cv, pC_ok h1 hc, hj, if_false]
    · rename_i hne
      simp only [cv, pC_ok h hc]
      cases e with
      | normal => rfl
      | exit id => exact absurd h (hne _ _ _ _)
      | ret => rfl
  | .loop m c, st, s, its, its', e, cc, h, hc => by
    simp only [pC] at h
    split at h
    · cases h; simp only [cv]; rw [← lv_trim]; exact hc.1
    · cases h
  | .tr m cut c, st, s, its, its', e, cc, h, hc => by
    simp only [pC] at h
    split at h
    · rename_i e1 s1 c1 its1 h1
      cases h
      simp only [cv, pC_ok h1 hc]
    · cases h
def pL (call : Oracle) (c : XCode) (m : List Bool) (L : Nat) (st : St) (its : List It) : Option (XExit × St × List Prop) :=
  match pC call c (trimSt m L st) its with
  | some (.normal, s, c, _) => some (.normal, trimSt m L s, c)
  | some (e, s, c, _) => some (e, s, c)
  | none => none
theorem lv_next {call : Oracle} {x : XCode} {m : List Bool} {L : Nat} {st s : St} (its : List It) {c : List Prop} (h : pL call x m L st its = some (.normal, s, c)) (hc : AllP c) : lv (cv call x) m L st = lv (cv call x) m L s := by
  unfold pL at h
  split at h
  · rename_i s1 c1 its1 h1
    cases h
    rw [lv_eq, pC_ok h1 hc, lv_trim]
  · rename_i hne h1
    cases h
    exact (hne rfl).elim
  · cases h
theorem lv_exit {call : Oracle} {x : XCode} {m : List Bool} {L : Nat} {st s : St} (its : List It) {c : List Prop} {id : Nat} (h : pL call x m L st its = some (.exit id, s, c)) (hc : AllP c) : lv (cv call x) m L st = some (.exit id, s) := by
  unfold pL at h
  split at h
  · cases h
  · rename_i h1
    cases h
    rw [lv_eq, pC_ok h1 hc]
  · cases h
theorem lv_ret {call : Oracle} {x : XCode} {m : List Bool} {L : Nat} {st s : St} (its : List It) {c : List Prop} (h : pL call x m L st its = some (.ret, s, c)) (hc : AllP c) : lv (cv call x) m L st = some (.ret, s) := by
  unfold pL at h
  split at h
  · cases h
  · rename_i h1
    cases h
    rw [lv_eq, pC_ok h1 hc]
  · cases h
def endP (its : List It) (c : List Prop) (m : Nat) (r : AV) (bx : List Box) : (AV × List Box) × List Prop := match its with
  | .els es :: _ => ((leaveT es m r bx).1, c ++ (leaveT es m r bx).2)
  | _ => (leave m r bx, c)
theorem endP_ok {its : List It} {c : List Prop} {m : Nat} {r : AV} {bx : List Box} (h : AllP (endP its c m r bx).2) : (endP its c m r bx).1 = leave m r bx ∧ AllP c := by
  unfold endP at *
  split
  · have := AllP_append.1 h
    exact ⟨(leaveT_ok this.2).symm, this.1⟩
  · rename_i hne
    split at h
    · rename_i e; exact absurd rfl (hne _ _)
    · exact ⟨rfl, h⟩
def pF (call : Oracle) (x : XFunc) (args : List AV) (bx : List Box) (its : List It) : Option ((AV × List Box) × List Prop) :=
  match pC call x.body ⟨args ++ List.replicate (x.nt - args.length) .undef, bx⟩ its with
  | some (.exit _, _, _, _) => none
  | some (_, st, c, its') => match getRes st x.res with
    | some vs => if vs.all noTup then some (endP its' c bx.length (packRes vs) st.bx) else none
    | none => none
  | none => none
theorem pF_ok {call : Oracle} {x : XFunc} {args : List AV} {bx : List Box} {its : List It} {r : AV × List Box} {c : List Prop} (h : pF call x args bx its = some (r, c)) (hc : AllP c) : rv call x args bx = some r := by
  simp only [pF] at h
  cases hq : pC call x.body ⟨args ++ List.replicate (x.nt - args.length) .undef, bx⟩ its with
  | none => rw [hq] at h; cases h
  | some q =>
    obtain ⟨e, st, c', its'⟩ := q
    rw [hq] at h
    have key : ∀ {e}, cv call x.body ⟨args ++ List.replicate (x.nt - args.length) .undef, bx⟩ = some (e, st) → (∀ id, e ≠ .exit id) → ∀ vs, getRes st x.res = some vs → vs.all noTup = true → rv call x args bx = some (leave bx.length (packRes vs) st.bx) := by
      intro e h1 h2 vs h3 h4
      cases e with
      | exit id => exact absurd rfl (h2 id)
      | normal => simp only [rv, h1, h3]; rw [if_pos h4]
      | ret => simp only [rv, h1, h3]; rw [if_pos h4]
    have main : (∀ id, e ≠ .exit id) → (match getRes st x.res with
        | some vs => if vs.all noTup then some (endP its' c' bx.length (packRes vs) st.bx) else none
        | none => none) = some (r, c) → rv call x args bx = some r := by
      intro he h
      split at h
      · rename_i vs hvs
        split at h
        · rename_i hnt
          have h : endP its' c' bx.length (packRes vs) st.bx = (r, c) := by simpa using h
          obtain ⟨k1, k2⟩ := endP_ok (its := its') (c := c') (m := bx.length) (r := packRes vs) (bx := st.bx) (by rw [h]; exact hc)
          rw [h] at k1
          simp only at k1
          rw [k1]
          exact key (pC_ok hq k2) he vs hvs hnt
        · cases h
      · cases h
    cases e with
    | exit id => cases h
    | normal => exact main (fun id => by simp) h
    | ret => exact main (fun id => by simp) h
theorem ev_path {X : Nat → Option XFunc} {E : Oracle} {f : Nat} {x : XFunc} (hx : X f = some x) {args : List AV} {bx : List Box} (its : List It) {r : AV × List Box} {c : List Prop} (h : pF (ev X E) x args bx its = some (r, c)) (hc : AllP c) : ev X E f args bx = some r :=
  rv_ev hx (pF_ok h hc)
theorem cc_path {X : Nat → Option XFunc} {E : Oracle} {f : Nat} {x : XFunc} (hx : X f = some x) {args : List AV} {bx : List Box} (its : List It) {r : AV × List Box} {c : List Prop} (h : (pF (ev X E) x args bx its).bind (fun q => (canon q.1).map fun z => (z, q.2)) = some (r, c)) (hc : AllP c) : cc (ev X E) f args bx = some r := by
  obtain ⟨⟨q, c'⟩, h1, h2⟩ := Option.bind_eq_some_iff.1 h
  obtain ⟨z, h3, h4⟩ := Option.map_eq_some_iff.1 h2
  cases h4
  show (ev X E f args bx).bind canon = _
  rw [ev_path hx its h1 hc]
  exact h3
theorem ev_cc {X : Nat → Option XFunc} {E : Oracle} {f : Nat} {args : List AV} {b : Bool} (h : cc (ev X E) f args [] = some (.b b, [])) : ev X E f args [] = some (.b b, []) := by
  obtain ⟨r', bs', h1, _, _, h2, h3⟩ := cc_some h
  have h3 : bs' = [] := by cases bs' with | nil => rfl | cons _ _ => cases h3
  subst h3
  rw [h1]
  cases r' with
  | c x => cases x with
    | pv p => cases h2; rfl
    | own i sz es => simp only [AV.map, renIdBy] at h2; split at h2 <;> cases h2
    | _ => cases h2
  | _ => cases h2
/-- The same branch, several times over. -/
def bs (n : Nat) (b : Bool) : List It := List.replicate n (.br b)
/-- What is taken for granted several times over, told once. -/
def rq : List (Nat × Prop) → List Prop
  | [] => []
  | (n, p) :: r => List.replicate n p ++ rq r
def AllQ : List (Nat × Prop) → Prop
  | [] => True
  | (_, p) :: r => p ∧ AllQ r
theorem aq_rep {p : Prop} {l : List Prop} (h : p) (k : AllP l) : ∀ n : Nat, AllP (List.replicate n p ++ l)
  | 0 => k
  | n + 1 => ⟨h, aq_rep h k n⟩
theorem aq : ∀ {c : List (Nat × Prop)}, AllQ c → AllP (rq c)
  | [], _ => trivial
  | (n, _) :: _, h => aq_rep h.1 (aq h.2) n
abbrev ty {p : Prop} (_ : p) : Nat × Prop := (1, p)
theorem dF {p : Prop} [Decidable p] (h : ¬ p) : decide p = false := decide_eq_false h
theorem dT {p : Prop} [Decidable p] (h : p) : decide p = true := decide_eq_true h
end Go.Sx
