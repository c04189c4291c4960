/- The evaluator: plain values, operations, code, and what they come to. No program, no memory. -/
import GoSem.Core.Code
import GoSem.Machine.Frame
namespace Go.Sx
inductive SO where
  | nil | full | shut
  deriving DecidableEq, Repr, Inhabited
inductive PV where
  | bool (b : Bool)
  | int (k : IntKind) (n : Int)
  | str (l : List UInt8)
  | agg (cs : List PV)
  | sl (o : SO) (sz : Nat) (es : List PV)
  deriving Inhabited
def PV.cells : PV → List PV
  | .agg cs => cs
  | p => [p]
def globs : Nat → Option (List PV) := fun g => if g = 2 then some [.str [69, 85, 82], .int .i64 2, .int .i64 100, .str [74, 80, 89], .int .i64 0, .int .i64 1, .str [66, 72, 68], .int .i64 3, .int .i64 1000, .str [85, 83, 68], .int .i64 2, .int .i64 100] else if g = 0 then some [.str [115, 116, 97, 110, 100, 105, 110, 103], .str [115, 119, 101, 101, 112], .str [100, 101, 98, 105, 116]] else if g = 1 then some [.int .i64 0, .int .i64 31, .int .i64 61, .int .i64 92, .int .i64 122, .int .i64 153, .int .i64 184, .int .i64 214, .int .i64 245, .int .i64 275, .int .i64 306, .int .i64 337] else none
inductive CV where
  | undef
  | pv (p : PV)
  | own (i sz : Nat) (es : List PV)
  | ms (k off sz n : Nat)
  | ptr (k off : Nat)
  | cptr (cells : List PV) (off : Nat)
  | nilp
  | fn (f : Nat) (caps : List Nat)
  | nilf
  | mp (k : Nat)
  | nilm
  deriving Inhabited
inductive AV where
  | c (x : CV)
  | agg (cs : List CV)
  | tup (vs : List AV)
  deriving Inhabited
inductive Box where
  | cells (cs : List CV)
  | map (kv : List (PV × PV))
  | iter (l : List UInt8) (pos : Nat)
  | row (sz : Nat) (es : List PV)
  | dead
  deriving Inhabited
abbrev AV.undef : AV := .c .undef
abbrev AV.int (k : IntKind) (n : Int) : AV := .c (.pv (.int k n))
abbrev AV.i (n : Int) : AV := .c (.pv (.int .i64 n))
abbrev AV.b (b : Bool) : AV := .c (.pv (.bool b))
abbrev AV.s (l : List UInt8) : AV := .c (.pv (.str l))
abbrev AV.sl (o : SO) (sz : Nat) (es : List PV) : AV := .c (.pv (.sl o sz es))
def AV.cells : AV → List CV
  | .agg cs => cs
  | .c x => [x]
  | .tup _ => []
def PV.flat : PV → Bool
  | .agg _ => false
  | _ => true
def CV.flat : CV → Bool
  | .undef => false
  | .pv p => p.flat
  | _ => true
def AV.flat : AV → Bool
  | .c x => x.flat
  | .agg cs => cs.all CV.flat
  | .tup _ => false
inductive XArg where
  | tmp (t : Nat)
  | lit (a : AV)
  deriving Inhabited
inductive XOp where
  | mv (x : XArg)
  | pick (c a b : XArg)
  | box (x : XArg) (n : Nat)
  | alloc (z : List CV)
  | build (z : List CV) (parts : List (Nat × Nat × XArg))
  | buildSl (z : List CV) (len sz : Nat) (parts : List (Nat × Nat × XArg))
  | load (ag : Bool) (n : Nat) (a : XArg)
  | loadR (ag : Bool) (n : Nat) (a u : XArg)
  | store (n : Nat) (a x : XArg)
  | storeO (n : Nat) (a x u : XArg)
  | nilc (x : XArg)
  | bin (op : BinOp) (x y : XArg)
  | eqA (neg : Bool) (ks : List Nat) (x y : XArg)
  | eqB (neg : Bool) (x y : XArg)
  | eqN (tag : Nat) (neg : Bool) (x y : XArg)
  | un (op : UnOp) (x : XArg)
  | convI (k : IntKind) (x : XArg)
  | convS (x : XArg)
  | bytesS (x : XArg)
  | bytesM (x : XArg)
  | mkfn (f : Nat) (caps : List XArg)
  | sliceS (x : XArg) (lo hi : Option XArg)
  | sliceV (sz : Nat) (x : XArg) (lo hi mx : Option XArg)
  | sliceA (len sz : Nat) (x : XArg) (lo hi : Option XArg)
  | faddr (off : Nat) (x : XArg)
  | fld (ag : Bool) (off n : Nat) (x : XArg)
  | iaddrS (sz : Nat) (x i : XArg)
  | iaddrA (len sz : Nat) (x i : XArg)
  | idxS (x i : XArg)
  | idxA (len : Nat) (ag : Bool) (sz : Nat) (x i : XArg)
  | extr (i : Nat) (x : XArg)
  | call (fz : Bool) (ap : List XArg) (f : XArg) (args : List XArg)
  | callM (f : XArg) (args : List XArg)
  | app (sz bytes : Nat) (s x : XArg)
  | len (x : XArg)
  | lenS (x : XArg)
  | minI (xs : List XArg)
  | maxI (xs : List XArg)
  | mkslice (r : Bool) (z : List CV) (sz bytes : Nat) (n c : XArg)
  | mkmap
  | sbytes (x : XArg)
  | rng (x : XArg)
  | nxt (it : XArg)
  | sliceM (sz : Nat) (x : XArg) (lo hi mx : Option XArg)
  | appM (sz : Nat) (s x : XArg)
  | clr (z : List CV) (sz : Nat) (x : XArg)
  | mupd (m k v : XArg) (n : Nat)
  | ment (z : PV) (m k : XArg) (n : Nat)
  | mest (m s v : XArg)
  | mlook (z : PV) (ok : Bool) (m k : XArg) (n : Nat)
  | stuck
  deriving Inhabited
def XArg.tmps : XArg → List Nat
  | .tmp t => [t]
  | .lit _ => []
def argsOf (o : Option XArg) : List XArg := o.toList
def XOp.args : XOp → List XArg
  | .mv x => [x]
  | .pick c a b => [c, a, b]
  | .box x _ => [x]
  | .alloc _ => []
  | .build _ parts => parts.map fun p => p.2.2
  | .buildSl _ _ _ parts => parts.map fun p => p.2.2
  | .load _ _ a => [a]
  | .loadR _ _ a u => [a, u]
  | .store _ a x => [a, x]
  | .storeO _ a x u => [a, x, u]
  | .nilc x => [x]
  | .bin _ x y => [x, y]
  | .eqA _ _ x y => [x, y]
  | .eqB _ x y => [x, y]
  | .eqN _ _ x y => [x, y]
  | .un _ x => [x]
  | .convI _ x => [x]
  | .convS x => [x]
  | .bytesS x => [x]
  | .bytesM x => [x]
  | .mkfn _ caps => caps
  | .sliceS x lo hi => x :: (argsOf lo ++ argsOf hi)
  | .sliceV _ x lo hi mx => x :: (argsOf lo ++ argsOf hi ++ argsOf mx)
  | .sliceA _ _ x lo hi => x :: (argsOf lo ++ argsOf hi)
  | .faddr _ x => [x]
  | .fld _ _ _ x => [x]
  | .iaddrS _ x i => [x, i]
  | .iaddrA _ _ x i => [x, i]
  | .idxS x i => [x, i]
  | .idxA _ _ _ x i => [x, i]
  | .extr _ x => [x]
  | .call _ ap f args => f :: (args ++ ap)
  | .callM f args => f :: args
  | .stuck => []
  | .app _ _ s x => [s, x]
  | .len x => [x]
  | .lenS x => [x]
  | .minI xs => xs
  | .maxI xs => xs
  | .mkslice _ _ _ _ n c => [n, c]
  | .mkmap => []
  | .sbytes x => [x]
  | .rng x => [x]
  | .nxt x => [x]
  | .sliceM _ x lo hi mx => x :: (argsOf lo ++ argsOf hi ++ argsOf mx)
  | .appM _ s x => [s, x]
  | .clr _ _ x => [x]
  | .mupd m k v _ => [m, k, v]
  | .ment _ m k _ => [m, k]
  | .mest m s v => [m, s, v]
  | .mlook _ _ m k _ => [m, k]
inductive Cls where
  | p | r | w
  deriving DecidableEq, Repr, Inhabited
structure XOper where
  dst : Option Nat
  op : XOp
  grd : Option (Nat × Bool)
  cls : Cls
  deriving Inhabited
def oP (d : Nat) (o : XOp) : XOper := ⟨some d, o, none, .p⟩
def oR (d : Nat) (o : XOp) : XOper := ⟨some d, o, none, .r⟩
def oW (d : Nat) (o : XOp) : XOper := ⟨some d, o, none, .w⟩
def sW (o : XOp) : XOper := ⟨none, o, none, .w⟩
def T (n : Nat) : XArg := .tmp n
def tI (n : Int) : XArg := .lit (.c (.pv (.int .i64 n)))
inductive XCode where
  | skip
  | region (draw : Bool) (ops : List XOper)
  | seq (a b : XCode)
  | cond (c : XArg) (a b : XCode)
  | block (id : Nat) (c : XCode)
  | loop (mask : List Bool) (c : XCode)
  | exit (id : Nat)
  | scope (c : XCode)
  | label
  | ret
  | tr (mask : List Bool) (cut : Bool) (c : XCode)
  deriving Inhabited
inductive XRes where
  | tmp (t : Nat)
  | cell (t : Nat) (ag : Bool) (n : Nat)
  deriving Inhabited
structure XFunc where
  nt : Nat
  res : List XRes
  body : XCode
  deriving Inhabited
structure St where
  tm : List AV
  bx : List Box
  deriving Inhabited
def fl : Nat → List Bool → List Bool
  | 0, r => r
  | n + 1, r => false :: fl n r
def rl : List Nat → List Bool
  | [] => []
  | n :: r => fl n (true :: rl r)
abbrev Oracle := Nat → List AV → List Box → Option (AV × List Box)
inductive XExit where
  | normal
  | exit (id : Nat)
  | ret
  deriving DecidableEq, Inhabited
def CV.keys : CV → List Nat
  | .ms k _ _ _ => [k]
  | .ptr k _ => [k]
  | .fn _ caps => caps
  | .mp k => [k]
  | _ => []
def CV.ren (ρ : Nat → Nat) : CV → CV
  | .ms k o s n => .ms (ρ k) o s n
  | .ptr k o => .ptr (ρ k) o
  | .fn f caps => .fn f (caps.map ρ)
  | .mp k => .mp (ρ k)
  | x => x
def CV.trim (L : Nat) : CV → CV
  | .ms k o s n => if k < L then .ms k o s n else .undef
  | .ptr k o => if k < L then .ptr k o else .undef
  | .fn f caps => if caps.all (· < L) then .fn f caps else .undef
  | .mp k => if k < L then .mp k else .undef
  | x => x
def CV.shutId (i : Nat) : CV → CV
  | .own j sz es => if j = i then .pv (.sl .shut sz es) else .own j sz es
  | x => x
def CV.shutAll : CV → CV
  | .own _ sz es => .pv (.sl .shut sz es)
  | x => x
def CV.ids : CV → List Nat
  | .own i _ _ => [i]
  | _ => []
def AV.map0 (f : CV → CV) : AV → AV
  | .c x => .c (f x)
  | .agg cs => .agg (cs.map f)
  | .tup _ => .c .undef
def AV.map (f : CV → CV) : AV → AV
  | .c x => .c (f x)
  | .agg cs => .agg (cs.map f)
  | .tup vs => .tup (vs.map (AV.map0 f))
def AV.all0 : AV → List CV
  | .c x => [x]
  | .agg cs => cs
  | .tup _ => []
def AV.all : AV → List CV
  | .c x => [x]
  | .agg cs => cs
  | .tup vs => vs.flatMap AV.all0
def Box.map' (f : CV → CV) : Box → Box
  | .cells cs => .cells (cs.map f)
  | b => b
def Box.all : Box → List CV
  | .cells cs => cs
  | _ => []
def St.mapC (f : CV → CV) (st : St) : St := ⟨st.tm.map (AV.map f), st.bx.map (Box.map' f)⟩
def AV.keys (a : AV) : List Nat := a.all.flatMap CV.keys
def Box.keys (b : Box) : List Nat := b.all.flatMap CV.keys
def getA (tm : List AV) : XArg → AV
  | .tmp t => tm.getD t .undef
  | .lit a => a
def putD (tm : List AV) : Option Nat → AV → List AV
  | some d, v => tm.set d v
  | none, _ => tm
def CV.toPV : CV → Option PV
  | .pv p => if p.flat then some p else none
  | .own _ sz es => some (.sl .shut sz es)
  | _ => none
def toPVs : List CV → Option (List PV)
  | [] => some []
  | x :: l => match x.toPV, toPVs l with
    | some p, some ps => some (p :: ps)
    | _, _ => none
def AV.toPV : AV → Option PV
  | .c x => x.toPV
  | .agg cs => (toPVs cs).map .agg
  | .tup _ => none
def takeC : Nat → List PV → Nat → Option (List CV)
  | 0, _, _ => some []
  | n + 1, l, off => match l[off]?, takeC n l (off + 1) with
    | some p, some r => some (.pv p :: r)
    | _, _ => none
def takeB : Nat → List CV → Nat → Option (List CV)
  | 0, _, _ => some []
  | n + 1, l, off => match l[off]?, takeB n l (off + 1) with
    | some p, some r => some (p :: r)
    | _, _ => none
def putB : List CV → Nat → List CV → Option (List CV)
  | l, _, [] => some l
  | l, off, x :: r => if off < l.length then putB (l.set off x) (off + 1) r else none
def elemsB (l : List CV) (sz : Nat) : Nat → Nat → Option (List PV)
  | _, 0 => some []
  | off, n + 1 => match (takeB sz l off).bind toPVs, elemsB l sz (off + sz) n with
    | some ps, some r => some ((if sz = 1 then ps.headD default else .agg ps) :: r)
    | _, _ => none
def PV.plain0 : PV → Bool
  | .bool _ | .int _ _ | .str _ => true
  | _ => false
def rowE (sz : Nat) : PV → Bool
  | .agg cs => cs.length == sz && sz != 1 && sz != 0 && cs.all PV.plain0
  | p => sz == 1 && p.plain0
def rowOf (sz : Nat) (ps : List PV) : PV := if sz = 1 then ps.headD default else .agg ps
def flatR (es : List PV) : List CV := es.flatMap fun e => e.cells.map .pv
def takeR (n sz : Nat) (es : List PV) (off : Nat) : Option (List CV) := match es[off / sz]? with
  | some e => takeC n e.cells (off % sz)
  | none => none
def putE (sz : Nat) (e : PV) (c : Nat) (vs : List CV) : Option PV := match (putB (e.cells.map .pv) c vs).bind toPVs with
  | some ps => if rowE sz (rowOf sz ps) then some (rowOf sz ps) else none
  | none => none
def putR (sz : Nat) (es : List PV) (off : Nat) (vs : List CV) : Option (List PV) := match es[off / sz]? with
  | some e => (putE sz e (off % sz) vs).map fun e' => es.set (off / sz) e'
  | none => none
def Box.look (n off : Nat) : Box → Option (List CV)
  | .cells cs => takeB n cs off
  | .row sz es => takeR n sz es off
  | _ => none
def Box.put (off : Nat) (vs : List CV) : Box → Option Box
  | .cells cs => (putB cs off vs).map .cells
  | .row sz es => (putR sz es off vs).map (.row sz)
  | _ => none
def putEs (es : List PV) (p : Nat) (new : List PV) : List PV := es.take p ++ new ++ es.drop (p + new.length)
def Box.putEs (sz off : Nat) (new : List PV) : Box → Option Box
  | .cells cs => (putB cs off (flatR new)).map .cells
  | .row s es => if s = sz ∧ off % sz = 0 ∧ off / sz + new.length ≤ es.length ∧ new.all (rowE sz) = true then some (.row sz (Go.Sx.putEs es (off / sz) new)) else none
  | _ => none
def Box.elems (sz off n : Nat) : Box → Option (List PV)
  | .cells cs => elemsB cs sz off n
  | .row s es => if s = sz ∧ off % sz = 0 ∧ off / sz + n ≤ es.length then some ((es.drop (off / sz)).take n) else none
  | _ => none
def intBin (op : BinOp) (k : IntKind) (x y : Int) : Option PV :=
  match op with
  | .add => some (.int k (k.wrap (x + y)))
  | .sub => some (.int k (k.wrap (x - y)))
  | .mul => some (.int k (k.wrap (x * y)))
  | .quo => if y = 0 then none else some (.int k (k.wrap (x.tdiv y)))
  | .rem => if y = 0 then none else some (.int k (x.tmod y))
  | .and => some (.int k (k.wrap (BitVec.ofInt k.bits x &&& BitVec.ofInt k.bits y).toNat))
  | .or => some (.int k (k.wrap (BitVec.ofInt k.bits x ||| BitVec.ofInt k.bits y).toNat))
  | .xor => some (.int k (k.wrap (BitVec.ofInt k.bits x ^^^ BitVec.ofInt k.bits y).toNat))
  | .eql => some (.bool (x == y))
  | .neq => some (.bool (x != y))
  | .lss => some (.bool (x < y))
  | .leq => some (.bool (x ≤ y))
  | .gtr => some (.bool (x > y))
  | .geq => some (.bool (x ≥ y))
  | _ => none
def shiftBin (op : BinOp) (k : IntKind) (x y : Int) : Option PV :=
  if y < 0 then none else
  match op with
  | .shl => some (.int k (k.wrap (x * 2 ^ min y.toNat k.bits)))
  | .shr => some (.int k (x.fdiv (2 ^ min y.toNat k.bits)))
  | _ => none
def strBin (op : BinOp) (x y : List UInt8) : Option PV :=
  match op with
  | .add => if x.length + y.length ≤ 9223372036854775807 then some (.str (x ++ y)) else none
  | .eql => some (.bool (x == y))
  | .neq => some (.bool (!(x == y)))
  | _ => none
def CV.nilEq (tag : Nat) (x y : CV) : Option Bool :=
  match tag, x, y with
  | 0, .pv (.sl o _ _), .pv (.sl .nil _ _) => some (o == .nil)
  | 0, .own _ _ _, .pv (.sl .nil _ _) => some false
  | 0, .ms _ _ _ _, .pv (.sl .nil _ _) => some false
  | 1, .nilp, .nilp => some true
  | 1, .ptr _ _, .nilp => some false
  | 1, .cptr _ _, .nilp => some false
  | 2, .nilf, .nilf => some true
  | 2, .fn _ _, .nilf => some false
  | 3, .nilm, .nilm => some true
  | 3, .mp _, .nilm => some false
  | _, _, _ => none
def binV (op : BinOp) (x y : AV) : Option AV :=
  match x, y with
  | .c (.pv (.int k a)), .c (.pv (.int k' b)) =>
    if op = .shl ∨ op = .shr then (shiftBin op k a b).map fun p => .c (.pv p)
    else if k = k' then (intBin op k a b).map fun p => .c (.pv p) else none
  | .c (.pv (.str a)), .c (.pv (.str b)) => (strBin op a b).map fun p => .c (.pv p)
  | _, _ => none
def eqBV (neg : Bool) (x y : AV) : Option AV :=
  match x, y with
  | .c (.pv (.bool a)), .c (.pv (.bool b)) => some (.b (if neg then !(a == b) else a == b))
  | _, _ => none
def eqNV (tag : Nat) (neg : Bool) (x y : AV) : Option AV :=
  match x, y with
  | .c x, .c y => (CV.nilEq tag x y).map fun b => .b (if neg then !b else b)
  | _, _ => none
def unV (op : UnOp) (x : AV) : Option AV :=
  match op, x with
  | .neg, .c (.pv (.int k n)) => some (.int k (k.wrap (0 - n)))
  | .xor, .c (.pv (.int k n)) => (intBin .xor k (if k.signed then -1 else k.max) n).map fun p => .c (.pv p)
  | .not, .c (.pv (.bool b)) => some (.b (!b))
  | _, _ => none
def PV.eqCell (n : Nat) (x y : PV) : Option Bool :=
  match n, x, y with
  | 0, .int k a, .int k' b => if k = k' then some (a == b) else none
  | 1, .bool a, .bool b => some (a == b)
  | 2, .str a, .str b => some (a == b)
  | _, _, _ => none
def eqCells : List Nat → List CV → List CV → Option Bool
  | [], [], [] => some true
  | k :: ks, .pv x :: l, .pv y :: m => match PV.eqCell k x y, eqCells ks l m with
    | some a, some b => some (a && b)
    | _, _ => none
  | _, _, _ => none
def asI : AV → Option Int
  | .c (.pv (.int _ n)) => some n
  | _ => none
def optI (tm : List AV) : Option XArg → Int → Option Int
  | none, d => some d
  | some x, _ => asI (getA tm x)
def slEs : CV → Option (List PV)
  | .pv (.sl _ _ es) => some es
  | .own _ _ es => some es
  | _ => none
def szOk (sz : Nat) : CV → Bool
  | .pv (.sl o s _) => s == sz || o == .nil
  | .own _ s _ => s == sz
  | _ => false
def byteOf : PV → Option UInt8
  | .int .u8 n => some (UInt8.ofNat n.toNat)
  | _ => none
def bytesOf' : List PV → Option (List UInt8)
  | [] => some []
  | p :: l => match byteOf p, bytesOf' l with
    | some b, some r => some (b :: r)
    | _, _ => none
def pvBytes (l : List UInt8) : List PV := l.map fun b => .int .u8 (b.toNat : Int)
def fillC : List CV → List (Nat × Nat × AV) → Option (List CV)
  | z, [] => some z
  | z, (off, n, v) :: r =>
    if v.flat ∧ v.cells.length = n ∧ 0 < n then
      match putB z off v.cells with
      | some z' => fillC z' r
      | none => none
    else none
def noTup : AV → Bool
  | .tup _ => false
  | _ => true
def repC (z : List CV) : Nat → List CV
  | 0 => []
  | n + 1 => z ++ repC z n
def capKeys (tm : List AV) : List XArg → Option (List Nat)
  | [] => some []
  | x :: r => match getA tm x, capKeys tm r with
    | .c (.ptr k 0), some l => some (k :: l)
    | _, _ => none
def foldI (f : Int → Int → Int) (k : IntKind) : Int → List AV → Option AV
  | m, [] => some (.int k m)
  | m, .c (.pv (.int _ b)) :: r => foldI f k (f m b) r
  | _, _ => none
def evP (call : Oracle) (op : XOp) (tm : List AV) : Option AV :=
  match op with
  | .mv x => some (getA tm x)
  | .pick c a b => match getA tm c with
    | .c (.pv (.bool t)) => some (if t then getA tm a else getA tm b)
    | _ => none
  | .build z parts => (fillC z (parts.map fun (o, n, x) => (o, n, getA tm x))).map .agg
  | .buildSl z len sz parts =>
    match fillC (repC z len) (parts.map fun (o, n, x) => (o, n, getA tm x)) with
    | some cs => (elemsB cs sz 0 len).map fun es => .sl .full sz es
    | none => none
  | .load ag n a => match getA tm a with
    | .c (.cptr cells off) => match takeC n cells off with
      | some l => if ag then some (.agg l) else match l with
        | [x] => some (.c x)
        | _ => none
      | none => none
    | _ => none
  | .nilc x => match getA tm x with
    | .c (.ptr k o) => some (.c (.ptr k o))
    | .c (.cptr l o) => some (.c (.cptr l o))
    | .c (.fn f cs) => some (.c (.fn f cs))
    | _ => none
  | .bin op x y => binV op (getA tm x) (getA tm y)
  | .eqB neg x y => eqBV neg (getA tm x) (getA tm y)
  | .eqN tag neg x y => eqNV tag neg (getA tm x) (getA tm y)
  | .eqA neg ks x y => match getA tm x, getA tm y with
    | .agg l, .agg m => (eqCells ks l m).map fun b => .b (if neg then !b else b)
    | _, _ => none
  | .un op x => unV op (getA tm x)
  | .convI k x => match getA tm x with
    | .c (.pv (.int _ n)) => some (.int k (k.wrap n))
    | _ => none
  | .convS x => match getA tm x with
    | .c (.pv (.str l)) => some (.s l)
    | _ => none
  | .bytesS x => match getA tm x with
    | .c y => match slEs y with
      | some es => (bytesOf' es).map .s
      | none => none
    | _ => none
  | .mkfn f caps => (capKeys tm caps).map fun ks => .c (.fn f ks)
  | .sliceS x lo hi => match getA tm x with
    | .c (.pv (.str l)) => match optI tm lo 0, optI tm hi l.length with
      | some a, some b => if 0 ≤ a ∧ a ≤ b ∧ b ≤ l.length then some (.s ((l.drop a.toNat).take (b.toNat - a.toNat))) else none
      | _, _ => none
    | _ => none
  | .sliceV sz x lo hi mx => match getA tm x with
    | .c (.ms k off s n) => match optI tm lo 0, optI tm hi n, mx with
      | some a, some b, none => if s = sz ∧ 0 ≤ a ∧ a ≤ b ∧ b ≤ n then some (if a = b then .sl .shut sz [] else .c (.ms k (off + a.toNat * s) s (b.toNat - a.toNat))) else none
      | _, _, _ => none
    | .c y => match slEs y with
      | some es => if szOk sz y then match optI tm lo 0, optI tm hi es.length, mx with
        | some a, some b, none => if 0 ≤ a ∧ a ≤ b ∧ b ≤ es.length then
            (match y with
             | .pv (.sl .nil _ _) => some (.c y)
             | _ => some (.sl .shut sz ((es.drop a.toNat).take (b.toNat - a.toNat)))) else none
        | some a, some b, some m => match asI (getA tm m) with
          | some c => if 0 ≤ a ∧ a ≤ b ∧ b = c ∧ c ≤ es.length then
            (match y with
             | .pv (.sl .nil _ _) => some (.c y)
             | _ => some (.sl .full sz ((es.drop a.toNat).take (b.toNat - a.toNat)))) else none
          | none => none
        | _, _, _ => none
        else none
      | none => none
    | _ => none
  | .faddr off x => match getA tm x with
    | .c (.ptr k o) => some (.c (.ptr k (o + off)))
    | .c (.cptr l o) => some (.c (.cptr l (o + off)))
    | _ => none
  | .fld ag off n x => match getA tm x with
    | .agg cs => match takeB n cs off with
      | some l => if ag then some (.agg l) else match l with
        | [y] => some (.c y)
        | _ => none
      | none => none
    | _ => none
  | .iaddrS sz x i => match getA tm x, asI (getA tm i) with
    | .c (.ms k off s n), some j => if s = sz ∧ 0 ≤ j ∧ j < n then some (.c (.ptr k (off + j.toNat * sz))) else none
    | .c y, some j => match slEs y with
      | some es => if 0 ≤ j ∧ szOk sz y then match es[j.toNat]? with
          | some e => some (.c (.cptr e.cells 0))
          | none => none
        else none
      | none => none
    | _, _ => none
  | .iaddrA len sz x i => match getA tm x, asI (getA tm i) with
    | .c (.ptr k o), some j => if 0 ≤ j ∧ j < len then some (.c (.ptr k (o + j.toNat * sz))) else none
    | .c (.cptr l o), some j => if 0 ≤ j ∧ j < len then some (.c (.cptr l (o + j.toNat * sz))) else none
    | _, _ => none
  | .idxS x i => match getA tm x, asI (getA tm i) with
    | .c (.pv (.str l)), some j => if 0 ≤ j then match l[j.toNat]? with
        | some b => some (.int .u8 (b.toNat : Int))
        | none => none
      else none
    | _, _ => none
  | .idxA len ag sz x i => match getA tm x, asI (getA tm i) with
    | .agg cs, some j => if 0 ≤ j ∧ j < len then match takeB sz cs (j.toNat * sz) with
        | some l => if ag then some (.agg l) else match l with
          | [y] => some (.c y)
          | _ => none
        | none => none
      else none
    | _, _ => none
  | .extr i x => match getA tm x with
    | .tup vs => match vs[i]? with
      | some v => some v
      | none => none
    | _ => none
  | .call _ _ f args => match getA tm f with
    | .c (.fn g []) =>
      let as := args.map (getA tm)
      if as.all (fun a => noTup a && a.keys.isEmpty) then
        match call g (as.map (AV.map CV.shutAll)) [] with
        | some (r, []) => some (r.map CV.shutAll)
        | _ => none
      else none
    | _ => none
  | .lenS x => match getA tm x with
    | .c (.pv (.str l)) => some (.i l.length)
    | _ => none
  | .len x => match getA tm x with
    | .c (.ms _ _ _ n) => some (.i n)
    | .c y => (slEs y).map fun es => .i es.length
    | _ => none
  | .minI xs => match xs.map (getA tm) with
    | .c (.pv (.int k a)) :: r => foldI (fun m b => if b < m then b else m) k a r
    | _ => none
  | .maxI xs => match xs.map (getA tm) with
    | .c (.pv (.int k a)) :: r => foldI (fun m b => if m < b then b else m) k a r
    | _ => none
  | _ => none
def keyEq : List PV → List PV → Option Bool
  | [], [] => some true
  | .int k a :: l, .int k' b :: m => if k = k' then (keyEq l m).map fun c => (a == b) && c else none
  | _, _ => none
def PV.isInt : PV → Bool
  | .int _ _ => true
  | _ => false
def keyN : Nat → PV → Bool
  | 0, .int _ _ => true
  | n + 1, .agg l => l.length == n + 1 && l.all PV.isInt
  | _, _ => false
def mval (z v : PV) : AV := match z with
  | .agg _ => match v with
    | .agg ps => .agg (ps.map CV.pv)
    | v => .c (.pv v)
  | _ => .c (.pv v)
def mapGet : List (PV × PV) → PV → Option (Option PV)
  | [], .int _ _ => some none
  | [], .agg _ => some none
  | (.agg l, v) :: r, .agg m => match keyEq m l with
    | some true => some (some v)
    | some false => mapGet r (.agg m)
    | none => none
  | (.int k a, v) :: r, .int k' b => if k = k' then (if a = b then some (some v) else mapGet r (.int k' b)) else none
  | _, _ => none
def mapPos : List (PV × PV) → PV → Nat → Option (Option (Nat × PV))
  | [], .int _ _, _ => some none
  | [], .agg _, _ => some none
  | (.agg l, v) :: r, .agg m, i => match keyEq m l with
    | some true => some (some (i, v))
    | some false => mapPos r (.agg m) (i + 1)
    | none => none
  | (.int k a, v) :: r, .int k' b, i => if k = k' then (if a = b then some (some (i, v)) else mapPos r (.int k' b) (i + 1)) else none
  | _, _, _ => none
def mapSet (kv : List (PV × PV)) (i : Nat) (q : PV) : List (PV × PV) := kv.modify i fun e => (e.1, q)
def mapPut : List (PV × PV) → PV → PV → Option (List (PV × PV))
  | [], .int k a, v => some [(.int k a, v)]
  | [], .agg l, v => some [(.agg l, v)]
  | (.agg l, u) :: r, .agg m, v => match keyEq m l with
    | some true => some ((.agg l, v) :: r)
    | some false => (mapPut r (.agg m) v).map ((.agg l, u) :: ·)
    | none => none
  | (.int k a, u) :: r, .int k' b, v => if k = k' then (if a = b then some ((.int k a, v) :: r) else (mapPut r (.int k' b) v).map ((.int k a, u) :: ·)) else none
  | _, _, _ => none
def loadB (bx : List Box) (ag : Bool) (n k off : Nat) : Option AV := match (bx[k]?).bind (Box.look n off) with
  | some l => if ag then some (.agg l) else match l with
    | [x] => some (.c x)
    | _ => none
  | none => none
def evR (op : XOp) (tm : List AV) (bx : List Box) : Option AV :=
  match op with
  | .load ag n a => match getA tm a with
    | .c (.cptr cells off) => match takeC n cells off with
      | some l => if ag then some (.agg l) else match l with
        | [x] => some (.c x)
        | _ => none
      | none => none
    | .c (.ptr k off) => loadB bx ag n k off
    | _ => none
  | .loadR ag n a u => match getA tm a, getA tm u with
    | .c (.ptr k off), .c (.ptr k' _) => if k = k' then loadB bx ag n k off else none
    | _, _ => none
  | .sliceA len sz x lo hi => match getA tm x with
    | .c (.ptr k off) => match bx[k]? with
      | some (.cells cs) => match optI tm lo 0, optI tm hi len with
        | some a, some b => if 0 ≤ a ∧ a ≤ b ∧ b ≤ len ∧ len ≤ 9223372036854775807 ∧ 0 < sz ∧ off + len * sz = cs.length then some (if a = b then .sl .shut sz [] else .c (.ms k (off + a.toNat * sz) sz (b.toNat - a.toNat))) else none
        | _, _ => none
      | _ => none
    | _ => none
  | .sliceM sz x lo hi mx => match getA tm x with
    | .c (.ms k off s n) => match bx[k]? with
      | some (.row s' es) => if s = sz ∧ s' = sz ∧ off % sz = 0 then
          (match optI tm lo 0, optI tm hi n, mx with
           | some a, some b, none => if 0 ≤ a ∧ a ≤ b ∧ b.toNat + off / sz ≤ es.length ∧ (a = 0 ∨ a.toNat + off / sz < es.length) then some (.c (.ms k (off + a.toNat * sz) sz (b.toNat - a.toNat))) else none
           | some a, some b, some m => match asI (getA tm m) with
             | some c => if 0 ≤ a ∧ a ≤ b ∧ b ≤ c ∧ c.toNat + off / sz ≤ es.length then some .undef else none
             | none => none
           | _, _, _ => none)
        else none
      | _ => none
    | _ => none
  | .bytesM x => match getA tm x with
    | .c (.ms k off sz n) => match bx[k]? with
      | some b => match b.elems sz off n with
        | some es => if sz = 1 then (bytesOf' es).map .s else none
        | none => none
      | none => none
    | _ => none
  | .mlook z ok m k n => match getA tm m, (getA tm k).toPV with
    | .c (.mp b), some p => match bx[b]? with
      | some (.map kv) => if keyN n p then (match mapGet kv p with
        | some (some v) => some (if ok then .tup [mval z v, .b true] else mval z v)
        | some none => some (if ok then .tup [mval z z, .b false] else mval z z)
        | none => none) else none
      | _ => none
    | _, _ => none
  | _ => none
def idOf (d : Option Nat) (p : Nat) : Nat := 64 * d.getD 0 + p
def CV.shutIds (is : List Nat) : CV → CV
  | .own i sz es => if is.contains i then .pv (.sl .shut sz es) else .own i sz es
  | x => x
def CV.freeze (bx : List Box) (dies : Nat → Bool) : CV → CV
  | .ms k off sz n => if dies k then
      (match (bx[k]?).bind (Box.elems sz off n) with
       | some es => .pv (.sl .shut sz es)
       | none => .undef)
    else .ms k off sz n
  | .ptr k o => if dies k then .undef else .ptr k o
  | .fn f caps => if caps.any dies then .undef else .fn f caps
  | .mp k => if dies k then .undef else .mp k
  | x => x
def killB (dies : Nat → Bool) : Nat → List Box → List Box
  | _, [] => []
  | k, b :: r => (if dies k then .dead else b) :: killB dies (k + 1) r
def St.freeze (dies : Nat → Bool) (st : St) : St :=
  ⟨st.tm.map (AV.map (CV.freeze st.bx dies)), killB dies 0 (st.bx.map (Box.map' (CV.freeze st.bx dies)))⟩
def msKeys : CV → List Nat
  | .ms k _ _ _ => [k]
  | _ => []
def reach (bx : List Box) : Nat → List Nat → List Nat → List Nat
  | 0, _, acc => acc
  | _ + 1, [], acc => acc
  | n + 1, k :: r, acc => if acc.contains k then reach bx n r acc
    else reach bx n (r ++ (match bx[k]? with | some b => b.keys | none => [])) (acc ++ [k])
def CV.renK (K : List Nat) : CV → CV
  | .ms k o s n => match K.idxOf? k with | some j => .ms j o s n | none => .undef
  | .ptr k o => match K.idxOf? k with | some j => .ptr j o | none => .undef
  | .fn f caps => if caps.all (K.contains ·) then .fn f (caps.map fun k => (K.idxOf? k).getD 0) else .undef
  | .mp k => match K.idxOf? k with | some j => .mp j | none => .undef
  | x => x
def CV.back (K : List Nat) (L : Nat) : CV → CV := CV.ren fun j => match K[j]? with | some k => k | none => L + (j - K.length)
def getBs (bx : List Box) : List Nat → Option (List Box)
  | [] => some []
  | k :: r => match bx[k]?, getBs bx r with
    | some b, some l => some (b :: l)
    | _, _ => none
def setBs (bx : List Box) : List Nat → List Box → List Box
  | k :: r, b :: l => setBs (bx.set k b) r l
  | _, _ => bx
def nodupB : List Nat → Bool
  | [] => true
  | x :: l => !l.contains x && nodupB l
def renIdBy (is : List Nat) (f : Nat → Nat) : CV → CV
  | .own i sz es => match is.idxOf? i with | some p => .own (f p) sz es | none => .pv (.sl .shut sz es)
  | x => x
def freshIds (f : Nat → Nat) (is : List Nat) : CV → CV := if nodupB is then renIdBy is f else CV.shutAll
def apOk (tm : List AV) (K : List Nat) (ap : List XArg) : Bool := ap.all fun X => match getA tm X with
  | .c (.ptr k _) => !K.contains k
  | .c (.cptr _ _) => true
  | _ => false
def callW (call : Oracle) (d : Option Nat) (fz : Bool) (ap : List XArg) (f : XArg) (args : List XArg) (st0 : St) : Option (AV × St) :=
  let st := if fz then st0.freeze (fun k => ((args.map (getA st0.tm)).flatMap AV.all |>.flatMap msKeys).contains k) else st0
  match getA st.tm f with
  | .c (.fn g caps) =>
    let as := args.map (getA st.tm) ++ caps.map fun k => .c (.ptr k 0)
    if as.all noTup && apOk st.tm (reach st.bx 200 (as.flatMap AV.keys) []) ap then
      let K := reach st.bx 200 (as.flatMap AV.keys) []
      match getBs st.bx K with
      | some sub =>
        let I0 := sub.flatMap Box.all |>.flatMap CV.ids
        let sub' := sub.map (Box.map' fun x => (freshIds id I0 x).renK K)
        let st1 := st.mapC (CV.shutIds I0)
        match call g (as.map (AV.map fun x => x.shutAll.renK K)) sub' with
        | some (r, bs) =>
          if K.length ≤ bs.length then
            let I := r.all.flatMap CV.ids ++ (bs.flatMap Box.all |>.flatMap CV.ids)
            let L := st1.bx.length
            let g' := fun x => (freshIds (idOf d) I x).back K L
            let bs' := bs.map (Box.map' g')
            let st2 := st1.mapC (CV.shutIds ((List.range I.length).map (idOf d)))
            some (r.map g', ⟨st2.tm, setBs st2.bx K (bs'.take K.length) ++ bs'.drop K.length⟩)
          else none
        | none => none
      | none => none
    else none
  | _ => none
def srcEs (sz : Nat) (bx : List Box) : AV → Option (List PV)
  | .c (.pv (.str l)) => if sz = 1 then some (pvBytes l) else none
  | .c (.ms k off s n) => if s = sz then (bx[k]?).bind (Box.elems sz off n) else none
  | .c y => if szOk sz y then slEs y else none
  | _ => none
def callMV (call : Oracle) (f : XArg) (args : List XArg) (st : St) : Option (AV × St) :=
  match getA st.tm f with
  | .c (.fn g []) =>
    let as := args.map (getA st.tm)
    if as.all (fun a => noTup a && a.keys.isEmpty) then
      match call g (as.map (AV.map CV.shutAll)) [] with
      | some (.c (.own _ sz es), []) =>
        if es.all (rowE sz) && decide (0 < sz) then some (.c (.ms st.bx.length 0 sz es.length), ⟨st.tm, st.bx ++ [.row sz es]⟩) else none
      | _ => none
    else none
  | _ => none
def mkBox (r : Bool) (z : List CV) (sz n : Nat) : Option Box :=
  if r then
    (match toPVs z with
     | some ps => if rowE sz (rowOf sz ps) then some (.row sz (List.replicate n (rowOf sz ps))) else none
     | none => none)
  else some (.cells (repC z n))
def evW (call : Oracle) (d : Option Nat) (op : XOp) (st : St) : Option (AV × St) :=
  match op with
  | .box x n =>
    let v := getA st.tm x
    if v.flat ∧ v.cells.length = n then some (.c (.ptr st.bx.length 0), ⟨st.tm, st.bx ++ [.cells v.cells]⟩) else none
  | .alloc z => some (.c (.ptr st.bx.length 0), ⟨st.tm, st.bx ++ [.cells z]⟩)
  | .store n a x => match getA st.tm a with
    | .c (.ptr k off) => match st.bx[k]? with
      | some b =>
        let v := getA st.tm x
        if v.flat ∧ v.cells.length = n ∧ 0 < n then
          match b.put off v.cells with
          | some b' => some (.undef, ⟨st.tm, st.bx.set k b'⟩)
          | none => none
        else none
      | none => none
    | _ => none
  | .storeO n a x u => match getA st.tm a, getA st.tm u with
    | .c (.ptr k off), .c (.ptr k' _) => if k = k' then none else match st.bx[k]? with
      | some b =>
        let v := getA st.tm x
        if v.flat ∧ v.cells.length = n ∧ 0 < n then
          match b.put off v.cells with
          | some b' => some (.undef, ⟨st.tm, st.bx.set k b'⟩)
          | none => none
        else none
      | none => none
    | _, _ => none
  | .mkmap => some (.c (.mp st.bx.length), ⟨st.tm, st.bx ++ [.map []]⟩)
  | .sbytes x => match getA st.tm x with
    | .c (.pv (.str l)) => if l.length ≤ 16777216 then some (.c (.ms st.bx.length 0 1 l.length), ⟨st.tm, st.bx ++ [.row 1 (pvBytes l)]⟩) else none
    | _ => none
  | .rng x => match getA st.tm x with
    | .c (.pv (.str l)) => some (.c (.ptr st.bx.length 0), ⟨st.tm, st.bx ++ [.iter l 0]⟩)
    | _ => none
  | .nxt it => match getA st.tm it with
    | .c (.ptr k 0) => match st.bx[k]? with
      | some (.iter l pos) =>
        if pos < l.length then some (.tup [.b true, .i pos, .int .i32 (Utf8.decode ⟨l.toArray⟩ pos).1], ⟨st.tm, st.bx.set k (.iter l (pos + (Utf8.decode ⟨l.toArray⟩ pos).2))⟩)
        else some (.tup [.b false], st)
      | _ => none
    | _ => none
  | .ment z m k n => match getA st.tm m, (getA st.tm k).toPV with
    | .c (.mp b), some p => match st.bx[b]? with
      | some (.map kv) => if keyN n p then (match mapPos kv p 0 with
        | some (some (i, v)) => some (.tup [mval z v, .i (i : Nat)], ⟨st.tm, st.bx.set b (.map kv)⟩)
        | some none => some (.tup [mval z z, .i (kv.length : Nat)], ⟨st.tm, st.bx.set b (.map (kv ++ [(p, z)]))⟩)
        | none => none) else none
      | _ => none
    | _, _ => none
  | .mest m s v => match getA st.tm m, getA st.tm s, (getA st.tm v).toPV with
    | .c (.mp b), .c (.pv (.int .i64 i)), some q => match st.bx[b]? with
      | some (.map kv) => if 0 ≤ i ∧ i.toNat < kv.length then some (.undef, ⟨st.tm, st.bx.set b (.map (mapSet kv i.toNat q))⟩) else none
      | _ => none
    | _, _, _ => none
  | .mupd m k v n => match getA st.tm m, (getA st.tm k).toPV, (getA st.tm v).toPV with
    | .c (.mp b), some p, some q => match st.bx[b]? with
      | some (.map kv) => if keyN n p then (match mapPut kv p q with
        | some kv' => some (.undef, ⟨st.tm, st.bx.set b (.map kv')⟩)
        | none => none) else none
      | _ => none
    | _, _, _ => none
  | .mkslice r z sz bytes n c => match asI (getA st.tm n), asI (getA st.tm c) with
    | some a, some b =>
      if 0 ≤ a ∧ a = b ∧ (bytes : Int) * b ≤ 281474976710656 ∧ b ≤ 9223372036854775807 ∧ z.length = sz ∧ 0 < sz then
        (match mkBox r z sz a.toNat with
         | some x => some (.c (.ms st.bx.length 0 sz a.toNat), ⟨st.tm, st.bx ++ [x]⟩)
         | none => none)
      else none
    | _, _ => none
  | .app sz bytes s x =>
    match srcEs sz st.bx (getA st.tm x) with
    | some new =>
      (match getA st.tm s with
       | .c (.pv (.sl o s' es)) =>
         if new = [] then some (.c (.pv (.sl o s' es)), st)
         else if o ≠ .shut ∧ (o = .nil ∨ s' = sz) ∧ ((es.length + new.length : Nat) : Int) * bytes ≤ 140737488355328 then
           some (.c (.own (idOf d 63) sz (es ++ new)), st.mapC (CV.shutId (idOf d 63)))
         else none
       | .c (.own i s' es) =>
         if s' = sz ∧ ((es.length + new.length : Nat) : Int) * bytes ≤ 140737488355328 then
           some (.c (.own (idOf d 63) sz (es ++ new)), (st.mapC (CV.shutId i)).mapC (CV.shutId (idOf d 63)))
         else none
       | _ => none)
    | none => none
  | .appM sz s x => match srcEs sz st.bx (getA st.tm x), getA st.tm s with
    | some new, .c (.ms k off s' n) => if s' = sz then
        (if new = [] then some (.c (.ms k off sz n), st)
         else match (st.bx[k]?).bind (Box.putEs sz (off + n * sz) new) with
         | some b => some (.c (.ms k off sz (n + new.length)), ⟨st.tm, st.bx.set k b⟩)
         | none => none)
      else none
    | _, _ => none
  | .clr z sz x => match getA st.tm x, toPVs z with
    | .c (.ms k off s n), some ps => if s = sz ∧ z.length = sz ∧ rowE sz (rowOf sz ps) = true then
        (if n = 0 then some (.tup [], st)
         else match (st.bx[k]?).bind (Box.putEs sz off (List.replicate n (rowOf sz ps))) with
         | some b => some (.tup [], ⟨st.tm, st.bx.set k b⟩)
         | none => none)
      else none
    | _, _ => none
  | .call fz ap f args => callW call d fz ap f args st
  | .callM f args => callMV call f args st
  | _ => none
def wantG (tm : List AV) : Option (Nat × Bool) → Option Bool
  | none => some true
  | some (t, b) => match tm.getD t .undef with
    | .c (.pv (.bool x)) => some (x == b)
    | .tup [] => some false
    | _ => none
def evV (call : Oracle) (o : XOper) (st : St) : Option AV :=
  match wantG st.tm o.grd with
  | none => none
  | some false => some (.tup [])
  | some true =>
    if o.cls = .p then evP call o.op st.tm else evR o.op st.tm st.bx
def evS (call : Oracle) (o : XOper) (st : St) : Option (AV × St) :=
  match wantG st.tm o.grd with
  | none => none
  | some false => some (.tup [], st)
  | some true => evW call o.dst o.op st
def evOper (call : Oracle) (o : XOper) (st : St) : Option St :=
  match o.cls with
  | .w => match evS call o st with
    | some (v, s) => some ⟨putD s.tm o.dst v, s.bx⟩
    | none => none
  | _ => match evV call o st with
    | some v => some ⟨putD st.tm o.dst v, st.bx⟩
    | none => none
def evOps (call : Oracle) : List XOper → St → Option St
  | [], st => some st
  | o :: r, st => match evOper call o st with
    | some st' => evOps call r st'
    | none => none
def trimL (m : List Bool) (L : Nat) : List AV → List AV
  | [] => []
  | v :: r => match m with
    | [] => .undef :: trimL [] L r
    | b :: m' => (if b then v.map (CV.trim L) else .undef) :: trimL m' L r
def trimSt (m : List Bool) (L : Nat) (st : St) : St := ⟨trimL m L st.tm, (st.bx.take L).map (Box.map' (CV.trim L))⟩
def maskL : List Bool → List AV → List AV
  | _, [] => []
  | [], _ :: r => .undef :: maskL [] r
  | b :: m, v :: r => (if b then v else .undef) :: maskL m r
def trSt (m : List Bool) (cut : Bool) (L : Nat) (st : St) : St := if cut then trimSt m L st else ⟨maskL m st.tm, st.bx⟩
def evL (body : St → Option (XExit × St)) (m : List Bool) (L : Nat) : Nat → St → Option (XExit × St)
  | 0, _ => none
  | n + 1, st => match body (trimSt m L st) with
    | some (.normal, st') => evL body m L n st'
    | r => r
def evC (call : Oracle) (n : Nat) : XCode → St → Option (XExit × St)
  | .skip, st => some (.normal, st)
  | .region _ ops, st => (evOps call ops st).map fun s => (.normal, s)
  | .seq a b, st => match evC call n a st with
    | some (.normal, st') => evC call n b st'
    | r => r
  | .cond c a b, st => match getA st.tm c with
    | .c (.pv (.bool t)) => if t then evC call n a st else evC call n b st
    | _ => none
  | .block id c, st => match evC call n c st with
    | some (.exit j, st') => if j = id then some (.normal, st') else some (.exit j, st')
    | r => r
  | .loop m c, st => evL (evC call n c) m st.bx.length n st
  | .exit id, st => some (.exit id, st)
  | .scope c, st => evC call n c st
  | .label, st => some (.normal, st)
  | .ret, st => some (.ret, st)
  | .tr m cut c, st => match evC call n c st with
    | some (e, st') => some (e, trSt m cut st.bx.length st')
    | none => none
def getRes (st : St) : List XRes → Option (List AV)
  | [] => some []
  | .tmp t :: r => match getRes st r with
    | some l => some (st.tm.getD t .undef :: l)
    | none => none
  | .cell t ag n :: r => match getRes st r, st.tm.getD t .undef with
    | some l, .c (.ptr k off) => match st.bx[k]? with
      | some (.cells cs) => match takeB n cs off with
        | some q => if ag then some (.agg q :: l) else match q with
          | [x] => some (.c x :: l)
          | _ => none
        | none => none
      | _ => none
    | _, _ => none
def packRes : List AV → AV
  | [v] => v
  | vs => .tup vs
def CV.holds (m : Nat) : CV → Bool
  | .ptr k _ => decide (m ≤ k)
  | .fn _ caps => caps.any fun k => decide (m ≤ k)
  | .mp k => decide (m ≤ k)
  | _ => false
def leave (m : Nat) (r : AV) (bx : List Box) : AV × List Box :=
  if (r.all ++ (bx.take m).flatMap Box.all).any (CV.holds m) then (r, bx)
  else (r.map (CV.freeze bx fun k => decide (m ≤ k)), (bx.take m).map (Box.map' (CV.freeze bx fun k => decide (m ≤ k))))
def runF (call : Oracle) (n : Nat) (x : XFunc) (args : List AV) (bx : List Box) : Option (AV × List Box) :=
  match evC call n x.body ⟨args ++ List.replicate (x.nt - args.length) .undef, bx⟩ with
  | some (.exit _, _) => none
  | some (_, st) => match getRes st x.res with
    | some vs => if vs.all noTup then some (leave bx.length (packRes vs) st.bx) else none
    | none => none
  | none => none
def evF (X : Nat → Option XFunc) (E : Oracle) : Nat → Oracle
  | 0 => fun _ _ _ => none
  | n + 1 => fun f args bx => match X f with
    | some x => runF (evF X E n) n x args bx
    | none => E f args bx
end Go.Sx
