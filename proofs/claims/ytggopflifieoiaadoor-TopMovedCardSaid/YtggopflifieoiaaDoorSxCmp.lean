/- From the program's code to the evaluator's. -/
import Derived.Test.YtggopflifieoiaaDoorSxDefs
import GoSem.Core.View
import GoSem.Core.Region
import GoSem.Core.Layout
namespace Go.Sx
def cPV : Value → Option PV
  | .bool b => some (.bool b)
  | .int k n => some (.int k n)
  | .string s => some (.str s.data.toList)
  | .slice none 0 0 => some (.sl .nil 0 [])
  | _ => none
def cCV (v : Value) : Option CV :=
  match v with
  | .pointer none => some .nilp
  | .nilFunc => some .nilf
  | .map none => some .nilm
  | v => (cPV v).map .pv
def cList {α β : Type} (f : α → Option β) : List α → Option (List β)
  | [] => some []
  | a :: l => match f a, cList f l with
    | some b, some r => some (b :: r)
    | _, _ => none
def cAV (v : Value) : Option AV :=
  match v with
  | .agg cs => (cList cCV cs.toList).map .agg
  | v => (cCV v).map .c
def cArg : Operand → Option XArg
  | .tmp t => some (.tmp t)
  | .const v => (cAV v).map .lit
  | .func f => some (.lit (.c (.fn f [])))
  | .global g => (globs g).map fun cells => .lit (.c (.cptr cells 0))
def cOpt : Option Operand → Option (Option XArg)
  | none => some none
  | some x => (cArg x).map some
def isAggD : Option TypeDesc → Option Bool
  | some (.struct _) => some true
  | some (.array _ _) => some true
  | some _ => some false
  | none => none
def sizeT (P : Program) (t : TypeId) : Option Nat := (P.info? t).map (·.size)
def zeroT (P : Program) (t : TypeId) : Option (List CV) := ((P.info? t).bind (·.zero)).bind fun v => (cAV v).map AV.cells
def flatFs (P : Program) (rec : TypeId → Option (List Nat)) : Nat → List Field → Option (List Nat)
  | _, [] => some []
  | off, f :: fs => if f.name ≠ "_" ∧ f.offset = off then match rec f.type with
      | some ks => if sizeT P f.type = some ks.length then (flatFs P rec (off + ks.length) fs).map (ks ++ ·) else none
      | none => none
    else none
def repK (ks : List Nat) : Nat → List Nat
  | 0 => []
  | n + 1 => ks ++ repK ks n
def flatK (P : Program) : Nat → TypeId → Option (List Nat)
  | 0, _ => none
  | d + 1, t => match P.underlying t with
    | some (.int _) => some [0]
    | some .bool => some [1]
    | some .string => some [2]
    | some (.struct fs) => if P.stoodInHeld t then none else match flatFs P (flatK P d) 0 fs.toList with
      | some ks => if sizeT P t = some ks.length then some ks else none
      | none => none
    | some (.array n e) => match flatK P d e with
      | some ks => if sizeT P e = some ks.length ∧ sizeT P t = some (repK ks n).length then some (repK ks n) else none
      | none => none
    | _ => none
def keyT (P : Program) (kt : TypeId) : Option Nat := match P.underlying kt with
  | some (.int _) => some 0
  | some (.struct fs) => match flatK P 20 kt with
    | some ks => if ks = List.replicate fs.size 0 ∧ 0 < fs.size ∧ (fs.toList.all fun f => f.name != "_" && (match P.underlying f.type with | some (.int _) => true | _ => false)) = true then some fs.size else none
    | none => none
  | _ => none
def cPVs : List Value → Option (List PV)
  | [] => some []
  | v :: l => match cPV v, cPVs l with
    | some p, some r => some (p :: r)
    | _, _ => none
def cPVz : Value → Option PV
  | .agg xs => (cPVs xs.toList).map PV.agg
  | v => cPV v
def partsS (P : Program) (fs : Array Field) : List (Nat × Operand) → Option (List (Nat × Nat × XArg))
  | [] => some []
  | (i, x) :: r => match (fs[i]?).bind (fun f => (sizeT P f.type).map fun n => (f.offset, n)), cArg x, partsS P fs r with
    | some (o, n), some a, some l => some ((o, n, a) :: l)
    | _, _, _ => none
def partsA (sz : Nat) : List (Nat × Operand) → Option (List (Nat × Nat × XArg))
  | [] => some []
  | (i, x) :: r => match cArg x, partsA sz r with
    | some a, some l => some ((i * sz, sz, a) :: l)
    | _, _ => none
def cmpCall (P : Program) (c : Call) : Option XOp :=
  match c.callee with
  | .value f => match cArg f, cList cArg c.args.toList with
    | some g, some as => some (.call false [] g as)
    | _, _ => none
  | .invoke _ _ => none
  | .builtin b =>
    match b, c.args.toList, c.argTypes.toList with
    | .len, [x], [t] => match P.underlying t, cArg x with
      | some .string, some a => some (.lenS a)
      | some (.slice _), some a => some (.len a)
      | some (.array n _), some _ => some (.mv (.lit (.i n)))
      | _, _ => none
    | .min, xs, _ => (cList cArg xs).map .minI
    | .max, xs, _ => (cList cArg xs).map .maxI
    | .clear, [x], [t] => match P.underlying t, cArg x with
      | some (.slice e), some a => match sizeT P e, zeroT P e with
        | some sz, some z => if sz = 0 ∨ z.length ≠ sz then none else some (.clr z sz a)
        | _, _ => none
      | _, _ => none
    | .append, [s, x], [t, u] => match P.underlying t, P.underlying u, cArg s, cArg x with
      | some (.slice e), some d, some a, some b => match P.info? e with
        | some i => if i.size = 0 ∨ i.bytes = 0 ∨ (i.zero.map fun z => z.cells.size) ≠ some i.size then none else match d with
          | .slice _ => some (.app i.size i.bytes a b)
          | .string => if i.size = 1 then some (.app i.size i.bytes a b) else none
          | _ => none
        | none => none
      | _, _, _, _ => none
    | _, _, _ => none
def cmpOp (P : Program) (op : Op) : Option XOp :=
  match op with
  | .move x => (cArg x).map .mv
  | .assign x => (cArg x).map .mv
  | .pick c a b => match cArg c, cArg a, cArg b with
    | some c, some a, some b => some (.pick c a b)
    | _, _, _ => none
  | .box t x => match cArg x, sizeT P t with
    | some a, some n => some (.box a n)
    | _, _ => none
  | .alloc t => (zeroT P t).map .alloc
  | .build t parts => match P.underlying t, zeroT P t with
    | some (.struct fs), some z => if fs.toList.all fun f => (sizeT P f.type).isSome then (partsS P fs parts.toList).map (.build z) else none
    | some (.array _ e), some z => match sizeT P e with
      | some sz => (partsA sz parts.toList).map (.build z)
      | none => none
    | _, _ => none
  | .buildSlice t len parts => match P.underlying t with
    | some (.slice e) => match sizeT P e, zeroT P e with
      | some sz, some z => if sz = 0 ∨ z.length ≠ sz ∨ len * sz > 16777216 then none else (partsA sz parts.toList).map (.buildSl z len sz)
      | _, _ => none
    | _ => none
  | .load t a => match isAggD (P.underlying t), sizeT P t, cArg a with
    | some ag, some n, some x => if ag then some (.load true n x) else some (.load false 1 x)
    | _, _, _ => none
  | .store t a x => match sizeT P t, cArg a, cArg x with
    | some n, some a, some x => some (.store n a x)
    | _, _, _ => none
  | .nilCheck x => (cArg x).map .nilc
  | .binOp op t x y _ => match cArg x, cArg y, isAggD (P.underlying t) with
    | some a, some b, some false => match op with
      | .eql | .neq => match P.underlying t with
        | some (.int _) | some .string => some (.bin op a b)
        | some .bool => some (.eqB (op == .neq) a b)
        | some (.slice _) => some (.eqN 0 (op == .neq) a b)
        | some (.pointer _) => some (.eqN 1 (op == .neq) a b)
        | some (.func _ _ _) => some (.eqN 2 (op == .neq) a b)
        | some (.map _ _) => some (.eqN 3 (op == .neq) a b)
        | _ => none
      | _ => some (.bin op a b)
    | some a, some b, some true => match flatK P 20 t, P.eqGuardType P.depth t with
      | some ks, false => match op with
        | .eql => some (.eqA false ks a b)
        | .neq => some (.eqA true ks a b)
        | _ => none
      | _, _ => none
    | _, _, _ => none
  | .unOp op _ x => (cArg x).map (.un op)
  | .convert src dst x => match P.underlying src, P.underlying dst, cArg x with
    | some (.int _), some (.int k), some a => some (.convI k a)
    | some .string, some .string, some a => some (.convS a)
    | some (.slice e), some .string, some a => match P.underlying e with
      | some (.int .u8) => some (.bytesS a)
      | _ => none
    | some .string, some (.slice e), some a => match P.underlying e with
      | some (.int .u8) => some (.sbytes a)
      | _ => none
    | _, _, _ => none
  | .makeFunc (.func f) first caps => if first.size = 0 then (cList cArg caps.toList).map (.mkfn f) else none
  | .slice t x lo hi mx => match P.underlying t, cArg x, cOpt lo, cOpt hi, cOpt mx with
    | some .string, some a, some l, some h, some none => some (.sliceS a l h)
    | some (.slice e), some a, some l, some h, some m => if m.isSome && h.isNone then none else (sizeT P e).map fun sz => .sliceV sz a l h m
    | some (.array n e), some a, some l, some h, some none => (sizeT P e).map fun sz => .sliceA n sz a l h
    | _, _, _, _, _ => none
  | .fieldAddr s x f => match P.underlying s, cArg x with
    | some (.struct fs), some a => match fs[f]? with
      | some fl => match sizeT P fl.type with
        | some n => if n = 0 then none else some (.faddr fl.offset a)
        | none => none
      | none => none
    | _, _ => none
  | .field t x f => match P.underlying t, cArg x with
    | some (.struct fs), some a => match fs[f]? with
      | some fl => match isAggD (P.underlying fl.type), sizeT P fl.type with
        | some true, some n => some (.fld true fl.offset n a)
        | some false, some _ => some (.fld false fl.offset 1 a)
        | _, _ => none
      | none => none
    | _, _ => none
  | .indexAddr t x i => match P.underlying t, cArg x, cArg i with
    | some (.slice e), some a, some j => (sizeT P e).map fun sz => .iaddrS sz a j
    | some (.array n e), some a, some j => (sizeT P e).map fun sz => .iaddrA n sz a j
    | _, _, _ => none
  | .index t x i => match P.underlying t, cArg x, cArg i with
    | some .string, some a, some j => some (.idxS a j)
    | some (.array n e), some a, some j => match isAggD (P.underlying e), sizeT P e with
      | some true, some sz => some (.idxA n true sz a j)
      | some false, some 1 => some (.idxA n false 1 a j)
      | _, _ => none
    | _, _, _ => none
  | .extract x i => (cArg x).map (.extr i)
  | .makeSlice t l c => match P.underlying t with
    | some (.slice e) => match P.info? e, zeroT P e, cArg l, cArg c with
      | some i, some z, some a, some b => if i.size = 0 ∨ z.length ≠ i.size then none else some (.mkslice false z i.size i.bytes a b)
      | _, _, _, _ => none
    | _ => none
  | .makeMap _ none => some .mkmap
  | .range t x => match P.underlying t with
    | some .string => (cArg x).map .rng
    | _ => none
  | .next x true => (cArg x).map .nxt
  | .mapUpdate t m k x => match P.underlying t with
    | some (.map kt et) => match keyT P kt, isAggD (P.underlying et), cArg m, cArg k, cArg x with
      | some n, some _, some a, some b, some c => some (.mupd a b c n)
      | _, _, _, _, _ => none
    | _ => none
  | .mapEntry t m k => match P.underlying t with
    | some (.map kt et) => match keyT P kt, isAggD (P.underlying et), (P.info? et).bind (fun i => i.zero.bind cPVz), cArg m, cArg k with
      | some n, some _, some z, some a, some b => some (.ment z a b n)
      | _, _, _, _, _ => none
    | _ => none
  | .entryStore _ m s x => match cArg m, cArg s, cArg x with
    | some a, some b, some c => some (.mest a b c)
    | _, _, _ => none
  | .lookup t m k ok => match P.underlying t with
    | some (.map kt et) => match keyT P kt, isAggD (P.underlying et), (P.info? et).bind (fun i => i.zero.bind cPVz), cArg m, cArg k with
      | some n, some _, some z, some a, some b => some (.mlook z ok a b n)
      | _, _, _, _, _ => none
    | _ => none
  | .call c => cmpCall P c
  | .panic _ => some .stuck
  | .makeInterface _ _ => some .stuck
  | _ => none
def clsOf : XOp → Cls
  | .load _ _ _ | .loadR _ _ _ _ | .mlook _ _ _ _ _ | .sliceA _ _ _ _ _ | .sliceM _ _ _ _ _ => .r
  | .box _ _ | .alloc _ | .store _ _ _ | .storeO _ _ _ _ | .mkmap | .sbytes _ | .rng _ | .nxt _ | .mupd _ _ _ _ | .ment _ _ _ _ | .mest _ _ _ | .mkslice _ _ _ _ _ _ | .app _ _ _ _ | .call _ _ _ _ | .callM _ _ | .appM _ _ _ | .clr _ _ _ => .w
  | _ => .p
def cGrd (ops : Array Oper) : Option (Nat × Bool) → Option (Option (Nat × Bool))
  | none => some none
  | some (j, b) => match (ops[j]?).bind (·.dst) with
    | some t => some (some (t, b))
    | none => none
structure Hint where
  cls : Option Cls := none
  fz : Bool := false
  ap : List Nat := []
  root : Option Nat := none
  own : Bool := false
  deriving Inhabited, Repr
def withHint (h : Hint) (o : XOp) : XOp :=
  match o with
  | .call _ _ f as => if h.own then .callM f as else .call h.fz (h.ap.map .tmp) f as
  | .mkslice _ z sz bytes n c => .mkslice h.own z sz bytes n c
  | .bytesS x => if h.own then .bytesM x else .bytesS x
  | .sliceV sz x lo hi mx => if h.own then .sliceM sz x lo hi mx else .sliceV sz x lo hi mx
  | .app sz bytes s x => if h.own then .appM sz s x else .app sz bytes s x
  | .load ag n a => match h.root with
    | some u => .loadR ag n a (.tmp u)
    | none => .load ag n a
  | .store n a x => match h.root with
    | some u => .storeO n a x (.tmp u)
    | none => .store n a x
  | o => o
def cmpOper (P : Program) (ops : Array Oper) (o : Oper) (h : Hint) : Option XOper :=
  match cmpOp P o.op, cGrd ops o.guard with
  | some x, some g => some ⟨o.dst, withHint h x, g, h.cls.getD (clsOf x)⟩
  | none, some g => some ⟨o.dst, .stuck, g, .w⟩
  | _, none => none
def cmpOpers (P : Program) (ops : Array Oper) : List Oper → List Hint → Option (List XOper)
  | [], _ => some []
  | o :: r, hs => match cmpOper P ops o (hs.headD {}), cmpOpers P ops r hs.tail with
    | some x, some l => some (x :: l)
    | _, _ => none
inductive Hints where
  | no
  | ops (l : List Hint)
  | draw (perm : List Nat) (l : List Hint)
  | two (a b : Hints)
  | loop (mask : List Bool) (a : Hints)
  | tr (mask : List Bool) (cut : Bool) (a : Hints)
  deriving Inhabited, Repr
def Hints.fst : Hints → Hints | .two a _ => a | .loop _ a => a | _ => .no
def Hints.snd : Hints → Hints | .two _ b => b | _ => .no
def Hints.list : Hints → List Hint | .ops l => l | .draw _ l => l | _ => []
def Hints.perm (n : Nat) : Hints → List Nat | .draw p _ => p | _ => List.range n
def Hints.mask : Hints → List Bool | .loop m _ => m | _ => []
end Go.Sx
