/- From the program's code to the evaluator's: code, functions. -/
import Derived.Test.YtdhefhnlagnkdaaDoorSxCmp
import Derived.Orders
namespace Go.Sx
def XOper.uses (x : XOper) : List Nat := x.op.args.flatMap XArg.tmps ++ (match x.grd with | some (t, _) => [t] | none => [])
def XOper.allocs (x : XOper) : Bool := x.cls == .w && match x.op with | .alloc _ => true | .callM _ _ => true | _ => false
def XOper.stores (x : XOper) : Bool := x.cls == .w && match x.op with | .store _ _ _ => true | .storeO _ _ _ _ => true | _ => false
def XOper.storesO (x : XOper) (u : Nat) : Bool := x.cls == .w && match x.op with | .storeO _ _ _ (.tmp q) => q == u | _ => false
def XOper.apps (x : XOper) : Bool := x.cls == .w && match x.op with | .app _ _ _ _ => true | _ => false
def XOper.calls (x : XOper) : Bool := x.cls == .w && match x.op with | .call false _ _ _ => true | _ => false
def AV.fixed : AV → Bool
  | .c x => x.ids.isEmpty
  | .agg cs => cs.all fun x => x.ids.isEmpty
  | .tup _ => false
def litEven : XArg → Bool
  | .tmp _ => true
  | .lit a => a.fixed
def evenOp : XOp → Bool
  | .buildSl z _ _ _ => z.all fun x => x.ids.isEmpty
  | .mv _ | .pick _ _ _ | .load _ _ _ | .loadR _ _ _ _ | .nilc _ | .bin _ _ _ | .eqB _ _ _ | .eqN _ _ _ _ | .un _ _ | .convI _ _ | .convS _ | .bytesS _ | .faddr _ _ | .iaddrS _ _ _ | .iaddrA _ _ _ _ | .idxS _ _ | .len _ | .lenS _ => true
  | _ => false
def XOper.even (x : XOper) : Bool := evenOp x.op && x.op.args.all litEven
def okLoad (x y : XOper) : Bool :=
  x.cls == .r && match x.op with
  | .load _ _ _ => y.apps
  | .loadR _ _ _ (.tmp u) => y.apps || match y.op with
    | .call _ ap _ _ => ap.any fun X => match X with | .tmp q => q == u | .lit _ => false
    | _ => false
  | _ => false
def okKind (x y : XOper) : Bool :=
  (x.cls != .w && y.cls != .w) || (x.cls != .w && y.allocs) || (x.allocs && y.cls == .p) || (x.cls == .p && y.stores) || (x.stores && y.cls == .p) || (x.even && (x.cls == .p || okLoad x y) && (y.apps || y.calls)) || (x.cls == .r && match x.op with | .loadR _ _ _ (.tmp u) => y.storesO u | _ => false)
def okPair (x y : XOper) : Bool :=
  (match x.dst with | some d => !y.uses.contains d && y.dst != some d | none => true) &&
  (match y.dst with | some d => !x.uses.contains d | none => true) &&
  okKind x y
def masksGo : List Oper → List Nat → List Nat
  | [], acc => acc
  | o :: r, acc => masksGo r (acc ++ [o.after.toList.foldl (fun s e => if Region.binds .any e then s ||| 2 ^ e.on ||| acc.getD e.on 0 else s) 0])
def maskOk (ms : List Nat) (n : Nat) (o : Oper) (m : Nat) : Bool :=
  (List.range n).all fun k => !m.testBit k || o.after.toList.any fun e => Region.binds .any e && (e.on == k || (ms.getD e.on 0).testBit k)
def masksOk (ops : Array Oper) (ms : List Nat) : Bool :=
  (List.range ops.size).all fun i => match ops[i]? with
    | some o => maskOk ms ops.size o (ms.getD i 0)
    | none => false
def permOk (ops : Array Oper) (xs : List XOper) (ms : List Nat) : List Nat → List Nat → Bool
  | [], seen => (List.range ops.size).all fun j => seen.contains j
  | i :: r, seen => match ops[i]?, xs[i]? with
    | some o, some y => !seen.contains i && (o.after.toList.all fun e => !Region.binds .any e || seen.contains e.on) &&
        (seen.all fun k => (ms.getD i 0).testBit k || match xs[k]? with | some x => okPair x y | none => false) && permOk ops xs ms r (i :: seen)
    | _, _ => false
def litKey : XArg → Bool
  | .tmp _ => true
  | .lit a => match a with
    | .c x => x.keys.isEmpty
    | .agg cs => cs.all fun x => x.keys.isEmpty
    | .tup _ => false
def renOp (o : XOper) : Bool := o.grd.isNone && o.op.args.all litKey && match o.cls, o.op with
  | .w, .store _ _ _ => true
  | .w, .storeO _ _ _ _ => true
  | .r, .load _ _ _ => true
  | .r, .loadR _ _ _ _ => true
  | .p, .mv _ => true
  | .p, .faddr _ _ => true
  | .p, .convI _ _ => true
  | .p, .len _ => true
  | .p, .bin _ _ _ => true
  | .p, .iaddrS _ _ _ => true
  | .p, .load _ _ _ => true
  | _, _ => false
def okMk (o : XOper) : Bool := o.grd.isNone && o.dst.isSome && match o.cls, o.op with
  | .w, .alloc z => z.all fun x => x.keys.isEmpty
  | _, _ => false
def permOkX (ops : Array Oper) (xs : List XOper) (ms : List Nat) (ex : Nat → Nat → Bool) : List Nat → List Nat → Bool
  | [], seen => (List.range ops.size).all fun j => seen.contains j
  | i :: r, seen => match ops[i]?, xs[i]? with
    | some o, some y => !seen.contains i && (o.after.toList.all fun e => !Region.binds .any e || seen.contains e.on) &&
        (seen.all fun k => (ms.getD i 0).testBit k || ex k i || match xs[k]? with | some x => okPair x y | none => false) && permOkX ops xs ms ex r (i :: seen)
    | _, _ => false
def okMk2 (ops : Array Oper) (xs : List XOper) (ms perm : List Nat) (k : Nat) : Bool :=
  match perm[k]?, perm[k + 1]? with
  | some A, some B =>
    (match ops[B]?, xs[A]?, xs[B]? with
     | some o, some x, some y => okMk x && okMk y && x.dst != y.dst && o.after.toList.all fun e => !Region.binds .any e || e.on != A
     | _, _, _ => false) &&
    ((perm.take k ++ perm.drop (k + 2)).all fun i => match xs[i]? with | some z => renOp z | none => false) &&
    permOkX ops xs ms (fun k i => k == A && i == B) perm []
  | _, _ => false
def okDraw (ops : Array Oper) (xs : List XOper) (perm : List Nat) : Bool :=
  let ms := masksGo ops.toList []
  masksOk ops ms && (permOk ops xs ms perm [] || (List.range perm.length).any fun k => okMk2 ops xs ms perm k)
def pickL (xs : List XOper) : List Nat → Option (List XOper)
  | [] => some []
  | i :: r => match xs[i]?, pickL xs r with
    | some x, some l => some (x :: l)
    | _, _ => none
def Hints.under : Hints → Hints
  | .tr _ _ h => h
  | h => h
def Hints.wrap : Hints → XCode → XCode
  | .tr m cut _, c => .tr m cut c
  | _, c => c
def cmpCode (P : Program) : Code → Hints → Option XCode
  | .skip, _ => some .skip
  | .region _ ops draw, h => match cmpOpers P ops ops.toList h.under.list with
    | some xs => if draw then (if okDraw ops xs (h.under.perm ops.size) then (pickL xs (h.under.perm ops.size)).map fun ys => h.wrap (.region true ys) else none) else some (h.wrap (.region false xs))
    | none => none
  | .seq a b, h => match cmpCode P a h.under.fst, cmpCode P b h.under.snd with
    | some x, some y => some (h.wrap (.seq x y))
    | _, _ => none
  | .cond c a b, h => match cArg c, cmpCode P a h.under.fst, cmpCode P b h.under.snd with
    | some c, some x, some y => some (h.wrap (.cond c x y))
    | _, _, _ => none
  | .block id c, h => (cmpCode P c h.under).map fun x => h.wrap (.block id x)
  | .loop c, h => (cmpCode P c h.under.fst).map fun x => h.wrap (.loop h.under.mask x)
  | .exit id, h => some (h.wrap (.exit id))
  | .scope c, h => (cmpCode P c h.under).map fun x => h.wrap (.scope x)
  | .label _, _ => some .label
  | .ret, h => some (h.wrap .ret)
  | _, _ => none
def cmpRes (P : Program) : List ResultVar → Option (List XRes)
  | [] => some []
  | .tmp t :: r => (cmpRes P r).map (.tmp t :: ·)
  | .cell a t :: r => match cmpRes P r, isAggD (P.underlying t), sizeT P t with
    | some l, some ag, some n => some (.cell a ag (if ag then n else 1) :: l)
    | _, _, _ => none
def cmpFunc (P : Program) (f : Nat) (h : Hints) : Option XFunc :=
  match P.funcs[f]? with
  | some fn => match fn.body with
    | some c => if fn.name == "runtime.NumGoroutine" then none else match cmpCode P c h, cmpRes P fn.results.toList with
      | some x, some rs => some ⟨fn.ntmps, rs, x⟩
      | _, _ => none
    | none => none
  | none => none
end Go.Sx
