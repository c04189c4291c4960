/- The document's reader of code: what each reading comes to. -/
import Derived.Test.YtdhefhnlagnkdaaDoorM9
namespace Go.Sx.Tryd
open Go Go.Sx
end Go.Sx.Tryd
/- The document's reader of code: texts and money; and the law CodeReads in the evaluator. -/
namespace Go.Sx.Tryd
open Go Go.Sx
theorem RZS (b : List UInt8) (f : Int) (hb : b.length ≤ 1000000) : cc (ev X E0) 105 [AV.c (.ptr 0 0)] [Box.cells [.pv (.str b), .pv (.int .i64 f)]] =
    some (AV.c (CV.pv (.int .i64 (sgn (step 0 qV b f).1))), [Box.cells [.pv (.str (step 0 qV b f).2.1), .pv (.int .i64 (step 0 qV b f).2.2)]]) := RZ_1 b f hb (by omega) (by have := step_v_lt b f; omega)
end Go.Sx.Tryd
