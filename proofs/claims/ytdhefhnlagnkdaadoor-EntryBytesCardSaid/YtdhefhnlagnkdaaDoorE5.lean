/- The statement EntryReverses, of the evaluator. -/
import Derived.Test.YtdhefhnlagnkdaaDoorD2
import Derived.Test.YtdhefhnlagnkdaaDoorN1
import Derived.Test.YtdhefhnlagnkdaaDoorV0
import Derived.Test.YtdhefhnlagnkdaaDoorN1c
namespace Go.Sx.Tryd
open Go Go.Sx
theorem s44z : cc (ev X E0) 44 [AV.agg Z7, AV.agg Z7] [] = some (.b true, []) := by
  have h : ev X E0 44 [AV.agg Z7, AV.agg Z7] [] = some (.b true, []) := ev_of (n := 60) (by kernel_rfl)
  show (ev X E0 44 [AV.agg Z7, AV.agg Z7] []).bind canon = _
  rw [h]; rfl
end Go.Sx.Tryd
