/- Each posting balances. -/
import Derived.Test.YtdhefhnlagnkdaaDoorD1
import Derived.Test.YtdhefhnlagnkdaaDoorN1
import Derived.Test.YtdhefhnlagnkdaaDoorV0
namespace Go.Sx.Tryd
open Go Go.Sx
end Go.Sx.Tryd
/- Taken back: what reverses a posting. -/
namespace Go.Sx.Tryd
open Go Go.Sx
end Go.Sx.Tryd
