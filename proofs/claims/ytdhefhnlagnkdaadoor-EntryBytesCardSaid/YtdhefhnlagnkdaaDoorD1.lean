/- The debits of a posting. -/
import Derived.Test.YtdhefhnlagnkdaaDoorK3b
namespace Go.Sx.Tryd
open Go Go.Sx
end Go.Sx.Tryd
