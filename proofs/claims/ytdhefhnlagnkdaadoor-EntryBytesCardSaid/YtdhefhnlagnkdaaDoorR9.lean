/- What the document's answer writes, and what a value's writing comes to. -/
import Derived.Test.YtdhefhnlagnkdaaDoorW9
namespace Go.Sx.Tryd
open Go Go.Sx
end Go.Sx.Tryd
