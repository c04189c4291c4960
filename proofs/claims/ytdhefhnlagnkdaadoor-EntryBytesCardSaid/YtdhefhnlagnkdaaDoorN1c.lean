/- What reverses a posting, of the document. -/
import Derived.Test.YtdhefhnlagnkdaaDoorK4
namespace Go.Sx.Tryd
open Go Go.Sx
end Go.Sx.Tryd
