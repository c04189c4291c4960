/- What is on an account. -/
import Derived.Test.YtdhefhnlagnkdaaDoorK3
namespace Go.Sx.Tryd
open Go Go.Sx
end Go.Sx.Tryd
