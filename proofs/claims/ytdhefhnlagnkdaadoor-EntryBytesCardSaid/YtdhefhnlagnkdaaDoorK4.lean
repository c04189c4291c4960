/- What is wrong with a posting, of the document. -/
import Derived.Test.YtdhefhnlagnkdaaDoorK3
import Derived.Test.YtdhefhnlagnkdaaDoorG0
import Derived.Test.YtdhefhnlagnkdaaDoorN1
namespace Go.Sx.Tryd
open Go Go.Sx
-- keep f34: 8 9 10 11 12
-- keep f34r: 8
end Go.Sx.Tryd
