import Derived.Test.YtlaebedgpkiodaaGreatDoorPN1
import Derived.Test.YtlaebedgpkiodaaGreatDoorPK
set_option linter.all false
set_option maxRecDepth 100000
namespace Go.Tw
open Go.Vx Go.Vx.B Go.Proofs
end Go.Tw
