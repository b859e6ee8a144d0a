import Derived.Test.YtkfigfhjbejikaaGreatDoorP19
import Derived.Test.YtkfigfhjbejikaaGreatDoorPC
import Derived.Test.YtkfigfhjbejikaaGreatDoorB24
import Derived.Test.YtkfigfhjbejikaaGreatDoorB25
set_option linter.all false
set_option maxRecDepth 100000
namespace Go.Tw
open Go.Vx Go.Vx.B Go.Proofs
end Go.Tw
