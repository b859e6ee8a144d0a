import Derived.Test.YtohhmdogfjmlcaaGreatBT
import Derived.Test.YtohhmdogfjmlcaaGreatB0
import Derived.Test.YtohhmdogfjmlcaaGreatBS
import Derived.Test.YtohhmdogfjmlcaaGreatLP
import Derived.Test.YtohhmdogfjmlcaaGreatBA
import Derived.Test.YtohhmdogfjmlcaaGreatBB
import Derived.Test.YtohhmdogfjmlcaaGreatBC
import Derived.Test.YtohhmdogfjmlcaaGreatB13
import Derived.Test.YtohhmdogfjmlcaaGreatB14
set_option linter.all false
set_option maxRecDepth 1000000
namespace Go.Tw
open Go.Vx Go.Vx.B Go.Proofs
noncomputable section
end
end Go.Tw
