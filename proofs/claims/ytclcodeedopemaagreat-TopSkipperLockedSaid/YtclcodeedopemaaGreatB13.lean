import Derived.Test.YtclcodeedopemaaGreatBT
import Derived.Test.YtclcodeedopemaaGreatB0
import Derived.Test.YtclcodeedopemaaGreatBS
import Derived.Test.YtclcodeedopemaaGreatLP
import Derived.Test.YtclcodeedopemaaGreatBA
import Derived.Test.YtclcodeedopemaaGreatBB
import Derived.Test.YtclcodeedopemaaGreatBC
set_option linter.all false
set_option maxRecDepth 1000000
namespace Go.Tw
open Go.Vx Go.Vx.B Go.Proofs
noncomputable section
end
end Go.Tw
