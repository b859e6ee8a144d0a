import Derived.Test.YtclcodeedopemaaGreatP16
import Derived.Test.YtclcodeedopemaaGreatP22
set_option linter.all false
set_option maxRecDepth 100000
namespace Go.Tw
open Go.Vx Go.Vx.B Go.Proofs
theorem y7m : zj_M = some (true, ()) := by kernel_rfl
end Go.Tw
