import Derived.Test.YtohhmdogfjmlcaaGreatP20
set_option linter.all false
set_option maxRecDepth 100000
namespace Go.Tw
open Go.Vx Go.Vx.B Go.Proofs
section
variable {c : Cha} (hs : Sh c) (hk : yu c = 0)
include hs hk
end
end Go.Tw
