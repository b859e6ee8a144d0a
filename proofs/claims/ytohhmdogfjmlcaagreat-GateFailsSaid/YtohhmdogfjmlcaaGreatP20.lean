import Derived.Test.YtohhmdogfjmlcaaGreatP19
import Derived.Test.YtohhmdogfjmlcaaGreatB17
set_option linter.all false
set_option maxRecDepth 100000
namespace Go.Tw
open Go.Vx Go.Vx.B Go.Proofs
structure Cur (c : Cha) (ps0 new : List Pth) (d : Int) (dep next : List Int) : Prop where
  pi : PI c (ps0 ++ new)
  nx : next = lvs new
  ln : ∀ p ∈ new, (p.2.1.length : Int) = d
  dp : yWI c dep (ps0 ++ new)
section
variable {c : Cha} (hs : Sh c) (hk : yu c = 0)
include hs hk
end
end Go.Tw
