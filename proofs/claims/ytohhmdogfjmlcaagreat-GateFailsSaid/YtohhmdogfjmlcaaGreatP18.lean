import Derived.Test.YtohhmdogfjmlcaaGreatPZ
import Derived.Test.YtohhmdogfjmlcaaGreatB15
set_option linter.all false
set_option maxRecDepth 100000
namespace Go.Tw
open Go.Vx Go.Vx.B Go.Proofs
def one (b : Bool) (leaf : Int) (e : List UInt8) (v : Int) : List Cas := bif b then [(leaf, e, v, ())] else []
end Go.Tw
