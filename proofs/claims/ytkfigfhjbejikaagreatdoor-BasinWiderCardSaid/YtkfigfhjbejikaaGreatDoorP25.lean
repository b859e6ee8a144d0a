import Derived.Test.YtkfigfhjbejikaaGreatDoorP24
set_option linter.all false
set_option maxRecDepth 100000
namespace Go.Tw
open Go.Vx Go.Vx.B Go.Proofs
section
variable (V:List Int) (L:List Cnd) (b:Bas) (run:List (List Int)) (T97:List Cnd) (a0 a1 a2:Int)
end
end Go.Tw
