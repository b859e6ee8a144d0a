import Derived.Test.YtkfigfhjbejikaaGreatDoorP23
import Derived.Test.YtkfigfhjbejikaaGreatDoorB26
set_option linter.all false
set_option maxRecDepth 100000
namespace Go.Tw
open Go.Vx Go.Vx.B Go.Proofs
section
variable (V:List Int) (L:List Cnd) (b:Bas) (run:List (List Int)) (riv:Int) (i:Int) (F N:List Int) (T97:List Cnd) (t98 t99:Int) (T160:List Lnk) (a0 a1 a2:Int) (ct:Int) (co:Bool) (cf:List Int)
end
end Go.Tw
