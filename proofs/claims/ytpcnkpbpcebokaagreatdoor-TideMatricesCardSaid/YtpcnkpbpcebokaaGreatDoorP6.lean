import Derived.Test.YtpcnkpbpcebokaaGreatDoorPC
set_option linter.all false
set_option maxRecDepth 100000
namespace Go.Tw
open Go.Vx Go.Vx.B Go.Proofs
def yOs(m:Int)(z:Gau):Bool:=decide ((z.1.natAbs:Int)<=m/\(z.2.1.natAbs:Int)<=m)
end Go.Tw
