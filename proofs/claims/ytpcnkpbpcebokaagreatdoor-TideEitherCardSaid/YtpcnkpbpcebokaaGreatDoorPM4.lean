import Derived.Test.YtpcnkpbpcebokaaGreatDoorPG2
import Derived.Test.YtpcnkpbpcebokaaGreatDoorP8
import Derived.Test.YtpcnkpbpcebokaaGreatDoorBAn
import Derived.Test.YtpcnkpbpcebokaaGreatDoorPA
set_option linter.all false
set_option maxRecDepth 100000
namespace Go.Tw
open Go.Vx Go.Vx.B Go.Proofs
noncomputable def denA(r:Rec)(l:List Con):Int:=(detQ (norW (tks r) l)).1
end Go.Tw
