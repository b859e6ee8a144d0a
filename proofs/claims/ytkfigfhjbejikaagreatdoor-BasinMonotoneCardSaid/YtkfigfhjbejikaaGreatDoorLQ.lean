import Derived.Test.YtkfigfhjbejikaaGreatDoorLP
set_option linter.all false
namespace Go.Tw
open Go.Vx
variable {σ β R : Type} {f : β → Option R}
end Go.Tw
