import Derived.Test.YtimaoihjoojcdaaGreatDoorLQ
set_option linter.all false
namespace Go.Tw
open Go.Vx
variable {α β R σ : Type} {f : β → Option R}
end Go.Tw
