/- Models of the program's functions, by program (gen.py), and what they compute.
Models of the program's functions, by program (gen.py), and what they compute.
Models of the program's functions, by program (gen.py), and what they compute.
Models of the program's functions, by program (gen.py), and what they compute.
Models of the program's functions, by program (gen.py), and what they compute. -/
import Derived.Test.YtkfigfhjbejikaaGreatDoorBT
import Derived.Test.YtkfigfhjbejikaaGreatDoorBA
import Derived.Test.YtkfigfhjbejikaaGreatDoorBC
import Derived.Test.YtkfigfhjbejikaaGreatDoorBD
import Derived.Test.YtkfigfhjbejikaaGreatDoorBE
import Derived.Test.YtkfigfhjbejikaaGreatDoorB16
import Derived.Test.YtkfigfhjbejikaaGreatDoorB17

section
set_option linter.all false
set_option maxRecDepth 1000000
namespace Go.Tw
open Go.Vx Go.Vx.B Go.Proofs
/-! ### tidewayref04.checkInterval -/
/-! ### (basin.Basin).safe$1 -/
/-! ### tidewayref04.ShortRanges -/
/-! ### basin.Corner -/
/-! ### tidewayref04.CheckCondition -/
/-! ### slices.IndexFunc[[][]int,[]int] -/
/-! ### tidewayref04.SameCondition -/
/-! ### tidewaylaw04.own -/
/-! ### basin.CheckCondition -/
/-! ### basin.CheckRange -/
/-! ### tidewaylaw04.intervals -/
/-! ### tidewaylaw04.between -/
/-! ### tidewaylaw04.copied -/
/-! ### basin.Within$1 -/
/-! ### tidewayref04.end -/
/-! ### tidewayref04.in -/
/-! ### tidewayref04.ClosedFrom -/
end Go.Tw
end

section
set_option linter.all false
set_option maxRecDepth 1000000
namespace Go.Tw
open Go.Vx Go.Vx.B Go.Proofs
/-! ### tidewayref04.checkIntervals -/
/-! ### slices.ContainsFunc[[][]int,[]int] -/
/-! ### basin.Within -/
/-! ### tidewaylaw04.one -/
/-! ### tidewayref04.Within -/
/-! ### tidewayref04.ends -/
end Go.Tw
end

section
set_option linter.all false
set_option maxRecDepth 1000000
namespace Go.Tw
open Go.Vx Go.Vx.B Go.Proofs
/-! ### tidewaylaw04.ranges -/
/-! ### tidewayref04.Corner -/
/-! ### tidewayref04.OnlyRange -/
/-! ### (basin.Basin).safe -/
/-! ### tidewayref04.OnlyIntervals -/
end Go.Tw
end

section
set_option linter.all false
set_option maxRecDepth 1000000
namespace Go.Tw
open Go.Vx Go.Vx.B Go.Proofs
/-! ### tidewayref04.CheckRange -/
/-! ### basin.Safe -/
/-! ### tidewayref04.Enclose -/
/-! ### tidewayref04.Safe -/
/-! ### tidewayref04.OnlyRanges -/
end Go.Tw
end

section
set_option linter.all false
set_option maxRecDepth 1000000
namespace Go.Tw
open Go.Vx Go.Vx.B Go.Proofs
/-! ### tidewayref04.CheckEnclose -/
/-! ### tidewayref04.CheckRanges -/
end Go.Tw
end
