import Derived.Test.YtkfigfhjbejikaaGreatDoorPB
import Derived.Test.YtkfigfhjbejikaaGreatDoorBF
import Derived.Test.YtkfigfhjbejikaaGreatDoorB23
set_option linter.all false
section
set_option maxRecDepth 100000
namespace Go.Tw
open Go.Vx Go.Vx.B Go.Proofs
abbrev Itv := Int × Int × Unit
end Go.Tw
end
section
set_option maxRecDepth 100000
namespace Go.Tw
open Go.Vx Go.Vx.B Go.Proofs
def endI (up : Bool) (x : Itv) : Int := bif up then x.2.1 else x.1
def yNG (up : Bool) (r : Rng) : Cnd := (endI up r.1, r.2.1, r.2.2.1.map (endI up), ())
end Go.Tw
end
section
set_option maxRecDepth 100000
namespace Go.Tw
open Go.Vx Go.Vx.B Go.Proofs
end Go.Tw
end
section
set_option maxRecDepth 100000
namespace Go.Tw
open Go.Vx Go.Vx.B Go.Proofs
section
variable (b : Bas) (r : Rng) (c : Cnd) (hn : ∀ n ∈ b.1, n.1.length < lenMax) (h1 : b.1.length ≤ memMax) (h2 : b.2.1.length ≤ memMax) (hr : r.2.2.1.length ≤ memMax) (hc : c.2.2.1.length ≤ memMax) (both : Int) (hb : both = 0 → c.2.2.1.length = r.2.2.1.length)
include hn h1 h2 hr hc hb
end
end Go.Tw
end
