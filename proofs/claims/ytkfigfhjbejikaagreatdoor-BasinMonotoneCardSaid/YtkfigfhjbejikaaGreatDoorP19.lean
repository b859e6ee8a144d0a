import Derived.Test.YtkfigfhjbejikaaGreatDoorPC
set_option linter.all false
set_option maxRecDepth 100000
namespace Go.Tw
open Go.Vx Go.Vx.B Go.Proofs
structure EncOK (b : Bas) (v : List Itv) (l : List Rng) : Prop where
  bas : BasOK b
  vols : v.length = b.1.length
  many : l.length ≤ 96
  rngs : ∀ r ∈ l, r.2.2.1.length = b.1.length
end Go.Tw
