/- P20: the latest closing; BasinEncloses: the law. -/
import Derived.Test.YtkfigfhjbejikaaGreatDoorP19
import Derived.Test.YtkfigfhjbejikaaGreatDoorPC
import Derived.Test.YtkfigfhjbejikaaGreatDoorB24
import Derived.Test.YtkfigfhjbejikaaGreatDoorB25

set_option linter.all false
set_option maxRecDepth 100000
namespace Go.Tw
open Go.Vx Go.Vx.B Go.Proofs

/-! ### Closed from a range on -/
/-! ### The latest closing -/
/-! ### The law -/
theorem intervals_eq (l : List Itv) (h : l.length ≤ memMax) : zy_M l = some (l, ()) := by
  unfold zy_M zy_m
  rw [bifT (dec_true (show 0 + l.length ≤ memMax by omega))]

end Go.Tw
