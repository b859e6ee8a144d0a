/- The witness world of the rows; the program reads no package-level variable. -/
import Derived.Test.YtclcodeedopemaaGreatRows
import Derived.Test.YtclcodeedopemaaGreatVD
import Derived.Test.YtclcodeedopemaaGreatB0
import Derived.WalkKit
import Derived.ProofKit
import Derived.OpenShut
import Derived.Deep.DeepHandedRow
import Derived.Lib.LaidTab

set_option linter.all false
set_option maxRecDepth 100000
namespace Go.Proofs.YtclcodeedopemaaGreat.rows
open Go.ChangeShapes Go.WideShapes Go.ChangeAt Go.RowKit Go.Vx Go.Vx.B

theorem own : ownKnob Tryz.prog.godebug = none := by kernel_rfl
theorem glob {W : World} {l : List (String × DataW Unit)} (h : laidMetH Tryz.prog l W) : y4I noA W := fun p hp => by cases hp

/-- A WORLD FOR THE WITNESS: the settled one. -/
noncomputable def y76 (os : Os) : World := World.holding Tryz.prog os ⟨#[], #[], []⟩
end Go.Proofs.YtclcodeedopemaaGreat.rows
