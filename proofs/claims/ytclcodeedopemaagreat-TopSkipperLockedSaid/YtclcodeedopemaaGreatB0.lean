import Derived.Test.YtclcodeedopemaaGreatBT
import Derived.Test.YtclcodeedopemaaGreatVD
import Derived.Test.YtclcodeedopemaaGreatLP
import Derived.Test.YtclcodeedopemaaGreatProg
import Derived.KernelRfl
set_option linter.all false
set_option maxRecDepth 1000000
namespace Go.Tw
open Go.Vx Go.Vx.B Go.Proofs
noncomputable section
abbrev Sta := List UInt8 × Int × Int × Bool × Unit
abbrev Tra := Int × List UInt8 × Int × Int × Int × Unit
abbrev Cha := List Sta × List Tra × Unit
abbrev Inp := List UInt8 × Int × Unit
abbrev Cas := Int × List UInt8 × Int × Unit
abbrev Cmd := Int × Int × List UInt8 × Unit
abbrev Fai := List UInt8 × Int × Int × Int × Unit
abbrev Goa := List Int × List Int × Int × Int × Unit
abbrev Pth := Int × List Inp × Unit
instance theGT : GT := ⟨[]⟩
theorem yE : Tryz.prog.follows .mixedOrders = true := by kernel_rfl
theorem yR : yx Tryz.prog T := by unfold yx; kernel_rfl
theorem eNil {P : Program} : ∀ e ∈ ([] : List Entry), FnOK P e := fun e h => by cases h
theorem yB {P : Program} {e : Entry} {l : List Entry} (h : FnOK P e) (hl : ∀ e ∈ l, FnOK P e) : ∀ f ∈ e :: l, FnOK P f := fun f hf => by
  rcases List.mem_cons.1 hf with rfl | hf
  · exact h
  · exact hl f hf
theorem iNil {P : Program} : ∀ e ∈ ([] : List Inl), y5h P e := fun e h => by cases h
theorem yB3 {P : Program} {e : Inl} {l : List Inl} (h : y5h P e) (hl : ∀ e ∈ l, y5h P e) : ∀ f ∈ e :: l, y5h P f := fun f hf => by
  rcases List.mem_cons.1 hf with rfl | hf
  · exact h
  · exact hl f hf
theorem yI {α : Type} (c : Bool) (x y : α) : (bif c then some x else some y) = some (bif c then x else y) := by cases c <;> rfl
end
end Go.Tw
