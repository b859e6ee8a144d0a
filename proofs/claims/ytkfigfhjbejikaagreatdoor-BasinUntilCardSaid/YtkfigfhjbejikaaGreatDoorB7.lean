/- Models of the program's functions, by program (gen.py), and what they compute. -/
import Derived.Test.YtkfigfhjbejikaaGreatDoorBT
import Derived.Test.YtkfigfhjbejikaaGreatDoorB0
import Derived.Test.YtkfigfhjbejikaaGreatDoorB1
import Derived.Test.YtkfigfhjbejikaaGreatDoorB2
import Derived.Test.YtkfigfhjbejikaaGreatDoorB3
import Derived.Test.YtkfigfhjbejikaaGreatDoorB4
import Derived.Test.YtkfigfhjbejikaaGreatDoorB5
import Derived.Test.YtkfigfhjbejikaaGreatDoorB6
set_option linter.all false
set_option maxRecDepth 1000000
namespace Go.Tw
open Go.Vx Go.Vx.B Go.Proofs
/-! ### basin.CheckBasin$1 -/
abbrev basin_CheckBasin_1_a : Ty := .pair t163 (.pair (.ref t41) .unit)
abbrev basin_CheckBasin_1_r : Ty := .pair t35 .unit
noncomputable def basin_CheckBasin_1_g : G := { T := T, E := [basin_Link_check_e], muts := [], fz := [] }
def basin_CheckBasin_1_k : List (List Nat) := []
noncomputable def basin_CheckBasin_1_an (n : Nat) : Ann := { keep := basin_CheckBasin_1_k, fuel := n, inl := [], deep := 0 }
noncomputable def basin_CheckBasin_1_m (n : Nat) (l : List UInt8 × Int × Int × Int × Int × Unit) (p1 : List (List UInt8 × Int × Int × Unit) × List (List UInt8 × Int × Int × Int × Int × Unit) × Unit) : Option (Int × Unit) :=
  (Option.bind (Go.Tw.basin_Link_check_M l (↑p1.fst.length : Int)) fun (v0 : Int × Unit) => Option.some (v0.fst, ()))

theorem basin_CheckBasin_1_eq (n : Nat) (x : basin_CheckBasin_1_a.den) : runF basin_CheckBasin_1_g (basin_CheckBasin_1_an n) Tryz.f102 basin_CheckBasin_1_a basin_CheckBasin_1_r x = basin_CheckBasin_1_m n x.1 x.2.1 := by kernel_rfl

noncomputable def basin_CheckBasin_1_M (l : List UInt8 × Int × Int × Int × Int × Unit) (p1 : List (List UInt8 × Int × Int × Unit) × List (List UInt8 × Int × Int × Int × Int × Unit) × Unit) : Option (Int × Unit) := basin_CheckBasin_1_m 0 l p1

theorem basin_CheckBasin_1_run (l : List UInt8 × Int × Int × Int × Int × Unit) (p1 : List (List UInt8 × Int × Int × Unit) × List (List UInt8 × Int × Int × Int × Int × Unit) × Unit) (y : Int × Unit) (h : basin_CheckBasin_1_M l p1 = some y) : ∃ n, basin_CheckBasin_1_m n l p1 = some y := ⟨0, h⟩
noncomputable def basin_CheckBasin_1_e : Entry := { f := 102, args := basin_CheckBasin_1_a, ress := basin_CheckBasin_1_r, m := fun x => basin_CheckBasin_1_M x.1 x.2.1 }
theorem basin_CheckBasin_1_ok : FnOK Tryz.prog basin_CheckBasin_1_e := fn_ok (g := basin_CheckBasin_1_g) (fn := Tryz.f102) hmixed tabOk (eCons basin_Link_check_ok eNil) (by kernel_rfl) (by kernel_rfl) (by kernel_rfl) (fun x y h => let ⟨n, hn⟩ := basin_CheckBasin_1_run x.1 x.2.1 y h; ⟨basin_CheckBasin_1_an n, iNil, (basin_CheckBasin_1_eq n x).trans hn⟩)

/-! ### (basin.Basin).checkRanges -/
abbrev basin_Basin_checkRanges_a : Ty := .pair t41 (.pair t108 .unit)
abbrev basin_Basin_checkRanges_r : Ty := .pair t35 .unit
noncomputable def basin_Basin_checkRanges_g : G := { T := T, E := [basin_when_e, basin_Basin_checkRange_e, basin_mapped_basin_Range_api_Errno_e, basin_first_e], muts := [], fz := [] }
def basin_Basin_checkRanges_k : List (List Nat) := []
noncomputable def basin_Basin_checkRanges_an (n : Nat) : Ann := { keep := basin_Basin_checkRanges_k, fuel := n, inl := [], deep := 0 }
noncomputable def basin_Basin_checkRanges_m (n : Nat) (b : List (List UInt8 × Int × Int × Unit) × List (List UInt8 × Int × Int × Int × Int × Unit) × Unit) (l : List ((Int × Int × Unit) × Bool × List (Int × Int × Unit) × Unit)) : Option (Int × Unit) :=
  (Option.bind (Go.Tw.basin_mapped_basin_Range_api_Errno_M l fun (z : ((Int × Int × Unit) × Bool × List (Int × Int × Unit) × Unit) × Unit) => Go.Tw.basin_Basin_checkRange_M b z.fst) fun (v0 : List Int × Unit) => (Option.bind (Go.Tw.basin_first_M v0.fst) fun (v1 : Int × Unit) => (Option.bind (Go.Tw.basin_first_M [(Go.Tw.basin_when (Decidable.decide ((↑l.length : Int) > (96 : Int))) (5 : Int)).fst, v1.fst]) fun (v2 : Int × Unit) => Option.some (v2.fst, ()))))

theorem basin_Basin_checkRanges_eq (n : Nat) (x : basin_Basin_checkRanges_a.den) : runF basin_Basin_checkRanges_g (basin_Basin_checkRanges_an n) Tryz.f108 basin_Basin_checkRanges_a basin_Basin_checkRanges_r x = basin_Basin_checkRanges_m n x.1 x.2.1 := by kernel_rfl

noncomputable def basin_Basin_checkRanges_M (b : List (List UInt8 × Int × Int × Unit) × List (List UInt8 × Int × Int × Int × Int × Unit) × Unit) (l : List ((Int × Int × Unit) × Bool × List (Int × Int × Unit) × Unit)) : Option (Int × Unit) := basin_Basin_checkRanges_m 0 b l

theorem basin_Basin_checkRanges_run (b : List (List UInt8 × Int × Int × Unit) × List (List UInt8 × Int × Int × Int × Int × Unit) × Unit) (l : List ((Int × Int × Unit) × Bool × List (Int × Int × Unit) × Unit)) (y : Int × Unit) (h : basin_Basin_checkRanges_M b l = some y) : ∃ n, basin_Basin_checkRanges_m n b l = some y := ⟨0, h⟩
noncomputable def basin_Basin_checkRanges_e : Entry := { f := 108, args := basin_Basin_checkRanges_a, ress := basin_Basin_checkRanges_r, m := fun x => basin_Basin_checkRanges_M x.1 x.2.1 }
theorem basin_Basin_checkRanges_ok : FnOK Tryz.prog basin_Basin_checkRanges_e := fn_ok (g := basin_Basin_checkRanges_g) (fn := Tryz.f108) hmixed tabOk (eCons basin_when_ok (eCons basin_Basin_checkRange_ok (eCons basin_mapped_basin_Range_api_Errno_ok (eCons basin_first_ok eNil)))) (by kernel_rfl) (by kernel_rfl) (by kernel_rfl) (fun x y h => let ⟨n, hn⟩ := basin_Basin_checkRanges_run x.1 x.2.1 y h; ⟨basin_Basin_checkRanges_an n, iNil, (basin_Basin_checkRanges_eq n x).trans hn⟩)

end Go.Tw
