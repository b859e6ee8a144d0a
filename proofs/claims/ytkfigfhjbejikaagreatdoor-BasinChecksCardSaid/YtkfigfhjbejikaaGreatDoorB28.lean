/- Models of the program's functions, by program (gen.py), and what they compute. -/
import Derived.Test.YtkfigfhjbejikaaGreatDoorBT
import Derived.Test.YtkfigfhjbejikaaGreatDoorBA
import Derived.Test.YtkfigfhjbejikaaGreatDoorBC
import Derived.Test.YtkfigfhjbejikaaGreatDoorBD
import Derived.Test.YtkfigfhjbejikaaGreatDoorBE

set_option linter.all false
set_option maxRecDepth 1000000
namespace Go.Tw
open Go.Vx Go.Vx.B Go.Proofs
/-! ### basin.Kinds -/
abbrev basin_Kinds_a : Ty := .unit
abbrev basin_Kinds_r : Ty := .pair t67 .unit
noncomputable def basin_Kinds_g : G := { T := T, E := [], muts := [], fz := [] }
def basin_Kinds_k : List (List Nat) := []
noncomputable def basin_Kinds_an (n : Nat) : Ann := { keep := basin_Kinds_k, fuel := n, inl := [], deep := 0 }
noncomputable def basin_Kinds_m (n : Nat)  : Option (List (List UInt8) × Unit) :=
  Option.some ([[(98 : UInt8), (97 : UInt8), (114 : UInt8), (114 : UInt8), (105 : UInt8), (101 : UInt8), (114 : UInt8)], [(108 : UInt8), (101 : UInt8), (97 : UInt8), (107 : UInt8)], [(111 : UInt8), (117 : UInt8), (116 : UInt8), (102 : UInt8), (97 : UInt8), (108 : UInt8), (108 : UInt8)], [(112 : UInt8), (117 : UInt8), (109 : UInt8), (112 : UInt8)], [(119 : UInt8), (101 : UInt8), (105 : UInt8), (114 : UInt8)]], ())

theorem basin_Kinds_eq (n : Nat) (x : basin_Kinds_a.den) : runF basin_Kinds_g (basin_Kinds_an n) Tryz.f37 basin_Kinds_a basin_Kinds_r x = basin_Kinds_m n := by kernel_rfl

noncomputable def basin_Kinds  : (List (List UInt8) × Unit) :=
  ([[(98 : UInt8), (97 : UInt8), (114 : UInt8), (114 : UInt8), (105 : UInt8), (101 : UInt8), (114 : UInt8)], [(108 : UInt8), (101 : UInt8), (97 : UInt8), (107 : UInt8)], [(111 : UInt8), (117 : UInt8), (116 : UInt8), (102 : UInt8), (97 : UInt8), (108 : UInt8), (108 : UInt8)], [(112 : UInt8), (117 : UInt8), (109 : UInt8), (112 : UInt8)], [(119 : UInt8), (101 : UInt8), (105 : UInt8), (114 : UInt8)]], ())

noncomputable abbrev basin_Kinds_M  : Option (List (List UInt8) × Unit) := some (basin_Kinds)

theorem basin_Kinds_run  (y : List (List UInt8) × Unit) (h : basin_Kinds_M = some y) : ∃ n, basin_Kinds_m n = some y :=
  ⟨0, by rw [← h]; show basin_Kinds_m 0 = some (basin_Kinds); unfold basin_Kinds_m basin_Kinds; first | rfl | (simp only [cond_some]; done) | (simp only [cond_some]; rfl)⟩
noncomputable def basin_Kinds_e : Entry := { f := 37, args := basin_Kinds_a, ress := basin_Kinds_r, m := fun x => basin_Kinds_M }
theorem basin_Kinds_ok : FnOK Tryz.prog basin_Kinds_e := fn_ok (g := basin_Kinds_g) (fn := Tryz.f37) hmixed tabOk eNil (by kernel_rfl) (by kernel_rfl) (by kernel_rfl) (fun x y h => let ⟨n, hn⟩ := basin_Kinds_run y h; ⟨basin_Kinds_an n, iNil, (basin_Kinds_eq n x).trans hn⟩)

end Go.Tw
