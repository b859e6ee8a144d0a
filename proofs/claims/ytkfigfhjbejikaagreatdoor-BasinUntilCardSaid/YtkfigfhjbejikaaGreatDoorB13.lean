/- Models of the program's functions, by program (gen.py), and what they compute. -/
import Derived.Test.YtkfigfhjbejikaaGreatDoorBT
import Derived.Test.YtkfigfhjbejikaaGreatDoorB0
import Derived.Test.YtkfigfhjbejikaaGreatDoorB1
import Derived.Test.YtkfigfhjbejikaaGreatDoorB2
import Derived.Test.YtkfigfhjbejikaaGreatDoorB3
import Derived.Test.YtkfigfhjbejikaaGreatDoorB4
import Derived.Test.YtkfigfhjbejikaaGreatDoorB5
import Derived.Test.YtkfigfhjbejikaaGreatDoorB6
import Derived.Test.YtkfigfhjbejikaaGreatDoorB7
import Derived.Test.YtkfigfhjbejikaaGreatDoorB8
import Derived.Test.YtkfigfhjbejikaaGreatDoorB9
import Derived.Test.YtkfigfhjbejikaaGreatDoorB10
import Derived.Test.YtkfigfhjbejikaaGreatDoorB11
import Derived.Test.YtkfigfhjbejikaaGreatDoorB12
import Derived.Test.YtkfigfhjbejikaaGreatDoorBS
set_option linter.all false
set_option maxRecDepth 1000000
namespace Go.Tw
open Go.Vx Go.Vx.B Go.Proofs
/-! ### tidewaylaw04.awake -/
abbrev law04_awake_a : Ty := .unit
abbrev law04_awake_r : Ty := .pair t4 .unit
noncomputable def law04_awake_g : G := { T := T, E := [law04_lake_e, basin_Levels_e, basin_Room_e, basin_Flows_e, basin_Run_e, basin_Account_e, basin_Until_e, ref01_SameInts_e, ref04_SameRows_e, basin_Enclose_e, basin_Above_e, basin_Print_e, ref04_SameIntervals_e], muts := [], fz := [] }
def law04_awake_k : List (List Nat) := []
noncomputable def law04_awake_an (n : Nat) : Ann := { keep := law04_awake_k, fuel := n, inl := [], deep := 0 }
noncomputable def law04_awake_m (n : Nat)  : Option (Bool × Unit) :=
  (Option.bind (Go.Tw.basin_Levels_M Go.Tw.law04_lake.fst [(100 : Int), (30 : Int)]) fun (v0 : List Int × Int × Unit) => (Option.bind (Go.Tw.basin_Room_M Go.Tw.law04_lake.fst [(100 : Int), (30 : Int)]) fun (v1 : List Int × Int × Unit) => (Option.bind (Go.Tw.basin_Flows_M Go.Tw.law04_lake.fst [(100 : Int), (30 : Int)] ((16 : Int), Bool.true, [(20 : Int), (5 : Int)], ())) fun (v2 : List Int × Int × Unit) => (Option.bind (Go.Tw.basin_Run_M Go.Tw.law04_lake.fst [(100 : Int), (30 : Int)] [((16 : Int), Bool.true, [(20 : Int), (5 : Int)], ()), ((8 : Int), Bool.false, [(0 : Int), (0 : Int)], ())]) fun (v3 : List (List Int) × Int × Unit) => (Option.bind (Go.Tw.basin_Account_M Go.Tw.law04_lake.fst [(100 : Int), (30 : Int)] [((16 : Int), Bool.true, [(20 : Int), (5 : Int)], ()), ((8 : Int), Bool.false, [(0 : Int), (0 : Int)], ())]) fun (v4 : (Int × Int × Int × Unit) × Int × Unit) => (Option.bind (Go.Tw.basin_Until_M Go.Tw.law04_lake.fst [(100 : Int), (20 : Int)] ((16 : Int), Bool.false, [(50 : Int), (0 : Int)], ()) (0 : Int) (20 : Int)) fun (v5 : Int × Int × Unit) => (bif Go.IntKind.i64.wrap (Go.IntKind.i64.wrap (Go.IntKind.i64.wrap (Go.IntKind.i64.wrap (Go.IntKind.i64.wrap (v0.snd.fst + v1.snd.fst) + v2.snd.fst) + v3.snd.fst) + v4.snd.fst) + v5.snd.fst) != (0 : Int) then Option.some (Bool.false, ()) else (Option.bind (Go.Tw.ref01_SameInts_M v0.fst [(10 : Int), (6 : Int)]) fun (v6 : Bool × Unit) => (bif !v6.fst then Option.some (Bool.false, ()) else (Option.bind (Go.Tw.ref01_SameInts_M v1.fst [(109 : Int), (14 : Int)]) fun (v7 : Bool × Unit) => (bif !v7.fst then Option.some (Bool.false, ()) else (Option.bind (Go.Tw.ref01_SameInts_M v2.fst [(20 : Int), (10 : Int), (0 : Int)]) fun (v8 : Bool × Unit) => (bif !v8.fst then Option.some (Bool.false, ()) else (Option.bind (Go.Tw.ref04_SameRows_M v3.fst [[(150 : Int), (25 : Int)], [(147 : Int), (20 : Int)]]) fun (v9 : Bool × Unit) => (bif !v9.fst then Option.some (Bool.false, ()) else (bif !Go.Vx.eqV ((Go.Vx.Ty.int Go.IntKind.i64).pair ((Go.Vx.Ty.int Go.IntKind.i64).pair ((Go.Vx.Ty.int Go.IntKind.i64).pair Go.Vx.Ty.unit))) (v4.fst.fst, v4.fst.snd.fst, v4.fst.snd.snd.fst, ()) ((25 : Int), (20 : Int), (8 : Int), ()) then Option.some (Bool.false, ()) else (bif v5.fst != (3 : Int) then Option.some (Bool.false, ()) else (Option.bind (Go.Tw.basin_Enclose_M Go.Tw.law04_lake.fst [((100 : Int), (110 : Int), ()), ((20 : Int), (20 : Int), ())] [(((8 : Int), (16 : Int), ()), Bool.false, [((0 : Int), (50 : Int), ()), ((0 : Int), (0 : Int), ())], ())]) fun (v22 : List (List (Int × Int × Unit)) × Int × Unit) => (Option.bind (Go.Tw.basin_Above_M Go.Tw.law04_lake.fst [(210 : Int), (44 : Int)]) fun (v23 : List Int × Int × Unit) => (Option.bind (Go.Tw.basin_Print_M Go.Tw.law04_lake.fst) fun (v24 : List UInt8 × Int × Unit) => (bif Go.IntKind.i64.wrap (Go.IntKind.i64.wrap (v22.snd.fst + v23.snd.fst) + v24.snd.fst) == (0 : Int) then (Option.bind (Go.Tw.ref04_SameIntervals_M v22.fst [[((100 : Int), (160 : Int), ()), ((20 : Int), (20 : Int), ())]]) fun (v25 : Bool × Unit) => (bif v25.fst then (Option.bind (Go.Tw.ref01_SameInts_M v23.fst [(0 : Int)]) fun (v26 : Bool × Unit) => (bif v26.fst then Option.some (v24.fst == [(110 : UInt8), (111 : UInt8), (100 : UInt8), (101 : UInt8), (32 : UInt8), (108 : UInt8), (97 : UInt8), (107 : UInt8), (101 : UInt8), (32 : UInt8), (49 : UInt8), (48 : UInt8), (32 : UInt8), (50 : UInt8), (48 : UInt8), (10 : UInt8), (110 : UInt8), (111 : UInt8), (100 : UInt8), (101 : UInt8), (32 : UInt8), (112 : UInt8), (111 : UInt8), (108 : UInt8), (100 : UInt8), (101 : UInt8), (114 : UInt8), (32 : UInt8), (53 : UInt8), (32 : UInt8), (56 : UInt8), (10 : UInt8), (98 : UInt8), (97 : UInt8), (114 : UInt8), (114 : UInt8), (105 : UInt8), (101 : UInt8), (114 : UInt8), (32 : UInt8), (45 : UInt8), (49 : UInt8), (32 : UInt8), (48 : UInt8), (32 : UInt8), (48 : UInt8), (32 : UInt8), (50 : UInt8), (10 : UInt8), (112 : UInt8), (117 : UInt8), (109 : UInt8), (112 : UInt8), (32 : UInt8), (49 : UInt8), (32 : UInt8), (48 : UInt8), (32 : UInt8), (52 : UInt8), (32 : UInt8), (49 : UInt8), (48 : UInt8), (10 : UInt8), (111 : UInt8), (117 : UInt8), (116 : UInt8), (102 : UInt8), (97 : UInt8), (108 : UInt8), (108 : UInt8), (32 : UInt8), (48 : UInt8), (32 : UInt8), (45 : UInt8), (49 : UInt8), (32 : UInt8), (49 : UInt8), (50 : UInt8), (32 : UInt8), (52 : UInt8), (10 : UInt8)], ()) else Option.some (Bool.false, ()))) else Option.some (Bool.false, ()))) else Option.some (Bool.false, ()))))))))))))))))))))))

theorem law04_awake_eq (n : Nat) (x : law04_awake_a.den) : runF law04_awake_g (law04_awake_an n) Tryz.f17 law04_awake_a law04_awake_r x = law04_awake_m n := by kernel_rfl

noncomputable def law04_awake_M  : Option (Bool × Unit) := law04_awake_m 0

theorem law04_awake_run  (y : Bool × Unit) (h : law04_awake_M = some y) : ∃ n, law04_awake_m n = some y := ⟨0, h⟩
noncomputable def law04_awake_e : Entry := { f := 17, args := law04_awake_a, ress := law04_awake_r, m := fun x => law04_awake_M }
theorem law04_awake_ok : FnOK Tryz.prog law04_awake_e := fn_ok (g := law04_awake_g) (fn := Tryz.f17) hmixed tabOk (eCons law04_lake_ok (eCons basin_Levels_ok (eCons basin_Room_ok (eCons basin_Flows_ok (eCons basin_Run_ok (eCons basin_Account_ok (eCons basin_Until_ok (eCons ref01_SameInts_ok (eCons ref04_SameRows_ok (eCons basin_Enclose_ok (eCons basin_Above_ok (eCons basin_Print_ok (eCons ref04_SameIntervals_ok eNil))))))))))))) (by kernel_rfl) (by kernel_rfl) (by kernel_rfl) (fun x y h => let ⟨n, hn⟩ := law04_awake_run y h; ⟨law04_awake_an n, iNil, (law04_awake_eq n x).trans hn⟩)

end Go.Tw
