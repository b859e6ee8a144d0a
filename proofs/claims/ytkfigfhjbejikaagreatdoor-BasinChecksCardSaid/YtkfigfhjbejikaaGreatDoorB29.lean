/- Models of the program's functions, by program (gen.py), and what they compute. -/
import Derived.Test.YtkfigfhjbejikaaGreatDoorBT
import Derived.Test.YtkfigfhjbejikaaGreatDoorBA
import Derived.Test.YtkfigfhjbejikaaGreatDoorBC
import Derived.Test.YtkfigfhjbejikaaGreatDoorBD
import Derived.Test.YtkfigfhjbejikaaGreatDoorBE
import Derived.Test.YtkfigfhjbejikaaGreatDoorB28

set_option linter.all false
set_option maxRecDepth 1000000
namespace Go.Tw
open Go.Vx Go.Vx.B Go.Proofs
/-! ### tidewaylaw04.BasinChecks -/
abbrev law04_BasinChecks_a : Ty := .pair t25 (.pair t26 .unit)
abbrev law04_BasinChecks_r : Ty := .pair t4 .unit
noncomputable def law04_BasinChecks_g : G := { T := T, E := [ref04_Short_e, law04_awake_e, law04_given_e, law04_ints_e, basin_Levels_e, basin_Above_e, basin_Room_e, ref04_CheckVolumes_e, ref04_Levels_e, ref04_Above_e, ref04_Room_e, basin_Kinds_e, ref04_Kinds_e, ref01_SameWords_e, basin_CheckBasin_e, ref04_CheckBasin_e, basin_CheckVolumes_e, ref01_SameInts_e], muts := [], fz := [] }
def law04_BasinChecks_k : List (List Nat) := []
noncomputable def law04_BasinChecks_an (n : Nat) : Ann := { keep := law04_BasinChecks_k, fuel := n, inl := [], deep := 0 }
noncomputable def law04_BasinChecks_m_j51 (n : Nat) (b : Bas) (v : List Int) (v7 : List Int × Int × Unit) (v10 : List Int × Int × Unit) (v13 : List Int × Int × Unit) (v14 : Int × Unit) (j18 : List Int) (j19 : List Int) (j20 : List Int) : Option (Bool × Unit) :=
  (Option.bind (Go.Tw.ref01_SameWords_M Go.Tw.basin_Kinds.fst Go.Tw.ref04_Kinds.fst) fun (v21 : Bool × Unit) => (bif v21.fst then (Option.bind (Go.Tw.law04_given_M b) fun (v22 : Go.Tw.Bas × Unit) => (Option.bind (Go.Tw.basin_CheckBasin_M v22.fst) fun (v23 : Int × Unit) => (Option.bind (Go.Tw.ref04_CheckBasin_M b) fun (v24 : Int × Unit) => (bif v23.fst == v24.fst then (Option.bind (Go.Tw.law04_given_M b) fun (v25 : Go.Tw.Bas × Unit) => (Option.bind (Go.Tw.law04_ints_M v) fun (v26 : List Int × Unit) => (Option.bind (Go.Tw.basin_CheckVolumes_M v25.fst v26.fst) fun (v27 : Int × Unit) => (bif v27.fst == v14.fst then (Option.bind (Go.Tw.ref01_SameInts_M v7.fst j18) fun (v28 : Bool × Unit) => (bif v28.fst then (bif v7.snd.fst == v14.fst then (Option.bind (Go.Tw.ref01_SameInts_M v10.fst j19) fun (v29 : Bool × Unit) => (bif v29.fst then (bif v10.snd.fst == v14.fst then (Option.bind (Go.Tw.ref01_SameInts_M v13.fst j20) fun (v30 : Bool × Unit) => (bif v30.fst then (bif v13.snd.fst == v14.fst then (Option.bind (Go.Tw.law04_awake_M) fun (v31 : Bool × Unit) => Option.some (v31.fst, ())) else Option.some (Bool.false, ())) else Option.some (Bool.false, ()))) else Option.some (Bool.false, ())) else Option.some (Bool.false, ()))) else Option.some (Bool.false, ())) else Option.some (Bool.false, ()))) else Option.some (Bool.false, ()))))) else Option.some (Bool.false, ()))))) else Option.some (Bool.false, ())))

noncomputable def law04_BasinChecks_m (n : Nat) (b : Bas) (v : List Int) : Option (Bool × Unit) :=
  (Option.bind (Go.Tw.ref04_Short_M b) fun (v0 : Bool × Unit) => (bif !v0.fst then (Option.bind (Go.Tw.law04_awake_M) fun (v3 : Bool × Unit) => Option.some (v3.fst, ())) else (bif Decidable.decide ((↑v.length : Int) > (9 : Int)) then (Option.bind (Go.Tw.law04_awake_M) fun (v4 : Bool × Unit) => Option.some (v4.fst, ())) else (Option.bind (Go.Tw.law04_given_M b) fun (v5 : Go.Tw.Bas × Unit) => (Option.bind (Go.Tw.law04_ints_M v) fun (v6 : List Int × Unit) => (Option.bind (Go.Tw.basin_Levels_M v5.fst v6.fst) fun (v7 : List Int × Int × Unit) => (Option.bind (Go.Tw.law04_given_M b) fun (v8 : Go.Tw.Bas × Unit) => (Option.bind (Go.Tw.law04_ints_M v) fun (v9 : List Int × Unit) => (Option.bind (Go.Tw.basin_Above_M v8.fst v9.fst) fun (v10 : List Int × Int × Unit) => (Option.bind (Go.Tw.law04_given_M b) fun (v11 : Go.Tw.Bas × Unit) => (Option.bind (Go.Tw.law04_ints_M v) fun (v12 : List Int × Unit) => (Option.bind (Go.Tw.basin_Room_M v11.fst v12.fst) fun (v13 : List Int × Int × Unit) => (Option.bind (Go.Tw.ref04_CheckVolumes_M b v) fun (v14 : Int × Unit) => (bif v14.fst == (0 : Int) then (Option.bind (Go.Tw.ref04_Levels_M b v) fun (v15 : List Int × Unit) => (Option.bind (Go.Tw.ref04_Above_M b v) fun (v16 : List Int × Unit) => (Option.bind (Go.Tw.ref04_Room_M b v) fun (v17 : List Int × Unit) => (law04_BasinChecks_m_j51 n b v v7 v10 v13 v14 (v15.fst) (v16.fst) (v17.fst))))) else (law04_BasinChecks_m_j51 n b v v7 v10 v13 v14 ([]) ([]) ([]))))))))))))))))

theorem law04_BasinChecks_eq (n : Nat) (x : law04_BasinChecks_a.den) : runF law04_BasinChecks_g (law04_BasinChecks_an n) Tryz.f5 law04_BasinChecks_a law04_BasinChecks_r x = law04_BasinChecks_m n x.1 x.2.1 := by kernel_rfl

noncomputable def law04_BasinChecks_M (b : Bas) (v : List Int) : Option (Bool × Unit) := law04_BasinChecks_m 0 b v

theorem law04_BasinChecks_run (b : Bas) (v : List Int) (y : Bool × Unit) (h : law04_BasinChecks_M b v = some y) : ∃ n, law04_BasinChecks_m n b v = some y := ⟨0, h⟩
noncomputable def law04_BasinChecks_e : Entry := { f := 5, args := law04_BasinChecks_a, ress := law04_BasinChecks_r, m := fun x => law04_BasinChecks_M x.1 x.2.1 }
theorem law04_BasinChecks_ok : FnOK Tryz.prog law04_BasinChecks_e := fn_ok (g := law04_BasinChecks_g) (fn := Tryz.f5) hmixed tabOk (eCons ref04_Short_ok (eCons law04_awake_ok (eCons law04_given_ok (eCons law04_ints_ok (eCons basin_Levels_ok (eCons basin_Above_ok (eCons basin_Room_ok (eCons ref04_CheckVolumes_ok (eCons ref04_Levels_ok (eCons ref04_Above_ok (eCons ref04_Room_ok (eCons basin_Kinds_ok (eCons ref04_Kinds_ok (eCons ref01_SameWords_ok (eCons basin_CheckBasin_ok (eCons ref04_CheckBasin_ok (eCons basin_CheckVolumes_ok (eCons ref01_SameInts_ok eNil)))))))))))))))))) (by kernel_rfl) (by kernel_rfl) (by kernel_rfl) (fun x y h => let ⟨n, hn⟩ := law04_BasinChecks_run x.1 x.2.1 y h; ⟨law04_BasinChecks_an n, iNil, (law04_BasinChecks_eq n x).trans hn⟩)

end Go.Tw
