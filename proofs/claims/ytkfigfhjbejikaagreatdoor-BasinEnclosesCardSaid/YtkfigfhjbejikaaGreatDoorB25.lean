/- Models of the program's functions, by program (gen.py), and what they compute. -/
import Derived.Test.YtkfigfhjbejikaaGreatDoorBT
import Derived.Test.YtkfigfhjbejikaaGreatDoorBA
import Derived.Test.YtkfigfhjbejikaaGreatDoorBC
import Derived.Test.YtkfigfhjbejikaaGreatDoorBD
import Derived.Test.YtkfigfhjbejikaaGreatDoorBE
import Derived.Test.YtkfigfhjbejikaaGreatDoorB16
import Derived.Test.YtkfigfhjbejikaaGreatDoorB17
import Derived.Test.YtkfigfhjbejikaaGreatDoorBF
import Derived.Test.YtkfigfhjbejikaaGreatDoorB23
import Derived.Test.YtkfigfhjbejikaaGreatDoorB24

set_option linter.all false
set_option maxRecDepth 1000000
namespace Go.Tw
open Go.Vx Go.Vx.B Go.Proofs
/-! ### tidewaylaw04.BasinEncloses -/
abbrev law04_BasinEncloses_a : Ty := .pair t25 (.pair t97 (.pair t101 .unit))
abbrev law04_BasinEncloses_r : Ty := .pair t4 .unit
noncomputable def law04_BasinEncloses_g : G := { T := T, E := [ref04_Short_e, ref04_ShortRanges_e, law04_awake_e, law04_given_e, law04_intervals_e, law04_ranges_e, basin_Enclose_e, basin_Safe_e, basin_Latest_e, ref04_CheckEnclose_e, ref04_Enclose_e, ref04_Safe_e, ref04_Latest_e, ref04_SameIntervals_e], muts := [], fz := [] }
def law04_BasinEncloses_k : List (List Nat) := []
noncomputable def law04_BasinEncloses_an (n : Nat) : Ann := { keep := law04_BasinEncloses_k, fuel := n, inl := [], deep := 0 }
noncomputable def law04_BasinEncloses_m_j46 (n : Nat) (v12 : List (List (Int × Int × Unit)) × Int × Unit) (v16 : Bool × Int × Unit) (v20 : Int × Int × Unit) (j25 : Int) (j26 : Int) (j27 : Int) (j28 : List (List (Int × Int × Unit))) (j29 : Bool) (j30 : Int) : Option (Bool × Unit) :=
  (Option.bind (Go.Tw.ref04_SameIntervals_M v12.fst j28) fun (v31 : Bool × Unit) => (bif v31.fst then (bif v12.snd.fst == j25 then (bif v16.fst == j29 then (bif v16.snd.fst == j26 then (bif v20.fst == j30 then (bif v20.snd.fst == j27 then (Option.bind (Go.Tw.law04_awake_M) fun (v32 : Bool × Unit) => Option.some (v32.fst, ())) else Option.some (Bool.false, ())) else Option.some (Bool.false, ())) else Option.some (Bool.false, ())) else Option.some (Bool.false, ())) else Option.some (Bool.false, ())) else Option.some (Bool.false, ())))

noncomputable def law04_BasinEncloses_m (n : Nat) (b : Bas) (v : List (Int × Int × Unit)) (l : List Rng) : Option (Bool × Unit) :=
  (Option.bind (Go.Tw.ref04_Short_M b) fun (v0 : Bool × Unit) => (bif !v0.fst then (Option.bind (Go.Tw.law04_awake_M) fun (v6 : Bool × Unit) => Option.some (v6.fst, ())) else (bif Decidable.decide ((↑v.length : Int) > (9 : Int)) then (Option.bind (Go.Tw.law04_awake_M) fun (v7 : Bool × Unit) => Option.some (v7.fst, ())) else (Option.bind (Go.Tw.ref04_ShortRanges_M l) fun (v1 : Bool × Unit) => (bif !v1.fst then (Option.bind (Go.Tw.law04_awake_M) fun (v8 : Bool × Unit) => Option.some (v8.fst, ())) else (Option.bind (Go.Tw.law04_given_M b) fun (v9 : Go.Tw.Bas × Unit) => (Option.bind (Go.Tw.law04_intervals_M v) fun (v10 : List (Int × Int × Unit) × Unit) => (Option.bind (Go.Tw.law04_ranges_M l) fun (v11 : List Go.Tw.Rng × Unit) => (Option.bind (Go.Tw.basin_Enclose_M v9.fst v10.fst v11.fst) fun (v12 : List (List (Int × Int × Unit)) × Int × Unit) => (Option.bind (Go.Tw.law04_given_M b) fun (v13 : Go.Tw.Bas × Unit) => (Option.bind (Go.Tw.law04_intervals_M v) fun (v14 : List (Int × Int × Unit) × Unit) => (Option.bind (Go.Tw.law04_ranges_M l) fun (v15 : List Go.Tw.Rng × Unit) => (Option.bind (Go.Tw.basin_Safe_M v13.fst v14.fst v15.fst) fun (v16 : Bool × Int × Unit) => (Option.bind (Go.Tw.law04_given_M b) fun (v17 : Go.Tw.Bas × Unit) => (Option.bind (Go.Tw.law04_intervals_M v) fun (v18 : List (Int × Int × Unit) × Unit) => (Option.bind (Go.Tw.law04_ranges_M l) fun (v19 : List Go.Tw.Rng × Unit) => (Option.bind (Go.Tw.basin_Latest_M v17.fst v18.fst v19.fst) fun (v20 : Int × Int × Unit) => (Option.bind (Go.Tw.ref04_CheckEnclose_M b v l) fun (v21 : Int × Unit) => (bif v21.fst == (0 : Int) then (Option.bind (Go.Tw.ref04_Enclose_M b v l) fun (v22 : List (List (Int × Int × Unit)) × Int × Unit) => (Option.bind (Go.Tw.ref04_Safe_M b v l) fun (v23 : Bool × Int × Unit) => (Option.bind (Go.Tw.ref04_Latest_M b v l) fun (v24 : Int × Int × Unit) => (law04_BasinEncloses_m_j46 n v12 v16 v20 (v22.snd.fst) (v23.snd.fst) (v24.snd.fst) (v22.fst) (v23.fst) (v24.fst))))) else (law04_BasinEncloses_m_j46 n v12 v16 v20 (v21.fst) (v21.fst) (v21.fst) ([]) (Bool.false) ((0 : Int))))))))))))))))))))))

theorem law04_BasinEncloses_eq (n : Nat) (x : law04_BasinEncloses_a.den) : runF law04_BasinEncloses_g (law04_BasinEncloses_an n) Tryz.f10 law04_BasinEncloses_a law04_BasinEncloses_r x = law04_BasinEncloses_m n x.1 x.2.1 x.2.2.1 := by kernel_rfl

noncomputable def law04_BasinEncloses_M (b : Bas) (v : List (Int × Int × Unit)) (l : List Rng) : Option (Bool × Unit) := law04_BasinEncloses_m 0 b v l

theorem law04_BasinEncloses_run (b : Bas) (v : List (Int × Int × Unit)) (l : List Rng) (y : Bool × Unit) (h : law04_BasinEncloses_M b v l = some y) : ∃ n, law04_BasinEncloses_m n b v l = some y := ⟨0, h⟩
noncomputable def law04_BasinEncloses_e : Entry := { f := 10, args := law04_BasinEncloses_a, ress := law04_BasinEncloses_r, m := fun x => law04_BasinEncloses_M x.1 x.2.1 x.2.2.1 }
theorem law04_BasinEncloses_ok : FnOK Tryz.prog law04_BasinEncloses_e := fn_ok (g := law04_BasinEncloses_g) (fn := Tryz.f10) hmixed tabOk (eCons ref04_Short_ok (eCons ref04_ShortRanges_ok (eCons law04_awake_ok (eCons law04_given_ok (eCons law04_intervals_ok (eCons law04_ranges_ok (eCons basin_Enclose_ok (eCons basin_Safe_ok (eCons basin_Latest_ok (eCons ref04_CheckEnclose_ok (eCons ref04_Enclose_ok (eCons ref04_Safe_ok (eCons ref04_Latest_ok (eCons ref04_SameIntervals_ok eNil)))))))))))))) (by kernel_rfl) (by kernel_rfl) (by kernel_rfl) (fun x y h => let ⟨n, hn⟩ := law04_BasinEncloses_run x.1 x.2.1 x.2.2.1 y h; ⟨law04_BasinEncloses_an n, iNil, (law04_BasinEncloses_eq n x).trans hn⟩)

end Go.Tw
