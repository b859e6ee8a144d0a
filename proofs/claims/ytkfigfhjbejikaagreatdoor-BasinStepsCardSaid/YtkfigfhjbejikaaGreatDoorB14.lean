/- Models of the program's functions, by program (gen.py), and what they compute. -/
import Derived.Test.YtkfigfhjbejikaaGreatDoorBT
import Derived.Test.YtkfigfhjbejikaaGreatDoorBA
import Derived.Test.YtkfigfhjbejikaaGreatDoorBC
import Derived.Test.YtkfigfhjbejikaaGreatDoorBD
import Derived.Test.YtkfigfhjbejikaaGreatDoorB12
import Derived.Test.YtkfigfhjbejikaaGreatDoorB13
import Derived.Test.YtkfigfhjbejikaaGreatDoorBS

set_option linter.all false
set_option maxRecDepth 1000000
namespace Go.Tw
open Go.Vx Go.Vx.B Go.Proofs
/-! ### tidewaylaw04.BasinUntil -/
abbrev law04_BasinUntil_a : Ty := .pair t25 (.pair t26 (.pair t30 .unit))
abbrev law04_BasinUntil_r : Ty := .pair t4 .unit
noncomputable def law04_BasinUntil_g : G := { T := T, E := [ref04_Short_e, ref04_ShortConditions_e, law04_awake_e, law04_given_e, law04_ints_e, law04_condition_e, basin_Until_e, ref04_CheckUntil_e, ref04_Until_e], muts := [], fz := [] }
def law04_BasinUntil_k : List (List Nat) := []
noncomputable def law04_BasinUntil_an (n : Nat) : Ann := { keep := law04_BasinUntil_k, fuel := n, inl := [], deep := 0 }
noncomputable def law04_BasinUntil_m_j23 (n : Nat) (v12 : Int × Int × Unit) (j15 : Int) (j16 : Int) : Option (Bool × Unit) :=
  (bif v12.fst == j16 then (bif v12.snd.fst == j15 then (Option.bind (Go.Tw.law04_awake_M) fun (v17 : Bool × Unit) => Option.some (v17.fst, ())) else Option.some (Bool.false, ())) else Option.some (Bool.false, ()))

noncomputable def law04_BasinUntil_m (n : Nat) (b : Bas) (v : List Int) (x1 : Cnd × Int × Int × Unit) : Option (Bool × Unit) :=
  (Option.bind (Go.Tw.ref04_Short_M b) fun (v0 : Bool × Unit) => (bif !v0.fst then (Option.bind (Go.Tw.law04_awake_M) fun (v6 : Bool × Unit) => Option.some (v6.fst, ())) else (bif Decidable.decide ((↑v.length : Int) > (9 : Int)) then (Option.bind (Go.Tw.law04_awake_M) fun (v7 : Bool × Unit) => Option.some (v7.fst, ())) else (Option.bind (Go.Tw.ref04_ShortConditions_M [x1.fst]) fun (v1 : Bool × Unit) => (bif !v1.fst then (Option.bind (Go.Tw.law04_awake_M) fun (v8 : Bool × Unit) => Option.some (v8.fst, ())) else (Option.bind (Go.Tw.law04_given_M b) fun (v9 : Bas × Unit) => (Option.bind (Go.Tw.law04_ints_M v) fun (v10 : List Int × Unit) => (Option.bind (Go.Tw.law04_condition_M x1.fst) fun (v11 : Cnd × Unit) => (Option.bind (Go.Tw.basin_Until_M v9.fst v10.fst v11.fst x1.snd.fst x1.snd.snd.fst) fun (v12 : Int × Int × Unit) => (Option.bind (Go.Tw.ref04_CheckUntil_M b v x1.fst x1.snd.fst x1.snd.snd.fst) fun (v13 : Int × Unit) => (bif v13.fst == (0 : Int) then (Option.bind (Go.Tw.ref04_Until_M b v x1.fst x1.snd.fst x1.snd.snd.fst) fun (v14 : Int × Int × Unit) => (law04_BasinUntil_m_j23 n v12 (v14.snd.fst) (v14.fst))) else (law04_BasinUntil_m_j23 n v12 (v13.fst) ((0 : Int))))))))))))))

theorem law04_BasinUntil_eq (n : Nat) (x : law04_BasinUntil_a.den) : runF law04_BasinUntil_g (law04_BasinUntil_an n) Tryz.f3 law04_BasinUntil_a law04_BasinUntil_r x = law04_BasinUntil_m n x.1 x.2.1 x.2.2.1 := by kernel_rfl

noncomputable def law04_BasinUntil_M (b : Bas) (v : List Int) (x1 : Cnd × Int × Int × Unit) : Option (Bool × Unit) := law04_BasinUntil_m 0 b v x1

theorem law04_BasinUntil_run (b : Bas) (v : List Int) (x1 : Cnd × Int × Int × Unit) (y : Bool × Unit) (h : law04_BasinUntil_M b v x1 = some y) : ∃ n, law04_BasinUntil_m n b v x1 = some y := ⟨0, h⟩
noncomputable def law04_BasinUntil_e : Entry := { f := 3, args := law04_BasinUntil_a, ress := law04_BasinUntil_r, m := fun x => law04_BasinUntil_M x.1 x.2.1 x.2.2.1 }
theorem law04_BasinUntil_ok : FnOK Tryz.prog law04_BasinUntil_e := fn_ok (g := law04_BasinUntil_g) (fn := Tryz.f3) hmixed tabOk (eCons ref04_Short_ok (eCons ref04_ShortConditions_ok (eCons law04_awake_ok (eCons law04_given_ok (eCons law04_ints_ok (eCons law04_condition_ok (eCons basin_Until_ok (eCons ref04_CheckUntil_ok (eCons ref04_Until_ok eNil))))))))) (by kernel_rfl) (by kernel_rfl) (by kernel_rfl) (fun x y h => let ⟨n, hn⟩ := law04_BasinUntil_run x.1 x.2.1 x.2.2.1 y h; ⟨law04_BasinUntil_an n, iNil, (law04_BasinUntil_eq n x).trans hn⟩)

end Go.Tw
