/- Models of the program's functions, by program (gen.py), and what they compute. -/
import Derived.Test.YtohhmdogfjmlcaaGreatBT
import Derived.Test.YtohhmdogfjmlcaaGreatB0
import Derived.Test.YtohhmdogfjmlcaaGreatBS
import Derived.Test.YtohhmdogfjmlcaaGreatLP
import Derived.Test.YtohhmdogfjmlcaaGreatBA
import Derived.Test.YtohhmdogfjmlcaaGreatBC

set_option linter.all false
set_option maxRecDepth 1000000
namespace Go.Tw
open Go.Vx Go.Vx.B Go.Proofs
/-! ### tidewaylaw06.GateCharts -/
abbrev law06_GateCharts_a : Ty := .pair t25 .unit
abbrev law06_GateCharts_r : Ty := .pair t4 .unit
noncomputable def law06_GateCharts_g : G := { T := T, E := [law06_awake_e, ref06_Short_e, law06_chart_e, gate_Leaves_e, gate_Events_e, gate_Start_e, ref06_CheckChart_e, ref06_Leaves_e, ref06_Events_e, ref06_Enter_e, gate_CheckChart_e, law06_listed_e, ref01_SameWords_e, law06_number_e], muts := [], fz := [] }
def law06_GateCharts_k : List (List Nat) := []
noncomputable def law06_GateCharts_an (n : Nat) : Ann := { keep := law06_GateCharts_k, fuel := n, inl := [], deep := 0 }
noncomputable def law06_GateCharts_m_j32 (n : Nat) (c : Cha) (v7 : List Int × Int × Unit) (v9 : List (List UInt8) × Int × Unit) (v11 : Int × Int × Unit) (v12 : Int × Unit) (j16 : List Int) (j17 : List (List UInt8)) (j18 : Int) : Option (Bool × Unit) :=
  (Option.bind (Go.Tw.law06_chart_M c) fun (v19 : Go.Tw.Cha × Unit) => (Option.bind (Go.Tw.gate_CheckChart_M v19.fst) fun (v20 : Int × Unit) => (bif v20.fst == v12.fst then (Option.bind (Go.Tw.law06_listed_M v7.fst v7.snd.fst v12.fst j16) fun (v21 : Bool × Unit) => (bif v21.fst then (Option.bind (Go.Tw.ref01_SameWords_M v9.fst j17) fun (v22 : Bool × Unit) => (bif v22.fst then (bif v9.snd.fst == v12.fst then Option.some ((Go.Tw.law06_number v11.fst v11.snd.fst v12.fst j18).fst, ()) else Option.some (Bool.false, ())) else Option.some (Bool.false, ()))) else Option.some (Bool.false, ()))) else Option.some (Bool.false, ()))))

noncomputable def law06_GateCharts_m (n : Nat) (c : Cha) : Option (Bool × Unit) :=
  (Option.bind (Go.Tw.law06_awake_M) fun (v0 : Bool × Unit) => (bif !v0.fst then (Option.bind (Go.Tw.law06_awake_M) fun (v4 : Bool × Unit) => Option.some (v4.fst, ())) else (Option.bind (Go.Tw.ref06_Short_M c) fun (v1 : Bool × Unit) => (bif !v1.fst then (Option.bind (Go.Tw.law06_awake_M) fun (v5 : Bool × Unit) => Option.some (v5.fst, ())) else (Option.bind (Go.Tw.law06_chart_M c) fun (v6 : Go.Tw.Cha × Unit) => (Option.bind (Go.Tw.gate_Leaves_M v6.fst) fun (v7 : List Int × Int × Unit) => (Option.bind (Go.Tw.law06_chart_M c) fun (v8 : Go.Tw.Cha × Unit) => (Option.bind (Go.Tw.gate_Events_M v8.fst) fun (v9 : List (List UInt8) × Int × Unit) => (Option.bind (Go.Tw.law06_chart_M c) fun (v10 : Go.Tw.Cha × Unit) => (Option.bind (Go.Tw.gate_Start_M v10.fst) fun (v11 : Int × Int × Unit) => (Option.bind (Go.Tw.ref06_CheckChart_M c) fun (v12 : Int × Unit) => (bif v12.fst == (0 : Int) then (Option.bind (Go.Tw.ref06_Leaves_M c) fun (v13 : List Int × Unit) => (Option.bind (Go.Tw.ref06_Events_M c) fun (v14 : List (List UInt8) × Unit) => (Option.bind (Go.Tw.ref06_Enter_M c (0 : Int)) fun (v15 : Int × Unit) => (law06_GateCharts_m_j32 n c v7 v9 v11 v12 (v13.fst) (v14.fst) (v15.fst))))) else (law06_GateCharts_m_j32 n c v7 v9 v11 v12 ([]) ([]) ((0 : Int)))))))))))))))

theorem law06_GateCharts_eq (n : Nat) (x : law06_GateCharts_a.den) : runF law06_GateCharts_g (law06_GateCharts_an n) Tryz.f3 law06_GateCharts_a law06_GateCharts_r x = law06_GateCharts_m n x.1 := by kernel_rfl

noncomputable def law06_GateCharts_M (c : Cha) : Option (Bool × Unit) := law06_GateCharts_m 0 c

theorem law06_GateCharts_run (c : Cha) (y : Bool × Unit) (h : law06_GateCharts_M c = some y) : ∃ n, law06_GateCharts_m n c = some y := ⟨0, h⟩
noncomputable def law06_GateCharts_e : Entry := { f := 3, args := law06_GateCharts_a, ress := law06_GateCharts_r, m := fun x => law06_GateCharts_M x.1 }
theorem law06_GateCharts_ok : FnOK Tryz.prog law06_GateCharts_e := fn_ok (g := law06_GateCharts_g) (fn := Tryz.f3) hmixed tabOk (eCons law06_awake_ok (eCons ref06_Short_ok (eCons law06_chart_ok (eCons gate_Leaves_ok (eCons gate_Events_ok (eCons gate_Start_ok (eCons ref06_CheckChart_ok (eCons ref06_Leaves_ok (eCons ref06_Events_ok (eCons ref06_Enter_ok (eCons gate_CheckChart_ok (eCons law06_listed_ok (eCons ref01_SameWords_ok (eCons law06_number_ok eNil)))))))))))))) (by kernel_rfl) (by kernel_rfl) (by kernel_rfl) (fun x y h => let ⟨n, hn⟩ := law06_GateCharts_run x.1 y h; ⟨law06_GateCharts_an n, iNil, (law06_GateCharts_eq n x).trans hn⟩)

/-! ### tidewaylaw06.GateSteps -/
/-! ### tidewaylaw06.GateCommands -/
/-! ### tidewaylaw06.GateVotes -/
end Go.Tw
