/- Models of the program's functions, by program (gen.py), and what they compute. -/
import Derived.Test.YtohhmdogfjmlcaaGreatBT
import Derived.Test.YtohhmdogfjmlcaaGreatB0
import Derived.Test.YtohhmdogfjmlcaaGreatBS
import Derived.Test.YtohhmdogfjmlcaaGreatLP
import Derived.Test.YtohhmdogfjmlcaaGreatBA
import Derived.Test.YtohhmdogfjmlcaaGreatBC

set_option linter.all false
set_option maxRecDepth 1000000
namespace Go.Tw
open Go.Vx Go.Vx.B Go.Proofs
/-! ### tidewaylaw06.GateCharts -/
/-! ### tidewaylaw06.GateSteps -/
/-! ### tidewaylaw06.GateCommands -/
/-! ### tidewaylaw06.GateVotes -/
abbrev law06_GateVotes_a : Ty := .pair t28 (.pair t50 .unit)
abbrev law06_GateVotes_r : Ty := .pair t4 .unit
noncomputable def law06_GateVotes_g : G := { T := T, E := [law06_awake_e, ref06_ShortScript_e, law06_ints_e, gate_Vote_e, law06_script_e, gate_Failures_e, ref06_CheckPositions_e, ref06_CheckScript_e, ref06_Vote_e, ref06_Failures_e, law06_number_e, law06_failures_e, ref06_SameFailures_e], muts := [], fz := [] }
def law06_GateVotes_k : List (List Nat) := []
noncomputable def law06_GateVotes_an (n : Nat) : Ann := { keep := law06_GateVotes_k, fuel := n, inl := [], deep := 0 }
noncomputable def law06_GateVotes_m_j27 (n : Nat) (v10 : Int × Int × Unit) (v12 : List Go.Tw.Fai × Int × Unit) (v14 : Int × Unit) (j16 : Int) (j17 : Int) (j19 : List Fai) : Option (Bool × Unit) :=
  (bif (Go.Tw.law06_number v10.fst v10.snd.fst j16 j17).fst then (Option.bind (Go.Tw.law06_failures_M v12.fst) fun (v20 : List Go.Tw.Fai × Unit) => (Option.bind (Go.Tw.ref06_SameFailures_M v20.fst j19) fun (v21 : Bool × Unit) => (bif v21.fst then Option.some (v12.snd.fst == v14.fst, ()) else Option.some (Bool.false, ())))) else Option.some (Bool.false, ()))

noncomputable def law06_GateVotes_m_j28 (n : Nat) (s : List (List UInt8 × Int × Unit)) (v10 : Int × Int × Unit) (v12 : List Go.Tw.Fai × Int × Unit) (v14 : Int × Unit) (j16 : Int) (j17 : Int) : Option (Bool × Unit) :=
  (bif v14.fst == (0 : Int) then (Option.bind (Go.Tw.ref06_Failures_M s) fun (v18 : List Go.Tw.Fai × Unit) => (law06_GateVotes_m_j27 n v10 v12 v14 j16 j17 (v18.fst))) else (law06_GateVotes_m_j27 n v10 v12 v14 j16 j17 ([])))

noncomputable def law06_GateVotes_m (n : Nat) (l : List Int) (s : List (List UInt8 × Int × Unit)) : Option (Bool × Unit) :=
  (Option.bind (Go.Tw.law06_awake_M) fun (v0 : Bool × Unit) => (bif !v0.fst then (Option.bind (Go.Tw.law06_awake_M) fun (v6 : Bool × Unit) => Option.some (v6.fst, ())) else (bif Decidable.decide ((↑l.length : Int) > (20 : Int)) then (Option.bind (Go.Tw.law06_awake_M) fun (v7 : Bool × Unit) => Option.some (v7.fst, ())) else (Option.bind (Go.Tw.ref06_ShortScript_M s) fun (v1 : Bool × Unit) => (bif !v1.fst then (Option.bind (Go.Tw.law06_awake_M) fun (v8 : Bool × Unit) => Option.some (v8.fst, ())) else (Option.bind (Go.Tw.law06_ints_M l) fun (v9 : List Int × Unit) => (Option.bind (Go.Tw.gate_Vote_M v9.fst) fun (v10 : Int × Int × Unit) => (Option.bind (Go.Tw.law06_script_M s) fun (v11 : List (List UInt8 × Int × Unit) × Unit) => (Option.bind (Go.Tw.gate_Failures_M v11.fst) fun (v12 : List Go.Tw.Fai × Int × Unit) => (Option.bind (Go.Tw.ref06_CheckPositions_M l) fun (v13 : Int × Unit) => (Option.bind (Go.Tw.ref06_CheckScript_M s) fun (v14 : Int × Unit) => (bif v13.fst == (0 : Int) then (Option.bind (Go.Tw.ref06_Vote_M l) fun (v15 : Int × Int × Unit) => (law06_GateVotes_m_j28 n s v10 v12 v14 (v15.snd.fst) (v15.fst))) else (law06_GateVotes_m_j28 n s v10 v12 v14 (v13.fst) ((0 : Int)))))))))))))))

theorem law06_GateVotes_eq (n : Nat) (x : law06_GateVotes_a.den) : runF law06_GateVotes_g (law06_GateVotes_an n) Tryz.f8 law06_GateVotes_a law06_GateVotes_r x = law06_GateVotes_m n x.1 x.2.1 := by kernel_rfl

noncomputable def law06_GateVotes_M (l : List Int) (s : List (List UInt8 × Int × Unit)) : Option (Bool × Unit) := law06_GateVotes_m 0 l s

theorem law06_GateVotes_run (l : List Int) (s : List (List UInt8 × Int × Unit)) (y : Bool × Unit) (h : law06_GateVotes_M l s = some y) : ∃ n, law06_GateVotes_m n l s = some y := ⟨0, h⟩
noncomputable def law06_GateVotes_e : Entry := { f := 8, args := law06_GateVotes_a, ress := law06_GateVotes_r, m := fun x => law06_GateVotes_M x.1 x.2.1 }
theorem law06_GateVotes_ok : FnOK Tryz.prog law06_GateVotes_e := fn_ok (g := law06_GateVotes_g) (fn := Tryz.f8) hmixed tabOk (eCons law06_awake_ok (eCons ref06_ShortScript_ok (eCons law06_ints_ok (eCons gate_Vote_ok (eCons law06_script_ok (eCons gate_Failures_ok (eCons ref06_CheckPositions_ok (eCons ref06_CheckScript_ok (eCons ref06_Vote_ok (eCons ref06_Failures_ok (eCons law06_number_ok (eCons law06_failures_ok (eCons ref06_SameFailures_ok eNil))))))))))))) (by kernel_rfl) (by kernel_rfl) (by kernel_rfl) (fun x y h => let ⟨n, hn⟩ := law06_GateVotes_run x.1 x.2.1 y h; ⟨law06_GateVotes_an n, iNil, (law06_GateVotes_eq n x).trans hn⟩)

end Go.Tw
