/- Models of the program's functions, by program (gen.py), and what they compute. -/
import Derived.Test.YtohhmdogfjmlcaaGreatBT
import Derived.Test.YtohhmdogfjmlcaaGreatB0
import Derived.Test.YtohhmdogfjmlcaaGreatBS
import Derived.Test.YtohhmdogfjmlcaaGreatLP
import Derived.Test.YtohhmdogfjmlcaaGreatBA
import Derived.Test.YtohhmdogfjmlcaaGreatBC

set_option linter.all false
set_option maxRecDepth 1000000
namespace Go.Tw
open Go.Vx Go.Vx.B Go.Proofs
/-! ### tidewaylaw06.GateCharts -/
/-! ### tidewaylaw06.GateSteps -/
/-! ### tidewaylaw06.GateCommands -/
abbrev law06_GateCommands_a : Ty := .pair t67 (.pair t3 .unit)
abbrev law06_GateCommands_r : Ty := .pair t4 .unit
noncomputable def law06_GateCommands_g : G := { T := T, E := [law06_awake_e, ref06_ShortCommands_e, law06_commands_e, gate_Execute_e, gate_Lost_e, ref06_CheckCommands_e, ref01_CheckRange_e, law06_first_e, ref06_Execute_e, ref06_Lost_e, ref01_SameWords_e, law06_number_e, law06_listed_e], muts := [], fz := [] }
def law06_GateCommands_k : List (List Nat) := []
noncomputable def law06_GateCommands_an (n : Nat) : Ann := { keep := law06_GateCommands_k, fuel := n, inl := [], deep := 0 }
noncomputable def law06_GateCommands_m_j24 (n : Nat) (v7 : List (List UInt8) × Int × Int × Unit) (v9 : List Int × Int × Unit) (v10 : Int × Unit) (v11 : Int × Unit) (j13 : List (List UInt8)) (j14 : Int) (j16 : List Int) : Option (Bool × Unit) :=
  (Option.bind (Go.Tw.ref01_SameWords_M v7.fst j13) fun (v17 : Bool × Unit) => (bif v17.fst then (bif (Go.Tw.law06_number v7.snd.fst v7.snd.snd.fst v10.fst j14).fst then (Option.bind (Go.Tw.law06_listed_M v9.fst v9.snd.fst v11.fst j16) fun (v18 : Bool × Unit) => Option.some (v18.fst, ())) else Option.some (Bool.false, ())) else Option.some (Bool.false, ())))

noncomputable def law06_GateCommands_m_j25 (n : Nat) (l : List Cmd) (last : Int) (v7 : List (List UInt8) × Int × Int × Unit) (v9 : List Int × Int × Unit) (v10 : Int × Unit) (v11 : Int × Unit) (j13 : List (List UInt8)) (j14 : Int) : Option (Bool × Unit) :=
  (bif v11.fst == (0 : Int) then (Option.bind (Go.Tw.ref06_Lost_M l last) fun (v15 : List Int × Unit) => (law06_GateCommands_m_j24 n v7 v9 v10 v11 j13 j14 (v15.fst))) else (law06_GateCommands_m_j24 n v7 v9 v10 v11 j13 j14 ([])))

noncomputable def law06_GateCommands_m (n : Nat) (l : List Cmd) (last : Int) : Option (Bool × Unit) :=
  (Option.bind (Go.Tw.law06_awake_M) fun (v0 : Bool × Unit) => (bif !v0.fst then (Option.bind (Go.Tw.law06_awake_M) fun (v4 : Bool × Unit) => Option.some (v4.fst, ())) else (Option.bind (Go.Tw.ref06_ShortCommands_M l) fun (v1 : Bool × Unit) => (bif !v1.fst then (Option.bind (Go.Tw.law06_awake_M) fun (v5 : Bool × Unit) => Option.some (v5.fst, ())) else (Option.bind (Go.Tw.law06_commands_M l) fun (v6 : List Go.Tw.Cmd × Unit) => (Option.bind (Go.Tw.gate_Execute_M v6.fst) fun (v7 : List (List UInt8) × Int × Int × Unit) => (Option.bind (Go.Tw.law06_commands_M l) fun (v8 : List Go.Tw.Cmd × Unit) => (Option.bind (Go.Tw.gate_Lost_M v8.fst last) fun (v9 : List Int × Int × Unit) => (Option.bind (Go.Tw.ref06_CheckCommands_M l) fun (v10 : Int × Unit) => (Option.bind (Go.Tw.law06_first_M [v10.fst, (Go.Tw.ref01_CheckRange last (0 : Int) (256 : Int)).fst]) fun (v11 : Int × Unit) => (bif v10.fst == (0 : Int) then (Option.bind (Go.Tw.ref06_Execute_M l) fun (v12 : List (List UInt8) × Int × Unit) => (law06_GateCommands_m_j25 n l last v7 v9 v10 v11 (v12.fst) (v12.snd.fst))) else (law06_GateCommands_m_j25 n l last v7 v9 v10 v11 ([]) ((0 : Int))))))))))))))

theorem law06_GateCommands_eq (n : Nat) (x : law06_GateCommands_a.den) : runF law06_GateCommands_g (law06_GateCommands_an n) Tryz.f5 law06_GateCommands_a law06_GateCommands_r x = law06_GateCommands_m n x.1 x.2.1 := by kernel_rfl

noncomputable def law06_GateCommands_M (l : List Cmd) (last : Int) : Option (Bool × Unit) := law06_GateCommands_m 0 l last

theorem law06_GateCommands_run (l : List Cmd) (last : Int) (y : Bool × Unit) (h : law06_GateCommands_M l last = some y) : ∃ n, law06_GateCommands_m n l last = some y := ⟨0, h⟩
noncomputable def law06_GateCommands_e : Entry := { f := 5, args := law06_GateCommands_a, ress := law06_GateCommands_r, m := fun x => law06_GateCommands_M x.1 x.2.1 }
theorem law06_GateCommands_ok : FnOK Tryz.prog law06_GateCommands_e := fn_ok (g := law06_GateCommands_g) (fn := Tryz.f5) hmixed tabOk (eCons law06_awake_ok (eCons ref06_ShortCommands_ok (eCons law06_commands_ok (eCons gate_Execute_ok (eCons gate_Lost_ok (eCons ref06_CheckCommands_ok (eCons ref01_CheckRange_ok (eCons law06_first_ok (eCons ref06_Execute_ok (eCons ref06_Lost_ok (eCons ref01_SameWords_ok (eCons law06_number_ok (eCons law06_listed_ok eNil))))))))))))) (by kernel_rfl) (by kernel_rfl) (by kernel_rfl) (fun x y h => let ⟨n, hn⟩ := law06_GateCommands_run x.1 x.2.1 y h; ⟨law06_GateCommands_an n, iNil, (law06_GateCommands_eq n x).trans hn⟩)

/-! ### tidewaylaw06.GateVotes -/
end Go.Tw
