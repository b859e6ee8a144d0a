/- Models of the program's functions, by program (gen.py), and what they compute. -/
import Derived.Test.YtpcnkpbpcebokaaGreatDoorBT
import Derived.Test.YtpcnkpbpcebokaaGreatDoorB0
import Derived.Test.YtpcnkpbpcebokaaGreatDoorBS
import Derived.Test.YtpcnkpbpcebokaaGreatDoorLQ
import Derived.Test.YtpcnkpbpcebokaaGreatDoorLR
import Derived.Test.YtpcnkpbpcebokaaGreatDoorBA
import Derived.Test.YtpcnkpbpcebokaaGreatDoorBC
import Derived.Test.YtpcnkpbpcebokaaGreatDoorBD

set_option linter.all false
set_option maxRecDepth 1000000
namespace Go.Tw
open Go.Vx Go.Vx.B Go.Proofs
/-! ### tidewaylaw02.TideWaters -/
abbrev zZ_a : Ty := .pair t35 .unit
abbrev zZ_r : Ty := .pair t4 .unit
noncomputable def zZ_g : G := { T := T, E := [z0D_e, z0V_e, z0j_e, zU_e, z02_e, zl_e], muts := [24, 31], fz := [] }
def zZ_k : List (List Nat) := []
noncomputable def yR3 (n : Nat) : Ann := { keep := zZ_k, fuel := n, inl := [], deep := 0 }
noncomputable def yE2 (n : Nat) (v9 : List Int × Int × Unit) (v10 : List Int × Int × Unit) (v11 : Int × Unit) (j14 : List Int) (j15 : List Int) : Option (Bool × Unit) :=
  (bif v9.snd.fst == v11.fst then (Option.bind (Go.Tw.zl_M v9.fst j14) fun (v16 : Bool × Unit) => (bif v16.fst then (bif v10.snd.fst == v11.fst then (Option.bind (Go.Tw.zl_M v10.fst j15) fun (v17 : Bool × Unit) => Option.some (v17.fst, ())) else Option.some (Bool.false, ())) else Option.some (Bool.false, ()))) else Option.some (Bool.false, ()))

noncomputable def yDo (n : Nat) (l : List Nat) : Option (Bool × Unit) :=
  (bif Decidable.decide ((0 : Nat) + l.length ≤ Go.Vx.memMax) then (Option.bind (Go.Tw.yK1 l) fun (v9 : List Int × Int × Unit) => (bif Decidable.decide ((0 : Nat) + l.length ≤ Go.Vx.memMax) then (Option.bind (Go.Tw.yJt l) fun (v10 : List Int × Int × Unit) => (Option.bind (Go.Tw.zU_M l) fun (v11 : Int × Unit) => (bif v11.fst == (0 : Int) then (Option.bind (Go.Tw.yJp l (nat_lit 1065353216)) fun (v12 : List Int × Unit) => (Option.bind (Go.Tw.yJp l (nat_lit 3212836864)) fun (v13 : List Int × Unit) => (yE2 n v9 v10 v11 (v12.fst) (v13.fst)))) else (yE2 n v9 v10 v11 ([]) ([]))))) else none)) else none)

noncomputable def zZ_m (n : Nat) (l : List Nat) : Option (Bool × Unit) :=
  (Option.bind (Go.Tw.yON) fun (v0 : Bool × Unit) => (bif !v0.fst then (Option.bind (Go.Tw.yON) fun (v3 : Bool × Unit) => Option.some (v3.fst, ())) else (bif Decidable.decide ((↑l.length : Int) > (32 : Int)) then (bif (↑l.length : Int) != (4097 : Int) then (Option.bind (Go.Tw.yON) fun (v4 : Bool × Unit) => Option.some (v4.fst, ())) else (yDo n l)) else (yDo n l))))

theorem yTZ (n : Nat) (x : zZ_a.den) : runF zZ_g (yR3 n) Tryz.f9 zZ_a zZ_r x = zZ_m n x.1 := by kernel_rfl

noncomputable def zZ_M (l : List Nat) : Option (Bool × Unit) := zZ_m 0 l

theorem yTE (l : List Nat) (y : Bool × Unit) (h : zZ_M l = some y) : ∃ n, zZ_m n l = some y := ⟨0, h⟩
noncomputable def zZ_e : Entry := { f := 9, args := zZ_a, ress := zZ_r, m := fun x => zZ_M x.1 }
theorem yVt : FnOK Tryz.prog zZ_e := yO (g := zZ_g) (fn := Tryz.f9) yD yK (yB yKM (yB yHd (yB yFl (yB ySO (yB ySi (yB yNx eNil)))))) (by kernel_rfl) (by kernel_rfl) (by kernel_rfl) (fun x y h => let ⟨n, hn⟩ := yTE x.1 y h; ⟨yR3 n, iNil, (yTZ n x).trans hn⟩)

end Go.Tw
