/- Models of the program's functions, by program (gen.py), and what they compute. -/
import Derived.Test.YtpcnkpbpcebokaaGreatDoorBT
import Derived.Test.YtpcnkpbpcebokaaGreatDoorB0
import Derived.Test.YtpcnkpbpcebokaaGreatDoorBS
import Derived.Test.YtpcnkpbpcebokaaGreatDoorLQ
import Derived.Test.YtpcnkpbpcebokaaGreatDoorLR
import Derived.Test.YtpcnkpbpcebokaaGreatDoorBA
import Derived.Test.YtpcnkpbpcebokaaGreatDoorBC
import Derived.Test.YtpcnkpbpcebokaaGreatDoorBD

set_option linter.all false
set_option maxRecDepth 1000000
namespace Go.Tw
open Go.Vx Go.Vx.B Go.Proofs
/-! ### tidewaylaw02.TidePredictions -/
abbrev zP_a : Ty := .pair t25 (.pair t3 (.pair t3 .unit))
abbrev zP_r : Ty := .pair t4 .unit
noncomputable def zP_g : G := { T := T, E := [z0N_e, zn_e, z0x_e, z0G_e, z0U_e, zk_e, zi_e, z0P_e, z02_e, z0B_e, zu_e, zW_e, zb_e], muts := [], fz := [] }
def zP_k : List (List Nat) := []
noncomputable def yRS (n : Nat) : Ann := { keep := zP_k, fuel := n, inl := [], deep := 0 }
noncomputable def y6i (n : Nat) (t : List (List UInt8 × Int × Int × Unit) × List (Int × Int × Unit) × Int × Unit) (v15 : List (Int × Int × Unit) × Int × Unit) (v17 : List Nat × Int × Unit) (v18 : Int × Unit) (v20 : Int × Unit) (j23 : Int) (j24 : List (Int × Int × Unit)) (j25 : List Nat) : Option (Bool × Unit) :=
  (Option.bind (Go.Tw.yJZ t) fun (v26 : (List (List UInt8 × Int × Int × Unit) × List (Int × Int × Unit) × Int × Unit) × Unit) => (Option.bind (Go.Tw.zu_M v26.fst) fun (v27 : Int × Unit) => (bif v27.fst == v18.fst then (bif v15.snd.fst == v20.fst then (Option.bind (Go.Tw.zW_M v15.fst j24) fun (v28 : Bool × Unit) => (bif v28.fst then (bif v17.snd.fst == j23 then (Option.bind (Go.Tw.zb_M v17.fst j25) fun (v29 : Bool × Unit) => Option.some (v29.fst, ())) else Option.some (Bool.false, ())) else Option.some (Bool.false, ()))) else Option.some (Bool.false, ())) else Option.some (Bool.false, ()))))

noncomputable def y6r (n : Nat) (t : List (List UInt8 × Int × Int × Unit) × List (Int × Int × Unit) × Int × Unit) (p1 : Int) (np : Int) : Option (Bool × Unit) :=
  (Option.bind (Go.Tw.yJZ t) fun (v14 : (List (List UInt8 × Int × Int × Unit) × List (Int × Int × Unit) × Int × Unit) × Unit) => (Option.bind (Go.Tw.y9i v14.fst p1 np) fun (v15 : List (Int × Int × Unit) × Int × Unit) => (Option.bind (Go.Tw.yJZ t) fun (v16 : (List (List UInt8 × Int × Int × Unit) × List (Int × Int × Unit) × Int × Unit) × Unit) => (Option.bind (Go.Tw.yDG v16.fst p1 np) fun (v17 : List Nat × Int × Unit) => (Option.bind (Go.Tw.zk_M t) fun (v18 : Int × Unit) => (Option.bind (Go.Tw.zi_M p1 np) fun (v19 : Int × Unit) => (Option.bind (Go.Tw.y8H [v18.fst, v19.fst]) fun (v20 : Int × Unit) => (bif v20.fst == (0 : Int) then (Option.bind (Go.Tw.yFd t p1 np) fun (v21 : List (Int × Int × Unit) × Unit) => (Option.bind (Go.Tw.yGF t p1 np) fun (v22 : List Nat × Int × Unit) => (y6i n t v15 v17 v18 v20 (v22.snd.fst) (v21.fst) (v22.fst)))) else (y6i n t v15 v17 v18 v20 (v20.fst) ([]) ([]))))))))))

noncomputable def zP_m (n : Nat) (t : List (List UInt8 × Int × Int × Unit) × List (Int × Int × Unit) × Int × Unit) (p1 : Int) (np : Int) : Option (Bool × Unit) :=
  (Option.bind (Go.Tw.yKH) fun (v0 : Bool × Unit) => (bif !v0.fst then (Option.bind (Go.Tw.yKH) fun (v6 : Bool × Unit) => Option.some (v6.fst, ())) else (Option.bind (Go.Tw.zn_M t) fun (v1 : Bool × Unit) => (bif !v1.fst then (Option.bind (Go.Tw.yKH) fun (v7 : Bool × Unit) => Option.some (v7.fst, ())) else (bif Decidable.decide (np > (40 : Int)) then (bif Decidable.decide (np ≤ (4096 : Int)) then (Option.bind (Go.Tw.yKH) fun (v8 : Bool × Unit) => Option.some (v8.fst, ())) else (y6r n t p1 np)) else (y6r n t p1 np))))))

theorem yZ7 (n : Nat) (x : zP_a.den) : runF zP_g (yRS n) Tryz.f3 zP_a zP_r x = zP_m n x.1 x.2.1 x.2.2.1 := by kernel_rfl

noncomputable def zP_M (t : List (List UInt8 × Int × Int × Unit) × List (Int × Int × Unit) × Int × Unit) (p1 : Int) (np : Int) : Option (Bool × Unit) := zP_m 0 t p1 np

theorem yUk (t : List (List UInt8 × Int × Int × Unit) × List (Int × Int × Unit) × Int × Unit) (p1 : Int) (np : Int) (y : Bool × Unit) (h : zP_M t p1 np = some y) : ∃ n, zP_m n t p1 np = some y := ⟨0, h⟩
noncomputable def zP_e : Entry := { f := 3, args := zP_a, ress := zP_r, m := fun x => zP_M x.1 x.2.1 x.2.2.1 }
theorem yZD : FnOK Tryz.prog zP_e := yI (g := zP_g) (fn := Tryz.f3) yD yH (yA yVx (yA yWa (yA yTA (yA yH9 (yA yLx (yA yX9 (yA yYW (yA yEX (yA ySh (yA ySP (yA yIc (yA yPF (yA yW5 eNil))))))))))))) (by kernel_rfl) (by kernel_rfl) (by kernel_rfl) (fun x y h => let ⟨n, hn⟩ := yUk x.1 x.2.1 x.2.2.1 y h; ⟨yRS n, iNil, (yZ7 n x).trans hn⟩)

end Go.Tw
