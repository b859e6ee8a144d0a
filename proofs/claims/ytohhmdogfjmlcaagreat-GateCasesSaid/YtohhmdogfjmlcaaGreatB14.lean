import Derived.Test.YtohhmdogfjmlcaaGreatBT
import Derived.Test.YtohhmdogfjmlcaaGreatB0
import Derived.Test.YtohhmdogfjmlcaaGreatBS
import Derived.Test.YtohhmdogfjmlcaaGreatLP
import Derived.Test.YtohhmdogfjmlcaaGreatBA
import Derived.Test.YtohhmdogfjmlcaaGreatBB
import Derived.Test.YtohhmdogfjmlcaaGreatBC
import Derived.Test.YtohhmdogfjmlcaaGreatB13
set_option linter.all false
set_option maxRecDepth 1000000
namespace Go.Tw
open Go.Vx Go.Vx.B Go.Proofs
noncomputable section
abbrev zr_a : Ty := .pair t25 .unit
abbrev zr_r : Ty := .pair t4 .unit
def zr_g : G := { T := T, E := [z0W_e, z0b_e, z0Y_e, z0D_e, zz_e, z01_e, z0B_e, zm_e, z0A_e, zv_e, z09_e, zw_e, z0X_e, zx_e, z0L_e], muts := [], fz := [] }
def zr_k : List (List Nat) := []
def zr_an (n : Nat) : Ann := { keep := zr_k, fuel := n, inl := [], deep := 0 }
def zr_m_j43 (n : Nat) (v7 : List Cas × Int × Unit) (v9 : List Cas × Int × Unit) (v11 : List Int × Int × Unit) (v13 : List Cas × Int × Unit) (v14 : Int × Unit) (j19 : List Cas) (j20 : List Cas) (j21 : List Cas) (j22 : List Int) : Option (Bool × Unit) :=
  (Option.bind (z0X_M v7.1) fun (v23 : List Cas × Unit) => (Option.bind (zx_M v23.1 j19) fun (v24 : Bool × Unit) => (bif v24.1 then (bif v7.2.1 == v14.1 then (Option.bind (z0X_M v9.1) fun (v25 : List Cas × Unit) => (Option.bind (zx_M v25.1 j20) fun (v26 : Bool × Unit) => (bif v26.1 then (bif v9.2.1 == v14.1 then (Option.bind (z0L_M v11.1 v11.2.1 v14.1 j22) fun (v27 : Bool × Unit) => (bif v27.1 then (Option.bind (z0X_M v13.1) fun (v28 : List Cas × Unit) => (Option.bind (zx_M v28.1 j21) fun (v29 : Bool × Unit) => (bif v29.1 then some (v13.2.1 == v14.1, ()) else some (Bool.false, ())))) else some (Bool.false, ()))) else some (Bool.false, ())) else some (Bool.false, ())))) else some (Bool.false, ())) else some (Bool.false, ()))))
def zr_m (n : Nat) (c : Cha) : Option (Bool × Unit) :=
  (Option.bind (z0W_M) fun (v0 : Bool × Unit) => (bif !v0.1 then (Option.bind (z0W_M) fun (v4 : Bool × Unit) => some (v4.1, ())) else (Option.bind (z0b_M c) fun (v1 : Bool × Unit) => (bif !v1.1 then (Option.bind (z0W_M) fun (v5 : Bool × Unit) => some (v5.1, ())) else (Option.bind (z0Y_M c) fun (v6 : Cha × Unit) => (Option.bind (z0D_M v6.1) fun (v7 : List Cas × Int × Unit) => (Option.bind (z0Y_M c) fun (v8 : Cha × Unit) => (Option.bind (zz_M v8.1) fun (v9 : List Cas × Int × Unit) => (Option.bind (z0Y_M c) fun (v10 : Cha × Unit) => (Option.bind (z01_M v10.1) fun (v11 : List Int × Int × Unit) => (Option.bind (z0Y_M c) fun (v12 : Cha × Unit) => (Option.bind (z0B_M v12.1) fun (v13 : List Cas × Int × Unit) => (Option.bind (zm_M c) fun (v14 : Int × Unit) => (bif v14.1 == (0 : Int) then (Option.bind (z0A_M c) fun (v15 : List Cas × Unit) => (Option.bind (zv_M c) fun (v16 : List Cas × Unit) => (Option.bind (z09_M c) fun (v17 : List Cas × Unit) => (Option.bind (zw_M c) fun (v18 : List Int × Unit) => (zr_m_j43 n v7 v9 v11 v13 v14 (v15.1) (v16.1) (v17.1) (v18.1)))))) else (zr_m_j43 n v7 v9 v11 v13 v14 ([]) ([]) ([]) ([]))))))))))))))))
theorem zr_eq (n : Nat) (x : zr_a.den) : runF zr_g (zr_an n) Tryz.f7 zr_a zr_r x = zr_m n x.1 := by kernel_rfl
def zr_M (c : Cha) : Option (Bool × Unit) := zr_m 0 c
theorem zr_run (c : Cha) (y : Bool × Unit) (h : zr_M c = some y) : ∃ n, zr_m n c = some y := ⟨0, h⟩
def zr_e : Entry := { f := 7, args := zr_a, ress := zr_r, m := fun x => zr_M x.1 }
theorem zr_ok : FnOK Tryz.prog zr_e := fn_ok (g := zr_g) (fn := Tryz.f7) hmixed tabOk (eCons z0W_ok (eCons z0b_ok (eCons z0Y_ok (eCons z0D_ok (eCons zz_ok (eCons z01_ok (eCons z0B_ok (eCons zm_ok (eCons z0A_ok (eCons zv_ok (eCons z09_ok (eCons zw_ok (eCons z0X_ok (eCons zx_ok (eCons z0L_ok eNil))))))))))))))) (by kernel_rfl) (by kernel_rfl) (by kernel_rfl) (fun x y h => let ⟨n, hn⟩ := zr_run x.1 y h; ⟨zr_an n, iNil, (zr_eq n x).trans hn⟩)
end
end Go.Tw
