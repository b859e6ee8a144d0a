import Derived.Test.YtohhmdogfjmlcaaGreatBT
import Derived.Test.YtohhmdogfjmlcaaGreatB0
import Derived.Test.YtohhmdogfjmlcaaGreatBS
import Derived.Test.YtohhmdogfjmlcaaGreatLP
import Derived.Test.YtohhmdogfjmlcaaGreatBA
import Derived.Test.YtohhmdogfjmlcaaGreatBB
import Derived.Test.YtohhmdogfjmlcaaGreatBC
import Derived.Test.YtohhmdogfjmlcaaGreatB13
set_option linter.all false
set_option maxRecDepth 1000000
namespace Go.Tw
open Go.Vx Go.Vx.B Go.Proofs
noncomputable section
abbrev z00_a : Ty := .pair t127 (.pair t129 .unit)
abbrev z00_r : Ty := .pair t4 .unit
def z00_g : G := { T := T, E := [z0d_e, zj_e, z0e_e, z0Q_e, z0x_e, z0q_e, z0Y_e, z10_e, zu_e, zk_e, zX_e, z0f_e, zi_e, z0s_e, z0V_e, z0u_e, z0P_e, z09_e, zY_e], muts := [], fz := [] }
def z00_k : List (List Nat) := []
def z00_an (n : Nat) : Ann := { keep := z00_k, fuel := n, inl := [], deep := 0 }
def z00_m_j48 (n : Nat) (v11 : List Int × Int × Unit) (v15 : Bool × Int × Unit) (v19 : List Fai × Int × Unit) (j28 : Int) (j29 : List Int) (j31 : Int) (j32 : Bool) (j34 : Int) (j35 : List Fai) : Option (Bool × Unit) :=
  (Option.bind (z0P_M v11.1 v11.2.1 j28 j29) fun (v36 : Bool × Unit) => (bif v36.1 then (bif v15.1 == j32 then (bif v15.2.1 == j31 then (Option.bind (z09_M v19.1) fun (v37 : List Fai × Unit) => (Option.bind (zY_M v37.1 j35) fun (v38 : Bool × Unit) => (bif v38.1 then some (v19.2.1 == j34, ()) else some (Bool.false, ())))) else some (Bool.false, ())) else some (Bool.false, ())) else some (Bool.false, ())))
def z00_m_j49 (n : Nat) (d : Cha × List (List UInt8 × Int × Unit) × Goa × Unit) (v11 : List Int × Int × Unit) (v15 : Bool × Int × Unit) (v19 : List Fai × Int × Unit) (v24 : Int × Unit) (j28 : Int) (j29 : List Int) (j31 : Int) (j32 : Bool) : Option (Bool × Unit) :=
  (bif v24.1 == (0 : Int) then (Option.bind (z0u_M d.1 d.2.1 d.2.2.1) fun (v33 : List Fai × Int × Unit) => (z00_m_j48 n v11 v15 v19 j28 j29 j31 j32 (v33.2.1) (v33.1))) else (z00_m_j48 n v11 v15 v19 j28 j29 j31 j32 (v24.1) ([])))
def z00_m_j50 (n : Nat) (d : Cha × List (List UInt8 × Int × Unit) × Goa × Unit) (f : Fai) (v11 : List Int × Int × Unit) (v15 : Bool × Int × Unit) (v19 : List Fai × Int × Unit) (v24 : Int × Unit) (v26 : Int × Unit) (j28 : Int) (j29 : List Int) : Option (Bool × Unit) :=
  (bif v26.1 == (0 : Int) then (Option.bind (z0V_M d.1 d.2.1 d.2.2.1 f) fun (v30 : Bool × Int × Unit) => (z00_m_j49 n d v11 v15 v19 v24 j28 j29 (v30.2.1) (v30.1))) else (z00_m_j49 n d v11 v15 v19 v24 j28 j29 (v26.1) (Bool.false)))
def z00_m (n : Nat) (d : Cha × List (List UInt8 × Int × Unit) × Goa × Unit) (f : Fai) : Option (Bool × Unit) :=
  (Option.bind (z0d_M) fun (v0 : Bool × Unit) => (bif !v0.1 then (Option.bind (z0d_M) fun (v6 : Bool × Unit) => some (v6.1, ())) else (Option.bind (zj_M d) fun (v1 : Bool × Unit) => (bif !v1.1 then (Option.bind (z0d_M) fun (v7 : Bool × Unit) => some (v7.1, ())) else (bif decide ((↑f.1.length : Int) > (40 : Int)) then (Option.bind (z0d_M) fun (v8 : Bool × Unit) => some (v8.1, ())) else (Option.bind (z0e_M d.1) fun (v9 : Cha × Unit) => (Option.bind (z0Q_M d.2.1) fun (v10 : List (List UInt8 × Int × Unit) × Unit) => (Option.bind (z0x_M v9.1 v10.1 f) fun (v11 : List Int × Int × Unit) => (Option.bind (z0e_M d.1) fun (v12 : Cha × Unit) => (Option.bind (z0Q_M d.2.1) fun (v13 : List (List UInt8 × Int × Unit) × Unit) => (Option.bind (z0q_M d.2.2.1) fun (v14 : Goa × Unit) => (Option.bind (z0Y_M v12.1 v13.1 v14.1 f) fun (v15 : Bool × Int × Unit) => (Option.bind (z0e_M d.1) fun (v16 : Cha × Unit) => (Option.bind (z0Q_M d.2.1) fun (v17 : List (List UInt8 × Int × Unit) × Unit) => (Option.bind (z0q_M d.2.2.1) fun (v18 : Goa × Unit) => (Option.bind (z10_M v16.1 v17.1 v18.1) fun (v19 : List Fai × Int × Unit) => (Option.bind (zu_M d.1) fun (v20 : Int × Unit) => (Option.bind (zk_M d.2.1) fun (v21 : Int × Unit) => (Option.bind (zX_M (↑d.2.1.length : Int) f) fun (v22 : Int × Unit) => (Option.bind (z0f_M [v20.1, v21.1, v22.1]) fun (v23 : Int × Unit) => (Option.bind (zi_M d) fun (v24 : Int × Unit) => (Option.bind (zX_M (↑d.2.1.length : Int) f) fun (v25 : Int × Unit) => (Option.bind (z0f_M [v24.1, v25.1]) fun (v26 : Int × Unit) => (bif v23.1 == (0 : Int) then (Option.bind (z0s_M d.1 d.2.1 f) fun (v27 : List Int × Int × Unit) => (z00_m_j50 n d f v11 v15 v19 v24 v26 (v27.2.1) (v27.1))) else (z00_m_j50 n d f v11 v15 v19 v24 v26 (v23.1) ([]))))))))))))))))))))))))))
theorem z00_eq (n : Nat) (x : z00_a.den) : runF z00_g (z00_an n) Tryz.f12 z00_a z00_r x = z00_m n x.1 x.2.1 := by kernel_rfl
def z00_M (d : Cha × List (List UInt8 × Int × Unit) × Goa × Unit) (f : Fai) : Option (Bool × Unit) := z00_m 0 d f
theorem z00_run (d : Cha × List (List UInt8 × Int × Unit) × Goa × Unit) (f : Fai) (y : Bool × Unit) (h : z00_M d f = some y) : ∃ n, z00_m n d f = some y := ⟨0, h⟩
def z00_e : Entry := { f := 12, args := z00_a, ress := z00_r, m := fun x => z00_M x.1 x.2.1 }
theorem z00_ok : FnOK Tryz.prog z00_e := fn_ok (g := z00_g) (fn := Tryz.f12) hmixed tabOk (eCons z0d_ok (eCons zj_ok (eCons z0e_ok (eCons z0Q_ok (eCons z0x_ok (eCons z0q_ok (eCons z0Y_ok (eCons z10_ok (eCons zu_ok (eCons zk_ok (eCons zX_ok (eCons z0f_ok (eCons zi_ok (eCons z0s_ok (eCons z0V_ok (eCons z0u_ok (eCons z0P_ok (eCons z09_ok (eCons zY_ok eNil))))))))))))))))))) (by kernel_rfl) (by kernel_rfl) (by kernel_rfl) (fun x y h => let ⟨n, hn⟩ := z00_run x.1 x.2.1 y h; ⟨z00_an n, iNil, (z00_eq n x).trans hn⟩)
end
end Go.Tw
