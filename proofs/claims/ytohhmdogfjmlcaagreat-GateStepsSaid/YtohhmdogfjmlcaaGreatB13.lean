/- Models of the program's functions, by program (gen.py), and what they compute. -/
import Derived.Test.YtohhmdogfjmlcaaGreatBT
import Derived.Test.YtohhmdogfjmlcaaGreatB0
import Derived.Test.YtohhmdogfjmlcaaGreatBS
import Derived.Test.YtohhmdogfjmlcaaGreatLP
import Derived.Test.YtohhmdogfjmlcaaGreatBA
import Derived.Test.YtohhmdogfjmlcaaGreatBB
import Derived.Test.YtohhmdogfjmlcaaGreatBC
set_option linter.all false
set_option maxRecDepth 1000000
namespace Go.Tw
open Go.Vx Go.Vx.B Go.Proofs
noncomputable section
abbrev zv_a : Ty := .pair t25 (.pair t3 (.pair t50 .unit))
abbrev zv_r : Ty := .pair t4 .unit
def zv_g : G := { T := T, E := [z0U_e, z0Z_e, zh_e, z0V_e, z0l_e, z0K_e, z0q_e, zo_e, zg_e, z0W_e, zy_e, zp_e, z0i_e, z0p_e, z0J_e, z0I_e], muts := [], fz := [] }
def zv_k : List (List Nat) := []
def zv_an (n : Nat) : Ann := { keep := zv_k, fuel := n, inl := [], deep := 0 }
def zv_m_j39 (n : Nat) (c : Cha) (l : List (List UInt8 × Int × Unit)) (v14 : Int × Int × Unit) (v17 : List Int × Int × Unit) (v20 : Int × Unit) (j26 : Int) (j27 : Int) : Option (Bool × Unit) :=
  (bif v20.1 == (0 : Int) then (Option.bind (z0p_M c l) fun (v28 : List Int × Int × Unit) => (bif (z0J v14.1 v14.2.1 j26 j27).1 then (Option.bind (z0I_M v17.1 v17.2.1 v28.2.1 v28.1) fun (v31 : Bool × Unit) => some (v31.1, ())) else some (Bool.false, ()))) else (bif (z0J v14.1 v14.2.1 j26 j27).1 then (Option.bind (z0I_M v17.1 v17.2.1 v20.1 []) fun (v35 : Bool × Unit) => some (v35.1, ())) else some (Bool.false, ())))
def zv_m_j40 (n : Nat) (c : Cha) (leaf : Int) (l : List (List UInt8 × Int × Unit)) (j11 : List UInt8) (j12 : Int) (v14 : Int × Int × Unit) (v17 : List Int × Int × Unit) (v20 : Int × Unit) (j24 : Int) : Option (Bool × Unit) :=
  (bif j24 == (0 : Int) then (Option.bind (z0i_M c leaf (j11, j12, ())) fun (v25 : Int × Int × Unit) => (zv_m_j39 n c l v14 v17 v20 (v25.2.1) (v25.1))) else (zv_m_j39 n c l v14 v17 v20 (j24) ((0 : Int))))
def zv_m_j41 (n : Nat) (c : Cha) (leaf : Int) (l : List (List UInt8 × Int × Unit)) (j11 : List UInt8) (j12 : Int) : Option (Bool × Unit) :=
  (Option.bind (z0V_M c) fun (v13 : Cha × Unit) => (Option.bind (z0l_M v13.1 leaf (j11, j12, ())) fun (v14 : Int × Int × Unit) => (Option.bind (z0V_M c) fun (v15 : Cha × Unit) => (Option.bind (z0K_M l) fun (v16 : List (List UInt8 × Int × Unit) × Unit) => (Option.bind (z0q_M v15.1 v16.1) fun (v17 : List Int × Int × Unit) => (Option.bind (zo_M c) fun (v18 : Int × Unit) => (Option.bind (zg_M l) fun (v19 : Int × Unit) => (Option.bind (z0W_M [v18.1, v19.1]) fun (v20 : Int × Unit) => (bif v18.1 == (0 : Int) then (Option.bind (zy_M c leaf) fun (v21 : Int × Unit) => (Option.bind (zp_M (j11, j12, ())) fun (v22 : Int × Unit) => (Option.bind (z0W_M [v21.1, v22.1]) fun (v23 : Int × Unit) => (zv_m_j40 n c leaf l j11 j12 v14 v17 v20 (v23.1))))) else (zv_m_j40 n c leaf l j11 j12 v14 v17 v20 (v18.1)))))))))))
def zv_m (n : Nat) (c : Cha) (leaf : Int) (l : List (List UInt8 × Int × Unit)) : Option (Bool × Unit) :=
  (Option.bind (z0U_M) fun (v0 : Bool × Unit) => (bif !v0.1 then (Option.bind (z0U_M) fun (v7 : Bool × Unit) => some (v7.1, ())) else (Option.bind (z0Z_M c) fun (v1 : Bool × Unit) => (bif !v1.1 then (Option.bind (z0U_M) fun (v8 : Bool × Unit) => some (v8.1, ())) else (Option.bind (zh_M l) fun (v2 : Bool × Unit) => (bif !v2.1 then (Option.bind (z0U_M) fun (v9 : Bool × Unit) => some (v9.1, ())) else (bif decide ((↑l.length : Int) > (0 : Int)) then (Option.bind (idx l (0 : Int)) fun (v10 : List UInt8 × Int × Unit) => (zv_m_j41 n c leaf l (v10.1) (v10.2.1))) else (zv_m_j41 n c leaf l ([]) ((0 : Int))))))))))
theorem zv_eq (n : Nat) (x : zv_a.den) : runF zv_g (zv_an n) Tryz.f4 zv_a zv_r x = zv_m n x.1 x.2.1 x.2.2.1 := by kernel_rfl
def zv_M (c : Cha) (leaf : Int) (l : List (List UInt8 × Int × Unit)) : Option (Bool × Unit) := zv_m 0 c leaf l
theorem zv_run (c : Cha) (leaf : Int) (l : List (List UInt8 × Int × Unit)) (y : Bool × Unit) (h : zv_M c leaf l = some y) : ∃ n, zv_m n c leaf l = some y := ⟨0, h⟩
def zv_e : Entry := { f := 4, args := zv_a, ress := zv_r, m := fun x => zv_M x.1 x.2.1 x.2.2.1 }
theorem zv_ok : FnOK Tryz.prog zv_e := fn_ok (g := zv_g) (fn := Tryz.f4) hmixed tabOk (eCons z0U_ok (eCons z0Z_ok (eCons zh_ok (eCons z0V_ok (eCons z0l_ok (eCons z0K_ok (eCons z0q_ok (eCons zo_ok (eCons zg_ok (eCons z0W_ok (eCons zy_ok (eCons zp_ok (eCons z0i_ok (eCons z0p_ok (eCons z0J_ok (eCons z0I_ok eNil)))))))))))))))) (by kernel_rfl) (by kernel_rfl) (by kernel_rfl) (fun x y h => let ⟨n, hn⟩ := zv_run x.1 x.2.1 x.2.2.1 y h; ⟨zv_an n, iNil, (zv_eq n x).trans hn⟩)
end
end Go.Tw
