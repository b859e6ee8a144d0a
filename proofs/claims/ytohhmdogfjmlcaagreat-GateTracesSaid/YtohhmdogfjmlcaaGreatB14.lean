/- Models of the program's functions, by program (gen.py), and what they compute. -/
import Derived.Test.YtohhmdogfjmlcaaGreatBT
import Derived.Test.YtohhmdogfjmlcaaGreatB0
import Derived.Test.YtohhmdogfjmlcaaGreatBS
import Derived.Test.YtohhmdogfjmlcaaGreatLP
import Derived.Test.YtohhmdogfjmlcaaGreatBA
import Derived.Test.YtohhmdogfjmlcaaGreatBB
import Derived.Test.YtohhmdogfjmlcaaGreatBC
import Derived.Test.YtohhmdogfjmlcaaGreatB13
set_option linter.all false
set_option maxRecDepth 1000000
namespace Go.Tw
open Go.Vx Go.Vx.B Go.Proofs
noncomputable section
abbrev zo_a : Ty := .pair t25 (.pair t28 (.pair t50 .unit))
abbrev zo_r : Ty := .pair t4 .unit
def zo_g : G := { T := T, E := [z0V_e, z0a_e, zi_e, z0W_e, z0j_e, z0e_e, z0K_e, zy_e, zq_e, zh_e, zg_e, z0X_e, z0b_e, zt_e, z0J_e, zu_e], muts := [], fz := [] }
def zo_k : List (List Nat) := []
def zo_an (n : Nat) : Ann := { keep := zo_k, fuel := n, inl := [], deep := 0 }
def zo_m_j37 (n : Nat) (v15 : List (List UInt8 × Int × Unit) × Int × Unit) (v19 : Int × Unit) (j26 : Int) (j27 : List (List UInt8 × Int × Unit)) (j29 : Int) : Option (Bool × Unit) :=
  (Option.bind (z0J_M v15.1) fun (v30 : List (List UInt8 × Int × Unit) × Unit) => (Option.bind (zu_M v30.1 j27) fun (v31 : Bool × Unit) => (bif v31.1 then (bif v15.2.1 == j26 then some (v19.1 == j29, ()) else some (Bool.false, ())) else some (Bool.false, ()))))
def zo_m_j38 (n : Nat) (c : Cha) (states : List Int) (l : List (List UInt8 × Int × Unit)) (v15 : List (List UInt8 × Int × Unit) × Int × Unit) (v19 : Int × Unit) (v24 : Int × Unit) (j26 : Int) (j27 : List (List UInt8 × Int × Unit)) : Option (Bool × Unit) :=
  (bif v24.1 == (0 : Int) then (Option.bind (zt_M c states l) fun (v28 : Int × Unit) => (zo_m_j37 n v15 v19 j26 j27 (v28.1))) else (zo_m_j37 n v15 v19 j26 j27 (v24.1)))
def zo_m_j39 (n : Nat) (c : Cha) (states : List Int) (l : List (List UInt8 × Int × Unit)) (v15 : List (List UInt8 × Int × Unit) × Int × Unit) (v19 : Int × Unit) (j22 : Int) : Option (Bool × Unit) :=
  (Option.bind (zg_M l) fun (v23 : Int × Unit) => (Option.bind (z0X_M [j22, v23.1]) fun (v24 : Int × Unit) => (bif j22 == (0 : Int) then (Option.bind (z0b_M c states) fun (v25 : List (List UInt8 × Int × Unit) × Int × Unit) => (zo_m_j38 n c states l v15 v19 v24 (v25.2.1) (v25.1))) else (zo_m_j38 n c states l v15 v19 v24 (j22) ([])))))
def zo_m (n : Nat) (c : Cha) (states : List Int) (l : List (List UInt8 × Int × Unit)) : Option (Bool × Unit) :=
  (Option.bind (z0V_M) fun (v0 : Bool × Unit) => (bif !v0.1 then (Option.bind (z0V_M) fun (v9 : Bool × Unit) => some (v9.1, ())) else (Option.bind (z0a_M c) fun (v1 : Bool × Unit) => (bif !v1.1 then (Option.bind (z0V_M) fun (v10 : Bool × Unit) => some (v10.1, ())) else (Option.bind (zi_M l) fun (v2 : Bool × Unit) => (bif !v2.1 then (Option.bind (z0V_M) fun (v11 : Bool × Unit) => some (v11.1, ())) else (bif decide ((↑states.length : Int) > (17 : Int)) then (Option.bind (z0V_M) fun (v12 : Bool × Unit) => some (v12.1, ())) else (Option.bind (z0W_M c) fun (v13 : Cha × Unit) => (Option.bind (z0j_M states) fun (v14 : List Int × Unit) => (Option.bind (z0e_M v13.1 v14.1) fun (v15 : List (List UInt8 × Int × Unit) × Int × Unit) => (Option.bind (z0W_M c) fun (v16 : Cha × Unit) => (Option.bind (z0j_M states) fun (v17 : List Int × Unit) => (Option.bind (z0K_M l) fun (v18 : List (List UInt8 × Int × Unit) × Unit) => (Option.bind (zy_M v16.1 v17.1 v18.1) fun (v19 : Int × Unit) => (Option.bind (zq_M c) fun (v20 : Int × Unit) => (bif v20.1 == (0 : Int) then (Option.bind (zh_M c states) fun (v21 : Int × Unit) => (zo_m_j39 n c states l v15 v19 (v21.1))) else (zo_m_j39 n c states l v15 v19 (v20.1))))))))))))))))))
theorem zo_eq (n : Nat) (x : zo_a.den) : runF zo_g (zo_an n) Tryz.f10 zo_a zo_r x = zo_m n x.1 x.2.1 x.2.2.1 := by kernel_rfl
def zo_M (c : Cha) (states : List Int) (l : List (List UInt8 × Int × Unit)) : Option (Bool × Unit) := zo_m 0 c states l
theorem zo_run (c : Cha) (states : List Int) (l : List (List UInt8 × Int × Unit)) (y : Bool × Unit) (h : zo_M c states l = some y) : ∃ n, zo_m n c states l = some y := ⟨0, h⟩
def zo_e : Entry := { f := 10, args := zo_a, ress := zo_r, m := fun x => zo_M x.1 x.2.1 x.2.2.1 }
theorem zo_ok : FnOK Tryz.prog zo_e := fn_ok (g := zo_g) (fn := Tryz.f10) hmixed tabOk (eCons z0V_ok (eCons z0a_ok (eCons zi_ok (eCons z0W_ok (eCons z0j_ok (eCons z0e_ok (eCons z0K_ok (eCons zy_ok (eCons zq_ok (eCons zh_ok (eCons zg_ok (eCons z0X_ok (eCons z0b_ok (eCons zt_ok (eCons z0J_ok (eCons zu_ok eNil)))))))))))))))) (by kernel_rfl) (by kernel_rfl) (by kernel_rfl) (fun x y h => let ⟨n, hn⟩ := zo_run x.1 x.2.1 x.2.2.1 y h; ⟨zo_an n, iNil, (zo_eq n x).trans hn⟩)
end
end Go.Tw
