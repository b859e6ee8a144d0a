/- Models of the program's functions, by program (gen.py), and what they compute. -/
import Derived.Test.YtkfigfhjbejikaaGreatDoorBT
import Derived.Test.YtkfigfhjbejikaaGreatDoorBA
import Derived.Test.YtkfigfhjbejikaaGreatDoorBC
import Derived.Test.YtkfigfhjbejikaaGreatDoorBD
import Derived.Test.YtkfigfhjbejikaaGreatDoorBE
import Derived.Test.YtkfigfhjbejikaaGreatDoorBS

set_option linter.all false
set_option maxRecDepth 1000000
namespace Go.Tw
open Go.Vx Go.Vx.B Go.Proofs
/-! ### tidewayref04.First -/
abbrev ref04_First_a : Ty := .pair t25 (.pair t26 (.pair t33 .unit))
abbrev ref04_First_r : Ty := .pair t3 (.pair t3 (.pair t3 .unit))
noncomputable def ref04_First_g : G := { T := T, E := [ref04_Run_e, ref04_Above_e], muts := [], fz := [] }
def ref04_First_k : List (List Nat) := [[3, 9, 11]]
noncomputable def ref04_First_an (n : Nat) : Ann := { keep := ref04_First_k, fuel := n, inl := [], deep := 0 }
noncomputable def ref04_First_m_l1 (n : Nat) (r1 : Bas → List (List Int) → Int → Option (Int × Int × Int × Unit)) (b3_1 : Bas) (run9_1 : List (List Int)) (i11_1 : Int) : Option (Int × Int × Int × Unit) :=
  (bif Decidable.decide (i11_1 < (↑run9_1.length : Int)) then (Option.bind (Go.Vx.idx run9_1 i11_1) fun (v2 : List Int) => (Option.bind (Go.Tw.ref04_Above_M b3_1 v2) fun (v3 : List Int × Unit) => (bif Decidable.decide ((↑v3.fst.length : Int) > (0 : Int)) then (Option.bind (Go.Vx.idx v3.fst (0 : Int)) fun (v4 : Int) => Option.some (i11_1, v4, (0 : Int), ())) else r1 b3_1 run9_1 (Go.IntKind.i64.wrap (i11_1 + (1 : Int)))))) else Option.some ((0 : Int), (0 : Int), (7 : Int), ()))

noncomputable def ref04_First_m_w1 (n : Nat)  (k : Nat) (b3_1 : Bas) (run9_1 : List (List Int)) (i11_1 : Int) : Option (Int × Int × Int × Unit) :=
  iter (fun r y => ref04_First_m_l1 n (fun b3_1 run9_1 i11_1 => r ((b3_1, (run9_1, (i11_1, ()))), ((), ()))) y.1.1 y.1.2.1 y.1.2.2.1) k ((b3_1, (run9_1, (i11_1, ()))), ((), ()))

noncomputable def ref04_First_m (n : Nat) (b : Bas) (v : List Int) (l : List Cnd) : Option (Int × Int × Int × Unit) :=
  (Option.bind (Go.Tw.ref04_Run_M b v l) fun (v0 : List (List Int) × Int × Unit) => (bif v0.snd.fst != (0 : Int) then Option.some ((0 : Int), (0 : Int), v0.snd.fst, ()) else (ref04_First_m_w1 n n (b) (v0.fst) ((0 : Int)))))

theorem ref04_First_eq (n : Nat) (x : ref04_First_a.den) : runF ref04_First_g (ref04_First_an n) Tryz.f51 ref04_First_a ref04_First_r x = ref04_First_m n x.1 x.2.1 x.2.2.1 := by kernel_rfl

noncomputable def ref04_First_b1 (b3_1 : Bas) (run9_1 : List (List Int)) (i11_1 : Int) (v2 : List Int) : Option ((Int × Int × Int × Unit) ⊕ Unit) :=
  (Option.bind (Go.Tw.ref04_Above_M b3_1 v2) fun (v3 : List Int × Unit) => (bif Decidable.decide ((↑v3.fst.length : Int) > (0 : Int)) then (Option.bind (Go.Vx.idx v3.fst (0 : Int)) fun (v4 : Int) => (some (Sum.inl ((i11_1, v4, (0 : Int), ()))))) else (some (Sum.inr ()))))

noncomputable def ref04_First_f1 (b3_1 : Bas) (run9_1 : List (List Int)) : Option (Int × Int × Int × Unit) :=
  (some (((0 : Int), (0 : Int), (7 : Int), ())))

theorem ref04_First_m_w1_le (n : Nat) (hn : big ≤ n)  (b3_1 : Bas) (run9_1 : List (List Int)) (hx : List.length (run9_1) < lenMax) : LeF some (loopL (fun i__ e__ s__ => ref04_First_b1 b3_1 run9_1 i__ e__) (fun s__ => ref04_First_f1 b3_1 run9_1) 0 (run9_1) ()) (ref04_First_m_w1 n n b3_1 run9_1 0) := by
  refine loopL_le (f := some) (W := fun k__ i__ s__ => ref04_First_m_w1 n k__ b3_1 run9_1 i__) (body := (fun i__ e__ s__ => ref04_First_b1 b3_1 run9_1 i__ e__)) (fin := (fun s__ => ref04_First_f1 b3_1 run9_1)) (fun k__ i__ s__ => ?_) hx () n (by unfold big at hn; unfold lenMax at hx; omega)
  show LeF _ _ (ref04_First_m_l1 n (ref04_First_m_w1 n k__) b3_1 run9_1 i__)
  exact leCond (leBind fun v2 => (leBind fun v3 => (leCond (leBind fun v4 => (leSome rfl)) (leSome rfl)))) (leMap (leSome rfl))

noncomputable def ref04_First_M (b : Bas) (v : List Int) (l : List Cnd) : Option (Int × Int × Int × Unit) :=
  (Option.bind (Go.Tw.ref04_Run_M b v l) fun (v0 : List (List Int) × Int × Unit) => (bif v0.snd.fst != (0 : Int) then (some (((0 : Int), (0 : Int), v0.snd.fst, ()))) else (bif decide (List.length (v0.fst) < lenMax) then loopL (fun i__ e__ s__ => ref04_First_b1 (b) (v0.fst) i__ e__) (fun s__ => ref04_First_f1 (b) (v0.fst)) 0 (v0.fst) () else none)))

theorem ref04_First_run (b : Bas) (v : List Int) (l : List Cnd) (y : Int × Int × Int × Unit) (h : ref04_First_M b v l = some y) : ∃ n, ref04_First_m n b v l = some y :=
  ⟨big, LeF.top (show LeF some (ref04_First_M b v l) (ref04_First_m big b v l) from (fun (n : Nat) (hn : big ≤ n) => show LeF some (ref04_First_M b v l) (ref04_First_m n b v l) from (leBind fun v0 => (leCond (leSome rfl) (leGuard fun hx => by apply ref04_First_m_w1_le n hn; exact hx)))) big (Nat.le_refl _)) h⟩
noncomputable def ref04_First_e : Entry := { f := 51, args := ref04_First_a, ress := ref04_First_r, m := fun x => ref04_First_M x.1 x.2.1 x.2.2.1 }
theorem ref04_First_ok : FnOK Tryz.prog ref04_First_e := fn_ok (g := ref04_First_g) (fn := Tryz.f51) hmixed tabOk (eCons ref04_Run_ok (eCons ref04_Above_ok eNil)) (by kernel_rfl) (by kernel_rfl) (by kernel_rfl) (fun x y h => let ⟨n, hn⟩ := ref04_First_run x.1 x.2.1 x.2.2.1 y h; ⟨ref04_First_an n, iNil, (ref04_First_eq n x).trans hn⟩)

/-! ### tidewaylaw04.BasinSteps -/
/-! ### tidewaylaw04.BasinMonotone -/
end Go.Tw
