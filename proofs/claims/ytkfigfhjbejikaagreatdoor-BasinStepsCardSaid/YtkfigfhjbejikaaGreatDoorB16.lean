/- Models of the program's functions, by program (gen.py), and what they compute. -/
import Derived.Test.YtkfigfhjbejikaaGreatDoorBT
import Derived.Test.YtkfigfhjbejikaaGreatDoorBA
import Derived.Test.YtkfigfhjbejikaaGreatDoorBC
import Derived.Test.YtkfigfhjbejikaaGreatDoorBD
import Derived.Test.YtkfigfhjbejikaaGreatDoorB12
import Derived.Test.YtkfigfhjbejikaaGreatDoorB13
import Derived.Test.YtkfigfhjbejikaaGreatDoorB14
import Derived.Test.YtkfigfhjbejikaaGreatDoorB15
import Derived.Test.YtkfigfhjbejikaaGreatDoorBS

set_option linter.all false
set_option maxRecDepth 1000000
namespace Go.Tw
open Go.Vx Go.Vx.B Go.Proofs
/-! ### tidewayref04.First -/
abbrev ref04_First_a : Ty := .pair t25 (.pair t26 (.pair t33 .unit))
abbrev ref04_First_r : Ty := .pair t3 (.pair t3 (.pair t3 .unit))
noncomputable def ref04_First_g : G := { T := T, E := [ref04_Run_e, ref04_Above_e], muts := [], fz := [] }
def ref04_First_k : List (List Nat) := [[3, 9, 11]]
noncomputable def ref04_First_an (n : Nat) : Ann := { keep := ref04_First_k, fuel := n, inl := [], deep := 0 }
noncomputable def ref04_First_m_l1 (n : Nat) (r1 : Bas → List (List Int) → Int → Option (Int × Int × Int × Unit)) (b3_1 : Bas) (run9_1 : List (List Int)) (i11_1 : Int) : Option (Int × Int × Int × Unit) :=
  (bif Decidable.decide (i11_1 < (↑run9_1.length : Int)) then (Option.bind (Go.Vx.idx run9_1 i11_1) fun (v2 : List Int) => (Option.bind (Go.Tw.ref04_Above_M b3_1 v2) fun (v3 : List Int × Unit) => (bif Decidable.decide ((↑v3.fst.length : Int) > (0 : Int)) then (Option.bind (Go.Vx.idx v3.fst (0 : Int)) fun (v4 : Int) => Option.some (i11_1, v4, (0 : Int), ())) else r1 b3_1 run9_1 (Go.IntKind.i64.wrap (i11_1 + (1 : Int)))))) else Option.some ((0 : Int), (0 : Int), (7 : Int), ()))

noncomputable def ref04_First_m_w1 (n : Nat)  (k : Nat) (b3_1 : Bas) (run9_1 : List (List Int)) (i11_1 : Int) : Option (Int × Int × Int × Unit) :=
  iter (fun r y => ref04_First_m_l1 n (fun b3_1 run9_1 i11_1 => r ((b3_1, (run9_1, (i11_1, ()))), ((), ()))) y.1.1 y.1.2.1 y.1.2.2.1) k ((b3_1, (run9_1, (i11_1, ()))), ((), ()))

noncomputable def ref04_First_m (n : Nat) (b : Bas) (v : List Int) (l : List Cnd) : Option (Int × Int × Int × Unit) :=
  (Option.bind (Go.Tw.ref04_Run_M b v l) fun (v0 : List (List Int) × Int × Unit) => (bif v0.snd.fst != (0 : Int) then Option.some ((0 : Int), (0 : Int), v0.snd.fst, ()) else (ref04_First_m_w1 n n (b) (v0.fst) ((0 : Int)))))

theorem ref04_First_eq (n : Nat) (x : ref04_First_a.den) : runF ref04_First_g (ref04_First_an n) Tryz.f51 ref04_First_a ref04_First_r x = ref04_First_m n x.1 x.2.1 x.2.2.1 := by kernel_rfl

noncomputable def ref04_First_b1 (b3_1 : Bas) (run9_1 : List (List Int)) (i11_1 : Int) (v2 : List Int) : Option ((Int × Int × Int × Unit) ⊕ Unit) :=
  (Option.bind (Go.Tw.ref04_Above_M b3_1 v2) fun (v3 : List Int × Unit) => (bif Decidable.decide ((↑v3.fst.length : Int) > (0 : Int)) then (Option.bind (Go.Vx.idx v3.fst (0 : Int)) fun (v4 : Int) => (some (Sum.inl ((i11_1, v4, (0 : Int), ()))))) else (some (Sum.inr ()))))

noncomputable def ref04_First_f1 (b3_1 : Bas) (run9_1 : List (List Int)) : Option (Int × Int × Int × Unit) :=
  (some (((0 : Int), (0 : Int), (7 : Int), ())))

theorem ref04_First_m_w1_le (n : Nat) (hn : big ≤ n)  (b3_1 : Bas) (run9_1 : List (List Int)) (hx : List.length (run9_1) < lenMax) : LeF some (loopL (fun i__ e__ s__ => ref04_First_b1 b3_1 run9_1 i__ e__) (fun s__ => ref04_First_f1 b3_1 run9_1) 0 (run9_1) ()) (ref04_First_m_w1 n n b3_1 run9_1 0) := by
  refine loopL_le (f := some) (W := fun k__ i__ s__ => ref04_First_m_w1 n k__ b3_1 run9_1 i__) (body := (fun i__ e__ s__ => ref04_First_b1 b3_1 run9_1 i__ e__)) (fin := (fun s__ => ref04_First_f1 b3_1 run9_1)) (fun k__ i__ s__ => ?_) hx () n (by unfold big at hn; unfold lenMax at hx; omega)
  show LeF _ _ (ref04_First_m_l1 n (ref04_First_m_w1 n k__) b3_1 run9_1 i__)
  exact leCond (leBind fun v2 => (leBind fun v3 => (leCond (leBind fun v4 => (leSome rfl)) (leSome rfl)))) (leMap (leSome rfl))

noncomputable def ref04_First_M (b : Bas) (v : List Int) (l : List Cnd) : Option (Int × Int × Int × Unit) :=
  (Option.bind (Go.Tw.ref04_Run_M b v l) fun (v0 : List (List Int) × Int × Unit) => (bif v0.snd.fst != (0 : Int) then (some (((0 : Int), (0 : Int), v0.snd.fst, ()))) else (bif decide (List.length (v0.fst) < lenMax) then loopL (fun i__ e__ s__ => ref04_First_b1 (b) (v0.fst) i__ e__) (fun s__ => ref04_First_f1 (b) (v0.fst)) 0 (v0.fst) () else none)))

theorem ref04_First_run (b : Bas) (v : List Int) (l : List Cnd) (y : Int × Int × Int × Unit) (h : ref04_First_M b v l = some y) : ∃ n, ref04_First_m n b v l = some y :=
  ⟨big, LeF.top (show LeF some (ref04_First_M b v l) (ref04_First_m big b v l) from (fun (n : Nat) (hn : big ≤ n) => show LeF some (ref04_First_M b v l) (ref04_First_m n b v l) from (leBind fun v0 => (leCond (leSome rfl) (leGuard fun hx => by apply ref04_First_m_w1_le n hn; exact hx)))) big (Nat.le_refl _)) h⟩
noncomputable def ref04_First_e : Entry := { f := 51, args := ref04_First_a, ress := ref04_First_r, m := fun x => ref04_First_M x.1 x.2.1 x.2.2.1 }
theorem ref04_First_ok : FnOK Tryz.prog ref04_First_e := fn_ok (g := ref04_First_g) (fn := Tryz.f51) hmixed tabOk (eCons ref04_Run_ok (eCons ref04_Above_ok eNil)) (by kernel_rfl) (by kernel_rfl) (by kernel_rfl) (fun x y h => let ⟨n, hn⟩ := ref04_First_run x.1 x.2.1 x.2.2.1 y h; ⟨ref04_First_an n, iNil, (ref04_First_eq n x).trans hn⟩)

/-! ### tidewaylaw04.BasinSteps -/
abbrev law04_BasinSteps_a : Ty := .pair t25 (.pair t26 (.pair t28 .unit))
abbrev law04_BasinSteps_r : Ty := .pair t4 .unit
noncomputable def law04_BasinSteps_g : G := { T := T, E := [ref04_Short_e, ref04_ShortConditions_e, law04_awake_e, law04_given_e, law04_ints_e, law04_condition_e, basin_Flows_e, basin_Step_e, ref04_CheckRun_e, ref04_Moved_e, ref01_SameInts_e], muts := [], fz := [] }
def law04_BasinSteps_k : List (List Nat) := []
noncomputable def law04_BasinSteps_an (n : Nat) : Ann := { keep := law04_BasinSteps_k, fuel := n, inl := [], deep := 0 }
noncomputable def law04_BasinSteps_m_j34 (n : Nat) (v12 : List Int × Int × Unit) (v16 : List Int × Int × Unit) (j19 : Int) (j20 : List Int) (j21 : List Int) : Option (Bool × Unit) :=
  (Option.bind (Go.Tw.ref01_SameInts_M v12.fst j20) fun (v22 : Bool × Unit) => (bif v22.fst then (bif v12.snd.fst == j19 then (Option.bind (Go.Tw.ref01_SameInts_M v16.fst j21) fun (v23 : Bool × Unit) => (bif v23.fst then (bif v16.snd.fst == j19 then (Option.bind (Go.Tw.law04_awake_M) fun (v24 : Bool × Unit) => Option.some (v24.fst, ())) else Option.some (Bool.false, ())) else Option.some (Bool.false, ()))) else Option.some (Bool.false, ())) else Option.some (Bool.false, ())))

noncomputable def law04_BasinSteps_m (n : Nat) (b : Bas) (v : List Int) (c : Cnd) : Option (Bool × Unit) :=
  (Option.bind (Go.Tw.ref04_Short_M b) fun (v0 : Bool × Unit) => (bif !v0.fst then (Option.bind (Go.Tw.law04_awake_M) fun (v6 : Bool × Unit) => Option.some (v6.fst, ())) else (bif Decidable.decide ((↑v.length : Int) > (9 : Int)) then (Option.bind (Go.Tw.law04_awake_M) fun (v7 : Bool × Unit) => Option.some (v7.fst, ())) else (Option.bind (Go.Tw.ref04_ShortConditions_M [c]) fun (v1 : Bool × Unit) => (bif !v1.fst then (Option.bind (Go.Tw.law04_awake_M) fun (v8 : Bool × Unit) => Option.some (v8.fst, ())) else (Option.bind (Go.Tw.law04_given_M b) fun (v9 : Bas × Unit) => (Option.bind (Go.Tw.law04_ints_M v) fun (v10 : List Int × Unit) => (Option.bind (Go.Tw.law04_condition_M c) fun (v11 : Cnd × Unit) => (Option.bind (Go.Tw.basin_Flows_M v9.fst v10.fst v11.fst) fun (v12 : List Int × Int × Unit) => (Option.bind (Go.Tw.law04_given_M b) fun (v13 : Bas × Unit) => (Option.bind (Go.Tw.law04_ints_M v) fun (v14 : List Int × Unit) => (Option.bind (Go.Tw.law04_condition_M c) fun (v15 : Cnd × Unit) => (Option.bind (Go.Tw.basin_Step_M v13.fst v14.fst v15.fst) fun (v16 : List Int × Int × Unit) => (Option.bind (Go.Tw.ref04_CheckRun_M b v [c]) fun (v17 : Int × Unit) => (bif v17.fst == (0 : Int) then (Option.bind (Go.Tw.ref04_Moved_M b v c) fun (v18 : List Int × List Int × Int × Unit) => (law04_BasinSteps_m_j34 n v12 v16 (v18.snd.snd.fst) (v18.fst) (v18.snd.fst))) else (law04_BasinSteps_m_j34 n v12 v16 (v17.fst) ([]) ([])))))))))))))))))

theorem law04_BasinSteps_eq (n : Nat) (x : law04_BasinSteps_a.den) : runF law04_BasinSteps_g (law04_BasinSteps_an n) Tryz.f6 law04_BasinSteps_a law04_BasinSteps_r x = law04_BasinSteps_m n x.1 x.2.1 x.2.2.1 := by kernel_rfl

noncomputable def law04_BasinSteps_M (b : Bas) (v : List Int) (c : Cnd) : Option (Bool × Unit) := law04_BasinSteps_m 0 b v c

theorem law04_BasinSteps_run (b : Bas) (v : List Int) (c : Cnd) (y : Bool × Unit) (h : law04_BasinSteps_M b v c = some y) : ∃ n, law04_BasinSteps_m n b v c = some y := ⟨0, h⟩
noncomputable def law04_BasinSteps_e : Entry := { f := 6, args := law04_BasinSteps_a, ress := law04_BasinSteps_r, m := fun x => law04_BasinSteps_M x.1 x.2.1 x.2.2.1 }
theorem law04_BasinSteps_ok : FnOK Tryz.prog law04_BasinSteps_e := fn_ok (g := law04_BasinSteps_g) (fn := Tryz.f6) hmixed tabOk (eCons ref04_Short_ok (eCons ref04_ShortConditions_ok (eCons law04_awake_ok (eCons law04_given_ok (eCons law04_ints_ok (eCons law04_condition_ok (eCons basin_Flows_ok (eCons basin_Step_ok (eCons ref04_CheckRun_ok (eCons ref04_Moved_ok (eCons ref01_SameInts_ok eNil))))))))))) (by kernel_rfl) (by kernel_rfl) (by kernel_rfl) (fun x y h => let ⟨n, hn⟩ := law04_BasinSteps_run x.1 x.2.1 x.2.2.1 y h; ⟨law04_BasinSteps_an n, iNil, (law04_BasinSteps_eq n x).trans hn⟩)

/-! ### tidewaylaw04.BasinMonotone -/
abbrev law04_BasinMonotone_a : Ty := .pair t25 (.pair t33 (.pair t51 .unit))
abbrev law04_BasinMonotone_r : Ty := .pair t4 .unit
noncomputable def law04_BasinMonotone_g : G := { T := T, E := [ref04_Short_e, ref04_CheckBasin_e, law04_awake_e, ref04_CheckRun_e, law04_ints_e, law04_conditions_e, law04_given_e, basin_Run_e, ref04_OnlyVolumes_e, law04_condition_e, basin_Until_e], muts := [], fz := [] }
def law04_BasinMonotone_k : List (List Nat) := [[1, 3, 5, 7, 48, 49, 152, 153, 156, 157, 158, 159, 160, 161, 164, 165, 166, 167, 168, 169, 180, 181, 182, 183, 184, 199, 200, 201, 202, 203, 204, 205, 279, 280, 283, 284, 285, 286, 287, 288, 289, 292], [1, 3, 5, 7, 9, 10, 11, 90, 91, 152, 153, 156, 157, 158, 159, 160, 161, 164, 165, 166, 167, 168, 169, 180, 181, 182, 183, 184, 199, 200, 201, 202, 203, 204, 205, 279, 280, 283, 284, 285, 286, 287, 288, 289, 292], [1, 3, 7, 9, 10, 11, 13, 15, 187, 188, 199, 200, 201, 202, 203, 204, 205, 279, 280, 283, 284, 285, 286, 287, 288, 289, 292], [1, 3, 7, 9, 10, 11, 13, 15, 17, 187, 188, 199, 200, 201, 202, 203, 204, 205, 211, 212, 279, 280, 283, 284, 285, 286, 287, 288, 289, 292]]
noncomputable def law04_BasinMonotone_an (n : Nat) : Ann := { keep := law04_BasinMonotone_k, fuel := n, inl := [], deep := 0 }
noncomputable def law04_BasinMonotone_m_l12 (n : Nat) (r12 : List Cnd → Bas → Int × Int × Int × Int × Unit → Int → Int → List Int → Option (Bool × Unit)) (l1_12 : List Cnd) (b3_12 : Bas) (x5_12 : Int × Int × Int × Int × Unit) (t48_12 : Int) (t49_12 : Int) (c0_12 : List Int) : Option (Bool × Unit) :=
  (bif Decidable.decide (t49_12 < t48_12) then (Option.bind (Go.Vx.idx c0_12 t49_12) fun (v13 : Int) => (Option.bind (c0_12[t49_12.toNat]?) fun (v14 : Int) => r12 l1_12 b3_12 x5_12 t48_12 (Go.IntKind.i64.wrap (t49_12 + (1 : Int))) (c0_12.set t49_12.toNat (Go.IntKind.i64.wrap (Go.IntKind.i64.wrap ((7 : Int) * Go.IntKind.i64.wrap (t49_12 + (1 : Int))) * Go.IntKind.i64.wrap x5_12.snd.snd.snd.fst))))) else (Option.bind (Go.Tw.ref04_CheckRun_M b3_12 c0_12 l1_12) fun (v15 : Int × Unit) => (bif v15.fst != (0 : Int) then (Option.bind (Go.Tw.law04_awake_M) fun (v16 : Bool × Unit) => Option.some (v16.fst, ())) else (bif (↑b3_12.fst.length : Int) == (0 : Int) then none else (Option.bind (Go.Tw.law04_ints_M c0_12) fun (v17 : List Int × Unit) => (Option.bind (Go.Vx.idx v17.fst ((Go.IntKind.i64.wrap x5_12.fst).tmod (↑b3_12.fst.length : Int))) fun (v18 : Int) => (Option.bind (Go.Vx.idx v17.fst ((Go.IntKind.i64.wrap x5_12.fst).tmod (↑b3_12.fst.length : Int))) fun (v19 : Int) => none)))))))

noncomputable def law04_BasinMonotone_m_w12 (n : Nat)  (k : Nat) (l1_12 : List Cnd) (b3_12 : Bas) (x5_12 : Int × Int × Int × Int × Unit) (t48_12 : Int) (t49_12 : Int) (c0_12 : List Int) : Option (Bool × Unit) :=
  iter (fun r y => law04_BasinMonotone_m_l12 n (fun l1_12 b3_12 x5_12 t48_12 t49_12 c0_12 => r ((l1_12, (b3_12, (x5_12, (t48_12, (t49_12, ()))))), ((c0_12, ()), ()))) y.1.1 y.1.2.1 y.1.2.2.1 y.1.2.2.2.1 y.1.2.2.2.2.1 y.2.1.1) k ((l1_12, (b3_12, (x5_12, (t48_12, (t49_12, ()))))), ((c0_12, ()), ()))

noncomputable def law04_BasinMonotone_m (n : Nat) (b : Bas) (l : List Cnd) (x1 : Int × Int × Int × Int × Unit) : Option (Bool × Unit) :=
  (Option.bind (Go.Tw.ref04_Short_M b) fun (v0 : Bool × Unit) => (bif !v0.fst then (Option.bind (Go.Tw.law04_awake_M) fun (v8 : Bool × Unit) => Option.some (v8.fst, ())) else (Option.bind (Go.Tw.ref04_CheckBasin_M b) fun (v1 : Int × Unit) => (bif v1.fst != (0 : Int) then (Option.bind (Go.Tw.law04_awake_M) fun (v9 : Bool × Unit) => Option.some (v9.fst, ())) else (bif Decidable.decide ((↑l.length : Int) > (12 : Int)) then (Option.bind (Go.Tw.law04_awake_M) fun (v10 : Bool × Unit) => Option.some (v10.fst, ())) else (bif (↑l.length : Int) == (0 : Int) then (Option.bind (Go.Tw.law04_awake_M) fun (v11 : Bool × Unit) => Option.some (v11.fst, ())) else (bif Bool.true && Decidable.decide ((0 : Int) ≤ (↑b.fst.length : Int)) && Decidable.decide ((↑b.fst.length : Int) ≤ (↑Go.Vx.memMax : Int)) && (↑b.fst.length : Int) == (↑b.fst.length : Int) then (law04_BasinMonotone_m_w12 n n (l) (b) (x1) ((↑(List.replicate (↑b.fst.length : Int).toNat (0 : Int)).length : Int)) ((0 : Int)) (List.replicate (↑b.fst.length : Int).toNat (0 : Int))) else none)))))))

theorem law04_BasinMonotone_eq (n : Nat) (x : law04_BasinMonotone_a.den) : runF law04_BasinMonotone_g (law04_BasinMonotone_an n) Tryz.f4 law04_BasinMonotone_a law04_BasinMonotone_r x = law04_BasinMonotone_m n x.1 x.2.1 x.2.2.1 := by kernel_rfl

noncomputable def law04_BasinMonotone_b12 (l1_12 : List Cnd) (b3_12 : Bas) (x5_12 : Int × Int × Int × Int × Unit) (t48_12 : Int) (t49_12 : Int) (c0_12 : List Int) : Option ((Bool × Unit) ⊕ (List Int)) :=
  (Option.bind (Go.Vx.idx c0_12 t49_12) fun (v13 : Int) => (Option.bind (c0_12[t49_12.toNat]?) fun (v14 : Int) => (some (Sum.inr (c0_12.set t49_12.toNat (Go.IntKind.i64.wrap (Go.IntKind.i64.wrap ((7 : Int) * Go.IntKind.i64.wrap (t49_12 + (1 : Int))) * Go.IntKind.i64.wrap x5_12.snd.snd.snd.fst)))))))

noncomputable def law04_BasinMonotone_f12 (l1_12 : List Cnd) (b3_12 : Bas) (x5_12 : Int × Int × Int × Int × Unit) (t48_12 : Int) (c0_12 : List Int) : Option (Bool × Unit) :=
  (Option.bind (Go.Tw.ref04_CheckRun_M b3_12 c0_12 l1_12) fun (v15 : Int × Unit) => (bif v15.fst != (0 : Int) then (Option.bind (Go.Tw.law04_awake_M) fun (v16 : Bool × Unit) => (some ((v16.fst, ())))) else (bif (↑b3_12.fst.length : Int) == (0 : Int) then none else (Option.bind (Go.Tw.law04_ints_M c0_12) fun (v17 : List Int × Unit) => (Option.bind (Go.Vx.idx v17.fst ((Go.IntKind.i64.wrap x5_12.fst).tmod (↑b3_12.fst.length : Int))) fun (v18 : Int) => (Option.bind (Go.Vx.idx v17.fst ((Go.IntKind.i64.wrap x5_12.fst).tmod (↑b3_12.fst.length : Int))) fun (v19 : Int) => none))))))

theorem law04_BasinMonotone_m_w12_le (n : Nat) (hn : big ≤ n)  (l1_12 : List Cnd) (b3_12 : Bas) (x5_12 : Int × Int × Int × Int × Unit) (t48_12 : Int) (c0_12 : List Int) (hx : (t48_12) ≤ (9223372036854775807 : Int)) : LeF some (loopN (fun i__ s__ => law04_BasinMonotone_b12 l1_12 b3_12 x5_12 t48_12 i__ s__) (fun s__ => law04_BasinMonotone_f12 l1_12 b3_12 x5_12 t48_12 s__) ((t48_12) - 0).toNat 0 c0_12) (law04_BasinMonotone_m_w12 n n l1_12 b3_12 x5_12 t48_12 0 c0_12) := by
  refine loopN_le (f := some) (W := fun k__ i__ s__ => law04_BasinMonotone_m_w12 n k__ l1_12 b3_12 x5_12 t48_12 i__ s__) (body := (fun i__ s__ => law04_BasinMonotone_b12 l1_12 b3_12 x5_12 t48_12 i__ s__)) (fin := (fun s__ => law04_BasinMonotone_f12 l1_12 b3_12 x5_12 t48_12 s__)) (fun k__ i__ s__ => ?_) hx c0_12 n 0 (by decide) (by unfold big at hn; omega)
  show LeF _ _ (law04_BasinMonotone_m_l12 n (law04_BasinMonotone_m_w12 n k__) l1_12 b3_12 x5_12 t48_12 i__ s__)
  exact leCond (leBind fun v13 => (leBind fun v14 => (leSome rfl))) (leMap (leBind fun v15 => (leCond (leBind fun v16 => (leSome rfl)) (leCond leNone (leBind fun v17 => (leBind fun v18 => (leBind fun v19 => leNone)))))))

noncomputable def law04_BasinMonotone_M (b : Bas) (l : List Cnd) (x1 : Int × Int × Int × Int × Unit) : Option (Bool × Unit) :=
  (Option.bind (Go.Tw.ref04_Short_M b) fun (v0 : Bool × Unit) => (bif !v0.fst then (Option.bind (Go.Tw.law04_awake_M) fun (v8 : Bool × Unit) => (some ((v8.fst, ())))) else (Option.bind (Go.Tw.ref04_CheckBasin_M b) fun (v1 : Int × Unit) => (bif v1.fst != (0 : Int) then (Option.bind (Go.Tw.law04_awake_M) fun (v9 : Bool × Unit) => (some ((v9.fst, ())))) else (bif Decidable.decide ((↑l.length : Int) > (12 : Int)) then (Option.bind (Go.Tw.law04_awake_M) fun (v10 : Bool × Unit) => (some ((v10.fst, ())))) else (bif (↑l.length : Int) == (0 : Int) then (Option.bind (Go.Tw.law04_awake_M) fun (v11 : Bool × Unit) => (some ((v11.fst, ())))) else (bif Bool.true && Decidable.decide ((0 : Int) ≤ (↑b.fst.length : Int)) && Decidable.decide ((↑b.fst.length : Int) ≤ (↑Go.Vx.memMax : Int)) && (↑b.fst.length : Int) == (↑b.fst.length : Int) then (bif decide (((↑(List.replicate (↑b.fst.length : Int).toNat (0 : Int)).length : Int)) ≤ (9223372036854775807 : Int)) then loopN (fun i__ s__ => law04_BasinMonotone_b12 (l) (b) (x1) ((↑(List.replicate (↑b.fst.length : Int).toNat (0 : Int)).length : Int)) i__ s__) (fun s__ => law04_BasinMonotone_f12 (l) (b) (x1) ((↑(List.replicate (↑b.fst.length : Int).toNat (0 : Int)).length : Int)) s__) (((↑(List.replicate (↑b.fst.length : Int).toNat (0 : Int)).length : Int)) - 0).toNat 0 (List.replicate (↑b.fst.length : Int).toNat (0 : Int)) else none) else none)))))))

theorem law04_BasinMonotone_run (b : Bas) (l : List Cnd) (x1 : Int × Int × Int × Int × Unit) (y : Bool × Unit) (h : law04_BasinMonotone_M b l x1 = some y) : ∃ n, law04_BasinMonotone_m n b l x1 = some y :=
  ⟨big, LeF.top (show LeF some (law04_BasinMonotone_M b l x1) (law04_BasinMonotone_m big b l x1) from (fun (n : Nat) (hn : big ≤ n) => show LeF some (law04_BasinMonotone_M b l x1) (law04_BasinMonotone_m n b l x1) from (leBind fun v0 => (leCond (leBind fun v8 => (leSome rfl)) (leBind fun v1 => (leCond (leBind fun v9 => (leSome rfl)) (leCond (leBind fun v10 => (leSome rfl)) (leCond (leBind fun v11 => (leSome rfl)) (leCond (leGuard fun hx => by apply law04_BasinMonotone_m_w12_le n hn; exact hx) leNone)))))))) big (Nat.le_refl _)) h⟩
noncomputable def law04_BasinMonotone_e : Entry := { f := 4, args := law04_BasinMonotone_a, ress := law04_BasinMonotone_r, m := fun x => law04_BasinMonotone_M x.1 x.2.1 x.2.2.1 }
theorem law04_BasinMonotone_ok : FnOK Tryz.prog law04_BasinMonotone_e := fn_ok (g := law04_BasinMonotone_g) (fn := Tryz.f4) hmixed tabOk (eCons ref04_Short_ok (eCons ref04_CheckBasin_ok (eCons law04_awake_ok (eCons ref04_CheckRun_ok (eCons law04_ints_ok (eCons law04_conditions_ok (eCons law04_given_ok (eCons basin_Run_ok (eCons ref04_OnlyVolumes_ok (eCons law04_condition_ok (eCons basin_Until_ok eNil))))))))))) (by kernel_rfl) (by kernel_rfl) (by kernel_rfl) (fun x y h => let ⟨n, hn⟩ := law04_BasinMonotone_run x.1 x.2.1 x.2.2.1 y h; ⟨law04_BasinMonotone_an n, iNil, (law04_BasinMonotone_eq n x).trans hn⟩)

end Go.Tw
