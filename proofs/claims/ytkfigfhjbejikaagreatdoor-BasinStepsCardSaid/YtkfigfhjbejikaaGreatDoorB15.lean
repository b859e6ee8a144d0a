/- Models of the program's functions, by program (gen.py), and what they compute. -/
import Derived.Test.YtkfigfhjbejikaaGreatDoorBT
import Derived.Test.YtkfigfhjbejikaaGreatDoorBA
import Derived.Test.YtkfigfhjbejikaaGreatDoorBC
import Derived.Test.YtkfigfhjbejikaaGreatDoorBD
import Derived.Test.YtkfigfhjbejikaaGreatDoorB12
import Derived.Test.YtkfigfhjbejikaaGreatDoorB13
import Derived.Test.YtkfigfhjbejikaaGreatDoorB14

set_option linter.all false
set_option maxRecDepth 1000000
namespace Go.Tw
open Go.Vx Go.Vx.B Go.Proofs
/-! ### tidewaylaw04.conditions -/
abbrev law04_conditions_a : Ty := .pair t33 .unit
abbrev law04_conditions_r : Ty := .pair t54 .unit
noncomputable def law04_conditions_g : G := { T := T, E := [law04_condition_e], muts := [3], fz := [] }
def law04_conditions_k : List (List Nat) := [[3, 6, 7, 8]]
noncomputable def law04_conditions_an (n : Nat) : Ann := { keep := law04_conditions_k, fuel := n, inl := [], deep := 0 }
noncomputable def law04_conditions_m_l0 (n : Nat) (r0 : List Cnd → Int → Int → List Cnd → Option (List Cnd × Unit)) (t6_0 : List Cnd) (t7_0 : Int) (t8_0 : Int) (c0_0 : List Cnd) : Option (List Cnd × Unit) :=
  (bif Decidable.decide (t8_0 < t7_0) then (Option.bind (Go.Vx.idx t6_0 t8_0) fun (v1 : Cnd) => (Option.bind (Go.Tw.law04_condition_M (v1.fst, v1.snd.fst, v1.snd.snd.fst, ())) fun (v2 : Cnd × Unit) => (bif Decidable.decide (c0_0.length + (1 : Nat) ≤ Go.Vx.memMax) then r0 t6_0 t7_0 (Go.IntKind.i64.wrap (t8_0 + (1 : Int))) (c0_0 ++ [v2.fst]) else none))) else Option.some (c0_0, ()))

noncomputable def law04_conditions_m_w0 (n : Nat)  (k : Nat) (t6_0 : List Cnd) (t7_0 : Int) (t8_0 : Int) (c0_0 : List Cnd) : Option (List Cnd × Unit) :=
  iter (fun r y => law04_conditions_m_l0 n (fun t6_0 t7_0 t8_0 c0_0 => r ((t6_0, (t7_0, (t8_0, ()))), ((c0_0, ()), ()))) y.1.1 y.1.2.1 y.1.2.2.1 y.2.1.1) k ((t6_0, (t7_0, (t8_0, ()))), ((c0_0, ()), ()))

noncomputable def law04_conditions_m (n : Nat) (l : List Cnd) : Option (List Cnd × Unit) :=
  (law04_conditions_m_w0 n n (l) ((↑l.length : Int)) ((0 : Int)) ([]))

theorem law04_conditions_eq (n : Nat) (x : law04_conditions_a.den) : runF law04_conditions_g (law04_conditions_an n) Tryz.f26 law04_conditions_a law04_conditions_r x = law04_conditions_m n x.1 := by kernel_rfl

noncomputable def law04_conditions_b0 (t6_0 : List Cnd) (t8_0 : Int) (v1 : Cnd) (c0_0 : List Cnd) : Option ((List Cnd × Unit) ⊕ (List Cnd)) :=
  (Option.bind (Go.Tw.law04_condition_M (v1.fst, v1.snd.fst, v1.snd.snd.fst, ())) fun (v2 : Cnd × Unit) => (bif Decidable.decide (c0_0.length + (1 : Nat) ≤ Go.Vx.memMax) then (some (Sum.inr (c0_0 ++ [v2.fst]))) else none))

noncomputable def law04_conditions_f0 (t6_0 : List Cnd) (c0_0 : List Cnd) : Option (List Cnd × Unit) :=
  (some ((c0_0, ())))

theorem law04_conditions_m_w0_le (n : Nat) (hn : big ≤ n)  (t6_0 : List Cnd) (c0_0 : List Cnd) (hx : List.length (t6_0) < lenMax) : LeF some (loopL (fun i__ e__ s__ => law04_conditions_b0 t6_0 i__ e__ s__) (fun s__ => law04_conditions_f0 t6_0 s__) 0 (t6_0) c0_0) (law04_conditions_m_w0 n n t6_0 (List.length (t6_0) : Int) 0 c0_0) := by
  refine loopL_le (f := some) (W := fun k__ i__ s__ => law04_conditions_m_w0 n k__ t6_0 (List.length (t6_0) : Int) i__ s__) (body := (fun i__ e__ s__ => law04_conditions_b0 t6_0 i__ e__ s__)) (fin := (fun s__ => law04_conditions_f0 t6_0 s__)) (fun k__ i__ s__ => ?_) hx c0_0 n (by unfold big at hn; unfold lenMax at hx; omega)
  show LeF _ _ (law04_conditions_m_l0 n (law04_conditions_m_w0 n k__) t6_0 (List.length (t6_0) : Int) i__ s__)
  exact leCond (leBind fun v1 => (leBind fun v2 => (leCond (leSome rfl) leNone))) (leMap (leSome rfl))

noncomputable def law04_conditions_M (l : List Cnd) : Option (List Cnd × Unit) :=
  (bif decide (List.length (l) < lenMax) then loopL (fun i__ e__ s__ => law04_conditions_b0 (l) i__ e__ s__) (fun s__ => law04_conditions_f0 (l) s__) 0 (l) ([]) else none)

theorem law04_conditions_run (l : List Cnd) (y : List Cnd × Unit) (h : law04_conditions_M l = some y) : ∃ n, law04_conditions_m n l = some y :=
  ⟨big, LeF.top (show LeF some (law04_conditions_M l) (law04_conditions_m big l) from (fun (n : Nat) (hn : big ≤ n) => show LeF some (law04_conditions_M l) (law04_conditions_m n l) from (leGuard fun hx => by apply law04_conditions_m_w0_le n hn; exact hx)) big (Nat.le_refl _)) h⟩
noncomputable def law04_conditions_e : Entry := { f := 26, args := law04_conditions_a, ress := law04_conditions_r, m := fun x => law04_conditions_M x.1 }
theorem law04_conditions_ok : FnOK Tryz.prog law04_conditions_e := fn_ok (g := law04_conditions_g) (fn := Tryz.f26) hmixed tabOk (eCons law04_condition_ok eNil) (by kernel_rfl) (by kernel_rfl) (by kernel_rfl) (fun x y h => let ⟨n, hn⟩ := law04_conditions_run x.1 y h; ⟨law04_conditions_an n, iNil, (law04_conditions_eq n x).trans hn⟩)

/-! ### tidewayref04.CheckRun -/
abbrev ref04_CheckRun_a : Ty := .pair t25 (.pair t26 (.pair t33 .unit))
abbrev ref04_CheckRun_r : Ty := .pair t3 .unit
noncomputable def ref04_CheckRun_g : G := { T := T, E := [ref04_CheckVolumes_e, ref04_OnlyCondition_e], muts := [], fz := [] }
def ref04_CheckRun_k : List (List Nat) := [[2, 3, 8]]
noncomputable def ref04_CheckRun_an (n : Nat) : Ann := { keep := ref04_CheckRun_k, fuel := n, inl := [], deep := 0 }
noncomputable def ref04_CheckRun_m_l1 (n : Nat) (r1 : List Cnd → Bas → Int → Option (Int × Unit)) (l2_1 : List Cnd) (b3_1 : Bas) (i8_1 : Int) : Option (Int × Unit) :=
  (bif Decidable.decide (i8_1 < (↑l2_1.length : Int)) then (Option.bind (Go.Vx.idx l2_1 i8_1) fun (v2 : Cnd) => (Option.bind (Go.Tw.ref04_OnlyCondition_M b3_1 v2) fun (v3 : Int × Unit) => (bif v3.fst != (0 : Int) then Option.some (v3.fst, ()) else r1 l2_1 b3_1 (Go.IntKind.i64.wrap (i8_1 + (1 : Int)))))) else Option.some ((0 : Int), ()))

noncomputable def ref04_CheckRun_m_w1 (n : Nat)  (k : Nat) (l2_1 : List Cnd) (b3_1 : Bas) (i8_1 : Int) : Option (Int × Unit) :=
  iter (fun r y => ref04_CheckRun_m_l1 n (fun l2_1 b3_1 i8_1 => r ((l2_1, (b3_1, (i8_1, ()))), ((), ()))) y.1.1 y.1.2.1 y.1.2.2.1) k ((l2_1, (b3_1, (i8_1, ()))), ((), ()))

noncomputable def ref04_CheckRun_m (n : Nat) (b : Bas) (v : List Int) (l : List Cnd) : Option (Int × Unit) :=
  (Option.bind (Go.Tw.ref04_CheckVolumes_M b v) fun (v0 : Int × Unit) => (bif v0.fst != (0 : Int) then Option.some (v0.fst, ()) else (bif Decidable.decide ((↑l.length : Int) > (96 : Int)) then Option.some ((5 : Int), ()) else (ref04_CheckRun_m_w1 n n (l) (b) ((0 : Int))))))

theorem ref04_CheckRun_eq (n : Nat) (x : ref04_CheckRun_a.den) : runF ref04_CheckRun_g (ref04_CheckRun_an n) Tryz.f25 ref04_CheckRun_a ref04_CheckRun_r x = ref04_CheckRun_m n x.1 x.2.1 x.2.2.1 := by kernel_rfl

noncomputable def ref04_CheckRun_b1 (l2_1 : List Cnd) (b3_1 : Bas) (i8_1 : Int) (v2 : Cnd) : Option ((Int × Unit) ⊕ Unit) :=
  (Option.bind (Go.Tw.ref04_OnlyCondition_M b3_1 v2) fun (v3 : Int × Unit) => (bif v3.fst != (0 : Int) then (some (Sum.inl ((v3.fst, ())))) else (some (Sum.inr ()))))

noncomputable def ref04_CheckRun_f1 (l2_1 : List Cnd) (b3_1 : Bas) : Option (Int × Unit) :=
  (some (((0 : Int), ())))

theorem ref04_CheckRun_m_w1_le (n : Nat) (hn : big ≤ n)  (l2_1 : List Cnd) (b3_1 : Bas) (hx : List.length (l2_1) < lenMax) : LeF some (loopL (fun i__ e__ s__ => ref04_CheckRun_b1 l2_1 b3_1 i__ e__) (fun s__ => ref04_CheckRun_f1 l2_1 b3_1) 0 (l2_1) ()) (ref04_CheckRun_m_w1 n n l2_1 b3_1 0) := by
  refine loopL_le (f := some) (W := fun k__ i__ s__ => ref04_CheckRun_m_w1 n k__ l2_1 b3_1 i__) (body := (fun i__ e__ s__ => ref04_CheckRun_b1 l2_1 b3_1 i__ e__)) (fin := (fun s__ => ref04_CheckRun_f1 l2_1 b3_1)) (fun k__ i__ s__ => ?_) hx () n (by unfold big at hn; unfold lenMax at hx; omega)
  show LeF _ _ (ref04_CheckRun_m_l1 n (ref04_CheckRun_m_w1 n k__) l2_1 b3_1 i__)
  exact leCond (leBind fun v2 => (leBind fun v3 => (leCond (leSome rfl) (leSome rfl)))) (leMap (leSome rfl))

noncomputable def ref04_CheckRun_M (b : Bas) (v : List Int) (l : List Cnd) : Option (Int × Unit) :=
  (Option.bind (Go.Tw.ref04_CheckVolumes_M b v) fun (v0 : Int × Unit) => (bif v0.fst != (0 : Int) then (some ((v0.fst, ()))) else (bif Decidable.decide ((↑l.length : Int) > (96 : Int)) then (some (((5 : Int), ()))) else (bif decide (List.length (l) < lenMax) then loopL (fun i__ e__ s__ => ref04_CheckRun_b1 (l) (b) i__ e__) (fun s__ => ref04_CheckRun_f1 (l) (b)) 0 (l) () else none))))

theorem ref04_CheckRun_run (b : Bas) (v : List Int) (l : List Cnd) (y : Int × Unit) (h : ref04_CheckRun_M b v l = some y) : ∃ n, ref04_CheckRun_m n b v l = some y :=
  ⟨big, LeF.top (show LeF some (ref04_CheckRun_M b v l) (ref04_CheckRun_m big b v l) from (fun (n : Nat) (hn : big ≤ n) => show LeF some (ref04_CheckRun_M b v l) (ref04_CheckRun_m n b v l) from (leBind fun v0 => (leCond (leSome rfl) (leCond (leSome rfl) (leGuard fun hx => by apply ref04_CheckRun_m_w1_le n hn; exact hx))))) big (Nat.le_refl _)) h⟩
noncomputable def ref04_CheckRun_e : Entry := { f := 25, args := ref04_CheckRun_a, ress := ref04_CheckRun_r, m := fun x => ref04_CheckRun_M x.1 x.2.1 x.2.2.1 }
theorem ref04_CheckRun_ok : FnOK Tryz.prog ref04_CheckRun_e := fn_ok (g := ref04_CheckRun_g) (fn := Tryz.f25) hmixed tabOk (eCons ref04_CheckVolumes_ok (eCons ref04_OnlyCondition_ok eNil)) (by kernel_rfl) (by kernel_rfl) (by kernel_rfl) (fun x y h => let ⟨n, hn⟩ := ref04_CheckRun_run x.1 x.2.1 x.2.2.1 y h; ⟨ref04_CheckRun_an n, iNil, (ref04_CheckRun_eq n x).trans hn⟩)

/-! ### basin.Step -/
abbrev basin_Step_a : Ty := .pair t41 (.pair t26 (.pair t44 .unit))
abbrev basin_Step_r : Ty := .pair t26 (.pair t35 .unit)
noncomputable def basin_Step_g : G := { T := T, E := [basin_checked_e], muts := [], fz := [] }
def basin_Step_k : List (List Nat) := []
noncomputable def basin_Step_an (n : Nat) : Ann := { keep := basin_Step_k, fuel := n, inl := [], deep := 0 }
noncomputable def basin_Step_m (n : Nat) (b : Bas) (v : List Int) (c : Cnd) : Option (List Int × Int × Unit) :=
  (Option.bind (Go.Tw.basin_checked_M b v [c]) fun (v0 : List Psg × Int × Unit) => (bif v0.snd.fst != (0 : Int) then Option.some ([], v0.snd.fst, ()) else (Option.bind (Go.Vx.idx v0.fst (0 : Int)) fun (v1 : Psg) => Option.some (v1.snd.snd.fst.getD [], (0 : Int), ()))))

theorem basin_Step_eq (n : Nat) (x : basin_Step_a.den) : runF basin_Step_g (basin_Step_an n) Tryz.f43 basin_Step_a basin_Step_r x = basin_Step_m n x.1 x.2.1 x.2.2.1 := by kernel_rfl

noncomputable def basin_Step_M (b : Bas) (v : List Int) (c : Cnd) : Option (List Int × Int × Unit) := basin_Step_m 0 b v c

theorem basin_Step_run (b : Bas) (v : List Int) (c : Cnd) (y : List Int × Int × Unit) (h : basin_Step_M b v c = some y) : ∃ n, basin_Step_m n b v c = some y := ⟨0, h⟩
noncomputable def basin_Step_e : Entry := { f := 43, args := basin_Step_a, ress := basin_Step_r, m := fun x => basin_Step_M x.1 x.2.1 x.2.2.1 }
theorem basin_Step_ok : FnOK Tryz.prog basin_Step_e := fn_ok (g := basin_Step_g) (fn := Tryz.f43) hmixed tabOk (eCons basin_checked_ok eNil) (by kernel_rfl) (by kernel_rfl) (by kernel_rfl) (fun x y h => let ⟨n, hn⟩ := basin_Step_run x.1 x.2.1 x.2.2.1 y h; ⟨basin_Step_an n, iNil, (basin_Step_eq n x).trans hn⟩)

/-! ### tidewaylaw04.total -/
abbrev law04_total_a : Ty := .pair t26 .unit
abbrev law04_total_r : Ty := .pair t3 .unit
noncomputable def law04_total_g : G := { T := T, E := [], muts := [], fz := [] }
def law04_total_k : List (List Nat) := [[3, 6, 7, 8]]
noncomputable def law04_total_an (n : Nat) : Ann := { keep := law04_total_k, fuel := n, inl := [], deep := 0 }
noncomputable def law04_total_m_l0 (n : Nat) (r0 : Int → List Int → Int → Int → Option (Int × Unit)) (n3_0 : Int) (t6_0 : List Int) (t7_0 : Int) (t8_0 : Int) : Option (Int × Unit) :=
  (bif Decidable.decide (t8_0 < t7_0) then (Option.bind (Go.Vx.idx t6_0 t8_0) fun (v1 : Int) => r0 (Go.IntKind.i64.wrap (n3_0 + v1)) t6_0 t7_0 (Go.IntKind.i64.wrap (t8_0 + (1 : Int)))) else Option.some (n3_0, ()))

noncomputable def law04_total_m_w0 (n : Nat)  (k : Nat) (n3_0 : Int) (t6_0 : List Int) (t7_0 : Int) (t8_0 : Int) : Option (Int × Unit) :=
  iter (fun r y => law04_total_m_l0 n (fun n3_0 t6_0 t7_0 t8_0 => r ((n3_0, (t6_0, (t7_0, (t8_0, ())))), ((), ()))) y.1.1 y.1.2.1 y.1.2.2.1 y.1.2.2.2.1) k ((n3_0, (t6_0, (t7_0, (t8_0, ())))), ((), ()))

noncomputable def law04_total_m (n : Nat) (v : List Int) : Option (Int × Unit) :=
  (law04_total_m_w0 n n ((0 : Int)) (v) ((↑v.length : Int)) ((0 : Int)))

theorem law04_total_eq (n : Nat) (x : law04_total_a.den) : runF law04_total_g (law04_total_an n) Tryz.f46 law04_total_a law04_total_r x = law04_total_m n x.1 := by kernel_rfl

noncomputable def law04_total_b0 (t6_0 : List Int) (t8_0 : Int) (v1 : Int) (n3_0 : Int) : Option ((Int × Unit) ⊕ (Int)) :=
  (some (Sum.inr (Go.IntKind.i64.wrap (n3_0 + v1))))

noncomputable def law04_total_f0 (t6_0 : List Int) (n3_0 : Int) : Option (Int × Unit) :=
  (some ((n3_0, ())))

theorem law04_total_m_w0_le (n : Nat) (hn : big ≤ n)  (t6_0 : List Int) (n3_0 : Int) (hx : List.length (t6_0) < lenMax) : LeF some (loopL (fun i__ e__ s__ => law04_total_b0 t6_0 i__ e__ s__) (fun s__ => law04_total_f0 t6_0 s__) 0 (t6_0) n3_0) (law04_total_m_w0 n n n3_0 t6_0 (List.length (t6_0) : Int) 0) := by
  refine loopL_le (f := some) (W := fun k__ i__ s__ => law04_total_m_w0 n k__ s__ t6_0 (List.length (t6_0) : Int) i__) (body := (fun i__ e__ s__ => law04_total_b0 t6_0 i__ e__ s__)) (fin := (fun s__ => law04_total_f0 t6_0 s__)) (fun k__ i__ s__ => ?_) hx n3_0 n (by unfold big at hn; unfold lenMax at hx; omega)
  show LeF _ _ (law04_total_m_l0 n (law04_total_m_w0 n k__) s__ t6_0 (List.length (t6_0) : Int) i__)
  exact leCond (leBind fun v1 => (leSome rfl)) (leMap (leSome rfl))

noncomputable def law04_total_M (v : List Int) : Option (Int × Unit) :=
  (bif decide (List.length (v) < lenMax) then loopL (fun i__ e__ s__ => law04_total_b0 (v) i__ e__ s__) (fun s__ => law04_total_f0 (v) s__) 0 (v) ((0 : Int)) else none)

theorem law04_total_run (v : List Int) (y : Int × Unit) (h : law04_total_M v = some y) : ∃ n, law04_total_m n v = some y :=
  ⟨big, LeF.top (show LeF some (law04_total_M v) (law04_total_m big v) from (fun (n : Nat) (hn : big ≤ n) => show LeF some (law04_total_M v) (law04_total_m n v) from (leGuard fun hx => by apply law04_total_m_w0_le n hn; exact hx)) big (Nat.le_refl _)) h⟩
noncomputable def law04_total_e : Entry := { f := 46, args := law04_total_a, ress := law04_total_r, m := fun x => law04_total_M x.1 }
theorem law04_total_ok : FnOK Tryz.prog law04_total_e := fn_ok (g := law04_total_g) (fn := Tryz.f46) hmixed tabOk eNil (by kernel_rfl) (by kernel_rfl) (by kernel_rfl) (fun x y h => let ⟨n, hn⟩ := law04_total_run x.1 y h; ⟨law04_total_an n, iNil, (law04_total_eq n x).trans hn⟩)

/-! ### tidewayref01.SameWords -/
abbrev ref01_SameWords_a : Ty := .pair t67 (.pair t67 .unit)
abbrev ref01_SameWords_r : Ty := .pair t4 .unit
noncomputable def ref01_SameWords_g : G := { T := T, E := [], muts := [], fz := [] }
def ref01_SameWords_k : List (List Nat) := [[0, 1, 5]]
noncomputable def ref01_SameWords_an (n : Nat) : Ann := { keep := ref01_SameWords_k, fuel := n, inl := [], deep := 0 }
noncomputable def ref01_SameWords_m_l0 (n : Nat) (r0 : List (List UInt8) → List (List UInt8) → Int → Option (Bool × Unit)) (a0_0 : List (List UInt8)) (b1_0 : List (List UInt8)) (i5_0 : Int) : Option (Bool × Unit) :=
  (bif Decidable.decide (i5_0 < (↑a0_0.length : Int)) then (Option.bind (Go.Vx.idx a0_0 i5_0) fun (v1 : List UInt8) => (Option.bind (Go.Vx.idx b1_0 i5_0) fun (v2 : List UInt8) => (bif !v1 == v2 then Option.some (Bool.false, ()) else r0 a0_0 b1_0 (Go.IntKind.i64.wrap (i5_0 + (1 : Int)))))) else Option.some (Bool.true, ()))

noncomputable def ref01_SameWords_m_w0 (n : Nat)  (k : Nat) (a0_0 : List (List UInt8)) (b1_0 : List (List UInt8)) (i5_0 : Int) : Option (Bool × Unit) :=
  iter (fun r y => ref01_SameWords_m_l0 n (fun a0_0 b1_0 i5_0 => r ((a0_0, (b1_0, (i5_0, ()))), ((), ()))) y.1.1 y.1.2.1 y.1.2.2.1) k ((a0_0, (b1_0, (i5_0, ()))), ((), ()))

noncomputable def ref01_SameWords_m (n : Nat) (a : List (List UInt8)) (b : List (List UInt8)) : Option (Bool × Unit) :=
  (bif (↑a.length : Int) != (↑b.length : Int) then Option.some (Bool.false, ()) else (ref01_SameWords_m_w0 n n (a) (b) ((0 : Int))))

theorem ref01_SameWords_eq (n : Nat) (x : ref01_SameWords_a.den) : runF ref01_SameWords_g (ref01_SameWords_an n) Tryz.f36 ref01_SameWords_a ref01_SameWords_r x = ref01_SameWords_m n x.1 x.2.1 := by kernel_rfl

noncomputable def ref01_SameWords_b0 (a0_0 : List (List UInt8)) (b1_0 : List (List UInt8)) (i5_0 : Int) (v1 : List UInt8) : Option ((Bool × Unit) ⊕ Unit) :=
  (Option.bind (Go.Vx.idx b1_0 i5_0) fun (v2 : List UInt8) => (bif !v1 == v2 then (some (Sum.inl ((Bool.false, ())))) else (some (Sum.inr ()))))

noncomputable def ref01_SameWords_f0 (a0_0 : List (List UInt8)) (b1_0 : List (List UInt8)) : Option (Bool × Unit) :=
  (some ((Bool.true, ())))

theorem ref01_SameWords_m_w0_le (n : Nat) (hn : big ≤ n)  (a0_0 : List (List UInt8)) (b1_0 : List (List UInt8)) (hx : List.length (a0_0) < lenMax) : LeF some (loopL (fun i__ e__ s__ => ref01_SameWords_b0 a0_0 b1_0 i__ e__) (fun s__ => ref01_SameWords_f0 a0_0 b1_0) 0 (a0_0) ()) (ref01_SameWords_m_w0 n n a0_0 b1_0 0) := by
  refine loopL_le (f := some) (W := fun k__ i__ s__ => ref01_SameWords_m_w0 n k__ a0_0 b1_0 i__) (body := (fun i__ e__ s__ => ref01_SameWords_b0 a0_0 b1_0 i__ e__)) (fin := (fun s__ => ref01_SameWords_f0 a0_0 b1_0)) (fun k__ i__ s__ => ?_) hx () n (by unfold big at hn; unfold lenMax at hx; omega)
  show LeF _ _ (ref01_SameWords_m_l0 n (ref01_SameWords_m_w0 n k__) a0_0 b1_0 i__)
  exact leCond (leBind fun v1 => (leBind fun v2 => (leCond (leSome rfl) (leSome rfl)))) (leMap (leSome rfl))

noncomputable def ref01_SameWords_M (a : List (List UInt8)) (b : List (List UInt8)) : Option (Bool × Unit) :=
  (bif (↑a.length : Int) != (↑b.length : Int) then (some ((Bool.false, ()))) else (bif decide (List.length (a) < lenMax) then loopL (fun i__ e__ s__ => ref01_SameWords_b0 (a) (b) i__ e__) (fun s__ => ref01_SameWords_f0 (a) (b)) 0 (a) () else none))

theorem ref01_SameWords_run (a : List (List UInt8)) (b : List (List UInt8)) (y : Bool × Unit) (h : ref01_SameWords_M a b = some y) : ∃ n, ref01_SameWords_m n a b = some y :=
  ⟨big, LeF.top (show LeF some (ref01_SameWords_M a b) (ref01_SameWords_m big a b) from (fun (n : Nat) (hn : big ≤ n) => show LeF some (ref01_SameWords_M a b) (ref01_SameWords_m n a b) from (leCond (leSome rfl) (leGuard fun hx => by apply ref01_SameWords_m_w0_le n hn; exact hx))) big (Nat.le_refl _)) h⟩
noncomputable def ref01_SameWords_e : Entry := { f := 36, args := ref01_SameWords_a, ress := ref01_SameWords_r, m := fun x => ref01_SameWords_M x.1 x.2.1 }
theorem ref01_SameWords_ok : FnOK Tryz.prog ref01_SameWords_e := fn_ok (g := ref01_SameWords_g) (fn := Tryz.f36) hmixed tabOk eNil (by kernel_rfl) (by kernel_rfl) (by kernel_rfl) (fun x y h => let ⟨n, hn⟩ := ref01_SameWords_run x.1 x.2.1 y h; ⟨ref01_SameWords_an n, iNil, (ref01_SameWords_eq n x).trans hn⟩)

/-! ### tidewayref04.Room -/
abbrev ref04_Room_a : Ty := .pair t25 (.pair t26 .unit)
abbrev ref04_Room_r : Ty := .pair t26 .unit
noncomputable def ref04_Room_g : G := { T := T, E := [], muts := [5], fz := [] }
def ref04_Room_k : List (List Nat) := [[1, 2, 5, 6]]
noncomputable def ref04_Room_an (n : Nat) : Ann := { keep := ref04_Room_k, fuel := n, inl := [], deep := 0 }
noncomputable def ref04_Room_m_l0 (n : Nat) (r0 : List Int → Bas → Int → List Int → Option (List Int × Unit)) (v1_0 : List Int) (b2_0 : Bas) (i6_0 : Int) (c0_0 : List Int) : Option (List Int × Unit) :=
  (bif Decidable.decide (i6_0 < (↑v1_0.length : Int)) then (Option.bind (Go.Vx.idx b2_0.fst i6_0) fun (v1 : Nod) => (Option.bind (Go.Vx.idx b2_0.fst i6_0) fun (v2 : Nod) => (Option.bind (Go.Vx.idx v1_0 i6_0) fun (v3 : Int) => (bif Decidable.decide (c0_0.length + (1 : Nat) ≤ Go.Vx.memMax) then r0 v1_0 b2_0 (Go.IntKind.i64.wrap (i6_0 + (1 : Int))) (c0_0 ++ [if Bool.true = Bool.true then if Go.IntKind.i64.wrap (Go.IntKind.i64.wrap (Go.IntKind.i64.wrap (v1.snd.fst * Go.IntKind.i64.wrap (v2.snd.snd.fst + (1 : Int))) - (1 : Int)) - v3) > (-1 : Int) then Go.IntKind.i64.wrap (Go.IntKind.i64.wrap (Go.IntKind.i64.wrap (v1.snd.fst * Go.IntKind.i64.wrap (v2.snd.snd.fst + (1 : Int))) - (1 : Int)) - v3) else (-1 : Int) else if Go.IntKind.i64.wrap (Go.IntKind.i64.wrap (Go.IntKind.i64.wrap (v1.snd.fst * Go.IntKind.i64.wrap (v2.snd.snd.fst + (1 : Int))) - (1 : Int)) - v3) < (-1 : Int) then Go.IntKind.i64.wrap (Go.IntKind.i64.wrap (Go.IntKind.i64.wrap (v1.snd.fst * Go.IntKind.i64.wrap (v2.snd.snd.fst + (1 : Int))) - (1 : Int)) - v3) else (-1 : Int)]) else none)))) else Option.some (c0_0, ()))

noncomputable def ref04_Room_m_w0 (n : Nat)  (k : Nat) (v1_0 : List Int) (b2_0 : Bas) (i6_0 : Int) (c0_0 : List Int) : Option (List Int × Unit) :=
  iter (fun r y => ref04_Room_m_l0 n (fun v1_0 b2_0 i6_0 c0_0 => r ((v1_0, (b2_0, (i6_0, ()))), ((c0_0, ()), ()))) y.1.1 y.1.2.1 y.1.2.2.1 y.2.1.1) k ((v1_0, (b2_0, (i6_0, ()))), ((c0_0, ()), ()))

noncomputable def ref04_Room_m (n : Nat) (b : Bas) (v : List Int) : Option (List Int × Unit) :=
  (ref04_Room_m_w0 n n (v) (b) ((0 : Int)) ([]))

theorem ref04_Room_eq (n : Nat) (x : ref04_Room_a.den) : runF ref04_Room_g (ref04_Room_an n) Tryz.f35 ref04_Room_a ref04_Room_r x = ref04_Room_m n x.1 x.2.1 := by kernel_rfl

noncomputable def ref04_Room_b0 (v1_0 : List Int) (b2_0 : Bas) (i6_0 : Int) (c0_0 : List Int) : Option ((List Int × Unit) ⊕ (List Int)) :=
  (Option.bind (Go.Vx.idx b2_0.fst i6_0) fun (v1 : Nod) => (Option.bind (Go.Vx.idx b2_0.fst i6_0) fun (v2 : Nod) => (Option.bind (Go.Vx.idx v1_0 i6_0) fun (v3 : Int) => (bif Decidable.decide (c0_0.length + (1 : Nat) ≤ Go.Vx.memMax) then (some (Sum.inr (c0_0 ++ [if Bool.true = Bool.true then if Go.IntKind.i64.wrap (Go.IntKind.i64.wrap (Go.IntKind.i64.wrap (v1.snd.fst * Go.IntKind.i64.wrap (v2.snd.snd.fst + (1 : Int))) - (1 : Int)) - v3) > (-1 : Int) then Go.IntKind.i64.wrap (Go.IntKind.i64.wrap (Go.IntKind.i64.wrap (v1.snd.fst * Go.IntKind.i64.wrap (v2.snd.snd.fst + (1 : Int))) - (1 : Int)) - v3) else (-1 : Int) else if Go.IntKind.i64.wrap (Go.IntKind.i64.wrap (Go.IntKind.i64.wrap (v1.snd.fst * Go.IntKind.i64.wrap (v2.snd.snd.fst + (1 : Int))) - (1 : Int)) - v3) < (-1 : Int) then Go.IntKind.i64.wrap (Go.IntKind.i64.wrap (Go.IntKind.i64.wrap (v1.snd.fst * Go.IntKind.i64.wrap (v2.snd.snd.fst + (1 : Int))) - (1 : Int)) - v3) else (-1 : Int)]))) else none))))

noncomputable def ref04_Room_f0 (v1_0 : List Int) (b2_0 : Bas) (c0_0 : List Int) : Option (List Int × Unit) :=
  (some ((c0_0, ())))

theorem ref04_Room_m_w0_le (n : Nat) (hn : big ≤ n)  (v1_0 : List Int) (b2_0 : Bas) (c0_0 : List Int) (hx : ((↑v1_0.length : Int)) ≤ (9223372036854775807 : Int)) : LeF some (loopN (fun i__ s__ => ref04_Room_b0 v1_0 b2_0 i__ s__) (fun s__ => ref04_Room_f0 v1_0 b2_0 s__) (((↑v1_0.length : Int)) - 0).toNat 0 c0_0) (ref04_Room_m_w0 n n v1_0 b2_0 0 c0_0) := by
  refine loopN_le (f := some) (W := fun k__ i__ s__ => ref04_Room_m_w0 n k__ v1_0 b2_0 i__ s__) (body := (fun i__ s__ => ref04_Room_b0 v1_0 b2_0 i__ s__)) (fin := (fun s__ => ref04_Room_f0 v1_0 b2_0 s__)) (fun k__ i__ s__ => ?_) hx c0_0 n 0 (by decide) (by unfold big at hn; omega)
  show LeF _ _ (ref04_Room_m_l0 n (ref04_Room_m_w0 n k__) v1_0 b2_0 i__ s__)
  exact leCond (leBind fun v1 => (leBind fun v2 => (leBind fun v3 => (leCond (leSome rfl) leNone)))) (leMap (leSome rfl))

noncomputable def ref04_Room_M (b : Bas) (v : List Int) : Option (List Int × Unit) :=
  (bif decide (((↑v.length : Int)) ≤ (9223372036854775807 : Int)) then loopN (fun i__ s__ => ref04_Room_b0 (v) (b) i__ s__) (fun s__ => ref04_Room_f0 (v) (b) s__) (((↑v.length : Int)) - 0).toNat 0 ([]) else none)

theorem ref04_Room_run (b : Bas) (v : List Int) (y : List Int × Unit) (h : ref04_Room_M b v = some y) : ∃ n, ref04_Room_m n b v = some y :=
  ⟨big, LeF.top (show LeF some (ref04_Room_M b v) (ref04_Room_m big b v) from (fun (n : Nat) (hn : big ≤ n) => show LeF some (ref04_Room_M b v) (ref04_Room_m n b v) from (leGuard fun hx => by apply ref04_Room_m_w0_le n hn; exact hx)) big (Nat.le_refl _)) h⟩
noncomputable def ref04_Room_e : Entry := { f := 35, args := ref04_Room_a, ress := ref04_Room_r, m := fun x => ref04_Room_M x.1 x.2.1 }
theorem ref04_Room_ok : FnOK Tryz.prog ref04_Room_e := fn_ok (g := ref04_Room_g) (fn := Tryz.f35) hmixed tabOk eNil (by kernel_rfl) (by kernel_rfl) (by kernel_rfl) (fun x y h => let ⟨n, hn⟩ := ref04_Room_run x.1 x.2.1 y h; ⟨ref04_Room_an n, iNil, (ref04_Room_eq n x).trans hn⟩)

/-! ### tidewayref04.Above -/
abbrev ref04_Above_a : Ty := .pair t25 (.pair t26 .unit)
abbrev ref04_Above_r : Ty := .pair t26 .unit
noncomputable def ref04_Above_g : G := { T := T, E := [ref04_Levels_e], muts := [5], fz := [] }
def ref04_Above_k : List (List Nat) := [[2, 5, 6, 7]]
noncomputable def ref04_Above_an (n : Nat) : Ann := { keep := ref04_Above_k, fuel := n, inl := [], deep := 0 }
noncomputable def ref04_Above_m_l1 (n : Nat) (r1 : Bas → List Int → Int → List Int → Option (List Int × Unit)) (b2_1 : Bas) (l6_1 : List Int) (i7_1 : Int) (c0_1 : List Int) : Option (List Int × Unit) :=
  (bif Decidable.decide (i7_1 < (↑l6_1.length : Int)) then (Option.bind (Go.Vx.idx l6_1 i7_1) fun (v2 : Int) => (Option.bind (Go.Vx.idx b2_1.fst i7_1) fun (v3 : Nod) => (bif Decidable.decide (v2 > v3.snd.snd.fst) then (bif Decidable.decide (c0_1.length + (1 : Nat) ≤ Go.Vx.memMax) then r1 b2_1 l6_1 (Go.IntKind.i64.wrap (i7_1 + (1 : Int))) (c0_1 ++ [i7_1]) else none) else r1 b2_1 l6_1 (Go.IntKind.i64.wrap (i7_1 + (1 : Int))) c0_1))) else Option.some (c0_1, ()))

noncomputable def ref04_Above_m_w1 (n : Nat)  (k : Nat) (b2_1 : Bas) (l6_1 : List Int) (i7_1 : Int) (c0_1 : List Int) : Option (List Int × Unit) :=
  iter (fun r y => ref04_Above_m_l1 n (fun b2_1 l6_1 i7_1 c0_1 => r ((b2_1, (l6_1, (i7_1, ()))), ((c0_1, ()), ()))) y.1.1 y.1.2.1 y.1.2.2.1 y.2.1.1) k ((b2_1, (l6_1, (i7_1, ()))), ((c0_1, ()), ()))

noncomputable def ref04_Above_m (n : Nat) (b : Bas) (v : List Int) : Option (List Int × Unit) :=
  (Option.bind (Go.Tw.ref04_Levels_M b v) fun (v0 : List Int × Unit) => (ref04_Above_m_w1 n n (b) (v0.fst) ((0 : Int)) ([])))

theorem ref04_Above_eq (n : Nat) (x : ref04_Above_a.den) : runF ref04_Above_g (ref04_Above_an n) Tryz.f34 ref04_Above_a ref04_Above_r x = ref04_Above_m n x.1 x.2.1 := by kernel_rfl

noncomputable def ref04_Above_b1 (b2_1 : Bas) (l6_1 : List Int) (i7_1 : Int) (v2 : Int) (c0_1 : List Int) : Option ((List Int × Unit) ⊕ (List Int)) :=
  (Option.bind (Go.Vx.idx b2_1.fst i7_1) fun (v3 : Nod) => (bif Decidable.decide (v2 > v3.snd.snd.fst) then (bif Decidable.decide (c0_1.length + (1 : Nat) ≤ Go.Vx.memMax) then (some (Sum.inr (c0_1 ++ [i7_1]))) else none) else (some (Sum.inr (c0_1)))))

noncomputable def ref04_Above_f1 (b2_1 : Bas) (l6_1 : List Int) (c0_1 : List Int) : Option (List Int × Unit) :=
  (some ((c0_1, ())))

theorem ref04_Above_m_w1_le (n : Nat) (hn : big ≤ n)  (b2_1 : Bas) (l6_1 : List Int) (c0_1 : List Int) (hx : List.length (l6_1) < lenMax) : LeF some (loopL (fun i__ e__ s__ => ref04_Above_b1 b2_1 l6_1 i__ e__ s__) (fun s__ => ref04_Above_f1 b2_1 l6_1 s__) 0 (l6_1) c0_1) (ref04_Above_m_w1 n n b2_1 l6_1 0 c0_1) := by
  refine loopL_le (f := some) (W := fun k__ i__ s__ => ref04_Above_m_w1 n k__ b2_1 l6_1 i__ s__) (body := (fun i__ e__ s__ => ref04_Above_b1 b2_1 l6_1 i__ e__ s__)) (fin := (fun s__ => ref04_Above_f1 b2_1 l6_1 s__)) (fun k__ i__ s__ => ?_) hx c0_1 n (by unfold big at hn; unfold lenMax at hx; omega)
  show LeF _ _ (ref04_Above_m_l1 n (ref04_Above_m_w1 n k__) b2_1 l6_1 i__ s__)
  exact leCond (leBind fun v2 => (leBind fun v3 => (leCond (leCond (leSome rfl) leNone) (leSome rfl)))) (leMap (leSome rfl))

noncomputable def ref04_Above_M (b : Bas) (v : List Int) : Option (List Int × Unit) :=
  (Option.bind (Go.Tw.ref04_Levels_M b v) fun (v0 : List Int × Unit) => (bif decide (List.length (v0.fst) < lenMax) then loopL (fun i__ e__ s__ => ref04_Above_b1 (b) (v0.fst) i__ e__ s__) (fun s__ => ref04_Above_f1 (b) (v0.fst) s__) 0 (v0.fst) ([]) else none))

theorem ref04_Above_run (b : Bas) (v : List Int) (y : List Int × Unit) (h : ref04_Above_M b v = some y) : ∃ n, ref04_Above_m n b v = some y :=
  ⟨big, LeF.top (show LeF some (ref04_Above_M b v) (ref04_Above_m big b v) from (fun (n : Nat) (hn : big ≤ n) => show LeF some (ref04_Above_M b v) (ref04_Above_m n b v) from (leBind fun v0 => (leGuard fun hx => by apply ref04_Above_m_w1_le n hn; exact hx))) big (Nat.le_refl _)) h⟩
noncomputable def ref04_Above_e : Entry := { f := 34, args := ref04_Above_a, ress := ref04_Above_r, m := fun x => ref04_Above_M x.1 x.2.1 }
theorem ref04_Above_ok : FnOK Tryz.prog ref04_Above_e := fn_ok (g := ref04_Above_g) (fn := Tryz.f34) hmixed tabOk (eCons ref04_Levels_ok eNil) (by kernel_rfl) (by kernel_rfl) (by kernel_rfl) (fun x y h => let ⟨n, hn⟩ := ref04_Above_run x.1 x.2.1 y h; ⟨ref04_Above_an n, iNil, (ref04_Above_eq n x).trans hn⟩)

/-! ### tidewayref04.Run -/
abbrev ref04_Run_a : Ty := .pair t25 (.pair t26 (.pair t33 .unit))
abbrev ref04_Run_r : Ty := .pair t56 (.pair t3 .unit)
noncomputable def ref04_Run_g : G := { T := T, E := [ref04_Moved_e], muts := [8], fz := [] }
def ref04_Run_k : List (List Nat) := [[1, 2, 3, 8, 9]]
noncomputable def ref04_Run_an (n : Nat) : Ann := { keep := ref04_Run_k, fuel := n, inl := [], deep := 0 }
noncomputable def ref04_Run_m_l0 (n : Nat) (r0 : List Int → List Cnd → Bas → Int → List (List Int) → Option (List (List Int) × Int × Unit)) (v1_0 : List Int) (l2_0 : List Cnd) (b3_0 : Bas) (i9_0 : Int) (c0_0 : List (List Int)) : Option (List (List Int) × Int × Unit) :=
  (bif Decidable.decide (i9_0 < (↑l2_0.length : Int)) then (Option.bind (Go.Vx.idx l2_0 i9_0) fun (v1 : Cnd) => (Option.bind (Go.Tw.ref04_Moved_M b3_0 v1_0 v1) fun (v2 : List Int × List Int × Int × Unit) => (bif v2.snd.snd.fst != (0 : Int) then Option.some ([], v2.snd.snd.fst, ()) else (bif Decidable.decide (c0_0.length + (1 : Nat) ≤ Go.Vx.memMax) then r0 v2.snd.fst l2_0 b3_0 (Go.IntKind.i64.wrap (i9_0 + (1 : Int))) (c0_0 ++ [v2.snd.fst]) else none)))) else Option.some (c0_0, (0 : Int), ()))

noncomputable def ref04_Run_m_w0 (n : Nat)  (k : Nat) (v1_0 : List Int) (l2_0 : List Cnd) (b3_0 : Bas) (i9_0 : Int) (c0_0 : List (List Int)) : Option (List (List Int) × Int × Unit) :=
  iter (fun r y => ref04_Run_m_l0 n (fun v1_0 l2_0 b3_0 i9_0 c0_0 => r ((v1_0, (l2_0, (b3_0, (i9_0, ())))), ((c0_0, ()), ()))) y.1.1 y.1.2.1 y.1.2.2.1 y.1.2.2.2.1 y.2.1.1) k ((v1_0, (l2_0, (b3_0, (i9_0, ())))), ((c0_0, ()), ()))

noncomputable def ref04_Run_m (n : Nat) (b : Bas) (v : List Int) (l : List Cnd) : Option (List (List Int) × Int × Unit) :=
  (ref04_Run_m_w0 n n (v) (l) (b) ((0 : Int)) ([]))

theorem ref04_Run_eq (n : Nat) (x : ref04_Run_a.den) : runF ref04_Run_g (ref04_Run_an n) Tryz.f49 ref04_Run_a ref04_Run_r x = ref04_Run_m n x.1 x.2.1 x.2.2.1 := by kernel_rfl

noncomputable def ref04_Run_b0 (l2_0 : List Cnd) (b3_0 : Bas) (i9_0 : Int) (v1 : Cnd) (v1_0 : List Int) (c0_0 : List (List Int)) : Option ((List (List Int) × Int × Unit) ⊕ (List Int × List (List Int))) :=
  (Option.bind (Go.Tw.ref04_Moved_M b3_0 v1_0 v1) fun (v2 : List Int × List Int × Int × Unit) => (bif v2.snd.snd.fst != (0 : Int) then (some (Sum.inl (([], v2.snd.snd.fst, ())))) else (bif Decidable.decide (c0_0.length + (1 : Nat) ≤ Go.Vx.memMax) then (some (Sum.inr ((v2.snd.fst), (c0_0 ++ [v2.snd.fst])))) else none)))

noncomputable def ref04_Run_f0 (l2_0 : List Cnd) (b3_0 : Bas) (v1_0 : List Int) (c0_0 : List (List Int)) : Option (List (List Int) × Int × Unit) :=
  (some ((c0_0, (0 : Int), ())))

theorem ref04_Run_m_w0_le (n : Nat) (hn : big ≤ n)  (l2_0 : List Cnd) (b3_0 : Bas) (v1_0 : List Int) (c0_0 : List (List Int)) (hx : List.length (l2_0) < lenMax) : LeF some (loopL (fun i__ e__ s__ => ref04_Run_b0 l2_0 b3_0 i__ e__ s__.1 s__.2) (fun s__ => ref04_Run_f0 l2_0 b3_0 s__.1 s__.2) 0 (l2_0) (v1_0, c0_0)) (ref04_Run_m_w0 n n v1_0 l2_0 b3_0 0 c0_0) := by
  refine loopL_le (f := some) (W := fun k__ i__ s__ => ref04_Run_m_w0 n k__ s__.1 l2_0 b3_0 i__ s__.2) (body := (fun i__ e__ s__ => ref04_Run_b0 l2_0 b3_0 i__ e__ s__.1 s__.2)) (fin := (fun s__ => ref04_Run_f0 l2_0 b3_0 s__.1 s__.2)) (fun k__ i__ s__ => ?_) hx (v1_0, c0_0) n (by unfold big at hn; unfold lenMax at hx; omega)
  show LeF _ _ (ref04_Run_m_l0 n (ref04_Run_m_w0 n k__) s__.1 l2_0 b3_0 i__ s__.2)
  exact leCond (leBind fun v1 => (leBind fun v2 => (leCond (leSome rfl) (leCond (leSome rfl) leNone)))) (leMap (leSome rfl))

noncomputable def ref04_Run_M (b : Bas) (v : List Int) (l : List Cnd) : Option (List (List Int) × Int × Unit) :=
  (bif decide (List.length (l) < lenMax) then loopL (fun i__ e__ s__ => ref04_Run_b0 (l) (b) i__ e__ s__.1 s__.2) (fun s__ => ref04_Run_f0 (l) (b) s__.1 s__.2) 0 (l) ((v), ([])) else none)

theorem ref04_Run_run (b : Bas) (v : List Int) (l : List Cnd) (y : List (List Int) × Int × Unit) (h : ref04_Run_M b v l = some y) : ∃ n, ref04_Run_m n b v l = some y :=
  ⟨big, LeF.top (show LeF some (ref04_Run_M b v l) (ref04_Run_m big b v l) from (fun (n : Nat) (hn : big ≤ n) => show LeF some (ref04_Run_M b v l) (ref04_Run_m n b v l) from (leGuard fun hx => by apply ref04_Run_m_w0_le n hn; exact hx)) big (Nat.le_refl _)) h⟩
noncomputable def ref04_Run_e : Entry := { f := 49, args := ref04_Run_a, ress := ref04_Run_r, m := fun x => ref04_Run_M x.1 x.2.1 x.2.2.1 }
theorem ref04_Run_ok : FnOK Tryz.prog ref04_Run_e := fn_ok (g := ref04_Run_g) (fn := Tryz.f49) hmixed tabOk (eCons ref04_Moved_ok eNil) (by kernel_rfl) (by kernel_rfl) (by kernel_rfl) (fun x y h => let ⟨n, hn⟩ := ref04_Run_run x.1 x.2.1 x.2.2.1 y h; ⟨ref04_Run_an n, iNil, (ref04_Run_eq n x).trans hn⟩)

/-! ### tidewayref04.Account -/
abbrev ref04_Account_a : Ty := .pair t25 (.pair t26 (.pair t33 .unit))
abbrev ref04_Account_r : Ty := .pair t88 (.pair t3 .unit)
noncomputable def ref04_Account_g : G := { T := T, E := [ref04_Moved_e], muts := [], fz := [] }
def ref04_Account_k : List (List Nat) := [[1, 2, 3, 6, 8, 9], [2, 3, 6, 8, 9, 10, 11, 13], [2, 3, 6, 8, 9, 10, 11, 14]]
noncomputable def ref04_Account_an (n : Nat) : Ann := { keep := ref04_Account_k, fuel := n, inl := [], deep := 0 }
noncomputable def ref04_Account_m_l7 (n : Nat) (r0 : List Int → List Cnd → Bas → Int → Int → Int → Int → Int → Int → Int → Option ((Int × Int × Int × Unit) × Int × Unit)) (r7 : List Cnd → Bas → Int → List Int → List Int → Int → Int → Int → Int → Int → Int → Int → Option ((Int × Int × Int × Unit) × Int × Unit)) (l2_7 : List Cnd) (b3_7 : Bas) (i9_7 : Int) (flows10_7 : List Int) (next11_7 : List Int) (k14_7 : Int) (b0_0_7 : Int) (b0_1_7 : Int) (b0_2_7 : Int) (b1_0_7 : Int) (b1_1_7 : Int) (b1_2_7 : Int) : Option ((Int × Int × Int × Unit) × Int × Unit) :=
  (bif Decidable.decide (k14_7 < (↑flows10_7.length : Int)) then (Option.bind (Go.Vx.idx b3_7.snd.fst k14_7) fun (v8 : Lnk) => (bif Decidable.decide (v8.snd.fst < (0 : Int)) then (Option.bind (Go.Vx.idx flows10_7 k14_7) fun (v9 : Int) => (Option.bind (Go.Vx.idx flows10_7 k14_7) fun (v10 : Int) => (Option.bind (Go.Vx.idx b3_7.snd.fst k14_7) fun (v13 : Lnk) => (bif Decidable.decide (v13.snd.snd.fst < (0 : Int)) then (Option.bind (Go.Vx.idx flows10_7 k14_7) fun (v14 : Int) => r7 l2_7 b3_7 i9_7 flows10_7 next11_7 (Go.IntKind.i64.wrap (k14_7 + (1 : Int))) b0_0_7 b0_1_7 b0_2_7 b1_0_7 (Go.IntKind.i64.wrap (b1_1_7 + if Bool.true = Bool.true then if v9 > (0 : Int) then v9 else (0 : Int) else if v9 < (0 : Int) then v9 else (0 : Int))) (Go.IntKind.i64.wrap (Go.IntKind.i64.wrap (b1_2_7 + if Bool.true = Bool.true then if Go.IntKind.i64.wrap ((0 : Int) - v10) > (0 : Int) then Go.IntKind.i64.wrap ((0 : Int) - v10) else (0 : Int) else if Go.IntKind.i64.wrap ((0 : Int) - v10) < (0 : Int) then Go.IntKind.i64.wrap ((0 : Int) - v10) else (0 : Int)) + v14))) else r7 l2_7 b3_7 i9_7 flows10_7 next11_7 (Go.IntKind.i64.wrap (k14_7 + (1 : Int))) b0_0_7 b0_1_7 b0_2_7 b1_0_7 (Go.IntKind.i64.wrap (b1_1_7 + if Bool.true = Bool.true then if v9 > (0 : Int) then v9 else (0 : Int) else if v9 < (0 : Int) then v9 else (0 : Int))) (Go.IntKind.i64.wrap (b1_2_7 + if Bool.true = Bool.true then if Go.IntKind.i64.wrap ((0 : Int) - v10) > (0 : Int) then Go.IntKind.i64.wrap ((0 : Int) - v10) else (0 : Int) else if Go.IntKind.i64.wrap ((0 : Int) - v10) < (0 : Int) then Go.IntKind.i64.wrap ((0 : Int) - v10) else (0 : Int))))))) else (Option.bind (Go.Vx.idx b3_7.snd.fst k14_7) fun (v15 : Lnk) => (bif Decidable.decide (v15.snd.snd.fst < (0 : Int)) then (Option.bind (Go.Vx.idx flows10_7 k14_7) fun (v16 : Int) => r7 l2_7 b3_7 i9_7 flows10_7 next11_7 (Go.IntKind.i64.wrap (k14_7 + (1 : Int))) b0_0_7 b0_1_7 b0_2_7 b1_0_7 b1_1_7 (Go.IntKind.i64.wrap (b1_2_7 + v16))) else r7 l2_7 b3_7 i9_7 flows10_7 next11_7 (Go.IntKind.i64.wrap (k14_7 + (1 : Int))) b0_0_7 b0_1_7 b0_2_7 b1_0_7 b1_1_7 b1_2_7)))) else r0 next11_7 l2_7 b3_7 (Go.IntKind.i64.wrap (i9_7 + (1 : Int))) b0_0_7 b0_1_7 b0_2_7 b1_0_7 b1_1_7 b1_2_7)

noncomputable def ref04_Account_m_w7 (n : Nat) (r0 : List Int → List Cnd → Bas → Int → Int → Int → Int → Int → Int → Int → Option ((Int × Int × Int × Unit) × Int × Unit)) (k : Nat) (l2_7 : List Cnd) (b3_7 : Bas) (i9_7 : Int) (flows10_7 : List Int) (next11_7 : List Int) (k14_7 : Int) (b0_0_7 : Int) (b0_1_7 : Int) (b0_2_7 : Int) (b1_0_7 : Int) (b1_1_7 : Int) (b1_2_7 : Int) : Option ((Int × Int × Int × Unit) × Int × Unit) :=
  iter (fun r y => ref04_Account_m_l7 n r0 (fun l2_7 b3_7 i9_7 flows10_7 next11_7 k14_7 b0_0_7 b0_1_7 b0_2_7 b1_0_7 b1_1_7 b1_2_7 => r ((l2_7, (b3_7, (i9_7, (flows10_7, (next11_7, (k14_7, ())))))), (((b0_0_7, (b0_1_7, (b0_2_7, ()))), ((b1_0_7, (b1_1_7, (b1_2_7, ()))), ())), ()))) y.1.1 y.1.2.1 y.1.2.2.1 y.1.2.2.2.1 y.1.2.2.2.2.1 y.1.2.2.2.2.2.1 y.2.1.1.1 y.2.1.1.2.1 y.2.1.1.2.2.1 y.2.1.2.1.1 y.2.1.2.1.2.1 y.2.1.2.1.2.2.1) k ((l2_7, (b3_7, (i9_7, (flows10_7, (next11_7, (k14_7, ())))))), (((b0_0_7, (b0_1_7, (b0_2_7, ()))), ((b1_0_7, (b1_1_7, (b1_2_7, ()))), ())), ()))

noncomputable def ref04_Account_m_l3 (n : Nat) (r0 : List Int → List Cnd → Bas → Int → Int → Int → Int → Int → Int → Int → Option ((Int × Int × Int × Unit) × Int × Unit)) (r3 : List Cnd → Bas → Int → List Int → List Int → Int → Int → Int → Int → Int → Int → Int → Option ((Int × Int × Int × Unit) × Int × Unit)) (l2_3 : List Cnd) (b3_3 : Bas) (i9_3 : Int) (flows10_3 : List Int) (next11_3 : List Int) (k13_3 : Int) (b0_0_3 : Int) (b0_1_3 : Int) (b0_2_3 : Int) (b1_0_3 : Int) (b1_1_3 : Int) (b1_2_3 : Int) : Option ((Int × Int × Int × Unit) × Int × Unit) :=
  (Option.bind (Go.Vx.idx l2_3 i9_3) fun (v4 : Cnd) => (bif Decidable.decide (k13_3 < (↑v4.snd.snd.fst.length : Int)) then (Option.bind (Go.Vx.idx l2_3 i9_3) fun (v5 : Cnd) => (Option.bind (Go.Vx.idx v5.snd.snd.fst k13_3) fun (v6 : Int) => r3 l2_3 b3_3 i9_3 flows10_3 next11_3 (Go.IntKind.i64.wrap (k13_3 + (1 : Int))) b0_0_3 b0_1_3 b0_2_3 (Go.IntKind.i64.wrap (b1_0_3 + v6)) b1_1_3 b1_2_3)) else (ref04_Account_m_w7 n r0 n (l2_3) (b3_3) (i9_3) (flows10_3) (next11_3) ((0 : Int)) (b0_0_3) (b0_1_3) (b0_2_3) (b1_0_3) (b1_1_3) (b1_2_3))))

noncomputable def ref04_Account_m_w3 (n : Nat) (r0 : List Int → List Cnd → Bas → Int → Int → Int → Int → Int → Int → Int → Option ((Int × Int × Int × Unit) × Int × Unit)) (k : Nat) (l2_3 : List Cnd) (b3_3 : Bas) (i9_3 : Int) (flows10_3 : List Int) (next11_3 : List Int) (k13_3 : Int) (b0_0_3 : Int) (b0_1_3 : Int) (b0_2_3 : Int) (b1_0_3 : Int) (b1_1_3 : Int) (b1_2_3 : Int) : Option ((Int × Int × Int × Unit) × Int × Unit) :=
  iter (fun r y => ref04_Account_m_l3 n r0 (fun l2_3 b3_3 i9_3 flows10_3 next11_3 k13_3 b0_0_3 b0_1_3 b0_2_3 b1_0_3 b1_1_3 b1_2_3 => r ((l2_3, (b3_3, (i9_3, (flows10_3, (next11_3, (k13_3, ())))))), (((b0_0_3, (b0_1_3, (b0_2_3, ()))), ((b1_0_3, (b1_1_3, (b1_2_3, ()))), ())), ()))) y.1.1 y.1.2.1 y.1.2.2.1 y.1.2.2.2.1 y.1.2.2.2.2.1 y.1.2.2.2.2.2.1 y.2.1.1.1 y.2.1.1.2.1 y.2.1.1.2.2.1 y.2.1.2.1.1 y.2.1.2.1.2.1 y.2.1.2.1.2.2.1) k ((l2_3, (b3_3, (i9_3, (flows10_3, (next11_3, (k13_3, ())))))), (((b0_0_3, (b0_1_3, (b0_2_3, ()))), ((b1_0_3, (b1_1_3, (b1_2_3, ()))), ())), ()))

noncomputable def ref04_Account_m_l0 (n : Nat) (r0 : List Int → List Cnd → Bas → Int → Int → Int → Int → Int → Int → Int → Option ((Int × Int × Int × Unit) × Int × Unit)) (v1_0 : List Int) (l2_0 : List Cnd) (b3_0 : Bas) (i9_0 : Int) (b0_0_0 : Int) (b0_1_0 : Int) (b0_2_0 : Int) (b1_0_0 : Int) (b1_1_0 : Int) (b1_2_0 : Int) : Option ((Int × Int × Int × Unit) × Int × Unit) :=
  (bif Decidable.decide (i9_0 < (↑l2_0.length : Int)) then (Option.bind (Go.Vx.idx l2_0 i9_0) fun (v1 : Cnd) => (Option.bind (Go.Tw.ref04_Moved_M b3_0 v1_0 v1) fun (v2 : List Int × List Int × Int × Unit) => (bif v2.snd.snd.fst != (0 : Int) then Option.some (((0 : Int), (0 : Int), (0 : Int), ()), v2.snd.snd.fst, ()) else (ref04_Account_m_w3 n r0 n (l2_0) (b3_0) (i9_0) (v2.fst) (v2.snd.fst) ((0 : Int)) (b0_0_0) (b0_1_0) (b0_2_0) (b1_0_0) (b1_1_0) (b1_2_0))))) else Option.some ((b1_0_0, b1_1_0, b1_2_0, ()), (0 : Int), ()))

noncomputable def ref04_Account_m_w0 (n : Nat)  (k : Nat) (v1_0 : List Int) (l2_0 : List Cnd) (b3_0 : Bas) (i9_0 : Int) (b0_0_0 : Int) (b0_1_0 : Int) (b0_2_0 : Int) (b1_0_0 : Int) (b1_1_0 : Int) (b1_2_0 : Int) : Option ((Int × Int × Int × Unit) × Int × Unit) :=
  iter (fun r y => ref04_Account_m_l0 n (fun v1_0 l2_0 b3_0 i9_0 b0_0_0 b0_1_0 b0_2_0 b1_0_0 b1_1_0 b1_2_0 => r ((v1_0, (l2_0, (b3_0, (i9_0, ())))), (((b0_0_0, (b0_1_0, (b0_2_0, ()))), ((b1_0_0, (b1_1_0, (b1_2_0, ()))), ())), ()))) y.1.1 y.1.2.1 y.1.2.2.1 y.1.2.2.2.1 y.2.1.1.1 y.2.1.1.2.1 y.2.1.1.2.2.1 y.2.1.2.1.1 y.2.1.2.1.2.1 y.2.1.2.1.2.2.1) k ((v1_0, (l2_0, (b3_0, (i9_0, ())))), (((b0_0_0, (b0_1_0, (b0_2_0, ()))), ((b1_0_0, (b1_1_0, (b1_2_0, ()))), ())), ()))

noncomputable def ref04_Account_m (n : Nat) (b : Bas) (v : List Int) (l : List Cnd) : Option ((Int × Int × Int × Unit) × Int × Unit) :=
  (ref04_Account_m_w0 n n (v) (l) (b) ((0 : Int)) ((0 : Int)) ((0 : Int)) ((0 : Int)) ((0 : Int)) ((0 : Int)) ((0 : Int)))

theorem ref04_Account_eq (n : Nat) (x : ref04_Account_a.den) : runF ref04_Account_g (ref04_Account_an n) Tryz.f50 ref04_Account_a ref04_Account_r x = ref04_Account_m n x.1 x.2.1 x.2.2.1 := by kernel_rfl

noncomputable def ref04_Account_b7 (l2_7 : List Cnd) (b3_7 : Bas) (i9_7 : Int) (flows10_7 : List Int) (next11_7 : List Int) (b0_0_7 : Int) (b0_1_7 : Int) (b0_2_7 : Int) (b1_0_7 : Int) (k14_7 : Int) (b1_1_7 : Int) (b1_2_7 : Int) : Option ((((Int × Int × Int × Unit) × Int × Unit) ⊕ (List Int × Int × Int × Int)) ⊕ (Int × Int)) :=
  (Option.bind (Go.Vx.idx b3_7.snd.fst k14_7) fun (v8 : Lnk) => (bif Decidable.decide (v8.snd.fst < (0 : Int)) then (Option.bind (Go.Vx.idx flows10_7 k14_7) fun (v9 : Int) => (Option.bind (Go.Vx.idx flows10_7 k14_7) fun (v10 : Int) => (Option.bind (Go.Vx.idx b3_7.snd.fst k14_7) fun (v13 : Lnk) => (bif Decidable.decide (v13.snd.snd.fst < (0 : Int)) then (Option.bind (Go.Vx.idx flows10_7 k14_7) fun (v14 : Int) => (some (Sum.inr ((Go.IntKind.i64.wrap (b1_1_7 + if Bool.true = Bool.true then if v9 > (0 : Int) then v9 else (0 : Int) else if v9 < (0 : Int) then v9 else (0 : Int))), (Go.IntKind.i64.wrap (Go.IntKind.i64.wrap (b1_2_7 + if Bool.true = Bool.true then if Go.IntKind.i64.wrap ((0 : Int) - v10) > (0 : Int) then Go.IntKind.i64.wrap ((0 : Int) - v10) else (0 : Int) else if Go.IntKind.i64.wrap ((0 : Int) - v10) < (0 : Int) then Go.IntKind.i64.wrap ((0 : Int) - v10) else (0 : Int)) + v14)))))) else (some (Sum.inr ((Go.IntKind.i64.wrap (b1_1_7 + if Bool.true = Bool.true then if v9 > (0 : Int) then v9 else (0 : Int) else if v9 < (0 : Int) then v9 else (0 : Int))), (Go.IntKind.i64.wrap (b1_2_7 + if Bool.true = Bool.true then if Go.IntKind.i64.wrap ((0 : Int) - v10) > (0 : Int) then Go.IntKind.i64.wrap ((0 : Int) - v10) else (0 : Int) else if Go.IntKind.i64.wrap ((0 : Int) - v10) < (0 : Int) then Go.IntKind.i64.wrap ((0 : Int) - v10) else (0 : Int)))))))))) else (Option.bind (Go.Vx.idx b3_7.snd.fst k14_7) fun (v15 : Lnk) => (bif Decidable.decide (v15.snd.snd.fst < (0 : Int)) then (Option.bind (Go.Vx.idx flows10_7 k14_7) fun (v16 : Int) => (some (Sum.inr ((b1_1_7), (Go.IntKind.i64.wrap (b1_2_7 + v16)))))) else (some (Sum.inr ((b1_1_7), (b1_2_7))))))))

noncomputable def ref04_Account_f7 (l2_7 : List Cnd) (b3_7 : Bas) (i9_7 : Int) (flows10_7 : List Int) (next11_7 : List Int) (b0_0_7 : Int) (b0_1_7 : Int) (b0_2_7 : Int) (b1_0_7 : Int) (b1_1_7 : Int) (b1_2_7 : Int) : Option (((Int × Int × Int × Unit) × Int × Unit) ⊕ (List Int × Int × Int × Int)) :=
  (some (Sum.inr ((next11_7), (b1_0_7), (b1_1_7), (b1_2_7))))

theorem ref04_Account_m_w7_le (n : Nat) (hn : big ≤ n)  (r0 : List Int → List Cnd → Bas → Int → Int → Int → Int → Int → Int → Int → Option ((Int × Int × Int × Unit) × Int × Unit)) (l2_7 : List Cnd) (b3_7 : Bas) (i9_7 : Int) (flows10_7 : List Int) (next11_7 : List Int) (b0_0_7 : Int) (b0_1_7 : Int) (b0_2_7 : Int) (b1_0_7 : Int) (b1_1_7 : Int) (b1_2_7 : Int) (hx : ((↑flows10_7.length : Int)) ≤ (9223372036854775807 : Int)) : LeF (elim some fun (s__ : (List Int × Int × Int × Int)) => r0 s__.1 l2_7 b3_7 (Go.IntKind.i64.wrap (i9_7 + 1)) b0_0_7 b0_1_7 b0_2_7 s__.2.1 s__.2.2.1 s__.2.2.2) (loopN (fun i__ s__ => ref04_Account_b7 l2_7 b3_7 i9_7 flows10_7 next11_7 b0_0_7 b0_1_7 b0_2_7 b1_0_7 i__ s__.1 s__.2) (fun s__ => ref04_Account_f7 l2_7 b3_7 i9_7 flows10_7 next11_7 b0_0_7 b0_1_7 b0_2_7 b1_0_7 s__.1 s__.2) (((↑flows10_7.length : Int)) - 0).toNat 0 (b1_1_7, b1_2_7)) (ref04_Account_m_w7 n r0 n l2_7 b3_7 i9_7 flows10_7 next11_7 0 b0_0_7 b0_1_7 b0_2_7 b1_0_7 b1_1_7 b1_2_7) := by
  refine loopN_le (f := (elim some fun (s__ : (List Int × Int × Int × Int)) => r0 s__.1 l2_7 b3_7 (Go.IntKind.i64.wrap (i9_7 + 1)) b0_0_7 b0_1_7 b0_2_7 s__.2.1 s__.2.2.1 s__.2.2.2)) (W := fun k__ i__ s__ => ref04_Account_m_w7 n r0 k__ l2_7 b3_7 i9_7 flows10_7 next11_7 i__ b0_0_7 b0_1_7 b0_2_7 b1_0_7 s__.1 s__.2) (body := (fun i__ s__ => ref04_Account_b7 l2_7 b3_7 i9_7 flows10_7 next11_7 b0_0_7 b0_1_7 b0_2_7 b1_0_7 i__ s__.1 s__.2)) (fin := (fun s__ => ref04_Account_f7 l2_7 b3_7 i9_7 flows10_7 next11_7 b0_0_7 b0_1_7 b0_2_7 b1_0_7 s__.1 s__.2)) (fun k__ i__ s__ => ?_) hx (b1_1_7, b1_2_7) n 0 (by decide) (by unfold big at hn; omega)
  show LeF _ _ (ref04_Account_m_l7 n r0 (ref04_Account_m_w7 n r0 k__) l2_7 b3_7 i9_7 flows10_7 next11_7 i__ b0_0_7 b0_1_7 b0_2_7 b1_0_7 s__.1 s__.2)
  exact leCond (leBind fun v8 => (leCond (leBind fun v9 => (leBind fun v10 => (leBind fun v13 => (leCond (leBind fun v14 => (leSome rfl)) (leSome rfl))))) (leBind fun v15 => (leCond (leBind fun v16 => (leSome rfl)) (leSome rfl))))) (leMap (leSome rfl))

noncomputable def ref04_Account_b3 (l2_3 : List Cnd) (b3_3 : Bas) (i9_3 : Int) (flows10_3 : List Int) (next11_3 : List Int) (b0_0_3 : Int) (b0_1_3 : Int) (b0_2_3 : Int) (b1_1_3 : Int) (b1_2_3 : Int) (v4 : Cnd) (k13_3 : Int) (b1_0_3 : Int) : Option ((((Int × Int × Int × Unit) × Int × Unit) ⊕ (List Int × Int × Int × Int)) ⊕ (Int)) :=
  (Option.bind (Go.Vx.idx l2_3 i9_3) fun (v5 : Cnd) => (Option.bind (Go.Vx.idx v5.snd.snd.fst k13_3) fun (v6 : Int) => (some (Sum.inr (Go.IntKind.i64.wrap (b1_0_3 + v6))))))

noncomputable def ref04_Account_f3 (l2_3 : List Cnd) (b3_3 : Bas) (i9_3 : Int) (flows10_3 : List Int) (next11_3 : List Int) (b0_0_3 : Int) (b0_1_3 : Int) (b0_2_3 : Int) (b1_1_3 : Int) (b1_2_3 : Int) (v4 : Cnd) (b1_0_3 : Int) : Option (((Int × Int × Int × Unit) × Int × Unit) ⊕ (List Int × Int × Int × Int)) :=
  (bif decide (((↑flows10_3.length : Int)) ≤ (9223372036854775807 : Int)) then loopN (fun i__ s__ => ref04_Account_b7 (l2_3) (b3_3) (i9_3) (flows10_3) (next11_3) (b0_0_3) (b0_1_3) (b0_2_3) (b1_0_3) i__ s__.1 s__.2) (fun s__ => ref04_Account_f7 (l2_3) (b3_3) (i9_3) (flows10_3) (next11_3) (b0_0_3) (b0_1_3) (b0_2_3) (b1_0_3) s__.1 s__.2) (((↑flows10_3.length : Int)) - 0).toNat 0 ((b1_1_3), (b1_2_3)) else none)

theorem ref04_Account_m_w3_le (n : Nat) (hn : big ≤ n)  (r0 : List Int → List Cnd → Bas → Int → Int → Int → Int → Int → Int → Int → Option ((Int × Int × Int × Unit) × Int × Unit)) (l2_3 : List Cnd) (b3_3 : Bas) (i9_3 : Int) (flows10_3 : List Int) (next11_3 : List Int) (b0_0_3 : Int) (b0_1_3 : Int) (b0_2_3 : Int) (b1_1_3 : Int) (b1_2_3 : Int) (b1_0_3 : Int) (v4 : Cnd) (h0__ : (Go.Vx.idx l2_3 i9_3) = some v4) (hx : ((↑v4.snd.snd.fst.length : Int)) ≤ (9223372036854775807 : Int)) : LeF (elim some fun (s__ : (List Int × Int × Int × Int)) => r0 s__.1 l2_3 b3_3 (Go.IntKind.i64.wrap (i9_3 + 1)) b0_0_3 b0_1_3 b0_2_3 s__.2.1 s__.2.2.1 s__.2.2.2) (loopN (fun i__ s__ => ref04_Account_b3 l2_3 b3_3 i9_3 flows10_3 next11_3 b0_0_3 b0_1_3 b0_2_3 b1_1_3 b1_2_3 v4 i__ s__) (fun s__ => ref04_Account_f3 l2_3 b3_3 i9_3 flows10_3 next11_3 b0_0_3 b0_1_3 b0_2_3 b1_1_3 b1_2_3 v4 s__) (((↑v4.snd.snd.fst.length : Int)) - 0).toNat 0 b1_0_3) (ref04_Account_m_w3 n r0 n l2_3 b3_3 i9_3 flows10_3 next11_3 0 b0_0_3 b0_1_3 b0_2_3 b1_0_3 b1_1_3 b1_2_3) := by
  refine loopN_le (f := (elim some fun (s__ : (List Int × Int × Int × Int)) => r0 s__.1 l2_3 b3_3 (Go.IntKind.i64.wrap (i9_3 + 1)) b0_0_3 b0_1_3 b0_2_3 s__.2.1 s__.2.2.1 s__.2.2.2)) (W := fun k__ i__ s__ => ref04_Account_m_w3 n r0 k__ l2_3 b3_3 i9_3 flows10_3 next11_3 i__ b0_0_3 b0_1_3 b0_2_3 s__ b1_1_3 b1_2_3) (body := (fun i__ s__ => ref04_Account_b3 l2_3 b3_3 i9_3 flows10_3 next11_3 b0_0_3 b0_1_3 b0_2_3 b1_1_3 b1_2_3 v4 i__ s__)) (fin := (fun s__ => ref04_Account_f3 l2_3 b3_3 i9_3 flows10_3 next11_3 b0_0_3 b0_1_3 b0_2_3 b1_1_3 b1_2_3 v4 s__)) (fun k__ i__ s__ => ?_) hx b1_0_3 n 0 (by decide) (by unfold big at hn; omega)
  show LeF _ _ (ref04_Account_m_l3 n r0 (ref04_Account_m_w3 n r0 k__) l2_3 b3_3 i9_3 flows10_3 next11_3 i__ b0_0_3 b0_1_3 b0_2_3 s__ b1_1_3 b1_2_3)
  exact leAt h0__ (leCond (leBind fun v5 => (leBind fun v6 => (leSome rfl))) (leMap (leGuard fun hx => by apply ref04_Account_m_w7_le n hn; exact hx)))

noncomputable def ref04_Account_b0 (l2_0 : List Cnd) (b3_0 : Bas) (b0_0_0 : Int) (b0_1_0 : Int) (b0_2_0 : Int) (i9_0 : Int) (v1 : Cnd) (v1_0 : List Int) (b1_0_0 : Int) (b1_1_0 : Int) (b1_2_0 : Int) : Option (((Int × Int × Int × Unit) × Int × Unit) ⊕ (List Int × Int × Int × Int)) :=
  (Option.bind (Go.Tw.ref04_Moved_M b3_0 v1_0 v1) fun (v2 : List Int × List Int × Int × Unit) => (bif v2.snd.snd.fst != (0 : Int) then (some (Sum.inl ((((0 : Int), (0 : Int), (0 : Int), ()), v2.snd.snd.fst, ())))) else (Option.bind (Go.Vx.idx l2_0 i9_0) fun (v4 : Cnd) => (bif decide (((↑v4.snd.snd.fst.length : Int)) ≤ (9223372036854775807 : Int)) then loopN (fun i__ s__ => ref04_Account_b3 (l2_0) (b3_0) (i9_0) (v2.fst) (v2.snd.fst) (b0_0_0) (b0_1_0) (b0_2_0) (b1_1_0) (b1_2_0) v4 i__ s__) (fun s__ => ref04_Account_f3 (l2_0) (b3_0) (i9_0) (v2.fst) (v2.snd.fst) (b0_0_0) (b0_1_0) (b0_2_0) (b1_1_0) (b1_2_0) v4 s__) (((↑v4.snd.snd.fst.length : Int)) - 0).toNat 0 (b1_0_0) else none))))

noncomputable def ref04_Account_f0 (l2_0 : List Cnd) (b3_0 : Bas) (b0_0_0 : Int) (b0_1_0 : Int) (b0_2_0 : Int) (v1_0 : List Int) (b1_0_0 : Int) (b1_1_0 : Int) (b1_2_0 : Int) : Option ((Int × Int × Int × Unit) × Int × Unit) :=
  (some (((b1_0_0, b1_1_0, b1_2_0, ()), (0 : Int), ())))

theorem ref04_Account_m_w0_le (n : Nat) (hn : big ≤ n)  (l2_0 : List Cnd) (b3_0 : Bas) (b0_0_0 : Int) (b0_1_0 : Int) (b0_2_0 : Int) (v1_0 : List Int) (b1_0_0 : Int) (b1_1_0 : Int) (b1_2_0 : Int) (hx : List.length (l2_0) < lenMax) : LeF some (loopL (fun i__ e__ s__ => ref04_Account_b0 l2_0 b3_0 b0_0_0 b0_1_0 b0_2_0 i__ e__ s__.1 s__.2.1 s__.2.2.1 s__.2.2.2) (fun s__ => ref04_Account_f0 l2_0 b3_0 b0_0_0 b0_1_0 b0_2_0 s__.1 s__.2.1 s__.2.2.1 s__.2.2.2) 0 (l2_0) (v1_0, b1_0_0, b1_1_0, b1_2_0)) (ref04_Account_m_w0 n n v1_0 l2_0 b3_0 0 b0_0_0 b0_1_0 b0_2_0 b1_0_0 b1_1_0 b1_2_0) := by
  refine loopL_le (f := some) (W := fun k__ i__ s__ => ref04_Account_m_w0 n k__ s__.1 l2_0 b3_0 i__ b0_0_0 b0_1_0 b0_2_0 s__.2.1 s__.2.2.1 s__.2.2.2) (body := (fun i__ e__ s__ => ref04_Account_b0 l2_0 b3_0 b0_0_0 b0_1_0 b0_2_0 i__ e__ s__.1 s__.2.1 s__.2.2.1 s__.2.2.2)) (fin := (fun s__ => ref04_Account_f0 l2_0 b3_0 b0_0_0 b0_1_0 b0_2_0 s__.1 s__.2.1 s__.2.2.1 s__.2.2.2)) (fun k__ i__ s__ => ?_) hx (v1_0, b1_0_0, b1_1_0, b1_2_0) n (by unfold big at hn; unfold lenMax at hx; omega)
  show LeF _ _ (ref04_Account_m_l0 n (ref04_Account_m_w0 n k__) s__.1 l2_0 b3_0 i__ b0_0_0 b0_1_0 b0_2_0 s__.2.1 s__.2.2.1 s__.2.2.2)
  exact leCond (leBind fun v1 => (leBind fun v2 => (leCond (leSome rfl) (leBindE fun v4 h0__ => (leGuard fun hx => by apply ref04_Account_m_w3_le n hn; exact h0__; exact hx))))) (leMap (leSome rfl))

noncomputable def ref04_Account_M (b : Bas) (v : List Int) (l : List Cnd) : Option ((Int × Int × Int × Unit) × Int × Unit) :=
  (bif decide (List.length (l) < lenMax) then loopL (fun i__ e__ s__ => ref04_Account_b0 (l) (b) ((0 : Int)) ((0 : Int)) ((0 : Int)) i__ e__ s__.1 s__.2.1 s__.2.2.1 s__.2.2.2) (fun s__ => ref04_Account_f0 (l) (b) ((0 : Int)) ((0 : Int)) ((0 : Int)) s__.1 s__.2.1 s__.2.2.1 s__.2.2.2) 0 (l) ((v), ((0 : Int)), ((0 : Int)), ((0 : Int))) else none)

theorem ref04_Account_run (b : Bas) (v : List Int) (l : List Cnd) (y : (Int × Int × Int × Unit) × Int × Unit) (h : ref04_Account_M b v l = some y) : ∃ n, ref04_Account_m n b v l = some y :=
  ⟨big, LeF.top (show LeF some (ref04_Account_M b v l) (ref04_Account_m big b v l) from (fun (n : Nat) (hn : big ≤ n) => show LeF some (ref04_Account_M b v l) (ref04_Account_m n b v l) from (leGuard fun hx => by apply ref04_Account_m_w0_le n hn; exact hx)) big (Nat.le_refl _)) h⟩
noncomputable def ref04_Account_e : Entry := { f := 50, args := ref04_Account_a, ress := ref04_Account_r, m := fun x => ref04_Account_M x.1 x.2.1 x.2.2.1 }
theorem ref04_Account_ok : FnOK Tryz.prog ref04_Account_e := fn_ok (g := ref04_Account_g) (fn := Tryz.f50) hmixed tabOk (eCons ref04_Moved_ok eNil) (by kernel_rfl) (by kernel_rfl) (by kernel_rfl) (fun x y h => let ⟨n, hn⟩ := ref04_Account_run x.1 x.2.1 x.2.2.1 y h; ⟨ref04_Account_an n, iNil, (ref04_Account_eq n x).trans hn⟩)

/-! ### basin.First -/
abbrev basin_First_a : Ty := .pair t41 (.pair t26 (.pair t54 .unit))
abbrev basin_First_r : Ty := .pair t3 (.pair t3 (.pair t35 .unit))
noncomputable def basin_First_g : G := { T := T, E := [basin_checked_e, basin_Basin_above_e, basin_when_e], muts := [], fz := [] }
def basin_First_k : List (List Nat) := [[3, 11, 12, 13, 28, 29, 30], [3, 11, 12, 13, 14, 28, 29, 30, 38, 39, 40]]
noncomputable def basin_First_an (n : Nat) : Ann := { keep := basin_First_k, fuel := n, inl := [], deep := 0 }
noncomputable def basin_First_m_l4 (n : Nat) (r1 : Bas → Int → Int → Bool → List Psg → Int → Int → Option (Int × Int × Int × Unit)) (r4 : Bas → Int → Int → Bool → Int → List Psg → Int → Int → List Int → Int → Int → Option (Int × Int × Int × Unit)) (b3_4 : Bas) (step11_4 : Int) (node12_4 : Int) (found13_4 : Bool) (i14_4 : Int) (t28_4 : List Psg) (t29_4 : Int) (t30_4 : Int) (t38_4 : List Int) (t39_4 : Int) (t40_4 : Int) : Option (Int × Int × Int × Unit) :=
  (bif Decidable.decide (t40_4 < t39_4) then (Option.bind (Go.Vx.idx t38_4 t40_4) fun (v5 : Int) => Option.some (i14_4, v5, (Go.Tw.basin_when (!Bool.true) (7 : Int)).fst, ())) else r1 b3_4 step11_4 node12_4 found13_4 t28_4 t29_4 (Go.IntKind.i64.wrap (t30_4 + (1 : Int))))

noncomputable def basin_First_m_w4 (n : Nat) (r1 : Bas → Int → Int → Bool → List Psg → Int → Int → Option (Int × Int × Int × Unit)) (k : Nat) (b3_4 : Bas) (step11_4 : Int) (node12_4 : Int) (found13_4 : Bool) (i14_4 : Int) (t28_4 : List Psg) (t29_4 : Int) (t30_4 : Int) (t38_4 : List Int) (t39_4 : Int) (t40_4 : Int) : Option (Int × Int × Int × Unit) :=
  iter (fun r y => basin_First_m_l4 n r1 (fun b3_4 step11_4 node12_4 found13_4 i14_4 t28_4 t29_4 t30_4 t38_4 t39_4 t40_4 => r ((b3_4, (step11_4, (node12_4, (found13_4, (i14_4, (t28_4, (t29_4, (t30_4, (t38_4, (t39_4, (t40_4, ()))))))))))), ((), ()))) y.1.1 y.1.2.1 y.1.2.2.1 y.1.2.2.2.1 y.1.2.2.2.2.1 y.1.2.2.2.2.2.1 y.1.2.2.2.2.2.2.1 y.1.2.2.2.2.2.2.2.1 y.1.2.2.2.2.2.2.2.2.1 y.1.2.2.2.2.2.2.2.2.2.1 y.1.2.2.2.2.2.2.2.2.2.2.1) k ((b3_4, (step11_4, (node12_4, (found13_4, (i14_4, (t28_4, (t29_4, (t30_4, (t38_4, (t39_4, (t40_4, ()))))))))))), ((), ()))

noncomputable def basin_First_m_l1 (n : Nat) (r1 : Bas → Int → Int → Bool → List Psg → Int → Int → Option (Int × Int × Int × Unit)) (b3_1 : Bas) (step11_1 : Int) (node12_1 : Int) (found13_1 : Bool) (t28_1 : List Psg) (t29_1 : Int) (t30_1 : Int) : Option (Int × Int × Int × Unit) :=
  (bif Decidable.decide (t30_1 < t29_1) then (Option.bind (Go.Vx.idx t28_1 t30_1) fun (v2 : Psg) => (Option.bind (Go.Tw.basin_Basin_above_M b3_1 (v2.snd.snd.fst.getD [])) fun (v3 : List Int × Unit) => (basin_First_m_w4 n r1 n (b3_1) (step11_1) (node12_1) (found13_1) (t30_1) (t28_1) (t29_1) (t30_1) (v3.fst) ((↑v3.fst.length : Int)) ((0 : Int))))) else Option.some (step11_1, node12_1, (Go.Tw.basin_when (!found13_1) (7 : Int)).fst, ()))

noncomputable def basin_First_m_w1 (n : Nat)  (k : Nat) (b3_1 : Bas) (step11_1 : Int) (node12_1 : Int) (found13_1 : Bool) (t28_1 : List Psg) (t29_1 : Int) (t30_1 : Int) : Option (Int × Int × Int × Unit) :=
  iter (fun r y => basin_First_m_l1 n (fun b3_1 step11_1 node12_1 found13_1 t28_1 t29_1 t30_1 => r ((b3_1, (step11_1, (node12_1, (found13_1, (t28_1, (t29_1, (t30_1, ()))))))), ((), ()))) y.1.1 y.1.2.1 y.1.2.2.1 y.1.2.2.2.1 y.1.2.2.2.2.1 y.1.2.2.2.2.2.1 y.1.2.2.2.2.2.2.1) k ((b3_1, (step11_1, (node12_1, (found13_1, (t28_1, (t29_1, (t30_1, ()))))))), ((), ()))

noncomputable def basin_First_m (n : Nat) (b : Bas) (v : List Int) (l : List Cnd) : Option (Int × Int × Int × Unit) :=
  (Option.bind (Go.Tw.basin_checked_M b v l) fun (v0 : List Psg × Int × Unit) => (bif v0.snd.fst != (0 : Int) then Option.some ((0 : Int), (0 : Int), v0.snd.fst, ()) else (basin_First_m_w1 n n (b) ((0 : Int)) ((0 : Int)) (Bool.false) (v0.fst) ((↑v0.fst.length : Int)) ((0 : Int)))))

theorem basin_First_eq (n : Nat) (x : basin_First_a.den) : runF basin_First_g (basin_First_an n) Tryz.f48 basin_First_a basin_First_r x = basin_First_m n x.1 x.2.1 x.2.2.1 := by kernel_rfl

noncomputable def basin_First_b4 (b3_4 : Bas) (step11_4 : Int) (node12_4 : Int) (found13_4 : Bool) (i14_4 : Int) (t28_4 : List Psg) (t29_4 : Int) (t30_4 : Int) (t38_4 : List Int) (t40_4 : Int) (v5 : Int) : Option (((Int × Int × Int × Unit) ⊕ Unit) ⊕ Unit) :=
  (some (Sum.inl (Sum.inl ((i14_4, v5, (Go.Tw.basin_when (!Bool.true) (7 : Int)).fst, ())))))

noncomputable def basin_First_f4 (b3_4 : Bas) (step11_4 : Int) (node12_4 : Int) (found13_4 : Bool) (i14_4 : Int) (t28_4 : List Psg) (t29_4 : Int) (t30_4 : Int) (t38_4 : List Int) : Option ((Int × Int × Int × Unit) ⊕ Unit) :=
  (some (Sum.inr ()))

theorem basin_First_m_w4_le (n : Nat) (hn : big ≤ n)  (r1 : Bas → Int → Int → Bool → List Psg → Int → Int → Option (Int × Int × Int × Unit)) (b3_4 : Bas) (step11_4 : Int) (node12_4 : Int) (found13_4 : Bool) (i14_4 : Int) (t28_4 : List Psg) (t29_4 : Int) (t30_4 : Int) (t38_4 : List Int) (hx : List.length (t38_4) < lenMax) : LeF (elim some fun (s__ : Unit) => r1 b3_4 step11_4 node12_4 found13_4 t28_4 t29_4 (Go.IntKind.i64.wrap (t30_4 + 1))) (loopL (fun i__ e__ s__ => basin_First_b4 b3_4 step11_4 node12_4 found13_4 i14_4 t28_4 t29_4 t30_4 t38_4 i__ e__) (fun s__ => basin_First_f4 b3_4 step11_4 node12_4 found13_4 i14_4 t28_4 t29_4 t30_4 t38_4) 0 (t38_4) ()) (basin_First_m_w4 n r1 n b3_4 step11_4 node12_4 found13_4 i14_4 t28_4 t29_4 t30_4 t38_4 (List.length (t38_4) : Int) 0) := by
  refine loopL_le (f := (elim some fun (s__ : Unit) => r1 b3_4 step11_4 node12_4 found13_4 t28_4 t29_4 (Go.IntKind.i64.wrap (t30_4 + 1)))) (W := fun k__ i__ s__ => basin_First_m_w4 n r1 k__ b3_4 step11_4 node12_4 found13_4 i14_4 t28_4 t29_4 t30_4 t38_4 (List.length (t38_4) : Int) i__) (body := (fun i__ e__ s__ => basin_First_b4 b3_4 step11_4 node12_4 found13_4 i14_4 t28_4 t29_4 t30_4 t38_4 i__ e__)) (fin := (fun s__ => basin_First_f4 b3_4 step11_4 node12_4 found13_4 i14_4 t28_4 t29_4 t30_4 t38_4)) (fun k__ i__ s__ => ?_) hx () n (by unfold big at hn; unfold lenMax at hx; omega)
  show LeF _ _ (basin_First_m_l4 n r1 (basin_First_m_w4 n r1 k__) b3_4 step11_4 node12_4 found13_4 i14_4 t28_4 t29_4 t30_4 t38_4 (List.length (t38_4) : Int) i__)
  exact leCond (leBind fun v5 => (leSome rfl)) (leMap (leSome rfl))

noncomputable def basin_First_b1 (b3_1 : Bas) (step11_1 : Int) (node12_1 : Int) (found13_1 : Bool) (t28_1 : List Psg) (t30_1 : Int) (v2 : Psg) : Option ((Int × Int × Int × Unit) ⊕ Unit) :=
  (Option.bind (Go.Tw.basin_Basin_above_M b3_1 (v2.snd.snd.fst.getD [])) fun (v3 : List Int × Unit) => (bif decide (List.length (v3.fst) < lenMax) then loopL (fun i__ e__ s__ => basin_First_b4 (b3_1) (step11_1) (node12_1) (found13_1) (t30_1) (t28_1) ((↑t28_1.length : Int)) (t30_1) (v3.fst) i__ e__) (fun s__ => basin_First_f4 (b3_1) (step11_1) (node12_1) (found13_1) (t30_1) (t28_1) ((↑t28_1.length : Int)) (t30_1) (v3.fst)) 0 (v3.fst) () else none))

noncomputable def basin_First_f1 (b3_1 : Bas) (step11_1 : Int) (node12_1 : Int) (found13_1 : Bool) (t28_1 : List Psg) : Option (Int × Int × Int × Unit) :=
  (some ((step11_1, node12_1, (Go.Tw.basin_when (!found13_1) (7 : Int)).fst, ())))

theorem basin_First_m_w1_le (n : Nat) (hn : big ≤ n)  (b3_1 : Bas) (step11_1 : Int) (node12_1 : Int) (found13_1 : Bool) (t28_1 : List Psg) (hx : List.length (t28_1) < lenMax) : LeF some (loopL (fun i__ e__ s__ => basin_First_b1 b3_1 step11_1 node12_1 found13_1 t28_1 i__ e__) (fun s__ => basin_First_f1 b3_1 step11_1 node12_1 found13_1 t28_1) 0 (t28_1) ()) (basin_First_m_w1 n n b3_1 step11_1 node12_1 found13_1 t28_1 (List.length (t28_1) : Int) 0) := by
  refine loopL_le (f := some) (W := fun k__ i__ s__ => basin_First_m_w1 n k__ b3_1 step11_1 node12_1 found13_1 t28_1 (List.length (t28_1) : Int) i__) (body := (fun i__ e__ s__ => basin_First_b1 b3_1 step11_1 node12_1 found13_1 t28_1 i__ e__)) (fin := (fun s__ => basin_First_f1 b3_1 step11_1 node12_1 found13_1 t28_1)) (fun k__ i__ s__ => ?_) hx () n (by unfold big at hn; unfold lenMax at hx; omega)
  show LeF _ _ (basin_First_m_l1 n (basin_First_m_w1 n k__) b3_1 step11_1 node12_1 found13_1 t28_1 (List.length (t28_1) : Int) i__)
  exact leCond (leBind fun v2 => (leBind fun v3 => (leGuard fun hx => by apply basin_First_m_w4_le n hn; exact hx))) (leMap (leSome rfl))

noncomputable def basin_First_M (b : Bas) (v : List Int) (l : List Cnd) : Option (Int × Int × Int × Unit) :=
  (Option.bind (Go.Tw.basin_checked_M b v l) fun (v0 : List Psg × Int × Unit) => (bif v0.snd.fst != (0 : Int) then (some (((0 : Int), (0 : Int), v0.snd.fst, ()))) else (bif decide (List.length (v0.fst) < lenMax) then loopL (fun i__ e__ s__ => basin_First_b1 (b) ((0 : Int)) ((0 : Int)) (Bool.false) (v0.fst) i__ e__) (fun s__ => basin_First_f1 (b) ((0 : Int)) ((0 : Int)) (Bool.false) (v0.fst)) 0 (v0.fst) () else none)))

theorem basin_First_run (b : Bas) (v : List Int) (l : List Cnd) (y : Int × Int × Int × Unit) (h : basin_First_M b v l = some y) : ∃ n, basin_First_m n b v l = some y :=
  ⟨big, LeF.top (show LeF some (basin_First_M b v l) (basin_First_m big b v l) from (fun (n : Nat) (hn : big ≤ n) => show LeF some (basin_First_M b v l) (basin_First_m n b v l) from (leBind fun v0 => (leCond (leSome rfl) (leGuard fun hx => by apply basin_First_m_w1_le n hn; exact hx)))) big (Nat.le_refl _)) h⟩
noncomputable def basin_First_e : Entry := { f := 48, args := basin_First_a, ress := basin_First_r, m := fun x => basin_First_M x.1 x.2.1 x.2.2.1 }
theorem basin_First_ok : FnOK Tryz.prog basin_First_e := fn_ok (g := basin_First_g) (fn := Tryz.f48) hmixed tabOk (eCons basin_checked_ok (eCons basin_Basin_above_ok (eCons basin_when_ok eNil))) (by kernel_rfl) (by kernel_rfl) (by kernel_rfl) (fun x y h => let ⟨n, hn⟩ := basin_First_run x.1 x.2.1 x.2.2.1 y h; ⟨basin_First_an n, iNil, (basin_First_eq n x).trans hn⟩)

end Go.Tw
