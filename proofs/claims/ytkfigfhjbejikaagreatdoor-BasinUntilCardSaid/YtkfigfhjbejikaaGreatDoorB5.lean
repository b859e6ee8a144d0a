/- Models of the program's functions, by program (gen.py), and what they compute. -/
import Derived.Test.YtkfigfhjbejikaaGreatDoorBT
import Derived.Test.YtkfigfhjbejikaaGreatDoorB0
import Derived.Test.YtkfigfhjbejikaaGreatDoorB1
import Derived.Test.YtkfigfhjbejikaaGreatDoorB2
import Derived.Test.YtkfigfhjbejikaaGreatDoorB3
import Derived.Test.YtkfigfhjbejikaaGreatDoorB4
set_option linter.all false
set_option maxRecDepth 1000000
namespace Go.Tw
open Go.Vx Go.Vx.B Go.Proofs
/-! ### tidewayref04.Until -/
abbrev ref04_Until_a : Ty := .pair t25 (.pair t26 (.pair t28 (.pair t3 (.pair t3 .unit))))
abbrev ref04_Until_r : Ty := .pair t3 (.pair t3 .unit)
noncomputable def ref04_Until_g : G := { T := T, E := [ref04_Levels_e, ref04_Moved_e], muts := [], fz := [] }
def ref04_Until_k : List (List Nat) := [[1, 3, 4, 5, 7, 12]]
noncomputable def ref04_Until_an (n : Nat) : Ann := { keep := ref04_Until_k, fuel := n, inl := [], deep := 0 }
noncomputable def ref04_Until_m_l0 (n : Nat) (r0 : List Int → Int → Int → List (List UInt8 × Int × Int × Unit) × List (List UInt8 × Int × Int × Int × Int × Unit) × Unit → Int × Bool × List Int × Unit → Int → Option (Int × Int × Unit)) (v1_0 : List Int) (node3_0 : Int) (level4_0 : Int) (b5_0 : List (List UInt8 × Int × Int × Unit) × List (List UInt8 × Int × Int × Int × Int × Unit) × Unit) (c7_0 : Int × Bool × List Int × Unit) (n12_0 : Int) : Option (Int × Int × Unit) :=
  (bif Decidable.decide (n12_0 ≤ (96 : Int)) then (Option.bind (Go.Tw.ref04_Levels_M b5_0 v1_0) fun (v1 : List Int × Unit) => (Option.bind (Go.Vx.idx v1.fst node3_0) fun (v2 : Int) => (bif Decidable.decide (v2 ≥ level4_0) then Option.some (n12_0, (0 : Int), ()) else (bif n12_0 == (96 : Int) then Option.some ((0 : Int), (7 : Int), ()) else (Option.bind (Go.Tw.ref04_Moved_M b5_0 v1_0 c7_0) fun (v3 : List Int × List Int × Int × Unit) => (bif v3.snd.snd.fst != (0 : Int) then Option.some ((0 : Int), v3.snd.snd.fst, ()) else r0 v3.snd.fst node3_0 level4_0 b5_0 c7_0 (Go.IntKind.i64.wrap (n12_0 + (1 : Int))))))))) else Option.some ((0 : Int), (7 : Int), ()))

noncomputable def ref04_Until_m_w0 (n : Nat)  (k : Nat) (v1_0 : List Int) (node3_0 : Int) (level4_0 : Int) (b5_0 : List (List UInt8 × Int × Int × Unit) × List (List UInt8 × Int × Int × Int × Int × Unit) × Unit) (c7_0 : Int × Bool × List Int × Unit) (n12_0 : Int) : Option (Int × Int × Unit) :=
  iter (fun r y => ref04_Until_m_l0 n (fun v1_0 node3_0 level4_0 b5_0 c7_0 n12_0 => r ((v1_0, (node3_0, (level4_0, (b5_0, (c7_0, (n12_0, ())))))), ((), ()))) y.1.1 y.1.2.1 y.1.2.2.1 y.1.2.2.2.1 y.1.2.2.2.2.1 y.1.2.2.2.2.2.1) k ((v1_0, (node3_0, (level4_0, (b5_0, (c7_0, (n12_0, ())))))), ((), ()))
theorem ref04_Until_m_w0_succ (n : Nat)  (k : Nat) (v1_0 : List Int) (node3_0 : Int) (level4_0 : Int) (b5_0 : List (List UInt8 × Int × Int × Unit) × List (List UInt8 × Int × Int × Int × Int × Unit) × Unit) (c7_0 : Int × Bool × List Int × Unit) (n12_0 : Int) : ref04_Until_m_w0 n (k + 1) v1_0 node3_0 level4_0 b5_0 c7_0 n12_0 = ref04_Until_m_l0 n (ref04_Until_m_w0 n k) v1_0 node3_0 level4_0 b5_0 c7_0 n12_0 := rfl

noncomputable def ref04_Until_m (n : Nat) (b : List (List UInt8 × Int × Int × Unit) × List (List UInt8 × Int × Int × Int × Int × Unit) × Unit) (v : List Int) (c : Int × Bool × List Int × Unit) (node : Int) (level : Int) : Option (Int × Int × Unit) :=
  (ref04_Until_m_w0 n n (v) (node) (level) (b) (c) ((0 : Int)))

theorem ref04_Until_eq (n : Nat) (x : ref04_Until_a.den) : runF ref04_Until_g (ref04_Until_an n) Tryz.f23 ref04_Until_a ref04_Until_r x = ref04_Until_m n x.1 x.2.1 x.2.2.1 x.2.2.2.1 x.2.2.2.2.1 := by kernel_rfl

noncomputable def ref04_Until_b0 (node3_0 : Int) (level4_0 : Int) (b5_0 : List (List UInt8 × Int × Int × Unit) × List (List UInt8 × Int × Int × Int × Int × Unit) × Unit) (c7_0 : Int × Bool × List Int × Unit) (n12_0 : Int) (v1_0 : List Int) : Option ((Int × Int × Unit) ⊕ (List Int)) :=
  (Option.bind (Go.Tw.ref04_Levels_M b5_0 v1_0) fun (v1 : List Int × Unit) => (Option.bind (Go.Vx.idx v1.fst node3_0) fun (v2 : Int) => (bif Decidable.decide (v2 ≥ level4_0) then (some (Sum.inl ((n12_0, (0 : Int), ())))) else (bif n12_0 == (96 : Int) then (some (Sum.inl (((0 : Int), (7 : Int), ())))) else (Option.bind (Go.Tw.ref04_Moved_M b5_0 v1_0 c7_0) fun (v3 : List Int × List Int × Int × Unit) => (bif v3.snd.snd.fst != (0 : Int) then (some (Sum.inl (((0 : Int), v3.snd.snd.fst, ())))) else (some (Sum.inr (v3.snd.fst)))))))))

noncomputable def ref04_Until_f0 (node3_0 : Int) (level4_0 : Int) (b5_0 : List (List UInt8 × Int × Int × Unit) × List (List UInt8 × Int × Int × Int × Int × Unit) × Unit) (c7_0 : Int × Bool × List Int × Unit) (v1_0 : List Int) : Option (Int × Int × Unit) :=
  (some (((0 : Int), (7 : Int), ())))

theorem ref04_Until_m_w0_le (n : Nat) (hn : big ≤ n)  (node3_0 : Int) (level4_0 : Int) (b5_0 : List (List UInt8 × Int × Int × Unit) × List (List UInt8 × Int × Int × Int × Int × Unit) × Unit) (c7_0 : Int × Bool × List Int × Unit) (v1_0 : List Int) (hx : ((96 : Int)) ≤ (9223372036854775806 : Int)) : LeF some (loopN (fun i__ s__ => ref04_Until_b0 node3_0 level4_0 b5_0 c7_0 i__ s__) (fun s__ => ref04_Until_f0 node3_0 level4_0 b5_0 c7_0 s__) (((96 : Int)) + 1 - 0).toNat 0 v1_0) (ref04_Until_m_w0 n n v1_0 node3_0 level4_0 b5_0 c7_0 0) := by
  refine loopN_le' (f := some) (W := fun k__ i__ s__ => ref04_Until_m_w0 n k__ s__ node3_0 level4_0 b5_0 c7_0 i__) (body := (fun i__ s__ => ref04_Until_b0 node3_0 level4_0 b5_0 c7_0 i__ s__)) (fin := (fun s__ => ref04_Until_f0 node3_0 level4_0 b5_0 c7_0 s__)) (fun k__ i__ s__ => ?_) hx v1_0 n 0 (by decide) (by unfold big at hn; omega)
  show LeF _ _ (ref04_Until_m_l0 n (ref04_Until_m_w0 n k__) s__ node3_0 level4_0 b5_0 c7_0 i__)
  exact leCond (leBind fun v1 => (leBind fun v2 => (leCond (leSome rfl) (leCond (leSome rfl) (leBind fun v3 => (leCond (leSome rfl) (leSome rfl))))))) (leMap (leSome rfl))

noncomputable def ref04_Until_M (b : List (List UInt8 × Int × Int × Unit) × List (List UInt8 × Int × Int × Int × Int × Unit) × Unit) (v : List Int) (c : Int × Bool × List Int × Unit) (node : Int) (level : Int) : Option (Int × Int × Unit) :=
  (bif decide (((96 : Int)) ≤ (9223372036854775806 : Int)) then loopN (fun i__ s__ => ref04_Until_b0 (node) (level) (b) (c) i__ s__) (fun s__ => ref04_Until_f0 (node) (level) (b) (c) s__) (((96 : Int)) + 1 - 0).toNat 0 (v) else none)

theorem ref04_Until_run (b : List (List UInt8 × Int × Int × Unit) × List (List UInt8 × Int × Int × Int × Int × Unit) × Unit) (v : List Int) (c : Int × Bool × List Int × Unit) (node : Int) (level : Int) (y : Int × Int × Unit) (h : ref04_Until_M b v c node level = some y) : ∃ n, ref04_Until_m n b v c node level = some y :=
  ⟨big, LeF.top (show LeF some (ref04_Until_M b v c node level) (ref04_Until_m big b v c node level) from (fun (n : Nat) (hn : big ≤ n) => show LeF some (ref04_Until_M b v c node level) (ref04_Until_m n b v c node level) from (leGuard fun hx => by apply ref04_Until_m_w0_le n hn; exact hx)) big (Nat.le_refl _)) h⟩
noncomputable def ref04_Until_e : Entry := { f := 23, args := ref04_Until_a, ress := ref04_Until_r, m := fun x => ref04_Until_M x.1 x.2.1 x.2.2.1 x.2.2.2.1 x.2.2.2.2.1 }
theorem ref04_Until_ok : FnOK Tryz.prog ref04_Until_e := fn_ok (g := ref04_Until_g) (fn := Tryz.f23) hmixed tabOk (eCons ref04_Levels_ok (eCons ref04_Moved_ok eNil)) (by kernel_rfl) (by kernel_rfl) (by kernel_rfl) (fun x y h => let ⟨n, hn⟩ := ref04_Until_run x.1 x.2.1 x.2.2.1 x.2.2.2.1 x.2.2.2.2.1 y h; ⟨ref04_Until_an n, iNil, (ref04_Until_eq n x).trans hn⟩)

/-! ### tidewayref04.CheckVolumes -/
abbrev ref04_CheckVolumes_a : Ty := .pair t25 (.pair t26 .unit)
abbrev ref04_CheckVolumes_r : Ty := .pair t3 .unit
noncomputable def ref04_CheckVolumes_g : G := { T := T, E := [ref04_CheckBasin_e, ref04_OnlyVolumes_e], muts := [], fz := [] }
def ref04_CheckVolumes_k : List (List Nat) := []
noncomputable def ref04_CheckVolumes_an (n : Nat) : Ann := { keep := ref04_CheckVolumes_k, fuel := n, inl := [], deep := 0 }
noncomputable def ref04_CheckVolumes_m (n : Nat) (b : List (List UInt8 × Int × Int × Unit) × List (List UInt8 × Int × Int × Int × Int × Unit) × Unit) (v : List Int) : Option (Int × Unit) :=
  (Option.bind (Go.Tw.ref04_CheckBasin_M b) fun (v0 : Int × Unit) => (bif v0.fst != (0 : Int) then Option.some (v0.fst, ()) else (Option.bind (Go.Tw.ref04_OnlyVolumes_M b v) fun (v1 : Int × Unit) => Option.some (v1.fst, ()))))

theorem ref04_CheckVolumes_eq (n : Nat) (x : ref04_CheckVolumes_a.den) : runF ref04_CheckVolumes_g (ref04_CheckVolumes_an n) Tryz.f32 ref04_CheckVolumes_a ref04_CheckVolumes_r x = ref04_CheckVolumes_m n x.1 x.2.1 := by kernel_rfl

noncomputable def ref04_CheckVolumes_M (b : List (List UInt8 × Int × Int × Unit) × List (List UInt8 × Int × Int × Int × Int × Unit) × Unit) (v : List Int) : Option (Int × Unit) := ref04_CheckVolumes_m 0 b v

theorem ref04_CheckVolumes_run (b : List (List UInt8 × Int × Int × Unit) × List (List UInt8 × Int × Int × Int × Int × Unit) × Unit) (v : List Int) (y : Int × Unit) (h : ref04_CheckVolumes_M b v = some y) : ∃ n, ref04_CheckVolumes_m n b v = some y := ⟨0, h⟩
noncomputable def ref04_CheckVolumes_e : Entry := { f := 32, args := ref04_CheckVolumes_a, ress := ref04_CheckVolumes_r, m := fun x => ref04_CheckVolumes_M x.1 x.2.1 }
theorem ref04_CheckVolumes_ok : FnOK Tryz.prog ref04_CheckVolumes_e := fn_ok (g := ref04_CheckVolumes_g) (fn := Tryz.f32) hmixed tabOk (eCons ref04_CheckBasin_ok (eCons ref04_OnlyVolumes_ok eNil)) (by kernel_rfl) (by kernel_rfl) (by kernel_rfl) (fun x y h => let ⟨n, hn⟩ := ref04_CheckVolumes_run x.1 x.2.1 y h; ⟨ref04_CheckVolumes_an n, iNil, (ref04_CheckVolumes_eq n x).trans hn⟩)

/-! ### (basin.Basin).checkCondition -/
abbrev basin_Basin_checkCondition_a : Ty := .pair t41 (.pair t44 .unit)
abbrev basin_Basin_checkCondition_r : Ty := .pair t35 .unit
noncomputable def basin_Basin_checkCondition_g : G := { T := T, E := [basin_checkTide_e, basin_when_e, basin_mapped_int_api_Errno_e, basin_checkInflow_e, basin_first_e], muts := [], fz := [] }
def basin_Basin_checkCondition_k : List (List Nat) := []
noncomputable def basin_Basin_checkCondition_an (n : Nat) : Ann := { keep := basin_Basin_checkCondition_k, fuel := n, inl := [], deep := 0 }
noncomputable def basin_Basin_checkCondition_m (n : Nat) (b : List (List UInt8 × Int × Int × Unit) × List (List UInt8 × Int × Int × Int × Int × Unit) × Unit) (c : Int × Bool × List Int × Unit) : Option (Int × Unit) :=
  (Option.bind (Go.Tw.basin_mapped_int_api_Errno_M c.snd.snd.fst fun (x : Int × Unit) => Go.Tw.basin_checkInflow_M x.fst) fun (v0 : List Int × Unit) => (Option.bind (Go.Tw.basin_first_M v0.fst) fun (v1 : Int × Unit) => (Option.bind (Go.Tw.basin_first_M [(Go.Tw.basin_checkTide c.fst).fst, (Go.Tw.basin_when ((↑c.snd.snd.fst.length : Int) != (↑b.fst.length : Int)) (2 : Int)).fst, v1.fst]) fun (v2 : Int × Unit) => Option.some (v2.fst, ()))))

theorem basin_Basin_checkCondition_eq (n : Nat) (x : basin_Basin_checkCondition_a.den) : runF basin_Basin_checkCondition_g (basin_Basin_checkCondition_an n) Tryz.f88 basin_Basin_checkCondition_a basin_Basin_checkCondition_r x = basin_Basin_checkCondition_m n x.1 x.2.1 := by kernel_rfl

noncomputable def basin_Basin_checkCondition_M (b : List (List UInt8 × Int × Int × Unit) × List (List UInt8 × Int × Int × Int × Int × Unit) × Unit) (c : Int × Bool × List Int × Unit) : Option (Int × Unit) := basin_Basin_checkCondition_m 0 b c

theorem basin_Basin_checkCondition_run (b : List (List UInt8 × Int × Int × Unit) × List (List UInt8 × Int × Int × Int × Int × Unit) × Unit) (c : Int × Bool × List Int × Unit) (y : Int × Unit) (h : basin_Basin_checkCondition_M b c = some y) : ∃ n, basin_Basin_checkCondition_m n b c = some y := ⟨0, h⟩
noncomputable def basin_Basin_checkCondition_e : Entry := { f := 88, args := basin_Basin_checkCondition_a, ress := basin_Basin_checkCondition_r, m := fun x => basin_Basin_checkCondition_M x.1 x.2.1 }
theorem basin_Basin_checkCondition_ok : FnOK Tryz.prog basin_Basin_checkCondition_e := fn_ok (g := basin_Basin_checkCondition_g) (fn := Tryz.f88) hmixed tabOk (eCons basin_checkTide_ok (eCons basin_when_ok (eCons basin_mapped_int_api_Errno_ok (eCons basin_checkInflow_ok (eCons basin_first_ok eNil))))) (by kernel_rfl) (by kernel_rfl) (by kernel_rfl) (fun x y h => let ⟨n, hn⟩ := basin_Basin_checkCondition_run x.1 x.2.1 y h; ⟨basin_Basin_checkCondition_an n, iNil, (basin_Basin_checkCondition_eq n x).trans hn⟩)

/-! ### (basin.Basin).checkVolumes -/
abbrev basin_Basin_checkVolumes_a : Ty := .pair t41 (.pair t26 .unit)
abbrev basin_Basin_checkVolumes_r : Ty := .pair t35 .unit
noncomputable def basin_Basin_checkVolumes_g : G := { T := T, E := [basin_when_e, basin_mapped_int_api_Errno_e, basin_Basin_checkVolumes_1_e, basin_first_e], muts := [], fz := [] }
def basin_Basin_checkVolumes_k : List (List Nat) := []
noncomputable def basin_Basin_checkVolumes_an (n : Nat) : Ann := { keep := basin_Basin_checkVolumes_k, fuel := n, inl := [], deep := 0 }
noncomputable def basin_Basin_checkVolumes_m (n : Nat) (b : List (List UInt8 × Int × Int × Unit) × List (List UInt8 × Int × Int × Int × Int × Unit) × Unit) (v : List Int) : Option (Int × Unit) :=
  (Option.bind (Go.Tw.basin_mapped_int_api_Errno_M v fun (x : Int × Unit) => Go.Tw.basin_Basin_checkVolumes_1_M x.fst) fun (v0 : List Int × Unit) => (Option.bind (Go.Tw.basin_first_M v0.fst) fun (v1 : Int × Unit) => (Option.bind (Go.Tw.basin_first_M [(Go.Tw.basin_when ((↑v.length : Int) != (↑b.fst.length : Int)) (2 : Int)).fst, v1.fst]) fun (v2 : Int × Unit) => Option.some (v2.fst, ()))))

theorem basin_Basin_checkVolumes_eq (n : Nat) (x : basin_Basin_checkVolumes_a.den) : runF basin_Basin_checkVolumes_g (basin_Basin_checkVolumes_an n) Tryz.f104 basin_Basin_checkVolumes_a basin_Basin_checkVolumes_r x = basin_Basin_checkVolumes_m n x.1 x.2.1 := by kernel_rfl

noncomputable def basin_Basin_checkVolumes_M (b : List (List UInt8 × Int × Int × Unit) × List (List UInt8 × Int × Int × Int × Int × Unit) × Unit) (v : List Int) : Option (Int × Unit) := basin_Basin_checkVolumes_m 0 b v

theorem basin_Basin_checkVolumes_run (b : List (List UInt8 × Int × Int × Unit) × List (List UInt8 × Int × Int × Int × Int × Unit) × Unit) (v : List Int) (y : Int × Unit) (h : basin_Basin_checkVolumes_M b v = some y) : ∃ n, basin_Basin_checkVolumes_m n b v = some y := ⟨0, h⟩
noncomputable def basin_Basin_checkVolumes_e : Entry := { f := 104, args := basin_Basin_checkVolumes_a, ress := basin_Basin_checkVolumes_r, m := fun x => basin_Basin_checkVolumes_M x.1 x.2.1 }
theorem basin_Basin_checkVolumes_ok : FnOK Tryz.prog basin_Basin_checkVolumes_e := fn_ok (g := basin_Basin_checkVolumes_g) (fn := Tryz.f104) hmixed tabOk (eCons basin_when_ok (eCons basin_mapped_int_api_Errno_ok (eCons basin_Basin_checkVolumes_1_ok (eCons basin_first_ok eNil)))) (by kernel_rfl) (by kernel_rfl) (by kernel_rfl) (fun x y h => let ⟨n, hn⟩ := basin_Basin_checkVolumes_run x.1 x.2.1 y h; ⟨basin_Basin_checkVolumes_an n, iNil, (basin_Basin_checkVolumes_eq n x).trans hn⟩)

/-! ### basin.table -/
abbrev basin_table_a : Ty := .unit
abbrev basin_table_r : Ty := .pair t222 .unit
noncomputable def basin_table_g : G := { T := T, E := [basin_place_barrier_e, basin_table_1_e, basin_table_2_e, basin_table_3_e, basin_table_4_e], muts := [], fz := [] }
def basin_table_k : List (List Nat) := []
noncomputable def basin_table_an (n : Nat) : Ann := { keep := basin_table_k, fuel := n, inl := [], deep := 0 }
noncomputable def basin_table_m (n : Nat)  : Option (List (List UInt8 × List Bool × (((List UInt8 × Int × Int × Int × Int × Unit) × Int × Int × Int × Bool × Unit) × Unit → Option (Int × Unit)) × Unit) × Unit) :=
  Option.some ([([(98 : UInt8), (97 : UInt8), (114 : UInt8), (114 : UInt8), (105 : UInt8), (101 : UInt8), (114 : UInt8)], [Bool.true, Bool.false], fun (x : ((List UInt8 × Int × Int × Int × Int × Unit) × Int × Int × Int × Bool × Unit) × Unit) => Go.Tw.basin_place_barrier_M x.fst, ()), ([(108 : UInt8), (101 : UInt8), (97 : UInt8), (107 : UInt8)], [Bool.true, Bool.false], fun (x : ((List UInt8 × Int × Int × Int × Int × Unit) × Int × Int × Int × Bool × Unit) × Unit) => Go.Tw.basin_table_1_M x.fst, ()), ([(111 : UInt8), (117 : UInt8), (116 : UInt8), (102 : UInt8), (97 : UInt8), (108 : UInt8), (108 : UInt8)], [Bool.false, Bool.true], fun (x : ((List UInt8 × Int × Int × Int × Int × Unit) × Int × Int × Int × Bool × Unit) × Unit) => Go.Tw.basin_table_2_M x.fst, ()), ([(112 : UInt8), (117 : UInt8), (109 : UInt8), (112 : UInt8)], [Bool.false, Bool.false], fun (x : ((List UInt8 × Int × Int × Int × Int × Unit) × Int × Int × Int × Bool × Unit) × Unit) => Go.Tw.basin_table_3_M x.fst, ()), ([(119 : UInt8), (101 : UInt8), (105 : UInt8), (114 : UInt8)], [Bool.false, Bool.false], fun (x : ((List UInt8 × Int × Int × Int × Int × Unit) × Int × Int × Int × Bool × Unit) × Unit) => Go.Tw.basin_table_4_M x.fst, ())], ())

theorem basin_table_eq (n : Nat) (x : basin_table_a.den) : runF basin_table_g (basin_table_an n) Tryz.f141 basin_table_a basin_table_r x = basin_table_m n := by kernel_rfl

noncomputable def basin_table  : (List (List UInt8 × List Bool × (((List UInt8 × Int × Int × Int × Int × Unit) × Int × Int × Int × Bool × Unit) × Unit → Option (Int × Unit)) × Unit) × Unit) :=
  ([([(98 : UInt8), (97 : UInt8), (114 : UInt8), (114 : UInt8), (105 : UInt8), (101 : UInt8), (114 : UInt8)], [Bool.true, Bool.false], fun (x : ((List UInt8 × Int × Int × Int × Int × Unit) × Int × Int × Int × Bool × Unit) × Unit) => Go.Tw.basin_place_barrier_M x.fst, ()), ([(108 : UInt8), (101 : UInt8), (97 : UInt8), (107 : UInt8)], [Bool.true, Bool.false], fun (x : ((List UInt8 × Int × Int × Int × Int × Unit) × Int × Int × Int × Bool × Unit) × Unit) => Go.Tw.basin_table_1_M x.fst, ()), ([(111 : UInt8), (117 : UInt8), (116 : UInt8), (102 : UInt8), (97 : UInt8), (108 : UInt8), (108 : UInt8)], [Bool.false, Bool.true], fun (x : ((List UInt8 × Int × Int × Int × Int × Unit) × Int × Int × Int × Bool × Unit) × Unit) => Go.Tw.basin_table_2_M x.fst, ()), ([(112 : UInt8), (117 : UInt8), (109 : UInt8), (112 : UInt8)], [Bool.false, Bool.false], fun (x : ((List UInt8 × Int × Int × Int × Int × Unit) × Int × Int × Int × Bool × Unit) × Unit) => Go.Tw.basin_table_3_M x.fst, ()), ([(119 : UInt8), (101 : UInt8), (105 : UInt8), (114 : UInt8)], [Bool.false, Bool.false], fun (x : ((List UInt8 × Int × Int × Int × Int × Unit) × Int × Int × Int × Bool × Unit) × Unit) => Go.Tw.basin_table_4_M x.fst, ())], ())

noncomputable abbrev basin_table_M  : Option (List (List UInt8 × List Bool × (((List UInt8 × Int × Int × Int × Int × Unit) × Int × Int × Int × Bool × Unit) × Unit → Option (Int × Unit)) × Unit) × Unit) := some (basin_table)

theorem basin_table_run  (y : List (List UInt8 × List Bool × (((List UInt8 × Int × Int × Int × Int × Unit) × Int × Int × Int × Bool × Unit) × Unit → Option (Int × Unit)) × Unit) × Unit) (h : basin_table_M = some y) : ∃ n, basin_table_m n = some y :=
  ⟨0, by rw [← h]; show basin_table_m 0 = some (basin_table); unfold basin_table_m basin_table; first | rfl | (simp only [cond_some]; done) | (simp only [cond_some]; rfl)⟩
noncomputable def basin_table_e : Entry := { f := 141, args := basin_table_a, ress := basin_table_r, m := fun x => basin_table_M }
theorem basin_table_ok : FnOK Tryz.prog basin_table_e := fn_ok (g := basin_table_g) (fn := Tryz.f141) hmixed tabOk (eCons basin_place_barrier_ok (eCons basin_table_1_ok (eCons basin_table_2_ok (eCons basin_table_3_ok (eCons basin_table_4_ok eNil))))) (by kernel_rfl) (by kernel_rfl) (by kernel_rfl) (fun x y h => let ⟨n, hn⟩ := basin_table_run y h; ⟨basin_table_an n, iNil, (basin_table_eq n x).trans hn⟩)

/-! ### (basin.Range).corner -/
abbrev basin_Range_corner_a : Ty := .pair t104 (.pair t3 .unit)
abbrev basin_Range_corner_r : Ty := .pair t44 .unit
noncomputable def basin_Range_corner_g : G := { T := T, E := [basin_ends_e, basin_end_e], muts := [], fz := [] }
def basin_Range_corner_k : List (List Nat) := []
noncomputable def basin_Range_corner_an (n : Nat) : Ann := { keep := basin_Range_corner_k, fuel := n, inl := [], deep := 0 }
noncomputable def basin_Range_corner_m (n : Nat) (r1 : (Int × Int × Unit) × Bool × List (Int × Int × Unit) × Unit) (upper : Int) : Option ((Int × Bool × List Int × Unit) × Unit) :=
  (Option.bind (Go.Vx.idx (Go.Tw.basin_ends r1.fst).fst upper) fun (v0 : Int) => (Option.bind (Go.Tw.basin_end_M r1.snd.snd.fst upper) fun (v1 : List Int × Unit) => Option.some ((v0, r1.snd.fst, v1.fst, ()), ())))

theorem basin_Range_corner_eq (n : Nat) (x : basin_Range_corner_a.den) : runF basin_Range_corner_g (basin_Range_corner_an n) Tryz.f154 basin_Range_corner_a basin_Range_corner_r x = basin_Range_corner_m n x.1 x.2.1 := by kernel_rfl

noncomputable def basin_Range_corner_M (r1 : (Int × Int × Unit) × Bool × List (Int × Int × Unit) × Unit) (upper : Int) : Option ((Int × Bool × List Int × Unit) × Unit) := basin_Range_corner_m 0 r1 upper

theorem basin_Range_corner_run (r1 : (Int × Int × Unit) × Bool × List (Int × Int × Unit) × Unit) (upper : Int) (y : (Int × Bool × List Int × Unit) × Unit) (h : basin_Range_corner_M r1 upper = some y) : ∃ n, basin_Range_corner_m n r1 upper = some y := ⟨0, h⟩
noncomputable def basin_Range_corner_e : Entry := { f := 154, args := basin_Range_corner_a, ress := basin_Range_corner_r, m := fun x => basin_Range_corner_M x.1 x.2.1 }
theorem basin_Range_corner_ok : FnOK Tryz.prog basin_Range_corner_e := fn_ok (g := basin_Range_corner_g) (fn := Tryz.f154) hmixed tabOk (eCons basin_ends_ok (eCons basin_end_ok eNil)) (by kernel_rfl) (by kernel_rfl) (by kernel_rfl) (fun x y h => let ⟨n, hn⟩ := basin_Range_corner_run x.1 x.2.1 y h; ⟨basin_Range_corner_an n, iNil, (basin_Range_corner_eq n x).trans hn⟩)

/-! ### (basin.Basin).checkRange$1 -/
abbrev basin_Basin_checkRange_1_a : Ty := .pair t96 .unit
abbrev basin_Basin_checkRange_1_r : Ty := .pair t35 .unit
noncomputable def basin_Basin_checkRange_1_g : G := { T := T, E := [basin_checkInterval_e, basin_checkInflow_e], muts := [], fz := [] }
def basin_Basin_checkRange_1_k : List (List Nat) := []
noncomputable def basin_Basin_checkRange_1_an (n : Nat) : Ann := { keep := basin_Basin_checkRange_1_k, fuel := n, inl := [], deep := 0 }
noncomputable def basin_Basin_checkRange_1_m (n : Nat) (x1 : Int × Int × Unit) : Option (Int × Unit) :=
  (Option.bind (Go.Tw.basin_checkInterval_M x1 fun (x : Int × Unit) => Go.Tw.basin_checkInflow_M x.fst) fun (v0 : Int × Unit) => Option.some (v0.fst, ()))

theorem basin_Basin_checkRange_1_eq (n : Nat) (x : basin_Basin_checkRange_1_a.den) : runF basin_Basin_checkRange_1_g (basin_Basin_checkRange_1_an n) Tryz.f157 basin_Basin_checkRange_1_a basin_Basin_checkRange_1_r x = basin_Basin_checkRange_1_m n x.1 := by kernel_rfl

noncomputable def basin_Basin_checkRange_1_M (x1 : Int × Int × Unit) : Option (Int × Unit) := basin_Basin_checkRange_1_m 0 x1

theorem basin_Basin_checkRange_1_run (x1 : Int × Int × Unit) (y : Int × Unit) (h : basin_Basin_checkRange_1_M x1 = some y) : ∃ n, basin_Basin_checkRange_1_m n x1 = some y := ⟨0, h⟩
noncomputable def basin_Basin_checkRange_1_e : Entry := { f := 157, args := basin_Basin_checkRange_1_a, ress := basin_Basin_checkRange_1_r, m := fun x => basin_Basin_checkRange_1_M x.1 }
theorem basin_Basin_checkRange_1_ok : FnOK Tryz.prog basin_Basin_checkRange_1_e := fn_ok (g := basin_Basin_checkRange_1_g) (fn := Tryz.f157) hmixed tabOk (eCons basin_checkInterval_ok (eCons basin_checkInflow_ok eNil)) (by kernel_rfl) (by kernel_rfl) (by kernel_rfl) (fun x y h => let ⟨n, hn⟩ := basin_Basin_checkRange_1_run x.1 y h; ⟨basin_Basin_checkRange_1_an n, iNil, (basin_Basin_checkRange_1_eq n x).trans hn⟩)

end Go.Tw
