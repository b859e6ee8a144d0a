/- Models of the program's functions, by program (gen.py), and what they compute. -/
import Derived.Test.YtkfigfhjbejikaaGreatDoorBT
import Derived.Test.YtkfigfhjbejikaaGreatDoorB0
set_option linter.all false
set_option maxRecDepth 1000000
namespace Go.Tw
open Go.Vx Go.Vx.B Go.Proofs
/-! ### basin.when -/
abbrev basin_when_a : Ty := .pair t4 (.pair t35 .unit)
abbrev basin_when_r : Ty := .pair t35 .unit
noncomputable def basin_when_g : G := { T := T, E := [], muts := [], fz := [] }
def basin_when_k : List (List Nat) := []
noncomputable def basin_when_an (n : Nat) : Ann := { keep := basin_when_k, fuel := n, inl := [], deep := 0 }
noncomputable def basin_when_m (n : Nat) (holds : Bool) (e : Int) : Option (Int × Unit) :=
  (bif holds then Option.some (e, ()) else Option.some ((0 : Int), ()))

theorem basin_when_eq (n : Nat) (x : basin_when_a.den) : runF basin_when_g (basin_when_an n) Tryz.f89 basin_when_a basin_when_r x = basin_when_m n x.1 x.2.1 := by kernel_rfl

noncomputable def basin_when (holds : Bool) (e : Int) : (Int × Unit) :=
  (bif holds then (e, ()) else ((0 : Int), ()))

noncomputable abbrev basin_when_M (holds : Bool) (e : Int) : Option (Int × Unit) := some (basin_when holds e)

theorem basin_when_run (holds : Bool) (e : Int) (y : Int × Unit) (h : basin_when_M holds e = some y) : ∃ n, basin_when_m n holds e = some y :=
  ⟨0, by rw [← h]; show basin_when_m 0 holds e = some (basin_when holds e); unfold basin_when_m basin_when; first | rfl | (simp only [cond_some]; done) | (simp only [cond_some]; rfl)⟩
noncomputable def basin_when_e : Entry := { f := 89, args := basin_when_a, ress := basin_when_r, m := fun x => basin_when_M x.1 x.2.1 }
theorem basin_when_ok : FnOK Tryz.prog basin_when_e := fn_ok (g := basin_when_g) (fn := Tryz.f89) hmixed tabOk eNil (by kernel_rfl) (by kernel_rfl) (by kernel_rfl) (fun x y h => let ⟨n, hn⟩ := basin_when_run x.1 x.2.1 y h; ⟨basin_when_an n, iNil, (basin_when_eq n x).trans hn⟩)

/-! ### basin.first -/
abbrev basin_first_a : Ty := .pair t174 .unit
abbrev basin_first_r : Ty := .pair t35 .unit
noncomputable def basin_first_g : G := { T := T, E := [], muts := [], fz := [] }
def basin_first_k : List (List Nat) := [[5, 6, 7]]
noncomputable def basin_first_an (n : Nat) : Ann := { keep := basin_first_k, fuel := n, inl := [], deep := 0 }
noncomputable def basin_first_m_l0 (n : Nat) (r0 : List Int → Int → Int → Option (Int × Unit)) (t5_0 : List Int) (t6_0 : Int) (t7_0 : Int) : Option (Int × Unit) :=
  (bif Decidable.decide (t7_0 < t6_0) then (Option.bind (Go.Vx.idx t5_0 t7_0) fun (v1 : Int) => (bif v1 != (0 : Int) then Option.some (v1, ()) else r0 t5_0 t6_0 (Go.IntKind.i64.wrap (t7_0 + (1 : Int))))) else Option.some ((0 : Int), ()))

noncomputable def basin_first_m_w0 (n : Nat)  (k : Nat) (t5_0 : List Int) (t6_0 : Int) (t7_0 : Int) : Option (Int × Unit) :=
  iter (fun r y => basin_first_m_l0 n (fun t5_0 t6_0 t7_0 => r ((t5_0, (t6_0, (t7_0, ()))), ((), ()))) y.1.1 y.1.2.1 y.1.2.2.1) k ((t5_0, (t6_0, (t7_0, ()))), ((), ()))
theorem basin_first_m_w0_succ (n : Nat)  (k : Nat) (t5_0 : List Int) (t6_0 : Int) (t7_0 : Int) : basin_first_m_w0 n (k + 1) t5_0 t6_0 t7_0 = basin_first_m_l0 n (basin_first_m_w0 n k) t5_0 t6_0 t7_0 := rfl

noncomputable def basin_first_m (n : Nat) (l : List Int) : Option (Int × Unit) :=
  (basin_first_m_w0 n n (l) ((↑l.length : Int)) ((0 : Int)))

theorem basin_first_eq (n : Nat) (x : basin_first_a.den) : runF basin_first_g (basin_first_an n) Tryz.f87 basin_first_a basin_first_r x = basin_first_m n x.1 := by kernel_rfl

noncomputable def basin_first_b0 (t5_0 : List Int) (t7_0 : Int) (v1 : Int) : Option ((Int × Unit) ⊕ Unit) :=
  (bif v1 != (0 : Int) then (some (Sum.inl ((v1, ())))) else (some (Sum.inr ())))

noncomputable def basin_first_f0 (t5_0 : List Int) : Option (Int × Unit) :=
  (some (((0 : Int), ())))

theorem basin_first_m_w0_le (n : Nat) (hn : big ≤ n)  (t5_0 : List Int) (hx : List.length (t5_0) < lenMax) : LeF some (loopL (fun i__ e__ s__ => basin_first_b0 t5_0 i__ e__) (fun s__ => basin_first_f0 t5_0) 0 (t5_0) ()) (basin_first_m_w0 n n t5_0 (List.length (t5_0) : Int) 0) := by
  refine loopL_le (f := some) (W := fun k__ i__ s__ => basin_first_m_w0 n k__ t5_0 (List.length (t5_0) : Int) i__) (body := (fun i__ e__ s__ => basin_first_b0 t5_0 i__ e__)) (fin := (fun s__ => basin_first_f0 t5_0)) (fun k__ i__ s__ => ?_) hx () n (by unfold big at hn; unfold lenMax at hx; omega)
  show LeF _ _ (basin_first_m_l0 n (basin_first_m_w0 n k__) t5_0 (List.length (t5_0) : Int) i__)
  exact leCond (leBind fun v1 => (leCond (leSome rfl) (leSome rfl))) (leMap (leSome rfl))

noncomputable def basin_first_M (l : List Int) : Option (Int × Unit) :=
  (bif decide (List.length (l) < lenMax) then loopL (fun i__ e__ s__ => basin_first_b0 (l) i__ e__) (fun s__ => basin_first_f0 (l)) 0 (l) () else none)

theorem basin_first_run (l : List Int) (y : Int × Unit) (h : basin_first_M l = some y) : ∃ n, basin_first_m n l = some y :=
  ⟨big, LeF.top (show LeF some (basin_first_M l) (basin_first_m big l) from (fun (n : Nat) (hn : big ≤ n) => show LeF some (basin_first_M l) (basin_first_m n l) from (leGuard fun hx => by apply basin_first_m_w0_le n hn; exact hx)) big (Nat.le_refl _)) h⟩
noncomputable def basin_first_e : Entry := { f := 87, args := basin_first_a, ress := basin_first_r, m := fun x => basin_first_M x.1 }
theorem basin_first_ok : FnOK Tryz.prog basin_first_e := fn_ok (g := basin_first_g) (fn := Tryz.f87) hmixed tabOk eNil (by kernel_rfl) (by kernel_rfl) (by kernel_rfl) (fun x y h => let ⟨n, hn⟩ := basin_first_run x.1 y h; ⟨basin_first_an n, iNil, (basin_first_eq n x).trans hn⟩)

/-! ### (basin.Node).level -/
abbrev basin_Node_level_a : Ty := .pair t159 (.pair t3 .unit)
abbrev basin_Node_level_r : Ty := .pair t3 .unit
noncomputable def basin_Node_level_g : G := { T := T, E := [], muts := [], fz := [] }
def basin_Node_level_k : List (List Nat) := []
noncomputable def basin_Node_level_an (n : Nat) : Ann := { keep := basin_Node_level_k, fuel := n, inl := [], deep := 0 }
noncomputable def basin_Node_level_m (n : Nat) (n1 : List UInt8 × Int × Int × Unit) (volume : Int) : Option (Int × Unit) :=
  (bif n1.snd.fst == (0 : Int) then none else Option.some (Go.IntKind.i64.wrap (volume.tdiv n1.snd.fst), ()))

theorem basin_Node_level_eq (n : Nat) (x : basin_Node_level_a.den) : runF basin_Node_level_g (basin_Node_level_an n) Tryz.f91 basin_Node_level_a basin_Node_level_r x = basin_Node_level_m n x.1 x.2.1 := by kernel_rfl

noncomputable def basin_Node_level_M (n1 : List UInt8 × Int × Int × Unit) (volume : Int) : Option (Int × Unit) := basin_Node_level_m 0 n1 volume

theorem basin_Node_level_run (n1 : List UInt8 × Int × Int × Unit) (volume : Int) (y : Int × Unit) (h : basin_Node_level_M n1 volume = some y) : ∃ n, basin_Node_level_m n n1 volume = some y := ⟨0, h⟩
noncomputable def basin_Node_level_e : Entry := { f := 91, args := basin_Node_level_a, ress := basin_Node_level_r, m := fun x => basin_Node_level_M x.1 x.2.1 }
theorem basin_Node_level_ok : FnOK Tryz.prog basin_Node_level_e := fn_ok (g := basin_Node_level_g) (fn := Tryz.f91) hmixed tabOk eNil (by kernel_rfl) (by kernel_rfl) (by kernel_rfl) (fun x y h => let ⟨n, hn⟩ := basin_Node_level_run x.1 x.2.1 y h; ⟨basin_Node_level_an n, iNil, (basin_Node_level_eq n x).trans hn⟩)

/-! ### basin.floor -/
abbrev basin_floor_a : Ty := .pair t3 (.pair t3 .unit)
abbrev basin_floor_r : Ty := .pair t3 .unit
noncomputable def basin_floor_g : G := { T := T, E := [], muts := [], fz := [] }
def basin_floor_k : List (List Nat) := []
noncomputable def basin_floor_an (n : Nat) : Ann := { keep := basin_floor_k, fuel := n, inl := [], deep := 0 }
noncomputable def basin_floor_m (n : Nat) (a : Int) (b : Int) : Option (Int × Unit) :=
  (bif b == (0 : Int) then none else (bif Decidable.decide (Go.IntKind.i64.wrap (Go.IntKind.i64.wrap (a.tdiv b) * b) > a) then Option.some (Go.IntKind.i64.wrap (Go.IntKind.i64.wrap (a.tdiv b) - (1 : Int)), ()) else Option.some (Go.IntKind.i64.wrap (a.tdiv b), ())))

theorem basin_floor_eq (n : Nat) (x : basin_floor_a.den) : runF basin_floor_g (basin_floor_an n) Tryz.f199 basin_floor_a basin_floor_r x = basin_floor_m n x.1 x.2.1 := by kernel_rfl

noncomputable def basin_floor_M (a : Int) (b : Int) : Option (Int × Unit) := basin_floor_m 0 a b

theorem basin_floor_run (a : Int) (b : Int) (y : Int × Unit) (h : basin_floor_M a b = some y) : ∃ n, basin_floor_m n a b = some y := ⟨0, h⟩
noncomputable def basin_floor_e : Entry := { f := 199, args := basin_floor_a, ress := basin_floor_r, m := fun x => basin_floor_M x.1 x.2.1 }
theorem basin_floor_ok : FnOK Tryz.prog basin_floor_e := fn_ok (g := basin_floor_g) (fn := Tryz.f199) hmixed tabOk eNil (by kernel_rfl) (by kernel_rfl) (by kernel_rfl) (fun x y h => let ⟨n, hn⟩ := basin_floor_run x.1 x.2.1 y h; ⟨basin_floor_an n, iNil, (basin_floor_eq n x).trans hn⟩)

/-! ### tidewayref04.Floor -/
abbrev ref04_Floor_a : Ty := .pair t3 (.pair t3 .unit)
abbrev ref04_Floor_r : Ty := .pair t3 .unit
noncomputable def ref04_Floor_g : G := { T := T, E := [], muts := [], fz := [] }
def ref04_Floor_k : List (List Nat) := []
noncomputable def ref04_Floor_an (n : Nat) : Ann := { keep := ref04_Floor_k, fuel := n, inl := [], deep := 0 }
noncomputable def ref04_Floor_m (n : Nat) (a : Int) (b : Int) : Option (Int × Unit) :=
  (bif b == (0 : Int) then none else (bif Decidable.decide (Go.IntKind.i64.wrap (Go.IntKind.i64.wrap (a.tdiv b) * b) > a) then Option.some (Go.IntKind.i64.wrap (Go.IntKind.i64.wrap (a.tdiv b) - (1 : Int)), ()) else Option.some (Go.IntKind.i64.wrap (a.tdiv b), ())))

theorem ref04_Floor_eq (n : Nat) (x : ref04_Floor_a.den) : runF ref04_Floor_g (ref04_Floor_an n) Tryz.f152 ref04_Floor_a ref04_Floor_r x = ref04_Floor_m n x.1 x.2.1 := by kernel_rfl

noncomputable def ref04_Floor_M (a : Int) (b : Int) : Option (Int × Unit) := ref04_Floor_m 0 a b

theorem ref04_Floor_run (a : Int) (b : Int) (y : Int × Unit) (h : ref04_Floor_M a b = some y) : ∃ n, ref04_Floor_m n a b = some y := ⟨0, h⟩
noncomputable def ref04_Floor_e : Entry := { f := 152, args := ref04_Floor_a, ress := ref04_Floor_r, m := fun x => ref04_Floor_M x.1 x.2.1 }
theorem ref04_Floor_ok : FnOK Tryz.prog ref04_Floor_e := fn_ok (g := ref04_Floor_g) (fn := Tryz.f152) hmixed tabOk eNil (by kernel_rfl) (by kernel_rfl) (by kernel_rfl) (fun x y h => let ⟨n, hn⟩ := ref04_Floor_run x.1 x.2.1 y h; ⟨ref04_Floor_an n, iNil, (ref04_Floor_eq n x).trans hn⟩)

/-! ### tidewayref01.CheckRange -/
abbrev ref01_CheckRange_a : Ty := .pair t3 (.pair t3 (.pair t3 .unit))
abbrev ref01_CheckRange_r : Ty := .pair t3 .unit
noncomputable def ref01_CheckRange_g : G := { T := T, E := [], muts := [], fz := [] }
def ref01_CheckRange_k : List (List Nat) := []
noncomputable def ref01_CheckRange_an (n : Nat) : Ann := { keep := ref01_CheckRange_k, fuel := n, inl := [], deep := 0 }
noncomputable def ref01_CheckRange_m (n : Nat) (n1 : Int) (low : Int) (high : Int) : Option (Int × Unit) :=
  (bif Decidable.decide (n1 < low) then Option.some ((3 : Int), ()) else (bif Decidable.decide (n1 > high) then Option.some ((3 : Int), ()) else Option.some ((0 : Int), ())))

theorem ref01_CheckRange_eq (n : Nat) (x : ref01_CheckRange_a.den) : runF ref01_CheckRange_g (ref01_CheckRange_an n) Tryz.f93 ref01_CheckRange_a ref01_CheckRange_r x = ref01_CheckRange_m n x.1 x.2.1 x.2.2.1 := by kernel_rfl

noncomputable def ref01_CheckRange (n1 : Int) (low : Int) (high : Int) : (Int × Unit) :=
  (bif Decidable.decide (n1 < low) then ((3 : Int), ()) else (bif Decidable.decide (n1 > high) then ((3 : Int), ()) else ((0 : Int), ())))

noncomputable abbrev ref01_CheckRange_M (n1 : Int) (low : Int) (high : Int) : Option (Int × Unit) := some (ref01_CheckRange n1 low high)

theorem ref01_CheckRange_run (n1 : Int) (low : Int) (high : Int) (y : Int × Unit) (h : ref01_CheckRange_M n1 low high = some y) : ∃ n, ref01_CheckRange_m n n1 low high = some y :=
  ⟨0, by rw [← h]; show ref01_CheckRange_m 0 n1 low high = some (ref01_CheckRange n1 low high); unfold ref01_CheckRange_m ref01_CheckRange; first | rfl | (simp only [cond_some]; done) | (simp only [cond_some]; rfl)⟩
noncomputable def ref01_CheckRange_e : Entry := { f := 93, args := ref01_CheckRange_a, ress := ref01_CheckRange_r, m := fun x => ref01_CheckRange_M x.1 x.2.1 x.2.2.1 }
theorem ref01_CheckRange_ok : FnOK Tryz.prog ref01_CheckRange_e := fn_ok (g := ref01_CheckRange_g) (fn := Tryz.f93) hmixed tabOk eNil (by kernel_rfl) (by kernel_rfl) (by kernel_rfl) (fun x y h => let ⟨n, hn⟩ := ref01_CheckRange_run x.1 x.2.1 x.2.2.1 y h; ⟨ref01_CheckRange_an n, iNil, (ref01_CheckRange_eq n x).trans hn⟩)

/-! ### tidewayref01.First -/
abbrev ref01_First_a : Ty := .pair t26 .unit
abbrev ref01_First_r : Ty := .pair t3 .unit
noncomputable def ref01_First_g : G := { T := T, E := [], muts := [], fz := [] }
def ref01_First_k : List (List Nat) := [[0, 3]]
noncomputable def ref01_First_an (n : Nat) : Ann := { keep := ref01_First_k, fuel := n, inl := [], deep := 0 }
noncomputable def ref01_First_m_l0 (n : Nat) (r0 : List Int → Int → Option (Int × Unit)) (l0_0 : List Int) (i3_0 : Int) : Option (Int × Unit) :=
  (bif Decidable.decide (i3_0 < (↑l0_0.length : Int)) then (Option.bind (Go.Vx.idx l0_0 i3_0) fun (v1 : Int) => (bif v1 != (0 : Int) then (Option.bind (Go.Vx.idx l0_0 i3_0) fun (v2 : Int) => Option.some (v2, ())) else r0 l0_0 (Go.IntKind.i64.wrap (i3_0 + (1 : Int))))) else Option.some ((0 : Int), ()))

noncomputable def ref01_First_m_w0 (n : Nat)  (k : Nat) (l0_0 : List Int) (i3_0 : Int) : Option (Int × Unit) :=
  iter (fun r y => ref01_First_m_l0 n (fun l0_0 i3_0 => r ((l0_0, (i3_0, ())), ((), ()))) y.1.1 y.1.2.1) k ((l0_0, (i3_0, ())), ((), ()))
theorem ref01_First_m_w0_succ (n : Nat)  (k : Nat) (l0_0 : List Int) (i3_0 : Int) : ref01_First_m_w0 n (k + 1) l0_0 i3_0 = ref01_First_m_l0 n (ref01_First_m_w0 n k) l0_0 i3_0 := rfl

noncomputable def ref01_First_m (n : Nat) (l : List Int) : Option (Int × Unit) :=
  (ref01_First_m_w0 n n (l) ((0 : Int)))

theorem ref01_First_eq (n : Nat) (x : ref01_First_a.den) : runF ref01_First_g (ref01_First_an n) Tryz.f121 ref01_First_a ref01_First_r x = ref01_First_m n x.1 := by kernel_rfl

noncomputable def ref01_First_b0 (l0_0 : List Int) (i3_0 : Int) (v1 : Int) : Option ((Int × Unit) ⊕ Unit) :=
  (bif v1 != (0 : Int) then (Option.bind (Go.Vx.idx l0_0 i3_0) fun (v2 : Int) => (some (Sum.inl ((v2, ()))))) else (some (Sum.inr ())))

noncomputable def ref01_First_f0 (l0_0 : List Int) : Option (Int × Unit) :=
  (some (((0 : Int), ())))

theorem ref01_First_m_w0_le (n : Nat) (hn : big ≤ n)  (l0_0 : List Int) (hx : List.length (l0_0) < lenMax) : LeF some (loopL (fun i__ e__ s__ => ref01_First_b0 l0_0 i__ e__) (fun s__ => ref01_First_f0 l0_0) 0 (l0_0) ()) (ref01_First_m_w0 n n l0_0 0) := by
  refine loopL_le (f := some) (W := fun k__ i__ s__ => ref01_First_m_w0 n k__ l0_0 i__) (body := (fun i__ e__ s__ => ref01_First_b0 l0_0 i__ e__)) (fin := (fun s__ => ref01_First_f0 l0_0)) (fun k__ i__ s__ => ?_) hx () n (by unfold big at hn; unfold lenMax at hx; omega)
  show LeF _ _ (ref01_First_m_l0 n (ref01_First_m_w0 n k__) l0_0 i__)
  exact leCond (leBind fun v1 => (leCond (leBind fun v2 => (leSome rfl)) (leSome rfl))) (leMap (leSome rfl))

noncomputable def ref01_First_M (l : List Int) : Option (Int × Unit) :=
  (bif decide (List.length (l) < lenMax) then loopL (fun i__ e__ s__ => ref01_First_b0 (l) i__ e__) (fun s__ => ref01_First_f0 (l)) 0 (l) () else none)

theorem ref01_First_run (l : List Int) (y : Int × Unit) (h : ref01_First_M l = some y) : ∃ n, ref01_First_m n l = some y :=
  ⟨big, LeF.top (show LeF some (ref01_First_M l) (ref01_First_m big l) from (fun (n : Nat) (hn : big ≤ n) => show LeF some (ref01_First_M l) (ref01_First_m n l) from (leGuard fun hx => by apply ref01_First_m_w0_le n hn; exact hx)) big (Nat.le_refl _)) h⟩
noncomputable def ref01_First_e : Entry := { f := 121, args := ref01_First_a, ress := ref01_First_r, m := fun x => ref01_First_M x.1 }
theorem ref01_First_ok : FnOK Tryz.prog ref01_First_e := fn_ok (g := ref01_First_g) (fn := Tryz.f121) hmixed tabOk eNil (by kernel_rfl) (by kernel_rfl) (by kernel_rfl) (fun x y h => let ⟨n, hn⟩ := ref01_First_run x.1 y h; ⟨ref01_First_an n, iNil, (ref01_First_eq n x).trans hn⟩)

/-! ### tidewayref04.sea -/
abbrev ref04_sea_a : Ty := .pair t9 .unit
abbrev ref04_sea_r : Ty := .pair t4 (.pair t4 .unit)
noncomputable def ref04_sea_g : G := { T := T, E := [], muts := [], fz := [] }
def ref04_sea_k : List (List Nat) := []
noncomputable def ref04_sea_an (n : Nat) : Ann := { keep := ref04_sea_k, fuel := n, inl := [], deep := 0 }
noncomputable def ref04_sea_m (n : Nat) (kind : List UInt8) : Option (Bool × Bool × Unit) :=
  (bif kind == [(98 : UInt8), (97 : UInt8), (114 : UInt8), (114 : UInt8), (105 : UInt8), (101 : UInt8), (114 : UInt8)] then Option.some (Bool.true, kind == [(111 : UInt8), (117 : UInt8), (116 : UInt8), (102 : UInt8), (97 : UInt8), (108 : UInt8), (108 : UInt8)], ()) else Option.some (kind == [(108 : UInt8), (101 : UInt8), (97 : UInt8), (107 : UInt8)], kind == [(111 : UInt8), (117 : UInt8), (116 : UInt8), (102 : UInt8), (97 : UInt8), (108 : UInt8), (108 : UInt8)], ()))

theorem ref04_sea_eq (n : Nat) (x : ref04_sea_a.den) : runF ref04_sea_g (ref04_sea_an n) Tryz.f145 ref04_sea_a ref04_sea_r x = ref04_sea_m n x.1 := by kernel_rfl

noncomputable def ref04_sea (kind : List UInt8) : (Bool × Bool × Unit) :=
  (bif kind == [(98 : UInt8), (97 : UInt8), (114 : UInt8), (114 : UInt8), (105 : UInt8), (101 : UInt8), (114 : UInt8)] then (Bool.true, kind == [(111 : UInt8), (117 : UInt8), (116 : UInt8), (102 : UInt8), (97 : UInt8), (108 : UInt8), (108 : UInt8)], ()) else (kind == [(108 : UInt8), (101 : UInt8), (97 : UInt8), (107 : UInt8)], kind == [(111 : UInt8), (117 : UInt8), (116 : UInt8), (102 : UInt8), (97 : UInt8), (108 : UInt8), (108 : UInt8)], ()))

noncomputable abbrev ref04_sea_M (kind : List UInt8) : Option (Bool × Bool × Unit) := some (ref04_sea kind)

theorem ref04_sea_run (kind : List UInt8) (y : Bool × Bool × Unit) (h : ref04_sea_M kind = some y) : ∃ n, ref04_sea_m n kind = some y :=
  ⟨0, by rw [← h]; show ref04_sea_m 0 kind = some (ref04_sea kind); unfold ref04_sea_m ref04_sea; first | rfl | (simp only [cond_some]; done) | (simp only [cond_some]; rfl)⟩
noncomputable def ref04_sea_e : Entry := { f := 145, args := ref04_sea_a, ress := ref04_sea_r, m := fun x => ref04_sea_M x.1 }
theorem ref04_sea_ok : FnOK Tryz.prog ref04_sea_e := fn_ok (g := ref04_sea_g) (fn := Tryz.f145) hmixed tabOk eNil (by kernel_rfl) (by kernel_rfl) (by kernel_rfl) (fun x y h => let ⟨n, hn⟩ := ref04_sea_run x.1 y h; ⟨ref04_sea_an n, iNil, (ref04_sea_eq n x).trans hn⟩)

/-! ### tidewayref04.fits -/
abbrev ref04_fits_a : Ty := .pair t3 (.pair t3 (.pair t4 .unit))
abbrev ref04_fits_r : Ty := .pair t4 .unit
noncomputable def ref04_fits_g : G := { T := T, E := [], muts := [], fz := [] }
def ref04_fits_k : List (List Nat) := []
noncomputable def ref04_fits_an (n : Nat) : Ann := { keep := ref04_fits_k, fuel := n, inl := [], deep := 0 }
noncomputable def ref04_fits_m (n : Nat) (n1 : Int) (nodes : Int) (atSea : Bool) : Option (Bool × Unit) :=
  (bif atSea then Option.some (n1 == (-1 : Int), ()) else (bif Decidable.decide (n1 ≥ (0 : Int)) then Option.some (Decidable.decide (n1 < nodes), ()) else Option.some (Bool.false, ())))

theorem ref04_fits_eq (n : Nat) (x : ref04_fits_a.den) : runF ref04_fits_g (ref04_fits_an n) Tryz.f146 ref04_fits_a ref04_fits_r x = ref04_fits_m n x.1 x.2.1 x.2.2.1 := by kernel_rfl

noncomputable def ref04_fits (n1 : Int) (nodes : Int) (atSea : Bool) : (Bool × Unit) :=
  (bif atSea then (n1 == (-1 : Int), ()) else (bif Decidable.decide (n1 ≥ (0 : Int)) then (Decidable.decide (n1 < nodes), ()) else (Bool.false, ())))

noncomputable abbrev ref04_fits_M (n1 : Int) (nodes : Int) (atSea : Bool) : Option (Bool × Unit) := some (ref04_fits n1 nodes atSea)

theorem ref04_fits_run (n1 : Int) (nodes : Int) (atSea : Bool) (y : Bool × Unit) (h : ref04_fits_M n1 nodes atSea = some y) : ∃ n, ref04_fits_m n n1 nodes atSea = some y :=
  ⟨0, by rw [← h]; show ref04_fits_m 0 n1 nodes atSea = some (ref04_fits n1 nodes atSea); unfold ref04_fits_m ref04_fits; first | rfl | (simp only [cond_some]; done) | (simp only [cond_some]; rfl)⟩
noncomputable def ref04_fits_e : Entry := { f := 146, args := ref04_fits_a, ress := ref04_fits_r, m := fun x => ref04_fits_M x.1 x.2.1 x.2.2.1 }
theorem ref04_fits_ok : FnOK Tryz.prog ref04_fits_e := fn_ok (g := ref04_fits_g) (fn := Tryz.f146) hmixed tabOk eNil (by kernel_rfl) (by kernel_rfl) (by kernel_rfl) (fun x y h => let ⟨n, hn⟩ := ref04_fits_run x.1 x.2.1 x.2.2.1 y h; ⟨ref04_fits_an n, iNil, (ref04_fits_eq n x).trans hn⟩)

/-! ### basin.ends -/
abbrev basin_ends_a : Ty := .pair t96 .unit
abbrev basin_ends_r : Ty := .pair t253 .unit
noncomputable def basin_ends_g : G := { T := T, E := [], muts := [], fz := [] }
def basin_ends_k : List (List Nat) := []
noncomputable def basin_ends_an (n : Nat) : Ann := { keep := basin_ends_k, fuel := n, inl := [], deep := 0 }
noncomputable def basin_ends_m (n : Nat) (x1 : Int × Int × Unit) : Option (List Int × Unit) :=
  Option.some ([x1.fst, x1.snd.fst], ())

theorem basin_ends_eq (n : Nat) (x : basin_ends_a.den) : runF basin_ends_g (basin_ends_an n) Tryz.f166 basin_ends_a basin_ends_r x = basin_ends_m n x.1 := by kernel_rfl

noncomputable def basin_ends (x1 : Int × Int × Unit) : (List Int × Unit) :=
  ([x1.fst, x1.snd.fst], ())

noncomputable abbrev basin_ends_M (x1 : Int × Int × Unit) : Option (List Int × Unit) := some (basin_ends x1)

theorem basin_ends_run (x1 : Int × Int × Unit) (y : List Int × Unit) (h : basin_ends_M x1 = some y) : ∃ n, basin_ends_m n x1 = some y :=
  ⟨0, by rw [← h]; show basin_ends_m 0 x1 = some (basin_ends x1); unfold basin_ends_m basin_ends; first | rfl | (simp only [cond_some]; done) | (simp only [cond_some]; rfl)⟩
noncomputable def basin_ends_e : Entry := { f := 166, args := basin_ends_a, ress := basin_ends_r, m := fun x => basin_ends_M x.1 }
theorem basin_ends_ok : FnOK Tryz.prog basin_ends_e := fn_ok (g := basin_ends_g) (fn := Tryz.f166) hmixed tabOk eNil (by kernel_rfl) (by kernel_rfl) (by kernel_rfl) (fun x y h => let ⟨n, hn⟩ := basin_ends_run x.1 y h; ⟨basin_ends_an n, iNil, (basin_ends_eq n x).trans hn⟩)

/-! ### tidewayref04.Kinds -/
abbrev ref04_Kinds_a : Ty := .unit
abbrev ref04_Kinds_r : Ty := .pair t67 .unit
noncomputable def ref04_Kinds_g : G := { T := T, E := [], muts := [], fz := [] }
def ref04_Kinds_k : List (List Nat) := []
noncomputable def ref04_Kinds_an (n : Nat) : Ann := { keep := ref04_Kinds_k, fuel := n, inl := [], deep := 0 }
noncomputable def ref04_Kinds_m (n : Nat)  : Option (List (List UInt8) × Unit) :=
  Option.some ([[(98 : UInt8), (97 : UInt8), (114 : UInt8), (114 : UInt8), (105 : UInt8), (101 : UInt8), (114 : UInt8)], [(108 : UInt8), (101 : UInt8), (97 : UInt8), (107 : UInt8)], [(111 : UInt8), (117 : UInt8), (116 : UInt8), (102 : UInt8), (97 : UInt8), (108 : UInt8), (108 : UInt8)], [(112 : UInt8), (117 : UInt8), (109 : UInt8), (112 : UInt8)], [(119 : UInt8), (101 : UInt8), (105 : UInt8), (114 : UInt8)]], ())

theorem ref04_Kinds_eq (n : Nat) (x : ref04_Kinds_a.den) : runF ref04_Kinds_g (ref04_Kinds_an n) Tryz.f38 ref04_Kinds_a ref04_Kinds_r x = ref04_Kinds_m n := by kernel_rfl

noncomputable def ref04_Kinds  : (List (List UInt8) × Unit) :=
  ([[(98 : UInt8), (97 : UInt8), (114 : UInt8), (114 : UInt8), (105 : UInt8), (101 : UInt8), (114 : UInt8)], [(108 : UInt8), (101 : UInt8), (97 : UInt8), (107 : UInt8)], [(111 : UInt8), (117 : UInt8), (116 : UInt8), (102 : UInt8), (97 : UInt8), (108 : UInt8), (108 : UInt8)], [(112 : UInt8), (117 : UInt8), (109 : UInt8), (112 : UInt8)], [(119 : UInt8), (101 : UInt8), (105 : UInt8), (114 : UInt8)]], ())

noncomputable abbrev ref04_Kinds_M  : Option (List (List UInt8) × Unit) := some (ref04_Kinds)

theorem ref04_Kinds_run  (y : List (List UInt8) × Unit) (h : ref04_Kinds_M = some y) : ∃ n, ref04_Kinds_m n = some y :=
  ⟨0, by rw [← h]; show ref04_Kinds_m 0 = some (ref04_Kinds); unfold ref04_Kinds_m ref04_Kinds; first | rfl | (simp only [cond_some]; done) | (simp only [cond_some]; rfl)⟩
noncomputable def ref04_Kinds_e : Entry := { f := 38, args := ref04_Kinds_a, ress := ref04_Kinds_r, m := fun x => ref04_Kinds_M }
theorem ref04_Kinds_ok : FnOK Tryz.prog ref04_Kinds_e := fn_ok (g := ref04_Kinds_g) (fn := Tryz.f38) hmixed tabOk eNil (by kernel_rfl) (by kernel_rfl) (by kernel_rfl) (fun x y h => let ⟨n, hn⟩ := ref04_Kinds_run y h; ⟨ref04_Kinds_an n, iNil, (ref04_Kinds_eq n x).trans hn⟩)

/-! ### tidewayref04.Short -/
abbrev ref04_Short_a : Ty := .pair t25 .unit
abbrev ref04_Short_r : Ty := .pair t4 .unit
noncomputable def ref04_Short_g : G := { T := T, E := [], muts := [], fz := [] }
def ref04_Short_k : List (List Nat) := [[1, 3], [1, 4]]
noncomputable def ref04_Short_an (n : Nat) : Ann := { keep := ref04_Short_k, fuel := n, inl := [], deep := 0 }
noncomputable def ref04_Short_m_l7 (n : Nat) (r7 : List (List UInt8 × Int × Int × Unit) × List (List UInt8 × Int × Int × Int × Int × Unit) × Unit → Int → Option (Bool × Unit)) (b1_7 : List (List UInt8 × Int × Int × Unit) × List (List UInt8 × Int × Int × Int × Int × Unit) × Unit) (i4_7 : Int) : Option (Bool × Unit) :=
  (bif Decidable.decide (i4_7 < (↑b1_7.snd.fst.length : Int)) then (Option.bind (Go.Vx.idx b1_7.snd.fst i4_7) fun (v8 : List UInt8 × Int × Int × Int × Int × Unit) => (bif Decidable.decide ((↑v8.fst.length : Int) > (60 : Int)) then Option.some (Bool.false, ()) else r7 b1_7 (Go.IntKind.i64.wrap (i4_7 + (1 : Int))))) else Option.some (Bool.true, ()))

noncomputable def ref04_Short_m_w7 (n : Nat)  (k : Nat) (b1_7 : List (List UInt8 × Int × Int × Unit) × List (List UInt8 × Int × Int × Int × Int × Unit) × Unit) (i4_7 : Int) : Option (Bool × Unit) :=
  iter (fun r y => ref04_Short_m_l7 n (fun b1_7 i4_7 => r ((b1_7, (i4_7, ())), ((), ()))) y.1.1 y.1.2.1) k ((b1_7, (i4_7, ())), ((), ()))
theorem ref04_Short_m_w7_succ (n : Nat)  (k : Nat) (b1_7 : List (List UInt8 × Int × Int × Unit) × List (List UInt8 × Int × Int × Int × Int × Unit) × Unit) (i4_7 : Int) : ref04_Short_m_w7 n (k + 1) b1_7 i4_7 = ref04_Short_m_l7 n (ref04_Short_m_w7 n k) b1_7 i4_7 := rfl

noncomputable def ref04_Short_m_l5 (n : Nat) (r5 : List (List UInt8 × Int × Int × Unit) × List (List UInt8 × Int × Int × Int × Int × Unit) × Unit → Int → Option (Bool × Unit)) (b1_5 : List (List UInt8 × Int × Int × Unit) × List (List UInt8 × Int × Int × Int × Int × Unit) × Unit) (i3_5 : Int) : Option (Bool × Unit) :=
  (bif Decidable.decide (i3_5 < (↑b1_5.fst.length : Int)) then (Option.bind (Go.Vx.idx b1_5.fst i3_5) fun (v6 : List UInt8 × Int × Int × Unit) => (bif Decidable.decide ((↑v6.fst.length : Int) > (60 : Int)) then Option.some (Bool.false, ()) else r5 b1_5 (Go.IntKind.i64.wrap (i3_5 + (1 : Int))))) else (ref04_Short_m_w7 n n (b1_5) ((0 : Int))))

noncomputable def ref04_Short_m_w5 (n : Nat)  (k : Nat) (b1_5 : List (List UInt8 × Int × Int × Unit) × List (List UInt8 × Int × Int × Int × Int × Unit) × Unit) (i3_5 : Int) : Option (Bool × Unit) :=
  iter (fun r y => ref04_Short_m_l5 n (fun b1_5 i3_5 => r ((b1_5, (i3_5, ())), ((), ()))) y.1.1 y.1.2.1) k ((b1_5, (i3_5, ())), ((), ()))
theorem ref04_Short_m_w5_succ (n : Nat)  (k : Nat) (b1_5 : List (List UInt8 × Int × Int × Unit) × List (List UInt8 × Int × Int × Int × Int × Unit) × Unit) (i3_5 : Int) : ref04_Short_m_w5 n (k + 1) b1_5 i3_5 = ref04_Short_m_l5 n (ref04_Short_m_w5 n k) b1_5 i3_5 := rfl

noncomputable def ref04_Short_m_j9 (n : Nat) (b : List (List UInt8 × Int × Int × Unit) × List (List UInt8 × Int × Int × Int × Int × Unit) × Unit) : Option (Bool × Unit) :=
  (ref04_Short_m_w5 n n (b) ((0 : Int)))

noncomputable def ref04_Short_m (n : Nat) (b : List (List UInt8 × Int × Int × Unit) × List (List UInt8 × Int × Int × Int × Int × Unit) × Unit) : Option (Bool × Unit) :=
  (bif Decidable.decide ((↑b.fst.length : Int) > (9 : Int)) then Option.some (Bool.false, ()) else (bif Decidable.decide ((↑b.snd.fst.length : Int) > (8 : Int)) then (bif (↑b.snd.fst.length : Int) != (17 : Int) then Option.some (Bool.false, ()) else (ref04_Short_m_j9 n b)) else (ref04_Short_m_j9 n b)))

theorem ref04_Short_eq (n : Nat) (x : ref04_Short_a.den) : runF ref04_Short_g (ref04_Short_an n) Tryz.f15 ref04_Short_a ref04_Short_r x = ref04_Short_m n x.1 := by kernel_rfl

noncomputable def ref04_Short_b7 (b1_7 : List (List UInt8 × Int × Int × Unit) × List (List UInt8 × Int × Int × Int × Int × Unit) × Unit) (i4_7 : Int) (v8 : List UInt8 × Int × Int × Int × Int × Unit) : Option ((Bool × Unit) ⊕ Unit) :=
  (bif Decidable.decide ((↑v8.fst.length : Int) > (60 : Int)) then (some (Sum.inl ((Bool.false, ())))) else (some (Sum.inr ())))

noncomputable def ref04_Short_f7 (b1_7 : List (List UInt8 × Int × Int × Unit) × List (List UInt8 × Int × Int × Int × Int × Unit) × Unit) : Option (Bool × Unit) :=
  (some ((Bool.true, ())))

theorem ref04_Short_m_w7_le (n : Nat) (hn : big ≤ n)  (b1_7 : List (List UInt8 × Int × Int × Unit) × List (List UInt8 × Int × Int × Int × Int × Unit) × Unit) (hx : List.length (b1_7.snd.fst) < lenMax) : LeF some (loopL (fun i__ e__ s__ => ref04_Short_b7 b1_7 i__ e__) (fun s__ => ref04_Short_f7 b1_7) 0 (b1_7.snd.fst) ()) (ref04_Short_m_w7 n n b1_7 0) := by
  refine loopL_le (f := some) (W := fun k__ i__ s__ => ref04_Short_m_w7 n k__ b1_7 i__) (body := (fun i__ e__ s__ => ref04_Short_b7 b1_7 i__ e__)) (fin := (fun s__ => ref04_Short_f7 b1_7)) (fun k__ i__ s__ => ?_) hx () n (by unfold big at hn; unfold lenMax at hx; omega)
  show LeF _ _ (ref04_Short_m_l7 n (ref04_Short_m_w7 n k__) b1_7 i__)
  exact leCond (leBind fun v8 => (leCond (leSome rfl) (leSome rfl))) (leMap (leSome rfl))

noncomputable def ref04_Short_b5 (b1_5 : List (List UInt8 × Int × Int × Unit) × List (List UInt8 × Int × Int × Int × Int × Unit) × Unit) (i3_5 : Int) (v6 : List UInt8 × Int × Int × Unit) : Option ((Bool × Unit) ⊕ Unit) :=
  (bif Decidable.decide ((↑v6.fst.length : Int) > (60 : Int)) then (some (Sum.inl ((Bool.false, ())))) else (some (Sum.inr ())))

noncomputable def ref04_Short_f5 (b1_5 : List (List UInt8 × Int × Int × Unit) × List (List UInt8 × Int × Int × Int × Int × Unit) × Unit) : Option (Bool × Unit) :=
  (bif decide (List.length (b1_5.snd.fst) < lenMax) then loopL (fun i__ e__ s__ => ref04_Short_b7 (b1_5) i__ e__) (fun s__ => ref04_Short_f7 (b1_5)) 0 (b1_5.snd.fst) () else none)

theorem ref04_Short_m_w5_le (n : Nat) (hn : big ≤ n)  (b1_5 : List (List UInt8 × Int × Int × Unit) × List (List UInt8 × Int × Int × Int × Int × Unit) × Unit) (hx : List.length (b1_5.fst) < lenMax) : LeF some (loopL (fun i__ e__ s__ => ref04_Short_b5 b1_5 i__ e__) (fun s__ => ref04_Short_f5 b1_5) 0 (b1_5.fst) ()) (ref04_Short_m_w5 n n b1_5 0) := by
  refine loopL_le (f := some) (W := fun k__ i__ s__ => ref04_Short_m_w5 n k__ b1_5 i__) (body := (fun i__ e__ s__ => ref04_Short_b5 b1_5 i__ e__)) (fin := (fun s__ => ref04_Short_f5 b1_5)) (fun k__ i__ s__ => ?_) hx () n (by unfold big at hn; unfold lenMax at hx; omega)
  show LeF _ _ (ref04_Short_m_l5 n (ref04_Short_m_w5 n k__) b1_5 i__)
  exact leCond (leBind fun v6 => (leCond (leSome rfl) (leSome rfl))) (leMap (leGuard fun hx => by apply ref04_Short_m_w7_le n hn; exact hx))

noncomputable def ref04_Short_s9 (b : List (List UInt8 × Int × Int × Unit) × List (List UInt8 × Int × Int × Int × Int × Unit) × Unit) : Option (Bool × Unit) :=
  (bif decide (List.length (b.fst) < lenMax) then loopL (fun i__ e__ s__ => ref04_Short_b5 (b) i__ e__) (fun s__ => ref04_Short_f5 (b)) 0 (b.fst) () else none)

theorem ref04_Short_s9_le (n : Nat) (hn : big ≤ n)  (b : List (List UInt8 × Int × Int × Unit) × List (List UInt8 × Int × Int × Int × Int × Unit) × Unit) : LeF some (ref04_Short_s9 b) (ref04_Short_m_j9 n b) :=
  (leGuard fun hx => by apply ref04_Short_m_w5_le n hn; exact hx)

noncomputable def ref04_Short_M (b : List (List UInt8 × Int × Int × Unit) × List (List UInt8 × Int × Int × Int × Int × Unit) × Unit) : Option (Bool × Unit) :=
  (bif Decidable.decide ((↑b.fst.length : Int) > (9 : Int)) then (some ((Bool.false, ()))) else (bif Decidable.decide ((↑b.snd.fst.length : Int) > (8 : Int)) then (bif (↑b.snd.fst.length : Int) != (17 : Int) then (some ((Bool.false, ()))) else (ref04_Short_s9 b)) else (ref04_Short_s9 b)))

theorem ref04_Short_run (b : List (List UInt8 × Int × Int × Unit) × List (List UInt8 × Int × Int × Int × Int × Unit) × Unit) (y : Bool × Unit) (h : ref04_Short_M b = some y) : ∃ n, ref04_Short_m n b = some y :=
  ⟨big, LeF.top (show LeF some (ref04_Short_M b) (ref04_Short_m big b) from (fun (n : Nat) (hn : big ≤ n) => show LeF some (ref04_Short_M b) (ref04_Short_m n b) from (leCond (leSome rfl) (leCond (leCond (leSome rfl) (by apply ref04_Short_s9_le n hn)) (by apply ref04_Short_s9_le n hn)))) big (Nat.le_refl _)) h⟩
noncomputable def ref04_Short_e : Entry := { f := 15, args := ref04_Short_a, ress := ref04_Short_r, m := fun x => ref04_Short_M x.1 }
theorem ref04_Short_ok : FnOK Tryz.prog ref04_Short_e := fn_ok (g := ref04_Short_g) (fn := Tryz.f15) hmixed tabOk eNil (by kernel_rfl) (by kernel_rfl) (by kernel_rfl) (fun x y h => let ⟨n, hn⟩ := ref04_Short_run x.1 y h; ⟨ref04_Short_an n, iNil, (ref04_Short_eq n x).trans hn⟩)

/-! ### tidewayref04.ShortConditions -/
abbrev ref04_ShortConditions_a : Ty := .pair t33 .unit
abbrev ref04_ShortConditions_r : Ty := .pair t4 .unit
noncomputable def ref04_ShortConditions_g : G := { T := T, E := [], muts := [], fz := [] }
def ref04_ShortConditions_k : List (List Nat) := [[0, 3, 21, 22, 23]]
noncomputable def ref04_ShortConditions_an (n : Nat) : Ann := { keep := ref04_ShortConditions_k, fuel := n, inl := [], deep := 0 }
noncomputable def ref04_ShortConditions_m_l0 (n : Nat) (r0 : List (Int × Bool × List Int × Unit) → Int → Option (Bool × Unit)) (l0_0 : List (Int × Bool × List Int × Unit)) (i3_0 : Int) : Option (Bool × Unit) :=
  (bif Decidable.decide (i3_0 < (↑l0_0.length : Int)) then (Option.bind (Go.Vx.idx l0_0 i3_0) fun (v1 : Int × Bool × List Int × Unit) => (bif Decidable.decide ((↑v1.snd.snd.fst.length : Int) > (9 : Int)) then Option.some (Bool.false, ()) else r0 l0_0 (Go.IntKind.i64.wrap (i3_0 + (1 : Int))))) else (bif Decidable.decide ((↑l0_0.length : Int) ≤ (12 : Int)) then Option.some (Bool.true, ()) else Option.some ((↑l0_0.length : Int) == (97 : Int), ())))

noncomputable def ref04_ShortConditions_m_w0 (n : Nat)  (k : Nat) (l0_0 : List (Int × Bool × List Int × Unit)) (i3_0 : Int) : Option (Bool × Unit) :=
  iter (fun r y => ref04_ShortConditions_m_l0 n (fun l0_0 i3_0 => r ((l0_0, (i3_0, ())), ((), ()))) y.1.1 y.1.2.1) k ((l0_0, (i3_0, ())), ((), ()))
theorem ref04_ShortConditions_m_w0_succ (n : Nat)  (k : Nat) (l0_0 : List (Int × Bool × List Int × Unit)) (i3_0 : Int) : ref04_ShortConditions_m_w0 n (k + 1) l0_0 i3_0 = ref04_ShortConditions_m_l0 n (ref04_ShortConditions_m_w0 n k) l0_0 i3_0 := rfl

noncomputable def ref04_ShortConditions_m (n : Nat) (l : List (Int × Bool × List Int × Unit)) : Option (Bool × Unit) :=
  (ref04_ShortConditions_m_w0 n n (l) ((0 : Int)))

theorem ref04_ShortConditions_eq (n : Nat) (x : ref04_ShortConditions_a.den) : runF ref04_ShortConditions_g (ref04_ShortConditions_an n) Tryz.f16 ref04_ShortConditions_a ref04_ShortConditions_r x = ref04_ShortConditions_m n x.1 := by kernel_rfl

noncomputable def ref04_ShortConditions_b0 (l0_0 : List (Int × Bool × List Int × Unit)) (i3_0 : Int) (v1 : Int × Bool × List Int × Unit) : Option ((Bool × Unit) ⊕ Unit) :=
  (bif Decidable.decide ((↑v1.snd.snd.fst.length : Int) > (9 : Int)) then (some (Sum.inl ((Bool.false, ())))) else (some (Sum.inr ())))

noncomputable def ref04_ShortConditions_f0 (l0_0 : List (Int × Bool × List Int × Unit)) : Option (Bool × Unit) :=
  (bif Decidable.decide ((↑l0_0.length : Int) ≤ (12 : Int)) then (some ((Bool.true, ()))) else (some (((↑l0_0.length : Int) == (97 : Int), ()))))

theorem ref04_ShortConditions_m_w0_le (n : Nat) (hn : big ≤ n)  (l0_0 : List (Int × Bool × List Int × Unit)) (hx : List.length (l0_0) < lenMax) : LeF some (loopL (fun i__ e__ s__ => ref04_ShortConditions_b0 l0_0 i__ e__) (fun s__ => ref04_ShortConditions_f0 l0_0) 0 (l0_0) ()) (ref04_ShortConditions_m_w0 n n l0_0 0) := by
  refine loopL_le (f := some) (W := fun k__ i__ s__ => ref04_ShortConditions_m_w0 n k__ l0_0 i__) (body := (fun i__ e__ s__ => ref04_ShortConditions_b0 l0_0 i__ e__)) (fin := (fun s__ => ref04_ShortConditions_f0 l0_0)) (fun k__ i__ s__ => ?_) hx () n (by unfold big at hn; unfold lenMax at hx; omega)
  show LeF _ _ (ref04_ShortConditions_m_l0 n (ref04_ShortConditions_m_w0 n k__) l0_0 i__)
  exact leCond (leBind fun v1 => (leCond (leSome rfl) (leSome rfl))) (leMap (leCond (leSome rfl) (leSome rfl)))

noncomputable def ref04_ShortConditions_M (l : List (Int × Bool × List Int × Unit)) : Option (Bool × Unit) :=
  (bif decide (List.length (l) < lenMax) then loopL (fun i__ e__ s__ => ref04_ShortConditions_b0 (l) i__ e__) (fun s__ => ref04_ShortConditions_f0 (l)) 0 (l) () else none)

theorem ref04_ShortConditions_run (l : List (Int × Bool × List Int × Unit)) (y : Bool × Unit) (h : ref04_ShortConditions_M l = some y) : ∃ n, ref04_ShortConditions_m n l = some y :=
  ⟨big, LeF.top (show LeF some (ref04_ShortConditions_M l) (ref04_ShortConditions_m big l) from (fun (n : Nat) (hn : big ≤ n) => show LeF some (ref04_ShortConditions_M l) (ref04_ShortConditions_m n l) from (leGuard fun hx => by apply ref04_ShortConditions_m_w0_le n hn; exact hx)) big (Nat.le_refl _)) h⟩
noncomputable def ref04_ShortConditions_e : Entry := { f := 16, args := ref04_ShortConditions_a, ress := ref04_ShortConditions_r, m := fun x => ref04_ShortConditions_M x.1 }
theorem ref04_ShortConditions_ok : FnOK Tryz.prog ref04_ShortConditions_e := fn_ok (g := ref04_ShortConditions_g) (fn := Tryz.f16) hmixed tabOk eNil (by kernel_rfl) (by kernel_rfl) (by kernel_rfl) (fun x y h => let ⟨n, hn⟩ := ref04_ShortConditions_run x.1 y h; ⟨ref04_ShortConditions_an n, iNil, (ref04_ShortConditions_eq n x).trans hn⟩)

/-! ### tidewaylaw04.ints -/
abbrev law04_ints_a : Ty := .pair t26 .unit
abbrev law04_ints_r : Ty := .pair t26 .unit
noncomputable def law04_ints_g : G := { T := T, E := [], muts := [3], fz := [] }
def law04_ints_k : List (List Nat) := []
noncomputable def law04_ints_an (n : Nat) : Ann := { keep := law04_ints_k, fuel := n, inl := [], deep := 0 }
noncomputable def law04_ints_m (n : Nat) (l : List Int) : Option (List Int × Unit) :=
  (bif Decidable.decide ((0 : Nat) + l.length ≤ Go.Vx.memMax) then Option.some (l, ()) else none)

theorem law04_ints_eq (n : Nat) (x : law04_ints_a.den) : runF law04_ints_g (law04_ints_an n) Tryz.f20 law04_ints_a law04_ints_r x = law04_ints_m n x.1 := by kernel_rfl

noncomputable def law04_ints_M (l : List Int) : Option (List Int × Unit) := law04_ints_m 0 l

theorem law04_ints_run (l : List Int) (y : List Int × Unit) (h : law04_ints_M l = some y) : ∃ n, law04_ints_m n l = some y := ⟨0, h⟩
noncomputable def law04_ints_e : Entry := { f := 20, args := law04_ints_a, ress := law04_ints_r, m := fun x => law04_ints_M x.1 }
theorem law04_ints_ok : FnOK Tryz.prog law04_ints_e := fn_ok (g := law04_ints_g) (fn := Tryz.f20) hmixed tabOk eNil (by kernel_rfl) (by kernel_rfl) (by kernel_rfl) (fun x y h => let ⟨n, hn⟩ := law04_ints_run x.1 y h; ⟨law04_ints_an n, iNil, (law04_ints_eq n x).trans hn⟩)

/-! ### (basin.Link).node -/
abbrev basin_Link_node_a : Ty := .pair t163 .unit
abbrev basin_Link_node_r : Ty := .pair t3 .unit
noncomputable def basin_Link_node_g : G := { T := T, E := [], muts := [], fz := [] }
def basin_Link_node_k : List (List Nat) := []
noncomputable def basin_Link_node_an (n : Nat) : Ann := { keep := basin_Link_node_k, fuel := n, inl := [], deep := 0 }
noncomputable def basin_Link_node_m (n : Nat) (l : List UInt8 × Int × Int × Int × Int × Unit) : Option (Int × Unit) :=
  (bif l.snd.fst == (-1 : Int) then Option.some (l.snd.snd.fst, ()) else Option.some (l.snd.fst, ()))

theorem basin_Link_node_eq (n : Nat) (x : basin_Link_node_a.den) : runF basin_Link_node_g (basin_Link_node_an n) Tryz.f142 basin_Link_node_a basin_Link_node_r x = basin_Link_node_m n x.1 := by kernel_rfl

noncomputable def basin_Link_node (l : List UInt8 × Int × Int × Int × Int × Unit) : (Int × Unit) :=
  (bif l.snd.fst == (-1 : Int) then (l.snd.snd.fst, ()) else (l.snd.fst, ()))

noncomputable abbrev basin_Link_node_M (l : List UInt8 × Int × Int × Int × Int × Unit) : Option (Int × Unit) := some (basin_Link_node l)

theorem basin_Link_node_run (l : List UInt8 × Int × Int × Int × Int × Unit) (y : Int × Unit) (h : basin_Link_node_M l = some y) : ∃ n, basin_Link_node_m n l = some y :=
  ⟨0, by rw [← h]; show basin_Link_node_m 0 l = some (basin_Link_node l); unfold basin_Link_node_m basin_Link_node; first | rfl | (simp only [cond_some]; done) | (simp only [cond_some]; rfl)⟩
noncomputable def basin_Link_node_e : Entry := { f := 142, args := basin_Link_node_a, ress := basin_Link_node_r, m := fun x => basin_Link_node_M x.1 }
theorem basin_Link_node_ok : FnOK Tryz.prog basin_Link_node_e := fn_ok (g := basin_Link_node_g) (fn := Tryz.f142) hmixed tabOk eNil (by kernel_rfl) (by kernel_rfl) (by kernel_rfl) (fun x y h => let ⟨n, hn⟩ := basin_Link_node_run x.1 y h; ⟨basin_Link_node_an n, iNil, (basin_Link_node_eq n x).trans hn⟩)

/-! ### tidewayref01.HasWord -/
abbrev ref01_HasWord_a : Ty := .pair t67 (.pair t9 .unit)
abbrev ref01_HasWord_r : Ty := .pair t4 .unit
noncomputable def ref01_HasWord_g : G := { T := T, E := [], muts := [], fz := [] }
def ref01_HasWord_k : List (List Nat) := [[0, 1, 5]]
noncomputable def ref01_HasWord_an (n : Nat) : Ann := { keep := ref01_HasWord_k, fuel := n, inl := [], deep := 0 }
noncomputable def ref01_HasWord_m_l0 (n : Nat) (r0 : List (List UInt8) → List UInt8 → Int → Option (Bool × Unit)) (l0_0 : List (List UInt8)) (s1_0 : List UInt8) (i5_0 : Int) : Option (Bool × Unit) :=
  (bif Decidable.decide (i5_0 < (↑l0_0.length : Int)) then (Option.bind (Go.Vx.idx l0_0 i5_0) fun (v1 : List UInt8) => (bif v1 == s1_0 then Option.some (Bool.true, ()) else r0 l0_0 s1_0 (Go.IntKind.i64.wrap (i5_0 + (1 : Int))))) else Option.some (Bool.false, ()))

noncomputable def ref01_HasWord_m_w0 (n : Nat)  (k : Nat) (l0_0 : List (List UInt8)) (s1_0 : List UInt8) (i5_0 : Int) : Option (Bool × Unit) :=
  iter (fun r y => ref01_HasWord_m_l0 n (fun l0_0 s1_0 i5_0 => r ((l0_0, (s1_0, (i5_0, ()))), ((), ()))) y.1.1 y.1.2.1 y.1.2.2.1) k ((l0_0, (s1_0, (i5_0, ()))), ((), ()))
theorem ref01_HasWord_m_w0_succ (n : Nat)  (k : Nat) (l0_0 : List (List UInt8)) (s1_0 : List UInt8) (i5_0 : Int) : ref01_HasWord_m_w0 n (k + 1) l0_0 s1_0 i5_0 = ref01_HasWord_m_l0 n (ref01_HasWord_m_w0 n k) l0_0 s1_0 i5_0 := rfl

noncomputable def ref01_HasWord_m (n : Nat) (l : List (List UInt8)) (s : List UInt8) : Option (Bool × Unit) :=
  (ref01_HasWord_m_w0 n n (l) (s) ((0 : Int)))

theorem ref01_HasWord_eq (n : Nat) (x : ref01_HasWord_a.den) : runF ref01_HasWord_g (ref01_HasWord_an n) Tryz.f144 ref01_HasWord_a ref01_HasWord_r x = ref01_HasWord_m n x.1 x.2.1 := by kernel_rfl

noncomputable def ref01_HasWord_b0 (l0_0 : List (List UInt8)) (s1_0 : List UInt8) (i5_0 : Int) (v1 : List UInt8) : Option ((Bool × Unit) ⊕ Unit) :=
  (bif v1 == s1_0 then (some (Sum.inl ((Bool.true, ())))) else (some (Sum.inr ())))

noncomputable def ref01_HasWord_f0 (l0_0 : List (List UInt8)) (s1_0 : List UInt8) : Option (Bool × Unit) :=
  (some ((Bool.false, ())))

theorem ref01_HasWord_m_w0_le (n : Nat) (hn : big ≤ n)  (l0_0 : List (List UInt8)) (s1_0 : List UInt8) (hx : List.length (l0_0) < lenMax) : LeF some (loopL (fun i__ e__ s__ => ref01_HasWord_b0 l0_0 s1_0 i__ e__) (fun s__ => ref01_HasWord_f0 l0_0 s1_0) 0 (l0_0) ()) (ref01_HasWord_m_w0 n n l0_0 s1_0 0) := by
  refine loopL_le (f := some) (W := fun k__ i__ s__ => ref01_HasWord_m_w0 n k__ l0_0 s1_0 i__) (body := (fun i__ e__ s__ => ref01_HasWord_b0 l0_0 s1_0 i__ e__)) (fin := (fun s__ => ref01_HasWord_f0 l0_0 s1_0)) (fun k__ i__ s__ => ?_) hx () n (by unfold big at hn; unfold lenMax at hx; omega)
  show LeF _ _ (ref01_HasWord_m_l0 n (ref01_HasWord_m_w0 n k__) l0_0 s1_0 i__)
  exact leCond (leBind fun v1 => (leCond (leSome rfl) (leSome rfl))) (leMap (leSome rfl))

noncomputable def ref01_HasWord_M (l : List (List UInt8)) (s : List UInt8) : Option (Bool × Unit) :=
  (bif decide (List.length (l) < lenMax) then loopL (fun i__ e__ s__ => ref01_HasWord_b0 (l) (s) i__ e__) (fun s__ => ref01_HasWord_f0 (l) (s)) 0 (l) () else none)

theorem ref01_HasWord_run (l : List (List UInt8)) (s : List UInt8) (y : Bool × Unit) (h : ref01_HasWord_M l s = some y) : ∃ n, ref01_HasWord_m n l s = some y :=
  ⟨big, LeF.top (show LeF some (ref01_HasWord_M l s) (ref01_HasWord_m big l s) from (fun (n : Nat) (hn : big ≤ n) => show LeF some (ref01_HasWord_M l s) (ref01_HasWord_m n l s) from (leGuard fun hx => by apply ref01_HasWord_m_w0_le n hn; exact hx)) big (Nat.le_refl _)) h⟩
noncomputable def ref01_HasWord_e : Entry := { f := 144, args := ref01_HasWord_a, ress := ref01_HasWord_r, m := fun x => ref01_HasWord_M x.1 x.2.1 }
theorem ref01_HasWord_ok : FnOK Tryz.prog ref01_HasWord_e := fn_ok (g := ref01_HasWord_g) (fn := Tryz.f144) hmixed tabOk eNil (by kernel_rfl) (by kernel_rfl) (by kernel_rfl) (fun x y h => let ⟨n, hn⟩ := ref01_HasWord_run x.1 x.2.1 y h; ⟨ref01_HasWord_an n, iNil, (ref01_HasWord_eq n x).trans hn⟩)

/-! ### tidewayref01.SameInts -/
abbrev ref01_SameInts_a : Ty := .pair t26 (.pair t26 .unit)
abbrev ref01_SameInts_r : Ty := .pair t4 .unit
noncomputable def ref01_SameInts_g : G := { T := T, E := [], muts := [], fz := [] }
def ref01_SameInts_k : List (List Nat) := [[0, 1, 5]]
noncomputable def ref01_SameInts_an (n : Nat) : Ann := { keep := ref01_SameInts_k, fuel := n, inl := [], deep := 0 }
noncomputable def ref01_SameInts_m_l0 (n : Nat) (r0 : List Int → List Int → Int → Option (Bool × Unit)) (a0_0 : List Int) (b1_0 : List Int) (i5_0 : Int) : Option (Bool × Unit) :=
  (bif Decidable.decide (i5_0 < (↑a0_0.length : Int)) then (Option.bind (Go.Vx.idx a0_0 i5_0) fun (v1 : Int) => (Option.bind (Go.Vx.idx b1_0 i5_0) fun (v2 : Int) => (bif v1 != v2 then Option.some (Bool.false, ()) else r0 a0_0 b1_0 (Go.IntKind.i64.wrap (i5_0 + (1 : Int)))))) else Option.some (Bool.true, ()))

noncomputable def ref01_SameInts_m_w0 (n : Nat)  (k : Nat) (a0_0 : List Int) (b1_0 : List Int) (i5_0 : Int) : Option (Bool × Unit) :=
  iter (fun r y => ref01_SameInts_m_l0 n (fun a0_0 b1_0 i5_0 => r ((a0_0, (b1_0, (i5_0, ()))), ((), ()))) y.1.1 y.1.2.1 y.1.2.2.1) k ((a0_0, (b1_0, (i5_0, ()))), ((), ()))
theorem ref01_SameInts_m_w0_succ (n : Nat)  (k : Nat) (a0_0 : List Int) (b1_0 : List Int) (i5_0 : Int) : ref01_SameInts_m_w0 n (k + 1) a0_0 b1_0 i5_0 = ref01_SameInts_m_l0 n (ref01_SameInts_m_w0 n k) a0_0 b1_0 i5_0 := rfl

noncomputable def ref01_SameInts_m (n : Nat) (a : List Int) (b : List Int) : Option (Bool × Unit) :=
  (bif (↑a.length : Int) != (↑b.length : Int) then Option.some (Bool.false, ()) else (ref01_SameInts_m_w0 n n (a) (b) ((0 : Int))))

theorem ref01_SameInts_eq (n : Nat) (x : ref01_SameInts_a.den) : runF ref01_SameInts_g (ref01_SameInts_an n) Tryz.f41 ref01_SameInts_a ref01_SameInts_r x = ref01_SameInts_m n x.1 x.2.1 := by kernel_rfl

noncomputable def ref01_SameInts_b0 (a0_0 : List Int) (b1_0 : List Int) (i5_0 : Int) (v1 : Int) : Option ((Bool × Unit) ⊕ Unit) :=
  (Option.bind (Go.Vx.idx b1_0 i5_0) fun (v2 : Int) => (bif v1 != v2 then (some (Sum.inl ((Bool.false, ())))) else (some (Sum.inr ()))))

noncomputable def ref01_SameInts_f0 (a0_0 : List Int) (b1_0 : List Int) : Option (Bool × Unit) :=
  (some ((Bool.true, ())))

theorem ref01_SameInts_m_w0_le (n : Nat) (hn : big ≤ n)  (a0_0 : List Int) (b1_0 : List Int) (hx : List.length (a0_0) < lenMax) : LeF some (loopL (fun i__ e__ s__ => ref01_SameInts_b0 a0_0 b1_0 i__ e__) (fun s__ => ref01_SameInts_f0 a0_0 b1_0) 0 (a0_0) ()) (ref01_SameInts_m_w0 n n a0_0 b1_0 0) := by
  refine loopL_le (f := some) (W := fun k__ i__ s__ => ref01_SameInts_m_w0 n k__ a0_0 b1_0 i__) (body := (fun i__ e__ s__ => ref01_SameInts_b0 a0_0 b1_0 i__ e__)) (fin := (fun s__ => ref01_SameInts_f0 a0_0 b1_0)) (fun k__ i__ s__ => ?_) hx () n (by unfold big at hn; unfold lenMax at hx; omega)
  show LeF _ _ (ref01_SameInts_m_l0 n (ref01_SameInts_m_w0 n k__) a0_0 b1_0 i__)
  exact leCond (leBind fun v1 => (leBind fun v2 => (leCond (leSome rfl) (leSome rfl)))) (leMap (leSome rfl))

noncomputable def ref01_SameInts_M (a : List Int) (b : List Int) : Option (Bool × Unit) :=
  (bif (↑a.length : Int) != (↑b.length : Int) then (some ((Bool.false, ()))) else (bif decide (List.length (a) < lenMax) then loopL (fun i__ e__ s__ => ref01_SameInts_b0 (a) (b) i__ e__) (fun s__ => ref01_SameInts_f0 (a) (b)) 0 (a) () else none))

theorem ref01_SameInts_run (a : List Int) (b : List Int) (y : Bool × Unit) (h : ref01_SameInts_M a b = some y) : ∃ n, ref01_SameInts_m n a b = some y :=
  ⟨big, LeF.top (show LeF some (ref01_SameInts_M a b) (ref01_SameInts_m big a b) from (fun (n : Nat) (hn : big ≤ n) => show LeF some (ref01_SameInts_M a b) (ref01_SameInts_m n a b) from (leCond (leSome rfl) (leGuard fun hx => by apply ref01_SameInts_m_w0_le n hn; exact hx))) big (Nat.le_refl _)) h⟩
noncomputable def ref01_SameInts_e : Entry := { f := 41, args := ref01_SameInts_a, ress := ref01_SameInts_r, m := fun x => ref01_SameInts_M x.1 x.2.1 }
theorem ref01_SameInts_ok : FnOK Tryz.prog ref01_SameInts_e := fn_ok (g := ref01_SameInts_g) (fn := Tryz.f41) hmixed tabOk eNil (by kernel_rfl) (by kernel_rfl) (by kernel_rfl) (fun x y h => let ⟨n, hn⟩ := ref01_SameInts_run x.1 x.2.1 y h; ⟨ref01_SameInts_an n, iNil, (ref01_SameInts_eq n x).trans hn⟩)

/-! ### tidewayref04.tooMuch -/
abbrev ref04_tooMuch_a : Ty := .pair t26 .unit
abbrev ref04_tooMuch_r : Ty := .pair t4 .unit
noncomputable def ref04_tooMuch_g : G := { T := T, E := [], muts := [], fz := [] }
def ref04_tooMuch_k : List (List Nat) := [[0, 3]]
noncomputable def ref04_tooMuch_an (n : Nat) : Ann := { keep := ref04_tooMuch_k, fuel := n, inl := [], deep := 0 }
noncomputable def ref04_tooMuch_m_l0 (n : Nat) (r0 : List Int → Int → Option (Bool × Unit)) (v0_0 : List Int) (i3_0 : Int) : Option (Bool × Unit) :=
  (bif Decidable.decide (i3_0 < (↑v0_0.length : Int)) then (Option.bind (Go.Vx.idx v0_0 i3_0) fun (v1 : Int) => (bif Decidable.decide (v1 > (100000000 : Int)) then Option.some (Bool.true, ()) else r0 v0_0 (Go.IntKind.i64.wrap (i3_0 + (1 : Int))))) else Option.some (Bool.false, ()))

noncomputable def ref04_tooMuch_m_w0 (n : Nat)  (k : Nat) (v0_0 : List Int) (i3_0 : Int) : Option (Bool × Unit) :=
  iter (fun r y => ref04_tooMuch_m_l0 n (fun v0_0 i3_0 => r ((v0_0, (i3_0, ())), ((), ()))) y.1.1 y.1.2.1) k ((v0_0, (i3_0, ())), ((), ()))
theorem ref04_tooMuch_m_w0_succ (n : Nat)  (k : Nat) (v0_0 : List Int) (i3_0 : Int) : ref04_tooMuch_m_w0 n (k + 1) v0_0 i3_0 = ref04_tooMuch_m_l0 n (ref04_tooMuch_m_w0 n k) v0_0 i3_0 := rfl

noncomputable def ref04_tooMuch_m (n : Nat) (v : List Int) : Option (Bool × Unit) :=
  (ref04_tooMuch_m_w0 n n (v) ((0 : Int)))

theorem ref04_tooMuch_eq (n : Nat) (x : ref04_tooMuch_a.den) : runF ref04_tooMuch_g (ref04_tooMuch_an n) Tryz.f105 ref04_tooMuch_a ref04_tooMuch_r x = ref04_tooMuch_m n x.1 := by kernel_rfl

noncomputable def ref04_tooMuch_b0 (v0_0 : List Int) (i3_0 : Int) (v1 : Int) : Option ((Bool × Unit) ⊕ Unit) :=
  (bif Decidable.decide (v1 > (100000000 : Int)) then (some (Sum.inl ((Bool.true, ())))) else (some (Sum.inr ())))

noncomputable def ref04_tooMuch_f0 (v0_0 : List Int) : Option (Bool × Unit) :=
  (some ((Bool.false, ())))

theorem ref04_tooMuch_m_w0_le (n : Nat) (hn : big ≤ n)  (v0_0 : List Int) (hx : List.length (v0_0) < lenMax) : LeF some (loopL (fun i__ e__ s__ => ref04_tooMuch_b0 v0_0 i__ e__) (fun s__ => ref04_tooMuch_f0 v0_0) 0 (v0_0) ()) (ref04_tooMuch_m_w0 n n v0_0 0) := by
  refine loopL_le (f := some) (W := fun k__ i__ s__ => ref04_tooMuch_m_w0 n k__ v0_0 i__) (body := (fun i__ e__ s__ => ref04_tooMuch_b0 v0_0 i__ e__)) (fin := (fun s__ => ref04_tooMuch_f0 v0_0)) (fun k__ i__ s__ => ?_) hx () n (by unfold big at hn; unfold lenMax at hx; omega)
  show LeF _ _ (ref04_tooMuch_m_l0 n (ref04_tooMuch_m_w0 n k__) v0_0 i__)
  exact leCond (leBind fun v1 => (leCond (leSome rfl) (leSome rfl))) (leMap (leSome rfl))

noncomputable def ref04_tooMuch_M (v : List Int) : Option (Bool × Unit) :=
  (bif decide (List.length (v) < lenMax) then loopL (fun i__ e__ s__ => ref04_tooMuch_b0 (v) i__ e__) (fun s__ => ref04_tooMuch_f0 (v)) 0 (v) () else none)

theorem ref04_tooMuch_run (v : List Int) (y : Bool × Unit) (h : ref04_tooMuch_M v = some y) : ∃ n, ref04_tooMuch_m n v = some y :=
  ⟨big, LeF.top (show LeF some (ref04_tooMuch_M v) (ref04_tooMuch_m big v) from (fun (n : Nat) (hn : big ≤ n) => show LeF some (ref04_tooMuch_M v) (ref04_tooMuch_m n v) from (leGuard fun hx => by apply ref04_tooMuch_m_w0_le n hn; exact hx)) big (Nat.le_refl _)) h⟩
noncomputable def ref04_tooMuch_e : Entry := { f := 105, args := ref04_tooMuch_a, ress := ref04_tooMuch_r, m := fun x => ref04_tooMuch_M x.1 }
theorem ref04_tooMuch_ok : FnOK Tryz.prog ref04_tooMuch_e := fn_ok (g := ref04_tooMuch_g) (fn := Tryz.f105) hmixed tabOk eNil (by kernel_rfl) (by kernel_rfl) (by kernel_rfl) (fun x y h => let ⟨n, hn⟩ := ref04_tooMuch_run x.1 y h; ⟨ref04_tooMuch_an n, iNil, (ref04_tooMuch_eq n x).trans hn⟩)

end Go.Tw
