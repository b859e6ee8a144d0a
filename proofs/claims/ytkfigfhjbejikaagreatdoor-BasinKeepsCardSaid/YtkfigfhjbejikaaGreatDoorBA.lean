/- The seat's base: what the package-level variables hold, the check of the table of types, small tools.
Models of the program's functions, by program (gen.py), and what they compute.
Models of the program's functions, by program (gen.py), and what they compute. -/
import Derived.Test.YtkfigfhjbejikaaGreatDoorBT
import Derived.Test.YtkfigfhjbejikaaGreatDoorVD
import Derived.Test.YtkfigfhjbejikaaGreatDoorLP
import Derived.Test.YtkfigfhjbejikaaGreatDoorProg
import Derived.KernelRfl

section
set_option linter.all false
set_option maxRecDepth 1000000
namespace Go.Tw
open Go.Vx Go.Vx.B Go.Proofs
abbrev Nod := List UInt8 × Int × Int × Unit
abbrev Lnk := List UInt8 × Int × Int × Int × Int × Unit
abbrev Bas := List Nod × List Lnk × Unit
abbrev Cnd := Int × Bool × List Int × Unit
abbrev Rng := (Int × Int × Unit) × Bool × List (Int × Int × Unit) × Unit
abbrev Psg := Cnd × List Int × Option (List Int) × Unit
instance theGT : GT := ⟨[(7, t315, [.int .u8 0, .int .u8 1, .int .u8 28, .int .u8 2, .int .u8 29, .int .u8 14, .int .u8 24, .int .u8 3, .int .u8 30, .int .u8 22, .int .u8 20, .int .u8 15, .int .u8 25, .int .u8 17, .int .u8 4, .int .u8 8, .int .u8 31, .int .u8 27, .int .u8 13, .int .u8 23, .int .u8 21, .int .u8 19, .int .u8 16, .int .u8 7, .int .u8 26, .int .u8 12, .int .u8 18, .int .u8 6, .int .u8 11, .int .u8 5, .int .u8 10, .int .u8 9]),
  (8, t316, [.int .u8 0, .int .u8 1, .int .u8 56, .int .u8 2, .int .u8 57, .int .u8 49, .int .u8 28, .int .u8 3, .int .u8 61, .int .u8 58, .int .u8 42, .int .u8 50, .int .u8 38, .int .u8 29, .int .u8 17, .int .u8 4, .int .u8 62, .int .u8 47, .int .u8 59, .int .u8 36, .int .u8 45, .int .u8 43, .int .u8 51, .int .u8 22, .int .u8 53, .int .u8 39, .int .u8 33, .int .u8 30, .int .u8 24, .int .u8 18, .int .u8 12, .int .u8 5, .int .u8 63, .int .u8 55, .int .u8 48, .int .u8 27, .int .u8 60, .int .u8 41, .int .u8 37, .int .u8 16, .int .u8 46, .int .u8 35, .int .u8 44, .int .u8 21, .int .u8 52, .int .u8 32, .int .u8 23, .int .u8 11, .int .u8 54, .int .u8 26, .int .u8 40, .int .u8 15, .int .u8 34, .int .u8 20, .int .u8 31, .int .u8 10, .int .u8 25, .int .u8 14, .int .u8 19, .int .u8 9, .int .u8 13, .int .u8 8, .int .u8 7, .int .u8 6]),
  (2, t290, [.int .u64 1, .int .u64 10, .int .u64 100, .int .u64 1000, .int .u64 10000, .int .u64 100000, .int .u64 1000000, .int .u64 10000000, .int .u64 100000000, .int .u64 1000000000, .int .u64 10000000000, .int .u64 100000000000, .int .u64 1000000000000, .int .u64 10000000000000, .int .u64 100000000000000, .int .u64 1000000000000000, .int .u64 10000000000000000, .int .u64 100000000000000000, .int .u64 1000000000000000000, .int .u64 10000000000000000000])]⟩
theorem hmixed : Tryz.prog.follows .mixedOrders = true := by kernel_rfl
theorem tabOk : TabOk Tryz.prog T := by unfold TabOk; kernel_rfl
theorem eNil {P : Program} : ∀ e ∈ ([] : List Entry), FnOK P e := fun e h => by cases h
theorem eCons {P : Program} {e : Entry} {l : List Entry} (h : FnOK P e) (hl : ∀ e ∈ l, FnOK P e) : ∀ f ∈ e :: l, FnOK P f := fun f hf => by
  rcases List.mem_cons.1 hf with rfl | hf
  · exact h
  · exact hl f hf
theorem iNil {P : Program} : ∀ e ∈ ([] : List Inl), InlOK P e := fun e h => by cases h
theorem iCons {P : Program} {e : Inl} {l : List Inl} (h : InlOK P e) (hl : ∀ e ∈ l, InlOK P e) : ∀ f ∈ e :: l, InlOK P f := fun f hf => by
  rcases List.mem_cons.1 hf with rfl | hf
  · exact h
  · exact hl f hf
theorem cond_some {α : Type} (c : Bool) (x y : α) : (bif c then some x else some y) = some (bif c then x else y) := by cases c <;> rfl
end Go.Tw
end

section
set_option linter.all false
set_option maxRecDepth 1000000
namespace Go.Tw
open Go.Vx Go.Vx.B Go.Proofs
/-! ### basin.when -/
abbrev basin_when_a : Ty := .pair t4 (.pair t35 .unit)
abbrev basin_when_r : Ty := .pair t35 .unit
noncomputable def basin_when_g : G := { T := T, E := [], muts := [], fz := [] }
def basin_when_k : List (List Nat) := []
noncomputable def basin_when_an (n : Nat) : Ann := { keep := basin_when_k, fuel := n, inl := [], deep := 0 }
noncomputable def basin_when_m (n : Nat) (holds : Bool) (e : Int) : Option (Int × Unit) :=
  (bif holds then Option.some (e, ()) else Option.some ((0 : Int), ()))

theorem basin_when_eq (n : Nat) (x : basin_when_a.den) : runF basin_when_g (basin_when_an n) Tryz.f89 basin_when_a basin_when_r x = basin_when_m n x.1 x.2.1 := by kernel_rfl

noncomputable def basin_when (holds : Bool) (e : Int) : (Int × Unit) :=
  (bif holds then (e, ()) else ((0 : Int), ()))

noncomputable abbrev basin_when_M (holds : Bool) (e : Int) : Option (Int × Unit) := some (basin_when holds e)

theorem basin_when_run (holds : Bool) (e : Int) (y : Int × Unit) (h : basin_when_M holds e = some y) : ∃ n, basin_when_m n holds e = some y :=
  ⟨0, by rw [← h]; show basin_when_m 0 holds e = some (basin_when holds e); unfold basin_when_m basin_when; first | rfl | (simp only [cond_some]; done) | (simp only [cond_some]; rfl)⟩
noncomputable def basin_when_e : Entry := { f := 89, args := basin_when_a, ress := basin_when_r, m := fun x => basin_when_M x.1 x.2.1 }
theorem basin_when_ok : FnOK Tryz.prog basin_when_e := fn_ok (g := basin_when_g) (fn := Tryz.f89) hmixed tabOk eNil (by kernel_rfl) (by kernel_rfl) (by kernel_rfl) (fun x y h => let ⟨n, hn⟩ := basin_when_run x.1 x.2.1 y h; ⟨basin_when_an n, iNil, (basin_when_eq n x).trans hn⟩)

/-! ### basin.first -/
abbrev basin_first_a : Ty := .pair t174 .unit
abbrev basin_first_r : Ty := .pair t35 .unit
noncomputable def basin_first_g : G := { T := T, E := [], muts := [], fz := [] }
def basin_first_k : List (List Nat) := [[5, 6, 7]]
noncomputable def basin_first_an (n : Nat) : Ann := { keep := basin_first_k, fuel := n, inl := [], deep := 0 }
noncomputable def basin_first_m_l0 (n : Nat) (r0 : List Int → Int → Int → Option (Int × Unit)) (t5_0 : List Int) (t6_0 : Int) (t7_0 : Int) : Option (Int × Unit) :=
  (bif Decidable.decide (t7_0 < t6_0) then (Option.bind (Go.Vx.idx t5_0 t7_0) fun (v1 : Int) => (bif v1 != (0 : Int) then Option.some (v1, ()) else r0 t5_0 t6_0 (Go.IntKind.i64.wrap (t7_0 + (1 : Int))))) else Option.some ((0 : Int), ()))

noncomputable def basin_first_m_w0 (n : Nat)  (k : Nat) (t5_0 : List Int) (t6_0 : Int) (t7_0 : Int) : Option (Int × Unit) :=
  iter (fun r y => basin_first_m_l0 n (fun t5_0 t6_0 t7_0 => r ((t5_0, (t6_0, (t7_0, ()))), ((), ()))) y.1.1 y.1.2.1 y.1.2.2.1) k ((t5_0, (t6_0, (t7_0, ()))), ((), ()))

noncomputable def basin_first_m (n : Nat) (l : List Int) : Option (Int × Unit) :=
  (basin_first_m_w0 n n (l) ((↑l.length : Int)) ((0 : Int)))

theorem basin_first_eq (n : Nat) (x : basin_first_a.den) : runF basin_first_g (basin_first_an n) Tryz.f87 basin_first_a basin_first_r x = basin_first_m n x.1 := by kernel_rfl

noncomputable def basin_first_b0 (t5_0 : List Int) (t7_0 : Int) (v1 : Int) : Option ((Int × Unit) ⊕ Unit) :=
  (bif v1 != (0 : Int) then (some (Sum.inl ((v1, ())))) else (some (Sum.inr ())))

noncomputable def basin_first_f0 (t5_0 : List Int) : Option (Int × Unit) :=
  (some (((0 : Int), ())))

theorem basin_first_m_w0_le (n : Nat) (hn : big ≤ n)  (t5_0 : List Int) (hx : List.length (t5_0) < lenMax) : LeF some (loopL (fun i__ e__ s__ => basin_first_b0 t5_0 i__ e__) (fun s__ => basin_first_f0 t5_0) 0 (t5_0) ()) (basin_first_m_w0 n n t5_0 (List.length (t5_0) : Int) 0) := by
  refine loopL_le (f := some) (W := fun k__ i__ s__ => basin_first_m_w0 n k__ t5_0 (List.length (t5_0) : Int) i__) (body := (fun i__ e__ s__ => basin_first_b0 t5_0 i__ e__)) (fin := (fun s__ => basin_first_f0 t5_0)) (fun k__ i__ s__ => ?_) hx () n (by unfold big at hn; unfold lenMax at hx; omega)
  show LeF _ _ (basin_first_m_l0 n (basin_first_m_w0 n k__) t5_0 (List.length (t5_0) : Int) i__)
  exact leCond (leBind fun v1 => (leCond (leSome rfl) (leSome rfl))) (leMap (leSome rfl))

noncomputable def basin_first_M (l : List Int) : Option (Int × Unit) :=
  (bif decide (List.length (l) < lenMax) then loopL (fun i__ e__ s__ => basin_first_b0 (l) i__ e__) (fun s__ => basin_first_f0 (l)) 0 (l) () else none)

theorem basin_first_run (l : List Int) (y : Int × Unit) (h : basin_first_M l = some y) : ∃ n, basin_first_m n l = some y :=
  ⟨big, LeF.top (show LeF some (basin_first_M l) (basin_first_m big l) from (fun (n : Nat) (hn : big ≤ n) => show LeF some (basin_first_M l) (basin_first_m n l) from (leGuard fun hx => by apply basin_first_m_w0_le n hn; exact hx)) big (Nat.le_refl _)) h⟩
noncomputable def basin_first_e : Entry := { f := 87, args := basin_first_a, ress := basin_first_r, m := fun x => basin_first_M x.1 }
theorem basin_first_ok : FnOK Tryz.prog basin_first_e := fn_ok (g := basin_first_g) (fn := Tryz.f87) hmixed tabOk eNil (by kernel_rfl) (by kernel_rfl) (by kernel_rfl) (fun x y h => let ⟨n, hn⟩ := basin_first_run x.1 y h; ⟨basin_first_an n, iNil, (basin_first_eq n x).trans hn⟩)

/-! ### (basin.Node).level -/
abbrev basin_Node_level_a : Ty := .pair t159 (.pair t3 .unit)
abbrev basin_Node_level_r : Ty := .pair t3 .unit
noncomputable def basin_Node_level_g : G := { T := T, E := [], muts := [], fz := [] }
def basin_Node_level_k : List (List Nat) := []
noncomputable def basin_Node_level_an (n : Nat) : Ann := { keep := basin_Node_level_k, fuel := n, inl := [], deep := 0 }
noncomputable def basin_Node_level_m (n : Nat) (n1 : Nod) (volume : Int) : Option (Int × Unit) :=
  (bif n1.snd.fst == (0 : Int) then none else Option.some (Go.IntKind.i64.wrap (volume.tdiv n1.snd.fst), ()))

theorem basin_Node_level_eq (n : Nat) (x : basin_Node_level_a.den) : runF basin_Node_level_g (basin_Node_level_an n) Tryz.f91 basin_Node_level_a basin_Node_level_r x = basin_Node_level_m n x.1 x.2.1 := by kernel_rfl

noncomputable def basin_Node_level_M (n1 : Nod) (volume : Int) : Option (Int × Unit) := basin_Node_level_m 0 n1 volume

theorem basin_Node_level_run (n1 : Nod) (volume : Int) (y : Int × Unit) (h : basin_Node_level_M n1 volume = some y) : ∃ n, basin_Node_level_m n n1 volume = some y := ⟨0, h⟩
noncomputable def basin_Node_level_e : Entry := { f := 91, args := basin_Node_level_a, ress := basin_Node_level_r, m := fun x => basin_Node_level_M x.1 x.2.1 }
theorem basin_Node_level_ok : FnOK Tryz.prog basin_Node_level_e := fn_ok (g := basin_Node_level_g) (fn := Tryz.f91) hmixed tabOk eNil (by kernel_rfl) (by kernel_rfl) (by kernel_rfl) (fun x y h => let ⟨n, hn⟩ := basin_Node_level_run x.1 x.2.1 y h; ⟨basin_Node_level_an n, iNil, (basin_Node_level_eq n x).trans hn⟩)

/-! ### basin.floor -/
abbrev basin_floor_a : Ty := .pair t3 (.pair t3 .unit)
abbrev basin_floor_r : Ty := .pair t3 .unit
noncomputable def basin_floor_g : G := { T := T, E := [], muts := [], fz := [] }
def basin_floor_k : List (List Nat) := []
noncomputable def basin_floor_an (n : Nat) : Ann := { keep := basin_floor_k, fuel := n, inl := [], deep := 0 }
noncomputable def basin_floor_m (n : Nat) (a : Int) (b : Int) : Option (Int × Unit) :=
  (bif b == (0 : Int) then none else (bif Decidable.decide (Go.IntKind.i64.wrap (Go.IntKind.i64.wrap (a.tdiv b) * b) > a) then Option.some (Go.IntKind.i64.wrap (Go.IntKind.i64.wrap (a.tdiv b) - (1 : Int)), ()) else Option.some (Go.IntKind.i64.wrap (a.tdiv b), ())))

theorem basin_floor_eq (n : Nat) (x : basin_floor_a.den) : runF basin_floor_g (basin_floor_an n) Tryz.f199 basin_floor_a basin_floor_r x = basin_floor_m n x.1 x.2.1 := by kernel_rfl

noncomputable def basin_floor_M (a : Int) (b : Int) : Option (Int × Unit) := basin_floor_m 0 a b

theorem basin_floor_run (a : Int) (b : Int) (y : Int × Unit) (h : basin_floor_M a b = some y) : ∃ n, basin_floor_m n a b = some y := ⟨0, h⟩
noncomputable def basin_floor_e : Entry := { f := 199, args := basin_floor_a, ress := basin_floor_r, m := fun x => basin_floor_M x.1 x.2.1 }
theorem basin_floor_ok : FnOK Tryz.prog basin_floor_e := fn_ok (g := basin_floor_g) (fn := Tryz.f199) hmixed tabOk eNil (by kernel_rfl) (by kernel_rfl) (by kernel_rfl) (fun x y h => let ⟨n, hn⟩ := basin_floor_run x.1 x.2.1 y h; ⟨basin_floor_an n, iNil, (basin_floor_eq n x).trans hn⟩)

/-! ### tidewayref04.Floor -/
noncomputable def ref04_Floor_m (n : Nat) (a : Int) (b : Int) : Option (Int × Unit) :=
  (bif b == (0 : Int) then none else (bif Decidable.decide (Go.IntKind.i64.wrap (Go.IntKind.i64.wrap (a.tdiv b) * b) > a) then Option.some (Go.IntKind.i64.wrap (Go.IntKind.i64.wrap (a.tdiv b) - (1 : Int)), ()) else Option.some (Go.IntKind.i64.wrap (a.tdiv b), ())))

noncomputable def ref04_Floor_M (a : Int) (b : Int) : Option (Int × Unit) := ref04_Floor_m 0 a b

/-! ### tidewayref01.CheckRange -/
abbrev ref01_CheckRange_a : Ty := .pair t3 (.pair t3 (.pair t3 .unit))
abbrev ref01_CheckRange_r : Ty := .pair t3 .unit
noncomputable def ref01_CheckRange_g : G := { T := T, E := [], muts := [], fz := [] }
def ref01_CheckRange_k : List (List Nat) := []
noncomputable def ref01_CheckRange_an (n : Nat) : Ann := { keep := ref01_CheckRange_k, fuel := n, inl := [], deep := 0 }
noncomputable def ref01_CheckRange_m (n : Nat) (n1 : Int) (low : Int) (high : Int) : Option (Int × Unit) :=
  (bif Decidable.decide (n1 < low) then Option.some ((3 : Int), ()) else (bif Decidable.decide (n1 > high) then Option.some ((3 : Int), ()) else Option.some ((0 : Int), ())))

theorem ref01_CheckRange_eq (n : Nat) (x : ref01_CheckRange_a.den) : runF ref01_CheckRange_g (ref01_CheckRange_an n) Tryz.f93 ref01_CheckRange_a ref01_CheckRange_r x = ref01_CheckRange_m n x.1 x.2.1 x.2.2.1 := by kernel_rfl

noncomputable def ref01_CheckRange (n1 : Int) (low : Int) (high : Int) : (Int × Unit) :=
  (bif Decidable.decide (n1 < low) then ((3 : Int), ()) else (bif Decidable.decide (n1 > high) then ((3 : Int), ()) else ((0 : Int), ())))

noncomputable abbrev ref01_CheckRange_M (n1 : Int) (low : Int) (high : Int) : Option (Int × Unit) := some (ref01_CheckRange n1 low high)

theorem ref01_CheckRange_run (n1 : Int) (low : Int) (high : Int) (y : Int × Unit) (h : ref01_CheckRange_M n1 low high = some y) : ∃ n, ref01_CheckRange_m n n1 low high = some y :=
  ⟨0, by rw [← h]; show ref01_CheckRange_m 0 n1 low high = some (ref01_CheckRange n1 low high); unfold ref01_CheckRange_m ref01_CheckRange; first | rfl | (simp only [cond_some]; done) | (simp only [cond_some]; rfl)⟩
noncomputable def ref01_CheckRange_e : Entry := { f := 93, args := ref01_CheckRange_a, ress := ref01_CheckRange_r, m := fun x => ref01_CheckRange_M x.1 x.2.1 x.2.2.1 }
theorem ref01_CheckRange_ok : FnOK Tryz.prog ref01_CheckRange_e := fn_ok (g := ref01_CheckRange_g) (fn := Tryz.f93) hmixed tabOk eNil (by kernel_rfl) (by kernel_rfl) (by kernel_rfl) (fun x y h => let ⟨n, hn⟩ := ref01_CheckRange_run x.1 x.2.1 x.2.2.1 y h; ⟨ref01_CheckRange_an n, iNil, (ref01_CheckRange_eq n x).trans hn⟩)

/-! ### tidewayref01.First -/
abbrev ref01_First_a : Ty := .pair t26 .unit
abbrev ref01_First_r : Ty := .pair t3 .unit
noncomputable def ref01_First_g : G := { T := T, E := [], muts := [], fz := [] }
def ref01_First_k : List (List Nat) := [[0, 3]]
noncomputable def ref01_First_an (n : Nat) : Ann := { keep := ref01_First_k, fuel := n, inl := [], deep := 0 }
noncomputable def ref01_First_m_l0 (n : Nat) (r0 : List Int → Int → Option (Int × Unit)) (l0_0 : List Int) (i3_0 : Int) : Option (Int × Unit) :=
  (bif Decidable.decide (i3_0 < (↑l0_0.length : Int)) then (Option.bind (Go.Vx.idx l0_0 i3_0) fun (v1 : Int) => (bif v1 != (0 : Int) then (Option.bind (Go.Vx.idx l0_0 i3_0) fun (v2 : Int) => Option.some (v2, ())) else r0 l0_0 (Go.IntKind.i64.wrap (i3_0 + (1 : Int))))) else Option.some ((0 : Int), ()))

noncomputable def ref01_First_m_w0 (n : Nat)  (k : Nat) (l0_0 : List Int) (i3_0 : Int) : Option (Int × Unit) :=
  iter (fun r y => ref01_First_m_l0 n (fun l0_0 i3_0 => r ((l0_0, (i3_0, ())), ((), ()))) y.1.1 y.1.2.1) k ((l0_0, (i3_0, ())), ((), ()))

noncomputable def ref01_First_m (n : Nat) (l : List Int) : Option (Int × Unit) :=
  (ref01_First_m_w0 n n (l) ((0 : Int)))

theorem ref01_First_eq (n : Nat) (x : ref01_First_a.den) : runF ref01_First_g (ref01_First_an n) Tryz.f121 ref01_First_a ref01_First_r x = ref01_First_m n x.1 := by kernel_rfl

noncomputable def ref01_First_b0 (l0_0 : List Int) (i3_0 : Int) (v1 : Int) : Option ((Int × Unit) ⊕ Unit) :=
  (bif v1 != (0 : Int) then (Option.bind (Go.Vx.idx l0_0 i3_0) fun (v2 : Int) => (some (Sum.inl ((v2, ()))))) else (some (Sum.inr ())))

noncomputable def ref01_First_f0 (l0_0 : List Int) : Option (Int × Unit) :=
  (some (((0 : Int), ())))

theorem ref01_First_m_w0_le (n : Nat) (hn : big ≤ n)  (l0_0 : List Int) (hx : List.length (l0_0) < lenMax) : LeF some (loopL (fun i__ e__ s__ => ref01_First_b0 l0_0 i__ e__) (fun s__ => ref01_First_f0 l0_0) 0 (l0_0) ()) (ref01_First_m_w0 n n l0_0 0) := by
  refine loopL_le (f := some) (W := fun k__ i__ s__ => ref01_First_m_w0 n k__ l0_0 i__) (body := (fun i__ e__ s__ => ref01_First_b0 l0_0 i__ e__)) (fin := (fun s__ => ref01_First_f0 l0_0)) (fun k__ i__ s__ => ?_) hx () n (by unfold big at hn; unfold lenMax at hx; omega)
  show LeF _ _ (ref01_First_m_l0 n (ref01_First_m_w0 n k__) l0_0 i__)
  exact leCond (leBind fun v1 => (leCond (leBind fun v2 => (leSome rfl)) (leSome rfl))) (leMap (leSome rfl))

noncomputable def ref01_First_M (l : List Int) : Option (Int × Unit) :=
  (bif decide (List.length (l) < lenMax) then loopL (fun i__ e__ s__ => ref01_First_b0 (l) i__ e__) (fun s__ => ref01_First_f0 (l)) 0 (l) () else none)

theorem ref01_First_run (l : List Int) (y : Int × Unit) (h : ref01_First_M l = some y) : ∃ n, ref01_First_m n l = some y :=
  ⟨big, LeF.top (show LeF some (ref01_First_M l) (ref01_First_m big l) from (fun (n : Nat) (hn : big ≤ n) => show LeF some (ref01_First_M l) (ref01_First_m n l) from (leGuard fun hx => by apply ref01_First_m_w0_le n hn; exact hx)) big (Nat.le_refl _)) h⟩
noncomputable def ref01_First_e : Entry := { f := 121, args := ref01_First_a, ress := ref01_First_r, m := fun x => ref01_First_M x.1 }
theorem ref01_First_ok : FnOK Tryz.prog ref01_First_e := fn_ok (g := ref01_First_g) (fn := Tryz.f121) hmixed tabOk eNil (by kernel_rfl) (by kernel_rfl) (by kernel_rfl) (fun x y h => let ⟨n, hn⟩ := ref01_First_run x.1 y h; ⟨ref01_First_an n, iNil, (ref01_First_eq n x).trans hn⟩)

/-! ### tidewayref04.sea -/
abbrev ref04_sea_a : Ty := .pair t9 .unit
abbrev ref04_sea_r : Ty := .pair t4 (.pair t4 .unit)
noncomputable def ref04_sea_g : G := { T := T, E := [], muts := [], fz := [] }
def ref04_sea_k : List (List Nat) := []
noncomputable def ref04_sea_an (n : Nat) : Ann := { keep := ref04_sea_k, fuel := n, inl := [], deep := 0 }
noncomputable def ref04_sea_m (n : Nat) (kind : List UInt8) : Option (Bool × Bool × Unit) :=
  (bif kind == [(98 : UInt8), (97 : UInt8), (114 : UInt8), (114 : UInt8), (105 : UInt8), (101 : UInt8), (114 : UInt8)] then Option.some (Bool.true, kind == [(111 : UInt8), (117 : UInt8), (116 : UInt8), (102 : UInt8), (97 : UInt8), (108 : UInt8), (108 : UInt8)], ()) else Option.some (kind == [(108 : UInt8), (101 : UInt8), (97 : UInt8), (107 : UInt8)], kind == [(111 : UInt8), (117 : UInt8), (116 : UInt8), (102 : UInt8), (97 : UInt8), (108 : UInt8), (108 : UInt8)], ()))

theorem ref04_sea_eq (n : Nat) (x : ref04_sea_a.den) : runF ref04_sea_g (ref04_sea_an n) Tryz.f145 ref04_sea_a ref04_sea_r x = ref04_sea_m n x.1 := by kernel_rfl

noncomputable def ref04_sea (kind : List UInt8) : (Bool × Bool × Unit) :=
  (bif kind == [(98 : UInt8), (97 : UInt8), (114 : UInt8), (114 : UInt8), (105 : UInt8), (101 : UInt8), (114 : UInt8)] then (Bool.true, kind == [(111 : UInt8), (117 : UInt8), (116 : UInt8), (102 : UInt8), (97 : UInt8), (108 : UInt8), (108 : UInt8)], ()) else (kind == [(108 : UInt8), (101 : UInt8), (97 : UInt8), (107 : UInt8)], kind == [(111 : UInt8), (117 : UInt8), (116 : UInt8), (102 : UInt8), (97 : UInt8), (108 : UInt8), (108 : UInt8)], ()))

noncomputable abbrev ref04_sea_M (kind : List UInt8) : Option (Bool × Bool × Unit) := some (ref04_sea kind)

theorem ref04_sea_run (kind : List UInt8) (y : Bool × Bool × Unit) (h : ref04_sea_M kind = some y) : ∃ n, ref04_sea_m n kind = some y :=
  ⟨0, by rw [← h]; show ref04_sea_m 0 kind = some (ref04_sea kind); unfold ref04_sea_m ref04_sea; first | rfl | (simp only [cond_some]; done) | (simp only [cond_some]; rfl)⟩
noncomputable def ref04_sea_e : Entry := { f := 145, args := ref04_sea_a, ress := ref04_sea_r, m := fun x => ref04_sea_M x.1 }
theorem ref04_sea_ok : FnOK Tryz.prog ref04_sea_e := fn_ok (g := ref04_sea_g) (fn := Tryz.f145) hmixed tabOk eNil (by kernel_rfl) (by kernel_rfl) (by kernel_rfl) (fun x y h => let ⟨n, hn⟩ := ref04_sea_run x.1 y h; ⟨ref04_sea_an n, iNil, (ref04_sea_eq n x).trans hn⟩)

/-! ### tidewayref04.fits -/
abbrev ref04_fits_a : Ty := .pair t3 (.pair t3 (.pair t4 .unit))
abbrev ref04_fits_r : Ty := .pair t4 .unit
noncomputable def ref04_fits_g : G := { T := T, E := [], muts := [], fz := [] }
def ref04_fits_k : List (List Nat) := []
noncomputable def ref04_fits_an (n : Nat) : Ann := { keep := ref04_fits_k, fuel := n, inl := [], deep := 0 }
noncomputable def ref04_fits_m (n : Nat) (n1 : Int) (nodes : Int) (atSea : Bool) : Option (Bool × Unit) :=
  (bif atSea then Option.some (n1 == (-1 : Int), ()) else (bif Decidable.decide (n1 ≥ (0 : Int)) then Option.some (Decidable.decide (n1 < nodes), ()) else Option.some (Bool.false, ())))

theorem ref04_fits_eq (n : Nat) (x : ref04_fits_a.den) : runF ref04_fits_g (ref04_fits_an n) Tryz.f146 ref04_fits_a ref04_fits_r x = ref04_fits_m n x.1 x.2.1 x.2.2.1 := by kernel_rfl

noncomputable def ref04_fits (n1 : Int) (nodes : Int) (atSea : Bool) : (Bool × Unit) :=
  (bif atSea then (n1 == (-1 : Int), ()) else (bif Decidable.decide (n1 ≥ (0 : Int)) then (Decidable.decide (n1 < nodes), ()) else (Bool.false, ())))

noncomputable abbrev ref04_fits_M (n1 : Int) (nodes : Int) (atSea : Bool) : Option (Bool × Unit) := some (ref04_fits n1 nodes atSea)

theorem ref04_fits_run (n1 : Int) (nodes : Int) (atSea : Bool) (y : Bool × Unit) (h : ref04_fits_M n1 nodes atSea = some y) : ∃ n, ref04_fits_m n n1 nodes atSea = some y :=
  ⟨0, by rw [← h]; show ref04_fits_m 0 n1 nodes atSea = some (ref04_fits n1 nodes atSea); unfold ref04_fits_m ref04_fits; first | rfl | (simp only [cond_some]; done) | (simp only [cond_some]; rfl)⟩
noncomputable def ref04_fits_e : Entry := { f := 146, args := ref04_fits_a, ress := ref04_fits_r, m := fun x => ref04_fits_M x.1 x.2.1 x.2.2.1 }
theorem ref04_fits_ok : FnOK Tryz.prog ref04_fits_e := fn_ok (g := ref04_fits_g) (fn := Tryz.f146) hmixed tabOk eNil (by kernel_rfl) (by kernel_rfl) (by kernel_rfl) (fun x y h => let ⟨n, hn⟩ := ref04_fits_run x.1 x.2.1 x.2.2.1 y h; ⟨ref04_fits_an n, iNil, (ref04_fits_eq n x).trans hn⟩)

/-! ### basin.ends -/
abbrev basin_ends_a : Ty := .pair t96 .unit
abbrev basin_ends_r : Ty := .pair t253 .unit
noncomputable def basin_ends_g : G := { T := T, E := [], muts := [], fz := [] }
def basin_ends_k : List (List Nat) := []
noncomputable def basin_ends_an (n : Nat) : Ann := { keep := basin_ends_k, fuel := n, inl := [], deep := 0 }
noncomputable def basin_ends_m (n : Nat) (x1 : Int × Int × Unit) : Option (List Int × Unit) :=
  Option.some ([x1.fst, x1.snd.fst], ())

theorem basin_ends_eq (n : Nat) (x : basin_ends_a.den) : runF basin_ends_g (basin_ends_an n) Tryz.f166 basin_ends_a basin_ends_r x = basin_ends_m n x.1 := by kernel_rfl

noncomputable def basin_ends (x1 : Int × Int × Unit) : (List Int × Unit) :=
  ([x1.fst, x1.snd.fst], ())

noncomputable abbrev basin_ends_M (x1 : Int × Int × Unit) : Option (List Int × Unit) := some (basin_ends x1)

theorem basin_ends_run (x1 : Int × Int × Unit) (y : List Int × Unit) (h : basin_ends_M x1 = some y) : ∃ n, basin_ends_m n x1 = some y :=
  ⟨0, by rw [← h]; show basin_ends_m 0 x1 = some (basin_ends x1); unfold basin_ends_m basin_ends; first | rfl | (simp only [cond_some]; done) | (simp only [cond_some]; rfl)⟩
noncomputable def basin_ends_e : Entry := { f := 166, args := basin_ends_a, ress := basin_ends_r, m := fun x => basin_ends_M x.1 }
theorem basin_ends_ok : FnOK Tryz.prog basin_ends_e := fn_ok (g := basin_ends_g) (fn := Tryz.f166) hmixed tabOk eNil (by kernel_rfl) (by kernel_rfl) (by kernel_rfl) (fun x y h => let ⟨n, hn⟩ := basin_ends_run x.1 y h; ⟨basin_ends_an n, iNil, (basin_ends_eq n x).trans hn⟩)

/-! ### tidewayref04.Kinds -/
abbrev ref04_Kinds_a : Ty := .unit
abbrev ref04_Kinds_r : Ty := .pair t67 .unit
noncomputable def ref04_Kinds_g : G := { T := T, E := [], muts := [], fz := [] }
def ref04_Kinds_k : List (List Nat) := []
noncomputable def ref04_Kinds_an (n : Nat) : Ann := { keep := ref04_Kinds_k, fuel := n, inl := [], deep := 0 }
noncomputable def ref04_Kinds_m (n : Nat)  : Option (List (List UInt8) × Unit) :=
  Option.some ([[(98 : UInt8), (97 : UInt8), (114 : UInt8), (114 : UInt8), (105 : UInt8), (101 : UInt8), (114 : UInt8)], [(108 : UInt8), (101 : UInt8), (97 : UInt8), (107 : UInt8)], [(111 : UInt8), (117 : UInt8), (116 : UInt8), (102 : UInt8), (97 : UInt8), (108 : UInt8), (108 : UInt8)], [(112 : UInt8), (117 : UInt8), (109 : UInt8), (112 : UInt8)], [(119 : UInt8), (101 : UInt8), (105 : UInt8), (114 : UInt8)]], ())

theorem ref04_Kinds_eq (n : Nat) (x : ref04_Kinds_a.den) : runF ref04_Kinds_g (ref04_Kinds_an n) Tryz.f38 ref04_Kinds_a ref04_Kinds_r x = ref04_Kinds_m n := by kernel_rfl

noncomputable def ref04_Kinds  : (List (List UInt8) × Unit) :=
  ([[(98 : UInt8), (97 : UInt8), (114 : UInt8), (114 : UInt8), (105 : UInt8), (101 : UInt8), (114 : UInt8)], [(108 : UInt8), (101 : UInt8), (97 : UInt8), (107 : UInt8)], [(111 : UInt8), (117 : UInt8), (116 : UInt8), (102 : UInt8), (97 : UInt8), (108 : UInt8), (108 : UInt8)], [(112 : UInt8), (117 : UInt8), (109 : UInt8), (112 : UInt8)], [(119 : UInt8), (101 : UInt8), (105 : UInt8), (114 : UInt8)]], ())

noncomputable abbrev ref04_Kinds_M  : Option (List (List UInt8) × Unit) := some (ref04_Kinds)

theorem ref04_Kinds_run  (y : List (List UInt8) × Unit) (h : ref04_Kinds_M = some y) : ∃ n, ref04_Kinds_m n = some y :=
  ⟨0, by rw [← h]; show ref04_Kinds_m 0 = some (ref04_Kinds); unfold ref04_Kinds_m ref04_Kinds; first | rfl | (simp only [cond_some]; done) | (simp only [cond_some]; rfl)⟩
noncomputable def ref04_Kinds_e : Entry := { f := 38, args := ref04_Kinds_a, ress := ref04_Kinds_r, m := fun x => ref04_Kinds_M }
theorem ref04_Kinds_ok : FnOK Tryz.prog ref04_Kinds_e := fn_ok (g := ref04_Kinds_g) (fn := Tryz.f38) hmixed tabOk eNil (by kernel_rfl) (by kernel_rfl) (by kernel_rfl) (fun x y h => let ⟨n, hn⟩ := ref04_Kinds_run y h; ⟨ref04_Kinds_an n, iNil, (ref04_Kinds_eq n x).trans hn⟩)

/-! ### tidewayref04.Short -/
abbrev ref04_Short_a : Ty := .pair t25 .unit
abbrev ref04_Short_r : Ty := .pair t4 .unit
noncomputable def ref04_Short_g : G := { T := T, E := [], muts := [], fz := [] }
def ref04_Short_k : List (List Nat) := [[1, 3], [1, 4]]
noncomputable def ref04_Short_an (n : Nat) : Ann := { keep := ref04_Short_k, fuel := n, inl := [], deep := 0 }
noncomputable def ref04_Short_m_l7 (n : Nat) (r7 : Bas → Int → Option (Bool × Unit)) (b1_7 : Bas) (i4_7 : Int) : Option (Bool × Unit) :=
  (bif Decidable.decide (i4_7 < (↑b1_7.snd.fst.length : Int)) then (Option.bind (Go.Vx.idx b1_7.snd.fst i4_7) fun (v8 : Lnk) => (bif Decidable.decide ((↑v8.fst.length : Int) > (60 : Int)) then Option.some (Bool.false, ()) else r7 b1_7 (Go.IntKind.i64.wrap (i4_7 + (1 : Int))))) else Option.some (Bool.true, ()))

noncomputable def ref04_Short_m_w7 (n : Nat)  (k : Nat) (b1_7 : Bas) (i4_7 : Int) : Option (Bool × Unit) :=
  iter (fun r y => ref04_Short_m_l7 n (fun b1_7 i4_7 => r ((b1_7, (i4_7, ())), ((), ()))) y.1.1 y.1.2.1) k ((b1_7, (i4_7, ())), ((), ()))

noncomputable def ref04_Short_m_l5 (n : Nat) (r5 : Bas → Int → Option (Bool × Unit)) (b1_5 : Bas) (i3_5 : Int) : Option (Bool × Unit) :=
  (bif Decidable.decide (i3_5 < (↑b1_5.fst.length : Int)) then (Option.bind (Go.Vx.idx b1_5.fst i3_5) fun (v6 : Nod) => (bif Decidable.decide ((↑v6.fst.length : Int) > (60 : Int)) then Option.some (Bool.false, ()) else r5 b1_5 (Go.IntKind.i64.wrap (i3_5 + (1 : Int))))) else (ref04_Short_m_w7 n n (b1_5) ((0 : Int))))

noncomputable def ref04_Short_m_w5 (n : Nat)  (k : Nat) (b1_5 : Bas) (i3_5 : Int) : Option (Bool × Unit) :=
  iter (fun r y => ref04_Short_m_l5 n (fun b1_5 i3_5 => r ((b1_5, (i3_5, ())), ((), ()))) y.1.1 y.1.2.1) k ((b1_5, (i3_5, ())), ((), ()))

noncomputable def ref04_Short_m_j9 (n : Nat) (b : Bas) : Option (Bool × Unit) :=
  (ref04_Short_m_w5 n n (b) ((0 : Int)))

noncomputable def ref04_Short_m (n : Nat) (b : Bas) : Option (Bool × Unit) :=
  (bif Decidable.decide ((↑b.fst.length : Int) > (9 : Int)) then Option.some (Bool.false, ()) else (bif Decidable.decide ((↑b.snd.fst.length : Int) > (8 : Int)) then (bif (↑b.snd.fst.length : Int) != (17 : Int) then Option.some (Bool.false, ()) else (ref04_Short_m_j9 n b)) else (ref04_Short_m_j9 n b)))

theorem ref04_Short_eq (n : Nat) (x : ref04_Short_a.den) : runF ref04_Short_g (ref04_Short_an n) Tryz.f15 ref04_Short_a ref04_Short_r x = ref04_Short_m n x.1 := by kernel_rfl

noncomputable def ref04_Short_b7 (b1_7 : Bas) (i4_7 : Int) (v8 : Lnk) : Option ((Bool × Unit) ⊕ Unit) :=
  (bif Decidable.decide ((↑v8.fst.length : Int) > (60 : Int)) then (some (Sum.inl ((Bool.false, ())))) else (some (Sum.inr ())))

noncomputable def ref04_Short_f7 (b1_7 : Bas) : Option (Bool × Unit) :=
  (some ((Bool.true, ())))

theorem ref04_Short_m_w7_le (n : Nat) (hn : big ≤ n)  (b1_7 : Bas) (hx : List.length (b1_7.snd.fst) < lenMax) : LeF some (loopL (fun i__ e__ s__ => ref04_Short_b7 b1_7 i__ e__) (fun s__ => ref04_Short_f7 b1_7) 0 (b1_7.snd.fst) ()) (ref04_Short_m_w7 n n b1_7 0) := by
  refine loopL_le (f := some) (W := fun k__ i__ s__ => ref04_Short_m_w7 n k__ b1_7 i__) (body := (fun i__ e__ s__ => ref04_Short_b7 b1_7 i__ e__)) (fin := (fun s__ => ref04_Short_f7 b1_7)) (fun k__ i__ s__ => ?_) hx () n (by unfold big at hn; unfold lenMax at hx; omega)
  show LeF _ _ (ref04_Short_m_l7 n (ref04_Short_m_w7 n k__) b1_7 i__)
  exact leCond (leBind fun v8 => (leCond (leSome rfl) (leSome rfl))) (leMap (leSome rfl))

noncomputable def ref04_Short_b5 (b1_5 : Bas) (i3_5 : Int) (v6 : Nod) : Option ((Bool × Unit) ⊕ Unit) :=
  (bif Decidable.decide ((↑v6.fst.length : Int) > (60 : Int)) then (some (Sum.inl ((Bool.false, ())))) else (some (Sum.inr ())))

noncomputable def ref04_Short_f5 (b1_5 : Bas) : Option (Bool × Unit) :=
  (bif decide (List.length (b1_5.snd.fst) < lenMax) then loopL (fun i__ e__ s__ => ref04_Short_b7 (b1_5) i__ e__) (fun s__ => ref04_Short_f7 (b1_5)) 0 (b1_5.snd.fst) () else none)

theorem ref04_Short_m_w5_le (n : Nat) (hn : big ≤ n)  (b1_5 : Bas) (hx : List.length (b1_5.fst) < lenMax) : LeF some (loopL (fun i__ e__ s__ => ref04_Short_b5 b1_5 i__ e__) (fun s__ => ref04_Short_f5 b1_5) 0 (b1_5.fst) ()) (ref04_Short_m_w5 n n b1_5 0) := by
  refine loopL_le (f := some) (W := fun k__ i__ s__ => ref04_Short_m_w5 n k__ b1_5 i__) (body := (fun i__ e__ s__ => ref04_Short_b5 b1_5 i__ e__)) (fin := (fun s__ => ref04_Short_f5 b1_5)) (fun k__ i__ s__ => ?_) hx () n (by unfold big at hn; unfold lenMax at hx; omega)
  show LeF _ _ (ref04_Short_m_l5 n (ref04_Short_m_w5 n k__) b1_5 i__)
  exact leCond (leBind fun v6 => (leCond (leSome rfl) (leSome rfl))) (leMap (leGuard fun hx => by apply ref04_Short_m_w7_le n hn; exact hx))

noncomputable def ref04_Short_s9 (b : Bas) : Option (Bool × Unit) :=
  (bif decide (List.length (b.fst) < lenMax) then loopL (fun i__ e__ s__ => ref04_Short_b5 (b) i__ e__) (fun s__ => ref04_Short_f5 (b)) 0 (b.fst) () else none)

theorem ref04_Short_s9_le (n : Nat) (hn : big ≤ n)  (b : Bas) : LeF some (ref04_Short_s9 b) (ref04_Short_m_j9 n b) :=
  (leGuard fun hx => by apply ref04_Short_m_w5_le n hn; exact hx)

noncomputable def ref04_Short_M (b : Bas) : Option (Bool × Unit) :=
  (bif Decidable.decide ((↑b.fst.length : Int) > (9 : Int)) then (some ((Bool.false, ()))) else (bif Decidable.decide ((↑b.snd.fst.length : Int) > (8 : Int)) then (bif (↑b.snd.fst.length : Int) != (17 : Int) then (some ((Bool.false, ()))) else (ref04_Short_s9 b)) else (ref04_Short_s9 b)))

theorem ref04_Short_run (b : Bas) (y : Bool × Unit) (h : ref04_Short_M b = some y) : ∃ n, ref04_Short_m n b = some y :=
  ⟨big, LeF.top (show LeF some (ref04_Short_M b) (ref04_Short_m big b) from (fun (n : Nat) (hn : big ≤ n) => show LeF some (ref04_Short_M b) (ref04_Short_m n b) from (leCond (leSome rfl) (leCond (leCond (leSome rfl) (by apply ref04_Short_s9_le n hn)) (by apply ref04_Short_s9_le n hn)))) big (Nat.le_refl _)) h⟩
noncomputable def ref04_Short_e : Entry := { f := 15, args := ref04_Short_a, ress := ref04_Short_r, m := fun x => ref04_Short_M x.1 }
theorem ref04_Short_ok : FnOK Tryz.prog ref04_Short_e := fn_ok (g := ref04_Short_g) (fn := Tryz.f15) hmixed tabOk eNil (by kernel_rfl) (by kernel_rfl) (by kernel_rfl) (fun x y h => let ⟨n, hn⟩ := ref04_Short_run x.1 y h; ⟨ref04_Short_an n, iNil, (ref04_Short_eq n x).trans hn⟩)

/-! ### tidewayref04.ShortConditions -/
/-! ### tidewaylaw04.ints -/
abbrev law04_ints_a : Ty := .pair t26 .unit
abbrev law04_ints_r : Ty := .pair t26 .unit
noncomputable def law04_ints_g : G := { T := T, E := [], muts := [3], fz := [] }
def law04_ints_k : List (List Nat) := []
noncomputable def law04_ints_an (n : Nat) : Ann := { keep := law04_ints_k, fuel := n, inl := [], deep := 0 }
noncomputable def law04_ints_m (n : Nat) (l : List Int) : Option (List Int × Unit) :=
  (bif Decidable.decide ((0 : Nat) + l.length ≤ Go.Vx.memMax) then Option.some (l, ()) else none)

theorem law04_ints_eq (n : Nat) (x : law04_ints_a.den) : runF law04_ints_g (law04_ints_an n) Tryz.f20 law04_ints_a law04_ints_r x = law04_ints_m n x.1 := by kernel_rfl

noncomputable def law04_ints_M (l : List Int) : Option (List Int × Unit) := law04_ints_m 0 l

theorem law04_ints_run (l : List Int) (y : List Int × Unit) (h : law04_ints_M l = some y) : ∃ n, law04_ints_m n l = some y := ⟨0, h⟩
noncomputable def law04_ints_e : Entry := { f := 20, args := law04_ints_a, ress := law04_ints_r, m := fun x => law04_ints_M x.1 }
theorem law04_ints_ok : FnOK Tryz.prog law04_ints_e := fn_ok (g := law04_ints_g) (fn := Tryz.f20) hmixed tabOk eNil (by kernel_rfl) (by kernel_rfl) (by kernel_rfl) (fun x y h => let ⟨n, hn⟩ := law04_ints_run x.1 y h; ⟨law04_ints_an n, iNil, (law04_ints_eq n x).trans hn⟩)

/-! ### (basin.Link).node -/
abbrev basin_Link_node_a : Ty := .pair t163 .unit
abbrev basin_Link_node_r : Ty := .pair t3 .unit
noncomputable def basin_Link_node_g : G := { T := T, E := [], muts := [], fz := [] }
def basin_Link_node_k : List (List Nat) := []
noncomputable def basin_Link_node_an (n : Nat) : Ann := { keep := basin_Link_node_k, fuel := n, inl := [], deep := 0 }
noncomputable def basin_Link_node_m (n : Nat) (l : Lnk) : Option (Int × Unit) :=
  (bif l.snd.fst == (-1 : Int) then Option.some (l.snd.snd.fst, ()) else Option.some (l.snd.fst, ()))

theorem basin_Link_node_eq (n : Nat) (x : basin_Link_node_a.den) : runF basin_Link_node_g (basin_Link_node_an n) Tryz.f142 basin_Link_node_a basin_Link_node_r x = basin_Link_node_m n x.1 := by kernel_rfl

noncomputable def basin_Link_node (l : Lnk) : (Int × Unit) :=
  (bif l.snd.fst == (-1 : Int) then (l.snd.snd.fst, ()) else (l.snd.fst, ()))

noncomputable abbrev basin_Link_node_M (l : Lnk) : Option (Int × Unit) := some (basin_Link_node l)

theorem basin_Link_node_run (l : Lnk) (y : Int × Unit) (h : basin_Link_node_M l = some y) : ∃ n, basin_Link_node_m n l = some y :=
  ⟨0, by rw [← h]; show basin_Link_node_m 0 l = some (basin_Link_node l); unfold basin_Link_node_m basin_Link_node; first | rfl | (simp only [cond_some]; done) | (simp only [cond_some]; rfl)⟩
noncomputable def basin_Link_node_e : Entry := { f := 142, args := basin_Link_node_a, ress := basin_Link_node_r, m := fun x => basin_Link_node_M x.1 }
theorem basin_Link_node_ok : FnOK Tryz.prog basin_Link_node_e := fn_ok (g := basin_Link_node_g) (fn := Tryz.f142) hmixed tabOk eNil (by kernel_rfl) (by kernel_rfl) (by kernel_rfl) (fun x y h => let ⟨n, hn⟩ := basin_Link_node_run x.1 y h; ⟨basin_Link_node_an n, iNil, (basin_Link_node_eq n x).trans hn⟩)

/-! ### tidewayref01.HasWord -/
abbrev ref01_HasWord_a : Ty := .pair t67 (.pair t9 .unit)
abbrev ref01_HasWord_r : Ty := .pair t4 .unit
noncomputable def ref01_HasWord_g : G := { T := T, E := [], muts := [], fz := [] }
def ref01_HasWord_k : List (List Nat) := [[0, 1, 5]]
noncomputable def ref01_HasWord_an (n : Nat) : Ann := { keep := ref01_HasWord_k, fuel := n, inl := [], deep := 0 }
noncomputable def ref01_HasWord_m_l0 (n : Nat) (r0 : List (List UInt8) → List UInt8 → Int → Option (Bool × Unit)) (l0_0 : List (List UInt8)) (s1_0 : List UInt8) (i5_0 : Int) : Option (Bool × Unit) :=
  (bif Decidable.decide (i5_0 < (↑l0_0.length : Int)) then (Option.bind (Go.Vx.idx l0_0 i5_0) fun (v1 : List UInt8) => (bif v1 == s1_0 then Option.some (Bool.true, ()) else r0 l0_0 s1_0 (Go.IntKind.i64.wrap (i5_0 + (1 : Int))))) else Option.some (Bool.false, ()))

noncomputable def ref01_HasWord_m_w0 (n : Nat)  (k : Nat) (l0_0 : List (List UInt8)) (s1_0 : List UInt8) (i5_0 : Int) : Option (Bool × Unit) :=
  iter (fun r y => ref01_HasWord_m_l0 n (fun l0_0 s1_0 i5_0 => r ((l0_0, (s1_0, (i5_0, ()))), ((), ()))) y.1.1 y.1.2.1 y.1.2.2.1) k ((l0_0, (s1_0, (i5_0, ()))), ((), ()))

noncomputable def ref01_HasWord_m (n : Nat) (l : List (List UInt8)) (s : List UInt8) : Option (Bool × Unit) :=
  (ref01_HasWord_m_w0 n n (l) (s) ((0 : Int)))

theorem ref01_HasWord_eq (n : Nat) (x : ref01_HasWord_a.den) : runF ref01_HasWord_g (ref01_HasWord_an n) Tryz.f144 ref01_HasWord_a ref01_HasWord_r x = ref01_HasWord_m n x.1 x.2.1 := by kernel_rfl

noncomputable def ref01_HasWord_b0 (l0_0 : List (List UInt8)) (s1_0 : List UInt8) (i5_0 : Int) (v1 : List UInt8) : Option ((Bool × Unit) ⊕ Unit) :=
  (bif v1 == s1_0 then (some (Sum.inl ((Bool.true, ())))) else (some (Sum.inr ())))

noncomputable def ref01_HasWord_f0 (l0_0 : List (List UInt8)) (s1_0 : List UInt8) : Option (Bool × Unit) :=
  (some ((Bool.false, ())))

theorem ref01_HasWord_m_w0_le (n : Nat) (hn : big ≤ n)  (l0_0 : List (List UInt8)) (s1_0 : List UInt8) (hx : List.length (l0_0) < lenMax) : LeF some (loopL (fun i__ e__ s__ => ref01_HasWord_b0 l0_0 s1_0 i__ e__) (fun s__ => ref01_HasWord_f0 l0_0 s1_0) 0 (l0_0) ()) (ref01_HasWord_m_w0 n n l0_0 s1_0 0) := by
  refine loopL_le (f := some) (W := fun k__ i__ s__ => ref01_HasWord_m_w0 n k__ l0_0 s1_0 i__) (body := (fun i__ e__ s__ => ref01_HasWord_b0 l0_0 s1_0 i__ e__)) (fin := (fun s__ => ref01_HasWord_f0 l0_0 s1_0)) (fun k__ i__ s__ => ?_) hx () n (by unfold big at hn; unfold lenMax at hx; omega)
  show LeF _ _ (ref01_HasWord_m_l0 n (ref01_HasWord_m_w0 n k__) l0_0 s1_0 i__)
  exact leCond (leBind fun v1 => (leCond (leSome rfl) (leSome rfl))) (leMap (leSome rfl))

noncomputable def ref01_HasWord_M (l : List (List UInt8)) (s : List UInt8) : Option (Bool × Unit) :=
  (bif decide (List.length (l) < lenMax) then loopL (fun i__ e__ s__ => ref01_HasWord_b0 (l) (s) i__ e__) (fun s__ => ref01_HasWord_f0 (l) (s)) 0 (l) () else none)

theorem ref01_HasWord_run (l : List (List UInt8)) (s : List UInt8) (y : Bool × Unit) (h : ref01_HasWord_M l s = some y) : ∃ n, ref01_HasWord_m n l s = some y :=
  ⟨big, LeF.top (show LeF some (ref01_HasWord_M l s) (ref01_HasWord_m big l s) from (fun (n : Nat) (hn : big ≤ n) => show LeF some (ref01_HasWord_M l s) (ref01_HasWord_m n l s) from (leGuard fun hx => by apply ref01_HasWord_m_w0_le n hn; exact hx)) big (Nat.le_refl _)) h⟩
noncomputable def ref01_HasWord_e : Entry := { f := 144, args := ref01_HasWord_a, ress := ref01_HasWord_r, m := fun x => ref01_HasWord_M x.1 x.2.1 }
theorem ref01_HasWord_ok : FnOK Tryz.prog ref01_HasWord_e := fn_ok (g := ref01_HasWord_g) (fn := Tryz.f144) hmixed tabOk eNil (by kernel_rfl) (by kernel_rfl) (by kernel_rfl) (fun x y h => let ⟨n, hn⟩ := ref01_HasWord_run x.1 x.2.1 y h; ⟨ref01_HasWord_an n, iNil, (ref01_HasWord_eq n x).trans hn⟩)

/-! ### tidewayref01.SameInts -/
abbrev ref01_SameInts_a : Ty := .pair t26 (.pair t26 .unit)
abbrev ref01_SameInts_r : Ty := .pair t4 .unit
noncomputable def ref01_SameInts_g : G := { T := T, E := [], muts := [], fz := [] }
def ref01_SameInts_k : List (List Nat) := [[0, 1, 5]]
noncomputable def ref01_SameInts_an (n : Nat) : Ann := { keep := ref01_SameInts_k, fuel := n, inl := [], deep := 0 }
noncomputable def ref01_SameInts_m_l0 (n : Nat) (r0 : List Int → List Int → Int → Option (Bool × Unit)) (a0_0 : List Int) (b1_0 : List Int) (i5_0 : Int) : Option (Bool × Unit) :=
  (bif Decidable.decide (i5_0 < (↑a0_0.length : Int)) then (Option.bind (Go.Vx.idx a0_0 i5_0) fun (v1 : Int) => (Option.bind (Go.Vx.idx b1_0 i5_0) fun (v2 : Int) => (bif v1 != v2 then Option.some (Bool.false, ()) else r0 a0_0 b1_0 (Go.IntKind.i64.wrap (i5_0 + (1 : Int)))))) else Option.some (Bool.true, ()))

noncomputable def ref01_SameInts_m_w0 (n : Nat)  (k : Nat) (a0_0 : List Int) (b1_0 : List Int) (i5_0 : Int) : Option (Bool × Unit) :=
  iter (fun r y => ref01_SameInts_m_l0 n (fun a0_0 b1_0 i5_0 => r ((a0_0, (b1_0, (i5_0, ()))), ((), ()))) y.1.1 y.1.2.1 y.1.2.2.1) k ((a0_0, (b1_0, (i5_0, ()))), ((), ()))

noncomputable def ref01_SameInts_m (n : Nat) (a : List Int) (b : List Int) : Option (Bool × Unit) :=
  (bif (↑a.length : Int) != (↑b.length : Int) then Option.some (Bool.false, ()) else (ref01_SameInts_m_w0 n n (a) (b) ((0 : Int))))

theorem ref01_SameInts_eq (n : Nat) (x : ref01_SameInts_a.den) : runF ref01_SameInts_g (ref01_SameInts_an n) Tryz.f41 ref01_SameInts_a ref01_SameInts_r x = ref01_SameInts_m n x.1 x.2.1 := by kernel_rfl

noncomputable def ref01_SameInts_b0 (a0_0 : List Int) (b1_0 : List Int) (i5_0 : Int) (v1 : Int) : Option ((Bool × Unit) ⊕ Unit) :=
  (Option.bind (Go.Vx.idx b1_0 i5_0) fun (v2 : Int) => (bif v1 != v2 then (some (Sum.inl ((Bool.false, ())))) else (some (Sum.inr ()))))

noncomputable def ref01_SameInts_f0 (a0_0 : List Int) (b1_0 : List Int) : Option (Bool × Unit) :=
  (some ((Bool.true, ())))

theorem ref01_SameInts_m_w0_le (n : Nat) (hn : big ≤ n)  (a0_0 : List Int) (b1_0 : List Int) (hx : List.length (a0_0) < lenMax) : LeF some (loopL (fun i__ e__ s__ => ref01_SameInts_b0 a0_0 b1_0 i__ e__) (fun s__ => ref01_SameInts_f0 a0_0 b1_0) 0 (a0_0) ()) (ref01_SameInts_m_w0 n n a0_0 b1_0 0) := by
  refine loopL_le (f := some) (W := fun k__ i__ s__ => ref01_SameInts_m_w0 n k__ a0_0 b1_0 i__) (body := (fun i__ e__ s__ => ref01_SameInts_b0 a0_0 b1_0 i__ e__)) (fin := (fun s__ => ref01_SameInts_f0 a0_0 b1_0)) (fun k__ i__ s__ => ?_) hx () n (by unfold big at hn; unfold lenMax at hx; omega)
  show LeF _ _ (ref01_SameInts_m_l0 n (ref01_SameInts_m_w0 n k__) a0_0 b1_0 i__)
  exact leCond (leBind fun v1 => (leBind fun v2 => (leCond (leSome rfl) (leSome rfl)))) (leMap (leSome rfl))

noncomputable def ref01_SameInts_M (a : List Int) (b : List Int) : Option (Bool × Unit) :=
  (bif (↑a.length : Int) != (↑b.length : Int) then (some ((Bool.false, ()))) else (bif decide (List.length (a) < lenMax) then loopL (fun i__ e__ s__ => ref01_SameInts_b0 (a) (b) i__ e__) (fun s__ => ref01_SameInts_f0 (a) (b)) 0 (a) () else none))

theorem ref01_SameInts_run (a : List Int) (b : List Int) (y : Bool × Unit) (h : ref01_SameInts_M a b = some y) : ∃ n, ref01_SameInts_m n a b = some y :=
  ⟨big, LeF.top (show LeF some (ref01_SameInts_M a b) (ref01_SameInts_m big a b) from (fun (n : Nat) (hn : big ≤ n) => show LeF some (ref01_SameInts_M a b) (ref01_SameInts_m n a b) from (leCond (leSome rfl) (leGuard fun hx => by apply ref01_SameInts_m_w0_le n hn; exact hx))) big (Nat.le_refl _)) h⟩
noncomputable def ref01_SameInts_e : Entry := { f := 41, args := ref01_SameInts_a, ress := ref01_SameInts_r, m := fun x => ref01_SameInts_M x.1 x.2.1 }
theorem ref01_SameInts_ok : FnOK Tryz.prog ref01_SameInts_e := fn_ok (g := ref01_SameInts_g) (fn := Tryz.f41) hmixed tabOk eNil (by kernel_rfl) (by kernel_rfl) (by kernel_rfl) (fun x y h => let ⟨n, hn⟩ := ref01_SameInts_run x.1 x.2.1 y h; ⟨ref01_SameInts_an n, iNil, (ref01_SameInts_eq n x).trans hn⟩)

/-! ### tidewayref04.tooMuch -/
noncomputable def ref04_tooMuch_b0 (v0_0 : List Int) (i3_0 : Int) (v1 : Int) : Option ((Bool × Unit) ⊕ Unit) :=
  (bif Decidable.decide (v1 > (100000000 : Int)) then (some (Sum.inl ((Bool.true, ())))) else (some (Sum.inr ())))

noncomputable def ref04_tooMuch_f0 (v0_0 : List Int) : Option (Bool × Unit) :=
  (some ((Bool.false, ())))

noncomputable def ref04_tooMuch_M (v : List Int) : Option (Bool × Unit) :=
  (bif decide (List.length (v) < lenMax) then loopL (fun i__ e__ s__ => ref04_tooMuch_b0 (v) i__ e__) (fun s__ => ref04_tooMuch_f0 (v)) 0 (v) () else none)

end Go.Tw
end

section
set_option linter.all false
set_option maxRecDepth 1000000
namespace Go.Tw
open Go.Vx Go.Vx.B Go.Proofs
/-! ### tidewaylaw04.given -/
abbrev law04_given_a : Ty := .pair t25 .unit
abbrev law04_given_r : Ty := .pair t41 .unit
noncomputable def law04_given_g : G := { T := T, E := [], muts := [3], fz := [] }
def law04_given_k : List (List Nat) := [[1, 2, 3, 9, 10, 11], [2, 3, 23, 24, 25]]
noncomputable def law04_given_an (n : Nat) : Ann := { keep := law04_given_k, fuel := n, inl := [], deep := 0 }
noncomputable def law04_given_m_l2 (n : Nat) (r2 : List Lnk → Int → Int → List Nod → List Lnk → Option (Bas × Unit)) (t23_2 : List Lnk) (t24_2 : Int) (t25_2 : Int) (c2_2 : List Nod) (c3_2 : List Lnk) : Option (Bas × Unit) :=
  (bif Decidable.decide (t25_2 < t24_2) then (Option.bind (Go.Vx.idx t23_2 t25_2) fun (v3 : Lnk) => (bif Decidable.decide (c3_2.length + (1 : Nat) ≤ Go.Vx.memMax) then r2 t23_2 t24_2 (Go.IntKind.i64.wrap (t25_2 + (1 : Int))) c2_2 (c3_2 ++ [(v3.fst, v3.snd.fst, v3.snd.snd.fst, v3.snd.snd.snd.fst, v3.snd.snd.snd.snd.fst, ())]) else none)) else Option.some ((c2_2, c3_2, ()), ()))

noncomputable def law04_given_m_w2 (n : Nat)  (k : Nat) (t23_2 : List Lnk) (t24_2 : Int) (t25_2 : Int) (c2_2 : List Nod) (c3_2 : List Lnk) : Option (Bas × Unit) :=
  iter (fun r y => law04_given_m_l2 n (fun t23_2 t24_2 t25_2 c2_2 c3_2 => r ((t23_2, (t24_2, (t25_2, ()))), (((), ((), (c2_2, (c3_2, ())))), ()))) y.1.1 y.1.2.1 y.1.2.2.1 y.2.1.2.2.1 y.2.1.2.2.2.1) k ((t23_2, (t24_2, (t25_2, ()))), (((), ((), (c2_2, (c3_2, ())))), ()))

noncomputable def law04_given_m_l0 (n : Nat) (r0 : Bas → List Nod → Int → Int → List Nod → List Lnk → Option (Bas × Unit)) (b1_0 : Bas) (t9_0 : List Nod) (t10_0 : Int) (t11_0 : Int) (c2_0 : List Nod) (c3_0 : List Lnk) : Option (Bas × Unit) :=
  (bif Decidable.decide (t11_0 < t10_0) then (Option.bind (Go.Vx.idx t9_0 t11_0) fun (v1 : Nod) => (bif Decidable.decide (c2_0.length + (1 : Nat) ≤ Go.Vx.memMax) then r0 b1_0 t9_0 t10_0 (Go.IntKind.i64.wrap (t11_0 + (1 : Int))) (c2_0 ++ [(v1.fst, v1.snd.fst, v1.snd.snd.fst, ())]) c3_0 else none)) else (law04_given_m_w2 n n (b1_0.snd.fst) ((↑b1_0.snd.fst.length : Int)) ((0 : Int)) (c2_0) (c3_0)))

noncomputable def law04_given_m_w0 (n : Nat)  (k : Nat) (b1_0 : Bas) (t9_0 : List Nod) (t10_0 : Int) (t11_0 : Int) (c2_0 : List Nod) (c3_0 : List Lnk) : Option (Bas × Unit) :=
  iter (fun r y => law04_given_m_l0 n (fun b1_0 t9_0 t10_0 t11_0 c2_0 c3_0 => r ((b1_0, (t9_0, (t10_0, (t11_0, ())))), (((), ((), (c2_0, (c3_0, ())))), ()))) y.1.1 y.1.2.1 y.1.2.2.1 y.1.2.2.2.1 y.2.1.2.2.1 y.2.1.2.2.2.1) k ((b1_0, (t9_0, (t10_0, (t11_0, ())))), (((), ((), (c2_0, (c3_0, ())))), ()))

noncomputable def law04_given_m (n : Nat) (b : Bas) : Option (Bas × Unit) :=
  (law04_given_m_w0 n n (b) (b.fst) ((↑b.fst.length : Int)) ((0 : Int)) ([]) ([]))

theorem law04_given_eq (n : Nat) (x : law04_given_a.den) : runF law04_given_g (law04_given_an n) Tryz.f19 law04_given_a law04_given_r x = law04_given_m n x.1 := by kernel_rfl

noncomputable def law04_given_b2 (t23_2 : List Lnk) (c2_2 : List Nod) (t25_2 : Int) (v3 : Lnk) (c3_2 : List Lnk) : Option ((Bas × Unit) ⊕ (List Lnk)) :=
  (bif Decidable.decide (c3_2.length + (1 : Nat) ≤ Go.Vx.memMax) then (some (Sum.inr (c3_2 ++ [(v3.fst, v3.snd.fst, v3.snd.snd.fst, v3.snd.snd.snd.fst, v3.snd.snd.snd.snd.fst, ())]))) else none)

noncomputable def law04_given_f2 (t23_2 : List Lnk) (c2_2 : List Nod) (c3_2 : List Lnk) : Option (Bas × Unit) :=
  (some (((c2_2, c3_2, ()), ())))

theorem law04_given_m_w2_le (n : Nat) (hn : big ≤ n)  (t23_2 : List Lnk) (c2_2 : List Nod) (c3_2 : List Lnk) (hx : List.length (t23_2) < lenMax) : LeF some (loopL (fun i__ e__ s__ => law04_given_b2 t23_2 c2_2 i__ e__ s__) (fun s__ => law04_given_f2 t23_2 c2_2 s__) 0 (t23_2) c3_2) (law04_given_m_w2 n n t23_2 (List.length (t23_2) : Int) 0 c2_2 c3_2) := by
  refine loopL_le (f := some) (W := fun k__ i__ s__ => law04_given_m_w2 n k__ t23_2 (List.length (t23_2) : Int) i__ c2_2 s__) (body := (fun i__ e__ s__ => law04_given_b2 t23_2 c2_2 i__ e__ s__)) (fin := (fun s__ => law04_given_f2 t23_2 c2_2 s__)) (fun k__ i__ s__ => ?_) hx c3_2 n (by unfold big at hn; unfold lenMax at hx; omega)
  show LeF _ _ (law04_given_m_l2 n (law04_given_m_w2 n k__) t23_2 (List.length (t23_2) : Int) i__ c2_2 s__)
  exact leCond (leBind fun v3 => (leCond (leSome rfl) leNone)) (leMap (leSome rfl))

noncomputable def law04_given_b0 (b1_0 : Bas) (t9_0 : List Nod) (c3_0 : List Lnk) (t11_0 : Int) (v1 : Nod) (c2_0 : List Nod) : Option ((Bas × Unit) ⊕ (List Nod)) :=
  (bif Decidable.decide (c2_0.length + (1 : Nat) ≤ Go.Vx.memMax) then (some (Sum.inr (c2_0 ++ [(v1.fst, v1.snd.fst, v1.snd.snd.fst, ())]))) else none)

noncomputable def law04_given_f0 (b1_0 : Bas) (t9_0 : List Nod) (c3_0 : List Lnk) (c2_0 : List Nod) : Option (Bas × Unit) :=
  (bif decide (List.length (b1_0.snd.fst) < lenMax) then loopL (fun i__ e__ s__ => law04_given_b2 (b1_0.snd.fst) (c2_0) i__ e__ s__) (fun s__ => law04_given_f2 (b1_0.snd.fst) (c2_0) s__) 0 (b1_0.snd.fst) (c3_0) else none)

theorem law04_given_m_w0_le (n : Nat) (hn : big ≤ n)  (b1_0 : Bas) (t9_0 : List Nod) (c3_0 : List Lnk) (c2_0 : List Nod) (hx : List.length (t9_0) < lenMax) : LeF some (loopL (fun i__ e__ s__ => law04_given_b0 b1_0 t9_0 c3_0 i__ e__ s__) (fun s__ => law04_given_f0 b1_0 t9_0 c3_0 s__) 0 (t9_0) c2_0) (law04_given_m_w0 n n b1_0 t9_0 (List.length (t9_0) : Int) 0 c2_0 c3_0) := by
  refine loopL_le (f := some) (W := fun k__ i__ s__ => law04_given_m_w0 n k__ b1_0 t9_0 (List.length (t9_0) : Int) i__ s__ c3_0) (body := (fun i__ e__ s__ => law04_given_b0 b1_0 t9_0 c3_0 i__ e__ s__)) (fin := (fun s__ => law04_given_f0 b1_0 t9_0 c3_0 s__)) (fun k__ i__ s__ => ?_) hx c2_0 n (by unfold big at hn; unfold lenMax at hx; omega)
  show LeF _ _ (law04_given_m_l0 n (law04_given_m_w0 n k__) b1_0 t9_0 (List.length (t9_0) : Int) i__ s__ c3_0)
  exact leCond (leBind fun v1 => (leCond (leSome rfl) leNone)) (leMap (leGuard fun hx => by apply law04_given_m_w2_le n hn; exact hx))

noncomputable def law04_given_M (b : Bas) : Option (Bas × Unit) :=
  (bif decide (List.length (b.fst) < lenMax) then loopL (fun i__ e__ s__ => law04_given_b0 (b) (b.fst) ([]) i__ e__ s__) (fun s__ => law04_given_f0 (b) (b.fst) ([]) s__) 0 (b.fst) ([]) else none)

theorem law04_given_run (b : Bas) (y : Bas × Unit) (h : law04_given_M b = some y) : ∃ n, law04_given_m n b = some y :=
  ⟨big, LeF.top (show LeF some (law04_given_M b) (law04_given_m big b) from (fun (n : Nat) (hn : big ≤ n) => show LeF some (law04_given_M b) (law04_given_m n b) from (leGuard fun hx => by apply law04_given_m_w0_le n hn; exact hx)) big (Nat.le_refl _)) h⟩
noncomputable def law04_given_e : Entry := { f := 19, args := law04_given_a, ress := law04_given_r, m := fun x => law04_given_M x.1 }
theorem law04_given_ok : FnOK Tryz.prog law04_given_e := fn_ok (g := law04_given_g) (fn := Tryz.f19) hmixed tabOk eNil (by kernel_rfl) (by kernel_rfl) (by kernel_rfl) (fun x y h => let ⟨n, hn⟩ := law04_given_run x.1 y h; ⟨law04_given_an n, iNil, (law04_given_eq n x).trans hn⟩)

/-! ### tidewayref04.Levels -/
/-! ### tidewayref04.SameIntervals -/
abbrev ref04_SameIntervals_a : Ty := .pair t119 (.pair t119 .unit)
abbrev ref04_SameIntervals_r : Ty := .pair t4 .unit
noncomputable def ref04_SameIntervals_g : G := { T := T, E := [], muts := [], fz := [] }
def ref04_SameIntervals_k : List (List Nat) := [[0, 1, 5], [0, 1, 5, 6]]
noncomputable def ref04_SameIntervals_an (n : Nat) : Ann := { keep := ref04_SameIntervals_k, fuel := n, inl := [], deep := 0 }
noncomputable def ref04_SameIntervals_m_l3 (n : Nat) (r0 : List (List (Int × Int × Unit)) → List (List (Int × Int × Unit)) → Int → Option (Bool × Unit)) (r3 : List (List (Int × Int × Unit)) → List (List (Int × Int × Unit)) → Int → Int → Option (Bool × Unit)) (a0_3 : List (List (Int × Int × Unit))) (b1_3 : List (List (Int × Int × Unit))) (i5_3 : Int) (k6_3 : Int) : Option (Bool × Unit) :=
  (Option.bind (Go.Vx.idx a0_3 i5_3) fun (v4 : List (Int × Int × Unit)) => (bif Decidable.decide (k6_3 < (↑v4.length : Int)) then (Option.bind (Go.Vx.idx a0_3 i5_3) fun (v5 : List (Int × Int × Unit)) => (Option.bind (Go.Vx.idx v5 k6_3) fun (v6 : Int × Int × Unit) => (Option.bind (Go.Vx.idx b1_3 i5_3) fun (v7 : List (Int × Int × Unit)) => (Option.bind (Go.Vx.idx v7 k6_3) fun (v8 : Int × Int × Unit) => (bif !Go.Vx.eqV ((Go.Vx.Ty.int Go.IntKind.i64).pair ((Go.Vx.Ty.int Go.IntKind.i64).pair Go.Vx.Ty.unit)) v6 v8 then Option.some (Bool.false, ()) else r3 a0_3 b1_3 i5_3 (Go.IntKind.i64.wrap (k6_3 + (1 : Int)))))))) else r0 a0_3 b1_3 (Go.IntKind.i64.wrap (i5_3 + (1 : Int)))))

noncomputable def ref04_SameIntervals_m_w3 (n : Nat) (r0 : List (List (Int × Int × Unit)) → List (List (Int × Int × Unit)) → Int → Option (Bool × Unit)) (k : Nat) (a0_3 : List (List (Int × Int × Unit))) (b1_3 : List (List (Int × Int × Unit))) (i5_3 : Int) (k6_3 : Int) : Option (Bool × Unit) :=
  iter (fun r y => ref04_SameIntervals_m_l3 n r0 (fun a0_3 b1_3 i5_3 k6_3 => r ((a0_3, (b1_3, (i5_3, (k6_3, ())))), ((), ()))) y.1.1 y.1.2.1 y.1.2.2.1 y.1.2.2.2.1) k ((a0_3, (b1_3, (i5_3, (k6_3, ())))), ((), ()))

noncomputable def ref04_SameIntervals_m_l0 (n : Nat) (r0 : List (List (Int × Int × Unit)) → List (List (Int × Int × Unit)) → Int → Option (Bool × Unit)) (a0_0 : List (List (Int × Int × Unit))) (b1_0 : List (List (Int × Int × Unit))) (i5_0 : Int) : Option (Bool × Unit) :=
  (bif Decidable.decide (i5_0 < (↑a0_0.length : Int)) then (Option.bind (Go.Vx.idx a0_0 i5_0) fun (v1 : List (Int × Int × Unit)) => (Option.bind (Go.Vx.idx b1_0 i5_0) fun (v2 : List (Int × Int × Unit)) => (bif (↑v1.length : Int) != (↑v2.length : Int) then Option.some (Bool.false, ()) else (ref04_SameIntervals_m_w3 n r0 n (a0_0) (b1_0) (i5_0) ((0 : Int)))))) else Option.some (Bool.true, ()))

noncomputable def ref04_SameIntervals_m_w0 (n : Nat)  (k : Nat) (a0_0 : List (List (Int × Int × Unit))) (b1_0 : List (List (Int × Int × Unit))) (i5_0 : Int) : Option (Bool × Unit) :=
  iter (fun r y => ref04_SameIntervals_m_l0 n (fun a0_0 b1_0 i5_0 => r ((a0_0, (b1_0, (i5_0, ()))), ((), ()))) y.1.1 y.1.2.1 y.1.2.2.1) k ((a0_0, (b1_0, (i5_0, ()))), ((), ()))

noncomputable def ref04_SameIntervals_m (n : Nat) (a : List (List (Int × Int × Unit))) (b : List (List (Int × Int × Unit))) : Option (Bool × Unit) :=
  (bif (↑a.length : Int) != (↑b.length : Int) then Option.some (Bool.false, ()) else (ref04_SameIntervals_m_w0 n n (a) (b) ((0 : Int))))

theorem ref04_SameIntervals_eq (n : Nat) (x : ref04_SameIntervals_a.den) : runF ref04_SameIntervals_g (ref04_SameIntervals_an n) Tryz.f74 ref04_SameIntervals_a ref04_SameIntervals_r x = ref04_SameIntervals_m n x.1 x.2.1 := by kernel_rfl

noncomputable def ref04_SameIntervals_b3 (a0_3 : List (List (Int × Int × Unit))) (b1_3 : List (List (Int × Int × Unit))) (i5_3 : Int) (v4 : List (Int × Int × Unit)) (k6_3 : Int) : Option (((Bool × Unit) ⊕ Unit) ⊕ Unit) :=
  (Option.bind (Go.Vx.idx a0_3 i5_3) fun (v5 : List (Int × Int × Unit)) => (Option.bind (Go.Vx.idx v5 k6_3) fun (v6 : Int × Int × Unit) => (Option.bind (Go.Vx.idx b1_3 i5_3) fun (v7 : List (Int × Int × Unit)) => (Option.bind (Go.Vx.idx v7 k6_3) fun (v8 : Int × Int × Unit) => (bif !Go.Vx.eqV ((Go.Vx.Ty.int Go.IntKind.i64).pair ((Go.Vx.Ty.int Go.IntKind.i64).pair Go.Vx.Ty.unit)) v6 v8 then (some (Sum.inl (Sum.inl ((Bool.false, ()))))) else (some (Sum.inr ())))))))

noncomputable def ref04_SameIntervals_f3 (a0_3 : List (List (Int × Int × Unit))) (b1_3 : List (List (Int × Int × Unit))) (i5_3 : Int) (v4 : List (Int × Int × Unit)) : Option ((Bool × Unit) ⊕ Unit) :=
  (some (Sum.inr ()))

theorem ref04_SameIntervals_m_w3_le (n : Nat) (hn : big ≤ n)  (r0 : List (List (Int × Int × Unit)) → List (List (Int × Int × Unit)) → Int → Option (Bool × Unit)) (a0_3 : List (List (Int × Int × Unit))) (b1_3 : List (List (Int × Int × Unit))) (i5_3 : Int) (v4 : List (Int × Int × Unit)) (h0__ : (Go.Vx.idx a0_3 i5_3) = some v4) (hx : ((↑v4.length : Int)) ≤ (9223372036854775807 : Int)) : LeF (elim some fun (s__ : Unit) => r0 a0_3 b1_3 (Go.IntKind.i64.wrap (i5_3 + 1))) (loopN (fun i__ s__ => ref04_SameIntervals_b3 a0_3 b1_3 i5_3 v4 i__) (fun s__ => ref04_SameIntervals_f3 a0_3 b1_3 i5_3 v4) (((↑v4.length : Int)) - 0).toNat 0 ()) (ref04_SameIntervals_m_w3 n r0 n a0_3 b1_3 i5_3 0) := by
  refine loopN_le (f := (elim some fun (s__ : Unit) => r0 a0_3 b1_3 (Go.IntKind.i64.wrap (i5_3 + 1)))) (W := fun k__ i__ s__ => ref04_SameIntervals_m_w3 n r0 k__ a0_3 b1_3 i5_3 i__) (body := (fun i__ s__ => ref04_SameIntervals_b3 a0_3 b1_3 i5_3 v4 i__)) (fin := (fun s__ => ref04_SameIntervals_f3 a0_3 b1_3 i5_3 v4)) (fun k__ i__ s__ => ?_) hx () n 0 (by decide) (by unfold big at hn; omega)
  show LeF _ _ (ref04_SameIntervals_m_l3 n r0 (ref04_SameIntervals_m_w3 n r0 k__) a0_3 b1_3 i5_3 i__)
  exact leAt h0__ (leCond (leBind fun v5 => (leBind fun v6 => (leBind fun v7 => (leBind fun v8 => (leCond (leSome rfl) (leSome rfl)))))) (leMap (leSome rfl)))

noncomputable def ref04_SameIntervals_b0 (a0_0 : List (List (Int × Int × Unit))) (b1_0 : List (List (Int × Int × Unit))) (i5_0 : Int) (v1 : List (Int × Int × Unit)) : Option ((Bool × Unit) ⊕ Unit) :=
  (Option.bind (Go.Vx.idx b1_0 i5_0) fun (v2 : List (Int × Int × Unit)) => (bif (↑v1.length : Int) != (↑v2.length : Int) then (some (Sum.inl ((Bool.false, ())))) else (Option.bind (Go.Vx.idx a0_0 i5_0) fun (v4 : List (Int × Int × Unit)) => (bif decide (((↑v4.length : Int)) ≤ (9223372036854775807 : Int)) then loopN (fun i__ s__ => ref04_SameIntervals_b3 (a0_0) (b1_0) (i5_0) v4 i__) (fun s__ => ref04_SameIntervals_f3 (a0_0) (b1_0) (i5_0) v4) (((↑v4.length : Int)) - 0).toNat 0 () else none))))

noncomputable def ref04_SameIntervals_f0 (a0_0 : List (List (Int × Int × Unit))) (b1_0 : List (List (Int × Int × Unit))) : Option (Bool × Unit) :=
  (some ((Bool.true, ())))

theorem ref04_SameIntervals_m_w0_le (n : Nat) (hn : big ≤ n)  (a0_0 : List (List (Int × Int × Unit))) (b1_0 : List (List (Int × Int × Unit))) (hx : List.length (a0_0) < lenMax) : LeF some (loopL (fun i__ e__ s__ => ref04_SameIntervals_b0 a0_0 b1_0 i__ e__) (fun s__ => ref04_SameIntervals_f0 a0_0 b1_0) 0 (a0_0) ()) (ref04_SameIntervals_m_w0 n n a0_0 b1_0 0) := by
  refine loopL_le (f := some) (W := fun k__ i__ s__ => ref04_SameIntervals_m_w0 n k__ a0_0 b1_0 i__) (body := (fun i__ e__ s__ => ref04_SameIntervals_b0 a0_0 b1_0 i__ e__)) (fin := (fun s__ => ref04_SameIntervals_f0 a0_0 b1_0)) (fun k__ i__ s__ => ?_) hx () n (by unfold big at hn; unfold lenMax at hx; omega)
  show LeF _ _ (ref04_SameIntervals_m_l0 n (ref04_SameIntervals_m_w0 n k__) a0_0 b1_0 i__)
  exact leCond (leBind fun v1 => (leBind fun v2 => (leCond (leSome rfl) (leBindE fun v4 h0__ => (leGuard fun hx => by apply ref04_SameIntervals_m_w3_le n hn; exact h0__; exact hx))))) (leMap (leSome rfl))

noncomputable def ref04_SameIntervals_M (a : List (List (Int × Int × Unit))) (b : List (List (Int × Int × Unit))) : Option (Bool × Unit) :=
  (bif (↑a.length : Int) != (↑b.length : Int) then (some ((Bool.false, ()))) else (bif decide (List.length (a) < lenMax) then loopL (fun i__ e__ s__ => ref04_SameIntervals_b0 (a) (b) i__ e__) (fun s__ => ref04_SameIntervals_f0 (a) (b)) 0 (a) () else none))

theorem ref04_SameIntervals_run (a : List (List (Int × Int × Unit))) (b : List (List (Int × Int × Unit))) (y : Bool × Unit) (h : ref04_SameIntervals_M a b = some y) : ∃ n, ref04_SameIntervals_m n a b = some y :=
  ⟨big, LeF.top (show LeF some (ref04_SameIntervals_M a b) (ref04_SameIntervals_m big a b) from (fun (n : Nat) (hn : big ≤ n) => show LeF some (ref04_SameIntervals_M a b) (ref04_SameIntervals_m n a b) from (leCond (leSome rfl) (leGuard fun hx => by apply ref04_SameIntervals_m_w0_le n hn; exact hx))) big (Nat.le_refl _)) h⟩
noncomputable def ref04_SameIntervals_e : Entry := { f := 74, args := ref04_SameIntervals_a, ress := ref04_SameIntervals_r, m := fun x => ref04_SameIntervals_M x.1 x.2.1 }
theorem ref04_SameIntervals_ok : FnOK Tryz.prog ref04_SameIntervals_e := fn_ok (g := ref04_SameIntervals_g) (fn := Tryz.f74) hmixed tabOk eNil (by kernel_rfl) (by kernel_rfl) (by kernel_rfl) (fun x y h => let ⟨n, hn⟩ := ref04_SameIntervals_run x.1 x.2.1 y h; ⟨ref04_SameIntervals_an n, iNil, (ref04_SameIntervals_eq n x).trans hn⟩)

/-! ### tidewaylaw04.lake -/
abbrev law04_lake_a : Ty := .unit
abbrev law04_lake_r : Ty := .pair t41 .unit
noncomputable def law04_lake_g : G := { T := T, E := [], muts := [], fz := [] }
def law04_lake_k : List (List Nat) := []
noncomputable def law04_lake_an (n : Nat) : Ann := { keep := law04_lake_k, fuel := n, inl := [], deep := 0 }
noncomputable def law04_lake_m (n : Nat)  : Option (Bas × Unit) :=
  Option.some (([([(108 : UInt8), (97 : UInt8), (107 : UInt8), (101 : UInt8)], (10 : Int), (20 : Int), ()), ([(112 : UInt8), (111 : UInt8), (108 : UInt8), (100 : UInt8), (101 : UInt8), (114 : UInt8)], (5 : Int), (8 : Int), ())], [([(98 : UInt8), (97 : UInt8), (114 : UInt8), (114 : UInt8), (105 : UInt8), (101 : UInt8), (114 : UInt8)], (-1 : Int), (0 : Int), (0 : Int), (2 : Int), ()), ([(112 : UInt8), (117 : UInt8), (109 : UInt8), (112 : UInt8)], (1 : Int), (0 : Int), (4 : Int), (10 : Int), ()), ([(111 : UInt8), (117 : UInt8), (116 : UInt8), (102 : UInt8), (97 : UInt8), (108 : UInt8), (108 : UInt8)], (0 : Int), (-1 : Int), (12 : Int), (4 : Int), ())], ()), ())

theorem law04_lake_eq (n : Nat) (x : law04_lake_a.den) : runF law04_lake_g (law04_lake_an n) Tryz.f86 law04_lake_a law04_lake_r x = law04_lake_m n := by kernel_rfl

noncomputable def law04_lake  : (Bas × Unit) :=
  (([([(108 : UInt8), (97 : UInt8), (107 : UInt8), (101 : UInt8)], (10 : Int), (20 : Int), ()), ([(112 : UInt8), (111 : UInt8), (108 : UInt8), (100 : UInt8), (101 : UInt8), (114 : UInt8)], (5 : Int), (8 : Int), ())], [([(98 : UInt8), (97 : UInt8), (114 : UInt8), (114 : UInt8), (105 : UInt8), (101 : UInt8), (114 : UInt8)], (-1 : Int), (0 : Int), (0 : Int), (2 : Int), ()), ([(112 : UInt8), (117 : UInt8), (109 : UInt8), (112 : UInt8)], (1 : Int), (0 : Int), (4 : Int), (10 : Int), ()), ([(111 : UInt8), (117 : UInt8), (116 : UInt8), (102 : UInt8), (97 : UInt8), (108 : UInt8), (108 : UInt8)], (0 : Int), (-1 : Int), (12 : Int), (4 : Int), ())], ()), ())

noncomputable abbrev law04_lake_M  : Option (Bas × Unit) := some (law04_lake)

theorem law04_lake_run  (y : Bas × Unit) (h : law04_lake_M = some y) : ∃ n, law04_lake_m n = some y :=
  ⟨0, by rw [← h]; show law04_lake_m 0 = some (law04_lake); unfold law04_lake_m law04_lake; first | rfl | (simp only [cond_some]; done) | (simp only [cond_some]; rfl)⟩
noncomputable def law04_lake_e : Entry := { f := 86, args := law04_lake_a, ress := law04_lake_r, m := fun x => law04_lake_M }
theorem law04_lake_ok : FnOK Tryz.prog law04_lake_e := fn_ok (g := law04_lake_g) (fn := Tryz.f86) hmixed tabOk eNil (by kernel_rfl) (by kernel_rfl) (by kernel_rfl) (fun x y h => let ⟨n, hn⟩ := law04_lake_run y h; ⟨law04_lake_an n, iNil, (law04_lake_eq n x).trans hn⟩)

/-! ### gauge.IsName -/
abbrev gauge_IsName_a : Ty := .pair t9 .unit
abbrev gauge_IsName_r : Ty := .pair t4 .unit
noncomputable def gauge_IsName_g : G := { T := T, E := [], muts := [], fz := [] }
def gauge_IsName_k : List (List Nat) := [[0, 8, 16, 17, 20, 21, 22, 23, 24, 25, 30, 31, 34, 35, 40, 41, 42, 43, 44, 45, 50, 51, 52]]
noncomputable def gauge_IsName_an (n : Nat) : Ann := { keep := gauge_IsName_k, fuel := n, inl := [], deep := 0 }
noncomputable def gauge_IsName_m_j14 (n : Nat) (r0 : List UInt8 → List UInt8 → Int → Option (Bool × Unit)) (s0_0 : List UInt8) (str0__0 : List UInt8) (pos0__0 : Int) (j2 : Bool) (j7 : Bool) : Option (Bool × Unit) :=
  (bif !j2 then (bif pos0__0 == (0 : Int) then Option.some (Bool.false, ()) else (bif !j7 then Option.some (Bool.false, ()) else r0 s0_0 str0__0 (Go.Vx.runeAt str0__0 pos0__0).snd)) else r0 s0_0 str0__0 (Go.Vx.runeAt str0__0 pos0__0).snd)

noncomputable def gauge_IsName_m_j15 (n : Nat) (r0 : List UInt8 → List UInt8 → Int → Option (Bool × Unit)) (s0_0 : List UInt8) (str0__0 : List UInt8) (pos0__0 : Int) (j2 : Bool) : Option (Bool × Unit) :=
  (bif Decidable.decide ((Go.Vx.runeAt str0__0 pos0__0).fst ≥ (48 : Int)) then (bif Decidable.decide ((Go.Vx.runeAt str0__0 pos0__0).fst ≤ (57 : Int)) then (gauge_IsName_m_j14 n r0 s0_0 str0__0 pos0__0 j2 (Bool.true)) else (gauge_IsName_m_j14 n r0 s0_0 str0__0 pos0__0 j2 ((Go.Vx.runeAt str0__0 pos0__0).fst == (95 : Int)))) else (gauge_IsName_m_j14 n r0 s0_0 str0__0 pos0__0 j2 ((Go.Vx.runeAt str0__0 pos0__0).fst == (95 : Int))))

noncomputable def gauge_IsName_m_l0 (n : Nat) (r0 : List UInt8 → List UInt8 → Int → Option (Bool × Unit)) (s0_0 : List UInt8) (str0__0 : List UInt8) (pos0__0 : Int) : Option (Bool × Unit) :=
  (bif Decidable.decide (pos0__0 < (↑str0__0.length : Int)) then (bif Decidable.decide ((Go.Vx.runeAt str0__0 pos0__0).fst ≥ (65 : Int)) then (bif Decidable.decide ((Go.Vx.runeAt str0__0 pos0__0).fst ≤ (90 : Int)) then (gauge_IsName_m_j15 n r0 s0_0 str0__0 pos0__0 (Bool.true)) else (bif Decidable.decide ((Go.Vx.runeAt str0__0 pos0__0).fst ≥ (97 : Int)) then (gauge_IsName_m_j15 n r0 s0_0 str0__0 pos0__0 (Decidable.decide ((Go.Vx.runeAt str0__0 pos0__0).fst ≤ (122 : Int)))) else (gauge_IsName_m_j15 n r0 s0_0 str0__0 pos0__0 (Bool.false)))) else (bif Decidable.decide ((Go.Vx.runeAt str0__0 pos0__0).fst ≥ (97 : Int)) then (gauge_IsName_m_j15 n r0 s0_0 str0__0 pos0__0 (Decidable.decide ((Go.Vx.runeAt str0__0 pos0__0).fst ≤ (122 : Int)))) else (gauge_IsName_m_j15 n r0 s0_0 str0__0 pos0__0 (Bool.false)))) else (bif !s0_0 == [] then Option.some (Decidable.decide ((↑s0_0.length : Int) ≤ (24 : Int)), ()) else Option.some (Bool.false, ())))

noncomputable def gauge_IsName_m_w0 (n : Nat)  (k : Nat) (s0_0 : List UInt8) (str0__0 : List UInt8) (pos0__0 : Int) : Option (Bool × Unit) :=
  iter (fun r y => gauge_IsName_m_l0 n (fun s0_0 str0__0 pos0__0 => r ((s0_0, ()), (((str0__0, pos0__0), ()), ()))) y.1.1 y.2.1.1.1 y.2.1.1.2) k ((s0_0, ()), (((str0__0, pos0__0), ()), ()))

noncomputable def gauge_IsName_m (n : Nat) (s : List UInt8) : Option (Bool × Unit) :=
  (gauge_IsName_m_w0 n n (s) (s) ((0 : Int)))

theorem gauge_IsName_eq (n : Nat) (x : gauge_IsName_a.den) : runF gauge_IsName_g (gauge_IsName_an n) Tryz.f100 gauge_IsName_a gauge_IsName_r x = gauge_IsName_m n x.1 := by kernel_rfl

noncomputable def gauge_IsName_s14 (s0_0 : List UInt8) (str0__0 : List UInt8) (pos0__0 : Int) (j2 : Bool) (j7 : Bool) : Option ((Bool × Unit) ⊕ Unit) :=
  (bif !j2 then (bif pos0__0 == (0 : Int) then (some (Sum.inl ((Bool.false, ())))) else (bif !j7 then (some (Sum.inl ((Bool.false, ())))) else (some (Sum.inr ())))) else (some (Sum.inr ())))

theorem gauge_IsName_s14_le (n : Nat) (hn : big ≤ n)  (r0 : List UInt8 → List UInt8 → Int → Option (Bool × Unit)) (s0_0 : List UInt8) (str0__0 : List UInt8) (pos0__0 : Int) (j2 : Bool) (j7 : Bool) : LeF (elim some fun (s__ : Unit) => r0 s0_0 str0__0 (Go.Vx.runeAt (str0__0) pos0__0).2) (gauge_IsName_s14 s0_0 str0__0 pos0__0 j2 j7) (gauge_IsName_m_j14 n r0 s0_0 str0__0 pos0__0 j2 j7) :=
  (leCond (leCond (leSome rfl) (leCond (leSome rfl) (leSome rfl))) (leSome rfl))

noncomputable def gauge_IsName_s15 (s0_0 : List UInt8) (str0__0 : List UInt8) (pos0__0 : Int) (j2 : Bool) : Option ((Bool × Unit) ⊕ Unit) :=
  (bif Decidable.decide ((Go.Vx.runeAt str0__0 pos0__0).fst ≥ (48 : Int)) then (bif Decidable.decide ((Go.Vx.runeAt str0__0 pos0__0).fst ≤ (57 : Int)) then (gauge_IsName_s14 s0_0 str0__0 pos0__0 j2 (Bool.true)) else (gauge_IsName_s14 s0_0 str0__0 pos0__0 j2 ((Go.Vx.runeAt str0__0 pos0__0).fst == (95 : Int)))) else (gauge_IsName_s14 s0_0 str0__0 pos0__0 j2 ((Go.Vx.runeAt str0__0 pos0__0).fst == (95 : Int))))

theorem gauge_IsName_s15_le (n : Nat) (hn : big ≤ n)  (r0 : List UInt8 → List UInt8 → Int → Option (Bool × Unit)) (s0_0 : List UInt8) (str0__0 : List UInt8) (pos0__0 : Int) (j2 : Bool) : LeF (elim some fun (s__ : Unit) => r0 s0_0 str0__0 (Go.Vx.runeAt (str0__0) pos0__0).2) (gauge_IsName_s15 s0_0 str0__0 pos0__0 j2) (gauge_IsName_m_j15 n r0 s0_0 str0__0 pos0__0 j2) :=
  (leCond (leCond (by apply gauge_IsName_s14_le n hn) (by apply gauge_IsName_s14_le n hn)) (by apply gauge_IsName_s14_le n hn))

noncomputable def gauge_IsName_b0 (s0_0 : List UInt8) (str0__0 : List UInt8) (pos0__0 : Int) : Option ((Bool × Unit) ⊕ Unit) :=
  (bif Decidable.decide ((Go.Vx.runeAt str0__0 pos0__0).fst ≥ (65 : Int)) then (bif Decidable.decide ((Go.Vx.runeAt str0__0 pos0__0).fst ≤ (90 : Int)) then (gauge_IsName_s15 s0_0 str0__0 pos0__0 (Bool.true)) else (bif Decidable.decide ((Go.Vx.runeAt str0__0 pos0__0).fst ≥ (97 : Int)) then (gauge_IsName_s15 s0_0 str0__0 pos0__0 (Decidable.decide ((Go.Vx.runeAt str0__0 pos0__0).fst ≤ (122 : Int)))) else (gauge_IsName_s15 s0_0 str0__0 pos0__0 (Bool.false)))) else (bif Decidable.decide ((Go.Vx.runeAt str0__0 pos0__0).fst ≥ (97 : Int)) then (gauge_IsName_s15 s0_0 str0__0 pos0__0 (Decidable.decide ((Go.Vx.runeAt str0__0 pos0__0).fst ≤ (122 : Int)))) else (gauge_IsName_s15 s0_0 str0__0 pos0__0 (Bool.false))))

noncomputable def gauge_IsName_f0 (s0_0 : List UInt8) (str0__0 : List UInt8) : Option (Bool × Unit) :=
  (bif !s0_0 == [] then (some ((Decidable.decide ((↑s0_0.length : Int) ≤ (24 : Int)), ()))) else (some ((Bool.false, ()))))

theorem gauge_IsName_m_w0_le (n : Nat) (hn : big ≤ n)  (s0_0 : List UInt8) (str0__0 : List UInt8) (hx : List.length (str0__0) < lenMax) : LeF some (loopS (str0__0) (fun i__ s__ => gauge_IsName_b0 s0_0 str0__0 i__) (fun s__ => gauge_IsName_f0 s0_0 str0__0) (List.length (str0__0)) 0 ()) (gauge_IsName_m_w0 n n s0_0 str0__0 0) := by
  refine loopS_le (f := some) (W := fun k__ i__ s__ => gauge_IsName_m_w0 n k__ s0_0 str0__0 i__) (body := (fun i__ s__ => gauge_IsName_b0 s0_0 str0__0 i__)) (fin := (fun s__ => gauge_IsName_f0 s0_0 str0__0)) (fun k__ i__ s__ => ?_) () n (by unfold big at hn; unfold lenMax at hx; omega)
  show LeF _ _ (gauge_IsName_m_l0 n (gauge_IsName_m_w0 n k__) s0_0 str0__0 i__)
  exact leCond (leCond (leCond (by apply gauge_IsName_s15_le n hn) (leCond (by apply gauge_IsName_s15_le n hn) (by apply gauge_IsName_s15_le n hn))) (leCond (by apply gauge_IsName_s15_le n hn) (by apply gauge_IsName_s15_le n hn))) (leMap (leCond (leSome rfl) (leSome rfl)))

noncomputable def gauge_IsName_M (s : List UInt8) : Option (Bool × Unit) :=
  (bif decide (List.length (s) < lenMax) then loopS (s) (fun i__ s__ => gauge_IsName_b0 (s) (s) i__) (fun s__ => gauge_IsName_f0 (s) (s)) (List.length (s)) 0 () else none)

theorem gauge_IsName_run (s : List UInt8) (y : Bool × Unit) (h : gauge_IsName_M s = some y) : ∃ n, gauge_IsName_m n s = some y :=
  ⟨big, LeF.top (show LeF some (gauge_IsName_M s) (gauge_IsName_m big s) from (fun (n : Nat) (hn : big ≤ n) => show LeF some (gauge_IsName_M s) (gauge_IsName_m n s) from (leGuard fun hx => by apply gauge_IsName_m_w0_le n hn; exact hx)) big (Nat.le_refl _)) h⟩
noncomputable def gauge_IsName_e : Entry := { f := 100, args := gauge_IsName_a, ress := gauge_IsName_r, m := fun x => gauge_IsName_M x.1 }
theorem gauge_IsName_ok : FnOK Tryz.prog gauge_IsName_e := fn_ok (g := gauge_IsName_g) (fn := Tryz.f100) hmixed tabOk eNil (by kernel_rfl) (by kernel_rfl) (by kernel_rfl) (fun x y h => let ⟨n, hn⟩ := gauge_IsName_run x.1 y h; ⟨gauge_IsName_an n, iNil, (gauge_IsName_eq n x).trans hn⟩)

/-! ### basin.mapped[basin.Link,api.Errno] -/
abbrev basin_mapped_basin_Link_api_Errno_a : Ty := .pair t39 (.pair t177 .unit)
abbrev basin_mapped_basin_Link_api_Errno_r : Ty := .pair t174 .unit
noncomputable def basin_mapped_basin_Link_api_Errno_g : G := { T := T, E := [], muts := [5], fz := [] }
def basin_mapped_basin_Link_api_Errno_k : List (List Nat) := [[1, 5, 8, 9, 10]]
noncomputable def basin_mapped_basin_Link_api_Errno_an (n : Nat) : Ann := { keep := basin_mapped_basin_Link_api_Errno_k, fuel := n, inl := [], deep := 0 }
noncomputable def basin_mapped_basin_Link_api_Errno_m_l0 (n : Nat) (r0 : (Lnk × Unit → Option (Int × Unit)) → List Lnk → Int → Int → List Int → Option (List Int × Unit)) (of1_0 : Lnk × Unit → Option (Int × Unit)) (t8_0 : List Lnk) (t9_0 : Int) (t10_0 : Int) (c0_0 : List Int) : Option (List Int × Unit) :=
  (bif Decidable.decide (t10_0 < t9_0) then (Option.bind (Go.Vx.idx t8_0 t10_0) fun (v1 : Lnk) => (Option.bind (of1_0 ((v1.fst, v1.snd.fst, v1.snd.snd.fst, v1.snd.snd.snd.fst, v1.snd.snd.snd.snd.fst, ()), ())) fun (v2 : Int × Unit) => (bif Decidable.decide (c0_0.length + (1 : Nat) ≤ Go.Vx.memMax) then r0 of1_0 t8_0 t9_0 (Go.IntKind.i64.wrap (t10_0 + (1 : Int))) (c0_0 ++ [v2.fst]) else none))) else Option.some (c0_0, ()))

noncomputable def basin_mapped_basin_Link_api_Errno_m_w0 (n : Nat)  (k : Nat) (of1_0 : Lnk × Unit → Option (Int × Unit)) (t8_0 : List Lnk) (t9_0 : Int) (t10_0 : Int) (c0_0 : List Int) : Option (List Int × Unit) :=
  iter (fun r y => basin_mapped_basin_Link_api_Errno_m_l0 n (fun of1_0 t8_0 t9_0 t10_0 c0_0 => r ((of1_0, (t8_0, (t9_0, (t10_0, ())))), ((c0_0, ()), ()))) y.1.1 y.1.2.1 y.1.2.2.1 y.1.2.2.2.1 y.2.1.1) k ((of1_0, (t8_0, (t9_0, (t10_0, ())))), ((c0_0, ()), ()))

noncomputable def basin_mapped_basin_Link_api_Errno_m (n : Nat) (l : List Lnk) (of : Lnk × Unit → Option (Int × Unit)) : Option (List Int × Unit) :=
  (basin_mapped_basin_Link_api_Errno_m_w0 n n (of) (l) ((↑l.length : Int)) ((0 : Int)) ([]))

theorem basin_mapped_basin_Link_api_Errno_eq (n : Nat) (x : basin_mapped_basin_Link_api_Errno_a.den) : runF basin_mapped_basin_Link_api_Errno_g (basin_mapped_basin_Link_api_Errno_an n) Tryz.f101 basin_mapped_basin_Link_api_Errno_a basin_mapped_basin_Link_api_Errno_r x = basin_mapped_basin_Link_api_Errno_m n x.1 x.2.1 := by kernel_rfl

noncomputable def basin_mapped_basin_Link_api_Errno_b0 (of1_0 : Lnk × Unit → Option (Int × Unit)) (t8_0 : List Lnk) (t10_0 : Int) (v1 : Lnk) (c0_0 : List Int) : Option ((List Int × Unit) ⊕ (List Int)) :=
  (Option.bind (of1_0 ((v1.fst, v1.snd.fst, v1.snd.snd.fst, v1.snd.snd.snd.fst, v1.snd.snd.snd.snd.fst, ()), ())) fun (v2 : Int × Unit) => (bif Decidable.decide (c0_0.length + (1 : Nat) ≤ Go.Vx.memMax) then (some (Sum.inr (c0_0 ++ [v2.fst]))) else none))

noncomputable def basin_mapped_basin_Link_api_Errno_f0 (of1_0 : Lnk × Unit → Option (Int × Unit)) (t8_0 : List Lnk) (c0_0 : List Int) : Option (List Int × Unit) :=
  (some ((c0_0, ())))

theorem basin_mapped_basin_Link_api_Errno_m_w0_le (n : Nat) (hn : big ≤ n)  (of1_0 : Lnk × Unit → Option (Int × Unit)) (t8_0 : List Lnk) (c0_0 : List Int) (hx : List.length (t8_0) < lenMax) : LeF some (loopL (fun i__ e__ s__ => basin_mapped_basin_Link_api_Errno_b0 of1_0 t8_0 i__ e__ s__) (fun s__ => basin_mapped_basin_Link_api_Errno_f0 of1_0 t8_0 s__) 0 (t8_0) c0_0) (basin_mapped_basin_Link_api_Errno_m_w0 n n of1_0 t8_0 (List.length (t8_0) : Int) 0 c0_0) := by
  refine loopL_le (f := some) (W := fun k__ i__ s__ => basin_mapped_basin_Link_api_Errno_m_w0 n k__ of1_0 t8_0 (List.length (t8_0) : Int) i__ s__) (body := (fun i__ e__ s__ => basin_mapped_basin_Link_api_Errno_b0 of1_0 t8_0 i__ e__ s__)) (fin := (fun s__ => basin_mapped_basin_Link_api_Errno_f0 of1_0 t8_0 s__)) (fun k__ i__ s__ => ?_) hx c0_0 n (by unfold big at hn; unfold lenMax at hx; omega)
  show LeF _ _ (basin_mapped_basin_Link_api_Errno_m_l0 n (basin_mapped_basin_Link_api_Errno_m_w0 n k__) of1_0 t8_0 (List.length (t8_0) : Int) i__ s__)
  exact leCond (leBind fun v1 => (leBind fun v2 => (leCond (leSome rfl) leNone))) (leMap (leSome rfl))

noncomputable def basin_mapped_basin_Link_api_Errno_M (l : List Lnk) (of : Lnk × Unit → Option (Int × Unit)) : Option (List Int × Unit) :=
  (bif decide (List.length (l) < lenMax) then loopL (fun i__ e__ s__ => basin_mapped_basin_Link_api_Errno_b0 (of) (l) i__ e__ s__) (fun s__ => basin_mapped_basin_Link_api_Errno_f0 (of) (l) s__) 0 (l) ([]) else none)

theorem basin_mapped_basin_Link_api_Errno_run (l : List Lnk) (of : Lnk × Unit → Option (Int × Unit)) (y : List Int × Unit) (h : basin_mapped_basin_Link_api_Errno_M l of = some y) : ∃ n, basin_mapped_basin_Link_api_Errno_m n l of = some y :=
  ⟨big, LeF.top (show LeF some (basin_mapped_basin_Link_api_Errno_M l of) (basin_mapped_basin_Link_api_Errno_m big l of) from (fun (n : Nat) (hn : big ≤ n) => show LeF some (basin_mapped_basin_Link_api_Errno_M l of) (basin_mapped_basin_Link_api_Errno_m n l of) from (leGuard fun hx => by apply basin_mapped_basin_Link_api_Errno_m_w0_le n hn; exact hx)) big (Nat.le_refl _)) h⟩
noncomputable def basin_mapped_basin_Link_api_Errno_e : Entry := { f := 101, args := basin_mapped_basin_Link_api_Errno_a, ress := basin_mapped_basin_Link_api_Errno_r, m := fun x => basin_mapped_basin_Link_api_Errno_M x.1 x.2.1 }
theorem basin_mapped_basin_Link_api_Errno_ok : FnOK Tryz.prog basin_mapped_basin_Link_api_Errno_e := fn_ok (g := basin_mapped_basin_Link_api_Errno_g) (fn := Tryz.f101) hmixed tabOk eNil (by kernel_rfl) (by kernel_rfl) (by kernel_rfl) (fun x y h => let ⟨n, hn⟩ := basin_mapped_basin_Link_api_Errno_run x.1 x.2.1 y h; ⟨basin_mapped_basin_Link_api_Errno_an n, iNil, (basin_mapped_basin_Link_api_Errno_eq n x).trans hn⟩)

/-! ### basin.mapped[basin.Range,basin.Condition] -/
abbrev basin_mapped_basin_Range_basin_Condition_a : Ty := .pair t108 (.pair t186 .unit)
abbrev basin_mapped_basin_Range_basin_Condition_r : Ty := .pair t54 .unit
noncomputable def basin_mapped_basin_Range_basin_Condition_g : G := { T := T, E := [], muts := [5], fz := [] }
def basin_mapped_basin_Range_basin_Condition_k : List (List Nat) := [[1, 5, 8, 9, 10]]
noncomputable def basin_mapped_basin_Range_basin_Condition_an (n : Nat) : Ann := { keep := basin_mapped_basin_Range_basin_Condition_k, fuel := n, inl := [], deep := 0 }
noncomputable def basin_mapped_basin_Range_basin_Condition_m_l0 (n : Nat) (r0 : (Rng × Unit → Option (Cnd × Unit)) → List Rng → Int → Int → List Cnd → Option (List Cnd × Unit)) (of1_0 : Rng × Unit → Option (Cnd × Unit)) (t8_0 : List Rng) (t9_0 : Int) (t10_0 : Int) (c0_0 : List Cnd) : Option (List Cnd × Unit) :=
  (bif Decidable.decide (t10_0 < t9_0) then (Option.bind (Go.Vx.idx t8_0 t10_0) fun (v1 : Rng) => (Option.bind (of1_0 (((v1.fst.fst, v1.fst.snd.fst, ()), v1.snd.fst, v1.snd.snd.fst, ()), ())) fun (v2 : Cnd × Unit) => (bif Decidable.decide (c0_0.length + (1 : Nat) ≤ Go.Vx.memMax) then r0 of1_0 t8_0 t9_0 (Go.IntKind.i64.wrap (t10_0 + (1 : Int))) (c0_0 ++ [v2.fst]) else none))) else Option.some (c0_0, ()))

noncomputable def basin_mapped_basin_Range_basin_Condition_m_w0 (n : Nat)  (k : Nat) (of1_0 : Rng × Unit → Option (Cnd × Unit)) (t8_0 : List Rng) (t9_0 : Int) (t10_0 : Int) (c0_0 : List Cnd) : Option (List Cnd × Unit) :=
  iter (fun r y => basin_mapped_basin_Range_basin_Condition_m_l0 n (fun of1_0 t8_0 t9_0 t10_0 c0_0 => r ((of1_0, (t8_0, (t9_0, (t10_0, ())))), ((c0_0, ()), ()))) y.1.1 y.1.2.1 y.1.2.2.1 y.1.2.2.2.1 y.2.1.1) k ((of1_0, (t8_0, (t9_0, (t10_0, ())))), ((c0_0, ()), ()))

noncomputable def basin_mapped_basin_Range_basin_Condition_m (n : Nat) (l : List Rng) (of : Rng × Unit → Option (Cnd × Unit)) : Option (List Cnd × Unit) :=
  (basin_mapped_basin_Range_basin_Condition_m_w0 n n (of) (l) ((↑l.length : Int)) ((0 : Int)) ([]))

theorem basin_mapped_basin_Range_basin_Condition_eq (n : Nat) (x : basin_mapped_basin_Range_basin_Condition_a.den) : runF basin_mapped_basin_Range_basin_Condition_g (basin_mapped_basin_Range_basin_Condition_an n) Tryz.f109 basin_mapped_basin_Range_basin_Condition_a basin_mapped_basin_Range_basin_Condition_r x = basin_mapped_basin_Range_basin_Condition_m n x.1 x.2.1 := by kernel_rfl

noncomputable def basin_mapped_basin_Range_basin_Condition_b0 (of1_0 : Rng × Unit → Option (Cnd × Unit)) (t8_0 : List Rng) (t10_0 : Int) (v1 : Rng) (c0_0 : List Cnd) : Option ((List Cnd × Unit) ⊕ (List Cnd)) :=
  (Option.bind (of1_0 (((v1.fst.fst, v1.fst.snd.fst, ()), v1.snd.fst, v1.snd.snd.fst, ()), ())) fun (v2 : Cnd × Unit) => (bif Decidable.decide (c0_0.length + (1 : Nat) ≤ Go.Vx.memMax) then (some (Sum.inr (c0_0 ++ [v2.fst]))) else none))

noncomputable def basin_mapped_basin_Range_basin_Condition_f0 (of1_0 : Rng × Unit → Option (Cnd × Unit)) (t8_0 : List Rng) (c0_0 : List Cnd) : Option (List Cnd × Unit) :=
  (some ((c0_0, ())))

theorem basin_mapped_basin_Range_basin_Condition_m_w0_le (n : Nat) (hn : big ≤ n)  (of1_0 : Rng × Unit → Option (Cnd × Unit)) (t8_0 : List Rng) (c0_0 : List Cnd) (hx : List.length (t8_0) < lenMax) : LeF some (loopL (fun i__ e__ s__ => basin_mapped_basin_Range_basin_Condition_b0 of1_0 t8_0 i__ e__ s__) (fun s__ => basin_mapped_basin_Range_basin_Condition_f0 of1_0 t8_0 s__) 0 (t8_0) c0_0) (basin_mapped_basin_Range_basin_Condition_m_w0 n n of1_0 t8_0 (List.length (t8_0) : Int) 0 c0_0) := by
  refine loopL_le (f := some) (W := fun k__ i__ s__ => basin_mapped_basin_Range_basin_Condition_m_w0 n k__ of1_0 t8_0 (List.length (t8_0) : Int) i__ s__) (body := (fun i__ e__ s__ => basin_mapped_basin_Range_basin_Condition_b0 of1_0 t8_0 i__ e__ s__)) (fin := (fun s__ => basin_mapped_basin_Range_basin_Condition_f0 of1_0 t8_0 s__)) (fun k__ i__ s__ => ?_) hx c0_0 n (by unfold big at hn; unfold lenMax at hx; omega)
  show LeF _ _ (basin_mapped_basin_Range_basin_Condition_m_l0 n (basin_mapped_basin_Range_basin_Condition_m_w0 n k__) of1_0 t8_0 (List.length (t8_0) : Int) i__ s__)
  exact leCond (leBind fun v1 => (leBind fun v2 => (leCond (leSome rfl) leNone))) (leMap (leSome rfl))

noncomputable def basin_mapped_basin_Range_basin_Condition_M (l : List Rng) (of : Rng × Unit → Option (Cnd × Unit)) : Option (List Cnd × Unit) :=
  (bif decide (List.length (l) < lenMax) then loopL (fun i__ e__ s__ => basin_mapped_basin_Range_basin_Condition_b0 (of) (l) i__ e__ s__) (fun s__ => basin_mapped_basin_Range_basin_Condition_f0 (of) (l) s__) 0 (l) ([]) else none)

theorem basin_mapped_basin_Range_basin_Condition_run (l : List Rng) (of : Rng × Unit → Option (Cnd × Unit)) (y : List Cnd × Unit) (h : basin_mapped_basin_Range_basin_Condition_M l of = some y) : ∃ n, basin_mapped_basin_Range_basin_Condition_m n l of = some y :=
  ⟨big, LeF.top (show LeF some (basin_mapped_basin_Range_basin_Condition_M l of) (basin_mapped_basin_Range_basin_Condition_m big l of) from (fun (n : Nat) (hn : big ≤ n) => show LeF some (basin_mapped_basin_Range_basin_Condition_M l of) (basin_mapped_basin_Range_basin_Condition_m n l of) from (leGuard fun hx => by apply basin_mapped_basin_Range_basin_Condition_m_w0_le n hn; exact hx)) big (Nat.le_refl _)) h⟩
noncomputable def basin_mapped_basin_Range_basin_Condition_e : Entry := { f := 109, args := basin_mapped_basin_Range_basin_Condition_a, ress := basin_mapped_basin_Range_basin_Condition_r, m := fun x => basin_mapped_basin_Range_basin_Condition_M x.1 x.2.1 }
theorem basin_mapped_basin_Range_basin_Condition_ok : FnOK Tryz.prog basin_mapped_basin_Range_basin_Condition_e := fn_ok (g := basin_mapped_basin_Range_basin_Condition_g) (fn := Tryz.f109) hmixed tabOk eNil (by kernel_rfl) (by kernel_rfl) (by kernel_rfl) (fun x y h => let ⟨n, hn⟩ := basin_mapped_basin_Range_basin_Condition_run x.1 x.2.1 y h; ⟨basin_mapped_basin_Range_basin_Condition_an n, iNil, (basin_mapped_basin_Range_basin_Condition_eq n x).trans hn⟩)

/-! ### basin.mapped[int,string] -/
abbrev basin_mapped_int_string_a : Ty := .pair t26 (.pair t208 .unit)
abbrev basin_mapped_int_string_r : Ty := .pair t67 .unit
noncomputable def basin_mapped_int_string_g : G := { T := T, E := [], muts := [5], fz := [] }
def basin_mapped_int_string_k : List (List Nat) := [[1, 5, 8, 9, 10]]
noncomputable def basin_mapped_int_string_an (n : Nat) : Ann := { keep := basin_mapped_int_string_k, fuel := n, inl := [], deep := 0 }
noncomputable def basin_mapped_int_string_m_l0 (n : Nat) (r0 : (Int × Unit → Option (List UInt8 × Unit)) → List Int → Int → Int → List (List UInt8) → Option (List (List UInt8) × Unit)) (of1_0 : Int × Unit → Option (List UInt8 × Unit)) (t8_0 : List Int) (t9_0 : Int) (t10_0 : Int) (c0_0 : List (List UInt8)) : Option (List (List UInt8) × Unit) :=
  (bif Decidable.decide (t10_0 < t9_0) then (Option.bind (Go.Vx.idx t8_0 t10_0) fun (v1 : Int) => (Option.bind (of1_0 (v1, ())) fun (v2 : List UInt8 × Unit) => (bif Decidable.decide (c0_0.length + (1 : Nat) ≤ Go.Vx.memMax) then r0 of1_0 t8_0 t9_0 (Go.IntKind.i64.wrap (t10_0 + (1 : Int))) (c0_0 ++ [v2.fst]) else none))) else Option.some (c0_0, ()))

noncomputable def basin_mapped_int_string_m_w0 (n : Nat)  (k : Nat) (of1_0 : Int × Unit → Option (List UInt8 × Unit)) (t8_0 : List Int) (t9_0 : Int) (t10_0 : Int) (c0_0 : List (List UInt8)) : Option (List (List UInt8) × Unit) :=
  iter (fun r y => basin_mapped_int_string_m_l0 n (fun of1_0 t8_0 t9_0 t10_0 c0_0 => r ((of1_0, (t8_0, (t9_0, (t10_0, ())))), ((c0_0, ()), ()))) y.1.1 y.1.2.1 y.1.2.2.1 y.1.2.2.2.1 y.2.1.1) k ((of1_0, (t8_0, (t9_0, (t10_0, ())))), ((c0_0, ()), ()))

noncomputable def basin_mapped_int_string_m (n : Nat) (l : List Int) (of : Int × Unit → Option (List UInt8 × Unit)) : Option (List (List UInt8) × Unit) :=
  (basin_mapped_int_string_m_w0 n n (of) (l) ((↑l.length : Int)) ((0 : Int)) ([]))

theorem basin_mapped_int_string_eq (n : Nat) (x : basin_mapped_int_string_a.den) : runF basin_mapped_int_string_g (basin_mapped_int_string_an n) Tryz.f128 basin_mapped_int_string_a basin_mapped_int_string_r x = basin_mapped_int_string_m n x.1 x.2.1 := by kernel_rfl

noncomputable def basin_mapped_int_string_b0 (of1_0 : Int × Unit → Option (List UInt8 × Unit)) (t8_0 : List Int) (t10_0 : Int) (v1 : Int) (c0_0 : List (List UInt8)) : Option ((List (List UInt8) × Unit) ⊕ (List (List UInt8))) :=
  (Option.bind (of1_0 (v1, ())) fun (v2 : List UInt8 × Unit) => (bif Decidable.decide (c0_0.length + (1 : Nat) ≤ Go.Vx.memMax) then (some (Sum.inr (c0_0 ++ [v2.fst]))) else none))

noncomputable def basin_mapped_int_string_f0 (of1_0 : Int × Unit → Option (List UInt8 × Unit)) (t8_0 : List Int) (c0_0 : List (List UInt8)) : Option (List (List UInt8) × Unit) :=
  (some ((c0_0, ())))

theorem basin_mapped_int_string_m_w0_le (n : Nat) (hn : big ≤ n)  (of1_0 : Int × Unit → Option (List UInt8 × Unit)) (t8_0 : List Int) (c0_0 : List (List UInt8)) (hx : List.length (t8_0) < lenMax) : LeF some (loopL (fun i__ e__ s__ => basin_mapped_int_string_b0 of1_0 t8_0 i__ e__ s__) (fun s__ => basin_mapped_int_string_f0 of1_0 t8_0 s__) 0 (t8_0) c0_0) (basin_mapped_int_string_m_w0 n n of1_0 t8_0 (List.length (t8_0) : Int) 0 c0_0) := by
  refine loopL_le (f := some) (W := fun k__ i__ s__ => basin_mapped_int_string_m_w0 n k__ of1_0 t8_0 (List.length (t8_0) : Int) i__ s__) (body := (fun i__ e__ s__ => basin_mapped_int_string_b0 of1_0 t8_0 i__ e__ s__)) (fin := (fun s__ => basin_mapped_int_string_f0 of1_0 t8_0 s__)) (fun k__ i__ s__ => ?_) hx c0_0 n (by unfold big at hn; unfold lenMax at hx; omega)
  show LeF _ _ (basin_mapped_int_string_m_l0 n (basin_mapped_int_string_m_w0 n k__) of1_0 t8_0 (List.length (t8_0) : Int) i__ s__)
  exact leCond (leBind fun v1 => (leBind fun v2 => (leCond (leSome rfl) leNone))) (leMap (leSome rfl))

noncomputable def basin_mapped_int_string_M (l : List Int) (of : Int × Unit → Option (List UInt8 × Unit)) : Option (List (List UInt8) × Unit) :=
  (bif decide (List.length (l) < lenMax) then loopL (fun i__ e__ s__ => basin_mapped_int_string_b0 (of) (l) i__ e__ s__) (fun s__ => basin_mapped_int_string_f0 (of) (l) s__) 0 (l) ([]) else none)

theorem basin_mapped_int_string_run (l : List Int) (of : Int × Unit → Option (List UInt8 × Unit)) (y : List (List UInt8) × Unit) (h : basin_mapped_int_string_M l of = some y) : ∃ n, basin_mapped_int_string_m n l of = some y :=
  ⟨big, LeF.top (show LeF some (basin_mapped_int_string_M l of) (basin_mapped_int_string_m big l of) from (fun (n : Nat) (hn : big ≤ n) => show LeF some (basin_mapped_int_string_M l of) (basin_mapped_int_string_m n l of) from (leGuard fun hx => by apply basin_mapped_int_string_m_w0_le n hn; exact hx)) big (Nat.le_refl _)) h⟩
noncomputable def basin_mapped_int_string_e : Entry := { f := 128, args := basin_mapped_int_string_a, ress := basin_mapped_int_string_r, m := fun x => basin_mapped_int_string_M x.1 x.2.1 }
theorem basin_mapped_int_string_ok : FnOK Tryz.prog basin_mapped_int_string_e := fn_ok (g := basin_mapped_int_string_g) (fn := Tryz.f128) hmixed tabOk eNil (by kernel_rfl) (by kernel_rfl) (by kernel_rfl) (fun x y h => let ⟨n, hn⟩ := basin_mapped_int_string_run x.1 x.2.1 y h; ⟨basin_mapped_int_string_an n, iNil, (basin_mapped_int_string_eq n x).trans hn⟩)

/-! ### basin.mapped[int,api.Errno] -/
abbrev basin_mapped_int_api_Errno_a : Ty := .pair t26 (.pair t176 .unit)
abbrev basin_mapped_int_api_Errno_r : Ty := .pair t174 .unit
noncomputable def basin_mapped_int_api_Errno_g : G := { T := T, E := [], muts := [5], fz := [] }
def basin_mapped_int_api_Errno_k : List (List Nat) := [[1, 5, 8, 9, 10]]
noncomputable def basin_mapped_int_api_Errno_an (n : Nat) : Ann := { keep := basin_mapped_int_api_Errno_k, fuel := n, inl := [], deep := 0 }
noncomputable def basin_mapped_int_api_Errno_m_l0 (n : Nat) (r0 : (Int × Unit → Option (Int × Unit)) → List Int → Int → Int → List Int → Option (List Int × Unit)) (of1_0 : Int × Unit → Option (Int × Unit)) (t8_0 : List Int) (t9_0 : Int) (t10_0 : Int) (c0_0 : List Int) : Option (List Int × Unit) :=
  (bif Decidable.decide (t10_0 < t9_0) then (Option.bind (Go.Vx.idx t8_0 t10_0) fun (v1 : Int) => (Option.bind (of1_0 (v1, ())) fun (v2 : Int × Unit) => (bif Decidable.decide (c0_0.length + (1 : Nat) ≤ Go.Vx.memMax) then r0 of1_0 t8_0 t9_0 (Go.IntKind.i64.wrap (t10_0 + (1 : Int))) (c0_0 ++ [v2.fst]) else none))) else Option.some (c0_0, ()))

noncomputable def basin_mapped_int_api_Errno_m_w0 (n : Nat)  (k : Nat) (of1_0 : Int × Unit → Option (Int × Unit)) (t8_0 : List Int) (t9_0 : Int) (t10_0 : Int) (c0_0 : List Int) : Option (List Int × Unit) :=
  iter (fun r y => basin_mapped_int_api_Errno_m_l0 n (fun of1_0 t8_0 t9_0 t10_0 c0_0 => r ((of1_0, (t8_0, (t9_0, (t10_0, ())))), ((c0_0, ()), ()))) y.1.1 y.1.2.1 y.1.2.2.1 y.1.2.2.2.1 y.2.1.1) k ((of1_0, (t8_0, (t9_0, (t10_0, ())))), ((c0_0, ()), ()))

noncomputable def basin_mapped_int_api_Errno_m (n : Nat) (l : List Int) (of : Int × Unit → Option (Int × Unit)) : Option (List Int × Unit) :=
  (basin_mapped_int_api_Errno_m_w0 n n (of) (l) ((↑l.length : Int)) ((0 : Int)) ([]))

theorem basin_mapped_int_api_Errno_eq (n : Nat) (x : basin_mapped_int_api_Errno_a.den) : runF basin_mapped_int_api_Errno_g (basin_mapped_int_api_Errno_an n) Tryz.f138 basin_mapped_int_api_Errno_a basin_mapped_int_api_Errno_r x = basin_mapped_int_api_Errno_m n x.1 x.2.1 := by kernel_rfl

noncomputable def basin_mapped_int_api_Errno_b0 (of1_0 : Int × Unit → Option (Int × Unit)) (t8_0 : List Int) (t10_0 : Int) (v1 : Int) (c0_0 : List Int) : Option ((List Int × Unit) ⊕ (List Int)) :=
  (Option.bind (of1_0 (v1, ())) fun (v2 : Int × Unit) => (bif Decidable.decide (c0_0.length + (1 : Nat) ≤ Go.Vx.memMax) then (some (Sum.inr (c0_0 ++ [v2.fst]))) else none))

noncomputable def basin_mapped_int_api_Errno_f0 (of1_0 : Int × Unit → Option (Int × Unit)) (t8_0 : List Int) (c0_0 : List Int) : Option (List Int × Unit) :=
  (some ((c0_0, ())))

theorem basin_mapped_int_api_Errno_m_w0_le (n : Nat) (hn : big ≤ n)  (of1_0 : Int × Unit → Option (Int × Unit)) (t8_0 : List Int) (c0_0 : List Int) (hx : List.length (t8_0) < lenMax) : LeF some (loopL (fun i__ e__ s__ => basin_mapped_int_api_Errno_b0 of1_0 t8_0 i__ e__ s__) (fun s__ => basin_mapped_int_api_Errno_f0 of1_0 t8_0 s__) 0 (t8_0) c0_0) (basin_mapped_int_api_Errno_m_w0 n n of1_0 t8_0 (List.length (t8_0) : Int) 0 c0_0) := by
  refine loopL_le (f := some) (W := fun k__ i__ s__ => basin_mapped_int_api_Errno_m_w0 n k__ of1_0 t8_0 (List.length (t8_0) : Int) i__ s__) (body := (fun i__ e__ s__ => basin_mapped_int_api_Errno_b0 of1_0 t8_0 i__ e__ s__)) (fin := (fun s__ => basin_mapped_int_api_Errno_f0 of1_0 t8_0 s__)) (fun k__ i__ s__ => ?_) hx c0_0 n (by unfold big at hn; unfold lenMax at hx; omega)
  show LeF _ _ (basin_mapped_int_api_Errno_m_l0 n (basin_mapped_int_api_Errno_m_w0 n k__) of1_0 t8_0 (List.length (t8_0) : Int) i__ s__)
  exact leCond (leBind fun v1 => (leBind fun v2 => (leCond (leSome rfl) leNone))) (leMap (leSome rfl))

noncomputable def basin_mapped_int_api_Errno_M (l : List Int) (of : Int × Unit → Option (Int × Unit)) : Option (List Int × Unit) :=
  (bif decide (List.length (l) < lenMax) then loopL (fun i__ e__ s__ => basin_mapped_int_api_Errno_b0 (of) (l) i__ e__ s__) (fun s__ => basin_mapped_int_api_Errno_f0 (of) (l) s__) 0 (l) ([]) else none)

theorem basin_mapped_int_api_Errno_run (l : List Int) (of : Int × Unit → Option (Int × Unit)) (y : List Int × Unit) (h : basin_mapped_int_api_Errno_M l of = some y) : ∃ n, basin_mapped_int_api_Errno_m n l of = some y :=
  ⟨big, LeF.top (show LeF some (basin_mapped_int_api_Errno_M l of) (basin_mapped_int_api_Errno_m big l of) from (fun (n : Nat) (hn : big ≤ n) => show LeF some (basin_mapped_int_api_Errno_M l of) (basin_mapped_int_api_Errno_m n l of) from (leGuard fun hx => by apply basin_mapped_int_api_Errno_m_w0_le n hn; exact hx)) big (Nat.le_refl _)) h⟩
noncomputable def basin_mapped_int_api_Errno_e : Entry := { f := 138, args := basin_mapped_int_api_Errno_a, ress := basin_mapped_int_api_Errno_r, m := fun x => basin_mapped_int_api_Errno_M x.1 x.2.1 }
theorem basin_mapped_int_api_Errno_ok : FnOK Tryz.prog basin_mapped_int_api_Errno_e := fn_ok (g := basin_mapped_int_api_Errno_g) (fn := Tryz.f138) hmixed tabOk eNil (by kernel_rfl) (by kernel_rfl) (by kernel_rfl) (fun x y h => let ⟨n, hn⟩ := basin_mapped_int_api_Errno_run x.1 x.2.1 y h; ⟨basin_mapped_int_api_Errno_an n, iNil, (basin_mapped_int_api_Errno_eq n x).trans hn⟩)

/-! ### tidewayref01.IsName -/
abbrev ref01_IsName_a : Ty := .pair t9 .unit
abbrev ref01_IsName_r : Ty := .pair t4 .unit
noncomputable def ref01_IsName_g : G := { T := T, E := [], muts := [], fz := [] }
def ref01_IsName_k : List (List Nat) := [[0, 3, 25, 26, 29, 30, 31, 32, 33, 34, 39, 40, 41, 42, 43, 44, 45, 46, 47, 48]]
noncomputable def ref01_IsName_an (n : Nat) : Ann := { keep := ref01_IsName_k, fuel := n, inl := [], deep := 0 }
noncomputable def ref01_IsName_m_j15 (n : Nat) (r2 : List UInt8 → Int → Option (Bool × Unit)) (s0_2 : List UInt8) (i3_2 : Int) (v3 : UInt8) : Option (Bool × Unit) :=
  (bif i3_2 == (0 : Int) then Option.some (Bool.false, ()) else (bif (↑v3.toNat : Int) != (95 : Int) then (bif Decidable.decide ((↑v3.toNat : Int) < (48 : Int)) then Option.some (Bool.false, ()) else (bif Decidable.decide ((↑v3.toNat : Int) > (57 : Int)) then Option.some (Bool.false, ()) else r2 s0_2 (Go.IntKind.i64.wrap (i3_2 + (1 : Int))))) else r2 s0_2 (Go.IntKind.i64.wrap (i3_2 + (1 : Int)))))

noncomputable def ref01_IsName_m_l2 (n : Nat) (r2 : List UInt8 → Int → Option (Bool × Unit)) (s0_2 : List UInt8) (i3_2 : Int) : Option (Bool × Unit) :=
  (bif Decidable.decide (i3_2 < (↑s0_2.length : Int)) then (Option.bind (Go.Vx.idx s0_2 i3_2) fun (v3 : UInt8) => (bif Decidable.decide ((↑v3.toNat : Int) ≥ (97 : Int)) then (bif Decidable.decide ((↑v3.toNat : Int) ≤ (122 : Int)) then r2 s0_2 (Go.IntKind.i64.wrap (i3_2 + (1 : Int))) else (bif Decidable.decide ((↑v3.toNat : Int) ≥ (65 : Int)) then (bif Decidable.decide ((↑v3.toNat : Int) ≤ (90 : Int)) then r2 s0_2 (Go.IntKind.i64.wrap (i3_2 + (1 : Int))) else (ref01_IsName_m_j15 n r2 s0_2 i3_2 v3)) else (ref01_IsName_m_j15 n r2 s0_2 i3_2 v3))) else (bif Decidable.decide ((↑v3.toNat : Int) ≥ (65 : Int)) then (bif Decidable.decide ((↑v3.toNat : Int) ≤ (90 : Int)) then r2 s0_2 (Go.IntKind.i64.wrap (i3_2 + (1 : Int))) else (ref01_IsName_m_j15 n r2 s0_2 i3_2 v3)) else (ref01_IsName_m_j15 n r2 s0_2 i3_2 v3)))) else Option.some (Bool.true, ()))

noncomputable def ref01_IsName_m_w2 (n : Nat)  (k : Nat) (s0_2 : List UInt8) (i3_2 : Int) : Option (Bool × Unit) :=
  iter (fun r y => ref01_IsName_m_l2 n (fun s0_2 i3_2 => r ((s0_2, (i3_2, ())), ((), ()))) y.1.1 y.1.2.1) k ((s0_2, (i3_2, ())), ((), ()))

noncomputable def ref01_IsName_m (n : Nat) (s : List UInt8) : Option (Bool × Unit) :=
  (bif (↑s.length : Int) == (0 : Int) then Option.some (Bool.false, ()) else (bif Decidable.decide ((↑s.length : Int) > (24 : Int)) then Option.some (Bool.false, ()) else (ref01_IsName_m_w2 n n (s) ((0 : Int)))))

theorem ref01_IsName_eq (n : Nat) (x : ref01_IsName_a.den) : runF ref01_IsName_g (ref01_IsName_an n) Tryz.f143 ref01_IsName_a ref01_IsName_r x = ref01_IsName_m n x.1 := by kernel_rfl

noncomputable def ref01_IsName_s15 (s0_2 : List UInt8) (i3_2 : Int) (v3 : UInt8) : Option ((Bool × Unit) ⊕ Unit) :=
  (bif i3_2 == (0 : Int) then (some (Sum.inl ((Bool.false, ())))) else (bif (↑v3.toNat : Int) != (95 : Int) then (bif Decidable.decide ((↑v3.toNat : Int) < (48 : Int)) then (some (Sum.inl ((Bool.false, ())))) else (bif Decidable.decide ((↑v3.toNat : Int) > (57 : Int)) then (some (Sum.inl ((Bool.false, ())))) else (some (Sum.inr ())))) else (some (Sum.inr ()))))

theorem ref01_IsName_s15_le (n : Nat) (hn : big ≤ n)  (r2 : List UInt8 → Int → Option (Bool × Unit)) (s0_2 : List UInt8) (i3_2 : Int) (v3 : UInt8) : LeF (elim some fun (s__ : Unit) => r2 s0_2 (Go.IntKind.i64.wrap (i3_2 + 1))) (ref01_IsName_s15 s0_2 i3_2 v3) (ref01_IsName_m_j15 n r2 s0_2 i3_2 v3) :=
  (leCond (leSome rfl) (leCond (leCond (leSome rfl) (leCond (leSome rfl) (leSome rfl))) (leSome rfl)))

noncomputable def ref01_IsName_b2 (s0_2 : List UInt8) (i3_2 : Int) (v3 : UInt8) : Option ((Bool × Unit) ⊕ Unit) :=
  (bif Decidable.decide ((↑v3.toNat : Int) ≥ (97 : Int)) then (bif Decidable.decide ((↑v3.toNat : Int) ≤ (122 : Int)) then (some (Sum.inr ())) else (bif Decidable.decide ((↑v3.toNat : Int) ≥ (65 : Int)) then (bif Decidable.decide ((↑v3.toNat : Int) ≤ (90 : Int)) then (some (Sum.inr ())) else (ref01_IsName_s15 s0_2 i3_2 v3)) else (ref01_IsName_s15 s0_2 i3_2 v3))) else (bif Decidable.decide ((↑v3.toNat : Int) ≥ (65 : Int)) then (bif Decidable.decide ((↑v3.toNat : Int) ≤ (90 : Int)) then (some (Sum.inr ())) else (ref01_IsName_s15 s0_2 i3_2 v3)) else (ref01_IsName_s15 s0_2 i3_2 v3)))

noncomputable def ref01_IsName_f2 (s0_2 : List UInt8) : Option (Bool × Unit) :=
  (some ((Bool.true, ())))

theorem ref01_IsName_m_w2_le (n : Nat) (hn : big ≤ n)  (s0_2 : List UInt8) (hx : List.length (s0_2) < lenMax) : LeF some (loopL (fun i__ e__ s__ => ref01_IsName_b2 s0_2 i__ e__) (fun s__ => ref01_IsName_f2 s0_2) 0 (s0_2) ()) (ref01_IsName_m_w2 n n s0_2 0) := by
  refine loopL_le (f := some) (W := fun k__ i__ s__ => ref01_IsName_m_w2 n k__ s0_2 i__) (body := (fun i__ e__ s__ => ref01_IsName_b2 s0_2 i__ e__)) (fin := (fun s__ => ref01_IsName_f2 s0_2)) (fun k__ i__ s__ => ?_) hx () n (by unfold big at hn; unfold lenMax at hx; omega)
  show LeF _ _ (ref01_IsName_m_l2 n (ref01_IsName_m_w2 n k__) s0_2 i__)
  exact leCond (leBind fun v3 => (leCond (leCond (leSome rfl) (leCond (leCond (leSome rfl) (by apply ref01_IsName_s15_le n hn)) (by apply ref01_IsName_s15_le n hn))) (leCond (leCond (leSome rfl) (by apply ref01_IsName_s15_le n hn)) (by apply ref01_IsName_s15_le n hn)))) (leMap (leSome rfl))

noncomputable def ref01_IsName_M (s : List UInt8) : Option (Bool × Unit) :=
  (bif (↑s.length : Int) == (0 : Int) then (some ((Bool.false, ()))) else (bif Decidable.decide ((↑s.length : Int) > (24 : Int)) then (some ((Bool.false, ()))) else (bif decide (List.length (s) < lenMax) then loopL (fun i__ e__ s__ => ref01_IsName_b2 (s) i__ e__) (fun s__ => ref01_IsName_f2 (s)) 0 (s) () else none)))

theorem ref01_IsName_run (s : List UInt8) (y : Bool × Unit) (h : ref01_IsName_M s = some y) : ∃ n, ref01_IsName_m n s = some y :=
  ⟨big, LeF.top (show LeF some (ref01_IsName_M s) (ref01_IsName_m big s) from (fun (n : Nat) (hn : big ≤ n) => show LeF some (ref01_IsName_M s) (ref01_IsName_m n s) from (leCond (leSome rfl) (leCond (leSome rfl) (leGuard fun hx => by apply ref01_IsName_m_w2_le n hn; exact hx)))) big (Nat.le_refl _)) h⟩
noncomputable def ref01_IsName_e : Entry := { f := 143, args := ref01_IsName_a, ress := ref01_IsName_r, m := fun x => ref01_IsName_M x.1 }
theorem ref01_IsName_ok : FnOK Tryz.prog ref01_IsName_e := fn_ok (g := ref01_IsName_g) (fn := Tryz.f143) hmixed tabOk eNil (by kernel_rfl) (by kernel_rfl) (by kernel_rfl) (fun x y h => let ⟨n, hn⟩ := ref01_IsName_run x.1 y h; ⟨ref01_IsName_an n, iNil, (ref01_IsName_eq n x).trans hn⟩)

/-! ### basin.mapped[basin.Condition,api.Errno] -/
abbrev basin_mapped_basin_Condition_api_Errno_a : Ty := .pair t54 (.pair t156 .unit)
abbrev basin_mapped_basin_Condition_api_Errno_r : Ty := .pair t174 .unit
noncomputable def basin_mapped_basin_Condition_api_Errno_g : G := { T := T, E := [], muts := [5], fz := [] }
def basin_mapped_basin_Condition_api_Errno_k : List (List Nat) := [[1, 5, 8, 9, 10]]
noncomputable def basin_mapped_basin_Condition_api_Errno_an (n : Nat) : Ann := { keep := basin_mapped_basin_Condition_api_Errno_k, fuel := n, inl := [], deep := 0 }
noncomputable def basin_mapped_basin_Condition_api_Errno_m_l0 (n : Nat) (r0 : (Cnd × Unit → Option (Int × Unit)) → List Cnd → Int → Int → List Int → Option (List Int × Unit)) (of1_0 : Cnd × Unit → Option (Int × Unit)) (t8_0 : List Cnd) (t9_0 : Int) (t10_0 : Int) (c0_0 : List Int) : Option (List Int × Unit) :=
  (bif Decidable.decide (t10_0 < t9_0) then (Option.bind (Go.Vx.idx t8_0 t10_0) fun (v1 : Cnd) => (Option.bind (of1_0 ((v1.fst, v1.snd.fst, v1.snd.snd.fst, ()), ())) fun (v2 : Int × Unit) => (bif Decidable.decide (c0_0.length + (1 : Nat) ≤ Go.Vx.memMax) then r0 of1_0 t8_0 t9_0 (Go.IntKind.i64.wrap (t10_0 + (1 : Int))) (c0_0 ++ [v2.fst]) else none))) else Option.some (c0_0, ()))

noncomputable def basin_mapped_basin_Condition_api_Errno_m_w0 (n : Nat)  (k : Nat) (of1_0 : Cnd × Unit → Option (Int × Unit)) (t8_0 : List Cnd) (t9_0 : Int) (t10_0 : Int) (c0_0 : List Int) : Option (List Int × Unit) :=
  iter (fun r y => basin_mapped_basin_Condition_api_Errno_m_l0 n (fun of1_0 t8_0 t9_0 t10_0 c0_0 => r ((of1_0, (t8_0, (t9_0, (t10_0, ())))), ((c0_0, ()), ()))) y.1.1 y.1.2.1 y.1.2.2.1 y.1.2.2.2.1 y.2.1.1) k ((of1_0, (t8_0, (t9_0, (t10_0, ())))), ((c0_0, ()), ()))

noncomputable def basin_mapped_basin_Condition_api_Errno_m (n : Nat) (l : List Cnd) (of : Cnd × Unit → Option (Int × Unit)) : Option (List Int × Unit) :=
  (basin_mapped_basin_Condition_api_Errno_m_w0 n n (of) (l) ((↑l.length : Int)) ((0 : Int)) ([]))

theorem basin_mapped_basin_Condition_api_Errno_eq (n : Nat) (x : basin_mapped_basin_Condition_api_Errno_a.den) : runF basin_mapped_basin_Condition_api_Errno_g (basin_mapped_basin_Condition_api_Errno_an n) Tryz.f147 basin_mapped_basin_Condition_api_Errno_a basin_mapped_basin_Condition_api_Errno_r x = basin_mapped_basin_Condition_api_Errno_m n x.1 x.2.1 := by kernel_rfl

noncomputable def basin_mapped_basin_Condition_api_Errno_b0 (of1_0 : Cnd × Unit → Option (Int × Unit)) (t8_0 : List Cnd) (t10_0 : Int) (v1 : Cnd) (c0_0 : List Int) : Option ((List Int × Unit) ⊕ (List Int)) :=
  (Option.bind (of1_0 ((v1.fst, v1.snd.fst, v1.snd.snd.fst, ()), ())) fun (v2 : Int × Unit) => (bif Decidable.decide (c0_0.length + (1 : Nat) ≤ Go.Vx.memMax) then (some (Sum.inr (c0_0 ++ [v2.fst]))) else none))

noncomputable def basin_mapped_basin_Condition_api_Errno_f0 (of1_0 : Cnd × Unit → Option (Int × Unit)) (t8_0 : List Cnd) (c0_0 : List Int) : Option (List Int × Unit) :=
  (some ((c0_0, ())))

theorem basin_mapped_basin_Condition_api_Errno_m_w0_le (n : Nat) (hn : big ≤ n)  (of1_0 : Cnd × Unit → Option (Int × Unit)) (t8_0 : List Cnd) (c0_0 : List Int) (hx : List.length (t8_0) < lenMax) : LeF some (loopL (fun i__ e__ s__ => basin_mapped_basin_Condition_api_Errno_b0 of1_0 t8_0 i__ e__ s__) (fun s__ => basin_mapped_basin_Condition_api_Errno_f0 of1_0 t8_0 s__) 0 (t8_0) c0_0) (basin_mapped_basin_Condition_api_Errno_m_w0 n n of1_0 t8_0 (List.length (t8_0) : Int) 0 c0_0) := by
  refine loopL_le (f := some) (W := fun k__ i__ s__ => basin_mapped_basin_Condition_api_Errno_m_w0 n k__ of1_0 t8_0 (List.length (t8_0) : Int) i__ s__) (body := (fun i__ e__ s__ => basin_mapped_basin_Condition_api_Errno_b0 of1_0 t8_0 i__ e__ s__)) (fin := (fun s__ => basin_mapped_basin_Condition_api_Errno_f0 of1_0 t8_0 s__)) (fun k__ i__ s__ => ?_) hx c0_0 n (by unfold big at hn; unfold lenMax at hx; omega)
  show LeF _ _ (basin_mapped_basin_Condition_api_Errno_m_l0 n (basin_mapped_basin_Condition_api_Errno_m_w0 n k__) of1_0 t8_0 (List.length (t8_0) : Int) i__ s__)
  exact leCond (leBind fun v1 => (leBind fun v2 => (leCond (leSome rfl) leNone))) (leMap (leSome rfl))

noncomputable def basin_mapped_basin_Condition_api_Errno_M (l : List Cnd) (of : Cnd × Unit → Option (Int × Unit)) : Option (List Int × Unit) :=
  (bif decide (List.length (l) < lenMax) then loopL (fun i__ e__ s__ => basin_mapped_basin_Condition_api_Errno_b0 (of) (l) i__ e__ s__) (fun s__ => basin_mapped_basin_Condition_api_Errno_f0 (of) (l) s__) 0 (l) ([]) else none)

theorem basin_mapped_basin_Condition_api_Errno_run (l : List Cnd) (of : Cnd × Unit → Option (Int × Unit)) (y : List Int × Unit) (h : basin_mapped_basin_Condition_api_Errno_M l of = some y) : ∃ n, basin_mapped_basin_Condition_api_Errno_m n l of = some y :=
  ⟨big, LeF.top (show LeF some (basin_mapped_basin_Condition_api_Errno_M l of) (basin_mapped_basin_Condition_api_Errno_m big l of) from (fun (n : Nat) (hn : big ≤ n) => show LeF some (basin_mapped_basin_Condition_api_Errno_M l of) (basin_mapped_basin_Condition_api_Errno_m n l of) from (leGuard fun hx => by apply basin_mapped_basin_Condition_api_Errno_m_w0_le n hn; exact hx)) big (Nat.le_refl _)) h⟩
noncomputable def basin_mapped_basin_Condition_api_Errno_e : Entry := { f := 147, args := basin_mapped_basin_Condition_api_Errno_a, ress := basin_mapped_basin_Condition_api_Errno_r, m := fun x => basin_mapped_basin_Condition_api_Errno_M x.1 x.2.1 }
theorem basin_mapped_basin_Condition_api_Errno_ok : FnOK Tryz.prog basin_mapped_basin_Condition_api_Errno_e := fn_ok (g := basin_mapped_basin_Condition_api_Errno_g) (fn := Tryz.f147) hmixed tabOk eNil (by kernel_rfl) (by kernel_rfl) (by kernel_rfl) (fun x y h => let ⟨n, hn⟩ := basin_mapped_basin_Condition_api_Errno_run x.1 x.2.1 y h; ⟨basin_mapped_basin_Condition_api_Errno_an n, iNil, (basin_mapped_basin_Condition_api_Errno_eq n x).trans hn⟩)

/-! ### basin.mapped[basin.passage,[]int] -/
abbrev basin_mapped_basin_passage_int_a : Ty := .pair t167 (.pair t237 .unit)
abbrev basin_mapped_basin_passage_int_r : Ty := .pair t56 .unit
noncomputable def basin_mapped_basin_passage_int_g : G := { T := T, E := [], muts := [5], fz := [] }
def basin_mapped_basin_passage_int_k : List (List Nat) := [[1, 5, 8, 9, 10]]
noncomputable def basin_mapped_basin_passage_int_an (n : Nat) : Ann := { keep := basin_mapped_basin_passage_int_k, fuel := n, inl := [], deep := 0 }
noncomputable def basin_mapped_basin_passage_int_m_l0 (n : Nat) (r0 : (Psg × Unit → Option (List Int × Unit)) → List Psg → Int → Int → List (List Int) → Option (List (List Int) × Unit)) (of1_0 : Psg × Unit → Option (List Int × Unit)) (t8_0 : List Psg) (t9_0 : Int) (t10_0 : Int) (c0_0 : List (List Int)) : Option (List (List Int) × Unit) :=
  (bif Decidable.decide (t10_0 < t9_0) then (Option.bind (Go.Vx.idx t8_0 t10_0) fun (v1 : Psg) => (Option.bind (of1_0 (((v1.fst.fst, v1.fst.snd.fst, v1.fst.snd.snd.fst, ()), v1.snd.fst, v1.snd.snd.fst, ()), ())) fun (v2 : List Int × Unit) => (bif Decidable.decide (c0_0.length + (1 : Nat) ≤ Go.Vx.memMax) then r0 of1_0 t8_0 t9_0 (Go.IntKind.i64.wrap (t10_0 + (1 : Int))) (c0_0 ++ [v2.fst]) else none))) else Option.some (c0_0, ()))

noncomputable def basin_mapped_basin_passage_int_m_w0 (n : Nat)  (k : Nat) (of1_0 : Psg × Unit → Option (List Int × Unit)) (t8_0 : List Psg) (t9_0 : Int) (t10_0 : Int) (c0_0 : List (List Int)) : Option (List (List Int) × Unit) :=
  iter (fun r y => basin_mapped_basin_passage_int_m_l0 n (fun of1_0 t8_0 t9_0 t10_0 c0_0 => r ((of1_0, (t8_0, (t9_0, (t10_0, ())))), ((c0_0, ()), ()))) y.1.1 y.1.2.1 y.1.2.2.1 y.1.2.2.2.1 y.2.1.1) k ((of1_0, (t8_0, (t9_0, (t10_0, ())))), ((c0_0, ()), ()))

noncomputable def basin_mapped_basin_passage_int_m (n : Nat) (l : List Psg) (of : Psg × Unit → Option (List Int × Unit)) : Option (List (List Int) × Unit) :=
  (basin_mapped_basin_passage_int_m_w0 n n (of) (l) ((↑l.length : Int)) ((0 : Int)) ([]))

theorem basin_mapped_basin_passage_int_eq (n : Nat) (x : basin_mapped_basin_passage_int_a.den) : runF basin_mapped_basin_passage_int_g (basin_mapped_basin_passage_int_an n) Tryz.f148 basin_mapped_basin_passage_int_a basin_mapped_basin_passage_int_r x = basin_mapped_basin_passage_int_m n x.1 x.2.1 := by kernel_rfl

noncomputable def basin_mapped_basin_passage_int_b0 (of1_0 : Psg × Unit → Option (List Int × Unit)) (t8_0 : List Psg) (t10_0 : Int) (v1 : Psg) (c0_0 : List (List Int)) : Option ((List (List Int) × Unit) ⊕ (List (List Int))) :=
  (Option.bind (of1_0 (((v1.fst.fst, v1.fst.snd.fst, v1.fst.snd.snd.fst, ()), v1.snd.fst, v1.snd.snd.fst, ()), ())) fun (v2 : List Int × Unit) => (bif Decidable.decide (c0_0.length + (1 : Nat) ≤ Go.Vx.memMax) then (some (Sum.inr (c0_0 ++ [v2.fst]))) else none))

noncomputable def basin_mapped_basin_passage_int_f0 (of1_0 : Psg × Unit → Option (List Int × Unit)) (t8_0 : List Psg) (c0_0 : List (List Int)) : Option (List (List Int) × Unit) :=
  (some ((c0_0, ())))

theorem basin_mapped_basin_passage_int_m_w0_le (n : Nat) (hn : big ≤ n)  (of1_0 : Psg × Unit → Option (List Int × Unit)) (t8_0 : List Psg) (c0_0 : List (List Int)) (hx : List.length (t8_0) < lenMax) : LeF some (loopL (fun i__ e__ s__ => basin_mapped_basin_passage_int_b0 of1_0 t8_0 i__ e__ s__) (fun s__ => basin_mapped_basin_passage_int_f0 of1_0 t8_0 s__) 0 (t8_0) c0_0) (basin_mapped_basin_passage_int_m_w0 n n of1_0 t8_0 (List.length (t8_0) : Int) 0 c0_0) := by
  refine loopL_le (f := some) (W := fun k__ i__ s__ => basin_mapped_basin_passage_int_m_w0 n k__ of1_0 t8_0 (List.length (t8_0) : Int) i__ s__) (body := (fun i__ e__ s__ => basin_mapped_basin_passage_int_b0 of1_0 t8_0 i__ e__ s__)) (fin := (fun s__ => basin_mapped_basin_passage_int_f0 of1_0 t8_0 s__)) (fun k__ i__ s__ => ?_) hx c0_0 n (by unfold big at hn; unfold lenMax at hx; omega)
  show LeF _ _ (basin_mapped_basin_passage_int_m_l0 n (basin_mapped_basin_passage_int_m_w0 n k__) of1_0 t8_0 (List.length (t8_0) : Int) i__ s__)
  exact leCond (leBind fun v1 => (leBind fun v2 => (leCond (leSome rfl) leNone))) (leMap (leSome rfl))

noncomputable def basin_mapped_basin_passage_int_M (l : List Psg) (of : Psg × Unit → Option (List Int × Unit)) : Option (List (List Int) × Unit) :=
  (bif decide (List.length (l) < lenMax) then loopL (fun i__ e__ s__ => basin_mapped_basin_passage_int_b0 (of) (l) i__ e__ s__) (fun s__ => basin_mapped_basin_passage_int_f0 (of) (l) s__) 0 (l) ([]) else none)

theorem basin_mapped_basin_passage_int_run (l : List Psg) (of : Psg × Unit → Option (List Int × Unit)) (y : List (List Int) × Unit) (h : basin_mapped_basin_passage_int_M l of = some y) : ∃ n, basin_mapped_basin_passage_int_m n l of = some y :=
  ⟨big, LeF.top (show LeF some (basin_mapped_basin_passage_int_M l of) (basin_mapped_basin_passage_int_m big l of) from (fun (n : Nat) (hn : big ≤ n) => show LeF some (basin_mapped_basin_passage_int_M l of) (basin_mapped_basin_passage_int_m n l of) from (leGuard fun hx => by apply basin_mapped_basin_passage_int_m_w0_le n hn; exact hx)) big (Nat.le_refl _)) h⟩
noncomputable def basin_mapped_basin_passage_int_e : Entry := { f := 148, args := basin_mapped_basin_passage_int_a, ress := basin_mapped_basin_passage_int_r, m := fun x => basin_mapped_basin_passage_int_M x.1 x.2.1 }
theorem basin_mapped_basin_passage_int_ok : FnOK Tryz.prog basin_mapped_basin_passage_int_e := fn_ok (g := basin_mapped_basin_passage_int_g) (fn := Tryz.f148) hmixed tabOk eNil (by kernel_rfl) (by kernel_rfl) (by kernel_rfl) (fun x y h => let ⟨n, hn⟩ := basin_mapped_basin_passage_int_run x.1 x.2.1 y h; ⟨basin_mapped_basin_passage_int_an n, iNil, (basin_mapped_basin_passage_int_eq n x).trans hn⟩)

/-! ### basin.volumes$1 -/
abbrev basin_volumes_1_a : Ty := .pair t180 .unit
abbrev basin_volumes_1_r : Ty := .pair t26 .unit
noncomputable def basin_volumes_1_g : G := { T := T, E := [], muts := [], fz := [] }
def basin_volumes_1_k : List (List Nat) := []
noncomputable def basin_volumes_1_an (n : Nat) : Ann := { keep := basin_volumes_1_k, fuel := n, inl := [], deep := 0 }
noncomputable def basin_volumes_1_m (n : Nat) (p : Psg) : Option (List Int × Unit) :=
  Option.some (p.snd.snd.fst.getD [], ())

theorem basin_volumes_1_eq (n : Nat) (x : basin_volumes_1_a.den) : runF basin_volumes_1_g (basin_volumes_1_an n) Tryz.f149 basin_volumes_1_a basin_volumes_1_r x = basin_volumes_1_m n x.1 := by kernel_rfl

noncomputable def basin_volumes_1 (p : Psg) : (List Int × Unit) :=
  (p.snd.snd.fst.getD [], ())

noncomputable abbrev basin_volumes_1_M (p : Psg) : Option (List Int × Unit) := some (basin_volumes_1 p)

theorem basin_volumes_1_run (p : Psg) (y : List Int × Unit) (h : basin_volumes_1_M p = some y) : ∃ n, basin_volumes_1_m n p = some y :=
  ⟨0, by rw [← h]; show basin_volumes_1_m 0 p = some (basin_volumes_1 p); unfold basin_volumes_1_m basin_volumes_1; first | rfl | (simp only [cond_some]; done) | (simp only [cond_some]; rfl)⟩
noncomputable def basin_volumes_1_e : Entry := { f := 149, args := basin_volumes_1_a, ress := basin_volumes_1_r, m := fun x => basin_volumes_1_M x.1 }
theorem basin_volumes_1_ok : FnOK Tryz.prog basin_volumes_1_e := fn_ok (g := basin_volumes_1_g) (fn := Tryz.f149) hmixed tabOk eNil (by kernel_rfl) (by kernel_rfl) (by kernel_rfl) (fun x y h => let ⟨n, hn⟩ := basin_volumes_1_run x.1 y h; ⟨basin_volumes_1_an n, iNil, (basin_volumes_1_eq n x).trans hn⟩)

/-! ### basin.mapped[basin.Range,api.Errno] -/
abbrev basin_mapped_basin_Range_api_Errno_a : Ty := .pair t108 (.pair t190 .unit)
abbrev basin_mapped_basin_Range_api_Errno_r : Ty := .pair t174 .unit
noncomputable def basin_mapped_basin_Range_api_Errno_g : G := { T := T, E := [], muts := [5], fz := [] }
def basin_mapped_basin_Range_api_Errno_k : List (List Nat) := [[1, 5, 8, 9, 10]]
noncomputable def basin_mapped_basin_Range_api_Errno_an (n : Nat) : Ann := { keep := basin_mapped_basin_Range_api_Errno_k, fuel := n, inl := [], deep := 0 }
noncomputable def basin_mapped_basin_Range_api_Errno_m_l0 (n : Nat) (r0 : (Rng × Unit → Option (Int × Unit)) → List Rng → Int → Int → List Int → Option (List Int × Unit)) (of1_0 : Rng × Unit → Option (Int × Unit)) (t8_0 : List Rng) (t9_0 : Int) (t10_0 : Int) (c0_0 : List Int) : Option (List Int × Unit) :=
  (bif Decidable.decide (t10_0 < t9_0) then (Option.bind (Go.Vx.idx t8_0 t10_0) fun (v1 : Rng) => (Option.bind (of1_0 (((v1.fst.fst, v1.fst.snd.fst, ()), v1.snd.fst, v1.snd.snd.fst, ()), ())) fun (v2 : Int × Unit) => (bif Decidable.decide (c0_0.length + (1 : Nat) ≤ Go.Vx.memMax) then r0 of1_0 t8_0 t9_0 (Go.IntKind.i64.wrap (t10_0 + (1 : Int))) (c0_0 ++ [v2.fst]) else none))) else Option.some (c0_0, ()))

noncomputable def basin_mapped_basin_Range_api_Errno_m_w0 (n : Nat)  (k : Nat) (of1_0 : Rng × Unit → Option (Int × Unit)) (t8_0 : List Rng) (t9_0 : Int) (t10_0 : Int) (c0_0 : List Int) : Option (List Int × Unit) :=
  iter (fun r y => basin_mapped_basin_Range_api_Errno_m_l0 n (fun of1_0 t8_0 t9_0 t10_0 c0_0 => r ((of1_0, (t8_0, (t9_0, (t10_0, ())))), ((c0_0, ()), ()))) y.1.1 y.1.2.1 y.1.2.2.1 y.1.2.2.2.1 y.2.1.1) k ((of1_0, (t8_0, (t9_0, (t10_0, ())))), ((c0_0, ()), ()))

noncomputable def basin_mapped_basin_Range_api_Errno_m (n : Nat) (l : List Rng) (of : Rng × Unit → Option (Int × Unit)) : Option (List Int × Unit) :=
  (basin_mapped_basin_Range_api_Errno_m_w0 n n (of) (l) ((↑l.length : Int)) ((0 : Int)) ([]))

theorem basin_mapped_basin_Range_api_Errno_eq (n : Nat) (x : basin_mapped_basin_Range_api_Errno_a.den) : runF basin_mapped_basin_Range_api_Errno_g (basin_mapped_basin_Range_api_Errno_an n) Tryz.f153 basin_mapped_basin_Range_api_Errno_a basin_mapped_basin_Range_api_Errno_r x = basin_mapped_basin_Range_api_Errno_m n x.1 x.2.1 := by kernel_rfl

noncomputable def basin_mapped_basin_Range_api_Errno_b0 (of1_0 : Rng × Unit → Option (Int × Unit)) (t8_0 : List Rng) (t10_0 : Int) (v1 : Rng) (c0_0 : List Int) : Option ((List Int × Unit) ⊕ (List Int)) :=
  (Option.bind (of1_0 (((v1.fst.fst, v1.fst.snd.fst, ()), v1.snd.fst, v1.snd.snd.fst, ()), ())) fun (v2 : Int × Unit) => (bif Decidable.decide (c0_0.length + (1 : Nat) ≤ Go.Vx.memMax) then (some (Sum.inr (c0_0 ++ [v2.fst]))) else none))

noncomputable def basin_mapped_basin_Range_api_Errno_f0 (of1_0 : Rng × Unit → Option (Int × Unit)) (t8_0 : List Rng) (c0_0 : List Int) : Option (List Int × Unit) :=
  (some ((c0_0, ())))

theorem basin_mapped_basin_Range_api_Errno_m_w0_le (n : Nat) (hn : big ≤ n)  (of1_0 : Rng × Unit → Option (Int × Unit)) (t8_0 : List Rng) (c0_0 : List Int) (hx : List.length (t8_0) < lenMax) : LeF some (loopL (fun i__ e__ s__ => basin_mapped_basin_Range_api_Errno_b0 of1_0 t8_0 i__ e__ s__) (fun s__ => basin_mapped_basin_Range_api_Errno_f0 of1_0 t8_0 s__) 0 (t8_0) c0_0) (basin_mapped_basin_Range_api_Errno_m_w0 n n of1_0 t8_0 (List.length (t8_0) : Int) 0 c0_0) := by
  refine loopL_le (f := some) (W := fun k__ i__ s__ => basin_mapped_basin_Range_api_Errno_m_w0 n k__ of1_0 t8_0 (List.length (t8_0) : Int) i__ s__) (body := (fun i__ e__ s__ => basin_mapped_basin_Range_api_Errno_b0 of1_0 t8_0 i__ e__ s__)) (fin := (fun s__ => basin_mapped_basin_Range_api_Errno_f0 of1_0 t8_0 s__)) (fun k__ i__ s__ => ?_) hx c0_0 n (by unfold big at hn; unfold lenMax at hx; omega)
  show LeF _ _ (basin_mapped_basin_Range_api_Errno_m_l0 n (basin_mapped_basin_Range_api_Errno_m_w0 n k__) of1_0 t8_0 (List.length (t8_0) : Int) i__ s__)
  exact leCond (leBind fun v1 => (leBind fun v2 => (leCond (leSome rfl) leNone))) (leMap (leSome rfl))

noncomputable def basin_mapped_basin_Range_api_Errno_M (l : List Rng) (of : Rng × Unit → Option (Int × Unit)) : Option (List Int × Unit) :=
  (bif decide (List.length (l) < lenMax) then loopL (fun i__ e__ s__ => basin_mapped_basin_Range_api_Errno_b0 (of) (l) i__ e__ s__) (fun s__ => basin_mapped_basin_Range_api_Errno_f0 (of) (l) s__) 0 (l) ([]) else none)

theorem basin_mapped_basin_Range_api_Errno_run (l : List Rng) (of : Rng × Unit → Option (Int × Unit)) (y : List Int × Unit) (h : basin_mapped_basin_Range_api_Errno_M l of = some y) : ∃ n, basin_mapped_basin_Range_api_Errno_m n l of = some y :=
  ⟨big, LeF.top (show LeF some (basin_mapped_basin_Range_api_Errno_M l of) (basin_mapped_basin_Range_api_Errno_m big l of) from (fun (n : Nat) (hn : big ≤ n) => show LeF some (basin_mapped_basin_Range_api_Errno_M l of) (basin_mapped_basin_Range_api_Errno_m n l of) from (leGuard fun hx => by apply basin_mapped_basin_Range_api_Errno_m_w0_le n hn; exact hx)) big (Nat.le_refl _)) h⟩
noncomputable def basin_mapped_basin_Range_api_Errno_e : Entry := { f := 153, args := basin_mapped_basin_Range_api_Errno_a, ress := basin_mapped_basin_Range_api_Errno_r, m := fun x => basin_mapped_basin_Range_api_Errno_M x.1 x.2.1 }
theorem basin_mapped_basin_Range_api_Errno_ok : FnOK Tryz.prog basin_mapped_basin_Range_api_Errno_e := fn_ok (g := basin_mapped_basin_Range_api_Errno_g) (fn := Tryz.f153) hmixed tabOk eNil (by kernel_rfl) (by kernel_rfl) (by kernel_rfl) (fun x y h => let ⟨n, hn⟩ := basin_mapped_basin_Range_api_Errno_run x.1 x.2.1 y h; ⟨basin_mapped_basin_Range_api_Errno_an n, iNil, (basin_mapped_basin_Range_api_Errno_eq n x).trans hn⟩)

/-! ### basin.mapped[api.Interval,api.Errno] -/
abbrev basin_mapped_api_Interval_api_Errno_a : Ty := .pair t97 (.pair t246 .unit)
abbrev basin_mapped_api_Interval_api_Errno_r : Ty := .pair t174 .unit
noncomputable def basin_mapped_api_Interval_api_Errno_g : G := { T := T, E := [], muts := [5], fz := [] }
def basin_mapped_api_Interval_api_Errno_k : List (List Nat) := [[1, 5, 8, 9, 10]]
noncomputable def basin_mapped_api_Interval_api_Errno_an (n : Nat) : Ann := { keep := basin_mapped_api_Interval_api_Errno_k, fuel := n, inl := [], deep := 0 }
noncomputable def basin_mapped_api_Interval_api_Errno_m_l0 (n : Nat) (r0 : ((Int × Int × Unit) × Unit → Option (Int × Unit)) → List (Int × Int × Unit) → Int → Int → List Int → Option (List Int × Unit)) (of1_0 : (Int × Int × Unit) × Unit → Option (Int × Unit)) (t8_0 : List (Int × Int × Unit)) (t9_0 : Int) (t10_0 : Int) (c0_0 : List Int) : Option (List Int × Unit) :=
  (bif Decidable.decide (t10_0 < t9_0) then (Option.bind (Go.Vx.idx t8_0 t10_0) fun (v1 : Int × Int × Unit) => (Option.bind (of1_0 ((v1.fst, v1.snd.fst, ()), ())) fun (v2 : Int × Unit) => (bif Decidable.decide (c0_0.length + (1 : Nat) ≤ Go.Vx.memMax) then r0 of1_0 t8_0 t9_0 (Go.IntKind.i64.wrap (t10_0 + (1 : Int))) (c0_0 ++ [v2.fst]) else none))) else Option.some (c0_0, ()))

noncomputable def basin_mapped_api_Interval_api_Errno_m_w0 (n : Nat)  (k : Nat) (of1_0 : (Int × Int × Unit) × Unit → Option (Int × Unit)) (t8_0 : List (Int × Int × Unit)) (t9_0 : Int) (t10_0 : Int) (c0_0 : List Int) : Option (List Int × Unit) :=
  iter (fun r y => basin_mapped_api_Interval_api_Errno_m_l0 n (fun of1_0 t8_0 t9_0 t10_0 c0_0 => r ((of1_0, (t8_0, (t9_0, (t10_0, ())))), ((c0_0, ()), ()))) y.1.1 y.1.2.1 y.1.2.2.1 y.1.2.2.2.1 y.2.1.1) k ((of1_0, (t8_0, (t9_0, (t10_0, ())))), ((c0_0, ()), ()))

noncomputable def basin_mapped_api_Interval_api_Errno_m (n : Nat) (l : List (Int × Int × Unit)) (of : (Int × Int × Unit) × Unit → Option (Int × Unit)) : Option (List Int × Unit) :=
  (basin_mapped_api_Interval_api_Errno_m_w0 n n (of) (l) ((↑l.length : Int)) ((0 : Int)) ([]))

theorem basin_mapped_api_Interval_api_Errno_eq (n : Nat) (x : basin_mapped_api_Interval_api_Errno_a.den) : runF basin_mapped_api_Interval_api_Errno_g (basin_mapped_api_Interval_api_Errno_an n) Tryz.f159 basin_mapped_api_Interval_api_Errno_a basin_mapped_api_Interval_api_Errno_r x = basin_mapped_api_Interval_api_Errno_m n x.1 x.2.1 := by kernel_rfl

noncomputable def basin_mapped_api_Interval_api_Errno_b0 (of1_0 : (Int × Int × Unit) × Unit → Option (Int × Unit)) (t8_0 : List (Int × Int × Unit)) (t10_0 : Int) (v1 : Int × Int × Unit) (c0_0 : List Int) : Option ((List Int × Unit) ⊕ (List Int)) :=
  (Option.bind (of1_0 ((v1.fst, v1.snd.fst, ()), ())) fun (v2 : Int × Unit) => (bif Decidable.decide (c0_0.length + (1 : Nat) ≤ Go.Vx.memMax) then (some (Sum.inr (c0_0 ++ [v2.fst]))) else none))

noncomputable def basin_mapped_api_Interval_api_Errno_f0 (of1_0 : (Int × Int × Unit) × Unit → Option (Int × Unit)) (t8_0 : List (Int × Int × Unit)) (c0_0 : List Int) : Option (List Int × Unit) :=
  (some ((c0_0, ())))

theorem basin_mapped_api_Interval_api_Errno_m_w0_le (n : Nat) (hn : big ≤ n)  (of1_0 : (Int × Int × Unit) × Unit → Option (Int × Unit)) (t8_0 : List (Int × Int × Unit)) (c0_0 : List Int) (hx : List.length (t8_0) < lenMax) : LeF some (loopL (fun i__ e__ s__ => basin_mapped_api_Interval_api_Errno_b0 of1_0 t8_0 i__ e__ s__) (fun s__ => basin_mapped_api_Interval_api_Errno_f0 of1_0 t8_0 s__) 0 (t8_0) c0_0) (basin_mapped_api_Interval_api_Errno_m_w0 n n of1_0 t8_0 (List.length (t8_0) : Int) 0 c0_0) := by
  refine loopL_le (f := some) (W := fun k__ i__ s__ => basin_mapped_api_Interval_api_Errno_m_w0 n k__ of1_0 t8_0 (List.length (t8_0) : Int) i__ s__) (body := (fun i__ e__ s__ => basin_mapped_api_Interval_api_Errno_b0 of1_0 t8_0 i__ e__ s__)) (fin := (fun s__ => basin_mapped_api_Interval_api_Errno_f0 of1_0 t8_0 s__)) (fun k__ i__ s__ => ?_) hx c0_0 n (by unfold big at hn; unfold lenMax at hx; omega)
  show LeF _ _ (basin_mapped_api_Interval_api_Errno_m_l0 n (basin_mapped_api_Interval_api_Errno_m_w0 n k__) of1_0 t8_0 (List.length (t8_0) : Int) i__ s__)
  exact leCond (leBind fun v1 => (leBind fun v2 => (leCond (leSome rfl) leNone))) (leMap (leSome rfl))

noncomputable def basin_mapped_api_Interval_api_Errno_M (l : List (Int × Int × Unit)) (of : (Int × Int × Unit) × Unit → Option (Int × Unit)) : Option (List Int × Unit) :=
  (bif decide (List.length (l) < lenMax) then loopL (fun i__ e__ s__ => basin_mapped_api_Interval_api_Errno_b0 (of) (l) i__ e__ s__) (fun s__ => basin_mapped_api_Interval_api_Errno_f0 (of) (l) s__) 0 (l) ([]) else none)

theorem basin_mapped_api_Interval_api_Errno_run (l : List (Int × Int × Unit)) (of : (Int × Int × Unit) × Unit → Option (Int × Unit)) (y : List Int × Unit) (h : basin_mapped_api_Interval_api_Errno_M l of = some y) : ∃ n, basin_mapped_api_Interval_api_Errno_m n l of = some y :=
  ⟨big, LeF.top (show LeF some (basin_mapped_api_Interval_api_Errno_M l of) (basin_mapped_api_Interval_api_Errno_m big l of) from (fun (n : Nat) (hn : big ≤ n) => show LeF some (basin_mapped_api_Interval_api_Errno_M l of) (basin_mapped_api_Interval_api_Errno_m n l of) from (leGuard fun hx => by apply basin_mapped_api_Interval_api_Errno_m_w0_le n hn; exact hx)) big (Nat.le_refl _)) h⟩
noncomputable def basin_mapped_api_Interval_api_Errno_e : Entry := { f := 159, args := basin_mapped_api_Interval_api_Errno_a, ress := basin_mapped_api_Interval_api_Errno_r, m := fun x => basin_mapped_api_Interval_api_Errno_M x.1 x.2.1 }
theorem basin_mapped_api_Interval_api_Errno_ok : FnOK Tryz.prog basin_mapped_api_Interval_api_Errno_e := fn_ok (g := basin_mapped_api_Interval_api_Errno_g) (fn := Tryz.f159) hmixed tabOk eNil (by kernel_rfl) (by kernel_rfl) (by kernel_rfl) (fun x y h => let ⟨n, hn⟩ := basin_mapped_api_Interval_api_Errno_run x.1 x.2.1 y h; ⟨basin_mapped_api_Interval_api_Errno_an n, iNil, (basin_mapped_api_Interval_api_Errno_eq n x).trans hn⟩)

/-! ### basin.mapped[api.Interval,int] -/
abbrev basin_mapped_api_Interval_int_a : Ty := .pair t97 (.pair t255 .unit)
abbrev basin_mapped_api_Interval_int_r : Ty := .pair t26 .unit
noncomputable def basin_mapped_api_Interval_int_g : G := { T := T, E := [], muts := [5], fz := [] }
def basin_mapped_api_Interval_int_k : List (List Nat) := [[1, 5, 8, 9, 10]]
noncomputable def basin_mapped_api_Interval_int_an (n : Nat) : Ann := { keep := basin_mapped_api_Interval_int_k, fuel := n, inl := [], deep := 0 }
noncomputable def basin_mapped_api_Interval_int_m_l0 (n : Nat) (r0 : ((Int × Int × Unit) × Unit → Option (Int × Unit)) → List (Int × Int × Unit) → Int → Int → List Int → Option (List Int × Unit)) (of1_0 : (Int × Int × Unit) × Unit → Option (Int × Unit)) (t8_0 : List (Int × Int × Unit)) (t9_0 : Int) (t10_0 : Int) (c0_0 : List Int) : Option (List Int × Unit) :=
  (bif Decidable.decide (t10_0 < t9_0) then (Option.bind (Go.Vx.idx t8_0 t10_0) fun (v1 : Int × Int × Unit) => (Option.bind (of1_0 ((v1.fst, v1.snd.fst, ()), ())) fun (v2 : Int × Unit) => (bif Decidable.decide (c0_0.length + (1 : Nat) ≤ Go.Vx.memMax) then r0 of1_0 t8_0 t9_0 (Go.IntKind.i64.wrap (t10_0 + (1 : Int))) (c0_0 ++ [v2.fst]) else none))) else Option.some (c0_0, ()))

noncomputable def basin_mapped_api_Interval_int_m_w0 (n : Nat)  (k : Nat) (of1_0 : (Int × Int × Unit) × Unit → Option (Int × Unit)) (t8_0 : List (Int × Int × Unit)) (t9_0 : Int) (t10_0 : Int) (c0_0 : List Int) : Option (List Int × Unit) :=
  iter (fun r y => basin_mapped_api_Interval_int_m_l0 n (fun of1_0 t8_0 t9_0 t10_0 c0_0 => r ((of1_0, (t8_0, (t9_0, (t10_0, ())))), ((c0_0, ()), ()))) y.1.1 y.1.2.1 y.1.2.2.1 y.1.2.2.2.1 y.2.1.1) k ((of1_0, (t8_0, (t9_0, (t10_0, ())))), ((c0_0, ()), ()))

noncomputable def basin_mapped_api_Interval_int_m (n : Nat) (l : List (Int × Int × Unit)) (of : (Int × Int × Unit) × Unit → Option (Int × Unit)) : Option (List Int × Unit) :=
  (basin_mapped_api_Interval_int_m_w0 n n (of) (l) ((↑l.length : Int)) ((0 : Int)) ([]))

theorem basin_mapped_api_Interval_int_eq (n : Nat) (x : basin_mapped_api_Interval_int_a.den) : runF basin_mapped_api_Interval_int_g (basin_mapped_api_Interval_int_an n) Tryz.f164 basin_mapped_api_Interval_int_a basin_mapped_api_Interval_int_r x = basin_mapped_api_Interval_int_m n x.1 x.2.1 := by kernel_rfl

noncomputable def basin_mapped_api_Interval_int_b0 (of1_0 : (Int × Int × Unit) × Unit → Option (Int × Unit)) (t8_0 : List (Int × Int × Unit)) (t10_0 : Int) (v1 : Int × Int × Unit) (c0_0 : List Int) : Option ((List Int × Unit) ⊕ (List Int)) :=
  (Option.bind (of1_0 ((v1.fst, v1.snd.fst, ()), ())) fun (v2 : Int × Unit) => (bif Decidable.decide (c0_0.length + (1 : Nat) ≤ Go.Vx.memMax) then (some (Sum.inr (c0_0 ++ [v2.fst]))) else none))

noncomputable def basin_mapped_api_Interval_int_f0 (of1_0 : (Int × Int × Unit) × Unit → Option (Int × Unit)) (t8_0 : List (Int × Int × Unit)) (c0_0 : List Int) : Option (List Int × Unit) :=
  (some ((c0_0, ())))

theorem basin_mapped_api_Interval_int_m_w0_le (n : Nat) (hn : big ≤ n)  (of1_0 : (Int × Int × Unit) × Unit → Option (Int × Unit)) (t8_0 : List (Int × Int × Unit)) (c0_0 : List Int) (hx : List.length (t8_0) < lenMax) : LeF some (loopL (fun i__ e__ s__ => basin_mapped_api_Interval_int_b0 of1_0 t8_0 i__ e__ s__) (fun s__ => basin_mapped_api_Interval_int_f0 of1_0 t8_0 s__) 0 (t8_0) c0_0) (basin_mapped_api_Interval_int_m_w0 n n of1_0 t8_0 (List.length (t8_0) : Int) 0 c0_0) := by
  refine loopL_le (f := some) (W := fun k__ i__ s__ => basin_mapped_api_Interval_int_m_w0 n k__ of1_0 t8_0 (List.length (t8_0) : Int) i__ s__) (body := (fun i__ e__ s__ => basin_mapped_api_Interval_int_b0 of1_0 t8_0 i__ e__ s__)) (fin := (fun s__ => basin_mapped_api_Interval_int_f0 of1_0 t8_0 s__)) (fun k__ i__ s__ => ?_) hx c0_0 n (by unfold big at hn; unfold lenMax at hx; omega)
  show LeF _ _ (basin_mapped_api_Interval_int_m_l0 n (basin_mapped_api_Interval_int_m_w0 n k__) of1_0 t8_0 (List.length (t8_0) : Int) i__ s__)
  exact leCond (leBind fun v1 => (leBind fun v2 => (leCond (leSome rfl) leNone))) (leMap (leSome rfl))

noncomputable def basin_mapped_api_Interval_int_M (l : List (Int × Int × Unit)) (of : (Int × Int × Unit) × Unit → Option (Int × Unit)) : Option (List Int × Unit) :=
  (bif decide (List.length (l) < lenMax) then loopL (fun i__ e__ s__ => basin_mapped_api_Interval_int_b0 (of) (l) i__ e__ s__) (fun s__ => basin_mapped_api_Interval_int_f0 (of) (l) s__) 0 (l) ([]) else none)

theorem basin_mapped_api_Interval_int_run (l : List (Int × Int × Unit)) (of : (Int × Int × Unit) × Unit → Option (Int × Unit)) (y : List Int × Unit) (h : basin_mapped_api_Interval_int_M l of = some y) : ∃ n, basin_mapped_api_Interval_int_m n l of = some y :=
  ⟨big, LeF.top (show LeF some (basin_mapped_api_Interval_int_M l of) (basin_mapped_api_Interval_int_m big l of) from (fun (n : Nat) (hn : big ≤ n) => show LeF some (basin_mapped_api_Interval_int_M l of) (basin_mapped_api_Interval_int_m n l of) from (leGuard fun hx => by apply basin_mapped_api_Interval_int_m_w0_le n hn; exact hx)) big (Nat.le_refl _)) h⟩
noncomputable def basin_mapped_api_Interval_int_e : Entry := { f := 164, args := basin_mapped_api_Interval_int_a, ress := basin_mapped_api_Interval_int_r, m := fun x => basin_mapped_api_Interval_int_M x.1 x.2.1 }
theorem basin_mapped_api_Interval_int_ok : FnOK Tryz.prog basin_mapped_api_Interval_int_e := fn_ok (g := basin_mapped_api_Interval_int_g) (fn := Tryz.f164) hmixed tabOk eNil (by kernel_rfl) (by kernel_rfl) (by kernel_rfl) (fun x y h => let ⟨n, hn⟩ := basin_mapped_api_Interval_int_run x.1 x.2.1 y h; ⟨basin_mapped_api_Interval_int_an n, iNil, (basin_mapped_api_Interval_int_eq n x).trans hn⟩)

/-! ### basin.table$3 -/
abbrev basin_table_3_a : Ty := .pair t230 .unit
abbrev basin_table_3_r : Ty := .pair t3 .unit
noncomputable def basin_table_3_g : G := { T := T, E := [], muts := [], fz := [] }
def basin_table_3_k : List (List Nat) := []
noncomputable def basin_table_3_an (n : Nat) : Ann := { keep := basin_table_3_k, fuel := n, inl := [], deep := 0 }
noncomputable def basin_table_3_m (n : Nat) (p : Lnk × Int × Int × Int × Bool × Unit) : Option (Int × Unit) :=
  Option.some (if Bool.true = Bool.true then if (if Bool.false = Bool.true then if Go.IntKind.i64.wrap (p.snd.fst - Go.IntKind.i64.wrap (p.snd.snd.fst * p.fst.snd.snd.snd.fst)) > p.fst.snd.snd.snd.snd.fst then Go.IntKind.i64.wrap (p.snd.fst - Go.IntKind.i64.wrap (p.snd.snd.fst * p.fst.snd.snd.snd.fst)) else p.fst.snd.snd.snd.snd.fst else if Go.IntKind.i64.wrap (p.snd.fst - Go.IntKind.i64.wrap (p.snd.snd.fst * p.fst.snd.snd.snd.fst)) < p.fst.snd.snd.snd.snd.fst then Go.IntKind.i64.wrap (p.snd.fst - Go.IntKind.i64.wrap (p.snd.snd.fst * p.fst.snd.snd.snd.fst)) else p.fst.snd.snd.snd.snd.fst) > (0 : Int) then if Bool.false = Bool.true then if Go.IntKind.i64.wrap (p.snd.fst - Go.IntKind.i64.wrap (p.snd.snd.fst * p.fst.snd.snd.snd.fst)) > p.fst.snd.snd.snd.snd.fst then Go.IntKind.i64.wrap (p.snd.fst - Go.IntKind.i64.wrap (p.snd.snd.fst * p.fst.snd.snd.snd.fst)) else p.fst.snd.snd.snd.snd.fst else if Go.IntKind.i64.wrap (p.snd.fst - Go.IntKind.i64.wrap (p.snd.snd.fst * p.fst.snd.snd.snd.fst)) < p.fst.snd.snd.snd.snd.fst then Go.IntKind.i64.wrap (p.snd.fst - Go.IntKind.i64.wrap (p.snd.snd.fst * p.fst.snd.snd.snd.fst)) else p.fst.snd.snd.snd.snd.fst else (0 : Int) else if (if Bool.false = Bool.true then if Go.IntKind.i64.wrap (p.snd.fst - Go.IntKind.i64.wrap (p.snd.snd.fst * p.fst.snd.snd.snd.fst)) > p.fst.snd.snd.snd.snd.fst then Go.IntKind.i64.wrap (p.snd.fst - Go.IntKind.i64.wrap (p.snd.snd.fst * p.fst.snd.snd.snd.fst)) else p.fst.snd.snd.snd.snd.fst else if Go.IntKind.i64.wrap (p.snd.fst - Go.IntKind.i64.wrap (p.snd.snd.fst * p.fst.snd.snd.snd.fst)) < p.fst.snd.snd.snd.snd.fst then Go.IntKind.i64.wrap (p.snd.fst - Go.IntKind.i64.wrap (p.snd.snd.fst * p.fst.snd.snd.snd.fst)) else p.fst.snd.snd.snd.snd.fst) < (0 : Int) then if Bool.false = Bool.true then if Go.IntKind.i64.wrap (p.snd.fst - Go.IntKind.i64.wrap (p.snd.snd.fst * p.fst.snd.snd.snd.fst)) > p.fst.snd.snd.snd.snd.fst then Go.IntKind.i64.wrap (p.snd.fst - Go.IntKind.i64.wrap (p.snd.snd.fst * p.fst.snd.snd.snd.fst)) else p.fst.snd.snd.snd.snd.fst else if Go.IntKind.i64.wrap (p.snd.fst - Go.IntKind.i64.wrap (p.snd.snd.fst * p.fst.snd.snd.snd.fst)) < p.fst.snd.snd.snd.snd.fst then Go.IntKind.i64.wrap (p.snd.fst - Go.IntKind.i64.wrap (p.snd.snd.fst * p.fst.snd.snd.snd.fst)) else p.fst.snd.snd.snd.snd.fst else (0 : Int), ())

theorem basin_table_3_eq (n : Nat) (x : basin_table_3_a.den) : runF basin_table_3_g (basin_table_3_an n) Tryz.f183 basin_table_3_a basin_table_3_r x = basin_table_3_m n x.1 := by kernel_rfl

noncomputable def basin_table_3 (p : Lnk × Int × Int × Int × Bool × Unit) : (Int × Unit) :=
  (if Bool.true = Bool.true then if (if Bool.false = Bool.true then if Go.IntKind.i64.wrap (p.snd.fst - Go.IntKind.i64.wrap (p.snd.snd.fst * p.fst.snd.snd.snd.fst)) > p.fst.snd.snd.snd.snd.fst then Go.IntKind.i64.wrap (p.snd.fst - Go.IntKind.i64.wrap (p.snd.snd.fst * p.fst.snd.snd.snd.fst)) else p.fst.snd.snd.snd.snd.fst else if Go.IntKind.i64.wrap (p.snd.fst - Go.IntKind.i64.wrap (p.snd.snd.fst * p.fst.snd.snd.snd.fst)) < p.fst.snd.snd.snd.snd.fst then Go.IntKind.i64.wrap (p.snd.fst - Go.IntKind.i64.wrap (p.snd.snd.fst * p.fst.snd.snd.snd.fst)) else p.fst.snd.snd.snd.snd.fst) > (0 : Int) then if Bool.false = Bool.true then if Go.IntKind.i64.wrap (p.snd.fst - Go.IntKind.i64.wrap (p.snd.snd.fst * p.fst.snd.snd.snd.fst)) > p.fst.snd.snd.snd.snd.fst then Go.IntKind.i64.wrap (p.snd.fst - Go.IntKind.i64.wrap (p.snd.snd.fst * p.fst.snd.snd.snd.fst)) else p.fst.snd.snd.snd.snd.fst else if Go.IntKind.i64.wrap (p.snd.fst - Go.IntKind.i64.wrap (p.snd.snd.fst * p.fst.snd.snd.snd.fst)) < p.fst.snd.snd.snd.snd.fst then Go.IntKind.i64.wrap (p.snd.fst - Go.IntKind.i64.wrap (p.snd.snd.fst * p.fst.snd.snd.snd.fst)) else p.fst.snd.snd.snd.snd.fst else (0 : Int) else if (if Bool.false = Bool.true then if Go.IntKind.i64.wrap (p.snd.fst - Go.IntKind.i64.wrap (p.snd.snd.fst * p.fst.snd.snd.snd.fst)) > p.fst.snd.snd.snd.snd.fst then Go.IntKind.i64.wrap (p.snd.fst - Go.IntKind.i64.wrap (p.snd.snd.fst * p.fst.snd.snd.snd.fst)) else p.fst.snd.snd.snd.snd.fst else if Go.IntKind.i64.wrap (p.snd.fst - Go.IntKind.i64.wrap (p.snd.snd.fst * p.fst.snd.snd.snd.fst)) < p.fst.snd.snd.snd.snd.fst then Go.IntKind.i64.wrap (p.snd.fst - Go.IntKind.i64.wrap (p.snd.snd.fst * p.fst.snd.snd.snd.fst)) else p.fst.snd.snd.snd.snd.fst) < (0 : Int) then if Bool.false = Bool.true then if Go.IntKind.i64.wrap (p.snd.fst - Go.IntKind.i64.wrap (p.snd.snd.fst * p.fst.snd.snd.snd.fst)) > p.fst.snd.snd.snd.snd.fst then Go.IntKind.i64.wrap (p.snd.fst - Go.IntKind.i64.wrap (p.snd.snd.fst * p.fst.snd.snd.snd.fst)) else p.fst.snd.snd.snd.snd.fst else if Go.IntKind.i64.wrap (p.snd.fst - Go.IntKind.i64.wrap (p.snd.snd.fst * p.fst.snd.snd.snd.fst)) < p.fst.snd.snd.snd.snd.fst then Go.IntKind.i64.wrap (p.snd.fst - Go.IntKind.i64.wrap (p.snd.snd.fst * p.fst.snd.snd.snd.fst)) else p.fst.snd.snd.snd.snd.fst else (0 : Int), ())

noncomputable abbrev basin_table_3_M (p : Lnk × Int × Int × Int × Bool × Unit) : Option (Int × Unit) := some (basin_table_3 p)

theorem basin_table_3_run (p : Lnk × Int × Int × Int × Bool × Unit) (y : Int × Unit) (h : basin_table_3_M p = some y) : ∃ n, basin_table_3_m n p = some y :=
  ⟨0, by rw [← h]; show basin_table_3_m 0 p = some (basin_table_3 p); unfold basin_table_3_m basin_table_3; first | rfl | (simp only [cond_some]; done) | (simp only [cond_some]; rfl)⟩
noncomputable def basin_table_3_e : Entry := { f := 183, args := basin_table_3_a, ress := basin_table_3_r, m := fun x => basin_table_3_M x.1 }
theorem basin_table_3_ok : FnOK Tryz.prog basin_table_3_e := fn_ok (g := basin_table_3_g) (fn := Tryz.f183) hmixed tabOk eNil (by kernel_rfl) (by kernel_rfl) (by kernel_rfl) (fun x y h => let ⟨n, hn⟩ := basin_table_3_run x.1 y h; ⟨basin_table_3_an n, iNil, (basin_table_3_eq n x).trans hn⟩)

end Go.Tw
end
