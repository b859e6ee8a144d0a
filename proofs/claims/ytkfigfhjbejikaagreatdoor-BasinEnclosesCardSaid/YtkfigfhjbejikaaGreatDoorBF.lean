/- Models of the program's functions, by program (gen.py), and what they compute.
Models of the program's functions, by program (gen.py), and what they compute.
Models of the program's functions, by program (gen.py), and what they compute.
Models of the program's functions, by program (gen.py), and what they compute.
Models of the program's functions, by program (gen.py), and what they compute. -/
import Derived.Test.YtkfigfhjbejikaaGreatDoorBT
import Derived.Test.YtkfigfhjbejikaaGreatDoorBA
import Derived.Test.YtkfigfhjbejikaaGreatDoorBC
import Derived.Test.YtkfigfhjbejikaaGreatDoorBD
import Derived.Test.YtkfigfhjbejikaaGreatDoorBE
import Derived.Test.YtkfigfhjbejikaaGreatDoorB16
import Derived.Test.YtkfigfhjbejikaaGreatDoorB17

section
set_option linter.all false
set_option maxRecDepth 1000000
namespace Go.Tw
open Go.Vx Go.Vx.B Go.Proofs
/-! ### tidewayref04.checkInterval -/
abbrev ref04_checkInterval_a : Ty := .pair t96 (.pair t3 (.pair t3 .unit))
abbrev ref04_checkInterval_r : Ty := .pair t3 .unit
noncomputable def ref04_checkInterval_g : G := { T := T, E := [ref01_CheckRange_e, ref01_First_e], muts := [], fz := [] }
def ref04_checkInterval_k : List (List Nat) := []
noncomputable def ref04_checkInterval_an (n : Nat) : Ann := { keep := ref04_checkInterval_k, fuel := n, inl := [], deep := 0 }
noncomputable def ref04_checkInterval_m (n : Nat) (x1 : Int × Int × Unit) (low : Int) (high : Int) : Option (Int × Unit) :=
  (Option.bind (Go.Tw.ref01_First_M [(Go.Tw.ref01_CheckRange x1.fst low high).fst, (Go.Tw.ref01_CheckRange x1.snd.fst low high).fst]) fun (v0 : Int × Unit) => (bif v0.fst != (0 : Int) then Option.some (v0.fst, ()) else (bif Decidable.decide (x1.fst > x1.snd.fst) then Option.some ((11 : Int), ()) else Option.some ((0 : Int), ()))))

theorem ref04_checkInterval_eq (n : Nat) (x : ref04_checkInterval_a.den) : runF ref04_checkInterval_g (ref04_checkInterval_an n) Tryz.f155 ref04_checkInterval_a ref04_checkInterval_r x = ref04_checkInterval_m n x.1 x.2.1 x.2.2.1 := by kernel_rfl

noncomputable def ref04_checkInterval_M (x1 : Int × Int × Unit) (low : Int) (high : Int) : Option (Int × Unit) := ref04_checkInterval_m 0 x1 low high

theorem ref04_checkInterval_run (x1 : Int × Int × Unit) (low : Int) (high : Int) (y : Int × Unit) (h : ref04_checkInterval_M x1 low high = some y) : ∃ n, ref04_checkInterval_m n x1 low high = some y := ⟨0, h⟩
noncomputable def ref04_checkInterval_e : Entry := { f := 155, args := ref04_checkInterval_a, ress := ref04_checkInterval_r, m := fun x => ref04_checkInterval_M x.1 x.2.1 x.2.2.1 }
theorem ref04_checkInterval_ok : FnOK Tryz.prog ref04_checkInterval_e := fn_ok (g := ref04_checkInterval_g) (fn := Tryz.f155) hmixed tabOk (eCons ref01_CheckRange_ok (eCons ref01_First_ok eNil)) (by kernel_rfl) (by kernel_rfl) (by kernel_rfl) (fun x y h => let ⟨n, hn⟩ := ref04_checkInterval_run x.1 x.2.1 x.2.2.1 y h; ⟨ref04_checkInterval_an n, iNil, (ref04_checkInterval_eq n x).trans hn⟩)

/-! ### (basin.Basin).safe$1 -/
abbrev basin_Basin_safe_1_a : Ty := .pair t26 (.pair (.ref t41) .unit)
abbrev basin_Basin_safe_1_r : Ty := .pair t4 .unit
noncomputable def basin_Basin_safe_1_g : G := { T := T, E := [basin_Basin_above_e], muts := [], fz := [] }
def basin_Basin_safe_1_k : List (List Nat) := []
noncomputable def basin_Basin_safe_1_an (n : Nat) : Ann := { keep := basin_Basin_safe_1_k, fuel := n, inl := [], deep := 0 }
noncomputable def basin_Basin_safe_1_m (n : Nat) (w : List Int) (p1 : Bas) : Option (Bool × Unit) :=
  (Option.bind (Go.Tw.basin_Basin_above_M p1 w) fun (v0 : List Int × Unit) => Option.some (Decidable.decide ((↑v0.fst.length : Int) > (0 : Int)), ()))

theorem basin_Basin_safe_1_eq (n : Nat) (x : basin_Basin_safe_1_a.den) : runF basin_Basin_safe_1_g (basin_Basin_safe_1_an n) Tryz.f167 basin_Basin_safe_1_a basin_Basin_safe_1_r x = basin_Basin_safe_1_m n x.1 x.2.1 := by kernel_rfl

noncomputable def basin_Basin_safe_1_M (w : List Int) (p1 : Bas) : Option (Bool × Unit) := basin_Basin_safe_1_m 0 w p1

theorem basin_Basin_safe_1_run (w : List Int) (p1 : Bas) (y : Bool × Unit) (h : basin_Basin_safe_1_M w p1 = some y) : ∃ n, basin_Basin_safe_1_m n w p1 = some y := ⟨0, h⟩
noncomputable def basin_Basin_safe_1_e : Entry := { f := 167, args := basin_Basin_safe_1_a, ress := basin_Basin_safe_1_r, m := fun x => basin_Basin_safe_1_M x.1 x.2.1 }
theorem basin_Basin_safe_1_ok : FnOK Tryz.prog basin_Basin_safe_1_e := fn_ok (g := basin_Basin_safe_1_g) (fn := Tryz.f167) hmixed tabOk (eCons basin_Basin_above_ok eNil) (by kernel_rfl) (by kernel_rfl) (by kernel_rfl) (fun x y h => let ⟨n, hn⟩ := basin_Basin_safe_1_run x.1 x.2.1 y h; ⟨basin_Basin_safe_1_an n, iNil, (basin_Basin_safe_1_eq n x).trans hn⟩)

/-! ### tidewayref04.ShortRanges -/
abbrev ref04_ShortRanges_a : Ty := .pair t101 .unit
abbrev ref04_ShortRanges_r : Ty := .pair t4 .unit
noncomputable def ref04_ShortRanges_g : G := { T := T, E := [], muts := [], fz := [] }
def ref04_ShortRanges_k : List (List Nat) := [[0, 3, 21, 22, 23]]
noncomputable def ref04_ShortRanges_an (n : Nat) : Ann := { keep := ref04_ShortRanges_k, fuel := n, inl := [], deep := 0 }
noncomputable def ref04_ShortRanges_m_l0 (n : Nat) (r0 : List Rng → Int → Option (Bool × Unit)) (l0_0 : List Rng) (i3_0 : Int) : Option (Bool × Unit) :=
  (bif Decidable.decide (i3_0 < (↑l0_0.length : Int)) then (Option.bind (Go.Vx.idx l0_0 i3_0) fun (v1 : Rng) => (bif Decidable.decide ((↑v1.snd.snd.fst.length : Int) > (9 : Int)) then Option.some (Bool.false, ()) else r0 l0_0 (Go.IntKind.i64.wrap (i3_0 + (1 : Int))))) else (bif Decidable.decide ((↑l0_0.length : Int) ≤ (12 : Int)) then Option.some (Bool.true, ()) else Option.some ((↑l0_0.length : Int) == (97 : Int), ())))

noncomputable def ref04_ShortRanges_m_w0 (n : Nat)  (k : Nat) (l0_0 : List Rng) (i3_0 : Int) : Option (Bool × Unit) :=
  iter (fun r y => ref04_ShortRanges_m_l0 n (fun l0_0 i3_0 => r ((l0_0, (i3_0, ())), ((), ()))) y.1.1 y.1.2.1) k ((l0_0, (i3_0, ())), ((), ()))

noncomputable def ref04_ShortRanges_m (n : Nat) (l : List Rng) : Option (Bool × Unit) :=
  (ref04_ShortRanges_m_w0 n n (l) ((0 : Int)))

theorem ref04_ShortRanges_eq (n : Nat) (x : ref04_ShortRanges_a.den) : runF ref04_ShortRanges_g (ref04_ShortRanges_an n) Tryz.f52 ref04_ShortRanges_a ref04_ShortRanges_r x = ref04_ShortRanges_m n x.1 := by kernel_rfl

noncomputable def ref04_ShortRanges_b0 (l0_0 : List Rng) (i3_0 : Int) (v1 : Rng) : Option ((Bool × Unit) ⊕ Unit) :=
  (bif Decidable.decide ((↑v1.snd.snd.fst.length : Int) > (9 : Int)) then (some (Sum.inl ((Bool.false, ())))) else (some (Sum.inr ())))

noncomputable def ref04_ShortRanges_f0 (l0_0 : List Rng) : Option (Bool × Unit) :=
  (bif Decidable.decide ((↑l0_0.length : Int) ≤ (12 : Int)) then (some ((Bool.true, ()))) else (some (((↑l0_0.length : Int) == (97 : Int), ()))))

theorem ref04_ShortRanges_m_w0_le (n : Nat) (hn : big ≤ n)  (l0_0 : List Rng) (hx : List.length (l0_0) < lenMax) : LeF some (loopL (fun i__ e__ s__ => ref04_ShortRanges_b0 l0_0 i__ e__) (fun s__ => ref04_ShortRanges_f0 l0_0) 0 (l0_0) ()) (ref04_ShortRanges_m_w0 n n l0_0 0) := by
  refine loopL_le (f := some) (W := fun k__ i__ s__ => ref04_ShortRanges_m_w0 n k__ l0_0 i__) (body := (fun i__ e__ s__ => ref04_ShortRanges_b0 l0_0 i__ e__)) (fin := (fun s__ => ref04_ShortRanges_f0 l0_0)) (fun k__ i__ s__ => ?_) hx () n (by unfold big at hn; unfold lenMax at hx; omega)
  show LeF _ _ (ref04_ShortRanges_m_l0 n (ref04_ShortRanges_m_w0 n k__) l0_0 i__)
  exact leCond (leBind fun v1 => (leCond (leSome rfl) (leSome rfl))) (leMap (leCond (leSome rfl) (leSome rfl)))

noncomputable def ref04_ShortRanges_M (l : List Rng) : Option (Bool × Unit) :=
  (bif decide (List.length (l) < lenMax) then loopL (fun i__ e__ s__ => ref04_ShortRanges_b0 (l) i__ e__) (fun s__ => ref04_ShortRanges_f0 (l)) 0 (l) () else none)

theorem ref04_ShortRanges_run (l : List Rng) (y : Bool × Unit) (h : ref04_ShortRanges_M l = some y) : ∃ n, ref04_ShortRanges_m n l = some y :=
  ⟨big, LeF.top (show LeF some (ref04_ShortRanges_M l) (ref04_ShortRanges_m big l) from (fun (n : Nat) (hn : big ≤ n) => show LeF some (ref04_ShortRanges_M l) (ref04_ShortRanges_m n l) from (leGuard fun hx => by apply ref04_ShortRanges_m_w0_le n hn; exact hx)) big (Nat.le_refl _)) h⟩
noncomputable def ref04_ShortRanges_e : Entry := { f := 52, args := ref04_ShortRanges_a, ress := ref04_ShortRanges_r, m := fun x => ref04_ShortRanges_M x.1 }
theorem ref04_ShortRanges_ok : FnOK Tryz.prog ref04_ShortRanges_e := fn_ok (g := ref04_ShortRanges_g) (fn := Tryz.f52) hmixed tabOk eNil (by kernel_rfl) (by kernel_rfl) (by kernel_rfl) (fun x y h => let ⟨n, hn⟩ := ref04_ShortRanges_run x.1 y h; ⟨ref04_ShortRanges_an n, iNil, (ref04_ShortRanges_eq n x).trans hn⟩)

/-! ### basin.Corner -/
/-! ### tidewayref04.CheckCondition -/
/-! ### slices.IndexFunc[[][]int,[]int] -/
abbrev slices_IndexFunc_int_int_a : Ty := .pair t56 (.pair t181 .unit)
abbrev slices_IndexFunc_int_int_r : Ty := .pair t3 .unit
noncomputable def slices_IndexFunc_int_int_g : G := { T := T, E := [], muts := [], fz := [] }
def slices_IndexFunc_int_int_k : List (List Nat) := [[0, 1, 7, 8]]
noncomputable def slices_IndexFunc_int_int_an (n : Nat) : Ann := { keep := slices_IndexFunc_int_int_k, fuel := n, inl := [], deep := 0 }
noncomputable def slices_IndexFunc_int_int_m_l0 (n : Nat) (r0 : List (List Int) → (List Int × Unit → Option (Bool × Unit)) → Int → Int → Option (Int × Unit)) (s0_0 : List (List Int)) (f1_0 : List Int × Unit → Option (Bool × Unit)) (t7_0 : Int) (t8_0 : Int) : Option (Int × Unit) :=
  (bif Decidable.decide (t8_0 < t7_0) then (Option.bind (Go.Vx.idx s0_0 t8_0) fun (v1 : List Int) => (Option.bind (f1_0 (v1, ())) fun (v2 : Bool × Unit) => (bif v2.fst then Option.some (t8_0, ()) else r0 s0_0 f1_0 t7_0 (Go.IntKind.i64.wrap (t8_0 + (1 : Int)))))) else Option.some ((-1 : Int), ()))

noncomputable def slices_IndexFunc_int_int_m_w0 (n : Nat)  (k : Nat) (s0_0 : List (List Int)) (f1_0 : List Int × Unit → Option (Bool × Unit)) (t7_0 : Int) (t8_0 : Int) : Option (Int × Unit) :=
  iter (fun r y => slices_IndexFunc_int_int_m_l0 n (fun s0_0 f1_0 t7_0 t8_0 => r ((s0_0, (f1_0, (t7_0, (t8_0, ())))), ((), ()))) y.1.1 y.1.2.1 y.1.2.2.1 y.1.2.2.2.1) k ((s0_0, (f1_0, (t7_0, (t8_0, ())))), ((), ()))

noncomputable def slices_IndexFunc_int_int_m (n : Nat) (s : List (List Int)) (f : List Int × Unit → Option (Bool × Unit)) : Option (Int × Unit) :=
  (slices_IndexFunc_int_int_m_w0 n n (s) (f) ((↑s.length : Int)) ((0 : Int)))

theorem slices_IndexFunc_int_int_eq (n : Nat) (x : slices_IndexFunc_int_int_a.den) : runF slices_IndexFunc_int_int_g (slices_IndexFunc_int_int_an n) Tryz.f187 slices_IndexFunc_int_int_a slices_IndexFunc_int_int_r x = slices_IndexFunc_int_int_m n x.1 x.2.1 := by kernel_rfl

noncomputable def slices_IndexFunc_int_int_b0 (s0_0 : List (List Int)) (f1_0 : List Int × Unit → Option (Bool × Unit)) (t8_0 : Int) (v1 : List Int) : Option ((Int × Unit) ⊕ Unit) :=
  (Option.bind (f1_0 (v1, ())) fun (v2 : Bool × Unit) => (bif v2.fst then (some (Sum.inl ((t8_0, ())))) else (some (Sum.inr ()))))

noncomputable def slices_IndexFunc_int_int_f0 (s0_0 : List (List Int)) (f1_0 : List Int × Unit → Option (Bool × Unit)) : Option (Int × Unit) :=
  (some (((-1 : Int), ())))

theorem slices_IndexFunc_int_int_m_w0_le (n : Nat) (hn : big ≤ n)  (s0_0 : List (List Int)) (f1_0 : List Int × Unit → Option (Bool × Unit)) (hx : List.length (s0_0) < lenMax) : LeF some (loopL (fun i__ e__ s__ => slices_IndexFunc_int_int_b0 s0_0 f1_0 i__ e__) (fun s__ => slices_IndexFunc_int_int_f0 s0_0 f1_0) 0 (s0_0) ()) (slices_IndexFunc_int_int_m_w0 n n s0_0 f1_0 (List.length (s0_0) : Int) 0) := by
  refine loopL_le (f := some) (W := fun k__ i__ s__ => slices_IndexFunc_int_int_m_w0 n k__ s0_0 f1_0 (List.length (s0_0) : Int) i__) (body := (fun i__ e__ s__ => slices_IndexFunc_int_int_b0 s0_0 f1_0 i__ e__)) (fin := (fun s__ => slices_IndexFunc_int_int_f0 s0_0 f1_0)) (fun k__ i__ s__ => ?_) hx () n (by unfold big at hn; unfold lenMax at hx; omega)
  show LeF _ _ (slices_IndexFunc_int_int_m_l0 n (slices_IndexFunc_int_int_m_w0 n k__) s0_0 f1_0 (List.length (s0_0) : Int) i__)
  exact leCond (leBind fun v1 => (leBind fun v2 => (leCond (leSome rfl) (leSome rfl)))) (leMap (leSome rfl))

noncomputable def slices_IndexFunc_int_int_M (s : List (List Int)) (f : List Int × Unit → Option (Bool × Unit)) : Option (Int × Unit) :=
  (bif decide (List.length (s) < lenMax) then loopL (fun i__ e__ s__ => slices_IndexFunc_int_int_b0 (s) (f) i__ e__) (fun s__ => slices_IndexFunc_int_int_f0 (s) (f)) 0 (s) () else none)

theorem slices_IndexFunc_int_int_run (s : List (List Int)) (f : List Int × Unit → Option (Bool × Unit)) (y : Int × Unit) (h : slices_IndexFunc_int_int_M s f = some y) : ∃ n, slices_IndexFunc_int_int_m n s f = some y :=
  ⟨big, LeF.top (show LeF some (slices_IndexFunc_int_int_M s f) (slices_IndexFunc_int_int_m big s f) from (fun (n : Nat) (hn : big ≤ n) => show LeF some (slices_IndexFunc_int_int_M s f) (slices_IndexFunc_int_int_m n s f) from (leGuard fun hx => by apply slices_IndexFunc_int_int_m_w0_le n hn; exact hx)) big (Nat.le_refl _)) h⟩
noncomputable def slices_IndexFunc_int_int_e : Entry := { f := 187, args := slices_IndexFunc_int_int_a, ress := slices_IndexFunc_int_int_r, m := fun x => slices_IndexFunc_int_int_M x.1 x.2.1 }
theorem slices_IndexFunc_int_int_ok : FnOK Tryz.prog slices_IndexFunc_int_int_e := fn_ok (g := slices_IndexFunc_int_int_g) (fn := Tryz.f187) hmixed tabOk eNil (by kernel_rfl) (by kernel_rfl) (by kernel_rfl) (fun x y h => let ⟨n, hn⟩ := slices_IndexFunc_int_int_run x.1 x.2.1 y h; ⟨slices_IndexFunc_int_int_an n, iNil, (slices_IndexFunc_int_int_eq n x).trans hn⟩)

/-! ### tidewayref04.SameCondition -/
/-! ### tidewaylaw04.own -/
/-! ### basin.CheckCondition -/
/-! ### basin.CheckRange -/
/-! ### tidewaylaw04.intervals -/
abbrev law04_intervals_a : Ty := .pair t97 .unit
abbrev law04_intervals_r : Ty := .pair t97 .unit
noncomputable def law04_intervals_g : G := { T := T, E := [], muts := [3], fz := [] }
def law04_intervals_k : List (List Nat) := []
noncomputable def law04_intervals_an (n : Nat) : Ann := { keep := law04_intervals_k, fuel := n, inl := [], deep := 0 }
noncomputable def law04_intervals_m (n : Nat) (l : List (Int × Int × Unit)) : Option (List (Int × Int × Unit) × Unit) :=
  (bif Decidable.decide ((0 : Nat) + l.length ≤ Go.Vx.memMax) then Option.some (l, ()) else none)

theorem law04_intervals_eq (n : Nat) (x : law04_intervals_a.den) : runF law04_intervals_g (law04_intervals_an n) Tryz.f67 law04_intervals_a law04_intervals_r x = law04_intervals_m n x.1 := by kernel_rfl

noncomputable def law04_intervals_M (l : List (Int × Int × Unit)) : Option (List (Int × Int × Unit) × Unit) := law04_intervals_m 0 l

theorem law04_intervals_run (l : List (Int × Int × Unit)) (y : List (Int × Int × Unit) × Unit) (h : law04_intervals_M l = some y) : ∃ n, law04_intervals_m n l = some y := ⟨0, h⟩
noncomputable def law04_intervals_e : Entry := { f := 67, args := law04_intervals_a, ress := law04_intervals_r, m := fun x => law04_intervals_M x.1 }
theorem law04_intervals_ok : FnOK Tryz.prog law04_intervals_e := fn_ok (g := law04_intervals_g) (fn := Tryz.f67) hmixed tabOk eNil (by kernel_rfl) (by kernel_rfl) (by kernel_rfl) (fun x y h => let ⟨n, hn⟩ := law04_intervals_run x.1 y h; ⟨law04_intervals_an n, iNil, (law04_intervals_eq n x).trans hn⟩)

/-! ### tidewaylaw04.between -/
/-! ### tidewaylaw04.copied -/
/-! ### basin.Within$1 -/
/-! ### tidewayref04.end -/
abbrev ref04_end_a : Ty := .pair t96 (.pair t4 .unit)
abbrev ref04_end_r : Ty := .pair t3 .unit
noncomputable def ref04_end_g : G := { T := T, E := [], muts := [], fz := [] }
def ref04_end_k : List (List Nat) := []
noncomputable def ref04_end_an (n : Nat) : Ann := { keep := ref04_end_k, fuel := n, inl := [], deep := 0 }
noncomputable def ref04_end_m (n : Nat) (x1 : Int × Int × Unit) (upper : Bool) : Option (Int × Unit) :=
  (bif upper then Option.some (x1.snd.fst, ()) else Option.some (x1.fst, ()))

theorem ref04_end_eq (n : Nat) (x : ref04_end_a.den) : runF ref04_end_g (ref04_end_an n) Tryz.f113 ref04_end_a ref04_end_r x = ref04_end_m n x.1 x.2.1 := by kernel_rfl

noncomputable def ref04_end (x1 : Int × Int × Unit) (upper : Bool) : (Int × Unit) :=
  (bif upper then (x1.snd.fst, ()) else (x1.fst, ()))

noncomputable abbrev ref04_end_M (x1 : Int × Int × Unit) (upper : Bool) : Option (Int × Unit) := some (ref04_end x1 upper)

theorem ref04_end_run (x1 : Int × Int × Unit) (upper : Bool) (y : Int × Unit) (h : ref04_end_M x1 upper = some y) : ∃ n, ref04_end_m n x1 upper = some y :=
  ⟨0, by rw [← h]; show ref04_end_m 0 x1 upper = some (ref04_end x1 upper); unfold ref04_end_m ref04_end; first | rfl | (simp only [cond_some]; done) | (simp only [cond_some]; rfl)⟩
noncomputable def ref04_end_e : Entry := { f := 113, args := ref04_end_a, ress := ref04_end_r, m := fun x => ref04_end_M x.1 x.2.1 }
theorem ref04_end_ok : FnOK Tryz.prog ref04_end_e := fn_ok (g := ref04_end_g) (fn := Tryz.f113) hmixed tabOk eNil (by kernel_rfl) (by kernel_rfl) (by kernel_rfl) (fun x y h => let ⟨n, hn⟩ := ref04_end_run x.1 x.2.1 y h; ⟨ref04_end_an n, iNil, (ref04_end_eq n x).trans hn⟩)

/-! ### tidewayref04.in -/
/-! ### tidewayref04.ClosedFrom -/
abbrev ref04_ClosedFrom_a : Ty := .pair t101 (.pair t3 .unit)
abbrev ref04_ClosedFrom_r : Ty := .pair t101 .unit
noncomputable def ref04_ClosedFrom_g : G := { T := T, E := [], muts := [5], fz := [] }
def ref04_ClosedFrom_k : List (List Nat) := [[0, 1, 5, 6]]
noncomputable def ref04_ClosedFrom_an (n : Nat) : Ann := { keep := ref04_ClosedFrom_k, fuel := n, inl := [], deep := 0 }
noncomputable def ref04_ClosedFrom_m_l0 (n : Nat) (r0 : List Rng → Int → Int → List Rng → Option (List Rng × Unit)) (l0_0 : List Rng) (k1_0 : Int) (i6_0 : Int) (c0_0 : List Rng) : Option (List Rng × Unit) :=
  (bif Decidable.decide (i6_0 < (↑l0_0.length : Int)) then (Option.bind (Go.Vx.idx l0_0 i6_0) fun (v1 : Rng) => (Option.bind (Go.Vx.idx l0_0 i6_0) fun (v2 : Rng) => (bif Decidable.decide (c0_0.length + (1 : Nat) ≤ Go.Vx.memMax) then r0 l0_0 k1_0 (Go.IntKind.i64.wrap (i6_0 + (1 : Int))) (c0_0 ++ [(v1.fst, Decidable.decide (i6_0 < k1_0), v2.snd.snd.fst, ())]) else none))) else Option.some (c0_0, ()))

noncomputable def ref04_ClosedFrom_m_w0 (n : Nat)  (k : Nat) (l0_0 : List Rng) (k1_0 : Int) (i6_0 : Int) (c0_0 : List Rng) : Option (List Rng × Unit) :=
  iter (fun r y => ref04_ClosedFrom_m_l0 n (fun l0_0 k1_0 i6_0 c0_0 => r ((l0_0, (k1_0, (i6_0, ()))), ((c0_0, ()), ()))) y.1.1 y.1.2.1 y.1.2.2.1 y.2.1.1) k ((l0_0, (k1_0, (i6_0, ()))), ((c0_0, ()), ()))

noncomputable def ref04_ClosedFrom_m (n : Nat) (l : List Rng) (k1 : Int) : Option (List Rng × Unit) :=
  (ref04_ClosedFrom_m_w0 n n (l) (k1) ((0 : Int)) ([]))

theorem ref04_ClosedFrom_eq (n : Nat) (x : ref04_ClosedFrom_a.den) : runF ref04_ClosedFrom_g (ref04_ClosedFrom_an n) Tryz.f124 ref04_ClosedFrom_a ref04_ClosedFrom_r x = ref04_ClosedFrom_m n x.1 x.2.1 := by kernel_rfl

noncomputable def ref04_ClosedFrom_b0 (l0_0 : List Rng) (k1_0 : Int) (i6_0 : Int) (v1 : Rng) (c0_0 : List Rng) : Option ((List Rng × Unit) ⊕ (List Rng)) :=
  (Option.bind (Go.Vx.idx l0_0 i6_0) fun (v2 : Rng) => (bif Decidable.decide (c0_0.length + (1 : Nat) ≤ Go.Vx.memMax) then (some (Sum.inr (c0_0 ++ [(v1.fst, Decidable.decide (i6_0 < k1_0), v2.snd.snd.fst, ())]))) else none))

noncomputable def ref04_ClosedFrom_f0 (l0_0 : List Rng) (k1_0 : Int) (c0_0 : List Rng) : Option (List Rng × Unit) :=
  (some ((c0_0, ())))

theorem ref04_ClosedFrom_m_w0_le (n : Nat) (hn : big ≤ n)  (l0_0 : List Rng) (k1_0 : Int) (c0_0 : List Rng) (hx : List.length (l0_0) < lenMax) : LeF some (loopL (fun i__ e__ s__ => ref04_ClosedFrom_b0 l0_0 k1_0 i__ e__ s__) (fun s__ => ref04_ClosedFrom_f0 l0_0 k1_0 s__) 0 (l0_0) c0_0) (ref04_ClosedFrom_m_w0 n n l0_0 k1_0 0 c0_0) := by
  refine loopL_le (f := some) (W := fun k__ i__ s__ => ref04_ClosedFrom_m_w0 n k__ l0_0 k1_0 i__ s__) (body := (fun i__ e__ s__ => ref04_ClosedFrom_b0 l0_0 k1_0 i__ e__ s__)) (fin := (fun s__ => ref04_ClosedFrom_f0 l0_0 k1_0 s__)) (fun k__ i__ s__ => ?_) hx c0_0 n (by unfold big at hn; unfold lenMax at hx; omega)
  show LeF _ _ (ref04_ClosedFrom_m_l0 n (ref04_ClosedFrom_m_w0 n k__) l0_0 k1_0 i__ s__)
  exact leCond (leBind fun v1 => (leBind fun v2 => (leCond (leSome rfl) leNone))) (leMap (leSome rfl))

noncomputable def ref04_ClosedFrom_M (l : List Rng) (k1 : Int) : Option (List Rng × Unit) :=
  (bif decide (List.length (l) < lenMax) then loopL (fun i__ e__ s__ => ref04_ClosedFrom_b0 (l) (k1) i__ e__ s__) (fun s__ => ref04_ClosedFrom_f0 (l) (k1) s__) 0 (l) ([]) else none)

theorem ref04_ClosedFrom_run (l : List Rng) (k1 : Int) (y : List Rng × Unit) (h : ref04_ClosedFrom_M l k1 = some y) : ∃ n, ref04_ClosedFrom_m n l k1 = some y :=
  ⟨big, LeF.top (show LeF some (ref04_ClosedFrom_M l k1) (ref04_ClosedFrom_m big l k1) from (fun (n : Nat) (hn : big ≤ n) => show LeF some (ref04_ClosedFrom_M l k1) (ref04_ClosedFrom_m n l k1) from (leGuard fun hx => by apply ref04_ClosedFrom_m_w0_le n hn; exact hx)) big (Nat.le_refl _)) h⟩
noncomputable def ref04_ClosedFrom_e : Entry := { f := 124, args := ref04_ClosedFrom_a, ress := ref04_ClosedFrom_r, m := fun x => ref04_ClosedFrom_M x.1 x.2.1 }
theorem ref04_ClosedFrom_ok : FnOK Tryz.prog ref04_ClosedFrom_e := fn_ok (g := ref04_ClosedFrom_g) (fn := Tryz.f124) hmixed tabOk eNil (by kernel_rfl) (by kernel_rfl) (by kernel_rfl) (fun x y h => let ⟨n, hn⟩ := ref04_ClosedFrom_run x.1 x.2.1 y h; ⟨ref04_ClosedFrom_an n, iNil, (ref04_ClosedFrom_eq n x).trans hn⟩)

end Go.Tw
end

section
set_option linter.all false
set_option maxRecDepth 1000000
namespace Go.Tw
open Go.Vx Go.Vx.B Go.Proofs
/-! ### tidewayref04.checkIntervals -/
abbrev ref04_checkIntervals_a : Ty := .pair t25 (.pair t97 (.pair t3 .unit))
abbrev ref04_checkIntervals_r : Ty := .pair t3 .unit
noncomputable def ref04_checkIntervals_g : G := { T := T, E := [ref04_checkInterval_e], muts := [], fz := [] }
def ref04_checkIntervals_k : List (List Nat) := [[1, 2, 7]]
noncomputable def ref04_checkIntervals_an (n : Nat) : Ann := { keep := ref04_checkIntervals_k, fuel := n, inl := [], deep := 0 }
noncomputable def ref04_checkIntervals_m_l0 (n : Nat) (r0 : List (Int × Int × Unit) → Int → Int → Option (Int × Unit)) (l1_0 : List (Int × Int × Unit)) (most2_0 : Int) (i7_0 : Int) : Option (Int × Unit) :=
  (bif Decidable.decide (i7_0 < (↑l1_0.length : Int)) then (Option.bind (Go.Vx.idx l1_0 i7_0) fun (v1 : Int × Int × Unit) => (Option.bind (Go.Tw.ref04_checkInterval_M v1 (0 : Int) most2_0) fun (v2 : Int × Unit) => (bif v2.fst != (0 : Int) then Option.some (v2.fst, ()) else r0 l1_0 most2_0 (Go.IntKind.i64.wrap (i7_0 + (1 : Int)))))) else Option.some ((0 : Int), ()))

noncomputable def ref04_checkIntervals_m_w0 (n : Nat)  (k : Nat) (l1_0 : List (Int × Int × Unit)) (most2_0 : Int) (i7_0 : Int) : Option (Int × Unit) :=
  iter (fun r y => ref04_checkIntervals_m_l0 n (fun l1_0 most2_0 i7_0 => r ((l1_0, (most2_0, (i7_0, ()))), ((), ()))) y.1.1 y.1.2.1 y.1.2.2.1) k ((l1_0, (most2_0, (i7_0, ()))), ((), ()))

noncomputable def ref04_checkIntervals_m (n : Nat) (b : Bas) (l : List (Int × Int × Unit)) (most : Int) : Option (Int × Unit) :=
  (bif (↑l.length : Int) != (↑b.fst.length : Int) then Option.some ((2 : Int), ()) else (ref04_checkIntervals_m_w0 n n (l) (most) ((0 : Int))))

theorem ref04_checkIntervals_eq (n : Nat) (x : ref04_checkIntervals_a.den) : runF ref04_checkIntervals_g (ref04_checkIntervals_an n) Tryz.f156 ref04_checkIntervals_a ref04_checkIntervals_r x = ref04_checkIntervals_m n x.1 x.2.1 x.2.2.1 := by kernel_rfl

noncomputable def ref04_checkIntervals_b0 (l1_0 : List (Int × Int × Unit)) (most2_0 : Int) (i7_0 : Int) (v1 : Int × Int × Unit) : Option ((Int × Unit) ⊕ Unit) :=
  (Option.bind (Go.Tw.ref04_checkInterval_M v1 (0 : Int) most2_0) fun (v2 : Int × Unit) => (bif v2.fst != (0 : Int) then (some (Sum.inl ((v2.fst, ())))) else (some (Sum.inr ()))))

noncomputable def ref04_checkIntervals_f0 (l1_0 : List (Int × Int × Unit)) (most2_0 : Int) : Option (Int × Unit) :=
  (some (((0 : Int), ())))

theorem ref04_checkIntervals_m_w0_le (n : Nat) (hn : big ≤ n)  (l1_0 : List (Int × Int × Unit)) (most2_0 : Int) (hx : List.length (l1_0) < lenMax) : LeF some (loopL (fun i__ e__ s__ => ref04_checkIntervals_b0 l1_0 most2_0 i__ e__) (fun s__ => ref04_checkIntervals_f0 l1_0 most2_0) 0 (l1_0) ()) (ref04_checkIntervals_m_w0 n n l1_0 most2_0 0) := by
  refine loopL_le (f := some) (W := fun k__ i__ s__ => ref04_checkIntervals_m_w0 n k__ l1_0 most2_0 i__) (body := (fun i__ e__ s__ => ref04_checkIntervals_b0 l1_0 most2_0 i__ e__)) (fin := (fun s__ => ref04_checkIntervals_f0 l1_0 most2_0)) (fun k__ i__ s__ => ?_) hx () n (by unfold big at hn; unfold lenMax at hx; omega)
  show LeF _ _ (ref04_checkIntervals_m_l0 n (ref04_checkIntervals_m_w0 n k__) l1_0 most2_0 i__)
  exact leCond (leBind fun v1 => (leBind fun v2 => (leCond (leSome rfl) (leSome rfl)))) (leMap (leSome rfl))

noncomputable def ref04_checkIntervals_M (b : Bas) (l : List (Int × Int × Unit)) (most : Int) : Option (Int × Unit) :=
  (bif (↑l.length : Int) != (↑b.fst.length : Int) then (some (((2 : Int), ()))) else (bif decide (List.length (l) < lenMax) then loopL (fun i__ e__ s__ => ref04_checkIntervals_b0 (l) (most) i__ e__) (fun s__ => ref04_checkIntervals_f0 (l) (most)) 0 (l) () else none))

theorem ref04_checkIntervals_run (b : Bas) (l : List (Int × Int × Unit)) (most : Int) (y : Int × Unit) (h : ref04_checkIntervals_M b l most = some y) : ∃ n, ref04_checkIntervals_m n b l most = some y :=
  ⟨big, LeF.top (show LeF some (ref04_checkIntervals_M b l most) (ref04_checkIntervals_m big b l most) from (fun (n : Nat) (hn : big ≤ n) => show LeF some (ref04_checkIntervals_M b l most) (ref04_checkIntervals_m n b l most) from (leCond (leSome rfl) (leGuard fun hx => by apply ref04_checkIntervals_m_w0_le n hn; exact hx))) big (Nat.le_refl _)) h⟩
noncomputable def ref04_checkIntervals_e : Entry := { f := 156, args := ref04_checkIntervals_a, ress := ref04_checkIntervals_r, m := fun x => ref04_checkIntervals_M x.1 x.2.1 x.2.2.1 }
theorem ref04_checkIntervals_ok : FnOK Tryz.prog ref04_checkIntervals_e := fn_ok (g := ref04_checkIntervals_g) (fn := Tryz.f156) hmixed tabOk (eCons ref04_checkInterval_ok eNil) (by kernel_rfl) (by kernel_rfl) (by kernel_rfl) (fun x y h => let ⟨n, hn⟩ := ref04_checkIntervals_run x.1 x.2.1 x.2.2.1 y h; ⟨ref04_checkIntervals_an n, iNil, (ref04_checkIntervals_eq n x).trans hn⟩)

/-! ### slices.ContainsFunc[[][]int,[]int] -/
abbrev slices_ContainsFunc_int_int_a : Ty := .pair t56 (.pair t181 .unit)
abbrev slices_ContainsFunc_int_int_r : Ty := .pair t4 .unit
noncomputable def slices_ContainsFunc_int_int_g : G := { T := T, E := [slices_IndexFunc_int_int_e], muts := [], fz := [] }
def slices_ContainsFunc_int_int_k : List (List Nat) := []
noncomputable def slices_ContainsFunc_int_int_an (n : Nat) : Ann := { keep := slices_ContainsFunc_int_int_k, fuel := n, inl := [], deep := 0 }
noncomputable def slices_ContainsFunc_int_int_m (n : Nat) (s : List (List Int)) (f : List Int × Unit → Option (Bool × Unit)) : Option (Bool × Unit) :=
  (Option.bind (Go.Tw.slices_IndexFunc_int_int_M s f) fun (v0 : Int × Unit) => Option.some (Decidable.decide (v0.fst ≥ (0 : Int)), ()))

theorem slices_ContainsFunc_int_int_eq (n : Nat) (x : slices_ContainsFunc_int_int_a.den) : runF slices_ContainsFunc_int_int_g (slices_ContainsFunc_int_int_an n) Tryz.f168 slices_ContainsFunc_int_int_a slices_ContainsFunc_int_int_r x = slices_ContainsFunc_int_int_m n x.1 x.2.1 := by kernel_rfl

noncomputable def slices_ContainsFunc_int_int_M (s : List (List Int)) (f : List Int × Unit → Option (Bool × Unit)) : Option (Bool × Unit) := slices_ContainsFunc_int_int_m 0 s f

theorem slices_ContainsFunc_int_int_run (s : List (List Int)) (f : List Int × Unit → Option (Bool × Unit)) (y : Bool × Unit) (h : slices_ContainsFunc_int_int_M s f = some y) : ∃ n, slices_ContainsFunc_int_int_m n s f = some y := ⟨0, h⟩
noncomputable def slices_ContainsFunc_int_int_e : Entry := { f := 168, args := slices_ContainsFunc_int_int_a, ress := slices_ContainsFunc_int_int_r, m := fun x => slices_ContainsFunc_int_int_M x.1 x.2.1 }
theorem slices_ContainsFunc_int_int_ok : FnOK Tryz.prog slices_ContainsFunc_int_int_e := fn_ok (g := slices_ContainsFunc_int_int_g) (fn := Tryz.f168) hmixed tabOk (eCons slices_IndexFunc_int_int_ok eNil) (by kernel_rfl) (by kernel_rfl) (by kernel_rfl) (fun x y h => let ⟨n, hn⟩ := slices_ContainsFunc_int_int_run x.1 x.2.1 y h; ⟨slices_ContainsFunc_int_int_an n, iNil, (slices_ContainsFunc_int_int_eq n x).trans hn⟩)

/-! ### basin.Within -/
/-! ### tidewaylaw04.one -/
abbrev law04_one_a : Ty := .pair t99 .unit
abbrev law04_one_r : Ty := .pair t104 .unit
noncomputable def law04_one_g : G := { T := T, E := [law04_intervals_e], muts := [], fz := [] }
def law04_one_k : List (List Nat) := []
noncomputable def law04_one_an (n : Nat) : Ann := { keep := law04_one_k, fuel := n, inl := [], deep := 0 }
noncomputable def law04_one_m (n : Nat) (r1 : Rng) : Option (Rng × Unit) :=
  (Option.bind (Go.Tw.law04_intervals_M r1.snd.snd.fst) fun (v0 : List (Int × Int × Unit) × Unit) => Option.some (((r1.fst.fst, r1.fst.snd.fst, ()), r1.snd.fst, v0.fst, ()), ()))

theorem law04_one_eq (n : Nat) (x : law04_one_a.den) : runF law04_one_g (law04_one_an n) Tryz.f54 law04_one_a law04_one_r x = law04_one_m n x.1 := by kernel_rfl

noncomputable def law04_one_M (r1 : Rng) : Option (Rng × Unit) := law04_one_m 0 r1

theorem law04_one_run (r1 : Rng) (y : Rng × Unit) (h : law04_one_M r1 = some y) : ∃ n, law04_one_m n r1 = some y := ⟨0, h⟩
noncomputable def law04_one_e : Entry := { f := 54, args := law04_one_a, ress := law04_one_r, m := fun x => law04_one_M x.1 }
theorem law04_one_ok : FnOK Tryz.prog law04_one_e := fn_ok (g := law04_one_g) (fn := Tryz.f54) hmixed tabOk (eCons law04_intervals_ok eNil) (by kernel_rfl) (by kernel_rfl) (by kernel_rfl) (fun x y h => let ⟨n, hn⟩ := law04_one_run x.1 y h; ⟨law04_one_an n, iNil, (law04_one_eq n x).trans hn⟩)

/-! ### tidewayref04.Within -/
/-! ### tidewayref04.ends -/
abbrev ref04_ends_a : Ty := .pair t97 (.pair t4 .unit)
abbrev ref04_ends_r : Ty := .pair t26 .unit
noncomputable def ref04_ends_g : G := { T := T, E := [ref04_end_e], muts := [5], fz := [] }
def ref04_ends_k : List (List Nat) := [[0, 1, 5, 6]]
noncomputable def ref04_ends_an (n : Nat) : Ann := { keep := ref04_ends_k, fuel := n, inl := [], deep := 0 }
noncomputable def ref04_ends_m_l0 (n : Nat) (r0 : List (Int × Int × Unit) → Bool → Int → List Int → Option (List Int × Unit)) (l0_0 : List (Int × Int × Unit)) (upper1_0 : Bool) (i6_0 : Int) (c0_0 : List Int) : Option (List Int × Unit) :=
  (bif Decidable.decide (i6_0 < (↑l0_0.length : Int)) then (Option.bind (Go.Vx.idx l0_0 i6_0) fun (v1 : Int × Int × Unit) => (bif Decidable.decide (c0_0.length + (1 : Nat) ≤ Go.Vx.memMax) then r0 l0_0 upper1_0 (Go.IntKind.i64.wrap (i6_0 + (1 : Int))) (c0_0 ++ [(Go.Tw.ref04_end v1 upper1_0).fst]) else none)) else Option.some (c0_0, ()))

noncomputable def ref04_ends_m_w0 (n : Nat)  (k : Nat) (l0_0 : List (Int × Int × Unit)) (upper1_0 : Bool) (i6_0 : Int) (c0_0 : List Int) : Option (List Int × Unit) :=
  iter (fun r y => ref04_ends_m_l0 n (fun l0_0 upper1_0 i6_0 c0_0 => r ((l0_0, (upper1_0, (i6_0, ()))), ((c0_0, ()), ()))) y.1.1 y.1.2.1 y.1.2.2.1 y.2.1.1) k ((l0_0, (upper1_0, (i6_0, ()))), ((c0_0, ()), ()))

noncomputable def ref04_ends_m (n : Nat) (l : List (Int × Int × Unit)) (upper : Bool) : Option (List Int × Unit) :=
  (ref04_ends_m_w0 n n (l) (upper) ((0 : Int)) ([]))

theorem ref04_ends_eq (n : Nat) (x : ref04_ends_a.den) : runF ref04_ends_g (ref04_ends_an n) Tryz.f114 ref04_ends_a ref04_ends_r x = ref04_ends_m n x.1 x.2.1 := by kernel_rfl

noncomputable def ref04_ends_b0 (l0_0 : List (Int × Int × Unit)) (upper1_0 : Bool) (i6_0 : Int) (v1 : Int × Int × Unit) (c0_0 : List Int) : Option ((List Int × Unit) ⊕ (List Int)) :=
  (bif Decidable.decide (c0_0.length + (1 : Nat) ≤ Go.Vx.memMax) then (some (Sum.inr (c0_0 ++ [(Go.Tw.ref04_end v1 upper1_0).fst]))) else none)

noncomputable def ref04_ends_f0 (l0_0 : List (Int × Int × Unit)) (upper1_0 : Bool) (c0_0 : List Int) : Option (List Int × Unit) :=
  (some ((c0_0, ())))

theorem ref04_ends_m_w0_le (n : Nat) (hn : big ≤ n)  (l0_0 : List (Int × Int × Unit)) (upper1_0 : Bool) (c0_0 : List Int) (hx : List.length (l0_0) < lenMax) : LeF some (loopL (fun i__ e__ s__ => ref04_ends_b0 l0_0 upper1_0 i__ e__ s__) (fun s__ => ref04_ends_f0 l0_0 upper1_0 s__) 0 (l0_0) c0_0) (ref04_ends_m_w0 n n l0_0 upper1_0 0 c0_0) := by
  refine loopL_le (f := some) (W := fun k__ i__ s__ => ref04_ends_m_w0 n k__ l0_0 upper1_0 i__ s__) (body := (fun i__ e__ s__ => ref04_ends_b0 l0_0 upper1_0 i__ e__ s__)) (fin := (fun s__ => ref04_ends_f0 l0_0 upper1_0 s__)) (fun k__ i__ s__ => ?_) hx c0_0 n (by unfold big at hn; unfold lenMax at hx; omega)
  show LeF _ _ (ref04_ends_m_l0 n (ref04_ends_m_w0 n k__) l0_0 upper1_0 i__ s__)
  exact leCond (leBind fun v1 => (leCond (leSome rfl) leNone)) (leMap (leSome rfl))

noncomputable def ref04_ends_M (l : List (Int × Int × Unit)) (upper : Bool) : Option (List Int × Unit) :=
  (bif decide (List.length (l) < lenMax) then loopL (fun i__ e__ s__ => ref04_ends_b0 (l) (upper) i__ e__ s__) (fun s__ => ref04_ends_f0 (l) (upper) s__) 0 (l) ([]) else none)

theorem ref04_ends_run (l : List (Int × Int × Unit)) (upper : Bool) (y : List Int × Unit) (h : ref04_ends_M l upper = some y) : ∃ n, ref04_ends_m n l upper = some y :=
  ⟨big, LeF.top (show LeF some (ref04_ends_M l upper) (ref04_ends_m big l upper) from (fun (n : Nat) (hn : big ≤ n) => show LeF some (ref04_ends_M l upper) (ref04_ends_m n l upper) from (leGuard fun hx => by apply ref04_ends_m_w0_le n hn; exact hx)) big (Nat.le_refl _)) h⟩
noncomputable def ref04_ends_e : Entry := { f := 114, args := ref04_ends_a, ress := ref04_ends_r, m := fun x => ref04_ends_M x.1 x.2.1 }
theorem ref04_ends_ok : FnOK Tryz.prog ref04_ends_e := fn_ok (g := ref04_ends_g) (fn := Tryz.f114) hmixed tabOk (eCons ref04_end_ok eNil) (by kernel_rfl) (by kernel_rfl) (by kernel_rfl) (fun x y h => let ⟨n, hn⟩ := ref04_ends_run x.1 x.2.1 y h; ⟨ref04_ends_an n, iNil, (ref04_ends_eq n x).trans hn⟩)

end Go.Tw
end

section
set_option linter.all false
set_option maxRecDepth 1000000
namespace Go.Tw
open Go.Vx Go.Vx.B Go.Proofs
/-! ### tidewaylaw04.ranges -/
abbrev law04_ranges_a : Ty := .pair t101 .unit
abbrev law04_ranges_r : Ty := .pair t108 .unit
noncomputable def law04_ranges_g : G := { T := T, E := [law04_one_e], muts := [3], fz := [] }
def law04_ranges_k : List (List Nat) := [[3, 6, 7, 8]]
noncomputable def law04_ranges_an (n : Nat) : Ann := { keep := law04_ranges_k, fuel := n, inl := [], deep := 0 }
noncomputable def law04_ranges_m_l0 (n : Nat) (r0 : List Rng → Int → Int → List Rng → Option (List Rng × Unit)) (t6_0 : List Rng) (t7_0 : Int) (t8_0 : Int) (c0_0 : List Rng) : Option (List Rng × Unit) :=
  (bif Decidable.decide (t8_0 < t7_0) then (Option.bind (Go.Vx.idx t6_0 t8_0) fun (v1 : Rng) => (Option.bind (Go.Tw.law04_one_M ((v1.fst.fst, v1.fst.snd.fst, ()), v1.snd.fst, v1.snd.snd.fst, ())) fun (v2 : Go.Tw.Rng × Unit) => (bif Decidable.decide (c0_0.length + (1 : Nat) ≤ Go.Vx.memMax) then r0 t6_0 t7_0 (Go.IntKind.i64.wrap (t8_0 + (1 : Int))) (c0_0 ++ [v2.fst]) else none))) else Option.some (c0_0, ()))

noncomputable def law04_ranges_m_w0 (n : Nat)  (k : Nat) (t6_0 : List Rng) (t7_0 : Int) (t8_0 : Int) (c0_0 : List Rng) : Option (List Rng × Unit) :=
  iter (fun r y => law04_ranges_m_l0 n (fun t6_0 t7_0 t8_0 c0_0 => r ((t6_0, (t7_0, (t8_0, ()))), ((c0_0, ()), ()))) y.1.1 y.1.2.1 y.1.2.2.1 y.2.1.1) k ((t6_0, (t7_0, (t8_0, ()))), ((c0_0, ()), ()))

noncomputable def law04_ranges_m (n : Nat) (l : List Rng) : Option (List Rng × Unit) :=
  (law04_ranges_m_w0 n n (l) ((↑l.length : Int)) ((0 : Int)) ([]))

theorem law04_ranges_eq (n : Nat) (x : law04_ranges_a.den) : runF law04_ranges_g (law04_ranges_an n) Tryz.f56 law04_ranges_a law04_ranges_r x = law04_ranges_m n x.1 := by kernel_rfl

noncomputable def law04_ranges_b0 (t6_0 : List Rng) (t8_0 : Int) (v1 : Rng) (c0_0 : List Rng) : Option ((List Rng × Unit) ⊕ (List Rng)) :=
  (Option.bind (Go.Tw.law04_one_M ((v1.fst.fst, v1.fst.snd.fst, ()), v1.snd.fst, v1.snd.snd.fst, ())) fun (v2 : Go.Tw.Rng × Unit) => (bif Decidable.decide (c0_0.length + (1 : Nat) ≤ Go.Vx.memMax) then (some (Sum.inr (c0_0 ++ [v2.fst]))) else none))

noncomputable def law04_ranges_f0 (t6_0 : List Rng) (c0_0 : List Rng) : Option (List Rng × Unit) :=
  (some ((c0_0, ())))

theorem law04_ranges_m_w0_le (n : Nat) (hn : big ≤ n)  (t6_0 : List Rng) (c0_0 : List Rng) (hx : List.length (t6_0) < lenMax) : LeF some (loopL (fun i__ e__ s__ => law04_ranges_b0 t6_0 i__ e__ s__) (fun s__ => law04_ranges_f0 t6_0 s__) 0 (t6_0) c0_0) (law04_ranges_m_w0 n n t6_0 (List.length (t6_0) : Int) 0 c0_0) := by
  refine loopL_le (f := some) (W := fun k__ i__ s__ => law04_ranges_m_w0 n k__ t6_0 (List.length (t6_0) : Int) i__ s__) (body := (fun i__ e__ s__ => law04_ranges_b0 t6_0 i__ e__ s__)) (fin := (fun s__ => law04_ranges_f0 t6_0 s__)) (fun k__ i__ s__ => ?_) hx c0_0 n (by unfold big at hn; unfold lenMax at hx; omega)
  show LeF _ _ (law04_ranges_m_l0 n (law04_ranges_m_w0 n k__) t6_0 (List.length (t6_0) : Int) i__ s__)
  exact leCond (leBind fun v1 => (leBind fun v2 => (leCond (leSome rfl) leNone))) (leMap (leSome rfl))

noncomputable def law04_ranges_M (l : List Rng) : Option (List Rng × Unit) :=
  (bif decide (List.length (l) < lenMax) then loopL (fun i__ e__ s__ => law04_ranges_b0 (l) i__ e__ s__) (fun s__ => law04_ranges_f0 (l) s__) 0 (l) ([]) else none)

theorem law04_ranges_run (l : List Rng) (y : List Rng × Unit) (h : law04_ranges_M l = some y) : ∃ n, law04_ranges_m n l = some y :=
  ⟨big, LeF.top (show LeF some (law04_ranges_M l) (law04_ranges_m big l) from (fun (n : Nat) (hn : big ≤ n) => show LeF some (law04_ranges_M l) (law04_ranges_m n l) from (leGuard fun hx => by apply law04_ranges_m_w0_le n hn; exact hx)) big (Nat.le_refl _)) h⟩
noncomputable def law04_ranges_e : Entry := { f := 56, args := law04_ranges_a, ress := law04_ranges_r, m := fun x => law04_ranges_M x.1 }
theorem law04_ranges_ok : FnOK Tryz.prog law04_ranges_e := fn_ok (g := law04_ranges_g) (fn := Tryz.f56) hmixed tabOk (eCons law04_one_ok eNil) (by kernel_rfl) (by kernel_rfl) (by kernel_rfl) (fun x y h => let ⟨n, hn⟩ := law04_ranges_run x.1 y h; ⟨law04_ranges_an n, iNil, (law04_ranges_eq n x).trans hn⟩)

/-! ### tidewayref04.Corner -/
abbrev ref04_Corner_a : Ty := .pair t101 (.pair t4 .unit)
abbrev ref04_Corner_r : Ty := .pair t33 .unit
noncomputable def ref04_Corner_g : G := { T := T, E := [ref04_end_e, ref04_ends_e], muts := [5], fz := [] }
def ref04_Corner_k : List (List Nat) := [[0, 1, 5, 6]]
noncomputable def ref04_Corner_an (n : Nat) : Ann := { keep := ref04_Corner_k, fuel := n, inl := [], deep := 0 }
noncomputable def ref04_Corner_m_l0 (n : Nat) (r0 : List Rng → Bool → Int → List Cnd → Option (List Cnd × Unit)) (l0_0 : List Rng) (upper1_0 : Bool) (i6_0 : Int) (c0_0 : List Cnd) : Option (List Cnd × Unit) :=
  (bif Decidable.decide (i6_0 < (↑l0_0.length : Int)) then (Option.bind (Go.Vx.idx l0_0 i6_0) fun (v1 : Rng) => (Option.bind (Go.Vx.idx l0_0 i6_0) fun (v2 : Rng) => (Option.bind (Go.Vx.idx l0_0 i6_0) fun (v3 : Rng) => (Option.bind (Go.Tw.ref04_ends_M v3.snd.snd.fst upper1_0) fun (v4 : List Int × Unit) => (bif Decidable.decide (c0_0.length + (1 : Nat) ≤ Go.Vx.memMax) then r0 l0_0 upper1_0 (Go.IntKind.i64.wrap (i6_0 + (1 : Int))) (c0_0 ++ [((Go.Tw.ref04_end v1.fst upper1_0).fst, v2.snd.fst, v4.fst, ())]) else none))))) else Option.some (c0_0, ()))

noncomputable def ref04_Corner_m_w0 (n : Nat)  (k : Nat) (l0_0 : List Rng) (upper1_0 : Bool) (i6_0 : Int) (c0_0 : List Cnd) : Option (List Cnd × Unit) :=
  iter (fun r y => ref04_Corner_m_l0 n (fun l0_0 upper1_0 i6_0 c0_0 => r ((l0_0, (upper1_0, (i6_0, ()))), ((c0_0, ()), ()))) y.1.1 y.1.2.1 y.1.2.2.1 y.2.1.1) k ((l0_0, (upper1_0, (i6_0, ()))), ((c0_0, ()), ()))

noncomputable def ref04_Corner_m (n : Nat) (l : List Rng) (upper : Bool) : Option (List Cnd × Unit) :=
  (ref04_Corner_m_w0 n n (l) (upper) ((0 : Int)) ([]))

theorem ref04_Corner_eq (n : Nat) (x : ref04_Corner_a.den) : runF ref04_Corner_g (ref04_Corner_an n) Tryz.f60 ref04_Corner_a ref04_Corner_r x = ref04_Corner_m n x.1 x.2.1 := by kernel_rfl

noncomputable def ref04_Corner_b0 (l0_0 : List Rng) (upper1_0 : Bool) (i6_0 : Int) (v1 : Rng) (c0_0 : List Cnd) : Option ((List Cnd × Unit) ⊕ (List Cnd)) :=
  (Option.bind (Go.Vx.idx l0_0 i6_0) fun (v2 : Rng) => (Option.bind (Go.Vx.idx l0_0 i6_0) fun (v3 : Rng) => (Option.bind (Go.Tw.ref04_ends_M v3.snd.snd.fst upper1_0) fun (v4 : List Int × Unit) => (bif Decidable.decide (c0_0.length + (1 : Nat) ≤ Go.Vx.memMax) then (some (Sum.inr (c0_0 ++ [((Go.Tw.ref04_end v1.fst upper1_0).fst, v2.snd.fst, v4.fst, ())]))) else none))))

noncomputable def ref04_Corner_f0 (l0_0 : List Rng) (upper1_0 : Bool) (c0_0 : List Cnd) : Option (List Cnd × Unit) :=
  (some ((c0_0, ())))

theorem ref04_Corner_m_w0_le (n : Nat) (hn : big ≤ n)  (l0_0 : List Rng) (upper1_0 : Bool) (c0_0 : List Cnd) (hx : List.length (l0_0) < lenMax) : LeF some (loopL (fun i__ e__ s__ => ref04_Corner_b0 l0_0 upper1_0 i__ e__ s__) (fun s__ => ref04_Corner_f0 l0_0 upper1_0 s__) 0 (l0_0) c0_0) (ref04_Corner_m_w0 n n l0_0 upper1_0 0 c0_0) := by
  refine loopL_le (f := some) (W := fun k__ i__ s__ => ref04_Corner_m_w0 n k__ l0_0 upper1_0 i__ s__) (body := (fun i__ e__ s__ => ref04_Corner_b0 l0_0 upper1_0 i__ e__ s__)) (fin := (fun s__ => ref04_Corner_f0 l0_0 upper1_0 s__)) (fun k__ i__ s__ => ?_) hx c0_0 n (by unfold big at hn; unfold lenMax at hx; omega)
  show LeF _ _ (ref04_Corner_m_l0 n (ref04_Corner_m_w0 n k__) l0_0 upper1_0 i__ s__)
  exact leCond (leBind fun v1 => (leBind fun v2 => (leBind fun v3 => (leBind fun v4 => (leCond (leSome rfl) leNone))))) (leMap (leSome rfl))

noncomputable def ref04_Corner_M (l : List Rng) (upper : Bool) : Option (List Cnd × Unit) :=
  (bif decide (List.length (l) < lenMax) then loopL (fun i__ e__ s__ => ref04_Corner_b0 (l) (upper) i__ e__ s__) (fun s__ => ref04_Corner_f0 (l) (upper) s__) 0 (l) ([]) else none)

theorem ref04_Corner_run (l : List Rng) (upper : Bool) (y : List Cnd × Unit) (h : ref04_Corner_M l upper = some y) : ∃ n, ref04_Corner_m n l upper = some y :=
  ⟨big, LeF.top (show LeF some (ref04_Corner_M l upper) (ref04_Corner_m big l upper) from (fun (n : Nat) (hn : big ≤ n) => show LeF some (ref04_Corner_M l upper) (ref04_Corner_m n l upper) from (leGuard fun hx => by apply ref04_Corner_m_w0_le n hn; exact hx)) big (Nat.le_refl _)) h⟩
noncomputable def ref04_Corner_e : Entry := { f := 60, args := ref04_Corner_a, ress := ref04_Corner_r, m := fun x => ref04_Corner_M x.1 x.2.1 }
theorem ref04_Corner_ok : FnOK Tryz.prog ref04_Corner_e := fn_ok (g := ref04_Corner_g) (fn := Tryz.f60) hmixed tabOk (eCons ref04_end_ok (eCons ref04_ends_ok eNil)) (by kernel_rfl) (by kernel_rfl) (by kernel_rfl) (fun x y h => let ⟨n, hn⟩ := ref04_Corner_run x.1 x.2.1 y h; ⟨ref04_Corner_an n, iNil, (ref04_Corner_eq n x).trans hn⟩)

/-! ### tidewayref04.OnlyRange -/
abbrev ref04_OnlyRange_a : Ty := .pair t25 (.pair t99 .unit)
abbrev ref04_OnlyRange_r : Ty := .pair t3 .unit
noncomputable def ref04_OnlyRange_g : G := { T := T, E := [ref04_checkInterval_e, ref04_checkIntervals_e, ref01_First_e], muts := [], fz := [] }
def ref04_OnlyRange_k : List (List Nat) := []
noncomputable def ref04_OnlyRange_an (n : Nat) : Ann := { keep := ref04_OnlyRange_k, fuel := n, inl := [], deep := 0 }
noncomputable def ref04_OnlyRange_m (n : Nat) (b : Bas) (r1 : Rng) : Option (Int × Unit) :=
  (Option.bind (Go.Tw.ref04_checkInterval_M r1.fst (-1024 : Int) (1024 : Int)) fun (v0 : Int × Unit) => (Option.bind (Go.Tw.ref04_checkIntervals_M b r1.snd.snd.fst (100000 : Int)) fun (v1 : Int × Unit) => (Option.bind (Go.Tw.ref01_First_M [v0.fst, v1.fst]) fun (v2 : Int × Unit) => Option.some (v2.fst, ()))))

theorem ref04_OnlyRange_eq (n : Nat) (x : ref04_OnlyRange_a.den) : runF ref04_OnlyRange_g (ref04_OnlyRange_an n) Tryz.f112 ref04_OnlyRange_a ref04_OnlyRange_r x = ref04_OnlyRange_m n x.1 x.2.1 := by kernel_rfl

noncomputable def ref04_OnlyRange_M (b : Bas) (r1 : Rng) : Option (Int × Unit) := ref04_OnlyRange_m 0 b r1

theorem ref04_OnlyRange_run (b : Bas) (r1 : Rng) (y : Int × Unit) (h : ref04_OnlyRange_M b r1 = some y) : ∃ n, ref04_OnlyRange_m n b r1 = some y := ⟨0, h⟩
noncomputable def ref04_OnlyRange_e : Entry := { f := 112, args := ref04_OnlyRange_a, ress := ref04_OnlyRange_r, m := fun x => ref04_OnlyRange_M x.1 x.2.1 }
theorem ref04_OnlyRange_ok : FnOK Tryz.prog ref04_OnlyRange_e := fn_ok (g := ref04_OnlyRange_g) (fn := Tryz.f112) hmixed tabOk (eCons ref04_checkInterval_ok (eCons ref04_checkIntervals_ok (eCons ref01_First_ok eNil))) (by kernel_rfl) (by kernel_rfl) (by kernel_rfl) (fun x y h => let ⟨n, hn⟩ := ref04_OnlyRange_run x.1 x.2.1 y h; ⟨ref04_OnlyRange_an n, iNil, (ref04_OnlyRange_eq n x).trans hn⟩)

/-! ### (basin.Basin).safe -/
abbrev basin_Basin_safe_a : Ty := .pair t41 (.pair t97 (.pair t108 .unit))
abbrev basin_Basin_safe_r : Ty := .pair t4 (.pair t35 .unit)
noncomputable def basin_Basin_safe_g : G := { T := T, E := [basin_end_e, basin_mapped_basin_Range_basin_Condition_e, basin_Range_higher_e, basin_Basin_run_e, basin_Basin_safe_1_e, basin_volumes_e, slices_ContainsFunc_int_int_e], muts := [], fz := [] }
def basin_Basin_safe_k : List (List Nat) := []
noncomputable def basin_Basin_safe_an (n : Nat) : Ann := { keep := basin_Basin_safe_k, fuel := n, inl := [], deep := 0 }
noncomputable def basin_Basin_safe_m (n : Nat) (b : Bas) (v : List (Int × Int × Unit)) (l : List Rng) : Option (Bool × Int × Unit) :=
  (Option.bind (Go.Tw.basin_end_M v (1 : Int)) fun (v0 : List Int × Unit) => (Option.bind (Go.Tw.basin_mapped_basin_Range_basin_Condition_M l fun (x : Rng × Unit) => Go.Tw.basin_Range_higher_M x.fst) fun (v1 : List Go.Tw.Cnd × Unit) => (Option.bind (Go.Tw.basin_Basin_run_M b v0.fst v1.fst) fun (v2 : List Go.Tw.Psg × Int × Unit) => (bif v2.snd.fst != (0 : Int) then Option.some (Bool.false, v2.snd.fst, ()) else (Option.bind (Go.Tw.basin_volumes_M v2.fst) fun (v3 : List (List Int) × Unit) => (Option.bind (Go.Tw.slices_ContainsFunc_int_int_M v3.fst fun (x : List Int × Unit) => Go.Tw.basin_Basin_safe_1_M x.fst b) fun (v4 : Bool × Unit) => Option.some (!v4.fst, (0 : Int), ())))))))

theorem basin_Basin_safe_eq (n : Nat) (x : basin_Basin_safe_a.den) : runF basin_Basin_safe_g (basin_Basin_safe_an n) Tryz.f120 basin_Basin_safe_a basin_Basin_safe_r x = basin_Basin_safe_m n x.1 x.2.1 x.2.2.1 := by kernel_rfl

noncomputable def basin_Basin_safe_M (b : Bas) (v : List (Int × Int × Unit)) (l : List Rng) : Option (Bool × Int × Unit) := basin_Basin_safe_m 0 b v l

theorem basin_Basin_safe_run (b : Bas) (v : List (Int × Int × Unit)) (l : List Rng) (y : Bool × Int × Unit) (h : basin_Basin_safe_M b v l = some y) : ∃ n, basin_Basin_safe_m n b v l = some y := ⟨0, h⟩
noncomputable def basin_Basin_safe_e : Entry := { f := 120, args := basin_Basin_safe_a, ress := basin_Basin_safe_r, m := fun x => basin_Basin_safe_M x.1 x.2.1 x.2.2.1 }
theorem basin_Basin_safe_ok : FnOK Tryz.prog basin_Basin_safe_e := fn_ok (g := basin_Basin_safe_g) (fn := Tryz.f120) hmixed tabOk (eCons basin_end_ok (eCons basin_mapped_basin_Range_basin_Condition_ok (eCons basin_Range_higher_ok (eCons basin_Basin_run_ok (eCons basin_Basin_safe_1_ok (eCons basin_volumes_ok (eCons slices_ContainsFunc_int_int_ok eNil))))))) (by kernel_rfl) (by kernel_rfl) (by kernel_rfl) (fun x y h => let ⟨n, hn⟩ := basin_Basin_safe_run x.1 x.2.1 x.2.2.1 y h; ⟨basin_Basin_safe_an n, iNil, (basin_Basin_safe_eq n x).trans hn⟩)

/-! ### tidewayref04.OnlyIntervals -/
abbrev ref04_OnlyIntervals_a : Ty := .pair t25 (.pair t97 .unit)
abbrev ref04_OnlyIntervals_r : Ty := .pair t3 .unit
noncomputable def ref04_OnlyIntervals_g : G := { T := T, E := [ref04_checkIntervals_e], muts := [], fz := [] }
def ref04_OnlyIntervals_k : List (List Nat) := []
noncomputable def ref04_OnlyIntervals_an (n : Nat) : Ann := { keep := ref04_OnlyIntervals_k, fuel := n, inl := [], deep := 0 }
noncomputable def ref04_OnlyIntervals_m (n : Nat) (b : Bas) (v : List (Int × Int × Unit)) : Option (Int × Unit) :=
  (Option.bind (Go.Tw.ref04_checkIntervals_M b v (100000000 : Int)) fun (v0 : Int × Unit) => Option.some (v0.fst, ()))

theorem ref04_OnlyIntervals_eq (n : Nat) (x : ref04_OnlyIntervals_a.den) : runF ref04_OnlyIntervals_g (ref04_OnlyIntervals_an n) Tryz.f122 ref04_OnlyIntervals_a ref04_OnlyIntervals_r x = ref04_OnlyIntervals_m n x.1 x.2.1 := by kernel_rfl

noncomputable def ref04_OnlyIntervals_M (b : Bas) (v : List (Int × Int × Unit)) : Option (Int × Unit) := ref04_OnlyIntervals_m 0 b v

theorem ref04_OnlyIntervals_run (b : Bas) (v : List (Int × Int × Unit)) (y : Int × Unit) (h : ref04_OnlyIntervals_M b v = some y) : ∃ n, ref04_OnlyIntervals_m n b v = some y := ⟨0, h⟩
noncomputable def ref04_OnlyIntervals_e : Entry := { f := 122, args := ref04_OnlyIntervals_a, ress := ref04_OnlyIntervals_r, m := fun x => ref04_OnlyIntervals_M x.1 x.2.1 }
theorem ref04_OnlyIntervals_ok : FnOK Tryz.prog ref04_OnlyIntervals_e := fn_ok (g := ref04_OnlyIntervals_g) (fn := Tryz.f122) hmixed tabOk (eCons ref04_checkIntervals_ok eNil) (by kernel_rfl) (by kernel_rfl) (by kernel_rfl) (fun x y h => let ⟨n, hn⟩ := ref04_OnlyIntervals_run x.1 x.2.1 y h; ⟨ref04_OnlyIntervals_an n, iNil, (ref04_OnlyIntervals_eq n x).trans hn⟩)

end Go.Tw
end

section
set_option linter.all false
set_option maxRecDepth 1000000
namespace Go.Tw
open Go.Vx Go.Vx.B Go.Proofs
/-! ### tidewayref04.CheckRange -/
/-! ### basin.Safe -/
abbrev basin_Safe_a : Ty := .pair t41 (.pair t97 (.pair t108 .unit))
abbrev basin_Safe_r : Ty := .pair t4 (.pair t35 .unit)
noncomputable def basin_Safe_g : G := { T := T, E := [basin_checkEnclosed_e, basin_Basin_safe_e], muts := [], fz := [] }
def basin_Safe_k : List (List Nat) := []
noncomputable def basin_Safe_an (n : Nat) : Ann := { keep := basin_Safe_k, fuel := n, inl := [], deep := 0 }
noncomputable def basin_Safe_m (n : Nat) (b : Bas) (v : List (Int × Int × Unit)) (l : List Rng) : Option (Bool × Int × Unit) :=
  (Option.bind (Go.Tw.basin_checkEnclosed_M b v l) fun (v0 : Int × Unit) => (bif v0.fst != (0 : Int) then Option.some (Bool.false, v0.fst, ()) else (Option.bind (Go.Tw.basin_Basin_safe_M b v l) fun (v1 : Bool × Int × Unit) => Option.some (v1.fst, v1.snd.fst, ()))))

theorem basin_Safe_eq (n : Nat) (x : basin_Safe_a.den) : runF basin_Safe_g (basin_Safe_an n) Tryz.f68 basin_Safe_a basin_Safe_r x = basin_Safe_m n x.1 x.2.1 x.2.2.1 := by kernel_rfl

noncomputable def basin_Safe_M (b : Bas) (v : List (Int × Int × Unit)) (l : List Rng) : Option (Bool × Int × Unit) := basin_Safe_m 0 b v l

theorem basin_Safe_run (b : Bas) (v : List (Int × Int × Unit)) (l : List Rng) (y : Bool × Int × Unit) (h : basin_Safe_M b v l = some y) : ∃ n, basin_Safe_m n b v l = some y := ⟨0, h⟩
noncomputable def basin_Safe_e : Entry := { f := 68, args := basin_Safe_a, ress := basin_Safe_r, m := fun x => basin_Safe_M x.1 x.2.1 x.2.2.1 }
theorem basin_Safe_ok : FnOK Tryz.prog basin_Safe_e := fn_ok (g := basin_Safe_g) (fn := Tryz.f68) hmixed tabOk (eCons basin_checkEnclosed_ok (eCons basin_Basin_safe_ok eNil)) (by kernel_rfl) (by kernel_rfl) (by kernel_rfl) (fun x y h => let ⟨n, hn⟩ := basin_Safe_run x.1 x.2.1 x.2.2.1 y h; ⟨basin_Safe_an n, iNil, (basin_Safe_eq n x).trans hn⟩)

/-! ### tidewayref04.Enclose -/
abbrev ref04_Enclose_a : Ty := .pair t25 (.pair t97 (.pair t101 .unit))
abbrev ref04_Enclose_r : Ty := .pair t119 (.pair t3 .unit)
noncomputable def ref04_Enclose_g : G := { T := T, E := [ref04_ends_e, ref04_Corner_e, ref04_Run_e, ref01_First_e], muts := [13, 15], fz := [] }
def ref04_Enclose_k : List (List Nat) := [[8, 10, 13, 14], [8, 10, 13, 14, 15, 16]]
noncomputable def ref04_Enclose_an (n : Nat) : Ann := { keep := ref04_Enclose_k, fuel := n, inl := [], deep := 0 }
noncomputable def ref04_Enclose_m_l8 (n : Nat) (r7 : List (List Int) → List (List Int) → Int → List (List (Int × Int × Unit)) → Option (List (List (Int × Int × Unit)) × Int × Unit)) (r8 : List (List Int) → List (List Int) → Int → Int → List (List (Int × Int × Unit)) → List (Int × Int × Unit) → Option (List (List (Int × Int × Unit)) × Int × Unit)) (low8_8 : List (List Int)) (high10_8 : List (List Int)) (i14_8 : Int) (k16_8 : Int) (c0_8 : List (List (Int × Int × Unit))) (c1_8 : List (Int × Int × Unit)) : Option (List (List (Int × Int × Unit)) × Int × Unit) :=
  (Option.bind (Go.Vx.idx low8_8 i14_8) fun (v9 : List Int) => (bif Decidable.decide (k16_8 < (↑v9.length : Int)) then (Option.bind (Go.Vx.idx low8_8 i14_8) fun (v10 : List Int) => (Option.bind (Go.Vx.idx v10 k16_8) fun (v11 : Int) => (Option.bind (Go.Vx.idx high10_8 i14_8) fun (v12 : List Int) => (Option.bind (Go.Vx.idx v12 k16_8) fun (v13 : Int) => (bif Decidable.decide (c1_8.length + (1 : Nat) ≤ Go.Vx.memMax) then r8 low8_8 high10_8 i14_8 (Go.IntKind.i64.wrap (k16_8 + (1 : Int))) c0_8 (c1_8 ++ [(v11, v13, ())]) else none))))) else (bif Decidable.decide (c0_8.length + (1 : Nat) ≤ Go.Vx.memMax) then r7 low8_8 high10_8 (Go.IntKind.i64.wrap (i14_8 + (1 : Int))) (c0_8 ++ [c1_8]) else none)))

noncomputable def ref04_Enclose_m_w8 (n : Nat) (r7 : List (List Int) → List (List Int) → Int → List (List (Int × Int × Unit)) → Option (List (List (Int × Int × Unit)) × Int × Unit)) (k : Nat) (low8_8 : List (List Int)) (high10_8 : List (List Int)) (i14_8 : Int) (k16_8 : Int) (c0_8 : List (List (Int × Int × Unit))) (c1_8 : List (Int × Int × Unit)) : Option (List (List (Int × Int × Unit)) × Int × Unit) :=
  iter (fun r y => ref04_Enclose_m_l8 n r7 (fun low8_8 high10_8 i14_8 k16_8 c0_8 c1_8 => r ((low8_8, (high10_8, (i14_8, (k16_8, ())))), ((c0_8, (c1_8, ())), ()))) y.1.1 y.1.2.1 y.1.2.2.1 y.1.2.2.2.1 y.2.1.1 y.2.1.2.1) k ((low8_8, (high10_8, (i14_8, (k16_8, ())))), ((c0_8, (c1_8, ())), ()))

noncomputable def ref04_Enclose_m_l7 (n : Nat) (r7 : List (List Int) → List (List Int) → Int → List (List (Int × Int × Unit)) → Option (List (List (Int × Int × Unit)) × Int × Unit)) (low8_7 : List (List Int)) (high10_7 : List (List Int)) (i14_7 : Int) (c0_7 : List (List (Int × Int × Unit))) : Option (List (List (Int × Int × Unit)) × Int × Unit) :=
  (bif Decidable.decide (i14_7 < (↑low8_7.length : Int)) then (ref04_Enclose_m_w8 n r7 n (low8_7) (high10_7) (i14_7) ((0 : Int)) (c0_7) ([])) else Option.some (c0_7, (0 : Int), ()))

noncomputable def ref04_Enclose_m_w7 (n : Nat)  (k : Nat) (low8_7 : List (List Int)) (high10_7 : List (List Int)) (i14_7 : Int) (c0_7 : List (List (Int × Int × Unit))) : Option (List (List (Int × Int × Unit)) × Int × Unit) :=
  iter (fun r y => ref04_Enclose_m_l7 n (fun low8_7 high10_7 i14_7 c0_7 => r ((low8_7, (high10_7, (i14_7, ()))), ((c0_7, ()), ()))) y.1.1 y.1.2.1 y.1.2.2.1 y.2.1.1) k ((low8_7, (high10_7, (i14_7, ()))), ((c0_7, ()), ()))

noncomputable def ref04_Enclose_m (n : Nat) (b : Bas) (v : List (Int × Int × Unit)) (l : List Rng) : Option (List (List (Int × Int × Unit)) × Int × Unit) :=
  (Option.bind (Go.Tw.ref04_ends_M v Bool.false) fun (v0 : List Int × Unit) => (Option.bind (Go.Tw.ref04_Corner_M l Bool.false) fun (v1 : List Go.Tw.Cnd × Unit) => (Option.bind (Go.Tw.ref04_Run_M b v0.fst v1.fst) fun (v2 : List (List Int) × Int × Unit) => (Option.bind (Go.Tw.ref04_ends_M v Bool.true) fun (v3 : List Int × Unit) => (Option.bind (Go.Tw.ref04_Corner_M l Bool.true) fun (v4 : List Go.Tw.Cnd × Unit) => (Option.bind (Go.Tw.ref04_Run_M b v3.fst v4.fst) fun (v5 : List (List Int) × Int × Unit) => (Option.bind (Go.Tw.ref01_First_M [v2.snd.fst, v5.snd.fst]) fun (v6 : Int × Unit) => (bif v6.fst != (0 : Int) then Option.some ([], v6.fst, ()) else (ref04_Enclose_m_w7 n n (v2.fst) (v5.fst) ((0 : Int)) ([]))))))))))

theorem ref04_Enclose_eq (n : Nat) (x : ref04_Enclose_a.den) : runF ref04_Enclose_g (ref04_Enclose_an n) Tryz.f71 ref04_Enclose_a ref04_Enclose_r x = ref04_Enclose_m n x.1 x.2.1 x.2.2.1 := by kernel_rfl

noncomputable def ref04_Enclose_b8 (low8_8 : List (List Int)) (high10_8 : List (List Int)) (i14_8 : Int) (c0_8 : List (List (Int × Int × Unit))) (v9 : List Int) (k16_8 : Int) (c1_8 : List (Int × Int × Unit)) : Option (((List (List (Int × Int × Unit)) × Int × Unit) ⊕ (List (List (Int × Int × Unit)))) ⊕ (List (Int × Int × Unit))) :=
  (Option.bind (Go.Vx.idx low8_8 i14_8) fun (v10 : List Int) => (Option.bind (Go.Vx.idx v10 k16_8) fun (v11 : Int) => (Option.bind (Go.Vx.idx high10_8 i14_8) fun (v12 : List Int) => (Option.bind (Go.Vx.idx v12 k16_8) fun (v13 : Int) => (bif Decidable.decide (c1_8.length + (1 : Nat) ≤ Go.Vx.memMax) then (some (Sum.inr (c1_8 ++ [(v11, v13, ())]))) else none)))))

noncomputable def ref04_Enclose_f8 (low8_8 : List (List Int)) (high10_8 : List (List Int)) (i14_8 : Int) (c0_8 : List (List (Int × Int × Unit))) (v9 : List Int) (c1_8 : List (Int × Int × Unit)) : Option ((List (List (Int × Int × Unit)) × Int × Unit) ⊕ (List (List (Int × Int × Unit)))) :=
  (bif Decidable.decide (c0_8.length + (1 : Nat) ≤ Go.Vx.memMax) then (some (Sum.inr (c0_8 ++ [c1_8]))) else none)

theorem ref04_Enclose_m_w8_le (n : Nat) (hn : big ≤ n)  (r7 : List (List Int) → List (List Int) → Int → List (List (Int × Int × Unit)) → Option (List (List (Int × Int × Unit)) × Int × Unit)) (low8_8 : List (List Int)) (high10_8 : List (List Int)) (i14_8 : Int) (c0_8 : List (List (Int × Int × Unit))) (c1_8 : List (Int × Int × Unit)) (v9 : List Int) (h0__ : (Go.Vx.idx low8_8 i14_8) = some v9) (hx : ((↑v9.length : Int)) ≤ (9223372036854775807 : Int)) : LeF (elim some fun (s__ : (List (List (Int × Int × Unit)))) => r7 low8_8 high10_8 (Go.IntKind.i64.wrap (i14_8 + 1)) s__) (loopN (fun i__ s__ => ref04_Enclose_b8 low8_8 high10_8 i14_8 c0_8 v9 i__ s__) (fun s__ => ref04_Enclose_f8 low8_8 high10_8 i14_8 c0_8 v9 s__) (((↑v9.length : Int)) - 0).toNat 0 c1_8) (ref04_Enclose_m_w8 n r7 n low8_8 high10_8 i14_8 0 c0_8 c1_8) := by
  refine loopN_le (f := (elim some fun (s__ : (List (List (Int × Int × Unit)))) => r7 low8_8 high10_8 (Go.IntKind.i64.wrap (i14_8 + 1)) s__)) (W := fun k__ i__ s__ => ref04_Enclose_m_w8 n r7 k__ low8_8 high10_8 i14_8 i__ c0_8 s__) (body := (fun i__ s__ => ref04_Enclose_b8 low8_8 high10_8 i14_8 c0_8 v9 i__ s__)) (fin := (fun s__ => ref04_Enclose_f8 low8_8 high10_8 i14_8 c0_8 v9 s__)) (fun k__ i__ s__ => ?_) hx c1_8 n 0 (by decide) (by unfold big at hn; omega)
  show LeF _ _ (ref04_Enclose_m_l8 n r7 (ref04_Enclose_m_w8 n r7 k__) low8_8 high10_8 i14_8 i__ c0_8 s__)
  exact leAt h0__ (leCond (leBind fun v10 => (leBind fun v11 => (leBind fun v12 => (leBind fun v13 => (leCond (leSome rfl) leNone))))) (leMap (leCond (leSome rfl) leNone)))

noncomputable def ref04_Enclose_b7 (low8_7 : List (List Int)) (high10_7 : List (List Int)) (i14_7 : Int) (c0_7 : List (List (Int × Int × Unit))) : Option ((List (List (Int × Int × Unit)) × Int × Unit) ⊕ (List (List (Int × Int × Unit)))) :=
  (Option.bind (Go.Vx.idx low8_7 i14_7) fun (v9 : List Int) => (bif decide (((↑v9.length : Int)) ≤ (9223372036854775807 : Int)) then loopN (fun i__ s__ => ref04_Enclose_b8 (low8_7) (high10_7) (i14_7) (c0_7) v9 i__ s__) (fun s__ => ref04_Enclose_f8 (low8_7) (high10_7) (i14_7) (c0_7) v9 s__) (((↑v9.length : Int)) - 0).toNat 0 ([]) else none))

noncomputable def ref04_Enclose_f7 (low8_7 : List (List Int)) (high10_7 : List (List Int)) (c0_7 : List (List (Int × Int × Unit))) : Option (List (List (Int × Int × Unit)) × Int × Unit) :=
  (some ((c0_7, (0 : Int), ())))

theorem ref04_Enclose_m_w7_le (n : Nat) (hn : big ≤ n)  (low8_7 : List (List Int)) (high10_7 : List (List Int)) (c0_7 : List (List (Int × Int × Unit))) (hx : ((↑low8_7.length : Int)) ≤ (9223372036854775807 : Int)) : LeF some (loopN (fun i__ s__ => ref04_Enclose_b7 low8_7 high10_7 i__ s__) (fun s__ => ref04_Enclose_f7 low8_7 high10_7 s__) (((↑low8_7.length : Int)) - 0).toNat 0 c0_7) (ref04_Enclose_m_w7 n n low8_7 high10_7 0 c0_7) := by
  refine loopN_le (f := some) (W := fun k__ i__ s__ => ref04_Enclose_m_w7 n k__ low8_7 high10_7 i__ s__) (body := (fun i__ s__ => ref04_Enclose_b7 low8_7 high10_7 i__ s__)) (fin := (fun s__ => ref04_Enclose_f7 low8_7 high10_7 s__)) (fun k__ i__ s__ => ?_) hx c0_7 n 0 (by decide) (by unfold big at hn; omega)
  show LeF _ _ (ref04_Enclose_m_l7 n (ref04_Enclose_m_w7 n k__) low8_7 high10_7 i__ s__)
  exact leCond (leBindE fun v9 h0__ => (leGuard fun hx => by apply ref04_Enclose_m_w8_le n hn; exact h0__; exact hx)) (leMap (leSome rfl))

noncomputable def ref04_Enclose_M (b : Bas) (v : List (Int × Int × Unit)) (l : List Rng) : Option (List (List (Int × Int × Unit)) × Int × Unit) :=
  (Option.bind (Go.Tw.ref04_ends_M v Bool.false) fun (v0 : List Int × Unit) => (Option.bind (Go.Tw.ref04_Corner_M l Bool.false) fun (v1 : List Go.Tw.Cnd × Unit) => (Option.bind (Go.Tw.ref04_Run_M b v0.fst v1.fst) fun (v2 : List (List Int) × Int × Unit) => (Option.bind (Go.Tw.ref04_ends_M v Bool.true) fun (v3 : List Int × Unit) => (Option.bind (Go.Tw.ref04_Corner_M l Bool.true) fun (v4 : List Go.Tw.Cnd × Unit) => (Option.bind (Go.Tw.ref04_Run_M b v3.fst v4.fst) fun (v5 : List (List Int) × Int × Unit) => (Option.bind (Go.Tw.ref01_First_M [v2.snd.fst, v5.snd.fst]) fun (v6 : Int × Unit) => (bif v6.fst != (0 : Int) then (some (([], v6.fst, ()))) else (bif decide (((↑v2.fst.length : Int)) ≤ (9223372036854775807 : Int)) then loopN (fun i__ s__ => ref04_Enclose_b7 (v2.fst) (v5.fst) i__ s__) (fun s__ => ref04_Enclose_f7 (v2.fst) (v5.fst) s__) (((↑v2.fst.length : Int)) - 0).toNat 0 ([]) else none)))))))))

theorem ref04_Enclose_run (b : Bas) (v : List (Int × Int × Unit)) (l : List Rng) (y : List (List (Int × Int × Unit)) × Int × Unit) (h : ref04_Enclose_M b v l = some y) : ∃ n, ref04_Enclose_m n b v l = some y :=
  ⟨big, LeF.top (show LeF some (ref04_Enclose_M b v l) (ref04_Enclose_m big b v l) from (fun (n : Nat) (hn : big ≤ n) => show LeF some (ref04_Enclose_M b v l) (ref04_Enclose_m n b v l) from (leBind fun v0 => (leBind fun v1 => (leBind fun v2 => (leBind fun v3 => (leBind fun v4 => (leBind fun v5 => (leBind fun v6 => (leCond (leSome rfl) (leGuard fun hx => by apply ref04_Enclose_m_w7_le n hn; exact hx)))))))))) big (Nat.le_refl _)) h⟩
noncomputable def ref04_Enclose_e : Entry := { f := 71, args := ref04_Enclose_a, ress := ref04_Enclose_r, m := fun x => ref04_Enclose_M x.1 x.2.1 x.2.2.1 }
theorem ref04_Enclose_ok : FnOK Tryz.prog ref04_Enclose_e := fn_ok (g := ref04_Enclose_g) (fn := Tryz.f71) hmixed tabOk (eCons ref04_ends_ok (eCons ref04_Corner_ok (eCons ref04_Run_ok (eCons ref01_First_ok eNil)))) (by kernel_rfl) (by kernel_rfl) (by kernel_rfl) (fun x y h => let ⟨n, hn⟩ := ref04_Enclose_run x.1 x.2.1 x.2.2.1 y h; ⟨ref04_Enclose_an n, iNil, (ref04_Enclose_eq n x).trans hn⟩)

/-! ### tidewayref04.Safe -/
abbrev ref04_Safe_a : Ty := .pair t25 (.pair t97 (.pair t101 .unit))
abbrev ref04_Safe_r : Ty := .pair t4 (.pair t3 .unit)
noncomputable def ref04_Safe_g : G := { T := T, E := [ref04_ends_e, ref04_Corner_e, ref04_First_e], muts := [], fz := [] }
def ref04_Safe_k : List (List Nat) := []
noncomputable def ref04_Safe_an (n : Nat) : Ann := { keep := ref04_Safe_k, fuel := n, inl := [], deep := 0 }
noncomputable def ref04_Safe_m (n : Nat) (b : Bas) (v : List (Int × Int × Unit)) (l : List Rng) : Option (Bool × Int × Unit) :=
  (Option.bind (Go.Tw.ref04_ends_M v Bool.true) fun (v0 : List Int × Unit) => (Option.bind (Go.Tw.ref04_Corner_M l Bool.true) fun (v1 : List Go.Tw.Cnd × Unit) => (Option.bind (Go.Tw.ref04_First_M b v0.fst v1.fst) fun (v2 : Int × Int × Int × Unit) => (bif v2.snd.snd.fst == (7 : Int) then Option.some (Bool.true, (0 : Int), ()) else Option.some (Bool.false, v2.snd.snd.fst, ())))))

theorem ref04_Safe_eq (n : Nat) (x : ref04_Safe_a.den) : runF ref04_Safe_g (ref04_Safe_an n) Tryz.f72 ref04_Safe_a ref04_Safe_r x = ref04_Safe_m n x.1 x.2.1 x.2.2.1 := by kernel_rfl

noncomputable def ref04_Safe_M (b : Bas) (v : List (Int × Int × Unit)) (l : List Rng) : Option (Bool × Int × Unit) := ref04_Safe_m 0 b v l

theorem ref04_Safe_run (b : Bas) (v : List (Int × Int × Unit)) (l : List Rng) (y : Bool × Int × Unit) (h : ref04_Safe_M b v l = some y) : ∃ n, ref04_Safe_m n b v l = some y := ⟨0, h⟩
noncomputable def ref04_Safe_e : Entry := { f := 72, args := ref04_Safe_a, ress := ref04_Safe_r, m := fun x => ref04_Safe_M x.1 x.2.1 x.2.2.1 }
theorem ref04_Safe_ok : FnOK Tryz.prog ref04_Safe_e := fn_ok (g := ref04_Safe_g) (fn := Tryz.f72) hmixed tabOk (eCons ref04_ends_ok (eCons ref04_Corner_ok (eCons ref04_First_ok eNil))) (by kernel_rfl) (by kernel_rfl) (by kernel_rfl) (fun x y h => let ⟨n, hn⟩ := ref04_Safe_run x.1 x.2.1 x.2.2.1 y h; ⟨ref04_Safe_an n, iNil, (ref04_Safe_eq n x).trans hn⟩)

/-! ### tidewayref04.OnlyRanges -/
abbrev ref04_OnlyRanges_a : Ty := .pair t25 (.pair t101 .unit)
abbrev ref04_OnlyRanges_r : Ty := .pair t3 .unit
noncomputable def ref04_OnlyRanges_g : G := { T := T, E := [ref04_OnlyRange_e], muts := [], fz := [] }
def ref04_OnlyRanges_k : List (List Nat) := [[1, 2, 5]]
noncomputable def ref04_OnlyRanges_an (n : Nat) : Ann := { keep := ref04_OnlyRanges_k, fuel := n, inl := [], deep := 0 }
noncomputable def ref04_OnlyRanges_m_l0 (n : Nat) (r0 : List Rng → Bas → Int → Option (Int × Unit)) (l1_0 : List Rng) (b2_0 : Bas) (i5_0 : Int) : Option (Int × Unit) :=
  (bif Decidable.decide (i5_0 < (↑l1_0.length : Int)) then (Option.bind (Go.Vx.idx l1_0 i5_0) fun (v1 : Rng) => (Option.bind (Go.Tw.ref04_OnlyRange_M b2_0 v1) fun (v2 : Int × Unit) => (bif v2.fst != (0 : Int) then Option.some (v2.fst, ()) else r0 l1_0 b2_0 (Go.IntKind.i64.wrap (i5_0 + (1 : Int)))))) else Option.some ((0 : Int), ()))

noncomputable def ref04_OnlyRanges_m_w0 (n : Nat)  (k : Nat) (l1_0 : List Rng) (b2_0 : Bas) (i5_0 : Int) : Option (Int × Unit) :=
  iter (fun r y => ref04_OnlyRanges_m_l0 n (fun l1_0 b2_0 i5_0 => r ((l1_0, (b2_0, (i5_0, ()))), ((), ()))) y.1.1 y.1.2.1 y.1.2.2.1) k ((l1_0, (b2_0, (i5_0, ()))), ((), ()))

noncomputable def ref04_OnlyRanges_m (n : Nat) (b : Bas) (l : List Rng) : Option (Int × Unit) :=
  (bif Decidable.decide ((↑l.length : Int) > (96 : Int)) then Option.some ((5 : Int), ()) else (ref04_OnlyRanges_m_w0 n n (l) (b) ((0 : Int))))

theorem ref04_OnlyRanges_eq (n : Nat) (x : ref04_OnlyRanges_a.den) : runF ref04_OnlyRanges_g (ref04_OnlyRanges_an n) Tryz.f123 ref04_OnlyRanges_a ref04_OnlyRanges_r x = ref04_OnlyRanges_m n x.1 x.2.1 := by kernel_rfl

noncomputable def ref04_OnlyRanges_b0 (l1_0 : List Rng) (b2_0 : Bas) (i5_0 : Int) (v1 : Rng) : Option ((Int × Unit) ⊕ Unit) :=
  (Option.bind (Go.Tw.ref04_OnlyRange_M b2_0 v1) fun (v2 : Int × Unit) => (bif v2.fst != (0 : Int) then (some (Sum.inl ((v2.fst, ())))) else (some (Sum.inr ()))))

noncomputable def ref04_OnlyRanges_f0 (l1_0 : List Rng) (b2_0 : Bas) : Option (Int × Unit) :=
  (some (((0 : Int), ())))

theorem ref04_OnlyRanges_m_w0_le (n : Nat) (hn : big ≤ n)  (l1_0 : List Rng) (b2_0 : Bas) (hx : List.length (l1_0) < lenMax) : LeF some (loopL (fun i__ e__ s__ => ref04_OnlyRanges_b0 l1_0 b2_0 i__ e__) (fun s__ => ref04_OnlyRanges_f0 l1_0 b2_0) 0 (l1_0) ()) (ref04_OnlyRanges_m_w0 n n l1_0 b2_0 0) := by
  refine loopL_le (f := some) (W := fun k__ i__ s__ => ref04_OnlyRanges_m_w0 n k__ l1_0 b2_0 i__) (body := (fun i__ e__ s__ => ref04_OnlyRanges_b0 l1_0 b2_0 i__ e__)) (fin := (fun s__ => ref04_OnlyRanges_f0 l1_0 b2_0)) (fun k__ i__ s__ => ?_) hx () n (by unfold big at hn; unfold lenMax at hx; omega)
  show LeF _ _ (ref04_OnlyRanges_m_l0 n (ref04_OnlyRanges_m_w0 n k__) l1_0 b2_0 i__)
  exact leCond (leBind fun v1 => (leBind fun v2 => (leCond (leSome rfl) (leSome rfl)))) (leMap (leSome rfl))

noncomputable def ref04_OnlyRanges_M (b : Bas) (l : List Rng) : Option (Int × Unit) :=
  (bif Decidable.decide ((↑l.length : Int) > (96 : Int)) then (some (((5 : Int), ()))) else (bif decide (List.length (l) < lenMax) then loopL (fun i__ e__ s__ => ref04_OnlyRanges_b0 (l) (b) i__ e__) (fun s__ => ref04_OnlyRanges_f0 (l) (b)) 0 (l) () else none))

theorem ref04_OnlyRanges_run (b : Bas) (l : List Rng) (y : Int × Unit) (h : ref04_OnlyRanges_M b l = some y) : ∃ n, ref04_OnlyRanges_m n b l = some y :=
  ⟨big, LeF.top (show LeF some (ref04_OnlyRanges_M b l) (ref04_OnlyRanges_m big b l) from (fun (n : Nat) (hn : big ≤ n) => show LeF some (ref04_OnlyRanges_M b l) (ref04_OnlyRanges_m n b l) from (leCond (leSome rfl) (leGuard fun hx => by apply ref04_OnlyRanges_m_w0_le n hn; exact hx))) big (Nat.le_refl _)) h⟩
noncomputable def ref04_OnlyRanges_e : Entry := { f := 123, args := ref04_OnlyRanges_a, ress := ref04_OnlyRanges_r, m := fun x => ref04_OnlyRanges_M x.1 x.2.1 }
theorem ref04_OnlyRanges_ok : FnOK Tryz.prog ref04_OnlyRanges_e := fn_ok (g := ref04_OnlyRanges_g) (fn := Tryz.f123) hmixed tabOk (eCons ref04_OnlyRange_ok eNil) (by kernel_rfl) (by kernel_rfl) (by kernel_rfl) (fun x y h => let ⟨n, hn⟩ := ref04_OnlyRanges_run x.1 x.2.1 y h; ⟨ref04_OnlyRanges_an n, iNil, (ref04_OnlyRanges_eq n x).trans hn⟩)

end Go.Tw
end

section
set_option linter.all false
set_option maxRecDepth 1000000
namespace Go.Tw
open Go.Vx Go.Vx.B Go.Proofs
/-! ### tidewayref04.CheckEnclose -/
abbrev ref04_CheckEnclose_a : Ty := .pair t25 (.pair t97 (.pair t101 .unit))
abbrev ref04_CheckEnclose_r : Ty := .pair t3 .unit
noncomputable def ref04_CheckEnclose_g : G := { T := T, E := [ref04_CheckBasin_e, ref04_OnlyIntervals_e, ref04_OnlyRanges_e, ref01_First_e], muts := [], fz := [] }
def ref04_CheckEnclose_k : List (List Nat) := []
noncomputable def ref04_CheckEnclose_an (n : Nat) : Ann := { keep := ref04_CheckEnclose_k, fuel := n, inl := [], deep := 0 }
noncomputable def ref04_CheckEnclose_m (n : Nat) (b : Bas) (v : List (Int × Int × Unit)) (l : List Rng) : Option (Int × Unit) :=
  (Option.bind (Go.Tw.ref04_CheckBasin_M b) fun (v0 : Int × Unit) => (bif v0.fst != (0 : Int) then Option.some (v0.fst, ()) else (Option.bind (Go.Tw.ref04_OnlyIntervals_M b v) fun (v1 : Int × Unit) => (Option.bind (Go.Tw.ref04_OnlyRanges_M b l) fun (v2 : Int × Unit) => (Option.bind (Go.Tw.ref01_First_M [v1.fst, v2.fst]) fun (v3 : Int × Unit) => Option.some (v3.fst, ()))))))

theorem ref04_CheckEnclose_eq (n : Nat) (x : ref04_CheckEnclose_a.den) : runF ref04_CheckEnclose_g (ref04_CheckEnclose_an n) Tryz.f70 ref04_CheckEnclose_a ref04_CheckEnclose_r x = ref04_CheckEnclose_m n x.1 x.2.1 x.2.2.1 := by kernel_rfl

noncomputable def ref04_CheckEnclose_M (b : Bas) (v : List (Int × Int × Unit)) (l : List Rng) : Option (Int × Unit) := ref04_CheckEnclose_m 0 b v l

theorem ref04_CheckEnclose_run (b : Bas) (v : List (Int × Int × Unit)) (l : List Rng) (y : Int × Unit) (h : ref04_CheckEnclose_M b v l = some y) : ∃ n, ref04_CheckEnclose_m n b v l = some y := ⟨0, h⟩
noncomputable def ref04_CheckEnclose_e : Entry := { f := 70, args := ref04_CheckEnclose_a, ress := ref04_CheckEnclose_r, m := fun x => ref04_CheckEnclose_M x.1 x.2.1 x.2.2.1 }
theorem ref04_CheckEnclose_ok : FnOK Tryz.prog ref04_CheckEnclose_e := fn_ok (g := ref04_CheckEnclose_g) (fn := Tryz.f70) hmixed tabOk (eCons ref04_CheckBasin_ok (eCons ref04_OnlyIntervals_ok (eCons ref04_OnlyRanges_ok (eCons ref01_First_ok eNil)))) (by kernel_rfl) (by kernel_rfl) (by kernel_rfl) (fun x y h => let ⟨n, hn⟩ := ref04_CheckEnclose_run x.1 x.2.1 x.2.2.1 y h; ⟨ref04_CheckEnclose_an n, iNil, (ref04_CheckEnclose_eq n x).trans hn⟩)

/-! ### tidewayref04.CheckRanges -/
end Go.Tw
end
