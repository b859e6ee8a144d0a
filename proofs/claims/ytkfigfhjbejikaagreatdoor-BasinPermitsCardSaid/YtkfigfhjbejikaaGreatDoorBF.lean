/- Models of the program's functions, by program (gen.py), and what they compute.
Models of the program's functions, by program (gen.py), and what they compute.
Models of the program's functions, by program (gen.py), and what they compute.
Models of the program's functions, by program (gen.py), and what they compute.
Models of the program's functions, by program (gen.py), and what they compute. -/
import Derived.Test.YtkfigfhjbejikaaGreatDoorBT
import Derived.Test.YtkfigfhjbejikaaGreatDoorBA
import Derived.Test.YtkfigfhjbejikaaGreatDoorBC
import Derived.Test.YtkfigfhjbejikaaGreatDoorBD
import Derived.Test.YtkfigfhjbejikaaGreatDoorBE
import Derived.Test.YtkfigfhjbejikaaGreatDoorB16
import Derived.Test.YtkfigfhjbejikaaGreatDoorB17

section
set_option linter.all false
set_option maxRecDepth 1000000
namespace Go.Tw
open Go.Vx Go.Vx.B Go.Proofs
/-! ### tidewayref04.checkInterval -/
abbrev ref04_checkInterval_a : Ty := .pair t96 (.pair t3 (.pair t3 .unit))
abbrev ref04_checkInterval_r : Ty := .pair t3 .unit
noncomputable def ref04_checkInterval_g : G := { T := T, E := [ref01_CheckRange_e, ref01_First_e], muts := [], fz := [] }
def ref04_checkInterval_k : List (List Nat) := []
noncomputable def ref04_checkInterval_an (n : Nat) : Ann := { keep := ref04_checkInterval_k, fuel := n, inl := [], deep := 0 }
noncomputable def ref04_checkInterval_m (n : Nat) (x1 : Int × Int × Unit) (low : Int) (high : Int) : Option (Int × Unit) :=
  (Option.bind (Go.Tw.ref01_First_M [(Go.Tw.ref01_CheckRange x1.fst low high).fst, (Go.Tw.ref01_CheckRange x1.snd.fst low high).fst]) fun (v0 : Int × Unit) => (bif v0.fst != (0 : Int) then Option.some (v0.fst, ()) else (bif Decidable.decide (x1.fst > x1.snd.fst) then Option.some ((11 : Int), ()) else Option.some ((0 : Int), ()))))

theorem ref04_checkInterval_eq (n : Nat) (x : ref04_checkInterval_a.den) : runF ref04_checkInterval_g (ref04_checkInterval_an n) Tryz.f155 ref04_checkInterval_a ref04_checkInterval_r x = ref04_checkInterval_m n x.1 x.2.1 x.2.2.1 := by kernel_rfl

noncomputable def ref04_checkInterval_M (x1 : Int × Int × Unit) (low : Int) (high : Int) : Option (Int × Unit) := ref04_checkInterval_m 0 x1 low high

theorem ref04_checkInterval_run (x1 : Int × Int × Unit) (low : Int) (high : Int) (y : Int × Unit) (h : ref04_checkInterval_M x1 low high = some y) : ∃ n, ref04_checkInterval_m n x1 low high = some y := ⟨0, h⟩
noncomputable def ref04_checkInterval_e : Entry := { f := 155, args := ref04_checkInterval_a, ress := ref04_checkInterval_r, m := fun x => ref04_checkInterval_M x.1 x.2.1 x.2.2.1 }
theorem ref04_checkInterval_ok : FnOK Tryz.prog ref04_checkInterval_e := fn_ok (g := ref04_checkInterval_g) (fn := Tryz.f155) hmixed tabOk (eCons ref01_CheckRange_ok (eCons ref01_First_ok eNil)) (by kernel_rfl) (by kernel_rfl) (by kernel_rfl) (fun x y h => let ⟨n, hn⟩ := ref04_checkInterval_run x.1 x.2.1 x.2.2.1 y h; ⟨ref04_checkInterval_an n, iNil, (ref04_checkInterval_eq n x).trans hn⟩)

/-! ### (basin.Basin).safe$1 -/
/-! ### tidewayref04.ShortRanges -/
abbrev ref04_ShortRanges_a : Ty := .pair t101 .unit
abbrev ref04_ShortRanges_r : Ty := .pair t4 .unit
noncomputable def ref04_ShortRanges_g : G := { T := T, E := [], muts := [], fz := [] }
def ref04_ShortRanges_k : List (List Nat) := [[0, 3, 21, 22, 23]]
noncomputable def ref04_ShortRanges_an (n : Nat) : Ann := { keep := ref04_ShortRanges_k, fuel := n, inl := [], deep := 0 }
noncomputable def ref04_ShortRanges_m_l0 (n : Nat) (r0 : List Rng → Int → Option (Bool × Unit)) (l0_0 : List Rng) (i3_0 : Int) : Option (Bool × Unit) :=
  (bif Decidable.decide (i3_0 < (↑l0_0.length : Int)) then (Option.bind (Go.Vx.idx l0_0 i3_0) fun (v1 : Rng) => (bif Decidable.decide ((↑v1.snd.snd.fst.length : Int) > (9 : Int)) then Option.some (Bool.false, ()) else r0 l0_0 (Go.IntKind.i64.wrap (i3_0 + (1 : Int))))) else (bif Decidable.decide ((↑l0_0.length : Int) ≤ (12 : Int)) then Option.some (Bool.true, ()) else Option.some ((↑l0_0.length : Int) == (97 : Int), ())))

noncomputable def ref04_ShortRanges_m_w0 (n : Nat)  (k : Nat) (l0_0 : List Rng) (i3_0 : Int) : Option (Bool × Unit) :=
  iter (fun r y => ref04_ShortRanges_m_l0 n (fun l0_0 i3_0 => r ((l0_0, (i3_0, ())), ((), ()))) y.1.1 y.1.2.1) k ((l0_0, (i3_0, ())), ((), ()))

noncomputable def ref04_ShortRanges_m (n : Nat) (l : List Rng) : Option (Bool × Unit) :=
  (ref04_ShortRanges_m_w0 n n (l) ((0 : Int)))

theorem ref04_ShortRanges_eq (n : Nat) (x : ref04_ShortRanges_a.den) : runF ref04_ShortRanges_g (ref04_ShortRanges_an n) Tryz.f52 ref04_ShortRanges_a ref04_ShortRanges_r x = ref04_ShortRanges_m n x.1 := by kernel_rfl

noncomputable def ref04_ShortRanges_b0 (l0_0 : List Rng) (i3_0 : Int) (v1 : Rng) : Option ((Bool × Unit) ⊕ Unit) :=
  (bif Decidable.decide ((↑v1.snd.snd.fst.length : Int) > (9 : Int)) then (some (Sum.inl ((Bool.false, ())))) else (some (Sum.inr ())))

noncomputable def ref04_ShortRanges_f0 (l0_0 : List Rng) : Option (Bool × Unit) :=
  (bif Decidable.decide ((↑l0_0.length : Int) ≤ (12 : Int)) then (some ((Bool.true, ()))) else (some (((↑l0_0.length : Int) == (97 : Int), ()))))

theorem ref04_ShortRanges_m_w0_le (n : Nat) (hn : big ≤ n)  (l0_0 : List Rng) (hx : List.length (l0_0) < lenMax) : LeF some (loopL (fun i__ e__ s__ => ref04_ShortRanges_b0 l0_0 i__ e__) (fun s__ => ref04_ShortRanges_f0 l0_0) 0 (l0_0) ()) (ref04_ShortRanges_m_w0 n n l0_0 0) := by
  refine loopL_le (f := some) (W := fun k__ i__ s__ => ref04_ShortRanges_m_w0 n k__ l0_0 i__) (body := (fun i__ e__ s__ => ref04_ShortRanges_b0 l0_0 i__ e__)) (fin := (fun s__ => ref04_ShortRanges_f0 l0_0)) (fun k__ i__ s__ => ?_) hx () n (by unfold big at hn; unfold lenMax at hx; omega)
  show LeF _ _ (ref04_ShortRanges_m_l0 n (ref04_ShortRanges_m_w0 n k__) l0_0 i__)
  exact leCond (leBind fun v1 => (leCond (leSome rfl) (leSome rfl))) (leMap (leCond (leSome rfl) (leSome rfl)))

noncomputable def ref04_ShortRanges_M (l : List Rng) : Option (Bool × Unit) :=
  (bif decide (List.length (l) < lenMax) then loopL (fun i__ e__ s__ => ref04_ShortRanges_b0 (l) i__ e__) (fun s__ => ref04_ShortRanges_f0 (l)) 0 (l) () else none)

theorem ref04_ShortRanges_run (l : List Rng) (y : Bool × Unit) (h : ref04_ShortRanges_M l = some y) : ∃ n, ref04_ShortRanges_m n l = some y :=
  ⟨big, LeF.top (show LeF some (ref04_ShortRanges_M l) (ref04_ShortRanges_m big l) from (fun (n : Nat) (hn : big ≤ n) => show LeF some (ref04_ShortRanges_M l) (ref04_ShortRanges_m n l) from (leGuard fun hx => by apply ref04_ShortRanges_m_w0_le n hn; exact hx)) big (Nat.le_refl _)) h⟩
noncomputable def ref04_ShortRanges_e : Entry := { f := 52, args := ref04_ShortRanges_a, ress := ref04_ShortRanges_r, m := fun x => ref04_ShortRanges_M x.1 }
theorem ref04_ShortRanges_ok : FnOK Tryz.prog ref04_ShortRanges_e := fn_ok (g := ref04_ShortRanges_g) (fn := Tryz.f52) hmixed tabOk eNil (by kernel_rfl) (by kernel_rfl) (by kernel_rfl) (fun x y h => let ⟨n, hn⟩ := ref04_ShortRanges_run x.1 y h; ⟨ref04_ShortRanges_an n, iNil, (ref04_ShortRanges_eq n x).trans hn⟩)

/-! ### basin.Corner -/
abbrev basin_Corner_a : Ty := .pair t41 (.pair t108 (.pair t4 .unit))
abbrev basin_Corner_r : Ty := .pair t54 (.pair t35 .unit)
noncomputable def basin_Corner_g : G := { T := T, E := [basin_CheckBasin_e, basin_Basin_checkRanges_e, basin_first_e, basin_mapped_basin_Range_basin_Condition_e, basin_Range_higher_e, basin_Range_lower_e], muts := [], fz := [] }
def basin_Corner_k : List (List Nat) := []
noncomputable def basin_Corner_an (n : Nat) : Ann := { keep := basin_Corner_k, fuel := n, inl := [], deep := 0 }
noncomputable def basin_Corner_m (n : Nat) (b : Bas) (l : List Rng) (upper : Bool) : Option (List Cnd × Int × Unit) :=
  (Option.bind (Go.Tw.basin_CheckBasin_M b) fun (v0 : Int × Unit) => (Option.bind (Go.Tw.basin_Basin_checkRanges_M b l) fun (v1 : Int × Unit) => (Option.bind (Go.Tw.basin_first_M [v0.fst, v1.fst]) fun (v2 : Int × Unit) => (bif v2.fst != (0 : Int) then Option.some ([], v2.fst, ()) else (bif upper then (Option.bind (Go.Tw.basin_mapped_basin_Range_basin_Condition_M l fun (x : Rng × Unit) => Go.Tw.basin_Range_higher_M x.fst) fun (v3 : List Go.Tw.Cnd × Unit) => Option.some (v3.fst, (0 : Int), ())) else (Option.bind (Go.Tw.basin_mapped_basin_Range_basin_Condition_M l fun (x : Rng × Unit) => Go.Tw.basin_Range_lower_M x.fst) fun (v4 : List Go.Tw.Cnd × Unit) => Option.some (v4.fst, (0 : Int), ())))))))

theorem basin_Corner_eq (n : Nat) (x : basin_Corner_a.den) : runF basin_Corner_g (basin_Corner_an n) Tryz.f55 basin_Corner_a basin_Corner_r x = basin_Corner_m n x.1 x.2.1 x.2.2.1 := by kernel_rfl

noncomputable def basin_Corner_M (b : Bas) (l : List Rng) (upper : Bool) : Option (List Cnd × Int × Unit) := basin_Corner_m 0 b l upper

theorem basin_Corner_run (b : Bas) (l : List Rng) (upper : Bool) (y : List Cnd × Int × Unit) (h : basin_Corner_M b l upper = some y) : ∃ n, basin_Corner_m n b l upper = some y := ⟨0, h⟩
noncomputable def basin_Corner_e : Entry := { f := 55, args := basin_Corner_a, ress := basin_Corner_r, m := fun x => basin_Corner_M x.1 x.2.1 x.2.2.1 }
theorem basin_Corner_ok : FnOK Tryz.prog basin_Corner_e := fn_ok (g := basin_Corner_g) (fn := Tryz.f55) hmixed tabOk (eCons basin_CheckBasin_ok (eCons basin_Basin_checkRanges_ok (eCons basin_first_ok (eCons basin_mapped_basin_Range_basin_Condition_ok (eCons basin_Range_higher_ok (eCons basin_Range_lower_ok eNil)))))) (by kernel_rfl) (by kernel_rfl) (by kernel_rfl) (fun x y h => let ⟨n, hn⟩ := basin_Corner_run x.1 x.2.1 x.2.2.1 y h; ⟨basin_Corner_an n, iNil, (basin_Corner_eq n x).trans hn⟩)

/-! ### tidewayref04.CheckCondition -/
abbrev ref04_CheckCondition_a : Ty := .pair t25 (.pair t28 .unit)
abbrev ref04_CheckCondition_r : Ty := .pair t3 .unit
noncomputable def ref04_CheckCondition_g : G := { T := T, E := [ref04_CheckBasin_e, ref04_OnlyCondition_e], muts := [], fz := [] }
def ref04_CheckCondition_k : List (List Nat) := []
noncomputable def ref04_CheckCondition_an (n : Nat) : Ann := { keep := ref04_CheckCondition_k, fuel := n, inl := [], deep := 0 }
noncomputable def ref04_CheckCondition_m (n : Nat) (b : Bas) (c : Cnd) : Option (Int × Unit) :=
  (Option.bind (Go.Tw.ref04_CheckBasin_M b) fun (v0 : Int × Unit) => (bif v0.fst != (0 : Int) then Option.some (v0.fst, ()) else (Option.bind (Go.Tw.ref04_OnlyCondition_M b c) fun (v1 : Int × Unit) => Option.some (v1.fst, ()))))

theorem ref04_CheckCondition_eq (n : Nat) (x : ref04_CheckCondition_a.den) : runF ref04_CheckCondition_g (ref04_CheckCondition_an n) Tryz.f58 ref04_CheckCondition_a ref04_CheckCondition_r x = ref04_CheckCondition_m n x.1 x.2.1 := by kernel_rfl

noncomputable def ref04_CheckCondition_M (b : Bas) (c : Cnd) : Option (Int × Unit) := ref04_CheckCondition_m 0 b c

theorem ref04_CheckCondition_run (b : Bas) (c : Cnd) (y : Int × Unit) (h : ref04_CheckCondition_M b c = some y) : ∃ n, ref04_CheckCondition_m n b c = some y := ⟨0, h⟩
noncomputable def ref04_CheckCondition_e : Entry := { f := 58, args := ref04_CheckCondition_a, ress := ref04_CheckCondition_r, m := fun x => ref04_CheckCondition_M x.1 x.2.1 }
theorem ref04_CheckCondition_ok : FnOK Tryz.prog ref04_CheckCondition_e := fn_ok (g := ref04_CheckCondition_g) (fn := Tryz.f58) hmixed tabOk (eCons ref04_CheckBasin_ok (eCons ref04_OnlyCondition_ok eNil)) (by kernel_rfl) (by kernel_rfl) (by kernel_rfl) (fun x y h => let ⟨n, hn⟩ := ref04_CheckCondition_run x.1 x.2.1 y h; ⟨ref04_CheckCondition_an n, iNil, (ref04_CheckCondition_eq n x).trans hn⟩)

/-! ### slices.IndexFunc[[][]int,[]int] -/
/-! ### tidewayref04.SameCondition -/
abbrev ref04_SameCondition_a : Ty := .pair t28 (.pair t28 .unit)
abbrev ref04_SameCondition_r : Ty := .pair t4 .unit
noncomputable def ref04_SameCondition_g : G := { T := T, E := [ref01_SameInts_e], muts := [], fz := [] }
def ref04_SameCondition_k : List (List Nat) := []
noncomputable def ref04_SameCondition_an (n : Nat) : Ann := { keep := ref04_SameCondition_k, fuel := n, inl := [], deep := 0 }
noncomputable def ref04_SameCondition_m (n : Nat) (a : Cnd) (b : Cnd) : Option (Bool × Unit) :=
  (bif a.fst == b.fst then (bif a.snd.fst == b.snd.fst then (Option.bind (Go.Tw.ref01_SameInts_M a.snd.snd.fst b.snd.snd.fst) fun (v0 : Bool × Unit) => Option.some (v0.fst, ())) else Option.some (Bool.false, ())) else Option.some (Bool.false, ()))

theorem ref04_SameCondition_eq (n : Nat) (x : ref04_SameCondition_a.den) : runF ref04_SameCondition_g (ref04_SameCondition_an n) Tryz.f61 ref04_SameCondition_a ref04_SameCondition_r x = ref04_SameCondition_m n x.1 x.2.1 := by kernel_rfl

noncomputable def ref04_SameCondition_M (a : Cnd) (b : Cnd) : Option (Bool × Unit) := ref04_SameCondition_m 0 a b

theorem ref04_SameCondition_run (a : Cnd) (b : Cnd) (y : Bool × Unit) (h : ref04_SameCondition_M a b = some y) : ∃ n, ref04_SameCondition_m n a b = some y := ⟨0, h⟩
noncomputable def ref04_SameCondition_e : Entry := { f := 61, args := ref04_SameCondition_a, ress := ref04_SameCondition_r, m := fun x => ref04_SameCondition_M x.1 x.2.1 }
theorem ref04_SameCondition_ok : FnOK Tryz.prog ref04_SameCondition_e := fn_ok (g := ref04_SameCondition_g) (fn := Tryz.f61) hmixed tabOk (eCons ref01_SameInts_ok eNil) (by kernel_rfl) (by kernel_rfl) (by kernel_rfl) (fun x y h => let ⟨n, hn⟩ := ref04_SameCondition_run x.1 x.2.1 y h; ⟨ref04_SameCondition_an n, iNil, (ref04_SameCondition_eq n x).trans hn⟩)

/-! ### tidewaylaw04.own -/
abbrev law04_own_a : Ty := .pair t54 .unit
abbrev law04_own_r : Ty := .pair t33 .unit
noncomputable def law04_own_g : G := { T := T, E := [], muts := [3], fz := [] }
def law04_own_k : List (List Nat) := [[3, 6, 7, 8]]
noncomputable def law04_own_an (n : Nat) : Ann := { keep := law04_own_k, fuel := n, inl := [], deep := 0 }
noncomputable def law04_own_m_l0 (n : Nat) (r0 : List Cnd → Int → Int → List Cnd → Option (List Cnd × Unit)) (t6_0 : List Cnd) (t7_0 : Int) (t8_0 : Int) (c0_0 : List Cnd) : Option (List Cnd × Unit) :=
  (bif Decidable.decide (t8_0 < t7_0) then (Option.bind (Go.Vx.idx t6_0 t8_0) fun (v1 : Cnd) => (bif Decidable.decide (c0_0.length + (1 : Nat) ≤ Go.Vx.memMax) then r0 t6_0 t7_0 (Go.IntKind.i64.wrap (t8_0 + (1 : Int))) (c0_0 ++ [(v1.fst, v1.snd.fst, v1.snd.snd.fst, ())]) else none)) else Option.some (c0_0, ()))

noncomputable def law04_own_m_w0 (n : Nat)  (k : Nat) (t6_0 : List Cnd) (t7_0 : Int) (t8_0 : Int) (c0_0 : List Cnd) : Option (List Cnd × Unit) :=
  iter (fun r y => law04_own_m_l0 n (fun t6_0 t7_0 t8_0 c0_0 => r ((t6_0, (t7_0, (t8_0, ()))), ((c0_0, ()), ()))) y.1.1 y.1.2.1 y.1.2.2.1 y.2.1.1) k ((t6_0, (t7_0, (t8_0, ()))), ((c0_0, ()), ()))

noncomputable def law04_own_m (n : Nat) (l : List Cnd) : Option (List Cnd × Unit) :=
  (law04_own_m_w0 n n (l) ((↑l.length : Int)) ((0 : Int)) ([]))

theorem law04_own_eq (n : Nat) (x : law04_own_a.den) : runF law04_own_g (law04_own_an n) Tryz.f62 law04_own_a law04_own_r x = law04_own_m n x.1 := by kernel_rfl

noncomputable def law04_own_b0 (t6_0 : List Cnd) (t8_0 : Int) (v1 : Cnd) (c0_0 : List Cnd) : Option ((List Cnd × Unit) ⊕ (List Cnd)) :=
  (bif Decidable.decide (c0_0.length + (1 : Nat) ≤ Go.Vx.memMax) then (some (Sum.inr (c0_0 ++ [(v1.fst, v1.snd.fst, v1.snd.snd.fst, ())]))) else none)

noncomputable def law04_own_f0 (t6_0 : List Cnd) (c0_0 : List Cnd) : Option (List Cnd × Unit) :=
  (some ((c0_0, ())))

theorem law04_own_m_w0_le (n : Nat) (hn : big ≤ n)  (t6_0 : List Cnd) (c0_0 : List Cnd) (hx : List.length (t6_0) < lenMax) : LeF some (loopL (fun i__ e__ s__ => law04_own_b0 t6_0 i__ e__ s__) (fun s__ => law04_own_f0 t6_0 s__) 0 (t6_0) c0_0) (law04_own_m_w0 n n t6_0 (List.length (t6_0) : Int) 0 c0_0) := by
  refine loopL_le (f := some) (W := fun k__ i__ s__ => law04_own_m_w0 n k__ t6_0 (List.length (t6_0) : Int) i__ s__) (body := (fun i__ e__ s__ => law04_own_b0 t6_0 i__ e__ s__)) (fin := (fun s__ => law04_own_f0 t6_0 s__)) (fun k__ i__ s__ => ?_) hx c0_0 n (by unfold big at hn; unfold lenMax at hx; omega)
  show LeF _ _ (law04_own_m_l0 n (law04_own_m_w0 n k__) t6_0 (List.length (t6_0) : Int) i__ s__)
  exact leCond (leBind fun v1 => (leCond (leSome rfl) leNone)) (leMap (leSome rfl))

noncomputable def law04_own_M (l : List Cnd) : Option (List Cnd × Unit) :=
  (bif decide (List.length (l) < lenMax) then loopL (fun i__ e__ s__ => law04_own_b0 (l) i__ e__ s__) (fun s__ => law04_own_f0 (l) s__) 0 (l) ([]) else none)

theorem law04_own_run (l : List Cnd) (y : List Cnd × Unit) (h : law04_own_M l = some y) : ∃ n, law04_own_m n l = some y :=
  ⟨big, LeF.top (show LeF some (law04_own_M l) (law04_own_m big l) from (fun (n : Nat) (hn : big ≤ n) => show LeF some (law04_own_M l) (law04_own_m n l) from (leGuard fun hx => by apply law04_own_m_w0_le n hn; exact hx)) big (Nat.le_refl _)) h⟩
noncomputable def law04_own_e : Entry := { f := 62, args := law04_own_a, ress := law04_own_r, m := fun x => law04_own_M x.1 }
theorem law04_own_ok : FnOK Tryz.prog law04_own_e := fn_ok (g := law04_own_g) (fn := Tryz.f62) hmixed tabOk eNil (by kernel_rfl) (by kernel_rfl) (by kernel_rfl) (fun x y h => let ⟨n, hn⟩ := law04_own_run x.1 y h; ⟨law04_own_an n, iNil, (law04_own_eq n x).trans hn⟩)

/-! ### basin.CheckCondition -/
abbrev basin_CheckCondition_a : Ty := .pair t41 (.pair t44 .unit)
abbrev basin_CheckCondition_r : Ty := .pair t35 .unit
noncomputable def basin_CheckCondition_g : G := { T := T, E := [basin_CheckBasin_e, basin_Basin_checkCondition_e, basin_first_e], muts := [], fz := [] }
def basin_CheckCondition_k : List (List Nat) := []
noncomputable def basin_CheckCondition_an (n : Nat) : Ann := { keep := basin_CheckCondition_k, fuel := n, inl := [], deep := 0 }
noncomputable def basin_CheckCondition_m (n : Nat) (b : Bas) (c : Cnd) : Option (Int × Unit) :=
  (Option.bind (Go.Tw.basin_CheckBasin_M b) fun (v0 : Int × Unit) => (Option.bind (Go.Tw.basin_Basin_checkCondition_M b c) fun (v1 : Int × Unit) => (Option.bind (Go.Tw.basin_first_M [v0.fst, v1.fst]) fun (v2 : Int × Unit) => Option.some (v2.fst, ()))))

theorem basin_CheckCondition_eq (n : Nat) (x : basin_CheckCondition_a.den) : runF basin_CheckCondition_g (basin_CheckCondition_an n) Tryz.f63 basin_CheckCondition_a basin_CheckCondition_r x = basin_CheckCondition_m n x.1 x.2.1 := by kernel_rfl

noncomputable def basin_CheckCondition_M (b : Bas) (c : Cnd) : Option (Int × Unit) := basin_CheckCondition_m 0 b c

theorem basin_CheckCondition_run (b : Bas) (c : Cnd) (y : Int × Unit) (h : basin_CheckCondition_M b c = some y) : ∃ n, basin_CheckCondition_m n b c = some y := ⟨0, h⟩
noncomputable def basin_CheckCondition_e : Entry := { f := 63, args := basin_CheckCondition_a, ress := basin_CheckCondition_r, m := fun x => basin_CheckCondition_M x.1 x.2.1 }
theorem basin_CheckCondition_ok : FnOK Tryz.prog basin_CheckCondition_e := fn_ok (g := basin_CheckCondition_g) (fn := Tryz.f63) hmixed tabOk (eCons basin_CheckBasin_ok (eCons basin_Basin_checkCondition_ok (eCons basin_first_ok eNil))) (by kernel_rfl) (by kernel_rfl) (by kernel_rfl) (fun x y h => let ⟨n, hn⟩ := basin_CheckCondition_run x.1 x.2.1 y h; ⟨basin_CheckCondition_an n, iNil, (basin_CheckCondition_eq n x).trans hn⟩)

/-! ### basin.CheckRange -/
abbrev basin_CheckRange_a : Ty := .pair t41 (.pair t104 .unit)
abbrev basin_CheckRange_r : Ty := .pair t35 .unit
noncomputable def basin_CheckRange_g : G := { T := T, E := [basin_CheckBasin_e, basin_Basin_checkRange_e, basin_first_e], muts := [], fz := [] }
def basin_CheckRange_k : List (List Nat) := []
noncomputable def basin_CheckRange_an (n : Nat) : Ann := { keep := basin_CheckRange_k, fuel := n, inl := [], deep := 0 }
noncomputable def basin_CheckRange_m (n : Nat) (b : Bas) (r1 : Rng) : Option (Int × Unit) :=
  (Option.bind (Go.Tw.basin_CheckBasin_M b) fun (v0 : Int × Unit) => (Option.bind (Go.Tw.basin_Basin_checkRange_M b r1) fun (v1 : Int × Unit) => (Option.bind (Go.Tw.basin_first_M [v0.fst, v1.fst]) fun (v2 : Int × Unit) => Option.some (v2.fst, ()))))

theorem basin_CheckRange_eq (n : Nat) (x : basin_CheckRange_a.den) : runF basin_CheckRange_g (basin_CheckRange_an n) Tryz.f64 basin_CheckRange_a basin_CheckRange_r x = basin_CheckRange_m n x.1 x.2.1 := by kernel_rfl

noncomputable def basin_CheckRange_M (b : Bas) (r1 : Rng) : Option (Int × Unit) := basin_CheckRange_m 0 b r1

theorem basin_CheckRange_run (b : Bas) (r1 : Rng) (y : Int × Unit) (h : basin_CheckRange_M b r1 = some y) : ∃ n, basin_CheckRange_m n b r1 = some y := ⟨0, h⟩
noncomputable def basin_CheckRange_e : Entry := { f := 64, args := basin_CheckRange_a, ress := basin_CheckRange_r, m := fun x => basin_CheckRange_M x.1 x.2.1 }
theorem basin_CheckRange_ok : FnOK Tryz.prog basin_CheckRange_e := fn_ok (g := basin_CheckRange_g) (fn := Tryz.f64) hmixed tabOk (eCons basin_CheckBasin_ok (eCons basin_Basin_checkRange_ok (eCons basin_first_ok eNil))) (by kernel_rfl) (by kernel_rfl) (by kernel_rfl) (fun x y h => let ⟨n, hn⟩ := basin_CheckRange_run x.1 x.2.1 y h; ⟨basin_CheckRange_an n, iNil, (basin_CheckRange_eq n x).trans hn⟩)

/-! ### tidewaylaw04.intervals -/
abbrev law04_intervals_a : Ty := .pair t97 .unit
abbrev law04_intervals_r : Ty := .pair t97 .unit
noncomputable def law04_intervals_g : G := { T := T, E := [], muts := [3], fz := [] }
def law04_intervals_k : List (List Nat) := []
noncomputable def law04_intervals_an (n : Nat) : Ann := { keep := law04_intervals_k, fuel := n, inl := [], deep := 0 }
noncomputable def law04_intervals_m (n : Nat) (l : List (Int × Int × Unit)) : Option (List (Int × Int × Unit) × Unit) :=
  (bif Decidable.decide ((0 : Nat) + l.length ≤ Go.Vx.memMax) then Option.some (l, ()) else none)

theorem law04_intervals_eq (n : Nat) (x : law04_intervals_a.den) : runF law04_intervals_g (law04_intervals_an n) Tryz.f67 law04_intervals_a law04_intervals_r x = law04_intervals_m n x.1 := by kernel_rfl

noncomputable def law04_intervals_M (l : List (Int × Int × Unit)) : Option (List (Int × Int × Unit) × Unit) := law04_intervals_m 0 l

theorem law04_intervals_run (l : List (Int × Int × Unit)) (y : List (Int × Int × Unit) × Unit) (h : law04_intervals_M l = some y) : ∃ n, law04_intervals_m n l = some y := ⟨0, h⟩
noncomputable def law04_intervals_e : Entry := { f := 67, args := law04_intervals_a, ress := law04_intervals_r, m := fun x => law04_intervals_M x.1 }
theorem law04_intervals_ok : FnOK Tryz.prog law04_intervals_e := fn_ok (g := law04_intervals_g) (fn := Tryz.f67) hmixed tabOk eNil (by kernel_rfl) (by kernel_rfl) (by kernel_rfl) (fun x y h => let ⟨n, hn⟩ := law04_intervals_run x.1 y h; ⟨law04_intervals_an n, iNil, (law04_intervals_eq n x).trans hn⟩)

/-! ### tidewaylaw04.between -/
/-! ### tidewaylaw04.copied -/
/-! ### basin.Within$1 -/
abbrev basin_Within_1_a : Ty := .pair t96 (.pair t3 .unit)
abbrev basin_Within_1_r : Ty := .pair t4 .unit
noncomputable def basin_Within_1_g : G := { T := T, E := [], muts := [], fz := [] }
def basin_Within_1_k : List (List Nat) := []
noncomputable def basin_Within_1_an (n : Nat) : Ann := { keep := basin_Within_1_k, fuel := n, inl := [], deep := 0 }
noncomputable def basin_Within_1_m (n : Nat) (x1 : Int × Int × Unit) (n1 : Int) : Option (Bool × Unit) :=
  (bif Decidable.decide (x1.fst ≤ n1) then Option.some (Decidable.decide (n1 ≤ x1.snd.fst), ()) else Option.some (Bool.false, ()))

theorem basin_Within_1_eq (n : Nat) (x : basin_Within_1_a.den) : runF basin_Within_1_g (basin_Within_1_an n) Tryz.f107 basin_Within_1_a basin_Within_1_r x = basin_Within_1_m n x.1 x.2.1 := by kernel_rfl

noncomputable def basin_Within_1 (x1 : Int × Int × Unit) (n1 : Int) : (Bool × Unit) :=
  (bif Decidable.decide (x1.fst ≤ n1) then (Decidable.decide (n1 ≤ x1.snd.fst), ()) else (Bool.false, ()))

noncomputable abbrev basin_Within_1_M (x1 : Int × Int × Unit) (n1 : Int) : Option (Bool × Unit) := some (basin_Within_1 x1 n1)

theorem basin_Within_1_run (x1 : Int × Int × Unit) (n1 : Int) (y : Bool × Unit) (h : basin_Within_1_M x1 n1 = some y) : ∃ n, basin_Within_1_m n x1 n1 = some y :=
  ⟨0, by rw [← h]; show basin_Within_1_m 0 x1 n1 = some (basin_Within_1 x1 n1); unfold basin_Within_1_m basin_Within_1; first | rfl | (simp only [cond_some]; done) | (simp only [cond_some]; rfl)⟩
noncomputable def basin_Within_1_e : Entry := { f := 107, args := basin_Within_1_a, ress := basin_Within_1_r, m := fun x => basin_Within_1_M x.1 x.2.1 }
theorem basin_Within_1_ok : FnOK Tryz.prog basin_Within_1_e := fn_ok (g := basin_Within_1_g) (fn := Tryz.f107) hmixed tabOk eNil (by kernel_rfl) (by kernel_rfl) (by kernel_rfl) (fun x y h => let ⟨n, hn⟩ := basin_Within_1_run x.1 x.2.1 y h; ⟨basin_Within_1_an n, iNil, (basin_Within_1_eq n x).trans hn⟩)

/-! ### tidewayref04.end -/
abbrev ref04_end_a : Ty := .pair t96 (.pair t4 .unit)
abbrev ref04_end_r : Ty := .pair t3 .unit
noncomputable def ref04_end_g : G := { T := T, E := [], muts := [], fz := [] }
def ref04_end_k : List (List Nat) := []
noncomputable def ref04_end_an (n : Nat) : Ann := { keep := ref04_end_k, fuel := n, inl := [], deep := 0 }
noncomputable def ref04_end_m (n : Nat) (x1 : Int × Int × Unit) (upper : Bool) : Option (Int × Unit) :=
  (bif upper then Option.some (x1.snd.fst, ()) else Option.some (x1.fst, ()))

theorem ref04_end_eq (n : Nat) (x : ref04_end_a.den) : runF ref04_end_g (ref04_end_an n) Tryz.f113 ref04_end_a ref04_end_r x = ref04_end_m n x.1 x.2.1 := by kernel_rfl

noncomputable def ref04_end (x1 : Int × Int × Unit) (upper : Bool) : (Int × Unit) :=
  (bif upper then (x1.snd.fst, ()) else (x1.fst, ()))

noncomputable abbrev ref04_end_M (x1 : Int × Int × Unit) (upper : Bool) : Option (Int × Unit) := some (ref04_end x1 upper)

theorem ref04_end_run (x1 : Int × Int × Unit) (upper : Bool) (y : Int × Unit) (h : ref04_end_M x1 upper = some y) : ∃ n, ref04_end_m n x1 upper = some y :=
  ⟨0, by rw [← h]; show ref04_end_m 0 x1 upper = some (ref04_end x1 upper); unfold ref04_end_m ref04_end; first | rfl | (simp only [cond_some]; done) | (simp only [cond_some]; rfl)⟩
noncomputable def ref04_end_e : Entry := { f := 113, args := ref04_end_a, ress := ref04_end_r, m := fun x => ref04_end_M x.1 x.2.1 }
theorem ref04_end_ok : FnOK Tryz.prog ref04_end_e := fn_ok (g := ref04_end_g) (fn := Tryz.f113) hmixed tabOk eNil (by kernel_rfl) (by kernel_rfl) (by kernel_rfl) (fun x y h => let ⟨n, hn⟩ := ref04_end_run x.1 x.2.1 y h; ⟨ref04_end_an n, iNil, (ref04_end_eq n x).trans hn⟩)

/-! ### tidewayref04.in -/
abbrev ref04_in_a : Ty := .pair t3 (.pair t96 .unit)
abbrev ref04_in_r : Ty := .pair t4 .unit
noncomputable def ref04_in_g : G := { T := T, E := [], muts := [], fz := [] }
def ref04_in_k : List (List Nat) := []
noncomputable def ref04_in_an (n : Nat) : Ann := { keep := ref04_in_k, fuel := n, inl := [], deep := 0 }
noncomputable def ref04_in_m (n : Nat) (n1 : Int) (x1 : Int × Int × Unit) : Option (Bool × Unit) :=
  (bif Decidable.decide (x1.fst ≤ n1) then Option.some (Decidable.decide (n1 ≤ x1.snd.fst), ()) else Option.some (Bool.false, ()))

theorem ref04_in_eq (n : Nat) (x : ref04_in_a.den) : runF ref04_in_g (ref04_in_an n) Tryz.f116 ref04_in_a ref04_in_r x = ref04_in_m n x.1 x.2.1 := by kernel_rfl

noncomputable def ref04_in (n1 : Int) (x1 : Int × Int × Unit) : (Bool × Unit) :=
  (bif Decidable.decide (x1.fst ≤ n1) then (Decidable.decide (n1 ≤ x1.snd.fst), ()) else (Bool.false, ()))

noncomputable abbrev ref04_in_M (n1 : Int) (x1 : Int × Int × Unit) : Option (Bool × Unit) := some (ref04_in n1 x1)

theorem ref04_in_run (n1 : Int) (x1 : Int × Int × Unit) (y : Bool × Unit) (h : ref04_in_M n1 x1 = some y) : ∃ n, ref04_in_m n n1 x1 = some y :=
  ⟨0, by rw [← h]; show ref04_in_m 0 n1 x1 = some (ref04_in n1 x1); unfold ref04_in_m ref04_in; first | rfl | (simp only [cond_some]; done) | (simp only [cond_some]; rfl)⟩
noncomputable def ref04_in_e : Entry := { f := 116, args := ref04_in_a, ress := ref04_in_r, m := fun x => ref04_in_M x.1 x.2.1 }
theorem ref04_in_ok : FnOK Tryz.prog ref04_in_e := fn_ok (g := ref04_in_g) (fn := Tryz.f116) hmixed tabOk eNil (by kernel_rfl) (by kernel_rfl) (by kernel_rfl) (fun x y h => let ⟨n, hn⟩ := ref04_in_run x.1 x.2.1 y h; ⟨ref04_in_an n, iNil, (ref04_in_eq n x).trans hn⟩)

/-! ### tidewayref04.ClosedFrom -/
end Go.Tw
end

section
set_option linter.all false
set_option maxRecDepth 1000000
namespace Go.Tw
open Go.Vx Go.Vx.B Go.Proofs
/-! ### tidewayref04.checkIntervals -/
abbrev ref04_checkIntervals_a : Ty := .pair t25 (.pair t97 (.pair t3 .unit))
abbrev ref04_checkIntervals_r : Ty := .pair t3 .unit
noncomputable def ref04_checkIntervals_g : G := { T := T, E := [ref04_checkInterval_e], muts := [], fz := [] }
def ref04_checkIntervals_k : List (List Nat) := [[1, 2, 7]]
noncomputable def ref04_checkIntervals_an (n : Nat) : Ann := { keep := ref04_checkIntervals_k, fuel := n, inl := [], deep := 0 }
noncomputable def ref04_checkIntervals_m_l0 (n : Nat) (r0 : List (Int × Int × Unit) → Int → Int → Option (Int × Unit)) (l1_0 : List (Int × Int × Unit)) (most2_0 : Int) (i7_0 : Int) : Option (Int × Unit) :=
  (bif Decidable.decide (i7_0 < (↑l1_0.length : Int)) then (Option.bind (Go.Vx.idx l1_0 i7_0) fun (v1 : Int × Int × Unit) => (Option.bind (Go.Tw.ref04_checkInterval_M v1 (0 : Int) most2_0) fun (v2 : Int × Unit) => (bif v2.fst != (0 : Int) then Option.some (v2.fst, ()) else r0 l1_0 most2_0 (Go.IntKind.i64.wrap (i7_0 + (1 : Int)))))) else Option.some ((0 : Int), ()))

noncomputable def ref04_checkIntervals_m_w0 (n : Nat)  (k : Nat) (l1_0 : List (Int × Int × Unit)) (most2_0 : Int) (i7_0 : Int) : Option (Int × Unit) :=
  iter (fun r y => ref04_checkIntervals_m_l0 n (fun l1_0 most2_0 i7_0 => r ((l1_0, (most2_0, (i7_0, ()))), ((), ()))) y.1.1 y.1.2.1 y.1.2.2.1) k ((l1_0, (most2_0, (i7_0, ()))), ((), ()))

noncomputable def ref04_checkIntervals_m (n : Nat) (b : Bas) (l : List (Int × Int × Unit)) (most : Int) : Option (Int × Unit) :=
  (bif (↑l.length : Int) != (↑b.fst.length : Int) then Option.some ((2 : Int), ()) else (ref04_checkIntervals_m_w0 n n (l) (most) ((0 : Int))))

theorem ref04_checkIntervals_eq (n : Nat) (x : ref04_checkIntervals_a.den) : runF ref04_checkIntervals_g (ref04_checkIntervals_an n) Tryz.f156 ref04_checkIntervals_a ref04_checkIntervals_r x = ref04_checkIntervals_m n x.1 x.2.1 x.2.2.1 := by kernel_rfl

noncomputable def ref04_checkIntervals_b0 (l1_0 : List (Int × Int × Unit)) (most2_0 : Int) (i7_0 : Int) (v1 : Int × Int × Unit) : Option ((Int × Unit) ⊕ Unit) :=
  (Option.bind (Go.Tw.ref04_checkInterval_M v1 (0 : Int) most2_0) fun (v2 : Int × Unit) => (bif v2.fst != (0 : Int) then (some (Sum.inl ((v2.fst, ())))) else (some (Sum.inr ()))))

noncomputable def ref04_checkIntervals_f0 (l1_0 : List (Int × Int × Unit)) (most2_0 : Int) : Option (Int × Unit) :=
  (some (((0 : Int), ())))

theorem ref04_checkIntervals_m_w0_le (n : Nat) (hn : big ≤ n)  (l1_0 : List (Int × Int × Unit)) (most2_0 : Int) (hx : List.length (l1_0) < lenMax) : LeF some (loopL (fun i__ e__ s__ => ref04_checkIntervals_b0 l1_0 most2_0 i__ e__) (fun s__ => ref04_checkIntervals_f0 l1_0 most2_0) 0 (l1_0) ()) (ref04_checkIntervals_m_w0 n n l1_0 most2_0 0) := by
  refine loopL_le (f := some) (W := fun k__ i__ s__ => ref04_checkIntervals_m_w0 n k__ l1_0 most2_0 i__) (body := (fun i__ e__ s__ => ref04_checkIntervals_b0 l1_0 most2_0 i__ e__)) (fin := (fun s__ => ref04_checkIntervals_f0 l1_0 most2_0)) (fun k__ i__ s__ => ?_) hx () n (by unfold big at hn; unfold lenMax at hx; omega)
  show LeF _ _ (ref04_checkIntervals_m_l0 n (ref04_checkIntervals_m_w0 n k__) l1_0 most2_0 i__)
  exact leCond (leBind fun v1 => (leBind fun v2 => (leCond (leSome rfl) (leSome rfl)))) (leMap (leSome rfl))

noncomputable def ref04_checkIntervals_M (b : Bas) (l : List (Int × Int × Unit)) (most : Int) : Option (Int × Unit) :=
  (bif (↑l.length : Int) != (↑b.fst.length : Int) then (some (((2 : Int), ()))) else (bif decide (List.length (l) < lenMax) then loopL (fun i__ e__ s__ => ref04_checkIntervals_b0 (l) (most) i__ e__) (fun s__ => ref04_checkIntervals_f0 (l) (most)) 0 (l) () else none))

theorem ref04_checkIntervals_run (b : Bas) (l : List (Int × Int × Unit)) (most : Int) (y : Int × Unit) (h : ref04_checkIntervals_M b l most = some y) : ∃ n, ref04_checkIntervals_m n b l most = some y :=
  ⟨big, LeF.top (show LeF some (ref04_checkIntervals_M b l most) (ref04_checkIntervals_m big b l most) from (fun (n : Nat) (hn : big ≤ n) => show LeF some (ref04_checkIntervals_M b l most) (ref04_checkIntervals_m n b l most) from (leCond (leSome rfl) (leGuard fun hx => by apply ref04_checkIntervals_m_w0_le n hn; exact hx))) big (Nat.le_refl _)) h⟩
noncomputable def ref04_checkIntervals_e : Entry := { f := 156, args := ref04_checkIntervals_a, ress := ref04_checkIntervals_r, m := fun x => ref04_checkIntervals_M x.1 x.2.1 x.2.2.1 }
theorem ref04_checkIntervals_ok : FnOK Tryz.prog ref04_checkIntervals_e := fn_ok (g := ref04_checkIntervals_g) (fn := Tryz.f156) hmixed tabOk (eCons ref04_checkInterval_ok eNil) (by kernel_rfl) (by kernel_rfl) (by kernel_rfl) (fun x y h => let ⟨n, hn⟩ := ref04_checkIntervals_run x.1 x.2.1 x.2.2.1 y h; ⟨ref04_checkIntervals_an n, iNil, (ref04_checkIntervals_eq n x).trans hn⟩)

/-! ### slices.ContainsFunc[[][]int,[]int] -/
/-! ### basin.Within -/
abbrev basin_Within_a : Ty := .pair t41 (.pair t104 (.pair t44 .unit))
abbrev basin_Within_r : Ty := .pair t4 (.pair t35 .unit)
noncomputable def basin_Within_g : G := { T := T, E := [basin_CheckRange_e, basin_Basin_checkCondition_e, basin_first_e, basin_Within_1_e], muts := [], fz := [] }
def basin_Within_k : List (List Nat) := [[5, 9, 10, 38, 39, 40, 47, 48, 49, 50, 51, 52, 53, 54]]
noncomputable def basin_Within_an (n : Nat) : Ann := { keep := basin_Within_k, fuel := n, inl := [], deep := 0 }
noncomputable def basin_Within_m_l6 (n : Nat) (r6 : Cnd → Bool → List (Int × Int × Unit) → Int → Int → Option (Bool × Int × Unit)) (c5_6 : Cnd) (is10_6 : Bool) (t38_6 : List (Int × Int × Unit)) (t39_6 : Int) (t40_6 : Int) : Option (Bool × Int × Unit) :=
  (bif Decidable.decide (t40_6 < t39_6) then (Option.bind (Go.Vx.idx t38_6 t40_6) fun (v7 : Int × Int × Unit) => (bif is10_6 then (Option.bind (Go.Vx.idx c5_6.snd.snd.fst t40_6) fun (v8 : Int) => r6 c5_6 (Go.Tw.basin_Within_1 (v7.fst, v7.snd.fst, ()) v8).fst t38_6 t39_6 (Go.IntKind.i64.wrap (t40_6 + (1 : Int)))) else r6 c5_6 Bool.false t38_6 t39_6 (Go.IntKind.i64.wrap (t40_6 + (1 : Int))))) else Option.some (is10_6, (0 : Int), ()))

noncomputable def basin_Within_m_w6 (n : Nat)  (k : Nat) (c5_6 : Cnd) (is10_6 : Bool) (t38_6 : List (Int × Int × Unit)) (t39_6 : Int) (t40_6 : Int) : Option (Bool × Int × Unit) :=
  iter (fun r y => basin_Within_m_l6 n (fun c5_6 is10_6 t38_6 t39_6 t40_6 => r ((c5_6, ((), (is10_6, (t38_6, (t39_6, (t40_6, ())))))), ((), ()))) y.1.1 y.1.2.2.1 y.1.2.2.2.1 y.1.2.2.2.2.1 y.1.2.2.2.2.2.1) k ((c5_6, ((), (is10_6, (t38_6, (t39_6, (t40_6, ())))))), ((), ()))

noncomputable def basin_Within_m_j12 (n : Nat) (r1 : Rng) (c : Cnd) (j3 : Bool) : Option (Bool × Int × Unit) :=
  (basin_Within_m_w6 n n (c) (j3) (r1.snd.snd.fst) ((↑r1.snd.snd.fst.length : Int)) ((0 : Int)))

noncomputable def basin_Within_m (n : Nat) (b : Bas) (r1 : Rng) (c : Cnd) : Option (Bool × Int × Unit) :=
  (Option.bind (Go.Tw.basin_CheckRange_M b r1) fun (v0 : Int × Unit) => (Option.bind (Go.Tw.basin_Basin_checkCondition_M b c) fun (v1 : Int × Unit) => (Option.bind (Go.Tw.basin_first_M [v0.fst, v1.fst]) fun (v2 : Int × Unit) => (bif v2.fst != (0 : Int) then Option.some (Bool.false, v2.fst, ()) else (bif r1.snd.fst == c.snd.fst then (basin_Within_m_j12 n r1 c ((Go.Tw.basin_Within_1 r1.fst c.fst).fst)) else (basin_Within_m_j12 n r1 c (Bool.false)))))))

theorem basin_Within_eq (n : Nat) (x : basin_Within_a.den) : runF basin_Within_g (basin_Within_an n) Tryz.f53 basin_Within_a basin_Within_r x = basin_Within_m n x.1 x.2.1 x.2.2.1 := by kernel_rfl

noncomputable def basin_Within_b6 (c5_6 : Cnd) (t38_6 : List (Int × Int × Unit)) (t40_6 : Int) (v7 : Int × Int × Unit) (is10_6 : Bool) : Option ((Bool × Int × Unit) ⊕ (Bool)) :=
  (bif is10_6 then (Option.bind (Go.Vx.idx c5_6.snd.snd.fst t40_6) fun (v8 : Int) => (some (Sum.inr ((Go.Tw.basin_Within_1 (v7.fst, v7.snd.fst, ()) v8).fst)))) else (some (Sum.inr (Bool.false))))

noncomputable def basin_Within_f6 (c5_6 : Cnd) (t38_6 : List (Int × Int × Unit)) (is10_6 : Bool) : Option (Bool × Int × Unit) :=
  (some ((is10_6, (0 : Int), ())))

theorem basin_Within_m_w6_le (n : Nat) (hn : big ≤ n)  (c5_6 : Cnd) (t38_6 : List (Int × Int × Unit)) (is10_6 : Bool) (hx : List.length (t38_6) < lenMax) : LeF some (loopL (fun i__ e__ s__ => basin_Within_b6 c5_6 t38_6 i__ e__ s__) (fun s__ => basin_Within_f6 c5_6 t38_6 s__) 0 (t38_6) is10_6) (basin_Within_m_w6 n n c5_6 is10_6 t38_6 (List.length (t38_6) : Int) 0) := by
  refine loopL_le (f := some) (W := fun k__ i__ s__ => basin_Within_m_w6 n k__ c5_6 s__ t38_6 (List.length (t38_6) : Int) i__) (body := (fun i__ e__ s__ => basin_Within_b6 c5_6 t38_6 i__ e__ s__)) (fin := (fun s__ => basin_Within_f6 c5_6 t38_6 s__)) (fun k__ i__ s__ => ?_) hx is10_6 n (by unfold big at hn; unfold lenMax at hx; omega)
  show LeF _ _ (basin_Within_m_l6 n (basin_Within_m_w6 n k__) c5_6 s__ t38_6 (List.length (t38_6) : Int) i__)
  exact leCond (leBind fun v7 => (leCond (leBind fun v8 => (leSome rfl)) (leSome rfl))) (leMap (leSome rfl))

noncomputable def basin_Within_s12 (r1 : Rng) (c : Cnd) (j3 : Bool) : Option (Bool × Int × Unit) :=
  (bif decide (List.length (r1.snd.snd.fst) < lenMax) then loopL (fun i__ e__ s__ => basin_Within_b6 (c) (r1.snd.snd.fst) i__ e__ s__) (fun s__ => basin_Within_f6 (c) (r1.snd.snd.fst) s__) 0 (r1.snd.snd.fst) (j3) else none)

theorem basin_Within_s12_le (n : Nat) (hn : big ≤ n)  (r1 : Rng) (c : Cnd) (j3 : Bool) : LeF some (basin_Within_s12 r1 c j3) (basin_Within_m_j12 n r1 c j3) :=
  (leGuard fun hx => by apply basin_Within_m_w6_le n hn; exact hx)

noncomputable def basin_Within_M (b : Bas) (r1 : Rng) (c : Cnd) : Option (Bool × Int × Unit) :=
  (Option.bind (Go.Tw.basin_CheckRange_M b r1) fun (v0 : Int × Unit) => (Option.bind (Go.Tw.basin_Basin_checkCondition_M b c) fun (v1 : Int × Unit) => (Option.bind (Go.Tw.basin_first_M [v0.fst, v1.fst]) fun (v2 : Int × Unit) => (bif v2.fst != (0 : Int) then (some ((Bool.false, v2.fst, ()))) else (bif r1.snd.fst == c.snd.fst then (basin_Within_s12 r1 c ((Go.Tw.basin_Within_1 r1.fst c.fst).fst)) else (basin_Within_s12 r1 c (Bool.false)))))))

theorem basin_Within_run (b : Bas) (r1 : Rng) (c : Cnd) (y : Bool × Int × Unit) (h : basin_Within_M b r1 c = some y) : ∃ n, basin_Within_m n b r1 c = some y :=
  ⟨big, LeF.top (show LeF some (basin_Within_M b r1 c) (basin_Within_m big b r1 c) from (fun (n : Nat) (hn : big ≤ n) => show LeF some (basin_Within_M b r1 c) (basin_Within_m n b r1 c) from (leBind fun v0 => (leBind fun v1 => (leBind fun v2 => (leCond (leSome rfl) (leCond (by apply basin_Within_s12_le n hn) (by apply basin_Within_s12_le n hn))))))) big (Nat.le_refl _)) h⟩
noncomputable def basin_Within_e : Entry := { f := 53, args := basin_Within_a, ress := basin_Within_r, m := fun x => basin_Within_M x.1 x.2.1 x.2.2.1 }
theorem basin_Within_ok : FnOK Tryz.prog basin_Within_e := fn_ok (g := basin_Within_g) (fn := Tryz.f53) hmixed tabOk (eCons basin_CheckRange_ok (eCons basin_Basin_checkCondition_ok (eCons basin_first_ok (eCons basin_Within_1_ok eNil)))) (by kernel_rfl) (by kernel_rfl) (by kernel_rfl) (fun x y h => let ⟨n, hn⟩ := basin_Within_run x.1 x.2.1 x.2.2.1 y h; ⟨basin_Within_an n, iNil, (basin_Within_eq n x).trans hn⟩)

/-! ### tidewaylaw04.one -/
abbrev law04_one_a : Ty := .pair t99 .unit
abbrev law04_one_r : Ty := .pair t104 .unit
noncomputable def law04_one_g : G := { T := T, E := [law04_intervals_e], muts := [], fz := [] }
def law04_one_k : List (List Nat) := []
noncomputable def law04_one_an (n : Nat) : Ann := { keep := law04_one_k, fuel := n, inl := [], deep := 0 }
noncomputable def law04_one_m (n : Nat) (r1 : Rng) : Option (Rng × Unit) :=
  (Option.bind (Go.Tw.law04_intervals_M r1.snd.snd.fst) fun (v0 : List (Int × Int × Unit) × Unit) => Option.some (((r1.fst.fst, r1.fst.snd.fst, ()), r1.snd.fst, v0.fst, ()), ()))

theorem law04_one_eq (n : Nat) (x : law04_one_a.den) : runF law04_one_g (law04_one_an n) Tryz.f54 law04_one_a law04_one_r x = law04_one_m n x.1 := by kernel_rfl

noncomputable def law04_one_M (r1 : Rng) : Option (Rng × Unit) := law04_one_m 0 r1

theorem law04_one_run (r1 : Rng) (y : Rng × Unit) (h : law04_one_M r1 = some y) : ∃ n, law04_one_m n r1 = some y := ⟨0, h⟩
noncomputable def law04_one_e : Entry := { f := 54, args := law04_one_a, ress := law04_one_r, m := fun x => law04_one_M x.1 }
theorem law04_one_ok : FnOK Tryz.prog law04_one_e := fn_ok (g := law04_one_g) (fn := Tryz.f54) hmixed tabOk (eCons law04_intervals_ok eNil) (by kernel_rfl) (by kernel_rfl) (by kernel_rfl) (fun x y h => let ⟨n, hn⟩ := law04_one_run x.1 y h; ⟨law04_one_an n, iNil, (law04_one_eq n x).trans hn⟩)

/-! ### tidewayref04.Within -/
abbrev ref04_Within_a : Ty := .pair t99 (.pair t28 .unit)
abbrev ref04_Within_r : Ty := .pair t4 .unit
noncomputable def ref04_Within_g : G := { T := T, E := [ref04_in_e], muts := [], fz := [] }
def ref04_Within_k : List (List Nat) := [[2, 3, 5]]
noncomputable def ref04_Within_an (n : Nat) : Ann := { keep := ref04_Within_k, fuel := n, inl := [], deep := 0 }
noncomputable def ref04_Within_m_l2 (n : Nat) (r2 : Rng → Cnd → Int → Option (Bool × Unit)) (r2_2 : Rng) (c3_2 : Cnd) (i5_2 : Int) : Option (Bool × Unit) :=
  (bif Decidable.decide (i5_2 < (↑c3_2.snd.snd.fst.length : Int)) then (Option.bind (Go.Vx.idx c3_2.snd.snd.fst i5_2) fun (v3 : Int) => (Option.bind (Go.Vx.idx r2_2.snd.snd.fst i5_2) fun (v4 : Int × Int × Unit) => (bif !(Go.Tw.ref04_in v3 v4).fst then Option.some (Bool.false, ()) else r2 r2_2 c3_2 (Go.IntKind.i64.wrap (i5_2 + (1 : Int)))))) else Option.some (Bool.true, ()))

noncomputable def ref04_Within_m_w2 (n : Nat)  (k : Nat) (r2_2 : Rng) (c3_2 : Cnd) (i5_2 : Int) : Option (Bool × Unit) :=
  iter (fun r y => ref04_Within_m_l2 n (fun r2_2 c3_2 i5_2 => r ((r2_2, (c3_2, (i5_2, ()))), ((), ()))) y.1.1 y.1.2.1 y.1.2.2.1) k ((r2_2, (c3_2, (i5_2, ()))), ((), ()))

noncomputable def ref04_Within_m (n : Nat) (r1 : Rng) (c : Cnd) : Option (Bool × Unit) :=
  (bif !r1.snd.fst == c.snd.fst then Option.some (Bool.false, ()) else (bif !(Go.Tw.ref04_in c.fst r1.fst).fst then Option.some (Bool.false, ()) else (ref04_Within_m_w2 n n (r1) (c) ((0 : Int)))))

theorem ref04_Within_eq (n : Nat) (x : ref04_Within_a.den) : runF ref04_Within_g (ref04_Within_an n) Tryz.f65 ref04_Within_a ref04_Within_r x = ref04_Within_m n x.1 x.2.1 := by kernel_rfl

noncomputable def ref04_Within_b2 (r2_2 : Rng) (c3_2 : Cnd) (i5_2 : Int) (v3 : Int) : Option ((Bool × Unit) ⊕ Unit) :=
  (Option.bind (Go.Vx.idx r2_2.snd.snd.fst i5_2) fun (v4 : Int × Int × Unit) => (bif !(Go.Tw.ref04_in v3 v4).fst then (some (Sum.inl ((Bool.false, ())))) else (some (Sum.inr ()))))

noncomputable def ref04_Within_f2 (r2_2 : Rng) (c3_2 : Cnd) : Option (Bool × Unit) :=
  (some ((Bool.true, ())))

theorem ref04_Within_m_w2_le (n : Nat) (hn : big ≤ n)  (r2_2 : Rng) (c3_2 : Cnd) (hx : List.length (c3_2.snd.snd.fst) < lenMax) : LeF some (loopL (fun i__ e__ s__ => ref04_Within_b2 r2_2 c3_2 i__ e__) (fun s__ => ref04_Within_f2 r2_2 c3_2) 0 (c3_2.snd.snd.fst) ()) (ref04_Within_m_w2 n n r2_2 c3_2 0) := by
  refine loopL_le (f := some) (W := fun k__ i__ s__ => ref04_Within_m_w2 n k__ r2_2 c3_2 i__) (body := (fun i__ e__ s__ => ref04_Within_b2 r2_2 c3_2 i__ e__)) (fin := (fun s__ => ref04_Within_f2 r2_2 c3_2)) (fun k__ i__ s__ => ?_) hx () n (by unfold big at hn; unfold lenMax at hx; omega)
  show LeF _ _ (ref04_Within_m_l2 n (ref04_Within_m_w2 n k__) r2_2 c3_2 i__)
  exact leCond (leBind fun v3 => (leBind fun v4 => (leCond (leSome rfl) (leSome rfl)))) (leMap (leSome rfl))

noncomputable def ref04_Within_M (r1 : Rng) (c : Cnd) : Option (Bool × Unit) :=
  (bif !r1.snd.fst == c.snd.fst then (some ((Bool.false, ()))) else (bif !(Go.Tw.ref04_in c.fst r1.fst).fst then (some ((Bool.false, ()))) else (bif decide (List.length (c.snd.snd.fst) < lenMax) then loopL (fun i__ e__ s__ => ref04_Within_b2 (r1) (c) i__ e__) (fun s__ => ref04_Within_f2 (r1) (c)) 0 (c.snd.snd.fst) () else none)))

theorem ref04_Within_run (r1 : Rng) (c : Cnd) (y : Bool × Unit) (h : ref04_Within_M r1 c = some y) : ∃ n, ref04_Within_m n r1 c = some y :=
  ⟨big, LeF.top (show LeF some (ref04_Within_M r1 c) (ref04_Within_m big r1 c) from (fun (n : Nat) (hn : big ≤ n) => show LeF some (ref04_Within_M r1 c) (ref04_Within_m n r1 c) from (leCond (leSome rfl) (leCond (leSome rfl) (leGuard fun hx => by apply ref04_Within_m_w2_le n hn; exact hx)))) big (Nat.le_refl _)) h⟩
noncomputable def ref04_Within_e : Entry := { f := 65, args := ref04_Within_a, ress := ref04_Within_r, m := fun x => ref04_Within_M x.1 x.2.1 }
theorem ref04_Within_ok : FnOK Tryz.prog ref04_Within_e := fn_ok (g := ref04_Within_g) (fn := Tryz.f65) hmixed tabOk (eCons ref04_in_ok eNil) (by kernel_rfl) (by kernel_rfl) (by kernel_rfl) (fun x y h => let ⟨n, hn⟩ := ref04_Within_run x.1 x.2.1 y h; ⟨ref04_Within_an n, iNil, (ref04_Within_eq n x).trans hn⟩)

/-! ### tidewayref04.ends -/
abbrev ref04_ends_a : Ty := .pair t97 (.pair t4 .unit)
abbrev ref04_ends_r : Ty := .pair t26 .unit
noncomputable def ref04_ends_g : G := { T := T, E := [ref04_end_e], muts := [5], fz := [] }
def ref04_ends_k : List (List Nat) := [[0, 1, 5, 6]]
noncomputable def ref04_ends_an (n : Nat) : Ann := { keep := ref04_ends_k, fuel := n, inl := [], deep := 0 }
noncomputable def ref04_ends_m_l0 (n : Nat) (r0 : List (Int × Int × Unit) → Bool → Int → List Int → Option (List Int × Unit)) (l0_0 : List (Int × Int × Unit)) (upper1_0 : Bool) (i6_0 : Int) (c0_0 : List Int) : Option (List Int × Unit) :=
  (bif Decidable.decide (i6_0 < (↑l0_0.length : Int)) then (Option.bind (Go.Vx.idx l0_0 i6_0) fun (v1 : Int × Int × Unit) => (bif Decidable.decide (c0_0.length + (1 : Nat) ≤ Go.Vx.memMax) then r0 l0_0 upper1_0 (Go.IntKind.i64.wrap (i6_0 + (1 : Int))) (c0_0 ++ [(Go.Tw.ref04_end v1 upper1_0).fst]) else none)) else Option.some (c0_0, ()))

noncomputable def ref04_ends_m_w0 (n : Nat)  (k : Nat) (l0_0 : List (Int × Int × Unit)) (upper1_0 : Bool) (i6_0 : Int) (c0_0 : List Int) : Option (List Int × Unit) :=
  iter (fun r y => ref04_ends_m_l0 n (fun l0_0 upper1_0 i6_0 c0_0 => r ((l0_0, (upper1_0, (i6_0, ()))), ((c0_0, ()), ()))) y.1.1 y.1.2.1 y.1.2.2.1 y.2.1.1) k ((l0_0, (upper1_0, (i6_0, ()))), ((c0_0, ()), ()))

noncomputable def ref04_ends_m (n : Nat) (l : List (Int × Int × Unit)) (upper : Bool) : Option (List Int × Unit) :=
  (ref04_ends_m_w0 n n (l) (upper) ((0 : Int)) ([]))

theorem ref04_ends_eq (n : Nat) (x : ref04_ends_a.den) : runF ref04_ends_g (ref04_ends_an n) Tryz.f114 ref04_ends_a ref04_ends_r x = ref04_ends_m n x.1 x.2.1 := by kernel_rfl

noncomputable def ref04_ends_b0 (l0_0 : List (Int × Int × Unit)) (upper1_0 : Bool) (i6_0 : Int) (v1 : Int × Int × Unit) (c0_0 : List Int) : Option ((List Int × Unit) ⊕ (List Int)) :=
  (bif Decidable.decide (c0_0.length + (1 : Nat) ≤ Go.Vx.memMax) then (some (Sum.inr (c0_0 ++ [(Go.Tw.ref04_end v1 upper1_0).fst]))) else none)

noncomputable def ref04_ends_f0 (l0_0 : List (Int × Int × Unit)) (upper1_0 : Bool) (c0_0 : List Int) : Option (List Int × Unit) :=
  (some ((c0_0, ())))

theorem ref04_ends_m_w0_le (n : Nat) (hn : big ≤ n)  (l0_0 : List (Int × Int × Unit)) (upper1_0 : Bool) (c0_0 : List Int) (hx : List.length (l0_0) < lenMax) : LeF some (loopL (fun i__ e__ s__ => ref04_ends_b0 l0_0 upper1_0 i__ e__ s__) (fun s__ => ref04_ends_f0 l0_0 upper1_0 s__) 0 (l0_0) c0_0) (ref04_ends_m_w0 n n l0_0 upper1_0 0 c0_0) := by
  refine loopL_le (f := some) (W := fun k__ i__ s__ => ref04_ends_m_w0 n k__ l0_0 upper1_0 i__ s__) (body := (fun i__ e__ s__ => ref04_ends_b0 l0_0 upper1_0 i__ e__ s__)) (fin := (fun s__ => ref04_ends_f0 l0_0 upper1_0 s__)) (fun k__ i__ s__ => ?_) hx c0_0 n (by unfold big at hn; unfold lenMax at hx; omega)
  show LeF _ _ (ref04_ends_m_l0 n (ref04_ends_m_w0 n k__) l0_0 upper1_0 i__ s__)
  exact leCond (leBind fun v1 => (leCond (leSome rfl) leNone)) (leMap (leSome rfl))

noncomputable def ref04_ends_M (l : List (Int × Int × Unit)) (upper : Bool) : Option (List Int × Unit) :=
  (bif decide (List.length (l) < lenMax) then loopL (fun i__ e__ s__ => ref04_ends_b0 (l) (upper) i__ e__ s__) (fun s__ => ref04_ends_f0 (l) (upper) s__) 0 (l) ([]) else none)

theorem ref04_ends_run (l : List (Int × Int × Unit)) (upper : Bool) (y : List Int × Unit) (h : ref04_ends_M l upper = some y) : ∃ n, ref04_ends_m n l upper = some y :=
  ⟨big, LeF.top (show LeF some (ref04_ends_M l upper) (ref04_ends_m big l upper) from (fun (n : Nat) (hn : big ≤ n) => show LeF some (ref04_ends_M l upper) (ref04_ends_m n l upper) from (leGuard fun hx => by apply ref04_ends_m_w0_le n hn; exact hx)) big (Nat.le_refl _)) h⟩
noncomputable def ref04_ends_e : Entry := { f := 114, args := ref04_ends_a, ress := ref04_ends_r, m := fun x => ref04_ends_M x.1 x.2.1 }
theorem ref04_ends_ok : FnOK Tryz.prog ref04_ends_e := fn_ok (g := ref04_ends_g) (fn := Tryz.f114) hmixed tabOk (eCons ref04_end_ok eNil) (by kernel_rfl) (by kernel_rfl) (by kernel_rfl) (fun x y h => let ⟨n, hn⟩ := ref04_ends_run x.1 x.2.1 y h; ⟨ref04_ends_an n, iNil, (ref04_ends_eq n x).trans hn⟩)

end Go.Tw
end

section
set_option linter.all false
set_option maxRecDepth 1000000
namespace Go.Tw
open Go.Vx Go.Vx.B Go.Proofs
/-! ### tidewaylaw04.ranges -/
abbrev law04_ranges_a : Ty := .pair t101 .unit
abbrev law04_ranges_r : Ty := .pair t108 .unit
noncomputable def law04_ranges_g : G := { T := T, E := [law04_one_e], muts := [3], fz := [] }
def law04_ranges_k : List (List Nat) := [[3, 6, 7, 8]]
noncomputable def law04_ranges_an (n : Nat) : Ann := { keep := law04_ranges_k, fuel := n, inl := [], deep := 0 }
noncomputable def law04_ranges_m_l0 (n : Nat) (r0 : List Rng → Int → Int → List Rng → Option (List Rng × Unit)) (t6_0 : List Rng) (t7_0 : Int) (t8_0 : Int) (c0_0 : List Rng) : Option (List Rng × Unit) :=
  (bif Decidable.decide (t8_0 < t7_0) then (Option.bind (Go.Vx.idx t6_0 t8_0) fun (v1 : Rng) => (Option.bind (Go.Tw.law04_one_M ((v1.fst.fst, v1.fst.snd.fst, ()), v1.snd.fst, v1.snd.snd.fst, ())) fun (v2 : Go.Tw.Rng × Unit) => (bif Decidable.decide (c0_0.length + (1 : Nat) ≤ Go.Vx.memMax) then r0 t6_0 t7_0 (Go.IntKind.i64.wrap (t8_0 + (1 : Int))) (c0_0 ++ [v2.fst]) else none))) else Option.some (c0_0, ()))

noncomputable def law04_ranges_m_w0 (n : Nat)  (k : Nat) (t6_0 : List Rng) (t7_0 : Int) (t8_0 : Int) (c0_0 : List Rng) : Option (List Rng × Unit) :=
  iter (fun r y => law04_ranges_m_l0 n (fun t6_0 t7_0 t8_0 c0_0 => r ((t6_0, (t7_0, (t8_0, ()))), ((c0_0, ()), ()))) y.1.1 y.1.2.1 y.1.2.2.1 y.2.1.1) k ((t6_0, (t7_0, (t8_0, ()))), ((c0_0, ()), ()))

noncomputable def law04_ranges_m (n : Nat) (l : List Rng) : Option (List Rng × Unit) :=
  (law04_ranges_m_w0 n n (l) ((↑l.length : Int)) ((0 : Int)) ([]))

theorem law04_ranges_eq (n : Nat) (x : law04_ranges_a.den) : runF law04_ranges_g (law04_ranges_an n) Tryz.f56 law04_ranges_a law04_ranges_r x = law04_ranges_m n x.1 := by kernel_rfl

noncomputable def law04_ranges_b0 (t6_0 : List Rng) (t8_0 : Int) (v1 : Rng) (c0_0 : List Rng) : Option ((List Rng × Unit) ⊕ (List Rng)) :=
  (Option.bind (Go.Tw.law04_one_M ((v1.fst.fst, v1.fst.snd.fst, ()), v1.snd.fst, v1.snd.snd.fst, ())) fun (v2 : Go.Tw.Rng × Unit) => (bif Decidable.decide (c0_0.length + (1 : Nat) ≤ Go.Vx.memMax) then (some (Sum.inr (c0_0 ++ [v2.fst]))) else none))

noncomputable def law04_ranges_f0 (t6_0 : List Rng) (c0_0 : List Rng) : Option (List Rng × Unit) :=
  (some ((c0_0, ())))

theorem law04_ranges_m_w0_le (n : Nat) (hn : big ≤ n)  (t6_0 : List Rng) (c0_0 : List Rng) (hx : List.length (t6_0) < lenMax) : LeF some (loopL (fun i__ e__ s__ => law04_ranges_b0 t6_0 i__ e__ s__) (fun s__ => law04_ranges_f0 t6_0 s__) 0 (t6_0) c0_0) (law04_ranges_m_w0 n n t6_0 (List.length (t6_0) : Int) 0 c0_0) := by
  refine loopL_le (f := some) (W := fun k__ i__ s__ => law04_ranges_m_w0 n k__ t6_0 (List.length (t6_0) : Int) i__ s__) (body := (fun i__ e__ s__ => law04_ranges_b0 t6_0 i__ e__ s__)) (fin := (fun s__ => law04_ranges_f0 t6_0 s__)) (fun k__ i__ s__ => ?_) hx c0_0 n (by unfold big at hn; unfold lenMax at hx; omega)
  show LeF _ _ (law04_ranges_m_l0 n (law04_ranges_m_w0 n k__) t6_0 (List.length (t6_0) : Int) i__ s__)
  exact leCond (leBind fun v1 => (leBind fun v2 => (leCond (leSome rfl) leNone))) (leMap (leSome rfl))

noncomputable def law04_ranges_M (l : List Rng) : Option (List Rng × Unit) :=
  (bif decide (List.length (l) < lenMax) then loopL (fun i__ e__ s__ => law04_ranges_b0 (l) i__ e__ s__) (fun s__ => law04_ranges_f0 (l) s__) 0 (l) ([]) else none)

theorem law04_ranges_run (l : List Rng) (y : List Rng × Unit) (h : law04_ranges_M l = some y) : ∃ n, law04_ranges_m n l = some y :=
  ⟨big, LeF.top (show LeF some (law04_ranges_M l) (law04_ranges_m big l) from (fun (n : Nat) (hn : big ≤ n) => show LeF some (law04_ranges_M l) (law04_ranges_m n l) from (leGuard fun hx => by apply law04_ranges_m_w0_le n hn; exact hx)) big (Nat.le_refl _)) h⟩
noncomputable def law04_ranges_e : Entry := { f := 56, args := law04_ranges_a, ress := law04_ranges_r, m := fun x => law04_ranges_M x.1 }
theorem law04_ranges_ok : FnOK Tryz.prog law04_ranges_e := fn_ok (g := law04_ranges_g) (fn := Tryz.f56) hmixed tabOk (eCons law04_one_ok eNil) (by kernel_rfl) (by kernel_rfl) (by kernel_rfl) (fun x y h => let ⟨n, hn⟩ := law04_ranges_run x.1 y h; ⟨law04_ranges_an n, iNil, (law04_ranges_eq n x).trans hn⟩)

/-! ### tidewayref04.Corner -/
abbrev ref04_Corner_a : Ty := .pair t101 (.pair t4 .unit)
abbrev ref04_Corner_r : Ty := .pair t33 .unit
noncomputable def ref04_Corner_g : G := { T := T, E := [ref04_end_e, ref04_ends_e], muts := [5], fz := [] }
def ref04_Corner_k : List (List Nat) := [[0, 1, 5, 6]]
noncomputable def ref04_Corner_an (n : Nat) : Ann := { keep := ref04_Corner_k, fuel := n, inl := [], deep := 0 }
noncomputable def ref04_Corner_m_l0 (n : Nat) (r0 : List Rng → Bool → Int → List Cnd → Option (List Cnd × Unit)) (l0_0 : List Rng) (upper1_0 : Bool) (i6_0 : Int) (c0_0 : List Cnd) : Option (List Cnd × Unit) :=
  (bif Decidable.decide (i6_0 < (↑l0_0.length : Int)) then (Option.bind (Go.Vx.idx l0_0 i6_0) fun (v1 : Rng) => (Option.bind (Go.Vx.idx l0_0 i6_0) fun (v2 : Rng) => (Option.bind (Go.Vx.idx l0_0 i6_0) fun (v3 : Rng) => (Option.bind (Go.Tw.ref04_ends_M v3.snd.snd.fst upper1_0) fun (v4 : List Int × Unit) => (bif Decidable.decide (c0_0.length + (1 : Nat) ≤ Go.Vx.memMax) then r0 l0_0 upper1_0 (Go.IntKind.i64.wrap (i6_0 + (1 : Int))) (c0_0 ++ [((Go.Tw.ref04_end v1.fst upper1_0).fst, v2.snd.fst, v4.fst, ())]) else none))))) else Option.some (c0_0, ()))

noncomputable def ref04_Corner_m_w0 (n : Nat)  (k : Nat) (l0_0 : List Rng) (upper1_0 : Bool) (i6_0 : Int) (c0_0 : List Cnd) : Option (List Cnd × Unit) :=
  iter (fun r y => ref04_Corner_m_l0 n (fun l0_0 upper1_0 i6_0 c0_0 => r ((l0_0, (upper1_0, (i6_0, ()))), ((c0_0, ()), ()))) y.1.1 y.1.2.1 y.1.2.2.1 y.2.1.1) k ((l0_0, (upper1_0, (i6_0, ()))), ((c0_0, ()), ()))

noncomputable def ref04_Corner_m (n : Nat) (l : List Rng) (upper : Bool) : Option (List Cnd × Unit) :=
  (ref04_Corner_m_w0 n n (l) (upper) ((0 : Int)) ([]))

theorem ref04_Corner_eq (n : Nat) (x : ref04_Corner_a.den) : runF ref04_Corner_g (ref04_Corner_an n) Tryz.f60 ref04_Corner_a ref04_Corner_r x = ref04_Corner_m n x.1 x.2.1 := by kernel_rfl

noncomputable def ref04_Corner_b0 (l0_0 : List Rng) (upper1_0 : Bool) (i6_0 : Int) (v1 : Rng) (c0_0 : List Cnd) : Option ((List Cnd × Unit) ⊕ (List Cnd)) :=
  (Option.bind (Go.Vx.idx l0_0 i6_0) fun (v2 : Rng) => (Option.bind (Go.Vx.idx l0_0 i6_0) fun (v3 : Rng) => (Option.bind (Go.Tw.ref04_ends_M v3.snd.snd.fst upper1_0) fun (v4 : List Int × Unit) => (bif Decidable.decide (c0_0.length + (1 : Nat) ≤ Go.Vx.memMax) then (some (Sum.inr (c0_0 ++ [((Go.Tw.ref04_end v1.fst upper1_0).fst, v2.snd.fst, v4.fst, ())]))) else none))))

noncomputable def ref04_Corner_f0 (l0_0 : List Rng) (upper1_0 : Bool) (c0_0 : List Cnd) : Option (List Cnd × Unit) :=
  (some ((c0_0, ())))

theorem ref04_Corner_m_w0_le (n : Nat) (hn : big ≤ n)  (l0_0 : List Rng) (upper1_0 : Bool) (c0_0 : List Cnd) (hx : List.length (l0_0) < lenMax) : LeF some (loopL (fun i__ e__ s__ => ref04_Corner_b0 l0_0 upper1_0 i__ e__ s__) (fun s__ => ref04_Corner_f0 l0_0 upper1_0 s__) 0 (l0_0) c0_0) (ref04_Corner_m_w0 n n l0_0 upper1_0 0 c0_0) := by
  refine loopL_le (f := some) (W := fun k__ i__ s__ => ref04_Corner_m_w0 n k__ l0_0 upper1_0 i__ s__) (body := (fun i__ e__ s__ => ref04_Corner_b0 l0_0 upper1_0 i__ e__ s__)) (fin := (fun s__ => ref04_Corner_f0 l0_0 upper1_0 s__)) (fun k__ i__ s__ => ?_) hx c0_0 n (by unfold big at hn; unfold lenMax at hx; omega)
  show LeF _ _ (ref04_Corner_m_l0 n (ref04_Corner_m_w0 n k__) l0_0 upper1_0 i__ s__)
  exact leCond (leBind fun v1 => (leBind fun v2 => (leBind fun v3 => (leBind fun v4 => (leCond (leSome rfl) leNone))))) (leMap (leSome rfl))

noncomputable def ref04_Corner_M (l : List Rng) (upper : Bool) : Option (List Cnd × Unit) :=
  (bif decide (List.length (l) < lenMax) then loopL (fun i__ e__ s__ => ref04_Corner_b0 (l) (upper) i__ e__ s__) (fun s__ => ref04_Corner_f0 (l) (upper) s__) 0 (l) ([]) else none)

theorem ref04_Corner_run (l : List Rng) (upper : Bool) (y : List Cnd × Unit) (h : ref04_Corner_M l upper = some y) : ∃ n, ref04_Corner_m n l upper = some y :=
  ⟨big, LeF.top (show LeF some (ref04_Corner_M l upper) (ref04_Corner_m big l upper) from (fun (n : Nat) (hn : big ≤ n) => show LeF some (ref04_Corner_M l upper) (ref04_Corner_m n l upper) from (leGuard fun hx => by apply ref04_Corner_m_w0_le n hn; exact hx)) big (Nat.le_refl _)) h⟩
noncomputable def ref04_Corner_e : Entry := { f := 60, args := ref04_Corner_a, ress := ref04_Corner_r, m := fun x => ref04_Corner_M x.1 x.2.1 }
theorem ref04_Corner_ok : FnOK Tryz.prog ref04_Corner_e := fn_ok (g := ref04_Corner_g) (fn := Tryz.f60) hmixed tabOk (eCons ref04_end_ok (eCons ref04_ends_ok eNil)) (by kernel_rfl) (by kernel_rfl) (by kernel_rfl) (fun x y h => let ⟨n, hn⟩ := ref04_Corner_run x.1 x.2.1 y h; ⟨ref04_Corner_an n, iNil, (ref04_Corner_eq n x).trans hn⟩)

/-! ### tidewayref04.OnlyRange -/
abbrev ref04_OnlyRange_a : Ty := .pair t25 (.pair t99 .unit)
abbrev ref04_OnlyRange_r : Ty := .pair t3 .unit
noncomputable def ref04_OnlyRange_g : G := { T := T, E := [ref04_checkInterval_e, ref04_checkIntervals_e, ref01_First_e], muts := [], fz := [] }
def ref04_OnlyRange_k : List (List Nat) := []
noncomputable def ref04_OnlyRange_an (n : Nat) : Ann := { keep := ref04_OnlyRange_k, fuel := n, inl := [], deep := 0 }
noncomputable def ref04_OnlyRange_m (n : Nat) (b : Bas) (r1 : Rng) : Option (Int × Unit) :=
  (Option.bind (Go.Tw.ref04_checkInterval_M r1.fst (-1024 : Int) (1024 : Int)) fun (v0 : Int × Unit) => (Option.bind (Go.Tw.ref04_checkIntervals_M b r1.snd.snd.fst (100000 : Int)) fun (v1 : Int × Unit) => (Option.bind (Go.Tw.ref01_First_M [v0.fst, v1.fst]) fun (v2 : Int × Unit) => Option.some (v2.fst, ()))))

theorem ref04_OnlyRange_eq (n : Nat) (x : ref04_OnlyRange_a.den) : runF ref04_OnlyRange_g (ref04_OnlyRange_an n) Tryz.f112 ref04_OnlyRange_a ref04_OnlyRange_r x = ref04_OnlyRange_m n x.1 x.2.1 := by kernel_rfl

noncomputable def ref04_OnlyRange_M (b : Bas) (r1 : Rng) : Option (Int × Unit) := ref04_OnlyRange_m 0 b r1

theorem ref04_OnlyRange_run (b : Bas) (r1 : Rng) (y : Int × Unit) (h : ref04_OnlyRange_M b r1 = some y) : ∃ n, ref04_OnlyRange_m n b r1 = some y := ⟨0, h⟩
noncomputable def ref04_OnlyRange_e : Entry := { f := 112, args := ref04_OnlyRange_a, ress := ref04_OnlyRange_r, m := fun x => ref04_OnlyRange_M x.1 x.2.1 }
theorem ref04_OnlyRange_ok : FnOK Tryz.prog ref04_OnlyRange_e := fn_ok (g := ref04_OnlyRange_g) (fn := Tryz.f112) hmixed tabOk (eCons ref04_checkInterval_ok (eCons ref04_checkIntervals_ok (eCons ref01_First_ok eNil))) (by kernel_rfl) (by kernel_rfl) (by kernel_rfl) (fun x y h => let ⟨n, hn⟩ := ref04_OnlyRange_run x.1 x.2.1 y h; ⟨ref04_OnlyRange_an n, iNil, (ref04_OnlyRange_eq n x).trans hn⟩)

/-! ### (basin.Basin).safe -/
/-! ### tidewayref04.OnlyIntervals -/
end Go.Tw
end

section
set_option linter.all false
set_option maxRecDepth 1000000
namespace Go.Tw
open Go.Vx Go.Vx.B Go.Proofs
/-! ### tidewayref04.CheckRange -/
abbrev ref04_CheckRange_a : Ty := .pair t25 (.pair t99 .unit)
abbrev ref04_CheckRange_r : Ty := .pair t3 .unit
noncomputable def ref04_CheckRange_g : G := { T := T, E := [ref04_CheckBasin_e, ref04_OnlyRange_e], muts := [], fz := [] }
def ref04_CheckRange_k : List (List Nat) := []
noncomputable def ref04_CheckRange_an (n : Nat) : Ann := { keep := ref04_CheckRange_k, fuel := n, inl := [], deep := 0 }
noncomputable def ref04_CheckRange_m (n : Nat) (b : Bas) (r1 : Rng) : Option (Int × Unit) :=
  (Option.bind (Go.Tw.ref04_CheckBasin_M b) fun (v0 : Int × Unit) => (bif v0.fst != (0 : Int) then Option.some (v0.fst, ()) else (Option.bind (Go.Tw.ref04_OnlyRange_M b r1) fun (v1 : Int × Unit) => Option.some (v1.fst, ()))))

theorem ref04_CheckRange_eq (n : Nat) (x : ref04_CheckRange_a.den) : runF ref04_CheckRange_g (ref04_CheckRange_an n) Tryz.f57 ref04_CheckRange_a ref04_CheckRange_r x = ref04_CheckRange_m n x.1 x.2.1 := by kernel_rfl

noncomputable def ref04_CheckRange_M (b : Bas) (r1 : Rng) : Option (Int × Unit) := ref04_CheckRange_m 0 b r1

theorem ref04_CheckRange_run (b : Bas) (r1 : Rng) (y : Int × Unit) (h : ref04_CheckRange_M b r1 = some y) : ∃ n, ref04_CheckRange_m n b r1 = some y := ⟨0, h⟩
noncomputable def ref04_CheckRange_e : Entry := { f := 57, args := ref04_CheckRange_a, ress := ref04_CheckRange_r, m := fun x => ref04_CheckRange_M x.1 x.2.1 }
theorem ref04_CheckRange_ok : FnOK Tryz.prog ref04_CheckRange_e := fn_ok (g := ref04_CheckRange_g) (fn := Tryz.f57) hmixed tabOk (eCons ref04_CheckBasin_ok (eCons ref04_OnlyRange_ok eNil)) (by kernel_rfl) (by kernel_rfl) (by kernel_rfl) (fun x y h => let ⟨n, hn⟩ := ref04_CheckRange_run x.1 x.2.1 y h; ⟨ref04_CheckRange_an n, iNil, (ref04_CheckRange_eq n x).trans hn⟩)

/-! ### basin.Safe -/
/-! ### tidewayref04.Enclose -/
/-! ### tidewayref04.Safe -/
/-! ### tidewayref04.OnlyRanges -/
end Go.Tw
end

section
set_option linter.all false
set_option maxRecDepth 1000000
namespace Go.Tw
open Go.Vx Go.Vx.B Go.Proofs
/-! ### tidewayref04.CheckEnclose -/
/-! ### tidewayref04.CheckRanges -/
end Go.Tw
end
