/- Models of the program's functions, by program (gen.py), and what they compute. -/
import Derived.Test.YtkfigfhjbejikaaGreatDoorBT
import Derived.Test.YtkfigfhjbejikaaGreatDoorB0
import Derived.Test.YtkfigfhjbejikaaGreatDoorB1
import Derived.Test.YtkfigfhjbejikaaGreatDoorB2
set_option linter.all false
set_option maxRecDepth 1000000
namespace Go.Tw
open Go.Vx Go.Vx.B Go.Proofs
/-! ### tidewaylaw04.condition -/
abbrev law04_condition_a : Ty := .pair t28 .unit
abbrev law04_condition_r : Ty := .pair t44 .unit
noncomputable def law04_condition_g : G := { T := T, E := [law04_ints_e], muts := [], fz := [] }
def law04_condition_k : List (List Nat) := []
noncomputable def law04_condition_an (n : Nat) : Ann := { keep := law04_condition_k, fuel := n, inl := [], deep := 0 }
noncomputable def law04_condition_m (n : Nat) (c : Int × Bool × List Int × Unit) : Option ((Int × Bool × List Int × Unit) × Unit) :=
  (Option.bind (Go.Tw.law04_ints_M c.snd.snd.fst) fun (v0 : List Int × Unit) => Option.some ((c.fst, c.snd.fst, v0.fst, ()), ()))

theorem law04_condition_eq (n : Nat) (x : law04_condition_a.den) : runF law04_condition_g (law04_condition_an n) Tryz.f21 law04_condition_a law04_condition_r x = law04_condition_m n x.1 := by kernel_rfl

noncomputable def law04_condition_M (c : Int × Bool × List Int × Unit) : Option ((Int × Bool × List Int × Unit) × Unit) := law04_condition_m 0 c

theorem law04_condition_run (c : Int × Bool × List Int × Unit) (y : (Int × Bool × List Int × Unit) × Unit) (h : law04_condition_M c = some y) : ∃ n, law04_condition_m n c = some y := ⟨0, h⟩
noncomputable def law04_condition_e : Entry := { f := 21, args := law04_condition_a, ress := law04_condition_r, m := fun x => law04_condition_M x.1 }
theorem law04_condition_ok : FnOK Tryz.prog law04_condition_e := fn_ok (g := law04_condition_g) (fn := Tryz.f21) hmixed tabOk (eCons law04_ints_ok eNil) (by kernel_rfl) (by kernel_rfl) (by kernel_rfl) (fun x y h => let ⟨n, hn⟩ := law04_condition_run x.1 y h; ⟨law04_condition_an n, iNil, (law04_condition_eq n x).trans hn⟩)

/-! ### tidewayref04.OnlyVolumes -/
abbrev ref04_OnlyVolumes_a : Ty := .pair t25 (.pair t26 .unit)
abbrev ref04_OnlyVolumes_r : Ty := .pair t3 .unit
noncomputable def ref04_OnlyVolumes_g : G := { T := T, E := [ref01_CheckRange_e], muts := [], fz := [] }
def ref04_OnlyVolumes_k : List (List Nat) := [[1, 5]]
noncomputable def ref04_OnlyVolumes_an (n : Nat) : Ann := { keep := ref04_OnlyVolumes_k, fuel := n, inl := [], deep := 0 }
noncomputable def ref04_OnlyVolumes_m_l0 (n : Nat) (r0 : List Int → Int → Option (Int × Unit)) (v1_0 : List Int) (i5_0 : Int) : Option (Int × Unit) :=
  (bif Decidable.decide (i5_0 < (↑v1_0.length : Int)) then (Option.bind (Go.Vx.idx v1_0 i5_0) fun (v1 : Int) => (bif (Go.Tw.ref01_CheckRange v1 (0 : Int) (100000000 : Int)).fst != (0 : Int) then Option.some ((Go.Tw.ref01_CheckRange v1 (0 : Int) (100000000 : Int)).fst, ()) else r0 v1_0 (Go.IntKind.i64.wrap (i5_0 + (1 : Int))))) else Option.some ((0 : Int), ()))

noncomputable def ref04_OnlyVolumes_m_w0 (n : Nat)  (k : Nat) (v1_0 : List Int) (i5_0 : Int) : Option (Int × Unit) :=
  iter (fun r y => ref04_OnlyVolumes_m_l0 n (fun v1_0 i5_0 => r ((v1_0, (i5_0, ())), ((), ()))) y.1.1 y.1.2.1) k ((v1_0, (i5_0, ())), ((), ()))
theorem ref04_OnlyVolumes_m_w0_succ (n : Nat)  (k : Nat) (v1_0 : List Int) (i5_0 : Int) : ref04_OnlyVolumes_m_w0 n (k + 1) v1_0 i5_0 = ref04_OnlyVolumes_m_l0 n (ref04_OnlyVolumes_m_w0 n k) v1_0 i5_0 := rfl

noncomputable def ref04_OnlyVolumes_m (n : Nat) (b : List (List UInt8 × Int × Int × Unit) × List (List UInt8 × Int × Int × Int × Int × Unit) × Unit) (v : List Int) : Option (Int × Unit) :=
  (bif (↑v.length : Int) != (↑b.fst.length : Int) then Option.some ((2 : Int), ()) else (ref04_OnlyVolumes_m_w0 n n (v) ((0 : Int))))

theorem ref04_OnlyVolumes_eq (n : Nat) (x : ref04_OnlyVolumes_a.den) : runF ref04_OnlyVolumes_g (ref04_OnlyVolumes_an n) Tryz.f28 ref04_OnlyVolumes_a ref04_OnlyVolumes_r x = ref04_OnlyVolumes_m n x.1 x.2.1 := by kernel_rfl

noncomputable def ref04_OnlyVolumes_b0 (v1_0 : List Int) (i5_0 : Int) (v1 : Int) : Option ((Int × Unit) ⊕ Unit) :=
  (bif (Go.Tw.ref01_CheckRange v1 (0 : Int) (100000000 : Int)).fst != (0 : Int) then (some (Sum.inl (((Go.Tw.ref01_CheckRange v1 (0 : Int) (100000000 : Int)).fst, ())))) else (some (Sum.inr ())))

noncomputable def ref04_OnlyVolumes_f0 (v1_0 : List Int) : Option (Int × Unit) :=
  (some (((0 : Int), ())))

theorem ref04_OnlyVolumes_m_w0_le (n : Nat) (hn : big ≤ n)  (v1_0 : List Int) (hx : List.length (v1_0) < lenMax) : LeF some (loopL (fun i__ e__ s__ => ref04_OnlyVolumes_b0 v1_0 i__ e__) (fun s__ => ref04_OnlyVolumes_f0 v1_0) 0 (v1_0) ()) (ref04_OnlyVolumes_m_w0 n n v1_0 0) := by
  refine loopL_le (f := some) (W := fun k__ i__ s__ => ref04_OnlyVolumes_m_w0 n k__ v1_0 i__) (body := (fun i__ e__ s__ => ref04_OnlyVolumes_b0 v1_0 i__ e__)) (fin := (fun s__ => ref04_OnlyVolumes_f0 v1_0)) (fun k__ i__ s__ => ?_) hx () n (by unfold big at hn; unfold lenMax at hx; omega)
  show LeF _ _ (ref04_OnlyVolumes_m_l0 n (ref04_OnlyVolumes_m_w0 n k__) v1_0 i__)
  exact leCond (leBind fun v1 => (leCond (leSome rfl) (leSome rfl))) (leMap (leSome rfl))

noncomputable def ref04_OnlyVolumes_M (b : List (List UInt8 × Int × Int × Unit) × List (List UInt8 × Int × Int × Int × Int × Unit) × Unit) (v : List Int) : Option (Int × Unit) :=
  (bif (↑v.length : Int) != (↑b.fst.length : Int) then (some (((2 : Int), ()))) else (bif decide (List.length (v) < lenMax) then loopL (fun i__ e__ s__ => ref04_OnlyVolumes_b0 (v) i__ e__) (fun s__ => ref04_OnlyVolumes_f0 (v)) 0 (v) () else none))

theorem ref04_OnlyVolumes_run (b : List (List UInt8 × Int × Int × Unit) × List (List UInt8 × Int × Int × Int × Int × Unit) × Unit) (v : List Int) (y : Int × Unit) (h : ref04_OnlyVolumes_M b v = some y) : ∃ n, ref04_OnlyVolumes_m n b v = some y :=
  ⟨big, LeF.top (show LeF some (ref04_OnlyVolumes_M b v) (ref04_OnlyVolumes_m big b v) from (fun (n : Nat) (hn : big ≤ n) => show LeF some (ref04_OnlyVolumes_M b v) (ref04_OnlyVolumes_m n b v) from (leCond (leSome rfl) (leGuard fun hx => by apply ref04_OnlyVolumes_m_w0_le n hn; exact hx))) big (Nat.le_refl _)) h⟩
noncomputable def ref04_OnlyVolumes_e : Entry := { f := 28, args := ref04_OnlyVolumes_a, ress := ref04_OnlyVolumes_r, m := fun x => ref04_OnlyVolumes_M x.1 x.2.1 }
theorem ref04_OnlyVolumes_ok : FnOK Tryz.prog ref04_OnlyVolumes_e := fn_ok (g := ref04_OnlyVolumes_g) (fn := Tryz.f28) hmixed tabOk (eCons ref01_CheckRange_ok eNil) (by kernel_rfl) (by kernel_rfl) (by kernel_rfl) (fun x y h => let ⟨n, hn⟩ := ref04_OnlyVolumes_run x.1 x.2.1 y h; ⟨ref04_OnlyVolumes_an n, iNil, (ref04_OnlyVolumes_eq n x).trans hn⟩)

/-! ### tidewayref04.SameRows -/
abbrev ref04_SameRows_a : Ty := .pair t56 (.pair t56 .unit)
abbrev ref04_SameRows_r : Ty := .pair t4 .unit
noncomputable def ref04_SameRows_g : G := { T := T, E := [ref01_SameInts_e], muts := [], fz := [] }
def ref04_SameRows_k : List (List Nat) := [[0, 1, 5]]
noncomputable def ref04_SameRows_an (n : Nat) : Ann := { keep := ref04_SameRows_k, fuel := n, inl := [], deep := 0 }
noncomputable def ref04_SameRows_m_l0 (n : Nat) (r0 : List (List Int) → List (List Int) → Int → Option (Bool × Unit)) (a0_0 : List (List Int)) (b1_0 : List (List Int)) (i5_0 : Int) : Option (Bool × Unit) :=
  (bif Decidable.decide (i5_0 < (↑a0_0.length : Int)) then (Option.bind (Go.Vx.idx a0_0 i5_0) fun (v1 : List Int) => (Option.bind (Go.Vx.idx b1_0 i5_0) fun (v2 : List Int) => (Option.bind (Go.Tw.ref01_SameInts_M v1 v2) fun (v3 : Bool × Unit) => (bif !v3.fst then Option.some (Bool.false, ()) else r0 a0_0 b1_0 (Go.IntKind.i64.wrap (i5_0 + (1 : Int))))))) else Option.some (Bool.true, ()))

noncomputable def ref04_SameRows_m_w0 (n : Nat)  (k : Nat) (a0_0 : List (List Int)) (b1_0 : List (List Int)) (i5_0 : Int) : Option (Bool × Unit) :=
  iter (fun r y => ref04_SameRows_m_l0 n (fun a0_0 b1_0 i5_0 => r ((a0_0, (b1_0, (i5_0, ()))), ((), ()))) y.1.1 y.1.2.1 y.1.2.2.1) k ((a0_0, (b1_0, (i5_0, ()))), ((), ()))
theorem ref04_SameRows_m_w0_succ (n : Nat)  (k : Nat) (a0_0 : List (List Int)) (b1_0 : List (List Int)) (i5_0 : Int) : ref04_SameRows_m_w0 n (k + 1) a0_0 b1_0 i5_0 = ref04_SameRows_m_l0 n (ref04_SameRows_m_w0 n k) a0_0 b1_0 i5_0 := rfl

noncomputable def ref04_SameRows_m (n : Nat) (a : List (List Int)) (b : List (List Int)) : Option (Bool × Unit) :=
  (bif (↑a.length : Int) != (↑b.length : Int) then Option.some (Bool.false, ()) else (ref04_SameRows_m_w0 n n (a) (b) ((0 : Int))))

theorem ref04_SameRows_eq (n : Nat) (x : ref04_SameRows_a.den) : runF ref04_SameRows_g (ref04_SameRows_an n) Tryz.f47 ref04_SameRows_a ref04_SameRows_r x = ref04_SameRows_m n x.1 x.2.1 := by kernel_rfl

noncomputable def ref04_SameRows_b0 (a0_0 : List (List Int)) (b1_0 : List (List Int)) (i5_0 : Int) (v1 : List Int) : Option ((Bool × Unit) ⊕ Unit) :=
  (Option.bind (Go.Vx.idx b1_0 i5_0) fun (v2 : List Int) => (Option.bind (Go.Tw.ref01_SameInts_M v1 v2) fun (v3 : Bool × Unit) => (bif !v3.fst then (some (Sum.inl ((Bool.false, ())))) else (some (Sum.inr ())))))

noncomputable def ref04_SameRows_f0 (a0_0 : List (List Int)) (b1_0 : List (List Int)) : Option (Bool × Unit) :=
  (some ((Bool.true, ())))

theorem ref04_SameRows_m_w0_le (n : Nat) (hn : big ≤ n)  (a0_0 : List (List Int)) (b1_0 : List (List Int)) (hx : List.length (a0_0) < lenMax) : LeF some (loopL (fun i__ e__ s__ => ref04_SameRows_b0 a0_0 b1_0 i__ e__) (fun s__ => ref04_SameRows_f0 a0_0 b1_0) 0 (a0_0) ()) (ref04_SameRows_m_w0 n n a0_0 b1_0 0) := by
  refine loopL_le (f := some) (W := fun k__ i__ s__ => ref04_SameRows_m_w0 n k__ a0_0 b1_0 i__) (body := (fun i__ e__ s__ => ref04_SameRows_b0 a0_0 b1_0 i__ e__)) (fin := (fun s__ => ref04_SameRows_f0 a0_0 b1_0)) (fun k__ i__ s__ => ?_) hx () n (by unfold big at hn; unfold lenMax at hx; omega)
  show LeF _ _ (ref04_SameRows_m_l0 n (ref04_SameRows_m_w0 n k__) a0_0 b1_0 i__)
  exact leCond (leBind fun v1 => (leBind fun v2 => (leBind fun v3 => (leCond (leSome rfl) (leSome rfl))))) (leMap (leSome rfl))

noncomputable def ref04_SameRows_M (a : List (List Int)) (b : List (List Int)) : Option (Bool × Unit) :=
  (bif (↑a.length : Int) != (↑b.length : Int) then (some ((Bool.false, ()))) else (bif decide (List.length (a) < lenMax) then loopL (fun i__ e__ s__ => ref04_SameRows_b0 (a) (b) i__ e__) (fun s__ => ref04_SameRows_f0 (a) (b)) 0 (a) () else none))

theorem ref04_SameRows_run (a : List (List Int)) (b : List (List Int)) (y : Bool × Unit) (h : ref04_SameRows_M a b = some y) : ∃ n, ref04_SameRows_m n a b = some y :=
  ⟨big, LeF.top (show LeF some (ref04_SameRows_M a b) (ref04_SameRows_m big a b) from (fun (n : Nat) (hn : big ≤ n) => show LeF some (ref04_SameRows_M a b) (ref04_SameRows_m n a b) from (leCond (leSome rfl) (leGuard fun hx => by apply ref04_SameRows_m_w0_le n hn; exact hx))) big (Nat.le_refl _)) h⟩
noncomputable def ref04_SameRows_e : Entry := { f := 47, args := ref04_SameRows_a, ress := ref04_SameRows_r, m := fun x => ref04_SameRows_M x.1 x.2.1 }
theorem ref04_SameRows_ok : FnOK Tryz.prog ref04_SameRows_e := fn_ok (g := ref04_SameRows_g) (fn := Tryz.f47) hmixed tabOk (eCons ref01_SameInts_ok eNil) (by kernel_rfl) (by kernel_rfl) (by kernel_rfl) (fun x y h => let ⟨n, hn⟩ := ref04_SameRows_run x.1 x.2.1 y h; ⟨ref04_SameRows_an n, iNil, (ref04_SameRows_eq n x).trans hn⟩)

/-! ### tidewayref04.OnlyCondition -/
abbrev ref04_OnlyCondition_a : Ty := .pair t25 (.pair t28 .unit)
abbrev ref04_OnlyCondition_r : Ty := .pair t3 .unit
noncomputable def ref04_OnlyCondition_g : G := { T := T, E := [ref01_CheckRange_e], muts := [], fz := [] }
def ref04_OnlyCondition_k : List (List Nat) := [[3, 6]]
noncomputable def ref04_OnlyCondition_an (n : Nat) : Ann := { keep := ref04_OnlyCondition_k, fuel := n, inl := [], deep := 0 }
noncomputable def ref04_OnlyCondition_m_l0 (n : Nat) (r0 : Int × Bool × List Int × Unit → Int → Option (Int × Unit)) (c3_0 : Int × Bool × List Int × Unit) (i6_0 : Int) : Option (Int × Unit) :=
  (bif Decidable.decide (i6_0 < (↑c3_0.snd.snd.fst.length : Int)) then (Option.bind (Go.Vx.idx c3_0.snd.snd.fst i6_0) fun (v1 : Int) => (bif (Go.Tw.ref01_CheckRange v1 (0 : Int) (100000 : Int)).fst != (0 : Int) then Option.some ((Go.Tw.ref01_CheckRange v1 (0 : Int) (100000 : Int)).fst, ()) else r0 c3_0 (Go.IntKind.i64.wrap (i6_0 + (1 : Int))))) else Option.some ((0 : Int), ()))

noncomputable def ref04_OnlyCondition_m_w0 (n : Nat)  (k : Nat) (c3_0 : Int × Bool × List Int × Unit) (i6_0 : Int) : Option (Int × Unit) :=
  iter (fun r y => ref04_OnlyCondition_m_l0 n (fun c3_0 i6_0 => r ((c3_0, (i6_0, ())), ((), ()))) y.1.1 y.1.2.1) k ((c3_0, (i6_0, ())), ((), ()))
theorem ref04_OnlyCondition_m_w0_succ (n : Nat)  (k : Nat) (c3_0 : Int × Bool × List Int × Unit) (i6_0 : Int) : ref04_OnlyCondition_m_w0 n (k + 1) c3_0 i6_0 = ref04_OnlyCondition_m_l0 n (ref04_OnlyCondition_m_w0 n k) c3_0 i6_0 := rfl

noncomputable def ref04_OnlyCondition_m (n : Nat) (b : List (List UInt8 × Int × Int × Unit) × List (List UInt8 × Int × Int × Int × Int × Unit) × Unit) (c : Int × Bool × List Int × Unit) : Option (Int × Unit) :=
  (bif (Go.Tw.ref01_CheckRange c.fst (-1024 : Int) (1024 : Int)).fst != (0 : Int) then Option.some ((Go.Tw.ref01_CheckRange c.fst (-1024 : Int) (1024 : Int)).fst, ()) else (bif (↑c.snd.snd.fst.length : Int) != (↑b.fst.length : Int) then Option.some ((2 : Int), ()) else (ref04_OnlyCondition_m_w0 n n (c) ((0 : Int)))))

theorem ref04_OnlyCondition_eq (n : Nat) (x : ref04_OnlyCondition_a.den) : runF ref04_OnlyCondition_g (ref04_OnlyCondition_an n) Tryz.f59 ref04_OnlyCondition_a ref04_OnlyCondition_r x = ref04_OnlyCondition_m n x.1 x.2.1 := by kernel_rfl

noncomputable def ref04_OnlyCondition_b0 (c3_0 : Int × Bool × List Int × Unit) (i6_0 : Int) (v1 : Int) : Option ((Int × Unit) ⊕ Unit) :=
  (bif (Go.Tw.ref01_CheckRange v1 (0 : Int) (100000 : Int)).fst != (0 : Int) then (some (Sum.inl (((Go.Tw.ref01_CheckRange v1 (0 : Int) (100000 : Int)).fst, ())))) else (some (Sum.inr ())))

noncomputable def ref04_OnlyCondition_f0 (c3_0 : Int × Bool × List Int × Unit) : Option (Int × Unit) :=
  (some (((0 : Int), ())))

theorem ref04_OnlyCondition_m_w0_le (n : Nat) (hn : big ≤ n)  (c3_0 : Int × Bool × List Int × Unit) (hx : List.length (c3_0.snd.snd.fst) < lenMax) : LeF some (loopL (fun i__ e__ s__ => ref04_OnlyCondition_b0 c3_0 i__ e__) (fun s__ => ref04_OnlyCondition_f0 c3_0) 0 (c3_0.snd.snd.fst) ()) (ref04_OnlyCondition_m_w0 n n c3_0 0) := by
  refine loopL_le (f := some) (W := fun k__ i__ s__ => ref04_OnlyCondition_m_w0 n k__ c3_0 i__) (body := (fun i__ e__ s__ => ref04_OnlyCondition_b0 c3_0 i__ e__)) (fin := (fun s__ => ref04_OnlyCondition_f0 c3_0)) (fun k__ i__ s__ => ?_) hx () n (by unfold big at hn; unfold lenMax at hx; omega)
  show LeF _ _ (ref04_OnlyCondition_m_l0 n (ref04_OnlyCondition_m_w0 n k__) c3_0 i__)
  exact leCond (leBind fun v1 => (leCond (leSome rfl) (leSome rfl))) (leMap (leSome rfl))

noncomputable def ref04_OnlyCondition_M (b : List (List UInt8 × Int × Int × Unit) × List (List UInt8 × Int × Int × Int × Int × Unit) × Unit) (c : Int × Bool × List Int × Unit) : Option (Int × Unit) :=
  (bif (Go.Tw.ref01_CheckRange c.fst (-1024 : Int) (1024 : Int)).fst != (0 : Int) then (some (((Go.Tw.ref01_CheckRange c.fst (-1024 : Int) (1024 : Int)).fst, ()))) else (bif (↑c.snd.snd.fst.length : Int) != (↑b.fst.length : Int) then (some (((2 : Int), ()))) else (bif decide (List.length (c.snd.snd.fst) < lenMax) then loopL (fun i__ e__ s__ => ref04_OnlyCondition_b0 (c) i__ e__) (fun s__ => ref04_OnlyCondition_f0 (c)) 0 (c.snd.snd.fst) () else none)))

theorem ref04_OnlyCondition_run (b : List (List UInt8 × Int × Int × Unit) × List (List UInt8 × Int × Int × Int × Int × Unit) × Unit) (c : Int × Bool × List Int × Unit) (y : Int × Unit) (h : ref04_OnlyCondition_M b c = some y) : ∃ n, ref04_OnlyCondition_m n b c = some y :=
  ⟨big, LeF.top (show LeF some (ref04_OnlyCondition_M b c) (ref04_OnlyCondition_m big b c) from (fun (n : Nat) (hn : big ≤ n) => show LeF some (ref04_OnlyCondition_M b c) (ref04_OnlyCondition_m n b c) from (leCond (leSome rfl) (leCond (leSome rfl) (leGuard fun hx => by apply ref04_OnlyCondition_m_w0_le n hn; exact hx)))) big (Nat.le_refl _)) h⟩
noncomputable def ref04_OnlyCondition_e : Entry := { f := 59, args := ref04_OnlyCondition_a, ress := ref04_OnlyCondition_r, m := fun x => ref04_OnlyCondition_M x.1 x.2.1 }
theorem ref04_OnlyCondition_ok : FnOK Tryz.prog ref04_OnlyCondition_e := fn_ok (g := ref04_OnlyCondition_g) (fn := Tryz.f59) hmixed tabOk (eCons ref01_CheckRange_ok eNil) (by kernel_rfl) (by kernel_rfl) (by kernel_rfl) (fun x y h => let ⟨n, hn⟩ := ref04_OnlyCondition_run x.1 x.2.1 y h; ⟨ref04_OnlyCondition_an n, iNil, (ref04_OnlyCondition_eq n x).trans hn⟩)

/-! ### basin.within -/
abbrev basin_within_a : Ty := .pair t3 (.pair t3 (.pair t3 .unit))
abbrev basin_within_r : Ty := .pair t35 .unit
noncomputable def basin_within_g : G := { T := T, E := [basin_when_e], muts := [], fz := [] }
def basin_within_k : List (List Nat) := []
noncomputable def basin_within_an (n : Nat) : Ann := { keep := basin_within_k, fuel := n, inl := [], deep := 0 }
noncomputable def basin_within_m (n : Nat) (n1 : Int) (least : Int) (most : Int) : Option (Int × Unit) :=
  (bif Decidable.decide (n1 < least) then Option.some ((Go.Tw.basin_when Bool.true (3 : Int)).fst, ()) else Option.some ((Go.Tw.basin_when (Decidable.decide (n1 > most)) (3 : Int)).fst, ()))

theorem basin_within_eq (n : Nat) (x : basin_within_a.den) : runF basin_within_g (basin_within_an n) Tryz.f90 basin_within_a basin_within_r x = basin_within_m n x.1 x.2.1 x.2.2.1 := by kernel_rfl

noncomputable def basin_within (n1 : Int) (least : Int) (most : Int) : (Int × Unit) :=
  (bif Decidable.decide (n1 < least) then ((Go.Tw.basin_when Bool.true (3 : Int)).fst, ()) else ((Go.Tw.basin_when (Decidable.decide (n1 > most)) (3 : Int)).fst, ()))

noncomputable abbrev basin_within_M (n1 : Int) (least : Int) (most : Int) : Option (Int × Unit) := some (basin_within n1 least most)

theorem basin_within_run (n1 : Int) (least : Int) (most : Int) (y : Int × Unit) (h : basin_within_M n1 least most = some y) : ∃ n, basin_within_m n n1 least most = some y :=
  ⟨0, by rw [← h]; show basin_within_m 0 n1 least most = some (basin_within n1 least most); unfold basin_within_m basin_within; first | rfl | (simp only [cond_some]; done) | (simp only [cond_some]; rfl)⟩
noncomputable def basin_within_e : Entry := { f := 90, args := basin_within_a, ress := basin_within_r, m := fun x => basin_within_M x.1 x.2.1 x.2.2.1 }
theorem basin_within_ok : FnOK Tryz.prog basin_within_e := fn_ok (g := basin_within_g) (fn := Tryz.f90) hmixed tabOk (eCons basin_when_ok eNil) (by kernel_rfl) (by kernel_rfl) (by kernel_rfl) (fun x y h => let ⟨n, hn⟩ := basin_within_run x.1 x.2.1 x.2.2.1 y h; ⟨basin_within_an n, iNil, (basin_within_eq n x).trans hn⟩)

/-! ### tidewayref04.CheckNodes -/
abbrev ref04_CheckNodes_a : Ty := .pair t22 .unit
abbrev ref04_CheckNodes_r : Ty := .pair t3 .unit
noncomputable def ref04_CheckNodes_g : G := { T := T, E := [ref01_IsName_e, ref01_CheckRange_e, ref01_First_e], muts := [], fz := [] }
def ref04_CheckNodes_k : List (List Nat) := [[0, 3], [0, 3, 4]]
noncomputable def ref04_CheckNodes_an (n : Nat) : Ann := { keep := ref04_CheckNodes_k, fuel := n, inl := [], deep := 0 }
noncomputable def ref04_CheckNodes_m_l3 (n : Nat) (r0 : List (List UInt8 × Int × Int × Unit) → Int → Option (Int × Unit)) (r3 : List (List UInt8 × Int × Int × Unit) → Int → Int → Option (Int × Unit)) (l0_3 : List (List UInt8 × Int × Int × Unit)) (i3_3 : Int) (k4_3 : Int) : Option (Int × Unit) :=
  (bif Decidable.decide (k4_3 < i3_3) then (Option.bind (Go.Vx.idx l0_3 k4_3) fun (v4 : List UInt8 × Int × Int × Unit) => (Option.bind (Go.Vx.idx l0_3 i3_3) fun (v5 : List UInt8 × Int × Int × Unit) => (bif v4.fst == v5.fst then Option.some ((9 : Int), ()) else r3 l0_3 i3_3 (Go.IntKind.i64.wrap (k4_3 + (1 : Int)))))) else (Option.bind (Go.Vx.idx l0_3 i3_3) fun (v6 : List UInt8 × Int × Int × Unit) => (Option.bind (Go.Vx.idx l0_3 i3_3) fun (v7 : List UInt8 × Int × Int × Unit) => (Option.bind (Go.Tw.ref01_First_M [(Go.Tw.ref01_CheckRange v6.snd.fst (1 : Int) (1000 : Int)).fst, (Go.Tw.ref01_CheckRange v7.snd.snd.fst (0 : Int) (1024 : Int)).fst]) fun (v8 : Int × Unit) => (bif v8.fst != (0 : Int) then Option.some (v8.fst, ()) else r0 l0_3 (Go.IntKind.i64.wrap (i3_3 + (1 : Int))))))))

noncomputable def ref04_CheckNodes_m_w3 (n : Nat) (r0 : List (List UInt8 × Int × Int × Unit) → Int → Option (Int × Unit)) (k : Nat) (l0_3 : List (List UInt8 × Int × Int × Unit)) (i3_3 : Int) (k4_3 : Int) : Option (Int × Unit) :=
  iter (fun r y => ref04_CheckNodes_m_l3 n r0 (fun l0_3 i3_3 k4_3 => r ((l0_3, (i3_3, (k4_3, ()))), ((), ()))) y.1.1 y.1.2.1 y.1.2.2.1) k ((l0_3, (i3_3, (k4_3, ()))), ((), ()))
theorem ref04_CheckNodes_m_w3_succ (n : Nat) (r0 : List (List UInt8 × Int × Int × Unit) → Int → Option (Int × Unit)) (k : Nat) (l0_3 : List (List UInt8 × Int × Int × Unit)) (i3_3 : Int) (k4_3 : Int) : ref04_CheckNodes_m_w3 n r0 (k + 1) l0_3 i3_3 k4_3 = ref04_CheckNodes_m_l3 n r0 (ref04_CheckNodes_m_w3 n r0 k) l0_3 i3_3 k4_3 := rfl

noncomputable def ref04_CheckNodes_m_l0 (n : Nat) (r0 : List (List UInt8 × Int × Int × Unit) → Int → Option (Int × Unit)) (l0_0 : List (List UInt8 × Int × Int × Unit)) (i3_0 : Int) : Option (Int × Unit) :=
  (bif Decidable.decide (i3_0 < (↑l0_0.length : Int)) then (Option.bind (Go.Vx.idx l0_0 i3_0) fun (v1 : List UInt8 × Int × Int × Unit) => (Option.bind (Go.Tw.ref01_IsName_M v1.fst) fun (v2 : Bool × Unit) => (bif !v2.fst then Option.some ((8 : Int), ()) else (ref04_CheckNodes_m_w3 n r0 n (l0_0) (i3_0) ((0 : Int)))))) else Option.some ((0 : Int), ()))

noncomputable def ref04_CheckNodes_m_w0 (n : Nat)  (k : Nat) (l0_0 : List (List UInt8 × Int × Int × Unit)) (i3_0 : Int) : Option (Int × Unit) :=
  iter (fun r y => ref04_CheckNodes_m_l0 n (fun l0_0 i3_0 => r ((l0_0, (i3_0, ())), ((), ()))) y.1.1 y.1.2.1) k ((l0_0, (i3_0, ())), ((), ()))
theorem ref04_CheckNodes_m_w0_succ (n : Nat)  (k : Nat) (l0_0 : List (List UInt8 × Int × Int × Unit)) (i3_0 : Int) : ref04_CheckNodes_m_w0 n (k + 1) l0_0 i3_0 = ref04_CheckNodes_m_l0 n (ref04_CheckNodes_m_w0 n k) l0_0 i3_0 := rfl

noncomputable def ref04_CheckNodes_m (n : Nat) (l : List (List UInt8 × Int × Int × Unit)) : Option (Int × Unit) :=
  (bif (↑l.length : Int) == (0 : Int) then Option.some ((12 : Int), ()) else (bif Decidable.decide ((↑l.length : Int) > (8 : Int)) then Option.some ((5 : Int), ()) else (ref04_CheckNodes_m_w0 n n (l) ((0 : Int)))))

theorem ref04_CheckNodes_eq (n : Nat) (x : ref04_CheckNodes_a.den) : runF ref04_CheckNodes_g (ref04_CheckNodes_an n) Tryz.f94 ref04_CheckNodes_a ref04_CheckNodes_r x = ref04_CheckNodes_m n x.1 := by kernel_rfl

noncomputable def ref04_CheckNodes_b3 (l0_3 : List (List UInt8 × Int × Int × Unit)) (i3_3 : Int) (k4_3 : Int) : Option (((Int × Unit) ⊕ Unit) ⊕ Unit) :=
  (Option.bind (Go.Vx.idx l0_3 k4_3) fun (v4 : List UInt8 × Int × Int × Unit) => (Option.bind (Go.Vx.idx l0_3 i3_3) fun (v5 : List UInt8 × Int × Int × Unit) => (bif v4.fst == v5.fst then (some (Sum.inl (Sum.inl (((9 : Int), ()))))) else (some (Sum.inr ())))))

noncomputable def ref04_CheckNodes_f3 (l0_3 : List (List UInt8 × Int × Int × Unit)) (i3_3 : Int) : Option ((Int × Unit) ⊕ Unit) :=
  (Option.bind (Go.Vx.idx l0_3 i3_3) fun (v6 : List UInt8 × Int × Int × Unit) => (Option.bind (Go.Vx.idx l0_3 i3_3) fun (v7 : List UInt8 × Int × Int × Unit) => (Option.bind (Go.Tw.ref01_First_M [(Go.Tw.ref01_CheckRange v6.snd.fst (1 : Int) (1000 : Int)).fst, (Go.Tw.ref01_CheckRange v7.snd.snd.fst (0 : Int) (1024 : Int)).fst]) fun (v8 : Int × Unit) => (bif v8.fst != (0 : Int) then (some (Sum.inl ((v8.fst, ())))) else (some (Sum.inr ()))))))

theorem ref04_CheckNodes_m_w3_le (n : Nat) (hn : big ≤ n)  (r0 : List (List UInt8 × Int × Int × Unit) → Int → Option (Int × Unit)) (l0_3 : List (List UInt8 × Int × Int × Unit)) (i3_3 : Int) (hx : (i3_3) ≤ (9223372036854775807 : Int)) : LeF (elim some fun (s__ : Unit) => r0 l0_3 (Go.IntKind.i64.wrap (i3_3 + 1))) (loopN (fun i__ s__ => ref04_CheckNodes_b3 l0_3 i3_3 i__) (fun s__ => ref04_CheckNodes_f3 l0_3 i3_3) ((i3_3) - 0).toNat 0 ()) (ref04_CheckNodes_m_w3 n r0 n l0_3 i3_3 0) := by
  refine loopN_le (f := (elim some fun (s__ : Unit) => r0 l0_3 (Go.IntKind.i64.wrap (i3_3 + 1)))) (W := fun k__ i__ s__ => ref04_CheckNodes_m_w3 n r0 k__ l0_3 i3_3 i__) (body := (fun i__ s__ => ref04_CheckNodes_b3 l0_3 i3_3 i__)) (fin := (fun s__ => ref04_CheckNodes_f3 l0_3 i3_3)) (fun k__ i__ s__ => ?_) hx () n 0 (by decide) (by unfold big at hn; omega)
  show LeF _ _ (ref04_CheckNodes_m_l3 n r0 (ref04_CheckNodes_m_w3 n r0 k__) l0_3 i3_3 i__)
  exact leCond (leBind fun v4 => (leBind fun v5 => (leCond (leSome rfl) (leSome rfl)))) (leMap (leBind fun v6 => (leBind fun v7 => (leBind fun v8 => (leCond (leSome rfl) (leSome rfl))))))

noncomputable def ref04_CheckNodes_b0 (l0_0 : List (List UInt8 × Int × Int × Unit)) (i3_0 : Int) (v1 : List UInt8 × Int × Int × Unit) : Option ((Int × Unit) ⊕ Unit) :=
  (Option.bind (Go.Tw.ref01_IsName_M v1.fst) fun (v2 : Bool × Unit) => (bif !v2.fst then (some (Sum.inl (((8 : Int), ())))) else (bif decide ((i3_0) ≤ (9223372036854775807 : Int)) then loopN (fun i__ s__ => ref04_CheckNodes_b3 (l0_0) (i3_0) i__) (fun s__ => ref04_CheckNodes_f3 (l0_0) (i3_0)) ((i3_0) - 0).toNat 0 () else none)))

noncomputable def ref04_CheckNodes_f0 (l0_0 : List (List UInt8 × Int × Int × Unit)) : Option (Int × Unit) :=
  (some (((0 : Int), ())))

theorem ref04_CheckNodes_m_w0_le (n : Nat) (hn : big ≤ n)  (l0_0 : List (List UInt8 × Int × Int × Unit)) (hx : List.length (l0_0) < lenMax) : LeF some (loopL (fun i__ e__ s__ => ref04_CheckNodes_b0 l0_0 i__ e__) (fun s__ => ref04_CheckNodes_f0 l0_0) 0 (l0_0) ()) (ref04_CheckNodes_m_w0 n n l0_0 0) := by
  refine loopL_le (f := some) (W := fun k__ i__ s__ => ref04_CheckNodes_m_w0 n k__ l0_0 i__) (body := (fun i__ e__ s__ => ref04_CheckNodes_b0 l0_0 i__ e__)) (fin := (fun s__ => ref04_CheckNodes_f0 l0_0)) (fun k__ i__ s__ => ?_) hx () n (by unfold big at hn; unfold lenMax at hx; omega)
  show LeF _ _ (ref04_CheckNodes_m_l0 n (ref04_CheckNodes_m_w0 n k__) l0_0 i__)
  exact leCond (leBind fun v1 => (leBind fun v2 => (leCond (leSome rfl) (leGuard fun hx => by apply ref04_CheckNodes_m_w3_le n hn; exact hx)))) (leMap (leSome rfl))

noncomputable def ref04_CheckNodes_M (l : List (List UInt8 × Int × Int × Unit)) : Option (Int × Unit) :=
  (bif (↑l.length : Int) == (0 : Int) then (some (((12 : Int), ()))) else (bif Decidable.decide ((↑l.length : Int) > (8 : Int)) then (some (((5 : Int), ()))) else (bif decide (List.length (l) < lenMax) then loopL (fun i__ e__ s__ => ref04_CheckNodes_b0 (l) i__ e__) (fun s__ => ref04_CheckNodes_f0 (l)) 0 (l) () else none)))

theorem ref04_CheckNodes_run (l : List (List UInt8 × Int × Int × Unit)) (y : Int × Unit) (h : ref04_CheckNodes_M l = some y) : ∃ n, ref04_CheckNodes_m n l = some y :=
  ⟨big, LeF.top (show LeF some (ref04_CheckNodes_M l) (ref04_CheckNodes_m big l) from (fun (n : Nat) (hn : big ≤ n) => show LeF some (ref04_CheckNodes_M l) (ref04_CheckNodes_m n l) from (leCond (leSome rfl) (leCond (leSome rfl) (leGuard fun hx => by apply ref04_CheckNodes_m_w0_le n hn; exact hx)))) big (Nat.le_refl _)) h⟩
noncomputable def ref04_CheckNodes_e : Entry := { f := 94, args := ref04_CheckNodes_a, ress := ref04_CheckNodes_r, m := fun x => ref04_CheckNodes_M x.1 }
theorem ref04_CheckNodes_ok : FnOK Tryz.prog ref04_CheckNodes_e := fn_ok (g := ref04_CheckNodes_g) (fn := Tryz.f94) hmixed tabOk (eCons ref01_IsName_ok (eCons ref01_CheckRange_ok (eCons ref01_First_ok eNil))) (by kernel_rfl) (by kernel_rfl) (by kernel_rfl) (fun x y h => let ⟨n, hn⟩ := ref04_CheckNodes_run x.1 y h; ⟨ref04_CheckNodes_an n, iNil, (ref04_CheckNodes_eq n x).trans hn⟩)

/-! ### tidewayref04.checkLink -/
abbrev ref04_checkLink_a : Ty := .pair t83 (.pair t3 .unit)
abbrev ref04_checkLink_r : Ty := .pair t3 .unit
noncomputable def ref04_checkLink_g : G := { T := T, E := [ref04_Kinds_e, ref01_HasWord_e, ref04_sea_e, ref04_fits_e, ref01_CheckRange_e, ref01_First_e], muts := [], fz := [] }
def ref04_checkLink_k : List (List Nat) := []
noncomputable def ref04_checkLink_an (n : Nat) : Ann := { keep := ref04_checkLink_k, fuel := n, inl := [], deep := 0 }
noncomputable def ref04_checkLink_m (n : Nat) (x1 : List UInt8 × Int × Int × Int × Int × Unit) (nodes : Int) : Option (Int × Unit) :=
  (Option.bind (Go.Tw.ref01_HasWord_M Go.Tw.ref04_Kinds.fst x1.fst) fun (v0 : Bool × Unit) => (bif !v0.fst then Option.some ((13 : Int), ()) else (bif !(Go.Tw.ref04_fits x1.snd.fst nodes (Go.Tw.ref04_sea x1.fst).fst).fst then Option.some ((10 : Int), ()) else (bif !(Go.Tw.ref04_fits x1.snd.snd.fst nodes (Go.Tw.ref04_sea x1.fst).snd.fst).fst then Option.some ((10 : Int), ()) else (bif x1.snd.fst == x1.snd.snd.fst then Option.some ((17 : Int), ()) else (bif (Go.Tw.ref04_sea x1.fst).fst then (Option.bind (Go.Tw.ref01_First_M [(Go.Tw.ref01_CheckRange x1.snd.snd.snd.fst (0 : Int) (0 : Int)).fst, (Go.Tw.ref01_CheckRange x1.snd.snd.snd.snd.fst (1 : Int) (1000 : Int)).fst]) fun (v4 : Int × Unit) => Option.some (v4.fst, ())) else (Option.bind (Go.Tw.ref01_First_M [(Go.Tw.ref01_CheckRange x1.snd.snd.snd.fst (0 : Int) (1024 : Int)).fst, (Go.Tw.ref01_CheckRange x1.snd.snd.snd.snd.fst (1 : Int) (1000 : Int)).fst]) fun (v5 : Int × Unit) => Option.some (v5.fst, ()))))))))

theorem ref04_checkLink_eq (n : Nat) (x : ref04_checkLink_a.den) : runF ref04_checkLink_g (ref04_checkLink_an n) Tryz.f95 ref04_checkLink_a ref04_checkLink_r x = ref04_checkLink_m n x.1 x.2.1 := by kernel_rfl

noncomputable def ref04_checkLink_M (x1 : List UInt8 × Int × Int × Int × Int × Unit) (nodes : Int) : Option (Int × Unit) := ref04_checkLink_m 0 x1 nodes

theorem ref04_checkLink_run (x1 : List UInt8 × Int × Int × Int × Int × Unit) (nodes : Int) (y : Int × Unit) (h : ref04_checkLink_M x1 nodes = some y) : ∃ n, ref04_checkLink_m n x1 nodes = some y := ⟨0, h⟩
noncomputable def ref04_checkLink_e : Entry := { f := 95, args := ref04_checkLink_a, ress := ref04_checkLink_r, m := fun x => ref04_checkLink_M x.1 x.2.1 }
theorem ref04_checkLink_ok : FnOK Tryz.prog ref04_checkLink_e := fn_ok (g := ref04_checkLink_g) (fn := Tryz.f95) hmixed tabOk (eCons ref04_Kinds_ok (eCons ref01_HasWord_ok (eCons ref04_sea_ok (eCons ref04_fits_ok (eCons ref01_CheckRange_ok (eCons ref01_First_ok eNil)))))) (by kernel_rfl) (by kernel_rfl) (by kernel_rfl) (fun x y h => let ⟨n, hn⟩ := ref04_checkLink_run x.1 x.2.1 y h; ⟨ref04_checkLink_an n, iNil, (ref04_checkLink_eq n x).trans hn⟩)

/-! ### basin.volumes -/
abbrev basin_volumes_a : Ty := .pair t167 .unit
abbrev basin_volumes_r : Ty := .pair t56 .unit
noncomputable def basin_volumes_g : G := { T := T, E := [basin_mapped_basin_passage_int_e, basin_volumes_1_e], muts := [], fz := [] }
def basin_volumes_k : List (List Nat) := []
noncomputable def basin_volumes_an (n : Nat) : Ann := { keep := basin_volumes_k, fuel := n, inl := [], deep := 0 }
noncomputable def basin_volumes_m (n : Nat) (l : List ((Int × Bool × List Int × Unit) × List Int × Option (List Int) × Unit)) : Option (List (List Int) × Unit) :=
  (Option.bind (Go.Tw.basin_mapped_basin_passage_int_M l fun (x : ((Int × Bool × List Int × Unit) × List Int × Option (List Int) × Unit) × Unit) => Go.Tw.basin_volumes_1_M x.fst) fun (v0 : List (List Int) × Unit) => Option.some (v0.fst, ()))

theorem basin_volumes_eq (n : Nat) (x : basin_volumes_a.den) : runF basin_volumes_g (basin_volumes_an n) Tryz.f97 basin_volumes_a basin_volumes_r x = basin_volumes_m n x.1 := by kernel_rfl

noncomputable def basin_volumes_M (l : List ((Int × Bool × List Int × Unit) × List Int × Option (List Int) × Unit)) : Option (List (List Int) × Unit) := basin_volumes_m 0 l

theorem basin_volumes_run (l : List ((Int × Bool × List Int × Unit) × List Int × Option (List Int) × Unit)) (y : List (List Int) × Unit) (h : basin_volumes_M l = some y) : ∃ n, basin_volumes_m n l = some y := ⟨0, h⟩
noncomputable def basin_volumes_e : Entry := { f := 97, args := basin_volumes_a, ress := basin_volumes_r, m := fun x => basin_volumes_M x.1 }
theorem basin_volumes_ok : FnOK Tryz.prog basin_volumes_e := fn_ok (g := basin_volumes_g) (fn := Tryz.f97) hmixed tabOk (eCons basin_mapped_basin_passage_int_ok (eCons basin_volumes_1_ok eNil)) (by kernel_rfl) (by kernel_rfl) (by kernel_rfl) (fun x y h => let ⟨n, hn⟩ := basin_volumes_run x.1 y h; ⟨basin_volumes_an n, iNil, (basin_volumes_eq n x).trans hn⟩)

/-! ### (basin.Basin).levels -/
abbrev basin_Basin_levels_a : Ty := .pair t41 (.pair t26 .unit)
abbrev basin_Basin_levels_r : Ty := .pair t26 .unit
noncomputable def basin_Basin_levels_g : G := { T := T, E := [basin_Node_level_e], muts := [], fz := [] }
def basin_Basin_levels_k : List (List Nat) := [[5, 15, 16, 17]]
noncomputable def basin_Basin_levels_an (n : Nat) : Ann := { keep := basin_Basin_levels_k, fuel := n, inl := [], deep := 0 }
noncomputable def basin_Basin_levels_m_l0 (n : Nat) (r0 : List (List UInt8 × Int × Int × Unit) → Int → Int → List Int → Option (List Int × Unit)) (t15_0 : List (List UInt8 × Int × Int × Unit)) (t16_0 : Int) (t17_0 : Int) (c0_0 : List Int) : Option (List Int × Unit) :=
  (bif Decidable.decide (t17_0 < t16_0) then (Option.bind (Go.Vx.idx t15_0 t17_0) fun (v1 : List UInt8 × Int × Int × Unit) => (Option.bind (Go.Vx.idx c0_0 t17_0) fun (v2 : Int) => (Option.bind (c0_0[t17_0.toNat]?) fun (v3 : Int) => (Option.bind (Go.Tw.basin_Node_level_M (v1.fst, v1.snd.fst, v1.snd.snd.fst, ()) v3) fun (v4 : Int × Unit) => (Option.bind (Go.Vx.idx c0_0 t17_0) fun (v5 : Int) => (Option.bind (c0_0[t17_0.toNat]?) fun (v6 : Int) => r0 t15_0 t16_0 (Go.IntKind.i64.wrap (t17_0 + (1 : Int))) (c0_0.set t17_0.toNat v4.fst))))))) else Option.some (c0_0, ()))

noncomputable def basin_Basin_levels_m_w0 (n : Nat)  (k : Nat) (t15_0 : List (List UInt8 × Int × Int × Unit)) (t16_0 : Int) (t17_0 : Int) (c0_0 : List Int) : Option (List Int × Unit) :=
  iter (fun r y => basin_Basin_levels_m_l0 n (fun t15_0 t16_0 t17_0 c0_0 => r ((t15_0, (t16_0, (t17_0, ()))), ((c0_0, ()), ()))) y.1.1 y.1.2.1 y.1.2.2.1 y.2.1.1) k ((t15_0, (t16_0, (t17_0, ()))), ((c0_0, ()), ()))
theorem basin_Basin_levels_m_w0_succ (n : Nat)  (k : Nat) (t15_0 : List (List UInt8 × Int × Int × Unit)) (t16_0 : Int) (t17_0 : Int) (c0_0 : List Int) : basin_Basin_levels_m_w0 n (k + 1) t15_0 t16_0 t17_0 c0_0 = basin_Basin_levels_m_l0 n (basin_Basin_levels_m_w0 n k) t15_0 t16_0 t17_0 c0_0 := rfl

noncomputable def basin_Basin_levels_m (n : Nat) (b : List (List UInt8 × Int × Int × Unit) × List (List UInt8 × Int × Int × Int × Int × Unit) × Unit) (v : List Int) : Option (List Int × Unit) :=
  (bif Bool.true && Decidable.decide ((0 : Int) ≤ (↑v.length : Int)) && Decidable.decide ((↑v.length : Int) ≤ (↑Go.Vx.memMax : Int)) && (↑v.length : Int) == (↑v.length : Int) then (basin_Basin_levels_m_w0 n n (b.fst) ((↑b.fst.length : Int)) ((0 : Int)) (List.take (List.replicate (↑v.length : Int).toNat (0 : Int)).length v ++ List.drop v.length (List.replicate (↑v.length : Int).toNat (0 : Int)))) else none)

theorem basin_Basin_levels_eq (n : Nat) (x : basin_Basin_levels_a.den) : runF basin_Basin_levels_g (basin_Basin_levels_an n) Tryz.f98 basin_Basin_levels_a basin_Basin_levels_r x = basin_Basin_levels_m n x.1 x.2.1 := by kernel_rfl

noncomputable def basin_Basin_levels_b0 (t15_0 : List (List UInt8 × Int × Int × Unit)) (t17_0 : Int) (v1 : List UInt8 × Int × Int × Unit) (c0_0 : List Int) : Option ((List Int × Unit) ⊕ (List Int)) :=
  (Option.bind (Go.Vx.idx c0_0 t17_0) fun (v2 : Int) => (Option.bind (c0_0[t17_0.toNat]?) fun (v3 : Int) => (Option.bind (Go.Tw.basin_Node_level_M (v1.fst, v1.snd.fst, v1.snd.snd.fst, ()) v3) fun (v4 : Int × Unit) => (Option.bind (Go.Vx.idx c0_0 t17_0) fun (v5 : Int) => (Option.bind (c0_0[t17_0.toNat]?) fun (v6 : Int) => (some (Sum.inr (c0_0.set t17_0.toNat v4.fst))))))))

noncomputable def basin_Basin_levels_f0 (t15_0 : List (List UInt8 × Int × Int × Unit)) (c0_0 : List Int) : Option (List Int × Unit) :=
  (some ((c0_0, ())))

theorem basin_Basin_levels_m_w0_le (n : Nat) (hn : big ≤ n)  (t15_0 : List (List UInt8 × Int × Int × Unit)) (c0_0 : List Int) (hx : List.length (t15_0) < lenMax) : LeF some (loopL (fun i__ e__ s__ => basin_Basin_levels_b0 t15_0 i__ e__ s__) (fun s__ => basin_Basin_levels_f0 t15_0 s__) 0 (t15_0) c0_0) (basin_Basin_levels_m_w0 n n t15_0 (List.length (t15_0) : Int) 0 c0_0) := by
  refine loopL_le (f := some) (W := fun k__ i__ s__ => basin_Basin_levels_m_w0 n k__ t15_0 (List.length (t15_0) : Int) i__ s__) (body := (fun i__ e__ s__ => basin_Basin_levels_b0 t15_0 i__ e__ s__)) (fin := (fun s__ => basin_Basin_levels_f0 t15_0 s__)) (fun k__ i__ s__ => ?_) hx c0_0 n (by unfold big at hn; unfold lenMax at hx; omega)
  show LeF _ _ (basin_Basin_levels_m_l0 n (basin_Basin_levels_m_w0 n k__) t15_0 (List.length (t15_0) : Int) i__ s__)
  exact leCond (leBind fun v1 => (leBind fun v2 => (leBind fun v3 => (leBind fun v4 => (leBind fun v5 => (leBind fun v6 => (leSome rfl))))))) (leMap (leSome rfl))

noncomputable def basin_Basin_levels_M (b : List (List UInt8 × Int × Int × Unit) × List (List UInt8 × Int × Int × Int × Int × Unit) × Unit) (v : List Int) : Option (List Int × Unit) :=
  (bif Bool.true && Decidable.decide ((0 : Int) ≤ (↑v.length : Int)) && Decidable.decide ((↑v.length : Int) ≤ (↑Go.Vx.memMax : Int)) && (↑v.length : Int) == (↑v.length : Int) then (bif decide (List.length (b.fst) < lenMax) then loopL (fun i__ e__ s__ => basin_Basin_levels_b0 (b.fst) i__ e__ s__) (fun s__ => basin_Basin_levels_f0 (b.fst) s__) 0 (b.fst) (List.take (List.replicate (↑v.length : Int).toNat (0 : Int)).length v ++ List.drop v.length (List.replicate (↑v.length : Int).toNat (0 : Int))) else none) else none)

theorem basin_Basin_levels_run (b : List (List UInt8 × Int × Int × Unit) × List (List UInt8 × Int × Int × Int × Int × Unit) × Unit) (v : List Int) (y : List Int × Unit) (h : basin_Basin_levels_M b v = some y) : ∃ n, basin_Basin_levels_m n b v = some y :=
  ⟨big, LeF.top (show LeF some (basin_Basin_levels_M b v) (basin_Basin_levels_m big b v) from (fun (n : Nat) (hn : big ≤ n) => show LeF some (basin_Basin_levels_M b v) (basin_Basin_levels_m n b v) from (leCond (leGuard fun hx => by apply basin_Basin_levels_m_w0_le n hn; exact hx) leNone)) big (Nat.le_refl _)) h⟩
noncomputable def basin_Basin_levels_e : Entry := { f := 98, args := basin_Basin_levels_a, ress := basin_Basin_levels_r, m := fun x => basin_Basin_levels_M x.1 x.2.1 }
theorem basin_Basin_levels_ok : FnOK Tryz.prog basin_Basin_levels_e := fn_ok (g := basin_Basin_levels_g) (fn := Tryz.f98) hmixed tabOk (eCons basin_Node_level_ok eNil) (by kernel_rfl) (by kernel_rfl) (by kernel_rfl) (fun x y h => let ⟨n, hn⟩ := basin_Basin_levels_run x.1 x.2.1 y h; ⟨basin_Basin_levels_an n, iNil, (basin_Basin_levels_eq n x).trans hn⟩)

/-! ### tidewayref04.flow -/
abbrev ref04_flow_a : Ty := .pair t25 (.pair t26 (.pair t28 (.pair t83 .unit)))
abbrev ref04_flow_r : Ty := .pair t3 .unit
noncomputable def ref04_flow_g : G := { T := T, E := [ref04_Floor_e], muts := [], fz := [] }
def ref04_flow_k : List (List Nat) := []
noncomputable def ref04_flow_an (n : Nat) : Ann := { keep := ref04_flow_k, fuel := n, inl := [], deep := 0 }
noncomputable def ref04_flow_m_j12 (n : Nat) (b : List (List UInt8 × Int × Int × Unit) × List (List UInt8 × Int × Int × Int × Int × Unit) × Unit) (v : List Int) (c : Int × Bool × List Int × Unit) (x1 : List UInt8 × Int × Int × Int × Int × Unit) (j0 : Int) : Option (Int × Unit) :=
  (Option.bind (Go.Vx.idx b.fst j0) fun (v1 : List UInt8 × Int × Int × Unit) => (bif x1.fst == [(98 : UInt8), (97 : UInt8), (114 : UInt8), (114 : UInt8), (105 : UInt8), (101 : UInt8), (114 : UInt8)] then (bif !c.snd.fst then Option.some ((0 : Int), ()) else (Option.bind (Go.Vx.idx v j0) fun (v2 : Int) => (Option.bind (Go.Vx.idx v j0) fun (v3 : Int) => (Option.bind (Go.Tw.ref04_Floor_M (Go.IntKind.i64.wrap (Go.IntKind.i64.wrap (v1.snd.fst * c.fst) - v3)) x1.snd.snd.snd.snd.fst) fun (v4 : Int × Unit) => Option.some (if Bool.true = Bool.true then if v4.fst > Go.IntKind.i64.wrap ((0 : Int) - v2) then v4.fst else Go.IntKind.i64.wrap ((0 : Int) - v2) else if v4.fst < Go.IntKind.i64.wrap ((0 : Int) - v2) then v4.fst else Go.IntKind.i64.wrap ((0 : Int) - v2), ()))))) else (bif x1.fst == [(108 : UInt8), (101 : UInt8), (97 : UInt8), (107 : UInt8)] then (Option.bind (Go.Vx.idx v j0) fun (v5 : Int) => (Option.bind (Go.Tw.ref04_Floor_M (Go.IntKind.i64.wrap (Go.IntKind.i64.wrap (v1.snd.fst * c.fst) - v5)) x1.snd.snd.snd.snd.fst) fun (v6 : Int × Unit) => Option.some (if Bool.true = Bool.true then if v6.fst > (0 : Int) then v6.fst else (0 : Int) else if v6.fst < (0 : Int) then v6.fst else (0 : Int), ()))) else (bif x1.fst == [(111 : UInt8), (117 : UInt8), (116 : UInt8), (102 : UInt8), (97 : UInt8), (108 : UInt8), (108 : UInt8)] then (Option.bind (Go.Vx.idx v j0) fun (v7 : Int) => (Option.bind (Go.Tw.ref04_Floor_M (Go.IntKind.i64.wrap (v7 - Go.IntKind.i64.wrap (v1.snd.fst * if Bool.true = Bool.true then if x1.snd.snd.snd.fst > c.fst then x1.snd.snd.snd.fst else c.fst else if x1.snd.snd.snd.fst < c.fst then x1.snd.snd.snd.fst else c.fst))) x1.snd.snd.snd.snd.fst) fun (v8 : Int × Unit) => Option.some (if Bool.true = Bool.true then if v8.fst > (0 : Int) then v8.fst else (0 : Int) else if v8.fst < (0 : Int) then v8.fst else (0 : Int), ()))) else (bif x1.fst == [(112 : UInt8), (117 : UInt8), (109 : UInt8), (112 : UInt8)] then (Option.bind (Go.Vx.idx v j0) fun (v9 : Int) => Option.some (if Bool.true = Bool.true then if (if Bool.false = Bool.true then if Go.IntKind.i64.wrap (v9 - Go.IntKind.i64.wrap (v1.snd.fst * x1.snd.snd.snd.fst)) > x1.snd.snd.snd.snd.fst then Go.IntKind.i64.wrap (v9 - Go.IntKind.i64.wrap (v1.snd.fst * x1.snd.snd.snd.fst)) else x1.snd.snd.snd.snd.fst else if Go.IntKind.i64.wrap (v9 - Go.IntKind.i64.wrap (v1.snd.fst * x1.snd.snd.snd.fst)) < x1.snd.snd.snd.snd.fst then Go.IntKind.i64.wrap (v9 - Go.IntKind.i64.wrap (v1.snd.fst * x1.snd.snd.snd.fst)) else x1.snd.snd.snd.snd.fst) > (0 : Int) then if Bool.false = Bool.true then if Go.IntKind.i64.wrap (v9 - Go.IntKind.i64.wrap (v1.snd.fst * x1.snd.snd.snd.fst)) > x1.snd.snd.snd.snd.fst then Go.IntKind.i64.wrap (v9 - Go.IntKind.i64.wrap (v1.snd.fst * x1.snd.snd.snd.fst)) else x1.snd.snd.snd.snd.fst else if Go.IntKind.i64.wrap (v9 - Go.IntKind.i64.wrap (v1.snd.fst * x1.snd.snd.snd.fst)) < x1.snd.snd.snd.snd.fst then Go.IntKind.i64.wrap (v9 - Go.IntKind.i64.wrap (v1.snd.fst * x1.snd.snd.snd.fst)) else x1.snd.snd.snd.snd.fst else (0 : Int) else if (if Bool.false = Bool.true then if Go.IntKind.i64.wrap (v9 - Go.IntKind.i64.wrap (v1.snd.fst * x1.snd.snd.snd.fst)) > x1.snd.snd.snd.snd.fst then Go.IntKind.i64.wrap (v9 - Go.IntKind.i64.wrap (v1.snd.fst * x1.snd.snd.snd.fst)) else x1.snd.snd.snd.snd.fst else if Go.IntKind.i64.wrap (v9 - Go.IntKind.i64.wrap (v1.snd.fst * x1.snd.snd.snd.fst)) < x1.snd.snd.snd.snd.fst then Go.IntKind.i64.wrap (v9 - Go.IntKind.i64.wrap (v1.snd.fst * x1.snd.snd.snd.fst)) else x1.snd.snd.snd.snd.fst) < (0 : Int) then if Bool.false = Bool.true then if Go.IntKind.i64.wrap (v9 - Go.IntKind.i64.wrap (v1.snd.fst * x1.snd.snd.snd.fst)) > x1.snd.snd.snd.snd.fst then Go.IntKind.i64.wrap (v9 - Go.IntKind.i64.wrap (v1.snd.fst * x1.snd.snd.snd.fst)) else x1.snd.snd.snd.snd.fst else if Go.IntKind.i64.wrap (v9 - Go.IntKind.i64.wrap (v1.snd.fst * x1.snd.snd.snd.fst)) < x1.snd.snd.snd.snd.fst then Go.IntKind.i64.wrap (v9 - Go.IntKind.i64.wrap (v1.snd.fst * x1.snd.snd.snd.fst)) else x1.snd.snd.snd.snd.fst else (0 : Int), ())) else (Option.bind (Go.Vx.idx v j0) fun (v10 : Int) => (Option.bind (Go.Tw.ref04_Floor_M (Go.IntKind.i64.wrap (v10 - Go.IntKind.i64.wrap (v1.snd.fst * x1.snd.snd.snd.fst))) x1.snd.snd.snd.snd.fst) fun (v11 : Int × Unit) => Option.some (if Bool.true = Bool.true then if v11.fst > (0 : Int) then v11.fst else (0 : Int) else if v11.fst < (0 : Int) then v11.fst else (0 : Int), ()))))))))

noncomputable def ref04_flow_m (n : Nat) (b : List (List UInt8 × Int × Int × Unit) × List (List UInt8 × Int × Int × Int × Int × Unit) × Unit) (v : List Int) (c : Int × Bool × List Int × Unit) (x1 : List UInt8 × Int × Int × Int × Int × Unit) : Option (Int × Unit) :=
  (bif Decidable.decide (x1.snd.fst < (0 : Int)) then (ref04_flow_m_j12 n b v c x1 (x1.snd.snd.fst)) else (ref04_flow_m_j12 n b v c x1 (x1.snd.fst)))

theorem ref04_flow_eq (n : Nat) (x : ref04_flow_a.den) : runF ref04_flow_g (ref04_flow_an n) Tryz.f106 ref04_flow_a ref04_flow_r x = ref04_flow_m n x.1 x.2.1 x.2.2.1 x.2.2.2.1 := by kernel_rfl

noncomputable def ref04_flow_M (b : List (List UInt8 × Int × Int × Unit) × List (List UInt8 × Int × Int × Int × Int × Unit) × Unit) (v : List Int) (c : Int × Bool × List Int × Unit) (x1 : List UInt8 × Int × Int × Int × Int × Unit) : Option (Int × Unit) := ref04_flow_m 0 b v c x1

theorem ref04_flow_run (b : List (List UInt8 × Int × Int × Unit) × List (List UInt8 × Int × Int × Int × Int × Unit) × Unit) (v : List Int) (c : Int × Bool × List Int × Unit) (x1 : List UInt8 × Int × Int × Int × Int × Unit) (y : Int × Unit) (h : ref04_flow_M b v c x1 = some y) : ∃ n, ref04_flow_m n b v c x1 = some y := ⟨0, h⟩
noncomputable def ref04_flow_e : Entry := { f := 106, args := ref04_flow_a, ress := ref04_flow_r, m := fun x => ref04_flow_M x.1 x.2.1 x.2.2.1 x.2.2.2.1 }
theorem ref04_flow_ok : FnOK Tryz.prog ref04_flow_e := fn_ok (g := ref04_flow_g) (fn := Tryz.f106) hmixed tabOk (eCons ref04_Floor_ok eNil) (by kernel_rfl) (by kernel_rfl) (by kernel_rfl) (fun x y h => let ⟨n, hn⟩ := ref04_flow_run x.1 x.2.1 x.2.2.1 x.2.2.2.1 y h; ⟨ref04_flow_an n, iNil, (ref04_flow_eq n x).trans hn⟩)

/-! ### basin.checkInterval -/
abbrev basin_checkInterval_a : Ty := .pair t96 (.pair t176 .unit)
abbrev basin_checkInterval_r : Ty := .pair t35 .unit
noncomputable def basin_checkInterval_g : G := { T := T, E := [basin_when_e, basin_first_e], muts := [], fz := [] }
def basin_checkInterval_k : List (List Nat) := []
noncomputable def basin_checkInterval_an (n : Nat) : Ann := { keep := basin_checkInterval_k, fuel := n, inl := [], deep := 0 }
noncomputable def basin_checkInterval_m (n : Nat) (x1 : Int × Int × Unit) (check : Int × Unit → Option (Int × Unit)) : Option (Int × Unit) :=
  (Option.bind (check (x1.fst, ())) fun (v0 : Int × Unit) => (Option.bind (check (x1.snd.fst, ())) fun (v1 : Int × Unit) => (Option.bind (Go.Tw.basin_first_M [v0.fst, v1.fst, (Go.Tw.basin_when (Decidable.decide (x1.fst > x1.snd.fst)) (11 : Int)).fst]) fun (v2 : Int × Unit) => Option.some (v2.fst, ()))))

theorem basin_checkInterval_eq (n : Nat) (x : basin_checkInterval_a.den) : runF basin_checkInterval_g (basin_checkInterval_an n) Tryz.f158 basin_checkInterval_a basin_checkInterval_r x = basin_checkInterval_m n x.1 x.2.1 := by kernel_rfl

noncomputable def basin_checkInterval_M (x1 : Int × Int × Unit) (check : Int × Unit → Option (Int × Unit)) : Option (Int × Unit) := basin_checkInterval_m 0 x1 check

theorem basin_checkInterval_run (x1 : Int × Int × Unit) (check : Int × Unit → Option (Int × Unit)) (y : Int × Unit) (h : basin_checkInterval_M x1 check = some y) : ∃ n, basin_checkInterval_m n x1 check = some y := ⟨0, h⟩
noncomputable def basin_checkInterval_e : Entry := { f := 158, args := basin_checkInterval_a, ress := basin_checkInterval_r, m := fun x => basin_checkInterval_M x.1 x.2.1 }
theorem basin_checkInterval_ok : FnOK Tryz.prog basin_checkInterval_e := fn_ok (g := basin_checkInterval_g) (fn := Tryz.f158) hmixed tabOk (eCons basin_when_ok (eCons basin_first_ok eNil)) (by kernel_rfl) (by kernel_rfl) (by kernel_rfl) (fun x y h => let ⟨n, hn⟩ := basin_checkInterval_run x.1 x.2.1 y h; ⟨basin_checkInterval_an n, iNil, (basin_checkInterval_eq n x).trans hn⟩)

/-! ### basin.end$1 -/
abbrev basin_end_1_a : Ty := .pair t96 (.pair (.ref t3) .unit)
abbrev basin_end_1_r : Ty := .pair t3 .unit
noncomputable def basin_end_1_g : G := { T := T, E := [basin_ends_e], muts := [], fz := [] }
def basin_end_1_k : List (List Nat) := []
noncomputable def basin_end_1_an (n : Nat) : Ann := { keep := basin_end_1_k, fuel := n, inl := [], deep := 0 }
noncomputable def basin_end_1_m (n : Nat) (x1 : Int × Int × Unit) (p1 : Int) : Option (Int × Unit) :=
  (Option.bind (Go.Vx.idx (Go.Tw.basin_ends x1).fst p1) fun (v0 : Int) => Option.some (v0, ()))

theorem basin_end_1_eq (n : Nat) (x : basin_end_1_a.den) : runF basin_end_1_g (basin_end_1_an n) Tryz.f165 basin_end_1_a basin_end_1_r x = basin_end_1_m n x.1 x.2.1 := by kernel_rfl

noncomputable def basin_end_1_M (x1 : Int × Int × Unit) (p1 : Int) : Option (Int × Unit) := basin_end_1_m 0 x1 p1

theorem basin_end_1_run (x1 : Int × Int × Unit) (p1 : Int) (y : Int × Unit) (h : basin_end_1_M x1 p1 = some y) : ∃ n, basin_end_1_m n x1 p1 = some y := ⟨0, h⟩
noncomputable def basin_end_1_e : Entry := { f := 165, args := basin_end_1_a, ress := basin_end_1_r, m := fun x => basin_end_1_M x.1 x.2.1 }
theorem basin_end_1_ok : FnOK Tryz.prog basin_end_1_e := fn_ok (g := basin_end_1_g) (fn := Tryz.f165) hmixed tabOk (eCons basin_ends_ok eNil) (by kernel_rfl) (by kernel_rfl) (by kernel_rfl) (fun x y h => let ⟨n, hn⟩ := basin_end_1_run x.1 x.2.1 y h; ⟨basin_end_1_an n, iNil, (basin_end_1_eq n x).trans hn⟩)

/-! ### (basin.place).fromSea -/
abbrev basin_place_fromSea_a : Ty := .pair t230 .unit
abbrev basin_place_fromSea_r : Ty := .pair t3 .unit
noncomputable def basin_place_fromSea_g : G := { T := T, E := [basin_floor_e], muts := [], fz := [] }
def basin_place_fromSea_k : List (List Nat) := []
noncomputable def basin_place_fromSea_an (n : Nat) : Ann := { keep := basin_place_fromSea_k, fuel := n, inl := [], deep := 0 }
noncomputable def basin_place_fromSea_m (n : Nat) (p : (List UInt8 × Int × Int × Int × Int × Unit) × Int × Int × Int × Bool × Unit) : Option (Int × Unit) :=
  (Option.bind (Go.Tw.basin_floor_M (Go.IntKind.i64.wrap (Go.IntKind.i64.wrap (p.snd.snd.fst * p.snd.snd.snd.fst) - p.snd.fst)) p.fst.snd.snd.snd.snd.fst) fun (v0 : Int × Unit) => Option.some (v0.fst, ()))

theorem basin_place_fromSea_eq (n : Nat) (x : basin_place_fromSea_a.den) : runF basin_place_fromSea_g (basin_place_fromSea_an n) Tryz.f180 basin_place_fromSea_a basin_place_fromSea_r x = basin_place_fromSea_m n x.1 := by kernel_rfl

noncomputable def basin_place_fromSea_M (p : (List UInt8 × Int × Int × Int × Int × Unit) × Int × Int × Int × Bool × Unit) : Option (Int × Unit) := basin_place_fromSea_m 0 p

theorem basin_place_fromSea_run (p : (List UInt8 × Int × Int × Int × Int × Unit) × Int × Int × Int × Bool × Unit) (y : Int × Unit) (h : basin_place_fromSea_M p = some y) : ∃ n, basin_place_fromSea_m n p = some y := ⟨0, h⟩
noncomputable def basin_place_fromSea_e : Entry := { f := 180, args := basin_place_fromSea_a, ress := basin_place_fromSea_r, m := fun x => basin_place_fromSea_M x.1 }
theorem basin_place_fromSea_ok : FnOK Tryz.prog basin_place_fromSea_e := fn_ok (g := basin_place_fromSea_g) (fn := Tryz.f180) hmixed tabOk (eCons basin_floor_ok eNil) (by kernel_rfl) (by kernel_rfl) (by kernel_rfl) (fun x y h => let ⟨n, hn⟩ := basin_place_fromSea_run x.1 y h; ⟨basin_place_fromSea_an n, iNil, (basin_place_fromSea_eq n x).trans hn⟩)

/-! ### (basin.place).over -/
abbrev basin_place_over_a : Ty := .pair t230 (.pair t3 .unit)
abbrev basin_place_over_r : Ty := .pair t3 .unit
noncomputable def basin_place_over_g : G := { T := T, E := [basin_floor_e], muts := [], fz := [] }
def basin_place_over_k : List (List Nat) := []
noncomputable def basin_place_over_an (n : Nat) : Ann := { keep := basin_place_over_k, fuel := n, inl := [], deep := 0 }
noncomputable def basin_place_over_m (n : Nat) (p : (List UInt8 × Int × Int × Int × Int × Unit) × Int × Int × Int × Bool × Unit) (level : Int) : Option (Int × Unit) :=
  (Option.bind (Go.Tw.basin_floor_M (Go.IntKind.i64.wrap (p.snd.fst - Go.IntKind.i64.wrap (p.snd.snd.fst * level))) p.fst.snd.snd.snd.snd.fst) fun (v0 : Int × Unit) => Option.some (if Bool.true = Bool.true then if v0.fst > (0 : Int) then v0.fst else (0 : Int) else if v0.fst < (0 : Int) then v0.fst else (0 : Int), ()))

theorem basin_place_over_eq (n : Nat) (x : basin_place_over_a.den) : runF basin_place_over_g (basin_place_over_an n) Tryz.f182 basin_place_over_a basin_place_over_r x = basin_place_over_m n x.1 x.2.1 := by kernel_rfl

noncomputable def basin_place_over_M (p : (List UInt8 × Int × Int × Int × Int × Unit) × Int × Int × Int × Bool × Unit) (level : Int) : Option (Int × Unit) := basin_place_over_m 0 p level

theorem basin_place_over_run (p : (List UInt8 × Int × Int × Int × Int × Unit) × Int × Int × Int × Bool × Unit) (level : Int) (y : Int × Unit) (h : basin_place_over_M p level = some y) : ∃ n, basin_place_over_m n p level = some y := ⟨0, h⟩
noncomputable def basin_place_over_e : Entry := { f := 182, args := basin_place_over_a, ress := basin_place_over_r, m := fun x => basin_place_over_M x.1 x.2.1 }
theorem basin_place_over_ok : FnOK Tryz.prog basin_place_over_e := fn_ok (g := basin_place_over_g) (fn := Tryz.f182) hmixed tabOk (eCons basin_floor_ok eNil) (by kernel_rfl) (by kernel_rfl) (by kernel_rfl) (fun x y h => let ⟨n, hn⟩ := basin_place_over_run x.1 x.2.1 y h; ⟨basin_place_over_an n, iNil, (basin_place_over_eq n x).trans hn⟩)

end Go.Tw
