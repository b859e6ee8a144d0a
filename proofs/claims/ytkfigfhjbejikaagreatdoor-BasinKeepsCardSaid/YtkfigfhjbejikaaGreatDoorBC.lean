/- Models of the program's functions, by program (gen.py), and what they compute.
Models of the program's functions, by program (gen.py), and what they compute.
Models of the program's functions, by program (gen.py), and what they compute.
Models of the program's functions, by program (gen.py), and what they compute. -/
import Derived.Test.YtkfigfhjbejikaaGreatDoorBT
import Derived.Test.YtkfigfhjbejikaaGreatDoorBA

section
set_option linter.all false
set_option maxRecDepth 1000000
namespace Go.Tw
open Go.Vx Go.Vx.B Go.Proofs
/-! ### tidewaylaw04.condition -/
abbrev law04_condition_a : Ty := .pair t28 .unit
abbrev law04_condition_r : Ty := .pair t44 .unit
noncomputable def law04_condition_g : G := { T := T, E := [law04_ints_e], muts := [], fz := [] }
def law04_condition_k : List (List Nat) := []
noncomputable def law04_condition_an (n : Nat) : Ann := { keep := law04_condition_k, fuel := n, inl := [], deep := 0 }
noncomputable def law04_condition_m (n : Nat) (c : Cnd) : Option (Cnd × Unit) :=
  (Option.bind (Go.Tw.law04_ints_M c.snd.snd.fst) fun (v0 : List Int × Unit) => Option.some ((c.fst, c.snd.fst, v0.fst, ()), ()))

theorem law04_condition_eq (n : Nat) (x : law04_condition_a.den) : runF law04_condition_g (law04_condition_an n) Tryz.f21 law04_condition_a law04_condition_r x = law04_condition_m n x.1 := by kernel_rfl

noncomputable def law04_condition_M (c : Cnd) : Option (Cnd × Unit) := law04_condition_m 0 c

theorem law04_condition_run (c : Cnd) (y : Cnd × Unit) (h : law04_condition_M c = some y) : ∃ n, law04_condition_m n c = some y := ⟨0, h⟩
noncomputable def law04_condition_e : Entry := { f := 21, args := law04_condition_a, ress := law04_condition_r, m := fun x => law04_condition_M x.1 }
theorem law04_condition_ok : FnOK Tryz.prog law04_condition_e := fn_ok (g := law04_condition_g) (fn := Tryz.f21) hmixed tabOk (eCons law04_ints_ok eNil) (by kernel_rfl) (by kernel_rfl) (by kernel_rfl) (fun x y h => let ⟨n, hn⟩ := law04_condition_run x.1 y h; ⟨law04_condition_an n, iNil, (law04_condition_eq n x).trans hn⟩)

/-! ### tidewayref04.OnlyVolumes -/
abbrev ref04_OnlyVolumes_a : Ty := .pair t25 (.pair t26 .unit)
abbrev ref04_OnlyVolumes_r : Ty := .pair t3 .unit
noncomputable def ref04_OnlyVolumes_g : G := { T := T, E := [ref01_CheckRange_e], muts := [], fz := [] }
def ref04_OnlyVolumes_k : List (List Nat) := [[1, 5]]
noncomputable def ref04_OnlyVolumes_an (n : Nat) : Ann := { keep := ref04_OnlyVolumes_k, fuel := n, inl := [], deep := 0 }
noncomputable def ref04_OnlyVolumes_m_l0 (n : Nat) (r0 : List Int → Int → Option (Int × Unit)) (v1_0 : List Int) (i5_0 : Int) : Option (Int × Unit) :=
  (bif Decidable.decide (i5_0 < (↑v1_0.length : Int)) then (Option.bind (Go.Vx.idx v1_0 i5_0) fun (v1 : Int) => (bif (Go.Tw.ref01_CheckRange v1 (0 : Int) (100000000 : Int)).fst != (0 : Int) then Option.some ((Go.Tw.ref01_CheckRange v1 (0 : Int) (100000000 : Int)).fst, ()) else r0 v1_0 (Go.IntKind.i64.wrap (i5_0 + (1 : Int))))) else Option.some ((0 : Int), ()))

noncomputable def ref04_OnlyVolumes_m_w0 (n : Nat)  (k : Nat) (v1_0 : List Int) (i5_0 : Int) : Option (Int × Unit) :=
  iter (fun r y => ref04_OnlyVolumes_m_l0 n (fun v1_0 i5_0 => r ((v1_0, (i5_0, ())), ((), ()))) y.1.1 y.1.2.1) k ((v1_0, (i5_0, ())), ((), ()))

noncomputable def ref04_OnlyVolumes_m (n : Nat) (b : Bas) (v : List Int) : Option (Int × Unit) :=
  (bif (↑v.length : Int) != (↑b.fst.length : Int) then Option.some ((2 : Int), ()) else (ref04_OnlyVolumes_m_w0 n n (v) ((0 : Int))))

theorem ref04_OnlyVolumes_eq (n : Nat) (x : ref04_OnlyVolumes_a.den) : runF ref04_OnlyVolumes_g (ref04_OnlyVolumes_an n) Tryz.f28 ref04_OnlyVolumes_a ref04_OnlyVolumes_r x = ref04_OnlyVolumes_m n x.1 x.2.1 := by kernel_rfl

noncomputable def ref04_OnlyVolumes_b0 (v1_0 : List Int) (i5_0 : Int) (v1 : Int) : Option ((Int × Unit) ⊕ Unit) :=
  (bif (Go.Tw.ref01_CheckRange v1 (0 : Int) (100000000 : Int)).fst != (0 : Int) then (some (Sum.inl (((Go.Tw.ref01_CheckRange v1 (0 : Int) (100000000 : Int)).fst, ())))) else (some (Sum.inr ())))

noncomputable def ref04_OnlyVolumes_f0 (v1_0 : List Int) : Option (Int × Unit) :=
  (some (((0 : Int), ())))

theorem ref04_OnlyVolumes_m_w0_le (n : Nat) (hn : big ≤ n)  (v1_0 : List Int) (hx : List.length (v1_0) < lenMax) : LeF some (loopL (fun i__ e__ s__ => ref04_OnlyVolumes_b0 v1_0 i__ e__) (fun s__ => ref04_OnlyVolumes_f0 v1_0) 0 (v1_0) ()) (ref04_OnlyVolumes_m_w0 n n v1_0 0) := by
  refine loopL_le (f := some) (W := fun k__ i__ s__ => ref04_OnlyVolumes_m_w0 n k__ v1_0 i__) (body := (fun i__ e__ s__ => ref04_OnlyVolumes_b0 v1_0 i__ e__)) (fin := (fun s__ => ref04_OnlyVolumes_f0 v1_0)) (fun k__ i__ s__ => ?_) hx () n (by unfold big at hn; unfold lenMax at hx; omega)
  show LeF _ _ (ref04_OnlyVolumes_m_l0 n (ref04_OnlyVolumes_m_w0 n k__) v1_0 i__)
  exact leCond (leBind fun v1 => (leCond (leSome rfl) (leSome rfl))) (leMap (leSome rfl))

noncomputable def ref04_OnlyVolumes_M (b : Bas) (v : List Int) : Option (Int × Unit) :=
  (bif (↑v.length : Int) != (↑b.fst.length : Int) then (some (((2 : Int), ()))) else (bif decide (List.length (v) < lenMax) then loopL (fun i__ e__ s__ => ref04_OnlyVolumes_b0 (v) i__ e__) (fun s__ => ref04_OnlyVolumes_f0 (v)) 0 (v) () else none))

theorem ref04_OnlyVolumes_run (b : Bas) (v : List Int) (y : Int × Unit) (h : ref04_OnlyVolumes_M b v = some y) : ∃ n, ref04_OnlyVolumes_m n b v = some y :=
  ⟨big, LeF.top (show LeF some (ref04_OnlyVolumes_M b v) (ref04_OnlyVolumes_m big b v) from (fun (n : Nat) (hn : big ≤ n) => show LeF some (ref04_OnlyVolumes_M b v) (ref04_OnlyVolumes_m n b v) from (leCond (leSome rfl) (leGuard fun hx => by apply ref04_OnlyVolumes_m_w0_le n hn; exact hx))) big (Nat.le_refl _)) h⟩
noncomputable def ref04_OnlyVolumes_e : Entry := { f := 28, args := ref04_OnlyVolumes_a, ress := ref04_OnlyVolumes_r, m := fun x => ref04_OnlyVolumes_M x.1 x.2.1 }
theorem ref04_OnlyVolumes_ok : FnOK Tryz.prog ref04_OnlyVolumes_e := fn_ok (g := ref04_OnlyVolumes_g) (fn := Tryz.f28) hmixed tabOk (eCons ref01_CheckRange_ok eNil) (by kernel_rfl) (by kernel_rfl) (by kernel_rfl) (fun x y h => let ⟨n, hn⟩ := ref04_OnlyVolumes_run x.1 x.2.1 y h; ⟨ref04_OnlyVolumes_an n, iNil, (ref04_OnlyVolumes_eq n x).trans hn⟩)

/-! ### tidewayref04.SameRows -/
abbrev ref04_SameRows_a : Ty := .pair t56 (.pair t56 .unit)
abbrev ref04_SameRows_r : Ty := .pair t4 .unit
noncomputable def ref04_SameRows_g : G := { T := T, E := [ref01_SameInts_e], muts := [], fz := [] }
def ref04_SameRows_k : List (List Nat) := [[0, 1, 5]]
noncomputable def ref04_SameRows_an (n : Nat) : Ann := { keep := ref04_SameRows_k, fuel := n, inl := [], deep := 0 }
noncomputable def ref04_SameRows_m_l0 (n : Nat) (r0 : List (List Int) → List (List Int) → Int → Option (Bool × Unit)) (a0_0 : List (List Int)) (b1_0 : List (List Int)) (i5_0 : Int) : Option (Bool × Unit) :=
  (bif Decidable.decide (i5_0 < (↑a0_0.length : Int)) then (Option.bind (Go.Vx.idx a0_0 i5_0) fun (v1 : List Int) => (Option.bind (Go.Vx.idx b1_0 i5_0) fun (v2 : List Int) => (Option.bind (Go.Tw.ref01_SameInts_M v1 v2) fun (v3 : Bool × Unit) => (bif !v3.fst then Option.some (Bool.false, ()) else r0 a0_0 b1_0 (Go.IntKind.i64.wrap (i5_0 + (1 : Int))))))) else Option.some (Bool.true, ()))

noncomputable def ref04_SameRows_m_w0 (n : Nat)  (k : Nat) (a0_0 : List (List Int)) (b1_0 : List (List Int)) (i5_0 : Int) : Option (Bool × Unit) :=
  iter (fun r y => ref04_SameRows_m_l0 n (fun a0_0 b1_0 i5_0 => r ((a0_0, (b1_0, (i5_0, ()))), ((), ()))) y.1.1 y.1.2.1 y.1.2.2.1) k ((a0_0, (b1_0, (i5_0, ()))), ((), ()))

noncomputable def ref04_SameRows_m (n : Nat) (a : List (List Int)) (b : List (List Int)) : Option (Bool × Unit) :=
  (bif (↑a.length : Int) != (↑b.length : Int) then Option.some (Bool.false, ()) else (ref04_SameRows_m_w0 n n (a) (b) ((0 : Int))))

theorem ref04_SameRows_eq (n : Nat) (x : ref04_SameRows_a.den) : runF ref04_SameRows_g (ref04_SameRows_an n) Tryz.f47 ref04_SameRows_a ref04_SameRows_r x = ref04_SameRows_m n x.1 x.2.1 := by kernel_rfl

noncomputable def ref04_SameRows_b0 (a0_0 : List (List Int)) (b1_0 : List (List Int)) (i5_0 : Int) (v1 : List Int) : Option ((Bool × Unit) ⊕ Unit) :=
  (Option.bind (Go.Vx.idx b1_0 i5_0) fun (v2 : List Int) => (Option.bind (Go.Tw.ref01_SameInts_M v1 v2) fun (v3 : Bool × Unit) => (bif !v3.fst then (some (Sum.inl ((Bool.false, ())))) else (some (Sum.inr ())))))

noncomputable def ref04_SameRows_f0 (a0_0 : List (List Int)) (b1_0 : List (List Int)) : Option (Bool × Unit) :=
  (some ((Bool.true, ())))

theorem ref04_SameRows_m_w0_le (n : Nat) (hn : big ≤ n)  (a0_0 : List (List Int)) (b1_0 : List (List Int)) (hx : List.length (a0_0) < lenMax) : LeF some (loopL (fun i__ e__ s__ => ref04_SameRows_b0 a0_0 b1_0 i__ e__) (fun s__ => ref04_SameRows_f0 a0_0 b1_0) 0 (a0_0) ()) (ref04_SameRows_m_w0 n n a0_0 b1_0 0) := by
  refine loopL_le (f := some) (W := fun k__ i__ s__ => ref04_SameRows_m_w0 n k__ a0_0 b1_0 i__) (body := (fun i__ e__ s__ => ref04_SameRows_b0 a0_0 b1_0 i__ e__)) (fin := (fun s__ => ref04_SameRows_f0 a0_0 b1_0)) (fun k__ i__ s__ => ?_) hx () n (by unfold big at hn; unfold lenMax at hx; omega)
  show LeF _ _ (ref04_SameRows_m_l0 n (ref04_SameRows_m_w0 n k__) a0_0 b1_0 i__)
  exact leCond (leBind fun v1 => (leBind fun v2 => (leBind fun v3 => (leCond (leSome rfl) (leSome rfl))))) (leMap (leSome rfl))

noncomputable def ref04_SameRows_M (a : List (List Int)) (b : List (List Int)) : Option (Bool × Unit) :=
  (bif (↑a.length : Int) != (↑b.length : Int) then (some ((Bool.false, ()))) else (bif decide (List.length (a) < lenMax) then loopL (fun i__ e__ s__ => ref04_SameRows_b0 (a) (b) i__ e__) (fun s__ => ref04_SameRows_f0 (a) (b)) 0 (a) () else none))

theorem ref04_SameRows_run (a : List (List Int)) (b : List (List Int)) (y : Bool × Unit) (h : ref04_SameRows_M a b = some y) : ∃ n, ref04_SameRows_m n a b = some y :=
  ⟨big, LeF.top (show LeF some (ref04_SameRows_M a b) (ref04_SameRows_m big a b) from (fun (n : Nat) (hn : big ≤ n) => show LeF some (ref04_SameRows_M a b) (ref04_SameRows_m n a b) from (leCond (leSome rfl) (leGuard fun hx => by apply ref04_SameRows_m_w0_le n hn; exact hx))) big (Nat.le_refl _)) h⟩
noncomputable def ref04_SameRows_e : Entry := { f := 47, args := ref04_SameRows_a, ress := ref04_SameRows_r, m := fun x => ref04_SameRows_M x.1 x.2.1 }
theorem ref04_SameRows_ok : FnOK Tryz.prog ref04_SameRows_e := fn_ok (g := ref04_SameRows_g) (fn := Tryz.f47) hmixed tabOk (eCons ref01_SameInts_ok eNil) (by kernel_rfl) (by kernel_rfl) (by kernel_rfl) (fun x y h => let ⟨n, hn⟩ := ref04_SameRows_run x.1 x.2.1 y h; ⟨ref04_SameRows_an n, iNil, (ref04_SameRows_eq n x).trans hn⟩)

/-! ### tidewayref04.OnlyCondition -/
abbrev ref04_OnlyCondition_a : Ty := .pair t25 (.pair t28 .unit)
abbrev ref04_OnlyCondition_r : Ty := .pair t3 .unit
noncomputable def ref04_OnlyCondition_g : G := { T := T, E := [ref01_CheckRange_e], muts := [], fz := [] }
def ref04_OnlyCondition_k : List (List Nat) := [[3, 6]]
noncomputable def ref04_OnlyCondition_an (n : Nat) : Ann := { keep := ref04_OnlyCondition_k, fuel := n, inl := [], deep := 0 }
noncomputable def ref04_OnlyCondition_m_l0 (n : Nat) (r0 : Cnd → Int → Option (Int × Unit)) (c3_0 : Cnd) (i6_0 : Int) : Option (Int × Unit) :=
  (bif Decidable.decide (i6_0 < (↑c3_0.snd.snd.fst.length : Int)) then (Option.bind (Go.Vx.idx c3_0.snd.snd.fst i6_0) fun (v1 : Int) => (bif (Go.Tw.ref01_CheckRange v1 (0 : Int) (100000 : Int)).fst != (0 : Int) then Option.some ((Go.Tw.ref01_CheckRange v1 (0 : Int) (100000 : Int)).fst, ()) else r0 c3_0 (Go.IntKind.i64.wrap (i6_0 + (1 : Int))))) else Option.some ((0 : Int), ()))

noncomputable def ref04_OnlyCondition_m_w0 (n : Nat)  (k : Nat) (c3_0 : Cnd) (i6_0 : Int) : Option (Int × Unit) :=
  iter (fun r y => ref04_OnlyCondition_m_l0 n (fun c3_0 i6_0 => r ((c3_0, (i6_0, ())), ((), ()))) y.1.1 y.1.2.1) k ((c3_0, (i6_0, ())), ((), ()))

noncomputable def ref04_OnlyCondition_m (n : Nat) (b : Bas) (c : Cnd) : Option (Int × Unit) :=
  (bif (Go.Tw.ref01_CheckRange c.fst (-1024 : Int) (1024 : Int)).fst != (0 : Int) then Option.some ((Go.Tw.ref01_CheckRange c.fst (-1024 : Int) (1024 : Int)).fst, ()) else (bif (↑c.snd.snd.fst.length : Int) != (↑b.fst.length : Int) then Option.some ((2 : Int), ()) else (ref04_OnlyCondition_m_w0 n n (c) ((0 : Int)))))

theorem ref04_OnlyCondition_eq (n : Nat) (x : ref04_OnlyCondition_a.den) : runF ref04_OnlyCondition_g (ref04_OnlyCondition_an n) Tryz.f59 ref04_OnlyCondition_a ref04_OnlyCondition_r x = ref04_OnlyCondition_m n x.1 x.2.1 := by kernel_rfl

noncomputable def ref04_OnlyCondition_b0 (c3_0 : Cnd) (i6_0 : Int) (v1 : Int) : Option ((Int × Unit) ⊕ Unit) :=
  (bif (Go.Tw.ref01_CheckRange v1 (0 : Int) (100000 : Int)).fst != (0 : Int) then (some (Sum.inl (((Go.Tw.ref01_CheckRange v1 (0 : Int) (100000 : Int)).fst, ())))) else (some (Sum.inr ())))

noncomputable def ref04_OnlyCondition_f0 (c3_0 : Cnd) : Option (Int × Unit) :=
  (some (((0 : Int), ())))

theorem ref04_OnlyCondition_m_w0_le (n : Nat) (hn : big ≤ n)  (c3_0 : Cnd) (hx : List.length (c3_0.snd.snd.fst) < lenMax) : LeF some (loopL (fun i__ e__ s__ => ref04_OnlyCondition_b0 c3_0 i__ e__) (fun s__ => ref04_OnlyCondition_f0 c3_0) 0 (c3_0.snd.snd.fst) ()) (ref04_OnlyCondition_m_w0 n n c3_0 0) := by
  refine loopL_le (f := some) (W := fun k__ i__ s__ => ref04_OnlyCondition_m_w0 n k__ c3_0 i__) (body := (fun i__ e__ s__ => ref04_OnlyCondition_b0 c3_0 i__ e__)) (fin := (fun s__ => ref04_OnlyCondition_f0 c3_0)) (fun k__ i__ s__ => ?_) hx () n (by unfold big at hn; unfold lenMax at hx; omega)
  show LeF _ _ (ref04_OnlyCondition_m_l0 n (ref04_OnlyCondition_m_w0 n k__) c3_0 i__)
  exact leCond (leBind fun v1 => (leCond (leSome rfl) (leSome rfl))) (leMap (leSome rfl))

noncomputable def ref04_OnlyCondition_M (b : Bas) (c : Cnd) : Option (Int × Unit) :=
  (bif (Go.Tw.ref01_CheckRange c.fst (-1024 : Int) (1024 : Int)).fst != (0 : Int) then (some (((Go.Tw.ref01_CheckRange c.fst (-1024 : Int) (1024 : Int)).fst, ()))) else (bif (↑c.snd.snd.fst.length : Int) != (↑b.fst.length : Int) then (some (((2 : Int), ()))) else (bif decide (List.length (c.snd.snd.fst) < lenMax) then loopL (fun i__ e__ s__ => ref04_OnlyCondition_b0 (c) i__ e__) (fun s__ => ref04_OnlyCondition_f0 (c)) 0 (c.snd.snd.fst) () else none)))

theorem ref04_OnlyCondition_run (b : Bas) (c : Cnd) (y : Int × Unit) (h : ref04_OnlyCondition_M b c = some y) : ∃ n, ref04_OnlyCondition_m n b c = some y :=
  ⟨big, LeF.top (show LeF some (ref04_OnlyCondition_M b c) (ref04_OnlyCondition_m big b c) from (fun (n : Nat) (hn : big ≤ n) => show LeF some (ref04_OnlyCondition_M b c) (ref04_OnlyCondition_m n b c) from (leCond (leSome rfl) (leCond (leSome rfl) (leGuard fun hx => by apply ref04_OnlyCondition_m_w0_le n hn; exact hx)))) big (Nat.le_refl _)) h⟩
noncomputable def ref04_OnlyCondition_e : Entry := { f := 59, args := ref04_OnlyCondition_a, ress := ref04_OnlyCondition_r, m := fun x => ref04_OnlyCondition_M x.1 x.2.1 }
theorem ref04_OnlyCondition_ok : FnOK Tryz.prog ref04_OnlyCondition_e := fn_ok (g := ref04_OnlyCondition_g) (fn := Tryz.f59) hmixed tabOk (eCons ref01_CheckRange_ok eNil) (by kernel_rfl) (by kernel_rfl) (by kernel_rfl) (fun x y h => let ⟨n, hn⟩ := ref04_OnlyCondition_run x.1 x.2.1 y h; ⟨ref04_OnlyCondition_an n, iNil, (ref04_OnlyCondition_eq n x).trans hn⟩)

/-! ### basin.within -/
abbrev basin_within_a : Ty := .pair t3 (.pair t3 (.pair t3 .unit))
abbrev basin_within_r : Ty := .pair t35 .unit
noncomputable def basin_within_g : G := { T := T, E := [basin_when_e], muts := [], fz := [] }
def basin_within_k : List (List Nat) := []
noncomputable def basin_within_an (n : Nat) : Ann := { keep := basin_within_k, fuel := n, inl := [], deep := 0 }
noncomputable def basin_within_m (n : Nat) (n1 : Int) (least : Int) (most : Int) : Option (Int × Unit) :=
  (bif Decidable.decide (n1 < least) then Option.some ((Go.Tw.basin_when Bool.true (3 : Int)).fst, ()) else Option.some ((Go.Tw.basin_when (Decidable.decide (n1 > most)) (3 : Int)).fst, ()))

theorem basin_within_eq (n : Nat) (x : basin_within_a.den) : runF basin_within_g (basin_within_an n) Tryz.f90 basin_within_a basin_within_r x = basin_within_m n x.1 x.2.1 x.2.2.1 := by kernel_rfl

noncomputable def basin_within (n1 : Int) (least : Int) (most : Int) : (Int × Unit) :=
  (bif Decidable.decide (n1 < least) then ((Go.Tw.basin_when Bool.true (3 : Int)).fst, ()) else ((Go.Tw.basin_when (Decidable.decide (n1 > most)) (3 : Int)).fst, ()))

noncomputable abbrev basin_within_M (n1 : Int) (least : Int) (most : Int) : Option (Int × Unit) := some (basin_within n1 least most)

theorem basin_within_run (n1 : Int) (least : Int) (most : Int) (y : Int × Unit) (h : basin_within_M n1 least most = some y) : ∃ n, basin_within_m n n1 least most = some y :=
  ⟨0, by rw [← h]; show basin_within_m 0 n1 least most = some (basin_within n1 least most); unfold basin_within_m basin_within; first | rfl | (simp only [cond_some]; done) | (simp only [cond_some]; rfl)⟩
noncomputable def basin_within_e : Entry := { f := 90, args := basin_within_a, ress := basin_within_r, m := fun x => basin_within_M x.1 x.2.1 x.2.2.1 }
theorem basin_within_ok : FnOK Tryz.prog basin_within_e := fn_ok (g := basin_within_g) (fn := Tryz.f90) hmixed tabOk (eCons basin_when_ok eNil) (by kernel_rfl) (by kernel_rfl) (by kernel_rfl) (fun x y h => let ⟨n, hn⟩ := basin_within_run x.1 x.2.1 x.2.2.1 y h; ⟨basin_within_an n, iNil, (basin_within_eq n x).trans hn⟩)

/-! ### tidewayref04.CheckNodes -/
abbrev ref04_CheckNodes_a : Ty := .pair t22 .unit
abbrev ref04_CheckNodes_r : Ty := .pair t3 .unit
noncomputable def ref04_CheckNodes_g : G := { T := T, E := [ref01_IsName_e, ref01_CheckRange_e, ref01_First_e], muts := [], fz := [] }
def ref04_CheckNodes_k : List (List Nat) := [[0, 3], [0, 3, 4]]
noncomputable def ref04_CheckNodes_an (n : Nat) : Ann := { keep := ref04_CheckNodes_k, fuel := n, inl := [], deep := 0 }
noncomputable def ref04_CheckNodes_m_l3 (n : Nat) (r0 : List Nod → Int → Option (Int × Unit)) (r3 : List Nod → Int → Int → Option (Int × Unit)) (l0_3 : List Nod) (i3_3 : Int) (k4_3 : Int) : Option (Int × Unit) :=
  (bif Decidable.decide (k4_3 < i3_3) then (Option.bind (Go.Vx.idx l0_3 k4_3) fun (v4 : Nod) => (Option.bind (Go.Vx.idx l0_3 i3_3) fun (v5 : Nod) => (bif v4.fst == v5.fst then Option.some ((9 : Int), ()) else r3 l0_3 i3_3 (Go.IntKind.i64.wrap (k4_3 + (1 : Int)))))) else (Option.bind (Go.Vx.idx l0_3 i3_3) fun (v6 : Nod) => (Option.bind (Go.Vx.idx l0_3 i3_3) fun (v7 : Nod) => (Option.bind (Go.Tw.ref01_First_M [(Go.Tw.ref01_CheckRange v6.snd.fst (1 : Int) (1000 : Int)).fst, (Go.Tw.ref01_CheckRange v7.snd.snd.fst (0 : Int) (1024 : Int)).fst]) fun (v8 : Int × Unit) => (bif v8.fst != (0 : Int) then Option.some (v8.fst, ()) else r0 l0_3 (Go.IntKind.i64.wrap (i3_3 + (1 : Int))))))))

noncomputable def ref04_CheckNodes_m_w3 (n : Nat) (r0 : List Nod → Int → Option (Int × Unit)) (k : Nat) (l0_3 : List Nod) (i3_3 : Int) (k4_3 : Int) : Option (Int × Unit) :=
  iter (fun r y => ref04_CheckNodes_m_l3 n r0 (fun l0_3 i3_3 k4_3 => r ((l0_3, (i3_3, (k4_3, ()))), ((), ()))) y.1.1 y.1.2.1 y.1.2.2.1) k ((l0_3, (i3_3, (k4_3, ()))), ((), ()))

noncomputable def ref04_CheckNodes_m_l0 (n : Nat) (r0 : List Nod → Int → Option (Int × Unit)) (l0_0 : List Nod) (i3_0 : Int) : Option (Int × Unit) :=
  (bif Decidable.decide (i3_0 < (↑l0_0.length : Int)) then (Option.bind (Go.Vx.idx l0_0 i3_0) fun (v1 : Nod) => (Option.bind (Go.Tw.ref01_IsName_M v1.fst) fun (v2 : Bool × Unit) => (bif !v2.fst then Option.some ((8 : Int), ()) else (ref04_CheckNodes_m_w3 n r0 n (l0_0) (i3_0) ((0 : Int)))))) else Option.some ((0 : Int), ()))

noncomputable def ref04_CheckNodes_m_w0 (n : Nat)  (k : Nat) (l0_0 : List Nod) (i3_0 : Int) : Option (Int × Unit) :=
  iter (fun r y => ref04_CheckNodes_m_l0 n (fun l0_0 i3_0 => r ((l0_0, (i3_0, ())), ((), ()))) y.1.1 y.1.2.1) k ((l0_0, (i3_0, ())), ((), ()))

noncomputable def ref04_CheckNodes_m (n : Nat) (l : List Nod) : Option (Int × Unit) :=
  (bif (↑l.length : Int) == (0 : Int) then Option.some ((12 : Int), ()) else (bif Decidable.decide ((↑l.length : Int) > (8 : Int)) then Option.some ((5 : Int), ()) else (ref04_CheckNodes_m_w0 n n (l) ((0 : Int)))))

theorem ref04_CheckNodes_eq (n : Nat) (x : ref04_CheckNodes_a.den) : runF ref04_CheckNodes_g (ref04_CheckNodes_an n) Tryz.f94 ref04_CheckNodes_a ref04_CheckNodes_r x = ref04_CheckNodes_m n x.1 := by kernel_rfl

noncomputable def ref04_CheckNodes_b3 (l0_3 : List Nod) (i3_3 : Int) (k4_3 : Int) : Option (((Int × Unit) ⊕ Unit) ⊕ Unit) :=
  (Option.bind (Go.Vx.idx l0_3 k4_3) fun (v4 : Nod) => (Option.bind (Go.Vx.idx l0_3 i3_3) fun (v5 : Nod) => (bif v4.fst == v5.fst then (some (Sum.inl (Sum.inl (((9 : Int), ()))))) else (some (Sum.inr ())))))

noncomputable def ref04_CheckNodes_f3 (l0_3 : List Nod) (i3_3 : Int) : Option ((Int × Unit) ⊕ Unit) :=
  (Option.bind (Go.Vx.idx l0_3 i3_3) fun (v6 : Nod) => (Option.bind (Go.Vx.idx l0_3 i3_3) fun (v7 : Nod) => (Option.bind (Go.Tw.ref01_First_M [(Go.Tw.ref01_CheckRange v6.snd.fst (1 : Int) (1000 : Int)).fst, (Go.Tw.ref01_CheckRange v7.snd.snd.fst (0 : Int) (1024 : Int)).fst]) fun (v8 : Int × Unit) => (bif v8.fst != (0 : Int) then (some (Sum.inl ((v8.fst, ())))) else (some (Sum.inr ()))))))

theorem ref04_CheckNodes_m_w3_le (n : Nat) (hn : big ≤ n)  (r0 : List Nod → Int → Option (Int × Unit)) (l0_3 : List Nod) (i3_3 : Int) (hx : (i3_3) ≤ (9223372036854775807 : Int)) : LeF (elim some fun (s__ : Unit) => r0 l0_3 (Go.IntKind.i64.wrap (i3_3 + 1))) (loopN (fun i__ s__ => ref04_CheckNodes_b3 l0_3 i3_3 i__) (fun s__ => ref04_CheckNodes_f3 l0_3 i3_3) ((i3_3) - 0).toNat 0 ()) (ref04_CheckNodes_m_w3 n r0 n l0_3 i3_3 0) := by
  refine loopN_le (f := (elim some fun (s__ : Unit) => r0 l0_3 (Go.IntKind.i64.wrap (i3_3 + 1)))) (W := fun k__ i__ s__ => ref04_CheckNodes_m_w3 n r0 k__ l0_3 i3_3 i__) (body := (fun i__ s__ => ref04_CheckNodes_b3 l0_3 i3_3 i__)) (fin := (fun s__ => ref04_CheckNodes_f3 l0_3 i3_3)) (fun k__ i__ s__ => ?_) hx () n 0 (by decide) (by unfold big at hn; omega)
  show LeF _ _ (ref04_CheckNodes_m_l3 n r0 (ref04_CheckNodes_m_w3 n r0 k__) l0_3 i3_3 i__)
  exact leCond (leBind fun v4 => (leBind fun v5 => (leCond (leSome rfl) (leSome rfl)))) (leMap (leBind fun v6 => (leBind fun v7 => (leBind fun v8 => (leCond (leSome rfl) (leSome rfl))))))

noncomputable def ref04_CheckNodes_b0 (l0_0 : List Nod) (i3_0 : Int) (v1 : Nod) : Option ((Int × Unit) ⊕ Unit) :=
  (Option.bind (Go.Tw.ref01_IsName_M v1.fst) fun (v2 : Bool × Unit) => (bif !v2.fst then (some (Sum.inl (((8 : Int), ())))) else (bif decide ((i3_0) ≤ (9223372036854775807 : Int)) then loopN (fun i__ s__ => ref04_CheckNodes_b3 (l0_0) (i3_0) i__) (fun s__ => ref04_CheckNodes_f3 (l0_0) (i3_0)) ((i3_0) - 0).toNat 0 () else none)))

noncomputable def ref04_CheckNodes_f0 (l0_0 : List Nod) : Option (Int × Unit) :=
  (some (((0 : Int), ())))

theorem ref04_CheckNodes_m_w0_le (n : Nat) (hn : big ≤ n)  (l0_0 : List Nod) (hx : List.length (l0_0) < lenMax) : LeF some (loopL (fun i__ e__ s__ => ref04_CheckNodes_b0 l0_0 i__ e__) (fun s__ => ref04_CheckNodes_f0 l0_0) 0 (l0_0) ()) (ref04_CheckNodes_m_w0 n n l0_0 0) := by
  refine loopL_le (f := some) (W := fun k__ i__ s__ => ref04_CheckNodes_m_w0 n k__ l0_0 i__) (body := (fun i__ e__ s__ => ref04_CheckNodes_b0 l0_0 i__ e__)) (fin := (fun s__ => ref04_CheckNodes_f0 l0_0)) (fun k__ i__ s__ => ?_) hx () n (by unfold big at hn; unfold lenMax at hx; omega)
  show LeF _ _ (ref04_CheckNodes_m_l0 n (ref04_CheckNodes_m_w0 n k__) l0_0 i__)
  exact leCond (leBind fun v1 => (leBind fun v2 => (leCond (leSome rfl) (leGuard fun hx => by apply ref04_CheckNodes_m_w3_le n hn; exact hx)))) (leMap (leSome rfl))

noncomputable def ref04_CheckNodes_M (l : List Nod) : Option (Int × Unit) :=
  (bif (↑l.length : Int) == (0 : Int) then (some (((12 : Int), ()))) else (bif Decidable.decide ((↑l.length : Int) > (8 : Int)) then (some (((5 : Int), ()))) else (bif decide (List.length (l) < lenMax) then loopL (fun i__ e__ s__ => ref04_CheckNodes_b0 (l) i__ e__) (fun s__ => ref04_CheckNodes_f0 (l)) 0 (l) () else none)))

theorem ref04_CheckNodes_run (l : List Nod) (y : Int × Unit) (h : ref04_CheckNodes_M l = some y) : ∃ n, ref04_CheckNodes_m n l = some y :=
  ⟨big, LeF.top (show LeF some (ref04_CheckNodes_M l) (ref04_CheckNodes_m big l) from (fun (n : Nat) (hn : big ≤ n) => show LeF some (ref04_CheckNodes_M l) (ref04_CheckNodes_m n l) from (leCond (leSome rfl) (leCond (leSome rfl) (leGuard fun hx => by apply ref04_CheckNodes_m_w0_le n hn; exact hx)))) big (Nat.le_refl _)) h⟩
noncomputable def ref04_CheckNodes_e : Entry := { f := 94, args := ref04_CheckNodes_a, ress := ref04_CheckNodes_r, m := fun x => ref04_CheckNodes_M x.1 }
theorem ref04_CheckNodes_ok : FnOK Tryz.prog ref04_CheckNodes_e := fn_ok (g := ref04_CheckNodes_g) (fn := Tryz.f94) hmixed tabOk (eCons ref01_IsName_ok (eCons ref01_CheckRange_ok (eCons ref01_First_ok eNil))) (by kernel_rfl) (by kernel_rfl) (by kernel_rfl) (fun x y h => let ⟨n, hn⟩ := ref04_CheckNodes_run x.1 y h; ⟨ref04_CheckNodes_an n, iNil, (ref04_CheckNodes_eq n x).trans hn⟩)

/-! ### tidewayref04.checkLink -/
abbrev ref04_checkLink_a : Ty := .pair t83 (.pair t3 .unit)
abbrev ref04_checkLink_r : Ty := .pair t3 .unit
noncomputable def ref04_checkLink_g : G := { T := T, E := [ref04_Kinds_e, ref01_HasWord_e, ref04_sea_e, ref04_fits_e, ref01_CheckRange_e, ref01_First_e], muts := [], fz := [] }
def ref04_checkLink_k : List (List Nat) := []
noncomputable def ref04_checkLink_an (n : Nat) : Ann := { keep := ref04_checkLink_k, fuel := n, inl := [], deep := 0 }
noncomputable def ref04_checkLink_m (n : Nat) (x1 : Lnk) (nodes : Int) : Option (Int × Unit) :=
  (Option.bind (Go.Tw.ref01_HasWord_M Go.Tw.ref04_Kinds.fst x1.fst) fun (v0 : Bool × Unit) => (bif !v0.fst then Option.some ((13 : Int), ()) else (bif !(Go.Tw.ref04_fits x1.snd.fst nodes (Go.Tw.ref04_sea x1.fst).fst).fst then Option.some ((10 : Int), ()) else (bif !(Go.Tw.ref04_fits x1.snd.snd.fst nodes (Go.Tw.ref04_sea x1.fst).snd.fst).fst then Option.some ((10 : Int), ()) else (bif x1.snd.fst == x1.snd.snd.fst then Option.some ((17 : Int), ()) else (bif (Go.Tw.ref04_sea x1.fst).fst then (Option.bind (Go.Tw.ref01_First_M [(Go.Tw.ref01_CheckRange x1.snd.snd.snd.fst (0 : Int) (0 : Int)).fst, (Go.Tw.ref01_CheckRange x1.snd.snd.snd.snd.fst (1 : Int) (1000 : Int)).fst]) fun (v4 : Int × Unit) => Option.some (v4.fst, ())) else (Option.bind (Go.Tw.ref01_First_M [(Go.Tw.ref01_CheckRange x1.snd.snd.snd.fst (0 : Int) (1024 : Int)).fst, (Go.Tw.ref01_CheckRange x1.snd.snd.snd.snd.fst (1 : Int) (1000 : Int)).fst]) fun (v5 : Int × Unit) => Option.some (v5.fst, ()))))))))

theorem ref04_checkLink_eq (n : Nat) (x : ref04_checkLink_a.den) : runF ref04_checkLink_g (ref04_checkLink_an n) Tryz.f95 ref04_checkLink_a ref04_checkLink_r x = ref04_checkLink_m n x.1 x.2.1 := by kernel_rfl

noncomputable def ref04_checkLink_M (x1 : Lnk) (nodes : Int) : Option (Int × Unit) := ref04_checkLink_m 0 x1 nodes

theorem ref04_checkLink_run (x1 : Lnk) (nodes : Int) (y : Int × Unit) (h : ref04_checkLink_M x1 nodes = some y) : ∃ n, ref04_checkLink_m n x1 nodes = some y := ⟨0, h⟩
noncomputable def ref04_checkLink_e : Entry := { f := 95, args := ref04_checkLink_a, ress := ref04_checkLink_r, m := fun x => ref04_checkLink_M x.1 x.2.1 }
theorem ref04_checkLink_ok : FnOK Tryz.prog ref04_checkLink_e := fn_ok (g := ref04_checkLink_g) (fn := Tryz.f95) hmixed tabOk (eCons ref04_Kinds_ok (eCons ref01_HasWord_ok (eCons ref04_sea_ok (eCons ref04_fits_ok (eCons ref01_CheckRange_ok (eCons ref01_First_ok eNil)))))) (by kernel_rfl) (by kernel_rfl) (by kernel_rfl) (fun x y h => let ⟨n, hn⟩ := ref04_checkLink_run x.1 x.2.1 y h; ⟨ref04_checkLink_an n, iNil, (ref04_checkLink_eq n x).trans hn⟩)

/-! ### basin.volumes -/
abbrev basin_volumes_a : Ty := .pair t167 .unit
abbrev basin_volumes_r : Ty := .pair t56 .unit
noncomputable def basin_volumes_g : G := { T := T, E := [basin_mapped_basin_passage_int_e, basin_volumes_1_e], muts := [], fz := [] }
def basin_volumes_k : List (List Nat) := []
noncomputable def basin_volumes_an (n : Nat) : Ann := { keep := basin_volumes_k, fuel := n, inl := [], deep := 0 }
noncomputable def basin_volumes_m (n : Nat) (l : List Psg) : Option (List (List Int) × Unit) :=
  (Option.bind (Go.Tw.basin_mapped_basin_passage_int_M l fun (x : Psg × Unit) => Go.Tw.basin_volumes_1_M x.fst) fun (v0 : List (List Int) × Unit) => Option.some (v0.fst, ()))

theorem basin_volumes_eq (n : Nat) (x : basin_volumes_a.den) : runF basin_volumes_g (basin_volumes_an n) Tryz.f97 basin_volumes_a basin_volumes_r x = basin_volumes_m n x.1 := by kernel_rfl

noncomputable def basin_volumes_M (l : List Psg) : Option (List (List Int) × Unit) := basin_volumes_m 0 l

theorem basin_volumes_run (l : List Psg) (y : List (List Int) × Unit) (h : basin_volumes_M l = some y) : ∃ n, basin_volumes_m n l = some y := ⟨0, h⟩
noncomputable def basin_volumes_e : Entry := { f := 97, args := basin_volumes_a, ress := basin_volumes_r, m := fun x => basin_volumes_M x.1 }
theorem basin_volumes_ok : FnOK Tryz.prog basin_volumes_e := fn_ok (g := basin_volumes_g) (fn := Tryz.f97) hmixed tabOk (eCons basin_mapped_basin_passage_int_ok (eCons basin_volumes_1_ok eNil)) (by kernel_rfl) (by kernel_rfl) (by kernel_rfl) (fun x y h => let ⟨n, hn⟩ := basin_volumes_run x.1 y h; ⟨basin_volumes_an n, iNil, (basin_volumes_eq n x).trans hn⟩)

/-! ### (basin.Basin).levels -/
abbrev basin_Basin_levels_a : Ty := .pair t41 (.pair t26 .unit)
abbrev basin_Basin_levels_r : Ty := .pair t26 .unit
noncomputable def basin_Basin_levels_g : G := { T := T, E := [basin_Node_level_e], muts := [], fz := [] }
def basin_Basin_levels_k : List (List Nat) := [[5, 15, 16, 17]]
noncomputable def basin_Basin_levels_an (n : Nat) : Ann := { keep := basin_Basin_levels_k, fuel := n, inl := [], deep := 0 }
noncomputable def basin_Basin_levels_m_l0 (n : Nat) (r0 : List Nod → Int → Int → List Int → Option (List Int × Unit)) (t15_0 : List Nod) (t16_0 : Int) (t17_0 : Int) (c0_0 : List Int) : Option (List Int × Unit) :=
  (bif Decidable.decide (t17_0 < t16_0) then (Option.bind (Go.Vx.idx t15_0 t17_0) fun (v1 : Nod) => (Option.bind (Go.Vx.idx c0_0 t17_0) fun (v2 : Int) => (Option.bind (c0_0[t17_0.toNat]?) fun (v3 : Int) => (Option.bind (Go.Tw.basin_Node_level_M (v1.fst, v1.snd.fst, v1.snd.snd.fst, ()) v3) fun (v4 : Int × Unit) => (Option.bind (Go.Vx.idx c0_0 t17_0) fun (v5 : Int) => (Option.bind (c0_0[t17_0.toNat]?) fun (v6 : Int) => r0 t15_0 t16_0 (Go.IntKind.i64.wrap (t17_0 + (1 : Int))) (c0_0.set t17_0.toNat v4.fst))))))) else Option.some (c0_0, ()))

noncomputable def basin_Basin_levels_m_w0 (n : Nat)  (k : Nat) (t15_0 : List Nod) (t16_0 : Int) (t17_0 : Int) (c0_0 : List Int) : Option (List Int × Unit) :=
  iter (fun r y => basin_Basin_levels_m_l0 n (fun t15_0 t16_0 t17_0 c0_0 => r ((t15_0, (t16_0, (t17_0, ()))), ((c0_0, ()), ()))) y.1.1 y.1.2.1 y.1.2.2.1 y.2.1.1) k ((t15_0, (t16_0, (t17_0, ()))), ((c0_0, ()), ()))

noncomputable def basin_Basin_levels_m (n : Nat) (b : Bas) (v : List Int) : Option (List Int × Unit) :=
  (bif Bool.true && Decidable.decide ((0 : Int) ≤ (↑v.length : Int)) && Decidable.decide ((↑v.length : Int) ≤ (↑Go.Vx.memMax : Int)) && (↑v.length : Int) == (↑v.length : Int) then (basin_Basin_levels_m_w0 n n (b.fst) ((↑b.fst.length : Int)) ((0 : Int)) (List.take (List.replicate (↑v.length : Int).toNat (0 : Int)).length v ++ List.drop v.length (List.replicate (↑v.length : Int).toNat (0 : Int)))) else none)

theorem basin_Basin_levels_eq (n : Nat) (x : basin_Basin_levels_a.den) : runF basin_Basin_levels_g (basin_Basin_levels_an n) Tryz.f98 basin_Basin_levels_a basin_Basin_levels_r x = basin_Basin_levels_m n x.1 x.2.1 := by kernel_rfl

noncomputable def basin_Basin_levels_b0 (t15_0 : List Nod) (t17_0 : Int) (v1 : Nod) (c0_0 : List Int) : Option ((List Int × Unit) ⊕ (List Int)) :=
  (Option.bind (Go.Vx.idx c0_0 t17_0) fun (v2 : Int) => (Option.bind (c0_0[t17_0.toNat]?) fun (v3 : Int) => (Option.bind (Go.Tw.basin_Node_level_M (v1.fst, v1.snd.fst, v1.snd.snd.fst, ()) v3) fun (v4 : Int × Unit) => (Option.bind (Go.Vx.idx c0_0 t17_0) fun (v5 : Int) => (Option.bind (c0_0[t17_0.toNat]?) fun (v6 : Int) => (some (Sum.inr (c0_0.set t17_0.toNat v4.fst))))))))

noncomputable def basin_Basin_levels_f0 (t15_0 : List Nod) (c0_0 : List Int) : Option (List Int × Unit) :=
  (some ((c0_0, ())))

theorem basin_Basin_levels_m_w0_le (n : Nat) (hn : big ≤ n)  (t15_0 : List Nod) (c0_0 : List Int) (hx : List.length (t15_0) < lenMax) : LeF some (loopL (fun i__ e__ s__ => basin_Basin_levels_b0 t15_0 i__ e__ s__) (fun s__ => basin_Basin_levels_f0 t15_0 s__) 0 (t15_0) c0_0) (basin_Basin_levels_m_w0 n n t15_0 (List.length (t15_0) : Int) 0 c0_0) := by
  refine loopL_le (f := some) (W := fun k__ i__ s__ => basin_Basin_levels_m_w0 n k__ t15_0 (List.length (t15_0) : Int) i__ s__) (body := (fun i__ e__ s__ => basin_Basin_levels_b0 t15_0 i__ e__ s__)) (fin := (fun s__ => basin_Basin_levels_f0 t15_0 s__)) (fun k__ i__ s__ => ?_) hx c0_0 n (by unfold big at hn; unfold lenMax at hx; omega)
  show LeF _ _ (basin_Basin_levels_m_l0 n (basin_Basin_levels_m_w0 n k__) t15_0 (List.length (t15_0) : Int) i__ s__)
  exact leCond (leBind fun v1 => (leBind fun v2 => (leBind fun v3 => (leBind fun v4 => (leBind fun v5 => (leBind fun v6 => (leSome rfl))))))) (leMap (leSome rfl))

noncomputable def basin_Basin_levels_M (b : Bas) (v : List Int) : Option (List Int × Unit) :=
  (bif Bool.true && Decidable.decide ((0 : Int) ≤ (↑v.length : Int)) && Decidable.decide ((↑v.length : Int) ≤ (↑Go.Vx.memMax : Int)) && (↑v.length : Int) == (↑v.length : Int) then (bif decide (List.length (b.fst) < lenMax) then loopL (fun i__ e__ s__ => basin_Basin_levels_b0 (b.fst) i__ e__ s__) (fun s__ => basin_Basin_levels_f0 (b.fst) s__) 0 (b.fst) (List.take (List.replicate (↑v.length : Int).toNat (0 : Int)).length v ++ List.drop v.length (List.replicate (↑v.length : Int).toNat (0 : Int))) else none) else none)

theorem basin_Basin_levels_run (b : Bas) (v : List Int) (y : List Int × Unit) (h : basin_Basin_levels_M b v = some y) : ∃ n, basin_Basin_levels_m n b v = some y :=
  ⟨big, LeF.top (show LeF some (basin_Basin_levels_M b v) (basin_Basin_levels_m big b v) from (fun (n : Nat) (hn : big ≤ n) => show LeF some (basin_Basin_levels_M b v) (basin_Basin_levels_m n b v) from (leCond (leGuard fun hx => by apply basin_Basin_levels_m_w0_le n hn; exact hx) leNone)) big (Nat.le_refl _)) h⟩
noncomputable def basin_Basin_levels_e : Entry := { f := 98, args := basin_Basin_levels_a, ress := basin_Basin_levels_r, m := fun x => basin_Basin_levels_M x.1 x.2.1 }
theorem basin_Basin_levels_ok : FnOK Tryz.prog basin_Basin_levels_e := fn_ok (g := basin_Basin_levels_g) (fn := Tryz.f98) hmixed tabOk (eCons basin_Node_level_ok eNil) (by kernel_rfl) (by kernel_rfl) (by kernel_rfl) (fun x y h => let ⟨n, hn⟩ := basin_Basin_levels_run x.1 x.2.1 y h; ⟨basin_Basin_levels_an n, iNil, (basin_Basin_levels_eq n x).trans hn⟩)

/-! ### tidewayref04.flow -/
noncomputable def ref04_flow_m_j12 (n : Nat) (b : Bas) (v : List Int) (c : Cnd) (x1 : Lnk) (j0 : Int) : Option (Int × Unit) :=
  (Option.bind (Go.Vx.idx b.fst j0) fun (v1 : Nod) => (bif x1.fst == [(98 : UInt8), (97 : UInt8), (114 : UInt8), (114 : UInt8), (105 : UInt8), (101 : UInt8), (114 : UInt8)] then (bif !c.snd.fst then Option.some ((0 : Int), ()) else (Option.bind (Go.Vx.idx v j0) fun (v2 : Int) => (Option.bind (Go.Vx.idx v j0) fun (v3 : Int) => (Option.bind (Go.Tw.ref04_Floor_M (Go.IntKind.i64.wrap (Go.IntKind.i64.wrap (v1.snd.fst * c.fst) - v3)) x1.snd.snd.snd.snd.fst) fun (v4 : Int × Unit) => Option.some (if Bool.true = Bool.true then if v4.fst > Go.IntKind.i64.wrap ((0 : Int) - v2) then v4.fst else Go.IntKind.i64.wrap ((0 : Int) - v2) else if v4.fst < Go.IntKind.i64.wrap ((0 : Int) - v2) then v4.fst else Go.IntKind.i64.wrap ((0 : Int) - v2), ()))))) else (bif x1.fst == [(108 : UInt8), (101 : UInt8), (97 : UInt8), (107 : UInt8)] then (Option.bind (Go.Vx.idx v j0) fun (v5 : Int) => (Option.bind (Go.Tw.ref04_Floor_M (Go.IntKind.i64.wrap (Go.IntKind.i64.wrap (v1.snd.fst * c.fst) - v5)) x1.snd.snd.snd.snd.fst) fun (v6 : Int × Unit) => Option.some (if Bool.true = Bool.true then if v6.fst > (0 : Int) then v6.fst else (0 : Int) else if v6.fst < (0 : Int) then v6.fst else (0 : Int), ()))) else (bif x1.fst == [(111 : UInt8), (117 : UInt8), (116 : UInt8), (102 : UInt8), (97 : UInt8), (108 : UInt8), (108 : UInt8)] then (Option.bind (Go.Vx.idx v j0) fun (v7 : Int) => (Option.bind (Go.Tw.ref04_Floor_M (Go.IntKind.i64.wrap (v7 - Go.IntKind.i64.wrap (v1.snd.fst * if Bool.true = Bool.true then if x1.snd.snd.snd.fst > c.fst then x1.snd.snd.snd.fst else c.fst else if x1.snd.snd.snd.fst < c.fst then x1.snd.snd.snd.fst else c.fst))) x1.snd.snd.snd.snd.fst) fun (v8 : Int × Unit) => Option.some (if Bool.true = Bool.true then if v8.fst > (0 : Int) then v8.fst else (0 : Int) else if v8.fst < (0 : Int) then v8.fst else (0 : Int), ()))) else (bif x1.fst == [(112 : UInt8), (117 : UInt8), (109 : UInt8), (112 : UInt8)] then (Option.bind (Go.Vx.idx v j0) fun (v9 : Int) => Option.some (if Bool.true = Bool.true then if (if Bool.false = Bool.true then if Go.IntKind.i64.wrap (v9 - Go.IntKind.i64.wrap (v1.snd.fst * x1.snd.snd.snd.fst)) > x1.snd.snd.snd.snd.fst then Go.IntKind.i64.wrap (v9 - Go.IntKind.i64.wrap (v1.snd.fst * x1.snd.snd.snd.fst)) else x1.snd.snd.snd.snd.fst else if Go.IntKind.i64.wrap (v9 - Go.IntKind.i64.wrap (v1.snd.fst * x1.snd.snd.snd.fst)) < x1.snd.snd.snd.snd.fst then Go.IntKind.i64.wrap (v9 - Go.IntKind.i64.wrap (v1.snd.fst * x1.snd.snd.snd.fst)) else x1.snd.snd.snd.snd.fst) > (0 : Int) then if Bool.false = Bool.true then if Go.IntKind.i64.wrap (v9 - Go.IntKind.i64.wrap (v1.snd.fst * x1.snd.snd.snd.fst)) > x1.snd.snd.snd.snd.fst then Go.IntKind.i64.wrap (v9 - Go.IntKind.i64.wrap (v1.snd.fst * x1.snd.snd.snd.fst)) else x1.snd.snd.snd.snd.fst else if Go.IntKind.i64.wrap (v9 - Go.IntKind.i64.wrap (v1.snd.fst * x1.snd.snd.snd.fst)) < x1.snd.snd.snd.snd.fst then Go.IntKind.i64.wrap (v9 - Go.IntKind.i64.wrap (v1.snd.fst * x1.snd.snd.snd.fst)) else x1.snd.snd.snd.snd.fst else (0 : Int) else if (if Bool.false = Bool.true then if Go.IntKind.i64.wrap (v9 - Go.IntKind.i64.wrap (v1.snd.fst * x1.snd.snd.snd.fst)) > x1.snd.snd.snd.snd.fst then Go.IntKind.i64.wrap (v9 - Go.IntKind.i64.wrap (v1.snd.fst * x1.snd.snd.snd.fst)) else x1.snd.snd.snd.snd.fst else if Go.IntKind.i64.wrap (v9 - Go.IntKind.i64.wrap (v1.snd.fst * x1.snd.snd.snd.fst)) < x1.snd.snd.snd.snd.fst then Go.IntKind.i64.wrap (v9 - Go.IntKind.i64.wrap (v1.snd.fst * x1.snd.snd.snd.fst)) else x1.snd.snd.snd.snd.fst) < (0 : Int) then if Bool.false = Bool.true then if Go.IntKind.i64.wrap (v9 - Go.IntKind.i64.wrap (v1.snd.fst * x1.snd.snd.snd.fst)) > x1.snd.snd.snd.snd.fst then Go.IntKind.i64.wrap (v9 - Go.IntKind.i64.wrap (v1.snd.fst * x1.snd.snd.snd.fst)) else x1.snd.snd.snd.snd.fst else if Go.IntKind.i64.wrap (v9 - Go.IntKind.i64.wrap (v1.snd.fst * x1.snd.snd.snd.fst)) < x1.snd.snd.snd.snd.fst then Go.IntKind.i64.wrap (v9 - Go.IntKind.i64.wrap (v1.snd.fst * x1.snd.snd.snd.fst)) else x1.snd.snd.snd.snd.fst else (0 : Int), ())) else (Option.bind (Go.Vx.idx v j0) fun (v10 : Int) => (Option.bind (Go.Tw.ref04_Floor_M (Go.IntKind.i64.wrap (v10 - Go.IntKind.i64.wrap (v1.snd.fst * x1.snd.snd.snd.fst))) x1.snd.snd.snd.snd.fst) fun (v11 : Int × Unit) => Option.some (if Bool.true = Bool.true then if v11.fst > (0 : Int) then v11.fst else (0 : Int) else if v11.fst < (0 : Int) then v11.fst else (0 : Int), ()))))))))

noncomputable def ref04_flow_m (n : Nat) (b : Bas) (v : List Int) (c : Cnd) (x1 : Lnk) : Option (Int × Unit) :=
  (bif Decidable.decide (x1.snd.fst < (0 : Int)) then (ref04_flow_m_j12 n b v c x1 (x1.snd.snd.fst)) else (ref04_flow_m_j12 n b v c x1 (x1.snd.fst)))

noncomputable def ref04_flow_M (b : Bas) (v : List Int) (c : Cnd) (x1 : Lnk) : Option (Int × Unit) := ref04_flow_m 0 b v c x1

/-! ### basin.checkInterval -/
abbrev basin_checkInterval_a : Ty := .pair t96 (.pair t176 .unit)
abbrev basin_checkInterval_r : Ty := .pair t35 .unit
noncomputable def basin_checkInterval_g : G := { T := T, E := [basin_when_e, basin_first_e], muts := [], fz := [] }
def basin_checkInterval_k : List (List Nat) := []
noncomputable def basin_checkInterval_an (n : Nat) : Ann := { keep := basin_checkInterval_k, fuel := n, inl := [], deep := 0 }
noncomputable def basin_checkInterval_m (n : Nat) (x1 : Int × Int × Unit) (check : Int × Unit → Option (Int × Unit)) : Option (Int × Unit) :=
  (Option.bind (check (x1.fst, ())) fun (v0 : Int × Unit) => (Option.bind (check (x1.snd.fst, ())) fun (v1 : Int × Unit) => (Option.bind (Go.Tw.basin_first_M [v0.fst, v1.fst, (Go.Tw.basin_when (Decidable.decide (x1.fst > x1.snd.fst)) (11 : Int)).fst]) fun (v2 : Int × Unit) => Option.some (v2.fst, ()))))

theorem basin_checkInterval_eq (n : Nat) (x : basin_checkInterval_a.den) : runF basin_checkInterval_g (basin_checkInterval_an n) Tryz.f158 basin_checkInterval_a basin_checkInterval_r x = basin_checkInterval_m n x.1 x.2.1 := by kernel_rfl

noncomputable def basin_checkInterval_M (x1 : Int × Int × Unit) (check : Int × Unit → Option (Int × Unit)) : Option (Int × Unit) := basin_checkInterval_m 0 x1 check

theorem basin_checkInterval_run (x1 : Int × Int × Unit) (check : Int × Unit → Option (Int × Unit)) (y : Int × Unit) (h : basin_checkInterval_M x1 check = some y) : ∃ n, basin_checkInterval_m n x1 check = some y := ⟨0, h⟩
noncomputable def basin_checkInterval_e : Entry := { f := 158, args := basin_checkInterval_a, ress := basin_checkInterval_r, m := fun x => basin_checkInterval_M x.1 x.2.1 }
theorem basin_checkInterval_ok : FnOK Tryz.prog basin_checkInterval_e := fn_ok (g := basin_checkInterval_g) (fn := Tryz.f158) hmixed tabOk (eCons basin_when_ok (eCons basin_first_ok eNil)) (by kernel_rfl) (by kernel_rfl) (by kernel_rfl) (fun x y h => let ⟨n, hn⟩ := basin_checkInterval_run x.1 x.2.1 y h; ⟨basin_checkInterval_an n, iNil, (basin_checkInterval_eq n x).trans hn⟩)

/-! ### basin.end$1 -/
abbrev basin_end_1_a : Ty := .pair t96 (.pair (.ref t3) .unit)
abbrev basin_end_1_r : Ty := .pair t3 .unit
noncomputable def basin_end_1_g : G := { T := T, E := [basin_ends_e], muts := [], fz := [] }
def basin_end_1_k : List (List Nat) := []
noncomputable def basin_end_1_an (n : Nat) : Ann := { keep := basin_end_1_k, fuel := n, inl := [], deep := 0 }
noncomputable def basin_end_1_m (n : Nat) (x1 : Int × Int × Unit) (p1 : Int) : Option (Int × Unit) :=
  (Option.bind (Go.Vx.idx (Go.Tw.basin_ends x1).fst p1) fun (v0 : Int) => Option.some (v0, ()))

theorem basin_end_1_eq (n : Nat) (x : basin_end_1_a.den) : runF basin_end_1_g (basin_end_1_an n) Tryz.f165 basin_end_1_a basin_end_1_r x = basin_end_1_m n x.1 x.2.1 := by kernel_rfl

noncomputable def basin_end_1_M (x1 : Int × Int × Unit) (p1 : Int) : Option (Int × Unit) := basin_end_1_m 0 x1 p1

theorem basin_end_1_run (x1 : Int × Int × Unit) (p1 : Int) (y : Int × Unit) (h : basin_end_1_M x1 p1 = some y) : ∃ n, basin_end_1_m n x1 p1 = some y := ⟨0, h⟩
noncomputable def basin_end_1_e : Entry := { f := 165, args := basin_end_1_a, ress := basin_end_1_r, m := fun x => basin_end_1_M x.1 x.2.1 }
theorem basin_end_1_ok : FnOK Tryz.prog basin_end_1_e := fn_ok (g := basin_end_1_g) (fn := Tryz.f165) hmixed tabOk (eCons basin_ends_ok eNil) (by kernel_rfl) (by kernel_rfl) (by kernel_rfl) (fun x y h => let ⟨n, hn⟩ := basin_end_1_run x.1 x.2.1 y h; ⟨basin_end_1_an n, iNil, (basin_end_1_eq n x).trans hn⟩)

/-! ### (basin.place).fromSea -/
abbrev basin_place_fromSea_a : Ty := .pair t230 .unit
abbrev basin_place_fromSea_r : Ty := .pair t3 .unit
noncomputable def basin_place_fromSea_g : G := { T := T, E := [basin_floor_e], muts := [], fz := [] }
def basin_place_fromSea_k : List (List Nat) := []
noncomputable def basin_place_fromSea_an (n : Nat) : Ann := { keep := basin_place_fromSea_k, fuel := n, inl := [], deep := 0 }
noncomputable def basin_place_fromSea_m (n : Nat) (p : Lnk × Int × Int × Int × Bool × Unit) : Option (Int × Unit) :=
  (Option.bind (Go.Tw.basin_floor_M (Go.IntKind.i64.wrap (Go.IntKind.i64.wrap (p.snd.snd.fst * p.snd.snd.snd.fst) - p.snd.fst)) p.fst.snd.snd.snd.snd.fst) fun (v0 : Int × Unit) => Option.some (v0.fst, ()))

theorem basin_place_fromSea_eq (n : Nat) (x : basin_place_fromSea_a.den) : runF basin_place_fromSea_g (basin_place_fromSea_an n) Tryz.f180 basin_place_fromSea_a basin_place_fromSea_r x = basin_place_fromSea_m n x.1 := by kernel_rfl

noncomputable def basin_place_fromSea_M (p : Lnk × Int × Int × Int × Bool × Unit) : Option (Int × Unit) := basin_place_fromSea_m 0 p

theorem basin_place_fromSea_run (p : Lnk × Int × Int × Int × Bool × Unit) (y : Int × Unit) (h : basin_place_fromSea_M p = some y) : ∃ n, basin_place_fromSea_m n p = some y := ⟨0, h⟩
noncomputable def basin_place_fromSea_e : Entry := { f := 180, args := basin_place_fromSea_a, ress := basin_place_fromSea_r, m := fun x => basin_place_fromSea_M x.1 }
theorem basin_place_fromSea_ok : FnOK Tryz.prog basin_place_fromSea_e := fn_ok (g := basin_place_fromSea_g) (fn := Tryz.f180) hmixed tabOk (eCons basin_floor_ok eNil) (by kernel_rfl) (by kernel_rfl) (by kernel_rfl) (fun x y h => let ⟨n, hn⟩ := basin_place_fromSea_run x.1 y h; ⟨basin_place_fromSea_an n, iNil, (basin_place_fromSea_eq n x).trans hn⟩)

/-! ### (basin.place).over -/
abbrev basin_place_over_a : Ty := .pair t230 (.pair t3 .unit)
abbrev basin_place_over_r : Ty := .pair t3 .unit
noncomputable def basin_place_over_g : G := { T := T, E := [basin_floor_e], muts := [], fz := [] }
def basin_place_over_k : List (List Nat) := []
noncomputable def basin_place_over_an (n : Nat) : Ann := { keep := basin_place_over_k, fuel := n, inl := [], deep := 0 }
noncomputable def basin_place_over_m (n : Nat) (p : Lnk × Int × Int × Int × Bool × Unit) (level : Int) : Option (Int × Unit) :=
  (Option.bind (Go.Tw.basin_floor_M (Go.IntKind.i64.wrap (p.snd.fst - Go.IntKind.i64.wrap (p.snd.snd.fst * level))) p.fst.snd.snd.snd.snd.fst) fun (v0 : Int × Unit) => Option.some (if Bool.true = Bool.true then if v0.fst > (0 : Int) then v0.fst else (0 : Int) else if v0.fst < (0 : Int) then v0.fst else (0 : Int), ()))

theorem basin_place_over_eq (n : Nat) (x : basin_place_over_a.den) : runF basin_place_over_g (basin_place_over_an n) Tryz.f182 basin_place_over_a basin_place_over_r x = basin_place_over_m n x.1 x.2.1 := by kernel_rfl

noncomputable def basin_place_over_M (p : Lnk × Int × Int × Int × Bool × Unit) (level : Int) : Option (Int × Unit) := basin_place_over_m 0 p level

theorem basin_place_over_run (p : Lnk × Int × Int × Int × Bool × Unit) (level : Int) (y : Int × Unit) (h : basin_place_over_M p level = some y) : ∃ n, basin_place_over_m n p level = some y := ⟨0, h⟩
noncomputable def basin_place_over_e : Entry := { f := 182, args := basin_place_over_a, ress := basin_place_over_r, m := fun x => basin_place_over_M x.1 x.2.1 }
theorem basin_place_over_ok : FnOK Tryz.prog basin_place_over_e := fn_ok (g := basin_place_over_g) (fn := Tryz.f182) hmixed tabOk (eCons basin_floor_ok eNil) (by kernel_rfl) (by kernel_rfl) (by kernel_rfl) (fun x y h => let ⟨n, hn⟩ := basin_place_over_run x.1 x.2.1 y h; ⟨basin_place_over_an n, iNil, (basin_place_over_eq n x).trans hn⟩)

end Go.Tw
end

section
set_option linter.all false
set_option maxRecDepth 1000000
namespace Go.Tw
open Go.Vx Go.Vx.B Go.Proofs
/-! ### tidewayref04.CheckBasin -/
abbrev ref04_CheckBasin_a : Ty := .pair t25 .unit
abbrev ref04_CheckBasin_r : Ty := .pair t3 .unit
noncomputable def ref04_CheckBasin_g : G := { T := T, E := [ref04_CheckNodes_e, ref04_checkLink_e], muts := [], fz := [] }
def ref04_CheckBasin_k : List (List Nat) := [[1, 4]]
noncomputable def ref04_CheckBasin_an (n : Nat) : Ann := { keep := ref04_CheckBasin_k, fuel := n, inl := [], deep := 0 }
noncomputable def ref04_CheckBasin_m_l1 (n : Nat) (r1 : Bas → Int → Option (Int × Unit)) (b1_1 : Bas) (i4_1 : Int) : Option (Int × Unit) :=
  (bif Decidable.decide (i4_1 < (↑b1_1.snd.fst.length : Int)) then (Option.bind (Go.Vx.idx b1_1.snd.fst i4_1) fun (v2 : Lnk) => (Option.bind (Go.Tw.ref04_checkLink_M v2 (↑b1_1.fst.length : Int)) fun (v3 : Int × Unit) => (bif v3.fst != (0 : Int) then Option.some (v3.fst, ()) else r1 b1_1 (Go.IntKind.i64.wrap (i4_1 + (1 : Int)))))) else Option.some ((0 : Int), ()))

noncomputable def ref04_CheckBasin_m_w1 (n : Nat)  (k : Nat) (b1_1 : Bas) (i4_1 : Int) : Option (Int × Unit) :=
  iter (fun r y => ref04_CheckBasin_m_l1 n (fun b1_1 i4_1 => r ((b1_1, (i4_1, ())), ((), ()))) y.1.1 y.1.2.1) k ((b1_1, (i4_1, ())), ((), ()))

noncomputable def ref04_CheckBasin_m (n : Nat) (b : Bas) : Option (Int × Unit) :=
  (Option.bind (Go.Tw.ref04_CheckNodes_M b.fst) fun (v0 : Int × Unit) => (bif v0.fst != (0 : Int) then Option.some (v0.fst, ()) else (bif Decidable.decide ((↑b.snd.fst.length : Int) > (16 : Int)) then Option.some ((5 : Int), ()) else (ref04_CheckBasin_m_w1 n n (b) ((0 : Int))))))

theorem ref04_CheckBasin_eq (n : Nat) (x : ref04_CheckBasin_a.den) : runF ref04_CheckBasin_g (ref04_CheckBasin_an n) Tryz.f24 ref04_CheckBasin_a ref04_CheckBasin_r x = ref04_CheckBasin_m n x.1 := by kernel_rfl

noncomputable def ref04_CheckBasin_b1 (b1_1 : Bas) (i4_1 : Int) (v2 : Lnk) : Option ((Int × Unit) ⊕ Unit) :=
  (Option.bind (Go.Tw.ref04_checkLink_M v2 (↑b1_1.fst.length : Int)) fun (v3 : Int × Unit) => (bif v3.fst != (0 : Int) then (some (Sum.inl ((v3.fst, ())))) else (some (Sum.inr ()))))

noncomputable def ref04_CheckBasin_f1 (b1_1 : Bas) : Option (Int × Unit) :=
  (some (((0 : Int), ())))

theorem ref04_CheckBasin_m_w1_le (n : Nat) (hn : big ≤ n)  (b1_1 : Bas) (hx : List.length (b1_1.snd.fst) < lenMax) : LeF some (loopL (fun i__ e__ s__ => ref04_CheckBasin_b1 b1_1 i__ e__) (fun s__ => ref04_CheckBasin_f1 b1_1) 0 (b1_1.snd.fst) ()) (ref04_CheckBasin_m_w1 n n b1_1 0) := by
  refine loopL_le (f := some) (W := fun k__ i__ s__ => ref04_CheckBasin_m_w1 n k__ b1_1 i__) (body := (fun i__ e__ s__ => ref04_CheckBasin_b1 b1_1 i__ e__)) (fin := (fun s__ => ref04_CheckBasin_f1 b1_1)) (fun k__ i__ s__ => ?_) hx () n (by unfold big at hn; unfold lenMax at hx; omega)
  show LeF _ _ (ref04_CheckBasin_m_l1 n (ref04_CheckBasin_m_w1 n k__) b1_1 i__)
  exact leCond (leBind fun v2 => (leBind fun v3 => (leCond (leSome rfl) (leSome rfl)))) (leMap (leSome rfl))

noncomputable def ref04_CheckBasin_M (b : Bas) : Option (Int × Unit) :=
  (Option.bind (Go.Tw.ref04_CheckNodes_M b.fst) fun (v0 : Int × Unit) => (bif v0.fst != (0 : Int) then (some ((v0.fst, ()))) else (bif Decidable.decide ((↑b.snd.fst.length : Int) > (16 : Int)) then (some (((5 : Int), ()))) else (bif decide (List.length (b.snd.fst) < lenMax) then loopL (fun i__ e__ s__ => ref04_CheckBasin_b1 (b) i__ e__) (fun s__ => ref04_CheckBasin_f1 (b)) 0 (b.snd.fst) () else none))))

theorem ref04_CheckBasin_run (b : Bas) (y : Int × Unit) (h : ref04_CheckBasin_M b = some y) : ∃ n, ref04_CheckBasin_m n b = some y :=
  ⟨big, LeF.top (show LeF some (ref04_CheckBasin_M b) (ref04_CheckBasin_m big b) from (fun (n : Nat) (hn : big ≤ n) => show LeF some (ref04_CheckBasin_M b) (ref04_CheckBasin_m n b) from (leBind fun v0 => (leCond (leSome rfl) (leCond (leSome rfl) (leGuard fun hx => by apply ref04_CheckBasin_m_w1_le n hn; exact hx))))) big (Nat.le_refl _)) h⟩
noncomputable def ref04_CheckBasin_e : Entry := { f := 24, args := ref04_CheckBasin_a, ress := ref04_CheckBasin_r, m := fun x => ref04_CheckBasin_M x.1 }
theorem ref04_CheckBasin_ok : FnOK Tryz.prog ref04_CheckBasin_e := fn_ok (g := ref04_CheckBasin_g) (fn := Tryz.f24) hmixed tabOk (eCons ref04_CheckNodes_ok (eCons ref04_checkLink_ok eNil)) (by kernel_rfl) (by kernel_rfl) (by kernel_rfl) (fun x y h => let ⟨n, hn⟩ := ref04_CheckBasin_run x.1 y h; ⟨ref04_CheckBasin_an n, iNil, (ref04_CheckBasin_eq n x).trans hn⟩)

/-! ### tidewayref04.Moved -/
noncomputable def ref04_Moved_s21 (b3_7 : Bas) (c5_7 : Cnd) (i12_7 : Int) (c1_7 : List Int) (v9 : Int × Unit) (j19 : List Int) : Option ((List Int × List Int × Int × Unit) ⊕ (List Int × List Int)) :=
  (Option.bind (Go.Tw.ref04_tooMuch_M j19) fun (v20 : Bool × Unit) => (bif v20.fst then (some (Sum.inl (([], [], (4 : Int), ())))) else (bif Decidable.decide (c1_7.length + (1 : Nat) ≤ Go.Vx.memMax) then (some (Sum.inr ((j19), (c1_7 ++ [v9.fst])))) else none)))

noncomputable def ref04_Moved_s22 (b3_7 : Bas) (c5_7 : Cnd) (i12_7 : Int) (c1_7 : List Int) (v8 : Lnk) (v9 : Int × Unit) (j14 : List Int) : Option ((List Int × List Int × Int × Unit) ⊕ (List Int × List Int)) :=
  (bif Decidable.decide (v8.snd.snd.fst ≥ (0 : Int)) then (Option.bind (Go.Vx.idx j14 v8.snd.snd.fst) fun (v15 : Int) => (Option.bind (j14[v8.snd.snd.fst.toNat]?) fun (v16 : Int) => (Option.bind (Go.Vx.idx j14 v8.snd.snd.fst) fun (v17 : Int) => (Option.bind (j14[v8.snd.snd.fst.toNat]?) fun (v18 : Int) => (ref04_Moved_s21 b3_7 c5_7 i12_7 c1_7 v9 (j14.set v8.snd.snd.fst.toNat (Go.IntKind.i64.wrap (v16 + v9.fst)))))))) else (ref04_Moved_s21 b3_7 c5_7 i12_7 c1_7 v9 (j14)))

noncomputable def ref04_Moved_b7 (b3_7 : Bas) (c5_7 : Cnd) (i12_7 : Int) (v8 : Lnk) (c0_7 : List Int) (c1_7 : List Int) : Option ((List Int × List Int × Int × Unit) ⊕ (List Int × List Int)) :=
  (Option.bind (Go.Tw.ref04_flow_M b3_7 c0_7 c5_7 (v8.fst, v8.snd.fst, v8.snd.snd.fst, v8.snd.snd.snd.fst, v8.snd.snd.snd.snd.fst, ())) fun (v9 : Int × Unit) => (bif Decidable.decide (v8.snd.fst ≥ (0 : Int)) then (Option.bind (Go.Vx.idx c0_7 v8.snd.fst) fun (v10 : Int) => (Option.bind (c0_7[v8.snd.fst.toNat]?) fun (v11 : Int) => (Option.bind (Go.Vx.idx c0_7 v8.snd.fst) fun (v12 : Int) => (Option.bind (c0_7[v8.snd.fst.toNat]?) fun (v13 : Int) => (ref04_Moved_s22 b3_7 c5_7 i12_7 c1_7 v8 v9 (c0_7.set v8.snd.fst.toNat (Go.IntKind.i64.wrap (v11 - v9.fst)))))))) else (ref04_Moved_s22 b3_7 c5_7 i12_7 c1_7 v8 v9 (c0_7))))

noncomputable def ref04_Moved_f7 (b3_7 : Bas) (c5_7 : Cnd) (c0_7 : List Int) (c1_7 : List Int) : Option (List Int × List Int × Int × Unit) :=
  (some ((c1_7, c0_7, (0 : Int), ())))

noncomputable def ref04_Moved_b0 (b3_0 : Bas) (c5_0 : Cnd) (i10_0 : Int) (c0_0 : List Int) : Option ((List Int × List Int × Int × Unit) ⊕ (List Int)) :=
  (Option.bind (Go.Vx.idx c0_0 i10_0) fun (v1 : Int) => (Option.bind (c0_0[i10_0.toNat]?) fun (v2 : Int) => (Option.bind (Go.Vx.idx c5_0.snd.snd.fst i10_0) fun (v3 : Int) => (Option.bind (Go.Vx.idx c0_0 i10_0) fun (v4 : Int) => (Option.bind (c0_0[i10_0.toNat]?) fun (v5 : Int) => (some (Sum.inr (c0_0.set i10_0.toNat (Go.IntKind.i64.wrap (v2 + v3))))))))))

noncomputable def ref04_Moved_f0 (b3_0 : Bas) (c5_0 : Cnd) (c0_0 : List Int) : Option (List Int × List Int × Int × Unit) :=
  (Option.bind (Go.Tw.ref04_tooMuch_M c0_0) fun (v6 : Bool × Unit) => (bif v6.fst then (some (([], [], (4 : Int), ()))) else (bif decide (List.length (b3_0.snd.fst) < lenMax) then loopL (fun i__ e__ s__ => ref04_Moved_b7 (b3_0) (c5_0) i__ e__ s__.1 s__.2) (fun s__ => ref04_Moved_f7 (b3_0) (c5_0) s__.1 s__.2) 0 (b3_0.snd.fst) ((c0_0), ([])) else none)))

noncomputable def ref04_Moved_M (b : Bas) (v : List Int) (c : Cnd) : Option (List Int × List Int × Int × Unit) :=
  (bif Decidable.decide ((0 : Nat) + v.length ≤ Go.Vx.memMax) then (bif decide (((↑v.length : Int)) ≤ (9223372036854775807 : Int)) then loopG (fun s__ => (↑s__.length : Int)) (fun i__ s__ => ref04_Moved_b0 (b) (c) i__ s__) (fun s__ => ref04_Moved_f0 (b) (c) s__) (((↑v.length : Int)) - 0).toNat 0 (v) else none) else none)

/-! ### (basin.Basin).above -/
abbrev basin_Basin_above_a : Ty := .pair t41 (.pair t26 .unit)
abbrev basin_Basin_above_r : Ty := .pair t26 .unit
noncomputable def basin_Basin_above_g : G := { T := T, E := [basin_Basin_levels_e], muts := [5], fz := [] }
def basin_Basin_above_k : List (List Nat) := [[2, 5, 10, 11, 12]]
noncomputable def basin_Basin_above_an (n : Nat) : Ann := { keep := basin_Basin_above_k, fuel := n, inl := [], deep := 0 }
noncomputable def basin_Basin_above_m_l1 (n : Nat) (r1 : Bas → List Int → Int → Int → List Int → Option (List Int × Unit)) (b2_1 : Bas) (t10_1 : List Int) (t11_1 : Int) (t12_1 : Int) (c0_1 : List Int) : Option (List Int × Unit) :=
  (bif Decidable.decide (t12_1 < t11_1) then (Option.bind (Go.Vx.idx t10_1 t12_1) fun (v2 : Int) => (Option.bind (Go.Vx.idx b2_1.fst t12_1) fun (v3 : Nod) => (bif Decidable.decide (v2 > v3.snd.snd.fst) then (bif Decidable.decide (c0_1.length + (1 : Nat) ≤ Go.Vx.memMax) then r1 b2_1 t10_1 t11_1 (Go.IntKind.i64.wrap (t12_1 + (1 : Int))) (c0_1 ++ [t12_1]) else none) else r1 b2_1 t10_1 t11_1 (Go.IntKind.i64.wrap (t12_1 + (1 : Int))) c0_1))) else Option.some (c0_1, ()))

noncomputable def basin_Basin_above_m_w1 (n : Nat)  (k : Nat) (b2_1 : Bas) (t10_1 : List Int) (t11_1 : Int) (t12_1 : Int) (c0_1 : List Int) : Option (List Int × Unit) :=
  iter (fun r y => basin_Basin_above_m_l1 n (fun b2_1 t10_1 t11_1 t12_1 c0_1 => r ((b2_1, (t10_1, (t11_1, (t12_1, ())))), ((c0_1, ()), ()))) y.1.1 y.1.2.1 y.1.2.2.1 y.1.2.2.2.1 y.2.1.1) k ((b2_1, (t10_1, (t11_1, (t12_1, ())))), ((c0_1, ()), ()))

noncomputable def basin_Basin_above_m (n : Nat) (b : Bas) (v : List Int) : Option (List Int × Unit) :=
  (Option.bind (Go.Tw.basin_Basin_levels_M b v) fun (v0 : List Int × Unit) => (basin_Basin_above_m_w1 n n (b) (v0.fst) ((↑v0.fst.length : Int)) ((0 : Int)) ([])))

theorem basin_Basin_above_eq (n : Nat) (x : basin_Basin_above_a.den) : runF basin_Basin_above_g (basin_Basin_above_an n) Tryz.f99 basin_Basin_above_a basin_Basin_above_r x = basin_Basin_above_m n x.1 x.2.1 := by kernel_rfl

noncomputable def basin_Basin_above_b1 (b2_1 : Bas) (t10_1 : List Int) (t12_1 : Int) (v2 : Int) (c0_1 : List Int) : Option ((List Int × Unit) ⊕ (List Int)) :=
  (Option.bind (Go.Vx.idx b2_1.fst t12_1) fun (v3 : Nod) => (bif Decidable.decide (v2 > v3.snd.snd.fst) then (bif Decidable.decide (c0_1.length + (1 : Nat) ≤ Go.Vx.memMax) then (some (Sum.inr (c0_1 ++ [t12_1]))) else none) else (some (Sum.inr (c0_1)))))

noncomputable def basin_Basin_above_f1 (b2_1 : Bas) (t10_1 : List Int) (c0_1 : List Int) : Option (List Int × Unit) :=
  (some ((c0_1, ())))

theorem basin_Basin_above_m_w1_le (n : Nat) (hn : big ≤ n)  (b2_1 : Bas) (t10_1 : List Int) (c0_1 : List Int) (hx : List.length (t10_1) < lenMax) : LeF some (loopL (fun i__ e__ s__ => basin_Basin_above_b1 b2_1 t10_1 i__ e__ s__) (fun s__ => basin_Basin_above_f1 b2_1 t10_1 s__) 0 (t10_1) c0_1) (basin_Basin_above_m_w1 n n b2_1 t10_1 (List.length (t10_1) : Int) 0 c0_1) := by
  refine loopL_le (f := some) (W := fun k__ i__ s__ => basin_Basin_above_m_w1 n k__ b2_1 t10_1 (List.length (t10_1) : Int) i__ s__) (body := (fun i__ e__ s__ => basin_Basin_above_b1 b2_1 t10_1 i__ e__ s__)) (fin := (fun s__ => basin_Basin_above_f1 b2_1 t10_1 s__)) (fun k__ i__ s__ => ?_) hx c0_1 n (by unfold big at hn; unfold lenMax at hx; omega)
  show LeF _ _ (basin_Basin_above_m_l1 n (basin_Basin_above_m_w1 n k__) b2_1 t10_1 (List.length (t10_1) : Int) i__ s__)
  exact leCond (leBind fun v2 => (leBind fun v3 => (leCond (leCond (leSome rfl) leNone) (leSome rfl)))) (leMap (leSome rfl))

noncomputable def basin_Basin_above_M (b : Bas) (v : List Int) : Option (List Int × Unit) :=
  (Option.bind (Go.Tw.basin_Basin_levels_M b v) fun (v0 : List Int × Unit) => (bif decide (List.length (v0.fst) < lenMax) then loopL (fun i__ e__ s__ => basin_Basin_above_b1 (b) (v0.fst) i__ e__ s__) (fun s__ => basin_Basin_above_f1 (b) (v0.fst) s__) 0 (v0.fst) ([]) else none))

theorem basin_Basin_above_run (b : Bas) (v : List Int) (y : List Int × Unit) (h : basin_Basin_above_M b v = some y) : ∃ n, basin_Basin_above_m n b v = some y :=
  ⟨big, LeF.top (show LeF some (basin_Basin_above_M b v) (basin_Basin_above_m big b v) from (fun (n : Nat) (hn : big ≤ n) => show LeF some (basin_Basin_above_M b v) (basin_Basin_above_m n b v) from (leBind fun v0 => (leGuard fun hx => by apply basin_Basin_above_m_w1_le n hn; exact hx))) big (Nat.le_refl _)) h⟩
noncomputable def basin_Basin_above_e : Entry := { f := 99, args := basin_Basin_above_a, ress := basin_Basin_above_r, m := fun x => basin_Basin_above_M x.1 x.2.1 }
theorem basin_Basin_above_ok : FnOK Tryz.prog basin_Basin_above_e := fn_ok (g := basin_Basin_above_g) (fn := Tryz.f99) hmixed tabOk (eCons basin_Basin_levels_ok eNil) (by kernel_rfl) (by kernel_rfl) (by kernel_rfl) (fun x y h => let ⟨n, hn⟩ := basin_Basin_above_run x.1 x.2.1 y h; ⟨basin_Basin_above_an n, iNil, (basin_Basin_above_eq n x).trans hn⟩)

/-! ### basin.end -/
abbrev basin_end_a : Ty := .pair t97 (.pair t3 .unit)
abbrev basin_end_r : Ty := .pair t26 .unit
noncomputable def basin_end_g : G := { T := T, E := [basin_end_1_e, basin_mapped_api_Interval_int_e], muts := [], fz := [] }
def basin_end_k : List (List Nat) := []
noncomputable def basin_end_an (n : Nat) : Ann := { keep := basin_end_k, fuel := n, inl := [], deep := 0 }
noncomputable def basin_end_m (n : Nat) (l : List (Int × Int × Unit)) (upper : Int) : Option (List Int × Unit) :=
  (Option.bind (Go.Tw.basin_mapped_api_Interval_int_M l fun (x : (Int × Int × Unit) × Unit) => Go.Tw.basin_end_1_M x.fst upper) fun (v0 : List Int × Unit) => Option.some (v0.fst, ()))

theorem basin_end_eq (n : Nat) (x : basin_end_a.den) : runF basin_end_g (basin_end_an n) Tryz.f119 basin_end_a basin_end_r x = basin_end_m n x.1 x.2.1 := by kernel_rfl

noncomputable def basin_end_M (l : List (Int × Int × Unit)) (upper : Int) : Option (List Int × Unit) := basin_end_m 0 l upper

theorem basin_end_run (l : List (Int × Int × Unit)) (upper : Int) (y : List Int × Unit) (h : basin_end_M l upper = some y) : ∃ n, basin_end_m n l upper = some y := ⟨0, h⟩
noncomputable def basin_end_e : Entry := { f := 119, args := basin_end_a, ress := basin_end_r, m := fun x => basin_end_M x.1 x.2.1 }
theorem basin_end_ok : FnOK Tryz.prog basin_end_e := fn_ok (g := basin_end_g) (fn := Tryz.f119) hmixed tabOk (eCons basin_end_1_ok (eCons basin_mapped_api_Interval_int_ok eNil)) (by kernel_rfl) (by kernel_rfl) (by kernel_rfl) (fun x y h => let ⟨n, hn⟩ := basin_end_run x.1 x.2.1 y h; ⟨basin_end_an n, iNil, (basin_end_eq n x).trans hn⟩)

/-! ### basin.checkTide -/
abbrev basin_checkTide_a : Ty := .pair t3 .unit
abbrev basin_checkTide_r : Ty := .pair t35 .unit
noncomputable def basin_checkTide_g : G := { T := T, E := [basin_within_e], muts := [], fz := [] }
def basin_checkTide_k : List (List Nat) := []
noncomputable def basin_checkTide_an (n : Nat) : Ann := { keep := basin_checkTide_k, fuel := n, inl := [], deep := 0 }
noncomputable def basin_checkTide_m (n : Nat) (n1 : Int) : Option (Int × Unit) :=
  Option.some ((Go.Tw.basin_within n1 (-1024 : Int) (1024 : Int)).fst, ())

theorem basin_checkTide_eq (n : Nat) (x : basin_checkTide_a.den) : runF basin_checkTide_g (basin_checkTide_an n) Tryz.f137 basin_checkTide_a basin_checkTide_r x = basin_checkTide_m n x.1 := by kernel_rfl

noncomputable def basin_checkTide (n1 : Int) : (Int × Unit) :=
  ((Go.Tw.basin_within n1 (-1024 : Int) (1024 : Int)).fst, ())

noncomputable abbrev basin_checkTide_M (n1 : Int) : Option (Int × Unit) := some (basin_checkTide n1)

theorem basin_checkTide_run (n1 : Int) (y : Int × Unit) (h : basin_checkTide_M n1 = some y) : ∃ n, basin_checkTide_m n n1 = some y :=
  ⟨0, by rw [← h]; show basin_checkTide_m 0 n1 = some (basin_checkTide n1); unfold basin_checkTide_m basin_checkTide; first | rfl | (simp only [cond_some]; done) | (simp only [cond_some]; rfl)⟩
noncomputable def basin_checkTide_e : Entry := { f := 137, args := basin_checkTide_a, ress := basin_checkTide_r, m := fun x => basin_checkTide_M x.1 }
theorem basin_checkTide_ok : FnOK Tryz.prog basin_checkTide_e := fn_ok (g := basin_checkTide_g) (fn := Tryz.f137) hmixed tabOk (eCons basin_within_ok eNil) (by kernel_rfl) (by kernel_rfl) (by kernel_rfl) (fun x y h => let ⟨n, hn⟩ := basin_checkTide_run x.1 y h; ⟨basin_checkTide_an n, iNil, (basin_checkTide_eq n x).trans hn⟩)

/-! ### basin.checkInflow -/
abbrev basin_checkInflow_a : Ty := .pair t3 .unit
abbrev basin_checkInflow_r : Ty := .pair t35 .unit
noncomputable def basin_checkInflow_g : G := { T := T, E := [basin_within_e], muts := [], fz := [] }
def basin_checkInflow_k : List (List Nat) := []
noncomputable def basin_checkInflow_an (n : Nat) : Ann := { keep := basin_checkInflow_k, fuel := n, inl := [], deep := 0 }
noncomputable def basin_checkInflow_m (n : Nat) (n1 : Int) : Option (Int × Unit) :=
  Option.some ((Go.Tw.basin_within n1 (0 : Int) (100000 : Int)).fst, ())

theorem basin_checkInflow_eq (n : Nat) (x : basin_checkInflow_a.den) : runF basin_checkInflow_g (basin_checkInflow_an n) Tryz.f139 basin_checkInflow_a basin_checkInflow_r x = basin_checkInflow_m n x.1 := by kernel_rfl

noncomputable def basin_checkInflow (n1 : Int) : (Int × Unit) :=
  ((Go.Tw.basin_within n1 (0 : Int) (100000 : Int)).fst, ())

noncomputable abbrev basin_checkInflow_M (n1 : Int) : Option (Int × Unit) := some (basin_checkInflow n1)

theorem basin_checkInflow_run (n1 : Int) (y : Int × Unit) (h : basin_checkInflow_M n1 = some y) : ∃ n, basin_checkInflow_m n n1 = some y :=
  ⟨0, by rw [← h]; show basin_checkInflow_m 0 n1 = some (basin_checkInflow n1); unfold basin_checkInflow_m basin_checkInflow; first | rfl | (simp only [cond_some]; done) | (simp only [cond_some]; rfl)⟩
noncomputable def basin_checkInflow_e : Entry := { f := 139, args := basin_checkInflow_a, ress := basin_checkInflow_r, m := fun x => basin_checkInflow_M x.1 }
theorem basin_checkInflow_ok : FnOK Tryz.prog basin_checkInflow_e := fn_ok (g := basin_checkInflow_g) (fn := Tryz.f139) hmixed tabOk (eCons basin_within_ok eNil) (by kernel_rfl) (by kernel_rfl) (by kernel_rfl) (fun x y h => let ⟨n, hn⟩ := basin_checkInflow_run x.1 y h; ⟨basin_checkInflow_an n, iNil, (basin_checkInflow_eq n x).trans hn⟩)

/-! ### (basin.Basin).checkVolumes$1 -/
abbrev basin_Basin_checkVolumes_1_a : Ty := .pair t3 .unit
abbrev basin_Basin_checkVolumes_1_r : Ty := .pair t35 .unit
noncomputable def basin_Basin_checkVolumes_1_g : G := { T := T, E := [basin_within_e], muts := [], fz := [] }
def basin_Basin_checkVolumes_1_k : List (List Nat) := []
noncomputable def basin_Basin_checkVolumes_1_an (n : Nat) : Ann := { keep := basin_Basin_checkVolumes_1_k, fuel := n, inl := [], deep := 0 }
noncomputable def basin_Basin_checkVolumes_1_m (n : Nat) (n1 : Int) : Option (Int × Unit) :=
  Option.some ((Go.Tw.basin_within n1 (0 : Int) (100000000 : Int)).fst, ())

theorem basin_Basin_checkVolumes_1_eq (n : Nat) (x : basin_Basin_checkVolumes_1_a.den) : runF basin_Basin_checkVolumes_1_g (basin_Basin_checkVolumes_1_an n) Tryz.f151 basin_Basin_checkVolumes_1_a basin_Basin_checkVolumes_1_r x = basin_Basin_checkVolumes_1_m n x.1 := by kernel_rfl

noncomputable def basin_Basin_checkVolumes_1 (n1 : Int) : (Int × Unit) :=
  ((Go.Tw.basin_within n1 (0 : Int) (100000000 : Int)).fst, ())

noncomputable abbrev basin_Basin_checkVolumes_1_M (n1 : Int) : Option (Int × Unit) := some (basin_Basin_checkVolumes_1 n1)

theorem basin_Basin_checkVolumes_1_run (n1 : Int) (y : Int × Unit) (h : basin_Basin_checkVolumes_1_M n1 = some y) : ∃ n, basin_Basin_checkVolumes_1_m n n1 = some y :=
  ⟨0, by rw [← h]; show basin_Basin_checkVolumes_1_m 0 n1 = some (basin_Basin_checkVolumes_1 n1); unfold basin_Basin_checkVolumes_1_m basin_Basin_checkVolumes_1; first | rfl | (simp only [cond_some]; done) | (simp only [cond_some]; rfl)⟩
noncomputable def basin_Basin_checkVolumes_1_e : Entry := { f := 151, args := basin_Basin_checkVolumes_1_a, ress := basin_Basin_checkVolumes_1_r, m := fun x => basin_Basin_checkVolumes_1_M x.1 }
theorem basin_Basin_checkVolumes_1_ok : FnOK Tryz.prog basin_Basin_checkVolumes_1_e := fn_ok (g := basin_Basin_checkVolumes_1_g) (fn := Tryz.f151) hmixed tabOk (eCons basin_within_ok eNil) (by kernel_rfl) (by kernel_rfl) (by kernel_rfl) (fun x y h => let ⟨n, hn⟩ := basin_Basin_checkVolumes_1_run x.1 y h; ⟨basin_Basin_checkVolumes_1_an n, iNil, (basin_Basin_checkVolumes_1_eq n x).trans hn⟩)

/-! ### basin.checkEnclosed$1 -/
abbrev basin_checkEnclosed_1_a : Ty := .pair t3 .unit
abbrev basin_checkEnclosed_1_r : Ty := .pair t35 .unit
noncomputable def basin_checkEnclosed_1_g : G := { T := T, E := [basin_within_e], muts := [], fz := [] }
def basin_checkEnclosed_1_k : List (List Nat) := []
noncomputable def basin_checkEnclosed_1_an (n : Nat) : Ann := { keep := basin_checkEnclosed_1_k, fuel := n, inl := [], deep := 0 }
noncomputable def basin_checkEnclosed_1_m (n : Nat) (n1 : Int) : Option (Int × Unit) :=
  Option.some ((Go.Tw.basin_within n1 (0 : Int) (100000000 : Int)).fst, ())

theorem basin_checkEnclosed_1_eq (n : Nat) (x : basin_checkEnclosed_1_a.den) : runF basin_checkEnclosed_1_g (basin_checkEnclosed_1_an n) Tryz.f160 basin_checkEnclosed_1_a basin_checkEnclosed_1_r x = basin_checkEnclosed_1_m n x.1 := by kernel_rfl

noncomputable def basin_checkEnclosed_1 (n1 : Int) : (Int × Unit) :=
  ((Go.Tw.basin_within n1 (0 : Int) (100000000 : Int)).fst, ())

noncomputable abbrev basin_checkEnclosed_1_M (n1 : Int) : Option (Int × Unit) := some (basin_checkEnclosed_1 n1)

theorem basin_checkEnclosed_1_run (n1 : Int) (y : Int × Unit) (h : basin_checkEnclosed_1_M n1 = some y) : ∃ n, basin_checkEnclosed_1_m n n1 = some y :=
  ⟨0, by rw [← h]; show basin_checkEnclosed_1_m 0 n1 = some (basin_checkEnclosed_1 n1); unfold basin_checkEnclosed_1_m basin_checkEnclosed_1; first | rfl | (simp only [cond_some]; done) | (simp only [cond_some]; rfl)⟩
noncomputable def basin_checkEnclosed_1_e : Entry := { f := 160, args := basin_checkEnclosed_1_a, ress := basin_checkEnclosed_1_r, m := fun x => basin_checkEnclosed_1_M x.1 }
theorem basin_checkEnclosed_1_ok : FnOK Tryz.prog basin_checkEnclosed_1_e := fn_ok (g := basin_checkEnclosed_1_g) (fn := Tryz.f160) hmixed tabOk (eCons basin_within_ok eNil) (by kernel_rfl) (by kernel_rfl) (by kernel_rfl) (fun x y h => let ⟨n, hn⟩ := basin_checkEnclosed_1_run x.1 y h; ⟨basin_checkEnclosed_1_an n, iNil, (basin_checkEnclosed_1_eq n x).trans hn⟩)

/-! ### basin.checkEnclosed$2 -/
abbrev basin_checkEnclosed_2_a : Ty := .pair t96 (.pair (.ref t176) .unit)
abbrev basin_checkEnclosed_2_r : Ty := .pair t35 .unit
noncomputable def basin_checkEnclosed_2_g : G := { T := T, E := [basin_checkInterval_e], muts := [], fz := [] }
def basin_checkEnclosed_2_k : List (List Nat) := []
noncomputable def basin_checkEnclosed_2_an (n : Nat) : Ann := { keep := basin_checkEnclosed_2_k, fuel := n, inl := [], deep := 0 }
noncomputable def basin_checkEnclosed_2_m (n : Nat) (x1 : Int × Int × Unit) (p1 : Int × Unit → Option (Int × Unit)) : Option (Int × Unit) :=
  (Option.bind (Go.Tw.basin_checkInterval_M x1 p1) fun (v0 : Int × Unit) => Option.some (v0.fst, ()))

theorem basin_checkEnclosed_2_eq (n : Nat) (x : basin_checkEnclosed_2_a.den) : runF basin_checkEnclosed_2_g (basin_checkEnclosed_2_an n) Tryz.f161 basin_checkEnclosed_2_a basin_checkEnclosed_2_r x = basin_checkEnclosed_2_m n x.1 x.2.1 := by kernel_rfl

noncomputable def basin_checkEnclosed_2_M (x1 : Int × Int × Unit) (p1 : Int × Unit → Option (Int × Unit)) : Option (Int × Unit) := basin_checkEnclosed_2_m 0 x1 p1

theorem basin_checkEnclosed_2_run (x1 : Int × Int × Unit) (p1 : Int × Unit → Option (Int × Unit)) (y : Int × Unit) (h : basin_checkEnclosed_2_M x1 p1 = some y) : ∃ n, basin_checkEnclosed_2_m n x1 p1 = some y := ⟨0, h⟩
noncomputable def basin_checkEnclosed_2_e : Entry := { f := 161, args := basin_checkEnclosed_2_a, ress := basin_checkEnclosed_2_r, m := fun x => basin_checkEnclosed_2_M x.1 x.2.1 }
theorem basin_checkEnclosed_2_ok : FnOK Tryz.prog basin_checkEnclosed_2_e := fn_ok (g := basin_checkEnclosed_2_g) (fn := Tryz.f161) hmixed tabOk (eCons basin_checkInterval_ok eNil) (by kernel_rfl) (by kernel_rfl) (by kernel_rfl) (fun x y h => let ⟨n, hn⟩ := basin_checkEnclosed_2_run x.1 x.2.1 y h; ⟨basin_checkEnclosed_2_an n, iNil, (basin_checkEnclosed_2_eq n x).trans hn⟩)

/-! ### (basin.place).barrier -/
abbrev basin_place_barrier_a : Ty := .pair t230 .unit
abbrev basin_place_barrier_r : Ty := .pair t3 .unit
noncomputable def basin_place_barrier_g : G := { T := T, E := [basin_place_fromSea_e], muts := [], fz := [] }
def basin_place_barrier_k : List (List Nat) := []
noncomputable def basin_place_barrier_an (n : Nat) : Ann := { keep := basin_place_barrier_k, fuel := n, inl := [], deep := 0 }
noncomputable def basin_place_barrier_m (n : Nat) (p : Lnk × Int × Int × Int × Bool × Unit) : Option (Int × Unit) :=
  (bif !p.snd.snd.snd.snd.fst then Option.some ((0 : Int), ()) else (Option.bind (Go.Tw.basin_place_fromSea_M p) fun (v0 : Int × Unit) => Option.some (if Bool.true = Bool.true then if v0.fst > Go.IntKind.i64.wrap ((0 : Int) - p.snd.fst) then v0.fst else Go.IntKind.i64.wrap ((0 : Int) - p.snd.fst) else if v0.fst < Go.IntKind.i64.wrap ((0 : Int) - p.snd.fst) then v0.fst else Go.IntKind.i64.wrap ((0 : Int) - p.snd.fst), ())))

theorem basin_place_barrier_eq (n : Nat) (x : basin_place_barrier_a.den) : runF basin_place_barrier_g (basin_place_barrier_an n) Tryz.f178 basin_place_barrier_a basin_place_barrier_r x = basin_place_barrier_m n x.1 := by kernel_rfl

noncomputable def basin_place_barrier_M (p : Lnk × Int × Int × Int × Bool × Unit) : Option (Int × Unit) := basin_place_barrier_m 0 p

theorem basin_place_barrier_run (p : Lnk × Int × Int × Int × Bool × Unit) (y : Int × Unit) (h : basin_place_barrier_M p = some y) : ∃ n, basin_place_barrier_m n p = some y := ⟨0, h⟩
noncomputable def basin_place_barrier_e : Entry := { f := 178, args := basin_place_barrier_a, ress := basin_place_barrier_r, m := fun x => basin_place_barrier_M x.1 }
theorem basin_place_barrier_ok : FnOK Tryz.prog basin_place_barrier_e := fn_ok (g := basin_place_barrier_g) (fn := Tryz.f178) hmixed tabOk (eCons basin_place_fromSea_ok eNil) (by kernel_rfl) (by kernel_rfl) (by kernel_rfl) (fun x y h => let ⟨n, hn⟩ := basin_place_barrier_run x.1 y h; ⟨basin_place_barrier_an n, iNil, (basin_place_barrier_eq n x).trans hn⟩)

/-! ### basin.table$1 -/
abbrev basin_table_1_a : Ty := .pair t230 .unit
abbrev basin_table_1_r : Ty := .pair t3 .unit
noncomputable def basin_table_1_g : G := { T := T, E := [basin_place_fromSea_e], muts := [], fz := [] }
def basin_table_1_k : List (List Nat) := []
noncomputable def basin_table_1_an (n : Nat) : Ann := { keep := basin_table_1_k, fuel := n, inl := [], deep := 0 }
noncomputable def basin_table_1_m (n : Nat) (p : Lnk × Int × Int × Int × Bool × Unit) : Option (Int × Unit) :=
  (Option.bind (Go.Tw.basin_place_fromSea_M p) fun (v0 : Int × Unit) => Option.some (if Bool.true = Bool.true then if v0.fst > (0 : Int) then v0.fst else (0 : Int) else if v0.fst < (0 : Int) then v0.fst else (0 : Int), ()))

theorem basin_table_1_eq (n : Nat) (x : basin_table_1_a.den) : runF basin_table_1_g (basin_table_1_an n) Tryz.f179 basin_table_1_a basin_table_1_r x = basin_table_1_m n x.1 := by kernel_rfl

noncomputable def basin_table_1_M (p : Lnk × Int × Int × Int × Bool × Unit) : Option (Int × Unit) := basin_table_1_m 0 p

theorem basin_table_1_run (p : Lnk × Int × Int × Int × Bool × Unit) (y : Int × Unit) (h : basin_table_1_M p = some y) : ∃ n, basin_table_1_m n p = some y := ⟨0, h⟩
noncomputable def basin_table_1_e : Entry := { f := 179, args := basin_table_1_a, ress := basin_table_1_r, m := fun x => basin_table_1_M x.1 }
theorem basin_table_1_ok : FnOK Tryz.prog basin_table_1_e := fn_ok (g := basin_table_1_g) (fn := Tryz.f179) hmixed tabOk (eCons basin_place_fromSea_ok eNil) (by kernel_rfl) (by kernel_rfl) (by kernel_rfl) (fun x y h => let ⟨n, hn⟩ := basin_table_1_run x.1 y h; ⟨basin_table_1_an n, iNil, (basin_table_1_eq n x).trans hn⟩)

/-! ### basin.table$2 -/
abbrev basin_table_2_a : Ty := .pair t230 .unit
abbrev basin_table_2_r : Ty := .pair t3 .unit
noncomputable def basin_table_2_g : G := { T := T, E := [basin_place_over_e], muts := [], fz := [] }
def basin_table_2_k : List (List Nat) := []
noncomputable def basin_table_2_an (n : Nat) : Ann := { keep := basin_table_2_k, fuel := n, inl := [], deep := 0 }
noncomputable def basin_table_2_m (n : Nat) (p : Lnk × Int × Int × Int × Bool × Unit) : Option (Int × Unit) :=
  (Option.bind (Go.Tw.basin_place_over_M p (if Bool.true = Bool.true then if p.fst.snd.snd.snd.fst > p.snd.snd.snd.fst then p.fst.snd.snd.snd.fst else p.snd.snd.snd.fst else if p.fst.snd.snd.snd.fst < p.snd.snd.snd.fst then p.fst.snd.snd.snd.fst else p.snd.snd.snd.fst)) fun (v0 : Int × Unit) => Option.some (v0.fst, ()))

theorem basin_table_2_eq (n : Nat) (x : basin_table_2_a.den) : runF basin_table_2_g (basin_table_2_an n) Tryz.f181 basin_table_2_a basin_table_2_r x = basin_table_2_m n x.1 := by kernel_rfl

noncomputable def basin_table_2_M (p : Lnk × Int × Int × Int × Bool × Unit) : Option (Int × Unit) := basin_table_2_m 0 p

theorem basin_table_2_run (p : Lnk × Int × Int × Int × Bool × Unit) (y : Int × Unit) (h : basin_table_2_M p = some y) : ∃ n, basin_table_2_m n p = some y := ⟨0, h⟩
noncomputable def basin_table_2_e : Entry := { f := 181, args := basin_table_2_a, ress := basin_table_2_r, m := fun x => basin_table_2_M x.1 }
theorem basin_table_2_ok : FnOK Tryz.prog basin_table_2_e := fn_ok (g := basin_table_2_g) (fn := Tryz.f181) hmixed tabOk (eCons basin_place_over_ok eNil) (by kernel_rfl) (by kernel_rfl) (by kernel_rfl) (fun x y h => let ⟨n, hn⟩ := basin_table_2_run x.1 y h; ⟨basin_table_2_an n, iNil, (basin_table_2_eq n x).trans hn⟩)

/-! ### basin.table$4 -/
abbrev basin_table_4_a : Ty := .pair t230 .unit
abbrev basin_table_4_r : Ty := .pair t3 .unit
noncomputable def basin_table_4_g : G := { T := T, E := [basin_place_over_e], muts := [], fz := [] }
def basin_table_4_k : List (List Nat) := []
noncomputable def basin_table_4_an (n : Nat) : Ann := { keep := basin_table_4_k, fuel := n, inl := [], deep := 0 }
noncomputable def basin_table_4_m (n : Nat) (p : Lnk × Int × Int × Int × Bool × Unit) : Option (Int × Unit) :=
  (Option.bind (Go.Tw.basin_place_over_M p p.fst.snd.snd.snd.fst) fun (v0 : Int × Unit) => Option.some (v0.fst, ()))

theorem basin_table_4_eq (n : Nat) (x : basin_table_4_a.den) : runF basin_table_4_g (basin_table_4_an n) Tryz.f184 basin_table_4_a basin_table_4_r x = basin_table_4_m n x.1 := by kernel_rfl

noncomputable def basin_table_4_M (p : Lnk × Int × Int × Int × Bool × Unit) : Option (Int × Unit) := basin_table_4_m 0 p

theorem basin_table_4_run (p : Lnk × Int × Int × Int × Bool × Unit) (y : Int × Unit) (h : basin_table_4_M p = some y) : ∃ n, basin_table_4_m n p = some y := ⟨0, h⟩
noncomputable def basin_table_4_e : Entry := { f := 184, args := basin_table_4_a, ress := basin_table_4_r, m := fun x => basin_table_4_M x.1 }
theorem basin_table_4_ok : FnOK Tryz.prog basin_table_4_e := fn_ok (g := basin_table_4_g) (fn := Tryz.f184) hmixed tabOk (eCons basin_place_over_ok eNil) (by kernel_rfl) (by kernel_rfl) (by kernel_rfl) (fun x y h => let ⟨n, hn⟩ := basin_table_4_run x.1 y h; ⟨basin_table_4_an n, iNil, (basin_table_4_eq n x).trans hn⟩)

end Go.Tw
end

section
set_option linter.all false
set_option maxRecDepth 1000000
namespace Go.Tw
open Go.Vx Go.Vx.B Go.Proofs
/-! ### tidewayref04.Until -/
/-! ### tidewayref04.CheckVolumes -/
abbrev ref04_CheckVolumes_a : Ty := .pair t25 (.pair t26 .unit)
abbrev ref04_CheckVolumes_r : Ty := .pair t3 .unit
noncomputable def ref04_CheckVolumes_g : G := { T := T, E := [ref04_CheckBasin_e, ref04_OnlyVolumes_e], muts := [], fz := [] }
def ref04_CheckVolumes_k : List (List Nat) := []
noncomputable def ref04_CheckVolumes_an (n : Nat) : Ann := { keep := ref04_CheckVolumes_k, fuel := n, inl := [], deep := 0 }
noncomputable def ref04_CheckVolumes_m (n : Nat) (b : Bas) (v : List Int) : Option (Int × Unit) :=
  (Option.bind (Go.Tw.ref04_CheckBasin_M b) fun (v0 : Int × Unit) => (bif v0.fst != (0 : Int) then Option.some (v0.fst, ()) else (Option.bind (Go.Tw.ref04_OnlyVolumes_M b v) fun (v1 : Int × Unit) => Option.some (v1.fst, ()))))

theorem ref04_CheckVolumes_eq (n : Nat) (x : ref04_CheckVolumes_a.den) : runF ref04_CheckVolumes_g (ref04_CheckVolumes_an n) Tryz.f32 ref04_CheckVolumes_a ref04_CheckVolumes_r x = ref04_CheckVolumes_m n x.1 x.2.1 := by kernel_rfl

noncomputable def ref04_CheckVolumes_M (b : Bas) (v : List Int) : Option (Int × Unit) := ref04_CheckVolumes_m 0 b v

theorem ref04_CheckVolumes_run (b : Bas) (v : List Int) (y : Int × Unit) (h : ref04_CheckVolumes_M b v = some y) : ∃ n, ref04_CheckVolumes_m n b v = some y := ⟨0, h⟩
noncomputable def ref04_CheckVolumes_e : Entry := { f := 32, args := ref04_CheckVolumes_a, ress := ref04_CheckVolumes_r, m := fun x => ref04_CheckVolumes_M x.1 x.2.1 }
theorem ref04_CheckVolumes_ok : FnOK Tryz.prog ref04_CheckVolumes_e := fn_ok (g := ref04_CheckVolumes_g) (fn := Tryz.f32) hmixed tabOk (eCons ref04_CheckBasin_ok (eCons ref04_OnlyVolumes_ok eNil)) (by kernel_rfl) (by kernel_rfl) (by kernel_rfl) (fun x y h => let ⟨n, hn⟩ := ref04_CheckVolumes_run x.1 x.2.1 y h; ⟨ref04_CheckVolumes_an n, iNil, (ref04_CheckVolumes_eq n x).trans hn⟩)

/-! ### (basin.Basin).checkCondition -/
abbrev basin_Basin_checkCondition_a : Ty := .pair t41 (.pair t44 .unit)
abbrev basin_Basin_checkCondition_r : Ty := .pair t35 .unit
noncomputable def basin_Basin_checkCondition_g : G := { T := T, E := [basin_checkTide_e, basin_when_e, basin_mapped_int_api_Errno_e, basin_checkInflow_e, basin_first_e], muts := [], fz := [] }
def basin_Basin_checkCondition_k : List (List Nat) := []
noncomputable def basin_Basin_checkCondition_an (n : Nat) : Ann := { keep := basin_Basin_checkCondition_k, fuel := n, inl := [], deep := 0 }
noncomputable def basin_Basin_checkCondition_m (n : Nat) (b : Bas) (c : Cnd) : Option (Int × Unit) :=
  (Option.bind (Go.Tw.basin_mapped_int_api_Errno_M c.snd.snd.fst fun (x : Int × Unit) => Go.Tw.basin_checkInflow_M x.fst) fun (v0 : List Int × Unit) => (Option.bind (Go.Tw.basin_first_M v0.fst) fun (v1 : Int × Unit) => (Option.bind (Go.Tw.basin_first_M [(Go.Tw.basin_checkTide c.fst).fst, (Go.Tw.basin_when ((↑c.snd.snd.fst.length : Int) != (↑b.fst.length : Int)) (2 : Int)).fst, v1.fst]) fun (v2 : Int × Unit) => Option.some (v2.fst, ()))))

theorem basin_Basin_checkCondition_eq (n : Nat) (x : basin_Basin_checkCondition_a.den) : runF basin_Basin_checkCondition_g (basin_Basin_checkCondition_an n) Tryz.f88 basin_Basin_checkCondition_a basin_Basin_checkCondition_r x = basin_Basin_checkCondition_m n x.1 x.2.1 := by kernel_rfl

noncomputable def basin_Basin_checkCondition_M (b : Bas) (c : Cnd) : Option (Int × Unit) := basin_Basin_checkCondition_m 0 b c

theorem basin_Basin_checkCondition_run (b : Bas) (c : Cnd) (y : Int × Unit) (h : basin_Basin_checkCondition_M b c = some y) : ∃ n, basin_Basin_checkCondition_m n b c = some y := ⟨0, h⟩
noncomputable def basin_Basin_checkCondition_e : Entry := { f := 88, args := basin_Basin_checkCondition_a, ress := basin_Basin_checkCondition_r, m := fun x => basin_Basin_checkCondition_M x.1 x.2.1 }
theorem basin_Basin_checkCondition_ok : FnOK Tryz.prog basin_Basin_checkCondition_e := fn_ok (g := basin_Basin_checkCondition_g) (fn := Tryz.f88) hmixed tabOk (eCons basin_checkTide_ok (eCons basin_when_ok (eCons basin_mapped_int_api_Errno_ok (eCons basin_checkInflow_ok (eCons basin_first_ok eNil))))) (by kernel_rfl) (by kernel_rfl) (by kernel_rfl) (fun x y h => let ⟨n, hn⟩ := basin_Basin_checkCondition_run x.1 x.2.1 y h; ⟨basin_Basin_checkCondition_an n, iNil, (basin_Basin_checkCondition_eq n x).trans hn⟩)

/-! ### (basin.Basin).checkVolumes -/
abbrev basin_Basin_checkVolumes_a : Ty := .pair t41 (.pair t26 .unit)
abbrev basin_Basin_checkVolumes_r : Ty := .pair t35 .unit
noncomputable def basin_Basin_checkVolumes_g : G := { T := T, E := [basin_when_e, basin_mapped_int_api_Errno_e, basin_Basin_checkVolumes_1_e, basin_first_e], muts := [], fz := [] }
def basin_Basin_checkVolumes_k : List (List Nat) := []
noncomputable def basin_Basin_checkVolumes_an (n : Nat) : Ann := { keep := basin_Basin_checkVolumes_k, fuel := n, inl := [], deep := 0 }
noncomputable def basin_Basin_checkVolumes_m (n : Nat) (b : Bas) (v : List Int) : Option (Int × Unit) :=
  (Option.bind (Go.Tw.basin_mapped_int_api_Errno_M v fun (x : Int × Unit) => Go.Tw.basin_Basin_checkVolumes_1_M x.fst) fun (v0 : List Int × Unit) => (Option.bind (Go.Tw.basin_first_M v0.fst) fun (v1 : Int × Unit) => (Option.bind (Go.Tw.basin_first_M [(Go.Tw.basin_when ((↑v.length : Int) != (↑b.fst.length : Int)) (2 : Int)).fst, v1.fst]) fun (v2 : Int × Unit) => Option.some (v2.fst, ()))))

theorem basin_Basin_checkVolumes_eq (n : Nat) (x : basin_Basin_checkVolumes_a.den) : runF basin_Basin_checkVolumes_g (basin_Basin_checkVolumes_an n) Tryz.f104 basin_Basin_checkVolumes_a basin_Basin_checkVolumes_r x = basin_Basin_checkVolumes_m n x.1 x.2.1 := by kernel_rfl

noncomputable def basin_Basin_checkVolumes_M (b : Bas) (v : List Int) : Option (Int × Unit) := basin_Basin_checkVolumes_m 0 b v

theorem basin_Basin_checkVolumes_run (b : Bas) (v : List Int) (y : Int × Unit) (h : basin_Basin_checkVolumes_M b v = some y) : ∃ n, basin_Basin_checkVolumes_m n b v = some y := ⟨0, h⟩
noncomputable def basin_Basin_checkVolumes_e : Entry := { f := 104, args := basin_Basin_checkVolumes_a, ress := basin_Basin_checkVolumes_r, m := fun x => basin_Basin_checkVolumes_M x.1 x.2.1 }
theorem basin_Basin_checkVolumes_ok : FnOK Tryz.prog basin_Basin_checkVolumes_e := fn_ok (g := basin_Basin_checkVolumes_g) (fn := Tryz.f104) hmixed tabOk (eCons basin_when_ok (eCons basin_mapped_int_api_Errno_ok (eCons basin_Basin_checkVolumes_1_ok (eCons basin_first_ok eNil)))) (by kernel_rfl) (by kernel_rfl) (by kernel_rfl) (fun x y h => let ⟨n, hn⟩ := basin_Basin_checkVolumes_run x.1 x.2.1 y h; ⟨basin_Basin_checkVolumes_an n, iNil, (basin_Basin_checkVolumes_eq n x).trans hn⟩)

/-! ### basin.table -/
abbrev basin_table_a : Ty := .unit
abbrev basin_table_r : Ty := .pair t222 .unit
noncomputable def basin_table_g : G := { T := T, E := [basin_place_barrier_e, basin_table_1_e, basin_table_2_e, basin_table_3_e, basin_table_4_e], muts := [], fz := [] }
def basin_table_k : List (List Nat) := []
noncomputable def basin_table_an (n : Nat) : Ann := { keep := basin_table_k, fuel := n, inl := [], deep := 0 }
noncomputable def basin_table_m (n : Nat)  : Option (List (List UInt8 × List Bool × ((Lnk × Int × Int × Int × Bool × Unit) × Unit → Option (Int × Unit)) × Unit) × Unit) :=
  Option.some ([([(98 : UInt8), (97 : UInt8), (114 : UInt8), (114 : UInt8), (105 : UInt8), (101 : UInt8), (114 : UInt8)], [Bool.true, Bool.false], fun (x : (Lnk × Int × Int × Int × Bool × Unit) × Unit) => Go.Tw.basin_place_barrier_M x.fst, ()), ([(108 : UInt8), (101 : UInt8), (97 : UInt8), (107 : UInt8)], [Bool.true, Bool.false], fun (x : (Lnk × Int × Int × Int × Bool × Unit) × Unit) => Go.Tw.basin_table_1_M x.fst, ()), ([(111 : UInt8), (117 : UInt8), (116 : UInt8), (102 : UInt8), (97 : UInt8), (108 : UInt8), (108 : UInt8)], [Bool.false, Bool.true], fun (x : (Lnk × Int × Int × Int × Bool × Unit) × Unit) => Go.Tw.basin_table_2_M x.fst, ()), ([(112 : UInt8), (117 : UInt8), (109 : UInt8), (112 : UInt8)], [Bool.false, Bool.false], fun (x : (Lnk × Int × Int × Int × Bool × Unit) × Unit) => Go.Tw.basin_table_3_M x.fst, ()), ([(119 : UInt8), (101 : UInt8), (105 : UInt8), (114 : UInt8)], [Bool.false, Bool.false], fun (x : (Lnk × Int × Int × Int × Bool × Unit) × Unit) => Go.Tw.basin_table_4_M x.fst, ())], ())

theorem basin_table_eq (n : Nat) (x : basin_table_a.den) : runF basin_table_g (basin_table_an n) Tryz.f141 basin_table_a basin_table_r x = basin_table_m n := by kernel_rfl

noncomputable def basin_table  : (List (List UInt8 × List Bool × ((Lnk × Int × Int × Int × Bool × Unit) × Unit → Option (Int × Unit)) × Unit) × Unit) :=
  ([([(98 : UInt8), (97 : UInt8), (114 : UInt8), (114 : UInt8), (105 : UInt8), (101 : UInt8), (114 : UInt8)], [Bool.true, Bool.false], fun (x : (Lnk × Int × Int × Int × Bool × Unit) × Unit) => Go.Tw.basin_place_barrier_M x.fst, ()), ([(108 : UInt8), (101 : UInt8), (97 : UInt8), (107 : UInt8)], [Bool.true, Bool.false], fun (x : (Lnk × Int × Int × Int × Bool × Unit) × Unit) => Go.Tw.basin_table_1_M x.fst, ()), ([(111 : UInt8), (117 : UInt8), (116 : UInt8), (102 : UInt8), (97 : UInt8), (108 : UInt8), (108 : UInt8)], [Bool.false, Bool.true], fun (x : (Lnk × Int × Int × Int × Bool × Unit) × Unit) => Go.Tw.basin_table_2_M x.fst, ()), ([(112 : UInt8), (117 : UInt8), (109 : UInt8), (112 : UInt8)], [Bool.false, Bool.false], fun (x : (Lnk × Int × Int × Int × Bool × Unit) × Unit) => Go.Tw.basin_table_3_M x.fst, ()), ([(119 : UInt8), (101 : UInt8), (105 : UInt8), (114 : UInt8)], [Bool.false, Bool.false], fun (x : (Lnk × Int × Int × Int × Bool × Unit) × Unit) => Go.Tw.basin_table_4_M x.fst, ())], ())

noncomputable abbrev basin_table_M  : Option (List (List UInt8 × List Bool × ((Lnk × Int × Int × Int × Bool × Unit) × Unit → Option (Int × Unit)) × Unit) × Unit) := some (basin_table)

theorem basin_table_run  (y : List (List UInt8 × List Bool × ((Lnk × Int × Int × Int × Bool × Unit) × Unit → Option (Int × Unit)) × Unit) × Unit) (h : basin_table_M = some y) : ∃ n, basin_table_m n = some y :=
  ⟨0, by rw [← h]; show basin_table_m 0 = some (basin_table); unfold basin_table_m basin_table; first | rfl | (simp only [cond_some]; done) | (simp only [cond_some]; rfl)⟩
noncomputable def basin_table_e : Entry := { f := 141, args := basin_table_a, ress := basin_table_r, m := fun x => basin_table_M }
theorem basin_table_ok : FnOK Tryz.prog basin_table_e := fn_ok (g := basin_table_g) (fn := Tryz.f141) hmixed tabOk (eCons basin_place_barrier_ok (eCons basin_table_1_ok (eCons basin_table_2_ok (eCons basin_table_3_ok (eCons basin_table_4_ok eNil))))) (by kernel_rfl) (by kernel_rfl) (by kernel_rfl) (fun x y h => let ⟨n, hn⟩ := basin_table_run y h; ⟨basin_table_an n, iNil, (basin_table_eq n x).trans hn⟩)

/-! ### (basin.Range).corner -/
abbrev basin_Range_corner_a : Ty := .pair t104 (.pair t3 .unit)
abbrev basin_Range_corner_r : Ty := .pair t44 .unit
noncomputable def basin_Range_corner_g : G := { T := T, E := [basin_ends_e, basin_end_e], muts := [], fz := [] }
def basin_Range_corner_k : List (List Nat) := []
noncomputable def basin_Range_corner_an (n : Nat) : Ann := { keep := basin_Range_corner_k, fuel := n, inl := [], deep := 0 }
noncomputable def basin_Range_corner_m (n : Nat) (r1 : Rng) (upper : Int) : Option (Cnd × Unit) :=
  (Option.bind (Go.Vx.idx (Go.Tw.basin_ends r1.fst).fst upper) fun (v0 : Int) => (Option.bind (Go.Tw.basin_end_M r1.snd.snd.fst upper) fun (v1 : List Int × Unit) => Option.some ((v0, r1.snd.fst, v1.fst, ()), ())))

theorem basin_Range_corner_eq (n : Nat) (x : basin_Range_corner_a.den) : runF basin_Range_corner_g (basin_Range_corner_an n) Tryz.f154 basin_Range_corner_a basin_Range_corner_r x = basin_Range_corner_m n x.1 x.2.1 := by kernel_rfl

noncomputable def basin_Range_corner_M (r1 : Rng) (upper : Int) : Option (Cnd × Unit) := basin_Range_corner_m 0 r1 upper

theorem basin_Range_corner_run (r1 : Rng) (upper : Int) (y : Cnd × Unit) (h : basin_Range_corner_M r1 upper = some y) : ∃ n, basin_Range_corner_m n r1 upper = some y := ⟨0, h⟩
noncomputable def basin_Range_corner_e : Entry := { f := 154, args := basin_Range_corner_a, ress := basin_Range_corner_r, m := fun x => basin_Range_corner_M x.1 x.2.1 }
theorem basin_Range_corner_ok : FnOK Tryz.prog basin_Range_corner_e := fn_ok (g := basin_Range_corner_g) (fn := Tryz.f154) hmixed tabOk (eCons basin_ends_ok (eCons basin_end_ok eNil)) (by kernel_rfl) (by kernel_rfl) (by kernel_rfl) (fun x y h => let ⟨n, hn⟩ := basin_Range_corner_run x.1 x.2.1 y h; ⟨basin_Range_corner_an n, iNil, (basin_Range_corner_eq n x).trans hn⟩)

/-! ### (basin.Basin).checkRange$1 -/
abbrev basin_Basin_checkRange_1_a : Ty := .pair t96 .unit
abbrev basin_Basin_checkRange_1_r : Ty := .pair t35 .unit
noncomputable def basin_Basin_checkRange_1_g : G := { T := T, E := [basin_checkInterval_e, basin_checkInflow_e], muts := [], fz := [] }
def basin_Basin_checkRange_1_k : List (List Nat) := []
noncomputable def basin_Basin_checkRange_1_an (n : Nat) : Ann := { keep := basin_Basin_checkRange_1_k, fuel := n, inl := [], deep := 0 }
noncomputable def basin_Basin_checkRange_1_m (n : Nat) (x1 : Int × Int × Unit) : Option (Int × Unit) :=
  (Option.bind (Go.Tw.basin_checkInterval_M x1 fun (x : Int × Unit) => Go.Tw.basin_checkInflow_M x.fst) fun (v0 : Int × Unit) => Option.some (v0.fst, ()))

theorem basin_Basin_checkRange_1_eq (n : Nat) (x : basin_Basin_checkRange_1_a.den) : runF basin_Basin_checkRange_1_g (basin_Basin_checkRange_1_an n) Tryz.f157 basin_Basin_checkRange_1_a basin_Basin_checkRange_1_r x = basin_Basin_checkRange_1_m n x.1 := by kernel_rfl

noncomputable def basin_Basin_checkRange_1_M (x1 : Int × Int × Unit) : Option (Int × Unit) := basin_Basin_checkRange_1_m 0 x1

theorem basin_Basin_checkRange_1_run (x1 : Int × Int × Unit) (y : Int × Unit) (h : basin_Basin_checkRange_1_M x1 = some y) : ∃ n, basin_Basin_checkRange_1_m n x1 = some y := ⟨0, h⟩
noncomputable def basin_Basin_checkRange_1_e : Entry := { f := 157, args := basin_Basin_checkRange_1_a, ress := basin_Basin_checkRange_1_r, m := fun x => basin_Basin_checkRange_1_M x.1 }
theorem basin_Basin_checkRange_1_ok : FnOK Tryz.prog basin_Basin_checkRange_1_e := fn_ok (g := basin_Basin_checkRange_1_g) (fn := Tryz.f157) hmixed tabOk (eCons basin_checkInterval_ok (eCons basin_checkInflow_ok eNil)) (by kernel_rfl) (by kernel_rfl) (by kernel_rfl) (fun x y h => let ⟨n, hn⟩ := basin_Basin_checkRange_1_run x.1 y h; ⟨basin_Basin_checkRange_1_an n, iNil, (basin_Basin_checkRange_1_eq n x).trans hn⟩)

end Go.Tw
end

section
set_option linter.all false
set_option maxRecDepth 1000000
namespace Go.Tw
open Go.Vx Go.Vx.B Go.Proofs
/-! ### tidewayref04.CheckUntil -/
noncomputable def il140 : Inl := { f := 140, fn := Tryz.f140, keep := [], muts := [], fz := [] }
theorem il140_ok : InlOK Tryz.prog il140 := ⟨by kernel_rfl, by kernel_rfl, fun e0 h => by cases (show (none : Option Nat) = some e0 from h)⟩
/-! ### (basin.Basin).step -/
abbrev basin_Basin_step_a : Ty := .pair t41 (.pair t26 (.pair t44 .unit))
abbrev basin_Basin_step_r : Ty := .pair t26 (.pair (.nslice (.int .i64)) (.pair t4 .unit))
noncomputable def basin_Basin_step_g : G := { T := T, E := [basin_table_e, basin_Link_node_e], muts := [14], fz := [] }
def basin_Basin_step_k : List (List Nat) := [[3, 5, 9, 10, 11, 28, 29, 30], [3, 5, 9, 10, 11, 14, 15, 42, 43, 44]]
noncomputable def basin_Basin_step_an (n : Nat) : Ann := { keep := basin_Basin_step_k, fuel := n, inl := [il140], deep := 3 }
noncomputable def basin_Basin_step_m_j38 (n : Nat) (r12 : Bas → Cnd → List (List UInt8 × List Bool × ((Lnk × Int × Int × Int × Bool × Unit) × Unit → Option (Int × Unit)) × Unit) → List Lnk → Int → Int → Bool → List Int → List Int → Option (List Int × Option (List Int) × Bool × Unit)) (b3_12 : Bas) (c5_12 : Cnd) (all15_12 : List (List UInt8 × List Bool × ((Lnk × Int × Int × Int × Bool × Unit) × Unit → Option (Int × Unit)) × Unit)) (t42_12 : List Lnk) (t43_12 : Int) (t44_12 : Int) (c2_12 : List Int) (v13 : Lnk) (v17 : Int × Unit) (j26 : Bool) (j27 : List Int) : Option (List Int × Option (List Int) × Bool × Unit) :=
  (bif v13.snd.snd.fst != (-1 : Int) then (Option.bind (Go.Vx.idx j27 v13.snd.snd.fst) fun (v28 : Int) => (Option.bind (j27[v13.snd.snd.fst.toNat]?) fun (v29 : Int) => (Option.bind (Go.Vx.idx j27 v13.snd.snd.fst) fun (v30 : Int) => (Option.bind (j27[v13.snd.snd.fst.toNat]?) fun (v31 : Int) => (bif j26 then (Option.bind (Go.Vx.idx (j27.set v13.snd.snd.fst.toNat (Go.IntKind.i64.wrap (v29 + v17.fst))) v13.snd.snd.fst) fun (v32 : Int) => (Option.bind ((j27.set v13.snd.snd.fst.toNat (Go.IntKind.i64.wrap (v29 + v17.fst)))[v13.snd.snd.fst.toNat]?) fun (v33 : Int) => (bif Decidable.decide (c2_12.length + (1 : Nat) ≤ Go.Vx.memMax) then r12 b3_12 c5_12 all15_12 t42_12 t43_12 (Go.IntKind.i64.wrap (t44_12 + (1 : Int))) (Decidable.decide (v33 ≤ (100000000 : Int))) (c2_12 ++ [v17.fst]) (j27.set v13.snd.snd.fst.toNat (Go.IntKind.i64.wrap (v29 + v17.fst))) else none))) else (bif Decidable.decide (c2_12.length + (1 : Nat) ≤ Go.Vx.memMax) then r12 b3_12 c5_12 all15_12 t42_12 t43_12 (Go.IntKind.i64.wrap (t44_12 + (1 : Int))) Bool.false (c2_12 ++ [v17.fst]) (j27.set v13.snd.snd.fst.toNat (Go.IntKind.i64.wrap (v29 + v17.fst))) else none)))))) else (bif Decidable.decide (c2_12.length + (1 : Nat) ≤ Go.Vx.memMax) then r12 b3_12 c5_12 all15_12 t42_12 t43_12 (Go.IntKind.i64.wrap (t44_12 + (1 : Int))) j26 (c2_12 ++ [v17.fst]) j27 else none))

noncomputable def basin_Basin_step_m_l12 (n : Nat) (r12 : Bas → Cnd → List (List UInt8 × List Bool × ((Lnk × Int × Int × Int × Bool × Unit) × Unit → Option (Int × Unit)) × Unit) → List Lnk → Int → Int → Bool → List Int → List Int → Option (List Int × Option (List Int) × Bool × Unit)) (b3_12 : Bas) (c5_12 : Cnd) (all15_12 : List (List UInt8 × List Bool × ((Lnk × Int × Int × Int × Bool × Unit) × Unit → Option (Int × Unit)) × Unit)) (t42_12 : List Lnk) (t43_12 : Int) (t44_12 : Int) (b1_0_12 : Bool) (c2_12 : List Int) (c3_12 : List Int) : Option (List Int × Option (List Int) × Bool × Unit) :=
  (bif Decidable.decide (t44_12 < t43_12) then (Option.bind (Go.Vx.idx t42_12 t44_12) fun (v13 : Lnk) => (Option.bind (Go.Vx.idx c3_12 (Go.Tw.basin_Link_node (v13.fst, v13.snd.fst, v13.snd.snd.fst, v13.snd.snd.snd.fst, v13.snd.snd.snd.snd.fst, ())).fst) fun (v14 : Int) => (Option.bind (c3_12[(Go.Tw.basin_Link_node (v13.fst, v13.snd.fst, v13.snd.snd.fst, v13.snd.snd.snd.fst, v13.snd.snd.snd.snd.fst, ())).fst.toNat]?) fun (v15 : Int) => (Option.bind (Go.Vx.idx b3_12.fst (Go.Tw.basin_Link_node (v13.fst, v13.snd.fst, v13.snd.snd.fst, v13.snd.snd.snd.fst, v13.snd.snd.snd.snd.fst, ())).fst) fun (v16 : Nod) => (Option.bind (((Go.Vx.mapGet Go.Vx.Ty.str ((Go.Vx.Ty.arr (nat_lit 2) Go.Vx.Ty.bool).pair (((((Go.Vx.Ty.str.pair ((Go.Vx.Ty.int Go.IntKind.i64).pair ((Go.Vx.Ty.int Go.IntKind.i64).pair ((Go.Vx.Ty.int Go.IntKind.i64).pair ((Go.Vx.Ty.int Go.IntKind.i64).pair Go.Vx.Ty.unit))))).pair ((Go.Vx.Ty.int Go.IntKind.i64).pair ((Go.Vx.Ty.int Go.IntKind.i64).pair ((Go.Vx.Ty.int Go.IntKind.i64).pair (Go.Vx.Ty.bool.pair Go.Vx.Ty.unit))))).pair Go.Vx.Ty.unit).func ((Go.Vx.Ty.int Go.IntKind.i64).pair Go.Vx.Ty.unit)).pair Go.Vx.Ty.unit)) all15_12 v13.fst).getD ([Bool.false, Bool.false], fun (x : (((Go.Vx.Ty.str.pair ((Go.Vx.Ty.int Go.IntKind.i64).pair ((Go.Vx.Ty.int Go.IntKind.i64).pair ((Go.Vx.Ty.int Go.IntKind.i64).pair ((Go.Vx.Ty.int Go.IntKind.i64).pair Go.Vx.Ty.unit))))).pair ((Go.Vx.Ty.int Go.IntKind.i64).pair ((Go.Vx.Ty.int Go.IntKind.i64).pair ((Go.Vx.Ty.int Go.IntKind.i64).pair (Go.Vx.Ty.bool.pair Go.Vx.Ty.unit))))).pair Go.Vx.Ty.unit).den) => Option.none, ())).snd.fst (((v13.fst, v13.snd.fst, v13.snd.snd.fst, v13.snd.snd.snd.fst, v13.snd.snd.snd.snd.fst, ()), v15, v16.snd.fst, c5_12.fst, c5_12.snd.fst, ()), ())) fun (v17 : Int × Unit) => (bif v13.snd.fst != (-1 : Int) then (Option.bind (Go.Vx.idx c3_12 v13.snd.fst) fun (v18 : Int) => (Option.bind (c3_12[v13.snd.fst.toNat]?) fun (v19 : Int) => (Option.bind (Go.Vx.idx c3_12 v13.snd.fst) fun (v20 : Int) => (Option.bind (c3_12[v13.snd.fst.toNat]?) fun (v21 : Int) => (bif b1_0_12 then (Option.bind (Go.Vx.idx (c3_12.set v13.snd.fst.toNat (Go.IntKind.i64.wrap (v19 + Go.IntKind.i64.wrap ((0 : Int) - v17.fst)))) v13.snd.fst) fun (v22 : Int) => (Option.bind ((c3_12.set v13.snd.fst.toNat (Go.IntKind.i64.wrap (v19 + Go.IntKind.i64.wrap ((0 : Int) - v17.fst))))[v13.snd.fst.toNat]?) fun (v23 : Int) => (basin_Basin_step_m_j38 n r12 b3_12 c5_12 all15_12 t42_12 t43_12 t44_12 c2_12 v13 v17 (Decidable.decide (v23 ≤ (100000000 : Int))) (c3_12.set v13.snd.fst.toNat (Go.IntKind.i64.wrap (v19 + Go.IntKind.i64.wrap ((0 : Int) - v17.fst))))))) else (basin_Basin_step_m_j38 n r12 b3_12 c5_12 all15_12 t42_12 t43_12 t44_12 c2_12 v13 v17 (Bool.false) (c3_12.set v13.snd.fst.toNat (Go.IntKind.i64.wrap (v19 + Go.IntKind.i64.wrap ((0 : Int) - v17.fst)))))))))) else (basin_Basin_step_m_j38 n r12 b3_12 c5_12 all15_12 t42_12 t43_12 t44_12 c2_12 v13 v17 (b1_0_12) (c3_12)))))))) else Option.some (c2_12, Option.some c3_12, b1_0_12, ()))

noncomputable def basin_Basin_step_m_w12 (n : Nat)  (k : Nat) (b3_12 : Bas) (c5_12 : Cnd) (all15_12 : List (List UInt8 × List Bool × ((Lnk × Int × Int × Int × Bool × Unit) × Unit → Option (Int × Unit)) × Unit)) (t42_12 : List Lnk) (t43_12 : Int) (t44_12 : Int) (b1_0_12 : Bool) (c2_12 : List Int) (c3_12 : List Int) : Option (List Int × Option (List Int) × Bool × Unit) :=
  iter (fun r y => basin_Basin_step_m_l12 n (fun b3_12 c5_12 all15_12 t42_12 t43_12 t44_12 b1_0_12 c2_12 c3_12 => r ((b3_12, (c5_12, ((), (all15_12, (t42_12, (t43_12, (t44_12, ()))))))), (((), ((b1_0_12, ()), (c2_12, (c3_12, ())))), ()))) y.1.1 y.1.2.1 y.1.2.2.2.1 y.1.2.2.2.2.1 y.1.2.2.2.2.2.1 y.1.2.2.2.2.2.2.1 y.2.1.2.1.1 y.2.1.2.2.1 y.2.1.2.2.2.1) k ((b3_12, (c5_12, ((), (all15_12, (t42_12, (t43_12, (t44_12, ()))))))), (((), ((b1_0_12, ()), (c2_12, (c3_12, ())))), ()))

noncomputable def basin_Basin_step_m_l0 (n : Nat) (r0 : Bas → Cnd → List Int → Int → Int → Bool → List Int → Option (List Int × Option (List Int) × Bool × Unit)) (b3_0 : Bas) (c5_0 : Cnd) (t28_0 : List Int) (t29_0 : Int) (t30_0 : Int) (b1_0_0 : Bool) (c2_0 : List Int) : Option (List Int × Option (List Int) × Bool × Unit) :=
  (bif Decidable.decide (t30_0 < t29_0) then (Option.bind (Go.Vx.idx t28_0 t30_0) fun (v1 : Int) => (bif t30_0 != (-1 : Int) then (Option.bind (Go.Vx.idx c2_0 t30_0) fun (v2 : Int) => (Option.bind (c2_0[t30_0.toNat]?) fun (v3 : Int) => (Option.bind (Go.Vx.idx c2_0 t30_0) fun (v4 : Int) => (Option.bind (c2_0[t30_0.toNat]?) fun (v5 : Int) => (bif b1_0_0 then (Option.bind (Go.Vx.idx (c2_0.set t30_0.toNat (Go.IntKind.i64.wrap (v3 + v1))) t30_0) fun (v6 : Int) => (Option.bind ((c2_0.set t30_0.toNat (Go.IntKind.i64.wrap (v3 + v1)))[t30_0.toNat]?) fun (v7 : Int) => r0 b3_0 c5_0 t28_0 t29_0 (Go.IntKind.i64.wrap (t30_0 + (1 : Int))) (Decidable.decide (v7 ≤ (100000000 : Int))) (c2_0.set t30_0.toNat (Go.IntKind.i64.wrap (v3 + v1))))) else r0 b3_0 c5_0 t28_0 t29_0 (Go.IntKind.i64.wrap (t30_0 + (1 : Int))) Bool.false (c2_0.set t30_0.toNat (Go.IntKind.i64.wrap (v3 + v1)))))))) else r0 b3_0 c5_0 t28_0 t29_0 (Go.IntKind.i64.wrap (t30_0 + (1 : Int))) b1_0_0 c2_0)) else (basin_Basin_step_m_w12 n n (b3_0) (c5_0) (Go.Tw.basin_table.fst) (b3_0.snd.fst) ((↑b3_0.snd.fst.length : Int)) ((0 : Int)) (b1_0_0) ([]) (c2_0)))

noncomputable def basin_Basin_step_m_w0 (n : Nat)  (k : Nat) (b3_0 : Bas) (c5_0 : Cnd) (t28_0 : List Int) (t29_0 : Int) (t30_0 : Int) (b1_0_0 : Bool) (c2_0 : List Int) : Option (List Int × Option (List Int) × Bool × Unit) :=
  iter (fun r y => basin_Basin_step_m_l0 n (fun b3_0 c5_0 t28_0 t29_0 t30_0 b1_0_0 c2_0 => r ((b3_0, (c5_0, ((), (t28_0, (t29_0, (t30_0, ())))))), (((), ((b1_0_0, ()), (c2_0, ()))), ()))) y.1.1 y.1.2.1 y.1.2.2.2.1 y.1.2.2.2.2.1 y.1.2.2.2.2.2.1 y.2.1.2.1.1 y.2.1.2.2.1) k ((b3_0, (c5_0, ((), (t28_0, (t29_0, (t30_0, ())))))), (((), ((b1_0_0, ()), (c2_0, ()))), ()))

noncomputable def basin_Basin_step_m (n : Nat) (b : Bas) (v : List Int) (c : Cnd) : Option (List Int × Option (List Int) × Bool × Unit) :=
  (bif Bool.true && Decidable.decide ((0 : Int) ≤ (↑v.length : Int)) && Decidable.decide ((↑v.length : Int) ≤ (↑Go.Vx.memMax : Int)) && (↑v.length : Int) == (↑v.length : Int) then (basin_Basin_step_m_w0 n n (b) (c) (c.snd.snd.fst) ((↑c.snd.snd.fst.length : Int)) ((0 : Int)) (Bool.true) (List.take (List.replicate (↑v.length : Int).toNat (0 : Int)).length v ++ List.drop v.length (List.replicate (↑v.length : Int).toNat (0 : Int)))) else none)

theorem basin_Basin_step_eq (n : Nat) (x : basin_Basin_step_a.den) : runF basin_Basin_step_g (basin_Basin_step_an n) Tryz.f92 basin_Basin_step_a basin_Basin_step_r x = basin_Basin_step_m n x.1 x.2.1 x.2.2.1 := by kernel_rfl

noncomputable def basin_Basin_step_s38 (b3_12 : Bas) (c5_12 : Cnd) (all15_12 : List (List UInt8 × List Bool × ((Lnk × Int × Int × Int × Bool × Unit) × Unit → Option (Int × Unit)) × Unit)) (t42_12 : List Lnk) (t44_12 : Int) (c2_12 : List Int) (v13 : Lnk) (v17 : Int × Unit) (j26 : Bool) (j27 : List Int) : Option ((List Int × Option (List Int) × Bool × Unit) ⊕ (Bool × List Int × List Int)) :=
  (bif v13.snd.snd.fst != (-1 : Int) then (Option.bind (Go.Vx.idx j27 v13.snd.snd.fst) fun (v28 : Int) => (Option.bind (j27[v13.snd.snd.fst.toNat]?) fun (v29 : Int) => (Option.bind (Go.Vx.idx j27 v13.snd.snd.fst) fun (v30 : Int) => (Option.bind (j27[v13.snd.snd.fst.toNat]?) fun (v31 : Int) => (bif j26 then (Option.bind (Go.Vx.idx (j27.set v13.snd.snd.fst.toNat (Go.IntKind.i64.wrap (v29 + v17.fst))) v13.snd.snd.fst) fun (v32 : Int) => (Option.bind ((j27.set v13.snd.snd.fst.toNat (Go.IntKind.i64.wrap (v29 + v17.fst)))[v13.snd.snd.fst.toNat]?) fun (v33 : Int) => (bif Decidable.decide (c2_12.length + (1 : Nat) ≤ Go.Vx.memMax) then (some (Sum.inr ((Decidable.decide (v33 ≤ (100000000 : Int))), (c2_12 ++ [v17.fst]), (j27.set v13.snd.snd.fst.toNat (Go.IntKind.i64.wrap (v29 + v17.fst)))))) else none))) else (bif Decidable.decide (c2_12.length + (1 : Nat) ≤ Go.Vx.memMax) then (some (Sum.inr ((Bool.false), (c2_12 ++ [v17.fst]), (j27.set v13.snd.snd.fst.toNat (Go.IntKind.i64.wrap (v29 + v17.fst)))))) else none)))))) else (bif Decidable.decide (c2_12.length + (1 : Nat) ≤ Go.Vx.memMax) then (some (Sum.inr ((j26), (c2_12 ++ [v17.fst]), (j27)))) else none))

theorem basin_Basin_step_s38_le (n : Nat) (hn : big ≤ n)  (r12 : Bas → Cnd → List (List UInt8 × List Bool × ((Lnk × Int × Int × Int × Bool × Unit) × Unit → Option (Int × Unit)) × Unit) → List Lnk → Int → Int → Bool → List Int → List Int → Option (List Int × Option (List Int) × Bool × Unit)) (b3_12 : Bas) (c5_12 : Cnd) (all15_12 : List (List UInt8 × List Bool × ((Lnk × Int × Int × Int × Bool × Unit) × Unit → Option (Int × Unit)) × Unit)) (t42_12 : List Lnk) (t44_12 : Int) (c2_12 : List Int) (v13 : Lnk) (v17 : Int × Unit) (j26 : Bool) (j27 : List Int) : LeF (elim some fun (s__ : (Bool × List Int × List Int)) => r12 b3_12 c5_12 all15_12 t42_12 (List.length (t42_12) : Int) (Go.IntKind.i64.wrap (t44_12 + 1)) s__.1 s__.2.1 s__.2.2) (basin_Basin_step_s38 b3_12 c5_12 all15_12 t42_12 t44_12 c2_12 v13 v17 j26 j27) (basin_Basin_step_m_j38 n r12 b3_12 c5_12 all15_12 t42_12 (List.length (t42_12) : Int) t44_12 c2_12 v13 v17 j26 j27) :=
  (leCond (leBind fun v28 => (leBind fun v29 => (leBind fun v30 => (leBind fun v31 => (leCond (leBind fun v32 => (leBind fun v33 => (leCond (leSome rfl) leNone))) (leCond (leSome rfl) leNone)))))) (leCond (leSome rfl) leNone))

noncomputable def basin_Basin_step_b12 (b3_12 : Bas) (c5_12 : Cnd) (all15_12 : List (List UInt8 × List Bool × ((Lnk × Int × Int × Int × Bool × Unit) × Unit → Option (Int × Unit)) × Unit)) (t42_12 : List Lnk) (t44_12 : Int) (v13 : Lnk) (b1_0_12 : Bool) (c2_12 : List Int) (c3_12 : List Int) : Option ((List Int × Option (List Int) × Bool × Unit) ⊕ (Bool × List Int × List Int)) :=
  (Option.bind (Go.Vx.idx c3_12 (Go.Tw.basin_Link_node (v13.fst, v13.snd.fst, v13.snd.snd.fst, v13.snd.snd.snd.fst, v13.snd.snd.snd.snd.fst, ())).fst) fun (v14 : Int) => (Option.bind (c3_12[(Go.Tw.basin_Link_node (v13.fst, v13.snd.fst, v13.snd.snd.fst, v13.snd.snd.snd.fst, v13.snd.snd.snd.snd.fst, ())).fst.toNat]?) fun (v15 : Int) => (Option.bind (Go.Vx.idx b3_12.fst (Go.Tw.basin_Link_node (v13.fst, v13.snd.fst, v13.snd.snd.fst, v13.snd.snd.snd.fst, v13.snd.snd.snd.snd.fst, ())).fst) fun (v16 : Nod) => (Option.bind (((Go.Vx.mapGet Go.Vx.Ty.str ((Go.Vx.Ty.arr (nat_lit 2) Go.Vx.Ty.bool).pair (((((Go.Vx.Ty.str.pair ((Go.Vx.Ty.int Go.IntKind.i64).pair ((Go.Vx.Ty.int Go.IntKind.i64).pair ((Go.Vx.Ty.int Go.IntKind.i64).pair ((Go.Vx.Ty.int Go.IntKind.i64).pair Go.Vx.Ty.unit))))).pair ((Go.Vx.Ty.int Go.IntKind.i64).pair ((Go.Vx.Ty.int Go.IntKind.i64).pair ((Go.Vx.Ty.int Go.IntKind.i64).pair (Go.Vx.Ty.bool.pair Go.Vx.Ty.unit))))).pair Go.Vx.Ty.unit).func ((Go.Vx.Ty.int Go.IntKind.i64).pair Go.Vx.Ty.unit)).pair Go.Vx.Ty.unit)) all15_12 v13.fst).getD ([Bool.false, Bool.false], fun (x : (((Go.Vx.Ty.str.pair ((Go.Vx.Ty.int Go.IntKind.i64).pair ((Go.Vx.Ty.int Go.IntKind.i64).pair ((Go.Vx.Ty.int Go.IntKind.i64).pair ((Go.Vx.Ty.int Go.IntKind.i64).pair Go.Vx.Ty.unit))))).pair ((Go.Vx.Ty.int Go.IntKind.i64).pair ((Go.Vx.Ty.int Go.IntKind.i64).pair ((Go.Vx.Ty.int Go.IntKind.i64).pair (Go.Vx.Ty.bool.pair Go.Vx.Ty.unit))))).pair Go.Vx.Ty.unit).den) => Option.none, ())).snd.fst (((v13.fst, v13.snd.fst, v13.snd.snd.fst, v13.snd.snd.snd.fst, v13.snd.snd.snd.snd.fst, ()), v15, v16.snd.fst, c5_12.fst, c5_12.snd.fst, ()), ())) fun (v17 : Int × Unit) => (bif v13.snd.fst != (-1 : Int) then (Option.bind (Go.Vx.idx c3_12 v13.snd.fst) fun (v18 : Int) => (Option.bind (c3_12[v13.snd.fst.toNat]?) fun (v19 : Int) => (Option.bind (Go.Vx.idx c3_12 v13.snd.fst) fun (v20 : Int) => (Option.bind (c3_12[v13.snd.fst.toNat]?) fun (v21 : Int) => (bif b1_0_12 then (Option.bind (Go.Vx.idx (c3_12.set v13.snd.fst.toNat (Go.IntKind.i64.wrap (v19 + Go.IntKind.i64.wrap ((0 : Int) - v17.fst)))) v13.snd.fst) fun (v22 : Int) => (Option.bind ((c3_12.set v13.snd.fst.toNat (Go.IntKind.i64.wrap (v19 + Go.IntKind.i64.wrap ((0 : Int) - v17.fst))))[v13.snd.fst.toNat]?) fun (v23 : Int) => (basin_Basin_step_s38 b3_12 c5_12 all15_12 t42_12 t44_12 c2_12 v13 v17 (Decidable.decide (v23 ≤ (100000000 : Int))) (c3_12.set v13.snd.fst.toNat (Go.IntKind.i64.wrap (v19 + Go.IntKind.i64.wrap ((0 : Int) - v17.fst))))))) else (basin_Basin_step_s38 b3_12 c5_12 all15_12 t42_12 t44_12 c2_12 v13 v17 (Bool.false) (c3_12.set v13.snd.fst.toNat (Go.IntKind.i64.wrap (v19 + Go.IntKind.i64.wrap ((0 : Int) - v17.fst)))))))))) else (basin_Basin_step_s38 b3_12 c5_12 all15_12 t42_12 t44_12 c2_12 v13 v17 (b1_0_12) (c3_12)))))))

noncomputable def basin_Basin_step_f12 (b3_12 : Bas) (c5_12 : Cnd) (all15_12 : List (List UInt8 × List Bool × ((Lnk × Int × Int × Int × Bool × Unit) × Unit → Option (Int × Unit)) × Unit)) (t42_12 : List Lnk) (b1_0_12 : Bool) (c2_12 : List Int) (c3_12 : List Int) : Option (List Int × Option (List Int) × Bool × Unit) :=
  (some ((c2_12, Option.some c3_12, b1_0_12, ())))

theorem basin_Basin_step_m_w12_le (n : Nat) (hn : big ≤ n)  (b3_12 : Bas) (c5_12 : Cnd) (all15_12 : List (List UInt8 × List Bool × ((Lnk × Int × Int × Int × Bool × Unit) × Unit → Option (Int × Unit)) × Unit)) (t42_12 : List Lnk) (b1_0_12 : Bool) (c2_12 : List Int) (c3_12 : List Int) (hx : List.length (t42_12) < lenMax) : LeF some (loopL (fun i__ e__ s__ => basin_Basin_step_b12 b3_12 c5_12 all15_12 t42_12 i__ e__ s__.1 s__.2.1 s__.2.2) (fun s__ => basin_Basin_step_f12 b3_12 c5_12 all15_12 t42_12 s__.1 s__.2.1 s__.2.2) 0 (t42_12) (b1_0_12, c2_12, c3_12)) (basin_Basin_step_m_w12 n n b3_12 c5_12 all15_12 t42_12 (List.length (t42_12) : Int) 0 b1_0_12 c2_12 c3_12) := by
  refine loopL_le (f := some) (W := fun k__ i__ s__ => basin_Basin_step_m_w12 n k__ b3_12 c5_12 all15_12 t42_12 (List.length (t42_12) : Int) i__ s__.1 s__.2.1 s__.2.2) (body := (fun i__ e__ s__ => basin_Basin_step_b12 b3_12 c5_12 all15_12 t42_12 i__ e__ s__.1 s__.2.1 s__.2.2)) (fin := (fun s__ => basin_Basin_step_f12 b3_12 c5_12 all15_12 t42_12 s__.1 s__.2.1 s__.2.2)) (fun k__ i__ s__ => ?_) hx (b1_0_12, c2_12, c3_12) n (by unfold big at hn; unfold lenMax at hx; omega)
  show LeF _ _ (basin_Basin_step_m_l12 n (basin_Basin_step_m_w12 n k__) b3_12 c5_12 all15_12 t42_12 (List.length (t42_12) : Int) i__ s__.1 s__.2.1 s__.2.2)
  exact leCond (leBind fun v13 => (leBind fun v14 => (leBind fun v15 => (leBind fun v16 => (leBind fun v17 => (leCond (leBind fun v18 => (leBind fun v19 => (leBind fun v20 => (leBind fun v21 => (leCond (leBind fun v22 => (leBind fun v23 => (by apply basin_Basin_step_s38_le n hn))) (by apply basin_Basin_step_s38_le n hn)))))) (by apply basin_Basin_step_s38_le n hn))))))) (leMap (leSome rfl))

noncomputable def basin_Basin_step_b0 (b3_0 : Bas) (c5_0 : Cnd) (t28_0 : List Int) (t30_0 : Int) (v1 : Int) (b1_0_0 : Bool) (c2_0 : List Int) : Option ((List Int × Option (List Int) × Bool × Unit) ⊕ (Bool × List Int)) :=
  (bif t30_0 != (-1 : Int) then (Option.bind (Go.Vx.idx c2_0 t30_0) fun (v2 : Int) => (Option.bind (c2_0[t30_0.toNat]?) fun (v3 : Int) => (Option.bind (Go.Vx.idx c2_0 t30_0) fun (v4 : Int) => (Option.bind (c2_0[t30_0.toNat]?) fun (v5 : Int) => (bif b1_0_0 then (Option.bind (Go.Vx.idx (c2_0.set t30_0.toNat (Go.IntKind.i64.wrap (v3 + v1))) t30_0) fun (v6 : Int) => (Option.bind ((c2_0.set t30_0.toNat (Go.IntKind.i64.wrap (v3 + v1)))[t30_0.toNat]?) fun (v7 : Int) => (some (Sum.inr ((Decidable.decide (v7 ≤ (100000000 : Int))), (c2_0.set t30_0.toNat (Go.IntKind.i64.wrap (v3 + v1)))))))) else (some (Sum.inr ((Bool.false), (c2_0.set t30_0.toNat (Go.IntKind.i64.wrap (v3 + v1))))))))))) else (some (Sum.inr ((b1_0_0), (c2_0)))))

noncomputable def basin_Basin_step_f0 (b3_0 : Bas) (c5_0 : Cnd) (t28_0 : List Int) (b1_0_0 : Bool) (c2_0 : List Int) : Option (List Int × Option (List Int) × Bool × Unit) :=
  (bif decide (List.length (b3_0.snd.fst) < lenMax) then loopL (fun i__ e__ s__ => basin_Basin_step_b12 (b3_0) (c5_0) (Go.Tw.basin_table.fst) (b3_0.snd.fst) i__ e__ s__.1 s__.2.1 s__.2.2) (fun s__ => basin_Basin_step_f12 (b3_0) (c5_0) (Go.Tw.basin_table.fst) (b3_0.snd.fst) s__.1 s__.2.1 s__.2.2) 0 (b3_0.snd.fst) ((b1_0_0), ([]), (c2_0)) else none)

theorem basin_Basin_step_m_w0_le (n : Nat) (hn : big ≤ n)  (b3_0 : Bas) (c5_0 : Cnd) (t28_0 : List Int) (b1_0_0 : Bool) (c2_0 : List Int) (hx : List.length (t28_0) < lenMax) : LeF some (loopL (fun i__ e__ s__ => basin_Basin_step_b0 b3_0 c5_0 t28_0 i__ e__ s__.1 s__.2) (fun s__ => basin_Basin_step_f0 b3_0 c5_0 t28_0 s__.1 s__.2) 0 (t28_0) (b1_0_0, c2_0)) (basin_Basin_step_m_w0 n n b3_0 c5_0 t28_0 (List.length (t28_0) : Int) 0 b1_0_0 c2_0) := by
  refine loopL_le (f := some) (W := fun k__ i__ s__ => basin_Basin_step_m_w0 n k__ b3_0 c5_0 t28_0 (List.length (t28_0) : Int) i__ s__.1 s__.2) (body := (fun i__ e__ s__ => basin_Basin_step_b0 b3_0 c5_0 t28_0 i__ e__ s__.1 s__.2)) (fin := (fun s__ => basin_Basin_step_f0 b3_0 c5_0 t28_0 s__.1 s__.2)) (fun k__ i__ s__ => ?_) hx (b1_0_0, c2_0) n (by unfold big at hn; unfold lenMax at hx; omega)
  show LeF _ _ (basin_Basin_step_m_l0 n (basin_Basin_step_m_w0 n k__) b3_0 c5_0 t28_0 (List.length (t28_0) : Int) i__ s__.1 s__.2)
  exact leCond (leBind fun v1 => (leCond (leBind fun v2 => (leBind fun v3 => (leBind fun v4 => (leBind fun v5 => (leCond (leBind fun v6 => (leBind fun v7 => (leSome rfl))) (leSome rfl)))))) (leSome rfl))) (leMap (leGuard fun hx => by apply basin_Basin_step_m_w12_le n hn; exact hx))

noncomputable def basin_Basin_step_M (b : Bas) (v : List Int) (c : Cnd) : Option (List Int × Option (List Int) × Bool × Unit) :=
  (bif Bool.true && Decidable.decide ((0 : Int) ≤ (↑v.length : Int)) && Decidable.decide ((↑v.length : Int) ≤ (↑Go.Vx.memMax : Int)) && (↑v.length : Int) == (↑v.length : Int) then (bif decide (List.length (c.snd.snd.fst) < lenMax) then loopL (fun i__ e__ s__ => basin_Basin_step_b0 (b) (c) (c.snd.snd.fst) i__ e__ s__.1 s__.2) (fun s__ => basin_Basin_step_f0 (b) (c) (c.snd.snd.fst) s__.1 s__.2) 0 (c.snd.snd.fst) ((Bool.true), (List.take (List.replicate (↑v.length : Int).toNat (0 : Int)).length v ++ List.drop v.length (List.replicate (↑v.length : Int).toNat (0 : Int)))) else none) else none)

theorem basin_Basin_step_run (b : Bas) (v : List Int) (c : Cnd) (y : List Int × Option (List Int) × Bool × Unit) (h : basin_Basin_step_M b v c = some y) : ∃ n, basin_Basin_step_m n b v c = some y :=
  ⟨big, LeF.top (show LeF some (basin_Basin_step_M b v c) (basin_Basin_step_m big b v c) from (fun (n : Nat) (hn : big ≤ n) => show LeF some (basin_Basin_step_M b v c) (basin_Basin_step_m n b v c) from (leCond (leGuard fun hx => by apply basin_Basin_step_m_w0_le n hn; exact hx) leNone)) big (Nat.le_refl _)) h⟩
noncomputable def basin_Basin_step_e : Entry := { f := 92, args := basin_Basin_step_a, ress := basin_Basin_step_r, m := fun x => basin_Basin_step_M x.1 x.2.1 x.2.2.1 }
theorem basin_Basin_step_ok : FnOK Tryz.prog basin_Basin_step_e := fn_ok (g := basin_Basin_step_g) (fn := Tryz.f92) hmixed tabOk (eCons basin_table_ok (eCons basin_Link_node_ok eNil)) (by kernel_rfl) (by kernel_rfl) (by kernel_rfl) (fun x y h => let ⟨n, hn⟩ := basin_Basin_step_run x.1 x.2.1 x.2.2.1 y h; ⟨basin_Basin_step_an n, (iCons il140_ok iNil), (basin_Basin_step_eq n x).trans hn⟩)

noncomputable def il150 : Inl := { f := 150, fn := Tryz.f150, keep := [], muts := [], fz := [] }
theorem il150_ok : InlOK Tryz.prog il150 := ⟨by kernel_rfl, by kernel_rfl, fun e0 h => by cases (show (none : Option Nat) = some e0 from h)⟩
/-! ### (basin.Link).check -/
abbrev basin_Link_check_a : Ty := .pair t163 (.pair t3 .unit)
abbrev basin_Link_check_r : Ty := .pair t35 .unit
noncomputable def basin_Link_check_g : G := { T := T, E := [basin_table_e, basin_when_e, basin_within_e, basin_first_e], muts := [], fz := [] }
def basin_Link_check_k : List (List Nat) := []
noncomputable def basin_Link_check_an (n : Nat) : Ann := { keep := basin_Link_check_k, fuel := n, inl := [il150], deep := 3 }
noncomputable def basin_Link_check_m_j20 (n : Nat) (l : Lnk) (nodes : Int) (j5 : Bool) : Option (Int × Unit) :=
  (bif !j5 then Option.some ((10 : Int), ()) else (bif ((Go.Vx.mapGet Go.Vx.Ty.str ((Go.Vx.Ty.arr (2 : Nat) Go.Vx.Ty.bool).pair (((((Go.Vx.Ty.str.pair ((Go.Vx.Ty.int Go.IntKind.i64).pair ((Go.Vx.Ty.int Go.IntKind.i64).pair ((Go.Vx.Ty.int Go.IntKind.i64).pair ((Go.Vx.Ty.int Go.IntKind.i64).pair Go.Vx.Ty.unit))))).pair ((Go.Vx.Ty.int Go.IntKind.i64).pair ((Go.Vx.Ty.int Go.IntKind.i64).pair ((Go.Vx.Ty.int Go.IntKind.i64).pair (Go.Vx.Ty.bool.pair Go.Vx.Ty.unit))))).pair Go.Vx.Ty.unit).func ((Go.Vx.Ty.int Go.IntKind.i64).pair Go.Vx.Ty.unit)).pair Go.Vx.Ty.unit)) Go.Tw.basin_table.fst l.fst).getD ([Bool.false, Bool.false], fun (x : (Lnk × Int × Int × Int × Bool × Unit) × Unit) => Option.none, ())).fst.getD (nat_lit 1) Bool.false then (bif l.snd.snd.fst == (-1 : Int) then (bif Go.Vx.eqV (Go.Vx.Ty.arr (2 : Nat) Go.Vx.Ty.bool) [((Go.Vx.mapGet Go.Vx.Ty.str ((Go.Vx.Ty.arr (2 : Nat) Go.Vx.Ty.bool).pair (((((Go.Vx.Ty.str.pair ((Go.Vx.Ty.int Go.IntKind.i64).pair ((Go.Vx.Ty.int Go.IntKind.i64).pair ((Go.Vx.Ty.int Go.IntKind.i64).pair ((Go.Vx.Ty.int Go.IntKind.i64).pair Go.Vx.Ty.unit))))).pair ((Go.Vx.Ty.int Go.IntKind.i64).pair ((Go.Vx.Ty.int Go.IntKind.i64).pair ((Go.Vx.Ty.int Go.IntKind.i64).pair (Go.Vx.Ty.bool.pair Go.Vx.Ty.unit))))).pair Go.Vx.Ty.unit).func ((Go.Vx.Ty.int Go.IntKind.i64).pair Go.Vx.Ty.unit)).pair Go.Vx.Ty.unit)) Go.Tw.basin_table.fst l.fst).getD ([Bool.false, Bool.false], fun (x : (Lnk × Int × Int × Int × Bool × Unit) × Unit) => Option.none, ())).fst.getD (nat_lit 0) Bool.false, ((Go.Vx.mapGet Go.Vx.Ty.str ((Go.Vx.Ty.arr (2 : Nat) Go.Vx.Ty.bool).pair (((((Go.Vx.Ty.str.pair ((Go.Vx.Ty.int Go.IntKind.i64).pair ((Go.Vx.Ty.int Go.IntKind.i64).pair ((Go.Vx.Ty.int Go.IntKind.i64).pair ((Go.Vx.Ty.int Go.IntKind.i64).pair Go.Vx.Ty.unit))))).pair ((Go.Vx.Ty.int Go.IntKind.i64).pair ((Go.Vx.Ty.int Go.IntKind.i64).pair ((Go.Vx.Ty.int Go.IntKind.i64).pair (Go.Vx.Ty.bool.pair Go.Vx.Ty.unit))))).pair Go.Vx.Ty.unit).func ((Go.Vx.Ty.int Go.IntKind.i64).pair Go.Vx.Ty.unit)).pair Go.Vx.Ty.unit)) Go.Tw.basin_table.fst l.fst).getD ([Bool.false, Bool.false], fun (x : (Lnk × Int × Int × Int × Bool × Unit) × Unit) => Option.none, ())).fst.getD (nat_lit 1) Bool.false] [Bool.true, Bool.false] then (Option.bind (Go.Tw.basin_first_M [(Go.Tw.basin_when (l.snd.fst == l.snd.snd.fst) (17 : Int)).fst, (Go.Tw.basin_within l.snd.snd.snd.fst (0 : Int) (0 : Int)).fst, (Go.Tw.basin_within l.snd.snd.snd.snd.fst (1 : Int) (1000 : Int)).fst]) fun (v27 : Int × Unit) => Option.some (v27.fst, ())) else (Option.bind (Go.Tw.basin_first_M [(Go.Tw.basin_when (l.snd.fst == l.snd.snd.fst) (17 : Int)).fst, (Go.Tw.basin_within l.snd.snd.snd.fst (0 : Int) (1024 : Int)).fst, (Go.Tw.basin_within l.snd.snd.snd.snd.fst (1 : Int) (1000 : Int)).fst]) fun (v28 : Int × Unit) => Option.some (v28.fst, ()))) else (bif !((Go.Vx.mapGet Go.Vx.Ty.str ((Go.Vx.Ty.arr (2 : Nat) Go.Vx.Ty.bool).pair (((((Go.Vx.Ty.str.pair ((Go.Vx.Ty.int Go.IntKind.i64).pair ((Go.Vx.Ty.int Go.IntKind.i64).pair ((Go.Vx.Ty.int Go.IntKind.i64).pair ((Go.Vx.Ty.int Go.IntKind.i64).pair Go.Vx.Ty.unit))))).pair ((Go.Vx.Ty.int Go.IntKind.i64).pair ((Go.Vx.Ty.int Go.IntKind.i64).pair ((Go.Vx.Ty.int Go.IntKind.i64).pair (Go.Vx.Ty.bool.pair Go.Vx.Ty.unit))))).pair Go.Vx.Ty.unit).func ((Go.Vx.Ty.int Go.IntKind.i64).pair Go.Vx.Ty.unit)).pair Go.Vx.Ty.unit)) Go.Tw.basin_table.fst l.fst).getD ([Bool.false, Bool.false], fun (x : (Lnk × Int × Int × Int × Bool × Unit) × Unit) => Option.none, ())).fst.getD (nat_lit 1) Bool.false then (bif Decidable.decide (l.snd.snd.fst ≥ (0 : Int)) then (bif !Decidable.decide (l.snd.snd.fst < nodes) then Option.some ((10 : Int), ()) else (bif Go.Vx.eqV (Go.Vx.Ty.arr (2 : Nat) Go.Vx.Ty.bool) [((Go.Vx.mapGet Go.Vx.Ty.str ((Go.Vx.Ty.arr (2 : Nat) Go.Vx.Ty.bool).pair (((((Go.Vx.Ty.str.pair ((Go.Vx.Ty.int Go.IntKind.i64).pair ((Go.Vx.Ty.int Go.IntKind.i64).pair ((Go.Vx.Ty.int Go.IntKind.i64).pair ((Go.Vx.Ty.int Go.IntKind.i64).pair Go.Vx.Ty.unit))))).pair ((Go.Vx.Ty.int Go.IntKind.i64).pair ((Go.Vx.Ty.int Go.IntKind.i64).pair ((Go.Vx.Ty.int Go.IntKind.i64).pair (Go.Vx.Ty.bool.pair Go.Vx.Ty.unit))))).pair Go.Vx.Ty.unit).func ((Go.Vx.Ty.int Go.IntKind.i64).pair Go.Vx.Ty.unit)).pair Go.Vx.Ty.unit)) Go.Tw.basin_table.fst l.fst).getD ([Bool.false, Bool.false], fun (x : (Lnk × Int × Int × Int × Bool × Unit) × Unit) => Option.none, ())).fst.getD (nat_lit 0) Bool.false, ((Go.Vx.mapGet Go.Vx.Ty.str ((Go.Vx.Ty.arr (2 : Nat) Go.Vx.Ty.bool).pair (((((Go.Vx.Ty.str.pair ((Go.Vx.Ty.int Go.IntKind.i64).pair ((Go.Vx.Ty.int Go.IntKind.i64).pair ((Go.Vx.Ty.int Go.IntKind.i64).pair ((Go.Vx.Ty.int Go.IntKind.i64).pair Go.Vx.Ty.unit))))).pair ((Go.Vx.Ty.int Go.IntKind.i64).pair ((Go.Vx.Ty.int Go.IntKind.i64).pair ((Go.Vx.Ty.int Go.IntKind.i64).pair (Go.Vx.Ty.bool.pair Go.Vx.Ty.unit))))).pair Go.Vx.Ty.unit).func ((Go.Vx.Ty.int Go.IntKind.i64).pair Go.Vx.Ty.unit)).pair Go.Vx.Ty.unit)) Go.Tw.basin_table.fst l.fst).getD ([Bool.false, Bool.false], fun (x : (Lnk × Int × Int × Int × Bool × Unit) × Unit) => Option.none, ())).fst.getD (nat_lit 1) Bool.false] [Bool.true, Bool.false] then (Option.bind (Go.Tw.basin_first_M [(Go.Tw.basin_when (l.snd.fst == l.snd.snd.fst) (17 : Int)).fst, (Go.Tw.basin_within l.snd.snd.snd.fst (0 : Int) (0 : Int)).fst, (Go.Tw.basin_within l.snd.snd.snd.snd.fst (1 : Int) (1000 : Int)).fst]) fun (v30 : Int × Unit) => Option.some (v30.fst, ())) else (Option.bind (Go.Tw.basin_first_M [(Go.Tw.basin_when (l.snd.fst == l.snd.snd.fst) (17 : Int)).fst, (Go.Tw.basin_within l.snd.snd.snd.fst (0 : Int) (1024 : Int)).fst, (Go.Tw.basin_within l.snd.snd.snd.snd.fst (1 : Int) (1000 : Int)).fst]) fun (v31 : Int × Unit) => Option.some (v31.fst, ())))) else Option.some ((10 : Int), ())) else Option.some ((10 : Int), ()))) else (bif !((Go.Vx.mapGet Go.Vx.Ty.str ((Go.Vx.Ty.arr (2 : Nat) Go.Vx.Ty.bool).pair (((((Go.Vx.Ty.str.pair ((Go.Vx.Ty.int Go.IntKind.i64).pair ((Go.Vx.Ty.int Go.IntKind.i64).pair ((Go.Vx.Ty.int Go.IntKind.i64).pair ((Go.Vx.Ty.int Go.IntKind.i64).pair Go.Vx.Ty.unit))))).pair ((Go.Vx.Ty.int Go.IntKind.i64).pair ((Go.Vx.Ty.int Go.IntKind.i64).pair ((Go.Vx.Ty.int Go.IntKind.i64).pair (Go.Vx.Ty.bool.pair Go.Vx.Ty.unit))))).pair Go.Vx.Ty.unit).func ((Go.Vx.Ty.int Go.IntKind.i64).pair Go.Vx.Ty.unit)).pair Go.Vx.Ty.unit)) Go.Tw.basin_table.fst l.fst).getD ([Bool.false, Bool.false], fun (x : (Lnk × Int × Int × Int × Bool × Unit) × Unit) => Option.none, ())).fst.getD (nat_lit 1) Bool.false then (bif Decidable.decide (l.snd.snd.fst ≥ (0 : Int)) then (bif !Decidable.decide (l.snd.snd.fst < nodes) then Option.some ((10 : Int), ()) else (bif Go.Vx.eqV (Go.Vx.Ty.arr (2 : Nat) Go.Vx.Ty.bool) [((Go.Vx.mapGet Go.Vx.Ty.str ((Go.Vx.Ty.arr (2 : Nat) Go.Vx.Ty.bool).pair (((((Go.Vx.Ty.str.pair ((Go.Vx.Ty.int Go.IntKind.i64).pair ((Go.Vx.Ty.int Go.IntKind.i64).pair ((Go.Vx.Ty.int Go.IntKind.i64).pair ((Go.Vx.Ty.int Go.IntKind.i64).pair Go.Vx.Ty.unit))))).pair ((Go.Vx.Ty.int Go.IntKind.i64).pair ((Go.Vx.Ty.int Go.IntKind.i64).pair ((Go.Vx.Ty.int Go.IntKind.i64).pair (Go.Vx.Ty.bool.pair Go.Vx.Ty.unit))))).pair Go.Vx.Ty.unit).func ((Go.Vx.Ty.int Go.IntKind.i64).pair Go.Vx.Ty.unit)).pair Go.Vx.Ty.unit)) Go.Tw.basin_table.fst l.fst).getD ([Bool.false, Bool.false], fun (x : (Lnk × Int × Int × Int × Bool × Unit) × Unit) => Option.none, ())).fst.getD (nat_lit 0) Bool.false, ((Go.Vx.mapGet Go.Vx.Ty.str ((Go.Vx.Ty.arr (2 : Nat) Go.Vx.Ty.bool).pair (((((Go.Vx.Ty.str.pair ((Go.Vx.Ty.int Go.IntKind.i64).pair ((Go.Vx.Ty.int Go.IntKind.i64).pair ((Go.Vx.Ty.int Go.IntKind.i64).pair ((Go.Vx.Ty.int Go.IntKind.i64).pair Go.Vx.Ty.unit))))).pair ((Go.Vx.Ty.int Go.IntKind.i64).pair ((Go.Vx.Ty.int Go.IntKind.i64).pair ((Go.Vx.Ty.int Go.IntKind.i64).pair (Go.Vx.Ty.bool.pair Go.Vx.Ty.unit))))).pair Go.Vx.Ty.unit).func ((Go.Vx.Ty.int Go.IntKind.i64).pair Go.Vx.Ty.unit)).pair Go.Vx.Ty.unit)) Go.Tw.basin_table.fst l.fst).getD ([Bool.false, Bool.false], fun (x : (Lnk × Int × Int × Int × Bool × Unit) × Unit) => Option.none, ())).fst.getD (nat_lit 1) Bool.false] [Bool.true, Bool.false] then (Option.bind (Go.Tw.basin_first_M [(Go.Tw.basin_when (l.snd.fst == l.snd.snd.fst) (17 : Int)).fst, (Go.Tw.basin_within l.snd.snd.snd.fst (0 : Int) (0 : Int)).fst, (Go.Tw.basin_within l.snd.snd.snd.snd.fst (1 : Int) (1000 : Int)).fst]) fun (v33 : Int × Unit) => Option.some (v33.fst, ())) else (Option.bind (Go.Tw.basin_first_M [(Go.Tw.basin_when (l.snd.fst == l.snd.snd.fst) (17 : Int)).fst, (Go.Tw.basin_within l.snd.snd.snd.fst (0 : Int) (1024 : Int)).fst, (Go.Tw.basin_within l.snd.snd.snd.snd.fst (1 : Int) (1000 : Int)).fst]) fun (v34 : Int × Unit) => Option.some (v34.fst, ())))) else Option.some ((10 : Int), ())) else Option.some ((10 : Int), ()))))

noncomputable def basin_Link_check_m (n : Nat) (l : Lnk) (nodes : Int) : Option (Int × Unit) :=
  (bif !(Go.Vx.mapGet Go.Vx.Ty.str ((Go.Vx.Ty.arr (2 : Nat) Go.Vx.Ty.bool).pair (((((Go.Vx.Ty.str.pair ((Go.Vx.Ty.int Go.IntKind.i64).pair ((Go.Vx.Ty.int Go.IntKind.i64).pair ((Go.Vx.Ty.int Go.IntKind.i64).pair ((Go.Vx.Ty.int Go.IntKind.i64).pair Go.Vx.Ty.unit))))).pair ((Go.Vx.Ty.int Go.IntKind.i64).pair ((Go.Vx.Ty.int Go.IntKind.i64).pair ((Go.Vx.Ty.int Go.IntKind.i64).pair (Go.Vx.Ty.bool.pair Go.Vx.Ty.unit))))).pair Go.Vx.Ty.unit).func ((Go.Vx.Ty.int Go.IntKind.i64).pair Go.Vx.Ty.unit)).pair Go.Vx.Ty.unit)) Go.Tw.basin_table.fst l.fst).isSome then Option.some ((13 : Int), ()) else (bif ((Go.Vx.mapGet Go.Vx.Ty.str ((Go.Vx.Ty.arr (2 : Nat) Go.Vx.Ty.bool).pair (((((Go.Vx.Ty.str.pair ((Go.Vx.Ty.int Go.IntKind.i64).pair ((Go.Vx.Ty.int Go.IntKind.i64).pair ((Go.Vx.Ty.int Go.IntKind.i64).pair ((Go.Vx.Ty.int Go.IntKind.i64).pair Go.Vx.Ty.unit))))).pair ((Go.Vx.Ty.int Go.IntKind.i64).pair ((Go.Vx.Ty.int Go.IntKind.i64).pair ((Go.Vx.Ty.int Go.IntKind.i64).pair (Go.Vx.Ty.bool.pair Go.Vx.Ty.unit))))).pair Go.Vx.Ty.unit).func ((Go.Vx.Ty.int Go.IntKind.i64).pair Go.Vx.Ty.unit)).pair Go.Vx.Ty.unit)) Go.Tw.basin_table.fst l.fst).getD ([Bool.false, Bool.false], fun (x : (Lnk × Int × Int × Int × Bool × Unit) × Unit) => Option.none, ())).fst.getD (nat_lit 0) Bool.false then (bif l.snd.fst == (-1 : Int) then (basin_Link_check_m_j20 n l nodes (Bool.true)) else (bif !((Go.Vx.mapGet Go.Vx.Ty.str ((Go.Vx.Ty.arr (2 : Nat) Go.Vx.Ty.bool).pair (((((Go.Vx.Ty.str.pair ((Go.Vx.Ty.int Go.IntKind.i64).pair ((Go.Vx.Ty.int Go.IntKind.i64).pair ((Go.Vx.Ty.int Go.IntKind.i64).pair ((Go.Vx.Ty.int Go.IntKind.i64).pair Go.Vx.Ty.unit))))).pair ((Go.Vx.Ty.int Go.IntKind.i64).pair ((Go.Vx.Ty.int Go.IntKind.i64).pair ((Go.Vx.Ty.int Go.IntKind.i64).pair (Go.Vx.Ty.bool.pair Go.Vx.Ty.unit))))).pair Go.Vx.Ty.unit).func ((Go.Vx.Ty.int Go.IntKind.i64).pair Go.Vx.Ty.unit)).pair Go.Vx.Ty.unit)) Go.Tw.basin_table.fst l.fst).getD ([Bool.false, Bool.false], fun (x : (Lnk × Int × Int × Int × Bool × Unit) × Unit) => Option.none, ())).fst.getD (nat_lit 0) Bool.false then (bif Decidable.decide (l.snd.fst ≥ (0 : Int)) then (basin_Link_check_m_j20 n l nodes (Decidable.decide (l.snd.fst < nodes))) else (basin_Link_check_m_j20 n l nodes (Bool.false))) else (basin_Link_check_m_j20 n l nodes (Bool.false)))) else (bif !((Go.Vx.mapGet Go.Vx.Ty.str ((Go.Vx.Ty.arr (2 : Nat) Go.Vx.Ty.bool).pair (((((Go.Vx.Ty.str.pair ((Go.Vx.Ty.int Go.IntKind.i64).pair ((Go.Vx.Ty.int Go.IntKind.i64).pair ((Go.Vx.Ty.int Go.IntKind.i64).pair ((Go.Vx.Ty.int Go.IntKind.i64).pair Go.Vx.Ty.unit))))).pair ((Go.Vx.Ty.int Go.IntKind.i64).pair ((Go.Vx.Ty.int Go.IntKind.i64).pair ((Go.Vx.Ty.int Go.IntKind.i64).pair (Go.Vx.Ty.bool.pair Go.Vx.Ty.unit))))).pair Go.Vx.Ty.unit).func ((Go.Vx.Ty.int Go.IntKind.i64).pair Go.Vx.Ty.unit)).pair Go.Vx.Ty.unit)) Go.Tw.basin_table.fst l.fst).getD ([Bool.false, Bool.false], fun (x : (Lnk × Int × Int × Int × Bool × Unit) × Unit) => Option.none, ())).fst.getD (nat_lit 0) Bool.false then (bif Decidable.decide (l.snd.fst ≥ (0 : Int)) then (basin_Link_check_m_j20 n l nodes (Decidable.decide (l.snd.fst < nodes))) else (basin_Link_check_m_j20 n l nodes (Bool.false))) else (basin_Link_check_m_j20 n l nodes (Bool.false)))))

theorem basin_Link_check_eq (n : Nat) (x : basin_Link_check_a.den) : runF basin_Link_check_g (basin_Link_check_an n) Tryz.f103 basin_Link_check_a basin_Link_check_r x = basin_Link_check_m n x.1 x.2.1 := by kernel_rfl

noncomputable def basin_Link_check_M (l : Lnk) (nodes : Int) : Option (Int × Unit) := basin_Link_check_m 0 l nodes

theorem basin_Link_check_run (l : Lnk) (nodes : Int) (y : Int × Unit) (h : basin_Link_check_M l nodes = some y) : ∃ n, basin_Link_check_m n l nodes = some y := ⟨0, h⟩
noncomputable def basin_Link_check_e : Entry := { f := 103, args := basin_Link_check_a, ress := basin_Link_check_r, m := fun x => basin_Link_check_M x.1 x.2.1 }
theorem basin_Link_check_ok : FnOK Tryz.prog basin_Link_check_e := fn_ok (g := basin_Link_check_g) (fn := Tryz.f103) hmixed tabOk (eCons basin_table_ok (eCons basin_when_ok (eCons basin_within_ok (eCons basin_first_ok eNil)))) (by kernel_rfl) (by kernel_rfl) (by kernel_rfl) (fun x y h => let ⟨n, hn⟩ := basin_Link_check_run x.1 x.2.1 y h; ⟨basin_Link_check_an n, (iCons il150_ok iNil), (basin_Link_check_eq n x).trans hn⟩)

/-! ### (basin.Range).higher -/
abbrev basin_Range_higher_a : Ty := .pair t104 .unit
abbrev basin_Range_higher_r : Ty := .pair t44 .unit
noncomputable def basin_Range_higher_g : G := { T := T, E := [basin_Range_corner_e], muts := [], fz := [] }
def basin_Range_higher_k : List (List Nat) := []
noncomputable def basin_Range_higher_an (n : Nat) : Ann := { keep := basin_Range_higher_k, fuel := n, inl := [], deep := 0 }
noncomputable def basin_Range_higher_m (n : Nat) (r1 : Rng) : Option (Cnd × Unit) :=
  (Option.bind (Go.Tw.basin_Range_corner_M r1 (1 : Int)) fun (v0 : Cnd × Unit) => Option.some ((v0.fst.fst, v0.fst.snd.fst, v0.fst.snd.snd.fst, ()), ()))

theorem basin_Range_higher_eq (n : Nat) (x : basin_Range_higher_a.den) : runF basin_Range_higher_g (basin_Range_higher_an n) Tryz.f110 basin_Range_higher_a basin_Range_higher_r x = basin_Range_higher_m n x.1 := by kernel_rfl

noncomputable def basin_Range_higher_M (r1 : Rng) : Option (Cnd × Unit) := basin_Range_higher_m 0 r1

theorem basin_Range_higher_run (r1 : Rng) (y : Cnd × Unit) (h : basin_Range_higher_M r1 = some y) : ∃ n, basin_Range_higher_m n r1 = some y := ⟨0, h⟩
noncomputable def basin_Range_higher_e : Entry := { f := 110, args := basin_Range_higher_a, ress := basin_Range_higher_r, m := fun x => basin_Range_higher_M x.1 }
theorem basin_Range_higher_ok : FnOK Tryz.prog basin_Range_higher_e := fn_ok (g := basin_Range_higher_g) (fn := Tryz.f110) hmixed tabOk (eCons basin_Range_corner_ok eNil) (by kernel_rfl) (by kernel_rfl) (by kernel_rfl) (fun x y h => let ⟨n, hn⟩ := basin_Range_higher_run x.1 y h; ⟨basin_Range_higher_an n, iNil, (basin_Range_higher_eq n x).trans hn⟩)

/-! ### (basin.Range).lower -/
abbrev basin_Range_lower_a : Ty := .pair t104 .unit
abbrev basin_Range_lower_r : Ty := .pair t44 .unit
noncomputable def basin_Range_lower_g : G := { T := T, E := [basin_Range_corner_e], muts := [], fz := [] }
def basin_Range_lower_k : List (List Nat) := []
noncomputable def basin_Range_lower_an (n : Nat) : Ann := { keep := basin_Range_lower_k, fuel := n, inl := [], deep := 0 }
noncomputable def basin_Range_lower_m (n : Nat) (r1 : Rng) : Option (Cnd × Unit) :=
  (Option.bind (Go.Tw.basin_Range_corner_M r1 (0 : Int)) fun (v0 : Cnd × Unit) => Option.some ((v0.fst.fst, v0.fst.snd.fst, v0.fst.snd.snd.fst, ()), ()))

theorem basin_Range_lower_eq (n : Nat) (x : basin_Range_lower_a.den) : runF basin_Range_lower_g (basin_Range_lower_an n) Tryz.f111 basin_Range_lower_a basin_Range_lower_r x = basin_Range_lower_m n x.1 := by kernel_rfl

noncomputable def basin_Range_lower_M (r1 : Rng) : Option (Cnd × Unit) := basin_Range_lower_m 0 r1

theorem basin_Range_lower_run (r1 : Rng) (y : Cnd × Unit) (h : basin_Range_lower_M r1 = some y) : ∃ n, basin_Range_lower_m n r1 = some y := ⟨0, h⟩
noncomputable def basin_Range_lower_e : Entry := { f := 111, args := basin_Range_lower_a, ress := basin_Range_lower_r, m := fun x => basin_Range_lower_M x.1 }
theorem basin_Range_lower_ok : FnOK Tryz.prog basin_Range_lower_e := fn_ok (g := basin_Range_lower_g) (fn := Tryz.f111) hmixed tabOk (eCons basin_Range_corner_ok eNil) (by kernel_rfl) (by kernel_rfl) (by kernel_rfl) (fun x y h => let ⟨n, hn⟩ := basin_Range_lower_run x.1 y h; ⟨basin_Range_lower_an n, iNil, (basin_Range_lower_eq n x).trans hn⟩)

/-! ### (basin.Basin).checkRange -/
abbrev basin_Basin_checkRange_a : Ty := .pair t41 (.pair t104 .unit)
abbrev basin_Basin_checkRange_r : Ty := .pair t35 .unit
noncomputable def basin_Basin_checkRange_g : G := { T := T, E := [basin_Basin_checkRange_1_e, basin_checkInterval_e, basin_checkTide_e, basin_when_e, basin_mapped_api_Interval_api_Errno_e, basin_first_e], muts := [], fz := [] }
def basin_Basin_checkRange_k : List (List Nat) := []
noncomputable def basin_Basin_checkRange_an (n : Nat) : Ann := { keep := basin_Basin_checkRange_k, fuel := n, inl := [], deep := 0 }
noncomputable def basin_Basin_checkRange_m (n : Nat) (b : Bas) (r1 : Rng) : Option (Int × Unit) :=
  (Option.bind (Go.Tw.basin_checkInterval_M r1.fst fun (x : Int × Unit) => Go.Tw.basin_checkTide_M x.fst) fun (v0 : Int × Unit) => (Option.bind (Go.Tw.basin_mapped_api_Interval_api_Errno_M r1.snd.snd.fst fun (x : (Int × Int × Unit) × Unit) => Go.Tw.basin_Basin_checkRange_1_M x.fst) fun (v1 : List Int × Unit) => (Option.bind (Go.Tw.basin_first_M v1.fst) fun (v2 : Int × Unit) => (Option.bind (Go.Tw.basin_first_M [v0.fst, (Go.Tw.basin_when ((↑r1.snd.snd.fst.length : Int) != (↑b.fst.length : Int)) (2 : Int)).fst, v2.fst]) fun (v3 : Int × Unit) => Option.some (v3.fst, ())))))

theorem basin_Basin_checkRange_eq (n : Nat) (x : basin_Basin_checkRange_a.den) : runF basin_Basin_checkRange_g (basin_Basin_checkRange_an n) Tryz.f115 basin_Basin_checkRange_a basin_Basin_checkRange_r x = basin_Basin_checkRange_m n x.1 x.2.1 := by kernel_rfl

noncomputable def basin_Basin_checkRange_M (b : Bas) (r1 : Rng) : Option (Int × Unit) := basin_Basin_checkRange_m 0 b r1

theorem basin_Basin_checkRange_run (b : Bas) (r1 : Rng) (y : Int × Unit) (h : basin_Basin_checkRange_M b r1 = some y) : ∃ n, basin_Basin_checkRange_m n b r1 = some y := ⟨0, h⟩
noncomputable def basin_Basin_checkRange_e : Entry := { f := 115, args := basin_Basin_checkRange_a, ress := basin_Basin_checkRange_r, m := fun x => basin_Basin_checkRange_M x.1 x.2.1 }
theorem basin_Basin_checkRange_ok : FnOK Tryz.prog basin_Basin_checkRange_e := fn_ok (g := basin_Basin_checkRange_g) (fn := Tryz.f115) hmixed tabOk (eCons basin_Basin_checkRange_1_ok (eCons basin_checkInterval_ok (eCons basin_checkTide_ok (eCons basin_when_ok (eCons basin_mapped_api_Interval_api_Errno_ok (eCons basin_first_ok eNil)))))) (by kernel_rfl) (by kernel_rfl) (by kernel_rfl) (fun x y h => let ⟨n, hn⟩ := basin_Basin_checkRange_run x.1 x.2.1 y h; ⟨basin_Basin_checkRange_an n, iNil, (basin_Basin_checkRange_eq n x).trans hn⟩)

end Go.Tw
end
