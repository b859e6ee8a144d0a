/- Models of the program's functions, by program (gen.py), and what they compute. -/
import Derived.Test.YtkfigfhjbejikaaGreatDoorBT
import Derived.Test.YtkfigfhjbejikaaGreatDoorB0
import Derived.Test.YtkfigfhjbejikaaGreatDoorB1
import Derived.Test.YtkfigfhjbejikaaGreatDoorB2
import Derived.Test.YtkfigfhjbejikaaGreatDoorB3
set_option linter.all false
set_option maxRecDepth 1000000
namespace Go.Tw
open Go.Vx Go.Vx.B Go.Proofs
/-! ### tidewayref04.CheckBasin -/
abbrev ref04_CheckBasin_a : Ty := .pair t25 .unit
abbrev ref04_CheckBasin_r : Ty := .pair t3 .unit
noncomputable def ref04_CheckBasin_g : G := { T := T, E := [ref04_CheckNodes_e, ref04_checkLink_e], muts := [], fz := [] }
def ref04_CheckBasin_k : List (List Nat) := [[1, 4]]
noncomputable def ref04_CheckBasin_an (n : Nat) : Ann := { keep := ref04_CheckBasin_k, fuel := n, inl := [], deep := 0 }
noncomputable def ref04_CheckBasin_m_l1 (n : Nat) (r1 : List (List UInt8 × Int × Int × Unit) × List (List UInt8 × Int × Int × Int × Int × Unit) × Unit → Int → Option (Int × Unit)) (b1_1 : List (List UInt8 × Int × Int × Unit) × List (List UInt8 × Int × Int × Int × Int × Unit) × Unit) (i4_1 : Int) : Option (Int × Unit) :=
  (bif Decidable.decide (i4_1 < (↑b1_1.snd.fst.length : Int)) then (Option.bind (Go.Vx.idx b1_1.snd.fst i4_1) fun (v2 : List UInt8 × Int × Int × Int × Int × Unit) => (Option.bind (Go.Tw.ref04_checkLink_M v2 (↑b1_1.fst.length : Int)) fun (v3 : Int × Unit) => (bif v3.fst != (0 : Int) then Option.some (v3.fst, ()) else r1 b1_1 (Go.IntKind.i64.wrap (i4_1 + (1 : Int)))))) else Option.some ((0 : Int), ()))

noncomputable def ref04_CheckBasin_m_w1 (n : Nat)  (k : Nat) (b1_1 : List (List UInt8 × Int × Int × Unit) × List (List UInt8 × Int × Int × Int × Int × Unit) × Unit) (i4_1 : Int) : Option (Int × Unit) :=
  iter (fun r y => ref04_CheckBasin_m_l1 n (fun b1_1 i4_1 => r ((b1_1, (i4_1, ())), ((), ()))) y.1.1 y.1.2.1) k ((b1_1, (i4_1, ())), ((), ()))
theorem ref04_CheckBasin_m_w1_succ (n : Nat)  (k : Nat) (b1_1 : List (List UInt8 × Int × Int × Unit) × List (List UInt8 × Int × Int × Int × Int × Unit) × Unit) (i4_1 : Int) : ref04_CheckBasin_m_w1 n (k + 1) b1_1 i4_1 = ref04_CheckBasin_m_l1 n (ref04_CheckBasin_m_w1 n k) b1_1 i4_1 := rfl

noncomputable def ref04_CheckBasin_m (n : Nat) (b : List (List UInt8 × Int × Int × Unit) × List (List UInt8 × Int × Int × Int × Int × Unit) × Unit) : Option (Int × Unit) :=
  (Option.bind (Go.Tw.ref04_CheckNodes_M b.fst) fun (v0 : Int × Unit) => (bif v0.fst != (0 : Int) then Option.some (v0.fst, ()) else (bif Decidable.decide ((↑b.snd.fst.length : Int) > (16 : Int)) then Option.some ((5 : Int), ()) else (ref04_CheckBasin_m_w1 n n (b) ((0 : Int))))))

theorem ref04_CheckBasin_eq (n : Nat) (x : ref04_CheckBasin_a.den) : runF ref04_CheckBasin_g (ref04_CheckBasin_an n) Tryz.f24 ref04_CheckBasin_a ref04_CheckBasin_r x = ref04_CheckBasin_m n x.1 := by kernel_rfl

noncomputable def ref04_CheckBasin_b1 (b1_1 : List (List UInt8 × Int × Int × Unit) × List (List UInt8 × Int × Int × Int × Int × Unit) × Unit) (i4_1 : Int) (v2 : List UInt8 × Int × Int × Int × Int × Unit) : Option ((Int × Unit) ⊕ Unit) :=
  (Option.bind (Go.Tw.ref04_checkLink_M v2 (↑b1_1.fst.length : Int)) fun (v3 : Int × Unit) => (bif v3.fst != (0 : Int) then (some (Sum.inl ((v3.fst, ())))) else (some (Sum.inr ()))))

noncomputable def ref04_CheckBasin_f1 (b1_1 : List (List UInt8 × Int × Int × Unit) × List (List UInt8 × Int × Int × Int × Int × Unit) × Unit) : Option (Int × Unit) :=
  (some (((0 : Int), ())))

theorem ref04_CheckBasin_m_w1_le (n : Nat) (hn : big ≤ n)  (b1_1 : List (List UInt8 × Int × Int × Unit) × List (List UInt8 × Int × Int × Int × Int × Unit) × Unit) (hx : List.length (b1_1.snd.fst) < lenMax) : LeF some (loopL (fun i__ e__ s__ => ref04_CheckBasin_b1 b1_1 i__ e__) (fun s__ => ref04_CheckBasin_f1 b1_1) 0 (b1_1.snd.fst) ()) (ref04_CheckBasin_m_w1 n n b1_1 0) := by
  refine loopL_le (f := some) (W := fun k__ i__ s__ => ref04_CheckBasin_m_w1 n k__ b1_1 i__) (body := (fun i__ e__ s__ => ref04_CheckBasin_b1 b1_1 i__ e__)) (fin := (fun s__ => ref04_CheckBasin_f1 b1_1)) (fun k__ i__ s__ => ?_) hx () n (by unfold big at hn; unfold lenMax at hx; omega)
  show LeF _ _ (ref04_CheckBasin_m_l1 n (ref04_CheckBasin_m_w1 n k__) b1_1 i__)
  exact leCond (leBind fun v2 => (leBind fun v3 => (leCond (leSome rfl) (leSome rfl)))) (leMap (leSome rfl))

noncomputable def ref04_CheckBasin_M (b : List (List UInt8 × Int × Int × Unit) × List (List UInt8 × Int × Int × Int × Int × Unit) × Unit) : Option (Int × Unit) :=
  (Option.bind (Go.Tw.ref04_CheckNodes_M b.fst) fun (v0 : Int × Unit) => (bif v0.fst != (0 : Int) then (some ((v0.fst, ()))) else (bif Decidable.decide ((↑b.snd.fst.length : Int) > (16 : Int)) then (some (((5 : Int), ()))) else (bif decide (List.length (b.snd.fst) < lenMax) then loopL (fun i__ e__ s__ => ref04_CheckBasin_b1 (b) i__ e__) (fun s__ => ref04_CheckBasin_f1 (b)) 0 (b.snd.fst) () else none))))

theorem ref04_CheckBasin_run (b : List (List UInt8 × Int × Int × Unit) × List (List UInt8 × Int × Int × Int × Int × Unit) × Unit) (y : Int × Unit) (h : ref04_CheckBasin_M b = some y) : ∃ n, ref04_CheckBasin_m n b = some y :=
  ⟨big, LeF.top (show LeF some (ref04_CheckBasin_M b) (ref04_CheckBasin_m big b) from (fun (n : Nat) (hn : big ≤ n) => show LeF some (ref04_CheckBasin_M b) (ref04_CheckBasin_m n b) from (leBind fun v0 => (leCond (leSome rfl) (leCond (leSome rfl) (leGuard fun hx => by apply ref04_CheckBasin_m_w1_le n hn; exact hx))))) big (Nat.le_refl _)) h⟩
noncomputable def ref04_CheckBasin_e : Entry := { f := 24, args := ref04_CheckBasin_a, ress := ref04_CheckBasin_r, m := fun x => ref04_CheckBasin_M x.1 }
theorem ref04_CheckBasin_ok : FnOK Tryz.prog ref04_CheckBasin_e := fn_ok (g := ref04_CheckBasin_g) (fn := Tryz.f24) hmixed tabOk (eCons ref04_CheckNodes_ok (eCons ref04_checkLink_ok eNil)) (by kernel_rfl) (by kernel_rfl) (by kernel_rfl) (fun x y h => let ⟨n, hn⟩ := ref04_CheckBasin_run x.1 y h; ⟨ref04_CheckBasin_an n, iNil, (ref04_CheckBasin_eq n x).trans hn⟩)

/-! ### tidewayref04.Moved -/
abbrev ref04_Moved_a : Ty := .pair t25 (.pair t26 (.pair t28 .unit))
abbrev ref04_Moved_r : Ty := .pair t26 (.pair t26 (.pair t3 .unit))
noncomputable def ref04_Moved_g : G := { T := T, E := [ref04_tooMuch_e, ref04_flow_e], muts := [11, 15], fz := [] }
def ref04_Moved_k : List (List Nat) := [[3, 5, 9, 10], [3, 5, 9, 11, 12]]
noncomputable def ref04_Moved_an (n : Nat) : Ann := { keep := ref04_Moved_k, fuel := n, inl := [], deep := 0 }
noncomputable def ref04_Moved_m_j21 (n : Nat) (r7 : List (List UInt8 × Int × Int × Unit) × List (List UInt8 × Int × Int × Int × Int × Unit) × Unit → Int × Bool × List Int × Unit → Int → List Int → List Int → Option (List Int × List Int × Int × Unit)) (b3_7 : List (List UInt8 × Int × Int × Unit) × List (List UInt8 × Int × Int × Int × Int × Unit) × Unit) (c5_7 : Int × Bool × List Int × Unit) (i12_7 : Int) (c1_7 : List Int) (v9 : Int × Unit) (j19 : List Int) : Option (List Int × List Int × Int × Unit) :=
  (Option.bind (Go.Tw.ref04_tooMuch_M j19) fun (v20 : Bool × Unit) => (bif v20.fst then Option.some ([], [], (4 : Int), ()) else (bif Decidable.decide (c1_7.length + (1 : Nat) ≤ Go.Vx.memMax) then r7 b3_7 c5_7 (Go.IntKind.i64.wrap (i12_7 + (1 : Int))) j19 (c1_7 ++ [v9.fst]) else none)))

noncomputable def ref04_Moved_m_j22 (n : Nat) (r7 : List (List UInt8 × Int × Int × Unit) × List (List UInt8 × Int × Int × Int × Int × Unit) × Unit → Int × Bool × List Int × Unit → Int → List Int → List Int → Option (List Int × List Int × Int × Unit)) (b3_7 : List (List UInt8 × Int × Int × Unit) × List (List UInt8 × Int × Int × Int × Int × Unit) × Unit) (c5_7 : Int × Bool × List Int × Unit) (i12_7 : Int) (c1_7 : List Int) (v8 : List UInt8 × Int × Int × Int × Int × Unit) (v9 : Int × Unit) (j14 : List Int) : Option (List Int × List Int × Int × Unit) :=
  (bif Decidable.decide (v8.snd.snd.fst ≥ (0 : Int)) then (Option.bind (Go.Vx.idx j14 v8.snd.snd.fst) fun (v15 : Int) => (Option.bind (j14[v8.snd.snd.fst.toNat]?) fun (v16 : Int) => (Option.bind (Go.Vx.idx j14 v8.snd.snd.fst) fun (v17 : Int) => (Option.bind (j14[v8.snd.snd.fst.toNat]?) fun (v18 : Int) => (ref04_Moved_m_j21 n r7 b3_7 c5_7 i12_7 c1_7 v9 (j14.set v8.snd.snd.fst.toNat (Go.IntKind.i64.wrap (v16 + v9.fst)))))))) else (ref04_Moved_m_j21 n r7 b3_7 c5_7 i12_7 c1_7 v9 (j14)))

noncomputable def ref04_Moved_m_l7 (n : Nat) (r7 : List (List UInt8 × Int × Int × Unit) × List (List UInt8 × Int × Int × Int × Int × Unit) × Unit → Int × Bool × List Int × Unit → Int → List Int → List Int → Option (List Int × List Int × Int × Unit)) (b3_7 : List (List UInt8 × Int × Int × Unit) × List (List UInt8 × Int × Int × Int × Int × Unit) × Unit) (c5_7 : Int × Bool × List Int × Unit) (i12_7 : Int) (c0_7 : List Int) (c1_7 : List Int) : Option (List Int × List Int × Int × Unit) :=
  (bif Decidable.decide (i12_7 < (↑b3_7.snd.fst.length : Int)) then (Option.bind (Go.Vx.idx b3_7.snd.fst i12_7) fun (v8 : List UInt8 × Int × Int × Int × Int × Unit) => (Option.bind (Go.Tw.ref04_flow_M b3_7 c0_7 c5_7 (v8.fst, v8.snd.fst, v8.snd.snd.fst, v8.snd.snd.snd.fst, v8.snd.snd.snd.snd.fst, ())) fun (v9 : Int × Unit) => (bif Decidable.decide (v8.snd.fst ≥ (0 : Int)) then (Option.bind (Go.Vx.idx c0_7 v8.snd.fst) fun (v10 : Int) => (Option.bind (c0_7[v8.snd.fst.toNat]?) fun (v11 : Int) => (Option.bind (Go.Vx.idx c0_7 v8.snd.fst) fun (v12 : Int) => (Option.bind (c0_7[v8.snd.fst.toNat]?) fun (v13 : Int) => (ref04_Moved_m_j22 n r7 b3_7 c5_7 i12_7 c1_7 v8 v9 (c0_7.set v8.snd.fst.toNat (Go.IntKind.i64.wrap (v11 - v9.fst)))))))) else (ref04_Moved_m_j22 n r7 b3_7 c5_7 i12_7 c1_7 v8 v9 (c0_7))))) else Option.some (c1_7, c0_7, (0 : Int), ()))

noncomputable def ref04_Moved_m_w7 (n : Nat)  (k : Nat) (b3_7 : List (List UInt8 × Int × Int × Unit) × List (List UInt8 × Int × Int × Int × Int × Unit) × Unit) (c5_7 : Int × Bool × List Int × Unit) (i12_7 : Int) (c0_7 : List Int) (c1_7 : List Int) : Option (List Int × List Int × Int × Unit) :=
  iter (fun r y => ref04_Moved_m_l7 n (fun b3_7 c5_7 i12_7 c0_7 c1_7 => r ((b3_7, (c5_7, (i12_7, ()))), ((c0_7, (c1_7, ())), ()))) y.1.1 y.1.2.1 y.1.2.2.1 y.2.1.1 y.2.1.2.1) k ((b3_7, (c5_7, (i12_7, ()))), ((c0_7, (c1_7, ())), ()))
theorem ref04_Moved_m_w7_succ (n : Nat)  (k : Nat) (b3_7 : List (List UInt8 × Int × Int × Unit) × List (List UInt8 × Int × Int × Int × Int × Unit) × Unit) (c5_7 : Int × Bool × List Int × Unit) (i12_7 : Int) (c0_7 : List Int) (c1_7 : List Int) : ref04_Moved_m_w7 n (k + 1) b3_7 c5_7 i12_7 c0_7 c1_7 = ref04_Moved_m_l7 n (ref04_Moved_m_w7 n k) b3_7 c5_7 i12_7 c0_7 c1_7 := rfl

noncomputable def ref04_Moved_m_l0 (n : Nat) (r0 : List (List UInt8 × Int × Int × Unit) × List (List UInt8 × Int × Int × Int × Int × Unit) × Unit → Int × Bool × List Int × Unit → Int → List Int → Option (List Int × List Int × Int × Unit)) (b3_0 : List (List UInt8 × Int × Int × Unit) × List (List UInt8 × Int × Int × Int × Int × Unit) × Unit) (c5_0 : Int × Bool × List Int × Unit) (i10_0 : Int) (c0_0 : List Int) : Option (List Int × List Int × Int × Unit) :=
  (bif Decidable.decide (i10_0 < (↑c0_0.length : Int)) then (Option.bind (Go.Vx.idx c0_0 i10_0) fun (v1 : Int) => (Option.bind (c0_0[i10_0.toNat]?) fun (v2 : Int) => (Option.bind (Go.Vx.idx c5_0.snd.snd.fst i10_0) fun (v3 : Int) => (Option.bind (Go.Vx.idx c0_0 i10_0) fun (v4 : Int) => (Option.bind (c0_0[i10_0.toNat]?) fun (v5 : Int) => r0 b3_0 c5_0 (Go.IntKind.i64.wrap (i10_0 + (1 : Int))) (c0_0.set i10_0.toNat (Go.IntKind.i64.wrap (v2 + v3)))))))) else (Option.bind (Go.Tw.ref04_tooMuch_M c0_0) fun (v6 : Bool × Unit) => (bif v6.fst then Option.some ([], [], (4 : Int), ()) else (ref04_Moved_m_w7 n n (b3_0) (c5_0) ((0 : Int)) (c0_0) ([])))))

noncomputable def ref04_Moved_m_w0 (n : Nat)  (k : Nat) (b3_0 : List (List UInt8 × Int × Int × Unit) × List (List UInt8 × Int × Int × Int × Int × Unit) × Unit) (c5_0 : Int × Bool × List Int × Unit) (i10_0 : Int) (c0_0 : List Int) : Option (List Int × List Int × Int × Unit) :=
  iter (fun r y => ref04_Moved_m_l0 n (fun b3_0 c5_0 i10_0 c0_0 => r ((b3_0, (c5_0, (i10_0, ()))), ((c0_0, ()), ()))) y.1.1 y.1.2.1 y.1.2.2.1 y.2.1.1) k ((b3_0, (c5_0, (i10_0, ()))), ((c0_0, ()), ()))
theorem ref04_Moved_m_w0_succ (n : Nat)  (k : Nat) (b3_0 : List (List UInt8 × Int × Int × Unit) × List (List UInt8 × Int × Int × Int × Int × Unit) × Unit) (c5_0 : Int × Bool × List Int × Unit) (i10_0 : Int) (c0_0 : List Int) : ref04_Moved_m_w0 n (k + 1) b3_0 c5_0 i10_0 c0_0 = ref04_Moved_m_l0 n (ref04_Moved_m_w0 n k) b3_0 c5_0 i10_0 c0_0 := rfl

noncomputable def ref04_Moved_m (n : Nat) (b : List (List UInt8 × Int × Int × Unit) × List (List UInt8 × Int × Int × Int × Int × Unit) × Unit) (v : List Int) (c : Int × Bool × List Int × Unit) : Option (List Int × List Int × Int × Unit) :=
  (bif Decidable.decide ((0 : Nat) + v.length ≤ Go.Vx.memMax) then (ref04_Moved_m_w0 n n (b) (c) ((0 : Int)) (v)) else none)

theorem ref04_Moved_eq (n : Nat) (x : ref04_Moved_a.den) : runF ref04_Moved_g (ref04_Moved_an n) Tryz.f44 ref04_Moved_a ref04_Moved_r x = ref04_Moved_m n x.1 x.2.1 x.2.2.1 := by kernel_rfl

noncomputable def ref04_Moved_s21 (b3_7 : List (List UInt8 × Int × Int × Unit) × List (List UInt8 × Int × Int × Int × Int × Unit) × Unit) (c5_7 : Int × Bool × List Int × Unit) (i12_7 : Int) (c1_7 : List Int) (v9 : Int × Unit) (j19 : List Int) : Option ((List Int × List Int × Int × Unit) ⊕ (List Int × List Int)) :=
  (Option.bind (Go.Tw.ref04_tooMuch_M j19) fun (v20 : Bool × Unit) => (bif v20.fst then (some (Sum.inl (([], [], (4 : Int), ())))) else (bif Decidable.decide (c1_7.length + (1 : Nat) ≤ Go.Vx.memMax) then (some (Sum.inr ((j19), (c1_7 ++ [v9.fst])))) else none)))

theorem ref04_Moved_s21_le (n : Nat) (hn : big ≤ n)  (r7 : List (List UInt8 × Int × Int × Unit) × List (List UInt8 × Int × Int × Int × Int × Unit) × Unit → Int × Bool × List Int × Unit → Int → List Int → List Int → Option (List Int × List Int × Int × Unit)) (b3_7 : List (List UInt8 × Int × Int × Unit) × List (List UInt8 × Int × Int × Int × Int × Unit) × Unit) (c5_7 : Int × Bool × List Int × Unit) (i12_7 : Int) (c1_7 : List Int) (v9 : Int × Unit) (j19 : List Int) : LeF (elim some fun (s__ : (List Int × List Int)) => r7 b3_7 c5_7 (Go.IntKind.i64.wrap (i12_7 + 1)) s__.1 s__.2) (ref04_Moved_s21 b3_7 c5_7 i12_7 c1_7 v9 j19) (ref04_Moved_m_j21 n r7 b3_7 c5_7 i12_7 c1_7 v9 j19) :=
  (leBind fun v20 => (leCond (leSome rfl) (leCond (leSome rfl) leNone)))

noncomputable def ref04_Moved_s22 (b3_7 : List (List UInt8 × Int × Int × Unit) × List (List UInt8 × Int × Int × Int × Int × Unit) × Unit) (c5_7 : Int × Bool × List Int × Unit) (i12_7 : Int) (c1_7 : List Int) (v8 : List UInt8 × Int × Int × Int × Int × Unit) (v9 : Int × Unit) (j14 : List Int) : Option ((List Int × List Int × Int × Unit) ⊕ (List Int × List Int)) :=
  (bif Decidable.decide (v8.snd.snd.fst ≥ (0 : Int)) then (Option.bind (Go.Vx.idx j14 v8.snd.snd.fst) fun (v15 : Int) => (Option.bind (j14[v8.snd.snd.fst.toNat]?) fun (v16 : Int) => (Option.bind (Go.Vx.idx j14 v8.snd.snd.fst) fun (v17 : Int) => (Option.bind (j14[v8.snd.snd.fst.toNat]?) fun (v18 : Int) => (ref04_Moved_s21 b3_7 c5_7 i12_7 c1_7 v9 (j14.set v8.snd.snd.fst.toNat (Go.IntKind.i64.wrap (v16 + v9.fst)))))))) else (ref04_Moved_s21 b3_7 c5_7 i12_7 c1_7 v9 (j14)))

theorem ref04_Moved_s22_le (n : Nat) (hn : big ≤ n)  (r7 : List (List UInt8 × Int × Int × Unit) × List (List UInt8 × Int × Int × Int × Int × Unit) × Unit → Int × Bool × List Int × Unit → Int → List Int → List Int → Option (List Int × List Int × Int × Unit)) (b3_7 : List (List UInt8 × Int × Int × Unit) × List (List UInt8 × Int × Int × Int × Int × Unit) × Unit) (c5_7 : Int × Bool × List Int × Unit) (i12_7 : Int) (c1_7 : List Int) (v8 : List UInt8 × Int × Int × Int × Int × Unit) (v9 : Int × Unit) (j14 : List Int) : LeF (elim some fun (s__ : (List Int × List Int)) => r7 b3_7 c5_7 (Go.IntKind.i64.wrap (i12_7 + 1)) s__.1 s__.2) (ref04_Moved_s22 b3_7 c5_7 i12_7 c1_7 v8 v9 j14) (ref04_Moved_m_j22 n r7 b3_7 c5_7 i12_7 c1_7 v8 v9 j14) :=
  (leCond (leBind fun v15 => (leBind fun v16 => (leBind fun v17 => (leBind fun v18 => (by apply ref04_Moved_s21_le n hn))))) (by apply ref04_Moved_s21_le n hn))

noncomputable def ref04_Moved_b7 (b3_7 : List (List UInt8 × Int × Int × Unit) × List (List UInt8 × Int × Int × Int × Int × Unit) × Unit) (c5_7 : Int × Bool × List Int × Unit) (i12_7 : Int) (v8 : List UInt8 × Int × Int × Int × Int × Unit) (c0_7 : List Int) (c1_7 : List Int) : Option ((List Int × List Int × Int × Unit) ⊕ (List Int × List Int)) :=
  (Option.bind (Go.Tw.ref04_flow_M b3_7 c0_7 c5_7 (v8.fst, v8.snd.fst, v8.snd.snd.fst, v8.snd.snd.snd.fst, v8.snd.snd.snd.snd.fst, ())) fun (v9 : Int × Unit) => (bif Decidable.decide (v8.snd.fst ≥ (0 : Int)) then (Option.bind (Go.Vx.idx c0_7 v8.snd.fst) fun (v10 : Int) => (Option.bind (c0_7[v8.snd.fst.toNat]?) fun (v11 : Int) => (Option.bind (Go.Vx.idx c0_7 v8.snd.fst) fun (v12 : Int) => (Option.bind (c0_7[v8.snd.fst.toNat]?) fun (v13 : Int) => (ref04_Moved_s22 b3_7 c5_7 i12_7 c1_7 v8 v9 (c0_7.set v8.snd.fst.toNat (Go.IntKind.i64.wrap (v11 - v9.fst)))))))) else (ref04_Moved_s22 b3_7 c5_7 i12_7 c1_7 v8 v9 (c0_7))))

noncomputable def ref04_Moved_f7 (b3_7 : List (List UInt8 × Int × Int × Unit) × List (List UInt8 × Int × Int × Int × Int × Unit) × Unit) (c5_7 : Int × Bool × List Int × Unit) (c0_7 : List Int) (c1_7 : List Int) : Option (List Int × List Int × Int × Unit) :=
  (some ((c1_7, c0_7, (0 : Int), ())))

theorem ref04_Moved_m_w7_le (n : Nat) (hn : big ≤ n)  (b3_7 : List (List UInt8 × Int × Int × Unit) × List (List UInt8 × Int × Int × Int × Int × Unit) × Unit) (c5_7 : Int × Bool × List Int × Unit) (c0_7 : List Int) (c1_7 : List Int) (hx : List.length (b3_7.snd.fst) < lenMax) : LeF some (loopL (fun i__ e__ s__ => ref04_Moved_b7 b3_7 c5_7 i__ e__ s__.1 s__.2) (fun s__ => ref04_Moved_f7 b3_7 c5_7 s__.1 s__.2) 0 (b3_7.snd.fst) (c0_7, c1_7)) (ref04_Moved_m_w7 n n b3_7 c5_7 0 c0_7 c1_7) := by
  refine loopL_le (f := some) (W := fun k__ i__ s__ => ref04_Moved_m_w7 n k__ b3_7 c5_7 i__ s__.1 s__.2) (body := (fun i__ e__ s__ => ref04_Moved_b7 b3_7 c5_7 i__ e__ s__.1 s__.2)) (fin := (fun s__ => ref04_Moved_f7 b3_7 c5_7 s__.1 s__.2)) (fun k__ i__ s__ => ?_) hx (c0_7, c1_7) n (by unfold big at hn; unfold lenMax at hx; omega)
  show LeF _ _ (ref04_Moved_m_l7 n (ref04_Moved_m_w7 n k__) b3_7 c5_7 i__ s__.1 s__.2)
  exact leCond (leBind fun v8 => (leBind fun v9 => (leCond (leBind fun v10 => (leBind fun v11 => (leBind fun v12 => (leBind fun v13 => (by apply ref04_Moved_s22_le n hn))))) (by apply ref04_Moved_s22_le n hn)))) (leMap (leSome rfl))

noncomputable def ref04_Moved_b0 (b3_0 : List (List UInt8 × Int × Int × Unit) × List (List UInt8 × Int × Int × Int × Int × Unit) × Unit) (c5_0 : Int × Bool × List Int × Unit) (i10_0 : Int) (c0_0 : List Int) : Option ((List Int × List Int × Int × Unit) ⊕ (List Int)) :=
  (Option.bind (Go.Vx.idx c0_0 i10_0) fun (v1 : Int) => (Option.bind (c0_0[i10_0.toNat]?) fun (v2 : Int) => (Option.bind (Go.Vx.idx c5_0.snd.snd.fst i10_0) fun (v3 : Int) => (Option.bind (Go.Vx.idx c0_0 i10_0) fun (v4 : Int) => (Option.bind (c0_0[i10_0.toNat]?) fun (v5 : Int) => (some (Sum.inr (c0_0.set i10_0.toNat (Go.IntKind.i64.wrap (v2 + v3))))))))))

noncomputable def ref04_Moved_f0 (b3_0 : List (List UInt8 × Int × Int × Unit) × List (List UInt8 × Int × Int × Int × Int × Unit) × Unit) (c5_0 : Int × Bool × List Int × Unit) (c0_0 : List Int) : Option (List Int × List Int × Int × Unit) :=
  (Option.bind (Go.Tw.ref04_tooMuch_M c0_0) fun (v6 : Bool × Unit) => (bif v6.fst then (some (([], [], (4 : Int), ()))) else (bif decide (List.length (b3_0.snd.fst) < lenMax) then loopL (fun i__ e__ s__ => ref04_Moved_b7 (b3_0) (c5_0) i__ e__ s__.1 s__.2) (fun s__ => ref04_Moved_f7 (b3_0) (c5_0) s__.1 s__.2) 0 (b3_0.snd.fst) ((c0_0), ([])) else none)))

theorem ref04_Moved_m_w0_le (n : Nat) (hn : big ≤ n)  (b3_0 : List (List UInt8 × Int × Int × Unit) × List (List UInt8 × Int × Int × Int × Int × Unit) × Unit) (c5_0 : Int × Bool × List Int × Unit) (c0_0 : List Int) (hx : ((↑c0_0.length : Int)) ≤ (9223372036854775807 : Int)) : LeF some (loopG (fun s__ => (↑s__.length : Int)) (fun i__ s__ => ref04_Moved_b0 b3_0 c5_0 i__ s__) (fun s__ => ref04_Moved_f0 b3_0 c5_0 s__) (((↑c0_0.length : Int)) - 0).toNat 0 c0_0) (ref04_Moved_m_w0 n n b3_0 c5_0 0 c0_0) := by
  refine loopG_le (f := some) (N := (fun s__ => (↑s__.length : Int))) (W := fun k__ i__ s__ => ref04_Moved_m_w0 n k__ b3_0 c5_0 i__ s__) (body := (fun i__ s__ => ref04_Moved_b0 b3_0 c5_0 i__ s__)) (fin := (fun s__ => ref04_Moved_f0 b3_0 c5_0 s__)) (fun k__ i__ s__ => ?_) c0_0 n 0 hx (by decide) (by unfold big at hn; omega)
  show LeF _ _ (ref04_Moved_m_l0 n (ref04_Moved_m_w0 n k__) b3_0 c5_0 i__ s__)
  exact leCond (leBind fun v1 => (leBind fun v2 => (leBind fun v3 => (leBind fun v4 => (leBind fun v5 => (leSome rfl)))))) (leMap (leBind fun v6 => (leCond (leSome rfl) (leGuard fun hx => by apply ref04_Moved_m_w7_le n hn; exact hx))))

noncomputable def ref04_Moved_M (b : List (List UInt8 × Int × Int × Unit) × List (List UInt8 × Int × Int × Int × Int × Unit) × Unit) (v : List Int) (c : Int × Bool × List Int × Unit) : Option (List Int × List Int × Int × Unit) :=
  (bif Decidable.decide ((0 : Nat) + v.length ≤ Go.Vx.memMax) then (bif decide (((↑v.length : Int)) ≤ (9223372036854775807 : Int)) then loopG (fun s__ => (↑s__.length : Int)) (fun i__ s__ => ref04_Moved_b0 (b) (c) i__ s__) (fun s__ => ref04_Moved_f0 (b) (c) s__) (((↑v.length : Int)) - 0).toNat 0 (v) else none) else none)

theorem ref04_Moved_run (b : List (List UInt8 × Int × Int × Unit) × List (List UInt8 × Int × Int × Int × Int × Unit) × Unit) (v : List Int) (c : Int × Bool × List Int × Unit) (y : List Int × List Int × Int × Unit) (h : ref04_Moved_M b v c = some y) : ∃ n, ref04_Moved_m n b v c = some y :=
  ⟨big, LeF.top (show LeF some (ref04_Moved_M b v c) (ref04_Moved_m big b v c) from (fun (n : Nat) (hn : big ≤ n) => show LeF some (ref04_Moved_M b v c) (ref04_Moved_m n b v c) from (leCond (leGuard fun hx => by apply ref04_Moved_m_w0_le n hn; exact hx) leNone)) big (Nat.le_refl _)) h⟩
noncomputable def ref04_Moved_e : Entry := { f := 44, args := ref04_Moved_a, ress := ref04_Moved_r, m := fun x => ref04_Moved_M x.1 x.2.1 x.2.2.1 }
theorem ref04_Moved_ok : FnOK Tryz.prog ref04_Moved_e := fn_ok (g := ref04_Moved_g) (fn := Tryz.f44) hmixed tabOk (eCons ref04_tooMuch_ok (eCons ref04_flow_ok eNil)) (by kernel_rfl) (by kernel_rfl) (by kernel_rfl) (fun x y h => let ⟨n, hn⟩ := ref04_Moved_run x.1 x.2.1 x.2.2.1 y h; ⟨ref04_Moved_an n, iNil, (ref04_Moved_eq n x).trans hn⟩)

/-! ### (basin.Basin).above -/
abbrev basin_Basin_above_a : Ty := .pair t41 (.pair t26 .unit)
abbrev basin_Basin_above_r : Ty := .pair t26 .unit
noncomputable def basin_Basin_above_g : G := { T := T, E := [basin_Basin_levels_e], muts := [5], fz := [] }
def basin_Basin_above_k : List (List Nat) := [[2, 5, 10, 11, 12]]
noncomputable def basin_Basin_above_an (n : Nat) : Ann := { keep := basin_Basin_above_k, fuel := n, inl := [], deep := 0 }
noncomputable def basin_Basin_above_m_l1 (n : Nat) (r1 : List (List UInt8 × Int × Int × Unit) × List (List UInt8 × Int × Int × Int × Int × Unit) × Unit → List Int → Int → Int → List Int → Option (List Int × Unit)) (b2_1 : List (List UInt8 × Int × Int × Unit) × List (List UInt8 × Int × Int × Int × Int × Unit) × Unit) (t10_1 : List Int) (t11_1 : Int) (t12_1 : Int) (c0_1 : List Int) : Option (List Int × Unit) :=
  (bif Decidable.decide (t12_1 < t11_1) then (Option.bind (Go.Vx.idx t10_1 t12_1) fun (v2 : Int) => (Option.bind (Go.Vx.idx b2_1.fst t12_1) fun (v3 : List UInt8 × Int × Int × Unit) => (bif Decidable.decide (v2 > v3.snd.snd.fst) then (bif Decidable.decide (c0_1.length + (1 : Nat) ≤ Go.Vx.memMax) then r1 b2_1 t10_1 t11_1 (Go.IntKind.i64.wrap (t12_1 + (1 : Int))) (c0_1 ++ [t12_1]) else none) else r1 b2_1 t10_1 t11_1 (Go.IntKind.i64.wrap (t12_1 + (1 : Int))) c0_1))) else Option.some (c0_1, ()))

noncomputable def basin_Basin_above_m_w1 (n : Nat)  (k : Nat) (b2_1 : List (List UInt8 × Int × Int × Unit) × List (List UInt8 × Int × Int × Int × Int × Unit) × Unit) (t10_1 : List Int) (t11_1 : Int) (t12_1 : Int) (c0_1 : List Int) : Option (List Int × Unit) :=
  iter (fun r y => basin_Basin_above_m_l1 n (fun b2_1 t10_1 t11_1 t12_1 c0_1 => r ((b2_1, (t10_1, (t11_1, (t12_1, ())))), ((c0_1, ()), ()))) y.1.1 y.1.2.1 y.1.2.2.1 y.1.2.2.2.1 y.2.1.1) k ((b2_1, (t10_1, (t11_1, (t12_1, ())))), ((c0_1, ()), ()))
theorem basin_Basin_above_m_w1_succ (n : Nat)  (k : Nat) (b2_1 : List (List UInt8 × Int × Int × Unit) × List (List UInt8 × Int × Int × Int × Int × Unit) × Unit) (t10_1 : List Int) (t11_1 : Int) (t12_1 : Int) (c0_1 : List Int) : basin_Basin_above_m_w1 n (k + 1) b2_1 t10_1 t11_1 t12_1 c0_1 = basin_Basin_above_m_l1 n (basin_Basin_above_m_w1 n k) b2_1 t10_1 t11_1 t12_1 c0_1 := rfl

noncomputable def basin_Basin_above_m (n : Nat) (b : List (List UInt8 × Int × Int × Unit) × List (List UInt8 × Int × Int × Int × Int × Unit) × Unit) (v : List Int) : Option (List Int × Unit) :=
  (Option.bind (Go.Tw.basin_Basin_levels_M b v) fun (v0 : List Int × Unit) => (basin_Basin_above_m_w1 n n (b) (v0.fst) ((↑v0.fst.length : Int)) ((0 : Int)) ([])))

theorem basin_Basin_above_eq (n : Nat) (x : basin_Basin_above_a.den) : runF basin_Basin_above_g (basin_Basin_above_an n) Tryz.f99 basin_Basin_above_a basin_Basin_above_r x = basin_Basin_above_m n x.1 x.2.1 := by kernel_rfl

noncomputable def basin_Basin_above_b1 (b2_1 : List (List UInt8 × Int × Int × Unit) × List (List UInt8 × Int × Int × Int × Int × Unit) × Unit) (t10_1 : List Int) (t12_1 : Int) (v2 : Int) (c0_1 : List Int) : Option ((List Int × Unit) ⊕ (List Int)) :=
  (Option.bind (Go.Vx.idx b2_1.fst t12_1) fun (v3 : List UInt8 × Int × Int × Unit) => (bif Decidable.decide (v2 > v3.snd.snd.fst) then (bif Decidable.decide (c0_1.length + (1 : Nat) ≤ Go.Vx.memMax) then (some (Sum.inr (c0_1 ++ [t12_1]))) else none) else (some (Sum.inr (c0_1)))))

noncomputable def basin_Basin_above_f1 (b2_1 : List (List UInt8 × Int × Int × Unit) × List (List UInt8 × Int × Int × Int × Int × Unit) × Unit) (t10_1 : List Int) (c0_1 : List Int) : Option (List Int × Unit) :=
  (some ((c0_1, ())))

theorem basin_Basin_above_m_w1_le (n : Nat) (hn : big ≤ n)  (b2_1 : List (List UInt8 × Int × Int × Unit) × List (List UInt8 × Int × Int × Int × Int × Unit) × Unit) (t10_1 : List Int) (c0_1 : List Int) (hx : List.length (t10_1) < lenMax) : LeF some (loopL (fun i__ e__ s__ => basin_Basin_above_b1 b2_1 t10_1 i__ e__ s__) (fun s__ => basin_Basin_above_f1 b2_1 t10_1 s__) 0 (t10_1) c0_1) (basin_Basin_above_m_w1 n n b2_1 t10_1 (List.length (t10_1) : Int) 0 c0_1) := by
  refine loopL_le (f := some) (W := fun k__ i__ s__ => basin_Basin_above_m_w1 n k__ b2_1 t10_1 (List.length (t10_1) : Int) i__ s__) (body := (fun i__ e__ s__ => basin_Basin_above_b1 b2_1 t10_1 i__ e__ s__)) (fin := (fun s__ => basin_Basin_above_f1 b2_1 t10_1 s__)) (fun k__ i__ s__ => ?_) hx c0_1 n (by unfold big at hn; unfold lenMax at hx; omega)
  show LeF _ _ (basin_Basin_above_m_l1 n (basin_Basin_above_m_w1 n k__) b2_1 t10_1 (List.length (t10_1) : Int) i__ s__)
  exact leCond (leBind fun v2 => (leBind fun v3 => (leCond (leCond (leSome rfl) leNone) (leSome rfl)))) (leMap (leSome rfl))

noncomputable def basin_Basin_above_M (b : List (List UInt8 × Int × Int × Unit) × List (List UInt8 × Int × Int × Int × Int × Unit) × Unit) (v : List Int) : Option (List Int × Unit) :=
  (Option.bind (Go.Tw.basin_Basin_levels_M b v) fun (v0 : List Int × Unit) => (bif decide (List.length (v0.fst) < lenMax) then loopL (fun i__ e__ s__ => basin_Basin_above_b1 (b) (v0.fst) i__ e__ s__) (fun s__ => basin_Basin_above_f1 (b) (v0.fst) s__) 0 (v0.fst) ([]) else none))

theorem basin_Basin_above_run (b : List (List UInt8 × Int × Int × Unit) × List (List UInt8 × Int × Int × Int × Int × Unit) × Unit) (v : List Int) (y : List Int × Unit) (h : basin_Basin_above_M b v = some y) : ∃ n, basin_Basin_above_m n b v = some y :=
  ⟨big, LeF.top (show LeF some (basin_Basin_above_M b v) (basin_Basin_above_m big b v) from (fun (n : Nat) (hn : big ≤ n) => show LeF some (basin_Basin_above_M b v) (basin_Basin_above_m n b v) from (leBind fun v0 => (leGuard fun hx => by apply basin_Basin_above_m_w1_le n hn; exact hx))) big (Nat.le_refl _)) h⟩
noncomputable def basin_Basin_above_e : Entry := { f := 99, args := basin_Basin_above_a, ress := basin_Basin_above_r, m := fun x => basin_Basin_above_M x.1 x.2.1 }
theorem basin_Basin_above_ok : FnOK Tryz.prog basin_Basin_above_e := fn_ok (g := basin_Basin_above_g) (fn := Tryz.f99) hmixed tabOk (eCons basin_Basin_levels_ok eNil) (by kernel_rfl) (by kernel_rfl) (by kernel_rfl) (fun x y h => let ⟨n, hn⟩ := basin_Basin_above_run x.1 x.2.1 y h; ⟨basin_Basin_above_an n, iNil, (basin_Basin_above_eq n x).trans hn⟩)

/-! ### basin.end -/
abbrev basin_end_a : Ty := .pair t97 (.pair t3 .unit)
abbrev basin_end_r : Ty := .pair t26 .unit
noncomputable def basin_end_g : G := { T := T, E := [basin_end_1_e, basin_mapped_api_Interval_int_e], muts := [], fz := [] }
def basin_end_k : List (List Nat) := []
noncomputable def basin_end_an (n : Nat) : Ann := { keep := basin_end_k, fuel := n, inl := [], deep := 0 }
noncomputable def basin_end_m (n : Nat) (l : List (Int × Int × Unit)) (upper : Int) : Option (List Int × Unit) :=
  (Option.bind (Go.Tw.basin_mapped_api_Interval_int_M l fun (x : (Int × Int × Unit) × Unit) => Go.Tw.basin_end_1_M x.fst upper) fun (v0 : List Int × Unit) => Option.some (v0.fst, ()))

theorem basin_end_eq (n : Nat) (x : basin_end_a.den) : runF basin_end_g (basin_end_an n) Tryz.f119 basin_end_a basin_end_r x = basin_end_m n x.1 x.2.1 := by kernel_rfl

noncomputable def basin_end_M (l : List (Int × Int × Unit)) (upper : Int) : Option (List Int × Unit) := basin_end_m 0 l upper

theorem basin_end_run (l : List (Int × Int × Unit)) (upper : Int) (y : List Int × Unit) (h : basin_end_M l upper = some y) : ∃ n, basin_end_m n l upper = some y := ⟨0, h⟩
noncomputable def basin_end_e : Entry := { f := 119, args := basin_end_a, ress := basin_end_r, m := fun x => basin_end_M x.1 x.2.1 }
theorem basin_end_ok : FnOK Tryz.prog basin_end_e := fn_ok (g := basin_end_g) (fn := Tryz.f119) hmixed tabOk (eCons basin_end_1_ok (eCons basin_mapped_api_Interval_int_ok eNil)) (by kernel_rfl) (by kernel_rfl) (by kernel_rfl) (fun x y h => let ⟨n, hn⟩ := basin_end_run x.1 x.2.1 y h; ⟨basin_end_an n, iNil, (basin_end_eq n x).trans hn⟩)

/-! ### basin.checkTide -/
abbrev basin_checkTide_a : Ty := .pair t3 .unit
abbrev basin_checkTide_r : Ty := .pair t35 .unit
noncomputable def basin_checkTide_g : G := { T := T, E := [basin_within_e], muts := [], fz := [] }
def basin_checkTide_k : List (List Nat) := []
noncomputable def basin_checkTide_an (n : Nat) : Ann := { keep := basin_checkTide_k, fuel := n, inl := [], deep := 0 }
noncomputable def basin_checkTide_m (n : Nat) (n1 : Int) : Option (Int × Unit) :=
  Option.some ((Go.Tw.basin_within n1 (-1024 : Int) (1024 : Int)).fst, ())

theorem basin_checkTide_eq (n : Nat) (x : basin_checkTide_a.den) : runF basin_checkTide_g (basin_checkTide_an n) Tryz.f137 basin_checkTide_a basin_checkTide_r x = basin_checkTide_m n x.1 := by kernel_rfl

noncomputable def basin_checkTide (n1 : Int) : (Int × Unit) :=
  ((Go.Tw.basin_within n1 (-1024 : Int) (1024 : Int)).fst, ())

noncomputable abbrev basin_checkTide_M (n1 : Int) : Option (Int × Unit) := some (basin_checkTide n1)

theorem basin_checkTide_run (n1 : Int) (y : Int × Unit) (h : basin_checkTide_M n1 = some y) : ∃ n, basin_checkTide_m n n1 = some y :=
  ⟨0, by rw [← h]; show basin_checkTide_m 0 n1 = some (basin_checkTide n1); unfold basin_checkTide_m basin_checkTide; first | rfl | (simp only [cond_some]; done) | (simp only [cond_some]; rfl)⟩
noncomputable def basin_checkTide_e : Entry := { f := 137, args := basin_checkTide_a, ress := basin_checkTide_r, m := fun x => basin_checkTide_M x.1 }
theorem basin_checkTide_ok : FnOK Tryz.prog basin_checkTide_e := fn_ok (g := basin_checkTide_g) (fn := Tryz.f137) hmixed tabOk (eCons basin_within_ok eNil) (by kernel_rfl) (by kernel_rfl) (by kernel_rfl) (fun x y h => let ⟨n, hn⟩ := basin_checkTide_run x.1 y h; ⟨basin_checkTide_an n, iNil, (basin_checkTide_eq n x).trans hn⟩)

/-! ### basin.checkInflow -/
abbrev basin_checkInflow_a : Ty := .pair t3 .unit
abbrev basin_checkInflow_r : Ty := .pair t35 .unit
noncomputable def basin_checkInflow_g : G := { T := T, E := [basin_within_e], muts := [], fz := [] }
def basin_checkInflow_k : List (List Nat) := []
noncomputable def basin_checkInflow_an (n : Nat) : Ann := { keep := basin_checkInflow_k, fuel := n, inl := [], deep := 0 }
noncomputable def basin_checkInflow_m (n : Nat) (n1 : Int) : Option (Int × Unit) :=
  Option.some ((Go.Tw.basin_within n1 (0 : Int) (100000 : Int)).fst, ())

theorem basin_checkInflow_eq (n : Nat) (x : basin_checkInflow_a.den) : runF basin_checkInflow_g (basin_checkInflow_an n) Tryz.f139 basin_checkInflow_a basin_checkInflow_r x = basin_checkInflow_m n x.1 := by kernel_rfl

noncomputable def basin_checkInflow (n1 : Int) : (Int × Unit) :=
  ((Go.Tw.basin_within n1 (0 : Int) (100000 : Int)).fst, ())

noncomputable abbrev basin_checkInflow_M (n1 : Int) : Option (Int × Unit) := some (basin_checkInflow n1)

theorem basin_checkInflow_run (n1 : Int) (y : Int × Unit) (h : basin_checkInflow_M n1 = some y) : ∃ n, basin_checkInflow_m n n1 = some y :=
  ⟨0, by rw [← h]; show basin_checkInflow_m 0 n1 = some (basin_checkInflow n1); unfold basin_checkInflow_m basin_checkInflow; first | rfl | (simp only [cond_some]; done) | (simp only [cond_some]; rfl)⟩
noncomputable def basin_checkInflow_e : Entry := { f := 139, args := basin_checkInflow_a, ress := basin_checkInflow_r, m := fun x => basin_checkInflow_M x.1 }
theorem basin_checkInflow_ok : FnOK Tryz.prog basin_checkInflow_e := fn_ok (g := basin_checkInflow_g) (fn := Tryz.f139) hmixed tabOk (eCons basin_within_ok eNil) (by kernel_rfl) (by kernel_rfl) (by kernel_rfl) (fun x y h => let ⟨n, hn⟩ := basin_checkInflow_run x.1 y h; ⟨basin_checkInflow_an n, iNil, (basin_checkInflow_eq n x).trans hn⟩)

/-! ### (basin.Basin).checkVolumes$1 -/
abbrev basin_Basin_checkVolumes_1_a : Ty := .pair t3 .unit
abbrev basin_Basin_checkVolumes_1_r : Ty := .pair t35 .unit
noncomputable def basin_Basin_checkVolumes_1_g : G := { T := T, E := [basin_within_e], muts := [], fz := [] }
def basin_Basin_checkVolumes_1_k : List (List Nat) := []
noncomputable def basin_Basin_checkVolumes_1_an (n : Nat) : Ann := { keep := basin_Basin_checkVolumes_1_k, fuel := n, inl := [], deep := 0 }
noncomputable def basin_Basin_checkVolumes_1_m (n : Nat) (n1 : Int) : Option (Int × Unit) :=
  Option.some ((Go.Tw.basin_within n1 (0 : Int) (100000000 : Int)).fst, ())

theorem basin_Basin_checkVolumes_1_eq (n : Nat) (x : basin_Basin_checkVolumes_1_a.den) : runF basin_Basin_checkVolumes_1_g (basin_Basin_checkVolumes_1_an n) Tryz.f151 basin_Basin_checkVolumes_1_a basin_Basin_checkVolumes_1_r x = basin_Basin_checkVolumes_1_m n x.1 := by kernel_rfl

noncomputable def basin_Basin_checkVolumes_1 (n1 : Int) : (Int × Unit) :=
  ((Go.Tw.basin_within n1 (0 : Int) (100000000 : Int)).fst, ())

noncomputable abbrev basin_Basin_checkVolumes_1_M (n1 : Int) : Option (Int × Unit) := some (basin_Basin_checkVolumes_1 n1)

theorem basin_Basin_checkVolumes_1_run (n1 : Int) (y : Int × Unit) (h : basin_Basin_checkVolumes_1_M n1 = some y) : ∃ n, basin_Basin_checkVolumes_1_m n n1 = some y :=
  ⟨0, by rw [← h]; show basin_Basin_checkVolumes_1_m 0 n1 = some (basin_Basin_checkVolumes_1 n1); unfold basin_Basin_checkVolumes_1_m basin_Basin_checkVolumes_1; first | rfl | (simp only [cond_some]; done) | (simp only [cond_some]; rfl)⟩
noncomputable def basin_Basin_checkVolumes_1_e : Entry := { f := 151, args := basin_Basin_checkVolumes_1_a, ress := basin_Basin_checkVolumes_1_r, m := fun x => basin_Basin_checkVolumes_1_M x.1 }
theorem basin_Basin_checkVolumes_1_ok : FnOK Tryz.prog basin_Basin_checkVolumes_1_e := fn_ok (g := basin_Basin_checkVolumes_1_g) (fn := Tryz.f151) hmixed tabOk (eCons basin_within_ok eNil) (by kernel_rfl) (by kernel_rfl) (by kernel_rfl) (fun x y h => let ⟨n, hn⟩ := basin_Basin_checkVolumes_1_run x.1 y h; ⟨basin_Basin_checkVolumes_1_an n, iNil, (basin_Basin_checkVolumes_1_eq n x).trans hn⟩)

/-! ### basin.checkEnclosed$1 -/
abbrev basin_checkEnclosed_1_a : Ty := .pair t3 .unit
abbrev basin_checkEnclosed_1_r : Ty := .pair t35 .unit
noncomputable def basin_checkEnclosed_1_g : G := { T := T, E := [basin_within_e], muts := [], fz := [] }
def basin_checkEnclosed_1_k : List (List Nat) := []
noncomputable def basin_checkEnclosed_1_an (n : Nat) : Ann := { keep := basin_checkEnclosed_1_k, fuel := n, inl := [], deep := 0 }
noncomputable def basin_checkEnclosed_1_m (n : Nat) (n1 : Int) : Option (Int × Unit) :=
  Option.some ((Go.Tw.basin_within n1 (0 : Int) (100000000 : Int)).fst, ())

theorem basin_checkEnclosed_1_eq (n : Nat) (x : basin_checkEnclosed_1_a.den) : runF basin_checkEnclosed_1_g (basin_checkEnclosed_1_an n) Tryz.f160 basin_checkEnclosed_1_a basin_checkEnclosed_1_r x = basin_checkEnclosed_1_m n x.1 := by kernel_rfl

noncomputable def basin_checkEnclosed_1 (n1 : Int) : (Int × Unit) :=
  ((Go.Tw.basin_within n1 (0 : Int) (100000000 : Int)).fst, ())

noncomputable abbrev basin_checkEnclosed_1_M (n1 : Int) : Option (Int × Unit) := some (basin_checkEnclosed_1 n1)

theorem basin_checkEnclosed_1_run (n1 : Int) (y : Int × Unit) (h : basin_checkEnclosed_1_M n1 = some y) : ∃ n, basin_checkEnclosed_1_m n n1 = some y :=
  ⟨0, by rw [← h]; show basin_checkEnclosed_1_m 0 n1 = some (basin_checkEnclosed_1 n1); unfold basin_checkEnclosed_1_m basin_checkEnclosed_1; first | rfl | (simp only [cond_some]; done) | (simp only [cond_some]; rfl)⟩
noncomputable def basin_checkEnclosed_1_e : Entry := { f := 160, args := basin_checkEnclosed_1_a, ress := basin_checkEnclosed_1_r, m := fun x => basin_checkEnclosed_1_M x.1 }
theorem basin_checkEnclosed_1_ok : FnOK Tryz.prog basin_checkEnclosed_1_e := fn_ok (g := basin_checkEnclosed_1_g) (fn := Tryz.f160) hmixed tabOk (eCons basin_within_ok eNil) (by kernel_rfl) (by kernel_rfl) (by kernel_rfl) (fun x y h => let ⟨n, hn⟩ := basin_checkEnclosed_1_run x.1 y h; ⟨basin_checkEnclosed_1_an n, iNil, (basin_checkEnclosed_1_eq n x).trans hn⟩)

/-! ### basin.checkEnclosed$2 -/
abbrev basin_checkEnclosed_2_a : Ty := .pair t96 (.pair (.ref t176) .unit)
abbrev basin_checkEnclosed_2_r : Ty := .pair t35 .unit
noncomputable def basin_checkEnclosed_2_g : G := { T := T, E := [basin_checkInterval_e], muts := [], fz := [] }
def basin_checkEnclosed_2_k : List (List Nat) := []
noncomputable def basin_checkEnclosed_2_an (n : Nat) : Ann := { keep := basin_checkEnclosed_2_k, fuel := n, inl := [], deep := 0 }
noncomputable def basin_checkEnclosed_2_m (n : Nat) (x1 : Int × Int × Unit) (p1 : Int × Unit → Option (Int × Unit)) : Option (Int × Unit) :=
  (Option.bind (Go.Tw.basin_checkInterval_M x1 p1) fun (v0 : Int × Unit) => Option.some (v0.fst, ()))

theorem basin_checkEnclosed_2_eq (n : Nat) (x : basin_checkEnclosed_2_a.den) : runF basin_checkEnclosed_2_g (basin_checkEnclosed_2_an n) Tryz.f161 basin_checkEnclosed_2_a basin_checkEnclosed_2_r x = basin_checkEnclosed_2_m n x.1 x.2.1 := by kernel_rfl

noncomputable def basin_checkEnclosed_2_M (x1 : Int × Int × Unit) (p1 : Int × Unit → Option (Int × Unit)) : Option (Int × Unit) := basin_checkEnclosed_2_m 0 x1 p1

theorem basin_checkEnclosed_2_run (x1 : Int × Int × Unit) (p1 : Int × Unit → Option (Int × Unit)) (y : Int × Unit) (h : basin_checkEnclosed_2_M x1 p1 = some y) : ∃ n, basin_checkEnclosed_2_m n x1 p1 = some y := ⟨0, h⟩
noncomputable def basin_checkEnclosed_2_e : Entry := { f := 161, args := basin_checkEnclosed_2_a, ress := basin_checkEnclosed_2_r, m := fun x => basin_checkEnclosed_2_M x.1 x.2.1 }
theorem basin_checkEnclosed_2_ok : FnOK Tryz.prog basin_checkEnclosed_2_e := fn_ok (g := basin_checkEnclosed_2_g) (fn := Tryz.f161) hmixed tabOk (eCons basin_checkInterval_ok eNil) (by kernel_rfl) (by kernel_rfl) (by kernel_rfl) (fun x y h => let ⟨n, hn⟩ := basin_checkEnclosed_2_run x.1 x.2.1 y h; ⟨basin_checkEnclosed_2_an n, iNil, (basin_checkEnclosed_2_eq n x).trans hn⟩)

/-! ### (basin.place).barrier -/
abbrev basin_place_barrier_a : Ty := .pair t230 .unit
abbrev basin_place_barrier_r : Ty := .pair t3 .unit
noncomputable def basin_place_barrier_g : G := { T := T, E := [basin_place_fromSea_e], muts := [], fz := [] }
def basin_place_barrier_k : List (List Nat) := []
noncomputable def basin_place_barrier_an (n : Nat) : Ann := { keep := basin_place_barrier_k, fuel := n, inl := [], deep := 0 }
noncomputable def basin_place_barrier_m (n : Nat) (p : (List UInt8 × Int × Int × Int × Int × Unit) × Int × Int × Int × Bool × Unit) : Option (Int × Unit) :=
  (bif !p.snd.snd.snd.snd.fst then Option.some ((0 : Int), ()) else (Option.bind (Go.Tw.basin_place_fromSea_M p) fun (v0 : Int × Unit) => Option.some (if Bool.true = Bool.true then if v0.fst > Go.IntKind.i64.wrap ((0 : Int) - p.snd.fst) then v0.fst else Go.IntKind.i64.wrap ((0 : Int) - p.snd.fst) else if v0.fst < Go.IntKind.i64.wrap ((0 : Int) - p.snd.fst) then v0.fst else Go.IntKind.i64.wrap ((0 : Int) - p.snd.fst), ())))

theorem basin_place_barrier_eq (n : Nat) (x : basin_place_barrier_a.den) : runF basin_place_barrier_g (basin_place_barrier_an n) Tryz.f178 basin_place_barrier_a basin_place_barrier_r x = basin_place_barrier_m n x.1 := by kernel_rfl

noncomputable def basin_place_barrier_M (p : (List UInt8 × Int × Int × Int × Int × Unit) × Int × Int × Int × Bool × Unit) : Option (Int × Unit) := basin_place_barrier_m 0 p

theorem basin_place_barrier_run (p : (List UInt8 × Int × Int × Int × Int × Unit) × Int × Int × Int × Bool × Unit) (y : Int × Unit) (h : basin_place_barrier_M p = some y) : ∃ n, basin_place_barrier_m n p = some y := ⟨0, h⟩
noncomputable def basin_place_barrier_e : Entry := { f := 178, args := basin_place_barrier_a, ress := basin_place_barrier_r, m := fun x => basin_place_barrier_M x.1 }
theorem basin_place_barrier_ok : FnOK Tryz.prog basin_place_barrier_e := fn_ok (g := basin_place_barrier_g) (fn := Tryz.f178) hmixed tabOk (eCons basin_place_fromSea_ok eNil) (by kernel_rfl) (by kernel_rfl) (by kernel_rfl) (fun x y h => let ⟨n, hn⟩ := basin_place_barrier_run x.1 y h; ⟨basin_place_barrier_an n, iNil, (basin_place_barrier_eq n x).trans hn⟩)

/-! ### basin.table$1 -/
abbrev basin_table_1_a : Ty := .pair t230 .unit
abbrev basin_table_1_r : Ty := .pair t3 .unit
noncomputable def basin_table_1_g : G := { T := T, E := [basin_place_fromSea_e], muts := [], fz := [] }
def basin_table_1_k : List (List Nat) := []
noncomputable def basin_table_1_an (n : Nat) : Ann := { keep := basin_table_1_k, fuel := n, inl := [], deep := 0 }
noncomputable def basin_table_1_m (n : Nat) (p : (List UInt8 × Int × Int × Int × Int × Unit) × Int × Int × Int × Bool × Unit) : Option (Int × Unit) :=
  (Option.bind (Go.Tw.basin_place_fromSea_M p) fun (v0 : Int × Unit) => Option.some (if Bool.true = Bool.true then if v0.fst > (0 : Int) then v0.fst else (0 : Int) else if v0.fst < (0 : Int) then v0.fst else (0 : Int), ()))

theorem basin_table_1_eq (n : Nat) (x : basin_table_1_a.den) : runF basin_table_1_g (basin_table_1_an n) Tryz.f179 basin_table_1_a basin_table_1_r x = basin_table_1_m n x.1 := by kernel_rfl

noncomputable def basin_table_1_M (p : (List UInt8 × Int × Int × Int × Int × Unit) × Int × Int × Int × Bool × Unit) : Option (Int × Unit) := basin_table_1_m 0 p

theorem basin_table_1_run (p : (List UInt8 × Int × Int × Int × Int × Unit) × Int × Int × Int × Bool × Unit) (y : Int × Unit) (h : basin_table_1_M p = some y) : ∃ n, basin_table_1_m n p = some y := ⟨0, h⟩
noncomputable def basin_table_1_e : Entry := { f := 179, args := basin_table_1_a, ress := basin_table_1_r, m := fun x => basin_table_1_M x.1 }
theorem basin_table_1_ok : FnOK Tryz.prog basin_table_1_e := fn_ok (g := basin_table_1_g) (fn := Tryz.f179) hmixed tabOk (eCons basin_place_fromSea_ok eNil) (by kernel_rfl) (by kernel_rfl) (by kernel_rfl) (fun x y h => let ⟨n, hn⟩ := basin_table_1_run x.1 y h; ⟨basin_table_1_an n, iNil, (basin_table_1_eq n x).trans hn⟩)

/-! ### basin.table$2 -/
abbrev basin_table_2_a : Ty := .pair t230 .unit
abbrev basin_table_2_r : Ty := .pair t3 .unit
noncomputable def basin_table_2_g : G := { T := T, E := [basin_place_over_e], muts := [], fz := [] }
def basin_table_2_k : List (List Nat) := []
noncomputable def basin_table_2_an (n : Nat) : Ann := { keep := basin_table_2_k, fuel := n, inl := [], deep := 0 }
noncomputable def basin_table_2_m (n : Nat) (p : (List UInt8 × Int × Int × Int × Int × Unit) × Int × Int × Int × Bool × Unit) : Option (Int × Unit) :=
  (Option.bind (Go.Tw.basin_place_over_M p (if Bool.true = Bool.true then if p.fst.snd.snd.snd.fst > p.snd.snd.snd.fst then p.fst.snd.snd.snd.fst else p.snd.snd.snd.fst else if p.fst.snd.snd.snd.fst < p.snd.snd.snd.fst then p.fst.snd.snd.snd.fst else p.snd.snd.snd.fst)) fun (v0 : Int × Unit) => Option.some (v0.fst, ()))

theorem basin_table_2_eq (n : Nat) (x : basin_table_2_a.den) : runF basin_table_2_g (basin_table_2_an n) Tryz.f181 basin_table_2_a basin_table_2_r x = basin_table_2_m n x.1 := by kernel_rfl

noncomputable def basin_table_2_M (p : (List UInt8 × Int × Int × Int × Int × Unit) × Int × Int × Int × Bool × Unit) : Option (Int × Unit) := basin_table_2_m 0 p

theorem basin_table_2_run (p : (List UInt8 × Int × Int × Int × Int × Unit) × Int × Int × Int × Bool × Unit) (y : Int × Unit) (h : basin_table_2_M p = some y) : ∃ n, basin_table_2_m n p = some y := ⟨0, h⟩
noncomputable def basin_table_2_e : Entry := { f := 181, args := basin_table_2_a, ress := basin_table_2_r, m := fun x => basin_table_2_M x.1 }
theorem basin_table_2_ok : FnOK Tryz.prog basin_table_2_e := fn_ok (g := basin_table_2_g) (fn := Tryz.f181) hmixed tabOk (eCons basin_place_over_ok eNil) (by kernel_rfl) (by kernel_rfl) (by kernel_rfl) (fun x y h => let ⟨n, hn⟩ := basin_table_2_run x.1 y h; ⟨basin_table_2_an n, iNil, (basin_table_2_eq n x).trans hn⟩)

/-! ### basin.table$4 -/
abbrev basin_table_4_a : Ty := .pair t230 .unit
abbrev basin_table_4_r : Ty := .pair t3 .unit
noncomputable def basin_table_4_g : G := { T := T, E := [basin_place_over_e], muts := [], fz := [] }
def basin_table_4_k : List (List Nat) := []
noncomputable def basin_table_4_an (n : Nat) : Ann := { keep := basin_table_4_k, fuel := n, inl := [], deep := 0 }
noncomputable def basin_table_4_m (n : Nat) (p : (List UInt8 × Int × Int × Int × Int × Unit) × Int × Int × Int × Bool × Unit) : Option (Int × Unit) :=
  (Option.bind (Go.Tw.basin_place_over_M p p.fst.snd.snd.snd.fst) fun (v0 : Int × Unit) => Option.some (v0.fst, ()))

theorem basin_table_4_eq (n : Nat) (x : basin_table_4_a.den) : runF basin_table_4_g (basin_table_4_an n) Tryz.f184 basin_table_4_a basin_table_4_r x = basin_table_4_m n x.1 := by kernel_rfl

noncomputable def basin_table_4_M (p : (List UInt8 × Int × Int × Int × Int × Unit) × Int × Int × Int × Bool × Unit) : Option (Int × Unit) := basin_table_4_m 0 p

theorem basin_table_4_run (p : (List UInt8 × Int × Int × Int × Int × Unit) × Int × Int × Int × Bool × Unit) (y : Int × Unit) (h : basin_table_4_M p = some y) : ∃ n, basin_table_4_m n p = some y := ⟨0, h⟩
noncomputable def basin_table_4_e : Entry := { f := 184, args := basin_table_4_a, ress := basin_table_4_r, m := fun x => basin_table_4_M x.1 }
theorem basin_table_4_ok : FnOK Tryz.prog basin_table_4_e := fn_ok (g := basin_table_4_g) (fn := Tryz.f184) hmixed tabOk (eCons basin_place_over_ok eNil) (by kernel_rfl) (by kernel_rfl) (by kernel_rfl) (fun x y h => let ⟨n, hn⟩ := basin_table_4_run x.1 y h; ⟨basin_table_4_an n, iNil, (basin_table_4_eq n x).trans hn⟩)

end Go.Tw
