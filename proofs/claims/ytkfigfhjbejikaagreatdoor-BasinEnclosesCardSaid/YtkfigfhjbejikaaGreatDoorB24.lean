/- Models of the program's functions, by program (gen.py), and what they compute. -/
import Derived.Test.YtkfigfhjbejikaaGreatDoorBT
import Derived.Test.YtkfigfhjbejikaaGreatDoorBA
import Derived.Test.YtkfigfhjbejikaaGreatDoorBC
import Derived.Test.YtkfigfhjbejikaaGreatDoorBD
import Derived.Test.YtkfigfhjbejikaaGreatDoorBE
import Derived.Test.YtkfigfhjbejikaaGreatDoorB16
import Derived.Test.YtkfigfhjbejikaaGreatDoorB17
import Derived.Test.YtkfigfhjbejikaaGreatDoorBF
import Derived.Test.YtkfigfhjbejikaaGreatDoorB23
import Derived.Test.YtkfigfhjbejikaaGreatDoorLQ

set_option linter.all false
set_option maxRecDepth 1000000
namespace Go.Tw
open Go.Vx Go.Vx.B Go.Proofs
/-! ### basin.Latest -/
abbrev basin_Latest_a : Ty := .pair t41 (.pair t97 (.pair t108 .unit))
abbrev basin_Latest_r : Ty := .pair t3 (.pair t35 .unit)
noncomputable def basin_Latest_g : G := { T := T, E := [basin_checkEnclosed_e, basin_Basin_safe_e], muts := [], fz := [] }
def basin_Latest_k : List (List Nat) := [[1, 2, 3, 9], [1, 2, 3, 9, 10, 34, 35]]
noncomputable def basin_Latest_an (n : Nat) : Ann := { keep := basin_Latest_k, fuel := n, inl := [], deep := 0 }
noncomputable def basin_Latest_m_l2 (n : Nat) (r1 : List (Int × Int × Unit) → List Rng → Bas → Int → Option (Int × Int × Unit)) (r2 : List (Int × Int × Unit) → List Rng → Bas → Int → Int → Int → List Rng → Option (Int × Int × Unit)) (v1_2 : List (Int × Int × Unit)) (l2_2 : List Rng) (b3_2 : Bas) (k9_2 : Int) (t34_2 : Int) (t35_2 : Int) (c0_2 : List Rng) : Option (Int × Int × Unit) :=
  (bif Decidable.decide (t35_2 < t34_2) then (Option.bind (Go.Vx.idx c0_2 t35_2) fun (v3 : Rng) => (Option.bind (c0_2[t35_2.toNat]?) fun (v4 : Rng) => r2 v1_2 l2_2 b3_2 k9_2 t34_2 (Go.IntKind.i64.wrap (t35_2 + (1 : Int))) (c0_2.set t35_2.toNat (v4.fst, Decidable.decide (t35_2 < k9_2), v4.snd.snd)))) else (Option.bind (Go.Tw.basin_Basin_safe_M b3_2 v1_2 c0_2) fun (v5 : Bool × Int × Unit) => (bif v5.snd.fst != (0 : Int) then Option.some ((0 : Int), v5.snd.fst, ()) else (bif v5.fst then Option.some (k9_2, (0 : Int), ()) else r1 v1_2 l2_2 b3_2 (Go.IntKind.i64.wrap (k9_2 - (1 : Int)))))))

noncomputable def basin_Latest_m_w2 (n : Nat) (r1 : List (Int × Int × Unit) → List Rng → Bas → Int → Option (Int × Int × Unit)) (k : Nat) (v1_2 : List (Int × Int × Unit)) (l2_2 : List Rng) (b3_2 : Bas) (k9_2 : Int) (t34_2 : Int) (t35_2 : Int) (c0_2 : List Rng) : Option (Int × Int × Unit) :=
  iter (fun r y => basin_Latest_m_l2 n r1 (fun v1_2 l2_2 b3_2 k9_2 t34_2 t35_2 c0_2 => r ((v1_2, (l2_2, (b3_2, (k9_2, (t34_2, (t35_2, ())))))), ((c0_2, ()), ()))) y.1.1 y.1.2.1 y.1.2.2.1 y.1.2.2.2.1 y.1.2.2.2.2.1 y.1.2.2.2.2.2.1 y.2.1.1) k ((v1_2, (l2_2, (b3_2, (k9_2, (t34_2, (t35_2, ())))))), ((c0_2, ()), ()))

noncomputable def basin_Latest_m_l1 (n : Nat) (r1 : List (Int × Int × Unit) → List Rng → Bas → Int → Option (Int × Int × Unit)) (v1_1 : List (Int × Int × Unit)) (l2_1 : List Rng) (b3_1 : Bas) (k9_1 : Int) : Option (Int × Int × Unit) :=
  (bif Decidable.decide (k9_1 ≥ (0 : Int)) then (bif Bool.true && Decidable.decide ((0 : Int) ≤ (↑l2_1.length : Int)) && Decidable.decide ((↑l2_1.length : Int) ≤ (↑Go.Vx.memMax : Int)) && (↑l2_1.length : Int) == (↑l2_1.length : Int) then (basin_Latest_m_w2 n r1 n (v1_1) (l2_1) (b3_1) (k9_1) ((↑(List.take (List.replicate ((↑l2_1.length : Int).toNat) ((((0 : Int), (0 : Int), ()), Bool.false, [], ())) : List Rng).length l2_1 ++ List.drop l2_1.length (List.replicate ((↑l2_1.length : Int).toNat) ((((0 : Int), (0 : Int), ()), Bool.false, [], ())) : List Rng)).length : Int)) ((0 : Int)) (List.take (List.replicate ((↑l2_1.length : Int).toNat) ((((0 : Int), (0 : Int), ()), Bool.false, [], ())) : List Rng).length l2_1 ++ List.drop l2_1.length (List.replicate ((↑l2_1.length : Int).toNat) ((((0 : Int), (0 : Int), ()), Bool.false, [], ())) : List Rng))) else none) else Option.some ((0 : Int), (24 : Int), ()))

noncomputable def basin_Latest_m_w1 (n : Nat)  (k : Nat) (v1_1 : List (Int × Int × Unit)) (l2_1 : List Rng) (b3_1 : Bas) (k9_1 : Int) : Option (Int × Int × Unit) :=
  iter (fun r y => basin_Latest_m_l1 n (fun v1_1 l2_1 b3_1 k9_1 => r ((v1_1, (l2_1, (b3_1, (k9_1, ())))), ((), ()))) y.1.1 y.1.2.1 y.1.2.2.1 y.1.2.2.2.1) k ((v1_1, (l2_1, (b3_1, (k9_1, ())))), ((), ()))

noncomputable def basin_Latest_m (n : Nat) (b : Bas) (v : List (Int × Int × Unit)) (l : List Rng) : Option (Int × Int × Unit) :=
  (Option.bind (Go.Tw.basin_checkEnclosed_M b v l) fun (v0 : Int × Unit) => (bif v0.fst != (0 : Int) then Option.some ((0 : Int), v0.fst, ()) else (basin_Latest_m_w1 n n (v) (l) (b) ((↑l.length : Int)))))

theorem basin_Latest_eq (n : Nat) (x : basin_Latest_a.den) : runF basin_Latest_g (basin_Latest_an n) Tryz.f69 basin_Latest_a basin_Latest_r x = basin_Latest_m n x.1 x.2.1 x.2.2.1 := by kernel_rfl

noncomputable def basin_Latest_b2 (v1_2 : List (Int × Int × Unit)) (l2_2 : List Rng) (b3_2 : Bas) (k9_2 : Int) (t34_2 : Int) (t35_2 : Int) (c0_2 : List Rng) : Option (((Int × Int × Unit) ⊕ Unit) ⊕ (List Rng)) :=
  (Option.bind (Go.Vx.idx c0_2 t35_2) fun (v3 : Rng) => (Option.bind (c0_2[t35_2.toNat]?) fun (v4 : Rng) => (some (Sum.inr (c0_2.set t35_2.toNat (v4.fst, Decidable.decide (t35_2 < k9_2), v4.snd.snd))))))

noncomputable def basin_Latest_f2 (v1_2 : List (Int × Int × Unit)) (l2_2 : List Rng) (b3_2 : Bas) (k9_2 : Int) (t34_2 : Int) (c0_2 : List Rng) : Option ((Int × Int × Unit) ⊕ Unit) :=
  (Option.bind (Go.Tw.basin_Basin_safe_M b3_2 v1_2 c0_2) fun (v5 : Bool × Int × Unit) => (bif v5.snd.fst != (0 : Int) then (some (Sum.inl (((0 : Int), v5.snd.fst, ())))) else (bif v5.fst then (some (Sum.inl ((k9_2, (0 : Int), ())))) else (some (Sum.inr ())))))

theorem basin_Latest_m_w2_le (n : Nat) (hn : big ≤ n)  (r1 : List (Int × Int × Unit) → List Rng → Bas → Int → Option (Int × Int × Unit)) (v1_2 : List (Int × Int × Unit)) (l2_2 : List Rng) (b3_2 : Bas) (k9_2 : Int) (t34_2 : Int) (c0_2 : List Rng) (hx : (t34_2) ≤ (9223372036854775807 : Int)) : LeF (elim some fun (s__ : Unit) => r1 v1_2 l2_2 b3_2 (Go.IntKind.i64.wrap (k9_2 - 1))) (loopN (fun i__ s__ => basin_Latest_b2 v1_2 l2_2 b3_2 k9_2 t34_2 i__ s__) (fun s__ => basin_Latest_f2 v1_2 l2_2 b3_2 k9_2 t34_2 s__) ((t34_2) - 0).toNat 0 c0_2) (basin_Latest_m_w2 n r1 n v1_2 l2_2 b3_2 k9_2 t34_2 0 c0_2) := by
  refine loopN_le (f := (elim some fun (s__ : Unit) => r1 v1_2 l2_2 b3_2 (Go.IntKind.i64.wrap (k9_2 - 1)))) (W := fun k__ i__ s__ => basin_Latest_m_w2 n r1 k__ v1_2 l2_2 b3_2 k9_2 t34_2 i__ s__) (body := (fun i__ s__ => basin_Latest_b2 v1_2 l2_2 b3_2 k9_2 t34_2 i__ s__)) (fin := (fun s__ => basin_Latest_f2 v1_2 l2_2 b3_2 k9_2 t34_2 s__)) (fun k__ i__ s__ => ?_) hx c0_2 n 0 (by decide) (by unfold big at hn; omega)
  show LeF _ _ (basin_Latest_m_l2 n r1 (basin_Latest_m_w2 n r1 k__) v1_2 l2_2 b3_2 k9_2 t34_2 i__ s__)
  exact leCond (leBind fun v3 => (leBind fun v4 => (leSome rfl))) (leMap (leBind fun v5 => (leCond (leSome rfl) (leCond (leSome rfl) (leSome rfl)))))

noncomputable def basin_Latest_b1 (v1_1 : List (Int × Int × Unit)) (l2_1 : List Rng) (b3_1 : Bas) (k9_1 : Int) : Option ((Int × Int × Unit) ⊕ Unit) :=
  (bif Bool.true && Decidable.decide ((0 : Int) ≤ (↑l2_1.length : Int)) && Decidable.decide ((↑l2_1.length : Int) ≤ (↑Go.Vx.memMax : Int)) && (↑l2_1.length : Int) == (↑l2_1.length : Int) then (bif decide (((↑(List.take (List.replicate ((↑l2_1.length : Int).toNat) ((((0 : Int), (0 : Int), ()), Bool.false, [], ())) : List Rng).length l2_1 ++ List.drop l2_1.length (List.replicate ((↑l2_1.length : Int).toNat) ((((0 : Int), (0 : Int), ()), Bool.false, [], ())) : List Rng)).length : Int)) ≤ (9223372036854775807 : Int)) then loopN (fun i__ s__ => basin_Latest_b2 (v1_1) (l2_1) (b3_1) (k9_1) ((↑(List.take (List.replicate ((↑l2_1.length : Int).toNat) ((((0 : Int), (0 : Int), ()), Bool.false, [], ())) : List Rng).length l2_1 ++ List.drop l2_1.length (List.replicate ((↑l2_1.length : Int).toNat) ((((0 : Int), (0 : Int), ()), Bool.false, [], ())) : List Rng)).length : Int)) i__ s__) (fun s__ => basin_Latest_f2 (v1_1) (l2_1) (b3_1) (k9_1) ((↑(List.take (List.replicate ((↑l2_1.length : Int).toNat) ((((0 : Int), (0 : Int), ()), Bool.false, [], ())) : List Rng).length l2_1 ++ List.drop l2_1.length (List.replicate ((↑l2_1.length : Int).toNat) ((((0 : Int), (0 : Int), ()), Bool.false, [], ())) : List Rng)).length : Int)) s__) (((↑(List.take (List.replicate ((↑l2_1.length : Int).toNat) ((((0 : Int), (0 : Int), ()), Bool.false, [], ())) : List Rng).length l2_1 ++ List.drop l2_1.length (List.replicate ((↑l2_1.length : Int).toNat) ((((0 : Int), (0 : Int), ()), Bool.false, [], ())) : List Rng)).length : Int)) - 0).toNat 0 (List.take (List.replicate ((↑l2_1.length : Int).toNat) ((((0 : Int), (0 : Int), ()), Bool.false, [], ())) : List Rng).length l2_1 ++ List.drop l2_1.length (List.replicate ((↑l2_1.length : Int).toNat) ((((0 : Int), (0 : Int), ()), Bool.false, [], ())) : List Rng)) else none) else none)

noncomputable def basin_Latest_f1 (v1_1 : List (Int × Int × Unit)) (l2_1 : List Rng) (b3_1 : Bas) : Option (Int × Int × Unit) :=
  (some (((0 : Int), (24 : Int), ())))

theorem basin_Latest_m_w1_le (n : Nat) (hn : big ≤ n)  (v1_1 : List (Int × Int × Unit)) (l2_1 : List Rng) (b3_1 : Bas) (i0__ : Int) (hx : (-1 : Int) ≤ i0__ ∧ i0__ ≤ (9223372036854775807 : Int)) : LeF some (loopD (fun i__ s__ => basin_Latest_b1 v1_1 l2_1 b3_1 i__) (fun s__ => basin_Latest_f1 v1_1 l2_1 b3_1) (i0__ + 1).toNat ()) (basin_Latest_m_w1 n n v1_1 l2_1 b3_1 i0__) := by
  refine loopD_le' (f := some) (W := fun k__ i__ s__ => basin_Latest_m_w1 n k__ v1_1 l2_1 b3_1 i__) (body := (fun i__ s__ => basin_Latest_b1 v1_1 l2_1 b3_1 i__)) (fin := (fun s__ => basin_Latest_f1 v1_1 l2_1 b3_1)) (fun k__ i__ s__ => ?_) i0__ hx () n hn
  show LeF _ _ (basin_Latest_m_l1 n (basin_Latest_m_w1 n k__) v1_1 l2_1 b3_1 i__)
  exact leCond (leCond (leGuard fun hx => by apply basin_Latest_m_w2_le n hn; exact hx) leNone) (leMap (leSome rfl))

noncomputable def basin_Latest_M (b : Bas) (v : List (Int × Int × Unit)) (l : List Rng) : Option (Int × Int × Unit) :=
  (Option.bind (Go.Tw.basin_checkEnclosed_M b v l) fun (v0 : Int × Unit) => (bif v0.fst != (0 : Int) then (some (((0 : Int), v0.fst, ()))) else (bif decide ((-1 : Int) ≤ ((↑l.length : Int)) ∧ ((↑l.length : Int)) ≤ (9223372036854775807 : Int)) then loopD (fun i__ s__ => basin_Latest_b1 (v) (l) (b) i__) (fun s__ => basin_Latest_f1 (v) (l) (b)) (((↑l.length : Int)) + 1).toNat () else none)))

theorem basin_Latest_run (b : Bas) (v : List (Int × Int × Unit)) (l : List Rng) (y : Int × Int × Unit) (h : basin_Latest_M b v l = some y) : ∃ n, basin_Latest_m n b v l = some y :=
  ⟨big, LeF.top (show LeF some (basin_Latest_M b v l) (basin_Latest_m big b v l) from (fun (n : Nat) (hn : big ≤ n) => show LeF some (basin_Latest_M b v l) (basin_Latest_m n b v l) from (leBind fun v0 => (leCond (leSome rfl) (leGuard fun hx => by apply basin_Latest_m_w1_le n hn; exact hx)))) big (Nat.le_refl _)) h⟩
noncomputable def basin_Latest_e : Entry := { f := 69, args := basin_Latest_a, ress := basin_Latest_r, m := fun x => basin_Latest_M x.1 x.2.1 x.2.2.1 }
theorem basin_Latest_ok : FnOK Tryz.prog basin_Latest_e := fn_ok (g := basin_Latest_g) (fn := Tryz.f69) hmixed tabOk (eCons basin_checkEnclosed_ok (eCons basin_Basin_safe_ok eNil)) (by kernel_rfl) (by kernel_rfl) (by kernel_rfl) (fun x y h => let ⟨n, hn⟩ := basin_Latest_run x.1 x.2.1 x.2.2.1 y h; ⟨basin_Latest_an n, iNil, (basin_Latest_eq n x).trans hn⟩)

/-! ### tidewayref04.Latest -/
abbrev ref04_Latest_a : Ty := .pair t25 (.pair t97 (.pair t101 .unit))
abbrev ref04_Latest_r : Ty := .pair t3 (.pair t3 .unit)
noncomputable def ref04_Latest_g : G := { T := T, E := [ref04_ClosedFrom_e, ref04_Safe_e], muts := [], fz := [] }
def ref04_Latest_k : List (List Nat) := [[1, 2, 3, 8]]
noncomputable def ref04_Latest_an (n : Nat) : Ann := { keep := ref04_Latest_k, fuel := n, inl := [], deep := 0 }
noncomputable def ref04_Latest_m_l0 (n : Nat) (r0 : List (Int × Int × Unit) → List Rng → Bas → Int → Option (Int × Int × Unit)) (v1_0 : List (Int × Int × Unit)) (l2_0 : List Rng) (b3_0 : Bas) (k8_0 : Int) : Option (Int × Int × Unit) :=
  (bif Decidable.decide (k8_0 ≥ (0 : Int)) then (Option.bind (Go.Tw.ref04_ClosedFrom_M l2_0 k8_0) fun (v1 : List Go.Tw.Rng × Unit) => (Option.bind (Go.Tw.ref04_Safe_M b3_0 v1_0 v1.fst) fun (v2 : Bool × Int × Unit) => (bif v2.snd.fst != (0 : Int) then Option.some ((0 : Int), v2.snd.fst, ()) else (bif v2.fst then Option.some (k8_0, (0 : Int), ()) else r0 v1_0 l2_0 b3_0 (Go.IntKind.i64.wrap (k8_0 - (1 : Int))))))) else Option.some ((0 : Int), (24 : Int), ()))

noncomputable def ref04_Latest_m_w0 (n : Nat)  (k : Nat) (v1_0 : List (Int × Int × Unit)) (l2_0 : List Rng) (b3_0 : Bas) (k8_0 : Int) : Option (Int × Int × Unit) :=
  iter (fun r y => ref04_Latest_m_l0 n (fun v1_0 l2_0 b3_0 k8_0 => r ((v1_0, (l2_0, (b3_0, (k8_0, ())))), ((), ()))) y.1.1 y.1.2.1 y.1.2.2.1 y.1.2.2.2.1) k ((v1_0, (l2_0, (b3_0, (k8_0, ())))), ((), ()))

noncomputable def ref04_Latest_m (n : Nat) (b : Bas) (v : List (Int × Int × Unit)) (l : List Rng) : Option (Int × Int × Unit) :=
  (ref04_Latest_m_w0 n n (v) (l) (b) ((↑l.length : Int)))

theorem ref04_Latest_eq (n : Nat) (x : ref04_Latest_a.den) : runF ref04_Latest_g (ref04_Latest_an n) Tryz.f73 ref04_Latest_a ref04_Latest_r x = ref04_Latest_m n x.1 x.2.1 x.2.2.1 := by kernel_rfl

noncomputable def ref04_Latest_b0 (v1_0 : List (Int × Int × Unit)) (l2_0 : List Rng) (b3_0 : Bas) (k8_0 : Int) : Option ((Int × Int × Unit) ⊕ Unit) :=
  (Option.bind (Go.Tw.ref04_ClosedFrom_M l2_0 k8_0) fun (v1 : List Go.Tw.Rng × Unit) => (Option.bind (Go.Tw.ref04_Safe_M b3_0 v1_0 v1.fst) fun (v2 : Bool × Int × Unit) => (bif v2.snd.fst != (0 : Int) then (some (Sum.inl (((0 : Int), v2.snd.fst, ())))) else (bif v2.fst then (some (Sum.inl ((k8_0, (0 : Int), ())))) else (some (Sum.inr ()))))))

noncomputable def ref04_Latest_f0 (v1_0 : List (Int × Int × Unit)) (l2_0 : List Rng) (b3_0 : Bas) : Option (Int × Int × Unit) :=
  (some (((0 : Int), (24 : Int), ())))

theorem ref04_Latest_m_w0_le (n : Nat) (hn : big ≤ n)  (v1_0 : List (Int × Int × Unit)) (l2_0 : List Rng) (b3_0 : Bas) (i0__ : Int) (hx : (-1 : Int) ≤ i0__ ∧ i0__ ≤ (9223372036854775807 : Int)) : LeF some (loopD (fun i__ s__ => ref04_Latest_b0 v1_0 l2_0 b3_0 i__) (fun s__ => ref04_Latest_f0 v1_0 l2_0 b3_0) (i0__ + 1).toNat ()) (ref04_Latest_m_w0 n n v1_0 l2_0 b3_0 i0__) := by
  refine loopD_le' (f := some) (W := fun k__ i__ s__ => ref04_Latest_m_w0 n k__ v1_0 l2_0 b3_0 i__) (body := (fun i__ s__ => ref04_Latest_b0 v1_0 l2_0 b3_0 i__)) (fin := (fun s__ => ref04_Latest_f0 v1_0 l2_0 b3_0)) (fun k__ i__ s__ => ?_) i0__ hx () n hn
  show LeF _ _ (ref04_Latest_m_l0 n (ref04_Latest_m_w0 n k__) v1_0 l2_0 b3_0 i__)
  exact leCond (leBind fun v1 => (leBind fun v2 => (leCond (leSome rfl) (leCond (leSome rfl) (leSome rfl))))) (leMap (leSome rfl))

noncomputable def ref04_Latest_M (b : Bas) (v : List (Int × Int × Unit)) (l : List Rng) : Option (Int × Int × Unit) :=
  (bif decide ((-1 : Int) ≤ ((↑l.length : Int)) ∧ ((↑l.length : Int)) ≤ (9223372036854775807 : Int)) then loopD (fun i__ s__ => ref04_Latest_b0 (v) (l) (b) i__) (fun s__ => ref04_Latest_f0 (v) (l) (b)) (((↑l.length : Int)) + 1).toNat () else none)

theorem ref04_Latest_run (b : Bas) (v : List (Int × Int × Unit)) (l : List Rng) (y : Int × Int × Unit) (h : ref04_Latest_M b v l = some y) : ∃ n, ref04_Latest_m n b v l = some y :=
  ⟨big, LeF.top (show LeF some (ref04_Latest_M b v l) (ref04_Latest_m big b v l) from (fun (n : Nat) (hn : big ≤ n) => show LeF some (ref04_Latest_M b v l) (ref04_Latest_m n b v l) from (leGuard fun hx => by apply ref04_Latest_m_w0_le n hn; exact hx)) big (Nat.le_refl _)) h⟩
noncomputable def ref04_Latest_e : Entry := { f := 73, args := ref04_Latest_a, ress := ref04_Latest_r, m := fun x => ref04_Latest_M x.1 x.2.1 x.2.2.1 }
theorem ref04_Latest_ok : FnOK Tryz.prog ref04_Latest_e := fn_ok (g := ref04_Latest_g) (fn := Tryz.f73) hmixed tabOk (eCons ref04_ClosedFrom_ok (eCons ref04_Safe_ok eNil)) (by kernel_rfl) (by kernel_rfl) (by kernel_rfl) (fun x y h => let ⟨n, hn⟩ := ref04_Latest_run x.1 x.2.1 x.2.2.1 y h; ⟨ref04_Latest_an n, iNil, (ref04_Latest_eq n x).trans hn⟩)

end Go.Tw
