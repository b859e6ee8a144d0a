import Derived.Test.YtohhmdogfjmlcaaGreatBT
import Derived.Test.YtohhmdogfjmlcaaGreatB0
import Derived.Test.YtohhmdogfjmlcaaGreatBS
import Derived.Test.YtohhmdogfjmlcaaGreatLP
section
set_option linter.all false
set_option maxRecDepth 1000000
namespace Go.Tw
open Go.Vx Go.Vx.B Go.Proofs
noncomputable section
abbrev z0i_a : Ty := .pair t25 .unit
abbrev z0i_r : Ty := .pair t4 .unit
def z0i_g : G := { T := T, E := [], muts := [], fz := [] }
def z0i_k : List (List Nat) := [[1, 3], [1, 4]]
def z0i_an (n : Nat) : Ann := { keep := z0i_k, fuel := n, inl := [], deep := 0 }
def z0i_m_l11 (n : Nat) (r11 : Cha → Int → Option (Bool × Unit)) (c1_11 : Cha) (i4_11 : Int) : Option (Bool × Unit) :=
  (bif decide (i4_11 < (↑c1_11.2.1.length : Int)) then (Option.bind (idx c1_11.2.1 i4_11) fun (v12 : Tra) => (bif decide ((↑v12.2.1.length : Int) > (40 : Int)) then some (Bool.false, ()) else r11 c1_11 (IntKind.i64.wrap (i4_11 + (1 : Int))))) else some (Bool.true, ()))
def z0i_m_w11 (n : Nat)  (k : Nat) (c1_11 : Cha) (i4_11 : Int) : Option (Bool × Unit) :=
  iter (fun r y => z0i_m_l11 n (fun c1_11 i4_11 => r ((c1_11, (i4_11, ())), ((), ()))) y.1.1 y.1.2.1) k ((c1_11, (i4_11, ())), ((), ()))
def z0i_m_l9 (n : Nat) (r9 : Cha → Int → Option (Bool × Unit)) (c1_9 : Cha) (i3_9 : Int) : Option (Bool × Unit) :=
  (bif decide (i3_9 < (↑c1_9.1.length : Int)) then (Option.bind (idx c1_9.1 i3_9) fun (v10 : Sta) => (bif decide ((↑v10.1.length : Int) > (40 : Int)) then some (Bool.false, ()) else r9 c1_9 (IntKind.i64.wrap (i3_9 + (1 : Int))))) else (z0i_m_w11 n n (c1_9) ((0 : Int))))
def z0i_m_w9 (n : Nat)  (k : Nat) (c1_9 : Cha) (i3_9 : Int) : Option (Bool × Unit) :=
  iter (fun r y => z0i_m_l9 n (fun c1_9 i3_9 => r ((c1_9, (i3_9, ())), ((), ()))) y.1.1 y.1.2.1) k ((c1_9, (i3_9, ())), ((), ()))
def z0i_m_j13 (n : Nat) (c : Cha) : Option (Bool × Unit) :=
  (z0i_m_w9 n n (c) ((0 : Int)))
def z0i_m (n : Nat) (c : Cha) : Option (Bool × Unit) :=
  (bif decide ((↑c.1.length : Int) > (7 : Int)) then (bif (↑c.1.length : Int) != (17 : Int) then some (Bool.false, ()) else (bif decide ((↑c.2.1.length : Int) > (12 : Int)) then (bif (↑c.2.1.length : Int) != (49 : Int) then some (Bool.false, ()) else (z0i_m_j13 n c)) else (z0i_m_j13 n c))) else (bif decide ((↑c.2.1.length : Int) > (12 : Int)) then (bif (↑c.2.1.length : Int) != (49 : Int) then some (Bool.false, ()) else (z0i_m_j13 n c)) else (z0i_m_j13 n c)))
theorem z0i_eq (n : Nat) (x : z0i_a.den) : runF z0i_g (z0i_an n) Tryz.f15 z0i_a z0i_r x = z0i_m n x.1 := by kernel_rfl
def z0i_b11 (c1_11 : Cha) (i4_11 : Int) (v12 : Tra) : Option ((Bool × Unit) ⊕ Unit) :=
  (bif decide ((↑v12.2.1.length : Int) > (40 : Int)) then (some (Sum.inl ((Bool.false, ())))) else (some (Sum.inr ())))
def z0i_f11 (c1_11 : Cha) : Option (Bool × Unit) :=
  (some ((Bool.true, ())))
theorem z0i_m_w11_le (n : Nat) (hn : big ≤ n)  (c1_11 : Cha) (hx : List.length (c1_11.2.1) < lenMax) : LeF some (loopL (fun i__ e__ s__ => z0i_b11 c1_11 i__ e__) (fun s__ => z0i_f11 c1_11) 0 (c1_11.2.1) ()) (z0i_m_w11 n n c1_11 0) := by
  refine loopL_le (f := some) (W := fun k__ i__ s__ => z0i_m_w11 n k__ c1_11 i__) (body := (fun i__ e__ s__ => z0i_b11 c1_11 i__ e__)) (fin := (fun s__ => z0i_f11 c1_11)) (fun k__ i__ s__ => ?_) hx () n (by unfold big at hn; unfold lenMax at hx; omega)
  show LeF _ _ (z0i_m_l11 n (z0i_m_w11 n k__) c1_11 i__)
  exact leCond (leBind fun v12 => (leCond (leSome rfl) (leSome rfl))) (leMap (leSome rfl))
def z0i_b9 (c1_9 : Cha) (i3_9 : Int) (v10 : Sta) : Option ((Bool × Unit) ⊕ Unit) :=
  (bif decide ((↑v10.1.length : Int) > (40 : Int)) then (some (Sum.inl ((Bool.false, ())))) else (some (Sum.inr ())))
def z0i_f9 (c1_9 : Cha) : Option (Bool × Unit) :=
  (bif decide (List.length (c1_9.2.1) < lenMax) then loopL (fun i__ e__ s__ => z0i_b11 (c1_9) i__ e__) (fun s__ => z0i_f11 (c1_9)) 0 (c1_9.2.1) () else none)
theorem z0i_m_w9_le (n : Nat) (hn : big ≤ n)  (c1_9 : Cha) (hx : List.length (c1_9.1) < lenMax) : LeF some (loopL (fun i__ e__ s__ => z0i_b9 c1_9 i__ e__) (fun s__ => z0i_f9 c1_9) 0 (c1_9.1) ()) (z0i_m_w9 n n c1_9 0) := by
  refine loopL_le (f := some) (W := fun k__ i__ s__ => z0i_m_w9 n k__ c1_9 i__) (body := (fun i__ e__ s__ => z0i_b9 c1_9 i__ e__)) (fin := (fun s__ => z0i_f9 c1_9)) (fun k__ i__ s__ => ?_) hx () n (by unfold big at hn; unfold lenMax at hx; omega)
  show LeF _ _ (z0i_m_l9 n (z0i_m_w9 n k__) c1_9 i__)
  exact leCond (leBind fun v10 => (leCond (leSome rfl) (leSome rfl))) (leMap (leGuard fun hx => by apply z0i_m_w11_le n hn; exact hx))
def z0i_s13 (c : Cha) : Option (Bool × Unit) :=
  (bif decide (List.length (c.1) < lenMax) then loopL (fun i__ e__ s__ => z0i_b9 (c) i__ e__) (fun s__ => z0i_f9 (c)) 0 (c.1) () else none)
theorem ref06_Short_s13_le (n : Nat) (hn : big ≤ n)  (c : Cha) : LeF some (z0i_s13 c) (z0i_m_j13 n c) :=
  (leGuard fun hx => by apply z0i_m_w9_le n hn; exact hx)
def z0i_M (c : Cha) : Option (Bool × Unit) :=
  (bif decide ((↑c.1.length : Int) > (7 : Int)) then (bif (↑c.1.length : Int) != (17 : Int) then (some ((Bool.false, ()))) else (bif decide ((↑c.2.1.length : Int) > (12 : Int)) then (bif (↑c.2.1.length : Int) != (49 : Int) then (some ((Bool.false, ()))) else (z0i_s13 c)) else (z0i_s13 c))) else (bif decide ((↑c.2.1.length : Int) > (12 : Int)) then (bif (↑c.2.1.length : Int) != (49 : Int) then (some ((Bool.false, ()))) else (z0i_s13 c)) else (z0i_s13 c)))
theorem z0i_run (c : Cha) (y : Bool × Unit) (h : z0i_M c = some y) : ∃ n, z0i_m n c = some y :=
  ⟨big, LeF.top (show LeF some (z0i_M c) (z0i_m big c) from (fun (n : Nat) (hn : big ≤ n) => show LeF some (z0i_M c) (z0i_m n c) from (leCond (leCond (leSome rfl) (leCond (leCond (leSome rfl) (by apply ref06_Short_s13_le n hn)) (by apply ref06_Short_s13_le n hn))) (leCond (leCond (leSome rfl) (by apply ref06_Short_s13_le n hn)) (by apply ref06_Short_s13_le n hn)))) big (Nat.le_refl _)) h⟩
def z0i_e : Entry := { f := 15, args := z0i_a, ress := z0i_r, m := fun x => z0i_M x.1 }
theorem z0i_ok : FnOK Tryz.prog z0i_e := fn_ok (g := z0i_g) (fn := Tryz.f15) hmixed tabOk eNil (by kernel_rfl) (by kernel_rfl) (by kernel_rfl) (fun x y h => let ⟨n, hn⟩ := z0i_run x.1 y h; ⟨z0i_an n, iNil, (z0i_eq n x).trans hn⟩)
abbrev z0e_a : Ty := .pair t25 .unit
abbrev z0e_r : Ty := .pair t35 .unit
def z0e_g : G := { T := T, E := [], muts := [3], fz := [] }
def z0e_k : List (List Nat) := [[1, 2, 3, 9, 10, 11], [2, 3, 23, 24, 25]]
def z0e_an (n : Nat) : Ann := { keep := z0e_k, fuel := n, inl := [], deep := 0 }
def z0e_m_l2 (n : Nat) (r2 : List Tra → Int → Int → List Sta → List Tra → Option (Cha × Unit)) (t23_2 : List Tra) (t24_2 : Int) (t25_2 : Int) (c2_2 : List Sta) (c3_2 : List Tra) : Option (Cha × Unit) :=
  (bif decide (t25_2 < t24_2) then (Option.bind (idx t23_2 t25_2) fun (v3 : Tra) => (bif decide (c3_2.length + (1 : Nat) ≤ memMax) then r2 t23_2 t24_2 (IntKind.i64.wrap (t25_2 + (1 : Int))) c2_2 (c3_2 ++ [(v3.1, v3.2.1, v3.2.2.1, v3.2.2.2.1, v3.2.2.2.2.1, ())]) else none)) else some ((c2_2, c3_2, ()), ()))
def z0e_m_w2 (n : Nat)  (k : Nat) (t23_2 : List Tra) (t24_2 : Int) (t25_2 : Int) (c2_2 : List Sta) (c3_2 : List Tra) : Option (Cha × Unit) :=
  iter (fun r y => z0e_m_l2 n (fun t23_2 t24_2 t25_2 c2_2 c3_2 => r ((t23_2, (t24_2, (t25_2, ()))), (((), ((), (c2_2, (c3_2, ())))), ()))) y.1.1 y.1.2.1 y.1.2.2.1 y.2.1.2.2.1 y.2.1.2.2.2.1) k ((t23_2, (t24_2, (t25_2, ()))), (((), ((), (c2_2, (c3_2, ())))), ()))
def z0e_m_l0 (n : Nat) (r0 : Cha → List Sta → Int → Int → List Sta → List Tra → Option (Cha × Unit)) (c1_0 : Cha) (t9_0 : List Sta) (t10_0 : Int) (t11_0 : Int) (c2_0 : List Sta) (c3_0 : List Tra) : Option (Cha × Unit) :=
  (bif decide (t11_0 < t10_0) then (Option.bind (idx t9_0 t11_0) fun (v1 : Sta) => (bif decide (c2_0.length + (1 : Nat) ≤ memMax) then r0 c1_0 t9_0 t10_0 (IntKind.i64.wrap (t11_0 + (1 : Int))) (c2_0 ++ [(v1.1, v1.2.1, v1.2.2.1, v1.2.2.2.1, ())]) c3_0 else none)) else (z0e_m_w2 n n (c1_0.2.1) ((↑c1_0.2.1.length : Int)) ((0 : Int)) (c2_0) (c3_0)))
def z0e_m_w0 (n : Nat)  (k : Nat) (c1_0 : Cha) (t9_0 : List Sta) (t10_0 : Int) (t11_0 : Int) (c2_0 : List Sta) (c3_0 : List Tra) : Option (Cha × Unit) :=
  iter (fun r y => z0e_m_l0 n (fun c1_0 t9_0 t10_0 t11_0 c2_0 c3_0 => r ((c1_0, (t9_0, (t10_0, (t11_0, ())))), (((), ((), (c2_0, (c3_0, ())))), ()))) y.1.1 y.1.2.1 y.1.2.2.1 y.1.2.2.2.1 y.2.1.2.2.1 y.2.1.2.2.2.1) k ((c1_0, (t9_0, (t10_0, (t11_0, ())))), (((), ((), (c2_0, (c3_0, ())))), ()))
def z0e_m (n : Nat) (c : Cha) : Option (Cha × Unit) :=
  (z0e_m_w0 n n (c) (c.1) ((↑c.1.length : Int)) ((0 : Int)) ([]) ([]))
theorem z0e_eq (n : Nat) (x : z0e_a.den) : runF z0e_g (z0e_an n) Tryz.f17 z0e_a z0e_r x = z0e_m n x.1 := by kernel_rfl
def z0e_b2 (t23_2 : List Tra) (c2_2 : List Sta) (t25_2 : Int) (v3 : Tra) (c3_2 : List Tra) : Option ((Cha × Unit) ⊕ (List Tra)) :=
  (bif decide (c3_2.length + (1 : Nat) ≤ memMax) then (some (Sum.inr (c3_2 ++ [(v3.1, v3.2.1, v3.2.2.1, v3.2.2.2.1, v3.2.2.2.2.1, ())]))) else none)
def z0e_f2 (t23_2 : List Tra) (c2_2 : List Sta) (c3_2 : List Tra) : Option (Cha × Unit) :=
  (some (((c2_2, c3_2, ()), ())))
theorem z0e_m_w2_le (n : Nat) (hn : big ≤ n)  (t23_2 : List Tra) (c2_2 : List Sta) (c3_2 : List Tra) (hx : List.length (t23_2) < lenMax) : LeF some (loopL (fun i__ e__ s__ => z0e_b2 t23_2 c2_2 i__ e__ s__) (fun s__ => z0e_f2 t23_2 c2_2 s__) 0 (t23_2) c3_2) (z0e_m_w2 n n t23_2 (List.length (t23_2) : Int) 0 c2_2 c3_2) := by
  refine loopL_le (f := some) (W := fun k__ i__ s__ => z0e_m_w2 n k__ t23_2 (List.length (t23_2) : Int) i__ c2_2 s__) (body := (fun i__ e__ s__ => z0e_b2 t23_2 c2_2 i__ e__ s__)) (fin := (fun s__ => z0e_f2 t23_2 c2_2 s__)) (fun k__ i__ s__ => ?_) hx c3_2 n (by unfold big at hn; unfold lenMax at hx; omega)
  show LeF _ _ (z0e_m_l2 n (z0e_m_w2 n k__) t23_2 (List.length (t23_2) : Int) i__ c2_2 s__)
  exact leCond (leBind fun v3 => (leCond (leSome rfl) leNone)) (leMap (leSome rfl))
def z0e_b0 (c1_0 : Cha) (t9_0 : List Sta) (c3_0 : List Tra) (t11_0 : Int) (v1 : Sta) (c2_0 : List Sta) : Option ((Cha × Unit) ⊕ (List Sta)) :=
  (bif decide (c2_0.length + (1 : Nat) ≤ memMax) then (some (Sum.inr (c2_0 ++ [(v1.1, v1.2.1, v1.2.2.1, v1.2.2.2.1, ())]))) else none)
def z0e_f0 (c1_0 : Cha) (t9_0 : List Sta) (c3_0 : List Tra) (c2_0 : List Sta) : Option (Cha × Unit) :=
  (bif decide (List.length (c1_0.2.1) < lenMax) then loopL (fun i__ e__ s__ => z0e_b2 (c1_0.2.1) (c2_0) i__ e__ s__) (fun s__ => z0e_f2 (c1_0.2.1) (c2_0) s__) 0 (c1_0.2.1) (c3_0) else none)
theorem z0e_m_w0_le (n : Nat) (hn : big ≤ n)  (c1_0 : Cha) (t9_0 : List Sta) (c3_0 : List Tra) (c2_0 : List Sta) (hx : List.length (t9_0) < lenMax) : LeF some (loopL (fun i__ e__ s__ => z0e_b0 c1_0 t9_0 c3_0 i__ e__ s__) (fun s__ => z0e_f0 c1_0 t9_0 c3_0 s__) 0 (t9_0) c2_0) (z0e_m_w0 n n c1_0 t9_0 (List.length (t9_0) : Int) 0 c2_0 c3_0) := by
  refine loopL_le (f := some) (W := fun k__ i__ s__ => z0e_m_w0 n k__ c1_0 t9_0 (List.length (t9_0) : Int) i__ s__ c3_0) (body := (fun i__ e__ s__ => z0e_b0 c1_0 t9_0 c3_0 i__ e__ s__)) (fin := (fun s__ => z0e_f0 c1_0 t9_0 c3_0 s__)) (fun k__ i__ s__ => ?_) hx c2_0 n (by unfold big at hn; unfold lenMax at hx; omega)
  show LeF _ _ (z0e_m_l0 n (z0e_m_w0 n k__) c1_0 t9_0 (List.length (t9_0) : Int) i__ s__ c3_0)
  exact leCond (leBind fun v1 => (leCond (leSome rfl) leNone)) (leMap (leGuard fun hx => by apply z0e_m_w2_le n hn; exact hx))
def z0e_M (c : Cha) : Option (Cha × Unit) :=
  (bif decide (List.length (c.1) < lenMax) then loopL (fun i__ e__ s__ => z0e_b0 (c) (c.1) ([]) i__ e__ s__) (fun s__ => z0e_f0 (c) (c.1) ([]) s__) 0 (c.1) ([]) else none)
theorem z0e_run (c : Cha) (y : Cha × Unit) (h : z0e_M c = some y) : ∃ n, z0e_m n c = some y :=
  ⟨big, LeF.top (show LeF some (z0e_M c) (z0e_m big c) from (fun (n : Nat) (hn : big ≤ n) => show LeF some (z0e_M c) (z0e_m n c) from (leGuard fun hx => by apply z0e_m_w0_le n hn; exact hx)) big (Nat.le_refl _)) h⟩
def z0e_e : Entry := { f := 17, args := z0e_a, ress := z0e_r, m := fun x => z0e_M x.1 }
theorem z0e_ok : FnOK Tryz.prog z0e_e := fn_ok (g := z0e_g) (fn := Tryz.f17) hmixed tabOk eNil (by kernel_rfl) (by kernel_rfl) (by kernel_rfl) (fun x y h => let ⟨n, hn⟩ := z0e_run x.1 y h; ⟨z0e_an n, iNil, (z0e_eq n x).trans hn⟩)
abbrev z02_a : Ty := .pair t37 (.pair t37 .unit)
abbrev z02_r : Ty := .pair t4 .unit
def z02_g : G := { T := T, E := [], muts := [], fz := [] }
def z02_k : List (List Nat) := [[0, 1, 5]]
def z02_an (n : Nat) : Ann := { keep := z02_k, fuel := n, inl := [], deep := 0 }
def z02_m_l0 (n : Nat) (r0 : List (List UInt8) → List (List UInt8) → Int → Option (Bool × Unit)) (a0_0 : List (List UInt8)) (b1_0 : List (List UInt8)) (i5_0 : Int) : Option (Bool × Unit) :=
  (bif decide (i5_0 < (↑a0_0.length : Int)) then (Option.bind (idx a0_0 i5_0) fun (v1 : List UInt8) => (Option.bind (idx b1_0 i5_0) fun (v2 : List UInt8) => (bif !v1 == v2 then some (Bool.false, ()) else r0 a0_0 b1_0 (IntKind.i64.wrap (i5_0 + (1 : Int)))))) else some (Bool.true, ()))
def z02_m_w0 (n : Nat)  (k : Nat) (a0_0 : List (List UInt8)) (b1_0 : List (List UInt8)) (i5_0 : Int) : Option (Bool × Unit) :=
  iter (fun r y => z02_m_l0 n (fun a0_0 b1_0 i5_0 => r ((a0_0, (b1_0, (i5_0, ()))), ((), ()))) y.1.1 y.1.2.1 y.1.2.2.1) k ((a0_0, (b1_0, (i5_0, ()))), ((), ()))
def z02_m (n : Nat) (a : List (List UInt8)) (b : List (List UInt8)) : Option (Bool × Unit) :=
  (bif (↑a.length : Int) != (↑b.length : Int) then some (Bool.false, ()) else (z02_m_w0 n n (a) (b) ((0 : Int))))
theorem z02_eq (n : Nat) (x : z02_a.den) : runF z02_g (z02_an n) Tryz.f26 z02_a z02_r x = z02_m n x.1 x.2.1 := by kernel_rfl
def z02_b0 (a0_0 : List (List UInt8)) (b1_0 : List (List UInt8)) (i5_0 : Int) (v1 : List UInt8) : Option ((Bool × Unit) ⊕ Unit) :=
  (Option.bind (idx b1_0 i5_0) fun (v2 : List UInt8) => (bif !v1 == v2 then (some (Sum.inl ((Bool.false, ())))) else (some (Sum.inr ()))))
def z02_f0 (a0_0 : List (List UInt8)) (b1_0 : List (List UInt8)) : Option (Bool × Unit) :=
  (some ((Bool.true, ())))
theorem z02_m_w0_le (n : Nat) (hn : big ≤ n)  (a0_0 : List (List UInt8)) (b1_0 : List (List UInt8)) (hx : List.length (a0_0) < lenMax) : LeF some (loopL (fun i__ e__ s__ => z02_b0 a0_0 b1_0 i__ e__) (fun s__ => z02_f0 a0_0 b1_0) 0 (a0_0) ()) (z02_m_w0 n n a0_0 b1_0 0) := by
  refine loopL_le (f := some) (W := fun k__ i__ s__ => z02_m_w0 n k__ a0_0 b1_0 i__) (body := (fun i__ e__ s__ => z02_b0 a0_0 b1_0 i__ e__)) (fin := (fun s__ => z02_f0 a0_0 b1_0)) (fun k__ i__ s__ => ?_) hx () n (by unfold big at hn; unfold lenMax at hx; omega)
  show LeF _ _ (z02_m_l0 n (z02_m_w0 n k__) a0_0 b1_0 i__)
  exact leCond (leBind fun v1 => (leBind fun v2 => (leCond (leSome rfl) (leSome rfl)))) (leMap (leSome rfl))
def z02_M (a : List (List UInt8)) (b : List (List UInt8)) : Option (Bool × Unit) :=
  (bif (↑a.length : Int) != (↑b.length : Int) then (some ((Bool.false, ()))) else (bif decide (List.length (a) < lenMax) then loopL (fun i__ e__ s__ => z02_b0 (a) (b) i__ e__) (fun s__ => z02_f0 (a) (b)) 0 (a) () else none))
theorem z02_run (a : List (List UInt8)) (b : List (List UInt8)) (y : Bool × Unit) (h : z02_M a b = some y) : ∃ n, z02_m n a b = some y :=
  ⟨big, LeF.top (show LeF some (z02_M a b) (z02_m big a b) from (fun (n : Nat) (hn : big ≤ n) => show LeF some (z02_M a b) (z02_m n a b) from (leCond (leSome rfl) (leGuard fun hx => by apply z02_m_w0_le n hn; exact hx))) big (Nat.le_refl _)) h⟩
def z02_e : Entry := { f := 26, args := z02_a, ress := z02_r, m := fun x => z02_M x.1 x.2.1 }
theorem z02_ok : FnOK Tryz.prog z02_e := fn_ok (g := z02_g) (fn := Tryz.f26) hmixed tabOk eNil (by kernel_rfl) (by kernel_rfl) (by kernel_rfl) (fun x y h => let ⟨n, hn⟩ := z02_run x.1 x.2.1 y h; ⟨z02_an n, iNil, (z02_eq n x).trans hn⟩)
abbrev zm_a : Ty := .pair t50 .unit
abbrev zm_r : Ty := .pair t4 .unit
def zm_g : G := { T := T, E := [], muts := [], fz := [] }
def zm_k : List (List Nat) := [[0, 3]]
def zm_an (n : Nat) : Ann := { keep := zm_k, fuel := n, inl := [], deep := 0 }
def zm_m_l0 (n : Nat) (r0 : List (List UInt8 × Int × Unit) → Int → Option (Bool × Unit)) (l0_0 : List (List UInt8 × Int × Unit)) (i3_0 : Int) : Option (Bool × Unit) :=
  (bif decide (i3_0 < (↑l0_0.length : Int)) then (Option.bind (idx l0_0 i3_0) fun (v1 : List UInt8 × Int × Unit) => (bif decide ((↑v1.1.length : Int) > (40 : Int)) then some (Bool.false, ()) else r0 l0_0 (IntKind.i64.wrap (i3_0 + (1 : Int))))) else (bif decide ((↑l0_0.length : Int) ≤ (12 : Int)) then some (Bool.true, ()) else some ((↑l0_0.length : Int) == (65 : Int), ())))
def zm_m_w0 (n : Nat)  (k : Nat) (l0_0 : List (List UInt8 × Int × Unit)) (i3_0 : Int) : Option (Bool × Unit) :=
  iter (fun r y => zm_m_l0 n (fun l0_0 i3_0 => r ((l0_0, (i3_0, ())), ((), ()))) y.1.1 y.1.2.1) k ((l0_0, (i3_0, ())), ((), ()))
def zm_m (n : Nat) (l : List (List UInt8 × Int × Unit)) : Option (Bool × Unit) :=
  (zm_m_w0 n n (l) ((0 : Int)))
theorem zm_eq (n : Nat) (x : zm_a.den) : runF zm_g (zm_an n) Tryz.f28 zm_a zm_r x = zm_m n x.1 := by kernel_rfl
def zm_b0 (l0_0 : List (List UInt8 × Int × Unit)) (i3_0 : Int) (v1 : List UInt8 × Int × Unit) : Option ((Bool × Unit) ⊕ Unit) :=
  (bif decide ((↑v1.1.length : Int) > (40 : Int)) then (some (Sum.inl ((Bool.false, ())))) else (some (Sum.inr ())))
def zm_f0 (l0_0 : List (List UInt8 × Int × Unit)) : Option (Bool × Unit) :=
  (bif decide ((↑l0_0.length : Int) ≤ (12 : Int)) then (some ((Bool.true, ()))) else (some (((↑l0_0.length : Int) == (65 : Int), ()))))
theorem zm_m_w0_le (n : Nat) (hn : big ≤ n)  (l0_0 : List (List UInt8 × Int × Unit)) (hx : List.length (l0_0) < lenMax) : LeF some (loopL (fun i__ e__ s__ => zm_b0 l0_0 i__ e__) (fun s__ => zm_f0 l0_0) 0 (l0_0) ()) (zm_m_w0 n n l0_0 0) := by
  refine loopL_le (f := some) (W := fun k__ i__ s__ => zm_m_w0 n k__ l0_0 i__) (body := (fun i__ e__ s__ => zm_b0 l0_0 i__ e__)) (fin := (fun s__ => zm_f0 l0_0)) (fun k__ i__ s__ => ?_) hx () n (by unfold big at hn; unfold lenMax at hx; omega)
  show LeF _ _ (zm_m_l0 n (zm_m_w0 n k__) l0_0 i__)
  exact leCond (leBind fun v1 => (leCond (leSome rfl) (leSome rfl))) (leMap (leCond (leSome rfl) (leSome rfl)))
def zm_M (l : List (List UInt8 × Int × Unit)) : Option (Bool × Unit) :=
  (bif decide (List.length (l) < lenMax) then loopL (fun i__ e__ s__ => zm_b0 (l) i__ e__) (fun s__ => zm_f0 (l)) 0 (l) () else none)
theorem zm_run (l : List (List UInt8 × Int × Unit)) (y : Bool × Unit) (h : zm_M l = some y) : ∃ n, zm_m n l = some y :=
  ⟨big, LeF.top (show LeF some (zm_M l) (zm_m big l) from (fun (n : Nat) (hn : big ≤ n) => show LeF some (zm_M l) (zm_m n l) from (leGuard fun hx => by apply zm_m_w0_le n hn; exact hx)) big (Nat.le_refl _)) h⟩
def zm_e : Entry := { f := 28, args := zm_a, ress := zm_r, m := fun x => zm_M x.1 }
theorem zm_ok : FnOK Tryz.prog zm_e := fn_ok (g := zm_g) (fn := Tryz.f28) hmixed tabOk eNil (by kernel_rfl) (by kernel_rfl) (by kernel_rfl) (fun x y h => let ⟨n, hn⟩ := zm_run x.1 y h; ⟨zm_an n, iNil, (zm_eq n x).trans hn⟩)
abbrev z0Q_a : Ty := .pair t50 .unit
abbrev z0Q_r : Ty := .pair t57 .unit
def z0Q_g : G := { T := T, E := [], muts := [3], fz := [] }
def z0Q_k : List (List Nat) := [[3, 6, 7, 8]]
def z0Q_an (n : Nat) : Ann := { keep := z0Q_k, fuel := n, inl := [], deep := 0 }
def z0Q_m_l0 (n : Nat) (r0 : List (List UInt8 × Int × Unit) → Int → Int → List (List UInt8 × Int × Unit) → Option (List (List UInt8 × Int × Unit) × Unit)) (t6_0 : List (List UInt8 × Int × Unit)) (t7_0 : Int) (t8_0 : Int) (c0_0 : List (List UInt8 × Int × Unit)) : Option (List (List UInt8 × Int × Unit) × Unit) :=
  (bif decide (t8_0 < t7_0) then (Option.bind (idx t6_0 t8_0) fun (v1 : List UInt8 × Int × Unit) => (bif decide (c0_0.length + (1 : Nat) ≤ memMax) then r0 t6_0 t7_0 (IntKind.i64.wrap (t8_0 + (1 : Int))) (c0_0 ++ [(v1.1, v1.2.1, ())]) else none)) else some (c0_0, ()))
def z0Q_m_w0 (n : Nat)  (k : Nat) (t6_0 : List (List UInt8 × Int × Unit)) (t7_0 : Int) (t8_0 : Int) (c0_0 : List (List UInt8 × Int × Unit)) : Option (List (List UInt8 × Int × Unit) × Unit) :=
  iter (fun r y => z0Q_m_l0 n (fun t6_0 t7_0 t8_0 c0_0 => r ((t6_0, (t7_0, (t8_0, ()))), ((c0_0, ()), ()))) y.1.1 y.1.2.1 y.1.2.2.1 y.2.1.1) k ((t6_0, (t7_0, (t8_0, ()))), ((c0_0, ()), ()))
def z0Q_m (n : Nat) (l : List (List UInt8 × Int × Unit)) : Option (List (List UInt8 × Int × Unit) × Unit) :=
  (z0Q_m_w0 n n (l) ((↑l.length : Int)) ((0 : Int)) ([]))
theorem z0Q_eq (n : Nat) (x : z0Q_a.den) : runF z0Q_g (z0Q_an n) Tryz.f31 z0Q_a z0Q_r x = z0Q_m n x.1 := by kernel_rfl
def z0Q_b0 (t6_0 : List (List UInt8 × Int × Unit)) (t8_0 : Int) (v1 : List UInt8 × Int × Unit) (c0_0 : List (List UInt8 × Int × Unit)) : Option ((List (List UInt8 × Int × Unit) × Unit) ⊕ (List (List UInt8 × Int × Unit))) :=
  (bif decide (c0_0.length + (1 : Nat) ≤ memMax) then (some (Sum.inr (c0_0 ++ [(v1.1, v1.2.1, ())]))) else none)
def z0Q_f0 (t6_0 : List (List UInt8 × Int × Unit)) (c0_0 : List (List UInt8 × Int × Unit)) : Option (List (List UInt8 × Int × Unit) × Unit) :=
  (some ((c0_0, ())))
theorem z0Q_m_w0_le (n : Nat) (hn : big ≤ n)  (t6_0 : List (List UInt8 × Int × Unit)) (c0_0 : List (List UInt8 × Int × Unit)) (hx : List.length (t6_0) < lenMax) : LeF some (loopL (fun i__ e__ s__ => z0Q_b0 t6_0 i__ e__ s__) (fun s__ => z0Q_f0 t6_0 s__) 0 (t6_0) c0_0) (z0Q_m_w0 n n t6_0 (List.length (t6_0) : Int) 0 c0_0) := by
  refine loopL_le (f := some) (W := fun k__ i__ s__ => z0Q_m_w0 n k__ t6_0 (List.length (t6_0) : Int) i__ s__) (body := (fun i__ e__ s__ => z0Q_b0 t6_0 i__ e__ s__)) (fin := (fun s__ => z0Q_f0 t6_0 s__)) (fun k__ i__ s__ => ?_) hx c0_0 n (by unfold big at hn; unfold lenMax at hx; omega)
  show LeF _ _ (z0Q_m_l0 n (z0Q_m_w0 n k__) t6_0 (List.length (t6_0) : Int) i__ s__)
  exact leCond (leBind fun v1 => (leCond (leSome rfl) leNone)) (leMap (leSome rfl))
def z0Q_M (l : List (List UInt8 × Int × Unit)) : Option (List (List UInt8 × Int × Unit) × Unit) :=
  (bif decide (List.length (l) < lenMax) then loopL (fun i__ e__ s__ => z0Q_b0 (l) i__ e__ s__) (fun s__ => z0Q_f0 (l) s__) 0 (l) ([]) else none)
theorem z0Q_run (l : List (List UInt8 × Int × Unit)) (y : List (List UInt8 × Int × Unit) × Unit) (h : z0Q_M l = some y) : ∃ n, z0Q_m n l = some y :=
  ⟨big, LeF.top (show LeF some (z0Q_M l) (z0Q_m big l) from (fun (n : Nat) (hn : big ≤ n) => show LeF some (z0Q_M l) (z0Q_m n l) from (leGuard fun hx => by apply z0Q_m_w0_le n hn; exact hx)) big (Nat.le_refl _)) h⟩
def z0Q_e : Entry := { f := 31, args := z0Q_a, ress := z0Q_r, m := fun x => z0Q_M x.1 }
theorem z0Q_ok : FnOK Tryz.prog z0Q_e := fn_ok (g := z0Q_g) (fn := Tryz.f31) hmixed tabOk eNil (by kernel_rfl) (by kernel_rfl) (by kernel_rfl) (fun x y h => let ⟨n, hn⟩ := z0Q_run x.1 y h; ⟨z0Q_an n, iNil, (z0Q_eq n x).trans hn⟩)
abbrev zt_a : Ty := .pair t3 (.pair t3 (.pair t3 .unit))
abbrev zt_r : Ty := .pair t3 .unit
def zt_g : G := { T := T, E := [], muts := [], fz := [] }
def zt_k : List (List Nat) := []
def zt_an (n : Nat) : Ann := { keep := zt_k, fuel := n, inl := [], deep := 0 }
def zt_m (n : Nat) (n1 : Int) (low : Int) (high : Int) : Option (Int × Unit) :=
  (bif decide (n1 < low) then some ((3 : Int), ()) else (bif decide (n1 > high) then some ((3 : Int), ()) else some ((0 : Int), ())))
theorem zt_eq (n : Nat) (x : zt_a.den) : runF zt_g (zt_an n) Tryz.f43 zt_a zt_r x = zt_m n x.1 x.2.1 x.2.2.1 := by kernel_rfl
def zt (n1 : Int) (low : Int) (high : Int) : (Int × Unit) :=
  (bif decide (n1 < low) then ((3 : Int), ()) else (bif decide (n1 > high) then ((3 : Int), ()) else ((0 : Int), ())))
abbrev zt_M (n1 : Int) (low : Int) (high : Int) : Option (Int × Unit) := some (zt n1 low high)
theorem zt_run (n1 : Int) (low : Int) (high : Int) (y : Int × Unit) (h : zt_M n1 low high = some y) : ∃ n, zt_m n n1 low high = some y :=
  ⟨0, by rw [← h]; show zt_m 0 n1 low high = some (zt n1 low high); unfold zt_m zt; first | rfl | (simp only [cond_some]; done) | (simp only [cond_some]; rfl)⟩
def zt_e : Entry := { f := 43, args := zt_a, ress := zt_r, m := fun x => zt_M x.1 x.2.1 x.2.2.1 }
theorem zt_ok : FnOK Tryz.prog zt_e := fn_ok (g := zt_g) (fn := Tryz.f43) hmixed tabOk eNil (by kernel_rfl) (by kernel_rfl) (by kernel_rfl) (fun x y h => let ⟨n, hn⟩ := zt_run x.1 x.2.1 x.2.2.1 y h; ⟨zt_an n, iNil, (zt_eq n x).trans hn⟩)
abbrev z0A_a : Ty := .pair t28 (.pair t28 .unit)
abbrev z0A_r : Ty := .pair t4 .unit
def z0A_g : G := { T := T, E := [], muts := [], fz := [] }
def z0A_k : List (List Nat) := [[0, 1, 5]]
def z0A_an (n : Nat) : Ann := { keep := z0A_k, fuel := n, inl := [], deep := 0 }
def z0A_m_l0 (n : Nat) (r0 : List Int → List Int → Int → Option (Bool × Unit)) (a0_0 : List Int) (b1_0 : List Int) (i5_0 : Int) : Option (Bool × Unit) :=
  (bif decide (i5_0 < (↑a0_0.length : Int)) then (Option.bind (idx a0_0 i5_0) fun (v1 : Int) => (Option.bind (idx b1_0 i5_0) fun (v2 : Int) => (bif v1 != v2 then some (Bool.false, ()) else r0 a0_0 b1_0 (IntKind.i64.wrap (i5_0 + (1 : Int)))))) else some (Bool.true, ()))
def z0A_m_w0 (n : Nat)  (k : Nat) (a0_0 : List Int) (b1_0 : List Int) (i5_0 : Int) : Option (Bool × Unit) :=
  iter (fun r y => z0A_m_l0 n (fun a0_0 b1_0 i5_0 => r ((a0_0, (b1_0, (i5_0, ()))), ((), ()))) y.1.1 y.1.2.1 y.1.2.2.1) k ((a0_0, (b1_0, (i5_0, ()))), ((), ()))
def z0A_m (n : Nat) (a : List Int) (b : List Int) : Option (Bool × Unit) :=
  (bif (↑a.length : Int) != (↑b.length : Int) then some (Bool.false, ()) else (z0A_m_w0 n n (a) (b) ((0 : Int))))
theorem z0A_eq (n : Nat) (x : z0A_a.den) : runF z0A_g (z0A_an n) Tryz.f48 z0A_a z0A_r x = z0A_m n x.1 x.2.1 := by kernel_rfl
def z0A_b0 (a0_0 : List Int) (b1_0 : List Int) (i5_0 : Int) (v1 : Int) : Option ((Bool × Unit) ⊕ Unit) :=
  (Option.bind (idx b1_0 i5_0) fun (v2 : Int) => (bif v1 != v2 then (some (Sum.inl ((Bool.false, ())))) else (some (Sum.inr ()))))
def z0A_f0 (a0_0 : List Int) (b1_0 : List Int) : Option (Bool × Unit) :=
  (some ((Bool.true, ())))
theorem z0A_m_w0_le (n : Nat) (hn : big ≤ n)  (a0_0 : List Int) (b1_0 : List Int) (hx : List.length (a0_0) < lenMax) : LeF some (loopL (fun i__ e__ s__ => z0A_b0 a0_0 b1_0 i__ e__) (fun s__ => z0A_f0 a0_0 b1_0) 0 (a0_0) ()) (z0A_m_w0 n n a0_0 b1_0 0) := by
  refine loopL_le (f := some) (W := fun k__ i__ s__ => z0A_m_w0 n k__ a0_0 b1_0 i__) (body := (fun i__ e__ s__ => z0A_b0 a0_0 b1_0 i__ e__)) (fin := (fun s__ => z0A_f0 a0_0 b1_0)) (fun k__ i__ s__ => ?_) hx () n (by unfold big at hn; unfold lenMax at hx; omega)
  show LeF _ _ (z0A_m_l0 n (z0A_m_w0 n k__) a0_0 b1_0 i__)
  exact leCond (leBind fun v1 => (leBind fun v2 => (leCond (leSome rfl) (leSome rfl)))) (leMap (leSome rfl))
def z0A_M (a : List Int) (b : List Int) : Option (Bool × Unit) :=
  (bif (↑a.length : Int) != (↑b.length : Int) then (some ((Bool.false, ()))) else (bif decide (List.length (a) < lenMax) then loopL (fun i__ e__ s__ => z0A_b0 (a) (b) i__ e__) (fun s__ => z0A_f0 (a) (b)) 0 (a) () else none))
theorem z0A_run (a : List Int) (b : List Int) (y : Bool × Unit) (h : z0A_M a b = some y) : ∃ n, z0A_m n a b = some y :=
  ⟨big, LeF.top (show LeF some (z0A_M a b) (z0A_m big a b) from (fun (n : Nat) (hn : big ≤ n) => show LeF some (z0A_M a b) (z0A_m n a b) from (leCond (leSome rfl) (leGuard fun hx => by apply z0A_m_w0_le n hn; exact hx))) big (Nat.le_refl _)) h⟩
def z0A_e : Entry := { f := 48, args := z0A_a, ress := z0A_r, m := fun x => z0A_M x.1 x.2.1 }
theorem z0A_ok : FnOK Tryz.prog z0A_e := fn_ok (g := z0A_g) (fn := Tryz.f48) hmixed tabOk eNil (by kernel_rfl) (by kernel_rfl) (by kernel_rfl) (fun x y h => let ⟨n, hn⟩ := z0A_run x.1 x.2.1 y h; ⟨z0A_an n, iNil, (z0A_eq n x).trans hn⟩)
abbrev z0r_a : Ty := .pair t28 .unit
abbrev z0r_r : Ty := .pair t28 .unit
def z0r_g : G := { T := T, E := [], muts := [3], fz := [] }
def z0r_k : List (List Nat) := []
def z0r_an (n : Nat) : Ann := { keep := z0r_k, fuel := n, inl := [], deep := 0 }
def z0r_m (n : Nat) (l : List Int) : Option (List Int × Unit) :=
  (bif decide ((0 : Nat) + l.length ≤ memMax) then some (l, ()) else none)
theorem z0r_eq (n : Nat) (x : z0r_a.den) : runF z0r_g (z0r_an n) Tryz.f50 z0r_a z0r_r x = z0r_m n x.1 := by kernel_rfl
def z0r_M (l : List Int) : Option (List Int × Unit) := z0r_m 0 l
theorem z0r_run (l : List Int) (y : List Int × Unit) (h : z0r_M l = some y) : ∃ n, z0r_m n l = some y := ⟨0, h⟩
def z0r_e : Entry := { f := 50, args := z0r_a, ress := z0r_r, m := fun x => z0r_M x.1 }
theorem z0r_ok : FnOK Tryz.prog z0r_e := fn_ok (g := z0r_g) (fn := Tryz.f50) hmixed tabOk eNil (by kernel_rfl) (by kernel_rfl) (by kernel_rfl) (fun x y h => let ⟨n, hn⟩ := z0r_run x.1 y h; ⟨z0r_an n, iNil, (z0r_eq n x).trans hn⟩)
abbrev z0B_a : Ty := .pair t50 .unit
abbrev z0B_r : Ty := .pair t100 .unit
def z0B_g : G := { T := T, E := [], muts := [7], fz := [] }
def z0B_k : List (List Nat) := [[0, 3, 4], [0, 3, 4, 5]]
def z0B_an (n : Nat) : Ann := { keep := z0B_k, fuel := n, inl := [], deep := 0 }
def z0B_m_l1 (n : Nat) (r0 : List (List UInt8 × Int × Unit) → Int → List Fai → Option (List Fai × Unit)) (r1 : List (List UInt8 × Int × Unit) → Int → Int → List Fai → Option (List Fai × Unit)) (l0_1 : List (List UInt8 × Int × Unit)) (i4_1 : Int) (bit5_1 : Int) (c0_1 : List Fai) : Option (List Fai × Unit) :=
  (bif decide (bit5_1 < (4 : Int)) then (bif decide (c0_1.length + (2 : Nat) ≤ memMax) then r1 l0_1 i4_1 (IntKind.i64.wrap (bit5_1 + (1 : Int))) (c0_1 ++ [([(115 : UInt8), (116 : UInt8), (117 : UInt8), (99 : UInt8), (107 : UInt8)], i4_1, bit5_1, (0 : Int), ()), ([(115 : UInt8), (116 : UInt8), (117 : UInt8), (99 : UInt8), (107 : UInt8)], i4_1, bit5_1, (1 : Int), ())]) else none) else r0 l0_1 (IntKind.i64.wrap (i4_1 + (1 : Int))) c0_1)
def z0B_m_w1 (n : Nat) (r0 : List (List UInt8 × Int × Unit) → Int → List Fai → Option (List Fai × Unit)) (k : Nat) (l0_1 : List (List UInt8 × Int × Unit)) (i4_1 : Int) (bit5_1 : Int) (c0_1 : List Fai) : Option (List Fai × Unit) :=
  iter (fun r y => z0B_m_l1 n r0 (fun l0_1 i4_1 bit5_1 c0_1 => r ((l0_1, (i4_1, (bit5_1, ()))), ((c0_1, ()), ()))) y.1.1 y.1.2.1 y.1.2.2.1 y.2.1.1) k ((l0_1, (i4_1, (bit5_1, ()))), ((c0_1, ()), ()))
def z0B_m_l0 (n : Nat) (r0 : List (List UInt8 × Int × Unit) → Int → List Fai → Option (List Fai × Unit)) (l0_0 : List (List UInt8 × Int × Unit)) (i4_0 : Int) (c0_0 : List Fai) : Option (List Fai × Unit) :=
  (bif decide (i4_0 < (↑l0_0.length : Int)) then (bif decide (c0_0.length + (1 : Nat) ≤ memMax) then (z0B_m_w1 n r0 n (l0_0) (i4_0) ((0 : Int)) (c0_0 ++ [([(108 : UInt8), (111 : UInt8), (115 : UInt8), (116 : UInt8)], i4_0, (0 : Int), (0 : Int), ())])) else none) else some (c0_0, ()))
def z0B_m_w0 (n : Nat)  (k : Nat) (l0_0 : List (List UInt8 × Int × Unit)) (i4_0 : Int) (c0_0 : List Fai) : Option (List Fai × Unit) :=
  iter (fun r y => z0B_m_l0 n (fun l0_0 i4_0 c0_0 => r ((l0_0, (i4_0, ())), ((c0_0, ()), ()))) y.1.1 y.1.2.1 y.2.1.1) k ((l0_0, (i4_0, ())), ((c0_0, ()), ()))
def z0B_m (n : Nat) (l : List (List UInt8 × Int × Unit)) : Option (List Fai × Unit) :=
  (z0B_m_w0 n n (l) ((0 : Int)) ([([(110 : UInt8), (111 : UInt8), (110 : UInt8), (101 : UInt8)], (0 : Int), (0 : Int), (0 : Int), ())]))
theorem z0B_eq (n : Nat) (x : z0B_a.den) : runF z0B_g (z0B_an n) Tryz.f63 z0B_a z0B_r x = z0B_m n x.1 := by kernel_rfl
def z0B_b1 (l0_1 : List (List UInt8 × Int × Unit)) (i4_1 : Int) (bit5_1 : Int) (c0_1 : List Fai) : Option (((List Fai × Unit) ⊕ (List Fai)) ⊕ (List Fai)) :=
  (bif decide (c0_1.length + (2 : Nat) ≤ memMax) then (some (Sum.inr (c0_1 ++ [([(115 : UInt8), (116 : UInt8), (117 : UInt8), (99 : UInt8), (107 : UInt8)], i4_1, bit5_1, (0 : Int), ()), ([(115 : UInt8), (116 : UInt8), (117 : UInt8), (99 : UInt8), (107 : UInt8)], i4_1, bit5_1, (1 : Int), ())]))) else none)
def z0B_f1 (l0_1 : List (List UInt8 × Int × Unit)) (i4_1 : Int) (c0_1 : List Fai) : Option ((List Fai × Unit) ⊕ (List Fai)) :=
  (some (Sum.inr (c0_1)))
theorem z0B_m_w1_le (n : Nat) (hn : big ≤ n)  (r0 : List (List UInt8 × Int × Unit) → Int → List Fai → Option (List Fai × Unit)) (l0_1 : List (List UInt8 × Int × Unit)) (i4_1 : Int) (c0_1 : List Fai) (hx : ((4 : Int)) ≤ (9223372036854775807 : Int)) : LeF (elim some fun (s__ : (List Fai)) => r0 l0_1 (IntKind.i64.wrap (i4_1 + 1)) s__) (loopN (fun i__ s__ => z0B_b1 l0_1 i4_1 i__ s__) (fun s__ => z0B_f1 l0_1 i4_1 s__) (((4 : Int)) - 0).toNat 0 c0_1) (z0B_m_w1 n r0 n l0_1 i4_1 0 c0_1) := by
  refine loopN_le (f := (elim some fun (s__ : (List Fai)) => r0 l0_1 (IntKind.i64.wrap (i4_1 + 1)) s__)) (W := fun k__ i__ s__ => z0B_m_w1 n r0 k__ l0_1 i4_1 i__ s__) (body := (fun i__ s__ => z0B_b1 l0_1 i4_1 i__ s__)) (fin := (fun s__ => z0B_f1 l0_1 i4_1 s__)) (fun k__ i__ s__ => ?_) hx c0_1 n 0 (by decide) (by unfold big at hn; omega)
  show LeF _ _ (z0B_m_l1 n r0 (z0B_m_w1 n r0 k__) l0_1 i4_1 i__ s__)
  exact leCond (leCond (leSome rfl) leNone) (leMap (leSome rfl))
def z0B_b0 (l0_0 : List (List UInt8 × Int × Unit)) (i4_0 : Int) (c0_0 : List Fai) : Option ((List Fai × Unit) ⊕ (List Fai)) :=
  (bif decide (c0_0.length + (1 : Nat) ≤ memMax) then (bif decide (((4 : Int)) ≤ (9223372036854775807 : Int)) then loopN (fun i__ s__ => z0B_b1 (l0_0) (i4_0) i__ s__) (fun s__ => z0B_f1 (l0_0) (i4_0) s__) (((4 : Int)) - 0).toNat 0 (c0_0 ++ [([(108 : UInt8), (111 : UInt8), (115 : UInt8), (116 : UInt8)], i4_0, (0 : Int), (0 : Int), ())]) else none) else none)
def z0B_f0 (l0_0 : List (List UInt8 × Int × Unit)) (c0_0 : List Fai) : Option (List Fai × Unit) :=
  (some ((c0_0, ())))
theorem z0B_m_w0_le (n : Nat) (hn : big ≤ n)  (l0_0 : List (List UInt8 × Int × Unit)) (c0_0 : List Fai) (hx : ((↑l0_0.length : Int)) ≤ (9223372036854775807 : Int)) : LeF some (loopN (fun i__ s__ => z0B_b0 l0_0 i__ s__) (fun s__ => z0B_f0 l0_0 s__) (((↑l0_0.length : Int)) - 0).toNat 0 c0_0) (z0B_m_w0 n n l0_0 0 c0_0) := by
  refine loopN_le (f := some) (W := fun k__ i__ s__ => z0B_m_w0 n k__ l0_0 i__ s__) (body := (fun i__ s__ => z0B_b0 l0_0 i__ s__)) (fin := (fun s__ => z0B_f0 l0_0 s__)) (fun k__ i__ s__ => ?_) hx c0_0 n 0 (by decide) (by unfold big at hn; omega)
  show LeF _ _ (z0B_m_l0 n (z0B_m_w0 n k__) l0_0 i__ s__)
  exact leCond (leCond (leGuard fun hx => by apply z0B_m_w1_le n hn; exact hx) leNone) (leMap (leSome rfl))
def z0B_M (l : List (List UInt8 × Int × Unit)) : Option (List Fai × Unit) :=
  (bif decide (((↑l.length : Int)) ≤ (9223372036854775807 : Int)) then loopN (fun i__ s__ => z0B_b0 (l) i__ s__) (fun s__ => z0B_f0 (l) s__) (((↑l.length : Int)) - 0).toNat 0 ([([(110 : UInt8), (111 : UInt8), (110 : UInt8), (101 : UInt8)], (0 : Int), (0 : Int), (0 : Int), ())]) else none)
theorem z0B_run (l : List (List UInt8 × Int × Unit)) (y : List Fai × Unit) (h : z0B_M l = some y) : ∃ n, z0B_m n l = some y :=
  ⟨big, LeF.top (show LeF some (z0B_M l) (z0B_m big l) from (fun (n : Nat) (hn : big ≤ n) => show LeF some (z0B_M l) (z0B_m n l) from (leGuard fun hx => by apply z0B_m_w0_le n hn; exact hx)) big (Nat.le_refl _)) h⟩
def z0B_e : Entry := { f := 63, args := z0B_a, ress := z0B_r, m := fun x => z0B_M x.1 }
theorem z0B_ok : FnOK Tryz.prog z0B_e := fn_ok (g := z0B_g) (fn := Tryz.f63) hmixed tabOk eNil (by kernel_rfl) (by kernel_rfl) (by kernel_rfl) (fun x y h => let ⟨n, hn⟩ := z0B_run x.1 y h; ⟨z0B_an n, iNil, (z0B_eq n x).trans hn⟩)
abbrev zY_a : Ty := .pair t100 (.pair t100 .unit)
abbrev zY_r : Ty := .pair t4 .unit
def zY_g : G := { T := T, E := [], muts := [], fz := [] }
def zY_k : List (List Nat) := [[0, 1, 5]]
def zY_an (n : Nat) : Ann := { keep := zY_k, fuel := n, inl := [], deep := 0 }
def zY_m_l0 (n : Nat) (r0 : List Fai → List Fai → Int → Option (Bool × Unit)) (a0_0 : List Fai) (b1_0 : List Fai) (i5_0 : Int) : Option (Bool × Unit) :=
  (bif decide (i5_0 < (↑a0_0.length : Int)) then (Option.bind (idx a0_0 i5_0) fun (v1 : Fai) => (Option.bind (idx b1_0 i5_0) fun (v2 : Fai) => (bif !eqV (Ty.str.pair ((Ty.int IntKind.i64).pair ((Ty.int IntKind.i64).pair ((Ty.int IntKind.i64).pair Ty.unit)))) v1 v2 then some (Bool.false, ()) else r0 a0_0 b1_0 (IntKind.i64.wrap (i5_0 + (1 : Int)))))) else some (Bool.true, ()))
def zY_m_w0 (n : Nat)  (k : Nat) (a0_0 : List Fai) (b1_0 : List Fai) (i5_0 : Int) : Option (Bool × Unit) :=
  iter (fun r y => zY_m_l0 n (fun a0_0 b1_0 i5_0 => r ((a0_0, (b1_0, (i5_0, ()))), ((), ()))) y.1.1 y.1.2.1 y.1.2.2.1) k ((a0_0, (b1_0, (i5_0, ()))), ((), ()))
def zY_m (n : Nat) (a : List Fai) (b : List Fai) : Option (Bool × Unit) :=
  (bif (↑a.length : Int) != (↑b.length : Int) then some (Bool.false, ()) else (zY_m_w0 n n (a) (b) ((0 : Int))))
theorem zY_eq (n : Nat) (x : zY_a.den) : runF zY_g (zY_an n) Tryz.f64 zY_a zY_r x = zY_m n x.1 x.2.1 := by kernel_rfl
def zY_b0 (a0_0 : List Fai) (b1_0 : List Fai) (i5_0 : Int) (v1 : Fai) : Option ((Bool × Unit) ⊕ Unit) :=
  (Option.bind (idx b1_0 i5_0) fun (v2 : Fai) => (bif !eqV (Ty.str.pair ((Ty.int IntKind.i64).pair ((Ty.int IntKind.i64).pair ((Ty.int IntKind.i64).pair Ty.unit)))) v1 v2 then (some (Sum.inl ((Bool.false, ())))) else (some (Sum.inr ()))))
def zY_f0 (a0_0 : List Fai) (b1_0 : List Fai) : Option (Bool × Unit) :=
  (some ((Bool.true, ())))
theorem zY_m_w0_le (n : Nat) (hn : big ≤ n)  (a0_0 : List Fai) (b1_0 : List Fai) (hx : List.length (a0_0) < lenMax) : LeF some (loopL (fun i__ e__ s__ => zY_b0 a0_0 b1_0 i__ e__) (fun s__ => zY_f0 a0_0 b1_0) 0 (a0_0) ()) (zY_m_w0 n n a0_0 b1_0 0) := by
  refine loopL_le (f := some) (W := fun k__ i__ s__ => zY_m_w0 n k__ a0_0 b1_0 i__) (body := (fun i__ e__ s__ => zY_b0 a0_0 b1_0 i__ e__)) (fin := (fun s__ => zY_f0 a0_0 b1_0)) (fun k__ i__ s__ => ?_) hx () n (by unfold big at hn; unfold lenMax at hx; omega)
  show LeF _ _ (zY_m_l0 n (zY_m_w0 n k__) a0_0 b1_0 i__)
  exact leCond (leBind fun v1 => (leBind fun v2 => (leCond (leSome rfl) (leSome rfl)))) (leMap (leSome rfl))
def zY_M (a : List Fai) (b : List Fai) : Option (Bool × Unit) :=
  (bif (↑a.length : Int) != (↑b.length : Int) then (some ((Bool.false, ()))) else (bif decide (List.length (a) < lenMax) then loopL (fun i__ e__ s__ => zY_b0 (a) (b) i__ e__) (fun s__ => zY_f0 (a) (b)) 0 (a) () else none))
theorem zY_run (a : List Fai) (b : List Fai) (y : Bool × Unit) (h : zY_M a b = some y) : ∃ n, zY_m n a b = some y :=
  ⟨big, LeF.top (show LeF some (zY_M a b) (zY_m big a b) from (fun (n : Nat) (hn : big ≤ n) => show LeF some (zY_M a b) (zY_m n a b) from (leCond (leSome rfl) (leGuard fun hx => by apply zY_m_w0_le n hn; exact hx))) big (Nat.le_refl _)) h⟩
def zY_e : Entry := { f := 64, args := zY_a, ress := zY_r, m := fun x => zY_M x.1 x.2.1 }
theorem zY_ok : FnOK Tryz.prog zY_e := fn_ok (g := zY_g) (fn := Tryz.f64) hmixed tabOk eNil (by kernel_rfl) (by kernel_rfl) (by kernel_rfl) (fun x y h => let ⟨n, hn⟩ := zY_run x.1 x.2.1 y h; ⟨zY_an n, iNil, (zY_eq n x).trans hn⟩)
abbrev z09_a : Ty := .pair t97 .unit
abbrev z09_r : Ty := .pair t100 .unit
def z09_g : G := { T := T, E := [], muts := [3], fz := [] }
def z09_k : List (List Nat) := [[3, 6, 7, 8]]
def z09_an (n : Nat) : Ann := { keep := z09_k, fuel := n, inl := [], deep := 0 }
def z09_m_l0 (n : Nat) (r0 : List Fai → Int → Int → List Fai → Option (List Fai × Unit)) (t6_0 : List Fai) (t7_0 : Int) (t8_0 : Int) (c0_0 : List Fai) : Option (List Fai × Unit) :=
  (bif decide (t8_0 < t7_0) then (Option.bind (idx t6_0 t8_0) fun (v1 : Fai) => (bif decide (c0_0.length + (1 : Nat) ≤ memMax) then r0 t6_0 t7_0 (IntKind.i64.wrap (t8_0 + (1 : Int))) (c0_0 ++ [(v1.1, v1.2.1, v1.2.2.1, v1.2.2.2.1, ())]) else none)) else some (c0_0, ()))
def z09_m_w0 (n : Nat)  (k : Nat) (t6_0 : List Fai) (t7_0 : Int) (t8_0 : Int) (c0_0 : List Fai) : Option (List Fai × Unit) :=
  iter (fun r y => z09_m_l0 n (fun t6_0 t7_0 t8_0 c0_0 => r ((t6_0, (t7_0, (t8_0, ()))), ((c0_0, ()), ()))) y.1.1 y.1.2.1 y.1.2.2.1 y.2.1.1) k ((t6_0, (t7_0, (t8_0, ()))), ((c0_0, ()), ()))
def z09_m (n : Nat) (l : List Fai) : Option (List Fai × Unit) :=
  (z09_m_w0 n n (l) ((↑l.length : Int)) ((0 : Int)) ([]))
theorem z09_eq (n : Nat) (x : z09_a.den) : runF z09_g (z09_an n) Tryz.f65 z09_a z09_r x = z09_m n x.1 := by kernel_rfl
def z09_b0 (t6_0 : List Fai) (t8_0 : Int) (v1 : Fai) (c0_0 : List Fai) : Option ((List Fai × Unit) ⊕ (List Fai)) :=
  (bif decide (c0_0.length + (1 : Nat) ≤ memMax) then (some (Sum.inr (c0_0 ++ [(v1.1, v1.2.1, v1.2.2.1, v1.2.2.2.1, ())]))) else none)
def z09_f0 (t6_0 : List Fai) (c0_0 : List Fai) : Option (List Fai × Unit) :=
  (some ((c0_0, ())))
theorem z09_m_w0_le (n : Nat) (hn : big ≤ n)  (t6_0 : List Fai) (c0_0 : List Fai) (hx : List.length (t6_0) < lenMax) : LeF some (loopL (fun i__ e__ s__ => z09_b0 t6_0 i__ e__ s__) (fun s__ => z09_f0 t6_0 s__) 0 (t6_0) c0_0) (z09_m_w0 n n t6_0 (List.length (t6_0) : Int) 0 c0_0) := by
  refine loopL_le (f := some) (W := fun k__ i__ s__ => z09_m_w0 n k__ t6_0 (List.length (t6_0) : Int) i__ s__) (body := (fun i__ e__ s__ => z09_b0 t6_0 i__ e__ s__)) (fin := (fun s__ => z09_f0 t6_0 s__)) (fun k__ i__ s__ => ?_) hx c0_0 n (by unfold big at hn; unfold lenMax at hx; omega)
  show LeF _ _ (z09_m_l0 n (z09_m_w0 n k__) t6_0 (List.length (t6_0) : Int) i__ s__)
  exact leCond (leBind fun v1 => (leCond (leSome rfl) leNone)) (leMap (leSome rfl))
def z09_M (l : List Fai) : Option (List Fai × Unit) :=
  (bif decide (List.length (l) < lenMax) then loopL (fun i__ e__ s__ => z09_b0 (l) i__ e__ s__) (fun s__ => z09_f0 (l) s__) 0 (l) ([]) else none)
theorem z09_run (l : List Fai) (y : List Fai × Unit) (h : z09_M l = some y) : ∃ n, z09_m n l = some y :=
  ⟨big, LeF.top (show LeF some (z09_M l) (z09_m big l) from (fun (n : Nat) (hn : big ≤ n) => show LeF some (z09_M l) (z09_m n l) from (leGuard fun hx => by apply z09_m_w0_le n hn; exact hx)) big (Nat.le_refl _)) h⟩
def z09_e : Entry := { f := 65, args := z09_a, ress := z09_r, m := fun x => z09_M x.1 }
theorem z09_ok : FnOK Tryz.prog z09_e := fn_ok (g := z09_g) (fn := Tryz.f65) hmixed tabOk eNil (by kernel_rfl) (by kernel_rfl) (by kernel_rfl) (fun x y h => let ⟨n, hn⟩ := z09_run x.1 y h; ⟨z09_an n, iNil, (z09_eq n x).trans hn⟩)
abbrev z0R_a : Ty := .pair t28 (.pair t3 .unit)
abbrev z0R_r : Ty := .pair t4 .unit
def z0R_g : G := { T := T, E := [], muts := [], fz := [] }
def z0R_k : List (List Nat) := [[0, 1, 5]]
def z0R_an (n : Nat) : Ann := { keep := z0R_k, fuel := n, inl := [], deep := 0 }
def z0R_m_l0 (n : Nat) (r0 : List Int → Int → Int → Option (Bool × Unit)) (l0_0 : List Int) (n1_0 : Int) (i5_0 : Int) : Option (Bool × Unit) :=
  (bif decide (i5_0 < (↑l0_0.length : Int)) then (Option.bind (idx l0_0 i5_0) fun (v1 : Int) => (bif v1 == n1_0 then some (Bool.true, ()) else r0 l0_0 n1_0 (IntKind.i64.wrap (i5_0 + (1 : Int))))) else some (Bool.false, ()))
def z0R_m_w0 (n : Nat)  (k : Nat) (l0_0 : List Int) (n1_0 : Int) (i5_0 : Int) : Option (Bool × Unit) :=
  iter (fun r y => z0R_m_l0 n (fun l0_0 n1_0 i5_0 => r ((l0_0, (n1_0, (i5_0, ()))), ((), ()))) y.1.1 y.1.2.1 y.1.2.2.1) k ((l0_0, (n1_0, (i5_0, ()))), ((), ()))
def z0R_m (n : Nat) (l : List Int) (n1 : Int) : Option (Bool × Unit) :=
  (z0R_m_w0 n n (l) (n1) ((0 : Int)))
theorem z0R_eq (n : Nat) (x : z0R_a.den) : runF z0R_g (z0R_an n) Tryz.f67 z0R_a z0R_r x = z0R_m n x.1 x.2.1 := by kernel_rfl
def z0R_b0 (l0_0 : List Int) (n1_0 : Int) (i5_0 : Int) (v1 : Int) : Option ((Bool × Unit) ⊕ Unit) :=
  (bif v1 == n1_0 then (some (Sum.inl ((Bool.true, ())))) else (some (Sum.inr ())))
def z0R_f0 (l0_0 : List Int) (n1_0 : Int) : Option (Bool × Unit) :=
  (some ((Bool.false, ())))
theorem z0R_m_w0_le (n : Nat) (hn : big ≤ n)  (l0_0 : List Int) (n1_0 : Int) (hx : List.length (l0_0) < lenMax) : LeF some (loopL (fun i__ e__ s__ => z0R_b0 l0_0 n1_0 i__ e__) (fun s__ => z0R_f0 l0_0 n1_0) 0 (l0_0) ()) (z0R_m_w0 n n l0_0 n1_0 0) := by
  refine loopL_le (f := some) (W := fun k__ i__ s__ => z0R_m_w0 n k__ l0_0 n1_0 i__) (body := (fun i__ e__ s__ => z0R_b0 l0_0 n1_0 i__ e__)) (fin := (fun s__ => z0R_f0 l0_0 n1_0)) (fun k__ i__ s__ => ?_) hx () n (by unfold big at hn; unfold lenMax at hx; omega)
  show LeF _ _ (z0R_m_l0 n (z0R_m_w0 n k__) l0_0 n1_0 i__)
  exact leCond (leBind fun v1 => (leCond (leSome rfl) (leSome rfl))) (leMap (leSome rfl))
def z0R_M (l : List Int) (n1 : Int) : Option (Bool × Unit) :=
  (bif decide (List.length (l) < lenMax) then loopL (fun i__ e__ s__ => z0R_b0 (l) (n1) i__ e__) (fun s__ => z0R_f0 (l) (n1)) 0 (l) () else none)
theorem z0R_run (l : List Int) (n1 : Int) (y : Bool × Unit) (h : z0R_M l n1 = some y) : ∃ n, z0R_m n l n1 = some y :=
  ⟨big, LeF.top (show LeF some (z0R_M l n1) (z0R_m big l n1) from (fun (n : Nat) (hn : big ≤ n) => show LeF some (z0R_M l n1) (z0R_m n l n1) from (leGuard fun hx => by apply z0R_m_w0_le n hn; exact hx)) big (Nat.le_refl _)) h⟩
def z0R_e : Entry := { f := 67, args := z0R_a, ress := z0R_r, m := fun x => z0R_M x.1 x.2.1 }
theorem z0R_ok : FnOK Tryz.prog z0R_e := fn_ok (g := z0R_g) (fn := Tryz.f67) hmixed tabOk eNil (by kernel_rfl) (by kernel_rfl) (by kernel_rfl) (fun x y h => let ⟨n, hn⟩ := z0R_run x.1 x.2.1 y h; ⟨z0R_an n, iNil, (z0R_eq n x).trans hn⟩)
abbrev zl_a : Ty := .pair t25 (.pair t28 .unit)
abbrev zl_r : Ty := .pair t3 .unit
def zl_g : G := { T := T, E := [], muts := [], fz := [] }
def zl_k : List (List Nat) := [[1, 2, 5]]
def zl_an (n : Nat) : Ann := { keep := zl_k, fuel := n, inl := [], deep := 0 }
def zl_m_l0 (n : Nat) (r0 : List Int → Cha → Int → Option (Int × Unit)) (l1_0 : List Int) (c2_0 : Cha) (i5_0 : Int) : Option (Int × Unit) :=
  (bif decide (i5_0 < (↑l1_0.length : Int)) then (Option.bind (idx l1_0 i5_0) fun (v1 : Int) => (bif decide (v1 < (0 : Int)) then some ((10 : Int), ()) else (Option.bind (idx l1_0 i5_0) fun (v2 : Int) => (bif decide (v2 ≥ (↑c2_0.1.length : Int)) then some ((10 : Int), ()) else r0 l1_0 c2_0 (IntKind.i64.wrap (i5_0 + (1 : Int))))))) else some ((0 : Int), ()))
def zl_m_w0 (n : Nat)  (k : Nat) (l1_0 : List Int) (c2_0 : Cha) (i5_0 : Int) : Option (Int × Unit) :=
  iter (fun r y => zl_m_l0 n (fun l1_0 c2_0 i5_0 => r ((l1_0, (c2_0, (i5_0, ()))), ((), ()))) y.1.1 y.1.2.1 y.1.2.2.1) k ((l1_0, (c2_0, (i5_0, ()))), ((), ()))
def zl_m (n : Nat) (c : Cha) (l : List Int) : Option (Int × Unit) :=
  (bif decide ((↑l.length : Int) > (16 : Int)) then some ((5 : Int), ()) else (zl_m_w0 n n (l) (c) ((0 : Int))))
theorem zl_eq (n : Nat) (x : zl_a.den) : runF zl_g (zl_an n) Tryz.f70 zl_a zl_r x = zl_m n x.1 x.2.1 := by kernel_rfl
def zl_b0 (l1_0 : List Int) (c2_0 : Cha) (i5_0 : Int) (v1 : Int) : Option ((Int × Unit) ⊕ Unit) :=
  (bif decide (v1 < (0 : Int)) then (some (Sum.inl (((10 : Int), ())))) else (Option.bind (idx l1_0 i5_0) fun (v2 : Int) => (bif decide (v2 ≥ (↑c2_0.1.length : Int)) then (some (Sum.inl (((10 : Int), ())))) else (some (Sum.inr ())))))
def zl_f0 (l1_0 : List Int) (c2_0 : Cha) : Option (Int × Unit) :=
  (some (((0 : Int), ())))
theorem zl_m_w0_le (n : Nat) (hn : big ≤ n)  (l1_0 : List Int) (c2_0 : Cha) (hx : List.length (l1_0) < lenMax) : LeF some (loopL (fun i__ e__ s__ => zl_b0 l1_0 c2_0 i__ e__) (fun s__ => zl_f0 l1_0 c2_0) 0 (l1_0) ()) (zl_m_w0 n n l1_0 c2_0 0) := by
  refine loopL_le (f := some) (W := fun k__ i__ s__ => zl_m_w0 n k__ l1_0 c2_0 i__) (body := (fun i__ e__ s__ => zl_b0 l1_0 c2_0 i__ e__)) (fin := (fun s__ => zl_f0 l1_0 c2_0)) (fun k__ i__ s__ => ?_) hx () n (by unfold big at hn; unfold lenMax at hx; omega)
  show LeF _ _ (zl_m_l0 n (zl_m_w0 n k__) l1_0 c2_0 i__)
  exact leCond (leBind fun v1 => (leCond (leSome rfl) (leBind fun v2 => (leCond (leSome rfl) (leSome rfl))))) (leMap (leSome rfl))
def zl_M (c : Cha) (l : List Int) : Option (Int × Unit) :=
  (bif decide ((↑l.length : Int) > (16 : Int)) then (some (((5 : Int), ()))) else (bif decide (List.length (l) < lenMax) then loopL (fun i__ e__ s__ => zl_b0 (l) (c) i__ e__) (fun s__ => zl_f0 (l) (c)) 0 (l) () else none))
theorem zl_run (c : Cha) (l : List Int) (y : Int × Unit) (h : zl_M c l = some y) : ∃ n, zl_m n c l = some y :=
  ⟨big, LeF.top (show LeF some (zl_M c l) (zl_m big c l) from (fun (n : Nat) (hn : big ≤ n) => show LeF some (zl_M c l) (zl_m n c l) from (leCond (leSome rfl) (leGuard fun hx => by apply zl_m_w0_le n hn; exact hx))) big (Nat.le_refl _)) h⟩
def zl_e : Entry := { f := 70, args := zl_a, ress := zl_r, m := fun x => zl_M x.1 x.2.1 }
theorem zl_ok : FnOK Tryz.prog zl_e := fn_ok (g := zl_g) (fn := Tryz.f70) hmixed tabOk eNil (by kernel_rfl) (by kernel_rfl) (by kernel_rfl) (fun x y h => let ⟨n, hn⟩ := zl_run x.1 x.2.1 y h; ⟨zl_an n, iNil, (zl_eq n x).trans hn⟩)
abbrev zw_a : Ty := .pair t50 (.pair t50 .unit)
abbrev zw_r : Ty := .pair t4 .unit
def zw_g : G := { T := T, E := [], muts := [], fz := [] }
def zw_k : List (List Nat) := [[0, 1, 5]]
def zw_an (n : Nat) : Ann := { keep := zw_k, fuel := n, inl := [], deep := 0 }
def zw_m_l0 (n : Nat) (r0 : List (List UInt8 × Int × Unit) → List (List UInt8 × Int × Unit) → Int → Option (Bool × Unit)) (a0_0 : List (List UInt8 × Int × Unit)) (b1_0 : List (List UInt8 × Int × Unit)) (i5_0 : Int) : Option (Bool × Unit) :=
  (bif decide (i5_0 < (↑a0_0.length : Int)) then (Option.bind (idx a0_0 i5_0) fun (v1 : List UInt8 × Int × Unit) => (Option.bind (idx b1_0 i5_0) fun (v2 : List UInt8 × Int × Unit) => (bif !eqV (Ty.str.pair ((Ty.int IntKind.i64).pair Ty.unit)) v1 v2 then some (Bool.false, ()) else r0 a0_0 b1_0 (IntKind.i64.wrap (i5_0 + (1 : Int)))))) else some (Bool.true, ()))
def zw_m_w0 (n : Nat)  (k : Nat) (a0_0 : List (List UInt8 × Int × Unit)) (b1_0 : List (List UInt8 × Int × Unit)) (i5_0 : Int) : Option (Bool × Unit) :=
  iter (fun r y => zw_m_l0 n (fun a0_0 b1_0 i5_0 => r ((a0_0, (b1_0, (i5_0, ()))), ((), ()))) y.1.1 y.1.2.1 y.1.2.2.1) k ((a0_0, (b1_0, (i5_0, ()))), ((), ()))
def zw_m (n : Nat) (a : List (List UInt8 × Int × Unit)) (b : List (List UInt8 × Int × Unit)) : Option (Bool × Unit) :=
  (bif (↑a.length : Int) != (↑b.length : Int) then some (Bool.false, ()) else (zw_m_w0 n n (a) (b) ((0 : Int))))
theorem zw_eq (n : Nat) (x : zw_a.den) : runF zw_g (zw_an n) Tryz.f73 zw_a zw_r x = zw_m n x.1 x.2.1 := by kernel_rfl
def zw_b0 (a0_0 : List (List UInt8 × Int × Unit)) (b1_0 : List (List UInt8 × Int × Unit)) (i5_0 : Int) (v1 : List UInt8 × Int × Unit) : Option ((Bool × Unit) ⊕ Unit) :=
  (Option.bind (idx b1_0 i5_0) fun (v2 : List UInt8 × Int × Unit) => (bif !eqV (Ty.str.pair ((Ty.int IntKind.i64).pair Ty.unit)) v1 v2 then (some (Sum.inl ((Bool.false, ())))) else (some (Sum.inr ()))))
def zw_f0 (a0_0 : List (List UInt8 × Int × Unit)) (b1_0 : List (List UInt8 × Int × Unit)) : Option (Bool × Unit) :=
  (some ((Bool.true, ())))
theorem zw_m_w0_le (n : Nat) (hn : big ≤ n)  (a0_0 : List (List UInt8 × Int × Unit)) (b1_0 : List (List UInt8 × Int × Unit)) (hx : List.length (a0_0) < lenMax) : LeF some (loopL (fun i__ e__ s__ => zw_b0 a0_0 b1_0 i__ e__) (fun s__ => zw_f0 a0_0 b1_0) 0 (a0_0) ()) (zw_m_w0 n n a0_0 b1_0 0) := by
  refine loopL_le (f := some) (W := fun k__ i__ s__ => zw_m_w0 n k__ a0_0 b1_0 i__) (body := (fun i__ e__ s__ => zw_b0 a0_0 b1_0 i__ e__)) (fin := (fun s__ => zw_f0 a0_0 b1_0)) (fun k__ i__ s__ => ?_) hx () n (by unfold big at hn; unfold lenMax at hx; omega)
  show LeF _ _ (zw_m_l0 n (zw_m_w0 n k__) a0_0 b1_0 i__)
  exact leCond (leBind fun v1 => (leBind fun v2 => (leCond (leSome rfl) (leSome rfl)))) (leMap (leSome rfl))
def zw_M (a : List (List UInt8 × Int × Unit)) (b : List (List UInt8 × Int × Unit)) : Option (Bool × Unit) :=
  (bif (↑a.length : Int) != (↑b.length : Int) then (some ((Bool.false, ()))) else (bif decide (List.length (a) < lenMax) then loopL (fun i__ e__ s__ => zw_b0 (a) (b) i__ e__) (fun s__ => zw_f0 (a) (b)) 0 (a) () else none))
theorem zw_run (a : List (List UInt8 × Int × Unit)) (b : List (List UInt8 × Int × Unit)) (y : Bool × Unit) (h : zw_M a b = some y) : ∃ n, zw_m n a b = some y :=
  ⟨big, LeF.top (show LeF some (zw_M a b) (zw_m big a b) from (fun (n : Nat) (hn : big ≤ n) => show LeF some (zw_M a b) (zw_m n a b) from (leCond (leSome rfl) (leGuard fun hx => by apply zw_m_w0_le n hn; exact hx))) big (Nat.le_refl _)) h⟩
def zw_e : Entry := { f := 73, args := zw_a, ress := zw_r, m := fun x => zw_M x.1 x.2.1 }
theorem zw_ok : FnOK Tryz.prog zw_e := fn_ok (g := zw_g) (fn := Tryz.f73) hmixed tabOk eNil (by kernel_rfl) (by kernel_rfl) (by kernel_rfl) (fun x y h => let ⟨n, hn⟩ := zw_run x.1 x.2.1 y h; ⟨zw_an n, iNil, (zw_eq n x).trans hn⟩)
abbrev z0O_a : Ty := .pair t57 .unit
abbrev z0O_r : Ty := .pair t50 .unit
def z0O_g : G := { T := T, E := [], muts := [3], fz := [] }
def z0O_k : List (List Nat) := [[3, 6, 7, 8]]
def z0O_an (n : Nat) : Ann := { keep := z0O_k, fuel := n, inl := [], deep := 0 }
def z0O_m_l0 (n : Nat) (r0 : List (List UInt8 × Int × Unit) → Int → Int → List (List UInt8 × Int × Unit) → Option (List (List UInt8 × Int × Unit) × Unit)) (t6_0 : List (List UInt8 × Int × Unit)) (t7_0 : Int) (t8_0 : Int) (c0_0 : List (List UInt8 × Int × Unit)) : Option (List (List UInt8 × Int × Unit) × Unit) :=
  (bif decide (t8_0 < t7_0) then (Option.bind (idx t6_0 t8_0) fun (v1 : List UInt8 × Int × Unit) => (bif decide (c0_0.length + (1 : Nat) ≤ memMax) then r0 t6_0 t7_0 (IntKind.i64.wrap (t8_0 + (1 : Int))) (c0_0 ++ [(v1.1, v1.2.1, ())]) else none)) else some (c0_0, ()))
def z0O_m_w0 (n : Nat)  (k : Nat) (t6_0 : List (List UInt8 × Int × Unit)) (t7_0 : Int) (t8_0 : Int) (c0_0 : List (List UInt8 × Int × Unit)) : Option (List (List UInt8 × Int × Unit) × Unit) :=
  iter (fun r y => z0O_m_l0 n (fun t6_0 t7_0 t8_0 c0_0 => r ((t6_0, (t7_0, (t8_0, ()))), ((c0_0, ()), ()))) y.1.1 y.1.2.1 y.1.2.2.1 y.2.1.1) k ((t6_0, (t7_0, (t8_0, ()))), ((c0_0, ()), ()))
def z0O_m (n : Nat) (l : List (List UInt8 × Int × Unit)) : Option (List (List UInt8 × Int × Unit) × Unit) :=
  (z0O_m_w0 n n (l) ((↑l.length : Int)) ((0 : Int)) ([]))
theorem z0O_eq (n : Nat) (x : z0O_a.den) : runF z0O_g (z0O_an n) Tryz.f74 z0O_a z0O_r x = z0O_m n x.1 := by kernel_rfl
def z0O_b0 (t6_0 : List (List UInt8 × Int × Unit)) (t8_0 : Int) (v1 : List UInt8 × Int × Unit) (c0_0 : List (List UInt8 × Int × Unit)) : Option ((List (List UInt8 × Int × Unit) × Unit) ⊕ (List (List UInt8 × Int × Unit))) :=
  (bif decide (c0_0.length + (1 : Nat) ≤ memMax) then (some (Sum.inr (c0_0 ++ [(v1.1, v1.2.1, ())]))) else none)
def z0O_f0 (t6_0 : List (List UInt8 × Int × Unit)) (c0_0 : List (List UInt8 × Int × Unit)) : Option (List (List UInt8 × Int × Unit) × Unit) :=
  (some ((c0_0, ())))
theorem z0O_m_w0_le (n : Nat) (hn : big ≤ n)  (t6_0 : List (List UInt8 × Int × Unit)) (c0_0 : List (List UInt8 × Int × Unit)) (hx : List.length (t6_0) < lenMax) : LeF some (loopL (fun i__ e__ s__ => z0O_b0 t6_0 i__ e__ s__) (fun s__ => z0O_f0 t6_0 s__) 0 (t6_0) c0_0) (z0O_m_w0 n n t6_0 (List.length (t6_0) : Int) 0 c0_0) := by
  refine loopL_le (f := some) (W := fun k__ i__ s__ => z0O_m_w0 n k__ t6_0 (List.length (t6_0) : Int) i__ s__) (body := (fun i__ e__ s__ => z0O_b0 t6_0 i__ e__ s__)) (fin := (fun s__ => z0O_f0 t6_0 s__)) (fun k__ i__ s__ => ?_) hx c0_0 n (by unfold big at hn; unfold lenMax at hx; omega)
  show LeF _ _ (z0O_m_l0 n (z0O_m_w0 n k__) t6_0 (List.length (t6_0) : Int) i__ s__)
  exact leCond (leBind fun v1 => (leCond (leSome rfl) leNone)) (leMap (leSome rfl))
def z0O_M (l : List (List UInt8 × Int × Unit)) : Option (List (List UInt8 × Int × Unit) × Unit) :=
  (bif decide (List.length (l) < lenMax) then loopL (fun i__ e__ s__ => z0O_b0 (l) i__ e__ s__) (fun s__ => z0O_f0 (l) s__) 0 (l) ([]) else none)
theorem z0O_run (l : List (List UInt8 × Int × Unit)) (y : List (List UInt8 × Int × Unit) × Unit) (h : z0O_M l = some y) : ∃ n, z0O_m n l = some y :=
  ⟨big, LeF.top (show LeF some (z0O_M l) (z0O_m big l) from (fun (n : Nat) (hn : big ≤ n) => show LeF some (z0O_M l) (z0O_m n l) from (leGuard fun hx => by apply z0O_m_w0_le n hn; exact hx)) big (Nat.le_refl _)) h⟩
def z0O_e : Entry := { f := 74, args := z0O_a, ress := z0O_r, m := fun x => z0O_M x.1 }
theorem z0O_ok : FnOK Tryz.prog z0O_e := fn_ok (g := z0O_g) (fn := Tryz.f74) hmixed tabOk eNil (by kernel_rfl) (by kernel_rfl) (by kernel_rfl) (fun x y h => let ⟨n, hn⟩ := z0O_run x.1 y h; ⟨z0O_an n, iNil, (z0O_eq n x).trans hn⟩)
abbrev z0p_a : Ty := .unit
abbrev z0p_r : Ty := .pair t35 .unit
def z0p_g : G := { T := T, E := [], muts := [], fz := [] }
def z0p_k : List (List Nat) := []
def z0p_an (n : Nat) : Ann := { keep := z0p_k, fuel := n, inl := [], deep := 0 }
def z0p_m (n : Nat)  : Option (Cha × Unit) :=
  some (([([(119 : UInt8), (111 : UInt8), (114 : UInt8), (107 : UInt8)], (-1 : Int), (1 : Int), Bool.false, ()), ([(111 : UInt8), (112 : UInt8), (101 : UInt8), (110 : UInt8)], (0 : Int), (-1 : Int), Bool.false, ()), ([(108 : UInt8), (111 : UInt8), (119 : UInt8), (101 : UInt8), (114 : UInt8)], (0 : Int), (-1 : Int), Bool.true, ()), ([(99 : UInt8), (108 : UInt8), (111 : UInt8), (115 : UInt8), (101 : UInt8), (100 : UInt8)], (0 : Int), (-1 : Int), Bool.false, ()), ([(97 : UInt8), (108 : UInt8), (97 : UInt8), (114 : UInt8), (109 : UInt8)], (-1 : Int), (-1 : Int), Bool.false, ())], [((1 : Int), [(99 : UInt8), (108 : UInt8), (111 : UInt8), (115 : UInt8), (101 : UInt8)], (2 : Int), (1 : Int), (0 : Int), ()), ((2 : Int), [(100 : UInt8), (111 : UInt8), (110 : UInt8), (101 : UInt8)], (3 : Int), (0 : Int), (0 : Int), ()), ((3 : Int), [(111 : UInt8), (112 : UInt8), (101 : UInt8), (110 : UInt8)], (1 : Int), (0 : Int), (0 : Int), ()), ((0 : Int), [(102 : UInt8), (97 : UInt8), (105 : UInt8), (108 : UInt8)], (4 : Int), (0 : Int), (0 : Int), ())], ()), ())
theorem z0p_eq (n : Nat) (x : z0p_a.den) : runF z0p_g (z0p_an n) Tryz.f85 z0p_a z0p_r x = z0p_m n := by kernel_rfl
def z0p  : (Cha × Unit) :=
  (([([(119 : UInt8), (111 : UInt8), (114 : UInt8), (107 : UInt8)], (-1 : Int), (1 : Int), Bool.false, ()), ([(111 : UInt8), (112 : UInt8), (101 : UInt8), (110 : UInt8)], (0 : Int), (-1 : Int), Bool.false, ()), ([(108 : UInt8), (111 : UInt8), (119 : UInt8), (101 : UInt8), (114 : UInt8)], (0 : Int), (-1 : Int), Bool.true, ()), ([(99 : UInt8), (108 : UInt8), (111 : UInt8), (115 : UInt8), (101 : UInt8), (100 : UInt8)], (0 : Int), (-1 : Int), Bool.false, ()), ([(97 : UInt8), (108 : UInt8), (97 : UInt8), (114 : UInt8), (109 : UInt8)], (-1 : Int), (-1 : Int), Bool.false, ())], [((1 : Int), [(99 : UInt8), (108 : UInt8), (111 : UInt8), (115 : UInt8), (101 : UInt8)], (2 : Int), (1 : Int), (0 : Int), ()), ((2 : Int), [(100 : UInt8), (111 : UInt8), (110 : UInt8), (101 : UInt8)], (3 : Int), (0 : Int), (0 : Int), ()), ((3 : Int), [(111 : UInt8), (112 : UInt8), (101 : UInt8), (110 : UInt8)], (1 : Int), (0 : Int), (0 : Int), ()), ((0 : Int), [(102 : UInt8), (97 : UInt8), (105 : UInt8), (108 : UInt8)], (4 : Int), (0 : Int), (0 : Int), ())], ()), ())
abbrev z0p_M  : Option (Cha × Unit) := some (z0p)
theorem z0p_run  (y : Cha × Unit) (h : z0p_M = some y) : ∃ n, z0p_m n = some y :=
  ⟨0, by rw [← h]; show z0p_m 0 = some (z0p); unfold z0p_m z0p; first | rfl | (simp only [cond_some]; done) | (simp only [cond_some]; rfl)⟩
def z0p_e : Entry := { f := 85, args := z0p_a, ress := z0p_r, m := fun x => z0p_M, ex := some ⟨t35, doorV⟩ }
theorem z0p_ok : FnOK Tryz.prog z0p_e := fn_ok (g := z0p_g) (fn := Tryz.f85) hmixed tabOk eNil (by kernel_rfl) (by kernel_rfl) (by kernel_rfl) (fun x y h => let ⟨n, hn⟩ := z0p_run y h; ⟨z0p_an n, iNil, (z0p_eq n x).trans hn⟩) rfl (fun q h => by cases h; exact door_ex)
abbrev zo_a : Ty := .pair t35 (.pair t3 .unit)
abbrev zo_r : Ty := .pair t3 .unit
def zo_g : G := { T := T, E := [], muts := [], fz := [] }
def zo_k : List (List Nat) := [[1, 2]]
def zo_an (n : Nat) : Ann := { keep := zo_k, fuel := n, inl := [], deep := 0 }
def zo_m_l0 (n : Nat) (r0 : Int → Cha → Option (Int × Unit)) (state1_0 : Int) (c2_0 : Cha) : Option (Int × Unit) :=
  (Option.bind (idx c2_0.1 state1_0) fun (v1 : Sta) => (bif v1.2.2.1 != (-1 : Int) then (Option.bind (idx c2_0.1 state1_0) fun (v2 : Sta) => r0 v2.2.2.1 c2_0) else some (state1_0, ())))
def zo_m_w0 (n : Nat)  (k : Nat) (state1_0 : Int) (c2_0 : Cha) : Option (Int × Unit) :=
  iter (fun r y => zo_m_l0 n (fun state1_0 c2_0 => r ((state1_0, (c2_0, ())), ((), ()))) y.1.1 y.1.2.1) k ((state1_0, (c2_0, ())), ((), ()))
def zo_m (n : Nat) (c : Cha) (state : Int) : Option (Int × Unit) :=
  (zo_m_w0 n n (state) (c))
theorem zo_eq (n : Nat) (x : zo_a.den) : runF zo_g (zo_an n) Tryz.f88 zo_a zo_r x = zo_m n x.1 x.2.1 := by kernel_rfl
def zo_b0 (c2_0 : Cha) (state1_0 : Int) : Option ((Int × Unit) ⊕ (Int)) :=
  (Option.bind (idx c2_0.1 state1_0) fun (v1 : Sta) => (bif v1.2.2.1 != (-1 : Int) then (Option.bind (idx c2_0.1 state1_0) fun (v2 : Sta) => (some (Sum.inr (v2.2.2.1)))) else (some (Sum.inl ((state1_0, ()))))))
theorem zo_m_w0_le (n : Nat) (hn : big ≤ n)  (c2_0 : Cha) (state1_0 : Int) : LeF some (loopW (fun s__ => zo_b0 c2_0 s__) wMax state1_0) (zo_m_w0 n n state1_0 c2_0) := by
  refine loopW_le (f := some) (W := fun k__ s__ => zo_m_w0 n k__ s__ c2_0) (body := (fun s__ => zo_b0 c2_0 s__)) (fun k__ s__ => ?_) wMax n state1_0 (by unfold big at hn; unfold wMax; omega)
  show LeF _ _ (zo_m_l0 n (zo_m_w0 n k__) s__ c2_0)
  exact (leBind fun v1 => (leCond (leBind fun v2 => (leSome rfl)) (leSome rfl)))
def zo_M (c : Cha) (state : Int) : Option (Int × Unit) :=
  (loopW (fun s__ => zo_b0 (c) s__) wMax (state))
theorem zo_run (c : Cha) (state : Int) (y : Int × Unit) (h : zo_M c state = some y) : ∃ n, zo_m n c state = some y :=
  ⟨big, LeF.top (show LeF some (zo_M c state) (zo_m big c state) from (fun (n : Nat) (hn : big ≤ n) => show LeF some (zo_M c state) (zo_m n c state) from (by apply zo_m_w0_le n hn)) big (Nat.le_refl _)) h⟩
def zo_e : Entry := { f := 88, args := zo_a, ress := zo_r, m := fun x => zo_M x.1 x.2.1 }
theorem zo_ok : FnOK Tryz.prog zo_e := fn_ok (g := zo_g) (fn := Tryz.f88) hmixed tabOk eNil (by kernel_rfl) (by kernel_rfl) (by kernel_rfl) (fun x y h => let ⟨n, hn⟩ := zo_run x.1 x.2.1 y h; ⟨zo_an n, iNil, (zo_eq n x).trans hn⟩)
abbrev z0C_a : Ty := .pair t25 (.pair t3 (.pair t3 .unit))
abbrev z0C_r : Ty := .pair t3 (.pair t4 .unit)
def z0C_g : G := { T := T, E := [], muts := [], fz := [] }
def z0C_k : List (List Nat) := [[1, 2, 3, 8, 9, 10]]
def z0C_an (n : Nat) : Ann := { keep := z0C_k, fuel := n, inl := [], deep := 0 }
def z0C_m_l0 (n : Nat) (r0 : Int → Int → Cha → Int → Bool → Int → Option (Int × Bool × Unit)) (state1_0 : Int) (index2_0 : Int) (c3_0 : Cha) (n8_0 : Int) (is9_0 : Bool) (i10_0 : Int) : Option (Int × Bool × Unit) :=
  (bif decide (i10_0 < (↑c3_0.1.length : Int)) then (Option.bind (idx c3_0.1 i10_0) fun (v1 : Sta) => (bif v1.2.1 == state1_0 then (bif is9_0 then r0 state1_0 index2_0 c3_0 (IntKind.i64.wrap (n8_0 + (1 : Int))) Bool.true (IntKind.i64.wrap (i10_0 + (1 : Int))) else r0 state1_0 index2_0 c3_0 (IntKind.i64.wrap (n8_0 + (1 : Int))) (i10_0 == index2_0) (IntKind.i64.wrap (i10_0 + (1 : Int)))) else r0 state1_0 index2_0 c3_0 n8_0 is9_0 (IntKind.i64.wrap (i10_0 + (1 : Int))))) else some (n8_0, is9_0, ()))
def z0C_m_w0 (n : Nat)  (k : Nat) (state1_0 : Int) (index2_0 : Int) (c3_0 : Cha) (n8_0 : Int) (is9_0 : Bool) (i10_0 : Int) : Option (Int × Bool × Unit) :=
  iter (fun r y => z0C_m_l0 n (fun state1_0 index2_0 c3_0 n8_0 is9_0 i10_0 => r ((state1_0, (index2_0, (c3_0, (n8_0, (is9_0, (i10_0, ())))))), ((), ()))) y.1.1 y.1.2.1 y.1.2.2.1 y.1.2.2.2.1 y.1.2.2.2.2.1 y.1.2.2.2.2.2.1) k ((state1_0, (index2_0, (c3_0, (n8_0, (is9_0, (i10_0, ())))))), ((), ()))
def z0C_m (n : Nat) (c : Cha) (state : Int) (index : Int) : Option (Int × Bool × Unit) :=
  (z0C_m_w0 n n (state) (index) (c) ((0 : Int)) (Bool.false) ((0 : Int)))
theorem z0C_eq (n : Nat) (x : z0C_a.den) : runF z0C_g (z0C_an n) Tryz.f90 z0C_a z0C_r x = z0C_m n x.1 x.2.1 x.2.2.1 := by kernel_rfl
def z0C_b0 (state1_0 : Int) (index2_0 : Int) (c3_0 : Cha) (i10_0 : Int) (v1 : Sta) (n8_0 : Int) (is9_0 : Bool) : Option ((Int × Bool × Unit) ⊕ (Int × Bool)) :=
  (bif v1.2.1 == state1_0 then (bif is9_0 then (some (Sum.inr ((IntKind.i64.wrap (n8_0 + (1 : Int))), (Bool.true)))) else (some (Sum.inr ((IntKind.i64.wrap (n8_0 + (1 : Int))), (i10_0 == index2_0))))) else (some (Sum.inr ((n8_0), (is9_0)))))
def z0C_f0 (state1_0 : Int) (index2_0 : Int) (c3_0 : Cha) (n8_0 : Int) (is9_0 : Bool) : Option (Int × Bool × Unit) :=
  (some ((n8_0, is9_0, ())))
theorem z0C_m_w0_le (n : Nat) (hn : big ≤ n)  (state1_0 : Int) (index2_0 : Int) (c3_0 : Cha) (n8_0 : Int) (is9_0 : Bool) (hx : List.length (c3_0.1) < lenMax) : LeF some (loopL (fun i__ e__ s__ => z0C_b0 state1_0 index2_0 c3_0 i__ e__ s__.1 s__.2) (fun s__ => z0C_f0 state1_0 index2_0 c3_0 s__.1 s__.2) 0 (c3_0.1) (n8_0, is9_0)) (z0C_m_w0 n n state1_0 index2_0 c3_0 n8_0 is9_0 0) := by
  refine loopL_le (f := some) (W := fun k__ i__ s__ => z0C_m_w0 n k__ state1_0 index2_0 c3_0 s__.1 s__.2 i__) (body := (fun i__ e__ s__ => z0C_b0 state1_0 index2_0 c3_0 i__ e__ s__.1 s__.2)) (fin := (fun s__ => z0C_f0 state1_0 index2_0 c3_0 s__.1 s__.2)) (fun k__ i__ s__ => ?_) hx (n8_0, is9_0) n (by unfold big at hn; unfold lenMax at hx; omega)
  show LeF _ _ (z0C_m_l0 n (z0C_m_w0 n k__) state1_0 index2_0 c3_0 s__.1 s__.2 i__)
  exact leCond (leBind fun v1 => (leCond (leCond (leSome rfl) (leSome rfl)) (leSome rfl))) (leMap (leSome rfl))
def z0C_M (c : Cha) (state : Int) (index : Int) : Option (Int × Bool × Unit) :=
  (bif decide (List.length (c.1) < lenMax) then loopL (fun i__ e__ s__ => z0C_b0 (state) (index) (c) i__ e__ s__.1 s__.2) (fun s__ => z0C_f0 (state) (index) (c) s__.1 s__.2) 0 (c.1) (((0 : Int)), (Bool.false)) else none)
theorem z0C_run (c : Cha) (state : Int) (index : Int) (y : Int × Bool × Unit) (h : z0C_M c state index = some y) : ∃ n, z0C_m n c state index = some y :=
  ⟨big, LeF.top (show LeF some (z0C_M c state index) (z0C_m big c state index) from (fun (n : Nat) (hn : big ≤ n) => show LeF some (z0C_M c state index) (z0C_m n c state index) from (leGuard fun hx => by apply z0C_m_w0_le n hn; exact hx)) big (Nat.le_refl _)) h⟩
def z0C_e : Entry := { f := 90, args := z0C_a, ress := z0C_r, m := fun x => z0C_M x.1 x.2.1 x.2.2.1 }
theorem z0C_ok : FnOK Tryz.prog z0C_e := fn_ok (g := z0C_g) (fn := Tryz.f90) hmixed tabOk eNil (by kernel_rfl) (by kernel_rfl) (by kernel_rfl) (fun x y h => let ⟨n, hn⟩ := z0C_run x.1 x.2.1 x.2.2.1 y h; ⟨z0C_an n, iNil, (z0C_eq n x).trans hn⟩)
abbrev z0g_a : Ty := .pair t28 .unit
abbrev z0g_r : Ty := .pair t3 .unit
def z0g_g : G := { T := T, E := [], muts := [], fz := [] }
def z0g_k : List (List Nat) := [[0, 3]]
def z0g_an (n : Nat) : Ann := { keep := z0g_k, fuel := n, inl := [], deep := 0 }
def z0g_m_l0 (n : Nat) (r0 : List Int → Int → Option (Int × Unit)) (l0_0 : List Int) (i3_0 : Int) : Option (Int × Unit) :=
  (bif decide (i3_0 < (↑l0_0.length : Int)) then (Option.bind (idx l0_0 i3_0) fun (v1 : Int) => (bif v1 != (0 : Int) then (Option.bind (idx l0_0 i3_0) fun (v2 : Int) => some (v2, ())) else r0 l0_0 (IntKind.i64.wrap (i3_0 + (1 : Int))))) else some ((0 : Int), ()))
def z0g_m_w0 (n : Nat)  (k : Nat) (l0_0 : List Int) (i3_0 : Int) : Option (Int × Unit) :=
  iter (fun r y => z0g_m_l0 n (fun l0_0 i3_0 => r ((l0_0, (i3_0, ())), ((), ()))) y.1.1 y.1.2.1) k ((l0_0, (i3_0, ())), ((), ()))
def z0g_m (n : Nat) (l : List Int) : Option (Int × Unit) :=
  (z0g_m_w0 n n (l) ((0 : Int)))
theorem z0g_eq (n : Nat) (x : z0g_a.den) : runF z0g_g (z0g_an n) Tryz.f91 z0g_a z0g_r x = z0g_m n x.1 := by kernel_rfl
def z0g_b0 (l0_0 : List Int) (i3_0 : Int) (v1 : Int) : Option ((Int × Unit) ⊕ Unit) :=
  (bif v1 != (0 : Int) then (Option.bind (idx l0_0 i3_0) fun (v2 : Int) => (some (Sum.inl ((v2, ()))))) else (some (Sum.inr ())))
def z0g_f0 (l0_0 : List Int) : Option (Int × Unit) :=
  (some (((0 : Int), ())))
theorem z0g_m_w0_le (n : Nat) (hn : big ≤ n)  (l0_0 : List Int) (hx : List.length (l0_0) < lenMax) : LeF some (loopL (fun i__ e__ s__ => z0g_b0 l0_0 i__ e__) (fun s__ => z0g_f0 l0_0) 0 (l0_0) ()) (z0g_m_w0 n n l0_0 0) := by
  refine loopL_le (f := some) (W := fun k__ i__ s__ => z0g_m_w0 n k__ l0_0 i__) (body := (fun i__ e__ s__ => z0g_b0 l0_0 i__ e__)) (fin := (fun s__ => z0g_f0 l0_0)) (fun k__ i__ s__ => ?_) hx () n (by unfold big at hn; unfold lenMax at hx; omega)
  show LeF _ _ (z0g_m_l0 n (z0g_m_w0 n k__) l0_0 i__)
  exact leCond (leBind fun v1 => (leCond (leBind fun v2 => (leSome rfl)) (leSome rfl))) (leMap (leSome rfl))
def z0g_M (l : List Int) : Option (Int × Unit) :=
  (bif decide (List.length (l) < lenMax) then loopL (fun i__ e__ s__ => z0g_b0 (l) i__ e__) (fun s__ => z0g_f0 (l)) 0 (l) () else none)
theorem z0g_run (l : List Int) (y : Int × Unit) (h : z0g_M l = some y) : ∃ n, z0g_m n l = some y :=
  ⟨big, LeF.top (show LeF some (z0g_M l) (z0g_m big l) from (fun (n : Nat) (hn : big ≤ n) => show LeF some (z0g_M l) (z0g_m n l) from (leGuard fun hx => by apply z0g_m_w0_le n hn; exact hx)) big (Nat.le_refl _)) h⟩
def z0g_e : Entry := { f := 91, args := z0g_a, ress := z0g_r, m := fun x => z0g_M x.1 }
theorem z0g_ok : FnOK Tryz.prog z0g_e := fn_ok (g := z0g_g) (fn := Tryz.f91) hmixed tabOk eNil (by kernel_rfl) (by kernel_rfl) (by kernel_rfl) (fun x y h => let ⟨n, hn⟩ := z0g_run x.1 y h; ⟨z0g_an n, iNil, (z0g_eq n x).trans hn⟩)
abbrev z0v_a : Ty := .pair t4 (.pair t3 .unit)
abbrev z0v_r : Ty := .pair t3 .unit
def z0v_g : G := { T := T, E := [], muts := [], fz := [] }
def z0v_k : List (List Nat) := []
def z0v_an (n : Nat) : Ann := { keep := z0v_k, fuel := n, inl := [], deep := 0 }
def z0v_m (n : Nat) (holds : Bool) (e : Int) : Option (Int × Unit) :=
  (bif holds then some (e, ()) else some ((0 : Int), ()))
theorem z0v_eq (n : Nat) (x : z0v_a.den) : runF z0v_g (z0v_an n) Tryz.f92 z0v_a z0v_r x = z0v_m n x.1 x.2.1 := by kernel_rfl
def z0v (holds : Bool) (e : Int) : (Int × Unit) :=
  (bif holds then (e, ()) else ((0 : Int), ()))
abbrev z0v_M (holds : Bool) (e : Int) : Option (Int × Unit) := some (z0v holds e)
theorem z0v_run (holds : Bool) (e : Int) (y : Int × Unit) (h : z0v_M holds e = some y) : ∃ n, z0v_m n holds e = some y :=
  ⟨0, by rw [← h]; show z0v_m 0 holds e = some (z0v holds e); unfold z0v_m z0v; first | rfl | (simp only [cond_some]; done) | (simp only [cond_some]; rfl)⟩
def z0v_e : Entry := { f := 92, args := z0v_a, ress := z0v_r, m := fun x => z0v_M x.1 x.2.1 }
theorem z0v_ok : FnOK Tryz.prog z0v_e := fn_ok (g := z0v_g) (fn := Tryz.f92) hmixed tabOk eNil (by kernel_rfl) (by kernel_rfl) (by kernel_rfl) (fun x y h => let ⟨n, hn⟩ := z0v_run x.1 x.2.1 y h; ⟨z0v_an n, iNil, (z0v_eq n x).trans hn⟩)
abbrev z0U_a : Ty := .pair t25 (.pair t3 .unit)
abbrev z0U_r : Ty := .pair t4 .unit
def z0U_g : G := { T := T, E := [], muts := [], fz := [] }
def z0U_k : List (List Nat) := []
def z0U_an (n : Nat) : Ann := { keep := z0U_k, fuel := n, inl := [], deep := 0 }
def z0U_m (n : Nat) (c : Cha) (i : Int) : Option (Bool × Unit) :=
  (Option.bind (idx c.1 i) fun (v0 : Sta) => some (v0.2.2.1 == (-1 : Int), ()))
theorem z0U_eq (n : Nat) (x : z0U_a.den) : runF z0U_g (z0U_an n) Tryz.f93 z0U_a z0U_r x = z0U_m n x.1 x.2.1 := by kernel_rfl
def z0U_M (c : Cha) (i : Int) : Option (Bool × Unit) := z0U_m 0 c i
theorem z0U_run (c : Cha) (i : Int) (y : Bool × Unit) (h : z0U_M c i = some y) : ∃ n, z0U_m n c i = some y := ⟨0, h⟩
def z0U_e : Entry := { f := 93, args := z0U_a, ress := z0U_r, m := fun x => z0U_M x.1 x.2.1 }
theorem z0U_ok : FnOK Tryz.prog z0U_e := fn_ok (g := z0U_g) (fn := Tryz.f93) hmixed tabOk eNil (by kernel_rfl) (by kernel_rfl) (by kernel_rfl) (fun x y h => let ⟨n, hn⟩ := z0U_run x.1 x.2.1 y h; ⟨z0U_an n, iNil, (z0U_eq n x).trans hn⟩)
abbrev z0F_a : Ty := .pair t37 (.pair t9 .unit)
abbrev z0F_r : Ty := .pair t4 .unit
def z0F_g : G := { T := T, E := [], muts := [], fz := [] }
def z0F_k : List (List Nat) := [[0, 1, 5]]
def z0F_an (n : Nat) : Ann := { keep := z0F_k, fuel := n, inl := [], deep := 0 }
def z0F_m_l0 (n : Nat) (r0 : List (List UInt8) → List UInt8 → Int → Option (Bool × Unit)) (l0_0 : List (List UInt8)) (s1_0 : List UInt8) (i5_0 : Int) : Option (Bool × Unit) :=
  (bif decide (i5_0 < (↑l0_0.length : Int)) then (Option.bind (idx l0_0 i5_0) fun (v1 : List UInt8) => (bif v1 == s1_0 then some (Bool.true, ()) else r0 l0_0 s1_0 (IntKind.i64.wrap (i5_0 + (1 : Int))))) else some (Bool.false, ()))
def z0F_m_w0 (n : Nat)  (k : Nat) (l0_0 : List (List UInt8)) (s1_0 : List UInt8) (i5_0 : Int) : Option (Bool × Unit) :=
  iter (fun r y => z0F_m_l0 n (fun l0_0 s1_0 i5_0 => r ((l0_0, (s1_0, (i5_0, ()))), ((), ()))) y.1.1 y.1.2.1 y.1.2.2.1) k ((l0_0, (s1_0, (i5_0, ()))), ((), ()))
def z0F_m (n : Nat) (l : List (List UInt8)) (s : List UInt8) : Option (Bool × Unit) :=
  (z0F_m_w0 n n (l) (s) ((0 : Int)))
theorem z0F_eq (n : Nat) (x : z0F_a.den) : runF z0F_g (z0F_an n) Tryz.f94 z0F_a z0F_r x = z0F_m n x.1 x.2.1 := by kernel_rfl
def z0F_b0 (l0_0 : List (List UInt8)) (s1_0 : List UInt8) (i5_0 : Int) (v1 : List UInt8) : Option ((Bool × Unit) ⊕ Unit) :=
  (bif v1 == s1_0 then (some (Sum.inl ((Bool.true, ())))) else (some (Sum.inr ())))
def z0F_f0 (l0_0 : List (List UInt8)) (s1_0 : List UInt8) : Option (Bool × Unit) :=
  (some ((Bool.false, ())))
theorem z0F_m_w0_le (n : Nat) (hn : big ≤ n)  (l0_0 : List (List UInt8)) (s1_0 : List UInt8) (hx : List.length (l0_0) < lenMax) : LeF some (loopL (fun i__ e__ s__ => z0F_b0 l0_0 s1_0 i__ e__) (fun s__ => z0F_f0 l0_0 s1_0) 0 (l0_0) ()) (z0F_m_w0 n n l0_0 s1_0 0) := by
  refine loopL_le (f := some) (W := fun k__ i__ s__ => z0F_m_w0 n k__ l0_0 s1_0 i__) (body := (fun i__ e__ s__ => z0F_b0 l0_0 s1_0 i__ e__)) (fin := (fun s__ => z0F_f0 l0_0 s1_0)) (fun k__ i__ s__ => ?_) hx () n (by unfold big at hn; unfold lenMax at hx; omega)
  show LeF _ _ (z0F_m_l0 n (z0F_m_w0 n k__) l0_0 s1_0 i__)
  exact leCond (leBind fun v1 => (leCond (leSome rfl) (leSome rfl))) (leMap (leSome rfl))
def z0F_M (l : List (List UInt8)) (s : List UInt8) : Option (Bool × Unit) :=
  (bif decide (List.length (l) < lenMax) then loopL (fun i__ e__ s__ => z0F_b0 (l) (s) i__ e__) (fun s__ => z0F_f0 (l) (s)) 0 (l) () else none)
theorem z0F_run (l : List (List UInt8)) (s : List UInt8) (y : Bool × Unit) (h : z0F_M l s = some y) : ∃ n, z0F_m n l s = some y :=
  ⟨big, LeF.top (show LeF some (z0F_M l s) (z0F_m big l s) from (fun (n : Nat) (hn : big ≤ n) => show LeF some (z0F_M l s) (z0F_m n l s) from (leGuard fun hx => by apply z0F_m_w0_le n hn; exact hx)) big (Nat.le_refl _)) h⟩
def z0F_e : Entry := { f := 94, args := z0F_a, ress := z0F_r, m := fun x => z0F_M x.1 x.2.1 }
theorem z0F_ok : FnOK Tryz.prog z0F_e := fn_ok (g := z0F_g) (fn := Tryz.f94) hmixed tabOk eNil (by kernel_rfl) (by kernel_rfl) (by kernel_rfl) (fun x y h => let ⟨n, hn⟩ := z0F_run x.1 x.2.1 y h; ⟨z0F_an n, iNil, (z0F_eq n x).trans hn⟩)
abbrev z0m_a : Ty := .pair t164 .unit
abbrev z0m_r : Ty := .pair t29 .unit
def z0m_g : G := { T := T, E := [], muts := [], fz := [] }
def z0m_k : List (List Nat) := [[5, 6, 7]]
def z0m_an (n : Nat) : Ann := { keep := z0m_k, fuel := n, inl := [], deep := 0 }
def z0m_m_l0 (n : Nat) (r0 : List Int → Int → Int → Option (Int × Unit)) (t5_0 : List Int) (t6_0 : Int) (t7_0 : Int) : Option (Int × Unit) :=
  (bif decide (t7_0 < t6_0) then (Option.bind (idx t5_0 t7_0) fun (v1 : Int) => (bif v1 != (0 : Int) then some (v1, ()) else r0 t5_0 t6_0 (IntKind.i64.wrap (t7_0 + (1 : Int))))) else some ((0 : Int), ()))
def z0m_m_w0 (n : Nat)  (k : Nat) (t5_0 : List Int) (t6_0 : Int) (t7_0 : Int) : Option (Int × Unit) :=
  iter (fun r y => z0m_m_l0 n (fun t5_0 t6_0 t7_0 => r ((t5_0, (t6_0, (t7_0, ()))), ((), ()))) y.1.1 y.1.2.1 y.1.2.2.1) k ((t5_0, (t6_0, (t7_0, ()))), ((), ()))
def z0m_m (n : Nat) (l : List Int) : Option (Int × Unit) :=
  (z0m_m_w0 n n (l) ((↑l.length : Int)) ((0 : Int)))
theorem z0m_eq (n : Nat) (x : z0m_a.den) : runF z0m_g (z0m_an n) Tryz.f95 z0m_a z0m_r x = z0m_m n x.1 := by kernel_rfl
def z0m_b0 (t5_0 : List Int) (t7_0 : Int) (v1 : Int) : Option ((Int × Unit) ⊕ Unit) :=
  (bif v1 != (0 : Int) then (some (Sum.inl ((v1, ())))) else (some (Sum.inr ())))
def z0m_f0 (t5_0 : List Int) : Option (Int × Unit) :=
  (some (((0 : Int), ())))
theorem z0m_m_w0_le (n : Nat) (hn : big ≤ n)  (t5_0 : List Int) (hx : List.length (t5_0) < lenMax) : LeF some (loopL (fun i__ e__ s__ => z0m_b0 t5_0 i__ e__) (fun s__ => z0m_f0 t5_0) 0 (t5_0) ()) (z0m_m_w0 n n t5_0 (List.length (t5_0) : Int) 0) := by
  refine loopL_le (f := some) (W := fun k__ i__ s__ => z0m_m_w0 n k__ t5_0 (List.length (t5_0) : Int) i__) (body := (fun i__ e__ s__ => z0m_b0 t5_0 i__ e__)) (fin := (fun s__ => z0m_f0 t5_0)) (fun k__ i__ s__ => ?_) hx () n (by unfold big at hn; unfold lenMax at hx; omega)
  show LeF _ _ (z0m_m_l0 n (z0m_m_w0 n k__) t5_0 (List.length (t5_0) : Int) i__)
  exact leCond (leBind fun v1 => (leCond (leSome rfl) (leSome rfl))) (leMap (leSome rfl))
def z0m_M (l : List Int) : Option (Int × Unit) :=
  (bif decide (List.length (l) < lenMax) then loopL (fun i__ e__ s__ => z0m_b0 (l) i__ e__) (fun s__ => z0m_f0 (l)) 0 (l) () else none)
theorem z0m_run (l : List Int) (y : Int × Unit) (h : z0m_M l = some y) : ∃ n, z0m_m n l = some y :=
  ⟨big, LeF.top (show LeF some (z0m_M l) (z0m_m big l) from (fun (n : Nat) (hn : big ≤ n) => show LeF some (z0m_M l) (z0m_m n l) from (leGuard fun hx => by apply z0m_m_w0_le n hn; exact hx)) big (Nat.le_refl _)) h⟩
def z0m_e : Entry := { f := 95, args := z0m_a, ress := z0m_r, m := fun x => z0m_M x.1 }
theorem z0m_ok : FnOK Tryz.prog z0m_e := fn_ok (g := z0m_g) (fn := Tryz.f95) hmixed tabOk eNil (by kernel_rfl) (by kernel_rfl) (by kernel_rfl) (fun x y h => let ⟨n, hn⟩ := z0m_run x.1 y h; ⟨z0m_an n, iNil, (z0m_eq n x).trans hn⟩)
end
end Go.Tw
end
section
set_option linter.all false
set_option maxRecDepth 1000000
namespace Go.Tw
open Go.Vx Go.Vx.B Go.Proofs
noncomputable section
abbrev z11_a : Ty := .pair t4 (.pair t29 .unit)
abbrev z11_r : Ty := .pair t29 .unit
def z11_g : G := { T := T, E := [], muts := [], fz := [] }
def z11_k : List (List Nat) := []
def z11_an (n : Nat) : Ann := { keep := z11_k, fuel := n, inl := [], deep := 0 }
def z11_m (n : Nat) (holds : Bool) (e : Int) : Option (Int × Unit) :=
  (bif holds then some (e, ()) else some ((0 : Int), ()))
theorem z11_eq (n : Nat) (x : z11_a.den) : runF z11_g (z11_an n) Tryz.f96 z11_a z11_r x = z11_m n x.1 x.2.1 := by kernel_rfl
def z11 (holds : Bool) (e : Int) : (Int × Unit) :=
  (bif holds then (e, ()) else ((0 : Int), ()))
abbrev z11_M (holds : Bool) (e : Int) : Option (Int × Unit) := some (z11 holds e)
theorem z11_run (holds : Bool) (e : Int) (y : Int × Unit) (h : z11_M holds e = some y) : ∃ n, z11_m n holds e = some y :=
  ⟨0, by rw [← h]; show z11_m 0 holds e = some (z11 holds e); unfold z11_m z11; first | rfl | (simp only [cond_some]; done) | (simp only [cond_some]; rfl)⟩
def z11_e : Entry := { f := 96, args := z11_a, ress := z11_r, m := fun x => z11_M x.1 x.2.1 }
theorem z11_ok : FnOK Tryz.prog z11_e := fn_ok (g := z11_g) (fn := Tryz.f96) hmixed tabOk eNil (by kernel_rfl) (by kernel_rfl) (by kernel_rfl) (fun x y h => let ⟨n, hn⟩ := z11_run x.1 x.2.1 y h; ⟨z11_an n, iNil, (z11_eq n x).trans hn⟩)
abbrev z6_a : Ty := .pair t33 (.pair t163 .unit)
abbrev z6_r : Ty := .pair t164 .unit
def z6_g : G := { T := T, E := [], muts := [5], fz := [] }
def z6_k : List (List Nat) := [[1, 5, 8, 9, 10]]
def z6_an (n : Nat) : Ann := { keep := z6_k, fuel := n, inl := [], deep := 0 }
def z6_m_l0 (n : Nat) (r0 : (Tra × Unit → Option (Int × Unit)) → List Tra → Int → Int → List Int → Option (List Int × Unit)) (of1_0 : Tra × Unit → Option (Int × Unit)) (t8_0 : List Tra) (t9_0 : Int) (t10_0 : Int) (c0_0 : List Int) : Option (List Int × Unit) :=
  (bif decide (t10_0 < t9_0) then (Option.bind (idx t8_0 t10_0) fun (v1 : Tra) => (Option.bind (of1_0 ((v1.1, v1.2.1, v1.2.2.1, v1.2.2.2.1, v1.2.2.2.2.1, ()), ())) fun (v2 : Int × Unit) => (bif decide (c0_0.length + (1 : Nat) ≤ memMax) then r0 of1_0 t8_0 t9_0 (IntKind.i64.wrap (t10_0 + (1 : Int))) (c0_0 ++ [v2.1]) else none))) else some (c0_0, ()))
def z6_m_w0 (n : Nat)  (k : Nat) (of1_0 : Tra × Unit → Option (Int × Unit)) (t8_0 : List Tra) (t9_0 : Int) (t10_0 : Int) (c0_0 : List Int) : Option (List Int × Unit) :=
  iter (fun r y => z6_m_l0 n (fun of1_0 t8_0 t9_0 t10_0 c0_0 => r ((of1_0, (t8_0, (t9_0, (t10_0, ())))), ((c0_0, ()), ()))) y.1.1 y.1.2.1 y.1.2.2.1 y.1.2.2.2.1 y.2.1.1) k ((of1_0, (t8_0, (t9_0, (t10_0, ())))), ((c0_0, ()), ()))
def z6_m (n : Nat) (l : List Tra) (of : Tra × Unit → Option (Int × Unit)) : Option (List Int × Unit) :=
  (z6_m_w0 n n (of) (l) ((↑l.length : Int)) ((0 : Int)) ([]))
theorem z6_eq (n : Nat) (x : z6_a.den) : runF z6_g (z6_an n) Tryz.f100 z6_a z6_r x = z6_m n x.1 x.2.1 := by kernel_rfl
def z6_b0 (of1_0 : Tra × Unit → Option (Int × Unit)) (t8_0 : List Tra) (t10_0 : Int) (v1 : Tra) (c0_0 : List Int) : Option ((List Int × Unit) ⊕ (List Int)) :=
  (Option.bind (of1_0 ((v1.1, v1.2.1, v1.2.2.1, v1.2.2.2.1, v1.2.2.2.2.1, ()), ())) fun (v2 : Int × Unit) => (bif decide (c0_0.length + (1 : Nat) ≤ memMax) then (some (Sum.inr (c0_0 ++ [v2.1]))) else none))
def z6_f0 (of1_0 : Tra × Unit → Option (Int × Unit)) (t8_0 : List Tra) (c0_0 : List Int) : Option (List Int × Unit) :=
  (some ((c0_0, ())))
theorem z6_m_w0_le (n : Nat) (hn : big ≤ n)  (of1_0 : Tra × Unit → Option (Int × Unit)) (t8_0 : List Tra) (c0_0 : List Int) (hx : List.length (t8_0) < lenMax) : LeF some (loopL (fun i__ e__ s__ => z6_b0 of1_0 t8_0 i__ e__ s__) (fun s__ => z6_f0 of1_0 t8_0 s__) 0 (t8_0) c0_0) (z6_m_w0 n n of1_0 t8_0 (List.length (t8_0) : Int) 0 c0_0) := by
  refine loopL_le (f := some) (W := fun k__ i__ s__ => z6_m_w0 n k__ of1_0 t8_0 (List.length (t8_0) : Int) i__ s__) (body := (fun i__ e__ s__ => z6_b0 of1_0 t8_0 i__ e__ s__)) (fin := (fun s__ => z6_f0 of1_0 t8_0 s__)) (fun k__ i__ s__ => ?_) hx c0_0 n (by unfold big at hn; unfold lenMax at hx; omega)
  show LeF _ _ (z6_m_l0 n (z6_m_w0 n k__) of1_0 t8_0 (List.length (t8_0) : Int) i__ s__)
  exact leCond (leBind fun v1 => (leBind fun v2 => (leCond (leSome rfl) leNone))) (leMap (leSome rfl))
def z6_M (l : List Tra) (of : Tra × Unit → Option (Int × Unit)) : Option (List Int × Unit) :=
  (bif decide (List.length (l) < lenMax) then loopL (fun i__ e__ s__ => z6_b0 (of) (l) i__ e__ s__) (fun s__ => z6_f0 (of) (l) s__) 0 (l) ([]) else none)
theorem z6_run (l : List Tra) (of : Tra × Unit → Option (Int × Unit)) (y : List Int × Unit) (h : z6_M l of = some y) : ∃ n, z6_m n l of = some y :=
  ⟨big, LeF.top (show LeF some (z6_M l of) (z6_m big l of) from (fun (n : Nat) (hn : big ≤ n) => show LeF some (z6_M l of) (z6_m n l of) from (leGuard fun hx => by apply z6_m_w0_le n hn; exact hx)) big (Nat.le_refl _)) h⟩
def z6_e : Entry := { f := 100, args := z6_a, ress := z6_r, m := fun x => z6_M x.1 x.2.1 }
theorem z6_ok : FnOK Tryz.prog z6_e := fn_ok (g := z6_g) (fn := Tryz.f100) hmixed tabOk eNil (by kernel_rfl) (by kernel_rfl) (by kernel_rfl) (fun x y h => let ⟨n, hn⟩ := z6_run x.1 x.2.1 y h; ⟨z6_an n, iNil, (z6_eq n x).trans hn⟩)
abbrev z0j_a : Ty := .pair t25 (.pair t3 (.pair t53 .unit))
abbrev z0j_r : Ty := .pair t3 (.pair t110 .unit)
def z0j_g : G := { T := T, E := [], muts := [], fz := [] }
def z0j_k : List (List Nat) := [[3, 5, 7, 8], [3, 5, 7, 8, 9, 10, 11]]
def z0j_an (n : Nat) : Ann := { keep := z0j_k, fuel := n, inl := [], deep := 0 }
def z0j_m_l1 (n : Nat) (r0 : Cha → List UInt8 × Int × Unit → Int → Int → List UInt8 → Int → Int → Int → Option (Int × Tra × Unit)) (r1 : Cha → List UInt8 × Int × Unit → Int → Int → Int → Int → List UInt8 → Int → Int → Int → Int → List UInt8 → Int → Int → Int → Option (Int × Tra × Unit)) (c3_1 : Cha) (in5_1 : List UInt8 × Int × Unit) (s8_1 : Int) (n9_1 : Int) (i11_1 : Int) (b0_0_1 : Int) (b0_1_1 : List UInt8) (b0_2_1 : Int) (b0_3_1 : Int) (b0_4_1 : Int) (b1_0_1 : Int) (b1_1_1 : List UInt8) (b1_2_1 : Int) (b1_3_1 : Int) (b1_4_1 : Int) : Option (Int × Tra × Unit) :=
  (bif decide (i11_1 < (↑c3_1.2.1.length : Int)) then (Option.bind (idx c3_1.2.1 i11_1) fun (v2 : Tra) => (bif v2.1 == s8_1 then (bif v2.2.1 == in5_1.1 then (bif bitsOp IntKind.i64 Go.BinOp.and in5_1.2.1 v2.2.2.2.1 == v2.2.2.2.2.1 then r1 c3_1 in5_1 s8_1 (IntKind.i64.wrap (n9_1 + (1 : Int))) (IntKind.i64.wrap (i11_1 + (1 : Int))) b0_0_1 b0_1_1 b0_2_1 b0_3_1 b0_4_1 v2.1 v2.2.1 v2.2.2.1 v2.2.2.2.1 v2.2.2.2.2.1 else r1 c3_1 in5_1 s8_1 n9_1 (IntKind.i64.wrap (i11_1 + (1 : Int))) b0_0_1 b0_1_1 b0_2_1 b0_3_1 b0_4_1 b1_0_1 b1_1_1 b1_2_1 b1_3_1 b1_4_1) else r1 c3_1 in5_1 s8_1 n9_1 (IntKind.i64.wrap (i11_1 + (1 : Int))) b0_0_1 b0_1_1 b0_2_1 b0_3_1 b0_4_1 b1_0_1 b1_1_1 b1_2_1 b1_3_1 b1_4_1) else r1 c3_1 in5_1 s8_1 n9_1 (IntKind.i64.wrap (i11_1 + (1 : Int))) b0_0_1 b0_1_1 b0_2_1 b0_3_1 b0_4_1 b1_0_1 b1_1_1 b1_2_1 b1_3_1 b1_4_1)) else (bif decide (n9_1 > (0 : Int)) then some (n9_1, (b1_0_1, b1_1_1, b1_2_1, b1_3_1, b1_4_1, ()), ()) else (Option.bind (idx c3_1.1 s8_1) fun (v17 : Sta) => r0 c3_1 in5_1 v17.2.1 b0_0_1 b0_1_1 b0_2_1 b0_3_1 b0_4_1)))
def z0j_m_w1 (n : Nat) (r0 : Cha → List UInt8 × Int × Unit → Int → Int → List UInt8 → Int → Int → Int → Option (Int × Tra × Unit)) (k : Nat) (c3_1 : Cha) (in5_1 : List UInt8 × Int × Unit) (s8_1 : Int) (n9_1 : Int) (i11_1 : Int) (b0_0_1 : Int) (b0_1_1 : List UInt8) (b0_2_1 : Int) (b0_3_1 : Int) (b0_4_1 : Int) (b1_0_1 : Int) (b1_1_1 : List UInt8) (b1_2_1 : Int) (b1_3_1 : Int) (b1_4_1 : Int) : Option (Int × Tra × Unit) :=
  iter (fun r y => z0j_m_l1 n r0 (fun c3_1 in5_1 s8_1 n9_1 i11_1 b0_0_1 b0_1_1 b0_2_1 b0_3_1 b0_4_1 b1_0_1 b1_1_1 b1_2_1 b1_3_1 b1_4_1 => r ((c3_1, (in5_1, (s8_1, (n9_1, (i11_1, ()))))), (((b0_0_1, (b0_1_1, (b0_2_1, (b0_3_1, (b0_4_1, ()))))), ((b1_0_1, (b1_1_1, (b1_2_1, (b1_3_1, (b1_4_1, ()))))), ())), ()))) y.1.1 y.1.2.1 y.1.2.2.1 y.1.2.2.2.1 y.1.2.2.2.2.1 y.2.1.1.1 y.2.1.1.2.1 y.2.1.1.2.2.1 y.2.1.1.2.2.2.1 y.2.1.1.2.2.2.2.1 y.2.1.2.1.1 y.2.1.2.1.2.1 y.2.1.2.1.2.2.1 y.2.1.2.1.2.2.2.1 y.2.1.2.1.2.2.2.2.1) k ((c3_1, (in5_1, (s8_1, (n9_1, (i11_1, ()))))), (((b0_0_1, (b0_1_1, (b0_2_1, (b0_3_1, (b0_4_1, ()))))), ((b1_0_1, (b1_1_1, (b1_2_1, (b1_3_1, (b1_4_1, ()))))), ())), ()))
def z0j_m_l0 (n : Nat) (r0 : Cha → List UInt8 × Int × Unit → Int → Int → List UInt8 → Int → Int → Int → Option (Int × Tra × Unit)) (c3_0 : Cha) (in5_0 : List UInt8 × Int × Unit) (s8_0 : Int) (b0_0_0 : Int) (b0_1_0 : List UInt8) (b0_2_0 : Int) (b0_3_0 : Int) (b0_4_0 : Int) : Option (Int × Tra × Unit) :=
  (bif decide (s8_0 ≥ (0 : Int)) then (z0j_m_w1 n r0 n (c3_0) (in5_0) (s8_0) ((0 : Int)) ((0 : Int)) (b0_0_0) (b0_1_0) (b0_2_0) (b0_3_0) (b0_4_0) ((0 : Int)) ([]) ((0 : Int)) ((0 : Int)) ((0 : Int))) else some ((0 : Int), ((0 : Int), [], (0 : Int), (0 : Int), (0 : Int), ()), ()))
def z0j_m_w0 (n : Nat)  (k : Nat) (c3_0 : Cha) (in5_0 : List UInt8 × Int × Unit) (s8_0 : Int) (b0_0_0 : Int) (b0_1_0 : List UInt8) (b0_2_0 : Int) (b0_3_0 : Int) (b0_4_0 : Int) : Option (Int × Tra × Unit) :=
  iter (fun r y => z0j_m_l0 n (fun c3_0 in5_0 s8_0 b0_0_0 b0_1_0 b0_2_0 b0_3_0 b0_4_0 => r ((c3_0, (in5_0, (s8_0, ()))), (((b0_0_0, (b0_1_0, (b0_2_0, (b0_3_0, (b0_4_0, ()))))), ()), ()))) y.1.1 y.1.2.1 y.1.2.2.1 y.2.1.1.1 y.2.1.1.2.1 y.2.1.1.2.2.1 y.2.1.1.2.2.2.1 y.2.1.1.2.2.2.2.1) k ((c3_0, (in5_0, (s8_0, ()))), (((b0_0_0, (b0_1_0, (b0_2_0, (b0_3_0, (b0_4_0, ()))))), ()), ()))
def z0j_m (n : Nat) (c : Cha) (leaf : Int) (p2 : List UInt8 × Int × Unit) : Option (Int × Tra × Unit) :=
  (z0j_m_w0 n n (c) (p2) (leaf) ((0 : Int)) ([]) ((0 : Int)) ((0 : Int)) ((0 : Int)))
theorem z0j_eq (n : Nat) (x : z0j_a.den) : runF z0j_g (z0j_an n) Tryz.f106 z0j_a z0j_r x = z0j_m n x.1 x.2.1 x.2.2.1 := by kernel_rfl
def z0j_b1 (c3_1 : Cha) (in5_1 : List UInt8 × Int × Unit) (s8_1 : Int) (b0_0_1 : Int) (b0_1_1 : List UInt8) (b0_2_1 : Int) (b0_3_1 : Int) (b0_4_1 : Int) (i11_1 : Int) (v2 : Tra) (n9_1 : Int) (b1_0_1 : Int) (b1_1_1 : List UInt8) (b1_2_1 : Int) (b1_3_1 : Int) (b1_4_1 : Int) : Option (((Int × Tra × Unit) ⊕ (Int)) ⊕ (Int × Int × List UInt8 × Int × Int × Int)) :=
  (bif v2.1 == s8_1 then (bif v2.2.1 == in5_1.1 then (bif bitsOp IntKind.i64 Go.BinOp.and in5_1.2.1 v2.2.2.2.1 == v2.2.2.2.2.1 then (some (Sum.inr ((IntKind.i64.wrap (n9_1 + (1 : Int))), (v2.1), (v2.2.1), (v2.2.2.1), (v2.2.2.2.1), (v2.2.2.2.2.1)))) else (some (Sum.inr ((n9_1), (b1_0_1), (b1_1_1), (b1_2_1), (b1_3_1), (b1_4_1))))) else (some (Sum.inr ((n9_1), (b1_0_1), (b1_1_1), (b1_2_1), (b1_3_1), (b1_4_1))))) else (some (Sum.inr ((n9_1), (b1_0_1), (b1_1_1), (b1_2_1), (b1_3_1), (b1_4_1)))))
def z0j_f1 (c3_1 : Cha) (in5_1 : List UInt8 × Int × Unit) (s8_1 : Int) (b0_0_1 : Int) (b0_1_1 : List UInt8) (b0_2_1 : Int) (b0_3_1 : Int) (b0_4_1 : Int) (n9_1 : Int) (b1_0_1 : Int) (b1_1_1 : List UInt8) (b1_2_1 : Int) (b1_3_1 : Int) (b1_4_1 : Int) : Option ((Int × Tra × Unit) ⊕ (Int)) :=
  (bif decide (n9_1 > (0 : Int)) then (some (Sum.inl ((n9_1, (b1_0_1, b1_1_1, b1_2_1, b1_3_1, b1_4_1, ()), ())))) else (Option.bind (idx c3_1.1 s8_1) fun (v17 : Sta) => (some (Sum.inr (v17.2.1)))))
theorem z0j_m_w1_le (n : Nat) (hn : big ≤ n)  (r0 : Cha → List UInt8 × Int × Unit → Int → Int → List UInt8 → Int → Int → Int → Option (Int × Tra × Unit)) (c3_1 : Cha) (in5_1 : List UInt8 × Int × Unit) (s8_1 : Int) (b0_0_1 : Int) (b0_1_1 : List UInt8) (b0_2_1 : Int) (b0_3_1 : Int) (b0_4_1 : Int) (n9_1 : Int) (b1_0_1 : Int) (b1_1_1 : List UInt8) (b1_2_1 : Int) (b1_3_1 : Int) (b1_4_1 : Int) (hx : List.length (c3_1.2.1) < lenMax) : LeF (elim some fun (s__ : (Int)) => r0 c3_1 in5_1 s__ b0_0_1 b0_1_1 b0_2_1 b0_3_1 b0_4_1) (loopL (fun i__ e__ s__ => z0j_b1 c3_1 in5_1 s8_1 b0_0_1 b0_1_1 b0_2_1 b0_3_1 b0_4_1 i__ e__ s__.1 s__.2.1 s__.2.2.1 s__.2.2.2.1 s__.2.2.2.2.1 s__.2.2.2.2.2) (fun s__ => z0j_f1 c3_1 in5_1 s8_1 b0_0_1 b0_1_1 b0_2_1 b0_3_1 b0_4_1 s__.1 s__.2.1 s__.2.2.1 s__.2.2.2.1 s__.2.2.2.2.1 s__.2.2.2.2.2) 0 (c3_1.2.1) (n9_1, b1_0_1, b1_1_1, b1_2_1, b1_3_1, b1_4_1)) (z0j_m_w1 n r0 n c3_1 in5_1 s8_1 n9_1 0 b0_0_1 b0_1_1 b0_2_1 b0_3_1 b0_4_1 b1_0_1 b1_1_1 b1_2_1 b1_3_1 b1_4_1) := by
  refine loopL_le (f := (elim some fun (s__ : (Int)) => r0 c3_1 in5_1 s__ b0_0_1 b0_1_1 b0_2_1 b0_3_1 b0_4_1)) (W := fun k__ i__ s__ => z0j_m_w1 n r0 k__ c3_1 in5_1 s8_1 s__.1 i__ b0_0_1 b0_1_1 b0_2_1 b0_3_1 b0_4_1 s__.2.1 s__.2.2.1 s__.2.2.2.1 s__.2.2.2.2.1 s__.2.2.2.2.2) (body := (fun i__ e__ s__ => z0j_b1 c3_1 in5_1 s8_1 b0_0_1 b0_1_1 b0_2_1 b0_3_1 b0_4_1 i__ e__ s__.1 s__.2.1 s__.2.2.1 s__.2.2.2.1 s__.2.2.2.2.1 s__.2.2.2.2.2)) (fin := (fun s__ => z0j_f1 c3_1 in5_1 s8_1 b0_0_1 b0_1_1 b0_2_1 b0_3_1 b0_4_1 s__.1 s__.2.1 s__.2.2.1 s__.2.2.2.1 s__.2.2.2.2.1 s__.2.2.2.2.2)) (fun k__ i__ s__ => ?_) hx (n9_1, b1_0_1, b1_1_1, b1_2_1, b1_3_1, b1_4_1) n (by unfold big at hn; unfold lenMax at hx; omega)
  show LeF _ _ (z0j_m_l1 n r0 (z0j_m_w1 n r0 k__) c3_1 in5_1 s8_1 s__.1 i__ b0_0_1 b0_1_1 b0_2_1 b0_3_1 b0_4_1 s__.2.1 s__.2.2.1 s__.2.2.2.1 s__.2.2.2.2.1 s__.2.2.2.2.2)
  exact leCond (leBind fun v2 => (leCond (leCond (leCond (leSome rfl) (leSome rfl)) (leSome rfl)) (leSome rfl))) (leMap (leCond (leSome rfl) (leBind fun v17 => (leSome rfl))))
def z0j_b0 (c3_0 : Cha) (in5_0 : List UInt8 × Int × Unit) (b0_0_0 : Int) (b0_1_0 : List UInt8) (b0_2_0 : Int) (b0_3_0 : Int) (b0_4_0 : Int) (s8_0 : Int) : Option ((Int × Tra × Unit) ⊕ (Int)) :=
  (bif decide (s8_0 ≥ (0 : Int)) then (bif decide (List.length (c3_0.2.1) < lenMax) then loopL (fun i__ e__ s__ => z0j_b1 (c3_0) (in5_0) (s8_0) (b0_0_0) (b0_1_0) (b0_2_0) (b0_3_0) (b0_4_0) i__ e__ s__.1 s__.2.1 s__.2.2.1 s__.2.2.2.1 s__.2.2.2.2.1 s__.2.2.2.2.2) (fun s__ => z0j_f1 (c3_0) (in5_0) (s8_0) (b0_0_0) (b0_1_0) (b0_2_0) (b0_3_0) (b0_4_0) s__.1 s__.2.1 s__.2.2.1 s__.2.2.2.1 s__.2.2.2.2.1 s__.2.2.2.2.2) 0 (c3_0.2.1) (((0 : Int)), ((0 : Int)), ([]), ((0 : Int)), ((0 : Int)), ((0 : Int))) else none) else (some (Sum.inl (((0 : Int), ((0 : Int), [], (0 : Int), (0 : Int), (0 : Int), ()), ())))))
theorem z0j_m_w0_le (n : Nat) (hn : big ≤ n)  (c3_0 : Cha) (in5_0 : List UInt8 × Int × Unit) (b0_0_0 : Int) (b0_1_0 : List UInt8) (b0_2_0 : Int) (b0_3_0 : Int) (b0_4_0 : Int) (s8_0 : Int) : LeF some (loopW (fun s__ => z0j_b0 c3_0 in5_0 b0_0_0 b0_1_0 b0_2_0 b0_3_0 b0_4_0 s__) wMax s8_0) (z0j_m_w0 n n c3_0 in5_0 s8_0 b0_0_0 b0_1_0 b0_2_0 b0_3_0 b0_4_0) := by
  refine loopW_le (f := some) (W := fun k__ s__ => z0j_m_w0 n k__ c3_0 in5_0 s__ b0_0_0 b0_1_0 b0_2_0 b0_3_0 b0_4_0) (body := (fun s__ => z0j_b0 c3_0 in5_0 b0_0_0 b0_1_0 b0_2_0 b0_3_0 b0_4_0 s__)) (fun k__ s__ => ?_) wMax n s8_0 (by unfold big at hn; unfold wMax; omega)
  show LeF _ _ (z0j_m_l0 n (z0j_m_w0 n k__) c3_0 in5_0 s__ b0_0_0 b0_1_0 b0_2_0 b0_3_0 b0_4_0)
  exact (leCond (leGuard fun hx => by apply z0j_m_w1_le n hn; exact hx) (leSome rfl))
def z0j_M (c : Cha) (leaf : Int) (p2 : List UInt8 × Int × Unit) : Option (Int × Tra × Unit) :=
  (loopW (fun s__ => z0j_b0 (c) (p2) ((0 : Int)) ([]) ((0 : Int)) ((0 : Int)) ((0 : Int)) s__) wMax (leaf))
theorem z0j_run (c : Cha) (leaf : Int) (p2 : List UInt8 × Int × Unit) (y : Int × Tra × Unit) (h : z0j_M c leaf p2 = some y) : ∃ n, z0j_m n c leaf p2 = some y :=
  ⟨big, LeF.top (show LeF some (z0j_M c leaf p2) (z0j_m big c leaf p2) from (fun (n : Nat) (hn : big ≤ n) => show LeF some (z0j_M c leaf p2) (z0j_m n c leaf p2) from (by apply z0j_m_w0_le n hn)) big (Nat.le_refl _)) h⟩
def z0j_e : Entry := { f := 106, args := z0j_a, ress := z0j_r, m := fun x => z0j_M x.1 x.2.1 x.2.2.1 }
theorem z0j_ok : FnOK Tryz.prog z0j_e := fn_ok (g := z0j_g) (fn := Tryz.f106) hmixed tabOk eNil (by kernel_rfl) (by kernel_rfl) (by kernel_rfl) (fun x y h => let ⟨n, hn⟩ := z0j_run x.1 x.2.1 x.2.2.1 y h; ⟨z0j_an n, iNil, (z0j_eq n x).trans hn⟩)
abbrev zF_a : Ty := .pair t28 (.pair t162 .unit)
abbrev zF_r : Ty := .pair t164 .unit
def zF_g : G := { T := T, E := [], muts := [5], fz := [] }
def zF_k : List (List Nat) := [[1, 5, 8, 9, 10]]
def zF_an (n : Nat) : Ann := { keep := zF_k, fuel := n, inl := [], deep := 0 }
def zF_m_l0 (n : Nat) (r0 : (Int × Unit → Option (Int × Unit)) → List Int → Int → Int → List Int → Option (List Int × Unit)) (of1_0 : Int × Unit → Option (Int × Unit)) (t8_0 : List Int) (t9_0 : Int) (t10_0 : Int) (c0_0 : List Int) : Option (List Int × Unit) :=
  (bif decide (t10_0 < t9_0) then (Option.bind (idx t8_0 t10_0) fun (v1 : Int) => (Option.bind (of1_0 (v1, ())) fun (v2 : Int × Unit) => (bif decide (c0_0.length + (1 : Nat) ≤ memMax) then r0 of1_0 t8_0 t9_0 (IntKind.i64.wrap (t10_0 + (1 : Int))) (c0_0 ++ [v2.1]) else none))) else some (c0_0, ()))
def zF_m_w0 (n : Nat)  (k : Nat) (of1_0 : Int × Unit → Option (Int × Unit)) (t8_0 : List Int) (t9_0 : Int) (t10_0 : Int) (c0_0 : List Int) : Option (List Int × Unit) :=
  iter (fun r y => zF_m_l0 n (fun of1_0 t8_0 t9_0 t10_0 c0_0 => r ((of1_0, (t8_0, (t9_0, (t10_0, ())))), ((c0_0, ()), ()))) y.1.1 y.1.2.1 y.1.2.2.1 y.1.2.2.2.1 y.2.1.1) k ((of1_0, (t8_0, (t9_0, (t10_0, ())))), ((c0_0, ()), ()))
def zF_m (n : Nat) (l : List Int) (of : Int × Unit → Option (Int × Unit)) : Option (List Int × Unit) :=
  (zF_m_w0 n n (of) (l) ((↑l.length : Int)) ((0 : Int)) ([]))
theorem zF_eq (n : Nat) (x : zF_a.den) : runF zF_g (zF_an n) Tryz.f111 zF_a zF_r x = zF_m n x.1 x.2.1 := by kernel_rfl
def zF_b0 (of1_0 : Int × Unit → Option (Int × Unit)) (t8_0 : List Int) (t10_0 : Int) (v1 : Int) (c0_0 : List Int) : Option ((List Int × Unit) ⊕ (List Int)) :=
  (Option.bind (of1_0 (v1, ())) fun (v2 : Int × Unit) => (bif decide (c0_0.length + (1 : Nat) ≤ memMax) then (some (Sum.inr (c0_0 ++ [v2.1]))) else none))
def zF_f0 (of1_0 : Int × Unit → Option (Int × Unit)) (t8_0 : List Int) (c0_0 : List Int) : Option (List Int × Unit) :=
  (some ((c0_0, ())))
theorem zF_m_w0_le (n : Nat) (hn : big ≤ n)  (of1_0 : Int × Unit → Option (Int × Unit)) (t8_0 : List Int) (c0_0 : List Int) (hx : List.length (t8_0) < lenMax) : LeF some (loopL (fun i__ e__ s__ => zF_b0 of1_0 t8_0 i__ e__ s__) (fun s__ => zF_f0 of1_0 t8_0 s__) 0 (t8_0) c0_0) (zF_m_w0 n n of1_0 t8_0 (List.length (t8_0) : Int) 0 c0_0) := by
  refine loopL_le (f := some) (W := fun k__ i__ s__ => zF_m_w0 n k__ of1_0 t8_0 (List.length (t8_0) : Int) i__ s__) (body := (fun i__ e__ s__ => zF_b0 of1_0 t8_0 i__ e__ s__)) (fin := (fun s__ => zF_f0 of1_0 t8_0 s__)) (fun k__ i__ s__ => ?_) hx c0_0 n (by unfold big at hn; unfold lenMax at hx; omega)
  show LeF _ _ (zF_m_l0 n (zF_m_w0 n k__) of1_0 t8_0 (List.length (t8_0) : Int) i__ s__)
  exact leCond (leBind fun v1 => (leBind fun v2 => (leCond (leSome rfl) leNone))) (leMap (leSome rfl))
def zF_M (l : List Int) (of : Int × Unit → Option (Int × Unit)) : Option (List Int × Unit) :=
  (bif decide (List.length (l) < lenMax) then loopL (fun i__ e__ s__ => zF_b0 (of) (l) i__ e__ s__) (fun s__ => zF_f0 (of) (l) s__) 0 (l) ([]) else none)
theorem zF_run (l : List Int) (of : Int × Unit → Option (Int × Unit)) (y : List Int × Unit) (h : zF_M l of = some y) : ∃ n, zF_m n l of = some y :=
  ⟨big, LeF.top (show LeF some (zF_M l of) (zF_m big l of) from (fun (n : Nat) (hn : big ≤ n) => show LeF some (zF_M l of) (zF_m n l of) from (leGuard fun hx => by apply zF_m_w0_le n hn; exact hx)) big (Nat.le_refl _)) h⟩
def zF_e : Entry := { f := 111, args := zF_a, ress := zF_r, m := fun x => zF_M x.1 x.2.1 }
theorem zF_ok : FnOK Tryz.prog zF_e := fn_ok (g := zF_g) (fn := Tryz.f111) hmixed tabOk eNil (by kernel_rfl) (by kernel_rfl) (by kernel_rfl) (fun x y h => let ⟨n, hn⟩ := zF_run x.1 x.2.1 y h; ⟨zF_an n, iNil, (zF_eq n x).trans hn⟩)
abbrev z0E_a : Ty := .pair t28 (.pair t181 .unit)
abbrev z0E_r : Ty := .pair t28 .unit
def z0E_g : G := { T := T, E := [], muts := [5], fz := [] }
def z0E_k : List (List Nat) := [[1, 5, 8, 9, 10]]
def z0E_an (n : Nat) : Ann := { keep := z0E_k, fuel := n, inl := [], deep := 0 }
def z0E_m_l0 (n : Nat) (r0 : (Int × Unit → Option (Bool × Unit)) → List Int → Int → Int → List Int → Option (List Int × Unit)) (holds1_0 : Int × Unit → Option (Bool × Unit)) (t8_0 : List Int) (t9_0 : Int) (t10_0 : Int) (c0_0 : List Int) : Option (List Int × Unit) :=
  (bif decide (t10_0 < t9_0) then (Option.bind (idx t8_0 t10_0) fun (v1 : Int) => (Option.bind (holds1_0 (v1, ())) fun (v2 : Bool × Unit) => (bif v2.1 then (bif decide (c0_0.length + (1 : Nat) ≤ memMax) then r0 holds1_0 t8_0 t9_0 (IntKind.i64.wrap (t10_0 + (1 : Int))) (c0_0 ++ [v1]) else none) else r0 holds1_0 t8_0 t9_0 (IntKind.i64.wrap (t10_0 + (1 : Int))) c0_0))) else some (c0_0, ()))
def z0E_m_w0 (n : Nat)  (k : Nat) (holds1_0 : Int × Unit → Option (Bool × Unit)) (t8_0 : List Int) (t9_0 : Int) (t10_0 : Int) (c0_0 : List Int) : Option (List Int × Unit) :=
  iter (fun r y => z0E_m_l0 n (fun holds1_0 t8_0 t9_0 t10_0 c0_0 => r ((holds1_0, (t8_0, (t9_0, (t10_0, ())))), ((c0_0, ()), ()))) y.1.1 y.1.2.1 y.1.2.2.1 y.1.2.2.2.1 y.2.1.1) k ((holds1_0, (t8_0, (t9_0, (t10_0, ())))), ((c0_0, ()), ()))
def z0E_m (n : Nat) (l : List Int) (holds : Int × Unit → Option (Bool × Unit)) : Option (List Int × Unit) :=
  (z0E_m_w0 n n (holds) (l) ((↑l.length : Int)) ((0 : Int)) ([]))
theorem z0E_eq (n : Nat) (x : z0E_a.den) : runF z0E_g (z0E_an n) Tryz.f112 z0E_a z0E_r x = z0E_m n x.1 x.2.1 := by kernel_rfl
def z0E_b0 (holds1_0 : Int × Unit → Option (Bool × Unit)) (t8_0 : List Int) (t10_0 : Int) (v1 : Int) (c0_0 : List Int) : Option ((List Int × Unit) ⊕ (List Int)) :=
  (Option.bind (holds1_0 (v1, ())) fun (v2 : Bool × Unit) => (bif v2.1 then (bif decide (c0_0.length + (1 : Nat) ≤ memMax) then (some (Sum.inr (c0_0 ++ [v1]))) else none) else (some (Sum.inr (c0_0)))))
def z0E_f0 (holds1_0 : Int × Unit → Option (Bool × Unit)) (t8_0 : List Int) (c0_0 : List Int) : Option (List Int × Unit) :=
  (some ((c0_0, ())))
theorem z0E_m_w0_le (n : Nat) (hn : big ≤ n)  (holds1_0 : Int × Unit → Option (Bool × Unit)) (t8_0 : List Int) (c0_0 : List Int) (hx : List.length (t8_0) < lenMax) : LeF some (loopL (fun i__ e__ s__ => z0E_b0 holds1_0 t8_0 i__ e__ s__) (fun s__ => z0E_f0 holds1_0 t8_0 s__) 0 (t8_0) c0_0) (z0E_m_w0 n n holds1_0 t8_0 (List.length (t8_0) : Int) 0 c0_0) := by
  refine loopL_le (f := some) (W := fun k__ i__ s__ => z0E_m_w0 n k__ holds1_0 t8_0 (List.length (t8_0) : Int) i__ s__) (body := (fun i__ e__ s__ => z0E_b0 holds1_0 t8_0 i__ e__ s__)) (fin := (fun s__ => z0E_f0 holds1_0 t8_0 s__)) (fun k__ i__ s__ => ?_) hx c0_0 n (by unfold big at hn; unfold lenMax at hx; omega)
  show LeF _ _ (z0E_m_l0 n (z0E_m_w0 n k__) holds1_0 t8_0 (List.length (t8_0) : Int) i__ s__)
  exact leCond (leBind fun v1 => (leBind fun v2 => (leCond (leCond (leSome rfl) leNone) (leSome rfl)))) (leMap (leSome rfl))
def z0E_M (l : List Int) (holds : Int × Unit → Option (Bool × Unit)) : Option (List Int × Unit) :=
  (bif decide (List.length (l) < lenMax) then loopL (fun i__ e__ s__ => z0E_b0 (holds) (l) i__ e__ s__) (fun s__ => z0E_f0 (holds) (l) s__) 0 (l) ([]) else none)
theorem z0E_run (l : List Int) (holds : Int × Unit → Option (Bool × Unit)) (y : List Int × Unit) (h : z0E_M l holds = some y) : ∃ n, z0E_m n l holds = some y :=
  ⟨big, LeF.top (show LeF some (z0E_M l holds) (z0E_m big l holds) from (fun (n : Nat) (hn : big ≤ n) => show LeF some (z0E_M l holds) (z0E_m n l holds) from (leGuard fun hx => by apply z0E_m_w0_le n hn; exact hx)) big (Nat.le_refl _)) h⟩
def z0E_e : Entry := { f := 112, args := z0E_a, ress := z0E_r, m := fun x => z0E_M x.1 x.2.1 }
theorem z0E_ok : FnOK Tryz.prog z0E_e := fn_ok (g := z0E_g) (fn := Tryz.f112) hmixed tabOk eNil (by kernel_rfl) (by kernel_rfl) (by kernel_rfl) (fun x y h => let ⟨n, hn⟩ := z0E_run x.1 x.2.1 y h; ⟨z0E_an n, iNil, (z0E_eq n x).trans hn⟩)
abbrev z0a_a : Ty := .pair t3 (.pair (.ref t3) .unit)
abbrev z0a_r : Ty := .pair t4 .unit
def z0a_g : G := { T := T, E := [], muts := [], fz := [] }
def z0a_k : List (List Nat) := []
def z0a_an (n : Nat) : Ann := { keep := z0a_k, fuel := n, inl := [], deep := 0 }
def z0a_m (n : Nat) (x1 : Int) (p1 : Int) : Option (Bool × Unit) :=
  some (x1 == p1, ())
theorem z0a_eq (n : Nat) (x : z0a_a.den) : runF z0a_g (z0a_an n) Tryz.f113 z0a_a z0a_r x = z0a_m n x.1 x.2.1 := by kernel_rfl
def z0a (x1 : Int) (p1 : Int) : (Bool × Unit) :=
  (x1 == p1, ())
abbrev z0a_M (x1 : Int) (p1 : Int) : Option (Bool × Unit) := some (z0a x1 p1)
theorem z0a_run (x1 : Int) (p1 : Int) (y : Bool × Unit) (h : z0a_M x1 p1 = some y) : ∃ n, z0a_m n x1 p1 = some y :=
  ⟨0, by rw [← h]; show z0a_m 0 x1 p1 = some (z0a x1 p1); unfold z0a_m z0a; first | rfl | (simp only [cond_some]; done) | (simp only [cond_some]; rfl)⟩
def z0a_e : Entry := { f := 113, args := z0a_a, ress := z0a_r, m := fun x => z0a_M x.1 x.2.1 }
theorem z0a_ok : FnOK Tryz.prog z0a_e := fn_ok (g := z0a_g) (fn := Tryz.f113) hmixed tabOk eNil (by kernel_rfl) (by kernel_rfl) (by kernel_rfl) (fun x y h => let ⟨n, hn⟩ := z0a_run x.1 x.2.1 y h; ⟨z0a_an n, iNil, (z0a_eq n x).trans hn⟩)
abbrev zn_a : Ty := .pair t112 (.pair t167 .unit)
abbrev zn_r : Ty := .pair t4 .unit
def zn_g : G := { T := T, E := [], muts := [], fz := [] }
def zn_k : List (List Nat) := []
def zn_an (n : Nat) : Ann := { keep := zn_k, fuel := n, inl := [], deep := 0 }
def zn_m (n : Nat) (p0 : Cas) (o : Int × Bool × Bool × Unit) : Option (Bool × Unit) :=
  some (o.2.2.1, ())
theorem zn_eq (n : Nat) (x : zn_a.den) : runF zn_g (zn_an n) Tryz.f116 zn_a zn_r x = zn_m n x.1 x.2.1 := by kernel_rfl
def zn (p0 : Cas) (o : Int × Bool × Bool × Unit) : (Bool × Unit) :=
  (o.2.2.1, ())
abbrev zn_M (p0 : Cas) (o : Int × Bool × Bool × Unit) : Option (Bool × Unit) := some (zn p0 o)
theorem zn_run (p0 : Cas) (o : Int × Bool × Bool × Unit) (y : Bool × Unit) (h : zn_M p0 o = some y) : ∃ n, zn_m n p0 o = some y :=
  ⟨0, by rw [← h]; show zn_m 0 p0 o = some (zn p0 o); unfold zn_m zn; first | rfl | (simp only [cond_some]; done) | (simp only [cond_some]; rfl)⟩
def zn_e : Entry := { f := 116, args := zn_a, ress := zn_r, m := fun x => zn_M x.1 x.2.1 }
theorem zn_ok : FnOK Tryz.prog zn_e := fn_ok (g := zn_g) (fn := Tryz.f116) hmixed tabOk eNil (by kernel_rfl) (by kernel_rfl) (by kernel_rfl) (fun x y h => let ⟨n, hn⟩ := zn_run x.1 x.2.1 y h; ⟨zn_an n, iNil, (zn_eq n x).trans hn⟩)
abbrev z0b_a : Ty := .pair t3 .unit
abbrev z0b_r : Ty := .pair t184 .unit
def z0b_g : G := { T := T, E := [], muts := [], fz := [] }
def z0b_k : List (List Nat) := []
def z0b_an (n : Nat) : Ann := { keep := z0b_k, fuel := n, inl := [], deep := 0 }
def z0b_m (n : Nat) (n1 : Int) : Option (List Bool × Unit) :=
  some ([bitsOp IntKind.i64 Go.BinOp.and n1 (1 : Int) != (0 : Int), bitsOp IntKind.i64 Go.BinOp.and n1 (2 : Int) != (0 : Int), bitsOp IntKind.i64 Go.BinOp.and n1 (4 : Int) != (0 : Int), bitsOp IntKind.i64 Go.BinOp.and n1 (8 : Int) != (0 : Int)], ())
theorem z0b_eq (n : Nat) (x : z0b_a.den) : runF z0b_g (z0b_an n) Tryz.f119 z0b_a z0b_r x = z0b_m n x.1 := by kernel_rfl
def z0b (n1 : Int) : (List Bool × Unit) :=
  ([bitsOp IntKind.i64 Go.BinOp.and n1 (1 : Int) != (0 : Int), bitsOp IntKind.i64 Go.BinOp.and n1 (2 : Int) != (0 : Int), bitsOp IntKind.i64 Go.BinOp.and n1 (4 : Int) != (0 : Int), bitsOp IntKind.i64 Go.BinOp.and n1 (8 : Int) != (0 : Int)], ())
abbrev z0b_M (n1 : Int) : Option (List Bool × Unit) := some (z0b n1)
theorem z0b_run (n1 : Int) (y : List Bool × Unit) (h : z0b_M n1 = some y) : ∃ n, z0b_m n n1 = some y :=
  ⟨0, by rw [← h]; show z0b_m 0 n1 = some (z0b n1); unfold z0b_m z0b; first | rfl | (simp only [cond_some]; done) | (simp only [cond_some]; rfl)⟩
def z0b_e : Entry := { f := 119, args := z0b_a, ress := z0b_r, m := fun x => z0b_M x.1 }
theorem z0b_ok : FnOK Tryz.prog z0b_e := fn_ok (g := z0b_g) (fn := Tryz.f119) hmixed tabOk eNil (by kernel_rfl) (by kernel_rfl) (by kernel_rfl) (fun x y h => let ⟨n, hn⟩ := z0b_run x.1 y h; ⟨z0b_an n, iNil, (z0b_eq n x).trans hn⟩)
abbrev z0D_a : Ty := .pair t3 .unit
abbrev z0D_r : Ty := .pair t97 .unit
def z0D_g : G := { T := T, E := [], muts := [7], fz := [] }
def z0D_k : List (List Nat) := [[3, 8, 9], [3, 4, 8, 9, 17]]
def z0D_an (n : Nat) : Ann := { keep := z0D_k, fuel := n, inl := [], deep := 0 }
def z0D_m_l1 (n : Nat) (r0 : Int → Int → List Fai → Option (List Fai × Unit)) (r1 : Int → Int → Int → Int → List Fai → Option (List Fai × Unit)) (at4_1 : Int) (t8_1 : Int) (t9_1 : Int) (t17_1 : Int) (c0_1 : List Fai) : Option (List Fai × Unit) :=
  (bif decide (t17_1 < (8 : Int)) then (bif decide (c0_1.length + (1 : Nat) ≤ memMax) then r1 at4_1 t8_1 t9_1 (IntKind.i64.wrap (t17_1 + (1 : Int))) (c0_1 ++ [([(115 : UInt8), (116 : UInt8), (117 : UInt8), (99 : UInt8), (107 : UInt8)], at4_1, IntKind.i64.wrap (t17_1.tdiv (2 : Int)), t17_1.tmod (2 : Int), ())]) else none) else r0 t8_1 (IntKind.i64.wrap (t9_1 + (1 : Int))) c0_1)
def z0D_m_w1 (n : Nat) (r0 : Int → Int → List Fai → Option (List Fai × Unit)) (k : Nat) (at4_1 : Int) (t8_1 : Int) (t9_1 : Int) (t17_1 : Int) (c0_1 : List Fai) : Option (List Fai × Unit) :=
  iter (fun r y => z0D_m_l1 n r0 (fun at4_1 t8_1 t9_1 t17_1 c0_1 => r ((at4_1, (t8_1, (t9_1, (t17_1, ())))), ((c0_1, ()), ()))) y.1.1 y.1.2.1 y.1.2.2.1 y.1.2.2.2.1 y.2.1.1) k ((at4_1, (t8_1, (t9_1, (t17_1, ())))), ((c0_1, ()), ()))
def z0D_m_l0 (n : Nat) (r0 : Int → Int → List Fai → Option (List Fai × Unit)) (t8_0 : Int) (t9_0 : Int) (c0_0 : List Fai) : Option (List Fai × Unit) :=
  (bif decide (t9_0 < t8_0) then (bif decide (c0_0.length + (1 : Nat) ≤ memMax) then (z0D_m_w1 n r0 n (t9_0) (t8_0) (t9_0) ((0 : Int)) (c0_0 ++ [([(108 : UInt8), (111 : UInt8), (115 : UInt8), (116 : UInt8)], t9_0, (0 : Int), (0 : Int), ())])) else none) else some (c0_0, ()))
def z0D_m_w0 (n : Nat)  (k : Nat) (t8_0 : Int) (t9_0 : Int) (c0_0 : List Fai) : Option (List Fai × Unit) :=
  iter (fun r y => z0D_m_l0 n (fun t8_0 t9_0 c0_0 => r ((t8_0, (t9_0, ())), ((c0_0, ()), ()))) y.1.1 y.1.2.1 y.2.1.1) k ((t8_0, (t9_0, ())), ((c0_0, ()), ()))
def z0D_m (n : Nat) (ticks : Int) : Option (List Fai × Unit) :=
  (z0D_m_w0 n n (ticks) ((0 : Int)) ([([(110 : UInt8), (111 : UInt8), (110 : UInt8), (101 : UInt8)], (0 : Int), (0 : Int), (0 : Int), ())]))
theorem z0D_eq (n : Nat) (x : z0D_a.den) : runF z0D_g (z0D_an n) Tryz.f122 z0D_a z0D_r x = z0D_m n x.1 := by kernel_rfl
def z0D_b1 (at4_1 : Int) (t8_1 : Int) (t9_1 : Int) (t17_1 : Int) (c0_1 : List Fai) : Option (((List Fai × Unit) ⊕ (List Fai)) ⊕ (List Fai)) :=
  (bif decide (c0_1.length + (1 : Nat) ≤ memMax) then (some (Sum.inr (c0_1 ++ [([(115 : UInt8), (116 : UInt8), (117 : UInt8), (99 : UInt8), (107 : UInt8)], at4_1, IntKind.i64.wrap (t17_1.tdiv (2 : Int)), t17_1.tmod (2 : Int), ())]))) else none)
def z0D_f1 (at4_1 : Int) (t8_1 : Int) (t9_1 : Int) (c0_1 : List Fai) : Option ((List Fai × Unit) ⊕ (List Fai)) :=
  (some (Sum.inr (c0_1)))
theorem z0D_m_w1_le (n : Nat) (hn : big ≤ n)  (r0 : Int → Int → List Fai → Option (List Fai × Unit)) (at4_1 : Int) (t8_1 : Int) (t9_1 : Int) (c0_1 : List Fai) (hx : ((8 : Int)) ≤ (9223372036854775807 : Int)) : LeF (elim some fun (s__ : (List Fai)) => r0 t8_1 (IntKind.i64.wrap (t9_1 + 1)) s__) (loopN (fun i__ s__ => z0D_b1 at4_1 t8_1 t9_1 i__ s__) (fun s__ => z0D_f1 at4_1 t8_1 t9_1 s__) (((8 : Int)) - 0).toNat 0 c0_1) (z0D_m_w1 n r0 n at4_1 t8_1 t9_1 0 c0_1) := by
  refine loopN_le (f := (elim some fun (s__ : (List Fai)) => r0 t8_1 (IntKind.i64.wrap (t9_1 + 1)) s__)) (W := fun k__ i__ s__ => z0D_m_w1 n r0 k__ at4_1 t8_1 t9_1 i__ s__) (body := (fun i__ s__ => z0D_b1 at4_1 t8_1 t9_1 i__ s__)) (fin := (fun s__ => z0D_f1 at4_1 t8_1 t9_1 s__)) (fun k__ i__ s__ => ?_) hx c0_1 n 0 (by decide) (by unfold big at hn; omega)
  show LeF _ _ (z0D_m_l1 n r0 (z0D_m_w1 n r0 k__) at4_1 t8_1 t9_1 i__ s__)
  exact leCond (leCond (leSome rfl) leNone) (leMap (leSome rfl))
def z0D_b0 (t8_0 : Int) (t9_0 : Int) (c0_0 : List Fai) : Option ((List Fai × Unit) ⊕ (List Fai)) :=
  (bif decide (c0_0.length + (1 : Nat) ≤ memMax) then (bif decide (((8 : Int)) ≤ (9223372036854775807 : Int)) then loopN (fun i__ s__ => z0D_b1 (t9_0) (t8_0) (t9_0) i__ s__) (fun s__ => z0D_f1 (t9_0) (t8_0) (t9_0) s__) (((8 : Int)) - 0).toNat 0 (c0_0 ++ [([(108 : UInt8), (111 : UInt8), (115 : UInt8), (116 : UInt8)], t9_0, (0 : Int), (0 : Int), ())]) else none) else none)
def z0D_f0 (t8_0 : Int) (c0_0 : List Fai) : Option (List Fai × Unit) :=
  (some ((c0_0, ())))
theorem z0D_m_w0_le (n : Nat) (hn : big ≤ n)  (t8_0 : Int) (c0_0 : List Fai) (hx : (t8_0) ≤ (9223372036854775807 : Int)) : LeF some (loopN (fun i__ s__ => z0D_b0 t8_0 i__ s__) (fun s__ => z0D_f0 t8_0 s__) ((t8_0) - 0).toNat 0 c0_0) (z0D_m_w0 n n t8_0 0 c0_0) := by
  refine loopN_le (f := some) (W := fun k__ i__ s__ => z0D_m_w0 n k__ t8_0 i__ s__) (body := (fun i__ s__ => z0D_b0 t8_0 i__ s__)) (fin := (fun s__ => z0D_f0 t8_0 s__)) (fun k__ i__ s__ => ?_) hx c0_0 n 0 (by decide) (by unfold big at hn; omega)
  show LeF _ _ (z0D_m_l0 n (z0D_m_w0 n k__) t8_0 i__ s__)
  exact leCond (leCond (leGuard fun hx => by apply z0D_m_w1_le n hn; exact hx) leNone) (leMap (leSome rfl))
def z0D_M (ticks : Int) : Option (List Fai × Unit) :=
  (bif decide ((ticks) ≤ (9223372036854775807 : Int)) then loopN (fun i__ s__ => z0D_b0 (ticks) i__ s__) (fun s__ => z0D_f0 (ticks) s__) ((ticks) - 0).toNat 0 ([([(110 : UInt8), (111 : UInt8), (110 : UInt8), (101 : UInt8)], (0 : Int), (0 : Int), (0 : Int), ())]) else none)
theorem z0D_run (ticks : Int) (y : List Fai × Unit) (h : z0D_M ticks = some y) : ∃ n, z0D_m n ticks = some y :=
  ⟨big, LeF.top (show LeF some (z0D_M ticks) (z0D_m big ticks) from (fun (n : Nat) (hn : big ≤ n) => show LeF some (z0D_M ticks) (z0D_m n ticks) from (leGuard fun hx => by apply z0D_m_w0_le n hn; exact hx)) big (Nat.le_refl _)) h⟩
def z0D_e : Entry := { f := 122, args := z0D_a, ress := z0D_r, m := fun x => z0D_M x.1 }
theorem z0D_ok : FnOK Tryz.prog z0D_e := fn_ok (g := z0D_g) (fn := Tryz.f122) hmixed tabOk eNil (by kernel_rfl) (by kernel_rfl) (by kernel_rfl) (fun x y h => let ⟨n, hn⟩ := z0D_run x.1 y h; ⟨z0D_an n, iNil, (z0D_eq n x).trans hn⟩)
abbrev z04_a : Ty := .pair t125 .unit
abbrev z04_r : Ty := .pair t4 .unit
def z04_g : G := { T := T, E := [], muts := [], fz := [] }
def z04_k : List (List Nat) := []
def z04_an (n : Nat) : Ann := { keep := z04_k, fuel := n, inl := [], deep := 0 }
def z04_m (n : Nat) (g : Goa) : Option (Bool × Unit) :=
  (bif decide ((↑g.1.length : Int) ≤ (17 : Int)) then some (decide ((↑g.2.1.length : Int) ≤ (17 : Int)), ()) else some (Bool.false, ()))
theorem z04_eq (n : Nat) (x : z04_a.den) : runF z04_g (z04_an n) Tryz.f126 z04_a z04_r x = z04_m n x.1 := by kernel_rfl
def z04 (g : Goa) : (Bool × Unit) :=
  (bif decide ((↑g.1.length : Int) ≤ (17 : Int)) then (decide ((↑g.2.1.length : Int) ≤ (17 : Int)), ()) else (Bool.false, ()))
abbrev z04_M (g : Goa) : Option (Bool × Unit) := some (z04 g)
theorem z04_run (g : Goa) (y : Bool × Unit) (h : z04_M g = some y) : ∃ n, z04_m n g = some y :=
  ⟨0, by rw [← h]; show z04_m 0 g = some (z04 g); unfold z04_m z04; first | rfl | (simp only [cond_some]; done) | (simp only [cond_some]; rfl)⟩
def z04_e : Entry := { f := 126, args := z04_a, ress := z04_r, m := fun x => z04_M x.1 }
theorem z04_ok : FnOK Tryz.prog z04_e := fn_ok (g := z04_g) (fn := Tryz.f126) hmixed tabOk eNil (by kernel_rfl) (by kernel_rfl) (by kernel_rfl) (fun x y h => let ⟨n, hn⟩ := z04_run x.1 y h; ⟨z04_an n, iNil, (z04_eq n x).trans hn⟩)
abbrev zB_a : Ty := .pair t202 (.pair t208 .unit)
abbrev zB_r : Ty := .pair t28 .unit
def zB_g : G := { T := T, E := [], muts := [5], fz := [] }
def zB_k : List (List Nat) := [[1, 5, 8, 9, 10]]
def zB_an (n : Nat) : Ann := { keep := zB_k, fuel := n, inl := [], deep := 0 }
def zB_m_l0 (n : Nat) (r0 : ((Sta × Int × Unit) × Unit → Option (Int × Unit)) → List (Sta × Int × Unit) → Int → Int → List Int → Option (List Int × Unit)) (of1_0 : (Sta × Int × Unit) × Unit → Option (Int × Unit)) (t8_0 : List (Sta × Int × Unit)) (t9_0 : Int) (t10_0 : Int) (c0_0 : List Int) : Option (List Int × Unit) :=
  (bif decide (t10_0 < t9_0) then (Option.bind (idx t8_0 t10_0) fun (v1 : Sta × Int × Unit) => (Option.bind (of1_0 (((v1.1.1, v1.1.2.1, v1.1.2.2.1, v1.1.2.2.2.1, ()), v1.2.1, ()), ())) fun (v2 : Int × Unit) => (bif decide (c0_0.length + (1 : Nat) ≤ memMax) then r0 of1_0 t8_0 t9_0 (IntKind.i64.wrap (t10_0 + (1 : Int))) (c0_0 ++ [v2.1]) else none))) else some (c0_0, ()))
def zB_m_w0 (n : Nat)  (k : Nat) (of1_0 : (Sta × Int × Unit) × Unit → Option (Int × Unit)) (t8_0 : List (Sta × Int × Unit)) (t9_0 : Int) (t10_0 : Int) (c0_0 : List Int) : Option (List Int × Unit) :=
  iter (fun r y => zB_m_l0 n (fun of1_0 t8_0 t9_0 t10_0 c0_0 => r ((of1_0, (t8_0, (t9_0, (t10_0, ())))), ((c0_0, ()), ()))) y.1.1 y.1.2.1 y.1.2.2.1 y.1.2.2.2.1 y.2.1.1) k ((of1_0, (t8_0, (t9_0, (t10_0, ())))), ((c0_0, ()), ()))
def zB_m (n : Nat) (l : List (Sta × Int × Unit)) (of : (Sta × Int × Unit) × Unit → Option (Int × Unit)) : Option (List Int × Unit) :=
  (zB_m_w0 n n (of) (l) ((↑l.length : Int)) ((0 : Int)) ([]))
theorem zB_eq (n : Nat) (x : zB_a.den) : runF zB_g (zB_an n) Tryz.f131 zB_a zB_r x = zB_m n x.1 x.2.1 := by kernel_rfl
def zB_b0 (of1_0 : (Sta × Int × Unit) × Unit → Option (Int × Unit)) (t8_0 : List (Sta × Int × Unit)) (t10_0 : Int) (v1 : Sta × Int × Unit) (c0_0 : List Int) : Option ((List Int × Unit) ⊕ (List Int)) :=
  (Option.bind (of1_0 (((v1.1.1, v1.1.2.1, v1.1.2.2.1, v1.1.2.2.2.1, ()), v1.2.1, ()), ())) fun (v2 : Int × Unit) => (bif decide (c0_0.length + (1 : Nat) ≤ memMax) then (some (Sum.inr (c0_0 ++ [v2.1]))) else none))
def zB_f0 (of1_0 : (Sta × Int × Unit) × Unit → Option (Int × Unit)) (t8_0 : List (Sta × Int × Unit)) (c0_0 : List Int) : Option (List Int × Unit) :=
  (some ((c0_0, ())))
theorem zB_m_w0_le (n : Nat) (hn : big ≤ n)  (of1_0 : (Sta × Int × Unit) × Unit → Option (Int × Unit)) (t8_0 : List (Sta × Int × Unit)) (c0_0 : List Int) (hx : List.length (t8_0) < lenMax) : LeF some (loopL (fun i__ e__ s__ => zB_b0 of1_0 t8_0 i__ e__ s__) (fun s__ => zB_f0 of1_0 t8_0 s__) 0 (t8_0) c0_0) (zB_m_w0 n n of1_0 t8_0 (List.length (t8_0) : Int) 0 c0_0) := by
  refine loopL_le (f := some) (W := fun k__ i__ s__ => zB_m_w0 n k__ of1_0 t8_0 (List.length (t8_0) : Int) i__ s__) (body := (fun i__ e__ s__ => zB_b0 of1_0 t8_0 i__ e__ s__)) (fin := (fun s__ => zB_f0 of1_0 t8_0 s__)) (fun k__ i__ s__ => ?_) hx c0_0 n (by unfold big at hn; unfold lenMax at hx; omega)
  show LeF _ _ (zB_m_l0 n (zB_m_w0 n k__) of1_0 t8_0 (List.length (t8_0) : Int) i__ s__)
  exact leCond (leBind fun v1 => (leBind fun v2 => (leCond (leSome rfl) leNone))) (leMap (leSome rfl))
def zB_M (l : List (Sta × Int × Unit)) (of : (Sta × Int × Unit) × Unit → Option (Int × Unit)) : Option (List Int × Unit) :=
  (bif decide (List.length (l) < lenMax) then loopL (fun i__ e__ s__ => zB_b0 (of) (l) i__ e__ s__) (fun s__ => zB_f0 (of) (l) s__) 0 (l) ([]) else none)
theorem zB_run (l : List (Sta × Int × Unit)) (of : (Sta × Int × Unit) × Unit → Option (Int × Unit)) (y : List Int × Unit) (h : zB_M l of = some y) : ∃ n, zB_m n l of = some y :=
  ⟨big, LeF.top (show LeF some (zB_M l of) (zB_m big l of) from (fun (n : Nat) (hn : big ≤ n) => show LeF some (zB_M l of) (zB_m n l of) from (leGuard fun hx => by apply zB_m_w0_le n hn; exact hx)) big (Nat.le_refl _)) h⟩
def zB_e : Entry := { f := 131, args := zB_a, ress := zB_r, m := fun x => zB_M x.1 x.2.1 }
theorem zB_ok : FnOK Tryz.prog zB_e := fn_ok (g := zB_g) (fn := Tryz.f131) hmixed tabOk eNil (by kernel_rfl) (by kernel_rfl) (by kernel_rfl) (fun x y h => let ⟨n, hn⟩ := zB_run x.1 x.2.1 y h; ⟨zB_an n, iNil, (zB_eq n x).trans hn⟩)
abbrev zL_a : Ty := .pair t202 (.pair t207 .unit)
abbrev zL_r : Ty := .pair t202 .unit
def zL_g : G := { T := T, E := [], muts := [5], fz := [] }
def zL_k : List (List Nat) := [[1, 5, 8, 9, 10]]
def zL_an (n : Nat) : Ann := { keep := zL_k, fuel := n, inl := [], deep := 0 }
def zL_m_l0 (n : Nat) (r0 : ((Sta × Int × Unit) × Unit → Option (Bool × Unit)) → List (Sta × Int × Unit) → Int → Int → List (Sta × Int × Unit) → Option (List (Sta × Int × Unit) × Unit)) (holds1_0 : (Sta × Int × Unit) × Unit → Option (Bool × Unit)) (t8_0 : List (Sta × Int × Unit)) (t9_0 : Int) (t10_0 : Int) (c0_0 : List (Sta × Int × Unit)) : Option (List (Sta × Int × Unit) × Unit) :=
  (bif decide (t10_0 < t9_0) then (Option.bind (idx t8_0 t10_0) fun (v1 : Sta × Int × Unit) => (Option.bind (holds1_0 (((v1.1.1, v1.1.2.1, v1.1.2.2.1, v1.1.2.2.2.1, ()), v1.2.1, ()), ())) fun (v2 : Bool × Unit) => (bif v2.1 then (bif decide (c0_0.length + (1 : Nat) ≤ memMax) then r0 holds1_0 t8_0 t9_0 (IntKind.i64.wrap (t10_0 + (1 : Int))) (c0_0 ++ [((v1.1.1, v1.1.2.1, v1.1.2.2.1, v1.1.2.2.2.1, ()), v1.2.1, ())]) else none) else r0 holds1_0 t8_0 t9_0 (IntKind.i64.wrap (t10_0 + (1 : Int))) c0_0))) else some (c0_0, ()))
def zL_m_w0 (n : Nat)  (k : Nat) (holds1_0 : (Sta × Int × Unit) × Unit → Option (Bool × Unit)) (t8_0 : List (Sta × Int × Unit)) (t9_0 : Int) (t10_0 : Int) (c0_0 : List (Sta × Int × Unit)) : Option (List (Sta × Int × Unit) × Unit) :=
  iter (fun r y => zL_m_l0 n (fun holds1_0 t8_0 t9_0 t10_0 c0_0 => r ((holds1_0, (t8_0, (t9_0, (t10_0, ())))), ((c0_0, ()), ()))) y.1.1 y.1.2.1 y.1.2.2.1 y.1.2.2.2.1 y.2.1.1) k ((holds1_0, (t8_0, (t9_0, (t10_0, ())))), ((c0_0, ()), ()))
def zL_m (n : Nat) (l : List (Sta × Int × Unit)) (holds : (Sta × Int × Unit) × Unit → Option (Bool × Unit)) : Option (List (Sta × Int × Unit) × Unit) :=
  (zL_m_w0 n n (holds) (l) ((↑l.length : Int)) ((0 : Int)) ([]))
theorem zL_eq (n : Nat) (x : zL_a.den) : runF zL_g (zL_an n) Tryz.f132 zL_a zL_r x = zL_m n x.1 x.2.1 := by kernel_rfl
def zL_b0 (holds1_0 : (Sta × Int × Unit) × Unit → Option (Bool × Unit)) (t8_0 : List (Sta × Int × Unit)) (t10_0 : Int) (v1 : Sta × Int × Unit) (c0_0 : List (Sta × Int × Unit)) : Option ((List (Sta × Int × Unit) × Unit) ⊕ (List (Sta × Int × Unit))) :=
  (Option.bind (holds1_0 (((v1.1.1, v1.1.2.1, v1.1.2.2.1, v1.1.2.2.2.1, ()), v1.2.1, ()), ())) fun (v2 : Bool × Unit) => (bif v2.1 then (bif decide (c0_0.length + (1 : Nat) ≤ memMax) then (some (Sum.inr (c0_0 ++ [((v1.1.1, v1.1.2.1, v1.1.2.2.1, v1.1.2.2.2.1, ()), v1.2.1, ())]))) else none) else (some (Sum.inr (c0_0)))))
def zL_f0 (holds1_0 : (Sta × Int × Unit) × Unit → Option (Bool × Unit)) (t8_0 : List (Sta × Int × Unit)) (c0_0 : List (Sta × Int × Unit)) : Option (List (Sta × Int × Unit) × Unit) :=
  (some ((c0_0, ())))
theorem zL_m_w0_le (n : Nat) (hn : big ≤ n)  (holds1_0 : (Sta × Int × Unit) × Unit → Option (Bool × Unit)) (t8_0 : List (Sta × Int × Unit)) (c0_0 : List (Sta × Int × Unit)) (hx : List.length (t8_0) < lenMax) : LeF some (loopL (fun i__ e__ s__ => zL_b0 holds1_0 t8_0 i__ e__ s__) (fun s__ => zL_f0 holds1_0 t8_0 s__) 0 (t8_0) c0_0) (zL_m_w0 n n holds1_0 t8_0 (List.length (t8_0) : Int) 0 c0_0) := by
  refine loopL_le (f := some) (W := fun k__ i__ s__ => zL_m_w0 n k__ holds1_0 t8_0 (List.length (t8_0) : Int) i__ s__) (body := (fun i__ e__ s__ => zL_b0 holds1_0 t8_0 i__ e__ s__)) (fin := (fun s__ => zL_f0 holds1_0 t8_0 s__)) (fun k__ i__ s__ => ?_) hx c0_0 n (by unfold big at hn; unfold lenMax at hx; omega)
  show LeF _ _ (zL_m_l0 n (zL_m_w0 n k__) holds1_0 t8_0 (List.length (t8_0) : Int) i__ s__)
  exact leCond (leBind fun v1 => (leBind fun v2 => (leCond (leCond (leSome rfl) leNone) (leSome rfl)))) (leMap (leSome rfl))
def zL_M (l : List (Sta × Int × Unit)) (holds : (Sta × Int × Unit) × Unit → Option (Bool × Unit)) : Option (List (Sta × Int × Unit) × Unit) :=
  (bif decide (List.length (l) < lenMax) then loopL (fun i__ e__ s__ => zL_b0 (holds) (l) i__ e__ s__) (fun s__ => zL_f0 (holds) (l) s__) 0 (l) ([]) else none)
theorem zL_run (l : List (Sta × Int × Unit)) (holds : (Sta × Int × Unit) × Unit → Option (Bool × Unit)) (y : List (Sta × Int × Unit) × Unit) (h : zL_M l holds = some y) : ∃ n, zL_m n l holds = some y :=
  ⟨big, LeF.top (show LeF some (zL_M l holds) (zL_m big l holds) from (fun (n : Nat) (hn : big ≤ n) => show LeF some (zL_M l holds) (zL_m n l holds) from (leGuard fun hx => by apply zL_m_w0_le n hn; exact hx)) big (Nat.le_refl _)) h⟩
def zL_e : Entry := { f := 132, args := zL_a, ress := zL_r, m := fun x => zL_M x.1 x.2.1 }
theorem zL_ok : FnOK Tryz.prog zL_e := fn_ok (g := zL_g) (fn := Tryz.f132) hmixed tabOk eNil (by kernel_rfl) (by kernel_rfl) (by kernel_rfl) (fun x y h => let ⟨n, hn⟩ := zL_run x.1 x.2.1 y h; ⟨zL_an n, iNil, (zL_eq n x).trans hn⟩)
abbrev zh_a : Ty := .pair t204 .unit
abbrev zh_r : Ty := .pair t4 .unit
def zh_g : G := { T := T, E := [], muts := [], fz := [] }
def zh_k : List (List Nat) := []
def zh_an (n : Nat) : Ann := { keep := zh_k, fuel := n, inl := [], deep := 0 }
def zh_m (n : Nat) (s : Sta × Int × Unit) : Option (Bool × Unit) :=
  some (s.1.2.2.1 == (-1 : Int), ())
theorem zh_eq (n : Nat) (x : zh_a.den) : runF zh_g (zh_an n) Tryz.f133 zh_a zh_r x = zh_m n x.1 := by kernel_rfl
def zh (s : Sta × Int × Unit) : (Bool × Unit) :=
  (s.1.2.2.1 == (-1 : Int), ())
abbrev zh_M (s : Sta × Int × Unit) : Option (Bool × Unit) := some (zh s)
theorem zh_run (s : Sta × Int × Unit) (y : Bool × Unit) (h : zh_M s = some y) : ∃ n, zh_m n s = some y :=
  ⟨0, by rw [← h]; show zh_m 0 s = some (zh s); unfold zh_m zh; first | rfl | (simp only [cond_some]; done) | (simp only [cond_some]; rfl)⟩
def zh_e : Entry := { f := 133, args := zh_a, ress := zh_r, m := fun x => zh_M x.1 }
theorem zh_ok : FnOK Tryz.prog zh_e := fn_ok (g := zh_g) (fn := Tryz.f133) hmixed tabOk eNil (by kernel_rfl) (by kernel_rfl) (by kernel_rfl) (fun x y h => let ⟨n, hn⟩ := zh_run x.1 y h; ⟨zh_an n, iNil, (zh_eq n x).trans hn⟩)
abbrev zV_a : Ty := .pair t204 .unit
abbrev zV_r : Ty := .pair t3 .unit
def zV_g : G := { T := T, E := [], muts := [], fz := [] }
def zV_k : List (List Nat) := []
def zV_an (n : Nat) : Ann := { keep := zV_k, fuel := n, inl := [], deep := 0 }
def zV_m (n : Nat) (s : Sta × Int × Unit) : Option (Int × Unit) :=
  some (s.2.1, ())
theorem zV_eq (n : Nat) (x : zV_a.den) : runF zV_g (zV_an n) Tryz.f134 zV_a zV_r x = zV_m n x.1 := by kernel_rfl
def zV (s : Sta × Int × Unit) : (Int × Unit) :=
  (s.2.1, ())
abbrev zV_M (s : Sta × Int × Unit) : Option (Int × Unit) := some (zV s)
theorem zV_run (s : Sta × Int × Unit) (y : Int × Unit) (h : zV_M s = some y) : ∃ n, zV_m n s = some y :=
  ⟨0, by rw [← h]; show zV_m 0 s = some (zV s); unfold zV_m zV; first | rfl | (simp only [cond_some]; done) | (simp only [cond_some]; rfl)⟩
def zV_e : Entry := { f := 134, args := zV_a, ress := zV_r, m := fun x => zV_M x.1 }
theorem zV_ok : FnOK Tryz.prog zV_e := fn_ok (g := zV_g) (fn := Tryz.f134) hmixed tabOk eNil (by kernel_rfl) (by kernel_rfl) (by kernel_rfl) (fun x y h => let ⟨n, hn⟩ := zV_run x.1 y h; ⟨zV_an n, iNil, (zV_eq n x).trans hn⟩)
abbrev z0S_a : Ty := .pair t9 .unit
abbrev z0S_r : Ty := .pair t4 .unit
def z0S_g : G := { T := T, E := [], muts := [], fz := [] }
def z0S_k : List (List Nat) := [[0, 3]]
def z0S_an (n : Nat) : Ann := { keep := z0S_k, fuel := n, inl := [], deep := 0 }
def z0S_m_j15 (n : Nat) (r2 : List UInt8 → Int → Option (Bool × Unit)) (s0_2 : List UInt8) (i3_2 : Int) (v3 : UInt8) : Option (Bool × Unit) :=
  (bif i3_2 == (0 : Int) then some (Bool.false, ()) else (bif (↑v3.toNat : Int) != (95 : Int) then (bif decide ((↑v3.toNat : Int) < (48 : Int)) then some (Bool.false, ()) else (bif decide ((↑v3.toNat : Int) > (57 : Int)) then some (Bool.false, ()) else r2 s0_2 (IntKind.i64.wrap (i3_2 + (1 : Int))))) else r2 s0_2 (IntKind.i64.wrap (i3_2 + (1 : Int)))))
def z0S_m_l2 (n : Nat) (r2 : List UInt8 → Int → Option (Bool × Unit)) (s0_2 : List UInt8) (i3_2 : Int) : Option (Bool × Unit) :=
  (bif decide (i3_2 < (↑s0_2.length : Int)) then (Option.bind (idx s0_2 i3_2) fun (v3 : UInt8) => (bif decide ((↑v3.toNat : Int) ≥ (97 : Int)) then (bif decide ((↑v3.toNat : Int) ≤ (122 : Int)) then r2 s0_2 (IntKind.i64.wrap (i3_2 + (1 : Int))) else (bif decide ((↑v3.toNat : Int) ≥ (65 : Int)) then (bif decide ((↑v3.toNat : Int) ≤ (90 : Int)) then r2 s0_2 (IntKind.i64.wrap (i3_2 + (1 : Int))) else (z0S_m_j15 n r2 s0_2 i3_2 v3)) else (z0S_m_j15 n r2 s0_2 i3_2 v3))) else (bif decide ((↑v3.toNat : Int) ≥ (65 : Int)) then (bif decide ((↑v3.toNat : Int) ≤ (90 : Int)) then r2 s0_2 (IntKind.i64.wrap (i3_2 + (1 : Int))) else (z0S_m_j15 n r2 s0_2 i3_2 v3)) else (z0S_m_j15 n r2 s0_2 i3_2 v3)))) else some (Bool.true, ()))
def z0S_m_w2 (n : Nat)  (k : Nat) (s0_2 : List UInt8) (i3_2 : Int) : Option (Bool × Unit) :=
  iter (fun r y => z0S_m_l2 n (fun s0_2 i3_2 => r ((s0_2, (i3_2, ())), ((), ()))) y.1.1 y.1.2.1) k ((s0_2, (i3_2, ())), ((), ()))
def z0S_m (n : Nat) (s : List UInt8) : Option (Bool × Unit) :=
  (bif (↑s.length : Int) == (0 : Int) then some (Bool.false, ()) else (bif decide ((↑s.length : Int) > (24 : Int)) then some (Bool.false, ()) else (z0S_m_w2 n n (s) ((0 : Int)))))
theorem z0S_eq (n : Nat) (x : z0S_a.den) : runF z0S_g (z0S_an n) Tryz.f136 z0S_a z0S_r x = z0S_m n x.1 := by kernel_rfl
def z0S_s15 (s0_2 : List UInt8) (i3_2 : Int) (v3 : UInt8) : Option ((Bool × Unit) ⊕ Unit) :=
  (bif i3_2 == (0 : Int) then (some (Sum.inl ((Bool.false, ())))) else (bif (↑v3.toNat : Int) != (95 : Int) then (bif decide ((↑v3.toNat : Int) < (48 : Int)) then (some (Sum.inl ((Bool.false, ())))) else (bif decide ((↑v3.toNat : Int) > (57 : Int)) then (some (Sum.inl ((Bool.false, ())))) else (some (Sum.inr ())))) else (some (Sum.inr ()))))
theorem ref01_IsName_s15_le (n : Nat) (hn : big ≤ n)  (r2 : List UInt8 → Int → Option (Bool × Unit)) (s0_2 : List UInt8) (i3_2 : Int) (v3 : UInt8) : LeF (elim some fun (s__ : Unit) => r2 s0_2 (IntKind.i64.wrap (i3_2 + 1))) (z0S_s15 s0_2 i3_2 v3) (z0S_m_j15 n r2 s0_2 i3_2 v3) :=
  (leCond (leSome rfl) (leCond (leCond (leSome rfl) (leCond (leSome rfl) (leSome rfl))) (leSome rfl)))
def z0S_b2 (s0_2 : List UInt8) (i3_2 : Int) (v3 : UInt8) : Option ((Bool × Unit) ⊕ Unit) :=
  (bif decide ((↑v3.toNat : Int) ≥ (97 : Int)) then (bif decide ((↑v3.toNat : Int) ≤ (122 : Int)) then (some (Sum.inr ())) else (bif decide ((↑v3.toNat : Int) ≥ (65 : Int)) then (bif decide ((↑v3.toNat : Int) ≤ (90 : Int)) then (some (Sum.inr ())) else (z0S_s15 s0_2 i3_2 v3)) else (z0S_s15 s0_2 i3_2 v3))) else (bif decide ((↑v3.toNat : Int) ≥ (65 : Int)) then (bif decide ((↑v3.toNat : Int) ≤ (90 : Int)) then (some (Sum.inr ())) else (z0S_s15 s0_2 i3_2 v3)) else (z0S_s15 s0_2 i3_2 v3)))
def z0S_f2 (s0_2 : List UInt8) : Option (Bool × Unit) :=
  (some ((Bool.true, ())))
theorem z0S_m_w2_le (n : Nat) (hn : big ≤ n)  (s0_2 : List UInt8) (hx : List.length (s0_2) < lenMax) : LeF some (loopL (fun i__ e__ s__ => z0S_b2 s0_2 i__ e__) (fun s__ => z0S_f2 s0_2) 0 (s0_2) ()) (z0S_m_w2 n n s0_2 0) := by
  refine loopL_le (f := some) (W := fun k__ i__ s__ => z0S_m_w2 n k__ s0_2 i__) (body := (fun i__ e__ s__ => z0S_b2 s0_2 i__ e__)) (fin := (fun s__ => z0S_f2 s0_2)) (fun k__ i__ s__ => ?_) hx () n (by unfold big at hn; unfold lenMax at hx; omega)
  show LeF _ _ (z0S_m_l2 n (z0S_m_w2 n k__) s0_2 i__)
  exact leCond (leBind fun v3 => (leCond (leCond (leSome rfl) (leCond (leCond (leSome rfl) (by apply ref01_IsName_s15_le n hn)) (by apply ref01_IsName_s15_le n hn))) (leCond (leCond (leSome rfl) (by apply ref01_IsName_s15_le n hn)) (by apply ref01_IsName_s15_le n hn)))) (leMap (leSome rfl))
def z0S_M (s : List UInt8) : Option (Bool × Unit) :=
  (bif (↑s.length : Int) == (0 : Int) then (some ((Bool.false, ()))) else (bif decide ((↑s.length : Int) > (24 : Int)) then (some ((Bool.false, ()))) else (bif decide (List.length (s) < lenMax) then loopL (fun i__ e__ s__ => z0S_b2 (s) i__ e__) (fun s__ => z0S_f2 (s)) 0 (s) () else none)))
theorem z0S_run (s : List UInt8) (y : Bool × Unit) (h : z0S_M s = some y) : ∃ n, z0S_m n s = some y :=
  ⟨big, LeF.top (show LeF some (z0S_M s) (z0S_m big s) from (fun (n : Nat) (hn : big ≤ n) => show LeF some (z0S_M s) (z0S_m n s) from (leCond (leSome rfl) (leCond (leSome rfl) (leGuard fun hx => by apply z0S_m_w2_le n hn; exact hx)))) big (Nat.le_refl _)) h⟩
def z0S_e : Entry := { f := 136, args := z0S_a, ress := z0S_r, m := fun x => z0S_M x.1 }
theorem z0S_ok : FnOK Tryz.prog z0S_e := fn_ok (g := z0S_g) (fn := Tryz.f136) hmixed tabOk eNil (by kernel_rfl) (by kernel_rfl) (by kernel_rfl) (fun x y h => let ⟨n, hn⟩ := z0S_run x.1 y h; ⟨z0S_an n, iNil, (z0S_eq n x).trans hn⟩)
abbrev zE_a : Ty := .pair t33 (.pair t214 .unit)
abbrev zE_r : Ty := .pair t33 .unit
def zE_g : G := { T := T, E := [], muts := [5], fz := [] }
def zE_k : List (List Nat) := [[1, 5, 8, 9, 10]]
def zE_an (n : Nat) : Ann := { keep := zE_k, fuel := n, inl := [], deep := 0 }
def zE_m_l0 (n : Nat) (r0 : (Tra × Unit → Option (Bool × Unit)) → List Tra → Int → Int → List Tra → Option (List Tra × Unit)) (holds1_0 : Tra × Unit → Option (Bool × Unit)) (t8_0 : List Tra) (t9_0 : Int) (t10_0 : Int) (c0_0 : List Tra) : Option (List Tra × Unit) :=
  (bif decide (t10_0 < t9_0) then (Option.bind (idx t8_0 t10_0) fun (v1 : Tra) => (Option.bind (holds1_0 ((v1.1, v1.2.1, v1.2.2.1, v1.2.2.2.1, v1.2.2.2.2.1, ()), ())) fun (v2 : Bool × Unit) => (bif v2.1 then (bif decide (c0_0.length + (1 : Nat) ≤ memMax) then r0 holds1_0 t8_0 t9_0 (IntKind.i64.wrap (t10_0 + (1 : Int))) (c0_0 ++ [(v1.1, v1.2.1, v1.2.2.1, v1.2.2.2.1, v1.2.2.2.2.1, ())]) else none) else r0 holds1_0 t8_0 t9_0 (IntKind.i64.wrap (t10_0 + (1 : Int))) c0_0))) else some (c0_0, ()))
def zE_m_w0 (n : Nat)  (k : Nat) (holds1_0 : Tra × Unit → Option (Bool × Unit)) (t8_0 : List Tra) (t9_0 : Int) (t10_0 : Int) (c0_0 : List Tra) : Option (List Tra × Unit) :=
  iter (fun r y => zE_m_l0 n (fun holds1_0 t8_0 t9_0 t10_0 c0_0 => r ((holds1_0, (t8_0, (t9_0, (t10_0, ())))), ((c0_0, ()), ()))) y.1.1 y.1.2.1 y.1.2.2.1 y.1.2.2.2.1 y.2.1.1) k ((holds1_0, (t8_0, (t9_0, (t10_0, ())))), ((c0_0, ()), ()))
def zE_m (n : Nat) (l : List Tra) (holds : Tra × Unit → Option (Bool × Unit)) : Option (List Tra × Unit) :=
  (zE_m_w0 n n (holds) (l) ((↑l.length : Int)) ((0 : Int)) ([]))
theorem zE_eq (n : Nat) (x : zE_a.den) : runF zE_g (zE_an n) Tryz.f139 zE_a zE_r x = zE_m n x.1 x.2.1 := by kernel_rfl
def zE_b0 (holds1_0 : Tra × Unit → Option (Bool × Unit)) (t8_0 : List Tra) (t10_0 : Int) (v1 : Tra) (c0_0 : List Tra) : Option ((List Tra × Unit) ⊕ (List Tra)) :=
  (Option.bind (holds1_0 ((v1.1, v1.2.1, v1.2.2.1, v1.2.2.2.1, v1.2.2.2.2.1, ()), ())) fun (v2 : Bool × Unit) => (bif v2.1 then (bif decide (c0_0.length + (1 : Nat) ≤ memMax) then (some (Sum.inr (c0_0 ++ [(v1.1, v1.2.1, v1.2.2.1, v1.2.2.2.1, v1.2.2.2.2.1, ())]))) else none) else (some (Sum.inr (c0_0)))))
def zE_f0 (holds1_0 : Tra × Unit → Option (Bool × Unit)) (t8_0 : List Tra) (c0_0 : List Tra) : Option (List Tra × Unit) :=
  (some ((c0_0, ())))
theorem zE_m_w0_le (n : Nat) (hn : big ≤ n)  (holds1_0 : Tra × Unit → Option (Bool × Unit)) (t8_0 : List Tra) (c0_0 : List Tra) (hx : List.length (t8_0) < lenMax) : LeF some (loopL (fun i__ e__ s__ => zE_b0 holds1_0 t8_0 i__ e__ s__) (fun s__ => zE_f0 holds1_0 t8_0 s__) 0 (t8_0) c0_0) (zE_m_w0 n n holds1_0 t8_0 (List.length (t8_0) : Int) 0 c0_0) := by
  refine loopL_le (f := some) (W := fun k__ i__ s__ => zE_m_w0 n k__ holds1_0 t8_0 (List.length (t8_0) : Int) i__ s__) (body := (fun i__ e__ s__ => zE_b0 holds1_0 t8_0 i__ e__ s__)) (fin := (fun s__ => zE_f0 holds1_0 t8_0 s__)) (fun k__ i__ s__ => ?_) hx c0_0 n (by unfold big at hn; unfold lenMax at hx; omega)
  show LeF _ _ (zE_m_l0 n (zE_m_w0 n k__) holds1_0 t8_0 (List.length (t8_0) : Int) i__ s__)
  exact leCond (leBind fun v1 => (leBind fun v2 => (leCond (leCond (leSome rfl) leNone) (leSome rfl)))) (leMap (leSome rfl))
def zE_M (l : List Tra) (holds : Tra × Unit → Option (Bool × Unit)) : Option (List Tra × Unit) :=
  (bif decide (List.length (l) < lenMax) then loopL (fun i__ e__ s__ => zE_b0 (holds) (l) i__ e__ s__) (fun s__ => zE_f0 (holds) (l) s__) 0 (l) ([]) else none)
theorem zE_run (l : List Tra) (holds : Tra × Unit → Option (Bool × Unit)) (y : List Tra × Unit) (h : zE_M l holds = some y) : ∃ n, zE_m n l holds = some y :=
  ⟨big, LeF.top (show LeF some (zE_M l holds) (zE_m big l holds) from (fun (n : Nat) (hn : big ≤ n) => show LeF some (zE_M l holds) (zE_m n l holds) from (leGuard fun hx => by apply zE_m_w0_le n hn; exact hx)) big (Nat.le_refl _)) h⟩
def zE_e : Entry := { f := 139, args := zE_a, ress := zE_r, m := fun x => zE_M x.1 x.2.1 }
theorem zE_ok : FnOK Tryz.prog zE_e := fn_ok (g := zE_g) (fn := Tryz.f139) hmixed tabOk eNil (by kernel_rfl) (by kernel_rfl) (by kernel_rfl) (fun x y h => let ⟨n, hn⟩ := zE_run x.1 x.2.1 y h; ⟨zE_an n, iNil, (zE_eq n x).trans hn⟩)
abbrev z8_a : Ty := .pair t57 (.pair t216 .unit)
abbrev z8_r : Ty := .pair t164 .unit
def z8_g : G := { T := T, E := [], muts := [5], fz := [] }
def z8_k : List (List Nat) := [[1, 5, 8, 9, 10]]
def z8_an (n : Nat) : Ann := { keep := z8_k, fuel := n, inl := [], deep := 0 }
def z8_m_l0 (n : Nat) (r0 : ((List UInt8 × Int × Unit) × Unit → Option (Int × Unit)) → List (List UInt8 × Int × Unit) → Int → Int → List Int → Option (List Int × Unit)) (of1_0 : (List UInt8 × Int × Unit) × Unit → Option (Int × Unit)) (t8_0 : List (List UInt8 × Int × Unit)) (t9_0 : Int) (t10_0 : Int) (c0_0 : List Int) : Option (List Int × Unit) :=
  (bif decide (t10_0 < t9_0) then (Option.bind (idx t8_0 t10_0) fun (v1 : List UInt8 × Int × Unit) => (Option.bind (of1_0 ((v1.1, v1.2.1, ()), ())) fun (v2 : Int × Unit) => (bif decide (c0_0.length + (1 : Nat) ≤ memMax) then r0 of1_0 t8_0 t9_0 (IntKind.i64.wrap (t10_0 + (1 : Int))) (c0_0 ++ [v2.1]) else none))) else some (c0_0, ()))
def z8_m_w0 (n : Nat)  (k : Nat) (of1_0 : (List UInt8 × Int × Unit) × Unit → Option (Int × Unit)) (t8_0 : List (List UInt8 × Int × Unit)) (t9_0 : Int) (t10_0 : Int) (c0_0 : List Int) : Option (List Int × Unit) :=
  iter (fun r y => z8_m_l0 n (fun of1_0 t8_0 t9_0 t10_0 c0_0 => r ((of1_0, (t8_0, (t9_0, (t10_0, ())))), ((c0_0, ()), ()))) y.1.1 y.1.2.1 y.1.2.2.1 y.1.2.2.2.1 y.2.1.1) k ((of1_0, (t8_0, (t9_0, (t10_0, ())))), ((c0_0, ()), ()))
def z8_m (n : Nat) (l : List (List UInt8 × Int × Unit)) (of : (List UInt8 × Int × Unit) × Unit → Option (Int × Unit)) : Option (List Int × Unit) :=
  (z8_m_w0 n n (of) (l) ((↑l.length : Int)) ((0 : Int)) ([]))
theorem z8_eq (n : Nat) (x : z8_a.den) : runF z8_g (z8_an n) Tryz.f142 z8_a z8_r x = z8_m n x.1 x.2.1 := by kernel_rfl
def z8_b0 (of1_0 : (List UInt8 × Int × Unit) × Unit → Option (Int × Unit)) (t8_0 : List (List UInt8 × Int × Unit)) (t10_0 : Int) (v1 : List UInt8 × Int × Unit) (c0_0 : List Int) : Option ((List Int × Unit) ⊕ (List Int)) :=
  (Option.bind (of1_0 ((v1.1, v1.2.1, ()), ())) fun (v2 : Int × Unit) => (bif decide (c0_0.length + (1 : Nat) ≤ memMax) then (some (Sum.inr (c0_0 ++ [v2.1]))) else none))
def z8_f0 (of1_0 : (List UInt8 × Int × Unit) × Unit → Option (Int × Unit)) (t8_0 : List (List UInt8 × Int × Unit)) (c0_0 : List Int) : Option (List Int × Unit) :=
  (some ((c0_0, ())))
theorem z8_m_w0_le (n : Nat) (hn : big ≤ n)  (of1_0 : (List UInt8 × Int × Unit) × Unit → Option (Int × Unit)) (t8_0 : List (List UInt8 × Int × Unit)) (c0_0 : List Int) (hx : List.length (t8_0) < lenMax) : LeF some (loopL (fun i__ e__ s__ => z8_b0 of1_0 t8_0 i__ e__ s__) (fun s__ => z8_f0 of1_0 t8_0 s__) 0 (t8_0) c0_0) (z8_m_w0 n n of1_0 t8_0 (List.length (t8_0) : Int) 0 c0_0) := by
  refine loopL_le (f := some) (W := fun k__ i__ s__ => z8_m_w0 n k__ of1_0 t8_0 (List.length (t8_0) : Int) i__ s__) (body := (fun i__ e__ s__ => z8_b0 of1_0 t8_0 i__ e__ s__)) (fin := (fun s__ => z8_f0 of1_0 t8_0 s__)) (fun k__ i__ s__ => ?_) hx c0_0 n (by unfold big at hn; unfold lenMax at hx; omega)
  show LeF _ _ (z8_m_l0 n (z8_m_w0 n k__) of1_0 t8_0 (List.length (t8_0) : Int) i__ s__)
  exact leCond (leBind fun v1 => (leBind fun v2 => (leCond (leSome rfl) leNone))) (leMap (leSome rfl))
def z8_M (l : List (List UInt8 × Int × Unit)) (of : (List UInt8 × Int × Unit) × Unit → Option (Int × Unit)) : Option (List Int × Unit) :=
  (bif decide (List.length (l) < lenMax) then loopL (fun i__ e__ s__ => z8_b0 (of) (l) i__ e__ s__) (fun s__ => z8_f0 (of) (l) s__) 0 (l) ([]) else none)
theorem z8_run (l : List (List UInt8 × Int × Unit)) (of : (List UInt8 × Int × Unit) × Unit → Option (Int × Unit)) (y : List Int × Unit) (h : z8_M l of = some y) : ∃ n, z8_m n l of = some y :=
  ⟨big, LeF.top (show LeF some (z8_M l of) (z8_m big l of) from (fun (n : Nat) (hn : big ≤ n) => show LeF some (z8_M l of) (z8_m n l of) from (leGuard fun hx => by apply z8_m_w0_le n hn; exact hx)) big (Nat.le_refl _)) h⟩
def z8_e : Entry := { f := 142, args := z8_a, ress := z8_r, m := fun x => z8_M x.1 x.2.1 }
theorem z8_ok : FnOK Tryz.prog z8_e := fn_ok (g := z8_g) (fn := Tryz.f142) hmixed tabOk eNil (by kernel_rfl) (by kernel_rfl) (by kernel_rfl) (fun x y h => let ⟨n, hn⟩ := z8_run x.1 x.2.1 y h; ⟨z8_an n, iNil, (z8_eq n x).trans hn⟩)
abbrev zK_a : Ty := .pair t197 .unit
abbrev zK_r : Ty := .pair t3 .unit
def zK_g : G := { T := T, E := [], muts := [], fz := [] }
def zK_k : List (List Nat) := []
def zK_an (n : Nat) : Ann := { keep := zK_k, fuel := n, inl := [], deep := 0 }
def zK_m (n : Nat) (p : Pth) : Option (Int × Unit) :=
  some (p.1, ())
theorem zK_eq (n : Nat) (x : zK_a.den) : runF zK_g (zK_an n) Tryz.f146 zK_a zK_r x = zK_m n x.1 := by kernel_rfl
def zK (p : Pth) : (Int × Unit) :=
  (p.1, ())
abbrev zK_M (p : Pth) : Option (Int × Unit) := some (zK p)
theorem zK_run (p : Pth) (y : Int × Unit) (h : zK_M p = some y) : ∃ n, zK_m n p = some y :=
  ⟨0, by rw [← h]; show zK_m 0 p = some (zK p); unfold zK_m zK; first | rfl | (simp only [cond_some]; done) | (simp only [cond_some]; rfl)⟩
def zK_e : Entry := { f := 146, args := zK_a, ress := zK_r, m := fun x => zK_M x.1 }
theorem zK_ok : FnOK Tryz.prog zK_e := fn_ok (g := zK_g) (fn := Tryz.f146) hmixed tabOk eNil (by kernel_rfl) (by kernel_rfl) (by kernel_rfl) (fun x y h => let ⟨n, hn⟩ := zK_run x.1 y h; ⟨zK_an n, iNil, (zK_eq n x).trans hn⟩)
abbrev zI_a : Ty := .pair t3 (.pair (.ref t35) .unit)
abbrev zI_r : Ty := .pair t4 .unit
def zI_g : G := { T := T, E := [], muts := [], fz := [] }
def zI_k : List (List Nat) := []
def zI_an (n : Nat) : Ann := { keep := zI_k, fuel := n, inl := [], deep := 0 }
def zI_m (n : Nat) (s : Int) (p1 : Cha) : Option (Bool × Unit) :=
  (bif decide (s < (0 : Int)) then some (Bool.true, ()) else some (decide (s ≥ (↑p1.1.length : Int)), ()))
theorem zI_eq (n : Nat) (x : zI_a.den) : runF zI_g (zI_an n) Tryz.f148 zI_a zI_r x = zI_m n x.1 x.2.1 := by kernel_rfl
def zI (s : Int) (p1 : Cha) : (Bool × Unit) :=
  (bif decide (s < (0 : Int)) then (Bool.true, ()) else (decide (s ≥ (↑p1.1.length : Int)), ()))
abbrev zI_M (s : Int) (p1 : Cha) : Option (Bool × Unit) := some (zI s p1)
theorem zI_run (s : Int) (p1 : Cha) (y : Bool × Unit) (h : zI_M s p1 = some y) : ∃ n, zI_m n s p1 = some y :=
  ⟨0, by rw [← h]; show zI_m 0 s p1 = some (zI s p1); unfold zI_m zI; first | rfl | (simp only [cond_some]; done) | (simp only [cond_some]; rfl)⟩
def zI_e : Entry := { f := 148, args := zI_a, ress := zI_r, m := fun x => zI_M x.1 x.2.1 }
theorem zI_ok : FnOK Tryz.prog zI_e := fn_ok (g := zI_g) (fn := Tryz.f148) hmixed tabOk eNil (by kernel_rfl) (by kernel_rfl) (by kernel_rfl) (fun x y h => let ⟨n, hn⟩ := zI_run x.1 x.2.1 y h; ⟨zI_an n, iNil, (zI_eq n x).trans hn⟩)
abbrev zS_a : Ty := .pair t28 (.pair t3 .unit)
abbrev zS_r : Ty := .pair t3 .unit
def zS_g : G := { T := T, E := [], muts := [], fz := [] }
def zS_k : List (List Nat) := [[0, 1, 7, 8]]
def zS_an (n : Nat) : Ann := { keep := zS_k, fuel := n, inl := [], deep := 0 }
def zS_m_l0 (n : Nat) (r0 : List Int → Int → Int → Int → Option (Int × Unit)) (s0_0 : List Int) (v1_0 : Int) (t7_0 : Int) (t8_0 : Int) : Option (Int × Unit) :=
  (bif decide (t8_0 < t7_0) then (Option.bind (idx s0_0 t8_0) fun (v1 : Int) => (bif v1_0 == v1 then some (t8_0, ()) else r0 s0_0 v1_0 t7_0 (IntKind.i64.wrap (t8_0 + (1 : Int))))) else some ((-1 : Int), ()))
def zS_m_w0 (n : Nat)  (k : Nat) (s0_0 : List Int) (v1_0 : Int) (t7_0 : Int) (t8_0 : Int) : Option (Int × Unit) :=
  iter (fun r y => zS_m_l0 n (fun s0_0 v1_0 t7_0 t8_0 => r ((s0_0, (v1_0, (t7_0, (t8_0, ())))), ((), ()))) y.1.1 y.1.2.1 y.1.2.2.1 y.1.2.2.2.1) k ((s0_0, (v1_0, (t7_0, (t8_0, ())))), ((), ()))
def zS_m (n : Nat) (s : List Int) (v : Int) : Option (Int × Unit) :=
  (zS_m_w0 n n (s) (v) ((↑s.length : Int)) ((0 : Int)))
theorem zS_eq (n : Nat) (x : zS_a.den) : runF zS_g (zS_an n) Tryz.f152 zS_a zS_r x = zS_m n x.1 x.2.1 := by kernel_rfl
def zS_b0 (s0_0 : List Int) (v1_0 : Int) (t8_0 : Int) (v1 : Int) : Option ((Int × Unit) ⊕ Unit) :=
  (bif v1_0 == v1 then (some (Sum.inl ((t8_0, ())))) else (some (Sum.inr ())))
def zS_f0 (s0_0 : List Int) (v1_0 : Int) : Option (Int × Unit) :=
  (some (((-1 : Int), ())))
theorem zS_m_w0_le (n : Nat) (hn : big ≤ n)  (s0_0 : List Int) (v1_0 : Int) (hx : List.length (s0_0) < lenMax) : LeF some (loopL (fun i__ e__ s__ => zS_b0 s0_0 v1_0 i__ e__) (fun s__ => zS_f0 s0_0 v1_0) 0 (s0_0) ()) (zS_m_w0 n n s0_0 v1_0 (List.length (s0_0) : Int) 0) := by
  refine loopL_le (f := some) (W := fun k__ i__ s__ => zS_m_w0 n k__ s0_0 v1_0 (List.length (s0_0) : Int) i__) (body := (fun i__ e__ s__ => zS_b0 s0_0 v1_0 i__ e__)) (fin := (fun s__ => zS_f0 s0_0 v1_0)) (fun k__ i__ s__ => ?_) hx () n (by unfold big at hn; unfold lenMax at hx; omega)
  show LeF _ _ (zS_m_l0 n (zS_m_w0 n k__) s0_0 v1_0 (List.length (s0_0) : Int) i__)
  exact leCond (leBind fun v1 => (leCond (leSome rfl) (leSome rfl))) (leMap (leSome rfl))
def zS_M (s : List Int) (v : Int) : Option (Int × Unit) :=
  (bif decide (List.length (s) < lenMax) then loopL (fun i__ e__ s__ => zS_b0 (s) (v) i__ e__) (fun s__ => zS_f0 (s) (v)) 0 (s) () else none)
theorem zS_run (s : List Int) (v : Int) (y : Int × Unit) (h : zS_M s v = some y) : ∃ n, zS_m n s v = some y :=
  ⟨big, LeF.top (show LeF some (zS_M s v) (zS_m big s v) from (fun (n : Nat) (hn : big ≤ n) => show LeF some (zS_M s v) (zS_m n s v) from (leGuard fun hx => by apply zS_m_w0_le n hn; exact hx)) big (Nat.le_refl _)) h⟩
def zS_e : Entry := { f := 152, args := zS_a, ress := zS_r, m := fun x => zS_M x.1 x.2.1 }
theorem zS_ok : FnOK Tryz.prog zS_e := fn_ok (g := zS_g) (fn := Tryz.f152) hmixed tabOk eNil (by kernel_rfl) (by kernel_rfl) (by kernel_rfl) (fun x y h => let ⟨n, hn⟩ := zS_run x.1 x.2.1 y h; ⟨zS_an n, iNil, (zS_eq n x).trans hn⟩)
abbrev zD_a : Ty := .pair t37 (.pair t9 .unit)
abbrev zD_r : Ty := .pair t3 .unit
def zD_g : G := { T := T, E := [], muts := [], fz := [] }
def zD_k : List (List Nat) := [[0, 1, 7, 8]]
def zD_an (n : Nat) : Ann := { keep := zD_k, fuel := n, inl := [], deep := 0 }
def zD_m_l0 (n : Nat) (r0 : List (List UInt8) → List UInt8 → Int → Int → Option (Int × Unit)) (s0_0 : List (List UInt8)) (v1_0 : List UInt8) (t7_0 : Int) (t8_0 : Int) : Option (Int × Unit) :=
  (bif decide (t8_0 < t7_0) then (Option.bind (idx s0_0 t8_0) fun (v1 : List UInt8) => (bif v1_0 == v1 then some (t8_0, ()) else r0 s0_0 v1_0 t7_0 (IntKind.i64.wrap (t8_0 + (1 : Int))))) else some ((-1 : Int), ()))
def zD_m_w0 (n : Nat)  (k : Nat) (s0_0 : List (List UInt8)) (v1_0 : List UInt8) (t7_0 : Int) (t8_0 : Int) : Option (Int × Unit) :=
  iter (fun r y => zD_m_l0 n (fun s0_0 v1_0 t7_0 t8_0 => r ((s0_0, (v1_0, (t7_0, (t8_0, ())))), ((), ()))) y.1.1 y.1.2.1 y.1.2.2.1 y.1.2.2.2.1) k ((s0_0, (v1_0, (t7_0, (t8_0, ())))), ((), ()))
def zD_m (n : Nat) (s : List (List UInt8)) (v : List UInt8) : Option (Int × Unit) :=
  (zD_m_w0 n n (s) (v) ((↑s.length : Int)) ((0 : Int)))
theorem zD_eq (n : Nat) (x : zD_a.den) : runF zD_g (zD_an n) Tryz.f154 zD_a zD_r x = zD_m n x.1 x.2.1 := by kernel_rfl
def zD_b0 (s0_0 : List (List UInt8)) (v1_0 : List UInt8) (t8_0 : Int) (v1 : List UInt8) : Option ((Int × Unit) ⊕ Unit) :=
  (bif v1_0 == v1 then (some (Sum.inl ((t8_0, ())))) else (some (Sum.inr ())))
def zD_f0 (s0_0 : List (List UInt8)) (v1_0 : List UInt8) : Option (Int × Unit) :=
  (some (((-1 : Int), ())))
theorem zD_m_w0_le (n : Nat) (hn : big ≤ n)  (s0_0 : List (List UInt8)) (v1_0 : List UInt8) (hx : List.length (s0_0) < lenMax) : LeF some (loopL (fun i__ e__ s__ => zD_b0 s0_0 v1_0 i__ e__) (fun s__ => zD_f0 s0_0 v1_0) 0 (s0_0) ()) (zD_m_w0 n n s0_0 v1_0 (List.length (s0_0) : Int) 0) := by
  refine loopL_le (f := some) (W := fun k__ i__ s__ => zD_m_w0 n k__ s0_0 v1_0 (List.length (s0_0) : Int) i__) (body := (fun i__ e__ s__ => zD_b0 s0_0 v1_0 i__ e__)) (fin := (fun s__ => zD_f0 s0_0 v1_0)) (fun k__ i__ s__ => ?_) hx () n (by unfold big at hn; unfold lenMax at hx; omega)
  show LeF _ _ (zD_m_l0 n (zD_m_w0 n k__) s0_0 v1_0 (List.length (s0_0) : Int) i__)
  exact leCond (leBind fun v1 => (leCond (leSome rfl) (leSome rfl))) (leMap (leSome rfl))
def zD_M (s : List (List UInt8)) (v : List UInt8) : Option (Int × Unit) :=
  (bif decide (List.length (s) < lenMax) then loopL (fun i__ e__ s__ => zD_b0 (s) (v) i__ e__) (fun s__ => zD_f0 (s) (v)) 0 (s) () else none)
theorem zD_run (s : List (List UInt8)) (v : List UInt8) (y : Int × Unit) (h : zD_M s v = some y) : ∃ n, zD_m n s v = some y :=
  ⟨big, LeF.top (show LeF some (zD_M s v) (zD_m big s v) from (fun (n : Nat) (hn : big ≤ n) => show LeF some (zD_M s v) (zD_m n s v) from (leGuard fun hx => by apply zD_m_w0_le n hn; exact hx)) big (Nat.le_refl _)) h⟩
def zD_e : Entry := { f := 154, args := zD_a, ress := zD_r, m := fun x => zD_M x.1 x.2.1 }
theorem zD_ok : FnOK Tryz.prog zD_e := fn_ok (g := zD_g) (fn := Tryz.f154) hmixed tabOk eNil (by kernel_rfl) (by kernel_rfl) (by kernel_rfl) (fun x y h => let ⟨n, hn⟩ := zD_run x.1 x.2.1 y h; ⟨zD_an n, iNil, (zD_eq n x).trans hn⟩)
abbrev z0N_a : Ty := .pair t9 .unit
abbrev z0N_r : Ty := .pair t4 .unit
def z0N_g : G := { T := T, E := [], muts := [], fz := [] }
def z0N_k : List (List Nat) := [[0, 8]]
def z0N_an (n : Nat) : Ann := { keep := z0N_k, fuel := n, inl := [], deep := 0 }
def z0N_m_j14 (n : Nat) (r0 : List UInt8 → List UInt8 → Int → Option (Bool × Unit)) (s0_0 : List UInt8) (str0__0 : List UInt8) (pos0__0 : Int) (j2 : Bool) (j7 : Bool) : Option (Bool × Unit) :=
  (bif !j2 then (bif pos0__0 == (0 : Int) then some (Bool.false, ()) else (bif !j7 then some (Bool.false, ()) else r0 s0_0 str0__0 (runeAt str0__0 pos0__0).2)) else r0 s0_0 str0__0 (runeAt str0__0 pos0__0).2)
def z0N_m_j15 (n : Nat) (r0 : List UInt8 → List UInt8 → Int → Option (Bool × Unit)) (s0_0 : List UInt8) (str0__0 : List UInt8) (pos0__0 : Int) (j2 : Bool) : Option (Bool × Unit) :=
  (bif decide ((runeAt str0__0 pos0__0).1 ≥ (48 : Int)) then (bif decide ((runeAt str0__0 pos0__0).1 ≤ (57 : Int)) then (z0N_m_j14 n r0 s0_0 str0__0 pos0__0 j2 (Bool.true)) else (z0N_m_j14 n r0 s0_0 str0__0 pos0__0 j2 ((runeAt str0__0 pos0__0).1 == (95 : Int)))) else (z0N_m_j14 n r0 s0_0 str0__0 pos0__0 j2 ((runeAt str0__0 pos0__0).1 == (95 : Int))))
def z0N_m_l0 (n : Nat) (r0 : List UInt8 → List UInt8 → Int → Option (Bool × Unit)) (s0_0 : List UInt8) (str0__0 : List UInt8) (pos0__0 : Int) : Option (Bool × Unit) :=
  (bif decide (pos0__0 < (↑str0__0.length : Int)) then (bif decide ((runeAt str0__0 pos0__0).1 ≥ (65 : Int)) then (bif decide ((runeAt str0__0 pos0__0).1 ≤ (90 : Int)) then (z0N_m_j15 n r0 s0_0 str0__0 pos0__0 (Bool.true)) else (bif decide ((runeAt str0__0 pos0__0).1 ≥ (97 : Int)) then (z0N_m_j15 n r0 s0_0 str0__0 pos0__0 (decide ((runeAt str0__0 pos0__0).1 ≤ (122 : Int)))) else (z0N_m_j15 n r0 s0_0 str0__0 pos0__0 (Bool.false)))) else (bif decide ((runeAt str0__0 pos0__0).1 ≥ (97 : Int)) then (z0N_m_j15 n r0 s0_0 str0__0 pos0__0 (decide ((runeAt str0__0 pos0__0).1 ≤ (122 : Int)))) else (z0N_m_j15 n r0 s0_0 str0__0 pos0__0 (Bool.false)))) else (bif !s0_0 == [] then some (decide ((↑s0_0.length : Int) ≤ (24 : Int)), ()) else some (Bool.false, ())))
def z0N_m_w0 (n : Nat)  (k : Nat) (s0_0 : List UInt8) (str0__0 : List UInt8) (pos0__0 : Int) : Option (Bool × Unit) :=
  iter (fun r y => z0N_m_l0 n (fun s0_0 str0__0 pos0__0 => r ((s0_0, ()), (((str0__0, pos0__0), ()), ()))) y.1.1 y.2.1.1.1 y.2.1.1.2) k ((s0_0, ()), (((str0__0, pos0__0), ()), ()))
def z0N_m (n : Nat) (s : List UInt8) : Option (Bool × Unit) :=
  (z0N_m_w0 n n (s) (s) ((0 : Int)))
theorem z0N_eq (n : Nat) (x : z0N_a.den) : runF z0N_g (z0N_an n) Tryz.f155 z0N_a z0N_r x = z0N_m n x.1 := by kernel_rfl
def z0N_s14 (s0_0 : List UInt8) (str0__0 : List UInt8) (pos0__0 : Int) (j2 : Bool) (j7 : Bool) : Option ((Bool × Unit) ⊕ Unit) :=
  (bif !j2 then (bif pos0__0 == (0 : Int) then (some (Sum.inl ((Bool.false, ())))) else (bif !j7 then (some (Sum.inl ((Bool.false, ())))) else (some (Sum.inr ())))) else (some (Sum.inr ())))
theorem gauge_IsName_s14_le (n : Nat) (hn : big ≤ n)  (r0 : List UInt8 → List UInt8 → Int → Option (Bool × Unit)) (s0_0 : List UInt8) (str0__0 : List UInt8) (pos0__0 : Int) (j2 : Bool) (j7 : Bool) : LeF (elim some fun (s__ : Unit) => r0 s0_0 str0__0 (runeAt (str0__0) pos0__0).2) (z0N_s14 s0_0 str0__0 pos0__0 j2 j7) (z0N_m_j14 n r0 s0_0 str0__0 pos0__0 j2 j7) :=
  (leCond (leCond (leSome rfl) (leCond (leSome rfl) (leSome rfl))) (leSome rfl))
def z0N_s15 (s0_0 : List UInt8) (str0__0 : List UInt8) (pos0__0 : Int) (j2 : Bool) : Option ((Bool × Unit) ⊕ Unit) :=
  (bif decide ((runeAt str0__0 pos0__0).1 ≥ (48 : Int)) then (bif decide ((runeAt str0__0 pos0__0).1 ≤ (57 : Int)) then (z0N_s14 s0_0 str0__0 pos0__0 j2 (Bool.true)) else (z0N_s14 s0_0 str0__0 pos0__0 j2 ((runeAt str0__0 pos0__0).1 == (95 : Int)))) else (z0N_s14 s0_0 str0__0 pos0__0 j2 ((runeAt str0__0 pos0__0).1 == (95 : Int))))
theorem gauge_IsName_s15_le (n : Nat) (hn : big ≤ n)  (r0 : List UInt8 → List UInt8 → Int → Option (Bool × Unit)) (s0_0 : List UInt8) (str0__0 : List UInt8) (pos0__0 : Int) (j2 : Bool) : LeF (elim some fun (s__ : Unit) => r0 s0_0 str0__0 (runeAt (str0__0) pos0__0).2) (z0N_s15 s0_0 str0__0 pos0__0 j2) (z0N_m_j15 n r0 s0_0 str0__0 pos0__0 j2) :=
  (leCond (leCond (by apply gauge_IsName_s14_le n hn) (by apply gauge_IsName_s14_le n hn)) (by apply gauge_IsName_s14_le n hn))
def z0N_b0 (s0_0 : List UInt8) (str0__0 : List UInt8) (pos0__0 : Int) : Option ((Bool × Unit) ⊕ Unit) :=
  (bif decide ((runeAt str0__0 pos0__0).1 ≥ (65 : Int)) then (bif decide ((runeAt str0__0 pos0__0).1 ≤ (90 : Int)) then (z0N_s15 s0_0 str0__0 pos0__0 (Bool.true)) else (bif decide ((runeAt str0__0 pos0__0).1 ≥ (97 : Int)) then (z0N_s15 s0_0 str0__0 pos0__0 (decide ((runeAt str0__0 pos0__0).1 ≤ (122 : Int)))) else (z0N_s15 s0_0 str0__0 pos0__0 (Bool.false)))) else (bif decide ((runeAt str0__0 pos0__0).1 ≥ (97 : Int)) then (z0N_s15 s0_0 str0__0 pos0__0 (decide ((runeAt str0__0 pos0__0).1 ≤ (122 : Int)))) else (z0N_s15 s0_0 str0__0 pos0__0 (Bool.false))))
def z0N_f0 (s0_0 : List UInt8) (str0__0 : List UInt8) : Option (Bool × Unit) :=
  (bif !s0_0 == [] then (some ((decide ((↑s0_0.length : Int) ≤ (24 : Int)), ()))) else (some ((Bool.false, ()))))
theorem z0N_m_w0_le (n : Nat) (hn : big ≤ n)  (s0_0 : List UInt8) (str0__0 : List UInt8) (hx : List.length (str0__0) < lenMax) : LeF some (loopS (str0__0) (fun i__ s__ => z0N_b0 s0_0 str0__0 i__) (fun s__ => z0N_f0 s0_0 str0__0) (List.length (str0__0)) 0 ()) (z0N_m_w0 n n s0_0 str0__0 0) := by
  refine loopS_le (f := some) (W := fun k__ i__ s__ => z0N_m_w0 n k__ s0_0 str0__0 i__) (body := (fun i__ s__ => z0N_b0 s0_0 str0__0 i__)) (fin := (fun s__ => z0N_f0 s0_0 str0__0)) (fun k__ i__ s__ => ?_) () n (by unfold big at hn; unfold lenMax at hx; omega)
  show LeF _ _ (z0N_m_l0 n (z0N_m_w0 n k__) s0_0 str0__0 i__)
  exact leCond (leCond (leCond (by apply gauge_IsName_s15_le n hn) (leCond (by apply gauge_IsName_s15_le n hn) (by apply gauge_IsName_s15_le n hn))) (leCond (by apply gauge_IsName_s15_le n hn) (by apply gauge_IsName_s15_le n hn))) (leMap (leCond (leSome rfl) (leSome rfl)))
def z0N_M (s : List UInt8) : Option (Bool × Unit) :=
  (bif decide (List.length (s) < lenMax) then loopS (s) (fun i__ s__ => z0N_b0 (s) (s) i__) (fun s__ => z0N_f0 (s) (s)) (List.length (s)) 0 () else none)
theorem z0N_run (s : List UInt8) (y : Bool × Unit) (h : z0N_M s = some y) : ∃ n, z0N_m n s = some y :=
  ⟨big, LeF.top (show LeF some (z0N_M s) (z0N_m big s) from (fun (n : Nat) (hn : big ≤ n) => show LeF some (z0N_M s) (z0N_m n s) from (leGuard fun hx => by apply z0N_m_w0_le n hn; exact hx)) big (Nat.le_refl _)) h⟩
def z0N_e : Entry := { f := 155, args := z0N_a, ress := z0N_r, m := fun x => z0N_M x.1 }
theorem z0N_ok : FnOK Tryz.prog z0N_e := fn_ok (g := z0N_g) (fn := Tryz.f155) hmixed tabOk eNil (by kernel_rfl) (by kernel_rfl) (by kernel_rfl) (fun x y h => let ⟨n, hn⟩ := z0N_run x.1 y h; ⟨z0N_an n, iNil, (z0N_eq n x).trans hn⟩)
abbrev zG_a : Ty := .pair t28 (.pair t181 .unit)
abbrev zG_r : Ty := .pair t3 .unit
def zG_g : G := { T := T, E := [], muts := [], fz := [] }
def zG_k : List (List Nat) := [[0, 1, 7, 8]]
def zG_an (n : Nat) : Ann := { keep := zG_k, fuel := n, inl := [], deep := 0 }
def zG_m_l0 (n : Nat) (r0 : List Int → (Int × Unit → Option (Bool × Unit)) → Int → Int → Option (Int × Unit)) (s0_0 : List Int) (f1_0 : Int × Unit → Option (Bool × Unit)) (t7_0 : Int) (t8_0 : Int) : Option (Int × Unit) :=
  (bif decide (t8_0 < t7_0) then (Option.bind (idx s0_0 t8_0) fun (v1 : Int) => (Option.bind (f1_0 (v1, ())) fun (v2 : Bool × Unit) => (bif v2.1 then some (t8_0, ()) else r0 s0_0 f1_0 t7_0 (IntKind.i64.wrap (t8_0 + (1 : Int)))))) else some ((-1 : Int), ()))
def zG_m_w0 (n : Nat)  (k : Nat) (s0_0 : List Int) (f1_0 : Int × Unit → Option (Bool × Unit)) (t7_0 : Int) (t8_0 : Int) : Option (Int × Unit) :=
  iter (fun r y => zG_m_l0 n (fun s0_0 f1_0 t7_0 t8_0 => r ((s0_0, (f1_0, (t7_0, (t8_0, ())))), ((), ()))) y.1.1 y.1.2.1 y.1.2.2.1 y.1.2.2.2.1) k ((s0_0, (f1_0, (t7_0, (t8_0, ())))), ((), ()))
def zG_m (n : Nat) (s : List Int) (f : Int × Unit → Option (Bool × Unit)) : Option (Int × Unit) :=
  (zG_m_w0 n n (s) (f) ((↑s.length : Int)) ((0 : Int)))
theorem zG_eq (n : Nat) (x : zG_a.den) : runF zG_g (zG_an n) Tryz.f160 zG_a zG_r x = zG_m n x.1 x.2.1 := by kernel_rfl
def zG_b0 (s0_0 : List Int) (f1_0 : Int × Unit → Option (Bool × Unit)) (t8_0 : Int) (v1 : Int) : Option ((Int × Unit) ⊕ Unit) :=
  (Option.bind (f1_0 (v1, ())) fun (v2 : Bool × Unit) => (bif v2.1 then (some (Sum.inl ((t8_0, ())))) else (some (Sum.inr ()))))
def zG_f0 (s0_0 : List Int) (f1_0 : Int × Unit → Option (Bool × Unit)) : Option (Int × Unit) :=
  (some (((-1 : Int), ())))
theorem zG_m_w0_le (n : Nat) (hn : big ≤ n)  (s0_0 : List Int) (f1_0 : Int × Unit → Option (Bool × Unit)) (hx : List.length (s0_0) < lenMax) : LeF some (loopL (fun i__ e__ s__ => zG_b0 s0_0 f1_0 i__ e__) (fun s__ => zG_f0 s0_0 f1_0) 0 (s0_0) ()) (zG_m_w0 n n s0_0 f1_0 (List.length (s0_0) : Int) 0) := by
  refine loopL_le (f := some) (W := fun k__ i__ s__ => zG_m_w0 n k__ s0_0 f1_0 (List.length (s0_0) : Int) i__) (body := (fun i__ e__ s__ => zG_b0 s0_0 f1_0 i__ e__)) (fin := (fun s__ => zG_f0 s0_0 f1_0)) (fun k__ i__ s__ => ?_) hx () n (by unfold big at hn; unfold lenMax at hx; omega)
  show LeF _ _ (zG_m_l0 n (zG_m_w0 n k__) s0_0 f1_0 (List.length (s0_0) : Int) i__)
  exact leCond (leBind fun v1 => (leBind fun v2 => (leCond (leSome rfl) (leSome rfl)))) (leMap (leSome rfl))
def zG_M (s : List Int) (f : Int × Unit → Option (Bool × Unit)) : Option (Int × Unit) :=
  (bif decide (List.length (s) < lenMax) then loopL (fun i__ e__ s__ => zG_b0 (s) (f) i__ e__) (fun s__ => zG_f0 (s) (f)) 0 (s) () else none)
theorem zG_run (s : List Int) (f : Int × Unit → Option (Bool × Unit)) (y : Int × Unit) (h : zG_M s f = some y) : ∃ n, zG_m n s f = some y :=
  ⟨big, LeF.top (show LeF some (zG_M s f) (zG_m big s f) from (fun (n : Nat) (hn : big ≤ n) => show LeF some (zG_M s f) (zG_m n s f) from (leGuard fun hx => by apply zG_m_w0_le n hn; exact hx)) big (Nat.le_refl _)) h⟩
def zG_e : Entry := { f := 160, args := zG_a, ress := zG_r, m := fun x => zG_M x.1 x.2.1 }
theorem zG_ok : FnOK Tryz.prog zG_e := fn_ok (g := zG_g) (fn := Tryz.f160) hmixed tabOk eNil (by kernel_rfl) (by kernel_rfl) (by kernel_rfl) (fun x y h => let ⟨n, hn⟩ := zG_run x.1 x.2.1 y h; ⟨zG_an n, iNil, (zG_eq n x).trans hn⟩)
abbrev z0I_a : Ty := .pair t131 .unit
abbrev z0I_r : Ty := .pair t131 .unit
def z0I_g : G := { T := T, E := [], muts := [], fz := [] }
def z0I_k : List (List Nat) := []
def z0I_an (n : Nat) : Ann := { keep := z0I_k, fuel := n, inl := [], deep := 0 }
def z0I_m (n : Nat) (f : Fai) : Option (Fai × Unit) :=
  some ((f.1, (0 : Int), (0 : Int), (0 : Int), ()), ())
theorem z0I_eq (n : Nat) (x : z0I_a.den) : runF z0I_g (z0I_an n) Tryz.f162 z0I_a z0I_r x = z0I_m n x.1 := by kernel_rfl
def z0I (f : Fai) : (Fai × Unit) :=
  ((f.1, (0 : Int), (0 : Int), (0 : Int), ()), ())
abbrev z0I_M (f : Fai) : Option (Fai × Unit) := some (z0I f)
theorem z0I_run (f : Fai) (y : Fai × Unit) (h : z0I_M f = some y) : ∃ n, z0I_m n f = some y :=
  ⟨0, by rw [← h]; show z0I_m 0 f = some (z0I f); unfold z0I_m z0I; first | rfl | (simp only [cond_some]; done) | (simp only [cond_some]; rfl)⟩
def z0I_e : Entry := { f := 162, args := z0I_a, ress := z0I_r, m := fun x => z0I_M x.1 }
theorem z0I_ok : FnOK Tryz.prog z0I_e := fn_ok (g := z0I_g) (fn := Tryz.f162) hmixed tabOk eNil (by kernel_rfl) (by kernel_rfl) (by kernel_rfl) (fun x y h => let ⟨n, hn⟩ := z0I_run x.1 y h; ⟨z0I_an n, iNil, (z0I_eq n x).trans hn⟩)
abbrev z0J_a : Ty := .pair t131 (.pair t3 (.pair t55 .unit))
abbrev z0J_r : Ty := .pair t55 (.pair t4 .unit)
def z0J_g : G := { T := T, E := [], muts := [], fz := [] }
def z0J_k : List (List Nat) := []
def z0J_an (n : Nat) : Ann := { keep := z0J_k, fuel := n, inl := [], deep := 0 }
def z0J_m (n : Nat) (p0 : Fai) (p1 : Int) (p2 : List UInt8 × Int × Unit) : Option ((List UInt8 × Int × Unit) × Bool × Unit) :=
  some ((p2.1, p2.2.1, ()), Bool.true, ())
theorem z0J_eq (n : Nat) (x : z0J_a.den) : runF z0J_g (z0J_an n) Tryz.f163 z0J_a z0J_r x = z0J_m n x.1 x.2.1 x.2.2.1 := by kernel_rfl
def z0J (p0 : Fai) (p1 : Int) (p2 : List UInt8 × Int × Unit) : ((List UInt8 × Int × Unit) × Bool × Unit) :=
  ((p2.1, p2.2.1, ()), Bool.true, ())
abbrev z0J_M (p0 : Fai) (p1 : Int) (p2 : List UInt8 × Int × Unit) : Option ((List UInt8 × Int × Unit) × Bool × Unit) := some (z0J p0 p1 p2)
theorem z0J_run (p0 : Fai) (p1 : Int) (p2 : List UInt8 × Int × Unit) (y : (List UInt8 × Int × Unit) × Bool × Unit) (h : z0J_M p0 p1 p2 = some y) : ∃ n, z0J_m n p0 p1 p2 = some y :=
  ⟨0, by rw [← h]; show z0J_m 0 p0 p1 p2 = some (z0J p0 p1 p2); unfold z0J_m z0J; first | rfl | (simp only [cond_some]; done) | (simp only [cond_some]; rfl)⟩
def z0J_e : Entry := { f := 163, args := z0J_a, ress := z0J_r, m := fun x => z0J_M x.1 x.2.1 x.2.2.1 }
theorem z0J_ok : FnOK Tryz.prog z0J_e := fn_ok (g := z0J_g) (fn := Tryz.f163) hmixed tabOk eNil (by kernel_rfl) (by kernel_rfl) (by kernel_rfl) (fun x y h => let ⟨n, hn⟩ := z0J_run x.1 x.2.1 x.2.2.1 y h; ⟨z0J_an n, iNil, (z0J_eq n x).trans hn⟩)
abbrev z0K_a : Ty := .pair t131 .unit
abbrev z0K_r : Ty := .pair t131 .unit
def z0K_g : G := { T := T, E := [], muts := [], fz := [] }
def z0K_k : List (List Nat) := []
def z0K_an (n : Nat) : Ann := { keep := z0K_k, fuel := n, inl := [], deep := 0 }
def z0K_m (n : Nat) (f : Fai) : Option (Fai × Unit) :=
  some ((f.1, f.2.1, (0 : Int), (0 : Int), ()), ())
theorem z0K_eq (n : Nat) (x : z0K_a.den) : runF z0K_g (z0K_an n) Tryz.f164 z0K_a z0K_r x = z0K_m n x.1 := by kernel_rfl
def z0K (f : Fai) : (Fai × Unit) :=
  ((f.1, f.2.1, (0 : Int), (0 : Int), ()), ())
abbrev z0K_M (f : Fai) : Option (Fai × Unit) := some (z0K f)
theorem z0K_run (f : Fai) (y : Fai × Unit) (h : z0K_M f = some y) : ∃ n, z0K_m n f = some y :=
  ⟨0, by rw [← h]; show z0K_m 0 f = some (z0K f); unfold z0K_m z0K; first | rfl | (simp only [cond_some]; done) | (simp only [cond_some]; rfl)⟩
def z0K_e : Entry := { f := 164, args := z0K_a, ress := z0K_r, m := fun x => z0K_M x.1 }
theorem z0K_ok : FnOK Tryz.prog z0K_e := fn_ok (g := z0K_g) (fn := Tryz.f164) hmixed tabOk eNil (by kernel_rfl) (by kernel_rfl) (by kernel_rfl) (fun x y h => let ⟨n, hn⟩ := z0K_run x.1 y h; ⟨z0K_an n, iNil, (z0K_eq n x).trans hn⟩)
abbrev z0L_a : Ty := .pair t131 (.pair t3 (.pair t55 .unit))
abbrev z0L_r : Ty := .pair t55 (.pair t4 .unit)
def z0L_g : G := { T := T, E := [], muts := [], fz := [] }
def z0L_k : List (List Nat) := []
def z0L_an (n : Nat) : Ann := { keep := z0L_k, fuel := n, inl := [], deep := 0 }
def z0L_m (n : Nat) (f : Fai) (p1 : Int) (p2 : List UInt8 × Int × Unit) : Option ((List UInt8 × Int × Unit) × Bool × Unit) :=
  some ((p2.1, p2.2.1, ()), p1 != f.2.1, ())
theorem z0L_eq (n : Nat) (x : z0L_a.den) : runF z0L_g (z0L_an n) Tryz.f165 z0L_a z0L_r x = z0L_m n x.1 x.2.1 x.2.2.1 := by kernel_rfl
def z0L (f : Fai) (p1 : Int) (p2 : List UInt8 × Int × Unit) : ((List UInt8 × Int × Unit) × Bool × Unit) :=
  ((p2.1, p2.2.1, ()), p1 != f.2.1, ())
abbrev z0L_M (f : Fai) (p1 : Int) (p2 : List UInt8 × Int × Unit) : Option ((List UInt8 × Int × Unit) × Bool × Unit) := some (z0L f p1 p2)
theorem z0L_run (f : Fai) (p1 : Int) (p2 : List UInt8 × Int × Unit) (y : (List UInt8 × Int × Unit) × Bool × Unit) (h : z0L_M f p1 p2 = some y) : ∃ n, z0L_m n f p1 p2 = some y :=
  ⟨0, by rw [← h]; show z0L_m 0 f p1 p2 = some (z0L f p1 p2); unfold z0L_m z0L; first | rfl | (simp only [cond_some]; done) | (simp only [cond_some]; rfl)⟩
def z0L_e : Entry := { f := 165, args := z0L_a, ress := z0L_r, m := fun x => z0L_M x.1 x.2.1 x.2.2.1 }
theorem z0L_ok : FnOK Tryz.prog z0L_e := fn_ok (g := z0L_g) (fn := Tryz.f165) hmixed tabOk eNil (by kernel_rfl) (by kernel_rfl) (by kernel_rfl) (fun x y h => let ⟨n, hn⟩ := z0L_run x.1 x.2.1 x.2.2.1 y h; ⟨z0L_an n, iNil, (z0L_eq n x).trans hn⟩)
abbrev z0M_a : Ty := .pair t131 .unit
abbrev z0M_r : Ty := .pair t131 .unit
def z0M_g : G := { T := T, E := [], muts := [], fz := [] }
def z0M_k : List (List Nat) := []
def z0M_an (n : Nat) : Ann := { keep := z0M_k, fuel := n, inl := [], deep := 0 }
def z0M_m (n : Nat) (f : Fai) : Option (Fai × Unit) :=
  some ((f.1, f.2.1, f.2.2.1, f.2.2.2.1, ()), ())
theorem z0M_eq (n : Nat) (x : z0M_a.den) : runF z0M_g (z0M_an n) Tryz.f166 z0M_a z0M_r x = z0M_m n x.1 := by kernel_rfl
def z0M (f : Fai) : (Fai × Unit) :=
  ((f.1, f.2.1, f.2.2.1, f.2.2.2.1, ()), ())
abbrev z0M_M (f : Fai) : Option (Fai × Unit) := some (z0M f)
theorem z0M_run (f : Fai) (y : Fai × Unit) (h : z0M_M f = some y) : ∃ n, z0M_m n f = some y :=
  ⟨0, by rw [← h]; show z0M_m 0 f = some (z0M f); unfold z0M_m z0M; first | rfl | (simp only [cond_some]; done) | (simp only [cond_some]; rfl)⟩
def z0M_e : Entry := { f := 166, args := z0M_a, ress := z0M_r, m := fun x => z0M_M x.1 }
theorem z0M_ok : FnOK Tryz.prog z0M_e := fn_ok (g := z0M_g) (fn := Tryz.f166) hmixed tabOk eNil (by kernel_rfl) (by kernel_rfl) (by kernel_rfl) (fun x y h => let ⟨n, hn⟩ := z0M_run x.1 y h; ⟨z0M_an n, iNil, (z0M_eq n x).trans hn⟩)
abbrev zf_a : Ty := .pair t131 (.pair t3 (.pair t55 .unit))
abbrev zf_r : Ty := .pair t55 (.pair t4 .unit)
def zf_g : G := { T := T, E := [], muts := [5], fz := [] }
def zf_k : List (List Nat) := []
def zf_an (n : Nat) : Ann := { keep := zf_k, fuel := n, inl := [], deep := 0 }
def zf_m (n : Nat) (f : Fai) (p1 : Int) (p2 : List UInt8 × Int × Unit) : Option ((List UInt8 × Int × Unit) × Bool × Unit) :=
  (bif decide (p1 ≥ f.2.1) then (bif decide (f.2.2.1 < (0 : Int)) then none else (bif decide (f.2.2.1 < (0 : Int)) then none else some ((p2.1, bitsOp IntKind.i64 Go.BinOp.or (bitsOp IntKind.i64 Go.BinOp.andNot p2.2.1 (IntKind.i64.wrap ((1 : Int) * (2 : Int) ^ Min.min f.2.2.1.toNat IntKind.i64.bits))) (IntKind.i64.wrap (f.2.2.2.1 * (2 : Int) ^ Min.min f.2.2.1.toNat IntKind.i64.bits)), ()), Bool.true, ()))) else some ((p2.1, p2.2.1, ()), Bool.true, ()))
theorem zf_eq (n : Nat) (x : zf_a.den) : runF zf_g (zf_an n) Tryz.f167 zf_a zf_r x = zf_m n x.1 x.2.1 x.2.2.1 := by kernel_rfl
def zf_M (f : Fai) (p1 : Int) (p2 : List UInt8 × Int × Unit) : Option ((List UInt8 × Int × Unit) × Bool × Unit) := zf_m 0 f p1 p2
theorem zf_run (f : Fai) (p1 : Int) (p2 : List UInt8 × Int × Unit) (y : (List UInt8 × Int × Unit) × Bool × Unit) (h : zf_M f p1 p2 = some y) : ∃ n, zf_m n f p1 p2 = some y := ⟨0, h⟩
def zf_e : Entry := { f := 167, args := zf_a, ress := zf_r, m := fun x => zf_M x.1 x.2.1 x.2.2.1 }
theorem zf_ok : FnOK Tryz.prog zf_e := fn_ok (g := zf_g) (fn := Tryz.f167) hmixed tabOk eNil (by kernel_rfl) (by kernel_rfl) (by kernel_rfl) (fun x y h => let ⟨n, hn⟩ := zf_run x.1 x.2.1 x.2.2.1 y h; ⟨zf_an n, iNil, (zf_eq n x).trans hn⟩)
end
end Go.Tw
end
