/- Models of the program's functions, by program (gen.py), and what they compute.
Models of the program's functions, by program (gen.py), and what they compute.
Models of the program's functions, by program (gen.py), and what they compute.
Models of the program's functions, by program (gen.py), and what they compute. -/
import Derived.Test.YtohhmdogfjmlcaaGreatBT
import Derived.Test.YtohhmdogfjmlcaaGreatB0
import Derived.Test.YtohhmdogfjmlcaaGreatBS
import Derived.Test.YtohhmdogfjmlcaaGreatLP

section
set_option linter.all false
set_option maxRecDepth 1000000
namespace Go.Tw
open Go.Vx Go.Vx.B Go.Proofs
/-! ### tidewayref06.Short -/
abbrev ref06_Short_a : Ty := .pair t25 .unit
abbrev ref06_Short_r : Ty := .pair t4 .unit
noncomputable def ref06_Short_g : G := { T := T, E := [], muts := [], fz := [] }
def ref06_Short_k : List (List Nat) := [[1, 3], [1, 4]]
noncomputable def ref06_Short_an (n : Nat) : Ann := { keep := ref06_Short_k, fuel := n, inl := [], deep := 0 }
noncomputable def ref06_Short_m_l11 (n : Nat) (r11 : Cha → Int → Option (Bool × Unit)) (c1_11 : Cha) (i4_11 : Int) : Option (Bool × Unit) :=
  (bif Decidable.decide (i4_11 < (↑c1_11.snd.fst.length : Int)) then (Option.bind (Go.Vx.idx c1_11.snd.fst i4_11) fun (v12 : Tra) => (bif Decidable.decide ((↑v12.snd.fst.length : Int) > (40 : Int)) then Option.some (Bool.false, ()) else r11 c1_11 (Go.IntKind.i64.wrap (i4_11 + (1 : Int))))) else Option.some (Bool.true, ()))

noncomputable def ref06_Short_m_w11 (n : Nat)  (k : Nat) (c1_11 : Cha) (i4_11 : Int) : Option (Bool × Unit) :=
  iter (fun r y => ref06_Short_m_l11 n (fun c1_11 i4_11 => r ((c1_11, (i4_11, ())), ((), ()))) y.1.1 y.1.2.1) k ((c1_11, (i4_11, ())), ((), ()))

noncomputable def ref06_Short_m_l9 (n : Nat) (r9 : Cha → Int → Option (Bool × Unit)) (c1_9 : Cha) (i3_9 : Int) : Option (Bool × Unit) :=
  (bif Decidable.decide (i3_9 < (↑c1_9.fst.length : Int)) then (Option.bind (Go.Vx.idx c1_9.fst i3_9) fun (v10 : Sta) => (bif Decidable.decide ((↑v10.fst.length : Int) > (40 : Int)) then Option.some (Bool.false, ()) else r9 c1_9 (Go.IntKind.i64.wrap (i3_9 + (1 : Int))))) else (ref06_Short_m_w11 n n (c1_9) ((0 : Int))))

noncomputable def ref06_Short_m_w9 (n : Nat)  (k : Nat) (c1_9 : Cha) (i3_9 : Int) : Option (Bool × Unit) :=
  iter (fun r y => ref06_Short_m_l9 n (fun c1_9 i3_9 => r ((c1_9, (i3_9, ())), ((), ()))) y.1.1 y.1.2.1) k ((c1_9, (i3_9, ())), ((), ()))

noncomputable def ref06_Short_m_j13 (n : Nat) (c : Cha) : Option (Bool × Unit) :=
  (ref06_Short_m_w9 n n (c) ((0 : Int)))

noncomputable def ref06_Short_m (n : Nat) (c : Cha) : Option (Bool × Unit) :=
  (bif Decidable.decide ((↑c.fst.length : Int) > (7 : Int)) then (bif (↑c.fst.length : Int) != (17 : Int) then Option.some (Bool.false, ()) else (bif Decidable.decide ((↑c.snd.fst.length : Int) > (12 : Int)) then (bif (↑c.snd.fst.length : Int) != (49 : Int) then Option.some (Bool.false, ()) else (ref06_Short_m_j13 n c)) else (ref06_Short_m_j13 n c))) else (bif Decidable.decide ((↑c.snd.fst.length : Int) > (12 : Int)) then (bif (↑c.snd.fst.length : Int) != (49 : Int) then Option.some (Bool.false, ()) else (ref06_Short_m_j13 n c)) else (ref06_Short_m_j13 n c)))

theorem ref06_Short_eq (n : Nat) (x : ref06_Short_a.den) : runF ref06_Short_g (ref06_Short_an n) Tryz.f15 ref06_Short_a ref06_Short_r x = ref06_Short_m n x.1 := by kernel_rfl

noncomputable def ref06_Short_b11 (c1_11 : Cha) (i4_11 : Int) (v12 : Tra) : Option ((Bool × Unit) ⊕ Unit) :=
  (bif Decidable.decide ((↑v12.snd.fst.length : Int) > (40 : Int)) then (some (Sum.inl ((Bool.false, ())))) else (some (Sum.inr ())))

noncomputable def ref06_Short_f11 (c1_11 : Cha) : Option (Bool × Unit) :=
  (some ((Bool.true, ())))

theorem ref06_Short_m_w11_le (n : Nat) (hn : big ≤ n)  (c1_11 : Cha) (hx : List.length (c1_11.snd.fst) < lenMax) : LeF some (loopL (fun i__ e__ s__ => ref06_Short_b11 c1_11 i__ e__) (fun s__ => ref06_Short_f11 c1_11) 0 (c1_11.snd.fst) ()) (ref06_Short_m_w11 n n c1_11 0) := by
  refine loopL_le (f := some) (W := fun k__ i__ s__ => ref06_Short_m_w11 n k__ c1_11 i__) (body := (fun i__ e__ s__ => ref06_Short_b11 c1_11 i__ e__)) (fin := (fun s__ => ref06_Short_f11 c1_11)) (fun k__ i__ s__ => ?_) hx () n (by unfold big at hn; unfold lenMax at hx; omega)
  show LeF _ _ (ref06_Short_m_l11 n (ref06_Short_m_w11 n k__) c1_11 i__)
  exact leCond (leBind fun v12 => (leCond (leSome rfl) (leSome rfl))) (leMap (leSome rfl))

noncomputable def ref06_Short_b9 (c1_9 : Cha) (i3_9 : Int) (v10 : Sta) : Option ((Bool × Unit) ⊕ Unit) :=
  (bif Decidable.decide ((↑v10.fst.length : Int) > (40 : Int)) then (some (Sum.inl ((Bool.false, ())))) else (some (Sum.inr ())))

noncomputable def ref06_Short_f9 (c1_9 : Cha) : Option (Bool × Unit) :=
  (bif decide (List.length (c1_9.snd.fst) < lenMax) then loopL (fun i__ e__ s__ => ref06_Short_b11 (c1_9) i__ e__) (fun s__ => ref06_Short_f11 (c1_9)) 0 (c1_9.snd.fst) () else none)

theorem ref06_Short_m_w9_le (n : Nat) (hn : big ≤ n)  (c1_9 : Cha) (hx : List.length (c1_9.fst) < lenMax) : LeF some (loopL (fun i__ e__ s__ => ref06_Short_b9 c1_9 i__ e__) (fun s__ => ref06_Short_f9 c1_9) 0 (c1_9.fst) ()) (ref06_Short_m_w9 n n c1_9 0) := by
  refine loopL_le (f := some) (W := fun k__ i__ s__ => ref06_Short_m_w9 n k__ c1_9 i__) (body := (fun i__ e__ s__ => ref06_Short_b9 c1_9 i__ e__)) (fin := (fun s__ => ref06_Short_f9 c1_9)) (fun k__ i__ s__ => ?_) hx () n (by unfold big at hn; unfold lenMax at hx; omega)
  show LeF _ _ (ref06_Short_m_l9 n (ref06_Short_m_w9 n k__) c1_9 i__)
  exact leCond (leBind fun v10 => (leCond (leSome rfl) (leSome rfl))) (leMap (leGuard fun hx => by apply ref06_Short_m_w11_le n hn; exact hx))

noncomputable def ref06_Short_s13 (c : Cha) : Option (Bool × Unit) :=
  (bif decide (List.length (c.fst) < lenMax) then loopL (fun i__ e__ s__ => ref06_Short_b9 (c) i__ e__) (fun s__ => ref06_Short_f9 (c)) 0 (c.fst) () else none)

theorem ref06_Short_s13_le (n : Nat) (hn : big ≤ n)  (c : Cha) : LeF some (ref06_Short_s13 c) (ref06_Short_m_j13 n c) :=
  (leGuard fun hx => by apply ref06_Short_m_w9_le n hn; exact hx)

noncomputable def ref06_Short_M (c : Cha) : Option (Bool × Unit) :=
  (bif Decidable.decide ((↑c.fst.length : Int) > (7 : Int)) then (bif (↑c.fst.length : Int) != (17 : Int) then (some ((Bool.false, ()))) else (bif Decidable.decide ((↑c.snd.fst.length : Int) > (12 : Int)) then (bif (↑c.snd.fst.length : Int) != (49 : Int) then (some ((Bool.false, ()))) else (ref06_Short_s13 c)) else (ref06_Short_s13 c))) else (bif Decidable.decide ((↑c.snd.fst.length : Int) > (12 : Int)) then (bif (↑c.snd.fst.length : Int) != (49 : Int) then (some ((Bool.false, ()))) else (ref06_Short_s13 c)) else (ref06_Short_s13 c)))

theorem ref06_Short_run (c : Cha) (y : Bool × Unit) (h : ref06_Short_M c = some y) : ∃ n, ref06_Short_m n c = some y :=
  ⟨big, LeF.top (show LeF some (ref06_Short_M c) (ref06_Short_m big c) from (fun (n : Nat) (hn : big ≤ n) => show LeF some (ref06_Short_M c) (ref06_Short_m n c) from (leCond (leCond (leSome rfl) (leCond (leCond (leSome rfl) (by apply ref06_Short_s13_le n hn)) (by apply ref06_Short_s13_le n hn))) (leCond (leCond (leSome rfl) (by apply ref06_Short_s13_le n hn)) (by apply ref06_Short_s13_le n hn)))) big (Nat.le_refl _)) h⟩
noncomputable def ref06_Short_e : Entry := { f := 15, args := ref06_Short_a, ress := ref06_Short_r, m := fun x => ref06_Short_M x.1 }
theorem ref06_Short_ok : FnOK Tryz.prog ref06_Short_e := fn_ok (g := ref06_Short_g) (fn := Tryz.f15) hmixed tabOk eNil (by kernel_rfl) (by kernel_rfl) (by kernel_rfl) (fun x y h => let ⟨n, hn⟩ := ref06_Short_run x.1 y h; ⟨ref06_Short_an n, iNil, (ref06_Short_eq n x).trans hn⟩)

/-! ### tidewaylaw06.chart -/
abbrev law06_chart_a : Ty := .pair t25 .unit
abbrev law06_chart_r : Ty := .pair t35 .unit
noncomputable def law06_chart_g : G := { T := T, E := [], muts := [3], fz := [] }
def law06_chart_k : List (List Nat) := [[1, 2, 3, 9, 10, 11], [2, 3, 23, 24, 25]]
noncomputable def law06_chart_an (n : Nat) : Ann := { keep := law06_chart_k, fuel := n, inl := [], deep := 0 }
noncomputable def law06_chart_m_l2 (n : Nat) (r2 : List Tra → Int → Int → List Sta → List Tra → Option (Cha × Unit)) (t23_2 : List Tra) (t24_2 : Int) (t25_2 : Int) (c2_2 : List Sta) (c3_2 : List Tra) : Option (Cha × Unit) :=
  (bif Decidable.decide (t25_2 < t24_2) then (Option.bind (Go.Vx.idx t23_2 t25_2) fun (v3 : Tra) => (bif Decidable.decide (c3_2.length + (1 : Nat) ≤ Go.Vx.memMax) then r2 t23_2 t24_2 (Go.IntKind.i64.wrap (t25_2 + (1 : Int))) c2_2 (c3_2 ++ [(v3.fst, v3.snd.fst, v3.snd.snd.fst, v3.snd.snd.snd.fst, v3.snd.snd.snd.snd.fst, ())]) else none)) else Option.some ((c2_2, c3_2, ()), ()))

noncomputable def law06_chart_m_w2 (n : Nat)  (k : Nat) (t23_2 : List Tra) (t24_2 : Int) (t25_2 : Int) (c2_2 : List Sta) (c3_2 : List Tra) : Option (Cha × Unit) :=
  iter (fun r y => law06_chart_m_l2 n (fun t23_2 t24_2 t25_2 c2_2 c3_2 => r ((t23_2, (t24_2, (t25_2, ()))), (((), ((), (c2_2, (c3_2, ())))), ()))) y.1.1 y.1.2.1 y.1.2.2.1 y.2.1.2.2.1 y.2.1.2.2.2.1) k ((t23_2, (t24_2, (t25_2, ()))), (((), ((), (c2_2, (c3_2, ())))), ()))

noncomputable def law06_chart_m_l0 (n : Nat) (r0 : Cha → List Sta → Int → Int → List Sta → List Tra → Option (Cha × Unit)) (c1_0 : Cha) (t9_0 : List Sta) (t10_0 : Int) (t11_0 : Int) (c2_0 : List Sta) (c3_0 : List Tra) : Option (Cha × Unit) :=
  (bif Decidable.decide (t11_0 < t10_0) then (Option.bind (Go.Vx.idx t9_0 t11_0) fun (v1 : Sta) => (bif Decidable.decide (c2_0.length + (1 : Nat) ≤ Go.Vx.memMax) then r0 c1_0 t9_0 t10_0 (Go.IntKind.i64.wrap (t11_0 + (1 : Int))) (c2_0 ++ [(v1.fst, v1.snd.fst, v1.snd.snd.fst, v1.snd.snd.snd.fst, ())]) c3_0 else none)) else (law06_chart_m_w2 n n (c1_0.snd.fst) ((↑c1_0.snd.fst.length : Int)) ((0 : Int)) (c2_0) (c3_0)))

noncomputable def law06_chart_m_w0 (n : Nat)  (k : Nat) (c1_0 : Cha) (t9_0 : List Sta) (t10_0 : Int) (t11_0 : Int) (c2_0 : List Sta) (c3_0 : List Tra) : Option (Cha × Unit) :=
  iter (fun r y => law06_chart_m_l0 n (fun c1_0 t9_0 t10_0 t11_0 c2_0 c3_0 => r ((c1_0, (t9_0, (t10_0, (t11_0, ())))), (((), ((), (c2_0, (c3_0, ())))), ()))) y.1.1 y.1.2.1 y.1.2.2.1 y.1.2.2.2.1 y.2.1.2.2.1 y.2.1.2.2.2.1) k ((c1_0, (t9_0, (t10_0, (t11_0, ())))), (((), ((), (c2_0, (c3_0, ())))), ()))

noncomputable def law06_chart_m (n : Nat) (c : Cha) : Option (Cha × Unit) :=
  (law06_chart_m_w0 n n (c) (c.fst) ((↑c.fst.length : Int)) ((0 : Int)) ([]) ([]))

theorem law06_chart_eq (n : Nat) (x : law06_chart_a.den) : runF law06_chart_g (law06_chart_an n) Tryz.f17 law06_chart_a law06_chart_r x = law06_chart_m n x.1 := by kernel_rfl

noncomputable def law06_chart_b2 (t23_2 : List Tra) (c2_2 : List Sta) (t25_2 : Int) (v3 : Tra) (c3_2 : List Tra) : Option ((Cha × Unit) ⊕ (List Tra)) :=
  (bif Decidable.decide (c3_2.length + (1 : Nat) ≤ Go.Vx.memMax) then (some (Sum.inr (c3_2 ++ [(v3.fst, v3.snd.fst, v3.snd.snd.fst, v3.snd.snd.snd.fst, v3.snd.snd.snd.snd.fst, ())]))) else none)

noncomputable def law06_chart_f2 (t23_2 : List Tra) (c2_2 : List Sta) (c3_2 : List Tra) : Option (Cha × Unit) :=
  (some (((c2_2, c3_2, ()), ())))

theorem law06_chart_m_w2_le (n : Nat) (hn : big ≤ n)  (t23_2 : List Tra) (c2_2 : List Sta) (c3_2 : List Tra) (hx : List.length (t23_2) < lenMax) : LeF some (loopL (fun i__ e__ s__ => law06_chart_b2 t23_2 c2_2 i__ e__ s__) (fun s__ => law06_chart_f2 t23_2 c2_2 s__) 0 (t23_2) c3_2) (law06_chart_m_w2 n n t23_2 (List.length (t23_2) : Int) 0 c2_2 c3_2) := by
  refine loopL_le (f := some) (W := fun k__ i__ s__ => law06_chart_m_w2 n k__ t23_2 (List.length (t23_2) : Int) i__ c2_2 s__) (body := (fun i__ e__ s__ => law06_chart_b2 t23_2 c2_2 i__ e__ s__)) (fin := (fun s__ => law06_chart_f2 t23_2 c2_2 s__)) (fun k__ i__ s__ => ?_) hx c3_2 n (by unfold big at hn; unfold lenMax at hx; omega)
  show LeF _ _ (law06_chart_m_l2 n (law06_chart_m_w2 n k__) t23_2 (List.length (t23_2) : Int) i__ c2_2 s__)
  exact leCond (leBind fun v3 => (leCond (leSome rfl) leNone)) (leMap (leSome rfl))

noncomputable def law06_chart_b0 (c1_0 : Cha) (t9_0 : List Sta) (c3_0 : List Tra) (t11_0 : Int) (v1 : Sta) (c2_0 : List Sta) : Option ((Cha × Unit) ⊕ (List Sta)) :=
  (bif Decidable.decide (c2_0.length + (1 : Nat) ≤ Go.Vx.memMax) then (some (Sum.inr (c2_0 ++ [(v1.fst, v1.snd.fst, v1.snd.snd.fst, v1.snd.snd.snd.fst, ())]))) else none)

noncomputable def law06_chart_f0 (c1_0 : Cha) (t9_0 : List Sta) (c3_0 : List Tra) (c2_0 : List Sta) : Option (Cha × Unit) :=
  (bif decide (List.length (c1_0.snd.fst) < lenMax) then loopL (fun i__ e__ s__ => law06_chart_b2 (c1_0.snd.fst) (c2_0) i__ e__ s__) (fun s__ => law06_chart_f2 (c1_0.snd.fst) (c2_0) s__) 0 (c1_0.snd.fst) (c3_0) else none)

theorem law06_chart_m_w0_le (n : Nat) (hn : big ≤ n)  (c1_0 : Cha) (t9_0 : List Sta) (c3_0 : List Tra) (c2_0 : List Sta) (hx : List.length (t9_0) < lenMax) : LeF some (loopL (fun i__ e__ s__ => law06_chart_b0 c1_0 t9_0 c3_0 i__ e__ s__) (fun s__ => law06_chart_f0 c1_0 t9_0 c3_0 s__) 0 (t9_0) c2_0) (law06_chart_m_w0 n n c1_0 t9_0 (List.length (t9_0) : Int) 0 c2_0 c3_0) := by
  refine loopL_le (f := some) (W := fun k__ i__ s__ => law06_chart_m_w0 n k__ c1_0 t9_0 (List.length (t9_0) : Int) i__ s__ c3_0) (body := (fun i__ e__ s__ => law06_chart_b0 c1_0 t9_0 c3_0 i__ e__ s__)) (fin := (fun s__ => law06_chart_f0 c1_0 t9_0 c3_0 s__)) (fun k__ i__ s__ => ?_) hx c2_0 n (by unfold big at hn; unfold lenMax at hx; omega)
  show LeF _ _ (law06_chart_m_l0 n (law06_chart_m_w0 n k__) c1_0 t9_0 (List.length (t9_0) : Int) i__ s__ c3_0)
  exact leCond (leBind fun v1 => (leCond (leSome rfl) leNone)) (leMap (leGuard fun hx => by apply law06_chart_m_w2_le n hn; exact hx))

noncomputable def law06_chart_M (c : Cha) : Option (Cha × Unit) :=
  (bif decide (List.length (c.fst) < lenMax) then loopL (fun i__ e__ s__ => law06_chart_b0 (c) (c.fst) ([]) i__ e__ s__) (fun s__ => law06_chart_f0 (c) (c.fst) ([]) s__) 0 (c.fst) ([]) else none)

theorem law06_chart_run (c : Cha) (y : Cha × Unit) (h : law06_chart_M c = some y) : ∃ n, law06_chart_m n c = some y :=
  ⟨big, LeF.top (show LeF some (law06_chart_M c) (law06_chart_m big c) from (fun (n : Nat) (hn : big ≤ n) => show LeF some (law06_chart_M c) (law06_chart_m n c) from (leGuard fun hx => by apply law06_chart_m_w0_le n hn; exact hx)) big (Nat.le_refl _)) h⟩
noncomputable def law06_chart_e : Entry := { f := 17, args := law06_chart_a, ress := law06_chart_r, m := fun x => law06_chart_M x.1 }
theorem law06_chart_ok : FnOK Tryz.prog law06_chart_e := fn_ok (g := law06_chart_g) (fn := Tryz.f17) hmixed tabOk eNil (by kernel_rfl) (by kernel_rfl) (by kernel_rfl) (fun x y h => let ⟨n, hn⟩ := law06_chart_run x.1 y h; ⟨law06_chart_an n, iNil, (law06_chart_eq n x).trans hn⟩)

/-! ### tidewayref01.SameWords -/
abbrev ref01_SameWords_a : Ty := .pair t37 (.pair t37 .unit)
abbrev ref01_SameWords_r : Ty := .pair t4 .unit
noncomputable def ref01_SameWords_g : G := { T := T, E := [], muts := [], fz := [] }
def ref01_SameWords_k : List (List Nat) := [[0, 1, 5]]
noncomputable def ref01_SameWords_an (n : Nat) : Ann := { keep := ref01_SameWords_k, fuel := n, inl := [], deep := 0 }
noncomputable def ref01_SameWords_m_l0 (n : Nat) (r0 : List (List UInt8) → List (List UInt8) → Int → Option (Bool × Unit)) (a0_0 : List (List UInt8)) (b1_0 : List (List UInt8)) (i5_0 : Int) : Option (Bool × Unit) :=
  (bif Decidable.decide (i5_0 < (↑a0_0.length : Int)) then (Option.bind (Go.Vx.idx a0_0 i5_0) fun (v1 : List UInt8) => (Option.bind (Go.Vx.idx b1_0 i5_0) fun (v2 : List UInt8) => (bif !v1 == v2 then Option.some (Bool.false, ()) else r0 a0_0 b1_0 (Go.IntKind.i64.wrap (i5_0 + (1 : Int)))))) else Option.some (Bool.true, ()))

noncomputable def ref01_SameWords_m_w0 (n : Nat)  (k : Nat) (a0_0 : List (List UInt8)) (b1_0 : List (List UInt8)) (i5_0 : Int) : Option (Bool × Unit) :=
  iter (fun r y => ref01_SameWords_m_l0 n (fun a0_0 b1_0 i5_0 => r ((a0_0, (b1_0, (i5_0, ()))), ((), ()))) y.1.1 y.1.2.1 y.1.2.2.1) k ((a0_0, (b1_0, (i5_0, ()))), ((), ()))

noncomputable def ref01_SameWords_m (n : Nat) (a : List (List UInt8)) (b : List (List UInt8)) : Option (Bool × Unit) :=
  (bif (↑a.length : Int) != (↑b.length : Int) then Option.some (Bool.false, ()) else (ref01_SameWords_m_w0 n n (a) (b) ((0 : Int))))

theorem ref01_SameWords_eq (n : Nat) (x : ref01_SameWords_a.den) : runF ref01_SameWords_g (ref01_SameWords_an n) Tryz.f26 ref01_SameWords_a ref01_SameWords_r x = ref01_SameWords_m n x.1 x.2.1 := by kernel_rfl

noncomputable def ref01_SameWords_b0 (a0_0 : List (List UInt8)) (b1_0 : List (List UInt8)) (i5_0 : Int) (v1 : List UInt8) : Option ((Bool × Unit) ⊕ Unit) :=
  (Option.bind (Go.Vx.idx b1_0 i5_0) fun (v2 : List UInt8) => (bif !v1 == v2 then (some (Sum.inl ((Bool.false, ())))) else (some (Sum.inr ()))))

noncomputable def ref01_SameWords_f0 (a0_0 : List (List UInt8)) (b1_0 : List (List UInt8)) : Option (Bool × Unit) :=
  (some ((Bool.true, ())))

theorem ref01_SameWords_m_w0_le (n : Nat) (hn : big ≤ n)  (a0_0 : List (List UInt8)) (b1_0 : List (List UInt8)) (hx : List.length (a0_0) < lenMax) : LeF some (loopL (fun i__ e__ s__ => ref01_SameWords_b0 a0_0 b1_0 i__ e__) (fun s__ => ref01_SameWords_f0 a0_0 b1_0) 0 (a0_0) ()) (ref01_SameWords_m_w0 n n a0_0 b1_0 0) := by
  refine loopL_le (f := some) (W := fun k__ i__ s__ => ref01_SameWords_m_w0 n k__ a0_0 b1_0 i__) (body := (fun i__ e__ s__ => ref01_SameWords_b0 a0_0 b1_0 i__ e__)) (fin := (fun s__ => ref01_SameWords_f0 a0_0 b1_0)) (fun k__ i__ s__ => ?_) hx () n (by unfold big at hn; unfold lenMax at hx; omega)
  show LeF _ _ (ref01_SameWords_m_l0 n (ref01_SameWords_m_w0 n k__) a0_0 b1_0 i__)
  exact leCond (leBind fun v1 => (leBind fun v2 => (leCond (leSome rfl) (leSome rfl)))) (leMap (leSome rfl))

noncomputable def ref01_SameWords_M (a : List (List UInt8)) (b : List (List UInt8)) : Option (Bool × Unit) :=
  (bif (↑a.length : Int) != (↑b.length : Int) then (some ((Bool.false, ()))) else (bif decide (List.length (a) < lenMax) then loopL (fun i__ e__ s__ => ref01_SameWords_b0 (a) (b) i__ e__) (fun s__ => ref01_SameWords_f0 (a) (b)) 0 (a) () else none))

theorem ref01_SameWords_run (a : List (List UInt8)) (b : List (List UInt8)) (y : Bool × Unit) (h : ref01_SameWords_M a b = some y) : ∃ n, ref01_SameWords_m n a b = some y :=
  ⟨big, LeF.top (show LeF some (ref01_SameWords_M a b) (ref01_SameWords_m big a b) from (fun (n : Nat) (hn : big ≤ n) => show LeF some (ref01_SameWords_M a b) (ref01_SameWords_m n a b) from (leCond (leSome rfl) (leGuard fun hx => by apply ref01_SameWords_m_w0_le n hn; exact hx))) big (Nat.le_refl _)) h⟩
noncomputable def ref01_SameWords_e : Entry := { f := 26, args := ref01_SameWords_a, ress := ref01_SameWords_r, m := fun x => ref01_SameWords_M x.1 x.2.1 }
theorem ref01_SameWords_ok : FnOK Tryz.prog ref01_SameWords_e := fn_ok (g := ref01_SameWords_g) (fn := Tryz.f26) hmixed tabOk eNil (by kernel_rfl) (by kernel_rfl) (by kernel_rfl) (fun x y h => let ⟨n, hn⟩ := ref01_SameWords_run x.1 x.2.1 y h; ⟨ref01_SameWords_an n, iNil, (ref01_SameWords_eq n x).trans hn⟩)

/-! ### tidewaylaw06.number -/
abbrev law06_number_a : Ty := .pair t3 (.pair t29 (.pair t3 (.pair t3 .unit)))
abbrev law06_number_r : Ty := .pair t4 .unit
noncomputable def law06_number_g : G := { T := T, E := [], muts := [], fz := [] }
def law06_number_k : List (List Nat) := []
noncomputable def law06_number_an (n : Nat) : Ann := { keep := law06_number_k, fuel := n, inl := [], deep := 0 }
noncomputable def law06_number_m (n : Nat) (p0 : Int) (e : Int) (bad : Int) (want : Int) : Option (Bool × Unit) :=
  (bif bad != (0 : Int) then (bif p0 == (0 : Int) then Option.some (e == bad, ()) else Option.some (Bool.false, ())) else (bif e == (0 : Int) then Option.some (p0 == want, ()) else Option.some (Bool.false, ())))

theorem law06_number_eq (n : Nat) (x : law06_number_a.den) : runF law06_number_g (law06_number_an n) Tryz.f27 law06_number_a law06_number_r x = law06_number_m n x.1 x.2.1 x.2.2.1 x.2.2.2.1 := by kernel_rfl

noncomputable def law06_number (p0 : Int) (e : Int) (bad : Int) (want : Int) : (Bool × Unit) :=
  (bif bad != (0 : Int) then (bif p0 == (0 : Int) then (e == bad, ()) else (Bool.false, ())) else (bif e == (0 : Int) then (p0 == want, ()) else (Bool.false, ())))

noncomputable abbrev law06_number_M (p0 : Int) (e : Int) (bad : Int) (want : Int) : Option (Bool × Unit) := some (law06_number p0 e bad want)

theorem law06_number_run (p0 : Int) (e : Int) (bad : Int) (want : Int) (y : Bool × Unit) (h : law06_number_M p0 e bad want = some y) : ∃ n, law06_number_m n p0 e bad want = some y :=
  ⟨0, by rw [← h]; show law06_number_m 0 p0 e bad want = some (law06_number p0 e bad want); unfold law06_number_m law06_number; first | rfl | (simp only [cond_some]; done) | (simp only [cond_some]; rfl)⟩
noncomputable def law06_number_e : Entry := { f := 27, args := law06_number_a, ress := law06_number_r, m := fun x => law06_number_M x.1 x.2.1 x.2.2.1 x.2.2.2.1 }
theorem law06_number_ok : FnOK Tryz.prog law06_number_e := fn_ok (g := law06_number_g) (fn := Tryz.f27) hmixed tabOk eNil (by kernel_rfl) (by kernel_rfl) (by kernel_rfl) (fun x y h => let ⟨n, hn⟩ := law06_number_run x.1 x.2.1 x.2.2.1 x.2.2.2.1 y h; ⟨law06_number_an n, iNil, (law06_number_eq n x).trans hn⟩)

/-! ### tidewayref06.ShortScript -/
/-! ### tidewaylaw06.script -/
/-! ### tidewayref06.ShortCommands -/
/-! ### tidewaylaw06.commands -/
/-! ### tidewayref01.CheckRange -/
abbrev ref01_CheckRange_a : Ty := .pair t3 (.pair t3 (.pair t3 .unit))
abbrev ref01_CheckRange_r : Ty := .pair t3 .unit
noncomputable def ref01_CheckRange_g : G := { T := T, E := [], muts := [], fz := [] }
def ref01_CheckRange_k : List (List Nat) := []
noncomputable def ref01_CheckRange_an (n : Nat) : Ann := { keep := ref01_CheckRange_k, fuel := n, inl := [], deep := 0 }
noncomputable def ref01_CheckRange_m (n : Nat) (n1 : Int) (low : Int) (high : Int) : Option (Int × Unit) :=
  (bif Decidable.decide (n1 < low) then Option.some ((3 : Int), ()) else (bif Decidable.decide (n1 > high) then Option.some ((3 : Int), ()) else Option.some ((0 : Int), ())))

theorem ref01_CheckRange_eq (n : Nat) (x : ref01_CheckRange_a.den) : runF ref01_CheckRange_g (ref01_CheckRange_an n) Tryz.f43 ref01_CheckRange_a ref01_CheckRange_r x = ref01_CheckRange_m n x.1 x.2.1 x.2.2.1 := by kernel_rfl

noncomputable def ref01_CheckRange (n1 : Int) (low : Int) (high : Int) : (Int × Unit) :=
  (bif Decidable.decide (n1 < low) then ((3 : Int), ()) else (bif Decidable.decide (n1 > high) then ((3 : Int), ()) else ((0 : Int), ())))

noncomputable abbrev ref01_CheckRange_M (n1 : Int) (low : Int) (high : Int) : Option (Int × Unit) := some (ref01_CheckRange n1 low high)

theorem ref01_CheckRange_run (n1 : Int) (low : Int) (high : Int) (y : Int × Unit) (h : ref01_CheckRange_M n1 low high = some y) : ∃ n, ref01_CheckRange_m n n1 low high = some y :=
  ⟨0, by rw [← h]; show ref01_CheckRange_m 0 n1 low high = some (ref01_CheckRange n1 low high); unfold ref01_CheckRange_m ref01_CheckRange; first | rfl | (simp only [cond_some]; done) | (simp only [cond_some]; rfl)⟩
noncomputable def ref01_CheckRange_e : Entry := { f := 43, args := ref01_CheckRange_a, ress := ref01_CheckRange_r, m := fun x => ref01_CheckRange_M x.1 x.2.1 x.2.2.1 }
theorem ref01_CheckRange_ok : FnOK Tryz.prog ref01_CheckRange_e := fn_ok (g := ref01_CheckRange_g) (fn := Tryz.f43) hmixed tabOk eNil (by kernel_rfl) (by kernel_rfl) (by kernel_rfl) (fun x y h => let ⟨n, hn⟩ := ref01_CheckRange_run x.1 x.2.1 x.2.2.1 y h; ⟨ref01_CheckRange_an n, iNil, (ref01_CheckRange_eq n x).trans hn⟩)

/-! ### tidewayref01.Draw -/
/-! ### tidewayref01.SameInts -/
abbrev ref01_SameInts_a : Ty := .pair t28 (.pair t28 .unit)
abbrev ref01_SameInts_r : Ty := .pair t4 .unit
noncomputable def ref01_SameInts_g : G := { T := T, E := [], muts := [], fz := [] }
def ref01_SameInts_k : List (List Nat) := [[0, 1, 5]]
noncomputable def ref01_SameInts_an (n : Nat) : Ann := { keep := ref01_SameInts_k, fuel := n, inl := [], deep := 0 }
noncomputable def ref01_SameInts_m_l0 (n : Nat) (r0 : List Int → List Int → Int → Option (Bool × Unit)) (a0_0 : List Int) (b1_0 : List Int) (i5_0 : Int) : Option (Bool × Unit) :=
  (bif Decidable.decide (i5_0 < (↑a0_0.length : Int)) then (Option.bind (Go.Vx.idx a0_0 i5_0) fun (v1 : Int) => (Option.bind (Go.Vx.idx b1_0 i5_0) fun (v2 : Int) => (bif v1 != v2 then Option.some (Bool.false, ()) else r0 a0_0 b1_0 (Go.IntKind.i64.wrap (i5_0 + (1 : Int)))))) else Option.some (Bool.true, ()))

noncomputable def ref01_SameInts_m_w0 (n : Nat)  (k : Nat) (a0_0 : List Int) (b1_0 : List Int) (i5_0 : Int) : Option (Bool × Unit) :=
  iter (fun r y => ref01_SameInts_m_l0 n (fun a0_0 b1_0 i5_0 => r ((a0_0, (b1_0, (i5_0, ()))), ((), ()))) y.1.1 y.1.2.1 y.1.2.2.1) k ((a0_0, (b1_0, (i5_0, ()))), ((), ()))

noncomputable def ref01_SameInts_m (n : Nat) (a : List Int) (b : List Int) : Option (Bool × Unit) :=
  (bif (↑a.length : Int) != (↑b.length : Int) then Option.some (Bool.false, ()) else (ref01_SameInts_m_w0 n n (a) (b) ((0 : Int))))

theorem ref01_SameInts_eq (n : Nat) (x : ref01_SameInts_a.den) : runF ref01_SameInts_g (ref01_SameInts_an n) Tryz.f48 ref01_SameInts_a ref01_SameInts_r x = ref01_SameInts_m n x.1 x.2.1 := by kernel_rfl

noncomputable def ref01_SameInts_b0 (a0_0 : List Int) (b1_0 : List Int) (i5_0 : Int) (v1 : Int) : Option ((Bool × Unit) ⊕ Unit) :=
  (Option.bind (Go.Vx.idx b1_0 i5_0) fun (v2 : Int) => (bif v1 != v2 then (some (Sum.inl ((Bool.false, ())))) else (some (Sum.inr ()))))

noncomputable def ref01_SameInts_f0 (a0_0 : List Int) (b1_0 : List Int) : Option (Bool × Unit) :=
  (some ((Bool.true, ())))

theorem ref01_SameInts_m_w0_le (n : Nat) (hn : big ≤ n)  (a0_0 : List Int) (b1_0 : List Int) (hx : List.length (a0_0) < lenMax) : LeF some (loopL (fun i__ e__ s__ => ref01_SameInts_b0 a0_0 b1_0 i__ e__) (fun s__ => ref01_SameInts_f0 a0_0 b1_0) 0 (a0_0) ()) (ref01_SameInts_m_w0 n n a0_0 b1_0 0) := by
  refine loopL_le (f := some) (W := fun k__ i__ s__ => ref01_SameInts_m_w0 n k__ a0_0 b1_0 i__) (body := (fun i__ e__ s__ => ref01_SameInts_b0 a0_0 b1_0 i__ e__)) (fin := (fun s__ => ref01_SameInts_f0 a0_0 b1_0)) (fun k__ i__ s__ => ?_) hx () n (by unfold big at hn; unfold lenMax at hx; omega)
  show LeF _ _ (ref01_SameInts_m_l0 n (ref01_SameInts_m_w0 n k__) a0_0 b1_0 i__)
  exact leCond (leBind fun v1 => (leBind fun v2 => (leCond (leSome rfl) (leSome rfl)))) (leMap (leSome rfl))

noncomputable def ref01_SameInts_M (a : List Int) (b : List Int) : Option (Bool × Unit) :=
  (bif (↑a.length : Int) != (↑b.length : Int) then (some ((Bool.false, ()))) else (bif decide (List.length (a) < lenMax) then loopL (fun i__ e__ s__ => ref01_SameInts_b0 (a) (b) i__ e__) (fun s__ => ref01_SameInts_f0 (a) (b)) 0 (a) () else none))

theorem ref01_SameInts_run (a : List Int) (b : List Int) (y : Bool × Unit) (h : ref01_SameInts_M a b = some y) : ∃ n, ref01_SameInts_m n a b = some y :=
  ⟨big, LeF.top (show LeF some (ref01_SameInts_M a b) (ref01_SameInts_m big a b) from (fun (n : Nat) (hn : big ≤ n) => show LeF some (ref01_SameInts_M a b) (ref01_SameInts_m n a b) from (leCond (leSome rfl) (leGuard fun hx => by apply ref01_SameInts_m_w0_le n hn; exact hx))) big (Nat.le_refl _)) h⟩
noncomputable def ref01_SameInts_e : Entry := { f := 48, args := ref01_SameInts_a, ress := ref01_SameInts_r, m := fun x => ref01_SameInts_M x.1 x.2.1 }
theorem ref01_SameInts_ok : FnOK Tryz.prog ref01_SameInts_e := fn_ok (g := ref01_SameInts_g) (fn := Tryz.f48) hmixed tabOk eNil (by kernel_rfl) (by kernel_rfl) (by kernel_rfl) (fun x y h => let ⟨n, hn⟩ := ref01_SameInts_run x.1 x.2.1 y h; ⟨ref01_SameInts_an n, iNil, (ref01_SameInts_eq n x).trans hn⟩)

/-! ### tidewaylaw06.ints -/
/-! ### tidewayref06.SameCases -/
/-! ### tidewaylaw06.cases -/
/-! ### tidewayref06.Vote -/
/-! ### tidewayref06.Failures -/
/-! ### tidewayref06.SameFailures -/
abbrev ref06_SameFailures_a : Ty := .pair t100 (.pair t100 .unit)
abbrev ref06_SameFailures_r : Ty := .pair t4 .unit
noncomputable def ref06_SameFailures_g : G := { T := T, E := [], muts := [], fz := [] }
def ref06_SameFailures_k : List (List Nat) := [[0, 1, 5]]
noncomputable def ref06_SameFailures_an (n : Nat) : Ann := { keep := ref06_SameFailures_k, fuel := n, inl := [], deep := 0 }
noncomputable def ref06_SameFailures_m_l0 (n : Nat) (r0 : List Fai → List Fai → Int → Option (Bool × Unit)) (a0_0 : List Fai) (b1_0 : List Fai) (i5_0 : Int) : Option (Bool × Unit) :=
  (bif Decidable.decide (i5_0 < (↑a0_0.length : Int)) then (Option.bind (Go.Vx.idx a0_0 i5_0) fun (v1 : Fai) => (Option.bind (Go.Vx.idx b1_0 i5_0) fun (v2 : Fai) => (bif !Go.Vx.eqV (Go.Vx.Ty.str.pair ((Go.Vx.Ty.int Go.IntKind.i64).pair ((Go.Vx.Ty.int Go.IntKind.i64).pair ((Go.Vx.Ty.int Go.IntKind.i64).pair Go.Vx.Ty.unit)))) v1 v2 then Option.some (Bool.false, ()) else r0 a0_0 b1_0 (Go.IntKind.i64.wrap (i5_0 + (1 : Int)))))) else Option.some (Bool.true, ()))

noncomputable def ref06_SameFailures_m_w0 (n : Nat)  (k : Nat) (a0_0 : List Fai) (b1_0 : List Fai) (i5_0 : Int) : Option (Bool × Unit) :=
  iter (fun r y => ref06_SameFailures_m_l0 n (fun a0_0 b1_0 i5_0 => r ((a0_0, (b1_0, (i5_0, ()))), ((), ()))) y.1.1 y.1.2.1 y.1.2.2.1) k ((a0_0, (b1_0, (i5_0, ()))), ((), ()))

noncomputable def ref06_SameFailures_m (n : Nat) (a : List Fai) (b : List Fai) : Option (Bool × Unit) :=
  (bif (↑a.length : Int) != (↑b.length : Int) then Option.some (Bool.false, ()) else (ref06_SameFailures_m_w0 n n (a) (b) ((0 : Int))))

theorem ref06_SameFailures_eq (n : Nat) (x : ref06_SameFailures_a.den) : runF ref06_SameFailures_g (ref06_SameFailures_an n) Tryz.f64 ref06_SameFailures_a ref06_SameFailures_r x = ref06_SameFailures_m n x.1 x.2.1 := by kernel_rfl

noncomputable def ref06_SameFailures_b0 (a0_0 : List Fai) (b1_0 : List Fai) (i5_0 : Int) (v1 : Fai) : Option ((Bool × Unit) ⊕ Unit) :=
  (Option.bind (Go.Vx.idx b1_0 i5_0) fun (v2 : Fai) => (bif !Go.Vx.eqV (Go.Vx.Ty.str.pair ((Go.Vx.Ty.int Go.IntKind.i64).pair ((Go.Vx.Ty.int Go.IntKind.i64).pair ((Go.Vx.Ty.int Go.IntKind.i64).pair Go.Vx.Ty.unit)))) v1 v2 then (some (Sum.inl ((Bool.false, ())))) else (some (Sum.inr ()))))

noncomputable def ref06_SameFailures_f0 (a0_0 : List Fai) (b1_0 : List Fai) : Option (Bool × Unit) :=
  (some ((Bool.true, ())))

theorem ref06_SameFailures_m_w0_le (n : Nat) (hn : big ≤ n)  (a0_0 : List Fai) (b1_0 : List Fai) (hx : List.length (a0_0) < lenMax) : LeF some (loopL (fun i__ e__ s__ => ref06_SameFailures_b0 a0_0 b1_0 i__ e__) (fun s__ => ref06_SameFailures_f0 a0_0 b1_0) 0 (a0_0) ()) (ref06_SameFailures_m_w0 n n a0_0 b1_0 0) := by
  refine loopL_le (f := some) (W := fun k__ i__ s__ => ref06_SameFailures_m_w0 n k__ a0_0 b1_0 i__) (body := (fun i__ e__ s__ => ref06_SameFailures_b0 a0_0 b1_0 i__ e__)) (fin := (fun s__ => ref06_SameFailures_f0 a0_0 b1_0)) (fun k__ i__ s__ => ?_) hx () n (by unfold big at hn; unfold lenMax at hx; omega)
  show LeF _ _ (ref06_SameFailures_m_l0 n (ref06_SameFailures_m_w0 n k__) a0_0 b1_0 i__)
  exact leCond (leBind fun v1 => (leBind fun v2 => (leCond (leSome rfl) (leSome rfl)))) (leMap (leSome rfl))

noncomputable def ref06_SameFailures_M (a : List Fai) (b : List Fai) : Option (Bool × Unit) :=
  (bif (↑a.length : Int) != (↑b.length : Int) then (some ((Bool.false, ()))) else (bif decide (List.length (a) < lenMax) then loopL (fun i__ e__ s__ => ref06_SameFailures_b0 (a) (b) i__ e__) (fun s__ => ref06_SameFailures_f0 (a) (b)) 0 (a) () else none))

theorem ref06_SameFailures_run (a : List Fai) (b : List Fai) (y : Bool × Unit) (h : ref06_SameFailures_M a b = some y) : ∃ n, ref06_SameFailures_m n a b = some y :=
  ⟨big, LeF.top (show LeF some (ref06_SameFailures_M a b) (ref06_SameFailures_m big a b) from (fun (n : Nat) (hn : big ≤ n) => show LeF some (ref06_SameFailures_M a b) (ref06_SameFailures_m n a b) from (leCond (leSome rfl) (leGuard fun hx => by apply ref06_SameFailures_m_w0_le n hn; exact hx))) big (Nat.le_refl _)) h⟩
noncomputable def ref06_SameFailures_e : Entry := { f := 64, args := ref06_SameFailures_a, ress := ref06_SameFailures_r, m := fun x => ref06_SameFailures_M x.1 x.2.1 }
theorem ref06_SameFailures_ok : FnOK Tryz.prog ref06_SameFailures_e := fn_ok (g := ref06_SameFailures_g) (fn := Tryz.f64) hmixed tabOk eNil (by kernel_rfl) (by kernel_rfl) (by kernel_rfl) (fun x y h => let ⟨n, hn⟩ := ref06_SameFailures_run x.1 x.2.1 y h; ⟨ref06_SameFailures_an n, iNil, (ref06_SameFailures_eq n x).trans hn⟩)

/-! ### tidewaylaw06.failures -/
abbrev law06_failures_a : Ty := .pair t97 .unit
abbrev law06_failures_r : Ty := .pair t100 .unit
noncomputable def law06_failures_g : G := { T := T, E := [], muts := [3], fz := [] }
def law06_failures_k : List (List Nat) := [[3, 6, 7, 8]]
noncomputable def law06_failures_an (n : Nat) : Ann := { keep := law06_failures_k, fuel := n, inl := [], deep := 0 }
noncomputable def law06_failures_m_l0 (n : Nat) (r0 : List Fai → Int → Int → List Fai → Option (List Fai × Unit)) (t6_0 : List Fai) (t7_0 : Int) (t8_0 : Int) (c0_0 : List Fai) : Option (List Fai × Unit) :=
  (bif Decidable.decide (t8_0 < t7_0) then (Option.bind (Go.Vx.idx t6_0 t8_0) fun (v1 : Fai) => (bif Decidable.decide (c0_0.length + (1 : Nat) ≤ Go.Vx.memMax) then r0 t6_0 t7_0 (Go.IntKind.i64.wrap (t8_0 + (1 : Int))) (c0_0 ++ [(v1.fst, v1.snd.fst, v1.snd.snd.fst, v1.snd.snd.snd.fst, ())]) else none)) else Option.some (c0_0, ()))

noncomputable def law06_failures_m_w0 (n : Nat)  (k : Nat) (t6_0 : List Fai) (t7_0 : Int) (t8_0 : Int) (c0_0 : List Fai) : Option (List Fai × Unit) :=
  iter (fun r y => law06_failures_m_l0 n (fun t6_0 t7_0 t8_0 c0_0 => r ((t6_0, (t7_0, (t8_0, ()))), ((c0_0, ()), ()))) y.1.1 y.1.2.1 y.1.2.2.1 y.2.1.1) k ((t6_0, (t7_0, (t8_0, ()))), ((c0_0, ()), ()))

noncomputable def law06_failures_m (n : Nat) (l : List Fai) : Option (List Fai × Unit) :=
  (law06_failures_m_w0 n n (l) ((↑l.length : Int)) ((0 : Int)) ([]))

theorem law06_failures_eq (n : Nat) (x : law06_failures_a.den) : runF law06_failures_g (law06_failures_an n) Tryz.f65 law06_failures_a law06_failures_r x = law06_failures_m n x.1 := by kernel_rfl

noncomputable def law06_failures_b0 (t6_0 : List Fai) (t8_0 : Int) (v1 : Fai) (c0_0 : List Fai) : Option ((List Fai × Unit) ⊕ (List Fai)) :=
  (bif Decidable.decide (c0_0.length + (1 : Nat) ≤ Go.Vx.memMax) then (some (Sum.inr (c0_0 ++ [(v1.fst, v1.snd.fst, v1.snd.snd.fst, v1.snd.snd.snd.fst, ())]))) else none)

noncomputable def law06_failures_f0 (t6_0 : List Fai) (c0_0 : List Fai) : Option (List Fai × Unit) :=
  (some ((c0_0, ())))

theorem law06_failures_m_w0_le (n : Nat) (hn : big ≤ n)  (t6_0 : List Fai) (c0_0 : List Fai) (hx : List.length (t6_0) < lenMax) : LeF some (loopL (fun i__ e__ s__ => law06_failures_b0 t6_0 i__ e__ s__) (fun s__ => law06_failures_f0 t6_0 s__) 0 (t6_0) c0_0) (law06_failures_m_w0 n n t6_0 (List.length (t6_0) : Int) 0 c0_0) := by
  refine loopL_le (f := some) (W := fun k__ i__ s__ => law06_failures_m_w0 n k__ t6_0 (List.length (t6_0) : Int) i__ s__) (body := (fun i__ e__ s__ => law06_failures_b0 t6_0 i__ e__ s__)) (fin := (fun s__ => law06_failures_f0 t6_0 s__)) (fun k__ i__ s__ => ?_) hx c0_0 n (by unfold big at hn; unfold lenMax at hx; omega)
  show LeF _ _ (law06_failures_m_l0 n (law06_failures_m_w0 n k__) t6_0 (List.length (t6_0) : Int) i__ s__)
  exact leCond (leBind fun v1 => (leCond (leSome rfl) leNone)) (leMap (leSome rfl))

noncomputable def law06_failures_M (l : List Fai) : Option (List Fai × Unit) :=
  (bif decide (List.length (l) < lenMax) then loopL (fun i__ e__ s__ => law06_failures_b0 (l) i__ e__ s__) (fun s__ => law06_failures_f0 (l) s__) 0 (l) ([]) else none)

theorem law06_failures_run (l : List Fai) (y : List Fai × Unit) (h : law06_failures_M l = some y) : ∃ n, law06_failures_m n l = some y :=
  ⟨big, LeF.top (show LeF some (law06_failures_M l) (law06_failures_m big l) from (fun (n : Nat) (hn : big ≤ n) => show LeF some (law06_failures_M l) (law06_failures_m n l) from (leGuard fun hx => by apply law06_failures_m_w0_le n hn; exact hx)) big (Nat.le_refl _)) h⟩
noncomputable def law06_failures_e : Entry := { f := 65, args := law06_failures_a, ress := law06_failures_r, m := fun x => law06_failures_M x.1 }
theorem law06_failures_ok : FnOK Tryz.prog law06_failures_e := fn_ok (g := law06_failures_g) (fn := Tryz.f65) hmixed tabOk eNil (by kernel_rfl) (by kernel_rfl) (by kernel_rfl) (fun x y h => let ⟨n, hn⟩ := law06_failures_run x.1 y h; ⟨law06_failures_an n, iNil, (law06_failures_eq n x).trans hn⟩)

/-! ### tidewaylaw06.around -/
/-! ### tidewayref01.HasInt -/
/-! ### tidewayref06.CheckStates -/
/-! ### tidewayref06.SameInputs -/
abbrev ref06_SameInputs_a : Ty := .pair t50 (.pair t50 .unit)
abbrev ref06_SameInputs_r : Ty := .pair t4 .unit
noncomputable def ref06_SameInputs_g : G := { T := T, E := [], muts := [], fz := [] }
def ref06_SameInputs_k : List (List Nat) := [[0, 1, 5]]
noncomputable def ref06_SameInputs_an (n : Nat) : Ann := { keep := ref06_SameInputs_k, fuel := n, inl := [], deep := 0 }
noncomputable def ref06_SameInputs_m_l0 (n : Nat) (r0 : List (List UInt8 × Int × Unit) → List (List UInt8 × Int × Unit) → Int → Option (Bool × Unit)) (a0_0 : List (List UInt8 × Int × Unit)) (b1_0 : List (List UInt8 × Int × Unit)) (i5_0 : Int) : Option (Bool × Unit) :=
  (bif Decidable.decide (i5_0 < (↑a0_0.length : Int)) then (Option.bind (Go.Vx.idx a0_0 i5_0) fun (v1 : List UInt8 × Int × Unit) => (Option.bind (Go.Vx.idx b1_0 i5_0) fun (v2 : List UInt8 × Int × Unit) => (bif !Go.Vx.eqV (Go.Vx.Ty.str.pair ((Go.Vx.Ty.int Go.IntKind.i64).pair Go.Vx.Ty.unit)) v1 v2 then Option.some (Bool.false, ()) else r0 a0_0 b1_0 (Go.IntKind.i64.wrap (i5_0 + (1 : Int)))))) else Option.some (Bool.true, ()))

noncomputable def ref06_SameInputs_m_w0 (n : Nat)  (k : Nat) (a0_0 : List (List UInt8 × Int × Unit)) (b1_0 : List (List UInt8 × Int × Unit)) (i5_0 : Int) : Option (Bool × Unit) :=
  iter (fun r y => ref06_SameInputs_m_l0 n (fun a0_0 b1_0 i5_0 => r ((a0_0, (b1_0, (i5_0, ()))), ((), ()))) y.1.1 y.1.2.1 y.1.2.2.1) k ((a0_0, (b1_0, (i5_0, ()))), ((), ()))

noncomputable def ref06_SameInputs_m (n : Nat) (a : List (List UInt8 × Int × Unit)) (b : List (List UInt8 × Int × Unit)) : Option (Bool × Unit) :=
  (bif (↑a.length : Int) != (↑b.length : Int) then Option.some (Bool.false, ()) else (ref06_SameInputs_m_w0 n n (a) (b) ((0 : Int))))

theorem ref06_SameInputs_eq (n : Nat) (x : ref06_SameInputs_a.den) : runF ref06_SameInputs_g (ref06_SameInputs_an n) Tryz.f73 ref06_SameInputs_a ref06_SameInputs_r x = ref06_SameInputs_m n x.1 x.2.1 := by kernel_rfl

noncomputable def ref06_SameInputs_b0 (a0_0 : List (List UInt8 × Int × Unit)) (b1_0 : List (List UInt8 × Int × Unit)) (i5_0 : Int) (v1 : List UInt8 × Int × Unit) : Option ((Bool × Unit) ⊕ Unit) :=
  (Option.bind (Go.Vx.idx b1_0 i5_0) fun (v2 : List UInt8 × Int × Unit) => (bif !Go.Vx.eqV (Go.Vx.Ty.str.pair ((Go.Vx.Ty.int Go.IntKind.i64).pair Go.Vx.Ty.unit)) v1 v2 then (some (Sum.inl ((Bool.false, ())))) else (some (Sum.inr ()))))

noncomputable def ref06_SameInputs_f0 (a0_0 : List (List UInt8 × Int × Unit)) (b1_0 : List (List UInt8 × Int × Unit)) : Option (Bool × Unit) :=
  (some ((Bool.true, ())))

theorem ref06_SameInputs_m_w0_le (n : Nat) (hn : big ≤ n)  (a0_0 : List (List UInt8 × Int × Unit)) (b1_0 : List (List UInt8 × Int × Unit)) (hx : List.length (a0_0) < lenMax) : LeF some (loopL (fun i__ e__ s__ => ref06_SameInputs_b0 a0_0 b1_0 i__ e__) (fun s__ => ref06_SameInputs_f0 a0_0 b1_0) 0 (a0_0) ()) (ref06_SameInputs_m_w0 n n a0_0 b1_0 0) := by
  refine loopL_le (f := some) (W := fun k__ i__ s__ => ref06_SameInputs_m_w0 n k__ a0_0 b1_0 i__) (body := (fun i__ e__ s__ => ref06_SameInputs_b0 a0_0 b1_0 i__ e__)) (fin := (fun s__ => ref06_SameInputs_f0 a0_0 b1_0)) (fun k__ i__ s__ => ?_) hx () n (by unfold big at hn; unfold lenMax at hx; omega)
  show LeF _ _ (ref06_SameInputs_m_l0 n (ref06_SameInputs_m_w0 n k__) a0_0 b1_0 i__)
  exact leCond (leBind fun v1 => (leBind fun v2 => (leCond (leSome rfl) (leSome rfl)))) (leMap (leSome rfl))

noncomputable def ref06_SameInputs_M (a : List (List UInt8 × Int × Unit)) (b : List (List UInt8 × Int × Unit)) : Option (Bool × Unit) :=
  (bif (↑a.length : Int) != (↑b.length : Int) then (some ((Bool.false, ()))) else (bif decide (List.length (a) < lenMax) then loopL (fun i__ e__ s__ => ref06_SameInputs_b0 (a) (b) i__ e__) (fun s__ => ref06_SameInputs_f0 (a) (b)) 0 (a) () else none))

theorem ref06_SameInputs_run (a : List (List UInt8 × Int × Unit)) (b : List (List UInt8 × Int × Unit)) (y : Bool × Unit) (h : ref06_SameInputs_M a b = some y) : ∃ n, ref06_SameInputs_m n a b = some y :=
  ⟨big, LeF.top (show LeF some (ref06_SameInputs_M a b) (ref06_SameInputs_m big a b) from (fun (n : Nat) (hn : big ≤ n) => show LeF some (ref06_SameInputs_M a b) (ref06_SameInputs_m n a b) from (leCond (leSome rfl) (leGuard fun hx => by apply ref06_SameInputs_m_w0_le n hn; exact hx))) big (Nat.le_refl _)) h⟩
noncomputable def ref06_SameInputs_e : Entry := { f := 73, args := ref06_SameInputs_a, ress := ref06_SameInputs_r, m := fun x => ref06_SameInputs_M x.1 x.2.1 }
theorem ref06_SameInputs_ok : FnOK Tryz.prog ref06_SameInputs_e := fn_ok (g := ref06_SameInputs_g) (fn := Tryz.f73) hmixed tabOk eNil (by kernel_rfl) (by kernel_rfl) (by kernel_rfl) (fun x y h => let ⟨n, hn⟩ := ref06_SameInputs_run x.1 x.2.1 y h; ⟨ref06_SameInputs_an n, iNil, (ref06_SameInputs_eq n x).trans hn⟩)

/-! ### tidewaylaw06.inputs -/
abbrev law06_inputs_a : Ty := .pair t57 .unit
abbrev law06_inputs_r : Ty := .pair t50 .unit
noncomputable def law06_inputs_g : G := { T := T, E := [], muts := [3], fz := [] }
def law06_inputs_k : List (List Nat) := [[3, 6, 7, 8]]
noncomputable def law06_inputs_an (n : Nat) : Ann := { keep := law06_inputs_k, fuel := n, inl := [], deep := 0 }
noncomputable def law06_inputs_m_l0 (n : Nat) (r0 : List (List UInt8 × Int × Unit) → Int → Int → List (List UInt8 × Int × Unit) → Option (List (List UInt8 × Int × Unit) × Unit)) (t6_0 : List (List UInt8 × Int × Unit)) (t7_0 : Int) (t8_0 : Int) (c0_0 : List (List UInt8 × Int × Unit)) : Option (List (List UInt8 × Int × Unit) × Unit) :=
  (bif Decidable.decide (t8_0 < t7_0) then (Option.bind (Go.Vx.idx t6_0 t8_0) fun (v1 : List UInt8 × Int × Unit) => (bif Decidable.decide (c0_0.length + (1 : Nat) ≤ Go.Vx.memMax) then r0 t6_0 t7_0 (Go.IntKind.i64.wrap (t8_0 + (1 : Int))) (c0_0 ++ [(v1.fst, v1.snd.fst, ())]) else none)) else Option.some (c0_0, ()))

noncomputable def law06_inputs_m_w0 (n : Nat)  (k : Nat) (t6_0 : List (List UInt8 × Int × Unit)) (t7_0 : Int) (t8_0 : Int) (c0_0 : List (List UInt8 × Int × Unit)) : Option (List (List UInt8 × Int × Unit) × Unit) :=
  iter (fun r y => law06_inputs_m_l0 n (fun t6_0 t7_0 t8_0 c0_0 => r ((t6_0, (t7_0, (t8_0, ()))), ((c0_0, ()), ()))) y.1.1 y.1.2.1 y.1.2.2.1 y.2.1.1) k ((t6_0, (t7_0, (t8_0, ()))), ((c0_0, ()), ()))

noncomputable def law06_inputs_m (n : Nat) (l : List (List UInt8 × Int × Unit)) : Option (List (List UInt8 × Int × Unit) × Unit) :=
  (law06_inputs_m_w0 n n (l) ((↑l.length : Int)) ((0 : Int)) ([]))

theorem law06_inputs_eq (n : Nat) (x : law06_inputs_a.den) : runF law06_inputs_g (law06_inputs_an n) Tryz.f74 law06_inputs_a law06_inputs_r x = law06_inputs_m n x.1 := by kernel_rfl

noncomputable def law06_inputs_b0 (t6_0 : List (List UInt8 × Int × Unit)) (t8_0 : Int) (v1 : List UInt8 × Int × Unit) (c0_0 : List (List UInt8 × Int × Unit)) : Option ((List (List UInt8 × Int × Unit) × Unit) ⊕ (List (List UInt8 × Int × Unit))) :=
  (bif Decidable.decide (c0_0.length + (1 : Nat) ≤ Go.Vx.memMax) then (some (Sum.inr (c0_0 ++ [(v1.fst, v1.snd.fst, ())]))) else none)

noncomputable def law06_inputs_f0 (t6_0 : List (List UInt8 × Int × Unit)) (c0_0 : List (List UInt8 × Int × Unit)) : Option (List (List UInt8 × Int × Unit) × Unit) :=
  (some ((c0_0, ())))

theorem law06_inputs_m_w0_le (n : Nat) (hn : big ≤ n)  (t6_0 : List (List UInt8 × Int × Unit)) (c0_0 : List (List UInt8 × Int × Unit)) (hx : List.length (t6_0) < lenMax) : LeF some (loopL (fun i__ e__ s__ => law06_inputs_b0 t6_0 i__ e__ s__) (fun s__ => law06_inputs_f0 t6_0 s__) 0 (t6_0) c0_0) (law06_inputs_m_w0 n n t6_0 (List.length (t6_0) : Int) 0 c0_0) := by
  refine loopL_le (f := some) (W := fun k__ i__ s__ => law06_inputs_m_w0 n k__ t6_0 (List.length (t6_0) : Int) i__ s__) (body := (fun i__ e__ s__ => law06_inputs_b0 t6_0 i__ e__ s__)) (fin := (fun s__ => law06_inputs_f0 t6_0 s__)) (fun k__ i__ s__ => ?_) hx c0_0 n (by unfold big at hn; unfold lenMax at hx; omega)
  show LeF _ _ (law06_inputs_m_l0 n (law06_inputs_m_w0 n k__) t6_0 (List.length (t6_0) : Int) i__ s__)
  exact leCond (leBind fun v1 => (leCond (leSome rfl) leNone)) (leMap (leSome rfl))

noncomputable def law06_inputs_M (l : List (List UInt8 × Int × Unit)) : Option (List (List UInt8 × Int × Unit) × Unit) :=
  (bif decide (List.length (l) < lenMax) then loopL (fun i__ e__ s__ => law06_inputs_b0 (l) i__ e__ s__) (fun s__ => law06_inputs_f0 (l) s__) 0 (l) ([]) else none)

theorem law06_inputs_run (l : List (List UInt8 × Int × Unit)) (y : List (List UInt8 × Int × Unit) × Unit) (h : law06_inputs_M l = some y) : ∃ n, law06_inputs_m n l = some y :=
  ⟨big, LeF.top (show LeF some (law06_inputs_M l) (law06_inputs_m big l) from (fun (n : Nat) (hn : big ≤ n) => show LeF some (law06_inputs_M l) (law06_inputs_m n l) from (leGuard fun hx => by apply law06_inputs_m_w0_le n hn; exact hx)) big (Nat.le_refl _)) h⟩
noncomputable def law06_inputs_e : Entry := { f := 74, args := law06_inputs_a, ress := law06_inputs_r, m := fun x => law06_inputs_M x.1 }
theorem law06_inputs_ok : FnOK Tryz.prog law06_inputs_e := fn_ok (g := law06_inputs_g) (fn := Tryz.f74) hmixed tabOk eNil (by kernel_rfl) (by kernel_rfl) (by kernel_rfl) (fun x y h => let ⟨n, hn⟩ := law06_inputs_run x.1 y h; ⟨law06_inputs_an n, iNil, (law06_inputs_eq n x).trans hn⟩)

/-! ### tidewaylaw06.door -/
abbrev law06_door_a : Ty := .unit
abbrev law06_door_r : Ty := .pair t35 .unit
noncomputable def law06_door_g : G := { T := T, E := [], muts := [], fz := [] }
def law06_door_k : List (List Nat) := []
noncomputable def law06_door_an (n : Nat) : Ann := { keep := law06_door_k, fuel := n, inl := [], deep := 0 }
noncomputable def law06_door_m (n : Nat)  : Option (Cha × Unit) :=
  Option.some (([([(119 : UInt8), (111 : UInt8), (114 : UInt8), (107 : UInt8)], (-1 : Int), (1 : Int), Bool.false, ()), ([(111 : UInt8), (112 : UInt8), (101 : UInt8), (110 : UInt8)], (0 : Int), (-1 : Int), Bool.false, ()), ([(108 : UInt8), (111 : UInt8), (119 : UInt8), (101 : UInt8), (114 : UInt8)], (0 : Int), (-1 : Int), Bool.true, ()), ([(99 : UInt8), (108 : UInt8), (111 : UInt8), (115 : UInt8), (101 : UInt8), (100 : UInt8)], (0 : Int), (-1 : Int), Bool.false, ()), ([(97 : UInt8), (108 : UInt8), (97 : UInt8), (114 : UInt8), (109 : UInt8)], (-1 : Int), (-1 : Int), Bool.false, ())], [((1 : Int), [(99 : UInt8), (108 : UInt8), (111 : UInt8), (115 : UInt8), (101 : UInt8)], (2 : Int), (1 : Int), (0 : Int), ()), ((2 : Int), [(100 : UInt8), (111 : UInt8), (110 : UInt8), (101 : UInt8)], (3 : Int), (0 : Int), (0 : Int), ()), ((3 : Int), [(111 : UInt8), (112 : UInt8), (101 : UInt8), (110 : UInt8)], (1 : Int), (0 : Int), (0 : Int), ()), ((0 : Int), [(102 : UInt8), (97 : UInt8), (105 : UInt8), (108 : UInt8)], (4 : Int), (0 : Int), (0 : Int), ())], ()), ())

theorem law06_door_eq (n : Nat) (x : law06_door_a.den) : runF law06_door_g (law06_door_an n) Tryz.f85 law06_door_a law06_door_r x = law06_door_m n := by kernel_rfl

noncomputable def law06_door  : (Cha × Unit) :=
  (([([(119 : UInt8), (111 : UInt8), (114 : UInt8), (107 : UInt8)], (-1 : Int), (1 : Int), Bool.false, ()), ([(111 : UInt8), (112 : UInt8), (101 : UInt8), (110 : UInt8)], (0 : Int), (-1 : Int), Bool.false, ()), ([(108 : UInt8), (111 : UInt8), (119 : UInt8), (101 : UInt8), (114 : UInt8)], (0 : Int), (-1 : Int), Bool.true, ()), ([(99 : UInt8), (108 : UInt8), (111 : UInt8), (115 : UInt8), (101 : UInt8), (100 : UInt8)], (0 : Int), (-1 : Int), Bool.false, ()), ([(97 : UInt8), (108 : UInt8), (97 : UInt8), (114 : UInt8), (109 : UInt8)], (-1 : Int), (-1 : Int), Bool.false, ())], [((1 : Int), [(99 : UInt8), (108 : UInt8), (111 : UInt8), (115 : UInt8), (101 : UInt8)], (2 : Int), (1 : Int), (0 : Int), ()), ((2 : Int), [(100 : UInt8), (111 : UInt8), (110 : UInt8), (101 : UInt8)], (3 : Int), (0 : Int), (0 : Int), ()), ((3 : Int), [(111 : UInt8), (112 : UInt8), (101 : UInt8), (110 : UInt8)], (1 : Int), (0 : Int), (0 : Int), ()), ((0 : Int), [(102 : UInt8), (97 : UInt8), (105 : UInt8), (108 : UInt8)], (4 : Int), (0 : Int), (0 : Int), ())], ()), ())

noncomputable abbrev law06_door_M  : Option (Cha × Unit) := some (law06_door)

theorem law06_door_run  (y : Cha × Unit) (h : law06_door_M = some y) : ∃ n, law06_door_m n = some y :=
  ⟨0, by rw [← h]; show law06_door_m 0 = some (law06_door); unfold law06_door_m law06_door; first | rfl | (simp only [cond_some]; done) | (simp only [cond_some]; rfl)⟩
noncomputable def law06_door_e : Entry := { f := 85, args := law06_door_a, ress := law06_door_r, m := fun x => law06_door_M, ex := some ⟨t35, doorV⟩ }
theorem law06_door_ok : FnOK Tryz.prog law06_door_e := fn_ok (g := law06_door_g) (fn := Tryz.f85) hmixed tabOk eNil (by kernel_rfl) (by kernel_rfl) (by kernel_rfl) (fun x y h => let ⟨n, hn⟩ := law06_door_run y h; ⟨law06_door_an n, iNil, (law06_door_eq n x).trans hn⟩) rfl (fun q h => by cases h; exact door_ex)

/-! ### (gate.Chart).enter -/
abbrev gate_Chart_enter_a : Ty := .pair t35 (.pair t3 .unit)
abbrev gate_Chart_enter_r : Ty := .pair t3 .unit
noncomputable def gate_Chart_enter_g : G := { T := T, E := [], muts := [], fz := [] }
def gate_Chart_enter_k : List (List Nat) := [[1, 2]]
noncomputable def gate_Chart_enter_an (n : Nat) : Ann := { keep := gate_Chart_enter_k, fuel := n, inl := [], deep := 0 }
noncomputable def gate_Chart_enter_m_l0 (n : Nat) (r0 : Int → Cha → Option (Int × Unit)) (state1_0 : Int) (c2_0 : Cha) : Option (Int × Unit) :=
  (Option.bind (Go.Vx.idx c2_0.fst state1_0) fun (v1 : Sta) => (bif v1.snd.snd.fst != (-1 : Int) then (Option.bind (Go.Vx.idx c2_0.fst state1_0) fun (v2 : Sta) => r0 v2.snd.snd.fst c2_0) else Option.some (state1_0, ())))

noncomputable def gate_Chart_enter_m_w0 (n : Nat)  (k : Nat) (state1_0 : Int) (c2_0 : Cha) : Option (Int × Unit) :=
  iter (fun r y => gate_Chart_enter_m_l0 n (fun state1_0 c2_0 => r ((state1_0, (c2_0, ())), ((), ()))) y.1.1 y.1.2.1) k ((state1_0, (c2_0, ())), ((), ()))

noncomputable def gate_Chart_enter_m (n : Nat) (c : Cha) (state : Int) : Option (Int × Unit) :=
  (gate_Chart_enter_m_w0 n n (state) (c))

theorem gate_Chart_enter_eq (n : Nat) (x : gate_Chart_enter_a.den) : runF gate_Chart_enter_g (gate_Chart_enter_an n) Tryz.f88 gate_Chart_enter_a gate_Chart_enter_r x = gate_Chart_enter_m n x.1 x.2.1 := by kernel_rfl

noncomputable def gate_Chart_enter_b0 (c2_0 : Cha) (state1_0 : Int) : Option ((Int × Unit) ⊕ (Int)) :=
  (Option.bind (Go.Vx.idx c2_0.fst state1_0) fun (v1 : Sta) => (bif v1.snd.snd.fst != (-1 : Int) then (Option.bind (Go.Vx.idx c2_0.fst state1_0) fun (v2 : Sta) => (some (Sum.inr (v2.snd.snd.fst)))) else (some (Sum.inl ((state1_0, ()))))))

theorem gate_Chart_enter_m_w0_le (n : Nat) (hn : big ≤ n)  (c2_0 : Cha) (state1_0 : Int) : LeF some (loopW (fun s__ => gate_Chart_enter_b0 c2_0 s__) wMax state1_0) (gate_Chart_enter_m_w0 n n state1_0 c2_0) := by
  refine loopW_le (f := some) (W := fun k__ s__ => gate_Chart_enter_m_w0 n k__ s__ c2_0) (body := (fun s__ => gate_Chart_enter_b0 c2_0 s__)) (fun k__ s__ => ?_) wMax n state1_0 (by unfold big at hn; unfold wMax; omega)
  show LeF _ _ (gate_Chart_enter_m_l0 n (gate_Chart_enter_m_w0 n k__) s__ c2_0)
  exact (leBind fun v1 => (leCond (leBind fun v2 => (leSome rfl)) (leSome rfl)))

noncomputable def gate_Chart_enter_M (c : Cha) (state : Int) : Option (Int × Unit) :=
  (loopW (fun s__ => gate_Chart_enter_b0 (c) s__) wMax (state))

theorem gate_Chart_enter_run (c : Cha) (state : Int) (y : Int × Unit) (h : gate_Chart_enter_M c state = some y) : ∃ n, gate_Chart_enter_m n c state = some y :=
  ⟨big, LeF.top (show LeF some (gate_Chart_enter_M c state) (gate_Chart_enter_m big c state) from (fun (n : Nat) (hn : big ≤ n) => show LeF some (gate_Chart_enter_M c state) (gate_Chart_enter_m n c state) from (by apply gate_Chart_enter_m_w0_le n hn)) big (Nat.le_refl _)) h⟩
noncomputable def gate_Chart_enter_e : Entry := { f := 88, args := gate_Chart_enter_a, ress := gate_Chart_enter_r, m := fun x => gate_Chart_enter_M x.1 x.2.1 }
theorem gate_Chart_enter_ok : FnOK Tryz.prog gate_Chart_enter_e := fn_ok (g := gate_Chart_enter_g) (fn := Tryz.f88) hmixed tabOk eNil (by kernel_rfl) (by kernel_rfl) (by kernel_rfl) (fun x y h => let ⟨n, hn⟩ := gate_Chart_enter_run x.1 x.2.1 y h; ⟨gate_Chart_enter_an n, iNil, (gate_Chart_enter_eq n x).trans hn⟩)

/-! ### tidewayref06.children -/
abbrev ref06_children_a : Ty := .pair t25 (.pair t3 (.pair t3 .unit))
abbrev ref06_children_r : Ty := .pair t3 (.pair t4 .unit)
noncomputable def ref06_children_g : G := { T := T, E := [], muts := [], fz := [] }
def ref06_children_k : List (List Nat) := [[1, 2, 3, 8, 9, 10]]
noncomputable def ref06_children_an (n : Nat) : Ann := { keep := ref06_children_k, fuel := n, inl := [], deep := 0 }
noncomputable def ref06_children_m_l0 (n : Nat) (r0 : Int → Int → Cha → Int → Bool → Int → Option (Int × Bool × Unit)) (state1_0 : Int) (index2_0 : Int) (c3_0 : Cha) (n8_0 : Int) (is9_0 : Bool) (i10_0 : Int) : Option (Int × Bool × Unit) :=
  (bif Decidable.decide (i10_0 < (↑c3_0.fst.length : Int)) then (Option.bind (Go.Vx.idx c3_0.fst i10_0) fun (v1 : Sta) => (bif v1.snd.fst == state1_0 then (bif is9_0 then r0 state1_0 index2_0 c3_0 (Go.IntKind.i64.wrap (n8_0 + (1 : Int))) Bool.true (Go.IntKind.i64.wrap (i10_0 + (1 : Int))) else r0 state1_0 index2_0 c3_0 (Go.IntKind.i64.wrap (n8_0 + (1 : Int))) (i10_0 == index2_0) (Go.IntKind.i64.wrap (i10_0 + (1 : Int)))) else r0 state1_0 index2_0 c3_0 n8_0 is9_0 (Go.IntKind.i64.wrap (i10_0 + (1 : Int))))) else Option.some (n8_0, is9_0, ()))

noncomputable def ref06_children_m_w0 (n : Nat)  (k : Nat) (state1_0 : Int) (index2_0 : Int) (c3_0 : Cha) (n8_0 : Int) (is9_0 : Bool) (i10_0 : Int) : Option (Int × Bool × Unit) :=
  iter (fun r y => ref06_children_m_l0 n (fun state1_0 index2_0 c3_0 n8_0 is9_0 i10_0 => r ((state1_0, (index2_0, (c3_0, (n8_0, (is9_0, (i10_0, ())))))), ((), ()))) y.1.1 y.1.2.1 y.1.2.2.1 y.1.2.2.2.1 y.1.2.2.2.2.1 y.1.2.2.2.2.2.1) k ((state1_0, (index2_0, (c3_0, (n8_0, (is9_0, (i10_0, ())))))), ((), ()))

noncomputable def ref06_children_m (n : Nat) (c : Cha) (state : Int) (index : Int) : Option (Int × Bool × Unit) :=
  (ref06_children_m_w0 n n (state) (index) (c) ((0 : Int)) (Bool.false) ((0 : Int)))

theorem ref06_children_eq (n : Nat) (x : ref06_children_a.den) : runF ref06_children_g (ref06_children_an n) Tryz.f90 ref06_children_a ref06_children_r x = ref06_children_m n x.1 x.2.1 x.2.2.1 := by kernel_rfl

noncomputable def ref06_children_b0 (state1_0 : Int) (index2_0 : Int) (c3_0 : Cha) (i10_0 : Int) (v1 : Sta) (n8_0 : Int) (is9_0 : Bool) : Option ((Int × Bool × Unit) ⊕ (Int × Bool)) :=
  (bif v1.snd.fst == state1_0 then (bif is9_0 then (some (Sum.inr ((Go.IntKind.i64.wrap (n8_0 + (1 : Int))), (Bool.true)))) else (some (Sum.inr ((Go.IntKind.i64.wrap (n8_0 + (1 : Int))), (i10_0 == index2_0))))) else (some (Sum.inr ((n8_0), (is9_0)))))

noncomputable def ref06_children_f0 (state1_0 : Int) (index2_0 : Int) (c3_0 : Cha) (n8_0 : Int) (is9_0 : Bool) : Option (Int × Bool × Unit) :=
  (some ((n8_0, is9_0, ())))

theorem ref06_children_m_w0_le (n : Nat) (hn : big ≤ n)  (state1_0 : Int) (index2_0 : Int) (c3_0 : Cha) (n8_0 : Int) (is9_0 : Bool) (hx : List.length (c3_0.fst) < lenMax) : LeF some (loopL (fun i__ e__ s__ => ref06_children_b0 state1_0 index2_0 c3_0 i__ e__ s__.1 s__.2) (fun s__ => ref06_children_f0 state1_0 index2_0 c3_0 s__.1 s__.2) 0 (c3_0.fst) (n8_0, is9_0)) (ref06_children_m_w0 n n state1_0 index2_0 c3_0 n8_0 is9_0 0) := by
  refine loopL_le (f := some) (W := fun k__ i__ s__ => ref06_children_m_w0 n k__ state1_0 index2_0 c3_0 s__.1 s__.2 i__) (body := (fun i__ e__ s__ => ref06_children_b0 state1_0 index2_0 c3_0 i__ e__ s__.1 s__.2)) (fin := (fun s__ => ref06_children_f0 state1_0 index2_0 c3_0 s__.1 s__.2)) (fun k__ i__ s__ => ?_) hx (n8_0, is9_0) n (by unfold big at hn; unfold lenMax at hx; omega)
  show LeF _ _ (ref06_children_m_l0 n (ref06_children_m_w0 n k__) state1_0 index2_0 c3_0 s__.1 s__.2 i__)
  exact leCond (leBind fun v1 => (leCond (leCond (leSome rfl) (leSome rfl)) (leSome rfl))) (leMap (leSome rfl))

noncomputable def ref06_children_M (c : Cha) (state : Int) (index : Int) : Option (Int × Bool × Unit) :=
  (bif decide (List.length (c.fst) < lenMax) then loopL (fun i__ e__ s__ => ref06_children_b0 (state) (index) (c) i__ e__ s__.1 s__.2) (fun s__ => ref06_children_f0 (state) (index) (c) s__.1 s__.2) 0 (c.fst) (((0 : Int)), (Bool.false)) else none)

theorem ref06_children_run (c : Cha) (state : Int) (index : Int) (y : Int × Bool × Unit) (h : ref06_children_M c state index = some y) : ∃ n, ref06_children_m n c state index = some y :=
  ⟨big, LeF.top (show LeF some (ref06_children_M c state index) (ref06_children_m big c state index) from (fun (n : Nat) (hn : big ≤ n) => show LeF some (ref06_children_M c state index) (ref06_children_m n c state index) from (leGuard fun hx => by apply ref06_children_m_w0_le n hn; exact hx)) big (Nat.le_refl _)) h⟩
noncomputable def ref06_children_e : Entry := { f := 90, args := ref06_children_a, ress := ref06_children_r, m := fun x => ref06_children_M x.1 x.2.1 x.2.2.1 }
theorem ref06_children_ok : FnOK Tryz.prog ref06_children_e := fn_ok (g := ref06_children_g) (fn := Tryz.f90) hmixed tabOk eNil (by kernel_rfl) (by kernel_rfl) (by kernel_rfl) (fun x y h => let ⟨n, hn⟩ := ref06_children_run x.1 x.2.1 x.2.2.1 y h; ⟨ref06_children_an n, iNil, (ref06_children_eq n x).trans hn⟩)

/-! ### tidewayref01.First -/
abbrev ref01_First_a : Ty := .pair t28 .unit
abbrev ref01_First_r : Ty := .pair t3 .unit
noncomputable def ref01_First_g : G := { T := T, E := [], muts := [], fz := [] }
def ref01_First_k : List (List Nat) := [[0, 3]]
noncomputable def ref01_First_an (n : Nat) : Ann := { keep := ref01_First_k, fuel := n, inl := [], deep := 0 }
noncomputable def ref01_First_m_l0 (n : Nat) (r0 : List Int → Int → Option (Int × Unit)) (l0_0 : List Int) (i3_0 : Int) : Option (Int × Unit) :=
  (bif Decidable.decide (i3_0 < (↑l0_0.length : Int)) then (Option.bind (Go.Vx.idx l0_0 i3_0) fun (v1 : Int) => (bif v1 != (0 : Int) then (Option.bind (Go.Vx.idx l0_0 i3_0) fun (v2 : Int) => Option.some (v2, ())) else r0 l0_0 (Go.IntKind.i64.wrap (i3_0 + (1 : Int))))) else Option.some ((0 : Int), ()))

noncomputable def ref01_First_m_w0 (n : Nat)  (k : Nat) (l0_0 : List Int) (i3_0 : Int) : Option (Int × Unit) :=
  iter (fun r y => ref01_First_m_l0 n (fun l0_0 i3_0 => r ((l0_0, (i3_0, ())), ((), ()))) y.1.1 y.1.2.1) k ((l0_0, (i3_0, ())), ((), ()))

noncomputable def ref01_First_m (n : Nat) (l : List Int) : Option (Int × Unit) :=
  (ref01_First_m_w0 n n (l) ((0 : Int)))

theorem ref01_First_eq (n : Nat) (x : ref01_First_a.den) : runF ref01_First_g (ref01_First_an n) Tryz.f91 ref01_First_a ref01_First_r x = ref01_First_m n x.1 := by kernel_rfl

noncomputable def ref01_First_b0 (l0_0 : List Int) (i3_0 : Int) (v1 : Int) : Option ((Int × Unit) ⊕ Unit) :=
  (bif v1 != (0 : Int) then (Option.bind (Go.Vx.idx l0_0 i3_0) fun (v2 : Int) => (some (Sum.inl ((v2, ()))))) else (some (Sum.inr ())))

noncomputable def ref01_First_f0 (l0_0 : List Int) : Option (Int × Unit) :=
  (some (((0 : Int), ())))

theorem ref01_First_m_w0_le (n : Nat) (hn : big ≤ n)  (l0_0 : List Int) (hx : List.length (l0_0) < lenMax) : LeF some (loopL (fun i__ e__ s__ => ref01_First_b0 l0_0 i__ e__) (fun s__ => ref01_First_f0 l0_0) 0 (l0_0) ()) (ref01_First_m_w0 n n l0_0 0) := by
  refine loopL_le (f := some) (W := fun k__ i__ s__ => ref01_First_m_w0 n k__ l0_0 i__) (body := (fun i__ e__ s__ => ref01_First_b0 l0_0 i__ e__)) (fin := (fun s__ => ref01_First_f0 l0_0)) (fun k__ i__ s__ => ?_) hx () n (by unfold big at hn; unfold lenMax at hx; omega)
  show LeF _ _ (ref01_First_m_l0 n (ref01_First_m_w0 n k__) l0_0 i__)
  exact leCond (leBind fun v1 => (leCond (leBind fun v2 => (leSome rfl)) (leSome rfl))) (leMap (leSome rfl))

noncomputable def ref01_First_M (l : List Int) : Option (Int × Unit) :=
  (bif decide (List.length (l) < lenMax) then loopL (fun i__ e__ s__ => ref01_First_b0 (l) i__ e__) (fun s__ => ref01_First_f0 (l)) 0 (l) () else none)

theorem ref01_First_run (l : List Int) (y : Int × Unit) (h : ref01_First_M l = some y) : ∃ n, ref01_First_m n l = some y :=
  ⟨big, LeF.top (show LeF some (ref01_First_M l) (ref01_First_m big l) from (fun (n : Nat) (hn : big ≤ n) => show LeF some (ref01_First_M l) (ref01_First_m n l) from (leGuard fun hx => by apply ref01_First_m_w0_le n hn; exact hx)) big (Nat.le_refl _)) h⟩
noncomputable def ref01_First_e : Entry := { f := 91, args := ref01_First_a, ress := ref01_First_r, m := fun x => ref01_First_M x.1 }
theorem ref01_First_ok : FnOK Tryz.prog ref01_First_e := fn_ok (g := ref01_First_g) (fn := Tryz.f91) hmixed tabOk eNil (by kernel_rfl) (by kernel_rfl) (by kernel_rfl) (fun x y h => let ⟨n, hn⟩ := ref01_First_run x.1 y h; ⟨ref01_First_an n, iNil, (ref01_First_eq n x).trans hn⟩)

/-! ### tidewayref06.when -/
abbrev ref06_when_a : Ty := .pair t4 (.pair t3 .unit)
abbrev ref06_when_r : Ty := .pair t3 .unit
noncomputable def ref06_when_g : G := { T := T, E := [], muts := [], fz := [] }
def ref06_when_k : List (List Nat) := []
noncomputable def ref06_when_an (n : Nat) : Ann := { keep := ref06_when_k, fuel := n, inl := [], deep := 0 }
noncomputable def ref06_when_m (n : Nat) (holds : Bool) (e : Int) : Option (Int × Unit) :=
  (bif holds then Option.some (e, ()) else Option.some ((0 : Int), ()))

theorem ref06_when_eq (n : Nat) (x : ref06_when_a.den) : runF ref06_when_g (ref06_when_an n) Tryz.f92 ref06_when_a ref06_when_r x = ref06_when_m n x.1 x.2.1 := by kernel_rfl

noncomputable def ref06_when (holds : Bool) (e : Int) : (Int × Unit) :=
  (bif holds then (e, ()) else ((0 : Int), ()))

noncomputable abbrev ref06_when_M (holds : Bool) (e : Int) : Option (Int × Unit) := some (ref06_when holds e)

theorem ref06_when_run (holds : Bool) (e : Int) (y : Int × Unit) (h : ref06_when_M holds e = some y) : ∃ n, ref06_when_m n holds e = some y :=
  ⟨0, by rw [← h]; show ref06_when_m 0 holds e = some (ref06_when holds e); unfold ref06_when_m ref06_when; first | rfl | (simp only [cond_some]; done) | (simp only [cond_some]; rfl)⟩
noncomputable def ref06_when_e : Entry := { f := 92, args := ref06_when_a, ress := ref06_when_r, m := fun x => ref06_when_M x.1 x.2.1 }
theorem ref06_when_ok : FnOK Tryz.prog ref06_when_e := fn_ok (g := ref06_when_g) (fn := Tryz.f92) hmixed tabOk eNil (by kernel_rfl) (by kernel_rfl) (by kernel_rfl) (fun x y h => let ⟨n, hn⟩ := ref06_when_run x.1 x.2.1 y h; ⟨ref06_when_an n, iNil, (ref06_when_eq n x).trans hn⟩)

/-! ### tidewayref06.IsLeaf -/
abbrev ref06_IsLeaf_a : Ty := .pair t25 (.pair t3 .unit)
abbrev ref06_IsLeaf_r : Ty := .pair t4 .unit
noncomputable def ref06_IsLeaf_g : G := { T := T, E := [], muts := [], fz := [] }
def ref06_IsLeaf_k : List (List Nat) := []
noncomputable def ref06_IsLeaf_an (n : Nat) : Ann := { keep := ref06_IsLeaf_k, fuel := n, inl := [], deep := 0 }
noncomputable def ref06_IsLeaf_m (n : Nat) (c : Cha) (i : Int) : Option (Bool × Unit) :=
  (Option.bind (Go.Vx.idx c.fst i) fun (v0 : Sta) => Option.some (v0.snd.snd.fst == (-1 : Int), ()))

theorem ref06_IsLeaf_eq (n : Nat) (x : ref06_IsLeaf_a.den) : runF ref06_IsLeaf_g (ref06_IsLeaf_an n) Tryz.f93 ref06_IsLeaf_a ref06_IsLeaf_r x = ref06_IsLeaf_m n x.1 x.2.1 := by kernel_rfl

noncomputable def ref06_IsLeaf_M (c : Cha) (i : Int) : Option (Bool × Unit) := ref06_IsLeaf_m 0 c i

theorem ref06_IsLeaf_run (c : Cha) (i : Int) (y : Bool × Unit) (h : ref06_IsLeaf_M c i = some y) : ∃ n, ref06_IsLeaf_m n c i = some y := ⟨0, h⟩
noncomputable def ref06_IsLeaf_e : Entry := { f := 93, args := ref06_IsLeaf_a, ress := ref06_IsLeaf_r, m := fun x => ref06_IsLeaf_M x.1 x.2.1 }
theorem ref06_IsLeaf_ok : FnOK Tryz.prog ref06_IsLeaf_e := fn_ok (g := ref06_IsLeaf_g) (fn := Tryz.f93) hmixed tabOk eNil (by kernel_rfl) (by kernel_rfl) (by kernel_rfl) (fun x y h => let ⟨n, hn⟩ := ref06_IsLeaf_run x.1 x.2.1 y h; ⟨ref06_IsLeaf_an n, iNil, (ref06_IsLeaf_eq n x).trans hn⟩)

/-! ### tidewayref01.HasWord -/
abbrev ref01_HasWord_a : Ty := .pair t37 (.pair t9 .unit)
abbrev ref01_HasWord_r : Ty := .pair t4 .unit
noncomputable def ref01_HasWord_g : G := { T := T, E := [], muts := [], fz := [] }
def ref01_HasWord_k : List (List Nat) := [[0, 1, 5]]
noncomputable def ref01_HasWord_an (n : Nat) : Ann := { keep := ref01_HasWord_k, fuel := n, inl := [], deep := 0 }
noncomputable def ref01_HasWord_m_l0 (n : Nat) (r0 : List (List UInt8) → List UInt8 → Int → Option (Bool × Unit)) (l0_0 : List (List UInt8)) (s1_0 : List UInt8) (i5_0 : Int) : Option (Bool × Unit) :=
  (bif Decidable.decide (i5_0 < (↑l0_0.length : Int)) then (Option.bind (Go.Vx.idx l0_0 i5_0) fun (v1 : List UInt8) => (bif v1 == s1_0 then Option.some (Bool.true, ()) else r0 l0_0 s1_0 (Go.IntKind.i64.wrap (i5_0 + (1 : Int))))) else Option.some (Bool.false, ()))

noncomputable def ref01_HasWord_m_w0 (n : Nat)  (k : Nat) (l0_0 : List (List UInt8)) (s1_0 : List UInt8) (i5_0 : Int) : Option (Bool × Unit) :=
  iter (fun r y => ref01_HasWord_m_l0 n (fun l0_0 s1_0 i5_0 => r ((l0_0, (s1_0, (i5_0, ()))), ((), ()))) y.1.1 y.1.2.1 y.1.2.2.1) k ((l0_0, (s1_0, (i5_0, ()))), ((), ()))

noncomputable def ref01_HasWord_m (n : Nat) (l : List (List UInt8)) (s : List UInt8) : Option (Bool × Unit) :=
  (ref01_HasWord_m_w0 n n (l) (s) ((0 : Int)))

theorem ref01_HasWord_eq (n : Nat) (x : ref01_HasWord_a.den) : runF ref01_HasWord_g (ref01_HasWord_an n) Tryz.f94 ref01_HasWord_a ref01_HasWord_r x = ref01_HasWord_m n x.1 x.2.1 := by kernel_rfl

noncomputable def ref01_HasWord_b0 (l0_0 : List (List UInt8)) (s1_0 : List UInt8) (i5_0 : Int) (v1 : List UInt8) : Option ((Bool × Unit) ⊕ Unit) :=
  (bif v1 == s1_0 then (some (Sum.inl ((Bool.true, ())))) else (some (Sum.inr ())))

noncomputable def ref01_HasWord_f0 (l0_0 : List (List UInt8)) (s1_0 : List UInt8) : Option (Bool × Unit) :=
  (some ((Bool.false, ())))

theorem ref01_HasWord_m_w0_le (n : Nat) (hn : big ≤ n)  (l0_0 : List (List UInt8)) (s1_0 : List UInt8) (hx : List.length (l0_0) < lenMax) : LeF some (loopL (fun i__ e__ s__ => ref01_HasWord_b0 l0_0 s1_0 i__ e__) (fun s__ => ref01_HasWord_f0 l0_0 s1_0) 0 (l0_0) ()) (ref01_HasWord_m_w0 n n l0_0 s1_0 0) := by
  refine loopL_le (f := some) (W := fun k__ i__ s__ => ref01_HasWord_m_w0 n k__ l0_0 s1_0 i__) (body := (fun i__ e__ s__ => ref01_HasWord_b0 l0_0 s1_0 i__ e__)) (fin := (fun s__ => ref01_HasWord_f0 l0_0 s1_0)) (fun k__ i__ s__ => ?_) hx () n (by unfold big at hn; unfold lenMax at hx; omega)
  show LeF _ _ (ref01_HasWord_m_l0 n (ref01_HasWord_m_w0 n k__) l0_0 s1_0 i__)
  exact leCond (leBind fun v1 => (leCond (leSome rfl) (leSome rfl))) (leMap (leSome rfl))

noncomputable def ref01_HasWord_M (l : List (List UInt8)) (s : List UInt8) : Option (Bool × Unit) :=
  (bif decide (List.length (l) < lenMax) then loopL (fun i__ e__ s__ => ref01_HasWord_b0 (l) (s) i__ e__) (fun s__ => ref01_HasWord_f0 (l) (s)) 0 (l) () else none)

theorem ref01_HasWord_run (l : List (List UInt8)) (s : List UInt8) (y : Bool × Unit) (h : ref01_HasWord_M l s = some y) : ∃ n, ref01_HasWord_m n l s = some y :=
  ⟨big, LeF.top (show LeF some (ref01_HasWord_M l s) (ref01_HasWord_m big l s) from (fun (n : Nat) (hn : big ≤ n) => show LeF some (ref01_HasWord_M l s) (ref01_HasWord_m n l s) from (leGuard fun hx => by apply ref01_HasWord_m_w0_le n hn; exact hx)) big (Nat.le_refl _)) h⟩
noncomputable def ref01_HasWord_e : Entry := { f := 94, args := ref01_HasWord_a, ress := ref01_HasWord_r, m := fun x => ref01_HasWord_M x.1 x.2.1 }
theorem ref01_HasWord_ok : FnOK Tryz.prog ref01_HasWord_e := fn_ok (g := ref01_HasWord_g) (fn := Tryz.f94) hmixed tabOk eNil (by kernel_rfl) (by kernel_rfl) (by kernel_rfl) (fun x y h => let ⟨n, hn⟩ := ref01_HasWord_run x.1 x.2.1 y h; ⟨ref01_HasWord_an n, iNil, (ref01_HasWord_eq n x).trans hn⟩)

/-! ### gate.first -/
abbrev gate_first_a : Ty := .pair t164 .unit
abbrev gate_first_r : Ty := .pair t29 .unit
noncomputable def gate_first_g : G := { T := T, E := [], muts := [], fz := [] }
def gate_first_k : List (List Nat) := [[5, 6, 7]]
noncomputable def gate_first_an (n : Nat) : Ann := { keep := gate_first_k, fuel := n, inl := [], deep := 0 }
noncomputable def gate_first_m_l0 (n : Nat) (r0 : List Int → Int → Int → Option (Int × Unit)) (t5_0 : List Int) (t6_0 : Int) (t7_0 : Int) : Option (Int × Unit) :=
  (bif Decidable.decide (t7_0 < t6_0) then (Option.bind (Go.Vx.idx t5_0 t7_0) fun (v1 : Int) => (bif v1 != (0 : Int) then Option.some (v1, ()) else r0 t5_0 t6_0 (Go.IntKind.i64.wrap (t7_0 + (1 : Int))))) else Option.some ((0 : Int), ()))

noncomputable def gate_first_m_w0 (n : Nat)  (k : Nat) (t5_0 : List Int) (t6_0 : Int) (t7_0 : Int) : Option (Int × Unit) :=
  iter (fun r y => gate_first_m_l0 n (fun t5_0 t6_0 t7_0 => r ((t5_0, (t6_0, (t7_0, ()))), ((), ()))) y.1.1 y.1.2.1 y.1.2.2.1) k ((t5_0, (t6_0, (t7_0, ()))), ((), ()))

noncomputable def gate_first_m (n : Nat) (l : List Int) : Option (Int × Unit) :=
  (gate_first_m_w0 n n (l) ((↑l.length : Int)) ((0 : Int)))

theorem gate_first_eq (n : Nat) (x : gate_first_a.den) : runF gate_first_g (gate_first_an n) Tryz.f95 gate_first_a gate_first_r x = gate_first_m n x.1 := by kernel_rfl

noncomputable def gate_first_b0 (t5_0 : List Int) (t7_0 : Int) (v1 : Int) : Option ((Int × Unit) ⊕ Unit) :=
  (bif v1 != (0 : Int) then (some (Sum.inl ((v1, ())))) else (some (Sum.inr ())))

noncomputable def gate_first_f0 (t5_0 : List Int) : Option (Int × Unit) :=
  (some (((0 : Int), ())))

theorem gate_first_m_w0_le (n : Nat) (hn : big ≤ n)  (t5_0 : List Int) (hx : List.length (t5_0) < lenMax) : LeF some (loopL (fun i__ e__ s__ => gate_first_b0 t5_0 i__ e__) (fun s__ => gate_first_f0 t5_0) 0 (t5_0) ()) (gate_first_m_w0 n n t5_0 (List.length (t5_0) : Int) 0) := by
  refine loopL_le (f := some) (W := fun k__ i__ s__ => gate_first_m_w0 n k__ t5_0 (List.length (t5_0) : Int) i__) (body := (fun i__ e__ s__ => gate_first_b0 t5_0 i__ e__)) (fin := (fun s__ => gate_first_f0 t5_0)) (fun k__ i__ s__ => ?_) hx () n (by unfold big at hn; unfold lenMax at hx; omega)
  show LeF _ _ (gate_first_m_l0 n (gate_first_m_w0 n k__) t5_0 (List.length (t5_0) : Int) i__)
  exact leCond (leBind fun v1 => (leCond (leSome rfl) (leSome rfl))) (leMap (leSome rfl))

noncomputable def gate_first_M (l : List Int) : Option (Int × Unit) :=
  (bif decide (List.length (l) < lenMax) then loopL (fun i__ e__ s__ => gate_first_b0 (l) i__ e__) (fun s__ => gate_first_f0 (l)) 0 (l) () else none)

theorem gate_first_run (l : List Int) (y : Int × Unit) (h : gate_first_M l = some y) : ∃ n, gate_first_m n l = some y :=
  ⟨big, LeF.top (show LeF some (gate_first_M l) (gate_first_m big l) from (fun (n : Nat) (hn : big ≤ n) => show LeF some (gate_first_M l) (gate_first_m n l) from (leGuard fun hx => by apply gate_first_m_w0_le n hn; exact hx)) big (Nat.le_refl _)) h⟩
noncomputable def gate_first_e : Entry := { f := 95, args := gate_first_a, ress := gate_first_r, m := fun x => gate_first_M x.1 }
theorem gate_first_ok : FnOK Tryz.prog gate_first_e := fn_ok (g := gate_first_g) (fn := Tryz.f95) hmixed tabOk eNil (by kernel_rfl) (by kernel_rfl) (by kernel_rfl) (fun x y h => let ⟨n, hn⟩ := gate_first_run x.1 y h; ⟨gate_first_an n, iNil, (gate_first_eq n x).trans hn⟩)

end Go.Tw
end

section
set_option linter.all false
set_option maxRecDepth 1000000
namespace Go.Tw
open Go.Vx Go.Vx.B Go.Proofs
/-! ### gate.when -/
abbrev gate_when_a : Ty := .pair t4 (.pair t29 .unit)
abbrev gate_when_r : Ty := .pair t29 .unit
noncomputable def gate_when_g : G := { T := T, E := [], muts := [], fz := [] }
def gate_when_k : List (List Nat) := []
noncomputable def gate_when_an (n : Nat) : Ann := { keep := gate_when_k, fuel := n, inl := [], deep := 0 }
noncomputable def gate_when_m (n : Nat) (holds : Bool) (e : Int) : Option (Int × Unit) :=
  (bif holds then Option.some (e, ()) else Option.some ((0 : Int), ()))

theorem gate_when_eq (n : Nat) (x : gate_when_a.den) : runF gate_when_g (gate_when_an n) Tryz.f96 gate_when_a gate_when_r x = gate_when_m n x.1 x.2.1 := by kernel_rfl

noncomputable def gate_when (holds : Bool) (e : Int) : (Int × Unit) :=
  (bif holds then (e, ()) else ((0 : Int), ()))

noncomputable abbrev gate_when_M (holds : Bool) (e : Int) : Option (Int × Unit) := some (gate_when holds e)

theorem gate_when_run (holds : Bool) (e : Int) (y : Int × Unit) (h : gate_when_M holds e = some y) : ∃ n, gate_when_m n holds e = some y :=
  ⟨0, by rw [← h]; show gate_when_m 0 holds e = some (gate_when holds e); unfold gate_when_m gate_when; first | rfl | (simp only [cond_some]; done) | (simp only [cond_some]; rfl)⟩
noncomputable def gate_when_e : Entry := { f := 96, args := gate_when_a, ress := gate_when_r, m := fun x => gate_when_M x.1 x.2.1 }
theorem gate_when_ok : FnOK Tryz.prog gate_when_e := fn_ok (g := gate_when_g) (fn := Tryz.f96) hmixed tabOk eNil (by kernel_rfl) (by kernel_rfl) (by kernel_rfl) (fun x y h => let ⟨n, hn⟩ := gate_when_run x.1 x.2.1 y h; ⟨gate_when_an n, iNil, (gate_when_eq n x).trans hn⟩)

/-! ### gate.mapped[gate.Transition,api.Errno] -/
abbrev gate_mapped_gate_Transition_api_Errno_a : Ty := .pair t33 (.pair t163 .unit)
abbrev gate_mapped_gate_Transition_api_Errno_r : Ty := .pair t164 .unit
noncomputable def gate_mapped_gate_Transition_api_Errno_g : G := { T := T, E := [], muts := [5], fz := [] }
def gate_mapped_gate_Transition_api_Errno_k : List (List Nat) := [[1, 5, 8, 9, 10]]
noncomputable def gate_mapped_gate_Transition_api_Errno_an (n : Nat) : Ann := { keep := gate_mapped_gate_Transition_api_Errno_k, fuel := n, inl := [], deep := 0 }
noncomputable def gate_mapped_gate_Transition_api_Errno_m_l0 (n : Nat) (r0 : (Tra × Unit → Option (Int × Unit)) → List Tra → Int → Int → List Int → Option (List Int × Unit)) (of1_0 : Tra × Unit → Option (Int × Unit)) (t8_0 : List Tra) (t9_0 : Int) (t10_0 : Int) (c0_0 : List Int) : Option (List Int × Unit) :=
  (bif Decidable.decide (t10_0 < t9_0) then (Option.bind (Go.Vx.idx t8_0 t10_0) fun (v1 : Tra) => (Option.bind (of1_0 ((v1.fst, v1.snd.fst, v1.snd.snd.fst, v1.snd.snd.snd.fst, v1.snd.snd.snd.snd.fst, ()), ())) fun (v2 : Int × Unit) => (bif Decidable.decide (c0_0.length + (1 : Nat) ≤ Go.Vx.memMax) then r0 of1_0 t8_0 t9_0 (Go.IntKind.i64.wrap (t10_0 + (1 : Int))) (c0_0 ++ [v2.fst]) else none))) else Option.some (c0_0, ()))

noncomputable def gate_mapped_gate_Transition_api_Errno_m_w0 (n : Nat)  (k : Nat) (of1_0 : Tra × Unit → Option (Int × Unit)) (t8_0 : List Tra) (t9_0 : Int) (t10_0 : Int) (c0_0 : List Int) : Option (List Int × Unit) :=
  iter (fun r y => gate_mapped_gate_Transition_api_Errno_m_l0 n (fun of1_0 t8_0 t9_0 t10_0 c0_0 => r ((of1_0, (t8_0, (t9_0, (t10_0, ())))), ((c0_0, ()), ()))) y.1.1 y.1.2.1 y.1.2.2.1 y.1.2.2.2.1 y.2.1.1) k ((of1_0, (t8_0, (t9_0, (t10_0, ())))), ((c0_0, ()), ()))

noncomputable def gate_mapped_gate_Transition_api_Errno_m (n : Nat) (l : List Tra) (of : Tra × Unit → Option (Int × Unit)) : Option (List Int × Unit) :=
  (gate_mapped_gate_Transition_api_Errno_m_w0 n n (of) (l) ((↑l.length : Int)) ((0 : Int)) ([]))

theorem gate_mapped_gate_Transition_api_Errno_eq (n : Nat) (x : gate_mapped_gate_Transition_api_Errno_a.den) : runF gate_mapped_gate_Transition_api_Errno_g (gate_mapped_gate_Transition_api_Errno_an n) Tryz.f100 gate_mapped_gate_Transition_api_Errno_a gate_mapped_gate_Transition_api_Errno_r x = gate_mapped_gate_Transition_api_Errno_m n x.1 x.2.1 := by kernel_rfl

noncomputable def gate_mapped_gate_Transition_api_Errno_b0 (of1_0 : Tra × Unit → Option (Int × Unit)) (t8_0 : List Tra) (t10_0 : Int) (v1 : Tra) (c0_0 : List Int) : Option ((List Int × Unit) ⊕ (List Int)) :=
  (Option.bind (of1_0 ((v1.fst, v1.snd.fst, v1.snd.snd.fst, v1.snd.snd.snd.fst, v1.snd.snd.snd.snd.fst, ()), ())) fun (v2 : Int × Unit) => (bif Decidable.decide (c0_0.length + (1 : Nat) ≤ Go.Vx.memMax) then (some (Sum.inr (c0_0 ++ [v2.fst]))) else none))

noncomputable def gate_mapped_gate_Transition_api_Errno_f0 (of1_0 : Tra × Unit → Option (Int × Unit)) (t8_0 : List Tra) (c0_0 : List Int) : Option (List Int × Unit) :=
  (some ((c0_0, ())))

theorem gate_mapped_gate_Transition_api_Errno_m_w0_le (n : Nat) (hn : big ≤ n)  (of1_0 : Tra × Unit → Option (Int × Unit)) (t8_0 : List Tra) (c0_0 : List Int) (hx : List.length (t8_0) < lenMax) : LeF some (loopL (fun i__ e__ s__ => gate_mapped_gate_Transition_api_Errno_b0 of1_0 t8_0 i__ e__ s__) (fun s__ => gate_mapped_gate_Transition_api_Errno_f0 of1_0 t8_0 s__) 0 (t8_0) c0_0) (gate_mapped_gate_Transition_api_Errno_m_w0 n n of1_0 t8_0 (List.length (t8_0) : Int) 0 c0_0) := by
  refine loopL_le (f := some) (W := fun k__ i__ s__ => gate_mapped_gate_Transition_api_Errno_m_w0 n k__ of1_0 t8_0 (List.length (t8_0) : Int) i__ s__) (body := (fun i__ e__ s__ => gate_mapped_gate_Transition_api_Errno_b0 of1_0 t8_0 i__ e__ s__)) (fin := (fun s__ => gate_mapped_gate_Transition_api_Errno_f0 of1_0 t8_0 s__)) (fun k__ i__ s__ => ?_) hx c0_0 n (by unfold big at hn; unfold lenMax at hx; omega)
  show LeF _ _ (gate_mapped_gate_Transition_api_Errno_m_l0 n (gate_mapped_gate_Transition_api_Errno_m_w0 n k__) of1_0 t8_0 (List.length (t8_0) : Int) i__ s__)
  exact leCond (leBind fun v1 => (leBind fun v2 => (leCond (leSome rfl) leNone))) (leMap (leSome rfl))

noncomputable def gate_mapped_gate_Transition_api_Errno_M (l : List Tra) (of : Tra × Unit → Option (Int × Unit)) : Option (List Int × Unit) :=
  (bif decide (List.length (l) < lenMax) then loopL (fun i__ e__ s__ => gate_mapped_gate_Transition_api_Errno_b0 (of) (l) i__ e__ s__) (fun s__ => gate_mapped_gate_Transition_api_Errno_f0 (of) (l) s__) 0 (l) ([]) else none)

theorem gate_mapped_gate_Transition_api_Errno_run (l : List Tra) (of : Tra × Unit → Option (Int × Unit)) (y : List Int × Unit) (h : gate_mapped_gate_Transition_api_Errno_M l of = some y) : ∃ n, gate_mapped_gate_Transition_api_Errno_m n l of = some y :=
  ⟨big, LeF.top (show LeF some (gate_mapped_gate_Transition_api_Errno_M l of) (gate_mapped_gate_Transition_api_Errno_m big l of) from (fun (n : Nat) (hn : big ≤ n) => show LeF some (gate_mapped_gate_Transition_api_Errno_M l of) (gate_mapped_gate_Transition_api_Errno_m n l of) from (leGuard fun hx => by apply gate_mapped_gate_Transition_api_Errno_m_w0_le n hn; exact hx)) big (Nat.le_refl _)) h⟩
noncomputable def gate_mapped_gate_Transition_api_Errno_e : Entry := { f := 100, args := gate_mapped_gate_Transition_api_Errno_a, ress := gate_mapped_gate_Transition_api_Errno_r, m := fun x => gate_mapped_gate_Transition_api_Errno_M x.1 x.2.1 }
theorem gate_mapped_gate_Transition_api_Errno_ok : FnOK Tryz.prog gate_mapped_gate_Transition_api_Errno_e := fn_ok (g := gate_mapped_gate_Transition_api_Errno_g) (fn := Tryz.f100) hmixed tabOk eNil (by kernel_rfl) (by kernel_rfl) (by kernel_rfl) (fun x y h => let ⟨n, hn⟩ := gate_mapped_gate_Transition_api_Errno_run x.1 x.2.1 y h; ⟨gate_mapped_gate_Transition_api_Errno_an n, iNil, (gate_mapped_gate_Transition_api_Errno_eq n x).trans hn⟩)

/-! ### tidewayref06.taken -/
/-! ### tidewayref06.find -/
/-! ### gate.mapped[int,api.Errno] -/
abbrev gate_mapped_int_api_Errno_a : Ty := .pair t28 (.pair t162 .unit)
abbrev gate_mapped_int_api_Errno_r : Ty := .pair t164 .unit
noncomputable def gate_mapped_int_api_Errno_g : G := { T := T, E := [], muts := [5], fz := [] }
def gate_mapped_int_api_Errno_k : List (List Nat) := [[1, 5, 8, 9, 10]]
noncomputable def gate_mapped_int_api_Errno_an (n : Nat) : Ann := { keep := gate_mapped_int_api_Errno_k, fuel := n, inl := [], deep := 0 }
noncomputable def gate_mapped_int_api_Errno_m_l0 (n : Nat) (r0 : (Int × Unit → Option (Int × Unit)) → List Int → Int → Int → List Int → Option (List Int × Unit)) (of1_0 : Int × Unit → Option (Int × Unit)) (t8_0 : List Int) (t9_0 : Int) (t10_0 : Int) (c0_0 : List Int) : Option (List Int × Unit) :=
  (bif Decidable.decide (t10_0 < t9_0) then (Option.bind (Go.Vx.idx t8_0 t10_0) fun (v1 : Int) => (Option.bind (of1_0 (v1, ())) fun (v2 : Int × Unit) => (bif Decidable.decide (c0_0.length + (1 : Nat) ≤ Go.Vx.memMax) then r0 of1_0 t8_0 t9_0 (Go.IntKind.i64.wrap (t10_0 + (1 : Int))) (c0_0 ++ [v2.fst]) else none))) else Option.some (c0_0, ()))

noncomputable def gate_mapped_int_api_Errno_m_w0 (n : Nat)  (k : Nat) (of1_0 : Int × Unit → Option (Int × Unit)) (t8_0 : List Int) (t9_0 : Int) (t10_0 : Int) (c0_0 : List Int) : Option (List Int × Unit) :=
  iter (fun r y => gate_mapped_int_api_Errno_m_l0 n (fun of1_0 t8_0 t9_0 t10_0 c0_0 => r ((of1_0, (t8_0, (t9_0, (t10_0, ())))), ((c0_0, ()), ()))) y.1.1 y.1.2.1 y.1.2.2.1 y.1.2.2.2.1 y.2.1.1) k ((of1_0, (t8_0, (t9_0, (t10_0, ())))), ((c0_0, ()), ()))

noncomputable def gate_mapped_int_api_Errno_m (n : Nat) (l : List Int) (of : Int × Unit → Option (Int × Unit)) : Option (List Int × Unit) :=
  (gate_mapped_int_api_Errno_m_w0 n n (of) (l) ((↑l.length : Int)) ((0 : Int)) ([]))

theorem gate_mapped_int_api_Errno_eq (n : Nat) (x : gate_mapped_int_api_Errno_a.den) : runF gate_mapped_int_api_Errno_g (gate_mapped_int_api_Errno_an n) Tryz.f111 gate_mapped_int_api_Errno_a gate_mapped_int_api_Errno_r x = gate_mapped_int_api_Errno_m n x.1 x.2.1 := by kernel_rfl

noncomputable def gate_mapped_int_api_Errno_b0 (of1_0 : Int × Unit → Option (Int × Unit)) (t8_0 : List Int) (t10_0 : Int) (v1 : Int) (c0_0 : List Int) : Option ((List Int × Unit) ⊕ (List Int)) :=
  (Option.bind (of1_0 (v1, ())) fun (v2 : Int × Unit) => (bif Decidable.decide (c0_0.length + (1 : Nat) ≤ Go.Vx.memMax) then (some (Sum.inr (c0_0 ++ [v2.fst]))) else none))

noncomputable def gate_mapped_int_api_Errno_f0 (of1_0 : Int × Unit → Option (Int × Unit)) (t8_0 : List Int) (c0_0 : List Int) : Option (List Int × Unit) :=
  (some ((c0_0, ())))

theorem gate_mapped_int_api_Errno_m_w0_le (n : Nat) (hn : big ≤ n)  (of1_0 : Int × Unit → Option (Int × Unit)) (t8_0 : List Int) (c0_0 : List Int) (hx : List.length (t8_0) < lenMax) : LeF some (loopL (fun i__ e__ s__ => gate_mapped_int_api_Errno_b0 of1_0 t8_0 i__ e__ s__) (fun s__ => gate_mapped_int_api_Errno_f0 of1_0 t8_0 s__) 0 (t8_0) c0_0) (gate_mapped_int_api_Errno_m_w0 n n of1_0 t8_0 (List.length (t8_0) : Int) 0 c0_0) := by
  refine loopL_le (f := some) (W := fun k__ i__ s__ => gate_mapped_int_api_Errno_m_w0 n k__ of1_0 t8_0 (List.length (t8_0) : Int) i__ s__) (body := (fun i__ e__ s__ => gate_mapped_int_api_Errno_b0 of1_0 t8_0 i__ e__ s__)) (fin := (fun s__ => gate_mapped_int_api_Errno_f0 of1_0 t8_0 s__)) (fun k__ i__ s__ => ?_) hx c0_0 n (by unfold big at hn; unfold lenMax at hx; omega)
  show LeF _ _ (gate_mapped_int_api_Errno_m_l0 n (gate_mapped_int_api_Errno_m_w0 n k__) of1_0 t8_0 (List.length (t8_0) : Int) i__ s__)
  exact leCond (leBind fun v1 => (leBind fun v2 => (leCond (leSome rfl) leNone))) (leMap (leSome rfl))

noncomputable def gate_mapped_int_api_Errno_M (l : List Int) (of : Int × Unit → Option (Int × Unit)) : Option (List Int × Unit) :=
  (bif decide (List.length (l) < lenMax) then loopL (fun i__ e__ s__ => gate_mapped_int_api_Errno_b0 (of) (l) i__ e__ s__) (fun s__ => gate_mapped_int_api_Errno_f0 (of) (l) s__) 0 (l) ([]) else none)

theorem gate_mapped_int_api_Errno_run (l : List Int) (of : Int × Unit → Option (Int × Unit)) (y : List Int × Unit) (h : gate_mapped_int_api_Errno_M l of = some y) : ∃ n, gate_mapped_int_api_Errno_m n l of = some y :=
  ⟨big, LeF.top (show LeF some (gate_mapped_int_api_Errno_M l of) (gate_mapped_int_api_Errno_m big l of) from (fun (n : Nat) (hn : big ≤ n) => show LeF some (gate_mapped_int_api_Errno_M l of) (gate_mapped_int_api_Errno_m n l of) from (leGuard fun hx => by apply gate_mapped_int_api_Errno_m_w0_le n hn; exact hx)) big (Nat.le_refl _)) h⟩
noncomputable def gate_mapped_int_api_Errno_e : Entry := { f := 111, args := gate_mapped_int_api_Errno_a, ress := gate_mapped_int_api_Errno_r, m := fun x => gate_mapped_int_api_Errno_M x.1 x.2.1 }
theorem gate_mapped_int_api_Errno_ok : FnOK Tryz.prog gate_mapped_int_api_Errno_e := fn_ok (g := gate_mapped_int_api_Errno_g) (fn := Tryz.f111) hmixed tabOk eNil (by kernel_rfl) (by kernel_rfl) (by kernel_rfl) (fun x y h => let ⟨n, hn⟩ := gate_mapped_int_api_Errno_run x.1 x.2.1 y h; ⟨gate_mapped_int_api_Errno_an n, iNil, (gate_mapped_int_api_Errno_eq n x).trans hn⟩)

/-! ### gate.kept[int] -/
abbrev gate_kept_int_a : Ty := .pair t28 (.pair t181 .unit)
abbrev gate_kept_int_r : Ty := .pair t28 .unit
noncomputable def gate_kept_int_g : G := { T := T, E := [], muts := [5], fz := [] }
def gate_kept_int_k : List (List Nat) := [[1, 5, 8, 9, 10]]
noncomputable def gate_kept_int_an (n : Nat) : Ann := { keep := gate_kept_int_k, fuel := n, inl := [], deep := 0 }
noncomputable def gate_kept_int_m_l0 (n : Nat) (r0 : (Int × Unit → Option (Bool × Unit)) → List Int → Int → Int → List Int → Option (List Int × Unit)) (holds1_0 : Int × Unit → Option (Bool × Unit)) (t8_0 : List Int) (t9_0 : Int) (t10_0 : Int) (c0_0 : List Int) : Option (List Int × Unit) :=
  (bif Decidable.decide (t10_0 < t9_0) then (Option.bind (Go.Vx.idx t8_0 t10_0) fun (v1 : Int) => (Option.bind (holds1_0 (v1, ())) fun (v2 : Bool × Unit) => (bif v2.fst then (bif Decidable.decide (c0_0.length + (1 : Nat) ≤ Go.Vx.memMax) then r0 holds1_0 t8_0 t9_0 (Go.IntKind.i64.wrap (t10_0 + (1 : Int))) (c0_0 ++ [v1]) else none) else r0 holds1_0 t8_0 t9_0 (Go.IntKind.i64.wrap (t10_0 + (1 : Int))) c0_0))) else Option.some (c0_0, ()))

noncomputable def gate_kept_int_m_w0 (n : Nat)  (k : Nat) (holds1_0 : Int × Unit → Option (Bool × Unit)) (t8_0 : List Int) (t9_0 : Int) (t10_0 : Int) (c0_0 : List Int) : Option (List Int × Unit) :=
  iter (fun r y => gate_kept_int_m_l0 n (fun holds1_0 t8_0 t9_0 t10_0 c0_0 => r ((holds1_0, (t8_0, (t9_0, (t10_0, ())))), ((c0_0, ()), ()))) y.1.1 y.1.2.1 y.1.2.2.1 y.1.2.2.2.1 y.2.1.1) k ((holds1_0, (t8_0, (t9_0, (t10_0, ())))), ((c0_0, ()), ()))

noncomputable def gate_kept_int_m (n : Nat) (l : List Int) (holds : Int × Unit → Option (Bool × Unit)) : Option (List Int × Unit) :=
  (gate_kept_int_m_w0 n n (holds) (l) ((↑l.length : Int)) ((0 : Int)) ([]))

theorem gate_kept_int_eq (n : Nat) (x : gate_kept_int_a.den) : runF gate_kept_int_g (gate_kept_int_an n) Tryz.f112 gate_kept_int_a gate_kept_int_r x = gate_kept_int_m n x.1 x.2.1 := by kernel_rfl

noncomputable def gate_kept_int_b0 (holds1_0 : Int × Unit → Option (Bool × Unit)) (t8_0 : List Int) (t10_0 : Int) (v1 : Int) (c0_0 : List Int) : Option ((List Int × Unit) ⊕ (List Int)) :=
  (Option.bind (holds1_0 (v1, ())) fun (v2 : Bool × Unit) => (bif v2.fst then (bif Decidable.decide (c0_0.length + (1 : Nat) ≤ Go.Vx.memMax) then (some (Sum.inr (c0_0 ++ [v1]))) else none) else (some (Sum.inr (c0_0)))))

noncomputable def gate_kept_int_f0 (holds1_0 : Int × Unit → Option (Bool × Unit)) (t8_0 : List Int) (c0_0 : List Int) : Option (List Int × Unit) :=
  (some ((c0_0, ())))

theorem gate_kept_int_m_w0_le (n : Nat) (hn : big ≤ n)  (holds1_0 : Int × Unit → Option (Bool × Unit)) (t8_0 : List Int) (c0_0 : List Int) (hx : List.length (t8_0) < lenMax) : LeF some (loopL (fun i__ e__ s__ => gate_kept_int_b0 holds1_0 t8_0 i__ e__ s__) (fun s__ => gate_kept_int_f0 holds1_0 t8_0 s__) 0 (t8_0) c0_0) (gate_kept_int_m_w0 n n holds1_0 t8_0 (List.length (t8_0) : Int) 0 c0_0) := by
  refine loopL_le (f := some) (W := fun k__ i__ s__ => gate_kept_int_m_w0 n k__ holds1_0 t8_0 (List.length (t8_0) : Int) i__ s__) (body := (fun i__ e__ s__ => gate_kept_int_b0 holds1_0 t8_0 i__ e__ s__)) (fin := (fun s__ => gate_kept_int_f0 holds1_0 t8_0 s__)) (fun k__ i__ s__ => ?_) hx c0_0 n (by unfold big at hn; unfold lenMax at hx; omega)
  show LeF _ _ (gate_kept_int_m_l0 n (gate_kept_int_m_w0 n k__) holds1_0 t8_0 (List.length (t8_0) : Int) i__ s__)
  exact leCond (leBind fun v1 => (leBind fun v2 => (leCond (leCond (leSome rfl) leNone) (leSome rfl)))) (leMap (leSome rfl))

noncomputable def gate_kept_int_M (l : List Int) (holds : Int × Unit → Option (Bool × Unit)) : Option (List Int × Unit) :=
  (bif decide (List.length (l) < lenMax) then loopL (fun i__ e__ s__ => gate_kept_int_b0 (holds) (l) i__ e__ s__) (fun s__ => gate_kept_int_f0 (holds) (l) s__) 0 (l) ([]) else none)

theorem gate_kept_int_run (l : List Int) (holds : Int × Unit → Option (Bool × Unit)) (y : List Int × Unit) (h : gate_kept_int_M l holds = some y) : ∃ n, gate_kept_int_m n l holds = some y :=
  ⟨big, LeF.top (show LeF some (gate_kept_int_M l holds) (gate_kept_int_m big l holds) from (fun (n : Nat) (hn : big ≤ n) => show LeF some (gate_kept_int_M l holds) (gate_kept_int_m n l holds) from (leGuard fun hx => by apply gate_kept_int_m_w0_le n hn; exact hx)) big (Nat.le_refl _)) h⟩
noncomputable def gate_kept_int_e : Entry := { f := 112, args := gate_kept_int_a, ress := gate_kept_int_r, m := fun x => gate_kept_int_M x.1 x.2.1 }
theorem gate_kept_int_ok : FnOK Tryz.prog gate_kept_int_e := fn_ok (g := gate_kept_int_g) (fn := Tryz.f112) hmixed tabOk eNil (by kernel_rfl) (by kernel_rfl) (by kernel_rfl) (fun x y h => let ⟨n, hn⟩ := gate_kept_int_run x.1 x.2.1 y h; ⟨gate_kept_int_an n, iNil, (gate_kept_int_eq n x).trans hn⟩)

/-! ### gate.Vote$2 -/
abbrev gate_Vote_2_a : Ty := .pair t3 (.pair (.ref t3) .unit)
abbrev gate_Vote_2_r : Ty := .pair t4 .unit
noncomputable def gate_Vote_2_g : G := { T := T, E := [], muts := [], fz := [] }
def gate_Vote_2_k : List (List Nat) := []
noncomputable def gate_Vote_2_an (n : Nat) : Ann := { keep := gate_Vote_2_k, fuel := n, inl := [], deep := 0 }
noncomputable def gate_Vote_2_m (n : Nat) (x1 : Int) (p1 : Int) : Option (Bool × Unit) :=
  Option.some (x1 == p1, ())

theorem gate_Vote_2_eq (n : Nat) (x : gate_Vote_2_a.den) : runF gate_Vote_2_g (gate_Vote_2_an n) Tryz.f113 gate_Vote_2_a gate_Vote_2_r x = gate_Vote_2_m n x.1 x.2.1 := by kernel_rfl

noncomputable def gate_Vote_2 (x1 : Int) (p1 : Int) : (Bool × Unit) :=
  (x1 == p1, ())

noncomputable abbrev gate_Vote_2_M (x1 : Int) (p1 : Int) : Option (Bool × Unit) := some (gate_Vote_2 x1 p1)

theorem gate_Vote_2_run (x1 : Int) (p1 : Int) (y : Bool × Unit) (h : gate_Vote_2_M x1 p1 = some y) : ∃ n, gate_Vote_2_m n x1 p1 = some y :=
  ⟨0, by rw [← h]; show gate_Vote_2_m 0 x1 p1 = some (gate_Vote_2 x1 p1); unfold gate_Vote_2_m gate_Vote_2; first | rfl | (simp only [cond_some]; done) | (simp only [cond_some]; rfl)⟩
noncomputable def gate_Vote_2_e : Entry := { f := 113, args := gate_Vote_2_a, ress := gate_Vote_2_r, m := fun x => gate_Vote_2_M x.1 x.2.1 }
theorem gate_Vote_2_ok : FnOK Tryz.prog gate_Vote_2_e := fn_ok (g := gate_Vote_2_g) (fn := Tryz.f113) hmixed tabOk eNil (by kernel_rfl) (by kernel_rfl) (by kernel_rfl) (fun x y h => let ⟨n, hn⟩ := gate_Vote_2_run x.1 x.2.1 y h; ⟨gate_Vote_2_an n, iNil, (gate_Vote_2_eq n x).trans hn⟩)

/-! ### gate.Missing$1 -/
/-! ### gate.Ambiguous$1 -/
abbrev gate_Ambiguous_1_a : Ty := .pair t112 (.pair t167 .unit)
abbrev gate_Ambiguous_1_r : Ty := .pair t4 .unit
noncomputable def gate_Ambiguous_1_g : G := { T := T, E := [], muts := [], fz := [] }
def gate_Ambiguous_1_k : List (List Nat) := []
noncomputable def gate_Ambiguous_1_an (n : Nat) : Ann := { keep := gate_Ambiguous_1_k, fuel := n, inl := [], deep := 0 }
noncomputable def gate_Ambiguous_1_m (n : Nat) (p0 : Cas) (o : Int × Bool × Bool × Unit) : Option (Bool × Unit) :=
  Option.some (o.snd.snd.fst, ())

theorem gate_Ambiguous_1_eq (n : Nat) (x : gate_Ambiguous_1_a.den) : runF gate_Ambiguous_1_g (gate_Ambiguous_1_an n) Tryz.f116 gate_Ambiguous_1_a gate_Ambiguous_1_r x = gate_Ambiguous_1_m n x.1 x.2.1 := by kernel_rfl

noncomputable def gate_Ambiguous_1 (p0 : Cas) (o : Int × Bool × Bool × Unit) : (Bool × Unit) :=
  (o.snd.snd.fst, ())

noncomputable abbrev gate_Ambiguous_1_M (p0 : Cas) (o : Int × Bool × Bool × Unit) : Option (Bool × Unit) := some (gate_Ambiguous_1 p0 o)

theorem gate_Ambiguous_1_run (p0 : Cas) (o : Int × Bool × Bool × Unit) (y : Bool × Unit) (h : gate_Ambiguous_1_M p0 o = some y) : ∃ n, gate_Ambiguous_1_m n p0 o = some y :=
  ⟨0, by rw [← h]; show gate_Ambiguous_1_m 0 p0 o = some (gate_Ambiguous_1 p0 o); unfold gate_Ambiguous_1_m gate_Ambiguous_1; first | rfl | (simp only [cond_some]; done) | (simp only [cond_some]; rfl)⟩
noncomputable def gate_Ambiguous_1_e : Entry := { f := 116, args := gate_Ambiguous_1_a, ress := gate_Ambiguous_1_r, m := fun x => gate_Ambiguous_1_M x.1 x.2.1 }
theorem gate_Ambiguous_1_ok : FnOK Tryz.prog gate_Ambiguous_1_e := fn_ok (g := gate_Ambiguous_1_g) (fn := Tryz.f116) hmixed tabOk eNil (by kernel_rfl) (by kernel_rfl) (by kernel_rfl) (fun x y h => let ⟨n, hn⟩ := gate_Ambiguous_1_run x.1 x.2.1 y h; ⟨gate_Ambiguous_1_an n, iNil, (gate_Ambiguous_1_eq n x).trans hn⟩)

/-! ### gate.bitsOf -/
abbrev gate_bitsOf_a : Ty := .pair t3 .unit
abbrev gate_bitsOf_r : Ty := .pair t184 .unit
noncomputable def gate_bitsOf_g : G := { T := T, E := [], muts := [], fz := [] }
def gate_bitsOf_k : List (List Nat) := []
noncomputable def gate_bitsOf_an (n : Nat) : Ann := { keep := gate_bitsOf_k, fuel := n, inl := [], deep := 0 }
noncomputable def gate_bitsOf_m (n : Nat) (n1 : Int) : Option (List Bool × Unit) :=
  Option.some ([Go.Vx.bitsOp Go.IntKind.i64 Go.BinOp.and n1 (1 : Int) != (0 : Int), Go.Vx.bitsOp Go.IntKind.i64 Go.BinOp.and n1 (2 : Int) != (0 : Int), Go.Vx.bitsOp Go.IntKind.i64 Go.BinOp.and n1 (4 : Int) != (0 : Int), Go.Vx.bitsOp Go.IntKind.i64 Go.BinOp.and n1 (8 : Int) != (0 : Int)], ())

theorem gate_bitsOf_eq (n : Nat) (x : gate_bitsOf_a.den) : runF gate_bitsOf_g (gate_bitsOf_an n) Tryz.f119 gate_bitsOf_a gate_bitsOf_r x = gate_bitsOf_m n x.1 := by kernel_rfl

noncomputable def gate_bitsOf (n1 : Int) : (List Bool × Unit) :=
  ([Go.Vx.bitsOp Go.IntKind.i64 Go.BinOp.and n1 (1 : Int) != (0 : Int), Go.Vx.bitsOp Go.IntKind.i64 Go.BinOp.and n1 (2 : Int) != (0 : Int), Go.Vx.bitsOp Go.IntKind.i64 Go.BinOp.and n1 (4 : Int) != (0 : Int), Go.Vx.bitsOp Go.IntKind.i64 Go.BinOp.and n1 (8 : Int) != (0 : Int)], ())

noncomputable abbrev gate_bitsOf_M (n1 : Int) : Option (List Bool × Unit) := some (gate_bitsOf n1)

theorem gate_bitsOf_run (n1 : Int) (y : List Bool × Unit) (h : gate_bitsOf_M n1 = some y) : ∃ n, gate_bitsOf_m n n1 = some y :=
  ⟨0, by rw [← h]; show gate_bitsOf_m 0 n1 = some (gate_bitsOf n1); unfold gate_bitsOf_m gate_bitsOf; first | rfl | (simp only [cond_some]; done) | (simp only [cond_some]; rfl)⟩
noncomputable def gate_bitsOf_e : Entry := { f := 119, args := gate_bitsOf_a, ress := gate_bitsOf_r, m := fun x => gate_bitsOf_M x.1 }
theorem gate_bitsOf_ok : FnOK Tryz.prog gate_bitsOf_e := fn_ok (g := gate_bitsOf_g) (fn := Tryz.f119) hmixed tabOk eNil (by kernel_rfl) (by kernel_rfl) (by kernel_rfl) (fun x y h => let ⟨n, hn⟩ := gate_bitsOf_run x.1 y h; ⟨gate_bitsOf_an n, iNil, (gate_bitsOf_eq n x).trans hn⟩)

/-! ### gate.failures -/
abbrev gate_failures_a : Ty := .pair t3 .unit
abbrev gate_failures_r : Ty := .pair t97 .unit
noncomputable def gate_failures_g : G := { T := T, E := [], muts := [7], fz := [] }
def gate_failures_k : List (List Nat) := [[3, 8, 9], [3, 4, 8, 9, 17]]
noncomputable def gate_failures_an (n : Nat) : Ann := { keep := gate_failures_k, fuel := n, inl := [], deep := 0 }
noncomputable def gate_failures_m_l1 (n : Nat) (r0 : Int → Int → List Fai → Option (List Fai × Unit)) (r1 : Int → Int → Int → Int → List Fai → Option (List Fai × Unit)) (at4_1 : Int) (t8_1 : Int) (t9_1 : Int) (t17_1 : Int) (c0_1 : List Fai) : Option (List Fai × Unit) :=
  (bif Decidable.decide (t17_1 < (8 : Int)) then (bif Decidable.decide (c0_1.length + (1 : Nat) ≤ Go.Vx.memMax) then r1 at4_1 t8_1 t9_1 (Go.IntKind.i64.wrap (t17_1 + (1 : Int))) (c0_1 ++ [([(115 : UInt8), (116 : UInt8), (117 : UInt8), (99 : UInt8), (107 : UInt8)], at4_1, Go.IntKind.i64.wrap (t17_1.tdiv (2 : Int)), t17_1.tmod (2 : Int), ())]) else none) else r0 t8_1 (Go.IntKind.i64.wrap (t9_1 + (1 : Int))) c0_1)

noncomputable def gate_failures_m_w1 (n : Nat) (r0 : Int → Int → List Fai → Option (List Fai × Unit)) (k : Nat) (at4_1 : Int) (t8_1 : Int) (t9_1 : Int) (t17_1 : Int) (c0_1 : List Fai) : Option (List Fai × Unit) :=
  iter (fun r y => gate_failures_m_l1 n r0 (fun at4_1 t8_1 t9_1 t17_1 c0_1 => r ((at4_1, (t8_1, (t9_1, (t17_1, ())))), ((c0_1, ()), ()))) y.1.1 y.1.2.1 y.1.2.2.1 y.1.2.2.2.1 y.2.1.1) k ((at4_1, (t8_1, (t9_1, (t17_1, ())))), ((c0_1, ()), ()))

noncomputable def gate_failures_m_l0 (n : Nat) (r0 : Int → Int → List Fai → Option (List Fai × Unit)) (t8_0 : Int) (t9_0 : Int) (c0_0 : List Fai) : Option (List Fai × Unit) :=
  (bif Decidable.decide (t9_0 < t8_0) then (bif Decidable.decide (c0_0.length + (1 : Nat) ≤ Go.Vx.memMax) then (gate_failures_m_w1 n r0 n (t9_0) (t8_0) (t9_0) ((0 : Int)) (c0_0 ++ [([(108 : UInt8), (111 : UInt8), (115 : UInt8), (116 : UInt8)], t9_0, (0 : Int), (0 : Int), ())])) else none) else Option.some (c0_0, ()))

noncomputable def gate_failures_m_w0 (n : Nat)  (k : Nat) (t8_0 : Int) (t9_0 : Int) (c0_0 : List Fai) : Option (List Fai × Unit) :=
  iter (fun r y => gate_failures_m_l0 n (fun t8_0 t9_0 c0_0 => r ((t8_0, (t9_0, ())), ((c0_0, ()), ()))) y.1.1 y.1.2.1 y.2.1.1) k ((t8_0, (t9_0, ())), ((c0_0, ()), ()))

noncomputable def gate_failures_m (n : Nat) (ticks : Int) : Option (List Fai × Unit) :=
  (gate_failures_m_w0 n n (ticks) ((0 : Int)) ([([(110 : UInt8), (111 : UInt8), (110 : UInt8), (101 : UInt8)], (0 : Int), (0 : Int), (0 : Int), ())]))

theorem gate_failures_eq (n : Nat) (x : gate_failures_a.den) : runF gate_failures_g (gate_failures_an n) Tryz.f122 gate_failures_a gate_failures_r x = gate_failures_m n x.1 := by kernel_rfl

noncomputable def gate_failures_b1 (at4_1 : Int) (t8_1 : Int) (t9_1 : Int) (t17_1 : Int) (c0_1 : List Fai) : Option (((List Fai × Unit) ⊕ (List Fai)) ⊕ (List Fai)) :=
  (bif Decidable.decide (c0_1.length + (1 : Nat) ≤ Go.Vx.memMax) then (some (Sum.inr (c0_1 ++ [([(115 : UInt8), (116 : UInt8), (117 : UInt8), (99 : UInt8), (107 : UInt8)], at4_1, Go.IntKind.i64.wrap (t17_1.tdiv (2 : Int)), t17_1.tmod (2 : Int), ())]))) else none)

noncomputable def gate_failures_f1 (at4_1 : Int) (t8_1 : Int) (t9_1 : Int) (c0_1 : List Fai) : Option ((List Fai × Unit) ⊕ (List Fai)) :=
  (some (Sum.inr (c0_1)))

theorem gate_failures_m_w1_le (n : Nat) (hn : big ≤ n)  (r0 : Int → Int → List Fai → Option (List Fai × Unit)) (at4_1 : Int) (t8_1 : Int) (t9_1 : Int) (c0_1 : List Fai) (hx : ((8 : Int)) ≤ (9223372036854775807 : Int)) : LeF (elim some fun (s__ : (List Fai)) => r0 t8_1 (Go.IntKind.i64.wrap (t9_1 + 1)) s__) (loopN (fun i__ s__ => gate_failures_b1 at4_1 t8_1 t9_1 i__ s__) (fun s__ => gate_failures_f1 at4_1 t8_1 t9_1 s__) (((8 : Int)) - 0).toNat 0 c0_1) (gate_failures_m_w1 n r0 n at4_1 t8_1 t9_1 0 c0_1) := by
  refine loopN_le (f := (elim some fun (s__ : (List Fai)) => r0 t8_1 (Go.IntKind.i64.wrap (t9_1 + 1)) s__)) (W := fun k__ i__ s__ => gate_failures_m_w1 n r0 k__ at4_1 t8_1 t9_1 i__ s__) (body := (fun i__ s__ => gate_failures_b1 at4_1 t8_1 t9_1 i__ s__)) (fin := (fun s__ => gate_failures_f1 at4_1 t8_1 t9_1 s__)) (fun k__ i__ s__ => ?_) hx c0_1 n 0 (by decide) (by unfold big at hn; omega)
  show LeF _ _ (gate_failures_m_l1 n r0 (gate_failures_m_w1 n r0 k__) at4_1 t8_1 t9_1 i__ s__)
  exact leCond (leCond (leSome rfl) leNone) (leMap (leSome rfl))

noncomputable def gate_failures_b0 (t8_0 : Int) (t9_0 : Int) (c0_0 : List Fai) : Option ((List Fai × Unit) ⊕ (List Fai)) :=
  (bif Decidable.decide (c0_0.length + (1 : Nat) ≤ Go.Vx.memMax) then (bif decide (((8 : Int)) ≤ (9223372036854775807 : Int)) then loopN (fun i__ s__ => gate_failures_b1 (t9_0) (t8_0) (t9_0) i__ s__) (fun s__ => gate_failures_f1 (t9_0) (t8_0) (t9_0) s__) (((8 : Int)) - 0).toNat 0 (c0_0 ++ [([(108 : UInt8), (111 : UInt8), (115 : UInt8), (116 : UInt8)], t9_0, (0 : Int), (0 : Int), ())]) else none) else none)

noncomputable def gate_failures_f0 (t8_0 : Int) (c0_0 : List Fai) : Option (List Fai × Unit) :=
  (some ((c0_0, ())))

theorem gate_failures_m_w0_le (n : Nat) (hn : big ≤ n)  (t8_0 : Int) (c0_0 : List Fai) (hx : (t8_0) ≤ (9223372036854775807 : Int)) : LeF some (loopN (fun i__ s__ => gate_failures_b0 t8_0 i__ s__) (fun s__ => gate_failures_f0 t8_0 s__) ((t8_0) - 0).toNat 0 c0_0) (gate_failures_m_w0 n n t8_0 0 c0_0) := by
  refine loopN_le (f := some) (W := fun k__ i__ s__ => gate_failures_m_w0 n k__ t8_0 i__ s__) (body := (fun i__ s__ => gate_failures_b0 t8_0 i__ s__)) (fin := (fun s__ => gate_failures_f0 t8_0 s__)) (fun k__ i__ s__ => ?_) hx c0_0 n 0 (by decide) (by unfold big at hn; omega)
  show LeF _ _ (gate_failures_m_l0 n (gate_failures_m_w0 n k__) t8_0 i__ s__)
  exact leCond (leCond (leGuard fun hx => by apply gate_failures_m_w1_le n hn; exact hx) leNone) (leMap (leSome rfl))

noncomputable def gate_failures_M (ticks : Int) : Option (List Fai × Unit) :=
  (bif decide ((ticks) ≤ (9223372036854775807 : Int)) then loopN (fun i__ s__ => gate_failures_b0 (ticks) i__ s__) (fun s__ => gate_failures_f0 (ticks) s__) ((ticks) - 0).toNat 0 ([([(110 : UInt8), (111 : UInt8), (110 : UInt8), (101 : UInt8)], (0 : Int), (0 : Int), (0 : Int), ())]) else none)

theorem gate_failures_run (ticks : Int) (y : List Fai × Unit) (h : gate_failures_M ticks = some y) : ∃ n, gate_failures_m n ticks = some y :=
  ⟨big, LeF.top (show LeF some (gate_failures_M ticks) (gate_failures_m big ticks) from (fun (n : Nat) (hn : big ≤ n) => show LeF some (gate_failures_M ticks) (gate_failures_m n ticks) from (leGuard fun hx => by apply gate_failures_m_w0_le n hn; exact hx)) big (Nat.le_refl _)) h⟩
noncomputable def gate_failures_e : Entry := { f := 122, args := gate_failures_a, ress := gate_failures_r, m := fun x => gate_failures_M x.1 }
theorem gate_failures_ok : FnOK Tryz.prog gate_failures_e := fn_ok (g := gate_failures_g) (fn := Tryz.f122) hmixed tabOk eNil (by kernel_rfl) (by kernel_rfl) (by kernel_rfl) (fun x y h => let ⟨n, hn⟩ := gate_failures_run x.1 y h; ⟨gate_failures_an n, iNil, (gate_failures_eq n x).trans hn⟩)

/-! ### tidewayref06.ShortGoal -/
/-! ### gate.mapped[gate.indexed,int] -/
abbrev gate_mapped_gate_indexed_int_a : Ty := .pair t202 (.pair t208 .unit)
abbrev gate_mapped_gate_indexed_int_r : Ty := .pair t28 .unit
noncomputable def gate_mapped_gate_indexed_int_g : G := { T := T, E := [], muts := [5], fz := [] }
def gate_mapped_gate_indexed_int_k : List (List Nat) := [[1, 5, 8, 9, 10]]
noncomputable def gate_mapped_gate_indexed_int_an (n : Nat) : Ann := { keep := gate_mapped_gate_indexed_int_k, fuel := n, inl := [], deep := 0 }
noncomputable def gate_mapped_gate_indexed_int_m_l0 (n : Nat) (r0 : ((Sta × Int × Unit) × Unit → Option (Int × Unit)) → List (Sta × Int × Unit) → Int → Int → List Int → Option (List Int × Unit)) (of1_0 : (Sta × Int × Unit) × Unit → Option (Int × Unit)) (t8_0 : List (Sta × Int × Unit)) (t9_0 : Int) (t10_0 : Int) (c0_0 : List Int) : Option (List Int × Unit) :=
  (bif Decidable.decide (t10_0 < t9_0) then (Option.bind (Go.Vx.idx t8_0 t10_0) fun (v1 : Sta × Int × Unit) => (Option.bind (of1_0 (((v1.fst.fst, v1.fst.snd.fst, v1.fst.snd.snd.fst, v1.fst.snd.snd.snd.fst, ()), v1.snd.fst, ()), ())) fun (v2 : Int × Unit) => (bif Decidable.decide (c0_0.length + (1 : Nat) ≤ Go.Vx.memMax) then r0 of1_0 t8_0 t9_0 (Go.IntKind.i64.wrap (t10_0 + (1 : Int))) (c0_0 ++ [v2.fst]) else none))) else Option.some (c0_0, ()))

noncomputable def gate_mapped_gate_indexed_int_m_w0 (n : Nat)  (k : Nat) (of1_0 : (Sta × Int × Unit) × Unit → Option (Int × Unit)) (t8_0 : List (Sta × Int × Unit)) (t9_0 : Int) (t10_0 : Int) (c0_0 : List Int) : Option (List Int × Unit) :=
  iter (fun r y => gate_mapped_gate_indexed_int_m_l0 n (fun of1_0 t8_0 t9_0 t10_0 c0_0 => r ((of1_0, (t8_0, (t9_0, (t10_0, ())))), ((c0_0, ()), ()))) y.1.1 y.1.2.1 y.1.2.2.1 y.1.2.2.2.1 y.2.1.1) k ((of1_0, (t8_0, (t9_0, (t10_0, ())))), ((c0_0, ()), ()))

noncomputable def gate_mapped_gate_indexed_int_m (n : Nat) (l : List (Sta × Int × Unit)) (of : (Sta × Int × Unit) × Unit → Option (Int × Unit)) : Option (List Int × Unit) :=
  (gate_mapped_gate_indexed_int_m_w0 n n (of) (l) ((↑l.length : Int)) ((0 : Int)) ([]))

theorem gate_mapped_gate_indexed_int_eq (n : Nat) (x : gate_mapped_gate_indexed_int_a.den) : runF gate_mapped_gate_indexed_int_g (gate_mapped_gate_indexed_int_an n) Tryz.f131 gate_mapped_gate_indexed_int_a gate_mapped_gate_indexed_int_r x = gate_mapped_gate_indexed_int_m n x.1 x.2.1 := by kernel_rfl

noncomputable def gate_mapped_gate_indexed_int_b0 (of1_0 : (Sta × Int × Unit) × Unit → Option (Int × Unit)) (t8_0 : List (Sta × Int × Unit)) (t10_0 : Int) (v1 : Sta × Int × Unit) (c0_0 : List Int) : Option ((List Int × Unit) ⊕ (List Int)) :=
  (Option.bind (of1_0 (((v1.fst.fst, v1.fst.snd.fst, v1.fst.snd.snd.fst, v1.fst.snd.snd.snd.fst, ()), v1.snd.fst, ()), ())) fun (v2 : Int × Unit) => (bif Decidable.decide (c0_0.length + (1 : Nat) ≤ Go.Vx.memMax) then (some (Sum.inr (c0_0 ++ [v2.fst]))) else none))

noncomputable def gate_mapped_gate_indexed_int_f0 (of1_0 : (Sta × Int × Unit) × Unit → Option (Int × Unit)) (t8_0 : List (Sta × Int × Unit)) (c0_0 : List Int) : Option (List Int × Unit) :=
  (some ((c0_0, ())))

theorem gate_mapped_gate_indexed_int_m_w0_le (n : Nat) (hn : big ≤ n)  (of1_0 : (Sta × Int × Unit) × Unit → Option (Int × Unit)) (t8_0 : List (Sta × Int × Unit)) (c0_0 : List Int) (hx : List.length (t8_0) < lenMax) : LeF some (loopL (fun i__ e__ s__ => gate_mapped_gate_indexed_int_b0 of1_0 t8_0 i__ e__ s__) (fun s__ => gate_mapped_gate_indexed_int_f0 of1_0 t8_0 s__) 0 (t8_0) c0_0) (gate_mapped_gate_indexed_int_m_w0 n n of1_0 t8_0 (List.length (t8_0) : Int) 0 c0_0) := by
  refine loopL_le (f := some) (W := fun k__ i__ s__ => gate_mapped_gate_indexed_int_m_w0 n k__ of1_0 t8_0 (List.length (t8_0) : Int) i__ s__) (body := (fun i__ e__ s__ => gate_mapped_gate_indexed_int_b0 of1_0 t8_0 i__ e__ s__)) (fin := (fun s__ => gate_mapped_gate_indexed_int_f0 of1_0 t8_0 s__)) (fun k__ i__ s__ => ?_) hx c0_0 n (by unfold big at hn; unfold lenMax at hx; omega)
  show LeF _ _ (gate_mapped_gate_indexed_int_m_l0 n (gate_mapped_gate_indexed_int_m_w0 n k__) of1_0 t8_0 (List.length (t8_0) : Int) i__ s__)
  exact leCond (leBind fun v1 => (leBind fun v2 => (leCond (leSome rfl) leNone))) (leMap (leSome rfl))

noncomputable def gate_mapped_gate_indexed_int_M (l : List (Sta × Int × Unit)) (of : (Sta × Int × Unit) × Unit → Option (Int × Unit)) : Option (List Int × Unit) :=
  (bif decide (List.length (l) < lenMax) then loopL (fun i__ e__ s__ => gate_mapped_gate_indexed_int_b0 (of) (l) i__ e__ s__) (fun s__ => gate_mapped_gate_indexed_int_f0 (of) (l) s__) 0 (l) ([]) else none)

theorem gate_mapped_gate_indexed_int_run (l : List (Sta × Int × Unit)) (of : (Sta × Int × Unit) × Unit → Option (Int × Unit)) (y : List Int × Unit) (h : gate_mapped_gate_indexed_int_M l of = some y) : ∃ n, gate_mapped_gate_indexed_int_m n l of = some y :=
  ⟨big, LeF.top (show LeF some (gate_mapped_gate_indexed_int_M l of) (gate_mapped_gate_indexed_int_m big l of) from (fun (n : Nat) (hn : big ≤ n) => show LeF some (gate_mapped_gate_indexed_int_M l of) (gate_mapped_gate_indexed_int_m n l of) from (leGuard fun hx => by apply gate_mapped_gate_indexed_int_m_w0_le n hn; exact hx)) big (Nat.le_refl _)) h⟩
noncomputable def gate_mapped_gate_indexed_int_e : Entry := { f := 131, args := gate_mapped_gate_indexed_int_a, ress := gate_mapped_gate_indexed_int_r, m := fun x => gate_mapped_gate_indexed_int_M x.1 x.2.1 }
theorem gate_mapped_gate_indexed_int_ok : FnOK Tryz.prog gate_mapped_gate_indexed_int_e := fn_ok (g := gate_mapped_gate_indexed_int_g) (fn := Tryz.f131) hmixed tabOk eNil (by kernel_rfl) (by kernel_rfl) (by kernel_rfl) (fun x y h => let ⟨n, hn⟩ := gate_mapped_gate_indexed_int_run x.1 x.2.1 y h; ⟨gate_mapped_gate_indexed_int_an n, iNil, (gate_mapped_gate_indexed_int_eq n x).trans hn⟩)

/-! ### gate.kept[gate.indexed] -/
abbrev gate_kept_gate_indexed_a : Ty := .pair t202 (.pair t207 .unit)
abbrev gate_kept_gate_indexed_r : Ty := .pair t202 .unit
noncomputable def gate_kept_gate_indexed_g : G := { T := T, E := [], muts := [5], fz := [] }
def gate_kept_gate_indexed_k : List (List Nat) := [[1, 5, 8, 9, 10]]
noncomputable def gate_kept_gate_indexed_an (n : Nat) : Ann := { keep := gate_kept_gate_indexed_k, fuel := n, inl := [], deep := 0 }
noncomputable def gate_kept_gate_indexed_m_l0 (n : Nat) (r0 : ((Sta × Int × Unit) × Unit → Option (Bool × Unit)) → List (Sta × Int × Unit) → Int → Int → List (Sta × Int × Unit) → Option (List (Sta × Int × Unit) × Unit)) (holds1_0 : (Sta × Int × Unit) × Unit → Option (Bool × Unit)) (t8_0 : List (Sta × Int × Unit)) (t9_0 : Int) (t10_0 : Int) (c0_0 : List (Sta × Int × Unit)) : Option (List (Sta × Int × Unit) × Unit) :=
  (bif Decidable.decide (t10_0 < t9_0) then (Option.bind (Go.Vx.idx t8_0 t10_0) fun (v1 : Sta × Int × Unit) => (Option.bind (holds1_0 (((v1.fst.fst, v1.fst.snd.fst, v1.fst.snd.snd.fst, v1.fst.snd.snd.snd.fst, ()), v1.snd.fst, ()), ())) fun (v2 : Bool × Unit) => (bif v2.fst then (bif Decidable.decide (c0_0.length + (1 : Nat) ≤ Go.Vx.memMax) then r0 holds1_0 t8_0 t9_0 (Go.IntKind.i64.wrap (t10_0 + (1 : Int))) (c0_0 ++ [((v1.fst.fst, v1.fst.snd.fst, v1.fst.snd.snd.fst, v1.fst.snd.snd.snd.fst, ()), v1.snd.fst, ())]) else none) else r0 holds1_0 t8_0 t9_0 (Go.IntKind.i64.wrap (t10_0 + (1 : Int))) c0_0))) else Option.some (c0_0, ()))

noncomputable def gate_kept_gate_indexed_m_w0 (n : Nat)  (k : Nat) (holds1_0 : (Sta × Int × Unit) × Unit → Option (Bool × Unit)) (t8_0 : List (Sta × Int × Unit)) (t9_0 : Int) (t10_0 : Int) (c0_0 : List (Sta × Int × Unit)) : Option (List (Sta × Int × Unit) × Unit) :=
  iter (fun r y => gate_kept_gate_indexed_m_l0 n (fun holds1_0 t8_0 t9_0 t10_0 c0_0 => r ((holds1_0, (t8_0, (t9_0, (t10_0, ())))), ((c0_0, ()), ()))) y.1.1 y.1.2.1 y.1.2.2.1 y.1.2.2.2.1 y.2.1.1) k ((holds1_0, (t8_0, (t9_0, (t10_0, ())))), ((c0_0, ()), ()))

noncomputable def gate_kept_gate_indexed_m (n : Nat) (l : List (Sta × Int × Unit)) (holds : (Sta × Int × Unit) × Unit → Option (Bool × Unit)) : Option (List (Sta × Int × Unit) × Unit) :=
  (gate_kept_gate_indexed_m_w0 n n (holds) (l) ((↑l.length : Int)) ((0 : Int)) ([]))

theorem gate_kept_gate_indexed_eq (n : Nat) (x : gate_kept_gate_indexed_a.den) : runF gate_kept_gate_indexed_g (gate_kept_gate_indexed_an n) Tryz.f132 gate_kept_gate_indexed_a gate_kept_gate_indexed_r x = gate_kept_gate_indexed_m n x.1 x.2.1 := by kernel_rfl

noncomputable def gate_kept_gate_indexed_b0 (holds1_0 : (Sta × Int × Unit) × Unit → Option (Bool × Unit)) (t8_0 : List (Sta × Int × Unit)) (t10_0 : Int) (v1 : Sta × Int × Unit) (c0_0 : List (Sta × Int × Unit)) : Option ((List (Sta × Int × Unit) × Unit) ⊕ (List (Sta × Int × Unit))) :=
  (Option.bind (holds1_0 (((v1.fst.fst, v1.fst.snd.fst, v1.fst.snd.snd.fst, v1.fst.snd.snd.snd.fst, ()), v1.snd.fst, ()), ())) fun (v2 : Bool × Unit) => (bif v2.fst then (bif Decidable.decide (c0_0.length + (1 : Nat) ≤ Go.Vx.memMax) then (some (Sum.inr (c0_0 ++ [((v1.fst.fst, v1.fst.snd.fst, v1.fst.snd.snd.fst, v1.fst.snd.snd.snd.fst, ()), v1.snd.fst, ())]))) else none) else (some (Sum.inr (c0_0)))))

noncomputable def gate_kept_gate_indexed_f0 (holds1_0 : (Sta × Int × Unit) × Unit → Option (Bool × Unit)) (t8_0 : List (Sta × Int × Unit)) (c0_0 : List (Sta × Int × Unit)) : Option (List (Sta × Int × Unit) × Unit) :=
  (some ((c0_0, ())))

theorem gate_kept_gate_indexed_m_w0_le (n : Nat) (hn : big ≤ n)  (holds1_0 : (Sta × Int × Unit) × Unit → Option (Bool × Unit)) (t8_0 : List (Sta × Int × Unit)) (c0_0 : List (Sta × Int × Unit)) (hx : List.length (t8_0) < lenMax) : LeF some (loopL (fun i__ e__ s__ => gate_kept_gate_indexed_b0 holds1_0 t8_0 i__ e__ s__) (fun s__ => gate_kept_gate_indexed_f0 holds1_0 t8_0 s__) 0 (t8_0) c0_0) (gate_kept_gate_indexed_m_w0 n n holds1_0 t8_0 (List.length (t8_0) : Int) 0 c0_0) := by
  refine loopL_le (f := some) (W := fun k__ i__ s__ => gate_kept_gate_indexed_m_w0 n k__ holds1_0 t8_0 (List.length (t8_0) : Int) i__ s__) (body := (fun i__ e__ s__ => gate_kept_gate_indexed_b0 holds1_0 t8_0 i__ e__ s__)) (fin := (fun s__ => gate_kept_gate_indexed_f0 holds1_0 t8_0 s__)) (fun k__ i__ s__ => ?_) hx c0_0 n (by unfold big at hn; unfold lenMax at hx; omega)
  show LeF _ _ (gate_kept_gate_indexed_m_l0 n (gate_kept_gate_indexed_m_w0 n k__) holds1_0 t8_0 (List.length (t8_0) : Int) i__ s__)
  exact leCond (leBind fun v1 => (leBind fun v2 => (leCond (leCond (leSome rfl) leNone) (leSome rfl)))) (leMap (leSome rfl))

noncomputable def gate_kept_gate_indexed_M (l : List (Sta × Int × Unit)) (holds : (Sta × Int × Unit) × Unit → Option (Bool × Unit)) : Option (List (Sta × Int × Unit) × Unit) :=
  (bif decide (List.length (l) < lenMax) then loopL (fun i__ e__ s__ => gate_kept_gate_indexed_b0 (holds) (l) i__ e__ s__) (fun s__ => gate_kept_gate_indexed_f0 (holds) (l) s__) 0 (l) ([]) else none)

theorem gate_kept_gate_indexed_run (l : List (Sta × Int × Unit)) (holds : (Sta × Int × Unit) × Unit → Option (Bool × Unit)) (y : List (Sta × Int × Unit) × Unit) (h : gate_kept_gate_indexed_M l holds = some y) : ∃ n, gate_kept_gate_indexed_m n l holds = some y :=
  ⟨big, LeF.top (show LeF some (gate_kept_gate_indexed_M l holds) (gate_kept_gate_indexed_m big l holds) from (fun (n : Nat) (hn : big ≤ n) => show LeF some (gate_kept_gate_indexed_M l holds) (gate_kept_gate_indexed_m n l holds) from (leGuard fun hx => by apply gate_kept_gate_indexed_m_w0_le n hn; exact hx)) big (Nat.le_refl _)) h⟩
noncomputable def gate_kept_gate_indexed_e : Entry := { f := 132, args := gate_kept_gate_indexed_a, ress := gate_kept_gate_indexed_r, m := fun x => gate_kept_gate_indexed_M x.1 x.2.1 }
theorem gate_kept_gate_indexed_ok : FnOK Tryz.prog gate_kept_gate_indexed_e := fn_ok (g := gate_kept_gate_indexed_g) (fn := Tryz.f132) hmixed tabOk eNil (by kernel_rfl) (by kernel_rfl) (by kernel_rfl) (fun x y h => let ⟨n, hn⟩ := gate_kept_gate_indexed_run x.1 x.2.1 y h; ⟨gate_kept_gate_indexed_an n, iNil, (gate_kept_gate_indexed_eq n x).trans hn⟩)

/-! ### (gate.indexed).leaf -/
abbrev gate_indexed_leaf_a : Ty := .pair t204 .unit
abbrev gate_indexed_leaf_r : Ty := .pair t4 .unit
noncomputable def gate_indexed_leaf_g : G := { T := T, E := [], muts := [], fz := [] }
def gate_indexed_leaf_k : List (List Nat) := []
noncomputable def gate_indexed_leaf_an (n : Nat) : Ann := { keep := gate_indexed_leaf_k, fuel := n, inl := [], deep := 0 }
noncomputable def gate_indexed_leaf_m (n : Nat) (s : Sta × Int × Unit) : Option (Bool × Unit) :=
  Option.some (s.fst.snd.snd.fst == (-1 : Int), ())

theorem gate_indexed_leaf_eq (n : Nat) (x : gate_indexed_leaf_a.den) : runF gate_indexed_leaf_g (gate_indexed_leaf_an n) Tryz.f133 gate_indexed_leaf_a gate_indexed_leaf_r x = gate_indexed_leaf_m n x.1 := by kernel_rfl

noncomputable def gate_indexed_leaf (s : Sta × Int × Unit) : (Bool × Unit) :=
  (s.fst.snd.snd.fst == (-1 : Int), ())

noncomputable abbrev gate_indexed_leaf_M (s : Sta × Int × Unit) : Option (Bool × Unit) := some (gate_indexed_leaf s)

theorem gate_indexed_leaf_run (s : Sta × Int × Unit) (y : Bool × Unit) (h : gate_indexed_leaf_M s = some y) : ∃ n, gate_indexed_leaf_m n s = some y :=
  ⟨0, by rw [← h]; show gate_indexed_leaf_m 0 s = some (gate_indexed_leaf s); unfold gate_indexed_leaf_m gate_indexed_leaf; first | rfl | (simp only [cond_some]; done) | (simp only [cond_some]; rfl)⟩
noncomputable def gate_indexed_leaf_e : Entry := { f := 133, args := gate_indexed_leaf_a, ress := gate_indexed_leaf_r, m := fun x => gate_indexed_leaf_M x.1 }
theorem gate_indexed_leaf_ok : FnOK Tryz.prog gate_indexed_leaf_e := fn_ok (g := gate_indexed_leaf_g) (fn := Tryz.f133) hmixed tabOk eNil (by kernel_rfl) (by kernel_rfl) (by kernel_rfl) (fun x y h => let ⟨n, hn⟩ := gate_indexed_leaf_run x.1 y h; ⟨gate_indexed_leaf_an n, iNil, (gate_indexed_leaf_eq n x).trans hn⟩)

/-! ### (gate.indexed).number -/
abbrev gate_indexed_number_a : Ty := .pair t204 .unit
abbrev gate_indexed_number_r : Ty := .pair t3 .unit
noncomputable def gate_indexed_number_g : G := { T := T, E := [], muts := [], fz := [] }
def gate_indexed_number_k : List (List Nat) := []
noncomputable def gate_indexed_number_an (n : Nat) : Ann := { keep := gate_indexed_number_k, fuel := n, inl := [], deep := 0 }
noncomputable def gate_indexed_number_m (n : Nat) (s : Sta × Int × Unit) : Option (Int × Unit) :=
  Option.some (s.snd.fst, ())

theorem gate_indexed_number_eq (n : Nat) (x : gate_indexed_number_a.den) : runF gate_indexed_number_g (gate_indexed_number_an n) Tryz.f134 gate_indexed_number_a gate_indexed_number_r x = gate_indexed_number_m n x.1 := by kernel_rfl

noncomputable def gate_indexed_number (s : Sta × Int × Unit) : (Int × Unit) :=
  (s.snd.fst, ())

noncomputable abbrev gate_indexed_number_M (s : Sta × Int × Unit) : Option (Int × Unit) := some (gate_indexed_number s)

theorem gate_indexed_number_run (s : Sta × Int × Unit) (y : Int × Unit) (h : gate_indexed_number_M s = some y) : ∃ n, gate_indexed_number_m n s = some y :=
  ⟨0, by rw [← h]; show gate_indexed_number_m 0 s = some (gate_indexed_number s); unfold gate_indexed_number_m gate_indexed_number; first | rfl | (simp only [cond_some]; done) | (simp only [cond_some]; rfl)⟩
noncomputable def gate_indexed_number_e : Entry := { f := 134, args := gate_indexed_number_a, ress := gate_indexed_number_r, m := fun x => gate_indexed_number_M x.1 }
theorem gate_indexed_number_ok : FnOK Tryz.prog gate_indexed_number_e := fn_ok (g := gate_indexed_number_g) (fn := Tryz.f134) hmixed tabOk eNil (by kernel_rfl) (by kernel_rfl) (by kernel_rfl) (fun x y h => let ⟨n, hn⟩ := gate_indexed_number_run x.1 y h; ⟨gate_indexed_number_an n, iNil, (gate_indexed_number_eq n x).trans hn⟩)

/-! ### tidewayref01.IsName -/
abbrev ref01_IsName_a : Ty := .pair t9 .unit
abbrev ref01_IsName_r : Ty := .pair t4 .unit
noncomputable def ref01_IsName_g : G := { T := T, E := [], muts := [], fz := [] }
def ref01_IsName_k : List (List Nat) := [[0, 3]]
noncomputable def ref01_IsName_an (n : Nat) : Ann := { keep := ref01_IsName_k, fuel := n, inl := [], deep := 0 }
noncomputable def ref01_IsName_m_j15 (n : Nat) (r2 : List UInt8 → Int → Option (Bool × Unit)) (s0_2 : List UInt8) (i3_2 : Int) (v3 : UInt8) : Option (Bool × Unit) :=
  (bif i3_2 == (0 : Int) then Option.some (Bool.false, ()) else (bif (↑v3.toNat : Int) != (95 : Int) then (bif Decidable.decide ((↑v3.toNat : Int) < (48 : Int)) then Option.some (Bool.false, ()) else (bif Decidable.decide ((↑v3.toNat : Int) > (57 : Int)) then Option.some (Bool.false, ()) else r2 s0_2 (Go.IntKind.i64.wrap (i3_2 + (1 : Int))))) else r2 s0_2 (Go.IntKind.i64.wrap (i3_2 + (1 : Int)))))

noncomputable def ref01_IsName_m_l2 (n : Nat) (r2 : List UInt8 → Int → Option (Bool × Unit)) (s0_2 : List UInt8) (i3_2 : Int) : Option (Bool × Unit) :=
  (bif Decidable.decide (i3_2 < (↑s0_2.length : Int)) then (Option.bind (Go.Vx.idx s0_2 i3_2) fun (v3 : UInt8) => (bif Decidable.decide ((↑v3.toNat : Int) ≥ (97 : Int)) then (bif Decidable.decide ((↑v3.toNat : Int) ≤ (122 : Int)) then r2 s0_2 (Go.IntKind.i64.wrap (i3_2 + (1 : Int))) else (bif Decidable.decide ((↑v3.toNat : Int) ≥ (65 : Int)) then (bif Decidable.decide ((↑v3.toNat : Int) ≤ (90 : Int)) then r2 s0_2 (Go.IntKind.i64.wrap (i3_2 + (1 : Int))) else (ref01_IsName_m_j15 n r2 s0_2 i3_2 v3)) else (ref01_IsName_m_j15 n r2 s0_2 i3_2 v3))) else (bif Decidable.decide ((↑v3.toNat : Int) ≥ (65 : Int)) then (bif Decidable.decide ((↑v3.toNat : Int) ≤ (90 : Int)) then r2 s0_2 (Go.IntKind.i64.wrap (i3_2 + (1 : Int))) else (ref01_IsName_m_j15 n r2 s0_2 i3_2 v3)) else (ref01_IsName_m_j15 n r2 s0_2 i3_2 v3)))) else Option.some (Bool.true, ()))

noncomputable def ref01_IsName_m_w2 (n : Nat)  (k : Nat) (s0_2 : List UInt8) (i3_2 : Int) : Option (Bool × Unit) :=
  iter (fun r y => ref01_IsName_m_l2 n (fun s0_2 i3_2 => r ((s0_2, (i3_2, ())), ((), ()))) y.1.1 y.1.2.1) k ((s0_2, (i3_2, ())), ((), ()))

noncomputable def ref01_IsName_m (n : Nat) (s : List UInt8) : Option (Bool × Unit) :=
  (bif (↑s.length : Int) == (0 : Int) then Option.some (Bool.false, ()) else (bif Decidable.decide ((↑s.length : Int) > (24 : Int)) then Option.some (Bool.false, ()) else (ref01_IsName_m_w2 n n (s) ((0 : Int)))))

theorem ref01_IsName_eq (n : Nat) (x : ref01_IsName_a.den) : runF ref01_IsName_g (ref01_IsName_an n) Tryz.f136 ref01_IsName_a ref01_IsName_r x = ref01_IsName_m n x.1 := by kernel_rfl

noncomputable def ref01_IsName_s15 (s0_2 : List UInt8) (i3_2 : Int) (v3 : UInt8) : Option ((Bool × Unit) ⊕ Unit) :=
  (bif i3_2 == (0 : Int) then (some (Sum.inl ((Bool.false, ())))) else (bif (↑v3.toNat : Int) != (95 : Int) then (bif Decidable.decide ((↑v3.toNat : Int) < (48 : Int)) then (some (Sum.inl ((Bool.false, ())))) else (bif Decidable.decide ((↑v3.toNat : Int) > (57 : Int)) then (some (Sum.inl ((Bool.false, ())))) else (some (Sum.inr ())))) else (some (Sum.inr ()))))

theorem ref01_IsName_s15_le (n : Nat) (hn : big ≤ n)  (r2 : List UInt8 → Int → Option (Bool × Unit)) (s0_2 : List UInt8) (i3_2 : Int) (v3 : UInt8) : LeF (elim some fun (s__ : Unit) => r2 s0_2 (Go.IntKind.i64.wrap (i3_2 + 1))) (ref01_IsName_s15 s0_2 i3_2 v3) (ref01_IsName_m_j15 n r2 s0_2 i3_2 v3) :=
  (leCond (leSome rfl) (leCond (leCond (leSome rfl) (leCond (leSome rfl) (leSome rfl))) (leSome rfl)))

noncomputable def ref01_IsName_b2 (s0_2 : List UInt8) (i3_2 : Int) (v3 : UInt8) : Option ((Bool × Unit) ⊕ Unit) :=
  (bif Decidable.decide ((↑v3.toNat : Int) ≥ (97 : Int)) then (bif Decidable.decide ((↑v3.toNat : Int) ≤ (122 : Int)) then (some (Sum.inr ())) else (bif Decidable.decide ((↑v3.toNat : Int) ≥ (65 : Int)) then (bif Decidable.decide ((↑v3.toNat : Int) ≤ (90 : Int)) then (some (Sum.inr ())) else (ref01_IsName_s15 s0_2 i3_2 v3)) else (ref01_IsName_s15 s0_2 i3_2 v3))) else (bif Decidable.decide ((↑v3.toNat : Int) ≥ (65 : Int)) then (bif Decidable.decide ((↑v3.toNat : Int) ≤ (90 : Int)) then (some (Sum.inr ())) else (ref01_IsName_s15 s0_2 i3_2 v3)) else (ref01_IsName_s15 s0_2 i3_2 v3)))

noncomputable def ref01_IsName_f2 (s0_2 : List UInt8) : Option (Bool × Unit) :=
  (some ((Bool.true, ())))

theorem ref01_IsName_m_w2_le (n : Nat) (hn : big ≤ n)  (s0_2 : List UInt8) (hx : List.length (s0_2) < lenMax) : LeF some (loopL (fun i__ e__ s__ => ref01_IsName_b2 s0_2 i__ e__) (fun s__ => ref01_IsName_f2 s0_2) 0 (s0_2) ()) (ref01_IsName_m_w2 n n s0_2 0) := by
  refine loopL_le (f := some) (W := fun k__ i__ s__ => ref01_IsName_m_w2 n k__ s0_2 i__) (body := (fun i__ e__ s__ => ref01_IsName_b2 s0_2 i__ e__)) (fin := (fun s__ => ref01_IsName_f2 s0_2)) (fun k__ i__ s__ => ?_) hx () n (by unfold big at hn; unfold lenMax at hx; omega)
  show LeF _ _ (ref01_IsName_m_l2 n (ref01_IsName_m_w2 n k__) s0_2 i__)
  exact leCond (leBind fun v3 => (leCond (leCond (leSome rfl) (leCond (leCond (leSome rfl) (by apply ref01_IsName_s15_le n hn)) (by apply ref01_IsName_s15_le n hn))) (leCond (leCond (leSome rfl) (by apply ref01_IsName_s15_le n hn)) (by apply ref01_IsName_s15_le n hn)))) (leMap (leSome rfl))

noncomputable def ref01_IsName_M (s : List UInt8) : Option (Bool × Unit) :=
  (bif (↑s.length : Int) == (0 : Int) then (some ((Bool.false, ()))) else (bif Decidable.decide ((↑s.length : Int) > (24 : Int)) then (some ((Bool.false, ()))) else (bif decide (List.length (s) < lenMax) then loopL (fun i__ e__ s__ => ref01_IsName_b2 (s) i__ e__) (fun s__ => ref01_IsName_f2 (s)) 0 (s) () else none)))

theorem ref01_IsName_run (s : List UInt8) (y : Bool × Unit) (h : ref01_IsName_M s = some y) : ∃ n, ref01_IsName_m n s = some y :=
  ⟨big, LeF.top (show LeF some (ref01_IsName_M s) (ref01_IsName_m big s) from (fun (n : Nat) (hn : big ≤ n) => show LeF some (ref01_IsName_M s) (ref01_IsName_m n s) from (leCond (leSome rfl) (leCond (leSome rfl) (leGuard fun hx => by apply ref01_IsName_m_w2_le n hn; exact hx)))) big (Nat.le_refl _)) h⟩
noncomputable def ref01_IsName_e : Entry := { f := 136, args := ref01_IsName_a, ress := ref01_IsName_r, m := fun x => ref01_IsName_M x.1 }
theorem ref01_IsName_ok : FnOK Tryz.prog ref01_IsName_e := fn_ok (g := ref01_IsName_g) (fn := Tryz.f136) hmixed tabOk eNil (by kernel_rfl) (by kernel_rfl) (by kernel_rfl) (fun x y h => let ⟨n, hn⟩ := ref01_IsName_run x.1 y h; ⟨ref01_IsName_an n, iNil, (ref01_IsName_eq n x).trans hn⟩)

/-! ### gate.kept[gate.Transition] -/
abbrev gate_kept_gate_Transition_a : Ty := .pair t33 (.pair t214 .unit)
abbrev gate_kept_gate_Transition_r : Ty := .pair t33 .unit
noncomputable def gate_kept_gate_Transition_g : G := { T := T, E := [], muts := [5], fz := [] }
def gate_kept_gate_Transition_k : List (List Nat) := [[1, 5, 8, 9, 10]]
noncomputable def gate_kept_gate_Transition_an (n : Nat) : Ann := { keep := gate_kept_gate_Transition_k, fuel := n, inl := [], deep := 0 }
noncomputable def gate_kept_gate_Transition_m_l0 (n : Nat) (r0 : (Tra × Unit → Option (Bool × Unit)) → List Tra → Int → Int → List Tra → Option (List Tra × Unit)) (holds1_0 : Tra × Unit → Option (Bool × Unit)) (t8_0 : List Tra) (t9_0 : Int) (t10_0 : Int) (c0_0 : List Tra) : Option (List Tra × Unit) :=
  (bif Decidable.decide (t10_0 < t9_0) then (Option.bind (Go.Vx.idx t8_0 t10_0) fun (v1 : Tra) => (Option.bind (holds1_0 ((v1.fst, v1.snd.fst, v1.snd.snd.fst, v1.snd.snd.snd.fst, v1.snd.snd.snd.snd.fst, ()), ())) fun (v2 : Bool × Unit) => (bif v2.fst then (bif Decidable.decide (c0_0.length + (1 : Nat) ≤ Go.Vx.memMax) then r0 holds1_0 t8_0 t9_0 (Go.IntKind.i64.wrap (t10_0 + (1 : Int))) (c0_0 ++ [(v1.fst, v1.snd.fst, v1.snd.snd.fst, v1.snd.snd.snd.fst, v1.snd.snd.snd.snd.fst, ())]) else none) else r0 holds1_0 t8_0 t9_0 (Go.IntKind.i64.wrap (t10_0 + (1 : Int))) c0_0))) else Option.some (c0_0, ()))

noncomputable def gate_kept_gate_Transition_m_w0 (n : Nat)  (k : Nat) (holds1_0 : Tra × Unit → Option (Bool × Unit)) (t8_0 : List Tra) (t9_0 : Int) (t10_0 : Int) (c0_0 : List Tra) : Option (List Tra × Unit) :=
  iter (fun r y => gate_kept_gate_Transition_m_l0 n (fun holds1_0 t8_0 t9_0 t10_0 c0_0 => r ((holds1_0, (t8_0, (t9_0, (t10_0, ())))), ((c0_0, ()), ()))) y.1.1 y.1.2.1 y.1.2.2.1 y.1.2.2.2.1 y.2.1.1) k ((holds1_0, (t8_0, (t9_0, (t10_0, ())))), ((c0_0, ()), ()))

noncomputable def gate_kept_gate_Transition_m (n : Nat) (l : List Tra) (holds : Tra × Unit → Option (Bool × Unit)) : Option (List Tra × Unit) :=
  (gate_kept_gate_Transition_m_w0 n n (holds) (l) ((↑l.length : Int)) ((0 : Int)) ([]))

theorem gate_kept_gate_Transition_eq (n : Nat) (x : gate_kept_gate_Transition_a.den) : runF gate_kept_gate_Transition_g (gate_kept_gate_Transition_an n) Tryz.f139 gate_kept_gate_Transition_a gate_kept_gate_Transition_r x = gate_kept_gate_Transition_m n x.1 x.2.1 := by kernel_rfl

noncomputable def gate_kept_gate_Transition_b0 (holds1_0 : Tra × Unit → Option (Bool × Unit)) (t8_0 : List Tra) (t10_0 : Int) (v1 : Tra) (c0_0 : List Tra) : Option ((List Tra × Unit) ⊕ (List Tra)) :=
  (Option.bind (holds1_0 ((v1.fst, v1.snd.fst, v1.snd.snd.fst, v1.snd.snd.snd.fst, v1.snd.snd.snd.snd.fst, ()), ())) fun (v2 : Bool × Unit) => (bif v2.fst then (bif Decidable.decide (c0_0.length + (1 : Nat) ≤ Go.Vx.memMax) then (some (Sum.inr (c0_0 ++ [(v1.fst, v1.snd.fst, v1.snd.snd.fst, v1.snd.snd.snd.fst, v1.snd.snd.snd.snd.fst, ())]))) else none) else (some (Sum.inr (c0_0)))))

noncomputable def gate_kept_gate_Transition_f0 (holds1_0 : Tra × Unit → Option (Bool × Unit)) (t8_0 : List Tra) (c0_0 : List Tra) : Option (List Tra × Unit) :=
  (some ((c0_0, ())))

theorem gate_kept_gate_Transition_m_w0_le (n : Nat) (hn : big ≤ n)  (holds1_0 : Tra × Unit → Option (Bool × Unit)) (t8_0 : List Tra) (c0_0 : List Tra) (hx : List.length (t8_0) < lenMax) : LeF some (loopL (fun i__ e__ s__ => gate_kept_gate_Transition_b0 holds1_0 t8_0 i__ e__ s__) (fun s__ => gate_kept_gate_Transition_f0 holds1_0 t8_0 s__) 0 (t8_0) c0_0) (gate_kept_gate_Transition_m_w0 n n holds1_0 t8_0 (List.length (t8_0) : Int) 0 c0_0) := by
  refine loopL_le (f := some) (W := fun k__ i__ s__ => gate_kept_gate_Transition_m_w0 n k__ holds1_0 t8_0 (List.length (t8_0) : Int) i__ s__) (body := (fun i__ e__ s__ => gate_kept_gate_Transition_b0 holds1_0 t8_0 i__ e__ s__)) (fin := (fun s__ => gate_kept_gate_Transition_f0 holds1_0 t8_0 s__)) (fun k__ i__ s__ => ?_) hx c0_0 n (by unfold big at hn; unfold lenMax at hx; omega)
  show LeF _ _ (gate_kept_gate_Transition_m_l0 n (gate_kept_gate_Transition_m_w0 n k__) holds1_0 t8_0 (List.length (t8_0) : Int) i__ s__)
  exact leCond (leBind fun v1 => (leBind fun v2 => (leCond (leCond (leSome rfl) leNone) (leSome rfl)))) (leMap (leSome rfl))

noncomputable def gate_kept_gate_Transition_M (l : List Tra) (holds : Tra × Unit → Option (Bool × Unit)) : Option (List Tra × Unit) :=
  (bif decide (List.length (l) < lenMax) then loopL (fun i__ e__ s__ => gate_kept_gate_Transition_b0 (holds) (l) i__ e__ s__) (fun s__ => gate_kept_gate_Transition_f0 (holds) (l) s__) 0 (l) ([]) else none)

theorem gate_kept_gate_Transition_run (l : List Tra) (holds : Tra × Unit → Option (Bool × Unit)) (y : List Tra × Unit) (h : gate_kept_gate_Transition_M l holds = some y) : ∃ n, gate_kept_gate_Transition_m n l holds = some y :=
  ⟨big, LeF.top (show LeF some (gate_kept_gate_Transition_M l holds) (gate_kept_gate_Transition_m big l holds) from (fun (n : Nat) (hn : big ≤ n) => show LeF some (gate_kept_gate_Transition_M l holds) (gate_kept_gate_Transition_m n l holds) from (leGuard fun hx => by apply gate_kept_gate_Transition_m_w0_le n hn; exact hx)) big (Nat.le_refl _)) h⟩
noncomputable def gate_kept_gate_Transition_e : Entry := { f := 139, args := gate_kept_gate_Transition_a, ress := gate_kept_gate_Transition_r, m := fun x => gate_kept_gate_Transition_M x.1 x.2.1 }
theorem gate_kept_gate_Transition_ok : FnOK Tryz.prog gate_kept_gate_Transition_e := fn_ok (g := gate_kept_gate_Transition_g) (fn := Tryz.f139) hmixed tabOk eNil (by kernel_rfl) (by kernel_rfl) (by kernel_rfl) (fun x y h => let ⟨n, hn⟩ := gate_kept_gate_Transition_run x.1 x.2.1 y h; ⟨gate_kept_gate_Transition_an n, iNil, (gate_kept_gate_Transition_eq n x).trans hn⟩)

/-! ### gate.mapped[gate.Input,api.Errno] -/
abbrev gate_mapped_gate_Input_api_Errno_a : Ty := .pair t57 (.pair t216 .unit)
abbrev gate_mapped_gate_Input_api_Errno_r : Ty := .pair t164 .unit
noncomputable def gate_mapped_gate_Input_api_Errno_g : G := { T := T, E := [], muts := [5], fz := [] }
def gate_mapped_gate_Input_api_Errno_k : List (List Nat) := [[1, 5, 8, 9, 10]]
noncomputable def gate_mapped_gate_Input_api_Errno_an (n : Nat) : Ann := { keep := gate_mapped_gate_Input_api_Errno_k, fuel := n, inl := [], deep := 0 }
noncomputable def gate_mapped_gate_Input_api_Errno_m_l0 (n : Nat) (r0 : ((List UInt8 × Int × Unit) × Unit → Option (Int × Unit)) → List (List UInt8 × Int × Unit) → Int → Int → List Int → Option (List Int × Unit)) (of1_0 : (List UInt8 × Int × Unit) × Unit → Option (Int × Unit)) (t8_0 : List (List UInt8 × Int × Unit)) (t9_0 : Int) (t10_0 : Int) (c0_0 : List Int) : Option (List Int × Unit) :=
  (bif Decidable.decide (t10_0 < t9_0) then (Option.bind (Go.Vx.idx t8_0 t10_0) fun (v1 : List UInt8 × Int × Unit) => (Option.bind (of1_0 ((v1.fst, v1.snd.fst, ()), ())) fun (v2 : Int × Unit) => (bif Decidable.decide (c0_0.length + (1 : Nat) ≤ Go.Vx.memMax) then r0 of1_0 t8_0 t9_0 (Go.IntKind.i64.wrap (t10_0 + (1 : Int))) (c0_0 ++ [v2.fst]) else none))) else Option.some (c0_0, ()))

noncomputable def gate_mapped_gate_Input_api_Errno_m_w0 (n : Nat)  (k : Nat) (of1_0 : (List UInt8 × Int × Unit) × Unit → Option (Int × Unit)) (t8_0 : List (List UInt8 × Int × Unit)) (t9_0 : Int) (t10_0 : Int) (c0_0 : List Int) : Option (List Int × Unit) :=
  iter (fun r y => gate_mapped_gate_Input_api_Errno_m_l0 n (fun of1_0 t8_0 t9_0 t10_0 c0_0 => r ((of1_0, (t8_0, (t9_0, (t10_0, ())))), ((c0_0, ()), ()))) y.1.1 y.1.2.1 y.1.2.2.1 y.1.2.2.2.1 y.2.1.1) k ((of1_0, (t8_0, (t9_0, (t10_0, ())))), ((c0_0, ()), ()))

noncomputable def gate_mapped_gate_Input_api_Errno_m (n : Nat) (l : List (List UInt8 × Int × Unit)) (of : (List UInt8 × Int × Unit) × Unit → Option (Int × Unit)) : Option (List Int × Unit) :=
  (gate_mapped_gate_Input_api_Errno_m_w0 n n (of) (l) ((↑l.length : Int)) ((0 : Int)) ([]))

theorem gate_mapped_gate_Input_api_Errno_eq (n : Nat) (x : gate_mapped_gate_Input_api_Errno_a.den) : runF gate_mapped_gate_Input_api_Errno_g (gate_mapped_gate_Input_api_Errno_an n) Tryz.f142 gate_mapped_gate_Input_api_Errno_a gate_mapped_gate_Input_api_Errno_r x = gate_mapped_gate_Input_api_Errno_m n x.1 x.2.1 := by kernel_rfl

noncomputable def gate_mapped_gate_Input_api_Errno_b0 (of1_0 : (List UInt8 × Int × Unit) × Unit → Option (Int × Unit)) (t8_0 : List (List UInt8 × Int × Unit)) (t10_0 : Int) (v1 : List UInt8 × Int × Unit) (c0_0 : List Int) : Option ((List Int × Unit) ⊕ (List Int)) :=
  (Option.bind (of1_0 ((v1.fst, v1.snd.fst, ()), ())) fun (v2 : Int × Unit) => (bif Decidable.decide (c0_0.length + (1 : Nat) ≤ Go.Vx.memMax) then (some (Sum.inr (c0_0 ++ [v2.fst]))) else none))

noncomputable def gate_mapped_gate_Input_api_Errno_f0 (of1_0 : (List UInt8 × Int × Unit) × Unit → Option (Int × Unit)) (t8_0 : List (List UInt8 × Int × Unit)) (c0_0 : List Int) : Option (List Int × Unit) :=
  (some ((c0_0, ())))

theorem gate_mapped_gate_Input_api_Errno_m_w0_le (n : Nat) (hn : big ≤ n)  (of1_0 : (List UInt8 × Int × Unit) × Unit → Option (Int × Unit)) (t8_0 : List (List UInt8 × Int × Unit)) (c0_0 : List Int) (hx : List.length (t8_0) < lenMax) : LeF some (loopL (fun i__ e__ s__ => gate_mapped_gate_Input_api_Errno_b0 of1_0 t8_0 i__ e__ s__) (fun s__ => gate_mapped_gate_Input_api_Errno_f0 of1_0 t8_0 s__) 0 (t8_0) c0_0) (gate_mapped_gate_Input_api_Errno_m_w0 n n of1_0 t8_0 (List.length (t8_0) : Int) 0 c0_0) := by
  refine loopL_le (f := some) (W := fun k__ i__ s__ => gate_mapped_gate_Input_api_Errno_m_w0 n k__ of1_0 t8_0 (List.length (t8_0) : Int) i__ s__) (body := (fun i__ e__ s__ => gate_mapped_gate_Input_api_Errno_b0 of1_0 t8_0 i__ e__ s__)) (fin := (fun s__ => gate_mapped_gate_Input_api_Errno_f0 of1_0 t8_0 s__)) (fun k__ i__ s__ => ?_) hx c0_0 n (by unfold big at hn; unfold lenMax at hx; omega)
  show LeF _ _ (gate_mapped_gate_Input_api_Errno_m_l0 n (gate_mapped_gate_Input_api_Errno_m_w0 n k__) of1_0 t8_0 (List.length (t8_0) : Int) i__ s__)
  exact leCond (leBind fun v1 => (leBind fun v2 => (leCond (leSome rfl) leNone))) (leMap (leSome rfl))

noncomputable def gate_mapped_gate_Input_api_Errno_M (l : List (List UInt8 × Int × Unit)) (of : (List UInt8 × Int × Unit) × Unit → Option (Int × Unit)) : Option (List Int × Unit) :=
  (bif decide (List.length (l) < lenMax) then loopL (fun i__ e__ s__ => gate_mapped_gate_Input_api_Errno_b0 (of) (l) i__ e__ s__) (fun s__ => gate_mapped_gate_Input_api_Errno_f0 (of) (l) s__) 0 (l) ([]) else none)

theorem gate_mapped_gate_Input_api_Errno_run (l : List (List UInt8 × Int × Unit)) (of : (List UInt8 × Int × Unit) × Unit → Option (Int × Unit)) (y : List Int × Unit) (h : gate_mapped_gate_Input_api_Errno_M l of = some y) : ∃ n, gate_mapped_gate_Input_api_Errno_m n l of = some y :=
  ⟨big, LeF.top (show LeF some (gate_mapped_gate_Input_api_Errno_M l of) (gate_mapped_gate_Input_api_Errno_m big l of) from (fun (n : Nat) (hn : big ≤ n) => show LeF some (gate_mapped_gate_Input_api_Errno_M l of) (gate_mapped_gate_Input_api_Errno_m n l of) from (leGuard fun hx => by apply gate_mapped_gate_Input_api_Errno_m_w0_le n hn; exact hx)) big (Nat.le_refl _)) h⟩
noncomputable def gate_mapped_gate_Input_api_Errno_e : Entry := { f := 142, args := gate_mapped_gate_Input_api_Errno_a, ress := gate_mapped_gate_Input_api_Errno_r, m := fun x => gate_mapped_gate_Input_api_Errno_M x.1 x.2.1 }
theorem gate_mapped_gate_Input_api_Errno_ok : FnOK Tryz.prog gate_mapped_gate_Input_api_Errno_e := fn_ok (g := gate_mapped_gate_Input_api_Errno_g) (fn := Tryz.f142) hmixed tabOk eNil (by kernel_rfl) (by kernel_rfl) (by kernel_rfl) (fun x y h => let ⟨n, hn⟩ := gate_mapped_gate_Input_api_Errno_run x.1 x.2.1 y h; ⟨gate_mapped_gate_Input_api_Errno_an n, iNil, (gate_mapped_gate_Input_api_Errno_eq n x).trans hn⟩)

/-! ### (gate.Chart).reachable$1 -/
abbrev gate_Chart_reachable_1_a : Ty := .pair t197 .unit
abbrev gate_Chart_reachable_1_r : Ty := .pair t3 .unit
noncomputable def gate_Chart_reachable_1_g : G := { T := T, E := [], muts := [], fz := [] }
def gate_Chart_reachable_1_k : List (List Nat) := []
noncomputable def gate_Chart_reachable_1_an (n : Nat) : Ann := { keep := gate_Chart_reachable_1_k, fuel := n, inl := [], deep := 0 }
noncomputable def gate_Chart_reachable_1_m (n : Nat) (p : Pth) : Option (Int × Unit) :=
  Option.some (p.fst, ())

theorem gate_Chart_reachable_1_eq (n : Nat) (x : gate_Chart_reachable_1_a.den) : runF gate_Chart_reachable_1_g (gate_Chart_reachable_1_an n) Tryz.f146 gate_Chart_reachable_1_a gate_Chart_reachable_1_r x = gate_Chart_reachable_1_m n x.1 := by kernel_rfl

noncomputable def gate_Chart_reachable_1 (p : Pth) : (Int × Unit) :=
  (p.fst, ())

noncomputable abbrev gate_Chart_reachable_1_M (p : Pth) : Option (Int × Unit) := some (gate_Chart_reachable_1 p)

theorem gate_Chart_reachable_1_run (p : Pth) (y : Int × Unit) (h : gate_Chart_reachable_1_M p = some y) : ∃ n, gate_Chart_reachable_1_m n p = some y :=
  ⟨0, by rw [← h]; show gate_Chart_reachable_1_m 0 p = some (gate_Chart_reachable_1 p); unfold gate_Chart_reachable_1_m gate_Chart_reachable_1; first | rfl | (simp only [cond_some]; done) | (simp only [cond_some]; rfl)⟩
noncomputable def gate_Chart_reachable_1_e : Entry := { f := 146, args := gate_Chart_reachable_1_a, ress := gate_Chart_reachable_1_r, m := fun x => gate_Chart_reachable_1_M x.1 }
theorem gate_Chart_reachable_1_ok : FnOK Tryz.prog gate_Chart_reachable_1_e := fn_ok (g := gate_Chart_reachable_1_g) (fn := Tryz.f146) hmixed tabOk eNil (by kernel_rfl) (by kernel_rfl) (by kernel_rfl) (fun x y h => let ⟨n, hn⟩ := gate_Chart_reachable_1_run x.1 y h; ⟨gate_Chart_reachable_1_an n, iNil, (gate_Chart_reachable_1_eq n x).trans hn⟩)

/-! ### (gate.Chart).checkList$1 -/
abbrev gate_Chart_checkList_1_a : Ty := .pair t3 (.pair (.ref t35) .unit)
abbrev gate_Chart_checkList_1_r : Ty := .pair t4 .unit
noncomputable def gate_Chart_checkList_1_g : G := { T := T, E := [], muts := [], fz := [] }
def gate_Chart_checkList_1_k : List (List Nat) := []
noncomputable def gate_Chart_checkList_1_an (n : Nat) : Ann := { keep := gate_Chart_checkList_1_k, fuel := n, inl := [], deep := 0 }
noncomputable def gate_Chart_checkList_1_m (n : Nat) (s : Int) (p1 : Cha) : Option (Bool × Unit) :=
  (bif Decidable.decide (s < (0 : Int)) then Option.some (Bool.true, ()) else Option.some (Decidable.decide (s ≥ (↑p1.fst.length : Int)), ()))

theorem gate_Chart_checkList_1_eq (n : Nat) (x : gate_Chart_checkList_1_a.den) : runF gate_Chart_checkList_1_g (gate_Chart_checkList_1_an n) Tryz.f148 gate_Chart_checkList_1_a gate_Chart_checkList_1_r x = gate_Chart_checkList_1_m n x.1 x.2.1 := by kernel_rfl

noncomputable def gate_Chart_checkList_1 (s : Int) (p1 : Cha) : (Bool × Unit) :=
  (bif Decidable.decide (s < (0 : Int)) then (Bool.true, ()) else (Decidable.decide (s ≥ (↑p1.fst.length : Int)), ()))

noncomputable abbrev gate_Chart_checkList_1_M (s : Int) (p1 : Cha) : Option (Bool × Unit) := some (gate_Chart_checkList_1 s p1)

theorem gate_Chart_checkList_1_run (s : Int) (p1 : Cha) (y : Bool × Unit) (h : gate_Chart_checkList_1_M s p1 = some y) : ∃ n, gate_Chart_checkList_1_m n s p1 = some y :=
  ⟨0, by rw [← h]; show gate_Chart_checkList_1_m 0 s p1 = some (gate_Chart_checkList_1 s p1); unfold gate_Chart_checkList_1_m gate_Chart_checkList_1; first | rfl | (simp only [cond_some]; done) | (simp only [cond_some]; rfl)⟩
noncomputable def gate_Chart_checkList_1_e : Entry := { f := 148, args := gate_Chart_checkList_1_a, ress := gate_Chart_checkList_1_r, m := fun x => gate_Chart_checkList_1_M x.1 x.2.1 }
theorem gate_Chart_checkList_1_ok : FnOK Tryz.prog gate_Chart_checkList_1_e := fn_ok (g := gate_Chart_checkList_1_g) (fn := Tryz.f148) hmixed tabOk eNil (by kernel_rfl) (by kernel_rfl) (by kernel_rfl) (fun x y h => let ⟨n, hn⟩ := gate_Chart_checkList_1_run x.1 x.2.1 y h; ⟨gate_Chart_checkList_1_an n, iNil, (gate_Chart_checkList_1_eq n x).trans hn⟩)

/-! ### slices.Index[[]int,int] -/
abbrev slices_Index_int_int_a : Ty := .pair t28 (.pair t3 .unit)
abbrev slices_Index_int_int_r : Ty := .pair t3 .unit
noncomputable def slices_Index_int_int_g : G := { T := T, E := [], muts := [], fz := [] }
def slices_Index_int_int_k : List (List Nat) := [[0, 1, 7, 8]]
noncomputable def slices_Index_int_int_an (n : Nat) : Ann := { keep := slices_Index_int_int_k, fuel := n, inl := [], deep := 0 }
noncomputable def slices_Index_int_int_m_l0 (n : Nat) (r0 : List Int → Int → Int → Int → Option (Int × Unit)) (s0_0 : List Int) (v1_0 : Int) (t7_0 : Int) (t8_0 : Int) : Option (Int × Unit) :=
  (bif Decidable.decide (t8_0 < t7_0) then (Option.bind (Go.Vx.idx s0_0 t8_0) fun (v1 : Int) => (bif v1_0 == v1 then Option.some (t8_0, ()) else r0 s0_0 v1_0 t7_0 (Go.IntKind.i64.wrap (t8_0 + (1 : Int))))) else Option.some ((-1 : Int), ()))

noncomputable def slices_Index_int_int_m_w0 (n : Nat)  (k : Nat) (s0_0 : List Int) (v1_0 : Int) (t7_0 : Int) (t8_0 : Int) : Option (Int × Unit) :=
  iter (fun r y => slices_Index_int_int_m_l0 n (fun s0_0 v1_0 t7_0 t8_0 => r ((s0_0, (v1_0, (t7_0, (t8_0, ())))), ((), ()))) y.1.1 y.1.2.1 y.1.2.2.1 y.1.2.2.2.1) k ((s0_0, (v1_0, (t7_0, (t8_0, ())))), ((), ()))

noncomputable def slices_Index_int_int_m (n : Nat) (s : List Int) (v : Int) : Option (Int × Unit) :=
  (slices_Index_int_int_m_w0 n n (s) (v) ((↑s.length : Int)) ((0 : Int)))

theorem slices_Index_int_int_eq (n : Nat) (x : slices_Index_int_int_a.den) : runF slices_Index_int_int_g (slices_Index_int_int_an n) Tryz.f152 slices_Index_int_int_a slices_Index_int_int_r x = slices_Index_int_int_m n x.1 x.2.1 := by kernel_rfl

noncomputable def slices_Index_int_int_b0 (s0_0 : List Int) (v1_0 : Int) (t8_0 : Int) (v1 : Int) : Option ((Int × Unit) ⊕ Unit) :=
  (bif v1_0 == v1 then (some (Sum.inl ((t8_0, ())))) else (some (Sum.inr ())))

noncomputable def slices_Index_int_int_f0 (s0_0 : List Int) (v1_0 : Int) : Option (Int × Unit) :=
  (some (((-1 : Int), ())))

theorem slices_Index_int_int_m_w0_le (n : Nat) (hn : big ≤ n)  (s0_0 : List Int) (v1_0 : Int) (hx : List.length (s0_0) < lenMax) : LeF some (loopL (fun i__ e__ s__ => slices_Index_int_int_b0 s0_0 v1_0 i__ e__) (fun s__ => slices_Index_int_int_f0 s0_0 v1_0) 0 (s0_0) ()) (slices_Index_int_int_m_w0 n n s0_0 v1_0 (List.length (s0_0) : Int) 0) := by
  refine loopL_le (f := some) (W := fun k__ i__ s__ => slices_Index_int_int_m_w0 n k__ s0_0 v1_0 (List.length (s0_0) : Int) i__) (body := (fun i__ e__ s__ => slices_Index_int_int_b0 s0_0 v1_0 i__ e__)) (fin := (fun s__ => slices_Index_int_int_f0 s0_0 v1_0)) (fun k__ i__ s__ => ?_) hx () n (by unfold big at hn; unfold lenMax at hx; omega)
  show LeF _ _ (slices_Index_int_int_m_l0 n (slices_Index_int_int_m_w0 n k__) s0_0 v1_0 (List.length (s0_0) : Int) i__)
  exact leCond (leBind fun v1 => (leCond (leSome rfl) (leSome rfl))) (leMap (leSome rfl))

noncomputable def slices_Index_int_int_M (s : List Int) (v : Int) : Option (Int × Unit) :=
  (bif decide (List.length (s) < lenMax) then loopL (fun i__ e__ s__ => slices_Index_int_int_b0 (s) (v) i__ e__) (fun s__ => slices_Index_int_int_f0 (s) (v)) 0 (s) () else none)

theorem slices_Index_int_int_run (s : List Int) (v : Int) (y : Int × Unit) (h : slices_Index_int_int_M s v = some y) : ∃ n, slices_Index_int_int_m n s v = some y :=
  ⟨big, LeF.top (show LeF some (slices_Index_int_int_M s v) (slices_Index_int_int_m big s v) from (fun (n : Nat) (hn : big ≤ n) => show LeF some (slices_Index_int_int_M s v) (slices_Index_int_int_m n s v) from (leGuard fun hx => by apply slices_Index_int_int_m_w0_le n hn; exact hx)) big (Nat.le_refl _)) h⟩
noncomputable def slices_Index_int_int_e : Entry := { f := 152, args := slices_Index_int_int_a, ress := slices_Index_int_int_r, m := fun x => slices_Index_int_int_M x.1 x.2.1 }
theorem slices_Index_int_int_ok : FnOK Tryz.prog slices_Index_int_int_e := fn_ok (g := slices_Index_int_int_g) (fn := Tryz.f152) hmixed tabOk eNil (by kernel_rfl) (by kernel_rfl) (by kernel_rfl) (fun x y h => let ⟨n, hn⟩ := slices_Index_int_int_run x.1 x.2.1 y h; ⟨slices_Index_int_int_an n, iNil, (slices_Index_int_int_eq n x).trans hn⟩)

/-! ### slices.Index[[]string,string] -/
abbrev slices_Index_string_string_a : Ty := .pair t37 (.pair t9 .unit)
abbrev slices_Index_string_string_r : Ty := .pair t3 .unit
noncomputable def slices_Index_string_string_g : G := { T := T, E := [], muts := [], fz := [] }
def slices_Index_string_string_k : List (List Nat) := [[0, 1, 7, 8]]
noncomputable def slices_Index_string_string_an (n : Nat) : Ann := { keep := slices_Index_string_string_k, fuel := n, inl := [], deep := 0 }
noncomputable def slices_Index_string_string_m_l0 (n : Nat) (r0 : List (List UInt8) → List UInt8 → Int → Int → Option (Int × Unit)) (s0_0 : List (List UInt8)) (v1_0 : List UInt8) (t7_0 : Int) (t8_0 : Int) : Option (Int × Unit) :=
  (bif Decidable.decide (t8_0 < t7_0) then (Option.bind (Go.Vx.idx s0_0 t8_0) fun (v1 : List UInt8) => (bif v1_0 == v1 then Option.some (t8_0, ()) else r0 s0_0 v1_0 t7_0 (Go.IntKind.i64.wrap (t8_0 + (1 : Int))))) else Option.some ((-1 : Int), ()))

noncomputable def slices_Index_string_string_m_w0 (n : Nat)  (k : Nat) (s0_0 : List (List UInt8)) (v1_0 : List UInt8) (t7_0 : Int) (t8_0 : Int) : Option (Int × Unit) :=
  iter (fun r y => slices_Index_string_string_m_l0 n (fun s0_0 v1_0 t7_0 t8_0 => r ((s0_0, (v1_0, (t7_0, (t8_0, ())))), ((), ()))) y.1.1 y.1.2.1 y.1.2.2.1 y.1.2.2.2.1) k ((s0_0, (v1_0, (t7_0, (t8_0, ())))), ((), ()))

noncomputable def slices_Index_string_string_m (n : Nat) (s : List (List UInt8)) (v : List UInt8) : Option (Int × Unit) :=
  (slices_Index_string_string_m_w0 n n (s) (v) ((↑s.length : Int)) ((0 : Int)))

theorem slices_Index_string_string_eq (n : Nat) (x : slices_Index_string_string_a.den) : runF slices_Index_string_string_g (slices_Index_string_string_an n) Tryz.f154 slices_Index_string_string_a slices_Index_string_string_r x = slices_Index_string_string_m n x.1 x.2.1 := by kernel_rfl

noncomputable def slices_Index_string_string_b0 (s0_0 : List (List UInt8)) (v1_0 : List UInt8) (t8_0 : Int) (v1 : List UInt8) : Option ((Int × Unit) ⊕ Unit) :=
  (bif v1_0 == v1 then (some (Sum.inl ((t8_0, ())))) else (some (Sum.inr ())))

noncomputable def slices_Index_string_string_f0 (s0_0 : List (List UInt8)) (v1_0 : List UInt8) : Option (Int × Unit) :=
  (some (((-1 : Int), ())))

theorem slices_Index_string_string_m_w0_le (n : Nat) (hn : big ≤ n)  (s0_0 : List (List UInt8)) (v1_0 : List UInt8) (hx : List.length (s0_0) < lenMax) : LeF some (loopL (fun i__ e__ s__ => slices_Index_string_string_b0 s0_0 v1_0 i__ e__) (fun s__ => slices_Index_string_string_f0 s0_0 v1_0) 0 (s0_0) ()) (slices_Index_string_string_m_w0 n n s0_0 v1_0 (List.length (s0_0) : Int) 0) := by
  refine loopL_le (f := some) (W := fun k__ i__ s__ => slices_Index_string_string_m_w0 n k__ s0_0 v1_0 (List.length (s0_0) : Int) i__) (body := (fun i__ e__ s__ => slices_Index_string_string_b0 s0_0 v1_0 i__ e__)) (fin := (fun s__ => slices_Index_string_string_f0 s0_0 v1_0)) (fun k__ i__ s__ => ?_) hx () n (by unfold big at hn; unfold lenMax at hx; omega)
  show LeF _ _ (slices_Index_string_string_m_l0 n (slices_Index_string_string_m_w0 n k__) s0_0 v1_0 (List.length (s0_0) : Int) i__)
  exact leCond (leBind fun v1 => (leCond (leSome rfl) (leSome rfl))) (leMap (leSome rfl))

noncomputable def slices_Index_string_string_M (s : List (List UInt8)) (v : List UInt8) : Option (Int × Unit) :=
  (bif decide (List.length (s) < lenMax) then loopL (fun i__ e__ s__ => slices_Index_string_string_b0 (s) (v) i__ e__) (fun s__ => slices_Index_string_string_f0 (s) (v)) 0 (s) () else none)

theorem slices_Index_string_string_run (s : List (List UInt8)) (v : List UInt8) (y : Int × Unit) (h : slices_Index_string_string_M s v = some y) : ∃ n, slices_Index_string_string_m n s v = some y :=
  ⟨big, LeF.top (show LeF some (slices_Index_string_string_M s v) (slices_Index_string_string_m big s v) from (fun (n : Nat) (hn : big ≤ n) => show LeF some (slices_Index_string_string_M s v) (slices_Index_string_string_m n s v) from (leGuard fun hx => by apply slices_Index_string_string_m_w0_le n hn; exact hx)) big (Nat.le_refl _)) h⟩
noncomputable def slices_Index_string_string_e : Entry := { f := 154, args := slices_Index_string_string_a, ress := slices_Index_string_string_r, m := fun x => slices_Index_string_string_M x.1 x.2.1 }
theorem slices_Index_string_string_ok : FnOK Tryz.prog slices_Index_string_string_e := fn_ok (g := slices_Index_string_string_g) (fn := Tryz.f154) hmixed tabOk eNil (by kernel_rfl) (by kernel_rfl) (by kernel_rfl) (fun x y h => let ⟨n, hn⟩ := slices_Index_string_string_run x.1 x.2.1 y h; ⟨slices_Index_string_string_an n, iNil, (slices_Index_string_string_eq n x).trans hn⟩)

/-! ### gauge.IsName -/
abbrev gauge_IsName_a : Ty := .pair t9 .unit
abbrev gauge_IsName_r : Ty := .pair t4 .unit
noncomputable def gauge_IsName_g : G := { T := T, E := [], muts := [], fz := [] }
def gauge_IsName_k : List (List Nat) := [[0, 8]]
noncomputable def gauge_IsName_an (n : Nat) : Ann := { keep := gauge_IsName_k, fuel := n, inl := [], deep := 0 }
noncomputable def gauge_IsName_m_j14 (n : Nat) (r0 : List UInt8 → List UInt8 → Int → Option (Bool × Unit)) (s0_0 : List UInt8) (str0__0 : List UInt8) (pos0__0 : Int) (j2 : Bool) (j7 : Bool) : Option (Bool × Unit) :=
  (bif !j2 then (bif pos0__0 == (0 : Int) then Option.some (Bool.false, ()) else (bif !j7 then Option.some (Bool.false, ()) else r0 s0_0 str0__0 (Go.Vx.runeAt str0__0 pos0__0).snd)) else r0 s0_0 str0__0 (Go.Vx.runeAt str0__0 pos0__0).snd)

noncomputable def gauge_IsName_m_j15 (n : Nat) (r0 : List UInt8 → List UInt8 → Int → Option (Bool × Unit)) (s0_0 : List UInt8) (str0__0 : List UInt8) (pos0__0 : Int) (j2 : Bool) : Option (Bool × Unit) :=
  (bif Decidable.decide ((Go.Vx.runeAt str0__0 pos0__0).fst ≥ (48 : Int)) then (bif Decidable.decide ((Go.Vx.runeAt str0__0 pos0__0).fst ≤ (57 : Int)) then (gauge_IsName_m_j14 n r0 s0_0 str0__0 pos0__0 j2 (Bool.true)) else (gauge_IsName_m_j14 n r0 s0_0 str0__0 pos0__0 j2 ((Go.Vx.runeAt str0__0 pos0__0).fst == (95 : Int)))) else (gauge_IsName_m_j14 n r0 s0_0 str0__0 pos0__0 j2 ((Go.Vx.runeAt str0__0 pos0__0).fst == (95 : Int))))

noncomputable def gauge_IsName_m_l0 (n : Nat) (r0 : List UInt8 → List UInt8 → Int → Option (Bool × Unit)) (s0_0 : List UInt8) (str0__0 : List UInt8) (pos0__0 : Int) : Option (Bool × Unit) :=
  (bif Decidable.decide (pos0__0 < (↑str0__0.length : Int)) then (bif Decidable.decide ((Go.Vx.runeAt str0__0 pos0__0).fst ≥ (65 : Int)) then (bif Decidable.decide ((Go.Vx.runeAt str0__0 pos0__0).fst ≤ (90 : Int)) then (gauge_IsName_m_j15 n r0 s0_0 str0__0 pos0__0 (Bool.true)) else (bif Decidable.decide ((Go.Vx.runeAt str0__0 pos0__0).fst ≥ (97 : Int)) then (gauge_IsName_m_j15 n r0 s0_0 str0__0 pos0__0 (Decidable.decide ((Go.Vx.runeAt str0__0 pos0__0).fst ≤ (122 : Int)))) else (gauge_IsName_m_j15 n r0 s0_0 str0__0 pos0__0 (Bool.false)))) else (bif Decidable.decide ((Go.Vx.runeAt str0__0 pos0__0).fst ≥ (97 : Int)) then (gauge_IsName_m_j15 n r0 s0_0 str0__0 pos0__0 (Decidable.decide ((Go.Vx.runeAt str0__0 pos0__0).fst ≤ (122 : Int)))) else (gauge_IsName_m_j15 n r0 s0_0 str0__0 pos0__0 (Bool.false)))) else (bif !s0_0 == [] then Option.some (Decidable.decide ((↑s0_0.length : Int) ≤ (24 : Int)), ()) else Option.some (Bool.false, ())))

noncomputable def gauge_IsName_m_w0 (n : Nat)  (k : Nat) (s0_0 : List UInt8) (str0__0 : List UInt8) (pos0__0 : Int) : Option (Bool × Unit) :=
  iter (fun r y => gauge_IsName_m_l0 n (fun s0_0 str0__0 pos0__0 => r ((s0_0, ()), (((str0__0, pos0__0), ()), ()))) y.1.1 y.2.1.1.1 y.2.1.1.2) k ((s0_0, ()), (((str0__0, pos0__0), ()), ()))

noncomputable def gauge_IsName_m (n : Nat) (s : List UInt8) : Option (Bool × Unit) :=
  (gauge_IsName_m_w0 n n (s) (s) ((0 : Int)))

theorem gauge_IsName_eq (n : Nat) (x : gauge_IsName_a.den) : runF gauge_IsName_g (gauge_IsName_an n) Tryz.f155 gauge_IsName_a gauge_IsName_r x = gauge_IsName_m n x.1 := by kernel_rfl

noncomputable def gauge_IsName_s14 (s0_0 : List UInt8) (str0__0 : List UInt8) (pos0__0 : Int) (j2 : Bool) (j7 : Bool) : Option ((Bool × Unit) ⊕ Unit) :=
  (bif !j2 then (bif pos0__0 == (0 : Int) then (some (Sum.inl ((Bool.false, ())))) else (bif !j7 then (some (Sum.inl ((Bool.false, ())))) else (some (Sum.inr ())))) else (some (Sum.inr ())))

theorem gauge_IsName_s14_le (n : Nat) (hn : big ≤ n)  (r0 : List UInt8 → List UInt8 → Int → Option (Bool × Unit)) (s0_0 : List UInt8) (str0__0 : List UInt8) (pos0__0 : Int) (j2 : Bool) (j7 : Bool) : LeF (elim some fun (s__ : Unit) => r0 s0_0 str0__0 (Go.Vx.runeAt (str0__0) pos0__0).2) (gauge_IsName_s14 s0_0 str0__0 pos0__0 j2 j7) (gauge_IsName_m_j14 n r0 s0_0 str0__0 pos0__0 j2 j7) :=
  (leCond (leCond (leSome rfl) (leCond (leSome rfl) (leSome rfl))) (leSome rfl))

noncomputable def gauge_IsName_s15 (s0_0 : List UInt8) (str0__0 : List UInt8) (pos0__0 : Int) (j2 : Bool) : Option ((Bool × Unit) ⊕ Unit) :=
  (bif Decidable.decide ((Go.Vx.runeAt str0__0 pos0__0).fst ≥ (48 : Int)) then (bif Decidable.decide ((Go.Vx.runeAt str0__0 pos0__0).fst ≤ (57 : Int)) then (gauge_IsName_s14 s0_0 str0__0 pos0__0 j2 (Bool.true)) else (gauge_IsName_s14 s0_0 str0__0 pos0__0 j2 ((Go.Vx.runeAt str0__0 pos0__0).fst == (95 : Int)))) else (gauge_IsName_s14 s0_0 str0__0 pos0__0 j2 ((Go.Vx.runeAt str0__0 pos0__0).fst == (95 : Int))))

theorem gauge_IsName_s15_le (n : Nat) (hn : big ≤ n)  (r0 : List UInt8 → List UInt8 → Int → Option (Bool × Unit)) (s0_0 : List UInt8) (str0__0 : List UInt8) (pos0__0 : Int) (j2 : Bool) : LeF (elim some fun (s__ : Unit) => r0 s0_0 str0__0 (Go.Vx.runeAt (str0__0) pos0__0).2) (gauge_IsName_s15 s0_0 str0__0 pos0__0 j2) (gauge_IsName_m_j15 n r0 s0_0 str0__0 pos0__0 j2) :=
  (leCond (leCond (by apply gauge_IsName_s14_le n hn) (by apply gauge_IsName_s14_le n hn)) (by apply gauge_IsName_s14_le n hn))

noncomputable def gauge_IsName_b0 (s0_0 : List UInt8) (str0__0 : List UInt8) (pos0__0 : Int) : Option ((Bool × Unit) ⊕ Unit) :=
  (bif Decidable.decide ((Go.Vx.runeAt str0__0 pos0__0).fst ≥ (65 : Int)) then (bif Decidable.decide ((Go.Vx.runeAt str0__0 pos0__0).fst ≤ (90 : Int)) then (gauge_IsName_s15 s0_0 str0__0 pos0__0 (Bool.true)) else (bif Decidable.decide ((Go.Vx.runeAt str0__0 pos0__0).fst ≥ (97 : Int)) then (gauge_IsName_s15 s0_0 str0__0 pos0__0 (Decidable.decide ((Go.Vx.runeAt str0__0 pos0__0).fst ≤ (122 : Int)))) else (gauge_IsName_s15 s0_0 str0__0 pos0__0 (Bool.false)))) else (bif Decidable.decide ((Go.Vx.runeAt str0__0 pos0__0).fst ≥ (97 : Int)) then (gauge_IsName_s15 s0_0 str0__0 pos0__0 (Decidable.decide ((Go.Vx.runeAt str0__0 pos0__0).fst ≤ (122 : Int)))) else (gauge_IsName_s15 s0_0 str0__0 pos0__0 (Bool.false))))

noncomputable def gauge_IsName_f0 (s0_0 : List UInt8) (str0__0 : List UInt8) : Option (Bool × Unit) :=
  (bif !s0_0 == [] then (some ((Decidable.decide ((↑s0_0.length : Int) ≤ (24 : Int)), ()))) else (some ((Bool.false, ()))))

theorem gauge_IsName_m_w0_le (n : Nat) (hn : big ≤ n)  (s0_0 : List UInt8) (str0__0 : List UInt8) (hx : List.length (str0__0) < lenMax) : LeF some (loopS (str0__0) (fun i__ s__ => gauge_IsName_b0 s0_0 str0__0 i__) (fun s__ => gauge_IsName_f0 s0_0 str0__0) (List.length (str0__0)) 0 ()) (gauge_IsName_m_w0 n n s0_0 str0__0 0) := by
  refine loopS_le (f := some) (W := fun k__ i__ s__ => gauge_IsName_m_w0 n k__ s0_0 str0__0 i__) (body := (fun i__ s__ => gauge_IsName_b0 s0_0 str0__0 i__)) (fin := (fun s__ => gauge_IsName_f0 s0_0 str0__0)) (fun k__ i__ s__ => ?_) () n (by unfold big at hn; unfold lenMax at hx; omega)
  show LeF _ _ (gauge_IsName_m_l0 n (gauge_IsName_m_w0 n k__) s0_0 str0__0 i__)
  exact leCond (leCond (leCond (by apply gauge_IsName_s15_le n hn) (leCond (by apply gauge_IsName_s15_le n hn) (by apply gauge_IsName_s15_le n hn))) (leCond (by apply gauge_IsName_s15_le n hn) (by apply gauge_IsName_s15_le n hn))) (leMap (leCond (leSome rfl) (leSome rfl)))

noncomputable def gauge_IsName_M (s : List UInt8) : Option (Bool × Unit) :=
  (bif decide (List.length (s) < lenMax) then loopS (s) (fun i__ s__ => gauge_IsName_b0 (s) (s) i__) (fun s__ => gauge_IsName_f0 (s) (s)) (List.length (s)) 0 () else none)

theorem gauge_IsName_run (s : List UInt8) (y : Bool × Unit) (h : gauge_IsName_M s = some y) : ∃ n, gauge_IsName_m n s = some y :=
  ⟨big, LeF.top (show LeF some (gauge_IsName_M s) (gauge_IsName_m big s) from (fun (n : Nat) (hn : big ≤ n) => show LeF some (gauge_IsName_M s) (gauge_IsName_m n s) from (leGuard fun hx => by apply gauge_IsName_m_w0_le n hn; exact hx)) big (Nat.le_refl _)) h⟩
noncomputable def gauge_IsName_e : Entry := { f := 155, args := gauge_IsName_a, ress := gauge_IsName_r, m := fun x => gauge_IsName_M x.1 }
theorem gauge_IsName_ok : FnOK Tryz.prog gauge_IsName_e := fn_ok (g := gauge_IsName_g) (fn := Tryz.f155) hmixed tabOk eNil (by kernel_rfl) (by kernel_rfl) (by kernel_rfl) (fun x y h => let ⟨n, hn⟩ := gauge_IsName_run x.1 y h; ⟨gauge_IsName_an n, iNil, (gauge_IsName_eq n x).trans hn⟩)

/-! ### slices.IndexFunc[[]int,int] -/
abbrev slices_IndexFunc_int_int_a : Ty := .pair t28 (.pair t181 .unit)
abbrev slices_IndexFunc_int_int_r : Ty := .pair t3 .unit
noncomputable def slices_IndexFunc_int_int_g : G := { T := T, E := [], muts := [], fz := [] }
def slices_IndexFunc_int_int_k : List (List Nat) := [[0, 1, 7, 8]]
noncomputable def slices_IndexFunc_int_int_an (n : Nat) : Ann := { keep := slices_IndexFunc_int_int_k, fuel := n, inl := [], deep := 0 }
noncomputable def slices_IndexFunc_int_int_m_l0 (n : Nat) (r0 : List Int → (Int × Unit → Option (Bool × Unit)) → Int → Int → Option (Int × Unit)) (s0_0 : List Int) (f1_0 : Int × Unit → Option (Bool × Unit)) (t7_0 : Int) (t8_0 : Int) : Option (Int × Unit) :=
  (bif Decidable.decide (t8_0 < t7_0) then (Option.bind (Go.Vx.idx s0_0 t8_0) fun (v1 : Int) => (Option.bind (f1_0 (v1, ())) fun (v2 : Bool × Unit) => (bif v2.fst then Option.some (t8_0, ()) else r0 s0_0 f1_0 t7_0 (Go.IntKind.i64.wrap (t8_0 + (1 : Int)))))) else Option.some ((-1 : Int), ()))

noncomputable def slices_IndexFunc_int_int_m_w0 (n : Nat)  (k : Nat) (s0_0 : List Int) (f1_0 : Int × Unit → Option (Bool × Unit)) (t7_0 : Int) (t8_0 : Int) : Option (Int × Unit) :=
  iter (fun r y => slices_IndexFunc_int_int_m_l0 n (fun s0_0 f1_0 t7_0 t8_0 => r ((s0_0, (f1_0, (t7_0, (t8_0, ())))), ((), ()))) y.1.1 y.1.2.1 y.1.2.2.1 y.1.2.2.2.1) k ((s0_0, (f1_0, (t7_0, (t8_0, ())))), ((), ()))

noncomputable def slices_IndexFunc_int_int_m (n : Nat) (s : List Int) (f : Int × Unit → Option (Bool × Unit)) : Option (Int × Unit) :=
  (slices_IndexFunc_int_int_m_w0 n n (s) (f) ((↑s.length : Int)) ((0 : Int)))

theorem slices_IndexFunc_int_int_eq (n : Nat) (x : slices_IndexFunc_int_int_a.den) : runF slices_IndexFunc_int_int_g (slices_IndexFunc_int_int_an n) Tryz.f160 slices_IndexFunc_int_int_a slices_IndexFunc_int_int_r x = slices_IndexFunc_int_int_m n x.1 x.2.1 := by kernel_rfl

noncomputable def slices_IndexFunc_int_int_b0 (s0_0 : List Int) (f1_0 : Int × Unit → Option (Bool × Unit)) (t8_0 : Int) (v1 : Int) : Option ((Int × Unit) ⊕ Unit) :=
  (Option.bind (f1_0 (v1, ())) fun (v2 : Bool × Unit) => (bif v2.fst then (some (Sum.inl ((t8_0, ())))) else (some (Sum.inr ()))))

noncomputable def slices_IndexFunc_int_int_f0 (s0_0 : List Int) (f1_0 : Int × Unit → Option (Bool × Unit)) : Option (Int × Unit) :=
  (some (((-1 : Int), ())))

theorem slices_IndexFunc_int_int_m_w0_le (n : Nat) (hn : big ≤ n)  (s0_0 : List Int) (f1_0 : Int × Unit → Option (Bool × Unit)) (hx : List.length (s0_0) < lenMax) : LeF some (loopL (fun i__ e__ s__ => slices_IndexFunc_int_int_b0 s0_0 f1_0 i__ e__) (fun s__ => slices_IndexFunc_int_int_f0 s0_0 f1_0) 0 (s0_0) ()) (slices_IndexFunc_int_int_m_w0 n n s0_0 f1_0 (List.length (s0_0) : Int) 0) := by
  refine loopL_le (f := some) (W := fun k__ i__ s__ => slices_IndexFunc_int_int_m_w0 n k__ s0_0 f1_0 (List.length (s0_0) : Int) i__) (body := (fun i__ e__ s__ => slices_IndexFunc_int_int_b0 s0_0 f1_0 i__ e__)) (fin := (fun s__ => slices_IndexFunc_int_int_f0 s0_0 f1_0)) (fun k__ i__ s__ => ?_) hx () n (by unfold big at hn; unfold lenMax at hx; omega)
  show LeF _ _ (slices_IndexFunc_int_int_m_l0 n (slices_IndexFunc_int_int_m_w0 n k__) s0_0 f1_0 (List.length (s0_0) : Int) i__)
  exact leCond (leBind fun v1 => (leBind fun v2 => (leCond (leSome rfl) (leSome rfl)))) (leMap (leSome rfl))

noncomputable def slices_IndexFunc_int_int_M (s : List Int) (f : Int × Unit → Option (Bool × Unit)) : Option (Int × Unit) :=
  (bif decide (List.length (s) < lenMax) then loopL (fun i__ e__ s__ => slices_IndexFunc_int_int_b0 (s) (f) i__ e__) (fun s__ => slices_IndexFunc_int_int_f0 (s) (f)) 0 (s) () else none)

theorem slices_IndexFunc_int_int_run (s : List Int) (f : Int × Unit → Option (Bool × Unit)) (y : Int × Unit) (h : slices_IndexFunc_int_int_M s f = some y) : ∃ n, slices_IndexFunc_int_int_m n s f = some y :=
  ⟨big, LeF.top (show LeF some (slices_IndexFunc_int_int_M s f) (slices_IndexFunc_int_int_m big s f) from (fun (n : Nat) (hn : big ≤ n) => show LeF some (slices_IndexFunc_int_int_M s f) (slices_IndexFunc_int_int_m n s f) from (leGuard fun hx => by apply slices_IndexFunc_int_int_m_w0_le n hn; exact hx)) big (Nat.le_refl _)) h⟩
noncomputable def slices_IndexFunc_int_int_e : Entry := { f := 160, args := slices_IndexFunc_int_int_a, ress := slices_IndexFunc_int_int_r, m := fun x => slices_IndexFunc_int_int_M x.1 x.2.1 }
theorem slices_IndexFunc_int_int_ok : FnOK Tryz.prog slices_IndexFunc_int_int_e := fn_ok (g := slices_IndexFunc_int_int_g) (fn := Tryz.f160) hmixed tabOk eNil (by kernel_rfl) (by kernel_rfl) (by kernel_rfl) (fun x y h => let ⟨n, hn⟩ := slices_IndexFunc_int_int_run x.1 x.2.1 y h; ⟨slices_IndexFunc_int_int_an n, iNil, (slices_IndexFunc_int_int_eq n x).trans hn⟩)

/-! ### gate.kinds$1 -/
abbrev gate_kinds_1_a : Ty := .pair t131 .unit
abbrev gate_kinds_1_r : Ty := .pair t131 .unit
noncomputable def gate_kinds_1_g : G := { T := T, E := [], muts := [], fz := [] }
def gate_kinds_1_k : List (List Nat) := []
noncomputable def gate_kinds_1_an (n : Nat) : Ann := { keep := gate_kinds_1_k, fuel := n, inl := [], deep := 0 }
noncomputable def gate_kinds_1_m (n : Nat) (f : Fai) : Option (Fai × Unit) :=
  Option.some ((f.fst, (0 : Int), (0 : Int), (0 : Int), ()), ())

theorem gate_kinds_1_eq (n : Nat) (x : gate_kinds_1_a.den) : runF gate_kinds_1_g (gate_kinds_1_an n) Tryz.f162 gate_kinds_1_a gate_kinds_1_r x = gate_kinds_1_m n x.1 := by kernel_rfl

noncomputable def gate_kinds_1 (f : Fai) : (Fai × Unit) :=
  ((f.fst, (0 : Int), (0 : Int), (0 : Int), ()), ())

noncomputable abbrev gate_kinds_1_M (f : Fai) : Option (Fai × Unit) := some (gate_kinds_1 f)

theorem gate_kinds_1_run (f : Fai) (y : Fai × Unit) (h : gate_kinds_1_M f = some y) : ∃ n, gate_kinds_1_m n f = some y :=
  ⟨0, by rw [← h]; show gate_kinds_1_m 0 f = some (gate_kinds_1 f); unfold gate_kinds_1_m gate_kinds_1; first | rfl | (simp only [cond_some]; done) | (simp only [cond_some]; rfl)⟩
noncomputable def gate_kinds_1_e : Entry := { f := 162, args := gate_kinds_1_a, ress := gate_kinds_1_r, m := fun x => gate_kinds_1_M x.1 }
theorem gate_kinds_1_ok : FnOK Tryz.prog gate_kinds_1_e := fn_ok (g := gate_kinds_1_g) (fn := Tryz.f162) hmixed tabOk eNil (by kernel_rfl) (by kernel_rfl) (by kernel_rfl) (fun x y h => let ⟨n, hn⟩ := gate_kinds_1_run x.1 y h; ⟨gate_kinds_1_an n, iNil, (gate_kinds_1_eq n x).trans hn⟩)

/-! ### gate.kinds$2 -/
abbrev gate_kinds_2_a : Ty := .pair t131 (.pair t3 (.pair t55 .unit))
abbrev gate_kinds_2_r : Ty := .pair t55 (.pair t4 .unit)
noncomputable def gate_kinds_2_g : G := { T := T, E := [], muts := [], fz := [] }
def gate_kinds_2_k : List (List Nat) := []
noncomputable def gate_kinds_2_an (n : Nat) : Ann := { keep := gate_kinds_2_k, fuel := n, inl := [], deep := 0 }
noncomputable def gate_kinds_2_m (n : Nat) (p0 : Fai) (p1 : Int) (p2 : List UInt8 × Int × Unit) : Option ((List UInt8 × Int × Unit) × Bool × Unit) :=
  Option.some ((p2.fst, p2.snd.fst, ()), Bool.true, ())

theorem gate_kinds_2_eq (n : Nat) (x : gate_kinds_2_a.den) : runF gate_kinds_2_g (gate_kinds_2_an n) Tryz.f163 gate_kinds_2_a gate_kinds_2_r x = gate_kinds_2_m n x.1 x.2.1 x.2.2.1 := by kernel_rfl

noncomputable def gate_kinds_2 (p0 : Fai) (p1 : Int) (p2 : List UInt8 × Int × Unit) : ((List UInt8 × Int × Unit) × Bool × Unit) :=
  ((p2.fst, p2.snd.fst, ()), Bool.true, ())

noncomputable abbrev gate_kinds_2_M (p0 : Fai) (p1 : Int) (p2 : List UInt8 × Int × Unit) : Option ((List UInt8 × Int × Unit) × Bool × Unit) := some (gate_kinds_2 p0 p1 p2)

theorem gate_kinds_2_run (p0 : Fai) (p1 : Int) (p2 : List UInt8 × Int × Unit) (y : (List UInt8 × Int × Unit) × Bool × Unit) (h : gate_kinds_2_M p0 p1 p2 = some y) : ∃ n, gate_kinds_2_m n p0 p1 p2 = some y :=
  ⟨0, by rw [← h]; show gate_kinds_2_m 0 p0 p1 p2 = some (gate_kinds_2 p0 p1 p2); unfold gate_kinds_2_m gate_kinds_2; first | rfl | (simp only [cond_some]; done) | (simp only [cond_some]; rfl)⟩
noncomputable def gate_kinds_2_e : Entry := { f := 163, args := gate_kinds_2_a, ress := gate_kinds_2_r, m := fun x => gate_kinds_2_M x.1 x.2.1 x.2.2.1 }
theorem gate_kinds_2_ok : FnOK Tryz.prog gate_kinds_2_e := fn_ok (g := gate_kinds_2_g) (fn := Tryz.f163) hmixed tabOk eNil (by kernel_rfl) (by kernel_rfl) (by kernel_rfl) (fun x y h => let ⟨n, hn⟩ := gate_kinds_2_run x.1 x.2.1 x.2.2.1 y h; ⟨gate_kinds_2_an n, iNil, (gate_kinds_2_eq n x).trans hn⟩)

/-! ### gate.kinds$3 -/
abbrev gate_kinds_3_a : Ty := .pair t131 .unit
abbrev gate_kinds_3_r : Ty := .pair t131 .unit
noncomputable def gate_kinds_3_g : G := { T := T, E := [], muts := [], fz := [] }
def gate_kinds_3_k : List (List Nat) := []
noncomputable def gate_kinds_3_an (n : Nat) : Ann := { keep := gate_kinds_3_k, fuel := n, inl := [], deep := 0 }
noncomputable def gate_kinds_3_m (n : Nat) (f : Fai) : Option (Fai × Unit) :=
  Option.some ((f.fst, f.snd.fst, (0 : Int), (0 : Int), ()), ())

theorem gate_kinds_3_eq (n : Nat) (x : gate_kinds_3_a.den) : runF gate_kinds_3_g (gate_kinds_3_an n) Tryz.f164 gate_kinds_3_a gate_kinds_3_r x = gate_kinds_3_m n x.1 := by kernel_rfl

noncomputable def gate_kinds_3 (f : Fai) : (Fai × Unit) :=
  ((f.fst, f.snd.fst, (0 : Int), (0 : Int), ()), ())

noncomputable abbrev gate_kinds_3_M (f : Fai) : Option (Fai × Unit) := some (gate_kinds_3 f)

theorem gate_kinds_3_run (f : Fai) (y : Fai × Unit) (h : gate_kinds_3_M f = some y) : ∃ n, gate_kinds_3_m n f = some y :=
  ⟨0, by rw [← h]; show gate_kinds_3_m 0 f = some (gate_kinds_3 f); unfold gate_kinds_3_m gate_kinds_3; first | rfl | (simp only [cond_some]; done) | (simp only [cond_some]; rfl)⟩
noncomputable def gate_kinds_3_e : Entry := { f := 164, args := gate_kinds_3_a, ress := gate_kinds_3_r, m := fun x => gate_kinds_3_M x.1 }
theorem gate_kinds_3_ok : FnOK Tryz.prog gate_kinds_3_e := fn_ok (g := gate_kinds_3_g) (fn := Tryz.f164) hmixed tabOk eNil (by kernel_rfl) (by kernel_rfl) (by kernel_rfl) (fun x y h => let ⟨n, hn⟩ := gate_kinds_3_run x.1 y h; ⟨gate_kinds_3_an n, iNil, (gate_kinds_3_eq n x).trans hn⟩)

/-! ### gate.kinds$4 -/
abbrev gate_kinds_4_a : Ty := .pair t131 (.pair t3 (.pair t55 .unit))
abbrev gate_kinds_4_r : Ty := .pair t55 (.pair t4 .unit)
noncomputable def gate_kinds_4_g : G := { T := T, E := [], muts := [], fz := [] }
def gate_kinds_4_k : List (List Nat) := []
noncomputable def gate_kinds_4_an (n : Nat) : Ann := { keep := gate_kinds_4_k, fuel := n, inl := [], deep := 0 }
noncomputable def gate_kinds_4_m (n : Nat) (f : Fai) (p1 : Int) (p2 : List UInt8 × Int × Unit) : Option ((List UInt8 × Int × Unit) × Bool × Unit) :=
  Option.some ((p2.fst, p2.snd.fst, ()), p1 != f.snd.fst, ())

theorem gate_kinds_4_eq (n : Nat) (x : gate_kinds_4_a.den) : runF gate_kinds_4_g (gate_kinds_4_an n) Tryz.f165 gate_kinds_4_a gate_kinds_4_r x = gate_kinds_4_m n x.1 x.2.1 x.2.2.1 := by kernel_rfl

noncomputable def gate_kinds_4 (f : Fai) (p1 : Int) (p2 : List UInt8 × Int × Unit) : ((List UInt8 × Int × Unit) × Bool × Unit) :=
  ((p2.fst, p2.snd.fst, ()), p1 != f.snd.fst, ())

noncomputable abbrev gate_kinds_4_M (f : Fai) (p1 : Int) (p2 : List UInt8 × Int × Unit) : Option ((List UInt8 × Int × Unit) × Bool × Unit) := some (gate_kinds_4 f p1 p2)

theorem gate_kinds_4_run (f : Fai) (p1 : Int) (p2 : List UInt8 × Int × Unit) (y : (List UInt8 × Int × Unit) × Bool × Unit) (h : gate_kinds_4_M f p1 p2 = some y) : ∃ n, gate_kinds_4_m n f p1 p2 = some y :=
  ⟨0, by rw [← h]; show gate_kinds_4_m 0 f p1 p2 = some (gate_kinds_4 f p1 p2); unfold gate_kinds_4_m gate_kinds_4; first | rfl | (simp only [cond_some]; done) | (simp only [cond_some]; rfl)⟩
noncomputable def gate_kinds_4_e : Entry := { f := 165, args := gate_kinds_4_a, ress := gate_kinds_4_r, m := fun x => gate_kinds_4_M x.1 x.2.1 x.2.2.1 }
theorem gate_kinds_4_ok : FnOK Tryz.prog gate_kinds_4_e := fn_ok (g := gate_kinds_4_g) (fn := Tryz.f165) hmixed tabOk eNil (by kernel_rfl) (by kernel_rfl) (by kernel_rfl) (fun x y h => let ⟨n, hn⟩ := gate_kinds_4_run x.1 x.2.1 x.2.2.1 y h; ⟨gate_kinds_4_an n, iNil, (gate_kinds_4_eq n x).trans hn⟩)

/-! ### gate.kinds$5 -/
abbrev gate_kinds_5_a : Ty := .pair t131 .unit
abbrev gate_kinds_5_r : Ty := .pair t131 .unit
noncomputable def gate_kinds_5_g : G := { T := T, E := [], muts := [], fz := [] }
def gate_kinds_5_k : List (List Nat) := []
noncomputable def gate_kinds_5_an (n : Nat) : Ann := { keep := gate_kinds_5_k, fuel := n, inl := [], deep := 0 }
noncomputable def gate_kinds_5_m (n : Nat) (f : Fai) : Option (Fai × Unit) :=
  Option.some ((f.fst, f.snd.fst, f.snd.snd.fst, f.snd.snd.snd.fst, ()), ())

theorem gate_kinds_5_eq (n : Nat) (x : gate_kinds_5_a.den) : runF gate_kinds_5_g (gate_kinds_5_an n) Tryz.f166 gate_kinds_5_a gate_kinds_5_r x = gate_kinds_5_m n x.1 := by kernel_rfl

noncomputable def gate_kinds_5 (f : Fai) : (Fai × Unit) :=
  ((f.fst, f.snd.fst, f.snd.snd.fst, f.snd.snd.snd.fst, ()), ())

noncomputable abbrev gate_kinds_5_M (f : Fai) : Option (Fai × Unit) := some (gate_kinds_5 f)

theorem gate_kinds_5_run (f : Fai) (y : Fai × Unit) (h : gate_kinds_5_M f = some y) : ∃ n, gate_kinds_5_m n f = some y :=
  ⟨0, by rw [← h]; show gate_kinds_5_m 0 f = some (gate_kinds_5 f); unfold gate_kinds_5_m gate_kinds_5; first | rfl | (simp only [cond_some]; done) | (simp only [cond_some]; rfl)⟩
noncomputable def gate_kinds_5_e : Entry := { f := 166, args := gate_kinds_5_a, ress := gate_kinds_5_r, m := fun x => gate_kinds_5_M x.1 }
theorem gate_kinds_5_ok : FnOK Tryz.prog gate_kinds_5_e := fn_ok (g := gate_kinds_5_g) (fn := Tryz.f166) hmixed tabOk eNil (by kernel_rfl) (by kernel_rfl) (by kernel_rfl) (fun x y h => let ⟨n, hn⟩ := gate_kinds_5_run x.1 y h; ⟨gate_kinds_5_an n, iNil, (gate_kinds_5_eq n x).trans hn⟩)

/-! ### (gate.Failure).hold -/
abbrev gate_Failure_hold_a : Ty := .pair t131 (.pair t3 (.pair t55 .unit))
abbrev gate_Failure_hold_r : Ty := .pair t55 (.pair t4 .unit)
noncomputable def gate_Failure_hold_g : G := { T := T, E := [], muts := [5], fz := [] }
def gate_Failure_hold_k : List (List Nat) := []
noncomputable def gate_Failure_hold_an (n : Nat) : Ann := { keep := gate_Failure_hold_k, fuel := n, inl := [], deep := 0 }
noncomputable def gate_Failure_hold_m (n : Nat) (f : Fai) (p1 : Int) (p2 : List UInt8 × Int × Unit) : Option ((List UInt8 × Int × Unit) × Bool × Unit) :=
  (bif Decidable.decide (p1 ≥ f.snd.fst) then (bif Decidable.decide (f.snd.snd.fst < (0 : Int)) then none else (bif Decidable.decide (f.snd.snd.fst < (0 : Int)) then none else Option.some ((p2.fst, Go.Vx.bitsOp Go.IntKind.i64 Go.BinOp.or (Go.Vx.bitsOp Go.IntKind.i64 Go.BinOp.andNot p2.snd.fst (Go.IntKind.i64.wrap ((1 : Int) * (2 : Int) ^ Min.min f.snd.snd.fst.toNat Go.IntKind.i64.bits))) (Go.IntKind.i64.wrap (f.snd.snd.snd.fst * (2 : Int) ^ Min.min f.snd.snd.fst.toNat Go.IntKind.i64.bits)), ()), Bool.true, ()))) else Option.some ((p2.fst, p2.snd.fst, ()), Bool.true, ()))

theorem gate_Failure_hold_eq (n : Nat) (x : gate_Failure_hold_a.den) : runF gate_Failure_hold_g (gate_Failure_hold_an n) Tryz.f167 gate_Failure_hold_a gate_Failure_hold_r x = gate_Failure_hold_m n x.1 x.2.1 x.2.2.1 := by kernel_rfl

noncomputable def gate_Failure_hold_M (f : Fai) (p1 : Int) (p2 : List UInt8 × Int × Unit) : Option ((List UInt8 × Int × Unit) × Bool × Unit) := gate_Failure_hold_m 0 f p1 p2

theorem gate_Failure_hold_run (f : Fai) (p1 : Int) (p2 : List UInt8 × Int × Unit) (y : (List UInt8 × Int × Unit) × Bool × Unit) (h : gate_Failure_hold_M f p1 p2 = some y) : ∃ n, gate_Failure_hold_m n f p1 p2 = some y := ⟨0, h⟩
noncomputable def gate_Failure_hold_e : Entry := { f := 167, args := gate_Failure_hold_a, ress := gate_Failure_hold_r, m := fun x => gate_Failure_hold_M x.1 x.2.1 x.2.2.1 }
theorem gate_Failure_hold_ok : FnOK Tryz.prog gate_Failure_hold_e := fn_ok (g := gate_Failure_hold_g) (fn := Tryz.f167) hmixed tabOk eNil (by kernel_rfl) (by kernel_rfl) (by kernel_rfl) (fun x y h => let ⟨n, hn⟩ := gate_Failure_hold_run x.1 x.2.1 x.2.2.1 y h; ⟨gate_Failure_hold_an n, iNil, (gate_Failure_hold_eq n x).trans hn⟩)

end Go.Tw
end

section
set_option linter.all false
set_option maxRecDepth 1000000
namespace Go.Tw
open Go.Vx Go.Vx.B Go.Proofs
/-! ### tidewayref06.Leaves -/
abbrev ref06_Leaves_a : Ty := .pair t25 .unit
abbrev ref06_Leaves_r : Ty := .pair t28 .unit
noncomputable def ref06_Leaves_g : G := { T := T, E := [ref06_IsLeaf_e], muts := [3], fz := [] }
def ref06_Leaves_k : List (List Nat) := [[1, 3, 4]]
noncomputable def ref06_Leaves_an (n : Nat) : Ann := { keep := ref06_Leaves_k, fuel := n, inl := [], deep := 0 }
noncomputable def ref06_Leaves_m_l0 (n : Nat) (r0 : Cha → Int → List Int → Option (List Int × Unit)) (c1_0 : Cha) (i4_0 : Int) (c0_0 : List Int) : Option (List Int × Unit) :=
  (bif Decidable.decide (i4_0 < (↑c1_0.fst.length : Int)) then (Option.bind (Go.Tw.ref06_IsLeaf_M c1_0 i4_0) fun (v1 : Bool × Unit) => (bif v1.fst then (bif Decidable.decide (c0_0.length + (1 : Nat) ≤ Go.Vx.memMax) then r0 c1_0 (Go.IntKind.i64.wrap (i4_0 + (1 : Int))) (c0_0 ++ [i4_0]) else none) else r0 c1_0 (Go.IntKind.i64.wrap (i4_0 + (1 : Int))) c0_0)) else Option.some (c0_0, ()))

noncomputable def ref06_Leaves_m_w0 (n : Nat)  (k : Nat) (c1_0 : Cha) (i4_0 : Int) (c0_0 : List Int) : Option (List Int × Unit) :=
  iter (fun r y => ref06_Leaves_m_l0 n (fun c1_0 i4_0 c0_0 => r ((c1_0, (i4_0, ())), ((c0_0, ()), ()))) y.1.1 y.1.2.1 y.2.1.1) k ((c1_0, (i4_0, ())), ((c0_0, ()), ()))

noncomputable def ref06_Leaves_m (n : Nat) (c : Cha) : Option (List Int × Unit) :=
  (ref06_Leaves_m_w0 n n (c) ((0 : Int)) ([]))

theorem ref06_Leaves_eq (n : Nat) (x : ref06_Leaves_a.den) : runF ref06_Leaves_g (ref06_Leaves_an n) Tryz.f21 ref06_Leaves_a ref06_Leaves_r x = ref06_Leaves_m n x.1 := by kernel_rfl

noncomputable def ref06_Leaves_b0 (c1_0 : Cha) (i4_0 : Int) (c0_0 : List Int) : Option ((List Int × Unit) ⊕ (List Int)) :=
  (Option.bind (Go.Tw.ref06_IsLeaf_M c1_0 i4_0) fun (v1 : Bool × Unit) => (bif v1.fst then (bif Decidable.decide (c0_0.length + (1 : Nat) ≤ Go.Vx.memMax) then (some (Sum.inr (c0_0 ++ [i4_0]))) else none) else (some (Sum.inr (c0_0)))))

noncomputable def ref06_Leaves_f0 (c1_0 : Cha) (c0_0 : List Int) : Option (List Int × Unit) :=
  (some ((c0_0, ())))

theorem ref06_Leaves_m_w0_le (n : Nat) (hn : big ≤ n)  (c1_0 : Cha) (c0_0 : List Int) (hx : ((↑c1_0.fst.length : Int)) ≤ (9223372036854775807 : Int)) : LeF some (loopN (fun i__ s__ => ref06_Leaves_b0 c1_0 i__ s__) (fun s__ => ref06_Leaves_f0 c1_0 s__) (((↑c1_0.fst.length : Int)) - 0).toNat 0 c0_0) (ref06_Leaves_m_w0 n n c1_0 0 c0_0) := by
  refine loopN_le (f := some) (W := fun k__ i__ s__ => ref06_Leaves_m_w0 n k__ c1_0 i__ s__) (body := (fun i__ s__ => ref06_Leaves_b0 c1_0 i__ s__)) (fin := (fun s__ => ref06_Leaves_f0 c1_0 s__)) (fun k__ i__ s__ => ?_) hx c0_0 n 0 (by decide) (by unfold big at hn; omega)
  show LeF _ _ (ref06_Leaves_m_l0 n (ref06_Leaves_m_w0 n k__) c1_0 i__ s__)
  exact leCond (leBind fun v1 => (leCond (leCond (leSome rfl) leNone) (leSome rfl))) (leMap (leSome rfl))

noncomputable def ref06_Leaves_M (c : Cha) : Option (List Int × Unit) :=
  (bif decide (((↑c.fst.length : Int)) ≤ (9223372036854775807 : Int)) then loopN (fun i__ s__ => ref06_Leaves_b0 (c) i__ s__) (fun s__ => ref06_Leaves_f0 (c) s__) (((↑c.fst.length : Int)) - 0).toNat 0 ([]) else none)

theorem ref06_Leaves_run (c : Cha) (y : List Int × Unit) (h : ref06_Leaves_M c = some y) : ∃ n, ref06_Leaves_m n c = some y :=
  ⟨big, LeF.top (show LeF some (ref06_Leaves_M c) (ref06_Leaves_m big c) from (fun (n : Nat) (hn : big ≤ n) => show LeF some (ref06_Leaves_M c) (ref06_Leaves_m n c) from (leGuard fun hx => by apply ref06_Leaves_m_w0_le n hn; exact hx)) big (Nat.le_refl _)) h⟩
noncomputable def ref06_Leaves_e : Entry := { f := 21, args := ref06_Leaves_a, ress := ref06_Leaves_r, m := fun x => ref06_Leaves_M x.1 }
theorem ref06_Leaves_ok : FnOK Tryz.prog ref06_Leaves_e := fn_ok (g := ref06_Leaves_g) (fn := Tryz.f21) hmixed tabOk (eCons ref06_IsLeaf_ok eNil) (by kernel_rfl) (by kernel_rfl) (by kernel_rfl) (fun x y h => let ⟨n, hn⟩ := ref06_Leaves_run x.1 y h; ⟨ref06_Leaves_an n, iNil, (ref06_Leaves_eq n x).trans hn⟩)

/-! ### tidewayref06.Events -/
abbrev ref06_Events_a : Ty := .pair t25 .unit
abbrev ref06_Events_r : Ty := .pair t37 .unit
noncomputable def ref06_Events_g : G := { T := T, E := [ref01_HasWord_e], muts := [3], fz := [] }
def ref06_Events_k : List (List Nat) := [[1, 3, 4]]
noncomputable def ref06_Events_an (n : Nat) : Ann := { keep := ref06_Events_k, fuel := n, inl := [], deep := 0 }
noncomputable def ref06_Events_m_l0 (n : Nat) (r0 : Cha → Int → List (List UInt8) → Option (List (List UInt8) × Unit)) (c1_0 : Cha) (i4_0 : Int) (c0_0 : List (List UInt8)) : Option (List (List UInt8) × Unit) :=
  (bif Decidable.decide (i4_0 < (↑c1_0.snd.fst.length : Int)) then (Option.bind (Go.Vx.idx c1_0.snd.fst i4_0) fun (v1 : Tra) => (Option.bind (Go.Tw.ref01_HasWord_M c0_0 v1.snd.fst) fun (v2 : Bool × Unit) => (bif !v2.fst then (Option.bind (Go.Vx.idx c1_0.snd.fst i4_0) fun (v3 : Tra) => (bif Decidable.decide (c0_0.length + (1 : Nat) ≤ Go.Vx.memMax) then r0 c1_0 (Go.IntKind.i64.wrap (i4_0 + (1 : Int))) (c0_0 ++ [v3.snd.fst]) else none)) else r0 c1_0 (Go.IntKind.i64.wrap (i4_0 + (1 : Int))) c0_0))) else Option.some (c0_0, ()))

noncomputable def ref06_Events_m_w0 (n : Nat)  (k : Nat) (c1_0 : Cha) (i4_0 : Int) (c0_0 : List (List UInt8)) : Option (List (List UInt8) × Unit) :=
  iter (fun r y => ref06_Events_m_l0 n (fun c1_0 i4_0 c0_0 => r ((c1_0, (i4_0, ())), ((c0_0, ()), ()))) y.1.1 y.1.2.1 y.2.1.1) k ((c1_0, (i4_0, ())), ((c0_0, ()), ()))

noncomputable def ref06_Events_m (n : Nat) (c : Cha) : Option (List (List UInt8) × Unit) :=
  (ref06_Events_m_w0 n n (c) ((0 : Int)) ([]))

theorem ref06_Events_eq (n : Nat) (x : ref06_Events_a.den) : runF ref06_Events_g (ref06_Events_an n) Tryz.f22 ref06_Events_a ref06_Events_r x = ref06_Events_m n x.1 := by kernel_rfl

noncomputable def ref06_Events_b0 (c1_0 : Cha) (i4_0 : Int) (v1 : Tra) (c0_0 : List (List UInt8)) : Option ((List (List UInt8) × Unit) ⊕ (List (List UInt8))) :=
  (Option.bind (Go.Tw.ref01_HasWord_M c0_0 v1.snd.fst) fun (v2 : Bool × Unit) => (bif !v2.fst then (Option.bind (Go.Vx.idx c1_0.snd.fst i4_0) fun (v3 : Tra) => (bif Decidable.decide (c0_0.length + (1 : Nat) ≤ Go.Vx.memMax) then (some (Sum.inr (c0_0 ++ [v3.snd.fst]))) else none)) else (some (Sum.inr (c0_0)))))

noncomputable def ref06_Events_f0 (c1_0 : Cha) (c0_0 : List (List UInt8)) : Option (List (List UInt8) × Unit) :=
  (some ((c0_0, ())))

theorem ref06_Events_m_w0_le (n : Nat) (hn : big ≤ n)  (c1_0 : Cha) (c0_0 : List (List UInt8)) (hx : List.length (c1_0.snd.fst) < lenMax) : LeF some (loopL (fun i__ e__ s__ => ref06_Events_b0 c1_0 i__ e__ s__) (fun s__ => ref06_Events_f0 c1_0 s__) 0 (c1_0.snd.fst) c0_0) (ref06_Events_m_w0 n n c1_0 0 c0_0) := by
  refine loopL_le (f := some) (W := fun k__ i__ s__ => ref06_Events_m_w0 n k__ c1_0 i__ s__) (body := (fun i__ e__ s__ => ref06_Events_b0 c1_0 i__ e__ s__)) (fin := (fun s__ => ref06_Events_f0 c1_0 s__)) (fun k__ i__ s__ => ?_) hx c0_0 n (by unfold big at hn; unfold lenMax at hx; omega)
  show LeF _ _ (ref06_Events_m_l0 n (ref06_Events_m_w0 n k__) c1_0 i__ s__)
  exact leCond (leBind fun v1 => (leBind fun v2 => (leCond (leBind fun v3 => (leCond (leSome rfl) leNone)) (leSome rfl)))) (leMap (leSome rfl))

noncomputable def ref06_Events_M (c : Cha) : Option (List (List UInt8) × Unit) :=
  (bif decide (List.length (c.snd.fst) < lenMax) then loopL (fun i__ e__ s__ => ref06_Events_b0 (c) i__ e__ s__) (fun s__ => ref06_Events_f0 (c) s__) 0 (c.snd.fst) ([]) else none)

theorem ref06_Events_run (c : Cha) (y : List (List UInt8) × Unit) (h : ref06_Events_M c = some y) : ∃ n, ref06_Events_m n c = some y :=
  ⟨big, LeF.top (show LeF some (ref06_Events_M c) (ref06_Events_m big c) from (fun (n : Nat) (hn : big ≤ n) => show LeF some (ref06_Events_M c) (ref06_Events_m n c) from (leGuard fun hx => by apply ref06_Events_m_w0_le n hn; exact hx)) big (Nat.le_refl _)) h⟩
noncomputable def ref06_Events_e : Entry := { f := 22, args := ref06_Events_a, ress := ref06_Events_r, m := fun x => ref06_Events_M x.1 }
theorem ref06_Events_ok : FnOK Tryz.prog ref06_Events_e := fn_ok (g := ref06_Events_g) (fn := Tryz.f22) hmixed tabOk (eCons ref01_HasWord_ok eNil) (by kernel_rfl) (by kernel_rfl) (by kernel_rfl) (fun x y h => let ⟨n, hn⟩ := ref06_Events_run x.1 y h; ⟨ref06_Events_an n, iNil, (ref06_Events_eq n x).trans hn⟩)

/-! ### tidewayref06.Enter -/
abbrev ref06_Enter_a : Ty := .pair t25 (.pair t3 .unit)
abbrev ref06_Enter_r : Ty := .pair t3 .unit
noncomputable def ref06_Enter_g : G := { T := T, E := [ref06_IsLeaf_e], muts := [], fz := [] }
def ref06_Enter_k : List (List Nat) := [[1, 2]]
noncomputable def ref06_Enter_an (n : Nat) : Ann := { keep := ref06_Enter_k, fuel := n, inl := [], deep := 0 }
noncomputable def ref06_Enter_m_l0 (n : Nat) (r0 : Int → Cha → Option (Int × Unit)) (i1_0 : Int) (c2_0 : Cha) : Option (Int × Unit) :=
  (Option.bind (Go.Tw.ref06_IsLeaf_M c2_0 i1_0) fun (v1 : Bool × Unit) => (bif !v1.fst then (Option.bind (Go.Vx.idx c2_0.fst i1_0) fun (v2 : Sta) => r0 v2.snd.snd.fst c2_0) else Option.some (i1_0, ())))

noncomputable def ref06_Enter_m_w0 (n : Nat)  (k : Nat) (i1_0 : Int) (c2_0 : Cha) : Option (Int × Unit) :=
  iter (fun r y => ref06_Enter_m_l0 n (fun i1_0 c2_0 => r ((i1_0, (c2_0, ())), ((), ()))) y.1.1 y.1.2.1) k ((i1_0, (c2_0, ())), ((), ()))

noncomputable def ref06_Enter_m (n : Nat) (c : Cha) (i : Int) : Option (Int × Unit) :=
  (ref06_Enter_m_w0 n n (i) (c))

theorem ref06_Enter_eq (n : Nat) (x : ref06_Enter_a.den) : runF ref06_Enter_g (ref06_Enter_an n) Tryz.f23 ref06_Enter_a ref06_Enter_r x = ref06_Enter_m n x.1 x.2.1 := by kernel_rfl

noncomputable def ref06_Enter_b0 (c2_0 : Cha) (i1_0 : Int) : Option ((Int × Unit) ⊕ (Int)) :=
  (Option.bind (Go.Tw.ref06_IsLeaf_M c2_0 i1_0) fun (v1 : Bool × Unit) => (bif !v1.fst then (Option.bind (Go.Vx.idx c2_0.fst i1_0) fun (v2 : Sta) => (some (Sum.inr (v2.snd.snd.fst)))) else (some (Sum.inl ((i1_0, ()))))))

theorem ref06_Enter_m_w0_le (n : Nat) (hn : big ≤ n)  (c2_0 : Cha) (i1_0 : Int) : LeF some (loopW (fun s__ => ref06_Enter_b0 c2_0 s__) wMax i1_0) (ref06_Enter_m_w0 n n i1_0 c2_0) := by
  refine loopW_le (f := some) (W := fun k__ s__ => ref06_Enter_m_w0 n k__ s__ c2_0) (body := (fun s__ => ref06_Enter_b0 c2_0 s__)) (fun k__ s__ => ?_) wMax n i1_0 (by unfold big at hn; unfold wMax; omega)
  show LeF _ _ (ref06_Enter_m_l0 n (ref06_Enter_m_w0 n k__) s__ c2_0)
  exact (leBind fun v1 => (leCond (leBind fun v2 => (leSome rfl)) (leSome rfl)))

noncomputable def ref06_Enter_M (c : Cha) (i : Int) : Option (Int × Unit) :=
  (loopW (fun s__ => ref06_Enter_b0 (c) s__) wMax (i))

theorem ref06_Enter_run (c : Cha) (i : Int) (y : Int × Unit) (h : ref06_Enter_M c i = some y) : ∃ n, ref06_Enter_m n c i = some y :=
  ⟨big, LeF.top (show LeF some (ref06_Enter_M c i) (ref06_Enter_m big c i) from (fun (n : Nat) (hn : big ≤ n) => show LeF some (ref06_Enter_M c i) (ref06_Enter_m n c i) from (by apply ref06_Enter_m_w0_le n hn)) big (Nat.le_refl _)) h⟩
noncomputable def ref06_Enter_e : Entry := { f := 23, args := ref06_Enter_a, ress := ref06_Enter_r, m := fun x => ref06_Enter_M x.1 x.2.1 }
theorem ref06_Enter_ok : FnOK Tryz.prog ref06_Enter_e := fn_ok (g := ref06_Enter_g) (fn := Tryz.f23) hmixed tabOk (eCons ref06_IsLeaf_ok eNil) (by kernel_rfl) (by kernel_rfl) (by kernel_rfl) (fun x y h => let ⟨n, hn⟩ := ref06_Enter_run x.1 x.2.1 y h; ⟨ref06_Enter_an n, iNil, (ref06_Enter_eq n x).trans hn⟩)

/-! ### tidewaylaw06.listed -/
abbrev law06_listed_a : Ty := .pair t28 (.pair t29 (.pair t3 (.pair t28 .unit)))
abbrev law06_listed_r : Ty := .pair t4 .unit
noncomputable def law06_listed_g : G := { T := T, E := [ref01_SameInts_e], muts := [], fz := [] }
def law06_listed_k : List (List Nat) := []
noncomputable def law06_listed_an (n : Nat) : Ann := { keep := law06_listed_k, fuel := n, inl := [], deep := 0 }
noncomputable def law06_listed_m (n : Nat) (p0 : List Int) (e : Int) (bad : Int) (want : List Int) : Option (Bool × Unit) :=
  (bif bad != (0 : Int) then (bif (↑p0.length : Int) == (0 : Int) then Option.some (e == bad, ()) else Option.some (Bool.false, ())) else (bif e == (0 : Int) then (Option.bind (Go.Tw.ref01_SameInts_M p0 want) fun (v3 : Bool × Unit) => Option.some (v3.fst, ())) else Option.some (Bool.false, ())))

theorem law06_listed_eq (n : Nat) (x : law06_listed_a.den) : runF law06_listed_g (law06_listed_an n) Tryz.f25 law06_listed_a law06_listed_r x = law06_listed_m n x.1 x.2.1 x.2.2.1 x.2.2.2.1 := by kernel_rfl

noncomputable def law06_listed_M (p0 : List Int) (e : Int) (bad : Int) (want : List Int) : Option (Bool × Unit) := law06_listed_m 0 p0 e bad want

theorem law06_listed_run (p0 : List Int) (e : Int) (bad : Int) (want : List Int) (y : Bool × Unit) (h : law06_listed_M p0 e bad want = some y) : ∃ n, law06_listed_m n p0 e bad want = some y := ⟨0, h⟩
noncomputable def law06_listed_e : Entry := { f := 25, args := law06_listed_a, ress := law06_listed_r, m := fun x => law06_listed_M x.1 x.2.1 x.2.2.1 x.2.2.2.1 }
theorem law06_listed_ok : FnOK Tryz.prog law06_listed_e := fn_ok (g := law06_listed_g) (fn := Tryz.f25) hmixed tabOk (eCons ref01_SameInts_ok eNil) (by kernel_rfl) (by kernel_rfl) (by kernel_rfl) (fun x y h => let ⟨n, hn⟩ := law06_listed_run x.1 x.2.1 x.2.2.1 x.2.2.2.1 y h; ⟨law06_listed_an n, iNil, (law06_listed_eq n x).trans hn⟩)

/-! ### tidewaylaw06.first -/
/-! ### tidewayref06.CheckLeaf -/
/-! ### tidewayref06.Execute -/
/-! ### tidewayref06.Lost -/
/-! ### tidewayref06.CheckPositions -/
/-! ### (tidewaylaw06.Drill).short -/
/-! ### tidewaylaw06.goal -/
/-! ### tidewayref06.CheckFailure -/
/-! ### (gate.Chart).leaves -/
abbrev gate_Chart_leaves_a : Ty := .pair t35 .unit
abbrev gate_Chart_leaves_r : Ty := .pair t28 .unit
noncomputable def gate_Chart_leaves_g : G := { T := T, E := [gate_kept_gate_indexed_e, gate_indexed_leaf_e, gate_mapped_gate_indexed_int_e, gate_indexed_number_e], muts := [3], fz := [] }
def gate_Chart_leaves_k : List (List Nat) := [[3, 7, 8, 9]]
noncomputable def gate_Chart_leaves_an (n : Nat) : Ann := { keep := gate_Chart_leaves_k, fuel := n, inl := [], deep := 0 }
noncomputable def gate_Chart_leaves_m_l0 (n : Nat) (r0 : List Sta → Int → Int → List (Sta × Int × Unit) → Option (List Int × Unit)) (t7_0 : List Sta) (t8_0 : Int) (t9_0 : Int) (c0_0 : List (Sta × Int × Unit)) : Option (List Int × Unit) :=
  (bif Decidable.decide (t9_0 < t8_0) then (Option.bind (Go.Vx.idx t7_0 t9_0) fun (v1 : Sta) => (bif Decidable.decide (c0_0.length + (1 : Nat) ≤ Go.Vx.memMax) then r0 t7_0 t8_0 (Go.IntKind.i64.wrap (t9_0 + (1 : Int))) (c0_0 ++ [((v1.fst, v1.snd.fst, v1.snd.snd.fst, v1.snd.snd.snd.fst, ()), t9_0, ())]) else none)) else (Option.bind (Go.Tw.gate_kept_gate_indexed_M c0_0 fun (x : (Sta × Int × Unit) × Unit) => Go.Tw.gate_indexed_leaf_M x.fst) fun (v2 : List (Go.Tw.Sta × Int × Unit) × Unit) => (Option.bind (Go.Tw.gate_mapped_gate_indexed_int_M v2.fst fun (x : (Sta × Int × Unit) × Unit) => Go.Tw.gate_indexed_number_M x.fst) fun (v3 : List Int × Unit) => Option.some (v3.fst, ()))))

noncomputable def gate_Chart_leaves_m_w0 (n : Nat)  (k : Nat) (t7_0 : List Sta) (t8_0 : Int) (t9_0 : Int) (c0_0 : List (Sta × Int × Unit)) : Option (List Int × Unit) :=
  iter (fun r y => gate_Chart_leaves_m_l0 n (fun t7_0 t8_0 t9_0 c0_0 => r ((t7_0, (t8_0, (t9_0, ()))), ((c0_0, ()), ()))) y.1.1 y.1.2.1 y.1.2.2.1 y.2.1.1) k ((t7_0, (t8_0, (t9_0, ()))), ((c0_0, ()), ()))

noncomputable def gate_Chart_leaves_m (n : Nat) (c : Cha) : Option (List Int × Unit) :=
  (gate_Chart_leaves_m_w0 n n (c.fst) ((↑c.fst.length : Int)) ((0 : Int)) ([]))

theorem gate_Chart_leaves_eq (n : Nat) (x : gate_Chart_leaves_a.den) : runF gate_Chart_leaves_g (gate_Chart_leaves_an n) Tryz.f86 gate_Chart_leaves_a gate_Chart_leaves_r x = gate_Chart_leaves_m n x.1 := by kernel_rfl

noncomputable def gate_Chart_leaves_b0 (t7_0 : List Sta) (t9_0 : Int) (v1 : Sta) (c0_0 : List (Sta × Int × Unit)) : Option ((List Int × Unit) ⊕ (List (Sta × Int × Unit))) :=
  (bif Decidable.decide (c0_0.length + (1 : Nat) ≤ Go.Vx.memMax) then (some (Sum.inr (c0_0 ++ [((v1.fst, v1.snd.fst, v1.snd.snd.fst, v1.snd.snd.snd.fst, ()), t9_0, ())]))) else none)

noncomputable def gate_Chart_leaves_f0 (t7_0 : List Sta) (c0_0 : List (Sta × Int × Unit)) : Option (List Int × Unit) :=
  (Option.bind (Go.Tw.gate_kept_gate_indexed_M c0_0 fun (x : (Sta × Int × Unit) × Unit) => Go.Tw.gate_indexed_leaf_M x.fst) fun (v2 : List (Go.Tw.Sta × Int × Unit) × Unit) => (Option.bind (Go.Tw.gate_mapped_gate_indexed_int_M v2.fst fun (x : (Sta × Int × Unit) × Unit) => Go.Tw.gate_indexed_number_M x.fst) fun (v3 : List Int × Unit) => (some ((v3.fst, ())))))

theorem gate_Chart_leaves_m_w0_le (n : Nat) (hn : big ≤ n)  (t7_0 : List Sta) (c0_0 : List (Sta × Int × Unit)) (hx : List.length (t7_0) < lenMax) : LeF some (loopL (fun i__ e__ s__ => gate_Chart_leaves_b0 t7_0 i__ e__ s__) (fun s__ => gate_Chart_leaves_f0 t7_0 s__) 0 (t7_0) c0_0) (gate_Chart_leaves_m_w0 n n t7_0 (List.length (t7_0) : Int) 0 c0_0) := by
  refine loopL_le (f := some) (W := fun k__ i__ s__ => gate_Chart_leaves_m_w0 n k__ t7_0 (List.length (t7_0) : Int) i__ s__) (body := (fun i__ e__ s__ => gate_Chart_leaves_b0 t7_0 i__ e__ s__)) (fin := (fun s__ => gate_Chart_leaves_f0 t7_0 s__)) (fun k__ i__ s__ => ?_) hx c0_0 n (by unfold big at hn; unfold lenMax at hx; omega)
  show LeF _ _ (gate_Chart_leaves_m_l0 n (gate_Chart_leaves_m_w0 n k__) t7_0 (List.length (t7_0) : Int) i__ s__)
  exact leCond (leBind fun v1 => (leCond (leSome rfl) leNone)) (leMap (leBind fun v2 => (leBind fun v3 => (leSome rfl))))

noncomputable def gate_Chart_leaves_M (c : Cha) : Option (List Int × Unit) :=
  (bif decide (List.length (c.fst) < lenMax) then loopL (fun i__ e__ s__ => gate_Chart_leaves_b0 (c.fst) i__ e__ s__) (fun s__ => gate_Chart_leaves_f0 (c.fst) s__) 0 (c.fst) ([]) else none)

theorem gate_Chart_leaves_run (c : Cha) (y : List Int × Unit) (h : gate_Chart_leaves_M c = some y) : ∃ n, gate_Chart_leaves_m n c = some y :=
  ⟨big, LeF.top (show LeF some (gate_Chart_leaves_M c) (gate_Chart_leaves_m big c) from (fun (n : Nat) (hn : big ≤ n) => show LeF some (gate_Chart_leaves_M c) (gate_Chart_leaves_m n c) from (leGuard fun hx => by apply gate_Chart_leaves_m_w0_le n hn; exact hx)) big (Nat.le_refl _)) h⟩
noncomputable def gate_Chart_leaves_e : Entry := { f := 86, args := gate_Chart_leaves_a, ress := gate_Chart_leaves_r, m := fun x => gate_Chart_leaves_M x.1 }
theorem gate_Chart_leaves_ok : FnOK Tryz.prog gate_Chart_leaves_e := fn_ok (g := gate_Chart_leaves_g) (fn := Tryz.f86) hmixed tabOk (eCons gate_kept_gate_indexed_ok (eCons gate_indexed_leaf_ok (eCons gate_mapped_gate_indexed_int_ok (eCons gate_indexed_number_ok eNil)))) (by kernel_rfl) (by kernel_rfl) (by kernel_rfl) (fun x y h => let ⟨n, hn⟩ := gate_Chart_leaves_run x.1 y h; ⟨gate_Chart_leaves_an n, iNil, (gate_Chart_leaves_eq n x).trans hn⟩)

/-! ### tidewayref01.CheckName -/
abbrev ref01_CheckName_a : Ty := .pair t9 .unit
abbrev ref01_CheckName_r : Ty := .pair t3 .unit
noncomputable def ref01_CheckName_g : G := { T := T, E := [ref01_IsName_e], muts := [], fz := [] }
def ref01_CheckName_k : List (List Nat) := []
noncomputable def ref01_CheckName_an (n : Nat) : Ann := { keep := ref01_CheckName_k, fuel := n, inl := [], deep := 0 }
noncomputable def ref01_CheckName_m (n : Nat) (s : List UInt8) : Option (Int × Unit) :=
  (Option.bind (Go.Tw.ref01_IsName_M s) fun (v0 : Bool × Unit) => (bif !v0.fst then Option.some ((8 : Int), ()) else Option.some ((0 : Int), ())))

theorem ref01_CheckName_eq (n : Nat) (x : ref01_CheckName_a.den) : runF ref01_CheckName_g (ref01_CheckName_an n) Tryz.f89 ref01_CheckName_a ref01_CheckName_r x = ref01_CheckName_m n x.1 := by kernel_rfl

noncomputable def ref01_CheckName_M (s : List UInt8) : Option (Int × Unit) := ref01_CheckName_m 0 s

theorem ref01_CheckName_run (s : List UInt8) (y : Int × Unit) (h : ref01_CheckName_M s = some y) : ∃ n, ref01_CheckName_m n s = some y := ⟨0, h⟩
noncomputable def ref01_CheckName_e : Entry := { f := 89, args := ref01_CheckName_a, ress := ref01_CheckName_r, m := fun x => ref01_CheckName_M x.1 }
theorem ref01_CheckName_ok : FnOK Tryz.prog ref01_CheckName_e := fn_ok (g := ref01_CheckName_g) (fn := Tryz.f89) hmixed tabOk (eCons ref01_IsName_ok eNil) (by kernel_rfl) (by kernel_rfl) (by kernel_rfl) (fun x y h => let ⟨n, hn⟩ := ref01_CheckName_run x.1 y h; ⟨ref01_CheckName_an n, iNil, (ref01_CheckName_eq n x).trans hn⟩)

/-! ### (gate.Chart).checkLeaf -/
abbrev gate_Chart_checkLeaf_a : Ty := .pair t35 (.pair t3 .unit)
abbrev gate_Chart_checkLeaf_r : Ty := .pair t29 .unit
noncomputable def gate_Chart_checkLeaf_g : G := { T := T, E := [gate_when_e], muts := [], fz := [] }
def gate_Chart_checkLeaf_k : List (List Nat) := []
noncomputable def gate_Chart_checkLeaf_an (n : Nat) : Ann := { keep := gate_Chart_checkLeaf_k, fuel := n, inl := [], deep := 0 }
noncomputable def gate_Chart_checkLeaf_m (n : Nat) (c : Cha) (leaf : Int) : Option (Int × Unit) :=
  (bif Decidable.decide (leaf < (0 : Int)) then Option.some ((10 : Int), ()) else (bif Decidable.decide (leaf ≥ (↑c.fst.length : Int)) then Option.some ((10 : Int), ()) else (Option.bind (Go.Vx.idx c.fst leaf) fun (v2 : Sta) => Option.some ((Go.Tw.gate_when (v2.snd.snd.fst != (-1 : Int)) (20 : Int)).fst, ()))))

theorem gate_Chart_checkLeaf_eq (n : Nat) (x : gate_Chart_checkLeaf_a.den) : runF gate_Chart_checkLeaf_g (gate_Chart_checkLeaf_an n) Tryz.f101 gate_Chart_checkLeaf_a gate_Chart_checkLeaf_r x = gate_Chart_checkLeaf_m n x.1 x.2.1 := by kernel_rfl

noncomputable def gate_Chart_checkLeaf_M (c : Cha) (leaf : Int) : Option (Int × Unit) := gate_Chart_checkLeaf_m 0 c leaf

theorem gate_Chart_checkLeaf_run (c : Cha) (leaf : Int) (y : Int × Unit) (h : gate_Chart_checkLeaf_M c leaf = some y) : ∃ n, gate_Chart_checkLeaf_m n c leaf = some y := ⟨0, h⟩
noncomputable def gate_Chart_checkLeaf_e : Entry := { f := 101, args := gate_Chart_checkLeaf_a, ress := gate_Chart_checkLeaf_r, m := fun x => gate_Chart_checkLeaf_M x.1 x.2.1 }
theorem gate_Chart_checkLeaf_ok : FnOK Tryz.prog gate_Chart_checkLeaf_e := fn_ok (g := gate_Chart_checkLeaf_g) (fn := Tryz.f101) hmixed tabOk (eCons gate_when_ok eNil) (by kernel_rfl) (by kernel_rfl) (by kernel_rfl) (fun x y h => let ⟨n, hn⟩ := gate_Chart_checkLeaf_run x.1 x.2.1 y h; ⟨gate_Chart_checkLeaf_an n, iNil, (gate_Chart_checkLeaf_eq n x).trans hn⟩)

/-! ### gate.within -/
abbrev gate_within_a : Ty := .pair t3 (.pair t3 (.pair t3 .unit))
abbrev gate_within_r : Ty := .pair t29 .unit
noncomputable def gate_within_g : G := { T := T, E := [gate_when_e], muts := [], fz := [] }
def gate_within_k : List (List Nat) := []
noncomputable def gate_within_an (n : Nat) : Ann := { keep := gate_within_k, fuel := n, inl := [], deep := 0 }
noncomputable def gate_within_m (n : Nat) (n1 : Int) (least : Int) (most : Int) : Option (Int × Unit) :=
  (bif Decidable.decide (n1 < least) then Option.some ((Go.Tw.gate_when Bool.true (3 : Int)).fst, ()) else Option.some ((Go.Tw.gate_when (Decidable.decide (n1 > most)) (3 : Int)).fst, ()))

theorem gate_within_eq (n : Nat) (x : gate_within_a.den) : runF gate_within_g (gate_within_an n) Tryz.f108 gate_within_a gate_within_r x = gate_within_m n x.1 x.2.1 x.2.2.1 := by kernel_rfl

noncomputable def gate_within (n1 : Int) (least : Int) (most : Int) : (Int × Unit) :=
  (bif Decidable.decide (n1 < least) then ((Go.Tw.gate_when Bool.true (3 : Int)).fst, ()) else ((Go.Tw.gate_when (Decidable.decide (n1 > most)) (3 : Int)).fst, ()))

noncomputable abbrev gate_within_M (n1 : Int) (least : Int) (most : Int) : Option (Int × Unit) := some (gate_within n1 least most)

theorem gate_within_run (n1 : Int) (least : Int) (most : Int) (y : Int × Unit) (h : gate_within_M n1 least most = some y) : ∃ n, gate_within_m n n1 least most = some y :=
  ⟨0, by rw [← h]; show gate_within_m 0 n1 least most = some (gate_within n1 least most); unfold gate_within_m gate_within; first | rfl | (simp only [cond_some]; done) | (simp only [cond_some]; rfl)⟩
noncomputable def gate_within_e : Entry := { f := 108, args := gate_within_a, ress := gate_within_r, m := fun x => gate_within_M x.1 x.2.1 x.2.2.1 }
theorem gate_within_ok : FnOK Tryz.prog gate_within_e := fn_ok (g := gate_within_g) (fn := Tryz.f108) hmixed tabOk (eCons gate_when_ok eNil) (by kernel_rfl) (by kernel_rfl) (by kernel_rfl) (fun x y h => let ⟨n, hn⟩ := gate_within_run x.1 x.2.1 x.2.2.1 y h; ⟨gate_within_an n, iNil, (gate_within_eq n x).trans hn⟩)

/-! ### gate.Against$1 -/
abbrev gate_Against_1_a : Ty := .pair t112 (.pair t167 (.pair (.ref t35) .unit))
abbrev gate_Against_1_r : Ty := .pair t4 .unit
noncomputable def gate_Against_1_g : G := { T := T, E := [gate_bitsOf_e], muts := [], fz := [] }
def gate_Against_1_k : List (List Nat) := []
noncomputable def gate_Against_1_an (n : Nat) : Ann := { keep := gate_Against_1_k, fuel := n, inl := [], deep := 0 }
noncomputable def gate_Against_1_m (n : Nat) (x1 : Cas) (o : Int × Bool × Bool × Unit) (p2 : Cha) : Option (Bool × Unit) :=
  (bif Go.Vx.bitsOp Go.IntKind.i64 Go.BinOp.and x1.snd.snd.fst (1 : Int) != (0 : Int) then (bif !o.snd.snd.fst then (Option.bind (Go.Vx.idx p2.fst o.fst) fun (v0 : Sta) => Option.some (v0.snd.snd.snd.fst, ())) else Option.some (Bool.false, ())) else Option.some (Bool.false, ()))

theorem gate_Against_1_eq (n : Nat) (x : gate_Against_1_a.den) : runF gate_Against_1_g (gate_Against_1_an n) Tryz.f118 gate_Against_1_a gate_Against_1_r x = gate_Against_1_m n x.1 x.2.1 x.2.2.1 := by kernel_rfl

noncomputable def gate_Against_1_M (x1 : Cas) (o : Int × Bool × Bool × Unit) (p2 : Cha) : Option (Bool × Unit) := gate_Against_1_m 0 x1 o p2

theorem gate_Against_1_run (x1 : Cas) (o : Int × Bool × Bool × Unit) (p2 : Cha) (y : Bool × Unit) (h : gate_Against_1_M x1 o p2 = some y) : ∃ n, gate_Against_1_m n x1 o p2 = some y := ⟨0, h⟩
noncomputable def gate_Against_1_e : Entry := { f := 118, args := gate_Against_1_a, ress := gate_Against_1_r, m := fun x => gate_Against_1_M x.1 x.2.1 x.2.2.1 }
theorem gate_Against_1_ok : FnOK Tryz.prog gate_Against_1_e := fn_ok (g := gate_Against_1_g) (fn := Tryz.f118) hmixed tabOk (eCons gate_bitsOf_ok eNil) (by kernel_rfl) (by kernel_rfl) (by kernel_rfl) (fun x y h => let ⟨n, hn⟩ := gate_Against_1_run x.1 x.2.1 x.2.2.1 y h; ⟨gate_Against_1_an n, iNil, (gate_Against_1_eq n x).trans hn⟩)

/-! ### slices.Contains[[]int,int] -/
abbrev slices_Contains_int_int_a : Ty := .pair t28 (.pair t3 .unit)
abbrev slices_Contains_int_int_r : Ty := .pair t4 .unit
noncomputable def slices_Contains_int_int_g : G := { T := T, E := [slices_Index_int_int_e], muts := [], fz := [] }
def slices_Contains_int_int_k : List (List Nat) := []
noncomputable def slices_Contains_int_int_an (n : Nat) : Ann := { keep := slices_Contains_int_int_k, fuel := n, inl := [], deep := 0 }
noncomputable def slices_Contains_int_int_m (n : Nat) (s : List Int) (v : Int) : Option (Bool × Unit) :=
  (Option.bind (Go.Tw.slices_Index_int_int_M s v) fun (v0 : Int × Unit) => Option.some (Decidable.decide (v0.fst ≥ (0 : Int)), ()))

theorem slices_Contains_int_int_eq (n : Nat) (x : slices_Contains_int_int_a.den) : runF slices_Contains_int_int_g (slices_Contains_int_int_an n) Tryz.f125 slices_Contains_int_int_a slices_Contains_int_int_r x = slices_Contains_int_int_m n x.1 x.2.1 := by kernel_rfl

noncomputable def slices_Contains_int_int_M (s : List Int) (v : Int) : Option (Bool × Unit) := slices_Contains_int_int_m 0 s v

theorem slices_Contains_int_int_run (s : List Int) (v : Int) (y : Bool × Unit) (h : slices_Contains_int_int_M s v = some y) : ∃ n, slices_Contains_int_int_m n s v = some y := ⟨0, h⟩
noncomputable def slices_Contains_int_int_e : Entry := { f := 125, args := slices_Contains_int_int_a, ress := slices_Contains_int_int_r, m := fun x => slices_Contains_int_int_M x.1 x.2.1 }
theorem slices_Contains_int_int_ok : FnOK Tryz.prog slices_Contains_int_int_e := fn_ok (g := slices_Contains_int_int_g) (fn := Tryz.f125) hmixed tabOk (eCons slices_Index_int_int_ok eNil) (by kernel_rfl) (by kernel_rfl) (by kernel_rfl) (fun x y h => let ⟨n, hn⟩ := slices_Contains_int_int_run x.1 x.2.1 y h; ⟨slices_Contains_int_int_an n, iNil, (slices_Contains_int_int_eq n x).trans hn⟩)

/-! ### tidewayref06.CheckGoal -/
/-! ### slices.Contains[[]string,string] -/
abbrev slices_Contains_string_string_a : Ty := .pair t37 (.pair t9 .unit)
abbrev slices_Contains_string_string_r : Ty := .pair t4 .unit
noncomputable def slices_Contains_string_string_g : G := { T := T, E := [slices_Index_string_string_e], muts := [], fz := [] }
def slices_Contains_string_string_k : List (List Nat) := []
noncomputable def slices_Contains_string_string_an (n : Nat) : Ann := { keep := slices_Contains_string_string_k, fuel := n, inl := [], deep := 0 }
noncomputable def slices_Contains_string_string_m (n : Nat) (s : List (List UInt8)) (v : List UInt8) : Option (Bool × Unit) :=
  (Option.bind (Go.Tw.slices_Index_string_string_M s v) fun (v0 : Int × Unit) => Option.some (Decidable.decide (v0.fst ≥ (0 : Int)), ()))

theorem slices_Contains_string_string_eq (n : Nat) (x : slices_Contains_string_string_a.den) : runF slices_Contains_string_string_g (slices_Contains_string_string_an n) Tryz.f135 slices_Contains_string_string_a slices_Contains_string_string_r x = slices_Contains_string_string_m n x.1 x.2.1 := by kernel_rfl

noncomputable def slices_Contains_string_string_M (s : List (List UInt8)) (v : List UInt8) : Option (Bool × Unit) := slices_Contains_string_string_m 0 s v

theorem slices_Contains_string_string_run (s : List (List UInt8)) (v : List UInt8) (y : Bool × Unit) (h : slices_Contains_string_string_M s v = some y) : ∃ n, slices_Contains_string_string_m n s v = some y := ⟨0, h⟩
noncomputable def slices_Contains_string_string_e : Entry := { f := 135, args := slices_Contains_string_string_a, ress := slices_Contains_string_string_r, m := fun x => slices_Contains_string_string_M x.1 x.2.1 }
theorem slices_Contains_string_string_ok : FnOK Tryz.prog slices_Contains_string_string_e := fn_ok (g := slices_Contains_string_string_g) (fn := Tryz.f135) hmixed tabOk (eCons slices_Index_string_string_ok eNil) (by kernel_rfl) (by kernel_rfl) (by kernel_rfl) (fun x y h => let ⟨n, hn⟩ := slices_Contains_string_string_run x.1 x.2.1 y h; ⟨slices_Contains_string_string_an n, iNil, (slices_Contains_string_string_eq n x).trans hn⟩)

/-! ### gate.checkName -/
abbrev gate_checkName_a : Ty := .pair t9 .unit
abbrev gate_checkName_r : Ty := .pair t29 .unit
noncomputable def gate_checkName_g : G := { T := T, E := [gauge_IsName_e, gate_when_e], muts := [], fz := [] }
def gate_checkName_k : List (List Nat) := []
noncomputable def gate_checkName_an (n : Nat) : Ann := { keep := gate_checkName_k, fuel := n, inl := [], deep := 0 }
noncomputable def gate_checkName_m (n : Nat) (s : List UInt8) : Option (Int × Unit) :=
  (Option.bind (Go.Tw.gauge_IsName_M s) fun (v0 : Bool × Unit) => Option.some ((Go.Tw.gate_when (!v0.fst) (8 : Int)).fst, ()))

theorem gate_checkName_eq (n : Nat) (x : gate_checkName_a.den) : runF gate_checkName_g (gate_checkName_an n) Tryz.f137 gate_checkName_a gate_checkName_r x = gate_checkName_m n x.1 := by kernel_rfl

noncomputable def gate_checkName_M (s : List UInt8) : Option (Int × Unit) := gate_checkName_m 0 s

theorem gate_checkName_run (s : List UInt8) (y : Int × Unit) (h : gate_checkName_M s = some y) : ∃ n, gate_checkName_m n s = some y := ⟨0, h⟩
noncomputable def gate_checkName_e : Entry := { f := 137, args := gate_checkName_a, ress := gate_checkName_r, m := fun x => gate_checkName_M x.1 }
theorem gate_checkName_ok : FnOK Tryz.prog gate_checkName_e := fn_ok (g := gate_checkName_g) (fn := Tryz.f137) hmixed tabOk (eCons gauge_IsName_ok (eCons gate_when_ok eNil)) (by kernel_rfl) (by kernel_rfl) (by kernel_rfl) (fun x y h => let ⟨n, hn⟩ := gate_checkName_run x.1 y h; ⟨gate_checkName_an n, iNil, (gate_checkName_eq n x).trans hn⟩)

/-! ### (gate.Transition).met -/
abbrev gate_Transition_met_a : Ty := .pair t148 (.pair t3 .unit)
abbrev gate_Transition_met_r : Ty := .pair t4 .unit
noncomputable def gate_Transition_met_g : G := { T := T, E := [gate_bitsOf_e], muts := [], fz := [] }
def gate_Transition_met_k : List (List Nat) := []
noncomputable def gate_Transition_met_an (n : Nat) : Ann := { keep := gate_Transition_met_k, fuel := n, inl := [], deep := 0 }
noncomputable def gate_Transition_met_m (n : Nat) (t : Tra) (conditions : Int) : Option (Bool × Unit) :=
  Option.some (Go.Vx.eqV (Go.Vx.Ty.arr (4 : Nat) Go.Vx.Ty.bool) (Go.Tw.gate_bitsOf (Go.Vx.bitsOp Go.IntKind.i64 Go.BinOp.and conditions t.snd.snd.snd.fst)).fst (Go.Tw.gate_bitsOf t.snd.snd.snd.snd.fst).fst, ())

theorem gate_Transition_met_eq (n : Nat) (x : gate_Transition_met_a.den) : runF gate_Transition_met_g (gate_Transition_met_an n) Tryz.f141 gate_Transition_met_a gate_Transition_met_r x = gate_Transition_met_m n x.1 x.2.1 := by kernel_rfl

noncomputable def gate_Transition_met (t : Tra) (conditions : Int) : (Bool × Unit) :=
  (Go.Vx.eqV (Go.Vx.Ty.arr (4 : Nat) Go.Vx.Ty.bool) (Go.Tw.gate_bitsOf (Go.Vx.bitsOp Go.IntKind.i64 Go.BinOp.and conditions t.snd.snd.snd.fst)).fst (Go.Tw.gate_bitsOf t.snd.snd.snd.snd.fst).fst, ())

noncomputable abbrev gate_Transition_met_M (t : Tra) (conditions : Int) : Option (Bool × Unit) := some (gate_Transition_met t conditions)

theorem gate_Transition_met_run (t : Tra) (conditions : Int) (y : Bool × Unit) (h : gate_Transition_met_M t conditions = some y) : ∃ n, gate_Transition_met_m n t conditions = some y :=
  ⟨0, by rw [← h]; show gate_Transition_met_m 0 t conditions = some (gate_Transition_met t conditions); unfold gate_Transition_met_m gate_Transition_met; first | rfl | (simp only [cond_some]; done) | (simp only [cond_some]; rfl)⟩
noncomputable def gate_Transition_met_e : Entry := { f := 141, args := gate_Transition_met_a, ress := gate_Transition_met_r, m := fun x => gate_Transition_met_M x.1 x.2.1 }
theorem gate_Transition_met_ok : FnOK Tryz.prog gate_Transition_met_e := fn_ok (g := gate_Transition_met_g) (fn := Tryz.f141) hmixed tabOk (eCons gate_bitsOf_ok eNil) (by kernel_rfl) (by kernel_rfl) (by kernel_rfl) (fun x y h => let ⟨n, hn⟩ := gate_Transition_met_run x.1 x.2.1 y h; ⟨gate_Transition_met_an n, iNil, (gate_Transition_met_eq n x).trans hn⟩)

/-! ### slices.ContainsFunc[[]int,int] -/
abbrev slices_ContainsFunc_int_int_a : Ty := .pair t28 (.pair t181 .unit)
abbrev slices_ContainsFunc_int_int_r : Ty := .pair t4 .unit
noncomputable def slices_ContainsFunc_int_int_g : G := { T := T, E := [slices_IndexFunc_int_int_e], muts := [], fz := [] }
def slices_ContainsFunc_int_int_k : List (List Nat) := []
noncomputable def slices_ContainsFunc_int_int_an (n : Nat) : Ann := { keep := slices_ContainsFunc_int_int_k, fuel := n, inl := [], deep := 0 }
noncomputable def slices_ContainsFunc_int_int_m (n : Nat) (s : List Int) (f : Int × Unit → Option (Bool × Unit)) : Option (Bool × Unit) :=
  (Option.bind (Go.Tw.slices_IndexFunc_int_int_M s f) fun (v0 : Int × Unit) => Option.some (Decidable.decide (v0.fst ≥ (0 : Int)), ()))

theorem slices_ContainsFunc_int_int_eq (n : Nat) (x : slices_ContainsFunc_int_int_a.den) : runF slices_ContainsFunc_int_int_g (slices_ContainsFunc_int_int_an n) Tryz.f149 slices_ContainsFunc_int_int_a slices_ContainsFunc_int_int_r x = slices_ContainsFunc_int_int_m n x.1 x.2.1 := by kernel_rfl

noncomputable def slices_ContainsFunc_int_int_M (s : List Int) (f : Int × Unit → Option (Bool × Unit)) : Option (Bool × Unit) := slices_ContainsFunc_int_int_m 0 s f

theorem slices_ContainsFunc_int_int_run (s : List Int) (f : Int × Unit → Option (Bool × Unit)) (y : Bool × Unit) (h : slices_ContainsFunc_int_int_M s f = some y) : ∃ n, slices_ContainsFunc_int_int_m n s f = some y := ⟨0, h⟩
noncomputable def slices_ContainsFunc_int_int_e : Entry := { f := 149, args := slices_ContainsFunc_int_int_a, ress := slices_ContainsFunc_int_int_r, m := fun x => slices_ContainsFunc_int_int_M x.1 x.2.1 }
theorem slices_ContainsFunc_int_int_ok : FnOK Tryz.prog slices_ContainsFunc_int_int_e := fn_ok (g := slices_ContainsFunc_int_int_g) (fn := Tryz.f149) hmixed tabOk (eCons slices_IndexFunc_int_int_ok eNil) (by kernel_rfl) (by kernel_rfl) (by kernel_rfl) (fun x y h => let ⟨n, hn⟩ := slices_ContainsFunc_int_int_run x.1 x.2.1 y h; ⟨slices_ContainsFunc_int_int_an n, iNil, (slices_ContainsFunc_int_int_eq n x).trans hn⟩)

/-! ### gate.kinds -/
abbrev gate_kinds_a : Ty := .unit
abbrev gate_kinds_r : Ty := .pair t238 .unit
noncomputable def gate_kinds_g : G := { T := T, E := [gate_kinds_1_e, gate_kinds_2_e, gate_kinds_3_e, gate_kinds_4_e, gate_kinds_5_e, gate_Failure_hold_e], muts := [], fz := [] }
def gate_kinds_k : List (List Nat) := []
noncomputable def gate_kinds_an (n : Nat) : Ann := { keep := gate_kinds_k, fuel := n, inl := [], deep := 0 }
noncomputable def gate_kinds_m (n : Nat)  : Option (List (List UInt8 × (Fai × Unit → Option (Fai × Unit)) × (Fai × Int × (List UInt8 × Int × Unit) × Unit → Option ((List UInt8 × Int × Unit) × Bool × Unit)) × Unit) × Unit) :=
  Option.some ([([(110 : UInt8), (111 : UInt8), (110 : UInt8), (101 : UInt8)], fun (x : Fai × Unit) => Go.Tw.gate_kinds_1_M x.fst, fun (x : Fai × Int × (List UInt8 × Int × Unit) × Unit) => Go.Tw.gate_kinds_2_M x.fst x.snd.fst x.snd.snd.fst, ()), ([(108 : UInt8), (111 : UInt8), (115 : UInt8), (116 : UInt8)], fun (x : Fai × Unit) => Go.Tw.gate_kinds_3_M x.fst, fun (x : Fai × Int × (List UInt8 × Int × Unit) × Unit) => Go.Tw.gate_kinds_4_M x.fst x.snd.fst x.snd.snd.fst, ()), ([(115 : UInt8), (116 : UInt8), (117 : UInt8), (99 : UInt8), (107 : UInt8)], fun (x : Fai × Unit) => Go.Tw.gate_kinds_5_M x.fst, fun (x : Fai × Int × (List UInt8 × Int × Unit) × Unit) => Go.Tw.gate_Failure_hold_M x.fst x.snd.fst x.snd.snd.fst, ())], ())

theorem gate_kinds_eq (n : Nat) (x : gate_kinds_a.den) : runF gate_kinds_g (gate_kinds_an n) Tryz.f156 gate_kinds_a gate_kinds_r x = gate_kinds_m n := by kernel_rfl

noncomputable def gate_kinds  : (List (List UInt8 × (Fai × Unit → Option (Fai × Unit)) × (Fai × Int × (List UInt8 × Int × Unit) × Unit → Option ((List UInt8 × Int × Unit) × Bool × Unit)) × Unit) × Unit) :=
  ([([(110 : UInt8), (111 : UInt8), (110 : UInt8), (101 : UInt8)], fun (x : Fai × Unit) => Go.Tw.gate_kinds_1_M x.fst, fun (x : Fai × Int × (List UInt8 × Int × Unit) × Unit) => Go.Tw.gate_kinds_2_M x.fst x.snd.fst x.snd.snd.fst, ()), ([(108 : UInt8), (111 : UInt8), (115 : UInt8), (116 : UInt8)], fun (x : Fai × Unit) => Go.Tw.gate_kinds_3_M x.fst, fun (x : Fai × Int × (List UInt8 × Int × Unit) × Unit) => Go.Tw.gate_kinds_4_M x.fst x.snd.fst x.snd.snd.fst, ()), ([(115 : UInt8), (116 : UInt8), (117 : UInt8), (99 : UInt8), (107 : UInt8)], fun (x : Fai × Unit) => Go.Tw.gate_kinds_5_M x.fst, fun (x : Fai × Int × (List UInt8 × Int × Unit) × Unit) => Go.Tw.gate_Failure_hold_M x.fst x.snd.fst x.snd.snd.fst, ())], ())

noncomputable abbrev gate_kinds_M  : Option (List (List UInt8 × (Fai × Unit → Option (Fai × Unit)) × (Fai × Int × (List UInt8 × Int × Unit) × Unit → Option ((List UInt8 × Int × Unit) × Bool × Unit)) × Unit) × Unit) := some (gate_kinds)

theorem gate_kinds_run  (y : List (List UInt8 × (Fai × Unit → Option (Fai × Unit)) × (Fai × Int × (List UInt8 × Int × Unit) × Unit → Option ((List UInt8 × Int × Unit) × Bool × Unit)) × Unit) × Unit) (h : gate_kinds_M = some y) : ∃ n, gate_kinds_m n = some y :=
  ⟨0, by rw [← h]; show gate_kinds_m 0 = some (gate_kinds); unfold gate_kinds_m gate_kinds; first | rfl | (simp only [cond_some]; done) | (simp only [cond_some]; rfl)⟩
noncomputable def gate_kinds_e : Entry := { f := 156, args := gate_kinds_a, ress := gate_kinds_r, m := fun x => gate_kinds_M }
theorem gate_kinds_ok : FnOK Tryz.prog gate_kinds_e := fn_ok (g := gate_kinds_g) (fn := Tryz.f156) hmixed tabOk (eCons gate_kinds_1_ok (eCons gate_kinds_2_ok (eCons gate_kinds_3_ok (eCons gate_kinds_4_ok (eCons gate_kinds_5_ok (eCons gate_Failure_hold_ok eNil)))))) (by kernel_rfl) (by kernel_rfl) (by kernel_rfl) (fun x y h => let ⟨n, hn⟩ := gate_kinds_run y h; ⟨gate_kinds_an n, iNil, (gate_kinds_eq n x).trans hn⟩)

end Go.Tw
end

section
set_option linter.all false
set_option maxRecDepth 1000000
namespace Go.Tw
open Go.Vx Go.Vx.B Go.Proofs
/-! ### tidewayref06.CheckChart -/
abbrev ref06_CheckChart_a : Ty := .pair t25 .unit
abbrev ref06_CheckChart_r : Ty := .pair t3 .unit
noncomputable def ref06_CheckChart_g : G := { T := T, E := [ref01_CheckName_e, ref06_children_e, ref01_CheckRange_e, ref06_when_e, ref01_First_e, ref06_Events_e], muts := [], fz := [] }
def ref06_CheckChart_k : List (List Nat) := [[1, 3], [1, 3, 4, 6], [1, 7], [1, 11]]
noncomputable def ref06_CheckChart_an (n : Nat) : Ann := { keep := ref06_CheckChart_k, fuel := n, inl := [], deep := 0 }
noncomputable def ref06_CheckChart_m_l3 (n : Nat) (r0 : Cha → Int → Option (Int × Unit)) (r3 : Cha → Int → Int → List UInt8 → Int → Int → Bool → Option (Int × Unit)) (c1_3 : Cha) (i3_3 : Int) (k6_3 : Int) (b0_0_3 : List UInt8) (b0_1_3 : Int) (b0_2_3 : Int) (b0_3_3 : Bool) : Option (Int × Unit) :=
  (bif Decidable.decide (k6_3 < i3_3) then (Option.bind (Go.Vx.idx c1_3.fst k6_3) fun (v4 : Sta) => (bif v4.fst == b0_0_3 then Option.some ((9 : Int), ()) else r3 c1_3 i3_3 (Go.IntKind.i64.wrap (k6_3 + (1 : Int))) b0_0_3 b0_1_3 b0_2_3 b0_3_3)) else (bif Decidable.decide (b0_1_3 < (-1 : Int)) then Option.some ((11 : Int), ()) else (bif Decidable.decide (b0_1_3 ≥ i3_3) then Option.some ((11 : Int), ()) else r0 c1_3 (Go.IntKind.i64.wrap (i3_3 + (1 : Int))))))

noncomputable def ref06_CheckChart_m_w3 (n : Nat) (r0 : Cha → Int → Option (Int × Unit)) (k : Nat) (c1_3 : Cha) (i3_3 : Int) (k6_3 : Int) (b0_0_3 : List UInt8) (b0_1_3 : Int) (b0_2_3 : Int) (b0_3_3 : Bool) : Option (Int × Unit) :=
  iter (fun r y => ref06_CheckChart_m_l3 n r0 (fun c1_3 i3_3 k6_3 b0_0_3 b0_1_3 b0_2_3 b0_3_3 => r ((c1_3, (i3_3, (k6_3, ()))), (((b0_0_3, (b0_1_3, (b0_2_3, (b0_3_3, ())))), ()), ()))) y.1.1 y.1.2.1 y.1.2.2.1 y.2.1.1.1 y.2.1.1.2.1 y.2.1.1.2.2.1 y.2.1.1.2.2.2.1) k ((c1_3, (i3_3, (k6_3, ()))), (((b0_0_3, (b0_1_3, (b0_2_3, (b0_3_3, ())))), ()), ()))

noncomputable def ref06_CheckChart_m_l19 (n : Nat) (r19 : Cha → Int → Option (Int × Unit)) (c1_19 : Cha) (i11_19 : Int) : Option (Int × Unit) :=
  (bif Decidable.decide (i11_19 < (↑c1_19.snd.fst.length : Int)) then (Option.bind (Go.Vx.idx c1_19.snd.fst i11_19) fun (v20 : Tra) => (bif (Go.Tw.ref01_CheckRange v20.fst (0 : Int) (Go.IntKind.i64.wrap ((↑c1_19.fst.length : Int) - (1 : Int)))).fst != (0 : Int) then Option.some ((10 : Int), ()) else (bif (Go.Tw.ref01_CheckRange v20.snd.snd.fst (0 : Int) (Go.IntKind.i64.wrap ((↑c1_19.fst.length : Int) - (1 : Int)))).fst != (0 : Int) then Option.some ((10 : Int), ()) else (Option.bind (Go.Tw.ref01_CheckName_M v20.snd.fst) fun (v23 : Int × Unit) => (Option.bind (Go.Tw.ref01_First_M [v23.fst, (Go.Tw.ref01_CheckRange v20.snd.snd.snd.fst (0 : Int) (15 : Int)).fst, (Go.Tw.ref01_CheckRange v20.snd.snd.snd.snd.fst (0 : Int) (15 : Int)).fst, (Go.Tw.ref06_when (Go.Vx.bitsOp Go.IntKind.i64 Go.BinOp.and v20.snd.snd.snd.snd.fst v20.snd.snd.snd.fst != v20.snd.snd.snd.snd.fst) (1 : Int)).fst]) fun (v24 : Int × Unit) => (bif v24.fst != (0 : Int) then Option.some (v24.fst, ()) else r19 c1_19 (Go.IntKind.i64.wrap (i11_19 + (1 : Int))))))))) else (Option.bind (Go.Tw.ref06_Events_M c1_19) fun (v25 : List (List UInt8) × Unit) => Option.some ((Go.Tw.ref06_when (Decidable.decide ((↑v25.fst.length : Int) > (8 : Int))) (5 : Int)).fst, ())))

noncomputable def ref06_CheckChart_m_w19 (n : Nat)  (k : Nat) (c1_19 : Cha) (i11_19 : Int) : Option (Int × Unit) :=
  iter (fun r y => ref06_CheckChart_m_l19 n (fun c1_19 i11_19 => r ((c1_19, (i11_19, ())), ((), ()))) y.1.1 y.1.2.1) k ((c1_19, (i11_19, ())), ((), ()))

noncomputable def ref06_CheckChart_m_l7 (n : Nat) (r7 : Cha → Int → Option (Int × Unit)) (c1_7 : Cha) (i7_7 : Int) : Option (Int × Unit) :=
  (bif Decidable.decide (i7_7 < (↑c1_7.fst.length : Int)) then (Option.bind (Go.Vx.idx c1_7.fst i7_7) fun (v8 : Sta) => (Option.bind (Go.Tw.ref06_children_M c1_7 i7_7 v8.snd.snd.fst) fun (v9 : Int × Bool × Unit) => (bif Decidable.decide (v9.fst > (0 : Int)) then (bif !v9.snd.fst then Option.some ((1 : Int), ()) else (bif v8.snd.snd.snd.fst then Option.some ((1 : Int), ()) else (bif v9.fst == (0 : Int) then (bif v8.snd.snd.fst != (-1 : Int) then Option.some ((1 : Int), ()) else r7 c1_7 (Go.IntKind.i64.wrap (i7_7 + (1 : Int)))) else r7 c1_7 (Go.IntKind.i64.wrap (i7_7 + (1 : Int)))))) else (bif v9.fst == (0 : Int) then (bif v8.snd.snd.fst != (-1 : Int) then Option.some ((1 : Int), ()) else r7 c1_7 (Go.IntKind.i64.wrap (i7_7 + (1 : Int)))) else r7 c1_7 (Go.IntKind.i64.wrap (i7_7 + (1 : Int))))))) else (bif Decidable.decide ((↑c1_7.snd.fst.length : Int) > (48 : Int)) then Option.some ((5 : Int), ()) else (ref06_CheckChart_m_w19 n n (c1_7) ((0 : Int)))))

noncomputable def ref06_CheckChart_m_w7 (n : Nat)  (k : Nat) (c1_7 : Cha) (i7_7 : Int) : Option (Int × Unit) :=
  iter (fun r y => ref06_CheckChart_m_l7 n (fun c1_7 i7_7 => r ((c1_7, (i7_7, ())), ((), ()))) y.1.1 y.1.2.1) k ((c1_7, (i7_7, ())), ((), ()))

noncomputable def ref06_CheckChart_m_l0 (n : Nat) (r0 : Cha → Int → Option (Int × Unit)) (c1_0 : Cha) (i3_0 : Int) : Option (Int × Unit) :=
  (bif Decidable.decide (i3_0 < (↑c1_0.fst.length : Int)) then (Option.bind (Go.Vx.idx c1_0.fst i3_0) fun (v1 : Sta) => (Option.bind (Go.Tw.ref01_CheckName_M v1.fst) fun (v2 : Int × Unit) => (bif v2.fst != (0 : Int) then Option.some (v2.fst, ()) else (ref06_CheckChart_m_w3 n r0 n (c1_0) (i3_0) ((0 : Int)) (v1.fst) (v1.snd.fst) (v1.snd.snd.fst) (v1.snd.snd.snd.fst))))) else (ref06_CheckChart_m_w7 n n (c1_0) ((0 : Int))))

noncomputable def ref06_CheckChart_m_w0 (n : Nat)  (k : Nat) (c1_0 : Cha) (i3_0 : Int) : Option (Int × Unit) :=
  iter (fun r y => ref06_CheckChart_m_l0 n (fun c1_0 i3_0 => r ((c1_0, (i3_0, ())), ((), ()))) y.1.1 y.1.2.1) k ((c1_0, (i3_0, ())), ((), ()))

noncomputable def ref06_CheckChart_m (n : Nat) (c : Cha) : Option (Int × Unit) :=
  (bif (↑c.fst.length : Int) == (0 : Int) then Option.some ((12 : Int), ()) else (bif Decidable.decide ((↑c.fst.length : Int) > (16 : Int)) then Option.some ((5 : Int), ()) else (ref06_CheckChart_m_w0 n n (c) ((0 : Int)))))

theorem ref06_CheckChart_eq (n : Nat) (x : ref06_CheckChart_a.den) : runF ref06_CheckChart_g (ref06_CheckChart_an n) Tryz.f20 ref06_CheckChart_a ref06_CheckChart_r x = ref06_CheckChart_m n x.1 := by kernel_rfl

noncomputable def ref06_CheckChart_b3 (c1_3 : Cha) (i3_3 : Int) (b0_0_3 : List UInt8) (b0_1_3 : Int) (b0_2_3 : Int) (b0_3_3 : Bool) (k6_3 : Int) : Option (((Int × Unit) ⊕ Unit) ⊕ Unit) :=
  (Option.bind (Go.Vx.idx c1_3.fst k6_3) fun (v4 : Sta) => (bif v4.fst == b0_0_3 then (some (Sum.inl (Sum.inl (((9 : Int), ()))))) else (some (Sum.inr ()))))

noncomputable def ref06_CheckChart_f3 (c1_3 : Cha) (i3_3 : Int) (b0_0_3 : List UInt8) (b0_1_3 : Int) (b0_2_3 : Int) (b0_3_3 : Bool) : Option ((Int × Unit) ⊕ Unit) :=
  (bif Decidable.decide (b0_1_3 < (-1 : Int)) then (some (Sum.inl (((11 : Int), ())))) else (bif Decidable.decide (b0_1_3 ≥ i3_3) then (some (Sum.inl (((11 : Int), ())))) else (some (Sum.inr ()))))

theorem ref06_CheckChart_m_w3_le (n : Nat) (hn : big ≤ n)  (r0 : Cha → Int → Option (Int × Unit)) (c1_3 : Cha) (i3_3 : Int) (b0_0_3 : List UInt8) (b0_1_3 : Int) (b0_2_3 : Int) (b0_3_3 : Bool) (hx : (i3_3) ≤ (9223372036854775807 : Int)) : LeF (elim some fun (s__ : Unit) => r0 c1_3 (Go.IntKind.i64.wrap (i3_3 + 1))) (loopN (fun i__ s__ => ref06_CheckChart_b3 c1_3 i3_3 b0_0_3 b0_1_3 b0_2_3 b0_3_3 i__) (fun s__ => ref06_CheckChart_f3 c1_3 i3_3 b0_0_3 b0_1_3 b0_2_3 b0_3_3) ((i3_3) - 0).toNat 0 ()) (ref06_CheckChart_m_w3 n r0 n c1_3 i3_3 0 b0_0_3 b0_1_3 b0_2_3 b0_3_3) := by
  refine loopN_le (f := (elim some fun (s__ : Unit) => r0 c1_3 (Go.IntKind.i64.wrap (i3_3 + 1)))) (W := fun k__ i__ s__ => ref06_CheckChart_m_w3 n r0 k__ c1_3 i3_3 i__ b0_0_3 b0_1_3 b0_2_3 b0_3_3) (body := (fun i__ s__ => ref06_CheckChart_b3 c1_3 i3_3 b0_0_3 b0_1_3 b0_2_3 b0_3_3 i__)) (fin := (fun s__ => ref06_CheckChart_f3 c1_3 i3_3 b0_0_3 b0_1_3 b0_2_3 b0_3_3)) (fun k__ i__ s__ => ?_) hx () n 0 (by decide) (by unfold big at hn; omega)
  show LeF _ _ (ref06_CheckChart_m_l3 n r0 (ref06_CheckChart_m_w3 n r0 k__) c1_3 i3_3 i__ b0_0_3 b0_1_3 b0_2_3 b0_3_3)
  exact leCond (leBind fun v4 => (leCond (leSome rfl) (leSome rfl))) (leMap (leCond (leSome rfl) (leCond (leSome rfl) (leSome rfl))))

noncomputable def ref06_CheckChart_b19 (c1_19 : Cha) (i11_19 : Int) (v20 : Tra) : Option ((Int × Unit) ⊕ Unit) :=
  (bif (Go.Tw.ref01_CheckRange v20.fst (0 : Int) (Go.IntKind.i64.wrap ((↑c1_19.fst.length : Int) - (1 : Int)))).fst != (0 : Int) then (some (Sum.inl (((10 : Int), ())))) else (bif (Go.Tw.ref01_CheckRange v20.snd.snd.fst (0 : Int) (Go.IntKind.i64.wrap ((↑c1_19.fst.length : Int) - (1 : Int)))).fst != (0 : Int) then (some (Sum.inl (((10 : Int), ())))) else (Option.bind (Go.Tw.ref01_CheckName_M v20.snd.fst) fun (v23 : Int × Unit) => (Option.bind (Go.Tw.ref01_First_M [v23.fst, (Go.Tw.ref01_CheckRange v20.snd.snd.snd.fst (0 : Int) (15 : Int)).fst, (Go.Tw.ref01_CheckRange v20.snd.snd.snd.snd.fst (0 : Int) (15 : Int)).fst, (Go.Tw.ref06_when (Go.Vx.bitsOp Go.IntKind.i64 Go.BinOp.and v20.snd.snd.snd.snd.fst v20.snd.snd.snd.fst != v20.snd.snd.snd.snd.fst) (1 : Int)).fst]) fun (v24 : Int × Unit) => (bif v24.fst != (0 : Int) then (some (Sum.inl ((v24.fst, ())))) else (some (Sum.inr ())))))))

noncomputable def ref06_CheckChart_f19 (c1_19 : Cha) : Option (Int × Unit) :=
  (Option.bind (Go.Tw.ref06_Events_M c1_19) fun (v25 : List (List UInt8) × Unit) => (some (((Go.Tw.ref06_when (Decidable.decide ((↑v25.fst.length : Int) > (8 : Int))) (5 : Int)).fst, ()))))

theorem ref06_CheckChart_m_w19_le (n : Nat) (hn : big ≤ n)  (c1_19 : Cha) (hx : List.length (c1_19.snd.fst) < lenMax) : LeF some (loopL (fun i__ e__ s__ => ref06_CheckChart_b19 c1_19 i__ e__) (fun s__ => ref06_CheckChart_f19 c1_19) 0 (c1_19.snd.fst) ()) (ref06_CheckChart_m_w19 n n c1_19 0) := by
  refine loopL_le (f := some) (W := fun k__ i__ s__ => ref06_CheckChart_m_w19 n k__ c1_19 i__) (body := (fun i__ e__ s__ => ref06_CheckChart_b19 c1_19 i__ e__)) (fin := (fun s__ => ref06_CheckChart_f19 c1_19)) (fun k__ i__ s__ => ?_) hx () n (by unfold big at hn; unfold lenMax at hx; omega)
  show LeF _ _ (ref06_CheckChart_m_l19 n (ref06_CheckChart_m_w19 n k__) c1_19 i__)
  exact leCond (leBind fun v20 => (leCond (leSome rfl) (leCond (leSome rfl) (leBind fun v23 => (leBind fun v24 => (leCond (leSome rfl) (leSome rfl))))))) (leMap (leBind fun v25 => (leSome rfl)))

noncomputable def ref06_CheckChart_b7 (c1_7 : Cha) (i7_7 : Int) (v8 : Sta) : Option ((Int × Unit) ⊕ Unit) :=
  (Option.bind (Go.Tw.ref06_children_M c1_7 i7_7 v8.snd.snd.fst) fun (v9 : Int × Bool × Unit) => (bif Decidable.decide (v9.fst > (0 : Int)) then (bif !v9.snd.fst then (some (Sum.inl (((1 : Int), ())))) else (bif v8.snd.snd.snd.fst then (some (Sum.inl (((1 : Int), ())))) else (bif v9.fst == (0 : Int) then (bif v8.snd.snd.fst != (-1 : Int) then (some (Sum.inl (((1 : Int), ())))) else (some (Sum.inr ()))) else (some (Sum.inr ()))))) else (bif v9.fst == (0 : Int) then (bif v8.snd.snd.fst != (-1 : Int) then (some (Sum.inl (((1 : Int), ())))) else (some (Sum.inr ()))) else (some (Sum.inr ())))))

noncomputable def ref06_CheckChart_f7 (c1_7 : Cha) : Option (Int × Unit) :=
  (bif Decidable.decide ((↑c1_7.snd.fst.length : Int) > (48 : Int)) then (some (((5 : Int), ()))) else (bif decide (List.length (c1_7.snd.fst) < lenMax) then loopL (fun i__ e__ s__ => ref06_CheckChart_b19 (c1_7) i__ e__) (fun s__ => ref06_CheckChart_f19 (c1_7)) 0 (c1_7.snd.fst) () else none))

theorem ref06_CheckChart_m_w7_le (n : Nat) (hn : big ≤ n)  (c1_7 : Cha) (hx : List.length (c1_7.fst) < lenMax) : LeF some (loopL (fun i__ e__ s__ => ref06_CheckChart_b7 c1_7 i__ e__) (fun s__ => ref06_CheckChart_f7 c1_7) 0 (c1_7.fst) ()) (ref06_CheckChart_m_w7 n n c1_7 0) := by
  refine loopL_le (f := some) (W := fun k__ i__ s__ => ref06_CheckChart_m_w7 n k__ c1_7 i__) (body := (fun i__ e__ s__ => ref06_CheckChart_b7 c1_7 i__ e__)) (fin := (fun s__ => ref06_CheckChart_f7 c1_7)) (fun k__ i__ s__ => ?_) hx () n (by unfold big at hn; unfold lenMax at hx; omega)
  show LeF _ _ (ref06_CheckChart_m_l7 n (ref06_CheckChart_m_w7 n k__) c1_7 i__)
  exact leCond (leBind fun v8 => (leBind fun v9 => (leCond (leCond (leSome rfl) (leCond (leSome rfl) (leCond (leCond (leSome rfl) (leSome rfl)) (leSome rfl)))) (leCond (leCond (leSome rfl) (leSome rfl)) (leSome rfl))))) (leMap (leCond (leSome rfl) (leGuard fun hx => by apply ref06_CheckChart_m_w19_le n hn; exact hx)))

noncomputable def ref06_CheckChart_b0 (c1_0 : Cha) (i3_0 : Int) (v1 : Sta) : Option ((Int × Unit) ⊕ Unit) :=
  (Option.bind (Go.Tw.ref01_CheckName_M v1.fst) fun (v2 : Int × Unit) => (bif v2.fst != (0 : Int) then (some (Sum.inl ((v2.fst, ())))) else (bif decide ((i3_0) ≤ (9223372036854775807 : Int)) then loopN (fun i__ s__ => ref06_CheckChart_b3 (c1_0) (i3_0) (v1.fst) (v1.snd.fst) (v1.snd.snd.fst) (v1.snd.snd.snd.fst) i__) (fun s__ => ref06_CheckChart_f3 (c1_0) (i3_0) (v1.fst) (v1.snd.fst) (v1.snd.snd.fst) (v1.snd.snd.snd.fst)) ((i3_0) - 0).toNat 0 () else none)))

noncomputable def ref06_CheckChart_f0 (c1_0 : Cha) : Option (Int × Unit) :=
  (bif decide (List.length (c1_0.fst) < lenMax) then loopL (fun i__ e__ s__ => ref06_CheckChart_b7 (c1_0) i__ e__) (fun s__ => ref06_CheckChart_f7 (c1_0)) 0 (c1_0.fst) () else none)

theorem ref06_CheckChart_m_w0_le (n : Nat) (hn : big ≤ n)  (c1_0 : Cha) (hx : List.length (c1_0.fst) < lenMax) : LeF some (loopL (fun i__ e__ s__ => ref06_CheckChart_b0 c1_0 i__ e__) (fun s__ => ref06_CheckChart_f0 c1_0) 0 (c1_0.fst) ()) (ref06_CheckChart_m_w0 n n c1_0 0) := by
  refine loopL_le (f := some) (W := fun k__ i__ s__ => ref06_CheckChart_m_w0 n k__ c1_0 i__) (body := (fun i__ e__ s__ => ref06_CheckChart_b0 c1_0 i__ e__)) (fin := (fun s__ => ref06_CheckChart_f0 c1_0)) (fun k__ i__ s__ => ?_) hx () n (by unfold big at hn; unfold lenMax at hx; omega)
  show LeF _ _ (ref06_CheckChart_m_l0 n (ref06_CheckChart_m_w0 n k__) c1_0 i__)
  exact leCond (leBind fun v1 => (leBind fun v2 => (leCond (leSome rfl) (leGuard fun hx => by apply ref06_CheckChart_m_w3_le n hn; exact hx)))) (leMap (leGuard fun hx => by apply ref06_CheckChart_m_w7_le n hn; exact hx))

noncomputable def ref06_CheckChart_M (c : Cha) : Option (Int × Unit) :=
  (bif (↑c.fst.length : Int) == (0 : Int) then (some (((12 : Int), ()))) else (bif Decidable.decide ((↑c.fst.length : Int) > (16 : Int)) then (some (((5 : Int), ()))) else (bif decide (List.length (c.fst) < lenMax) then loopL (fun i__ e__ s__ => ref06_CheckChart_b0 (c) i__ e__) (fun s__ => ref06_CheckChart_f0 (c)) 0 (c.fst) () else none)))

theorem ref06_CheckChart_run (c : Cha) (y : Int × Unit) (h : ref06_CheckChart_M c = some y) : ∃ n, ref06_CheckChart_m n c = some y :=
  ⟨big, LeF.top (show LeF some (ref06_CheckChart_M c) (ref06_CheckChart_m big c) from (fun (n : Nat) (hn : big ≤ n) => show LeF some (ref06_CheckChart_M c) (ref06_CheckChart_m n c) from (leCond (leSome rfl) (leCond (leSome rfl) (leGuard fun hx => by apply ref06_CheckChart_m_w0_le n hn; exact hx)))) big (Nat.le_refl _)) h⟩
noncomputable def ref06_CheckChart_e : Entry := { f := 20, args := ref06_CheckChart_a, ress := ref06_CheckChart_r, m := fun x => ref06_CheckChart_M x.1 }
theorem ref06_CheckChart_ok : FnOK Tryz.prog ref06_CheckChart_e := fn_ok (g := ref06_CheckChart_g) (fn := Tryz.f20) hmixed tabOk (eCons ref01_CheckName_ok (eCons ref06_children_ok (eCons ref01_CheckRange_ok (eCons ref06_when_ok (eCons ref01_First_ok (eCons ref06_Events_ok eNil)))))) (by kernel_rfl) (by kernel_rfl) (by kernel_rfl) (fun x y h => let ⟨n, hn⟩ := ref06_CheckChart_run x.1 y h; ⟨ref06_CheckChart_an n, iNil, (ref06_CheckChart_eq n x).trans hn⟩)

/-! ### tidewayref06.CheckInput -/
/-! ### tidewayref06.Step -/
/-! ### tidewayref06.CheckCommands -/
/-! ### (gate.Chart).events -/
abbrev gate_Chart_events_a : Ty := .pair t35 .unit
abbrev gate_Chart_events_r : Ty := .pair t37 .unit
noncomputable def gate_Chart_events_g : G := { T := T, E := [slices_Contains_string_string_e], muts := [3], fz := [] }
def gate_Chart_events_k : List (List Nat) := [[3, 7, 8, 9]]
noncomputable def gate_Chart_events_an (n : Nat) : Ann := { keep := gate_Chart_events_k, fuel := n, inl := [], deep := 0 }
noncomputable def gate_Chart_events_m_l0 (n : Nat) (r0 : List Tra → Int → Int → List (List UInt8) → Option (List (List UInt8) × Unit)) (t7_0 : List Tra) (t8_0 : Int) (t9_0 : Int) (c0_0 : List (List UInt8)) : Option (List (List UInt8) × Unit) :=
  (bif Decidable.decide (t9_0 < t8_0) then (Option.bind (Go.Vx.idx t7_0 t9_0) fun (v1 : Tra) => (Option.bind (Go.Tw.slices_Contains_string_string_M c0_0 v1.snd.fst) fun (v2 : Bool × Unit) => (bif !v2.fst then (bif Decidable.decide (c0_0.length + (1 : Nat) ≤ Go.Vx.memMax) then r0 t7_0 t8_0 (Go.IntKind.i64.wrap (t9_0 + (1 : Int))) (c0_0 ++ [v1.snd.fst]) else none) else r0 t7_0 t8_0 (Go.IntKind.i64.wrap (t9_0 + (1 : Int))) c0_0))) else Option.some (c0_0, ()))

noncomputable def gate_Chart_events_m_w0 (n : Nat)  (k : Nat) (t7_0 : List Tra) (t8_0 : Int) (t9_0 : Int) (c0_0 : List (List UInt8)) : Option (List (List UInt8) × Unit) :=
  iter (fun r y => gate_Chart_events_m_l0 n (fun t7_0 t8_0 t9_0 c0_0 => r ((t7_0, (t8_0, (t9_0, ()))), ((c0_0, ()), ()))) y.1.1 y.1.2.1 y.1.2.2.1 y.2.1.1) k ((t7_0, (t8_0, (t9_0, ()))), ((c0_0, ()), ()))

noncomputable def gate_Chart_events_m (n : Nat) (c : Cha) : Option (List (List UInt8) × Unit) :=
  (gate_Chart_events_m_w0 n n (c.snd.fst) ((↑c.snd.fst.length : Int)) ((0 : Int)) ([]))

theorem gate_Chart_events_eq (n : Nat) (x : gate_Chart_events_a.den) : runF gate_Chart_events_g (gate_Chart_events_an n) Tryz.f87 gate_Chart_events_a gate_Chart_events_r x = gate_Chart_events_m n x.1 := by kernel_rfl

noncomputable def gate_Chart_events_b0 (t7_0 : List Tra) (t9_0 : Int) (v1 : Tra) (c0_0 : List (List UInt8)) : Option ((List (List UInt8) × Unit) ⊕ (List (List UInt8))) :=
  (Option.bind (Go.Tw.slices_Contains_string_string_M c0_0 v1.snd.fst) fun (v2 : Bool × Unit) => (bif !v2.fst then (bif Decidable.decide (c0_0.length + (1 : Nat) ≤ Go.Vx.memMax) then (some (Sum.inr (c0_0 ++ [v1.snd.fst]))) else none) else (some (Sum.inr (c0_0)))))

noncomputable def gate_Chart_events_f0 (t7_0 : List Tra) (c0_0 : List (List UInt8)) : Option (List (List UInt8) × Unit) :=
  (some ((c0_0, ())))

theorem gate_Chart_events_m_w0_le (n : Nat) (hn : big ≤ n)  (t7_0 : List Tra) (c0_0 : List (List UInt8)) (hx : List.length (t7_0) < lenMax) : LeF some (loopL (fun i__ e__ s__ => gate_Chart_events_b0 t7_0 i__ e__ s__) (fun s__ => gate_Chart_events_f0 t7_0 s__) 0 (t7_0) c0_0) (gate_Chart_events_m_w0 n n t7_0 (List.length (t7_0) : Int) 0 c0_0) := by
  refine loopL_le (f := some) (W := fun k__ i__ s__ => gate_Chart_events_m_w0 n k__ t7_0 (List.length (t7_0) : Int) i__ s__) (body := (fun i__ e__ s__ => gate_Chart_events_b0 t7_0 i__ e__ s__)) (fin := (fun s__ => gate_Chart_events_f0 t7_0 s__)) (fun k__ i__ s__ => ?_) hx c0_0 n (by unfold big at hn; unfold lenMax at hx; omega)
  show LeF _ _ (gate_Chart_events_m_l0 n (gate_Chart_events_m_w0 n k__) t7_0 (List.length (t7_0) : Int) i__ s__)
  exact leCond (leBind fun v1 => (leBind fun v2 => (leCond (leCond (leSome rfl) leNone) (leSome rfl)))) (leMap (leSome rfl))

noncomputable def gate_Chart_events_M (c : Cha) : Option (List (List UInt8) × Unit) :=
  (bif decide (List.length (c.snd.fst) < lenMax) then loopL (fun i__ e__ s__ => gate_Chart_events_b0 (c.snd.fst) i__ e__ s__) (fun s__ => gate_Chart_events_f0 (c.snd.fst) s__) 0 (c.snd.fst) ([]) else none)

theorem gate_Chart_events_run (c : Cha) (y : List (List UInt8) × Unit) (h : gate_Chart_events_M c = some y) : ∃ n, gate_Chart_events_m n c = some y :=
  ⟨big, LeF.top (show LeF some (gate_Chart_events_M c) (gate_Chart_events_m big c) from (fun (n : Nat) (hn : big ≤ n) => show LeF some (gate_Chart_events_M c) (gate_Chart_events_m n c) from (leGuard fun hx => by apply gate_Chart_events_m_w0_le n hn; exact hx)) big (Nat.le_refl _)) h⟩
noncomputable def gate_Chart_events_e : Entry := { f := 87, args := gate_Chart_events_a, ress := gate_Chart_events_r, m := fun x => gate_Chart_events_M x.1 }
theorem gate_Chart_events_ok : FnOK Tryz.prog gate_Chart_events_e := fn_ok (g := gate_Chart_events_g) (fn := Tryz.f87) hmixed tabOk (eCons slices_Contains_string_string_ok eNil) (by kernel_rfl) (by kernel_rfl) (by kernel_rfl) (fun x y h => let ⟨n, hn⟩ := gate_Chart_events_run x.1 y h; ⟨gate_Chart_events_an n, iNil, (gate_Chart_events_eq n x).trans hn⟩)

/-! ### (gate.Chart).checkStates -/
abbrev gate_Chart_checkStates_a : Ty := .pair t35 .unit
abbrev gate_Chart_checkStates_r : Ty := .pair t29 .unit
noncomputable def gate_Chart_checkStates_g : G := { T := T, E := [gate_checkName_e, gate_when_e, gate_first_e, slices_Contains_int_int_e], muts := [12, 13], fz := [13] }
def gate_Chart_checkStates_k : List (List Nat) := [[1, 3, 4, 15, 16, 17], [4, 60, 61, 62]]
noncomputable def gate_Chart_checkStates_an (n : Nat) : Ann := { keep := gate_Chart_checkStates_k, fuel := n, inl := [], deep := 0 }
noncomputable def gate_Chart_checkStates_m_j19 (n : Nat) (r0 : Cha → List Sta → Int → Int → List (List UInt8 × Bool) → List (Int × List Int) → Option (Int × Unit)) (c1_0 : Cha) (t15_0 : List Sta) (t16_0 : Int) (t17_0 : Int) (m0_0 : List (List UInt8 × Bool)) (m1_0 : List (Int × List Int)) (v1 : Sta) : Option (Int × Unit) :=
  (bif Go.Vx.eqKey (Go.Vx.Ty.int Go.IntKind.i64) v1.snd.fst v1.snd.fst then (bif Decidable.decide (((Go.Vx.mapGet (Go.Vx.Ty.int Go.IntKind.i64) (Go.Vx.Ty.int Go.IntKind.i64).slice m1_0 v1.snd.fst).getD []).length + (1 : Nat) ≤ Go.Vx.memMax) then (bif Go.Vx.eqKey (Go.Vx.Ty.int Go.IntKind.i64) v1.snd.fst v1.snd.fst then r0 c1_0 t15_0 t16_0 (Go.IntKind.i64.wrap (t17_0 + (1 : Int))) (Go.Vx.mapPut Go.Vx.Ty.str Go.Vx.Ty.bool m0_0 v1.fst Bool.true) (Go.Vx.mapPut (Go.Vx.Ty.int Go.IntKind.i64) (Go.Vx.Ty.int Go.IntKind.i64).slice m1_0 v1.snd.fst ((Go.Vx.mapGet (Go.Vx.Ty.int Go.IntKind.i64) (Go.Vx.Ty.int Go.IntKind.i64).slice m1_0 v1.snd.fst).getD [] ++ [t17_0])) else none) else none) else none)

noncomputable def gate_Chart_checkStates_m_l20 (n : Nat) (r20 : List (Int × List Int) → List Sta → Int → Int → Option (Int × Unit)) (children4_20 : List (Int × List Int)) (t60_20 : List Sta) (t61_20 : Int) (t62_20 : Int) : Option (Int × Unit) :=
  (bif Decidable.decide (t62_20 < t61_20) then (Option.bind (Go.Vx.idx t60_20 t62_20) fun (v21 : Sta) => (bif (↑((Go.Vx.mapGet (Go.Vx.Ty.int Go.IntKind.i64) (Go.Vx.Ty.int Go.IntKind.i64).slice children4_20 t62_20).getD []).length : Int) == (0 : Int) then (bif v21.snd.snd.fst != (-1 : Int) then Option.some ((1 : Int), ()) else (bif !(↑((Go.Vx.mapGet (Go.Vx.Ty.int Go.IntKind.i64) (Go.Vx.Ty.int Go.IntKind.i64).slice children4_20 t62_20).getD []).length : Int) == (0 : Int) then (bif v21.snd.snd.snd.fst then Option.some ((1 : Int), ()) else (Option.bind (Go.Tw.slices_Contains_int_int_M ((Go.Vx.mapGet (Go.Vx.Ty.int Go.IntKind.i64) (Go.Vx.Ty.int Go.IntKind.i64).slice children4_20 t62_20).getD []) v21.snd.snd.fst) fun (v22 : Bool × Unit) => (bif !v22.fst then Option.some ((1 : Int), ()) else r20 children4_20 t60_20 t61_20 (Go.IntKind.i64.wrap (t62_20 + (1 : Int)))))) else r20 children4_20 t60_20 t61_20 (Go.IntKind.i64.wrap (t62_20 + (1 : Int))))) else (bif !(↑((Go.Vx.mapGet (Go.Vx.Ty.int Go.IntKind.i64) (Go.Vx.Ty.int Go.IntKind.i64).slice children4_20 t62_20).getD []).length : Int) == (0 : Int) then (bif v21.snd.snd.snd.fst then Option.some ((1 : Int), ()) else (Option.bind (Go.Tw.slices_Contains_int_int_M ((Go.Vx.mapGet (Go.Vx.Ty.int Go.IntKind.i64) (Go.Vx.Ty.int Go.IntKind.i64).slice children4_20 t62_20).getD []) v21.snd.snd.fst) fun (v23 : Bool × Unit) => (bif !v23.fst then Option.some ((1 : Int), ()) else r20 children4_20 t60_20 t61_20 (Go.IntKind.i64.wrap (t62_20 + (1 : Int)))))) else r20 children4_20 t60_20 t61_20 (Go.IntKind.i64.wrap (t62_20 + (1 : Int)))))) else Option.some ((0 : Int), ()))

noncomputable def gate_Chart_checkStates_m_w20 (n : Nat)  (k : Nat) (children4_20 : List (Int × List Int)) (t60_20 : List Sta) (t61_20 : Int) (t62_20 : Int) : Option (Int × Unit) :=
  iter (fun r y => gate_Chart_checkStates_m_l20 n (fun children4_20 t60_20 t61_20 t62_20 => r ((children4_20, (t60_20, (t61_20, (t62_20, ())))), ((), ()))) y.1.1 y.1.2.1 y.1.2.2.1 y.1.2.2.2.1) k ((children4_20, (t60_20, (t61_20, (t62_20, ())))), ((), ()))

noncomputable def gate_Chart_checkStates_m_l0 (n : Nat) (r0 : Cha → List Sta → Int → Int → List (List UInt8 × Bool) → List (Int × List Int) → Option (Int × Unit)) (c1_0 : Cha) (t15_0 : List Sta) (t16_0 : Int) (t17_0 : Int) (m0_0 : List (List UInt8 × Bool)) (m1_0 : List (Int × List Int)) : Option (Int × Unit) :=
  (bif Decidable.decide (t17_0 < t16_0) then (Option.bind (Go.Vx.idx t15_0 t17_0) fun (v1 : Sta) => (Option.bind (Go.Tw.gate_checkName_M v1.fst) fun (v2 : Int × Unit) => (bif Decidable.decide (v1.snd.fst < (-1 : Int)) then (Option.bind (Go.Tw.gate_first_M [v2.fst, (Go.Tw.gate_when ((Go.Vx.mapGet Go.Vx.Ty.str Go.Vx.Ty.bool m0_0 v1.fst).getD Bool.false) (9 : Int)).fst, (Go.Tw.gate_when Bool.true (11 : Int)).fst]) fun (v3 : Int × Unit) => (bif v3.fst != (0 : Int) then Option.some (v3.fst, ()) else (gate_Chart_checkStates_m_j19 n r0 c1_0 t15_0 t16_0 t17_0 m0_0 m1_0 v1))) else (Option.bind (Go.Tw.gate_first_M [v2.fst, (Go.Tw.gate_when ((Go.Vx.mapGet Go.Vx.Ty.str Go.Vx.Ty.bool m0_0 v1.fst).getD Bool.false) (9 : Int)).fst, (Go.Tw.gate_when (Decidable.decide (v1.snd.fst ≥ t17_0)) (11 : Int)).fst]) fun (v4 : Int × Unit) => (bif v4.fst != (0 : Int) then Option.some (v4.fst, ()) else (gate_Chart_checkStates_m_j19 n r0 c1_0 t15_0 t16_0 t17_0 m0_0 m1_0 v1)))))) else (gate_Chart_checkStates_m_w20 n n (m1_0) (c1_0.fst) ((↑c1_0.fst.length : Int)) ((0 : Int))))

noncomputable def gate_Chart_checkStates_m_w0 (n : Nat)  (k : Nat) (c1_0 : Cha) (t15_0 : List Sta) (t16_0 : Int) (t17_0 : Int) (m0_0 : List (List UInt8 × Bool)) (m1_0 : List (Int × List Int)) : Option (Int × Unit) :=
  iter (fun r y => gate_Chart_checkStates_m_l0 n (fun c1_0 t15_0 t16_0 t17_0 m0_0 m1_0 => r ((c1_0, (t15_0, (t16_0, (t17_0, ())))), ((m0_0, (m1_0, ())), ()))) y.1.1 y.1.2.1 y.1.2.2.1 y.1.2.2.2.1 y.2.1.1 y.2.1.2.1) k ((c1_0, (t15_0, (t16_0, (t17_0, ())))), ((m0_0, (m1_0, ())), ()))

noncomputable def gate_Chart_checkStates_m (n : Nat) (c : Cha) : Option (Int × Unit) :=
  (gate_Chart_checkStates_m_w0 n n (c) (c.fst) ((↑c.fst.length : Int)) ((0 : Int)) ([]) ([]))

theorem gate_Chart_checkStates_eq (n : Nat) (x : gate_Chart_checkStates_a.den) : runF gate_Chart_checkStates_g (gate_Chart_checkStates_an n) Tryz.f97 gate_Chart_checkStates_a gate_Chart_checkStates_r x = gate_Chart_checkStates_m n x.1 := by kernel_rfl

noncomputable def gate_Chart_checkStates_s19 (c1_0 : Cha) (t15_0 : List Sta) (t17_0 : Int) (m0_0 : List (List UInt8 × Bool)) (m1_0 : List (Int × List Int)) (v1 : Sta) : Option ((Int × Unit) ⊕ (List (List UInt8 × Bool) × List (Int × List Int))) :=
  (bif Go.Vx.eqKey (Go.Vx.Ty.int Go.IntKind.i64) v1.snd.fst v1.snd.fst then (bif Decidable.decide (((Go.Vx.mapGet (Go.Vx.Ty.int Go.IntKind.i64) (Go.Vx.Ty.int Go.IntKind.i64).slice m1_0 v1.snd.fst).getD []).length + (1 : Nat) ≤ Go.Vx.memMax) then (bif Go.Vx.eqKey (Go.Vx.Ty.int Go.IntKind.i64) v1.snd.fst v1.snd.fst then (some (Sum.inr ((Go.Vx.mapPut Go.Vx.Ty.str Go.Vx.Ty.bool m0_0 v1.fst Bool.true), (Go.Vx.mapPut (Go.Vx.Ty.int Go.IntKind.i64) (Go.Vx.Ty.int Go.IntKind.i64).slice m1_0 v1.snd.fst ((Go.Vx.mapGet (Go.Vx.Ty.int Go.IntKind.i64) (Go.Vx.Ty.int Go.IntKind.i64).slice m1_0 v1.snd.fst).getD [] ++ [t17_0]))))) else none) else none) else none)

theorem gate_Chart_checkStates_s19_le (n : Nat) (hn : big ≤ n)  (r0 : Cha → List Sta → Int → Int → List (List UInt8 × Bool) → List (Int × List Int) → Option (Int × Unit)) (c1_0 : Cha) (t15_0 : List Sta) (t17_0 : Int) (m0_0 : List (List UInt8 × Bool)) (m1_0 : List (Int × List Int)) (v1 : Sta) : LeF (elim some fun (s__ : (List (List UInt8 × Bool) × List (Int × List Int))) => r0 c1_0 t15_0 (List.length (t15_0) : Int) (Go.IntKind.i64.wrap (t17_0 + 1)) s__.1 s__.2) (gate_Chart_checkStates_s19 c1_0 t15_0 t17_0 m0_0 m1_0 v1) (gate_Chart_checkStates_m_j19 n r0 c1_0 t15_0 (List.length (t15_0) : Int) t17_0 m0_0 m1_0 v1) :=
  (leCond (leCond (leCond (leSome rfl) leNone) leNone) leNone)

noncomputable def gate_Chart_checkStates_b20 (children4_20 : List (Int × List Int)) (t60_20 : List Sta) (t62_20 : Int) (v21 : Sta) : Option ((Int × Unit) ⊕ Unit) :=
  (bif (↑((Go.Vx.mapGet (Go.Vx.Ty.int Go.IntKind.i64) (Go.Vx.Ty.int Go.IntKind.i64).slice children4_20 t62_20).getD []).length : Int) == (0 : Int) then (bif v21.snd.snd.fst != (-1 : Int) then (some (Sum.inl (((1 : Int), ())))) else (bif !(↑((Go.Vx.mapGet (Go.Vx.Ty.int Go.IntKind.i64) (Go.Vx.Ty.int Go.IntKind.i64).slice children4_20 t62_20).getD []).length : Int) == (0 : Int) then (bif v21.snd.snd.snd.fst then (some (Sum.inl (((1 : Int), ())))) else (Option.bind (Go.Tw.slices_Contains_int_int_M ((Go.Vx.mapGet (Go.Vx.Ty.int Go.IntKind.i64) (Go.Vx.Ty.int Go.IntKind.i64).slice children4_20 t62_20).getD []) v21.snd.snd.fst) fun (v22 : Bool × Unit) => (bif !v22.fst then (some (Sum.inl (((1 : Int), ())))) else (some (Sum.inr ()))))) else (some (Sum.inr ())))) else (bif !(↑((Go.Vx.mapGet (Go.Vx.Ty.int Go.IntKind.i64) (Go.Vx.Ty.int Go.IntKind.i64).slice children4_20 t62_20).getD []).length : Int) == (0 : Int) then (bif v21.snd.snd.snd.fst then (some (Sum.inl (((1 : Int), ())))) else (Option.bind (Go.Tw.slices_Contains_int_int_M ((Go.Vx.mapGet (Go.Vx.Ty.int Go.IntKind.i64) (Go.Vx.Ty.int Go.IntKind.i64).slice children4_20 t62_20).getD []) v21.snd.snd.fst) fun (v23 : Bool × Unit) => (bif !v23.fst then (some (Sum.inl (((1 : Int), ())))) else (some (Sum.inr ()))))) else (some (Sum.inr ()))))

noncomputable def gate_Chart_checkStates_f20 (children4_20 : List (Int × List Int)) (t60_20 : List Sta) : Option (Int × Unit) :=
  (some (((0 : Int), ())))

theorem gate_Chart_checkStates_m_w20_le (n : Nat) (hn : big ≤ n)  (children4_20 : List (Int × List Int)) (t60_20 : List Sta) (hx : List.length (t60_20) < lenMax) : LeF some (loopL (fun i__ e__ s__ => gate_Chart_checkStates_b20 children4_20 t60_20 i__ e__) (fun s__ => gate_Chart_checkStates_f20 children4_20 t60_20) 0 (t60_20) ()) (gate_Chart_checkStates_m_w20 n n children4_20 t60_20 (List.length (t60_20) : Int) 0) := by
  refine loopL_le (f := some) (W := fun k__ i__ s__ => gate_Chart_checkStates_m_w20 n k__ children4_20 t60_20 (List.length (t60_20) : Int) i__) (body := (fun i__ e__ s__ => gate_Chart_checkStates_b20 children4_20 t60_20 i__ e__)) (fin := (fun s__ => gate_Chart_checkStates_f20 children4_20 t60_20)) (fun k__ i__ s__ => ?_) hx () n (by unfold big at hn; unfold lenMax at hx; omega)
  show LeF _ _ (gate_Chart_checkStates_m_l20 n (gate_Chart_checkStates_m_w20 n k__) children4_20 t60_20 (List.length (t60_20) : Int) i__)
  exact leCond (leBind fun v21 => (leCond (leCond (leSome rfl) (leCond (leCond (leSome rfl) (leBind fun v22 => (leCond (leSome rfl) (leSome rfl)))) (leSome rfl))) (leCond (leCond (leSome rfl) (leBind fun v23 => (leCond (leSome rfl) (leSome rfl)))) (leSome rfl)))) (leMap (leSome rfl))

noncomputable def gate_Chart_checkStates_b0 (c1_0 : Cha) (t15_0 : List Sta) (t17_0 : Int) (v1 : Sta) (m0_0 : List (List UInt8 × Bool)) (m1_0 : List (Int × List Int)) : Option ((Int × Unit) ⊕ (List (List UInt8 × Bool) × List (Int × List Int))) :=
  (Option.bind (Go.Tw.gate_checkName_M v1.fst) fun (v2 : Int × Unit) => (bif Decidable.decide (v1.snd.fst < (-1 : Int)) then (Option.bind (Go.Tw.gate_first_M [v2.fst, (Go.Tw.gate_when ((Go.Vx.mapGet Go.Vx.Ty.str Go.Vx.Ty.bool m0_0 v1.fst).getD Bool.false) (9 : Int)).fst, (Go.Tw.gate_when Bool.true (11 : Int)).fst]) fun (v3 : Int × Unit) => (bif v3.fst != (0 : Int) then (some (Sum.inl ((v3.fst, ())))) else (gate_Chart_checkStates_s19 c1_0 t15_0 t17_0 m0_0 m1_0 v1))) else (Option.bind (Go.Tw.gate_first_M [v2.fst, (Go.Tw.gate_when ((Go.Vx.mapGet Go.Vx.Ty.str Go.Vx.Ty.bool m0_0 v1.fst).getD Bool.false) (9 : Int)).fst, (Go.Tw.gate_when (Decidable.decide (v1.snd.fst ≥ t17_0)) (11 : Int)).fst]) fun (v4 : Int × Unit) => (bif v4.fst != (0 : Int) then (some (Sum.inl ((v4.fst, ())))) else (gate_Chart_checkStates_s19 c1_0 t15_0 t17_0 m0_0 m1_0 v1)))))

noncomputable def gate_Chart_checkStates_f0 (c1_0 : Cha) (t15_0 : List Sta) (m0_0 : List (List UInt8 × Bool)) (m1_0 : List (Int × List Int)) : Option (Int × Unit) :=
  (bif decide (List.length (c1_0.fst) < lenMax) then loopL (fun i__ e__ s__ => gate_Chart_checkStates_b20 (m1_0) (c1_0.fst) i__ e__) (fun s__ => gate_Chart_checkStates_f20 (m1_0) (c1_0.fst)) 0 (c1_0.fst) () else none)

theorem gate_Chart_checkStates_m_w0_le (n : Nat) (hn : big ≤ n)  (c1_0 : Cha) (t15_0 : List Sta) (m0_0 : List (List UInt8 × Bool)) (m1_0 : List (Int × List Int)) (hx : List.length (t15_0) < lenMax) : LeF some (loopL (fun i__ e__ s__ => gate_Chart_checkStates_b0 c1_0 t15_0 i__ e__ s__.1 s__.2) (fun s__ => gate_Chart_checkStates_f0 c1_0 t15_0 s__.1 s__.2) 0 (t15_0) (m0_0, m1_0)) (gate_Chart_checkStates_m_w0 n n c1_0 t15_0 (List.length (t15_0) : Int) 0 m0_0 m1_0) := by
  refine loopL_le (f := some) (W := fun k__ i__ s__ => gate_Chart_checkStates_m_w0 n k__ c1_0 t15_0 (List.length (t15_0) : Int) i__ s__.1 s__.2) (body := (fun i__ e__ s__ => gate_Chart_checkStates_b0 c1_0 t15_0 i__ e__ s__.1 s__.2)) (fin := (fun s__ => gate_Chart_checkStates_f0 c1_0 t15_0 s__.1 s__.2)) (fun k__ i__ s__ => ?_) hx (m0_0, m1_0) n (by unfold big at hn; unfold lenMax at hx; omega)
  show LeF _ _ (gate_Chart_checkStates_m_l0 n (gate_Chart_checkStates_m_w0 n k__) c1_0 t15_0 (List.length (t15_0) : Int) i__ s__.1 s__.2)
  exact leCond (leBind fun v1 => (leBind fun v2 => (leCond (leBind fun v3 => (leCond (leSome rfl) (by apply gate_Chart_checkStates_s19_le n hn))) (leBind fun v4 => (leCond (leSome rfl) (by apply gate_Chart_checkStates_s19_le n hn)))))) (leMap (leGuard fun hx => by apply gate_Chart_checkStates_m_w20_le n hn; exact hx))

noncomputable def gate_Chart_checkStates_M (c : Cha) : Option (Int × Unit) :=
  (bif decide (List.length (c.fst) < lenMax) then loopL (fun i__ e__ s__ => gate_Chart_checkStates_b0 (c) (c.fst) i__ e__ s__.1 s__.2) (fun s__ => gate_Chart_checkStates_f0 (c) (c.fst) s__.1 s__.2) 0 (c.fst) (([]), ([])) else none)

theorem gate_Chart_checkStates_run (c : Cha) (y : Int × Unit) (h : gate_Chart_checkStates_M c = some y) : ∃ n, gate_Chart_checkStates_m n c = some y :=
  ⟨big, LeF.top (show LeF some (gate_Chart_checkStates_M c) (gate_Chart_checkStates_m big c) from (fun (n : Nat) (hn : big ≤ n) => show LeF some (gate_Chart_checkStates_M c) (gate_Chart_checkStates_m n c) from (leGuard fun hx => by apply gate_Chart_checkStates_m_w0_le n hn; exact hx)) big (Nat.le_refl _)) h⟩
noncomputable def gate_Chart_checkStates_e : Entry := { f := 97, args := gate_Chart_checkStates_a, ress := gate_Chart_checkStates_r, m := fun x => gate_Chart_checkStates_M x.1 }
theorem gate_Chart_checkStates_ok : FnOK Tryz.prog gate_Chart_checkStates_e := fn_ok (g := gate_Chart_checkStates_g) (fn := Tryz.f97) hmixed tabOk (eCons gate_checkName_ok (eCons gate_when_ok (eCons gate_first_ok (eCons slices_Contains_int_int_ok eNil)))) (by kernel_rfl) (by kernel_rfl) (by kernel_rfl) (fun x y h => let ⟨n, hn⟩ := gate_Chart_checkStates_run x.1 y h; ⟨gate_Chart_checkStates_an n, iNil, (gate_Chart_checkStates_eq n x).trans hn⟩)

/-! ### gate.known -/
abbrev gate_known_a : Ty := .pair t71 .unit
abbrev gate_known_r : Ty := .pair t173 (.pair t29 .unit)
noncomputable def gate_known_g : G := { T := T, E := [gate_within_e, gate_checkName_e, gate_when_e, gate_first_e], muts := [13], fz := [] }
def gate_known_k : List (List Nat) := [[4, 14, 15, 16]]
noncomputable def gate_known_an (n : Nat) : Ann := { keep := gate_known_k, fuel := n, inl := [], deep := 0 }
noncomputable def gate_known_m_l0 (n : Nat) (r0 : List Cmd → Int → Int → List (Int × List UInt8) → Option (List (Int × List UInt8) × Int × Unit)) (t14_0 : List Cmd) (t15_0 : Int) (t16_0 : Int) (m0_0 : List (Int × List UInt8)) : Option (List (Int × List UInt8) × Int × Unit) :=
  (bif Decidable.decide (t16_0 < t15_0) then (Option.bind (Go.Vx.idx t14_0 t16_0) fun (v1 : Cmd) => (Option.bind (Go.Tw.gate_checkName_M v1.snd.snd.fst) fun (v2 : Int × Unit) => (bif (Go.Vx.mapGet (Go.Vx.Ty.int Go.IntKind.i64) Go.Vx.Ty.str m0_0 v1.fst).isSome then (Option.bind (Go.Tw.gate_first_M [(Go.Tw.gate_within v1.fst (1 : Int) (999999999 : Int)).fst, (Go.Tw.gate_within v1.snd.fst (0 : Int) (1 : Int)).fst, v2.fst, (Go.Tw.gate_when (!(Go.Vx.mapGet (Go.Vx.Ty.int Go.IntKind.i64) Go.Vx.Ty.str m0_0 v1.fst).getD [] == v1.snd.snd.fst) (30 : Int)).fst]) fun (v3 : Int × Unit) => (bif v3.fst != (0 : Int) then Option.some ([], v3.fst, ()) else r0 t14_0 t15_0 (Go.IntKind.i64.wrap (t16_0 + (1 : Int))) (Go.Vx.mapPut (Go.Vx.Ty.int Go.IntKind.i64) Go.Vx.Ty.str m0_0 v1.fst v1.snd.snd.fst))) else (Option.bind (Go.Tw.gate_first_M [(Go.Tw.gate_within v1.fst (1 : Int) (999999999 : Int)).fst, (Go.Tw.gate_within v1.snd.fst (0 : Int) (1 : Int)).fst, v2.fst, (Go.Tw.gate_when Bool.false (30 : Int)).fst]) fun (v4 : Int × Unit) => (bif v4.fst != (0 : Int) then Option.some ([], v4.fst, ()) else r0 t14_0 t15_0 (Go.IntKind.i64.wrap (t16_0 + (1 : Int))) (Go.Vx.mapPut (Go.Vx.Ty.int Go.IntKind.i64) Go.Vx.Ty.str m0_0 v1.fst v1.snd.snd.fst)))))) else Option.some (m0_0, (0 : Int), ()))

noncomputable def gate_known_m_w0 (n : Nat)  (k : Nat) (t14_0 : List Cmd) (t15_0 : Int) (t16_0 : Int) (m0_0 : List (Int × List UInt8)) : Option (List (Int × List UInt8) × Int × Unit) :=
  iter (fun r y => gate_known_m_l0 n (fun t14_0 t15_0 t16_0 m0_0 => r ((t14_0, (t15_0, (t16_0, ()))), ((m0_0, ()), ()))) y.1.1 y.1.2.1 y.1.2.2.1 y.2.1.1) k ((t14_0, (t15_0, (t16_0, ()))), ((m0_0, ()), ()))

noncomputable def gate_known_m (n : Nat) (l : List Cmd) : Option (List (Int × List UInt8) × Int × Unit) :=
  (bif Decidable.decide ((↑l.length : Int) > (256 : Int)) then Option.some ([], (5 : Int), ()) else (gate_known_m_w0 n n (l) ((↑l.length : Int)) ((0 : Int)) ([])))

theorem gate_known_eq (n : Nat) (x : gate_known_a.den) : runF gate_known_g (gate_known_an n) Tryz.f107 gate_known_a gate_known_r x = gate_known_m n x.1 := by kernel_rfl

noncomputable def gate_known_b0 (t14_0 : List Cmd) (t16_0 : Int) (v1 : Cmd) (m0_0 : List (Int × List UInt8)) : Option ((List (Int × List UInt8) × Int × Unit) ⊕ (List (Int × List UInt8))) :=
  (Option.bind (Go.Tw.gate_checkName_M v1.snd.snd.fst) fun (v2 : Int × Unit) => (bif (Go.Vx.mapGet (Go.Vx.Ty.int Go.IntKind.i64) Go.Vx.Ty.str m0_0 v1.fst).isSome then (Option.bind (Go.Tw.gate_first_M [(Go.Tw.gate_within v1.fst (1 : Int) (999999999 : Int)).fst, (Go.Tw.gate_within v1.snd.fst (0 : Int) (1 : Int)).fst, v2.fst, (Go.Tw.gate_when (!(Go.Vx.mapGet (Go.Vx.Ty.int Go.IntKind.i64) Go.Vx.Ty.str m0_0 v1.fst).getD [] == v1.snd.snd.fst) (30 : Int)).fst]) fun (v3 : Int × Unit) => (bif v3.fst != (0 : Int) then (some (Sum.inl (([], v3.fst, ())))) else (some (Sum.inr (Go.Vx.mapPut (Go.Vx.Ty.int Go.IntKind.i64) Go.Vx.Ty.str m0_0 v1.fst v1.snd.snd.fst))))) else (Option.bind (Go.Tw.gate_first_M [(Go.Tw.gate_within v1.fst (1 : Int) (999999999 : Int)).fst, (Go.Tw.gate_within v1.snd.fst (0 : Int) (1 : Int)).fst, v2.fst, (Go.Tw.gate_when Bool.false (30 : Int)).fst]) fun (v4 : Int × Unit) => (bif v4.fst != (0 : Int) then (some (Sum.inl (([], v4.fst, ())))) else (some (Sum.inr (Go.Vx.mapPut (Go.Vx.Ty.int Go.IntKind.i64) Go.Vx.Ty.str m0_0 v1.fst v1.snd.snd.fst)))))))

noncomputable def gate_known_f0 (t14_0 : List Cmd) (m0_0 : List (Int × List UInt8)) : Option (List (Int × List UInt8) × Int × Unit) :=
  (some ((m0_0, (0 : Int), ())))

theorem gate_known_m_w0_le (n : Nat) (hn : big ≤ n)  (t14_0 : List Cmd) (m0_0 : List (Int × List UInt8)) (hx : List.length (t14_0) < lenMax) : LeF some (loopL (fun i__ e__ s__ => gate_known_b0 t14_0 i__ e__ s__) (fun s__ => gate_known_f0 t14_0 s__) 0 (t14_0) m0_0) (gate_known_m_w0 n n t14_0 (List.length (t14_0) : Int) 0 m0_0) := by
  refine loopL_le (f := some) (W := fun k__ i__ s__ => gate_known_m_w0 n k__ t14_0 (List.length (t14_0) : Int) i__ s__) (body := (fun i__ e__ s__ => gate_known_b0 t14_0 i__ e__ s__)) (fin := (fun s__ => gate_known_f0 t14_0 s__)) (fun k__ i__ s__ => ?_) hx m0_0 n (by unfold big at hn; unfold lenMax at hx; omega)
  show LeF _ _ (gate_known_m_l0 n (gate_known_m_w0 n k__) t14_0 (List.length (t14_0) : Int) i__ s__)
  exact leCond (leBind fun v1 => (leBind fun v2 => (leCond (leBind fun v3 => (leCond (leSome rfl) (leSome rfl))) (leBind fun v4 => (leCond (leSome rfl) (leSome rfl)))))) (leMap (leSome rfl))

noncomputable def gate_known_M (l : List Cmd) : Option (List (Int × List UInt8) × Int × Unit) :=
  (bif Decidable.decide ((↑l.length : Int) > (256 : Int)) then (some (([], (5 : Int), ()))) else (bif decide (List.length (l) < lenMax) then loopL (fun i__ e__ s__ => gate_known_b0 (l) i__ e__ s__) (fun s__ => gate_known_f0 (l) s__) 0 (l) ([]) else none))

theorem gate_known_run (l : List Cmd) (y : List (Int × List UInt8) × Int × Unit) (h : gate_known_M l = some y) : ∃ n, gate_known_m n l = some y :=
  ⟨big, LeF.top (show LeF some (gate_known_M l) (gate_known_m big l) from (fun (n : Nat) (hn : big ≤ n) => show LeF some (gate_known_M l) (gate_known_m n l) from (leCond (leSome rfl) (leGuard fun hx => by apply gate_known_m_w0_le n hn; exact hx))) big (Nat.le_refl _)) h⟩
noncomputable def gate_known_e : Entry := { f := 107, args := gate_known_a, ress := gate_known_r, m := fun x => gate_known_M x.1 }
theorem gate_known_ok : FnOK Tryz.prog gate_known_e := fn_ok (g := gate_known_g) (fn := Tryz.f107) hmixed tabOk (eCons gate_within_ok (eCons gate_checkName_ok (eCons gate_when_ok (eCons gate_first_ok eNil)))) (by kernel_rfl) (by kernel_rfl) (by kernel_rfl) (fun x y h => let ⟨n, hn⟩ := gate_known_run x.1 y h; ⟨gate_known_an n, iNil, (gate_known_eq n x).trans hn⟩)

/-! ### gate.Vote$1 -/
abbrev gate_Vote_1_a : Ty := .pair t3 .unit
abbrev gate_Vote_1_r : Ty := .pair t29 .unit
noncomputable def gate_Vote_1_g : G := { T := T, E := [gate_within_e], muts := [], fz := [] }
def gate_Vote_1_k : List (List Nat) := []
noncomputable def gate_Vote_1_an (n : Nat) : Ann := { keep := gate_Vote_1_k, fuel := n, inl := [], deep := 0 }
noncomputable def gate_Vote_1_m (n : Nat) (n1 : Int) : Option (Int × Unit) :=
  Option.some ((Go.Tw.gate_within n1 (0 : Int) (1000 : Int)).fst, ())

theorem gate_Vote_1_eq (n : Nat) (x : gate_Vote_1_a.den) : runF gate_Vote_1_g (gate_Vote_1_an n) Tryz.f110 gate_Vote_1_a gate_Vote_1_r x = gate_Vote_1_m n x.1 := by kernel_rfl

noncomputable def gate_Vote_1 (n1 : Int) : (Int × Unit) :=
  ((Go.Tw.gate_within n1 (0 : Int) (1000 : Int)).fst, ())

noncomputable abbrev gate_Vote_1_M (n1 : Int) : Option (Int × Unit) := some (gate_Vote_1 n1)

theorem gate_Vote_1_run (n1 : Int) (y : Int × Unit) (h : gate_Vote_1_M n1 = some y) : ∃ n, gate_Vote_1_m n n1 = some y :=
  ⟨0, by rw [← h]; show gate_Vote_1_m 0 n1 = some (gate_Vote_1 n1); unfold gate_Vote_1_m gate_Vote_1; first | rfl | (simp only [cond_some]; done) | (simp only [cond_some]; rfl)⟩
noncomputable def gate_Vote_1_e : Entry := { f := 110, args := gate_Vote_1_a, ress := gate_Vote_1_r, m := fun x => gate_Vote_1_M x.1 }
theorem gate_Vote_1_ok : FnOK Tryz.prog gate_Vote_1_e := fn_ok (g := gate_Vote_1_g) (fn := Tryz.f110) hmixed tabOk (eCons gate_within_ok eNil) (by kernel_rfl) (by kernel_rfl) (by kernel_rfl) (fun x y h => let ⟨n, hn⟩ := gate_Vote_1_run x.1 y h; ⟨gate_Vote_1_an n, iNil, (gate_Vote_1_eq n x).trans hn⟩)

/-! ### tidewayref06.cases -/
/-! ### (gate.Chart).checkList -/
abbrev gate_Chart_checkList_a : Ty := .pair t35 (.pair t28 .unit)
abbrev gate_Chart_checkList_r : Ty := .pair t29 .unit
noncomputable def gate_Chart_checkList_g : G := { T := T, E := [gate_Chart_checkList_1_e, gate_when_e, slices_ContainsFunc_int_int_e, gate_first_e], muts := [], fz := [] }
def gate_Chart_checkList_k : List (List Nat) := []
noncomputable def gate_Chart_checkList_an (n : Nat) : Ann := { keep := gate_Chart_checkList_k, fuel := n, inl := [], deep := 0 }
noncomputable def gate_Chart_checkList_m (n : Nat) (c : Cha) (l : List Int) : Option (Int × Unit) :=
  (Option.bind (Go.Tw.slices_ContainsFunc_int_int_M l fun (x : Int × Unit) => Go.Tw.gate_Chart_checkList_1_M x.fst c) fun (v0 : Bool × Unit) => (Option.bind (Go.Tw.gate_first_M [(Go.Tw.gate_when (Decidable.decide ((↑l.length : Int) > (16 : Int))) (5 : Int)).fst, (Go.Tw.gate_when v0.fst (10 : Int)).fst]) fun (v1 : Int × Unit) => Option.some (v1.fst, ())))

theorem gate_Chart_checkList_eq (n : Nat) (x : gate_Chart_checkList_a.den) : runF gate_Chart_checkList_g (gate_Chart_checkList_an n) Tryz.f123 gate_Chart_checkList_a gate_Chart_checkList_r x = gate_Chart_checkList_m n x.1 x.2.1 := by kernel_rfl

noncomputable def gate_Chart_checkList_M (c : Cha) (l : List Int) : Option (Int × Unit) := gate_Chart_checkList_m 0 c l

theorem gate_Chart_checkList_run (c : Cha) (l : List Int) (y : Int × Unit) (h : gate_Chart_checkList_M c l = some y) : ∃ n, gate_Chart_checkList_m n c l = some y := ⟨0, h⟩
noncomputable def gate_Chart_checkList_e : Entry := { f := 123, args := gate_Chart_checkList_a, ress := gate_Chart_checkList_r, m := fun x => gate_Chart_checkList_M x.1 x.2.1 }
theorem gate_Chart_checkList_ok : FnOK Tryz.prog gate_Chart_checkList_e := fn_ok (g := gate_Chart_checkList_g) (fn := Tryz.f123) hmixed tabOk (eCons gate_Chart_checkList_1_ok (eCons gate_when_ok (eCons slices_ContainsFunc_int_int_ok (eCons gate_first_ok eNil)))) (by kernel_rfl) (by kernel_rfl) (by kernel_rfl) (fun x y h => let ⟨n, hn⟩ := gate_Chart_checkList_run x.1 x.2.1 y h; ⟨gate_Chart_checkList_an n, iNil, (gate_Chart_checkList_eq n x).trans hn⟩)

/-! ### gate.checkConditions -/
abbrev gate_checkConditions_a : Ty := .pair t3 .unit
abbrev gate_checkConditions_r : Ty := .pair t29 .unit
noncomputable def gate_checkConditions_g : G := { T := T, E := [gate_within_e], muts := [], fz := [] }
def gate_checkConditions_k : List (List Nat) := []
noncomputable def gate_checkConditions_an (n : Nat) : Ann := { keep := gate_checkConditions_k, fuel := n, inl := [], deep := 0 }
noncomputable def gate_checkConditions_m (n : Nat) (n1 : Int) : Option (Int × Unit) :=
  Option.some ((Go.Tw.gate_within n1 (0 : Int) (15 : Int)).fst, ())

theorem gate_checkConditions_eq (n : Nat) (x : gate_checkConditions_a.den) : runF gate_checkConditions_g (gate_checkConditions_an n) Tryz.f138 gate_checkConditions_a gate_checkConditions_r x = gate_checkConditions_m n x.1 := by kernel_rfl

noncomputable def gate_checkConditions (n1 : Int) : (Int × Unit) :=
  ((Go.Tw.gate_within n1 (0 : Int) (15 : Int)).fst, ())

noncomputable abbrev gate_checkConditions_M (n1 : Int) : Option (Int × Unit) := some (gate_checkConditions n1)

theorem gate_checkConditions_run (n1 : Int) (y : Int × Unit) (h : gate_checkConditions_M n1 = some y) : ∃ n, gate_checkConditions_m n n1 = some y :=
  ⟨0, by rw [← h]; show gate_checkConditions_m 0 n1 = some (gate_checkConditions n1); unfold gate_checkConditions_m gate_checkConditions; first | rfl | (simp only [cond_some]; done) | (simp only [cond_some]; rfl)⟩
noncomputable def gate_checkConditions_e : Entry := { f := 138, args := gate_checkConditions_a, ress := gate_checkConditions_r, m := fun x => gate_checkConditions_M x.1 }
theorem gate_checkConditions_ok : FnOK Tryz.prog gate_checkConditions_e := fn_ok (g := gate_checkConditions_g) (fn := Tryz.f138) hmixed tabOk (eCons gate_within_ok eNil) (by kernel_rfl) (by kernel_rfl) (by kernel_rfl) (fun x y h => let ⟨n, hn⟩ := gate_checkConditions_run x.1 y h; ⟨gate_checkConditions_an n, iNil, (gate_checkConditions_eq n x).trans hn⟩)

/-! ### (gate.Chart).step$1 -/
abbrev gate_Chart_step_1_a : Ty := .pair t148 (.pair (.ref t3) (.pair (.ref t55) .unit))
abbrev gate_Chart_step_1_r : Ty := .pair t4 .unit
noncomputable def gate_Chart_step_1_g : G := { T := T, E := [gate_Transition_met_e], muts := [], fz := [] }
def gate_Chart_step_1_k : List (List Nat) := []
noncomputable def gate_Chart_step_1_an (n : Nat) : Ann := { keep := gate_Chart_step_1_k, fuel := n, inl := [], deep := 0 }
noncomputable def gate_Chart_step_1_m (n : Nat) (t : Tra) (p1 : Int) (p2 : List UInt8 × Int × Unit) : Option (Bool × Unit) :=
  (bif t.fst == p1 then (bif t.snd.fst == p2.fst then Option.some ((Go.Tw.gate_Transition_met t p2.snd.fst).fst, ()) else Option.some (Bool.false, ())) else Option.some (Bool.false, ()))

theorem gate_Chart_step_1_eq (n : Nat) (x : gate_Chart_step_1_a.den) : runF gate_Chart_step_1_g (gate_Chart_step_1_an n) Tryz.f140 gate_Chart_step_1_a gate_Chart_step_1_r x = gate_Chart_step_1_m n x.1 x.2.1 x.2.2.1 := by kernel_rfl

noncomputable def gate_Chart_step_1 (t : Tra) (p1 : Int) (p2 : List UInt8 × Int × Unit) : (Bool × Unit) :=
  (bif t.fst == p1 then (bif t.snd.fst == p2.fst then ((Go.Tw.gate_Transition_met t p2.snd.fst).fst, ()) else (Bool.false, ())) else (Bool.false, ()))

noncomputable abbrev gate_Chart_step_1_M (t : Tra) (p1 : Int) (p2 : List UInt8 × Int × Unit) : Option (Bool × Unit) := some (gate_Chart_step_1 t p1 p2)

theorem gate_Chart_step_1_run (t : Tra) (p1 : Int) (p2 : List UInt8 × Int × Unit) (y : Bool × Unit) (h : gate_Chart_step_1_M t p1 p2 = some y) : ∃ n, gate_Chart_step_1_m n t p1 p2 = some y :=
  ⟨0, by rw [← h]; show gate_Chart_step_1_m 0 t p1 p2 = some (gate_Chart_step_1 t p1 p2); unfold gate_Chart_step_1_m gate_Chart_step_1; first | rfl | (simp only [cond_some]; done) | (simp only [cond_some]; rfl)⟩
noncomputable def gate_Chart_step_1_e : Entry := { f := 140, args := gate_Chart_step_1_a, ress := gate_Chart_step_1_r, m := fun x => gate_Chart_step_1_M x.1 x.2.1 x.2.2.1 }
theorem gate_Chart_step_1_ok : FnOK Tryz.prog gate_Chart_step_1_e := fn_ok (g := gate_Chart_step_1_g) (fn := Tryz.f140) hmixed tabOk (eCons gate_Transition_met_ok eNil) (by kernel_rfl) (by kernel_rfl) (by kernel_rfl) (fun x y h => let ⟨n, hn⟩ := gate_Chart_step_1_run x.1 x.2.1 x.2.2.1 y h; ⟨gate_Chart_step_1_an n, iNil, (gate_Chart_step_1_eq n x).trans hn⟩)

/-! ### (gate.Failure).kind -/
abbrev gate_Failure_kind_a : Ty := .pair t131 .unit
abbrev gate_Failure_kind_r : Ty := .pair t220 (.pair t4 .unit)
noncomputable def gate_Failure_kind_g : G := { T := T, E := [gate_kinds_e], muts := [], fz := [] }
def gate_Failure_kind_k : List (List Nat) := [[1, 2, 6, 7]]
noncomputable def gate_Failure_kind_an (n : Nat) : Ann := { keep := gate_Failure_kind_k, fuel := n, inl := [], deep := 0 }
noncomputable def gate_Failure_kind_m_l0 (n : Nat) (r0 : Fai → List (List UInt8 × (Fai × Unit → Option (Fai × Unit)) × (Fai × Int × (List UInt8 × Int × Unit) × Unit → Option ((List UInt8 × Int × Unit) × Bool × Unit)) × Unit) → Int → List UInt8 → Option ((List UInt8 × (Fai × Unit → Option (Fai × Unit)) × (Fai × Int × (List UInt8 × Int × Unit) × Unit → Option ((List UInt8 × Int × Unit) × Bool × Unit)) × Unit) × Bool × Unit)) (f1_0 : Fai) (t6_0 : List (List UInt8 × (Fai × Unit → Option (Fai × Unit)) × (Fai × Int × (List UInt8 × Int × Unit) × Unit → Option ((List UInt8 × Int × Unit) × Bool × Unit)) × Unit)) (t7_0 : Int) (b0_0_0 : List UInt8) : Option ((List UInt8 × (Fai × Unit → Option (Fai × Unit)) × (Fai × Int × (List UInt8 × Int × Unit) × Unit → Option ((List UInt8 × Int × Unit) × Bool × Unit)) × Unit) × Bool × Unit) :=
  (bif Decidable.decide (t7_0 < (3 : Int)) then (Option.bind (Go.Vx.idx t6_0 t7_0) fun (v1 : List UInt8 × (Fai × Unit → Option (Fai × Unit)) × (Fai × Int × (List UInt8 × Int × Unit) × Unit → Option ((List UInt8 × Int × Unit) × Bool × Unit)) × Unit) => (bif v1.fst == f1_0.fst then Option.some ((v1.fst, v1.snd.fst, v1.snd.snd.fst, ()), Bool.true, ()) else r0 f1_0 t6_0 (Go.IntKind.i64.wrap (t7_0 + (1 : Int))) b0_0_0)) else Option.some (([], fun (x : Fai × Unit) => Option.none, fun (x : Fai × Int × (List UInt8 × Int × Unit) × Unit) => Option.none, ()), Bool.false, ()))

noncomputable def gate_Failure_kind_m_w0 (n : Nat)  (k : Nat) (f1_0 : Fai) (t6_0 : List (List UInt8 × (Fai × Unit → Option (Fai × Unit)) × (Fai × Int × (List UInt8 × Int × Unit) × Unit → Option ((List UInt8 × Int × Unit) × Bool × Unit)) × Unit)) (t7_0 : Int) (b0_0_0 : List UInt8) : Option ((List UInt8 × (Fai × Unit → Option (Fai × Unit)) × (Fai × Int × (List UInt8 × Int × Unit) × Unit → Option ((List UInt8 × Int × Unit) × Bool × Unit)) × Unit) × Bool × Unit) :=
  iter (fun r y => gate_Failure_kind_m_l0 n (fun f1_0 t6_0 t7_0 b0_0_0 => r ((f1_0, (t6_0, (t7_0, ()))), (((b0_0_0, ()), ()), ()))) y.1.1 y.1.2.1 y.1.2.2.1 y.2.1.1.1) k ((f1_0, (t6_0, (t7_0, ()))), (((b0_0_0, ()), ()), ()))

noncomputable def gate_Failure_kind_m (n : Nat) (f : Fai) : Option ((List UInt8 × (Fai × Unit → Option (Fai × Unit)) × (Fai × Int × (List UInt8 × Int × Unit) × Unit → Option ((List UInt8 × Int × Unit) × Bool × Unit)) × Unit) × Bool × Unit) :=
  (gate_Failure_kind_m_w0 n n (f) (Go.Tw.gate_kinds.fst) ((0 : Int)) ([]))

theorem gate_Failure_kind_eq (n : Nat) (x : gate_Failure_kind_a.den) : runF gate_Failure_kind_g (gate_Failure_kind_an n) Tryz.f143 gate_Failure_kind_a gate_Failure_kind_r x = gate_Failure_kind_m n x.1 := by kernel_rfl

noncomputable def gate_Failure_kind_b0 (f1_0 : Fai) (t6_0 : List (List UInt8 × (Fai × Unit → Option (Fai × Unit)) × (Fai × Int × (List UInt8 × Int × Unit) × Unit → Option ((List UInt8 × Int × Unit) × Bool × Unit)) × Unit)) (b0_0_0 : List UInt8) (t7_0 : Int) : Option (((List UInt8 × (Fai × Unit → Option (Fai × Unit)) × (Fai × Int × (List UInt8 × Int × Unit) × Unit → Option ((List UInt8 × Int × Unit) × Bool × Unit)) × Unit) × Bool × Unit) ⊕ Unit) :=
  (Option.bind (Go.Vx.idx t6_0 t7_0) fun (v1 : List UInt8 × (Fai × Unit → Option (Fai × Unit)) × (Fai × Int × (List UInt8 × Int × Unit) × Unit → Option ((List UInt8 × Int × Unit) × Bool × Unit)) × Unit) => (bif v1.fst == f1_0.fst then (some (Sum.inl (((v1.fst, v1.snd.fst, v1.snd.snd.fst, ()), Bool.true, ())))) else (some (Sum.inr ()))))

noncomputable def gate_Failure_kind_f0 (f1_0 : Fai) (t6_0 : List (List UInt8 × (Fai × Unit → Option (Fai × Unit)) × (Fai × Int × (List UInt8 × Int × Unit) × Unit → Option ((List UInt8 × Int × Unit) × Bool × Unit)) × Unit)) (b0_0_0 : List UInt8) : Option ((List UInt8 × (Fai × Unit → Option (Fai × Unit)) × (Fai × Int × (List UInt8 × Int × Unit) × Unit → Option ((List UInt8 × Int × Unit) × Bool × Unit)) × Unit) × Bool × Unit) :=
  (some ((([], fun (x : Fai × Unit) => Option.none, fun (x : Fai × Int × (List UInt8 × Int × Unit) × Unit) => Option.none, ()), Bool.false, ())))

theorem gate_Failure_kind_m_w0_le (n : Nat) (hn : big ≤ n)  (f1_0 : Fai) (t6_0 : List (List UInt8 × (Fai × Unit → Option (Fai × Unit)) × (Fai × Int × (List UInt8 × Int × Unit) × Unit → Option ((List UInt8 × Int × Unit) × Bool × Unit)) × Unit)) (b0_0_0 : List UInt8) (hx : ((3 : Int)) ≤ (9223372036854775807 : Int)) : LeF some (loopN (fun i__ s__ => gate_Failure_kind_b0 f1_0 t6_0 b0_0_0 i__) (fun s__ => gate_Failure_kind_f0 f1_0 t6_0 b0_0_0) (((3 : Int)) - 0).toNat 0 ()) (gate_Failure_kind_m_w0 n n f1_0 t6_0 0 b0_0_0) := by
  refine loopN_le (f := some) (W := fun k__ i__ s__ => gate_Failure_kind_m_w0 n k__ f1_0 t6_0 i__ b0_0_0) (body := (fun i__ s__ => gate_Failure_kind_b0 f1_0 t6_0 b0_0_0 i__)) (fin := (fun s__ => gate_Failure_kind_f0 f1_0 t6_0 b0_0_0)) (fun k__ i__ s__ => ?_) hx () n 0 (by decide) (by unfold big at hn; omega)
  show LeF _ _ (gate_Failure_kind_m_l0 n (gate_Failure_kind_m_w0 n k__) f1_0 t6_0 i__ b0_0_0)
  exact leCond (leBind fun v1 => (leCond (leSome rfl) (leSome rfl))) (leMap (leSome rfl))

noncomputable def gate_Failure_kind_M (f : Fai) : Option ((List UInt8 × (Fai × Unit → Option (Fai × Unit)) × (Fai × Int × (List UInt8 × Int × Unit) × Unit → Option ((List UInt8 × Int × Unit) × Bool × Unit)) × Unit) × Bool × Unit) :=
  (bif decide (((3 : Int)) ≤ (9223372036854775807 : Int)) then loopN (fun i__ s__ => gate_Failure_kind_b0 (f) (Go.Tw.gate_kinds.fst) ([]) i__) (fun s__ => gate_Failure_kind_f0 (f) (Go.Tw.gate_kinds.fst) ([])) (((3 : Int)) - 0).toNat 0 () else none)

theorem gate_Failure_kind_run (f : Fai) (y : (List UInt8 × (Fai × Unit → Option (Fai × Unit)) × (Fai × Int × (List UInt8 × Int × Unit) × Unit → Option ((List UInt8 × Int × Unit) × Bool × Unit)) × Unit) × Bool × Unit) (h : gate_Failure_kind_M f = some y) : ∃ n, gate_Failure_kind_m n f = some y :=
  ⟨big, LeF.top (show LeF some (gate_Failure_kind_M f) (gate_Failure_kind_m big f) from (fun (n : Nat) (hn : big ≤ n) => show LeF some (gate_Failure_kind_M f) (gate_Failure_kind_m n f) from (leGuard fun hx => by apply gate_Failure_kind_m_w0_le n hn; exact hx)) big (Nat.le_refl _)) h⟩
noncomputable def gate_Failure_kind_e : Entry := { f := 143, args := gate_Failure_kind_a, ress := gate_Failure_kind_r, m := fun x => gate_Failure_kind_M x.1 }
theorem gate_Failure_kind_ok : FnOK Tryz.prog gate_Failure_kind_e := fn_ok (g := gate_Failure_kind_g) (fn := Tryz.f143) hmixed tabOk (eCons gate_kinds_ok eNil) (by kernel_rfl) (by kernel_rfl) (by kernel_rfl) (fun x y h => let ⟨n, hn⟩ := gate_Failure_kind_run x.1 y h; ⟨gate_Failure_kind_an n, iNil, (gate_Failure_kind_eq n x).trans hn⟩)

/-! ### (gate.Chart).serves$1 -/
abbrev gate_Chart_serves_1_a : Ty := .pair t3 (.pair (.ref t134) .unit)
abbrev gate_Chart_serves_1_r : Ty := .pair t4 .unit
noncomputable def gate_Chart_serves_1_g : G := { T := T, E := [slices_Contains_int_int_e], muts := [], fz := [] }
def gate_Chart_serves_1_k : List (List Nat) := []
noncomputable def gate_Chart_serves_1_an (n : Nat) : Ann := { keep := gate_Chart_serves_1_k, fuel := n, inl := [], deep := 0 }
noncomputable def gate_Chart_serves_1_m (n : Nat) (leaf : Int) (p1 : Goa) : Option (Bool × Unit) :=
  (Option.bind (Go.Tw.slices_Contains_int_int_M p1.snd.fst leaf) fun (v0 : Bool × Unit) => Option.some (v0.fst, ()))

theorem gate_Chart_serves_1_eq (n : Nat) (x : gate_Chart_serves_1_a.den) : runF gate_Chart_serves_1_g (gate_Chart_serves_1_an n) Tryz.f153 gate_Chart_serves_1_a gate_Chart_serves_1_r x = gate_Chart_serves_1_m n x.1 x.2.1 := by kernel_rfl

noncomputable def gate_Chart_serves_1_M (leaf : Int) (p1 : Goa) : Option (Bool × Unit) := gate_Chart_serves_1_m 0 leaf p1

theorem gate_Chart_serves_1_run (leaf : Int) (p1 : Goa) (y : Bool × Unit) (h : gate_Chart_serves_1_M leaf p1 = some y) : ∃ n, gate_Chart_serves_1_m n leaf p1 = some y := ⟨0, h⟩
noncomputable def gate_Chart_serves_1_e : Entry := { f := 153, args := gate_Chart_serves_1_a, ress := gate_Chart_serves_1_r, m := fun x => gate_Chart_serves_1_M x.1 x.2.1 }
theorem gate_Chart_serves_1_ok : FnOK Tryz.prog gate_Chart_serves_1_e := fn_ok (g := gate_Chart_serves_1_g) (fn := Tryz.f153) hmixed tabOk (eCons slices_Contains_int_int_ok eNil) (by kernel_rfl) (by kernel_rfl) (by kernel_rfl) (fun x y h => let ⟨n, hn⟩ := gate_Chart_serves_1_run x.1 x.2.1 y h; ⟨gate_Chart_serves_1_an n, iNil, (gate_Chart_serves_1_eq n x).trans hn⟩)

end Go.Tw
end
