import Derived.Test.YtohhmdogfjmlcaaGreatBT
import Derived.Test.YtohhmdogfjmlcaaGreatB0
import Derived.Test.YtohhmdogfjmlcaaGreatBS
import Derived.Test.YtohhmdogfjmlcaaGreatLP
section
set_option linter.all false
set_option maxRecDepth 1000000
namespace Go.Tw
open Go.Vx Go.Vx.B Go.Proofs
noncomputable section
abbrev yME : Ty := .pair t25 .unit
abbrev yV5 : Ty := .pair t4 .unit
def yPj : G := { T := T, E := [], muts := [], fz := [] }
def yWm : List (List Nat) := [[1, 3], [1, 4]]
def yL3 (n : Nat) : Ann := { keep := yWm, fuel := n, inl := [], deep := 0 }
def yB2 (n : Nat) (r11 : Cha → Int → Option (Bool × Unit)) (c1_11 : Cha) (i4_11 : Int) : Option (Bool × Unit) :=
  (bif decide (i4_11 < (↑c1_11.2.1.length : Int)) then (Option.bind (idx c1_11.2.1 i4_11) fun (v12 : Tra) => (bif decide ((↑v12.2.1.length : Int) > 40) then some (Bool.false, ()) else r11 c1_11 (IntKind.i64.wrap (i4_11 + 1)))) else some (Bool.true, ()))
def y4b (n : Nat)  (k : Nat) (c1_11 : Cha) (i4_11 : Int) : Option (Bool × Unit) :=
  iter (fun r y => yB2 n (fun c1_11 i4_11 => r ((c1_11, (i4_11, ())), ((), ()))) y.1.1 y.1.2.1) k ((c1_11, (i4_11, ())), ((), ()))
def yE4 (n : Nat) (r9 : Cha → Int → Option (Bool × Unit)) (c1_9 : Cha) (i3_9 : Int) : Option (Bool × Unit) :=
  (bif decide (i3_9 < (↑c1_9.1.length : Int)) then (Option.bind (idx c1_9.1 i3_9) fun (v10 : Sta) => (bif decide ((↑v10.1.length : Int) > 40) then some (Bool.false, ()) else r9 c1_9 (IntKind.i64.wrap (i3_9 + 1)))) else (y4b n n (c1_9) ((0 : Int))))
def y6Y (n : Nat)  (k : Nat) (c1_9 : Cha) (i3_9 : Int) : Option (Bool × Unit) :=
  iter (fun r y => yE4 n (fun c1_9 i3_9 => r ((c1_9, (i3_9, ())), ((), ()))) y.1.1 y.1.2.1) k ((c1_9, (i3_9, ())), ((), ()))
def y3B (n : Nat) (c : Cha) : Option (Bool × Unit) :=
  (y6Y n n (c) ((0 : Int)))
def yJn (n : Nat) (c : Cha) : Option (Bool × Unit) :=
  (bif decide ((↑c.1.length : Int) > 7) then (bif (↑c.1.length : Int) != 17 then some (Bool.false, ()) else (bif decide ((↑c.2.1.length : Int) > 12) then (bif (↑c.2.1.length : Int) != 49 then some (Bool.false, ()) else (y3B n c)) else (y3B n c))) else (bif decide ((↑c.2.1.length : Int) > 12) then (bif (↑c.2.1.length : Int) != 49 then some (Bool.false, ()) else (y3B n c)) else (y3B n c)))
theorem yPM (n : Nat) (x : yME.den) : runF yPj (yL3 n) Tryz.f15 yME yV5 x = yJn n x.1 := by kernel_rfl
def y7C (c1_11 : Cha) (i4_11 : Int) (v12 : Tra) : Option ((Bool × Unit) ⊕ Unit) :=
  (bif decide ((↑v12.2.1.length : Int) > 40) then (some (Sum.inl ((Bool.false, ())))) else (some (Sum.inr ())))
def yA7 (c1_11 : Cha) : Option (Bool × Unit) :=
  (some ((Bool.true, ())))
theorem yBT (n : Nat) (hn : big ≤ n)  (c1_11 : Cha) (hx : List.length (c1_11.2.1) < lenMax) : LeF some (yI (fun i__ e__ s__ => y7C c1_11 i__ e__) (fun s__ => yA7 c1_11) 0 (c1_11.2.1) ()) (y4b n n c1_11 0) := by
  refine yJ (f := some) (W := fun k__ i__ s__ => y4b n k__ c1_11 i__) (body := (fun i__ e__ s__ => y7C c1_11 i__ e__)) (fin := (fun s__ => yA7 c1_11)) (fun k__ i__ s__ => ?_) hx () n (by unfold big at hn; unfold lenMax at hx; omega)
  show LeF _ _ (yB2 n (y4b n k__) c1_11 i__)
  exact y0 (y7 fun v12 => (y0 (y3 rfl) (y3 rfl))) (yo (y3 rfl))
def yAh (c1_9 : Cha) (i3_9 : Int) (v10 : Sta) : Option ((Bool × Unit) ⊕ Unit) :=
  (bif decide ((↑v10.1.length : Int) > 40) then (some (Sum.inl ((Bool.false, ())))) else (some (Sum.inr ())))
def yAl (c1_9 : Cha) : Option (Bool × Unit) :=
  (bif decide (List.length (c1_9.2.1) < lenMax) then yI (fun i__ e__ s__ => y7C (c1_9) i__ e__) (fun s__ => yA7 (c1_9)) 0 (c1_9.2.1) () else none)
theorem yCf (n : Nat) (hn : big ≤ n)  (c1_9 : Cha) (hx : List.length (c1_9.1) < lenMax) : LeF some (yI (fun i__ e__ s__ => yAh c1_9 i__ e__) (fun s__ => yAl c1_9) 0 (c1_9.1) ()) (y6Y n n c1_9 0) := by
  refine yJ (f := some) (W := fun k__ i__ s__ => y6Y n k__ c1_9 i__) (body := (fun i__ e__ s__ => yAh c1_9 i__ e__)) (fin := (fun s__ => yAl c1_9)) (fun k__ i__ s__ => ?_) hx () n (by unfold big at hn; unfold lenMax at hx; omega)
  show LeF _ _ (yE4 n (y6Y n k__) c1_9 i__)
  exact y0 (y7 fun v10 => (y0 (y3 rfl) (y3 rfl))) (yo (yK fun hx => by apply yBT n hn; exact hx))
def y2a (c : Cha) : Option (Bool × Unit) :=
  (bif decide (List.length (c.1) < lenMax) then yI (fun i__ e__ s__ => yAh (c) i__ e__) (fun s__ => yAl (c)) 0 (c.1) () else none)
theorem y0Y (n : Nat) (hn : big ≤ n)  (c : Cha) : LeF some (y2a c) (y3B n c) :=
  (yK fun hx => by apply yCf n hn; exact hx)
def yC0 (c : Cha) : Option (Bool × Unit) :=
  (bif decide ((↑c.1.length : Int) > 7) then (bif (↑c.1.length : Int) != 17 then (some ((Bool.false, ()))) else (bif decide ((↑c.2.1.length : Int) > 12) then (bif (↑c.2.1.length : Int) != 49 then (some ((Bool.false, ()))) else (y2a c)) else (y2a c))) else (bif decide ((↑c.2.1.length : Int) > 12) then (bif (↑c.2.1.length : Int) != 49 then (some ((Bool.false, ()))) else (y2a c)) else (y2a c)))
theorem yNH (c : Cha) (y : Bool × Unit) (h : yC0 c = some y) : ∃ n, yJn n c = some y :=
  ⟨big, LeF.top (show LeF some (yC0 c) (yJn big c) from (fun (n : Nat) (hn : big ≤ n) => show LeF some (yC0 c) (yJn n c) from (y0 (y0 (y3 rfl) (y0 (y0 (y3 rfl) (by apply y0Y n hn)) (by apply y0Y n hn))) (y0 (y0 (y3 rfl) (by apply y0Y n hn)) (by apply y0Y n hn)))) big (Nat.le_refl _)) h⟩
def z0e_e : Entry := { f := 15, args := yME, ress := yV5, m := fun x => yC0 x.1 }
theorem yQT : FnOK Tryz.prog z0e_e := yN (g := yPj) (fn := Tryz.f15) yC yM eNil (by kernel_rfl) (by kernel_rfl) (by kernel_rfl) (fun x y h => let ⟨n, hn⟩ := yNH x.1 y h; ⟨yL3 n, iNil, (yPM n x).trans hn⟩)
abbrev yMY : Ty := .pair t25 .unit
abbrev yRk : Ty := .pair t35 .unit
def yQS : G := { T := T, E := [], muts := [3], fz := [] }
def yWp : List (List Nat) := [[1, 2, 3, 9, 10, 11], [2, 3, 23, 24, 25]]
def yLA (n : Nat) : Ann := { keep := yWp, fuel := n, inl := [], deep := 0 }
def yDY (n : Nat) (r2 : List Tra → Int → Int → List Sta → List Tra → Option (Cha × Unit)) (t23_2 : List Tra) (t24_2 : Int) (t25_2 : Int) (cs2_2 : List Sta) (cs3_2 : List Tra) : Option (Cha × Unit) :=
  (bif decide (t25_2 < t24_2) then (Option.bind (idx t23_2 t25_2) fun (v3 : Tra) => (bif decide (cs3_2.length + (1 : Nat) ≤ memMax) then r2 t23_2 t24_2 (IntKind.i64.wrap (t25_2 + 1)) cs2_2 (cs3_2 ++ [(v3.1, v3.2.1, v3.2.2.1, v3.2.2.2.1, v3.2.2.2.2.1, ())]) else none)) else some ((cs2_2, cs3_2, ()), ()))
def y6Z (n : Nat)  (k : Nat) (t23_2 : List Tra) (t24_2 : Int) (t25_2 : Int) (cs2_2 : List Sta) (cs3_2 : List Tra) : Option (Cha × Unit) :=
  iter (fun r y => yDY n (fun t23_2 t24_2 t25_2 cs2_2 cs3_2 => r ((t23_2, (t24_2, (t25_2, ()))), (((), ((), (cs2_2, (cs3_2, ())))), ()))) y.1.1 y.1.2.1 y.1.2.2.1 y.2.1.2.2.1 y.2.1.2.2.2.1) k ((t23_2, (t24_2, (t25_2, ()))), (((), ((), (cs2_2, (cs3_2, ())))), ()))
def yDi (n : Nat) (r0 : Cha → List Sta → Int → Int → List Sta → List Tra → Option (Cha × Unit)) (c1_0 : Cha) (t9_0 : List Sta) (t10_0 : Int) (t11_0 : Int) (cs2_0 : List Sta) (cs3_0 : List Tra) : Option (Cha × Unit) :=
  (bif decide (t11_0 < t10_0) then (Option.bind (idx t9_0 t11_0) fun (v1 : Sta) => (bif decide (cs2_0.length + (1 : Nat) ≤ memMax) then r0 c1_0 t9_0 t10_0 (IntKind.i64.wrap (t11_0 + 1)) (cs2_0 ++ [(v1.1, v1.2.1, v1.2.2.1, v1.2.2.2.1, ())]) cs3_0 else none)) else (y6Z n n (c1_0.2.1) ((↑c1_0.2.1.length : Int)) ((0 : Int)) (cs2_0) (cs3_0)))
def y6d (n : Nat)  (k : Nat) (c1_0 : Cha) (t9_0 : List Sta) (t10_0 : Int) (t11_0 : Int) (cs2_0 : List Sta) (cs3_0 : List Tra) : Option (Cha × Unit) :=
  iter (fun r y => yDi n (fun c1_0 t9_0 t10_0 t11_0 cs2_0 cs3_0 => r ((c1_0, (t9_0, (t10_0, (t11_0, ())))), (((), ((), (cs2_0, (cs3_0, ())))), ()))) y.1.1 y.1.2.1 y.1.2.2.1 y.1.2.2.2.1 y.2.1.2.2.1 y.2.1.2.2.2.1) k ((c1_0, (t9_0, (t10_0, (t11_0, ())))), (((), ((), (cs2_0, (cs3_0, ())))), ()))
def yJN (n : Nat) (c : Cha) : Option (Cha × Unit) :=
  (y6d n n (c) (c.1) ((↑c.1.length : Int)) ((0 : Int)) ([]) ([]))
theorem yRu (n : Nat) (x : yMY.den) : runF yQS (yLA n) Tryz.f17 yMY yRk x = yJN n x.1 := by kernel_rfl
def yEC (t23_2 : List Tra) (cs2_2 : List Sta) (t25_2 : Int) (v3 : Tra) (cs3_2 : List Tra) : Option ((Cha × Unit) ⊕ (List Tra)) :=
  (bif decide (cs3_2.length + (1 : Nat) ≤ memMax) then (some (Sum.inr (cs3_2 ++ [(v3.1, v3.2.1, v3.2.2.1, v3.2.2.2.1, v3.2.2.2.2.1, ())]))) else none)
def yGa (t23_2 : List Tra) (cs2_2 : List Sta) (cs3_2 : List Tra) : Option (Cha × Unit) :=
  (some (((cs2_2, cs3_2, ()), ())))
theorem yCi (n : Nat) (hn : big ≤ n)  (t23_2 : List Tra) (cs2_2 : List Sta) (cs3_2 : List Tra) (hx : List.length (t23_2) < lenMax) : LeF some (yI (fun i__ e__ s__ => yEC t23_2 cs2_2 i__ e__ s__) (fun s__ => yGa t23_2 cs2_2 s__) 0 (t23_2) cs3_2) (y6Z n n t23_2 (List.length (t23_2) : Int) 0 cs2_2 cs3_2) := by
  refine yJ (f := some) (W := fun k__ i__ s__ => y6Z n k__ t23_2 (List.length (t23_2) : Int) i__ cs2_2 s__) (body := (fun i__ e__ s__ => yEC t23_2 cs2_2 i__ e__ s__)) (fin := (fun s__ => yGa t23_2 cs2_2 s__)) (fun k__ i__ s__ => ?_) hx cs3_2 n (by unfold big at hn; unfold lenMax at hx; omega)
  show LeF _ _ (yDY n (y6Z n k__) t23_2 (List.length (t23_2) : Int) i__ cs2_2 s__)
  exact y0 (y7 fun v3 => (y0 (y3 rfl) yc)) (yo (y3 rfl))
def yD9 (c1_0 : Cha) (t9_0 : List Sta) (cs3_0 : List Tra) (t11_0 : Int) (v1 : Sta) (cs2_0 : List Sta) : Option ((Cha × Unit) ⊕ (List Sta)) :=
  (bif decide (cs2_0.length + (1 : Nat) ≤ memMax) then (some (Sum.inr (cs2_0 ++ [(v1.1, v1.2.1, v1.2.2.1, v1.2.2.2.1, ())]))) else none)
def yDh (c1_0 : Cha) (t9_0 : List Sta) (cs3_0 : List Tra) (cs2_0 : List Sta) : Option (Cha × Unit) :=
  (bif decide (List.length (c1_0.2.1) < lenMax) then yI (fun i__ e__ s__ => yEC (c1_0.2.1) (cs2_0) i__ e__ s__) (fun s__ => yGa (c1_0.2.1) (cs2_0) s__) 0 (c1_0.2.1) (cs3_0) else none)
theorem yCv (n : Nat) (hn : big ≤ n)  (c1_0 : Cha) (t9_0 : List Sta) (cs3_0 : List Tra) (cs2_0 : List Sta) (hx : List.length (t9_0) < lenMax) : LeF some (yI (fun i__ e__ s__ => yD9 c1_0 t9_0 cs3_0 i__ e__ s__) (fun s__ => yDh c1_0 t9_0 cs3_0 s__) 0 (t9_0) cs2_0) (y6d n n c1_0 t9_0 (List.length (t9_0) : Int) 0 cs2_0 cs3_0) := by
  refine yJ (f := some) (W := fun k__ i__ s__ => y6d n k__ c1_0 t9_0 (List.length (t9_0) : Int) i__ s__ cs3_0) (body := (fun i__ e__ s__ => yD9 c1_0 t9_0 cs3_0 i__ e__ s__)) (fin := (fun s__ => yDh c1_0 t9_0 cs3_0 s__)) (fun k__ i__ s__ => ?_) hx cs2_0 n (by unfold big at hn; unfold lenMax at hx; omega)
  show LeF _ _ (yDi n (y6d n k__) c1_0 t9_0 (List.length (t9_0) : Int) i__ s__ cs3_0)
  exact y0 (y7 fun v1 => (y0 (y3 rfl) yc)) (yo (yK fun hx => by apply yCi n hn; exact hx))
def y2t (c : Cha) : Option (Cha × Unit) :=
  (bif decide (List.length (c.1) < lenMax) then yI (fun i__ e__ s__ => yD9 (c) (c.1) ([]) i__ e__ s__) (fun s__ => yDh (c) (c.1) ([]) s__) 0 (c.1) ([]) else none)
theorem yNx (c : Cha) (y : Cha × Unit) (h : y2t c = some y) : ∃ n, yJN n c = some y :=
  ⟨big, LeF.top (show LeF some (y2t c) (yJN big c) from (fun (n : Nat) (hn : big ≤ n) => show LeF some (y2t c) (yJN n c) from (yK fun hx => by apply yCv n hn; exact hx)) big (Nat.le_refl _)) h⟩
def z0b_e : Entry := { f := 17, args := yMY, ress := yRk, m := fun x => y2t x.1 }
theorem yPg : FnOK Tryz.prog z0b_e := yN (g := yQS) (fn := Tryz.f17) yC yM eNil (by kernel_rfl) (by kernel_rfl) (by kernel_rfl) (fun x y h => let ⟨n, hn⟩ := yNx x.1 y h; ⟨yLA n, iNil, (yRu n x).trans hn⟩)
abbrev yMa : Ty := .pair t37 (.pair t37 .unit)
abbrev yTx : Ty := .pair t4 .unit
def yQW : G := { T := T, E := [], muts := [], fz := [] }
def yWn : List (List Nat) := [[0, 1, 5]]
def yLa (n : Nat) : Ann := { keep := yWn, fuel := n, inl := [], deep := 0 }
def yDc (n : Nat) (r0 : List (List UInt8) → List (List UInt8) → Int → Option (Bool × Unit)) (a0_0 : List (List UInt8)) (b1_0 : List (List UInt8)) (i5_0 : Int) : Option (Bool × Unit) :=
  (bif decide (i5_0 < (↑a0_0.length : Int)) then (Option.bind (idx a0_0 i5_0) fun (v1 : List UInt8) => (Option.bind (idx b1_0 i5_0) fun (v2 : List UInt8) => (bif !v1 == v2 then some (Bool.false, ()) else r0 a0_0 b1_0 (IntKind.i64.wrap (i5_0 + 1))))) else some (Bool.true, ()))
def y6N (n : Nat)  (k : Nat) (a0_0 : List (List UInt8)) (b1_0 : List (List UInt8)) (i5_0 : Int) : Option (Bool × Unit) :=
  iter (fun r y => yDc n (fun a0_0 b1_0 i5_0 => r ((a0_0, (b1_0, (i5_0, ()))), ((), ()))) y.1.1 y.1.2.1 y.1.2.2.1) k ((a0_0, (b1_0, (i5_0, ()))), ((), ()))
def yKS (n : Nat) (a : List (List UInt8)) (b : List (List UInt8)) : Option (Bool × Unit) :=
  (bif (↑a.length : Int) != (↑b.length : Int) then some (Bool.false, ()) else (y6N n n (a) (b) ((0 : Int))))
theorem yTM (n : Nat) (x : yMa.den) : runF yQW (yLa n) Tryz.f26 yMa yTx x = yKS n x.1 x.2.1 := by kernel_rfl
def yIv (a0_0 : List (List UInt8)) (b1_0 : List (List UInt8)) (i5_0 : Int) (v1 : List UInt8) : Option ((Bool × Unit) ⊕ Unit) :=
  (Option.bind (idx b1_0 i5_0) fun (v2 : List UInt8) => (bif !v1 == v2 then (some (Sum.inl ((Bool.false, ())))) else (some (Sum.inr ()))))
def yHL (a0_0 : List (List UInt8)) (b1_0 : List (List UInt8)) : Option (Bool × Unit) :=
  (some ((Bool.true, ())))
theorem yCh (n : Nat) (hn : big ≤ n)  (a0_0 : List (List UInt8)) (b1_0 : List (List UInt8)) (hx : List.length (a0_0) < lenMax) : LeF some (yI (fun i__ e__ s__ => yIv a0_0 b1_0 i__ e__) (fun s__ => yHL a0_0 b1_0) 0 (a0_0) ()) (y6N n n a0_0 b1_0 0) := by
  refine yJ (f := some) (W := fun k__ i__ s__ => y6N n k__ a0_0 b1_0 i__) (body := (fun i__ e__ s__ => yIv a0_0 b1_0 i__ e__)) (fin := (fun s__ => yHL a0_0 b1_0)) (fun k__ i__ s__ => ?_) hx () n (by unfold big at hn; unfold lenMax at hx; omega)
  show LeF _ _ (yDc n (y6N n k__) a0_0 b1_0 i__)
  exact y0 (y7 fun v1 => (y7 fun v2 => (y0 (y3 rfl) (y3 rfl)))) (yo (y3 rfl))
def yEp (a : List (List UInt8)) (b : List (List UInt8)) : Option (Bool × Unit) :=
  (bif (↑a.length : Int) != (↑b.length : Int) then (some ((Bool.false, ()))) else (bif decide (List.length (a) < lenMax) then yI (fun i__ e__ s__ => yIv (a) (b) i__ e__) (fun s__ => yHL (a) (b)) 0 (a) () else none))
theorem yMH (a : List (List UInt8)) (b : List (List UInt8)) (y : Bool × Unit) (h : yEp a b = some y) : ∃ n, yKS n a b = some y :=
  ⟨big, LeF.top (show LeF some (yEp a b) (yKS big a b) from (fun (n : Nat) (hn : big ≤ n) => show LeF some (yEp a b) (yKS n a b) from (y0 (y3 rfl) (yK fun hx => by apply yCh n hn; exact hx))) big (Nat.le_refl _)) h⟩
def z01_e : Entry := { f := 26, args := yMa, ress := yTx, m := fun x => yEp x.1 x.2.1 }
theorem ySd : FnOK Tryz.prog z01_e := yN (g := yQW) (fn := Tryz.f26) yC yM eNil (by kernel_rfl) (by kernel_rfl) (by kernel_rfl) (fun x y h => let ⟨n, hn⟩ := yMH x.1 x.2.1 y h; ⟨yLa n, iNil, (yTM n x).trans hn⟩)
abbrev zl_a : Ty := .pair t50 .unit
abbrev zl_r : Ty := .pair t4 .unit
def zl_g : G := { T := T, E := [], muts := [], fz := [] }
def zl_k : List (List Nat) := [[0, 3]]
def yRt (n : Nat) : Ann := { keep := zl_k, fuel := n, inl := [], deep := 0 }
def yGl (n : Nat) (r0 : List (List UInt8 × Int × Unit) → Int → Option (Bool × Unit)) (l0_0 : List (List UInt8 × Int × Unit)) (i3_0 : Int) : Option (Bool × Unit) :=
  (bif decide (i3_0 < (↑l0_0.length : Int)) then (Option.bind (idx l0_0 i3_0) fun (v1 : List UInt8 × Int × Unit) => (bif decide ((↑v1.1.length : Int) > 40) then some (Bool.false, ()) else r0 l0_0 (IntKind.i64.wrap (i3_0 + 1)))) else (bif decide ((↑l0_0.length : Int) ≤ 12) then some (Bool.true, ()) else some ((↑l0_0.length : Int) == 65, ())))
def yA5 (n : Nat)  (k : Nat) (l0_0 : List (List UInt8 × Int × Unit)) (i3_0 : Int) : Option (Bool × Unit) :=
  iter (fun r y => yGl n (fun l0_0 i3_0 => r ((l0_0, (i3_0, ())), ((), ()))) y.1.1 y.1.2.1) k ((l0_0, (i3_0, ())), ((), ()))
def zl_m (n : Nat) (l : List (List UInt8 × Int × Unit)) : Option (Bool × Unit) :=
  (yA5 n n (l) ((0 : Int)))
theorem yVw (n : Nat) (x : zl_a.den) : runF zl_g (yRt n) Tryz.f28 zl_a zl_r x = zl_m n x.1 := by kernel_rfl
def yKo (l0_0 : List (List UInt8 × Int × Unit)) (i3_0 : Int) (v1 : List UInt8 × Int × Unit) : Option ((Bool × Unit) ⊕ Unit) :=
  (bif decide ((↑v1.1.length : Int) > 40) then (some (Sum.inl ((Bool.false, ())))) else (some (Sum.inr ())))
def yKZ (l0_0 : List (List UInt8 × Int × Unit)) : Option (Bool × Unit) :=
  (bif decide ((↑l0_0.length : Int) ≤ 12) then (some ((Bool.true, ()))) else (some (((↑l0_0.length : Int) == 65, ()))))
theorem yFw (n : Nat) (hn : big ≤ n)  (l0_0 : List (List UInt8 × Int × Unit)) (hx : List.length (l0_0) < lenMax) : LeF some (yI (fun i__ e__ s__ => yKo l0_0 i__ e__) (fun s__ => yKZ l0_0) 0 (l0_0) ()) (yA5 n n l0_0 0) := by
  refine yJ (f := some) (W := fun k__ i__ s__ => yA5 n k__ l0_0 i__) (body := (fun i__ e__ s__ => yKo l0_0 i__ e__)) (fin := (fun s__ => yKZ l0_0)) (fun k__ i__ s__ => ?_) hx () n (by unfold big at hn; unfold lenMax at hx; omega)
  show LeF _ _ (yGl n (yA5 n k__) l0_0 i__)
  exact y0 (y7 fun v1 => (y0 (y3 rfl) (y3 rfl))) (yo (y0 (y3 rfl) (y3 rfl)))
def zl_M (l : List (List UInt8 × Int × Unit)) : Option (Bool × Unit) :=
  (bif decide (List.length (l) < lenMax) then yI (fun i__ e__ s__ => yKo (l) i__ e__) (fun s__ => yKZ (l)) 0 (l) () else none)
theorem ySW (l : List (List UInt8 × Int × Unit)) (y : Bool × Unit) (h : zl_M l = some y) : ∃ n, zl_m n l = some y :=
  ⟨big, LeF.top (show LeF some (zl_M l) (zl_m big l) from (fun (n : Nat) (hn : big ≤ n) => show LeF some (zl_M l) (zl_m n l) from (yK fun hx => by apply yFw n hn; exact hx)) big (Nat.le_refl _)) h⟩
def zl_e : Entry := { f := 28, args := zl_a, ress := zl_r, m := fun x => zl_M x.1 }
theorem yWs : FnOK Tryz.prog zl_e := yN (g := zl_g) (fn := Tryz.f28) yC yM eNil (by kernel_rfl) (by kernel_rfl) (by kernel_rfl) (fun x y h => let ⟨n, hn⟩ := ySW x.1 y h; ⟨yRt n, iNil, (yVw n x).trans hn⟩)
abbrev yO7 : Ty := .pair t50 .unit
abbrev yUy : Ty := .pair t57 .unit
def yRR : G := { T := T, E := [], muts := [3], fz := [] }
def yWi : List (List Nat) := [[3, 6, 7, 8]]
def yM8 (n : Nat) : Ann := { keep := yWi, fuel := n, inl := [], deep := 0 }
def yDK (n : Nat) (r0 : List (List UInt8 × Int × Unit) → Int → Int → List (List UInt8 × Int × Unit) → Option (List (List UInt8 × Int × Unit) × Unit)) (t6_0 : List (List UInt8 × Int × Unit)) (t7_0 : Int) (t8_0 : Int) (c0_0 : List (List UInt8 × Int × Unit)) : Option (List (List UInt8 × Int × Unit) × Unit) :=
  (bif decide (t8_0 < t7_0) then (Option.bind (idx t6_0 t8_0) fun (v1 : List UInt8 × Int × Unit) => (bif decide (c0_0.length + (1 : Nat) ≤ memMax) then r0 t6_0 t7_0 (IntKind.i64.wrap (t8_0 + 1)) (c0_0 ++ [(v1.1, v1.2.1, ())]) else none)) else some (c0_0, ()))
def y67 (n : Nat)  (k : Nat) (t6_0 : List (List UInt8 × Int × Unit)) (t7_0 : Int) (t8_0 : Int) (c0_0 : List (List UInt8 × Int × Unit)) : Option (List (List UInt8 × Int × Unit) × Unit) :=
  iter (fun r y => yDK n (fun t6_0 t7_0 t8_0 c0_0 => r ((t6_0, (t7_0, (t8_0, ()))), ((c0_0, ()), ()))) y.1.1 y.1.2.1 y.1.2.2.1 y.2.1.1) k ((t6_0, (t7_0, (t8_0, ()))), ((c0_0, ()), ()))
def yJ8 (n : Nat) (l : List (List UInt8 × Int × Unit)) : Option (List (List UInt8 × Int × Unit) × Unit) :=
  (y67 n n (l) ((↑l.length : Int)) ((0 : Int)) ([]))
theorem yRi (n : Nat) (x : yO7.den) : runF yRR (yM8 n) Tryz.f31 yO7 yUy x = yJ8 n x.1 := by kernel_rfl
def yDt (t6_0 : List (List UInt8 × Int × Unit)) (t8_0 : Int) (v1 : List UInt8 × Int × Unit) (c0_0 : List (List UInt8 × Int × Unit)) : Option ((List (List UInt8 × Int × Unit) × Unit) ⊕ (List (List UInt8 × Int × Unit))) :=
  (bif decide (c0_0.length + (1 : Nat) ≤ memMax) then (some (Sum.inr (c0_0 ++ [(v1.1, v1.2.1, ())]))) else none)
def yIZ (t6_0 : List (List UInt8 × Int × Unit)) (c0_0 : List (List UInt8 × Int × Unit)) : Option (List (List UInt8 × Int × Unit) × Unit) :=
  (some ((c0_0, ())))
theorem yC6 (n : Nat) (hn : big ≤ n)  (t6_0 : List (List UInt8 × Int × Unit)) (c0_0 : List (List UInt8 × Int × Unit)) (hx : List.length (t6_0) < lenMax) : LeF some (yI (fun i__ e__ s__ => yDt t6_0 i__ e__ s__) (fun s__ => yIZ t6_0 s__) 0 (t6_0) c0_0) (y67 n n t6_0 (List.length (t6_0) : Int) 0 c0_0) := by
  refine yJ (f := some) (W := fun k__ i__ s__ => y67 n k__ t6_0 (List.length (t6_0) : Int) i__ s__) (body := (fun i__ e__ s__ => yDt t6_0 i__ e__ s__)) (fin := (fun s__ => yIZ t6_0 s__)) (fun k__ i__ s__ => ?_) hx c0_0 n (by unfold big at hn; unfold lenMax at hx; omega)
  show LeF _ _ (yDK n (y67 n k__) t6_0 (List.length (t6_0) : Int) i__ s__)
  exact y0 (y7 fun v1 => (y0 (y3 rfl) yc)) (yo (y3 rfl))
def y2O (l : List (List UInt8 × Int × Unit)) : Option (List (List UInt8 × Int × Unit) × Unit) :=
  (bif decide (List.length (l) < lenMax) then yI (fun i__ e__ s__ => yDt (l) i__ e__ s__) (fun s__ => yIZ (l) s__) 0 (l) ([]) else none)
theorem yNn (l : List (List UInt8 × Int × Unit)) (y : List (List UInt8 × Int × Unit) × Unit) (h : y2O l = some y) : ∃ n, yJ8 n l = some y :=
  ⟨big, LeF.top (show LeF some (y2O l) (yJ8 big l) from (fun (n : Nat) (hn : big ≤ n) => show LeF some (y2O l) (yJ8 n l) from (yK fun hx => by apply yC6 n hn; exact hx)) big (Nat.le_refl _)) h⟩
def z0P_e : Entry := { f := 31, args := yO7, ress := yUy, m := fun x => y2O x.1 }
theorem yRW : FnOK Tryz.prog z0P_e := yN (g := yRR) (fn := Tryz.f31) yC yM eNil (by kernel_rfl) (by kernel_rfl) (by kernel_rfl) (fun x y h => let ⟨n, hn⟩ := yNn x.1 y h; ⟨yM8 n, iNil, (yRi n x).trans hn⟩)
abbrev zr_a : Ty := .pair t3 (.pair t3 (.pair t3 .unit))
abbrev zr_r : Ty := .pair t3 .unit
def zr_g : G := { T := T, E := [], muts := [], fz := [] }
def zr_k : List (List Nat) := []
def yTk (n : Nat) : Ann := { keep := zr_k, fuel := n, inl := [], deep := 0 }
def zr_m (n : Nat) (n1 : Int) (low : Int) (high : Int) : Option (Int × Unit) :=
  (bif decide (n1 < low) then some ((3 : Int), ()) else (bif decide (n1 > high) then some ((3 : Int), ()) else some ((0 : Int), ())))
theorem yWC (n : Nat) (x : zr_a.den) : runF zr_g (yTk n) Tryz.f43 zr_a zr_r x = zr_m n x.1 x.2.1 x.2.2.1 := by kernel_rfl
def zr (n1 : Int) (low : Int) (high : Int) : (Int × Unit) :=
  (bif decide (n1 < low) then ((3 : Int), ()) else (bif decide (n1 > high) then ((3 : Int), ()) else ((0 : Int), ())))
abbrev zr_M (n1 : Int) (low : Int) (high : Int) : Option (Int × Unit) := some (zr n1 low high)
theorem ySz (n1 : Int) (low : Int) (high : Int) (y : Int × Unit) (h : zr_M n1 low high = some y) : ∃ n, zr_m n n1 low high = some y :=
  ⟨0, by rw [← h]; show zr_m 0 n1 low high = some (zr n1 low high); unfold zr_m zr; first | rfl | (simp only [yG]; done) | (simp only [yG]; rfl)⟩
def zr_e : Entry := { f := 43, args := zr_a, ress := zr_r, m := fun x => zr_M x.1 x.2.1 x.2.2.1 }
theorem yOQ : FnOK Tryz.prog zr_e := yN (g := zr_g) (fn := Tryz.f43) yC yM eNil (by kernel_rfl) (by kernel_rfl) (by kernel_rfl) (fun x y h => let ⟨n, hn⟩ := ySz x.1 x.2.1 x.2.2.1 y h; ⟨yTk n, iNil, (yWC n x).trans hn⟩)
abbrev yMd : Ty := .pair t28 (.pair t28 .unit)
abbrev yTp : Ty := .pair t4 .unit
def yTS : G := { T := T, E := [], muts := [], fz := [] }
def yXX : List (List Nat) := [[0, 1, 5]]
def yLp (n : Nat) : Ann := { keep := yXX, fuel := n, inl := [], deep := 0 }
def yEN (n : Nat) (r0 : List Int → List Int → Int → Option (Bool × Unit)) (a0_0 : List Int) (b1_0 : List Int) (i5_0 : Int) : Option (Bool × Unit) :=
  (bif decide (i5_0 < (↑a0_0.length : Int)) then (Option.bind (idx a0_0 i5_0) fun (v1 : Int) => (Option.bind (idx b1_0 i5_0) fun (v2 : Int) => (bif v1 != v2 then some (Bool.false, ()) else r0 a0_0 b1_0 (IntKind.i64.wrap (i5_0 + 1))))) else some (Bool.true, ()))
def y6G (n : Nat)  (k : Nat) (a0_0 : List Int) (b1_0 : List Int) (i5_0 : Int) : Option (Bool × Unit) :=
  iter (fun r y => yEN n (fun a0_0 b1_0 i5_0 => r ((a0_0, (b1_0, (i5_0, ()))), ((), ()))) y.1.1 y.1.2.1 y.1.2.2.1) k ((a0_0, (b1_0, (i5_0, ()))), ((), ()))
def yKM (n : Nat) (a : List Int) (b : List Int) : Option (Bool × Unit) :=
  (bif (↑a.length : Int) != (↑b.length : Int) then some (Bool.false, ()) else (y6G n n (a) (b) ((0 : Int))))
theorem yTr (n : Nat) (x : yMd.den) : runF yTS (yLp n) Tryz.f48 yMd yTp x = yKM n x.1 x.2.1 := by kernel_rfl
def yEG (a0_0 : List Int) (b1_0 : List Int) (i5_0 : Int) (v1 : Int) : Option ((Bool × Unit) ⊕ Unit) :=
  (Option.bind (idx b1_0 i5_0) fun (v2 : Int) => (bif v1 != v2 then (some (Sum.inl ((Bool.false, ())))) else (some (Sum.inr ()))))
def yIu (a0_0 : List Int) (b1_0 : List Int) : Option (Bool × Unit) :=
  (some ((Bool.true, ())))
theorem yBk (n : Nat) (hn : big ≤ n)  (a0_0 : List Int) (b1_0 : List Int) (hx : List.length (a0_0) < lenMax) : LeF some (yI (fun i__ e__ s__ => yEG a0_0 b1_0 i__ e__) (fun s__ => yIu a0_0 b1_0) 0 (a0_0) ()) (y6G n n a0_0 b1_0 0) := by
  refine yJ (f := some) (W := fun k__ i__ s__ => y6G n k__ a0_0 b1_0 i__) (body := (fun i__ e__ s__ => yEG a0_0 b1_0 i__ e__)) (fin := (fun s__ => yIu a0_0 b1_0)) (fun k__ i__ s__ => ?_) hx () n (by unfold big at hn; unfold lenMax at hx; omega)
  show LeF _ _ (yEN n (y6G n k__) a0_0 b1_0 i__)
  exact y0 (y7 fun v1 => (y7 fun v2 => (y0 (y3 rfl) (y3 rfl)))) (yo (y3 rfl))
def y2I (a : List Int) (b : List Int) : Option (Bool × Unit) :=
  (bif (↑a.length : Int) != (↑b.length : Int) then (some ((Bool.false, ()))) else (bif decide (List.length (a) < lenMax) then yI (fun i__ e__ s__ => yEG (a) (b) i__ e__) (fun s__ => yIu (a) (b)) 0 (a) () else none))
theorem yNM (a : List Int) (b : List Int) (y : Bool × Unit) (h : y2I a b = some y) : ∃ n, yKM n a b = some y :=
  ⟨big, LeF.top (show LeF some (y2I a b) (yKM big a b) from (fun (n : Nat) (hn : big ≤ n) => show LeF some (y2I a b) (yKM n a b) from (y0 (y3 rfl) (yK fun hx => by apply yBk n hn; exact hx))) big (Nat.le_refl _)) h⟩
def z0A_e : Entry := { f := 48, args := yMd, ress := yTp, m := fun x => y2I x.1 x.2.1 }
theorem yLU : FnOK Tryz.prog z0A_e := yN (g := yTS) (fn := Tryz.f48) yC yM eNil (by kernel_rfl) (by kernel_rfl) (by kernel_rfl) (fun x y h => let ⟨n, hn⟩ := yNM x.1 x.2.1 y h; ⟨yLp n, iNil, (yTr n x).trans hn⟩)
abbrev yOo : Ty := .pair t28 .unit
abbrev yQV : Ty := .pair t28 .unit
def yTu : G := { T := T, E := [], muts := [3], fz := [] }
def yVM : List (List Nat) := []
def yLz (n : Nat) : Ann := { keep := yVM, fuel := n, inl := [], deep := 0 }
def yKN (n : Nat) (l : List Int) : Option (List Int × Unit) :=
  (bif decide ((0 : Nat) + l.length ≤ memMax) then some (l, ()) else none)
theorem ySH (n : Nat) (x : yOo.den) : runF yTu (yLz n) Tryz.f50 yOo yQV x = yKN n x.1 := by kernel_rfl
def yEk (l : List Int) : Option (List Int × Unit) := yKN 0 l
theorem yMm (l : List Int) (y : List Int × Unit) (h : yEk l = some y) : ∃ n, yKN n l = some y := ⟨0, h⟩
def z0o_e : Entry := { f := 50, args := yOo, ress := yQV, m := fun x => yEk x.1 }
theorem yI5 : FnOK Tryz.prog z0o_e := yN (g := yTu) (fn := Tryz.f50) yC yM eNil (by kernel_rfl) (by kernel_rfl) (by kernel_rfl) (fun x y h => let ⟨n, hn⟩ := yMm x.1 y h; ⟨yLz n, iNil, (ySH n x).trans hn⟩)
abbrev zX_a : Ty := .pair t100 (.pair t100 .unit)
abbrev zX_r : Ty := .pair t4 .unit
def zX_g : G := { T := T, E := [], muts := [], fz := [] }
def zX_k : List (List Nat) := [[0, 1, 5]]
def yQU (n : Nat) : Ann := { keep := zX_k, fuel := n, inl := [], deep := 0 }
def yGQ (n : Nat) (r0 : List Fai → List Fai → Int → Option (Bool × Unit)) (a0_0 : List Fai) (b1_0 : List Fai) (i5_0 : Int) : Option (Bool × Unit) :=
  (bif decide (i5_0 < (↑a0_0.length : Int)) then (Option.bind (idx a0_0 i5_0) fun (v1 : Fai) => (Option.bind (idx b1_0 i5_0) fun (v2 : Fai) => (bif !eqV (Ty.str.pair ((Ty.int IntKind.i64).pair ((Ty.int IntKind.i64).pair ((Ty.int IntKind.i64).pair Ty.unit)))) v1 v2 then some (Bool.false, ()) else r0 a0_0 b1_0 (IntKind.i64.wrap (i5_0 + 1))))) else some (Bool.true, ()))
def y91 (n : Nat)  (k : Nat) (a0_0 : List Fai) (b1_0 : List Fai) (i5_0 : Int) : Option (Bool × Unit) :=
  iter (fun r y => yGQ n (fun a0_0 b1_0 i5_0 => r ((a0_0, (b1_0, (i5_0, ()))), ((), ()))) y.1.1 y.1.2.1 y.1.2.2.1) k ((a0_0, (b1_0, (i5_0, ()))), ((), ()))
def zX_m (n : Nat) (a : List Fai) (b : List Fai) : Option (Bool × Unit) :=
  (bif (↑a.length : Int) != (↑b.length : Int) then some (Bool.false, ()) else (y91 n n (a) (b) ((0 : Int))))
theorem yW9 (n : Nat) (x : zX_a.den) : runF zX_g (yQU n) Tryz.f64 zX_a zX_r x = zX_m n x.1 x.2.1 := by kernel_rfl
def yNb (a0_0 : List Fai) (b1_0 : List Fai) (i5_0 : Int) (v1 : Fai) : Option ((Bool × Unit) ⊕ Unit) :=
  (Option.bind (idx b1_0 i5_0) fun (v2 : Fai) => (bif !eqV (Ty.str.pair ((Ty.int IntKind.i64).pair ((Ty.int IntKind.i64).pair ((Ty.int IntKind.i64).pair Ty.unit)))) v1 v2 then (some (Sum.inl ((Bool.false, ())))) else (some (Sum.inr ()))))
def yMQ (a0_0 : List Fai) (b1_0 : List Fai) : Option (Bool × Unit) :=
  (some ((Bool.true, ())))
theorem yFZ (n : Nat) (hn : big ≤ n)  (a0_0 : List Fai) (b1_0 : List Fai) (hx : List.length (a0_0) < lenMax) : LeF some (yI (fun i__ e__ s__ => yNb a0_0 b1_0 i__ e__) (fun s__ => yMQ a0_0 b1_0) 0 (a0_0) ()) (y91 n n a0_0 b1_0 0) := by
  refine yJ (f := some) (W := fun k__ i__ s__ => y91 n k__ a0_0 b1_0 i__) (body := (fun i__ e__ s__ => yNb a0_0 b1_0 i__ e__)) (fin := (fun s__ => yMQ a0_0 b1_0)) (fun k__ i__ s__ => ?_) hx () n (by unfold big at hn; unfold lenMax at hx; omega)
  show LeF _ _ (yGQ n (y91 n k__) a0_0 b1_0 i__)
  exact y0 (y7 fun v1 => (y7 fun v2 => (y0 (y3 rfl) (y3 rfl)))) (yo (y3 rfl))
def zX_M (a : List Fai) (b : List Fai) : Option (Bool × Unit) :=
  (bif (↑a.length : Int) != (↑b.length : Int) then (some ((Bool.false, ()))) else (bif decide (List.length (a) < lenMax) then yI (fun i__ e__ s__ => yNb (a) (b) i__ e__) (fun s__ => yMQ (a) (b)) 0 (a) () else none))
theorem yPx (a : List Fai) (b : List Fai) (y : Bool × Unit) (h : zX_M a b = some y) : ∃ n, zX_m n a b = some y :=
  ⟨big, LeF.top (show LeF some (zX_M a b) (zX_m big a b) from (fun (n : Nat) (hn : big ≤ n) => show LeF some (zX_M a b) (zX_m n a b) from (y0 (y3 rfl) (yK fun hx => by apply yFZ n hn; exact hx))) big (Nat.le_refl _)) h⟩
def zX_e : Entry := { f := 64, args := zX_a, ress := zX_r, m := fun x => zX_M x.1 x.2.1 }
theorem yVb : FnOK Tryz.prog zX_e := yN (g := zX_g) (fn := Tryz.f64) yC yM eNil (by kernel_rfl) (by kernel_rfl) (by kernel_rfl) (fun x y h => let ⟨n, hn⟩ := yPx x.1 x.2.1 y h; ⟨yQU n, iNil, (yW9 n x).trans hn⟩)
abbrev yMo : Ty := .pair t97 .unit
abbrev yTg : Ty := .pair t100 .unit
def yR7 : G := { T := T, E := [], muts := [3], fz := [] }
def yW0 : List (List Nat) := [[3, 6, 7, 8]]
def yLf (n : Nat) : Ann := { keep := yW0, fuel := n, inl := [], deep := 0 }
def yEA (n : Nat) (r0 : List Fai → Int → Int → List Fai → Option (List Fai × Unit)) (t6_0 : List Fai) (t7_0 : Int) (t8_0 : Int) (c0_0 : List Fai) : Option (List Fai × Unit) :=
  (bif decide (t8_0 < t7_0) then (Option.bind (idx t6_0 t8_0) fun (v1 : Fai) => (bif decide (c0_0.length + (1 : Nat) ≤ memMax) then r0 t6_0 t7_0 (IntKind.i64.wrap (t8_0 + 1)) (c0_0 ++ [(v1.1, v1.2.1, v1.2.2.1, v1.2.2.2.1, ())]) else none)) else some (c0_0, ()))
def y6I (n : Nat)  (k : Nat) (t6_0 : List Fai) (t7_0 : Int) (t8_0 : Int) (c0_0 : List Fai) : Option (List Fai × Unit) :=
  iter (fun r y => yEA n (fun t6_0 t7_0 t8_0 c0_0 => r ((t6_0, (t7_0, (t8_0, ()))), ((c0_0, ()), ()))) y.1.1 y.1.2.1 y.1.2.2.1 y.2.1.1) k ((t6_0, (t7_0, (t8_0, ()))), ((c0_0, ()), ()))
def yKn (n : Nat) (l : List Fai) : Option (List Fai × Unit) :=
  (y6I n n (l) ((↑l.length : Int)) ((0 : Int)) ([]))
theorem yPX (n : Nat) (x : yMo.den) : runF yR7 (yLf n) Tryz.f65 yMo yTg x = yKn n x.1 := by kernel_rfl
def yGw (t6_0 : List Fai) (t8_0 : Int) (v1 : Fai) (c0_0 : List Fai) : Option ((List Fai × Unit) ⊕ (List Fai)) :=
  (bif decide (c0_0.length + (1 : Nat) ≤ memMax) then (some (Sum.inr (c0_0 ++ [(v1.1, v1.2.1, v1.2.2.1, v1.2.2.2.1, ())]))) else none)
def yGR (t6_0 : List Fai) (c0_0 : List Fai) : Option (List Fai × Unit) :=
  (some ((c0_0, ())))
theorem yCM (n : Nat) (hn : big ≤ n)  (t6_0 : List Fai) (c0_0 : List Fai) (hx : List.length (t6_0) < lenMax) : LeF some (yI (fun i__ e__ s__ => yGw t6_0 i__ e__ s__) (fun s__ => yGR t6_0 s__) 0 (t6_0) c0_0) (y6I n n t6_0 (List.length (t6_0) : Int) 0 c0_0) := by
  refine yJ (f := some) (W := fun k__ i__ s__ => y6I n k__ t6_0 (List.length (t6_0) : Int) i__ s__) (body := (fun i__ e__ s__ => yGw t6_0 i__ e__ s__)) (fin := (fun s__ => yGR t6_0 s__)) (fun k__ i__ s__ => ?_) hx c0_0 n (by unfold big at hn; unfold lenMax at hx; omega)
  show LeF _ _ (yEA n (y6I n k__) t6_0 (List.length (t6_0) : Int) i__ s__)
  exact y0 (y7 fun v1 => (y0 (y3 rfl) yc)) (yo (y3 rfl))
def yGh (l : List Fai) : Option (List Fai × Unit) :=
  (bif decide (List.length (l) < lenMax) then yI (fun i__ e__ s__ => yGw (l) i__ e__ s__) (fun s__ => yGR (l) s__) 0 (l) ([]) else none)
theorem yMl (l : List Fai) (y : List Fai × Unit) (h : yGh l = some y) : ∃ n, yKn n l = some y :=
  ⟨big, LeF.top (show LeF some (yGh l) (yKn big l) from (fun (n : Nat) (hn : big ≤ n) => show LeF some (yGh l) (yKn n l) from (yK fun hx => by apply yCM n hn; exact hx)) big (Nat.le_refl _)) h⟩
def z09_e : Entry := { f := 65, args := yMo, ress := yTg, m := fun x => yGh x.1 }
theorem yUd : FnOK Tryz.prog z09_e := yN (g := yR7) (fn := Tryz.f65) yC yM eNil (by kernel_rfl) (by kernel_rfl) (by kernel_rfl) (fun x y h => let ⟨n, hn⟩ := yMl x.1 y h; ⟨yLf n, iNil, (yPX n x).trans hn⟩)
abbrev zk_a : Ty := .pair t25 (.pair t28 .unit)
abbrev zk_r : Ty := .pair t3 .unit
def zk_g : G := { T := T, E := [], muts := [], fz := [] }
def zk_k : List (List Nat) := [[1, 2, 5]]
def yUF (n : Nat) : Ann := { keep := zk_k, fuel := n, inl := [], deep := 0 }
def yIR (n : Nat) (r0 : List Int → Cha → Int → Option (Int × Unit)) (l1_0 : List Int) (c2_0 : Cha) (i5_0 : Int) : Option (Int × Unit) :=
  (bif decide (i5_0 < (↑l1_0.length : Int)) then (Option.bind (idx l1_0 i5_0) fun (v1 : Int) => (bif decide (v1 < 0) then some ((10 : Int), ()) else (Option.bind (idx l1_0 i5_0) fun (v2 : Int) => (bif decide (v2 ≥ (↑c2_0.1.length : Int)) then some ((10 : Int), ()) else r0 l1_0 c2_0 (IntKind.i64.wrap (i5_0 + 1)))))) else some ((0 : Int), ()))
def yAC (n : Nat)  (k : Nat) (l1_0 : List Int) (c2_0 : Cha) (i5_0 : Int) : Option (Int × Unit) :=
  iter (fun r y => yIR n (fun l1_0 c2_0 i5_0 => r ((l1_0, (c2_0, (i5_0, ()))), ((), ()))) y.1.1 y.1.2.1 y.1.2.2.1) k ((l1_0, (c2_0, (i5_0, ()))), ((), ()))
def zk_m (n : Nat) (c : Cha) (l : List Int) : Option (Int × Unit) :=
  (bif decide ((↑l.length : Int) > 16) then some ((5 : Int), ()) else (yAC n n (l) (c) ((0 : Int))))
theorem yWg (n : Nat) (x : zk_a.den) : runF zk_g (yUF n) Tryz.f70 zk_a zk_r x = zk_m n x.1 x.2.1 := by kernel_rfl
def yHU (l1_0 : List Int) (c2_0 : Cha) (i5_0 : Int) (v1 : Int) : Option ((Int × Unit) ⊕ Unit) :=
  (bif decide (v1 < 0) then (some (Sum.inl (((10 : Int), ())))) else (Option.bind (idx l1_0 i5_0) fun (v2 : Int) => (bif decide (v2 ≥ (↑c2_0.1.length : Int)) then (some (Sum.inl (((10 : Int), ())))) else (some (Sum.inr ())))))
def yJk (l1_0 : List Int) (c2_0 : Cha) : Option (Int × Unit) :=
  (some (((0 : Int), ())))
theorem yEv (n : Nat) (hn : big ≤ n)  (l1_0 : List Int) (c2_0 : Cha) (hx : List.length (l1_0) < lenMax) : LeF some (yI (fun i__ e__ s__ => yHU l1_0 c2_0 i__ e__) (fun s__ => yJk l1_0 c2_0) 0 (l1_0) ()) (yAC n n l1_0 c2_0 0) := by
  refine yJ (f := some) (W := fun k__ i__ s__ => yAC n k__ l1_0 c2_0 i__) (body := (fun i__ e__ s__ => yHU l1_0 c2_0 i__ e__)) (fin := (fun s__ => yJk l1_0 c2_0)) (fun k__ i__ s__ => ?_) hx () n (by unfold big at hn; unfold lenMax at hx; omega)
  show LeF _ _ (yIR n (yAC n k__) l1_0 c2_0 i__)
  exact y0 (y7 fun v1 => (y0 (y3 rfl) (y7 fun v2 => (y0 (y3 rfl) (y3 rfl))))) (yo (y3 rfl))
def zk_M (c : Cha) (l : List Int) : Option (Int × Unit) :=
  (bif decide ((↑l.length : Int) > 16) then (some (((5 : Int), ()))) else (bif decide (List.length (l) < lenMax) then yI (fun i__ e__ s__ => yHU (l) (c) i__ e__) (fun s__ => yJk (l) (c)) 0 (l) () else none))
theorem yPb (c : Cha) (l : List Int) (y : Int × Unit) (h : zk_M c l = some y) : ∃ n, zk_m n c l = some y :=
  ⟨big, LeF.top (show LeF some (zk_M c l) (zk_m big c l) from (fun (n : Nat) (hn : big ≤ n) => show LeF some (zk_M c l) (zk_m n c l) from (y0 (y3 rfl) (yK fun hx => by apply yEv n hn; exact hx))) big (Nat.le_refl _)) h⟩
def zk_e : Entry := { f := 70, args := zk_a, ress := zk_r, m := fun x => zk_M x.1 x.2.1 }
theorem yVJ : FnOK Tryz.prog zk_e := yN (g := zk_g) (fn := Tryz.f70) yC yM eNil (by kernel_rfl) (by kernel_rfl) (by kernel_rfl) (fun x y h => let ⟨n, hn⟩ := yPb x.1 x.2.1 y h; ⟨yUF n, iNil, (yWg n x).trans hn⟩)
abbrev zv_a : Ty := .pair t50 (.pair t50 .unit)
abbrev zv_r : Ty := .pair t4 .unit
def zv_g : G := { T := T, E := [], muts := [], fz := [] }
def zv_k : List (List Nat) := [[0, 1, 5]]
def yPH (n : Nat) : Ann := { keep := zv_k, fuel := n, inl := [], deep := 0 }
def yHs (n : Nat) (r0 : List (List UInt8 × Int × Unit) → List (List UInt8 × Int × Unit) → Int → Option (Bool × Unit)) (a0_0 : List (List UInt8 × Int × Unit)) (b1_0 : List (List UInt8 × Int × Unit)) (i5_0 : Int) : Option (Bool × Unit) :=
  (bif decide (i5_0 < (↑a0_0.length : Int)) then (Option.bind (idx a0_0 i5_0) fun (v1 : List UInt8 × Int × Unit) => (Option.bind (idx b1_0 i5_0) fun (v2 : List UInt8 × Int × Unit) => (bif !eqV (Ty.str.pair ((Ty.int IntKind.i64).pair Ty.unit)) v1 v2 then some (Bool.false, ()) else r0 a0_0 b1_0 (IntKind.i64.wrap (i5_0 + 1))))) else some (Bool.true, ()))
def y9U (n : Nat)  (k : Nat) (a0_0 : List (List UInt8 × Int × Unit)) (b1_0 : List (List UInt8 × Int × Unit)) (i5_0 : Int) : Option (Bool × Unit) :=
  iter (fun r y => yHs n (fun a0_0 b1_0 i5_0 => r ((a0_0, (b1_0, (i5_0, ()))), ((), ()))) y.1.1 y.1.2.1 y.1.2.2.1) k ((a0_0, (b1_0, (i5_0, ()))), ((), ()))
def zv_m (n : Nat) (a : List (List UInt8 × Int × Unit)) (b : List (List UInt8 × Int × Unit)) : Option (Bool × Unit) :=
  (bif (↑a.length : Int) != (↑b.length : Int) then some (Bool.false, ()) else (y9U n n (a) (b) ((0 : Int))))
theorem yXb (n : Nat) (x : zv_a.den) : runF zv_g (yPH n) Tryz.f73 zv_a zv_r x = zv_m n x.1 x.2.1 := by kernel_rfl
def yMx (a0_0 : List (List UInt8 × Int × Unit)) (b1_0 : List (List UInt8 × Int × Unit)) (i5_0 : Int) (v1 : List UInt8 × Int × Unit) : Option ((Bool × Unit) ⊕ Unit) :=
  (Option.bind (idx b1_0 i5_0) fun (v2 : List UInt8 × Int × Unit) => (bif !eqV (Ty.str.pair ((Ty.int IntKind.i64).pair Ty.unit)) v1 v2 then (some (Sum.inl ((Bool.false, ())))) else (some (Sum.inr ()))))
def yNp (a0_0 : List (List UInt8 × Int × Unit)) (b1_0 : List (List UInt8 × Int × Unit)) : Option (Bool × Unit) :=
  (some ((Bool.true, ())))
theorem yEi (n : Nat) (hn : big ≤ n)  (a0_0 : List (List UInt8 × Int × Unit)) (b1_0 : List (List UInt8 × Int × Unit)) (hx : List.length (a0_0) < lenMax) : LeF some (yI (fun i__ e__ s__ => yMx a0_0 b1_0 i__ e__) (fun s__ => yNp a0_0 b1_0) 0 (a0_0) ()) (y9U n n a0_0 b1_0 0) := by
  refine yJ (f := some) (W := fun k__ i__ s__ => y9U n k__ a0_0 b1_0 i__) (body := (fun i__ e__ s__ => yMx a0_0 b1_0 i__ e__)) (fin := (fun s__ => yNp a0_0 b1_0)) (fun k__ i__ s__ => ?_) hx () n (by unfold big at hn; unfold lenMax at hx; omega)
  show LeF _ _ (yHs n (y9U n k__) a0_0 b1_0 i__)
  exact y0 (y7 fun v1 => (y7 fun v2 => (y0 (y3 rfl) (y3 rfl)))) (yo (y3 rfl))
def zv_M (a : List (List UInt8 × Int × Unit)) (b : List (List UInt8 × Int × Unit)) : Option (Bool × Unit) :=
  (bif (↑a.length : Int) != (↑b.length : Int) then (some ((Bool.false, ()))) else (bif decide (List.length (a) < lenMax) then yI (fun i__ e__ s__ => yMx (a) (b) i__ e__) (fun s__ => yNp (a) (b)) 0 (a) () else none))
theorem yRH (a : List (List UInt8 × Int × Unit)) (b : List (List UInt8 × Int × Unit)) (y : Bool × Unit) (h : zv_M a b = some y) : ∃ n, zv_m n a b = some y :=
  ⟨big, LeF.top (show LeF some (zv_M a b) (zv_m big a b) from (fun (n : Nat) (hn : big ≤ n) => show LeF some (zv_M a b) (zv_m n a b) from (y0 (y3 rfl) (yK fun hx => by apply yEi n hn; exact hx))) big (Nat.le_refl _)) h⟩
def zv_e : Entry := { f := 73, args := zv_a, ress := zv_r, m := fun x => zv_M x.1 x.2.1 }
theorem yX5 : FnOK Tryz.prog zv_e := yN (g := zv_g) (fn := Tryz.f73) yC yM eNil (by kernel_rfl) (by kernel_rfl) (by kernel_rfl) (fun x y h => let ⟨n, hn⟩ := yRH x.1 x.2.1 y h; ⟨yPH n, iNil, (yXb n x).trans hn⟩)
abbrev yPG : Ty := .pair t57 .unit
abbrev yTz : Ty := .pair t50 .unit
def yTW : G := { T := T, E := [], muts := [3], fz := [] }
def yXE : List (List Nat) := [[3, 6, 7, 8]]
def yL1 (n : Nat) : Ann := { keep := yXE, fuel := n, inl := [], deep := 0 }
def yEZ (n : Nat) (r0 : List (List UInt8 × Int × Unit) → Int → Int → List (List UInt8 × Int × Unit) → Option (List (List UInt8 × Int × Unit) × Unit)) (t6_0 : List (List UInt8 × Int × Unit)) (t7_0 : Int) (t8_0 : Int) (c0_0 : List (List UInt8 × Int × Unit)) : Option (List (List UInt8 × Int × Unit) × Unit) :=
  (bif decide (t8_0 < t7_0) then (Option.bind (idx t6_0 t8_0) fun (v1 : List UInt8 × Int × Unit) => (bif decide (c0_0.length + (1 : Nat) ≤ memMax) then r0 t6_0 t7_0 (IntKind.i64.wrap (t8_0 + 1)) (c0_0 ++ [(v1.1, v1.2.1, ())]) else none)) else some (c0_0, ()))
def y68 (n : Nat)  (k : Nat) (t6_0 : List (List UInt8 × Int × Unit)) (t7_0 : Int) (t8_0 : Int) (c0_0 : List (List UInt8 × Int × Unit)) : Option (List (List UInt8 × Int × Unit) × Unit) :=
  iter (fun r y => yEZ n (fun t6_0 t7_0 t8_0 c0_0 => r ((t6_0, (t7_0, (t8_0, ()))), ((c0_0, ()), ()))) y.1.1 y.1.2.1 y.1.2.2.1 y.2.1.1) k ((t6_0, (t7_0, (t8_0, ()))), ((c0_0, ()), ()))
def yKi (n : Nat) (l : List (List UInt8 × Int × Unit)) : Option (List (List UInt8 × Int × Unit) × Unit) :=
  (y68 n n (l) ((↑l.length : Int)) ((0 : Int)) ([]))
theorem yS7 (n : Nat) (x : yPG.den) : runF yTW (yL1 n) Tryz.f74 yPG yTz x = yKi n x.1 := by kernel_rfl
def yHa (t6_0 : List (List UInt8 × Int × Unit)) (t8_0 : Int) (v1 : List UInt8 × Int × Unit) (c0_0 : List (List UInt8 × Int × Unit)) : Option ((List (List UInt8 × Int × Unit) × Unit) ⊕ (List (List UInt8 × Int × Unit))) :=
  (bif decide (c0_0.length + (1 : Nat) ≤ memMax) then (some (Sum.inr (c0_0 ++ [(v1.1, v1.2.1, ())]))) else none)
def yIm (t6_0 : List (List UInt8 × Int × Unit)) (c0_0 : List (List UInt8 × Int × Unit)) : Option (List (List UInt8 × Int × Unit) × Unit) :=
  (some ((c0_0, ())))
theorem yCZ (n : Nat) (hn : big ≤ n)  (t6_0 : List (List UInt8 × Int × Unit)) (c0_0 : List (List UInt8 × Int × Unit)) (hx : List.length (t6_0) < lenMax) : LeF some (yI (fun i__ e__ s__ => yHa t6_0 i__ e__ s__) (fun s__ => yIm t6_0 s__) 0 (t6_0) c0_0) (y68 n n t6_0 (List.length (t6_0) : Int) 0 c0_0) := by
  refine yJ (f := some) (W := fun k__ i__ s__ => y68 n k__ t6_0 (List.length (t6_0) : Int) i__ s__) (body := (fun i__ e__ s__ => yHa t6_0 i__ e__ s__)) (fin := (fun s__ => yIm t6_0 s__)) (fun k__ i__ s__ => ?_) hx c0_0 n (by unfold big at hn; unfold lenMax at hx; omega)
  show LeF _ _ (yEZ n (y68 n k__) t6_0 (List.length (t6_0) : Int) i__ s__)
  exact y0 (y7 fun v1 => (y0 (y3 rfl) yc)) (yo (y3 rfl))
def yI9 (l : List (List UInt8 × Int × Unit)) : Option (List (List UInt8 × Int × Unit) × Unit) :=
  (bif decide (List.length (l) < lenMax) then yI (fun i__ e__ s__ => yHa (l) i__ e__ s__) (fun s__ => yIm (l) s__) 0 (l) ([]) else none)
theorem yMX (l : List (List UInt8 × Int × Unit)) (y : List (List UInt8 × Int × Unit) × Unit) (h : yI9 l = some y) : ∃ n, yKi n l = some y :=
  ⟨big, LeF.top (show LeF some (yI9 l) (yKi big l) from (fun (n : Nat) (hn : big ≤ n) => show LeF some (yI9 l) (yKi n l) from (yK fun hx => by apply yCZ n hn; exact hx)) big (Nat.le_refl _)) h⟩
def z0O_e : Entry := { f := 74, args := yPG, ress := yTz, m := fun x => yI9 x.1 }
theorem ySB : FnOK Tryz.prog z0O_e := yN (g := yTW) (fn := Tryz.f74) yC yM eNil (by kernel_rfl) (by kernel_rfl) (by kernel_rfl) (fun x y h => let ⟨n, hn⟩ := yMX x.1 y h; ⟨yL1 n, iNil, (yS7 n x).trans hn⟩)
abbrev yN9 : Ty := .unit
abbrev yRA : Ty := .pair t35 .unit
def yU7 : G := { T := T, E := [], muts := [], fz := [] }
def yX6 : List (List Nat) := []
def yLH (n : Nat) : Ann := { keep := yX6, fuel := n, inl := [], deep := 0 }
def yJS (n : Nat)  : Option (Cha × Unit) :=
  some (([([(119 : UInt8), 111, 114, 107], (-1 : Int), (1 : Int), Bool.false, ()), ([(111 : UInt8), 112, 101, 110], (0 : Int), (-1 : Int), Bool.false, ()), ([(108 : UInt8), 111, 119, 101, 114], (0 : Int), (-1 : Int), Bool.true, ()), ([(99 : UInt8), 108, 111, 115, 101, 100], (0 : Int), (-1 : Int), Bool.false, ()), ([(97 : UInt8), 108, 97, 114, 109], (-1 : Int), (-1 : Int), Bool.false, ())], [((1 : Int), [(99 : UInt8), 108, 111, 115, 101], (2 : Int), (1 : Int), (0 : Int), ()), ((2 : Int), [(100 : UInt8), 111, 110, 101], (3 : Int), (0 : Int), (0 : Int), ()), ((3 : Int), [(111 : UInt8), 112, 101, 110], (1 : Int), (0 : Int), (0 : Int), ()), ((0 : Int), [(102 : UInt8), 97, 105, 108], (4 : Int), (0 : Int), (0 : Int), ())], ()), ())
theorem yTe (n : Nat) (x : yN9.den) : runF yU7 (yLH n) Tryz.f85 yN9 yRA x = yJS n := by kernel_rfl
def z0m  : (Cha × Unit) :=
  (([([(119 : UInt8), 111, 114, 107], (-1 : Int), (1 : Int), Bool.false, ()), ([(111 : UInt8), 112, 101, 110], (0 : Int), (-1 : Int), Bool.false, ()), ([(108 : UInt8), 111, 119, 101, 114], (0 : Int), (-1 : Int), Bool.true, ()), ([(99 : UInt8), 108, 111, 115, 101, 100], (0 : Int), (-1 : Int), Bool.false, ()), ([(97 : UInt8), 108, 97, 114, 109], (-1 : Int), (-1 : Int), Bool.false, ())], [((1 : Int), [(99 : UInt8), 108, 111, 115, 101], (2 : Int), (1 : Int), (0 : Int), ()), ((2 : Int), [(100 : UInt8), 111, 110, 101], (3 : Int), (0 : Int), (0 : Int), ()), ((3 : Int), [(111 : UInt8), 112, 101, 110], (1 : Int), (0 : Int), (0 : Int), ()), ((0 : Int), [(102 : UInt8), 97, 105, 108], (4 : Int), (0 : Int), (0 : Int), ())], ()), ())
abbrev ySc  : Option (Cha × Unit) := some (z0m)
theorem yOM  (y : Cha × Unit) (h : ySc = some y) : ∃ n, yJS n = some y :=
  ⟨0, by rw [← h]; show yJS 0 = some (z0m); unfold yJS z0m; first | rfl | (simp only [yG]; done) | (simp only [yG]; rfl)⟩
def z0m_e : Entry := { f := 85, args := yN9, ress := yRA, m := fun x => ySc, ex := some ⟨t35, yNs⟩ }
theorem yV7 : FnOK Tryz.prog z0m_e := yN (g := yU7) (fn := Tryz.f85) yC yM eNil (by kernel_rfl) (by kernel_rfl) (by kernel_rfl) (fun x y h => let ⟨n, hn⟩ := yOM y h; ⟨yLH n, iNil, (yTe n x).trans hn⟩) rfl (fun q h => by cases h; exact yN1)
abbrev zn_a : Ty := .pair t35 (.pair t3 .unit)
abbrev zn_r : Ty := .pair t3 .unit
def zn_g : G := { T := T, E := [], muts := [], fz := [] }
def zn_k : List (List Nat) := [[1, 2]]
def yTj (n : Nat) : Ann := { keep := zn_k, fuel := n, inl := [], deep := 0 }
def yH1 (n : Nat) (r0 : Int → Cha → Option (Int × Unit)) (state1_0 : Int) (c2_0 : Cha) : Option (Int × Unit) :=
  (Option.bind (idx c2_0.1 state1_0) fun (v1 : Sta) => (bif v1.2.2.1 != (-1 : Int) then (Option.bind (idx c2_0.1 state1_0) fun (v2 : Sta) => r0 v2.2.2.1 c2_0) else some (state1_0, ())))
def yA8 (n : Nat)  (k : Nat) (state1_0 : Int) (c2_0 : Cha) : Option (Int × Unit) :=
  iter (fun r y => yH1 n (fun state1_0 c2_0 => r ((state1_0, (c2_0, ())), ((), ()))) y.1.1 y.1.2.1) k ((state1_0, (c2_0, ())), ((), ()))
def zn_m (n : Nat) (c : Cha) (state : Int) : Option (Int × Unit) :=
  (yA8 n n (state) (c))
theorem yWy (n : Nat) (x : zn_a.den) : runF zn_g (yTj n) Tryz.f88 zn_a zn_r x = zn_m n x.1 x.2.1 := by kernel_rfl
def yIW (c2_0 : Cha) (state1_0 : Int) : Option ((Int × Unit) ⊕ (Int)) :=
  (Option.bind (idx c2_0.1 state1_0) fun (v1 : Sta) => (bif v1.2.2.1 != (-1 : Int) then (Option.bind (idx c2_0.1 state1_0) fun (v2 : Sta) => (some (Sum.inr (v2.2.2.1)))) else (some (Sum.inl ((state1_0, ()))))))
theorem yFK (n : Nat) (hn : big ≤ n)  (c2_0 : Cha) (state1_0 : Int) : LeF some (y1e (fun s__ => yIW c2_0 s__) wMax state1_0) (yA8 n n state1_0 c2_0) := by
  refine y4O (f := some) (W := fun k__ s__ => yA8 n k__ s__ c2_0) (body := (fun s__ => yIW c2_0 s__)) (fun k__ s__ => ?_) wMax n state1_0 (by unfold big at hn; unfold wMax; omega)
  show LeF _ _ (yH1 n (yA8 n k__) s__ c2_0)
  exact (y7 fun v1 => (y0 (y7 fun v2 => (y3 rfl)) (y3 rfl)))
def zn_M (c : Cha) (state : Int) : Option (Int × Unit) :=
  (y1e (fun s__ => yIW (c) s__) wMax (state))
theorem yQw (c : Cha) (state : Int) (y : Int × Unit) (h : zn_M c state = some y) : ∃ n, zn_m n c state = some y :=
  ⟨big, LeF.top (show LeF some (zn_M c state) (zn_m big c state) from (fun (n : Nat) (hn : big ≤ n) => show LeF some (zn_M c state) (zn_m n c state) from (by apply yFK n hn)) big (Nat.le_refl _)) h⟩
def zn_e : Entry := { f := 88, args := zn_a, ress := zn_r, m := fun x => zn_M x.1 x.2.1 }
theorem yGI : FnOK Tryz.prog zn_e := yN (g := zn_g) (fn := Tryz.f88) yC yM eNil (by kernel_rfl) (by kernel_rfl) (by kernel_rfl) (fun x y h => let ⟨n, hn⟩ := yQw x.1 x.2.1 y h; ⟨yTj n, iNil, (yWy n x).trans hn⟩)
abbrev yOD : Ty := .pair t25 (.pair t3 (.pair t3 .unit))
abbrev yT5 : Ty := .pair t3 (.pair t4 .unit)
def ySt : G := { T := T, E := [], muts := [], fz := [] }
def yVf : List (List Nat) := [[1, 2, 3, 8, 9, 10]]
def yKx (n : Nat) : Ann := { keep := yVf, fuel := n, inl := [], deep := 0 }
def yEB (n : Nat) (r0 : Int → Int → Cha → Int → Bool → Int → Option (Int × Bool × Unit)) (state1_0 : Int) (index2_0 : Int) (c3_0 : Cha) (n8_0 : Int) (is9_0 : Bool) (i10_0 : Int) : Option (Int × Bool × Unit) :=
  (bif decide (i10_0 < (↑c3_0.1.length : Int)) then (Option.bind (idx c3_0.1 i10_0) fun (v1 : Sta) => (bif v1.2.1 == state1_0 then (bif is9_0 then r0 state1_0 index2_0 c3_0 (IntKind.i64.wrap (n8_0 + 1)) Bool.true (IntKind.i64.wrap (i10_0 + 1)) else r0 state1_0 index2_0 c3_0 (IntKind.i64.wrap (n8_0 + 1)) (i10_0 == index2_0) (IntKind.i64.wrap (i10_0 + 1))) else r0 state1_0 index2_0 c3_0 n8_0 is9_0 (IntKind.i64.wrap (i10_0 + 1)))) else some (n8_0, is9_0, ()))
def y6M (n : Nat)  (k : Nat) (state1_0 : Int) (index2_0 : Int) (c3_0 : Cha) (n8_0 : Int) (is9_0 : Bool) (i10_0 : Int) : Option (Int × Bool × Unit) :=
  iter (fun r y => yEB n (fun state1_0 index2_0 c3_0 n8_0 is9_0 i10_0 => r ((state1_0, (index2_0, (c3_0, (n8_0, (is9_0, (i10_0, ())))))), ((), ()))) y.1.1 y.1.2.1 y.1.2.2.1 y.1.2.2.2.1 y.1.2.2.2.2.1 y.1.2.2.2.2.2.1) k ((state1_0, (index2_0, (c3_0, (n8_0, (is9_0, (i10_0, ())))))), ((), ()))
def yKk (n : Nat) (c : Cha) (state : Int) (index : Int) : Option (Int × Bool × Unit) :=
  (y6M n n (state) (index) (c) ((0 : Int)) (Bool.false) ((0 : Int)))
theorem yRQ (n : Nat) (x : yOD.den) : runF ySt (yKx n) Tryz.f90 yOD yT5 x = yKk n x.1 x.2.1 x.2.2.1 := by kernel_rfl
def y89 (state1_0 : Int) (index2_0 : Int) (c3_0 : Cha) (i10_0 : Int) (v1 : Sta) (n8_0 : Int) (is9_0 : Bool) : Option ((Int × Bool × Unit) ⊕ (Int × Bool)) :=
  (bif v1.2.1 == state1_0 then (bif is9_0 then (some (Sum.inr ((IntKind.i64.wrap (n8_0 + 1)), (Bool.true)))) else (some (Sum.inr ((IntKind.i64.wrap (n8_0 + 1)), (i10_0 == index2_0))))) else (some (Sum.inr ((n8_0), (is9_0)))))
def yEX (state1_0 : Int) (index2_0 : Int) (c3_0 : Cha) (n8_0 : Int) (is9_0 : Bool) : Option (Int × Bool × Unit) :=
  (some ((n8_0, is9_0, ())))
theorem yBs (n : Nat) (hn : big ≤ n)  (state1_0 : Int) (index2_0 : Int) (c3_0 : Cha) (n8_0 : Int) (is9_0 : Bool) (hx : List.length (c3_0.1) < lenMax) : LeF some (yI (fun i__ e__ s__ => y89 state1_0 index2_0 c3_0 i__ e__ s__.1 s__.2) (fun s__ => yEX state1_0 index2_0 c3_0 s__.1 s__.2) 0 (c3_0.1) (n8_0, is9_0)) (y6M n n state1_0 index2_0 c3_0 n8_0 is9_0 0) := by
  refine yJ (f := some) (W := fun k__ i__ s__ => y6M n k__ state1_0 index2_0 c3_0 s__.1 s__.2 i__) (body := (fun i__ e__ s__ => y89 state1_0 index2_0 c3_0 i__ e__ s__.1 s__.2)) (fin := (fun s__ => yEX state1_0 index2_0 c3_0 s__.1 s__.2)) (fun k__ i__ s__ => ?_) hx (n8_0, is9_0) n (by unfold big at hn; unfold lenMax at hx; omega)
  show LeF _ _ (yEB n (y6M n k__) state1_0 index2_0 c3_0 s__.1 s__.2 i__)
  exact y0 (y7 fun v1 => (y0 (y0 (y3 rfl) (y3 rfl)) (y3 rfl))) (yo (y3 rfl))
def yB6 (c : Cha) (state : Int) (index : Int) : Option (Int × Bool × Unit) :=
  (bif decide (List.length (c.1) < lenMax) then yI (fun i__ e__ s__ => y89 (state) (index) (c) i__ e__ s__.1 s__.2) (fun s__ => yEX (state) (index) (c) s__.1 s__.2) 0 (c.1) (((0 : Int)), (Bool.false)) else none)
theorem yNW (c : Cha) (state : Int) (index : Int) (y : Int × Bool × Unit) (h : yB6 c state index = some y) : ∃ n, yKk n c state index = some y :=
  ⟨big, LeF.top (show LeF some (yB6 c state index) (yKk big c state index) from (fun (n : Nat) (hn : big ≤ n) => show LeF some (yB6 c state index) (yKk n c state index) from (yK fun hx => by apply yBs n hn; exact hx)) big (Nat.le_refl _)) h⟩
def z0B_e : Entry := { f := 90, args := yOD, ress := yT5, m := fun x => yB6 x.1 x.2.1 x.2.2.1 }
theorem yTG : FnOK Tryz.prog z0B_e := yN (g := ySt) (fn := Tryz.f90) yC yM eNil (by kernel_rfl) (by kernel_rfl) (by kernel_rfl) (fun x y h => let ⟨n, hn⟩ := yNW x.1 x.2.1 x.2.2.1 y h; ⟨yKx n, iNil, (yRQ n x).trans hn⟩)
abbrev yOW : Ty := .pair t28 .unit
abbrev yRX : Ty := .pair t3 .unit
def yQo : G := { T := T, E := [], muts := [], fz := [] }
def yWe : List (List Nat) := [[0, 3]]
def yL4 (n : Nat) : Ann := { keep := yWe, fuel := n, inl := [], deep := 0 }
def yDE (n : Nat) (r0 : List Int → Int → Option (Int × Unit)) (l0_0 : List Int) (i3_0 : Int) : Option (Int × Unit) :=
  (bif decide (i3_0 < (↑l0_0.length : Int)) then (Option.bind (idx l0_0 i3_0) fun (v1 : Int) => (bif v1 != 0 then (Option.bind (idx l0_0 i3_0) fun (v2 : Int) => some (v2, ())) else r0 l0_0 (IntKind.i64.wrap (i3_0 + 1)))) else some ((0 : Int), ()))
def y6Q (n : Nat)  (k : Nat) (l0_0 : List Int) (i3_0 : Int) : Option (Int × Unit) :=
  iter (fun r y => yDE n (fun l0_0 i3_0 => r ((l0_0, (i3_0, ())), ((), ()))) y.1.1 y.1.2.1) k ((l0_0, (i3_0, ())), ((), ()))
def yJu (n : Nat) (l : List Int) : Option (Int × Unit) :=
  (y6Q n n (l) ((0 : Int)))
theorem ySb (n : Nat) (x : yOW.den) : runF yQo (yL4 n) Tryz.f91 yOW yRX x = yJu n x.1 := by kernel_rfl
def yBe (l0_0 : List Int) (i3_0 : Int) (v1 : Int) : Option ((Int × Unit) ⊕ Unit) :=
  (bif v1 != 0 then (Option.bind (idx l0_0 i3_0) fun (v2 : Int) => (some (Sum.inl ((v2, ()))))) else (some (Sum.inr ())))
def yAy (l0_0 : List Int) : Option (Int × Unit) :=
  (some (((0 : Int), ())))
theorem yCt (n : Nat) (hn : big ≤ n)  (l0_0 : List Int) (hx : List.length (l0_0) < lenMax) : LeF some (yI (fun i__ e__ s__ => yBe l0_0 i__ e__) (fun s__ => yAy l0_0) 0 (l0_0) ()) (y6Q n n l0_0 0) := by
  refine yJ (f := some) (W := fun k__ i__ s__ => y6Q n k__ l0_0 i__) (body := (fun i__ e__ s__ => yBe l0_0 i__ e__)) (fin := (fun s__ => yAy l0_0)) (fun k__ i__ s__ => ?_) hx () n (by unfold big at hn; unfold lenMax at hx; omega)
  show LeF _ _ (yDE n (y6Q n k__) l0_0 i__)
  exact y0 (y7 fun v1 => (y0 (y7 fun v2 => (y3 rfl)) (y3 rfl))) (yo (y3 rfl))
def y71 (l : List Int) : Option (Int × Unit) :=
  (bif decide (List.length (l) < lenMax) then yI (fun i__ e__ s__ => yBe (l) i__ e__) (fun s__ => yAy (l)) 0 (l) () else none)
theorem yM9 (l : List Int) (y : Int × Unit) (h : y71 l = some y) : ∃ n, yJu n l = some y :=
  ⟨big, LeF.top (show LeF some (y71 l) (yJu big l) from (fun (n : Nat) (hn : big ≤ n) => show LeF some (y71 l) (yJu n l) from (yK fun hx => by apply yCt n hn; exact hx)) big (Nat.le_refl _)) h⟩
def z0d_e : Entry := { f := 91, args := yOW, ress := yRX, m := fun x => y71 x.1 }
theorem yDd : FnOK Tryz.prog z0d_e := yN (g := yQo) (fn := Tryz.f91) yC yM eNil (by kernel_rfl) (by kernel_rfl) (by kernel_rfl) (fun x y h => let ⟨n, hn⟩ := yM9 x.1 y h; ⟨yL4 n, iNil, (ySb n x).trans hn⟩)
abbrev yMU : Ty := .pair t4 (.pair t3 .unit)
abbrev yUm : Ty := .pair t3 .unit
def yPI : G := { T := T, E := [], muts := [], fz := [] }
def yX3 : List (List Nat) := []
def yLx (n : Nat) : Ann := { keep := yX3, fuel := n, inl := [], deep := 0 }
def yJL (n : Nat) (holds : Bool) (e : Int) : Option (Int × Unit) :=
  (bif holds then some (e, ()) else some ((0 : Int), ()))
theorem ySV (n : Nat) (x : yMU.den) : runF yPI (yLx n) Tryz.f92 yMU yUm x = yJL n x.1 x.2.1 := by kernel_rfl
def z0p (holds : Bool) (e : Int) : (Int × Unit) :=
  (bif holds then (e, ()) else ((0 : Int), ()))
abbrev yTy (holds : Bool) (e : Int) : Option (Int × Unit) := some (z0p holds e)
theorem yMv (holds : Bool) (e : Int) (y : Int × Unit) (h : yTy holds e = some y) : ∃ n, yJL n holds e = some y :=
  ⟨0, by rw [← h]; show yJL 0 holds e = some (z0p holds e); unfold yJL z0p; first | rfl | (simp only [yG]; done) | (simp only [yG]; rfl)⟩
def z0p_e : Entry := { f := 92, args := yMU, ress := yUm, m := fun x => yTy x.1 x.2.1 }
theorem ySA : FnOK Tryz.prog z0p_e := yN (g := yPI) (fn := Tryz.f92) yC yM eNil (by kernel_rfl) (by kernel_rfl) (by kernel_rfl) (fun x y h => let ⟨n, hn⟩ := yMv x.1 x.2.1 y h; ⟨yLx n, iNil, (ySV n x).trans hn⟩)
abbrev yNz : Ty := .pair t25 (.pair t3 .unit)
abbrev yQe : Ty := .pair t4 .unit
def yR6 : G := { T := T, E := [], muts := [], fz := [] }
def yVa : List (List Nat) := []
def yLh (n : Nat) : Ann := { keep := yVa, fuel := n, inl := [], deep := 0 }
def yJM (n : Nat) (c : Cha) (i : Int) : Option (Bool × Unit) :=
  (Option.bind (idx c.1 i) fun (v0 : Sta) => some (v0.2.2.1 == (-1 : Int), ()))
theorem yQs (n : Nat) (x : yNz.den) : runF yR6 (yLh n) Tryz.f93 yNz yQe x = yJM n x.1 x.2.1 := by kernel_rfl
def yFp (c : Cha) (i : Int) : Option (Bool × Unit) := yJM 0 c i
theorem yN4 (c : Cha) (i : Int) (y : Bool × Unit) (h : yFp c i = some y) : ∃ n, yJM n c i = some y := ⟨0, h⟩
def z0S_e : Entry := { f := 93, args := yNz, ress := yQe, m := fun x => yFp x.1 x.2.1 }
theorem yUA : FnOK Tryz.prog z0S_e := yN (g := yR6) (fn := Tryz.f93) yC yM eNil (by kernel_rfl) (by kernel_rfl) (by kernel_rfl) (fun x y h => let ⟨n, hn⟩ := yN4 x.1 x.2.1 y h; ⟨yLh n, iNil, (yQs n x).trans hn⟩)
abbrev yOr : Ty := .pair t37 (.pair t9 .unit)
abbrev yR9 : Ty := .pair t4 .unit
def yTE : G := { T := T, E := [], muts := [], fz := [] }
def yWL : List (List Nat) := [[0, 1, 5]]
def yLF (n : Nat) : Ann := { keep := yWL, fuel := n, inl := [], deep := 0 }
def yDC (n : Nat) (r0 : List (List UInt8) → List UInt8 → Int → Option (Bool × Unit)) (l0_0 : List (List UInt8)) (s1_0 : List UInt8) (i5_0 : Int) : Option (Bool × Unit) :=
  (bif decide (i5_0 < (↑l0_0.length : Int)) then (Option.bind (idx l0_0 i5_0) fun (v1 : List UInt8) => (bif v1 == s1_0 then some (Bool.true, ()) else r0 l0_0 s1_0 (IntKind.i64.wrap (i5_0 + 1)))) else some (Bool.false, ()))
def y6C (n : Nat)  (k : Nat) (l0_0 : List (List UInt8)) (s1_0 : List UInt8) (i5_0 : Int) : Option (Bool × Unit) :=
  iter (fun r y => yDC n (fun l0_0 s1_0 i5_0 => r ((l0_0, (s1_0, (i5_0, ()))), ((), ()))) y.1.1 y.1.2.1 y.1.2.2.1) k ((l0_0, (s1_0, (i5_0, ()))), ((), ()))
def yJJ (n : Nat) (l : List (List UInt8)) (s : List UInt8) : Option (Bool × Unit) :=
  (y6C n n (l) (s) ((0 : Int)))
theorem yUO (n : Nat) (x : yOr.den) : runF yTE (yLF n) Tryz.f94 yOr yR9 x = yJJ n x.1 x.2.1 := by kernel_rfl
def yE3 (l0_0 : List (List UInt8)) (s1_0 : List UInt8) (i5_0 : Int) (v1 : List UInt8) : Option ((Bool × Unit) ⊕ Unit) :=
  (bif v1 == s1_0 then (some (Sum.inl ((Bool.true, ())))) else (some (Sum.inr ())))
def yGF (l0_0 : List (List UInt8)) (s1_0 : List UInt8) : Option (Bool × Unit) :=
  (some ((Bool.false, ())))
theorem yCX (n : Nat) (hn : big ≤ n)  (l0_0 : List (List UInt8)) (s1_0 : List UInt8) (hx : List.length (l0_0) < lenMax) : LeF some (yI (fun i__ e__ s__ => yE3 l0_0 s1_0 i__ e__) (fun s__ => yGF l0_0 s1_0) 0 (l0_0) ()) (y6C n n l0_0 s1_0 0) := by
  refine yJ (f := some) (W := fun k__ i__ s__ => y6C n k__ l0_0 s1_0 i__) (body := (fun i__ e__ s__ => yE3 l0_0 s1_0 i__ e__)) (fin := (fun s__ => yGF l0_0 s1_0)) (fun k__ i__ s__ => ?_) hx () n (by unfold big at hn; unfold lenMax at hx; omega)
  show LeF _ _ (yDC n (y6C n k__) l0_0 s1_0 i__)
  exact y0 (y7 fun v1 => (y0 (y3 rfl) (y3 rfl))) (yo (y3 rfl))
def yBP (l : List (List UInt8)) (s : List UInt8) : Option (Bool × Unit) :=
  (bif decide (List.length (l) < lenMax) then yI (fun i__ e__ s__ => yE3 (l) (s) i__ e__) (fun s__ => yGF (l) (s)) 0 (l) () else none)
theorem yOy (l : List (List UInt8)) (s : List UInt8) (y : Bool × Unit) (h : yBP l s = some y) : ∃ n, yJJ n l s = some y :=
  ⟨big, LeF.top (show LeF some (yBP l s) (yJJ big l s) from (fun (n : Nat) (hn : big ≤ n) => show LeF some (yBP l s) (yJJ n l s) from (yK fun hx => by apply yCX n hn; exact hx)) big (Nat.le_refl _)) h⟩
def z0F_e : Entry := { f := 94, args := yOr, ress := yR9, m := fun x => yBP x.1 x.2.1 }
theorem yRN : FnOK Tryz.prog z0F_e := yN (g := yTE) (fn := Tryz.f94) yC yM eNil (by kernel_rfl) (by kernel_rfl) (by kernel_rfl) (fun x y h => let ⟨n, hn⟩ := yOy x.1 x.2.1 y h; ⟨yLF n, iNil, (yUO n x).trans hn⟩)
abbrev yOP : Ty := .pair t164 .unit
abbrev yS4 : Ty := .pair t29 .unit
def yPV : G := { T := T, E := [], muts := [], fz := [] }
def yVx : List (List Nat) := [[5, 6, 7]]
def yLm (n : Nat) : Ann := { keep := yVx, fuel := n, inl := [], deep := 0 }
def yEW (n : Nat) (r0 : List Int → Int → Int → Option (Int × Unit)) (t5_0 : List Int) (t6_0 : Int) (t7_0 : Int) : Option (Int × Unit) :=
  (bif decide (t7_0 < t6_0) then (Option.bind (idx t5_0 t7_0) fun (v1 : Int) => (bif v1 != 0 then some (v1, ()) else r0 t5_0 t6_0 (IntKind.i64.wrap (t7_0 + 1)))) else some ((0 : Int), ()))
def y6K (n : Nat)  (k : Nat) (t5_0 : List Int) (t6_0 : Int) (t7_0 : Int) : Option (Int × Unit) :=
  iter (fun r y => yEW n (fun t5_0 t6_0 t7_0 => r ((t5_0, (t6_0, (t7_0, ()))), ((), ()))) y.1.1 y.1.2.1 y.1.2.2.1) k ((t5_0, (t6_0, (t7_0, ()))), ((), ()))
def yJr (n : Nat) (l : List Int) : Option (Int × Unit) :=
  (y6K n n (l) ((↑l.length : Int)) ((0 : Int)))
theorem yPv (n : Nat) (x : yOP.den) : runF yPV (yLm n) Tryz.f95 yOP yS4 x = yJr n x.1 := by kernel_rfl
def yE9 (t5_0 : List Int) (t7_0 : Int) (v1 : Int) : Option ((Int × Unit) ⊕ Unit) :=
  (bif v1 != 0 then (some (Sum.inl ((v1, ())))) else (some (Sum.inr ())))
def yDp (t5_0 : List Int) : Option (Int × Unit) :=
  (some (((0 : Int), ())))
theorem yCg (n : Nat) (hn : big ≤ n)  (t5_0 : List Int) (hx : List.length (t5_0) < lenMax) : LeF some (yI (fun i__ e__ s__ => yE9 t5_0 i__ e__) (fun s__ => yDp t5_0) 0 (t5_0) ()) (y6K n n t5_0 (List.length (t5_0) : Int) 0) := by
  refine yJ (f := some) (W := fun k__ i__ s__ => y6K n k__ t5_0 (List.length (t5_0) : Int) i__) (body := (fun i__ e__ s__ => yE9 t5_0 i__ e__)) (fin := (fun s__ => yDp t5_0)) (fun k__ i__ s__ => ?_) hx () n (by unfold big at hn; unfold lenMax at hx; omega)
  show LeF _ _ (yEW n (y6K n k__) t5_0 (List.length (t5_0) : Int) i__)
  exact y0 (y7 fun v1 => (y0 (y3 rfl) (y3 rfl))) (yo (y3 rfl))
def y0Q (l : List Int) : Option (Int × Unit) :=
  (bif decide (List.length (l) < lenMax) then yI (fun i__ e__ s__ => yE9 (l) i__ e__) (fun s__ => yDp (l)) 0 (l) () else none)
theorem yND (l : List Int) (y : Int × Unit) (h : y0Q l = some y) : ∃ n, yJr n l = some y :=
  ⟨big, LeF.top (show LeF some (y0Q l) (yJr big l) from (fun (n : Nat) (hn : big ≤ n) => show LeF some (y0Q l) (yJr n l) from (yK fun hx => by apply yCg n hn; exact hx)) big (Nat.le_refl _)) h⟩
def z0j_e : Entry := { f := 95, args := yOP, ress := yS4, m := fun x => y0Q x.1 }
theorem y1R : FnOK Tryz.prog z0j_e := yN (g := yPV) (fn := Tryz.f95) yC yM eNil (by kernel_rfl) (by kernel_rfl) (by kernel_rfl) (fun x y h => let ⟨n, hn⟩ := yND x.1 y h; ⟨yLm n, iNil, (yPv n x).trans hn⟩)
end
end Go.Tw
end
section
set_option linter.all false
set_option maxRecDepth 1000000
namespace Go.Tw
open Go.Vx Go.Vx.B Go.Proofs
noncomputable section
abbrev yNw : Ty := .pair t4 (.pair t29 .unit)
abbrev yRT : Ty := .pair t29 .unit
def yPJ : G := { T := T, E := [], muts := [], fz := [] }
def yWX : List (List Nat) := []
def yM4 (n : Nat) : Ann := { keep := yWX, fuel := n, inl := [], deep := 0 }
def yJ5 (n : Nat) (holds : Bool) (e : Int) : Option (Int × Unit) :=
  (bif holds then some (e, ()) else some ((0 : Int), ()))
theorem yTU (n : Nat) (x : yNw.den) : runF yPJ (yM4 n) Tryz.f96 yNw yRT x = yJ5 n x.1 x.2.1 := by kernel_rfl
def z0v (holds : Bool) (e : Int) : (Int × Unit) :=
  (bif holds then (e, ()) else ((0 : Int), ()))
abbrev yTK (holds : Bool) (e : Int) : Option (Int × Unit) := some (z0v holds e)
theorem yO0 (holds : Bool) (e : Int) (y : Int × Unit) (h : yTK holds e = some y) : ∃ n, yJ5 n holds e = some y :=
  ⟨0, by rw [← h]; show yJ5 0 holds e = some (z0v holds e); unfold yJ5 z0v; first | rfl | (simp only [yG]; done) | (simp only [yG]; rfl)⟩
def z0v_e : Entry := { f := 96, args := yNw, ress := yRT, m := fun x => yTK x.1 x.2.1 }
theorem y44 : FnOK Tryz.prog z0v_e := yN (g := yPJ) (fn := Tryz.f96) yC yM eNil (by kernel_rfl) (by kernel_rfl) (by kernel_rfl) (fun x y h => let ⟨n, hn⟩ := yO0 x.1 x.2.1 y h; ⟨yM4 n, iNil, (yTU n x).trans hn⟩)
abbrev z6_a : Ty := .pair t33 (.pair t163 .unit)
abbrev z6_r : Ty := .pair t164 .unit
def z6_g : G := { T := T, E := [], muts := [5], fz := [] }
def z6_k : List (List Nat) := [[1, 5, 8, 9, 10]]
def yT3 (n : Nat) : Ann := { keep := z6_k, fuel := n, inl := [], deep := 0 }
def yHN (n : Nat) (r0 : (Tra × Unit → Option (Int × Unit)) → List Tra → Int → Int → List Int → Option (List Int × Unit)) (of1_0 : Tra × Unit → Option (Int × Unit)) (t8_0 : List Tra) (t9_0 : Int) (t10_0 : Int) (c0_0 : List Int) : Option (List Int × Unit) :=
  (bif decide (t10_0 < t9_0) then (Option.bind (idx t8_0 t10_0) fun (v1 : Tra) => (Option.bind (of1_0 ((v1.1, v1.2.1, v1.2.2.1, v1.2.2.2.1, v1.2.2.2.2.1, ()), ())) fun (v2 : Int × Unit) => (bif decide (c0_0.length + (1 : Nat) ≤ memMax) then r0 of1_0 t8_0 t9_0 (IntKind.i64.wrap (t10_0 + 1)) (c0_0 ++ [v2.1]) else none))) else some (c0_0, ()))
def y9Q (n : Nat)  (k : Nat) (of1_0 : Tra × Unit → Option (Int × Unit)) (t8_0 : List Tra) (t9_0 : Int) (t10_0 : Int) (c0_0 : List Int) : Option (List Int × Unit) :=
  iter (fun r y => yHN n (fun of1_0 t8_0 t9_0 t10_0 c0_0 => r ((of1_0, (t8_0, (t9_0, (t10_0, ())))), ((c0_0, ()), ()))) y.1.1 y.1.2.1 y.1.2.2.1 y.1.2.2.2.1 y.2.1.1) k ((of1_0, (t8_0, (t9_0, (t10_0, ())))), ((c0_0, ()), ()))
def z6_m (n : Nat) (l : List Tra) (of : Tra × Unit → Option (Int × Unit)) : Option (List Int × Unit) :=
  (y9Q n n (of) (l) ((↑l.length : Int)) ((0 : Int)) ([]))
theorem yW1 (n : Nat) (x : z6_a.den) : runF z6_g (yT3 n) Tryz.f100 z6_a z6_r x = z6_m n x.1 x.2.1 := by kernel_rfl
def yKl (of1_0 : Tra × Unit → Option (Int × Unit)) (t8_0 : List Tra) (t10_0 : Int) (v1 : Tra) (c0_0 : List Int) : Option ((List Int × Unit) ⊕ (List Int)) :=
  (Option.bind (of1_0 ((v1.1, v1.2.1, v1.2.2.1, v1.2.2.2.1, v1.2.2.2.2.1, ()), ())) fun (v2 : Int × Unit) => (bif decide (c0_0.length + (1 : Nat) ≤ memMax) then (some (Sum.inr (c0_0 ++ [v2.1]))) else none))
def yOj (of1_0 : Tra × Unit → Option (Int × Unit)) (t8_0 : List Tra) (c0_0 : List Int) : Option (List Int × Unit) :=
  (some ((c0_0, ())))
theorem yFj (n : Nat) (hn : big ≤ n)  (of1_0 : Tra × Unit → Option (Int × Unit)) (t8_0 : List Tra) (c0_0 : List Int) (hx : List.length (t8_0) < lenMax) : LeF some (yI (fun i__ e__ s__ => yKl of1_0 t8_0 i__ e__ s__) (fun s__ => yOj of1_0 t8_0 s__) 0 (t8_0) c0_0) (y9Q n n of1_0 t8_0 (List.length (t8_0) : Int) 0 c0_0) := by
  refine yJ (f := some) (W := fun k__ i__ s__ => y9Q n k__ of1_0 t8_0 (List.length (t8_0) : Int) i__ s__) (body := (fun i__ e__ s__ => yKl of1_0 t8_0 i__ e__ s__)) (fin := (fun s__ => yOj of1_0 t8_0 s__)) (fun k__ i__ s__ => ?_) hx c0_0 n (by unfold big at hn; unfold lenMax at hx; omega)
  show LeF _ _ (yHN n (y9Q n k__) of1_0 t8_0 (List.length (t8_0) : Int) i__ s__)
  exact y0 (y7 fun v1 => (y7 fun v2 => (y0 (y3 rfl) yc))) (yo (y3 rfl))
def z6_M (l : List Tra) (of : Tra × Unit → Option (Int × Unit)) : Option (List Int × Unit) :=
  (bif decide (List.length (l) < lenMax) then yI (fun i__ e__ s__ => yKl (of) (l) i__ e__ s__) (fun s__ => yOj (of) (l) s__) 0 (l) ([]) else none)
theorem ySo (l : List Tra) (of : Tra × Unit → Option (Int × Unit)) (y : List Int × Unit) (h : z6_M l of = some y) : ∃ n, z6_m n l of = some y :=
  ⟨big, LeF.top (show LeF some (z6_M l of) (z6_m big l of) from (fun (n : Nat) (hn : big ≤ n) => show LeF some (z6_M l of) (z6_m n l of) from (yK fun hx => by apply yFj n hn; exact hx)) big (Nat.le_refl _)) h⟩
def z6_e : Entry := { f := 100, args := z6_a, ress := z6_r, m := fun x => z6_M x.1 x.2.1 }
theorem yWQ : FnOK Tryz.prog z6_e := yN (g := z6_g) (fn := Tryz.f100) yC yM eNil (by kernel_rfl) (by kernel_rfl) (by kernel_rfl) (fun x y h => let ⟨n, hn⟩ := ySo x.1 x.2.1 y h; ⟨yT3 n, iNil, (yW1 n x).trans hn⟩)
abbrev yNr : Ty := .pair t25 (.pair t3 (.pair t53 .unit))
abbrev yQd : Ty := .pair t3 (.pair t110 .unit)
def yTY : G := { T := T, E := [], muts := [], fz := [] }
def yXZ : List (List Nat) := [[3, 5, 7, 8], [3, 5, 7, 8, 9, 10, 11]]
def yKw (n : Nat) : Ann := { keep := yXZ, fuel := n, inl := [], deep := 0 }
def yD0 (n : Nat) (r0 : Cha → List UInt8 × Int × Unit → Int → Int → List UInt8 → Int → Int → Int → Option (Int × Tra × Unit)) (r1 : Cha → List UInt8 × Int × Unit → Int → Int → Int → Int → List UInt8 → Int → Int → Int → Int → List UInt8 → Int → Int → Int → Option (Int × Tra × Unit)) (c3_1 : Cha) (in5_1 : List UInt8 × Int × Unit) (s8_1 : Int) (n9_1 : Int) (i11_1 : Int) (b0_0_1 : Int) (b0_1_1 : List UInt8) (b0_2_1 : Int) (b0_3_1 : Int) (b0_4_1 : Int) (b1_0_1 : Int) (b1_1_1 : List UInt8) (b1_2_1 : Int) (b1_3_1 : Int) (b1_4_1 : Int) : Option (Int × Tra × Unit) :=
  (bif decide (i11_1 < (↑c3_1.2.1.length : Int)) then (Option.bind (idx c3_1.2.1 i11_1) fun (v2 : Tra) => (bif v2.1 == s8_1 then (bif v2.2.1 == in5_1.1 then (bif yl IntKind.i64 Go.BinOp.and in5_1.2.1 v2.2.2.2.1 == v2.2.2.2.2.1 then r1 c3_1 in5_1 s8_1 (IntKind.i64.wrap (n9_1 + 1)) (IntKind.i64.wrap (i11_1 + 1)) b0_0_1 b0_1_1 b0_2_1 b0_3_1 b0_4_1 v2.1 v2.2.1 v2.2.2.1 v2.2.2.2.1 v2.2.2.2.2.1 else r1 c3_1 in5_1 s8_1 n9_1 (IntKind.i64.wrap (i11_1 + 1)) b0_0_1 b0_1_1 b0_2_1 b0_3_1 b0_4_1 b1_0_1 b1_1_1 b1_2_1 b1_3_1 b1_4_1) else r1 c3_1 in5_1 s8_1 n9_1 (IntKind.i64.wrap (i11_1 + 1)) b0_0_1 b0_1_1 b0_2_1 b0_3_1 b0_4_1 b1_0_1 b1_1_1 b1_2_1 b1_3_1 b1_4_1) else r1 c3_1 in5_1 s8_1 n9_1 (IntKind.i64.wrap (i11_1 + 1)) b0_0_1 b0_1_1 b0_2_1 b0_3_1 b0_4_1 b1_0_1 b1_1_1 b1_2_1 b1_3_1 b1_4_1)) else (bif decide (n9_1 > 0) then some (n9_1, (b1_0_1, b1_1_1, b1_2_1, b1_3_1, b1_4_1, ()), ()) else (Option.bind (idx c3_1.1 s8_1) fun (v17 : Sta) => r0 c3_1 in5_1 v17.2.1 b0_0_1 b0_1_1 b0_2_1 b0_3_1 b0_4_1)))
def y6a (n : Nat) (r0 : Cha → List UInt8 × Int × Unit → Int → Int → List UInt8 → Int → Int → Int → Option (Int × Tra × Unit)) (k : Nat) (c3_1 : Cha) (in5_1 : List UInt8 × Int × Unit) (s8_1 : Int) (n9_1 : Int) (i11_1 : Int) (b0_0_1 : Int) (b0_1_1 : List UInt8) (b0_2_1 : Int) (b0_3_1 : Int) (b0_4_1 : Int) (b1_0_1 : Int) (b1_1_1 : List UInt8) (b1_2_1 : Int) (b1_3_1 : Int) (b1_4_1 : Int) : Option (Int × Tra × Unit) :=
  iter (fun r y => yD0 n r0 (fun c3_1 in5_1 s8_1 n9_1 i11_1 b0_0_1 b0_1_1 b0_2_1 b0_3_1 b0_4_1 b1_0_1 b1_1_1 b1_2_1 b1_3_1 b1_4_1 => r ((c3_1, (in5_1, (s8_1, (n9_1, (i11_1, ()))))), (((b0_0_1, (b0_1_1, (b0_2_1, (b0_3_1, (b0_4_1, ()))))), ((b1_0_1, (b1_1_1, (b1_2_1, (b1_3_1, (b1_4_1, ()))))), ())), ()))) y.1.1 y.1.2.1 y.1.2.2.1 y.1.2.2.2.1 y.1.2.2.2.2.1 y.2.1.1.1 y.2.1.1.2.1 y.2.1.1.2.2.1 y.2.1.1.2.2.2.1 y.2.1.1.2.2.2.2.1 y.2.1.2.1.1 y.2.1.2.1.2.1 y.2.1.2.1.2.2.1 y.2.1.2.1.2.2.2.1 y.2.1.2.1.2.2.2.2.1) k ((c3_1, (in5_1, (s8_1, (n9_1, (i11_1, ()))))), (((b0_0_1, (b0_1_1, (b0_2_1, (b0_3_1, (b0_4_1, ()))))), ((b1_0_1, (b1_1_1, (b1_2_1, (b1_3_1, (b1_4_1, ()))))), ())), ()))
def yE7 (n : Nat) (r0 : Cha → List UInt8 × Int × Unit → Int → Int → List UInt8 → Int → Int → Int → Option (Int × Tra × Unit)) (c3_0 : Cha) (in5_0 : List UInt8 × Int × Unit) (s8_0 : Int) (b0_0_0 : Int) (b0_1_0 : List UInt8) (b0_2_0 : Int) (b0_3_0 : Int) (b0_4_0 : Int) : Option (Int × Tra × Unit) :=
  (bif decide (s8_0 ≥ 0) then (y6a n r0 n (c3_0) (in5_0) (s8_0) ((0 : Int)) ((0 : Int)) (b0_0_0) (b0_1_0) (b0_2_0) (b0_3_0) (b0_4_0) ((0 : Int)) ([]) ((0 : Int)) ((0 : Int)) ((0 : Int))) else some ((0 : Int), ((0 : Int), [], (0 : Int), (0 : Int), (0 : Int), ()), ()))
def y6T (n : Nat)  (k : Nat) (c3_0 : Cha) (in5_0 : List UInt8 × Int × Unit) (s8_0 : Int) (b0_0_0 : Int) (b0_1_0 : List UInt8) (b0_2_0 : Int) (b0_3_0 : Int) (b0_4_0 : Int) : Option (Int × Tra × Unit) :=
  iter (fun r y => yE7 n (fun c3_0 in5_0 s8_0 b0_0_0 b0_1_0 b0_2_0 b0_3_0 b0_4_0 => r ((c3_0, (in5_0, (s8_0, ()))), (((b0_0_0, (b0_1_0, (b0_2_0, (b0_3_0, (b0_4_0, ()))))), ()), ()))) y.1.1 y.1.2.1 y.1.2.2.1 y.2.1.1.1 y.2.1.1.2.1 y.2.1.1.2.2.1 y.2.1.1.2.2.2.1 y.2.1.1.2.2.2.2.1) k ((c3_0, (in5_0, (s8_0, ()))), (((b0_0_0, (b0_1_0, (b0_2_0, (b0_3_0, (b0_4_0, ()))))), ()), ()))
def yJz (n : Nat) (c : Cha) (leaf : Int) (p2 : List UInt8 × Int × Unit) : Option (Int × Tra × Unit) :=
  (y6T n n (c) (p2) (leaf) ((0 : Int)) ([]) ((0 : Int)) ((0 : Int)) ((0 : Int)))
theorem ySl (n : Nat) (x : yNr.den) : runF yTY (yKw n) Tryz.f106 yNr yQd x = yJz n x.1 x.2.1 x.2.2.1 := by kernel_rfl
def y8Y (c3_1 : Cha) (in5_1 : List UInt8 × Int × Unit) (s8_1 : Int) (b0_0_1 : Int) (b0_1_1 : List UInt8) (b0_2_1 : Int) (b0_3_1 : Int) (b0_4_1 : Int) (i11_1 : Int) (v2 : Tra) (n9_1 : Int) (b1_0_1 : Int) (b1_1_1 : List UInt8) (b1_2_1 : Int) (b1_3_1 : Int) (b1_4_1 : Int) : Option (((Int × Tra × Unit) ⊕ (Int)) ⊕ (Int × Int × List UInt8 × Int × Int × Int)) :=
  (bif v2.1 == s8_1 then (bif v2.2.1 == in5_1.1 then (bif yl IntKind.i64 Go.BinOp.and in5_1.2.1 v2.2.2.2.1 == v2.2.2.2.2.1 then (some (Sum.inr ((IntKind.i64.wrap (n9_1 + 1)), (v2.1), (v2.2.1), (v2.2.2.1), (v2.2.2.2.1), (v2.2.2.2.2.1)))) else (some (Sum.inr ((n9_1), (b1_0_1), (b1_1_1), (b1_2_1), (b1_3_1), (b1_4_1))))) else (some (Sum.inr ((n9_1), (b1_0_1), (b1_1_1), (b1_2_1), (b1_3_1), (b1_4_1))))) else (some (Sum.inr ((n9_1), (b1_0_1), (b1_1_1), (b1_2_1), (b1_3_1), (b1_4_1)))))
def y8H (c3_1 : Cha) (in5_1 : List UInt8 × Int × Unit) (s8_1 : Int) (b0_0_1 : Int) (b0_1_1 : List UInt8) (b0_2_1 : Int) (b0_3_1 : Int) (b0_4_1 : Int) (n9_1 : Int) (b1_0_1 : Int) (b1_1_1 : List UInt8) (b1_2_1 : Int) (b1_3_1 : Int) (b1_4_1 : Int) : Option ((Int × Tra × Unit) ⊕ (Int)) :=
  (bif decide (n9_1 > 0) then (some (Sum.inl ((n9_1, (b1_0_1, b1_1_1, b1_2_1, b1_3_1, b1_4_1, ()), ())))) else (Option.bind (idx c3_1.1 s8_1) fun (v17 : Sta) => (some (Sum.inr (v17.2.1)))))
theorem yCa (n : Nat) (hn : big ≤ n)  (r0 : Cha → List UInt8 × Int × Unit → Int → Int → List UInt8 → Int → Int → Int → Option (Int × Tra × Unit)) (c3_1 : Cha) (in5_1 : List UInt8 × Int × Unit) (s8_1 : Int) (b0_0_1 : Int) (b0_1_1 : List UInt8) (b0_2_1 : Int) (b0_3_1 : Int) (b0_4_1 : Int) (n9_1 : Int) (b1_0_1 : Int) (b1_1_1 : List UInt8) (b1_2_1 : Int) (b1_3_1 : Int) (b1_4_1 : Int) (hx : List.length (c3_1.2.1) < lenMax) : LeF (elim some fun (s__ : (Int)) => r0 c3_1 in5_1 s__ b0_0_1 b0_1_1 b0_2_1 b0_3_1 b0_4_1) (yI (fun i__ e__ s__ => y8Y c3_1 in5_1 s8_1 b0_0_1 b0_1_1 b0_2_1 b0_3_1 b0_4_1 i__ e__ s__.1 s__.2.1 s__.2.2.1 s__.2.2.2.1 s__.2.2.2.2.1 s__.2.2.2.2.2) (fun s__ => y8H c3_1 in5_1 s8_1 b0_0_1 b0_1_1 b0_2_1 b0_3_1 b0_4_1 s__.1 s__.2.1 s__.2.2.1 s__.2.2.2.1 s__.2.2.2.2.1 s__.2.2.2.2.2) 0 (c3_1.2.1) (n9_1, b1_0_1, b1_1_1, b1_2_1, b1_3_1, b1_4_1)) (y6a n r0 n c3_1 in5_1 s8_1 n9_1 0 b0_0_1 b0_1_1 b0_2_1 b0_3_1 b0_4_1 b1_0_1 b1_1_1 b1_2_1 b1_3_1 b1_4_1) := by
  refine yJ (f := (elim some fun (s__ : (Int)) => r0 c3_1 in5_1 s__ b0_0_1 b0_1_1 b0_2_1 b0_3_1 b0_4_1)) (W := fun k__ i__ s__ => y6a n r0 k__ c3_1 in5_1 s8_1 s__.1 i__ b0_0_1 b0_1_1 b0_2_1 b0_3_1 b0_4_1 s__.2.1 s__.2.2.1 s__.2.2.2.1 s__.2.2.2.2.1 s__.2.2.2.2.2) (body := (fun i__ e__ s__ => y8Y c3_1 in5_1 s8_1 b0_0_1 b0_1_1 b0_2_1 b0_3_1 b0_4_1 i__ e__ s__.1 s__.2.1 s__.2.2.1 s__.2.2.2.1 s__.2.2.2.2.1 s__.2.2.2.2.2)) (fin := (fun s__ => y8H c3_1 in5_1 s8_1 b0_0_1 b0_1_1 b0_2_1 b0_3_1 b0_4_1 s__.1 s__.2.1 s__.2.2.1 s__.2.2.2.1 s__.2.2.2.2.1 s__.2.2.2.2.2)) (fun k__ i__ s__ => ?_) hx (n9_1, b1_0_1, b1_1_1, b1_2_1, b1_3_1, b1_4_1) n (by unfold big at hn; unfold lenMax at hx; omega)
  show LeF _ _ (yD0 n r0 (y6a n r0 k__) c3_1 in5_1 s8_1 s__.1 i__ b0_0_1 b0_1_1 b0_2_1 b0_3_1 b0_4_1 s__.2.1 s__.2.2.1 s__.2.2.2.1 s__.2.2.2.2.1 s__.2.2.2.2.2)
  exact y0 (y7 fun v2 => (y0 (y0 (y0 (y3 rfl) (y3 rfl)) (y3 rfl)) (y3 rfl))) (yo (y0 (y3 rfl) (y7 fun v17 => (y3 rfl))))
def yAS (c3_0 : Cha) (in5_0 : List UInt8 × Int × Unit) (b0_0_0 : Int) (b0_1_0 : List UInt8) (b0_2_0 : Int) (b0_3_0 : Int) (b0_4_0 : Int) (s8_0 : Int) : Option ((Int × Tra × Unit) ⊕ (Int)) :=
  (bif decide (s8_0 ≥ 0) then (bif decide (List.length (c3_0.2.1) < lenMax) then yI (fun i__ e__ s__ => y8Y (c3_0) (in5_0) (s8_0) (b0_0_0) (b0_1_0) (b0_2_0) (b0_3_0) (b0_4_0) i__ e__ s__.1 s__.2.1 s__.2.2.1 s__.2.2.2.1 s__.2.2.2.2.1 s__.2.2.2.2.2) (fun s__ => y8H (c3_0) (in5_0) (s8_0) (b0_0_0) (b0_1_0) (b0_2_0) (b0_3_0) (b0_4_0) s__.1 s__.2.1 s__.2.2.1 s__.2.2.2.1 s__.2.2.2.2.1 s__.2.2.2.2.2) 0 (c3_0.2.1) (((0 : Int)), ((0 : Int)), ([]), ((0 : Int)), ((0 : Int)), ((0 : Int))) else none) else (some (Sum.inl (((0 : Int), ((0 : Int), [], (0 : Int), (0 : Int), (0 : Int), ()), ())))))
theorem yCs (n : Nat) (hn : big ≤ n)  (c3_0 : Cha) (in5_0 : List UInt8 × Int × Unit) (b0_0_0 : Int) (b0_1_0 : List UInt8) (b0_2_0 : Int) (b0_3_0 : Int) (b0_4_0 : Int) (s8_0 : Int) : LeF some (y1e (fun s__ => yAS c3_0 in5_0 b0_0_0 b0_1_0 b0_2_0 b0_3_0 b0_4_0 s__) wMax s8_0) (y6T n n c3_0 in5_0 s8_0 b0_0_0 b0_1_0 b0_2_0 b0_3_0 b0_4_0) := by
  refine y4O (f := some) (W := fun k__ s__ => y6T n k__ c3_0 in5_0 s__ b0_0_0 b0_1_0 b0_2_0 b0_3_0 b0_4_0) (body := (fun s__ => yAS c3_0 in5_0 b0_0_0 b0_1_0 b0_2_0 b0_3_0 b0_4_0 s__)) (fun k__ s__ => ?_) wMax n s8_0 (by unfold big at hn; unfold wMax; omega)
  show LeF _ _ (yE7 n (y6T n k__) c3_0 in5_0 s__ b0_0_0 b0_1_0 b0_2_0 b0_3_0 b0_4_0)
  exact (y0 (yK fun hx => by apply yCa n hn; exact hx) (y3 rfl))
def yBf (c : Cha) (leaf : Int) (p2 : List UInt8 × Int × Unit) : Option (Int × Tra × Unit) :=
  (y1e (fun s__ => yAS (c) (p2) ((0 : Int)) ([]) ((0 : Int)) ((0 : Int)) ((0 : Int)) s__) wMax (leaf))
theorem yNe (c : Cha) (leaf : Int) (p2 : List UInt8 × Int × Unit) (y : Int × Tra × Unit) (h : yBf c leaf p2 = some y) : ∃ n, yJz n c leaf p2 = some y :=
  ⟨big, LeF.top (show LeF some (yBf c leaf p2) (yJz big c leaf p2) from (fun (n : Nat) (hn : big ≤ n) => show LeF some (yBf c leaf p2) (yJz n c leaf p2) from (by apply yCs n hn)) big (Nat.le_refl _)) h⟩
def z0g_e : Entry := { f := 106, args := yNr, ress := yQd, m := fun x => yBf x.1 x.2.1 x.2.2.1 }
theorem yRh : FnOK Tryz.prog z0g_e := yN (g := yTY) (fn := Tryz.f106) yC yM eNil (by kernel_rfl) (by kernel_rfl) (by kernel_rfl) (fun x y h => let ⟨n, hn⟩ := yNe x.1 x.2.1 x.2.2.1 y h; ⟨yKw n, iNil, (ySl n x).trans hn⟩)
abbrev zF_a : Ty := .pair t28 (.pair t162 .unit)
abbrev zF_r : Ty := .pair t164 .unit
def zF_g : G := { T := T, E := [], muts := [5], fz := [] }
def zF_k : List (List Nat) := [[1, 5, 8, 9, 10]]
def ySF (n : Nat) : Ann := { keep := zF_k, fuel := n, inl := [], deep := 0 }
def yI2 (n : Nat) (r0 : (Int × Unit → Option (Int × Unit)) → List Int → Int → Int → List Int → Option (List Int × Unit)) (of1_0 : Int × Unit → Option (Int × Unit)) (t8_0 : List Int) (t9_0 : Int) (t10_0 : Int) (c0_0 : List Int) : Option (List Int × Unit) :=
  (bif decide (t10_0 < t9_0) then (Option.bind (idx t8_0 t10_0) fun (v1 : Int) => (Option.bind (of1_0 (v1, ())) fun (v2 : Int × Unit) => (bif decide (c0_0.length + (1 : Nat) ≤ memMax) then r0 of1_0 t8_0 t9_0 (IntKind.i64.wrap (t10_0 + 1)) (c0_0 ++ [v2.1]) else none))) else some (c0_0, ()))
def y8y (n : Nat)  (k : Nat) (of1_0 : Int × Unit → Option (Int × Unit)) (t8_0 : List Int) (t9_0 : Int) (t10_0 : Int) (c0_0 : List Int) : Option (List Int × Unit) :=
  iter (fun r y => yI2 n (fun of1_0 t8_0 t9_0 t10_0 c0_0 => r ((of1_0, (t8_0, (t9_0, (t10_0, ())))), ((c0_0, ()), ()))) y.1.1 y.1.2.1 y.1.2.2.1 y.1.2.2.2.1 y.2.1.1) k ((of1_0, (t8_0, (t9_0, (t10_0, ())))), ((c0_0, ()), ()))
def zF_m (n : Nat) (l : List Int) (of : Int × Unit → Option (Int × Unit)) : Option (List Int × Unit) :=
  (y8y n n (of) (l) ((↑l.length : Int)) ((0 : Int)) ([]))
theorem yVz (n : Nat) (x : zF_a.den) : runF zF_g (ySF n) Tryz.f111 zF_a zF_r x = zF_m n x.1 x.2.1 := by kernel_rfl
def yNt (of1_0 : Int × Unit → Option (Int × Unit)) (t8_0 : List Int) (t10_0 : Int) (v1 : Int) (c0_0 : List Int) : Option ((List Int × Unit) ⊕ (List Int)) :=
  (Option.bind (of1_0 (v1, ())) fun (v2 : Int × Unit) => (bif decide (c0_0.length + (1 : Nat) ≤ memMax) then (some (Sum.inr (c0_0 ++ [v2.1]))) else none))
def yNP (of1_0 : Int × Unit → Option (Int × Unit)) (t8_0 : List Int) (c0_0 : List Int) : Option (List Int × Unit) :=
  (some ((c0_0, ())))
theorem yFn (n : Nat) (hn : big ≤ n)  (of1_0 : Int × Unit → Option (Int × Unit)) (t8_0 : List Int) (c0_0 : List Int) (hx : List.length (t8_0) < lenMax) : LeF some (yI (fun i__ e__ s__ => yNt of1_0 t8_0 i__ e__ s__) (fun s__ => yNP of1_0 t8_0 s__) 0 (t8_0) c0_0) (y8y n n of1_0 t8_0 (List.length (t8_0) : Int) 0 c0_0) := by
  refine yJ (f := some) (W := fun k__ i__ s__ => y8y n k__ of1_0 t8_0 (List.length (t8_0) : Int) i__ s__) (body := (fun i__ e__ s__ => yNt of1_0 t8_0 i__ e__ s__)) (fin := (fun s__ => yNP of1_0 t8_0 s__)) (fun k__ i__ s__ => ?_) hx c0_0 n (by unfold big at hn; unfold lenMax at hx; omega)
  show LeF _ _ (yI2 n (y8y n k__) of1_0 t8_0 (List.length (t8_0) : Int) i__ s__)
  exact y0 (y7 fun v1 => (y7 fun v2 => (y0 (y3 rfl) yc))) (yo (y3 rfl))
def zF_M (l : List Int) (of : Int × Unit → Option (Int × Unit)) : Option (List Int × Unit) :=
  (bif decide (List.length (l) < lenMax) then yI (fun i__ e__ s__ => yNt (of) (l) i__ e__ s__) (fun s__ => yNP (of) (l) s__) 0 (l) ([]) else none)
theorem yUT (l : List Int) (of : Int × Unit → Option (Int × Unit)) (y : List Int × Unit) (h : zF_M l of = some y) : ∃ n, zF_m n l of = some y :=
  ⟨big, LeF.top (show LeF some (zF_M l of) (zF_m big l of) from (fun (n : Nat) (hn : big ≤ n) => show LeF some (zF_M l of) (zF_m n l of) from (yK fun hx => by apply yFn n hn; exact hx)) big (Nat.le_refl _)) h⟩
def zF_e : Entry := { f := 111, args := zF_a, ress := zF_r, m := fun x => zF_M x.1 x.2.1 }
theorem yWD : FnOK Tryz.prog zF_e := yN (g := zF_g) (fn := Tryz.f111) yC yM eNil (by kernel_rfl) (by kernel_rfl) (by kernel_rfl) (fun x y h => let ⟨n, hn⟩ := yUT x.1 x.2.1 y h; ⟨ySF n, iNil, (yVz n x).trans hn⟩)
abbrev yMW : Ty := .pair t28 (.pair t181 .unit)
abbrev yRK : Ty := .pair t28 .unit
def yRc : G := { T := T, E := [], muts := [5], fz := [] }
def yWh : List (List Nat) := [[1, 5, 8, 9, 10]]
def yLD (n : Nat) : Ann := { keep := yWh, fuel := n, inl := [], deep := 0 }
def yEI (n : Nat) (r0 : (Int × Unit → Option (Bool × Unit)) → List Int → Int → Int → List Int → Option (List Int × Unit)) (holds1_0 : Int × Unit → Option (Bool × Unit)) (t8_0 : List Int) (t9_0 : Int) (t10_0 : Int) (c0_0 : List Int) : Option (List Int × Unit) :=
  (bif decide (t10_0 < t9_0) then (Option.bind (idx t8_0 t10_0) fun (v1 : Int) => (Option.bind (holds1_0 (v1, ())) fun (v2 : Bool × Unit) => (bif v2.1 then (bif decide (c0_0.length + (1 : Nat) ≤ memMax) then r0 holds1_0 t8_0 t9_0 (IntKind.i64.wrap (t10_0 + 1)) (c0_0 ++ [v1]) else none) else r0 holds1_0 t8_0 t9_0 (IntKind.i64.wrap (t10_0 + 1)) c0_0))) else some (c0_0, ()))
def y6b (n : Nat)  (k : Nat) (holds1_0 : Int × Unit → Option (Bool × Unit)) (t8_0 : List Int) (t9_0 : Int) (t10_0 : Int) (c0_0 : List Int) : Option (List Int × Unit) :=
  iter (fun r y => yEI n (fun holds1_0 t8_0 t9_0 t10_0 c0_0 => r ((holds1_0, (t8_0, (t9_0, (t10_0, ())))), ((c0_0, ()), ()))) y.1.1 y.1.2.1 y.1.2.2.1 y.1.2.2.2.1 y.2.1.1) k ((holds1_0, (t8_0, (t9_0, (t10_0, ())))), ((c0_0, ()), ()))
def yJQ (n : Nat) (l : List Int) (holds : Int × Unit → Option (Bool × Unit)) : Option (List Int × Unit) :=
  (y6b n n (holds) (l) ((↑l.length : Int)) ((0 : Int)) ([]))
theorem yUk (n : Nat) (x : yMW.den) : runF yRc (yLD n) Tryz.f112 yMW yRK x = yJQ n x.1 x.2.1 := by kernel_rfl
def yGz (holds1_0 : Int × Unit → Option (Bool × Unit)) (t8_0 : List Int) (t10_0 : Int) (v1 : Int) (c0_0 : List Int) : Option ((List Int × Unit) ⊕ (List Int)) :=
  (Option.bind (holds1_0 (v1, ())) fun (v2 : Bool × Unit) => (bif v2.1 then (bif decide (c0_0.length + (1 : Nat) ≤ memMax) then (some (Sum.inr (c0_0 ++ [v1]))) else none) else (some (Sum.inr (c0_0)))))
def yI1 (holds1_0 : Int × Unit → Option (Bool × Unit)) (t8_0 : List Int) (c0_0 : List Int) : Option (List Int × Unit) :=
  (some ((c0_0, ())))
theorem yC7 (n : Nat) (hn : big ≤ n)  (holds1_0 : Int × Unit → Option (Bool × Unit)) (t8_0 : List Int) (c0_0 : List Int) (hx : List.length (t8_0) < lenMax) : LeF some (yI (fun i__ e__ s__ => yGz holds1_0 t8_0 i__ e__ s__) (fun s__ => yI1 holds1_0 t8_0 s__) 0 (t8_0) c0_0) (y6b n n holds1_0 t8_0 (List.length (t8_0) : Int) 0 c0_0) := by
  refine yJ (f := some) (W := fun k__ i__ s__ => y6b n k__ holds1_0 t8_0 (List.length (t8_0) : Int) i__ s__) (body := (fun i__ e__ s__ => yGz holds1_0 t8_0 i__ e__ s__)) (fin := (fun s__ => yI1 holds1_0 t8_0 s__)) (fun k__ i__ s__ => ?_) hx c0_0 n (by unfold big at hn; unfold lenMax at hx; omega)
  show LeF _ _ (yEI n (y6b n k__) holds1_0 t8_0 (List.length (t8_0) : Int) i__ s__)
  exact y0 (y7 fun v1 => (y7 fun v2 => (y0 (y0 (y3 rfl) yc) (y3 rfl)))) (yo (y3 rfl))
def yG8 (l : List Int) (holds : Int × Unit → Option (Bool × Unit)) : Option (List Int × Unit) :=
  (bif decide (List.length (l) < lenMax) then yI (fun i__ e__ s__ => yGz (holds) (l) i__ e__ s__) (fun s__ => yI1 (holds) (l) s__) 0 (l) ([]) else none)
theorem yNY (l : List Int) (holds : Int × Unit → Option (Bool × Unit)) (y : List Int × Unit) (h : yG8 l holds = some y) : ∃ n, yJQ n l holds = some y :=
  ⟨big, LeF.top (show LeF some (yG8 l holds) (yJQ big l holds) from (fun (n : Nat) (hn : big ≤ n) => show LeF some (yG8 l holds) (yJQ n l holds) from (yK fun hx => by apply yC7 n hn; exact hx)) big (Nat.le_refl _)) h⟩
def z0E_e : Entry := { f := 112, args := yMW, ress := yRK, m := fun x => yG8 x.1 x.2.1 }
theorem yT9 : FnOK Tryz.prog z0E_e := yN (g := yRc) (fn := Tryz.f112) yC yM eNil (by kernel_rfl) (by kernel_rfl) (by kernel_rfl) (fun x y h => let ⟨n, hn⟩ := yNY x.1 x.2.1 y h; ⟨yLD n, iNil, (yUk n x).trans hn⟩)
abbrev yMV : Ty := .pair t3 (.pair (.ref t3) .unit)
abbrev yTC : Ty := .pair t4 .unit
def yQL : G := { T := T, E := [], muts := [], fz := [] }
def yVm : List (List Nat) := []
def yL2 (n : Nat) : Ann := { keep := yVm, fuel := n, inl := [], deep := 0 }
def yK6 (n : Nat) (x1 : Int) (p1 : Int) : Option (Bool × Unit) :=
  some (x1 == p1, ())
theorem yUo (n : Nat) (x : yMV.den) : runF yQL (yL2 n) Tryz.f113 yMV yTC x = yK6 n x.1 x.2.1 := by kernel_rfl
def z0X (x1 : Int) (p1 : Int) : (Bool × Unit) :=
  (x1 == p1, ())
abbrev yKB (x1 : Int) (p1 : Int) : Option (Bool × Unit) := some (z0X x1 p1)
theorem yMI (x1 : Int) (p1 : Int) (y : Bool × Unit) (h : yKB x1 p1 = some y) : ∃ n, yK6 n x1 p1 = some y :=
  ⟨0, by rw [← h]; show yK6 0 x1 p1 = some (z0X x1 p1); unfold yK6 z0X; first | rfl | (simp only [yG]; done) | (simp only [yG]; rfl)⟩
def z0X_e : Entry := { f := 113, args := yMV, ress := yTC, m := fun x => yKB x.1 x.2.1 }
theorem yTA : FnOK Tryz.prog z0X_e := yN (g := yQL) (fn := Tryz.f113) yC yM eNil (by kernel_rfl) (by kernel_rfl) (by kernel_rfl) (fun x y h => let ⟨n, hn⟩ := yMI x.1 x.2.1 y h; ⟨yL2 n, iNil, (yUo n x).trans hn⟩)
abbrev zm_a : Ty := .pair t112 (.pair t167 .unit)
abbrev zm_r : Ty := .pair t4 .unit
def zm_g : G := { T := T, E := [], muts := [], fz := [] }
def zm_k : List (List Nat) := []
def yR2 (n : Nat) : Ann := { keep := zm_k, fuel := n, inl := [], deep := 0 }
def zm_m (n : Nat) (p0 : Cas) (o : Int × Bool × Bool × Unit) : Option (Bool × Unit) :=
  some (o.2.2.1, ())
theorem yWw (n : Nat) (x : zm_a.den) : runF zm_g (yR2 n) Tryz.f116 zm_a zm_r x = zm_m n x.1 x.2.1 := by kernel_rfl
def zm (p0 : Cas) (o : Int × Bool × Bool × Unit) : (Bool × Unit) :=
  (o.2.2.1, ())
abbrev zm_M (p0 : Cas) (o : Int × Bool × Bool × Unit) : Option (Bool × Unit) := some (zm p0 o)
theorem ySS (p0 : Cas) (o : Int × Bool × Bool × Unit) (y : Bool × Unit) (h : zm_M p0 o = some y) : ∃ n, zm_m n p0 o = some y :=
  ⟨0, by rw [← h]; show zm_m 0 p0 o = some (zm p0 o); unfold zm_m zm; first | rfl | (simp only [yG]; done) | (simp only [yG]; rfl)⟩
def zm_e : Entry := { f := 116, args := zm_a, ress := zm_r, m := fun x => zm_M x.1 x.2.1 }
theorem yWY : FnOK Tryz.prog zm_e := yN (g := zm_g) (fn := Tryz.f116) yC yM eNil (by kernel_rfl) (by kernel_rfl) (by kernel_rfl) (fun x y h => let ⟨n, hn⟩ := ySS x.1 x.2.1 y h; ⟨yR2 n, iNil, (yWw n x).trans hn⟩)
abbrev yN2 : Ty := .pair t3 .unit
abbrev yPq : Ty := .pair t184 .unit
def yR3 : G := { T := T, E := [], muts := [], fz := [] }
def yWl : List (List Nat) := []
def yLj (n : Nat) : Ann := { keep := yWl, fuel := n, inl := [], deep := 0 }
def yKd (n : Nat) (n1 : Int) : Option (List Bool × Unit) :=
  some ([yl IntKind.i64 Go.BinOp.and n1 (1 : Int) != 0, yl IntKind.i64 Go.BinOp.and n1 (2 : Int) != 0, yl IntKind.i64 Go.BinOp.and n1 (4 : Int) != 0, yl IntKind.i64 Go.BinOp.and n1 (8 : Int) != 0], ())
theorem yQc (n : Nat) (x : yN2.den) : runF yR3 (yLj n) Tryz.f119 yN2 yPq x = yKd n x.1 := by kernel_rfl
def z0Y (n1 : Int) : (List Bool × Unit) :=
  ([yl IntKind.i64 Go.BinOp.and n1 (1 : Int) != 0, yl IntKind.i64 Go.BinOp.and n1 (2 : Int) != 0, yl IntKind.i64 Go.BinOp.and n1 (4 : Int) != 0, yl IntKind.i64 Go.BinOp.and n1 (8 : Int) != 0], ())
abbrev yPu (n1 : Int) : Option (List Bool × Unit) := some (z0Y n1)
theorem yMf (n1 : Int) (y : List Bool × Unit) (h : yPu n1 = some y) : ∃ n, yKd n n1 = some y :=
  ⟨0, by rw [← h]; show yKd 0 n1 = some (z0Y n1); unfold yKd z0Y; first | rfl | (simp only [yG]; done) | (simp only [yG]; rfl)⟩
def z0Y_e : Entry := { f := 119, args := yN2, ress := yPq, m := fun x => yPu x.1 }
theorem yL6 : FnOK Tryz.prog z0Y_e := yN (g := yR3) (fn := Tryz.f119) yC yM eNil (by kernel_rfl) (by kernel_rfl) (by kernel_rfl) (fun x y h => let ⟨n, hn⟩ := yMf x.1 y h; ⟨yLj n, iNil, (yQc n x).trans hn⟩)
abbrev yMF : Ty := .pair t3 .unit
abbrev yRL : Ty := .pair t97 .unit
def yU4 : G := { T := T, E := [], muts := [7], fz := [] }
def yVQ : List (List Nat) := [[3, 8, 9], [3, 4, 8, 9, 17]]
def yLT (n : Nat) : Ann := { keep := yVQ, fuel := n, inl := [], deep := 0 }
def yD4 (n : Nat) (r0 : Int → Int → List Fai → Option (List Fai × Unit)) (r1 : Int → Int → Int → Int → List Fai → Option (List Fai × Unit)) (at4_1 : Int) (t8_1 : Int) (t9_1 : Int) (t17_1 : Int) (c0_1 : List Fai) : Option (List Fai × Unit) :=
  (bif decide (t17_1 < 8) then (bif decide (c0_1.length + (1 : Nat) ≤ memMax) then r1 at4_1 t8_1 t9_1 (IntKind.i64.wrap (t17_1 + 1)) (c0_1 ++ [([(115 : UInt8), 116, 117, 99, 107], at4_1, IntKind.i64.wrap (t17_1.tdiv (2 : Int)), t17_1.tmod (2 : Int), ())]) else none) else r0 t8_1 (IntKind.i64.wrap (t9_1 + 1)) c0_1)
def y64 (n : Nat) (r0 : Int → Int → List Fai → Option (List Fai × Unit)) (k : Nat) (at4_1 : Int) (t8_1 : Int) (t9_1 : Int) (t17_1 : Int) (c0_1 : List Fai) : Option (List Fai × Unit) :=
  iter (fun r y => yD4 n r0 (fun at4_1 t8_1 t9_1 t17_1 c0_1 => r ((at4_1, (t8_1, (t9_1, (t17_1, ())))), ((c0_1, ()), ()))) y.1.1 y.1.2.1 y.1.2.2.1 y.1.2.2.2.1 y.2.1.1) k ((at4_1, (t8_1, (t9_1, (t17_1, ())))), ((c0_1, ()), ()))
def yDl (n : Nat) (r0 : Int → Int → List Fai → Option (List Fai × Unit)) (t8_0 : Int) (t9_0 : Int) (c0_0 : List Fai) : Option (List Fai × Unit) :=
  (bif decide (t9_0 < t8_0) then (bif decide (c0_0.length + (1 : Nat) ≤ memMax) then (y64 n r0 n (t9_0) (t8_0) (t9_0) ((0 : Int)) (c0_0 ++ [([(108 : UInt8), 111, 115, 116], t9_0, (0 : Int), (0 : Int), ())])) else none) else some (c0_0, ()))
def y63 (n : Nat)  (k : Nat) (t8_0 : Int) (t9_0 : Int) (c0_0 : List Fai) : Option (List Fai × Unit) :=
  iter (fun r y => yDl n (fun t8_0 t9_0 c0_0 => r ((t8_0, (t9_0, ())), ((c0_0, ()), ()))) y.1.1 y.1.2.1 y.2.1.1) k ((t8_0, (t9_0, ())), ((c0_0, ()), ()))
def yJX (n : Nat) (y0O : Int) : Option (List Fai × Unit) :=
  (y63 n n (y0O) ((0 : Int)) ([([(110 : UInt8), 111, 110, 101], (0 : Int), (0 : Int), (0 : Int), ())]))
theorem yTq (n : Nat) (x : yMF.den) : runF yU4 (yLT n) Tryz.f122 yMF yRL x = yJX n x.1 := by kernel_rfl
def yAV (at4_1 : Int) (t8_1 : Int) (t9_1 : Int) (t17_1 : Int) (c0_1 : List Fai) : Option (((List Fai × Unit) ⊕ (List Fai)) ⊕ (List Fai)) :=
  (bif decide (c0_1.length + (1 : Nat) ≤ memMax) then (some (Sum.inr (c0_1 ++ [([(115 : UInt8), 116, 117, 99, 107], at4_1, IntKind.i64.wrap (t17_1.tdiv (2 : Int)), t17_1.tmod (2 : Int), ())]))) else none)
def yDJ (at4_1 : Int) (t8_1 : Int) (t9_1 : Int) (c0_1 : List Fai) : Option ((List Fai × Unit) ⊕ (List Fai)) :=
  (some (Sum.inr (c0_1)))
theorem yBq (n : Nat) (hn : big ≤ n)  (r0 : Int → Int → List Fai → Option (List Fai × Unit)) (at4_1 : Int) (t8_1 : Int) (t9_1 : Int) (c0_1 : List Fai) (hx : ((8 : Int)) ≤ 9223372036854775807) : LeF (elim some fun (s__ : (List Fai)) => r0 t8_1 (IntKind.i64.wrap (t9_1 + 1)) s__) (y01 (fun i__ s__ => yAV at4_1 t8_1 t9_1 i__ s__) (fun s__ => yDJ at4_1 t8_1 t9_1 s__) (((8 : Int)) - 0).toNat 0 c0_1) (y64 n r0 n at4_1 t8_1 t9_1 0 c0_1) := by
  refine y1W (f := (elim some fun (s__ : (List Fai)) => r0 t8_1 (IntKind.i64.wrap (t9_1 + 1)) s__)) (W := fun k__ i__ s__ => y64 n r0 k__ at4_1 t8_1 t9_1 i__ s__) (body := (fun i__ s__ => yAV at4_1 t8_1 t9_1 i__ s__)) (fin := (fun s__ => yDJ at4_1 t8_1 t9_1 s__)) (fun k__ i__ s__ => ?_) hx c0_1 n 0 (by decide) (by unfold big at hn; omega)
  show LeF _ _ (yD4 n r0 (y64 n r0 k__) at4_1 t8_1 t9_1 i__ s__)
  exact y0 (y0 (y3 rfl) yc) (yo (y3 rfl))
def y8r (t8_0 : Int) (t9_0 : Int) (c0_0 : List Fai) : Option ((List Fai × Unit) ⊕ (List Fai)) :=
  (bif decide (c0_0.length + (1 : Nat) ≤ memMax) then (bif decide (((8 : Int)) ≤ 9223372036854775807) then y01 (fun i__ s__ => yAV (t9_0) (t8_0) (t9_0) i__ s__) (fun s__ => yDJ (t9_0) (t8_0) (t9_0) s__) (((8 : Int)) - 0).toNat 0 (c0_0 ++ [([(108 : UInt8), 111, 115, 116], t9_0, (0 : Int), (0 : Int), ())]) else none) else none)
def yAj (t8_0 : Int) (c0_0 : List Fai) : Option (List Fai × Unit) :=
  (some ((c0_0, ())))
theorem yCr (n : Nat) (hn : big ≤ n)  (t8_0 : Int) (c0_0 : List Fai) (hx : (t8_0) ≤ 9223372036854775807) : LeF some (y01 (fun i__ s__ => y8r t8_0 i__ s__) (fun s__ => yAj t8_0 s__) ((t8_0) - 0).toNat 0 c0_0) (y63 n n t8_0 0 c0_0) := by
  refine y1W (f := some) (W := fun k__ i__ s__ => y63 n k__ t8_0 i__ s__) (body := (fun i__ s__ => y8r t8_0 i__ s__)) (fin := (fun s__ => yAj t8_0 s__)) (fun k__ i__ s__ => ?_) hx c0_0 n 0 (by decide) (by unfold big at hn; omega)
  show LeF _ _ (yDl n (y63 n k__) t8_0 i__ s__)
  exact y0 (y0 (yK fun hx => by apply yBq n hn; exact hx) yc) (yo (y3 rfl))
def y9G (y0O : Int) : Option (List Fai × Unit) :=
  (bif decide ((y0O) ≤ 9223372036854775807) then y01 (fun i__ s__ => y8r (y0O) i__ s__) (fun s__ => yAj (y0O) s__) ((y0O) - 0).toNat 0 ([([(110 : UInt8), 111, 110, 101], (0 : Int), (0 : Int), (0 : Int), ())]) else none)
theorem yOe (y0O : Int) (y : List Fai × Unit) (h : y9G y0O = some y) : ∃ n, yJX n y0O = some y :=
  ⟨big, LeF.top (show LeF some (y9G y0O) (yJX big y0O) from (fun (n : Nat) (hn : big ≤ n) => show LeF some (y9G y0O) (yJX n y0O) from (yK fun hx => by apply yCr n hn; exact hx)) big (Nat.le_refl _)) h⟩
def z0D_e : Entry := { f := 122, args := yMF, ress := yRL, m := fun x => y9G x.1 }
theorem yM7 : FnOK Tryz.prog z0D_e := yN (g := yU4) (fn := Tryz.f122) yC yM eNil (by kernel_rfl) (by kernel_rfl) (by kernel_rfl) (fun x y h => let ⟨n, hn⟩ := yOe x.1 y h; ⟨yLT n, iNil, (yTq n x).trans hn⟩)
abbrev yNV : Ty := .pair t125 .unit
abbrev yPs : Ty := .pair t4 .unit
def ySX : G := { T := T, E := [], muts := [], fz := [] }
def yWc : List (List Nat) := []
def yLe (n : Nat) : Ann := { keep := yWc, fuel := n, inl := [], deep := 0 }
def yKs (n : Nat) (g : Goa) : Option (Bool × Unit) :=
  (bif decide ((↑g.1.length : Int) ≤ 17) then some (decide ((↑g.2.1.length : Int) ≤ 17), ()) else some (Bool.false, ()))
theorem yUZ (n : Nat) (x : yNV.den) : runF ySX (yLe n) Tryz.f126 yNV yPs x = yKs n x.1 := by kernel_rfl
def z04 (g : Goa) : (Bool × Unit) :=
  (bif decide ((↑g.1.length : Int) ≤ 17) then (decide ((↑g.2.1.length : Int) ≤ 17), ()) else (Bool.false, ()))
abbrev yS3 (g : Goa) : Option (Bool × Unit) := some (z04 g)
theorem yMN (g : Goa) (y : Bool × Unit) (h : yS3 g = some y) : ∃ n, yKs n g = some y :=
  ⟨0, by rw [← h]; show yKs 0 g = some (z04 g); unfold yKs z04; first | rfl | (simp only [yG]; done) | (simp only [yG]; rfl)⟩
def z04_e : Entry := { f := 126, args := yNV, ress := yPs, m := fun x => yS3 x.1 }
theorem yPm : FnOK Tryz.prog z04_e := yN (g := ySX) (fn := Tryz.f126) yC yM eNil (by kernel_rfl) (by kernel_rfl) (by kernel_rfl) (fun x y h => let ⟨n, hn⟩ := yMN x.1 y h; ⟨yLe n, iNil, (yUZ n x).trans hn⟩)
abbrev zB_a : Ty := .pair t202 (.pair t208 .unit)
abbrev zB_r : Ty := .pair t28 .unit
def zB_g : G := { T := T, E := [], muts := [5], fz := [] }
def zB_k : List (List Nat) := [[1, 5, 8, 9, 10]]
def yRl (n : Nat) : Ann := { keep := zB_k, fuel := n, inl := [], deep := 0 }
def yI0 (n : Nat) (r0 : ((Sta × Int × Unit) × Unit → Option (Int × Unit)) → List (Sta × Int × Unit) → Int → Int → List Int → Option (List Int × Unit)) (of1_0 : (Sta × Int × Unit) × Unit → Option (Int × Unit)) (t8_0 : List (Sta × Int × Unit)) (t9_0 : Int) (t10_0 : Int) (c0_0 : List Int) : Option (List Int × Unit) :=
  (bif decide (t10_0 < t9_0) then (Option.bind (idx t8_0 t10_0) fun (v1 : Sta × Int × Unit) => (Option.bind (of1_0 (((v1.1.1, v1.1.2.1, v1.1.2.2.1, v1.1.2.2.2.1, ()), v1.2.1, ()), ())) fun (v2 : Int × Unit) => (bif decide (c0_0.length + (1 : Nat) ≤ memMax) then r0 of1_0 t8_0 t9_0 (IntKind.i64.wrap (t10_0 + 1)) (c0_0 ++ [v2.1]) else none))) else some (c0_0, ()))
def y9R (n : Nat)  (k : Nat) (of1_0 : (Sta × Int × Unit) × Unit → Option (Int × Unit)) (t8_0 : List (Sta × Int × Unit)) (t9_0 : Int) (t10_0 : Int) (c0_0 : List Int) : Option (List Int × Unit) :=
  iter (fun r y => yI0 n (fun of1_0 t8_0 t9_0 t10_0 c0_0 => r ((of1_0, (t8_0, (t9_0, (t10_0, ())))), ((c0_0, ()), ()))) y.1.1 y.1.2.1 y.1.2.2.1 y.1.2.2.2.1 y.2.1.1) k ((of1_0, (t8_0, (t9_0, (t10_0, ())))), ((c0_0, ()), ()))
def zB_m (n : Nat) (l : List (Sta × Int × Unit)) (of : (Sta × Int × Unit) × Unit → Option (Int × Unit)) : Option (List Int × Unit) :=
  (y9R n n (of) (l) ((↑l.length : Int)) ((0 : Int)) ([]))
theorem yWG (n : Nat) (x : zB_a.den) : runF zB_g (yRl n) Tryz.f131 zB_a zB_r x = zB_m n x.1 x.2.1 := by kernel_rfl
def yMz (of1_0 : (Sta × Int × Unit) × Unit → Option (Int × Unit)) (t8_0 : List (Sta × Int × Unit)) (t10_0 : Int) (v1 : Sta × Int × Unit) (c0_0 : List Int) : Option ((List Int × Unit) ⊕ (List Int)) :=
  (Option.bind (of1_0 (((v1.1.1, v1.1.2.1, v1.1.2.2.1, v1.1.2.2.2.1, ()), v1.2.1, ()), ())) fun (v2 : Int × Unit) => (bif decide (c0_0.length + (1 : Nat) ≤ memMax) then (some (Sum.inr (c0_0 ++ [v2.1]))) else none))
def yMi (of1_0 : (Sta × Int × Unit) × Unit → Option (Int × Unit)) (t8_0 : List (Sta × Int × Unit)) (c0_0 : List Int) : Option (List Int × Unit) :=
  (some ((c0_0, ())))
theorem yEj (n : Nat) (hn : big ≤ n)  (of1_0 : (Sta × Int × Unit) × Unit → Option (Int × Unit)) (t8_0 : List (Sta × Int × Unit)) (c0_0 : List Int) (hx : List.length (t8_0) < lenMax) : LeF some (yI (fun i__ e__ s__ => yMz of1_0 t8_0 i__ e__ s__) (fun s__ => yMi of1_0 t8_0 s__) 0 (t8_0) c0_0) (y9R n n of1_0 t8_0 (List.length (t8_0) : Int) 0 c0_0) := by
  refine yJ (f := some) (W := fun k__ i__ s__ => y9R n k__ of1_0 t8_0 (List.length (t8_0) : Int) i__ s__) (body := (fun i__ e__ s__ => yMz of1_0 t8_0 i__ e__ s__)) (fin := (fun s__ => yMi of1_0 t8_0 s__)) (fun k__ i__ s__ => ?_) hx c0_0 n (by unfold big at hn; unfold lenMax at hx; omega)
  show LeF _ _ (yI0 n (y9R n k__) of1_0 t8_0 (List.length (t8_0) : Int) i__ s__)
  exact y0 (y7 fun v1 => (y7 fun v2 => (y0 (y3 rfl) yc))) (yo (y3 rfl))
def zB_M (l : List (Sta × Int × Unit)) (of : (Sta × Int × Unit) × Unit → Option (Int × Unit)) : Option (List Int × Unit) :=
  (bif decide (List.length (l) < lenMax) then yI (fun i__ e__ s__ => yMz (of) (l) i__ e__ s__) (fun s__ => yMi (of) (l) s__) 0 (l) ([]) else none)
theorem ySg (l : List (Sta × Int × Unit)) (of : (Sta × Int × Unit) × Unit → Option (Int × Unit)) (y : List Int × Unit) (h : zB_M l of = some y) : ∃ n, zB_m n l of = some y :=
  ⟨big, LeF.top (show LeF some (zB_M l of) (zB_m big l of) from (fun (n : Nat) (hn : big ≤ n) => show LeF some (zB_M l of) (zB_m n l of) from (yK fun hx => by apply yEj n hn; exact hx)) big (Nat.le_refl _)) h⟩
def zB_e : Entry := { f := 131, args := zB_a, ress := zB_r, m := fun x => zB_M x.1 x.2.1 }
theorem yVF : FnOK Tryz.prog zB_e := yN (g := zB_g) (fn := Tryz.f131) yC yM eNil (by kernel_rfl) (by kernel_rfl) (by kernel_rfl) (fun x y h => let ⟨n, hn⟩ := ySg x.1 x.2.1 y h; ⟨yRl n, iNil, (yWG n x).trans hn⟩)
abbrev zL_a : Ty := .pair t202 (.pair t207 .unit)
abbrev zL_r : Ty := .pair t202 .unit
def zL_g : G := { T := T, E := [], muts := [5], fz := [] }
def zL_k : List (List Nat) := [[1, 5, 8, 9, 10]]
def yRP (n : Nat) : Ann := { keep := zL_k, fuel := n, inl := [], deep := 0 }
def yHe (n : Nat) (r0 : ((Sta × Int × Unit) × Unit → Option (Bool × Unit)) → List (Sta × Int × Unit) → Int → Int → List (Sta × Int × Unit) → Option (List (Sta × Int × Unit) × Unit)) (holds1_0 : (Sta × Int × Unit) × Unit → Option (Bool × Unit)) (t8_0 : List (Sta × Int × Unit)) (t9_0 : Int) (t10_0 : Int) (c0_0 : List (Sta × Int × Unit)) : Option (List (Sta × Int × Unit) × Unit) :=
  (bif decide (t10_0 < t9_0) then (Option.bind (idx t8_0 t10_0) fun (v1 : Sta × Int × Unit) => (Option.bind (holds1_0 (((v1.1.1, v1.1.2.1, v1.1.2.2.1, v1.1.2.2.2.1, ()), v1.2.1, ()), ())) fun (v2 : Bool × Unit) => (bif v2.1 then (bif decide (c0_0.length + (1 : Nat) ≤ memMax) then r0 holds1_0 t8_0 t9_0 (IntKind.i64.wrap (t10_0 + 1)) (c0_0 ++ [((v1.1.1, v1.1.2.1, v1.1.2.2.1, v1.1.2.2.2.1, ()), v1.2.1, ())]) else none) else r0 holds1_0 t8_0 t9_0 (IntKind.i64.wrap (t10_0 + 1)) c0_0))) else some (c0_0, ()))
def yA6 (n : Nat)  (k : Nat) (holds1_0 : (Sta × Int × Unit) × Unit → Option (Bool × Unit)) (t8_0 : List (Sta × Int × Unit)) (t9_0 : Int) (t10_0 : Int) (c0_0 : List (Sta × Int × Unit)) : Option (List (Sta × Int × Unit) × Unit) :=
  iter (fun r y => yHe n (fun holds1_0 t8_0 t9_0 t10_0 c0_0 => r ((holds1_0, (t8_0, (t9_0, (t10_0, ())))), ((c0_0, ()), ()))) y.1.1 y.1.2.1 y.1.2.2.1 y.1.2.2.2.1 y.2.1.1) k ((holds1_0, (t8_0, (t9_0, (t10_0, ())))), ((c0_0, ()), ()))
def zL_m (n : Nat) (l : List (Sta × Int × Unit)) (holds : (Sta × Int × Unit) × Unit → Option (Bool × Unit)) : Option (List (Sta × Int × Unit) × Unit) :=
  (yA6 n n (holds) (l) ((↑l.length : Int)) ((0 : Int)) ([]))
theorem yWo (n : Nat) (x : zL_a.den) : runF zL_g (yRP n) Tryz.f132 zL_a zL_r x = zL_m n x.1 x.2.1 := by kernel_rfl
def yMR (holds1_0 : (Sta × Int × Unit) × Unit → Option (Bool × Unit)) (t8_0 : List (Sta × Int × Unit)) (t10_0 : Int) (v1 : Sta × Int × Unit) (c0_0 : List (Sta × Int × Unit)) : Option ((List (Sta × Int × Unit) × Unit) ⊕ (List (Sta × Int × Unit))) :=
  (Option.bind (holds1_0 (((v1.1.1, v1.1.2.1, v1.1.2.2.1, v1.1.2.2.2.1, ()), v1.2.1, ()), ())) fun (v2 : Bool × Unit) => (bif v2.1 then (bif decide (c0_0.length + (1 : Nat) ≤ memMax) then (some (Sum.inr (c0_0 ++ [((v1.1.1, v1.1.2.1, v1.1.2.2.1, v1.1.2.2.2.1, ()), v1.2.1, ())]))) else none) else (some (Sum.inr (c0_0)))))
def yNd (holds1_0 : (Sta × Int × Unit) × Unit → Option (Bool × Unit)) (t8_0 : List (Sta × Int × Unit)) (c0_0 : List (Sta × Int × Unit)) : Option (List (Sta × Int × Unit) × Unit) :=
  (some ((c0_0, ())))
theorem yEt (n : Nat) (hn : big ≤ n)  (holds1_0 : (Sta × Int × Unit) × Unit → Option (Bool × Unit)) (t8_0 : List (Sta × Int × Unit)) (c0_0 : List (Sta × Int × Unit)) (hx : List.length (t8_0) < lenMax) : LeF some (yI (fun i__ e__ s__ => yMR holds1_0 t8_0 i__ e__ s__) (fun s__ => yNd holds1_0 t8_0 s__) 0 (t8_0) c0_0) (yA6 n n holds1_0 t8_0 (List.length (t8_0) : Int) 0 c0_0) := by
  refine yJ (f := some) (W := fun k__ i__ s__ => yA6 n k__ holds1_0 t8_0 (List.length (t8_0) : Int) i__ s__) (body := (fun i__ e__ s__ => yMR holds1_0 t8_0 i__ e__ s__)) (fin := (fun s__ => yNd holds1_0 t8_0 s__)) (fun k__ i__ s__ => ?_) hx c0_0 n (by unfold big at hn; unfold lenMax at hx; omega)
  show LeF _ _ (yHe n (yA6 n k__) holds1_0 t8_0 (List.length (t8_0) : Int) i__ s__)
  exact y0 (y7 fun v1 => (y7 fun v2 => (y0 (y0 (y3 rfl) yc) (y3 rfl)))) (yo (y3 rfl))
def zL_M (l : List (Sta × Int × Unit)) (holds : (Sta × Int × Unit) × Unit → Option (Bool × Unit)) : Option (List (Sta × Int × Unit) × Unit) :=
  (bif decide (List.length (l) < lenMax) then yI (fun i__ e__ s__ => yMR (holds) (l) i__ e__ s__) (fun s__ => yNd (holds) (l) s__) 0 (l) ([]) else none)
theorem yRx (l : List (Sta × Int × Unit)) (holds : (Sta × Int × Unit) × Unit → Option (Bool × Unit)) (y : List (Sta × Int × Unit) × Unit) (h : zL_M l holds = some y) : ∃ n, zL_m n l holds = some y :=
  ⟨big, LeF.top (show LeF some (zL_M l holds) (zL_m big l holds) from (fun (n : Nat) (hn : big ≤ n) => show LeF some (zL_M l holds) (zL_m n l holds) from (yK fun hx => by apply yEt n hn; exact hx)) big (Nat.le_refl _)) h⟩
def zL_e : Entry := { f := 132, args := zL_a, ress := zL_r, m := fun x => zL_M x.1 x.2.1 }
theorem yWV : FnOK Tryz.prog zL_e := yN (g := zL_g) (fn := Tryz.f132) yC yM eNil (by kernel_rfl) (by kernel_rfl) (by kernel_rfl) (fun x y h => let ⟨n, hn⟩ := yRx x.1 x.2.1 y h; ⟨yRP n, iNil, (yWo n x).trans hn⟩)
abbrev zg_a : Ty := .pair t204 .unit
abbrev zg_r : Ty := .pair t4 .unit
def zg_g : G := { T := T, E := [], muts := [], fz := [] }
def zg_k : List (List Nat) := []
def yRo (n : Nat) : Ann := { keep := zg_k, fuel := n, inl := [], deep := 0 }
def zg_m (n : Nat) (s : Sta × Int × Unit) : Option (Bool × Unit) :=
  some (s.1.2.2.1 == (-1 : Int), ())
theorem yVg (n : Nat) (x : zg_a.den) : runF zg_g (yRo n) Tryz.f133 zg_a zg_r x = zg_m n x.1 := by kernel_rfl
def zg (s : Sta × Int × Unit) : (Bool × Unit) :=
  (s.1.2.2.1 == (-1 : Int), ())
abbrev zg_M (s : Sta × Int × Unit) : Option (Bool × Unit) := some (zg s)
theorem yPc (s : Sta × Int × Unit) (y : Bool × Unit) (h : zg_M s = some y) : ∃ n, zg_m n s = some y :=
  ⟨0, by rw [← h]; show zg_m 0 s = some (zg s); unfold zg_m zg; first | rfl | (simp only [yG]; done) | (simp only [yG]; rfl)⟩
def zg_e : Entry := { f := 133, args := zg_a, ress := zg_r, m := fun x => zg_M x.1 }
theorem yWk : FnOK Tryz.prog zg_e := yN (g := zg_g) (fn := Tryz.f133) yC yM eNil (by kernel_rfl) (by kernel_rfl) (by kernel_rfl) (fun x y h => let ⟨n, hn⟩ := yPc x.1 y h; ⟨yRo n, iNil, (yVg n x).trans hn⟩)
abbrev zV_a : Ty := .pair t204 .unit
abbrev zV_r : Ty := .pair t3 .unit
def zV_g : G := { T := T, E := [], muts := [], fz := [] }
def zV_k : List (List Nat) := []
def yQG (n : Nat) : Ann := { keep := zV_k, fuel := n, inl := [], deep := 0 }
def zV_m (n : Nat) (s : Sta × Int × Unit) : Option (Int × Unit) :=
  some (s.2.1, ())
theorem yXN (n : Nat) (x : zV_a.den) : runF zV_g (yQG n) Tryz.f134 zV_a zV_r x = zV_m n x.1 := by kernel_rfl
def zV (s : Sta × Int × Unit) : (Int × Unit) :=
  (s.2.1, ())
abbrev zV_M (s : Sta × Int × Unit) : Option (Int × Unit) := some (zV s)
theorem yU6 (s : Sta × Int × Unit) (y : Int × Unit) (h : zV_M s = some y) : ∃ n, zV_m n s = some y :=
  ⟨0, by rw [← h]; show zV_m 0 s = some (zV s); unfold zV_m zV; first | rfl | (simp only [yG]; done) | (simp only [yG]; rfl)⟩
def zV_e : Entry := { f := 134, args := zV_a, ress := zV_r, m := fun x => zV_M x.1 }
theorem yXV : FnOK Tryz.prog zV_e := yN (g := zV_g) (fn := Tryz.f134) yC yM eNil (by kernel_rfl) (by kernel_rfl) (by kernel_rfl) (fun x y h => let ⟨n, hn⟩ := yU6 x.1 y h; ⟨yQG n, iNil, (yXN n x).trans hn⟩)
abbrev yMb : Ty := .pair t9 .unit
abbrev yRE : Ty := .pair t4 .unit
def ySa : G := { T := T, E := [], muts := [], fz := [] }
def yX8 : List (List Nat) := [[0, 3]]
def yLO (n : Nat) : Ann := { keep := yX8, fuel := n, inl := [], deep := 0 }
def y3F (n : Nat) (r2 : List UInt8 → Int → Option (Bool × Unit)) (s0_2 : List UInt8) (i3_2 : Int) (v3 : UInt8) : Option (Bool × Unit) :=
  (bif i3_2 == 0 then some (Bool.false, ()) else (bif (↑v3.toNat : Int) != 95 then (bif decide ((↑v3.toNat : Int) < 48) then some (Bool.false, ()) else (bif decide ((↑v3.toNat : Int) > 57) then some (Bool.false, ()) else r2 s0_2 (IntKind.i64.wrap (i3_2 + 1)))) else r2 s0_2 (IntKind.i64.wrap (i3_2 + 1))))
def yDH (n : Nat) (r2 : List UInt8 → Int → Option (Bool × Unit)) (s0_2 : List UInt8) (i3_2 : Int) : Option (Bool × Unit) :=
  (bif decide (i3_2 < (↑s0_2.length : Int)) then (Option.bind (idx s0_2 i3_2) fun (v3 : UInt8) => (bif decide ((↑v3.toNat : Int) ≥ 97) then (bif decide ((↑v3.toNat : Int) ≤ 122) then r2 s0_2 (IntKind.i64.wrap (i3_2 + 1)) else (bif decide ((↑v3.toNat : Int) ≥ 65) then (bif decide ((↑v3.toNat : Int) ≤ 90) then r2 s0_2 (IntKind.i64.wrap (i3_2 + 1)) else (y3F n r2 s0_2 i3_2 v3)) else (y3F n r2 s0_2 i3_2 v3))) else (bif decide ((↑v3.toNat : Int) ≥ 65) then (bif decide ((↑v3.toNat : Int) ≤ 90) then r2 s0_2 (IntKind.i64.wrap (i3_2 + 1)) else (y3F n r2 s0_2 i3_2 v3)) else (y3F n r2 s0_2 i3_2 v3)))) else some (Bool.true, ()))
def y6P (n : Nat)  (k : Nat) (s0_2 : List UInt8) (i3_2 : Int) : Option (Bool × Unit) :=
  iter (fun r y => yDH n (fun s0_2 i3_2 => r ((s0_2, (i3_2, ())), ((), ()))) y.1.1 y.1.2.1) k ((s0_2, (i3_2, ())), ((), ()))
def yKU (n : Nat) (s : List UInt8) : Option (Bool × Unit) :=
  (bif (↑s.length : Int) == 0 then some (Bool.false, ()) else (bif decide ((↑s.length : Int) > 24) then some (Bool.false, ()) else (y6P n n (s) ((0 : Int)))))
theorem ySU (n : Nat) (x : yMb.den) : runF ySa (yLO n) Tryz.f136 yMb yRE x = yKU n x.1 := by kernel_rfl
def y5I (s0_2 : List UInt8) (i3_2 : Int) (v3 : UInt8) : Option ((Bool × Unit) ⊕ Unit) :=
  (bif i3_2 == 0 then (some (Sum.inl ((Bool.false, ())))) else (bif (↑v3.toNat : Int) != 95 then (bif decide ((↑v3.toNat : Int) < 48) then (some (Sum.inl ((Bool.false, ())))) else (bif decide ((↑v3.toNat : Int) > 57) then (some (Sum.inl ((Bool.false, ())))) else (some (Sum.inr ())))) else (some (Sum.inr ()))))
theorem y0M (n : Nat) (hn : big ≤ n)  (r2 : List UInt8 → Int → Option (Bool × Unit)) (s0_2 : List UInt8) (i3_2 : Int) (v3 : UInt8) : LeF (elim some fun (s__ : Unit) => r2 s0_2 (IntKind.i64.wrap (i3_2 + 1))) (y5I s0_2 i3_2 v3) (y3F n r2 s0_2 i3_2 v3) :=
  (y0 (y3 rfl) (y0 (y0 (y3 rfl) (y0 (y3 rfl) (y3 rfl))) (y3 rfl)))
def y8e (s0_2 : List UInt8) (i3_2 : Int) (v3 : UInt8) : Option ((Bool × Unit) ⊕ Unit) :=
  (bif decide ((↑v3.toNat : Int) ≥ 97) then (bif decide ((↑v3.toNat : Int) ≤ 122) then (some (Sum.inr ())) else (bif decide ((↑v3.toNat : Int) ≥ 65) then (bif decide ((↑v3.toNat : Int) ≤ 90) then (some (Sum.inr ())) else (y5I s0_2 i3_2 v3)) else (y5I s0_2 i3_2 v3))) else (bif decide ((↑v3.toNat : Int) ≥ 65) then (bif decide ((↑v3.toNat : Int) ≤ 90) then (some (Sum.inr ())) else (y5I s0_2 i3_2 v3)) else (y5I s0_2 i3_2 v3)))
def yD1 (s0_2 : List UInt8) : Option (Bool × Unit) :=
  (some ((Bool.true, ())))
theorem yBh (n : Nat) (hn : big ≤ n)  (s0_2 : List UInt8) (hx : List.length (s0_2) < lenMax) : LeF some (yI (fun i__ e__ s__ => y8e s0_2 i__ e__) (fun s__ => yD1 s0_2) 0 (s0_2) ()) (y6P n n s0_2 0) := by
  refine yJ (f := some) (W := fun k__ i__ s__ => y6P n k__ s0_2 i__) (body := (fun i__ e__ s__ => y8e s0_2 i__ e__)) (fin := (fun s__ => yD1 s0_2)) (fun k__ i__ s__ => ?_) hx () n (by unfold big at hn; unfold lenMax at hx; omega)
  show LeF _ _ (yDH n (y6P n k__) s0_2 i__)
  exact y0 (y7 fun v3 => (y0 (y0 (y3 rfl) (y0 (y0 (y3 rfl) (by apply y0M n hn)) (by apply y0M n hn))) (y0 (y0 (y3 rfl) (by apply y0M n hn)) (by apply y0M n hn)))) (yo (y3 rfl))
def yCu (s : List UInt8) : Option (Bool × Unit) :=
  (bif (↑s.length : Int) == 0 then (some ((Bool.false, ()))) else (bif decide ((↑s.length : Int) > 24) then (some ((Bool.false, ()))) else (bif decide (List.length (s) < lenMax) then yI (fun i__ e__ s__ => y8e (s) i__ e__) (fun s__ => yD1 (s)) 0 (s) () else none)))
theorem yMn (s : List UInt8) (y : Bool × Unit) (h : yCu s = some y) : ∃ n, yKU n s = some y :=
  ⟨big, LeF.top (show LeF some (yCu s) (yKU big s) from (fun (n : Nat) (hn : big ≤ n) => show LeF some (yCu s) (yKU n s) from (y0 (y3 rfl) (y0 (y3 rfl) (yK fun hx => by apply yBh n hn; exact hx)))) big (Nat.le_refl _)) h⟩
def z0Q_e : Entry := { f := 136, args := yMb, ress := yRE, m := fun x => yCu x.1 }
theorem yQm : FnOK Tryz.prog z0Q_e := yN (g := ySa) (fn := Tryz.f136) yC yM eNil (by kernel_rfl) (by kernel_rfl) (by kernel_rfl) (fun x y h => let ⟨n, hn⟩ := yMn x.1 y h; ⟨yLO n, iNil, (ySU n x).trans hn⟩)
abbrev zE_a : Ty := .pair t33 (.pair t214 .unit)
abbrev zE_r : Ty := .pair t33 .unit
def zE_g : G := { T := T, E := [], muts := [5], fz := [] }
def zE_k : List (List Nat) := [[1, 5, 8, 9, 10]]
def ySh (n : Nat) : Ann := { keep := zE_k, fuel := n, inl := [], deep := 0 }
def yII (n : Nat) (r0 : (Tra × Unit → Option (Bool × Unit)) → List Tra → Int → Int → List Tra → Option (List Tra × Unit)) (holds1_0 : Tra × Unit → Option (Bool × Unit)) (t8_0 : List Tra) (t9_0 : Int) (t10_0 : Int) (c0_0 : List Tra) : Option (List Tra × Unit) :=
  (bif decide (t10_0 < t9_0) then (Option.bind (idx t8_0 t10_0) fun (v1 : Tra) => (Option.bind (holds1_0 ((v1.1, v1.2.1, v1.2.2.1, v1.2.2.2.1, v1.2.2.2.2.1, ()), ())) fun (v2 : Bool × Unit) => (bif v2.1 then (bif decide (c0_0.length + (1 : Nat) ≤ memMax) then r0 holds1_0 t8_0 t9_0 (IntKind.i64.wrap (t10_0 + 1)) (c0_0 ++ [(v1.1, v1.2.1, v1.2.2.1, v1.2.2.2.1, v1.2.2.2.2.1, ())]) else none) else r0 holds1_0 t8_0 t9_0 (IntKind.i64.wrap (t10_0 + 1)) c0_0))) else some (c0_0, ()))
def y9L (n : Nat)  (k : Nat) (holds1_0 : Tra × Unit → Option (Bool × Unit)) (t8_0 : List Tra) (t9_0 : Int) (t10_0 : Int) (c0_0 : List Tra) : Option (List Tra × Unit) :=
  iter (fun r y => yII n (fun holds1_0 t8_0 t9_0 t10_0 c0_0 => r ((holds1_0, (t8_0, (t9_0, (t10_0, ())))), ((c0_0, ()), ()))) y.1.1 y.1.2.1 y.1.2.2.1 y.1.2.2.2.1 y.2.1.1) k ((holds1_0, (t8_0, (t9_0, (t10_0, ())))), ((c0_0, ()), ()))
def zE_m (n : Nat) (l : List Tra) (holds : Tra × Unit → Option (Bool × Unit)) : Option (List Tra × Unit) :=
  (y9L n n (holds) (l) ((↑l.length : Int)) ((0 : Int)) ([]))
theorem yVP (n : Nat) (x : zE_a.den) : runF zE_g (ySh n) Tryz.f139 zE_a zE_r x = zE_m n x.1 x.2.1 := by kernel_rfl
def yKc (holds1_0 : Tra × Unit → Option (Bool × Unit)) (t8_0 : List Tra) (t10_0 : Int) (v1 : Tra) (c0_0 : List Tra) : Option ((List Tra × Unit) ⊕ (List Tra)) :=
  (Option.bind (holds1_0 ((v1.1, v1.2.1, v1.2.2.1, v1.2.2.2.1, v1.2.2.2.2.1, ()), ())) fun (v2 : Bool × Unit) => (bif v2.1 then (bif decide (c0_0.length + (1 : Nat) ≤ memMax) then (some (Sum.inr (c0_0 ++ [(v1.1, v1.2.1, v1.2.2.1, v1.2.2.2.1, v1.2.2.2.2.1, ())]))) else none) else (some (Sum.inr (c0_0)))))
def yO4 (holds1_0 : Tra × Unit → Option (Bool × Unit)) (t8_0 : List Tra) (c0_0 : List Tra) : Option (List Tra × Unit) :=
  (some ((c0_0, ())))
theorem yFb (n : Nat) (hn : big ≤ n)  (holds1_0 : Tra × Unit → Option (Bool × Unit)) (t8_0 : List Tra) (c0_0 : List Tra) (hx : List.length (t8_0) < lenMax) : LeF some (yI (fun i__ e__ s__ => yKc holds1_0 t8_0 i__ e__ s__) (fun s__ => yO4 holds1_0 t8_0 s__) 0 (t8_0) c0_0) (y9L n n holds1_0 t8_0 (List.length (t8_0) : Int) 0 c0_0) := by
  refine yJ (f := some) (W := fun k__ i__ s__ => y9L n k__ holds1_0 t8_0 (List.length (t8_0) : Int) i__ s__) (body := (fun i__ e__ s__ => yKc holds1_0 t8_0 i__ e__ s__)) (fin := (fun s__ => yO4 holds1_0 t8_0 s__)) (fun k__ i__ s__ => ?_) hx c0_0 n (by unfold big at hn; unfold lenMax at hx; omega)
  show LeF _ _ (yII n (y9L n k__) holds1_0 t8_0 (List.length (t8_0) : Int) i__ s__)
  exact y0 (y7 fun v1 => (y7 fun v2 => (y0 (y0 (y3 rfl) yc) (y3 rfl)))) (yo (y3 rfl))
def zE_M (l : List Tra) (holds : Tra × Unit → Option (Bool × Unit)) : Option (List Tra × Unit) :=
  (bif decide (List.length (l) < lenMax) then yI (fun i__ e__ s__ => yKc (holds) (l) i__ e__ s__) (fun s__ => yO4 (holds) (l) s__) 0 (l) ([]) else none)
theorem yPf (l : List Tra) (holds : Tra × Unit → Option (Bool × Unit)) (y : List Tra × Unit) (h : zE_M l holds = some y) : ∃ n, zE_m n l holds = some y :=
  ⟨big, LeF.top (show LeF some (zE_M l holds) (zE_m big l holds) from (fun (n : Nat) (hn : big ≤ n) => show LeF some (zE_M l holds) (zE_m n l holds) from (yK fun hx => by apply yFb n hn; exact hx)) big (Nat.le_refl _)) h⟩
def zE_e : Entry := { f := 139, args := zE_a, ress := zE_r, m := fun x => zE_M x.1 x.2.1 }
theorem yVo : FnOK Tryz.prog zE_e := yN (g := zE_g) (fn := Tryz.f139) yC yM eNil (by kernel_rfl) (by kernel_rfl) (by kernel_rfl) (fun x y h => let ⟨n, hn⟩ := yPf x.1 x.2.1 y h; ⟨ySh n, iNil, (yVP n x).trans hn⟩)
abbrev z8_a : Ty := .pair t57 (.pair t216 .unit)
abbrev z8_r : Ty := .pair t164 .unit
def z8_g : G := { T := T, E := [], muts := [5], fz := [] }
def z8_k : List (List Nat) := [[1, 5, 8, 9, 10]]
def yQ8 (n : Nat) : Ann := { keep := z8_k, fuel := n, inl := [], deep := 0 }
def yGL (n : Nat) (r0 : ((List UInt8 × Int × Unit) × Unit → Option (Int × Unit)) → List (List UInt8 × Int × Unit) → Int → Int → List Int → Option (List Int × Unit)) (of1_0 : (List UInt8 × Int × Unit) × Unit → Option (Int × Unit)) (t8_0 : List (List UInt8 × Int × Unit)) (t9_0 : Int) (t10_0 : Int) (c0_0 : List Int) : Option (List Int × Unit) :=
  (bif decide (t10_0 < t9_0) then (Option.bind (idx t8_0 t10_0) fun (v1 : List UInt8 × Int × Unit) => (Option.bind (of1_0 ((v1.1, v1.2.1, ()), ())) fun (v2 : Int × Unit) => (bif decide (c0_0.length + (1 : Nat) ≤ memMax) then r0 of1_0 t8_0 t9_0 (IntKind.i64.wrap (t10_0 + 1)) (c0_0 ++ [v2.1]) else none))) else some (c0_0, ()))
def y9t (n : Nat)  (k : Nat) (of1_0 : (List UInt8 × Int × Unit) × Unit → Option (Int × Unit)) (t8_0 : List (List UInt8 × Int × Unit)) (t9_0 : Int) (t10_0 : Int) (c0_0 : List Int) : Option (List Int × Unit) :=
  iter (fun r y => yGL n (fun of1_0 t8_0 t9_0 t10_0 c0_0 => r ((of1_0, (t8_0, (t9_0, (t10_0, ())))), ((c0_0, ()), ()))) y.1.1 y.1.2.1 y.1.2.2.1 y.1.2.2.2.1 y.2.1.1) k ((of1_0, (t8_0, (t9_0, (t10_0, ())))), ((c0_0, ()), ()))
def z8_m (n : Nat) (l : List (List UInt8 × Int × Unit)) (of : (List UInt8 × Int × Unit) × Unit → Option (Int × Unit)) : Option (List Int × Unit) :=
  (y9t n n (of) (l) ((↑l.length : Int)) ((0 : Int)) ([]))
theorem yVG (n : Nat) (x : z8_a.den) : runF z8_g (yQ8 n) Tryz.f142 z8_a z8_r x = z8_m n x.1 x.2.1 := by kernel_rfl
def yKq (of1_0 : (List UInt8 × Int × Unit) × Unit → Option (Int × Unit)) (t8_0 : List (List UInt8 × Int × Unit)) (t10_0 : Int) (v1 : List UInt8 × Int × Unit) (c0_0 : List Int) : Option ((List Int × Unit) ⊕ (List Int)) :=
  (Option.bind (of1_0 ((v1.1, v1.2.1, ()), ())) fun (v2 : Int × Unit) => (bif decide (c0_0.length + (1 : Nat) ≤ memMax) then (some (Sum.inr (c0_0 ++ [v2.1]))) else none))
def yNZ (of1_0 : (List UInt8 × Int × Unit) × Unit → Option (Int × Unit)) (t8_0 : List (List UInt8 × Int × Unit)) (c0_0 : List Int) : Option (List Int × Unit) :=
  (some ((c0_0, ())))
theorem yFE (n : Nat) (hn : big ≤ n)  (of1_0 : (List UInt8 × Int × Unit) × Unit → Option (Int × Unit)) (t8_0 : List (List UInt8 × Int × Unit)) (c0_0 : List Int) (hx : List.length (t8_0) < lenMax) : LeF some (yI (fun i__ e__ s__ => yKq of1_0 t8_0 i__ e__ s__) (fun s__ => yNZ of1_0 t8_0 s__) 0 (t8_0) c0_0) (y9t n n of1_0 t8_0 (List.length (t8_0) : Int) 0 c0_0) := by
  refine yJ (f := some) (W := fun k__ i__ s__ => y9t n k__ of1_0 t8_0 (List.length (t8_0) : Int) i__ s__) (body := (fun i__ e__ s__ => yKq of1_0 t8_0 i__ e__ s__)) (fin := (fun s__ => yNZ of1_0 t8_0 s__)) (fun k__ i__ s__ => ?_) hx c0_0 n (by unfold big at hn; unfold lenMax at hx; omega)
  show LeF _ _ (yGL n (y9t n k__) of1_0 t8_0 (List.length (t8_0) : Int) i__ s__)
  exact y0 (y7 fun v1 => (y7 fun v2 => (y0 (y3 rfl) yc))) (yo (y3 rfl))
def z8_M (l : List (List UInt8 × Int × Unit)) (of : (List UInt8 × Int × Unit) × Unit → Option (Int × Unit)) : Option (List Int × Unit) :=
  (bif decide (List.length (l) < lenMax) then yI (fun i__ e__ s__ => yKq (of) (l) i__ e__ s__) (fun s__ => yNZ (of) (l) s__) 0 (l) ([]) else none)
theorem yQt (l : List (List UInt8 × Int × Unit)) (of : (List UInt8 × Int × Unit) × Unit → Option (Int × Unit)) (y : List Int × Unit) (h : z8_M l of = some y) : ∃ n, z8_m n l of = some y :=
  ⟨big, LeF.top (show LeF some (z8_M l of) (z8_m big l of) from (fun (n : Nat) (hn : big ≤ n) => show LeF some (z8_M l of) (z8_m n l of) from (yK fun hx => by apply yFE n hn; exact hx)) big (Nat.le_refl _)) h⟩
def z8_e : Entry := { f := 142, args := z8_a, ress := z8_r, m := fun x => z8_M x.1 x.2.1 }
theorem yXQ : FnOK Tryz.prog z8_e := yN (g := z8_g) (fn := Tryz.f142) yC yM eNil (by kernel_rfl) (by kernel_rfl) (by kernel_rfl) (fun x y h => let ⟨n, hn⟩ := yQt x.1 x.2.1 y h; ⟨yQ8 n, iNil, (yVG n x).trans hn⟩)
abbrev zK_a : Ty := .pair t197 .unit
abbrev zK_r : Ty := .pair t3 .unit
def zK_g : G := { T := T, E := [], muts := [], fz := [] }
def zK_k : List (List Nat) := []
def yTt (n : Nat) : Ann := { keep := zK_k, fuel := n, inl := [], deep := 0 }
def zK_m (n : Nat) (p : Pth) : Option (Int × Unit) :=
  some (p.1, ())
theorem yVc (n : Nat) (x : zK_a.den) : runF zK_g (yTt n) Tryz.f146 zK_a zK_r x = zK_m n x.1 := by kernel_rfl
def zK (p : Pth) : (Int × Unit) :=
  (p.1, ())
abbrev zK_M (p : Pth) : Option (Int × Unit) := some (zK p)
theorem yQ5 (p : Pth) (y : Int × Unit) (h : zK_M p = some y) : ∃ n, zK_m n p = some y :=
  ⟨0, by rw [← h]; show zK_m 0 p = some (zK p); unfold zK_m zK; first | rfl | (simp only [yG]; done) | (simp only [yG]; rfl)⟩
def zK_e : Entry := { f := 146, args := zK_a, ress := zK_r, m := fun x => zK_M x.1 }
theorem yWv : FnOK Tryz.prog zK_e := yN (g := zK_g) (fn := Tryz.f146) yC yM eNil (by kernel_rfl) (by kernel_rfl) (by kernel_rfl) (fun x y h => let ⟨n, hn⟩ := yQ5 x.1 y h; ⟨yTt n, iNil, (yVc n x).trans hn⟩)
abbrev zI_a : Ty := .pair t3 (.pair (.ref t35) .unit)
abbrev zI_r : Ty := .pair t4 .unit
def zI_g : G := { T := T, E := [], muts := [], fz := [] }
def zI_k : List (List Nat) := []
def yUK (n : Nat) : Ann := { keep := zI_k, fuel := n, inl := [], deep := 0 }
def zI_m (n : Nat) (s : Int) (p1 : Cha) : Option (Bool × Unit) :=
  (bif decide (s < 0) then some (Bool.true, ()) else some (decide (s ≥ (↑p1.1.length : Int)), ()))
theorem yVS (n : Nat) (x : zI_a.den) : runF zI_g (yUK n) Tryz.f148 zI_a zI_r x = zI_m n x.1 x.2.1 := by kernel_rfl
def zI (s : Int) (p1 : Cha) : (Bool × Unit) :=
  (bif decide (s < 0) then (Bool.true, ()) else (decide (s ≥ (↑p1.1.length : Int)), ()))
abbrev zI_M (s : Int) (p1 : Cha) : Option (Bool × Unit) := some (zI s p1)
theorem yUb (s : Int) (p1 : Cha) (y : Bool × Unit) (h : zI_M s p1 = some y) : ∃ n, zI_m n s p1 = some y :=
  ⟨0, by rw [← h]; show zI_m 0 s p1 = some (zI s p1); unfold zI_m zI; first | rfl | (simp only [yG]; done) | (simp only [yG]; rfl)⟩
def zI_e : Entry := { f := 148, args := zI_a, ress := zI_r, m := fun x => zI_M x.1 x.2.1 }
theorem yWb : FnOK Tryz.prog zI_e := yN (g := zI_g) (fn := Tryz.f148) yC yM eNil (by kernel_rfl) (by kernel_rfl) (by kernel_rfl) (fun x y h => let ⟨n, hn⟩ := yUb x.1 x.2.1 y h; ⟨yUK n, iNil, (yVS n x).trans hn⟩)
abbrev zS_a : Ty := .pair t28 (.pair t3 .unit)
abbrev zS_r : Ty := .pair t3 .unit
def zS_g : G := { T := T, E := [], muts := [], fz := [] }
def zS_k : List (List Nat) := [[0, 1, 7, 8]]
def yUY (n : Nat) : Ann := { keep := zS_k, fuel := n, inl := [], deep := 0 }
def yIp (n : Nat) (r0 : List Int → Int → Int → Int → Option (Int × Unit)) (s0_0 : List Int) (v1_0 : Int) (t7_0 : Int) (t8_0 : Int) : Option (Int × Unit) :=
  (bif decide (t8_0 < t7_0) then (Option.bind (idx s0_0 t8_0) fun (v1 : Int) => (bif v1_0 == v1 then some (t8_0, ()) else r0 s0_0 v1_0 t7_0 (IntKind.i64.wrap (t8_0 + 1)))) else some ((-1 : Int), ()))
def yAD (n : Nat)  (k : Nat) (s0_0 : List Int) (v1_0 : Int) (t7_0 : Int) (t8_0 : Int) : Option (Int × Unit) :=
  iter (fun r y => yIp n (fun s0_0 v1_0 t7_0 t8_0 => r ((s0_0, (v1_0, (t7_0, (t8_0, ())))), ((), ()))) y.1.1 y.1.2.1 y.1.2.2.1 y.1.2.2.2.1) k ((s0_0, (v1_0, (t7_0, (t8_0, ())))), ((), ()))
def zS_m (n : Nat) (s : List Int) (v : Int) : Option (Int × Unit) :=
  (yAD n n (s) (v) ((↑s.length : Int)) ((0 : Int)))
theorem yX7 (n : Nat) (x : zS_a.den) : runF zS_g (yUY n) Tryz.f152 zS_a zS_r x = zS_m n x.1 x.2.1 := by kernel_rfl
def yIK (s0_0 : List Int) (v1_0 : Int) (t8_0 : Int) (v1 : Int) : Option ((Int × Unit) ⊕ Unit) :=
  (bif v1_0 == v1 then (some (Sum.inl ((t8_0, ())))) else (some (Sum.inr ())))
def yJK (s0_0 : List Int) (v1_0 : Int) : Option (Int × Unit) :=
  (some (((-1 : Int), ())))
theorem yG0 (n : Nat) (hn : big ≤ n)  (s0_0 : List Int) (v1_0 : Int) (hx : List.length (s0_0) < lenMax) : LeF some (yI (fun i__ e__ s__ => yIK s0_0 v1_0 i__ e__) (fun s__ => yJK s0_0 v1_0) 0 (s0_0) ()) (yAD n n s0_0 v1_0 (List.length (s0_0) : Int) 0) := by
  refine yJ (f := some) (W := fun k__ i__ s__ => yAD n k__ s0_0 v1_0 (List.length (s0_0) : Int) i__) (body := (fun i__ e__ s__ => yIK s0_0 v1_0 i__ e__)) (fin := (fun s__ => yJK s0_0 v1_0)) (fun k__ i__ s__ => ?_) hx () n (by unfold big at hn; unfold lenMax at hx; omega)
  show LeF _ _ (yIp n (yAD n k__) s0_0 v1_0 (List.length (s0_0) : Int) i__)
  exact y0 (y7 fun v1 => (y0 (y3 rfl) (y3 rfl))) (yo (y3 rfl))
def zS_M (s : List Int) (v : Int) : Option (Int × Unit) :=
  (bif decide (List.length (s) < lenMax) then yI (fun i__ e__ s__ => yIK (s) (v) i__ e__) (fun s__ => yJK (s) (v)) 0 (s) () else none)
theorem yUD (s : List Int) (v : Int) (y : Int × Unit) (h : zS_M s v = some y) : ∃ n, zS_m n s v = some y :=
  ⟨big, LeF.top (show LeF some (zS_M s v) (zS_m big s v) from (fun (n : Nat) (hn : big ≤ n) => show LeF some (zS_M s v) (zS_m n s v) from (yK fun hx => by apply yG0 n hn; exact hx)) big (Nat.le_refl _)) h⟩
def zS_e : Entry := { f := 152, args := zS_a, ress := zS_r, m := fun x => zS_M x.1 x.2.1 }
theorem yVY : FnOK Tryz.prog zS_e := yN (g := zS_g) (fn := Tryz.f152) yC yM eNil (by kernel_rfl) (by kernel_rfl) (by kernel_rfl) (fun x y h => let ⟨n, hn⟩ := yUD x.1 x.2.1 y h; ⟨yUY n, iNil, (yX7 n x).trans hn⟩)
abbrev zD_a : Ty := .pair t37 (.pair t9 .unit)
abbrev zD_r : Ty := .pair t3 .unit
def zD_g : G := { T := T, E := [], muts := [], fz := [] }
def zD_k : List (List Nat) := [[0, 1, 7, 8]]
def yS2 (n : Nat) : Ann := { keep := zD_k, fuel := n, inl := [], deep := 0 }
def yGN (n : Nat) (r0 : List (List UInt8) → List UInt8 → Int → Int → Option (Int × Unit)) (s0_0 : List (List UInt8)) (v1_0 : List UInt8) (t7_0 : Int) (t8_0 : Int) : Option (Int × Unit) :=
  (bif decide (t8_0 < t7_0) then (Option.bind (idx s0_0 t8_0) fun (v1 : List UInt8) => (bif v1_0 == v1 then some (t8_0, ()) else r0 s0_0 v1_0 t7_0 (IntKind.i64.wrap (t8_0 + 1)))) else some ((-1 : Int), ()))
def y9g (n : Nat)  (k : Nat) (s0_0 : List (List UInt8)) (v1_0 : List UInt8) (t7_0 : Int) (t8_0 : Int) : Option (Int × Unit) :=
  iter (fun r y => yGN n (fun s0_0 v1_0 t7_0 t8_0 => r ((s0_0, (v1_0, (t7_0, (t8_0, ())))), ((), ()))) y.1.1 y.1.2.1 y.1.2.2.1 y.1.2.2.2.1) k ((s0_0, (v1_0, (t7_0, (t8_0, ())))), ((), ()))
def zD_m (n : Nat) (s : List (List UInt8)) (v : List UInt8) : Option (Int × Unit) :=
  (y9g n n (s) (v) ((↑s.length : Int)) ((0 : Int)))
theorem yWU (n : Nat) (x : zD_a.den) : runF zD_g (yS2 n) Tryz.f154 zD_a zD_r x = zD_m n x.1 x.2.1 := by kernel_rfl
def yIS (s0_0 : List (List UInt8)) (v1_0 : List UInt8) (t8_0 : Int) (v1 : List UInt8) : Option ((Int × Unit) ⊕ Unit) :=
  (bif v1_0 == v1 then (some (Sum.inl ((t8_0, ())))) else (some (Sum.inr ())))
def yJh (s0_0 : List (List UInt8)) (v1_0 : List UInt8) : Option (Int × Unit) :=
  (some (((-1 : Int), ())))
theorem yEa (n : Nat) (hn : big ≤ n)  (s0_0 : List (List UInt8)) (v1_0 : List UInt8) (hx : List.length (s0_0) < lenMax) : LeF some (yI (fun i__ e__ s__ => yIS s0_0 v1_0 i__ e__) (fun s__ => yJh s0_0 v1_0) 0 (s0_0) ()) (y9g n n s0_0 v1_0 (List.length (s0_0) : Int) 0) := by
  refine yJ (f := some) (W := fun k__ i__ s__ => y9g n k__ s0_0 v1_0 (List.length (s0_0) : Int) i__) (body := (fun i__ e__ s__ => yIS s0_0 v1_0 i__ e__)) (fin := (fun s__ => yJh s0_0 v1_0)) (fun k__ i__ s__ => ?_) hx () n (by unfold big at hn; unfold lenMax at hx; omega)
  show LeF _ _ (yGN n (y9g n k__) s0_0 v1_0 (List.length (s0_0) : Int) i__)
  exact y0 (y7 fun v1 => (y0 (y3 rfl) (y3 rfl))) (yo (y3 rfl))
def zD_M (s : List (List UInt8)) (v : List UInt8) : Option (Int × Unit) :=
  (bif decide (List.length (s) < lenMax) then yI (fun i__ e__ s__ => yIS (s) (v) i__ e__) (fun s__ => yJh (s) (v)) 0 (s) () else none)
theorem yR5 (s : List (List UInt8)) (v : List UInt8) (y : Int × Unit) (h : zD_M s v = some y) : ∃ n, zD_m n s v = some y :=
  ⟨big, LeF.top (show LeF some (zD_M s v) (zD_m big s v) from (fun (n : Nat) (hn : big ≤ n) => show LeF some (zD_M s v) (zD_m n s v) from (yK fun hx => by apply yEa n hn; exact hx)) big (Nat.le_refl _)) h⟩
def zD_e : Entry := { f := 154, args := zD_a, ress := zD_r, m := fun x => zD_M x.1 x.2.1 }
theorem yVV : FnOK Tryz.prog zD_e := yN (g := zD_g) (fn := Tryz.f154) yC yM eNil (by kernel_rfl) (by kernel_rfl) (by kernel_rfl) (fun x y h => let ⟨n, hn⟩ := yR5 x.1 x.2.1 y h; ⟨yS2 n, iNil, (yWU n x).trans hn⟩)
abbrev yNj : Ty := .pair t9 .unit
abbrev yRg : Ty := .pair t4 .unit
def yTD : G := { T := T, E := [], muts := [], fz := [] }
def yXI : List (List Nat) := [[0, 8]]
def yLv (n : Nat) : Ann := { keep := yXI, fuel := n, inl := [], deep := 0 }
def y4c (n : Nat) (r0 : List UInt8 → List UInt8 → Int → Option (Bool × Unit)) (s0_0 : List UInt8) (str0__0 : List UInt8) (pos0__0 : Int) (j2 : Bool) (j7 : Bool) : Option (Bool × Unit) :=
  (bif !j2 then (bif pos0__0 == 0 then some (Bool.false, ()) else (bif !j7 then some (Bool.false, ()) else r0 s0_0 str0__0 (yn str0__0 pos0__0).2)) else r0 s0_0 str0__0 (yn str0__0 pos0__0).2)
def y2L (n : Nat) (r0 : List UInt8 → List UInt8 → Int → Option (Bool × Unit)) (s0_0 : List UInt8) (str0__0 : List UInt8) (pos0__0 : Int) (j2 : Bool) : Option (Bool × Unit) :=
  (bif decide ((yn str0__0 pos0__0).1 ≥ 48) then (bif decide ((yn str0__0 pos0__0).1 ≤ 57) then (y4c n r0 s0_0 str0__0 pos0__0 j2 (Bool.true)) else (y4c n r0 s0_0 str0__0 pos0__0 j2 ((yn str0__0 pos0__0).1 == 95))) else (y4c n r0 s0_0 str0__0 pos0__0 j2 ((yn str0__0 pos0__0).1 == 95)))
def yDV (n : Nat) (r0 : List UInt8 → List UInt8 → Int → Option (Bool × Unit)) (s0_0 : List UInt8) (str0__0 : List UInt8) (pos0__0 : Int) : Option (Bool × Unit) :=
  (bif decide (pos0__0 < (↑str0__0.length : Int)) then (bif decide ((yn str0__0 pos0__0).1 ≥ 65) then (bif decide ((yn str0__0 pos0__0).1 ≤ 90) then (y2L n r0 s0_0 str0__0 pos0__0 (Bool.true)) else (bif decide ((yn str0__0 pos0__0).1 ≥ 97) then (y2L n r0 s0_0 str0__0 pos0__0 (decide ((yn str0__0 pos0__0).1 ≤ 122))) else (y2L n r0 s0_0 str0__0 pos0__0 (Bool.false)))) else (bif decide ((yn str0__0 pos0__0).1 ≥ 97) then (y2L n r0 s0_0 str0__0 pos0__0 (decide ((yn str0__0 pos0__0).1 ≤ 122))) else (y2L n r0 s0_0 str0__0 pos0__0 (Bool.false)))) else (bif !s0_0 == [] then some (decide ((↑s0_0.length : Int) ≤ 24), ()) else some (Bool.false, ())))
def y6S (n : Nat)  (k : Nat) (s0_0 : List UInt8) (str0__0 : List UInt8) (pos0__0 : Int) : Option (Bool × Unit) :=
  iter (fun r y => yDV n (fun s0_0 str0__0 pos0__0 => r ((s0_0, ()), (((str0__0, pos0__0), ()), ()))) y.1.1 y.2.1.1.1 y.2.1.1.2) k ((s0_0, ()), (((str0__0, pos0__0), ()), ()))
def yJ3 (n : Nat) (s : List UInt8) : Option (Bool × Unit) :=
  (y6S n n (s) (s) ((0 : Int)))
theorem yRa (n : Nat) (x : yNj.den) : runF yTD (yLv n) Tryz.f155 yNj yRg x = yJ3 n x.1 := by kernel_rfl
def y7V (s0_0 : List UInt8) (str0__0 : List UInt8) (pos0__0 : Int) (j2 : Bool) (j7 : Bool) : Option ((Bool × Unit) ⊕ Unit) :=
  (bif !j2 then (bif pos0__0 == 0 then (some (Sum.inl ((Bool.false, ())))) else (bif !j7 then (some (Sum.inl ((Bool.false, ())))) else (some (Sum.inr ())))) else (some (Sum.inr ())))
theorem y0v (n : Nat) (hn : big ≤ n)  (r0 : List UInt8 → List UInt8 → Int → Option (Bool × Unit)) (s0_0 : List UInt8) (str0__0 : List UInt8) (pos0__0 : Int) (j2 : Bool) (j7 : Bool) : LeF (elim some fun (s__ : Unit) => r0 s0_0 str0__0 (yn (str0__0) pos0__0).2) (y7V s0_0 str0__0 pos0__0 j2 j7) (y4c n r0 s0_0 str0__0 pos0__0 j2 j7) :=
  (y0 (y0 (y3 rfl) (y0 (y3 rfl) (y3 rfl))) (y3 rfl))
def y4M (s0_0 : List UInt8) (str0__0 : List UInt8) (pos0__0 : Int) (j2 : Bool) : Option ((Bool × Unit) ⊕ Unit) :=
  (bif decide ((yn str0__0 pos0__0).1 ≥ 48) then (bif decide ((yn str0__0 pos0__0).1 ≤ 57) then (y7V s0_0 str0__0 pos0__0 j2 (Bool.true)) else (y7V s0_0 str0__0 pos0__0 j2 ((yn str0__0 pos0__0).1 == 95))) else (y7V s0_0 str0__0 pos0__0 j2 ((yn str0__0 pos0__0).1 == 95)))
theorem y03 (n : Nat) (hn : big ≤ n)  (r0 : List UInt8 → List UInt8 → Int → Option (Bool × Unit)) (s0_0 : List UInt8) (str0__0 : List UInt8) (pos0__0 : Int) (j2 : Bool) : LeF (elim some fun (s__ : Unit) => r0 s0_0 str0__0 (yn (str0__0) pos0__0).2) (y4M s0_0 str0__0 pos0__0 j2) (y2L n r0 s0_0 str0__0 pos0__0 j2) :=
  (y0 (y0 (by apply y0v n hn) (by apply y0v n hn)) (by apply y0v n hn))
def y83 (s0_0 : List UInt8) (str0__0 : List UInt8) (pos0__0 : Int) : Option ((Bool × Unit) ⊕ Unit) :=
  (bif decide ((yn str0__0 pos0__0).1 ≥ 65) then (bif decide ((yn str0__0 pos0__0).1 ≤ 90) then (y4M s0_0 str0__0 pos0__0 (Bool.true)) else (bif decide ((yn str0__0 pos0__0).1 ≥ 97) then (y4M s0_0 str0__0 pos0__0 (decide ((yn str0__0 pos0__0).1 ≤ 122))) else (y4M s0_0 str0__0 pos0__0 (Bool.false)))) else (bif decide ((yn str0__0 pos0__0).1 ≥ 97) then (y4M s0_0 str0__0 pos0__0 (decide ((yn str0__0 pos0__0).1 ≤ 122))) else (y4M s0_0 str0__0 pos0__0 (Bool.false))))
def y8q (s0_0 : List UInt8) (str0__0 : List UInt8) : Option (Bool × Unit) :=
  (bif !s0_0 == [] then (some ((decide ((↑s0_0.length : Int) ≤ 24), ()))) else (some ((Bool.false, ()))))
theorem yBn (n : Nat) (hn : big ≤ n)  (s0_0 : List UInt8) (str0__0 : List UInt8) (hx : List.length (str0__0) < lenMax) : LeF some (y7e (str0__0) (fun i__ s__ => y83 s0_0 str0__0 i__) (fun s__ => y8q s0_0 str0__0) (List.length (str0__0)) 0 ()) (y6S n n s0_0 str0__0 0) := by
  refine yK3 (f := some) (W := fun k__ i__ s__ => y6S n k__ s0_0 str0__0 i__) (body := (fun i__ s__ => y83 s0_0 str0__0 i__)) (fin := (fun s__ => y8q s0_0 str0__0)) (fun k__ i__ s__ => ?_) () n (by unfold big at hn; unfold lenMax at hx; omega)
  show LeF _ _ (yDV n (y6S n k__) s0_0 str0__0 i__)
  exact y0 (y0 (y0 (by apply y03 n hn) (y0 (by apply y03 n hn) (by apply y03 n hn))) (y0 (by apply y03 n hn) (by apply y03 n hn))) (yo (y0 (y3 rfl) (y3 rfl)))
def yCb (s : List UInt8) : Option (Bool × Unit) :=
  (bif decide (List.length (s) < lenMax) then y7e (s) (fun i__ s__ => y83 (s) (s) i__) (fun s__ => y8q (s) (s)) (List.length (s)) 0 () else none)
theorem yP8 (s : List UInt8) (y : Bool × Unit) (h : yCb s = some y) : ∃ n, yJ3 n s = some y :=
  ⟨big, LeF.top (show LeF some (yCb s) (yJ3 big s) from (fun (n : Nat) (hn : big ≤ n) => show LeF some (yCb s) (yJ3 n s) from (yK fun hx => by apply yBn n hn; exact hx)) big (Nat.le_refl _)) h⟩
def z0N_e : Entry := { f := 155, args := yNj, ress := yRg, m := fun x => yCb x.1 }
theorem yUj : FnOK Tryz.prog z0N_e := yN (g := yTD) (fn := Tryz.f155) yC yM eNil (by kernel_rfl) (by kernel_rfl) (by kernel_rfl) (fun x y h => let ⟨n, hn⟩ := yP8 x.1 y h; ⟨yLv n, iNil, (yRa n x).trans hn⟩)
abbrev zG_a : Ty := .pair t28 (.pair t181 .unit)
abbrev zG_r : Ty := .pair t3 .unit
def zG_g : G := { T := T, E := [], muts := [], fz := [] }
def zG_k : List (List Nat) := [[0, 1, 7, 8]]
def yPP (n : Nat) : Ann := { keep := zG_k, fuel := n, inl := [], deep := 0 }
def yIH (n : Nat) (r0 : List Int → (Int × Unit → Option (Bool × Unit)) → Int → Int → Option (Int × Unit)) (s0_0 : List Int) (f1_0 : Int × Unit → Option (Bool × Unit)) (t7_0 : Int) (t8_0 : Int) : Option (Int × Unit) :=
  (bif decide (t8_0 < t7_0) then (Option.bind (idx s0_0 t8_0) fun (v1 : Int) => (Option.bind (f1_0 (v1, ())) fun (v2 : Bool × Unit) => (bif v2.1 then some (t8_0, ()) else r0 s0_0 f1_0 t7_0 (IntKind.i64.wrap (t8_0 + 1))))) else some ((-1 : Int), ()))
def y9T (n : Nat)  (k : Nat) (s0_0 : List Int) (f1_0 : Int × Unit → Option (Bool × Unit)) (t7_0 : Int) (t8_0 : Int) : Option (Int × Unit) :=
  iter (fun r y => yIH n (fun s0_0 f1_0 t7_0 t8_0 => r ((s0_0, (f1_0, (t7_0, (t8_0, ())))), ((), ()))) y.1.1 y.1.2.1 y.1.2.2.1 y.1.2.2.2.1) k ((s0_0, (f1_0, (t7_0, (t8_0, ())))), ((), ()))
def zG_m (n : Nat) (s : List Int) (f : Int × Unit → Option (Bool × Unit)) : Option (Int × Unit) :=
  (y9T n n (s) (f) ((↑s.length : Int)) ((0 : Int)))
theorem yWF (n : Nat) (x : zG_a.den) : runF zG_g (yPP n) Tryz.f160 zG_a zG_r x = zG_m n x.1 x.2.1 := by kernel_rfl
def yA9 (s0_0 : List Int) (f1_0 : Int × Unit → Option (Bool × Unit)) (t8_0 : Int) (v1 : Int) : Option ((Int × Unit) ⊕ Unit) :=
  (Option.bind (f1_0 (v1, ())) fun (v2 : Bool × Unit) => (bif v2.1 then (some (Sum.inl ((t8_0, ())))) else (some (Sum.inr ()))))
def yHK (s0_0 : List Int) (f1_0 : Int × Unit → Option (Bool × Unit)) : Option (Int × Unit) :=
  (some (((-1 : Int), ())))
theorem yFJ (n : Nat) (hn : big ≤ n)  (s0_0 : List Int) (f1_0 : Int × Unit → Option (Bool × Unit)) (hx : List.length (s0_0) < lenMax) : LeF some (yI (fun i__ e__ s__ => yA9 s0_0 f1_0 i__ e__) (fun s__ => yHK s0_0 f1_0) 0 (s0_0) ()) (y9T n n s0_0 f1_0 (List.length (s0_0) : Int) 0) := by
  refine yJ (f := some) (W := fun k__ i__ s__ => y9T n k__ s0_0 f1_0 (List.length (s0_0) : Int) i__) (body := (fun i__ e__ s__ => yA9 s0_0 f1_0 i__ e__)) (fin := (fun s__ => yHK s0_0 f1_0)) (fun k__ i__ s__ => ?_) hx () n (by unfold big at hn; unfold lenMax at hx; omega)
  show LeF _ _ (yIH n (y9T n k__) s0_0 f1_0 (List.length (s0_0) : Int) i__)
  exact y0 (y7 fun v1 => (y7 fun v2 => (y0 (y3 rfl) (y3 rfl)))) (yo (y3 rfl))
def zG_M (s : List Int) (f : Int × Unit → Option (Bool × Unit)) : Option (Int × Unit) :=
  (bif decide (List.length (s) < lenMax) then yI (fun i__ e__ s__ => yA9 (s) (f) i__ e__) (fun s__ => yHK (s) (f)) 0 (s) () else none)
theorem yRb (s : List Int) (f : Int × Unit → Option (Bool × Unit)) (y : Int × Unit) (h : zG_M s f = some y) : ∃ n, zG_m n s f = some y :=
  ⟨big, LeF.top (show LeF some (zG_M s f) (zG_m big s f) from (fun (n : Nat) (hn : big ≤ n) => show LeF some (zG_M s f) (zG_m n s f) from (yK fun hx => by apply yFJ n hn; exact hx)) big (Nat.le_refl _)) h⟩
def zG_e : Entry := { f := 160, args := zG_a, ress := zG_r, m := fun x => zG_M x.1 x.2.1 }
theorem yVT : FnOK Tryz.prog zG_e := yN (g := zG_g) (fn := Tryz.f160) yC yM eNil (by kernel_rfl) (by kernel_rfl) (by kernel_rfl) (fun x y h => let ⟨n, hn⟩ := yRb x.1 x.2.1 y h; ⟨yPP n, iNil, (yWF n x).trans hn⟩)
abbrev yNU : Ty := .pair t131 .unit
abbrev yQp : Ty := .pair t131 .unit
def yUc : G := { T := T, E := [], muts := [], fz := [] }
def yVj : List (List Nat) := []
def yLE (n : Nat) : Ann := { keep := yVj, fuel := n, inl := [], deep := 0 }
def yKO (n : Nat) (f : Fai) : Option (Fai × Unit) :=
  some ((f.1, (0 : Int), (0 : Int), (0 : Int), ()), ())
theorem yTF (n : Nat) (x : yNU.den) : runF yUc (yLE n) Tryz.f162 yNU yQp x = yKO n x.1 := by kernel_rfl
def z0I (f : Fai) : (Fai × Unit) :=
  ((f.1, (0 : Int), (0 : Int), (0 : Int), ()), ())
abbrev yHZ (f : Fai) : Option (Fai × Unit) := some (z0I f)
theorem yMM (f : Fai) (y : Fai × Unit) (h : yHZ f = some y) : ∃ n, yKO n f = some y :=
  ⟨0, by rw [← h]; show yKO 0 f = some (z0I f); unfold yKO z0I; first | rfl | (simp only [yG]; done) | (simp only [yG]; rfl)⟩
def z0I_e : Entry := { f := 162, args := yNU, ress := yQp, m := fun x => yHZ x.1 }
theorem yUg : FnOK Tryz.prog z0I_e := yN (g := yUc) (fn := Tryz.f162) yC yM eNil (by kernel_rfl) (by kernel_rfl) (by kernel_rfl) (fun x y h => let ⟨n, hn⟩ := yMM x.1 y h; ⟨yLE n, iNil, (yTF n x).trans hn⟩)
abbrev yP6 : Ty := .pair t131 (.pair t3 (.pair t55 .unit))
abbrev yUr : Ty := .pair t55 (.pair t4 .unit)
def yUP : G := { T := T, E := [], muts := [], fz := [] }
def yVu : List (List Nat) := []
def yL7 (n : Nat) : Ann := { keep := yVu, fuel := n, inl := [], deep := 0 }
def yJg (n : Nat) (p0 : Fai) (p1 : Int) (p2 : List UInt8 × Int × Unit) : Option ((List UInt8 × Int × Unit) × Bool × Unit) :=
  some ((p2.1, p2.2.1, ()), Bool.true, ())
theorem yQO (n : Nat) (x : yP6.den) : runF yUP (yL7 n) Tryz.f163 yP6 yUr x = yJg n x.1 x.2.1 x.2.2.1 := by kernel_rfl
def z0J (p0 : Fai) (p1 : Int) (p2 : List UInt8 × Int × Unit) : ((List UInt8 × Int × Unit) × Bool × Unit) :=
  ((p2.1, p2.2.1, ()), Bool.true, ())
abbrev yHQ (p0 : Fai) (p1 : Int) (p2 : List UInt8 × Int × Unit) : Option ((List UInt8 × Int × Unit) × Bool × Unit) := some (z0J p0 p1 p2)
theorem yOq (p0 : Fai) (p1 : Int) (p2 : List UInt8 × Int × Unit) (y : (List UInt8 × Int × Unit) × Bool × Unit) (h : yHQ p0 p1 p2 = some y) : ∃ n, yJg n p0 p1 p2 = some y :=
  ⟨0, by rw [← h]; show yJg 0 p0 p1 p2 = some (z0J p0 p1 p2); unfold yJg z0J; first | rfl | (simp only [yG]; done) | (simp only [yG]; rfl)⟩
def z0J_e : Entry := { f := 163, args := yP6, ress := yUr, m := fun x => yHQ x.1 x.2.1 x.2.2.1 }
theorem yQC : FnOK Tryz.prog z0J_e := yN (g := yUP) (fn := Tryz.f163) yC yM eNil (by kernel_rfl) (by kernel_rfl) (by kernel_rfl) (fun x y h => let ⟨n, hn⟩ := yOq x.1 x.2.1 x.2.2.1 y h; ⟨yL7 n, iNil, (yQO n x).trans hn⟩)
abbrev yOC : Ty := .pair t131 .unit
abbrev yPz : Ty := .pair t131 .unit
def yQZ : G := { T := T, E := [], muts := [], fz := [] }
def yW2 : List (List Nat) := []
def yLY (n : Nat) : Ann := { keep := yW2, fuel := n, inl := [], deep := 0 }
def yKj (n : Nat) (f : Fai) : Option (Fai × Unit) :=
  some ((f.1, f.2.1, (0 : Int), (0 : Int), ()), ())
theorem yUn (n : Nat) (x : yOC.den) : runF yQZ (yLY n) Tryz.f164 yOC yPz x = yKj n x.1 := by kernel_rfl
def z0K (f : Fai) : (Fai × Unit) :=
  ((f.1, f.2.1, (0 : Int), (0 : Int), ()), ())
abbrev yHF (f : Fai) : Option (Fai × Unit) := some (z0K f)
theorem yOX (f : Fai) (y : Fai × Unit) (h : yHF f = some y) : ∃ n, yKj n f = some y :=
  ⟨0, by rw [← h]; show yKj 0 f = some (z0K f); unfold yKj z0K; first | rfl | (simp only [yG]; done) | (simp only [yG]; rfl)⟩
def z0K_e : Entry := { f := 164, args := yOC, ress := yPz, m := fun x => yHF x.1 }
theorem yQu : FnOK Tryz.prog z0K_e := yN (g := yQZ) (fn := Tryz.f164) yC yM eNil (by kernel_rfl) (by kernel_rfl) (by kernel_rfl) (fun x y h => let ⟨n, hn⟩ := yOX x.1 y h; ⟨yLY n, iNil, (yUn n x).trans hn⟩)
abbrev yNo : Ty := .pair t131 (.pair t3 (.pair t55 .unit))
abbrev yS9 : Ty := .pair t55 (.pair t4 .unit)
def yVB : G := { T := T, E := [], muts := [], fz := [] }
def yW4 : List (List Nat) := []
def yLK (n : Nat) : Ann := { keep := yW4, fuel := n, inl := [], deep := 0 }
def yKK (n : Nat) (f : Fai) (p1 : Int) (p2 : List UInt8 × Int × Unit) : Option ((List UInt8 × Int × Unit) × Bool × Unit) :=
  some ((p2.1, p2.2.1, ()), p1 != f.2.1, ())
theorem yS8 (n : Nat) (x : yNo.den) : runF yVB (yLK n) Tryz.f165 yNo yS9 x = yKK n x.1 x.2.1 x.2.2.1 := by kernel_rfl
def z0L (f : Fai) (p1 : Int) (p2 : List UInt8 × Int × Unit) : ((List UInt8 × Int × Unit) × Bool × Unit) :=
  ((p2.1, p2.2.1, ()), p1 != f.2.1, ())
abbrev yGX (f : Fai) (p1 : Int) (p2 : List UInt8 × Int × Unit) : Option ((List UInt8 × Int × Unit) × Bool × Unit) := some (z0L f p1 p2)
theorem yP9 (f : Fai) (p1 : Int) (p2 : List UInt8 × Int × Unit) (y : (List UInt8 × Int × Unit) × Bool × Unit) (h : yGX f p1 p2 = some y) : ∃ n, yKK n f p1 p2 = some y :=
  ⟨0, by rw [← h]; show yKK 0 f p1 p2 = some (z0L f p1 p2); unfold yKK z0L; first | rfl | (simp only [yG]; done) | (simp only [yG]; rfl)⟩
def z0L_e : Entry := { f := 165, args := yNo, ress := yS9, m := fun x => yGX x.1 x.2.1 x.2.2.1 }
theorem yPZ : FnOK Tryz.prog z0L_e := yN (g := yVB) (fn := Tryz.f165) yC yM eNil (by kernel_rfl) (by kernel_rfl) (by kernel_rfl) (fun x y h => let ⟨n, hn⟩ := yP9 x.1 x.2.1 x.2.2.1 y h; ⟨yLK n, iNil, (yS8 n x).trans hn⟩)
abbrev yMq : Ty := .pair t131 .unit
abbrev yQA : Ty := .pair t131 .unit
def ySK : G := { T := T, E := [], muts := [], fz := [] }
def yXO : List (List Nat) := []
def yLl (n : Nat) : Ann := { keep := yXO, fuel := n, inl := [], deep := 0 }
def yKW (n : Nat) (f : Fai) : Option (Fai × Unit) :=
  some ((f.1, f.2.1, f.2.2.1, f.2.2.2.1, ()), ())
theorem yUp (n : Nat) (x : yMq.den) : runF ySK (yLl n) Tryz.f166 yMq yQA x = yKW n x.1 := by kernel_rfl
def z0M (f : Fai) : (Fai × Unit) :=
  ((f.1, f.2.1, f.2.2.1, f.2.2.2.1, ()), ())
abbrev yIJ (f : Fai) : Option (Fai × Unit) := some (z0M f)
theorem yNm (f : Fai) (y : Fai × Unit) (h : yIJ f = some y) : ∃ n, yKW n f = some y :=
  ⟨0, by rw [← h]; show yKW 0 f = some (z0M f); unfold yKW z0M; first | rfl | (simp only [yG]; done) | (simp only [yG]; rfl)⟩
def z0M_e : Entry := { f := 166, args := yMq, ress := yQA, m := fun x => yIJ x.1 }
theorem yPS : FnOK Tryz.prog z0M_e := yN (g := ySK) (fn := Tryz.f166) yC yM eNil (by kernel_rfl) (by kernel_rfl) (by kernel_rfl) (fun x y h => let ⟨n, hn⟩ := yNm x.1 y h; ⟨yLl n, iNil, (yUp n x).trans hn⟩)
abbrev ze_a : Ty := .pair t131 (.pair t3 (.pair t55 .unit))
abbrev ze_r : Ty := .pair t55 (.pair t4 .unit)
def ze_g : G := { T := T, E := [], muts := [5], fz := [] }
def ze_k : List (List Nat) := []
def yUX (n : Nat) : Ann := { keep := ze_k, fuel := n, inl := [], deep := 0 }
def ze_m (n : Nat) (f : Fai) (p1 : Int) (p2 : List UInt8 × Int × Unit) : Option ((List UInt8 × Int × Unit) × Bool × Unit) :=
  (bif decide (p1 ≥ f.2.1) then (bif decide (f.2.2.1 < 0) then none else (bif decide (f.2.2.1 < 0) then none else some ((p2.1, yl IntKind.i64 Go.BinOp.or (yl IntKind.i64 Go.BinOp.andNot p2.2.1 (IntKind.i64.wrap ((1 : Int) * 2 ^ Min.min f.2.2.1.toNat IntKind.i64.bits))) (IntKind.i64.wrap (f.2.2.2.1 * 2 ^ Min.min f.2.2.1.toNat IntKind.i64.bits)), ()), Bool.true, ()))) else some ((p2.1, p2.2.1, ()), Bool.true, ()))
theorem yWR (n : Nat) (x : ze_a.den) : runF ze_g (yUX n) Tryz.f167 ze_a ze_r x = ze_m n x.1 x.2.1 x.2.2.1 := by kernel_rfl
def ze_M (f : Fai) (p1 : Int) (p2 : List UInt8 × Int × Unit) : Option ((List UInt8 × Int × Unit) × Bool × Unit) := ze_m 0 f p1 p2
theorem ySs (f : Fai) (p1 : Int) (p2 : List UInt8 × Int × Unit) (y : (List UInt8 × Int × Unit) × Bool × Unit) (h : ze_M f p1 p2 = some y) : ∃ n, ze_m n f p1 p2 = some y := ⟨0, h⟩
def ze_e : Entry := { f := 167, args := ze_a, ress := ze_r, m := fun x => ze_M x.1 x.2.1 x.2.2.1 }
theorem yVv : FnOK Tryz.prog ze_e := yN (g := ze_g) (fn := Tryz.f167) yC yM eNil (by kernel_rfl) (by kernel_rfl) (by kernel_rfl) (fun x y h => let ⟨n, hn⟩ := ySs x.1 x.2.1 x.2.2.1 y h; ⟨yUX n, iNil, (yWR n x).trans hn⟩)
end
end Go.Tw
end
