import Derived.Test.YtohhmdogfjmlcaaGreatBT
import Derived.Test.YtohhmdogfjmlcaaGreatB0
import Derived.Test.YtohhmdogfjmlcaaGreatBS
import Derived.Test.YtohhmdogfjmlcaaGreatLP
section
set_option linter.all false
set_option maxRecDepth 1000000
namespace Go.Tw
open Go.Vx Go.Vx.B Go.Proofs
noncomputable section
abbrev yN7 : Ty := .pair t25 .unit
abbrev ySA : Ty := .pair t4 .unit
def yRQ : G := { T := T, E := [], muts := [], fz := [] }
def yWm : List (List Nat) := [[1, 3], [1, 4]]
def yL0 (n : Nat) : Ann := { keep := yWm, fuel := n, inl := [], deep := 0 }
def yBN (n : Nat) (r11 : Cha → Int → Option (Bool × Unit)) (c1_11 : Cha) (i4_11 : Int) : Option (Bool × Unit) :=
 (bif decide (i4_11 < (↑c1_11.2.1.length : Int)) then (Option.bind (idx c1_11.2.1 i4_11) fun (v12 : Tra) => (bif decide ((↑v12.2.1.length : Int) > (40 : Int)) then some (Bool.false, ()) else r11 c1_11 (IntKind.i64.wrap (i4_11 + (1 : Int))))) else some (Bool.true, ()))
def y4V (n : Nat)  (k : Nat) (c1_11 : Cha) (i4_11 : Int) : Option (Bool × Unit) :=
 iter (fun r y => yBN n (fun c1_11 i4_11 => r ((c1_11, (i4_11, ())), ((), ()))) y.1.1 y.1.2.1) k ((c1_11, (i4_11, ())), ((), ()))
def yDc (n : Nat) (r9 : Cha → Int → Option (Bool × Unit)) (c1_9 : Cha) (i3_9 : Int) : Option (Bool × Unit) :=
 (bif decide (i3_9 < (↑c1_9.1.length : Int)) then (Option.bind (idx c1_9.1 i3_9) fun (v10 : Sta) => (bif decide ((↑v10.1.length : Int) > (40 : Int)) then some (Bool.false, ()) else r9 c1_9 (IntKind.i64.wrap (i3_9 + (1 : Int))))) else (y4V n n (c1_9) ((0 : Int))))
def y64 (n : Nat)  (k : Nat) (c1_9 : Cha) (i3_9 : Int) : Option (Bool × Unit) :=
 iter (fun r y => yDc n (fun c1_9 i3_9 => r ((c1_9, (i3_9, ())), ((), ()))) y.1.1 y.1.2.1) k ((c1_9, (i3_9, ())), ((), ()))
def y3N (n : Nat) (c : Cha) : Option (Bool × Unit) :=
 (y64 n n (c) ((0 : Int)))
def yKk (n : Nat) (c : Cha) : Option (Bool × Unit) :=
 (bif decide ((↑c.1.length : Int) > (7 : Int)) then (bif (↑c.1.length : Int) != (17 : Int) then some (Bool.false, ()) else (bif decide ((↑c.2.1.length : Int) > (12 : Int)) then (bif (↑c.2.1.length : Int) != (49 : Int) then some (Bool.false, ()) else (y3N n c)) else (y3N n c))) else (bif decide ((↑c.2.1.length : Int) > (12 : Int)) then (bif (↑c.2.1.length : Int) != (49 : Int) then some (Bool.false, ()) else (y3N n c)) else (y3N n c)))
theorem yRT (n : Nat) (x : yN7.den) : runF yRQ (yL0 n) Tryz.f15 yN7 ySA x = yKk n x.1 := by kernel_rfl
def y6e (c1_11 : Cha) (i4_11 : Int) (v12 : Tra) : Option ((Bool × Unit) ⊕ Unit) :=
 (bif decide ((↑v12.2.1.length : Int) > (40 : Int)) then (some (Sum.inl ((Bool.false, ())))) else (some (Sum.inr ())))
def y9i (c1_11 : Cha) : Option (Bool × Unit) :=
 (some ((Bool.true, ())))
theorem yBB (n : Nat) (hn : big ≤ n)  (c1_11 : Cha) (hx : List.length (c1_11.2.1) < lenMax) : LeF some (yI (fun i__ e__ s__ => y6e c1_11 i__ e__) (fun s__ => y9i c1_11) 0 (c1_11.2.1) ()) (y4V n n c1_11 0) := by
 refine yJ (f := some) (W := fun k__ i__ s__ => y4V n k__ c1_11 i__) (body := (fun i__ e__ s__ => y6e c1_11 i__ e__)) (fin := (fun s__ => y9i c1_11)) (fun k__ i__ s__ => ?_) hx () n (by unfold big at hn; unfold lenMax at hx; omega)
 show LeF _ _ (yBN n (y4V n k__) c1_11 i__)
 exact y0 (y7 fun v12 => (y0 (y3 rfl) (y3 rfl))) (yo (y3 rfl))
def yAl (c1_9 : Cha) (i3_9 : Int) (v10 : Sta) : Option ((Bool × Unit) ⊕ Unit) :=
 (bif decide ((↑v10.1.length : Int) > (40 : Int)) then (some (Sum.inl ((Bool.false, ())))) else (some (Sum.inr ())))
def yBH (c1_9 : Cha) : Option (Bool × Unit) :=
 (bif decide (List.length (c1_9.2.1) < lenMax) then yI (fun i__ e__ s__ => y6e (c1_9) i__ e__) (fun s__ => y9i (c1_9)) 0 (c1_9.2.1) () else none)
theorem yBm (n : Nat) (hn : big ≤ n)  (c1_9 : Cha) (hx : List.length (c1_9.1) < lenMax) : LeF some (yI (fun i__ e__ s__ => yAl c1_9 i__ e__) (fun s__ => yBH c1_9) 0 (c1_9.1) ()) (y64 n n c1_9 0) := by
 refine yJ (f := some) (W := fun k__ i__ s__ => y64 n k__ c1_9 i__) (body := (fun i__ e__ s__ => yAl c1_9 i__ e__)) (fin := (fun s__ => yBH c1_9)) (fun k__ i__ s__ => ?_) hx () n (by unfold big at hn; unfold lenMax at hx; omega)
 show LeF _ _ (yDc n (y64 n k__) c1_9 i__)
 exact y0 (y7 fun v10 => (y0 (y3 rfl) (y3 rfl))) (yo (yK fun hx => by apply yBB n hn; exact hx))
def y2h (c : Cha) : Option (Bool × Unit) :=
 (bif decide (List.length (c.1) < lenMax) then yI (fun i__ e__ s__ => yAl (c) i__ e__) (fun s__ => yBH (c)) 0 (c.1) () else none)
theorem y0Y (n : Nat) (hn : big ≤ n)  (c : Cha) : LeF some (y2h c) (y3N n c) :=
 (yK fun hx => by apply yBm n hn; exact hx)
def yBk (c : Cha) : Option (Bool × Unit) :=
 (bif decide ((↑c.1.length : Int) > (7 : Int)) then (bif (↑c.1.length : Int) != (17 : Int) then (some ((Bool.false, ()))) else (bif decide ((↑c.2.1.length : Int) > (12 : Int)) then (bif (↑c.2.1.length : Int) != (49 : Int) then (some ((Bool.false, ()))) else (y2h c)) else (y2h c))) else (bif decide ((↑c.2.1.length : Int) > (12 : Int)) then (bif (↑c.2.1.length : Int) != (49 : Int) then (some ((Bool.false, ()))) else (y2h c)) else (y2h c)))
theorem yOB (c : Cha) (y : Bool × Unit) (h : yBk c = some y) : ∃ n, yKk n c = some y :=
 ⟨big, LeF.top (show LeF some (yBk c) (yKk big c) from (fun (n : Nat) (hn : big ≤ n) => show LeF some (yBk c) (yKk n c) from (y0 (y0 (y3 rfl) (y0 (y0 (y3 rfl) (by apply y0Y n hn)) (by apply y0Y n hn))) (y0 (y0 (y3 rfl) (by apply y0Y n hn)) (by apply y0Y n hn)))) big (Nat.le_refl _)) h⟩
def z0e_e : Entry := { f := 15, args := yN7, ress := ySA, m := fun x => yBk x.1 }
theorem yUR : FnOK Tryz.prog z0e_e := yN (g := yRQ) (fn := Tryz.f15) yC yM eNil (by kernel_rfl) (by kernel_rfl) (by kernel_rfl) (fun x y h => let ⟨n, hn⟩ := yOB x.1 y h; ⟨yL0 n, iNil, (yRT n x).trans hn⟩)
abbrev yMa : Ty := .pair t25 .unit
abbrev yQg : Ty := .pair t35 .unit
def yRe : G := { T := T, E := [], muts := [3], fz := [] }
def yVx : List (List Nat) := [[1, 2, 3, 9, 10, 11], [2, 3, 23, 24, 25]]
def yLu (n : Nat) : Ann := { keep := yVx, fuel := n, inl := [], deep := 0 }
def yDZ (n : Nat) (r2 : List Tra → Int → Int → List Sta → List Tra → Option (Cha × Unit)) (t23_2 : List Tra) (t24_2 : Int) (t25_2 : Int) (cs2_2 : List Sta) (cs3_2 : List Tra) : Option (Cha × Unit) :=
 (bif decide (t25_2 < t24_2) then (Option.bind (idx t23_2 t25_2) fun (v3 : Tra) => (bif decide (cs3_2.length + (1 : Nat) ≤ memMax) then r2 t23_2 t24_2 (IntKind.i64.wrap (t25_2 + (1 : Int))) cs2_2 (cs3_2 ++ [(v3.1, v3.2.1, v3.2.2.1, v3.2.2.2.1, v3.2.2.2.2.1, ())]) else none)) else some ((cs2_2, cs3_2, ()), ()))
def y6C (n : Nat)  (k : Nat) (t23_2 : List Tra) (t24_2 : Int) (t25_2 : Int) (cs2_2 : List Sta) (cs3_2 : List Tra) : Option (Cha × Unit) :=
 iter (fun r y => yDZ n (fun t23_2 t24_2 t25_2 cs2_2 cs3_2 => r ((t23_2, (t24_2, (t25_2, ()))), (((), ((), (cs2_2, (cs3_2, ())))), ()))) y.1.1 y.1.2.1 y.1.2.2.1 y.2.1.2.2.1 y.2.1.2.2.2.1) k ((t23_2, (t24_2, (t25_2, ()))), (((), ((), (cs2_2, (cs3_2, ())))), ()))
def yCz (n : Nat) (r0 : Cha → List Sta → Int → Int → List Sta → List Tra → Option (Cha × Unit)) (c1_0 : Cha) (t9_0 : List Sta) (t10_0 : Int) (t11_0 : Int) (cs2_0 : List Sta) (cs3_0 : List Tra) : Option (Cha × Unit) :=
 (bif decide (t11_0 < t10_0) then (Option.bind (idx t9_0 t11_0) fun (v1 : Sta) => (bif decide (cs2_0.length + (1 : Nat) ≤ memMax) then r0 c1_0 t9_0 t10_0 (IntKind.i64.wrap (t11_0 + (1 : Int))) (cs2_0 ++ [(v1.1, v1.2.1, v1.2.2.1, v1.2.2.2.1, ())]) cs3_0 else none)) else (y6C n n (c1_0.2.1) ((↑c1_0.2.1.length : Int)) ((0 : Int)) (cs2_0) (cs3_0)))
def y6O (n : Nat)  (k : Nat) (c1_0 : Cha) (t9_0 : List Sta) (t10_0 : Int) (t11_0 : Int) (cs2_0 : List Sta) (cs3_0 : List Tra) : Option (Cha × Unit) :=
 iter (fun r y => yCz n (fun c1_0 t9_0 t10_0 t11_0 cs2_0 cs3_0 => r ((c1_0, (t9_0, (t10_0, (t11_0, ())))), (((), ((), (cs2_0, (cs3_0, ())))), ()))) y.1.1 y.1.2.1 y.1.2.2.1 y.1.2.2.2.1 y.2.1.2.2.1 y.2.1.2.2.2.1) k ((c1_0, (t9_0, (t10_0, (t11_0, ())))), (((), ((), (cs2_0, (cs3_0, ())))), ()))
def yJc (n : Nat) (c : Cha) : Option (Cha × Unit) :=
 (y6O n n (c) (c.1) ((↑c.1.length : Int)) ((0 : Int)) ([]) ([]))
theorem yQo (n : Nat) (x : yMa.den) : runF yRe (yLu n) Tryz.f17 yMa yQg x = yJc n x.1 := by kernel_rfl
def yEI (t23_2 : List Tra) (cs2_2 : List Sta) (t25_2 : Int) (v3 : Tra) (cs3_2 : List Tra) : Option ((Cha × Unit) ⊕ (List Tra)) :=
 (bif decide (cs3_2.length + (1 : Nat) ≤ memMax) then (some (Sum.inr (cs3_2 ++ [(v3.1, v3.2.1, v3.2.2.1, v3.2.2.2.1, v3.2.2.2.2.1, ())]))) else none)
def yIG (t23_2 : List Tra) (cs2_2 : List Sta) (cs3_2 : List Tra) : Option (Cha × Unit) :=
 (some (((cs2_2, cs3_2, ()), ())))
theorem yCp (n : Nat) (hn : big ≤ n)  (t23_2 : List Tra) (cs2_2 : List Sta) (cs3_2 : List Tra) (hx : List.length (t23_2) < lenMax) : LeF some (yI (fun i__ e__ s__ => yEI t23_2 cs2_2 i__ e__ s__) (fun s__ => yIG t23_2 cs2_2 s__) 0 (t23_2) cs3_2) (y6C n n t23_2 (List.length (t23_2) : Int) 0 cs2_2 cs3_2) := by
 refine yJ (f := some) (W := fun k__ i__ s__ => y6C n k__ t23_2 (List.length (t23_2) : Int) i__ cs2_2 s__) (body := (fun i__ e__ s__ => yEI t23_2 cs2_2 i__ e__ s__)) (fin := (fun s__ => yIG t23_2 cs2_2 s__)) (fun k__ i__ s__ => ?_) hx cs3_2 n (by unfold big at hn; unfold lenMax at hx; omega)
 show LeF _ _ (yDZ n (y6C n k__) t23_2 (List.length (t23_2) : Int) i__ cs2_2 s__)
 exact y0 (y7 fun v3 => (y0 (y3 rfl) yb)) (yo (y3 rfl))
def yDr (c1_0 : Cha) (t9_0 : List Sta) (cs3_0 : List Tra) (t11_0 : Int) (v1 : Sta) (cs2_0 : List Sta) : Option ((Cha × Unit) ⊕ (List Sta)) :=
 (bif decide (cs2_0.length + (1 : Nat) ≤ memMax) then (some (Sum.inr (cs2_0 ++ [(v1.1, v1.2.1, v1.2.2.1, v1.2.2.2.1, ())]))) else none)
def yES (c1_0 : Cha) (t9_0 : List Sta) (cs3_0 : List Tra) (cs2_0 : List Sta) : Option (Cha × Unit) :=
 (bif decide (List.length (c1_0.2.1) < lenMax) then yI (fun i__ e__ s__ => yEI (c1_0.2.1) (cs2_0) i__ e__ s__) (fun s__ => yIG (c1_0.2.1) (cs2_0) s__) 0 (c1_0.2.1) (cs3_0) else none)
theorem yCc (n : Nat) (hn : big ≤ n)  (c1_0 : Cha) (t9_0 : List Sta) (cs3_0 : List Tra) (cs2_0 : List Sta) (hx : List.length (t9_0) < lenMax) : LeF some (yI (fun i__ e__ s__ => yDr c1_0 t9_0 cs3_0 i__ e__ s__) (fun s__ => yES c1_0 t9_0 cs3_0 s__) 0 (t9_0) cs2_0) (y6O n n c1_0 t9_0 (List.length (t9_0) : Int) 0 cs2_0 cs3_0) := by
 refine yJ (f := some) (W := fun k__ i__ s__ => y6O n k__ c1_0 t9_0 (List.length (t9_0) : Int) i__ s__ cs3_0) (body := (fun i__ e__ s__ => yDr c1_0 t9_0 cs3_0 i__ e__ s__)) (fin := (fun s__ => yES c1_0 t9_0 cs3_0 s__)) (fun k__ i__ s__ => ?_) hx cs2_0 n (by unfold big at hn; unfold lenMax at hx; omega)
 show LeF _ _ (yCz n (y6O n k__) c1_0 t9_0 (List.length (t9_0) : Int) i__ s__ cs3_0)
 exact y0 (y7 fun v1 => (y0 (y3 rfl) yb)) (yo (yK fun hx => by apply yCp n hn; exact hx))
def y2u (c : Cha) : Option (Cha × Unit) :=
 (bif decide (List.length (c.1) < lenMax) then yI (fun i__ e__ s__ => yDr (c) (c.1) ([]) i__ e__ s__) (fun s__ => yES (c) (c.1) ([]) s__) 0 (c.1) ([]) else none)
theorem yOM (c : Cha) (y : Cha × Unit) (h : y2u c = some y) : ∃ n, yJc n c = some y :=
 ⟨big, LeF.top (show LeF some (y2u c) (yJc big c) from (fun (n : Nat) (hn : big ≤ n) => show LeF some (y2u c) (yJc n c) from (yK fun hx => by apply yCc n hn; exact hx)) big (Nat.le_refl _)) h⟩
def z0b_e : Entry := { f := 17, args := yMa, ress := yQg, m := fun x => y2u x.1 }
theorem yRH : FnOK Tryz.prog z0b_e := yN (g := yRe) (fn := Tryz.f17) yC yM eNil (by kernel_rfl) (by kernel_rfl) (by kernel_rfl) (fun x y h => let ⟨n, hn⟩ := yOM x.1 y h; ⟨yLu n, iNil, (yQo n x).trans hn⟩)
abbrev yMF : Ty := .pair t37 (.pair t37 .unit)
abbrev yU3 : Ty := .pair t4 .unit
def yTr : G := { T := T, E := [], muts := [], fz := [] }
def yXa : List (List Nat) := [[0, 1, 5]]
def yLU (n : Nat) : Ann := { keep := yXa, fuel := n, inl := [], deep := 0 }
def yEV (n : Nat) (r0 : List (List UInt8) → List (List UInt8) → Int → Option (Bool × Unit)) (a0_0 : List (List UInt8)) (b1_0 : List (List UInt8)) (i5_0 : Int) : Option (Bool × Unit) :=
 (bif decide (i5_0 < (↑a0_0.length : Int)) then (Option.bind (idx a0_0 i5_0) fun (v1 : List UInt8) => (Option.bind (idx b1_0 i5_0) fun (v2 : List UInt8) => (bif !v1 == v2 then some (Bool.false, ()) else r0 a0_0 b1_0 (IntKind.i64.wrap (i5_0 + (1 : Int)))))) else some (Bool.true, ()))
def y6S (n : Nat)  (k : Nat) (a0_0 : List (List UInt8)) (b1_0 : List (List UInt8)) (i5_0 : Int) : Option (Bool × Unit) :=
 iter (fun r y => yEV n (fun a0_0 b1_0 i5_0 => r ((a0_0, (b1_0, (i5_0, ()))), ((), ()))) y.1.1 y.1.2.1 y.1.2.2.1) k ((a0_0, (b1_0, (i5_0, ()))), ((), ()))
def yJ6 (n : Nat) (a : List (List UInt8)) (b : List (List UInt8)) : Option (Bool × Unit) :=
 (bif (↑a.length : Int) != (↑b.length : Int) then some (Bool.false, ()) else (y6S n n (a) (b) ((0 : Int))))
theorem ySJ (n : Nat) (x : yMF.den) : runF yTr (yLU n) Tryz.f26 yMF yU3 x = yJ6 n x.1 x.2.1 := by kernel_rfl
def yGF (a0_0 : List (List UInt8)) (b1_0 : List (List UInt8)) (i5_0 : Int) (v1 : List UInt8) : Option ((Bool × Unit) ⊕ Unit) :=
 (Option.bind (idx b1_0 i5_0) fun (v2 : List UInt8) => (bif !v1 == v2 then (some (Sum.inl ((Bool.false, ())))) else (some (Sum.inr ()))))
def yGl (a0_0 : List (List UInt8)) (b1_0 : List (List UInt8)) : Option (Bool × Unit) :=
 (some ((Bool.true, ())))
theorem yCM (n : Nat) (hn : big ≤ n)  (a0_0 : List (List UInt8)) (b1_0 : List (List UInt8)) (hx : List.length (a0_0) < lenMax) : LeF some (yI (fun i__ e__ s__ => yGF a0_0 b1_0 i__ e__) (fun s__ => yGl a0_0 b1_0) 0 (a0_0) ()) (y6S n n a0_0 b1_0 0) := by
 refine yJ (f := some) (W := fun k__ i__ s__ => y6S n k__ a0_0 b1_0 i__) (body := (fun i__ e__ s__ => yGF a0_0 b1_0 i__ e__)) (fin := (fun s__ => yGl a0_0 b1_0)) (fun k__ i__ s__ => ?_) hx () n (by unfold big at hn; unfold lenMax at hx; omega)
 show LeF _ _ (yEV n (y6S n k__) a0_0 b1_0 i__)
 exact y0 (y7 fun v1 => (y7 fun v2 => (y0 (y3 rfl) (y3 rfl)))) (yo (y3 rfl))
def yGA (a : List (List UInt8)) (b : List (List UInt8)) : Option (Bool × Unit) :=
 (bif (↑a.length : Int) != (↑b.length : Int) then (some ((Bool.false, ()))) else (bif decide (List.length (a) < lenMax) then yI (fun i__ e__ s__ => yGF (a) (b) i__ e__) (fun s__ => yGl (a) (b)) 0 (a) () else none))
theorem yMS (a : List (List UInt8)) (b : List (List UInt8)) (y : Bool × Unit) (h : yGA a b = some y) : ∃ n, yJ6 n a b = some y :=
 ⟨big, LeF.top (show LeF some (yGA a b) (yJ6 big a b) from (fun (n : Nat) (hn : big ≤ n) => show LeF some (yGA a b) (yJ6 n a b) from (y0 (y3 rfl) (yK fun hx => by apply yCM n hn; exact hx))) big (Nat.le_refl _)) h⟩
def z01_e : Entry := { f := 26, args := yMF, ress := yU3, m := fun x => yGA x.1 x.2.1 }
theorem yQQ : FnOK Tryz.prog z01_e := yN (g := yTr) (fn := Tryz.f26) yC yM eNil (by kernel_rfl) (by kernel_rfl) (by kernel_rfl) (fun x y h => let ⟨n, hn⟩ := yMS x.1 x.2.1 y h; ⟨yLU n, iNil, (ySJ n x).trans hn⟩)
abbrev zl_a : Ty := .pair t50 .unit
abbrev zl_r : Ty := .pair t4 .unit
def zl_g : G := { T := T, E := [], muts := [], fz := [] }
def zl_k : List (List Nat) := [[0, 3]]
def yPd (n : Nat) : Ann := { keep := zl_k, fuel := n, inl := [], deep := 0 }
def yIl (n : Nat) (r0 : List (List UInt8 × Int × Unit) → Int → Option (Bool × Unit)) (l0_0 : List (List UInt8 × Int × Unit)) (i3_0 : Int) : Option (Bool × Unit) :=
 (bif decide (i3_0 < (↑l0_0.length : Int)) then (Option.bind (idx l0_0 i3_0) fun (v1 : List UInt8 × Int × Unit) => (bif decide ((↑v1.1.length : Int) > (40 : Int)) then some (Bool.false, ()) else r0 l0_0 (IntKind.i64.wrap (i3_0 + (1 : Int))))) else (bif decide ((↑l0_0.length : Int) ≤ (12 : Int)) then some (Bool.true, ()) else some ((↑l0_0.length : Int) == (65 : Int), ())))
def y9e (n : Nat)  (k : Nat) (l0_0 : List (List UInt8 × Int × Unit)) (i3_0 : Int) : Option (Bool × Unit) :=
 iter (fun r y => yIl n (fun l0_0 i3_0 => r ((l0_0, (i3_0, ())), ((), ()))) y.1.1 y.1.2.1) k ((l0_0, (i3_0, ())), ((), ()))
def zl_m (n : Nat) (l : List (List UInt8 × Int × Unit)) : Option (Bool × Unit) :=
 (y9e n n (l) ((0 : Int)))
theorem yWv (n : Nat) (x : zl_a.den) : runF zl_g (yPd n) Tryz.f28 zl_a zl_r x = zl_m n x.1 := by kernel_rfl
def yKs (l0_0 : List (List UInt8 × Int × Unit)) (i3_0 : Int) (v1 : List UInt8 × Int × Unit) : Option ((Bool × Unit) ⊕ Unit) :=
 (bif decide ((↑v1.1.length : Int) > (40 : Int)) then (some (Sum.inl ((Bool.false, ())))) else (some (Sum.inr ())))
def yK8 (l0_0 : List (List UInt8 × Int × Unit)) : Option (Bool × Unit) :=
 (bif decide ((↑l0_0.length : Int) ≤ (12 : Int)) then (some ((Bool.true, ()))) else (some (((↑l0_0.length : Int) == (65 : Int), ()))))
theorem yEi (n : Nat) (hn : big ≤ n)  (l0_0 : List (List UInt8 × Int × Unit)) (hx : List.length (l0_0) < lenMax) : LeF some (yI (fun i__ e__ s__ => yKs l0_0 i__ e__) (fun s__ => yK8 l0_0) 0 (l0_0) ()) (y9e n n l0_0 0) := by
 refine yJ (f := some) (W := fun k__ i__ s__ => y9e n k__ l0_0 i__) (body := (fun i__ e__ s__ => yKs l0_0 i__ e__)) (fin := (fun s__ => yK8 l0_0)) (fun k__ i__ s__ => ?_) hx () n (by unfold big at hn; unfold lenMax at hx; omega)
 show LeF _ _ (yIl n (y9e n k__) l0_0 i__)
 exact y0 (y7 fun v1 => (y0 (y3 rfl) (y3 rfl))) (yo (y0 (y3 rfl) (y3 rfl)))
def zl_M (l : List (List UInt8 × Int × Unit)) : Option (Bool × Unit) :=
 (bif decide (List.length (l) < lenMax) then yI (fun i__ e__ s__ => yKs (l) i__ e__) (fun s__ => yK8 (l)) 0 (l) () else none)
theorem yUx (l : List (List UInt8 × Int × Unit)) (y : Bool × Unit) (h : zl_M l = some y) : ∃ n, zl_m n l = some y :=
 ⟨big, LeF.top (show LeF some (zl_M l) (zl_m big l) from (fun (n : Nat) (hn : big ≤ n) => show LeF some (zl_M l) (zl_m n l) from (yK fun hx => by apply yEi n hn; exact hx)) big (Nat.le_refl _)) h⟩
def zl_e : Entry := { f := 28, args := zl_a, ress := zl_r, m := fun x => zl_M x.1 }
theorem yVT : FnOK Tryz.prog zl_e := yN (g := zl_g) (fn := Tryz.f28) yC yM eNil (by kernel_rfl) (by kernel_rfl) (by kernel_rfl) (fun x y h => let ⟨n, hn⟩ := yUx x.1 y h; ⟨yPd n, iNil, (yWv n x).trans hn⟩)
abbrev yOw : Ty := .pair t50 .unit
abbrev yPK : Ty := .pair t57 .unit
def yPN : G := { T := T, E := [], muts := [3], fz := [] }
def yWw : List (List Nat) := [[3, 6, 7, 8]]
def yLs (n : Nat) : Ann := { keep := yWw, fuel := n, inl := [], deep := 0 }
def yDn (n : Nat) (r0 : List (List UInt8 × Int × Unit) → Int → Int → List (List UInt8 × Int × Unit) → Option (List (List UInt8 × Int × Unit) × Unit)) (t6_0 : List (List UInt8 × Int × Unit)) (t7_0 : Int) (t8_0 : Int) (c0_0 : List (List UInt8 × Int × Unit)) : Option (List (List UInt8 × Int × Unit) × Unit) :=
 (bif decide (t8_0 < t7_0) then (Option.bind (idx t6_0 t8_0) fun (v1 : List UInt8 × Int × Unit) => (bif decide (c0_0.length + (1 : Nat) ≤ memMax) then r0 t6_0 t7_0 (IntKind.i64.wrap (t8_0 + (1 : Int))) (c0_0 ++ [(v1.1, v1.2.1, ())]) else none)) else some (c0_0, ()))
def y6R (n : Nat)  (k : Nat) (t6_0 : List (List UInt8 × Int × Unit)) (t7_0 : Int) (t8_0 : Int) (c0_0 : List (List UInt8 × Int × Unit)) : Option (List (List UInt8 × Int × Unit) × Unit) :=
 iter (fun r y => yDn n (fun t6_0 t7_0 t8_0 c0_0 => r ((t6_0, (t7_0, (t8_0, ()))), ((c0_0, ()), ()))) y.1.1 y.1.2.1 y.1.2.2.1 y.2.1.1) k ((t6_0, (t7_0, (t8_0, ()))), ((c0_0, ()), ()))
def yJ5 (n : Nat) (l : List (List UInt8 × Int × Unit)) : Option (List (List UInt8 × Int × Unit) × Unit) :=
 (y6R n n (l) ((↑l.length : Int)) ((0 : Int)) ([]))
theorem yT7 (n : Nat) (x : yOw.den) : runF yPN (yLs n) Tryz.f31 yOw yPK x = yJ5 n x.1 := by kernel_rfl
def yD3 (t6_0 : List (List UInt8 × Int × Unit)) (t8_0 : Int) (v1 : List UInt8 × Int × Unit) (c0_0 : List (List UInt8 × Int × Unit)) : Option ((List (List UInt8 × Int × Unit) × Unit) ⊕ (List (List UInt8 × Int × Unit))) :=
 (bif decide (c0_0.length + (1 : Nat) ≤ memMax) then (some (Sum.inr (c0_0 ++ [(v1.1, v1.2.1, ())]))) else none)
def yHZ (t6_0 : List (List UInt8 × Int × Unit)) (c0_0 : List (List UInt8 × Int × Unit)) : Option (List (List UInt8 × Int × Unit) × Unit) :=
 (some ((c0_0, ())))
theorem yCh (n : Nat) (hn : big ≤ n)  (t6_0 : List (List UInt8 × Int × Unit)) (c0_0 : List (List UInt8 × Int × Unit)) (hx : List.length (t6_0) < lenMax) : LeF some (yI (fun i__ e__ s__ => yD3 t6_0 i__ e__ s__) (fun s__ => yHZ t6_0 s__) 0 (t6_0) c0_0) (y6R n n t6_0 (List.length (t6_0) : Int) 0 c0_0) := by
 refine yJ (f := some) (W := fun k__ i__ s__ => y6R n k__ t6_0 (List.length (t6_0) : Int) i__ s__) (body := (fun i__ e__ s__ => yD3 t6_0 i__ e__ s__)) (fin := (fun s__ => yHZ t6_0 s__)) (fun k__ i__ s__ => ?_) hx c0_0 n (by unfold big at hn; unfold lenMax at hx; omega)
 show LeF _ _ (yDn n (y6R n k__) t6_0 (List.length (t6_0) : Int) i__ s__)
 exact y0 (y7 fun v1 => (y0 (y3 rfl) yb)) (yo (y3 rfl))
def y2D (l : List (List UInt8 × Int × Unit)) : Option (List (List UInt8 × Int × Unit) × Unit) :=
 (bif decide (List.length (l) < lenMax) then yI (fun i__ e__ s__ => yD3 (l) i__ e__ s__) (fun s__ => yHZ (l) s__) 0 (l) ([]) else none)
theorem yNb (l : List (List UInt8 × Int × Unit)) (y : List (List UInt8 × Int × Unit) × Unit) (h : y2D l = some y) : ∃ n, yJ5 n l = some y :=
 ⟨big, LeF.top (show LeF some (y2D l) (yJ5 big l) from (fun (n : Nat) (hn : big ≤ n) => show LeF some (y2D l) (yJ5 n l) from (yK fun hx => by apply yCh n hn; exact hx)) big (Nat.le_refl _)) h⟩
def z0P_e : Entry := { f := 31, args := yOw, ress := yPK, m := fun x => y2D x.1 }
theorem ySl : FnOK Tryz.prog z0P_e := yN (g := yPN) (fn := Tryz.f31) yC yM eNil (by kernel_rfl) (by kernel_rfl) (by kernel_rfl) (fun x y h => let ⟨n, hn⟩ := yNb x.1 y h; ⟨yLs n, iNil, (yT7 n x).trans hn⟩)
abbrev zr_a : Ty := .pair t3 (.pair t3 (.pair t3 .unit))
abbrev zr_r : Ty := .pair t3 .unit
def zr_g : G := { T := T, E := [], muts := [], fz := [] }
def zr_k : List (List Nat) := []
def yRX (n : Nat) : Ann := { keep := zr_k, fuel := n, inl := [], deep := 0 }
def zr_m (n : Nat) (n1 : Int) (low : Int) (high : Int) : Option (Int × Unit) :=
 (bif decide (n1 < low) then some ((3 : Int), ()) else (bif decide (n1 > high) then some ((3 : Int), ()) else some ((0 : Int), ())))
theorem yXP (n : Nat) (x : zr_a.den) : runF zr_g (yRX n) Tryz.f43 zr_a zr_r x = zr_m n x.1 x.2.1 x.2.2.1 := by kernel_rfl
def zr (n1 : Int) (low : Int) (high : Int) : (Int × Unit) :=
 (bif decide (n1 < low) then ((3 : Int), ()) else (bif decide (n1 > high) then ((3 : Int), ()) else ((0 : Int), ())))
abbrev zr_M (n1 : Int) (low : Int) (high : Int) : Option (Int × Unit) := some (zr n1 low high)
theorem yTG (n1 : Int) (low : Int) (high : Int) (y : Int × Unit) (h : zr_M n1 low high = some y) : ∃ n, zr_m n n1 low high = some y :=
 ⟨0, by rw [← h]; show zr_m 0 n1 low high = some (zr n1 low high); unfold zr_m zr; first | rfl | (simp only [yG]; done) | (simp only [yG]; rfl)⟩
def zr_e : Entry := { f := 43, args := zr_a, ress := zr_r, m := fun x => zr_M x.1 x.2.1 x.2.2.1 }
theorem yOk : FnOK Tryz.prog zr_e := yN (g := zr_g) (fn := Tryz.f43) yC yM eNil (by kernel_rfl) (by kernel_rfl) (by kernel_rfl) (fun x y h => let ⟨n, hn⟩ := yTG x.1 x.2.1 x.2.2.1 y h; ⟨yRX n, iNil, (yXP n x).trans hn⟩)
abbrev yMd : Ty := .pair t28 (.pair t28 .unit)
abbrev yTs : Ty := .pair t4 .unit
def yRc : G := { T := T, E := [], muts := [], fz := [] }
def yWI : List (List Nat) := [[0, 1, 5]]
def yLt (n : Nat) : Ann := { keep := yWI, fuel := n, inl := [], deep := 0 }
def yEF (n : Nat) (r0 : List Int → List Int → Int → Option (Bool × Unit)) (a0_0 : List Int) (b1_0 : List Int) (i5_0 : Int) : Option (Bool × Unit) :=
 (bif decide (i5_0 < (↑a0_0.length : Int)) then (Option.bind (idx a0_0 i5_0) fun (v1 : Int) => (Option.bind (idx b1_0 i5_0) fun (v2 : Int) => (bif v1 != v2 then some (Bool.false, ()) else r0 a0_0 b1_0 (IntKind.i64.wrap (i5_0 + (1 : Int)))))) else some (Bool.true, ()))
def y6b (n : Nat)  (k : Nat) (a0_0 : List Int) (b1_0 : List Int) (i5_0 : Int) : Option (Bool × Unit) :=
 iter (fun r y => yEF n (fun a0_0 b1_0 i5_0 => r ((a0_0, (b1_0, (i5_0, ()))), ((), ()))) y.1.1 y.1.2.1 y.1.2.2.1) k ((a0_0, (b1_0, (i5_0, ()))), ((), ()))
def yKf (n : Nat) (a : List Int) (b : List Int) : Option (Bool × Unit) :=
 (bif (↑a.length : Int) != (↑b.length : Int) then some (Bool.false, ()) else (y6b n n (a) (b) ((0 : Int))))
theorem yUL (n : Nat) (x : yMd.den) : runF yRc (yLt n) Tryz.f48 yMd yTs x = yKf n x.1 x.2.1 := by kernel_rfl
def yD6 (a0_0 : List Int) (b1_0 : List Int) (i5_0 : Int) (v1 : Int) : Option ((Bool × Unit) ⊕ Unit) :=
 (Option.bind (idx b1_0 i5_0) fun (v2 : Int) => (bif v1 != v2 then (some (Sum.inl ((Bool.false, ())))) else (some (Sum.inr ()))))
def yGu (a0_0 : List Int) (b1_0 : List Int) : Option (Bool × Unit) :=
 (some ((Bool.true, ())))
theorem yCP (n : Nat) (hn : big ≤ n)  (a0_0 : List Int) (b1_0 : List Int) (hx : List.length (a0_0) < lenMax) : LeF some (yI (fun i__ e__ s__ => yD6 a0_0 b1_0 i__ e__) (fun s__ => yGu a0_0 b1_0) 0 (a0_0) ()) (y6b n n a0_0 b1_0 0) := by
 refine yJ (f := some) (W := fun k__ i__ s__ => y6b n k__ a0_0 b1_0 i__) (body := (fun i__ e__ s__ => yD6 a0_0 b1_0 i__ e__)) (fin := (fun s__ => yGu a0_0 b1_0)) (fun k__ i__ s__ => ?_) hx () n (by unfold big at hn; unfold lenMax at hx; omega)
 show LeF _ _ (yEF n (y6b n k__) a0_0 b1_0 i__)
 exact y0 (y7 fun v1 => (y7 fun v2 => (y0 (y3 rfl) (y3 rfl)))) (yo (y3 rfl))
def y2K (a : List Int) (b : List Int) : Option (Bool × Unit) :=
 (bif (↑a.length : Int) != (↑b.length : Int) then (some ((Bool.false, ()))) else (bif decide (List.length (a) < lenMax) then yI (fun i__ e__ s__ => yD6 (a) (b) i__ e__) (fun s__ => yGu (a) (b)) 0 (a) () else none))
theorem yNV (a : List Int) (b : List Int) (y : Bool × Unit) (h : y2K a b = some y) : ∃ n, yKf n a b = some y :=
 ⟨big, LeF.top (show LeF some (y2K a b) (yKf big a b) from (fun (n : Nat) (hn : big ≤ n) => show LeF some (y2K a b) (yKf n a b) from (y0 (y3 rfl) (yK fun hx => by apply yCP n hn; exact hx))) big (Nat.le_refl _)) h⟩
def z0A_e : Entry := { f := 48, args := yMd, ress := yTs, m := fun x => y2K x.1 x.2.1 }
theorem yLv : FnOK Tryz.prog z0A_e := yN (g := yRc) (fn := Tryz.f48) yC yM eNil (by kernel_rfl) (by kernel_rfl) (by kernel_rfl) (fun x y h => let ⟨n, hn⟩ := yNV x.1 x.2.1 y h; ⟨yLt n, iNil, (yUL n x).trans hn⟩)
abbrev yPC : Ty := .pair t28 .unit
abbrev yPb : Ty := .pair t28 .unit
def yPf : G := { T := T, E := [], muts := [3], fz := [] }
def yWL : List (List Nat) := []
def yLp (n : Nat) : Ann := { keep := yWL, fuel := n, inl := [], deep := 0 }
def yKT (n : Nat) (l : List Int) : Option (List Int × Unit) :=
 (bif decide ((0 : Nat) + l.length ≤ memMax) then some (l, ()) else none)
theorem yQH (n : Nat) (x : yPC.den) : runF yPf (yLp n) Tryz.f50 yPC yPb x = yKT n x.1 := by kernel_rfl
def yFy (l : List Int) : Option (List Int × Unit) := yKT 0 l
theorem yNy (l : List Int) (y : List Int × Unit) (h : yFy l = some y) : ∃ n, yKT n l = some y := ⟨0, h⟩
def z0o_e : Entry := { f := 50, args := yPC, ress := yPb, m := fun x => yFy x.1 }
theorem yI3 : FnOK Tryz.prog z0o_e := yN (g := yPf) (fn := Tryz.f50) yC yM eNil (by kernel_rfl) (by kernel_rfl) (by kernel_rfl) (fun x y h => let ⟨n, hn⟩ := yNy x.1 y h; ⟨yLp n, iNil, (yQH n x).trans hn⟩)
abbrev zX_a : Ty := .pair t100 (.pair t100 .unit)
abbrev zX_r : Ty := .pair t4 .unit
def zX_g : G := { T := T, E := [], muts := [], fz := [] }
def zX_k : List (List Nat) := [[0, 1, 5]]
def yPc (n : Nat) : Ann := { keep := zX_k, fuel := n, inl := [], deep := 0 }
def yGf (n : Nat) (r0 : List Fai → List Fai → Int → Option (Bool × Unit)) (a0_0 : List Fai) (b1_0 : List Fai) (i5_0 : Int) : Option (Bool × Unit) :=
 (bif decide (i5_0 < (↑a0_0.length : Int)) then (Option.bind (idx a0_0 i5_0) fun (v1 : Fai) => (Option.bind (idx b1_0 i5_0) fun (v2 : Fai) => (bif !eqV (Ty.str.pair ((Ty.int IntKind.i64).pair ((Ty.int IntKind.i64).pair ((Ty.int IntKind.i64).pair Ty.unit)))) v1 v2 then some (Bool.false, ()) else r0 a0_0 b1_0 (IntKind.i64.wrap (i5_0 + (1 : Int)))))) else some (Bool.true, ()))
def y9B (n : Nat)  (k : Nat) (a0_0 : List Fai) (b1_0 : List Fai) (i5_0 : Int) : Option (Bool × Unit) :=
 iter (fun r y => yGf n (fun a0_0 b1_0 i5_0 => r ((a0_0, (b1_0, (i5_0, ()))), ((), ()))) y.1.1 y.1.2.1 y.1.2.2.1) k ((a0_0, (b1_0, (i5_0, ()))), ((), ()))
def zX_m (n : Nat) (a : List Fai) (b : List Fai) : Option (Bool × Unit) :=
 (bif (↑a.length : Int) != (↑b.length : Int) then some (Bool.false, ()) else (y9B n n (a) (b) ((0 : Int))))
theorem yXE (n : Nat) (x : zX_a.den) : runF zX_g (yPc n) Tryz.f64 zX_a zX_r x = zX_m n x.1 x.2.1 := by kernel_rfl
def yP7 (a0_0 : List Fai) (b1_0 : List Fai) (i5_0 : Int) (v1 : Fai) : Option ((Bool × Unit) ⊕ Unit) :=
 (Option.bind (idx b1_0 i5_0) fun (v2 : Fai) => (bif !eqV (Ty.str.pair ((Ty.int IntKind.i64).pair ((Ty.int IntKind.i64).pair ((Ty.int IntKind.i64).pair Ty.unit)))) v1 v2 then (some (Sum.inl ((Bool.false, ())))) else (some (Sum.inr ()))))
def yMW (a0_0 : List Fai) (b1_0 : List Fai) : Option (Bool × Unit) :=
 (some ((Bool.true, ())))
theorem yEd (n : Nat) (hn : big ≤ n)  (a0_0 : List Fai) (b1_0 : List Fai) (hx : List.length (a0_0) < lenMax) : LeF some (yI (fun i__ e__ s__ => yP7 a0_0 b1_0 i__ e__) (fun s__ => yMW a0_0 b1_0) 0 (a0_0) ()) (y9B n n a0_0 b1_0 0) := by
 refine yJ (f := some) (W := fun k__ i__ s__ => y9B n k__ a0_0 b1_0 i__) (body := (fun i__ e__ s__ => yP7 a0_0 b1_0 i__ e__)) (fin := (fun s__ => yMW a0_0 b1_0)) (fun k__ i__ s__ => ?_) hx () n (by unfold big at hn; unfold lenMax at hx; omega)
 show LeF _ _ (yGf n (y9B n k__) a0_0 b1_0 i__)
 exact y0 (y7 fun v1 => (y7 fun v2 => (y0 (y3 rfl) (y3 rfl)))) (yo (y3 rfl))
def zX_M (a : List Fai) (b : List Fai) : Option (Bool × Unit) :=
 (bif (↑a.length : Int) != (↑b.length : Int) then (some ((Bool.false, ()))) else (bif decide (List.length (a) < lenMax) then yI (fun i__ e__ s__ => yP7 (a) (b) i__ e__) (fun s__ => yMW (a) (b)) 0 (a) () else none))
theorem yUs (a : List Fai) (b : List Fai) (y : Bool × Unit) (h : zX_M a b = some y) : ∃ n, zX_m n a b = some y :=
 ⟨big, LeF.top (show LeF some (zX_M a b) (zX_m big a b) from (fun (n : Nat) (hn : big ≤ n) => show LeF some (zX_M a b) (zX_m n a b) from (y0 (y3 rfl) (yK fun hx => by apply yEd n hn; exact hx))) big (Nat.le_refl _)) h⟩
def zX_e : Entry := { f := 64, args := zX_a, ress := zX_r, m := fun x => zX_M x.1 x.2.1 }
theorem yWO : FnOK Tryz.prog zX_e := yN (g := zX_g) (fn := Tryz.f64) yC yM eNil (by kernel_rfl) (by kernel_rfl) (by kernel_rfl) (fun x y h => let ⟨n, hn⟩ := yUs x.1 x.2.1 y h; ⟨yPc n, iNil, (yXE n x).trans hn⟩)
abbrev yNH : Ty := .pair t97 .unit
abbrev yRZ : Ty := .pair t100 .unit
def yTQ : G := { T := T, E := [], muts := [3], fz := [] }
def yXG : List (List Nat) := [[3, 6, 7, 8]]
def yLI (n : Nat) : Ann := { keep := yXG, fuel := n, inl := [], deep := 0 }
def yDT (n : Nat) (r0 : List Fai → Int → Int → List Fai → Option (List Fai × Unit)) (t6_0 : List Fai) (t7_0 : Int) (t8_0 : Int) (c0_0 : List Fai) : Option (List Fai × Unit) :=
 (bif decide (t8_0 < t7_0) then (Option.bind (idx t6_0 t8_0) fun (v1 : Fai) => (bif decide (c0_0.length + (1 : Nat) ≤ memMax) then r0 t6_0 t7_0 (IntKind.i64.wrap (t8_0 + (1 : Int))) (c0_0 ++ [(v1.1, v1.2.1, v1.2.2.1, v1.2.2.2.1, ())]) else none)) else some (c0_0, ()))
def y6D (n : Nat)  (k : Nat) (t6_0 : List Fai) (t7_0 : Int) (t8_0 : Int) (c0_0 : List Fai) : Option (List Fai × Unit) :=
 iter (fun r y => yDT n (fun t6_0 t7_0 t8_0 c0_0 => r ((t6_0, (t7_0, (t8_0, ()))), ((c0_0, ()), ()))) y.1.1 y.1.2.1 y.1.2.2.1 y.2.1.1) k ((t6_0, (t7_0, (t8_0, ()))), ((c0_0, ()), ()))
def yK0 (n : Nat) (l : List Fai) : Option (List Fai × Unit) :=
 (y6D n n (l) ((↑l.length : Int)) ((0 : Int)) ([]))
theorem ySN (n : Nat) (x : yNH.den) : runF yTQ (yLI n) Tryz.f65 yNH yRZ x = yK0 n x.1 := by kernel_rfl
def yHG (t6_0 : List Fai) (t8_0 : Int) (v1 : Fai) (c0_0 : List Fai) : Option ((List Fai × Unit) ⊕ (List Fai)) :=
 (bif decide (c0_0.length + (1 : Nat) ≤ memMax) then (some (Sum.inr (c0_0 ++ [(v1.1, v1.2.1, v1.2.2.1, v1.2.2.2.1, ())]))) else none)
def yID (t6_0 : List Fai) (c0_0 : List Fai) : Option (List Fai × Unit) :=
 (some ((c0_0, ())))
theorem yCs (n : Nat) (hn : big ≤ n)  (t6_0 : List Fai) (c0_0 : List Fai) (hx : List.length (t6_0) < lenMax) : LeF some (yI (fun i__ e__ s__ => yHG t6_0 i__ e__ s__) (fun s__ => yID t6_0 s__) 0 (t6_0) c0_0) (y6D n n t6_0 (List.length (t6_0) : Int) 0 c0_0) := by
 refine yJ (f := some) (W := fun k__ i__ s__ => y6D n k__ t6_0 (List.length (t6_0) : Int) i__ s__) (body := (fun i__ e__ s__ => yHG t6_0 i__ e__ s__)) (fin := (fun s__ => yID t6_0 s__)) (fun k__ i__ s__ => ?_) hx c0_0 n (by unfold big at hn; unfold lenMax at hx; omega)
 show LeF _ _ (yDT n (y6D n k__) t6_0 (List.length (t6_0) : Int) i__ s__)
 exact y0 (y7 fun v1 => (y0 (y3 rfl) yb)) (yo (y3 rfl))
def yIF (l : List Fai) : Option (List Fai × Unit) :=
 (bif decide (List.length (l) < lenMax) then yI (fun i__ e__ s__ => yHG (l) i__ e__ s__) (fun s__ => yID (l) s__) 0 (l) ([]) else none)
theorem yOJ (l : List Fai) (y : List Fai × Unit) (h : yIF l = some y) : ∃ n, yK0 n l = some y :=
 ⟨big, LeF.top (show LeF some (yIF l) (yK0 big l) from (fun (n : Nat) (hn : big ≤ n) => show LeF some (yIF l) (yK0 n l) from (yK fun hx => by apply yCs n hn; exact hx)) big (Nat.le_refl _)) h⟩
def z09_e : Entry := { f := 65, args := yNH, ress := yRZ, m := fun x => yIF x.1 }
theorem ySc : FnOK Tryz.prog z09_e := yN (g := yTQ) (fn := Tryz.f65) yC yM eNil (by kernel_rfl) (by kernel_rfl) (by kernel_rfl) (fun x y h => let ⟨n, hn⟩ := yOJ x.1 y h; ⟨yLI n, iNil, (ySN n x).trans hn⟩)
abbrev zk_a : Ty := .pair t25 (.pair t28 .unit)
abbrev zk_r : Ty := .pair t3 .unit
def zk_g : G := { T := T, E := [], muts := [], fz := [] }
def zk_k : List (List Nat) := [[1, 2, 5]]
def yPI (n : Nat) : Ann := { keep := zk_k, fuel := n, inl := [], deep := 0 }
def yIP (n : Nat) (r0 : List Int → Cha → Int → Option (Int × Unit)) (l1_0 : List Int) (c2_0 : Cha) (i5_0 : Int) : Option (Int × Unit) :=
 (bif decide (i5_0 < (↑l1_0.length : Int)) then (Option.bind (idx l1_0 i5_0) fun (v1 : Int) => (bif decide (v1 < (0 : Int)) then some ((10 : Int), ()) else (Option.bind (idx l1_0 i5_0) fun (v2 : Int) => (bif decide (v2 ≥ (↑c2_0.1.length : Int)) then some ((10 : Int), ()) else r0 l1_0 c2_0 (IntKind.i64.wrap (i5_0 + (1 : Int))))))) else some ((0 : Int), ()))
def y9f (n : Nat)  (k : Nat) (l1_0 : List Int) (c2_0 : Cha) (i5_0 : Int) : Option (Int × Unit) :=
 iter (fun r y => yIP n (fun l1_0 c2_0 i5_0 => r ((l1_0, (c2_0, (i5_0, ()))), ((), ()))) y.1.1 y.1.2.1 y.1.2.2.1) k ((l1_0, (c2_0, (i5_0, ()))), ((), ()))
def zk_m (n : Nat) (c : Cha) (l : List Int) : Option (Int × Unit) :=
 (bif decide ((↑l.length : Int) > (16 : Int)) then some ((5 : Int), ()) else (y9f n n (l) (c) ((0 : Int))))
theorem yWT (n : Nat) (x : zk_a.den) : runF zk_g (yPI n) Tryz.f70 zk_a zk_r x = zk_m n x.1 x.2.1 := by kernel_rfl
def yGy (l1_0 : List Int) (c2_0 : Cha) (i5_0 : Int) (v1 : Int) : Option ((Int × Unit) ⊕ Unit) :=
 (bif decide (v1 < (0 : Int)) then (some (Sum.inl (((10 : Int), ())))) else (Option.bind (idx l1_0 i5_0) fun (v2 : Int) => (bif decide (v2 ≥ (↑c2_0.1.length : Int)) then (some (Sum.inl (((10 : Int), ())))) else (some (Sum.inr ())))))
def yK7 (l1_0 : List Int) (c2_0 : Cha) : Option (Int × Unit) :=
 (some (((0 : Int), ())))
theorem yF4 (n : Nat) (hn : big ≤ n)  (l1_0 : List Int) (c2_0 : Cha) (hx : List.length (l1_0) < lenMax) : LeF some (yI (fun i__ e__ s__ => yGy l1_0 c2_0 i__ e__) (fun s__ => yK7 l1_0 c2_0) 0 (l1_0) ()) (y9f n n l1_0 c2_0 0) := by
 refine yJ (f := some) (W := fun k__ i__ s__ => y9f n k__ l1_0 c2_0 i__) (body := (fun i__ e__ s__ => yGy l1_0 c2_0 i__ e__)) (fin := (fun s__ => yK7 l1_0 c2_0)) (fun k__ i__ s__ => ?_) hx () n (by unfold big at hn; unfold lenMax at hx; omega)
 show LeF _ _ (yIP n (y9f n k__) l1_0 c2_0 i__)
 exact y0 (y7 fun v1 => (y0 (y3 rfl) (y7 fun v2 => (y0 (y3 rfl) (y3 rfl))))) (yo (y3 rfl))
def zk_M (c : Cha) (l : List Int) : Option (Int × Unit) :=
 (bif decide ((↑l.length : Int) > (16 : Int)) then (some (((5 : Int), ()))) else (bif decide (List.length (l) < lenMax) then yI (fun i__ e__ s__ => yGy (l) (c) i__ e__) (fun s__ => yK7 (l) (c)) 0 (l) () else none))
theorem yPV (c : Cha) (l : List Int) (y : Int × Unit) (h : zk_M c l = some y) : ∃ n, zk_m n c l = some y :=
 ⟨big, LeF.top (show LeF some (zk_M c l) (zk_m big c l) from (fun (n : Nat) (hn : big ≤ n) => show LeF some (zk_M c l) (zk_m n c l) from (y0 (y3 rfl) (yK fun hx => by apply yF4 n hn; exact hx))) big (Nat.le_refl _)) h⟩
def zk_e : Entry := { f := 70, args := zk_a, ress := zk_r, m := fun x => zk_M x.1 x.2.1 }
theorem yVn : FnOK Tryz.prog zk_e := yN (g := zk_g) (fn := Tryz.f70) yC yM eNil (by kernel_rfl) (by kernel_rfl) (by kernel_rfl) (fun x y h => let ⟨n, hn⟩ := yPV x.1 x.2.1 y h; ⟨yPI n, iNil, (yWT n x).trans hn⟩)
abbrev zv_a : Ty := .pair t50 (.pair t50 .unit)
abbrev zv_r : Ty := .pair t4 .unit
def zv_g : G := { T := T, E := [], muts := [], fz := [] }
def zv_k : List (List Nat) := [[0, 1, 5]]
def yRU (n : Nat) : Ann := { keep := zv_k, fuel := n, inl := [], deep := 0 }
def yGm (n : Nat) (r0 : List (List UInt8 × Int × Unit) → List (List UInt8 × Int × Unit) → Int → Option (Bool × Unit)) (a0_0 : List (List UInt8 × Int × Unit)) (b1_0 : List (List UInt8 × Int × Unit)) (i5_0 : Int) : Option (Bool × Unit) :=
 (bif decide (i5_0 < (↑a0_0.length : Int)) then (Option.bind (idx a0_0 i5_0) fun (v1 : List UInt8 × Int × Unit) => (Option.bind (idx b1_0 i5_0) fun (v2 : List UInt8 × Int × Unit) => (bif !eqV (Ty.str.pair ((Ty.int IntKind.i64).pair Ty.unit)) v1 v2 then some (Bool.false, ()) else r0 a0_0 b1_0 (IntKind.i64.wrap (i5_0 + (1 : Int)))))) else some (Bool.true, ()))
def yAB (n : Nat)  (k : Nat) (a0_0 : List (List UInt8 × Int × Unit)) (b1_0 : List (List UInt8 × Int × Unit)) (i5_0 : Int) : Option (Bool × Unit) :=
 iter (fun r y => yGm n (fun a0_0 b1_0 i5_0 => r ((a0_0, (b1_0, (i5_0, ()))), ((), ()))) y.1.1 y.1.2.1 y.1.2.2.1) k ((a0_0, (b1_0, (i5_0, ()))), ((), ()))
def zv_m (n : Nat) (a : List (List UInt8 × Int × Unit)) (b : List (List UInt8 × Int × Unit)) : Option (Bool × Unit) :=
 (bif (↑a.length : Int) != (↑b.length : Int) then some (Bool.false, ()) else (yAB n n (a) (b) ((0 : Int))))
theorem yWQ (n : Nat) (x : zv_a.den) : runF zv_g (yRU n) Tryz.f73 zv_a zv_r x = zv_m n x.1 x.2.1 := by kernel_rfl
def yNJ (a0_0 : List (List UInt8 × Int × Unit)) (b1_0 : List (List UInt8 × Int × Unit)) (i5_0 : Int) (v1 : List UInt8 × Int × Unit) : Option ((Bool × Unit) ⊕ Unit) :=
 (Option.bind (idx b1_0 i5_0) fun (v2 : List UInt8 × Int × Unit) => (bif !eqV (Ty.str.pair ((Ty.int IntKind.i64).pair Ty.unit)) v1 v2 then (some (Sum.inl ((Bool.false, ())))) else (some (Sum.inr ()))))
def yNj (a0_0 : List (List UInt8 × Int × Unit)) (b1_0 : List (List UInt8 × Int × Unit)) : Option (Bool × Unit) :=
 (some ((Bool.true, ())))
theorem yEc (n : Nat) (hn : big ≤ n)  (a0_0 : List (List UInt8 × Int × Unit)) (b1_0 : List (List UInt8 × Int × Unit)) (hx : List.length (a0_0) < lenMax) : LeF some (yI (fun i__ e__ s__ => yNJ a0_0 b1_0 i__ e__) (fun s__ => yNj a0_0 b1_0) 0 (a0_0) ()) (yAB n n a0_0 b1_0 0) := by
 refine yJ (f := some) (W := fun k__ i__ s__ => yAB n k__ a0_0 b1_0 i__) (body := (fun i__ e__ s__ => yNJ a0_0 b1_0 i__ e__)) (fin := (fun s__ => yNj a0_0 b1_0)) (fun k__ i__ s__ => ?_) hx () n (by unfold big at hn; unfold lenMax at hx; omega)
 show LeF _ _ (yGm n (yAB n k__) a0_0 b1_0 i__)
 exact y0 (y7 fun v1 => (y7 fun v2 => (y0 (y3 rfl) (y3 rfl)))) (yo (y3 rfl))
def zv_M (a : List (List UInt8 × Int × Unit)) (b : List (List UInt8 × Int × Unit)) : Option (Bool × Unit) :=
 (bif (↑a.length : Int) != (↑b.length : Int) then (some ((Bool.false, ()))) else (bif decide (List.length (a) < lenMax) then yI (fun i__ e__ s__ => yNJ (a) (b) i__ e__) (fun s__ => yNj (a) (b)) 0 (a) () else none))
theorem yQf (a : List (List UInt8 × Int × Unit)) (b : List (List UInt8 × Int × Unit)) (y : Bool × Unit) (h : zv_M a b = some y) : ∃ n, zv_m n a b = some y :=
 ⟨big, LeF.top (show LeF some (zv_M a b) (zv_m big a b) from (fun (n : Nat) (hn : big ≤ n) => show LeF some (zv_M a b) (zv_m n a b) from (y0 (y3 rfl) (yK fun hx => by apply yEc n hn; exact hx))) big (Nat.le_refl _)) h⟩
def zv_e : Entry := { f := 73, args := zv_a, ress := zv_r, m := fun x => zv_M x.1 x.2.1 }
theorem yX0 : FnOK Tryz.prog zv_e := yN (g := zv_g) (fn := Tryz.f73) yC yM eNil (by kernel_rfl) (by kernel_rfl) (by kernel_rfl) (fun x y h => let ⟨n, hn⟩ := yQf x.1 x.2.1 y h; ⟨yRU n, iNil, (yWQ n x).trans hn⟩)
abbrev yMx : Ty := .pair t57 .unit
abbrev yRP : Ty := .pair t50 .unit
def ySD : G := { T := T, E := [], muts := [3], fz := [] }
def yW2 : List (List Nat) := [[3, 6, 7, 8]]
def yLB (n : Nat) : Ann := { keep := yW2, fuel := n, inl := [], deep := 0 }
def yEU (n : Nat) (r0 : List (List UInt8 × Int × Unit) → Int → Int → List (List UInt8 × Int × Unit) → Option (List (List UInt8 × Int × Unit) × Unit)) (t6_0 : List (List UInt8 × Int × Unit)) (t7_0 : Int) (t8_0 : Int) (c0_0 : List (List UInt8 × Int × Unit)) : Option (List (List UInt8 × Int × Unit) × Unit) :=
 (bif decide (t8_0 < t7_0) then (Option.bind (idx t6_0 t8_0) fun (v1 : List UInt8 × Int × Unit) => (bif decide (c0_0.length + (1 : Nat) ≤ memMax) then r0 t6_0 t7_0 (IntKind.i64.wrap (t8_0 + (1 : Int))) (c0_0 ++ [(v1.1, v1.2.1, ())]) else none)) else some (c0_0, ()))
def y6c (n : Nat)  (k : Nat) (t6_0 : List (List UInt8 × Int × Unit)) (t7_0 : Int) (t8_0 : Int) (c0_0 : List (List UInt8 × Int × Unit)) : Option (List (List UInt8 × Int × Unit) × Unit) :=
 iter (fun r y => yEU n (fun t6_0 t7_0 t8_0 c0_0 => r ((t6_0, (t7_0, (t8_0, ()))), ((c0_0, ()), ()))) y.1.1 y.1.2.1 y.1.2.2.1 y.2.1.1) k ((t6_0, (t7_0, (t8_0, ()))), ((c0_0, ()), ()))
def yJL (n : Nat) (l : List (List UInt8 × Int × Unit)) : Option (List (List UInt8 × Int × Unit) × Unit) :=
 (y6c n n (l) ((↑l.length : Int)) ((0 : Int)) ([]))
theorem yUt (n : Nat) (x : yMx.den) : runF ySD (yLB n) Tryz.f74 yMx yRP x = yJL n x.1 := by kernel_rfl
def yGO (t6_0 : List (List UInt8 × Int × Unit)) (t8_0 : Int) (v1 : List UInt8 × Int × Unit) (c0_0 : List (List UInt8 × Int × Unit)) : Option ((List (List UInt8 × Int × Unit) × Unit) ⊕ (List (List UInt8 × Int × Unit))) :=
 (bif decide (c0_0.length + (1 : Nat) ≤ memMax) then (some (Sum.inr (c0_0 ++ [(v1.1, v1.2.1, ())]))) else none)
def yGj (t6_0 : List (List UInt8 × Int × Unit)) (c0_0 : List (List UInt8 × Int × Unit)) : Option (List (List UInt8 × Int × Unit) × Unit) :=
 (some ((c0_0, ())))
theorem yCa (n : Nat) (hn : big ≤ n)  (t6_0 : List (List UInt8 × Int × Unit)) (c0_0 : List (List UInt8 × Int × Unit)) (hx : List.length (t6_0) < lenMax) : LeF some (yI (fun i__ e__ s__ => yGO t6_0 i__ e__ s__) (fun s__ => yGj t6_0 s__) 0 (t6_0) c0_0) (y6c n n t6_0 (List.length (t6_0) : Int) 0 c0_0) := by
 refine yJ (f := some) (W := fun k__ i__ s__ => y6c n k__ t6_0 (List.length (t6_0) : Int) i__ s__) (body := (fun i__ e__ s__ => yGO t6_0 i__ e__ s__)) (fin := (fun s__ => yGj t6_0 s__)) (fun k__ i__ s__ => ?_) hx c0_0 n (by unfold big at hn; unfold lenMax at hx; omega)
 show LeF _ _ (yEU n (y6c n k__) t6_0 (List.length (t6_0) : Int) i__ s__)
 exact y0 (y7 fun v1 => (y0 (y3 rfl) yb)) (yo (y3 rfl))
def yI9 (l : List (List UInt8 × Int × Unit)) : Option (List (List UInt8 × Int × Unit) × Unit) :=
 (bif decide (List.length (l) < lenMax) then yI (fun i__ e__ s__ => yGO (l) i__ e__ s__) (fun s__ => yGj (l) s__) 0 (l) ([]) else none)
theorem yNW (l : List (List UInt8 × Int × Unit)) (y : List (List UInt8 × Int × Unit) × Unit) (h : yI9 l = some y) : ∃ n, yJL n l = some y :=
 ⟨big, LeF.top (show LeF some (yI9 l) (yJL big l) from (fun (n : Nat) (hn : big ≤ n) => show LeF some (yI9 l) (yJL n l) from (yK fun hx => by apply yCa n hn; exact hx)) big (Nat.le_refl _)) h⟩
def z0O_e : Entry := { f := 74, args := yMx, ress := yRP, m := fun x => yI9 x.1 }
theorem yQt : FnOK Tryz.prog z0O_e := yN (g := ySD) (fn := Tryz.f74) yC yM eNil (by kernel_rfl) (by kernel_rfl) (by kernel_rfl) (fun x y h => let ⟨n, hn⟩ := yNW x.1 y h; ⟨yLB n, iNil, (yUt n x).trans hn⟩)
abbrev yNu : Ty := .unit
abbrev yTA : Ty := .pair t35 .unit
def yRb : G := { T := T, E := [], muts := [], fz := [] }
def yXV : List (List Nat) := []
def yL2 (n : Nat) : Ann := { keep := yXV, fuel := n, inl := [], deep := 0 }
def yKS (n : Nat)  : Option (Cha × Unit) :=
 some (([([(119 : UInt8), (111 : UInt8), (114 : UInt8), (107 : UInt8)], (-1 : Int), (1 : Int), Bool.false, ()), ([(111 : UInt8), (112 : UInt8), (101 : UInt8), (110 : UInt8)], (0 : Int), (-1 : Int), Bool.false, ()), ([(108 : UInt8), (111 : UInt8), (119 : UInt8), (101 : UInt8), (114 : UInt8)], (0 : Int), (-1 : Int), Bool.true, ()), ([(99 : UInt8), (108 : UInt8), (111 : UInt8), (115 : UInt8), (101 : UInt8), (100 : UInt8)], (0 : Int), (-1 : Int), Bool.false, ()), ([(97 : UInt8), (108 : UInt8), (97 : UInt8), (114 : UInt8), (109 : UInt8)], (-1 : Int), (-1 : Int), Bool.false, ())], [((1 : Int), [(99 : UInt8), (108 : UInt8), (111 : UInt8), (115 : UInt8), (101 : UInt8)], (2 : Int), (1 : Int), (0 : Int), ()), ((2 : Int), [(100 : UInt8), (111 : UInt8), (110 : UInt8), (101 : UInt8)], (3 : Int), (0 : Int), (0 : Int), ()), ((3 : Int), [(111 : UInt8), (112 : UInt8), (101 : UInt8), (110 : UInt8)], (1 : Int), (0 : Int), (0 : Int), ()), ((0 : Int), [(102 : UInt8), (97 : UInt8), (105 : UInt8), (108 : UInt8)], (4 : Int), (0 : Int), (0 : Int), ())], ()), ())
theorem yTP (n : Nat) (x : yNu.den) : runF yRb (yL2 n) Tryz.f85 yNu yTA x = yKS n := by kernel_rfl
def z0m  : (Cha × Unit) :=
 (([([(119 : UInt8), (111 : UInt8), (114 : UInt8), (107 : UInt8)], (-1 : Int), (1 : Int), Bool.false, ()), ([(111 : UInt8), (112 : UInt8), (101 : UInt8), (110 : UInt8)], (0 : Int), (-1 : Int), Bool.false, ()), ([(108 : UInt8), (111 : UInt8), (119 : UInt8), (101 : UInt8), (114 : UInt8)], (0 : Int), (-1 : Int), Bool.true, ()), ([(99 : UInt8), (108 : UInt8), (111 : UInt8), (115 : UInt8), (101 : UInt8), (100 : UInt8)], (0 : Int), (-1 : Int), Bool.false, ()), ([(97 : UInt8), (108 : UInt8), (97 : UInt8), (114 : UInt8), (109 : UInt8)], (-1 : Int), (-1 : Int), Bool.false, ())], [((1 : Int), [(99 : UInt8), (108 : UInt8), (111 : UInt8), (115 : UInt8), (101 : UInt8)], (2 : Int), (1 : Int), (0 : Int), ()), ((2 : Int), [(100 : UInt8), (111 : UInt8), (110 : UInt8), (101 : UInt8)], (3 : Int), (0 : Int), (0 : Int), ()), ((3 : Int), [(111 : UInt8), (112 : UInt8), (101 : UInt8), (110 : UInt8)], (1 : Int), (0 : Int), (0 : Int), ()), ((0 : Int), [(102 : UInt8), (97 : UInt8), (105 : UInt8), (108 : UInt8)], (4 : Int), (0 : Int), (0 : Int), ())], ()), ())
abbrev yQz  : Option (Cha × Unit) := some (z0m)
theorem yNf  (y : Cha × Unit) (h : yQz = some y) : ∃ n, yKS n = some y :=
 ⟨0, by rw [← h]; show yKS 0 = some (z0m); unfold yKS z0m; first | rfl | (simp only [yG]; done) | (simp only [yG]; rfl)⟩
def z0m_e : Entry := { f := 85, args := yNu, ress := yTA, m := fun x => yQz, ex := some ⟨t35, yOR⟩ }
theorem yV8 : FnOK Tryz.prog z0m_e := yN (g := yRb) (fn := Tryz.f85) yC yM eNil (by kernel_rfl) (by kernel_rfl) (by kernel_rfl) (fun x y h => let ⟨n, hn⟩ := yNf y h; ⟨yL2 n, iNil, (yTP n x).trans hn⟩) rfl (fun q h => by cases h; exact yMT)
abbrev zn_a : Ty := .pair t35 (.pair t3 .unit)
abbrev zn_r : Ty := .pair t3 .unit
def zn_g : G := { T := T, E := [], muts := [], fz := [] }
def zn_k : List (List Nat) := [[1, 2]]
def yUO (n : Nat) : Ann := { keep := zn_k, fuel := n, inl := [], deep := 0 }
def yGZ (n : Nat) (r0 : Int → Cha → Option (Int × Unit)) (state1_0 : Int) (c2_0 : Cha) : Option (Int × Unit) :=
 (Option.bind (idx c2_0.1 state1_0) fun (v1 : Sta) => (bif v1.2.2.1 != (-1 : Int) then (Option.bind (idx c2_0.1 state1_0) fun (v2 : Sta) => r0 v2.2.2.1 c2_0) else some (state1_0, ())))
def yAE (n : Nat)  (k : Nat) (state1_0 : Int) (c2_0 : Cha) : Option (Int × Unit) :=
 iter (fun r y => yGZ n (fun state1_0 c2_0 => r ((state1_0, (c2_0, ())), ((), ()))) y.1.1 y.1.2.1) k ((state1_0, (c2_0, ())), ((), ()))
def zn_m (n : Nat) (c : Cha) (state : Int) : Option (Int × Unit) :=
 (yAE n n (state) (c))
theorem yX2 (n : Nat) (x : zn_a.den) : runF zn_g (yUO n) Tryz.f88 zn_a zn_r x = zn_m n x.1 x.2.1 := by kernel_rfl
def yIN (c2_0 : Cha) (state1_0 : Int) : Option ((Int × Unit) ⊕ (Int)) :=
 (Option.bind (idx c2_0.1 state1_0) fun (v1 : Sta) => (bif v1.2.2.1 != (-1 : Int) then (Option.bind (idx c2_0.1 state1_0) fun (v2 : Sta) => (some (Sum.inr (v2.2.2.1)))) else (some (Sum.inl ((state1_0, ()))))))
theorem yG8 (n : Nat) (hn : big ≤ n)  (c2_0 : Cha) (state1_0 : Int) : LeF some (y1m (fun s__ => yIN c2_0 s__) wMax state1_0) (yAE n n state1_0 c2_0) := by
 refine y4v (f := some) (W := fun k__ s__ => yAE n k__ s__ c2_0) (body := (fun s__ => yIN c2_0 s__)) (fun k__ s__ => ?_) wMax n state1_0 (by unfold big at hn; unfold wMax; omega)
 show LeF _ _ (yGZ n (yAE n k__) s__ c2_0)
 exact (y7 fun v1 => (y0 (y7 fun v2 => (y3 rfl)) (y3 rfl)))
def zn_M (c : Cha) (state : Int) : Option (Int × Unit) :=
 (y1m (fun s__ => yIN (c) s__) wMax (state))
theorem yQL (c : Cha) (state : Int) (y : Int × Unit) (h : zn_M c state = some y) : ∃ n, zn_m n c state = some y :=
 ⟨big, LeF.top (show LeF some (zn_M c state) (zn_m big c state) from (fun (n : Nat) (hn : big ≤ n) => show LeF some (zn_M c state) (zn_m n c state) from (by apply yG8 n hn)) big (Nat.le_refl _)) h⟩
def zn_e : Entry := { f := 88, args := zn_a, ress := zn_r, m := fun x => zn_M x.1 x.2.1 }
theorem yH8 : FnOK Tryz.prog zn_e := yN (g := zn_g) (fn := Tryz.f88) yC yM eNil (by kernel_rfl) (by kernel_rfl) (by kernel_rfl) (fun x y h => let ⟨n, hn⟩ := yQL x.1 x.2.1 y h; ⟨yUO n, iNil, (yX2 n x).trans hn⟩)
abbrev yNk : Ty := .pair t25 (.pair t3 (.pair t3 .unit))
abbrev ySf : Ty := .pair t3 (.pair t4 .unit)
def yTu : G := { T := T, E := [], muts := [], fz := [] }
def yX7 : List (List Nat) := [[1, 2, 3, 8, 9, 10]]
def yLh (n : Nat) : Ann := { keep := yX7, fuel := n, inl := [], deep := 0 }
def yD0 (n : Nat) (r0 : Int → Int → Cha → Int → Bool → Int → Option (Int × Bool × Unit)) (state1_0 : Int) (index2_0 : Int) (c3_0 : Cha) (n8_0 : Int) (is9_0 : Bool) (i10_0 : Int) : Option (Int × Bool × Unit) :=
 (bif decide (i10_0 < (↑c3_0.1.length : Int)) then (Option.bind (idx c3_0.1 i10_0) fun (v1 : Sta) => (bif v1.2.1 == state1_0 then (bif is9_0 then r0 state1_0 index2_0 c3_0 (IntKind.i64.wrap (n8_0 + (1 : Int))) Bool.true (IntKind.i64.wrap (i10_0 + (1 : Int))) else r0 state1_0 index2_0 c3_0 (IntKind.i64.wrap (n8_0 + (1 : Int))) (i10_0 == index2_0) (IntKind.i64.wrap (i10_0 + (1 : Int)))) else r0 state1_0 index2_0 c3_0 n8_0 is9_0 (IntKind.i64.wrap (i10_0 + (1 : Int))))) else some (n8_0, is9_0, ()))
def y6X (n : Nat)  (k : Nat) (state1_0 : Int) (index2_0 : Int) (c3_0 : Cha) (n8_0 : Int) (is9_0 : Bool) (i10_0 : Int) : Option (Int × Bool × Unit) :=
 iter (fun r y => yD0 n (fun state1_0 index2_0 c3_0 n8_0 is9_0 i10_0 => r ((state1_0, (index2_0, (c3_0, (n8_0, (is9_0, (i10_0, ())))))), ((), ()))) y.1.1 y.1.2.1 y.1.2.2.1 y.1.2.2.2.1 y.1.2.2.2.2.1 y.1.2.2.2.2.2.1) k ((state1_0, (index2_0, (c3_0, (n8_0, (is9_0, (i10_0, ())))))), ((), ()))
def yJt (n : Nat) (c : Cha) (state : Int) (index : Int) : Option (Int × Bool × Unit) :=
 (y6X n n (state) (index) (c) ((0 : Int)) (Bool.false) ((0 : Int)))
theorem yUQ (n : Nat) (x : yNk.den) : runF yTu (yLh n) Tryz.f90 yNk ySf x = yJt n x.1 x.2.1 x.2.2.1 := by kernel_rfl
def y8A (state1_0 : Int) (index2_0 : Int) (c3_0 : Cha) (i10_0 : Int) (v1 : Sta) (n8_0 : Int) (is9_0 : Bool) : Option ((Int × Bool × Unit) ⊕ (Int × Bool)) :=
 (bif v1.2.1 == state1_0 then (bif is9_0 then (some (Sum.inr ((IntKind.i64.wrap (n8_0 + (1 : Int))), (Bool.true)))) else (some (Sum.inr ((IntKind.i64.wrap (n8_0 + (1 : Int))), (i10_0 == index2_0))))) else (some (Sum.inr ((n8_0), (is9_0)))))
def yDQ (state1_0 : Int) (index2_0 : Int) (c3_0 : Cha) (n8_0 : Int) (is9_0 : Bool) : Option (Int × Bool × Unit) :=
 (some ((n8_0, is9_0, ())))
theorem yCY (n : Nat) (hn : big ≤ n)  (state1_0 : Int) (index2_0 : Int) (c3_0 : Cha) (n8_0 : Int) (is9_0 : Bool) (hx : List.length (c3_0.1) < lenMax) : LeF some (yI (fun i__ e__ s__ => y8A state1_0 index2_0 c3_0 i__ e__ s__.1 s__.2) (fun s__ => yDQ state1_0 index2_0 c3_0 s__.1 s__.2) 0 (c3_0.1) (n8_0, is9_0)) (y6X n n state1_0 index2_0 c3_0 n8_0 is9_0 0) := by
 refine yJ (f := some) (W := fun k__ i__ s__ => y6X n k__ state1_0 index2_0 c3_0 s__.1 s__.2 i__) (body := (fun i__ e__ s__ => y8A state1_0 index2_0 c3_0 i__ e__ s__.1 s__.2)) (fin := (fun s__ => yDQ state1_0 index2_0 c3_0 s__.1 s__.2)) (fun k__ i__ s__ => ?_) hx (n8_0, is9_0) n (by unfold big at hn; unfold lenMax at hx; omega)
 show LeF _ _ (yD0 n (y6X n k__) state1_0 index2_0 c3_0 s__.1 s__.2 i__)
 exact y0 (y7 fun v1 => (y0 (y0 (y3 rfl) (y3 rfl)) (y3 rfl))) (yo (y3 rfl))
def yAP (c : Cha) (state : Int) (index : Int) : Option (Int × Bool × Unit) :=
 (bif decide (List.length (c.1) < lenMax) then yI (fun i__ e__ s__ => y8A (state) (index) (c) i__ e__ s__.1 s__.2) (fun s__ => yDQ (state) (index) (c) s__.1 s__.2) 0 (c.1) (((0 : Int)), (Bool.false)) else none)
theorem yMX (c : Cha) (state : Int) (index : Int) (y : Int × Bool × Unit) (h : yAP c state index = some y) : ∃ n, yJt n c state index = some y :=
 ⟨big, LeF.top (show LeF some (yAP c state index) (yJt big c state index) from (fun (n : Nat) (hn : big ≤ n) => show LeF some (yAP c state index) (yJt n c state index) from (yK fun hx => by apply yCY n hn; exact hx)) big (Nat.le_refl _)) h⟩
def z0B_e : Entry := { f := 90, args := yNk, ress := ySf, m := fun x => yAP x.1 x.2.1 x.2.2.1 }
theorem yV6 : FnOK Tryz.prog z0B_e := yN (g := yTu) (fn := Tryz.f90) yC yM eNil (by kernel_rfl) (by kernel_rfl) (by kernel_rfl) (fun x y h => let ⟨n, hn⟩ := yMX x.1 x.2.1 x.2.2.1 y h; ⟨yLh n, iNil, (yUQ n x).trans hn⟩)
abbrev yNL : Ty := .pair t28 .unit
abbrev yRz : Ty := .pair t3 .unit
def yUH : G := { T := T, E := [], muts := [], fz := [] }
def yX3 : List (List Nat) := [[0, 3]]
def yLe (n : Nat) : Ann := { keep := yX3, fuel := n, inl := [], deep := 0 }
def yDS (n : Nat) (r0 : List Int → Int → Option (Int × Unit)) (l0_0 : List Int) (i3_0 : Int) : Option (Int × Unit) :=
 (bif decide (i3_0 < (↑l0_0.length : Int)) then (Option.bind (idx l0_0 i3_0) fun (v1 : Int) => (bif v1 != (0 : Int) then (Option.bind (idx l0_0 i3_0) fun (v2 : Int) => some (v2, ())) else r0 l0_0 (IntKind.i64.wrap (i3_0 + (1 : Int))))) else some ((0 : Int), ()))
def y6B (n : Nat)  (k : Nat) (l0_0 : List Int) (i3_0 : Int) : Option (Int × Unit) :=
 iter (fun r y => yDS n (fun l0_0 i3_0 => r ((l0_0, (i3_0, ())), ((), ()))) y.1.1 y.1.2.1) k ((l0_0, (i3_0, ())), ((), ()))
def yJu (n : Nat) (l : List Int) : Option (Int × Unit) :=
 (y6B n n (l) ((0 : Int)))
theorem yRJ (n : Nat) (x : yNL.den) : runF yUH (yLe n) Tryz.f91 yNL yRz x = yJu n x.1 := by kernel_rfl
def yAK (l0_0 : List Int) (i3_0 : Int) (v1 : Int) : Option ((Int × Unit) ⊕ Unit) :=
 (bif v1 != (0 : Int) then (Option.bind (idx l0_0 i3_0) fun (v2 : Int) => (some (Sum.inl ((v2, ()))))) else (some (Sum.inr ())))
def yBP (l0_0 : List Int) : Option (Int × Unit) :=
 (some (((0 : Int), ())))
theorem yBj (n : Nat) (hn : big ≤ n)  (l0_0 : List Int) (hx : List.length (l0_0) < lenMax) : LeF some (yI (fun i__ e__ s__ => yAK l0_0 i__ e__) (fun s__ => yBP l0_0) 0 (l0_0) ()) (y6B n n l0_0 0) := by
 refine yJ (f := some) (W := fun k__ i__ s__ => y6B n k__ l0_0 i__) (body := (fun i__ e__ s__ => yAK l0_0 i__ e__)) (fin := (fun s__ => yBP l0_0)) (fun k__ i__ s__ => ?_) hx () n (by unfold big at hn; unfold lenMax at hx; omega)
 show LeF _ _ (yDS n (y6B n k__) l0_0 i__)
 exact y0 (y7 fun v1 => (y0 (y7 fun v2 => (y3 rfl)) (y3 rfl))) (yo (y3 rfl))
def y6r (l : List Int) : Option (Int × Unit) :=
 (bif decide (List.length (l) < lenMax) then yI (fun i__ e__ s__ => yAK (l) i__ e__) (fun s__ => yBP (l)) 0 (l) () else none)
theorem yOI (l : List Int) (y : Int × Unit) (h : y6r l = some y) : ∃ n, yJu n l = some y :=
 ⟨big, LeF.top (show LeF some (y6r l) (yJu big l) from (fun (n : Nat) (hn : big ≤ n) => show LeF some (y6r l) (yJu n l) from (yK fun hx => by apply yBj n hn; exact hx)) big (Nat.le_refl _)) h⟩
def z0d_e : Entry := { f := 91, args := yNL, ress := yRz, m := fun x => y6r x.1 }
theorem yDy : FnOK Tryz.prog z0d_e := yN (g := yUH) (fn := Tryz.f91) yC yM eNil (by kernel_rfl) (by kernel_rfl) (by kernel_rfl) (fun x y h => let ⟨n, hn⟩ := yOI x.1 y h; ⟨yLe n, iNil, (yRJ n x).trans hn⟩)
abbrev yMY : Ty := .pair t4 (.pair t3 .unit)
abbrev yUU : Ty := .pair t3 .unit
def yU5 : G := { T := T, E := [], muts := [], fz := [] }
def yVX : List (List Nat) := []
def yLc (n : Nat) : Ann := { keep := yVX, fuel := n, inl := [], deep := 0 }
def yJO (n : Nat) (holds : Bool) (e : Int) : Option (Int × Unit) :=
 (bif holds then some (e, ()) else some ((0 : Int), ()))
theorem yS5 (n : Nat) (x : yMY.den) : runF yU5 (yLc n) Tryz.f92 yMY yUU x = yJO n x.1 x.2.1 := by kernel_rfl
def z0p (holds : Bool) (e : Int) : (Int × Unit) :=
 (bif holds then (e, ()) else ((0 : Int), ()))
abbrev yQX (holds : Bool) (e : Int) : Option (Int × Unit) := some (z0p holds e)
theorem yMI (holds : Bool) (e : Int) (y : Int × Unit) (h : yQX holds e = some y) : ∃ n, yJO n holds e = some y :=
 ⟨0, by rw [← h]; show yJO 0 holds e = some (z0p holds e); unfold yJO z0p; first | rfl | (simp only [yG]; done) | (simp only [yG]; rfl)⟩
def z0p_e : Entry := { f := 92, args := yMY, ress := yUU, m := fun x => yQX x.1 x.2.1 }
theorem yR4 : FnOK Tryz.prog z0p_e := yN (g := yU5) (fn := Tryz.f92) yC yM eNil (by kernel_rfl) (by kernel_rfl) (by kernel_rfl) (fun x y h => let ⟨n, hn⟩ := yMI x.1 x.2.1 y h; ⟨yLc n, iNil, (yS5 n x).trans hn⟩)
abbrev yO6 : Ty := .pair t25 (.pair t3 .unit)
abbrev yUk : Ty := .pair t4 .unit
def yPS : G := { T := T, E := [], muts := [], fz := [] }
def yXB : List (List Nat) := []
def yL9 (n : Nat) : Ann := { keep := yXB, fuel := n, inl := [], deep := 0 }
def yKN (n : Nat) (c : Cha) (i : Int) : Option (Bool × Unit) :=
 (Option.bind (idx c.1 i) fun (v0 : Sta) => some (v0.2.2.1 == (-1 : Int), ()))
theorem yQy (n : Nat) (x : yO6.den) : runF yPS (yL9 n) Tryz.f93 yO6 yUk x = yKN n x.1 x.2.1 := by kernel_rfl
def yG3 (c : Cha) (i : Int) : Option (Bool × Unit) := yKN 0 c i
theorem yNM (c : Cha) (i : Int) (y : Bool × Unit) (h : yG3 c i = some y) : ∃ n, yKN n c i = some y := ⟨0, h⟩
def z0S_e : Entry := { f := 93, args := yO6, ress := yUk, m := fun x => yG3 x.1 x.2.1 }
theorem yRW : FnOK Tryz.prog z0S_e := yN (g := yPS) (fn := Tryz.f93) yC yM eNil (by kernel_rfl) (by kernel_rfl) (by kernel_rfl) (fun x y h => let ⟨n, hn⟩ := yNM x.1 x.2.1 y h; ⟨yL9 n, iNil, (yQy n x).trans hn⟩)
abbrev yO8 : Ty := .pair t37 (.pair t9 .unit)
abbrev yR1 : Ty := .pair t4 .unit
def ySt : G := { T := T, E := [], muts := [], fz := [] }
def yWN : List (List Nat) := [[0, 1, 5]]
def yLb (n : Nat) : Ann := { keep := yWN, fuel := n, inl := [], deep := 0 }
def yDe (n : Nat) (r0 : List (List UInt8) → List UInt8 → Int → Option (Bool × Unit)) (l0_0 : List (List UInt8)) (s1_0 : List UInt8) (i5_0 : Int) : Option (Bool × Unit) :=
 (bif decide (i5_0 < (↑l0_0.length : Int)) then (Option.bind (idx l0_0 i5_0) fun (v1 : List UInt8) => (bif v1 == s1_0 then some (Bool.true, ()) else r0 l0_0 s1_0 (IntKind.i64.wrap (i5_0 + (1 : Int))))) else some (Bool.false, ()))
def y6E (n : Nat)  (k : Nat) (l0_0 : List (List UInt8)) (s1_0 : List UInt8) (i5_0 : Int) : Option (Bool × Unit) :=
 iter (fun r y => yDe n (fun l0_0 s1_0 i5_0 => r ((l0_0, (s1_0, (i5_0, ()))), ((), ()))) y.1.1 y.1.2.1 y.1.2.2.1) k ((l0_0, (s1_0, (i5_0, ()))), ((), ()))
def yKm (n : Nat) (l : List (List UInt8)) (s : List UInt8) : Option (Bool × Unit) :=
 (y6E n n (l) (s) ((0 : Int)))
theorem yUc (n : Nat) (x : yO8.den) : runF ySt (yLb n) Tryz.f94 yO8 yR1 x = yKm n x.1 x.2.1 := by kernel_rfl
def yDD (l0_0 : List (List UInt8)) (s1_0 : List UInt8) (i5_0 : Int) (v1 : List UInt8) : Option ((Bool × Unit) ⊕ Unit) :=
 (bif v1 == s1_0 then (some (Sum.inl ((Bool.true, ())))) else (some (Sum.inr ())))
def yHM (l0_0 : List (List UInt8)) (s1_0 : List UInt8) : Option (Bool × Unit) :=
 (some ((Bool.false, ())))
theorem yCt (n : Nat) (hn : big ≤ n)  (l0_0 : List (List UInt8)) (s1_0 : List UInt8) (hx : List.length (l0_0) < lenMax) : LeF some (yI (fun i__ e__ s__ => yDD l0_0 s1_0 i__ e__) (fun s__ => yHM l0_0 s1_0) 0 (l0_0) ()) (y6E n n l0_0 s1_0 0) := by
 refine yJ (f := some) (W := fun k__ i__ s__ => y6E n k__ l0_0 s1_0 i__) (body := (fun i__ e__ s__ => yDD l0_0 s1_0 i__ e__)) (fin := (fun s__ => yHM l0_0 s1_0)) (fun k__ i__ s__ => ?_) hx () n (by unfold big at hn; unfold lenMax at hx; omega)
 show LeF _ _ (yDe n (y6E n k__) l0_0 s1_0 i__)
 exact y0 (y7 fun v1 => (y0 (y3 rfl) (y3 rfl))) (yo (y3 rfl))
def yBF (l : List (List UInt8)) (s : List UInt8) : Option (Bool × Unit) :=
 (bif decide (List.length (l) < lenMax) then yI (fun i__ e__ s__ => yDD (l) (s) i__ e__) (fun s__ => yHM (l) (s)) 0 (l) () else none)
theorem yOO (l : List (List UInt8)) (s : List UInt8) (y : Bool × Unit) (h : yBF l s = some y) : ∃ n, yKm n l s = some y :=
 ⟨big, LeF.top (show LeF some (yBF l s) (yKm big l s) from (fun (n : Nat) (hn : big ≤ n) => show LeF some (yBF l s) (yKm n l s) from (yK fun hx => by apply yCt n hn; exact hx)) big (Nat.le_refl _)) h⟩
def z0F_e : Entry := { f := 94, args := yO8, ress := yR1, m := fun x => yBF x.1 x.2.1 }
theorem yV5 : FnOK Tryz.prog z0F_e := yN (g := ySt) (fn := Tryz.f94) yC yM eNil (by kernel_rfl) (by kernel_rfl) (by kernel_rfl) (fun x y h => let ⟨n, hn⟩ := yOO x.1 x.2.1 y h; ⟨yLb n, iNil, (yUc n x).trans hn⟩)
abbrev yOF : Ty := .pair t164 .unit
abbrev ySg : Ty := .pair t29 .unit
def yQT : G := { T := T, E := [], muts := [], fz := [] }
def yX4 : List (List Nat) := [[5, 6, 7]]
def yM4 (n : Nat) : Ann := { keep := yX4, fuel := n, inl := [], deep := 0 }
def yEZ (n : Nat) (r0 : List Int → Int → Int → Option (Int × Unit)) (t5_0 : List Int) (t6_0 : Int) (t7_0 : Int) : Option (Int × Unit) :=
 (bif decide (t7_0 < t6_0) then (Option.bind (idx t5_0 t7_0) fun (v1 : Int) => (bif v1 != (0 : Int) then some (v1, ()) else r0 t5_0 t6_0 (IntKind.i64.wrap (t7_0 + (1 : Int))))) else some ((0 : Int), ()))
def y61 (n : Nat)  (k : Nat) (t5_0 : List Int) (t6_0 : Int) (t7_0 : Int) : Option (Int × Unit) :=
 iter (fun r y => yEZ n (fun t5_0 t6_0 t7_0 => r ((t5_0, (t6_0, (t7_0, ()))), ((), ()))) y.1.1 y.1.2.1 y.1.2.2.1) k ((t5_0, (t6_0, (t7_0, ()))), ((), ()))
def yJ7 (n : Nat) (l : List Int) : Option (Int × Unit) :=
 (y61 n n (l) ((↑l.length : Int)) ((0 : Int)))
theorem ySh (n : Nat) (x : yOF.den) : runF yQT (yM4 n) Tryz.f95 yOF ySg x = yJ7 n x.1 := by kernel_rfl
def yDW (t5_0 : List Int) (t7_0 : Int) (v1 : Int) : Option ((Int × Unit) ⊕ Unit) :=
 (bif v1 != (0 : Int) then (some (Sum.inl ((v1, ())))) else (some (Sum.inr ())))
def yDH (t5_0 : List Int) : Option (Int × Unit) :=
 (some (((0 : Int), ())))
theorem yBr (n : Nat) (hn : big ≤ n)  (t5_0 : List Int) (hx : List.length (t5_0) < lenMax) : LeF some (yI (fun i__ e__ s__ => yDW t5_0 i__ e__) (fun s__ => yDH t5_0) 0 (t5_0) ()) (y61 n n t5_0 (List.length (t5_0) : Int) 0) := by
 refine yJ (f := some) (W := fun k__ i__ s__ => y61 n k__ t5_0 (List.length (t5_0) : Int) i__) (body := (fun i__ e__ s__ => yDW t5_0 i__ e__)) (fin := (fun s__ => yDH t5_0)) (fun k__ i__ s__ => ?_) hx () n (by unfold big at hn; unfold lenMax at hx; omega)
 show LeF _ _ (yEZ n (y61 n k__) t5_0 (List.length (t5_0) : Int) i__)
 exact y0 (y7 fun v1 => (y0 (y3 rfl) (y3 rfl))) (yo (y3 rfl))
def y0Q (l : List Int) : Option (Int × Unit) :=
 (bif decide (List.length (l) < lenMax) then yI (fun i__ e__ s__ => yDW (l) i__ e__) (fun s__ => yDH (l)) 0 (l) () else none)
theorem yMU (l : List Int) (y : Int × Unit) (h : y0Q l = some y) : ∃ n, yJ7 n l = some y :=
 ⟨big, LeF.top (show LeF some (y0Q l) (yJ7 big l) from (fun (n : Nat) (hn : big ≤ n) => show LeF some (y0Q l) (yJ7 n l) from (yK fun hx => by apply yBr n hn; exact hx)) big (Nat.le_refl _)) h⟩
def z0j_e : Entry := { f := 95, args := yOF, ress := ySg, m := fun x => y0Q x.1 }
theorem y1R : FnOK Tryz.prog z0j_e := yN (g := yQT) (fn := Tryz.f95) yC yM eNil (by kernel_rfl) (by kernel_rfl) (by kernel_rfl) (fun x y h => let ⟨n, hn⟩ := yMU x.1 y h; ⟨yM4 n, iNil, (ySh n x).trans hn⟩)
end
end Go.Tw
end
section
set_option linter.all false
set_option maxRecDepth 1000000
namespace Go.Tw
open Go.Vx Go.Vx.B Go.Proofs
noncomputable section
abbrev yPD : Ty := .pair t4 (.pair t29 .unit)
abbrev yUi : Ty := .pair t29 .unit
def yUA : G := { T := T, E := [], muts := [], fz := [] }
def yX1 : List (List Nat) := []
def yLT (n : Nat) : Ann := { keep := yX1, fuel := n, inl := [], deep := 0 }
def yKL (n : Nat) (holds : Bool) (e : Int) : Option (Int × Unit) :=
 (bif holds then some (e, ()) else some ((0 : Int), ()))
theorem yQO (n : Nat) (x : yPD.den) : runF yUA (yLT n) Tryz.f96 yPD yUi x = yKL n x.1 x.2.1 := by kernel_rfl
def z0v (holds : Bool) (e : Int) : (Int × Unit) :=
 (bif holds then (e, ()) else ((0 : Int), ()))
abbrev ySK (holds : Bool) (e : Int) : Option (Int × Unit) := some (z0v holds e)
theorem yMu (holds : Bool) (e : Int) (y : Int × Unit) (h : ySK holds e = some y) : ∃ n, yKL n holds e = some y :=
 ⟨0, by rw [← h]; show yKL 0 holds e = some (z0v holds e); unfold yKL z0v; first | rfl | (simp only [yG]; done) | (simp only [yG]; rfl)⟩
def z0v_e : Entry := { f := 96, args := yPD, ress := yUi, m := fun x => ySK x.1 x.2.1 }
theorem y41 : FnOK Tryz.prog z0v_e := yN (g := yUA) (fn := Tryz.f96) yC yM eNil (by kernel_rfl) (by kernel_rfl) (by kernel_rfl) (fun x y h => let ⟨n, hn⟩ := yMu x.1 x.2.1 y h; ⟨yLT n, iNil, (yQO n x).trans hn⟩)
abbrev z6_a : Ty := .pair t33 (.pair t163 .unit)
abbrev z6_r : Ty := .pair t164 .unit
def z6_g : G := { T := T, E := [], muts := [5], fz := [] }
def z6_k : List (List Nat) := [[1, 5, 8, 9, 10]]
def yRY (n : Nat) : Ann := { keep := z6_k, fuel := n, inl := [], deep := 0 }
def yHy (n : Nat) (r0 : (Tra × Unit → Option (Int × Unit)) → List Tra → Int → Int → List Int → Option (List Int × Unit)) (of1_0 : Tra × Unit → Option (Int × Unit)) (t8_0 : List Tra) (t9_0 : Int) (t10_0 : Int) (c0_0 : List Int) : Option (List Int × Unit) :=
 (bif decide (t10_0 < t9_0) then (Option.bind (idx t8_0 t10_0) fun (v1 : Tra) => (Option.bind (of1_0 ((v1.1, v1.2.1, v1.2.2.1, v1.2.2.2.1, v1.2.2.2.2.1, ()), ())) fun (v2 : Int × Unit) => (bif decide (c0_0.length + (1 : Nat) ≤ memMax) then r0 of1_0 t8_0 t9_0 (IntKind.i64.wrap (t10_0 + (1 : Int))) (c0_0 ++ [v2.1]) else none))) else some (c0_0, ()))
def y97 (n : Nat)  (k : Nat) (of1_0 : Tra × Unit → Option (Int × Unit)) (t8_0 : List Tra) (t9_0 : Int) (t10_0 : Int) (c0_0 : List Int) : Option (List Int × Unit) :=
 iter (fun r y => yHy n (fun of1_0 t8_0 t9_0 t10_0 c0_0 => r ((of1_0, (t8_0, (t9_0, (t10_0, ())))), ((c0_0, ()), ()))) y.1.1 y.1.2.1 y.1.2.2.1 y.1.2.2.2.1 y.2.1.1) k ((of1_0, (t8_0, (t9_0, (t10_0, ())))), ((c0_0, ()), ()))
def z6_m (n : Nat) (l : List Tra) (of : Tra × Unit → Option (Int × Unit)) : Option (List Int × Unit) :=
 (y97 n n (of) (l) ((↑l.length : Int)) ((0 : Int)) ([]))
theorem yWH (n : Nat) (x : z6_a.den) : runF z6_g (yRY n) Tryz.f100 z6_a z6_r x = z6_m n x.1 x.2.1 := by kernel_rfl
def yJq (of1_0 : Tra × Unit → Option (Int × Unit)) (t8_0 : List Tra) (t10_0 : Int) (v1 : Tra) (c0_0 : List Int) : Option ((List Int × Unit) ⊕ (List Int)) :=
 (Option.bind (of1_0 ((v1.1, v1.2.1, v1.2.2.1, v1.2.2.2.1, v1.2.2.2.2.1, ()), ())) fun (v2 : Int × Unit) => (bif decide (c0_0.length + (1 : Nat) ≤ memMax) then (some (Sum.inr (c0_0 ++ [v2.1]))) else none))
def yMG (of1_0 : Tra × Unit → Option (Int × Unit)) (t8_0 : List Tra) (c0_0 : List Int) : Option (List Int × Unit) :=
 (some ((c0_0, ())))
theorem yF7 (n : Nat) (hn : big ≤ n)  (of1_0 : Tra × Unit → Option (Int × Unit)) (t8_0 : List Tra) (c0_0 : List Int) (hx : List.length (t8_0) < lenMax) : LeF some (yI (fun i__ e__ s__ => yJq of1_0 t8_0 i__ e__ s__) (fun s__ => yMG of1_0 t8_0 s__) 0 (t8_0) c0_0) (y97 n n of1_0 t8_0 (List.length (t8_0) : Int) 0 c0_0) := by
 refine yJ (f := some) (W := fun k__ i__ s__ => y97 n k__ of1_0 t8_0 (List.length (t8_0) : Int) i__ s__) (body := (fun i__ e__ s__ => yJq of1_0 t8_0 i__ e__ s__)) (fin := (fun s__ => yMG of1_0 t8_0 s__)) (fun k__ i__ s__ => ?_) hx c0_0 n (by unfold big at hn; unfold lenMax at hx; omega)
 show LeF _ _ (yHy n (y97 n k__) of1_0 t8_0 (List.length (t8_0) : Int) i__ s__)
 exact y0 (y7 fun v1 => (y7 fun v2 => (y0 (y3 rfl) yb))) (yo (y3 rfl))
def z6_M (l : List Tra) (of : Tra × Unit → Option (Int × Unit)) : Option (List Int × Unit) :=
 (bif decide (List.length (l) < lenMax) then yI (fun i__ e__ s__ => yJq (of) (l) i__ e__ s__) (fun s__ => yMG (of) (l) s__) 0 (l) ([]) else none)
theorem yRR (l : List Tra) (of : Tra × Unit → Option (Int × Unit)) (y : List Int × Unit) (h : z6_M l of = some y) : ∃ n, z6_m n l of = some y :=
 ⟨big, LeF.top (show LeF some (z6_M l of) (z6_m big l of) from (fun (n : Nat) (hn : big ≤ n) => show LeF some (z6_M l of) (z6_m n l of) from (yK fun hx => by apply yF7 n hn; exact hx)) big (Nat.le_refl _)) h⟩
def z6_e : Entry := { f := 100, args := z6_a, ress := z6_r, m := fun x => z6_M x.1 x.2.1 }
theorem yWZ : FnOK Tryz.prog z6_e := yN (g := z6_g) (fn := Tryz.f100) yC yM eNil (by kernel_rfl) (by kernel_rfl) (by kernel_rfl) (fun x y h => let ⟨n, hn⟩ := yRR x.1 x.2.1 y h; ⟨yRY n, iNil, (yWH n x).trans hn⟩)
abbrev yNZ : Ty := .pair t25 (.pair t3 (.pair t53 .unit))
abbrev ySO : Ty := .pair t3 (.pair t110 .unit)
def yUK : G := { T := T, E := [], muts := [], fz := [] }
def yW9 : List (List Nat) := [[3, 5, 7, 8], [3, 5, 7, 8, 9, 10, 11]]
def yLP (n : Nat) : Ann := { keep := yW9, fuel := n, inl := [], deep := 0 }
def yDB (n : Nat) (r0 : Cha → List UInt8 × Int × Unit → Int → Int → List UInt8 → Int → Int → Int → Option (Int × Tra × Unit)) (r1 : Cha → List UInt8 × Int × Unit → Int → Int → Int → Int → List UInt8 → Int → Int → Int → Int → List UInt8 → Int → Int → Int → Option (Int × Tra × Unit)) (c3_1 : Cha) (in5_1 : List UInt8 × Int × Unit) (s8_1 : Int) (n9_1 : Int) (i11_1 : Int) (b0_0_1 : Int) (b0_1_1 : List UInt8) (b0_2_1 : Int) (b0_3_1 : Int) (b0_4_1 : Int) (b1_0_1 : Int) (b1_1_1 : List UInt8) (b1_2_1 : Int) (b1_3_1 : Int) (b1_4_1 : Int) : Option (Int × Tra × Unit) :=
 (bif decide (i11_1 < (↑c3_1.2.1.length : Int)) then (Option.bind (idx c3_1.2.1 i11_1) fun (v2 : Tra) => (bif v2.1 == s8_1 then (bif v2.2.1 == in5_1.1 then (bif yl IntKind.i64 Go.BinOp.and in5_1.2.1 v2.2.2.2.1 == v2.2.2.2.2.1 then r1 c3_1 in5_1 s8_1 (IntKind.i64.wrap (n9_1 + (1 : Int))) (IntKind.i64.wrap (i11_1 + (1 : Int))) b0_0_1 b0_1_1 b0_2_1 b0_3_1 b0_4_1 v2.1 v2.2.1 v2.2.2.1 v2.2.2.2.1 v2.2.2.2.2.1 else r1 c3_1 in5_1 s8_1 n9_1 (IntKind.i64.wrap (i11_1 + (1 : Int))) b0_0_1 b0_1_1 b0_2_1 b0_3_1 b0_4_1 b1_0_1 b1_1_1 b1_2_1 b1_3_1 b1_4_1) else r1 c3_1 in5_1 s8_1 n9_1 (IntKind.i64.wrap (i11_1 + (1 : Int))) b0_0_1 b0_1_1 b0_2_1 b0_3_1 b0_4_1 b1_0_1 b1_1_1 b1_2_1 b1_3_1 b1_4_1) else r1 c3_1 in5_1 s8_1 n9_1 (IntKind.i64.wrap (i11_1 + (1 : Int))) b0_0_1 b0_1_1 b0_2_1 b0_3_1 b0_4_1 b1_0_1 b1_1_1 b1_2_1 b1_3_1 b1_4_1)) else (bif decide (n9_1 > (0 : Int)) then some (n9_1, (b1_0_1, b1_1_1, b1_2_1, b1_3_1, b1_4_1, ()), ()) else (Option.bind (idx c3_1.1 s8_1) fun (v17 : Sta) => r0 c3_1 in5_1 v17.2.1 b0_0_1 b0_1_1 b0_2_1 b0_3_1 b0_4_1)))
def y63 (n : Nat) (r0 : Cha → List UInt8 × Int × Unit → Int → Int → List UInt8 → Int → Int → Int → Option (Int × Tra × Unit)) (k : Nat) (c3_1 : Cha) (in5_1 : List UInt8 × Int × Unit) (s8_1 : Int) (n9_1 : Int) (i11_1 : Int) (b0_0_1 : Int) (b0_1_1 : List UInt8) (b0_2_1 : Int) (b0_3_1 : Int) (b0_4_1 : Int) (b1_0_1 : Int) (b1_1_1 : List UInt8) (b1_2_1 : Int) (b1_3_1 : Int) (b1_4_1 : Int) : Option (Int × Tra × Unit) :=
 iter (fun r y => yDB n r0 (fun c3_1 in5_1 s8_1 n9_1 i11_1 b0_0_1 b0_1_1 b0_2_1 b0_3_1 b0_4_1 b1_0_1 b1_1_1 b1_2_1 b1_3_1 b1_4_1 => r ((c3_1, (in5_1, (s8_1, (n9_1, (i11_1, ()))))), (((b0_0_1, (b0_1_1, (b0_2_1, (b0_3_1, (b0_4_1, ()))))), ((b1_0_1, (b1_1_1, (b1_2_1, (b1_3_1, (b1_4_1, ()))))), ())), ()))) y.1.1 y.1.2.1 y.1.2.2.1 y.1.2.2.2.1 y.1.2.2.2.2.1 y.2.1.1.1 y.2.1.1.2.1 y.2.1.1.2.2.1 y.2.1.1.2.2.2.1 y.2.1.1.2.2.2.2.1 y.2.1.2.1.1 y.2.1.2.1.2.1 y.2.1.2.1.2.2.1 y.2.1.2.1.2.2.2.1 y.2.1.2.1.2.2.2.2.1) k ((c3_1, (in5_1, (s8_1, (n9_1, (i11_1, ()))))), (((b0_0_1, (b0_1_1, (b0_2_1, (b0_3_1, (b0_4_1, ()))))), ((b1_0_1, (b1_1_1, (b1_2_1, (b1_3_1, (b1_4_1, ()))))), ())), ()))
def yE8 (n : Nat) (r0 : Cha → List UInt8 × Int × Unit → Int → Int → List UInt8 → Int → Int → Int → Option (Int × Tra × Unit)) (c3_0 : Cha) (in5_0 : List UInt8 × Int × Unit) (s8_0 : Int) (b0_0_0 : Int) (b0_1_0 : List UInt8) (b0_2_0 : Int) (b0_3_0 : Int) (b0_4_0 : Int) : Option (Int × Tra × Unit) :=
 (bif decide (s8_0 ≥ (0 : Int)) then (y63 n r0 n (c3_0) (in5_0) (s8_0) ((0 : Int)) ((0 : Int)) (b0_0_0) (b0_1_0) (b0_2_0) (b0_3_0) (b0_4_0) ((0 : Int)) ([]) ((0 : Int)) ((0 : Int)) ((0 : Int))) else some ((0 : Int), ((0 : Int), [], (0 : Int), (0 : Int), (0 : Int), ()), ()))
def y6Q (n : Nat)  (k : Nat) (c3_0 : Cha) (in5_0 : List UInt8 × Int × Unit) (s8_0 : Int) (b0_0_0 : Int) (b0_1_0 : List UInt8) (b0_2_0 : Int) (b0_3_0 : Int) (b0_4_0 : Int) : Option (Int × Tra × Unit) :=
 iter (fun r y => yE8 n (fun c3_0 in5_0 s8_0 b0_0_0 b0_1_0 b0_2_0 b0_3_0 b0_4_0 => r ((c3_0, (in5_0, (s8_0, ()))), (((b0_0_0, (b0_1_0, (b0_2_0, (b0_3_0, (b0_4_0, ()))))), ()), ()))) y.1.1 y.1.2.1 y.1.2.2.1 y.2.1.1.1 y.2.1.1.2.1 y.2.1.1.2.2.1 y.2.1.1.2.2.2.1 y.2.1.1.2.2.2.2.1) k ((c3_0, (in5_0, (s8_0, ()))), (((b0_0_0, (b0_1_0, (b0_2_0, (b0_3_0, (b0_4_0, ()))))), ()), ()))
def yJv (n : Nat) (c : Cha) (leaf : Int) (p2 : List UInt8 × Int × Unit) : Option (Int × Tra × Unit) :=
 (y6Q n n (c) (p2) (leaf) ((0 : Int)) ([]) ((0 : Int)) ((0 : Int)) ((0 : Int)))
theorem yPx (n : Nat) (x : yNZ.den) : runF yUK (yLP n) Tryz.f106 yNZ ySO x = yJv n x.1 x.2.1 x.2.2.1 := by kernel_rfl
def y7z (c3_1 : Cha) (in5_1 : List UInt8 × Int × Unit) (s8_1 : Int) (b0_0_1 : Int) (b0_1_1 : List UInt8) (b0_2_1 : Int) (b0_3_1 : Int) (b0_4_1 : Int) (i11_1 : Int) (v2 : Tra) (n9_1 : Int) (b1_0_1 : Int) (b1_1_1 : List UInt8) (b1_2_1 : Int) (b1_3_1 : Int) (b1_4_1 : Int) : Option (((Int × Tra × Unit) ⊕ (Int)) ⊕ (Int × Int × List UInt8 × Int × Int × Int)) :=
 (bif v2.1 == s8_1 then (bif v2.2.1 == in5_1.1 then (bif yl IntKind.i64 Go.BinOp.and in5_1.2.1 v2.2.2.2.1 == v2.2.2.2.2.1 then (some (Sum.inr ((IntKind.i64.wrap (n9_1 + (1 : Int))), (v2.1), (v2.2.1), (v2.2.2.1), (v2.2.2.2.1), (v2.2.2.2.2.1)))) else (some (Sum.inr ((n9_1), (b1_0_1), (b1_1_1), (b1_2_1), (b1_3_1), (b1_4_1))))) else (some (Sum.inr ((n9_1), (b1_0_1), (b1_1_1), (b1_2_1), (b1_3_1), (b1_4_1))))) else (some (Sum.inr ((n9_1), (b1_0_1), (b1_1_1), (b1_2_1), (b1_3_1), (b1_4_1)))))
def y8C (c3_1 : Cha) (in5_1 : List UInt8 × Int × Unit) (s8_1 : Int) (b0_0_1 : Int) (b0_1_1 : List UInt8) (b0_2_1 : Int) (b0_3_1 : Int) (b0_4_1 : Int) (n9_1 : Int) (b1_0_1 : Int) (b1_1_1 : List UInt8) (b1_2_1 : Int) (b1_3_1 : Int) (b1_4_1 : Int) : Option ((Int × Tra × Unit) ⊕ (Int)) :=
 (bif decide (n9_1 > (0 : Int)) then (some (Sum.inl ((n9_1, (b1_0_1, b1_1_1, b1_2_1, b1_3_1, b1_4_1, ()), ())))) else (Option.bind (idx c3_1.1 s8_1) fun (v17 : Sta) => (some (Sum.inr (v17.2.1)))))
theorem yCW (n : Nat) (hn : big ≤ n)  (r0 : Cha → List UInt8 × Int × Unit → Int → Int → List UInt8 → Int → Int → Int → Option (Int × Tra × Unit)) (c3_1 : Cha) (in5_1 : List UInt8 × Int × Unit) (s8_1 : Int) (b0_0_1 : Int) (b0_1_1 : List UInt8) (b0_2_1 : Int) (b0_3_1 : Int) (b0_4_1 : Int) (n9_1 : Int) (b1_0_1 : Int) (b1_1_1 : List UInt8) (b1_2_1 : Int) (b1_3_1 : Int) (b1_4_1 : Int) (hx : List.length (c3_1.2.1) < lenMax) : LeF (elim some fun (s__ : (Int)) => r0 c3_1 in5_1 s__ b0_0_1 b0_1_1 b0_2_1 b0_3_1 b0_4_1) (yI (fun i__ e__ s__ => y7z c3_1 in5_1 s8_1 b0_0_1 b0_1_1 b0_2_1 b0_3_1 b0_4_1 i__ e__ s__.1 s__.2.1 s__.2.2.1 s__.2.2.2.1 s__.2.2.2.2.1 s__.2.2.2.2.2) (fun s__ => y8C c3_1 in5_1 s8_1 b0_0_1 b0_1_1 b0_2_1 b0_3_1 b0_4_1 s__.1 s__.2.1 s__.2.2.1 s__.2.2.2.1 s__.2.2.2.2.1 s__.2.2.2.2.2) 0 (c3_1.2.1) (n9_1, b1_0_1, b1_1_1, b1_2_1, b1_3_1, b1_4_1)) (y63 n r0 n c3_1 in5_1 s8_1 n9_1 0 b0_0_1 b0_1_1 b0_2_1 b0_3_1 b0_4_1 b1_0_1 b1_1_1 b1_2_1 b1_3_1 b1_4_1) := by
 refine yJ (f := (elim some fun (s__ : (Int)) => r0 c3_1 in5_1 s__ b0_0_1 b0_1_1 b0_2_1 b0_3_1 b0_4_1)) (W := fun k__ i__ s__ => y63 n r0 k__ c3_1 in5_1 s8_1 s__.1 i__ b0_0_1 b0_1_1 b0_2_1 b0_3_1 b0_4_1 s__.2.1 s__.2.2.1 s__.2.2.2.1 s__.2.2.2.2.1 s__.2.2.2.2.2) (body := (fun i__ e__ s__ => y7z c3_1 in5_1 s8_1 b0_0_1 b0_1_1 b0_2_1 b0_3_1 b0_4_1 i__ e__ s__.1 s__.2.1 s__.2.2.1 s__.2.2.2.1 s__.2.2.2.2.1 s__.2.2.2.2.2)) (fin := (fun s__ => y8C c3_1 in5_1 s8_1 b0_0_1 b0_1_1 b0_2_1 b0_3_1 b0_4_1 s__.1 s__.2.1 s__.2.2.1 s__.2.2.2.1 s__.2.2.2.2.1 s__.2.2.2.2.2)) (fun k__ i__ s__ => ?_) hx (n9_1, b1_0_1, b1_1_1, b1_2_1, b1_3_1, b1_4_1) n (by unfold big at hn; unfold lenMax at hx; omega)
 show LeF _ _ (yDB n r0 (y63 n r0 k__) c3_1 in5_1 s8_1 s__.1 i__ b0_0_1 b0_1_1 b0_2_1 b0_3_1 b0_4_1 s__.2.1 s__.2.2.1 s__.2.2.2.1 s__.2.2.2.2.1 s__.2.2.2.2.2)
 exact y0 (y7 fun v2 => (y0 (y0 (y0 (y3 rfl) (y3 rfl)) (y3 rfl)) (y3 rfl))) (yo (y0 (y3 rfl) (y7 fun v17 => (y3 rfl))))
def yBW (c3_0 : Cha) (in5_0 : List UInt8 × Int × Unit) (b0_0_0 : Int) (b0_1_0 : List UInt8) (b0_2_0 : Int) (b0_3_0 : Int) (b0_4_0 : Int) (s8_0 : Int) : Option ((Int × Tra × Unit) ⊕ (Int)) :=
 (bif decide (s8_0 ≥ (0 : Int)) then (bif decide (List.length (c3_0.2.1) < lenMax) then yI (fun i__ e__ s__ => y7z (c3_0) (in5_0) (s8_0) (b0_0_0) (b0_1_0) (b0_2_0) (b0_3_0) (b0_4_0) i__ e__ s__.1 s__.2.1 s__.2.2.1 s__.2.2.2.1 s__.2.2.2.2.1 s__.2.2.2.2.2) (fun s__ => y8C (c3_0) (in5_0) (s8_0) (b0_0_0) (b0_1_0) (b0_2_0) (b0_3_0) (b0_4_0) s__.1 s__.2.1 s__.2.2.1 s__.2.2.2.1 s__.2.2.2.2.1 s__.2.2.2.2.2) 0 (c3_0.2.1) (((0 : Int)), ((0 : Int)), ([]), ((0 : Int)), ((0 : Int)), ((0 : Int))) else none) else (some (Sum.inl (((0 : Int), ((0 : Int), [], (0 : Int), (0 : Int), (0 : Int), ()), ())))))
theorem yBn (n : Nat) (hn : big ≤ n)  (c3_0 : Cha) (in5_0 : List UInt8 × Int × Unit) (b0_0_0 : Int) (b0_1_0 : List UInt8) (b0_2_0 : Int) (b0_3_0 : Int) (b0_4_0 : Int) (s8_0 : Int) : LeF some (y1m (fun s__ => yBW c3_0 in5_0 b0_0_0 b0_1_0 b0_2_0 b0_3_0 b0_4_0 s__) wMax s8_0) (y6Q n n c3_0 in5_0 s8_0 b0_0_0 b0_1_0 b0_2_0 b0_3_0 b0_4_0) := by
 refine y4v (f := some) (W := fun k__ s__ => y6Q n k__ c3_0 in5_0 s__ b0_0_0 b0_1_0 b0_2_0 b0_3_0 b0_4_0) (body := (fun s__ => yBW c3_0 in5_0 b0_0_0 b0_1_0 b0_2_0 b0_3_0 b0_4_0 s__)) (fun k__ s__ => ?_) wMax n s8_0 (by unfold big at hn; unfold wMax; omega)
 show LeF _ _ (yE8 n (y6Q n k__) c3_0 in5_0 s__ b0_0_0 b0_1_0 b0_2_0 b0_3_0 b0_4_0)
 exact (y0 (yK fun hx => by apply yCW n hn; exact hx) (y3 rfl))
def yAQ (c : Cha) (leaf : Int) (p2 : List UInt8 × Int × Unit) : Option (Int × Tra × Unit) :=
 (y1m (fun s__ => yBW (c) (p2) ((0 : Int)) ([]) ((0 : Int)) ((0 : Int)) ((0 : Int)) s__) wMax (leaf))
theorem yPA (c : Cha) (leaf : Int) (p2 : List UInt8 × Int × Unit) (y : Int × Tra × Unit) (h : yAQ c leaf p2 = some y) : ∃ n, yJv n c leaf p2 = some y :=
 ⟨big, LeF.top (show LeF some (yAQ c leaf p2) (yJv big c leaf p2) from (fun (n : Nat) (hn : big ≤ n) => show LeF some (yAQ c leaf p2) (yJv n c leaf p2) from (by apply yBn n hn)) big (Nat.le_refl _)) h⟩
def z0g_e : Entry := { f := 106, args := yNZ, ress := ySO, m := fun x => yAQ x.1 x.2.1 x.2.2.1 }
theorem yTW : FnOK Tryz.prog z0g_e := yN (g := yUK) (fn := Tryz.f106) yC yM eNil (by kernel_rfl) (by kernel_rfl) (by kernel_rfl) (fun x y h => let ⟨n, hn⟩ := yPA x.1 x.2.1 x.2.2.1 y h; ⟨yLP n, iNil, (yPx n x).trans hn⟩)
abbrev zF_a : Ty := .pair t28 (.pair t162 .unit)
abbrev zF_r : Ty := .pair t164 .unit
def zF_g : G := { T := T, E := [], muts := [5], fz := [] }
def zF_k : List (List Nat) := [[1, 5, 8, 9, 10]]
def yQw (n : Nat) : Ann := { keep := zF_k, fuel := n, inl := [], deep := 0 }
def yIm (n : Nat) (r0 : (Int × Unit → Option (Int × Unit)) → List Int → Int → Int → List Int → Option (List Int × Unit)) (of1_0 : Int × Unit → Option (Int × Unit)) (t8_0 : List Int) (t9_0 : Int) (t10_0 : Int) (c0_0 : List Int) : Option (List Int × Unit) :=
 (bif decide (t10_0 < t9_0) then (Option.bind (idx t8_0 t10_0) fun (v1 : Int) => (Option.bind (of1_0 (v1, ())) fun (v2 : Int × Unit) => (bif decide (c0_0.length + (1 : Nat) ≤ memMax) then r0 of1_0 t8_0 t9_0 (IntKind.i64.wrap (t10_0 + (1 : Int))) (c0_0 ++ [v2.1]) else none))) else some (c0_0, ()))
def yA1 (n : Nat)  (k : Nat) (of1_0 : Int × Unit → Option (Int × Unit)) (t8_0 : List Int) (t9_0 : Int) (t10_0 : Int) (c0_0 : List Int) : Option (List Int × Unit) :=
 iter (fun r y => yIm n (fun of1_0 t8_0 t9_0 t10_0 c0_0 => r ((of1_0, (t8_0, (t9_0, (t10_0, ())))), ((c0_0, ()), ()))) y.1.1 y.1.2.1 y.1.2.2.1 y.1.2.2.2.1 y.2.1.1) k ((of1_0, (t8_0, (t9_0, (t10_0, ())))), ((c0_0, ()), ()))
def zF_m (n : Nat) (l : List Int) (of : Int × Unit → Option (Int × Unit)) : Option (List Int × Unit) :=
 (yA1 n n (of) (l) ((↑l.length : Int)) ((0 : Int)) ([]))
theorem yWS (n : Nat) (x : zF_a.den) : runF zF_g (yQw n) Tryz.f111 zF_a zF_r x = zF_m n x.1 x.2.1 := by kernel_rfl
def yMs (of1_0 : Int × Unit → Option (Int × Unit)) (t8_0 : List Int) (t10_0 : Int) (v1 : Int) (c0_0 : List Int) : Option ((List Int × Unit) ⊕ (List Int)) :=
 (Option.bind (of1_0 (v1, ())) fun (v2 : Int × Unit) => (bif decide (c0_0.length + (1 : Nat) ≤ memMax) then (some (Sum.inr (c0_0 ++ [v2.1]))) else none))
def yNO (of1_0 : Int × Unit → Option (Int × Unit)) (t8_0 : List Int) (c0_0 : List Int) : Option (List Int × Unit) :=
 (some ((c0_0, ())))
theorem yEu (n : Nat) (hn : big ≤ n)  (of1_0 : Int × Unit → Option (Int × Unit)) (t8_0 : List Int) (c0_0 : List Int) (hx : List.length (t8_0) < lenMax) : LeF some (yI (fun i__ e__ s__ => yMs of1_0 t8_0 i__ e__ s__) (fun s__ => yNO of1_0 t8_0 s__) 0 (t8_0) c0_0) (yA1 n n of1_0 t8_0 (List.length (t8_0) : Int) 0 c0_0) := by
 refine yJ (f := some) (W := fun k__ i__ s__ => yA1 n k__ of1_0 t8_0 (List.length (t8_0) : Int) i__ s__) (body := (fun i__ e__ s__ => yMs of1_0 t8_0 i__ e__ s__)) (fin := (fun s__ => yNO of1_0 t8_0 s__)) (fun k__ i__ s__ => ?_) hx c0_0 n (by unfold big at hn; unfold lenMax at hx; omega)
 show LeF _ _ (yIm n (yA1 n k__) of1_0 t8_0 (List.length (t8_0) : Int) i__ s__)
 exact y0 (y7 fun v1 => (y7 fun v2 => (y0 (y3 rfl) yb))) (yo (y3 rfl))
def zF_M (l : List Int) (of : Int × Unit → Option (Int × Unit)) : Option (List Int × Unit) :=
 (bif decide (List.length (l) < lenMax) then yI (fun i__ e__ s__ => yMs (of) (l) i__ e__ s__) (fun s__ => yNO (of) (l) s__) 0 (l) ([]) else none)
theorem yRA (l : List Int) (of : Int × Unit → Option (Int × Unit)) (y : List Int × Unit) (h : zF_M l of = some y) : ∃ n, zF_m n l of = some y :=
 ⟨big, LeF.top (show LeF some (zF_M l of) (zF_m big l of) from (fun (n : Nat) (hn : big ≤ n) => show LeF some (zF_M l of) (zF_m n l of) from (yK fun hx => by apply yEu n hn; exact hx)) big (Nat.le_refl _)) h⟩
def zF_e : Entry := { f := 111, args := zF_a, ress := zF_r, m := fun x => zF_M x.1 x.2.1 }
theorem yWl : FnOK Tryz.prog zF_e := yN (g := zF_g) (fn := Tryz.f111) yC yM eNil (by kernel_rfl) (by kernel_rfl) (by kernel_rfl) (fun x y h => let ⟨n, hn⟩ := yRA x.1 x.2.1 y h; ⟨yQw n, iNil, (yWS n x).trans hn⟩)
abbrev yOo : Ty := .pair t28 (.pair t181 .unit)
abbrev yPk : Ty := .pair t28 .unit
def ySI : G := { T := T, E := [], muts := [5], fz := [] }
def yWx : List (List Nat) := [[1, 5, 8, 9, 10]]
def yKz (n : Nat) : Ann := { keep := yWx, fuel := n, inl := [], deep := 0 }
def yDk (n : Nat) (r0 : (Int × Unit → Option (Bool × Unit)) → List Int → Int → Int → List Int → Option (List Int × Unit)) (holds1_0 : Int × Unit → Option (Bool × Unit)) (t8_0 : List Int) (t9_0 : Int) (t10_0 : Int) (c0_0 : List Int) : Option (List Int × Unit) :=
 (bif decide (t10_0 < t9_0) then (Option.bind (idx t8_0 t10_0) fun (v1 : Int) => (Option.bind (holds1_0 (v1, ())) fun (v2 : Bool × Unit) => (bif v2.1 then (bif decide (c0_0.length + (1 : Nat) ≤ memMax) then r0 holds1_0 t8_0 t9_0 (IntKind.i64.wrap (t10_0 + (1 : Int))) (c0_0 ++ [v1]) else none) else r0 holds1_0 t8_0 t9_0 (IntKind.i64.wrap (t10_0 + (1 : Int))) c0_0))) else some (c0_0, ()))
def y60 (n : Nat)  (k : Nat) (holds1_0 : Int × Unit → Option (Bool × Unit)) (t8_0 : List Int) (t9_0 : Int) (t10_0 : Int) (c0_0 : List Int) : Option (List Int × Unit) :=
 iter (fun r y => yDk n (fun holds1_0 t8_0 t9_0 t10_0 c0_0 => r ((holds1_0, (t8_0, (t9_0, (t10_0, ())))), ((c0_0, ()), ()))) y.1.1 y.1.2.1 y.1.2.2.1 y.1.2.2.2.1 y.2.1.1) k ((holds1_0, (t8_0, (t9_0, (t10_0, ())))), ((c0_0, ()), ()))
def yJb (n : Nat) (l : List Int) (holds : Int × Unit → Option (Bool × Unit)) : Option (List Int × Unit) :=
 (y60 n n (holds) (l) ((↑l.length : Int)) ((0 : Int)) ([]))
theorem yV7 (n : Nat) (x : yOo.den) : runF ySI (yKz n) Tryz.f112 yOo yPk x = yJb n x.1 x.2.1 := by kernel_rfl
def yGx (holds1_0 : Int × Unit → Option (Bool × Unit)) (t8_0 : List Int) (t10_0 : Int) (v1 : Int) (c0_0 : List Int) : Option ((List Int × Unit) ⊕ (List Int)) :=
 (Option.bind (holds1_0 (v1, ())) fun (v2 : Bool × Unit) => (bif v2.1 then (bif decide (c0_0.length + (1 : Nat) ≤ memMax) then (some (Sum.inr (c0_0 ++ [v1]))) else none) else (some (Sum.inr (c0_0)))))
def yI8 (holds1_0 : Int × Unit → Option (Bool × Unit)) (t8_0 : List Int) (c0_0 : List Int) : Option (List Int × Unit) :=
 (some ((c0_0, ())))
theorem yC4 (n : Nat) (hn : big ≤ n)  (holds1_0 : Int × Unit → Option (Bool × Unit)) (t8_0 : List Int) (c0_0 : List Int) (hx : List.length (t8_0) < lenMax) : LeF some (yI (fun i__ e__ s__ => yGx holds1_0 t8_0 i__ e__ s__) (fun s__ => yI8 holds1_0 t8_0 s__) 0 (t8_0) c0_0) (y60 n n holds1_0 t8_0 (List.length (t8_0) : Int) 0 c0_0) := by
 refine yJ (f := some) (W := fun k__ i__ s__ => y60 n k__ holds1_0 t8_0 (List.length (t8_0) : Int) i__ s__) (body := (fun i__ e__ s__ => yGx holds1_0 t8_0 i__ e__ s__)) (fin := (fun s__ => yI8 holds1_0 t8_0 s__)) (fun k__ i__ s__ => ?_) hx c0_0 n (by unfold big at hn; unfold lenMax at hx; omega)
 show LeF _ _ (yDk n (y60 n k__) holds1_0 t8_0 (List.length (t8_0) : Int) i__ s__)
 exact y0 (y7 fun v1 => (y7 fun v2 => (y0 (y0 (y3 rfl) yb) (y3 rfl)))) (yo (y3 rfl))
def yFG (l : List Int) (holds : Int × Unit → Option (Bool × Unit)) : Option (List Int × Unit) :=
 (bif decide (List.length (l) < lenMax) then yI (fun i__ e__ s__ => yGx (holds) (l) i__ e__ s__) (fun s__ => yI8 (holds) (l) s__) 0 (l) ([]) else none)
theorem yNQ (l : List Int) (holds : Int × Unit → Option (Bool × Unit)) (y : List Int × Unit) (h : yFG l holds = some y) : ∃ n, yJb n l holds = some y :=
 ⟨big, LeF.top (show LeF some (yFG l holds) (yJb big l holds) from (fun (n : Nat) (hn : big ≤ n) => show LeF some (yFG l holds) (yJb n l holds) from (yK fun hx => by apply yC4 n hn; exact hx)) big (Nat.le_refl _)) h⟩
def z0E_e : Entry := { f := 112, args := yOo, ress := yPk, m := fun x => yFG x.1 x.2.1 }
theorem yRS : FnOK Tryz.prog z0E_e := yN (g := ySI) (fn := Tryz.f112) yC yM eNil (by kernel_rfl) (by kernel_rfl) (by kernel_rfl) (fun x y h => let ⟨n, hn⟩ := yNQ x.1 x.2.1 y h; ⟨yKz n, iNil, (yV7 n x).trans hn⟩)
abbrev yNn : Ty := .pair t3 (.pair (.ref t3) .unit)
abbrev yUp : Ty := .pair t4 .unit
def yT0 : G := { T := T, E := [], muts := [], fz := [] }
def yWR : List (List Nat) := []
def yL3 (n : Nat) : Ann := { keep := yWR, fuel := n, inl := [], deep := 0 }
def yKb (n : Nat) (x1 : Int) (p1 : Int) : Option (Bool × Unit) :=
 some (x1 == p1, ())
theorem yS2 (n : Nat) (x : yNn.den) : runF yT0 (yL3 n) Tryz.f113 yNn yUp x = yKb n x.1 x.2.1 := by kernel_rfl
def z0X (x1 : Int) (p1 : Int) : (Bool × Unit) :=
 (x1 == p1, ())
abbrev yKF (x1 : Int) (p1 : Int) : Option (Bool × Unit) := some (z0X x1 p1)
theorem yOQ (x1 : Int) (p1 : Int) (y : Bool × Unit) (h : yKF x1 p1 = some y) : ∃ n, yKb n x1 p1 = some y :=
 ⟨0, by rw [← h]; show yKb 0 x1 p1 = some (z0X x1 p1); unfold yKb z0X; first | rfl | (simp only [yG]; done) | (simp only [yG]; rfl)⟩
def z0X_e : Entry := { f := 113, args := yNn, ress := yUp, m := fun x => yKF x.1 x.2.1 }
theorem yRi : FnOK Tryz.prog z0X_e := yN (g := yT0) (fn := Tryz.f113) yC yM eNil (by kernel_rfl) (by kernel_rfl) (by kernel_rfl) (fun x y h => let ⟨n, hn⟩ := yOQ x.1 x.2.1 y h; ⟨yL3 n, iNil, (yS2 n x).trans hn⟩)
abbrev zm_a : Ty := .pair t112 (.pair t167 .unit)
abbrev zm_r : Ty := .pair t4 .unit
def zm_g : G := { T := T, E := [], muts := [], fz := [] }
def zm_k : List (List Nat) := []
def yTx (n : Nat) : Ann := { keep := zm_k, fuel := n, inl := [], deep := 0 }
def zm_m (n : Nat) (p0 : Cas) (o : Int × Bool × Bool × Unit) : Option (Bool × Unit) :=
 some (o.2.2.1, ())
theorem yWr (n : Nat) (x : zm_a.den) : runF zm_g (yTx n) Tryz.f116 zm_a zm_r x = zm_m n x.1 x.2.1 := by kernel_rfl
def zm (p0 : Cas) (o : Int × Bool × Bool × Unit) : (Bool × Unit) :=
 (o.2.2.1, ())
abbrev zm_M (p0 : Cas) (o : Int × Bool × Bool × Unit) : Option (Bool × Unit) := some (zm p0 o)
theorem yTT (p0 : Cas) (o : Int × Bool × Bool × Unit) (y : Bool × Unit) (h : zm_M p0 o = some y) : ∃ n, zm_m n p0 o = some y :=
 ⟨0, by rw [← h]; show zm_m 0 p0 o = some (zm p0 o); unfold zm_m zm; first | rfl | (simp only [yG]; done) | (simp only [yG]; rfl)⟩
def zm_e : Entry := { f := 116, args := zm_a, ress := zm_r, m := fun x => zm_M x.1 x.2.1 }
theorem yXC : FnOK Tryz.prog zm_e := yN (g := zm_g) (fn := Tryz.f116) yC yM eNil (by kernel_rfl) (by kernel_rfl) (by kernel_rfl) (fun x y h => let ⟨n, hn⟩ := yTT x.1 x.2.1 y h; ⟨yTx n, iNil, (yWr n x).trans hn⟩)
abbrev yMC : Ty := .pair t3 .unit
abbrev yRd : Ty := .pair t184 .unit
def yTV : G := { T := T, E := [], muts := [], fz := [] }
def yWp : List (List Nat) := []
def yL8 (n : Nat) : Ann := { keep := yWp, fuel := n, inl := [], deep := 0 }
def yJx (n : Nat) (n1 : Int) : Option (List Bool × Unit) :=
 some ([yl IntKind.i64 Go.BinOp.and n1 (1 : Int) != (0 : Int), yl IntKind.i64 Go.BinOp.and n1 (2 : Int) != (0 : Int), yl IntKind.i64 Go.BinOp.and n1 (4 : Int) != (0 : Int), yl IntKind.i64 Go.BinOp.and n1 (8 : Int) != (0 : Int)], ())
theorem yTt (n : Nat) (x : yMC.den) : runF yTV (yL8 n) Tryz.f119 yMC yRd x = yJx n x.1 := by kernel_rfl
def z0Y (n1 : Int) : (List Bool × Unit) :=
 ([yl IntKind.i64 Go.BinOp.and n1 (1 : Int) != (0 : Int), yl IntKind.i64 Go.BinOp.and n1 (2 : Int) != (0 : Int), yl IntKind.i64 Go.BinOp.and n1 (4 : Int) != (0 : Int), yl IntKind.i64 Go.BinOp.and n1 (8 : Int) != (0 : Int)], ())
abbrev yTH (n1 : Int) : Option (List Bool × Unit) := some (z0Y n1)
theorem yOx (n1 : Int) (y : List Bool × Unit) (h : yTH n1 = some y) : ∃ n, yJx n n1 = some y :=
 ⟨0, by rw [← h]; show yJx 0 n1 = some (z0Y n1); unfold yJx z0Y; first | rfl | (simp only [yG]; done) | (simp only [yG]; rfl)⟩
def z0Y_e : Entry := { f := 119, args := yMC, ress := yRd, m := fun x => yTH x.1 }
theorem yLF : FnOK Tryz.prog z0Y_e := yN (g := yTV) (fn := Tryz.f119) yC yM eNil (by kernel_rfl) (by kernel_rfl) (by kernel_rfl) (fun x y h => let ⟨n, hn⟩ := yOx x.1 y h; ⟨yL8 n, iNil, (yTt n x).trans hn⟩)
abbrev yNe : Ty := .pair t3 .unit
abbrev yQa : Ty := .pair t97 .unit
def yR3 : G := { T := T, E := [], muts := [7], fz := [] }
def yWW : List (List Nat) := [[3, 8, 9], [3, 4, 8, 9, 17]]
def yLG (n : Nat) : Ann := { keep := yWW, fuel := n, inl := [], deep := 0 }
def yDa (n : Nat) (r0 : Int → Int → List Fai → Option (List Fai × Unit)) (r1 : Int → Int → Int → Int → List Fai → Option (List Fai × Unit)) (at4_1 : Int) (t8_1 : Int) (t9_1 : Int) (t17_1 : Int) (c0_1 : List Fai) : Option (List Fai × Unit) :=
 (bif decide (t17_1 < (8 : Int)) then (bif decide (c0_1.length + (1 : Nat) ≤ memMax) then r1 at4_1 t8_1 t9_1 (IntKind.i64.wrap (t17_1 + (1 : Int))) (c0_1 ++ [([(115 : UInt8), (116 : UInt8), (117 : UInt8), (99 : UInt8), (107 : UInt8)], at4_1, IntKind.i64.wrap (t17_1.tdiv (2 : Int)), t17_1.tmod (2 : Int), ())]) else none) else r0 t8_1 (IntKind.i64.wrap (t9_1 + (1 : Int))) c0_1)
def y6G (n : Nat) (r0 : Int → Int → List Fai → Option (List Fai × Unit)) (k : Nat) (at4_1 : Int) (t8_1 : Int) (t9_1 : Int) (t17_1 : Int) (c0_1 : List Fai) : Option (List Fai × Unit) :=
 iter (fun r y => yDa n r0 (fun at4_1 t8_1 t9_1 t17_1 c0_1 => r ((at4_1, (t8_1, (t9_1, (t17_1, ())))), ((c0_1, ()), ()))) y.1.1 y.1.2.1 y.1.2.2.1 y.1.2.2.2.1 y.2.1.1) k ((at4_1, (t8_1, (t9_1, (t17_1, ())))), ((c0_1, ()), ()))
def yDi (n : Nat) (r0 : Int → Int → List Fai → Option (List Fai × Unit)) (t8_0 : Int) (t9_0 : Int) (c0_0 : List Fai) : Option (List Fai × Unit) :=
 (bif decide (t9_0 < t8_0) then (bif decide (c0_0.length + (1 : Nat) ≤ memMax) then (y6G n r0 n (t9_0) (t8_0) (t9_0) ((0 : Int)) (c0_0 ++ [([(108 : UInt8), (111 : UInt8), (115 : UInt8), (116 : UInt8)], t9_0, (0 : Int), (0 : Int), ())])) else none) else some (c0_0, ()))
def y6L (n : Nat)  (k : Nat) (t8_0 : Int) (t9_0 : Int) (c0_0 : List Fai) : Option (List Fai × Unit) :=
 iter (fun r y => yDi n (fun t8_0 t9_0 c0_0 => r ((t8_0, (t9_0, ())), ((c0_0, ()), ()))) y.1.1 y.1.2.1 y.2.1.1) k ((t8_0, (t9_0, ())), ((c0_0, ()), ()))
def yKO (n : Nat) (y0P : Int) : Option (List Fai × Unit) :=
 (y6L n n (y0P) ((0 : Int)) ([([(110 : UInt8), (111 : UInt8), (110 : UInt8), (101 : UInt8)], (0 : Int), (0 : Int), (0 : Int), ())]))
theorem yPh (n : Nat) (x : yNe.den) : runF yR3 (yLG n) Tryz.f122 yNe yQa x = yKO n x.1 := by kernel_rfl
def yB0 (at4_1 : Int) (t8_1 : Int) (t9_1 : Int) (t17_1 : Int) (c0_1 : List Fai) : Option (((List Fai × Unit) ⊕ (List Fai)) ⊕ (List Fai)) :=
 (bif decide (c0_1.length + (1 : Nat) ≤ memMax) then (some (Sum.inr (c0_1 ++ [([(115 : UInt8), (116 : UInt8), (117 : UInt8), (99 : UInt8), (107 : UInt8)], at4_1, IntKind.i64.wrap (t17_1.tdiv (2 : Int)), t17_1.tmod (2 : Int), ())]))) else none)
def yDM (at4_1 : Int) (t8_1 : Int) (t9_1 : Int) (c0_1 : List Fai) : Option ((List Fai × Unit) ⊕ (List Fai)) :=
 (some (Sum.inr (c0_1)))
theorem yCT (n : Nat) (hn : big ≤ n)  (r0 : Int → Int → List Fai → Option (List Fai × Unit)) (at4_1 : Int) (t8_1 : Int) (t9_1 : Int) (c0_1 : List Fai) (hx : ((8 : Int)) ≤ (9223372036854775807 : Int)) : LeF (elim some fun (s__ : (List Fai)) => r0 t8_1 (IntKind.i64.wrap (t9_1 + 1)) s__) (y00 (fun i__ s__ => yB0 at4_1 t8_1 t9_1 i__ s__) (fun s__ => yDM at4_1 t8_1 t9_1 s__) (((8 : Int)) - 0).toNat 0 c0_1) (y6G n r0 n at4_1 t8_1 t9_1 0 c0_1) := by
 refine y1S (f := (elim some fun (s__ : (List Fai)) => r0 t8_1 (IntKind.i64.wrap (t9_1 + 1)) s__)) (W := fun k__ i__ s__ => y6G n r0 k__ at4_1 t8_1 t9_1 i__ s__) (body := (fun i__ s__ => yB0 at4_1 t8_1 t9_1 i__ s__)) (fin := (fun s__ => yDM at4_1 t8_1 t9_1 s__)) (fun k__ i__ s__ => ?_) hx c0_1 n 0 (by decide) (by unfold big at hn; omega)
 show LeF _ _ (yDa n r0 (y6G n r0 k__) at4_1 t8_1 t9_1 i__ s__)
 exact y0 (y0 (y3 rfl) yb) (yo (y3 rfl))
def y8P (t8_0 : Int) (t9_0 : Int) (c0_0 : List Fai) : Option ((List Fai × Unit) ⊕ (List Fai)) :=
 (bif decide (c0_0.length + (1 : Nat) ≤ memMax) then (bif decide (((8 : Int)) ≤ (9223372036854775807 : Int)) then y00 (fun i__ s__ => yB0 (t9_0) (t8_0) (t9_0) i__ s__) (fun s__ => yDM (t9_0) (t8_0) (t9_0) s__) (((8 : Int)) - 0).toNat 0 (c0_0 ++ [([(108 : UInt8), (111 : UInt8), (115 : UInt8), (116 : UInt8)], t9_0, (0 : Int), (0 : Int), ())]) else none) else none)
def yAZ (t8_0 : Int) (c0_0 : List Fai) : Option (List Fai × Unit) :=
 (some ((c0_0, ())))
theorem yCr (n : Nat) (hn : big ≤ n)  (t8_0 : Int) (c0_0 : List Fai) (hx : (t8_0) ≤ (9223372036854775807 : Int)) : LeF some (y00 (fun i__ s__ => y8P t8_0 i__ s__) (fun s__ => yAZ t8_0 s__) ((t8_0) - 0).toNat 0 c0_0) (y6L n n t8_0 0 c0_0) := by
 refine y1S (f := some) (W := fun k__ i__ s__ => y6L n k__ t8_0 i__ s__) (body := (fun i__ s__ => y8P t8_0 i__ s__)) (fin := (fun s__ => yAZ t8_0 s__)) (fun k__ i__ s__ => ?_) hx c0_0 n 0 (by decide) (by unfold big at hn; omega)
 show LeF _ _ (yDi n (y6L n k__) t8_0 i__ s__)
 exact y0 (y0 (yK fun hx => by apply yCT n hn; exact hx) yb) (yo (y3 rfl))
def y9H (y0P : Int) : Option (List Fai × Unit) :=
 (bif decide ((y0P) ≤ (9223372036854775807 : Int)) then y00 (fun i__ s__ => y8P (y0P) i__ s__) (fun s__ => yAZ (y0P) s__) ((y0P) - 0).toNat 0 ([([(110 : UInt8), (111 : UInt8), (110 : UInt8), (101 : UInt8)], (0 : Int), (0 : Int), (0 : Int), ())]) else none)
theorem yNS (y0P : Int) (y : List Fai × Unit) (h : y9H y0P = some y) : ∃ n, yKO n y0P = some y :=
 ⟨big, LeF.top (show LeF some (y9H y0P) (yKO big y0P) from (fun (n : Nat) (hn : big ≤ n) => show LeF some (y9H y0P) (yKO n y0P) from (yK fun hx => by apply yCr n hn; exact hx)) big (Nat.le_refl _)) h⟩
def z0D_e : Entry := { f := 122, args := yNe, ress := yQa, m := fun x => y9H x.1 }
theorem yLX : FnOK Tryz.prog z0D_e := yN (g := yR3) (fn := Tryz.f122) yC yM eNil (by kernel_rfl) (by kernel_rfl) (by kernel_rfl) (fun x y h => let ⟨n, hn⟩ := yNS x.1 y h; ⟨yLG n, iNil, (yPh n x).trans hn⟩)
abbrev yMK : Ty := .pair t125 .unit
abbrev yPm : Ty := .pair t4 .unit
def yRm : G := { T := T, E := [], muts := [], fz := [] }
def yVj : List (List Nat) := []
def yLH (n : Nat) : Ann := { keep := yVj, fuel := n, inl := [], deep := 0 }
def yKi (n : Nat) (g : Goa) : Option (Bool × Unit) :=
 (bif decide ((↑g.1.length : Int) ≤ (17 : Int)) then some (decide ((↑g.2.1.length : Int) ≤ (17 : Int)), ()) else some (Bool.false, ()))
theorem yQh (n : Nat) (x : yMK.den) : runF yRm (yLH n) Tryz.f126 yMK yPm x = yKi n x.1 := by kernel_rfl
def z04 (g : Goa) : (Bool × Unit) :=
 (bif decide ((↑g.1.length : Int) ≤ (17 : Int)) then (decide ((↑g.2.1.length : Int) ≤ (17 : Int)), ()) else (Bool.false, ()))
abbrev yTi (g : Goa) : Option (Bool × Unit) := some (z04 g)
theorem yNX (g : Goa) (y : Bool × Unit) (h : yTi g = some y) : ∃ n, yKi n g = some y :=
 ⟨0, by rw [← h]; show yKi 0 g = some (z04 g); unfold yKi z04; first | rfl | (simp only [yG]; done) | (simp only [yG]; rfl)⟩
def z04_e : Entry := { f := 126, args := yMK, ress := yPm, m := fun x => yTi x.1 }
theorem yRo : FnOK Tryz.prog z04_e := yN (g := yRm) (fn := Tryz.f126) yC yM eNil (by kernel_rfl) (by kernel_rfl) (by kernel_rfl) (fun x y h => let ⟨n, hn⟩ := yNX x.1 y h; ⟨yLH n, iNil, (yQh n x).trans hn⟩)
abbrev zB_a : Ty := .pair t202 (.pair t208 .unit)
abbrev zB_r : Ty := .pair t28 .unit
def zB_g : G := { T := T, E := [], muts := [5], fz := [] }
def zB_k : List (List Nat) := [[1, 5, 8, 9, 10]]
def yPr (n : Nat) : Ann := { keep := zB_k, fuel := n, inl := [], deep := 0 }
def yGJ (n : Nat) (r0 : ((Sta × Int × Unit) × Unit → Option (Int × Unit)) → List (Sta × Int × Unit) → Int → Int → List Int → Option (List Int × Unit)) (of1_0 : (Sta × Int × Unit) × Unit → Option (Int × Unit)) (t8_0 : List (Sta × Int × Unit)) (t9_0 : Int) (t10_0 : Int) (c0_0 : List Int) : Option (List Int × Unit) :=
 (bif decide (t10_0 < t9_0) then (Option.bind (idx t8_0 t10_0) fun (v1 : Sta × Int × Unit) => (Option.bind (of1_0 (((v1.1.1, v1.1.2.1, v1.1.2.2.1, v1.1.2.2.2.1, ()), v1.2.1, ()), ())) fun (v2 : Int × Unit) => (bif decide (c0_0.length + (1 : Nat) ≤ memMax) then r0 of1_0 t8_0 t9_0 (IntKind.i64.wrap (t10_0 + (1 : Int))) (c0_0 ++ [v2.1]) else none))) else some (c0_0, ()))
def y99 (n : Nat)  (k : Nat) (of1_0 : (Sta × Int × Unit) × Unit → Option (Int × Unit)) (t8_0 : List (Sta × Int × Unit)) (t9_0 : Int) (t10_0 : Int) (c0_0 : List Int) : Option (List Int × Unit) :=
 iter (fun r y => yGJ n (fun of1_0 t8_0 t9_0 t10_0 c0_0 => r ((of1_0, (t8_0, (t9_0, (t10_0, ())))), ((c0_0, ()), ()))) y.1.1 y.1.2.1 y.1.2.2.1 y.1.2.2.2.1 y.2.1.1) k ((of1_0, (t8_0, (t9_0, (t10_0, ())))), ((c0_0, ()), ()))
def zB_m (n : Nat) (l : List (Sta × Int × Unit)) (of : (Sta × Int × Unit) × Unit → Option (Int × Unit)) : Option (List Int × Unit) :=
 (y99 n n (of) (l) ((↑l.length : Int)) ((0 : Int)) ([]))
theorem yVv (n : Nat) (x : zB_a.den) : runF zB_g (yPr n) Tryz.f131 zB_a zB_r x = zB_m n x.1 x.2.1 := by kernel_rfl
def yNv (of1_0 : (Sta × Int × Unit) × Unit → Option (Int × Unit)) (t8_0 : List (Sta × Int × Unit)) (t10_0 : Int) (v1 : Sta × Int × Unit) (c0_0 : List Int) : Option ((List Int × Unit) ⊕ (List Int)) :=
 (Option.bind (of1_0 (((v1.1.1, v1.1.2.1, v1.1.2.2.1, v1.1.2.2.2.1, ()), v1.2.1, ()), ())) fun (v2 : Int × Unit) => (bif decide (c0_0.length + (1 : Nat) ≤ memMax) then (some (Sum.inr (c0_0 ++ [v2.1]))) else none))
def yNo (of1_0 : (Sta × Int × Unit) × Unit → Option (Int × Unit)) (t8_0 : List (Sta × Int × Unit)) (c0_0 : List Int) : Option (List Int × Unit) :=
 (some ((c0_0, ())))
theorem yFp (n : Nat) (hn : big ≤ n)  (of1_0 : (Sta × Int × Unit) × Unit → Option (Int × Unit)) (t8_0 : List (Sta × Int × Unit)) (c0_0 : List Int) (hx : List.length (t8_0) < lenMax) : LeF some (yI (fun i__ e__ s__ => yNv of1_0 t8_0 i__ e__ s__) (fun s__ => yNo of1_0 t8_0 s__) 0 (t8_0) c0_0) (y99 n n of1_0 t8_0 (List.length (t8_0) : Int) 0 c0_0) := by
 refine yJ (f := some) (W := fun k__ i__ s__ => y99 n k__ of1_0 t8_0 (List.length (t8_0) : Int) i__ s__) (body := (fun i__ e__ s__ => yNv of1_0 t8_0 i__ e__ s__)) (fin := (fun s__ => yNo of1_0 t8_0 s__)) (fun k__ i__ s__ => ?_) hx c0_0 n (by unfold big at hn; unfold lenMax at hx; omega)
 show LeF _ _ (yGJ n (y99 n k__) of1_0 t8_0 (List.length (t8_0) : Int) i__ s__)
 exact y0 (y7 fun v1 => (y7 fun v2 => (y0 (y3 rfl) yb))) (yo (y3 rfl))
def zB_M (l : List (Sta × Int × Unit)) (of : (Sta × Int × Unit) × Unit → Option (Int × Unit)) : Option (List Int × Unit) :=
 (bif decide (List.length (l) < lenMax) then yI (fun i__ e__ s__ => yNv (of) (l) i__ e__ s__) (fun s__ => yNo (of) (l) s__) 0 (l) ([]) else none)
theorem ySd (l : List (Sta × Int × Unit)) (of : (Sta × Int × Unit) × Unit → Option (Int × Unit)) (y : List Int × Unit) (h : zB_M l of = some y) : ∃ n, zB_m n l of = some y :=
 ⟨big, LeF.top (show LeF some (zB_M l of) (zB_m big l of) from (fun (n : Nat) (hn : big ≤ n) => show LeF some (zB_M l of) (zB_m n l of) from (yK fun hx => by apply yFp n hn; exact hx)) big (Nat.le_refl _)) h⟩
def zB_e : Entry := { f := 131, args := zB_a, ress := zB_r, m := fun x => zB_M x.1 x.2.1 }
theorem yXS : FnOK Tryz.prog zB_e := yN (g := zB_g) (fn := Tryz.f131) yC yM eNil (by kernel_rfl) (by kernel_rfl) (by kernel_rfl) (fun x y h => let ⟨n, hn⟩ := ySd x.1 x.2.1 y h; ⟨yPr n, iNil, (yVv n x).trans hn⟩)
abbrev zL_a : Ty := .pair t202 (.pair t207 .unit)
abbrev zL_r : Ty := .pair t202 .unit
def zL_g : G := { T := T, E := [], muts := [5], fz := [] }
def zL_k : List (List Nat) := [[1, 5, 8, 9, 10]]
def yRf (n : Nat) : Ann := { keep := zL_k, fuel := n, inl := [], deep := 0 }
def yIS (n : Nat) (r0 : ((Sta × Int × Unit) × Unit → Option (Bool × Unit)) → List (Sta × Int × Unit) → Int → Int → List (Sta × Int × Unit) → Option (List (Sta × Int × Unit) × Unit)) (holds1_0 : (Sta × Int × Unit) × Unit → Option (Bool × Unit)) (t8_0 : List (Sta × Int × Unit)) (t9_0 : Int) (t10_0 : Int) (c0_0 : List (Sta × Int × Unit)) : Option (List (Sta × Int × Unit) × Unit) :=
 (bif decide (t10_0 < t9_0) then (Option.bind (idx t8_0 t10_0) fun (v1 : Sta × Int × Unit) => (Option.bind (holds1_0 (((v1.1.1, v1.1.2.1, v1.1.2.2.1, v1.1.2.2.2.1, ()), v1.2.1, ()), ())) fun (v2 : Bool × Unit) => (bif v2.1 then (bif decide (c0_0.length + (1 : Nat) ≤ memMax) then r0 holds1_0 t8_0 t9_0 (IntKind.i64.wrap (t10_0 + (1 : Int))) (c0_0 ++ [((v1.1.1, v1.1.2.1, v1.1.2.2.1, v1.1.2.2.2.1, ()), v1.2.1, ())]) else none) else r0 holds1_0 t8_0 t9_0 (IntKind.i64.wrap (t10_0 + (1 : Int))) c0_0))) else some (c0_0, ()))
def y9y (n : Nat)  (k : Nat) (holds1_0 : (Sta × Int × Unit) × Unit → Option (Bool × Unit)) (t8_0 : List (Sta × Int × Unit)) (t9_0 : Int) (t10_0 : Int) (c0_0 : List (Sta × Int × Unit)) : Option (List (Sta × Int × Unit) × Unit) :=
 iter (fun r y => yIS n (fun holds1_0 t8_0 t9_0 t10_0 c0_0 => r ((holds1_0, (t8_0, (t9_0, (t10_0, ())))), ((c0_0, ()), ()))) y.1.1 y.1.2.1 y.1.2.2.1 y.1.2.2.2.1 y.2.1.1) k ((holds1_0, (t8_0, (t9_0, (t10_0, ())))), ((c0_0, ()), ()))
def zL_m (n : Nat) (l : List (Sta × Int × Unit)) (holds : (Sta × Int × Unit) × Unit → Option (Bool × Unit)) : Option (List (Sta × Int × Unit) × Unit) :=
 (y9y n n (holds) (l) ((↑l.length : Int)) ((0 : Int)) ([]))
theorem yWq (n : Nat) (x : zL_a.den) : runF zL_g (yRf n) Tryz.f132 zL_a zL_r x = zL_m n x.1 x.2.1 := by kernel_rfl
def yO4 (holds1_0 : (Sta × Int × Unit) × Unit → Option (Bool × Unit)) (t8_0 : List (Sta × Int × Unit)) (t10_0 : Int) (v1 : Sta × Int × Unit) (c0_0 : List (Sta × Int × Unit)) : Option ((List (Sta × Int × Unit) × Unit) ⊕ (List (Sta × Int × Unit))) :=
 (Option.bind (holds1_0 (((v1.1.1, v1.1.2.1, v1.1.2.2.1, v1.1.2.2.2.1, ()), v1.2.1, ()), ())) fun (v2 : Bool × Unit) => (bif v2.1 then (bif decide (c0_0.length + (1 : Nat) ≤ memMax) then (some (Sum.inr (c0_0 ++ [((v1.1.1, v1.1.2.1, v1.1.2.2.1, v1.1.2.2.2.1, ()), v1.2.1, ())]))) else none) else (some (Sum.inr (c0_0)))))
def yOV (holds1_0 : (Sta × Int × Unit) × Unit → Option (Bool × Unit)) (t8_0 : List (Sta × Int × Unit)) (c0_0 : List (Sta × Int × Unit)) : Option (List (Sta × Int × Unit) × Unit) :=
 (some ((c0_0, ())))
theorem yFP (n : Nat) (hn : big ≤ n)  (holds1_0 : (Sta × Int × Unit) × Unit → Option (Bool × Unit)) (t8_0 : List (Sta × Int × Unit)) (c0_0 : List (Sta × Int × Unit)) (hx : List.length (t8_0) < lenMax) : LeF some (yI (fun i__ e__ s__ => yO4 holds1_0 t8_0 i__ e__ s__) (fun s__ => yOV holds1_0 t8_0 s__) 0 (t8_0) c0_0) (y9y n n holds1_0 t8_0 (List.length (t8_0) : Int) 0 c0_0) := by
 refine yJ (f := some) (W := fun k__ i__ s__ => y9y n k__ holds1_0 t8_0 (List.length (t8_0) : Int) i__ s__) (body := (fun i__ e__ s__ => yO4 holds1_0 t8_0 i__ e__ s__)) (fin := (fun s__ => yOV holds1_0 t8_0 s__)) (fun k__ i__ s__ => ?_) hx c0_0 n (by unfold big at hn; unfold lenMax at hx; omega)
 show LeF _ _ (yIS n (y9y n k__) holds1_0 t8_0 (List.length (t8_0) : Int) i__ s__)
 exact y0 (y7 fun v1 => (y7 fun v2 => (y0 (y0 (y3 rfl) yb) (y3 rfl)))) (yo (y3 rfl))
def zL_M (l : List (Sta × Int × Unit)) (holds : (Sta × Int × Unit) × Unit → Option (Bool × Unit)) : Option (List (Sta × Int × Unit) × Unit) :=
 (bif decide (List.length (l) < lenMax) then yI (fun i__ e__ s__ => yO4 (holds) (l) i__ e__ s__) (fun s__ => yOV (holds) (l) s__) 0 (l) ([]) else none)
theorem yPp (l : List (Sta × Int × Unit)) (holds : (Sta × Int × Unit) × Unit → Option (Bool × Unit)) (y : List (Sta × Int × Unit) × Unit) (h : zL_M l holds = some y) : ∃ n, zL_m n l holds = some y :=
 ⟨big, LeF.top (show LeF some (zL_M l holds) (zL_m big l holds) from (fun (n : Nat) (hn : big ≤ n) => show LeF some (zL_M l holds) (zL_m n l holds) from (yK fun hx => by apply yFP n hn; exact hx)) big (Nat.le_refl _)) h⟩
def zL_e : Entry := { f := 132, args := zL_a, ress := zL_r, m := fun x => zL_M x.1 x.2.1 }
theorem yWU : FnOK Tryz.prog zL_e := yN (g := zL_g) (fn := Tryz.f132) yC yM eNil (by kernel_rfl) (by kernel_rfl) (by kernel_rfl) (fun x y h => let ⟨n, hn⟩ := yPp x.1 x.2.1 y h; ⟨yRf n, iNil, (yWq n x).trans hn⟩)
abbrev zg_a : Ty := .pair t204 .unit
abbrev zg_r : Ty := .pair t4 .unit
def zg_g : G := { T := T, E := [], muts := [], fz := [] }
def zg_k : List (List Nat) := []
def yRD (n : Nat) : Ann := { keep := zg_k, fuel := n, inl := [], deep := 0 }
def zg_m (n : Nat) (s : Sta × Int × Unit) : Option (Bool × Unit) :=
 some (s.1.2.2.1 == (-1 : Int), ())
theorem yWz (n : Nat) (x : zg_a.den) : runF zg_g (yRD n) Tryz.f133 zg_a zg_r x = zg_m n x.1 := by kernel_rfl
def zg (s : Sta × Int × Unit) : (Bool × Unit) :=
 (s.1.2.2.1 == (-1 : Int), ())
abbrev zg_M (s : Sta × Int × Unit) : Option (Bool × Unit) := some (zg s)
theorem yTU (s : Sta × Int × Unit) (y : Bool × Unit) (h : zg_M s = some y) : ∃ n, zg_m n s = some y :=
 ⟨0, by rw [← h]; show zg_m 0 s = some (zg s); unfold zg_m zg; first | rfl | (simp only [yG]; done) | (simp only [yG]; rfl)⟩
def zg_e : Entry := { f := 133, args := zg_a, ress := zg_r, m := fun x => zg_M x.1 }
theorem yVz : FnOK Tryz.prog zg_e := yN (g := zg_g) (fn := Tryz.f133) yC yM eNil (by kernel_rfl) (by kernel_rfl) (by kernel_rfl) (fun x y h => let ⟨n, hn⟩ := yTU x.1 y h; ⟨yRD n, iNil, (yWz n x).trans hn⟩)
abbrev zV_a : Ty := .pair t204 .unit
abbrev zV_r : Ty := .pair t3 .unit
def zV_g : G := { T := T, E := [], muts := [], fz := [] }
def zV_k : List (List Nat) := []
def yQY (n : Nat) : Ann := { keep := zV_k, fuel := n, inl := [], deep := 0 }
def zV_m (n : Nat) (s : Sta × Int × Unit) : Option (Int × Unit) :=
 some (s.2.1, ())
theorem yXL (n : Nat) (x : zV_a.den) : runF zV_g (yQY n) Tryz.f134 zV_a zV_r x = zV_m n x.1 := by kernel_rfl
def zV (s : Sta × Int × Unit) : (Int × Unit) :=
 (s.2.1, ())
abbrev zV_M (s : Sta × Int × Unit) : Option (Int × Unit) := some (zV s)
theorem ySq (s : Sta × Int × Unit) (y : Int × Unit) (h : zV_M s = some y) : ∃ n, zV_m n s = some y :=
 ⟨0, by rw [← h]; show zV_m 0 s = some (zV s); unfold zV_m zV; first | rfl | (simp only [yG]; done) | (simp only [yG]; rfl)⟩
def zV_e : Entry := { f := 134, args := zV_a, ress := zV_r, m := fun x => zV_M x.1 }
theorem yXd : FnOK Tryz.prog zV_e := yN (g := zV_g) (fn := Tryz.f134) yC yM eNil (by kernel_rfl) (by kernel_rfl) (by kernel_rfl) (fun x y h => let ⟨n, hn⟩ := ySq x.1 y h; ⟨yQY n, iNil, (yXL n x).trans hn⟩)
abbrev yOb : Ty := .pair t9 .unit
abbrev yTY : Ty := .pair t4 .unit
def yRg : G := { T := T, E := [], muts := [], fz := [] }
def yVJ : List (List Nat) := [[0, 3]]
def yLN (n : Nat) : Ann := { keep := yVJ, fuel := n, inl := [], deep := 0 }
def y3P (n : Nat) (r2 : List UInt8 → Int → Option (Bool × Unit)) (s0_2 : List UInt8) (i3_2 : Int) (v3 : UInt8) : Option (Bool × Unit) :=
 (bif i3_2 == (0 : Int) then some (Bool.false, ()) else (bif (↑v3.toNat : Int) != (95 : Int) then (bif decide ((↑v3.toNat : Int) < (48 : Int)) then some (Bool.false, ()) else (bif decide ((↑v3.toNat : Int) > (57 : Int)) then some (Bool.false, ()) else r2 s0_2 (IntKind.i64.wrap (i3_2 + (1 : Int))))) else r2 s0_2 (IntKind.i64.wrap (i3_2 + (1 : Int)))))
def yE5 (n : Nat) (r2 : List UInt8 → Int → Option (Bool × Unit)) (s0_2 : List UInt8) (i3_2 : Int) : Option (Bool × Unit) :=
 (bif decide (i3_2 < (↑s0_2.length : Int)) then (Option.bind (idx s0_2 i3_2) fun (v3 : UInt8) => (bif decide ((↑v3.toNat : Int) ≥ (97 : Int)) then (bif decide ((↑v3.toNat : Int) ≤ (122 : Int)) then r2 s0_2 (IntKind.i64.wrap (i3_2 + (1 : Int))) else (bif decide ((↑v3.toNat : Int) ≥ (65 : Int)) then (bif decide ((↑v3.toNat : Int) ≤ (90 : Int)) then r2 s0_2 (IntKind.i64.wrap (i3_2 + (1 : Int))) else (y3P n r2 s0_2 i3_2 v3)) else (y3P n r2 s0_2 i3_2 v3))) else (bif decide ((↑v3.toNat : Int) ≥ (65 : Int)) then (bif decide ((↑v3.toNat : Int) ≤ (90 : Int)) then r2 s0_2 (IntKind.i64.wrap (i3_2 + (1 : Int))) else (y3P n r2 s0_2 i3_2 v3)) else (y3P n r2 s0_2 i3_2 v3)))) else some (Bool.true, ()))
def y6d (n : Nat)  (k : Nat) (s0_2 : List UInt8) (i3_2 : Int) : Option (Bool × Unit) :=
 iter (fun r y => yE5 n (fun s0_2 i3_2 => r ((s0_2, (i3_2, ())), ((), ()))) y.1.1 y.1.2.1) k ((s0_2, (i3_2, ())), ((), ()))
def yIz (n : Nat) (s : List UInt8) : Option (Bool × Unit) :=
 (bif (↑s.length : Int) == (0 : Int) then some (Bool.false, ()) else (bif decide ((↑s.length : Int) > (24 : Int)) then some (Bool.false, ()) else (y6d n n (s) ((0 : Int)))))
theorem yU0 (n : Nat) (x : yOb.den) : runF yRg (yLN n) Tryz.f136 yOb yTY x = yIz n x.1 := by kernel_rfl
def y5D (s0_2 : List UInt8) (i3_2 : Int) (v3 : UInt8) : Option ((Bool × Unit) ⊕ Unit) :=
 (bif i3_2 == (0 : Int) then (some (Sum.inl ((Bool.false, ())))) else (bif (↑v3.toNat : Int) != (95 : Int) then (bif decide ((↑v3.toNat : Int) < (48 : Int)) then (some (Sum.inl ((Bool.false, ())))) else (bif decide ((↑v3.toNat : Int) > (57 : Int)) then (some (Sum.inl ((Bool.false, ())))) else (some (Sum.inr ())))) else (some (Sum.inr ()))))
theorem y0K (n : Nat) (hn : big ≤ n)  (r2 : List UInt8 → Int → Option (Bool × Unit)) (s0_2 : List UInt8) (i3_2 : Int) (v3 : UInt8) : LeF (elim some fun (s__ : Unit) => r2 s0_2 (IntKind.i64.wrap (i3_2 + 1))) (y5D s0_2 i3_2 v3) (y3P n r2 s0_2 i3_2 v3) :=
 (y0 (y3 rfl) (y0 (y0 (y3 rfl) (y0 (y3 rfl) (y3 rfl))) (y3 rfl)))
def y8L (s0_2 : List UInt8) (i3_2 : Int) (v3 : UInt8) : Option ((Bool × Unit) ⊕ Unit) :=
 (bif decide ((↑v3.toNat : Int) ≥ (97 : Int)) then (bif decide ((↑v3.toNat : Int) ≤ (122 : Int)) then (some (Sum.inr ())) else (bif decide ((↑v3.toNat : Int) ≥ (65 : Int)) then (bif decide ((↑v3.toNat : Int) ≤ (90 : Int)) then (some (Sum.inr ())) else (y5D s0_2 i3_2 v3)) else (y5D s0_2 i3_2 v3))) else (bif decide ((↑v3.toNat : Int) ≥ (65 : Int)) then (bif decide ((↑v3.toNat : Int) ≤ (90 : Int)) then (some (Sum.inr ())) else (y5D s0_2 i3_2 v3)) else (y5D s0_2 i3_2 v3)))
def yDN (s0_2 : List UInt8) : Option (Bool × Unit) :=
 (some ((Bool.true, ())))
theorem yBh (n : Nat) (hn : big ≤ n)  (s0_2 : List UInt8) (hx : List.length (s0_2) < lenMax) : LeF some (yI (fun i__ e__ s__ => y8L s0_2 i__ e__) (fun s__ => yDN s0_2) 0 (s0_2) ()) (y6d n n s0_2 0) := by
 refine yJ (f := some) (W := fun k__ i__ s__ => y6d n k__ s0_2 i__) (body := (fun i__ e__ s__ => y8L s0_2 i__ e__)) (fin := (fun s__ => yDN s0_2)) (fun k__ i__ s__ => ?_) hx () n (by unfold big at hn; unfold lenMax at hx; omega)
 show LeF _ _ (yE5 n (y6d n k__) s0_2 i__)
 exact y0 (y7 fun v3 => (y0 (y0 (y3 rfl) (y0 (y0 (y3 rfl) (by apply y0K n hn)) (by apply y0K n hn))) (y0 (y0 (y3 rfl) (by apply y0K n hn)) (by apply y0K n hn)))) (yo (y3 rfl))
def yBt (s : List UInt8) : Option (Bool × Unit) :=
 (bif (↑s.length : Int) == (0 : Int) then (some ((Bool.false, ()))) else (bif decide ((↑s.length : Int) > (24 : Int)) then (some ((Bool.false, ()))) else (bif decide (List.length (s) < lenMax) then yI (fun i__ e__ s__ => y8L (s) i__ e__) (fun s__ => yDN (s)) 0 (s) () else none)))
theorem yMk (s : List UInt8) (y : Bool × Unit) (h : yBt s = some y) : ∃ n, yIz n s = some y :=
 ⟨big, LeF.top (show LeF some (yBt s) (yIz big s) from (fun (n : Nat) (hn : big ≤ n) => show LeF some (yBt s) (yIz n s) from (y0 (y3 rfl) (y0 (y3 rfl) (yK fun hx => by apply yBh n hn; exact hx)))) big (Nat.le_refl _)) h⟩
def z0Q_e : Entry := { f := 136, args := yOb, ress := yTY, m := fun x => yBt x.1 }
theorem yRt : FnOK Tryz.prog z0Q_e := yN (g := yRg) (fn := Tryz.f136) yC yM eNil (by kernel_rfl) (by kernel_rfl) (by kernel_rfl) (fun x y h => let ⟨n, hn⟩ := yMk x.1 y h; ⟨yLN n, iNil, (yU0 n x).trans hn⟩)
abbrev zE_a : Ty := .pair t33 (.pair t214 .unit)
abbrev zE_r : Ty := .pair t33 .unit
def zE_g : G := { T := T, E := [], muts := [5], fz := [] }
def zE_k : List (List Nat) := [[1, 5, 8, 9, 10]]
def yTd (n : Nat) : Ann := { keep := zE_k, fuel := n, inl := [], deep := 0 }
def yIa (n : Nat) (r0 : (Tra × Unit → Option (Bool × Unit)) → List Tra → Int → Int → List Tra → Option (List Tra × Unit)) (holds1_0 : Tra × Unit → Option (Bool × Unit)) (t8_0 : List Tra) (t9_0 : Int) (t10_0 : Int) (c0_0 : List Tra) : Option (List Tra × Unit) :=
 (bif decide (t10_0 < t9_0) then (Option.bind (idx t8_0 t10_0) fun (v1 : Tra) => (Option.bind (holds1_0 ((v1.1, v1.2.1, v1.2.2.1, v1.2.2.2.1, v1.2.2.2.2.1, ()), ())) fun (v2 : Bool × Unit) => (bif v2.1 then (bif decide (c0_0.length + (1 : Nat) ≤ memMax) then r0 holds1_0 t8_0 t9_0 (IntKind.i64.wrap (t10_0 + (1 : Int))) (c0_0 ++ [(v1.1, v1.2.1, v1.2.2.1, v1.2.2.2.1, v1.2.2.2.2.1, ())]) else none) else r0 holds1_0 t8_0 t9_0 (IntKind.i64.wrap (t10_0 + (1 : Int))) c0_0))) else some (c0_0, ()))
def y9M (n : Nat)  (k : Nat) (holds1_0 : Tra × Unit → Option (Bool × Unit)) (t8_0 : List Tra) (t9_0 : Int) (t10_0 : Int) (c0_0 : List Tra) : Option (List Tra × Unit) :=
 iter (fun r y => yIa n (fun holds1_0 t8_0 t9_0 t10_0 c0_0 => r ((holds1_0, (t8_0, (t9_0, (t10_0, ())))), ((c0_0, ()), ()))) y.1.1 y.1.2.1 y.1.2.2.1 y.1.2.2.2.1 y.2.1.1) k ((holds1_0, (t8_0, (t9_0, (t10_0, ())))), ((c0_0, ()), ()))
def zE_m (n : Nat) (l : List Tra) (holds : Tra × Unit → Option (Bool × Unit)) : Option (List Tra × Unit) :=
 (y9M n n (holds) (l) ((↑l.length : Int)) ((0 : Int)) ([]))
theorem yXA (n : Nat) (x : zE_a.den) : runF zE_g (yTd n) Tryz.f139 zE_a zE_r x = zE_m n x.1 x.2.1 := by kernel_rfl
def yJ3 (holds1_0 : Tra × Unit → Option (Bool × Unit)) (t8_0 : List Tra) (t10_0 : Int) (v1 : Tra) (c0_0 : List Tra) : Option ((List Tra × Unit) ⊕ (List Tra)) :=
 (Option.bind (holds1_0 ((v1.1, v1.2.1, v1.2.2.1, v1.2.2.2.1, v1.2.2.2.2.1, ()), ())) fun (v2 : Bool × Unit) => (bif v2.1 then (bif decide (c0_0.length + (1 : Nat) ≤ memMax) then (some (Sum.inr (c0_0 ++ [(v1.1, v1.2.1, v1.2.2.1, v1.2.2.2.1, v1.2.2.2.2.1, ())]))) else none) else (some (Sum.inr (c0_0)))))
def yNI (holds1_0 : Tra × Unit → Option (Bool × Unit)) (t8_0 : List Tra) (c0_0 : List Tra) : Option (List Tra × Unit) :=
 (some ((c0_0, ())))
theorem yF9 (n : Nat) (hn : big ≤ n)  (holds1_0 : Tra × Unit → Option (Bool × Unit)) (t8_0 : List Tra) (c0_0 : List Tra) (hx : List.length (t8_0) < lenMax) : LeF some (yI (fun i__ e__ s__ => yJ3 holds1_0 t8_0 i__ e__ s__) (fun s__ => yNI holds1_0 t8_0 s__) 0 (t8_0) c0_0) (y9M n n holds1_0 t8_0 (List.length (t8_0) : Int) 0 c0_0) := by
 refine yJ (f := some) (W := fun k__ i__ s__ => y9M n k__ holds1_0 t8_0 (List.length (t8_0) : Int) i__ s__) (body := (fun i__ e__ s__ => yJ3 holds1_0 t8_0 i__ e__ s__)) (fin := (fun s__ => yNI holds1_0 t8_0 s__)) (fun k__ i__ s__ => ?_) hx c0_0 n (by unfold big at hn; unfold lenMax at hx; omega)
 show LeF _ _ (yIa n (y9M n k__) holds1_0 t8_0 (List.length (t8_0) : Int) i__ s__)
 exact y0 (y7 fun v1 => (y7 fun v2 => (y0 (y0 (y3 rfl) yb) (y3 rfl)))) (yo (y3 rfl))
def zE_M (l : List Tra) (holds : Tra × Unit → Option (Bool × Unit)) : Option (List Tra × Unit) :=
 (bif decide (List.length (l) < lenMax) then yI (fun i__ e__ s__ => yJ3 (holds) (l) i__ e__ s__) (fun s__ => yNI (holds) (l) s__) 0 (l) ([]) else none)
theorem yR5 (l : List Tra) (holds : Tra × Unit → Option (Bool × Unit)) (y : List Tra × Unit) (h : zE_M l holds = some y) : ∃ n, zE_m n l holds = some y :=
 ⟨big, LeF.top (show LeF some (zE_M l holds) (zE_m big l holds) from (fun (n : Nat) (hn : big ≤ n) => show LeF some (zE_M l holds) (zE_m n l holds) from (yK fun hx => by apply yF9 n hn; exact hx)) big (Nat.le_refl _)) h⟩
def zE_e : Entry := { f := 139, args := zE_a, ress := zE_r, m := fun x => zE_M x.1 x.2.1 }
theorem yW5 : FnOK Tryz.prog zE_e := yN (g := zE_g) (fn := Tryz.f139) yC yM eNil (by kernel_rfl) (by kernel_rfl) (by kernel_rfl) (fun x y h => let ⟨n, hn⟩ := yR5 x.1 x.2.1 y h; ⟨yTd n, iNil, (yXA n x).trans hn⟩)
abbrev z8_a : Ty := .pair t57 (.pair t216 .unit)
abbrev z8_r : Ty := .pair t164 .unit
def z8_g : G := { T := T, E := [], muts := [5], fz := [] }
def z8_k : List (List Nat) := [[1, 5, 8, 9, 10]]
def yQ4 (n : Nat) : Ann := { keep := z8_k, fuel := n, inl := [], deep := 0 }
def yHC (n : Nat) (r0 : ((List UInt8 × Int × Unit) × Unit → Option (Int × Unit)) → List (List UInt8 × Int × Unit) → Int → Int → List Int → Option (List Int × Unit)) (of1_0 : (List UInt8 × Int × Unit) × Unit → Option (Int × Unit)) (t8_0 : List (List UInt8 × Int × Unit)) (t9_0 : Int) (t10_0 : Int) (c0_0 : List Int) : Option (List Int × Unit) :=
 (bif decide (t10_0 < t9_0) then (Option.bind (idx t8_0 t10_0) fun (v1 : List UInt8 × Int × Unit) => (Option.bind (of1_0 ((v1.1, v1.2.1, ()), ())) fun (v2 : Int × Unit) => (bif decide (c0_0.length + (1 : Nat) ≤ memMax) then r0 of1_0 t8_0 t9_0 (IntKind.i64.wrap (t10_0 + (1 : Int))) (c0_0 ++ [v2.1]) else none))) else some (c0_0, ()))
def y9O (n : Nat)  (k : Nat) (of1_0 : (List UInt8 × Int × Unit) × Unit → Option (Int × Unit)) (t8_0 : List (List UInt8 × Int × Unit)) (t9_0 : Int) (t10_0 : Int) (c0_0 : List Int) : Option (List Int × Unit) :=
 iter (fun r y => yHC n (fun of1_0 t8_0 t9_0 t10_0 c0_0 => r ((of1_0, (t8_0, (t9_0, (t10_0, ())))), ((c0_0, ()), ()))) y.1.1 y.1.2.1 y.1.2.2.1 y.1.2.2.2.1 y.2.1.1) k ((of1_0, (t8_0, (t9_0, (t10_0, ())))), ((c0_0, ()), ()))
def z8_m (n : Nat) (l : List (List UInt8 × Int × Unit)) (of : (List UInt8 × Int × Unit) × Unit → Option (Int × Unit)) : Option (List Int × Unit) :=
 (y9O n n (of) (l) ((↑l.length : Int)) ((0 : Int)) ([]))
theorem yWY (n : Nat) (x : z8_a.den) : runF z8_g (yQ4 n) Tryz.f142 z8_a z8_r x = z8_m n x.1 x.2.1 := by kernel_rfl
def yKo (of1_0 : (List UInt8 × Int × Unit) × Unit → Option (Int × Unit)) (t8_0 : List (List UInt8 × Int × Unit)) (t10_0 : Int) (v1 : List UInt8 × Int × Unit) (c0_0 : List Int) : Option ((List Int × Unit) ⊕ (List Int)) :=
 (Option.bind (of1_0 ((v1.1, v1.2.1, ()), ())) fun (v2 : Int × Unit) => (bif decide (c0_0.length + (1 : Nat) ≤ memMax) then (some (Sum.inr (c0_0 ++ [v2.1]))) else none))
def yMO (of1_0 : (List UInt8 × Int × Unit) × Unit → Option (Int × Unit)) (t8_0 : List (List UInt8 × Int × Unit)) (c0_0 : List Int) : Option (List Int × Unit) :=
 (some ((c0_0, ())))
theorem yFi (n : Nat) (hn : big ≤ n)  (of1_0 : (List UInt8 × Int × Unit) × Unit → Option (Int × Unit)) (t8_0 : List (List UInt8 × Int × Unit)) (c0_0 : List Int) (hx : List.length (t8_0) < lenMax) : LeF some (yI (fun i__ e__ s__ => yKo of1_0 t8_0 i__ e__ s__) (fun s__ => yMO of1_0 t8_0 s__) 0 (t8_0) c0_0) (y9O n n of1_0 t8_0 (List.length (t8_0) : Int) 0 c0_0) := by
 refine yJ (f := some) (W := fun k__ i__ s__ => y9O n k__ of1_0 t8_0 (List.length (t8_0) : Int) i__ s__) (body := (fun i__ e__ s__ => yKo of1_0 t8_0 i__ e__ s__)) (fin := (fun s__ => yMO of1_0 t8_0 s__)) (fun k__ i__ s__ => ?_) hx c0_0 n (by unfold big at hn; unfold lenMax at hx; omega)
 show LeF _ _ (yHC n (y9O n k__) of1_0 t8_0 (List.length (t8_0) : Int) i__ s__)
 exact y0 (y7 fun v1 => (y7 fun v2 => (y0 (y3 rfl) yb))) (yo (y3 rfl))
def z8_M (l : List (List UInt8 × Int × Unit)) (of : (List UInt8 × Int × Unit) × Unit → Option (Int × Unit)) : Option (List Int × Unit) :=
 (bif decide (List.length (l) < lenMax) then yI (fun i__ e__ s__ => yKo (of) (l) i__ e__ s__) (fun s__ => yMO (of) (l) s__) 0 (l) ([]) else none)
theorem yPR (l : List (List UInt8 × Int × Unit)) (of : (List UInt8 × Int × Unit) × Unit → Option (Int × Unit)) (y : List Int × Unit) (h : z8_M l of = some y) : ∃ n, z8_m n l of = some y :=
 ⟨big, LeF.top (show LeF some (z8_M l of) (z8_m big l of) from (fun (n : Nat) (hn : big ≤ n) => show LeF some (z8_M l of) (z8_m n l of) from (yK fun hx => by apply yFi n hn; exact hx)) big (Nat.le_refl _)) h⟩
def z8_e : Entry := { f := 142, args := z8_a, ress := z8_r, m := fun x => z8_M x.1 x.2.1 }
theorem yVa : FnOK Tryz.prog z8_e := yN (g := z8_g) (fn := Tryz.f142) yC yM eNil (by kernel_rfl) (by kernel_rfl) (by kernel_rfl) (fun x y h => let ⟨n, hn⟩ := yPR x.1 x.2.1 y h; ⟨yQ4 n, iNil, (yWY n x).trans hn⟩)
abbrev zK_a : Ty := .pair t197 .unit
abbrev zK_r : Ty := .pair t3 .unit
def zK_g : G := { T := T, E := [], muts := [], fz := [] }
def zK_k : List (List Nat) := []
def yUG (n : Nat) : Ann := { keep := zK_k, fuel := n, inl := [], deep := 0 }
def zK_m (n : Nat) (p : Pth) : Option (Int × Unit) :=
 some (p.1, ())
theorem yVo (n : Nat) (x : zK_a.den) : runF zK_g (yUG n) Tryz.f146 zK_a zK_r x = zK_m n x.1 := by kernel_rfl
def zK (p : Pth) : (Int × Unit) :=
 (p.1, ())
abbrev zK_M (p : Pth) : Option (Int × Unit) := some (zK p)
theorem yS9 (p : Pth) (y : Int × Unit) (h : zK_M p = some y) : ∃ n, zK_m n p = some y :=
 ⟨0, by rw [← h]; show zK_m 0 p = some (zK p); unfold zK_m zK; first | rfl | (simp only [yG]; done) | (simp only [yG]; rfl)⟩
def zK_e : Entry := { f := 146, args := zK_a, ress := zK_r, m := fun x => zK_M x.1 }
theorem yVK : FnOK Tryz.prog zK_e := yN (g := zK_g) (fn := Tryz.f146) yC yM eNil (by kernel_rfl) (by kernel_rfl) (by kernel_rfl) (fun x y h => let ⟨n, hn⟩ := yS9 x.1 y h; ⟨yUG n, iNil, (yVo n x).trans hn⟩)
abbrev zI_a : Ty := .pair t3 (.pair (.ref t35) .unit)
abbrev zI_r : Ty := .pair t4 .unit
def zI_g : G := { T := T, E := [], muts := [], fz := [] }
def zI_k : List (List Nat) := []
def yUm (n : Nat) : Ann := { keep := zI_k, fuel := n, inl := [], deep := 0 }
def zI_m (n : Nat) (s : Int) (p1 : Cha) : Option (Bool × Unit) :=
 (bif decide (s < (0 : Int)) then some (Bool.true, ()) else some (decide (s ≥ (↑p1.1.length : Int)), ()))
theorem yVS (n : Nat) (x : zI_a.den) : runF zI_g (yUm n) Tryz.f148 zI_a zI_r x = zI_m n x.1 x.2.1 := by kernel_rfl
def zI (s : Int) (p1 : Cha) : (Bool × Unit) :=
 (bif decide (s < (0 : Int)) then (Bool.true, ()) else (decide (s ≥ (↑p1.1.length : Int)), ()))
abbrev zI_M (s : Int) (p1 : Cha) : Option (Bool × Unit) := some (zI s p1)
theorem yQq (s : Int) (p1 : Cha) (y : Bool × Unit) (h : zI_M s p1 = some y) : ∃ n, zI_m n s p1 = some y :=
 ⟨0, by rw [← h]; show zI_m 0 s p1 = some (zI s p1); unfold zI_m zI; first | rfl | (simp only [yG]; done) | (simp only [yG]; rfl)⟩
def zI_e : Entry := { f := 148, args := zI_a, ress := zI_r, m := fun x => zI_M x.1 x.2.1 }
theorem yVF : FnOK Tryz.prog zI_e := yN (g := zI_g) (fn := Tryz.f148) yC yM eNil (by kernel_rfl) (by kernel_rfl) (by kernel_rfl) (fun x y h => let ⟨n, hn⟩ := yQq x.1 x.2.1 y h; ⟨yUm n, iNil, (yVS n x).trans hn⟩)
abbrev zS_a : Ty := .pair t28 (.pair t3 .unit)
abbrev zS_r : Ty := .pair t3 .unit
def zS_g : G := { T := T, E := [], muts := [], fz := [] }
def zS_k : List (List Nat) := [[0, 1, 7, 8]]
def yT6 (n : Nat) : Ann := { keep := zS_k, fuel := n, inl := [], deep := 0 }
def yI4 (n : Nat) (r0 : List Int → Int → Int → Int → Option (Int × Unit)) (s0_0 : List Int) (v1_0 : Int) (t7_0 : Int) (t8_0 : Int) : Option (Int × Unit) :=
 (bif decide (t8_0 < t7_0) then (Option.bind (idx s0_0 t8_0) fun (v1 : Int) => (bif v1_0 == v1 then some (t8_0, ()) else r0 s0_0 v1_0 t7_0 (IntKind.i64.wrap (t8_0 + (1 : Int))))) else some ((-1 : Int), ()))
def y9x (n : Nat)  (k : Nat) (s0_0 : List Int) (v1_0 : Int) (t7_0 : Int) (t8_0 : Int) : Option (Int × Unit) :=
 iter (fun r y => yI4 n (fun s0_0 v1_0 t7_0 t8_0 => r ((s0_0, (v1_0, (t7_0, (t8_0, ())))), ((), ()))) y.1.1 y.1.2.1 y.1.2.2.1 y.1.2.2.2.1) k ((s0_0, (v1_0, (t7_0, (t8_0, ())))), ((), ()))
def zS_m (n : Nat) (s : List Int) (v : Int) : Option (Int × Unit) :=
 (y9x n n (s) (v) ((↑s.length : Int)) ((0 : Int)))
theorem yX9 (n : Nat) (x : zS_a.den) : runF zS_g (yT6 n) Tryz.f152 zS_a zS_r x = zS_m n x.1 x.2.1 := by kernel_rfl
def yGw (s0_0 : List Int) (v1_0 : Int) (t8_0 : Int) (v1 : Int) : Option ((Int × Unit) ⊕ Unit) :=
 (bif v1_0 == v1 then (some (Sum.inl ((t8_0, ())))) else (some (Sum.inr ())))
def yKc (s0_0 : List Int) (v1_0 : Int) : Option (Int × Unit) :=
 (some (((-1 : Int), ())))
theorem yEm (n : Nat) (hn : big ≤ n)  (s0_0 : List Int) (v1_0 : Int) (hx : List.length (s0_0) < lenMax) : LeF some (yI (fun i__ e__ s__ => yGw s0_0 v1_0 i__ e__) (fun s__ => yKc s0_0 v1_0) 0 (s0_0) ()) (y9x n n s0_0 v1_0 (List.length (s0_0) : Int) 0) := by
 refine yJ (f := some) (W := fun k__ i__ s__ => y9x n k__ s0_0 v1_0 (List.length (s0_0) : Int) i__) (body := (fun i__ e__ s__ => yGw s0_0 v1_0 i__ e__)) (fin := (fun s__ => yKc s0_0 v1_0)) (fun k__ i__ s__ => ?_) hx () n (by unfold big at hn; unfold lenMax at hx; omega)
 show LeF _ _ (yI4 n (y9x n k__) s0_0 v1_0 (List.length (s0_0) : Int) i__)
 exact y0 (y7 fun v1 => (y0 (y3 rfl) (y3 rfl))) (yo (y3 rfl))
def zS_M (s : List Int) (v : Int) : Option (Int × Unit) :=
 (bif decide (List.length (s) < lenMax) then yI (fun i__ e__ s__ => yGw (s) (v) i__ e__) (fun s__ => yKc (s) (v)) 0 (s) () else none)
theorem ySa (s : List Int) (v : Int) (y : Int × Unit) (h : zS_M s v = some y) : ∃ n, zS_m n s v = some y :=
 ⟨big, LeF.top (show LeF some (zS_M s v) (zS_m big s v) from (fun (n : Nat) (hn : big ≤ n) => show LeF some (zS_M s v) (zS_m n s v) from (yK fun hx => by apply yEm n hn; exact hx)) big (Nat.le_refl _)) h⟩
def zS_e : Entry := { f := 152, args := zS_a, ress := zS_r, m := fun x => zS_M x.1 x.2.1 }
theorem yVk : FnOK Tryz.prog zS_e := yN (g := zS_g) (fn := Tryz.f152) yC yM eNil (by kernel_rfl) (by kernel_rfl) (by kernel_rfl) (fun x y h => let ⟨n, hn⟩ := ySa x.1 x.2.1 y h; ⟨yT6 n, iNil, (yX9 n x).trans hn⟩)
abbrev zD_a : Ty := .pair t37 (.pair t9 .unit)
abbrev zD_r : Ty := .pair t3 .unit
def zD_g : G := { T := T, E := [], muts := [], fz := [] }
def zD_k : List (List Nat) := [[0, 1, 7, 8]]
def yQU (n : Nat) : Ann := { keep := zD_k, fuel := n, inl := [], deep := 0 }
def yGD (n : Nat) (r0 : List (List UInt8) → List UInt8 → Int → Int → Option (Int × Unit)) (s0_0 : List (List UInt8)) (v1_0 : List UInt8) (t7_0 : Int) (t8_0 : Int) : Option (Int × Unit) :=
 (bif decide (t8_0 < t7_0) then (Option.bind (idx s0_0 t8_0) fun (v1 : List UInt8) => (bif v1_0 == v1 then some (t8_0, ()) else r0 s0_0 v1_0 t7_0 (IntKind.i64.wrap (t8_0 + (1 : Int))))) else some ((-1 : Int), ()))
def y9o (n : Nat)  (k : Nat) (s0_0 : List (List UInt8)) (v1_0 : List UInt8) (t7_0 : Int) (t8_0 : Int) : Option (Int × Unit) :=
 iter (fun r y => yGD n (fun s0_0 v1_0 t7_0 t8_0 => r ((s0_0, (v1_0, (t7_0, (t8_0, ())))), ((), ()))) y.1.1 y.1.2.1 y.1.2.2.1 y.1.2.2.2.1) k ((s0_0, (v1_0, (t7_0, (t8_0, ())))), ((), ()))
def zD_m (n : Nat) (s : List (List UInt8)) (v : List UInt8) : Option (Int × Unit) :=
 (y9o n n (s) (v) ((↑s.length : Int)) ((0 : Int)))
theorem yXK (n : Nat) (x : zD_a.den) : runF zD_g (yQU n) Tryz.f154 zD_a zD_r x = zD_m n x.1 x.2.1 := by kernel_rfl
def yHP (s0_0 : List (List UInt8)) (v1_0 : List UInt8) (t8_0 : Int) (v1 : List UInt8) : Option ((Int × Unit) ⊕ Unit) :=
 (bif v1_0 == v1 then (some (Sum.inl ((t8_0, ())))) else (some (Sum.inr ())))
def yKM (s0_0 : List (List UInt8)) (v1_0 : List UInt8) : Option (Int × Unit) :=
 (some (((-1 : Int), ())))
theorem yFD (n : Nat) (hn : big ≤ n)  (s0_0 : List (List UInt8)) (v1_0 : List UInt8) (hx : List.length (s0_0) < lenMax) : LeF some (yI (fun i__ e__ s__ => yHP s0_0 v1_0 i__ e__) (fun s__ => yKM s0_0 v1_0) 0 (s0_0) ()) (y9o n n s0_0 v1_0 (List.length (s0_0) : Int) 0) := by
 refine yJ (f := some) (W := fun k__ i__ s__ => y9o n k__ s0_0 v1_0 (List.length (s0_0) : Int) i__) (body := (fun i__ e__ s__ => yHP s0_0 v1_0 i__ e__)) (fin := (fun s__ => yKM s0_0 v1_0)) (fun k__ i__ s__ => ?_) hx () n (by unfold big at hn; unfold lenMax at hx; omega)
 show LeF _ _ (yGD n (y9o n k__) s0_0 v1_0 (List.length (s0_0) : Int) i__)
 exact y0 (y7 fun v1 => (y0 (y3 rfl) (y3 rfl))) (yo (y3 rfl))
def zD_M (s : List (List UInt8)) (v : List UInt8) : Option (Int × Unit) :=
 (bif decide (List.length (s) < lenMax) then yI (fun i__ e__ s__ => yHP (s) (v) i__ e__) (fun s__ => yKM (s) (v)) 0 (s) () else none)
theorem yUg (s : List (List UInt8)) (v : List UInt8) (y : Int × Unit) (h : zD_M s v = some y) : ∃ n, zD_m n s v = some y :=
 ⟨big, LeF.top (show LeF some (zD_M s v) (zD_m big s v) from (fun (n : Nat) (hn : big ≤ n) => show LeF some (zD_M s v) (zD_m n s v) from (yK fun hx => by apply yFD n hn; exact hx)) big (Nat.le_refl _)) h⟩
def zD_e : Entry := { f := 154, args := zD_a, ress := zD_r, m := fun x => zD_M x.1 x.2.1 }
theorem yX6 : FnOK Tryz.prog zD_e := yN (g := zD_g) (fn := Tryz.f154) yC yM eNil (by kernel_rfl) (by kernel_rfl) (by kernel_rfl) (fun x y h => let ⟨n, hn⟩ := yUg x.1 x.2.1 y h; ⟨yQU n, iNil, (yXK n x).trans hn⟩)
abbrev yOq : Ty := .pair t9 .unit
abbrev ySu : Ty := .pair t4 .unit
def ySe : G := { T := T, E := [], muts := [], fz := [] }
def yWf : List (List Nat) := [[0, 8]]
def yLa (n : Nat) : Ann := { keep := yWf, fuel := n, inl := [], deep := 0 }
def y4e (n : Nat) (r0 : List UInt8 → List UInt8 → Int → Option (Bool × Unit)) (s0_0 : List UInt8) (str0__0 : List UInt8) (pos0__0 : Int) (j2 : Bool) (j7 : Bool) : Option (Bool × Unit) :=
 (bif !j2 then (bif pos0__0 == (0 : Int) then some (Bool.false, ()) else (bif !j7 then some (Bool.false, ()) else r0 s0_0 str0__0 (yn str0__0 pos0__0).2)) else r0 s0_0 str0__0 (yn str0__0 pos0__0).2)
def y27 (n : Nat) (r0 : List UInt8 → List UInt8 → Int → Option (Bool × Unit)) (s0_0 : List UInt8) (str0__0 : List UInt8) (pos0__0 : Int) (j2 : Bool) : Option (Bool × Unit) :=
 (bif decide ((yn str0__0 pos0__0).1 ≥ (48 : Int)) then (bif decide ((yn str0__0 pos0__0).1 ≤ (57 : Int)) then (y4e n r0 s0_0 str0__0 pos0__0 j2 (Bool.true)) else (y4e n r0 s0_0 str0__0 pos0__0 j2 ((yn str0__0 pos0__0).1 == (95 : Int)))) else (y4e n r0 s0_0 str0__0 pos0__0 j2 ((yn str0__0 pos0__0).1 == (95 : Int))))
def yE9 (n : Nat) (r0 : List UInt8 → List UInt8 → Int → Option (Bool × Unit)) (s0_0 : List UInt8) (str0__0 : List UInt8) (pos0__0 : Int) : Option (Bool × Unit) :=
 (bif decide (pos0__0 < (↑str0__0.length : Int)) then (bif decide ((yn str0__0 pos0__0).1 ≥ (65 : Int)) then (bif decide ((yn str0__0 pos0__0).1 ≤ (90 : Int)) then (y27 n r0 s0_0 str0__0 pos0__0 (Bool.true)) else (bif decide ((yn str0__0 pos0__0).1 ≥ (97 : Int)) then (y27 n r0 s0_0 str0__0 pos0__0 (decide ((yn str0__0 pos0__0).1 ≤ (122 : Int)))) else (y27 n r0 s0_0 str0__0 pos0__0 (Bool.false)))) else (bif decide ((yn str0__0 pos0__0).1 ≥ (97 : Int)) then (y27 n r0 s0_0 str0__0 pos0__0 (decide ((yn str0__0 pos0__0).1 ≤ (122 : Int)))) else (y27 n r0 s0_0 str0__0 pos0__0 (Bool.false)))) else (bif !s0_0 == [] then some (decide ((↑s0_0.length : Int) ≤ (24 : Int)), ()) else some (Bool.false, ())))
def y6U (n : Nat)  (k : Nat) (s0_0 : List UInt8) (str0__0 : List UInt8) (pos0__0 : Int) : Option (Bool × Unit) :=
 iter (fun r y => yE9 n (fun s0_0 str0__0 pos0__0 => r ((s0_0, ()), (((str0__0, pos0__0), ()), ()))) y.1.1 y.2.1.1.1 y.2.1.1.2) k ((s0_0, ()), (((str0__0, pos0__0), ()), ()))
def yJ1 (n : Nat) (s : List UInt8) : Option (Bool × Unit) :=
 (y6U n n (s) (s) ((0 : Int)))
theorem yRr (n : Nat) (x : yOq.den) : runF ySe (yLa n) Tryz.f155 yOq ySu x = yJ1 n x.1 := by kernel_rfl
def y7O (s0_0 : List UInt8) (str0__0 : List UInt8) (pos0__0 : Int) (j2 : Bool) (j7 : Bool) : Option ((Bool × Unit) ⊕ Unit) :=
 (bif !j2 then (bif pos0__0 == (0 : Int) then (some (Sum.inl ((Bool.false, ())))) else (bif !j7 then (some (Sum.inl ((Bool.false, ())))) else (some (Sum.inr ())))) else (some (Sum.inr ())))
theorem y0v (n : Nat) (hn : big ≤ n)  (r0 : List UInt8 → List UInt8 → Int → Option (Bool × Unit)) (s0_0 : List UInt8) (str0__0 : List UInt8) (pos0__0 : Int) (j2 : Bool) (j7 : Bool) : LeF (elim some fun (s__ : Unit) => r0 s0_0 str0__0 (yn (str0__0) pos0__0).2) (y7O s0_0 str0__0 pos0__0 j2 j7) (y4e n r0 s0_0 str0__0 pos0__0 j2 j7) :=
 (y0 (y0 (y3 rfl) (y0 (y3 rfl) (y3 rfl))) (y3 rfl))
def y4C (s0_0 : List UInt8) (str0__0 : List UInt8) (pos0__0 : Int) (j2 : Bool) : Option ((Bool × Unit) ⊕ Unit) :=
 (bif decide ((yn str0__0 pos0__0).1 ≥ (48 : Int)) then (bif decide ((yn str0__0 pos0__0).1 ≤ (57 : Int)) then (y7O s0_0 str0__0 pos0__0 j2 (Bool.true)) else (y7O s0_0 str0__0 pos0__0 j2 ((yn str0__0 pos0__0).1 == (95 : Int)))) else (y7O s0_0 str0__0 pos0__0 j2 ((yn str0__0 pos0__0).1 == (95 : Int))))
theorem y05 (n : Nat) (hn : big ≤ n)  (r0 : List UInt8 → List UInt8 → Int → Option (Bool × Unit)) (s0_0 : List UInt8) (str0__0 : List UInt8) (pos0__0 : Int) (j2 : Bool) : LeF (elim some fun (s__ : Unit) => r0 s0_0 str0__0 (yn (str0__0) pos0__0).2) (y4C s0_0 str0__0 pos0__0 j2) (y27 n r0 s0_0 str0__0 pos0__0 j2) :=
 (y0 (y0 (by apply y0v n hn) (by apply y0v n hn)) (by apply y0v n hn))
def y8E (s0_0 : List UInt8) (str0__0 : List UInt8) (pos0__0 : Int) : Option ((Bool × Unit) ⊕ Unit) :=
 (bif decide ((yn str0__0 pos0__0).1 ≥ (65 : Int)) then (bif decide ((yn str0__0 pos0__0).1 ≤ (90 : Int)) then (y4C s0_0 str0__0 pos0__0 (Bool.true)) else (bif decide ((yn str0__0 pos0__0).1 ≥ (97 : Int)) then (y4C s0_0 str0__0 pos0__0 (decide ((yn str0__0 pos0__0).1 ≤ (122 : Int)))) else (y4C s0_0 str0__0 pos0__0 (Bool.false)))) else (bif decide ((yn str0__0 pos0__0).1 ≥ (97 : Int)) then (y4C s0_0 str0__0 pos0__0 (decide ((yn str0__0 pos0__0).1 ≤ (122 : Int)))) else (y4C s0_0 str0__0 pos0__0 (Bool.false))))
def y8k (s0_0 : List UInt8) (str0__0 : List UInt8) : Option (Bool × Unit) :=
 (bif !s0_0 == [] then (some ((decide ((↑s0_0.length : Int) ≤ (24 : Int)), ()))) else (some ((Bool.false, ()))))
theorem yCD (n : Nat) (hn : big ≤ n)  (s0_0 : List UInt8) (str0__0 : List UInt8) (hx : List.length (str0__0) < lenMax) : LeF some (y7s (str0__0) (fun i__ s__ => y8E s0_0 str0__0 i__) (fun s__ => y8k s0_0 str0__0) (List.length (str0__0)) 0 ()) (y6U n n s0_0 str0__0 0) := by
 refine yJz (f := some) (W := fun k__ i__ s__ => y6U n k__ s0_0 str0__0 i__) (body := (fun i__ s__ => y8E s0_0 str0__0 i__)) (fin := (fun s__ => y8k s0_0 str0__0)) (fun k__ i__ s__ => ?_) () n (by unfold big at hn; unfold lenMax at hx; omega)
 show LeF _ _ (yE9 n (y6U n k__) s0_0 str0__0 i__)
 exact y0 (y0 (y0 (by apply y05 n hn) (y0 (by apply y05 n hn) (by apply y05 n hn))) (y0 (by apply y05 n hn) (by apply y05 n hn))) (yo (y0 (y3 rfl) (y3 rfl)))
def yBs (s : List UInt8) : Option (Bool × Unit) :=
 (bif decide (List.length (s) < lenMax) then y7s (s) (fun i__ s__ => y8E (s) (s) i__) (fun s__ => y8k (s) (s)) (List.length (s)) 0 () else none)
theorem yM9 (s : List UInt8) (y : Bool × Unit) (h : yBs s = some y) : ∃ n, yJ1 n s = some y :=
 ⟨big, LeF.top (show LeF some (yBs s) (yJ1 big s) from (fun (n : Nat) (hn : big ≤ n) => show LeF some (yBs s) (yJ1 n s) from (yK fun hx => by apply yCD n hn; exact hx)) big (Nat.le_refl _)) h⟩
def z0N_e : Entry := { f := 155, args := yOq, ress := ySu, m := fun x => yBs x.1 }
theorem yT4 : FnOK Tryz.prog z0N_e := yN (g := ySe) (fn := Tryz.f155) yC yM eNil (by kernel_rfl) (by kernel_rfl) (by kernel_rfl) (fun x y h => let ⟨n, hn⟩ := yM9 x.1 y h; ⟨yLa n, iNil, (yRr n x).trans hn⟩)
abbrev zG_a : Ty := .pair t28 (.pair t181 .unit)
abbrev zG_r : Ty := .pair t3 .unit
def zG_g : G := { T := T, E := [], muts := [], fz := [] }
def zG_k : List (List Nat) := [[0, 1, 7, 8]]
def yQM (n : Nat) : Ann := { keep := zG_k, fuel := n, inl := [], deep := 0 }
def yIJ (n : Nat) (r0 : List Int → (Int × Unit → Option (Bool × Unit)) → Int → Int → Option (Int × Unit)) (s0_0 : List Int) (f1_0 : Int × Unit → Option (Bool × Unit)) (t7_0 : Int) (t8_0 : Int) : Option (Int × Unit) :=
 (bif decide (t8_0 < t7_0) then (Option.bind (idx s0_0 t8_0) fun (v1 : Int) => (Option.bind (f1_0 (v1, ())) fun (v2 : Bool × Unit) => (bif v2.1 then some (t8_0, ()) else r0 s0_0 f1_0 t7_0 (IntKind.i64.wrap (t8_0 + (1 : Int)))))) else some ((-1 : Int), ()))
def y9d (n : Nat)  (k : Nat) (s0_0 : List Int) (f1_0 : Int × Unit → Option (Bool × Unit)) (t7_0 : Int) (t8_0 : Int) : Option (Int × Unit) :=
 iter (fun r y => yIJ n (fun s0_0 f1_0 t7_0 t8_0 => r ((s0_0, (f1_0, (t7_0, (t8_0, ())))), ((), ()))) y.1.1 y.1.2.1 y.1.2.2.1 y.1.2.2.2.1) k ((s0_0, (f1_0, (t7_0, (t8_0, ())))), ((), ()))
def zG_m (n : Nat) (s : List Int) (f : Int × Unit → Option (Bool × Unit)) : Option (Int × Unit) :=
 (y9d n n (s) (f) ((↑s.length : Int)) ((0 : Int)))
theorem yVZ (n : Nat) (x : zG_a.den) : runF zG_g (yQM n) Tryz.f160 zG_a zG_r x = zG_m n x.1 x.2.1 := by kernel_rfl
def y9Y (s0_0 : List Int) (f1_0 : Int × Unit → Option (Bool × Unit)) (t8_0 : Int) (v1 : Int) : Option ((Int × Unit) ⊕ Unit) :=
 (Option.bind (f1_0 (v1, ())) fun (v2 : Bool × Unit) => (bif v2.1 then (some (Sum.inl ((t8_0, ())))) else (some (Sum.inr ()))))
def yHD (s0_0 : List Int) (f1_0 : Int × Unit → Option (Bool × Unit)) : Option (Int × Unit) :=
 (some (((-1 : Int), ())))
theorem yEp (n : Nat) (hn : big ≤ n)  (s0_0 : List Int) (f1_0 : Int × Unit → Option (Bool × Unit)) (hx : List.length (s0_0) < lenMax) : LeF some (yI (fun i__ e__ s__ => y9Y s0_0 f1_0 i__ e__) (fun s__ => yHD s0_0 f1_0) 0 (s0_0) ()) (y9d n n s0_0 f1_0 (List.length (s0_0) : Int) 0) := by
 refine yJ (f := some) (W := fun k__ i__ s__ => y9d n k__ s0_0 f1_0 (List.length (s0_0) : Int) i__) (body := (fun i__ e__ s__ => y9Y s0_0 f1_0 i__ e__)) (fin := (fun s__ => yHD s0_0 f1_0)) (fun k__ i__ s__ => ?_) hx () n (by unfold big at hn; unfold lenMax at hx; omega)
 show LeF _ _ (yIJ n (y9d n k__) s0_0 f1_0 (List.length (s0_0) : Int) i__)
 exact y0 (y7 fun v1 => (y7 fun v2 => (y0 (y3 rfl) (y3 rfl)))) (yo (y3 rfl))
def zG_M (s : List Int) (f : Int × Unit → Option (Bool × Unit)) : Option (Int × Unit) :=
 (bif decide (List.length (s) < lenMax) then yI (fun i__ e__ s__ => y9Y (s) (f) i__ e__) (fun s__ => yHD (s) (f)) 0 (s) () else none)
theorem yR2 (s : List Int) (f : Int × Unit → Option (Bool × Unit)) (y : Int × Unit) (h : zG_M s f = some y) : ∃ n, zG_m n s f = some y :=
 ⟨big, LeF.top (show LeF some (zG_M s f) (zG_m big s f) from (fun (n : Nat) (hn : big ≤ n) => show LeF some (zG_M s f) (zG_m n s f) from (yK fun hx => by apply yEp n hn; exact hx)) big (Nat.le_refl _)) h⟩
def zG_e : Entry := { f := 160, args := zG_a, ress := zG_r, m := fun x => zG_M x.1 x.2.1 }
theorem yVm : FnOK Tryz.prog zG_e := yN (g := zG_g) (fn := Tryz.f160) yC yM eNil (by kernel_rfl) (by kernel_rfl) (by kernel_rfl) (fun x y h => let ⟨n, hn⟩ := yR2 x.1 x.2.1 y h; ⟨yQM n, iNil, (yVZ n x).trans hn⟩)
abbrev yN4 : Ty := .pair t131 .unit
abbrev yPi : Ty := .pair t131 .unit
def yRx : G := { T := T, E := [], muts := [], fz := [] }
def yWF : List (List Nat) := []
def yLi (n : Nat) : Ann := { keep := yWF, fuel := n, inl := [], deep := 0 }
def yKZ (n : Nat) (f : Fai) : Option (Fai × Unit) :=
 some ((f.1, (0 : Int), (0 : Int), (0 : Int), ()), ())
theorem yTX (n : Nat) (x : yN4.den) : runF yRx (yLi n) Tryz.f162 yN4 yPi x = yKZ n x.1 := by kernel_rfl
def z0I (f : Fai) : (Fai × Unit) :=
 ((f.1, (0 : Int), (0 : Int), (0 : Int), ()), ())
abbrev yIW (f : Fai) : Option (Fai × Unit) := some (z0I f)
theorem yNz (f : Fai) (y : Fai × Unit) (h : yIW f = some y) : ∃ n, yKZ n f = some y :=
 ⟨0, by rw [← h]; show yKZ 0 f = some (z0I f); unfold yKZ z0I; first | rfl | (simp only [yG]; done) | (simp only [yG]; rfl)⟩
def z0I_e : Entry := { f := 162, args := yN4, ress := yPi, m := fun x => yIW x.1 }
theorem ySi : FnOK Tryz.prog z0I_e := yN (g := yRx) (fn := Tryz.f162) yC yM eNil (by kernel_rfl) (by kernel_rfl) (by kernel_rfl) (fun x y h => let ⟨n, hn⟩ := yNz x.1 y h; ⟨yLi n, iNil, (yTX n x).trans hn⟩)
abbrev yN2 : Ty := .pair t131 (.pair t3 (.pair t55 .unit))
abbrev yQD : Ty := .pair t55 (.pair t4 .unit)
def yRL : G := { T := T, E := [], muts := [], fz := [] }
def yWb : List (List Nat) := []
def yKy (n : Nat) : Ann := { keep := yWb, fuel := n, inl := [], deep := 0 }
def yK3 (n : Nat) (p0 : Fai) (p1 : Int) (p2 : List UInt8 × Int × Unit) : Option ((List UInt8 × Int × Unit) × Bool × Unit) :=
 some ((p2.1, p2.2.1, ()), Bool.true, ())
theorem yTk (n : Nat) (x : yN2.den) : runF yRL (yKy n) Tryz.f163 yN2 yQD x = yK3 n x.1 x.2.1 x.2.2.1 := by kernel_rfl
def z0J (p0 : Fai) (p1 : Int) (p2 : List UInt8 × Int × Unit) : ((List UInt8 × Int × Unit) × Bool × Unit) :=
 ((p2.1, p2.2.1, ()), Bool.true, ())
abbrev yIe (p0 : Fai) (p1 : Int) (p2 : List UInt8 × Int × Unit) : Option ((List UInt8 × Int × Unit) × Bool × Unit) := some (z0J p0 p1 p2)
theorem yND (p0 : Fai) (p1 : Int) (p2 : List UInt8 × Int × Unit) (y : (List UInt8 × Int × Unit) × Bool × Unit) (h : yIe p0 p1 p2 = some y) : ∃ n, yK3 n p0 p1 p2 = some y :=
 ⟨0, by rw [← h]; show yK3 0 p0 p1 p2 = some (z0J p0 p1 p2); unfold yK3 z0J; first | rfl | (simp only [yG]; done) | (simp only [yG]; rfl)⟩
def z0J_e : Entry := { f := 163, args := yN2, ress := yQD, m := fun x => yIe x.1 x.2.1 x.2.2.1 }
theorem yTm : FnOK Tryz.prog z0J_e := yN (g := yRL) (fn := Tryz.f163) yC yM eNil (by kernel_rfl) (by kernel_rfl) (by kernel_rfl) (fun x y h => let ⟨n, hn⟩ := yND x.1 x.2.1 x.2.2.1 y h; ⟨yKy n, iNil, (yTk n x).trans hn⟩)
abbrev yN9 : Ty := .pair t131 .unit
abbrev yUd : Ty := .pair t131 .unit
def ySZ : G := { T := T, E := [], muts := [], fz := [] }
def yWu : List (List Nat) := []
def yLx (n : Nat) : Ann := { keep := yWu, fuel := n, inl := [], deep := 0 }
def yK4 (n : Nat) (f : Fai) : Option (Fai × Unit) :=
 some ((f.1, f.2.1, (0 : Int), (0 : Int), ()), ())
theorem ySF (n : Nat) (x : yN9.den) : runF ySZ (yLx n) Tryz.f164 yN9 yUd x = yK4 n x.1 := by kernel_rfl
def z0K (f : Fai) : (Fai × Unit) :=
 ((f.1, f.2.1, (0 : Int), (0 : Int), ()), ())
abbrev yIb (f : Fai) : Option (Fai × Unit) := some (z0K f)
theorem yME (f : Fai) (y : Fai × Unit) (h : yIb f = some y) : ∃ n, yK4 n f = some y :=
 ⟨0, by rw [← h]; show yK4 0 f = some (z0K f); unfold yK4 z0K; first | rfl | (simp only [yG]; done) | (simp only [yG]; rfl)⟩
def z0K_e : Entry := { f := 164, args := yN9, ress := yUd, m := fun x => yIb x.1 }
theorem yTJ : FnOK Tryz.prog z0K_e := yN (g := ySZ) (fn := Tryz.f164) yC yM eNil (by kernel_rfl) (by kernel_rfl) (by kernel_rfl) (fun x y h => let ⟨n, hn⟩ := yME x.1 y h; ⟨yLx n, iNil, (ySF n x).trans hn⟩)
abbrev yP5 : Ty := .pair t131 (.pair t3 (.pair t55 .unit))
abbrev yVD : Ty := .pair t55 (.pair t4 .unit)
def ySx : G := { T := T, E := [], muts := [], fz := [] }
def yVW : List (List Nat) := []
def yLS (n : Nat) : Ann := { keep := yVW, fuel := n, inl := [], deep := 0 }
def yJZ (n : Nat) (f : Fai) (p1 : Int) (p2 : List UInt8 × Int × Unit) : Option ((List UInt8 × Int × Unit) × Bool × Unit) :=
 some ((p2.1, p2.2.1, ()), p1 != f.2.1, ())
theorem ySC (n : Nat) (x : yP5.den) : runF ySx (yLS n) Tryz.f165 yP5 yVD x = yJZ n x.1 x.2.1 x.2.2.1 := by kernel_rfl
def z0L (f : Fai) (p1 : Int) (p2 : List UInt8 × Int × Unit) : ((List UInt8 × Int × Unit) × Bool × Unit) :=
 ((p2.1, p2.2.1, ()), p1 != f.2.1, ())
abbrev yGW (f : Fai) (p1 : Int) (p2 : List UInt8 × Int × Unit) : Option ((List UInt8 × Int × Unit) × Bool × Unit) := some (z0L f p1 p2)
theorem yOs (f : Fai) (p1 : Int) (p2 : List UInt8 × Int × Unit) (y : (List UInt8 × Int × Unit) × Bool × Unit) (h : yGW f p1 p2 = some y) : ∃ n, yJZ n f p1 p2 = some y :=
 ⟨0, by rw [← h]; show yJZ 0 f p1 p2 = some (z0L f p1 p2); unfold yJZ z0L; first | rfl | (simp only [yG]; done) | (simp only [yG]; rfl)⟩
def z0L_e : Entry := { f := 165, args := yP5, ress := yVD, m := fun x => yGW x.1 x.2.1 x.2.2.1 }
theorem yRF : FnOK Tryz.prog z0L_e := yN (g := ySx) (fn := Tryz.f165) yC yM eNil (by kernel_rfl) (by kernel_rfl) (by kernel_rfl) (fun x y h => let ⟨n, hn⟩ := yOs x.1 x.2.1 x.2.2.1 y h; ⟨yLS n, iNil, (ySC n x).trans hn⟩)
abbrev yON : Ty := .pair t131 .unit
abbrev yVB : Ty := .pair t131 .unit
def yTL : G := { T := T, E := [], muts := [], fz := [] }
def yWG : List (List Nat) := []
def yKx (n : Nat) : Ann := { keep := yWG, fuel := n, inl := [], deep := 0 }
def yJP (n : Nat) (f : Fai) : Option (Fai × Unit) :=
 some ((f.1, f.2.1, f.2.2.1, f.2.2.2.1, ()), ())
theorem yQF (n : Nat) (x : yON.den) : runF yTL (yKx n) Tryz.f166 yON yVB x = yJP n x.1 := by kernel_rfl
def z0M (f : Fai) : (Fai × Unit) :=
 ((f.1, f.2.1, f.2.2.1, f.2.2.2.1, ()), ())
abbrev yHA (f : Fai) : Option (Fai × Unit) := some (z0M f)
theorem yOh (f : Fai) (y : Fai × Unit) (h : yHA f = some y) : ∃ n, yJP n f = some y :=
 ⟨0, by rw [← h]; show yJP 0 f = some (z0M f); unfold yJP z0M; first | rfl | (simp only [yG]; done) | (simp only [yG]; rfl)⟩
def z0M_e : Entry := { f := 166, args := yON, ress := yVB, m := fun x => yHA x.1 }
theorem yUP : FnOK Tryz.prog z0M_e := yN (g := yTL) (fn := Tryz.f166) yC yM eNil (by kernel_rfl) (by kernel_rfl) (by kernel_rfl) (fun x y h => let ⟨n, hn⟩ := yOh x.1 y h; ⟨yKx n, iNil, (yQF n x).trans hn⟩)
abbrev ze_a : Ty := .pair t131 (.pair t3 (.pair t55 .unit))
abbrev ze_r : Ty := .pair t55 (.pair t4 .unit)
def ze_g : G := { T := T, E := [], muts := [5], fz := [] }
def ze_k : List (List Nat) := []
def yQb (n : Nat) : Ann := { keep := ze_k, fuel := n, inl := [], deep := 0 }
def ze_m (n : Nat) (f : Fai) (p1 : Int) (p2 : List UInt8 × Int × Unit) : Option ((List UInt8 × Int × Unit) × Bool × Unit) :=
 (bif decide (p1 ≥ f.2.1) then (bif decide (f.2.2.1 < (0 : Int)) then none else (bif decide (f.2.2.1 < (0 : Int)) then none else some ((p2.1, yl IntKind.i64 Go.BinOp.or (yl IntKind.i64 Go.BinOp.andNot p2.2.1 (IntKind.i64.wrap ((1 : Int) * (2 : Int) ^ Min.min f.2.2.1.toNat IntKind.i64.bits))) (IntKind.i64.wrap (f.2.2.2.1 * (2 : Int) ^ Min.min f.2.2.1.toNat IntKind.i64.bits)), ()), Bool.true, ()))) else some ((p2.1, p2.2.1, ()), Bool.true, ()))
theorem yVH (n : Nat) (x : ze_a.den) : runF ze_g (yQb n) Tryz.f167 ze_a ze_r x = ze_m n x.1 x.2.1 x.2.2.1 := by kernel_rfl
def ze_M (f : Fai) (p1 : Int) (p2 : List UInt8 × Int × Unit) : Option ((List UInt8 × Int × Unit) × Bool × Unit) := ze_m 0 f p1 p2
theorem ySW (f : Fai) (p1 : Int) (p2 : List UInt8 × Int × Unit) (y : (List UInt8 × Int × Unit) × Bool × Unit) (h : ze_M f p1 p2 = some y) : ∃ n, ze_m n f p1 p2 = some y := ⟨0, h⟩
def ze_e : Entry := { f := 167, args := ze_a, ress := ze_r, m := fun x => ze_M x.1 x.2.1 x.2.2.1 }
theorem yVd : FnOK Tryz.prog ze_e := yN (g := ze_g) (fn := Tryz.f167) yC yM eNil (by kernel_rfl) (by kernel_rfl) (by kernel_rfl) (fun x y h => let ⟨n, hn⟩ := ySW x.1 x.2.1 x.2.2.1 y h; ⟨yQb n, iNil, (yVH n x).trans hn⟩)
end
end Go.Tw
end
