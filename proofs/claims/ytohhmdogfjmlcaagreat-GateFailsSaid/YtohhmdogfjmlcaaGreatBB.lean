import Derived.Test.YtohhmdogfjmlcaaGreatBT
import Derived.Test.YtohhmdogfjmlcaaGreatB0
import Derived.Test.YtohhmdogfjmlcaaGreatBS
import Derived.Test.YtohhmdogfjmlcaaGreatLP
import Derived.Test.YtohhmdogfjmlcaaGreatBA
section
set_option linter.all false
set_option maxRecDepth 1000000
namespace Go.Tw
open Go.Vx Go.Vx.B Go.Proofs
noncomputable section
abbrev yMJ : Ty := .pair t25 .unit
abbrev yUf : Ty := .pair t37 .unit
def yPY : G := { T := T, E := [z0F_e], muts := [3], fz := [] }
def yXa : List (List Nat) := [[1, 3, 4]]
def yL0 (n : Nat) : Ann := { keep := yXa, fuel := n, inl := [], deep := 0 }
def yEY (n : Nat) (r0 : Cha → Int → List (List UInt8) → Option (List (List UInt8) × Unit)) (c1_0 : Cha) (i4_0 : Int) (c0_0 : List (List UInt8)) : Option (List (List UInt8) × Unit) :=
  (bif decide (i4_0 < (↑c1_0.2.1.length : Int)) then (Option.bind (idx c1_0.2.1 i4_0) fun (v1 : Tra) => (Option.bind (yBP c0_0 v1.2.1) fun (v2 : Bool × Unit) => (bif !v2.1 then (Option.bind (idx c1_0.2.1 i4_0) fun (v3 : Tra) => (bif decide (c0_0.length + (1 : Nat) ≤ memMax) then r0 c1_0 (IntKind.i64.wrap (i4_0 + 1)) (c0_0 ++ [v3.2.1]) else none)) else r0 c1_0 (IntKind.i64.wrap (i4_0 + 1)) c0_0))) else some (c0_0, ()))
def y69 (n : Nat)  (k : Nat) (c1_0 : Cha) (i4_0 : Int) (c0_0 : List (List UInt8)) : Option (List (List UInt8) × Unit) :=
  iter (fun r y => yEY n (fun c1_0 i4_0 c0_0 => r ((c1_0, (i4_0, ())), ((c0_0, ()), ()))) y.1.1 y.1.2.1 y.2.1.1) k ((c1_0, (i4_0, ())), ((c0_0, ()), ()))
def yJZ (n : Nat) (c : Cha) : Option (List (List UInt8) × Unit) :=
  (y69 n n (c) ((0 : Int)) ([]))
theorem yTX (n : Nat) (x : yMJ.den) : runF yPY (yL0 n) Tryz.f22 yMJ yUf x = yJZ n x.1 := by kernel_rfl
def yB7 (c1_0 : Cha) (i4_0 : Int) (v1 : Tra) (c0_0 : List (List UInt8)) : Option ((List (List UInt8) × Unit) ⊕ (List (List UInt8))) :=
  (Option.bind (yBP c0_0 v1.2.1) fun (v2 : Bool × Unit) => (bif !v2.1 then (Option.bind (idx c1_0.2.1 i4_0) fun (v3 : Tra) => (bif decide (c0_0.length + (1 : Nat) ≤ memMax) then (some (Sum.inr (c0_0 ++ [v3.2.1]))) else none)) else (some (Sum.inr (c0_0)))))
def yDs (c1_0 : Cha) (c0_0 : List (List UInt8)) : Option (List (List UInt8) × Unit) :=
  (some ((c0_0, ())))
theorem yCl (n : Nat) (hn : big ≤ n)  (c1_0 : Cha) (c0_0 : List (List UInt8)) (hx : List.length (c1_0.2.1) < lenMax) : LeF some (yI (fun i__ e__ s__ => yB7 c1_0 i__ e__ s__) (fun s__ => yDs c1_0 s__) 0 (c1_0.2.1) c0_0) (y69 n n c1_0 0 c0_0) := by
  refine yJ (f := some) (W := fun k__ i__ s__ => y69 n k__ c1_0 i__ s__) (body := (fun i__ e__ s__ => yB7 c1_0 i__ e__ s__)) (fin := (fun s__ => yDs c1_0 s__)) (fun k__ i__ s__ => ?_) hx c0_0 n (by unfold big at hn; unfold lenMax at hx; omega)
  show LeF _ _ (yEY n (y69 n k__) c1_0 i__ s__)
  exact y0 (y7 fun v1 => (y7 fun v2 => (y0 (y7 fun v3 => (y0 (y3 rfl) yc)) (y3 rfl)))) (yo (y3 rfl))
def y7n (c : Cha) : Option (List (List UInt8) × Unit) :=
  (bif decide (List.length (c.2.1) < lenMax) then yI (fun i__ e__ s__ => yB7 (c) i__ e__ s__) (fun s__ => yDs (c) s__) 0 (c.2.1) ([]) else none)
theorem yO3 (c : Cha) (y : List (List UInt8) × Unit) (h : y7n c = some y) : ∃ n, yJZ n c = some y :=
  ⟨big, LeF.top (show LeF some (y7n c) (yJZ big c) from (fun (n : Nat) (hn : big ≤ n) => show LeF some (y7n c) (yJZ n c) from (yK fun hx => by apply yCl n hn; exact hx)) big (Nat.le_refl _)) h⟩
def z0R_e : Entry := { f := 22, args := yMJ, ress := yUf, m := fun x => y7n x.1 }
theorem yLs : FnOK Tryz.prog z0R_e := yN (g := yPY) (fn := Tryz.f22) yC yM (yA yRN eNil) (by kernel_rfl) (by kernel_rfl) (by kernel_rfl) (fun x y h => let ⟨n, hn⟩ := yO3 x.1 y h; ⟨yL0 n, iNil, (yTX n x).trans hn⟩)
abbrev yOA : Ty := .pair t28 .unit
abbrev yTb : Ty := .pair t3 .unit
def yV1 : G := { T := T, E := [z0d_e], muts := [], fz := [] }
def yWM : List (List Nat) := []
def yLG (n : Nat) : Ann := { keep := yWM, fuel := n, inl := [], deep := 0 }
def yKL (n : Nat) (l : List Int) : Option (Int × Unit) :=
  (Option.bind (y71 l) fun (v0 : Int × Unit) => some (v0.1, ()))
theorem yUW (n : Nat) (x : yOA.den) : runF yV1 (yLG n) Tryz.f32 yOA yTb x = yKL n x.1 := by kernel_rfl
def yIV (l : List Int) : Option (Int × Unit) := yKL 0 l
theorem yP2 (l : List Int) (y : Int × Unit) (h : yIV l = some y) : ∃ n, yKL n l = some y := ⟨0, h⟩
def z0c_e : Entry := { f := 32, args := yOA, ress := yTb, m := fun x => yIV x.1 }
theorem yUq : FnOK Tryz.prog z0c_e := yN (g := yV1) (fn := Tryz.f32) yC yM (yA yDd eNil) (by kernel_rfl) (by kernel_rfl) (by kernel_rfl) (fun x y h => let ⟨n, hn⟩ := yP2 x.1 y h; ⟨yLG n, iNil, (yUW n x).trans hn⟩)
abbrev zi_a : Ty := .pair t127 .unit
abbrev zi_r : Ty := .pair t4 .unit
def zi_g : G := { T := T, E := [z0e_e, zl_e, z04_e], muts := [], fz := [] }
def zi_k : List (List Nat) := []
def ySD (n : Nat) : Ann := { keep := zi_k, fuel := n, inl := [], deep := 0 }
def zi_m (n : Nat) (d : Cha × List (List UInt8 × Int × Unit) × Goa × Unit) : Option (Bool × Unit) :=
  (Option.bind (yC0 d.1) fun (v0 : Bool × Unit) => (bif v0.1 then (Option.bind (zl_M d.2.1) fun (v1 : Bool × Unit) => (bif v1.1 then some ((z04 d.2.2.1).1, ()) else some (Bool.false, ()))) else some (Bool.false, ())))
theorem yWP (n : Nat) (x : zi_a.den) : runF zi_g (ySD n) Tryz.f75 zi_a zi_r x = zi_m n x.1 := by kernel_rfl
def zi_M (d : Cha × List (List UInt8 × Int × Unit) × Goa × Unit) : Option (Bool × Unit) := zi_m 0 d
theorem yRV (d : Cha × List (List UInt8 × Int × Unit) × Goa × Unit) (y : Bool × Unit) (h : zi_M d = some y) : ∃ n, zi_m n d = some y := ⟨0, h⟩
def zi_e : Entry := { f := 75, args := zi_a, ress := zi_r, m := fun x => zi_M x.1 }
theorem yXW : FnOK Tryz.prog zi_e := yN (g := zi_g) (fn := Tryz.f75) yC yM (yA yQT (yA yWs (yA yPm eNil))) (by kernel_rfl) (by kernel_rfl) (by kernel_rfl) (fun x y h => let ⟨n, hn⟩ := yRV x.1 y h; ⟨ySD n, iNil, (yWP n x).trans hn⟩)
abbrev yNu : Ty := .pair t125 .unit
abbrev yTP : Ty := .pair t134 .unit
def ySf : G := { T := T, E := [z0o_e], muts := [], fz := [] }
def yW3 : List (List Nat) := []
def yM2 (n : Nat) : Ann := { keep := yW3, fuel := n, inl := [], deep := 0 }
def yH0 (n : Nat) (g : Goa) : Option (Goa × Unit) :=
  (Option.bind (yEk g.1) fun (v0 : List Int × Unit) => (Option.bind (yEk g.2.1) fun (v1 : List Int × Unit) => some ((v0.1, v1.1, g.2.2.1, g.2.2.2.1, ()), ())))
theorem yPw (n : Nat) (x : yNu.den) : runF ySf (yM2 n) Tryz.f78 yNu yTP x = yH0 n x.1 := by kernel_rfl
def y7g (g : Goa) : Option (Goa × Unit) := yH0 0 g
theorem yOO (g : Goa) (y : Goa × Unit) (h : y7g g = some y) : ∃ n, yH0 n g = some y := ⟨0, h⟩
def z0n_e : Entry := { f := 78, args := yNu, ress := yTP, m := fun x => y7g x.1 }
theorem yQQ : FnOK Tryz.prog z0n_e := yN (g := ySf) (fn := Tryz.f78) yC yM (yA yI5 eNil) (by kernel_rfl) (by kernel_rfl) (by kernel_rfl) (fun x y h => let ⟨n, hn⟩ := yOO x.1 y h; ⟨yM2 n, iNil, (yPw n x).trans hn⟩)
abbrev zZ_a : Ty := .pair t35 .unit
abbrev zZ_r : Ty := .pair t28 .unit
def zZ_g : G := { T := T, E := [zL_e, zg_e, zB_e, zV_e], muts := [3], fz := [] }
def zZ_k : List (List Nat) := [[3, 7, 8, 9]]
def yUH (n : Nat) : Ann := { keep := zZ_k, fuel := n, inl := [], deep := 0 }
def yGH (n : Nat) (r0 : List Sta → Int → Int → List (Sta × Int × Unit) → Option (List Int × Unit)) (t7_0 : List Sta) (t8_0 : Int) (t9_0 : Int) (c0_0 : List (Sta × Int × Unit)) : Option (List Int × Unit) :=
  (bif decide (t9_0 < t8_0) then (Option.bind (idx t7_0 t9_0) fun (v1 : Sta) => (bif decide (c0_0.length + (1 : Nat) ≤ memMax) then r0 t7_0 t8_0 (IntKind.i64.wrap (t9_0 + 1)) (c0_0 ++ [((v1.1, v1.2.1, v1.2.2.1, v1.2.2.2.1, ()), t9_0, ())]) else none)) else (Option.bind (zL_M c0_0 fun (x : (Sta × Int × Unit) × Unit) => zg_M x.1) fun (v2 : List (Sta × Int × Unit) × Unit) => (Option.bind (zB_M v2.1 fun (x : (Sta × Int × Unit) × Unit) => zV_M x.1) fun (v3 : List Int × Unit) => some (v3.1, ()))))
def yAB (n : Nat)  (k : Nat) (t7_0 : List Sta) (t8_0 : Int) (t9_0 : Int) (c0_0 : List (Sta × Int × Unit)) : Option (List Int × Unit) :=
  iter (fun r y => yGH n (fun t7_0 t8_0 t9_0 c0_0 => r ((t7_0, (t8_0, (t9_0, ()))), ((c0_0, ()), ()))) y.1.1 y.1.2.1 y.1.2.2.1 y.2.1.1) k ((t7_0, (t8_0, (t9_0, ()))), ((c0_0, ()), ()))
def zZ_m (n : Nat) (c : Cha) : Option (List Int × Unit) :=
  (yAB n n (c.1) ((↑c.1.length : Int)) ((0 : Int)) ([]))
theorem yXd (n : Nat) (x : zZ_a.den) : runF zZ_g (yUH n) Tryz.f86 zZ_a zZ_r x = zZ_m n x.1 := by kernel_rfl
def yP3 (t7_0 : List Sta) (t9_0 : Int) (v1 : Sta) (c0_0 : List (Sta × Int × Unit)) : Option ((List Int × Unit) ⊕ (List (Sta × Int × Unit))) :=
  (bif decide (c0_0.length + (1 : Nat) ≤ memMax) then (some (Sum.inr (c0_0 ++ [((v1.1, v1.2.1, v1.2.2.1, v1.2.2.2.1, ()), t9_0, ())]))) else none)
def yNy (t7_0 : List Sta) (c0_0 : List (Sta × Int × Unit)) : Option (List Int × Unit) :=
  (Option.bind (zL_M c0_0 fun (x : (Sta × Int × Unit) × Unit) => zg_M x.1) fun (v2 : List (Sta × Int × Unit) × Unit) => (Option.bind (zB_M v2.1 fun (x : (Sta × Int × Unit) × Unit) => zV_M x.1) fun (v3 : List Int × Unit) => (some ((v3.1, ())))))
theorem yFg (n : Nat) (hn : big ≤ n)  (t7_0 : List Sta) (c0_0 : List (Sta × Int × Unit)) (hx : List.length (t7_0) < lenMax) : LeF some (yI (fun i__ e__ s__ => yP3 t7_0 i__ e__ s__) (fun s__ => yNy t7_0 s__) 0 (t7_0) c0_0) (yAB n n t7_0 (List.length (t7_0) : Int) 0 c0_0) := by
  refine yJ (f := some) (W := fun k__ i__ s__ => yAB n k__ t7_0 (List.length (t7_0) : Int) i__ s__) (body := (fun i__ e__ s__ => yP3 t7_0 i__ e__ s__)) (fin := (fun s__ => yNy t7_0 s__)) (fun k__ i__ s__ => ?_) hx c0_0 n (by unfold big at hn; unfold lenMax at hx; omega)
  show LeF _ _ (yGH n (yAB n k__) t7_0 (List.length (t7_0) : Int) i__ s__)
  exact y0 (y7 fun v1 => (y0 (y3 rfl) yc)) (yo (y7 fun v2 => (y7 fun v3 => (y3 rfl))))
def zZ_M (c : Cha) : Option (List Int × Unit) :=
  (bif decide (List.length (c.1) < lenMax) then yI (fun i__ e__ s__ => yP3 (c.1) i__ e__ s__) (fun s__ => yNy (c.1) s__) 0 (c.1) ([]) else none)
theorem yU3 (c : Cha) (y : List Int × Unit) (h : zZ_M c = some y) : ∃ n, zZ_m n c = some y :=
  ⟨big, LeF.top (show LeF some (zZ_M c) (zZ_m big c) from (fun (n : Nat) (hn : big ≤ n) => show LeF some (zZ_M c) (zZ_m n c) from (yK fun hx => by apply yFg n hn; exact hx)) big (Nat.le_refl _)) h⟩
def zZ_e : Entry := { f := 86, args := zZ_a, ress := zZ_r, m := fun x => zZ_M x.1 }
theorem yUU : FnOK Tryz.prog zZ_e := yN (g := zZ_g) (fn := Tryz.f86) yC yM (yA yWV (yA yWk (yA yVF (yA yXV eNil)))) (by kernel_rfl) (by kernel_rfl) (by kernel_rfl) (fun x y h => let ⟨n, hn⟩ := yU3 x.1 y h; ⟨yUH n, iNil, (yXd n x).trans hn⟩)
abbrev yNA : Ty := .pair t9 .unit
abbrev ySi : Ty := .pair t3 .unit
def yRn : G := { T := T, E := [z0Q_e], muts := [], fz := [] }
def yVL : List (List Nat) := []
def yLR (n : Nat) : Ann := { keep := yVL, fuel := n, inl := [], deep := 0 }
def yKX (n : Nat) (s : List UInt8) : Option (Int × Unit) :=
  (Option.bind (yCu s) fun (v0 : Bool × Unit) => (bif !v0.1 then some ((8 : Int), ()) else some ((0 : Int), ())))
theorem yRd (n : Nat) (x : yNA.den) : runF yRn (yLR n) Tryz.f89 yNA ySi x = yKX n x.1 := by kernel_rfl
def y93 (s : List UInt8) : Option (Int × Unit) := yKX 0 s
theorem yP1 (s : List UInt8) (y : Int × Unit) (h : y93 s = some y) : ∃ n, yKX n s = some y := ⟨0, h⟩
def z00_e : Entry := { f := 89, args := yNA, ress := ySi, m := fun x => y93 x.1 }
theorem yM0 : FnOK Tryz.prog z00_e := yN (g := yRn) (fn := Tryz.f89) yC yM (yA yQm eNil) (by kernel_rfl) (by kernel_rfl) (by kernel_rfl) (fun x y h => let ⟨n, hn⟩ := yP1 x.1 y h; ⟨yLR n, iNil, (yRd n x).trans hn⟩)
abbrev zO_a : Ty := .pair t35 (.pair t3 .unit)
abbrev zO_r : Ty := .pair t29 .unit
def zO_g : G := { T := T, E := [z0v_e], muts := [], fz := [] }
def zO_k : List (List Nat) := []
def yTZ (n : Nat) : Ann := { keep := zO_k, fuel := n, inl := [], deep := 0 }
def zO_m (n : Nat) (c : Cha) (leaf : Int) : Option (Int × Unit) :=
  (bif decide (leaf < 0) then some ((10 : Int), ()) else (bif decide (leaf ≥ (↑c.1.length : Int)) then some ((10 : Int), ()) else (Option.bind (idx c.1 leaf) fun (v2 : Sta) => some ((z0v (v2.2.2.1 != (-1 : Int)) (20 : Int)).1, ()))))
theorem yWB (n : Nat) (x : zO_a.den) : runF zO_g (yTZ n) Tryz.f101 zO_a zO_r x = zO_m n x.1 x.2.1 := by kernel_rfl
def zO_M (c : Cha) (leaf : Int) : Option (Int × Unit) := zO_m 0 c leaf
theorem yRB (c : Cha) (leaf : Int) (y : Int × Unit) (h : zO_M c leaf = some y) : ∃ n, zO_m n c leaf = some y := ⟨0, h⟩
def zO_e : Entry := { f := 101, args := zO_a, ress := zO_r, m := fun x => zO_M x.1 x.2.1 }
theorem yVZ : FnOK Tryz.prog zO_e := yN (g := zO_g) (fn := Tryz.f101) yC yM (yA y44 eNil) (by kernel_rfl) (by kernel_rfl) (by kernel_rfl) (fun x y h => let ⟨n, hn⟩ := yRB x.1 x.2.1 y h; ⟨yTZ n, iNil, (yWB n x).trans hn⟩)
abbrev yNB : Ty := .pair t3 (.pair t3 (.pair t3 .unit))
abbrev yQY : Ty := .pair t29 .unit
def yRO : G := { T := T, E := [z0v_e], muts := [], fz := [] }
def yWa : List (List Nat) := []
def yLS (n : Nat) : Ann := { keep := yWa, fuel := n, inl := [], deep := 0 }
def yKY (n : Nat) (n1 : Int) (least : Int) (most : Int) : Option (Int × Unit) :=
  (bif decide (n1 < least) then some ((z0v Bool.true (3 : Int)).1, ()) else some ((z0v (decide (n1 > most)) (3 : Int)).1, ()))
theorem yRS (n : Nat) (x : yNB.den) : runF yRO (yLS n) Tryz.f108 yNB yQY x = yKY n x.1 x.2.1 x.2.2.1 := by kernel_rfl
def z0Z (n1 : Int) (least : Int) (most : Int) : (Int × Unit) :=
  (bif decide (n1 < least) then ((z0v Bool.true (3 : Int)).1, ()) else ((z0v (decide (n1 > most)) (3 : Int)).1, ()))
abbrev yUB (n1 : Int) (least : Int) (most : Int) : Option (Int × Unit) := some (z0Z n1 least most)
theorem yMK (n1 : Int) (least : Int) (most : Int) (y : Int × Unit) (h : yUB n1 least most = some y) : ∃ n, yKY n n1 least most = some y :=
  ⟨0, by rw [← h]; show yKY 0 n1 least most = some (z0Z n1 least most); unfold yKY z0Z; first | rfl | (simp only [yG]; done) | (simp only [yG]; rfl)⟩
def z0Z_e : Entry := { f := 108, args := yNB, ress := yQY, m := fun x => yUB x.1 x.2.1 x.2.2.1 }
theorem y8h : FnOK Tryz.prog z0Z_e := yN (g := yRO) (fn := Tryz.f108) yC yM (yA y44 eNil) (by kernel_rfl) (by kernel_rfl) (by kernel_rfl) (fun x y h => let ⟨n, hn⟩ := yMK x.1 x.2.1 x.2.2.1 y h; ⟨yLS n, iNil, (yRS n x).trans hn⟩)
abbrev yOs : Ty := .pair t112 (.pair t167 (.pair (.ref t35) .unit))
abbrev yPR : Ty := .pair t4 .unit
def yUE : G := { T := T, E := [z0Y_e], muts := [], fz := [] }
def yW6 : List (List Nat) := []
def yLJ (n : Nat) : Ann := { keep := yW6, fuel := n, inl := [], deep := 0 }
def yOf (n : Nat) (x1 : Cas) (o : Int × Bool × Bool × Unit) (p2 : Cha) : Option (Bool × Unit) :=
  (bif yl IntKind.i64 Go.BinOp.and x1.2.2.1 (1 : Int) != 0 then (bif !o.2.2.1 then (Option.bind (idx p2.1 o.1) fun (v0 : Sta) => some (v0.2.2.2.1, ())) else some (Bool.false, ())) else some (Bool.false, ()))
theorem yT7 (n : Nat) (x : yOs.den) : runF yUE (yLJ n) Tryz.f118 yOs yPR x = yOf n x.1 x.2.1 x.2.2.1 := by kernel_rfl
def yN3 (x1 : Cas) (o : Int × Bool × Bool × Unit) (p2 : Cha) : Option (Bool × Unit) := yOf 0 x1 o p2
theorem yNa (x1 : Cas) (o : Int × Bool × Bool × Unit) (p2 : Cha) (y : Bool × Unit) (h : yN3 x1 o p2 = some y) : ∃ n, yOf n x1 o p2 = some y := ⟨0, h⟩
def z05_e : Entry := { f := 118, args := yOs, ress := yPR, m := fun x => yN3 x.1 x.2.1 x.2.2.1 }
theorem yS5 : FnOK Tryz.prog z05_e := yN (g := yUE) (fn := Tryz.f118) yC yM (yA yL6 eNil) (by kernel_rfl) (by kernel_rfl) (by kernel_rfl) (fun x y h => let ⟨n, hn⟩ := yNa x.1 x.2.1 x.2.2.1 y h; ⟨yLJ n, iNil, (yT7 n x).trans hn⟩)
abbrev zH_a : Ty := .pair t28 (.pair t3 .unit)
abbrev zH_r : Ty := .pair t4 .unit
def zH_g : G := { T := T, E := [zS_e], muts := [], fz := [] }
def zH_k : List (List Nat) := []
def yQv (n : Nat) : Ann := { keep := zH_k, fuel := n, inl := [], deep := 0 }
def zH_m (n : Nat) (s : List Int) (v : Int) : Option (Bool × Unit) :=
  (Option.bind (zS_M s v) fun (v0 : Int × Unit) => some (decide (v0.1 ≥ 0), ()))
theorem yWt (n : Nat) (x : zH_a.den) : runF zH_g (yQv n) Tryz.f125 zH_a zH_r x = zH_m n x.1 x.2.1 := by kernel_rfl
def zH_M (s : List Int) (v : Int) : Option (Bool × Unit) := zH_m 0 s v
theorem yRJ (s : List Int) (v : Int) (y : Bool × Unit) (h : zH_M s v = some y) : ∃ n, zH_m n s v = some y := ⟨0, h⟩
def zH_e : Entry := { f := 125, args := zH_a, ress := zH_r, m := fun x => zH_M x.1 x.2.1 }
theorem yJm : FnOK Tryz.prog zH_e := yN (g := zH_g) (fn := Tryz.f125) yC yM (yA yVY eNil) (by kernel_rfl) (by kernel_rfl) (by kernel_rfl) (fun x y h => let ⟨n, hn⟩ := yRJ x.1 x.2.1 y h; ⟨yQv n, iNil, (yWt n x).trans hn⟩)
abbrev yOp : Ty := .pair t25 (.pair t3 (.pair t125 .unit))
abbrev yUu : Ty := .pair t3 .unit
def yUa : G := { T := T, E := [zk_e, zr_e, z0d_e], muts := [], fz := [] }
def yVt : List (List Nat) := []
def yLW (n : Nat) : Ann := { keep := yVt, fuel := n, inl := [], deep := 0 }
def yKI (n : Nat) (c : Cha) (n1 : Int) (g : Goa) : Option (Int × Unit) :=
  (Option.bind (zk_M c g.1) fun (v0 : Int × Unit) => (Option.bind (zk_M c g.2.1) fun (v1 : Int × Unit) => (Option.bind (y71 [v0.1, v1.1, (zr g.2.2.1 (0 : Int) n1).1, (zr g.2.2.2.1 (0 : Int) n1).1]) fun (v2 : Int × Unit) => some (v2.1, ()))))
theorem yQX (n : Nat) (x : yOp.den) : runF yUa (yLW n) Tryz.f130 yOp yUu x = yKI n x.1 x.2.1 x.2.2.1 := by kernel_rfl
def yGr (c : Cha) (n1 : Int) (g : Goa) : Option (Int × Unit) := yKI 0 c n1 g
theorem yOa (c : Cha) (n1 : Int) (g : Goa) (y : Int × Unit) (h : yGr c n1 g = some y) : ∃ n, yKI n c n1 g = some y := ⟨0, h⟩
def z03_e : Entry := { f := 130, args := yOp, ress := yUu, m := fun x => yGr x.1 x.2.1 x.2.2.1 }
theorem yT8 : FnOK Tryz.prog z03_e := yN (g := yUa) (fn := Tryz.f130) yC yM (yA yVJ (yA yOQ (yA yDd eNil))) (by kernel_rfl) (by kernel_rfl) (by kernel_rfl) (fun x y h => let ⟨n, hn⟩ := yOa x.1 x.2.1 x.2.2.1 y h; ⟨yLW n, iNil, (yQX n x).trans hn⟩)
abbrev zA_a : Ty := .pair t37 (.pair t9 .unit)
abbrev zA_r : Ty := .pair t4 .unit
def zA_g : G := { T := T, E := [zD_e], muts := [], fz := [] }
def zA_k : List (List Nat) := []
def ySy (n : Nat) : Ann := { keep := zA_k, fuel := n, inl := [], deep := 0 }
def zA_m (n : Nat) (s : List (List UInt8)) (v : List UInt8) : Option (Bool × Unit) :=
  (Option.bind (zD_M s v) fun (v0 : Int × Unit) => some (decide (v0.1 ≥ 0), ()))
theorem yW8 (n : Nat) (x : zA_a.den) : runF zA_g (ySy n) Tryz.f135 zA_a zA_r x = zA_m n x.1 x.2.1 := by kernel_rfl
def zA_M (s : List (List UInt8)) (v : List UInt8) : Option (Bool × Unit) := zA_m 0 s v
theorem yUQ (s : List (List UInt8)) (v : List UInt8) (y : Bool × Unit) (h : zA_M s v = some y) : ∃ n, zA_m n s v = some y := ⟨0, h⟩
def zA_e : Entry := { f := 135, args := zA_a, ress := zA_r, m := fun x => zA_M x.1 x.2.1 }
theorem yX1 : FnOK Tryz.prog zA_e := yN (g := zA_g) (fn := Tryz.f135) yC yM (yA yVV eNil) (by kernel_rfl) (by kernel_rfl) (by kernel_rfl) (fun x y h => let ⟨n, hn⟩ := yUQ x.1 x.2.1 y h; ⟨ySy n, iNil, (yW8 n x).trans hn⟩)
abbrev yMO : Ty := .pair t9 .unit
abbrev yQl : Ty := .pair t29 .unit
def yT2 : G := { T := T, E := [z0N_e, z0v_e], muts := [], fz := [] }
def yXc : List (List Nat) := []
def yL9 (n : Nat) : Ann := { keep := yXc, fuel := n, inl := [], deep := 0 }
def yK7 (n : Nat) (s : List UInt8) : Option (Int × Unit) :=
  (Option.bind (yCb s) fun (v0 : Bool × Unit) => some ((z0v (!v0.1) (8 : Int)).1, ()))
theorem yTI (n : Nat) (x : yMO.den) : runF yT2 (yL9 n) Tryz.f137 yMO yQl x = yK7 n x.1 := by kernel_rfl
def y6i (s : List UInt8) : Option (Int × Unit) := yK7 0 s
theorem yOt (s : List UInt8) (y : Int × Unit) (h : y6i s = some y) : ∃ n, yK7 n s = some y := ⟨0, h⟩
def z08_e : Entry := { f := 137, args := yMO, ress := yQl, m := fun x => y6i x.1 }
theorem yDy : FnOK Tryz.prog z08_e := yN (g := yT2) (fn := Tryz.f137) yC yM (yA yUj (yA y44 eNil)) (by kernel_rfl) (by kernel_rfl) (by kernel_rfl) (fun x y h => let ⟨n, hn⟩ := yOt x.1 y h; ⟨yL9 n, iNil, (yTI n x).trans hn⟩)
abbrev zU_a : Ty := .pair t148 (.pair t3 .unit)
abbrev zU_r : Ty := .pair t4 .unit
def zU_g : G := { T := T, E := [z0Y_e], muts := [], fz := [] }
def zU_k : List (List Nat) := []
def yQ2 (n : Nat) : Ann := { keep := zU_k, fuel := n, inl := [], deep := 0 }
def zU_m (n : Nat) (t : Tra) (conditions : Int) : Option (Bool × Unit) :=
  some (eqV (Ty.arr (4 : Nat) Ty.bool) (z0Y (yl IntKind.i64 Go.BinOp.and conditions t.2.2.2.1)).1 (z0Y t.2.2.2.2.1).1, ())
theorem yVh (n : Nat) (x : zU_a.den) : runF zU_g (yQ2 n) Tryz.f141 zU_a zU_r x = zU_m n x.1 x.2.1 := by kernel_rfl
def zU (t : Tra) (conditions : Int) : (Bool × Unit) :=
  (eqV (Ty.arr (4 : Nat) Ty.bool) (z0Y (yl IntKind.i64 Go.BinOp.and conditions t.2.2.2.1)).1 (z0Y t.2.2.2.2.1).1, ())
abbrev zU_M (t : Tra) (conditions : Int) : Option (Bool × Unit) := some (zU t conditions)
theorem yTi (t : Tra) (conditions : Int) (y : Bool × Unit) (h : zU_M t conditions = some y) : ∃ n, zU_m n t conditions = some y :=
  ⟨0, by rw [← h]; show zU_m 0 t conditions = some (zU t conditions); unfold zU_m zU; first | rfl | (simp only [yG]; done) | (simp only [yG]; rfl)⟩
def zU_e : Entry := { f := 141, args := zU_a, ress := zU_r, m := fun x => zU_M x.1 x.2.1 }
theorem yVW : FnOK Tryz.prog zU_e := yN (g := zU_g) (fn := Tryz.f141) yC yM (yA yL6 eNil) (by kernel_rfl) (by kernel_rfl) (by kernel_rfl) (fun x y h => let ⟨n, hn⟩ := yTi x.1 x.2.1 y h; ⟨yQ2 n, iNil, (yVh n x).trans hn⟩)
abbrev zC_a : Ty := .pair t28 (.pair t181 .unit)
abbrev zC_r : Ty := .pair t4 .unit
def zC_g : G := { T := T, E := [zG_e], muts := [], fz := [] }
def zC_k : List (List Nat) := []
def ySE (n : Nat) : Ann := { keep := zC_k, fuel := n, inl := [], deep := 0 }
def zC_m (n : Nat) (s : List Int) (f : Int × Unit → Option (Bool × Unit)) : Option (Bool × Unit) :=
  (Option.bind (zG_M s f) fun (v0 : Int × Unit) => some (decide (v0.1 ≥ 0), ()))
theorem yVy (n : Nat) (x : zC_a.den) : runF zC_g (ySE n) Tryz.f149 zC_a zC_r x = zC_m n x.1 x.2.1 := by kernel_rfl
def zC_M (s : List Int) (f : Int × Unit → Option (Bool × Unit)) : Option (Bool × Unit) := zC_m 0 s f
theorem yR4 (s : List Int) (f : Int × Unit → Option (Bool × Unit)) (y : Bool × Unit) (h : zC_M s f = some y) : ∃ n, zC_m n s f = some y := ⟨0, h⟩
def zC_e : Entry := { f := 149, args := zC_a, ress := zC_r, m := fun x => zC_M x.1 x.2.1 }
theorem ySQ : FnOK Tryz.prog zC_e := yN (g := zC_g) (fn := Tryz.f149) yC yM (yA yVT eNil) (by kernel_rfl) (by kernel_rfl) (by kernel_rfl) (fun x y h => let ⟨n, hn⟩ := yR4 x.1 x.2.1 y h; ⟨ySE n, iNil, (yVy n x).trans hn⟩)
abbrev yNN : Ty := .unit
abbrev yQK : Ty := .pair t238 .unit
def yR1 : G := { T := T, E := [z0I_e, z0J_e, z0K_e, z0L_e, z0M_e, ze_e], muts := [], fz := [] }
def yVU : List (List Nat) := []
def yLL (n : Nat) : Ann := { keep := yVU, fuel := n, inl := [], deep := 0 }
def yK8 (n : Nat)  : Option (List (List UInt8 × (Fai × Unit → Option (Fai × Unit)) × (Fai × Int × (List UInt8 × Int × Unit) × Unit → Option ((List UInt8 × Int × Unit) × Bool × Unit)) × Unit) × Unit) :=
  some ([([(110 : UInt8), 111, 110, 101], fun (x : Fai × Unit) => yHZ x.1, fun (x : Fai × Int × (List UInt8 × Int × Unit) × Unit) => yHQ x.1 x.2.1 x.2.2.1, ()), ([(108 : UInt8), 111, 115, 116], fun (x : Fai × Unit) => yHF x.1, fun (x : Fai × Int × (List UInt8 × Int × Unit) × Unit) => yGX x.1 x.2.1 x.2.2.1, ()), ([(115 : UInt8), 116, 117, 99, 107], fun (x : Fai × Unit) => yIJ x.1, fun (x : Fai × Int × (List UInt8 × Int × Unit) × Unit) => ze_M x.1 x.2.1 x.2.2.1, ())], ())
theorem ySu (n : Nat) (x : yNN.den) : runF yR1 (yLL n) Tryz.f156 yNN yQK x = yK8 n := by kernel_rfl
def z0k  : (List (List UInt8 × (Fai × Unit → Option (Fai × Unit)) × (Fai × Int × (List UInt8 × Int × Unit) × Unit → Option ((List UInt8 × Int × Unit) × Bool × Unit)) × Unit) × Unit) :=
  ([([(110 : UInt8), 111, 110, 101], fun (x : Fai × Unit) => yHZ x.1, fun (x : Fai × Int × (List UInt8 × Int × Unit) × Unit) => yHQ x.1 x.2.1 x.2.2.1, ()), ([(108 : UInt8), 111, 115, 116], fun (x : Fai × Unit) => yHF x.1, fun (x : Fai × Int × (List UInt8 × Int × Unit) × Unit) => yGX x.1 x.2.1 x.2.2.1, ()), ([(115 : UInt8), 116, 117, 99, 107], fun (x : Fai × Unit) => yIJ x.1, fun (x : Fai × Int × (List UInt8 × Int × Unit) × Unit) => ze_M x.1 x.2.1 x.2.2.1, ())], ())
abbrev yRU  : Option (List (List UInt8 × (Fai × Unit → Option (Fai × Unit)) × (Fai × Int × (List UInt8 × Int × Unit) × Unit → Option ((List UInt8 × Int × Unit) × Bool × Unit)) × Unit) × Unit) := some (z0k)
theorem yP7  (y : List (List UInt8 × (Fai × Unit → Option (Fai × Unit)) × (Fai × Int × (List UInt8 × Int × Unit) × Unit → Option ((List UInt8 × Int × Unit) × Bool × Unit)) × Unit) × Unit) (h : yRU = some y) : ∃ n, yK8 n = some y :=
  ⟨0, by rw [← h]; show yK8 0 = some (z0k); unfold yK8 z0k; first | rfl | (simp only [yG]; done) | (simp only [yG]; rfl)⟩
def z0k_e : Entry := { f := 156, args := yNN, ress := yQK, m := fun x => yRU }
theorem yUC : FnOK Tryz.prog z0k_e := yN (g := yR1) (fn := Tryz.f156) yC yM (yA yUg (yA yQC (yA yQu (yA yPZ (yA yPS (yA yVv eNil)))))) (by kernel_rfl) (by kernel_rfl) (by kernel_rfl) (fun x y h => let ⟨n, hn⟩ := yP7 y h; ⟨yLL n, iNil, (ySu n x).trans hn⟩)
end
end Go.Tw
end
section
set_option linter.all false
set_option maxRecDepth 1000000
namespace Go.Tw
open Go.Vx Go.Vx.B Go.Proofs
noncomputable section
abbrev zt_a : Ty := .pair t25 .unit
abbrev zt_r : Ty := .pair t3 .unit
def zt_g : G := { T := T, E := [z00_e, z0B_e, zr_e, z0p_e, z0d_e, z0R_e], muts := [], fz := [] }
def zt_k : List (List Nat) := [[1, 3], [1, 3, 4, 6], [1, 7], [1, 11]]
def yRe (n : Nat) : Ann := { keep := zt_k, fuel := n, inl := [], deep := 0 }
def yHz (n : Nat) (r0 : Cha → Int → Option (Int × Unit)) (r3 : Cha → Int → Int → List UInt8 → Int → Int → Bool → Option (Int × Unit)) (c1_3 : Cha) (i3_3 : Int) (k6_3 : Int) (b0_0_3 : List UInt8) (b0_1_3 : Int) (b0_2_3 : Int) (b0_3_3 : Bool) : Option (Int × Unit) :=
  (bif decide (k6_3 < i3_3) then (Option.bind (idx c1_3.1 k6_3) fun (v4 : Sta) => (bif v4.1 == b0_0_3 then some ((9 : Int), ()) else r3 c1_3 i3_3 (IntKind.i64.wrap (k6_3 + 1)) b0_0_3 b0_1_3 b0_2_3 b0_3_3)) else (bif decide (b0_1_3 < (-1 : Int)) then some ((11 : Int), ()) else (bif decide (b0_1_3 ≥ i3_3) then some ((11 : Int), ()) else r0 c1_3 (IntKind.i64.wrap (i3_3 + 1)))))
def y9H (n : Nat) (r0 : Cha → Int → Option (Int × Unit)) (k : Nat) (c1_3 : Cha) (i3_3 : Int) (k6_3 : Int) (b0_0_3 : List UInt8) (b0_1_3 : Int) (b0_2_3 : Int) (b0_3_3 : Bool) : Option (Int × Unit) :=
  iter (fun r y => yHz n r0 (fun c1_3 i3_3 k6_3 b0_0_3 b0_1_3 b0_2_3 b0_3_3 => r ((c1_3, (i3_3, (k6_3, ()))), (((b0_0_3, (b0_1_3, (b0_2_3, (b0_3_3, ())))), ()), ()))) y.1.1 y.1.2.1 y.1.2.2.1 y.2.1.1.1 y.2.1.1.2.1 y.2.1.1.2.2.1 y.2.1.1.2.2.2.1) k ((c1_3, (i3_3, (k6_3, ()))), (((b0_0_3, (b0_1_3, (b0_2_3, (b0_3_3, ())))), ()), ()))
def yDm (n : Nat) (r19 : Cha → Int → Option (Int × Unit)) (c1_19 : Cha) (i11_19 : Int) : Option (Int × Unit) :=
  (bif decide (i11_19 < (↑c1_19.2.1.length : Int)) then (Option.bind (idx c1_19.2.1 i11_19) fun (v20 : Tra) => (bif (zr v20.1 (0 : Int) (IntKind.i64.wrap ((↑c1_19.1.length : Int) - (1 : Int)))).1 != 0 then some ((10 : Int), ()) else (bif (zr v20.2.2.1 (0 : Int) (IntKind.i64.wrap ((↑c1_19.1.length : Int) - (1 : Int)))).1 != 0 then some ((10 : Int), ()) else (Option.bind (y93 v20.2.1) fun (v23 : Int × Unit) => (Option.bind (y71 [v23.1, (zr v20.2.2.2.1 (0 : Int) (15 : Int)).1, (zr v20.2.2.2.2.1 (0 : Int) (15 : Int)).1, (z0p (yl IntKind.i64 Go.BinOp.and v20.2.2.2.2.1 v20.2.2.2.1 != v20.2.2.2.2.1) (1 : Int)).1]) fun (v24 : Int × Unit) => (bif v24.1 != 0 then some (v24.1, ()) else r19 c1_19 (IntKind.i64.wrap (i11_19 + 1)))))))) else (Option.bind (y7n c1_19) fun (v25 : List (List UInt8) × Unit) => some ((z0p (decide ((↑v25.1.length : Int) > 8)) (5 : Int)).1, ())))
def y6c (n : Nat)  (k : Nat) (c1_19 : Cha) (i11_19 : Int) : Option (Int × Unit) :=
  iter (fun r y => yDm n (fun c1_19 i11_19 => r ((c1_19, (i11_19, ())), ((), ()))) y.1.1 y.1.2.1) k ((c1_19, (i11_19, ())), ((), ()))
def yIq (n : Nat) (r7 : Cha → Int → Option (Int × Unit)) (c1_7 : Cha) (i7_7 : Int) : Option (Int × Unit) :=
  (bif decide (i7_7 < (↑c1_7.1.length : Int)) then (Option.bind (idx c1_7.1 i7_7) fun (v8 : Sta) => (Option.bind (yB6 c1_7 i7_7 v8.2.2.1) fun (v9 : Int × Bool × Unit) => (bif decide (v9.1 > 0) then (bif !v9.2.1 then some ((1 : Int), ()) else (bif v8.2.2.2.1 then some ((1 : Int), ()) else (bif v9.1 == 0 then (bif v8.2.2.1 != (-1 : Int) then some ((1 : Int), ()) else r7 c1_7 (IntKind.i64.wrap (i7_7 + 1))) else r7 c1_7 (IntKind.i64.wrap (i7_7 + 1))))) else (bif v9.1 == 0 then (bif v8.2.2.1 != (-1 : Int) then some ((1 : Int), ()) else r7 c1_7 (IntKind.i64.wrap (i7_7 + 1))) else r7 c1_7 (IntKind.i64.wrap (i7_7 + 1)))))) else (bif decide ((↑c1_7.2.1.length : Int) > 48) then some ((5 : Int), ()) else (y6c n n (c1_7) ((0 : Int)))))
def y9v (n : Nat)  (k : Nat) (c1_7 : Cha) (i7_7 : Int) : Option (Int × Unit) :=
  iter (fun r y => yIq n (fun c1_7 i7_7 => r ((c1_7, (i7_7, ())), ((), ()))) y.1.1 y.1.2.1) k ((c1_7, (i7_7, ())), ((), ()))
def yIo (n : Nat) (r0 : Cha → Int → Option (Int × Unit)) (c1_0 : Cha) (i3_0 : Int) : Option (Int × Unit) :=
  (bif decide (i3_0 < (↑c1_0.1.length : Int)) then (Option.bind (idx c1_0.1 i3_0) fun (v1 : Sta) => (Option.bind (y93 v1.1) fun (v2 : Int × Unit) => (bif v2.1 != 0 then some (v2.1, ()) else (y9H n r0 n (c1_0) (i3_0) ((0 : Int)) (v1.1) (v1.2.1) (v1.2.2.1) (v1.2.2.2.1))))) else (y9v n n (c1_0) ((0 : Int))))
def yA4 (n : Nat)  (k : Nat) (c1_0 : Cha) (i3_0 : Int) : Option (Int × Unit) :=
  iter (fun r y => yIo n (fun c1_0 i3_0 => r ((c1_0, (i3_0, ())), ((), ()))) y.1.1 y.1.2.1) k ((c1_0, (i3_0, ())), ((), ()))
def zt_m (n : Nat) (c : Cha) : Option (Int × Unit) :=
  (bif (↑c.1.length : Int) == 0 then some ((12 : Int), ()) else (bif decide ((↑c.1.length : Int) > 16) then some ((5 : Int), ()) else (yA4 n n (c) ((0 : Int)))))
theorem yW5 (n : Nat) (x : zt_a.den) : runF zt_g (yRe n) Tryz.f20 zt_a zt_r x = zt_m n x.1 := by kernel_rfl
def yEy (c1_3 : Cha) (i3_3 : Int) (b0_0_3 : List UInt8) (b0_1_3 : Int) (b0_2_3 : Int) (b0_3_3 : Bool) (k6_3 : Int) : Option (((Int × Unit) ⊕ Unit) ⊕ Unit) :=
  (Option.bind (idx c1_3.1 k6_3) fun (v4 : Sta) => (bif v4.1 == b0_0_3 then (some (Sum.inl (Sum.inl (((9 : Int), ()))))) else (some (Sum.inr ()))))
def yHr (c1_3 : Cha) (i3_3 : Int) (b0_0_3 : List UInt8) (b0_1_3 : Int) (b0_2_3 : Int) (b0_3_3 : Bool) : Option ((Int × Unit) ⊕ Unit) :=
  (bif decide (b0_1_3 < (-1 : Int)) then (some (Sum.inl (((11 : Int), ())))) else (bif decide (b0_1_3 ≥ i3_3) then (some (Sum.inl (((11 : Int), ())))) else (some (Sum.inr ()))))
theorem yFv (n : Nat) (hn : big ≤ n)  (r0 : Cha → Int → Option (Int × Unit)) (c1_3 : Cha) (i3_3 : Int) (b0_0_3 : List UInt8) (b0_1_3 : Int) (b0_2_3 : Int) (b0_3_3 : Bool) (hx : (i3_3) ≤ 9223372036854775807) : LeF (elim some fun (s__ : Unit) => r0 c1_3 (IntKind.i64.wrap (i3_3 + 1))) (y01 (fun i__ s__ => yEy c1_3 i3_3 b0_0_3 b0_1_3 b0_2_3 b0_3_3 i__) (fun s__ => yHr c1_3 i3_3 b0_0_3 b0_1_3 b0_2_3 b0_3_3) ((i3_3) - 0).toNat 0 ()) (y9H n r0 n c1_3 i3_3 0 b0_0_3 b0_1_3 b0_2_3 b0_3_3) := by
  refine y1W (f := (elim some fun (s__ : Unit) => r0 c1_3 (IntKind.i64.wrap (i3_3 + 1)))) (W := fun k__ i__ s__ => y9H n r0 k__ c1_3 i3_3 i__ b0_0_3 b0_1_3 b0_2_3 b0_3_3) (body := (fun i__ s__ => yEy c1_3 i3_3 b0_0_3 b0_1_3 b0_2_3 b0_3_3 i__)) (fin := (fun s__ => yHr c1_3 i3_3 b0_0_3 b0_1_3 b0_2_3 b0_3_3)) (fun k__ i__ s__ => ?_) hx () n 0 (by decide) (by unfold big at hn; omega)
  show LeF _ _ (yHz n r0 (y9H n r0 k__) c1_3 i3_3 i__ b0_0_3 b0_1_3 b0_2_3 b0_3_3)
  exact y0 (y7 fun v4 => (y0 (y3 rfl) (y3 rfl))) (yo (y0 (y3 rfl) (y0 (y3 rfl) (y3 rfl))))
def y8k (c1_19 : Cha) (i11_19 : Int) (v20 : Tra) : Option ((Int × Unit) ⊕ Unit) :=
  (bif (zr v20.1 (0 : Int) (IntKind.i64.wrap ((↑c1_19.1.length : Int) - (1 : Int)))).1 != 0 then (some (Sum.inl (((10 : Int), ())))) else (bif (zr v20.2.2.1 (0 : Int) (IntKind.i64.wrap ((↑c1_19.1.length : Int) - (1 : Int)))).1 != 0 then (some (Sum.inl (((10 : Int), ())))) else (Option.bind (y93 v20.2.1) fun (v23 : Int × Unit) => (Option.bind (y71 [v23.1, (zr v20.2.2.2.1 (0 : Int) (15 : Int)).1, (zr v20.2.2.2.2.1 (0 : Int) (15 : Int)).1, (z0p (yl IntKind.i64 Go.BinOp.and v20.2.2.2.2.1 v20.2.2.2.1 != v20.2.2.2.2.1) (1 : Int)).1]) fun (v24 : Int × Unit) => (bif v24.1 != 0 then (some (Sum.inl ((v24.1, ())))) else (some (Sum.inr ())))))))
def y8M (c1_19 : Cha) : Option (Int × Unit) :=
  (Option.bind (y7n c1_19) fun (v25 : List (List UInt8) × Unit) => (some (((z0p (decide ((↑v25.1.length : Int) > 8)) (5 : Int)).1, ()))))
theorem yCH (n : Nat) (hn : big ≤ n)  (c1_19 : Cha) (hx : List.length (c1_19.2.1) < lenMax) : LeF some (yI (fun i__ e__ s__ => y8k c1_19 i__ e__) (fun s__ => y8M c1_19) 0 (c1_19.2.1) ()) (y6c n n c1_19 0) := by
  refine yJ (f := some) (W := fun k__ i__ s__ => y6c n k__ c1_19 i__) (body := (fun i__ e__ s__ => y8k c1_19 i__ e__)) (fin := (fun s__ => y8M c1_19)) (fun k__ i__ s__ => ?_) hx () n (by unfold big at hn; unfold lenMax at hx; omega)
  show LeF _ _ (yDm n (y6c n k__) c1_19 i__)
  exact y0 (y7 fun v20 => (y0 (y3 rfl) (y0 (y3 rfl) (y7 fun v23 => (y7 fun v24 => (y0 (y3 rfl) (y3 rfl))))))) (yo (y7 fun v25 => (y3 rfl)))
def yG4 (c1_7 : Cha) (i7_7 : Int) (v8 : Sta) : Option ((Int × Unit) ⊕ Unit) :=
  (Option.bind (yB6 c1_7 i7_7 v8.2.2.1) fun (v9 : Int × Bool × Unit) => (bif decide (v9.1 > 0) then (bif !v9.2.1 then (some (Sum.inl (((1 : Int), ())))) else (bif v8.2.2.2.1 then (some (Sum.inl (((1 : Int), ())))) else (bif v9.1 == 0 then (bif v8.2.2.1 != (-1 : Int) then (some (Sum.inl (((1 : Int), ())))) else (some (Sum.inr ()))) else (some (Sum.inr ()))))) else (bif v9.1 == 0 then (bif v8.2.2.1 != (-1 : Int) then (some (Sum.inl (((1 : Int), ())))) else (some (Sum.inr ()))) else (some (Sum.inr ())))))
def yFS (c1_7 : Cha) : Option (Int × Unit) :=
  (bif decide ((↑c1_7.2.1.length : Int) > 48) then (some (((5 : Int), ()))) else (bif decide (List.length (c1_7.2.1) < lenMax) then yI (fun i__ e__ s__ => y8k (c1_7) i__ e__) (fun s__ => y8M (c1_7)) 0 (c1_7.2.1) () else none))
theorem yGA (n : Nat) (hn : big ≤ n)  (c1_7 : Cha) (hx : List.length (c1_7.1) < lenMax) : LeF some (yI (fun i__ e__ s__ => yG4 c1_7 i__ e__) (fun s__ => yFS c1_7) 0 (c1_7.1) ()) (y9v n n c1_7 0) := by
  refine yJ (f := some) (W := fun k__ i__ s__ => y9v n k__ c1_7 i__) (body := (fun i__ e__ s__ => yG4 c1_7 i__ e__)) (fin := (fun s__ => yFS c1_7)) (fun k__ i__ s__ => ?_) hx () n (by unfold big at hn; unfold lenMax at hx; omega)
  show LeF _ _ (yIq n (y9v n k__) c1_7 i__)
  exact y0 (y7 fun v8 => (y7 fun v9 => (y0 (y0 (y3 rfl) (y0 (y3 rfl) (y0 (y0 (y3 rfl) (y3 rfl)) (y3 rfl)))) (y0 (y0 (y3 rfl) (y3 rfl)) (y3 rfl))))) (yo (y0 (y3 rfl) (yK fun hx => by apply yCH n hn; exact hx)))
def yF0 (c1_0 : Cha) (i3_0 : Int) (v1 : Sta) : Option ((Int × Unit) ⊕ Unit) :=
  (Option.bind (y93 v1.1) fun (v2 : Int × Unit) => (bif v2.1 != 0 then (some (Sum.inl ((v2.1, ())))) else (bif decide ((i3_0) ≤ 9223372036854775807) then y01 (fun i__ s__ => yEy (c1_0) (i3_0) (v1.1) (v1.2.1) (v1.2.2.1) (v1.2.2.2.1) i__) (fun s__ => yHr (c1_0) (i3_0) (v1.1) (v1.2.1) (v1.2.2.1) (v1.2.2.2.1)) ((i3_0) - 0).toNat 0 () else none)))
def yFl (c1_0 : Cha) : Option (Int × Unit) :=
  (bif decide (List.length (c1_0.1) < lenMax) then yI (fun i__ e__ s__ => yG4 (c1_0) i__ e__) (fun s__ => yFS (c1_0)) 0 (c1_0.1) () else none)
theorem yFG (n : Nat) (hn : big ≤ n)  (c1_0 : Cha) (hx : List.length (c1_0.1) < lenMax) : LeF some (yI (fun i__ e__ s__ => yF0 c1_0 i__ e__) (fun s__ => yFl c1_0) 0 (c1_0.1) ()) (yA4 n n c1_0 0) := by
  refine yJ (f := some) (W := fun k__ i__ s__ => yA4 n k__ c1_0 i__) (body := (fun i__ e__ s__ => yF0 c1_0 i__ e__)) (fin := (fun s__ => yFl c1_0)) (fun k__ i__ s__ => ?_) hx () n (by unfold big at hn; unfold lenMax at hx; omega)
  show LeF _ _ (yIo n (yA4 n k__) c1_0 i__)
  exact y0 (y7 fun v1 => (y7 fun v2 => (y0 (y3 rfl) (yK fun hx => by apply yFv n hn; exact hx)))) (yo (yK fun hx => by apply yGA n hn; exact hx))
def zt_M (c : Cha) : Option (Int × Unit) :=
  (bif (↑c.1.length : Int) == 0 then (some (((12 : Int), ()))) else (bif decide ((↑c.1.length : Int) > 16) then (some (((5 : Int), ()))) else (bif decide (List.length (c.1) < lenMax) then yI (fun i__ e__ s__ => yF0 (c) i__ e__) (fun s__ => yFl (c)) 0 (c.1) () else none)))
theorem ySk (c : Cha) (y : Int × Unit) (h : zt_M c = some y) : ∃ n, zt_m n c = some y :=
  ⟨big, LeF.top (show LeF some (zt_M c) (zt_m big c) from (fun (n : Nat) (hn : big ≤ n) => show LeF some (zt_M c) (zt_m n c) from (y0 (y3 rfl) (y0 (y3 rfl) (yK fun hx => by apply yFG n hn; exact hx)))) big (Nat.le_refl _)) h⟩
def zt_e : Entry := { f := 20, args := zt_a, ress := zt_r, m := fun x => zt_M x.1 }
theorem yXA : FnOK Tryz.prog zt_e := yN (g := zt_g) (fn := Tryz.f20) yC yM (yA yM0 (yA yTG (yA yOQ (yA ySA (yA yDd (yA yLs eNil)))))) (by kernel_rfl) (by kernel_rfl) (by kernel_rfl) (fun x y h => let ⟨n, hn⟩ := ySk x.1 y h; ⟨yRe n, iNil, (yW5 n x).trans hn⟩)
abbrev zu_a : Ty := .pair t53 .unit
abbrev zu_r : Ty := .pair t3 .unit
def zu_g : G := { T := T, E := [z00_e, zr_e, z0d_e], muts := [], fz := [] }
def zu_k : List (List Nat) := []
def yPL (n : Nat) : Ann := { keep := zu_k, fuel := n, inl := [], deep := 0 }
def zu_m (n : Nat) (p0 : List UInt8 × Int × Unit) : Option (Int × Unit) :=
  (Option.bind (y93 p0.1) fun (v0 : Int × Unit) => (Option.bind (y71 [v0.1, (zr p0.2.1 (0 : Int) (15 : Int)).1]) fun (v1 : Int × Unit) => some (v1.1, ())))
theorem yXR (n : Nat) (x : zu_a.den) : runF zu_g (yPL n) Tryz.f35 zu_a zu_r x = zu_m n x.1 := by kernel_rfl
def zu_M (p0 : List UInt8 × Int × Unit) : Option (Int × Unit) := zu_m 0 p0
theorem ySp (p0 : List UInt8 × Int × Unit) (y : Int × Unit) (h : zu_M p0 = some y) : ∃ n, zu_m n p0 = some y := ⟨0, h⟩
def zu_e : Entry := { f := 35, args := zu_a, ress := zu_r, m := fun x => zu_M x.1 }
theorem yX2 : FnOK Tryz.prog zu_e := yN (g := zu_g) (fn := Tryz.f35) yC yM (yA yM0 (yA yOQ (yA yDd eNil))) (by kernel_rfl) (by kernel_rfl) (by kernel_rfl) (fun x y h => let ⟨n, hn⟩ := ySp x.1 y h; ⟨yPL n, iNil, (yXR n x).trans hn⟩)
abbrev zY_a : Ty := .pair t35 .unit
abbrev zY_r : Ty := .pair t37 .unit
def zY_g : G := { T := T, E := [zA_e], muts := [3], fz := [] }
def zY_k : List (List Nat) := [[3, 7, 8, 9]]
def yRD (n : Nat) : Ann := { keep := zY_k, fuel := n, inl := [], deep := 0 }
def yH2 (n : Nat) (r0 : List Tra → Int → Int → List (List UInt8) → Option (List (List UInt8) × Unit)) (t7_0 : List Tra) (t8_0 : Int) (t9_0 : Int) (c0_0 : List (List UInt8)) : Option (List (List UInt8) × Unit) :=
  (bif decide (t9_0 < t8_0) then (Option.bind (idx t7_0 t9_0) fun (v1 : Tra) => (Option.bind (zA_M c0_0 v1.2.1) fun (v2 : Bool × Unit) => (bif !v2.1 then (bif decide (c0_0.length + (1 : Nat) ≤ memMax) then r0 t7_0 t8_0 (IntKind.i64.wrap (t9_0 + 1)) (c0_0 ++ [v1.2.1]) else none) else r0 t7_0 t8_0 (IntKind.i64.wrap (t9_0 + 1)) c0_0))) else some (c0_0, ()))
def y9W (n : Nat)  (k : Nat) (t7_0 : List Tra) (t8_0 : Int) (t9_0 : Int) (c0_0 : List (List UInt8)) : Option (List (List UInt8) × Unit) :=
  iter (fun r y => yH2 n (fun t7_0 t8_0 t9_0 c0_0 => r ((t7_0, (t8_0, (t9_0, ()))), ((c0_0, ()), ()))) y.1.1 y.1.2.1 y.1.2.2.1 y.2.1.1) k ((t7_0, (t8_0, (t9_0, ()))), ((c0_0, ()), ()))
def zY_m (n : Nat) (c : Cha) : Option (List (List UInt8) × Unit) :=
  (y9W n n (c.2.1) ((↑c.2.1.length : Int)) ((0 : Int)) ([]))
theorem yWT (n : Nat) (x : zY_a.den) : runF zY_g (yRD n) Tryz.f87 zY_a zY_r x = zY_m n x.1 := by kernel_rfl
def yID (t7_0 : List Tra) (t9_0 : Int) (v1 : Tra) (c0_0 : List (List UInt8)) : Option ((List (List UInt8) × Unit) ⊕ (List (List UInt8))) :=
  (Option.bind (zA_M c0_0 v1.2.1) fun (v2 : Bool × Unit) => (bif !v2.1 then (bif decide (c0_0.length + (1 : Nat) ≤ memMax) then (some (Sum.inr (c0_0 ++ [v1.2.1]))) else none) else (some (Sum.inr (c0_0)))))
def yKP (t7_0 : List Tra) (c0_0 : List (List UInt8)) : Option (List (List UInt8) × Unit) :=
  (some ((c0_0, ())))
theorem yFd (n : Nat) (hn : big ≤ n)  (t7_0 : List Tra) (c0_0 : List (List UInt8)) (hx : List.length (t7_0) < lenMax) : LeF some (yI (fun i__ e__ s__ => yID t7_0 i__ e__ s__) (fun s__ => yKP t7_0 s__) 0 (t7_0) c0_0) (y9W n n t7_0 (List.length (t7_0) : Int) 0 c0_0) := by
  refine yJ (f := some) (W := fun k__ i__ s__ => y9W n k__ t7_0 (List.length (t7_0) : Int) i__ s__) (body := (fun i__ e__ s__ => yID t7_0 i__ e__ s__)) (fin := (fun s__ => yKP t7_0 s__)) (fun k__ i__ s__ => ?_) hx c0_0 n (by unfold big at hn; unfold lenMax at hx; omega)
  show LeF _ _ (yH2 n (y9W n k__) t7_0 (List.length (t7_0) : Int) i__ s__)
  exact y0 (y7 fun v1 => (y7 fun v2 => (y0 (y0 (y3 rfl) yc) (y3 rfl)))) (yo (y3 rfl))
def zY_M (c : Cha) : Option (List (List UInt8) × Unit) :=
  (bif decide (List.length (c.2.1) < lenMax) then yI (fun i__ e__ s__ => yID (c.2.1) i__ e__ s__) (fun s__ => yKP (c.2.1) s__) 0 (c.2.1) ([]) else none)
theorem yTa (c : Cha) (y : List (List UInt8) × Unit) (h : zY_M c = some y) : ∃ n, zY_m n c = some y :=
  ⟨big, LeF.top (show LeF some (zY_M c) (zY_m big c) from (fun (n : Nat) (hn : big ≤ n) => show LeF some (zY_M c) (zY_m n c) from (yK fun hx => by apply yFd n hn; exact hx)) big (Nat.le_refl _)) h⟩
def zY_e : Entry := { f := 87, args := zY_a, ress := zY_r, m := fun x => zY_M x.1 }
theorem yJa : FnOK Tryz.prog zY_e := yN (g := zY_g) (fn := Tryz.f87) yC yM (yA yX1 eNil) (by kernel_rfl) (by kernel_rfl) (by kernel_rfl) (fun x y h => let ⟨n, hn⟩ := yTa x.1 y h; ⟨yRD n, iNil, (yWT n x).trans hn⟩)
abbrev zJ_a : Ty := .pair t35 .unit
abbrev zJ_r : Ty := .pair t29 .unit
def zJ_g : G := { T := T, E := [z08_e, z0v_e, z0j_e, zH_e], muts := [12, 13], fz := [13] }
def zJ_k : List (List Nat) := [[1, 3, 4, 15, 16, 17], [4, 60, 61, 62]]
def yPU (n : Nat) : Ann := { keep := zJ_k, fuel := n, inl := [], deep := 0 }
def y9X (n : Nat) (r0 : Cha → List Sta → Int → Int → List (List UInt8 × Bool) → List (Int × List Int) → Option (Int × Unit)) (c1_0 : Cha) (t15_0 : List Sta) (t16_0 : Int) (t17_0 : Int) (m0_0 : List (List UInt8 × Bool)) (m1_0 : List (Int × List Int)) (v1 : Sta) : Option (Int × Unit) :=
  (bif y2h (Ty.int IntKind.i64) v1.2.1 v1.2.1 then (bif decide (((yS (Ty.int IntKind.i64) (Ty.int IntKind.i64).slice m1_0 v1.2.1).getD []).length + (1 : Nat) ≤ memMax) then (bif y2h (Ty.int IntKind.i64) v1.2.1 v1.2.1 then r0 c1_0 t15_0 t16_0 (IntKind.i64.wrap (t17_0 + 1)) (y05 Ty.str Ty.bool m0_0 v1.1 Bool.true) (y05 (Ty.int IntKind.i64) (Ty.int IntKind.i64).slice m1_0 v1.2.1 ((yS (Ty.int IntKind.i64) (Ty.int IntKind.i64).slice m1_0 v1.2.1).getD [] ++ [t17_0])) else none) else none) else none)
def yDB (n : Nat) (r20 : List (Int × List Int) → List Sta → Int → Int → Option (Int × Unit)) (children4_20 : List (Int × List Int)) (t60_20 : List Sta) (t61_20 : Int) (t62_20 : Int) : Option (Int × Unit) :=
  (bif decide (t62_20 < t61_20) then (Option.bind (idx t60_20 t62_20) fun (v21 : Sta) => (bif (↑((yS (Ty.int IntKind.i64) (Ty.int IntKind.i64).slice children4_20 t62_20).getD []).length : Int) == 0 then (bif v21.2.2.1 != (-1 : Int) then some ((1 : Int), ()) else (bif !(↑((yS (Ty.int IntKind.i64) (Ty.int IntKind.i64).slice children4_20 t62_20).getD []).length : Int) == 0 then (bif v21.2.2.2.1 then some ((1 : Int), ()) else (Option.bind (zH_M ((yS (Ty.int IntKind.i64) (Ty.int IntKind.i64).slice children4_20 t62_20).getD []) v21.2.2.1) fun (v22 : Bool × Unit) => (bif !v22.1 then some ((1 : Int), ()) else r20 children4_20 t60_20 t61_20 (IntKind.i64.wrap (t62_20 + 1))))) else r20 children4_20 t60_20 t61_20 (IntKind.i64.wrap (t62_20 + 1)))) else (bif !(↑((yS (Ty.int IntKind.i64) (Ty.int IntKind.i64).slice children4_20 t62_20).getD []).length : Int) == 0 then (bif v21.2.2.2.1 then some ((1 : Int), ()) else (Option.bind (zH_M ((yS (Ty.int IntKind.i64) (Ty.int IntKind.i64).slice children4_20 t62_20).getD []) v21.2.2.1) fun (v23 : Bool × Unit) => (bif !v23.1 then some ((1 : Int), ()) else r20 children4_20 t60_20 t61_20 (IntKind.i64.wrap (t62_20 + 1))))) else r20 children4_20 t60_20 t61_20 (IntKind.i64.wrap (t62_20 + 1))))) else some ((0 : Int), ()))
def y6X (n : Nat)  (k : Nat) (children4_20 : List (Int × List Int)) (t60_20 : List Sta) (t61_20 : Int) (t62_20 : Int) : Option (Int × Unit) :=
  iter (fun r y => yDB n (fun children4_20 t60_20 t61_20 t62_20 => r ((children4_20, (t60_20, (t61_20, (t62_20, ())))), ((), ()))) y.1.1 y.1.2.1 y.1.2.2.1 y.1.2.2.2.1) k ((children4_20, (t60_20, (t61_20, (t62_20, ())))), ((), ()))
def yGG (n : Nat) (r0 : Cha → List Sta → Int → Int → List (List UInt8 × Bool) → List (Int × List Int) → Option (Int × Unit)) (c1_0 : Cha) (t15_0 : List Sta) (t16_0 : Int) (t17_0 : Int) (m0_0 : List (List UInt8 × Bool)) (m1_0 : List (Int × List Int)) : Option (Int × Unit) :=
  (bif decide (t17_0 < t16_0) then (Option.bind (idx t15_0 t17_0) fun (v1 : Sta) => (Option.bind (y6i v1.1) fun (v2 : Int × Unit) => (bif decide (v1.2.1 < (-1 : Int)) then (Option.bind (y0Q [v2.1, (z0v ((yS Ty.str Ty.bool m0_0 v1.1).getD Bool.false) (9 : Int)).1, (z0v Bool.true (11 : Int)).1]) fun (v3 : Int × Unit) => (bif v3.1 != 0 then some (v3.1, ()) else (y9X n r0 c1_0 t15_0 t16_0 t17_0 m0_0 m1_0 v1))) else (Option.bind (y0Q [v2.1, (z0v ((yS Ty.str Ty.bool m0_0 v1.1).getD Bool.false) (9 : Int)).1, (z0v (decide (v1.2.1 ≥ t17_0)) (11 : Int)).1]) fun (v4 : Int × Unit) => (bif v4.1 != 0 then some (v4.1, ()) else (y9X n r0 c1_0 t15_0 t16_0 t17_0 m0_0 m1_0 v1)))))) else (y6X n n (m1_0) (c1_0.1) ((↑c1_0.1.length : Int)) ((0 : Int))))
def y9V (n : Nat)  (k : Nat) (c1_0 : Cha) (t15_0 : List Sta) (t16_0 : Int) (t17_0 : Int) (m0_0 : List (List UInt8 × Bool)) (m1_0 : List (Int × List Int)) : Option (Int × Unit) :=
  iter (fun r y => yGG n (fun c1_0 t15_0 t16_0 t17_0 m0_0 m1_0 => r ((c1_0, (t15_0, (t16_0, (t17_0, ())))), ((m0_0, (m1_0, ())), ()))) y.1.1 y.1.2.1 y.1.2.2.1 y.1.2.2.2.1 y.2.1.1 y.2.1.2.1) k ((c1_0, (t15_0, (t16_0, (t17_0, ())))), ((m0_0, (m1_0, ())), ()))
def zJ_m (n : Nat) (c : Cha) : Option (Int × Unit) :=
  (y9V n n (c) (c.1) ((↑c.1.length : Int)) ((0 : Int)) ([]) ([]))
theorem yWr (n : Nat) (x : zJ_a.den) : runF zJ_g (yPU n) Tryz.f97 zJ_a zJ_r x = zJ_m n x.1 := by kernel_rfl
def y8V (c1_0 : Cha) (t15_0 : List Sta) (t17_0 : Int) (m0_0 : List (List UInt8 × Bool)) (m1_0 : List (Int × List Int)) (v1 : Sta) : Option ((Int × Unit) ⊕ (List (List UInt8 × Bool) × List (Int × List Int))) :=
  (bif y2h (Ty.int IntKind.i64) v1.2.1 v1.2.1 then (bif decide (((yS (Ty.int IntKind.i64) (Ty.int IntKind.i64).slice m1_0 v1.2.1).getD []).length + (1 : Nat) ≤ memMax) then (bif y2h (Ty.int IntKind.i64) v1.2.1 v1.2.1 then (some (Sum.inr ((y05 Ty.str Ty.bool m0_0 v1.1 Bool.true), (y05 (Ty.int IntKind.i64) (Ty.int IntKind.i64).slice m1_0 v1.2.1 ((yS (Ty.int IntKind.i64) (Ty.int IntKind.i64).slice m1_0 v1.2.1).getD [] ++ [t17_0]))))) else none) else none) else none)
theorem y0P (n : Nat) (hn : big ≤ n)  (r0 : Cha → List Sta → Int → Int → List (List UInt8 × Bool) → List (Int × List Int) → Option (Int × Unit)) (c1_0 : Cha) (t15_0 : List Sta) (t17_0 : Int) (m0_0 : List (List UInt8 × Bool)) (m1_0 : List (Int × List Int)) (v1 : Sta) : LeF (elim some fun (s__ : (List (List UInt8 × Bool) × List (Int × List Int))) => r0 c1_0 t15_0 (List.length (t15_0) : Int) (IntKind.i64.wrap (t17_0 + 1)) s__.1 s__.2) (y8V c1_0 t15_0 t17_0 m0_0 m1_0 v1) (y9X n r0 c1_0 t15_0 (List.length (t15_0) : Int) t17_0 m0_0 m1_0 v1) :=
  (y0 (y0 (y0 (y3 rfl) yc) yc) yc)
def y8j (children4_20 : List (Int × List Int)) (t60_20 : List Sta) (t62_20 : Int) (v21 : Sta) : Option ((Int × Unit) ⊕ Unit) :=
  (bif (↑((yS (Ty.int IntKind.i64) (Ty.int IntKind.i64).slice children4_20 t62_20).getD []).length : Int) == 0 then (bif v21.2.2.1 != (-1 : Int) then (some (Sum.inl (((1 : Int), ())))) else (bif !(↑((yS (Ty.int IntKind.i64) (Ty.int IntKind.i64).slice children4_20 t62_20).getD []).length : Int) == 0 then (bif v21.2.2.2.1 then (some (Sum.inl (((1 : Int), ())))) else (Option.bind (zH_M ((yS (Ty.int IntKind.i64) (Ty.int IntKind.i64).slice children4_20 t62_20).getD []) v21.2.2.1) fun (v22 : Bool × Unit) => (bif !v22.1 then (some (Sum.inl (((1 : Int), ())))) else (some (Sum.inr ()))))) else (some (Sum.inr ())))) else (bif !(↑((yS (Ty.int IntKind.i64) (Ty.int IntKind.i64).slice children4_20 t62_20).getD []).length : Int) == 0 then (bif v21.2.2.2.1 then (some (Sum.inl (((1 : Int), ())))) else (Option.bind (zH_M ((yS (Ty.int IntKind.i64) (Ty.int IntKind.i64).slice children4_20 t62_20).getD []) v21.2.2.1) fun (v23 : Bool × Unit) => (bif !v23.1 then (some (Sum.inl (((1 : Int), ())))) else (some (Sum.inr ()))))) else (some (Sum.inr ()))))
def yE0 (children4_20 : List (Int × List Int)) (t60_20 : List Sta) : Option (Int × Unit) :=
  (some (((0 : Int), ())))
theorem yC1 (n : Nat) (hn : big ≤ n)  (children4_20 : List (Int × List Int)) (t60_20 : List Sta) (hx : List.length (t60_20) < lenMax) : LeF some (yI (fun i__ e__ s__ => y8j children4_20 t60_20 i__ e__) (fun s__ => yE0 children4_20 t60_20) 0 (t60_20) ()) (y6X n n children4_20 t60_20 (List.length (t60_20) : Int) 0) := by
  refine yJ (f := some) (W := fun k__ i__ s__ => y6X n k__ children4_20 t60_20 (List.length (t60_20) : Int) i__) (body := (fun i__ e__ s__ => y8j children4_20 t60_20 i__ e__)) (fin := (fun s__ => yE0 children4_20 t60_20)) (fun k__ i__ s__ => ?_) hx () n (by unfold big at hn; unfold lenMax at hx; omega)
  show LeF _ _ (yDB n (y6X n k__) children4_20 t60_20 (List.length (t60_20) : Int) i__)
  exact y0 (y7 fun v21 => (y0 (y0 (y3 rfl) (y0 (y0 (y3 rfl) (y7 fun v22 => (y0 (y3 rfl) (y3 rfl)))) (y3 rfl))) (y0 (y0 (y3 rfl) (y7 fun v23 => (y0 (y3 rfl) (y3 rfl)))) (y3 rfl)))) (yo (y3 rfl))
def yA1 (c1_0 : Cha) (t15_0 : List Sta) (t17_0 : Int) (v1 : Sta) (m0_0 : List (List UInt8 × Bool)) (m1_0 : List (Int × List Int)) : Option ((Int × Unit) ⊕ (List (List UInt8 × Bool) × List (Int × List Int))) :=
  (Option.bind (y6i v1.1) fun (v2 : Int × Unit) => (bif decide (v1.2.1 < (-1 : Int)) then (Option.bind (y0Q [v2.1, (z0v ((yS Ty.str Ty.bool m0_0 v1.1).getD Bool.false) (9 : Int)).1, (z0v Bool.true (11 : Int)).1]) fun (v3 : Int × Unit) => (bif v3.1 != 0 then (some (Sum.inl ((v3.1, ())))) else (y8V c1_0 t15_0 t17_0 m0_0 m1_0 v1))) else (Option.bind (y0Q [v2.1, (z0v ((yS Ty.str Ty.bool m0_0 v1.1).getD Bool.false) (9 : Int)).1, (z0v (decide (v1.2.1 ≥ t17_0)) (11 : Int)).1]) fun (v4 : Int × Unit) => (bif v4.1 != 0 then (some (Sum.inl ((v4.1, ())))) else (y8V c1_0 t15_0 t17_0 m0_0 m1_0 v1)))))
def yCY (c1_0 : Cha) (t15_0 : List Sta) (m0_0 : List (List UInt8 × Bool)) (m1_0 : List (Int × List Int)) : Option (Int × Unit) :=
  (bif decide (List.length (c1_0.1) < lenMax) then yI (fun i__ e__ s__ => y8j (m1_0) (c1_0.1) i__ e__) (fun s__ => yE0 (m1_0) (c1_0.1)) 0 (c1_0.1) () else none)
theorem yFq (n : Nat) (hn : big ≤ n)  (c1_0 : Cha) (t15_0 : List Sta) (m0_0 : List (List UInt8 × Bool)) (m1_0 : List (Int × List Int)) (hx : List.length (t15_0) < lenMax) : LeF some (yI (fun i__ e__ s__ => yA1 c1_0 t15_0 i__ e__ s__.1 s__.2) (fun s__ => yCY c1_0 t15_0 s__.1 s__.2) 0 (t15_0) (m0_0, m1_0)) (y9V n n c1_0 t15_0 (List.length (t15_0) : Int) 0 m0_0 m1_0) := by
  refine yJ (f := some) (W := fun k__ i__ s__ => y9V n k__ c1_0 t15_0 (List.length (t15_0) : Int) i__ s__.1 s__.2) (body := (fun i__ e__ s__ => yA1 c1_0 t15_0 i__ e__ s__.1 s__.2)) (fin := (fun s__ => yCY c1_0 t15_0 s__.1 s__.2)) (fun k__ i__ s__ => ?_) hx (m0_0, m1_0) n (by unfold big at hn; unfold lenMax at hx; omega)
  show LeF _ _ (yGG n (y9V n k__) c1_0 t15_0 (List.length (t15_0) : Int) i__ s__.1 s__.2)
  exact y0 (y7 fun v1 => (y7 fun v2 => (y0 (y7 fun v3 => (y0 (y3 rfl) (by apply y0P n hn))) (y7 fun v4 => (y0 (y3 rfl) (by apply y0P n hn)))))) (yo (yK fun hx => by apply yC1 n hn; exact hx))
def zJ_M (c : Cha) : Option (Int × Unit) :=
  (bif decide (List.length (c.1) < lenMax) then yI (fun i__ e__ s__ => yA1 (c) (c.1) i__ e__ s__.1 s__.2) (fun s__ => yCY (c) (c.1) s__.1 s__.2) 0 (c.1) (([]), ([])) else none)
theorem yQN (c : Cha) (y : Int × Unit) (h : zJ_M c = some y) : ∃ n, zJ_m n c = some y :=
  ⟨big, LeF.top (show LeF some (zJ_M c) (zJ_m big c) from (fun (n : Nat) (hn : big ≤ n) => show LeF some (zJ_M c) (zJ_m n c) from (yK fun hx => by apply yFq n hn; exact hx)) big (Nat.le_refl _)) h⟩
def zJ_e : Entry := { f := 97, args := zJ_a, ress := zJ_r, m := fun x => zJ_M x.1 }
theorem yXe : FnOK Tryz.prog zJ_e := yN (g := zJ_g) (fn := Tryz.f97) yC yM (yA yDy (yA y44 (yA y1R (yA yJm eNil)))) (by kernel_rfl) (by kernel_rfl) (by kernel_rfl) (fun x y h => let ⟨n, hn⟩ := yQN x.1 y h; ⟨yPU n, iNil, (yWr n x).trans hn⟩)
abbrev yMt : Ty := .pair t71 .unit
abbrev ySq : Ty := .pair t173 (.pair t29 .unit)
def yUz : G := { T := T, E := [z0Z_e, z08_e, z0v_e, z0j_e], muts := [13], fz := [] }
def yWW : List (List Nat) := [[4, 14, 15, 16]]
def yM6 (n : Nat) : Ann := { keep := yWW, fuel := n, inl := [], deep := 0 }
def yDZ (n : Nat) (r0 : List Cmd → Int → Int → List (Int × List UInt8) → Option (List (Int × List UInt8) × Int × Unit)) (t14_0 : List Cmd) (t15_0 : Int) (t16_0 : Int) (m0_0 : List (Int × List UInt8)) : Option (List (Int × List UInt8) × Int × Unit) :=
  (bif decide (t16_0 < t15_0) then (Option.bind (idx t14_0 t16_0) fun (v1 : Cmd) => (Option.bind (y6i v1.2.2.1) fun (v2 : Int × Unit) => (bif (yS (Ty.int IntKind.i64) Ty.str m0_0 v1.1).isSome then (Option.bind (y0Q [(z0Z v1.1 (1 : Int) (999999999 : Int)).1, (z0Z v1.2.1 (0 : Int) (1 : Int)).1, v2.1, (z0v (!(yS (Ty.int IntKind.i64) Ty.str m0_0 v1.1).getD [] == v1.2.2.1) (30 : Int)).1]) fun (v3 : Int × Unit) => (bif v3.1 != 0 then some ([], v3.1, ()) else r0 t14_0 t15_0 (IntKind.i64.wrap (t16_0 + 1)) (y05 (Ty.int IntKind.i64) Ty.str m0_0 v1.1 v1.2.2.1))) else (Option.bind (y0Q [(z0Z v1.1 (1 : Int) (999999999 : Int)).1, (z0Z v1.2.1 (0 : Int) (1 : Int)).1, v2.1, (z0v Bool.false (30 : Int)).1]) fun (v4 : Int × Unit) => (bif v4.1 != 0 then some ([], v4.1, ()) else r0 t14_0 t15_0 (IntKind.i64.wrap (t16_0 + 1)) (y05 (Ty.int IntKind.i64) Ty.str m0_0 v1.1 v1.2.2.1)))))) else some (m0_0, (0 : Int), ()))
def y6H (n : Nat)  (k : Nat) (t14_0 : List Cmd) (t15_0 : Int) (t16_0 : Int) (m0_0 : List (Int × List UInt8)) : Option (List (Int × List UInt8) × Int × Unit) :=
  iter (fun r y => yDZ n (fun t14_0 t15_0 t16_0 m0_0 => r ((t14_0, (t15_0, (t16_0, ()))), ((m0_0, ()), ()))) y.1.1 y.1.2.1 y.1.2.2.1 y.2.1.1) k ((t14_0, (t15_0, (t16_0, ()))), ((m0_0, ()), ()))
def yKC (n : Nat) (l : List Cmd) : Option (List (Int × List UInt8) × Int × Unit) :=
  (bif decide ((↑l.length : Int) > 256) then some ([], (5 : Int), ()) else (y6H n n (l) ((↑l.length : Int)) ((0 : Int)) ([])))
theorem ySG (n : Nat) (x : yMt.den) : runF yUz (yM6 n) Tryz.f107 yMt ySq x = yKC n x.1 := by kernel_rfl
def yGs (t14_0 : List Cmd) (t16_0 : Int) (v1 : Cmd) (m0_0 : List (Int × List UInt8)) : Option ((List (Int × List UInt8) × Int × Unit) ⊕ (List (Int × List UInt8))) :=
  (Option.bind (y6i v1.2.2.1) fun (v2 : Int × Unit) => (bif (yS (Ty.int IntKind.i64) Ty.str m0_0 v1.1).isSome then (Option.bind (y0Q [(z0Z v1.1 (1 : Int) (999999999 : Int)).1, (z0Z v1.2.1 (0 : Int) (1 : Int)).1, v2.1, (z0v (!(yS (Ty.int IntKind.i64) Ty.str m0_0 v1.1).getD [] == v1.2.2.1) (30 : Int)).1]) fun (v3 : Int × Unit) => (bif v3.1 != 0 then (some (Sum.inl (([], v3.1, ())))) else (some (Sum.inr (y05 (Ty.int IntKind.i64) Ty.str m0_0 v1.1 v1.2.2.1))))) else (Option.bind (y0Q [(z0Z v1.1 (1 : Int) (999999999 : Int)).1, (z0Z v1.2.1 (0 : Int) (1 : Int)).1, v2.1, (z0v Bool.false (30 : Int)).1]) fun (v4 : Int × Unit) => (bif v4.1 != 0 then (some (Sum.inl (([], v4.1, ())))) else (some (Sum.inr (y05 (Ty.int IntKind.i64) Ty.str m0_0 v1.1 v1.2.2.1)))))))
def yHx (t14_0 : List Cmd) (m0_0 : List (Int × List UInt8)) : Option (List (Int × List UInt8) × Int × Unit) :=
  (some ((m0_0, (0 : Int), ())))
theorem yCB (n : Nat) (hn : big ≤ n)  (t14_0 : List Cmd) (m0_0 : List (Int × List UInt8)) (hx : List.length (t14_0) < lenMax) : LeF some (yI (fun i__ e__ s__ => yGs t14_0 i__ e__ s__) (fun s__ => yHx t14_0 s__) 0 (t14_0) m0_0) (y6H n n t14_0 (List.length (t14_0) : Int) 0 m0_0) := by
  refine yJ (f := some) (W := fun k__ i__ s__ => y6H n k__ t14_0 (List.length (t14_0) : Int) i__ s__) (body := (fun i__ e__ s__ => yGs t14_0 i__ e__ s__)) (fin := (fun s__ => yHx t14_0 s__)) (fun k__ i__ s__ => ?_) hx m0_0 n (by unfold big at hn; unfold lenMax at hx; omega)
  show LeF _ _ (yDZ n (y6H n k__) t14_0 (List.length (t14_0) : Int) i__ s__)
  exact y0 (y7 fun v1 => (y7 fun v2 => (y0 (y7 fun v3 => (y0 (y3 rfl) (y3 rfl))) (y7 fun v4 => (y0 (y3 rfl) (y3 rfl)))))) (yo (y3 rfl))
def yAW (l : List Cmd) : Option (List (Int × List UInt8) × Int × Unit) :=
  (bif decide ((↑l.length : Int) > 256) then (some (([], (5 : Int), ()))) else (bif decide (List.length (l) < lenMax) then yI (fun i__ e__ s__ => yGs (l) i__ e__ s__) (fun s__ => yHx (l) s__) 0 (l) ([]) else none))
theorem yMc (l : List Cmd) (y : List (Int × List UInt8) × Int × Unit) (h : yAW l = some y) : ∃ n, yKC n l = some y :=
  ⟨big, LeF.top (show LeF some (yAW l) (yKC big l) from (fun (n : Nat) (hn : big ≤ n) => show LeF some (yAW l) (yKC n l) from (y0 (y3 rfl) (yK fun hx => by apply yCB n hn; exact hx))) big (Nat.le_refl _)) h⟩
def z0l_e : Entry := { f := 107, args := yMt, ress := ySq, m := fun x => yAW x.1 }
theorem yM3 : FnOK Tryz.prog z0l_e := yN (g := yUz) (fn := Tryz.f107) yC yM (yA y8h (yA yDy (yA y44 (yA y1R eNil)))) (by kernel_rfl) (by kernel_rfl) (by kernel_rfl) (fun x y h => let ⟨n, hn⟩ := yMc x.1 y h; ⟨yM6 n, iNil, (ySG n x).trans hn⟩)
abbrev yO8 : Ty := .pair t3 .unit
abbrev yVC : Ty := .pair t29 .unit
def yRv : G := { T := T, E := [z0Z_e], muts := [], fz := [] }
def yVn : List (List Nat) := []
def yL5 (n : Nat) : Ann := { keep := yVn, fuel := n, inl := [], deep := 0 }
def yJ7 (n : Nat) (n1 : Int) : Option (Int × Unit) :=
  some ((z0Z n1 (0 : Int) (1000 : Int)).1, ())
theorem yPW (n : Nat) (x : yO8.den) : runF yRv (yL5 n) Tryz.f110 yO8 yVC x = yJ7 n x.1 := by kernel_rfl
def z0W (n1 : Int) : (Int × Unit) :=
  ((z0Z n1 (0 : Int) (1000 : Int)).1, ())
abbrev yK5 (n1 : Int) : Option (Int × Unit) := some (z0W n1)
theorem yOk (n1 : Int) (y : Int × Unit) (h : yK5 n1 = some y) : ∃ n, yJ7 n n1 = some y :=
  ⟨0, by rw [← h]; show yJ7 0 n1 = some (z0W n1); unfold yJ7 z0W; first | rfl | (simp only [yG]; done) | (simp only [yG]; rfl)⟩
def z0W_e : Entry := { f := 110, args := yO8, ress := yVC, m := fun x => yK5 x.1 }
theorem ySn : FnOK Tryz.prog z0W_e := yN (g := yRv) (fn := Tryz.f110) yC yM (yA y8h eNil) (by kernel_rfl) (by kernel_rfl) (by kernel_rfl) (fun x y h => let ⟨n, hn⟩ := yOk x.1 y h; ⟨yL5 n, iNil, (yPW n x).trans hn⟩)
abbrev yNG : Ty := .pair t25 (.pair t4 .unit)
abbrev yPh : Ty := .pair t93 .unit
def yST : G := { T := T, E := [z0R_e, z0S_e, z0g_e], muts := [5], fz := [] }
def yVO : List (List Nat) := [[1, 2, 5, 6, 7], [1, 2, 5, 6, 7, 8], [1, 2, 5, 6, 7, 8, 9]]
def yLu (n : Nat) : Ann := { keep := yVO, fuel := n, inl := [], deep := 0 }
def y23 (n : Nat) (r6 : Bool → Cha → List (List UInt8) → Int → Int → Int → List Cas → Option (List Cas × Unit)) (many1_6 : Bool) (c2_6 : Cha) (events6_6 : List (List UInt8)) (i7_6 : Int) (k8_6 : Int) (v9_6 : Int) (c0_6 : List Cas) (j12 : Bool) : Option (List Cas × Unit) :=
  (bif j12 then (Option.bind (idx events6_6 k8_6) fun (v13 : List UInt8) => (bif decide (c0_6.length + (1 : Nat) ≤ memMax) then r6 many1_6 c2_6 events6_6 i7_6 k8_6 (IntKind.i64.wrap (v9_6 + 1)) (c0_6 ++ [(i7_6, v13, v9_6, ())]) else none)) else r6 many1_6 c2_6 events6_6 i7_6 k8_6 (IntKind.i64.wrap (v9_6 + 1)) c0_6)
def yEF (n : Nat) (r2 : Bool → Cha → List (List UInt8) → Int → Int → List Cas → Option (List Cas × Unit)) (r6 : Bool → Cha → List (List UInt8) → Int → Int → Int → List Cas → Option (List Cas × Unit)) (many1_6 : Bool) (c2_6 : Cha) (events6_6 : List (List UInt8)) (i7_6 : Int) (k8_6 : Int) (v9_6 : Int) (c0_6 : List Cas) : Option (List Cas × Unit) :=
  (bif decide (v9_6 < 16) then (Option.bind (idx events6_6 k8_6) fun (v7 : List UInt8) => (Option.bind (yBf c2_6 i7_6 (v7, v9_6, ())) fun (v8 : Int × Tra × Unit) => (bif decide (v8.1 > 1) then (bif many1_6 then (y23 n r6 many1_6 c2_6 events6_6 i7_6 k8_6 v9_6 c0_6 (Bool.true)) else (bif v8.1 == 0 then (y23 n r6 many1_6 c2_6 events6_6 i7_6 k8_6 v9_6 c0_6 (!many1_6)) else (y23 n r6 many1_6 c2_6 events6_6 i7_6 k8_6 v9_6 c0_6 (Bool.false)))) else (bif v8.1 == 0 then (y23 n r6 many1_6 c2_6 events6_6 i7_6 k8_6 v9_6 c0_6 (!many1_6)) else (y23 n r6 many1_6 c2_6 events6_6 i7_6 k8_6 v9_6 c0_6 (Bool.false)))))) else r2 many1_6 c2_6 events6_6 i7_6 (IntKind.i64.wrap (k8_6 + 1)) c0_6)
def y6J (n : Nat) (r2 : Bool → Cha → List (List UInt8) → Int → Int → List Cas → Option (List Cas × Unit)) (k : Nat) (many1_6 : Bool) (c2_6 : Cha) (events6_6 : List (List UInt8)) (i7_6 : Int) (k8_6 : Int) (v9_6 : Int) (c0_6 : List Cas) : Option (List Cas × Unit) :=
  iter (fun r y => yEF n r2 (fun many1_6 c2_6 events6_6 i7_6 k8_6 v9_6 c0_6 => r ((many1_6, (c2_6, (events6_6, (i7_6, (k8_6, (v9_6, ())))))), ((c0_6, ()), ()))) y.1.1 y.1.2.1 y.1.2.2.1 y.1.2.2.2.1 y.1.2.2.2.2.1 y.1.2.2.2.2.2.1 y.2.1.1) k ((many1_6, (c2_6, (events6_6, (i7_6, (k8_6, (v9_6, ())))))), ((c0_6, ()), ()))
def yDk (n : Nat) (r1 : Bool → Cha → List (List UInt8) → Int → List Cas → Option (List Cas × Unit)) (r2 : Bool → Cha → List (List UInt8) → Int → Int → List Cas → Option (List Cas × Unit)) (many1_2 : Bool) (c2_2 : Cha) (events6_2 : List (List UInt8)) (i7_2 : Int) (k8_2 : Int) (c0_2 : List Cas) : Option (List Cas × Unit) :=
  (Option.bind (yFp c2_2 i7_2) fun (v3 : Bool × Unit) => (bif v3.1 then (bif decide (k8_2 < (↑events6_2.length : Int)) then (y6J n r2 n (many1_2) (c2_2) (events6_2) (i7_2) (k8_2) ((0 : Int)) (c0_2)) else r1 many1_2 c2_2 events6_2 (IntKind.i64.wrap (i7_2 + 1)) c0_2) else r1 many1_2 c2_2 events6_2 (IntKind.i64.wrap (i7_2 + 1)) c0_2))
def y6E (n : Nat) (r1 : Bool → Cha → List (List UInt8) → Int → List Cas → Option (List Cas × Unit)) (k : Nat) (many1_2 : Bool) (c2_2 : Cha) (events6_2 : List (List UInt8)) (i7_2 : Int) (k8_2 : Int) (c0_2 : List Cas) : Option (List Cas × Unit) :=
  iter (fun r y => yDk n r1 (fun many1_2 c2_2 events6_2 i7_2 k8_2 c0_2 => r ((many1_2, (c2_2, (events6_2, (i7_2, (k8_2, ()))))), ((c0_2, ()), ()))) y.1.1 y.1.2.1 y.1.2.2.1 y.1.2.2.2.1 y.1.2.2.2.2.1 y.2.1.1) k ((many1_2, (c2_2, (events6_2, (i7_2, (k8_2, ()))))), ((c0_2, ()), ()))
def yDD (n : Nat) (r1 : Bool → Cha → List (List UInt8) → Int → List Cas → Option (List Cas × Unit)) (many1_1 : Bool) (c2_1 : Cha) (events6_1 : List (List UInt8)) (i7_1 : Int) (c0_1 : List Cas) : Option (List Cas × Unit) :=
  (bif decide (i7_1 < (↑c2_1.1.length : Int)) then (y6E n r1 n (many1_1) (c2_1) (events6_1) (i7_1) ((0 : Int)) (c0_1)) else some (c0_1, ()))
def y6F (n : Nat)  (k : Nat) (many1_1 : Bool) (c2_1 : Cha) (events6_1 : List (List UInt8)) (i7_1 : Int) (c0_1 : List Cas) : Option (List Cas × Unit) :=
  iter (fun r y => yDD n (fun many1_1 c2_1 events6_1 i7_1 c0_1 => r ((many1_1, (c2_1, (events6_1, (i7_1, ())))), ((c0_1, ()), ()))) y.1.1 y.1.2.1 y.1.2.2.1 y.1.2.2.2.1 y.2.1.1) k ((many1_1, (c2_1, (events6_1, (i7_1, ())))), ((c0_1, ()), ()))
def yIz (n : Nat) (c : Cha) (many : Bool) : Option (List Cas × Unit) :=
  (Option.bind (y7n c) fun (v0 : List (List UInt8) × Unit) => (y6F n n (many) (c) (v0.1) ((0 : Int)) ([])))
theorem ySm (n : Nat) (x : yNG.den) : runF yST (yLu n) Tryz.f120 yNG yPh x = yIz n x.1 x.2.1 := by kernel_rfl
def y3V (many1_6 : Bool) (c2_6 : Cha) (events6_6 : List (List UInt8)) (i7_6 : Int) (k8_6 : Int) (v9_6 : Int) (c0_6 : List Cas) (j12 : Bool) : Option ((((List Cas × Unit) ⊕ (List Cas)) ⊕ (Int × List Cas)) ⊕ (List Cas)) :=
  (bif j12 then (Option.bind (idx events6_6 k8_6) fun (v13 : List UInt8) => (bif decide (c0_6.length + (1 : Nat) ≤ memMax) then (some (Sum.inr (c0_6 ++ [(i7_6, v13, v9_6, ())]))) else none)) else (some (Sum.inr (c0_6))))
theorem y0A (n : Nat) (hn : big ≤ n) (r1 : Bool → Cha → List (List UInt8) → Int → List Cas → Option (List Cas × Unit)) (r2 : Bool → Cha → List (List UInt8) → Int → Int → List Cas → Option (List Cas × Unit)) (r6 : Bool → Cha → List (List UInt8) → Int → Int → Int → List Cas → Option (List Cas × Unit)) (many1_6 : Bool) (c2_6 : Cha) (events6_6 : List (List UInt8)) (i7_6 : Int) (k8_6 : Int) (v9_6 : Int) (c0_6 : List Cas) (j12 : Bool) : LeF (elim (elim (elim some fun (s__ : (List Cas)) => r1 many1_6 c2_6 events6_6 (IntKind.i64.wrap (i7_6 + 1)) s__) fun (s__ : (Int × List Cas)) => r2 many1_6 c2_6 events6_6 i7_6 s__.1 s__.2) fun (s__ : (List Cas)) => r6 many1_6 c2_6 events6_6 i7_6 k8_6 (IntKind.i64.wrap (v9_6 + 1)) s__) (y3V many1_6 c2_6 events6_6 i7_6 k8_6 v9_6 c0_6 j12) (y23 n r6 many1_6 c2_6 events6_6 i7_6 k8_6 v9_6 c0_6 j12) :=
  (y0 (y7 fun v13 => (y0 (y3 rfl) yc)) (y3 rfl))
def y8v (many1_6 : Bool) (c2_6 : Cha) (events6_6 : List (List UInt8)) (i7_6 : Int) (k8_6 : Int) (v9_6 : Int) (c0_6 : List Cas) : Option ((((List Cas × Unit) ⊕ (List Cas)) ⊕ (Int × List Cas)) ⊕ (List Cas)) :=
  (Option.bind (idx events6_6 k8_6) fun (v7 : List UInt8) => (Option.bind (yBf c2_6 i7_6 (v7, v9_6, ())) fun (v8 : Int × Tra × Unit) => (bif decide (v8.1 > 1) then (bif many1_6 then (y3V many1_6 c2_6 events6_6 i7_6 k8_6 v9_6 c0_6 (Bool.true)) else (bif v8.1 == 0 then (y3V many1_6 c2_6 events6_6 i7_6 k8_6 v9_6 c0_6 (!many1_6)) else (y3V many1_6 c2_6 events6_6 i7_6 k8_6 v9_6 c0_6 (Bool.false)))) else (bif v8.1 == 0 then (y3V many1_6 c2_6 events6_6 i7_6 k8_6 v9_6 c0_6 (!many1_6)) else (y3V many1_6 c2_6 events6_6 i7_6 k8_6 v9_6 c0_6 (Bool.false))))))
def yDG (many1_6 : Bool) (c2_6 : Cha) (events6_6 : List (List UInt8)) (i7_6 : Int) (k8_6 : Int) (c0_6 : List Cas) : Option (((List Cas × Unit) ⊕ (List Cas)) ⊕ (Int × List Cas)) :=
  (some (Sum.inr ((IntKind.i64.wrap (k8_6 + 1)), (c0_6))))
theorem yCj (n : Nat) (hn : big ≤ n) (r1 : Bool → Cha → List (List UInt8) → Int → List Cas → Option (List Cas × Unit)) (r2 : Bool → Cha → List (List UInt8) → Int → Int → List Cas → Option (List Cas × Unit)) (many1_6 : Bool) (c2_6 : Cha) (events6_6 : List (List UInt8)) (i7_6 : Int) (k8_6 : Int) (c0_6 : List Cas) (hx : ((16 : Int)) ≤ 9223372036854775807) : LeF (elim (elim some fun (s__ : (List Cas)) => r1 many1_6 c2_6 events6_6 (IntKind.i64.wrap (i7_6 + 1)) s__) fun (s__ : (Int × List Cas)) => r2 many1_6 c2_6 events6_6 i7_6 s__.1 s__.2) (y01 (fun i__ s__ => y8v many1_6 c2_6 events6_6 i7_6 k8_6 i__ s__) (fun s__ => yDG many1_6 c2_6 events6_6 i7_6 k8_6 s__) (((16 : Int)) - 0).toNat 0 c0_6) (y6J n r2 n many1_6 c2_6 events6_6 i7_6 k8_6 0 c0_6) := by
  refine y1W (f := (elim (elim some fun (s__ : (List Cas)) => r1 many1_6 c2_6 events6_6 (IntKind.i64.wrap (i7_6 + 1)) s__) fun (s__ : (Int × List Cas)) => r2 many1_6 c2_6 events6_6 i7_6 s__.1 s__.2)) (W := fun k__ i__ s__ => y6J n r2 k__ many1_6 c2_6 events6_6 i7_6 k8_6 i__ s__) (body := (fun i__ s__ => y8v many1_6 c2_6 events6_6 i7_6 k8_6 i__ s__)) (fin := (fun s__ => yDG many1_6 c2_6 events6_6 i7_6 k8_6 s__)) (fun k__ i__ s__ => ?_) hx c0_6 n 0 (by decide) (by unfold big at hn; omega)
  show LeF _ _ (yEF n r2 (y6J n r2 k__) many1_6 c2_6 events6_6 i7_6 k8_6 i__ s__)
  exact y0 (y7 fun v7 => (y7 fun v8 => (y0 (y0 (by apply y0A n hn) (y0 (by apply y0A n hn) (by apply y0A n hn))) (y0 (by apply y0A n hn) (by apply y0A n hn))))) (yo (y3 rfl))
def y45 (many1_2 : Bool) (c2_2 : Cha) (events6_2 : List (List UInt8)) (i7_2 : Int) (k8_2 : Int) (c0_2 : List Cas) : Option (((List Cas × Unit) ⊕ (List Cas)) ⊕ (Int × List Cas)) :=
  (Option.bind (yFp c2_2 i7_2) fun (v3 : Bool × Unit) => (bif v3.1 then (bif decide (k8_2 < (↑events6_2.length : Int)) then (bif decide (((16 : Int)) ≤ 9223372036854775807) then y01 (fun i__ s__ => y8v (many1_2) (c2_2) (events6_2) (i7_2) (k8_2) i__ s__) (fun s__ => yDG (many1_2) (c2_2) (events6_2) (i7_2) (k8_2) s__) (((16 : Int)) - 0).toNat 0 (c0_2) else none) else (some (Sum.inl (Sum.inr (c0_2))))) else (some (Sum.inl (Sum.inr (c0_2))))))
theorem yC2 (n : Nat) (hn : big ≤ n)  (r1 : Bool → Cha → List (List UInt8) → Int → List Cas → Option (List Cas × Unit)) (many1_2 : Bool) (c2_2 : Cha) (events6_2 : List (List UInt8)) (i7_2 : Int) (k8_2 : Int) (c0_2 : List Cas) : LeF (elim some fun (s__ : (List Cas)) => r1 many1_2 c2_2 events6_2 (IntKind.i64.wrap (i7_2 + 1)) s__) (y1e (fun s__ => y45 many1_2 c2_2 events6_2 i7_2 s__.1 s__.2) wMax (k8_2, c0_2)) (y6E n r1 n many1_2 c2_2 events6_2 i7_2 k8_2 c0_2) := by
  refine y4O (f := (elim some fun (s__ : (List Cas)) => r1 many1_2 c2_2 events6_2 (IntKind.i64.wrap (i7_2 + 1)) s__)) (W := fun k__ s__ => y6E n r1 k__ many1_2 c2_2 events6_2 i7_2 s__.1 s__.2) (body := (fun s__ => y45 many1_2 c2_2 events6_2 i7_2 s__.1 s__.2)) (fun k__ s__ => ?_) wMax n (k8_2, c0_2) (by unfold big at hn; unfold wMax; omega)
  show LeF _ _ (yDk n r1 (y6E n r1 k__) many1_2 c2_2 events6_2 i7_2 s__.1 s__.2)
  exact (y7 fun v3 => (y0 (y0 (yK fun hx => by apply yCj n hn; exact hx) (y3 rfl)) (y3 rfl)))
def y5U (many1_1 : Bool) (c2_1 : Cha) (events6_1 : List (List UInt8)) (i7_1 : Int) (c0_1 : List Cas) : Option ((List Cas × Unit) ⊕ (List Cas)) :=
  (y1e (fun s__ => y45 (many1_1) (c2_1) (events6_1) (i7_1) s__.1 s__.2) wMax (((0 : Int)), (c0_1)))
def yAo (many1_1 : Bool) (c2_1 : Cha) (events6_1 : List (List UInt8)) (c0_1 : List Cas) : Option (List Cas × Unit) :=
  (some ((c0_1, ())))
theorem yCU (n : Nat) (hn : big ≤ n)  (many1_1 : Bool) (c2_1 : Cha) (events6_1 : List (List UInt8)) (c0_1 : List Cas) (hx : ((↑c2_1.1.length : Int)) ≤ 9223372036854775807) : LeF some (y01 (fun i__ s__ => y5U many1_1 c2_1 events6_1 i__ s__) (fun s__ => yAo many1_1 c2_1 events6_1 s__) (((↑c2_1.1.length : Int)) - 0).toNat 0 c0_1) (y6F n n many1_1 c2_1 events6_1 0 c0_1) := by
  refine y1W (f := some) (W := fun k__ i__ s__ => y6F n k__ many1_1 c2_1 events6_1 i__ s__) (body := (fun i__ s__ => y5U many1_1 c2_1 events6_1 i__ s__)) (fin := (fun s__ => yAo many1_1 c2_1 events6_1 s__)) (fun k__ i__ s__ => ?_) hx c0_1 n 0 (by decide) (by unfold big at hn; omega)
  show LeF _ _ (yDD n (y6F n k__) many1_1 c2_1 events6_1 i__ s__)
  exact y0 (by apply yC2 n hn) (yo (y3 rfl))
def yC5 (c : Cha) (many : Bool) : Option (List Cas × Unit) :=
  (Option.bind (y7n c) fun (v0 : List (List UInt8) × Unit) => (bif decide (((↑c.1.length : Int)) ≤ 9223372036854775807) then y01 (fun i__ s__ => y5U (many) (c) (v0.1) i__ s__) (fun s__ => yAo (many) (c) (v0.1) s__) (((↑c.1.length : Int)) - 0).toNat 0 ([]) else none))
theorem yMk (c : Cha) (many : Bool) (y : List Cas × Unit) (h : yC5 c many = some y) : ∃ n, yIz n c many = some y :=
  ⟨big, LeF.top (show LeF some (yC5 c many) (yIz big c many) from (fun (n : Nat) (hn : big ≤ n) => show LeF some (yC5 c many) (yIz n c many) from (y7 fun v0 => (yK fun hx => by apply yCU n hn; exact hx))) big (Nat.le_refl _)) h⟩
def z0f_e : Entry := { f := 120, args := yNG, ress := yPh, m := fun x => yC5 x.1 x.2.1 }
theorem yRw : FnOK Tryz.prog z0f_e := yN (g := yST) (fn := Tryz.f120) yC yM (yA yLs (yA yUA (yA yRh eNil))) (by kernel_rfl) (by kernel_rfl) (by kernel_rfl) (fun x y h => let ⟨n, hn⟩ := yMk x.1 x.2.1 y h; ⟨yLu n, iNil, (ySm n x).trans hn⟩)
abbrev zP_a : Ty := .pair t35 (.pair t28 .unit)
abbrev zP_r : Ty := .pair t29 .unit
def zP_g : G := { T := T, E := [zI_e, z0v_e, zC_e, z0j_e], muts := [], fz := [] }
def zP_k : List (List Nat) := []
def yRF (n : Nat) : Ann := { keep := zP_k, fuel := n, inl := [], deep := 0 }
def zP_m (n : Nat) (c : Cha) (l : List Int) : Option (Int × Unit) :=
  (Option.bind (zC_M l fun (x : Int × Unit) => zI_M x.1 c) fun (v0 : Bool × Unit) => (Option.bind (y0Q [(z0v (decide ((↑l.length : Int) > 16)) (5 : Int)).1, (z0v v0.1 (10 : Int)).1]) fun (v1 : Int × Unit) => some (v1.1, ())))
theorem yXF (n : Nat) (x : zP_a.den) : runF zP_g (yRF n) Tryz.f123 zP_a zP_r x = zP_m n x.1 x.2.1 := by kernel_rfl
def zP_M (c : Cha) (l : List Int) : Option (Int × Unit) := zP_m 0 c l
theorem yV8 (c : Cha) (l : List Int) (y : Int × Unit) (h : zP_M c l = some y) : ∃ n, zP_m n c l = some y := ⟨0, h⟩
def zP_e : Entry := { f := 123, args := zP_a, ress := zP_r, m := fun x => zP_M x.1 x.2.1 }
theorem yUV : FnOK Tryz.prog zP_e := yN (g := zP_g) (fn := Tryz.f123) yC yM (yA yWb (yA y44 (yA ySQ (yA y1R eNil)))) (by kernel_rfl) (by kernel_rfl) (by kernel_rfl) (fun x y h => let ⟨n, hn⟩ := yV8 x.1 x.2.1 y h; ⟨yRF n, iNil, (yXF n x).trans hn⟩)
abbrev zR_a : Ty := .pair t3 .unit
abbrev zR_r : Ty := .pair t29 .unit
def zR_g : G := { T := T, E := [z0Z_e], muts := [], fz := [] }
def zR_k : List (List Nat) := []
def yQ1 (n : Nat) : Ann := { keep := zR_k, fuel := n, inl := [], deep := 0 }
def zR_m (n : Nat) (n1 : Int) : Option (Int × Unit) :=
  some ((z0Z n1 (0 : Int) (15 : Int)).1, ())
theorem yWf (n : Nat) (x : zR_a.den) : runF zR_g (yQ1 n) Tryz.f138 zR_a zR_r x = zR_m n x.1 := by kernel_rfl
def zR (n1 : Int) : (Int × Unit) :=
  ((z0Z n1 (0 : Int) (15 : Int)).1, ())
abbrev zR_M (n1 : Int) : Option (Int × Unit) := some (zR n1)
theorem yQJ (n1 : Int) (y : Int × Unit) (h : zR_M n1 = some y) : ∃ n, zR_m n n1 = some y :=
  ⟨0, by rw [← h]; show zR_m 0 n1 = some (zR n1); unfold zR_m zR; first | rfl | (simp only [yG]; done) | (simp only [yG]; rfl)⟩
def zR_e : Entry := { f := 138, args := zR_a, ress := zR_r, m := fun x => zR_M x.1 }
theorem yPe : FnOK Tryz.prog zR_e := yN (g := zR_g) (fn := Tryz.f138) yC yM (yA y8h eNil) (by kernel_rfl) (by kernel_rfl) (by kernel_rfl) (fun x y h => let ⟨n, hn⟩ := yQJ x.1 y h; ⟨yQ1 n, iNil, (yWf n x).trans hn⟩)
abbrev zc_a : Ty := .pair t148 (.pair (.ref t3) (.pair (.ref t55) .unit))
abbrev zc_r : Ty := .pair t4 .unit
def zc_g : G := { T := T, E := [zU_e], muts := [], fz := [] }
def zc_k : List (List Nat) := []
def yTm (n : Nat) : Ann := { keep := zc_k, fuel := n, inl := [], deep := 0 }
def zc_m (n : Nat) (t : Tra) (p1 : Int) (p2 : List UInt8 × Int × Unit) : Option (Bool × Unit) :=
  (bif t.1 == p1 then (bif t.2.1 == p2.1 then some ((zU t p2.2.1).1, ()) else some (Bool.false, ())) else some (Bool.false, ()))
theorem yVk (n : Nat) (x : zc_a.den) : runF zc_g (yTm n) Tryz.f140 zc_a zc_r x = zc_m n x.1 x.2.1 x.2.2.1 := by kernel_rfl
def zc (t : Tra) (p1 : Int) (p2 : List UInt8 × Int × Unit) : (Bool × Unit) :=
  (bif t.1 == p1 then (bif t.2.1 == p2.1 then ((zU t p2.2.1).1, ()) else (Bool.false, ())) else (Bool.false, ()))
abbrev zc_M (t : Tra) (p1 : Int) (p2 : List UInt8 × Int × Unit) : Option (Bool × Unit) := some (zc t p1 p2)
theorem ySM (t : Tra) (p1 : Int) (p2 : List UInt8 × Int × Unit) (y : Bool × Unit) (h : zc_M t p1 p2 = some y) : ∃ n, zc_m n t p1 p2 = some y :=
  ⟨0, by rw [← h]; show zc_m 0 t p1 p2 = some (zc t p1 p2); unfold zc_m zc; first | rfl | (simp only [yG]; done) | (simp only [yG]; rfl)⟩
def zc_e : Entry := { f := 140, args := zc_a, ress := zc_r, m := fun x => zc_M x.1 x.2.1 x.2.2.1 }
theorem yWq : FnOK Tryz.prog zc_e := yN (g := zc_g) (fn := Tryz.f140) yC yM (yA yVW eNil) (by kernel_rfl) (by kernel_rfl) (by kernel_rfl) (fun x y h => let ⟨n, hn⟩ := ySM x.1 x.2.1 x.2.2.1 y h; ⟨yTm n, iNil, (yVk n x).trans hn⟩)
abbrev zf_a : Ty := .pair t131 .unit
abbrev zf_r : Ty := .pair t220 (.pair t4 .unit)
def zf_g : G := { T := T, E := [z0k_e], muts := [], fz := [] }
def zf_k : List (List Nat) := [[1, 2, 6, 7]]
def yTl (n : Nat) : Ann := { keep := zf_k, fuel := n, inl := [], deep := 0 }
def yHu (n : Nat) (r0 : Fai → List (List UInt8 × (Fai × Unit → Option (Fai × Unit)) × (Fai × Int × (List UInt8 × Int × Unit) × Unit → Option ((List UInt8 × Int × Unit) × Bool × Unit)) × Unit) → Int → List UInt8 → Option ((List UInt8 × (Fai × Unit → Option (Fai × Unit)) × (Fai × Int × (List UInt8 × Int × Unit) × Unit → Option ((List UInt8 × Int × Unit) × Bool × Unit)) × Unit) × Bool × Unit)) (f1_0 : Fai) (t6_0 : List (List UInt8 × (Fai × Unit → Option (Fai × Unit)) × (Fai × Int × (List UInt8 × Int × Unit) × Unit → Option ((List UInt8 × Int × Unit) × Bool × Unit)) × Unit)) (t7_0 : Int) (b0_0_0 : List UInt8) : Option ((List UInt8 × (Fai × Unit → Option (Fai × Unit)) × (Fai × Int × (List UInt8 × Int × Unit) × Unit → Option ((List UInt8 × Int × Unit) × Bool × Unit)) × Unit) × Bool × Unit) :=
  (bif decide (t7_0 < 3) then (Option.bind (idx t6_0 t7_0) fun (v1 : List UInt8 × (Fai × Unit → Option (Fai × Unit)) × (Fai × Int × (List UInt8 × Int × Unit) × Unit → Option ((List UInt8 × Int × Unit) × Bool × Unit)) × Unit) => (bif v1.1 == f1_0.1 then some ((v1.1, v1.2.1, v1.2.2.1, ()), Bool.true, ()) else r0 f1_0 t6_0 (IntKind.i64.wrap (t7_0 + 1)) b0_0_0)) else some (([], fun (x : Fai × Unit) => Option.none, fun (x : Fai × Int × (List UInt8 × Int × Unit) × Unit) => Option.none, ()), Bool.false, ()))
def y9C (n : Nat)  (k : Nat) (f1_0 : Fai) (t6_0 : List (List UInt8 × (Fai × Unit → Option (Fai × Unit)) × (Fai × Int × (List UInt8 × Int × Unit) × Unit → Option ((List UInt8 × Int × Unit) × Bool × Unit)) × Unit)) (t7_0 : Int) (b0_0_0 : List UInt8) : Option ((List UInt8 × (Fai × Unit → Option (Fai × Unit)) × (Fai × Int × (List UInt8 × Int × Unit) × Unit → Option ((List UInt8 × Int × Unit) × Bool × Unit)) × Unit) × Bool × Unit) :=
  iter (fun r y => yHu n (fun f1_0 t6_0 t7_0 b0_0_0 => r ((f1_0, (t6_0, (t7_0, ()))), (((b0_0_0, ()), ()), ()))) y.1.1 y.1.2.1 y.1.2.2.1 y.2.1.1.1) k ((f1_0, (t6_0, (t7_0, ()))), (((b0_0_0, ()), ()), ()))
def zf_m (n : Nat) (f : Fai) : Option ((List UInt8 × (Fai × Unit → Option (Fai × Unit)) × (Fai × Int × (List UInt8 × Int × Unit) × Unit → Option ((List UInt8 × Int × Unit) × Bool × Unit)) × Unit) × Bool × Unit) :=
  (y9C n n (f) (z0k.1) ((0 : Int)) ([]))
theorem yXD (n : Nat) (x : zf_a.den) : runF zf_g (yTl n) Tryz.f143 zf_a zf_r x = zf_m n x.1 := by kernel_rfl
def yEs (f1_0 : Fai) (t6_0 : List (List UInt8 × (Fai × Unit → Option (Fai × Unit)) × (Fai × Int × (List UInt8 × Int × Unit) × Unit → Option ((List UInt8 × Int × Unit) × Bool × Unit)) × Unit)) (b0_0_0 : List UInt8) (t7_0 : Int) : Option (((List UInt8 × (Fai × Unit → Option (Fai × Unit)) × (Fai × Int × (List UInt8 × Int × Unit) × Unit → Option ((List UInt8 × Int × Unit) × Bool × Unit)) × Unit) × Bool × Unit) ⊕ Unit) :=
  (Option.bind (idx t6_0 t7_0) fun (v1 : List UInt8 × (Fai × Unit → Option (Fai × Unit)) × (Fai × Int × (List UInt8 × Int × Unit) × Unit → Option ((List UInt8 × Int × Unit) × Bool × Unit)) × Unit) => (bif v1.1 == f1_0.1 then (some (Sum.inl (((v1.1, v1.2.1, v1.2.2.1, ()), Bool.true, ())))) else (some (Sum.inr ()))))
def yJ0 (f1_0 : Fai) (t6_0 : List (List UInt8 × (Fai × Unit → Option (Fai × Unit)) × (Fai × Int × (List UInt8 × Int × Unit) × Unit → Option ((List UInt8 × Int × Unit) × Bool × Unit)) × Unit)) (b0_0_0 : List UInt8) : Option ((List UInt8 × (Fai × Unit → Option (Fai × Unit)) × (Fai × Int × (List UInt8 × Int × Unit) × Unit → Option ((List UInt8 × Int × Unit) × Bool × Unit)) × Unit) × Bool × Unit) :=
  (some ((([], fun (x : Fai × Unit) => Option.none, fun (x : Fai × Int × (List UInt8 × Int × Unit) × Unit) => Option.none, ()), Bool.false, ())))
theorem yFC (n : Nat) (hn : big ≤ n)  (f1_0 : Fai) (t6_0 : List (List UInt8 × (Fai × Unit → Option (Fai × Unit)) × (Fai × Int × (List UInt8 × Int × Unit) × Unit → Option ((List UInt8 × Int × Unit) × Bool × Unit)) × Unit)) (b0_0_0 : List UInt8) (hx : ((3 : Int)) ≤ 9223372036854775807) : LeF some (y01 (fun i__ s__ => yEs f1_0 t6_0 b0_0_0 i__) (fun s__ => yJ0 f1_0 t6_0 b0_0_0) (((3 : Int)) - 0).toNat 0 ()) (y9C n n f1_0 t6_0 0 b0_0_0) := by
  refine y1W (f := some) (W := fun k__ i__ s__ => y9C n k__ f1_0 t6_0 i__ b0_0_0) (body := (fun i__ s__ => yEs f1_0 t6_0 b0_0_0 i__)) (fin := (fun s__ => yJ0 f1_0 t6_0 b0_0_0)) (fun k__ i__ s__ => ?_) hx () n 0 (by decide) (by unfold big at hn; omega)
  show LeF _ _ (yHu n (y9C n k__) f1_0 t6_0 i__ b0_0_0)
  exact y0 (y7 fun v1 => (y0 (y3 rfl) (y3 rfl))) (yo (y3 rfl))
def zf_M (f : Fai) : Option ((List UInt8 × (Fai × Unit → Option (Fai × Unit)) × (Fai × Int × (List UInt8 × Int × Unit) × Unit → Option ((List UInt8 × Int × Unit) × Bool × Unit)) × Unit) × Bool × Unit) :=
  (bif decide (((3 : Int)) ≤ 9223372036854775807) then y01 (fun i__ s__ => yEs (f) (z0k.1) ([]) i__) (fun s__ => yJ0 (f) (z0k.1) ([])) (((3 : Int)) - 0).toNat 0 () else none)
theorem yTc (f : Fai) (y : (List UInt8 × (Fai × Unit → Option (Fai × Unit)) × (Fai × Int × (List UInt8 × Int × Unit) × Unit → Option ((List UInt8 × Int × Unit) × Bool × Unit)) × Unit) × Bool × Unit) (h : zf_M f = some y) : ∃ n, zf_m n f = some y :=
  ⟨big, LeF.top (show LeF some (zf_M f) (zf_m big f) from (fun (n : Nat) (hn : big ≤ n) => show LeF some (zf_M f) (zf_m n f) from (yK fun hx => by apply yFC n hn; exact hx)) big (Nat.le_refl _)) h⟩
def zf_e : Entry := { f := 143, args := zf_a, ress := zf_r, m := fun x => zf_M x.1 }
theorem yQ7 : FnOK Tryz.prog zf_e := yN (g := zf_g) (fn := Tryz.f143) yC yM (yA yUC eNil) (by kernel_rfl) (by kernel_rfl) (by kernel_rfl) (fun x y h => let ⟨n, hn⟩ := yTc x.1 y h; ⟨yTl n, iNil, (yXD n x).trans hn⟩)
abbrev zT_a : Ty := .pair t3 (.pair (.ref t134) .unit)
abbrev zT_r : Ty := .pair t4 .unit
def zT_g : G := { T := T, E := [zH_e], muts := [], fz := [] }
def zT_k : List (List Nat) := []
def yRm (n : Nat) : Ann := { keep := zT_k, fuel := n, inl := [], deep := 0 }
def zT_m (n : Nat) (leaf : Int) (p1 : Goa) : Option (Bool × Unit) :=
  (Option.bind (zH_M p1.2.1 leaf) fun (v0 : Bool × Unit) => some (v0.1, ()))
theorem yWJ (n : Nat) (x : zT_a.den) : runF zT_g (yRm n) Tryz.f153 zT_a zT_r x = zT_m n x.1 x.2.1 := by kernel_rfl
def zT_M (leaf : Int) (p1 : Goa) : Option (Bool × Unit) := zT_m 0 leaf p1
theorem yV0 (leaf : Int) (p1 : Goa) (y : Bool × Unit) (h : zT_M leaf p1 = some y) : ∃ n, zT_m n leaf p1 = some y := ⟨0, h⟩
def zT_e : Entry := { f := 153, args := zT_a, ress := zT_r, m := fun x => zT_M x.1 x.2.1 }
theorem yVI : FnOK Tryz.prog zT_e := yN (g := zT_g) (fn := Tryz.f153) yC yM (yA yJm eNil) (by kernel_rfl) (by kernel_rfl) (by kernel_rfl) (fun x y h => let ⟨n, hn⟩ := yV0 x.1 x.2.1 y h; ⟨yRm n, iNil, (yWJ n x).trans hn⟩)
end
end Go.Tw
end
