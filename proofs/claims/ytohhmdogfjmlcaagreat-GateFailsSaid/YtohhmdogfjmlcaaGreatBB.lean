import Derived.Test.YtohhmdogfjmlcaaGreatBT
import Derived.Test.YtohhmdogfjmlcaaGreatB0
import Derived.Test.YtohhmdogfjmlcaaGreatBS
import Derived.Test.YtohhmdogfjmlcaaGreatLP
import Derived.Test.YtohhmdogfjmlcaaGreatBA
section
set_option linter.all false
set_option maxRecDepth 1000000
namespace Go.Tw
open Go.Vx Go.Vx.B Go.Proofs
noncomputable section
abbrev yOi : Ty := .pair t25 .unit
abbrev yPM : Ty := .pair t37 .unit
def ySG : G := { T := T, E := [z0F_e], muts := [3], fz := [] }
def yVM : List (List Nat) := [[1, 3, 4]]
def yLY (n : Nat) : Ann := { keep := yVM, fuel := n, inl := [], deep := 0 }
def yE0 (n : Nat) (r0 : Cha → Int → List (List UInt8) → Option (List (List UInt8) × Unit)) (c1_0 : Cha) (i4_0 : Int) (c0_0 : List (List UInt8)) : Option (List (List UInt8) × Unit) :=
 (bif decide (i4_0 < (↑c1_0.2.1.length : Int)) then (Option.bind (idx c1_0.2.1 i4_0) fun (v1 : Tra) => (Option.bind (yBF c0_0 v1.2.1) fun (v2 : Bool × Unit) => (bif !v2.1 then (Option.bind (idx c1_0.2.1 i4_0) fun (v3 : Tra) => (bif decide (c0_0.length + (1 : Nat) ≤ memMax) then r0 c1_0 (IntKind.i64.wrap (i4_0 + (1 : Int))) (c0_0 ++ [v3.2.1]) else none)) else r0 c1_0 (IntKind.i64.wrap (i4_0 + (1 : Int))) c0_0))) else some (c0_0, ()))
def y6V (n : Nat)  (k : Nat) (c1_0 : Cha) (i4_0 : Int) (c0_0 : List (List UInt8)) : Option (List (List UInt8) × Unit) :=
 iter (fun r y => yE0 n (fun c1_0 i4_0 c0_0 => r ((c1_0, (i4_0, ())), ((c0_0, ()), ()))) y.1.1 y.1.2.1 y.2.1.1) k ((c1_0, (i4_0, ())), ((c0_0, ()), ()))
def yJd (n : Nat) (c : Cha) : Option (List (List UInt8) × Unit) :=
 (y6V n n (c) ((0 : Int)) ([]))
theorem yTB (n : Nat) (x : yOi.den) : runF ySG (yLY n) Tryz.f22 yOi yPM x = yJd n x.1 := by kernel_rfl
def yAJ (c1_0 : Cha) (i4_0 : Int) (v1 : Tra) (c0_0 : List (List UInt8)) : Option ((List (List UInt8) × Unit) ⊕ (List (List UInt8))) :=
 (Option.bind (yBF c0_0 v1.2.1) fun (v2 : Bool × Unit) => (bif !v2.1 then (Option.bind (idx c1_0.2.1 i4_0) fun (v3 : Tra) => (bif decide (c0_0.length + (1 : Nat) ≤ memMax) then (some (Sum.inr (c0_0 ++ [v3.2.1]))) else none)) else (some (Sum.inr (c0_0)))))
def yER (c1_0 : Cha) (c0_0 : List (List UInt8)) : Option (List (List UInt8) × Unit) :=
 (some ((c0_0, ())))
theorem yCd (n : Nat) (hn : big ≤ n)  (c1_0 : Cha) (c0_0 : List (List UInt8)) (hx : List.length (c1_0.2.1) < lenMax) : LeF some (yI (fun i__ e__ s__ => yAJ c1_0 i__ e__ s__) (fun s__ => yER c1_0 s__) 0 (c1_0.2.1) c0_0) (y6V n n c1_0 0 c0_0) := by
 refine yJ (f := some) (W := fun k__ i__ s__ => y6V n k__ c1_0 i__ s__) (body := (fun i__ e__ s__ => yAJ c1_0 i__ e__ s__)) (fin := (fun s__ => yER c1_0 s__)) (fun k__ i__ s__ => ?_) hx c0_0 n (by unfold big at hn; unfold lenMax at hx; omega)
 show LeF _ _ (yE0 n (y6V n k__) c1_0 i__ s__)
 exact y0 (y7 fun v1 => (y7 fun v2 => (y0 (y7 fun v3 => (y0 (y3 rfl) yb)) (y3 rfl)))) (yo (y3 rfl))
def y7o (c : Cha) : Option (List (List UInt8) × Unit) :=
 (bif decide (List.length (c.2.1) < lenMax) then yI (fun i__ e__ s__ => yAJ (c) i__ e__ s__) (fun s__ => yER (c) s__) 0 (c.2.1) ([]) else none)
theorem yOm (c : Cha) (y : List (List UInt8) × Unit) (h : y7o c = some y) : ∃ n, yJd n c = some y :=
 ⟨big, LeF.top (show LeF some (y7o c) (yJd big c) from (fun (n : Nat) (hn : big ≤ n) => show LeF some (y7o c) (yJd n c) from (yK fun hx => by apply yCd n hn; exact hx)) big (Nat.le_refl _)) h⟩
def z0R_e : Entry := { f := 22, args := yOi, ress := yPM, m := fun x => y7o x.1 }
theorem yLA : FnOK Tryz.prog z0R_e := yN (g := ySG) (fn := Tryz.f22) yC yM (yA yV5 eNil) (by kernel_rfl) (by kernel_rfl) (by kernel_rfl) (fun x y h => let ⟨n, hn⟩ := yOm x.1 y h; ⟨yLY n, iNil, (yTB n x).trans hn⟩)
abbrev yMP : Ty := .pair t28 .unit
abbrev yQJ : Ty := .pair t3 .unit
def yUy : G := { T := T, E := [z0d_e], muts := [], fz := [] }
def yWg : List (List Nat) := []
def yLm (n : Nat) : Ann := { keep := yWg, fuel := n, inl := [], deep := 0 }
def yKY (n : Nat) (l : List Int) : Option (Int × Unit) :=
 (Option.bind (y6r l) fun (v0 : Int × Unit) => some (v0.1, ()))
theorem yUv (n : Nat) (x : yMP.den) : runF yUy (yLm n) Tryz.f32 yMP yQJ x = yKY n x.1 := by kernel_rfl
def yIv (l : List Int) : Option (Int × Unit) := yKY 0 l
theorem yNU (l : List Int) (y : Int × Unit) (h : yIv l = some y) : ∃ n, yKY n l = some y := ⟨0, h⟩
def z0c_e : Entry := { f := 32, args := yMP, ress := yQJ, m := fun x => yIv x.1 }
theorem yQR : FnOK Tryz.prog z0c_e := yN (g := yUy) (fn := Tryz.f32) yC yM (yA yDy eNil) (by kernel_rfl) (by kernel_rfl) (by kernel_rfl) (fun x y h => let ⟨n, hn⟩ := yNU x.1 y h; ⟨yLm n, iNil, (yUv n x).trans hn⟩)
abbrev zi_a : Ty := .pair t127 .unit
abbrev zi_r : Ty := .pair t4 .unit
def zi_g : G := { T := T, E := [z0e_e, zl_e, z04_e], muts := [], fz := [] }
def zi_k : List (List Nat) := []
def yQp (n : Nat) : Ann := { keep := zi_k, fuel := n, inl := [], deep := 0 }
def zi_m (n : Nat) (d : Cha × List (List UInt8 × Int × Unit) × Goa × Unit) : Option (Bool × Unit) :=
 (Option.bind (yBk d.1) fun (v0 : Bool × Unit) => (bif v0.1 then (Option.bind (zl_M d.2.1) fun (v1 : Bool × Unit) => (bif v1.1 then some ((z04 d.2.2.1).1, ()) else some (Bool.false, ()))) else some (Bool.false, ())))
theorem yW0 (n : Nat) (x : zi_a.den) : runF zi_g (yQp n) Tryz.f75 zi_a zi_r x = zi_m n x.1 := by kernel_rfl
def zi_M (d : Cha × List (List UInt8 × Int × Unit) × Goa × Unit) : Option (Bool × Unit) := zi_m 0 d
theorem yQ1 (d : Cha × List (List UInt8 × Int × Unit) × Goa × Unit) (y : Bool × Unit) (h : zi_M d = some y) : ∃ n, zi_m n d = some y := ⟨0, h⟩
def zi_e : Entry := { f := 75, args := zi_a, ress := zi_r, m := fun x => zi_M x.1 }
theorem yWc : FnOK Tryz.prog zi_e := yN (g := zi_g) (fn := Tryz.f75) yC yM (yA yUR (yA yVT (yA yRo eNil))) (by kernel_rfl) (by kernel_rfl) (by kernel_rfl) (fun x y h => let ⟨n, hn⟩ := yQ1 x.1 y h; ⟨yQp n, iNil, (yW0 n x).trans hn⟩)
abbrev yOH : Ty := .pair t125 .unit
abbrev yUj : Ty := .pair t134 .unit
def yQ2 : G := { T := T, E := [z0o_e], muts := [], fz := [] }
def yXc : List (List Nat) := []
def yLk (n : Nat) : Ann := { keep := yXc, fuel := n, inl := [], deep := 0 }
def yGk (n : Nat) (g : Goa) : Option (Goa × Unit) :=
 (Option.bind (yFy g.1) fun (v0 : List Int × Unit) => (Option.bind (yFy g.2.1) fun (v1 : List Int × Unit) => some ((v0.1, v1.1, g.2.2.1, g.2.2.2.1, ()), ())))
theorem ySm (n : Nat) (x : yOH.den) : runF yQ2 (yLk n) Tryz.f78 yOH yUj x = yGk n x.1 := by kernel_rfl
def y7l (g : Goa) : Option (Goa × Unit) := yGk 0 g
theorem yMj (g : Goa) (y : Goa × Unit) (h : y7l g = some y) : ∃ n, yGk n g = some y := ⟨0, h⟩
def z0n_e : Entry := { f := 78, args := yOH, ress := yUj, m := fun x => y7l x.1 }
theorem yQ3 : FnOK Tryz.prog z0n_e := yN (g := yQ2) (fn := Tryz.f78) yC yM (yA yI3 eNil) (by kernel_rfl) (by kernel_rfl) (by kernel_rfl) (fun x y h => let ⟨n, hn⟩ := yMj x.1 y h; ⟨yLk n, iNil, (ySm n x).trans hn⟩)
abbrev zZ_a : Ty := .pair t35 .unit
abbrev zZ_r : Ty := .pair t28 .unit
def zZ_g : G := { T := T, E := [zL_e, zg_e, zB_e, zV_e], muts := [3], fz := [] }
def zZ_k : List (List Nat) := [[3, 7, 8, 9]]
def yRy (n : Nat) : Ann := { keep := zZ_k, fuel := n, inl := [], deep := 0 }
def yIn (n : Nat) (r0 : List Sta → Int → Int → List (Sta × Int × Unit) → Option (List Int × Unit)) (t7_0 : List Sta) (t8_0 : Int) (t9_0 : Int) (c0_0 : List (Sta × Int × Unit)) : Option (List Int × Unit) :=
 (bif decide (t9_0 < t8_0) then (Option.bind (idx t7_0 t9_0) fun (v1 : Sta) => (bif decide (c0_0.length + (1 : Nat) ≤ memMax) then r0 t7_0 t8_0 (IntKind.i64.wrap (t9_0 + (1 : Int))) (c0_0 ++ [((v1.1, v1.2.1, v1.2.2.1, v1.2.2.2.1, ()), t9_0, ())]) else none)) else (Option.bind (zL_M c0_0 fun (x : (Sta × Int × Unit) × Unit) => zg_M x.1) fun (v2 : List (Sta × Int × Unit) × Unit) => (Option.bind (zB_M v2.1 fun (x : (Sta × Int × Unit) × Unit) => zV_M x.1) fun (v3 : List Int × Unit) => some (v3.1, ()))))
def y9Q (n : Nat)  (k : Nat) (t7_0 : List Sta) (t8_0 : Int) (t9_0 : Int) (c0_0 : List (Sta × Int × Unit)) : Option (List Int × Unit) :=
 iter (fun r y => yIn n (fun t7_0 t8_0 t9_0 c0_0 => r ((t7_0, (t8_0, (t9_0, ()))), ((c0_0, ()), ()))) y.1.1 y.1.2.1 y.1.2.2.1 y.2.1.1) k ((t7_0, (t8_0, (t9_0, ()))), ((c0_0, ()), ()))
def zZ_m (n : Nat) (c : Cha) : Option (List Int × Unit) :=
 (y9Q n n (c.1) ((↑c.1.length : Int)) ((0 : Int)) ([]))
theorem yWX (n : Nat) (x : zZ_a.den) : runF zZ_g (yRy n) Tryz.f86 zZ_a zZ_r x = zZ_m n x.1 := by kernel_rfl
def yOg (t7_0 : List Sta) (t9_0 : Int) (v1 : Sta) (c0_0 : List (Sta × Int × Unit)) : Option ((List Int × Unit) ⊕ (List (Sta × Int × Unit))) :=
 (bif decide (c0_0.length + (1 : Nat) ≤ memMax) then (some (Sum.inr (c0_0 ++ [((v1.1, v1.2.1, v1.2.2.1, v1.2.2.2.1, ()), t9_0, ())]))) else none)
def yNG (t7_0 : List Sta) (c0_0 : List (Sta × Int × Unit)) : Option (List Int × Unit) :=
 (Option.bind (zL_M c0_0 fun (x : (Sta × Int × Unit) × Unit) => zg_M x.1) fun (v2 : List (Sta × Int × Unit) × Unit) => (Option.bind (zB_M v2.1 fun (x : (Sta × Int × Unit) × Unit) => zV_M x.1) fun (v3 : List Int × Unit) => (some ((v3.1, ())))))
theorem yFY (n : Nat) (hn : big ≤ n)  (t7_0 : List Sta) (c0_0 : List (Sta × Int × Unit)) (hx : List.length (t7_0) < lenMax) : LeF some (yI (fun i__ e__ s__ => yOg t7_0 i__ e__ s__) (fun s__ => yNG t7_0 s__) 0 (t7_0) c0_0) (y9Q n n t7_0 (List.length (t7_0) : Int) 0 c0_0) := by
 refine yJ (f := some) (W := fun k__ i__ s__ => y9Q n k__ t7_0 (List.length (t7_0) : Int) i__ s__) (body := (fun i__ e__ s__ => yOg t7_0 i__ e__ s__)) (fin := (fun s__ => yNG t7_0 s__)) (fun k__ i__ s__ => ?_) hx c0_0 n (by unfold big at hn; unfold lenMax at hx; omega)
 show LeF _ _ (yIn n (y9Q n k__) t7_0 (List.length (t7_0) : Int) i__ s__)
 exact y0 (y7 fun v1 => (y0 (y3 rfl) yb)) (yo (y7 fun v2 => (y7 fun v3 => (y3 rfl))))
def zZ_M (c : Cha) : Option (List Int × Unit) :=
 (bif decide (List.length (c.1) < lenMax) then yI (fun i__ e__ s__ => yOg (c.1) i__ e__ s__) (fun s__ => yNG (c.1) s__) 0 (c.1) ([]) else none)
theorem yRO (c : Cha) (y : List Int × Unit) (h : zZ_M c = some y) : ∃ n, zZ_m n c = some y :=
 ⟨big, LeF.top (show LeF some (zZ_M c) (zZ_m big c) from (fun (n : Nat) (hn : big ≤ n) => show LeF some (zZ_M c) (zZ_m n c) from (yK fun hx => by apply yFY n hn; exact hx)) big (Nat.le_refl _)) h⟩
def zZ_e : Entry := { f := 86, args := zZ_a, ress := zZ_r, m := fun x => zZ_M x.1 }
theorem yRI : FnOK Tryz.prog zZ_e := yN (g := zZ_g) (fn := Tryz.f86) yC yM (yA yWU (yA yVz (yA yXS (yA yXd eNil)))) (by kernel_rfl) (by kernel_rfl) (by kernel_rfl) (fun x y h => let ⟨n, hn⟩ := yRO x.1 y h; ⟨yRy n, iNil, (yWX n x).trans hn⟩)
abbrev yNd : Ty := .pair t9 .unit
abbrev yU9 : Ty := .pair t3 .unit
def yPP : G := { T := T, E := [z0Q_e], muts := [], fz := [] }
def yWh : List (List Nat) := []
def yLC (n : Nat) : Ann := { keep := yWh, fuel := n, inl := [], deep := 0 }
def yJn (n : Nat) (s : List UInt8) : Option (Int × Unit) :=
 (Option.bind (yBt s) fun (v0 : Bool × Unit) => (bif !v0.1 then some ((8 : Int), ()) else some ((0 : Int), ())))
theorem yTc (n : Nat) (x : yNd.den) : runF yPP (yLC n) Tryz.f89 yNd yU9 x = yJn n x.1 := by kernel_rfl
def y9W (s : List UInt8) : Option (Int × Unit) := yJn 0 s
theorem yO0 (s : List UInt8) (y : Int × Unit) (h : y9W s = some y) : ∃ n, yJn n s = some y := ⟨0, h⟩
def z00_e : Entry := { f := 89, args := yNd, ress := yU9, m := fun x => y9W x.1 }
theorem yM6 : FnOK Tryz.prog z00_e := yN (g := yPP) (fn := Tryz.f89) yC yM (yA yRt eNil) (by kernel_rfl) (by kernel_rfl) (by kernel_rfl) (fun x y h => let ⟨n, hn⟩ := yO0 x.1 y h; ⟨yLC n, iNil, (yTc n x).trans hn⟩)
abbrev zO_a : Ty := .pair t35 (.pair t3 .unit)
abbrev zO_r : Ty := .pair t29 .unit
def zO_g : G := { T := T, E := [z0v_e], muts := [], fz := [] }
def zO_k : List (List Nat) := []
def yS1 (n : Nat) : Ann := { keep := zO_k, fuel := n, inl := [], deep := 0 }
def zO_m (n : Nat) (c : Cha) (leaf : Int) : Option (Int × Unit) :=
 (bif decide (leaf < (0 : Int)) then some ((10 : Int), ()) else (bif decide (leaf ≥ (↑c.1.length : Int)) then some ((10 : Int), ()) else (Option.bind (idx c.1 leaf) fun (v2 : Sta) => some ((z0v (v2.2.2.1 != (-1 : Int)) (20 : Int)).1, ()))))
theorem yVe (n : Nat) (x : zO_a.den) : runF zO_g (yS1 n) Tryz.f101 zO_a zO_r x = zO_m n x.1 x.2.1 := by kernel_rfl
def zO_M (c : Cha) (leaf : Int) : Option (Int × Unit) := zO_m 0 c leaf
theorem yTO (c : Cha) (leaf : Int) (y : Int × Unit) (h : zO_M c leaf = some y) : ∃ n, zO_m n c leaf = some y := ⟨0, h⟩
def zO_e : Entry := { f := 101, args := zO_a, ress := zO_r, m := fun x => zO_M x.1 x.2.1 }
theorem yXR : FnOK Tryz.prog zO_e := yN (g := zO_g) (fn := Tryz.f101) yC yM (yA y41 eNil) (by kernel_rfl) (by kernel_rfl) (by kernel_rfl) (fun x y h => let ⟨n, hn⟩ := yTO x.1 x.2.1 y h; ⟨yS1 n, iNil, (yVe n x).trans hn⟩)
abbrev yMD : Ty := .pair t3 (.pair t3 (.pair t3 .unit))
abbrev yUz : Ty := .pair t29 .unit
def yTn : G := { T := T, E := [z0v_e], muts := [], fz := [] }
def yXZ : List (List Nat) := []
def yM5 (n : Nat) : Ann := { keep := yXZ, fuel := n, inl := [], deep := 0 }
def yJD (n : Nat) (n1 : Int) (least : Int) (most : Int) : Option (Int × Unit) :=
 (bif decide (n1 < least) then some ((z0v Bool.true (3 : Int)).1, ()) else some ((z0v (decide (n1 > most)) (3 : Int)).1, ()))
theorem yUC (n : Nat) (x : yMD.den) : runF yTn (yM5 n) Tryz.f108 yMD yUz x = yJD n x.1 x.2.1 x.2.2.1 := by kernel_rfl
def z0Z (n1 : Int) (least : Int) (most : Int) : (Int × Unit) :=
 (bif decide (n1 < least) then ((z0v Bool.true (3 : Int)).1, ()) else ((z0v (decide (n1 > most)) (3 : Int)).1, ()))
abbrev ySP (n1 : Int) (least : Int) (most : Int) : Option (Int × Unit) := some (z0Z n1 least most)
theorem yP9 (n1 : Int) (least : Int) (most : Int) (y : Int × Unit) (h : ySP n1 least most = some y) : ∃ n, yJD n n1 least most = some y :=
 ⟨0, by rw [← h]; show yJD 0 n1 least most = some (z0Z n1 least most); unfold yJD z0Z; first | rfl | (simp only [yG]; done) | (simp only [yG]; rfl)⟩
def z0Z_e : Entry := { f := 108, args := yMD, ress := yUz, m := fun x => ySP x.1 x.2.1 x.2.2.1 }
theorem y8o : FnOK Tryz.prog z0Z_e := yN (g := yTn) (fn := Tryz.f108) yC yM (yA y41 eNil) (by kernel_rfl) (by kernel_rfl) (by kernel_rfl) (fun x y h => let ⟨n, hn⟩ := yP9 x.1 x.2.1 x.2.2.1 y h; ⟨yM5 n, iNil, (yUC n x).trans hn⟩)
abbrev yNC : Ty := .pair t112 (.pair t167 (.pair (.ref t35) .unit))
abbrev yUS : Ty := .pair t4 .unit
def ySp : G := { T := T, E := [z0Y_e], muts := [], fz := [] }
def yVs : List (List Nat) := []
def yL6 (n : Nat) : Ann := { keep := yVs, fuel := n, inl := [], deep := 0 }
def yOP (n : Nat) (x1 : Cas) (o : Int × Bool × Bool × Unit) (p2 : Cha) : Option (Bool × Unit) :=
 (bif yl IntKind.i64 Go.BinOp.and x1.2.2.1 (1 : Int) != (0 : Int) then (bif !o.2.2.1 then (Option.bind (idx p2.1 o.1) fun (v0 : Sta) => some (v0.2.2.2.1, ())) else some (Bool.false, ())) else some (Bool.false, ()))
theorem yTZ (n : Nat) (x : yNC.den) : runF ySp (yL6 n) Tryz.f118 yNC yUS x = yOP n x.1 x.2.1 x.2.2.1 := by kernel_rfl
def yNK (x1 : Cas) (o : Int × Bool × Bool × Unit) (p2 : Cha) : Option (Bool × Unit) := yOP 0 x1 o p2
theorem yMg (x1 : Cas) (o : Int × Bool × Bool × Unit) (p2 : Cha) (y : Bool × Unit) (h : yNK x1 o p2 = some y) : ∃ n, yOP n x1 o p2 = some y := ⟨0, h⟩
def z05_e : Entry := { f := 118, args := yNC, ress := yUS, m := fun x => yNK x.1 x.2.1 x.2.2.1 }
theorem yTF : FnOK Tryz.prog z05_e := yN (g := ySp) (fn := Tryz.f118) yC yM (yA yLF eNil) (by kernel_rfl) (by kernel_rfl) (by kernel_rfl) (fun x y h => let ⟨n, hn⟩ := yMg x.1 x.2.1 x.2.2.1 y h; ⟨yL6 n, iNil, (yTZ n x).trans hn⟩)
abbrev zH_a : Ty := .pair t28 (.pair t3 .unit)
abbrev zH_r : Ty := .pair t4 .unit
def zH_g : G := { T := T, E := [zS_e], muts := [], fz := [] }
def zH_k : List (List Nat) := []
def yUr (n : Nat) : Ann := { keep := zH_k, fuel := n, inl := [], deep := 0 }
def zH_m (n : Nat) (s : List Int) (v : Int) : Option (Bool × Unit) :=
 (Option.bind (zS_M s v) fun (v0 : Int × Unit) => some (decide (v0.1 ≥ (0 : Int)), ()))
theorem yVq (n : Nat) (x : zH_a.den) : runF zH_g (yUr n) Tryz.f125 zH_a zH_r x = zH_m n x.1 x.2.1 := by kernel_rfl
def zH_M (s : List Int) (v : Int) : Option (Bool × Unit) := zH_m 0 s v
theorem yRp (s : List Int) (v : Int) (y : Bool × Unit) (h : zH_M s v = some y) : ∃ n, zH_m n s v = some y := ⟨0, h⟩
def zH_e : Entry := { f := 125, args := zH_a, ress := zH_r, m := fun x => zH_M x.1 x.2.1 }
theorem yJm : FnOK Tryz.prog zH_e := yN (g := zH_g) (fn := Tryz.f125) yC yM (yA yVk eNil) (by kernel_rfl) (by kernel_rfl) (by kernel_rfl) (fun x y h => let ⟨n, hn⟩ := yRp x.1 x.2.1 y h; ⟨yUr n, iNil, (yVq n x).trans hn⟩)
abbrev yN5 : Ty := .pair t25 (.pair t3 (.pair t125 .unit))
abbrev yS7 : Ty := .pair t3 .unit
def yQW : G := { T := T, E := [zk_e, zr_e, z0d_e], muts := [], fz := [] }
def yWJ : List (List Nat) := []
def yLR (n : Nat) : Ann := { keep := yWJ, fuel := n, inl := [], deep := 0 }
def yK6 (n : Nat) (c : Cha) (n1 : Int) (g : Goa) : Option (Int × Unit) :=
 (Option.bind (zk_M c g.1) fun (v0 : Int × Unit) => (Option.bind (zk_M c g.2.1) fun (v1 : Int × Unit) => (Option.bind (y6r [v0.1, v1.1, (zr g.2.2.1 (0 : Int) n1).1, (zr g.2.2.2.1 (0 : Int) n1).1]) fun (v2 : Int × Unit) => some (v2.1, ()))))
theorem ySQ (n : Nat) (x : yN5.den) : runF yQW (yLR n) Tryz.f130 yN5 yS7 x = yK6 n x.1 x.2.1 x.2.2.1 := by kernel_rfl
def yHs (c : Cha) (n1 : Int) (g : Goa) : Option (Int × Unit) := yK6 0 c n1 g
theorem yMw (c : Cha) (n1 : Int) (g : Goa) (y : Int × Unit) (h : yHs c n1 g = some y) : ∃ n, yK6 n c n1 g = some y := ⟨0, h⟩
def z03_e : Entry := { f := 130, args := yN5, ress := yS7, m := fun x => yHs x.1 x.2.1 x.2.2.1 }
theorem yR6 : FnOK Tryz.prog z03_e := yN (g := yQW) (fn := Tryz.f130) yC yM (yA yVn (yA yOk (yA yDy eNil))) (by kernel_rfl) (by kernel_rfl) (by kernel_rfl) (fun x y h => let ⟨n, hn⟩ := yMw x.1 x.2.1 x.2.2.1 y h; ⟨yLR n, iNil, (ySQ n x).trans hn⟩)
abbrev zA_a : Ty := .pair t37 (.pair t9 .unit)
abbrev zA_r : Ty := .pair t4 .unit
def zA_g : G := { T := T, E := [zD_e], muts := [], fz := [] }
def zA_k : List (List Nat) := []
def yQC (n : Nat) : Ann := { keep := zA_k, fuel := n, inl := [], deep := 0 }
def zA_m (n : Nat) (s : List (List UInt8)) (v : List UInt8) : Option (Bool × Unit) :=
 (Option.bind (zD_M s v) fun (v0 : Int × Unit) => some (decide (v0.1 ≥ (0 : Int)), ()))
theorem yWn (n : Nat) (x : zA_a.den) : runF zA_g (yQC n) Tryz.f135 zA_a zA_r x = zA_m n x.1 x.2.1 := by kernel_rfl
def zA_M (s : List (List UInt8)) (v : List UInt8) : Option (Bool × Unit) := zA_m 0 s v
theorem yS3 (s : List (List UInt8)) (v : List UInt8) (y : Bool × Unit) (h : zA_M s v = some y) : ∃ n, zA_m n s v = some y := ⟨0, h⟩
def zA_e : Entry := { f := 135, args := zA_a, ress := zA_r, m := fun x => zA_M x.1 x.2.1 }
theorem yXb : FnOK Tryz.prog zA_e := yN (g := zA_g) (fn := Tryz.f135) yC yM (yA yX6 eNil) (by kernel_rfl) (by kernel_rfl) (by kernel_rfl) (fun x y h => let ⟨n, hn⟩ := yS3 x.1 x.2.1 y h; ⟨yQC n, iNil, (yWn n x).trans hn⟩)
abbrev yNT : Ty := .pair t9 .unit
abbrev yT5 : Ty := .pair t29 .unit
def yQn : G := { T := T, E := [z0N_e, z0v_e], muts := [], fz := [] }
def yWa : List (List Nat) := []
def yLn (n : Nat) : Ann := { keep := yWa, fuel := n, inl := [], deep := 0 }
def yJC (n : Nat) (s : List UInt8) : Option (Int × Unit) :=
 (Option.bind (yBs s) fun (v0 : Bool × Unit) => some ((z0v (!v0.1) (8 : Int)).1, ()))
theorem yQ0 (n : Nat) (x : yNT.den) : runF yQn (yLn n) Tryz.f137 yNT yT5 x = yJC n x.1 := by kernel_rfl
def y7X (s : List UInt8) : Option (Int × Unit) := yJC 0 s
theorem yOp (s : List UInt8) (y : Int × Unit) (h : y7X s = some y) : ∃ n, yJC n s = some y := ⟨0, h⟩
def z08_e : Entry := { f := 137, args := yNT, ress := yT5, m := fun x => y7X x.1 }
theorem yDC : FnOK Tryz.prog z08_e := yN (g := yQn) (fn := Tryz.f137) yC yM (yA yT4 (yA y41 eNil)) (by kernel_rfl) (by kernel_rfl) (by kernel_rfl) (fun x y h => let ⟨n, hn⟩ := yOp x.1 y h; ⟨yLn n, iNil, (yQ0 n x).trans hn⟩)
abbrev zU_a : Ty := .pair t148 (.pair t3 .unit)
abbrev zU_r : Ty := .pair t4 .unit
def zU_g : G := { T := T, E := [z0Y_e], muts := [], fz := [] }
def zU_k : List (List Nat) := []
def yPT (n : Nat) : Ann := { keep := zU_k, fuel := n, inl := [], deep := 0 }
def zU_m (n : Nat) (t : Tra) (conditions : Int) : Option (Bool × Unit) :=
 some (eqV (Ty.arr (4 : Nat) Ty.bool) (z0Y (yl IntKind.i64 Go.BinOp.and conditions t.2.2.2.1)).1 (z0Y t.2.2.2.2.1).1, ())
theorem yVb (n : Nat) (x : zU_a.den) : runF zU_g (yPT n) Tryz.f141 zU_a zU_r x = zU_m n x.1 x.2.1 := by kernel_rfl
def zU (t : Tra) (conditions : Int) : (Bool × Unit) :=
 (eqV (Ty.arr (4 : Nat) Ty.bool) (z0Y (yl IntKind.i64 Go.BinOp.and conditions t.2.2.2.1)).1 (z0Y t.2.2.2.2.1).1, ())
abbrev zU_M (t : Tra) (conditions : Int) : Option (Bool × Unit) := some (zU t conditions)
theorem yRB (t : Tra) (conditions : Int) (y : Bool × Unit) (h : zU_M t conditions = some y) : ∃ n, zU_m n t conditions = some y :=
 ⟨0, by rw [← h]; show zU_m 0 t conditions = some (zU t conditions); unfold zU_m zU; first | rfl | (simp only [yG]; done) | (simp only [yG]; rfl)⟩
def zU_e : Entry := { f := 141, args := zU_a, ress := zU_r, m := fun x => zU_M x.1 x.2.1 }
theorem yW3 : FnOK Tryz.prog zU_e := yN (g := zU_g) (fn := Tryz.f141) yC yM (yA yLF eNil) (by kernel_rfl) (by kernel_rfl) (by kernel_rfl) (fun x y h => let ⟨n, hn⟩ := yRB x.1 x.2.1 y h; ⟨yPT n, iNil, (yVb n x).trans hn⟩)
abbrev zC_a : Ty := .pair t28 (.pair t181 .unit)
abbrev zC_r : Ty := .pair t4 .unit
def zC_g : G := { T := T, E := [zG_e], muts := [], fz := [] }
def zC_k : List (List Nat) := []
def yTz (n : Nat) : Ann := { keep := zC_k, fuel := n, inl := [], deep := 0 }
def zC_m (n : Nat) (s : List Int) (f : Int × Unit → Option (Bool × Unit)) : Option (Bool × Unit) :=
 (Option.bind (zG_M s f) fun (v0 : Int × Unit) => some (decide (v0.1 ≥ (0 : Int)), ()))
theorem yVP (n : Nat) (x : zC_a.den) : runF zC_g (yTz n) Tryz.f149 zC_a zC_r x = zC_m n x.1 x.2.1 := by kernel_rfl
def zC_M (s : List Int) (f : Int × Unit → Option (Bool × Unit)) : Option (Bool × Unit) := zC_m 0 s f
theorem yT9 (s : List Int) (f : Int × Unit → Option (Bool × Unit)) (y : Bool × Unit) (h : zC_M s f = some y) : ∃ n, zC_m n s f = some y := ⟨0, h⟩
def zC_e : Entry := { f := 149, args := zC_a, ress := zC_r, m := fun x => zC_M x.1 x.2.1 }
theorem yTS : FnOK Tryz.prog zC_e := yN (g := zC_g) (fn := Tryz.f149) yC yM (yA yVm eNil) (by kernel_rfl) (by kernel_rfl) (by kernel_rfl) (fun x y h => let ⟨n, hn⟩ := yT9 x.1 x.2.1 y h; ⟨yTz n, iNil, (yVP n x).trans hn⟩)
abbrev yOD : Ty := .unit
abbrev yUb : Ty := .pair t238 .unit
def yRw : G := { T := T, E := [z0I_e, z0J_e, z0K_e, z0L_e, z0M_e, ze_e], muts := [], fz := [] }
def yVr : List (List Nat) := []
def yM0 (n : Nat) : Ann := { keep := yVr, fuel := n, inl := [], deep := 0 }
def yJi (n : Nat)  : Option (List (List UInt8 × (Fai × Unit → Option (Fai × Unit)) × (Fai × Int × (List UInt8 × Int × Unit) × Unit → Option ((List UInt8 × Int × Unit) × Bool × Unit)) × Unit) × Unit) :=
 some ([([(110 : UInt8), (111 : UInt8), (110 : UInt8), (101 : UInt8)], fun (x : Fai × Unit) => yIW x.1, fun (x : Fai × Int × (List UInt8 × Int × Unit) × Unit) => yIe x.1 x.2.1 x.2.2.1, ()), ([(108 : UInt8), (111 : UInt8), (115 : UInt8), (116 : UInt8)], fun (x : Fai × Unit) => yIb x.1, fun (x : Fai × Int × (List UInt8 × Int × Unit) × Unit) => yGW x.1 x.2.1 x.2.2.1, ()), ([(115 : UInt8), (116 : UInt8), (117 : UInt8), (99 : UInt8), (107 : UInt8)], fun (x : Fai × Unit) => yHA x.1, fun (x : Fai × Int × (List UInt8 × Int × Unit) × Unit) => ze_M x.1 x.2.1 x.2.2.1, ())], ())
theorem yTw (n : Nat) (x : yOD.den) : runF yRw (yM0 n) Tryz.f156 yOD yUb x = yJi n := by kernel_rfl
def z0k  : (List (List UInt8 × (Fai × Unit → Option (Fai × Unit)) × (Fai × Int × (List UInt8 × Int × Unit) × Unit → Option ((List UInt8 × Int × Unit) × Bool × Unit)) × Unit) × Unit) :=
 ([([(110 : UInt8), (111 : UInt8), (110 : UInt8), (101 : UInt8)], fun (x : Fai × Unit) => yIW x.1, fun (x : Fai × Int × (List UInt8 × Int × Unit) × Unit) => yIe x.1 x.2.1 x.2.2.1, ()), ([(108 : UInt8), (111 : UInt8), (115 : UInt8), (116 : UInt8)], fun (x : Fai × Unit) => yIb x.1, fun (x : Fai × Int × (List UInt8 × Int × Unit) × Unit) => yGW x.1 x.2.1 x.2.2.1, ()), ([(115 : UInt8), (116 : UInt8), (117 : UInt8), (99 : UInt8), (107 : UInt8)], fun (x : Fai × Unit) => yHA x.1, fun (x : Fai × Int × (List UInt8 × Int × Unit) × Unit) => ze_M x.1 x.2.1 x.2.2.1, ())], ())
abbrev yQu  : Option (List (List UInt8 × (Fai × Unit → Option (Fai × Unit)) × (Fai × Int × (List UInt8 × Int × Unit) × Unit → Option ((List UInt8 × Int × Unit) × Bool × Unit)) × Unit) × Unit) := some (z0k)
theorem yMi  (y : List (List UInt8 × (Fai × Unit → Option (Fai × Unit)) × (Fai × Int × (List UInt8 × Int × Unit) × Unit → Option ((List UInt8 × Int × Unit) × Bool × Unit)) × Unit) × Unit) (h : yQu = some y) : ∃ n, yJi n = some y :=
 ⟨0, by rw [← h]; show yJi 0 = some (z0k); unfold yJi z0k; first | rfl | (simp only [yG]; done) | (simp only [yG]; rfl)⟩
def z0k_e : Entry := { f := 156, args := yOD, ress := yUb, m := fun x => yQu }
theorem yPO : FnOK Tryz.prog z0k_e := yN (g := yRw) (fn := Tryz.f156) yC yM (yA ySi (yA yTm (yA yTJ (yA yRF (yA yUP (yA yVd eNil)))))) (by kernel_rfl) (by kernel_rfl) (by kernel_rfl) (fun x y h => let ⟨n, hn⟩ := yMi y h; ⟨yM0 n, iNil, (yTw n x).trans hn⟩)
end
end Go.Tw
end
section
set_option linter.all false
set_option maxRecDepth 1000000
namespace Go.Tw
open Go.Vx Go.Vx.B Go.Proofs
noncomputable section
abbrev zt_a : Ty := .pair t25 .unit
abbrev zt_r : Ty := .pair t3 .unit
def zt_g : G := { T := T, E := [z00_e, z0B_e, zr_e, z0p_e, z0d_e, z0R_e], muts := [], fz := [] }
def zt_k : List (List Nat) := [[1, 3], [1, 3, 4, 6], [1, 7], [1, 11]]
def ySL (n : Nat) : Ann := { keep := zt_k, fuel := n, inl := [], deep := 0 }
def yHa (n : Nat) (r0 : Cha → Int → Option (Int × Unit)) (r3 : Cha → Int → Int → List UInt8 → Int → Int → Bool → Option (Int × Unit)) (c1_3 : Cha) (i3_3 : Int) (k6_3 : Int) (b0_0_3 : List UInt8) (b0_1_3 : Int) (b0_2_3 : Int) (b0_3_3 : Bool) : Option (Int × Unit) :=
 (bif decide (k6_3 < i3_3) then (Option.bind (idx c1_3.1 k6_3) fun (v4 : Sta) => (bif v4.1 == b0_0_3 then some ((9 : Int), ()) else r3 c1_3 i3_3 (IntKind.i64.wrap (k6_3 + (1 : Int))) b0_0_3 b0_1_3 b0_2_3 b0_3_3)) else (bif decide (b0_1_3 < (-1 : Int)) then some ((11 : Int), ()) else (bif decide (b0_1_3 ≥ i3_3) then some ((11 : Int), ()) else r0 c1_3 (IntKind.i64.wrap (i3_3 + (1 : Int))))))
def y9A (n : Nat) (r0 : Cha → Int → Option (Int × Unit)) (k : Nat) (c1_3 : Cha) (i3_3 : Int) (k6_3 : Int) (b0_0_3 : List UInt8) (b0_1_3 : Int) (b0_2_3 : Int) (b0_3_3 : Bool) : Option (Int × Unit) :=
 iter (fun r y => yHa n r0 (fun c1_3 i3_3 k6_3 b0_0_3 b0_1_3 b0_2_3 b0_3_3 => r ((c1_3, (i3_3, (k6_3, ()))), (((b0_0_3, (b0_1_3, (b0_2_3, (b0_3_3, ())))), ()), ()))) y.1.1 y.1.2.1 y.1.2.2.1 y.2.1.1.1 y.2.1.1.2.1 y.2.1.1.2.2.1 y.2.1.1.2.2.2.1) k ((c1_3, (i3_3, (k6_3, ()))), (((b0_0_3, (b0_1_3, (b0_2_3, (b0_3_3, ())))), ()), ()))
def yDG (n : Nat) (r19 : Cha → Int → Option (Int × Unit)) (c1_19 : Cha) (i11_19 : Int) : Option (Int × Unit) :=
 (bif decide (i11_19 < (↑c1_19.2.1.length : Int)) then (Option.bind (idx c1_19.2.1 i11_19) fun (v20 : Tra) => (bif (zr v20.1 (0 : Int) (IntKind.i64.wrap ((↑c1_19.1.length : Int) - (1 : Int)))).1 != (0 : Int) then some ((10 : Int), ()) else (bif (zr v20.2.2.1 (0 : Int) (IntKind.i64.wrap ((↑c1_19.1.length : Int) - (1 : Int)))).1 != (0 : Int) then some ((10 : Int), ()) else (Option.bind (y9W v20.2.1) fun (v23 : Int × Unit) => (Option.bind (y6r [v23.1, (zr v20.2.2.2.1 (0 : Int) (15 : Int)).1, (zr v20.2.2.2.2.1 (0 : Int) (15 : Int)).1, (z0p (yl IntKind.i64 Go.BinOp.and v20.2.2.2.2.1 v20.2.2.2.1 != v20.2.2.2.2.1) (1 : Int)).1]) fun (v24 : Int × Unit) => (bif v24.1 != (0 : Int) then some (v24.1, ()) else r19 c1_19 (IntKind.i64.wrap (i11_19 + (1 : Int))))))))) else (Option.bind (y7o c1_19) fun (v25 : List (List UInt8) × Unit) => some ((z0p (decide ((↑v25.1.length : Int) > (8 : Int))) (5 : Int)).1, ())))
def y6N (n : Nat)  (k : Nat) (c1_19 : Cha) (i11_19 : Int) : Option (Int × Unit) :=
 iter (fun r y => yDG n (fun c1_19 i11_19 => r ((c1_19, (i11_19, ())), ((), ()))) y.1.1 y.1.2.1) k ((c1_19, (i11_19, ())), ((), ()))
def yGn (n : Nat) (r7 : Cha → Int → Option (Int × Unit)) (c1_7 : Cha) (i7_7 : Int) : Option (Int × Unit) :=
 (bif decide (i7_7 < (↑c1_7.1.length : Int)) then (Option.bind (idx c1_7.1 i7_7) fun (v8 : Sta) => (Option.bind (yAP c1_7 i7_7 v8.2.2.1) fun (v9 : Int × Bool × Unit) => (bif decide (v9.1 > (0 : Int)) then (bif !v9.2.1 then some ((1 : Int), ()) else (bif v8.2.2.2.1 then some ((1 : Int), ()) else (bif v9.1 == (0 : Int) then (bif v8.2.2.1 != (-1 : Int) then some ((1 : Int), ()) else r7 c1_7 (IntKind.i64.wrap (i7_7 + (1 : Int)))) else r7 c1_7 (IntKind.i64.wrap (i7_7 + (1 : Int)))))) else (bif v9.1 == (0 : Int) then (bif v8.2.2.1 != (-1 : Int) then some ((1 : Int), ()) else r7 c1_7 (IntKind.i64.wrap (i7_7 + (1 : Int)))) else r7 c1_7 (IntKind.i64.wrap (i7_7 + (1 : Int))))))) else (bif decide ((↑c1_7.2.1.length : Int) > (48 : Int)) then some ((5 : Int), ()) else (y6N n n (c1_7) ((0 : Int)))))
def y8x (n : Nat)  (k : Nat) (c1_7 : Cha) (i7_7 : Int) : Option (Int × Unit) :=
 iter (fun r y => yGn n (fun c1_7 i7_7 => r ((c1_7, (i7_7, ())), ((), ()))) y.1.1 y.1.2.1) k ((c1_7, (i7_7, ())), ((), ()))
def yHN (n : Nat) (r0 : Cha → Int → Option (Int × Unit)) (c1_0 : Cha) (i3_0 : Int) : Option (Int × Unit) :=
 (bif decide (i3_0 < (↑c1_0.1.length : Int)) then (Option.bind (idx c1_0.1 i3_0) fun (v1 : Sta) => (Option.bind (y9W v1.1) fun (v2 : Int × Unit) => (bif v2.1 != (0 : Int) then some (v2.1, ()) else (y9A n r0 n (c1_0) (i3_0) ((0 : Int)) (v1.1) (v1.2.1) (v1.2.2.1) (v1.2.2.2.1))))) else (y8x n n (c1_0) ((0 : Int))))
def y96 (n : Nat)  (k : Nat) (c1_0 : Cha) (i3_0 : Int) : Option (Int × Unit) :=
 iter (fun r y => yHN n (fun c1_0 i3_0 => r ((c1_0, (i3_0, ())), ((), ()))) y.1.1 y.1.2.1) k ((c1_0, (i3_0, ())), ((), ()))
def zt_m (n : Nat) (c : Cha) : Option (Int × Unit) :=
 (bif (↑c.1.length : Int) == (0 : Int) then some ((12 : Int), ()) else (bif decide ((↑c.1.length : Int) > (16 : Int)) then some ((5 : Int), ()) else (y96 n n (c) ((0 : Int)))))
theorem yWo (n : Nat) (x : zt_a.den) : runF zt_g (ySL n) Tryz.f20 zt_a zt_r x = zt_m n x.1 := by kernel_rfl
def yFT (c1_3 : Cha) (i3_3 : Int) (b0_0_3 : List UInt8) (b0_1_3 : Int) (b0_2_3 : Int) (b0_3_3 : Bool) (k6_3 : Int) : Option (((Int × Unit) ⊕ Unit) ⊕ Unit) :=
 (Option.bind (idx c1_3.1 k6_3) fun (v4 : Sta) => (bif v4.1 == b0_0_3 then (some (Sum.inl (Sum.inl (((9 : Int), ()))))) else (some (Sum.inr ()))))
def yHU (c1_3 : Cha) (i3_3 : Int) (b0_0_3 : List UInt8) (b0_1_3 : Int) (b0_2_3 : Int) (b0_3_3 : Bool) : Option ((Int × Unit) ⊕ Unit) :=
 (bif decide (b0_1_3 < (-1 : Int)) then (some (Sum.inl (((11 : Int), ())))) else (bif decide (b0_1_3 ≥ i3_3) then (some (Sum.inl (((11 : Int), ())))) else (some (Sum.inr ()))))
theorem yEl (n : Nat) (hn : big ≤ n)  (r0 : Cha → Int → Option (Int × Unit)) (c1_3 : Cha) (i3_3 : Int) (b0_0_3 : List UInt8) (b0_1_3 : Int) (b0_2_3 : Int) (b0_3_3 : Bool) (hx : (i3_3) ≤ (9223372036854775807 : Int)) : LeF (elim some fun (s__ : Unit) => r0 c1_3 (IntKind.i64.wrap (i3_3 + 1))) (y00 (fun i__ s__ => yFT c1_3 i3_3 b0_0_3 b0_1_3 b0_2_3 b0_3_3 i__) (fun s__ => yHU c1_3 i3_3 b0_0_3 b0_1_3 b0_2_3 b0_3_3) ((i3_3) - 0).toNat 0 ()) (y9A n r0 n c1_3 i3_3 0 b0_0_3 b0_1_3 b0_2_3 b0_3_3) := by
 refine y1S (f := (elim some fun (s__ : Unit) => r0 c1_3 (IntKind.i64.wrap (i3_3 + 1)))) (W := fun k__ i__ s__ => y9A n r0 k__ c1_3 i3_3 i__ b0_0_3 b0_1_3 b0_2_3 b0_3_3) (body := (fun i__ s__ => yFT c1_3 i3_3 b0_0_3 b0_1_3 b0_2_3 b0_3_3 i__)) (fin := (fun s__ => yHU c1_3 i3_3 b0_0_3 b0_1_3 b0_2_3 b0_3_3)) (fun k__ i__ s__ => ?_) hx () n 0 (by decide) (by unfold big at hn; omega)
 show LeF _ _ (yHa n r0 (y9A n r0 k__) c1_3 i3_3 i__ b0_0_3 b0_1_3 b0_2_3 b0_3_3)
 exact y0 (y7 fun v4 => (y0 (y3 rfl) (y3 rfl))) (yo (y0 (y3 rfl) (y0 (y3 rfl) (y3 rfl))))
def y8q (c1_19 : Cha) (i11_19 : Int) (v20 : Tra) : Option ((Int × Unit) ⊕ Unit) :=
 (bif (zr v20.1 (0 : Int) (IntKind.i64.wrap ((↑c1_19.1.length : Int) - (1 : Int)))).1 != (0 : Int) then (some (Sum.inl (((10 : Int), ())))) else (bif (zr v20.2.2.1 (0 : Int) (IntKind.i64.wrap ((↑c1_19.1.length : Int) - (1 : Int)))).1 != (0 : Int) then (some (Sum.inl (((10 : Int), ())))) else (Option.bind (y9W v20.2.1) fun (v23 : Int × Unit) => (Option.bind (y6r [v23.1, (zr v20.2.2.2.1 (0 : Int) (15 : Int)).1, (zr v20.2.2.2.2.1 (0 : Int) (15 : Int)).1, (z0p (yl IntKind.i64 Go.BinOp.and v20.2.2.2.2.1 v20.2.2.2.1 != v20.2.2.2.2.1) (1 : Int)).1]) fun (v24 : Int × Unit) => (bif v24.1 != (0 : Int) then (some (Sum.inl ((v24.1, ())))) else (some (Sum.inr ())))))))
def y8f (c1_19 : Cha) : Option (Int × Unit) :=
 (Option.bind (y7o c1_19) fun (v25 : List (List UInt8) × Unit) => (some (((z0p (decide ((↑v25.1.length : Int) > (8 : Int))) (5 : Int)).1, ()))))
theorem yBz (n : Nat) (hn : big ≤ n)  (c1_19 : Cha) (hx : List.length (c1_19.2.1) < lenMax) : LeF some (yI (fun i__ e__ s__ => y8q c1_19 i__ e__) (fun s__ => y8f c1_19) 0 (c1_19.2.1) ()) (y6N n n c1_19 0) := by
 refine yJ (f := some) (W := fun k__ i__ s__ => y6N n k__ c1_19 i__) (body := (fun i__ e__ s__ => y8q c1_19 i__ e__)) (fin := (fun s__ => y8f c1_19)) (fun k__ i__ s__ => ?_) hx () n (by unfold big at hn; unfold lenMax at hx; omega)
 show LeF _ _ (yDG n (y6N n k__) c1_19 i__)
 exact y0 (y7 fun v20 => (y0 (y3 rfl) (y0 (y3 rfl) (y7 fun v23 => (y7 fun v24 => (y0 (y3 rfl) (y3 rfl))))))) (yo (y7 fun v25 => (y3 rfl)))
def yF8 (c1_7 : Cha) (i7_7 : Int) (v8 : Sta) : Option ((Int × Unit) ⊕ Unit) :=
 (Option.bind (yAP c1_7 i7_7 v8.2.2.1) fun (v9 : Int × Bool × Unit) => (bif decide (v9.1 > (0 : Int)) then (bif !v9.2.1 then (some (Sum.inl (((1 : Int), ())))) else (bif v8.2.2.2.1 then (some (Sum.inl (((1 : Int), ())))) else (bif v9.1 == (0 : Int) then (bif v8.2.2.1 != (-1 : Int) then (some (Sum.inl (((1 : Int), ())))) else (some (Sum.inr ()))) else (some (Sum.inr ()))))) else (bif v9.1 == (0 : Int) then (bif v8.2.2.1 != (-1 : Int) then (some (Sum.inl (((1 : Int), ())))) else (some (Sum.inr ()))) else (some (Sum.inr ())))))
def yEq (c1_7 : Cha) : Option (Int × Unit) :=
 (bif decide ((↑c1_7.2.1.length : Int) > (48 : Int)) then (some (((5 : Int), ()))) else (bif decide (List.length (c1_7.2.1) < lenMax) then yI (fun i__ e__ s__ => y8q (c1_7) i__ e__) (fun s__ => y8f (c1_7)) 0 (c1_7.2.1) () else none))
theorem yEs (n : Nat) (hn : big ≤ n)  (c1_7 : Cha) (hx : List.length (c1_7.1) < lenMax) : LeF some (yI (fun i__ e__ s__ => yF8 c1_7 i__ e__) (fun s__ => yEq c1_7) 0 (c1_7.1) ()) (y8x n n c1_7 0) := by
 refine yJ (f := some) (W := fun k__ i__ s__ => y8x n k__ c1_7 i__) (body := (fun i__ e__ s__ => yF8 c1_7 i__ e__)) (fin := (fun s__ => yEq c1_7)) (fun k__ i__ s__ => ?_) hx () n (by unfold big at hn; unfold lenMax at hx; omega)
 show LeF _ _ (yGn n (y8x n k__) c1_7 i__)
 exact y0 (y7 fun v8 => (y7 fun v9 => (y0 (y0 (y3 rfl) (y0 (y3 rfl) (y0 (y0 (y3 rfl) (y3 rfl)) (y3 rfl)))) (y0 (y0 (y3 rfl) (y3 rfl)) (y3 rfl))))) (yo (y0 (y3 rfl) (yK fun hx => by apply yBz n hn; exact hx)))
def yFW (c1_0 : Cha) (i3_0 : Int) (v1 : Sta) : Option ((Int × Unit) ⊕ Unit) :=
 (Option.bind (y9W v1.1) fun (v2 : Int × Unit) => (bif v2.1 != (0 : Int) then (some (Sum.inl ((v2.1, ())))) else (bif decide ((i3_0) ≤ (9223372036854775807 : Int)) then y00 (fun i__ s__ => yFT (c1_0) (i3_0) (v1.1) (v1.2.1) (v1.2.2.1) (v1.2.2.2.1) i__) (fun s__ => yHU (c1_0) (i3_0) (v1.1) (v1.2.1) (v1.2.2.1) (v1.2.2.2.1)) ((i3_0) - 0).toNat 0 () else none)))
def yEk (c1_0 : Cha) : Option (Int × Unit) :=
 (bif decide (List.length (c1_0.1) < lenMax) then yI (fun i__ e__ s__ => yF8 (c1_0) i__ e__) (fun s__ => yEq (c1_0)) 0 (c1_0.1) () else none)
theorem yG9 (n : Nat) (hn : big ≤ n)  (c1_0 : Cha) (hx : List.length (c1_0.1) < lenMax) : LeF some (yI (fun i__ e__ s__ => yFW c1_0 i__ e__) (fun s__ => yEk c1_0) 0 (c1_0.1) ()) (y96 n n c1_0 0) := by
 refine yJ (f := some) (W := fun k__ i__ s__ => y96 n k__ c1_0 i__) (body := (fun i__ e__ s__ => yFW c1_0 i__ e__)) (fin := (fun s__ => yEk c1_0)) (fun k__ i__ s__ => ?_) hx () n (by unfold big at hn; unfold lenMax at hx; omega)
 show LeF _ _ (yHN n (y96 n k__) c1_0 i__)
 exact y0 (y7 fun v1 => (y7 fun v2 => (y0 (y3 rfl) (yK fun hx => by apply yEl n hn; exact hx)))) (yo (yK fun hx => by apply yEs n hn; exact hx))
def zt_M (c : Cha) : Option (Int × Unit) :=
 (bif (↑c.1.length : Int) == (0 : Int) then (some (((12 : Int), ()))) else (bif decide ((↑c.1.length : Int) > (16 : Int)) then (some (((5 : Int), ()))) else (bif decide (List.length (c.1) < lenMax) then yI (fun i__ e__ s__ => yFW (c) i__ e__) (fun s__ => yEk (c)) 0 (c.1) () else none)))
theorem yRq (c : Cha) (y : Int × Unit) (h : zt_M c = some y) : ∃ n, zt_m n c = some y :=
 ⟨big, LeF.top (show LeF some (zt_M c) (zt_m big c) from (fun (n : Nat) (hn : big ≤ n) => show LeF some (zt_M c) (zt_m n c) from (y0 (y3 rfl) (y0 (y3 rfl) (yK fun hx => by apply yG9 n hn; exact hx)))) big (Nat.le_refl _)) h⟩
def zt_e : Entry := { f := 20, args := zt_a, ress := zt_r, m := fun x => zt_M x.1 }
theorem yWs : FnOK Tryz.prog zt_e := yN (g := zt_g) (fn := Tryz.f20) yC yM (yA yM6 (yA yV6 (yA yOk (yA yR4 (yA yDy (yA yLA eNil)))))) (by kernel_rfl) (by kernel_rfl) (by kernel_rfl) (fun x y h => let ⟨n, hn⟩ := yRq x.1 y h; ⟨ySL n, iNil, (yWo n x).trans hn⟩)
abbrev zu_a : Ty := .pair t53 .unit
abbrev zu_r : Ty := .pair t3 .unit
def zu_g : G := { T := T, E := [z00_e, zr_e, z0d_e], muts := [], fz := [] }
def zu_k : List (List Nat) := []
def yT2 (n : Nat) : Ann := { keep := zu_k, fuel := n, inl := [], deep := 0 }
def zu_m (n : Nat) (p0 : List UInt8 × Int × Unit) : Option (Int × Unit) :=
 (Option.bind (y9W p0.1) fun (v0 : Int × Unit) => (Option.bind (y6r [v0.1, (zr p0.2.1 (0 : Int) (15 : Int)).1]) fun (v1 : Int × Unit) => some (v1.1, ())))
theorem yVu (n : Nat) (x : zu_a.den) : runF zu_g (yT2 n) Tryz.f35 zu_a zu_r x = zu_m n x.1 := by kernel_rfl
def zu_M (p0 : List UInt8 × Int × Unit) : Option (Int × Unit) := zu_m 0 p0
theorem yUh (p0 : List UInt8 × Int × Unit) (y : Int × Unit) (h : zu_M p0 = some y) : ∃ n, zu_m n p0 = some y := ⟨0, h⟩
def zu_e : Entry := { f := 35, args := zu_a, ress := zu_r, m := fun x => zu_M x.1 }
theorem yVy : FnOK Tryz.prog zu_e := yN (g := zu_g) (fn := Tryz.f35) yC yM (yA yM6 (yA yOk (yA yDy eNil))) (by kernel_rfl) (by kernel_rfl) (by kernel_rfl) (fun x y h => let ⟨n, hn⟩ := yUh x.1 y h; ⟨yT2 n, iNil, (yVu n x).trans hn⟩)
abbrev zY_a : Ty := .pair t35 .unit
abbrev zY_r : Ty := .pair t37 .unit
def zY_g : G := { T := T, E := [zA_e], muts := [3], fz := [] }
def zY_k : List (List Nat) := [[3, 7, 8, 9]]
def yQi (n : Nat) : Ann := { keep := zY_k, fuel := n, inl := [], deep := 0 }
def yIL (n : Nat) (r0 : List Tra → Int → Int → List (List UInt8) → Option (List (List UInt8) × Unit)) (t7_0 : List Tra) (t8_0 : Int) (t9_0 : Int) (c0_0 : List (List UInt8)) : Option (List (List UInt8) × Unit) :=
 (bif decide (t9_0 < t8_0) then (Option.bind (idx t7_0 t9_0) fun (v1 : Tra) => (Option.bind (zA_M c0_0 v1.2.1) fun (v2 : Bool × Unit) => (bif !v2.1 then (bif decide (c0_0.length + (1 : Nat) ≤ memMax) then r0 t7_0 t8_0 (IntKind.i64.wrap (t9_0 + (1 : Int))) (c0_0 ++ [v1.2.1]) else none) else r0 t7_0 t8_0 (IntKind.i64.wrap (t9_0 + (1 : Int))) c0_0))) else some (c0_0, ()))
def y9j (n : Nat)  (k : Nat) (t7_0 : List Tra) (t8_0 : Int) (t9_0 : Int) (c0_0 : List (List UInt8)) : Option (List (List UInt8) × Unit) :=
 iter (fun r y => yIL n (fun t7_0 t8_0 t9_0 c0_0 => r ((t7_0, (t8_0, (t9_0, ()))), ((c0_0, ()), ()))) y.1.1 y.1.2.1 y.1.2.2.1 y.2.1.1) k ((t7_0, (t8_0, (t9_0, ()))), ((c0_0, ()), ()))
def zY_m (n : Nat) (c : Cha) : Option (List (List UInt8) × Unit) :=
 (y9j n n (c.2.1) ((↑c.2.1.length : Int)) ((0 : Int)) ([]))
theorem yVN (n : Nat) (x : zY_a.den) : runF zY_g (yQi n) Tryz.f87 zY_a zY_r x = zY_m n x.1 := by kernel_rfl
def yHQ (t7_0 : List Tra) (t9_0 : Int) (v1 : Tra) (c0_0 : List (List UInt8)) : Option ((List (List UInt8) × Unit) ⊕ (List (List UInt8))) :=
 (Option.bind (zA_M c0_0 v1.2.1) fun (v2 : Bool × Unit) => (bif !v2.1 then (bif decide (c0_0.length + (1 : Nat) ≤ memMax) then (some (Sum.inr (c0_0 ++ [v1.2.1]))) else none) else (some (Sum.inr (c0_0)))))
def yKe (t7_0 : List Tra) (c0_0 : List (List UInt8)) : Option (List (List UInt8) × Unit) :=
 (some ((c0_0, ())))
theorem yF3 (n : Nat) (hn : big ≤ n)  (t7_0 : List Tra) (c0_0 : List (List UInt8)) (hx : List.length (t7_0) < lenMax) : LeF some (yI (fun i__ e__ s__ => yHQ t7_0 i__ e__ s__) (fun s__ => yKe t7_0 s__) 0 (t7_0) c0_0) (y9j n n t7_0 (List.length (t7_0) : Int) 0 c0_0) := by
 refine yJ (f := some) (W := fun k__ i__ s__ => y9j n k__ t7_0 (List.length (t7_0) : Int) i__ s__) (body := (fun i__ e__ s__ => yHQ t7_0 i__ e__ s__)) (fin := (fun s__ => yKe t7_0 s__)) (fun k__ i__ s__ => ?_) hx c0_0 n (by unfold big at hn; unfold lenMax at hx; omega)
 show LeF _ _ (yIL n (y9j n k__) t7_0 (List.length (t7_0) : Int) i__ s__)
 exact y0 (y7 fun v1 => (y7 fun v2 => (y0 (y0 (y3 rfl) yb) (y3 rfl)))) (yo (y3 rfl))
def zY_M (c : Cha) : Option (List (List UInt8) × Unit) :=
 (bif decide (List.length (c.2.1) < lenMax) then yI (fun i__ e__ s__ => yHQ (c.2.1) i__ e__ s__) (fun s__ => yKe (c.2.1) s__) 0 (c.2.1) ([]) else none)
theorem yPw (c : Cha) (y : List (List UInt8) × Unit) (h : zY_M c = some y) : ∃ n, zY_m n c = some y :=
 ⟨big, LeF.top (show LeF some (zY_M c) (zY_m big c) from (fun (n : Nat) (hn : big ≤ n) => show LeF some (zY_M c) (zY_m n c) from (yK fun hx => by apply yF3 n hn; exact hx)) big (Nat.le_refl _)) h⟩
def zY_e : Entry := { f := 87, args := zY_a, ress := zY_r, m := fun x => zY_M x.1 }
theorem yJj : FnOK Tryz.prog zY_e := yN (g := zY_g) (fn := Tryz.f87) yC yM (yA yXb eNil) (by kernel_rfl) (by kernel_rfl) (by kernel_rfl) (fun x y h => let ⟨n, hn⟩ := yPw x.1 y h; ⟨yQi n, iNil, (yVN n x).trans hn⟩)
abbrev zJ_a : Ty := .pair t35 .unit
abbrev zJ_r : Ty := .pair t29 .unit
def zJ_g : G := { T := T, E := [z08_e, z0v_e, z0j_e, zH_e], muts := [12, 13], fz := [13] }
def zJ_k : List (List Nat) := [[1, 3, 4, 15, 16, 17], [4, 60, 61, 62]]
def yQP (n : Nat) : Ann := { keep := zJ_k, fuel := n, inl := [], deep := 0 }
def y9h (n : Nat) (r0 : Cha → List Sta → Int → Int → List (List UInt8 × Bool) → List (Int × List Int) → Option (Int × Unit)) (c1_0 : Cha) (t15_0 : List Sta) (t16_0 : Int) (t17_0 : Int) (m0_0 : List (List UInt8 × Bool)) (m1_0 : List (Int × List Int)) (v1 : Sta) : Option (Int × Unit) :=
 (bif y2Q (Ty.int IntKind.i64) v1.2.1 v1.2.1 then (bif decide (((yS (Ty.int IntKind.i64) (Ty.int IntKind.i64).slice m1_0 v1.2.1).getD []).length + (1 : Nat) ≤ memMax) then (bif y2Q (Ty.int IntKind.i64) v1.2.1 v1.2.1 then r0 c1_0 t15_0 t16_0 (IntKind.i64.wrap (t17_0 + (1 : Int))) (y04 Ty.str Ty.bool m0_0 v1.1 Bool.true) (y04 (Ty.int IntKind.i64) (Ty.int IntKind.i64).slice m1_0 v1.2.1 ((yS (Ty.int IntKind.i64) (Ty.int IntKind.i64).slice m1_0 v1.2.1).getD [] ++ [t17_0])) else none) else none) else none)
def yDh (n : Nat) (r20 : List (Int × List Int) → List Sta → Int → Int → Option (Int × Unit)) (children4_20 : List (Int × List Int)) (t60_20 : List Sta) (t61_20 : Int) (t62_20 : Int) : Option (Int × Unit) :=
 (bif decide (t62_20 < t61_20) then (Option.bind (idx t60_20 t62_20) fun (v21 : Sta) => (bif (↑((yS (Ty.int IntKind.i64) (Ty.int IntKind.i64).slice children4_20 t62_20).getD []).length : Int) == (0 : Int) then (bif v21.2.2.1 != (-1 : Int) then some ((1 : Int), ()) else (bif !(↑((yS (Ty.int IntKind.i64) (Ty.int IntKind.i64).slice children4_20 t62_20).getD []).length : Int) == (0 : Int) then (bif v21.2.2.2.1 then some ((1 : Int), ()) else (Option.bind (zH_M ((yS (Ty.int IntKind.i64) (Ty.int IntKind.i64).slice children4_20 t62_20).getD []) v21.2.2.1) fun (v22 : Bool × Unit) => (bif !v22.1 then some ((1 : Int), ()) else r20 children4_20 t60_20 t61_20 (IntKind.i64.wrap (t62_20 + (1 : Int)))))) else r20 children4_20 t60_20 t61_20 (IntKind.i64.wrap (t62_20 + (1 : Int))))) else (bif !(↑((yS (Ty.int IntKind.i64) (Ty.int IntKind.i64).slice children4_20 t62_20).getD []).length : Int) == (0 : Int) then (bif v21.2.2.2.1 then some ((1 : Int), ()) else (Option.bind (zH_M ((yS (Ty.int IntKind.i64) (Ty.int IntKind.i64).slice children4_20 t62_20).getD []) v21.2.2.1) fun (v23 : Bool × Unit) => (bif !v23.1 then some ((1 : Int), ()) else r20 children4_20 t60_20 t61_20 (IntKind.i64.wrap (t62_20 + (1 : Int)))))) else r20 children4_20 t60_20 t61_20 (IntKind.i64.wrap (t62_20 + (1 : Int)))))) else some ((0 : Int), ()))
def y67 (n : Nat)  (k : Nat) (children4_20 : List (Int × List Int)) (t60_20 : List Sta) (t61_20 : Int) (t62_20 : Int) : Option (Int × Unit) :=
 iter (fun r y => yDh n (fun children4_20 t60_20 t61_20 t62_20 => r ((children4_20, (t60_20, (t61_20, (t62_20, ())))), ((), ()))) y.1.1 y.1.2.1 y.1.2.2.1 y.1.2.2.2.1) k ((children4_20, (t60_20, (t61_20, (t62_20, ())))), ((), ()))
def yGr (n : Nat) (r0 : Cha → List Sta → Int → Int → List (List UInt8 × Bool) → List (Int × List Int) → Option (Int × Unit)) (c1_0 : Cha) (t15_0 : List Sta) (t16_0 : Int) (t17_0 : Int) (m0_0 : List (List UInt8 × Bool)) (m1_0 : List (Int × List Int)) : Option (Int × Unit) :=
 (bif decide (t17_0 < t16_0) then (Option.bind (idx t15_0 t17_0) fun (v1 : Sta) => (Option.bind (y7X v1.1) fun (v2 : Int × Unit) => (bif decide (v1.2.1 < (-1 : Int)) then (Option.bind (y0Q [v2.1, (z0v ((yS Ty.str Ty.bool m0_0 v1.1).getD Bool.false) (9 : Int)).1, (z0v Bool.true (11 : Int)).1]) fun (v3 : Int × Unit) => (bif v3.1 != (0 : Int) then some (v3.1, ()) else (y9h n r0 c1_0 t15_0 t16_0 t17_0 m0_0 m1_0 v1))) else (Option.bind (y0Q [v2.1, (z0v ((yS Ty.str Ty.bool m0_0 v1.1).getD Bool.false) (9 : Int)).1, (z0v (decide (v1.2.1 ≥ t17_0)) (11 : Int)).1]) fun (v4 : Int × Unit) => (bif v4.1 != (0 : Int) then some (v4.1, ()) else (y9h n r0 c1_0 t15_0 t16_0 t17_0 m0_0 m1_0 v1)))))) else (y67 n n (m1_0) (c1_0.1) ((↑c1_0.1.length : Int)) ((0 : Int))))
def yAF (n : Nat)  (k : Nat) (c1_0 : Cha) (t15_0 : List Sta) (t16_0 : Int) (t17_0 : Int) (m0_0 : List (List UInt8 × Bool)) (m1_0 : List (Int × List Int)) : Option (Int × Unit) :=
 iter (fun r y => yGr n (fun c1_0 t15_0 t16_0 t17_0 m0_0 m1_0 => r ((c1_0, (t15_0, (t16_0, (t17_0, ())))), ((m0_0, (m1_0, ())), ()))) y.1.1 y.1.2.1 y.1.2.2.1 y.1.2.2.2.1 y.2.1.1 y.2.1.2.1) k ((c1_0, (t15_0, (t16_0, (t17_0, ())))), ((m0_0, (m1_0, ())), ()))
def zJ_m (n : Nat) (c : Cha) : Option (Int × Unit) :=
 (yAF n n (c) (c.1) ((↑c.1.length : Int)) ((0 : Int)) ([]) ([]))
theorem yX5 (n : Nat) (x : zJ_a.den) : runF zJ_g (yQP n) Tryz.f97 zJ_a zJ_r x = zJ_m n x.1 := by kernel_rfl
def y8T (c1_0 : Cha) (t15_0 : List Sta) (t17_0 : Int) (m0_0 : List (List UInt8 × Bool)) (m1_0 : List (Int × List Int)) (v1 : Sta) : Option ((Int × Unit) ⊕ (List (List UInt8 × Bool) × List (Int × List Int))) :=
 (bif y2Q (Ty.int IntKind.i64) v1.2.1 v1.2.1 then (bif decide (((yS (Ty.int IntKind.i64) (Ty.int IntKind.i64).slice m1_0 v1.2.1).getD []).length + (1 : Nat) ≤ memMax) then (bif y2Q (Ty.int IntKind.i64) v1.2.1 v1.2.1 then (some (Sum.inr ((y04 Ty.str Ty.bool m0_0 v1.1 Bool.true), (y04 (Ty.int IntKind.i64) (Ty.int IntKind.i64).slice m1_0 v1.2.1 ((yS (Ty.int IntKind.i64) (Ty.int IntKind.i64).slice m1_0 v1.2.1).getD [] ++ [t17_0]))))) else none) else none) else none)
theorem y0O (n : Nat) (hn : big ≤ n)  (r0 : Cha → List Sta → Int → Int → List (List UInt8 × Bool) → List (Int × List Int) → Option (Int × Unit)) (c1_0 : Cha) (t15_0 : List Sta) (t17_0 : Int) (m0_0 : List (List UInt8 × Bool)) (m1_0 : List (Int × List Int)) (v1 : Sta) : LeF (elim some fun (s__ : (List (List UInt8 × Bool) × List (Int × List Int))) => r0 c1_0 t15_0 (List.length (t15_0) : Int) (IntKind.i64.wrap (t17_0 + 1)) s__.1 s__.2) (y8T c1_0 t15_0 t17_0 m0_0 m1_0 v1) (y9h n r0 c1_0 t15_0 (List.length (t15_0) : Int) t17_0 m0_0 m1_0 v1) :=
 (y0 (y0 (y0 (y3 rfl) yb) yb) yb)
def y8g (children4_20 : List (Int × List Int)) (t60_20 : List Sta) (t62_20 : Int) (v21 : Sta) : Option ((Int × Unit) ⊕ Unit) :=
 (bif (↑((yS (Ty.int IntKind.i64) (Ty.int IntKind.i64).slice children4_20 t62_20).getD []).length : Int) == (0 : Int) then (bif v21.2.2.1 != (-1 : Int) then (some (Sum.inl (((1 : Int), ())))) else (bif !(↑((yS (Ty.int IntKind.i64) (Ty.int IntKind.i64).slice children4_20 t62_20).getD []).length : Int) == (0 : Int) then (bif v21.2.2.2.1 then (some (Sum.inl (((1 : Int), ())))) else (Option.bind (zH_M ((yS (Ty.int IntKind.i64) (Ty.int IntKind.i64).slice children4_20 t62_20).getD []) v21.2.2.1) fun (v22 : Bool × Unit) => (bif !v22.1 then (some (Sum.inl (((1 : Int), ())))) else (some (Sum.inr ()))))) else (some (Sum.inr ())))) else (bif !(↑((yS (Ty.int IntKind.i64) (Ty.int IntKind.i64).slice children4_20 t62_20).getD []).length : Int) == (0 : Int) then (bif v21.2.2.2.1 then (some (Sum.inl (((1 : Int), ())))) else (Option.bind (zH_M ((yS (Ty.int IntKind.i64) (Ty.int IntKind.i64).slice children4_20 t62_20).getD []) v21.2.2.1) fun (v23 : Bool × Unit) => (bif !v23.1 then (some (Sum.inl (((1 : Int), ())))) else (some (Sum.inr ()))))) else (some (Sum.inr ()))))
def yDl (children4_20 : List (Int × List Int)) (t60_20 : List Sta) : Option (Int × Unit) :=
 (some (((0 : Int), ())))
theorem yCX (n : Nat) (hn : big ≤ n)  (children4_20 : List (Int × List Int)) (t60_20 : List Sta) (hx : List.length (t60_20) < lenMax) : LeF some (yI (fun i__ e__ s__ => y8g children4_20 t60_20 i__ e__) (fun s__ => yDl children4_20 t60_20) 0 (t60_20) ()) (y67 n n children4_20 t60_20 (List.length (t60_20) : Int) 0) := by
 refine yJ (f := some) (W := fun k__ i__ s__ => y67 n k__ children4_20 t60_20 (List.length (t60_20) : Int) i__) (body := (fun i__ e__ s__ => y8g children4_20 t60_20 i__ e__)) (fin := (fun s__ => yDl children4_20 t60_20)) (fun k__ i__ s__ => ?_) hx () n (by unfold big at hn; unfold lenMax at hx; omega)
 show LeF _ _ (yDh n (y67 n k__) children4_20 t60_20 (List.length (t60_20) : Int) i__)
 exact y0 (y7 fun v21 => (y0 (y0 (y3 rfl) (y0 (y0 (y3 rfl) (y7 fun v22 => (y0 (y3 rfl) (y3 rfl)))) (y3 rfl))) (y0 (y0 (y3 rfl) (y7 fun v23 => (y0 (y3 rfl) (y3 rfl)))) (y3 rfl)))) (yo (y3 rfl))
def y9C (c1_0 : Cha) (t15_0 : List Sta) (t17_0 : Int) (v1 : Sta) (m0_0 : List (List UInt8 × Bool)) (m1_0 : List (Int × List Int)) : Option ((Int × Unit) ⊕ (List (List UInt8 × Bool) × List (Int × List Int))) :=
 (Option.bind (y7X v1.1) fun (v2 : Int × Unit) => (bif decide (v1.2.1 < (-1 : Int)) then (Option.bind (y0Q [v2.1, (z0v ((yS Ty.str Ty.bool m0_0 v1.1).getD Bool.false) (9 : Int)).1, (z0v Bool.true (11 : Int)).1]) fun (v3 : Int × Unit) => (bif v3.1 != (0 : Int) then (some (Sum.inl ((v3.1, ())))) else (y8T c1_0 t15_0 t17_0 m0_0 m1_0 v1))) else (Option.bind (y0Q [v2.1, (z0v ((yS Ty.str Ty.bool m0_0 v1.1).getD Bool.false) (9 : Int)).1, (z0v (decide (v1.2.1 ≥ t17_0)) (11 : Int)).1]) fun (v4 : Int × Unit) => (bif v4.1 != (0 : Int) then (some (Sum.inl ((v4.1, ())))) else (y8T c1_0 t15_0 t17_0 m0_0 m1_0 v1)))))
def yCR (c1_0 : Cha) (t15_0 : List Sta) (m0_0 : List (List UInt8 × Bool)) (m1_0 : List (Int × List Int)) : Option (Int × Unit) :=
 (bif decide (List.length (c1_0.1) < lenMax) then yI (fun i__ e__ s__ => y8g (m1_0) (c1_0.1) i__ e__) (fun s__ => yDl (m1_0) (c1_0.1)) 0 (c1_0.1) () else none)
theorem yF1 (n : Nat) (hn : big ≤ n)  (c1_0 : Cha) (t15_0 : List Sta) (m0_0 : List (List UInt8 × Bool)) (m1_0 : List (Int × List Int)) (hx : List.length (t15_0) < lenMax) : LeF some (yI (fun i__ e__ s__ => y9C c1_0 t15_0 i__ e__ s__.1 s__.2) (fun s__ => yCR c1_0 t15_0 s__.1 s__.2) 0 (t15_0) (m0_0, m1_0)) (yAF n n c1_0 t15_0 (List.length (t15_0) : Int) 0 m0_0 m1_0) := by
 refine yJ (f := some) (W := fun k__ i__ s__ => yAF n k__ c1_0 t15_0 (List.length (t15_0) : Int) i__ s__.1 s__.2) (body := (fun i__ e__ s__ => y9C c1_0 t15_0 i__ e__ s__.1 s__.2)) (fin := (fun s__ => yCR c1_0 t15_0 s__.1 s__.2)) (fun k__ i__ s__ => ?_) hx (m0_0, m1_0) n (by unfold big at hn; unfold lenMax at hx; omega)
 show LeF _ _ (yGr n (yAF n k__) c1_0 t15_0 (List.length (t15_0) : Int) i__ s__.1 s__.2)
 exact y0 (y7 fun v1 => (y7 fun v2 => (y0 (y7 fun v3 => (y0 (y3 rfl) (by apply y0O n hn))) (y7 fun v4 => (y0 (y3 rfl) (by apply y0O n hn)))))) (yo (yK fun hx => by apply yCX n hn; exact hx))
def zJ_M (c : Cha) : Option (Int × Unit) :=
 (bif decide (List.length (c.1) < lenMax) then yI (fun i__ e__ s__ => y9C (c) (c.1) i__ e__ s__.1 s__.2) (fun s__ => yCR (c) (c.1) s__.1 s__.2) 0 (c.1) (([]), ([])) else none)
theorem yVA (c : Cha) (y : Int × Unit) (h : zJ_M c = some y) : ∃ n, zJ_m n c = some y :=
 ⟨big, LeF.top (show LeF some (zJ_M c) (zJ_m big c) from (fun (n : Nat) (hn : big ≤ n) => show LeF some (zJ_M c) (zJ_m n c) from (yK fun hx => by apply yF1 n hn; exact hx)) big (Nat.le_refl _)) h⟩
def zJ_e : Entry := { f := 97, args := zJ_a, ress := zJ_r, m := fun x => zJ_M x.1 }
theorem yXY : FnOK Tryz.prog zJ_e := yN (g := zJ_g) (fn := Tryz.f97) yC yM (yA yDC (yA y41 (yA y1R (yA yJm eNil)))) (by kernel_rfl) (by kernel_rfl) (by kernel_rfl) (fun x y h => let ⟨n, hn⟩ := yVA x.1 y h; ⟨yQP n, iNil, (yX5 n x).trans hn⟩)
abbrev yMm : Ty := .pair t71 .unit
abbrev yU4 : Ty := .pair t173 (.pair t29 .unit)
def yV4 : G := { T := T, E := [z0Z_e, z08_e, z0v_e, z0j_e], muts := [13], fz := [] }
def yVL : List (List Nat) := [[4, 14, 15, 16]]
def yLD (n : Nat) : Ann := { keep := yVL, fuel := n, inl := [], deep := 0 }
def yEC (n : Nat) (r0 : List Cmd → Int → Int → List (Int × List UInt8) → Option (List (Int × List UInt8) × Int × Unit)) (t14_0 : List Cmd) (t15_0 : Int) (t16_0 : Int) (m0_0 : List (Int × List UInt8)) : Option (List (Int × List UInt8) × Int × Unit) :=
 (bif decide (t16_0 < t15_0) then (Option.bind (idx t14_0 t16_0) fun (v1 : Cmd) => (Option.bind (y7X v1.2.2.1) fun (v2 : Int × Unit) => (bif (yS (Ty.int IntKind.i64) Ty.str m0_0 v1.1).isSome then (Option.bind (y0Q [(z0Z v1.1 (1 : Int) (999999999 : Int)).1, (z0Z v1.2.1 (0 : Int) (1 : Int)).1, v2.1, (z0v (!(yS (Ty.int IntKind.i64) Ty.str m0_0 v1.1).getD [] == v1.2.2.1) (30 : Int)).1]) fun (v3 : Int × Unit) => (bif v3.1 != (0 : Int) then some ([], v3.1, ()) else r0 t14_0 t15_0 (IntKind.i64.wrap (t16_0 + (1 : Int))) (y04 (Ty.int IntKind.i64) Ty.str m0_0 v1.1 v1.2.2.1))) else (Option.bind (y0Q [(z0Z v1.1 (1 : Int) (999999999 : Int)).1, (z0Z v1.2.1 (0 : Int) (1 : Int)).1, v2.1, (z0v Bool.false (30 : Int)).1]) fun (v4 : Int × Unit) => (bif v4.1 != (0 : Int) then some ([], v4.1, ()) else r0 t14_0 t15_0 (IntKind.i64.wrap (t16_0 + (1 : Int))) (y04 (Ty.int IntKind.i64) Ty.str m0_0 v1.1 v1.2.2.1)))))) else some (m0_0, (0 : Int), ()))
def y6A (n : Nat)  (k : Nat) (t14_0 : List Cmd) (t15_0 : Int) (t16_0 : Int) (m0_0 : List (Int × List UInt8)) : Option (List (Int × List UInt8) × Int × Unit) :=
 iter (fun r y => yEC n (fun t14_0 t15_0 t16_0 m0_0 => r ((t14_0, (t15_0, (t16_0, ()))), ((m0_0, ()), ()))) y.1.1 y.1.2.1 y.1.2.2.1 y.2.1.1) k ((t14_0, (t15_0, (t16_0, ()))), ((m0_0, ()), ()))
def yKd (n : Nat) (l : List Cmd) : Option (List (Int × List UInt8) × Int × Unit) :=
 (bif decide ((↑l.length : Int) > (256 : Int)) then some ([], (5 : Int), ()) else (y6A n n (l) ((↑l.length : Int)) ((0 : Int)) ([])))
theorem yRv (n : Nat) (x : yMm.den) : runF yV4 (yLD n) Tryz.f107 yMm yU4 x = yKd n x.1 := by kernel_rfl
def yHb (t14_0 : List Cmd) (t16_0 : Int) (v1 : Cmd) (m0_0 : List (Int × List UInt8)) : Option ((List (Int × List UInt8) × Int × Unit) ⊕ (List (Int × List UInt8))) :=
 (Option.bind (y7X v1.2.2.1) fun (v2 : Int × Unit) => (bif (yS (Ty.int IntKind.i64) Ty.str m0_0 v1.1).isSome then (Option.bind (y0Q [(z0Z v1.1 (1 : Int) (999999999 : Int)).1, (z0Z v1.2.1 (0 : Int) (1 : Int)).1, v2.1, (z0v (!(yS (Ty.int IntKind.i64) Ty.str m0_0 v1.1).getD [] == v1.2.2.1) (30 : Int)).1]) fun (v3 : Int × Unit) => (bif v3.1 != (0 : Int) then (some (Sum.inl (([], v3.1, ())))) else (some (Sum.inr (y04 (Ty.int IntKind.i64) Ty.str m0_0 v1.1 v1.2.2.1))))) else (Option.bind (y0Q [(z0Z v1.1 (1 : Int) (999999999 : Int)).1, (z0Z v1.2.1 (0 : Int) (1 : Int)).1, v2.1, (z0v Bool.false (30 : Int)).1]) fun (v4 : Int × Unit) => (bif v4.1 != (0 : Int) then (some (Sum.inl (([], v4.1, ())))) else (some (Sum.inr (y04 (Ty.int IntKind.i64) Ty.str m0_0 v1.1 v1.2.2.1)))))))
def yGi (t14_0 : List Cmd) (m0_0 : List (Int × List UInt8)) : Option (List (Int × List UInt8) × Int × Unit) :=
 (some ((m0_0, (0 : Int), ())))
theorem yBy (n : Nat) (hn : big ≤ n)  (t14_0 : List Cmd) (m0_0 : List (Int × List UInt8)) (hx : List.length (t14_0) < lenMax) : LeF some (yI (fun i__ e__ s__ => yHb t14_0 i__ e__ s__) (fun s__ => yGi t14_0 s__) 0 (t14_0) m0_0) (y6A n n t14_0 (List.length (t14_0) : Int) 0 m0_0) := by
 refine yJ (f := some) (W := fun k__ i__ s__ => y6A n k__ t14_0 (List.length (t14_0) : Int) i__ s__) (body := (fun i__ e__ s__ => yHb t14_0 i__ e__ s__)) (fin := (fun s__ => yGi t14_0 s__)) (fun k__ i__ s__ => ?_) hx m0_0 n (by unfold big at hn; unfold lenMax at hx; omega)
 show LeF _ _ (yEC n (y6A n k__) t14_0 (List.length (t14_0) : Int) i__ s__)
 exact y0 (y7 fun v1 => (y7 fun v2 => (y0 (y7 fun v3 => (y0 (y3 rfl) (y3 rfl))) (y7 fun v4 => (y0 (y3 rfl) (y3 rfl)))))) (yo (y3 rfl))
def yAH (l : List Cmd) : Option (List (Int × List UInt8) × Int × Unit) :=
 (bif decide ((↑l.length : Int) > (256 : Int)) then (some (([], (5 : Int), ()))) else (bif decide (List.length (l) < lenMax) then yI (fun i__ e__ s__ => yHb (l) i__ e__ s__) (fun s__ => yGi (l) s__) 0 (l) ([]) else none))
theorem yNh (l : List Cmd) (y : List (Int × List UInt8) × Int × Unit) (h : yAH l = some y) : ∃ n, yKd n l = some y :=
 ⟨big, LeF.top (show LeF some (yAH l) (yKd big l) from (fun (n : Nat) (hn : big ≤ n) => show LeF some (yAH l) (yKd n l) from (y0 (y3 rfl) (yK fun hx => by apply yBy n hn; exact hx))) big (Nat.le_refl _)) h⟩
def z0l_e : Entry := { f := 107, args := yMm, ress := yU4, m := fun x => yAH x.1 }
theorem yLz : FnOK Tryz.prog z0l_e := yN (g := yV4) (fn := Tryz.f107) yC yM (yA y8o (yA yDC (yA y41 (yA y1R eNil)))) (by kernel_rfl) (by kernel_rfl) (by kernel_rfl) (fun x y h => let ⟨n, hn⟩ := yNh x.1 y h; ⟨yLD n, iNil, (yRv n x).trans hn⟩)
abbrev yMV : Ty := .pair t3 .unit
abbrev yUe : Ty := .pair t29 .unit
def yQ7 : G := { T := T, E := [z0Z_e], muts := [], fz := [] }
def yWy : List (List Nat) := []
def yLr (n : Nat) : Ann := { keep := yWy, fuel := n, inl := [], deep := 0 }
def yKH (n : Nat) (n1 : Int) : Option (Int × Unit) :=
 some ((z0Z n1 (0 : Int) (1000 : Int)).1, ())
theorem yPj (n : Nat) (x : yMV.den) : runF yQ7 (yLr n) Tryz.f110 yMV yUe x = yKH n x.1 := by kernel_rfl
def z0W (n1 : Int) : (Int × Unit) :=
 ((z0Z n1 (0 : Int) (1000 : Int)).1, ())
abbrev yKA (n1 : Int) : Option (Int × Unit) := some (z0W n1)
theorem yPE (n1 : Int) (y : Int × Unit) (h : yKA n1 = some y) : ∃ n, yKH n n1 = some y :=
 ⟨0, by rw [← h]; show yKH 0 n1 = some (z0W n1); unfold yKH z0W; first | rfl | (simp only [yG]; done) | (simp only [yG]; rfl)⟩
def z0W_e : Entry := { f := 110, args := yMV, ress := yUe, m := fun x => yKA x.1 }
theorem yUT : FnOK Tryz.prog z0W_e := yN (g := yQ7) (fn := Tryz.f110) yC yM (yA y8o eNil) (by kernel_rfl) (by kernel_rfl) (by kernel_rfl) (fun x y h => let ⟨n, hn⟩ := yPE x.1 y h; ⟨yLr n, iNil, (yPj n x).trans hn⟩)
abbrev yMv : Ty := .pair t25 (.pair t4 .unit)
abbrev yTh : Ty := .pair t93 .unit
def yPX : G := { T := T, E := [z0R_e, z0S_e, z0g_e], muts := [5], fz := [] }
def yW8 : List (List Nat) := [[1, 2, 5, 6, 7], [1, 2, 5, 6, 7, 8], [1, 2, 5, 6, 7, 8, 9]]
def yM1 (n : Nat) : Ann := { keep := yW8, fuel := n, inl := [], deep := 0 }
def y2C (n : Nat) (r6 : Bool → Cha → List (List UInt8) → Int → Int → Int → List Cas → Option (List Cas × Unit)) (many1_6 : Bool) (c2_6 : Cha) (events6_6 : List (List UInt8)) (i7_6 : Int) (k8_6 : Int) (v9_6 : Int) (c0_6 : List Cas) (j12 : Bool) : Option (List Cas × Unit) :=
 (bif j12 then (Option.bind (idx events6_6 k8_6) fun (v13 : List UInt8) => (bif decide (c0_6.length + (1 : Nat) ≤ memMax) then r6 many1_6 c2_6 events6_6 i7_6 k8_6 (IntKind.i64.wrap (v9_6 + (1 : Int))) (c0_6 ++ [(i7_6, v13, v9_6, ())]) else none)) else r6 many1_6 c2_6 events6_6 i7_6 k8_6 (IntKind.i64.wrap (v9_6 + (1 : Int))) c0_6)
def yEB (n : Nat) (r2 : Bool → Cha → List (List UInt8) → Int → Int → List Cas → Option (List Cas × Unit)) (r6 : Bool → Cha → List (List UInt8) → Int → Int → Int → List Cas → Option (List Cas × Unit)) (many1_6 : Bool) (c2_6 : Cha) (events6_6 : List (List UInt8)) (i7_6 : Int) (k8_6 : Int) (v9_6 : Int) (c0_6 : List Cas) : Option (List Cas × Unit) :=
 (bif decide (v9_6 < (16 : Int)) then (Option.bind (idx events6_6 k8_6) fun (v7 : List UInt8) => (Option.bind (yAQ c2_6 i7_6 (v7, v9_6, ())) fun (v8 : Int × Tra × Unit) => (bif decide (v8.1 > (1 : Int)) then (bif many1_6 then (y2C n r6 many1_6 c2_6 events6_6 i7_6 k8_6 v9_6 c0_6 (Bool.true)) else (bif v8.1 == (0 : Int) then (y2C n r6 many1_6 c2_6 events6_6 i7_6 k8_6 v9_6 c0_6 (!many1_6)) else (y2C n r6 many1_6 c2_6 events6_6 i7_6 k8_6 v9_6 c0_6 (Bool.false)))) else (bif v8.1 == (0 : Int) then (y2C n r6 many1_6 c2_6 events6_6 i7_6 k8_6 v9_6 c0_6 (!many1_6)) else (y2C n r6 many1_6 c2_6 events6_6 i7_6 k8_6 v9_6 c0_6 (Bool.false)))))) else r2 many1_6 c2_6 events6_6 i7_6 (IntKind.i64.wrap (k8_6 + (1 : Int))) c0_6)
def y6I (n : Nat) (r2 : Bool → Cha → List (List UInt8) → Int → Int → List Cas → Option (List Cas × Unit)) (k : Nat) (many1_6 : Bool) (c2_6 : Cha) (events6_6 : List (List UInt8)) (i7_6 : Int) (k8_6 : Int) (v9_6 : Int) (c0_6 : List Cas) : Option (List Cas × Unit) :=
 iter (fun r y => yEB n r2 (fun many1_6 c2_6 events6_6 i7_6 k8_6 v9_6 c0_6 => r ((many1_6, (c2_6, (events6_6, (i7_6, (k8_6, (v9_6, ())))))), ((c0_6, ()), ()))) y.1.1 y.1.2.1 y.1.2.2.1 y.1.2.2.2.1 y.1.2.2.2.2.1 y.1.2.2.2.2.2.1 y.2.1.1) k ((many1_6, (c2_6, (events6_6, (i7_6, (k8_6, (v9_6, ())))))), ((c0_6, ()), ()))
def yDA (n : Nat) (r1 : Bool → Cha → List (List UInt8) → Int → List Cas → Option (List Cas × Unit)) (r2 : Bool → Cha → List (List UInt8) → Int → Int → List Cas → Option (List Cas × Unit)) (many1_2 : Bool) (c2_2 : Cha) (events6_2 : List (List UInt8)) (i7_2 : Int) (k8_2 : Int) (c0_2 : List Cas) : Option (List Cas × Unit) :=
 (Option.bind (yG3 c2_2 i7_2) fun (v3 : Bool × Unit) => (bif v3.1 then (bif decide (k8_2 < (↑events6_2.length : Int)) then (y6I n r2 n (many1_2) (c2_2) (events6_2) (i7_2) (k8_2) ((0 : Int)) (c0_2)) else r1 many1_2 c2_2 events6_2 (IntKind.i64.wrap (i7_2 + (1 : Int))) c0_2) else r1 many1_2 c2_2 events6_2 (IntKind.i64.wrap (i7_2 + (1 : Int))) c0_2))
def y6M (n : Nat) (r1 : Bool → Cha → List (List UInt8) → Int → List Cas → Option (List Cas × Unit)) (k : Nat) (many1_2 : Bool) (c2_2 : Cha) (events6_2 : List (List UInt8)) (i7_2 : Int) (k8_2 : Int) (c0_2 : List Cas) : Option (List Cas × Unit) :=
 iter (fun r y => yDA n r1 (fun many1_2 c2_2 events6_2 i7_2 k8_2 c0_2 => r ((many1_2, (c2_2, (events6_2, (i7_2, (k8_2, ()))))), ((c0_2, ()), ()))) y.1.1 y.1.2.1 y.1.2.2.1 y.1.2.2.2.1 y.1.2.2.2.2.1 y.2.1.1) k ((many1_2, (c2_2, (events6_2, (i7_2, (k8_2, ()))))), ((c0_2, ()), ()))
def yEP (n : Nat) (r1 : Bool → Cha → List (List UInt8) → Int → List Cas → Option (List Cas × Unit)) (many1_1 : Bool) (c2_1 : Cha) (events6_1 : List (List UInt8)) (i7_1 : Int) (c0_1 : List Cas) : Option (List Cas × Unit) :=
 (bif decide (i7_1 < (↑c2_1.1.length : Int)) then (y6M n r1 n (many1_1) (c2_1) (events6_1) (i7_1) ((0 : Int)) (c0_1)) else some (c0_1, ()))
def y65 (n : Nat)  (k : Nat) (many1_1 : Bool) (c2_1 : Cha) (events6_1 : List (List UInt8)) (i7_1 : Int) (c0_1 : List Cas) : Option (List Cas × Unit) :=
 iter (fun r y => yEP n (fun many1_1 c2_1 events6_1 i7_1 c0_1 => r ((many1_1, (c2_1, (events6_1, (i7_1, ())))), ((c0_1, ()), ()))) y.1.1 y.1.2.1 y.1.2.2.1 y.1.2.2.2.1 y.2.1.1) k ((many1_1, (c2_1, (events6_1, (i7_1, ())))), ((c0_1, ()), ()))
def yJk (n : Nat) (c : Cha) (many : Bool) : Option (List Cas × Unit) :=
 (Option.bind (y7o c) fun (v0 : List (List UInt8) × Unit) => (y65 n n (many) (c) (v0.1) ((0 : Int)) ([])))
theorem yPQ (n : Nat) (x : yMv.den) : runF yPX (yM1 n) Tryz.f120 yMv yTh x = yJk n x.1 x.2.1 := by kernel_rfl
def y2y (many1_6 : Bool) (c2_6 : Cha) (events6_6 : List (List UInt8)) (i7_6 : Int) (k8_6 : Int) (v9_6 : Int) (c0_6 : List Cas) (j12 : Bool) : Option ((((List Cas × Unit) ⊕ (List Cas)) ⊕ (Int × List Cas)) ⊕ (List Cas)) :=
 (bif j12 then (Option.bind (idx events6_6 k8_6) fun (v13 : List UInt8) => (bif decide (c0_6.length + (1 : Nat) ≤ memMax) then (some (Sum.inr (c0_6 ++ [(i7_6, v13, v9_6, ())]))) else none)) else (some (Sum.inr (c0_6))))
theorem y0A (n : Nat) (hn : big ≤ n) (r1 : Bool → Cha → List (List UInt8) → Int → List Cas → Option (List Cas × Unit)) (r2 : Bool → Cha → List (List UInt8) → Int → Int → List Cas → Option (List Cas × Unit)) (r6 : Bool → Cha → List (List UInt8) → Int → Int → Int → List Cas → Option (List Cas × Unit)) (many1_6 : Bool) (c2_6 : Cha) (events6_6 : List (List UInt8)) (i7_6 : Int) (k8_6 : Int) (v9_6 : Int) (c0_6 : List Cas) (j12 : Bool) : LeF (elim (elim (elim some fun (s__ : (List Cas)) => r1 many1_6 c2_6 events6_6 (IntKind.i64.wrap (i7_6 + 1)) s__) fun (s__ : (Int × List Cas)) => r2 many1_6 c2_6 events6_6 i7_6 s__.1 s__.2) fun (s__ : (List Cas)) => r6 many1_6 c2_6 events6_6 i7_6 k8_6 (IntKind.i64.wrap (v9_6 + 1)) s__) (y2y many1_6 c2_6 events6_6 i7_6 k8_6 v9_6 c0_6 j12) (y2C n r6 many1_6 c2_6 events6_6 i7_6 k8_6 v9_6 c0_6 j12) :=
 (y0 (y7 fun v13 => (y0 (y3 rfl) yb)) (y3 rfl))
def y80 (many1_6 : Bool) (c2_6 : Cha) (events6_6 : List (List UInt8)) (i7_6 : Int) (k8_6 : Int) (v9_6 : Int) (c0_6 : List Cas) : Option ((((List Cas × Unit) ⊕ (List Cas)) ⊕ (Int × List Cas)) ⊕ (List Cas)) :=
 (Option.bind (idx events6_6 k8_6) fun (v7 : List UInt8) => (Option.bind (yAQ c2_6 i7_6 (v7, v9_6, ())) fun (v8 : Int × Tra × Unit) => (bif decide (v8.1 > (1 : Int)) then (bif many1_6 then (y2y many1_6 c2_6 events6_6 i7_6 k8_6 v9_6 c0_6 (Bool.true)) else (bif v8.1 == (0 : Int) then (y2y many1_6 c2_6 events6_6 i7_6 k8_6 v9_6 c0_6 (!many1_6)) else (y2y many1_6 c2_6 events6_6 i7_6 k8_6 v9_6 c0_6 (Bool.false)))) else (bif v8.1 == (0 : Int) then (y2y many1_6 c2_6 events6_6 i7_6 k8_6 v9_6 c0_6 (!many1_6)) else (y2y many1_6 c2_6 events6_6 i7_6 k8_6 v9_6 c0_6 (Bool.false))))))
def yCy (many1_6 : Bool) (c2_6 : Cha) (events6_6 : List (List UInt8)) (i7_6 : Int) (k8_6 : Int) (c0_6 : List Cas) : Option (((List Cas × Unit) ⊕ (List Cas)) ⊕ (Int × List Cas)) :=
 (some (Sum.inr ((IntKind.i64.wrap (k8_6 + (1 : Int))), (c0_6))))
theorem yCq (n : Nat) (hn : big ≤ n) (r1 : Bool → Cha → List (List UInt8) → Int → List Cas → Option (List Cas × Unit)) (r2 : Bool → Cha → List (List UInt8) → Int → Int → List Cas → Option (List Cas × Unit)) (many1_6 : Bool) (c2_6 : Cha) (events6_6 : List (List UInt8)) (i7_6 : Int) (k8_6 : Int) (c0_6 : List Cas) (hx : ((16 : Int)) ≤ (9223372036854775807 : Int)) : LeF (elim (elim some fun (s__ : (List Cas)) => r1 many1_6 c2_6 events6_6 (IntKind.i64.wrap (i7_6 + 1)) s__) fun (s__ : (Int × List Cas)) => r2 many1_6 c2_6 events6_6 i7_6 s__.1 s__.2) (y00 (fun i__ s__ => y80 many1_6 c2_6 events6_6 i7_6 k8_6 i__ s__) (fun s__ => yCy many1_6 c2_6 events6_6 i7_6 k8_6 s__) (((16 : Int)) - 0).toNat 0 c0_6) (y6I n r2 n many1_6 c2_6 events6_6 i7_6 k8_6 0 c0_6) := by
 refine y1S (f := (elim (elim some fun (s__ : (List Cas)) => r1 many1_6 c2_6 events6_6 (IntKind.i64.wrap (i7_6 + 1)) s__) fun (s__ : (Int × List Cas)) => r2 many1_6 c2_6 events6_6 i7_6 s__.1 s__.2)) (W := fun k__ i__ s__ => y6I n r2 k__ many1_6 c2_6 events6_6 i7_6 k8_6 i__ s__) (body := (fun i__ s__ => y80 many1_6 c2_6 events6_6 i7_6 k8_6 i__ s__)) (fin := (fun s__ => yCy many1_6 c2_6 events6_6 i7_6 k8_6 s__)) (fun k__ i__ s__ => ?_) hx c0_6 n 0 (by decide) (by unfold big at hn; omega)
 show LeF _ _ (yEB n r2 (y6I n r2 k__) many1_6 c2_6 events6_6 i7_6 k8_6 i__ s__)
 exact y0 (y7 fun v7 => (y7 fun v8 => (y0 (y0 (by apply y0A n hn) (y0 (by apply y0A n hn) (by apply y0A n hn))) (y0 (by apply y0A n hn) (by apply y0A n hn))))) (yo (y3 rfl))
def y43 (many1_2 : Bool) (c2_2 : Cha) (events6_2 : List (List UInt8)) (i7_2 : Int) (k8_2 : Int) (c0_2 : List Cas) : Option (((List Cas × Unit) ⊕ (List Cas)) ⊕ (Int × List Cas)) :=
 (Option.bind (yG3 c2_2 i7_2) fun (v3 : Bool × Unit) => (bif v3.1 then (bif decide (k8_2 < (↑events6_2.length : Int)) then (bif decide (((16 : Int)) ≤ (9223372036854775807 : Int)) then y00 (fun i__ s__ => y80 (many1_2) (c2_2) (events6_2) (i7_2) (k8_2) i__ s__) (fun s__ => yCy (many1_2) (c2_2) (events6_2) (i7_2) (k8_2) s__) (((16 : Int)) - 0).toNat 0 (c0_2) else none) else (some (Sum.inl (Sum.inr (c0_2))))) else (some (Sum.inl (Sum.inr (c0_2))))))
theorem yC0 (n : Nat) (hn : big ≤ n)  (r1 : Bool → Cha → List (List UInt8) → Int → List Cas → Option (List Cas × Unit)) (many1_2 : Bool) (c2_2 : Cha) (events6_2 : List (List UInt8)) (i7_2 : Int) (k8_2 : Int) (c0_2 : List Cas) : LeF (elim some fun (s__ : (List Cas)) => r1 many1_2 c2_2 events6_2 (IntKind.i64.wrap (i7_2 + 1)) s__) (y1m (fun s__ => y43 many1_2 c2_2 events6_2 i7_2 s__.1 s__.2) wMax (k8_2, c0_2)) (y6M n r1 n many1_2 c2_2 events6_2 i7_2 k8_2 c0_2) := by
 refine y4v (f := (elim some fun (s__ : (List Cas)) => r1 many1_2 c2_2 events6_2 (IntKind.i64.wrap (i7_2 + 1)) s__)) (W := fun k__ s__ => y6M n r1 k__ many1_2 c2_2 events6_2 i7_2 s__.1 s__.2) (body := (fun s__ => y43 many1_2 c2_2 events6_2 i7_2 s__.1 s__.2)) (fun k__ s__ => ?_) wMax n (k8_2, c0_2) (by unfold big at hn; unfold wMax; omega)
 show LeF _ _ (yDA n r1 (y6M n r1 k__) many1_2 c2_2 events6_2 i7_2 s__.1 s__.2)
 exact (y7 fun v3 => (y0 (y0 (yK fun hx => by apply yCq n hn; exact hx) (y3 rfl)) (y3 rfl)))
def y5b (many1_1 : Bool) (c2_1 : Cha) (events6_1 : List (List UInt8)) (i7_1 : Int) (c0_1 : List Cas) : Option ((List Cas × Unit) ⊕ (List Cas)) :=
 (y1m (fun s__ => y43 (many1_1) (c2_1) (events6_1) (i7_1) s__.1 s__.2) wMax (((0 : Int)), (c0_1)))
def yAS (many1_1 : Bool) (c2_1 : Cha) (events6_1 : List (List UInt8)) (c0_1 : List Cas) : Option (List Cas × Unit) :=
 (some ((c0_1, ())))
theorem yCE (n : Nat) (hn : big ≤ n)  (many1_1 : Bool) (c2_1 : Cha) (events6_1 : List (List UInt8)) (c0_1 : List Cas) (hx : ((↑c2_1.1.length : Int)) ≤ (9223372036854775807 : Int)) : LeF some (y00 (fun i__ s__ => y5b many1_1 c2_1 events6_1 i__ s__) (fun s__ => yAS many1_1 c2_1 events6_1 s__) (((↑c2_1.1.length : Int)) - 0).toNat 0 c0_1) (y65 n n many1_1 c2_1 events6_1 0 c0_1) := by
 refine y1S (f := some) (W := fun k__ i__ s__ => y65 n k__ many1_1 c2_1 events6_1 i__ s__) (body := (fun i__ s__ => y5b many1_1 c2_1 events6_1 i__ s__)) (fin := (fun s__ => yAS many1_1 c2_1 events6_1 s__)) (fun k__ i__ s__ => ?_) hx c0_1 n 0 (by decide) (by unfold big at hn; omega)
 show LeF _ _ (yEP n (y65 n k__) many1_1 c2_1 events6_1 i__ s__)
 exact y0 (by apply yC0 n hn) (yo (y3 rfl))
def yC3 (c : Cha) (many : Bool) : Option (List Cas × Unit) :=
 (Option.bind (y7o c) fun (v0 : List (List UInt8) × Unit) => (bif decide (((↑c.1.length : Int)) ≤ (9223372036854775807 : Int)) then y00 (fun i__ s__ => y5b (many) (c) (v0.1) i__ s__) (fun s__ => yAS (many) (c) (v0.1) s__) (((↑c.1.length : Int)) - 0).toNat 0 ([]) else none))
theorem yNB (c : Cha) (many : Bool) (y : List Cas × Unit) (h : yC3 c many = some y) : ∃ n, yJk n c many = some y :=
 ⟨big, LeF.top (show LeF some (yC3 c many) (yJk big c many) from (fun (n : Nat) (hn : big ≤ n) => show LeF some (yC3 c many) (yJk n c many) from (y7 fun v0 => (yK fun hx => by apply yCE n hn; exact hx))) big (Nat.le_refl _)) h⟩
def z0f_e : Entry := { f := 120, args := yMv, ress := yTh, m := fun x => yC3 x.1 x.2.1 }
theorem yRn : FnOK Tryz.prog z0f_e := yN (g := yPX) (fn := Tryz.f120) yC yM (yA yLA (yA yRW (yA yTW eNil))) (by kernel_rfl) (by kernel_rfl) (by kernel_rfl) (fun x y h => let ⟨n, hn⟩ := yNB x.1 x.2.1 y h; ⟨yM1 n, iNil, (yPQ n x).trans hn⟩)
abbrev zP_a : Ty := .pair t35 (.pair t28 .unit)
abbrev zP_r : Ty := .pair t29 .unit
def zP_g : G := { T := T, E := [zI_e, z0v_e, zC_e, z0j_e], muts := [], fz := [] }
def zP_k : List (List Nat) := []
def yPy (n : Nat) : Ann := { keep := zP_k, fuel := n, inl := [], deep := 0 }
def zP_m (n : Nat) (c : Cha) (l : List Int) : Option (Int × Unit) :=
 (Option.bind (zC_M l fun (x : Int × Unit) => zI_M x.1 c) fun (v0 : Bool × Unit) => (Option.bind (y0Q [(z0v (decide ((↑l.length : Int) > (16 : Int))) (5 : Int)).1, (z0v v0.1 (10 : Int)).1]) fun (v1 : Int × Unit) => some (v1.1, ())))
theorem yX8 (n : Nat) (x : zP_a.den) : runF zP_g (yPy n) Tryz.f123 zP_a zP_r x = zP_m n x.1 x.2.1 := by kernel_rfl
def zP_M (c : Cha) (l : List Int) : Option (Int × Unit) := zP_m 0 c l
theorem yRK (c : Cha) (l : List Int) (y : Int × Unit) (h : zP_M c l = some y) : ∃ n, zP_m n c l = some y := ⟨0, h⟩
def zP_e : Entry := { f := 123, args := zP_a, ress := zP_r, m := fun x => zP_M x.1 x.2.1 }
theorem yQj : FnOK Tryz.prog zP_e := yN (g := zP_g) (fn := Tryz.f123) yC yM (yA yVF (yA y41 (yA yTS (yA y1R eNil)))) (by kernel_rfl) (by kernel_rfl) (by kernel_rfl) (fun x y h => let ⟨n, hn⟩ := yRK x.1 x.2.1 y h; ⟨yPy n, iNil, (yX8 n x).trans hn⟩)
abbrev zR_a : Ty := .pair t3 .unit
abbrev zR_r : Ty := .pair t29 .unit
def zR_g : G := { T := T, E := [z0Z_e], muts := [], fz := [] }
def zR_k : List (List Nat) := []
def yPa (n : Nat) : Ann := { keep := zR_k, fuel := n, inl := [], deep := 0 }
def zR_m (n : Nat) (n1 : Int) : Option (Int × Unit) :=
 some ((z0Z n1 (0 : Int) (15 : Int)).1, ())
theorem yVc (n : Nat) (x : zR_a.den) : runF zR_g (yPa n) Tryz.f138 zR_a zR_r x = zR_m n x.1 := by kernel_rfl
def zR (n1 : Int) : (Int × Unit) :=
 ((z0Z n1 (0 : Int) (15 : Int)).1, ())
abbrev zR_M (n1 : Int) : Option (Int × Unit) := some (zR n1)
theorem ySk (n1 : Int) (y : Int × Unit) (h : zR_M n1 = some y) : ∃ n, zR_m n n1 = some y :=
 ⟨0, by rw [← h]; show zR_m 0 n1 = some (zR n1); unfold zR_m zR; first | rfl | (simp only [yG]; done) | (simp only [yG]; rfl)⟩
def zR_e : Entry := { f := 138, args := zR_a, ress := zR_r, m := fun x => zR_M x.1 }
theorem ySM : FnOK Tryz.prog zR_e := yN (g := zR_g) (fn := Tryz.f138) yC yM (yA y8o eNil) (by kernel_rfl) (by kernel_rfl) (by kernel_rfl) (fun x y h => let ⟨n, hn⟩ := ySk x.1 y h; ⟨yPa n, iNil, (yVc n x).trans hn⟩)
abbrev zc_a : Ty := .pair t148 (.pair (.ref t3) (.pair (.ref t55) .unit))
abbrev zc_r : Ty := .pair t4 .unit
def zc_g : G := { T := T, E := [zU_e], muts := [], fz := [] }
def zc_k : List (List Nat) := []
def yUo (n : Nat) : Ann := { keep := zc_k, fuel := n, inl := [], deep := 0 }
def zc_m (n : Nat) (t : Tra) (p1 : Int) (p2 : List UInt8 × Int × Unit) : Option (Bool × Unit) :=
 (bif t.1 == p1 then (bif t.2.1 == p2.1 then some ((zU t p2.2.1).1, ()) else some (Bool.false, ())) else some (Bool.false, ()))
theorem yXD (n : Nat) (x : zc_a.den) : runF zc_g (yUo n) Tryz.f140 zc_a zc_r x = zc_m n x.1 x.2.1 x.2.2.1 := by kernel_rfl
def zc (t : Tra) (p1 : Int) (p2 : List UInt8 × Int × Unit) : (Bool × Unit) :=
 (bif t.1 == p1 then (bif t.2.1 == p2.1 then ((zU t p2.2.1).1, ()) else (Bool.false, ())) else (Bool.false, ()))
abbrev zc_M (t : Tra) (p1 : Int) (p2 : List UInt8 × Int × Unit) : Option (Bool × Unit) := some (zc t p1 p2)
theorem ySU (t : Tra) (p1 : Int) (p2 : List UInt8 × Int × Unit) (y : Bool × Unit) (h : zc_M t p1 p2 = some y) : ∃ n, zc_m n t p1 p2 = some y :=
 ⟨0, by rw [← h]; show zc_m 0 t p1 p2 = some (zc t p1 p2); unfold zc_m zc; first | rfl | (simp only [yG]; done) | (simp only [yG]; rfl)⟩
def zc_e : Entry := { f := 140, args := zc_a, ress := zc_r, m := fun x => zc_M x.1 x.2.1 x.2.2.1 }
theorem yXU : FnOK Tryz.prog zc_e := yN (g := zc_g) (fn := Tryz.f140) yC yM (yA yW3 eNil) (by kernel_rfl) (by kernel_rfl) (by kernel_rfl) (fun x y h => let ⟨n, hn⟩ := ySU x.1 x.2.1 x.2.2.1 y h; ⟨yUo n, iNil, (yXD n x).trans hn⟩)
abbrev zf_a : Ty := .pair t131 .unit
abbrev zf_r : Ty := .pair t220 (.pair t4 .unit)
def zf_g : G := { T := T, E := [z0k_e], muts := [], fz := [] }
def zf_k : List (List Nat) := [[1, 2, 6, 7]]
def yRu (n : Nat) : Ann := { keep := zf_k, fuel := n, inl := [], deep := 0 }
def yIo (n : Nat) (r0 : Fai → List (List UInt8 × (Fai × Unit → Option (Fai × Unit)) × (Fai × Int × (List UInt8 × Int × Unit) × Unit → Option ((List UInt8 × Int × Unit) × Bool × Unit)) × Unit) → Int → List UInt8 → Option ((List UInt8 × (Fai × Unit → Option (Fai × Unit)) × (Fai × Int × (List UInt8 × Int × Unit) × Unit → Option ((List UInt8 × Int × Unit) × Bool × Unit)) × Unit) × Bool × Unit)) (f1_0 : Fai) (t6_0 : List (List UInt8 × (Fai × Unit → Option (Fai × Unit)) × (Fai × Int × (List UInt8 × Int × Unit) × Unit → Option ((List UInt8 × Int × Unit) × Bool × Unit)) × Unit)) (t7_0 : Int) (b0_0_0 : List UInt8) : Option ((List UInt8 × (Fai × Unit → Option (Fai × Unit)) × (Fai × Int × (List UInt8 × Int × Unit) × Unit → Option ((List UInt8 × Int × Unit) × Bool × Unit)) × Unit) × Bool × Unit) :=
 (bif decide (t7_0 < (3 : Int)) then (Option.bind (idx t6_0 t7_0) fun (v1 : List UInt8 × (Fai × Unit → Option (Fai × Unit)) × (Fai × Int × (List UInt8 × Int × Unit) × Unit → Option ((List UInt8 × Int × Unit) × Bool × Unit)) × Unit) => (bif v1.1 == f1_0.1 then some ((v1.1, v1.2.1, v1.2.2.1, ()), Bool.true, ()) else r0 f1_0 t6_0 (IntKind.i64.wrap (t7_0 + (1 : Int))) b0_0_0)) else some (([], fun (x : Fai × Unit) => Option.none, fun (x : Fai × Int × (List UInt8 × Int × Unit) × Unit) => Option.none, ()), Bool.false, ()))
def yA3 (n : Nat)  (k : Nat) (f1_0 : Fai) (t6_0 : List (List UInt8 × (Fai × Unit → Option (Fai × Unit)) × (Fai × Int × (List UInt8 × Int × Unit) × Unit → Option ((List UInt8 × Int × Unit) × Bool × Unit)) × Unit)) (t7_0 : Int) (b0_0_0 : List UInt8) : Option ((List UInt8 × (Fai × Unit → Option (Fai × Unit)) × (Fai × Int × (List UInt8 × Int × Unit) × Unit → Option ((List UInt8 × Int × Unit) × Bool × Unit)) × Unit) × Bool × Unit) :=
 iter (fun r y => yIo n (fun f1_0 t6_0 t7_0 b0_0_0 => r ((f1_0, (t6_0, (t7_0, ()))), (((b0_0_0, ()), ()), ()))) y.1.1 y.1.2.1 y.1.2.2.1 y.2.1.1.1) k ((f1_0, (t6_0, (t7_0, ()))), (((b0_0_0, ()), ()), ()))
def zf_m (n : Nat) (f : Fai) : Option ((List UInt8 × (Fai × Unit → Option (Fai × Unit)) × (Fai × Int × (List UInt8 × Int × Unit) × Unit → Option ((List UInt8 × Int × Unit) × Bool × Unit)) × Unit) × Bool × Unit) :=
 (yA3 n n (f) (z0k.1) ((0 : Int)) ([]))
theorem yVE (n : Nat) (x : zf_a.den) : runF zf_g (yRu n) Tryz.f143 zf_a zf_r x = zf_m n x.1 := by kernel_rfl
def yFN (f1_0 : Fai) (t6_0 : List (List UInt8 × (Fai × Unit → Option (Fai × Unit)) × (Fai × Int × (List UInt8 × Int × Unit) × Unit → Option ((List UInt8 × Int × Unit) × Bool × Unit)) × Unit)) (b0_0_0 : List UInt8) (t7_0 : Int) : Option (((List UInt8 × (Fai × Unit → Option (Fai × Unit)) × (Fai × Int × (List UInt8 × Int × Unit) × Unit → Option ((List UInt8 × Int × Unit) × Bool × Unit)) × Unit) × Bool × Unit) ⊕ Unit) :=
 (Option.bind (idx t6_0 t7_0) fun (v1 : List UInt8 × (Fai × Unit → Option (Fai × Unit)) × (Fai × Int × (List UInt8 × Int × Unit) × Unit → Option ((List UInt8 × Int × Unit) × Bool × Unit)) × Unit) => (bif v1.1 == f1_0.1 then (some (Sum.inl (((v1.1, v1.2.1, v1.2.2.1, ()), Bool.true, ())))) else (some (Sum.inr ()))))
def yJo (f1_0 : Fai) (t6_0 : List (List UInt8 × (Fai × Unit → Option (Fai × Unit)) × (Fai × Int × (List UInt8 × Int × Unit) × Unit → Option ((List UInt8 × Int × Unit) × Bool × Unit)) × Unit)) (b0_0_0 : List UInt8) : Option ((List UInt8 × (Fai × Unit → Option (Fai × Unit)) × (Fai × Int × (List UInt8 × Int × Unit) × Unit → Option ((List UInt8 × Int × Unit) × Bool × Unit)) × Unit) × Bool × Unit) :=
 (some ((([], fun (x : Fai × Unit) => Option.none, fun (x : Fai × Int × (List UInt8 × Int × Unit) × Unit) => Option.none, ()), Bool.false, ())))
theorem yFF (n : Nat) (hn : big ≤ n)  (f1_0 : Fai) (t6_0 : List (List UInt8 × (Fai × Unit → Option (Fai × Unit)) × (Fai × Int × (List UInt8 × Int × Unit) × Unit → Option ((List UInt8 × Int × Unit) × Bool × Unit)) × Unit)) (b0_0_0 : List UInt8) (hx : ((3 : Int)) ≤ (9223372036854775807 : Int)) : LeF some (y00 (fun i__ s__ => yFN f1_0 t6_0 b0_0_0 i__) (fun s__ => yJo f1_0 t6_0 b0_0_0) (((3 : Int)) - 0).toNat 0 ()) (yA3 n n f1_0 t6_0 0 b0_0_0) := by
 refine y1S (f := some) (W := fun k__ i__ s__ => yA3 n k__ f1_0 t6_0 i__ b0_0_0) (body := (fun i__ s__ => yFN f1_0 t6_0 b0_0_0 i__)) (fin := (fun s__ => yJo f1_0 t6_0 b0_0_0)) (fun k__ i__ s__ => ?_) hx () n 0 (by decide) (by unfold big at hn; omega)
 show LeF _ _ (yIo n (yA3 n k__) f1_0 t6_0 i__ b0_0_0)
 exact y0 (y7 fun v1 => (y0 (y3 rfl) (y3 rfl))) (yo (y3 rfl))
def zf_M (f : Fai) : Option ((List UInt8 × (Fai × Unit → Option (Fai × Unit)) × (Fai × Int × (List UInt8 × Int × Unit) × Unit → Option ((List UInt8 × Int × Unit) × Bool × Unit)) × Unit) × Bool × Unit) :=
 (bif decide (((3 : Int)) ≤ (9223372036854775807 : Int)) then y00 (fun i__ s__ => yFN (f) (z0k.1) ([]) i__) (fun s__ => yJo (f) (z0k.1) ([])) (((3 : Int)) - 0).toNat 0 () else none)
theorem yUX (f : Fai) (y : (List UInt8 × (Fai × Unit → Option (Fai × Unit)) × (Fai × Int × (List UInt8 × Int × Unit) × Unit → Option ((List UInt8 × Int × Unit) × Bool × Unit)) × Unit) × Bool × Unit) (h : zf_M f = some y) : ∃ n, zf_m n f = some y :=
 ⟨big, LeF.top (show LeF some (zf_M f) (zf_m big f) from (fun (n : Nat) (hn : big ≤ n) => show LeF some (zf_M f) (zf_m n f) from (yK fun hx => by apply yFF n hn; exact hx)) big (Nat.le_refl _)) h⟩
def zf_e : Entry := { f := 143, args := zf_a, ress := zf_r, m := fun x => zf_M x.1 }
theorem yUM : FnOK Tryz.prog zf_e := yN (g := zf_g) (fn := Tryz.f143) yC yM (yA yPO eNil) (by kernel_rfl) (by kernel_rfl) (by kernel_rfl) (fun x y h => let ⟨n, hn⟩ := yUX x.1 y h; ⟨yRu n, iNil, (yVE n x).trans hn⟩)
abbrev zT_a : Ty := .pair t3 (.pair (.ref t134) .unit)
abbrev zT_r : Ty := .pair t4 .unit
def zT_g : G := { T := T, E := [zH_e], muts := [], fz := [] }
def zT_k : List (List Nat) := []
def ySH (n : Nat) : Ann := { keep := zT_k, fuel := n, inl := [], deep := 0 }
def zT_m (n : Nat) (leaf : Int) (p1 : Goa) : Option (Bool × Unit) :=
 (Option.bind (zH_M p1.2.1 leaf) fun (v0 : Bool × Unit) => some (v0.1, ()))
theorem yVO (n : Nat) (x : zT_a.den) : runF zT_g (ySH n) Tryz.f153 zT_a zT_r x = zT_m n x.1 x.2.1 := by kernel_rfl
def zT_M (leaf : Int) (p1 : Goa) : Option (Bool × Unit) := zT_m 0 leaf p1
theorem yUD (leaf : Int) (p1 : Goa) (y : Bool × Unit) (h : zT_M leaf p1 = some y) : ∃ n, zT_m n leaf p1 = some y := ⟨0, h⟩
def zT_e : Entry := { f := 153, args := zT_a, ress := zT_r, m := fun x => zT_M x.1 x.2.1 }
theorem yWC : FnOK Tryz.prog zT_e := yN (g := zT_g) (fn := Tryz.f153) yC yM (yA yJm eNil) (by kernel_rfl) (by kernel_rfl) (by kernel_rfl) (fun x y h => let ⟨n, hn⟩ := yUD x.1 x.2.1 y h; ⟨ySH n, iNil, (yVO n x).trans hn⟩)
end
end Go.Tw
end
