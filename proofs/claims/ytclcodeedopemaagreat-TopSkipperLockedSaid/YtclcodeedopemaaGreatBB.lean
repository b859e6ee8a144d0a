import Derived.Test.YtclcodeedopemaaGreatBT
import Derived.Test.YtclcodeedopemaaGreatB0
import Derived.Test.YtclcodeedopemaaGreatBS
import Derived.Test.YtclcodeedopemaaGreatLP
import Derived.Test.YtclcodeedopemaaGreatBA
section
set_option linter.all false
set_option maxRecDepth 1000000
namespace Go.Tw
open Go.Vx Go.Vx.B Go.Proofs
noncomputable section
abbrev yMK : Ty := .pair t25 .unit
abbrev yNf : Ty := .pair t45 .unit
def yPS : G := { T := T, E := [z00_e], muts := [3], fz := [] }
def yTp : List (List Nat) := [[1, 3, 4]]
def yLd (n : Nat) : Ann := { keep := yTp, fuel := n, inl := [], deep := 0 }
def yDn (n : Nat) (r0 : Cha → Int → List (List UInt8) → Option (List (List UInt8) × Unit)) (c1_0 : Cha) (i4_0 : Int) (cs0_0 : List (List UInt8)) : Option (List (List UInt8) × Unit) :=
  (bif decide (i4_0 < (↑c1_0.2.1.length : Int)) then (Option.bind (idx c1_0.2.1 i4_0) fun (v1 : Tra) => (Option.bind (y5m cs0_0 v1.2.1) fun (v2 : Bool × Unit) => (bif !v2.1 then (Option.bind (idx c1_0.2.1 i4_0) fun (v3 : Tra) => (bif decide (cs0_0.length + (1 : Nat) ≤ memMax) then r0 c1_0 (IntKind.i64.wrap (i4_0 + 1)) (cs0_0 ++ [v3.2.1]) else none)) else r0 c1_0 (IntKind.i64.wrap (i4_0 + 1)) cs0_0))) else some (cs0_0, ()))
def y6J (n : Nat)  (k : Nat) (c1_0 : Cha) (i4_0 : Int) (cs0_0 : List (List UInt8)) : Option (List (List UInt8) × Unit) :=
  iter (fun r y => yDn n (fun c1_0 i4_0 cs0_0 => r ((c1_0, (i4_0, ())), ((cs0_0, ()), ()))) y.1.1 y.1.2.1 y.2.1.1) k ((c1_0, (i4_0, ())), ((cs0_0, ()), ()))
def yJy (n : Nat) (c : Cha) : Option (List (List UInt8) × Unit) :=
  (y6J n n (c) ((0 : Int)) ([]))
theorem yPW (n : Nat) (x : yMK.den) : runF yPS (yLd n) Tryz.f33 yMK yNf x = yJy n x.1 := by kernel_rfl
def yAn (c1_0 : Cha) (i4_0 : Int) (v1 : Tra) (cs0_0 : List (List UInt8)) : Option ((List (List UInt8) × Unit) ⊕ (List (List UInt8))) :=
  (Option.bind (y5m cs0_0 v1.2.1) fun (v2 : Bool × Unit) => (bif !v2.1 then (Option.bind (idx c1_0.2.1 i4_0) fun (v3 : Tra) => (bif decide (cs0_0.length + (1 : Nat) ≤ memMax) then (some (Sum.inr (cs0_0 ++ [v3.2.1]))) else none)) else (some (Sum.inr (cs0_0)))))
def yE4 (c1_0 : Cha) (cs0_0 : List (List UInt8)) : Option (List (List UInt8) × Unit) :=
  (some ((cs0_0, ())))
theorem yC0 (n : Nat) (hn : big ≤ n)  (c1_0 : Cha) (cs0_0 : List (List UInt8)) (hx : List.length (c1_0.2.1) < lenMax) : LeF some (yH (fun i__ e__ s__ => yAn c1_0 i__ e__ s__) (fun s__ => yE4 c1_0 s__) 0 (c1_0.2.1) cs0_0) (y6J n n c1_0 0 cs0_0) := by
  refine yK (f := some) (W := fun k__ i__ s__ => y6J n k__ c1_0 i__ s__) (body := (fun i__ e__ s__ => yAn c1_0 i__ e__ s__)) (fin := (fun s__ => yE4 c1_0 s__)) (fun k__ i__ s__ => ?_) hx cs0_0 n (by unfold big at hn; unfold lenMax at hx; omega)
  show LeF _ _ (yDn n (y6J n k__) c1_0 i__ s__)
  exact y0 (y7 fun v1 => (y7 fun v2 => (y0 (y7 fun v3 => (y0 (y4 rfl) y08)) (y4 rfl)))) (yu (y4 rfl))
def y7M (c : Cha) : Option (List (List UInt8) × Unit) :=
  (bif decide (List.length (c.2.1) < lenMax) then yH (fun i__ e__ s__ => yAn (c) i__ e__ s__) (fun s__ => yE4 (c) s__) 0 (c.2.1) ([]) else none)
theorem yMA (c : Cha) (y : List (List UInt8) × Unit) (h : y7M c = some y) : ∃ n, yJy n c = some y :=
  ⟨big, LeF.top (show LeF some (y7M c) (yJy big c) from (fun (n : Nat) (hn : big ≤ n) => show LeF some (y7M c) (yJy n c) from (yL fun hx => by apply yC0 n hn; exact hx)) big (Nat.le_refl _)) h⟩
def z0C_e : Entry := { f := 33, args := yMK, ress := yNf, m := fun x => y7M x.1 }
theorem yLb : FnOK Tryz.prog z0C_e := yS (g := yPS) (fn := Tryz.f33) yE yR (yB yL6 eNil) (by kernel_rfl) (by kernel_rfl) (by kernel_rfl) (fun x y h => let ⟨n, hn⟩ := yMA x.1 y h; ⟨yLd n, iNil, (yPW n x).trans hn⟩)
abbrev zo_a : Ty := .pair t9 .unit
abbrev zo_r : Ty := .pair t3 .unit
def zo_g : G := { T := T, E := [z0B_e], muts := [], fz := [] }
def zo_k : List (List Nat) := []
def yPn (n : Nat) : Ann := { keep := zo_k, fuel := n, inl := [], deep := 0 }
def zo_m (n : Nat) (s : List UInt8) : Option (Int × Unit) :=
  (Option.bind (yCT s) fun (v0 : Bool × Unit) => (bif !v0.1 then some ((8 : Int), ()) else some ((0 : Int), ())))
theorem yT6 (n : Nat) (x : zo_a.den) : runF zo_g (yPn n) Tryz.f28 zo_a zo_r x = zo_m n x.1 := by kernel_rfl
def zo_M (s : List UInt8) : Option (Int × Unit) := zo_m 0 s
theorem yRR (s : List UInt8) (y : Int × Unit) (h : zo_M s = some y) : ∃ n, zo_m n s = some y := ⟨0, h⟩
def zo_e : Entry := { f := 28, args := zo_a, ress := zo_r, m := fun x => zo_M x.1 }
theorem yOo : FnOK Tryz.prog zo_e := yS (g := zo_g) (fn := Tryz.f28) yE yR (yB yQK eNil) (by kernel_rfl) (by kernel_rfl) (by kernel_rfl) (fun x y h => let ⟨n, hn⟩ := yRR x.1 y h; ⟨yPn n, iNil, (yT6 n x).trans hn⟩)
abbrev yNL : Ty := .pair t3 (.pair t3 (.pair t3 .unit))
abbrev yQ1 : Ty := .pair t42 .unit
def yNd : G := { T := T, E := [z0Y_e], muts := [], fz := [] }
def yTJ : List (List Nat) := []
def yKy (n : Nat) : Ann := { keep := yTJ, fuel := n, inl := [], deep := 0 }
def yJd (n : Nat) (n1 : Int) (least : Int) (most : Int) : Option (Int × Unit) :=
  (bif decide (n1 < least) then some ((z0Y Bool.true (3 : Int)).1, ()) else some ((z0Y (decide (n1 > most)) (3 : Int)).1, ()))
theorem yNm (n : Nat) (x : yNL.den) : runF yNd (yKy n) Tryz.f42 yNL yQ1 x = yJd n x.1 x.2.1 x.2.2.1 := by kernel_rfl
def z0I (n1 : Int) (least : Int) (most : Int) : (Int × Unit) :=
  (bif decide (n1 < least) then ((z0Y Bool.true (3 : Int)).1, ()) else ((z0Y (decide (n1 > most)) (3 : Int)).1, ()))
abbrev yOV (n1 : Int) (least : Int) (most : Int) : Option (Int × Unit) := some (z0I n1 least most)
theorem yMF (n1 : Int) (least : Int) (most : Int) (y : Int × Unit) (h : yOV n1 least most = some y) : ∃ n, yJd n n1 least most = some y :=
  ⟨0, by rw [← h]; show yJd 0 n1 least most = some (z0I n1 least most); unfold yJd z0I; first | rfl | (simp only [yI]; done) | (simp only [yI]; rfl)⟩
def z0I_e : Entry := { f := 42, args := yNL, ress := yQ1, m := fun x => yOV x.1 x.2.1 x.2.2.1 }
theorem yEA : FnOK Tryz.prog z0I_e := yS (g := yNd) (fn := Tryz.f42) yE yR (yB y3v eNil) (by kernel_rfl) (by kernel_rfl) (by kernel_rfl) (fun x y h => let ⟨n, hn⟩ := yMF x.1 x.2.1 x.2.2.1 y h; ⟨yKy n, iNil, (yNm n x).trans hn⟩)
abbrev zr_a : Ty := .pair t73 (.pair t110 (.pair (.ref t56) .unit))
abbrev zr_r : Ty := .pair t4 .unit
def zr_g : G := { T := T, E := [z0H_e], muts := [], fz := [] }
def zr_k : List (List Nat) := []
def yQ7 (n : Nat) : Ann := { keep := zr_k, fuel := n, inl := [], deep := 0 }
def zr_m (n : Nat) (x1 : Cas) (o : Int × Bool × Bool × Unit) (p2 : Cha) : Option (Bool × Unit) :=
  (bif yP IntKind.i64 Go.BinOp.and x1.2.2.1 (1 : Int) != 0 then (bif !o.2.2.1 then (Option.bind (idx p2.1 o.1) fun (v0 : Sta) => some (v0.2.2.2.1, ())) else some (Bool.false, ())) else some (Bool.false, ()))
theorem yTj (n : Nat) (x : zr_a.den) : runF zr_g (yQ7 n) Tryz.f46 zr_a zr_r x = zr_m n x.1 x.2.1 x.2.2.1 := by kernel_rfl
def zr_M (x1 : Cas) (o : Int × Bool × Bool × Unit) (p2 : Cha) : Option (Bool × Unit) := zr_m 0 x1 o p2
theorem yNq (x1 : Cas) (o : Int × Bool × Bool × Unit) (p2 : Cha) (y : Bool × Unit) (h : zr_M x1 o p2 = some y) : ∃ n, zr_m n x1 o p2 = some y := ⟨0, h⟩
def zr_e : Entry := { f := 46, args := zr_a, ress := zr_r, m := fun x => zr_M x.1 x.2.1 x.2.2.1 }
theorem yU6 : FnOK Tryz.prog zr_e := yS (g := zr_g) (fn := Tryz.f46) yE yR (yB yLF eNil) (by kernel_rfl) (by kernel_rfl) (by kernel_rfl) (fun x y h => let ⟨n, hn⟩ := yNq x.1 x.2.1 x.2.2.1 y h; ⟨yQ7 n, iNil, (yTj n x).trans hn⟩)
abbrev zG_a : Ty := .pair t37 (.pair t3 .unit)
abbrev zG_r : Ty := .pair t4 .unit
def zG_g : G := { T := T, E := [zO_e], muts := [], fz := [] }
def zG_k : List (List Nat) := []
def yOq (n : Nat) : Ann := { keep := zG_k, fuel := n, inl := [], deep := 0 }
def zG_m (n : Nat) (s : List Int) (v : Int) : Option (Bool × Unit) :=
  (Option.bind (zO_M s v) fun (v0 : Int × Unit) => some (decide (v0.1 ≥ 0), ()))
theorem yTn (n : Nat) (x : zG_a.den) : runF zG_g (yOq n) Tryz.f56 zG_a zG_r x = zG_m n x.1 x.2.1 := by kernel_rfl
def zG_M (s : List Int) (v : Int) : Option (Bool × Unit) := zG_m 0 s v
theorem yQy (s : List Int) (v : Int) (y : Bool × Unit) (h : zG_M s v = some y) : ∃ n, zG_m n s v = some y := ⟨0, h⟩
def zG_e : Entry := { f := 56, args := zG_a, ress := zG_r, m := fun x => zG_M x.1 x.2.1 }
theorem yM9 : FnOK Tryz.prog zG_e := yS (g := zG_g) (fn := Tryz.f56) yE yR (yB yTm eNil) (by kernel_rfl) (by kernel_rfl) (by kernel_rfl) (fun x y h => let ⟨n, hn⟩ := yQy x.1 x.2.1 y h; ⟨yOq n, iNil, (yTn n x).trans hn⟩)
abbrev zA_a : Ty := .pair t45 (.pair t9 .unit)
abbrev zA_r : Ty := .pair t4 .unit
def zA_g : G := { T := T, E := [zC_e], muts := [], fz := [] }
def zA_k : List (List Nat) := []
def yOm (n : Nat) : Ann := { keep := zA_k, fuel := n, inl := [], deep := 0 }
def zA_m (n : Nat) (s : List (List UInt8)) (v : List UInt8) : Option (Bool × Unit) :=
  (Option.bind (zC_M s v) fun (v0 : Int × Unit) => some (decide (v0.1 ≥ 0), ()))
theorem yTw (n : Nat) (x : zA_a.den) : runF zA_g (yOm n) Tryz.f79 zA_a zA_r x = zA_m n x.1 x.2.1 := by kernel_rfl
def zA_M (s : List (List UInt8)) (v : List UInt8) : Option (Bool × Unit) := zA_m 0 s v
theorem yOS (s : List (List UInt8)) (v : List UInt8) (y : Bool × Unit) (h : zA_M s v = some y) : ∃ n, zA_m n s v = some y := ⟨0, h⟩
def zA_e : Entry := { f := 79, args := zA_a, ress := zA_r, m := fun x => zA_M x.1 x.2.1 }
theorem yU1 : FnOK Tryz.prog zA_e := yS (g := zA_g) (fn := Tryz.f79) yE yR (yB yS6 eNil) (by kernel_rfl) (by kernel_rfl) (by kernel_rfl) (fun x y h => let ⟨n, hn⟩ := yOS x.1 x.2.1 y h; ⟨yOm n, iNil, (yTw n x).trans hn⟩)
abbrev zu_a : Ty := .pair t9 .unit
abbrev zu_r : Ty := .pair t42 .unit
def zu_g : G := { T := T, E := [z08_e, z0Y_e], muts := [], fz := [] }
def zu_k : List (List Nat) := []
def yOO (n : Nat) : Ann := { keep := zu_k, fuel := n, inl := [], deep := 0 }
def zu_m (n : Nat) (s : List UInt8) : Option (Int × Unit) :=
  (Option.bind (yCF s) fun (v0 : Bool × Unit) => some ((z0Y (!v0.1) (8 : Int)).1, ()))
theorem yS5 (n : Nat) (x : zu_a.den) : runF zu_g (yOO n) Tryz.f66 zu_a zu_r x = zu_m n x.1 := by kernel_rfl
def zu_M (s : List UInt8) : Option (Int × Unit) := zu_m 0 s
theorem yQV (s : List UInt8) (y : Int × Unit) (h : zu_M s = some y) : ∃ n, zu_m n s = some y := ⟨0, h⟩
def zu_e : Entry := { f := 66, args := zu_a, ress := zu_r, m := fun x => zu_M x.1 }
theorem yKB : FnOK Tryz.prog zu_e := yS (g := zu_g) (fn := Tryz.f66) yE yR (yB yQG (yB y3v eNil)) (by kernel_rfl) (by kernel_rfl) (by kernel_rfl) (fun x y h => let ⟨n, hn⟩ := yQV x.1 y h; ⟨yOO n, iNil, (yS5 n x).trans hn⟩)
abbrev zQ_a : Ty := .pair t97 (.pair t3 .unit)
abbrev zQ_r : Ty := .pair t4 .unit
def zQ_g : G := { T := T, E := [z0H_e], muts := [], fz := [] }
def zQ_k : List (List Nat) := []
def yRo (n : Nat) : Ann := { keep := zQ_k, fuel := n, inl := [], deep := 0 }
def zQ_m (n : Nat) (t : Tra) (conditions : Int) : Option (Bool × Unit) :=
  some (eqV (Ty.arr (4 : Nat) Ty.bool) (z0H (yP IntKind.i64 Go.BinOp.and conditions t.2.2.2.1)).1 (z0H t.2.2.2.2.1).1, ())
theorem ySd (n : Nat) (x : zQ_a.den) : runF zQ_g (yRo n) Tryz.f90 zQ_a zQ_r x = zQ_m n x.1 x.2.1 := by kernel_rfl
def zQ (t : Tra) (conditions : Int) : (Bool × Unit) :=
  (eqV (Ty.arr (4 : Nat) Ty.bool) (z0H (yP IntKind.i64 Go.BinOp.and conditions t.2.2.2.1)).1 (z0H t.2.2.2.2.1).1, ())
abbrev zQ_M (t : Tra) (conditions : Int) : Option (Bool × Unit) := some (zQ t conditions)
theorem yRq (t : Tra) (conditions : Int) (y : Bool × Unit) (h : zQ_M t conditions = some y) : ∃ n, zQ_m n t conditions = some y :=
  ⟨0, by rw [← h]; show zQ_m 0 t conditions = some (zQ t conditions); unfold zQ_m zQ; first | rfl | (simp only [yI]; done) | (simp only [yI]; rfl)⟩
def zQ_e : Entry := { f := 90, args := zQ_a, ress := zQ_r, m := fun x => zQ_M x.1 x.2.1 }
theorem ySX : FnOK Tryz.prog zQ_e := yS (g := zQ_g) (fn := Tryz.f90) yE yR (yB yLF eNil) (by kernel_rfl) (by kernel_rfl) (by kernel_rfl) (fun x y h => let ⟨n, hn⟩ := yRq x.1 x.2.1 y h; ⟨yRo n, iNil, (ySd n x).trans hn⟩)
abbrev zB_a : Ty := .pair t37 (.pair t134 .unit)
abbrev zB_r : Ty := .pair t4 .unit
def zB_g : G := { T := T, E := [zF_e], muts := [], fz := [] }
def zB_k : List (List Nat) := []
def yS1 (n : Nat) : Ann := { keep := zB_k, fuel := n, inl := [], deep := 0 }
def zB_m (n : Nat) (s : List Int) (f : Int × Unit → Option (Bool × Unit)) : Option (Bool × Unit) :=
  (Option.bind (zF_M s f) fun (v0 : Int × Unit) => some (decide (v0.1 ≥ 0), ()))
theorem yTV (n : Nat) (x : zB_a.den) : runF zB_g (yS1 n) Tryz.f81 zB_a zB_r x = zB_m n x.1 x.2.1 := by kernel_rfl
def zB_M (s : List Int) (f : Int × Unit → Option (Bool × Unit)) : Option (Bool × Unit) := zB_m 0 s f
theorem yNg (s : List Int) (f : Int × Unit → Option (Bool × Unit)) (y : Bool × Unit) (h : zB_M s f = some y) : ∃ n, zB_m n s f = some y := ⟨0, h⟩
def zB_e : Entry := { f := 81, args := zB_a, ress := zB_r, m := fun x => zB_M x.1 x.2.1 }
theorem yTq : FnOK Tryz.prog zB_e := yS (g := zB_g) (fn := Tryz.f81) yE yR (yB yTi eNil) (by kernel_rfl) (by kernel_rfl) (by kernel_rfl) (fun x y h => let ⟨n, hn⟩ := yNg x.1 x.2.1 y h; ⟨yS1 n, iNil, (yTV n x).trans hn⟩)
abbrev yNT : Ty := .unit
abbrev yQU : Ty := .pair t164 .unit
def yOR : G := { T := T, E := [z03_e, z04_e, z05_e, z06_e, z07_e, zW_e], muts := [], fz := [] }
def yTF : List (List Nat) := []
def yKz (n : Nat) : Ann := { keep := yTF, fuel := n, inl := [], deep := 0 }
def yK5 (n : Nat)  : Option (List (List UInt8 × (Fai × Unit → Option (Fai × Unit)) × (Fai × Int × (List UInt8 × Int × Unit) × Unit → Option ((List UInt8 × Int × Unit) × Bool × Unit)) × Unit) × Unit) :=
  some ([([(110 : UInt8), 111, 110, 101], fun (x : Fai × Unit) => yGk x.1, fun (x : Fai × Int × (List UInt8 × Int × Unit) × Unit) => yI2 x.1 x.2.1 x.2.2.1, ()), ([(108 : UInt8), 111, 115, 116], fun (x : Fai × Unit) => yIB x.1, fun (x : Fai × Int × (List UInt8 × Int × Unit) × Unit) => yHB x.1 x.2.1 x.2.2.1, ()), ([(115 : UInt8), 116, 117, 99, 107], fun (x : Fai × Unit) => yHG x.1, fun (x : Fai × Int × (List UInt8 × Int × Unit) × Unit) => zW_M x.1 x.2.1 x.2.2.1, ())], ())
theorem yOP (n : Nat) (x : yNT.den) : runF yOR (yKz n) Tryz.f87 yNT yQU x = yK5 n := by kernel_rfl
def z0R  : (List (List UInt8 × (Fai × Unit → Option (Fai × Unit)) × (Fai × Int × (List UInt8 × Int × Unit) × Unit → Option ((List UInt8 × Int × Unit) × Bool × Unit)) × Unit) × Unit) :=
  ([([(110 : UInt8), 111, 110, 101], fun (x : Fai × Unit) => yGk x.1, fun (x : Fai × Int × (List UInt8 × Int × Unit) × Unit) => yI2 x.1 x.2.1 x.2.2.1, ()), ([(108 : UInt8), 111, 115, 116], fun (x : Fai × Unit) => yIB x.1, fun (x : Fai × Int × (List UInt8 × Int × Unit) × Unit) => yHB x.1 x.2.1 x.2.2.1, ()), ([(115 : UInt8), 116, 117, 99, 107], fun (x : Fai × Unit) => yHG x.1, fun (x : Fai × Int × (List UInt8 × Int × Unit) × Unit) => zW_M x.1 x.2.1 x.2.2.1, ())], ())
abbrev yR7  : Option (List (List UInt8 × (Fai × Unit → Option (Fai × Unit)) × (Fai × Int × (List UInt8 × Int × Unit) × Unit → Option ((List UInt8 × Int × Unit) × Bool × Unit)) × Unit) × Unit) := some (z0R)
theorem yLv  (y : List (List UInt8 × (Fai × Unit → Option (Fai × Unit)) × (Fai × Int × (List UInt8 × Int × Unit) × Unit → Option ((List UInt8 × Int × Unit) × Bool × Unit)) × Unit) × Unit) (h : yR7 = some y) : ∃ n, yK5 n = some y :=
  ⟨0, by rw [← h]; show yK5 0 = some (z0R); unfold yK5 z0R; first | rfl | (simp only [yI]; done) | (simp only [yI]; rfl)⟩
def z0R_e : Entry := { f := 87, args := yNT, ress := yQU, m := fun x => yR7 }
theorem yRf : FnOK Tryz.prog z0R_e := yS (g := yOR) (fn := Tryz.f87) yE yR (yB yOE (yB yOW (yB yRy (yB yNc (yB yNv (yB ySZ eNil)))))) (by kernel_rfl) (by kernel_rfl) (by kernel_rfl) (fun x y h => let ⟨n, hn⟩ := yLv y h; ⟨yKz n, iNil, (yOP n x).trans hn⟩)
abbrev yMI : Ty := .pair t3 (.pair t3 .unit)
abbrev yOZ : Ty := .pair t37 (.pair t42 .unit)
def yQS : G := { T := T, E := [z09_e, z0J_e], muts := [], fz := [] }
def yTb : List (List Nat) := [[0, 1, 7, 23, 24], [0, 7, 9]]
def yL0 (n : Nat) : Ann := { keep := yTb, fuel := n, inl := [], deep := 0 }
def yCw (n : Nat) (r4 : Int → Int → List Int → Option (List Int × Int × Unit)) (key0_4 : Int) (i9_4 : Int) (c0_4 : List Int) : Option (List Int × Int × Unit) :=
  (bif decide (i9_4 > 0) then (bif IntKind.i64.wrap (i9_4 + 1) == 0 then none else (Option.bind (idx c0_4 (((IntKind.i64.wrap ((742938285 : Int) * key0_4)).tmod (2147483647 : Int)).tmod (IntKind.i64.wrap (i9_4 + 1)))) fun (v5 : Int) => (Option.bind (c0_4[(((IntKind.i64.wrap ((742938285 : Int) * key0_4)).tmod (2147483647 : Int)).tmod (IntKind.i64.wrap (i9_4 + 1))).toNat]?) fun (v6 : Int) => (Option.bind (idx c0_4 i9_4) fun (v7 : Int) => (Option.bind (c0_4[i9_4.toNat]?) fun (v8 : Int) => (Option.bind (idx c0_4 i9_4) fun (v9 : Int) => (Option.bind (c0_4[i9_4.toNat]?) fun (v10 : Int) => (Option.bind (idx (c0_4.set i9_4.toNat v6) (((IntKind.i64.wrap ((742938285 : Int) * key0_4)).tmod (2147483647 : Int)).tmod (IntKind.i64.wrap (i9_4 + 1)))) fun (v11 : Int) => (Option.bind ((c0_4.set i9_4.toNat v6)[(((IntKind.i64.wrap ((742938285 : Int) * key0_4)).tmod (2147483647 : Int)).tmod (IntKind.i64.wrap (i9_4 + 1))).toNat]?) fun (v12 : Int) => r4 ((IntKind.i64.wrap ((742938285 : Int) * key0_4)).tmod (2147483647 : Int)) (IntKind.i64.wrap (i9_4 - (1 : Int))) ((c0_4.set i9_4.toNat v6).set (((IntKind.i64.wrap ((742938285 : Int) * key0_4)).tmod (2147483647 : Int)).tmod (IntKind.i64.wrap (i9_4 + 1))).toNat v8)))))))))) else some (c0_4, (0 : Int), ()))
def y62 (n : Nat)  (k : Nat) (key0_4 : Int) (i9_4 : Int) (c0_4 : List Int) : Option (List Int × Int × Unit) :=
  iter (fun r y => yCw n (fun key0_4 i9_4 c0_4 => r ((key0_4, (i9_4, ())), ((c0_4, ()), ()))) y.1.1 y.1.2.1 y.2.1.1) k ((key0_4, (i9_4, ())), ((c0_4, ()), ()))
def yDp (n : Nat) (r1 : Int → Int → Int → Int → List Int → Option (List Int × Int × Unit)) (key0_1 : Int) (n1_1 : Int) (t23_1 : Int) (t24_1 : Int) (c0_1 : List Int) : Option (List Int × Int × Unit) :=
  (bif decide (t24_1 < t23_1) then (Option.bind (idx c0_1 t24_1) fun (v2 : Int) => (Option.bind (c0_1[t24_1.toNat]?) fun (v3 : Int) => r1 key0_1 n1_1 t23_1 (IntKind.i64.wrap (t24_1 + 1)) (c0_1.set t24_1.toNat t24_1))) else (y62 n n (key0_1) (IntKind.i64.wrap (n1_1 - (1 : Int))) (c0_1)))
def y6F (n : Nat)  (k : Nat) (key0_1 : Int) (n1_1 : Int) (t23_1 : Int) (t24_1 : Int) (c0_1 : List Int) : Option (List Int × Int × Unit) :=
  iter (fun r y => yDp n (fun key0_1 n1_1 t23_1 t24_1 c0_1 => r ((key0_1, (n1_1, (t23_1, (t24_1, ())))), ((c0_1, ()), ()))) y.1.1 y.1.2.1 y.1.2.2.1 y.1.2.2.2.1 y.2.1.1) k ((key0_1, (n1_1, (t23_1, (t24_1, ())))), ((c0_1, ()), ()))
def yKY (n : Nat) (key : Int) (n1 : Int) : Option (List Int × Int × Unit) :=
  (Option.bind (yFC [(z09 key (1 : Int) (2147483646 : Int)).1, (z09 n1 (0 : Int) (256 : Int)).1]) fun (v0 : Int × Unit) => (bif v0.1 != 0 then some ([], v0.1, ()) else (bif Bool.true && decide ((0 : Int) ≤ n1) && decide (n1 ≤ (↑memMax : Int)) && n1 == n1 then (y6F n n (key) (n1) ((↑(List.replicate (n1.toNat) ((0 : Int)) : List (Int)).length : Int)) ((0 : Int)) ((List.replicate (n1.toNat) ((0 : Int)) : List (Int)))) else none)))
theorem yQn (n : Nat) (x : yMI.den) : runF yQS (yL0 n) Tryz.f11 yMI yOZ x = yKY n x.1 x.2.1 := by kernel_rfl
def yHa (key0_4 : Int) (i9_4 : Int) (c0_4 : List Int) : Option ((List Int × Int × Unit) ⊕ (Int × Int × List Int)) :=
  (bif decide (i9_4 > 0) then (bif IntKind.i64.wrap (i9_4 + 1) == 0 then none else (Option.bind (idx c0_4 (((IntKind.i64.wrap ((742938285 : Int) * key0_4)).tmod (2147483647 : Int)).tmod (IntKind.i64.wrap (i9_4 + 1)))) fun (v5 : Int) => (Option.bind (c0_4[(((IntKind.i64.wrap ((742938285 : Int) * key0_4)).tmod (2147483647 : Int)).tmod (IntKind.i64.wrap (i9_4 + 1))).toNat]?) fun (v6 : Int) => (Option.bind (idx c0_4 i9_4) fun (v7 : Int) => (Option.bind (c0_4[i9_4.toNat]?) fun (v8 : Int) => (Option.bind (idx c0_4 i9_4) fun (v9 : Int) => (Option.bind (c0_4[i9_4.toNat]?) fun (v10 : Int) => (Option.bind (idx (c0_4.set i9_4.toNat v6) (((IntKind.i64.wrap ((742938285 : Int) * key0_4)).tmod (2147483647 : Int)).tmod (IntKind.i64.wrap (i9_4 + 1)))) fun (v11 : Int) => (Option.bind ((c0_4.set i9_4.toNat v6)[(((IntKind.i64.wrap ((742938285 : Int) * key0_4)).tmod (2147483647 : Int)).tmod (IntKind.i64.wrap (i9_4 + 1))).toNat]?) fun (v12 : Int) => (some (Sum.inr (((IntKind.i64.wrap ((742938285 : Int) * key0_4)).tmod (2147483647 : Int)), (IntKind.i64.wrap (i9_4 - (1 : Int))), ((c0_4.set i9_4.toNat v6).set (((IntKind.i64.wrap ((742938285 : Int) * key0_4)).tmod (2147483647 : Int)).tmod (IntKind.i64.wrap (i9_4 + 1))).toNat v8))))))))))))) else (some (Sum.inl ((c0_4, (0 : Int), ())))))
theorem yCS (n : Nat) (hn : big ≤ n)  (key0_4 : Int) (i9_4 : Int) (c0_4 : List Int) : LeF some (y1N (fun s__ => yHa s__.1 s__.2.1 s__.2.2) wMax (key0_4, i9_4, c0_4)) (y62 n n key0_4 i9_4 c0_4) := by
  refine y3Z (f := some) (W := fun k__ s__ => y62 n k__ s__.1 s__.2.1 s__.2.2) (body := (fun s__ => yHa s__.1 s__.2.1 s__.2.2)) (fun k__ s__ => ?_) wMax n (key0_4, i9_4, c0_4) (by unfold big at hn; unfold wMax; omega)
  show LeF _ _ (yCw n (y62 n k__) s__.1 s__.2.1 s__.2.2)
  exact (y0 (y0 y08 (y7 fun v5 => (y7 fun v6 => (y7 fun v7 => (y7 fun v8 => (y7 fun v9 => (y7 fun v10 => (y7 fun v11 => (y7 fun v12 => (y4 rfl)))))))))) (y4 rfl))
def yIC (key0_1 : Int) (n1_1 : Int) (t23_1 : Int) (t24_1 : Int) (c0_1 : List Int) : Option ((List Int × Int × Unit) ⊕ (List Int)) :=
  (Option.bind (idx c0_1 t24_1) fun (v2 : Int) => (Option.bind (c0_1[t24_1.toNat]?) fun (v3 : Int) => (some (Sum.inr (c0_1.set t24_1.toNat t24_1)))))
def yIU (key0_1 : Int) (n1_1 : Int) (t23_1 : Int) (c0_1 : List Int) : Option (List Int × Int × Unit) :=
  (y1N (fun s__ => yHa s__.1 s__.2.1 s__.2.2) wMax ((key0_1), (IntKind.i64.wrap (n1_1 - (1 : Int))), (c0_1)))
theorem yCj (n : Nat) (hn : big ≤ n)  (key0_1 : Int) (n1_1 : Int) (t23_1 : Int) (c0_1 : List Int) (hx : (t23_1) ≤ 9223372036854775807) : LeF some (yy (fun i__ s__ => yIC key0_1 n1_1 t23_1 i__ s__) (fun s__ => yIU key0_1 n1_1 t23_1 s__) ((t23_1) - 0).toNat 0 c0_1) (y6F n n key0_1 n1_1 t23_1 0 c0_1) := by
  refine y1Q (f := some) (W := fun k__ i__ s__ => y6F n k__ key0_1 n1_1 t23_1 i__ s__) (body := (fun i__ s__ => yIC key0_1 n1_1 t23_1 i__ s__)) (fin := (fun s__ => yIU key0_1 n1_1 t23_1 s__)) (fun k__ i__ s__ => ?_) hx c0_1 n 0 (by decide) (by unfold big at hn; omega)
  show LeF _ _ (yDp n (y6F n k__) key0_1 n1_1 t23_1 i__ s__)
  exact y0 (y7 fun v2 => (y7 fun v3 => (y4 rfl))) (yu (by apply yCS n hn))
def yIh (key : Int) (n1 : Int) : Option (List Int × Int × Unit) :=
  (Option.bind (yFC [(z09 key (1 : Int) (2147483646 : Int)).1, (z09 n1 (0 : Int) (256 : Int)).1]) fun (v0 : Int × Unit) => (bif v0.1 != 0 then (some (([], v0.1, ()))) else (bif Bool.true && decide ((0 : Int) ≤ n1) && decide (n1 ≤ (↑memMax : Int)) && n1 == n1 then (bif decide (((↑(List.replicate (n1.toNat) ((0 : Int)) : List (Int)).length : Int)) ≤ 9223372036854775807) then yy (fun i__ s__ => yIC (key) (n1) ((↑(List.replicate (n1.toNat) ((0 : Int)) : List (Int)).length : Int)) i__ s__) (fun s__ => yIU (key) (n1) ((↑(List.replicate (n1.toNat) ((0 : Int)) : List (Int)).length : Int)) s__) (((↑(List.replicate (n1.toNat) ((0 : Int)) : List (Int)).length : Int)) - 0).toNat 0 ((List.replicate (n1.toNat) ((0 : Int)) : List (Int))) else none) else none)))
theorem yMu (key : Int) (n1 : Int) (y : List Int × Int × Unit) (h : yIh key n1 = some y) : ∃ n, yKY n key n1 = some y :=
  ⟨big, LeF.top (show LeF some (yIh key n1) (yKY big key n1) from (fun (n : Nat) (hn : big ≤ n) => show LeF some (yIh key n1) (yKY n key n1) from (y7 fun v0 => (y0 (y4 rfl) (y0 (yL fun hx => by apply yCj n hn; exact hx) y08)))) big (Nat.le_refl _)) h⟩
def z0T_e : Entry := { f := 11, args := yMI, ress := yOZ, m := fun x => yIh x.1 x.2.1 }
theorem yQF : FnOK Tryz.prog z0T_e := yS (g := yQS) (fn := Tryz.f11) yE yR (yB yOd (yB yQm eNil)) (by kernel_rfl) (by kernel_rfl) (by kernel_rfl) (fun x y h => let ⟨n, hn⟩ := yMu x.1 x.2.1 y h; ⟨yL0 n, iNil, (yQn n x).trans hn⟩)
end
end Go.Tw
end
section
set_option linter.all false
set_option maxRecDepth 1000000
namespace Go.Tw
open Go.Vx Go.Vx.B Go.Proofs
noncomputable section
abbrev zg_a : Ty := .pair t25 .unit
abbrev zg_r : Ty := .pair t3 .unit
def zg_g : G := { T := T, E := [zo_e, zw_e, zf_e, z0V_e, z0K_e, z0C_e], muts := [], fz := [] }
def zg_k : List (List Nat) := [[1, 3], [1, 3, 4, 6], [1, 7], [1, 11]]
def yRv (n : Nat) : Ann := { keep := zg_k, fuel := n, inl := [], deep := 0 }
def yIO (n : Nat) (r0 : Cha → Int → Option (Int × Unit)) (r3 : Cha → Int → Int → List UInt8 → Int → Int → Bool → Option (Int × Unit)) (c1_3 : Cha) (i3_3 : Int) (k6_3 : Int) (b0_0_3 : List UInt8) (b0_1_3 : Int) (b0_2_3 : Int) (b0_3_3 : Bool) : Option (Int × Unit) :=
  (bif decide (k6_3 < i3_3) then (Option.bind (idx c1_3.1 k6_3) fun (v4 : Sta) => (bif v4.1 == b0_0_3 then some ((9 : Int), ()) else r3 c1_3 i3_3 (IntKind.i64.wrap (k6_3 + 1)) b0_0_3 b0_1_3 b0_2_3 b0_3_3)) else (bif decide (b0_1_3 < (-1 : Int)) then some ((11 : Int), ()) else (bif decide (b0_1_3 ≥ i3_3) then some ((11 : Int), ()) else r0 c1_3 (IntKind.i64.wrap (i3_3 + 1)))))
def y9h (n : Nat) (r0 : Cha → Int → Option (Int × Unit)) (k : Nat) (c1_3 : Cha) (i3_3 : Int) (k6_3 : Int) (b0_0_3 : List UInt8) (b0_1_3 : Int) (b0_2_3 : Int) (b0_3_3 : Bool) : Option (Int × Unit) :=
  iter (fun r y => yIO n r0 (fun c1_3 i3_3 k6_3 b0_0_3 b0_1_3 b0_2_3 b0_3_3 => r ((c1_3, (i3_3, (k6_3, ()))), (((b0_0_3, (b0_1_3, (b0_2_3, (b0_3_3, ())))), ()), ()))) y.1.1 y.1.2.1 y.1.2.2.1 y.2.1.1.1 y.2.1.1.2.1 y.2.1.1.2.2.1 y.2.1.1.2.2.2.1) k ((c1_3, (i3_3, (k6_3, ()))), (((b0_0_3, (b0_1_3, (b0_2_3, (b0_3_3, ())))), ()), ()))
def yDx (n : Nat) (r19 : Cha → Int → Option (Int × Unit)) (c1_19 : Cha) (i11_19 : Int) : Option (Int × Unit) :=
  (bif decide (i11_19 < (↑c1_19.2.1.length : Int)) then (Option.bind (idx c1_19.2.1 i11_19) fun (v20 : Tra) => (bif (zf v20.1 (0 : Int) (IntKind.i64.wrap ((↑c1_19.1.length : Int) - (1 : Int)))).1 != 0 then some ((10 : Int), ()) else (bif (zf v20.2.2.1 (0 : Int) (IntKind.i64.wrap ((↑c1_19.1.length : Int) - (1 : Int)))).1 != 0 then some ((10 : Int), ()) else (Option.bind (zo_M v20.2.1) fun (v23 : Int × Unit) => (Option.bind (y9F [v23.1, (zf v20.2.2.2.1 (0 : Int) (15 : Int)).1, (zf v20.2.2.2.2.1 (0 : Int) (15 : Int)).1, (z0V (yP IntKind.i64 Go.BinOp.and v20.2.2.2.2.1 v20.2.2.2.1 != v20.2.2.2.2.1) (1 : Int)).1]) fun (v24 : Int × Unit) => (bif v24.1 != 0 then some (v24.1, ()) else r19 c1_19 (IntKind.i64.wrap (i11_19 + 1)))))))) else (Option.bind (y7M c1_19) fun (v25 : List (List UInt8) × Unit) => some ((z0V (decide ((↑v25.1.length : Int) > 8)) (5 : Int)).1, ())))
def y6A (n : Nat)  (k : Nat) (c1_19 : Cha) (i11_19 : Int) : Option (Int × Unit) :=
  iter (fun r y => yDx n (fun c1_19 i11_19 => r ((c1_19, (i11_19, ())), ((), ()))) y.1.1 y.1.2.1) k ((c1_19, (i11_19, ())), ((), ()))
def yIk (n : Nat) (r7 : Cha → Int → Option (Int × Unit)) (c1_7 : Cha) (i7_7 : Int) : Option (Int × Unit) :=
  (bif decide (i7_7 < (↑c1_7.1.length : Int)) then (Option.bind (idx c1_7.1 i7_7) fun (v8 : Sta) => (Option.bind (zw_M c1_7 i7_7 v8.2.2.1) fun (v9 : Int × Bool × Unit) => (bif decide (v9.1 > 0) then (bif !v9.2.1 then some ((1 : Int), ()) else (bif v8.2.2.2.1 then some ((1 : Int), ()) else (bif v9.1 == 0 then (bif v8.2.2.1 != (-1 : Int) then some ((1 : Int), ()) else r7 c1_7 (IntKind.i64.wrap (i7_7 + 1))) else r7 c1_7 (IntKind.i64.wrap (i7_7 + 1))))) else (bif v9.1 == 0 then (bif v8.2.2.1 != (-1 : Int) then some ((1 : Int), ()) else r7 c1_7 (IntKind.i64.wrap (i7_7 + 1))) else r7 c1_7 (IntKind.i64.wrap (i7_7 + 1)))))) else (bif decide ((↑c1_7.2.1.length : Int) > 48) then some ((5 : Int), ()) else (y6A n n (c1_7) ((0 : Int)))))
def y9M (n : Nat)  (k : Nat) (c1_7 : Cha) (i7_7 : Int) : Option (Int × Unit) :=
  iter (fun r y => yIk n (fun c1_7 i7_7 => r ((c1_7, (i7_7, ())), ((), ()))) y.1.1 y.1.2.1) k ((c1_7, (i7_7, ())), ((), ()))
def yHg (n : Nat) (r0 : Cha → Int → Option (Int × Unit)) (c1_0 : Cha) (i3_0 : Int) : Option (Int × Unit) :=
  (bif decide (i3_0 < (↑c1_0.1.length : Int)) then (Option.bind (idx c1_0.1 i3_0) fun (v1 : Sta) => (Option.bind (zo_M v1.1) fun (v2 : Int × Unit) => (bif v2.1 != 0 then some (v2.1, ()) else (y9h n r0 n (c1_0) (i3_0) ((0 : Int)) (v1.1) (v1.2.1) (v1.2.2.1) (v1.2.2.2.1))))) else (y9M n n (c1_0) ((0 : Int))))
def y8k (n : Nat)  (k : Nat) (c1_0 : Cha) (i3_0 : Int) : Option (Int × Unit) :=
  iter (fun r y => yHg n (fun c1_0 i3_0 => r ((c1_0, (i3_0, ())), ((), ()))) y.1.1 y.1.2.1) k ((c1_0, (i3_0, ())), ((), ()))
def zg_m (n : Nat) (c : Cha) : Option (Int × Unit) :=
  (bif (↑c.1.length : Int) == 0 then some ((12 : Int), ()) else (bif decide ((↑c.1.length : Int) > 16) then some ((5 : Int), ()) else (y8k n n (c) ((0 : Int)))))
theorem ySo (n : Nat) (x : zg_a.den) : runF zg_g (yRv n) Tryz.f7 zg_a zg_r x = zg_m n x.1 := by kernel_rfl
def yFp (c1_3 : Cha) (i3_3 : Int) (b0_0_3 : List UInt8) (b0_1_3 : Int) (b0_2_3 : Int) (b0_3_3 : Bool) (k6_3 : Int) : Option (((Int × Unit) ⊕ Unit) ⊕ Unit) :=
  (Option.bind (idx c1_3.1 k6_3) fun (v4 : Sta) => (bif v4.1 == b0_0_3 then (some (Sum.inl (Sum.inl (((9 : Int), ()))))) else (some (Sum.inr ()))))
def yIF (c1_3 : Cha) (i3_3 : Int) (b0_0_3 : List UInt8) (b0_1_3 : Int) (b0_2_3 : Int) (b0_3_3 : Bool) : Option ((Int × Unit) ⊕ Unit) :=
  (bif decide (b0_1_3 < (-1 : Int)) then (some (Sum.inl (((11 : Int), ())))) else (bif decide (b0_1_3 ≥ i3_3) then (some (Sum.inl (((11 : Int), ())))) else (some (Sum.inr ()))))
theorem yFJ (n : Nat) (hn : big ≤ n)  (r0 : Cha → Int → Option (Int × Unit)) (c1_3 : Cha) (i3_3 : Int) (b0_0_3 : List UInt8) (b0_1_3 : Int) (b0_2_3 : Int) (b0_3_3 : Bool) (hx : (i3_3) ≤ 9223372036854775807) : LeF (elim some fun (s__ : Unit) => r0 c1_3 (IntKind.i64.wrap (i3_3 + 1))) (yy (fun i__ s__ => yFp c1_3 i3_3 b0_0_3 b0_1_3 b0_2_3 b0_3_3 i__) (fun s__ => yIF c1_3 i3_3 b0_0_3 b0_1_3 b0_2_3 b0_3_3) ((i3_3) - 0).toNat 0 ()) (y9h n r0 n c1_3 i3_3 0 b0_0_3 b0_1_3 b0_2_3 b0_3_3) := by
  refine y1Q (f := (elim some fun (s__ : Unit) => r0 c1_3 (IntKind.i64.wrap (i3_3 + 1)))) (W := fun k__ i__ s__ => y9h n r0 k__ c1_3 i3_3 i__ b0_0_3 b0_1_3 b0_2_3 b0_3_3) (body := (fun i__ s__ => yFp c1_3 i3_3 b0_0_3 b0_1_3 b0_2_3 b0_3_3 i__)) (fin := (fun s__ => yIF c1_3 i3_3 b0_0_3 b0_1_3 b0_2_3 b0_3_3)) (fun k__ i__ s__ => ?_) hx () n 0 (by decide) (by unfold big at hn; omega)
  show LeF _ _ (yIO n r0 (y9h n r0 k__) c1_3 i3_3 i__ b0_0_3 b0_1_3 b0_2_3 b0_3_3)
  exact y0 (y7 fun v4 => (y0 (y4 rfl) (y4 rfl))) (yu (y0 (y4 rfl) (y0 (y4 rfl) (y4 rfl))))
def y7r (c1_19 : Cha) (i11_19 : Int) (v20 : Tra) : Option ((Int × Unit) ⊕ Unit) :=
  (bif (zf v20.1 (0 : Int) (IntKind.i64.wrap ((↑c1_19.1.length : Int) - (1 : Int)))).1 != 0 then (some (Sum.inl (((10 : Int), ())))) else (bif (zf v20.2.2.1 (0 : Int) (IntKind.i64.wrap ((↑c1_19.1.length : Int) - (1 : Int)))).1 != 0 then (some (Sum.inl (((10 : Int), ())))) else (Option.bind (zo_M v20.2.1) fun (v23 : Int × Unit) => (Option.bind (y9F [v23.1, (zf v20.2.2.2.1 (0 : Int) (15 : Int)).1, (zf v20.2.2.2.2.1 (0 : Int) (15 : Int)).1, (z0V (yP IntKind.i64 Go.BinOp.and v20.2.2.2.2.1 v20.2.2.2.1 != v20.2.2.2.2.1) (1 : Int)).1]) fun (v24 : Int × Unit) => (bif v24.1 != 0 then (some (Sum.inl ((v24.1, ())))) else (some (Sum.inr ())))))))
def y8Q (c1_19 : Cha) : Option (Int × Unit) :=
  (Option.bind (y7M c1_19) fun (v25 : List (List UInt8) × Unit) => (some (((z0V (decide ((↑v25.1.length : Int) > 8)) (5 : Int)).1, ()))))
theorem yCC (n : Nat) (hn : big ≤ n)  (c1_19 : Cha) (hx : List.length (c1_19.2.1) < lenMax) : LeF some (yH (fun i__ e__ s__ => y7r c1_19 i__ e__) (fun s__ => y8Q c1_19) 0 (c1_19.2.1) ()) (y6A n n c1_19 0) := by
  refine yK (f := some) (W := fun k__ i__ s__ => y6A n k__ c1_19 i__) (body := (fun i__ e__ s__ => y7r c1_19 i__ e__)) (fin := (fun s__ => y8Q c1_19)) (fun k__ i__ s__ => ?_) hx () n (by unfold big at hn; unfold lenMax at hx; omega)
  show LeF _ _ (yDx n (y6A n k__) c1_19 i__)
  exact y0 (y7 fun v20 => (y0 (y4 rfl) (y0 (y4 rfl) (y7 fun v23 => (y7 fun v24 => (y0 (y4 rfl) (y4 rfl))))))) (yu (y7 fun v25 => (y4 rfl)))
def yFB (c1_7 : Cha) (i7_7 : Int) (v8 : Sta) : Option ((Int × Unit) ⊕ Unit) :=
  (Option.bind (zw_M c1_7 i7_7 v8.2.2.1) fun (v9 : Int × Bool × Unit) => (bif decide (v9.1 > 0) then (bif !v9.2.1 then (some (Sum.inl (((1 : Int), ())))) else (bif v8.2.2.2.1 then (some (Sum.inl (((1 : Int), ())))) else (bif v9.1 == 0 then (bif v8.2.2.1 != (-1 : Int) then (some (Sum.inl (((1 : Int), ())))) else (some (Sum.inr ()))) else (some (Sum.inr ()))))) else (bif v9.1 == 0 then (bif v8.2.2.1 != (-1 : Int) then (some (Sum.inl (((1 : Int), ())))) else (some (Sum.inr ()))) else (some (Sum.inr ())))))
def yFN (c1_7 : Cha) : Option (Int × Unit) :=
  (bif decide ((↑c1_7.2.1.length : Int) > 48) then (some (((5 : Int), ()))) else (bif decide (List.length (c1_7.2.1) < lenMax) then yH (fun i__ e__ s__ => y7r (c1_7) i__ e__) (fun s__ => y8Q (c1_7)) 0 (c1_7.2.1) () else none))
theorem yFo (n : Nat) (hn : big ≤ n)  (c1_7 : Cha) (hx : List.length (c1_7.1) < lenMax) : LeF some (yH (fun i__ e__ s__ => yFB c1_7 i__ e__) (fun s__ => yFN c1_7) 0 (c1_7.1) ()) (y9M n n c1_7 0) := by
  refine yK (f := some) (W := fun k__ i__ s__ => y9M n k__ c1_7 i__) (body := (fun i__ e__ s__ => yFB c1_7 i__ e__)) (fin := (fun s__ => yFN c1_7)) (fun k__ i__ s__ => ?_) hx () n (by unfold big at hn; unfold lenMax at hx; omega)
  show LeF _ _ (yIk n (y9M n k__) c1_7 i__)
  exact y0 (y7 fun v8 => (y7 fun v9 => (y0 (y0 (y4 rfl) (y0 (y4 rfl) (y0 (y0 (y4 rfl) (y4 rfl)) (y4 rfl)))) (y0 (y0 (y4 rfl) (y4 rfl)) (y4 rfl))))) (yu (y0 (y4 rfl) (yL fun hx => by apply yCC n hn; exact hx)))
def yFd (c1_0 : Cha) (i3_0 : Int) (v1 : Sta) : Option ((Int × Unit) ⊕ Unit) :=
  (Option.bind (zo_M v1.1) fun (v2 : Int × Unit) => (bif v2.1 != 0 then (some (Sum.inl ((v2.1, ())))) else (bif decide ((i3_0) ≤ 9223372036854775807) then yy (fun i__ s__ => yFp (c1_0) (i3_0) (v1.1) (v1.2.1) (v1.2.2.1) (v1.2.2.2.1) i__) (fun s__ => yIF (c1_0) (i3_0) (v1.1) (v1.2.1) (v1.2.2.1) (v1.2.2.2.1)) ((i3_0) - 0).toNat 0 () else none)))
def yFR (c1_0 : Cha) : Option (Int × Unit) :=
  (bif decide (List.length (c1_0.1) < lenMax) then yH (fun i__ e__ s__ => yFB (c1_0) i__ e__) (fun s__ => yFN (c1_0)) 0 (c1_0.1) () else none)
theorem yEi (n : Nat) (hn : big ≤ n)  (c1_0 : Cha) (hx : List.length (c1_0.1) < lenMax) : LeF some (yH (fun i__ e__ s__ => yFd c1_0 i__ e__) (fun s__ => yFR c1_0) 0 (c1_0.1) ()) (y8k n n c1_0 0) := by
  refine yK (f := some) (W := fun k__ i__ s__ => y8k n k__ c1_0 i__) (body := (fun i__ e__ s__ => yFd c1_0 i__ e__)) (fin := (fun s__ => yFR c1_0)) (fun k__ i__ s__ => ?_) hx () n (by unfold big at hn; unfold lenMax at hx; omega)
  show LeF _ _ (yHg n (y8k n k__) c1_0 i__)
  exact y0 (y7 fun v1 => (y7 fun v2 => (y0 (y4 rfl) (yL fun hx => by apply yFJ n hn; exact hx)))) (yu (yL fun hx => by apply yFo n hn; exact hx))
def zg_M (c : Cha) : Option (Int × Unit) :=
  (bif (↑c.1.length : Int) == 0 then (some (((12 : Int), ()))) else (bif decide ((↑c.1.length : Int) > 16) then (some (((5 : Int), ()))) else (bif decide (List.length (c.1) < lenMax) then yH (fun i__ e__ s__ => yFd (c) i__ e__) (fun s__ => yFR (c)) 0 (c.1) () else none)))
theorem yOw (c : Cha) (y : Int × Unit) (h : zg_M c = some y) : ∃ n, zg_m n c = some y :=
  ⟨big, LeF.top (show LeF some (zg_M c) (zg_m big c) from (fun (n : Nat) (hn : big ≤ n) => show LeF some (zg_M c) (zg_m n c) from (y0 (y4 rfl) (y0 (y4 rfl) (yL fun hx => by apply yEi n hn; exact hx)))) big (Nat.le_refl _)) h⟩
def zg_e : Entry := { f := 7, args := zg_a, ress := zg_r, m := fun x => zg_M x.1 }
theorem yTN : FnOK Tryz.prog zg_e := yS (g := zg_g) (fn := Tryz.f7) yE yR (yB yOo (yB ySY (yB yR3 (yB yQZ (yB yLA (yB yLb eNil)))))) (by kernel_rfl) (by kernel_rfl) (by kernel_rfl) (fun x y h => let ⟨n, hn⟩ := yOw x.1 y h; ⟨yRv n, iNil, (ySo n x).trans hn⟩)
abbrev zh_a : Ty := .pair t39 .unit
abbrev zh_r : Ty := .pair t3 .unit
def zh_g : G := { T := T, E := [zo_e, zf_e, z0K_e], muts := [], fz := [] }
def zh_k : List (List Nat) := []
def yQQ (n : Nat) : Ann := { keep := zh_k, fuel := n, inl := [], deep := 0 }
def zh_m (n : Nat) (p0 : List UInt8 × Int × Unit) : Option (Int × Unit) :=
  (Option.bind (zo_M p0.1) fun (v0 : Int × Unit) => (Option.bind (y9F [v0.1, (zf p0.2.1 (0 : Int) (15 : Int)).1]) fun (v1 : Int × Unit) => some (v1.1, ())))
theorem ySu (n : Nat) (x : zh_a.den) : runF zh_g (yQQ n) Tryz.f34 zh_a zh_r x = zh_m n x.1 := by kernel_rfl
def zh_M (p0 : List UInt8 × Int × Unit) : Option (Int × Unit) := zh_m 0 p0
theorem yP4 (p0 : List UInt8 × Int × Unit) (y : Int × Unit) (h : zh_M p0 = some y) : ∃ n, zh_m n p0 = some y := ⟨0, h⟩
def zh_e : Entry := { f := 34, args := zh_a, ress := zh_r, m := fun x => zh_M x.1 }
theorem ySh : FnOK Tryz.prog zh_e := yS (g := zh_g) (fn := Tryz.f34) yE yR (yB yOo (yB yR3 (yB yLA eNil))) (by kernel_rfl) (by kernel_rfl) (by kernel_rfl) (fun x y h => let ⟨n, hn⟩ := yP4 x.1 y h; ⟨yQQ n, iNil, (ySu n x).trans hn⟩)
abbrev zS_a : Ty := .pair t56 .unit
abbrev zS_r : Ty := .pair t45 .unit
def zS_g : G := { T := T, E := [zA_e], muts := [3], fz := [] }
def zS_k : List (List Nat) := [[3, 7, 8, 9]]
def yQc (n : Nat) : Ann := { keep := zS_k, fuel := n, inl := [], deep := 0 }
def yHu (n : Nat) (r0 : List Tra → Int → Int → List (List UInt8) → Option (List (List UInt8) × Unit)) (t7_0 : List Tra) (t8_0 : Int) (t9_0 : Int) (cs0_0 : List (List UInt8)) : Option (List (List UInt8) × Unit) :=
  (bif decide (t9_0 < t8_0) then (Option.bind (idx t7_0 t9_0) fun (v1 : Tra) => (Option.bind (zA_M cs0_0 v1.2.1) fun (v2 : Bool × Unit) => (bif !v2.1 then (bif decide (cs0_0.length + (1 : Nat) ≤ memMax) then r0 t7_0 t8_0 (IntKind.i64.wrap (t9_0 + 1)) (cs0_0 ++ [v1.2.1]) else none) else r0 t7_0 t8_0 (IntKind.i64.wrap (t9_0 + 1)) cs0_0))) else some (cs0_0, ()))
def y8y (n : Nat)  (k : Nat) (t7_0 : List Tra) (t8_0 : Int) (t9_0 : Int) (cs0_0 : List (List UInt8)) : Option (List (List UInt8) × Unit) :=
  iter (fun r y => yHu n (fun t7_0 t8_0 t9_0 cs0_0 => r ((t7_0, (t8_0, (t9_0, ()))), ((cs0_0, ()), ()))) y.1.1 y.1.2.1 y.1.2.2.1 y.2.1.1) k ((t7_0, (t8_0, (t9_0, ()))), ((cs0_0, ()), ()))
def zS_m (n : Nat) (c : Cha) : Option (List (List UInt8) × Unit) :=
  (y8y n n (c.2.1) ((↑c.2.1.length : Int)) ((0 : Int)) ([]))
theorem ySy (n : Nat) (x : zS_a.den) : runF zS_g (yQc n) Tryz.f50 zS_a zS_r x = zS_m n x.1 := by kernel_rfl
def yHf (t7_0 : List Tra) (t9_0 : Int) (v1 : Tra) (cs0_0 : List (List UInt8)) : Option ((List (List UInt8) × Unit) ⊕ (List (List UInt8))) :=
  (Option.bind (zA_M cs0_0 v1.2.1) fun (v2 : Bool × Unit) => (bif !v2.1 then (bif decide (cs0_0.length + (1 : Nat) ≤ memMax) then (some (Sum.inr (cs0_0 ++ [v1.2.1]))) else none) else (some (Sum.inr (cs0_0)))))
def yJj (t7_0 : List Tra) (cs0_0 : List (List UInt8)) : Option (List (List UInt8) × Unit) :=
  (some ((cs0_0, ())))
theorem yFy (n : Nat) (hn : big ≤ n)  (t7_0 : List Tra) (cs0_0 : List (List UInt8)) (hx : List.length (t7_0) < lenMax) : LeF some (yH (fun i__ e__ s__ => yHf t7_0 i__ e__ s__) (fun s__ => yJj t7_0 s__) 0 (t7_0) cs0_0) (y8y n n t7_0 (List.length (t7_0) : Int) 0 cs0_0) := by
  refine yK (f := some) (W := fun k__ i__ s__ => y8y n k__ t7_0 (List.length (t7_0) : Int) i__ s__) (body := (fun i__ e__ s__ => yHf t7_0 i__ e__ s__)) (fin := (fun s__ => yJj t7_0 s__)) (fun k__ i__ s__ => ?_) hx cs0_0 n (by unfold big at hn; unfold lenMax at hx; omega)
  show LeF _ _ (yHu n (y8y n k__) t7_0 (List.length (t7_0) : Int) i__ s__)
  exact y0 (y7 fun v1 => (y7 fun v2 => (y0 (y0 (y4 rfl) y08) (y4 rfl)))) (yu (y4 rfl))
def zS_M (c : Cha) : Option (List (List UInt8) × Unit) :=
  (bif decide (List.length (c.2.1) < lenMax) then yH (fun i__ e__ s__ => yHf (c.2.1) i__ e__ s__) (fun s__ => yJj (c.2.1) s__) 0 (c.2.1) ([]) else none)
theorem yS2 (c : Cha) (y : List (List UInt8) × Unit) (h : zS_M c = some y) : ∃ n, zS_m n c = some y :=
  ⟨big, LeF.top (show LeF some (zS_M c) (zS_m big c) from (fun (n : Nat) (hn : big ≤ n) => show LeF some (zS_M c) (zS_m n c) from (yL fun hx => by apply yFy n hn; exact hx)) big (Nat.le_refl _)) h⟩
def zS_e : Entry := { f := 50, args := zS_a, ress := zS_r, m := fun x => zS_M x.1 }
theorem yJ6 : FnOK Tryz.prog zS_e := yS (g := zS_g) (fn := Tryz.f50) yE yR (yB yU1 eNil) (by kernel_rfl) (by kernel_rfl) (by kernel_rfl) (fun x y h => let ⟨n, hn⟩ := yS2 x.1 y h; ⟨yQc n, iNil, (ySy n x).trans hn⟩)
abbrev zI_a : Ty := .pair t56 .unit
abbrev zI_r : Ty := .pair t42 .unit
def zI_g : G := { T := T, E := [zu_e, z0Y_e, z0Q_e, zG_e], muts := [12, 13], fz := [13] }
def zI_k : List (List Nat) := [[1, 3, 4, 15, 16, 17], [4, 60, 61, 62]]
def yNy (n : Nat) : Ann := { keep := zI_k, fuel := n, inl := [], deep := 0 }
def y9d (n : Nat) (r0 : Cha → List Sta → Int → Int → List (List UInt8 × Bool) → List (Int × List Int) → Option (Int × Unit)) (c1_0 : Cha) (t15_0 : List Sta) (t16_0 : Int) (t17_0 : Int) (m0_0 : List (List UInt8 × Bool)) (m1_0 : List (Int × List Int)) (v1 : Sta) : Option (Int × Unit) :=
  (bif y2Z (Ty.int IntKind.i64) v1.2.1 v1.2.1 then (bif decide (((yM (Ty.int IntKind.i64) (Ty.int IntKind.i64).slice m1_0 v1.2.1).getD []).length + (1 : Nat) ≤ memMax) then (bif y2Z (Ty.int IntKind.i64) v1.2.1 v1.2.1 then r0 c1_0 t15_0 t16_0 (IntKind.i64.wrap (t17_0 + 1)) (yp Ty.str Ty.bool m0_0 v1.1 Bool.true) (yp (Ty.int IntKind.i64) (Ty.int IntKind.i64).slice m1_0 v1.2.1 ((yM (Ty.int IntKind.i64) (Ty.int IntKind.i64).slice m1_0 v1.2.1).getD [] ++ [t17_0])) else none) else none) else none)
def yEE (n : Nat) (r20 : List (Int × List Int) → List Sta → Int → Int → Option (Int × Unit)) (children4_20 : List (Int × List Int)) (t60_20 : List Sta) (t61_20 : Int) (t62_20 : Int) : Option (Int × Unit) :=
  (bif decide (t62_20 < t61_20) then (Option.bind (idx t60_20 t62_20) fun (v21 : Sta) => (bif (↑((yM (Ty.int IntKind.i64) (Ty.int IntKind.i64).slice children4_20 t62_20).getD []).length : Int) == 0 then (bif v21.2.2.1 != (-1 : Int) then some ((1 : Int), ()) else (bif !(↑((yM (Ty.int IntKind.i64) (Ty.int IntKind.i64).slice children4_20 t62_20).getD []).length : Int) == 0 then (bif v21.2.2.2.1 then some ((1 : Int), ()) else (Option.bind (zG_M ((yM (Ty.int IntKind.i64) (Ty.int IntKind.i64).slice children4_20 t62_20).getD []) v21.2.2.1) fun (v22 : Bool × Unit) => (bif !v22.1 then some ((1 : Int), ()) else r20 children4_20 t60_20 t61_20 (IntKind.i64.wrap (t62_20 + 1))))) else r20 children4_20 t60_20 t61_20 (IntKind.i64.wrap (t62_20 + 1)))) else (bif !(↑((yM (Ty.int IntKind.i64) (Ty.int IntKind.i64).slice children4_20 t62_20).getD []).length : Int) == 0 then (bif v21.2.2.2.1 then some ((1 : Int), ()) else (Option.bind (zG_M ((yM (Ty.int IntKind.i64) (Ty.int IntKind.i64).slice children4_20 t62_20).getD []) v21.2.2.1) fun (v23 : Bool × Unit) => (bif !v23.1 then some ((1 : Int), ()) else r20 children4_20 t60_20 t61_20 (IntKind.i64.wrap (t62_20 + 1))))) else r20 children4_20 t60_20 t61_20 (IntKind.i64.wrap (t62_20 + 1))))) else some ((0 : Int), ()))
def y5y (n : Nat)  (k : Nat) (children4_20 : List (Int × List Int)) (t60_20 : List Sta) (t61_20 : Int) (t62_20 : Int) : Option (Int × Unit) :=
  iter (fun r y => yEE n (fun children4_20 t60_20 t61_20 t62_20 => r ((children4_20, (t60_20, (t61_20, (t62_20, ())))), ((), ()))) y.1.1 y.1.2.1 y.1.2.2.1 y.1.2.2.2.1) k ((children4_20, (t60_20, (t61_20, (t62_20, ())))), ((), ()))
def yHP (n : Nat) (r0 : Cha → List Sta → Int → Int → List (List UInt8 × Bool) → List (Int × List Int) → Option (Int × Unit)) (c1_0 : Cha) (t15_0 : List Sta) (t16_0 : Int) (t17_0 : Int) (m0_0 : List (List UInt8 × Bool)) (m1_0 : List (Int × List Int)) : Option (Int × Unit) :=
  (bif decide (t17_0 < t16_0) then (Option.bind (idx t15_0 t17_0) fun (v1 : Sta) => (Option.bind (zu_M v1.1) fun (v2 : Int × Unit) => (bif decide (v1.2.1 < (-1 : Int)) then (Option.bind (y0k [v2.1, (z0Y ((yM Ty.str Ty.bool m0_0 v1.1).getD Bool.false) (9 : Int)).1, (z0Y Bool.true (11 : Int)).1]) fun (v3 : Int × Unit) => (bif v3.1 != 0 then some (v3.1, ()) else (y9d n r0 c1_0 t15_0 t16_0 t17_0 m0_0 m1_0 v1))) else (Option.bind (y0k [v2.1, (z0Y ((yM Ty.str Ty.bool m0_0 v1.1).getD Bool.false) (9 : Int)).1, (z0Y (decide (v1.2.1 ≥ t17_0)) (11 : Int)).1]) fun (v4 : Int × Unit) => (bif v4.1 != 0 then some (v4.1, ()) else (y9d n r0 c1_0 t15_0 t16_0 t17_0 m0_0 m1_0 v1)))))) else (y5y n n (m1_0) (c1_0.1) ((↑c1_0.1.length : Int)) ((0 : Int))))
def y9E (n : Nat)  (k : Nat) (c1_0 : Cha) (t15_0 : List Sta) (t16_0 : Int) (t17_0 : Int) (m0_0 : List (List UInt8 × Bool)) (m1_0 : List (Int × List Int)) : Option (Int × Unit) :=
  iter (fun r y => yHP n (fun c1_0 t15_0 t16_0 t17_0 m0_0 m1_0 => r ((c1_0, (t15_0, (t16_0, (t17_0, ())))), ((m0_0, (m1_0, ())), ()))) y.1.1 y.1.2.1 y.1.2.2.1 y.1.2.2.2.1 y.2.1.1 y.2.1.2.1) k ((c1_0, (t15_0, (t16_0, (t17_0, ())))), ((m0_0, (m1_0, ())), ()))
def zI_m (n : Nat) (c : Cha) : Option (Int × Unit) :=
  (y9E n n (c) (c.1) ((↑c.1.length : Int)) ((0 : Int)) ([]) ([]))
theorem yTS (n : Nat) (x : zI_a.den) : runF zI_g (yNy n) Tryz.f67 zI_a zI_r x = zI_m n x.1 := by kernel_rfl
def y7q (c1_0 : Cha) (t15_0 : List Sta) (t17_0 : Int) (m0_0 : List (List UInt8 × Bool)) (m1_0 : List (Int × List Int)) (v1 : Sta) : Option ((Int × Unit) ⊕ ((List (List UInt8 × Bool)) × (List (Int × List Int)))) :=
  (bif y2Z (Ty.int IntKind.i64) v1.2.1 v1.2.1 then (bif decide (((yM (Ty.int IntKind.i64) (Ty.int IntKind.i64).slice m1_0 v1.2.1).getD []).length + (1 : Nat) ≤ memMax) then (bif y2Z (Ty.int IntKind.i64) v1.2.1 v1.2.1 then (some (Sum.inr ((yp Ty.str Ty.bool m0_0 v1.1 Bool.true), (yp (Ty.int IntKind.i64) (Ty.int IntKind.i64).slice m1_0 v1.2.1 ((yM (Ty.int IntKind.i64) (Ty.int IntKind.i64).slice m1_0 v1.2.1).getD [] ++ [t17_0]))))) else none) else none) else none)
theorem y0N (n : Nat) (hn : big ≤ n)  (r0 : Cha → List Sta → Int → Int → List (List UInt8 × Bool) → List (Int × List Int) → Option (Int × Unit)) (c1_0 : Cha) (t15_0 : List Sta) (t17_0 : Int) (m0_0 : List (List UInt8 × Bool)) (m1_0 : List (Int × List Int)) (v1 : Sta) : LeF (elim some fun (s__ : ((List (List UInt8 × Bool)) × (List (Int × List Int)))) => r0 c1_0 t15_0 (List.length (t15_0) : Int) (IntKind.i64.wrap (t17_0 + 1)) s__.1 s__.2) (y7q c1_0 t15_0 t17_0 m0_0 m1_0 v1) (y9d n r0 c1_0 t15_0 (List.length (t15_0) : Int) t17_0 m0_0 m1_0 v1) :=
  (y0 (y0 (y0 (y4 rfl) y08) y08) y08)
def y8T (children4_20 : List (Int × List Int)) (t60_20 : List Sta) (t62_20 : Int) (v21 : Sta) : Option ((Int × Unit) ⊕ Unit) :=
  (bif (↑((yM (Ty.int IntKind.i64) (Ty.int IntKind.i64).slice children4_20 t62_20).getD []).length : Int) == 0 then (bif v21.2.2.1 != (-1 : Int) then (some (Sum.inl (((1 : Int), ())))) else (bif !(↑((yM (Ty.int IntKind.i64) (Ty.int IntKind.i64).slice children4_20 t62_20).getD []).length : Int) == 0 then (bif v21.2.2.2.1 then (some (Sum.inl (((1 : Int), ())))) else (Option.bind (zG_M ((yM (Ty.int IntKind.i64) (Ty.int IntKind.i64).slice children4_20 t62_20).getD []) v21.2.2.1) fun (v22 : Bool × Unit) => (bif !v22.1 then (some (Sum.inl (((1 : Int), ())))) else (some (Sum.inr ()))))) else (some (Sum.inr ())))) else (bif !(↑((yM (Ty.int IntKind.i64) (Ty.int IntKind.i64).slice children4_20 t62_20).getD []).length : Int) == 0 then (bif v21.2.2.2.1 then (some (Sum.inl (((1 : Int), ())))) else (Option.bind (zG_M ((yM (Ty.int IntKind.i64) (Ty.int IntKind.i64).slice children4_20 t62_20).getD []) v21.2.2.1) fun (v23 : Bool × Unit) => (bif !v23.1 then (some (Sum.inl (((1 : Int), ())))) else (some (Sum.inr ()))))) else (some (Sum.inr ()))))
def yE8 (children4_20 : List (Int × List Int)) (t60_20 : List Sta) : Option (Int × Unit) :=
  (some (((0 : Int), ())))
theorem yC2 (n : Nat) (hn : big ≤ n)  (children4_20 : List (Int × List Int)) (t60_20 : List Sta) (hx : List.length (t60_20) < lenMax) : LeF some (yH (fun i__ e__ s__ => y8T children4_20 t60_20 i__ e__) (fun s__ => yE8 children4_20 t60_20) 0 (t60_20) ()) (y5y n n children4_20 t60_20 (List.length (t60_20) : Int) 0) := by
  refine yK (f := some) (W := fun k__ i__ s__ => y5y n k__ children4_20 t60_20 (List.length (t60_20) : Int) i__) (body := (fun i__ e__ s__ => y8T children4_20 t60_20 i__ e__)) (fin := (fun s__ => yE8 children4_20 t60_20)) (fun k__ i__ s__ => ?_) hx () n (by unfold big at hn; unfold lenMax at hx; omega)
  show LeF _ _ (yEE n (y5y n k__) children4_20 t60_20 (List.length (t60_20) : Int) i__)
  exact y0 (y7 fun v21 => (y0 (y0 (y4 rfl) (y0 (y0 (y4 rfl) (y7 fun v22 => (y0 (y4 rfl) (y4 rfl)))) (y4 rfl))) (y0 (y0 (y4 rfl) (y7 fun v23 => (y0 (y4 rfl) (y4 rfl)))) (y4 rfl)))) (yu (y4 rfl))
def y8s (c1_0 : Cha) (t15_0 : List Sta) (t17_0 : Int) (v1 : Sta) (m0_0 : List (List UInt8 × Bool)) (m1_0 : List (Int × List Int)) : Option ((Int × Unit) ⊕ ((List (List UInt8 × Bool)) × (List (Int × List Int)))) :=
  (Option.bind (zu_M v1.1) fun (v2 : Int × Unit) => (bif decide (v1.2.1 < (-1 : Int)) then (Option.bind (y0k [v2.1, (z0Y ((yM Ty.str Ty.bool m0_0 v1.1).getD Bool.false) (9 : Int)).1, (z0Y Bool.true (11 : Int)).1]) fun (v3 : Int × Unit) => (bif v3.1 != 0 then (some (Sum.inl ((v3.1, ())))) else (y7q c1_0 t15_0 t17_0 m0_0 m1_0 v1))) else (Option.bind (y0k [v2.1, (z0Y ((yM Ty.str Ty.bool m0_0 v1.1).getD Bool.false) (9 : Int)).1, (z0Y (decide (v1.2.1 ≥ t17_0)) (11 : Int)).1]) fun (v4 : Int × Unit) => (bif v4.1 != 0 then (some (Sum.inl ((v4.1, ())))) else (y7q c1_0 t15_0 t17_0 m0_0 m1_0 v1)))))
def yBw (c1_0 : Cha) (t15_0 : List Sta) (m0_0 : List (List UInt8 × Bool)) (m1_0 : List (Int × List Int)) : Option (Int × Unit) :=
  (bif decide (List.length (c1_0.1) < lenMax) then yH (fun i__ e__ s__ => y8T (m1_0) (c1_0.1) i__ e__) (fun s__ => yE8 (m1_0) (c1_0.1)) 0 (c1_0.1) () else none)
theorem yFV (n : Nat) (hn : big ≤ n)  (c1_0 : Cha) (t15_0 : List Sta) (m0_0 : List (List UInt8 × Bool)) (m1_0 : List (Int × List Int)) (hx : List.length (t15_0) < lenMax) : LeF some (yH (fun i__ e__ s__ => y8s c1_0 t15_0 i__ e__ s__.1 s__.2) (fun s__ => yBw c1_0 t15_0 s__.1 s__.2) 0 (t15_0) (m0_0, m1_0)) (y9E n n c1_0 t15_0 (List.length (t15_0) : Int) 0 m0_0 m1_0) := by
  refine yK (f := some) (W := fun k__ i__ s__ => y9E n k__ c1_0 t15_0 (List.length (t15_0) : Int) i__ s__.1 s__.2) (body := (fun i__ e__ s__ => y8s c1_0 t15_0 i__ e__ s__.1 s__.2)) (fin := (fun s__ => yBw c1_0 t15_0 s__.1 s__.2)) (fun k__ i__ s__ => ?_) hx (m0_0, m1_0) n (by unfold big at hn; unfold lenMax at hx; omega)
  show LeF _ _ (yHP n (y9E n k__) c1_0 t15_0 (List.length (t15_0) : Int) i__ s__.1 s__.2)
  exact y0 (y7 fun v1 => (y7 fun v2 => (y0 (y7 fun v3 => (y0 (y4 rfl) (by apply y0N n hn))) (y7 fun v4 => (y0 (y4 rfl) (by apply y0N n hn)))))) (yu (yL fun hx => by apply yC2 n hn; exact hx))
def zI_M (c : Cha) : Option (Int × Unit) :=
  (bif decide (List.length (c.1) < lenMax) then yH (fun i__ e__ s__ => y8s (c) (c.1) i__ e__ s__.1 s__.2) (fun s__ => yBw (c) (c.1) s__.1 s__.2) 0 (c.1) (([]), ([])) else none)
theorem yQ6 (c : Cha) (y : Int × Unit) (h : zI_M c = some y) : ∃ n, zI_m n c = some y :=
  ⟨big, LeF.top (show LeF some (zI_M c) (zI_m big c) from (fun (n : Nat) (hn : big ≤ n) => show LeF some (zI_M c) (zI_m n c) from (yL fun hx => by apply yFV n hn; exact hx)) big (Nat.le_refl _)) h⟩
def zI_e : Entry := { f := 67, args := zI_a, ress := zI_r, m := fun x => zI_M x.1 }
theorem ySW : FnOK Tryz.prog zI_e := yS (g := zI_g) (fn := Tryz.f67) yE yR (yB yKB (yB y3v (yB y2o (yB yM9 eNil)))) (by kernel_rfl) (by kernel_rfl) (by kernel_rfl) (fun x y h => let ⟨n, hn⟩ := yQ6 x.1 y h; ⟨yNy n, iNil, (yTS n x).trans hn⟩)
abbrev yLy : Ty := .pair t36 .unit
abbrev yP3 : Ty := .pair t102 (.pair t42 .unit)
def yRa : G := { T := T, E := [z0I_e, zu_e, z0Y_e, z0Q_e], muts := [13], fz := [] }
def ySQ : List (List Nat) := [[4, 14, 15, 16]]
def yKq (n : Nat) : Ann := { keep := ySQ, fuel := n, inl := [], deep := 0 }
def yDI (n : Nat) (r0 : List Cmd → Int → Int → List (Int × List UInt8) → Option (List (Int × List UInt8) × Int × Unit)) (t14_0 : List Cmd) (t15_0 : Int) (t16_0 : Int) (m0_0 : List (Int × List UInt8)) : Option (List (Int × List UInt8) × Int × Unit) :=
  (bif decide (t16_0 < t15_0) then (Option.bind (idx t14_0 t16_0) fun (v1 : Cmd) => (Option.bind (zu_M v1.2.2.1) fun (v2 : Int × Unit) => (bif (yM (Ty.int IntKind.i64) Ty.str m0_0 v1.1).isSome then (Option.bind (y0k [(z0I v1.1 (1 : Int) (999999999 : Int)).1, (z0I v1.2.1 (0 : Int) (1 : Int)).1, v2.1, (z0Y (!(yM (Ty.int IntKind.i64) Ty.str m0_0 v1.1).getD [] == v1.2.2.1) (30 : Int)).1]) fun (v3 : Int × Unit) => (bif v3.1 != 0 then some ([], v3.1, ()) else r0 t14_0 t15_0 (IntKind.i64.wrap (t16_0 + 1)) (yp (Ty.int IntKind.i64) Ty.str m0_0 v1.1 v1.2.2.1))) else (Option.bind (y0k [(z0I v1.1 (1 : Int) (999999999 : Int)).1, (z0I v1.2.1 (0 : Int) (1 : Int)).1, v2.1, (z0Y Bool.false (30 : Int)).1]) fun (v4 : Int × Unit) => (bif v4.1 != 0 then some ([], v4.1, ()) else r0 t14_0 t15_0 (IntKind.i64.wrap (t16_0 + 1)) (yp (Ty.int IntKind.i64) Ty.str m0_0 v1.1 v1.2.2.1)))))) else some (m0_0, (0 : Int), ()))
def y6I (n : Nat)  (k : Nat) (t14_0 : List Cmd) (t15_0 : Int) (t16_0 : Int) (m0_0 : List (Int × List UInt8)) : Option (List (Int × List UInt8) × Int × Unit) :=
  iter (fun r y => yDI n (fun t14_0 t15_0 t16_0 m0_0 => r ((t14_0, (t15_0, (t16_0, ()))), ((m0_0, ()), ()))) y.1.1 y.1.2.1 y.1.2.2.1 y.2.1.1) k ((t14_0, (t15_0, (t16_0, ()))), ((m0_0, ()), ()))
def yJ2 (n : Nat) (l : List Cmd) : Option (List (Int × List UInt8) × Int × Unit) :=
  (bif decide ((↑l.length : Int) > 256) then some ([], (5 : Int), ()) else (y6I n n (l) ((↑l.length : Int)) ((0 : Int)) ([])))
theorem yOH (n : Nat) (x : yLy.den) : runF yRa (yKq n) Tryz.f40 yLy yP3 x = yJ2 n x.1 := by kernel_rfl
def yIX (t14_0 : List Cmd) (t16_0 : Int) (v1 : Cmd) (m0_0 : List (Int × List UInt8)) : Option ((List (Int × List UInt8) × Int × Unit) ⊕ (List (Int × List UInt8))) :=
  (Option.bind (zu_M v1.2.2.1) fun (v2 : Int × Unit) => (bif (yM (Ty.int IntKind.i64) Ty.str m0_0 v1.1).isSome then (Option.bind (y0k [(z0I v1.1 (1 : Int) (999999999 : Int)).1, (z0I v1.2.1 (0 : Int) (1 : Int)).1, v2.1, (z0Y (!(yM (Ty.int IntKind.i64) Ty.str m0_0 v1.1).getD [] == v1.2.2.1) (30 : Int)).1]) fun (v3 : Int × Unit) => (bif v3.1 != 0 then (some (Sum.inl (([], v3.1, ())))) else (some (Sum.inr (yp (Ty.int IntKind.i64) Ty.str m0_0 v1.1 v1.2.2.1))))) else (Option.bind (y0k [(z0I v1.1 (1 : Int) (999999999 : Int)).1, (z0I v1.2.1 (0 : Int) (1 : Int)).1, v2.1, (z0Y Bool.false (30 : Int)).1]) fun (v4 : Int × Unit) => (bif v4.1 != 0 then (some (Sum.inl (([], v4.1, ())))) else (some (Sum.inr (yp (Ty.int IntKind.i64) Ty.str m0_0 v1.1 v1.2.2.1)))))))
def yHe (t14_0 : List Cmd) (m0_0 : List (Int × List UInt8)) : Option (List (Int × List UInt8) × Int × Unit) :=
  (some ((m0_0, (0 : Int), ())))
theorem yCD (n : Nat) (hn : big ≤ n)  (t14_0 : List Cmd) (m0_0 : List (Int × List UInt8)) (hx : List.length (t14_0) < lenMax) : LeF some (yH (fun i__ e__ s__ => yIX t14_0 i__ e__ s__) (fun s__ => yHe t14_0 s__) 0 (t14_0) m0_0) (y6I n n t14_0 (List.length (t14_0) : Int) 0 m0_0) := by
  refine yK (f := some) (W := fun k__ i__ s__ => y6I n k__ t14_0 (List.length (t14_0) : Int) i__ s__) (body := (fun i__ e__ s__ => yIX t14_0 i__ e__ s__)) (fin := (fun s__ => yHe t14_0 s__)) (fun k__ i__ s__ => ?_) hx m0_0 n (by unfold big at hn; unfold lenMax at hx; omega)
  show LeF _ _ (yDI n (y6I n k__) t14_0 (List.length (t14_0) : Int) i__ s__)
  exact y0 (y7 fun v1 => (y7 fun v2 => (y0 (y7 fun v3 => (y0 (y4 rfl) (y4 rfl))) (y7 fun v4 => (y0 (y4 rfl) (y4 rfl)))))) (yu (y4 rfl))
def yEK (l : List Cmd) : Option (List (Int × List UInt8) × Int × Unit) :=
  (bif decide ((↑l.length : Int) > 256) then (some (([], (5 : Int), ()))) else (bif decide (List.length (l) < lenMax) then yH (fun i__ e__ s__ => yIX (l) i__ e__ s__) (fun s__ => yHe (l) s__) 0 (l) ([]) else none))
theorem yM4 (l : List Cmd) (y : List (Int × List UInt8) × Int × Unit) (h : yEK l = some y) : ∃ n, yJ2 n l = some y :=
  ⟨big, LeF.top (show LeF some (yEK l) (yJ2 big l) from (fun (n : Nat) (hn : big ≤ n) => show LeF some (yEK l) (yJ2 n l) from (y0 (y4 rfl) (yL fun hx => by apply yCD n hn; exact hx))) big (Nat.le_refl _)) h⟩
def z0S_e : Entry := { f := 40, args := yLy, ress := yP3, m := fun x => yEK x.1 }
theorem yQd : FnOK Tryz.prog z0S_e := yS (g := yRa) (fn := Tryz.f40) yE yR (yB yEA (yB yKB (yB y3v (yB y2o eNil)))) (by kernel_rfl) (by kernel_rfl) (by kernel_rfl) (fun x y h => let ⟨n, hn⟩ := yM4 x.1 y h; ⟨yKq n, iNil, (yOH n x).trans hn⟩)
abbrev yLw : Ty := .pair t3 .unit
abbrev yPm : Ty := .pair t42 .unit
def yNa : G := { T := T, E := [z0I_e], muts := [], fz := [] }
def yTK : List (List Nat) := []
def yLR (n : Nat) : Ann := { keep := yTK, fuel := n, inl := [], deep := 0 }
def yKG (n : Nat) (n1 : Int) : Option (Int × Unit) :=
  some ((z0I n1 (0 : Int) (1000 : Int)).1, ())
theorem yRx (n : Nat) (x : yLw.den) : runF yNa (yLR n) Tryz.f61 yLw yPm x = yKG n x.1 := by kernel_rfl
def z0F (n1 : Int) : (Int × Unit) :=
  ((z0I n1 (0 : Int) (1000 : Int)).1, ())
abbrev yK0 (n1 : Int) : Option (Int × Unit) := some (z0F n1)
theorem yME (n1 : Int) (y : Int × Unit) (h : yK0 n1 = some y) : ∃ n, yKG n n1 = some y :=
  ⟨0, by rw [← h]; show yKG 0 n1 = some (z0F n1); unfold yKG z0F; first | rfl | (simp only [yI]; done) | (simp only [yI]; rfl)⟩
def z0F_e : Entry := { f := 61, args := yLw, ress := yPm, m := fun x => yK0 x.1 }
theorem yOU : FnOK Tryz.prog z0F_e := yS (g := yNa) (fn := Tryz.f61) yE yR (yB yEA eNil) (by kernel_rfl) (by kernel_rfl) (by kernel_rfl) (fun x y h => let ⟨n, hn⟩ := yME x.1 y h; ⟨yLR n, iNil, (yRx n x).trans hn⟩)
abbrev yNN : Ty := .pair t25 (.pair t4 .unit)
abbrev yNj : Ty := .pair t33 .unit
def yRj : G := { T := T, E := [z0C_e, z0D_e, z0N_e], muts := [5], fz := [] }
def yTI : List (List Nat) := [[1, 2, 5, 6, 7], [1, 2, 5, 6, 7, 8], [1, 2, 5, 6, 7, 8, 9]]
def yLW (n : Nat) : Ann := { keep := yTI, fuel := n, inl := [], deep := 0 }
def y1y (n : Nat) (r6 : Bool → Cha → List (List UInt8) → Int → Int → Int → List Cas → Option (List Cas × Unit)) (many1_6 : Bool) (c2_6 : Cha) (events6_6 : List (List UInt8)) (i7_6 : Int) (k8_6 : Int) (v9_6 : Int) (cs0_6 : List Cas) (j12 : Bool) : Option (List Cas × Unit) :=
  (bif j12 then (Option.bind (idx events6_6 k8_6) fun (v13 : List UInt8) => (bif decide (cs0_6.length + (1 : Nat) ≤ memMax) then r6 many1_6 c2_6 events6_6 i7_6 k8_6 (IntKind.i64.wrap (v9_6 + 1)) (cs0_6 ++ [(i7_6, v13, v9_6, ())]) else none)) else r6 many1_6 c2_6 events6_6 i7_6 k8_6 (IntKind.i64.wrap (v9_6 + 1)) cs0_6)
def yDF (n : Nat) (r2 : Bool → Cha → List (List UInt8) → Int → Int → List Cas → Option (List Cas × Unit)) (r6 : Bool → Cha → List (List UInt8) → Int → Int → Int → List Cas → Option (List Cas × Unit)) (many1_6 : Bool) (c2_6 : Cha) (events6_6 : List (List UInt8)) (i7_6 : Int) (k8_6 : Int) (v9_6 : Int) (cs0_6 : List Cas) : Option (List Cas × Unit) :=
  (bif decide (v9_6 < 16) then (Option.bind (idx events6_6 k8_6) fun (v7 : List UInt8) => (Option.bind (yBW c2_6 i7_6 (v7, v9_6, ())) fun (v8 : Int × Tra × Unit) => (bif decide (v8.1 > 1) then (bif many1_6 then (y1y n r6 many1_6 c2_6 events6_6 i7_6 k8_6 v9_6 cs0_6 (Bool.true)) else (bif v8.1 == 0 then (y1y n r6 many1_6 c2_6 events6_6 i7_6 k8_6 v9_6 cs0_6 (!many1_6)) else (y1y n r6 many1_6 c2_6 events6_6 i7_6 k8_6 v9_6 cs0_6 (Bool.false)))) else (bif v8.1 == 0 then (y1y n r6 many1_6 c2_6 events6_6 i7_6 k8_6 v9_6 cs0_6 (!many1_6)) else (y1y n r6 many1_6 c2_6 events6_6 i7_6 k8_6 v9_6 cs0_6 (Bool.false)))))) else r2 many1_6 c2_6 events6_6 i7_6 (IntKind.i64.wrap (k8_6 + 1)) cs0_6)
def y60 (n : Nat) (r2 : Bool → Cha → List (List UInt8) → Int → Int → List Cas → Option (List Cas × Unit)) (k : Nat) (many1_6 : Bool) (c2_6 : Cha) (events6_6 : List (List UInt8)) (i7_6 : Int) (k8_6 : Int) (v9_6 : Int) (cs0_6 : List Cas) : Option (List Cas × Unit) :=
  iter (fun r y => yDF n r2 (fun many1_6 c2_6 events6_6 i7_6 k8_6 v9_6 cs0_6 => r ((many1_6, (c2_6, (events6_6, (i7_6, (k8_6, (v9_6, ())))))), ((cs0_6, ()), ()))) y.1.1 y.1.2.1 y.1.2.2.1 y.1.2.2.2.1 y.1.2.2.2.2.1 y.1.2.2.2.2.2.1 y.2.1.1) k ((many1_6, (c2_6, (events6_6, (i7_6, (k8_6, (v9_6, ())))))), ((cs0_6, ()), ()))
def yE3 (n : Nat) (r1 : Bool → Cha → List (List UInt8) → Int → List Cas → Option (List Cas × Unit)) (r2 : Bool → Cha → List (List UInt8) → Int → Int → List Cas → Option (List Cas × Unit)) (many1_2 : Bool) (c2_2 : Cha) (events6_2 : List (List UInt8)) (i7_2 : Int) (k8_2 : Int) (cs0_2 : List Cas) : Option (List Cas × Unit) :=
  (Option.bind (yEf c2_2 i7_2) fun (v3 : Bool × Unit) => (bif v3.1 then (bif decide (k8_2 < (↑events6_2.length : Int)) then (y60 n r2 n (many1_2) (c2_2) (events6_2) (i7_2) (k8_2) ((0 : Int)) (cs0_2)) else r1 many1_2 c2_2 events6_2 (IntKind.i64.wrap (i7_2 + 1)) cs0_2) else r1 many1_2 c2_2 events6_2 (IntKind.i64.wrap (i7_2 + 1)) cs0_2))
def y6K (n : Nat) (r1 : Bool → Cha → List (List UInt8) → Int → List Cas → Option (List Cas × Unit)) (k : Nat) (many1_2 : Bool) (c2_2 : Cha) (events6_2 : List (List UInt8)) (i7_2 : Int) (k8_2 : Int) (cs0_2 : List Cas) : Option (List Cas × Unit) :=
  iter (fun r y => yE3 n r1 (fun many1_2 c2_2 events6_2 i7_2 k8_2 cs0_2 => r ((many1_2, (c2_2, (events6_2, (i7_2, (k8_2, ()))))), ((cs0_2, ()), ()))) y.1.1 y.1.2.1 y.1.2.2.1 y.1.2.2.2.1 y.1.2.2.2.2.1 y.2.1.1) k ((many1_2, (c2_2, (events6_2, (i7_2, (k8_2, ()))))), ((cs0_2, ()), ()))
def yE0 (n : Nat) (r1 : Bool → Cha → List (List UInt8) → Int → List Cas → Option (List Cas × Unit)) (many1_1 : Bool) (c2_1 : Cha) (events6_1 : List (List UInt8)) (i7_1 : Int) (cs0_1 : List Cas) : Option (List Cas × Unit) :=
  (bif decide (i7_1 < (↑c2_1.1.length : Int)) then (y6K n r1 n (many1_1) (c2_1) (events6_1) (i7_1) ((0 : Int)) (cs0_1)) else some (cs0_1, ()))
def y5r (n : Nat)  (k : Nat) (many1_1 : Bool) (c2_1 : Cha) (events6_1 : List (List UInt8)) (i7_1 : Int) (cs0_1 : List Cas) : Option (List Cas × Unit) :=
  iter (fun r y => yE0 n (fun many1_1 c2_1 events6_1 i7_1 cs0_1 => r ((many1_1, (c2_1, (events6_1, (i7_1, ())))), ((cs0_1, ()), ()))) y.1.1 y.1.2.1 y.1.2.2.1 y.1.2.2.2.1 y.2.1.1) k ((many1_1, (c2_1, (events6_1, (i7_1, ())))), ((cs0_1, ()), ()))
def yJ9 (n : Nat) (c : Cha) (many : Bool) : Option (List Cas × Unit) :=
  (Option.bind (y7M c) fun (v0 : List (List UInt8) × Unit) => (y5r n n (many) (c) (v0.1) ((0 : Int)) ([])))
theorem yNs (n : Nat) (x : yNN.den) : runF yRj (yLW n) Tryz.f35 yNN yNj x = yJ9 n x.1 x.2.1 := by kernel_rfl
def y34 (many1_6 : Bool) (c2_6 : Cha) (events6_6 : List (List UInt8)) (i7_6 : Int) (k8_6 : Int) (v9_6 : Int) (cs0_6 : List Cas) (j12 : Bool) : Option ((((List Cas × Unit) ⊕ (List Cas)) ⊕ (Int × (List Cas))) ⊕ (List Cas)) :=
  (bif j12 then (Option.bind (idx events6_6 k8_6) fun (v13 : List UInt8) => (bif decide (cs0_6.length + (1 : Nat) ≤ memMax) then (some (Sum.inr (cs0_6 ++ [(i7_6, v13, v9_6, ())]))) else none)) else (some (Sum.inr (cs0_6))))
theorem y0B (n : Nat) (hn : big ≤ n) (r1 : Bool → Cha → List (List UInt8) → Int → List Cas → Option (List Cas × Unit)) (r2 : Bool → Cha → List (List UInt8) → Int → Int → List Cas → Option (List Cas × Unit)) (r6 : Bool → Cha → List (List UInt8) → Int → Int → Int → List Cas → Option (List Cas × Unit)) (many1_6 : Bool) (c2_6 : Cha) (events6_6 : List (List UInt8)) (i7_6 : Int) (k8_6 : Int) (v9_6 : Int) (cs0_6 : List Cas) (j12 : Bool) : LeF (elim (elim (elim some fun (s__ : (List Cas)) => r1 many1_6 c2_6 events6_6 (IntKind.i64.wrap (i7_6 + 1)) s__) fun (s__ : (Int × (List Cas))) => r2 many1_6 c2_6 events6_6 i7_6 s__.1 s__.2) fun (s__ : (List Cas)) => r6 many1_6 c2_6 events6_6 i7_6 k8_6 (IntKind.i64.wrap (v9_6 + 1)) s__) (y34 many1_6 c2_6 events6_6 i7_6 k8_6 v9_6 cs0_6 j12) (y1y n r6 many1_6 c2_6 events6_6 i7_6 k8_6 v9_6 cs0_6 j12) :=
  (y0 (y7 fun v13 => (y0 (y4 rfl) y08)) (y4 rfl))
def y7p (many1_6 : Bool) (c2_6 : Cha) (events6_6 : List (List UInt8)) (i7_6 : Int) (k8_6 : Int) (v9_6 : Int) (cs0_6 : List Cas) : Option ((((List Cas × Unit) ⊕ (List Cas)) ⊕ (Int × (List Cas))) ⊕ (List Cas)) :=
  (Option.bind (idx events6_6 k8_6) fun (v7 : List UInt8) => (Option.bind (yBW c2_6 i7_6 (v7, v9_6, ())) fun (v8 : Int × Tra × Unit) => (bif decide (v8.1 > 1) then (bif many1_6 then (y34 many1_6 c2_6 events6_6 i7_6 k8_6 v9_6 cs0_6 (Bool.true)) else (bif v8.1 == 0 then (y34 many1_6 c2_6 events6_6 i7_6 k8_6 v9_6 cs0_6 (!many1_6)) else (y34 many1_6 c2_6 events6_6 i7_6 k8_6 v9_6 cs0_6 (Bool.false)))) else (bif v8.1 == 0 then (y34 many1_6 c2_6 events6_6 i7_6 k8_6 v9_6 cs0_6 (!many1_6)) else (y34 many1_6 c2_6 events6_6 i7_6 k8_6 v9_6 cs0_6 (Bool.false))))))
def yE9 (many1_6 : Bool) (c2_6 : Cha) (events6_6 : List (List UInt8)) (i7_6 : Int) (k8_6 : Int) (cs0_6 : List Cas) : Option (((List Cas × Unit) ⊕ (List Cas)) ⊕ (Int × (List Cas))) :=
  (some (Sum.inr ((IntKind.i64.wrap (k8_6 + 1)), (cs0_6))))
theorem yC6 (n : Nat) (hn : big ≤ n) (r1 : Bool → Cha → List (List UInt8) → Int → List Cas → Option (List Cas × Unit)) (r2 : Bool → Cha → List (List UInt8) → Int → Int → List Cas → Option (List Cas × Unit)) (many1_6 : Bool) (c2_6 : Cha) (events6_6 : List (List UInt8)) (i7_6 : Int) (k8_6 : Int) (cs0_6 : List Cas) (hx : ((16 : Int)) ≤ 9223372036854775807) : LeF (elim (elim some fun (s__ : (List Cas)) => r1 many1_6 c2_6 events6_6 (IntKind.i64.wrap (i7_6 + 1)) s__) fun (s__ : (Int × (List Cas))) => r2 many1_6 c2_6 events6_6 i7_6 s__.1 s__.2) (yy (fun i__ s__ => y7p many1_6 c2_6 events6_6 i7_6 k8_6 i__ s__) (fun s__ => yE9 many1_6 c2_6 events6_6 i7_6 k8_6 s__) (((16 : Int)) - 0).toNat 0 cs0_6) (y60 n r2 n many1_6 c2_6 events6_6 i7_6 k8_6 0 cs0_6) := by
  refine y1Q (f := (elim (elim some fun (s__ : (List Cas)) => r1 many1_6 c2_6 events6_6 (IntKind.i64.wrap (i7_6 + 1)) s__) fun (s__ : (Int × (List Cas))) => r2 many1_6 c2_6 events6_6 i7_6 s__.1 s__.2)) (W := fun k__ i__ s__ => y60 n r2 k__ many1_6 c2_6 events6_6 i7_6 k8_6 i__ s__) (body := (fun i__ s__ => y7p many1_6 c2_6 events6_6 i7_6 k8_6 i__ s__)) (fin := (fun s__ => yE9 many1_6 c2_6 events6_6 i7_6 k8_6 s__)) (fun k__ i__ s__ => ?_) hx cs0_6 n 0 (by decide) (by unfold big at hn; omega)
  show LeF _ _ (yDF n r2 (y60 n r2 k__) many1_6 c2_6 events6_6 i7_6 k8_6 i__ s__)
  exact y0 (y7 fun v7 => (y7 fun v8 => (y0 (y0 (by apply y0B n hn) (y0 (by apply y0B n hn) (by apply y0B n hn))) (y0 (by apply y0B n hn) (by apply y0B n hn))))) (yu (y4 rfl))
def y3x (many1_2 : Bool) (c2_2 : Cha) (events6_2 : List (List UInt8)) (i7_2 : Int) (k8_2 : Int) (cs0_2 : List Cas) : Option (((List Cas × Unit) ⊕ (List Cas)) ⊕ (Int × (List Cas))) :=
  (Option.bind (yEf c2_2 i7_2) fun (v3 : Bool × Unit) => (bif v3.1 then (bif decide (k8_2 < (↑events6_2.length : Int)) then (bif decide (((16 : Int)) ≤ 9223372036854775807) then yy (fun i__ s__ => y7p (many1_2) (c2_2) (events6_2) (i7_2) (k8_2) i__ s__) (fun s__ => yE9 (many1_2) (c2_2) (events6_2) (i7_2) (k8_2) s__) (((16 : Int)) - 0).toNat 0 (cs0_2) else none) else (some (Sum.inl (Sum.inr (cs0_2))))) else (some (Sum.inl (Sum.inr (cs0_2))))))
theorem yCe (n : Nat) (hn : big ≤ n)  (r1 : Bool → Cha → List (List UInt8) → Int → List Cas → Option (List Cas × Unit)) (many1_2 : Bool) (c2_2 : Cha) (events6_2 : List (List UInt8)) (i7_2 : Int) (k8_2 : Int) (cs0_2 : List Cas) : LeF (elim some fun (s__ : (List Cas)) => r1 many1_2 c2_2 events6_2 (IntKind.i64.wrap (i7_2 + 1)) s__) (y1N (fun s__ => y3x many1_2 c2_2 events6_2 i7_2 s__.1 s__.2) wMax (k8_2, cs0_2)) (y6K n r1 n many1_2 c2_2 events6_2 i7_2 k8_2 cs0_2) := by
  refine y3Z (f := (elim some fun (s__ : (List Cas)) => r1 many1_2 c2_2 events6_2 (IntKind.i64.wrap (i7_2 + 1)) s__)) (W := fun k__ s__ => y6K n r1 k__ many1_2 c2_2 events6_2 i7_2 s__.1 s__.2) (body := (fun s__ => y3x many1_2 c2_2 events6_2 i7_2 s__.1 s__.2)) (fun k__ s__ => ?_) wMax n (k8_2, cs0_2) (by unfold big at hn; unfold wMax; omega)
  show LeF _ _ (yE3 n r1 (y6K n r1 k__) many1_2 c2_2 events6_2 i7_2 s__.1 s__.2)
  exact (y7 fun v3 => (y0 (y0 (yL fun hx => by apply yC6 n hn; exact hx) (y4 rfl)) (y4 rfl)))
def y5g (many1_1 : Bool) (c2_1 : Cha) (events6_1 : List (List UInt8)) (i7_1 : Int) (cs0_1 : List Cas) : Option ((List Cas × Unit) ⊕ (List Cas)) :=
  (y1N (fun s__ => y3x (many1_1) (c2_1) (events6_1) (i7_1) s__.1 s__.2) wMax (((0 : Int)), (cs0_1)))
def yAP (many1_1 : Bool) (c2_1 : Cha) (events6_1 : List (List UInt8)) (cs0_1 : List Cas) : Option (List Cas × Unit) :=
  (some ((cs0_1, ())))
theorem yCa (n : Nat) (hn : big ≤ n)  (many1_1 : Bool) (c2_1 : Cha) (events6_1 : List (List UInt8)) (cs0_1 : List Cas) (hx : ((↑c2_1.1.length : Int)) ≤ 9223372036854775807) : LeF some (yy (fun i__ s__ => y5g many1_1 c2_1 events6_1 i__ s__) (fun s__ => yAP many1_1 c2_1 events6_1 s__) (((↑c2_1.1.length : Int)) - 0).toNat 0 cs0_1) (y5r n n many1_1 c2_1 events6_1 0 cs0_1) := by
  refine y1Q (f := some) (W := fun k__ i__ s__ => y5r n k__ many1_1 c2_1 events6_1 i__ s__) (body := (fun i__ s__ => y5g many1_1 c2_1 events6_1 i__ s__)) (fin := (fun s__ => yAP many1_1 c2_1 events6_1 s__)) (fun k__ i__ s__ => ?_) hx cs0_1 n 0 (by decide) (by unfold big at hn; omega)
  show LeF _ _ (yE0 n (y5r n k__) many1_1 c2_1 events6_1 i__ s__)
  exact y0 (by apply yCe n hn) (yu (y4 rfl))
def yCf (c : Cha) (many : Bool) : Option (List Cas × Unit) :=
  (Option.bind (y7M c) fun (v0 : List (List UInt8) × Unit) => (bif decide (((↑c.1.length : Int)) ≤ 9223372036854775807) then yy (fun i__ s__ => y5g (many) (c) (v0.1) i__ s__) (fun s__ => yAP (many) (c) (v0.1) s__) (((↑c.1.length : Int)) - 0).toNat 0 ([]) else none))
theorem yMe (c : Cha) (many : Bool) (y : List Cas × Unit) (h : yCf c many = some y) : ∃ n, yJ9 n c many = some y :=
  ⟨big, LeF.top (show LeF some (yCf c many) (yJ9 big c many) from (fun (n : Nat) (hn : big ≤ n) => show LeF some (yCf c many) (yJ9 n c many) from (y7 fun v0 => (yL fun hx => by apply yCa n hn; exact hx))) big (Nat.le_refl _)) h⟩
def z0M_e : Entry := { f := 35, args := yNN, ress := yNj, m := fun x => yCf x.1 x.2.1 }
theorem yON : FnOK Tryz.prog z0M_e := yS (g := yRj) (fn := Tryz.f35) yE yR (yB yLb (yB yR4 (yB yQT eNil))) (by kernel_rfl) (by kernel_rfl) (by kernel_rfl) (fun x y h => let ⟨n, hn⟩ := yMe x.1 x.2.1 y h; ⟨yLW n, iNil, (yNs n x).trans hn⟩)
abbrev zL_a : Ty := .pair t56 (.pair t37 .unit)
abbrev zL_r : Ty := .pair t42 .unit
def zL_g : G := { T := T, E := [zH_e, z0Y_e, zB_e, z0Q_e], muts := [], fz := [] }
def zL_k : List (List Nat) := []
def yQA (n : Nat) : Ann := { keep := zL_k, fuel := n, inl := [], deep := 0 }
def zL_m (n : Nat) (c : Cha) (l : List Int) : Option (Int × Unit) :=
  (Option.bind (zB_M l fun (x : Int × Unit) => zH_M x.1 c) fun (v0 : Bool × Unit) => (Option.bind (y0k [(z0Y (decide ((↑l.length : Int) > 16)) (5 : Int)).1, (z0Y v0.1 (10 : Int)).1]) fun (v1 : Int × Unit) => some (v1.1, ())))
theorem yTD (n : Nat) (x : zL_a.den) : runF zL_g (yQA n) Tryz.f54 zL_a zL_r x = zL_m n x.1 x.2.1 := by kernel_rfl
def zL_M (c : Cha) (l : List Int) : Option (Int × Unit) := zL_m 0 c l
theorem yNe (c : Cha) (l : List Int) (y : Int × Unit) (h : zL_M c l = some y) : ∃ n, zL_m n c l = some y := ⟨0, h⟩
def zL_e : Entry := { f := 54, args := zL_a, ress := zL_r, m := fun x => zL_M x.1 x.2.1 }
theorem yPd : FnOK Tryz.prog zL_e := yS (g := zL_g) (fn := Tryz.f54) yE yR (yB yU0 (yB y3v (yB yTq (yB y2o eNil)))) (by kernel_rfl) (by kernel_rfl) (by kernel_rfl) (fun x y h => let ⟨n, hn⟩ := yNe x.1 x.2.1 y h; ⟨yQA n, iNil, (yTD n x).trans hn⟩)
abbrev zN_a : Ty := .pair t3 .unit
abbrev zN_r : Ty := .pair t42 .unit
def zN_g : G := { T := T, E := [z0I_e], muts := [], fz := [] }
def zN_k : List (List Nat) := []
def yPf (n : Nat) : Ann := { keep := zN_k, fuel := n, inl := [], deep := 0 }
def zN_m (n : Nat) (n1 : Int) : Option (Int × Unit) :=
  some ((z0I n1 (0 : Int) (15 : Int)).1, ())
theorem yTd (n : Nat) (x : zN_a.den) : runF zN_g (yPf n) Tryz.f86 zN_a zN_r x = zN_m n x.1 := by kernel_rfl
def zN (n1 : Int) : (Int × Unit) :=
  ((z0I n1 (0 : Int) (15 : Int)).1, ())
abbrev zN_M (n1 : Int) : Option (Int × Unit) := some (zN n1)
theorem yPG (n1 : Int) (y : Int × Unit) (h : zN_M n1 = some y) : ∃ n, zN_m n n1 = some y :=
  ⟨0, by rw [← h]; show zN_m 0 n1 = some (zN n1); unfold zN_m zN; first | rfl | (simp only [yI]; done) | (simp only [yI]; rfl)⟩
def zN_e : Entry := { f := 86, args := zN_a, ress := zN_r, m := fun x => zN_M x.1 }
theorem yRs : FnOK Tryz.prog zN_e := yS (g := zN_g) (fn := Tryz.f86) yE yR (yB yEA eNil) (by kernel_rfl) (by kernel_rfl) (by kernel_rfl) (fun x y h => let ⟨n, hn⟩ := yPG x.1 y h; ⟨yPf n, iNil, (yTd n x).trans hn⟩)
abbrev zU_a : Ty := .pair t97 (.pair (.ref t3) (.pair (.ref t51) .unit))
abbrev zU_r : Ty := .pair t4 .unit
def zU_g : G := { T := T, E := [zQ_e], muts := [], fz := [] }
def zU_k : List (List Nat) := []
def yOI (n : Nat) : Ann := { keep := zU_k, fuel := n, inl := [], deep := 0 }
def zU_m (n : Nat) (t : Tra) (p1 : Int) (p2 : List UInt8 × Int × Unit) : Option (Bool × Unit) :=
  (bif t.1 == p1 then (bif t.2.1 == p2.1 then some ((zQ t p2.2.1).1, ()) else some (Bool.false, ())) else some (Bool.false, ()))
theorem ySB (n : Nat) (x : zU_a.den) : runF zU_g (yOI n) Tryz.f89 zU_a zU_r x = zU_m n x.1 x.2.1 x.2.2.1 := by kernel_rfl
def zU (t : Tra) (p1 : Int) (p2 : List UInt8 × Int × Unit) : (Bool × Unit) :=
  (bif t.1 == p1 then (bif t.2.1 == p2.1 then ((zQ t p2.2.1).1, ()) else (Bool.false, ())) else (Bool.false, ()))
abbrev zU_M (t : Tra) (p1 : Int) (p2 : List UInt8 × Int × Unit) : Option (Bool × Unit) := some (zU t p1 p2)
theorem yRY (t : Tra) (p1 : Int) (p2 : List UInt8 × Int × Unit) (y : Bool × Unit) (h : zU_M t p1 p2 = some y) : ∃ n, zU_m n t p1 p2 = some y :=
  ⟨0, by rw [← h]; show zU_m 0 t p1 p2 = some (zU t p1 p2); unfold zU_m zU; first | rfl | (simp only [yI]; done) | (simp only [yI]; rfl)⟩
def zU_e : Entry := { f := 89, args := zU_a, ress := zU_r, m := fun x => zU_M x.1 x.2.1 x.2.2.1 }
theorem ySs : FnOK Tryz.prog zU_e := yS (g := zU_g) (fn := Tryz.f89) yE yR (yB ySX eNil) (by kernel_rfl) (by kernel_rfl) (by kernel_rfl) (fun x y h => let ⟨n, hn⟩ := yRY x.1 x.2.1 x.2.2.1 y h; ⟨yOI n, iNil, (ySB n x).trans hn⟩)
abbrev zX_a : Ty := .pair t75 .unit
abbrev zX_r : Ty := .pair t144 (.pair t4 .unit)
def zX_g : G := { T := T, E := [z0R_e], muts := [], fz := [] }
def zX_k : List (List Nat) := [[1, 2, 6, 7]]
def yPh (n : Nat) : Ann := { keep := zX_k, fuel := n, inl := [], deep := 0 }
def yIf (n : Nat) (r0 : Fai → List (List UInt8 × (Fai × Unit → Option (Fai × Unit)) × (Fai × Int × (List UInt8 × Int × Unit) × Unit → Option ((List UInt8 × Int × Unit) × Bool × Unit)) × Unit) → Int → List UInt8 → Option ((List UInt8 × (Fai × Unit → Option (Fai × Unit)) × (Fai × Int × (List UInt8 × Int × Unit) × Unit → Option ((List UInt8 × Int × Unit) × Bool × Unit)) × Unit) × Bool × Unit)) (f1_0 : Fai) (t6_0 : List (List UInt8 × (Fai × Unit → Option (Fai × Unit)) × (Fai × Int × (List UInt8 × Int × Unit) × Unit → Option ((List UInt8 × Int × Unit) × Bool × Unit)) × Unit)) (t7_0 : Int) (b0_0_0 : List UInt8) : Option ((List UInt8 × (Fai × Unit → Option (Fai × Unit)) × (Fai × Int × (List UInt8 × Int × Unit) × Unit → Option ((List UInt8 × Int × Unit) × Bool × Unit)) × Unit) × Bool × Unit) :=
  (bif decide (t7_0 < 3) then (Option.bind (idx t6_0 t7_0) fun (v1 : List UInt8 × (Fai × Unit → Option (Fai × Unit)) × (Fai × Int × (List UInt8 × Int × Unit) × Unit → Option ((List UInt8 × Int × Unit) × Bool × Unit)) × Unit) => (bif v1.1 == f1_0.1 then some ((v1.1, v1.2.1, v1.2.2.1, ()), Bool.true, ()) else r0 f1_0 t6_0 (IntKind.i64.wrap (t7_0 + 1)) b0_0_0)) else some (([], fun (x : Fai × Unit) => Option.none, fun (x : Fai × Int × (List UInt8 × Int × Unit) × Unit) => Option.none, ()), Bool.false, ()))
def y9Q (n : Nat)  (k : Nat) (f1_0 : Fai) (t6_0 : List (List UInt8 × (Fai × Unit → Option (Fai × Unit)) × (Fai × Int × (List UInt8 × Int × Unit) × Unit → Option ((List UInt8 × Int × Unit) × Bool × Unit)) × Unit)) (t7_0 : Int) (b0_0_0 : List UInt8) : Option ((List UInt8 × (Fai × Unit → Option (Fai × Unit)) × (Fai × Int × (List UInt8 × Int × Unit) × Unit → Option ((List UInt8 × Int × Unit) × Bool × Unit)) × Unit) × Bool × Unit) :=
  iter (fun r y => yIf n (fun f1_0 t6_0 t7_0 b0_0_0 => r ((f1_0, (t6_0, (t7_0, ()))), (((b0_0_0, ()), ()), ()))) y.1.1 y.1.2.1 y.1.2.2.1 y.2.1.1.1) k ((f1_0, (t6_0, (t7_0, ()))), (((b0_0_0, ()), ()), ()))
def zX_m (n : Nat) (f : Fai) : Option ((List UInt8 × (Fai × Unit → Option (Fai × Unit)) × (Fai × Int × (List UInt8 × Int × Unit) × Unit → Option ((List UInt8 × Int × Unit) × Bool × Unit)) × Unit) × Bool × Unit) :=
  (y9Q n n (f) (z0R.1) ((0 : Int)) ([]))
theorem ySt (n : Nat) (x : zX_a.den) : runF zX_g (yPh n) Tryz.f73 zX_a zX_r x = zX_m n x.1 := by kernel_rfl
def yFn (f1_0 : Fai) (t6_0 : List (List UInt8 × (Fai × Unit → Option (Fai × Unit)) × (Fai × Int × (List UInt8 × Int × Unit) × Unit → Option ((List UInt8 × Int × Unit) × Bool × Unit)) × Unit)) (b0_0_0 : List UInt8) (t7_0 : Int) : Option (((List UInt8 × (Fai × Unit → Option (Fai × Unit)) × (Fai × Int × (List UInt8 × Int × Unit) × Unit → Option ((List UInt8 × Int × Unit) × Bool × Unit)) × Unit) × Bool × Unit) ⊕ Unit) :=
  (Option.bind (idx t6_0 t7_0) fun (v1 : List UInt8 × (Fai × Unit → Option (Fai × Unit)) × (Fai × Int × (List UInt8 × Int × Unit) × Unit → Option ((List UInt8 × Int × Unit) × Bool × Unit)) × Unit) => (bif v1.1 == f1_0.1 then (some (Sum.inl (((v1.1, v1.2.1, v1.2.2.1, ()), Bool.true, ())))) else (some (Sum.inr ()))))
def yKF (f1_0 : Fai) (t6_0 : List (List UInt8 × (Fai × Unit → Option (Fai × Unit)) × (Fai × Int × (List UInt8 × Int × Unit) × Unit → Option ((List UInt8 × Int × Unit) × Bool × Unit)) × Unit)) (b0_0_0 : List UInt8) : Option ((List UInt8 × (Fai × Unit → Option (Fai × Unit)) × (Fai × Int × (List UInt8 × Int × Unit) × Unit → Option ((List UInt8 × Int × Unit) × Bool × Unit)) × Unit) × Bool × Unit) :=
  (some ((([], fun (x : Fai × Unit) => Option.none, fun (x : Fai × Int × (List UInt8 × Int × Unit) × Unit) => Option.none, ()), Bool.false, ())))
theorem yEs (n : Nat) (hn : big ≤ n)  (f1_0 : Fai) (t6_0 : List (List UInt8 × (Fai × Unit → Option (Fai × Unit)) × (Fai × Int × (List UInt8 × Int × Unit) × Unit → Option ((List UInt8 × Int × Unit) × Bool × Unit)) × Unit)) (b0_0_0 : List UInt8) (hx : ((3 : Int)) ≤ 9223372036854775807) : LeF some (yy (fun i__ s__ => yFn f1_0 t6_0 b0_0_0 i__) (fun s__ => yKF f1_0 t6_0 b0_0_0) (((3 : Int)) - 0).toNat 0 ()) (y9Q n n f1_0 t6_0 0 b0_0_0) := by
  refine y1Q (f := some) (W := fun k__ i__ s__ => y9Q n k__ f1_0 t6_0 i__ b0_0_0) (body := (fun i__ s__ => yFn f1_0 t6_0 b0_0_0 i__)) (fin := (fun s__ => yKF f1_0 t6_0 b0_0_0)) (fun k__ i__ s__ => ?_) hx () n 0 (by decide) (by unfold big at hn; omega)
  show LeF _ _ (yIf n (y9Q n k__) f1_0 t6_0 i__ b0_0_0)
  exact y0 (y7 fun v1 => (y0 (y4 rfl) (y4 rfl))) (yu (y4 rfl))
def zX_M (f : Fai) : Option ((List UInt8 × (Fai × Unit → Option (Fai × Unit)) × (Fai × Int × (List UInt8 × Int × Unit) × Unit → Option ((List UInt8 × Int × Unit) × Bool × Unit)) × Unit) × Bool × Unit) :=
  (bif decide (((3 : Int)) ≤ 9223372036854775807) then yy (fun i__ s__ => yFn (f) (z0R.1) ([]) i__) (fun s__ => yKF (f) (z0R.1) ([])) (((3 : Int)) - 0).toNat 0 () else none)
theorem yOh (f : Fai) (y : (List UInt8 × (Fai × Unit → Option (Fai × Unit)) × (Fai × Int × (List UInt8 × Int × Unit) × Unit → Option ((List UInt8 × Int × Unit) × Bool × Unit)) × Unit) × Bool × Unit) (h : zX_M f = some y) : ∃ n, zX_m n f = some y :=
  ⟨big, LeF.top (show LeF some (zX_M f) (zX_m big f) from (fun (n : Nat) (hn : big ≤ n) => show LeF some (zX_M f) (zX_m n f) from (yL fun hx => by apply yEs n hn; exact hx)) big (Nat.le_refl _)) h⟩
def zX_e : Entry := { f := 73, args := zX_a, ress := zX_r, m := fun x => zX_M x.1 }
theorem yRL : FnOK Tryz.prog zX_e := yS (g := zX_g) (fn := Tryz.f73) yE yR (yB yRf eNil) (by kernel_rfl) (by kernel_rfl) (by kernel_rfl) (fun x y h => let ⟨n, hn⟩ := yOh x.1 y h; ⟨yPh n, iNil, (ySt n x).trans hn⟩)
end
end Go.Tw
end
