import Derived.Test.YtclcodeedopemaaGreatBT
import Derived.Test.YtclcodeedopemaaGreatB0
import Derived.Test.YtclcodeedopemaaGreatBS
import Derived.Test.YtclcodeedopemaaGreatLP
import Derived.Test.YtclcodeedopemaaGreatBA
section
set_option linter.all false
set_option maxRecDepth 1000000
namespace Go.Tw
open Go.Vx Go.Vx.B Go.Proofs
noncomputable section
abbrev yKS : Ty := .pair t25 .unit
abbrev yOf : Ty := .pair t45 .unit
def yN7 : G := { T := T, E := [zq_e], muts := [3], fz := [] }
def yPI : List (List Nat) := [[1, 3, 4]]
def yIv (n : Nat) : Ann := { keep := yPI, fuel := n, inl := [], deep := 0 }
def yCw (n : Nat) (r0 : Cha → Int → List (List UInt8) → Option (List (List UInt8) × Unit)) (c1_0 : Cha) (i4_0 : Int) (cs0_0 : List (List UInt8)) : Option (List (List UInt8) × Unit) :=
  (bif decide (i4_0 < (↑c1_0.2.1.length : Int)) then (Option.bind (idx c1_0.2.1 i4_0) fun (v1 : Tra) => (Option.bind (zq_M cs0_0 v1.2.1) fun (v2 : Bool × Unit) => (bif !v2.1 then (Option.bind (idx c1_0.2.1 i4_0) fun (v3 : Tra) => (bif decide (cs0_0.length + (1 : Nat) ≤ memMax) then r0 c1_0 (IntKind.i64.wrap (i4_0 + 1)) (cs0_0 ++ [v3.2.1]) else none)) else r0 c1_0 (IntKind.i64.wrap (i4_0 + 1)) cs0_0))) else some (cs0_0, ()))
def y5h (n : Nat)  (k : Nat) (c1_0 : Cha) (i4_0 : Int) (cs0_0 : List (List UInt8)) : Option (List (List UInt8) × Unit) :=
  iter (fun r y => yCw n (fun c1_0 i4_0 cs0_0 => r ((c1_0, (i4_0, ())), ((cs0_0, ()), ()))) y.1.1 y.1.2.1 y.2.1.1) k ((c1_0, (i4_0, ())), ((cs0_0, ()), ()))
def yIk (n : Nat) (c : Cha) : Option (List (List UInt8) × Unit) :=
  (y5h n n (c) ((0 : Int)) ([]))
theorem yNN (n : Nat) (x : yKS.den) : runF yN7 (yIv n) Tryz.f33 yKS yOf x = yIk n x.1 := by kernel_rfl
def y9u (c1_0 : Cha) (i4_0 : Int) (v1 : Tra) (cs0_0 : List (List UInt8)) : Option ((List (List UInt8) × Unit) ⊕ (List (List UInt8))) :=
  (Option.bind (zq_M cs0_0 v1.2.1) fun (v2 : Bool × Unit) => (bif !v2.1 then (Option.bind (idx c1_0.2.1 i4_0) fun (v3 : Tra) => (bif decide (cs0_0.length + (1 : Nat) ≤ memMax) then (some (Sum.inr (cs0_0 ++ [v3.2.1]))) else none)) else (some (Sum.inr (cs0_0)))))
def yD8 (c1_0 : Cha) (cs0_0 : List (List UInt8)) : Option (List (List UInt8) × Unit) :=
  (some ((cs0_0, ())))
theorem yC2 (n : Nat) (hn : big ≤ n)  (c1_0 : Cha) (cs0_0 : List (List UInt8)) (hx : List.length (c1_0.2.1) < lenMax) : LeF some (yE (fun i__ e__ s__ => y9u c1_0 i__ e__ s__) (fun s__ => yD8 c1_0 s__) 0 (c1_0.2.1) cs0_0) (y5h n n c1_0 0 cs0_0) := by
  refine yL (f := some) (W := fun k__ i__ s__ => y5h n k__ c1_0 i__ s__) (body := (fun i__ e__ s__ => y9u c1_0 i__ e__ s__)) (fin := (fun s__ => yD8 c1_0 s__)) (fun k__ i__ s__ => ?_) hx cs0_0 n (by unfold big at hn; unfold lenMax at hx; omega)
  show LeF _ _ (yCw n (y5h n k__) c1_0 i__ s__)
  exact y3 (y8 fun v1 => (y8 fun v2 => (y3 (y8 fun v3 => (y3 (y5 rfl) yr)) (y5 rfl)))) (yw (y5 rfl))
def y7P (c : Cha) : Option (List (List UInt8) × Unit) :=
  (bif decide (List.length (c.2.1) < lenMax) then yE (fun i__ e__ s__ => y9u (c) i__ e__ s__) (fun s__ => yD8 (c) s__) 0 (c.2.1) ([]) else none)
theorem yKv (c : Cha) (y : List (List UInt8) × Unit) (h : y7P c = some y) : ∃ n, yIk n c = some y :=
  ⟨big, LeF.top (show LeF some (y7P c) (yIk big c) from (fun (n : Nat) (hn : big ≤ n) => show LeF some (y7P c) (yIk n c) from (yK fun hx => by apply yC2 n hn; exact hx)) big (Nat.le_refl _)) h⟩
def z02_e : Entry := { f := 33, args := yKS, ress := yOf, m := fun x => y7P x.1 }
theorem yJU : FnOK Tryz.prog z02_e := yW (g := yN7) (fn := Tryz.f33) yD yV (yH yPy eNil) (by kernel_rfl) (by kernel_rfl) (by kernel_rfl) (fun x y h => let ⟨n, hn⟩ := yKv x.1 y h; ⟨yIv n, iNil, (yNN n x).trans hn⟩)
abbrev zi_a : Ty := .pair t9 .unit
abbrev zi_r : Ty := .pair t3 .unit
def zi_g : G := { T := T, E := [z01_e], muts := [], fz := [] }
def zi_k : List (List Nat) := []
def yNL (n : Nat) : Ann := { keep := zi_k, fuel := n, inl := [], deep := 0 }
def zi_m (n : Nat) (s : List UInt8) : Option (Int × Unit) :=
  (Option.bind (yBe s) fun (v0 : Bool × Unit) => (bif !v0.1 then some ((8 : Int), ()) else some ((0 : Int), ())))
theorem yQP (n : Nat) (x : zi_a.den) : runF zi_g (yNL n) Tryz.f28 zi_a zi_r x = zi_m n x.1 := by kernel_rfl
def zi_M (s : List UInt8) : Option (Int × Unit) := zi_m 0 s
theorem yN0 (s : List UInt8) (y : Int × Unit) (h : zi_M s = some y) : ∃ n, zi_m n s = some y := ⟨0, h⟩
def zi_e : Entry := { f := 28, args := zi_a, ress := zi_r, m := fun x => zi_M x.1 }
theorem yOH : FnOK Tryz.prog zi_e := yW (g := zi_g) (fn := Tryz.f28) yD yV (yH yOh eNil) (by kernel_rfl) (by kernel_rfl) (by kernel_rfl) (fun x y h => let ⟨n, hn⟩ := yN0 x.1 y h; ⟨yNL n, iNil, (yQP n x).trans hn⟩)
abbrev yKW : Ty := .pair t3 (.pair t3 (.pair t3 .unit))
abbrev yO1 : Ty := .pair t42 .unit
def yNQ : G := { T := T, E := [z0L_e], muts := [], fz := [] }
def yQE : List (List Nat) := []
def yIy (n : Nat) : Ann := { keep := yQE, fuel := n, inl := [], deep := 0 }
def yIS (n : Nat) (n1 : Int) (least : Int) (most : Int) : Option (Int × Unit) :=
  (bif decide (n1 < least) then some ((z0L Bool.true (3 : Int)).1, ()) else some ((z0L (decide (n1 > most)) (3 : Int)).1, ()))
theorem yOJ (n : Nat) (x : yKW.den) : runF yNQ (yIy n) Tryz.f42 yKW yO1 x = yIS n x.1 x.2.1 x.2.2.1 := by kernel_rfl
def z07 (n1 : Int) (least : Int) (most : Int) : (Int × Unit) :=
  (bif decide (n1 < least) then ((z0L Bool.true (3 : Int)).1, ()) else ((z0L (decide (n1 > most)) (3 : Int)).1, ()))
abbrev yLl (n1 : Int) (least : Int) (most : Int) : Option (Int × Unit) := some (z07 n1 least most)
theorem yL7 (n1 : Int) (least : Int) (most : Int) (y : Int × Unit) (h : yLl n1 least most = some y) : ∃ n, yIS n n1 least most = some y :=
  ⟨0, by rw [← h]; show yIS 0 n1 least most = some (z07 n1 least most); unfold yIS z07; first | rfl | (simp only [yG]; done) | (simp only [yG]; rfl)⟩
def z07_e : Entry := { f := 42, args := yKW, ress := yO1, m := fun x => yLl x.1 x.2.1 x.2.2.1 }
theorem yCd : FnOK Tryz.prog z07_e := yW (g := yNQ) (fn := Tryz.f42) yD yV (yH y5H eNil) (by kernel_rfl) (by kernel_rfl) (by kernel_rfl) (fun x y h => let ⟨n, hn⟩ := yL7 x.1 x.2.1 x.2.2.1 y h; ⟨yIy n, iNil, (yOJ n x).trans hn⟩)
abbrev zl_a : Ty := .pair t73 (.pair t110 (.pair (.ref t56) .unit))
abbrev zl_r : Ty := .pair t4 .unit
def zl_g : G := { T := T, E := [z06_e], muts := [], fz := [] }
def zl_k : List (List Nat) := []
def yO6 (n : Nat) : Ann := { keep := zl_k, fuel := n, inl := [], deep := 0 }
def zl_m (n : Nat) (x1 : Cas) (o : Int × Bool × Bool × Unit) (p2 : Cha) : Option (Bool × Unit) :=
  (bif yb IntKind.i64 Go.BinOp.and x1.2.2.1 (1 : Int) != 0 then (bif !o.2.2.1 then (Option.bind (idx p2.1 o.1) fun (v0 : Sta) => some (v0.2.2.2.1, ())) else some (Bool.false, ())) else some (Bool.false, ()))
theorem yQV (n : Nat) (x : zl_a.den) : runF zl_g (yO6 n) Tryz.f46 zl_a zl_r x = zl_m n x.1 x.2.1 x.2.2.1 := by kernel_rfl
def zl_M (x1 : Cas) (o : Int × Bool × Bool × Unit) (p2 : Cha) : Option (Bool × Unit) := zl_m 0 x1 o p2
theorem yNW (x1 : Cas) (o : Int × Bool × Bool × Unit) (p2 : Cha) (y : Bool × Unit) (h : zl_M x1 o p2 = some y) : ∃ n, zl_m n x1 o p2 = some y := ⟨0, h⟩
def zl_e : Entry := { f := 46, args := zl_a, ress := zl_r, m := fun x => zl_M x.1 x.2.1 x.2.2.1 }
theorem yPW : FnOK Tryz.prog zl_e := yW (g := zl_g) (fn := Tryz.f46) yD yV (yH yJD eNil) (by kernel_rfl) (by kernel_rfl) (by kernel_rfl) (fun x y h => let ⟨n, hn⟩ := yNW x.1 x.2.1 x.2.2.1 y h; ⟨yO6 n, iNil, (yQV n x).trans hn⟩)
abbrev zE_a : Ty := .pair t37 (.pair t3 .unit)
abbrev zE_r : Ty := .pair t4 .unit
def zE_g : G := { T := T, E := [zK_e], muts := [], fz := [] }
def zE_k : List (List Nat) := []
def yOM (n : Nat) : Ann := { keep := zE_k, fuel := n, inl := [], deep := 0 }
def zE_m (n : Nat) (s : List Int) (v : Int) : Option (Bool × Unit) :=
  (Option.bind (zK_M s v) fun (v0 : Int × Unit) => some (decide (v0.1 ≥ 0), ()))
theorem yQA (n : Nat) (x : zE_a.den) : runF zE_g (yOM n) Tryz.f56 zE_a zE_r x = zE_m n x.1 x.2.1 := by kernel_rfl
def zE_M (s : List Int) (v : Int) : Option (Bool × Unit) := zE_m 0 s v
theorem yNw (s : List Int) (v : Int) (y : Bool × Unit) (h : zE_M s v = some y) : ∃ n, zE_m n s v = some y := ⟨0, h⟩
def zE_e : Entry := { f := 56, args := zE_a, ress := zE_r, m := fun x => zE_M x.1 x.2.1 }
theorem yPt : FnOK Tryz.prog zE_e := yW (g := zE_g) (fn := Tryz.f56) yD yV (yH yPj eNil) (by kernel_rfl) (by kernel_rfl) (by kernel_rfl) (fun x y h => let ⟨n, hn⟩ := yNw x.1 x.2.1 y h; ⟨yOM n, iNil, (yQA n x).trans hn⟩)
abbrev zA_a : Ty := .pair t45 (.pair t9 .unit)
abbrev zA_r : Ty := .pair t4 .unit
def zA_g : G := { T := T, E := [zB_e], muts := [], fz := [] }
def zA_k : List (List Nat) := []
def yMq (n : Nat) : Ann := { keep := zA_k, fuel := n, inl := [], deep := 0 }
def zA_m (n : Nat) (s : List (List UInt8)) (v : List UInt8) : Option (Bool × Unit) :=
  (Option.bind (zB_M s v) fun (v0 : Int × Unit) => some (decide (v0.1 ≥ 0), ()))
theorem yPm (n : Nat) (x : zA_a.den) : runF zA_g (yMq n) Tryz.f79 zA_a zA_r x = zA_m n x.1 x.2.1 := by kernel_rfl
def zA_M (s : List (List UInt8)) (v : List UInt8) : Option (Bool × Unit) := zA_m 0 s v
theorem yLb (s : List (List UInt8)) (v : List UInt8) (y : Bool × Unit) (h : zA_M s v = some y) : ∃ n, zA_m n s v = some y := ⟨0, h⟩
def zA_e : Entry := { f := 79, args := zA_a, ress := zA_r, m := fun x => zA_M x.1 x.2.1 }
theorem yPo : FnOK Tryz.prog zA_e := yW (g := zA_g) (fn := Tryz.f79) yD yV (yH yOv eNil) (by kernel_rfl) (by kernel_rfl) (by kernel_rfl) (fun x y h => let ⟨n, hn⟩ := yLb x.1 x.2.1 y h; ⟨yMq n, iNil, (yPm n x).trans hn⟩)
abbrev zm_a : Ty := .pair t9 .unit
abbrev zm_r : Ty := .pair t42 .unit
def zm_g : G := { T := T, E := [zz_e, z0L_e], muts := [], fz := [] }
def zm_k : List (List Nat) := []
def yON (n : Nat) : Ann := { keep := zm_k, fuel := n, inl := [], deep := 0 }
def zm_m (n : Nat) (s : List UInt8) : Option (Int × Unit) :=
  (Option.bind (zz_M s) fun (v0 : Bool × Unit) => some ((z0L (!v0.1) (8 : Int)).1, ()))
theorem yPL (n : Nat) (x : zm_a.den) : runF zm_g (yON n) Tryz.f66 zm_a zm_r x = zm_m n x.1 := by kernel_rfl
def zm_M (s : List UInt8) : Option (Int × Unit) := zm_m 0 s
theorem yNq (s : List UInt8) (y : Int × Unit) (h : zm_M s = some y) : ∃ n, zm_m n s = some y := ⟨0, h⟩
def zm_e : Entry := { f := 66, args := zm_a, ress := zm_r, m := fun x => zm_M x.1 }
theorem yHT : FnOK Tryz.prog zm_e := yW (g := zm_g) (fn := Tryz.f66) yD yV (yH yQb (yH y5H eNil)) (by kernel_rfl) (by kernel_rfl) (by kernel_rfl) (fun x y h => let ⟨n, hn⟩ := yNq x.1 y h; ⟨yON n, iNil, (yPL n x).trans hn⟩)
abbrev zL_a : Ty := .pair t97 (.pair t3 .unit)
abbrev zL_r : Ty := .pair t4 .unit
def zL_g : G := { T := T, E := [z06_e], muts := [], fz := [] }
def zL_k : List (List Nat) := []
def yOV (n : Nat) : Ann := { keep := zL_k, fuel := n, inl := [], deep := 0 }
def zL_m (n : Nat) (t : Tra) (conditions : Int) : Option (Bool × Unit) :=
  some (eqV (Ty.arr (4 : Nat) Ty.bool) (z06 (yb IntKind.i64 Go.BinOp.and conditions t.2.2.2.1)).1 (z06 t.2.2.2.2.1).1, ())
theorem yPS (n : Nat) (x : zL_a.den) : runF zL_g (yOV n) Tryz.f90 zL_a zL_r x = zL_m n x.1 x.2.1 := by kernel_rfl
def zL (t : Tra) (conditions : Int) : (Bool × Unit) :=
  (eqV (Ty.arr (4 : Nat) Ty.bool) (z06 (yb IntKind.i64 Go.BinOp.and conditions t.2.2.2.1)).1 (z06 t.2.2.2.2.1).1, ())
abbrev zL_M (t : Tra) (conditions : Int) : Option (Bool × Unit) := some (zL t conditions)
theorem yMd (t : Tra) (conditions : Int) (y : Bool × Unit) (h : zL_M t conditions = some y) : ∃ n, zL_m n t conditions = some y :=
  ⟨0, by rw [← h]; show zL_m 0 t conditions = some (zL t conditions); unfold zL_m zL; first | rfl | (simp only [yG]; done) | (simp only [yG]; rfl)⟩
def zL_e : Entry := { f := 90, args := zL_a, ress := zL_r, m := fun x => zL_M x.1 x.2.1 }
theorem yQ3 : FnOK Tryz.prog zL_e := yW (g := zL_g) (fn := Tryz.f90) yD yV (yH yJD eNil) (by kernel_rfl) (by kernel_rfl) (by kernel_rfl) (fun x y h => let ⟨n, hn⟩ := yMd x.1 x.2.1 y h; ⟨yOV n, iNil, (yPS n x).trans hn⟩)
abbrev yJa : Ty := .unit
abbrev yMF : Ty := .pair t164 .unit
def yMp : G := { T := T, E := [zu_e, zv_e, zw_e, zx_e, zy_e, zR_e], muts := [], fz := [] }
def yPZ : List (List Nat) := []
def yJA (n : Nat) : Ann := { keep := yPZ, fuel := n, inl := [], deep := 0 }
def yHm (n : Nat)  : Option (List (List UInt8 × (Fai × Unit → Option (Fai × Unit)) × (Fai × Int × (List UInt8 × Int × Unit) × Unit → Option ((List UInt8 × Int × Unit) × Bool × Unit)) × Unit) × Unit) :=
  some ([([(110 : UInt8), 111, 110, 101], fun (x : Fai × Unit) => zu_M x.1, fun (x : Fai × Int × (List UInt8 × Int × Unit) × Unit) => zv_M x.1 x.2.1 x.2.2.1, ()), ([(108 : UInt8), 111, 115, 116], fun (x : Fai × Unit) => zw_M x.1, fun (x : Fai × Int × (List UInt8 × Int × Unit) × Unit) => zx_M x.1 x.2.1 x.2.2.1, ()), ([(115 : UInt8), 116, 117, 99, 107], fun (x : Fai × Unit) => zy_M x.1, fun (x : Fai × Int × (List UInt8 × Int × Unit) × Unit) => zR_M x.1 x.2.1 x.2.2.1, ())], ())
theorem yOg (n : Nat) (x : yJa.den) : runF yMp (yJA n) Tryz.f87 yJa yMF x = yHm n := by kernel_rfl
def z0E  : (List (List UInt8 × (Fai × Unit → Option (Fai × Unit)) × (Fai × Int × (List UInt8 × Int × Unit) × Unit → Option ((List UInt8 × Int × Unit) × Bool × Unit)) × Unit) × Unit) :=
  ([([(110 : UInt8), 111, 110, 101], fun (x : Fai × Unit) => zu_M x.1, fun (x : Fai × Int × (List UInt8 × Int × Unit) × Unit) => zv_M x.1 x.2.1 x.2.2.1, ()), ([(108 : UInt8), 111, 115, 116], fun (x : Fai × Unit) => zw_M x.1, fun (x : Fai × Int × (List UInt8 × Int × Unit) × Unit) => zx_M x.1 x.2.1 x.2.2.1, ()), ([(115 : UInt8), 116, 117, 99, 107], fun (x : Fai × Unit) => zy_M x.1, fun (x : Fai × Int × (List UInt8 × Int × Unit) × Unit) => zR_M x.1 x.2.1 x.2.2.1, ())], ())
abbrev yOK  : Option (List (List UInt8 × (Fai × Unit → Option (Fai × Unit)) × (Fai × Int × (List UInt8 × Int × Unit) × Unit → Option ((List UInt8 × Int × Unit) × Bool × Unit)) × Unit) × Unit) := some (z0E)
theorem yJg  (y : List (List UInt8 × (Fai × Unit → Option (Fai × Unit)) × (Fai × Int × (List UInt8 × Int × Unit) × Unit → Option ((List UInt8 × Int × Unit) × Bool × Unit)) × Unit) × Unit) (h : yOK = some y) : ∃ n, yHm n = some y :=
  ⟨0, by rw [← h]; show yHm 0 = some (z0E); unfold yHm z0E; first | rfl | (simp only [yG]; done) | (simp only [yG]; rfl)⟩
def z0E_e : Entry := { f := 87, args := yJa, ress := yMF, m := fun x => yOK }
theorem yLF : FnOK Tryz.prog z0E_e := yW (g := yMp) (fn := Tryz.f87) yD yV (yH yP9 (yH yQS (yH yPU (yH yQl (yH yPP (yH yQC eNil)))))) (by kernel_rfl) (by kernel_rfl) (by kernel_rfl) (fun x y h => let ⟨n, hn⟩ := yJg y h; ⟨yJA n, iNil, (yOg n x).trans hn⟩)
abbrev yKE : Ty := .pair t3 (.pair t3 .unit)
abbrev yNg : Ty := .pair t37 (.pair t42 .unit)
def yO8 : G := { T := T, E := [z00_e, z08_e], muts := [], fz := [] }
def yPs : List (List Nat) := [[0, 1, 7, 23, 24], [0, 7, 9]]
def yJ9 (n : Nat) : Ann := { keep := yPs, fuel := n, inl := [], deep := 0 }
def yCV (n : Nat) (r4 : Int → Int → List Int → Option (List Int × Int × Unit)) (key0_4 : Int) (i9_4 : Int) (c0_4 : List Int) : Option (List Int × Int × Unit) :=
  (bif decide (i9_4 > 0) then (bif IntKind.i64.wrap (i9_4 + 1) == 0 then none else (Option.bind (idx c0_4 (((IntKind.i64.wrap ((742938285 : Int) * key0_4)).tmod (2147483647 : Int)).tmod (IntKind.i64.wrap (i9_4 + 1)))) fun (v5 : Int) => (Option.bind (c0_4[(((IntKind.i64.wrap ((742938285 : Int) * key0_4)).tmod (2147483647 : Int)).tmod (IntKind.i64.wrap (i9_4 + 1))).toNat]?) fun (v6 : Int) => (Option.bind (idx c0_4 i9_4) fun (v7 : Int) => (Option.bind (c0_4[i9_4.toNat]?) fun (v8 : Int) => (Option.bind (idx c0_4 i9_4) fun (v9 : Int) => (Option.bind (c0_4[i9_4.toNat]?) fun (v10 : Int) => (Option.bind (idx (c0_4.set i9_4.toNat v6) (((IntKind.i64.wrap ((742938285 : Int) * key0_4)).tmod (2147483647 : Int)).tmod (IntKind.i64.wrap (i9_4 + 1)))) fun (v11 : Int) => (Option.bind ((c0_4.set i9_4.toNat v6)[(((IntKind.i64.wrap ((742938285 : Int) * key0_4)).tmod (2147483647 : Int)).tmod (IntKind.i64.wrap (i9_4 + 1))).toNat]?) fun (v12 : Int) => r4 ((IntKind.i64.wrap ((742938285 : Int) * key0_4)).tmod (2147483647 : Int)) (IntKind.i64.wrap (i9_4 - (1 : Int))) ((c0_4.set i9_4.toNat v6).set (((IntKind.i64.wrap ((742938285 : Int) * key0_4)).tmod (2147483647 : Int)).tmod (IntKind.i64.wrap (i9_4 + 1))).toNat v8)))))))))) else some (c0_4, (0 : Int), ()))
def y5q (n : Nat)  (k : Nat) (key0_4 : Int) (i9_4 : Int) (c0_4 : List Int) : Option (List Int × Int × Unit) :=
  iter (fun r y => yCV n (fun key0_4 i9_4 c0_4 => r ((key0_4, (i9_4, ())), ((c0_4, ()), ()))) y.1.1 y.1.2.1 y.2.1.1) k ((key0_4, (i9_4, ())), ((c0_4, ()), ()))
def yCi (n : Nat) (r1 : Int → Int → Int → Int → List Int → Option (List Int × Int × Unit)) (key0_1 : Int) (n1_1 : Int) (t23_1 : Int) (t24_1 : Int) (c0_1 : List Int) : Option (List Int × Int × Unit) :=
  (bif decide (t24_1 < t23_1) then (Option.bind (idx c0_1 t24_1) fun (v2 : Int) => (Option.bind (c0_1[t24_1.toNat]?) fun (v3 : Int) => r1 key0_1 n1_1 t23_1 (IntKind.i64.wrap (t24_1 + 1)) (c0_1.set t24_1.toNat t24_1))) else (y5q n n (key0_1) (IntKind.i64.wrap (n1_1 - (1 : Int))) (c0_1)))
def y5y (n : Nat)  (k : Nat) (key0_1 : Int) (n1_1 : Int) (t23_1 : Int) (t24_1 : Int) (c0_1 : List Int) : Option (List Int × Int × Unit) :=
  iter (fun r y => yCi n (fun key0_1 n1_1 t23_1 t24_1 c0_1 => r ((key0_1, (n1_1, (t23_1, (t24_1, ())))), ((c0_1, ()), ()))) y.1.1 y.1.2.1 y.1.2.2.1 y.1.2.2.2.1 y.2.1.1) k ((key0_1, (n1_1, (t23_1, (t24_1, ())))), ((c0_1, ()), ()))
def yHk (n : Nat) (key : Int) (n1 : Int) : Option (List Int × Int × Unit) :=
  (Option.bind (yA1 [(z00 key (1 : Int) (2147483646 : Int)).1, (z00 n1 (0 : Int) (256 : Int)).1]) fun (v0 : Int × Unit) => (bif v0.1 != 0 then some ([], v0.1, ()) else (bif Bool.true && decide ((0 : Int) ≤ n1) && decide (n1 ≤ (↑memMax : Int)) && n1 == n1 then (y5y n n (key) (n1) ((↑(List.replicate (n1.toNat) ((0 : Int)) : List (Int)).length : Int)) ((0 : Int)) ((List.replicate (n1.toNat) ((0 : Int)) : List (Int)))) else none)))
theorem yLU (n : Nat) (x : yKE.den) : runF yO8 (yJ9 n) Tryz.f11 yKE yNg x = yHk n x.1 x.2.1 := by kernel_rfl
def y5G (key0_4 : Int) (i9_4 : Int) (c0_4 : List Int) : Option ((List Int × Int × Unit) ⊕ (Int × Int × List Int)) :=
  (bif decide (i9_4 > 0) then (bif IntKind.i64.wrap (i9_4 + 1) == 0 then none else (Option.bind (idx c0_4 (((IntKind.i64.wrap ((742938285 : Int) * key0_4)).tmod (2147483647 : Int)).tmod (IntKind.i64.wrap (i9_4 + 1)))) fun (v5 : Int) => (Option.bind (c0_4[(((IntKind.i64.wrap ((742938285 : Int) * key0_4)).tmod (2147483647 : Int)).tmod (IntKind.i64.wrap (i9_4 + 1))).toNat]?) fun (v6 : Int) => (Option.bind (idx c0_4 i9_4) fun (v7 : Int) => (Option.bind (c0_4[i9_4.toNat]?) fun (v8 : Int) => (Option.bind (idx c0_4 i9_4) fun (v9 : Int) => (Option.bind (c0_4[i9_4.toNat]?) fun (v10 : Int) => (Option.bind (idx (c0_4.set i9_4.toNat v6) (((IntKind.i64.wrap ((742938285 : Int) * key0_4)).tmod (2147483647 : Int)).tmod (IntKind.i64.wrap (i9_4 + 1)))) fun (v11 : Int) => (Option.bind ((c0_4.set i9_4.toNat v6)[(((IntKind.i64.wrap ((742938285 : Int) * key0_4)).tmod (2147483647 : Int)).tmod (IntKind.i64.wrap (i9_4 + 1))).toNat]?) fun (v12 : Int) => (some (Sum.inr (((IntKind.i64.wrap ((742938285 : Int) * key0_4)).tmod (2147483647 : Int)), (IntKind.i64.wrap (i9_4 - (1 : Int))), ((c0_4.set i9_4.toNat v6).set (((IntKind.i64.wrap ((742938285 : Int) * key0_4)).tmod (2147483647 : Int)).tmod (IntKind.i64.wrap (i9_4 + 1))).toNat v8))))))))))))) else (some (Sum.inl ((c0_4, (0 : Int), ())))))
theorem yCC (n : Nat) (hn : big ≤ n)  (key0_4 : Int) (i9_4 : Int) (c0_4 : List Int) : LeF some (y0k (fun s__ => y5G s__.1 s__.2.1 s__.2.2) wMax (key0_4, i9_4, c0_4)) (y5q n n key0_4 i9_4 c0_4) := by
  refine y3V (f := some) (W := fun k__ s__ => y5q n k__ s__.1 s__.2.1 s__.2.2) (body := (fun s__ => y5G s__.1 s__.2.1 s__.2.2)) (fun k__ s__ => ?_) wMax n (key0_4, i9_4, c0_4) (by unfold big at hn; unfold wMax; omega)
  show LeF _ _ (yCV n (y5q n k__) s__.1 s__.2.1 s__.2.2)
  exact (y3 (y3 yr (y8 fun v5 => (y8 fun v6 => (y8 fun v7 => (y8 fun v8 => (y8 fun v9 => (y8 fun v10 => (y8 fun v11 => (y8 fun v12 => (y5 rfl)))))))))) (y5 rfl))
def y6Q (key0_1 : Int) (n1_1 : Int) (t23_1 : Int) (t24_1 : Int) (c0_1 : List Int) : Option ((List Int × Int × Unit) ⊕ (List Int)) :=
  (Option.bind (idx c0_1 t24_1) fun (v2 : Int) => (Option.bind (c0_1[t24_1.toNat]?) fun (v3 : Int) => (some (Sum.inr (c0_1.set t24_1.toNat t24_1)))))
def y7d (key0_1 : Int) (n1_1 : Int) (t23_1 : Int) (c0_1 : List Int) : Option (List Int × Int × Unit) :=
  (y0k (fun s__ => y5G s__.1 s__.2.1 s__.2.2) wMax ((key0_1), (IntKind.i64.wrap (n1_1 - (1 : Int))), (c0_1)))
theorem yBK (n : Nat) (hn : big ≤ n)  (key0_1 : Int) (n1_1 : Int) (t23_1 : Int) (c0_1 : List Int) (hx : (t23_1) ≤ 9223372036854775807) : LeF some (y0D (fun i__ s__ => y6Q key0_1 n1_1 t23_1 i__ s__) (fun s__ => y7d key0_1 n1_1 t23_1 s__) ((t23_1) - 0).toNat 0 c0_1) (y5y n n key0_1 n1_1 t23_1 0 c0_1) := by
  refine y1M (f := some) (W := fun k__ i__ s__ => y5y n k__ key0_1 n1_1 t23_1 i__ s__) (body := (fun i__ s__ => y6Q key0_1 n1_1 t23_1 i__ s__)) (fin := (fun s__ => y7d key0_1 n1_1 t23_1 s__)) (fun k__ i__ s__ => ?_) hx c0_1 n 0 (by decide) (by unfold big at hn; omega)
  show LeF _ _ (yCi n (y5y n k__) key0_1 n1_1 t23_1 i__ s__)
  exact y3 (y8 fun v2 => (y8 fun v3 => (y5 rfl))) (yw (by apply yCC n hn))
def y8y (key : Int) (n1 : Int) : Option (List Int × Int × Unit) :=
  (Option.bind (yA1 [(z00 key (1 : Int) (2147483646 : Int)).1, (z00 n1 (0 : Int) (256 : Int)).1]) fun (v0 : Int × Unit) => (bif v0.1 != 0 then (some (([], v0.1, ()))) else (bif Bool.true && decide ((0 : Int) ≤ n1) && decide (n1 ≤ (↑memMax : Int)) && n1 == n1 then (bif decide (((↑(List.replicate (n1.toNat) ((0 : Int)) : List (Int)).length : Int)) ≤ 9223372036854775807) then y0D (fun i__ s__ => y6Q (key) (n1) ((↑(List.replicate (n1.toNat) ((0 : Int)) : List (Int)).length : Int)) i__ s__) (fun s__ => y7d (key) (n1) ((↑(List.replicate (n1.toNat) ((0 : Int)) : List (Int)).length : Int)) s__) (((↑(List.replicate (n1.toNat) ((0 : Int)) : List (Int)).length : Int)) - 0).toNat 0 ((List.replicate (n1.toNat) ((0 : Int)) : List (Int))) else none) else none)))
theorem yJp (key : Int) (n1 : Int) (y : List Int × Int × Unit) (h : y8y key n1 = some y) : ∃ n, yHk n key n1 = some y :=
  ⟨big, LeF.top (show LeF some (y8y key n1) (yHk big key n1) from (fun (n : Nat) (hn : big ≤ n) => show LeF some (y8y key n1) (yHk n key n1) from (y8 fun v0 => (y3 (y5 rfl) (y3 (yK fun hx => by apply yBK n hn; exact hx) yr)))) big (Nat.le_refl _)) h⟩
def z0G_e : Entry := { f := 11, args := yKE, ress := yNg, m := fun x => y8y x.1 x.2.1 }
theorem yJG : FnOK Tryz.prog z0G_e := yW (g := yO8) (fn := Tryz.f11) yD yV (yH yM0 (yH yN2 eNil)) (by kernel_rfl) (by kernel_rfl) (by kernel_rfl) (fun x y h => let ⟨n, hn⟩ := yJp x.1 x.2.1 y h; ⟨yJ9 n, iNil, (yLU n x).trans hn⟩)
end
end Go.Tw
end
section
set_option linter.all false
set_option maxRecDepth 1000000
namespace Go.Tw
open Go.Vx Go.Vx.B Go.Proofs
noncomputable section
abbrev zb_a : Ty := .pair t25 .unit
abbrev zb_r : Ty := .pair t3 .unit
def zb_g : G := { T := T, E := [zi_e, zo_e, za_e, z0I_e, z09_e, z02_e], muts := [], fz := [] }
def zb_k : List (List Nat) := [[1, 3], [1, 3, 4, 6], [1, 7], [1, 11]]
def yOS (n : Nat) : Ann := { keep := zb_k, fuel := n, inl := [], deep := 0 }
def yFL (n : Nat) (r0 : Cha → Int → Option (Int × Unit)) (r3 : Cha → Int → Int → List UInt8 → Int → Int → Bool → Option (Int × Unit)) (c1_3 : Cha) (i3_3 : Int) (k6_3 : Int) (b0_0_3 : List UInt8) (b0_1_3 : Int) (b0_2_3 : Int) (b0_3_3 : Bool) : Option (Int × Unit) :=
  (bif decide (k6_3 < i3_3) then (Option.bind (idx c1_3.1 k6_3) fun (v4 : Sta) => (bif v4.1 == b0_0_3 then some ((9 : Int), ()) else r3 c1_3 i3_3 (IntKind.i64.wrap (k6_3 + 1)) b0_0_3 b0_1_3 b0_2_3 b0_3_3)) else (bif decide (b0_1_3 < (-1 : Int)) then some ((11 : Int), ()) else (bif decide (b0_1_3 ≥ i3_3) then some ((11 : Int), ()) else r0 c1_3 (IntKind.i64.wrap (i3_3 + 1)))))
def y95 (n : Nat) (r0 : Cha → Int → Option (Int × Unit)) (k : Nat) (c1_3 : Cha) (i3_3 : Int) (k6_3 : Int) (b0_0_3 : List UInt8) (b0_1_3 : Int) (b0_2_3 : Int) (b0_3_3 : Bool) : Option (Int × Unit) :=
  iter (fun r y => yFL n r0 (fun c1_3 i3_3 k6_3 b0_0_3 b0_1_3 b0_2_3 b0_3_3 => r ((c1_3, (i3_3, (k6_3, ()))), (((b0_0_3, (b0_1_3, (b0_2_3, (b0_3_3, ())))), ()), ()))) y.1.1 y.1.2.1 y.1.2.2.1 y.2.1.1.1 y.2.1.1.2.1 y.2.1.1.2.2.1 y.2.1.1.2.2.2.1) k ((c1_3, (i3_3, (k6_3, ()))), (((b0_0_3, (b0_1_3, (b0_2_3, (b0_3_3, ())))), ()), ()))
def yCX (n : Nat) (r19 : Cha → Int → Option (Int × Unit)) (c1_19 : Cha) (i11_19 : Int) : Option (Int × Unit) :=
  (bif decide (i11_19 < (↑c1_19.2.1.length : Int)) then (Option.bind (idx c1_19.2.1 i11_19) fun (v20 : Tra) => (bif (za v20.1 (0 : Int) (IntKind.i64.wrap ((↑c1_19.1.length : Int) - (1 : Int)))).1 != 0 then some ((10 : Int), ()) else (bif (za v20.2.2.1 (0 : Int) (IntKind.i64.wrap ((↑c1_19.1.length : Int) - (1 : Int)))).1 != 0 then some ((10 : Int), ()) else (Option.bind (zi_M v20.2.1) fun (v23 : Int × Unit) => (Option.bind (y9g [v23.1, (za v20.2.2.2.1 (0 : Int) (15 : Int)).1, (za v20.2.2.2.2.1 (0 : Int) (15 : Int)).1, (z0I (yb IntKind.i64 Go.BinOp.and v20.2.2.2.2.1 v20.2.2.2.1 != v20.2.2.2.2.1) (1 : Int)).1]) fun (v24 : Int × Unit) => (bif v24.1 != 0 then some (v24.1, ()) else r19 c1_19 (IntKind.i64.wrap (i11_19 + 1)))))))) else (Option.bind (y7P c1_19) fun (v25 : List (List UInt8) × Unit) => some ((z0I (decide ((↑v25.1.length : Int) > 8)) (5 : Int)).1, ())))
def y63 (n : Nat)  (k : Nat) (c1_19 : Cha) (i11_19 : Int) : Option (Int × Unit) :=
  iter (fun r y => yCX n (fun c1_19 i11_19 => r ((c1_19, (i11_19, ())), ((), ()))) y.1.1 y.1.2.1) k ((c1_19, (i11_19, ())), ((), ()))
def yFY (n : Nat) (r7 : Cha → Int → Option (Int × Unit)) (c1_7 : Cha) (i7_7 : Int) : Option (Int × Unit) :=
  (bif decide (i7_7 < (↑c1_7.1.length : Int)) then (Option.bind (idx c1_7.1 i7_7) fun (v8 : Sta) => (Option.bind (zo_M c1_7 i7_7 v8.2.2.1) fun (v9 : Int × Bool × Unit) => (bif decide (v9.1 > 0) then (bif !v9.2.1 then some ((1 : Int), ()) else (bif v8.2.2.2.1 then some ((1 : Int), ()) else (bif v9.1 == 0 then (bif v8.2.2.1 != (-1 : Int) then some ((1 : Int), ()) else r7 c1_7 (IntKind.i64.wrap (i7_7 + 1))) else r7 c1_7 (IntKind.i64.wrap (i7_7 + 1))))) else (bif v9.1 == 0 then (bif v8.2.2.1 != (-1 : Int) then some ((1 : Int), ()) else r7 c1_7 (IntKind.i64.wrap (i7_7 + 1))) else r7 c1_7 (IntKind.i64.wrap (i7_7 + 1)))))) else (bif decide ((↑c1_7.2.1.length : Int) > 48) then some ((5 : Int), ()) else (y63 n n (c1_7) ((0 : Int)))))
def y8u (n : Nat)  (k : Nat) (c1_7 : Cha) (i7_7 : Int) : Option (Int × Unit) :=
  iter (fun r y => yFY n (fun c1_7 i7_7 => r ((c1_7, (i7_7, ())), ((), ()))) y.1.1 y.1.2.1) k ((c1_7, (i7_7, ())), ((), ()))
def yGj (n : Nat) (r0 : Cha → Int → Option (Int × Unit)) (c1_0 : Cha) (i3_0 : Int) : Option (Int × Unit) :=
  (bif decide (i3_0 < (↑c1_0.1.length : Int)) then (Option.bind (idx c1_0.1 i3_0) fun (v1 : Sta) => (Option.bind (zi_M v1.1) fun (v2 : Int × Unit) => (bif v2.1 != 0 then some (v2.1, ()) else (y95 n r0 n (c1_0) (i3_0) ((0 : Int)) (v1.1) (v1.2.1) (v1.2.2.1) (v1.2.2.2.1))))) else (y8u n n (c1_0) ((0 : Int))))
def y98 (n : Nat)  (k : Nat) (c1_0 : Cha) (i3_0 : Int) : Option (Int × Unit) :=
  iter (fun r y => yGj n (fun c1_0 i3_0 => r ((c1_0, (i3_0, ())), ((), ()))) y.1.1 y.1.2.1) k ((c1_0, (i3_0, ())), ((), ()))
def zb_m (n : Nat) (c : Cha) : Option (Int × Unit) :=
  (bif (↑c.1.length : Int) == 0 then some ((12 : Int), ()) else (bif decide ((↑c.1.length : Int) > 16) then some ((5 : Int), ()) else (y98 n n (c) ((0 : Int)))))
theorem yPE (n : Nat) (x : zb_a.den) : runF zb_g (yOS n) Tryz.f7 zb_a zb_r x = zb_m n x.1 := by kernel_rfl
def yDz (c1_3 : Cha) (i3_3 : Int) (b0_0_3 : List UInt8) (b0_1_3 : Int) (b0_2_3 : Int) (b0_3_3 : Bool) (k6_3 : Int) : Option (((Int × Unit) ⊕ Unit) ⊕ Unit) :=
  (Option.bind (idx c1_3.1 k6_3) fun (v4 : Sta) => (bif v4.1 == b0_0_3 then (some (Sum.inl (Sum.inl (((9 : Int), ()))))) else (some (Sum.inr ()))))
def yH8 (c1_3 : Cha) (i3_3 : Int) (b0_0_3 : List UInt8) (b0_1_3 : Int) (b0_2_3 : Int) (b0_3_3 : Bool) : Option ((Int × Unit) ⊕ Unit) :=
  (bif decide (b0_1_3 < (-1 : Int)) then (some (Sum.inl (((11 : Int), ())))) else (bif decide (b0_1_3 ≥ i3_3) then (some (Sum.inl (((11 : Int), ())))) else (some (Sum.inr ()))))
theorem yE0 (n : Nat) (hn : big ≤ n)  (r0 : Cha → Int → Option (Int × Unit)) (c1_3 : Cha) (i3_3 : Int) (b0_0_3 : List UInt8) (b0_1_3 : Int) (b0_2_3 : Int) (b0_3_3 : Bool) (hx : (i3_3) ≤ 9223372036854775807) : LeF (elim some fun (s__ : Unit) => r0 c1_3 (IntKind.i64.wrap (i3_3 + 1))) (y0D (fun i__ s__ => yDz c1_3 i3_3 b0_0_3 b0_1_3 b0_2_3 b0_3_3 i__) (fun s__ => yH8 c1_3 i3_3 b0_0_3 b0_1_3 b0_2_3 b0_3_3) ((i3_3) - 0).toNat 0 ()) (y95 n r0 n c1_3 i3_3 0 b0_0_3 b0_1_3 b0_2_3 b0_3_3) := by
  refine y1M (f := (elim some fun (s__ : Unit) => r0 c1_3 (IntKind.i64.wrap (i3_3 + 1)))) (W := fun k__ i__ s__ => y95 n r0 k__ c1_3 i3_3 i__ b0_0_3 b0_1_3 b0_2_3 b0_3_3) (body := (fun i__ s__ => yDz c1_3 i3_3 b0_0_3 b0_1_3 b0_2_3 b0_3_3 i__)) (fin := (fun s__ => yH8 c1_3 i3_3 b0_0_3 b0_1_3 b0_2_3 b0_3_3)) (fun k__ i__ s__ => ?_) hx () n 0 (by decide) (by unfold big at hn; omega)
  show LeF _ _ (yFL n r0 (y95 n r0 k__) c1_3 i3_3 i__ b0_0_3 b0_1_3 b0_2_3 b0_3_3)
  exact y3 (y8 fun v4 => (y3 (y5 rfl) (y5 rfl))) (yw (y3 (y5 rfl) (y3 (y5 rfl) (y5 rfl))))
def y7Z (c1_19 : Cha) (i11_19 : Int) (v20 : Tra) : Option ((Int × Unit) ⊕ Unit) :=
  (bif (za v20.1 (0 : Int) (IntKind.i64.wrap ((↑c1_19.1.length : Int) - (1 : Int)))).1 != 0 then (some (Sum.inl (((10 : Int), ())))) else (bif (za v20.2.2.1 (0 : Int) (IntKind.i64.wrap ((↑c1_19.1.length : Int) - (1 : Int)))).1 != 0 then (some (Sum.inl (((10 : Int), ())))) else (Option.bind (zi_M v20.2.1) fun (v23 : Int × Unit) => (Option.bind (y9g [v23.1, (za v20.2.2.2.1 (0 : Int) (15 : Int)).1, (za v20.2.2.2.2.1 (0 : Int) (15 : Int)).1, (z0I (yb IntKind.i64 Go.BinOp.and v20.2.2.2.2.1 v20.2.2.2.1 != v20.2.2.2.2.1) (1 : Int)).1]) fun (v24 : Int × Unit) => (bif v24.1 != 0 then (some (Sum.inl ((v24.1, ())))) else (some (Sum.inr ())))))))
def y7t (c1_19 : Cha) : Option (Int × Unit) :=
  (Option.bind (y7P c1_19) fun (v25 : List (List UInt8) × Unit) => (some (((z0I (decide ((↑v25.1.length : Int) > 8)) (5 : Int)).1, ()))))
theorem yBw (n : Nat) (hn : big ≤ n)  (c1_19 : Cha) (hx : List.length (c1_19.2.1) < lenMax) : LeF some (yE (fun i__ e__ s__ => y7Z c1_19 i__ e__) (fun s__ => y7t c1_19) 0 (c1_19.2.1) ()) (y63 n n c1_19 0) := by
  refine yL (f := some) (W := fun k__ i__ s__ => y63 n k__ c1_19 i__) (body := (fun i__ e__ s__ => y7Z c1_19 i__ e__)) (fin := (fun s__ => y7t c1_19)) (fun k__ i__ s__ => ?_) hx () n (by unfold big at hn; unfold lenMax at hx; omega)
  show LeF _ _ (yCX n (y63 n k__) c1_19 i__)
  exact y3 (y8 fun v20 => (y3 (y5 rfl) (y3 (y5 rfl) (y8 fun v23 => (y8 fun v24 => (y3 (y5 rfl) (y5 rfl))))))) (yw (y8 fun v25 => (y5 rfl)))
def yEU (c1_7 : Cha) (i7_7 : Int) (v8 : Sta) : Option ((Int × Unit) ⊕ Unit) :=
  (Option.bind (zo_M c1_7 i7_7 v8.2.2.1) fun (v9 : Int × Bool × Unit) => (bif decide (v9.1 > 0) then (bif !v9.2.1 then (some (Sum.inl (((1 : Int), ())))) else (bif v8.2.2.2.1 then (some (Sum.inl (((1 : Int), ())))) else (bif v9.1 == 0 then (bif v8.2.2.1 != (-1 : Int) then (some (Sum.inl (((1 : Int), ())))) else (some (Sum.inr ()))) else (some (Sum.inr ()))))) else (bif v9.1 == 0 then (bif v8.2.2.1 != (-1 : Int) then (some (Sum.inl (((1 : Int), ())))) else (some (Sum.inr ()))) else (some (Sum.inr ())))))
def yE9 (c1_7 : Cha) : Option (Int × Unit) :=
  (bif decide ((↑c1_7.2.1.length : Int) > 48) then (some (((5 : Int), ()))) else (bif decide (List.length (c1_7.2.1) < lenMax) then yE (fun i__ e__ s__ => y7Z (c1_7) i__ e__) (fun s__ => y7t (c1_7)) 0 (c1_7.2.1) () else none))
theorem yDb (n : Nat) (hn : big ≤ n)  (c1_7 : Cha) (hx : List.length (c1_7.1) < lenMax) : LeF some (yE (fun i__ e__ s__ => yEU c1_7 i__ e__) (fun s__ => yE9 c1_7) 0 (c1_7.1) ()) (y8u n n c1_7 0) := by
  refine yL (f := some) (W := fun k__ i__ s__ => y8u n k__ c1_7 i__) (body := (fun i__ e__ s__ => yEU c1_7 i__ e__)) (fin := (fun s__ => yE9 c1_7)) (fun k__ i__ s__ => ?_) hx () n (by unfold big at hn; unfold lenMax at hx; omega)
  show LeF _ _ (yFY n (y8u n k__) c1_7 i__)
  exact y3 (y8 fun v8 => (y8 fun v9 => (y3 (y3 (y5 rfl) (y3 (y5 rfl) (y3 (y3 (y5 rfl) (y5 rfl)) (y5 rfl)))) (y3 (y3 (y5 rfl) (y5 rfl)) (y5 rfl))))) (yw (y3 (y5 rfl) (yK fun hx => by apply yBw n hn; exact hx)))
def yEb (c1_0 : Cha) (i3_0 : Int) (v1 : Sta) : Option ((Int × Unit) ⊕ Unit) :=
  (Option.bind (zi_M v1.1) fun (v2 : Int × Unit) => (bif v2.1 != 0 then (some (Sum.inl ((v2.1, ())))) else (bif decide ((i3_0) ≤ 9223372036854775807) then y0D (fun i__ s__ => yDz (c1_0) (i3_0) (v1.1) (v1.2.1) (v1.2.2.1) (v1.2.2.2.1) i__) (fun s__ => yH8 (c1_0) (i3_0) (v1.1) (v1.2.1) (v1.2.2.1) (v1.2.2.2.1)) ((i3_0) - 0).toNat 0 () else none)))
def yE3 (c1_0 : Cha) : Option (Int × Unit) :=
  (bif decide (List.length (c1_0.1) < lenMax) then yE (fun i__ e__ s__ => yEU (c1_0) i__ e__) (fun s__ => yE9 (c1_0)) 0 (c1_0.1) () else none)
theorem yEs (n : Nat) (hn : big ≤ n)  (c1_0 : Cha) (hx : List.length (c1_0.1) < lenMax) : LeF some (yE (fun i__ e__ s__ => yEb c1_0 i__ e__) (fun s__ => yE3 c1_0) 0 (c1_0.1) ()) (y98 n n c1_0 0) := by
  refine yL (f := some) (W := fun k__ i__ s__ => y98 n k__ c1_0 i__) (body := (fun i__ e__ s__ => yEb c1_0 i__ e__)) (fin := (fun s__ => yE3 c1_0)) (fun k__ i__ s__ => ?_) hx () n (by unfold big at hn; unfold lenMax at hx; omega)
  show LeF _ _ (yGj n (y98 n k__) c1_0 i__)
  exact y3 (y8 fun v1 => (y8 fun v2 => (y3 (y5 rfl) (yK fun hx => by apply yE0 n hn; exact hx)))) (yw (yK fun hx => by apply yDb n hn; exact hx))
def zb_M (c : Cha) : Option (Int × Unit) :=
  (bif (↑c.1.length : Int) == 0 then (some (((12 : Int), ()))) else (bif decide ((↑c.1.length : Int) > 16) then (some (((5 : Int), ()))) else (bif decide (List.length (c.1) < lenMax) then yE (fun i__ e__ s__ => yEb (c) i__ e__) (fun s__ => yE3 (c)) 0 (c.1) () else none)))
theorem yLP (c : Cha) (y : Int × Unit) (h : zb_M c = some y) : ∃ n, zb_m n c = some y :=
  ⟨big, LeF.top (show LeF some (zb_M c) (zb_m big c) from (fun (n : Nat) (hn : big ≤ n) => show LeF some (zb_M c) (zb_m n c) from (y3 (y5 rfl) (y3 (y5 rfl) (yK fun hx => by apply yEs n hn; exact hx)))) big (Nat.le_refl _)) h⟩
def zb_e : Entry := { f := 7, args := zb_a, ress := zb_r, m := fun x => zb_M x.1 }
theorem yPh : FnOK Tryz.prog zb_e := yW (g := zb_g) (fn := Tryz.f7) yD yV (yH yOH (yH yPX (yH yOm (yH yMl (yH yIx (yH yJU eNil)))))) (by kernel_rfl) (by kernel_rfl) (by kernel_rfl) (fun x y h => let ⟨n, hn⟩ := yLP x.1 y h; ⟨yOS n, iNil, (yPE n x).trans hn⟩)
abbrev zc_a : Ty := .pair t39 .unit
abbrev zc_r : Ty := .pair t3 .unit
def zc_g : G := { T := T, E := [zi_e, za_e, z09_e], muts := [], fz := [] }
def zc_k : List (List Nat) := []
def yNp (n : Nat) : Ann := { keep := zc_k, fuel := n, inl := [], deep := 0 }
def zc_m (n : Nat) (p0 : List UInt8 × Int × Unit) : Option (Int × Unit) :=
  (Option.bind (zi_M p0.1) fun (v0 : Int × Unit) => (Option.bind (y9g [v0.1, (za p0.2.1 (0 : Int) (15 : Int)).1]) fun (v1 : Int × Unit) => some (v1.1, ())))
theorem yQc (n : Nat) (x : zc_a.den) : runF zc_g (yNp n) Tryz.f34 zc_a zc_r x = zc_m n x.1 := by kernel_rfl
def zc_M (p0 : List UInt8 × Int × Unit) : Option (Int × Unit) := zc_m 0 p0
theorem yLN (p0 : List UInt8 × Int × Unit) (y : Int × Unit) (h : zc_M p0 = some y) : ∃ n, zc_m n p0 = some y := ⟨0, h⟩
def zc_e : Entry := { f := 34, args := zc_a, ress := zc_r, m := fun x => zc_M x.1 }
theorem yP1 : FnOK Tryz.prog zc_e := yW (g := zc_g) (fn := Tryz.f34) yD yV (yH yOH (yH yOm (yH yIx eNil))) (by kernel_rfl) (by kernel_rfl) (by kernel_rfl) (fun x y h => let ⟨n, hn⟩ := yLN x.1 y h; ⟨yNp n, iNil, (yQc n x).trans hn⟩)
abbrev zN_a : Ty := .pair t56 .unit
abbrev zN_r : Ty := .pair t45 .unit
def zN_g : G := { T := T, E := [zA_e], muts := [3], fz := [] }
def zN_k : List (List Nat) := [[3, 7, 8, 9]]
def yOi (n : Nat) : Ann := { keep := zN_k, fuel := n, inl := [], deep := 0 }
def yGd (n : Nat) (r0 : List Tra → Int → Int → List (List UInt8) → Option (List (List UInt8) × Unit)) (t7_0 : List Tra) (t8_0 : Int) (t9_0 : Int) (cs0_0 : List (List UInt8)) : Option (List (List UInt8) × Unit) :=
  (bif decide (t9_0 < t8_0) then (Option.bind (idx t7_0 t9_0) fun (v1 : Tra) => (Option.bind (zA_M cs0_0 v1.2.1) fun (v2 : Bool × Unit) => (bif !v2.1 then (bif decide (cs0_0.length + (1 : Nat) ≤ memMax) then r0 t7_0 t8_0 (IntKind.i64.wrap (t9_0 + 1)) (cs0_0 ++ [v1.2.1]) else none) else r0 t7_0 t8_0 (IntKind.i64.wrap (t9_0 + 1)) cs0_0))) else some (cs0_0, ()))
def y9C (n : Nat)  (k : Nat) (t7_0 : List Tra) (t8_0 : Int) (t9_0 : Int) (cs0_0 : List (List UInt8)) : Option (List (List UInt8) × Unit) :=
  iter (fun r y => yGd n (fun t7_0 t8_0 t9_0 cs0_0 => r ((t7_0, (t8_0, (t9_0, ()))), ((cs0_0, ()), ()))) y.1.1 y.1.2.1 y.1.2.2.1 y.2.1.1) k ((t7_0, (t8_0, (t9_0, ()))), ((cs0_0, ()), ()))
def zN_m (n : Nat) (c : Cha) : Option (List (List UInt8) × Unit) :=
  (y9C n n (c.2.1) ((↑c.2.1.length : Int)) ((0 : Int)) ([]))
theorem yPv (n : Nat) (x : zN_a.den) : runF zN_g (yOi n) Tryz.f50 zN_a zN_r x = zN_m n x.1 := by kernel_rfl
def yFS (t7_0 : List Tra) (t9_0 : Int) (v1 : Tra) (cs0_0 : List (List UInt8)) : Option ((List (List UInt8) × Unit) ⊕ (List (List UInt8))) :=
  (Option.bind (zA_M cs0_0 v1.2.1) fun (v2 : Bool × Unit) => (bif !v2.1 then (bif decide (cs0_0.length + (1 : Nat) ≤ memMax) then (some (Sum.inr (cs0_0 ++ [v1.2.1]))) else none) else (some (Sum.inr (cs0_0)))))
def yIE (t7_0 : List Tra) (cs0_0 : List (List UInt8)) : Option (List (List UInt8) × Unit) :=
  (some ((cs0_0, ())))
theorem yEE (n : Nat) (hn : big ≤ n)  (t7_0 : List Tra) (cs0_0 : List (List UInt8)) (hx : List.length (t7_0) < lenMax) : LeF some (yE (fun i__ e__ s__ => yFS t7_0 i__ e__ s__) (fun s__ => yIE t7_0 s__) 0 (t7_0) cs0_0) (y9C n n t7_0 (List.length (t7_0) : Int) 0 cs0_0) := by
  refine yL (f := some) (W := fun k__ i__ s__ => y9C n k__ t7_0 (List.length (t7_0) : Int) i__ s__) (body := (fun i__ e__ s__ => yFS t7_0 i__ e__ s__)) (fin := (fun s__ => yIE t7_0 s__)) (fun k__ i__ s__ => ?_) hx cs0_0 n (by unfold big at hn; unfold lenMax at hx; omega)
  show LeF _ _ (yGd n (y9C n k__) t7_0 (List.length (t7_0) : Int) i__ s__)
  exact y3 (y8 fun v1 => (y8 fun v2 => (y3 (y3 (y5 rfl) yr) (y5 rfl)))) (yw (y5 rfl))
def zN_M (c : Cha) : Option (List (List UInt8) × Unit) :=
  (bif decide (List.length (c.2.1) < lenMax) then yE (fun i__ e__ s__ => yFS (c.2.1) i__ e__ s__) (fun s__ => yIE (c.2.1) s__) 0 (c.2.1) ([]) else none)
theorem yMk (c : Cha) (y : List (List UInt8) × Unit) (h : zN_M c = some y) : ∃ n, zN_m n c = some y :=
  ⟨big, LeF.top (show LeF some (zN_M c) (zN_m big c) from (fun (n : Nat) (hn : big ≤ n) => show LeF some (zN_M c) (zN_m n c) from (yK fun hx => by apply yEE n hn; exact hx)) big (Nat.le_refl _)) h⟩
def zN_e : Entry := { f := 50, args := zN_a, ress := zN_r, m := fun x => zN_M x.1 }
theorem yL4 : FnOK Tryz.prog zN_e := yW (g := zN_g) (fn := Tryz.f50) yD yV (yH yPo eNil) (by kernel_rfl) (by kernel_rfl) (by kernel_rfl) (fun x y h => let ⟨n, hn⟩ := yMk x.1 y h; ⟨yOi n, iNil, (yPv n x).trans hn⟩)
abbrev zF_a : Ty := .pair t56 .unit
abbrev zF_r : Ty := .pair t42 .unit
def zF_g : G := { T := T, E := [zm_e, z0L_e, z0D_e, zE_e], muts := [12, 13], fz := [13] }
def zF_k : List (List Nat) := [[1, 3, 4, 15, 16, 17], [4, 60, 61, 62]]
def yNo (n : Nat) : Ann := { keep := zF_k, fuel := n, inl := [], deep := 0 }
def y9A (n : Nat) (r0 : Cha → List Sta → Int → Int → List (List UInt8 × Bool) → List (Int × List Int) → Option (Int × Unit)) (c1_0 : Cha) (t15_0 : List Sta) (t16_0 : Int) (t17_0 : Int) (m0_0 : List (List UInt8 × Bool)) (m1_0 : List (Int × List Int)) (v1 : Sta) : Option (Int × Unit) :=
  (bif y2S (Ty.int IntKind.i64) v1.2.1 v1.2.1 then (bif decide (((yO (Ty.int IntKind.i64) (Ty.int IntKind.i64).slice m1_0 v1.2.1).getD []).length + (1 : Nat) ≤ memMax) then (bif y2S (Ty.int IntKind.i64) v1.2.1 v1.2.1 then r0 c1_0 t15_0 t16_0 (IntKind.i64.wrap (t17_0 + 1)) (yx Ty.str Ty.bool m0_0 v1.1 Bool.true) (yx (Ty.int IntKind.i64) (Ty.int IntKind.i64).slice m1_0 v1.2.1 ((yO (Ty.int IntKind.i64) (Ty.int IntKind.i64).slice m1_0 v1.2.1).getD [] ++ [t17_0])) else none) else none) else none)
def yDQ (n : Nat) (r20 : List (Int × List Int) → List Sta → Int → Int → Option (Int × Unit)) (children4_20 : List (Int × List Int)) (t60_20 : List Sta) (t61_20 : Int) (t62_20 : Int) : Option (Int × Unit) :=
  (bif decide (t62_20 < t61_20) then (Option.bind (idx t60_20 t62_20) fun (v21 : Sta) => (bif (↑((yO (Ty.int IntKind.i64) (Ty.int IntKind.i64).slice children4_20 t62_20).getD []).length : Int) == 0 then (bif v21.2.2.1 != (-1 : Int) then some ((1 : Int), ()) else (bif !(↑((yO (Ty.int IntKind.i64) (Ty.int IntKind.i64).slice children4_20 t62_20).getD []).length : Int) == 0 then (bif v21.2.2.2.1 then some ((1 : Int), ()) else (Option.bind (zE_M ((yO (Ty.int IntKind.i64) (Ty.int IntKind.i64).slice children4_20 t62_20).getD []) v21.2.2.1) fun (v22 : Bool × Unit) => (bif !v22.1 then some ((1 : Int), ()) else r20 children4_20 t60_20 t61_20 (IntKind.i64.wrap (t62_20 + 1))))) else r20 children4_20 t60_20 t61_20 (IntKind.i64.wrap (t62_20 + 1)))) else (bif !(↑((yO (Ty.int IntKind.i64) (Ty.int IntKind.i64).slice children4_20 t62_20).getD []).length : Int) == 0 then (bif v21.2.2.2.1 then some ((1 : Int), ()) else (Option.bind (zE_M ((yO (Ty.int IntKind.i64) (Ty.int IntKind.i64).slice children4_20 t62_20).getD []) v21.2.2.1) fun (v23 : Bool × Unit) => (bif !v23.1 then some ((1 : Int), ()) else r20 children4_20 t60_20 t61_20 (IntKind.i64.wrap (t62_20 + 1))))) else r20 children4_20 t60_20 t61_20 (IntKind.i64.wrap (t62_20 + 1))))) else some ((0 : Int), ()))
def y5u (n : Nat)  (k : Nat) (children4_20 : List (Int × List Int)) (t60_20 : List Sta) (t61_20 : Int) (t62_20 : Int) : Option (Int × Unit) :=
  iter (fun r y => yDQ n (fun children4_20 t60_20 t61_20 t62_20 => r ((children4_20, (t60_20, (t61_20, (t62_20, ())))), ((), ()))) y.1.1 y.1.2.1 y.1.2.2.1 y.1.2.2.2.1) k ((children4_20, (t60_20, (t61_20, (t62_20, ())))), ((), ()))
def yG4 (n : Nat) (r0 : Cha → List Sta → Int → Int → List (List UInt8 × Bool) → List (Int × List Int) → Option (Int × Unit)) (c1_0 : Cha) (t15_0 : List Sta) (t16_0 : Int) (t17_0 : Int) (m0_0 : List (List UInt8 × Bool)) (m1_0 : List (Int × List Int)) : Option (Int × Unit) :=
  (bif decide (t17_0 < t16_0) then (Option.bind (idx t15_0 t17_0) fun (v1 : Sta) => (Option.bind (zm_M v1.1) fun (v2 : Int × Unit) => (bif decide (v1.2.1 < (-1 : Int)) then (Option.bind (y0s [v2.1, (z0L ((yO Ty.str Ty.bool m0_0 v1.1).getD Bool.false) (9 : Int)).1, (z0L Bool.true (11 : Int)).1]) fun (v3 : Int × Unit) => (bif v3.1 != 0 then some (v3.1, ()) else (y9A n r0 c1_0 t15_0 t16_0 t17_0 m0_0 m1_0 v1))) else (Option.bind (y0s [v2.1, (z0L ((yO Ty.str Ty.bool m0_0 v1.1).getD Bool.false) (9 : Int)).1, (z0L (decide (v1.2.1 ≥ t17_0)) (11 : Int)).1]) fun (v4 : Int × Unit) => (bif v4.1 != 0 then some (v4.1, ()) else (y9A n r0 c1_0 t15_0 t16_0 t17_0 m0_0 m1_0 v1)))))) else (y5u n n (m1_0) (c1_0.1) ((↑c1_0.1.length : Int)) ((0 : Int))))
def y8x (n : Nat)  (k : Nat) (c1_0 : Cha) (t15_0 : List Sta) (t16_0 : Int) (t17_0 : Int) (m0_0 : List (List UInt8 × Bool)) (m1_0 : List (Int × List Int)) : Option (Int × Unit) :=
  iter (fun r y => yG4 n (fun c1_0 t15_0 t16_0 t17_0 m0_0 m1_0 => r ((c1_0, (t15_0, (t16_0, (t17_0, ())))), ((m0_0, (m1_0, ())), ()))) y.1.1 y.1.2.1 y.1.2.2.1 y.1.2.2.2.1 y.2.1.1 y.2.1.2.1) k ((c1_0, (t15_0, (t16_0, (t17_0, ())))), ((m0_0, (m1_0, ())), ()))
def zF_m (n : Nat) (c : Cha) : Option (Int × Unit) :=
  (y8x n n (c) (c.1) ((↑c.1.length : Int)) ((0 : Int)) ([]) ([]))
theorem yPG (n : Nat) (x : zF_a.den) : runF zF_g (yNo n) Tryz.f67 zF_a zF_r x = zF_m n x.1 := by kernel_rfl
def y8Q (c1_0 : Cha) (t15_0 : List Sta) (t17_0 : Int) (m0_0 : List (List UInt8 × Bool)) (m1_0 : List (Int × List Int)) (v1 : Sta) : Option ((Int × Unit) ⊕ ((List (List UInt8 × Bool)) × (List (Int × List Int)))) :=
  (bif y2S (Ty.int IntKind.i64) v1.2.1 v1.2.1 then (bif decide (((yO (Ty.int IntKind.i64) (Ty.int IntKind.i64).slice m1_0 v1.2.1).getD []).length + (1 : Nat) ≤ memMax) then (bif y2S (Ty.int IntKind.i64) v1.2.1 v1.2.1 then (some (Sum.inr ((yx Ty.str Ty.bool m0_0 v1.1 Bool.true), (yx (Ty.int IntKind.i64) (Ty.int IntKind.i64).slice m1_0 v1.2.1 ((yO (Ty.int IntKind.i64) (Ty.int IntKind.i64).slice m1_0 v1.2.1).getD [] ++ [t17_0]))))) else none) else none) else none)
theorem y0L (n : Nat) (hn : big ≤ n)  (r0 : Cha → List Sta → Int → Int → List (List UInt8 × Bool) → List (Int × List Int) → Option (Int × Unit)) (c1_0 : Cha) (t15_0 : List Sta) (t17_0 : Int) (m0_0 : List (List UInt8 × Bool)) (m1_0 : List (Int × List Int)) (v1 : Sta) : LeF (elim some fun (s__ : ((List (List UInt8 × Bool)) × (List (Int × List Int)))) => r0 c1_0 t15_0 (List.length (t15_0) : Int) (IntKind.i64.wrap (t17_0 + 1)) s__.1 s__.2) (y8Q c1_0 t15_0 t17_0 m0_0 m1_0 v1) (y9A n r0 c1_0 t15_0 (List.length (t15_0) : Int) t17_0 m0_0 m1_0 v1) :=
  (y3 (y3 (y3 (y5 rfl) yr) yr) yr)
def y86 (children4_20 : List (Int × List Int)) (t60_20 : List Sta) (t62_20 : Int) (v21 : Sta) : Option ((Int × Unit) ⊕ Unit) :=
  (bif (↑((yO (Ty.int IntKind.i64) (Ty.int IntKind.i64).slice children4_20 t62_20).getD []).length : Int) == 0 then (bif v21.2.2.1 != (-1 : Int) then (some (Sum.inl (((1 : Int), ())))) else (bif !(↑((yO (Ty.int IntKind.i64) (Ty.int IntKind.i64).slice children4_20 t62_20).getD []).length : Int) == 0 then (bif v21.2.2.2.1 then (some (Sum.inl (((1 : Int), ())))) else (Option.bind (zE_M ((yO (Ty.int IntKind.i64) (Ty.int IntKind.i64).slice children4_20 t62_20).getD []) v21.2.2.1) fun (v22 : Bool × Unit) => (bif !v22.1 then (some (Sum.inl (((1 : Int), ())))) else (some (Sum.inr ()))))) else (some (Sum.inr ())))) else (bif !(↑((yO (Ty.int IntKind.i64) (Ty.int IntKind.i64).slice children4_20 t62_20).getD []).length : Int) == 0 then (bif v21.2.2.2.1 then (some (Sum.inl (((1 : Int), ())))) else (Option.bind (zE_M ((yO (Ty.int IntKind.i64) (Ty.int IntKind.i64).slice children4_20 t62_20).getD []) v21.2.2.1) fun (v23 : Bool × Unit) => (bif !v23.1 then (some (Sum.inl (((1 : Int), ())))) else (some (Sum.inr ()))))) else (some (Sum.inr ()))))
def yCN (children4_20 : List (Int × List Int)) (t60_20 : List Sta) : Option (Int × Unit) :=
  (some (((0 : Int), ())))
theorem yBO (n : Nat) (hn : big ≤ n)  (children4_20 : List (Int × List Int)) (t60_20 : List Sta) (hx : List.length (t60_20) < lenMax) : LeF some (yE (fun i__ e__ s__ => y86 children4_20 t60_20 i__ e__) (fun s__ => yCN children4_20 t60_20) 0 (t60_20) ()) (y5u n n children4_20 t60_20 (List.length (t60_20) : Int) 0) := by
  refine yL (f := some) (W := fun k__ i__ s__ => y5u n k__ children4_20 t60_20 (List.length (t60_20) : Int) i__) (body := (fun i__ e__ s__ => y86 children4_20 t60_20 i__ e__)) (fin := (fun s__ => yCN children4_20 t60_20)) (fun k__ i__ s__ => ?_) hx () n (by unfold big at hn; unfold lenMax at hx; omega)
  show LeF _ _ (yDQ n (y5u n k__) children4_20 t60_20 (List.length (t60_20) : Int) i__)
  exact y3 (y8 fun v21 => (y3 (y3 (y5 rfl) (y3 (y3 (y5 rfl) (y8 fun v22 => (y3 (y5 rfl) (y5 rfl)))) (y5 rfl))) (y3 (y3 (y5 rfl) (y8 fun v23 => (y3 (y5 rfl) (y5 rfl)))) (y5 rfl)))) (yw (y5 rfl))
def y94 (c1_0 : Cha) (t15_0 : List Sta) (t17_0 : Int) (v1 : Sta) (m0_0 : List (List UInt8 × Bool)) (m1_0 : List (Int × List Int)) : Option ((Int × Unit) ⊕ ((List (List UInt8 × Bool)) × (List (Int × List Int)))) :=
  (Option.bind (zm_M v1.1) fun (v2 : Int × Unit) => (bif decide (v1.2.1 < (-1 : Int)) then (Option.bind (y0s [v2.1, (z0L ((yO Ty.str Ty.bool m0_0 v1.1).getD Bool.false) (9 : Int)).1, (z0L Bool.true (11 : Int)).1]) fun (v3 : Int × Unit) => (bif v3.1 != 0 then (some (Sum.inl ((v3.1, ())))) else (y8Q c1_0 t15_0 t17_0 m0_0 m1_0 v1))) else (Option.bind (y0s [v2.1, (z0L ((yO Ty.str Ty.bool m0_0 v1.1).getD Bool.false) (9 : Int)).1, (z0L (decide (v1.2.1 ≥ t17_0)) (11 : Int)).1]) fun (v4 : Int × Unit) => (bif v4.1 != 0 then (some (Sum.inl ((v4.1, ())))) else (y8Q c1_0 t15_0 t17_0 m0_0 m1_0 v1)))))
def yCG (c1_0 : Cha) (t15_0 : List Sta) (m0_0 : List (List UInt8 × Bool)) (m1_0 : List (Int × List Int)) : Option (Int × Unit) :=
  (bif decide (List.length (c1_0.1) < lenMax) then yE (fun i__ e__ s__ => y86 (m1_0) (c1_0.1) i__ e__) (fun s__ => yCN (m1_0) (c1_0.1)) 0 (c1_0.1) () else none)
theorem yEC (n : Nat) (hn : big ≤ n)  (c1_0 : Cha) (t15_0 : List Sta) (m0_0 : List (List UInt8 × Bool)) (m1_0 : List (Int × List Int)) (hx : List.length (t15_0) < lenMax) : LeF some (yE (fun i__ e__ s__ => y94 c1_0 t15_0 i__ e__ s__.1 s__.2) (fun s__ => yCG c1_0 t15_0 s__.1 s__.2) 0 (t15_0) (m0_0, m1_0)) (y8x n n c1_0 t15_0 (List.length (t15_0) : Int) 0 m0_0 m1_0) := by
  refine yL (f := some) (W := fun k__ i__ s__ => y8x n k__ c1_0 t15_0 (List.length (t15_0) : Int) i__ s__.1 s__.2) (body := (fun i__ e__ s__ => y94 c1_0 t15_0 i__ e__ s__.1 s__.2)) (fin := (fun s__ => yCG c1_0 t15_0 s__.1 s__.2)) (fun k__ i__ s__ => ?_) hx (m0_0, m1_0) n (by unfold big at hn; unfold lenMax at hx; omega)
  show LeF _ _ (yG4 n (y8x n k__) c1_0 t15_0 (List.length (t15_0) : Int) i__ s__.1 s__.2)
  exact y3 (y8 fun v1 => (y8 fun v2 => (y3 (y8 fun v3 => (y3 (y5 rfl) (by apply y0L n hn))) (y8 fun v4 => (y3 (y5 rfl) (by apply y0L n hn)))))) (yw (yK fun hx => by apply yBO n hn; exact hx))
def zF_M (c : Cha) : Option (Int × Unit) :=
  (bif decide (List.length (c.1) < lenMax) then yE (fun i__ e__ s__ => y94 (c) (c.1) i__ e__ s__.1 s__.2) (fun s__ => yCG (c) (c.1) s__.1 s__.2) 0 (c.1) (([]), ([])) else none)
theorem yMX (c : Cha) (y : Int × Unit) (h : zF_M c = some y) : ∃ n, zF_m n c = some y :=
  ⟨big, LeF.top (show LeF some (zF_M c) (zF_m big c) from (fun (n : Nat) (hn : big ≤ n) => show LeF some (zF_M c) (zF_m n c) from (yK fun hx => by apply yEC n hn; exact hx)) big (Nat.le_refl _)) h⟩
def zF_e : Entry := { f := 67, args := zF_a, ress := zF_r, m := fun x => zF_M x.1 }
theorem yQ4 : FnOK Tryz.prog zF_e := yW (g := zF_g) (fn := Tryz.f67) yD yV (yH yHT (yH y5H (yH y4D (yH yPt eNil)))) (by kernel_rfl) (by kernel_rfl) (by kernel_rfl) (fun x y h => let ⟨n, hn⟩ := yMX x.1 y h; ⟨yNo n, iNil, (yPG n x).trans hn⟩)
abbrev yKV : Ty := .pair t36 .unit
abbrev yOk : Ty := .pair t102 (.pair t42 .unit)
def yOW : G := { T := T, E := [z07_e, zm_e, z0L_e, z0D_e], muts := [13], fz := [] }
def yQ7 : List (List Nat) := [[4, 14, 15, 16]]
def yJE (n : Nat) : Ann := { keep := yQ7, fuel := n, inl := [], deep := 0 }
def yCt (n : Nat) (r0 : List Cmd → Int → Int → List (Int × List UInt8) → Option (List (Int × List UInt8) × Int × Unit)) (t14_0 : List Cmd) (t15_0 : Int) (t16_0 : Int) (m0_0 : List (Int × List UInt8)) : Option (List (Int × List UInt8) × Int × Unit) :=
  (bif decide (t16_0 < t15_0) then (Option.bind (idx t14_0 t16_0) fun (v1 : Cmd) => (Option.bind (zm_M v1.2.2.1) fun (v2 : Int × Unit) => (bif (yO (Ty.int IntKind.i64) Ty.str m0_0 v1.1).isSome then (Option.bind (y0s [(z07 v1.1 (1 : Int) (999999999 : Int)).1, (z07 v1.2.1 (0 : Int) (1 : Int)).1, v2.1, (z0L (!(yO (Ty.int IntKind.i64) Ty.str m0_0 v1.1).getD [] == v1.2.2.1) (30 : Int)).1]) fun (v3 : Int × Unit) => (bif v3.1 != 0 then some ([], v3.1, ()) else r0 t14_0 t15_0 (IntKind.i64.wrap (t16_0 + 1)) (yx (Ty.int IntKind.i64) Ty.str m0_0 v1.1 v1.2.2.1))) else (Option.bind (y0s [(z07 v1.1 (1 : Int) (999999999 : Int)).1, (z07 v1.2.1 (0 : Int) (1 : Int)).1, v2.1, (z0L Bool.false (30 : Int)).1]) fun (v4 : Int × Unit) => (bif v4.1 != 0 then some ([], v4.1, ()) else r0 t14_0 t15_0 (IntKind.i64.wrap (t16_0 + 1)) (yx (Ty.int IntKind.i64) Ty.str m0_0 v1.1 v1.2.2.1)))))) else some (m0_0, (0 : Int), ()))
def y5s (n : Nat)  (k : Nat) (t14_0 : List Cmd) (t15_0 : Int) (t16_0 : Int) (m0_0 : List (Int × List UInt8)) : Option (List (Int × List UInt8) × Int × Unit) :=
  iter (fun r y => yCt n (fun t14_0 t15_0 t16_0 m0_0 => r ((t14_0, (t15_0, (t16_0, ()))), ((m0_0, ()), ()))) y.1.1 y.1.2.1 y.1.2.2.1 y.2.1.1) k ((t14_0, (t15_0, (t16_0, ()))), ((m0_0, ()), ()))
def yIb (n : Nat) (l : List Cmd) : Option (List (Int × List UInt8) × Int × Unit) :=
  (bif decide ((↑l.length : Int) > 256) then some ([], (5 : Int), ()) else (y5s n n (l) ((↑l.length : Int)) ((0 : Int)) ([])))
theorem yOe (n : Nat) (x : yKV.den) : runF yOW (yJE n) Tryz.f40 yKV yOk x = yIb n x.1 := by kernel_rfl
def y70 (t14_0 : List Cmd) (t16_0 : Int) (v1 : Cmd) (m0_0 : List (Int × List UInt8)) : Option ((List (Int × List UInt8) × Int × Unit) ⊕ (List (Int × List UInt8))) :=
  (Option.bind (zm_M v1.2.2.1) fun (v2 : Int × Unit) => (bif (yO (Ty.int IntKind.i64) Ty.str m0_0 v1.1).isSome then (Option.bind (y0s [(z07 v1.1 (1 : Int) (999999999 : Int)).1, (z07 v1.2.1 (0 : Int) (1 : Int)).1, v2.1, (z0L (!(yO (Ty.int IntKind.i64) Ty.str m0_0 v1.1).getD [] == v1.2.2.1) (30 : Int)).1]) fun (v3 : Int × Unit) => (bif v3.1 != 0 then (some (Sum.inl (([], v3.1, ())))) else (some (Sum.inr (yx (Ty.int IntKind.i64) Ty.str m0_0 v1.1 v1.2.2.1))))) else (Option.bind (y0s [(z07 v1.1 (1 : Int) (999999999 : Int)).1, (z07 v1.2.1 (0 : Int) (1 : Int)).1, v2.1, (z0L Bool.false (30 : Int)).1]) fun (v4 : Int × Unit) => (bif v4.1 != 0 then (some (Sum.inl (([], v4.1, ())))) else (some (Sum.inr (yx (Ty.int IntKind.i64) Ty.str m0_0 v1.1 v1.2.2.1)))))))
def yAD (t14_0 : List Cmd) (m0_0 : List (Int × List UInt8)) : Option (List (Int × List UInt8) × Int × Unit) :=
  (some ((m0_0, (0 : Int), ())))
theorem yCE (n : Nat) (hn : big ≤ n)  (t14_0 : List Cmd) (m0_0 : List (Int × List UInt8)) (hx : List.length (t14_0) < lenMax) : LeF some (yE (fun i__ e__ s__ => y70 t14_0 i__ e__ s__) (fun s__ => yAD t14_0 s__) 0 (t14_0) m0_0) (y5s n n t14_0 (List.length (t14_0) : Int) 0 m0_0) := by
  refine yL (f := some) (W := fun k__ i__ s__ => y5s n k__ t14_0 (List.length (t14_0) : Int) i__ s__) (body := (fun i__ e__ s__ => y70 t14_0 i__ e__ s__)) (fin := (fun s__ => yAD t14_0 s__)) (fun k__ i__ s__ => ?_) hx m0_0 n (by unfold big at hn; unfold lenMax at hx; omega)
  show LeF _ _ (yCt n (y5s n k__) t14_0 (List.length (t14_0) : Int) i__ s__)
  exact y3 (y8 fun v1 => (y8 fun v2 => (y3 (y8 fun v3 => (y3 (y5 rfl) (y5 rfl))) (y8 fun v4 => (y3 (y5 rfl) (y5 rfl)))))) (yw (y5 rfl))
def y6K (l : List Cmd) : Option (List (Int × List UInt8) × Int × Unit) :=
  (bif decide ((↑l.length : Int) > 256) then (some (([], (5 : Int), ()))) else (bif decide (List.length (l) < lenMax) then yE (fun i__ e__ s__ => y70 (l) i__ e__ s__) (fun s__ => yAD (l) s__) 0 (l) ([]) else none))
theorem yJj (l : List Cmd) (y : List (Int × List UInt8) × Int × Unit) (h : y6K l = some y) : ∃ n, yIb n l = some y :=
  ⟨big, LeF.top (show LeF some (y6K l) (yIb big l) from (fun (n : Nat) (hn : big ≤ n) => show LeF some (y6K l) (yIb n l) from (y3 (y5 rfl) (yK fun hx => by apply yCE n hn; exact hx))) big (Nat.le_refl _)) h⟩
def z0F_e : Entry := { f := 40, args := yKV, ress := yOk, m := fun x => y6K x.1 }
theorem yJ8 : FnOK Tryz.prog z0F_e := yW (g := yOW) (fn := Tryz.f40) yD yV (yH yCd (yH yHT (yH y5H (yH y4D eNil)))) (by kernel_rfl) (by kernel_rfl) (by kernel_rfl) (fun x y h => let ⟨n, hn⟩ := yJj x.1 y h; ⟨yJE n, iNil, (yOe n x).trans hn⟩)
abbrev yLB : Ty := .pair t3 .unit
abbrev yOI : Ty := .pair t42 .unit
def yLo : G := { T := T, E := [z07_e], muts := [], fz := [] }
def yPM : List (List Nat) := []
def yJN (n : Nat) : Ann := { keep := yPM, fuel := n, inl := [], deep := 0 }
def yI0 (n : Nat) (n1 : Int) : Option (Int × Unit) :=
  some ((z07 n1 (0 : Int) (1000 : Int)).1, ())
theorem yLV (n : Nat) (x : yLB.den) : runF yLo (yJN n) Tryz.f61 yLB yOI x = yI0 n x.1 := by kernel_rfl
def z04 (n1 : Int) : (Int × Unit) :=
  ((z07 n1 (0 : Int) (1000 : Int)).1, ())
abbrev yHt (n1 : Int) : Option (Int × Unit) := some (z04 n1)
theorem yLE (n1 : Int) (y : Int × Unit) (h : yHt n1 = some y) : ∃ n, yI0 n n1 = some y :=
  ⟨0, by rw [← h]; show yI0 0 n1 = some (z04 n1); unfold yI0 z04; first | rfl | (simp only [yG]; done) | (simp only [yG]; rfl)⟩
def z04_e : Entry := { f := 61, args := yLB, ress := yOI, m := fun x => yHt x.1 }
theorem yLK : FnOK Tryz.prog z04_e := yW (g := yLo) (fn := Tryz.f61) yD yV (yH yCd eNil) (by kernel_rfl) (by kernel_rfl) (by kernel_rfl) (fun x y h => let ⟨n, hn⟩ := yLE x.1 y h; ⟨yJN n, iNil, (yLV n x).trans hn⟩)
abbrev yKf : Ty := .pair t25 (.pair t4 .unit)
abbrev yMB : Ty := .pair t33 .unit
def yM2 : G := { T := T, E := [z02_e, z03_e, z0C_e], muts := [5], fz := [] }
def yOy : List (List Nat) := [[1, 2, 5, 6, 7], [1, 2, 5, 6, 7, 8], [1, 2, 5, 6, 7, 8, 9]]
def yJS (n : Nat) : Ann := { keep := yOy, fuel := n, inl := [], deep := 0 }
def y1p (n : Nat) (r6 : Bool → Cha → List (List UInt8) → Int → Int → Int → List Cas → Option (List Cas × Unit)) (many1_6 : Bool) (c2_6 : Cha) (events6_6 : List (List UInt8)) (i7_6 : Int) (k8_6 : Int) (v9_6 : Int) (cs0_6 : List Cas) (j12 : Bool) : Option (List Cas × Unit) :=
  (bif j12 then (Option.bind (idx events6_6 k8_6) fun (v13 : List UInt8) => (bif decide (cs0_6.length + (1 : Nat) ≤ memMax) then r6 many1_6 c2_6 events6_6 i7_6 k8_6 (IntKind.i64.wrap (v9_6 + 1)) (cs0_6 ++ [(i7_6, v13, v9_6, ())]) else none)) else r6 many1_6 c2_6 events6_6 i7_6 k8_6 (IntKind.i64.wrap (v9_6 + 1)) cs0_6)
def yD2 (n : Nat) (r2 : Bool → Cha → List (List UInt8) → Int → Int → List Cas → Option (List Cas × Unit)) (r6 : Bool → Cha → List (List UInt8) → Int → Int → Int → List Cas → Option (List Cas × Unit)) (many1_6 : Bool) (c2_6 : Cha) (events6_6 : List (List UInt8)) (i7_6 : Int) (k8_6 : Int) (v9_6 : Int) (cs0_6 : List Cas) : Option (List Cas × Unit) :=
  (bif decide (v9_6 < 16) then (Option.bind (idx events6_6 k8_6) fun (v7 : List UInt8) => (Option.bind (yAT c2_6 i7_6 (v7, v9_6, ())) fun (v8 : Int × Tra × Unit) => (bif decide (v8.1 > 1) then (bif many1_6 then (y1p n r6 many1_6 c2_6 events6_6 i7_6 k8_6 v9_6 cs0_6 (Bool.true)) else (bif v8.1 == 0 then (y1p n r6 many1_6 c2_6 events6_6 i7_6 k8_6 v9_6 cs0_6 (!many1_6)) else (y1p n r6 many1_6 c2_6 events6_6 i7_6 k8_6 v9_6 cs0_6 (Bool.false)))) else (bif v8.1 == 0 then (y1p n r6 many1_6 c2_6 events6_6 i7_6 k8_6 v9_6 cs0_6 (!many1_6)) else (y1p n r6 many1_6 c2_6 events6_6 i7_6 k8_6 v9_6 cs0_6 (Bool.false)))))) else r2 many1_6 c2_6 events6_6 i7_6 (IntKind.i64.wrap (k8_6 + 1)) cs0_6)
def y62 (n : Nat) (r2 : Bool → Cha → List (List UInt8) → Int → Int → List Cas → Option (List Cas × Unit)) (k : Nat) (many1_6 : Bool) (c2_6 : Cha) (events6_6 : List (List UInt8)) (i7_6 : Int) (k8_6 : Int) (v9_6 : Int) (cs0_6 : List Cas) : Option (List Cas × Unit) :=
  iter (fun r y => yD2 n r2 (fun many1_6 c2_6 events6_6 i7_6 k8_6 v9_6 cs0_6 => r ((many1_6, (c2_6, (events6_6, (i7_6, (k8_6, (v9_6, ())))))), ((cs0_6, ()), ()))) y.1.1 y.1.2.1 y.1.2.2.1 y.1.2.2.2.1 y.1.2.2.2.2.1 y.1.2.2.2.2.2.1 y.2.1.1) k ((many1_6, (c2_6, (events6_6, (i7_6, (k8_6, (v9_6, ())))))), ((cs0_6, ()), ()))
def yD9 (n : Nat) (r1 : Bool → Cha → List (List UInt8) → Int → List Cas → Option (List Cas × Unit)) (r2 : Bool → Cha → List (List UInt8) → Int → Int → List Cas → Option (List Cas × Unit)) (many1_2 : Bool) (c2_2 : Cha) (events6_2 : List (List UInt8)) (i7_2 : Int) (k8_2 : Int) (cs0_2 : List Cas) : Option (List Cas × Unit) :=
  (Option.bind (yEo c2_2 i7_2) fun (v3 : Bool × Unit) => (bif v3.1 then (bif decide (k8_2 < (↑events6_2.length : Int)) then (y62 n r2 n (many1_2) (c2_2) (events6_2) (i7_2) (k8_2) ((0 : Int)) (cs0_2)) else r1 many1_2 c2_2 events6_2 (IntKind.i64.wrap (i7_2 + 1)) cs0_2) else r1 many1_2 c2_2 events6_2 (IntKind.i64.wrap (i7_2 + 1)) cs0_2))
def y5l (n : Nat) (r1 : Bool → Cha → List (List UInt8) → Int → List Cas → Option (List Cas × Unit)) (k : Nat) (many1_2 : Bool) (c2_2 : Cha) (events6_2 : List (List UInt8)) (i7_2 : Int) (k8_2 : Int) (cs0_2 : List Cas) : Option (List Cas × Unit) :=
  iter (fun r y => yD9 n r1 (fun many1_2 c2_2 events6_2 i7_2 k8_2 cs0_2 => r ((many1_2, (c2_2, (events6_2, (i7_2, (k8_2, ()))))), ((cs0_2, ()), ()))) y.1.1 y.1.2.1 y.1.2.2.1 y.1.2.2.2.1 y.1.2.2.2.2.1 y.2.1.1) k ((many1_2, (c2_2, (events6_2, (i7_2, (k8_2, ()))))), ((cs0_2, ()), ()))
def yCx (n : Nat) (r1 : Bool → Cha → List (List UInt8) → Int → List Cas → Option (List Cas × Unit)) (many1_1 : Bool) (c2_1 : Cha) (events6_1 : List (List UInt8)) (i7_1 : Int) (cs0_1 : List Cas) : Option (List Cas × Unit) :=
  (bif decide (i7_1 < (↑c2_1.1.length : Int)) then (y5l n r1 n (many1_1) (c2_1) (events6_1) (i7_1) ((0 : Int)) (cs0_1)) else some (cs0_1, ()))
def y5g (n : Nat)  (k : Nat) (many1_1 : Bool) (c2_1 : Cha) (events6_1 : List (List UInt8)) (i7_1 : Int) (cs0_1 : List Cas) : Option (List Cas × Unit) :=
  iter (fun r y => yCx n (fun many1_1 c2_1 events6_1 i7_1 cs0_1 => r ((many1_1, (c2_1, (events6_1, (i7_1, ())))), ((cs0_1, ()), ()))) y.1.1 y.1.2.1 y.1.2.2.1 y.1.2.2.2.1 y.2.1.1) k ((many1_1, (c2_1, (events6_1, (i7_1, ())))), ((cs0_1, ()), ()))
def yIQ (n : Nat) (c : Cha) (many : Bool) : Option (List Cas × Unit) :=
  (Option.bind (y7P c) fun (v0 : List (List UInt8) × Unit) => (y5g n n (many) (c) (v0.1) ((0 : Int)) ([])))
theorem yMV (n : Nat) (x : yKf.den) : runF yM2 (yJS n) Tryz.f35 yKf yMB x = yIQ n x.1 x.2.1 := by kernel_rfl
def y3A (many1_6 : Bool) (c2_6 : Cha) (events6_6 : List (List UInt8)) (i7_6 : Int) (k8_6 : Int) (v9_6 : Int) (cs0_6 : List Cas) (j12 : Bool) : Option ((((List Cas × Unit) ⊕ (List Cas)) ⊕ (Int × (List Cas))) ⊕ (List Cas)) :=
  (bif j12 then (Option.bind (idx events6_6 k8_6) fun (v13 : List UInt8) => (bif decide (cs0_6.length + (1 : Nat) ≤ memMax) then (some (Sum.inr (cs0_6 ++ [(i7_6, v13, v9_6, ())]))) else none)) else (some (Sum.inr (cs0_6))))
theorem y05 (n : Nat) (hn : big ≤ n) (r1 : Bool → Cha → List (List UInt8) → Int → List Cas → Option (List Cas × Unit)) (r2 : Bool → Cha → List (List UInt8) → Int → Int → List Cas → Option (List Cas × Unit)) (r6 : Bool → Cha → List (List UInt8) → Int → Int → Int → List Cas → Option (List Cas × Unit)) (many1_6 : Bool) (c2_6 : Cha) (events6_6 : List (List UInt8)) (i7_6 : Int) (k8_6 : Int) (v9_6 : Int) (cs0_6 : List Cas) (j12 : Bool) : LeF (elim (elim (elim some fun (s__ : (List Cas)) => r1 many1_6 c2_6 events6_6 (IntKind.i64.wrap (i7_6 + 1)) s__) fun (s__ : (Int × (List Cas))) => r2 many1_6 c2_6 events6_6 i7_6 s__.1 s__.2) fun (s__ : (List Cas)) => r6 many1_6 c2_6 events6_6 i7_6 k8_6 (IntKind.i64.wrap (v9_6 + 1)) s__) (y3A many1_6 c2_6 events6_6 i7_6 k8_6 v9_6 cs0_6 j12) (y1p n r6 many1_6 c2_6 events6_6 i7_6 k8_6 v9_6 cs0_6 j12) :=
  (y3 (y8 fun v13 => (y3 (y5 rfl) yr)) (y5 rfl))
def y7m (many1_6 : Bool) (c2_6 : Cha) (events6_6 : List (List UInt8)) (i7_6 : Int) (k8_6 : Int) (v9_6 : Int) (cs0_6 : List Cas) : Option ((((List Cas × Unit) ⊕ (List Cas)) ⊕ (Int × (List Cas))) ⊕ (List Cas)) :=
  (Option.bind (idx events6_6 k8_6) fun (v7 : List UInt8) => (Option.bind (yAT c2_6 i7_6 (v7, v9_6, ())) fun (v8 : Int × Tra × Unit) => (bif decide (v8.1 > 1) then (bif many1_6 then (y3A many1_6 c2_6 events6_6 i7_6 k8_6 v9_6 cs0_6 (Bool.true)) else (bif v8.1 == 0 then (y3A many1_6 c2_6 events6_6 i7_6 k8_6 v9_6 cs0_6 (!many1_6)) else (y3A many1_6 c2_6 events6_6 i7_6 k8_6 v9_6 cs0_6 (Bool.false)))) else (bif v8.1 == 0 then (y3A many1_6 c2_6 events6_6 i7_6 k8_6 v9_6 cs0_6 (!many1_6)) else (y3A many1_6 c2_6 events6_6 i7_6 k8_6 v9_6 cs0_6 (Bool.false))))))
def yCc (many1_6 : Bool) (c2_6 : Cha) (events6_6 : List (List UInt8)) (i7_6 : Int) (k8_6 : Int) (cs0_6 : List Cas) : Option (((List Cas × Unit) ⊕ (List Cas)) ⊕ (Int × (List Cas))) :=
  (some (Sum.inr ((IntKind.i64.wrap (k8_6 + 1)), (cs0_6))))
theorem yBk (n : Nat) (hn : big ≤ n) (r1 : Bool → Cha → List (List UInt8) → Int → List Cas → Option (List Cas × Unit)) (r2 : Bool → Cha → List (List UInt8) → Int → Int → List Cas → Option (List Cas × Unit)) (many1_6 : Bool) (c2_6 : Cha) (events6_6 : List (List UInt8)) (i7_6 : Int) (k8_6 : Int) (cs0_6 : List Cas) (hx : ((16 : Int)) ≤ 9223372036854775807) : LeF (elim (elim some fun (s__ : (List Cas)) => r1 many1_6 c2_6 events6_6 (IntKind.i64.wrap (i7_6 + 1)) s__) fun (s__ : (Int × (List Cas))) => r2 many1_6 c2_6 events6_6 i7_6 s__.1 s__.2) (y0D (fun i__ s__ => y7m many1_6 c2_6 events6_6 i7_6 k8_6 i__ s__) (fun s__ => yCc many1_6 c2_6 events6_6 i7_6 k8_6 s__) (((16 : Int)) - 0).toNat 0 cs0_6) (y62 n r2 n many1_6 c2_6 events6_6 i7_6 k8_6 0 cs0_6) := by
  refine y1M (f := (elim (elim some fun (s__ : (List Cas)) => r1 many1_6 c2_6 events6_6 (IntKind.i64.wrap (i7_6 + 1)) s__) fun (s__ : (Int × (List Cas))) => r2 many1_6 c2_6 events6_6 i7_6 s__.1 s__.2)) (W := fun k__ i__ s__ => y62 n r2 k__ many1_6 c2_6 events6_6 i7_6 k8_6 i__ s__) (body := (fun i__ s__ => y7m many1_6 c2_6 events6_6 i7_6 k8_6 i__ s__)) (fin := (fun s__ => yCc many1_6 c2_6 events6_6 i7_6 k8_6 s__)) (fun k__ i__ s__ => ?_) hx cs0_6 n 0 (by decide) (by unfold big at hn; omega)
  show LeF _ _ (yD2 n r2 (y62 n r2 k__) many1_6 c2_6 events6_6 i7_6 k8_6 i__ s__)
  exact y3 (y8 fun v7 => (y8 fun v8 => (y3 (y3 (by apply y05 n hn) (y3 (by apply y05 n hn) (by apply y05 n hn))) (y3 (by apply y05 n hn) (by apply y05 n hn))))) (yw (y5 rfl))
def y3i (many1_2 : Bool) (c2_2 : Cha) (events6_2 : List (List UInt8)) (i7_2 : Int) (k8_2 : Int) (cs0_2 : List Cas) : Option (((List Cas × Unit) ⊕ (List Cas)) ⊕ (Int × (List Cas))) :=
  (Option.bind (yEo c2_2 i7_2) fun (v3 : Bool × Unit) => (bif v3.1 then (bif decide (k8_2 < (↑events6_2.length : Int)) then (bif decide (((16 : Int)) ≤ 9223372036854775807) then y0D (fun i__ s__ => y7m (many1_2) (c2_2) (events6_2) (i7_2) (k8_2) i__ s__) (fun s__ => yCc (many1_2) (c2_2) (events6_2) (i7_2) (k8_2) s__) (((16 : Int)) - 0).toNat 0 (cs0_2) else none) else (some (Sum.inl (Sum.inr (cs0_2))))) else (some (Sum.inl (Sum.inr (cs0_2))))))
theorem yBa (n : Nat) (hn : big ≤ n)  (r1 : Bool → Cha → List (List UInt8) → Int → List Cas → Option (List Cas × Unit)) (many1_2 : Bool) (c2_2 : Cha) (events6_2 : List (List UInt8)) (i7_2 : Int) (k8_2 : Int) (cs0_2 : List Cas) : LeF (elim some fun (s__ : (List Cas)) => r1 many1_2 c2_2 events6_2 (IntKind.i64.wrap (i7_2 + 1)) s__) (y0k (fun s__ => y3i many1_2 c2_2 events6_2 i7_2 s__.1 s__.2) wMax (k8_2, cs0_2)) (y5l n r1 n many1_2 c2_2 events6_2 i7_2 k8_2 cs0_2) := by
  refine y3V (f := (elim some fun (s__ : (List Cas)) => r1 many1_2 c2_2 events6_2 (IntKind.i64.wrap (i7_2 + 1)) s__)) (W := fun k__ s__ => y5l n r1 k__ many1_2 c2_2 events6_2 i7_2 s__.1 s__.2) (body := (fun s__ => y3i many1_2 c2_2 events6_2 i7_2 s__.1 s__.2)) (fun k__ s__ => ?_) wMax n (k8_2, cs0_2) (by unfold big at hn; unfold wMax; omega)
  show LeF _ _ (yD9 n r1 (y5l n r1 k__) many1_2 c2_2 events6_2 i7_2 s__.1 s__.2)
  exact (y8 fun v3 => (y3 (y3 (yK fun hx => by apply yBk n hn; exact hx) (y5 rfl)) (y5 rfl)))
def y5E (many1_1 : Bool) (c2_1 : Cha) (events6_1 : List (List UInt8)) (i7_1 : Int) (cs0_1 : List Cas) : Option ((List Cas × Unit) ⊕ (List Cas)) :=
  (y0k (fun s__ => y3i (many1_1) (c2_1) (events6_1) (i7_1) s__.1 s__.2) wMax (((0 : Int)), (cs0_1)))
def yBA (many1_1 : Bool) (c2_1 : Cha) (events6_1 : List (List UInt8)) (cs0_1 : List Cas) : Option (List Cas × Unit) :=
  (some ((cs0_1, ())))
theorem yBW (n : Nat) (hn : big ≤ n)  (many1_1 : Bool) (c2_1 : Cha) (events6_1 : List (List UInt8)) (cs0_1 : List Cas) (hx : ((↑c2_1.1.length : Int)) ≤ 9223372036854775807) : LeF some (y0D (fun i__ s__ => y5E many1_1 c2_1 events6_1 i__ s__) (fun s__ => yBA many1_1 c2_1 events6_1 s__) (((↑c2_1.1.length : Int)) - 0).toNat 0 cs0_1) (y5g n n many1_1 c2_1 events6_1 0 cs0_1) := by
  refine y1M (f := some) (W := fun k__ i__ s__ => y5g n k__ many1_1 c2_1 events6_1 i__ s__) (body := (fun i__ s__ => y5E many1_1 c2_1 events6_1 i__ s__)) (fin := (fun s__ => yBA many1_1 c2_1 events6_1 s__)) (fun k__ i__ s__ => ?_) hx cs0_1 n 0 (by decide) (by unfold big at hn; omega)
  show LeF _ _ (yCx n (y5g n k__) many1_1 c2_1 events6_1 i__ s__)
  exact y3 (by apply yBa n hn) (yw (y5 rfl))
def yBh (c : Cha) (many : Bool) : Option (List Cas × Unit) :=
  (Option.bind (y7P c) fun (v0 : List (List UInt8) × Unit) => (bif decide (((↑c.1.length : Int)) ≤ 9223372036854775807) then y0D (fun i__ s__ => y5E (many) (c) (v0.1) i__ s__) (fun s__ => yBA (many) (c) (v0.1) s__) (((↑c.1.length : Int)) - 0).toNat 0 ([]) else none))
theorem yKt (c : Cha) (many : Bool) (y : List Cas × Unit) (h : yBh c many = some y) : ∃ n, yIQ n c many = some y :=
  ⟨big, LeF.top (show LeF some (yBh c many) (yIQ big c many) from (fun (n : Nat) (hn : big ≤ n) => show LeF some (yBh c many) (yIQ n c many) from (y8 fun v0 => (yK fun hx => by apply yBW n hn; exact hx))) big (Nat.le_refl _)) h⟩
def z0B_e : Entry := { f := 35, args := yKf, ress := yMB, m := fun x => yBh x.1 x.2.1 }
theorem yNl : FnOK Tryz.prog z0B_e := yW (g := yM2) (fn := Tryz.f35) yD yV (yH yJU (yH yNC (yH yMI eNil))) (by kernel_rfl) (by kernel_rfl) (by kernel_rfl) (fun x y h => let ⟨n, hn⟩ := yKt x.1 x.2.1 y h; ⟨yJS n, iNil, (yMV n x).trans hn⟩)
abbrev zJ_a : Ty := .pair t3 .unit
abbrev zJ_r : Ty := .pair t42 .unit
def zJ_g : G := { T := T, E := [z07_e], muts := [], fz := [] }
def zJ_k : List (List Nat) := []
def yOT (n : Nat) : Ann := { keep := zJ_k, fuel := n, inl := [], deep := 0 }
def zJ_m (n : Nat) (n1 : Int) : Option (Int × Unit) :=
  some ((z07 n1 (0 : Int) (15 : Int)).1, ())
theorem yPu (n : Nat) (x : zJ_a.den) : runF zJ_g (yOT n) Tryz.f86 zJ_a zJ_r x = zJ_m n x.1 := by kernel_rfl
def zJ (n1 : Int) : (Int × Unit) :=
  ((z07 n1 (0 : Int) (15 : Int)).1, ())
abbrev zJ_M (n1 : Int) : Option (Int × Unit) := some (zJ n1)
theorem yMh (n1 : Int) (y : Int × Unit) (h : zJ_M n1 = some y) : ∃ n, zJ_m n n1 = some y :=
  ⟨0, by rw [← h]; show zJ_m 0 n1 = some (zJ n1); unfold zJ_m zJ; first | rfl | (simp only [yG]; done) | (simp only [yG]; rfl)⟩
def zJ_e : Entry := { f := 86, args := zJ_a, ress := zJ_r, m := fun x => zJ_M x.1 }
theorem yNx : FnOK Tryz.prog zJ_e := yW (g := zJ_g) (fn := Tryz.f86) yD yV (yH yCd eNil) (by kernel_rfl) (by kernel_rfl) (by kernel_rfl) (fun x y h => let ⟨n, hn⟩ := yMh x.1 y h; ⟨yOT n, iNil, (yPu n x).trans hn⟩)
abbrev zP_a : Ty := .pair t97 (.pair (.ref t3) (.pair (.ref t51) .unit))
abbrev zP_r : Ty := .pair t4 .unit
def zP_g : G := { T := T, E := [zL_e], muts := [], fz := [] }
def zP_k : List (List Nat) := []
def yM8 (n : Nat) : Ann := { keep := zP_k, fuel := n, inl := [], deep := 0 }
def zP_m (n : Nat) (t : Tra) (p1 : Int) (p2 : List UInt8 × Int × Unit) : Option (Bool × Unit) :=
  (bif t.1 == p1 then (bif t.2.1 == p2.1 then some ((zL t p2.2.1).1, ()) else some (Bool.false, ())) else some (Bool.false, ()))
theorem yQd (n : Nat) (x : zP_a.den) : runF zP_g (yM8 n) Tryz.f89 zP_a zP_r x = zP_m n x.1 x.2.1 x.2.2.1 := by kernel_rfl
def zP (t : Tra) (p1 : Int) (p2 : List UInt8 × Int × Unit) : (Bool × Unit) :=
  (bif t.1 == p1 then (bif t.2.1 == p2.1 then ((zL t p2.2.1).1, ()) else (Bool.false, ())) else (Bool.false, ()))
abbrev zP_M (t : Tra) (p1 : Int) (p2 : List UInt8 × Int × Unit) : Option (Bool × Unit) := some (zP t p1 p2)
theorem yM4 (t : Tra) (p1 : Int) (p2 : List UInt8 × Int × Unit) (y : Bool × Unit) (h : zP_M t p1 p2 = some y) : ∃ n, zP_m n t p1 p2 = some y :=
  ⟨0, by rw [← h]; show zP_m 0 t p1 p2 = some (zP t p1 p2); unfold zP_m zP; first | rfl | (simp only [yG]; done) | (simp only [yG]; rfl)⟩
def zP_e : Entry := { f := 89, args := zP_a, ress := zP_r, m := fun x => zP_M x.1 x.2.1 x.2.2.1 }
theorem yQ2 : FnOK Tryz.prog zP_e := yW (g := zP_g) (fn := Tryz.f89) yD yV (yH yQ3 eNil) (by kernel_rfl) (by kernel_rfl) (by kernel_rfl) (fun x y h => let ⟨n, hn⟩ := yM4 x.1 x.2.1 x.2.2.1 y h; ⟨yM8 n, iNil, (yQd n x).trans hn⟩)
abbrev zS_a : Ty := .pair t75 .unit
abbrev zS_r : Ty := .pair t144 (.pair t4 .unit)
def zS_g : G := { T := T, E := [z0E_e], muts := [], fz := [] }
def zS_k : List (List Nat) := [[1, 2, 6, 7]]
def yLw (n : Nat) : Ann := { keep := zS_k, fuel := n, inl := [], deep := 0 }
def yH2 (n : Nat) (r0 : Fai → List (List UInt8 × (Fai × Unit → Option (Fai × Unit)) × (Fai × Int × (List UInt8 × Int × Unit) × Unit → Option ((List UInt8 × Int × Unit) × Bool × Unit)) × Unit) → Int → List UInt8 → Option ((List UInt8 × (Fai × Unit → Option (Fai × Unit)) × (Fai × Int × (List UInt8 × Int × Unit) × Unit → Option ((List UInt8 × Int × Unit) × Bool × Unit)) × Unit) × Bool × Unit)) (f1_0 : Fai) (t6_0 : List (List UInt8 × (Fai × Unit → Option (Fai × Unit)) × (Fai × Int × (List UInt8 × Int × Unit) × Unit → Option ((List UInt8 × Int × Unit) × Bool × Unit)) × Unit)) (t7_0 : Int) (b0_0_0 : List UInt8) : Option ((List UInt8 × (Fai × Unit → Option (Fai × Unit)) × (Fai × Int × (List UInt8 × Int × Unit) × Unit → Option ((List UInt8 × Int × Unit) × Bool × Unit)) × Unit) × Bool × Unit) :=
  (bif decide (t7_0 < 3) then (Option.bind (idx t6_0 t7_0) fun (v1 : List UInt8 × (Fai × Unit → Option (Fai × Unit)) × (Fai × Int × (List UInt8 × Int × Unit) × Unit → Option ((List UInt8 × Int × Unit) × Bool × Unit)) × Unit) => (bif v1.1 == f1_0.1 then some ((v1.1, v1.2.1, v1.2.2.1, ()), Bool.true, ()) else r0 f1_0 t6_0 (IntKind.i64.wrap (t7_0 + 1)) b0_0_0)) else some (([], fun (x : Fai × Unit) => Option.none, fun (x : Fai × Int × (List UInt8 × Int × Unit) × Unit) => Option.none, ()), Bool.false, ()))
def y9X (n : Nat)  (k : Nat) (f1_0 : Fai) (t6_0 : List (List UInt8 × (Fai × Unit → Option (Fai × Unit)) × (Fai × Int × (List UInt8 × Int × Unit) × Unit → Option ((List UInt8 × Int × Unit) × Bool × Unit)) × Unit)) (t7_0 : Int) (b0_0_0 : List UInt8) : Option ((List UInt8 × (Fai × Unit → Option (Fai × Unit)) × (Fai × Int × (List UInt8 × Int × Unit) × Unit → Option ((List UInt8 × Int × Unit) × Bool × Unit)) × Unit) × Bool × Unit) :=
  iter (fun r y => yH2 n (fun f1_0 t6_0 t7_0 b0_0_0 => r ((f1_0, (t6_0, (t7_0, ()))), (((b0_0_0, ()), ()), ()))) y.1.1 y.1.2.1 y.1.2.2.1 y.2.1.1.1) k ((f1_0, (t6_0, (t7_0, ()))), (((b0_0_0, ()), ()), ()))
def zS_m (n : Nat) (f : Fai) : Option ((List UInt8 × (Fai × Unit → Option (Fai × Unit)) × (Fai × Int × (List UInt8 × Int × Unit) × Unit → Option ((List UInt8 × Int × Unit) × Bool × Unit)) × Unit) × Bool × Unit) :=
  (y9X n n (f) (z0E.1) ((0 : Int)) ([]))
theorem yPe (n : Nat) (x : zS_a.den) : runF zS_g (yLw n) Tryz.f73 zS_a zS_r x = zS_m n x.1 := by kernel_rfl
def yKx (f1_0 : Fai) (t6_0 : List (List UInt8 × (Fai × Unit → Option (Fai × Unit)) × (Fai × Int × (List UInt8 × Int × Unit) × Unit → Option ((List UInt8 × Int × Unit) × Bool × Unit)) × Unit)) (b0_0_0 : List UInt8) (t7_0 : Int) : Option (((List UInt8 × (Fai × Unit → Option (Fai × Unit)) × (Fai × Int × (List UInt8 × Int × Unit) × Unit → Option ((List UInt8 × Int × Unit) × Bool × Unit)) × Unit) × Bool × Unit) ⊕ Unit) :=
  (Option.bind (idx t6_0 t7_0) fun (v1 : List UInt8 × (Fai × Unit → Option (Fai × Unit)) × (Fai × Int × (List UInt8 × Int × Unit) × Unit → Option ((List UInt8 × Int × Unit) × Bool × Unit)) × Unit) => (bif v1.1 == f1_0.1 then (some (Sum.inl (((v1.1, v1.2.1, v1.2.2.1, ()), Bool.true, ())))) else (some (Sum.inr ()))))
def yK9 (f1_0 : Fai) (t6_0 : List (List UInt8 × (Fai × Unit → Option (Fai × Unit)) × (Fai × Int × (List UInt8 × Int × Unit) × Unit → Option ((List UInt8 × Int × Unit) × Bool × Unit)) × Unit)) (b0_0_0 : List UInt8) : Option ((List UInt8 × (Fai × Unit → Option (Fai × Unit)) × (Fai × Int × (List UInt8 × Int × Unit) × Unit → Option ((List UInt8 × Int × Unit) × Bool × Unit)) × Unit) × Bool × Unit) :=
  (some ((([], fun (x : Fai × Unit) => Option.none, fun (x : Fai × Int × (List UInt8 × Int × Unit) × Unit) => Option.none, ()), Bool.false, ())))
theorem yDg (n : Nat) (hn : big ≤ n)  (f1_0 : Fai) (t6_0 : List (List UInt8 × (Fai × Unit → Option (Fai × Unit)) × (Fai × Int × (List UInt8 × Int × Unit) × Unit → Option ((List UInt8 × Int × Unit) × Bool × Unit)) × Unit)) (b0_0_0 : List UInt8) (hx : ((3 : Int)) ≤ 9223372036854775807) : LeF some (y0D (fun i__ s__ => yKx f1_0 t6_0 b0_0_0 i__) (fun s__ => yK9 f1_0 t6_0 b0_0_0) (((3 : Int)) - 0).toNat 0 ()) (y9X n n f1_0 t6_0 0 b0_0_0) := by
  refine y1M (f := some) (W := fun k__ i__ s__ => y9X n k__ f1_0 t6_0 i__ b0_0_0) (body := (fun i__ s__ => yKx f1_0 t6_0 b0_0_0 i__)) (fin := (fun s__ => yK9 f1_0 t6_0 b0_0_0)) (fun k__ i__ s__ => ?_) hx () n 0 (by decide) (by unfold big at hn; omega)
  show LeF _ _ (yH2 n (y9X n k__) f1_0 t6_0 i__ b0_0_0)
  exact y3 (y8 fun v1 => (y3 (y5 rfl) (y5 rfl))) (yw (y5 rfl))
def zS_M (f : Fai) : Option ((List UInt8 × (Fai × Unit → Option (Fai × Unit)) × (Fai × Int × (List UInt8 × Int × Unit) × Unit → Option ((List UInt8 × Int × Unit) × Bool × Unit)) × Unit) × Bool × Unit) :=
  (bif decide (((3 : Int)) ≤ 9223372036854775807) then y0D (fun i__ s__ => yKx (f) (z0E.1) ([]) i__) (fun s__ => yK9 (f) (z0E.1) ([])) (((3 : Int)) - 0).toNat 0 () else none)
theorem yLr (f : Fai) (y : (List UInt8 × (Fai × Unit → Option (Fai × Unit)) × (Fai × Int × (List UInt8 × Int × Unit) × Unit → Option ((List UInt8 × Int × Unit) × Bool × Unit)) × Unit) × Bool × Unit) (h : zS_M f = some y) : ∃ n, zS_m n f = some y :=
  ⟨big, LeF.top (show LeF some (zS_M f) (zS_m big f) from (fun (n : Nat) (hn : big ≤ n) => show LeF some (zS_M f) (zS_m n f) from (yK fun hx => by apply yDg n hn; exact hx)) big (Nat.le_refl _)) h⟩
def zS_e : Entry := { f := 73, args := zS_a, ress := zS_r, m := fun x => zS_M x.1 }
theorem yQ6 : FnOK Tryz.prog zS_e := yW (g := zS_g) (fn := Tryz.f73) yD yV (yH yLF eNil) (by kernel_rfl) (by kernel_rfl) (by kernel_rfl) (fun x y h => let ⟨n, hn⟩ := yLr x.1 y h; ⟨yLw n, iNil, (yPe n x).trans hn⟩)
end
end Go.Tw
end
