import Derived.Test.YtkfigfhjbejikaaGreatDoorBT
import Derived.Test.YtkfigfhjbejikaaGreatDoorBA
set_option linter.all false
section
set_option maxRecDepth 1000000
namespace Go.Tw
open Go.Vx Go.Vx.B Go.Proofs
noncomputable section
abbrev zt_a : Ty := .pair t28 .unit
abbrev zt_r : Ty := .pair t44 .unit
def zt_g : G := { T := T, E := [z0W_e], muts := [], fz := [] }
def zt_k : List (List Nat) := []
def yNQ (n : Nat) : Ann := { keep := zt_k, fuel := n, inl := [], deep := 0 }
def zt_m (n : Nat) (c : Cnd) : Option (Cnd × Unit) :=
  (Option.bind (y4g c.2.2.1) fun (v0 : List Int × Unit) => some ((c.1, c.2.1, v0.1, ()), ()))
theorem yRj (n : Nat) (x : zt_a.den) : runF zt_g (yNQ n) Tryz.f21 zt_a zt_r x = zt_m n x.1 := by kernel_rfl
def zt_M (c : Cnd) : Option (Cnd × Unit) := zt_m 0 c
theorem yNA (c : Cnd) (y : Cnd × Unit) (h : zt_M c = some y) : ∃ n, zt_m n c = some y := ⟨0, h⟩
def zt_e : Entry := { f := 21, args := zt_a, ress := zt_r, m := fun x => zt_M x.1 }
theorem yOG : FnOK Tryz.prog zt_e := yS (g := zt_g) (fn := Tryz.f21) yG yR (yD yH6 eNil) (by kernel_rfl) (by kernel_rfl) (by kernel_rfl) (fun x y h => let ⟨n, hn⟩ := yNA x.1 y h; ⟨yNQ n, iNil, (yRj n x).trans hn⟩)
abbrev ze_a : Ty := .pair t25 (.pair t26 .unit)
abbrev ze_r : Ty := .pair t3 .unit
def ze_g : G := { T := T, E := [zl_e], muts := [], fz := [] }
def ze_k : List (List Nat) := [[1, 5]]
def yR2 (n : Nat) : Ann := { keep := ze_k, fuel := n, inl := [], deep := 0 }
def yHC (n : Nat) (r0 : List Int → Int → Option (Int × Unit)) (aD : List Int) (aE : Int) : Option (Int × Unit) :=
  (bif decide (aE < (↑aD.length : Int)) then (Option.bind (idx aD aE) fun (v1 : Int) => (bif (zl v1 (0 : Int) (100000000 : Int)).1 != 0 then some ((zl v1 (0 : Int) (100000000 : Int)).1, ()) else r0 aD (IntKind.i64.wrap (aE + 1)))) else some ((0 : Int), ()))
def y9C (n : Nat)  (k : Nat) (aD : List Int) (aE : Int) : Option (Int × Unit) :=
  iter (fun r y => yHC n (fun aD aE => r ((aD, (aE, ())), ((), ()))) y.1.1 y.1.2.1) k ((aD, (aE, ())), ((), ()))
def ze_m (n : Nat) (b : Bas) (v : List Int) : Option (Int × Unit) :=
  (bif (↑v.length : Int) != (↑b.1.length : Int) then some ((2 : Int), ()) else (y9C n n (v) ((0 : Int))))
theorem yS7 (n : Nat) (x : ze_a.den) : runF ze_g (yR2 n) Tryz.f28 ze_a ze_r x = ze_m n x.1 x.2.1 := by kernel_rfl
def yId (aD : List Int) (aE : Int) (v1 : Int) : Option ((Int × Unit) ⊕ Unit) :=
  (bif (zl v1 (0 : Int) (100000000 : Int)).1 != 0 then (some (Sum.inl (((zl v1 (0 : Int) (100000000 : Int)).1, ())))) else (some (Sum.inr ())))
def yLc (aD : List Int) : Option (Int × Unit) :=
  (some (((0 : Int), ())))
theorem yEr (n : Nat) (hn : big ≤ n)  (aD : List Int) (hx : List.length (aD) < lenMax) : LeF some (yL (fun i__ e__ s__ => yId aD i__ e__) (fun s__ => yLc aD) 0 (aD) ()) (y9C n n aD 0) := by
  refine yK (f := some) (W := fun k__ i__ s__ => y9C n k__ aD i__) (body := (fun i__ e__ s__ => yId aD i__ e__)) (fin := (fun s__ => yLc aD)) (fun k__ i__ s__ => ?_) hx () n (by unfold big at hn; unfold lenMax at hx; omega)
  show LeF _ _ (yHC n (y9C n k__) aD i__)
  exact y6 (y5 fun v1 => (y6 (y7 rfl) (y7 rfl))) (y03 (y7 rfl))
def ze_M (b : Bas) (v : List Int) : Option (Int × Unit) :=
  (bif (↑v.length : Int) != (↑b.1.length : Int) then (some (((2 : Int), ()))) else (bif decide (List.length (v) < lenMax) then yL (fun i__ e__ s__ => yId (v) i__ e__) (fun s__ => yLc (v)) 0 (v) () else none))
theorem yQE (b : Bas) (v : List Int) (y : Int × Unit) (h : ze_M b v = some y) : ∃ n, ze_m n b v = some y :=
  ⟨big, LeF.top (show LeF some (ze_M b v) (ze_m big b v) from (fun (n : Nat) (hn : big ≤ n) => show LeF some (ze_M b v) (ze_m n b v) from (y6 (y7 rfl) (yN fun hx => by apply yEr n hn; exact hx))) big (Nat.le_refl _)) h⟩
def ze_e : Entry := { f := 28, args := ze_a, ress := ze_r, m := fun x => ze_M x.1 x.2.1 }
theorem yNi : FnOK Tryz.prog ze_e := yS (g := ze_g) (fn := Tryz.f28) yG yR (yD yIF eNil) (by kernel_rfl) (by kernel_rfl) (by kernel_rfl) (fun x y h => let ⟨n, hn⟩ := yQE x.1 x.2.1 y h; ⟨yR2 n, iNil, (yS7 n x).trans hn⟩)
abbrev zx_a : Ty := .pair t56 (.pair t56 .unit)
abbrev zx_r : Ty := .pair t4 .unit
def zx_g : G := { T := T, E := [zv_e], muts := [], fz := [] }
def zx_k : List (List Nat) := [[0, 1, 5]]
def yNt (n : Nat) : Ann := { keep := zx_k, fuel := n, inl := [], deep := 0 }
def yHp (n : Nat) (r0 : List (List Int) → List (List Int) → Int → Option (Bool × Unit)) (aF : List (List Int)) (aJ : List (List Int)) (aE : Int) : Option (Bool × Unit) :=
  (bif decide (aE < (↑aF.length : Int)) then (Option.bind (idx aF aE) fun (v1 : List Int) => (Option.bind (idx aJ aE) fun (v2 : List Int) => (Option.bind (zv_M v1 v2) fun (v3 : Bool × Unit) => (bif !v3.1 then some (Bool.false, ()) else r0 aF aJ (IntKind.i64.wrap (aE + 1)))))) else some (Bool.true, ()))
def y9n (n : Nat)  (k : Nat) (aF : List (List Int)) (aJ : List (List Int)) (aE : Int) : Option (Bool × Unit) :=
  iter (fun r y => yHp n (fun aF aJ aE => r ((aF, (aJ, (aE, ()))), ((), ()))) y.1.1 y.1.2.1 y.1.2.2.1) k ((aF, (aJ, (aE, ()))), ((), ()))
def zx_m (n : Nat) (a : List (List Int)) (b : List (List Int)) : Option (Bool × Unit) :=
  (bif (↑a.length : Int) != (↑b.length : Int) then some (Bool.false, ()) else (y9n n n (a) (b) ((0 : Int))))
theorem yRZ (n : Nat) (x : zx_a.den) : runF zx_g (yNt n) Tryz.f47 zx_a zx_r x = zx_m n x.1 x.2.1 := by kernel_rfl
def yL8 (aF : List (List Int)) (aJ : List (List Int)) (aE : Int) (v1 : List Int) : Option ((Bool × Unit) ⊕ Unit) :=
  (Option.bind (idx aJ aE) fun (v2 : List Int) => (Option.bind (zv_M v1 v2) fun (v3 : Bool × Unit) => (bif !v3.1 then (some (Sum.inl ((Bool.false, ())))) else (some (Sum.inr ())))))
def yMA (aF : List (List Int)) (aJ : List (List Int)) : Option (Bool × Unit) :=
  (some ((Bool.true, ())))
theorem yFE (n : Nat) (hn : big ≤ n)  (aF : List (List Int)) (aJ : List (List Int)) (hx : List.length (aF) < lenMax) : LeF some (yL (fun i__ e__ s__ => yL8 aF aJ i__ e__) (fun s__ => yMA aF aJ) 0 (aF) ()) (y9n n n aF aJ 0) := by
  refine yK (f := some) (W := fun k__ i__ s__ => y9n n k__ aF aJ i__) (body := (fun i__ e__ s__ => yL8 aF aJ i__ e__)) (fin := (fun s__ => yMA aF aJ)) (fun k__ i__ s__ => ?_) hx () n (by unfold big at hn; unfold lenMax at hx; omega)
  show LeF _ _ (yHp n (y9n n k__) aF aJ i__)
  exact y6 (y5 fun v1 => (y5 fun v2 => (y5 fun v3 => (y6 (y7 rfl) (y7 rfl))))) (y03 (y7 rfl))
def zx_M (a : List (List Int)) (b : List (List Int)) : Option (Bool × Unit) :=
  (bif (↑a.length : Int) != (↑b.length : Int) then (some ((Bool.false, ()))) else (bif decide (List.length (a) < lenMax) then yL (fun i__ e__ s__ => yL8 (a) (b) i__ e__) (fun s__ => yMA (a) (b)) 0 (a) () else none))
theorem yPZ (a : List (List Int)) (b : List (List Int)) (y : Bool × Unit) (h : zx_M a b = some y) : ∃ n, zx_m n a b = some y :=
  ⟨big, LeF.top (show LeF some (zx_M a b) (zx_m big a b) from (fun (n : Nat) (hn : big ≤ n) => show LeF some (zx_M a b) (zx_m n a b) from (y6 (y7 rfl) (yN fun hx => by apply yFE n hn; exact hx))) big (Nat.le_refl _)) h⟩
def zx_e : Entry := { f := 47, args := zx_a, ress := zx_r, m := fun x => zx_M x.1 x.2.1 }
theorem ySr : FnOK Tryz.prog zx_e := yS (g := zx_g) (fn := Tryz.f47) yG yR (yD yPm eNil) (by kernel_rfl) (by kernel_rfl) (by kernel_rfl) (fun x y h => let ⟨n, hn⟩ := yPZ x.1 x.2.1 y h; ⟨yNt n, iNil, (yRZ n x).trans hn⟩)
abbrev zT_a : Ty := .pair t25 (.pair t28 .unit)
abbrev zT_r : Ty := .pair t3 .unit
def zT_g : G := { T := T, E := [zl_e], muts := [], fz := [] }
def zT_k : List (List Nat) := [[3, 6]]
def yRI (n : Nat) : Ann := { keep := zT_k, fuel := n, inl := [], deep := 0 }
def yHq (n : Nat) (r0 : Cnd → Int → Option (Int × Unit)) (aG : Cnd) (aT : Int) : Option (Int × Unit) :=
  (bif decide (aT < (↑aG.2.2.1.length : Int)) then (Option.bind (idx aG.2.2.1 aT) fun (v1 : Int) => (bif (zl v1 (0 : Int) (100000 : Int)).1 != 0 then some ((zl v1 (0 : Int) (100000 : Int)).1, ()) else r0 aG (IntKind.i64.wrap (aT + 1)))) else some ((0 : Int), ()))
def y9J (n : Nat)  (k : Nat) (aG : Cnd) (aT : Int) : Option (Int × Unit) :=
  iter (fun r y => yHq n (fun aG aT => r ((aG, (aT, ())), ((), ()))) y.1.1 y.1.2.1) k ((aG, (aT, ())), ((), ()))
def zT_m (n : Nat) (b : Bas) (c : Cnd) : Option (Int × Unit) :=
  (bif (zl c.1 (-1024 : Int) (1024 : Int)).1 != 0 then some ((zl c.1 (-1024 : Int) (1024 : Int)).1, ()) else (bif (↑c.2.2.1.length : Int) != (↑b.1.length : Int) then some ((2 : Int), ()) else (y9J n n (c) ((0 : Int)))))
theorem yRx (n : Nat) (x : zT_a.den) : runF zT_g (yRI n) Tryz.f59 zT_a zT_r x = zT_m n x.1 x.2.1 := by kernel_rfl
def yIA (aG : Cnd) (aT : Int) (v1 : Int) : Option ((Int × Unit) ⊕ Unit) :=
  (bif (zl v1 (0 : Int) (100000 : Int)).1 != 0 then (some (Sum.inl (((zl v1 (0 : Int) (100000 : Int)).1, ())))) else (some (Sum.inr ())))
def yMK (aG : Cnd) : Option (Int × Unit) :=
  (some (((0 : Int), ())))
theorem yEh (n : Nat) (hn : big ≤ n)  (aG : Cnd) (hx : List.length (aG.2.2.1) < lenMax) : LeF some (yL (fun i__ e__ s__ => yIA aG i__ e__) (fun s__ => yMK aG) 0 (aG.2.2.1) ()) (y9J n n aG 0) := by
  refine yK (f := some) (W := fun k__ i__ s__ => y9J n k__ aG i__) (body := (fun i__ e__ s__ => yIA aG i__ e__)) (fin := (fun s__ => yMK aG)) (fun k__ i__ s__ => ?_) hx () n (by unfold big at hn; unfold lenMax at hx; omega)
  show LeF _ _ (yHq n (y9J n k__) aG i__)
  exact y6 (y5 fun v1 => (y6 (y7 rfl) (y7 rfl))) (y03 (y7 rfl))
def zT_M (b : Bas) (c : Cnd) : Option (Int × Unit) :=
  (bif (zl c.1 (-1024 : Int) (1024 : Int)).1 != 0 then (some (((zl c.1 (-1024 : Int) (1024 : Int)).1, ()))) else (bif (↑c.2.2.1.length : Int) != (↑b.1.length : Int) then (some (((2 : Int), ()))) else (bif decide (List.length (c.2.2.1) < lenMax) then yL (fun i__ e__ s__ => yIA (c) i__ e__) (fun s__ => yMK (c)) 0 (c.2.2.1) () else none)))
theorem yPz (b : Bas) (c : Cnd) (y : Int × Unit) (h : zT_M b c = some y) : ∃ n, zT_m n b c = some y :=
  ⟨big, LeF.top (show LeF some (zT_M b c) (zT_m big b c) from (fun (n : Nat) (hn : big ≤ n) => show LeF some (zT_M b c) (zT_m n b c) from (y6 (y7 rfl) (y6 (y7 rfl) (yN fun hx => by apply yEh n hn; exact hx)))) big (Nat.le_refl _)) h⟩
def zT_e : Entry := { f := 59, args := zT_a, ress := zT_r, m := fun x => zT_M x.1 x.2.1 }
theorem ySs : FnOK Tryz.prog zT_e := yS (g := zT_g) (fn := Tryz.f59) yG yR (yD yIF eNil) (by kernel_rfl) (by kernel_rfl) (by kernel_rfl) (fun x y h => let ⟨n, hn⟩ := yPz x.1 x.2.1 y h; ⟨yRI n, iNil, (yRx n x).trans hn⟩)
abbrev yMU : Ty := .pair t3 (.pair t3 (.pair t3 .unit))
abbrev yQI : Ty := .pair t35 .unit
def yOX : G := { T := T, E := [z0V_e], muts := [], fz := [] }
def yRY : List (List Nat) := []
def yJn (n : Nat) : Ann := { keep := yRY, fuel := n, inl := [], deep := 0 }
def yIm (n : Nat) (n1 : Int) (least : Int) (most : Int) : Option (Int × Unit) :=
  (bif decide (n1 < least) then some ((z0V Bool.true (3 : Int)).1, ()) else some ((z0V (decide (n1 > most)) (3 : Int)).1, ()))
theorem yOf (n : Nat) (x : yMU.den) : runF yOX (yJn n) Tryz.f90 yMU yQI x = yIm n x.1 x.2.1 x.2.2.1 := by kernel_rfl
def z09 (n1 : Int) (least : Int) (most : Int) : (Int × Unit) :=
  (bif decide (n1 < least) then ((z0V Bool.true (3 : Int)).1, ()) else ((z0V (decide (n1 > most)) (3 : Int)).1, ()))
abbrev yQp (n1 : Int) (least : Int) (most : Int) : Option (Int × Unit) := some (z09 n1 least most)
theorem yKk (n1 : Int) (least : Int) (most : Int) (y : Int × Unit) (h : yQp n1 least most = some y) : ∃ n, yIm n n1 least most = some y :=
  ⟨0, by rw [← h]; show yIm 0 n1 least most = some (z09 n1 least most); unfold yIm z09; first | rfl | (simp only [yP]; done) | (simp only [yP]; rfl)⟩
def z09_e : Entry := { f := 90, args := yMU, ress := yQI, m := fun x => yQp x.1 x.2.1 x.2.2.1 }
theorem y6s : FnOK Tryz.prog z09_e := yS (g := yOX) (fn := Tryz.f90) yG yR (yD y3U eNil) (by kernel_rfl) (by kernel_rfl) (by kernel_rfl) (fun x y h => let ⟨n, hn⟩ := yKk x.1 x.2.1 x.2.2.1 y h; ⟨yJn n, iNil, (yOf n x).trans hn⟩)
abbrev zn_a : Ty := .pair t22 .unit
abbrev zn_r : Ty := .pair t3 .unit
def zn_g : G := { T := T, E := [z0B_e, zl_e, z0O_e], muts := [], fz := [] }
def zn_k : List (List Nat) := [[0, 3], [0, 3, 4]]
def yNr (n : Nat) : Ann := { keep := zn_k, fuel := n, inl := [], deep := 0 }
def yGw (n : Nat) (r0 : List Nod → Int → Option (Int × Unit)) (r3 : List Nod → Int → Int → Option (Int × Unit)) (ax : List Nod) (av : Int) (aR : Int) : Option (Int × Unit) :=
  (bif decide (aR < av) then (Option.bind (idx ax aR) fun (v4 : Nod) => (Option.bind (idx ax av) fun (v5 : Nod) => (bif v4.1 == v5.1 then some ((9 : Int), ()) else r3 ax av (IntKind.i64.wrap (aR + 1))))) else (Option.bind (idx ax av) fun (v6 : Nod) => (Option.bind (idx ax av) fun (v7 : Nod) => (Option.bind (y7h [(zl v6.2.1 (1 : Int) (1000 : Int)).1, (zl v7.2.2.1 (0 : Int) (1024 : Int)).1]) fun (v8 : Int × Unit) => (bif v8.1 != 0 then some (v8.1, ()) else r0 ax (IntKind.i64.wrap (av + 1)))))))
def yAZ (n : Nat) (r0 : List Nod → Int → Option (Int × Unit)) (k : Nat) (ax : List Nod) (av : Int) (aR : Int) : Option (Int × Unit) :=
  iter (fun r y => yGw n r0 (fun ax av aR => r ((ax, (av, (aR, ()))), ((), ()))) y.1.1 y.1.2.1 y.1.2.2.1) k ((ax, (av, (aR, ()))), ((), ()))
def yGG (n : Nat) (r0 : List Nod → Int → Option (Int × Unit)) (aA : List Nod) (aL : Int) : Option (Int × Unit) :=
  (bif decide (aL < (↑aA.length : Int)) then (Option.bind (idx aA aL) fun (v1 : Nod) => (Option.bind (yBF v1.1) fun (v2 : Bool × Unit) => (bif !v2.1 then some ((8 : Int), ()) else (yAZ n r0 n (aA) (aL) ((0 : Int)))))) else some ((0 : Int), ()))
def y9G (n : Nat)  (k : Nat) (aA : List Nod) (aL : Int) : Option (Int × Unit) :=
  iter (fun r y => yGG n (fun aA aL => r ((aA, (aL, ())), ((), ()))) y.1.1 y.1.2.1) k ((aA, (aL, ())), ((), ()))
def zn_m (n : Nat) (l : List Nod) : Option (Int × Unit) :=
  (bif (↑l.length : Int) == 0 then some ((12 : Int), ()) else (bif decide ((↑l.length : Int) > 8) then some ((5 : Int), ()) else (y9G n n (l) ((0 : Int)))))
theorem yTI (n : Nat) (x : zn_a.den) : runF zn_g (yNr n) Tryz.f94 zn_a zn_r x = zn_m n x.1 := by kernel_rfl
def yF2 (ax : List Nod) (av : Int) (aR : Int) : Option (((Int × Unit) ⊕ Unit) ⊕ Unit) :=
  (Option.bind (idx ax aR) fun (v4 : Nod) => (Option.bind (idx ax av) fun (v5 : Nod) => (bif v4.1 == v5.1 then (some (Sum.inl (Sum.inl (((9 : Int), ()))))) else (some (Sum.inr ())))))
def yGz (ax : List Nod) (av : Int) : Option ((Int × Unit) ⊕ Unit) :=
  (Option.bind (idx ax av) fun (v6 : Nod) => (Option.bind (idx ax av) fun (v7 : Nod) => (Option.bind (y7h [(zl v6.2.1 (1 : Int) (1000 : Int)).1, (zl v7.2.2.1 (0 : Int) (1024 : Int)).1]) fun (v8 : Int × Unit) => (bif v8.1 != 0 then (some (Sum.inl ((v8.1, ())))) else (some (Sum.inr ()))))))
theorem yF9 (n : Nat) (hn : big ≤ n)  (r0 : List Nod → Int → Option (Int × Unit)) (ax : List Nod) (av : Int) (hx : (av) ≤ 9223372036854775807) : LeF (elim some fun (s__ : Unit) => r0 ax (IntKind.i64.wrap (av + 1))) (y0h (fun i__ s__ => yF2 ax av i__) (fun s__ => yGz ax av) ((av) - 0).toNat 0 ()) (yAZ n r0 n ax av 0) := by
  refine y4H (f := (elim some fun (s__ : Unit) => r0 ax (IntKind.i64.wrap (av + 1)))) (W := fun k__ i__ s__ => yAZ n r0 k__ ax av i__) (body := (fun i__ s__ => yF2 ax av i__)) (fin := (fun s__ => yGz ax av)) (fun k__ i__ s__ => ?_) hx () n 0 (by decide) (by unfold big at hn; omega)
  show LeF _ _ (yGw n r0 (yAZ n r0 k__) ax av i__)
  exact y6 (y5 fun v4 => (y5 fun v5 => (y6 (y7 rfl) (y7 rfl)))) (y03 (y5 fun v6 => (y5 fun v7 => (y5 fun v8 => (y6 (y7 rfl) (y7 rfl))))))
def yEe (aA : List Nod) (aL : Int) (v1 : Nod) : Option ((Int × Unit) ⊕ Unit) :=
  (Option.bind (yBF v1.1) fun (v2 : Bool × Unit) => (bif !v2.1 then (some (Sum.inl (((8 : Int), ())))) else (bif decide ((aL) ≤ 9223372036854775807) then y0h (fun i__ s__ => yF2 (aA) (aL) i__) (fun s__ => yGz (aA) (aL)) ((aL) - 0).toNat 0 () else none)))
def yIp (aA : List Nod) : Option (Int × Unit) :=
  (some (((0 : Int), ())))
theorem yEO (n : Nat) (hn : big ≤ n)  (aA : List Nod) (hx : List.length (aA) < lenMax) : LeF some (yL (fun i__ e__ s__ => yEe aA i__ e__) (fun s__ => yIp aA) 0 (aA) ()) (y9G n n aA 0) := by
  refine yK (f := some) (W := fun k__ i__ s__ => y9G n k__ aA i__) (body := (fun i__ e__ s__ => yEe aA i__ e__)) (fin := (fun s__ => yIp aA)) (fun k__ i__ s__ => ?_) hx () n (by unfold big at hn; unfold lenMax at hx; omega)
  show LeF _ _ (yGG n (y9G n k__) aA i__)
  exact y6 (y5 fun v1 => (y5 fun v2 => (y6 (y7 rfl) (yN fun hx => by apply yF9 n hn; exact hx)))) (y03 (y7 rfl))
def zn_M (l : List Nod) : Option (Int × Unit) :=
  (bif (↑l.length : Int) == 0 then (some (((12 : Int), ()))) else (bif decide ((↑l.length : Int) > 8) then (some (((5 : Int), ()))) else (bif decide (List.length (l) < lenMax) then yL (fun i__ e__ s__ => yEe (l) i__ e__) (fun s__ => yIp (l)) 0 (l) () else none)))
theorem yNk (l : List Nod) (y : Int × Unit) (h : zn_M l = some y) : ∃ n, zn_m n l = some y :=
  ⟨big, LeF.top (show LeF some (zn_M l) (zn_m big l) from (fun (n : Nat) (hn : big ≤ n) => show LeF some (zn_M l) (zn_m n l) from (y6 (y7 rfl) (y6 (y7 rfl) (yN fun hx => by apply yEO n hn; exact hx)))) big (Nat.le_refl _)) h⟩
def zn_e : Entry := { f := 94, args := zn_a, ress := zn_r, m := fun x => zn_M x.1 }
theorem ySj : FnOK Tryz.prog zn_e := yS (g := zn_g) (fn := Tryz.f94) yG yR (yD yQZ (yD yIF (yD yK4 eNil))) (by kernel_rfl) (by kernel_rfl) (by kernel_rfl) (fun x y h => let ⟨n, hn⟩ := yNk x.1 y h; ⟨yNr n, iNil, (yTI n x).trans hn⟩)
abbrev zu_a : Ty := .pair t83 (.pair t3 .unit)
abbrev zu_r : Ty := .pair t3 .unit
def zu_g : G := { T := T, E := [z0Q_e, z06_e, z0c_e, z0Y_e, zl_e, z0O_e], muts := [], fz := [] }
def zu_k : List (List Nat) := []
def yNx (n : Nat) : Ann := { keep := zu_k, fuel := n, inl := [], deep := 0 }
def zu_m (n : Nat) (x1 : Lnk) (nodes : Int) : Option (Int × Unit) :=
  (Option.bind (yCK z0Q.1 x1.1) fun (v0 : Bool × Unit) => (bif !v0.1 then some ((13 : Int), ()) else (bif !(z0Y x1.2.1 nodes (z0c x1.1).1).1 then some ((10 : Int), ()) else (bif !(z0Y x1.2.2.1 nodes (z0c x1.1).2.1).1 then some ((10 : Int), ()) else (bif x1.2.1 == x1.2.2.1 then some ((17 : Int), ()) else (bif (z0c x1.1).1 then (Option.bind (y7h [(zl x1.2.2.2.1 (0 : Int) (0 : Int)).1, (zl x1.2.2.2.2.1 (1 : Int) (1000 : Int)).1]) fun (v4 : Int × Unit) => some (v4.1, ())) else (Option.bind (y7h [(zl x1.2.2.2.1 (0 : Int) (1024 : Int)).1, (zl x1.2.2.2.2.1 (1 : Int) (1000 : Int)).1]) fun (v5 : Int × Unit) => some (v5.1, ()))))))))
theorem yRv (n : Nat) (x : zu_a.den) : runF zu_g (yNx n) Tryz.f95 zu_a zu_r x = zu_m n x.1 x.2.1 := by kernel_rfl
def zu_M (x1 : Lnk) (nodes : Int) : Option (Int × Unit) := zu_m 0 x1 nodes
theorem yPr (x1 : Lnk) (nodes : Int) (y : Int × Unit) (h : zu_M x1 nodes = some y) : ∃ n, zu_m n x1 nodes = some y := ⟨0, h⟩
def zu_e : Entry := { f := 95, args := zu_a, ress := zu_r, m := fun x => zu_M x.1 x.2.1 }
theorem yS0 : FnOK Tryz.prog zu_e := yS (g := zu_g) (fn := Tryz.f95) yG yR (yD yOY (yD yRG (yD yQo (yD yOD (yD yIF (yD yK4 eNil)))))) (by kernel_rfl) (by kernel_rfl) (by kernel_rfl) (fun x y h => let ⟨n, hn⟩ := yPr x.1 x.2.1 y h; ⟨yNx n, iNil, (yRv n x).trans hn⟩)
abbrev yLS : Ty := .pair t167 .unit
abbrev yND : Ty := .pair t56 .unit
def yOo : G := { T := T, E := [zC_e, zr_e], muts := [], fz := [] }
def yRS : List (List Nat) := []
def yJv (n : Nat) : Ann := { keep := yRS, fuel := n, inl := [], deep := 0 }
def yIf (n : Nat) (l : List Psg) : Option (List (List Int) × Unit) :=
  (Option.bind (zC_M l fun (x : Psg × Unit) => zr_M x.1) fun (v0 : List (List Int) × Unit) => some (v0.1, ()))
theorem yQr (n : Nat) (x : yLS.den) : runF yOo (yJv n) Tryz.f97 yLS yND x = yIf n x.1 := by kernel_rfl
def yGy (l : List Psg) : Option (List (List Int) × Unit) := yIf 0 l
theorem yL7 (l : List Psg) (y : List (List Int) × Unit) (h : yGy l = some y) : ∃ n, yIf n l = some y := ⟨0, h⟩
def z05_e : Entry := { f := 97, args := yLS, ress := yND, m := fun x => yGy x.1 }
theorem yNW : FnOK Tryz.prog z05_e := yS (g := yOo) (fn := Tryz.f97) yG yR (yD yT5 (yD ySU eNil)) (by kernel_rfl) (by kernel_rfl) (by kernel_rfl) (fun x y h => let ⟨n, hn⟩ := yL7 x.1 y h; ⟨yJv n, iNil, (yQr n x).trans hn⟩)
abbrev zV_a : Ty := .pair t41 (.pair t26 .unit)
abbrev zV_r : Ty := .pair t26 .unit
def zV_g : G := { T := T, E := [zi_e], muts := [], fz := [] }
def zV_k : List (List Nat) := [[5, 15, 16, 17]]
def yNH (n : Nat) : Ann := { keep := zV_k, fuel := n, inl := [], deep := 0 }
def yGU (n : Nat) (r0 : List Nod → Int → Int → List Int → Option (List Int × Unit)) (al : List Nod) (aO : Int) (au : Int) (aq : List Int) : Option (List Int × Unit) :=
  (bif decide (au < aO) then (Option.bind (idx al au) fun (v1 : Nod) => (Option.bind (idx aq au) fun (v2 : Int) => (Option.bind (aq[au.toNat]?) fun (v3 : Int) => (Option.bind (zi_M (v1.1, v1.2.1, v1.2.2.1, ()) v3) fun (v4 : Int × Unit) => (Option.bind (idx aq au) fun (v5 : Int) => (Option.bind (aq[au.toNat]?) fun (v6 : Int) => r0 al aO (IntKind.i64.wrap (au + 1)) (aq.set au.toNat v4.1))))))) else some (aq, ()))
def y9c (n : Nat)  (k : Nat) (al : List Nod) (aO : Int) (au : Int) (aq : List Int) : Option (List Int × Unit) :=
  iter (fun r y => yGU n (fun al aO au aq => r ((al, (aO, (au, ()))), ((aq, ()), ()))) y.1.1 y.1.2.1 y.1.2.2.1 y.2.1.1) k ((al, (aO, (au, ()))), ((aq, ()), ()))
def zV_m (n : Nat) (b : Bas) (v : List Int) : Option (List Int × Unit) :=
  (bif Bool.true && decide ((0 : Int) ≤ (↑v.length : Int)) && decide ((↑v.length : Int) ≤ (↑memMax : Int)) && (↑v.length : Int) == (↑v.length : Int) then (y9c n n (b.1) ((↑b.1.length : Int)) ((0 : Int)) (List.take (List.replicate (↑v.length : Int).toNat (0 : Int)).length v ++ List.drop v.length (List.replicate (↑v.length : Int).toNat (0 : Int)))) else none)
theorem yT4 (n : Nat) (x : zV_a.den) : runF zV_g (yNH n) Tryz.f98 zV_a zV_r x = zV_m n x.1 x.2.1 := by kernel_rfl
def yLZ (al : List Nod) (au : Int) (v1 : Nod) (aq : List Int) : Option ((List Int × Unit) ⊕ (List Int)) :=
  (Option.bind (idx aq au) fun (v2 : Int) => (Option.bind (aq[au.toNat]?) fun (v3 : Int) => (Option.bind (zi_M (v1.1, v1.2.1, v1.2.2.1, ()) v3) fun (v4 : Int × Unit) => (Option.bind (idx aq au) fun (v5 : Int) => (Option.bind (aq[au.toNat]?) fun (v6 : Int) => (some (Sum.inr (aq.set au.toNat v4.1))))))))
def yLD (al : List Nod) (aq : List Int) : Option (List Int × Unit) :=
  (some ((aq, ())))
theorem yEn (n : Nat) (hn : big ≤ n)  (al : List Nod) (aq : List Int) (hx : List.length (al) < lenMax) : LeF some (yL (fun i__ e__ s__ => yLZ al i__ e__ s__) (fun s__ => yLD al s__) 0 (al) aq) (y9c n n al (List.length (al) : Int) 0 aq) := by
  refine yK (f := some) (W := fun k__ i__ s__ => y9c n k__ al (List.length (al) : Int) i__ s__) (body := (fun i__ e__ s__ => yLZ al i__ e__ s__)) (fin := (fun s__ => yLD al s__)) (fun k__ i__ s__ => ?_) hx aq n (by unfold big at hn; unfold lenMax at hx; omega)
  show LeF _ _ (yGU n (y9c n k__) al (List.length (al) : Int) i__ s__)
  exact y6 (y5 fun v1 => (y5 fun v2 => (y5 fun v3 => (y5 fun v4 => (y5 fun v5 => (y5 fun v6 => (y7 rfl))))))) (y03 (y7 rfl))
def zV_M (b : Bas) (v : List Int) : Option (List Int × Unit) :=
  (bif Bool.true && decide ((0 : Int) ≤ (↑v.length : Int)) && decide ((↑v.length : Int) ≤ (↑memMax : Int)) && (↑v.length : Int) == (↑v.length : Int) then (bif decide (List.length (b.1) < lenMax) then yL (fun i__ e__ s__ => yLZ (b.1) i__ e__ s__) (fun s__ => yLD (b.1) s__) 0 (b.1) (List.take (List.replicate (↑v.length : Int).toNat (0 : Int)).length v ++ List.drop v.length (List.replicate (↑v.length : Int).toNat (0 : Int))) else none) else none)
theorem yPG (b : Bas) (v : List Int) (y : List Int × Unit) (h : zV_M b v = some y) : ∃ n, zV_m n b v = some y :=
  ⟨big, LeF.top (show LeF some (zV_M b v) (zV_m big b v) from (fun (n : Nat) (hn : big ≤ n) => show LeF some (zV_M b v) (zV_m n b v) from (y6 (yN fun hx => by apply yEn n hn; exact hx) yx)) big (Nat.le_refl _)) h⟩
def zV_e : Entry := { f := 98, args := zV_a, ress := zV_r, m := fun x => zV_M x.1 x.2.1 }
theorem yON : FnOK Tryz.prog zV_e := yS (g := zV_g) (fn := Tryz.f98) yG yR (yD yPQ eNil) (by kernel_rfl) (by kernel_rfl) (by kernel_rfl) (fun x y h => let ⟨n, hn⟩ := yPG x.1 x.2.1 y h; ⟨yNH n, iNil, (yT4 n x).trans hn⟩)
def y5F (n : Nat) (b : Bas) (v : List Int) (c : Cnd) (x1 : Lnk) (j0 : Int) : Option (Int × Unit) :=
  (Option.bind (idx b.1 j0) fun (v1 : Nod) => (bif x1.1 == [(98 : UInt8), 97, 114, 114, 105, 101, 114] then (bif !c.2.1 then some ((0 : Int), ()) else (Option.bind (idx v j0) fun (v2 : Int) => (Option.bind (idx v j0) fun (v3 : Int) => (Option.bind (yCI (IntKind.i64.wrap (IntKind.i64.wrap (v1.2.1 * c.1) - v3)) x1.2.2.2.2.1) fun (v4 : Int × Unit) => some (if Bool.true = Bool.true then if v4.1 > IntKind.i64.wrap ((0 : Int) - v2) then v4.1 else IntKind.i64.wrap ((0 : Int) - v2) else if v4.1 < IntKind.i64.wrap ((0 : Int) - v2) then v4.1 else IntKind.i64.wrap ((0 : Int) - v2), ()))))) else (bif x1.1 == [(108 : UInt8), 101, 97, 107] then (Option.bind (idx v j0) fun (v5 : Int) => (Option.bind (yCI (IntKind.i64.wrap (IntKind.i64.wrap (v1.2.1 * c.1) - v5)) x1.2.2.2.2.1) fun (v6 : Int × Unit) => some (if Bool.true = Bool.true then if v6.1 > 0 then v6.1 else (0 : Int) else if v6.1 < 0 then v6.1 else (0 : Int), ()))) else (bif x1.1 == [(111 : UInt8), 117, 116, 102, 97, 108, 108] then (Option.bind (idx v j0) fun (v7 : Int) => (Option.bind (yCI (IntKind.i64.wrap (v7 - IntKind.i64.wrap (v1.2.1 * if Bool.true = Bool.true then if x1.2.2.2.1 > c.1 then x1.2.2.2.1 else c.1 else if x1.2.2.2.1 < c.1 then x1.2.2.2.1 else c.1))) x1.2.2.2.2.1) fun (v8 : Int × Unit) => some (if Bool.true = Bool.true then if v8.1 > 0 then v8.1 else (0 : Int) else if v8.1 < 0 then v8.1 else (0 : Int), ()))) else (bif x1.1 == [(112 : UInt8), 117, 109, 112] then (Option.bind (idx v j0) fun (v9 : Int) => some (if Bool.true = Bool.true then if (if Bool.false = Bool.true then if IntKind.i64.wrap (v9 - IntKind.i64.wrap (v1.2.1 * x1.2.2.2.1)) > x1.2.2.2.2.1 then IntKind.i64.wrap (v9 - IntKind.i64.wrap (v1.2.1 * x1.2.2.2.1)) else x1.2.2.2.2.1 else if IntKind.i64.wrap (v9 - IntKind.i64.wrap (v1.2.1 * x1.2.2.2.1)) < x1.2.2.2.2.1 then IntKind.i64.wrap (v9 - IntKind.i64.wrap (v1.2.1 * x1.2.2.2.1)) else x1.2.2.2.2.1) > 0 then if Bool.false = Bool.true then if IntKind.i64.wrap (v9 - IntKind.i64.wrap (v1.2.1 * x1.2.2.2.1)) > x1.2.2.2.2.1 then IntKind.i64.wrap (v9 - IntKind.i64.wrap (v1.2.1 * x1.2.2.2.1)) else x1.2.2.2.2.1 else if IntKind.i64.wrap (v9 - IntKind.i64.wrap (v1.2.1 * x1.2.2.2.1)) < x1.2.2.2.2.1 then IntKind.i64.wrap (v9 - IntKind.i64.wrap (v1.2.1 * x1.2.2.2.1)) else x1.2.2.2.2.1 else (0 : Int) else if (if Bool.false = Bool.true then if IntKind.i64.wrap (v9 - IntKind.i64.wrap (v1.2.1 * x1.2.2.2.1)) > x1.2.2.2.2.1 then IntKind.i64.wrap (v9 - IntKind.i64.wrap (v1.2.1 * x1.2.2.2.1)) else x1.2.2.2.2.1 else if IntKind.i64.wrap (v9 - IntKind.i64.wrap (v1.2.1 * x1.2.2.2.1)) < x1.2.2.2.2.1 then IntKind.i64.wrap (v9 - IntKind.i64.wrap (v1.2.1 * x1.2.2.2.1)) else x1.2.2.2.2.1) < 0 then if Bool.false = Bool.true then if IntKind.i64.wrap (v9 - IntKind.i64.wrap (v1.2.1 * x1.2.2.2.1)) > x1.2.2.2.2.1 then IntKind.i64.wrap (v9 - IntKind.i64.wrap (v1.2.1 * x1.2.2.2.1)) else x1.2.2.2.2.1 else if IntKind.i64.wrap (v9 - IntKind.i64.wrap (v1.2.1 * x1.2.2.2.1)) < x1.2.2.2.2.1 then IntKind.i64.wrap (v9 - IntKind.i64.wrap (v1.2.1 * x1.2.2.2.1)) else x1.2.2.2.2.1 else (0 : Int), ())) else (Option.bind (idx v j0) fun (v10 : Int) => (Option.bind (yCI (IntKind.i64.wrap (v10 - IntKind.i64.wrap (v1.2.1 * x1.2.2.2.1))) x1.2.2.2.2.1) fun (v11 : Int × Unit) => some (if Bool.true = Bool.true then if v11.1 > 0 then v11.1 else (0 : Int) else if v11.1 < 0 then v11.1 else (0 : Int), ()))))))))
def yPq (n : Nat) (b : Bas) (v : List Int) (c : Cnd) (x1 : Lnk) : Option (Int × Unit) :=
  (bif decide (x1.2.1 < 0) then (y5F n b v c x1 (x1.2.2.1)) else (y5F n b v c x1 (x1.2.1)))
def yFd (b : Bas) (v : List Int) (c : Cnd) (x1 : Lnk) : Option (Int × Unit) := yPq 0 b v c x1
abbrev zP_a : Ty := .pair t96 (.pair t176 .unit)
abbrev zP_r : Ty := .pair t35 .unit
def zP_g : G := { T := T, E := [z0V_e, z0J_e], muts := [], fz := [] }
def zP_k : List (List Nat) := []
def yPI (n : Nat) : Ann := { keep := zP_k, fuel := n, inl := [], deep := 0 }
def zP_m (n : Nat) (x1 : Int × Int × Unit) (check : Int × Unit → Option (Int × Unit)) : Option (Int × Unit) :=
  (Option.bind (check (x1.1, ())) fun (v0 : Int × Unit) => (Option.bind (check (x1.2.1, ())) fun (v1 : Int × Unit) => (Option.bind (y0U [v0.1, v1.1, (z0V (decide (x1.1 > x1.2.1)) (11 : Int)).1]) fun (v2 : Int × Unit) => some (v2.1, ()))))
theorem yRg (n : Nat) (x : zP_a.den) : runF zP_g (yPI n) Tryz.f158 zP_a zP_r x = zP_m n x.1 x.2.1 := by kernel_rfl
def zP_M (x1 : Int × Int × Unit) (check : Int × Unit → Option (Int × Unit)) : Option (Int × Unit) := zP_m 0 x1 check
theorem yQd (x1 : Int × Int × Unit) (check : Int × Unit → Option (Int × Unit)) (y : Int × Unit) (h : zP_M x1 check = some y) : ∃ n, zP_m n x1 check = some y := ⟨0, h⟩
def zP_e : Entry := { f := 158, args := zP_a, ress := zP_r, m := fun x => zP_M x.1 x.2.1 }
theorem yKm : FnOK Tryz.prog zP_e := yS (g := zP_g) (fn := Tryz.f158) yG yR (yD y3U (yD y3n eNil)) (by kernel_rfl) (by kernel_rfl) (by kernel_rfl) (fun x y h => let ⟨n, hn⟩ := yQd x.1 x.2.1 y h; ⟨yPI n, iNil, (yRg n x).trans hn⟩)
abbrev yMu : Ty := .pair t96 (.pair (.ref t3) .unit)
abbrev yNL : Ty := .pair t3 .unit
def yR6 : G := { T := T, E := [z0U_e], muts := [], fz := [] }
def ySH : List (List Nat) := []
def yKU (n : Nat) : Ann := { keep := ySH, fuel := n, inl := [], deep := 0 }
def yMn (n : Nat) (x1 : Int × Int × Unit) (p1 : Int) : Option (Int × Unit) :=
  (Option.bind (idx (z0U x1).1 p1) fun (v0 : Int) => some (v0, ()))
theorem yPv (n : Nat) (x : yMu.den) : runF yR6 (yKU n) Tryz.f165 yMu yNL x = yMn n x.1 x.2.1 := by kernel_rfl
def yMk (x1 : Int × Int × Unit) (p1 : Int) : Option (Int × Unit) := yMn 0 x1 p1
theorem yMR (x1 : Int × Int × Unit) (p1 : Int) (y : Int × Unit) (h : yMk x1 p1 = some y) : ∃ n, yMn n x1 p1 = some y := ⟨0, h⟩
def z0I_e : Entry := { f := 165, args := yMu, ress := yNL, m := fun x => yMk x.1 x.2.1 }
theorem yPg : FnOK Tryz.prog z0I_e := yS (g := yR6) (fn := Tryz.f165) yG yR (yD yKM eNil) (by kernel_rfl) (by kernel_rfl) (by kernel_rfl) (fun x y h => let ⟨n, hn⟩ := yMR x.1 x.2.1 y h; ⟨yKU n, iNil, (yPv n x).trans hn⟩)
abbrev zR_a : Ty := .pair t230 .unit
abbrev zR_r : Ty := .pair t3 .unit
def zR_g : G := { T := T, E := [z0K_e], muts := [], fz := [] }
def zR_k : List (List Nat) := []
def yNm (n : Nat) : Ann := { keep := zR_k, fuel := n, inl := [], deep := 0 }
def zR_m (n : Nat) (p : Lnk × Int × Int × Int × Bool × Unit) : Option (Int × Unit) :=
  (Option.bind (yGK (IntKind.i64.wrap (IntKind.i64.wrap (p.2.2.1 * p.2.2.2.1) - p.2.1)) p.1.2.2.2.2.1) fun (v0 : Int × Unit) => some (v0.1, ()))
theorem yRp (n : Nat) (x : zR_a.den) : runF zR_g (yNm n) Tryz.f180 zR_a zR_r x = zR_m n x.1 := by kernel_rfl
def zR_M (p : Lnk × Int × Int × Int × Bool × Unit) : Option (Int × Unit) := zR_m 0 p
theorem yOJ (p : Lnk × Int × Int × Int × Bool × Unit) (y : Int × Unit) (h : zR_M p = some y) : ∃ n, zR_m n p = some y := ⟨0, h⟩
def zR_e : Entry := { f := 180, args := zR_a, ress := zR_r, m := fun x => zR_M x.1 }
theorem yQD : FnOK Tryz.prog zR_e := yS (g := zR_g) (fn := Tryz.f180) yG yR (yD yJj eNil) (by kernel_rfl) (by kernel_rfl) (by kernel_rfl) (fun x y h => let ⟨n, hn⟩ := yOJ x.1 y h; ⟨yNm n, iNil, (yRp n x).trans hn⟩)
abbrev zj_a : Ty := .pair t230 (.pair t3 .unit)
abbrev zj_r : Ty := .pair t3 .unit
def zj_g : G := { T := T, E := [z0K_e], muts := [], fz := [] }
def zj_k : List (List Nat) := []
def yRL (n : Nat) : Ann := { keep := zj_k, fuel := n, inl := [], deep := 0 }
def zj_m (n : Nat) (p : Lnk × Int × Int × Int × Bool × Unit) (level : Int) : Option (Int × Unit) :=
  (Option.bind (yGK (IntKind.i64.wrap (p.2.1 - IntKind.i64.wrap (p.2.2.1 * level))) p.1.2.2.2.2.1) fun (v0 : Int × Unit) => some (if Bool.true = Bool.true then if v0.1 > 0 then v0.1 else (0 : Int) else if v0.1 < 0 then v0.1 else (0 : Int), ()))
theorem ySl (n : Nat) (x : zj_a.den) : runF zj_g (yRL n) Tryz.f182 zj_a zj_r x = zj_m n x.1 x.2.1 := by kernel_rfl
def zj_M (p : Lnk × Int × Int × Int × Bool × Unit) (level : Int) : Option (Int × Unit) := zj_m 0 p level
theorem yPB (p : Lnk × Int × Int × Int × Bool × Unit) (level : Int) (y : Int × Unit) (h : zj_M p level = some y) : ∃ n, zj_m n p level = some y := ⟨0, h⟩
def zj_e : Entry := { f := 182, args := zj_a, ress := zj_r, m := fun x => zj_M x.1 x.2.1 }
theorem yNq : FnOK Tryz.prog zj_e := yS (g := zj_g) (fn := Tryz.f182) yG yR (yD yJj eNil) (by kernel_rfl) (by kernel_rfl) (by kernel_rfl) (fun x y h => let ⟨n, hn⟩ := yPB x.1 x.2.1 y h; ⟨yRL n, iNil, (ySl n x).trans hn⟩)
end
end Go.Tw
end
section
set_option maxRecDepth 1000000
namespace Go.Tw
open Go.Vx Go.Vx.B Go.Proofs
noncomputable section
abbrev zm_a : Ty := .pair t25 .unit
abbrev zm_r : Ty := .pair t3 .unit
def zm_g : G := { T := T, E := [zn_e, zu_e], muts := [], fz := [] }
def zm_k : List (List Nat) := [[1, 4]]
def yNO (n : Nat) : Ann := { keep := zm_k, fuel := n, inl := [], deep := 0 }
def yGs (n : Nat) (r1 : Bas → Int → Option (Int × Unit)) (aB : Bas) (aU : Int) : Option (Int × Unit) :=
  (bif decide (aU < (↑aB.2.1.length : Int)) then (Option.bind (idx aB.2.1 aU) fun (v2 : Lnk) => (Option.bind (zu_M v2 (↑aB.1.length : Int)) fun (v3 : Int × Unit) => (bif v3.1 != 0 then some (v3.1, ()) else r1 aB (IntKind.i64.wrap (aU + 1))))) else some ((0 : Int), ()))
def y9R (n : Nat)  (k : Nat) (aB : Bas) (aU : Int) : Option (Int × Unit) :=
  iter (fun r y => yGs n (fun aB aU => r ((aB, (aU, ())), ((), ()))) y.1.1 y.1.2.1) k ((aB, (aU, ())), ((), ()))
def zm_m (n : Nat) (b : Bas) : Option (Int × Unit) :=
  (Option.bind (zn_M b.1) fun (v0 : Int × Unit) => (bif v0.1 != 0 then some (v0.1, ()) else (bif decide ((↑b.2.1.length : Int) > 16) then some ((5 : Int), ()) else (y9R n n (b) ((0 : Int))))))
theorem yTB (n : Nat) (x : zm_a.den) : runF zm_g (yNO n) Tryz.f24 zm_a zm_r x = zm_m n x.1 := by kernel_rfl
def yIK (aB : Bas) (aU : Int) (v2 : Lnk) : Option ((Int × Unit) ⊕ Unit) :=
  (Option.bind (zu_M v2 (↑aB.1.length : Int)) fun (v3 : Int × Unit) => (bif v3.1 != 0 then (some (Sum.inl ((v3.1, ())))) else (some (Sum.inr ()))))
def yLw (aB : Bas) : Option (Int × Unit) :=
  (some (((0 : Int), ())))
theorem yFZ (n : Nat) (hn : big ≤ n)  (aB : Bas) (hx : List.length (aB.2.1) < lenMax) : LeF some (yL (fun i__ e__ s__ => yIK aB i__ e__) (fun s__ => yLw aB) 0 (aB.2.1) ()) (y9R n n aB 0) := by
  refine yK (f := some) (W := fun k__ i__ s__ => y9R n k__ aB i__) (body := (fun i__ e__ s__ => yIK aB i__ e__)) (fin := (fun s__ => yLw aB)) (fun k__ i__ s__ => ?_) hx () n (by unfold big at hn; unfold lenMax at hx; omega)
  show LeF _ _ (yGs n (y9R n k__) aB i__)
  exact y6 (y5 fun v2 => (y5 fun v3 => (y6 (y7 rfl) (y7 rfl)))) (y03 (y7 rfl))
def zm_M (b : Bas) : Option (Int × Unit) :=
  (Option.bind (zn_M b.1) fun (v0 : Int × Unit) => (bif v0.1 != 0 then (some ((v0.1, ()))) else (bif decide ((↑b.2.1.length : Int) > 16) then (some (((5 : Int), ()))) else (bif decide (List.length (b.2.1) < lenMax) then yL (fun i__ e__ s__ => yIK (b) i__ e__) (fun s__ => yLw (b)) 0 (b.2.1) () else none))))
theorem yOm (b : Bas) (y : Int × Unit) (h : zm_M b = some y) : ∃ n, zm_m n b = some y :=
  ⟨big, LeF.top (show LeF some (zm_M b) (zm_m big b) from (fun (n : Nat) (hn : big ≤ n) => show LeF some (zm_M b) (zm_m n b) from (y5 fun v0 => (y6 (y7 rfl) (y6 (y7 rfl) (yN fun hx => by apply yFZ n hn; exact hx))))) big (Nat.le_refl _)) h⟩
def zm_e : Entry := { f := 24, args := zm_a, ress := zm_r, m := fun x => zm_M x.1 }
theorem yNs : FnOK Tryz.prog zm_e := yS (g := zm_g) (fn := Tryz.f24) yG yR (yD ySj (yD yS0 eNil)) (by kernel_rfl) (by kernel_rfl) (by kernel_rfl) (fun x y h => let ⟨n, hn⟩ := yOm x.1 y h; ⟨yNO n, iNil, (yTB n x).trans hn⟩)
def y9z (aV : Bas) (aW : Cnd) (aP : Int) (aN : List Int) (v9 : Int × Unit) (j19 : List Int) : Option ((List Int × List Int × Int × Unit) ⊕ (List Int × List Int)) :=
  (Option.bind (yIQ j19) fun (v20 : Bool × Unit) => (bif v20.1 then (some (Sum.inl (([], [], (4 : Int), ())))) else (bif decide (aN.length + (1 : Nat) ≤ memMax) then (some (Sum.inr ((j19), (aN ++ [v9.1])))) else none)))
def y5U (aV : Bas) (aW : Cnd) (aP : Int) (aN : List Int) (v8 : Lnk) (v9 : Int × Unit) (j14 : List Int) : Option ((List Int × List Int × Int × Unit) ⊕ (List Int × List Int)) :=
  (bif decide (v8.2.2.1 ≥ 0) then (Option.bind (idx j14 v8.2.2.1) fun (v15 : Int) => (Option.bind (j14[v8.2.2.1.toNat]?) fun (v16 : Int) => (Option.bind (idx j14 v8.2.2.1) fun (v17 : Int) => (Option.bind (j14[v8.2.2.1.toNat]?) fun (v18 : Int) => (y9z aV aW aP aN v9 (j14.set v8.2.2.1.toNat (IntKind.i64.wrap (v16 + v9.1)))))))) else (y9z aV aW aP aN v9 (j14)))
def yD8 (aV : Bas) (aW : Cnd) (aP : Int) (v8 : Lnk) (aS : List Int) (aN : List Int) : Option ((List Int × List Int × Int × Unit) ⊕ (List Int × List Int)) :=
  (Option.bind (yFd aV aS aW (v8.1, v8.2.1, v8.2.2.1, v8.2.2.2.1, v8.2.2.2.2.1, ())) fun (v9 : Int × Unit) => (bif decide (v8.2.1 ≥ 0) then (Option.bind (idx aS v8.2.1) fun (v10 : Int) => (Option.bind (aS[v8.2.1.toNat]?) fun (v11 : Int) => (Option.bind (idx aS v8.2.1) fun (v12 : Int) => (Option.bind (aS[v8.2.1.toNat]?) fun (v13 : Int) => (y5U aV aW aP aN v8 v9 (aS.set v8.2.1.toNat (IntKind.i64.wrap (v11 - v9.1)))))))) else (y5U aV aW aP aN v8 v9 (aS))))
def yKb (aV : Bas) (aW : Cnd) (aS : List Int) (aN : List Int) : Option (List Int × List Int × Int × Unit) :=
  (some ((aN, aS, (0 : Int), ())))
def yDO (am : Bas) (ay : Cnd) (aQ : Int) (aq : List Int) : Option ((List Int × List Int × Int × Unit) ⊕ (List Int)) :=
  (Option.bind (idx aq aQ) fun (v1 : Int) => (Option.bind (aq[aQ.toNat]?) fun (v2 : Int) => (Option.bind (idx ay.2.2.1 aQ) fun (v3 : Int) => (Option.bind (idx aq aQ) fun (v4 : Int) => (Option.bind (aq[aQ.toNat]?) fun (v5 : Int) => (some (Sum.inr (aq.set aQ.toNat (IntKind.i64.wrap (v2 + v3))))))))))
def y7I (am : Bas) (ay : Cnd) (aq : List Int) : Option (List Int × List Int × Int × Unit) :=
  (Option.bind (yIQ aq) fun (v6 : Bool × Unit) => (bif v6.1 then (some (([], [], (4 : Int), ()))) else (bif decide (List.length (am.2.1) < lenMax) then yL (fun i__ e__ s__ => yD8 (am) (ay) i__ e__ s__.1 s__.2) (fun s__ => yKb (am) (ay) s__.1 s__.2) 0 (am.2.1) ((aq), ([])) else none)))
def y8E (b : Bas) (v : List Int) (c : Cnd) : Option (List Int × List Int × Int × Unit) :=
  (bif decide ((0 : Nat) + v.length ≤ memMax) then (bif decide (((↑v.length : Int)) ≤ 9223372036854775807) then yGu (fun s__ => (↑s__.length : Int)) (fun i__ s__ => yDO (b) (c) i__ s__) (fun s__ => y7I (b) (c) s__) (((↑v.length : Int)) - 0).toNat 0 (v) else none) else none)
abbrev zb_a : Ty := .pair t41 (.pair t26 .unit)
abbrev zb_r : Ty := .pair t26 .unit
def zb_g : G := { T := T, E := [zV_e], muts := [5], fz := [] }
def zb_k : List (List Nat) := [[2, 5, 10, 11, 12]]
def yQM (n : Nat) : Ann := { keep := zb_k, fuel := n, inl := [], deep := 0 }
def yGd (n : Nat) (r1 : Bas → List Int → Int → Int → List Int → Option (List Int × Unit)) (aH : Bas) (ak : List Int) (aM : Int) (aC : Int) (aI : List Int) : Option (List Int × Unit) :=
  (bif decide (aC < aM) then (Option.bind (idx ak aC) fun (v2 : Int) => (Option.bind (idx aH.1 aC) fun (v3 : Nod) => (bif decide (v2 > v3.2.2.1) then (bif decide (aI.length + (1 : Nat) ≤ memMax) then r1 aH ak aM (IntKind.i64.wrap (aC + 1)) (aI ++ [aC]) else none) else r1 aH ak aM (IntKind.i64.wrap (aC + 1)) aI))) else some (aI, ()))
def y9k (n : Nat)  (k : Nat) (aH : Bas) (ak : List Int) (aM : Int) (aC : Int) (aI : List Int) : Option (List Int × Unit) :=
  iter (fun r y => yGd n (fun aH ak aM aC aI => r ((aH, (ak, (aM, (aC, ())))), ((aI, ()), ()))) y.1.1 y.1.2.1 y.1.2.2.1 y.1.2.2.2.1 y.2.1.1) k ((aH, (ak, (aM, (aC, ())))), ((aI, ()), ()))
def zb_m (n : Nat) (b : Bas) (v : List Int) : Option (List Int × Unit) :=
  (Option.bind (zV_M b v) fun (v0 : List Int × Unit) => (y9k n n (b) (v0.1) ((↑v0.1.length : Int)) ((0 : Int)) ([])))
theorem yS4 (n : Nat) (x : zb_a.den) : runF zb_g (yQM n) Tryz.f99 zb_a zb_r x = zb_m n x.1 x.2.1 := by kernel_rfl
def yMd (aH : Bas) (ak : List Int) (aC : Int) (v2 : Int) (aI : List Int) : Option ((List Int × Unit) ⊕ (List Int)) :=
  (Option.bind (idx aH.1 aC) fun (v3 : Nod) => (bif decide (v2 > v3.2.2.1) then (bif decide (aI.length + (1 : Nat) ≤ memMax) then (some (Sum.inr (aI ++ [aC]))) else none) else (some (Sum.inr (aI)))))
def yMp (aH : Bas) (ak : List Int) (aI : List Int) : Option (List Int × Unit) :=
  (some ((aI, ())))
theorem yEZ (n : Nat) (hn : big ≤ n)  (aH : Bas) (ak : List Int) (aI : List Int) (hx : List.length (ak) < lenMax) : LeF some (yL (fun i__ e__ s__ => yMd aH ak i__ e__ s__) (fun s__ => yMp aH ak s__) 0 (ak) aI) (y9k n n aH ak (List.length (ak) : Int) 0 aI) := by
  refine yK (f := some) (W := fun k__ i__ s__ => y9k n k__ aH ak (List.length (ak) : Int) i__ s__) (body := (fun i__ e__ s__ => yMd aH ak i__ e__ s__)) (fin := (fun s__ => yMp aH ak s__)) (fun k__ i__ s__ => ?_) hx aI n (by unfold big at hn; unfold lenMax at hx; omega)
  show LeF _ _ (yGd n (y9k n k__) aH ak (List.length (ak) : Int) i__ s__)
  exact y6 (y5 fun v2 => (y5 fun v3 => (y6 (y6 (y7 rfl) yx) (y7 rfl)))) (y03 (y7 rfl))
def zb_M (b : Bas) (v : List Int) : Option (List Int × Unit) :=
  (Option.bind (zV_M b v) fun (v0 : List Int × Unit) => (bif decide (List.length (v0.1) < lenMax) then yL (fun i__ e__ s__ => yMd (b) (v0.1) i__ e__ s__) (fun s__ => yMp (b) (v0.1) s__) 0 (v0.1) ([]) else none))
theorem yRP (b : Bas) (v : List Int) (y : List Int × Unit) (h : zb_M b v = some y) : ∃ n, zb_m n b v = some y :=
  ⟨big, LeF.top (show LeF some (zb_M b v) (zb_m big b v) from (fun (n : Nat) (hn : big ≤ n) => show LeF some (zb_M b v) (zb_m n b v) from (y5 fun v0 => (yN fun hx => by apply yEZ n hn; exact hx))) big (Nat.le_refl _)) h⟩
def zb_e : Entry := { f := 99, args := zb_a, ress := zb_r, m := fun x => zb_M x.1 x.2.1 }
theorem ySc : FnOK Tryz.prog zb_e := yS (g := zb_g) (fn := Tryz.f99) yG yR (yD yON eNil) (by kernel_rfl) (by kernel_rfl) (by kernel_rfl) (fun x y h => let ⟨n, hn⟩ := yRP x.1 x.2.1 y h; ⟨yQM n, iNil, (yS4 n x).trans hn⟩)
abbrev yLd : Ty := .pair t97 (.pair t3 .unit)
abbrev yOC : Ty := .pair t26 .unit
def yP3 : G := { T := T, E := [z0I_e, zD_e], muts := [], fz := [] }
def ySa : List (List Nat) := []
def yK2 (n : Nat) : Ann := { keep := ySa, fuel := n, inl := [], deep := 0 }
def yLz (n : Nat) (l : List (Int × Int × Unit)) (upper : Int) : Option (List Int × Unit) :=
  (Option.bind (zD_M l fun (x : (Int × Int × Unit) × Unit) => yMk x.1 upper) fun (v0 : List Int × Unit) => some (v0.1, ()))
theorem yNZ (n : Nat) (x : yLd.den) : runF yP3 (yK2 n) Tryz.f119 yLd yOC x = yLz n x.1 x.2.1 := by kernel_rfl
def yCu (l : List (Int × Int × Unit)) (upper : Int) : Option (List Int × Unit) := yLz 0 l upper
theorem yKo (l : List (Int × Int × Unit)) (upper : Int) (y : List Int × Unit) (h : yCu l upper = some y) : ∃ n, yLz n l upper = some y := ⟨0, h⟩
def z0b_e : Entry := { f := 119, args := yLd, ress := yOC, m := fun x => yCu x.1 x.2.1 }
theorem yKV : FnOK Tryz.prog z0b_e := yS (g := yP3) (fn := Tryz.f119) yG yR (yD yPg (yD yRi eNil)) (by kernel_rfl) (by kernel_rfl) (by kernel_rfl) (fun x y h => let ⟨n, hn⟩ := yKo x.1 x.2.1 y h; ⟨yK2 n, iNil, (yNZ n x).trans hn⟩)
abbrev zq_a : Ty := .pair t3 .unit
abbrev zq_r : Ty := .pair t35 .unit
def zq_g : G := { T := T, E := [z09_e], muts := [], fz := [] }
def zq_k : List (List Nat) := []
def yNf (n : Nat) : Ann := { keep := zq_k, fuel := n, inl := [], deep := 0 }
def zq_m (n : Nat) (n1 : Int) : Option (Int × Unit) :=
  some ((z09 n1 (-1024 : Int) (1024 : Int)).1, ())
theorem ySK (n : Nat) (x : zq_a.den) : runF zq_g (yNf n) Tryz.f137 zq_a zq_r x = zq_m n x.1 := by kernel_rfl
def zq (n1 : Int) : (Int × Unit) :=
  ((z09 n1 (-1024 : Int) (1024 : Int)).1, ())
abbrev zq_M (n1 : Int) : Option (Int × Unit) := some (zq n1)
theorem yR9 (n1 : Int) (y : Int × Unit) (h : zq_M n1 = some y) : ∃ n, zq_m n n1 = some y :=
  ⟨0, by rw [← h]; show zq_m 0 n1 = some (zq n1); unfold zq_m zq; first | rfl | (simp only [yP]; done) | (simp only [yP]; rfl)⟩
def zq_e : Entry := { f := 137, args := zq_a, ress := zq_r, m := fun x => zq_M x.1 }
theorem yNg : FnOK Tryz.prog zq_e := yS (g := zq_g) (fn := Tryz.f137) yG yR (yD y6s eNil) (by kernel_rfl) (by kernel_rfl) (by kernel_rfl) (fun x y h => let ⟨n, hn⟩ := yR9 x.1 y h; ⟨yNf n, iNil, (ySK n x).trans hn⟩)
abbrev zd_a : Ty := .pair t3 .unit
abbrev zd_r : Ty := .pair t35 .unit
def zd_g : G := { T := T, E := [z09_e], muts := [], fz := [] }
def zd_k : List (List Nat) := []
def yOw (n : Nat) : Ann := { keep := zd_k, fuel := n, inl := [], deep := 0 }
def zd_m (n : Nat) (n1 : Int) : Option (Int × Unit) :=
  some ((z09 n1 (0 : Int) (100000 : Int)).1, ())
theorem yTG (n : Nat) (x : zd_a.den) : runF zd_g (yOw n) Tryz.f139 zd_a zd_r x = zd_m n x.1 := by kernel_rfl
def zd (n1 : Int) : (Int × Unit) :=
  ((z09 n1 (0 : Int) (100000 : Int)).1, ())
abbrev zd_M (n1 : Int) : Option (Int × Unit) := some (zd n1)
theorem yNa (n1 : Int) (y : Int × Unit) (h : zd_M n1 = some y) : ∃ n, zd_m n n1 = some y :=
  ⟨0, by rw [← h]; show zd_m 0 n1 = some (zd n1); unfold zd_m zd; first | rfl | (simp only [yP]; done) | (simp only [yP]; rfl)⟩
def zd_e : Entry := { f := 139, args := zd_a, ress := zd_r, m := fun x => zd_M x.1 }
theorem yO5 : FnOK Tryz.prog zd_e := yS (g := zd_g) (fn := Tryz.f139) yG yR (yD y6s eNil) (by kernel_rfl) (by kernel_rfl) (by kernel_rfl) (fun x y h => let ⟨n, hn⟩ := yNa x.1 y h; ⟨yOw n, iNil, (yTG n x).trans hn⟩)
abbrev zF_a : Ty := .pair t3 .unit
abbrev zF_r : Ty := .pair t35 .unit
def zF_g : G := { T := T, E := [z09_e], muts := [], fz := [] }
def zF_k : List (List Nat) := []
def yQz (n : Nat) : Ann := { keep := zF_k, fuel := n, inl := [], deep := 0 }
def zF_m (n : Nat) (n1 : Int) : Option (Int × Unit) :=
  some ((z09 n1 (0 : Int) (100000000 : Int)).1, ())
theorem yRa (n : Nat) (x : zF_a.den) : runF zF_g (yQz n) Tryz.f151 zF_a zF_r x = zF_m n x.1 := by kernel_rfl
def zF (n1 : Int) : (Int × Unit) :=
  ((z09 n1 (0 : Int) (100000000 : Int)).1, ())
abbrev zF_M (n1 : Int) : Option (Int × Unit) := some (zF n1)
theorem yQc (n1 : Int) (y : Int × Unit) (h : zF_M n1 = some y) : ∃ n, zF_m n n1 = some y :=
  ⟨0, by rw [← h]; show zF_m 0 n1 = some (zF n1); unfold zF_m zF; first | rfl | (simp only [yP]; done) | (simp only [yP]; rfl)⟩
def zF_e : Entry := { f := 151, args := zF_a, ress := zF_r, m := fun x => zF_M x.1 }
theorem yTK : FnOK Tryz.prog zF_e := yS (g := zF_g) (fn := Tryz.f151) yG yR (yD y6s eNil) (by kernel_rfl) (by kernel_rfl) (by kernel_rfl) (fun x y h => let ⟨n, hn⟩ := yQc x.1 y h; ⟨yQz n, iNil, (yRa n x).trans hn⟩)
abbrev zM_a : Ty := .pair t3 .unit
abbrev zM_r : Ty := .pair t35 .unit
def zM_g : G := { T := T, E := [z09_e], muts := [], fz := [] }
def zM_k : List (List Nat) := []
def yNF (n : Nat) : Ann := { keep := zM_k, fuel := n, inl := [], deep := 0 }
def zM_m (n : Nat) (n1 : Int) : Option (Int × Unit) :=
  some ((z09 n1 (0 : Int) (100000000 : Int)).1, ())
theorem ySd (n : Nat) (x : zM_a.den) : runF zM_g (yNF n) Tryz.f160 zM_a zM_r x = zM_m n x.1 := by kernel_rfl
def zM (n1 : Int) : (Int × Unit) :=
  ((z09 n1 (0 : Int) (100000000 : Int)).1, ())
abbrev zM_M (n1 : Int) : Option (Int × Unit) := some (zM n1)
theorem yOH (n1 : Int) (y : Int × Unit) (h : zM_M n1 = some y) : ∃ n, zM_m n n1 = some y :=
  ⟨0, by rw [← h]; show zM_m 0 n1 = some (zM n1); unfold zM_m zM; first | rfl | (simp only [yP]; done) | (simp only [yP]; rfl)⟩
def zM_e : Entry := { f := 160, args := zM_a, ress := zM_r, m := fun x => zM_M x.1 }
theorem yRb : FnOK Tryz.prog zM_e := yS (g := zM_g) (fn := Tryz.f160) yG yR (yD y6s eNil) (by kernel_rfl) (by kernel_rfl) (by kernel_rfl) (fun x y h => let ⟨n, hn⟩ := yOH x.1 y h; ⟨yNF n, iNil, (ySd n x).trans hn⟩)
abbrev zN_a : Ty := .pair t96 (.pair (.ref t176) .unit)
abbrev zN_r : Ty := .pair t35 .unit
def zN_g : G := { T := T, E := [zP_e], muts := [], fz := [] }
def zN_k : List (List Nat) := []
def yO3 (n : Nat) : Ann := { keep := zN_k, fuel := n, inl := [], deep := 0 }
def zN_m (n : Nat) (x1 : Int × Int × Unit) (p1 : Int × Unit → Option (Int × Unit)) : Option (Int × Unit) :=
  (Option.bind (zP_M x1 p1) fun (v0 : Int × Unit) => some (v0.1, ()))
theorem yT8 (n : Nat) (x : zN_a.den) : runF zN_g (yO3 n) Tryz.f161 zN_a zN_r x = zN_m n x.1 x.2.1 := by kernel_rfl
def zN_M (x1 : Int × Int × Unit) (p1 : Int × Unit → Option (Int × Unit)) : Option (Int × Unit) := zN_m 0 x1 p1
theorem yRN (x1 : Int × Int × Unit) (p1 : Int × Unit → Option (Int × Unit)) (y : Int × Unit) (h : zN_M x1 p1 = some y) : ∃ n, zN_m n x1 p1 = some y := ⟨0, h⟩
def zN_e : Entry := { f := 161, args := zN_a, ress := zN_r, m := fun x => zN_M x.1 x.2.1 }
theorem ySC : FnOK Tryz.prog zN_e := yS (g := zN_g) (fn := Tryz.f161) yG yR (yD yKm eNil) (by kernel_rfl) (by kernel_rfl) (by kernel_rfl) (fun x y h => let ⟨n, hn⟩ := yRN x.1 x.2.1 y h; ⟨yO3 n, iNil, (yT8 n x).trans hn⟩)
abbrev zQ_a : Ty := .pair t230 .unit
abbrev zQ_r : Ty := .pair t3 .unit
def zQ_g : G := { T := T, E := [zR_e], muts := [], fz := [] }
def zQ_k : List (List Nat) := []
def yOz (n : Nat) : Ann := { keep := zQ_k, fuel := n, inl := [], deep := 0 }
def zQ_m (n : Nat) (p : Lnk × Int × Int × Int × Bool × Unit) : Option (Int × Unit) :=
  (bif !p.2.2.2.2.1 then some ((0 : Int), ()) else (Option.bind (zR_M p) fun (v0 : Int × Unit) => some (if Bool.true = Bool.true then if v0.1 > IntKind.i64.wrap ((0 : Int) - p.2.1) then v0.1 else IntKind.i64.wrap ((0 : Int) - p.2.1) else if v0.1 < IntKind.i64.wrap ((0 : Int) - p.2.1) then v0.1 else IntKind.i64.wrap ((0 : Int) - p.2.1), ())))
theorem ySf (n : Nat) (x : zQ_a.den) : runF zQ_g (yOz n) Tryz.f178 zQ_a zQ_r x = zQ_m n x.1 := by kernel_rfl
def zQ_M (p : Lnk × Int × Int × Int × Bool × Unit) : Option (Int × Unit) := zQ_m 0 p
theorem yMy (p : Lnk × Int × Int × Int × Bool × Unit) (y : Int × Unit) (h : zQ_M p = some y) : ∃ n, zQ_m n p = some y := ⟨0, h⟩
def zQ_e : Entry := { f := 178, args := zQ_a, ress := zQ_r, m := fun x => zQ_M x.1 }
theorem ySF : FnOK Tryz.prog zQ_e := yS (g := zQ_g) (fn := Tryz.f178) yG yR (yD yQD eNil) (by kernel_rfl) (by kernel_rfl) (by kernel_rfl) (fun x y h => let ⟨n, hn⟩ := yMy x.1 y h; ⟨yOz n, iNil, (ySf n x).trans hn⟩)
abbrev yMa : Ty := .pair t230 .unit
abbrev yRM : Ty := .pair t3 .unit
def yR7 : G := { T := T, E := [zR_e], muts := [], fz := [] }
def yRz : List (List Nat) := []
def yKZ (n : Nat) : Ann := { keep := yRz, fuel := n, inl := [], deep := 0 }
def yJ7 (n : Nat) (p : Lnk × Int × Int × Int × Bool × Unit) : Option (Int × Unit) :=
  (Option.bind (zR_M p) fun (v0 : Int × Unit) => some (if Bool.true = Bool.true then if v0.1 > 0 then v0.1 else (0 : Int) else if v0.1 < 0 then v0.1 else (0 : Int), ()))
theorem yNe (n : Nat) (x : yMa.den) : runF yR7 (yKZ n) Tryz.f179 yMa yRM x = yJ7 n x.1 := by kernel_rfl
def yEl (p : Lnk × Int × Int × Int × Bool × Unit) : Option (Int × Unit) := yJ7 0 p
theorem yMr (p : Lnk × Int × Int × Int × Bool × Unit) (y : Int × Unit) (h : yEl p = some y) : ∃ n, yJ7 n p = some y := ⟨0, h⟩
def z01_e : Entry := { f := 179, args := yMa, ress := yRM, m := fun x => yEl x.1 }
theorem yO0 : FnOK Tryz.prog z01_e := yS (g := yR7) (fn := Tryz.f179) yG yR (yD yQD eNil) (by kernel_rfl) (by kernel_rfl) (by kernel_rfl) (fun x y h => let ⟨n, hn⟩ := yMr x.1 y h; ⟨yKZ n, iNil, (yNe n x).trans hn⟩)
abbrev yMC : Ty := .pair t230 .unit
abbrev yNB : Ty := .pair t3 .unit
def yNu : G := { T := T, E := [zj_e], muts := [], fz := [] }
def ySu : List (List Nat) := []
def yKA (n : Nat) : Ann := { keep := ySu, fuel := n, inl := [], deep := 0 }
def yIT (n : Nat) (p : Lnk × Int × Int × Int × Bool × Unit) : Option (Int × Unit) :=
  (Option.bind (zj_M p (if Bool.true = Bool.true then if p.1.2.2.2.1 > p.2.2.2.1 then p.1.2.2.2.1 else p.2.2.2.1 else if p.1.2.2.2.1 < p.2.2.2.1 then p.1.2.2.2.1 else p.2.2.2.1)) fun (v0 : Int × Unit) => some (v0.1, ()))
theorem yOI (n : Nat) (x : yMC.den) : runF yNu (yKA n) Tryz.f181 yMC yNB x = yIT n x.1 := by kernel_rfl
def yFF (p : Lnk × Int × Int × Int × Bool × Unit) : Option (Int × Unit) := yIT 0 p
theorem yMF (p : Lnk × Int × Int × Int × Bool × Unit) (y : Int × Unit) (h : yFF p = some y) : ∃ n, yIT n p = some y := ⟨0, h⟩
def z02_e : Entry := { f := 181, args := yMC, ress := yNB, m := fun x => yFF x.1 }
theorem yOV : FnOK Tryz.prog z02_e := yS (g := yNu) (fn := Tryz.f181) yG yR (yD yNq eNil) (by kernel_rfl) (by kernel_rfl) (by kernel_rfl) (fun x y h => let ⟨n, hn⟩ := yMF x.1 y h; ⟨yKA n, iNil, (yOI n x).trans hn⟩)
abbrev yLb : Ty := .pair t230 .unit
abbrev yP4 : Ty := .pair t3 .unit
def yQV : G := { T := T, E := [zj_e], muts := [], fz := [] }
def yRr : List (List Nat) := []
def yJm (n : Nat) : Ann := { keep := yRr, fuel := n, inl := [], deep := 0 }
def yJJ (n : Nat) (p : Lnk × Int × Int × Int × Bool × Unit) : Option (Int × Unit) :=
  (Option.bind (zj_M p p.1.2.2.2.1) fun (v0 : Int × Unit) => some (v0.1, ()))
theorem yP6 (n : Nat) (x : yLb.den) : runF yQV (yJm n) Tryz.f184 yLb yP4 x = yJJ n x.1 := by kernel_rfl
def yEo (p : Lnk × Int × Int × Int × Bool × Unit) : Option (Int × Unit) := yJJ 0 p
theorem yM5 (p : Lnk × Int × Int × Int × Bool × Unit) (y : Int × Unit) (h : yEo p = some y) : ∃ n, yJJ n p = some y := ⟨0, h⟩
def z04_e : Entry := { f := 184, args := yLb, ress := yP4, m := fun x => yEo x.1 }
theorem yQk : FnOK Tryz.prog z04_e := yS (g := yQV) (fn := Tryz.f184) yG yR (yD yNq eNil) (by kernel_rfl) (by kernel_rfl) (by kernel_rfl) (fun x y h => let ⟨n, hn⟩ := yM5 x.1 y h; ⟨yJm n, iNil, (yP6 n x).trans hn⟩)
end
end Go.Tw
end
section
set_option maxRecDepth 1000000
namespace Go.Tw
open Go.Vx Go.Vx.B Go.Proofs
noncomputable section
abbrev za_a : Ty := .pair t25 (.pair t26 .unit)
abbrev za_r : Ty := .pair t3 .unit
def za_g : G := { T := T, E := [zm_e, ze_e], muts := [], fz := [] }
def za_k : List (List Nat) := []
def yOM (n : Nat) : Ann := { keep := za_k, fuel := n, inl := [], deep := 0 }
def za_m (n : Nat) (b : Bas) (v : List Int) : Option (Int × Unit) :=
  (Option.bind (zm_M b) fun (v0 : Int × Unit) => (bif v0.1 != 0 then some (v0.1, ()) else (Option.bind (ze_M b v) fun (v1 : Int × Unit) => some (v1.1, ()))))
theorem ySZ (n : Nat) (x : za_a.den) : runF za_g (yOM n) Tryz.f32 za_a za_r x = za_m n x.1 x.2.1 := by kernel_rfl
def za_M (b : Bas) (v : List Int) : Option (Int × Unit) := za_m 0 b v
theorem yQw (b : Bas) (v : List Int) (y : Int × Unit) (h : za_M b v = some y) : ∃ n, za_m n b v = some y := ⟨0, h⟩
def za_e : Entry := { f := 32, args := za_a, ress := za_r, m := fun x => za_M x.1 x.2.1 }
theorem yRl : FnOK Tryz.prog za_e := yS (g := za_g) (fn := Tryz.f32) yG yR (yD yNs (yD yNi eNil)) (by kernel_rfl) (by kernel_rfl) (by kernel_rfl) (fun x y h => let ⟨n, hn⟩ := yQw x.1 x.2.1 y h; ⟨yOM n, iNil, (ySZ n x).trans hn⟩)
abbrev zE_a : Ty := .pair t41 (.pair t44 .unit)
abbrev zE_r : Ty := .pair t35 .unit
def zE_g : G := { T := T, E := [zq_e, z0V_e, zG_e, zd_e, z0J_e], muts := [], fz := [] }
def zE_k : List (List Nat) := []
def yQB (n : Nat) : Ann := { keep := zE_k, fuel := n, inl := [], deep := 0 }
def zE_m (n : Nat) (b : Bas) (c : Cnd) : Option (Int × Unit) :=
  (Option.bind (zG_M c.2.2.1 fun (x : Int × Unit) => zd_M x.1) fun (v0 : List Int × Unit) => (Option.bind (y0U v0.1) fun (v1 : Int × Unit) => (Option.bind (y0U [(zq c.1).1, (z0V ((↑c.2.2.1.length : Int) != (↑b.1.length : Int)) (2 : Int)).1, v1.1]) fun (v2 : Int × Unit) => some (v2.1, ()))))
theorem ySp (n : Nat) (x : zE_a.den) : runF zE_g (yQB n) Tryz.f88 zE_a zE_r x = zE_m n x.1 x.2.1 := by kernel_rfl
def zE_M (b : Bas) (c : Cnd) : Option (Int × Unit) := zE_m 0 b c
theorem yPW (b : Bas) (c : Cnd) (y : Int × Unit) (h : zE_M b c = some y) : ∃ n, zE_m n b c = some y := ⟨0, h⟩
def zE_e : Entry := { f := 88, args := zE_a, ress := zE_r, m := fun x => zE_M x.1 x.2.1 }
theorem yOd : FnOK Tryz.prog zE_e := yS (g := zE_g) (fn := Tryz.f88) yG yR (yD yNg (yD y3U (yD yMx (yD yO5 (yD y3n eNil))))) (by kernel_rfl) (by kernel_rfl) (by kernel_rfl) (fun x y h => let ⟨n, hn⟩ := yPW x.1 x.2.1 y h; ⟨yQB n, iNil, (ySp n x).trans hn⟩)
abbrev zI_a : Ty := .pair t41 (.pair t26 .unit)
abbrev zI_r : Ty := .pair t35 .unit
def zI_g : G := { T := T, E := [z0V_e, zG_e, zF_e, z0J_e], muts := [], fz := [] }
def zI_k : List (List Nat) := []
def yPh (n : Nat) : Ann := { keep := zI_k, fuel := n, inl := [], deep := 0 }
def zI_m (n : Nat) (b : Bas) (v : List Int) : Option (Int × Unit) :=
  (Option.bind (zG_M v fun (x : Int × Unit) => zF_M x.1) fun (v0 : List Int × Unit) => (Option.bind (y0U v0.1) fun (v1 : Int × Unit) => (Option.bind (y0U [(z0V ((↑v.length : Int) != (↑b.1.length : Int)) (2 : Int)).1, v1.1]) fun (v2 : Int × Unit) => some (v2.1, ()))))
theorem ySn (n : Nat) (x : zI_a.den) : runF zI_g (yPh n) Tryz.f104 zI_a zI_r x = zI_m n x.1 x.2.1 := by kernel_rfl
def zI_M (b : Bas) (v : List Int) : Option (Int × Unit) := zI_m 0 b v
theorem yO4 (b : Bas) (v : List Int) (y : Int × Unit) (h : zI_M b v = some y) : ∃ n, zI_m n b v = some y := ⟨0, h⟩
def zI_e : Entry := { f := 104, args := zI_a, ress := zI_r, m := fun x => zI_M x.1 x.2.1 }
theorem ySe : FnOK Tryz.prog zI_e := yS (g := zI_g) (fn := Tryz.f104) yG yR (yD y3U (yD yMx (yD yTK (yD y3n eNil)))) (by kernel_rfl) (by kernel_rfl) (by kernel_rfl) (fun x y h => let ⟨n, hn⟩ := yO4 x.1 x.2.1 y h; ⟨yPh n, iNil, (ySn n x).trans hn⟩)
abbrev yKe : Ty := .unit
abbrev yPP : Ty := .pair t222 .unit
def yRO : G := { T := T, E := [zQ_e, z01_e, z02_e, z03_e, z04_e], muts := [], fz := [] }
def yTH : List (List Nat) := []
def yJi (n : Nat) : Ann := { keep := yTH, fuel := n, inl := [], deep := 0 }
def yJ9 (n : Nat)  : Option (List (List UInt8 × List Bool × ((Lnk × Int × Int × Int × Bool × Unit) × Unit → Option (Int × Unit)) × Unit) × Unit) :=
  some ([([(98 : UInt8), 97, 114, 114, 105, 101, 114], [Bool.true, Bool.false], fun (x : (Lnk × Int × Int × Int × Bool × Unit) × Unit) => zQ_M x.1, ()), ([(108 : UInt8), 101, 97, 107], [Bool.true, Bool.false], fun (x : (Lnk × Int × Int × Int × Bool × Unit) × Unit) => yEl x.1, ()), ([(111 : UInt8), 117, 116, 102, 97, 108, 108], [Bool.false, Bool.true], fun (x : (Lnk × Int × Int × Int × Bool × Unit) × Unit) => yFF x.1, ()), ([(112 : UInt8), 117, 109, 112], [Bool.false, Bool.false], fun (x : (Lnk × Int × Int × Int × Bool × Unit) × Unit) => yIR x.1, ()), ([(119 : UInt8), 101, 105, 114], [Bool.false, Bool.false], fun (x : (Lnk × Int × Int × Int × Bool × Unit) × Unit) => yEo x.1, ())], ())
theorem yN7 (n : Nat) (x : yKe.den) : runF yRO (yJi n) Tryz.f141 yKe yPP x = yJ9 n := by kernel_rfl
def z0L  : (List (List UInt8 × List Bool × ((Lnk × Int × Int × Int × Bool × Unit) × Unit → Option (Int × Unit)) × Unit) × Unit) :=
  ([([(98 : UInt8), 97, 114, 114, 105, 101, 114], [Bool.true, Bool.false], fun (x : (Lnk × Int × Int × Int × Bool × Unit) × Unit) => zQ_M x.1, ()), ([(108 : UInt8), 101, 97, 107], [Bool.true, Bool.false], fun (x : (Lnk × Int × Int × Int × Bool × Unit) × Unit) => yEl x.1, ()), ([(111 : UInt8), 117, 116, 102, 97, 108, 108], [Bool.false, Bool.true], fun (x : (Lnk × Int × Int × Int × Bool × Unit) × Unit) => yFF x.1, ()), ([(112 : UInt8), 117, 109, 112], [Bool.false, Bool.false], fun (x : (Lnk × Int × Int × Int × Bool × Unit) × Unit) => yIR x.1, ()), ([(119 : UInt8), 101, 105, 114], [Bool.false, Bool.false], fun (x : (Lnk × Int × Int × Int × Bool × Unit) × Unit) => yEo x.1, ())], ())
abbrev yNj  : Option (List (List UInt8 × List Bool × ((Lnk × Int × Int × Int × Bool × Unit) × Unit → Option (Int × Unit)) × Unit) × Unit) := some (z0L)
theorem yKn  (y : List (List UInt8 × List Bool × ((Lnk × Int × Int × Int × Bool × Unit) × Unit → Option (Int × Unit)) × Unit) × Unit) (h : yNj = some y) : ∃ n, yJ9 n = some y :=
  ⟨0, by rw [← h]; show yJ9 0 = some (z0L); unfold yJ9 z0L; first | rfl | (simp only [yP]; done) | (simp only [yP]; rfl)⟩
def z0L_e : Entry := { f := 141, args := yKe, ress := yPP, m := fun x => yNj }
theorem yJh : FnOK Tryz.prog z0L_e := yS (g := yRO) (fn := Tryz.f141) yG yR (yD ySF (yD yO0 (yD yOV (yD yPC (yD yQk eNil))))) (by kernel_rfl) (by kernel_rfl) (by kernel_rfl) (fun x y h => let ⟨n, hn⟩ := yKn y h; ⟨yJi n, iNil, (yN7 n x).trans hn⟩)
abbrev zY_a : Ty := .pair t104 (.pair t3 .unit)
abbrev zY_r : Ty := .pair t44 .unit
def zY_g : G := { T := T, E := [z0U_e, z0b_e], muts := [], fz := [] }
def zY_k : List (List Nat) := []
def yOy (n : Nat) : Ann := { keep := zY_k, fuel := n, inl := [], deep := 0 }
def zY_m (n : Nat) (r1 : Rng) (upper : Int) : Option (Cnd × Unit) :=
  (Option.bind (idx (z0U r1.1).1 upper) fun (v0 : Int) => (Option.bind (yCu r1.2.2.1 upper) fun (v1 : List Int × Unit) => some ((v0, r1.2.1, v1.1, ()), ())))
theorem yTA (n : Nat) (x : zY_a.den) : runF zY_g (yOy n) Tryz.f154 zY_a zY_r x = zY_m n x.1 x.2.1 := by kernel_rfl
def zY_M (r1 : Rng) (upper : Int) : Option (Cnd × Unit) := zY_m 0 r1 upper
theorem yQ5 (r1 : Rng) (upper : Int) (y : Cnd × Unit) (h : zY_M r1 upper = some y) : ∃ n, zY_m n r1 upper = some y := ⟨0, h⟩
def zY_e : Entry := { f := 154, args := zY_a, ress := zY_r, m := fun x => zY_M x.1 x.2.1 }
theorem yOq : FnOK Tryz.prog zY_e := yS (g := zY_g) (fn := Tryz.f154) yG yR (yD yKM (yD yKV eNil)) (by kernel_rfl) (by kernel_rfl) (by kernel_rfl) (fun x y h => let ⟨n, hn⟩ := yQ5 x.1 x.2.1 y h; ⟨yOy n, iNil, (yTA n x).trans hn⟩)
abbrev zH_a : Ty := .pair t96 .unit
abbrev zH_r : Ty := .pair t35 .unit
def zH_g : G := { T := T, E := [zP_e, zd_e], muts := [], fz := [] }
def zH_k : List (List Nat) := []
def yOP (n : Nat) : Ann := { keep := zH_k, fuel := n, inl := [], deep := 0 }
def zH_m (n : Nat) (x1 : Int × Int × Unit) : Option (Int × Unit) :=
  (Option.bind (zP_M x1 fun (x : Int × Unit) => zd_M x.1) fun (v0 : Int × Unit) => some (v0.1, ()))
theorem yS2 (n : Nat) (x : zH_a.den) : runF zH_g (yOP n) Tryz.f157 zH_a zH_r x = zH_m n x.1 := by kernel_rfl
def zH_M (x1 : Int × Int × Unit) : Option (Int × Unit) := zH_m 0 x1
theorem yPx (x1 : Int × Int × Unit) (y : Int × Unit) (h : zH_M x1 = some y) : ∃ n, zH_m n x1 = some y := ⟨0, h⟩
def zH_e : Entry := { f := 157, args := zH_a, ress := zH_r, m := fun x => zH_M x.1 }
theorem ySM : FnOK Tryz.prog zH_e := yS (g := zH_g) (fn := Tryz.f157) yG yR (yD yKm (yD yO5 eNil)) (by kernel_rfl) (by kernel_rfl) (by kernel_rfl) (fun x y h => let ⟨n, hn⟩ := yPx x.1 y h; ⟨yOP n, iNil, (yS2 n x).trans hn⟩)
end
end Go.Tw
end
section
set_option maxRecDepth 1000000
namespace Go.Tw
open Go.Vx Go.Vx.B Go.Proofs
noncomputable section
def il140 : Inl := { f := 140, fn := Tryz.f140, keep := [], muts := [], fz := [] }
theorem yJZ : y3O Tryz.prog il140 := ⟨by kernel_rfl, by kernel_rfl, fun e0 h => by cases (show (none : Option LibK) = some e0 from h)⟩
abbrev zf_a : Ty := .pair t41 (.pair t26 (.pair t44 .unit))
abbrev zf_r : Ty := .pair t26 (.pair (.nslice (.int .i64)) (.pair t4 .unit))
def zf_g : G := { T := T, E := [z0L_e, zp_e], muts := [14], fz := [] }
def zf_k : List (List Nat) := [[3, 5, 9, 10, 11, 28, 29, 30], [3, 5, 9, 10, 11, 14, 15, 42, 43, 44]]
def yNh (n : Nat) : Ann := { keep := zf_k, fuel := n, inl := [il140], deep := 3 }
def y6W (n : Nat) (r12 : Bas → Cnd → List (List UInt8 × List Bool × ((Lnk × Int × Int × Int × Bool × Unit) × Unit → Option (Int × Unit)) × Unit) → List Lnk → Int → Int → Bool → List Int → List Int → Option (List Int × Option (List Int) × Bool × Unit)) (ah : Bas) (ae : Cnd) (a7 : List (List UInt8 × List Bool × ((Lnk × Int × Int × Int × Bool × Unit) × Unit → Option (Int × Unit)) × Unit)) (a8 : List Lnk) (az : Int) (ai : Int) (aa : List Int) (v13 : Lnk) (v17 : Int × Unit) (j26 : Bool) (j27 : List Int) : Option (List Int × Option (List Int) × Bool × Unit) :=
  (bif v13.2.2.1 != (-1 : Int) then (Option.bind (idx j27 v13.2.2.1) fun (v28 : Int) => (Option.bind (j27[v13.2.2.1.toNat]?) fun (v29 : Int) => (Option.bind (idx j27 v13.2.2.1) fun (v30 : Int) => (Option.bind (j27[v13.2.2.1.toNat]?) fun (v31 : Int) => (bif j26 then (Option.bind (idx (j27.set v13.2.2.1.toNat (IntKind.i64.wrap (v29 + v17.1))) v13.2.2.1) fun (v32 : Int) => (Option.bind ((j27.set v13.2.2.1.toNat (IntKind.i64.wrap (v29 + v17.1)))[v13.2.2.1.toNat]?) fun (v33 : Int) => (bif decide (aa.length + (1 : Nat) ≤ memMax) then r12 ah ae a7 a8 az (IntKind.i64.wrap (ai + 1)) (decide (v33 ≤ 100000000)) (aa ++ [v17.1]) (j27.set v13.2.2.1.toNat (IntKind.i64.wrap (v29 + v17.1))) else none))) else (bif decide (aa.length + (1 : Nat) ≤ memMax) then r12 ah ae a7 a8 az (IntKind.i64.wrap (ai + 1)) Bool.false (aa ++ [v17.1]) (j27.set v13.2.2.1.toNat (IntKind.i64.wrap (v29 + v17.1))) else none)))))) else (bif decide (aa.length + (1 : Nat) ≤ memMax) then r12 ah ae a7 a8 az (IntKind.i64.wrap (ai + 1)) j26 (aa ++ [v17.1]) j27 else none))
def yDV (n : Nat) (r12 : Bas → Cnd → List (List UInt8 × List Bool × ((Lnk × Int × Int × Int × Bool × Unit) × Unit → Option (Int × Unit)) × Unit) → List Lnk → Int → Int → Bool → List Int → List Int → Option (List Int × Option (List Int) × Bool × Unit)) (ah : Bas) (ae : Cnd) (a7 : List (List UInt8 × List Bool × ((Lnk × Int × Int × Int × Bool × Unit) × Unit → Option (Int × Unit)) × Unit)) (a8 : List Lnk) (az : Int) (ai : Int) (b1_0_12 : Bool) (aa : List Int) (ac : List Int) : Option (List Int × Option (List Int) × Bool × Unit) :=
  (bif decide (ai < az) then (Option.bind (idx a8 ai) fun (v13 : Lnk) => (Option.bind (idx ac (zp (v13.1, v13.2.1, v13.2.2.1, v13.2.2.2.1, v13.2.2.2.2.1, ())).1) fun (v14 : Int) => (Option.bind (ac[(zp (v13.1, v13.2.1, v13.2.2.1, v13.2.2.2.1, v13.2.2.2.2.1, ())).1.toNat]?) fun (v15 : Int) => (Option.bind (idx ah.1 (zp (v13.1, v13.2.1, v13.2.2.1, v13.2.2.2.1, v13.2.2.2.2.1, ())).1) fun (v16 : Nod) => (Option.bind (((yZ Ty.str ((Ty.arr (nat_lit 2) Ty.bool).pair (((((Ty.str.pair ((Ty.int IntKind.i64).pair ((Ty.int IntKind.i64).pair ((Ty.int IntKind.i64).pair ((Ty.int IntKind.i64).pair Ty.unit))))).pair ((Ty.int IntKind.i64).pair ((Ty.int IntKind.i64).pair ((Ty.int IntKind.i64).pair (Ty.bool.pair Ty.unit))))).pair Ty.unit).func ((Ty.int IntKind.i64).pair Ty.unit)).pair Ty.unit)) a7 v13.1).getD ([Bool.false, Bool.false], fun (x : (((Ty.str.pair ((Ty.int IntKind.i64).pair ((Ty.int IntKind.i64).pair ((Ty.int IntKind.i64).pair ((Ty.int IntKind.i64).pair Ty.unit))))).pair ((Ty.int IntKind.i64).pair ((Ty.int IntKind.i64).pair ((Ty.int IntKind.i64).pair (Ty.bool.pair Ty.unit))))).pair Ty.unit).den) => Option.none, ())).2.1 (((v13.1, v13.2.1, v13.2.2.1, v13.2.2.2.1, v13.2.2.2.2.1, ()), v15, v16.2.1, ae.1, ae.2.1, ()), ())) fun (v17 : Int × Unit) => (bif v13.2.1 != (-1 : Int) then (Option.bind (idx ac v13.2.1) fun (v18 : Int) => (Option.bind (ac[v13.2.1.toNat]?) fun (v19 : Int) => (Option.bind (idx ac v13.2.1) fun (v20 : Int) => (Option.bind (ac[v13.2.1.toNat]?) fun (v21 : Int) => (bif b1_0_12 then (Option.bind (idx (ac.set v13.2.1.toNat (IntKind.i64.wrap (v19 + IntKind.i64.wrap ((0 : Int) - v17.1)))) v13.2.1) fun (v22 : Int) => (Option.bind ((ac.set v13.2.1.toNat (IntKind.i64.wrap (v19 + IntKind.i64.wrap ((0 : Int) - v17.1))))[v13.2.1.toNat]?) fun (v23 : Int) => (y6W n r12 ah ae a7 a8 az ai aa v13 v17 (decide (v23 ≤ 100000000)) (ac.set v13.2.1.toNat (IntKind.i64.wrap (v19 + IntKind.i64.wrap ((0 : Int) - v17.1))))))) else (y6W n r12 ah ae a7 a8 az ai aa v13 v17 (Bool.false) (ac.set v13.2.1.toNat (IntKind.i64.wrap (v19 + IntKind.i64.wrap ((0 : Int) - v17.1)))))))))) else (y6W n r12 ah ae a7 a8 az ai aa v13 v17 (b1_0_12) (ac)))))))) else some (aa, some ac, b1_0_12, ()))
def y6Y (n : Nat)  (k : Nat) (ah : Bas) (ae : Cnd) (a7 : List (List UInt8 × List Bool × ((Lnk × Int × Int × Int × Bool × Unit) × Unit → Option (Int × Unit)) × Unit)) (a8 : List Lnk) (az : Int) (ai : Int) (b1_0_12 : Bool) (aa : List Int) (ac : List Int) : Option (List Int × Option (List Int) × Bool × Unit) :=
  iter (fun r y => yDV n (fun ah ae a7 a8 az ai b1_0_12 aa ac => r ((ah, (ae, ((), (a7, (a8, (az, (ai, ()))))))), (((), ((b1_0_12, ()), (aa, (ac, ())))), ()))) y.1.1 y.1.2.1 y.1.2.2.2.1 y.1.2.2.2.2.1 y.1.2.2.2.2.2.1 y.1.2.2.2.2.2.2.1 y.2.1.2.1.1 y.2.1.2.2.1 y.2.1.2.2.2.1) k ((ah, (ae, ((), (a7, (a8, (az, (ai, ()))))))), (((), ((b1_0_12, ()), (aa, (ac, ())))), ()))
def yHL (n : Nat) (r0 : Bas → Cnd → List Int → Int → Int → Bool → List Int → Option (List Int × Option (List Int) × Bool × Unit)) (am : Bas) (ay : Cnd) (aj : List Int) (aK : Int) (af : Int) (b1_0_0 : Bool) (ar : List Int) : Option (List Int × Option (List Int) × Bool × Unit) :=
  (bif decide (af < aK) then (Option.bind (idx aj af) fun (v1 : Int) => (bif af != (-1 : Int) then (Option.bind (idx ar af) fun (v2 : Int) => (Option.bind (ar[af.toNat]?) fun (v3 : Int) => (Option.bind (idx ar af) fun (v4 : Int) => (Option.bind (ar[af.toNat]?) fun (v5 : Int) => (bif b1_0_0 then (Option.bind (idx (ar.set af.toNat (IntKind.i64.wrap (v3 + v1))) af) fun (v6 : Int) => (Option.bind ((ar.set af.toNat (IntKind.i64.wrap (v3 + v1)))[af.toNat]?) fun (v7 : Int) => r0 am ay aj aK (IntKind.i64.wrap (af + 1)) (decide (v7 ≤ 100000000)) (ar.set af.toNat (IntKind.i64.wrap (v3 + v1))))) else r0 am ay aj aK (IntKind.i64.wrap (af + 1)) Bool.false (ar.set af.toNat (IntKind.i64.wrap (v3 + v1)))))))) else r0 am ay aj aK (IntKind.i64.wrap (af + 1)) b1_0_0 ar)) else (y6Y n n (am) (ay) (z0L.1) (am.2.1) ((↑am.2.1.length : Int)) ((0 : Int)) (b1_0_0) ([]) (ar)))
def y9v (n : Nat)  (k : Nat) (am : Bas) (ay : Cnd) (aj : List Int) (aK : Int) (af : Int) (b1_0_0 : Bool) (ar : List Int) : Option (List Int × Option (List Int) × Bool × Unit) :=
  iter (fun r y => yHL n (fun am ay aj aK af b1_0_0 ar => r ((am, (ay, ((), (aj, (aK, (af, ())))))), (((), ((b1_0_0, ()), (ar, ()))), ()))) y.1.1 y.1.2.1 y.1.2.2.2.1 y.1.2.2.2.2.1 y.1.2.2.2.2.2.1 y.2.1.2.1.1 y.2.1.2.2.1) k ((am, (ay, ((), (aj, (aK, (af, ())))))), (((), ((b1_0_0, ()), (ar, ()))), ()))
def zf_m (n : Nat) (b : Bas) (v : List Int) (c : Cnd) : Option (List Int × Option (List Int) × Bool × Unit) :=
  (bif Bool.true && decide ((0 : Int) ≤ (↑v.length : Int)) && decide ((↑v.length : Int) ≤ (↑memMax : Int)) && (↑v.length : Int) == (↑v.length : Int) then (y9v n n (b) (c) (c.2.2.1) ((↑c.2.2.1.length : Int)) ((0 : Int)) (Bool.true) (List.take (List.replicate (↑v.length : Int).toNat (0 : Int)).length v ++ List.drop v.length (List.replicate (↑v.length : Int).toNat (0 : Int)))) else none)
theorem yRT (n : Nat) (x : zf_a.den) : runF zf_g (yNh n) Tryz.f92 zf_a zf_r x = zf_m n x.1 x.2.1 x.2.2.1 := by kernel_rfl
def y2g (ah : Bas) (ae : Cnd) (a7 : List (List UInt8 × List Bool × ((Lnk × Int × Int × Int × Bool × Unit) × Unit → Option (Int × Unit)) × Unit)) (a8 : List Lnk) (ai : Int) (aa : List Int) (v13 : Lnk) (v17 : Int × Unit) (j26 : Bool) (j27 : List Int) : Option ((List Int × Option (List Int) × Bool × Unit) ⊕ (Bool × List Int × List Int)) :=
  (bif v13.2.2.1 != (-1 : Int) then (Option.bind (idx j27 v13.2.2.1) fun (v28 : Int) => (Option.bind (j27[v13.2.2.1.toNat]?) fun (v29 : Int) => (Option.bind (idx j27 v13.2.2.1) fun (v30 : Int) => (Option.bind (j27[v13.2.2.1.toNat]?) fun (v31 : Int) => (bif j26 then (Option.bind (idx (j27.set v13.2.2.1.toNat (IntKind.i64.wrap (v29 + v17.1))) v13.2.2.1) fun (v32 : Int) => (Option.bind ((j27.set v13.2.2.1.toNat (IntKind.i64.wrap (v29 + v17.1)))[v13.2.2.1.toNat]?) fun (v33 : Int) => (bif decide (aa.length + (1 : Nat) ≤ memMax) then (some (Sum.inr ((decide (v33 ≤ 100000000)), (aa ++ [v17.1]), (j27.set v13.2.2.1.toNat (IntKind.i64.wrap (v29 + v17.1)))))) else none))) else (bif decide (aa.length + (1 : Nat) ≤ memMax) then (some (Sum.inr ((Bool.false), (aa ++ [v17.1]), (j27.set v13.2.2.1.toNat (IntKind.i64.wrap (v29 + v17.1)))))) else none)))))) else (bif decide (aa.length + (1 : Nat) ≤ memMax) then (some (Sum.inr ((j26), (aa ++ [v17.1]), (j27)))) else none))
theorem y0R (n : Nat) (hn : big ≤ n)  (r12 : Bas → Cnd → List (List UInt8 × List Bool × ((Lnk × Int × Int × Int × Bool × Unit) × Unit → Option (Int × Unit)) × Unit) → List Lnk → Int → Int → Bool → List Int → List Int → Option (List Int × Option (List Int) × Bool × Unit)) (ah : Bas) (ae : Cnd) (a7 : List (List UInt8 × List Bool × ((Lnk × Int × Int × Int × Bool × Unit) × Unit → Option (Int × Unit)) × Unit)) (a8 : List Lnk) (ai : Int) (aa : List Int) (v13 : Lnk) (v17 : Int × Unit) (j26 : Bool) (j27 : List Int) : LeF (elim some fun (s__ : (Bool × List Int × List Int)) => r12 ah ae a7 a8 (List.length (a8) : Int) (IntKind.i64.wrap (ai + 1)) s__.1 s__.2.1 s__.2.2) (y2g ah ae a7 a8 ai aa v13 v17 j26 j27) (y6W n r12 ah ae a7 a8 (List.length (a8) : Int) ai aa v13 v17 j26 j27) :=
  (y6 (y5 fun v28 => (y5 fun v29 => (y5 fun v30 => (y5 fun v31 => (y6 (y5 fun v32 => (y5 fun v33 => (y6 (y7 rfl) yx))) (y6 (y7 rfl) yx)))))) (y6 (y7 rfl) yx))
def y97 (ah : Bas) (ae : Cnd) (a7 : List (List UInt8 × List Bool × ((Lnk × Int × Int × Int × Bool × Unit) × Unit → Option (Int × Unit)) × Unit)) (a8 : List Lnk) (ai : Int) (v13 : Lnk) (b1_0_12 : Bool) (aa : List Int) (ac : List Int) : Option ((List Int × Option (List Int) × Bool × Unit) ⊕ (Bool × List Int × List Int)) :=
  (Option.bind (idx ac (zp (v13.1, v13.2.1, v13.2.2.1, v13.2.2.2.1, v13.2.2.2.2.1, ())).1) fun (v14 : Int) => (Option.bind (ac[(zp (v13.1, v13.2.1, v13.2.2.1, v13.2.2.2.1, v13.2.2.2.2.1, ())).1.toNat]?) fun (v15 : Int) => (Option.bind (idx ah.1 (zp (v13.1, v13.2.1, v13.2.2.1, v13.2.2.2.1, v13.2.2.2.2.1, ())).1) fun (v16 : Nod) => (Option.bind (((yZ Ty.str ((Ty.arr (nat_lit 2) Ty.bool).pair (((((Ty.str.pair ((Ty.int IntKind.i64).pair ((Ty.int IntKind.i64).pair ((Ty.int IntKind.i64).pair ((Ty.int IntKind.i64).pair Ty.unit))))).pair ((Ty.int IntKind.i64).pair ((Ty.int IntKind.i64).pair ((Ty.int IntKind.i64).pair (Ty.bool.pair Ty.unit))))).pair Ty.unit).func ((Ty.int IntKind.i64).pair Ty.unit)).pair Ty.unit)) a7 v13.1).getD ([Bool.false, Bool.false], fun (x : (((Ty.str.pair ((Ty.int IntKind.i64).pair ((Ty.int IntKind.i64).pair ((Ty.int IntKind.i64).pair ((Ty.int IntKind.i64).pair Ty.unit))))).pair ((Ty.int IntKind.i64).pair ((Ty.int IntKind.i64).pair ((Ty.int IntKind.i64).pair (Ty.bool.pair Ty.unit))))).pair Ty.unit).den) => Option.none, ())).2.1 (((v13.1, v13.2.1, v13.2.2.1, v13.2.2.2.1, v13.2.2.2.2.1, ()), v15, v16.2.1, ae.1, ae.2.1, ()), ())) fun (v17 : Int × Unit) => (bif v13.2.1 != (-1 : Int) then (Option.bind (idx ac v13.2.1) fun (v18 : Int) => (Option.bind (ac[v13.2.1.toNat]?) fun (v19 : Int) => (Option.bind (idx ac v13.2.1) fun (v20 : Int) => (Option.bind (ac[v13.2.1.toNat]?) fun (v21 : Int) => (bif b1_0_12 then (Option.bind (idx (ac.set v13.2.1.toNat (IntKind.i64.wrap (v19 + IntKind.i64.wrap ((0 : Int) - v17.1)))) v13.2.1) fun (v22 : Int) => (Option.bind ((ac.set v13.2.1.toNat (IntKind.i64.wrap (v19 + IntKind.i64.wrap ((0 : Int) - v17.1))))[v13.2.1.toNat]?) fun (v23 : Int) => (y2g ah ae a7 a8 ai aa v13 v17 (decide (v23 ≤ 100000000)) (ac.set v13.2.1.toNat (IntKind.i64.wrap (v19 + IntKind.i64.wrap ((0 : Int) - v17.1))))))) else (y2g ah ae a7 a8 ai aa v13 v17 (Bool.false) (ac.set v13.2.1.toNat (IntKind.i64.wrap (v19 + IntKind.i64.wrap ((0 : Int) - v17.1)))))))))) else (y2g ah ae a7 a8 ai aa v13 v17 (b1_0_12) (ac)))))))
def yDM (ah : Bas) (ae : Cnd) (a7 : List (List UInt8 × List Bool × ((Lnk × Int × Int × Int × Bool × Unit) × Unit → Option (Int × Unit)) × Unit)) (a8 : List Lnk) (b1_0_12 : Bool) (aa : List Int) (ac : List Int) : Option (List Int × Option (List Int) × Bool × Unit) :=
  (some ((aa, some ac, b1_0_12, ())))
theorem yCa (n : Nat) (hn : big ≤ n)  (ah : Bas) (ae : Cnd) (a7 : List (List UInt8 × List Bool × ((Lnk × Int × Int × Int × Bool × Unit) × Unit → Option (Int × Unit)) × Unit)) (a8 : List Lnk) (b1_0_12 : Bool) (aa : List Int) (ac : List Int) (hx : List.length (a8) < lenMax) : LeF some (yL (fun i__ e__ s__ => y97 ah ae a7 a8 i__ e__ s__.1 s__.2.1 s__.2.2) (fun s__ => yDM ah ae a7 a8 s__.1 s__.2.1 s__.2.2) 0 (a8) (b1_0_12, aa, ac)) (y6Y n n ah ae a7 a8 (List.length (a8) : Int) 0 b1_0_12 aa ac) := by
  refine yK (f := some) (W := fun k__ i__ s__ => y6Y n k__ ah ae a7 a8 (List.length (a8) : Int) i__ s__.1 s__.2.1 s__.2.2) (body := (fun i__ e__ s__ => y97 ah ae a7 a8 i__ e__ s__.1 s__.2.1 s__.2.2)) (fin := (fun s__ => yDM ah ae a7 a8 s__.1 s__.2.1 s__.2.2)) (fun k__ i__ s__ => ?_) hx (b1_0_12, aa, ac) n (by unfold big at hn; unfold lenMax at hx; omega)
  show LeF _ _ (yDV n (y6Y n k__) ah ae a7 a8 (List.length (a8) : Int) i__ s__.1 s__.2.1 s__.2.2)
  exact y6 (y5 fun v13 => (y5 fun v14 => (y5 fun v15 => (y5 fun v16 => (y5 fun v17 => (y6 (y5 fun v18 => (y5 fun v19 => (y5 fun v20 => (y5 fun v21 => (y6 (y5 fun v22 => (y5 fun v23 => (by apply y0R n hn))) (by apply y0R n hn)))))) (by apply y0R n hn))))))) (y03 (y7 rfl))
def yET (am : Bas) (ay : Cnd) (aj : List Int) (af : Int) (v1 : Int) (b1_0_0 : Bool) (ar : List Int) : Option ((List Int × Option (List Int) × Bool × Unit) ⊕ (Bool × List Int)) :=
  (bif af != (-1 : Int) then (Option.bind (idx ar af) fun (v2 : Int) => (Option.bind (ar[af.toNat]?) fun (v3 : Int) => (Option.bind (idx ar af) fun (v4 : Int) => (Option.bind (ar[af.toNat]?) fun (v5 : Int) => (bif b1_0_0 then (Option.bind (idx (ar.set af.toNat (IntKind.i64.wrap (v3 + v1))) af) fun (v6 : Int) => (Option.bind ((ar.set af.toNat (IntKind.i64.wrap (v3 + v1)))[af.toNat]?) fun (v7 : Int) => (some (Sum.inr ((decide (v7 ≤ 100000000)), (ar.set af.toNat (IntKind.i64.wrap (v3 + v1)))))))) else (some (Sum.inr ((Bool.false), (ar.set af.toNat (IntKind.i64.wrap (v3 + v1))))))))))) else (some (Sum.inr ((b1_0_0), (ar)))))
def yCM (am : Bas) (ay : Cnd) (aj : List Int) (b1_0_0 : Bool) (ar : List Int) : Option (List Int × Option (List Int) × Bool × Unit) :=
  (bif decide (List.length (am.2.1) < lenMax) then yL (fun i__ e__ s__ => y97 (am) (ay) (z0L.1) (am.2.1) i__ e__ s__.1 s__.2.1 s__.2.2) (fun s__ => yDM (am) (ay) (z0L.1) (am.2.1) s__.1 s__.2.1 s__.2.2) 0 (am.2.1) ((b1_0_0), ([]), (ar)) else none)
theorem yF3 (n : Nat) (hn : big ≤ n)  (am : Bas) (ay : Cnd) (aj : List Int) (b1_0_0 : Bool) (ar : List Int) (hx : List.length (aj) < lenMax) : LeF some (yL (fun i__ e__ s__ => yET am ay aj i__ e__ s__.1 s__.2) (fun s__ => yCM am ay aj s__.1 s__.2) 0 (aj) (b1_0_0, ar)) (y9v n n am ay aj (List.length (aj) : Int) 0 b1_0_0 ar) := by
  refine yK (f := some) (W := fun k__ i__ s__ => y9v n k__ am ay aj (List.length (aj) : Int) i__ s__.1 s__.2) (body := (fun i__ e__ s__ => yET am ay aj i__ e__ s__.1 s__.2)) (fin := (fun s__ => yCM am ay aj s__.1 s__.2)) (fun k__ i__ s__ => ?_) hx (b1_0_0, ar) n (by unfold big at hn; unfold lenMax at hx; omega)
  show LeF _ _ (yHL n (y9v n k__) am ay aj (List.length (aj) : Int) i__ s__.1 s__.2)
  exact y6 (y5 fun v1 => (y6 (y5 fun v2 => (y5 fun v3 => (y5 fun v4 => (y5 fun v5 => (y6 (y5 fun v6 => (y5 fun v7 => (y7 rfl))) (y7 rfl)))))) (y7 rfl))) (y03 (yN fun hx => by apply yCa n hn; exact hx))
def zf_M (b : Bas) (v : List Int) (c : Cnd) : Option (List Int × Option (List Int) × Bool × Unit) :=
  (bif Bool.true && decide ((0 : Int) ≤ (↑v.length : Int)) && decide ((↑v.length : Int) ≤ (↑memMax : Int)) && (↑v.length : Int) == (↑v.length : Int) then (bif decide (List.length (c.2.2.1) < lenMax) then yL (fun i__ e__ s__ => yET (b) (c) (c.2.2.1) i__ e__ s__.1 s__.2) (fun s__ => yCM (b) (c) (c.2.2.1) s__.1 s__.2) 0 (c.2.2.1) ((Bool.true), (List.take (List.replicate (↑v.length : Int).toNat (0 : Int)).length v ++ List.drop v.length (List.replicate (↑v.length : Int).toNat (0 : Int)))) else none) else none)
theorem yOB (b : Bas) (v : List Int) (c : Cnd) (y : List Int × Option (List Int) × Bool × Unit) (h : zf_M b v c = some y) : ∃ n, zf_m n b v c = some y :=
  ⟨big, LeF.top (show LeF some (zf_M b v c) (zf_m big b v c) from (fun (n : Nat) (hn : big ≤ n) => show LeF some (zf_M b v c) (zf_m n b v c) from (y6 (yN fun hx => by apply yF3 n hn; exact hx) yx)) big (Nat.le_refl _)) h⟩
def zf_e : Entry := { f := 92, args := zf_a, ress := zf_r, m := fun x => zf_M x.1 x.2.1 x.2.2.1 }
theorem yNn : FnOK Tryz.prog zf_e := yS (g := zf_g) (fn := Tryz.f92) yG yR (yD yJh (yD yT2 eNil)) (by kernel_rfl) (by kernel_rfl) (by kernel_rfl) (fun x y h => let ⟨n, hn⟩ := yOB x.1 x.2.1 x.2.2.1 y h; ⟨yNh n, (y6J yJZ iNil), (yRT n x).trans hn⟩)
def il150 : Inl := { f := 150, fn := Tryz.f150, keep := [], muts := [], fz := [] }
theorem yJT : y3O Tryz.prog il150 := ⟨by kernel_rfl, by kernel_rfl, fun e0 h => by cases (show (none : Option LibK) = some e0 from h)⟩
abbrev zh_a : Ty := .pair t163 (.pair t3 .unit)
abbrev zh_r : Ty := .pair t35 .unit
def zh_g : G := { T := T, E := [z0L_e, z0V_e, z09_e, z0J_e], muts := [], fz := [] }
def zh_k : List (List Nat) := []
def yNS (n : Nat) : Ann := { keep := zh_k, fuel := n, inl := [il150], deep := 3 }
def y12 (n : Nat) (l : Lnk) (nodes : Int) (j5 : Bool) : Option (Int × Unit) :=
  (bif !j5 then some ((10 : Int), ()) else (bif ((yZ Ty.str ((Ty.arr (2 : Nat) Ty.bool).pair (((((Ty.str.pair ((Ty.int IntKind.i64).pair ((Ty.int IntKind.i64).pair ((Ty.int IntKind.i64).pair ((Ty.int IntKind.i64).pair Ty.unit))))).pair ((Ty.int IntKind.i64).pair ((Ty.int IntKind.i64).pair ((Ty.int IntKind.i64).pair (Ty.bool.pair Ty.unit))))).pair Ty.unit).func ((Ty.int IntKind.i64).pair Ty.unit)).pair Ty.unit)) z0L.1 l.1).getD ([Bool.false, Bool.false], fun (x : (Lnk × Int × Int × Int × Bool × Unit) × Unit) => Option.none, ())).1.getD (nat_lit 1) Bool.false then (bif l.2.2.1 == (-1 : Int) then (bif eqV (Ty.arr (2 : Nat) Ty.bool) [((yZ Ty.str ((Ty.arr (2 : Nat) Ty.bool).pair (((((Ty.str.pair ((Ty.int IntKind.i64).pair ((Ty.int IntKind.i64).pair ((Ty.int IntKind.i64).pair ((Ty.int IntKind.i64).pair Ty.unit))))).pair ((Ty.int IntKind.i64).pair ((Ty.int IntKind.i64).pair ((Ty.int IntKind.i64).pair (Ty.bool.pair Ty.unit))))).pair Ty.unit).func ((Ty.int IntKind.i64).pair Ty.unit)).pair Ty.unit)) z0L.1 l.1).getD ([Bool.false, Bool.false], fun (x : (Lnk × Int × Int × Int × Bool × Unit) × Unit) => Option.none, ())).1.getD (nat_lit 0) Bool.false, ((yZ Ty.str ((Ty.arr (2 : Nat) Ty.bool).pair (((((Ty.str.pair ((Ty.int IntKind.i64).pair ((Ty.int IntKind.i64).pair ((Ty.int IntKind.i64).pair ((Ty.int IntKind.i64).pair Ty.unit))))).pair ((Ty.int IntKind.i64).pair ((Ty.int IntKind.i64).pair ((Ty.int IntKind.i64).pair (Ty.bool.pair Ty.unit))))).pair Ty.unit).func ((Ty.int IntKind.i64).pair Ty.unit)).pair Ty.unit)) z0L.1 l.1).getD ([Bool.false, Bool.false], fun (x : (Lnk × Int × Int × Int × Bool × Unit) × Unit) => Option.none, ())).1.getD (nat_lit 1) Bool.false] [Bool.true, Bool.false] then (Option.bind (y0U [(z0V (l.2.1 == l.2.2.1) (17 : Int)).1, (z09 l.2.2.2.1 (0 : Int) (0 : Int)).1, (z09 l.2.2.2.2.1 (1 : Int) (1000 : Int)).1]) fun (v27 : Int × Unit) => some (v27.1, ())) else (Option.bind (y0U [(z0V (l.2.1 == l.2.2.1) (17 : Int)).1, (z09 l.2.2.2.1 (0 : Int) (1024 : Int)).1, (z09 l.2.2.2.2.1 (1 : Int) (1000 : Int)).1]) fun (v28 : Int × Unit) => some (v28.1, ()))) else (bif !((yZ Ty.str ((Ty.arr (2 : Nat) Ty.bool).pair (((((Ty.str.pair ((Ty.int IntKind.i64).pair ((Ty.int IntKind.i64).pair ((Ty.int IntKind.i64).pair ((Ty.int IntKind.i64).pair Ty.unit))))).pair ((Ty.int IntKind.i64).pair ((Ty.int IntKind.i64).pair ((Ty.int IntKind.i64).pair (Ty.bool.pair Ty.unit))))).pair Ty.unit).func ((Ty.int IntKind.i64).pair Ty.unit)).pair Ty.unit)) z0L.1 l.1).getD ([Bool.false, Bool.false], fun (x : (Lnk × Int × Int × Int × Bool × Unit) × Unit) => Option.none, ())).1.getD (nat_lit 1) Bool.false then (bif decide (l.2.2.1 ≥ 0) then (bif !decide (l.2.2.1 < nodes) then some ((10 : Int), ()) else (bif eqV (Ty.arr (2 : Nat) Ty.bool) [((yZ Ty.str ((Ty.arr (2 : Nat) Ty.bool).pair (((((Ty.str.pair ((Ty.int IntKind.i64).pair ((Ty.int IntKind.i64).pair ((Ty.int IntKind.i64).pair ((Ty.int IntKind.i64).pair Ty.unit))))).pair ((Ty.int IntKind.i64).pair ((Ty.int IntKind.i64).pair ((Ty.int IntKind.i64).pair (Ty.bool.pair Ty.unit))))).pair Ty.unit).func ((Ty.int IntKind.i64).pair Ty.unit)).pair Ty.unit)) z0L.1 l.1).getD ([Bool.false, Bool.false], fun (x : (Lnk × Int × Int × Int × Bool × Unit) × Unit) => Option.none, ())).1.getD (nat_lit 0) Bool.false, ((yZ Ty.str ((Ty.arr (2 : Nat) Ty.bool).pair (((((Ty.str.pair ((Ty.int IntKind.i64).pair ((Ty.int IntKind.i64).pair ((Ty.int IntKind.i64).pair ((Ty.int IntKind.i64).pair Ty.unit))))).pair ((Ty.int IntKind.i64).pair ((Ty.int IntKind.i64).pair ((Ty.int IntKind.i64).pair (Ty.bool.pair Ty.unit))))).pair Ty.unit).func ((Ty.int IntKind.i64).pair Ty.unit)).pair Ty.unit)) z0L.1 l.1).getD ([Bool.false, Bool.false], fun (x : (Lnk × Int × Int × Int × Bool × Unit) × Unit) => Option.none, ())).1.getD (nat_lit 1) Bool.false] [Bool.true, Bool.false] then (Option.bind (y0U [(z0V (l.2.1 == l.2.2.1) (17 : Int)).1, (z09 l.2.2.2.1 (0 : Int) (0 : Int)).1, (z09 l.2.2.2.2.1 (1 : Int) (1000 : Int)).1]) fun (v30 : Int × Unit) => some (v30.1, ())) else (Option.bind (y0U [(z0V (l.2.1 == l.2.2.1) (17 : Int)).1, (z09 l.2.2.2.1 (0 : Int) (1024 : Int)).1, (z09 l.2.2.2.2.1 (1 : Int) (1000 : Int)).1]) fun (v31 : Int × Unit) => some (v31.1, ())))) else some ((10 : Int), ())) else some ((10 : Int), ()))) else (bif !((yZ Ty.str ((Ty.arr (2 : Nat) Ty.bool).pair (((((Ty.str.pair ((Ty.int IntKind.i64).pair ((Ty.int IntKind.i64).pair ((Ty.int IntKind.i64).pair ((Ty.int IntKind.i64).pair Ty.unit))))).pair ((Ty.int IntKind.i64).pair ((Ty.int IntKind.i64).pair ((Ty.int IntKind.i64).pair (Ty.bool.pair Ty.unit))))).pair Ty.unit).func ((Ty.int IntKind.i64).pair Ty.unit)).pair Ty.unit)) z0L.1 l.1).getD ([Bool.false, Bool.false], fun (x : (Lnk × Int × Int × Int × Bool × Unit) × Unit) => Option.none, ())).1.getD (nat_lit 1) Bool.false then (bif decide (l.2.2.1 ≥ 0) then (bif !decide (l.2.2.1 < nodes) then some ((10 : Int), ()) else (bif eqV (Ty.arr (2 : Nat) Ty.bool) [((yZ Ty.str ((Ty.arr (2 : Nat) Ty.bool).pair (((((Ty.str.pair ((Ty.int IntKind.i64).pair ((Ty.int IntKind.i64).pair ((Ty.int IntKind.i64).pair ((Ty.int IntKind.i64).pair Ty.unit))))).pair ((Ty.int IntKind.i64).pair ((Ty.int IntKind.i64).pair ((Ty.int IntKind.i64).pair (Ty.bool.pair Ty.unit))))).pair Ty.unit).func ((Ty.int IntKind.i64).pair Ty.unit)).pair Ty.unit)) z0L.1 l.1).getD ([Bool.false, Bool.false], fun (x : (Lnk × Int × Int × Int × Bool × Unit) × Unit) => Option.none, ())).1.getD (nat_lit 0) Bool.false, ((yZ Ty.str ((Ty.arr (2 : Nat) Ty.bool).pair (((((Ty.str.pair ((Ty.int IntKind.i64).pair ((Ty.int IntKind.i64).pair ((Ty.int IntKind.i64).pair ((Ty.int IntKind.i64).pair Ty.unit))))).pair ((Ty.int IntKind.i64).pair ((Ty.int IntKind.i64).pair ((Ty.int IntKind.i64).pair (Ty.bool.pair Ty.unit))))).pair Ty.unit).func ((Ty.int IntKind.i64).pair Ty.unit)).pair Ty.unit)) z0L.1 l.1).getD ([Bool.false, Bool.false], fun (x : (Lnk × Int × Int × Int × Bool × Unit) × Unit) => Option.none, ())).1.getD (nat_lit 1) Bool.false] [Bool.true, Bool.false] then (Option.bind (y0U [(z0V (l.2.1 == l.2.2.1) (17 : Int)).1, (z09 l.2.2.2.1 (0 : Int) (0 : Int)).1, (z09 l.2.2.2.2.1 (1 : Int) (1000 : Int)).1]) fun (v33 : Int × Unit) => some (v33.1, ())) else (Option.bind (y0U [(z0V (l.2.1 == l.2.2.1) (17 : Int)).1, (z09 l.2.2.2.1 (0 : Int) (1024 : Int)).1, (z09 l.2.2.2.2.1 (1 : Int) (1000 : Int)).1]) fun (v34 : Int × Unit) => some (v34.1, ())))) else some ((10 : Int), ())) else some ((10 : Int), ()))))
def zh_m (n : Nat) (l : Lnk) (nodes : Int) : Option (Int × Unit) :=
  (bif !(yZ Ty.str ((Ty.arr (2 : Nat) Ty.bool).pair (((((Ty.str.pair ((Ty.int IntKind.i64).pair ((Ty.int IntKind.i64).pair ((Ty.int IntKind.i64).pair ((Ty.int IntKind.i64).pair Ty.unit))))).pair ((Ty.int IntKind.i64).pair ((Ty.int IntKind.i64).pair ((Ty.int IntKind.i64).pair (Ty.bool.pair Ty.unit))))).pair Ty.unit).func ((Ty.int IntKind.i64).pair Ty.unit)).pair Ty.unit)) z0L.1 l.1).isSome then some ((13 : Int), ()) else (bif ((yZ Ty.str ((Ty.arr (2 : Nat) Ty.bool).pair (((((Ty.str.pair ((Ty.int IntKind.i64).pair ((Ty.int IntKind.i64).pair ((Ty.int IntKind.i64).pair ((Ty.int IntKind.i64).pair Ty.unit))))).pair ((Ty.int IntKind.i64).pair ((Ty.int IntKind.i64).pair ((Ty.int IntKind.i64).pair (Ty.bool.pair Ty.unit))))).pair Ty.unit).func ((Ty.int IntKind.i64).pair Ty.unit)).pair Ty.unit)) z0L.1 l.1).getD ([Bool.false, Bool.false], fun (x : (Lnk × Int × Int × Int × Bool × Unit) × Unit) => Option.none, ())).1.getD (nat_lit 0) Bool.false then (bif l.2.1 == (-1 : Int) then (y12 n l nodes (Bool.true)) else (bif !((yZ Ty.str ((Ty.arr (2 : Nat) Ty.bool).pair (((((Ty.str.pair ((Ty.int IntKind.i64).pair ((Ty.int IntKind.i64).pair ((Ty.int IntKind.i64).pair ((Ty.int IntKind.i64).pair Ty.unit))))).pair ((Ty.int IntKind.i64).pair ((Ty.int IntKind.i64).pair ((Ty.int IntKind.i64).pair (Ty.bool.pair Ty.unit))))).pair Ty.unit).func ((Ty.int IntKind.i64).pair Ty.unit)).pair Ty.unit)) z0L.1 l.1).getD ([Bool.false, Bool.false], fun (x : (Lnk × Int × Int × Int × Bool × Unit) × Unit) => Option.none, ())).1.getD (nat_lit 0) Bool.false then (bif decide (l.2.1 ≥ 0) then (y12 n l nodes (decide (l.2.1 < nodes))) else (y12 n l nodes (Bool.false))) else (y12 n l nodes (Bool.false)))) else (bif !((yZ Ty.str ((Ty.arr (2 : Nat) Ty.bool).pair (((((Ty.str.pair ((Ty.int IntKind.i64).pair ((Ty.int IntKind.i64).pair ((Ty.int IntKind.i64).pair ((Ty.int IntKind.i64).pair Ty.unit))))).pair ((Ty.int IntKind.i64).pair ((Ty.int IntKind.i64).pair ((Ty.int IntKind.i64).pair (Ty.bool.pair Ty.unit))))).pair Ty.unit).func ((Ty.int IntKind.i64).pair Ty.unit)).pair Ty.unit)) z0L.1 l.1).getD ([Bool.false, Bool.false], fun (x : (Lnk × Int × Int × Int × Bool × Unit) × Unit) => Option.none, ())).1.getD (nat_lit 0) Bool.false then (bif decide (l.2.1 ≥ 0) then (y12 n l nodes (decide (l.2.1 < nodes))) else (y12 n l nodes (Bool.false))) else (y12 n l nodes (Bool.false)))))
theorem ySv (n : Nat) (x : zh_a.den) : runF zh_g (yNS n) Tryz.f103 zh_a zh_r x = zh_m n x.1 x.2.1 := by kernel_rfl
def zh_M (l : Lnk) (nodes : Int) : Option (Int × Unit) := zh_m 0 l nodes
theorem yQT (l : Lnk) (nodes : Int) (y : Int × Unit) (h : zh_M l nodes = some y) : ∃ n, zh_m n l nodes = some y := ⟨0, h⟩
def zh_e : Entry := { f := 103, args := zh_a, ress := zh_r, m := fun x => zh_M x.1 x.2.1 }
theorem ySV : FnOK Tryz.prog zh_e := yS (g := zh_g) (fn := Tryz.f103) yG yR (yD yJh (yD y3U (yD y6s (yD y3n eNil)))) (by kernel_rfl) (by kernel_rfl) (by kernel_rfl) (fun x y h => let ⟨n, hn⟩ := yQT x.1 x.2.1 y h; ⟨yNS n, (y6J yJT iNil), (ySv n x).trans hn⟩)
abbrev zZ_a : Ty := .pair t104 .unit
abbrev zZ_r : Ty := .pair t44 .unit
def zZ_g : G := { T := T, E := [zY_e], muts := [], fz := [] }
def zZ_k : List (List Nat) := []
def yQ7 (n : Nat) : Ann := { keep := zZ_k, fuel := n, inl := [], deep := 0 }
def zZ_m (n : Nat) (r1 : Rng) : Option (Cnd × Unit) :=
  (Option.bind (zY_M r1 (1 : Int)) fun (v0 : Cnd × Unit) => some ((v0.1.1, v0.1.2.1, v0.1.2.2.1, ()), ()))
theorem ySx (n : Nat) (x : zZ_a.den) : runF zZ_g (yQ7 n) Tryz.f110 zZ_a zZ_r x = zZ_m n x.1 := by kernel_rfl
def zZ_M (r1 : Rng) : Option (Cnd × Unit) := zZ_m 0 r1
theorem yN4 (r1 : Rng) (y : Cnd × Unit) (h : zZ_M r1 = some y) : ∃ n, zZ_m n r1 = some y := ⟨0, h⟩
def zZ_e : Entry := { f := 110, args := zZ_a, ress := zZ_r, m := fun x => zZ_M x.1 }
theorem yS6 : FnOK Tryz.prog zZ_e := yS (g := zZ_g) (fn := Tryz.f110) yG yR (yD yOq eNil) (by kernel_rfl) (by kernel_rfl) (by kernel_rfl) (fun x y h => let ⟨n, hn⟩ := yN4 x.1 y h; ⟨yQ7 n, iNil, (ySx n x).trans hn⟩)
abbrev zc_a : Ty := .pair t104 .unit
abbrev zc_r : Ty := .pair t44 .unit
def zc_g : G := { T := T, E := [zY_e], muts := [], fz := [] }
def zc_k : List (List Nat) := []
def yNR (n : Nat) : Ann := { keep := zc_k, fuel := n, inl := [], deep := 0 }
def zc_m (n : Nat) (r1 : Rng) : Option (Cnd × Unit) :=
  (Option.bind (zY_M r1 (0 : Int)) fun (v0 : Cnd × Unit) => some ((v0.1.1, v0.1.2.1, v0.1.2.2.1, ()), ()))
theorem ySk (n : Nat) (x : zc_a.den) : runF zc_g (yNR n) Tryz.f111 zc_a zc_r x = zc_m n x.1 := by kernel_rfl
def zc_M (r1 : Rng) : Option (Cnd × Unit) := zc_m 0 r1
theorem yPY (r1 : Rng) (y : Cnd × Unit) (h : zc_M r1 = some y) : ∃ n, zc_m n r1 = some y := ⟨0, h⟩
def zc_e : Entry := { f := 111, args := zc_a, ress := zc_r, m := fun x => zc_M x.1 }
theorem ySX : FnOK Tryz.prog zc_e := yS (g := zc_g) (fn := Tryz.f111) yG yR (yD yOq eNil) (by kernel_rfl) (by kernel_rfl) (by kernel_rfl) (fun x y h => let ⟨n, hn⟩ := yPY x.1 y h; ⟨yNR n, iNil, (ySk n x).trans hn⟩)
abbrev zL_a : Ty := .pair t41 (.pair t104 .unit)
abbrev zL_r : Ty := .pair t35 .unit
def zL_g : G := { T := T, E := [zH_e, zP_e, zq_e, z0V_e, z8_e, z0J_e], muts := [], fz := [] }
def zL_k : List (List Nat) := []
def yQm (n : Nat) : Ann := { keep := zL_k, fuel := n, inl := [], deep := 0 }
def zL_m (n : Nat) (b : Bas) (r1 : Rng) : Option (Int × Unit) :=
  (Option.bind (zP_M r1.1 fun (x : Int × Unit) => zq_M x.1) fun (v0 : Int × Unit) => (Option.bind (z8_M r1.2.2.1 fun (x : (Int × Int × Unit) × Unit) => zH_M x.1) fun (v1 : List Int × Unit) => (Option.bind (y0U v1.1) fun (v2 : Int × Unit) => (Option.bind (y0U [v0.1, (z0V ((↑r1.2.2.1.length : Int) != (↑b.1.length : Int)) (2 : Int)).1, v2.1]) fun (v3 : Int × Unit) => some (v3.1, ())))))
theorem yRf (n : Nat) (x : zL_a.den) : runF zL_g (yQm n) Tryz.f115 zL_a zL_r x = zL_m n x.1 x.2.1 := by kernel_rfl
def zL_M (b : Bas) (r1 : Rng) : Option (Int × Unit) := zL_m 0 b r1
theorem yPE (b : Bas) (r1 : Rng) (y : Int × Unit) (h : zL_M b r1 = some y) : ∃ n, zL_m n b r1 = some y := ⟨0, h⟩
def zL_e : Entry := { f := 115, args := zL_a, ress := zL_r, m := fun x => zL_M x.1 x.2.1 }
theorem ySP : FnOK Tryz.prog zL_e := yS (g := zL_g) (fn := Tryz.f115) yG yR (yD ySM (yD yKm (yD yNg (yD y3U (yD yN0 (yD y3n eNil)))))) (by kernel_rfl) (by kernel_rfl) (by kernel_rfl) (fun x y h => let ⟨n, hn⟩ := yPE x.1 x.2.1 y h; ⟨yQm n, iNil, (yRf n x).trans hn⟩)
end
end Go.Tw
end
