import Derived.Test.YtclcodeedopemaaGreatBT
import Derived.Test.YtclcodeedopemaaGreatB0
import Derived.Test.YtclcodeedopemaaGreatBS
import Derived.Test.YtclcodeedopemaaGreatLP
section
set_option linter.all false
set_option maxRecDepth 1000000
namespace Go.Tw
open Go.Vx Go.Vx.B Go.Proofs
noncomputable section
abbrev yMP : Ty := .pair t25 .unit
abbrev yOM : Ty := .pair t4 .unit
def yPo : G := { T := T, E := [], muts := [], fz := [] }
def yT3 : List (List Nat) := [[1, 3], [1, 4]]
def yKs (n : Nat) : Ann := { keep := yT3, fuel := n, inl := [], deep := 0 }
def yAo (n : Nat) (r11 : Cha → Int → Option (Bool × Unit)) (c1_11 : Cha) (i4_11 : Int) : Option (Bool × Unit) :=
  (bif decide (i4_11 < (↑c1_11.2.1.length : Int)) then (Option.bind (idx c1_11.2.1 i4_11) fun (v12 : Tra) => (bif decide ((↑v12.2.1.length : Int) > 40) then some (Bool.false, ()) else r11 c1_11 (IntKind.i64.wrap (i4_11 + 1)))) else some (Bool.true, ()))
def y4Y (n : Nat)  (k : Nat) (c1_11 : Cha) (i4_11 : Int) : Option (Bool × Unit) :=
  iter (fun r y => yAo n (fun c1_11 i4_11 => r ((c1_11, (i4_11, ())), ((), ()))) y.1.1 y.1.2.1) k ((c1_11, (i4_11, ())), ((), ()))
def yDB (n : Nat) (r9 : Cha → Int → Option (Bool × Unit)) (c1_9 : Cha) (i3_9 : Int) : Option (Bool × Unit) :=
  (bif decide (i3_9 < (↑c1_9.1.length : Int)) then (Option.bind (idx c1_9.1 i3_9) fun (v10 : Sta) => (bif decide ((↑v10.1.length : Int) > 40) then some (Bool.false, ()) else r9 c1_9 (IntKind.i64.wrap (i3_9 + 1)))) else (y4Y n n (c1_9) ((0 : Int))))
def y5z (n : Nat)  (k : Nat) (c1_9 : Cha) (i3_9 : Int) : Option (Bool × Unit) :=
  iter (fun r y => yDB n (fun c1_9 i3_9 => r ((c1_9, (i3_9, ())), ((), ()))) y.1.1 y.1.2.1) k ((c1_9, (i3_9, ())), ((), ()))
def y39 (n : Nat) (c : Cha) : Option (Bool × Unit) :=
  (y5z n n (c) ((0 : Int)))
def yK1 (n : Nat) (c : Cha) : Option (Bool × Unit) :=
  (bif decide ((↑c.1.length : Int) > 7) then (bif (↑c.1.length : Int) != 17 then some (Bool.false, ()) else (bif decide ((↑c.2.1.length : Int) > 12) then (bif (↑c.2.1.length : Int) != 49 then some (Bool.false, ()) else (y39 n c)) else (y39 n c))) else (bif decide ((↑c.2.1.length : Int) > 12) then (bif (↑c.2.1.length : Int) != 49 then some (Bool.false, ()) else (y39 n c)) else (y39 n c)))
theorem yQJ (n : Nat) (x : yMP.den) : runF yPo (yKs n) Tryz.f5 yMP yOM x = yK1 n x.1 := by kernel_rfl
def y6Q (c1_11 : Cha) (i4_11 : Int) (v12 : Tra) : Option ((Bool × Unit) ⊕ Unit) :=
  (bif decide ((↑v12.2.1.length : Int) > 40) then (some (Sum.inl ((Bool.false, ())))) else (some (Sum.inr ())))
def y9V (c1_11 : Cha) : Option (Bool × Unit) :=
  (some ((Bool.true, ())))
theorem yAd (n : Nat) (hn : big ≤ n)  (c1_11 : Cha) (hx : List.length (c1_11.2.1) < lenMax) : LeF some (yH (fun i__ e__ s__ => y6Q c1_11 i__ e__) (fun s__ => y9V c1_11) 0 (c1_11.2.1) ()) (y4Y n n c1_11 0) := by
  refine yK (f := some) (W := fun k__ i__ s__ => y4Y n k__ c1_11 i__) (body := (fun i__ e__ s__ => y6Q c1_11 i__ e__)) (fin := (fun s__ => y9V c1_11)) (fun k__ i__ s__ => ?_) hx () n (by unfold big at hn; unfold lenMax at hx; omega)
  show LeF _ _ (yAo n (y4Y n k__) c1_11 i__)
  exact y0 (y7 fun v12 => (y0 (y4 rfl) (y4 rfl))) (yu (y4 rfl))
def yAi (c1_9 : Cha) (i3_9 : Int) (v10 : Sta) : Option ((Bool × Unit) ⊕ Unit) :=
  (bif decide ((↑v10.1.length : Int) > 40) then (some (Sum.inl ((Bool.false, ())))) else (some (Sum.inr ())))
def yBa (c1_9 : Cha) : Option (Bool × Unit) :=
  (bif decide (List.length (c1_9.2.1) < lenMax) then yH (fun i__ e__ s__ => y6Q (c1_9) i__ e__) (fun s__ => y9V (c1_9)) 0 (c1_9.2.1) () else none)
theorem yCi (n : Nat) (hn : big ≤ n)  (c1_9 : Cha) (hx : List.length (c1_9.1) < lenMax) : LeF some (yH (fun i__ e__ s__ => yAi c1_9 i__ e__) (fun s__ => yBa c1_9) 0 (c1_9.1) ()) (y5z n n c1_9 0) := by
  refine yK (f := some) (W := fun k__ i__ s__ => y5z n k__ c1_9 i__) (body := (fun i__ e__ s__ => yAi c1_9 i__ e__)) (fin := (fun s__ => yBa c1_9)) (fun k__ i__ s__ => ?_) hx () n (by unfold big at hn; unfold lenMax at hx; omega)
  show LeF _ _ (yDB n (y5z n k__) c1_9 i__)
  exact y0 (y7 fun v10 => (y0 (y4 rfl) (y4 rfl))) (yu (yL fun hx => by apply yAd n hn; exact hx))
def y2f (c : Cha) : Option (Bool × Unit) :=
  (bif decide (List.length (c.1) < lenMax) then yH (fun i__ e__ s__ => yAi (c) i__ e__) (fun s__ => yBa (c)) 0 (c.1) () else none)
theorem y0T (n : Nat) (hn : big ≤ n)  (c : Cha) : LeF some (y2f c) (y39 n c) :=
  (yL fun hx => by apply yCi n hn; exact hx)
def y7X (c : Cha) : Option (Bool × Unit) :=
  (bif decide ((↑c.1.length : Int) > 7) then (bif (↑c.1.length : Int) != 17 then (some ((Bool.false, ()))) else (bif decide ((↑c.2.1.length : Int) > 12) then (bif (↑c.2.1.length : Int) != 49 then (some ((Bool.false, ()))) else (y2f c)) else (y2f c))) else (bif decide ((↑c.2.1.length : Int) > 12) then (bif (↑c.2.1.length : Int) != 49 then (some ((Bool.false, ()))) else (y2f c)) else (y2f c)))
theorem yNQ (c : Cha) (y : Bool × Unit) (h : y7X c = some y) : ∃ n, yK1 n c = some y :=
  ⟨big, LeF.top (show LeF some (y7X c) (yK1 big c) from (fun (n : Nat) (hn : big ≤ n) => show LeF some (y7X c) (yK1 n c) from (y0 (y0 (y4 rfl) (y0 (y0 (y4 rfl) (by apply y0T n hn)) (by apply y0T n hn))) (y0 (y0 (y4 rfl) (by apply y0T n hn)) (by apply y0T n hn)))) big (Nat.le_refl _)) h⟩
def z0L_e : Entry := { f := 5, args := yMP, ress := yOM, m := fun x => y7X x.1 }
theorem yOj : FnOK Tryz.prog z0L_e := yS (g := yPo) (fn := Tryz.f5) yE yR eNil (by kernel_rfl) (by kernel_rfl) (by kernel_rfl) (fun x y h => let ⟨n, hn⟩ := yNQ x.1 y h; ⟨yKs n, iNil, (yQJ n x).trans hn⟩)
abbrev zp_a : Ty := .pair t45 (.pair t45 .unit)
abbrev zp_r : Ty := .pair t4 .unit
def zp_g : G := { T := T, E := [], muts := [], fz := [] }
def zp_k : List (List Nat) := [[0, 1, 5]]
def yNz (n : Nat) : Ann := { keep := zp_k, fuel := n, inl := [], deep := 0 }
def yGn (n : Nat) (r0 : List (List UInt8) → List (List UInt8) → Int → Option (Bool × Unit)) (a0_0 : List (List UInt8)) (b1_0 : List (List UInt8)) (i5_0 : Int) : Option (Bool × Unit) :=
  (bif decide (i5_0 < (↑a0_0.length : Int)) then (Option.bind (idx a0_0 i5_0) fun (v1 : List UInt8) => (Option.bind (idx b1_0 i5_0) fun (v2 : List UInt8) => (bif !v1 == v2 then some (Bool.false, ()) else r0 a0_0 b1_0 (IntKind.i64.wrap (i5_0 + 1))))) else some (Bool.true, ()))
def y8j (n : Nat)  (k : Nat) (a0_0 : List (List UInt8)) (b1_0 : List (List UInt8)) (i5_0 : Int) : Option (Bool × Unit) :=
  iter (fun r y => yGn n (fun a0_0 b1_0 i5_0 => r ((a0_0, (b1_0, (i5_0, ()))), ((), ()))) y.1.1 y.1.2.1 y.1.2.2.1) k ((a0_0, (b1_0, (i5_0, ()))), ((), ()))
def zp_m (n : Nat) (a : List (List UInt8)) (b : List (List UInt8)) : Option (Bool × Unit) :=
  (bif (↑a.length : Int) != (↑b.length : Int) then some (Bool.false, ()) else (y8j n n (a) (b) ((0 : Int))))
theorem yT5 (n : Nat) (x : zp_a.den) : runF zp_g (yNz n) Tryz.f37 zp_a zp_r x = zp_m n x.1 x.2.1 := by kernel_rfl
def yNY (a0_0 : List (List UInt8)) (b1_0 : List (List UInt8)) (i5_0 : Int) (v1 : List UInt8) : Option ((Bool × Unit) ⊕ Unit) :=
  (Option.bind (idx b1_0 i5_0) fun (v2 : List UInt8) => (bif !v1 == v2 then (some (Sum.inl ((Bool.false, ())))) else (some (Sum.inr ()))))
def yM2 (a0_0 : List (List UInt8)) (b1_0 : List (List UInt8)) : Option (Bool × Unit) :=
  (some ((Bool.true, ())))
theorem yEr (n : Nat) (hn : big ≤ n)  (a0_0 : List (List UInt8)) (b1_0 : List (List UInt8)) (hx : List.length (a0_0) < lenMax) : LeF some (yH (fun i__ e__ s__ => yNY a0_0 b1_0 i__ e__) (fun s__ => yM2 a0_0 b1_0) 0 (a0_0) ()) (y8j n n a0_0 b1_0 0) := by
  refine yK (f := some) (W := fun k__ i__ s__ => y8j n k__ a0_0 b1_0 i__) (body := (fun i__ e__ s__ => yNY a0_0 b1_0 i__ e__)) (fin := (fun s__ => yM2 a0_0 b1_0)) (fun k__ i__ s__ => ?_) hx () n (by unfold big at hn; unfold lenMax at hx; omega)
  show LeF _ _ (yGn n (y8j n k__) a0_0 b1_0 i__)
  exact y0 (y7 fun v1 => (y7 fun v2 => (y0 (y4 rfl) (y4 rfl)))) (yu (y4 rfl))
def zp_M (a : List (List UInt8)) (b : List (List UInt8)) : Option (Bool × Unit) :=
  (bif (↑a.length : Int) != (↑b.length : Int) then (some ((Bool.false, ()))) else (bif decide (List.length (a) < lenMax) then yH (fun i__ e__ s__ => yNY (a) (b) i__ e__) (fun s__ => yM2 (a) (b)) 0 (a) () else none))
theorem yO5 (a : List (List UInt8)) (b : List (List UInt8)) (y : Bool × Unit) (h : zp_M a b = some y) : ∃ n, zp_m n a b = some y :=
  ⟨big, LeF.top (show LeF some (zp_M a b) (zp_m big a b) from (fun (n : Nat) (hn : big ≤ n) => show LeF some (zp_M a b) (zp_m n a b) from (y0 (y4 rfl) (yL fun hx => by apply yEr n hn; exact hx))) big (Nat.le_refl _)) h⟩
def zp_e : Entry := { f := 37, args := zp_a, ress := zp_r, m := fun x => zp_M x.1 x.2.1 }
theorem yTa : FnOK Tryz.prog zp_e := yS (g := zp_g) (fn := Tryz.f37) yE yR eNil (by kernel_rfl) (by kernel_rfl) (by kernel_rfl) (fun x y h => let ⟨n, hn⟩ := yO5 x.1 x.2.1 y h; ⟨yNz n, iNil, (yT5 n x).trans hn⟩)
abbrev zZ_a : Ty := .pair t26 .unit
abbrev zZ_r : Ty := .pair t4 .unit
def zZ_g : G := { T := T, E := [], muts := [], fz := [] }
def zZ_k : List (List Nat) := [[0, 3]]
def yQw (n : Nat) : Ann := { keep := zZ_k, fuel := n, inl := [], deep := 0 }
def yHm (n : Nat) (r0 : List (List UInt8 × Int × Unit) → Int → Option (Bool × Unit)) (l0_0 : List (List UInt8 × Int × Unit)) (i3_0 : Int) : Option (Bool × Unit) :=
  (bif decide (i3_0 < (↑l0_0.length : Int)) then (Option.bind (idx l0_0 i3_0) fun (v1 : List UInt8 × Int × Unit) => (bif decide ((↑v1.1.length : Int) > 40) then some (Bool.false, ()) else r0 l0_0 (IntKind.i64.wrap (i3_0 + 1)))) else (bif decide ((↑l0_0.length : Int) ≤ 12) then some (Bool.true, ()) else some ((↑l0_0.length : Int) == 65, ())))
def y9u (n : Nat)  (k : Nat) (l0_0 : List (List UInt8 × Int × Unit)) (i3_0 : Int) : Option (Bool × Unit) :=
  iter (fun r y => yHm n (fun l0_0 i3_0 => r ((l0_0, (i3_0, ())), ((), ()))) y.1.1 y.1.2.1) k ((l0_0, (i3_0, ())), ((), ()))
def zZ_m (n : Nat) (l : List (List UInt8 × Int × Unit)) : Option (Bool × Unit) :=
  (y9u n n (l) ((0 : Int)))
theorem yTl (n : Nat) (x : zZ_a.den) : runF zZ_g (yQw n) Tryz.f6 zZ_a zZ_r x = zZ_m n x.1 := by kernel_rfl
def yKh (l0_0 : List (List UInt8 × Int × Unit)) (i3_0 : Int) (v1 : List UInt8 × Int × Unit) : Option ((Bool × Unit) ⊕ Unit) :=
  (bif decide ((↑v1.1.length : Int) > 40) then (some (Sum.inl ((Bool.false, ())))) else (some (Sum.inr ())))
def yKf (l0_0 : List (List UInt8 × Int × Unit)) : Option (Bool × Unit) :=
  (bif decide ((↑l0_0.length : Int) ≤ 12) then (some ((Bool.true, ()))) else (some (((↑l0_0.length : Int) == 65, ()))))
theorem yFj (n : Nat) (hn : big ≤ n)  (l0_0 : List (List UInt8 × Int × Unit)) (hx : List.length (l0_0) < lenMax) : LeF some (yH (fun i__ e__ s__ => yKh l0_0 i__ e__) (fun s__ => yKf l0_0) 0 (l0_0) ()) (y9u n n l0_0 0) := by
  refine yK (f := some) (W := fun k__ i__ s__ => y9u n k__ l0_0 i__) (body := (fun i__ e__ s__ => yKh l0_0 i__ e__)) (fin := (fun s__ => yKf l0_0)) (fun k__ i__ s__ => ?_) hx () n (by unfold big at hn; unfold lenMax at hx; omega)
  show LeF _ _ (yHm n (y9u n k__) l0_0 i__)
  exact y0 (y7 fun v1 => (y0 (y4 rfl) (y4 rfl))) (yu (y0 (y4 rfl) (y4 rfl)))
def zZ_M (l : List (List UInt8 × Int × Unit)) : Option (Bool × Unit) :=
  (bif decide (List.length (l) < lenMax) then yH (fun i__ e__ s__ => yKh (l) i__ e__) (fun s__ => yKf (l)) 0 (l) () else none)
theorem yQ0 (l : List (List UInt8 × Int × Unit)) (y : Bool × Unit) (h : zZ_M l = some y) : ∃ n, zZ_m n l = some y :=
  ⟨big, LeF.top (show LeF some (zZ_M l) (zZ_m big l) from (fun (n : Nat) (hn : big ≤ n) => show LeF some (zZ_M l) (zZ_m n l) from (yL fun hx => by apply yFj n hn; exact hx)) big (Nat.le_refl _)) h⟩
def zZ_e : Entry := { f := 6, args := zZ_a, ress := zZ_r, m := fun x => zZ_M x.1 }
theorem yTZ : FnOK Tryz.prog zZ_e := yS (g := zZ_g) (fn := Tryz.f6) yE yR eNil (by kernel_rfl) (by kernel_rfl) (by kernel_rfl) (fun x y h => let ⟨n, hn⟩ := yQ0 x.1 y h; ⟨yQw n, iNil, (yTl n x).trans hn⟩)
abbrev zf_a : Ty := .pair t3 (.pair t3 (.pair t3 .unit))
abbrev zf_r : Ty := .pair t3 .unit
def zf_g : G := { T := T, E := [], muts := [], fz := [] }
def zf_k : List (List Nat) := []
def yRQ (n : Nat) : Ann := { keep := zf_k, fuel := n, inl := [], deep := 0 }
def zf_m (n : Nat) (n1 : Int) (low : Int) (high : Int) : Option (Int × Unit) :=
  (bif decide (n1 < low) then some ((3 : Int), ()) else (bif decide (n1 > high) then some ((3 : Int), ()) else some ((0 : Int), ())))
theorem yTH (n : Nat) (x : zf_a.den) : runF zf_g (yRQ n) Tryz.f30 zf_a zf_r x = zf_m n x.1 x.2.1 x.2.2.1 := by kernel_rfl
def zf (n1 : Int) (low : Int) (high : Int) : (Int × Unit) :=
  (bif decide (n1 < low) then ((3 : Int), ()) else (bif decide (n1 > high) then ((3 : Int), ()) else ((0 : Int), ())))
abbrev zf_M (n1 : Int) (low : Int) (high : Int) : Option (Int × Unit) := some (zf n1 low high)
theorem yRU (n1 : Int) (low : Int) (high : Int) (y : Int × Unit) (h : zf_M n1 low high = some y) : ∃ n, zf_m n n1 low high = some y :=
  ⟨0, by rw [← h]; show zf_m 0 n1 low high = some (zf n1 low high); unfold zf_m zf; first | rfl | (simp only [yI]; done) | (simp only [yI]; rfl)⟩
def zf_e : Entry := { f := 30, args := zf_a, ress := zf_r, m := fun x => zf_M x.1 x.2.1 x.2.2.1 }
theorem yR3 : FnOK Tryz.prog zf_e := yS (g := zf_g) (fn := Tryz.f30) yE yR eNil (by kernel_rfl) (by kernel_rfl) (by kernel_rfl) (fun x y h => let ⟨n, hn⟩ := yRU x.1 x.2.1 x.2.2.1 y h; ⟨yRQ n, iNil, (yTH n x).trans hn⟩)
abbrev zv_a : Ty := .pair t37 (.pair t37 .unit)
abbrev zv_r : Ty := .pair t4 .unit
def zv_g : G := { T := T, E := [], muts := [], fz := [] }
def zv_k : List (List Nat) := [[0, 1, 5]]
def yQX (n : Nat) : Ann := { keep := zv_k, fuel := n, inl := [], deep := 0 }
def yH2 (n : Nat) (r0 : List Int → List Int → Int → Option (Bool × Unit)) (a0_0 : List Int) (b1_0 : List Int) (i5_0 : Int) : Option (Bool × Unit) :=
  (bif decide (i5_0 < (↑a0_0.length : Int)) then (Option.bind (idx a0_0 i5_0) fun (v1 : Int) => (Option.bind (idx b1_0 i5_0) fun (v2 : Int) => (bif v1 != v2 then some (Bool.false, ()) else r0 a0_0 b1_0 (IntKind.i64.wrap (i5_0 + 1))))) else some (Bool.true, ()))
def y94 (n : Nat)  (k : Nat) (a0_0 : List Int) (b1_0 : List Int) (i5_0 : Int) : Option (Bool × Unit) :=
  iter (fun r y => yH2 n (fun a0_0 b1_0 i5_0 => r ((a0_0, (b1_0, (i5_0, ()))), ((), ()))) y.1.1 y.1.2.1 y.1.2.2.1) k ((a0_0, (b1_0, (i5_0, ()))), ((), ()))
def zv_m (n : Nat) (a : List Int) (b : List Int) : Option (Bool × Unit) :=
  (bif (↑a.length : Int) != (↑b.length : Int) then some (Bool.false, ()) else (y94 n n (a) (b) ((0 : Int))))
theorem yU3 (n : Nat) (x : zv_a.den) : runF zv_g (yQX n) Tryz.f14 zv_a zv_r x = zv_m n x.1 x.2.1 := by kernel_rfl
def yNK (a0_0 : List Int) (b1_0 : List Int) (i5_0 : Int) (v1 : Int) : Option ((Bool × Unit) ⊕ Unit) :=
  (Option.bind (idx b1_0 i5_0) fun (v2 : Int) => (bif v1 != v2 then (some (Sum.inl ((Bool.false, ())))) else (some (Sum.inr ()))))
def yLz (a0_0 : List Int) (b1_0 : List Int) : Option (Bool × Unit) :=
  (some ((Bool.true, ())))
theorem yEv (n : Nat) (hn : big ≤ n)  (a0_0 : List Int) (b1_0 : List Int) (hx : List.length (a0_0) < lenMax) : LeF some (yH (fun i__ e__ s__ => yNK a0_0 b1_0 i__ e__) (fun s__ => yLz a0_0 b1_0) 0 (a0_0) ()) (y94 n n a0_0 b1_0 0) := by
  refine yK (f := some) (W := fun k__ i__ s__ => y94 n k__ a0_0 b1_0 i__) (body := (fun i__ e__ s__ => yNK a0_0 b1_0 i__ e__)) (fin := (fun s__ => yLz a0_0 b1_0)) (fun k__ i__ s__ => ?_) hx () n (by unfold big at hn; unfold lenMax at hx; omega)
  show LeF _ _ (yH2 n (y94 n k__) a0_0 b1_0 i__)
  exact y0 (y7 fun v1 => (y7 fun v2 => (y0 (y4 rfl) (y4 rfl)))) (yu (y4 rfl))
def zv_M (a : List Int) (b : List Int) : Option (Bool × Unit) :=
  (bif (↑a.length : Int) != (↑b.length : Int) then (some ((Bool.false, ()))) else (bif decide (List.length (a) < lenMax) then yH (fun i__ e__ s__ => yNK (a) (b) i__ e__) (fun s__ => yLz (a) (b)) 0 (a) () else none))
theorem yRX (a : List Int) (b : List Int) (y : Bool × Unit) (h : zv_M a b = some y) : ∃ n, zv_m n a b = some y :=
  ⟨big, LeF.top (show LeF some (zv_M a b) (zv_m big a b) from (fun (n : Nat) (hn : big ≤ n) => show LeF some (zv_M a b) (zv_m n a b) from (y0 (y4 rfl) (yL fun hx => by apply yEv n hn; exact hx))) big (Nat.le_refl _)) h⟩
def zv_e : Entry := { f := 14, args := zv_a, ress := zv_r, m := fun x => zv_M x.1 x.2.1 }
theorem ySC : FnOK Tryz.prog zv_e := yS (g := zv_g) (fn := Tryz.f14) yE yR eNil (by kernel_rfl) (by kernel_rfl) (by kernel_rfl) (fun x y h => let ⟨n, hn⟩ := yRX x.1 x.2.1 y h; ⟨yQX n, iNil, (yU3 n x).trans hn⟩)
abbrev yMW : Ty := .pair t37 (.pair t3 .unit)
abbrev yP8 : Ty := .pair t4 .unit
def yOi : G := { T := T, E := [], muts := [], fz := [] }
def yTT : List (List Nat) := [[0, 1, 5]]
def yLL (n : Nat) : Ann := { keep := yTT, fuel := n, inl := [], deep := 0 }
def yDt (n : Nat) (r0 : List Int → Int → Int → Option (Bool × Unit)) (l0_0 : List Int) (n1_0 : Int) (i5_0 : Int) : Option (Bool × Unit) :=
  (bif decide (i5_0 < (↑l0_0.length : Int)) then (Option.bind (idx l0_0 i5_0) fun (v1 : Int) => (bif v1 == n1_0 then some (Bool.true, ()) else r0 l0_0 n1_0 (IntKind.i64.wrap (i5_0 + 1)))) else some (Bool.false, ()))
def y6H (n : Nat)  (k : Nat) (l0_0 : List Int) (n1_0 : Int) (i5_0 : Int) : Option (Bool × Unit) :=
  iter (fun r y => yDt n (fun l0_0 n1_0 i5_0 => r ((l0_0, (n1_0, (i5_0, ()))), ((), ()))) y.1.1 y.1.2.1 y.1.2.2.1) k ((l0_0, (n1_0, (i5_0, ()))), ((), ()))
def yJW (n : Nat) (l : List Int) (n1 : Int) : Option (Bool × Unit) :=
  (y6H n n (l) (n1) ((0 : Int)))
theorem yNk (n : Nat) (x : yMW.den) : runF yOi (yLL n) Tryz.f24 yMW yP8 x = yJW n x.1 x.2.1 := by kernel_rfl
def yDy (l0_0 : List Int) (n1_0 : Int) (i5_0 : Int) (v1 : Int) : Option ((Bool × Unit) ⊕ Unit) :=
  (bif v1 == n1_0 then (some (Sum.inl ((Bool.true, ())))) else (some (Sum.inr ())))
def yGE (l0_0 : List Int) (n1_0 : Int) : Option (Bool × Unit) :=
  (some ((Bool.false, ())))
theorem yCd (n : Nat) (hn : big ≤ n)  (l0_0 : List Int) (n1_0 : Int) (hx : List.length (l0_0) < lenMax) : LeF some (yH (fun i__ e__ s__ => yDy l0_0 n1_0 i__ e__) (fun s__ => yGE l0_0 n1_0) 0 (l0_0) ()) (y6H n n l0_0 n1_0 0) := by
  refine yK (f := some) (W := fun k__ i__ s__ => y6H n k__ l0_0 n1_0 i__) (body := (fun i__ e__ s__ => yDy l0_0 n1_0 i__ e__)) (fin := (fun s__ => yGE l0_0 n1_0)) (fun k__ i__ s__ => ?_) hx () n (by unfold big at hn; unfold lenMax at hx; omega)
  show LeF _ _ (yDt n (y6H n k__) l0_0 n1_0 i__)
  exact y0 (y7 fun v1 => (y0 (y4 rfl) (y4 rfl))) (yu (y4 rfl))
def yBF (l : List Int) (n1 : Int) : Option (Bool × Unit) :=
  (bif decide (List.length (l) < lenMax) then yH (fun i__ e__ s__ => yDy (l) (n1) i__ e__) (fun s__ => yGE (l) (n1)) 0 (l) () else none)
theorem yMr (l : List Int) (n1 : Int) (y : Bool × Unit) (h : yBF l n1 = some y) : ∃ n, yJW n l n1 = some y :=
  ⟨big, LeF.top (show LeF some (yBF l n1) (yJW big l n1) from (fun (n : Nat) (hn : big ≤ n) => show LeF some (yBF l n1) (yJW n l n1) from (yL fun hx => by apply yCd n hn; exact hx)) big (Nat.le_refl _)) h⟩
def z0A_e : Entry := { f := 24, args := yMW, ress := yP8, m := fun x => yBF x.1 x.2.1 }
theorem yO4 : FnOK Tryz.prog z0A_e := yS (g := yOi) (fn := Tryz.f24) yE yR eNil (by kernel_rfl) (by kernel_rfl) (by kernel_rfl) (fun x y h => let ⟨n, hn⟩ := yMr x.1 x.2.1 y h; ⟨yLL n, iNil, (yNk n x).trans hn⟩)
abbrev zb_a : Ty := .pair t56 (.pair t3 .unit)
abbrev zb_r : Ty := .pair t3 .unit
def zb_g : G := { T := T, E := [], muts := [], fz := [] }
def zb_k : List (List Nat) := [[1, 2]]
def yQW (n : Nat) : Ann := { keep := zb_k, fuel := n, inl := [], deep := 0 }
def yH7 (n : Nat) (r0 : Int → Cha → Option (Int × Unit)) (state1_0 : Int) (c2_0 : Cha) : Option (Int × Unit) :=
  (Option.bind (idx c2_0.1 state1_0) fun (v1 : Sta) => (bif v1.2.2.1 != (-1 : Int) then (Option.bind (idx c2_0.1 state1_0) fun (v2 : Sta) => r0 v2.2.2.1 c2_0) else some (state1_0, ())))
def y8u (n : Nat)  (k : Nat) (state1_0 : Int) (c2_0 : Cha) : Option (Int × Unit) :=
  iter (fun r y => yH7 n (fun state1_0 c2_0 => r ((state1_0, (c2_0, ())), ((), ()))) y.1.1 y.1.2.1) k ((state1_0, (c2_0, ())), ((), ()))
def zb_m (n : Nat) (c : Cha) (state : Int) : Option (Int × Unit) :=
  (y8u n n (state) (c))
theorem yTk (n : Nat) (x : zb_a.den) : runF zb_g (yQW n) Tryz.f51 zb_a zb_r x = zb_m n x.1 x.2.1 := by kernel_rfl
def yHi (c2_0 : Cha) (state1_0 : Int) : Option ((Int × Unit) ⊕ (Int)) :=
  (Option.bind (idx c2_0.1 state1_0) fun (v1 : Sta) => (bif v1.2.2.1 != (-1 : Int) then (Option.bind (idx c2_0.1 state1_0) fun (v2 : Sta) => (some (Sum.inr (v2.2.2.1)))) else (some (Sum.inl ((state1_0, ()))))))
theorem yFP (n : Nat) (hn : big ≤ n)  (c2_0 : Cha) (state1_0 : Int) : LeF some (y1N (fun s__ => yHi c2_0 s__) wMax state1_0) (y8u n n state1_0 c2_0) := by
  refine y3Z (f := some) (W := fun k__ s__ => y8u n k__ s__ c2_0) (body := (fun s__ => yHi c2_0 s__)) (fun k__ s__ => ?_) wMax n state1_0 (by unfold big at hn; unfold wMax; omega)
  show LeF _ _ (yH7 n (y8u n k__) s__ c2_0)
  exact (y7 fun v1 => (y0 (y7 fun v2 => (y4 rfl)) (y4 rfl)))
def zb_M (c : Cha) (state : Int) : Option (Int × Unit) :=
  (y1N (fun s__ => yHi (c) s__) wMax (state))
theorem yO9 (c : Cha) (state : Int) (y : Int × Unit) (h : zb_M c state = some y) : ∃ n, zb_m n c state = some y :=
  ⟨big, LeF.top (show LeF some (zb_M c state) (zb_m big c state) from (fun (n : Nat) (hn : big ≤ n) => show LeF some (zb_M c state) (zb_m n c state) from (by apply yFP n hn)) big (Nat.le_refl _)) h⟩
def zb_e : Entry := { f := 51, args := zb_a, ress := zb_r, m := fun x => zb_M x.1 x.2.1 }
theorem yIs : FnOK Tryz.prog zb_e := yS (g := zb_g) (fn := Tryz.f51) yE yR eNil (by kernel_rfl) (by kernel_rfl) (by kernel_rfl) (fun x y h => let ⟨n, hn⟩ := yO9 x.1 x.2.1 y h; ⟨yQW n, iNil, (yTk n x).trans hn⟩)
abbrev zw_a : Ty := .pair t25 (.pair t3 (.pair t3 .unit))
abbrev zw_r : Ty := .pair t3 (.pair t4 .unit)
def zw_g : G := { T := T, E := [], muts := [], fz := [] }
def zw_k : List (List Nat) := [[1, 2, 3, 8, 9, 10]]
def yQh (n : Nat) : Ann := { keep := zw_k, fuel := n, inl := [], deep := 0 }
def yHd (n : Nat) (r0 : Int → Int → Cha → Int → Bool → Int → Option (Int × Bool × Unit)) (state1_0 : Int) (index2_0 : Int) (c3_0 : Cha) (n8_0 : Int) (is9_0 : Bool) (i10_0 : Int) : Option (Int × Bool × Unit) :=
  (bif decide (i10_0 < (↑c3_0.1.length : Int)) then (Option.bind (idx c3_0.1 i10_0) fun (v1 : Sta) => (bif v1.2.1 == state1_0 then (bif is9_0 then r0 state1_0 index2_0 c3_0 (IntKind.i64.wrap (n8_0 + 1)) Bool.true (IntKind.i64.wrap (i10_0 + 1)) else r0 state1_0 index2_0 c3_0 (IntKind.i64.wrap (n8_0 + 1)) (i10_0 == index2_0) (IntKind.i64.wrap (i10_0 + 1))) else r0 state1_0 index2_0 c3_0 n8_0 is9_0 (IntKind.i64.wrap (i10_0 + 1)))) else some (n8_0, is9_0, ()))
def y9T (n : Nat)  (k : Nat) (state1_0 : Int) (index2_0 : Int) (c3_0 : Cha) (n8_0 : Int) (is9_0 : Bool) (i10_0 : Int) : Option (Int × Bool × Unit) :=
  iter (fun r y => yHd n (fun state1_0 index2_0 c3_0 n8_0 is9_0 i10_0 => r ((state1_0, (index2_0, (c3_0, (n8_0, (is9_0, (i10_0, ())))))), ((), ()))) y.1.1 y.1.2.1 y.1.2.2.1 y.1.2.2.2.1 y.1.2.2.2.2.1 y.1.2.2.2.2.2.1) k ((state1_0, (index2_0, (c3_0, (n8_0, (is9_0, (i10_0, ())))))), ((), ()))
def zw_m (n : Nat) (c : Cha) (state : Int) (index : Int) : Option (Int × Bool × Unit) :=
  (y9T n n (state) (index) (c) ((0 : Int)) (Bool.false) ((0 : Int)))
theorem yTv (n : Nat) (x : zw_a.den) : runF zw_g (yQh n) Tryz.f29 zw_a zw_r x = zw_m n x.1 x.2.1 x.2.2.1 := by kernel_rfl
def yFa (state1_0 : Int) (index2_0 : Int) (c3_0 : Cha) (i10_0 : Int) (v1 : Sta) (n8_0 : Int) (is9_0 : Bool) : Option ((Int × Bool × Unit) ⊕ (Int × Bool)) :=
  (bif v1.2.1 == state1_0 then (bif is9_0 then (some (Sum.inr ((IntKind.i64.wrap (n8_0 + 1)), (Bool.true)))) else (some (Sum.inr ((IntKind.i64.wrap (n8_0 + 1)), (i10_0 == index2_0))))) else (some (Sum.inr ((n8_0), (is9_0)))))
def yJr (state1_0 : Int) (index2_0 : Int) (c3_0 : Cha) (n8_0 : Int) (is9_0 : Bool) : Option (Int × Bool × Unit) :=
  (some ((n8_0, is9_0, ())))
theorem yFv (n : Nat) (hn : big ≤ n)  (state1_0 : Int) (index2_0 : Int) (c3_0 : Cha) (n8_0 : Int) (is9_0 : Bool) (hx : List.length (c3_0.1) < lenMax) : LeF some (yH (fun i__ e__ s__ => yFa state1_0 index2_0 c3_0 i__ e__ s__.1 s__.2) (fun s__ => yJr state1_0 index2_0 c3_0 s__.1 s__.2) 0 (c3_0.1) (n8_0, is9_0)) (y9T n n state1_0 index2_0 c3_0 n8_0 is9_0 0) := by
  refine yK (f := some) (W := fun k__ i__ s__ => y9T n k__ state1_0 index2_0 c3_0 s__.1 s__.2 i__) (body := (fun i__ e__ s__ => yFa state1_0 index2_0 c3_0 i__ e__ s__.1 s__.2)) (fin := (fun s__ => yJr state1_0 index2_0 c3_0 s__.1 s__.2)) (fun k__ i__ s__ => ?_) hx (n8_0, is9_0) n (by unfold big at hn; unfold lenMax at hx; omega)
  show LeF _ _ (yHd n (y9T n k__) state1_0 index2_0 c3_0 s__.1 s__.2 i__)
  exact y0 (y7 fun v1 => (y0 (y0 (y4 rfl) (y4 rfl)) (y4 rfl))) (yu (y4 rfl))
def zw_M (c : Cha) (state : Int) (index : Int) : Option (Int × Bool × Unit) :=
  (bif decide (List.length (c.1) < lenMax) then yH (fun i__ e__ s__ => yFa (state) (index) (c) i__ e__ s__.1 s__.2) (fun s__ => yJr (state) (index) (c) s__.1 s__.2) 0 (c.1) (((0 : Int)), (Bool.false)) else none)
theorem yOB (c : Cha) (state : Int) (index : Int) (y : Int × Bool × Unit) (h : zw_M c state index = some y) : ∃ n, zw_m n c state index = some y :=
  ⟨big, LeF.top (show LeF some (zw_M c state index) (zw_m big c state index) from (fun (n : Nat) (hn : big ≤ n) => show LeF some (zw_M c state index) (zw_m n c state index) from (yL fun hx => by apply yFv n hn; exact hx)) big (Nat.le_refl _)) h⟩
def zw_e : Entry := { f := 29, args := zw_a, ress := zw_r, m := fun x => zw_M x.1 x.2.1 x.2.2.1 }
theorem ySY : FnOK Tryz.prog zw_e := yS (g := zw_g) (fn := Tryz.f29) yE yR eNil (by kernel_rfl) (by kernel_rfl) (by kernel_rfl) (fun x y h => let ⟨n, hn⟩ := yOB x.1 x.2.1 x.2.2.1 y h; ⟨yQh n, iNil, (yTv n x).trans hn⟩)
abbrev yMC : Ty := .pair t37 .unit
abbrev yOA : Ty := .pair t3 .unit
def yQC : G := { T := T, E := [], muts := [], fz := [] }
def yT1 : List (List Nat) := [[0, 3]]
def yLS (n : Nat) : Ann := { keep := yT1, fuel := n, inl := [], deep := 0 }
def yDm (n : Nat) (r0 : List Int → Int → Option (Int × Unit)) (l0_0 : List Int) (i3_0 : Int) : Option (Int × Unit) :=
  (bif decide (i3_0 < (↑l0_0.length : Int)) then (Option.bind (idx l0_0 i3_0) fun (v1 : Int) => (bif v1 != 0 then (Option.bind (idx l0_0 i3_0) fun (v2 : Int) => some (v2, ())) else r0 l0_0 (IntKind.i64.wrap (i3_0 + 1)))) else some ((0 : Int), ()))
def y63 (n : Nat)  (k : Nat) (l0_0 : List Int) (i3_0 : Int) : Option (Int × Unit) :=
  iter (fun r y => yDm n (fun l0_0 i3_0 => r ((l0_0, (i3_0, ())), ((), ()))) y.1.1 y.1.2.1) k ((l0_0, (i3_0, ())), ((), ()))
def yIx (n : Nat) (l : List Int) : Option (Int × Unit) :=
  (y63 n n (l) ((0 : Int)))
theorem yPs (n : Nat) (x : yMC.den) : runF yQC (yLS n) Tryz.f31 yMC yOA x = yIx n x.1 := by kernel_rfl
def yBE (l0_0 : List Int) (i3_0 : Int) (v1 : Int) : Option ((Int × Unit) ⊕ Unit) :=
  (bif v1 != 0 then (Option.bind (idx l0_0 i3_0) fun (v2 : Int) => (some (Sum.inl ((v2, ()))))) else (some (Sum.inr ())))
def yBJ (l0_0 : List Int) : Option (Int × Unit) :=
  (some (((0 : Int), ())))
theorem yCG (n : Nat) (hn : big ≤ n)  (l0_0 : List Int) (hx : List.length (l0_0) < lenMax) : LeF some (yH (fun i__ e__ s__ => yBE l0_0 i__ e__) (fun s__ => yBJ l0_0) 0 (l0_0) ()) (y63 n n l0_0 0) := by
  refine yK (f := some) (W := fun k__ i__ s__ => y63 n k__ l0_0 i__) (body := (fun i__ e__ s__ => yBE l0_0 i__ e__)) (fin := (fun s__ => yBJ l0_0)) (fun k__ i__ s__ => ?_) hx () n (by unfold big at hn; unfold lenMax at hx; omega)
  show LeF _ _ (yDm n (y63 n k__) l0_0 i__)
  exact y0 (y7 fun v1 => (y0 (y7 fun v2 => (y4 rfl)) (y4 rfl))) (yu (y4 rfl))
def y9F (l : List Int) : Option (Int × Unit) :=
  (bif decide (List.length (l) < lenMax) then yH (fun i__ e__ s__ => yBE (l) i__ e__) (fun s__ => yBJ (l)) 0 (l) () else none)
theorem yNI (l : List Int) (y : Int × Unit) (h : y9F l = some y) : ∃ n, yIx n l = some y :=
  ⟨big, LeF.top (show LeF some (y9F l) (yIx big l) from (fun (n : Nat) (hn : big ≤ n) => show LeF some (y9F l) (yIx n l) from (yL fun hx => by apply yCG n hn; exact hx)) big (Nat.le_refl _)) h⟩
def z0K_e : Entry := { f := 31, args := yMC, ress := yOA, m := fun x => y9F x.1 }
theorem yLA : FnOK Tryz.prog z0K_e := yS (g := yQC) (fn := Tryz.f31) yE yR eNil (by kernel_rfl) (by kernel_rfl) (by kernel_rfl) (fun x y h => let ⟨n, hn⟩ := yNI x.1 y h; ⟨yLS n, iNil, (yPs n x).trans hn⟩)
abbrev yM0 : Ty := .pair t4 (.pair t3 .unit)
abbrev yP9 : Ty := .pair t3 .unit
def yRW : G := { T := T, E := [], muts := [], fz := [] }
def yTA : List (List Nat) := []
def yL5 (n : Nat) : Ann := { keep := yTA, fuel := n, inl := [], deep := 0 }
def yJJ (n : Nat) (holds : Bool) (e : Int) : Option (Int × Unit) :=
  (bif holds then some (e, ()) else some ((0 : Int), ()))
theorem yR2 (n : Nat) (x : yM0.den) : runF yRW (yL5 n) Tryz.f32 yM0 yP9 x = yJJ n x.1 x.2.1 := by kernel_rfl
def z0V (holds : Bool) (e : Int) : (Int × Unit) :=
  (bif holds then (e, ()) else ((0 : Int), ()))
abbrev yQO (holds : Bool) (e : Int) : Option (Int × Unit) := some (z0V holds e)
theorem yLl (holds : Bool) (e : Int) (y : Int × Unit) (h : yQO holds e = some y) : ∃ n, yJJ n holds e = some y :=
  ⟨0, by rw [← h]; show yJJ 0 holds e = some (z0V holds e); unfold yJJ z0V; first | rfl | (simp only [yI]; done) | (simp only [yI]; rfl)⟩
def z0V_e : Entry := { f := 32, args := yM0, ress := yP9, m := fun x => yQO x.1 x.2.1 }
theorem yQZ : FnOK Tryz.prog z0V_e := yS (g := yRW) (fn := Tryz.f32) yE yR eNil (by kernel_rfl) (by kernel_rfl) (by kernel_rfl) (fun x y h => let ⟨n, hn⟩ := yLl x.1 x.2.1 y h; ⟨yL5 n, iNil, (yR2 n x).trans hn⟩)
abbrev yMa : Ty := .pair t25 (.pair t3 .unit)
abbrev yNl : Ty := .pair t4 .unit
def yR8 : G := { T := T, E := [], muts := [], fz := [] }
def ySj : List (List Nat) := []
def yLK (n : Nat) : Ann := { keep := ySj, fuel := n, inl := [], deep := 0 }
def yJB (n : Nat) (c : Cha) (i : Int) : Option (Bool × Unit) :=
  (Option.bind (idx c.1 i) fun (v0 : Sta) => some (v0.2.2.1 == (-1 : Int), ()))
theorem yO7 (n : Nat) (x : yMa.den) : runF yR8 (yLK n) Tryz.f59 yMa yNl x = yJB n x.1 x.2.1 := by kernel_rfl
def yEf (c : Cha) (i : Int) : Option (Bool × Unit) := yJB 0 c i
theorem yMn (c : Cha) (i : Int) (y : Bool × Unit) (h : yEf c i = some y) : ∃ n, yJB n c i = some y := ⟨0, h⟩
def z0D_e : Entry := { f := 59, args := yMa, ress := yNl, m := fun x => yEf x.1 x.2.1 }
theorem yR4 : FnOK Tryz.prog z0D_e := yS (g := yR8) (fn := Tryz.f59) yE yR eNil (by kernel_rfl) (by kernel_rfl) (by kernel_rfl) (fun x y h => let ⟨n, hn⟩ := yMn x.1 x.2.1 y h; ⟨yLK n, iNil, (yO7 n x).trans hn⟩)
abbrev yML : Ty := .pair t45 (.pair t9 .unit)
abbrev yPl : Ty := .pair t4 .unit
def yNo : G := { T := T, E := [], muts := [], fz := [] }
def yS7 : List (List Nat) := [[0, 1, 5]]
def yLZ (n : Nat) : Ann := { keep := yS7, fuel := n, inl := [], deep := 0 }
def yDQ (n : Nat) (r0 : List (List UInt8) → List UInt8 → Int → Option (Bool × Unit)) (l0_0 : List (List UInt8)) (s1_0 : List UInt8) (i5_0 : Int) : Option (Bool × Unit) :=
  (bif decide (i5_0 < (↑l0_0.length : Int)) then (Option.bind (idx l0_0 i5_0) fun (v1 : List UInt8) => (bif v1 == s1_0 then some (Bool.true, ()) else r0 l0_0 s1_0 (IntKind.i64.wrap (i5_0 + 1)))) else some (Bool.false, ()))
def y6E (n : Nat)  (k : Nat) (l0_0 : List (List UInt8)) (s1_0 : List UInt8) (i5_0 : Int) : Option (Bool × Unit) :=
  iter (fun r y => yDQ n (fun l0_0 s1_0 i5_0 => r ((l0_0, (s1_0, (i5_0, ()))), ((), ()))) y.1.1 y.1.2.1 y.1.2.2.1) k ((l0_0, (s1_0, (i5_0, ()))), ((), ()))
def yKO (n : Nat) (l : List (List UInt8)) (s : List UInt8) : Option (Bool × Unit) :=
  (y6E n n (l) (s) ((0 : Int)))
theorem yQq (n : Nat) (x : yML.den) : runF yNo (yLZ n) Tryz.f25 yML yPl x = yKO n x.1 x.2.1 := by kernel_rfl
def yEB (l0_0 : List (List UInt8)) (s1_0 : List UInt8) (i5_0 : Int) (v1 : List UInt8) : Option ((Bool × Unit) ⊕ Unit) :=
  (bif v1 == s1_0 then (some (Sum.inl ((Bool.true, ())))) else (some (Sum.inr ())))
def yGx (l0_0 : List (List UInt8)) (s1_0 : List UInt8) : Option (Bool × Unit) :=
  (some ((Bool.false, ())))
theorem yCQ (n : Nat) (hn : big ≤ n)  (l0_0 : List (List UInt8)) (s1_0 : List UInt8) (hx : List.length (l0_0) < lenMax) : LeF some (yH (fun i__ e__ s__ => yEB l0_0 s1_0 i__ e__) (fun s__ => yGx l0_0 s1_0) 0 (l0_0) ()) (y6E n n l0_0 s1_0 0) := by
  refine yK (f := some) (W := fun k__ i__ s__ => y6E n k__ l0_0 s1_0 i__) (body := (fun i__ e__ s__ => yEB l0_0 s1_0 i__ e__)) (fin := (fun s__ => yGx l0_0 s1_0)) (fun k__ i__ s__ => ?_) hx () n (by unfold big at hn; unfold lenMax at hx; omega)
  show LeF _ _ (yDQ n (y6E n k__) l0_0 s1_0 i__)
  exact y0 (y7 fun v1 => (y0 (y4 rfl) (y4 rfl))) (yu (y4 rfl))
def y5m (l : List (List UInt8)) (s : List UInt8) : Option (Bool × Unit) :=
  (bif decide (List.length (l) < lenMax) then yH (fun i__ e__ s__ => yEB (l) (s) i__ e__) (fun s__ => yGx (l) (s)) 0 (l) () else none)
theorem yMh (l : List (List UInt8)) (s : List UInt8) (y : Bool × Unit) (h : y5m l s = some y) : ∃ n, yKO n l s = some y :=
  ⟨big, LeF.top (show LeF some (y5m l s) (yKO big l s) from (fun (n : Nat) (hn : big ≤ n) => show LeF some (y5m l s) (yKO n l s) from (yL fun hx => by apply yCQ n hn; exact hx)) big (Nat.le_refl _)) h⟩
def z00_e : Entry := { f := 25, args := yML, ress := yPl, m := fun x => y5m x.1 x.2.1 }
theorem yL6 : FnOK Tryz.prog z00_e := yS (g := yNo) (fn := Tryz.f25) yE yR eNil (by kernel_rfl) (by kernel_rfl) (by kernel_rfl) (fun x y h => let ⟨n, hn⟩ := yMh x.1 x.2.1 y h; ⟨yLZ n, iNil, (yQq n x).trans hn⟩)
abbrev yNU : Ty := .pair t131 .unit
abbrev yQ4 : Ty := .pair t42 .unit
def yRD : G := { T := T, E := [], muts := [], fz := [] }
def yU7 : List (List Nat) := [[5, 6, 7]]
def yL3 (n : Nat) : Ann := { keep := yU7, fuel := n, inl := [], deep := 0 }
def yEC (n : Nat) (r0 : List Int → Int → Int → Option (Int × Unit)) (t5_0 : List Int) (t6_0 : Int) (t7_0 : Int) : Option (Int × Unit) :=
  (bif decide (t7_0 < t6_0) then (Option.bind (idx t5_0 t7_0) fun (v1 : Int) => (bif v1 != 0 then some (v1, ()) else r0 t5_0 t6_0 (IntKind.i64.wrap (t7_0 + 1)))) else some ((0 : Int), ()))
def y6G (n : Nat)  (k : Nat) (t5_0 : List Int) (t6_0 : Int) (t7_0 : Int) : Option (Int × Unit) :=
  iter (fun r y => yEC n (fun t5_0 t6_0 t7_0 => r ((t5_0, (t6_0, (t7_0, ()))), ((), ()))) y.1.1 y.1.2.1 y.1.2.2.1) k ((t5_0, (t6_0, (t7_0, ()))), ((), ()))
def yKS (n : Nat) (l : List Int) : Option (Int × Unit) :=
  (y6G n n (l) ((↑l.length : Int)) ((0 : Int)))
theorem yR9 (n : Nat) (x : yNU.den) : runF yRD (yL3 n) Tryz.f41 yNU yQ4 x = yKS n x.1 := by kernel_rfl
def yDR (t5_0 : List Int) (t7_0 : Int) (v1 : Int) : Option ((Int × Unit) ⊕ Unit) :=
  (bif v1 != 0 then (some (Sum.inl ((v1, ())))) else (some (Sum.inr ())))
def yEF (t5_0 : List Int) : Option (Int × Unit) :=
  (some (((0 : Int), ())))
theorem yBr (n : Nat) (hn : big ≤ n)  (t5_0 : List Int) (hx : List.length (t5_0) < lenMax) : LeF some (yH (fun i__ e__ s__ => yDR t5_0 i__ e__) (fun s__ => yEF t5_0) 0 (t5_0) ()) (y6G n n t5_0 (List.length (t5_0) : Int) 0) := by
  refine yK (f := some) (W := fun k__ i__ s__ => y6G n k__ t5_0 (List.length (t5_0) : Int) i__) (body := (fun i__ e__ s__ => yDR t5_0 i__ e__)) (fin := (fun s__ => yEF t5_0)) (fun k__ i__ s__ => ?_) hx () n (by unfold big at hn; unfold lenMax at hx; omega)
  show LeF _ _ (yEC n (y6G n k__) t5_0 (List.length (t5_0) : Int) i__)
  exact y0 (y7 fun v1 => (y0 (y4 rfl) (y4 rfl))) (yu (y4 rfl))
def y0k (l : List Int) : Option (Int × Unit) :=
  (bif decide (List.length (l) < lenMax) then yH (fun i__ e__ s__ => yDR (l) i__ e__) (fun s__ => yEF (l)) 0 (l) () else none)
theorem yN3 (l : List Int) (y : Int × Unit) (h : y0k l = some y) : ∃ n, yKS n l = some y :=
  ⟨big, LeF.top (show LeF some (y0k l) (yKS big l) from (fun (n : Nat) (hn : big ≤ n) => show LeF some (y0k l) (yKS n l) from (yL fun hx => by apply yBr n hn; exact hx)) big (Nat.le_refl _)) h⟩
def z0Q_e : Entry := { f := 41, args := yNU, ress := yQ4, m := fun x => y0k x.1 }
theorem y2o : FnOK Tryz.prog z0Q_e := yS (g := yRD) (fn := Tryz.f41) yE yR eNil (by kernel_rfl) (by kernel_rfl) (by kernel_rfl) (fun x y h => let ⟨n, hn⟩ := yN3 x.1 y h; ⟨yL3 n, iNil, (yR9 n x).trans hn⟩)
abbrev yNB : Ty := .pair t4 (.pair t42 .unit)
abbrev yPV : Ty := .pair t42 .unit
def yS0 : G := { T := T, E := [], muts := [], fz := [] }
def yTP : List (List Nat) := []
def yLG (n : Nat) : Ann := { keep := yTP, fuel := n, inl := [], deep := 0 }
def yKT (n : Nat) (holds : Bool) (e : Int) : Option (Int × Unit) :=
  (bif holds then some (e, ()) else some ((0 : Int), ()))
theorem yQH (n : Nat) (x : yNB.den) : runF yS0 (yLG n) Tryz.f65 yNB yPV x = yKT n x.1 x.2.1 := by kernel_rfl
def z0U (holds : Bool) (e : Int) : (Int × Unit) :=
  (bif holds then (e, ()) else ((0 : Int), ()))
abbrev yPx (holds : Bool) (e : Int) : Option (Int × Unit) := some (z0U holds e)
theorem yMO (holds : Bool) (e : Int) (y : Int × Unit) (h : yPx holds e = some y) : ∃ n, yKT n holds e = some y :=
  ⟨0, by rw [← h]; show yKT 0 holds e = some (z0U holds e); unfold yKT z0U; first | rfl | (simp only [yI]; done) | (simp only [yI]; rfl)⟩
def z0U_e : Entry := { f := 65, args := yNB, ress := yPV, m := fun x => yPx x.1 x.2.1 }
theorem yRl : FnOK Tryz.prog z0U_e := yS (g := yS0) (fn := Tryz.f65) yE yR eNil (by kernel_rfl) (by kernel_rfl) (by kernel_rfl) (fun x y h => let ⟨n, hn⟩ := yMO x.1 x.2.1 y h; ⟨yLG n, iNil, (yQH n x).trans hn⟩)
abbrev yNR : Ty := .pair t131 .unit
abbrev yPM : Ty := .pair t42 .unit
def yP1 : G := { T := T, E := [], muts := [], fz := [] }
def ySr : List (List Nat) := [[5, 6, 7]]
def yLM (n : Nat) : Ann := { keep := ySr, fuel := n, inl := [], deep := 0 }
def yDL (n : Nat) (r0 : List Int → Int → Int → Option (Int × Unit)) (t5_0 : List Int) (t6_0 : Int) (t7_0 : Int) : Option (Int × Unit) :=
  (bif decide (t7_0 < t6_0) then (Option.bind (idx t5_0 t7_0) fun (v1 : Int) => (bif v1 != 0 then some (v1, ()) else r0 t5_0 t6_0 (IntKind.i64.wrap (t7_0 + 1)))) else some ((0 : Int), ()))
def y5t (n : Nat)  (k : Nat) (t5_0 : List Int) (t6_0 : Int) (t7_0 : Int) : Option (Int × Unit) :=
  iter (fun r y => yDL n (fun t5_0 t6_0 t7_0 => r ((t5_0, (t6_0, (t7_0, ()))), ((), ()))) y.1.1 y.1.2.1 y.1.2.2.1) k ((t5_0, (t6_0, (t7_0, ()))), ((), ()))
def yKi (n : Nat) (l : List Int) : Option (Int × Unit) :=
  (y5t n n (l) ((↑l.length : Int)) ((0 : Int)))
theorem yR5 (n : Nat) (x : yNR.den) : runF yP1 (yLM n) Tryz.f38 yNR yPM x = yKi n x.1 := by kernel_rfl
def yGc (t5_0 : List Int) (t7_0 : Int) (v1 : Int) : Option ((Int × Unit) ⊕ Unit) :=
  (bif v1 != 0 then (some (Sum.inl ((v1, ())))) else (some (Sum.inr ())))
def yGb (t5_0 : List Int) : Option (Int × Unit) :=
  (some (((0 : Int), ())))
theorem yC5 (n : Nat) (hn : big ≤ n)  (t5_0 : List Int) (hx : List.length (t5_0) < lenMax) : LeF some (yH (fun i__ e__ s__ => yGc t5_0 i__ e__) (fun s__ => yGb t5_0) 0 (t5_0) ()) (y5t n n t5_0 (List.length (t5_0) : Int) 0) := by
  refine yK (f := some) (W := fun k__ i__ s__ => y5t n k__ t5_0 (List.length (t5_0) : Int) i__) (body := (fun i__ e__ s__ => yGc t5_0 i__ e__)) (fin := (fun s__ => yGb t5_0)) (fun k__ i__ s__ => ?_) hx () n (by unfold big at hn; unfold lenMax at hx; omega)
  show LeF _ _ (yDL n (y5t n k__) t5_0 (List.length (t5_0) : Int) i__)
  exact y0 (y7 fun v1 => (y0 (y4 rfl) (y4 rfl))) (yu (y4 rfl))
def yFC (l : List Int) : Option (Int × Unit) :=
  (bif decide (List.length (l) < lenMax) then yH (fun i__ e__ s__ => yGc (l) i__ e__) (fun s__ => yGb (l)) 0 (l) () else none)
theorem yM6 (l : List Int) (y : Int × Unit) (h : yFC l = some y) : ∃ n, yKi n l = some y :=
  ⟨big, LeF.top (show LeF some (yFC l) (yKi big l) from (fun (n : Nat) (hn : big ≤ n) => show LeF some (yFC l) (yKi n l) from (yL fun hx => by apply yC5 n hn; exact hx)) big (Nat.le_refl _)) h⟩
def z0J_e : Entry := { f := 38, args := yNR, ress := yPM, m := fun x => yFC x.1 }
theorem yQm : FnOK Tryz.prog z0J_e := yS (g := yP1) (fn := Tryz.f38) yE yR eNil (by kernel_rfl) (by kernel_rfl) (by kernel_rfl) (fun x y h => let ⟨n, hn⟩ := yM6 x.1 y h; ⟨yLM n, iNil, (yR5 n x).trans hn⟩)
abbrev zi_a : Ty := .pair t25 .unit
abbrev zi_r : Ty := .pair t56 .unit
def zi_g : G := { T := T, E := [], muts := [3], fz := [] }
def zi_k : List (List Nat) := [[1, 2, 3, 9, 10, 11], [2, 3, 23, 24, 25]]
def yOY (n : Nat) : Ann := { keep := zi_k, fuel := n, inl := [], deep := 0 }
def yHA (n : Nat) (r2 : List Tra → Int → Int → List Sta → List Tra → Option (Cha × Unit)) (t23_2 : List Tra) (t24_2 : Int) (t25_2 : Int) (cs2_2 : List Sta) (cs3_2 : List Tra) : Option (Cha × Unit) :=
  (bif decide (t25_2 < t24_2) then (Option.bind (idx t23_2 t25_2) fun (v3 : Tra) => (bif decide (cs3_2.length + (1 : Nat) ≤ memMax) then r2 t23_2 t24_2 (IntKind.i64.wrap (t25_2 + 1)) cs2_2 (cs3_2 ++ [(v3.1, v3.2.1, v3.2.2.1, v3.2.2.2.1, v3.2.2.2.2.1, ())]) else none)) else some ((cs2_2, cs3_2, ()), ()))
def y9P (n : Nat)  (k : Nat) (t23_2 : List Tra) (t24_2 : Int) (t25_2 : Int) (cs2_2 : List Sta) (cs3_2 : List Tra) : Option (Cha × Unit) :=
  iter (fun r y => yHA n (fun t23_2 t24_2 t25_2 cs2_2 cs3_2 => r ((t23_2, (t24_2, (t25_2, ()))), (((), ((), (cs2_2, (cs3_2, ())))), ()))) y.1.1 y.1.2.1 y.1.2.2.1 y.2.1.2.2.1 y.2.1.2.2.2.1) k ((t23_2, (t24_2, (t25_2, ()))), (((), ((), (cs2_2, (cs3_2, ())))), ()))
def yHH (n : Nat) (r0 : Cha → List Sta → Int → Int → List Sta → List Tra → Option (Cha × Unit)) (c1_0 : Cha) (t9_0 : List Sta) (t10_0 : Int) (t11_0 : Int) (cs2_0 : List Sta) (cs3_0 : List Tra) : Option (Cha × Unit) :=
  (bif decide (t11_0 < t10_0) then (Option.bind (idx t9_0 t11_0) fun (v1 : Sta) => (bif decide (cs2_0.length + (1 : Nat) ≤ memMax) then r0 c1_0 t9_0 t10_0 (IntKind.i64.wrap (t11_0 + 1)) (cs2_0 ++ [(v1.1, v1.2.1, v1.2.2.1, v1.2.2.2.1, ())]) cs3_0 else none)) else (y9P n n (c1_0.2.1) ((↑c1_0.2.1.length : Int)) ((0 : Int)) (cs2_0) (cs3_0)))
def y8i (n : Nat)  (k : Nat) (c1_0 : Cha) (t9_0 : List Sta) (t10_0 : Int) (t11_0 : Int) (cs2_0 : List Sta) (cs3_0 : List Tra) : Option (Cha × Unit) :=
  iter (fun r y => yHH n (fun c1_0 t9_0 t10_0 t11_0 cs2_0 cs3_0 => r ((c1_0, (t9_0, (t10_0, (t11_0, ())))), (((), ((), (cs2_0, (cs3_0, ())))), ()))) y.1.1 y.1.2.1 y.1.2.2.1 y.1.2.2.2.1 y.2.1.2.2.1 y.2.1.2.2.2.1) k ((c1_0, (t9_0, (t10_0, (t11_0, ())))), (((), ((), (cs2_0, (cs3_0, ())))), ()))
def zi_m (n : Nat) (c : Cha) : Option (Cha × Unit) :=
  (y8i n n (c) (c.1) ((↑c.1.length : Int)) ((0 : Int)) ([]) ([]))
theorem ySk (n : Nat) (x : zi_a.den) : runF zi_g (yOY n) Tryz.f16 zi_a zi_r x = zi_m n x.1 := by kernel_rfl
def yKK (t23_2 : List Tra) (cs2_2 : List Sta) (t25_2 : Int) (v3 : Tra) (cs3_2 : List Tra) : Option ((Cha × Unit) ⊕ (List Tra)) :=
  (bif decide (cs3_2.length + (1 : Nat) ≤ memMax) then (some (Sum.inr (cs3_2 ++ [(v3.1, v3.2.1, v3.2.2.1, v3.2.2.2.1, v3.2.2.2.2.1, ())]))) else none)
def yLu (t23_2 : List Tra) (cs2_2 : List Sta) (cs3_2 : List Tra) : Option (Cha × Unit) :=
  (some (((cs2_2, cs3_2, ()), ())))
theorem yEM (n : Nat) (hn : big ≤ n)  (t23_2 : List Tra) (cs2_2 : List Sta) (cs3_2 : List Tra) (hx : List.length (t23_2) < lenMax) : LeF some (yH (fun i__ e__ s__ => yKK t23_2 cs2_2 i__ e__ s__) (fun s__ => yLu t23_2 cs2_2 s__) 0 (t23_2) cs3_2) (y9P n n t23_2 (List.length (t23_2) : Int) 0 cs2_2 cs3_2) := by
  refine yK (f := some) (W := fun k__ i__ s__ => y9P n k__ t23_2 (List.length (t23_2) : Int) i__ cs2_2 s__) (body := (fun i__ e__ s__ => yKK t23_2 cs2_2 i__ e__ s__)) (fin := (fun s__ => yLu t23_2 cs2_2 s__)) (fun k__ i__ s__ => ?_) hx cs3_2 n (by unfold big at hn; unfold lenMax at hx; omega)
  show LeF _ _ (yHA n (y9P n k__) t23_2 (List.length (t23_2) : Int) i__ cs2_2 s__)
  exact y0 (y7 fun v3 => (y0 (y4 rfl) y08)) (yu (y4 rfl))
def yJl (c1_0 : Cha) (t9_0 : List Sta) (cs3_0 : List Tra) (t11_0 : Int) (v1 : Sta) (cs2_0 : List Sta) : Option ((Cha × Unit) ⊕ (List Sta)) :=
  (bif decide (cs2_0.length + (1 : Nat) ≤ memMax) then (some (Sum.inr (cs2_0 ++ [(v1.1, v1.2.1, v1.2.2.1, v1.2.2.2.1, ())]))) else none)
def yKN (c1_0 : Cha) (t9_0 : List Sta) (cs3_0 : List Tra) (cs2_0 : List Sta) : Option (Cha × Unit) :=
  (bif decide (List.length (c1_0.2.1) < lenMax) then yH (fun i__ e__ s__ => yKK (c1_0.2.1) (cs2_0) i__ e__ s__) (fun s__ => yLu (c1_0.2.1) (cs2_0) s__) 0 (c1_0.2.1) (cs3_0) else none)
theorem yF2 (n : Nat) (hn : big ≤ n)  (c1_0 : Cha) (t9_0 : List Sta) (cs3_0 : List Tra) (cs2_0 : List Sta) (hx : List.length (t9_0) < lenMax) : LeF some (yH (fun i__ e__ s__ => yJl c1_0 t9_0 cs3_0 i__ e__ s__) (fun s__ => yKN c1_0 t9_0 cs3_0 s__) 0 (t9_0) cs2_0) (y8i n n c1_0 t9_0 (List.length (t9_0) : Int) 0 cs2_0 cs3_0) := by
  refine yK (f := some) (W := fun k__ i__ s__ => y8i n k__ c1_0 t9_0 (List.length (t9_0) : Int) i__ s__ cs3_0) (body := (fun i__ e__ s__ => yJl c1_0 t9_0 cs3_0 i__ e__ s__)) (fin := (fun s__ => yKN c1_0 t9_0 cs3_0 s__)) (fun k__ i__ s__ => ?_) hx cs2_0 n (by unfold big at hn; unfold lenMax at hx; omega)
  show LeF _ _ (yHH n (y8i n k__) c1_0 t9_0 (List.length (t9_0) : Int) i__ s__ cs3_0)
  exact y0 (y7 fun v1 => (y0 (y4 rfl) y08)) (yu (yL fun hx => by apply yEM n hn; exact hx))
def zi_M (c : Cha) : Option (Cha × Unit) :=
  (bif decide (List.length (c.1) < lenMax) then yH (fun i__ e__ s__ => yJl (c) (c.1) ([]) i__ e__ s__) (fun s__ => yKN (c) (c.1) ([]) s__) 0 (c.1) ([]) else none)
theorem yQE (c : Cha) (y : Cha × Unit) (h : zi_M c = some y) : ∃ n, zi_m n c = some y :=
  ⟨big, LeF.top (show LeF some (zi_M c) (zi_m big c) from (fun (n : Nat) (hn : big ≤ n) => show LeF some (zi_M c) (zi_m n c) from (yL fun hx => by apply yF2 n hn; exact hx)) big (Nat.le_refl _)) h⟩
def zi_e : Entry := { f := 16, args := zi_a, ress := zi_r, m := fun x => zi_M x.1 }
theorem yTf : FnOK Tryz.prog zi_e := yS (g := zi_g) (fn := Tryz.f16) yE yR eNil (by kernel_rfl) (by kernel_rfl) (by kernel_rfl) (fun x y h => let ⟨n, hn⟩ := yQE x.1 y h; ⟨yOY n, iNil, (ySk n x).trans hn⟩)
abbrev za_a : Ty := .pair t26 .unit
abbrev za_r : Ty := .pair t50 .unit
def za_g : G := { T := T, E := [], muts := [3], fz := [] }
def za_k : List (List Nat) := [[3, 6, 7, 8]]
def yOr (n : Nat) : Ann := { keep := za_k, fuel := n, inl := [], deep := 0 }
def yID (n : Nat) (r0 : List (List UInt8 × Int × Unit) → Int → Int → List (List UInt8 × Int × Unit) → Option (List (List UInt8 × Int × Unit) × Unit)) (t6_0 : List (List UInt8 × Int × Unit)) (t7_0 : Int) (t8_0 : Int) (c0_0 : List (List UInt8 × Int × Unit)) : Option (List (List UInt8 × Int × Unit) × Unit) :=
  (bif decide (t8_0 < t7_0) then (Option.bind (idx t6_0 t8_0) fun (v1 : List UInt8 × Int × Unit) => (bif decide (c0_0.length + (1 : Nat) ≤ memMax) then r0 t6_0 t7_0 (IntKind.i64.wrap (t8_0 + 1)) (c0_0 ++ [(v1.1, v1.2.1, ())]) else none)) else some (c0_0, ()))
def y9j (n : Nat)  (k : Nat) (t6_0 : List (List UInt8 × Int × Unit)) (t7_0 : Int) (t8_0 : Int) (c0_0 : List (List UInt8 × Int × Unit)) : Option (List (List UInt8 × Int × Unit) × Unit) :=
  iter (fun r y => yID n (fun t6_0 t7_0 t8_0 c0_0 => r ((t6_0, (t7_0, (t8_0, ()))), ((c0_0, ()), ()))) y.1.1 y.1.2.1 y.1.2.2.1 y.2.1.1) k ((t6_0, (t7_0, (t8_0, ()))), ((c0_0, ()), ()))
def za_m (n : Nat) (l : List (List UInt8 × Int × Unit)) : Option (List (List UInt8 × Int × Unit) × Unit) :=
  (y9j n n (l) ((↑l.length : Int)) ((0 : Int)) ([]))
theorem yTC (n : Nat) (x : za_a.den) : runF za_g (yOr n) Tryz.f17 za_a za_r x = za_m n x.1 := by kernel_rfl
def yJ8 (t6_0 : List (List UInt8 × Int × Unit)) (t8_0 : Int) (v1 : List UInt8 × Int × Unit) (c0_0 : List (List UInt8 × Int × Unit)) : Option ((List (List UInt8 × Int × Unit) × Unit) ⊕ (List (List UInt8 × Int × Unit))) :=
  (bif decide (c0_0.length + (1 : Nat) ≤ memMax) then (some (Sum.inr (c0_0 ++ [(v1.1, v1.2.1, ())]))) else none)
def yMR (t6_0 : List (List UInt8 × Int × Unit)) (c0_0 : List (List UInt8 × Int × Unit)) : Option (List (List UInt8 × Int × Unit) × Unit) :=
  (some ((c0_0, ())))
theorem yF3 (n : Nat) (hn : big ≤ n)  (t6_0 : List (List UInt8 × Int × Unit)) (c0_0 : List (List UInt8 × Int × Unit)) (hx : List.length (t6_0) < lenMax) : LeF some (yH (fun i__ e__ s__ => yJ8 t6_0 i__ e__ s__) (fun s__ => yMR t6_0 s__) 0 (t6_0) c0_0) (y9j n n t6_0 (List.length (t6_0) : Int) 0 c0_0) := by
  refine yK (f := some) (W := fun k__ i__ s__ => y9j n k__ t6_0 (List.length (t6_0) : Int) i__ s__) (body := (fun i__ e__ s__ => yJ8 t6_0 i__ e__ s__)) (fin := (fun s__ => yMR t6_0 s__)) (fun k__ i__ s__ => ?_) hx c0_0 n (by unfold big at hn; unfold lenMax at hx; omega)
  show LeF _ _ (yID n (y9j n k__) t6_0 (List.length (t6_0) : Int) i__ s__)
  exact y0 (y7 fun v1 => (y0 (y4 rfl) y08)) (yu (y4 rfl))
def za_M (l : List (List UInt8 × Int × Unit)) : Option (List (List UInt8 × Int × Unit) × Unit) :=
  (bif decide (List.length (l) < lenMax) then yH (fun i__ e__ s__ => yJ8 (l) i__ e__ s__) (fun s__ => yMR (l) s__) 0 (l) ([]) else none)
theorem yQv (l : List (List UInt8 × Int × Unit)) (y : List (List UInt8 × Int × Unit) × Unit) (h : za_M l = some y) : ∃ n, za_m n l = some y :=
  ⟨big, LeF.top (show LeF some (za_M l) (za_m big l) from (fun (n : Nat) (hn : big ≤ n) => show LeF some (za_M l) (za_m n l) from (yL fun hx => by apply yF3 n hn; exact hx)) big (Nat.le_refl _)) h⟩
def za_e : Entry := { f := 17, args := za_a, ress := za_r, m := fun x => za_M x.1 }
theorem ySi : FnOK Tryz.prog za_e := yS (g := za_g) (fn := Tryz.f17) yE yR eNil (by kernel_rfl) (by kernel_rfl) (by kernel_rfl) (fun x y h => let ⟨n, hn⟩ := yQv x.1 y h; ⟨yOr n, iNil, (yTC n x).trans hn⟩)
end
end Go.Tw
end
section
set_option linter.all false
set_option maxRecDepth 1000000
namespace Go.Tw
open Go.Vx Go.Vx.B Go.Proofs
noncomputable section
abbrev yMp : Ty := .pair t4 (.pair t42 .unit)
abbrev yPy : Ty := .pair t42 .unit
def yRt : G := { T := T, E := [], muts := [], fz := [] }
def yTr : List (List Nat) := []
def yLO (n : Nat) : Ann := { keep := yTr, fuel := n, inl := [], deep := 0 }
def yKc (n : Nat) (holds : Bool) (e : Int) : Option (Int × Unit) :=
  (bif holds then some (e, ()) else some ((0 : Int), ()))
theorem yRd (n : Nat) (x : yMp.den) : runF yRt (yLO n) Tryz.f57 yMp yPy x = yKc n x.1 x.2.1 := by kernel_rfl
def z0Y (holds : Bool) (e : Int) : (Int × Unit) :=
  (bif holds then (e, ()) else ((0 : Int), ()))
abbrev yRH (holds : Bool) (e : Int) : Option (Int × Unit) := some (z0Y holds e)
theorem yLr (holds : Bool) (e : Int) (y : Int × Unit) (h : yRH holds e = some y) : ∃ n, yKc n holds e = some y :=
  ⟨0, by rw [← h]; show yKc 0 holds e = some (z0Y holds e); unfold yKc z0Y; first | rfl | (simp only [yI]; done) | (simp only [yI]; rfl)⟩
def z0Y_e : Entry := { f := 57, args := yMp, ress := yPy, m := fun x => yRH x.1 x.2.1 }
theorem y3v : FnOK Tryz.prog z0Y_e := yS (g := yRt) (fn := Tryz.f57) yE yR eNil (by kernel_rfl) (by kernel_rfl) (by kernel_rfl) (fun x y h => let ⟨n, hn⟩ := yLr x.1 x.2.1 y h; ⟨yLO n, iNil, (yRd n x).trans hn⟩)
abbrev z6_a : Ty := .pair t54 (.pair t137 .unit)
abbrev z6_r : Ty := .pair t131 .unit
def z6_g : G := { T := T, E := [], muts := [5], fz := [] }
def z6_k : List (List Nat) := [[1, 5, 8, 9, 10]]
def yOn (n : Nat) : Ann := { keep := z6_k, fuel := n, inl := [], deep := 0 }
def yHv (n : Nat) (r0 : (Tra × Unit → Option (Int × Unit)) → List Tra → Int → Int → List Int → Option (List Int × Unit)) (of1_0 : Tra × Unit → Option (Int × Unit)) (t8_0 : List Tra) (t9_0 : Int) (t10_0 : Int) (c0_0 : List Int) : Option (List Int × Unit) :=
  (bif decide (t10_0 < t9_0) then (Option.bind (idx t8_0 t10_0) fun (v1 : Tra) => (Option.bind (of1_0 ((v1.1, v1.2.1, v1.2.2.1, v1.2.2.2.1, v1.2.2.2.2.1, ()), ())) fun (v2 : Int × Unit) => (bif decide (c0_0.length + (1 : Nat) ≤ memMax) then r0 of1_0 t8_0 t9_0 (IntKind.i64.wrap (t10_0 + 1)) (c0_0 ++ [v2.1]) else none))) else some (c0_0, ()))
def y9O (n : Nat)  (k : Nat) (of1_0 : Tra × Unit → Option (Int × Unit)) (t8_0 : List Tra) (t9_0 : Int) (t10_0 : Int) (c0_0 : List Int) : Option (List Int × Unit) :=
  iter (fun r y => yHv n (fun of1_0 t8_0 t9_0 t10_0 c0_0 => r ((of1_0, (t8_0, (t9_0, (t10_0, ())))), ((c0_0, ()), ()))) y.1.1 y.1.2.1 y.1.2.2.1 y.1.2.2.2.1 y.2.1.1) k ((of1_0, (t8_0, (t9_0, (t10_0, ())))), ((c0_0, ()), ()))
def z6_m (n : Nat) (l : List Tra) (of : Tra × Unit → Option (Int × Unit)) : Option (List Int × Unit) :=
  (y9O n n (of) (l) ((↑l.length : Int)) ((0 : Int)) ([]))
theorem ySD (n : Nat) (x : z6_a.den) : runF z6_g (yOn n) Tryz.f70 z6_a z6_r x = z6_m n x.1 x.2.1 := by kernel_rfl
def yJg (of1_0 : Tra × Unit → Option (Int × Unit)) (t8_0 : List Tra) (t10_0 : Int) (v1 : Tra) (c0_0 : List Int) : Option ((List Int × Unit) ⊕ (List Int)) :=
  (Option.bind (of1_0 ((v1.1, v1.2.1, v1.2.2.1, v1.2.2.2.1, v1.2.2.2.2.1, ()), ())) fun (v2 : Int × Unit) => (bif decide (c0_0.length + (1 : Nat) ≤ memMax) then (some (Sum.inr (c0_0 ++ [v2.1]))) else none))
def yMy (of1_0 : Tra × Unit → Option (Int × Unit)) (t8_0 : List Tra) (c0_0 : List Int) : Option (List Int × Unit) :=
  (some ((c0_0, ())))
theorem yFS (n : Nat) (hn : big ≤ n)  (of1_0 : Tra × Unit → Option (Int × Unit)) (t8_0 : List Tra) (c0_0 : List Int) (hx : List.length (t8_0) < lenMax) : LeF some (yH (fun i__ e__ s__ => yJg of1_0 t8_0 i__ e__ s__) (fun s__ => yMy of1_0 t8_0 s__) 0 (t8_0) c0_0) (y9O n n of1_0 t8_0 (List.length (t8_0) : Int) 0 c0_0) := by
  refine yK (f := some) (W := fun k__ i__ s__ => y9O n k__ of1_0 t8_0 (List.length (t8_0) : Int) i__ s__) (body := (fun i__ e__ s__ => yJg of1_0 t8_0 i__ e__ s__)) (fin := (fun s__ => yMy of1_0 t8_0 s__)) (fun k__ i__ s__ => ?_) hx c0_0 n (by unfold big at hn; unfold lenMax at hx; omega)
  show LeF _ _ (yHv n (y9O n k__) of1_0 t8_0 (List.length (t8_0) : Int) i__ s__)
  exact y0 (y7 fun v1 => (y7 fun v2 => (y0 (y4 rfl) y08))) (yu (y4 rfl))
def z6_M (l : List Tra) (of : Tra × Unit → Option (Int × Unit)) : Option (List Int × Unit) :=
  (bif decide (List.length (l) < lenMax) then yH (fun i__ e__ s__ => yJg (of) (l) i__ e__ s__) (fun s__ => yMy (of) (l) s__) 0 (l) ([]) else none)
theorem yRu (l : List Tra) (of : Tra × Unit → Option (Int × Unit)) (y : List Int × Unit) (h : z6_M l of = some y) : ∃ n, z6_m n l of = some y :=
  ⟨big, LeF.top (show LeF some (z6_M l of) (z6_m big l of) from (fun (n : Nat) (hn : big ≤ n) => show LeF some (z6_M l of) (z6_m n l of) from (yL fun hx => by apply yFS n hn; exact hx)) big (Nat.le_refl _)) h⟩
def z6_e : Entry := { f := 70, args := z6_a, ress := z6_r, m := fun x => z6_M x.1 x.2.1 }
theorem ySS : FnOK Tryz.prog z6_e := yS (g := z6_g) (fn := Tryz.f70) yE yR eNil (by kernel_rfl) (by kernel_rfl) (by kernel_rfl) (fun x y h => let ⟨n, hn⟩ := yRu x.1 x.2.1 y h; ⟨yOn n, iNil, (ySD n x).trans hn⟩)
abbrev yN2 : Ty := .pair t25 (.pair t3 (.pair t39 .unit))
abbrev yPQ : Ty := .pair t3 (.pair t86 .unit)
def yRz : G := { T := T, E := [], muts := [], fz := [] }
def yT4 : List (List Nat) := [[3, 5, 7, 8], [3, 5, 7, 8, 9, 10, 11]]
def yLg (n : Nat) : Ann := { keep := yT4, fuel := n, inl := [], deep := 0 }
def yDO (n : Nat) (r0 : Cha → List UInt8 × Int × Unit → Int → Int → List UInt8 → Int → Int → Int → Option (Int × Tra × Unit)) (r1 : Cha → List UInt8 × Int × Unit → Int → Int → Int → Int → List UInt8 → Int → Int → Int → Int → List UInt8 → Int → Int → Int → Option (Int × Tra × Unit)) (c3_1 : Cha) (in5_1 : List UInt8 × Int × Unit) (s8_1 : Int) (n9_1 : Int) (i11_1 : Int) (b0_0_1 : Int) (b0_1_1 : List UInt8) (b0_2_1 : Int) (b0_3_1 : Int) (b0_4_1 : Int) (b1_0_1 : Int) (b1_1_1 : List UInt8) (b1_2_1 : Int) (b1_3_1 : Int) (b1_4_1 : Int) : Option (Int × Tra × Unit) :=
  (bif decide (i11_1 < (↑c3_1.2.1.length : Int)) then (Option.bind (idx c3_1.2.1 i11_1) fun (v2 : Tra) => (bif v2.1 == s8_1 then (bif v2.2.1 == in5_1.1 then (bif yP IntKind.i64 Go.BinOp.and in5_1.2.1 v2.2.2.2.1 == v2.2.2.2.2.1 then r1 c3_1 in5_1 s8_1 (IntKind.i64.wrap (n9_1 + 1)) (IntKind.i64.wrap (i11_1 + 1)) b0_0_1 b0_1_1 b0_2_1 b0_3_1 b0_4_1 v2.1 v2.2.1 v2.2.2.1 v2.2.2.2.1 v2.2.2.2.2.1 else r1 c3_1 in5_1 s8_1 n9_1 (IntKind.i64.wrap (i11_1 + 1)) b0_0_1 b0_1_1 b0_2_1 b0_3_1 b0_4_1 b1_0_1 b1_1_1 b1_2_1 b1_3_1 b1_4_1) else r1 c3_1 in5_1 s8_1 n9_1 (IntKind.i64.wrap (i11_1 + 1)) b0_0_1 b0_1_1 b0_2_1 b0_3_1 b0_4_1 b1_0_1 b1_1_1 b1_2_1 b1_3_1 b1_4_1) else r1 c3_1 in5_1 s8_1 n9_1 (IntKind.i64.wrap (i11_1 + 1)) b0_0_1 b0_1_1 b0_2_1 b0_3_1 b0_4_1 b1_0_1 b1_1_1 b1_2_1 b1_3_1 b1_4_1)) else (bif decide (n9_1 > 0) then some (n9_1, (b1_0_1, b1_1_1, b1_2_1, b1_3_1, b1_4_1, ()), ()) else (Option.bind (idx c3_1.1 s8_1) fun (v17 : Sta) => r0 c3_1 in5_1 v17.2.1 b0_0_1 b0_1_1 b0_2_1 b0_3_1 b0_4_1)))
def y5q (n : Nat) (r0 : Cha → List UInt8 × Int × Unit → Int → Int → List UInt8 → Int → Int → Int → Option (Int × Tra × Unit)) (k : Nat) (c3_1 : Cha) (in5_1 : List UInt8 × Int × Unit) (s8_1 : Int) (n9_1 : Int) (i11_1 : Int) (b0_0_1 : Int) (b0_1_1 : List UInt8) (b0_2_1 : Int) (b0_3_1 : Int) (b0_4_1 : Int) (b1_0_1 : Int) (b1_1_1 : List UInt8) (b1_2_1 : Int) (b1_3_1 : Int) (b1_4_1 : Int) : Option (Int × Tra × Unit) :=
  iter (fun r y => yDO n r0 (fun c3_1 in5_1 s8_1 n9_1 i11_1 b0_0_1 b0_1_1 b0_2_1 b0_3_1 b0_4_1 b1_0_1 b1_1_1 b1_2_1 b1_3_1 b1_4_1 => r ((c3_1, (in5_1, (s8_1, (n9_1, (i11_1, ()))))), (((b0_0_1, (b0_1_1, (b0_2_1, (b0_3_1, (b0_4_1, ()))))), ((b1_0_1, (b1_1_1, (b1_2_1, (b1_3_1, (b1_4_1, ()))))), ())), ()))) y.1.1 y.1.2.1 y.1.2.2.1 y.1.2.2.2.1 y.1.2.2.2.2.1 y.2.1.1.1 y.2.1.1.2.1 y.2.1.1.2.2.1 y.2.1.1.2.2.2.1 y.2.1.1.2.2.2.2.1 y.2.1.2.1.1 y.2.1.2.1.2.1 y.2.1.2.1.2.2.1 y.2.1.2.1.2.2.2.1 y.2.1.2.1.2.2.2.2.1) k ((c3_1, (in5_1, (s8_1, (n9_1, (i11_1, ()))))), (((b0_0_1, (b0_1_1, (b0_2_1, (b0_3_1, (b0_4_1, ()))))), ((b1_0_1, (b1_1_1, (b1_2_1, (b1_3_1, (b1_4_1, ()))))), ())), ()))
def yCy (n : Nat) (r0 : Cha → List UInt8 × Int × Unit → Int → Int → List UInt8 → Int → Int → Int → Option (Int × Tra × Unit)) (c3_0 : Cha) (in5_0 : List UInt8 × Int × Unit) (s8_0 : Int) (b0_0_0 : Int) (b0_1_0 : List UInt8) (b0_2_0 : Int) (b0_3_0 : Int) (b0_4_0 : Int) : Option (Int × Tra × Unit) :=
  (bif decide (s8_0 ≥ 0) then (y5q n r0 n (c3_0) (in5_0) (s8_0) ((0 : Int)) ((0 : Int)) (b0_0_0) (b0_1_0) (b0_2_0) (b0_3_0) (b0_4_0) ((0 : Int)) ([]) ((0 : Int)) ((0 : Int)) ((0 : Int))) else some ((0 : Int), ((0 : Int), [], (0 : Int), (0 : Int), (0 : Int), ()), ()))
def y67 (n : Nat)  (k : Nat) (c3_0 : Cha) (in5_0 : List UInt8 × Int × Unit) (s8_0 : Int) (b0_0_0 : Int) (b0_1_0 : List UInt8) (b0_2_0 : Int) (b0_3_0 : Int) (b0_4_0 : Int) : Option (Int × Tra × Unit) :=
  iter (fun r y => yCy n (fun c3_0 in5_0 s8_0 b0_0_0 b0_1_0 b0_2_0 b0_3_0 b0_4_0 => r ((c3_0, (in5_0, (s8_0, ()))), (((b0_0_0, (b0_1_0, (b0_2_0, (b0_3_0, (b0_4_0, ()))))), ()), ()))) y.1.1 y.1.2.1 y.1.2.2.1 y.2.1.1.1 y.2.1.1.2.1 y.2.1.1.2.2.1 y.2.1.1.2.2.2.1 y.2.1.1.2.2.2.2.1) k ((c3_0, (in5_0, (s8_0, ()))), (((b0_0_0, (b0_1_0, (b0_2_0, (b0_3_0, (b0_4_0, ()))))), ()), ()))
def yKP (n : Nat) (c : Cha) (leaf : Int) (p2 : List UInt8 × Int × Unit) : Option (Int × Tra × Unit) :=
  (y67 n n (c) (p2) (leaf) ((0 : Int)) ([]) ((0 : Int)) ((0 : Int)) ((0 : Int)))
theorem yR1 (n : Nat) (x : yN2.den) : runF yRz (yLg n) Tryz.f60 yN2 yPQ x = yKP n x.1 x.2.1 x.2.2.1 := by kernel_rfl
def y7v (c3_1 : Cha) (in5_1 : List UInt8 × Int × Unit) (s8_1 : Int) (b0_0_1 : Int) (b0_1_1 : List UInt8) (b0_2_1 : Int) (b0_3_1 : Int) (b0_4_1 : Int) (i11_1 : Int) (v2 : Tra) (n9_1 : Int) (b1_0_1 : Int) (b1_1_1 : List UInt8) (b1_2_1 : Int) (b1_3_1 : Int) (b1_4_1 : Int) : Option (((Int × Tra × Unit) ⊕ (Int)) ⊕ (Int × Int × List UInt8 × Int × Int × Int)) :=
  (bif v2.1 == s8_1 then (bif v2.2.1 == in5_1.1 then (bif yP IntKind.i64 Go.BinOp.and in5_1.2.1 v2.2.2.2.1 == v2.2.2.2.2.1 then (some (Sum.inr ((IntKind.i64.wrap (n9_1 + 1)), (v2.1), (v2.2.1), (v2.2.2.1), (v2.2.2.2.1), (v2.2.2.2.2.1)))) else (some (Sum.inr ((n9_1), (b1_0_1), (b1_1_1), (b1_2_1), (b1_3_1), (b1_4_1))))) else (some (Sum.inr ((n9_1), (b1_0_1), (b1_1_1), (b1_2_1), (b1_3_1), (b1_4_1))))) else (some (Sum.inr ((n9_1), (b1_0_1), (b1_1_1), (b1_2_1), (b1_3_1), (b1_4_1)))))
def y8W (c3_1 : Cha) (in5_1 : List UInt8 × Int × Unit) (s8_1 : Int) (b0_0_1 : Int) (b0_1_1 : List UInt8) (b0_2_1 : Int) (b0_3_1 : Int) (b0_4_1 : Int) (n9_1 : Int) (b1_0_1 : Int) (b1_1_1 : List UInt8) (b1_2_1 : Int) (b1_3_1 : Int) (b1_4_1 : Int) : Option ((Int × Tra × Unit) ⊕ (Int)) :=
  (bif decide (n9_1 > 0) then (some (Sum.inl ((n9_1, (b1_0_1, b1_1_1, b1_2_1, b1_3_1, b1_4_1, ()), ())))) else (Option.bind (idx c3_1.1 s8_1) fun (v17 : Sta) => (some (Sum.inr (v17.2.1)))))
theorem yC1 (n : Nat) (hn : big ≤ n)  (r0 : Cha → List UInt8 × Int × Unit → Int → Int → List UInt8 → Int → Int → Int → Option (Int × Tra × Unit)) (c3_1 : Cha) (in5_1 : List UInt8 × Int × Unit) (s8_1 : Int) (b0_0_1 : Int) (b0_1_1 : List UInt8) (b0_2_1 : Int) (b0_3_1 : Int) (b0_4_1 : Int) (n9_1 : Int) (b1_0_1 : Int) (b1_1_1 : List UInt8) (b1_2_1 : Int) (b1_3_1 : Int) (b1_4_1 : Int) (hx : List.length (c3_1.2.1) < lenMax) : LeF (elim some fun (s__ : (Int)) => r0 c3_1 in5_1 s__ b0_0_1 b0_1_1 b0_2_1 b0_3_1 b0_4_1) (yH (fun i__ e__ s__ => y7v c3_1 in5_1 s8_1 b0_0_1 b0_1_1 b0_2_1 b0_3_1 b0_4_1 i__ e__ s__.1 s__.2.1 s__.2.2.1 s__.2.2.2.1 s__.2.2.2.2.1 s__.2.2.2.2.2) (fun s__ => y8W c3_1 in5_1 s8_1 b0_0_1 b0_1_1 b0_2_1 b0_3_1 b0_4_1 s__.1 s__.2.1 s__.2.2.1 s__.2.2.2.1 s__.2.2.2.2.1 s__.2.2.2.2.2) 0 (c3_1.2.1) (n9_1, b1_0_1, b1_1_1, b1_2_1, b1_3_1, b1_4_1)) (y5q n r0 n c3_1 in5_1 s8_1 n9_1 0 b0_0_1 b0_1_1 b0_2_1 b0_3_1 b0_4_1 b1_0_1 b1_1_1 b1_2_1 b1_3_1 b1_4_1) := by
  refine yK (f := (elim some fun (s__ : (Int)) => r0 c3_1 in5_1 s__ b0_0_1 b0_1_1 b0_2_1 b0_3_1 b0_4_1)) (W := fun k__ i__ s__ => y5q n r0 k__ c3_1 in5_1 s8_1 s__.1 i__ b0_0_1 b0_1_1 b0_2_1 b0_3_1 b0_4_1 s__.2.1 s__.2.2.1 s__.2.2.2.1 s__.2.2.2.2.1 s__.2.2.2.2.2) (body := (fun i__ e__ s__ => y7v c3_1 in5_1 s8_1 b0_0_1 b0_1_1 b0_2_1 b0_3_1 b0_4_1 i__ e__ s__.1 s__.2.1 s__.2.2.1 s__.2.2.2.1 s__.2.2.2.2.1 s__.2.2.2.2.2)) (fin := (fun s__ => y8W c3_1 in5_1 s8_1 b0_0_1 b0_1_1 b0_2_1 b0_3_1 b0_4_1 s__.1 s__.2.1 s__.2.2.1 s__.2.2.2.1 s__.2.2.2.2.1 s__.2.2.2.2.2)) (fun k__ i__ s__ => ?_) hx (n9_1, b1_0_1, b1_1_1, b1_2_1, b1_3_1, b1_4_1) n (by unfold big at hn; unfold lenMax at hx; omega)
  show LeF _ _ (yDO n r0 (y5q n r0 k__) c3_1 in5_1 s8_1 s__.1 i__ b0_0_1 b0_1_1 b0_2_1 b0_3_1 b0_4_1 s__.2.1 s__.2.2.1 s__.2.2.2.1 s__.2.2.2.2.1 s__.2.2.2.2.2)
  exact y0 (y7 fun v2 => (y0 (y0 (y0 (y4 rfl) (y4 rfl)) (y4 rfl)) (y4 rfl))) (yu (y0 (y4 rfl) (y7 fun v17 => (y4 rfl))))
def yBZ (c3_0 : Cha) (in5_0 : List UInt8 × Int × Unit) (b0_0_0 : Int) (b0_1_0 : List UInt8) (b0_2_0 : Int) (b0_3_0 : Int) (b0_4_0 : Int) (s8_0 : Int) : Option ((Int × Tra × Unit) ⊕ (Int)) :=
  (bif decide (s8_0 ≥ 0) then (bif decide (List.length (c3_0.2.1) < lenMax) then yH (fun i__ e__ s__ => y7v (c3_0) (in5_0) (s8_0) (b0_0_0) (b0_1_0) (b0_2_0) (b0_3_0) (b0_4_0) i__ e__ s__.1 s__.2.1 s__.2.2.1 s__.2.2.2.1 s__.2.2.2.2.1 s__.2.2.2.2.2) (fun s__ => y8W (c3_0) (in5_0) (s8_0) (b0_0_0) (b0_1_0) (b0_2_0) (b0_3_0) (b0_4_0) s__.1 s__.2.1 s__.2.2.1 s__.2.2.2.1 s__.2.2.2.2.1 s__.2.2.2.2.2) 0 (c3_0.2.1) (((0 : Int)), ((0 : Int)), ([]), ((0 : Int)), ((0 : Int)), ((0 : Int))) else none) else (some (Sum.inl (((0 : Int), ((0 : Int), [], (0 : Int), (0 : Int), (0 : Int), ()), ())))))
theorem yCH (n : Nat) (hn : big ≤ n)  (c3_0 : Cha) (in5_0 : List UInt8 × Int × Unit) (b0_0_0 : Int) (b0_1_0 : List UInt8) (b0_2_0 : Int) (b0_3_0 : Int) (b0_4_0 : Int) (s8_0 : Int) : LeF some (y1N (fun s__ => yBZ c3_0 in5_0 b0_0_0 b0_1_0 b0_2_0 b0_3_0 b0_4_0 s__) wMax s8_0) (y67 n n c3_0 in5_0 s8_0 b0_0_0 b0_1_0 b0_2_0 b0_3_0 b0_4_0) := by
  refine y3Z (f := some) (W := fun k__ s__ => y67 n k__ c3_0 in5_0 s__ b0_0_0 b0_1_0 b0_2_0 b0_3_0 b0_4_0) (body := (fun s__ => yBZ c3_0 in5_0 b0_0_0 b0_1_0 b0_2_0 b0_3_0 b0_4_0 s__)) (fun k__ s__ => ?_) wMax n s8_0 (by unfold big at hn; unfold wMax; omega)
  show LeF _ _ (yCy n (y67 n k__) c3_0 in5_0 s__ b0_0_0 b0_1_0 b0_2_0 b0_3_0 b0_4_0)
  exact (y0 (yL fun hx => by apply yC1 n hn; exact hx) (y4 rfl))
def yBW (c : Cha) (leaf : Int) (p2 : List UInt8 × Int × Unit) : Option (Int × Tra × Unit) :=
  (y1N (fun s__ => yBZ (c) (p2) ((0 : Int)) ([]) ((0 : Int)) ((0 : Int)) ((0 : Int)) s__) wMax (leaf))
theorem yNC (c : Cha) (leaf : Int) (p2 : List UInt8 × Int × Unit) (y : Int × Tra × Unit) (h : yBW c leaf p2 = some y) : ∃ n, yKP n c leaf p2 = some y :=
  ⟨big, LeF.top (show LeF some (yBW c leaf p2) (yKP big c leaf p2) from (fun (n : Nat) (hn : big ≤ n) => show LeF some (yBW c leaf p2) (yKP n c leaf p2) from (by apply yCH n hn)) big (Nat.le_refl _)) h⟩
def z0N_e : Entry := { f := 60, args := yN2, ress := yPQ, m := fun x => yBW x.1 x.2.1 x.2.2.1 }
theorem yQT : FnOK Tryz.prog z0N_e := yS (g := yRz) (fn := Tryz.f60) yE yR eNil (by kernel_rfl) (by kernel_rfl) (by kernel_rfl) (fun x y h => let ⟨n, hn⟩ := yNC x.1 x.2.1 x.2.2.1 y h; ⟨yLg n, iNil, (yR1 n x).trans hn⟩)
abbrev zE_a : Ty := .pair t37 (.pair t119 .unit)
abbrev zE_r : Ty := .pair t131 .unit
def zE_g : G := { T := T, E := [], muts := [5], fz := [] }
def zE_k : List (List Nat) := [[1, 5, 8, 9, 10]]
def yPO (n : Nat) : Ann := { keep := zE_k, fuel := n, inl := [], deep := 0 }
def yH8 (n : Nat) (r0 : (Int × Unit → Option (Int × Unit)) → List Int → Int → Int → List Int → Option (List Int × Unit)) (of1_0 : Int × Unit → Option (Int × Unit)) (t8_0 : List Int) (t9_0 : Int) (t10_0 : Int) (c0_0 : List Int) : Option (List Int × Unit) :=
  (bif decide (t10_0 < t9_0) then (Option.bind (idx t8_0 t10_0) fun (v1 : Int) => (Option.bind (of1_0 (v1, ())) fun (v2 : Int × Unit) => (bif decide (c0_0.length + (1 : Nat) ≤ memMax) then r0 of1_0 t8_0 t9_0 (IntKind.i64.wrap (t10_0 + 1)) (c0_0 ++ [v2.1]) else none))) else some (c0_0, ()))
def y9m (n : Nat)  (k : Nat) (of1_0 : Int × Unit → Option (Int × Unit)) (t8_0 : List Int) (t9_0 : Int) (t10_0 : Int) (c0_0 : List Int) : Option (List Int × Unit) :=
  iter (fun r y => yH8 n (fun of1_0 t8_0 t9_0 t10_0 c0_0 => r ((of1_0, (t8_0, (t9_0, (t10_0, ())))), ((c0_0, ()), ()))) y.1.1 y.1.2.1 y.1.2.2.1 y.1.2.2.2.1 y.2.1.1) k ((of1_0, (t8_0, (t9_0, (t10_0, ())))), ((c0_0, ()), ()))
def zE_m (n : Nat) (l : List Int) (of : Int × Unit → Option (Int × Unit)) : Option (List Int × Unit) :=
  (y9m n n (of) (l) ((↑l.length : Int)) ((0 : Int)) ([]))
theorem ySb (n : Nat) (x : zE_a.den) : runF zE_g (yPO n) Tryz.f62 zE_a zE_r x = zE_m n x.1 x.2.1 := by kernel_rfl
def yLp (of1_0 : Int × Unit → Option (Int × Unit)) (t8_0 : List Int) (t10_0 : Int) (v1 : Int) (c0_0 : List Int) : Option ((List Int × Unit) ⊕ (List Int)) :=
  (Option.bind (of1_0 (v1, ())) fun (v2 : Int × Unit) => (bif decide (c0_0.length + (1 : Nat) ≤ memMax) then (some (Sum.inr (c0_0 ++ [v2.1]))) else none))
def yMU (of1_0 : Int × Unit → Option (Int × Unit)) (t8_0 : List Int) (c0_0 : List Int) : Option (List Int × Unit) :=
  (some ((c0_0, ())))
theorem yFz (n : Nat) (hn : big ≤ n)  (of1_0 : Int × Unit → Option (Int × Unit)) (t8_0 : List Int) (c0_0 : List Int) (hx : List.length (t8_0) < lenMax) : LeF some (yH (fun i__ e__ s__ => yLp of1_0 t8_0 i__ e__ s__) (fun s__ => yMU of1_0 t8_0 s__) 0 (t8_0) c0_0) (y9m n n of1_0 t8_0 (List.length (t8_0) : Int) 0 c0_0) := by
  refine yK (f := some) (W := fun k__ i__ s__ => y9m n k__ of1_0 t8_0 (List.length (t8_0) : Int) i__ s__) (body := (fun i__ e__ s__ => yLp of1_0 t8_0 i__ e__ s__)) (fin := (fun s__ => yMU of1_0 t8_0 s__)) (fun k__ i__ s__ => ?_) hx c0_0 n (by unfold big at hn; unfold lenMax at hx; omega)
  show LeF _ _ (yH8 n (y9m n k__) of1_0 t8_0 (List.length (t8_0) : Int) i__ s__)
  exact y0 (y7 fun v1 => (y7 fun v2 => (y0 (y4 rfl) y08))) (yu (y4 rfl))
def zE_M (l : List Int) (of : Int × Unit → Option (Int × Unit)) : Option (List Int × Unit) :=
  (bif decide (List.length (l) < lenMax) then yH (fun i__ e__ s__ => yLp (of) (l) i__ e__ s__) (fun s__ => yMU (of) (l) s__) 0 (l) ([]) else none)
theorem yQt (l : List Int) (of : Int × Unit → Option (Int × Unit)) (y : List Int × Unit) (h : zE_M l of = some y) : ∃ n, zE_m n l of = some y :=
  ⟨big, LeF.top (show LeF some (zE_M l of) (zE_m big l of) from (fun (n : Nat) (hn : big ≤ n) => show LeF some (zE_M l of) (zE_m n l of) from (yL fun hx => by apply yFz n hn; exact hx)) big (Nat.le_refl _)) h⟩
def zE_e : Entry := { f := 62, args := zE_a, ress := zE_r, m := fun x => zE_M x.1 x.2.1 }
theorem ySw : FnOK Tryz.prog zE_e := yS (g := zE_g) (fn := Tryz.f62) yE yR eNil (by kernel_rfl) (by kernel_rfl) (by kernel_rfl) (fun x y h => let ⟨n, hn⟩ := yQt x.1 x.2.1 y h; ⟨yPO n, iNil, (ySb n x).trans hn⟩)
abbrev zz_a : Ty := .pair t37 (.pair t134 .unit)
abbrev zz_r : Ty := .pair t37 .unit
def zz_g : G := { T := T, E := [], muts := [5], fz := [] }
def zz_k : List (List Nat) := [[1, 5, 8, 9, 10]]
def yO3 (n : Nat) : Ann := { keep := zz_k, fuel := n, inl := [], deep := 0 }
def yHC (n : Nat) (r0 : (Int × Unit → Option (Bool × Unit)) → List Int → Int → Int → List Int → Option (List Int × Unit)) (holds1_0 : Int × Unit → Option (Bool × Unit)) (t8_0 : List Int) (t9_0 : Int) (t10_0 : Int) (c0_0 : List Int) : Option (List Int × Unit) :=
  (bif decide (t10_0 < t9_0) then (Option.bind (idx t8_0 t10_0) fun (v1 : Int) => (Option.bind (holds1_0 (v1, ())) fun (v2 : Bool × Unit) => (bif v2.1 then (bif decide (c0_0.length + (1 : Nat) ≤ memMax) then r0 holds1_0 t8_0 t9_0 (IntKind.i64.wrap (t10_0 + 1)) (c0_0 ++ [v1]) else none) else r0 holds1_0 t8_0 t9_0 (IntKind.i64.wrap (t10_0 + 1)) c0_0))) else some (c0_0, ()))
def y9L (n : Nat)  (k : Nat) (holds1_0 : Int × Unit → Option (Bool × Unit)) (t8_0 : List Int) (t9_0 : Int) (t10_0 : Int) (c0_0 : List Int) : Option (List Int × Unit) :=
  iter (fun r y => yHC n (fun holds1_0 t8_0 t9_0 t10_0 c0_0 => r ((holds1_0, (t8_0, (t9_0, (t10_0, ())))), ((c0_0, ()), ()))) y.1.1 y.1.2.1 y.1.2.2.1 y.1.2.2.2.1 y.2.1.1) k ((holds1_0, (t8_0, (t9_0, (t10_0, ())))), ((c0_0, ()), ()))
def zz_m (n : Nat) (l : List Int) (holds : Int × Unit → Option (Bool × Unit)) : Option (List Int × Unit) :=
  (y9L n n (holds) (l) ((↑l.length : Int)) ((0 : Int)) ([]))
theorem yST (n : Nat) (x : zz_a.den) : runF zz_g (yO3 n) Tryz.f63 zz_a zz_r x = zz_m n x.1 x.2.1 := by kernel_rfl
def yMk (holds1_0 : Int × Unit → Option (Bool × Unit)) (t8_0 : List Int) (t10_0 : Int) (v1 : Int) (c0_0 : List Int) : Option ((List Int × Unit) ⊕ (List Int)) :=
  (Option.bind (holds1_0 (v1, ())) fun (v2 : Bool × Unit) => (bif v2.1 then (bif decide (c0_0.length + (1 : Nat) ≤ memMax) then (some (Sum.inr (c0_0 ++ [v1]))) else none) else (some (Sum.inr (c0_0)))))
def yLi (holds1_0 : Int × Unit → Option (Bool × Unit)) (t8_0 : List Int) (c0_0 : List Int) : Option (List Int × Unit) :=
  (some ((c0_0, ())))
theorem yEk (n : Nat) (hn : big ≤ n)  (holds1_0 : Int × Unit → Option (Bool × Unit)) (t8_0 : List Int) (c0_0 : List Int) (hx : List.length (t8_0) < lenMax) : LeF some (yH (fun i__ e__ s__ => yMk holds1_0 t8_0 i__ e__ s__) (fun s__ => yLi holds1_0 t8_0 s__) 0 (t8_0) c0_0) (y9L n n holds1_0 t8_0 (List.length (t8_0) : Int) 0 c0_0) := by
  refine yK (f := some) (W := fun k__ i__ s__ => y9L n k__ holds1_0 t8_0 (List.length (t8_0) : Int) i__ s__) (body := (fun i__ e__ s__ => yMk holds1_0 t8_0 i__ e__ s__)) (fin := (fun s__ => yLi holds1_0 t8_0 s__)) (fun k__ i__ s__ => ?_) hx c0_0 n (by unfold big at hn; unfold lenMax at hx; omega)
  show LeF _ _ (yHC n (y9L n k__) holds1_0 t8_0 (List.length (t8_0) : Int) i__ s__)
  exact y0 (y7 fun v1 => (y7 fun v2 => (y0 (y0 (y4 rfl) y08) (y4 rfl)))) (yu (y4 rfl))
def zz_M (l : List Int) (holds : Int × Unit → Option (Bool × Unit)) : Option (List Int × Unit) :=
  (bif decide (List.length (l) < lenMax) then yH (fun i__ e__ s__ => yMk (holds) (l) i__ e__ s__) (fun s__ => yLi (holds) (l) s__) 0 (l) ([]) else none)
theorem yPe (l : List Int) (holds : Int × Unit → Option (Bool × Unit)) (y : List Int × Unit) (h : zz_M l holds = some y) : ∃ n, zz_m n l holds = some y :=
  ⟨big, LeF.top (show LeF some (zz_M l holds) (zz_m big l holds) from (fun (n : Nat) (hn : big ≤ n) => show LeF some (zz_M l holds) (zz_m n l holds) from (yL fun hx => by apply yEk n hn; exact hx)) big (Nat.le_refl _)) h⟩
def zz_e : Entry := { f := 63, args := zz_a, ress := zz_r, m := fun x => zz_M x.1 x.2.1 }
theorem yT0 : FnOK Tryz.prog zz_e := yS (g := zz_g) (fn := Tryz.f63) yE yR eNil (by kernel_rfl) (by kernel_rfl) (by kernel_rfl) (fun x y h => let ⟨n, hn⟩ := yPe x.1 x.2.1 y h; ⟨yO3 n, iNil, (yST n x).trans hn⟩)
abbrev yMw : Ty := .pair t3 (.pair (.ref t3) .unit)
abbrev yQR : Ty := .pair t4 .unit
def yRw : G := { T := T, E := [], muts := [], fz := [] }
def ySn : List (List Nat) := []
def yLV (n : Nat) : Ann := { keep := ySn, fuel := n, inl := [], deep := 0 }
def yJG (n : Nat) (x1 : Int) (p1 : Int) : Option (Bool × Unit) :=
  some (x1 == p1, ())
theorem yR0 (n : Nat) (x : yMw.den) : runF yRw (yLV n) Tryz.f64 yMw yQR x = yJG n x.1 x.2.1 := by kernel_rfl
def z0G (x1 : Int) (p1 : Int) : (Bool × Unit) :=
  (x1 == p1, ())
abbrev yKM (x1 : Int) (p1 : Int) : Option (Bool × Unit) := some (z0G x1 p1)
theorem yMG (x1 : Int) (p1 : Int) (y : Bool × Unit) (h : yKM x1 p1 = some y) : ∃ n, yJG n x1 p1 = some y :=
  ⟨0, by rw [← h]; show yJG 0 x1 p1 = some (z0G x1 p1); unfold yJG z0G; first | rfl | (simp only [yI]; done) | (simp only [yI]; rfl)⟩
def z0G_e : Entry := { f := 64, args := yMw, ress := yQR, m := fun x => yKM x.1 x.2.1 }
theorem yRm : FnOK Tryz.prog z0G_e := yS (g := yRw) (fn := Tryz.f64) yE yR eNil (by kernel_rfl) (by kernel_rfl) (by kernel_rfl) (fun x y h => let ⟨n, hn⟩ := yMG x.1 x.2.1 y h; ⟨yLV n, iNil, (yR0 n x).trans hn⟩)
abbrev yN4 : Ty := .pair t3 .unit
abbrev yRT : Ty := .pair t111 .unit
def yRC : G := { T := T, E := [], muts := [], fz := [] }
def ySq : List (List Nat) := []
def yLU (n : Nat) : Ann := { keep := ySq, fuel := n, inl := [], deep := 0 }
def yKj (n : Nat) (n1 : Int) : Option (List Bool × Unit) :=
  some ([yP IntKind.i64 Go.BinOp.and n1 (1 : Int) != 0, yP IntKind.i64 Go.BinOp.and n1 (2 : Int) != 0, yP IntKind.i64 Go.BinOp.and n1 (4 : Int) != 0, yP IntKind.i64 Go.BinOp.and n1 (8 : Int) != 0], ())
theorem yRN (n : Nat) (x : yN4.den) : runF yRC (yLU n) Tryz.f47 yN4 yRT x = yKj n x.1 := by kernel_rfl
def z0H (n1 : Int) : (List Bool × Unit) :=
  ([yP IntKind.i64 Go.BinOp.and n1 (1 : Int) != 0, yP IntKind.i64 Go.BinOp.and n1 (2 : Int) != 0, yP IntKind.i64 Go.BinOp.and n1 (4 : Int) != 0, yP IntKind.i64 Go.BinOp.and n1 (8 : Int) != 0], ())
abbrev yQP (n1 : Int) : Option (List Bool × Unit) := some (z0H n1)
theorem yN7 (n1 : Int) (y : List Bool × Unit) (h : yQP n1 = some y) : ∃ n, yKj n n1 = some y :=
  ⟨0, by rw [← h]; show yKj 0 n1 = some (z0H n1); unfold yKj z0H; first | rfl | (simp only [yI]; done) | (simp only [yI]; rfl)⟩
def z0H_e : Entry := { f := 47, args := yN4, ress := yRT, m := fun x => yQP x.1 }
theorem yLF : FnOK Tryz.prog z0H_e := yS (g := yRC) (fn := Tryz.f47) yE yR eNil (by kernel_rfl) (by kernel_rfl) (by kernel_rfl) (fun x y h => let ⟨n, hn⟩ := yN7 x.1 y h; ⟨yLU n, iNil, (yRN n x).trans hn⟩)
abbrev zy_a : Ty := .pair t3 .unit
abbrev zy_r : Ty := .pair t68 .unit
def zy_g : G := { T := T, E := [], muts := [7], fz := [] }
def zy_k : List (List Nat) := [[3, 8, 9], [3, 4, 8, 9, 17]]
def yPb (n : Nat) : Ann := { keep := zy_k, fuel := n, inl := [], deep := 0 }
def yHX (n : Nat) (r0 : Int → Int → List Fai → Option (List Fai × Unit)) (r1 : Int → Int → Int → Int → List Fai → Option (List Fai × Unit)) (at4_1 : Int) (t8_1 : Int) (t9_1 : Int) (t17_1 : Int) (c0_1 : List Fai) : Option (List Fai × Unit) :=
  (bif decide (t17_1 < 8) then (bif decide (c0_1.length + (1 : Nat) ≤ memMax) then r1 at4_1 t8_1 t9_1 (IntKind.i64.wrap (t17_1 + 1)) (c0_1 ++ [([(115 : UInt8), 116, 117, 99, 107], at4_1, IntKind.i64.wrap (t17_1.tdiv (2 : Int)), t17_1.tmod (2 : Int), ())]) else none) else r0 t8_1 (IntKind.i64.wrap (t9_1 + 1)) c0_1)
def y9C (n : Nat) (r0 : Int → Int → List Fai → Option (List Fai × Unit)) (k : Nat) (at4_1 : Int) (t8_1 : Int) (t9_1 : Int) (t17_1 : Int) (c0_1 : List Fai) : Option (List Fai × Unit) :=
  iter (fun r y => yHX n r0 (fun at4_1 t8_1 t9_1 t17_1 c0_1 => r ((at4_1, (t8_1, (t9_1, (t17_1, ())))), ((c0_1, ()), ()))) y.1.1 y.1.2.1 y.1.2.2.1 y.1.2.2.2.1 y.2.1.1) k ((at4_1, (t8_1, (t9_1, (t17_1, ())))), ((c0_1, ()), ()))
def yIl (n : Nat) (r0 : Int → Int → List Fai → Option (List Fai × Unit)) (t8_0 : Int) (t9_0 : Int) (c0_0 : List Fai) : Option (List Fai × Unit) :=
  (bif decide (t9_0 < t8_0) then (bif decide (c0_0.length + (1 : Nat) ≤ memMax) then (y9C n r0 n (t9_0) (t8_0) (t9_0) ((0 : Int)) (c0_0 ++ [([(108 : UInt8), 111, 115, 116], t9_0, (0 : Int), (0 : Int), ())])) else none) else some (c0_0, ()))
def y9f (n : Nat)  (k : Nat) (t8_0 : Int) (t9_0 : Int) (c0_0 : List Fai) : Option (List Fai × Unit) :=
  iter (fun r y => yIl n (fun t8_0 t9_0 c0_0 => r ((t8_0, (t9_0, ())), ((c0_0, ()), ()))) y.1.1 y.1.2.1 y.2.1.1) k ((t8_0, (t9_0, ())), ((c0_0, ()), ()))
def zy_m (n : Nat) (y0y : Int) : Option (List Fai × Unit) :=
  (y9f n n (y0y) ((0 : Int)) ([([(110 : UInt8), 111, 110, 101], (0 : Int), (0 : Int), (0 : Int), ())]))
theorem yTM (n : Nat) (x : zy_a.den) : runF zy_g (yPb n) Tryz.f52 zy_a zy_r x = zy_m n x.1 := by kernel_rfl
def yGO (at4_1 : Int) (t8_1 : Int) (t9_1 : Int) (t17_1 : Int) (c0_1 : List Fai) : Option (((List Fai × Unit) ⊕ (List Fai)) ⊕ (List Fai)) :=
  (bif decide (c0_1.length + (1 : Nat) ≤ memMax) then (some (Sum.inr (c0_1 ++ [([(115 : UInt8), 116, 117, 99, 107], at4_1, IntKind.i64.wrap (t17_1.tdiv (2 : Int)), t17_1.tmod (2 : Int), ())]))) else none)
def yK3 (at4_1 : Int) (t8_1 : Int) (t9_1 : Int) (c0_1 : List Fai) : Option ((List Fai × Unit) ⊕ (List Fai)) :=
  (some (Sum.inr (c0_1)))
theorem yFs (n : Nat) (hn : big ≤ n)  (r0 : Int → Int → List Fai → Option (List Fai × Unit)) (at4_1 : Int) (t8_1 : Int) (t9_1 : Int) (c0_1 : List Fai) (hx : ((8 : Int)) ≤ 9223372036854775807) : LeF (elim some fun (s__ : (List Fai)) => r0 t8_1 (IntKind.i64.wrap (t9_1 + 1)) s__) (yy (fun i__ s__ => yGO at4_1 t8_1 t9_1 i__ s__) (fun s__ => yK3 at4_1 t8_1 t9_1 s__) (((8 : Int)) - 0).toNat 0 c0_1) (y9C n r0 n at4_1 t8_1 t9_1 0 c0_1) := by
  refine y1Q (f := (elim some fun (s__ : (List Fai)) => r0 t8_1 (IntKind.i64.wrap (t9_1 + 1)) s__)) (W := fun k__ i__ s__ => y9C n r0 k__ at4_1 t8_1 t9_1 i__ s__) (body := (fun i__ s__ => yGO at4_1 t8_1 t9_1 i__ s__)) (fin := (fun s__ => yK3 at4_1 t8_1 t9_1 s__)) (fun k__ i__ s__ => ?_) hx c0_1 n 0 (by decide) (by unfold big at hn; omega)
  show LeF _ _ (yHX n r0 (y9C n r0 k__) at4_1 t8_1 t9_1 i__ s__)
  exact y0 (y0 (y4 rfl) y08) (yu (y4 rfl))
def yFD (t8_0 : Int) (t9_0 : Int) (c0_0 : List Fai) : Option ((List Fai × Unit) ⊕ (List Fai)) :=
  (bif decide (c0_0.length + (1 : Nat) ≤ memMax) then (bif decide (((8 : Int)) ≤ 9223372036854775807) then yy (fun i__ s__ => yGO (t9_0) (t8_0) (t9_0) i__ s__) (fun s__ => yK3 (t9_0) (t8_0) (t9_0) s__) (((8 : Int)) - 0).toNat 0 (c0_0 ++ [([(108 : UInt8), 111, 115, 116], t9_0, (0 : Int), (0 : Int), ())]) else none) else none)
def yGt (t8_0 : Int) (c0_0 : List Fai) : Option (List Fai × Unit) :=
  (some ((c0_0, ())))
theorem yFG (n : Nat) (hn : big ≤ n)  (t8_0 : Int) (c0_0 : List Fai) (hx : (t8_0) ≤ 9223372036854775807) : LeF some (yy (fun i__ s__ => yFD t8_0 i__ s__) (fun s__ => yGt t8_0 s__) ((t8_0) - 0).toNat 0 c0_0) (y9f n n t8_0 0 c0_0) := by
  refine y1Q (f := some) (W := fun k__ i__ s__ => y9f n k__ t8_0 i__ s__) (body := (fun i__ s__ => yFD t8_0 i__ s__)) (fin := (fun s__ => yGt t8_0 s__)) (fun k__ i__ s__ => ?_) hx c0_0 n 0 (by decide) (by unfold big at hn; omega)
  show LeF _ _ (yIl n (y9f n k__) t8_0 i__ s__)
  exact y0 (y0 (yL fun hx => by apply yFs n hn; exact hx) y08) (yu (y4 rfl))
def zy_M (y0y : Int) : Option (List Fai × Unit) :=
  (bif decide ((y0y) ≤ 9223372036854775807) then yy (fun i__ s__ => yFD (y0y) i__ s__) (fun s__ => yGt (y0y) s__) ((y0y) - 0).toNat 0 ([([(110 : UInt8), 111, 110, 101], (0 : Int), (0 : Int), (0 : Int), ())]) else none)
theorem yRB (y0y : Int) (y : List Fai × Unit) (h : zy_M y0y = some y) : ∃ n, zy_m n y0y = some y :=
  ⟨big, LeF.top (show LeF some (zy_M y0y) (zy_m big y0y) from (fun (n : Nat) (hn : big ≤ n) => show LeF some (zy_M y0y) (zy_m n y0y) from (yL fun hx => by apply yFG n hn; exact hx)) big (Nat.le_refl _)) h⟩
def zy_e : Entry := { f := 52, args := zy_a, ress := zy_r, m := fun x => zy_M x.1 }
theorem ySV : FnOK Tryz.prog zy_e := yS (g := zy_g) (fn := Tryz.f52) yE yR eNil (by kernel_rfl) (by kernel_rfl) (by kernel_rfl) (fun x y h => let ⟨n, hn⟩ := yRB x.1 y h; ⟨yPb n, iNil, (yTM n x).trans hn⟩)
abbrev yMY : Ty := .pair t9 .unit
abbrev yO8 : Ty := .pair t4 .unit
def yRr : G := { T := T, E := [], muts := [], fz := [] }
def ySF : List (List Nat) := [[0, 3]]
def yLc (n : Nat) : Ann := { keep := ySF, fuel := n, inl := [], deep := 0 }
def y3W (n : Nat) (r2 : List UInt8 → Int → Option (Bool × Unit)) (s0_2 : List UInt8) (i3_2 : Int) (v3 : UInt8) : Option (Bool × Unit) :=
  (bif i3_2 == 0 then some (Bool.false, ()) else (bif (↑v3.toNat : Int) != 95 then (bif decide ((↑v3.toNat : Int) < 48) then some (Bool.false, ()) else (bif decide ((↑v3.toNat : Int) > 57) then some (Bool.false, ()) else r2 s0_2 (IntKind.i64.wrap (i3_2 + 1)))) else r2 s0_2 (IntKind.i64.wrap (i3_2 + 1))))
def yD6 (n : Nat) (r2 : List UInt8 → Int → Option (Bool × Unit)) (s0_2 : List UInt8) (i3_2 : Int) : Option (Bool × Unit) :=
  (bif decide (i3_2 < (↑s0_2.length : Int)) then (Option.bind (idx s0_2 i3_2) fun (v3 : UInt8) => (bif decide ((↑v3.toNat : Int) ≥ 97) then (bif decide ((↑v3.toNat : Int) ≤ 122) then r2 s0_2 (IntKind.i64.wrap (i3_2 + 1)) else (bif decide ((↑v3.toNat : Int) ≥ 65) then (bif decide ((↑v3.toNat : Int) ≤ 90) then r2 s0_2 (IntKind.i64.wrap (i3_2 + 1)) else (y3W n r2 s0_2 i3_2 v3)) else (y3W n r2 s0_2 i3_2 v3))) else (bif decide ((↑v3.toNat : Int) ≥ 65) then (bif decide ((↑v3.toNat : Int) ≤ 90) then r2 s0_2 (IntKind.i64.wrap (i3_2 + 1)) else (y3W n r2 s0_2 i3_2 v3)) else (y3W n r2 s0_2 i3_2 v3)))) else some (Bool.true, ()))
def y5s (n : Nat)  (k : Nat) (s0_2 : List UInt8) (i3_2 : Int) : Option (Bool × Unit) :=
  iter (fun r y => yD6 n (fun s0_2 i3_2 => r ((s0_2, (i3_2, ())), ((), ()))) y.1.1 y.1.2.1) k ((s0_2, (i3_2, ())), ((), ()))
def yKV (n : Nat) (s : List UInt8) : Option (Bool × Unit) :=
  (bif (↑s.length : Int) == 0 then some (Bool.false, ()) else (bif decide ((↑s.length : Int) > 24) then some (Bool.false, ()) else (y5s n n (s) ((0 : Int)))))
theorem yO1 (n : Nat) (x : yMY.den) : runF yRr (yLc n) Tryz.f58 yMY yO8 x = yKV n x.1 := by kernel_rfl
def y5B (s0_2 : List UInt8) (i3_2 : Int) (v3 : UInt8) : Option ((Bool × Unit) ⊕ Unit) :=
  (bif i3_2 == 0 then (some (Sum.inl ((Bool.false, ())))) else (bif (↑v3.toNat : Int) != 95 then (bif decide ((↑v3.toNat : Int) < 48) then (some (Sum.inl ((Bool.false, ())))) else (bif decide ((↑v3.toNat : Int) > 57) then (some (Sum.inl ((Bool.false, ())))) else (some (Sum.inr ())))) else (some (Sum.inr ()))))
theorem y0L (n : Nat) (hn : big ≤ n)  (r2 : List UInt8 → Int → Option (Bool × Unit)) (s0_2 : List UInt8) (i3_2 : Int) (v3 : UInt8) : LeF (elim some fun (s__ : Unit) => r2 s0_2 (IntKind.i64.wrap (i3_2 + 1))) (y5B s0_2 i3_2 v3) (y3W n r2 s0_2 i3_2 v3) :=
  (y0 (y4 rfl) (y0 (y0 (y4 rfl) (y0 (y4 rfl) (y4 rfl))) (y4 rfl)))
def y7j (s0_2 : List UInt8) (i3_2 : Int) (v3 : UInt8) : Option ((Bool × Unit) ⊕ Unit) :=
  (bif decide ((↑v3.toNat : Int) ≥ 97) then (bif decide ((↑v3.toNat : Int) ≤ 122) then (some (Sum.inr ())) else (bif decide ((↑v3.toNat : Int) ≥ 65) then (bif decide ((↑v3.toNat : Int) ≤ 90) then (some (Sum.inr ())) else (y5B s0_2 i3_2 v3)) else (y5B s0_2 i3_2 v3))) else (bif decide ((↑v3.toNat : Int) ≥ 65) then (bif decide ((↑v3.toNat : Int) ≤ 90) then (some (Sum.inr ())) else (y5B s0_2 i3_2 v3)) else (y5B s0_2 i3_2 v3)))
def yCq (s0_2 : List UInt8) : Option (Bool × Unit) :=
  (some ((Bool.true, ())))
theorem yCh (n : Nat) (hn : big ≤ n)  (s0_2 : List UInt8) (hx : List.length (s0_2) < lenMax) : LeF some (yH (fun i__ e__ s__ => y7j s0_2 i__ e__) (fun s__ => yCq s0_2) 0 (s0_2) ()) (y5s n n s0_2 0) := by
  refine yK (f := some) (W := fun k__ i__ s__ => y5s n k__ s0_2 i__) (body := (fun i__ e__ s__ => y7j s0_2 i__ e__)) (fin := (fun s__ => yCq s0_2)) (fun k__ i__ s__ => ?_) hx () n (by unfold big at hn; unfold lenMax at hx; omega)
  show LeF _ _ (yD6 n (y5s n k__) s0_2 i__)
  exact y0 (y7 fun v3 => (y0 (y0 (y4 rfl) (y0 (y0 (y4 rfl) (by apply y0L n hn)) (by apply y0L n hn))) (y0 (y0 (y4 rfl) (by apply y0L n hn)) (by apply y0L n hn)))) (yu (y4 rfl))
def yCT (s : List UInt8) : Option (Bool × Unit) :=
  (bif (↑s.length : Int) == 0 then (some ((Bool.false, ()))) else (bif decide ((↑s.length : Int) > 24) then (some ((Bool.false, ()))) else (bif decide (List.length (s) < lenMax) then yH (fun i__ e__ s__ => y7j (s) i__ e__) (fun s__ => yCq (s)) 0 (s) () else none)))
theorem yNJ (s : List UInt8) (y : Bool × Unit) (h : yCT s = some y) : ∃ n, yKV n s = some y :=
  ⟨big, LeF.top (show LeF some (yCT s) (yKV big s) from (fun (n : Nat) (hn : big ≤ n) => show LeF some (yCT s) (yKV n s) from (y0 (y4 rfl) (y0 (y4 rfl) (yL fun hx => by apply yCh n hn; exact hx)))) big (Nat.le_refl _)) h⟩
def z0B_e : Entry := { f := 58, args := yMY, ress := yO8, m := fun x => yCT x.1 }
theorem yQK : FnOK Tryz.prog z0B_e := yS (g := yRr) (fn := Tryz.f58) yE yR eNil (by kernel_rfl) (by kernel_rfl) (by kernel_rfl) (fun x y h => let ⟨n, hn⟩ := yNJ x.1 y h; ⟨yLc n, iNil, (yO1 n x).trans hn⟩)
abbrev zD_a : Ty := .pair t54 (.pair t167 .unit)
abbrev zD_r : Ty := .pair t54 .unit
def zD_g : G := { T := T, E := [], muts := [5], fz := [] }
def zD_k : List (List Nat) := [[1, 5, 8, 9, 10]]
def yQM (n : Nat) : Ann := { keep := zD_k, fuel := n, inl := [], deep := 0 }
def yII (n : Nat) (r0 : (Tra × Unit → Option (Bool × Unit)) → List Tra → Int → Int → List Tra → Option (List Tra × Unit)) (holds1_0 : Tra × Unit → Option (Bool × Unit)) (t8_0 : List Tra) (t9_0 : Int) (t10_0 : Int) (c0_0 : List Tra) : Option (List Tra × Unit) :=
  (bif decide (t10_0 < t9_0) then (Option.bind (idx t8_0 t10_0) fun (v1 : Tra) => (Option.bind (holds1_0 ((v1.1, v1.2.1, v1.2.2.1, v1.2.2.2.1, v1.2.2.2.2.1, ()), ())) fun (v2 : Bool × Unit) => (bif v2.1 then (bif decide (c0_0.length + (1 : Nat) ≤ memMax) then r0 holds1_0 t8_0 t9_0 (IntKind.i64.wrap (t10_0 + 1)) (c0_0 ++ [(v1.1, v1.2.1, v1.2.2.1, v1.2.2.2.1, v1.2.2.2.2.1, ())]) else none) else r0 holds1_0 t8_0 t9_0 (IntKind.i64.wrap (t10_0 + 1)) c0_0))) else some (c0_0, ()))
def y9x (n : Nat)  (k : Nat) (holds1_0 : Tra × Unit → Option (Bool × Unit)) (t8_0 : List Tra) (t9_0 : Int) (t10_0 : Int) (c0_0 : List Tra) : Option (List Tra × Unit) :=
  iter (fun r y => yII n (fun holds1_0 t8_0 t9_0 t10_0 c0_0 => r ((holds1_0, (t8_0, (t9_0, (t10_0, ())))), ((c0_0, ()), ()))) y.1.1 y.1.2.1 y.1.2.2.1 y.1.2.2.2.1 y.2.1.1) k ((holds1_0, (t8_0, (t9_0, (t10_0, ())))), ((c0_0, ()), ()))
def zD_m (n : Nat) (l : List Tra) (holds : Tra × Unit → Option (Bool × Unit)) : Option (List Tra × Unit) :=
  (y9x n n (holds) (l) ((↑l.length : Int)) ((0 : Int)) ([]))
theorem yT2 (n : Nat) (x : zD_a.den) : runF zD_g (yQM n) Tryz.f88 zD_a zD_r x = zD_m n x.1 x.2.1 := by kernel_rfl
def yK4 (holds1_0 : Tra × Unit → Option (Bool × Unit)) (t8_0 : List Tra) (t10_0 : Int) (v1 : Tra) (c0_0 : List Tra) : Option ((List Tra × Unit) ⊕ (List Tra)) :=
  (Option.bind (holds1_0 ((v1.1, v1.2.1, v1.2.2.1, v1.2.2.2.1, v1.2.2.2.2.1, ()), ())) fun (v2 : Bool × Unit) => (bif v2.1 then (bif decide (c0_0.length + (1 : Nat) ≤ memMax) then (some (Sum.inr (c0_0 ++ [(v1.1, v1.2.1, v1.2.2.1, v1.2.2.2.1, v1.2.2.2.2.1, ())]))) else none) else (some (Sum.inr (c0_0)))))
def yMQ (holds1_0 : Tra × Unit → Option (Bool × Unit)) (t8_0 : List Tra) (c0_0 : List Tra) : Option (List Tra × Unit) :=
  (some ((c0_0, ())))
theorem yES (n : Nat) (hn : big ≤ n)  (holds1_0 : Tra × Unit → Option (Bool × Unit)) (t8_0 : List Tra) (c0_0 : List Tra) (hx : List.length (t8_0) < lenMax) : LeF some (yH (fun i__ e__ s__ => yK4 holds1_0 t8_0 i__ e__ s__) (fun s__ => yMQ holds1_0 t8_0 s__) 0 (t8_0) c0_0) (y9x n n holds1_0 t8_0 (List.length (t8_0) : Int) 0 c0_0) := by
  refine yK (f := some) (W := fun k__ i__ s__ => y9x n k__ holds1_0 t8_0 (List.length (t8_0) : Int) i__ s__) (body := (fun i__ e__ s__ => yK4 holds1_0 t8_0 i__ e__ s__)) (fin := (fun s__ => yMQ holds1_0 t8_0 s__)) (fun k__ i__ s__ => ?_) hx c0_0 n (by unfold big at hn; unfold lenMax at hx; omega)
  show LeF _ _ (yII n (y9x n k__) holds1_0 t8_0 (List.length (t8_0) : Int) i__ s__)
  exact y0 (y7 fun v1 => (y7 fun v2 => (y0 (y0 (y4 rfl) y08) (y4 rfl)))) (yu (y4 rfl))
def zD_M (l : List Tra) (holds : Tra × Unit → Option (Bool × Unit)) : Option (List Tra × Unit) :=
  (bif decide (List.length (l) < lenMax) then yH (fun i__ e__ s__ => yK4 (holds) (l) i__ e__ s__) (fun s__ => yMQ (holds) (l) s__) 0 (l) ([]) else none)
theorem yPE (l : List Tra) (holds : Tra × Unit → Option (Bool × Unit)) (y : List Tra × Unit) (h : zD_M l holds = some y) : ∃ n, zD_m n l holds = some y :=
  ⟨big, LeF.top (show LeF some (zD_M l holds) (zD_m big l holds) from (fun (n : Nat) (hn : big ≤ n) => show LeF some (zD_M l holds) (zD_m n l holds) from (yL fun hx => by apply yES n hn; exact hx)) big (Nat.le_refl _)) h⟩
def zD_e : Entry := { f := 88, args := zD_a, ress := zD_r, m := fun x => zD_M x.1 x.2.1 }
theorem yTR : FnOK Tryz.prog zD_e := yS (g := zD_g) (fn := Tryz.f88) yE yR eNil (by kernel_rfl) (by kernel_rfl) (by kernel_rfl) (fun x y h => let ⟨n, hn⟩ := yPE x.1 x.2.1 y h; ⟨yQM n, iNil, (yT2 n x).trans hn⟩)
abbrev z8_a : Ty := .pair t50 (.pair t140 .unit)
abbrev z8_r : Ty := .pair t131 .unit
def z8_g : G := { T := T, E := [], muts := [5], fz := [] }
def z8_k : List (List Nat) := [[1, 5, 8, 9, 10]]
def yRP (n : Nat) : Ann := { keep := z8_k, fuel := n, inl := [], deep := 0 }
def yI1 (n : Nat) (r0 : ((List UInt8 × Int × Unit) × Unit → Option (Int × Unit)) → List (List UInt8 × Int × Unit) → Int → Int → List Int → Option (List Int × Unit)) (of1_0 : (List UInt8 × Int × Unit) × Unit → Option (Int × Unit)) (t8_0 : List (List UInt8 × Int × Unit)) (t9_0 : Int) (t10_0 : Int) (c0_0 : List Int) : Option (List Int × Unit) :=
  (bif decide (t10_0 < t9_0) then (Option.bind (idx t8_0 t10_0) fun (v1 : List UInt8 × Int × Unit) => (Option.bind (of1_0 ((v1.1, v1.2.1, ()), ())) fun (v2 : Int × Unit) => (bif decide (c0_0.length + (1 : Nat) ≤ memMax) then r0 of1_0 t8_0 t9_0 (IntKind.i64.wrap (t10_0 + 1)) (c0_0 ++ [v2.1]) else none))) else some (c0_0, ()))
def y9i (n : Nat)  (k : Nat) (of1_0 : (List UInt8 × Int × Unit) × Unit → Option (Int × Unit)) (t8_0 : List (List UInt8 × Int × Unit)) (t9_0 : Int) (t10_0 : Int) (c0_0 : List Int) : Option (List Int × Unit) :=
  iter (fun r y => yI1 n (fun of1_0 t8_0 t9_0 t10_0 c0_0 => r ((of1_0, (t8_0, (t9_0, (t10_0, ())))), ((c0_0, ()), ()))) y.1.1 y.1.2.1 y.1.2.2.1 y.1.2.2.2.1 y.2.1.1) k ((of1_0, (t8_0, (t9_0, (t10_0, ())))), ((c0_0, ()), ()))
def z8_m (n : Nat) (l : List (List UInt8 × Int × Unit)) (of : (List UInt8 × Int × Unit) × Unit → Option (Int × Unit)) : Option (List Int × Unit) :=
  (y9i n n (of) (l) ((↑l.length : Int)) ((0 : Int)) ([]))
theorem ySL (n : Nat) (x : z8_a.den) : runF z8_g (yRP n) Tryz.f71 z8_a z8_r x = z8_m n x.1 x.2.1 := by kernel_rfl
def yKe (of1_0 : (List UInt8 × Int × Unit) × Unit → Option (Int × Unit)) (t8_0 : List (List UInt8 × Int × Unit)) (t10_0 : Int) (v1 : List UInt8 × Int × Unit) (c0_0 : List Int) : Option ((List Int × Unit) ⊕ (List Int)) :=
  (Option.bind (of1_0 ((v1.1, v1.2.1, ()), ())) fun (v2 : Int × Unit) => (bif decide (c0_0.length + (1 : Nat) ≤ memMax) then (some (Sum.inr (c0_0 ++ [v2.1]))) else none))
def yLq (of1_0 : (List UInt8 × Int × Unit) × Unit → Option (Int × Unit)) (t8_0 : List (List UInt8 × Int × Unit)) (c0_0 : List Int) : Option (List Int × Unit) :=
  (some ((c0_0, ())))
theorem yEX (n : Nat) (hn : big ≤ n)  (of1_0 : (List UInt8 × Int × Unit) × Unit → Option (Int × Unit)) (t8_0 : List (List UInt8 × Int × Unit)) (c0_0 : List Int) (hx : List.length (t8_0) < lenMax) : LeF some (yH (fun i__ e__ s__ => yKe of1_0 t8_0 i__ e__ s__) (fun s__ => yLq of1_0 t8_0 s__) 0 (t8_0) c0_0) (y9i n n of1_0 t8_0 (List.length (t8_0) : Int) 0 c0_0) := by
  refine yK (f := some) (W := fun k__ i__ s__ => y9i n k__ of1_0 t8_0 (List.length (t8_0) : Int) i__ s__) (body := (fun i__ e__ s__ => yKe of1_0 t8_0 i__ e__ s__)) (fin := (fun s__ => yLq of1_0 t8_0 s__)) (fun k__ i__ s__ => ?_) hx c0_0 n (by unfold big at hn; unfold lenMax at hx; omega)
  show LeF _ _ (yI1 n (y9i n k__) of1_0 t8_0 (List.length (t8_0) : Int) i__ s__)
  exact y0 (y7 fun v1 => (y7 fun v2 => (y0 (y4 rfl) y08))) (yu (y4 rfl))
def z8_M (l : List (List UInt8 × Int × Unit)) (of : (List UInt8 × Int × Unit) × Unit → Option (Int × Unit)) : Option (List Int × Unit) :=
  (bif decide (List.length (l) < lenMax) then yH (fun i__ e__ s__ => yKe (of) (l) i__ e__ s__) (fun s__ => yLq (of) (l) s__) 0 (l) ([]) else none)
theorem yPK (l : List (List UInt8 × Int × Unit)) (of : (List UInt8 × Int × Unit) × Unit → Option (Int × Unit)) (y : List Int × Unit) (h : z8_M l of = some y) : ∃ n, z8_m n l of = some y :=
  ⟨big, LeF.top (show LeF some (z8_M l of) (z8_m big l of) from (fun (n : Nat) (hn : big ≤ n) => show LeF some (z8_M l of) (z8_m n l of) from (yL fun hx => by apply yEX n hn; exact hx)) big (Nat.le_refl _)) h⟩
def z8_e : Entry := { f := 71, args := z8_a, ress := z8_r, m := fun x => z8_M x.1 x.2.1 }
theorem yS9 : FnOK Tryz.prog z8_e := yS (g := z8_g) (fn := Tryz.f71) yE yR eNil (by kernel_rfl) (by kernel_rfl) (by kernel_rfl) (fun x y h => let ⟨n, hn⟩ := yPK x.1 x.2.1 y h; ⟨yRP n, iNil, (ySL n x).trans hn⟩)
abbrev zJ_a : Ty := .pair t124 .unit
abbrev zJ_r : Ty := .pair t3 .unit
def zJ_g : G := { T := T, E := [], muts := [], fz := [] }
def zJ_k : List (List Nat) := []
def yQj (n : Nat) : Ann := { keep := zJ_k, fuel := n, inl := [], deep := 0 }
def zJ_m (n : Nat) (p : Pth) : Option (Int × Unit) :=
  some (p.1, ())
theorem ySP (n : Nat) (x : zJ_a.den) : runF zJ_g (yQj n) Tryz.f77 zJ_a zJ_r x = zJ_m n x.1 := by kernel_rfl
def zJ (p : Pth) : (Int × Unit) :=
  (p.1, ())
abbrev zJ_M (p : Pth) : Option (Int × Unit) := some (zJ p)
theorem yOb (p : Pth) (y : Int × Unit) (h : zJ_M p = some y) : ∃ n, zJ_m n p = some y :=
  ⟨0, by rw [← h]; show zJ_m 0 p = some (zJ p); unfold zJ_m zJ; first | rfl | (simp only [yI]; done) | (simp only [yI]; rfl)⟩
def zJ_e : Entry := { f := 77, args := zJ_a, ress := zJ_r, m := fun x => zJ_M x.1 }
theorem ySU : FnOK Tryz.prog zJ_e := yS (g := zJ_g) (fn := Tryz.f77) yE yR eNil (by kernel_rfl) (by kernel_rfl) (by kernel_rfl) (fun x y h => let ⟨n, hn⟩ := yOb x.1 y h; ⟨yQj n, iNil, (ySP n x).trans hn⟩)
abbrev zH_a : Ty := .pair t3 (.pair (.ref t56) .unit)
abbrev zH_r : Ty := .pair t4 .unit
def zH_g : G := { T := T, E := [], muts := [], fz := [] }
def zH_k : List (List Nat) := []
def yPc (n : Nat) : Ann := { keep := zH_k, fuel := n, inl := [], deep := 0 }
def zH_m (n : Nat) (s : Int) (p1 : Cha) : Option (Bool × Unit) :=
  (bif decide (s < 0) then some (Bool.true, ()) else some (decide (s ≥ (↑p1.1.length : Int)), ()))
theorem ySg (n : Nat) (x : zH_a.den) : runF zH_g (yPc n) Tryz.f80 zH_a zH_r x = zH_m n x.1 x.2.1 := by kernel_rfl
def zH (s : Int) (p1 : Cha) : (Bool × Unit) :=
  (bif decide (s < 0) then (Bool.true, ()) else (decide (s ≥ (↑p1.1.length : Int)), ()))
abbrev zH_M (s : Int) (p1 : Cha) : Option (Bool × Unit) := some (zH s p1)
theorem yO2 (s : Int) (p1 : Cha) (y : Bool × Unit) (h : zH_M s p1 = some y) : ∃ n, zH_m n s p1 = some y :=
  ⟨0, by rw [← h]; show zH_m 0 s p1 = some (zH s p1); unfold zH_m zH; first | rfl | (simp only [yI]; done) | (simp only [yI]; rfl)⟩
def zH_e : Entry := { f := 80, args := zH_a, ress := zH_r, m := fun x => zH_M x.1 x.2.1 }
theorem yU0 : FnOK Tryz.prog zH_e := yS (g := zH_g) (fn := Tryz.f80) yE yR eNil (by kernel_rfl) (by kernel_rfl) (by kernel_rfl) (fun x y h => let ⟨n, hn⟩ := yO2 x.1 x.2.1 y h; ⟨yPc n, iNil, (ySg n x).trans hn⟩)
abbrev zO_a : Ty := .pair t37 (.pair t3 .unit)
abbrev zO_r : Ty := .pair t3 .unit
def zO_g : G := { T := T, E := [], muts := [], fz := [] }
def zO_k : List (List Nat) := [[0, 1, 7, 8]]
def yRe (n : Nat) : Ann := { keep := zO_k, fuel := n, inl := [], deep := 0 }
def yGU (n : Nat) (r0 : List Int → Int → Int → Int → Option (Int × Unit)) (s0_0 : List Int) (v1_0 : Int) (t7_0 : Int) (t8_0 : Int) : Option (Int × Unit) :=
  (bif decide (t8_0 < t7_0) then (Option.bind (idx s0_0 t8_0) fun (v1 : Int) => (bif v1_0 == v1 then some (t8_0, ()) else r0 s0_0 v1_0 t7_0 (IntKind.i64.wrap (t8_0 + 1)))) else some ((-1 : Int), ()))
def y9n (n : Nat)  (k : Nat) (s0_0 : List Int) (v1_0 : Int) (t7_0 : Int) (t8_0 : Int) : Option (Int × Unit) :=
  iter (fun r y => yGU n (fun s0_0 v1_0 t7_0 t8_0 => r ((s0_0, (v1_0, (t7_0, (t8_0, ())))), ((), ()))) y.1.1 y.1.2.1 y.1.2.2.1 y.1.2.2.2.1) k ((s0_0, (v1_0, (t7_0, (t8_0, ())))), ((), ()))
def zO_m (n : Nat) (s : List Int) (v : Int) : Option (Int × Unit) :=
  (y9n n n (s) (v) ((↑s.length : Int)) ((0 : Int)))
theorem ySp (n : Nat) (x : zO_a.den) : runF zO_g (yRe n) Tryz.f84 zO_a zO_r x = zO_m n x.1 x.2.1 := by kernel_rfl
def yHL (s0_0 : List Int) (v1_0 : Int) (t8_0 : Int) (v1 : Int) : Option ((Int × Unit) ⊕ Unit) :=
  (bif v1_0 == v1 then (some (Sum.inl ((t8_0, ())))) else (some (Sum.inr ())))
def yKL (s0_0 : List Int) (v1_0 : Int) : Option (Int × Unit) :=
  (some (((-1 : Int), ())))
theorem yF6 (n : Nat) (hn : big ≤ n)  (s0_0 : List Int) (v1_0 : Int) (hx : List.length (s0_0) < lenMax) : LeF some (yH (fun i__ e__ s__ => yHL s0_0 v1_0 i__ e__) (fun s__ => yKL s0_0 v1_0) 0 (s0_0) ()) (y9n n n s0_0 v1_0 (List.length (s0_0) : Int) 0) := by
  refine yK (f := some) (W := fun k__ i__ s__ => y9n n k__ s0_0 v1_0 (List.length (s0_0) : Int) i__) (body := (fun i__ e__ s__ => yHL s0_0 v1_0 i__ e__)) (fin := (fun s__ => yKL s0_0 v1_0)) (fun k__ i__ s__ => ?_) hx () n (by unfold big at hn; unfold lenMax at hx; omega)
  show LeF _ _ (yGU n (y9n n k__) s0_0 v1_0 (List.length (s0_0) : Int) i__)
  exact y0 (y7 fun v1 => (y0 (y4 rfl) (y4 rfl))) (yu (y4 rfl))
def zO_M (s : List Int) (v : Int) : Option (Int × Unit) :=
  (bif decide (List.length (s) < lenMax) then yH (fun i__ e__ s__ => yHL (s) (v) i__ e__) (fun s__ => yKL (s) (v)) 0 (s) () else none)
theorem yNx (s : List Int) (v : Int) (y : Int × Unit) (h : zO_M s v = some y) : ∃ n, zO_m n s v = some y :=
  ⟨big, LeF.top (show LeF some (zO_M s v) (zO_m big s v) from (fun (n : Nat) (hn : big ≤ n) => show LeF some (zO_M s v) (zO_m n s v) from (yL fun hx => by apply yF6 n hn; exact hx)) big (Nat.le_refl _)) h⟩
def zO_e : Entry := { f := 84, args := zO_a, ress := zO_r, m := fun x => zO_M x.1 x.2.1 }
theorem yTm : FnOK Tryz.prog zO_e := yS (g := zO_g) (fn := Tryz.f84) yE yR eNil (by kernel_rfl) (by kernel_rfl) (by kernel_rfl) (fun x y h => let ⟨n, hn⟩ := yNx x.1 x.2.1 y h; ⟨yRe n, iNil, (ySp n x).trans hn⟩)
abbrev zC_a : Ty := .pair t45 (.pair t9 .unit)
abbrev zC_r : Ty := .pair t3 .unit
def zC_g : G := { T := T, E := [], muts := [], fz := [] }
def zC_k : List (List Nat) := [[0, 1, 7, 8]]
def yPr (n : Nat) : Ann := { keep := zC_k, fuel := n, inl := [], deep := 0 }
def yHY (n : Nat) (r0 : List (List UInt8) → List UInt8 → Int → Int → Option (Int × Unit)) (s0_0 : List (List UInt8)) (v1_0 : List UInt8) (t7_0 : Int) (t8_0 : Int) : Option (Int × Unit) :=
  (bif decide (t8_0 < t7_0) then (Option.bind (idx s0_0 t8_0) fun (v1 : List UInt8) => (bif v1_0 == v1 then some (t8_0, ()) else r0 s0_0 v1_0 t7_0 (IntKind.i64.wrap (t8_0 + 1)))) else some ((-1 : Int), ()))
def y8c (n : Nat)  (k : Nat) (s0_0 : List (List UInt8)) (v1_0 : List UInt8) (t7_0 : Int) (t8_0 : Int) : Option (Int × Unit) :=
  iter (fun r y => yHY n (fun s0_0 v1_0 t7_0 t8_0 => r ((s0_0, (v1_0, (t7_0, (t8_0, ())))), ((), ()))) y.1.1 y.1.2.1 y.1.2.2.1 y.1.2.2.2.1) k ((s0_0, (v1_0, (t7_0, (t8_0, ())))), ((), ()))
def zC_m (n : Nat) (s : List (List UInt8)) (v : List UInt8) : Option (Int × Unit) :=
  (y8c n n (s) (v) ((↑s.length : Int)) ((0 : Int)))
theorem yT7 (n : Nat) (x : zC_a.den) : runF zC_g (yPr n) Tryz.f94 zC_a zC_r x = zC_m n x.1 x.2.1 := by kernel_rfl
def yHJ (s0_0 : List (List UInt8)) (v1_0 : List UInt8) (t8_0 : Int) (v1 : List UInt8) : Option ((Int × Unit) ⊕ Unit) :=
  (bif v1_0 == v1 then (some (Sum.inl ((t8_0, ())))) else (some (Sum.inr ())))
def yK9 (s0_0 : List (List UInt8)) (v1_0 : List UInt8) : Option (Int × Unit) :=
  (some (((-1 : Int), ())))
theorem yEn (n : Nat) (hn : big ≤ n)  (s0_0 : List (List UInt8)) (v1_0 : List UInt8) (hx : List.length (s0_0) < lenMax) : LeF some (yH (fun i__ e__ s__ => yHJ s0_0 v1_0 i__ e__) (fun s__ => yK9 s0_0 v1_0) 0 (s0_0) ()) (y8c n n s0_0 v1_0 (List.length (s0_0) : Int) 0) := by
  refine yK (f := some) (W := fun k__ i__ s__ => y8c n k__ s0_0 v1_0 (List.length (s0_0) : Int) i__) (body := (fun i__ e__ s__ => yHJ s0_0 v1_0 i__ e__)) (fin := (fun s__ => yK9 s0_0 v1_0)) (fun k__ i__ s__ => ?_) hx () n (by unfold big at hn; unfold lenMax at hx; omega)
  show LeF _ _ (yHY n (y8c n k__) s0_0 v1_0 (List.length (s0_0) : Int) i__)
  exact y0 (y7 fun v1 => (y0 (y4 rfl) (y4 rfl))) (yu (y4 rfl))
def zC_M (s : List (List UInt8)) (v : List UInt8) : Option (Int × Unit) :=
  (bif decide (List.length (s) < lenMax) then yH (fun i__ e__ s__ => yHJ (s) (v) i__ e__) (fun s__ => yK9 (s) (v)) 0 (s) () else none)
theorem yPk (s : List (List UInt8)) (v : List UInt8) (y : Int × Unit) (h : zC_M s v = some y) : ∃ n, zC_m n s v = some y :=
  ⟨big, LeF.top (show LeF some (zC_M s v) (zC_m big s v) from (fun (n : Nat) (hn : big ≤ n) => show LeF some (zC_M s v) (zC_m n s v) from (yL fun hx => by apply yEn n hn; exact hx)) big (Nat.le_refl _)) h⟩
def zC_e : Entry := { f := 94, args := zC_a, ress := zC_r, m := fun x => zC_M x.1 x.2.1 }
theorem yS6 : FnOK Tryz.prog zC_e := yS (g := zC_g) (fn := Tryz.f94) yE yR eNil (by kernel_rfl) (by kernel_rfl) (by kernel_rfl) (fun x y h => let ⟨n, hn⟩ := yPk x.1 x.2.1 y h; ⟨yPr n, iNil, (yT7 n x).trans hn⟩)
abbrev yMc : Ty := .pair t9 .unit
abbrev yOv : Ty := .pair t4 .unit
def yPJ : G := { T := T, E := [], muts := [], fz := [] }
def ySG : List (List Nat) := [[0, 8]]
def yLT (n : Nat) : Ann := { keep := ySG, fuel := n, inl := [], deep := 0 }
def y4p (n : Nat) (r0 : List UInt8 → List UInt8 → Int → Option (Bool × Unit)) (s0_0 : List UInt8) (str0__0 : List UInt8) (pos0__0 : Int) (j2 : Bool) (j7 : Bool) : Option (Bool × Unit) :=
  (bif !j2 then (bif pos0__0 == 0 then some (Bool.false, ()) else (bif !j7 then some (Bool.false, ()) else r0 s0_0 str0__0 (yl str0__0 pos0__0).2)) else r0 s0_0 str0__0 (yl str0__0 pos0__0).2)
def y29 (n : Nat) (r0 : List UInt8 → List UInt8 → Int → Option (Bool × Unit)) (s0_0 : List UInt8) (str0__0 : List UInt8) (pos0__0 : Int) (j2 : Bool) : Option (Bool × Unit) :=
  (bif decide ((yl str0__0 pos0__0).1 ≥ 48) then (bif decide ((yl str0__0 pos0__0).1 ≤ 57) then (y4p n r0 s0_0 str0__0 pos0__0 j2 (Bool.true)) else (y4p n r0 s0_0 str0__0 pos0__0 j2 ((yl str0__0 pos0__0).1 == 95))) else (y4p n r0 s0_0 str0__0 pos0__0 j2 ((yl str0__0 pos0__0).1 == 95)))
def yCo (n : Nat) (r0 : List UInt8 → List UInt8 → Int → Option (Bool × Unit)) (s0_0 : List UInt8) (str0__0 : List UInt8) (pos0__0 : Int) : Option (Bool × Unit) :=
  (bif decide (pos0__0 < (↑str0__0.length : Int)) then (bif decide ((yl str0__0 pos0__0).1 ≥ 65) then (bif decide ((yl str0__0 pos0__0).1 ≤ 90) then (y29 n r0 s0_0 str0__0 pos0__0 (Bool.true)) else (bif decide ((yl str0__0 pos0__0).1 ≥ 97) then (y29 n r0 s0_0 str0__0 pos0__0 (decide ((yl str0__0 pos0__0).1 ≤ 122))) else (y29 n r0 s0_0 str0__0 pos0__0 (Bool.false)))) else (bif decide ((yl str0__0 pos0__0).1 ≥ 97) then (y29 n r0 s0_0 str0__0 pos0__0 (decide ((yl str0__0 pos0__0).1 ≤ 122))) else (y29 n r0 s0_0 str0__0 pos0__0 (Bool.false)))) else (bif !s0_0 == [] then some (decide ((↑s0_0.length : Int) ≤ 24), ()) else some (Bool.false, ())))
def y5w (n : Nat)  (k : Nat) (s0_0 : List UInt8) (str0__0 : List UInt8) (pos0__0 : Int) : Option (Bool × Unit) :=
  iter (fun r y => yCo n (fun s0_0 str0__0 pos0__0 => r ((s0_0, ()), (((str0__0, pos0__0), ()), ()))) y.1.1 y.2.1.1.1 y.2.1.1.2) k ((s0_0, ()), (((str0__0, pos0__0), ()), ()))
def yKb (n : Nat) (s : List UInt8) : Option (Bool × Unit) :=
  (y5w n n (s) (s) ((0 : Int)))
theorem yQr (n : Nat) (x : yMc.den) : runF yPJ (yLT n) Tryz.f85 yMc yOv x = yKb n x.1 := by kernel_rfl
def y6R (s0_0 : List UInt8) (str0__0 : List UInt8) (pos0__0 : Int) (j2 : Bool) (j7 : Bool) : Option ((Bool × Unit) ⊕ Unit) :=
  (bif !j2 then (bif pos0__0 == 0 then (some (Sum.inl ((Bool.false, ())))) else (bif !j7 then (some (Sum.inl ((Bool.false, ())))) else (some (Sum.inr ())))) else (some (Sum.inr ())))
theorem y0s (n : Nat) (hn : big ≤ n)  (r0 : List UInt8 → List UInt8 → Int → Option (Bool × Unit)) (s0_0 : List UInt8) (str0__0 : List UInt8) (pos0__0 : Int) (j2 : Bool) (j7 : Bool) : LeF (elim some fun (s__ : Unit) => r0 s0_0 str0__0 (yl (str0__0) pos0__0).2) (y6R s0_0 str0__0 pos0__0 j2 j7) (y4p n r0 s0_0 str0__0 pos0__0 j2 j7) :=
  (y0 (y0 (y4 rfl) (y0 (y4 rfl) (y4 rfl))) (y4 rfl))
def y46 (s0_0 : List UInt8) (str0__0 : List UInt8) (pos0__0 : Int) (j2 : Bool) : Option ((Bool × Unit) ⊕ Unit) :=
  (bif decide ((yl str0__0 pos0__0).1 ≥ 48) then (bif decide ((yl str0__0 pos0__0).1 ≤ 57) then (y6R s0_0 str0__0 pos0__0 j2 (Bool.true)) else (y6R s0_0 str0__0 pos0__0 j2 ((yl str0__0 pos0__0).1 == 95))) else (y6R s0_0 str0__0 pos0__0 j2 ((yl str0__0 pos0__0).1 == 95)))
theorem y06 (n : Nat) (hn : big ≤ n)  (r0 : List UInt8 → List UInt8 → Int → Option (Bool × Unit)) (s0_0 : List UInt8) (str0__0 : List UInt8) (pos0__0 : Int) (j2 : Bool) : LeF (elim some fun (s__ : Unit) => r0 s0_0 str0__0 (yl (str0__0) pos0__0).2) (y46 s0_0 str0__0 pos0__0 j2) (y29 n r0 s0_0 str0__0 pos0__0 j2) :=
  (y0 (y0 (by apply y0s n hn) (by apply y0s n hn)) (by apply y0s n hn))
def y8J (s0_0 : List UInt8) (str0__0 : List UInt8) (pos0__0 : Int) : Option ((Bool × Unit) ⊕ Unit) :=
  (bif decide ((yl str0__0 pos0__0).1 ≥ 65) then (bif decide ((yl str0__0 pos0__0).1 ≤ 90) then (y46 s0_0 str0__0 pos0__0 (Bool.true)) else (bif decide ((yl str0__0 pos0__0).1 ≥ 97) then (y46 s0_0 str0__0 pos0__0 (decide ((yl str0__0 pos0__0).1 ≤ 122))) else (y46 s0_0 str0__0 pos0__0 (Bool.false)))) else (bif decide ((yl str0__0 pos0__0).1 ≥ 97) then (y46 s0_0 str0__0 pos0__0 (decide ((yl str0__0 pos0__0).1 ≤ 122))) else (y46 s0_0 str0__0 pos0__0 (Bool.false))))
def y8P (s0_0 : List UInt8) (str0__0 : List UInt8) : Option (Bool × Unit) :=
  (bif !s0_0 == [] then (some ((decide ((↑s0_0.length : Int) ≤ 24), ()))) else (some ((Bool.false, ()))))
theorem yCI (n : Nat) (hn : big ≤ n)  (s0_0 : List UInt8) (str0__0 : List UInt8) (hx : List.length (str0__0) < lenMax) : LeF some (y7Z (str0__0) (fun i__ s__ => y8J s0_0 str0__0 i__) (fun s__ => y8P s0_0 str0__0) (List.length (str0__0)) 0 ()) (y5w n n s0_0 str0__0 0) := by
  refine yJk (f := some) (W := fun k__ i__ s__ => y5w n k__ s0_0 str0__0 i__) (body := (fun i__ s__ => y8J s0_0 str0__0 i__)) (fin := (fun s__ => y8P s0_0 str0__0)) (fun k__ i__ s__ => ?_) () n (by unfold big at hn; unfold lenMax at hx; omega)
  show LeF _ _ (yCo n (y5w n k__) s0_0 str0__0 i__)
  exact y0 (y0 (y0 (by apply y06 n hn) (y0 (by apply y06 n hn) (by apply y06 n hn))) (y0 (by apply y06 n hn) (by apply y06 n hn))) (yu (y0 (y4 rfl) (y4 rfl)))
def yCF (s : List UInt8) : Option (Bool × Unit) :=
  (bif decide (List.length (s) < lenMax) then y7Z (s) (fun i__ s__ => y8J (s) (s) i__) (fun s__ => y8P (s) (s)) (List.length (s)) 0 () else none)
theorem yM8 (s : List UInt8) (y : Bool × Unit) (h : yCF s = some y) : ∃ n, yKb n s = some y :=
  ⟨big, LeF.top (show LeF some (yCF s) (yKb big s) from (fun (n : Nat) (hn : big ≤ n) => show LeF some (yCF s) (yKb n s) from (yL fun hx => by apply yCI n hn; exact hx)) big (Nat.le_refl _)) h⟩
def z08_e : Entry := { f := 85, args := yMc, ress := yOv, m := fun x => yCF x.1 }
theorem yQG : FnOK Tryz.prog z08_e := yS (g := yPJ) (fn := Tryz.f85) yE yR eNil (by kernel_rfl) (by kernel_rfl) (by kernel_rfl) (fun x y h => let ⟨n, hn⟩ := yM8 x.1 y h; ⟨yLT n, iNil, (yQr n x).trans hn⟩)
abbrev zF_a : Ty := .pair t37 (.pair t134 .unit)
abbrev zF_r : Ty := .pair t3 .unit
def zF_g : G := { T := T, E := [], muts := [], fz := [] }
def zF_k : List (List Nat) := [[0, 1, 7, 8]]
def yNw (n : Nat) : Ann := { keep := zF_k, fuel := n, inl := [], deep := 0 }
def yIo (n : Nat) (r0 : List Int → (Int × Unit → Option (Bool × Unit)) → Int → Int → Option (Int × Unit)) (s0_0 : List Int) (f1_0 : Int × Unit → Option (Bool × Unit)) (t7_0 : Int) (t8_0 : Int) : Option (Int × Unit) :=
  (bif decide (t8_0 < t7_0) then (Option.bind (idx s0_0 t8_0) fun (v1 : Int) => (Option.bind (f1_0 (v1, ())) fun (v2 : Bool × Unit) => (bif v2.1 then some (t8_0, ()) else r0 s0_0 f1_0 t7_0 (IntKind.i64.wrap (t8_0 + 1))))) else some ((-1 : Int), ()))
def y9H (n : Nat)  (k : Nat) (s0_0 : List Int) (f1_0 : Int × Unit → Option (Bool × Unit)) (t7_0 : Int) (t8_0 : Int) : Option (Int × Unit) :=
  iter (fun r y => yIo n (fun s0_0 f1_0 t7_0 t8_0 => r ((s0_0, (f1_0, (t7_0, (t8_0, ())))), ((), ()))) y.1.1 y.1.2.1 y.1.2.2.1 y.1.2.2.2.1) k ((s0_0, (f1_0, (t7_0, (t8_0, ())))), ((), ()))
def zF_m (n : Nat) (s : List Int) (f : Int × Unit → Option (Bool × Unit)) : Option (Int × Unit) :=
  (y9H n n (s) (f) ((↑s.length : Int)) ((0 : Int)))
theorem ySM (n : Nat) (x : zF_a.den) : runF zF_g (yNw n) Tryz.f95 zF_a zF_r x = zF_m n x.1 x.2.1 := by kernel_rfl
def yF9 (s0_0 : List Int) (f1_0 : Int × Unit → Option (Bool × Unit)) (t8_0 : Int) (v1 : Int) : Option ((Int × Unit) ⊕ Unit) :=
  (Option.bind (f1_0 (v1, ())) fun (v2 : Bool × Unit) => (bif v2.1 then (some (Sum.inl ((t8_0, ())))) else (some (Sum.inr ()))))
def yKZ (s0_0 : List Int) (f1_0 : Int × Unit → Option (Bool × Unit)) : Option (Int × Unit) :=
  (some (((-1 : Int), ())))
theorem yEu (n : Nat) (hn : big ≤ n)  (s0_0 : List Int) (f1_0 : Int × Unit → Option (Bool × Unit)) (hx : List.length (s0_0) < lenMax) : LeF some (yH (fun i__ e__ s__ => yF9 s0_0 f1_0 i__ e__) (fun s__ => yKZ s0_0 f1_0) 0 (s0_0) ()) (y9H n n s0_0 f1_0 (List.length (s0_0) : Int) 0) := by
  refine yK (f := some) (W := fun k__ i__ s__ => y9H n k__ s0_0 f1_0 (List.length (s0_0) : Int) i__) (body := (fun i__ e__ s__ => yF9 s0_0 f1_0 i__ e__)) (fin := (fun s__ => yKZ s0_0 f1_0)) (fun k__ i__ s__ => ?_) hx () n (by unfold big at hn; unfold lenMax at hx; omega)
  show LeF _ _ (yIo n (y9H n k__) s0_0 f1_0 (List.length (s0_0) : Int) i__)
  exact y0 (y7 fun v1 => (y7 fun v2 => (y0 (y4 rfl) (y4 rfl)))) (yu (y4 rfl))
def zF_M (s : List Int) (f : Int × Unit → Option (Bool × Unit)) : Option (Int × Unit) :=
  (bif decide (List.length (s) < lenMax) then yH (fun i__ e__ s__ => yF9 (s) (f) i__ e__) (fun s__ => yKZ (s) (f)) 0 (s) () else none)
theorem yQ3 (s : List Int) (f : Int × Unit → Option (Bool × Unit)) (y : Int × Unit) (h : zF_M s f = some y) : ∃ n, zF_m n s f = some y :=
  ⟨big, LeF.top (show LeF some (zF_M s f) (zF_m big s f) from (fun (n : Nat) (hn : big ≤ n) => show LeF some (zF_M s f) (zF_m n s f) from (yL fun hx => by apply yEu n hn; exact hx)) big (Nat.le_refl _)) h⟩
def zF_e : Entry := { f := 95, args := zF_a, ress := zF_r, m := fun x => zF_M x.1 x.2.1 }
theorem yTi : FnOK Tryz.prog zF_e := yS (g := zF_g) (fn := Tryz.f95) yE yR eNil (by kernel_rfl) (by kernel_rfl) (by kernel_rfl) (fun x y h => let ⟨n, hn⟩ := yQ3 x.1 x.2.1 y h; ⟨yNw n, iNil, (ySM n x).trans hn⟩)
abbrev yN0 : Ty := .pair t75 .unit
abbrev yPC : Ty := .pair t75 .unit
def yPL : G := { T := T, E := [], muts := [], fz := [] }
def ySv : List (List Nat) := []
def yKw (n : Nat) : Ann := { keep := ySv, fuel := n, inl := [], deep := 0 }
def yJx (n : Nat) (f : Fai) : Option (Fai × Unit) :=
  some ((f.1, (0 : Int), (0 : Int), (0 : Int), ()), ())
theorem yRO (n : Nat) (x : yN0.den) : runF yPL (yKw n) Tryz.f97 yN0 yPC x = yJx n x.1 := by kernel_rfl
def z03 (f : Fai) : (Fai × Unit) :=
  ((f.1, (0 : Int), (0 : Int), (0 : Int), ()), ())
abbrev yGk (f : Fai) : Option (Fai × Unit) := some (z03 f)
theorem yMj (f : Fai) (y : Fai × Unit) (h : yGk f = some y) : ∃ n, yJx n f = some y :=
  ⟨0, by rw [← h]; show yJx 0 f = some (z03 f); unfold yJx z03; first | rfl | (simp only [yI]; done) | (simp only [yI]; rfl)⟩
def z03_e : Entry := { f := 97, args := yN0, ress := yPC, m := fun x => yGk x.1 }
theorem yOE : FnOK Tryz.prog z03_e := yS (g := yPL) (fn := Tryz.f97) yE yR eNil (by kernel_rfl) (by kernel_rfl) (by kernel_rfl) (fun x y h => let ⟨n, hn⟩ := yMj x.1 y h; ⟨yKw n, iNil, (yRO n x).trans hn⟩)
abbrev yMH : Ty := .pair t75 (.pair t3 (.pair t51 .unit))
abbrev yPv : Ty := .pair t51 (.pair t4 .unit)
def yNh : G := { T := T, E := [], muts := [], fz := [] }
def yTX : List (List Nat) := []
def yLH (n : Nat) : Ann := { keep := yTX, fuel := n, inl := [], deep := 0 }
def yJU (n : Nat) (p0 : Fai) (p1 : Int) (p2 : List UInt8 × Int × Unit) : Option ((List UInt8 × Int × Unit) × Bool × Unit) :=
  some ((p2.1, p2.2.1, ()), Bool.true, ())
theorem yQu (n : Nat) (x : yMH.den) : runF yNh (yLH n) Tryz.f98 yMH yPv x = yJU n x.1 x.2.1 x.2.2.1 := by kernel_rfl
def z04 (p0 : Fai) (p1 : Int) (p2 : List UInt8 × Int × Unit) : ((List UInt8 × Int × Unit) × Bool × Unit) :=
  ((p2.1, p2.2.1, ()), Bool.true, ())
abbrev yI2 (p0 : Fai) (p1 : Int) (p2 : List UInt8 × Int × Unit) : Option ((List UInt8 × Int × Unit) × Bool × Unit) := some (z04 p0 p1 p2)
theorem yNE (p0 : Fai) (p1 : Int) (p2 : List UInt8 × Int × Unit) (y : (List UInt8 × Int × Unit) × Bool × Unit) (h : yI2 p0 p1 p2 = some y) : ∃ n, yJU n p0 p1 p2 = some y :=
  ⟨0, by rw [← h]; show yJU 0 p0 p1 p2 = some (z04 p0 p1 p2); unfold yJU z04; first | rfl | (simp only [yI]; done) | (simp only [yI]; rfl)⟩
def z04_e : Entry := { f := 98, args := yMH, ress := yPv, m := fun x => yI2 x.1 x.2.1 x.2.2.1 }
theorem yOW : FnOK Tryz.prog z04_e := yS (g := yNh) (fn := Tryz.f98) yE yR eNil (by kernel_rfl) (by kernel_rfl) (by kernel_rfl) (fun x y h => let ⟨n, hn⟩ := yNE x.1 x.2.1 x.2.2.1 y h; ⟨yLH n, iNil, (yQu n x).trans hn⟩)
abbrev yMX : Ty := .pair t75 .unit
abbrev yPi : Ty := .pair t75 .unit
def yOK : G := { T := T, E := [], muts := [], fz := [] }
def yTh : List (List Nat) := []
def yLP (n : Nat) : Ann := { keep := yTh, fuel := n, inl := [], deep := 0 }
def yJ1 (n : Nat) (f : Fai) : Option (Fai × Unit) :=
  some ((f.1, f.2.1, (0 : Int), (0 : Int), ()), ())
theorem yPH (n : Nat) (x : yMX.den) : runF yOK (yLP n) Tryz.f99 yMX yPi x = yJ1 n x.1 := by kernel_rfl
def z05 (f : Fai) : (Fai × Unit) :=
  ((f.1, f.2.1, (0 : Int), (0 : Int), ()), ())
abbrev yIB (f : Fai) : Option (Fai × Unit) := some (z05 f)
theorem yLk (f : Fai) (y : Fai × Unit) (h : yIB f = some y) : ∃ n, yJ1 n f = some y :=
  ⟨0, by rw [← h]; show yJ1 0 f = some (z05 f); unfold yJ1 z05; first | rfl | (simp only [yI]; done) | (simp only [yI]; rfl)⟩
def z05_e : Entry := { f := 99, args := yMX, ress := yPi, m := fun x => yIB x.1 }
theorem yRy : FnOK Tryz.prog z05_e := yS (g := yOK) (fn := Tryz.f99) yE yR eNil (by kernel_rfl) (by kernel_rfl) (by kernel_rfl) (fun x y h => let ⟨n, hn⟩ := yLk x.1 y h; ⟨yLP n, iNil, (yPH n x).trans hn⟩)
abbrev yMs : Ty := .pair t75 (.pair t3 (.pair t51 .unit))
abbrev yPw : Ty := .pair t51 (.pair t4 .unit)
def yRc : G := { T := T, E := [], muts := [], fz := [] }
def yT8 : List (List Nat) := []
def yKx (n : Nat) : Ann := { keep := yT8, fuel := n, inl := [], deep := 0 }
def yJE (n : Nat) (f : Fai) (p1 : Int) (p2 : List UInt8 × Int × Unit) : Option ((List UInt8 × Int × Unit) × Bool × Unit) :=
  some ((p2.1, p2.2.1, ()), p1 != f.2.1, ())
theorem yPY (n : Nat) (x : yMs.den) : runF yRc (yKx n) Tryz.f100 yMs yPw x = yJE n x.1 x.2.1 x.2.2.1 := by kernel_rfl
def z06 (f : Fai) (p1 : Int) (p2 : List UInt8 × Int × Unit) : ((List UInt8 × Int × Unit) × Bool × Unit) :=
  ((p2.1, p2.2.1, ()), p1 != f.2.1, ())
abbrev yHB (f : Fai) (p1 : Int) (p2 : List UInt8 × Int × Unit) : Option ((List UInt8 × Int × Unit) × Bool × Unit) := some (z06 f p1 p2)
theorem yMS (f : Fai) (p1 : Int) (p2 : List UInt8 × Int × Unit) (y : (List UInt8 × Int × Unit) × Bool × Unit) (h : yHB f p1 p2 = some y) : ∃ n, yJE n f p1 p2 = some y :=
  ⟨0, by rw [← h]; show yJE 0 f p1 p2 = some (z06 f p1 p2); unfold yJE z06; first | rfl | (simp only [yI]; done) | (simp only [yI]; rfl)⟩
def z06_e : Entry := { f := 100, args := yMs, ress := yPw, m := fun x => yHB x.1 x.2.1 x.2.2.1 }
theorem yNc : FnOK Tryz.prog z06_e := yS (g := yRc) (fn := Tryz.f100) yE yR eNil (by kernel_rfl) (by kernel_rfl) (by kernel_rfl) (fun x y h => let ⟨n, hn⟩ := yMS x.1 x.2.1 x.2.2.1 y h; ⟨yKx n, iNil, (yPY n x).trans hn⟩)
abbrev yMZ : Ty := .pair t75 .unit
abbrev yQD : Ty := .pair t75 .unit
def yQY : G := { T := T, E := [], muts := [], fz := [] }
def ySc : List (List Nat) := []
def yKu (n : Nat) : Ann := { keep := ySc, fuel := n, inl := [], deep := 0 }
def yJc (n : Nat) (f : Fai) : Option (Fai × Unit) :=
  some ((f.1, f.2.1, f.2.2.1, f.2.2.2.1, ()), ())
theorem yR6 (n : Nat) (x : yMZ.den) : runF yQY (yKu n) Tryz.f101 yMZ yQD x = yJc n x.1 := by kernel_rfl
def z07 (f : Fai) : (Fai × Unit) :=
  ((f.1, f.2.1, f.2.2.1, f.2.2.2.1, ()), ())
abbrev yHG (f : Fai) : Option (Fai × Unit) := some (z07 f)
theorem yMd (f : Fai) (y : Fai × Unit) (h : yHG f = some y) : ∃ n, yJc n f = some y :=
  ⟨0, by rw [← h]; show yJc 0 f = some (z07 f); unfold yJc z07; first | rfl | (simp only [yI]; done) | (simp only [yI]; rfl)⟩
def z07_e : Entry := { f := 101, args := yMZ, ress := yQD, m := fun x => yHG x.1 }
theorem yNv : FnOK Tryz.prog z07_e := yS (g := yQY) (fn := Tryz.f101) yE yR eNil (by kernel_rfl) (by kernel_rfl) (by kernel_rfl) (fun x y h => let ⟨n, hn⟩ := yMd x.1 y h; ⟨yKu n, iNil, (yR6 n x).trans hn⟩)
abbrev zW_a : Ty := .pair t75 (.pair t3 (.pair t51 .unit))
abbrev zW_r : Ty := .pair t51 (.pair t4 .unit)
def zW_g : G := { T := T, E := [], muts := [5], fz := [] }
def zW_k : List (List Nat) := []
def yPU (n : Nat) : Ann := { keep := zW_k, fuel := n, inl := [], deep := 0 }
def zW_m (n : Nat) (f : Fai) (p1 : Int) (p2 : List UInt8 × Int × Unit) : Option ((List UInt8 × Int × Unit) × Bool × Unit) :=
  (bif decide (p1 ≥ f.2.1) then (bif decide (f.2.2.1 < 0) then none else (bif decide (f.2.2.1 < 0) then none else some ((p2.1, yP IntKind.i64 Go.BinOp.or (yP IntKind.i64 Go.BinOp.andNot p2.2.1 (IntKind.i64.wrap ((1 : Int) * 2 ^ Min.min f.2.2.1.toNat IntKind.i64.bits))) (IntKind.i64.wrap (f.2.2.2.1 * 2 ^ Min.min f.2.2.1.toNat IntKind.i64.bits)), ()), Bool.true, ()))) else some ((p2.1, p2.2.1, ()), Bool.true, ()))
theorem yTy (n : Nat) (x : zW_a.den) : runF zW_g (yPU n) Tryz.f102 zW_a zW_r x = zW_m n x.1 x.2.1 x.2.2.1 := by kernel_rfl
def zW_M (f : Fai) (p1 : Int) (p2 : List UInt8 × Int × Unit) : Option ((List UInt8 × Int × Unit) × Bool × Unit) := zW_m 0 f p1 p2
theorem yOX (f : Fai) (p1 : Int) (p2 : List UInt8 × Int × Unit) (y : (List UInt8 × Int × Unit) × Bool × Unit) (h : zW_M f p1 p2 = some y) : ∃ n, zW_m n f p1 p2 = some y := ⟨0, h⟩
def zW_e : Entry := { f := 102, args := zW_a, ress := zW_r, m := fun x => zW_M x.1 x.2.1 x.2.2.1 }
theorem ySZ : FnOK Tryz.prog zW_e := yS (g := zW_g) (fn := Tryz.f102) yE yR eNil (by kernel_rfl) (by kernel_rfl) (by kernel_rfl) (fun x y h => let ⟨n, hn⟩ := yOX x.1 x.2.1 x.2.2.1 y h; ⟨yPU n, iNil, (yTy n x).trans hn⟩)
abbrev yMl : Ty := .pair t3 (.pair t3 (.pair t3 .unit))
abbrev yO6 : Ty := .pair t42 .unit
def yOC : G := { T := T, E := [z0U_e], muts := [], fz := [] }
def yTB : List (List Nat) := []
def yL4 (n : Nat) : Ann := { keep := yTB, fuel := n, inl := [], deep := 0 }
def yK6 (n : Nat) (n1 : Int) (least : Int) (most : Int) : Option (Int × Unit) :=
  (bif decide (n1 < least) then some ((z0U Bool.true (3 : Int)).1, ()) else some ((z0U (decide (n1 > most)) (3 : Int)).1, ()))
theorem yNu (n : Nat) (x : yMl.den) : runF yOC (yL4 n) Tryz.f39 yMl yO6 x = yK6 n x.1 x.2.1 x.2.2.1 := by kernel_rfl
def z09 (n1 : Int) (least : Int) (most : Int) : (Int × Unit) :=
  (bif decide (n1 < least) then ((z0U Bool.true (3 : Int)).1, ()) else ((z0U (decide (n1 > most)) (3 : Int)).1, ()))
abbrev yP0 (n1 : Int) (least : Int) (most : Int) : Option (Int × Unit) := some (z09 n1 least most)
theorem yM1 (n1 : Int) (least : Int) (most : Int) (y : Int × Unit) (h : yP0 n1 least most = some y) : ∃ n, yK6 n n1 least most = some y :=
  ⟨0, by rw [← h]; show yK6 0 n1 least most = some (z09 n1 least most); unfold yK6 z09; first | rfl | (simp only [yI]; done) | (simp only [yI]; rfl)⟩
def z09_e : Entry := { f := 39, args := yMl, ress := yO6, m := fun x => yP0 x.1 x.2.1 x.2.2.1 }
theorem yOd : FnOK Tryz.prog z09_e := yS (g := yOC) (fn := Tryz.f39) yE yR (yB yRl eNil) (by kernel_rfl) (by kernel_rfl) (by kernel_rfl) (fun x y h => let ⟨n, hn⟩ := yM1 x.1 x.2.1 x.2.2.1 y h; ⟨yL4 n, iNil, (yNu n x).trans hn⟩)
end
end Go.Tw
end
