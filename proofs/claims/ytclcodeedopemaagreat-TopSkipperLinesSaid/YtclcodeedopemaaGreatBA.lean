import Derived.Test.YtclcodeedopemaaGreatBT
import Derived.Test.YtclcodeedopemaaGreatB0
import Derived.Test.YtclcodeedopemaaGreatBS
import Derived.Test.YtclcodeedopemaaGreatLP
section
set_option linter.all false
set_option maxRecDepth 1000000
namespace Go.Tw
open Go.Vx Go.Vx.B Go.Proofs
noncomputable section
abbrev yKX : Ty := .pair t25 .unit
abbrev yM1 : Ty := .pair t4 .unit
def yMo : G := { T := T, E := [], muts := [], fz := [] }
def yQN : List (List Nat) := [[1, 3], [1, 4]]
def yJO (n : Nat) : Ann := { keep := yQN, fuel := n, inl := [], deep := 0 }
def y9o (n : Nat) (r11 : Cha → Int → Option (Bool × Unit)) (c1_11 : Cha) (i4_11 : Int) : Option (Bool × Unit) :=
  (bif decide (i4_11 < (↑c1_11.2.1.length : Int)) then (Option.bind (idx c1_11.2.1 i4_11) fun (v12 : Tra) => (bif decide ((↑v12.2.1.length : Int) > 40) then some (Bool.false, ()) else r11 c1_11 (IntKind.i64.wrap (i4_11 + 1)))) else some (Bool.true, ()))
def y4W (n : Nat)  (k : Nat) (c1_11 : Cha) (i4_11 : Int) : Option (Bool × Unit) :=
  iter (fun r y => y9o n (fun c1_11 i4_11 => r ((c1_11, (i4_11, ())), ((), ()))) y.1.1 y.1.2.1) k ((c1_11, (i4_11, ())), ((), ()))
def yDJ (n : Nat) (r9 : Cha → Int → Option (Bool × Unit)) (c1_9 : Cha) (i3_9 : Int) : Option (Bool × Unit) :=
  (bif decide (i3_9 < (↑c1_9.1.length : Int)) then (Option.bind (idx c1_9.1 i3_9) fun (v10 : Sta) => (bif decide ((↑v10.1.length : Int) > 40) then some (Bool.false, ()) else r9 c1_9 (IntKind.i64.wrap (i3_9 + 1)))) else (y4W n n (c1_9) ((0 : Int))))
def y5v (n : Nat)  (k : Nat) (c1_9 : Cha) (i3_9 : Int) : Option (Bool × Unit) :=
  iter (fun r y => yDJ n (fun c1_9 i3_9 => r ((c1_9, (i3_9, ())), ((), ()))) y.1.1 y.1.2.1) k ((c1_9, (i3_9, ())), ((), ()))
def y38 (n : Nat) (c : Cha) : Option (Bool × Unit) :=
  (y5v n n (c) ((0 : Int)))
def yIq (n : Nat) (c : Cha) : Option (Bool × Unit) :=
  (bif decide ((↑c.1.length : Int) > 7) then (bif (↑c.1.length : Int) != 17 then some (Bool.false, ()) else (bif decide ((↑c.2.1.length : Int) > 12) then (bif (↑c.2.1.length : Int) != 49 then some (Bool.false, ()) else (y38 n c)) else (y38 n c))) else (bif decide ((↑c.2.1.length : Int) > 12) then (bif (↑c.2.1.length : Int) != 49 then some (Bool.false, ()) else (y38 n c)) else (y38 n c)))
theorem yN1 (n : Nat) (x : yKX.den) : runF yMo (yJO n) Tryz.f5 yKX yM1 x = yIq n x.1 := by kernel_rfl
def y6a (c1_11 : Cha) (i4_11 : Int) (v12 : Tra) : Option ((Bool × Unit) ⊕ Unit) :=
  (bif decide ((↑v12.2.1.length : Int) > 40) then (some (Sum.inl ((Bool.false, ())))) else (some (Sum.inr ())))
def y8h (c1_11 : Cha) : Option (Bool × Unit) :=
  (some ((Bool.true, ())))
theorem y9s (n : Nat) (hn : big ≤ n)  (c1_11 : Cha) (hx : List.length (c1_11.2.1) < lenMax) : LeF some (yE (fun i__ e__ s__ => y6a c1_11 i__ e__) (fun s__ => y8h c1_11) 0 (c1_11.2.1) ()) (y4W n n c1_11 0) := by
  refine yL (f := some) (W := fun k__ i__ s__ => y4W n k__ c1_11 i__) (body := (fun i__ e__ s__ => y6a c1_11 i__ e__)) (fin := (fun s__ => y8h c1_11)) (fun k__ i__ s__ => ?_) hx () n (by unfold big at hn; unfold lenMax at hx; omega)
  show LeF _ _ (y9o n (y4W n k__) c1_11 i__)
  exact y3 (y8 fun v12 => (y3 (y5 rfl) (y5 rfl))) (yw (y5 rfl))
def yAw (c1_9 : Cha) (i3_9 : Int) (v10 : Sta) : Option ((Bool × Unit) ⊕ Unit) :=
  (bif decide ((↑v10.1.length : Int) > 40) then (some (Sum.inl ((Bool.false, ())))) else (some (Sum.inr ())))
def y9p (c1_9 : Cha) : Option (Bool × Unit) :=
  (bif decide (List.length (c1_9.2.1) < lenMax) then yE (fun i__ e__ s__ => y6a (c1_9) i__ e__) (fun s__ => y8h (c1_9)) 0 (c1_9.2.1) () else none)
theorem yBP (n : Nat) (hn : big ≤ n)  (c1_9 : Cha) (hx : List.length (c1_9.1) < lenMax) : LeF some (yE (fun i__ e__ s__ => yAw c1_9 i__ e__) (fun s__ => y9p c1_9) 0 (c1_9.1) ()) (y5v n n c1_9 0) := by
  refine yL (f := some) (W := fun k__ i__ s__ => y5v n k__ c1_9 i__) (body := (fun i__ e__ s__ => yAw c1_9 i__ e__)) (fin := (fun s__ => y9p c1_9)) (fun k__ i__ s__ => ?_) hx () n (by unfold big at hn; unfold lenMax at hx; omega)
  show LeF _ _ (yDJ n (y5v n k__) c1_9 i__)
  exact y3 (y8 fun v10 => (y3 (y5 rfl) (y5 rfl))) (yw (yK fun hx => by apply y9s n hn; exact hx))
def y2K (c : Cha) : Option (Bool × Unit) :=
  (bif decide (List.length (c.1) < lenMax) then yE (fun i__ e__ s__ => yAw (c) i__ e__) (fun s__ => y9p (c)) 0 (c.1) () else none)
theorem y0Q (n : Nat) (hn : big ≤ n)  (c : Cha) : LeF some (y2K c) (y38 n c) :=
  (yK fun hx => by apply yBP n hn; exact hx)
def yAM (c : Cha) : Option (Bool × Unit) :=
  (bif decide ((↑c.1.length : Int) > 7) then (bif (↑c.1.length : Int) != 17 then (some ((Bool.false, ()))) else (bif decide ((↑c.2.1.length : Int) > 12) then (bif (↑c.2.1.length : Int) != 49 then (some ((Bool.false, ()))) else (y2K c)) else (y2K c))) else (bif decide ((↑c.2.1.length : Int) > 12) then (bif (↑c.2.1.length : Int) != 49 then (some ((Bool.false, ()))) else (y2K c)) else (y2K c)))
theorem yKQ (c : Cha) (y : Bool × Unit) (h : yAM c = some y) : ∃ n, yIq n c = some y :=
  ⟨big, LeF.top (show LeF some (yAM c) (yIq big c) from (fun (n : Nat) (hn : big ≤ n) => show LeF some (yAM c) (yIq n c) from (y3 (y3 (y5 rfl) (y3 (y3 (y5 rfl) (by apply y0Q n hn)) (by apply y0Q n hn))) (y3 (y3 (y5 rfl) (by apply y0Q n hn)) (by apply y0Q n hn)))) big (Nat.le_refl _)) h⟩
def z0A_e : Entry := { f := 5, args := yKX, ress := yM1, m := fun x => yAM x.1 }
theorem yOZ : FnOK Tryz.prog z0A_e := yW (g := yMo) (fn := Tryz.f5) yD yV eNil (by kernel_rfl) (by kernel_rfl) (by kernel_rfl) (fun x y h => let ⟨n, hn⟩ := yKQ x.1 y h; ⟨yJO n, iNil, (yN1 n x).trans hn⟩)
abbrev zj_a : Ty := .pair t45 (.pair t45 .unit)
abbrev zj_r : Ty := .pair t4 .unit
def zj_g : G := { T := T, E := [], muts := [], fz := [] }
def zj_k : List (List Nat) := [[0, 1, 5]]
def yMJ (n : Nat) : Ann := { keep := zj_k, fuel := n, inl := [], deep := 0 }
def yG0 (n : Nat) (r0 : List (List UInt8) → List (List UInt8) → Int → Option (Bool × Unit)) (a0_0 : List (List UInt8)) (b1_0 : List (List UInt8)) (i5_0 : Int) : Option (Bool × Unit) :=
  (bif decide (i5_0 < (↑a0_0.length : Int)) then (Option.bind (idx a0_0 i5_0) fun (v1 : List UInt8) => (Option.bind (idx b1_0 i5_0) fun (v2 : List UInt8) => (bif !v1 == v2 then some (Bool.false, ()) else r0 a0_0 b1_0 (IntKind.i64.wrap (i5_0 + 1))))) else some (Bool.true, ()))
def y8c (n : Nat)  (k : Nat) (a0_0 : List (List UInt8)) (b1_0 : List (List UInt8)) (i5_0 : Int) : Option (Bool × Unit) :=
  iter (fun r y => yG0 n (fun a0_0 b1_0 i5_0 => r ((a0_0, (b1_0, (i5_0, ()))), ((), ()))) y.1.1 y.1.2.1 y.1.2.2.1) k ((a0_0, (b1_0, (i5_0, ()))), ((), ()))
def zj_m (n : Nat) (a : List (List UInt8)) (b : List (List UInt8)) : Option (Bool × Unit) :=
  (bif (↑a.length : Int) != (↑b.length : Int) then some (Bool.false, ()) else (y8c n n (a) (b) ((0 : Int))))
theorem yQe (n : Nat) (x : zj_a.den) : runF zj_g (yMJ n) Tryz.f37 zj_a zj_r x = zj_m n x.1 x.2.1 := by kernel_rfl
def yKb (a0_0 : List (List UInt8)) (b1_0 : List (List UInt8)) (i5_0 : Int) (v1 : List UInt8) : Option ((Bool × Unit) ⊕ Unit) :=
  (Option.bind (idx b1_0 i5_0) fun (v2 : List UInt8) => (bif !v1 == v2 then (some (Sum.inl ((Bool.false, ())))) else (some (Sum.inr ()))))
def yLC (a0_0 : List (List UInt8)) (b1_0 : List (List UInt8)) : Option (Bool × Unit) :=
  (some ((Bool.true, ())))
theorem yEQ (n : Nat) (hn : big ≤ n)  (a0_0 : List (List UInt8)) (b1_0 : List (List UInt8)) (hx : List.length (a0_0) < lenMax) : LeF some (yE (fun i__ e__ s__ => yKb a0_0 b1_0 i__ e__) (fun s__ => yLC a0_0 b1_0) 0 (a0_0) ()) (y8c n n a0_0 b1_0 0) := by
  refine yL (f := some) (W := fun k__ i__ s__ => y8c n k__ a0_0 b1_0 i__) (body := (fun i__ e__ s__ => yKb a0_0 b1_0 i__ e__)) (fin := (fun s__ => yLC a0_0 b1_0)) (fun k__ i__ s__ => ?_) hx () n (by unfold big at hn; unfold lenMax at hx; omega)
  show LeF _ _ (yG0 n (y8c n k__) a0_0 b1_0 i__)
  exact y3 (y8 fun v1 => (y8 fun v2 => (y3 (y5 rfl) (y5 rfl)))) (yw (y5 rfl))
def zj_M (a : List (List UInt8)) (b : List (List UInt8)) : Option (Bool × Unit) :=
  (bif (↑a.length : Int) != (↑b.length : Int) then (some ((Bool.false, ()))) else (bif decide (List.length (a) < lenMax) then yE (fun i__ e__ s__ => yKb (a) (b) i__ e__) (fun s__ => yLC (a) (b)) 0 (a) () else none))
theorem yNR (a : List (List UInt8)) (b : List (List UInt8)) (y : Bool × Unit) (h : zj_M a b = some y) : ∃ n, zj_m n a b = some y :=
  ⟨big, LeF.top (show LeF some (zj_M a b) (zj_m big a b) from (fun (n : Nat) (hn : big ≤ n) => show LeF some (zj_M a b) (zj_m n a b) from (y3 (y5 rfl) (yK fun hx => by apply yEQ n hn; exact hx))) big (Nat.le_refl _)) h⟩
def zj_e : Entry := { f := 37, args := zj_a, ress := zj_r, m := fun x => zj_M x.1 x.2.1 }
theorem yP5 : FnOK Tryz.prog zj_e := yW (g := zj_g) (fn := Tryz.f37) yD yV eNil (by kernel_rfl) (by kernel_rfl) (by kernel_rfl) (fun x y h => let ⟨n, hn⟩ := yNR x.1 x.2.1 y h; ⟨yMJ n, iNil, (yQe n x).trans hn⟩)
abbrev zU_a : Ty := .pair t26 .unit
abbrev zU_r : Ty := .pair t4 .unit
def zU_g : G := { T := T, E := [], muts := [], fz := [] }
def zU_k : List (List Nat) := [[0, 3]]
def yNs (n : Nat) : Ann := { keep := zU_k, fuel := n, inl := [], deep := 0 }
def yGx (n : Nat) (r0 : List (List UInt8 × Int × Unit) → Int → Option (Bool × Unit)) (l0_0 : List (List UInt8 × Int × Unit)) (i3_0 : Int) : Option (Bool × Unit) :=
  (bif decide (i3_0 < (↑l0_0.length : Int)) then (Option.bind (idx l0_0 i3_0) fun (v1 : List UInt8 × Int × Unit) => (bif decide ((↑v1.1.length : Int) > 40) then some (Bool.false, ()) else r0 l0_0 (IntKind.i64.wrap (i3_0 + 1)))) else (bif decide ((↑l0_0.length : Int) ≤ 12) then some (Bool.true, ()) else some ((↑l0_0.length : Int) == 65, ())))
def y9D (n : Nat)  (k : Nat) (l0_0 : List (List UInt8 × Int × Unit)) (i3_0 : Int) : Option (Bool × Unit) :=
  iter (fun r y => yGx n (fun l0_0 i3_0 => r ((l0_0, (i3_0, ())), ((), ()))) y.1.1 y.1.2.1) k ((l0_0, (i3_0, ())), ((), ()))
def zU_m (n : Nat) (l : List (List UInt8 × Int × Unit)) : Option (Bool × Unit) :=
  (y9D n n (l) ((0 : Int)))
theorem yQ0 (n : Nat) (x : zU_a.den) : runF zU_g (yNs n) Tryz.f6 zU_a zU_r x = zU_m n x.1 := by kernel_rfl
def yIB (l0_0 : List (List UInt8 × Int × Unit)) (i3_0 : Int) (v1 : List UInt8 × Int × Unit) : Option ((Bool × Unit) ⊕ Unit) :=
  (bif decide ((↑v1.1.length : Int) > 40) then (some (Sum.inl ((Bool.false, ())))) else (some (Sum.inr ())))
def yIN (l0_0 : List (List UInt8 × Int × Unit)) : Option (Bool × Unit) :=
  (bif decide ((↑l0_0.length : Int) ≤ 12) then (some ((Bool.true, ()))) else (some (((↑l0_0.length : Int) == 65, ()))))
theorem yEc (n : Nat) (hn : big ≤ n)  (l0_0 : List (List UInt8 × Int × Unit)) (hx : List.length (l0_0) < lenMax) : LeF some (yE (fun i__ e__ s__ => yIB l0_0 i__ e__) (fun s__ => yIN l0_0) 0 (l0_0) ()) (y9D n n l0_0 0) := by
  refine yL (f := some) (W := fun k__ i__ s__ => y9D n k__ l0_0 i__) (body := (fun i__ e__ s__ => yIB l0_0 i__ e__)) (fin := (fun s__ => yIN l0_0)) (fun k__ i__ s__ => ?_) hx () n (by unfold big at hn; unfold lenMax at hx; omega)
  show LeF _ _ (yGx n (y9D n k__) l0_0 i__)
  exact y3 (y8 fun v1 => (y3 (y5 rfl) (y5 rfl))) (yw (y3 (y5 rfl) (y5 rfl)))
def zU_M (l : List (List UInt8 × Int × Unit)) : Option (Bool × Unit) :=
  (bif decide (List.length (l) < lenMax) then yE (fun i__ e__ s__ => yIB (l) i__ e__) (fun s__ => yIN (l)) 0 (l) () else none)
theorem yNd (l : List (List UInt8 × Int × Unit)) (y : Bool × Unit) (h : zU_M l = some y) : ∃ n, zU_m n l = some y :=
  ⟨big, LeF.top (show LeF some (zU_M l) (zU_m big l) from (fun (n : Nat) (hn : big ≤ n) => show LeF some (zU_M l) (zU_m n l) from (yK fun hx => by apply yEc n hn; exact hx)) big (Nat.le_refl _)) h⟩
def zU_e : Entry := { f := 6, args := zU_a, ress := zU_r, m := fun x => zU_M x.1 }
theorem yP0 : FnOK Tryz.prog zU_e := yW (g := zU_g) (fn := Tryz.f6) yD yV eNil (by kernel_rfl) (by kernel_rfl) (by kernel_rfl) (fun x y h => let ⟨n, hn⟩ := yNd x.1 y h; ⟨yNs n, iNil, (yQ0 n x).trans hn⟩)
abbrev za_a : Ty := .pair t3 (.pair t3 (.pair t3 .unit))
abbrev za_r : Ty := .pair t3 .unit
def za_g : G := { T := T, E := [], muts := [], fz := [] }
def za_k : List (List Nat) := []
def yMx (n : Nat) : Ann := { keep := za_k, fuel := n, inl := [], deep := 0 }
def za_m (n : Nat) (n1 : Int) (low : Int) (high : Int) : Option (Int × Unit) :=
  (bif decide (n1 < low) then some ((3 : Int), ()) else (bif decide (n1 > high) then some ((3 : Int), ()) else some ((0 : Int), ())))
theorem yPp (n : Nat) (x : za_a.den) : runF za_g (yMx n) Tryz.f30 za_a za_r x = za_m n x.1 x.2.1 x.2.2.1 := by kernel_rfl
def za (n1 : Int) (low : Int) (high : Int) : (Int × Unit) :=
  (bif decide (n1 < low) then ((3 : Int), ()) else (bif decide (n1 > high) then ((3 : Int), ()) else ((0 : Int), ())))
abbrev za_M (n1 : Int) (low : Int) (high : Int) : Option (Int × Unit) := some (za n1 low high)
theorem yMU (n1 : Int) (low : Int) (high : Int) (y : Int × Unit) (h : za_M n1 low high = some y) : ∃ n, za_m n n1 low high = some y :=
  ⟨0, by rw [← h]; show za_m 0 n1 low high = some (za n1 low high); unfold za_m za; first | rfl | (simp only [yG]; done) | (simp only [yG]; rfl)⟩
def za_e : Entry := { f := 30, args := za_a, ress := za_r, m := fun x => za_M x.1 x.2.1 x.2.2.1 }
theorem yOm : FnOK Tryz.prog za_e := yW (g := za_g) (fn := Tryz.f30) yD yV eNil (by kernel_rfl) (by kernel_rfl) (by kernel_rfl) (fun x y h => let ⟨n, hn⟩ := yMU x.1 x.2.1 x.2.2.1 y h; ⟨yMx n, iNil, (yPp n x).trans hn⟩)
abbrev zn_a : Ty := .pair t37 (.pair t37 .unit)
abbrev zn_r : Ty := .pair t4 .unit
def zn_g : G := { T := T, E := [], muts := [], fz := [] }
def zn_k : List (List Nat) := [[0, 1, 5]]
def yNe (n : Nat) : Ann := { keep := zn_k, fuel := n, inl := [], deep := 0 }
def yGn (n : Nat) (r0 : List Int → List Int → Int → Option (Bool × Unit)) (a0_0 : List Int) (b1_0 : List Int) (i5_0 : Int) : Option (Bool × Unit) :=
  (bif decide (i5_0 < (↑a0_0.length : Int)) then (Option.bind (idx a0_0 i5_0) fun (v1 : Int) => (Option.bind (idx b1_0 i5_0) fun (v2 : Int) => (bif v1 != v2 then some (Bool.false, ()) else r0 a0_0 b1_0 (IntKind.i64.wrap (i5_0 + 1))))) else some (Bool.true, ()))
def y8Z (n : Nat)  (k : Nat) (a0_0 : List Int) (b1_0 : List Int) (i5_0 : Int) : Option (Bool × Unit) :=
  iter (fun r y => yGn n (fun a0_0 b1_0 i5_0 => r ((a0_0, (b1_0, (i5_0, ()))), ((), ()))) y.1.1 y.1.2.1 y.1.2.2.1) k ((a0_0, (b1_0, (i5_0, ()))), ((), ()))
def zn_m (n : Nat) (a : List Int) (b : List Int) : Option (Bool × Unit) :=
  (bif (↑a.length : Int) != (↑b.length : Int) then some (Bool.false, ()) else (y8Z n n (a) (b) ((0 : Int))))
theorem yQm (n : Nat) (x : zn_a.den) : runF zn_g (yNe n) Tryz.f14 zn_a zn_r x = zn_m n x.1 x.2.1 := by kernel_rfl
def yHX (a0_0 : List Int) (b1_0 : List Int) (i5_0 : Int) (v1 : Int) : Option ((Bool × Unit) ⊕ Unit) :=
  (Option.bind (idx b1_0 i5_0) fun (v2 : Int) => (bif v1 != v2 then (some (Sum.inl ((Bool.false, ())))) else (some (Sum.inr ()))))
def yKk (a0_0 : List Int) (b1_0 : List Int) : Option (Bool × Unit) :=
  (some ((Bool.true, ())))
theorem yEJ (n : Nat) (hn : big ≤ n)  (a0_0 : List Int) (b1_0 : List Int) (hx : List.length (a0_0) < lenMax) : LeF some (yE (fun i__ e__ s__ => yHX a0_0 b1_0 i__ e__) (fun s__ => yKk a0_0 b1_0) 0 (a0_0) ()) (y8Z n n a0_0 b1_0 0) := by
  refine yL (f := some) (W := fun k__ i__ s__ => y8Z n k__ a0_0 b1_0 i__) (body := (fun i__ e__ s__ => yHX a0_0 b1_0 i__ e__)) (fin := (fun s__ => yKk a0_0 b1_0)) (fun k__ i__ s__ => ?_) hx () n (by unfold big at hn; unfold lenMax at hx; omega)
  show LeF _ _ (yGn n (y8Z n k__) a0_0 b1_0 i__)
  exact y3 (y8 fun v1 => (y8 fun v2 => (y3 (y5 rfl) (y5 rfl)))) (yw (y5 rfl))
def zn_M (a : List Int) (b : List Int) : Option (Bool × Unit) :=
  (bif (↑a.length : Int) != (↑b.length : Int) then (some ((Bool.false, ()))) else (bif decide (List.length (a) < lenMax) then yE (fun i__ e__ s__ => yHX (a) (b) i__ e__) (fun s__ => yKk (a) (b)) 0 (a) () else none))
theorem yML (a : List Int) (b : List Int) (y : Bool × Unit) (h : zn_M a b = some y) : ∃ n, zn_m n a b = some y :=
  ⟨big, LeF.top (show LeF some (zn_M a b) (zn_m big a b) from (fun (n : Nat) (hn : big ≤ n) => show LeF some (zn_M a b) (zn_m n a b) from (y3 (y5 rfl) (yK fun hx => by apply yEJ n hn; exact hx))) big (Nat.le_refl _)) h⟩
def zn_e : Entry := { f := 14, args := zn_a, ress := zn_r, m := fun x => zn_M x.1 x.2.1 }
theorem yLg : FnOK Tryz.prog zn_e := yW (g := zn_g) (fn := Tryz.f14) yD yV eNil (by kernel_rfl) (by kernel_rfl) (by kernel_rfl) (fun x y h => let ⟨n, hn⟩ := yML x.1 x.2.1 y h; ⟨yNe n, iNil, (yQm n x).trans hn⟩)
abbrev zW_a : Ty := .pair t56 (.pair t3 .unit)
abbrev zW_r : Ty := .pair t3 .unit
def zW_g : G := { T := T, E := [], muts := [], fz := [] }
def zW_k : List (List Nat) := [[1, 2]]
def yOO (n : Nat) : Ann := { keep := zW_k, fuel := n, inl := [], deep := 0 }
def yGM (n : Nat) (r0 : Int → Cha → Option (Int × Unit)) (state1_0 : Int) (c2_0 : Cha) : Option (Int × Unit) :=
  (Option.bind (idx c2_0.1 state1_0) fun (v1 : Sta) => (bif v1.2.2.1 != (-1 : Int) then (Option.bind (idx c2_0.1 state1_0) fun (v2 : Sta) => r0 v2.2.2.1 c2_0) else some (state1_0, ())))
def y90 (n : Nat)  (k : Nat) (state1_0 : Int) (c2_0 : Cha) : Option (Int × Unit) :=
  iter (fun r y => yGM n (fun state1_0 c2_0 => r ((state1_0, (c2_0, ())), ((), ()))) y.1.1 y.1.2.1) k ((state1_0, (c2_0, ())), ((), ()))
def zW_m (n : Nat) (c : Cha) (state : Int) : Option (Int × Unit) :=
  (y90 n n (state) (c))
theorem yQO (n : Nat) (x : zW_a.den) : runF zW_g (yOO n) Tryz.f51 zW_a zW_r x = zW_m n x.1 x.2.1 := by kernel_rfl
def yFj (c2_0 : Cha) (state1_0 : Int) : Option ((Int × Unit) ⊕ (Int)) :=
  (Option.bind (idx c2_0.1 state1_0) fun (v1 : Sta) => (bif v1.2.2.1 != (-1 : Int) then (Option.bind (idx c2_0.1 state1_0) fun (v2 : Sta) => (some (Sum.inr (v2.2.2.1)))) else (some (Sum.inl ((state1_0, ()))))))
theorem yDX (n : Nat) (hn : big ≤ n)  (c2_0 : Cha) (state1_0 : Int) : LeF some (y0k (fun s__ => yFj c2_0 s__) wMax state1_0) (y90 n n state1_0 c2_0) := by
  refine y3V (f := some) (W := fun k__ s__ => y90 n k__ s__ c2_0) (body := (fun s__ => yFj c2_0 s__)) (fun k__ s__ => ?_) wMax n state1_0 (by unfold big at hn; unfold wMax; omega)
  show LeF _ _ (yGM n (y90 n k__) s__ c2_0)
  exact (y8 fun v1 => (y3 (y8 fun v2 => (y5 rfl)) (y5 rfl)))
def zW_M (c : Cha) (state : Int) : Option (Int × Unit) :=
  (y0k (fun s__ => yFj (c) s__) wMax (state))
theorem yMb (c : Cha) (state : Int) (y : Int × Unit) (h : zW_M c state = some y) : ∃ n, zW_m n c state = some y :=
  ⟨big, LeF.top (show LeF some (zW_M c state) (zW_m big c state) from (fun (n : Nat) (hn : big ≤ n) => show LeF some (zW_M c state) (zW_m n c state) from (by apply yDX n hn)) big (Nat.le_refl _)) h⟩
def zW_e : Entry := { f := 51, args := zW_a, ress := zW_r, m := fun x => zW_M x.1 x.2.1 }
theorem yL0 : FnOK Tryz.prog zW_e := yW (g := zW_g) (fn := Tryz.f51) yD yV eNil (by kernel_rfl) (by kernel_rfl) (by kernel_rfl) (fun x y h => let ⟨n, hn⟩ := yMb x.1 x.2.1 y h; ⟨yOO n, iNil, (yQO n x).trans hn⟩)
abbrev zo_a : Ty := .pair t25 (.pair t3 (.pair t3 .unit))
abbrev zo_r : Ty := .pair t3 (.pair t4 .unit)
def zo_g : G := { T := T, E := [], muts := [], fz := [] }
def zo_k : List (List Nat) := [[1, 2, 3, 8, 9, 10]]
def yNU (n : Nat) : Ann := { keep := zo_k, fuel := n, inl := [], deep := 0 }
def yFl (n : Nat) (r0 : Int → Int → Cha → Int → Bool → Int → Option (Int × Bool × Unit)) (state1_0 : Int) (index2_0 : Int) (c3_0 : Cha) (n8_0 : Int) (is9_0 : Bool) (i10_0 : Int) : Option (Int × Bool × Unit) :=
  (bif decide (i10_0 < (↑c3_0.1.length : Int)) then (Option.bind (idx c3_0.1 i10_0) fun (v1 : Sta) => (bif v1.2.1 == state1_0 then (bif is9_0 then r0 state1_0 index2_0 c3_0 (IntKind.i64.wrap (n8_0 + 1)) Bool.true (IntKind.i64.wrap (i10_0 + 1)) else r0 state1_0 index2_0 c3_0 (IntKind.i64.wrap (n8_0 + 1)) (i10_0 == index2_0) (IntKind.i64.wrap (i10_0 + 1))) else r0 state1_0 index2_0 c3_0 n8_0 is9_0 (IntKind.i64.wrap (i10_0 + 1)))) else some (n8_0, is9_0, ()))
def y9P (n : Nat)  (k : Nat) (state1_0 : Int) (index2_0 : Int) (c3_0 : Cha) (n8_0 : Int) (is9_0 : Bool) (i10_0 : Int) : Option (Int × Bool × Unit) :=
  iter (fun r y => yFl n (fun state1_0 index2_0 c3_0 n8_0 is9_0 i10_0 => r ((state1_0, (index2_0, (c3_0, (n8_0, (is9_0, (i10_0, ())))))), ((), ()))) y.1.1 y.1.2.1 y.1.2.2.1 y.1.2.2.2.1 y.1.2.2.2.2.1 y.1.2.2.2.2.2.1) k ((state1_0, (index2_0, (c3_0, (n8_0, (is9_0, (i10_0, ())))))), ((), ()))
def zo_m (n : Nat) (c : Cha) (state : Int) (index : Int) : Option (Int × Bool × Unit) :=
  (y9P n n (state) (index) (c) ((0 : Int)) (Bool.false) ((0 : Int)))
theorem yQh (n : Nat) (x : zo_a.den) : runF zo_g (yNU n) Tryz.f29 zo_a zo_r x = zo_m n x.1 x.2.1 x.2.2.1 := by kernel_rfl
def yEG (state1_0 : Int) (index2_0 : Int) (c3_0 : Cha) (i10_0 : Int) (v1 : Sta) (n8_0 : Int) (is9_0 : Bool) : Option ((Int × Bool × Unit) ⊕ (Int × Bool)) :=
  (bif v1.2.1 == state1_0 then (bif is9_0 then (some (Sum.inr ((IntKind.i64.wrap (n8_0 + 1)), (Bool.true)))) else (some (Sum.inr ((IntKind.i64.wrap (n8_0 + 1)), (i10_0 == index2_0))))) else (some (Sum.inr ((n8_0), (is9_0)))))
def yIZ (state1_0 : Int) (index2_0 : Int) (c3_0 : Cha) (n8_0 : Int) (is9_0 : Bool) : Option (Int × Bool × Unit) :=
  (some ((n8_0, is9_0, ())))
theorem yEN (n : Nat) (hn : big ≤ n)  (state1_0 : Int) (index2_0 : Int) (c3_0 : Cha) (n8_0 : Int) (is9_0 : Bool) (hx : List.length (c3_0.1) < lenMax) : LeF some (yE (fun i__ e__ s__ => yEG state1_0 index2_0 c3_0 i__ e__ s__.1 s__.2) (fun s__ => yIZ state1_0 index2_0 c3_0 s__.1 s__.2) 0 (c3_0.1) (n8_0, is9_0)) (y9P n n state1_0 index2_0 c3_0 n8_0 is9_0 0) := by
  refine yL (f := some) (W := fun k__ i__ s__ => y9P n k__ state1_0 index2_0 c3_0 s__.1 s__.2 i__) (body := (fun i__ e__ s__ => yEG state1_0 index2_0 c3_0 i__ e__ s__.1 s__.2)) (fin := (fun s__ => yIZ state1_0 index2_0 c3_0 s__.1 s__.2)) (fun k__ i__ s__ => ?_) hx (n8_0, is9_0) n (by unfold big at hn; unfold lenMax at hx; omega)
  show LeF _ _ (yFl n (y9P n k__) state1_0 index2_0 c3_0 s__.1 s__.2 i__)
  exact y3 (y8 fun v1 => (y3 (y3 (y5 rfl) (y5 rfl)) (y5 rfl))) (yw (y5 rfl))
def zo_M (c : Cha) (state : Int) (index : Int) : Option (Int × Bool × Unit) :=
  (bif decide (List.length (c.1) < lenMax) then yE (fun i__ e__ s__ => yEG (state) (index) (c) i__ e__ s__.1 s__.2) (fun s__ => yIZ (state) (index) (c) s__.1 s__.2) 0 (c.1) (((0 : Int)), (Bool.false)) else none)
theorem yNY (c : Cha) (state : Int) (index : Int) (y : Int × Bool × Unit) (h : zo_M c state index = some y) : ∃ n, zo_m n c state index = some y :=
  ⟨big, LeF.top (show LeF some (zo_M c state index) (zo_m big c state index) from (fun (n : Nat) (hn : big ≤ n) => show LeF some (zo_M c state index) (zo_m n c state index) from (yK fun hx => by apply yEN n hn; exact hx)) big (Nat.le_refl _)) h⟩
def zo_e : Entry := { f := 29, args := zo_a, ress := zo_r, m := fun x => zo_M x.1 x.2.1 x.2.2.1 }
theorem yPX : FnOK Tryz.prog zo_e := yW (g := zo_g) (fn := Tryz.f29) yD yV eNil (by kernel_rfl) (by kernel_rfl) (by kernel_rfl) (fun x y h => let ⟨n, hn⟩ := yNY x.1 x.2.1 x.2.2.1 y h; ⟨yNU n, iNil, (yQh n x).trans hn⟩)
abbrev yJo : Ty := .pair t37 .unit
abbrev yOF : Ty := .pair t3 .unit
def yNm : G := { T := T, E := [], muts := [], fz := [] }
def yOu : List (List Nat) := [[0, 3]]
def yJ4 (n : Nat) : Ann := { keep := yOu, fuel := n, inl := [], deep := 0 }
def yDM (n : Nat) (r0 : List Int → Int → Option (Int × Unit)) (l0_0 : List Int) (i3_0 : Int) : Option (Int × Unit) :=
  (bif decide (i3_0 < (↑l0_0.length : Int)) then (Option.bind (idx l0_0 i3_0) fun (v1 : Int) => (bif v1 != 0 then (Option.bind (idx l0_0 i3_0) fun (v2 : Int) => some (v2, ())) else r0 l0_0 (IntKind.i64.wrap (i3_0 + 1)))) else some ((0 : Int), ()))
def y5j (n : Nat)  (k : Nat) (l0_0 : List Int) (i3_0 : Int) : Option (Int × Unit) :=
  iter (fun r y => yDM n (fun l0_0 i3_0 => r ((l0_0, (i3_0, ())), ((), ()))) y.1.1 y.1.2.1) k ((l0_0, (i3_0, ())), ((), ()))
def yIn (n : Nat) (l : List Int) : Option (Int × Unit) :=
  (y5j n n (l) ((0 : Int)))
theorem yMC (n : Nat) (x : yJo.den) : runF yNm (yJ4 n) Tryz.f31 yJo yOF x = yIn n x.1 := by kernel_rfl
def y9z (l0_0 : List Int) (i3_0 : Int) (v1 : Int) : Option ((Int × Unit) ⊕ Unit) :=
  (bif v1 != 0 then (Option.bind (idx l0_0 i3_0) fun (v2 : Int) => (some (Sum.inl ((v2, ()))))) else (some (Sum.inr ())))
def yAl (l0_0 : List Int) : Option (Int × Unit) :=
  (some (((0 : Int), ())))
theorem yBg (n : Nat) (hn : big ≤ n)  (l0_0 : List Int) (hx : List.length (l0_0) < lenMax) : LeF some (yE (fun i__ e__ s__ => y9z l0_0 i__ e__) (fun s__ => yAl l0_0) 0 (l0_0) ()) (y5j n n l0_0 0) := by
  refine yL (f := some) (W := fun k__ i__ s__ => y5j n k__ l0_0 i__) (body := (fun i__ e__ s__ => y9z l0_0 i__ e__)) (fin := (fun s__ => yAl l0_0)) (fun k__ i__ s__ => ?_) hx () n (by unfold big at hn; unfold lenMax at hx; omega)
  show LeF _ _ (yDM n (y5j n k__) l0_0 i__)
  exact y3 (y8 fun v1 => (y3 (y8 fun v2 => (y5 rfl)) (y5 rfl))) (yw (y5 rfl))
def y9g (l : List Int) : Option (Int × Unit) :=
  (bif decide (List.length (l) < lenMax) then yE (fun i__ e__ s__ => y9z (l) i__ e__) (fun s__ => yAl (l)) 0 (l) () else none)
theorem yJY (l : List Int) (y : Int × Unit) (h : y9g l = some y) : ∃ n, yIn n l = some y :=
  ⟨big, LeF.top (show LeF some (y9g l) (yIn big l) from (fun (n : Nat) (hn : big ≤ n) => show LeF some (y9g l) (yIn n l) from (yK fun hx => by apply yBg n hn; exact hx)) big (Nat.le_refl _)) h⟩
def z09_e : Entry := { f := 31, args := yJo, ress := yOF, m := fun x => y9g x.1 }
theorem yIx : FnOK Tryz.prog z09_e := yW (g := yNm) (fn := Tryz.f31) yD yV eNil (by kernel_rfl) (by kernel_rfl) (by kernel_rfl) (fun x y h => let ⟨n, hn⟩ := yJY x.1 y h; ⟨yJ4 n, iNil, (yMC n x).trans hn⟩)
abbrev yKa : Ty := .pair t4 (.pair t3 .unit)
abbrev yNS : Ty := .pair t3 .unit
def yNf : G := { T := T, E := [], muts := [], fz := [] }
def yOq : List (List Nat) := []
def yJV (n : Nat) : Ann := { keep := yOq, fuel := n, inl := [], deep := 0 }
def yIL (n : Nat) (holds : Bool) (e : Int) : Option (Int × Unit) :=
  (bif holds then some (e, ()) else some ((0 : Int), ()))
theorem yO3 (n : Nat) (x : yKa.den) : runF yNf (yJV n) Tryz.f32 yKa yNS x = yIL n x.1 x.2.1 := by kernel_rfl
def z0I (holds : Bool) (e : Int) : (Int × Unit) :=
  (bif holds then (e, ()) else ((0 : Int), ()))
abbrev yLT (holds : Bool) (e : Int) : Option (Int × Unit) := some (z0I holds e)
theorem yKc (holds : Bool) (e : Int) (y : Int × Unit) (h : yLT holds e = some y) : ∃ n, yIL n holds e = some y :=
  ⟨0, by rw [← h]; show yIL 0 holds e = some (z0I holds e); unfold yIL z0I; first | rfl | (simp only [yG]; done) | (simp only [yG]; rfl)⟩
def z0I_e : Entry := { f := 32, args := yKa, ress := yNS, m := fun x => yLT x.1 x.2.1 }
theorem yMl : FnOK Tryz.prog z0I_e := yW (g := yNf) (fn := Tryz.f32) yD yV eNil (by kernel_rfl) (by kernel_rfl) (by kernel_rfl) (fun x y h => let ⟨n, hn⟩ := yKc x.1 x.2.1 y h; ⟨yJV n, iNil, (yO3 n x).trans hn⟩)
abbrev yL3 : Ty := .pair t25 (.pair t3 .unit)
abbrev yLG : Ty := .pair t4 .unit
def yNT : G := { T := T, E := [], muts := [], fz := [] }
def yPH : List (List Nat) := []
def yJB (n : Nat) : Ann := { keep := yPH, fuel := n, inl := [], deep := 0 }
def yHZ (n : Nat) (c : Cha) (i : Int) : Option (Bool × Unit) :=
  (Option.bind (idx c.1 i) fun (v0 : Sta) => some (v0.2.2.1 == (-1 : Int), ()))
theorem yMa (n : Nat) (x : yL3.den) : runF yNT (yJB n) Tryz.f59 yL3 yLG x = yHZ n x.1 x.2.1 := by kernel_rfl
def yEo (c : Cha) (i : Int) : Option (Bool × Unit) := yHZ 0 c i
theorem yKY (c : Cha) (i : Int) (y : Bool × Unit) (h : yEo c i = some y) : ∃ n, yHZ n c i = some y := ⟨0, h⟩
def z03_e : Entry := { f := 59, args := yL3, ress := yLG, m := fun x => yEo x.1 x.2.1 }
theorem yNC : FnOK Tryz.prog z03_e := yW (g := yNT) (fn := Tryz.f59) yD yV eNil (by kernel_rfl) (by kernel_rfl) (by kernel_rfl) (fun x y h => let ⟨n, hn⟩ := yKY x.1 x.2.1 y h; ⟨yJB n, iNil, (yMa n x).trans hn⟩)
abbrev zq_a : Ty := .pair t45 (.pair t9 .unit)
abbrev zq_r : Ty := .pair t4 .unit
def zq_g : G := { T := T, E := [], muts := [], fz := [] }
def zq_k : List (List Nat) := [[0, 1, 5]]
def yMu (n : Nat) : Ann := { keep := zq_k, fuel := n, inl := [], deep := 0 }
def yHJ (n : Nat) (r0 : List (List UInt8) → List UInt8 → Int → Option (Bool × Unit)) (l0_0 : List (List UInt8)) (s1_0 : List UInt8) (i5_0 : Int) : Option (Bool × Unit) :=
  (bif decide (i5_0 < (↑l0_0.length : Int)) then (Option.bind (idx l0_0 i5_0) fun (v1 : List UInt8) => (bif v1 == s1_0 then some (Bool.true, ()) else r0 l0_0 s1_0 (IntKind.i64.wrap (i5_0 + 1)))) else some (Bool.false, ()))
def y8z (n : Nat)  (k : Nat) (l0_0 : List (List UInt8)) (s1_0 : List UInt8) (i5_0 : Int) : Option (Bool × Unit) :=
  iter (fun r y => yHJ n (fun l0_0 s1_0 i5_0 => r ((l0_0, (s1_0, (i5_0, ()))), ((), ()))) y.1.1 y.1.2.1 y.1.2.2.1) k ((l0_0, (s1_0, (i5_0, ()))), ((), ()))
def zq_m (n : Nat) (l : List (List UInt8)) (s : List UInt8) : Option (Bool × Unit) :=
  (y8z n n (l) (s) ((0 : Int)))
theorem yPY (n : Nat) (x : zq_a.den) : runF zq_g (yMu n) Tryz.f25 zq_a zq_r x = zq_m n x.1 x.2.1 := by kernel_rfl
def yIP (l0_0 : List (List UInt8)) (s1_0 : List UInt8) (i5_0 : Int) (v1 : List UInt8) : Option ((Bool × Unit) ⊕ Unit) :=
  (bif v1 == s1_0 then (some (Sum.inl ((Bool.true, ())))) else (some (Sum.inr ())))
def yJi (l0_0 : List (List UInt8)) (s1_0 : List UInt8) : Option (Bool × Unit) :=
  (some ((Bool.false, ())))
theorem yDt (n : Nat) (hn : big ≤ n)  (l0_0 : List (List UInt8)) (s1_0 : List UInt8) (hx : List.length (l0_0) < lenMax) : LeF some (yE (fun i__ e__ s__ => yIP l0_0 s1_0 i__ e__) (fun s__ => yJi l0_0 s1_0) 0 (l0_0) ()) (y8z n n l0_0 s1_0 0) := by
  refine yL (f := some) (W := fun k__ i__ s__ => y8z n k__ l0_0 s1_0 i__) (body := (fun i__ e__ s__ => yIP l0_0 s1_0 i__ e__)) (fin := (fun s__ => yJi l0_0 s1_0)) (fun k__ i__ s__ => ?_) hx () n (by unfold big at hn; unfold lenMax at hx; omega)
  show LeF _ _ (yHJ n (y8z n k__) l0_0 s1_0 i__)
  exact y3 (y8 fun v1 => (y3 (y5 rfl) (y5 rfl))) (yw (y5 rfl))
def zq_M (l : List (List UInt8)) (s : List UInt8) : Option (Bool × Unit) :=
  (bif decide (List.length (l) < lenMax) then yE (fun i__ e__ s__ => yIP (l) (s) i__ e__) (fun s__ => yJi (l) (s)) 0 (l) () else none)
theorem yLq (l : List (List UInt8)) (s : List UInt8) (y : Bool × Unit) (h : zq_M l s = some y) : ∃ n, zq_m n l s = some y :=
  ⟨big, LeF.top (show LeF some (zq_M l s) (zq_m big l s) from (fun (n : Nat) (hn : big ≤ n) => show LeF some (zq_M l s) (zq_m n l s) from (yK fun hx => by apply yDt n hn; exact hx)) big (Nat.le_refl _)) h⟩
def zq_e : Entry := { f := 25, args := zq_a, ress := zq_r, m := fun x => zq_M x.1 x.2.1 }
theorem yPy : FnOK Tryz.prog zq_e := yW (g := zq_g) (fn := Tryz.f25) yD yV eNil (by kernel_rfl) (by kernel_rfl) (by kernel_rfl) (fun x y h => let ⟨n, hn⟩ := yLq x.1 x.2.1 y h; ⟨yMu n, iNil, (yPY n x).trans hn⟩)
abbrev yK3 : Ty := .pair t131 .unit
abbrev yOX : Ty := .pair t42 .unit
def yOP : G := { T := T, E := [], muts := [], fz := [] }
def yPR : List (List Nat) := [[5, 6, 7]]
def yJQ (n : Nat) : Ann := { keep := yPR, fuel := n, inl := [], deep := 0 }
def yCs (n : Nat) (r0 : List Int → Int → Int → Option (Int × Unit)) (t5_0 : List Int) (t6_0 : Int) (t7_0 : Int) : Option (Int × Unit) :=
  (bif decide (t7_0 < t6_0) then (Option.bind (idx t5_0 t7_0) fun (v1 : Int) => (bif v1 != 0 then some (v1, ()) else r0 t5_0 t6_0 (IntKind.i64.wrap (t7_0 + 1)))) else some ((0 : Int), ()))
def y5k (n : Nat)  (k : Nat) (t5_0 : List Int) (t6_0 : Int) (t7_0 : Int) : Option (Int × Unit) :=
  iter (fun r y => yCs n (fun t5_0 t6_0 t7_0 => r ((t5_0, (t6_0, (t7_0, ()))), ((), ()))) y.1.1 y.1.2.1 y.1.2.2.1) k ((t5_0, (t6_0, (t7_0, ()))), ((), ()))
def yHe (n : Nat) (l : List Int) : Option (Int × Unit) :=
  (y5k n n (l) ((↑l.length : Int)) ((0 : Int)))
theorem yME (n : Nat) (x : yK3.den) : runF yOP (yJQ n) Tryz.f41 yK3 yOX x = yHe n x.1 := by kernel_rfl
def yDH (t5_0 : List Int) (t7_0 : Int) (v1 : Int) : Option ((Int × Unit) ⊕ Unit) :=
  (bif v1 != 0 then (some (Sum.inl ((v1, ())))) else (some (Sum.inr ())))
def yCK (t5_0 : List Int) : Option (Int × Unit) :=
  (some (((0 : Int), ())))
theorem yBR (n : Nat) (hn : big ≤ n)  (t5_0 : List Int) (hx : List.length (t5_0) < lenMax) : LeF some (yE (fun i__ e__ s__ => yDH t5_0 i__ e__) (fun s__ => yCK t5_0) 0 (t5_0) ()) (y5k n n t5_0 (List.length (t5_0) : Int) 0) := by
  refine yL (f := some) (W := fun k__ i__ s__ => y5k n k__ t5_0 (List.length (t5_0) : Int) i__) (body := (fun i__ e__ s__ => yDH t5_0 i__ e__)) (fin := (fun s__ => yCK t5_0)) (fun k__ i__ s__ => ?_) hx () n (by unfold big at hn; unfold lenMax at hx; omega)
  show LeF _ _ (yCs n (y5k n k__) t5_0 (List.length (t5_0) : Int) i__)
  exact y3 (y8 fun v1 => (y3 (y5 rfl) (y5 rfl))) (yw (y5 rfl))
def y0s (l : List Int) : Option (Int × Unit) :=
  (bif decide (List.length (l) < lenMax) then yE (fun i__ e__ s__ => yDH (l) i__ e__) (fun s__ => yCK (l)) 0 (l) () else none)
theorem yKr (l : List Int) (y : Int × Unit) (h : y0s l = some y) : ∃ n, yHe n l = some y :=
  ⟨big, LeF.top (show LeF some (y0s l) (yHe big l) from (fun (n : Nat) (hn : big ≤ n) => show LeF some (y0s l) (yHe n l) from (yK fun hx => by apply yBR n hn; exact hx)) big (Nat.le_refl _)) h⟩
def z0D_e : Entry := { f := 41, args := yK3, ress := yOX, m := fun x => y0s x.1 }
theorem y4D : FnOK Tryz.prog z0D_e := yW (g := yOP) (fn := Tryz.f41) yD yV eNil (by kernel_rfl) (by kernel_rfl) (by kernel_rfl) (fun x y h => let ⟨n, hn⟩ := yKr x.1 y h; ⟨yJQ n, iNil, (yME n x).trans hn⟩)
abbrev yL5 : Ty := .pair t4 (.pair t42 .unit)
abbrev yMg : Ty := .pair t42 .unit
def yOc : G := { T := T, E := [], muts := [], fz := [] }
def yQY : List (List Nat) := []
def yIz (n : Nat) : Ann := { keep := yQY, fuel := n, inl := [], deep := 0 }
def yHS (n : Nat) (holds : Bool) (e : Int) : Option (Int × Unit) :=
  (bif holds then some (e, ()) else some ((0 : Int), ()))
theorem yMZ (n : Nat) (x : yL5.den) : runF yOc (yIz n) Tryz.f65 yL5 yMg x = yHS n x.1 x.2.1 := by kernel_rfl
def z0H (holds : Bool) (e : Int) : (Int × Unit) :=
  (bif holds then (e, ()) else ((0 : Int), ()))
abbrev yNb (holds : Bool) (e : Int) : Option (Int × Unit) := some (z0H holds e)
theorem yKK (holds : Bool) (e : Int) (y : Int × Unit) (h : yNb holds e = some y) : ∃ n, yHS n holds e = some y :=
  ⟨0, by rw [← h]; show yHS 0 holds e = some (z0H holds e); unfold yHS z0H; first | rfl | (simp only [yG]; done) | (simp only [yG]; rfl)⟩
def z0H_e : Entry := { f := 65, args := yL5, ress := yMg, m := fun x => yNb x.1 x.2.1 }
theorem yN8 : FnOK Tryz.prog z0H_e := yW (g := yOc) (fn := Tryz.f65) yD yV eNil (by kernel_rfl) (by kernel_rfl) (by kernel_rfl) (fun x y h => let ⟨n, hn⟩ := yKK x.1 x.2.1 y h; ⟨yIz n, iNil, (yMZ n x).trans hn⟩)
abbrev yKO : Ty := .pair t131 .unit
abbrev yLH : Ty := .pair t42 .unit
def yN4 : G := { T := T, E := [], muts := [], fz := [] }
def yPF : List (List Nat) := [[5, 6, 7]]
def yJ5 (n : Nat) : Ann := { keep := yPF, fuel := n, inl := [], deep := 0 }
def yCj (n : Nat) (r0 : List Int → Int → Int → Option (Int × Unit)) (t5_0 : List Int) (t6_0 : Int) (t7_0 : Int) : Option (Int × Unit) :=
  (bif decide (t7_0 < t6_0) then (Option.bind (idx t5_0 t7_0) fun (v1 : Int) => (bif v1 != 0 then some (v1, ()) else r0 t5_0 t6_0 (IntKind.i64.wrap (t7_0 + 1)))) else some ((0 : Int), ()))
def y61 (n : Nat)  (k : Nat) (t5_0 : List Int) (t6_0 : Int) (t7_0 : Int) : Option (Int × Unit) :=
  iter (fun r y => yCj n (fun t5_0 t6_0 t7_0 => r ((t5_0, (t6_0, (t7_0, ()))), ((), ()))) y.1.1 y.1.2.1 y.1.2.2.1) k ((t5_0, (t6_0, (t7_0, ()))), ((), ()))
def yHo (n : Nat) (l : List Int) : Option (Int × Unit) :=
  (y61 n n (l) ((↑l.length : Int)) ((0 : Int)))
theorem yLI (n : Nat) (x : yKO.den) : runF yN4 (yJ5 n) Tryz.f38 yKO yLH x = yHo n x.1 := by kernel_rfl
def yCm (t5_0 : List Int) (t7_0 : Int) (v1 : Int) : Option ((Int × Unit) ⊕ Unit) :=
  (bif v1 != 0 then (some (Sum.inl ((v1, ())))) else (some (Sum.inr ())))
def yFx (t5_0 : List Int) : Option (Int × Unit) :=
  (some (((0 : Int), ())))
theorem yCB (n : Nat) (hn : big ≤ n)  (t5_0 : List Int) (hx : List.length (t5_0) < lenMax) : LeF some (yE (fun i__ e__ s__ => yCm t5_0 i__ e__) (fun s__ => yFx t5_0) 0 (t5_0) ()) (y61 n n t5_0 (List.length (t5_0) : Int) 0) := by
  refine yL (f := some) (W := fun k__ i__ s__ => y61 n k__ t5_0 (List.length (t5_0) : Int) i__) (body := (fun i__ e__ s__ => yCm t5_0 i__ e__)) (fin := (fun s__ => yFx t5_0)) (fun k__ i__ s__ => ?_) hx () n (by unfold big at hn; unfold lenMax at hx; omega)
  show LeF _ _ (yCj n (y61 n k__) t5_0 (List.length (t5_0) : Int) i__)
  exact y3 (y8 fun v1 => (y3 (y5 rfl) (y5 rfl))) (yw (y5 rfl))
def yA1 (l : List Int) : Option (Int × Unit) :=
  (bif decide (List.length (l) < lenMax) then yE (fun i__ e__ s__ => yCm (l) i__ e__) (fun s__ => yFx (l)) 0 (l) () else none)
theorem yKR (l : List Int) (y : Int × Unit) (h : yA1 l = some y) : ∃ n, yHo n l = some y :=
  ⟨big, LeF.top (show LeF some (yA1 l) (yHo big l) from (fun (n : Nat) (hn : big ≤ n) => show LeF some (yA1 l) (yHo n l) from (yK fun hx => by apply yCB n hn; exact hx)) big (Nat.le_refl _)) h⟩
def z08_e : Entry := { f := 38, args := yKO, ress := yLH, m := fun x => yA1 x.1 }
theorem yN2 : FnOK Tryz.prog z08_e := yW (g := yN4) (fn := Tryz.f38) yD yV eNil (by kernel_rfl) (by kernel_rfl) (by kernel_rfl) (fun x y h => let ⟨n, hn⟩ := yKR x.1 y h; ⟨yJ5 n, iNil, (yLI n x).trans hn⟩)
abbrev zd_a : Ty := .pair t25 .unit
abbrev zd_r : Ty := .pair t56 .unit
def zd_g : G := { T := T, E := [], muts := [3], fz := [] }
def zd_k : List (List Nat) := [[1, 2, 3, 9, 10, 11], [2, 3, 23, 24, 25]]
def yNa (n : Nat) : Ann := { keep := zd_k, fuel := n, inl := [], deep := 0 }
def yGc (n : Nat) (r2 : List Tra → Int → Int → List Sta → List Tra → Option (Cha × Unit)) (t23_2 : List Tra) (t24_2 : Int) (t25_2 : Int) (cs2_2 : List Sta) (cs3_2 : List Tra) : Option (Cha × Unit) :=
  (bif decide (t25_2 < t24_2) then (Option.bind (idx t23_2 t25_2) fun (v3 : Tra) => (bif decide (cs3_2.length + (1 : Nat) ≤ memMax) then r2 t23_2 t24_2 (IntKind.i64.wrap (t25_2 + 1)) cs2_2 (cs3_2 ++ [(v3.1, v3.2.1, v3.2.2.1, v3.2.2.2.1, v3.2.2.2.2.1, ())]) else none)) else some ((cs2_2, cs3_2, ()), ()))
def y9B (n : Nat)  (k : Nat) (t23_2 : List Tra) (t24_2 : Int) (t25_2 : Int) (cs2_2 : List Sta) (cs3_2 : List Tra) : Option (Cha × Unit) :=
  iter (fun r y => yGc n (fun t23_2 t24_2 t25_2 cs2_2 cs3_2 => r ((t23_2, (t24_2, (t25_2, ()))), (((), ((), (cs2_2, (cs3_2, ())))), ()))) y.1.1 y.1.2.1 y.1.2.2.1 y.2.1.2.2.1 y.2.1.2.2.2.1) k ((t23_2, (t24_2, (t25_2, ()))), (((), ((), (cs2_2, (cs3_2, ())))), ()))
def yFW (n : Nat) (r0 : Cha → List Sta → Int → Int → List Sta → List Tra → Option (Cha × Unit)) (c1_0 : Cha) (t9_0 : List Sta) (t10_0 : Int) (t11_0 : Int) (cs2_0 : List Sta) (cs3_0 : List Tra) : Option (Cha × Unit) :=
  (bif decide (t11_0 < t10_0) then (Option.bind (idx t9_0 t11_0) fun (v1 : Sta) => (bif decide (cs2_0.length + (1 : Nat) ≤ memMax) then r0 c1_0 t9_0 t10_0 (IntKind.i64.wrap (t11_0 + 1)) (cs2_0 ++ [(v1.1, v1.2.1, v1.2.2.1, v1.2.2.2.1, ())]) cs3_0 else none)) else (y9B n n (c1_0.2.1) ((↑c1_0.2.1.length : Int)) ((0 : Int)) (cs2_0) (cs3_0)))
def y8p (n : Nat)  (k : Nat) (c1_0 : Cha) (t9_0 : List Sta) (t10_0 : Int) (t11_0 : Int) (cs2_0 : List Sta) (cs3_0 : List Tra) : Option (Cha × Unit) :=
  iter (fun r y => yFW n (fun c1_0 t9_0 t10_0 t11_0 cs2_0 cs3_0 => r ((c1_0, (t9_0, (t10_0, (t11_0, ())))), (((), ((), (cs2_0, (cs3_0, ())))), ()))) y.1.1 y.1.2.1 y.1.2.2.1 y.1.2.2.2.1 y.2.1.2.2.1 y.2.1.2.2.2.1) k ((c1_0, (t9_0, (t10_0, (t11_0, ())))), (((), ((), (cs2_0, (cs3_0, ())))), ()))
def zd_m (n : Nat) (c : Cha) : Option (Cha × Unit) :=
  (y8p n n (c) (c.1) ((↑c.1.length : Int)) ((0 : Int)) ([]) ([]))
theorem yQL (n : Nat) (x : zd_a.den) : runF zd_g (yNa n) Tryz.f16 zd_a zd_r x = zd_m n x.1 := by kernel_rfl
def yHQ (t23_2 : List Tra) (cs2_2 : List Sta) (t25_2 : Int) (v3 : Tra) (cs3_2 : List Tra) : Option ((Cha × Unit) ⊕ (List Tra)) :=
  (bif decide (cs3_2.length + (1 : Nat) ≤ memMax) then (some (Sum.inr (cs3_2 ++ [(v3.1, v3.2.1, v3.2.2.1, v3.2.2.2.1, v3.2.2.2.2.1, ())]))) else none)
def yKm (t23_2 : List Tra) (cs2_2 : List Sta) (cs3_2 : List Tra) : Option (Cha × Unit) :=
  (some (((cs2_2, cs3_2, ()), ())))
theorem yEF (n : Nat) (hn : big ≤ n)  (t23_2 : List Tra) (cs2_2 : List Sta) (cs3_2 : List Tra) (hx : List.length (t23_2) < lenMax) : LeF some (yE (fun i__ e__ s__ => yHQ t23_2 cs2_2 i__ e__ s__) (fun s__ => yKm t23_2 cs2_2 s__) 0 (t23_2) cs3_2) (y9B n n t23_2 (List.length (t23_2) : Int) 0 cs2_2 cs3_2) := by
  refine yL (f := some) (W := fun k__ i__ s__ => y9B n k__ t23_2 (List.length (t23_2) : Int) i__ cs2_2 s__) (body := (fun i__ e__ s__ => yHQ t23_2 cs2_2 i__ e__ s__)) (fin := (fun s__ => yKm t23_2 cs2_2 s__)) (fun k__ i__ s__ => ?_) hx cs3_2 n (by unfold big at hn; unfold lenMax at hx; omega)
  show LeF _ _ (yGc n (y9B n k__) t23_2 (List.length (t23_2) : Int) i__ cs2_2 s__)
  exact y3 (y8 fun v3 => (y3 (y5 rfl) yr)) (yw (y5 rfl))
def yIp (c1_0 : Cha) (t9_0 : List Sta) (cs3_0 : List Tra) (t11_0 : Int) (v1 : Sta) (cs2_0 : List Sta) : Option ((Cha × Unit) ⊕ (List Sta)) :=
  (bif decide (cs2_0.length + (1 : Nat) ≤ memMax) then (some (Sum.inr (cs2_0 ++ [(v1.1, v1.2.1, v1.2.2.1, v1.2.2.2.1, ())]))) else none)
def yHn (c1_0 : Cha) (t9_0 : List Sta) (cs3_0 : List Tra) (cs2_0 : List Sta) : Option (Cha × Unit) :=
  (bif decide (List.length (c1_0.2.1) < lenMax) then yE (fun i__ e__ s__ => yHQ (c1_0.2.1) (cs2_0) i__ e__ s__) (fun s__ => yKm (c1_0.2.1) (cs2_0) s__) 0 (c1_0.2.1) (cs3_0) else none)
theorem yF3 (n : Nat) (hn : big ≤ n)  (c1_0 : Cha) (t9_0 : List Sta) (cs3_0 : List Tra) (cs2_0 : List Sta) (hx : List.length (t9_0) < lenMax) : LeF some (yE (fun i__ e__ s__ => yIp c1_0 t9_0 cs3_0 i__ e__ s__) (fun s__ => yHn c1_0 t9_0 cs3_0 s__) 0 (t9_0) cs2_0) (y8p n n c1_0 t9_0 (List.length (t9_0) : Int) 0 cs2_0 cs3_0) := by
  refine yL (f := some) (W := fun k__ i__ s__ => y8p n k__ c1_0 t9_0 (List.length (t9_0) : Int) i__ s__ cs3_0) (body := (fun i__ e__ s__ => yIp c1_0 t9_0 cs3_0 i__ e__ s__)) (fin := (fun s__ => yHn c1_0 t9_0 cs3_0 s__)) (fun k__ i__ s__ => ?_) hx cs2_0 n (by unfold big at hn; unfold lenMax at hx; omega)
  show LeF _ _ (yFW n (y8p n k__) c1_0 t9_0 (List.length (t9_0) : Int) i__ s__ cs3_0)
  exact y3 (y8 fun v1 => (y3 (y5 rfl) yr)) (yw (yK fun hx => by apply yEF n hn; exact hx))
def zd_M (c : Cha) : Option (Cha × Unit) :=
  (bif decide (List.length (c.1) < lenMax) then yE (fun i__ e__ s__ => yIp (c) (c.1) ([]) i__ e__ s__) (fun s__ => yHn (c) (c.1) ([]) s__) 0 (c.1) ([]) else none)
theorem yOn (c : Cha) (y : Cha × Unit) (h : zd_M c = some y) : ∃ n, zd_m n c = some y :=
  ⟨big, LeF.top (show LeF some (zd_M c) (zd_m big c) from (fun (n : Nat) (hn : big ≤ n) => show LeF some (zd_M c) (zd_m n c) from (yK fun hx => by apply yF3 n hn; exact hx)) big (Nat.le_refl _)) h⟩
def zd_e : Entry := { f := 16, args := zd_a, ress := zd_r, m := fun x => zd_M x.1 }
theorem yQU : FnOK Tryz.prog zd_e := yW (g := zd_g) (fn := Tryz.f16) yD yV eNil (by kernel_rfl) (by kernel_rfl) (by kernel_rfl) (fun x y h => let ⟨n, hn⟩ := yOn x.1 y h; ⟨yNa n, iNil, (yQL n x).trans hn⟩)
abbrev zV_a : Ty := .pair t26 .unit
abbrev zV_r : Ty := .pair t50 .unit
def zV_g : G := { T := T, E := [], muts := [3], fz := [] }
def zV_k : List (List Nat) := [[3, 6, 7, 8]]
def yLf (n : Nat) : Ann := { keep := zV_k, fuel := n, inl := [], deep := 0 }
def yGP (n : Nat) (r0 : List (List UInt8 × Int × Unit) → Int → Int → List (List UInt8 × Int × Unit) → Option (List (List UInt8 × Int × Unit) × Unit)) (t6_0 : List (List UInt8 × Int × Unit)) (t7_0 : Int) (t8_0 : Int) (c0_0 : List (List UInt8 × Int × Unit)) : Option (List (List UInt8 × Int × Unit) × Unit) :=
  (bif decide (t8_0 < t7_0) then (Option.bind (idx t6_0 t8_0) fun (v1 : List UInt8 × Int × Unit) => (bif decide (c0_0.length + (1 : Nat) ≤ memMax) then r0 t6_0 t7_0 (IntKind.i64.wrap (t8_0 + 1)) (c0_0 ++ [(v1.1, v1.2.1, ())]) else none)) else some (c0_0, ()))
def y8Y (n : Nat)  (k : Nat) (t6_0 : List (List UInt8 × Int × Unit)) (t7_0 : Int) (t8_0 : Int) (c0_0 : List (List UInt8 × Int × Unit)) : Option (List (List UInt8 × Int × Unit) × Unit) :=
  iter (fun r y => yGP n (fun t6_0 t7_0 t8_0 c0_0 => r ((t6_0, (t7_0, (t8_0, ()))), ((c0_0, ()), ()))) y.1.1 y.1.2.1 y.1.2.2.1 y.2.1.1) k ((t6_0, (t7_0, (t8_0, ()))), ((c0_0, ()), ()))
def zV_m (n : Nat) (l : List (List UInt8 × Int × Unit)) : Option (List (List UInt8 × Int × Unit) × Unit) :=
  (y8Y n n (l) ((↑l.length : Int)) ((0 : Int)) ([]))
theorem yQB (n : Nat) (x : zV_a.den) : runF zV_g (yLf n) Tryz.f17 zV_a zV_r x = zV_m n x.1 := by kernel_rfl
def yIc (t6_0 : List (List UInt8 × Int × Unit)) (t8_0 : Int) (v1 : List UInt8 × Int × Unit) (c0_0 : List (List UInt8 × Int × Unit)) : Option ((List (List UInt8 × Int × Unit) × Unit) ⊕ (List (List UInt8 × Int × Unit))) :=
  (bif decide (c0_0.length + (1 : Nat) ≤ memMax) then (some (Sum.inr (c0_0 ++ [(v1.1, v1.2.1, ())]))) else none)
def yKT (t6_0 : List (List UInt8 × Int × Unit)) (c0_0 : List (List UInt8 × Int × Unit)) : Option (List (List UInt8 × Int × Unit) × Unit) :=
  (some ((c0_0, ())))
theorem yEy (n : Nat) (hn : big ≤ n)  (t6_0 : List (List UInt8 × Int × Unit)) (c0_0 : List (List UInt8 × Int × Unit)) (hx : List.length (t6_0) < lenMax) : LeF some (yE (fun i__ e__ s__ => yIc t6_0 i__ e__ s__) (fun s__ => yKT t6_0 s__) 0 (t6_0) c0_0) (y8Y n n t6_0 (List.length (t6_0) : Int) 0 c0_0) := by
  refine yL (f := some) (W := fun k__ i__ s__ => y8Y n k__ t6_0 (List.length (t6_0) : Int) i__ s__) (body := (fun i__ e__ s__ => yIc t6_0 i__ e__ s__)) (fin := (fun s__ => yKT t6_0 s__)) (fun k__ i__ s__ => ?_) hx c0_0 n (by unfold big at hn; unfold lenMax at hx; omega)
  show LeF _ _ (yGP n (y8Y n k__) t6_0 (List.length (t6_0) : Int) i__ s__)
  exact y3 (y8 fun v1 => (y3 (y5 rfl) yr)) (yw (y5 rfl))
def zV_M (l : List (List UInt8 × Int × Unit)) : Option (List (List UInt8 × Int × Unit) × Unit) :=
  (bif decide (List.length (l) < lenMax) then yE (fun i__ e__ s__ => yIc (l) i__ e__ s__) (fun s__ => yKT (l) s__) 0 (l) ([]) else none)
theorem yOQ (l : List (List UInt8 × Int × Unit)) (y : List (List UInt8 × Int × Unit) × Unit) (h : zV_M l = some y) : ∃ n, zV_m n l = some y :=
  ⟨big, LeF.top (show LeF some (zV_M l) (zV_m big l) from (fun (n : Nat) (hn : big ≤ n) => show LeF some (zV_M l) (zV_m n l) from (yK fun hx => by apply yEy n hn; exact hx)) big (Nat.le_refl _)) h⟩
def zV_e : Entry := { f := 17, args := zV_a, ress := zV_r, m := fun x => zV_M x.1 }
theorem yOx : FnOK Tryz.prog zV_e := yW (g := zV_g) (fn := Tryz.f17) yD yV eNil (by kernel_rfl) (by kernel_rfl) (by kernel_rfl) (fun x y h => let ⟨n, hn⟩ := yOQ x.1 y h; ⟨yLf n, iNil, (yQB n x).trans hn⟩)
end
end Go.Tw
end
section
set_option linter.all false
set_option maxRecDepth 1000000
namespace Go.Tw
open Go.Vx Go.Vx.B Go.Proofs
noncomputable section
abbrev yJq : Ty := .pair t4 (.pair t42 .unit)
abbrev yLz : Ty := .pair t42 .unit
def yN3 : G := { T := T, E := [], muts := [], fz := [] }
def yPd : List (List Nat) := []
def yJI (n : Nat) : Ann := { keep := yPd, fuel := n, inl := [], deep := 0 }
def yIM (n : Nat) (holds : Bool) (e : Int) : Option (Int × Unit) :=
  (bif holds then some (e, ()) else some ((0 : Int), ()))
theorem yLc (n : Nat) (x : yJq.den) : runF yN3 (yJI n) Tryz.f57 yJq yLz x = yIM n x.1 x.2.1 := by kernel_rfl
def z0L (holds : Bool) (e : Int) : (Int × Unit) :=
  (bif holds then (e, ()) else ((0 : Int), ()))
abbrev yLW (holds : Bool) (e : Int) : Option (Int × Unit) := some (z0L holds e)
theorem yKI (holds : Bool) (e : Int) (y : Int × Unit) (h : yLW holds e = some y) : ∃ n, yIM n holds e = some y :=
  ⟨0, by rw [← h]; show yIM 0 holds e = some (z0L holds e); unfold yIM z0L; first | rfl | (simp only [yG]; done) | (simp only [yG]; rfl)⟩
def z0L_e : Entry := { f := 57, args := yJq, ress := yLz, m := fun x => yLW x.1 x.2.1 }
theorem y5H : FnOK Tryz.prog z0L_e := yW (g := yN3) (fn := Tryz.f57) yD yV eNil (by kernel_rfl) (by kernel_rfl) (by kernel_rfl) (fun x y h => let ⟨n, hn⟩ := yKI x.1 x.2.1 y h; ⟨yJI n, iNil, (yLc n x).trans hn⟩)
abbrev z6_a : Ty := .pair t54 (.pair t137 .unit)
abbrev z6_r : Ty := .pair t131 .unit
def z6_g : G := { T := T, E := [], muts := [5], fz := [] }
def z6_k : List (List Nat) := [[1, 5, 8, 9, 10]]
def yNc (n : Nat) : Ann := { keep := z6_k, fuel := n, inl := [], deep := 0 }
def yFz (n : Nat) (r0 : (Tra × Unit → Option (Int × Unit)) → List Tra → Int → Int → List Int → Option (List Int × Unit)) (of1_0 : Tra × Unit → Option (Int × Unit)) (t8_0 : List Tra) (t9_0 : Int) (t10_0 : Int) (c0_0 : List Int) : Option (List Int × Unit) :=
  (bif decide (t10_0 < t9_0) then (Option.bind (idx t8_0 t10_0) fun (v1 : Tra) => (Option.bind (of1_0 ((v1.1, v1.2.1, v1.2.2.1, v1.2.2.2.1, v1.2.2.2.2.1, ()), ())) fun (v2 : Int × Unit) => (bif decide (c0_0.length + (1 : Nat) ≤ memMax) then r0 of1_0 t8_0 t9_0 (IntKind.i64.wrap (t10_0 + 1)) (c0_0 ++ [v2.1]) else none))) else some (c0_0, ()))
def y92 (n : Nat)  (k : Nat) (of1_0 : Tra × Unit → Option (Int × Unit)) (t8_0 : List Tra) (t9_0 : Int) (t10_0 : Int) (c0_0 : List Int) : Option (List Int × Unit) :=
  iter (fun r y => yFz n (fun of1_0 t8_0 t9_0 t10_0 c0_0 => r ((of1_0, (t8_0, (t9_0, (t10_0, ())))), ((c0_0, ()), ()))) y.1.1 y.1.2.1 y.1.2.2.1 y.1.2.2.2.1 y.2.1.1) k ((of1_0, (t8_0, (t9_0, (t10_0, ())))), ((c0_0, ()), ()))
def z6_m (n : Nat) (l : List Tra) (of : Tra × Unit → Option (Int × Unit)) : Option (List Int × Unit) :=
  (y92 n n (of) (l) ((↑l.length : Int)) ((0 : Int)) ([]))
theorem yQG (n : Nat) (x : z6_a.den) : runF z6_g (yNc n) Tryz.f70 z6_a z6_r x = z6_m n x.1 x.2.1 := by kernel_rfl
def yI9 (of1_0 : Tra × Unit → Option (Int × Unit)) (t8_0 : List Tra) (t10_0 : Int) (v1 : Tra) (c0_0 : List Int) : Option ((List Int × Unit) ⊕ (List Int)) :=
  (Option.bind (of1_0 ((v1.1, v1.2.1, v1.2.2.1, v1.2.2.2.1, v1.2.2.2.2.1, ()), ())) fun (v2 : Int × Unit) => (bif decide (c0_0.length + (1 : Nat) ≤ memMax) then (some (Sum.inr (c0_0 ++ [v2.1]))) else none))
def yKq (of1_0 : Tra × Unit → Option (Int × Unit)) (t8_0 : List Tra) (c0_0 : List Int) : Option (List Int × Unit) :=
  (some ((c0_0, ())))
theorem yDy (n : Nat) (hn : big ≤ n)  (of1_0 : Tra × Unit → Option (Int × Unit)) (t8_0 : List Tra) (c0_0 : List Int) (hx : List.length (t8_0) < lenMax) : LeF some (yE (fun i__ e__ s__ => yI9 of1_0 t8_0 i__ e__ s__) (fun s__ => yKq of1_0 t8_0 s__) 0 (t8_0) c0_0) (y92 n n of1_0 t8_0 (List.length (t8_0) : Int) 0 c0_0) := by
  refine yL (f := some) (W := fun k__ i__ s__ => y92 n k__ of1_0 t8_0 (List.length (t8_0) : Int) i__ s__) (body := (fun i__ e__ s__ => yI9 of1_0 t8_0 i__ e__ s__)) (fin := (fun s__ => yKq of1_0 t8_0 s__)) (fun k__ i__ s__ => ?_) hx c0_0 n (by unfold big at hn; unfold lenMax at hx; omega)
  show LeF _ _ (yFz n (y92 n k__) of1_0 t8_0 (List.length (t8_0) : Int) i__ s__)
  exact y3 (y8 fun v1 => (y8 fun v2 => (y3 (y5 rfl) yr))) (yw (y5 rfl))
def z6_M (l : List Tra) (of : Tra × Unit → Option (Int × Unit)) : Option (List Int × Unit) :=
  (bif decide (List.length (l) < lenMax) then yE (fun i__ e__ s__ => yI9 (of) (l) i__ e__ s__) (fun s__ => yKq (of) (l) s__) 0 (l) ([]) else none)
theorem yMe (l : List Tra) (of : Tra × Unit → Option (Int × Unit)) (y : List Int × Unit) (h : z6_M l of = some y) : ∃ n, z6_m n l of = some y :=
  ⟨big, LeF.top (show LeF some (z6_M l of) (z6_m big l of) from (fun (n : Nat) (hn : big ≤ n) => show LeF some (z6_M l of) (z6_m n l of) from (yK fun hx => by apply yDy n hn; exact hx)) big (Nat.le_refl _)) h⟩
def z6_e : Entry := { f := 70, args := z6_a, ress := z6_r, m := fun x => z6_M x.1 x.2.1 }
theorem yQ1 : FnOK Tryz.prog z6_e := yW (g := z6_g) (fn := Tryz.f70) yD yV eNil (by kernel_rfl) (by kernel_rfl) (by kernel_rfl) (fun x y h => let ⟨n, hn⟩ := yMe x.1 x.2.1 y h; ⟨yNc n, iNil, (yQG n x).trans hn⟩)
abbrev yK8 : Ty := .pair t25 (.pair t3 (.pair t39 .unit))
abbrev yMW : Ty := .pair t3 (.pair t86 .unit)
def yMR : G := { T := T, E := [], muts := [], fz := [] }
def yPx : List (List Nat) := [[3, 5, 7, 8], [3, 5, 7, 8, 9, 10, 11]]
def yJR (n : Nat) : Ann := { keep := yPx, fuel := n, inl := [], deep := 0 }
def yCU (n : Nat) (r0 : Cha → List UInt8 × Int × Unit → Int → Int → List UInt8 → Int → Int → Int → Option (Int × Tra × Unit)) (r1 : Cha → List UInt8 × Int × Unit → Int → Int → Int → Int → List UInt8 → Int → Int → Int → Int → List UInt8 → Int → Int → Int → Option (Int × Tra × Unit)) (c3_1 : Cha) (in5_1 : List UInt8 × Int × Unit) (s8_1 : Int) (n9_1 : Int) (i11_1 : Int) (b0_0_1 : Int) (b0_1_1 : List UInt8) (b0_2_1 : Int) (b0_3_1 : Int) (b0_4_1 : Int) (b1_0_1 : Int) (b1_1_1 : List UInt8) (b1_2_1 : Int) (b1_3_1 : Int) (b1_4_1 : Int) : Option (Int × Tra × Unit) :=
  (bif decide (i11_1 < (↑c3_1.2.1.length : Int)) then (Option.bind (idx c3_1.2.1 i11_1) fun (v2 : Tra) => (bif v2.1 == s8_1 then (bif v2.2.1 == in5_1.1 then (bif yb IntKind.i64 Go.BinOp.and in5_1.2.1 v2.2.2.2.1 == v2.2.2.2.2.1 then r1 c3_1 in5_1 s8_1 (IntKind.i64.wrap (n9_1 + 1)) (IntKind.i64.wrap (i11_1 + 1)) b0_0_1 b0_1_1 b0_2_1 b0_3_1 b0_4_1 v2.1 v2.2.1 v2.2.2.1 v2.2.2.2.1 v2.2.2.2.2.1 else r1 c3_1 in5_1 s8_1 n9_1 (IntKind.i64.wrap (i11_1 + 1)) b0_0_1 b0_1_1 b0_2_1 b0_3_1 b0_4_1 b1_0_1 b1_1_1 b1_2_1 b1_3_1 b1_4_1) else r1 c3_1 in5_1 s8_1 n9_1 (IntKind.i64.wrap (i11_1 + 1)) b0_0_1 b0_1_1 b0_2_1 b0_3_1 b0_4_1 b1_0_1 b1_1_1 b1_2_1 b1_3_1 b1_4_1) else r1 c3_1 in5_1 s8_1 n9_1 (IntKind.i64.wrap (i11_1 + 1)) b0_0_1 b0_1_1 b0_2_1 b0_3_1 b0_4_1 b1_0_1 b1_1_1 b1_2_1 b1_3_1 b1_4_1)) else (bif decide (n9_1 > 0) then some (n9_1, (b1_0_1, b1_1_1, b1_2_1, b1_3_1, b1_4_1, ()), ()) else (Option.bind (idx c3_1.1 s8_1) fun (v17 : Sta) => r0 c3_1 in5_1 v17.2.1 b0_0_1 b0_1_1 b0_2_1 b0_3_1 b0_4_1)))
def y60 (n : Nat) (r0 : Cha → List UInt8 × Int × Unit → Int → Int → List UInt8 → Int → Int → Int → Option (Int × Tra × Unit)) (k : Nat) (c3_1 : Cha) (in5_1 : List UInt8 × Int × Unit) (s8_1 : Int) (n9_1 : Int) (i11_1 : Int) (b0_0_1 : Int) (b0_1_1 : List UInt8) (b0_2_1 : Int) (b0_3_1 : Int) (b0_4_1 : Int) (b1_0_1 : Int) (b1_1_1 : List UInt8) (b1_2_1 : Int) (b1_3_1 : Int) (b1_4_1 : Int) : Option (Int × Tra × Unit) :=
  iter (fun r y => yCU n r0 (fun c3_1 in5_1 s8_1 n9_1 i11_1 b0_0_1 b0_1_1 b0_2_1 b0_3_1 b0_4_1 b1_0_1 b1_1_1 b1_2_1 b1_3_1 b1_4_1 => r ((c3_1, (in5_1, (s8_1, (n9_1, (i11_1, ()))))), (((b0_0_1, (b0_1_1, (b0_2_1, (b0_3_1, (b0_4_1, ()))))), ((b1_0_1, (b1_1_1, (b1_2_1, (b1_3_1, (b1_4_1, ()))))), ())), ()))) y.1.1 y.1.2.1 y.1.2.2.1 y.1.2.2.2.1 y.1.2.2.2.2.1 y.2.1.1.1 y.2.1.1.2.1 y.2.1.1.2.2.1 y.2.1.1.2.2.2.1 y.2.1.1.2.2.2.2.1 y.2.1.2.1.1 y.2.1.2.1.2.1 y.2.1.2.1.2.2.1 y.2.1.2.1.2.2.2.1 y.2.1.2.1.2.2.2.2.1) k ((c3_1, (in5_1, (s8_1, (n9_1, (i11_1, ()))))), (((b0_0_1, (b0_1_1, (b0_2_1, (b0_3_1, (b0_4_1, ()))))), ((b1_0_1, (b1_1_1, (b1_2_1, (b1_3_1, (b1_4_1, ()))))), ())), ()))
def yCb (n : Nat) (r0 : Cha → List UInt8 × Int × Unit → Int → Int → List UInt8 → Int → Int → Int → Option (Int × Tra × Unit)) (c3_0 : Cha) (in5_0 : List UInt8 × Int × Unit) (s8_0 : Int) (b0_0_0 : Int) (b0_1_0 : List UInt8) (b0_2_0 : Int) (b0_3_0 : Int) (b0_4_0 : Int) : Option (Int × Tra × Unit) :=
  (bif decide (s8_0 ≥ 0) then (y60 n r0 n (c3_0) (in5_0) (s8_0) ((0 : Int)) ((0 : Int)) (b0_0_0) (b0_1_0) (b0_2_0) (b0_3_0) (b0_4_0) ((0 : Int)) ([]) ((0 : Int)) ((0 : Int)) ((0 : Int))) else some ((0 : Int), ((0 : Int), [], (0 : Int), (0 : Int), (0 : Int), ()), ()))
def y5t (n : Nat)  (k : Nat) (c3_0 : Cha) (in5_0 : List UInt8 × Int × Unit) (s8_0 : Int) (b0_0_0 : Int) (b0_1_0 : List UInt8) (b0_2_0 : Int) (b0_3_0 : Int) (b0_4_0 : Int) : Option (Int × Tra × Unit) :=
  iter (fun r y => yCb n (fun c3_0 in5_0 s8_0 b0_0_0 b0_1_0 b0_2_0 b0_3_0 b0_4_0 => r ((c3_0, (in5_0, (s8_0, ()))), (((b0_0_0, (b0_1_0, (b0_2_0, (b0_3_0, (b0_4_0, ()))))), ()), ()))) y.1.1 y.1.2.1 y.1.2.2.1 y.2.1.1.1 y.2.1.1.2.1 y.2.1.1.2.2.1 y.2.1.1.2.2.2.1 y.2.1.1.2.2.2.2.1) k ((c3_0, (in5_0, (s8_0, ()))), (((b0_0_0, (b0_1_0, (b0_2_0, (b0_3_0, (b0_4_0, ()))))), ()), ()))
def yIg (n : Nat) (c : Cha) (leaf : Int) (p2 : List UInt8 × Int × Unit) : Option (Int × Tra × Unit) :=
  (y5t n n (c) (p2) (leaf) ((0 : Int)) ([]) ((0 : Int)) ((0 : Int)) ((0 : Int)))
theorem yLi (n : Nat) (x : yK8.den) : runF yMR (yJR n) Tryz.f60 yK8 yMW x = yIg n x.1 x.2.1 x.2.2.1 := by kernel_rfl
def y8J (c3_1 : Cha) (in5_1 : List UInt8 × Int × Unit) (s8_1 : Int) (b0_0_1 : Int) (b0_1_1 : List UInt8) (b0_2_1 : Int) (b0_3_1 : Int) (b0_4_1 : Int) (i11_1 : Int) (v2 : Tra) (n9_1 : Int) (b1_0_1 : Int) (b1_1_1 : List UInt8) (b1_2_1 : Int) (b1_3_1 : Int) (b1_4_1 : Int) : Option (((Int × Tra × Unit) ⊕ (Int)) ⊕ (Int × Int × List UInt8 × Int × Int × Int)) :=
  (bif v2.1 == s8_1 then (bif v2.2.1 == in5_1.1 then (bif yb IntKind.i64 Go.BinOp.and in5_1.2.1 v2.2.2.2.1 == v2.2.2.2.2.1 then (some (Sum.inr ((IntKind.i64.wrap (n9_1 + 1)), (v2.1), (v2.2.1), (v2.2.2.1), (v2.2.2.2.1), (v2.2.2.2.2.1)))) else (some (Sum.inr ((n9_1), (b1_0_1), (b1_1_1), (b1_2_1), (b1_3_1), (b1_4_1))))) else (some (Sum.inr ((n9_1), (b1_0_1), (b1_1_1), (b1_2_1), (b1_3_1), (b1_4_1))))) else (some (Sum.inr ((n9_1), (b1_0_1), (b1_1_1), (b1_2_1), (b1_3_1), (b1_4_1)))))
def y80 (c3_1 : Cha) (in5_1 : List UInt8 × Int × Unit) (s8_1 : Int) (b0_0_1 : Int) (b0_1_1 : List UInt8) (b0_2_1 : Int) (b0_3_1 : Int) (b0_4_1 : Int) (n9_1 : Int) (b1_0_1 : Int) (b1_1_1 : List UInt8) (b1_2_1 : Int) (b1_3_1 : Int) (b1_4_1 : Int) : Option ((Int × Tra × Unit) ⊕ (Int)) :=
  (bif decide (n9_1 > 0) then (some (Sum.inl ((n9_1, (b1_0_1, b1_1_1, b1_2_1, b1_3_1, b1_4_1, ()), ())))) else (Option.bind (idx c3_1.1 s8_1) fun (v17 : Sta) => (some (Sum.inr (v17.2.1)))))
theorem yBr (n : Nat) (hn : big ≤ n)  (r0 : Cha → List UInt8 × Int × Unit → Int → Int → List UInt8 → Int → Int → Int → Option (Int × Tra × Unit)) (c3_1 : Cha) (in5_1 : List UInt8 × Int × Unit) (s8_1 : Int) (b0_0_1 : Int) (b0_1_1 : List UInt8) (b0_2_1 : Int) (b0_3_1 : Int) (b0_4_1 : Int) (n9_1 : Int) (b1_0_1 : Int) (b1_1_1 : List UInt8) (b1_2_1 : Int) (b1_3_1 : Int) (b1_4_1 : Int) (hx : List.length (c3_1.2.1) < lenMax) : LeF (elim some fun (s__ : (Int)) => r0 c3_1 in5_1 s__ b0_0_1 b0_1_1 b0_2_1 b0_3_1 b0_4_1) (yE (fun i__ e__ s__ => y8J c3_1 in5_1 s8_1 b0_0_1 b0_1_1 b0_2_1 b0_3_1 b0_4_1 i__ e__ s__.1 s__.2.1 s__.2.2.1 s__.2.2.2.1 s__.2.2.2.2.1 s__.2.2.2.2.2) (fun s__ => y80 c3_1 in5_1 s8_1 b0_0_1 b0_1_1 b0_2_1 b0_3_1 b0_4_1 s__.1 s__.2.1 s__.2.2.1 s__.2.2.2.1 s__.2.2.2.2.1 s__.2.2.2.2.2) 0 (c3_1.2.1) (n9_1, b1_0_1, b1_1_1, b1_2_1, b1_3_1, b1_4_1)) (y60 n r0 n c3_1 in5_1 s8_1 n9_1 0 b0_0_1 b0_1_1 b0_2_1 b0_3_1 b0_4_1 b1_0_1 b1_1_1 b1_2_1 b1_3_1 b1_4_1) := by
  refine yL (f := (elim some fun (s__ : (Int)) => r0 c3_1 in5_1 s__ b0_0_1 b0_1_1 b0_2_1 b0_3_1 b0_4_1)) (W := fun k__ i__ s__ => y60 n r0 k__ c3_1 in5_1 s8_1 s__.1 i__ b0_0_1 b0_1_1 b0_2_1 b0_3_1 b0_4_1 s__.2.1 s__.2.2.1 s__.2.2.2.1 s__.2.2.2.2.1 s__.2.2.2.2.2) (body := (fun i__ e__ s__ => y8J c3_1 in5_1 s8_1 b0_0_1 b0_1_1 b0_2_1 b0_3_1 b0_4_1 i__ e__ s__.1 s__.2.1 s__.2.2.1 s__.2.2.2.1 s__.2.2.2.2.1 s__.2.2.2.2.2)) (fin := (fun s__ => y80 c3_1 in5_1 s8_1 b0_0_1 b0_1_1 b0_2_1 b0_3_1 b0_4_1 s__.1 s__.2.1 s__.2.2.1 s__.2.2.2.1 s__.2.2.2.2.1 s__.2.2.2.2.2)) (fun k__ i__ s__ => ?_) hx (n9_1, b1_0_1, b1_1_1, b1_2_1, b1_3_1, b1_4_1) n (by unfold big at hn; unfold lenMax at hx; omega)
  show LeF _ _ (yCU n r0 (y60 n r0 k__) c3_1 in5_1 s8_1 s__.1 i__ b0_0_1 b0_1_1 b0_2_1 b0_3_1 b0_4_1 s__.2.1 s__.2.2.1 s__.2.2.2.1 s__.2.2.2.2.1 s__.2.2.2.2.2)
  exact y3 (y8 fun v2 => (y3 (y3 (y3 (y5 rfl) (y5 rfl)) (y5 rfl)) (y5 rfl))) (yw (y3 (y5 rfl) (y8 fun v17 => (y5 rfl))))
def yAW (c3_0 : Cha) (in5_0 : List UInt8 × Int × Unit) (b0_0_0 : Int) (b0_1_0 : List UInt8) (b0_2_0 : Int) (b0_3_0 : Int) (b0_4_0 : Int) (s8_0 : Int) : Option ((Int × Tra × Unit) ⊕ (Int)) :=
  (bif decide (s8_0 ≥ 0) then (bif decide (List.length (c3_0.2.1) < lenMax) then yE (fun i__ e__ s__ => y8J (c3_0) (in5_0) (s8_0) (b0_0_0) (b0_1_0) (b0_2_0) (b0_3_0) (b0_4_0) i__ e__ s__.1 s__.2.1 s__.2.2.1 s__.2.2.2.1 s__.2.2.2.2.1 s__.2.2.2.2.2) (fun s__ => y80 (c3_0) (in5_0) (s8_0) (b0_0_0) (b0_1_0) (b0_2_0) (b0_3_0) (b0_4_0) s__.1 s__.2.1 s__.2.2.1 s__.2.2.2.1 s__.2.2.2.2.1 s__.2.2.2.2.2) 0 (c3_0.2.1) (((0 : Int)), ((0 : Int)), ([]), ((0 : Int)), ((0 : Int)), ((0 : Int))) else none) else (some (Sum.inl (((0 : Int), ((0 : Int), [], (0 : Int), (0 : Int), (0 : Int), ()), ())))))
theorem yBM (n : Nat) (hn : big ≤ n)  (c3_0 : Cha) (in5_0 : List UInt8 × Int × Unit) (b0_0_0 : Int) (b0_1_0 : List UInt8) (b0_2_0 : Int) (b0_3_0 : Int) (b0_4_0 : Int) (s8_0 : Int) : LeF some (y0k (fun s__ => yAW c3_0 in5_0 b0_0_0 b0_1_0 b0_2_0 b0_3_0 b0_4_0 s__) wMax s8_0) (y5t n n c3_0 in5_0 s8_0 b0_0_0 b0_1_0 b0_2_0 b0_3_0 b0_4_0) := by
  refine y3V (f := some) (W := fun k__ s__ => y5t n k__ c3_0 in5_0 s__ b0_0_0 b0_1_0 b0_2_0 b0_3_0 b0_4_0) (body := (fun s__ => yAW c3_0 in5_0 b0_0_0 b0_1_0 b0_2_0 b0_3_0 b0_4_0 s__)) (fun k__ s__ => ?_) wMax n s8_0 (by unfold big at hn; unfold wMax; omega)
  show LeF _ _ (yCb n (y5t n k__) c3_0 in5_0 s__ b0_0_0 b0_1_0 b0_2_0 b0_3_0 b0_4_0)
  exact (y3 (yK fun hx => by apply yBr n hn; exact hx) (y5 rfl))
def yAT (c : Cha) (leaf : Int) (p2 : List UInt8 × Int × Unit) : Option (Int × Tra × Unit) :=
  (y0k (fun s__ => yAW (c) (p2) ((0 : Int)) ([]) ((0 : Int)) ((0 : Int)) ((0 : Int)) s__) wMax (leaf))
theorem yJt (c : Cha) (leaf : Int) (p2 : List UInt8 × Int × Unit) (y : Int × Tra × Unit) (h : yAT c leaf p2 = some y) : ∃ n, yIg n c leaf p2 = some y :=
  ⟨big, LeF.top (show LeF some (yAT c leaf p2) (yIg big c leaf p2) from (fun (n : Nat) (hn : big ≤ n) => show LeF some (yAT c leaf p2) (yIg n c leaf p2) from (by apply yBM n hn)) big (Nat.le_refl _)) h⟩
def z0C_e : Entry := { f := 60, args := yK8, ress := yMW, m := fun x => yAT x.1 x.2.1 x.2.2.1 }
theorem yMI : FnOK Tryz.prog z0C_e := yW (g := yMR) (fn := Tryz.f60) yD yV eNil (by kernel_rfl) (by kernel_rfl) (by kernel_rfl) (fun x y h => let ⟨n, hn⟩ := yJt x.1 x.2.1 x.2.2.1 y h; ⟨yJR n, iNil, (yLi n x).trans hn⟩)
abbrev zD_a : Ty := .pair t37 (.pair t119 .unit)
abbrev zD_r : Ty := .pair t131 .unit
def zD_g : G := { T := T, E := [], muts := [5], fz := [] }
def zD_k : List (List Nat) := [[1, 5, 8, 9, 10]]
def yMQ (n : Nat) : Ann := { keep := zD_k, fuel := n, inl := [], deep := 0 }
def yFO (n : Nat) (r0 : (Int × Unit → Option (Int × Unit)) → List Int → Int → Int → List Int → Option (List Int × Unit)) (of1_0 : Int × Unit → Option (Int × Unit)) (t8_0 : List Int) (t9_0 : Int) (t10_0 : Int) (c0_0 : List Int) : Option (List Int × Unit) :=
  (bif decide (t10_0 < t9_0) then (Option.bind (idx t8_0 t10_0) fun (v1 : Int) => (Option.bind (of1_0 (v1, ())) fun (v2 : Int × Unit) => (bif decide (c0_0.length + (1 : Nat) ≤ memMax) then r0 of1_0 t8_0 t9_0 (IntKind.i64.wrap (t10_0 + 1)) (c0_0 ++ [v2.1]) else none))) else some (c0_0, ()))
def y8j (n : Nat)  (k : Nat) (of1_0 : Int × Unit → Option (Int × Unit)) (t8_0 : List Int) (t9_0 : Int) (t10_0 : Int) (c0_0 : List Int) : Option (List Int × Unit) :=
  iter (fun r y => yFO n (fun of1_0 t8_0 t9_0 t10_0 c0_0 => r ((of1_0, (t8_0, (t9_0, (t10_0, ())))), ((c0_0, ()), ()))) y.1.1 y.1.2.1 y.1.2.2.1 y.1.2.2.2.1 y.2.1.1) k ((of1_0, (t8_0, (t9_0, (t10_0, ())))), ((c0_0, ()), ()))
def zD_m (n : Nat) (l : List Int) (of : Int × Unit → Option (Int × Unit)) : Option (List Int × Unit) :=
  (y8j n n (of) (l) ((↑l.length : Int)) ((0 : Int)) ([]))
theorem yPk (n : Nat) (x : zD_a.den) : runF zD_g (yMQ n) Tryz.f62 zD_a zD_r x = zD_m n x.1 x.2.1 := by kernel_rfl
def yJs (of1_0 : Int × Unit → Option (Int × Unit)) (t8_0 : List Int) (t10_0 : Int) (v1 : Int) (c0_0 : List Int) : Option ((List Int × Unit) ⊕ (List Int)) :=
  (Option.bind (of1_0 (v1, ())) fun (v2 : Int × Unit) => (bif decide (c0_0.length + (1 : Nat) ≤ memMax) then (some (Sum.inr (c0_0 ++ [v2.1]))) else none))
def yLD (of1_0 : Int × Unit → Option (Int × Unit)) (t8_0 : List Int) (c0_0 : List Int) : Option (List Int × Unit) :=
  (some ((c0_0, ())))
theorem yEl (n : Nat) (hn : big ≤ n)  (of1_0 : Int × Unit → Option (Int × Unit)) (t8_0 : List Int) (c0_0 : List Int) (hx : List.length (t8_0) < lenMax) : LeF some (yE (fun i__ e__ s__ => yJs of1_0 t8_0 i__ e__ s__) (fun s__ => yLD of1_0 t8_0 s__) 0 (t8_0) c0_0) (y8j n n of1_0 t8_0 (List.length (t8_0) : Int) 0 c0_0) := by
  refine yL (f := some) (W := fun k__ i__ s__ => y8j n k__ of1_0 t8_0 (List.length (t8_0) : Int) i__ s__) (body := (fun i__ e__ s__ => yJs of1_0 t8_0 i__ e__ s__)) (fin := (fun s__ => yLD of1_0 t8_0 s__)) (fun k__ i__ s__ => ?_) hx c0_0 n (by unfold big at hn; unfold lenMax at hx; omega)
  show LeF _ _ (yFO n (y8j n k__) of1_0 t8_0 (List.length (t8_0) : Int) i__ s__)
  exact y3 (y8 fun v1 => (y8 fun v2 => (y3 (y5 rfl) yr))) (yw (y5 rfl))
def zD_M (l : List Int) (of : Int × Unit → Option (Int × Unit)) : Option (List Int × Unit) :=
  (bif decide (List.length (l) < lenMax) then yE (fun i__ e__ s__ => yJs (of) (l) i__ e__ s__) (fun s__ => yLD (of) (l) s__) 0 (l) ([]) else none)
theorem yOb (l : List Int) (of : Int × Unit → Option (Int × Unit)) (y : List Int × Unit) (h : zD_M l of = some y) : ∃ n, zD_m n l of = some y :=
  ⟨big, LeF.top (show LeF some (zD_M l of) (zD_m big l of) from (fun (n : Nat) (hn : big ≤ n) => show LeF some (zD_M l of) (zD_m n l of) from (yK fun hx => by apply yEl n hn; exact hx)) big (Nat.le_refl _)) h⟩
def zD_e : Entry := { f := 62, args := zD_a, ress := zD_r, m := fun x => zD_M x.1 x.2.1 }
theorem yOz : FnOK Tryz.prog zD_e := yW (g := zD_g) (fn := Tryz.f62) yD yV eNil (by kernel_rfl) (by kernel_rfl) (by kernel_rfl) (fun x y h => let ⟨n, hn⟩ := yOb x.1 x.2.1 y h; ⟨yMQ n, iNil, (yPk n x).trans hn⟩)
abbrev zp_a : Ty := .pair t37 (.pair t134 .unit)
abbrev zp_r : Ty := .pair t37 .unit
def zp_g : G := { T := T, E := [], muts := [5], fz := [] }
def zp_k : List (List Nat) := [[1, 5, 8, 9, 10]]
def yMz (n : Nat) : Ann := { keep := zp_k, fuel := n, inl := [], deep := 0 }
def yHM (n : Nat) (r0 : (Int × Unit → Option (Bool × Unit)) → List Int → Int → Int → List Int → Option (List Int × Unit)) (holds1_0 : Int × Unit → Option (Bool × Unit)) (t8_0 : List Int) (t9_0 : Int) (t10_0 : Int) (c0_0 : List Int) : Option (List Int × Unit) :=
  (bif decide (t10_0 < t9_0) then (Option.bind (idx t8_0 t10_0) fun (v1 : Int) => (Option.bind (holds1_0 (v1, ())) fun (v2 : Bool × Unit) => (bif v2.1 then (bif decide (c0_0.length + (1 : Nat) ≤ memMax) then r0 holds1_0 t8_0 t9_0 (IntKind.i64.wrap (t10_0 + 1)) (c0_0 ++ [v1]) else none) else r0 holds1_0 t8_0 t9_0 (IntKind.i64.wrap (t10_0 + 1)) c0_0))) else some (c0_0, ()))
def y96 (n : Nat)  (k : Nat) (holds1_0 : Int × Unit → Option (Bool × Unit)) (t8_0 : List Int) (t9_0 : Int) (t10_0 : Int) (c0_0 : List Int) : Option (List Int × Unit) :=
  iter (fun r y => yHM n (fun holds1_0 t8_0 t9_0 t10_0 c0_0 => r ((holds1_0, (t8_0, (t9_0, (t10_0, ())))), ((c0_0, ()), ()))) y.1.1 y.1.2.1 y.1.2.2.1 y.1.2.2.2.1 y.2.1.1) k ((holds1_0, (t8_0, (t9_0, (t10_0, ())))), ((c0_0, ()), ()))
def zp_m (n : Nat) (l : List Int) (holds : Int × Unit → Option (Bool × Unit)) : Option (List Int × Unit) :=
  (y96 n n (holds) (l) ((↑l.length : Int)) ((0 : Int)) ([]))
theorem yQk (n : Nat) (x : zp_a.den) : runF zp_g (yMz n) Tryz.f63 zp_a zp_r x = zp_m n x.1 x.2.1 := by kernel_rfl
def yKF (holds1_0 : Int × Unit → Option (Bool × Unit)) (t8_0 : List Int) (t10_0 : Int) (v1 : Int) (c0_0 : List Int) : Option ((List Int × Unit) ⊕ (List Int)) :=
  (Option.bind (holds1_0 (v1, ())) fun (v2 : Bool × Unit) => (bif v2.1 then (bif decide (c0_0.length + (1 : Nat) ≤ memMax) then (some (Sum.inr (c0_0 ++ [v1]))) else none) else (some (Sum.inr (c0_0)))))
def yJh (holds1_0 : Int × Unit → Option (Bool × Unit)) (t8_0 : List Int) (c0_0 : List Int) : Option (List Int × Unit) :=
  (some ((c0_0, ())))
theorem yEM (n : Nat) (hn : big ≤ n)  (holds1_0 : Int × Unit → Option (Bool × Unit)) (t8_0 : List Int) (c0_0 : List Int) (hx : List.length (t8_0) < lenMax) : LeF some (yE (fun i__ e__ s__ => yKF holds1_0 t8_0 i__ e__ s__) (fun s__ => yJh holds1_0 t8_0 s__) 0 (t8_0) c0_0) (y96 n n holds1_0 t8_0 (List.length (t8_0) : Int) 0 c0_0) := by
  refine yL (f := some) (W := fun k__ i__ s__ => y96 n k__ holds1_0 t8_0 (List.length (t8_0) : Int) i__ s__) (body := (fun i__ e__ s__ => yKF holds1_0 t8_0 i__ e__ s__)) (fin := (fun s__ => yJh holds1_0 t8_0 s__)) (fun k__ i__ s__ => ?_) hx c0_0 n (by unfold big at hn; unfold lenMax at hx; omega)
  show LeF _ _ (yHM n (y96 n k__) holds1_0 t8_0 (List.length (t8_0) : Int) i__ s__)
  exact y3 (y8 fun v1 => (y8 fun v2 => (y3 (y3 (y5 rfl) yr) (y5 rfl)))) (yw (y5 rfl))
def zp_M (l : List Int) (holds : Int × Unit → Option (Bool × Unit)) : Option (List Int × Unit) :=
  (bif decide (List.length (l) < lenMax) then yE (fun i__ e__ s__ => yKF (holds) (l) i__ e__ s__) (fun s__ => yJh (holds) (l) s__) 0 (l) ([]) else none)
theorem yMf (l : List Int) (holds : Int × Unit → Option (Bool × Unit)) (y : List Int × Unit) (h : zp_M l holds = some y) : ∃ n, zp_m n l holds = some y :=
  ⟨big, LeF.top (show LeF some (zp_M l holds) (zp_m big l holds) from (fun (n : Nat) (hn : big ≤ n) => show LeF some (zp_M l holds) (zp_m n l holds) from (yK fun hx => by apply yEM n hn; exact hx)) big (Nat.le_refl _)) h⟩
def zp_e : Entry := { f := 63, args := zp_a, ress := zp_r, m := fun x => zp_M x.1 x.2.1 }
theorem yPO : FnOK Tryz.prog zp_e := yW (g := zp_g) (fn := Tryz.f63) yD yV eNil (by kernel_rfl) (by kernel_rfl) (by kernel_rfl) (fun x y h => let ⟨n, hn⟩ := yMf x.1 x.2.1 y h; ⟨yMz n, iNil, (yQk n x).trans hn⟩)
abbrev yKi : Ty := .pair t3 (.pair (.ref t3) .unit)
abbrev yLL : Ty := .pair t4 .unit
def yO5 : G := { T := T, E := [], muts := [], fz := [] }
def yP3 : List (List Nat) := []
def yJC (n : Nat) : Ann := { keep := yP3, fuel := n, inl := [], deep := 0 }
def yIO (n : Nat) (x1 : Int) (p1 : Int) : Option (Bool × Unit) :=
  some (x1 == p1, ())
theorem yNV (n : Nat) (x : yKi.den) : runF yO5 (yJC n) Tryz.f64 yKi yLL x = yIO n x.1 x.2.1 := by kernel_rfl
def z05 (x1 : Int) (p1 : Int) : (Bool × Unit) :=
  (x1 == p1, ())
abbrev yIJ (x1 : Int) (p1 : Int) : Option (Bool × Unit) := some (z05 x1 p1)
theorem yKU (x1 : Int) (p1 : Int) (y : Bool × Unit) (h : yIJ x1 p1 = some y) : ∃ n, yIO n x1 p1 = some y :=
  ⟨0, by rw [← h]; show yIO 0 x1 p1 = some (z05 x1 p1); unfold yIO z05; first | rfl | (simp only [yG]; done) | (simp only [yG]; rfl)⟩
def z05_e : Entry := { f := 64, args := yKi, ress := yLL, m := fun x => yIJ x.1 x.2.1 }
theorem yMv : FnOK Tryz.prog z05_e := yW (g := yO5) (fn := Tryz.f64) yD yV eNil (by kernel_rfl) (by kernel_rfl) (by kernel_rfl) (fun x y h => let ⟨n, hn⟩ := yKU x.1 x.2.1 y h; ⟨yJC n, iNil, (yNV n x).trans hn⟩)
abbrev yK4 : Ty := .pair t3 .unit
abbrev yMG : Ty := .pair t111 .unit
def yLv : G := { T := T, E := [], muts := [], fz := [] }
def yQZ : List (List Nat) := []
def yJT (n : Nat) : Ann := { keep := yQZ, fuel := n, inl := [], deep := 0 }
def yIT (n : Nat) (n1 : Int) : Option (List Bool × Unit) :=
  some ([yb IntKind.i64 Go.BinOp.and n1 (1 : Int) != 0, yb IntKind.i64 Go.BinOp.and n1 (2 : Int) != 0, yb IntKind.i64 Go.BinOp.and n1 (4 : Int) != 0, yb IntKind.i64 Go.BinOp.and n1 (8 : Int) != 0], ())
theorem yNy (n : Nat) (x : yK4.den) : runF yLv (yJT n) Tryz.f47 yK4 yMG x = yIT n x.1 := by kernel_rfl
def z06 (n1 : Int) : (List Bool × Unit) :=
  ([yb IntKind.i64 Go.BinOp.and n1 (1 : Int) != 0, yb IntKind.i64 Go.BinOp.and n1 (2 : Int) != 0, yb IntKind.i64 Go.BinOp.and n1 (4 : Int) != 0, yb IntKind.i64 Go.BinOp.and n1 (8 : Int) != 0], ())
abbrev yNO (n1 : Int) : Option (List Bool × Unit) := some (z06 n1)
theorem yKp (n1 : Int) (y : List Bool × Unit) (h : yNO n1 = some y) : ∃ n, yIT n n1 = some y :=
  ⟨0, by rw [← h]; show yIT 0 n1 = some (z06 n1); unfold yIT z06; first | rfl | (simp only [yG]; done) | (simp only [yG]; rfl)⟩
def z06_e : Entry := { f := 47, args := yK4, ress := yMG, m := fun x => yNO x.1 }
theorem yJD : FnOK Tryz.prog z06_e := yW (g := yLv) (fn := Tryz.f47) yD yV eNil (by kernel_rfl) (by kernel_rfl) (by kernel_rfl) (fun x y h => let ⟨n, hn⟩ := yKp x.1 y h; ⟨yJT n, iNil, (yNy n x).trans hn⟩)
abbrev yKz : Ty := .pair t9 .unit
abbrev yMY : Ty := .pair t4 .unit
def yNi : G := { T := T, E := [], muts := [], fz := [] }
def yQi : List (List Nat) := [[0, 3]]
def yJ7 (n : Nat) : Ann := { keep := yQi, fuel := n, inl := [], deep := 0 }
def y3B (n : Nat) (r2 : List UInt8 → Int → Option (Bool × Unit)) (s0_2 : List UInt8) (i3_2 : Int) (v3 : UInt8) : Option (Bool × Unit) :=
  (bif i3_2 == 0 then some (Bool.false, ()) else (bif (↑v3.toNat : Int) != 95 then (bif decide ((↑v3.toNat : Int) < 48) then some (Bool.false, ()) else (bif decide ((↑v3.toNat : Int) > 57) then some (Bool.false, ()) else r2 s0_2 (IntKind.i64.wrap (i3_2 + 1)))) else r2 s0_2 (IntKind.i64.wrap (i3_2 + 1))))
def yCv (n : Nat) (r2 : List UInt8 → Int → Option (Bool × Unit)) (s0_2 : List UInt8) (i3_2 : Int) : Option (Bool × Unit) :=
  (bif decide (i3_2 < (↑s0_2.length : Int)) then (Option.bind (idx s0_2 i3_2) fun (v3 : UInt8) => (bif decide ((↑v3.toNat : Int) ≥ 97) then (bif decide ((↑v3.toNat : Int) ≤ 122) then r2 s0_2 (IntKind.i64.wrap (i3_2 + 1)) else (bif decide ((↑v3.toNat : Int) ≥ 65) then (bif decide ((↑v3.toNat : Int) ≤ 90) then r2 s0_2 (IntKind.i64.wrap (i3_2 + 1)) else (y3B n r2 s0_2 i3_2 v3)) else (y3B n r2 s0_2 i3_2 v3))) else (bif decide ((↑v3.toNat : Int) ≥ 65) then (bif decide ((↑v3.toNat : Int) ≤ 90) then r2 s0_2 (IntKind.i64.wrap (i3_2 + 1)) else (y3B n r2 s0_2 i3_2 v3)) else (y3B n r2 s0_2 i3_2 v3)))) else some (Bool.true, ()))
def y5o (n : Nat)  (k : Nat) (s0_2 : List UInt8) (i3_2 : Int) : Option (Bool × Unit) :=
  iter (fun r y => yCv n (fun s0_2 i3_2 => r ((s0_2, (i3_2, ())), ((), ()))) y.1.1 y.1.2.1) k ((s0_2, (i3_2, ())), ((), ()))
def yHh (n : Nat) (s : List UInt8) : Option (Bool × Unit) :=
  (bif (↑s.length : Int) == 0 then some (Bool.false, ()) else (bif decide ((↑s.length : Int) > 24) then some (Bool.false, ()) else (y5o n n (s) ((0 : Int)))))
theorem yLe (n : Nat) (x : yKz.den) : runF yNi (yJ7 n) Tryz.f58 yKz yMY x = yHh n x.1 := by kernel_rfl
def y4z (s0_2 : List UInt8) (i3_2 : Int) (v3 : UInt8) : Option ((Bool × Unit) ⊕ Unit) :=
  (bif i3_2 == 0 then (some (Sum.inl ((Bool.false, ())))) else (bif (↑v3.toNat : Int) != 95 then (bif decide ((↑v3.toNat : Int) < 48) then (some (Sum.inl ((Bool.false, ())))) else (bif decide ((↑v3.toNat : Int) > 57) then (some (Sum.inl ((Bool.false, ())))) else (some (Sum.inr ())))) else (some (Sum.inr ()))))
theorem y0J (n : Nat) (hn : big ≤ n)  (r2 : List UInt8 → Int → Option (Bool × Unit)) (s0_2 : List UInt8) (i3_2 : Int) (v3 : UInt8) : LeF (elim some fun (s__ : Unit) => r2 s0_2 (IntKind.i64.wrap (i3_2 + 1))) (y4z s0_2 i3_2 v3) (y3B n r2 s0_2 i3_2 v3) :=
  (y3 (y5 rfl) (y3 (y3 (y5 rfl) (y3 (y5 rfl) (y5 rfl))) (y5 rfl)))
def y81 (s0_2 : List UInt8) (i3_2 : Int) (v3 : UInt8) : Option ((Bool × Unit) ⊕ Unit) :=
  (bif decide ((↑v3.toNat : Int) ≥ 97) then (bif decide ((↑v3.toNat : Int) ≤ 122) then (some (Sum.inr ())) else (bif decide ((↑v3.toNat : Int) ≥ 65) then (bif decide ((↑v3.toNat : Int) ≤ 90) then (some (Sum.inr ())) else (y4z s0_2 i3_2 v3)) else (y4z s0_2 i3_2 v3))) else (bif decide ((↑v3.toNat : Int) ≥ 65) then (bif decide ((↑v3.toNat : Int) ≤ 90) then (some (Sum.inr ())) else (y4z s0_2 i3_2 v3)) else (y4z s0_2 i3_2 v3)))
def yD7 (s0_2 : List UInt8) : Option (Bool × Unit) :=
  (some ((Bool.true, ())))
theorem yBY (n : Nat) (hn : big ≤ n)  (s0_2 : List UInt8) (hx : List.length (s0_2) < lenMax) : LeF some (yE (fun i__ e__ s__ => y81 s0_2 i__ e__) (fun s__ => yD7 s0_2) 0 (s0_2) ()) (y5o n n s0_2 0) := by
  refine yL (f := some) (W := fun k__ i__ s__ => y5o n k__ s0_2 i__) (body := (fun i__ e__ s__ => y81 s0_2 i__ e__)) (fin := (fun s__ => yD7 s0_2)) (fun k__ i__ s__ => ?_) hx () n (by unfold big at hn; unfold lenMax at hx; omega)
  show LeF _ _ (yCv n (y5o n k__) s0_2 i__)
  exact y3 (y8 fun v3 => (y3 (y3 (y5 rfl) (y3 (y3 (y5 rfl) (by apply y0J n hn)) (by apply y0J n hn))) (y3 (y3 (y5 rfl) (by apply y0J n hn)) (by apply y0J n hn)))) (yw (y5 rfl))
def yBe (s : List UInt8) : Option (Bool × Unit) :=
  (bif (↑s.length : Int) == 0 then (some ((Bool.false, ()))) else (bif decide ((↑s.length : Int) > 24) then (some ((Bool.false, ()))) else (bif decide (List.length (s) < lenMax) then yE (fun i__ e__ s__ => y81 (s) i__ e__) (fun s__ => yD7 (s)) 0 (s) () else none)))
theorem yJe (s : List UInt8) (y : Bool × Unit) (h : yBe s = some y) : ∃ n, yHh n s = some y :=
  ⟨big, LeF.top (show LeF some (yBe s) (yHh big s) from (fun (n : Nat) (hn : big ≤ n) => show LeF some (yBe s) (yHh n s) from (y3 (y5 rfl) (y3 (y5 rfl) (yK fun hx => by apply yBY n hn; exact hx)))) big (Nat.le_refl _)) h⟩
def z01_e : Entry := { f := 58, args := yKz, ress := yMY, m := fun x => yBe x.1 }
theorem yOh : FnOK Tryz.prog z01_e := yW (g := yNi) (fn := Tryz.f58) yD yV eNil (by kernel_rfl) (by kernel_rfl) (by kernel_rfl) (fun x y h => let ⟨n, hn⟩ := yJe x.1 y h; ⟨yJ7 n, iNil, (yLe n x).trans hn⟩)
abbrev zC_a : Ty := .pair t54 (.pair t167 .unit)
abbrev zC_r : Ty := .pair t54 .unit
def zC_g : G := { T := T, E := [], muts := [5], fz := [] }
def zC_k : List (List Nat) := [[1, 5, 8, 9, 10]]
def yOE (n : Nat) : Ann := { keep := zC_k, fuel := n, inl := [], deep := 0 }
def yGg (n : Nat) (r0 : (Tra × Unit → Option (Bool × Unit)) → List Tra → Int → Int → List Tra → Option (List Tra × Unit)) (holds1_0 : Tra × Unit → Option (Bool × Unit)) (t8_0 : List Tra) (t9_0 : Int) (t10_0 : Int) (c0_0 : List Tra) : Option (List Tra × Unit) :=
  (bif decide (t10_0 < t9_0) then (Option.bind (idx t8_0 t10_0) fun (v1 : Tra) => (Option.bind (holds1_0 ((v1.1, v1.2.1, v1.2.2.1, v1.2.2.2.1, v1.2.2.2.2.1, ()), ())) fun (v2 : Bool × Unit) => (bif v2.1 then (bif decide (c0_0.length + (1 : Nat) ≤ memMax) then r0 holds1_0 t8_0 t9_0 (IntKind.i64.wrap (t10_0 + 1)) (c0_0 ++ [(v1.1, v1.2.1, v1.2.2.1, v1.2.2.2.1, v1.2.2.2.2.1, ())]) else none) else r0 holds1_0 t8_0 t9_0 (IntKind.i64.wrap (t10_0 + 1)) c0_0))) else some (c0_0, ()))
def y9M (n : Nat)  (k : Nat) (holds1_0 : Tra × Unit → Option (Bool × Unit)) (t8_0 : List Tra) (t9_0 : Int) (t10_0 : Int) (c0_0 : List Tra) : Option (List Tra × Unit) :=
  iter (fun r y => yGg n (fun holds1_0 t8_0 t9_0 t10_0 c0_0 => r ((holds1_0, (t8_0, (t9_0, (t10_0, ())))), ((c0_0, ()), ()))) y.1.1 y.1.2.1 y.1.2.2.1 y.1.2.2.2.1 y.2.1.1) k ((holds1_0, (t8_0, (t9_0, (t10_0, ())))), ((c0_0, ()), ()))
def zC_m (n : Nat) (l : List Tra) (holds : Tra × Unit → Option (Bool × Unit)) : Option (List Tra × Unit) :=
  (y9M n n (holds) (l) ((↑l.length : Int)) ((0 : Int)) ([]))
theorem yPq (n : Nat) (x : zC_a.den) : runF zC_g (yOE n) Tryz.f88 zC_a zC_r x = zC_m n x.1 x.2.1 := by kernel_rfl
def yHv (holds1_0 : Tra × Unit → Option (Bool × Unit)) (t8_0 : List Tra) (t10_0 : Int) (v1 : Tra) (c0_0 : List Tra) : Option ((List Tra × Unit) ⊕ (List Tra)) :=
  (Option.bind (holds1_0 ((v1.1, v1.2.1, v1.2.2.1, v1.2.2.2.1, v1.2.2.2.2.1, ()), ())) fun (v2 : Bool × Unit) => (bif v2.1 then (bif decide (c0_0.length + (1 : Nat) ≤ memMax) then (some (Sum.inr (c0_0 ++ [(v1.1, v1.2.1, v1.2.2.1, v1.2.2.2.1, v1.2.2.2.2.1, ())]))) else none) else (some (Sum.inr (c0_0)))))
def yJz (holds1_0 : Tra × Unit → Option (Bool × Unit)) (t8_0 : List Tra) (c0_0 : List Tra) : Option (List Tra × Unit) :=
  (some ((c0_0, ())))
theorem yEu (n : Nat) (hn : big ≤ n)  (holds1_0 : Tra × Unit → Option (Bool × Unit)) (t8_0 : List Tra) (c0_0 : List Tra) (hx : List.length (t8_0) < lenMax) : LeF some (yE (fun i__ e__ s__ => yHv holds1_0 t8_0 i__ e__ s__) (fun s__ => yJz holds1_0 t8_0 s__) 0 (t8_0) c0_0) (y9M n n holds1_0 t8_0 (List.length (t8_0) : Int) 0 c0_0) := by
  refine yL (f := some) (W := fun k__ i__ s__ => y9M n k__ holds1_0 t8_0 (List.length (t8_0) : Int) i__ s__) (body := (fun i__ e__ s__ => yHv holds1_0 t8_0 i__ e__ s__)) (fin := (fun s__ => yJz holds1_0 t8_0 s__)) (fun k__ i__ s__ => ?_) hx c0_0 n (by unfold big at hn; unfold lenMax at hx; omega)
  show LeF _ _ (yGg n (y9M n k__) holds1_0 t8_0 (List.length (t8_0) : Int) i__ s__)
  exact y3 (y8 fun v1 => (y8 fun v2 => (y3 (y3 (y5 rfl) yr) (y5 rfl)))) (yw (y5 rfl))
def zC_M (l : List Tra) (holds : Tra × Unit → Option (Bool × Unit)) : Option (List Tra × Unit) :=
  (bif decide (List.length (l) < lenMax) then yE (fun i__ e__ s__ => yHv (holds) (l) i__ e__ s__) (fun s__ => yJz (holds) (l) s__) 0 (l) ([]) else none)
theorem yOG (l : List Tra) (holds : Tra × Unit → Option (Bool × Unit)) (y : List Tra × Unit) (h : zC_M l holds = some y) : ∃ n, zC_m n l holds = some y :=
  ⟨big, LeF.top (show LeF some (zC_M l holds) (zC_m big l holds) from (fun (n : Nat) (hn : big ≤ n) => show LeF some (zC_M l holds) (zC_m n l holds) from (yK fun hx => by apply yEu n hn; exact hx)) big (Nat.le_refl _)) h⟩
def zC_e : Entry := { f := 88, args := zC_a, ress := zC_r, m := fun x => zC_M x.1 x.2.1 }
theorem yQD : FnOK Tryz.prog zC_e := yW (g := zC_g) (fn := Tryz.f88) yD yV eNil (by kernel_rfl) (by kernel_rfl) (by kernel_rfl) (fun x y h => let ⟨n, hn⟩ := yOG x.1 x.2.1 y h; ⟨yOE n, iNil, (yPq n x).trans hn⟩)
abbrev z8_a : Ty := .pair t50 (.pair t140 .unit)
abbrev z8_r : Ty := .pair t131 .unit
def z8_g : G := { T := T, E := [], muts := [5], fz := [] }
def z8_k : List (List Nat) := [[1, 5, 8, 9, 10]]
def yLQ (n : Nat) : Ann := { keep := z8_k, fuel := n, inl := [], deep := 0 }
def yFd (n : Nat) (r0 : ((List UInt8 × Int × Unit) × Unit → Option (Int × Unit)) → List (List UInt8 × Int × Unit) → Int → Int → List Int → Option (List Int × Unit)) (of1_0 : (List UInt8 × Int × Unit) × Unit → Option (Int × Unit)) (t8_0 : List (List UInt8 × Int × Unit)) (t9_0 : Int) (t10_0 : Int) (c0_0 : List Int) : Option (List Int × Unit) :=
  (bif decide (t10_0 < t9_0) then (Option.bind (idx t8_0 t10_0) fun (v1 : List UInt8 × Int × Unit) => (Option.bind (of1_0 ((v1.1, v1.2.1, ()), ())) fun (v2 : Int × Unit) => (bif decide (c0_0.length + (1 : Nat) ≤ memMax) then r0 of1_0 t8_0 t9_0 (IntKind.i64.wrap (t10_0 + 1)) (c0_0 ++ [v2.1]) else none))) else some (c0_0, ()))
def y9k (n : Nat)  (k : Nat) (of1_0 : (List UInt8 × Int × Unit) × Unit → Option (Int × Unit)) (t8_0 : List (List UInt8 × Int × Unit)) (t9_0 : Int) (t10_0 : Int) (c0_0 : List Int) : Option (List Int × Unit) :=
  iter (fun r y => yFd n (fun of1_0 t8_0 t9_0 t10_0 c0_0 => r ((of1_0, (t8_0, (t9_0, (t10_0, ())))), ((c0_0, ()), ()))) y.1.1 y.1.2.1 y.1.2.2.1 y.1.2.2.2.1 y.2.1.1) k ((of1_0, (t8_0, (t9_0, (t10_0, ())))), ((c0_0, ()), ()))
def z8_m (n : Nat) (l : List (List UInt8 × Int × Unit)) (of : (List UInt8 × Int × Unit) × Unit → Option (Int × Unit)) : Option (List Int × Unit) :=
  (y9k n n (of) (l) ((↑l.length : Int)) ((0 : Int)) ([]))
theorem yQI (n : Nat) (x : z8_a.den) : runF z8_g (yLQ n) Tryz.f71 z8_a z8_r x = z8_m n x.1 x.2.1 := by kernel_rfl
def yHY (of1_0 : (List UInt8 × Int × Unit) × Unit → Option (Int × Unit)) (t8_0 : List (List UInt8 × Int × Unit)) (t10_0 : Int) (v1 : List UInt8 × Int × Unit) (c0_0 : List Int) : Option ((List Int × Unit) ⊕ (List Int)) :=
  (Option.bind (of1_0 ((v1.1, v1.2.1, ()), ())) fun (v2 : Int × Unit) => (bif decide (c0_0.length + (1 : Nat) ≤ memMax) then (some (Sum.inr (c0_0 ++ [v2.1]))) else none))
def yJf (of1_0 : (List UInt8 × Int × Unit) × Unit → Option (Int × Unit)) (t8_0 : List (List UInt8 × Int × Unit)) (c0_0 : List Int) : Option (List Int × Unit) :=
  (some ((c0_0, ())))
theorem yDS (n : Nat) (hn : big ≤ n)  (of1_0 : (List UInt8 × Int × Unit) × Unit → Option (Int × Unit)) (t8_0 : List (List UInt8 × Int × Unit)) (c0_0 : List Int) (hx : List.length (t8_0) < lenMax) : LeF some (yE (fun i__ e__ s__ => yHY of1_0 t8_0 i__ e__ s__) (fun s__ => yJf of1_0 t8_0 s__) 0 (t8_0) c0_0) (y9k n n of1_0 t8_0 (List.length (t8_0) : Int) 0 c0_0) := by
  refine yL (f := some) (W := fun k__ i__ s__ => y9k n k__ of1_0 t8_0 (List.length (t8_0) : Int) i__ s__) (body := (fun i__ e__ s__ => yHY of1_0 t8_0 i__ e__ s__)) (fin := (fun s__ => yJf of1_0 t8_0 s__)) (fun k__ i__ s__ => ?_) hx c0_0 n (by unfold big at hn; unfold lenMax at hx; omega)
  show LeF _ _ (yFd n (y9k n k__) of1_0 t8_0 (List.length (t8_0) : Int) i__ s__)
  exact y3 (y8 fun v1 => (y8 fun v2 => (y3 (y5 rfl) yr))) (yw (y5 rfl))
def z8_M (l : List (List UInt8 × Int × Unit)) (of : (List UInt8 × Int × Unit) × Unit → Option (Int × Unit)) : Option (List Int × Unit) :=
  (bif decide (List.length (l) < lenMax) then yE (fun i__ e__ s__ => yHY (of) (l) i__ e__ s__) (fun s__ => yJf (of) (l) s__) 0 (l) ([]) else none)
theorem yNM (l : List (List UInt8 × Int × Unit)) (of : (List UInt8 × Int × Unit) × Unit → Option (Int × Unit)) (y : List Int × Unit) (h : z8_M l of = some y) : ∃ n, z8_m n l of = some y :=
  ⟨big, LeF.top (show LeF some (z8_M l of) (z8_m big l of) from (fun (n : Nat) (hn : big ≤ n) => show LeF some (z8_M l of) (z8_m n l of) from (yK fun hx => by apply yDS n hn; exact hx)) big (Nat.le_refl _)) h⟩
def z8_e : Entry := { f := 71, args := z8_a, ress := z8_r, m := fun x => z8_M x.1 x.2.1 }
theorem yPA : FnOK Tryz.prog z8_e := yW (g := z8_g) (fn := Tryz.f71) yD yV eNil (by kernel_rfl) (by kernel_rfl) (by kernel_rfl) (fun x y h => let ⟨n, hn⟩ := yNM x.1 x.2.1 y h; ⟨yLQ n, iNil, (yQI n x).trans hn⟩)
abbrev zG_a : Ty := .pair t124 .unit
abbrev zG_r : Ty := .pair t3 .unit
def zG_g : G := { T := T, E := [], muts := [], fz := [] }
def zG_k : List (List Nat) := []
def yNv (n : Nat) : Ann := { keep := zG_k, fuel := n, inl := [], deep := 0 }
def zG_m (n : Nat) (p : Pth) : Option (Int × Unit) :=
  some (p.1, ())
theorem yQF (n : Nat) (x : zG_a.den) : runF zG_g (yNv n) Tryz.f77 zG_a zG_r x = zG_m n x.1 := by kernel_rfl
def zG (p : Pth) : (Int × Unit) :=
  (p.1, ())
abbrev zG_M (p : Pth) : Option (Int × Unit) := some (zG p)
theorem yNr (p : Pth) (y : Int × Unit) (h : zG_M p = some y) : ∃ n, zG_m n p = some y :=
  ⟨0, by rw [← h]; show zG_m 0 p = some (zG p); unfold zG_m zG; first | rfl | (simp only [yG]; done) | (simp only [yG]; rfl)⟩
def zG_e : Entry := { f := 77, args := zG_a, ress := zG_r, m := fun x => zG_M x.1 }
theorem yPr : FnOK Tryz.prog zG_e := yW (g := zG_g) (fn := Tryz.f77) yD yV eNil (by kernel_rfl) (by kernel_rfl) (by kernel_rfl) (fun x y h => let ⟨n, hn⟩ := yNr x.1 y h; ⟨yNv n, iNil, (yQF n x).trans hn⟩)
abbrev zK_a : Ty := .pair t37 (.pair t3 .unit)
abbrev zK_r : Ty := .pair t3 .unit
def zK_g : G := { T := T, E := [], muts := [], fz := [] }
def zK_k : List (List Nat) := [[0, 1, 7, 8]]
def yOD (n : Nat) : Ann := { keep := zK_k, fuel := n, inl := [], deep := 0 }
def yGr (n : Nat) (r0 : List Int → Int → Int → Int → Option (Int × Unit)) (s0_0 : List Int) (v1_0 : Int) (t7_0 : Int) (t8_0 : Int) : Option (Int × Unit) :=
  (bif decide (t8_0 < t7_0) then (Option.bind (idx s0_0 t8_0) fun (v1 : Int) => (bif v1_0 == v1 then some (t8_0, ()) else r0 s0_0 v1_0 t7_0 (IntKind.i64.wrap (t8_0 + 1)))) else some ((-1 : Int), ()))
def y8d (n : Nat)  (k : Nat) (s0_0 : List Int) (v1_0 : Int) (t7_0 : Int) (t8_0 : Int) : Option (Int × Unit) :=
  iter (fun r y => yGr n (fun s0_0 v1_0 t7_0 t8_0 => r ((s0_0, (v1_0, (t7_0, (t8_0, ())))), ((), ()))) y.1.1 y.1.2.1 y.1.2.2.1 y.1.2.2.2.1) k ((s0_0, (v1_0, (t7_0, (t8_0, ())))), ((), ()))
def zK_m (n : Nat) (s : List Int) (v : Int) : Option (Int × Unit) :=
  (y8d n n (s) (v) ((↑s.length : Int)) ((0 : Int)))
theorem yP7 (n : Nat) (x : zK_a.den) : runF zK_g (yOD n) Tryz.f84 zK_a zK_r x = zK_m n x.1 x.2.1 := by kernel_rfl
def yFy (s0_0 : List Int) (v1_0 : Int) (t8_0 : Int) (v1 : Int) : Option ((Int × Unit) ⊕ Unit) :=
  (bif v1_0 == v1 then (some (Sum.inl ((t8_0, ())))) else (some (Sum.inr ())))
def yIW (s0_0 : List Int) (v1_0 : Int) : Option (Int × Unit) :=
  (some (((-1 : Int), ())))
theorem yEp (n : Nat) (hn : big ≤ n)  (s0_0 : List Int) (v1_0 : Int) (hx : List.length (s0_0) < lenMax) : LeF some (yE (fun i__ e__ s__ => yFy s0_0 v1_0 i__ e__) (fun s__ => yIW s0_0 v1_0) 0 (s0_0) ()) (y8d n n s0_0 v1_0 (List.length (s0_0) : Int) 0) := by
  refine yL (f := some) (W := fun k__ i__ s__ => y8d n k__ s0_0 v1_0 (List.length (s0_0) : Int) i__) (body := (fun i__ e__ s__ => yFy s0_0 v1_0 i__ e__)) (fin := (fun s__ => yIW s0_0 v1_0)) (fun k__ i__ s__ => ?_) hx () n (by unfold big at hn; unfold lenMax at hx; omega)
  show LeF _ _ (yGr n (y8d n k__) s0_0 v1_0 (List.length (s0_0) : Int) i__)
  exact y3 (y8 fun v1 => (y3 (y5 rfl) (y5 rfl))) (yw (y5 rfl))
def zK_M (s : List Int) (v : Int) : Option (Int × Unit) :=
  (bif decide (List.length (s) < lenMax) then yE (fun i__ e__ s__ => yFy (s) (v) i__ e__) (fun s__ => yIW (s) (v)) 0 (s) () else none)
theorem yM9 (s : List Int) (v : Int) (y : Int × Unit) (h : zK_M s v = some y) : ∃ n, zK_m n s v = some y :=
  ⟨big, LeF.top (show LeF some (zK_M s v) (zK_m big s v) from (fun (n : Nat) (hn : big ≤ n) => show LeF some (zK_M s v) (zK_m n s v) from (yK fun hx => by apply yEp n hn; exact hx)) big (Nat.le_refl _)) h⟩
def zK_e : Entry := { f := 84, args := zK_a, ress := zK_r, m := fun x => zK_M x.1 x.2.1 }
theorem yPj : FnOK Tryz.prog zK_e := yW (g := zK_g) (fn := Tryz.f84) yD yV eNil (by kernel_rfl) (by kernel_rfl) (by kernel_rfl) (fun x y h => let ⟨n, hn⟩ := yM9 x.1 x.2.1 y h; ⟨yOD n, iNil, (yP7 n x).trans hn⟩)
abbrev zB_a : Ty := .pair t45 (.pair t9 .unit)
abbrev zB_r : Ty := .pair t3 .unit
def zB_g : G := { T := T, E := [], muts := [], fz := [] }
def zB_k : List (List Nat) := [[0, 1, 7, 8]]
def yMD (n : Nat) : Ann := { keep := zB_k, fuel := n, inl := [], deep := 0 }
def yFR (n : Nat) (r0 : List (List UInt8) → List UInt8 → Int → Int → Option (Int × Unit)) (s0_0 : List (List UInt8)) (v1_0 : List UInt8) (t7_0 : Int) (t8_0 : Int) : Option (Int × Unit) :=
  (bif decide (t8_0 < t7_0) then (Option.bind (idx s0_0 t8_0) fun (v1 : List UInt8) => (bif v1_0 == v1 then some (t8_0, ()) else r0 s0_0 v1_0 t7_0 (IntKind.i64.wrap (t8_0 + 1)))) else some ((-1 : Int), ()))
def y9U (n : Nat)  (k : Nat) (s0_0 : List (List UInt8)) (v1_0 : List UInt8) (t7_0 : Int) (t8_0 : Int) : Option (Int × Unit) :=
  iter (fun r y => yFR n (fun s0_0 v1_0 t7_0 t8_0 => r ((s0_0, (v1_0, (t7_0, (t8_0, ())))), ((), ()))) y.1.1 y.1.2.1 y.1.2.2.1 y.1.2.2.2.1) k ((s0_0, (v1_0, (t7_0, (t8_0, ())))), ((), ()))
def zB_m (n : Nat) (s : List (List UInt8)) (v : List UInt8) : Option (Int × Unit) :=
  (y9U n n (s) (v) ((↑s.length : Int)) ((0 : Int)))
theorem yPV (n : Nat) (x : zB_a.den) : runF zB_g (yMD n) Tryz.f94 zB_a zB_r x = zB_m n x.1 x.2.1 := by kernel_rfl
def yG8 (s0_0 : List (List UInt8)) (v1_0 : List UInt8) (t8_0 : Int) (v1 : List UInt8) : Option ((Int × Unit) ⊕ Unit) :=
  (bif v1_0 == v1 then (some (Sum.inl ((t8_0, ())))) else (some (Sum.inr ())))
def yIR (s0_0 : List (List UInt8)) (v1_0 : List UInt8) : Option (Int × Unit) :=
  (some (((-1 : Int), ())))
theorem yEO (n : Nat) (hn : big ≤ n)  (s0_0 : List (List UInt8)) (v1_0 : List UInt8) (hx : List.length (s0_0) < lenMax) : LeF some (yE (fun i__ e__ s__ => yG8 s0_0 v1_0 i__ e__) (fun s__ => yIR s0_0 v1_0) 0 (s0_0) ()) (y9U n n s0_0 v1_0 (List.length (s0_0) : Int) 0) := by
  refine yL (f := some) (W := fun k__ i__ s__ => y9U n k__ s0_0 v1_0 (List.length (s0_0) : Int) i__) (body := (fun i__ e__ s__ => yG8 s0_0 v1_0 i__ e__)) (fin := (fun s__ => yIR s0_0 v1_0)) (fun k__ i__ s__ => ?_) hx () n (by unfold big at hn; unfold lenMax at hx; omega)
  show LeF _ _ (yFR n (y9U n k__) s0_0 v1_0 (List.length (s0_0) : Int) i__)
  exact y3 (y8 fun v1 => (y3 (y5 rfl) (y5 rfl))) (yw (y5 rfl))
def zB_M (s : List (List UInt8)) (v : List UInt8) : Option (Int × Unit) :=
  (bif decide (List.length (s) < lenMax) then yE (fun i__ e__ s__ => yG8 (s) (v) i__ e__) (fun s__ => yIR (s) (v)) 0 (s) () else none)
theorem yOl (s : List (List UInt8)) (v : List UInt8) (y : Int × Unit) (h : zB_M s v = some y) : ∃ n, zB_m n s v = some y :=
  ⟨big, LeF.top (show LeF some (zB_M s v) (zB_m big s v) from (fun (n : Nat) (hn : big ≤ n) => show LeF some (zB_M s v) (zB_m n s v) from (yK fun hx => by apply yEO n hn; exact hx)) big (Nat.le_refl _)) h⟩
def zB_e : Entry := { f := 94, args := zB_a, ress := zB_r, m := fun x => zB_M x.1 x.2.1 }
theorem yOv : FnOK Tryz.prog zB_e := yW (g := zB_g) (fn := Tryz.f94) yD yV eNil (by kernel_rfl) (by kernel_rfl) (by kernel_rfl) (fun x y h => let ⟨n, hn⟩ := yOl x.1 x.2.1 y h; ⟨yMD n, iNil, (yPV n x).trans hn⟩)
abbrev zz_a : Ty := .pair t9 .unit
abbrev zz_r : Ty := .pair t4 .unit
def zz_g : G := { T := T, E := [], muts := [], fz := [] }
def zz_k : List (List Nat) := [[0, 8]]
def yOR (n : Nat) : Ann := { keep := zz_k, fuel := n, inl := [], deep := 0 }
def y5z (n : Nat) (r0 : List UInt8 → List UInt8 → Int → Option (Bool × Unit)) (s0_0 : List UInt8) (str0__0 : List UInt8) (pos0__0 : Int) (j2 : Bool) (j7 : Bool) : Option (Bool × Unit) :=
  (bif !j2 then (bif pos0__0 == 0 then some (Bool.false, ()) else (bif !j7 then some (Bool.false, ()) else r0 s0_0 str0__0 (yg str0__0 pos0__0).2)) else r0 s0_0 str0__0 (yg str0__0 pos0__0).2)
def y3S (n : Nat) (r0 : List UInt8 → List UInt8 → Int → Option (Bool × Unit)) (s0_0 : List UInt8) (str0__0 : List UInt8) (pos0__0 : Int) (j2 : Bool) : Option (Bool × Unit) :=
  (bif decide ((yg str0__0 pos0__0).1 ≥ 48) then (bif decide ((yg str0__0 pos0__0).1 ≤ 57) then (y5z n r0 s0_0 str0__0 pos0__0 j2 (Bool.true)) else (y5z n r0 s0_0 str0__0 pos0__0 j2 ((yg str0__0 pos0__0).1 == 95))) else (y5z n r0 s0_0 str0__0 pos0__0 j2 ((yg str0__0 pos0__0).1 == 95)))
def yFu (n : Nat) (r0 : List UInt8 → List UInt8 → Int → Option (Bool × Unit)) (s0_0 : List UInt8) (str0__0 : List UInt8) (pos0__0 : Int) : Option (Bool × Unit) :=
  (bif decide (pos0__0 < (↑str0__0.length : Int)) then (bif decide ((yg str0__0 pos0__0).1 ≥ 65) then (bif decide ((yg str0__0 pos0__0).1 ≤ 90) then (y3S n r0 s0_0 str0__0 pos0__0 (Bool.true)) else (bif decide ((yg str0__0 pos0__0).1 ≥ 97) then (y3S n r0 s0_0 str0__0 pos0__0 (decide ((yg str0__0 pos0__0).1 ≤ 122))) else (y3S n r0 s0_0 str0__0 pos0__0 (Bool.false)))) else (bif decide ((yg str0__0 pos0__0).1 ≥ 97) then (y3S n r0 s0_0 str0__0 pos0__0 (decide ((yg str0__0 pos0__0).1 ≤ 122))) else (y3S n r0 s0_0 str0__0 pos0__0 (Bool.false)))) else (bif !s0_0 == [] then some (decide ((↑s0_0.length : Int) ≤ 24), ()) else some (Bool.false, ())))
def y8l (n : Nat)  (k : Nat) (s0_0 : List UInt8) (str0__0 : List UInt8) (pos0__0 : Int) : Option (Bool × Unit) :=
  iter (fun r y => yFu n (fun s0_0 str0__0 pos0__0 => r ((s0_0, ()), (((str0__0, pos0__0), ()), ()))) y.1.1 y.2.1.1.1 y.2.1.1.2) k ((s0_0, ()), (((str0__0, pos0__0), ()), ()))
def zz_m (n : Nat) (s : List UInt8) : Option (Bool × Unit) :=
  (y8l n n (s) (s) ((0 : Int)))
theorem yPQ (n : Nat) (x : zz_a.den) : runF zz_g (yOR n) Tryz.f85 zz_a zz_r x = zz_m n x.1 := by kernel_rfl
def yA9 (s0_0 : List UInt8) (str0__0 : List UInt8) (pos0__0 : Int) (j2 : Bool) (j7 : Bool) : Option ((Bool × Unit) ⊕ Unit) :=
  (bif !j2 then (bif pos0__0 == 0 then (some (Sum.inl ((Bool.false, ())))) else (bif !j7 then (some (Sum.inl ((Bool.false, ())))) else (some (Sum.inr ())))) else (some (Sum.inr ())))
theorem y0l (n : Nat) (hn : big ≤ n)  (r0 : List UInt8 → List UInt8 → Int → Option (Bool × Unit)) (s0_0 : List UInt8) (str0__0 : List UInt8) (pos0__0 : Int) (j2 : Bool) (j7 : Bool) : LeF (elim some fun (s__ : Unit) => r0 s0_0 str0__0 (yg (str0__0) pos0__0).2) (yA9 s0_0 str0__0 pos0__0 j2 j7) (y5z n r0 s0_0 str0__0 pos0__0 j2 j7) :=
  (y3 (y3 (y5 rfl) (y3 (y5 rfl) (y5 rfl))) (y5 rfl))
def y6D (s0_0 : List UInt8) (str0__0 : List UInt8) (pos0__0 : Int) (j2 : Bool) : Option ((Bool × Unit) ⊕ Unit) :=
  (bif decide ((yg str0__0 pos0__0).1 ≥ 48) then (bif decide ((yg str0__0 pos0__0).1 ≤ 57) then (yA9 s0_0 str0__0 pos0__0 j2 (Bool.true)) else (yA9 s0_0 str0__0 pos0__0 j2 ((yg str0__0 pos0__0).1 == 95))) else (yA9 s0_0 str0__0 pos0__0 j2 ((yg str0__0 pos0__0).1 == 95)))
theorem y02 (n : Nat) (hn : big ≤ n)  (r0 : List UInt8 → List UInt8 → Int → Option (Bool × Unit)) (s0_0 : List UInt8) (str0__0 : List UInt8) (pos0__0 : Int) (j2 : Bool) : LeF (elim some fun (s__ : Unit) => r0 s0_0 str0__0 (yg (str0__0) pos0__0).2) (y6D s0_0 str0__0 pos0__0 j2) (y3S n r0 s0_0 str0__0 pos0__0 j2) :=
  (y3 (y3 (by apply y0l n hn) (by apply y0l n hn)) (by apply y0l n hn))
def yEe (s0_0 : List UInt8) (str0__0 : List UInt8) (pos0__0 : Int) : Option ((Bool × Unit) ⊕ Unit) :=
  (bif decide ((yg str0__0 pos0__0).1 ≥ 65) then (bif decide ((yg str0__0 pos0__0).1 ≤ 90) then (y6D s0_0 str0__0 pos0__0 (Bool.true)) else (bif decide ((yg str0__0 pos0__0).1 ≥ 97) then (y6D s0_0 str0__0 pos0__0 (decide ((yg str0__0 pos0__0).1 ≤ 122))) else (y6D s0_0 str0__0 pos0__0 (Bool.false)))) else (bif decide ((yg str0__0 pos0__0).1 ≥ 97) then (y6D s0_0 str0__0 pos0__0 (decide ((yg str0__0 pos0__0).1 ≤ 122))) else (y6D s0_0 str0__0 pos0__0 (Bool.false))))
def yE7 (s0_0 : List UInt8) (str0__0 : List UInt8) : Option (Bool × Unit) :=
  (bif !s0_0 == [] then (some ((decide ((↑s0_0.length : Int) ≤ 24), ()))) else (some ((Bool.false, ()))))
theorem yEz (n : Nat) (hn : big ≤ n)  (s0_0 : List UInt8) (str0__0 : List UInt8) (hx : List.length (str0__0) < lenMax) : LeF some (y7E (str0__0) (fun i__ s__ => yEe s0_0 str0__0 i__) (fun s__ => yE7 s0_0 str0__0) (List.length (str0__0)) 0 ()) (y8l n n s0_0 str0__0 0) := by
  refine yI5 (f := some) (W := fun k__ i__ s__ => y8l n k__ s0_0 str0__0 i__) (body := (fun i__ s__ => yEe s0_0 str0__0 i__)) (fin := (fun s__ => yE7 s0_0 str0__0)) (fun k__ i__ s__ => ?_) () n (by unfold big at hn; unfold lenMax at hx; omega)
  show LeF _ _ (yFu n (y8l n k__) s0_0 str0__0 i__)
  exact y3 (y3 (y3 (by apply y02 n hn) (y3 (by apply y02 n hn) (by apply y02 n hn))) (y3 (by apply y02 n hn) (by apply y02 n hn))) (yw (y3 (y5 rfl) (y5 rfl)))
def zz_M (s : List UInt8) : Option (Bool × Unit) :=
  (bif decide (List.length (s) < lenMax) then y7E (s) (fun i__ s__ => yEe (s) (s) i__) (fun s__ => yE7 (s) (s)) (List.length (s)) 0 () else none)
theorem yLx (s : List UInt8) (y : Bool × Unit) (h : zz_M s = some y) : ∃ n, zz_m n s = some y :=
  ⟨big, LeF.top (show LeF some (zz_M s) (zz_m big s) from (fun (n : Nat) (hn : big ≤ n) => show LeF some (zz_M s) (zz_m n s) from (yK fun hx => by apply yEz n hn; exact hx)) big (Nat.le_refl _)) h⟩
def zz_e : Entry := { f := 85, args := zz_a, ress := zz_r, m := fun x => zz_M x.1 }
theorem yQb : FnOK Tryz.prog zz_e := yW (g := zz_g) (fn := Tryz.f85) yD yV eNil (by kernel_rfl) (by kernel_rfl) (by kernel_rfl) (fun x y h => let ⟨n, hn⟩ := yLx x.1 y h; ⟨yOR n, iNil, (yPQ n x).trans hn⟩)
abbrev zu_a : Ty := .pair t75 .unit
abbrev zu_r : Ty := .pair t75 .unit
def zu_g : G := { T := T, E := [], muts := [], fz := [] }
def zu_k : List (List Nat) := []
def yLO (n : Nat) : Ann := { keep := zu_k, fuel := n, inl := [], deep := 0 }
def zu_m (n : Nat) (f : Fai) : Option (Fai × Unit) :=
  some ((f.1, (0 : Int), (0 : Int), (0 : Int), ()), ())
theorem yQ5 (n : Nat) (x : zu_a.den) : runF zu_g (yLO n) Tryz.f97 zu_a zu_r x = zu_m n x.1 := by kernel_rfl
def zu (f : Fai) : (Fai × Unit) :=
  ((f.1, (0 : Int), (0 : Int), (0 : Int), ()), ())
abbrev zu_M (f : Fai) : Option (Fai × Unit) := some (zu f)
theorem yMK (f : Fai) (y : Fai × Unit) (h : zu_M f = some y) : ∃ n, zu_m n f = some y :=
  ⟨0, by rw [← h]; show zu_m 0 f = some (zu f); unfold zu_m zu; first | rfl | (simp only [yG]; done) | (simp only [yG]; rfl)⟩
def zu_e : Entry := { f := 97, args := zu_a, ress := zu_r, m := fun x => zu_M x.1 }
theorem yP9 : FnOK Tryz.prog zu_e := yW (g := zu_g) (fn := Tryz.f97) yD yV eNil (by kernel_rfl) (by kernel_rfl) (by kernel_rfl) (fun x y h => let ⟨n, hn⟩ := yMK x.1 y h; ⟨yLO n, iNil, (yQ5 n x).trans hn⟩)
abbrev zv_a : Ty := .pair t75 (.pair t3 (.pair t51 .unit))
abbrev zv_r : Ty := .pair t51 (.pair t4 .unit)
def zv_g : G := { T := T, E := [], muts := [], fz := [] }
def zv_k : List (List Nat) := []
def yO7 (n : Nat) : Ann := { keep := zv_k, fuel := n, inl := [], deep := 0 }
def zv_m (n : Nat) (p0 : Fai) (p1 : Int) (p2 : List UInt8 × Int × Unit) : Option ((List UInt8 × Int × Unit) × Bool × Unit) :=
  some ((p2.1, p2.2.1, ()), Bool.true, ())
theorem yPl (n : Nat) (x : zv_a.den) : runF zv_g (yO7 n) Tryz.f98 zv_a zv_r x = zv_m n x.1 x.2.1 x.2.2.1 := by kernel_rfl
def zv (p0 : Fai) (p1 : Int) (p2 : List UInt8 × Int × Unit) : ((List UInt8 × Int × Unit) × Bool × Unit) :=
  ((p2.1, p2.2.1, ()), Bool.true, ())
abbrev zv_M (p0 : Fai) (p1 : Int) (p2 : List UInt8 × Int × Unit) : Option ((List UInt8 × Int × Unit) × Bool × Unit) := some (zv p0 p1 p2)
theorem yLJ (p0 : Fai) (p1 : Int) (p2 : List UInt8 × Int × Unit) (y : (List UInt8 × Int × Unit) × Bool × Unit) (h : zv_M p0 p1 p2 = some y) : ∃ n, zv_m n p0 p1 p2 = some y :=
  ⟨0, by rw [← h]; show zv_m 0 p0 p1 p2 = some (zv p0 p1 p2); unfold zv_m zv; first | rfl | (simp only [yG]; done) | (simp only [yG]; rfl)⟩
def zv_e : Entry := { f := 98, args := zv_a, ress := zv_r, m := fun x => zv_M x.1 x.2.1 x.2.2.1 }
theorem yQS : FnOK Tryz.prog zv_e := yW (g := zv_g) (fn := Tryz.f98) yD yV eNil (by kernel_rfl) (by kernel_rfl) (by kernel_rfl) (fun x y h => let ⟨n, hn⟩ := yLJ x.1 x.2.1 x.2.2.1 y h; ⟨yO7 n, iNil, (yPl n x).trans hn⟩)
abbrev zw_a : Ty := .pair t75 .unit
abbrev zw_r : Ty := .pair t75 .unit
def zw_g : G := { T := T, E := [], muts := [], fz := [] }
def zw_k : List (List Nat) := []
def yO2 (n : Nat) : Ann := { keep := zw_k, fuel := n, inl := [], deep := 0 }
def zw_m (n : Nat) (f : Fai) : Option (Fai × Unit) :=
  some ((f.1, f.2.1, (0 : Int), (0 : Int), ()), ())
theorem yP6 (n : Nat) (x : zw_a.den) : runF zw_g (yO2 n) Tryz.f99 zw_a zw_r x = zw_m n x.1 := by kernel_rfl
def zw (f : Fai) : (Fai × Unit) :=
  ((f.1, f.2.1, (0 : Int), (0 : Int), ()), ())
abbrev zw_M (f : Fai) : Option (Fai × Unit) := some (zw f)
theorem yN9 (f : Fai) (y : Fai × Unit) (h : zw_M f = some y) : ∃ n, zw_m n f = some y :=
  ⟨0, by rw [← h]; show zw_m 0 f = some (zw f); unfold zw_m zw; first | rfl | (simp only [yG]; done) | (simp only [yG]; rfl)⟩
def zw_e : Entry := { f := 99, args := zw_a, ress := zw_r, m := fun x => zw_M x.1 }
theorem yPU : FnOK Tryz.prog zw_e := yW (g := zw_g) (fn := Tryz.f99) yD yV eNil (by kernel_rfl) (by kernel_rfl) (by kernel_rfl) (fun x y h => let ⟨n, hn⟩ := yN9 x.1 y h; ⟨yO2 n, iNil, (yP6 n x).trans hn⟩)
abbrev zx_a : Ty := .pair t75 (.pair t3 (.pair t51 .unit))
abbrev zx_r : Ty := .pair t51 (.pair t4 .unit)
def zx_g : G := { T := T, E := [], muts := [], fz := [] }
def zx_k : List (List Nat) := []
def yMy (n : Nat) : Ann := { keep := zx_k, fuel := n, inl := [], deep := 0 }
def zx_m (n : Nat) (f : Fai) (p1 : Int) (p2 : List UInt8 × Int × Unit) : Option ((List UInt8 × Int × Unit) × Bool × Unit) :=
  some ((p2.1, p2.2.1, ()), p1 != f.2.1, ())
theorem yPN (n : Nat) (x : zx_a.den) : runF zx_g (yMy n) Tryz.f100 zx_a zx_r x = zx_m n x.1 x.2.1 x.2.2.1 := by kernel_rfl
def zx (f : Fai) (p1 : Int) (p2 : List UInt8 × Int × Unit) : ((List UInt8 × Int × Unit) × Bool × Unit) :=
  ((p2.1, p2.2.1, ()), p1 != f.2.1, ())
abbrev zx_M (f : Fai) (p1 : Int) (p2 : List UInt8 × Int × Unit) : Option ((List UInt8 × Int × Unit) × Bool × Unit) := some (zx f p1 p2)
theorem yLa (f : Fai) (p1 : Int) (p2 : List UInt8 × Int × Unit) (y : (List UInt8 × Int × Unit) × Bool × Unit) (h : zx_M f p1 p2 = some y) : ∃ n, zx_m n f p1 p2 = some y :=
  ⟨0, by rw [← h]; show zx_m 0 f p1 p2 = some (zx f p1 p2); unfold zx_m zx; first | rfl | (simp only [yG]; done) | (simp only [yG]; rfl)⟩
def zx_e : Entry := { f := 100, args := zx_a, ress := zx_r, m := fun x => zx_M x.1 x.2.1 x.2.2.1 }
theorem yQl : FnOK Tryz.prog zx_e := yW (g := zx_g) (fn := Tryz.f100) yD yV eNil (by kernel_rfl) (by kernel_rfl) (by kernel_rfl) (fun x y h => let ⟨n, hn⟩ := yLa x.1 x.2.1 x.2.2.1 y h; ⟨yMy n, iNil, (yPN n x).trans hn⟩)
abbrev zy_a : Ty := .pair t75 .unit
abbrev zy_r : Ty := .pair t75 .unit
def zy_g : G := { T := T, E := [], muts := [], fz := [] }
def zy_k : List (List Nat) := []
def yLk (n : Nat) : Ann := { keep := zy_k, fuel := n, inl := [], deep := 0 }
def zy_m (n : Nat) (f : Fai) : Option (Fai × Unit) :=
  some ((f.1, f.2.1, f.2.2.1, f.2.2.2.1, ()), ())
theorem yPc (n : Nat) (x : zy_a.den) : runF zy_g (yLk n) Tryz.f101 zy_a zy_r x = zy_m n x.1 := by kernel_rfl
def zy (f : Fai) : (Fai × Unit) :=
  ((f.1, f.2.1, f.2.2.1, f.2.2.2.1, ()), ())
abbrev zy_M (f : Fai) : Option (Fai × Unit) := some (zy f)
theorem yLd (f : Fai) (y : Fai × Unit) (h : zy_M f = some y) : ∃ n, zy_m n f = some y :=
  ⟨0, by rw [← h]; show zy_m 0 f = some (zy f); unfold zy_m zy; first | rfl | (simp only [yG]; done) | (simp only [yG]; rfl)⟩
def zy_e : Entry := { f := 101, args := zy_a, ress := zy_r, m := fun x => zy_M x.1 }
theorem yPP : FnOK Tryz.prog zy_e := yW (g := zy_g) (fn := Tryz.f101) yD yV eNil (by kernel_rfl) (by kernel_rfl) (by kernel_rfl) (fun x y h => let ⟨n, hn⟩ := yLd x.1 y h; ⟨yLk n, iNil, (yPc n x).trans hn⟩)
abbrev zR_a : Ty := .pair t75 (.pair t3 (.pair t51 .unit))
abbrev zR_r : Ty := .pair t51 (.pair t4 .unit)
def zR_g : G := { T := T, E := [], muts := [5], fz := [] }
def zR_k : List (List Nat) := []
def yNP (n : Nat) : Ann := { keep := zR_k, fuel := n, inl := [], deep := 0 }
def zR_m (n : Nat) (f : Fai) (p1 : Int) (p2 : List UInt8 × Int × Unit) : Option ((List UInt8 × Int × Unit) × Bool × Unit) :=
  (bif decide (p1 ≥ f.2.1) then (bif decide (f.2.2.1 < 0) then none else (bif decide (f.2.2.1 < 0) then none else some ((p2.1, yb IntKind.i64 Go.BinOp.or (yb IntKind.i64 Go.BinOp.andNot p2.2.1 (IntKind.i64.wrap ((1 : Int) * 2 ^ Min.min f.2.2.1.toNat IntKind.i64.bits))) (IntKind.i64.wrap (f.2.2.2.1 * 2 ^ Min.min f.2.2.1.toNat IntKind.i64.bits)), ()), Bool.true, ()))) else some ((p2.1, p2.2.1, ()), Bool.true, ()))
theorem yPg (n : Nat) (x : zR_a.den) : runF zR_g (yNP n) Tryz.f102 zR_a zR_r x = zR_m n x.1 x.2.1 x.2.2.1 := by kernel_rfl
def zR_M (f : Fai) (p1 : Int) (p2 : List UInt8 × Int × Unit) : Option ((List UInt8 × Int × Unit) × Bool × Unit) := zR_m 0 f p1 p2
theorem yLS (f : Fai) (p1 : Int) (p2 : List UInt8 × Int × Unit) (y : (List UInt8 × Int × Unit) × Bool × Unit) (h : zR_M f p1 p2 = some y) : ∃ n, zR_m n f p1 p2 = some y := ⟨0, h⟩
def zR_e : Entry := { f := 102, args := zR_a, ress := zR_r, m := fun x => zR_M x.1 x.2.1 x.2.2.1 }
theorem yQC : FnOK Tryz.prog zR_e := yW (g := zR_g) (fn := Tryz.f102) yD yV eNil (by kernel_rfl) (by kernel_rfl) (by kernel_rfl) (fun x y h => let ⟨n, hn⟩ := yLS x.1 x.2.1 x.2.2.1 y h; ⟨yNP n, iNil, (yPg n x).trans hn⟩)
abbrev yJd : Ty := .pair t3 (.pair t3 (.pair t3 .unit))
abbrev yLu : Ty := .pair t42 .unit
def yLZ : G := { T := T, E := [z0H_e], muts := [], fz := [] }
def yQT : List (List Nat) := []
def yJF (n : Nat) : Ann := { keep := yQT, fuel := n, inl := [], deep := 0 }
def yIo (n : Nat) (n1 : Int) (least : Int) (most : Int) : Option (Int × Unit) :=
  (bif decide (n1 < least) then some ((z0H Bool.true (3 : Int)).1, ()) else some ((z0H (decide (n1 > most)) (3 : Int)).1, ()))
theorem yN6 (n : Nat) (x : yJd.den) : runF yLZ (yJF n) Tryz.f39 yJd yLu x = yIo n x.1 x.2.1 x.2.2.1 := by kernel_rfl
def z00 (n1 : Int) (least : Int) (most : Int) : (Int × Unit) :=
  (bif decide (n1 < least) then ((z0H Bool.true (3 : Int)).1, ()) else ((z0H (decide (n1 > most)) (3 : Int)).1, ()))
abbrev yOp (n1 : Int) (least : Int) (most : Int) : Option (Int × Unit) := some (z00 n1 least most)
theorem yKy (n1 : Int) (least : Int) (most : Int) (y : Int × Unit) (h : yOp n1 least most = some y) : ∃ n, yIo n n1 least most = some y :=
  ⟨0, by rw [← h]; show yIo 0 n1 least most = some (z00 n1 least most); unfold yIo z00; first | rfl | (simp only [yG]; done) | (simp only [yG]; rfl)⟩
def z00_e : Entry := { f := 39, args := yJd, ress := yLu, m := fun x => yOp x.1 x.2.1 x.2.2.1 }
theorem yM0 : FnOK Tryz.prog z00_e := yW (g := yLZ) (fn := Tryz.f39) yD yV (yH yN8 eNil) (by kernel_rfl) (by kernel_rfl) (by kernel_rfl) (fun x y h => let ⟨n, hn⟩ := yKy x.1 x.2.1 x.2.2.1 y h; ⟨yJF n, iNil, (yN6 n x).trans hn⟩)
end
end Go.Tw
end
