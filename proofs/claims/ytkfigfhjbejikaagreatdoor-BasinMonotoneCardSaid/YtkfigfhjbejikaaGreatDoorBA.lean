import Derived.Test.YtkfigfhjbejikaaGreatDoorBT
import Derived.Test.YtkfigfhjbejikaaGreatDoorVF
import Derived.Test.YtkfigfhjbejikaaGreatDoorLP
import Derived.Test.YtkfigfhjbejikaaGreatDoorProg
import Derived.KernelRfl
set_option linter.all false
section
set_option maxRecDepth 1000000
namespace Go.Tw
open Go.Vx Go.Vx.B Go.Proofs
noncomputable section
abbrev Nod := List UInt8 × Int × Int × Unit
abbrev Lnk := List UInt8 × Int × Int × Int × Int × Unit
abbrev Bas := List Nod × List Lnk × Unit
abbrev Cnd := Int × Bool × List Int × Unit
abbrev Rng := (Int × Int × Unit) × Bool × List (Int × Int × Unit) × Unit
abbrev Psg := Cnd × List Int × Option (List Int) × Unit
instance theGT : GT := ⟨[(7, t315, [.int .u8 0, .int .u8 1, .int .u8 28, .int .u8 2, .int .u8 29, .int .u8 14, .int .u8 24, .int .u8 3, .int .u8 30, .int .u8 22, .int .u8 20, .int .u8 15, .int .u8 25, .int .u8 17, .int .u8 4, .int .u8 8, .int .u8 31, .int .u8 27, .int .u8 13, .int .u8 23, .int .u8 21, .int .u8 19, .int .u8 16, .int .u8 7, .int .u8 26, .int .u8 12, .int .u8 18, .int .u8 6, .int .u8 11, .int .u8 5, .int .u8 10, .int .u8 9]),
  (8, t316, [.int .u8 0, .int .u8 1, .int .u8 56, .int .u8 2, .int .u8 57, .int .u8 49, .int .u8 28, .int .u8 3, .int .u8 61, .int .u8 58, .int .u8 42, .int .u8 50, .int .u8 38, .int .u8 29, .int .u8 17, .int .u8 4, .int .u8 62, .int .u8 47, .int .u8 59, .int .u8 36, .int .u8 45, .int .u8 43, .int .u8 51, .int .u8 22, .int .u8 53, .int .u8 39, .int .u8 33, .int .u8 30, .int .u8 24, .int .u8 18, .int .u8 12, .int .u8 5, .int .u8 63, .int .u8 55, .int .u8 48, .int .u8 27, .int .u8 60, .int .u8 41, .int .u8 37, .int .u8 16, .int .u8 46, .int .u8 35, .int .u8 44, .int .u8 21, .int .u8 52, .int .u8 32, .int .u8 23, .int .u8 11, .int .u8 54, .int .u8 26, .int .u8 40, .int .u8 15, .int .u8 34, .int .u8 20, .int .u8 31, .int .u8 10, .int .u8 25, .int .u8 14, .int .u8 19, .int .u8 9, .int .u8 13, .int .u8 8, .int .u8 7, .int .u8 6]),
  (2, t290, [.int .u64 1, .int .u64 10, .int .u64 100, .int .u64 1000, .int .u64 10000, .int .u64 100000, .int .u64 1000000, .int .u64 10000000, .int .u64 100000000, .int .u64 1000000000, .int .u64 10000000000, .int .u64 100000000000, .int .u64 1000000000000, .int .u64 10000000000000, .int .u64 100000000000000, .int .u64 1000000000000000, .int .u64 10000000000000000, .int .u64 100000000000000000, .int .u64 1000000000000000000, .int .u64 10000000000000000000])]⟩
theorem yG : Tryz.prog.follows .mixedOrders = true := by kernel_rfl
theorem yR : yn Tryz.prog T := by unfold yn; kernel_rfl
theorem eNil {P : Program} : ∀ e ∈ ([] : List Entry), FnOK P e := fun e h => by cases h
theorem yD {P : Program} {e : Entry} {l : List Entry} (h : FnOK P e) (hl : ∀ e ∈ l, FnOK P e) : ∀ f ∈ e :: l, FnOK P f := fun f hf => by
  rcases List.mem_cons.1 hf with rfl | hf
  · exact h
  · exact hl f hf
theorem iNil {P : Program} : ∀ e ∈ ([] : List Inl), y3O P e := fun e h => by cases h
theorem y6J {P : Program} {e : Inl} {l : List Inl} (h : y3O P e) (hl : ∀ e ∈ l, y3O P e) : ∀ f ∈ e :: l, y3O P f := fun f hf => by
  rcases List.mem_cons.1 hf with rfl | hf
  · exact h
  · exact hl f hf
theorem yP {α : Type} (c : Bool) (x y : α) : (bif c then some x else some y) = some (bif c then x else y) := by cases c <;> rfl
end
end Go.Tw
end
section
set_option maxRecDepth 1000000
namespace Go.Tw
open Go.Vx Go.Vx.B Go.Proofs
noncomputable section
abbrev yKd : Ty := .pair t4 (.pair t35 .unit)
abbrev yOL : Ty := .pair t35 .unit
def yRD : G := { T := T, E := [], muts := [], fz := [] }
def yT7 : List (List Nat) := []
def yKQ (n : Nat) : Ann := { keep := yT7, fuel := n, inl := [], deep := 0 }
def yIV (n : Nat) (holds : Bool) (e : Int) : Option (Int × Unit) :=
  (bif holds then some (e, ()) else some ((0 : Int), ()))
theorem yOh (n : Nat) (x : yKd.den) : runF yRD (yKQ n) Tryz.f89 yKd yOL x = yIV n x.1 x.2.1 := by kernel_rfl
def z0V (holds : Bool) (e : Int) : (Int × Unit) :=
  (bif holds then (e, ()) else ((0 : Int), ()))
abbrev yOK (holds : Bool) (e : Int) : Option (Int × Unit) := some (z0V holds e)
theorem yMe (holds : Bool) (e : Int) (y : Int × Unit) (h : yOK holds e = some y) : ∃ n, yIV n holds e = some y :=
  ⟨0, by rw [← h]; show yIV 0 holds e = some (z0V holds e); unfold yIV z0V; first | rfl | (simp only [yP]; done) | (simp only [yP]; rfl)⟩
def z0V_e : Entry := { f := 89, args := yKd, ress := yOL, m := fun x => yOK x.1 x.2.1 }
theorem y3U : FnOK Tryz.prog z0V_e := yS (g := yRD) (fn := Tryz.f89) yG yR eNil (by kernel_rfl) (by kernel_rfl) (by kernel_rfl) (fun x y h => let ⟨n, hn⟩ := yMe x.1 x.2.1 y h; ⟨yKQ n, iNil, (yOh n x).trans hn⟩)
abbrev yLj : Ty := .pair t174 .unit
abbrev yQq : Ty := .pair t35 .unit
def yRK : G := { T := T, E := [], muts := [], fz := [] }
def ySE : List (List Nat) := [[5, 6, 7]]
def yKa (n : Nat) : Ann := { keep := ySE, fuel := n, inl := [], deep := 0 }
def yD7 (n : Nat) (r0 : List Int → Int → Int → Option (Int × Unit)) (ax : List Int) (aN : Int) (aK : Int) : Option (Int × Unit) :=
  (bif decide (aK < aN) then (Option.bind (idx ax aK) fun (v1 : Int) => (bif v1 != 0 then some (v1, ()) else r0 ax aN (IntKind.i64.wrap (aK + 1)))) else some ((0 : Int), ()))
def y6R (n : Nat)  (k : Nat) (ax : List Int) (aN : Int) (aK : Int) : Option (Int × Unit) :=
  iter (fun r y => yD7 n (fun ax aN aK => r ((ax, (aN, (aK, ()))), ((), ()))) y.1.1 y.1.2.1 y.1.2.2.1) k ((ax, (aN, (aK, ()))), ((), ()))
def yIZ (n : Nat) (l : List Int) : Option (Int × Unit) :=
  (y6R n n (l) ((↑l.length : Int)) ((0 : Int)))
theorem yPL (n : Nat) (x : yLj.den) : runF yRK (yKa n) Tryz.f87 yLj yQq x = yIZ n x.1 := by kernel_rfl
def yE0 (ax : List Int) (aK : Int) (v1 : Int) : Option ((Int × Unit) ⊕ Unit) :=
  (bif v1 != 0 then (some (Sum.inl ((v1, ())))) else (some (Sum.inr ())))
def yDI (ax : List Int) : Option (Int × Unit) :=
  (some (((0 : Int), ())))
theorem yBz (n : Nat) (hn : big ≤ n)  (ax : List Int) (hx : List.length (ax) < lenMax) : LeF some (yL (fun i__ e__ s__ => yE0 ax i__ e__) (fun s__ => yDI ax) 0 (ax) ()) (y6R n n ax (List.length (ax) : Int) 0) := by
  refine yK (f := some) (W := fun k__ i__ s__ => y6R n k__ ax (List.length (ax) : Int) i__) (body := (fun i__ e__ s__ => yE0 ax i__ e__)) (fin := (fun s__ => yDI ax)) (fun k__ i__ s__ => ?_) hx () n (by unfold big at hn; unfold lenMax at hx; omega)
  show LeF _ _ (yD7 n (y6R n k__) ax (List.length (ax) : Int) i__)
  exact y6 (y5 fun v1 => (y6 (y7 rfl) (y7 rfl))) (y03 (y7 rfl))
def y0U (l : List Int) : Option (Int × Unit) :=
  (bif decide (List.length (l) < lenMax) then yL (fun i__ e__ s__ => yE0 (l) i__ e__) (fun s__ => yDI (l)) 0 (l) () else none)
theorem yLH (l : List Int) (y : Int × Unit) (h : y0U l = some y) : ∃ n, yIZ n l = some y :=
  ⟨big, LeF.top (show LeF some (y0U l) (yIZ big l) from (fun (n : Nat) (hn : big ≤ n) => show LeF some (y0U l) (yIZ n l) from (yN fun hx => by apply yBz n hn; exact hx)) big (Nat.le_refl _)) h⟩
def z0J_e : Entry := { f := 87, args := yLj, ress := yQq, m := fun x => y0U x.1 }
theorem y3n : FnOK Tryz.prog z0J_e := yS (g := yRK) (fn := Tryz.f87) yG yR eNil (by kernel_rfl) (by kernel_rfl) (by kernel_rfl) (fun x y h => let ⟨n, hn⟩ := yLH x.1 y h; ⟨yKa n, iNil, (yPL n x).trans hn⟩)
abbrev zi_a : Ty := .pair t159 (.pair t3 .unit)
abbrev zi_r : Ty := .pair t3 .unit
def zi_g : G := { T := T, E := [], muts := [], fz := [] }
def zi_k : List (List Nat) := []
def yQ3 (n : Nat) : Ann := { keep := zi_k, fuel := n, inl := [], deep := 0 }
def zi_m (n : Nat) (n1 : Nod) (volume : Int) : Option (Int × Unit) :=
  (bif n1.2.1 == 0 then none else some (IntKind.i64.wrap (volume.tdiv n1.2.1), ()))
theorem ySt (n : Nat) (x : zi_a.den) : runF zi_g (yQ3 n) Tryz.f91 zi_a zi_r x = zi_m n x.1 x.2.1 := by kernel_rfl
def zi_M (n1 : Nod) (volume : Int) : Option (Int × Unit) := zi_m 0 n1 volume
theorem yRJ (n1 : Nod) (volume : Int) (y : Int × Unit) (h : zi_M n1 volume = some y) : ∃ n, zi_m n n1 volume = some y := ⟨0, h⟩
def zi_e : Entry := { f := 91, args := zi_a, ress := zi_r, m := fun x => zi_M x.1 x.2.1 }
theorem yPQ : FnOK Tryz.prog zi_e := yS (g := zi_g) (fn := Tryz.f91) yG yR eNil (by kernel_rfl) (by kernel_rfl) (by kernel_rfl) (fun x y h => let ⟨n, hn⟩ := yRJ x.1 x.2.1 y h; ⟨yQ3 n, iNil, (ySt n x).trans hn⟩)
abbrev yM2 : Ty := .pair t3 (.pair t3 .unit)
abbrev yRC : Ty := .pair t3 .unit
def yQJ : G := { T := T, E := [], muts := [], fz := [] }
def yT0 : List (List Nat) := []
def yJy (n : Nat) : Ann := { keep := yT0, fuel := n, inl := [], deep := 0 }
def yM7 (n : Nat) (a : Int) (b : Int) : Option (Int × Unit) :=
  (bif b == 0 then none else (bif decide (IntKind.i64.wrap (IntKind.i64.wrap (a.tdiv b) * b) > a) then some (IntKind.i64.wrap (IntKind.i64.wrap (a.tdiv b) - (1 : Int)), ()) else some (IntKind.i64.wrap (a.tdiv b), ())))
theorem yOn (n : Nat) (x : yM2.den) : runF yQJ (yJy n) Tryz.f199 yM2 yRC x = yM7 n x.1 x.2.1 := by kernel_rfl
def yGK (a : Int) (b : Int) : Option (Int × Unit) := yM7 0 a b
theorem yLn (a : Int) (b : Int) (y : Int × Unit) (h : yGK a b = some y) : ∃ n, yM7 n a b = some y := ⟨0, h⟩
def z0K_e : Entry := { f := 199, args := yM2, ress := yRC, m := fun x => yGK x.1 x.2.1 }
theorem yJj : FnOK Tryz.prog z0K_e := yS (g := yQJ) (fn := Tryz.f199) yG yR eNil (by kernel_rfl) (by kernel_rfl) (by kernel_rfl) (fun x y h => let ⟨n, hn⟩ := yLn x.1 x.2.1 y h; ⟨yJy n, iNil, (yOn n x).trans hn⟩)
def yNY (n : Nat) (a : Int) (b : Int) : Option (Int × Unit) :=
  (bif b == 0 then none else (bif decide (IntKind.i64.wrap (IntKind.i64.wrap (a.tdiv b) * b) > a) then some (IntKind.i64.wrap (IntKind.i64.wrap (a.tdiv b) - (1 : Int)), ()) else some (IntKind.i64.wrap (a.tdiv b), ())))
def yCI (a : Int) (b : Int) : Option (Int × Unit) := yNY 0 a b
abbrev zl_a : Ty := .pair t3 (.pair t3 (.pair t3 .unit))
abbrev zl_r : Ty := .pair t3 .unit
def zl_g : G := { T := T, E := [], muts := [], fz := [] }
def zl_k : List (List Nat) := []
def yRE (n : Nat) : Ann := { keep := zl_k, fuel := n, inl := [], deep := 0 }
def zl_m (n : Nat) (n1 : Int) (low : Int) (high : Int) : Option (Int × Unit) :=
  (bif decide (n1 < low) then some ((3 : Int), ()) else (bif decide (n1 > high) then some ((3 : Int), ()) else some ((0 : Int), ())))
theorem yRn (n : Nat) (x : zl_a.den) : runF zl_g (yRE n) Tryz.f93 zl_a zl_r x = zl_m n x.1 x.2.1 x.2.2.1 := by kernel_rfl
def zl (n1 : Int) (low : Int) (high : Int) : (Int × Unit) :=
  (bif decide (n1 < low) then ((3 : Int), ()) else (bif decide (n1 > high) then ((3 : Int), ()) else ((0 : Int), ())))
abbrev zl_M (n1 : Int) (low : Int) (high : Int) : Option (Int × Unit) := some (zl n1 low high)
theorem yR5 (n1 : Int) (low : Int) (high : Int) (y : Int × Unit) (h : zl_M n1 low high = some y) : ∃ n, zl_m n n1 low high = some y :=
  ⟨0, by rw [← h]; show zl_m 0 n1 low high = some (zl n1 low high); unfold zl_m zl; first | rfl | (simp only [yP]; done) | (simp only [yP]; rfl)⟩
def zl_e : Entry := { f := 93, args := zl_a, ress := zl_r, m := fun x => zl_M x.1 x.2.1 x.2.2.1 }
theorem yIF : FnOK Tryz.prog zl_e := yS (g := zl_g) (fn := Tryz.f93) yG yR eNil (by kernel_rfl) (by kernel_rfl) (by kernel_rfl) (fun x y h => let ⟨n, hn⟩ := yR5 x.1 x.2.1 x.2.2.1 y h; ⟨yRE n, iNil, (yRn n x).trans hn⟩)
abbrev yMP : Ty := .pair t26 .unit
abbrev yO9 : Ty := .pair t3 .unit
def yQe : G := { T := T, E := [], muts := [], fz := [] }
def yS5 : List (List Nat) := [[0, 3]]
def yKF (n : Nat) : Ann := { keep := yS5, fuel := n, inl := [], deep := 0 }
def yDi (n : Nat) (r0 : List Int → Int → Option (Int × Unit)) (aj : List Int) (aH : Int) : Option (Int × Unit) :=
  (bif decide (aH < (↑aj.length : Int)) then (Option.bind (idx aj aH) fun (v1 : Int) => (bif v1 != 0 then (Option.bind (idx aj aH) fun (v2 : Int) => some (v2, ())) else r0 aj (IntKind.i64.wrap (aH + 1)))) else some ((0 : Int), ()))
def y6Q (n : Nat)  (k : Nat) (aj : List Int) (aH : Int) : Option (Int × Unit) :=
  iter (fun r y => yDi n (fun aj aH => r ((aj, (aH, ())), ((), ()))) y.1.1 y.1.2.1) k ((aj, (aH, ())), ((), ()))
def yIz (n : Nat) (l : List Int) : Option (Int × Unit) :=
  (y6Q n n (l) ((0 : Int)))
theorem yOA (n : Nat) (x : yMP.den) : runF yQe (yKF n) Tryz.f121 yMP yO9 x = yIz n x.1 := by kernel_rfl
def yBi (aj : List Int) (aH : Int) (v1 : Int) : Option ((Int × Unit) ⊕ Unit) :=
  (bif v1 != 0 then (Option.bind (idx aj aH) fun (v2 : Int) => (some (Sum.inl ((v2, ()))))) else (some (Sum.inr ())))
def yBc (aj : List Int) : Option (Int × Unit) :=
  (some (((0 : Int), ())))
theorem yCz (n : Nat) (hn : big ≤ n)  (aj : List Int) (hx : List.length (aj) < lenMax) : LeF some (yL (fun i__ e__ s__ => yBi aj i__ e__) (fun s__ => yBc aj) 0 (aj) ()) (y6Q n n aj 0) := by
  refine yK (f := some) (W := fun k__ i__ s__ => y6Q n k__ aj i__) (body := (fun i__ e__ s__ => yBi aj i__ e__)) (fin := (fun s__ => yBc aj)) (fun k__ i__ s__ => ?_) hx () n (by unfold big at hn; unfold lenMax at hx; omega)
  show LeF _ _ (yDi n (y6Q n k__) aj i__)
  exact y6 (y5 fun v1 => (y6 (y5 fun v2 => (y7 rfl)) (y7 rfl))) (y03 (y7 rfl))
def y7h (l : List Int) : Option (Int × Unit) :=
  (bif decide (List.length (l) < lenMax) then yL (fun i__ e__ s__ => yBi (l) i__ e__) (fun s__ => yBc (l)) 0 (l) () else none)
theorem yMN (l : List Int) (y : Int × Unit) (h : y7h l = some y) : ∃ n, yIz n l = some y :=
  ⟨big, LeF.top (show LeF some (y7h l) (yIz big l) from (fun (n : Nat) (hn : big ≤ n) => show LeF some (y7h l) (yIz n l) from (yN fun hx => by apply yCz n hn; exact hx)) big (Nat.le_refl _)) h⟩
def z0O_e : Entry := { f := 121, args := yMP, ress := yO9, m := fun x => y7h x.1 }
theorem yK4 : FnOK Tryz.prog z0O_e := yS (g := yQe) (fn := Tryz.f121) yG yR eNil (by kernel_rfl) (by kernel_rfl) (by kernel_rfl) (fun x y h => let ⟨n, hn⟩ := yMN x.1 y h; ⟨yKF n, iNil, (yOA n x).trans hn⟩)
abbrev yM9 : Ty := .pair t9 .unit
abbrev yOT : Ty := .pair t4 (.pair t4 .unit)
def yPK : G := { T := T, E := [], muts := [], fz := [] }
def ySy : List (List Nat) := []
def yJw (n : Nat) : Ann := { keep := ySy, fuel := n, inl := [], deep := 0 }
def yJO (n : Nat) (kind : List UInt8) : Option (Bool × Bool × Unit) :=
  (bif kind == [(98 : UInt8), 97, 114, 114, 105, 101, 114] then some (Bool.true, kind == [(111 : UInt8), 117, 116, 102, 97, 108, 108], ()) else some (kind == [(108 : UInt8), 101, 97, 107], kind == [(111 : UInt8), 117, 116, 102, 97, 108, 108], ()))
theorem yP0 (n : Nat) (x : yM9.den) : runF yPK (yJw n) Tryz.f145 yM9 yOT x = yJO n x.1 := by kernel_rfl
def z0c (kind : List UInt8) : (Bool × Bool × Unit) :=
  (bif kind == [(98 : UInt8), 97, 114, 114, 105, 101, 114] then (Bool.true, kind == [(111 : UInt8), 117, 116, 102, 97, 108, 108], ()) else (kind == [(108 : UInt8), 101, 97, 107], kind == [(111 : UInt8), 117, 116, 102, 97, 108, 108], ()))
abbrev yQS (kind : List UInt8) : Option (Bool × Bool × Unit) := some (z0c kind)
theorem yMh (kind : List UInt8) (y : Bool × Bool × Unit) (h : yQS kind = some y) : ∃ n, yJO n kind = some y :=
  ⟨0, by rw [← h]; show yJO 0 kind = some (z0c kind); unfold yJO z0c; first | rfl | (simp only [yP]; done) | (simp only [yP]; rfl)⟩
def z0c_e : Entry := { f := 145, args := yM9, ress := yOT, m := fun x => yQS x.1 }
theorem yQo : FnOK Tryz.prog z0c_e := yS (g := yPK) (fn := Tryz.f145) yG yR eNil (by kernel_rfl) (by kernel_rfl) (by kernel_rfl) (fun x y h => let ⟨n, hn⟩ := yMh x.1 y h; ⟨yJw n, iNil, (yP0 n x).trans hn⟩)
abbrev yKr : Ty := .pair t3 (.pair t3 (.pair t4 .unit))
abbrev yQA : Ty := .pair t4 .unit
def yPR : G := { T := T, E := [], muts := [], fz := [] }
def yTL : List (List Nat) := []
def yKN (n : Nat) : Ann := { keep := yTL, fuel := n, inl := [], deep := 0 }
def yIr (n : Nat) (n1 : Int) (nodes : Int) (atSea : Bool) : Option (Bool × Unit) :=
  (bif atSea then some (n1 == (-1 : Int), ()) else (bif decide (n1 ≥ 0) then some (decide (n1 < nodes), ()) else some (Bool.false, ())))
theorem yOs (n : Nat) (x : yKr.den) : runF yPR (yKN n) Tryz.f146 yKr yQA x = yIr n x.1 x.2.1 x.2.2.1 := by kernel_rfl
def z0Y (n1 : Int) (nodes : Int) (atSea : Bool) : (Bool × Unit) :=
  (bif atSea then (n1 == (-1 : Int), ()) else (bif decide (n1 ≥ 0) then (decide (n1 < nodes), ()) else (Bool.false, ())))
abbrev yO1 (n1 : Int) (nodes : Int) (atSea : Bool) : Option (Bool × Unit) := some (z0Y n1 nodes atSea)
theorem yLK (n1 : Int) (nodes : Int) (atSea : Bool) (y : Bool × Unit) (h : yO1 n1 nodes atSea = some y) : ∃ n, yIr n n1 nodes atSea = some y :=
  ⟨0, by rw [← h]; show yIr 0 n1 nodes atSea = some (z0Y n1 nodes atSea); unfold yIr z0Y; first | rfl | (simp only [yP]; done) | (simp only [yP]; rfl)⟩
def z0Y_e : Entry := { f := 146, args := yKr, ress := yQA, m := fun x => yO1 x.1 x.2.1 x.2.2.1 }
theorem yOD : FnOK Tryz.prog z0Y_e := yS (g := yPR) (fn := Tryz.f146) yG yR eNil (by kernel_rfl) (by kernel_rfl) (by kernel_rfl) (fun x y h => let ⟨n, hn⟩ := yLK x.1 x.2.1 x.2.2.1 y h; ⟨yKN n, iNil, (yOs n x).trans hn⟩)
abbrev yKl : Ty := .pair t96 .unit
abbrev yNU : Ty := .pair t253 .unit
def yNw : G := { T := T, E := [], muts := [], fz := [] }
def yTN : List (List Nat) := []
def yKB (n : Nat) : Ann := { keep := yTN, fuel := n, inl := [], deep := 0 }
def yIO (n : Nat) (x1 : Int × Int × Unit) : Option (List Int × Unit) :=
  some ([x1.1, x1.2.1], ())
theorem yOv (n : Nat) (x : yKl.den) : runF yNw (yKB n) Tryz.f166 yKl yNU x = yIO n x.1 := by kernel_rfl
def z0U (x1 : Int × Int × Unit) : (List Int × Unit) :=
  ([x1.1, x1.2.1], ())
abbrev yOe (x1 : Int × Int × Unit) : Option (List Int × Unit) := some (z0U x1)
theorem yKc (x1 : Int × Int × Unit) (y : List Int × Unit) (h : yOe x1 = some y) : ∃ n, yIO n x1 = some y :=
  ⟨0, by rw [← h]; show yIO 0 x1 = some (z0U x1); unfold yIO z0U; first | rfl | (simp only [yP]; done) | (simp only [yP]; rfl)⟩
def z0U_e : Entry := { f := 166, args := yKl, ress := yNU, m := fun x => yOe x.1 }
theorem yKM : FnOK Tryz.prog z0U_e := yS (g := yNw) (fn := Tryz.f166) yG yR eNil (by kernel_rfl) (by kernel_rfl) (by kernel_rfl) (fun x y h => let ⟨n, hn⟩ := yKc x.1 y h; ⟨yKB n, iNil, (yOv n x).trans hn⟩)
abbrev yKz : Ty := .unit
abbrev yNl : Ty := .pair t67 .unit
def yQj : G := { T := T, E := [], muts := [], fz := [] }
def ySY : List (List Nat) := []
def yKS (n : Nat) : Ann := { keep := ySY, fuel := n, inl := [], deep := 0 }
def yI5 (n : Nat)  : Option (List (List UInt8) × Unit) :=
  some ([[(98 : UInt8), 97, 114, 114, 105, 101, 114], [(108 : UInt8), 101, 97, 107], [(111 : UInt8), 117, 116, 102, 97, 108, 108], [(112 : UInt8), 117, 109, 112], [(119 : UInt8), 101, 105, 114]], ())
theorem yQs (n : Nat) (x : yKz.den) : runF yQj (yKS n) Tryz.f38 yKz yNl x = yI5 n := by kernel_rfl
def z0Q  : (List (List UInt8) × Unit) :=
  ([[(98 : UInt8), 97, 114, 114, 105, 101, 114], [(108 : UInt8), 101, 97, 107], [(111 : UInt8), 117, 116, 102, 97, 108, 108], [(112 : UInt8), 117, 109, 112], [(119 : UInt8), 101, 105, 114]], ())
abbrev yP8  : Option (List (List UInt8) × Unit) := some (z0Q)
theorem yLF  (y : List (List UInt8) × Unit) (h : yP8 = some y) : ∃ n, yI5 n = some y :=
  ⟨0, by rw [← h]; show yI5 0 = some (z0Q); unfold yI5 z0Q; first | rfl | (simp only [yP]; done) | (simp only [yP]; rfl)⟩
def z0Q_e : Entry := { f := 38, args := yKz, ress := yNl, m := fun x => yP8 }
theorem yOY : FnOK Tryz.prog z0Q_e := yS (g := yQj) (fn := Tryz.f38) yG yR eNil (by kernel_rfl) (by kernel_rfl) (by kernel_rfl) (fun x y h => let ⟨n, hn⟩ := yLF y h; ⟨yKS n, iNil, (yQs n x).trans hn⟩)
abbrev yL1 : Ty := .pair t25 .unit
abbrev yNT : Ty := .pair t4 .unit
def yPt : G := { T := T, E := [], muts := [], fz := [] }
def ySS : List (List Nat) := [[1, 3], [1, 4]]
def yJl (n : Nat) : Ann := { keep := ySS, fuel := n, inl := [], deep := 0 }
def yDj (n : Nat) (r7 : Bas → Int → Option (Bool × Unit)) (az : Bas) (aL : Int) : Option (Bool × Unit) :=
  (bif decide (aL < (↑az.2.1.length : Int)) then (Option.bind (idx az.2.1 aL) fun (v8 : Lnk) => (bif decide ((↑v8.1.length : Int) > 60) then some (Bool.false, ()) else r7 az (IntKind.i64.wrap (aL + 1)))) else some (Bool.true, ()))
def y6c (n : Nat)  (k : Nat) (az : Bas) (aL : Int) : Option (Bool × Unit) :=
  iter (fun r y => yDj n (fun az aL => r ((az, (aL, ())), ((), ()))) y.1.1 y.1.2.1) k ((az, (aL, ())), ((), ()))
def yDQ (n : Nat) (r5 : Bas → Int → Option (Bool × Unit)) (ar : Bas) (aM : Int) : Option (Bool × Unit) :=
  (bif decide (aM < (↑ar.1.length : Int)) then (Option.bind (idx ar.1 aM) fun (v6 : Nod) => (bif decide ((↑v6.1.length : Int) > 60) then some (Bool.false, ()) else r5 ar (IntKind.i64.wrap (aM + 1)))) else (y6c n n (ar) ((0 : Int))))
def y6X (n : Nat)  (k : Nat) (ar : Bas) (aM : Int) : Option (Bool × Unit) :=
  iter (fun r y => yDQ n (fun ar aM => r ((ar, (aM, ())), ((), ()))) y.1.1 y.1.2.1) k ((ar, (aM, ())), ((), ()))
def yAS (n : Nat) (b : Bas) : Option (Bool × Unit) :=
  (y6X n n (b) ((0 : Int)))
def yJP (n : Nat) (b : Bas) : Option (Bool × Unit) :=
  (bif decide ((↑b.1.length : Int) > 9) then some (Bool.false, ()) else (bif decide ((↑b.2.1.length : Int) > 8) then (bif (↑b.2.1.length : Int) != 17 then some (Bool.false, ()) else (yAS n b)) else (yAS n b)))
theorem yQ0 (n : Nat) (x : yL1.den) : runF yPt (yJl n) Tryz.f15 yL1 yNT x = yJP n x.1 := by kernel_rfl
def yE5 (az : Bas) (aL : Int) (v8 : Lnk) : Option ((Bool × Unit) ⊕ Unit) :=
  (bif decide ((↑v8.1.length : Int) > 60) then (some (Sum.inl ((Bool.false, ())))) else (some (Sum.inr ())))
def yH3 (az : Bas) : Option (Bool × Unit) :=
  (some ((Bool.true, ())))
theorem yD1 (n : Nat) (hn : big ≤ n)  (az : Bas) (hx : List.length (az.2.1) < lenMax) : LeF some (yL (fun i__ e__ s__ => yE5 az i__ e__) (fun s__ => yH3 az) 0 (az.2.1) ()) (y6c n n az 0) := by
  refine yK (f := some) (W := fun k__ i__ s__ => y6c n k__ az i__) (body := (fun i__ e__ s__ => yE5 az i__ e__)) (fin := (fun s__ => yH3 az)) (fun k__ i__ s__ => ?_) hx () n (by unfold big at hn; unfold lenMax at hx; omega)
  show LeF _ _ (yDj n (y6c n k__) az i__)
  exact y6 (y5 fun v8 => (y6 (y7 rfl) (y7 rfl))) (y03 (y7 rfl))
def yDD (ar : Bas) (aM : Int) (v6 : Nod) : Option ((Bool × Unit) ⊕ Unit) :=
  (bif decide ((↑v6.1.length : Int) > 60) then (some (Sum.inl ((Bool.false, ())))) else (some (Sum.inr ())))
def yBU (ar : Bas) : Option (Bool × Unit) :=
  (bif decide (List.length (ar.2.1) < lenMax) then yL (fun i__ e__ s__ => yE5 (ar) i__ e__) (fun s__ => yH3 (ar)) 0 (ar.2.1) () else none)
theorem yCL (n : Nat) (hn : big ≤ n)  (ar : Bas) (hx : List.length (ar.1) < lenMax) : LeF some (yL (fun i__ e__ s__ => yDD ar i__ e__) (fun s__ => yBU ar) 0 (ar.1) ()) (y6X n n ar 0) := by
  refine yK (f := some) (W := fun k__ i__ s__ => y6X n k__ ar i__) (body := (fun i__ e__ s__ => yDD ar i__ e__)) (fin := (fun s__ => yBU ar)) (fun k__ i__ s__ => ?_) hx () n (by unfold big at hn; unfold lenMax at hx; omega)
  show LeF _ _ (yDQ n (y6X n k__) ar i__)
  exact y6 (y5 fun v6 => (y6 (y7 rfl) (y7 rfl))) (y03 (yN fun hx => by apply yD1 n hn; exact hx))
def yBl (b : Bas) : Option (Bool × Unit) :=
  (bif decide (List.length (b.1) < lenMax) then yL (fun i__ e__ s__ => yDD (b) i__ e__) (fun s__ => yBU (b)) 0 (b.1) () else none)
theorem y2a (n : Nat) (hn : big ≤ n)  (b : Bas) : LeF some (yBl b) (yAS n b) :=
  (yN fun hx => by apply yCL n hn; exact hx)
def yBW (b : Bas) : Option (Bool × Unit) :=
  (bif decide ((↑b.1.length : Int) > 9) then (some ((Bool.false, ()))) else (bif decide ((↑b.2.1.length : Int) > 8) then (bif (↑b.2.1.length : Int) != 17 then (some ((Bool.false, ()))) else (yBl b)) else (yBl b)))
theorem yL9 (b : Bas) (y : Bool × Unit) (h : yBW b = some y) : ∃ n, yJP n b = some y :=
  ⟨big, LeF.top (show LeF some (yBW b) (yJP big b) from (fun (n : Nat) (hn : big ≤ n) => show LeF some (yBW b) (yJP n b) from (y6 (y7 rfl) (y6 (y6 (y7 rfl) (by apply y2a n hn)) (by apply y2a n hn)))) big (Nat.le_refl _)) h⟩
def z0S_e : Entry := { f := 15, args := yL1, ress := yNT, m := fun x => yBW x.1 }
theorem yQP : FnOK Tryz.prog z0S_e := yS (g := yPt) (fn := Tryz.f15) yG yR eNil (by kernel_rfl) (by kernel_rfl) (by kernel_rfl) (fun x y h => let ⟨n, hn⟩ := yL9 x.1 y h; ⟨yJl n, iNil, (yQ0 n x).trans hn⟩)
abbrev yMT : Ty := .pair t26 .unit
abbrev yQW : Ty := .pair t26 .unit
def yO6 : G := { T := T, E := [], muts := [3], fz := [] }
def yS8 : List (List Nat) := []
def yKD (n : Nat) : Ann := { keep := yS8, fuel := n, inl := [], deep := 0 }
def yJK (n : Nat) (l : List Int) : Option (List Int × Unit) :=
  (bif decide ((0 : Nat) + l.length ≤ memMax) then some (l, ()) else none)
theorem yQG (n : Nat) (x : yMT.den) : runF yO6 (yKD n) Tryz.f20 yMT yQW x = yJK n x.1 := by kernel_rfl
def y4g (l : List Int) : Option (List Int × Unit) := yJK 0 l
theorem yLg (l : List Int) (y : List Int × Unit) (h : y4g l = some y) : ∃ n, yJK n l = some y := ⟨0, h⟩
def z0W_e : Entry := { f := 20, args := yMT, ress := yQW, m := fun x => y4g x.1 }
theorem yH6 : FnOK Tryz.prog z0W_e := yS (g := yO6) (fn := Tryz.f20) yG yR eNil (by kernel_rfl) (by kernel_rfl) (by kernel_rfl) (fun x y h => let ⟨n, hn⟩ := yLg x.1 y h; ⟨yKD n, iNil, (yQG n x).trans hn⟩)
abbrev zp_a : Ty := .pair t163 .unit
abbrev zp_r : Ty := .pair t3 .unit
def zp_g : G := { T := T, E := [], muts := [], fz := [] }
def zp_k : List (List Nat) := []
def yPd (n : Nat) : Ann := { keep := zp_k, fuel := n, inl := [], deep := 0 }
def zp_m (n : Nat) (l : Lnk) : Option (Int × Unit) :=
  (bif l.2.1 == (-1 : Int) then some (l.2.2.1, ()) else some (l.2.1, ()))
theorem ySz (n : Nat) (x : zp_a.den) : runF zp_g (yPd n) Tryz.f142 zp_a zp_r x = zp_m n x.1 := by kernel_rfl
def zp (l : Lnk) : (Int × Unit) :=
  (bif l.2.1 == (-1 : Int) then (l.2.2.1, ()) else (l.2.1, ()))
abbrev zp_M (l : Lnk) : Option (Int × Unit) := some (zp l)
theorem yNV (l : Lnk) (y : Int × Unit) (h : zp_M l = some y) : ∃ n, zp_m n l = some y :=
  ⟨0, by rw [← h]; show zp_m 0 l = some (zp l); unfold zp_m zp; first | rfl | (simp only [yP]; done) | (simp only [yP]; rfl)⟩
def zp_e : Entry := { f := 142, args := zp_a, ress := zp_r, m := fun x => zp_M x.1 }
theorem yT2 : FnOK Tryz.prog zp_e := yS (g := zp_g) (fn := Tryz.f142) yG yR eNil (by kernel_rfl) (by kernel_rfl) (by kernel_rfl) (fun x y h => let ⟨n, hn⟩ := yNV x.1 y h; ⟨yPd n, iNil, (ySz n x).trans hn⟩)
abbrev yLq : Ty := .pair t67 (.pair t9 .unit)
abbrev yRA : Ty := .pair t4 .unit
def yN6 : G := { T := T, E := [], muts := [], fz := [] }
def yTF : List (List Nat) := [[0, 1, 5]]
def yKR (n : Nat) : Ann := { keep := yTF, fuel := n, inl := [], deep := 0 }
def yDA (n : Nat) (r0 : List (List UInt8) → List UInt8 → Int → Option (Bool × Unit)) (aj : List (List UInt8)) (aA : List UInt8) (al : Int) : Option (Bool × Unit) :=
  (bif decide (al < (↑aj.length : Int)) then (Option.bind (idx aj al) fun (v1 : List UInt8) => (bif v1 == aA then some (Bool.true, ()) else r0 aj aA (IntKind.i64.wrap (al + 1)))) else some (Bool.false, ()))
def y6b (n : Nat)  (k : Nat) (aj : List (List UInt8)) (aA : List UInt8) (al : Int) : Option (Bool × Unit) :=
  iter (fun r y => yDA n (fun aj aA al => r ((aj, (aA, (al, ()))), ((), ()))) y.1.1 y.1.2.1 y.1.2.2.1) k ((aj, (aA, (al, ()))), ((), ()))
def yI8 (n : Nat) (l : List (List UInt8)) (s : List UInt8) : Option (Bool × Unit) :=
  (y6b n n (l) (s) ((0 : Int)))
theorem yOS (n : Nat) (x : yLq.den) : runF yN6 (yKR n) Tryz.f144 yLq yRA x = yI8 n x.1 x.2.1 := by kernel_rfl
def yED (aj : List (List UInt8)) (aA : List UInt8) (al : Int) (v1 : List UInt8) : Option ((Bool × Unit) ⊕ Unit) :=
  (bif v1 == aA then (some (Sum.inl ((Bool.true, ())))) else (some (Sum.inr ())))
def yGk (aj : List (List UInt8)) (aA : List UInt8) : Option (Bool × Unit) :=
  (some ((Bool.false, ())))
theorem yCH (n : Nat) (hn : big ≤ n)  (aj : List (List UInt8)) (aA : List UInt8) (hx : List.length (aj) < lenMax) : LeF some (yL (fun i__ e__ s__ => yED aj aA i__ e__) (fun s__ => yGk aj aA) 0 (aj) ()) (y6b n n aj aA 0) := by
  refine yK (f := some) (W := fun k__ i__ s__ => y6b n k__ aj aA i__) (body := (fun i__ e__ s__ => yED aj aA i__ e__)) (fin := (fun s__ => yGk aj aA)) (fun k__ i__ s__ => ?_) hx () n (by unfold big at hn; unfold lenMax at hx; omega)
  show LeF _ _ (yDA n (y6b n k__) aj aA i__)
  exact y6 (y5 fun v1 => (y6 (y7 rfl) (y7 rfl))) (y03 (y7 rfl))
def yCK (l : List (List UInt8)) (s : List UInt8) : Option (Bool × Unit) :=
  (bif decide (List.length (l) < lenMax) then yL (fun i__ e__ s__ => yED (l) (s) i__ e__) (fun s__ => yGk (l) (s)) 0 (l) () else none)
theorem yLl (l : List (List UInt8)) (s : List UInt8) (y : Bool × Unit) (h : yCK l s = some y) : ∃ n, yI8 n l s = some y :=
  ⟨big, LeF.top (show LeF some (yCK l s) (yI8 big l s) from (fun (n : Nat) (hn : big ≤ n) => show LeF some (yCK l s) (yI8 n l s) from (yN fun hx => by apply yCH n hn; exact hx)) big (Nat.le_refl _)) h⟩
def z06_e : Entry := { f := 144, args := yLq, ress := yRA, m := fun x => yCK x.1 x.2.1 }
theorem yRG : FnOK Tryz.prog z06_e := yS (g := yN6) (fn := Tryz.f144) yG yR eNil (by kernel_rfl) (by kernel_rfl) (by kernel_rfl) (fun x y h => let ⟨n, hn⟩ := yLl x.1 x.2.1 y h; ⟨yKR n, iNil, (yOS n x).trans hn⟩)
abbrev zv_a : Ty := .pair t26 (.pair t26 .unit)
abbrev zv_r : Ty := .pair t4 .unit
def zv_g : G := { T := T, E := [], muts := [], fz := [] }
def zv_k : List (List Nat) := [[0, 1, 5]]
def yOb (n : Nat) : Ann := { keep := zv_k, fuel := n, inl := [], deep := 0 }
def yHw (n : Nat) (r0 : List Int → List Int → Int → Option (Bool × Unit)) (ai : List Int) (af : List Int) (al : Int) : Option (Bool × Unit) :=
  (bif decide (al < (↑ai.length : Int)) then (Option.bind (idx ai al) fun (v1 : Int) => (Option.bind (idx af al) fun (v2 : Int) => (bif v1 != v2 then some (Bool.false, ()) else r0 ai af (IntKind.i64.wrap (al + 1))))) else some (Bool.true, ()))
def y9L (n : Nat)  (k : Nat) (ai : List Int) (af : List Int) (al : Int) : Option (Bool × Unit) :=
  iter (fun r y => yHw n (fun ai af al => r ((ai, (af, (al, ()))), ((), ()))) y.1.1 y.1.2.1 y.1.2.2.1) k ((ai, (af, (al, ()))), ((), ()))
def zv_m (n : Nat) (a : List Int) (b : List Int) : Option (Bool × Unit) :=
  (bif (↑a.length : Int) != (↑b.length : Int) then some (Bool.false, ()) else (y9L n n (a) (b) ((0 : Int))))
theorem ySD (n : Nat) (x : zv_a.den) : runF zv_g (yOb n) Tryz.f41 zv_a zv_r x = zv_m n x.1 x.2.1 := by kernel_rfl
def yLR (ai : List Int) (af : List Int) (al : Int) (v1 : Int) : Option ((Bool × Unit) ⊕ Unit) :=
  (Option.bind (idx af al) fun (v2 : Int) => (bif v1 != v2 then (some (Sum.inl ((Bool.false, ())))) else (some (Sum.inr ()))))
def yLi (ai : List Int) (af : List Int) : Option (Bool × Unit) :=
  (some ((Bool.true, ())))
theorem yFG (n : Nat) (hn : big ≤ n)  (ai : List Int) (af : List Int) (hx : List.length (ai) < lenMax) : LeF some (yL (fun i__ e__ s__ => yLR ai af i__ e__) (fun s__ => yLi ai af) 0 (ai) ()) (y9L n n ai af 0) := by
  refine yK (f := some) (W := fun k__ i__ s__ => y9L n k__ ai af i__) (body := (fun i__ e__ s__ => yLR ai af i__ e__)) (fin := (fun s__ => yLi ai af)) (fun k__ i__ s__ => ?_) hx () n (by unfold big at hn; unfold lenMax at hx; omega)
  show LeF _ _ (yHw n (y9L n k__) ai af i__)
  exact y6 (y5 fun v1 => (y5 fun v2 => (y6 (y7 rfl) (y7 rfl)))) (y03 (y7 rfl))
def zv_M (a : List Int) (b : List Int) : Option (Bool × Unit) :=
  (bif (↑a.length : Int) != (↑b.length : Int) then (some ((Bool.false, ()))) else (bif decide (List.length (a) < lenMax) then yL (fun i__ e__ s__ => yLR (a) (b) i__ e__) (fun s__ => yLi (a) (b)) 0 (a) () else none))
theorem yNd (a : List Int) (b : List Int) (y : Bool × Unit) (h : zv_M a b = some y) : ∃ n, zv_m n a b = some y :=
  ⟨big, LeF.top (show LeF some (zv_M a b) (zv_m big a b) from (fun (n : Nat) (hn : big ≤ n) => show LeF some (zv_M a b) (zv_m n a b) from (y6 (y7 rfl) (yN fun hx => by apply yFG n hn; exact hx))) big (Nat.le_refl _)) h⟩
def zv_e : Entry := { f := 41, args := zv_a, ress := zv_r, m := fun x => zv_M x.1 x.2.1 }
theorem yPm : FnOK Tryz.prog zv_e := yS (g := zv_g) (fn := Tryz.f41) yG yR eNil (by kernel_rfl) (by kernel_rfl) (by kernel_rfl) (fun x y h => let ⟨n, hn⟩ := yNd x.1 x.2.1 y h; ⟨yOb n, iNil, (ySD n x).trans hn⟩)
def yKX (aO : List Int) (aH : Int) (v1 : Int) : Option ((Bool × Unit) ⊕ Unit) :=
  (bif decide (v1 > 100000000) then (some (Sum.inl ((Bool.true, ())))) else (some (Sum.inr ())))
def yK6 (aO : List Int) : Option (Bool × Unit) :=
  (some ((Bool.false, ())))
def yIQ (v : List Int) : Option (Bool × Unit) :=
  (bif decide (List.length (v) < lenMax) then yL (fun i__ e__ s__ => yKX (v) i__ e__) (fun s__ => yK6 (v)) 0 (v) () else none)
end
end Go.Tw
end
section
set_option maxRecDepth 1000000
namespace Go.Tw
open Go.Vx Go.Vx.B Go.Proofs
noncomputable section
abbrev yMX : Ty := .pair t25 .unit
abbrev yOF : Ty := .pair t41 .unit
def yQY : G := { T := T, E := [], muts := [3], fz := [] }
def ySh : List (List Nat) := [[1, 2, 3, 9, 10, 11], [2, 3, 23, 24, 25]]
def yJz (n : Nat) : Ann := { keep := ySh, fuel := n, inl := [], deep := 0 }
def yDg (n : Nat) (r2 : List Lnk → Int → Int → List Nod → List Lnk → Option (Bas × Unit)) (am : List Lnk) (aJ : Int) (aF : Int) (aB : List Nod) (aE : List Lnk) : Option (Bas × Unit) :=
  (bif decide (aF < aJ) then (Option.bind (idx am aF) fun (v3 : Lnk) => (bif decide (aE.length + (1 : Nat) ≤ memMax) then r2 am aJ (IntKind.i64.wrap (aF + 1)) aB (aE ++ [(v3.1, v3.2.1, v3.2.2.1, v3.2.2.2.1, v3.2.2.2.2.1, ())]) else none)) else some ((aB, aE, ()), ()))
def y6P (n : Nat)  (k : Nat) (am : List Lnk) (aJ : Int) (aF : Int) (aB : List Nod) (aE : List Lnk) : Option (Bas × Unit) :=
  iter (fun r y => yDg n (fun am aJ aF aB aE => r ((am, (aJ, (aF, ()))), (((), ((), (aB, (aE, ())))), ()))) y.1.1 y.1.2.1 y.1.2.2.1 y.2.1.2.2.1 y.2.1.2.2.2.1) k ((am, (aJ, (aF, ()))), (((), ((), (aB, (aE, ())))), ()))
def yDE (n : Nat) (r0 : Bas → List Nod → Int → Int → List Nod → List Lnk → Option (Bas × Unit)) (af : Bas) (ae : List Nod) (ac : Int) (aG : Int) (aC : List Nod) (aD : List Lnk) : Option (Bas × Unit) :=
  (bif decide (aG < ac) then (Option.bind (idx ae aG) fun (v1 : Nod) => (bif decide (aC.length + (1 : Nat) ≤ memMax) then r0 af ae ac (IntKind.i64.wrap (aG + 1)) (aC ++ [(v1.1, v1.2.1, v1.2.2.1, ())]) aD else none)) else (y6P n n (af.2.1) ((↑af.2.1.length : Int)) ((0 : Int)) (aC) (aD)))
def y6j (n : Nat)  (k : Nat) (af : Bas) (ae : List Nod) (ac : Int) (aG : Int) (aC : List Nod) (aD : List Lnk) : Option (Bas × Unit) :=
  iter (fun r y => yDE n (fun af ae ac aG aC aD => r ((af, (ae, (ac, (aG, ())))), (((), ((), (aC, (aD, ())))), ()))) y.1.1 y.1.2.1 y.1.2.2.1 y.1.2.2.2.1 y.2.1.2.2.1 y.2.1.2.2.2.1) k ((af, (ae, (ac, (aG, ())))), (((), ((), (aC, (aD, ())))), ()))
def yJQ (n : Nat) (b : Bas) : Option (Bas × Unit) :=
  (y6j n n (b) (b.1) ((↑b.1.length : Int)) ((0 : Int)) ([]) ([]))
theorem yNv (n : Nat) (x : yMX.den) : runF yQY (yJz n) Tryz.f19 yMX yOF x = yJQ n x.1 := by kernel_rfl
def yDh (am : List Lnk) (aB : List Nod) (aF : Int) (v3 : Lnk) (aE : List Lnk) : Option ((Bas × Unit) ⊕ (List Lnk)) :=
  (bif decide (aE.length + (1 : Nat) ≤ memMax) then (some (Sum.inr (aE ++ [(v3.1, v3.2.1, v3.2.2.1, v3.2.2.2.1, v3.2.2.2.2.1, ())]))) else none)
def yGt (am : List Lnk) (aB : List Nod) (aE : List Lnk) : Option (Bas × Unit) :=
  (some (((aB, aE, ()), ())))
theorem yCV (n : Nat) (hn : big ≤ n)  (am : List Lnk) (aB : List Nod) (aE : List Lnk) (hx : List.length (am) < lenMax) : LeF some (yL (fun i__ e__ s__ => yDh am aB i__ e__ s__) (fun s__ => yGt am aB s__) 0 (am) aE) (y6P n n am (List.length (am) : Int) 0 aB aE) := by
  refine yK (f := some) (W := fun k__ i__ s__ => y6P n k__ am (List.length (am) : Int) i__ aB s__) (body := (fun i__ e__ s__ => yDh am aB i__ e__ s__)) (fin := (fun s__ => yGt am aB s__)) (fun k__ i__ s__ => ?_) hx aE n (by unfold big at hn; unfold lenMax at hx; omega)
  show LeF _ _ (yDg n (y6P n k__) am (List.length (am) : Int) i__ aB s__)
  exact y6 (y5 fun v3 => (y6 (y7 rfl) yx)) (y03 (y7 rfl))
def yE1 (af : Bas) (ae : List Nod) (aD : List Lnk) (aG : Int) (v1 : Nod) (aC : List Nod) : Option ((Bas × Unit) ⊕ (List Nod)) :=
  (bif decide (aC.length + (1 : Nat) ≤ memMax) then (some (Sum.inr (aC ++ [(v1.1, v1.2.1, v1.2.2.1, ())]))) else none)
def yDC (af : Bas) (ae : List Nod) (aD : List Lnk) (aC : List Nod) : Option (Bas × Unit) :=
  (bif decide (List.length (af.2.1) < lenMax) then yL (fun i__ e__ s__ => yDh (af.2.1) (aC) i__ e__ s__) (fun s__ => yGt (af.2.1) (aC) s__) 0 (af.2.1) (aD) else none)
theorem yCA (n : Nat) (hn : big ≤ n)  (af : Bas) (ae : List Nod) (aD : List Lnk) (aC : List Nod) (hx : List.length (ae) < lenMax) : LeF some (yL (fun i__ e__ s__ => yE1 af ae aD i__ e__ s__) (fun s__ => yDC af ae aD s__) 0 (ae) aC) (y6j n n af ae (List.length (ae) : Int) 0 aC aD) := by
  refine yK (f := some) (W := fun k__ i__ s__ => y6j n k__ af ae (List.length (ae) : Int) i__ s__ aD) (body := (fun i__ e__ s__ => yE1 af ae aD i__ e__ s__)) (fin := (fun s__ => yDC af ae aD s__)) (fun k__ i__ s__ => ?_) hx aC n (by unfold big at hn; unfold lenMax at hx; omega)
  show LeF _ _ (yDE n (y6j n k__) af ae (List.length (ae) : Int) i__ s__ aD)
  exact y6 (y5 fun v1 => (y6 (y7 rfl) yx)) (y03 (yN fun hx => by apply yCV n hn; exact hx))
def y5P (b : Bas) : Option (Bas × Unit) :=
  (bif decide (List.length (b.1) < lenMax) then yL (fun i__ e__ s__ => yE1 (b) (b.1) ([]) i__ e__ s__) (fun s__ => yDC (b) (b.1) ([]) s__) 0 (b.1) ([]) else none)
theorem yKs (b : Bas) (y : Bas × Unit) (h : y5P b = some y) : ∃ n, yJQ n b = some y :=
  ⟨big, LeF.top (show LeF some (y5P b) (yJQ big b) from (fun (n : Nat) (hn : big ≤ n) => show LeF some (y5P b) (yJQ n b) from (yN fun hx => by apply yCA n hn; exact hx)) big (Nat.le_refl _)) h⟩
def z0N_e : Entry := { f := 19, args := yMX, ress := yOF, m := fun x => y5P x.1 }
theorem yPu : FnOK Tryz.prog z0N_e := yS (g := yQY) (fn := Tryz.f19) yG yR eNil (by kernel_rfl) (by kernel_rfl) (by kernel_rfl) (fun x y h => let ⟨n, hn⟩ := yKs x.1 y h; ⟨yJz n, iNil, (yNv n x).trans hn⟩)
abbrev zU_a : Ty := .pair t119 (.pair t119 .unit)
abbrev zU_r : Ty := .pair t4 .unit
def zU_g : G := { T := T, E := [], muts := [], fz := [] }
def zU_k : List (List Nat) := [[0, 1, 5], [0, 1, 5, 6]]
def yPs (n : Nat) : Ann := { keep := zU_k, fuel := n, inl := [], deep := 0 }
def yHM (n : Nat) (r0 : List (List (Int × Int × Unit)) → List (List (Int × Int × Unit)) → Int → Option (Bool × Unit)) (r3 : List (List (Int × Int × Unit)) → List (List (Int × Int × Unit)) → Int → Int → Option (Bool × Unit)) (av : List (List (Int × Int × Unit))) (ay : List (List (Int × Int × Unit))) (au : Int) (aI : Int) : Option (Bool × Unit) :=
  (Option.bind (idx av au) fun (v4 : List (Int × Int × Unit)) => (bif decide (aI < (↑v4.length : Int)) then (Option.bind (idx av au) fun (v5 : List (Int × Int × Unit)) => (Option.bind (idx v5 aI) fun (v6 : Int × Int × Unit) => (Option.bind (idx ay au) fun (v7 : List (Int × Int × Unit)) => (Option.bind (idx v7 aI) fun (v8 : Int × Int × Unit) => (bif !eqV ((Ty.int IntKind.i64).pair ((Ty.int IntKind.i64).pair Ty.unit)) v6 v8 then some (Bool.false, ()) else r3 av ay au (IntKind.i64.wrap (aI + 1))))))) else r0 av ay (IntKind.i64.wrap (au + 1))))
def y9t (n : Nat) (r0 : List (List (Int × Int × Unit)) → List (List (Int × Int × Unit)) → Int → Option (Bool × Unit)) (k : Nat) (av : List (List (Int × Int × Unit))) (ay : List (List (Int × Int × Unit))) (au : Int) (aI : Int) : Option (Bool × Unit) :=
  iter (fun r y => yHM n r0 (fun av ay au aI => r ((av, (ay, (au, (aI, ())))), ((), ()))) y.1.1 y.1.2.1 y.1.2.2.1 y.1.2.2.2.1) k ((av, (ay, (au, (aI, ())))), ((), ()))
def yFi (n : Nat) (r0 : List (List (Int × Int × Unit)) → List (List (Int × Int × Unit)) → Int → Option (Bool × Unit)) (ai : List (List (Int × Int × Unit))) (af : List (List (Int × Int × Unit))) (al : Int) : Option (Bool × Unit) :=
  (bif decide (al < (↑ai.length : Int)) then (Option.bind (idx ai al) fun (v1 : List (Int × Int × Unit)) => (Option.bind (idx af al) fun (v2 : List (Int × Int × Unit)) => (bif (↑v1.length : Int) != (↑v2.length : Int) then some (Bool.false, ()) else (y9t n r0 n (ai) (af) (al) ((0 : Int)))))) else some (Bool.true, ()))
def y9j (n : Nat)  (k : Nat) (ai : List (List (Int × Int × Unit))) (af : List (List (Int × Int × Unit))) (al : Int) : Option (Bool × Unit) :=
  iter (fun r y => yFi n (fun ai af al => r ((ai, (af, (al, ()))), ((), ()))) y.1.1 y.1.2.1 y.1.2.2.1) k ((ai, (af, (al, ()))), ((), ()))
def zU_m (n : Nat) (a : List (List (Int × Int × Unit))) (b : List (List (Int × Int × Unit))) : Option (Bool × Unit) :=
  (bif (↑a.length : Int) != (↑b.length : Int) then some (Bool.false, ()) else (y9j n n (a) (b) ((0 : Int))))
theorem yRX (n : Nat) (x : zU_a.den) : runF zU_g (yPs n) Tryz.f74 zU_a zU_r x = zU_m n x.1 x.2.1 := by kernel_rfl
def yLC (av : List (List (Int × Int × Unit))) (ay : List (List (Int × Int × Unit))) (au : Int) (v4 : List (Int × Int × Unit)) (aI : Int) : Option (((Bool × Unit) ⊕ Unit) ⊕ Unit) :=
  (Option.bind (idx av au) fun (v5 : List (Int × Int × Unit)) => (Option.bind (idx v5 aI) fun (v6 : Int × Int × Unit) => (Option.bind (idx ay au) fun (v7 : List (Int × Int × Unit)) => (Option.bind (idx v7 aI) fun (v8 : Int × Int × Unit) => (bif !eqV ((Ty.int IntKind.i64).pair ((Ty.int IntKind.i64).pair Ty.unit)) v6 v8 then (some (Sum.inl (Sum.inl ((Bool.false, ()))))) else (some (Sum.inr ())))))))
def yM6 (av : List (List (Int × Int × Unit))) (ay : List (List (Int × Int × Unit))) (au : Int) (v4 : List (Int × Int × Unit)) : Option ((Bool × Unit) ⊕ Unit) :=
  (some (Sum.inr ()))
theorem yEY (n : Nat) (hn : big ≤ n)  (r0 : List (List (Int × Int × Unit)) → List (List (Int × Int × Unit)) → Int → Option (Bool × Unit)) (av : List (List (Int × Int × Unit))) (ay : List (List (Int × Int × Unit))) (au : Int) (v4 : List (Int × Int × Unit)) (h0__ : (idx av au) = some v4) (hx : ((↑v4.length : Int)) ≤ 9223372036854775807) : LeF (elim some fun (s__ : Unit) => r0 av ay (IntKind.i64.wrap (au + 1))) (y0h (fun i__ s__ => yLC av ay au v4 i__) (fun s__ => yM6 av ay au v4) (((↑v4.length : Int)) - 0).toNat 0 ()) (y9t n r0 n av ay au 0) := by
  refine y4H (f := (elim some fun (s__ : Unit) => r0 av ay (IntKind.i64.wrap (au + 1)))) (W := fun k__ i__ s__ => y9t n r0 k__ av ay au i__) (body := (fun i__ s__ => yLC av ay au v4 i__)) (fin := (fun s__ => yM6 av ay au v4)) (fun k__ i__ s__ => ?_) hx () n 0 (by decide) (by unfold big at hn; omega)
  show LeF _ _ (yHM n r0 (y9t n r0 k__) av ay au i__)
  exact leAt h0__ (y6 (y5 fun v5 => (y5 fun v6 => (y5 fun v7 => (y5 fun v8 => (y6 (y7 rfl) (y7 rfl)))))) (y03 (y7 rfl)))
def yLs (ai : List (List (Int × Int × Unit))) (af : List (List (Int × Int × Unit))) (al : Int) (v1 : List (Int × Int × Unit)) : Option ((Bool × Unit) ⊕ Unit) :=
  (Option.bind (idx af al) fun (v2 : List (Int × Int × Unit)) => (bif (↑v1.length : Int) != (↑v2.length : Int) then (some (Sum.inl ((Bool.false, ())))) else (Option.bind (idx ai al) fun (v4 : List (Int × Int × Unit)) => (bif decide (((↑v4.length : Int)) ≤ 9223372036854775807) then y0h (fun i__ s__ => yLC (ai) (af) (al) v4 i__) (fun s__ => yM6 (ai) (af) (al) v4) (((↑v4.length : Int)) - 0).toNat 0 () else none))))
def yLh (ai : List (List (Int × Int × Unit))) (af : List (List (Int × Int × Unit))) : Option (Bool × Unit) :=
  (some ((Bool.true, ())))
theorem yEz (n : Nat) (hn : big ≤ n)  (ai : List (List (Int × Int × Unit))) (af : List (List (Int × Int × Unit))) (hx : List.length (ai) < lenMax) : LeF some (yL (fun i__ e__ s__ => yLs ai af i__ e__) (fun s__ => yLh ai af) 0 (ai) ()) (y9j n n ai af 0) := by
  refine yK (f := some) (W := fun k__ i__ s__ => y9j n k__ ai af i__) (body := (fun i__ e__ s__ => yLs ai af i__ e__)) (fin := (fun s__ => yLh ai af)) (fun k__ i__ s__ => ?_) hx () n (by unfold big at hn; unfold lenMax at hx; omega)
  show LeF _ _ (yFi n (y9j n k__) ai af i__)
  exact y6 (y5 fun v1 => (y5 fun v2 => (y6 (y7 rfl) (yKj fun v4 h0__ => (yN fun hx => by apply yEY n hn; exact h0__; exact hx))))) (y03 (y7 rfl))
def zU_M (a : List (List (Int × Int × Unit))) (b : List (List (Int × Int × Unit))) : Option (Bool × Unit) :=
  (bif (↑a.length : Int) != (↑b.length : Int) then (some ((Bool.false, ()))) else (bif decide (List.length (a) < lenMax) then yL (fun i__ e__ s__ => yLs (a) (b) i__ e__) (fun s__ => yLh (a) (b)) 0 (a) () else none))
theorem yOR (a : List (List (Int × Int × Unit))) (b : List (List (Int × Int × Unit))) (y : Bool × Unit) (h : zU_M a b = some y) : ∃ n, zU_m n a b = some y :=
  ⟨big, LeF.top (show LeF some (zU_M a b) (zU_m big a b) from (fun (n : Nat) (hn : big ≤ n) => show LeF some (zU_M a b) (zU_m n a b) from (y6 (y7 rfl) (yN fun hx => by apply yEz n hn; exact hx))) big (Nat.le_refl _)) h⟩
def zU_e : Entry := { f := 74, args := zU_a, ress := zU_r, m := fun x => zU_M x.1 x.2.1 }
theorem yS9 : FnOK Tryz.prog zU_e := yS (g := zU_g) (fn := Tryz.f74) yG yR eNil (by kernel_rfl) (by kernel_rfl) (by kernel_rfl) (fun x y h => let ⟨n, hn⟩ := yOR x.1 x.2.1 y h; ⟨yPs n, iNil, (yRX n x).trans hn⟩)
abbrev yKx : Ty := .unit
abbrev yPf : Ty := .pair t41 .unit
def yP1 : G := { T := T, E := [], muts := [], fz := [] }
def yT1 : List (List Nat) := []
def yKY (n : Nat) : Ann := { keep := yT1, fuel := n, inl := [], deep := 0 }
def yJd (n : Nat)  : Option (Bas × Unit) :=
  some (([([(108 : UInt8), 97, 107, 101], (10 : Int), (20 : Int), ()), ([(112 : UInt8), 111, 108, 100, 101, 114], (5 : Int), (8 : Int), ())], [([(98 : UInt8), 97, 114, 114, 105, 101, 114], (-1 : Int), (0 : Int), (0 : Int), (2 : Int), ()), ([(112 : UInt8), 117, 109, 112], (1 : Int), (0 : Int), (4 : Int), (10 : Int), ()), ([(111 : UInt8), 117, 116, 102, 97, 108, 108], (0 : Int), (-1 : Int), (12 : Int), (4 : Int), ())], ()), ())
theorem yNI (n : Nat) (x : yKx.den) : runF yP1 (yKY n) Tryz.f86 yKx yPf x = yJd n := by kernel_rfl
def z0X  : (Bas × Unit) :=
  (([([(108 : UInt8), 97, 107, 101], (10 : Int), (20 : Int), ()), ([(112 : UInt8), 111, 108, 100, 101, 114], (5 : Int), (8 : Int), ())], [([(98 : UInt8), 97, 114, 114, 105, 101, 114], (-1 : Int), (0 : Int), (0 : Int), (2 : Int), ()), ([(112 : UInt8), 117, 109, 112], (1 : Int), (0 : Int), (4 : Int), (10 : Int), ()), ([(111 : UInt8), 117, 116, 102, 97, 108, 108], (0 : Int), (-1 : Int), (12 : Int), (4 : Int), ())], ()), ())
abbrev yOU  : Option (Bas × Unit) := some (z0X)
theorem yKv  (y : Bas × Unit) (h : yOU = some y) : ∃ n, yJd n = some y :=
  ⟨0, by rw [← h]; show yJd 0 = some (z0X); unfold yJd z0X; first | rfl | (simp only [yP]; done) | (simp only [yP]; rfl)⟩
def z0X_e : Entry := { f := 86, args := yKx, ress := yPf, m := fun x => yOU }
theorem yQ4 : FnOK Tryz.prog z0X_e := yS (g := yP1) (fn := Tryz.f86) yG yR eNil (by kernel_rfl) (by kernel_rfl) (by kernel_rfl) (fun x y h => let ⟨n, hn⟩ := yKv y h; ⟨yKY n, iNil, (yNI n x).trans hn⟩)
abbrev yKi : Ty := .pair t9 .unit
abbrev yOc : Ty := .pair t4 .unit
def yOg : G := { T := T, E := [], muts := [], fz := [] }
def ySG : List (List Nat) := [[0, 8, 16, 17, 20, 21, 22, 23, 24, 25, 30, 31, 34, 35, 40, 41, 42, 43, 44, 45, 50, 51, 52]]
def yKO (n : Nat) : Ann := { keep := ySG, fuel := n, inl := [], deep := 0 }
def y57 (n : Nat) (r0 : List UInt8 → List UInt8 → Int → Option (Bool × Unit)) (ah : List UInt8) (str0__0 : List UInt8) (pos0__0 : Int) (j2 : Bool) (j7 : Bool) : Option (Bool × Unit) :=
  (bif !j2 then (bif pos0__0 == 0 then some (Bool.false, ()) else (bif !j7 then some (Bool.false, ()) else r0 ah str0__0 (yl str0__0 pos0__0).2)) else r0 ah str0__0 (yl str0__0 pos0__0).2)
def y2p (n : Nat) (r0 : List UInt8 → List UInt8 → Int → Option (Bool × Unit)) (ah : List UInt8) (str0__0 : List UInt8) (pos0__0 : Int) (j2 : Bool) : Option (Bool × Unit) :=
  (bif decide ((yl str0__0 pos0__0).1 ≥ 48) then (bif decide ((yl str0__0 pos0__0).1 ≤ 57) then (y57 n r0 ah str0__0 pos0__0 j2 (Bool.true)) else (y57 n r0 ah str0__0 pos0__0 j2 ((yl str0__0 pos0__0).1 == 95))) else (y57 n r0 ah str0__0 pos0__0 j2 ((yl str0__0 pos0__0).1 == 95)))
def yEE (n : Nat) (r0 : List UInt8 → List UInt8 → Int → Option (Bool × Unit)) (ah : List UInt8) (str0__0 : List UInt8) (pos0__0 : Int) : Option (Bool × Unit) :=
  (bif decide (pos0__0 < (↑str0__0.length : Int)) then (bif decide ((yl str0__0 pos0__0).1 ≥ 65) then (bif decide ((yl str0__0 pos0__0).1 ≤ 90) then (y2p n r0 ah str0__0 pos0__0 (Bool.true)) else (bif decide ((yl str0__0 pos0__0).1 ≥ 97) then (y2p n r0 ah str0__0 pos0__0 (decide ((yl str0__0 pos0__0).1 ≤ 122))) else (y2p n r0 ah str0__0 pos0__0 (Bool.false)))) else (bif decide ((yl str0__0 pos0__0).1 ≥ 97) then (y2p n r0 ah str0__0 pos0__0 (decide ((yl str0__0 pos0__0).1 ≤ 122))) else (y2p n r0 ah str0__0 pos0__0 (Bool.false)))) else (bif !ah == [] then some (decide ((↑ah.length : Int) ≤ 24), ()) else some (Bool.false, ())))
def y6S (n : Nat)  (k : Nat) (ah : List UInt8) (str0__0 : List UInt8) (pos0__0 : Int) : Option (Bool × Unit) :=
  iter (fun r y => yEE n (fun ah str0__0 pos0__0 => r ((ah, ()), (((str0__0, pos0__0), ()), ()))) y.1.1 y.2.1.1.1 y.2.1.1.2) k ((ah, ()), (((str0__0, pos0__0), ()), ()))
def yI4 (n : Nat) (s : List UInt8) : Option (Bool × Unit) :=
  (y6S n n (s) (s) ((0 : Int)))
theorem yPX (n : Nat) (x : yKi.den) : runF yOg (yKO n) Tryz.f100 yKi yOc x = yI4 n x.1 := by kernel_rfl
def y7r (ah : List UInt8) (str0__0 : List UInt8) (pos0__0 : Int) (j2 : Bool) (j7 : Bool) : Option ((Bool × Unit) ⊕ Unit) :=
  (bif !j2 then (bif pos0__0 == 0 then (some (Sum.inl ((Bool.false, ())))) else (bif !j7 then (some (Sum.inl ((Bool.false, ())))) else (some (Sum.inr ())))) else (some (Sum.inr ())))
theorem y15 (n : Nat) (hn : big ≤ n)  (r0 : List UInt8 → List UInt8 → Int → Option (Bool × Unit)) (ah : List UInt8) (str0__0 : List UInt8) (pos0__0 : Int) (j2 : Bool) (j7 : Bool) : LeF (elim some fun (s__ : Unit) => r0 ah str0__0 (yl (str0__0) pos0__0).2) (y7r ah str0__0 pos0__0 j2 j7) (y57 n r0 ah str0__0 pos0__0 j2 j7) :=
  (y6 (y6 (y7 rfl) (y6 (y7 rfl) (y7 rfl))) (y7 rfl))
def y4e (ah : List UInt8) (str0__0 : List UInt8) (pos0__0 : Int) (j2 : Bool) : Option ((Bool × Unit) ⊕ Unit) :=
  (bif decide ((yl str0__0 pos0__0).1 ≥ 48) then (bif decide ((yl str0__0 pos0__0).1 ≤ 57) then (y7r ah str0__0 pos0__0 j2 (Bool.true)) else (y7r ah str0__0 pos0__0 j2 ((yl str0__0 pos0__0).1 == 95))) else (y7r ah str0__0 pos0__0 j2 ((yl str0__0 pos0__0).1 == 95)))
theorem y05 (n : Nat) (hn : big ≤ n)  (r0 : List UInt8 → List UInt8 → Int → Option (Bool × Unit)) (ah : List UInt8) (str0__0 : List UInt8) (pos0__0 : Int) (j2 : Bool) : LeF (elim some fun (s__ : Unit) => r0 ah str0__0 (yl (str0__0) pos0__0).2) (y4e ah str0__0 pos0__0 j2) (y2p n r0 ah str0__0 pos0__0 j2) :=
  (y6 (y6 (by apply y15 n hn) (by apply y15 n hn)) (by apply y15 n hn))
def y8s (ah : List UInt8) (str0__0 : List UInt8) (pos0__0 : Int) : Option ((Bool × Unit) ⊕ Unit) :=
  (bif decide ((yl str0__0 pos0__0).1 ≥ 65) then (bif decide ((yl str0__0 pos0__0).1 ≤ 90) then (y4e ah str0__0 pos0__0 (Bool.true)) else (bif decide ((yl str0__0 pos0__0).1 ≥ 97) then (y4e ah str0__0 pos0__0 (decide ((yl str0__0 pos0__0).1 ≤ 122))) else (y4e ah str0__0 pos0__0 (Bool.false)))) else (bif decide ((yl str0__0 pos0__0).1 ≥ 97) then (y4e ah str0__0 pos0__0 (decide ((yl str0__0 pos0__0).1 ≤ 122))) else (y4e ah str0__0 pos0__0 (Bool.false))))
def y8W (ah : List UInt8) (str0__0 : List UInt8) : Option (Bool × Unit) :=
  (bif !ah == [] then (some ((decide ((↑ah.length : Int) ≤ 24), ()))) else (some ((Bool.false, ()))))
theorem yCG (n : Nat) (hn : big ≤ n)  (ah : List UInt8) (str0__0 : List UInt8) (hx : List.length (str0__0) < lenMax) : LeF some (y82 (str0__0) (fun i__ s__ => y8s ah str0__0 i__) (fun s__ => y8W ah str0__0) (List.length (str0__0)) 0 ()) (y6S n n ah str0__0 0) := by
  refine yJE (f := some) (W := fun k__ i__ s__ => y6S n k__ ah str0__0 i__) (body := (fun i__ s__ => y8s ah str0__0 i__)) (fin := (fun s__ => y8W ah str0__0)) (fun k__ i__ s__ => ?_) () n (by unfold big at hn; unfold lenMax at hx; omega)
  show LeF _ _ (yEE n (y6S n k__) ah str0__0 i__)
  exact y6 (y6 (y6 (by apply y05 n hn) (y6 (by apply y05 n hn) (by apply y05 n hn))) (y6 (by apply y05 n hn) (by apply y05 n hn))) (y03 (y6 (y7 rfl) (y7 rfl)))
def yBo (s : List UInt8) : Option (Bool × Unit) :=
  (bif decide (List.length (s) < lenMax) then y82 (s) (fun i__ s__ => y8s (s) (s) i__) (fun s__ => y8W (s) (s)) (List.length (s)) 0 () else none)
theorem yKh (s : List UInt8) (y : Bool × Unit) (h : yBo s = some y) : ∃ n, yI4 n s = some y :=
  ⟨big, LeF.top (show LeF some (yBo s) (yI4 big s) from (fun (n : Nat) (hn : big ≤ n) => show LeF some (yBo s) (yI4 n s) from (yN fun hx => by apply yCG n hn; exact hx)) big (Nat.le_refl _)) h⟩
def z0A_e : Entry := { f := 100, args := yKi, ress := yOc, m := fun x => yBo x.1 }
theorem yQH : FnOK Tryz.prog z0A_e := yS (g := yOg) (fn := Tryz.f100) yG yR eNil (by kernel_rfl) (by kernel_rfl) (by kernel_rfl) (fun x y h => let ⟨n, hn⟩ := yKh x.1 y h; ⟨yKO n, iNil, (yPX n x).trans hn⟩)
abbrev zB_a : Ty := .pair t39 (.pair t177 .unit)
abbrev zB_r : Ty := .pair t174 .unit
def zB_g : G := { T := T, E := [], muts := [5], fz := [] }
def zB_k : List (List Nat) := [[1, 5, 8, 9, 10]]
def yPl (n : Nat) : Ann := { keep := zB_k, fuel := n, inl := [], deep := 0 }
def yFz (n : Nat) (r0 : (Lnk × Unit → Option (Int × Unit)) → List Lnk → Int → Int → List Int → Option (List Int × Unit)) (a7 : Lnk × Unit → Option (Int × Unit)) (a8 : List Lnk) (ae : Int) (ac : Int) (aa : List Int) : Option (List Int × Unit) :=
  (bif decide (ac < ae) then (Option.bind (idx a8 ac) fun (v1 : Lnk) => (Option.bind (a7 ((v1.1, v1.2.1, v1.2.2.1, v1.2.2.2.1, v1.2.2.2.2.1, ()), ())) fun (v2 : Int × Unit) => (bif decide (aa.length + (1 : Nat) ≤ memMax) then r0 a7 a8 ae (IntKind.i64.wrap (ac + 1)) (aa ++ [v2.1]) else none))) else some (aa, ()))
def yAF (n : Nat)  (k : Nat) (a7 : Lnk × Unit → Option (Int × Unit)) (a8 : List Lnk) (ae : Int) (ac : Int) (aa : List Int) : Option (List Int × Unit) :=
  iter (fun r y => yFz n (fun a7 a8 ae ac aa => r ((a7, (a8, (ae, (ac, ())))), ((aa, ()), ()))) y.1.1 y.1.2.1 y.1.2.2.1 y.1.2.2.2.1 y.2.1.1) k ((a7, (a8, (ae, (ac, ())))), ((aa, ()), ()))
def zB_m (n : Nat) (l : List Lnk) (of : Lnk × Unit → Option (Int × Unit)) : Option (List Int × Unit) :=
  (yAF n n (of) (l) ((↑l.length : Int)) ((0 : Int)) ([]))
theorem ySI (n : Nat) (x : zB_a.den) : runF zB_g (yPl n) Tryz.f101 zB_a zB_r x = zB_m n x.1 x.2.1 := by kernel_rfl
def yJF (a7 : Lnk × Unit → Option (Int × Unit)) (a8 : List Lnk) (ac : Int) (v1 : Lnk) (aa : List Int) : Option ((List Int × Unit) ⊕ (List Int)) :=
  (Option.bind (a7 ((v1.1, v1.2.1, v1.2.2.1, v1.2.2.2.1, v1.2.2.2.2.1, ()), ())) fun (v2 : Int × Unit) => (bif decide (aa.length + (1 : Nat) ≤ memMax) then (some (Sum.inr (aa ++ [v2.1]))) else none))
def yLx (a7 : Lnk × Unit → Option (Int × Unit)) (a8 : List Lnk) (aa : List Int) : Option (List Int × Unit) :=
  (some ((aa, ())))
theorem yEU (n : Nat) (hn : big ≤ n)  (a7 : Lnk × Unit → Option (Int × Unit)) (a8 : List Lnk) (aa : List Int) (hx : List.length (a8) < lenMax) : LeF some (yL (fun i__ e__ s__ => yJF a7 a8 i__ e__ s__) (fun s__ => yLx a7 a8 s__) 0 (a8) aa) (yAF n n a7 a8 (List.length (a8) : Int) 0 aa) := by
  refine yK (f := some) (W := fun k__ i__ s__ => yAF n k__ a7 a8 (List.length (a8) : Int) i__ s__) (body := (fun i__ e__ s__ => yJF a7 a8 i__ e__ s__)) (fin := (fun s__ => yLx a7 a8 s__)) (fun k__ i__ s__ => ?_) hx aa n (by unfold big at hn; unfold lenMax at hx; omega)
  show LeF _ _ (yFz n (yAF n k__) a7 a8 (List.length (a8) : Int) i__ s__)
  exact y6 (y5 fun v1 => (y5 fun v2 => (y6 (y7 rfl) yx))) (y03 (y7 rfl))
def zB_M (l : List Lnk) (of : Lnk × Unit → Option (Int × Unit)) : Option (List Int × Unit) :=
  (bif decide (List.length (l) < lenMax) then yL (fun i__ e__ s__ => yJF (of) (l) i__ e__ s__) (fun s__ => yLx (of) (l) s__) 0 (l) ([]) else none)
theorem yPF (l : List Lnk) (of : Lnk × Unit → Option (Int × Unit)) (y : List Int × Unit) (h : zB_M l of = some y) : ∃ n, zB_m n l of = some y :=
  ⟨big, LeF.top (show LeF some (zB_M l of) (zB_m big l of) from (fun (n : Nat) (hn : big ≤ n) => show LeF some (zB_M l of) (zB_m n l of) from (yN fun hx => by apply yEU n hn; exact hx)) big (Nat.le_refl _)) h⟩
def zB_e : Entry := { f := 101, args := zB_a, ress := zB_r, m := fun x => zB_M x.1 x.2.1 }
theorem yTC : FnOK Tryz.prog zB_e := yS (g := zB_g) (fn := Tryz.f101) yG yR eNil (by kernel_rfl) (by kernel_rfl) (by kernel_rfl) (fun x y h => let ⟨n, hn⟩ := yPF x.1 x.2.1 y h; ⟨yPl n, iNil, (ySI n x).trans hn⟩)
abbrev z6_a : Ty := .pair t108 (.pair t186 .unit)
abbrev z6_r : Ty := .pair t54 .unit
def z6_g : G := { T := T, E := [], muts := [5], fz := [] }
def z6_k : List (List Nat) := [[1, 5, 8, 9, 10]]
def yP2 (n : Nat) : Ann := { keep := z6_k, fuel := n, inl := [], deep := 0 }
def yH5 (n : Nat) (r0 : (Rng × Unit → Option (Cnd × Unit)) → List Rng → Int → Int → List Cnd → Option (List Cnd × Unit)) (a7 : Rng × Unit → Option (Cnd × Unit)) (a8 : List Rng) (ae : Int) (ac : Int) (aa : List Cnd) : Option (List Cnd × Unit) :=
  (bif decide (ac < ae) then (Option.bind (idx a8 ac) fun (v1 : Rng) => (Option.bind (a7 (((v1.1.1, v1.1.2.1, ()), v1.2.1, v1.2.2.1, ()), ())) fun (v2 : Cnd × Unit) => (bif decide (aa.length + (1 : Nat) ≤ memMax) then r0 a7 a8 ae (IntKind.i64.wrap (ac + 1)) (aa ++ [v2.1]) else none))) else some (aa, ()))
def y9X (n : Nat)  (k : Nat) (a7 : Rng × Unit → Option (Cnd × Unit)) (a8 : List Rng) (ae : Int) (ac : Int) (aa : List Cnd) : Option (List Cnd × Unit) :=
  iter (fun r y => yH5 n (fun a7 a8 ae ac aa => r ((a7, (a8, (ae, (ac, ())))), ((aa, ()), ()))) y.1.1 y.1.2.1 y.1.2.2.1 y.1.2.2.2.1 y.2.1.1) k ((a7, (a8, (ae, (ac, ())))), ((aa, ()), ()))
def z6_m (n : Nat) (l : List Rng) (of : Rng × Unit → Option (Cnd × Unit)) : Option (List Cnd × Unit) :=
  (y9X n n (of) (l) ((↑l.length : Int)) ((0 : Int)) ([]))
theorem yRk (n : Nat) (x : z6_a.den) : runF z6_g (yP2 n) Tryz.f109 z6_a z6_r x = z6_m n x.1 x.2.1 := by kernel_rfl
def yKu (a7 : Rng × Unit → Option (Cnd × Unit)) (a8 : List Rng) (ac : Int) (v1 : Rng) (aa : List Cnd) : Option ((List Cnd × Unit) ⊕ (List Cnd)) :=
  (Option.bind (a7 (((v1.1.1, v1.1.2.1, ()), v1.2.1, v1.2.2.1, ()), ())) fun (v2 : Cnd × Unit) => (bif decide (aa.length + (1 : Nat) ≤ memMax) then (some (Sum.inr (aa ++ [v2.1]))) else none))
def yLm (a7 : Rng × Unit → Option (Cnd × Unit)) (a8 : List Rng) (aa : List Cnd) : Option (List Cnd × Unit) :=
  (some ((aa, ())))
theorem yEv (n : Nat) (hn : big ≤ n)  (a7 : Rng × Unit → Option (Cnd × Unit)) (a8 : List Rng) (aa : List Cnd) (hx : List.length (a8) < lenMax) : LeF some (yL (fun i__ e__ s__ => yKu a7 a8 i__ e__ s__) (fun s__ => yLm a7 a8 s__) 0 (a8) aa) (y9X n n a7 a8 (List.length (a8) : Int) 0 aa) := by
  refine yK (f := some) (W := fun k__ i__ s__ => y9X n k__ a7 a8 (List.length (a8) : Int) i__ s__) (body := (fun i__ e__ s__ => yKu a7 a8 i__ e__ s__)) (fin := (fun s__ => yLm a7 a8 s__)) (fun k__ i__ s__ => ?_) hx aa n (by unfold big at hn; unfold lenMax at hx; omega)
  show LeF _ _ (yH5 n (y9X n k__) a7 a8 (List.length (a8) : Int) i__ s__)
  exact y6 (y5 fun v1 => (y5 fun v2 => (y6 (y7 rfl) yx))) (y03 (y7 rfl))
def z6_M (l : List Rng) (of : Rng × Unit → Option (Cnd × Unit)) : Option (List Cnd × Unit) :=
  (bif decide (List.length (l) < lenMax) then yL (fun i__ e__ s__ => yKu (of) (l) i__ e__ s__) (fun s__ => yLm (of) (l) s__) 0 (l) ([]) else none)
theorem yNP (l : List Rng) (of : Rng × Unit → Option (Cnd × Unit)) (y : List Cnd × Unit) (h : z6_M l of = some y) : ∃ n, z6_m n l of = some y :=
  ⟨big, LeF.top (show LeF some (z6_M l of) (z6_m big l of) from (fun (n : Nat) (hn : big ≤ n) => show LeF some (z6_M l of) (z6_m n l of) from (yN fun hx => by apply yEv n hn; exact hx)) big (Nat.le_refl _)) h⟩
def z6_e : Entry := { f := 109, args := z6_a, ress := z6_r, m := fun x => z6_M x.1 x.2.1 }
theorem ySJ : FnOK Tryz.prog z6_e := yS (g := z6_g) (fn := Tryz.f109) yG yR eNil (by kernel_rfl) (by kernel_rfl) (by kernel_rfl) (fun x y h => let ⟨n, hn⟩ := yNP x.1 x.2.1 y h; ⟨yP2 n, iNil, (yRk n x).trans hn⟩)
abbrev zK_a : Ty := .pair t26 (.pair t208 .unit)
abbrev zK_r : Ty := .pair t67 .unit
def zK_g : G := { T := T, E := [], muts := [5], fz := [] }
def zK_k : List (List Nat) := [[1, 5, 8, 9, 10]]
def yQU (n : Nat) : Ann := { keep := zK_k, fuel := n, inl := [], deep := 0 }
def yH0 (n : Nat) (r0 : (Int × Unit → Option (List UInt8 × Unit)) → List Int → Int → Int → List (List UInt8) → Option (List (List UInt8) × Unit)) (a7 : Int × Unit → Option (List UInt8 × Unit)) (a8 : List Int) (ae : Int) (ac : Int) (aa : List (List UInt8)) : Option (List (List UInt8) × Unit) :=
  (bif decide (ac < ae) then (Option.bind (idx a8 ac) fun (v1 : Int) => (Option.bind (a7 (v1, ())) fun (v2 : List UInt8 × Unit) => (bif decide (aa.length + (1 : Nat) ≤ memMax) then r0 a7 a8 ae (IntKind.i64.wrap (ac + 1)) (aa ++ [v2.1]) else none))) else some (aa, ()))
def yAM (n : Nat)  (k : Nat) (a7 : Int × Unit → Option (List UInt8 × Unit)) (a8 : List Int) (ae : Int) (ac : Int) (aa : List (List UInt8)) : Option (List (List UInt8) × Unit) :=
  iter (fun r y => yH0 n (fun a7 a8 ae ac aa => r ((a7, (a8, (ae, (ac, ())))), ((aa, ()), ()))) y.1.1 y.1.2.1 y.1.2.2.1 y.1.2.2.2.1 y.2.1.1) k ((a7, (a8, (ae, (ac, ())))), ((aa, ()), ()))
def zK_m (n : Nat) (l : List Int) (of : Int × Unit → Option (List UInt8 × Unit)) : Option (List (List UInt8) × Unit) :=
  (yAM n n (of) (l) ((↑l.length : Int)) ((0 : Int)) ([]))
theorem yRU (n : Nat) (x : zK_a.den) : runF zK_g (yQU n) Tryz.f128 zK_a zK_r x = zK_m n x.1 x.2.1 := by kernel_rfl
def yMI (a7 : Int × Unit → Option (List UInt8 × Unit)) (a8 : List Int) (ac : Int) (v1 : Int) (aa : List (List UInt8)) : Option ((List (List UInt8) × Unit) ⊕ (List (List UInt8))) :=
  (Option.bind (a7 (v1, ())) fun (v2 : List UInt8 × Unit) => (bif decide (aa.length + (1 : Nat) ≤ memMax) then (some (Sum.inr (aa ++ [v2.1]))) else none))
def yMj (a7 : Int × Unit → Option (List UInt8 × Unit)) (a8 : List Int) (aa : List (List UInt8)) : Option (List (List UInt8) × Unit) :=
  (some ((aa, ())))
theorem yEa (n : Nat) (hn : big ≤ n)  (a7 : Int × Unit → Option (List UInt8 × Unit)) (a8 : List Int) (aa : List (List UInt8)) (hx : List.length (a8) < lenMax) : LeF some (yL (fun i__ e__ s__ => yMI a7 a8 i__ e__ s__) (fun s__ => yMj a7 a8 s__) 0 (a8) aa) (yAM n n a7 a8 (List.length (a8) : Int) 0 aa) := by
  refine yK (f := some) (W := fun k__ i__ s__ => yAM n k__ a7 a8 (List.length (a8) : Int) i__ s__) (body := (fun i__ e__ s__ => yMI a7 a8 i__ e__ s__)) (fin := (fun s__ => yMj a7 a8 s__)) (fun k__ i__ s__ => ?_) hx aa n (by unfold big at hn; unfold lenMax at hx; omega)
  show LeF _ _ (yH0 n (yAM n k__) a7 a8 (List.length (a8) : Int) i__ s__)
  exact y6 (y5 fun v1 => (y5 fun v2 => (y6 (y7 rfl) yx))) (y03 (y7 rfl))
def zK_M (l : List Int) (of : Int × Unit → Option (List UInt8 × Unit)) : Option (List (List UInt8) × Unit) :=
  (bif decide (List.length (l) < lenMax) then yL (fun i__ e__ s__ => yMI (of) (l) i__ e__ s__) (fun s__ => yMj (of) (l) s__) 0 (l) ([]) else none)
theorem yPM (l : List Int) (of : Int × Unit → Option (List UInt8 × Unit)) (y : List (List UInt8) × Unit) (h : zK_M l of = some y) : ∃ n, zK_m n l of = some y :=
  ⟨big, LeF.top (show LeF some (zK_M l of) (zK_m big l of) from (fun (n : Nat) (hn : big ≤ n) => show LeF some (zK_M l of) (zK_m n l of) from (yN fun hx => by apply yEa n hn; exact hx)) big (Nat.le_refl _)) h⟩
def zK_e : Entry := { f := 128, args := zK_a, ress := zK_r, m := fun x => zK_M x.1 x.2.1 }
theorem yS1 : FnOK Tryz.prog zK_e := yS (g := zK_g) (fn := Tryz.f128) yG yR eNil (by kernel_rfl) (by kernel_rfl) (by kernel_rfl) (fun x y h => let ⟨n, hn⟩ := yPM x.1 x.2.1 y h; ⟨yQU n, iNil, (yRU n x).trans hn⟩)
abbrev zG_a : Ty := .pair t26 (.pair t176 .unit)
abbrev zG_r : Ty := .pair t174 .unit
def zG_g : G := { T := T, E := [], muts := [5], fz := [] }
def zG_k : List (List Nat) := [[1, 5, 8, 9, 10]]
def yP5 (n : Nat) : Ann := { keep := zG_k, fuel := n, inl := [], deep := 0 }
def yFo (n : Nat) (r0 : (Int × Unit → Option (Int × Unit)) → List Int → Int → Int → List Int → Option (List Int × Unit)) (a7 : Int × Unit → Option (Int × Unit)) (a8 : List Int) (ae : Int) (ac : Int) (aa : List Int) : Option (List Int × Unit) :=
  (bif decide (ac < ae) then (Option.bind (idx a8 ac) fun (v1 : Int) => (Option.bind (a7 (v1, ())) fun (v2 : Int × Unit) => (bif decide (aa.length + (1 : Nat) ≤ memMax) then r0 a7 a8 ae (IntKind.i64.wrap (ac + 1)) (aa ++ [v2.1]) else none))) else some (aa, ()))
def y9V (n : Nat)  (k : Nat) (a7 : Int × Unit → Option (Int × Unit)) (a8 : List Int) (ae : Int) (ac : Int) (aa : List Int) : Option (List Int × Unit) :=
  iter (fun r y => yFo n (fun a7 a8 ae ac aa => r ((a7, (a8, (ae, (ac, ())))), ((aa, ()), ()))) y.1.1 y.1.2.1 y.1.2.2.1 y.1.2.2.2.1 y.2.1.1) k ((a7, (a8, (ae, (ac, ())))), ((aa, ()), ()))
def zG_m (n : Nat) (l : List Int) (of : Int × Unit → Option (Int × Unit)) : Option (List Int × Unit) :=
  (y9V n n (of) (l) ((↑l.length : Int)) ((0 : Int)) ([]))
theorem yRo (n : Nat) (x : zG_a.den) : runF zG_g (yP5 n) Tryz.f138 zG_a zG_r x = zG_m n x.1 x.2.1 := by kernel_rfl
def yJC (a7 : Int × Unit → Option (Int × Unit)) (a8 : List Int) (ac : Int) (v1 : Int) (aa : List Int) : Option ((List Int × Unit) ⊕ (List Int)) :=
  (Option.bind (a7 (v1, ())) fun (v2 : Int × Unit) => (bif decide (aa.length + (1 : Nat) ≤ memMax) then (some (Sum.inr (aa ++ [v2.1]))) else none))
def yLW (a7 : Int × Unit → Option (Int × Unit)) (a8 : List Int) (aa : List Int) : Option (List Int × Unit) :=
  (some ((aa, ())))
theorem yF1 (n : Nat) (hn : big ≤ n)  (a7 : Int × Unit → Option (Int × Unit)) (a8 : List Int) (aa : List Int) (hx : List.length (a8) < lenMax) : LeF some (yL (fun i__ e__ s__ => yJC a7 a8 i__ e__ s__) (fun s__ => yLW a7 a8 s__) 0 (a8) aa) (y9V n n a7 a8 (List.length (a8) : Int) 0 aa) := by
  refine yK (f := some) (W := fun k__ i__ s__ => y9V n k__ a7 a8 (List.length (a8) : Int) i__ s__) (body := (fun i__ e__ s__ => yJC a7 a8 i__ e__ s__)) (fin := (fun s__ => yLW a7 a8 s__)) (fun k__ i__ s__ => ?_) hx aa n (by unfold big at hn; unfold lenMax at hx; omega)
  show LeF _ _ (yFo n (y9V n k__) a7 a8 (List.length (a8) : Int) i__ s__)
  exact y6 (y5 fun v1 => (y5 fun v2 => (y6 (y7 rfl) yx))) (y03 (y7 rfl))
def zG_M (l : List Int) (of : Int × Unit → Option (Int × Unit)) : Option (List Int × Unit) :=
  (bif decide (List.length (l) < lenMax) then yL (fun i__ e__ s__ => yJC (of) (l) i__ e__ s__) (fun s__ => yLW (of) (l) s__) 0 (l) ([]) else none)
theorem yPN (l : List Int) (of : Int × Unit → Option (Int × Unit)) (y : List Int × Unit) (h : zG_M l of = some y) : ∃ n, zG_m n l of = some y :=
  ⟨big, LeF.top (show LeF some (zG_M l of) (zG_m big l of) from (fun (n : Nat) (hn : big ≤ n) => show LeF some (zG_M l of) (zG_m n l of) from (yN fun hx => by apply yF1 n hn; exact hx)) big (Nat.le_refl _)) h⟩
def zG_e : Entry := { f := 138, args := zG_a, ress := zG_r, m := fun x => zG_M x.1 x.2.1 }
theorem yMx : FnOK Tryz.prog zG_e := yS (g := zG_g) (fn := Tryz.f138) yG yR eNil (by kernel_rfl) (by kernel_rfl) (by kernel_rfl) (fun x y h => let ⟨n, hn⟩ := yPN x.1 x.2.1 y h; ⟨yP5 n, iNil, (yRo n x).trans hn⟩)
abbrev yMg : Ty := .pair t9 .unit
abbrev yN1 : Ty := .pair t4 .unit
def yQ9 : G := { T := T, E := [], muts := [], fz := [] }
def yTE : List (List Nat) := [[0, 3, 25, 26, 29, 30, 31, 32, 33, 34, 39, 40, 41, 42, 43, 44, 45, 46, 47, 48]]
def yJu (n : Nat) : Ann := { keep := yTE, fuel := n, inl := [], deep := 0 }
def y3T (n : Nat) (r2 : List UInt8 → Int → Option (Bool × Unit)) (ak : List UInt8) (aq : Int) (v3 : UInt8) : Option (Bool × Unit) :=
  (bif aq == 0 then some (Bool.false, ()) else (bif (↑v3.toNat : Int) != 95 then (bif decide ((↑v3.toNat : Int) < 48) then some (Bool.false, ()) else (bif decide ((↑v3.toNat : Int) > 57) then some (Bool.false, ()) else r2 ak (IntKind.i64.wrap (aq + 1)))) else r2 ak (IntKind.i64.wrap (aq + 1))))
def yE3 (n : Nat) (r2 : List UInt8 → Int → Option (Bool × Unit)) (ak : List UInt8) (aq : Int) : Option (Bool × Unit) :=
  (bif decide (aq < (↑ak.length : Int)) then (Option.bind (idx ak aq) fun (v3 : UInt8) => (bif decide ((↑v3.toNat : Int) ≥ 97) then (bif decide ((↑v3.toNat : Int) ≤ 122) then r2 ak (IntKind.i64.wrap (aq + 1)) else (bif decide ((↑v3.toNat : Int) ≥ 65) then (bif decide ((↑v3.toNat : Int) ≤ 90) then r2 ak (IntKind.i64.wrap (aq + 1)) else (y3T n r2 ak aq v3)) else (y3T n r2 ak aq v3))) else (bif decide ((↑v3.toNat : Int) ≥ 65) then (bif decide ((↑v3.toNat : Int) ≤ 90) then r2 ak (IntKind.i64.wrap (aq + 1)) else (y3T n r2 ak aq v3)) else (y3T n r2 ak aq v3)))) else some (Bool.true, ()))
def y6a (n : Nat)  (k : Nat) (ak : List UInt8) (aq : Int) : Option (Bool × Unit) :=
  iter (fun r y => yE3 n (fun ak aq => r ((ak, (aq, ())), ((), ()))) y.1.1 y.1.2.1) k ((ak, (aq, ())), ((), ()))
def yIk (n : Nat) (s : List UInt8) : Option (Bool × Unit) :=
  (bif (↑s.length : Int) == 0 then some (Bool.false, ()) else (bif decide ((↑s.length : Int) > 24) then some (Bool.false, ()) else (y6a n n (s) ((0 : Int)))))
theorem yRB (n : Nat) (x : yMg.den) : runF yQ9 (yJu n) Tryz.f143 yMg yN1 x = yIk n x.1 := by kernel_rfl
def y5m (ak : List UInt8) (aq : Int) (v3 : UInt8) : Option ((Bool × Unit) ⊕ Unit) :=
  (bif aq == 0 then (some (Sum.inl ((Bool.false, ())))) else (bif (↑v3.toNat : Int) != 95 then (bif decide ((↑v3.toNat : Int) < 48) then (some (Sum.inl ((Bool.false, ())))) else (bif decide ((↑v3.toNat : Int) > 57) then (some (Sum.inl ((Bool.false, ())))) else (some (Sum.inr ())))) else (some (Sum.inr ()))))
theorem y0Q (n : Nat) (hn : big ≤ n)  (r2 : List UInt8 → Int → Option (Bool × Unit)) (ak : List UInt8) (aq : Int) (v3 : UInt8) : LeF (elim some fun (s__ : Unit) => r2 ak (IntKind.i64.wrap (aq + 1))) (y5m ak aq v3) (y3T n r2 ak aq v3) :=
  (y6 (y7 rfl) (y6 (y6 (y7 rfl) (y6 (y7 rfl) (y7 rfl))) (y7 rfl)))
def y90 (ak : List UInt8) (aq : Int) (v3 : UInt8) : Option ((Bool × Unit) ⊕ Unit) :=
  (bif decide ((↑v3.toNat : Int) ≥ 97) then (bif decide ((↑v3.toNat : Int) ≤ 122) then (some (Sum.inr ())) else (bif decide ((↑v3.toNat : Int) ≥ 65) then (bif decide ((↑v3.toNat : Int) ≤ 90) then (some (Sum.inr ())) else (y5m ak aq v3)) else (y5m ak aq v3))) else (bif decide ((↑v3.toNat : Int) ≥ 65) then (bif decide ((↑v3.toNat : Int) ≤ 90) then (some (Sum.inr ())) else (y5m ak aq v3)) else (y5m ak aq v3)))
def yDx (ak : List UInt8) : Option (Bool × Unit) :=
  (some ((Bool.true, ())))
theorem yC6 (n : Nat) (hn : big ≤ n)  (ak : List UInt8) (hx : List.length (ak) < lenMax) : LeF some (yL (fun i__ e__ s__ => y90 ak i__ e__) (fun s__ => yDx ak) 0 (ak) ()) (y6a n n ak 0) := by
  refine yK (f := some) (W := fun k__ i__ s__ => y6a n k__ ak i__) (body := (fun i__ e__ s__ => y90 ak i__ e__)) (fin := (fun s__ => yDx ak)) (fun k__ i__ s__ => ?_) hx () n (by unfold big at hn; unfold lenMax at hx; omega)
  show LeF _ _ (yE3 n (y6a n k__) ak i__)
  exact y6 (y5 fun v3 => (y6 (y6 (y7 rfl) (y6 (y6 (y7 rfl) (by apply y0Q n hn)) (by apply y0Q n hn))) (y6 (y6 (y7 rfl) (by apply y0Q n hn)) (by apply y0Q n hn)))) (y03 (y7 rfl))
def yBF (s : List UInt8) : Option (Bool × Unit) :=
  (bif (↑s.length : Int) == 0 then (some ((Bool.false, ()))) else (bif decide ((↑s.length : Int) > 24) then (some ((Bool.false, ()))) else (bif decide (List.length (s) < lenMax) then yL (fun i__ e__ s__ => y90 (s) i__ e__) (fun s__ => yDx (s)) 0 (s) () else none)))
theorem yLT (s : List UInt8) (y : Bool × Unit) (h : yBF s = some y) : ∃ n, yIk n s = some y :=
  ⟨big, LeF.top (show LeF some (yBF s) (yIk big s) from (fun (n : Nat) (hn : big ≤ n) => show LeF some (yBF s) (yIk n s) from (y6 (y7 rfl) (y6 (y7 rfl) (yN fun hx => by apply yC6 n hn; exact hx)))) big (Nat.le_refl _)) h⟩
def z0B_e : Entry := { f := 143, args := yMg, ress := yN1, m := fun x => yBF x.1 }
theorem yQZ : FnOK Tryz.prog z0B_e := yS (g := yQ9) (fn := Tryz.f143) yG yR eNil (by kernel_rfl) (by kernel_rfl) (by kernel_rfl) (fun x y h => let ⟨n, hn⟩ := yLT x.1 y h; ⟨yJu n, iNil, (yRB n x).trans hn⟩)
abbrev z7_a : Ty := .pair t54 (.pair t156 .unit)
abbrev z7_r : Ty := .pair t174 .unit
def z7_g : G := { T := T, E := [], muts := [5], fz := [] }
def z7_k : List (List Nat) := [[1, 5, 8, 9, 10]]
def yP9 (n : Nat) : Ann := { keep := z7_k, fuel := n, inl := [], deep := 0 }
def yHB (n : Nat) (r0 : (Cnd × Unit → Option (Int × Unit)) → List Cnd → Int → Int → List Int → Option (List Int × Unit)) (a7 : Cnd × Unit → Option (Int × Unit)) (a8 : List Cnd) (ae : Int) (ac : Int) (aa : List Int) : Option (List Int × Unit) :=
  (bif decide (ac < ae) then (Option.bind (idx a8 ac) fun (v1 : Cnd) => (Option.bind (a7 ((v1.1, v1.2.1, v1.2.2.1, ()), ())) fun (v2 : Int × Unit) => (bif decide (aa.length + (1 : Nat) ≤ memMax) then r0 a7 a8 ae (IntKind.i64.wrap (ac + 1)) (aa ++ [v2.1]) else none))) else some (aa, ()))
def yAN (n : Nat)  (k : Nat) (a7 : Cnd × Unit → Option (Int × Unit)) (a8 : List Cnd) (ae : Int) (ac : Int) (aa : List Int) : Option (List Int × Unit) :=
  iter (fun r y => yHB n (fun a7 a8 ae ac aa => r ((a7, (a8, (ae, (ac, ())))), ((aa, ()), ()))) y.1.1 y.1.2.1 y.1.2.2.1 y.1.2.2.2.1 y.2.1.1) k ((a7, (a8, (ae, (ac, ())))), ((aa, ()), ()))
def z7_m (n : Nat) (l : List Cnd) (of : Cnd × Unit → Option (Int × Unit)) : Option (List Int × Unit) :=
  (yAN n n (of) (l) ((↑l.length : Int)) ((0 : Int)) ([]))
theorem yS3 (n : Nat) (x : z7_a.den) : runF z7_g (yP9 n) Tryz.f147 z7_a z7_r x = z7_m n x.1 x.2.1 := by kernel_rfl
def yIy (a7 : Cnd × Unit → Option (Int × Unit)) (a8 : List Cnd) (ac : Int) (v1 : Cnd) (aa : List Int) : Option ((List Int × Unit) ⊕ (List Int)) :=
  (Option.bind (a7 ((v1.1, v1.2.1, v1.2.2.1, ()), ())) fun (v2 : Int × Unit) => (bif decide (aa.length + (1 : Nat) ≤ memMax) then (some (Sum.inr (aa ++ [v2.1]))) else none))
def yMi (a7 : Cnd × Unit → Option (Int × Unit)) (a8 : List Cnd) (aa : List Int) : Option (List Int × Unit) :=
  (some ((aa, ())))
theorem yEs (n : Nat) (hn : big ≤ n)  (a7 : Cnd × Unit → Option (Int × Unit)) (a8 : List Cnd) (aa : List Int) (hx : List.length (a8) < lenMax) : LeF some (yL (fun i__ e__ s__ => yIy a7 a8 i__ e__ s__) (fun s__ => yMi a7 a8 s__) 0 (a8) aa) (yAN n n a7 a8 (List.length (a8) : Int) 0 aa) := by
  refine yK (f := some) (W := fun k__ i__ s__ => yAN n k__ a7 a8 (List.length (a8) : Int) i__ s__) (body := (fun i__ e__ s__ => yIy a7 a8 i__ e__ s__)) (fin := (fun s__ => yMi a7 a8 s__)) (fun k__ i__ s__ => ?_) hx aa n (by unfold big at hn; unfold lenMax at hx; omega)
  show LeF _ _ (yHB n (yAN n k__) a7 a8 (List.length (a8) : Int) i__ s__)
  exact y6 (y5 fun v1 => (y5 fun v2 => (y6 (y7 rfl) yx))) (y03 (y7 rfl))
def z7_M (l : List Cnd) (of : Cnd × Unit → Option (Int × Unit)) : Option (List Int × Unit) :=
  (bif decide (List.length (l) < lenMax) then yL (fun i__ e__ s__ => yIy (of) (l) i__ e__ s__) (fun s__ => yMi (of) (l) s__) 0 (l) ([]) else none)
theorem yPe (l : List Cnd) (of : Cnd × Unit → Option (Int × Unit)) (y : List Int × Unit) (h : z7_M l of = some y) : ∃ n, z7_m n l of = some y :=
  ⟨big, LeF.top (show LeF some (z7_M l of) (z7_m big l of) from (fun (n : Nat) (hn : big ≤ n) => show LeF some (z7_M l of) (z7_m n l of) from (yN fun hx => by apply yEs n hn; exact hx)) big (Nat.le_refl _)) h⟩
def z7_e : Entry := { f := 147, args := z7_a, ress := z7_r, m := fun x => z7_M x.1 x.2.1 }
theorem yRV : FnOK Tryz.prog z7_e := yS (g := z7_g) (fn := Tryz.f147) yG yR eNil (by kernel_rfl) (by kernel_rfl) (by kernel_rfl) (fun x y h => let ⟨n, hn⟩ := yPe x.1 x.2.1 y h; ⟨yP9 n, iNil, (yS3 n x).trans hn⟩)
abbrev zC_a : Ty := .pair t167 (.pair t237 .unit)
abbrev zC_r : Ty := .pair t56 .unit
def zC_g : G := { T := T, E := [], muts := [5], fz := [] }
def zC_k : List (List Nat) := [[1, 5, 8, 9, 10]]
def yPn (n : Nat) : Ann := { keep := zC_k, fuel := n, inl := [], deep := 0 }
def yGn (n : Nat) (r0 : (Psg × Unit → Option (List Int × Unit)) → List Psg → Int → Int → List (List Int) → Option (List (List Int) × Unit)) (a7 : Psg × Unit → Option (List Int × Unit)) (a8 : List Psg) (ae : Int) (ac : Int) (aa : List (List Int)) : Option (List (List Int) × Unit) :=
  (bif decide (ac < ae) then (Option.bind (idx a8 ac) fun (v1 : Psg) => (Option.bind (a7 (((v1.1.1, v1.1.2.1, v1.1.2.2.1, ()), v1.2.1, v1.2.2.1, ()), ())) fun (v2 : List Int × Unit) => (bif decide (aa.length + (1 : Nat) ≤ memMax) then r0 a7 a8 ae (IntKind.i64.wrap (ac + 1)) (aa ++ [v2.1]) else none))) else some (aa, ()))
def yA8 (n : Nat)  (k : Nat) (a7 : Psg × Unit → Option (List Int × Unit)) (a8 : List Psg) (ae : Int) (ac : Int) (aa : List (List Int)) : Option (List (List Int) × Unit) :=
  iter (fun r y => yGn n (fun a7 a8 ae ac aa => r ((a7, (a8, (ae, (ac, ())))), ((aa, ()), ()))) y.1.1 y.1.2.1 y.1.2.2.1 y.1.2.2.2.1 y.2.1.1) k ((a7, (a8, (ae, (ac, ())))), ((aa, ()), ()))
def zC_m (n : Nat) (l : List Psg) (of : Psg × Unit → Option (List Int × Unit)) : Option (List (List Int) × Unit) :=
  (yA8 n n (of) (l) ((↑l.length : Int)) ((0 : Int)) ([]))
theorem ySL (n : Nat) (x : zC_a.den) : runF zC_g (yPn n) Tryz.f148 zC_a zC_r x = zC_m n x.1 x.2.1 := by kernel_rfl
def yJb (a7 : Psg × Unit → Option (List Int × Unit)) (a8 : List Psg) (ac : Int) (v1 : Psg) (aa : List (List Int)) : Option ((List (List Int) × Unit) ⊕ (List (List Int))) :=
  (Option.bind (a7 (((v1.1.1, v1.1.2.1, v1.1.2.2.1, ()), v1.2.1, v1.2.2.1, ()), ())) fun (v2 : List Int × Unit) => (bif decide (aa.length + (1 : Nat) ≤ memMax) then (some (Sum.inr (aa ++ [v2.1]))) else none))
def yKf (a7 : Psg × Unit → Option (List Int × Unit)) (a8 : List Psg) (aa : List (List Int)) : Option (List (List Int) × Unit) :=
  (some ((aa, ())))
theorem yFf (n : Nat) (hn : big ≤ n)  (a7 : Psg × Unit → Option (List Int × Unit)) (a8 : List Psg) (aa : List (List Int)) (hx : List.length (a8) < lenMax) : LeF some (yL (fun i__ e__ s__ => yJb a7 a8 i__ e__ s__) (fun s__ => yKf a7 a8 s__) 0 (a8) aa) (yA8 n n a7 a8 (List.length (a8) : Int) 0 aa) := by
  refine yK (f := some) (W := fun k__ i__ s__ => yA8 n k__ a7 a8 (List.length (a8) : Int) i__ s__) (body := (fun i__ e__ s__ => yJb a7 a8 i__ e__ s__)) (fin := (fun s__ => yKf a7 a8 s__)) (fun k__ i__ s__ => ?_) hx aa n (by unfold big at hn; unfold lenMax at hx; omega)
  show LeF _ _ (yGn n (yA8 n k__) a7 a8 (List.length (a8) : Int) i__ s__)
  exact y6 (y5 fun v1 => (y5 fun v2 => (y6 (y7 rfl) yx))) (y03 (y7 rfl))
def zC_M (l : List Psg) (of : Psg × Unit → Option (List Int × Unit)) : Option (List (List Int) × Unit) :=
  (bif decide (List.length (l) < lenMax) then yL (fun i__ e__ s__ => yJb (of) (l) i__ e__ s__) (fun s__ => yKf (of) (l) s__) 0 (l) ([]) else none)
theorem yPk (l : List Psg) (of : Psg × Unit → Option (List Int × Unit)) (y : List (List Int) × Unit) (h : zC_M l of = some y) : ∃ n, zC_m n l of = some y :=
  ⟨big, LeF.top (show LeF some (zC_M l of) (zC_m big l of) from (fun (n : Nat) (hn : big ≤ n) => show LeF some (zC_M l of) (zC_m n l of) from (yN fun hx => by apply yFf n hn; exact hx)) big (Nat.le_refl _)) h⟩
def zC_e : Entry := { f := 148, args := zC_a, ress := zC_r, m := fun x => zC_M x.1 x.2.1 }
theorem yT5 : FnOK Tryz.prog zC_e := yS (g := zC_g) (fn := Tryz.f148) yG yR eNil (by kernel_rfl) (by kernel_rfl) (by kernel_rfl) (fun x y h => let ⟨n, hn⟩ := yPk x.1 x.2.1 y h; ⟨yPn n, iNil, (ySL n x).trans hn⟩)
abbrev zr_a : Ty := .pair t180 .unit
abbrev zr_r : Ty := .pair t26 .unit
def zr_g : G := { T := T, E := [], muts := [], fz := [] }
def zr_k : List (List Nat) := []
def yQN (n : Nat) : Ann := { keep := zr_k, fuel := n, inl := [], deep := 0 }
def zr_m (n : Nat) (p : Psg) : Option (List Int × Unit) :=
  some (p.2.2.1.getD [], ())
theorem yRW (n : Nat) (x : zr_a.den) : runF zr_g (yQN n) Tryz.f149 zr_a zr_r x = zr_m n x.1 := by kernel_rfl
def zr (p : Psg) : (List Int × Unit) :=
  (p.2.2.1.getD [], ())
abbrev zr_M (p : Psg) : Option (List Int × Unit) := some (zr p)
theorem yQ2 (p : Psg) (y : List Int × Unit) (h : zr_M p = some y) : ∃ n, zr_m n p = some y :=
  ⟨0, by rw [← h]; show zr_m 0 p = some (zr p); unfold zr_m zr; first | rfl | (simp only [yP]; done) | (simp only [yP]; rfl)⟩
def zr_e : Entry := { f := 149, args := zr_a, ress := zr_r, m := fun x => zr_M x.1 }
theorem ySU : FnOK Tryz.prog zr_e := yS (g := zr_g) (fn := Tryz.f149) yG yR eNil (by kernel_rfl) (by kernel_rfl) (by kernel_rfl) (fun x y h => let ⟨n, hn⟩ := yQ2 x.1 y h; ⟨yQN n, iNil, (yRW n x).trans hn⟩)
abbrev zA_a : Ty := .pair t108 (.pair t190 .unit)
abbrev zA_r : Ty := .pair t174 .unit
def zA_g : G := { T := T, E := [], muts := [5], fz := [] }
def zA_k : List (List Nat) := [[1, 5, 8, 9, 10]]
def yQ6 (n : Nat) : Ann := { keep := zA_k, fuel := n, inl := [], deep := 0 }
def yGB (n : Nat) (r0 : (Rng × Unit → Option (Int × Unit)) → List Rng → Int → Int → List Int → Option (List Int × Unit)) (a7 : Rng × Unit → Option (Int × Unit)) (a8 : List Rng) (ae : Int) (ac : Int) (aa : List Int) : Option (List Int × Unit) :=
  (bif decide (ac < ae) then (Option.bind (idx a8 ac) fun (v1 : Rng) => (Option.bind (a7 (((v1.1.1, v1.1.2.1, ()), v1.2.1, v1.2.2.1, ()), ())) fun (v2 : Int × Unit) => (bif decide (aa.length + (1 : Nat) ≤ memMax) then r0 a7 a8 ae (IntKind.i64.wrap (ac + 1)) (aa ++ [v2.1]) else none))) else some (aa, ()))
def y9l (n : Nat)  (k : Nat) (a7 : Rng × Unit → Option (Int × Unit)) (a8 : List Rng) (ae : Int) (ac : Int) (aa : List Int) : Option (List Int × Unit) :=
  iter (fun r y => yGB n (fun a7 a8 ae ac aa => r ((a7, (a8, (ae, (ac, ())))), ((aa, ()), ()))) y.1.1 y.1.2.1 y.1.2.2.1 y.1.2.2.2.1 y.2.1.1) k ((a7, (a8, (ae, (ac, ())))), ((aa, ()), ()))
def zA_m (n : Nat) (l : List Rng) (of : Rng × Unit → Option (Int × Unit)) : Option (List Int × Unit) :=
  (y9l n n (of) (l) ((↑l.length : Int)) ((0 : Int)) ([]))
theorem yT6 (n : Nat) (x : zA_a.den) : runF zA_g (yQ6 n) Tryz.f153 zA_a zA_r x = zA_m n x.1 x.2.1 := by kernel_rfl
def yKw (a7 : Rng × Unit → Option (Int × Unit)) (a8 : List Rng) (ac : Int) (v1 : Rng) (aa : List Int) : Option ((List Int × Unit) ⊕ (List Int)) :=
  (Option.bind (a7 (((v1.1.1, v1.1.2.1, ()), v1.2.1, v1.2.2.1, ()), ())) fun (v2 : Int × Unit) => (bif decide (aa.length + (1 : Nat) ≤ memMax) then (some (Sum.inr (aa ++ [v2.1]))) else none))
def yLU (a7 : Rng × Unit → Option (Int × Unit)) (a8 : List Rng) (aa : List Int) : Option (List Int × Unit) :=
  (some ((aa, ())))
theorem yFc (n : Nat) (hn : big ≤ n)  (a7 : Rng × Unit → Option (Int × Unit)) (a8 : List Rng) (aa : List Int) (hx : List.length (a8) < lenMax) : LeF some (yL (fun i__ e__ s__ => yKw a7 a8 i__ e__ s__) (fun s__ => yLU a7 a8 s__) 0 (a8) aa) (y9l n n a7 a8 (List.length (a8) : Int) 0 aa) := by
  refine yK (f := some) (W := fun k__ i__ s__ => y9l n k__ a7 a8 (List.length (a8) : Int) i__ s__) (body := (fun i__ e__ s__ => yKw a7 a8 i__ e__ s__)) (fin := (fun s__ => yLU a7 a8 s__)) (fun k__ i__ s__ => ?_) hx aa n (by unfold big at hn; unfold lenMax at hx; omega)
  show LeF _ _ (yGB n (y9l n k__) a7 a8 (List.length (a8) : Int) i__ s__)
  exact y6 (y5 fun v1 => (y5 fun v2 => (y6 (y7 rfl) yx))) (y03 (y7 rfl))
def zA_M (l : List Rng) (of : Rng × Unit → Option (Int × Unit)) : Option (List Int × Unit) :=
  (bif decide (List.length (l) < lenMax) then yL (fun i__ e__ s__ => yKw (of) (l) i__ e__ s__) (fun s__ => yLU (of) (l) s__) 0 (l) ([]) else none)
theorem yPw (l : List Rng) (of : Rng × Unit → Option (Int × Unit)) (y : List Int × Unit) (h : zA_M l of = some y) : ∃ n, zA_m n l of = some y :=
  ⟨big, LeF.top (show LeF some (zA_M l of) (zA_m big l of) from (fun (n : Nat) (hn : big ≤ n) => show LeF some (zA_M l of) (zA_m n l of) from (yN fun hx => by apply yFc n hn; exact hx)) big (Nat.le_refl _)) h⟩
def zA_e : Entry := { f := 153, args := zA_a, ress := zA_r, m := fun x => zA_M x.1 x.2.1 }
theorem yRQ : FnOK Tryz.prog zA_e := yS (g := zA_g) (fn := Tryz.f153) yG yR eNil (by kernel_rfl) (by kernel_rfl) (by kernel_rfl) (fun x y h => let ⟨n, hn⟩ := yPw x.1 x.2.1 y h; ⟨yQ6 n, iNil, (yT6 n x).trans hn⟩)
abbrev z8_a : Ty := .pair t97 (.pair t246 .unit)
abbrev z8_r : Ty := .pair t174 .unit
def z8_g : G := { T := T, E := [], muts := [5], fz := [] }
def z8_k : List (List Nat) := [[1, 5, 8, 9, 10]]
def yNb (n : Nat) : Ann := { keep := z8_k, fuel := n, inl := [], deep := 0 }
def yHk (n : Nat) (r0 : ((Int × Int × Unit) × Unit → Option (Int × Unit)) → List (Int × Int × Unit) → Int → Int → List Int → Option (List Int × Unit)) (a7 : (Int × Int × Unit) × Unit → Option (Int × Unit)) (a8 : List (Int × Int × Unit)) (ae : Int) (ac : Int) (aa : List Int) : Option (List Int × Unit) :=
  (bif decide (ac < ae) then (Option.bind (idx a8 ac) fun (v1 : Int × Int × Unit) => (Option.bind (a7 ((v1.1, v1.2.1, ()), ())) fun (v2 : Int × Unit) => (bif decide (aa.length + (1 : Nat) ≤ memMax) then r0 a7 a8 ae (IntKind.i64.wrap (ac + 1)) (aa ++ [v2.1]) else none))) else some (aa, ()))
def yA0 (n : Nat)  (k : Nat) (a7 : (Int × Int × Unit) × Unit → Option (Int × Unit)) (a8 : List (Int × Int × Unit)) (ae : Int) (ac : Int) (aa : List Int) : Option (List Int × Unit) :=
  iter (fun r y => yHk n (fun a7 a8 ae ac aa => r ((a7, (a8, (ae, (ac, ())))), ((aa, ()), ()))) y.1.1 y.1.2.1 y.1.2.2.1 y.1.2.2.2.1 y.2.1.1) k ((a7, (a8, (ae, (ac, ())))), ((aa, ()), ()))
def z8_m (n : Nat) (l : List (Int × Int × Unit)) (of : (Int × Int × Unit) × Unit → Option (Int × Unit)) : Option (List Int × Unit) :=
  (yA0 n n (of) (l) ((↑l.length : Int)) ((0 : Int)) ([]))
theorem ySb (n : Nat) (x : z8_a.den) : runF z8_g (yNb n) Tryz.f159 z8_a z8_r x = z8_m n x.1 x.2.1 := by kernel_rfl
def yM3 (a7 : (Int × Int × Unit) × Unit → Option (Int × Unit)) (a8 : List (Int × Int × Unit)) (ac : Int) (v1 : Int × Int × Unit) (aa : List Int) : Option ((List Int × Unit) ⊕ (List Int)) :=
  (Option.bind (a7 ((v1.1, v1.2.1, ()), ())) fun (v2 : Int × Unit) => (bif decide (aa.length + (1 : Nat) ≤ memMax) then (some (Sum.inr (aa ++ [v2.1]))) else none))
def yMc (a7 : (Int × Int × Unit) × Unit → Option (Int × Unit)) (a8 : List (Int × Int × Unit)) (aa : List Int) : Option (List Int × Unit) :=
  (some ((aa, ())))
theorem yEp (n : Nat) (hn : big ≤ n)  (a7 : (Int × Int × Unit) × Unit → Option (Int × Unit)) (a8 : List (Int × Int × Unit)) (aa : List Int) (hx : List.length (a8) < lenMax) : LeF some (yL (fun i__ e__ s__ => yM3 a7 a8 i__ e__ s__) (fun s__ => yMc a7 a8 s__) 0 (a8) aa) (yA0 n n a7 a8 (List.length (a8) : Int) 0 aa) := by
  refine yK (f := some) (W := fun k__ i__ s__ => yA0 n k__ a7 a8 (List.length (a8) : Int) i__ s__) (body := (fun i__ e__ s__ => yM3 a7 a8 i__ e__ s__)) (fin := (fun s__ => yMc a7 a8 s__)) (fun k__ i__ s__ => ?_) hx aa n (by unfold big at hn; unfold lenMax at hx; omega)
  show LeF _ _ (yHk n (yA0 n k__) a7 a8 (List.length (a8) : Int) i__ s__)
  exact y6 (y5 fun v1 => (y5 fun v2 => (y6 (y7 rfl) yx))) (y03 (y7 rfl))
def z8_M (l : List (Int × Int × Unit)) (of : (Int × Int × Unit) × Unit → Option (Int × Unit)) : Option (List Int × Unit) :=
  (bif decide (List.length (l) < lenMax) then yL (fun i__ e__ s__ => yM3 (of) (l) i__ e__ s__) (fun s__ => yMc (of) (l) s__) 0 (l) ([]) else none)
theorem yN3 (l : List (Int × Int × Unit)) (of : (Int × Int × Unit) × Unit → Option (Int × Unit)) (y : List Int × Unit) (h : z8_M l of = some y) : ∃ n, z8_m n l of = some y :=
  ⟨big, LeF.top (show LeF some (z8_M l of) (z8_m big l of) from (fun (n : Nat) (hn : big ≤ n) => show LeF some (z8_M l of) (z8_m n l of) from (yN fun hx => by apply yEp n hn; exact hx)) big (Nat.le_refl _)) h⟩
def z8_e : Entry := { f := 159, args := z8_a, ress := z8_r, m := fun x => z8_M x.1 x.2.1 }
theorem yN0 : FnOK Tryz.prog z8_e := yS (g := z8_g) (fn := Tryz.f159) yG yR eNil (by kernel_rfl) (by kernel_rfl) (by kernel_rfl) (fun x y h => let ⟨n, hn⟩ := yN3 x.1 x.2.1 y h; ⟨yNb n, iNil, (ySb n x).trans hn⟩)
abbrev zD_a : Ty := .pair t97 (.pair t255 .unit)
abbrev zD_r : Ty := .pair t26 .unit
def zD_g : G := { T := T, E := [], muts := [5], fz := [] }
def zD_k : List (List Nat) := [[1, 5, 8, 9, 10]]
def yPO (n : Nat) : Ann := { keep := zD_k, fuel := n, inl := [], deep := 0 }
def yFh (n : Nat) (r0 : ((Int × Int × Unit) × Unit → Option (Int × Unit)) → List (Int × Int × Unit) → Int → Int → List Int → Option (List Int × Unit)) (a7 : (Int × Int × Unit) × Unit → Option (Int × Unit)) (a8 : List (Int × Int × Unit)) (ae : Int) (ac : Int) (aa : List Int) : Option (List Int × Unit) :=
  (bif decide (ac < ae) then (Option.bind (idx a8 ac) fun (v1 : Int × Int × Unit) => (Option.bind (a7 ((v1.1, v1.2.1, ()), ())) fun (v2 : Int × Unit) => (bif decide (aa.length + (1 : Nat) ≤ memMax) then r0 a7 a8 ae (IntKind.i64.wrap (ac + 1)) (aa ++ [v2.1]) else none))) else some (aa, ()))
def y9y (n : Nat)  (k : Nat) (a7 : (Int × Int × Unit) × Unit → Option (Int × Unit)) (a8 : List (Int × Int × Unit)) (ae : Int) (ac : Int) (aa : List Int) : Option (List Int × Unit) :=
  iter (fun r y => yFh n (fun a7 a8 ae ac aa => r ((a7, (a8, (ae, (ac, ())))), ((aa, ()), ()))) y.1.1 y.1.2.1 y.1.2.2.1 y.1.2.2.2.1 y.2.1.1) k ((a7, (a8, (ae, (ac, ())))), ((aa, ()), ()))
def zD_m (n : Nat) (l : List (Int × Int × Unit)) (of : (Int × Int × Unit) × Unit → Option (Int × Unit)) : Option (List Int × Unit) :=
  (y9y n n (of) (l) ((↑l.length : Int)) ((0 : Int)) ([]))
theorem ySW (n : Nat) (x : zD_a.den) : runF zD_g (yPO n) Tryz.f164 zD_a zD_r x = zD_m n x.1 x.2.1 := by kernel_rfl
def yMM (a7 : (Int × Int × Unit) × Unit → Option (Int × Unit)) (a8 : List (Int × Int × Unit)) (ac : Int) (v1 : Int × Int × Unit) (aa : List Int) : Option ((List Int × Unit) ⊕ (List Int)) :=
  (Option.bind (a7 ((v1.1, v1.2.1, ()), ())) fun (v2 : Int × Unit) => (bif decide (aa.length + (1 : Nat) ≤ memMax) then (some (Sum.inr (aa ++ [v2.1]))) else none))
def yMJ (a7 : (Int × Int × Unit) × Unit → Option (Int × Unit)) (a8 : List (Int × Int × Unit)) (aa : List Int) : Option (List Int × Unit) :=
  (some ((aa, ())))
theorem yEd (n : Nat) (hn : big ≤ n)  (a7 : (Int × Int × Unit) × Unit → Option (Int × Unit)) (a8 : List (Int × Int × Unit)) (aa : List Int) (hx : List.length (a8) < lenMax) : LeF some (yL (fun i__ e__ s__ => yMM a7 a8 i__ e__ s__) (fun s__ => yMJ a7 a8 s__) 0 (a8) aa) (y9y n n a7 a8 (List.length (a8) : Int) 0 aa) := by
  refine yK (f := some) (W := fun k__ i__ s__ => y9y n k__ a7 a8 (List.length (a8) : Int) i__ s__) (body := (fun i__ e__ s__ => yMM a7 a8 i__ e__ s__)) (fin := (fun s__ => yMJ a7 a8 s__)) (fun k__ i__ s__ => ?_) hx aa n (by unfold big at hn; unfold lenMax at hx; omega)
  show LeF _ _ (yFh n (y9y n k__) a7 a8 (List.length (a8) : Int) i__ s__)
  exact y6 (y5 fun v1 => (y5 fun v2 => (y6 (y7 rfl) yx))) (y03 (y7 rfl))
def zD_M (l : List (Int × Int × Unit)) (of : (Int × Int × Unit) × Unit → Option (Int × Unit)) : Option (List Int × Unit) :=
  (bif decide (List.length (l) < lenMax) then yL (fun i__ e__ s__ => yMM (of) (l) i__ e__ s__) (fun s__ => yMJ (of) (l) s__) 0 (l) ([]) else none)
theorem yPH (l : List (Int × Int × Unit)) (of : (Int × Int × Unit) × Unit → Option (Int × Unit)) (y : List Int × Unit) (h : zD_M l of = some y) : ∃ n, zD_m n l of = some y :=
  ⟨big, LeF.top (show LeF some (zD_M l of) (zD_m big l of) from (fun (n : Nat) (hn : big ≤ n) => show LeF some (zD_M l of) (zD_m n l of) from (yN fun hx => by apply yEd n hn; exact hx)) big (Nat.le_refl _)) h⟩
def zD_e : Entry := { f := 164, args := zD_a, ress := zD_r, m := fun x => zD_M x.1 x.2.1 }
theorem yRi : FnOK Tryz.prog zD_e := yS (g := zD_g) (fn := Tryz.f164) yG yR eNil (by kernel_rfl) (by kernel_rfl) (by kernel_rfl) (fun x y h => let ⟨n, hn⟩ := yPH x.1 x.2.1 y h; ⟨yPO n, iNil, (ySW n x).trans hn⟩)
abbrev yLA : Ty := .pair t230 .unit
abbrev yOk : Ty := .pair t3 .unit
def yQK : G := { T := T, E := [], muts := [], fz := [] }
def yST : List (List Nat) := []
def yJf (n : Nat) : Ann := { keep := yST, fuel := n, inl := [], deep := 0 }
def yIU (n : Nat) (p : Lnk × Int × Int × Int × Bool × Unit) : Option (Int × Unit) :=
  some (if Bool.true = Bool.true then if (if Bool.false = Bool.true then if IntKind.i64.wrap (p.2.1 - IntKind.i64.wrap (p.2.2.1 * p.1.2.2.2.1)) > p.1.2.2.2.2.1 then IntKind.i64.wrap (p.2.1 - IntKind.i64.wrap (p.2.2.1 * p.1.2.2.2.1)) else p.1.2.2.2.2.1 else if IntKind.i64.wrap (p.2.1 - IntKind.i64.wrap (p.2.2.1 * p.1.2.2.2.1)) < p.1.2.2.2.2.1 then IntKind.i64.wrap (p.2.1 - IntKind.i64.wrap (p.2.2.1 * p.1.2.2.2.1)) else p.1.2.2.2.2.1) > 0 then if Bool.false = Bool.true then if IntKind.i64.wrap (p.2.1 - IntKind.i64.wrap (p.2.2.1 * p.1.2.2.2.1)) > p.1.2.2.2.2.1 then IntKind.i64.wrap (p.2.1 - IntKind.i64.wrap (p.2.2.1 * p.1.2.2.2.1)) else p.1.2.2.2.2.1 else if IntKind.i64.wrap (p.2.1 - IntKind.i64.wrap (p.2.2.1 * p.1.2.2.2.1)) < p.1.2.2.2.2.1 then IntKind.i64.wrap (p.2.1 - IntKind.i64.wrap (p.2.2.1 * p.1.2.2.2.1)) else p.1.2.2.2.2.1 else (0 : Int) else if (if Bool.false = Bool.true then if IntKind.i64.wrap (p.2.1 - IntKind.i64.wrap (p.2.2.1 * p.1.2.2.2.1)) > p.1.2.2.2.2.1 then IntKind.i64.wrap (p.2.1 - IntKind.i64.wrap (p.2.2.1 * p.1.2.2.2.1)) else p.1.2.2.2.2.1 else if IntKind.i64.wrap (p.2.1 - IntKind.i64.wrap (p.2.2.1 * p.1.2.2.2.1)) < p.1.2.2.2.2.1 then IntKind.i64.wrap (p.2.1 - IntKind.i64.wrap (p.2.2.1 * p.1.2.2.2.1)) else p.1.2.2.2.2.1) < 0 then if Bool.false = Bool.true then if IntKind.i64.wrap (p.2.1 - IntKind.i64.wrap (p.2.2.1 * p.1.2.2.2.1)) > p.1.2.2.2.2.1 then IntKind.i64.wrap (p.2.1 - IntKind.i64.wrap (p.2.2.1 * p.1.2.2.2.1)) else p.1.2.2.2.2.1 else if IntKind.i64.wrap (p.2.1 - IntKind.i64.wrap (p.2.2.1 * p.1.2.2.2.1)) < p.1.2.2.2.2.1 then IntKind.i64.wrap (p.2.1 - IntKind.i64.wrap (p.2.2.1 * p.1.2.2.2.1)) else p.1.2.2.2.2.1 else (0 : Int), ())
theorem yRH (n : Nat) (x : yLA.den) : runF yQK (yJf n) Tryz.f183 yLA yOk x = yIU n x.1 := by kernel_rfl
def z03 (p : Lnk × Int × Int × Int × Bool × Unit) : (Int × Unit) :=
  (if Bool.true = Bool.true then if (if Bool.false = Bool.true then if IntKind.i64.wrap (p.2.1 - IntKind.i64.wrap (p.2.2.1 * p.1.2.2.2.1)) > p.1.2.2.2.2.1 then IntKind.i64.wrap (p.2.1 - IntKind.i64.wrap (p.2.2.1 * p.1.2.2.2.1)) else p.1.2.2.2.2.1 else if IntKind.i64.wrap (p.2.1 - IntKind.i64.wrap (p.2.2.1 * p.1.2.2.2.1)) < p.1.2.2.2.2.1 then IntKind.i64.wrap (p.2.1 - IntKind.i64.wrap (p.2.2.1 * p.1.2.2.2.1)) else p.1.2.2.2.2.1) > 0 then if Bool.false = Bool.true then if IntKind.i64.wrap (p.2.1 - IntKind.i64.wrap (p.2.2.1 * p.1.2.2.2.1)) > p.1.2.2.2.2.1 then IntKind.i64.wrap (p.2.1 - IntKind.i64.wrap (p.2.2.1 * p.1.2.2.2.1)) else p.1.2.2.2.2.1 else if IntKind.i64.wrap (p.2.1 - IntKind.i64.wrap (p.2.2.1 * p.1.2.2.2.1)) < p.1.2.2.2.2.1 then IntKind.i64.wrap (p.2.1 - IntKind.i64.wrap (p.2.2.1 * p.1.2.2.2.1)) else p.1.2.2.2.2.1 else (0 : Int) else if (if Bool.false = Bool.true then if IntKind.i64.wrap (p.2.1 - IntKind.i64.wrap (p.2.2.1 * p.1.2.2.2.1)) > p.1.2.2.2.2.1 then IntKind.i64.wrap (p.2.1 - IntKind.i64.wrap (p.2.2.1 * p.1.2.2.2.1)) else p.1.2.2.2.2.1 else if IntKind.i64.wrap (p.2.1 - IntKind.i64.wrap (p.2.2.1 * p.1.2.2.2.1)) < p.1.2.2.2.2.1 then IntKind.i64.wrap (p.2.1 - IntKind.i64.wrap (p.2.2.1 * p.1.2.2.2.1)) else p.1.2.2.2.2.1) < 0 then if Bool.false = Bool.true then if IntKind.i64.wrap (p.2.1 - IntKind.i64.wrap (p.2.2.1 * p.1.2.2.2.1)) > p.1.2.2.2.2.1 then IntKind.i64.wrap (p.2.1 - IntKind.i64.wrap (p.2.2.1 * p.1.2.2.2.1)) else p.1.2.2.2.2.1 else if IntKind.i64.wrap (p.2.1 - IntKind.i64.wrap (p.2.2.1 * p.1.2.2.2.1)) < p.1.2.2.2.2.1 then IntKind.i64.wrap (p.2.1 - IntKind.i64.wrap (p.2.2.1 * p.1.2.2.2.1)) else p.1.2.2.2.2.1 else (0 : Int), ())
abbrev yIR (p : Lnk × Int × Int × Int × Bool × Unit) : Option (Int × Unit) := some (z03 p)
theorem yL5 (p : Lnk × Int × Int × Int × Bool × Unit) (y : Int × Unit) (h : yIR p = some y) : ∃ n, yIU n p = some y :=
  ⟨0, by rw [← h]; show yIU 0 p = some (z03 p); unfold yIU z03; first | rfl | (simp only [yP]; done) | (simp only [yP]; rfl)⟩
def z03_e : Entry := { f := 183, args := yLA, ress := yOk, m := fun x => yIR x.1 }
theorem yPC : FnOK Tryz.prog z03_e := yS (g := yQK) (fn := Tryz.f183) yG yR eNil (by kernel_rfl) (by kernel_rfl) (by kernel_rfl) (fun x y h => let ⟨n, hn⟩ := yL5 x.1 y h; ⟨yJf n, iNil, (yRH n x).trans hn⟩)
end
end Go.Tw
end
