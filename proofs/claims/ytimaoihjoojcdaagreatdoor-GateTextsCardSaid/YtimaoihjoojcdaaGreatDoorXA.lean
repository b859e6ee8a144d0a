/- Models of the program's functions, by program (gen.py), and what they compute.
Models of the program's functions, by program (gen.py), and what they compute.
Models of the program's functions, by program (gen.py), and what they compute.
Models of the program's functions, by program (gen.py), and what they compute. -/
import Derived.Test.YtimaoihjoojcdaaGreatDoorBT
import Derived.Test.YtimaoihjoojcdaaGreatDoorB0
import Derived.Test.YtimaoihjoojcdaaGreatDoorSA
import Derived.Test.YtimaoihjoojcdaaGreatDoorLQ
import Derived.Test.YtimaoihjoojcdaaGreatDoorLR
import Derived.Test.YtimaoihjoojcdaaGreatDoorBA
import Derived.Test.YtimaoihjoojcdaaGreatDoorBC
import Derived.Test.YtimaoihjoojcdaaGreatDoorBD

section
set_option linter.all false
set_option maxRecDepth 1000000
namespace Go.Tw
open Go.Vx Go.Vx.B Go.Proofs
/-! ### tidewayref06.SameChart -/
abbrev yN8 : Ty := .pair t25 (.pair t25 .unit)
abbrev yOe : Ty := .pair t4 .unit
noncomputable def yQB : G := { T := T, E := [], mU := [], fz := [] }
def yQz : List (List Nat) := [[2, 3, 5], [2, 3, 6]]
noncomputable def yLJ (n : Nat) : Ann := { keep := yQz, fuel := n, inl := [], deep := 0 }
noncomputable def yEY (n : Nat) (r5 : Cha → Cha → Int → Option (Bool × Unit)) (a2_5 : Cha) (b3_5 : Cha) (i6_5 : Int) : Option (Bool × Unit) :=
  (bif Decidable.decide (i6_5 < (↑a2_5.snd.fst.length : Int)) then (Option.bind (Go.Vx.idx a2_5.snd.fst i6_5) fun (v6 : Tra) => (Option.bind (Go.Vx.idx b3_5.snd.fst i6_5) fun (v7 : Tra) => (bif !Go.Vx.eqV ((Go.Vx.Ty.int Go.IntKind.i64).pair (Go.Vx.Ty.str.pair ((Go.Vx.Ty.int Go.IntKind.i64).pair ((Go.Vx.Ty.int Go.IntKind.i64).pair ((Go.Vx.Ty.int Go.IntKind.i64).pair Go.Vx.Ty.unit))))) v6 v7 then Option.some (Bool.false, ()) else r5 a2_5 b3_5 (Go.IntKind.i64.wrap (i6_5 + (1 : Int)))))) else Option.some (Bool.true, ()))

noncomputable def y75 (n : Nat)  (k : Nat) (a2_5 : Cha) (b3_5 : Cha) (i6_5 : Int) : Option (Bool × Unit) :=
  iter (fun r y => yEY n (fun a2_5 b3_5 i6_5 => r ((a2_5, (b3_5, (i6_5, ()))), ((), ()))) y.1.1 y.1.2.1 y.1.2.2.1) k ((a2_5, (b3_5, (i6_5, ()))), ((), ()))

noncomputable def yEW (n : Nat) (r2 : Cha → Cha → Int → Option (Bool × Unit)) (a2_2 : Cha) (b3_2 : Cha) (i5_2 : Int) : Option (Bool × Unit) :=
  (bif Decidable.decide (i5_2 < (↑a2_2.fst.length : Int)) then (Option.bind (Go.Vx.idx a2_2.fst i5_2) fun (v3 : Sta) => (Option.bind (Go.Vx.idx b3_2.fst i5_2) fun (v4 : Sta) => (bif !Go.Vx.eqV (Go.Vx.Ty.str.pair ((Go.Vx.Ty.int Go.IntKind.i64).pair ((Go.Vx.Ty.int Go.IntKind.i64).pair (Go.Vx.Ty.bool.pair Go.Vx.Ty.unit)))) v3 v4 then Option.some (Bool.false, ()) else r2 a2_2 b3_2 (Go.IntKind.i64.wrap (i5_2 + (1 : Int)))))) else (y75 n n (a2_2) (b3_2) ((0 : Int))))

noncomputable def y7L (n : Nat)  (k : Nat) (a2_2 : Cha) (b3_2 : Cha) (i5_2 : Int) : Option (Bool × Unit) :=
  iter (fun r y => yEW n (fun a2_2 b3_2 i5_2 => r ((a2_2, (b3_2, (i5_2, ()))), ((), ()))) y.1.1 y.1.2.1 y.1.2.2.1) k ((a2_2, (b3_2, (i5_2, ()))), ((), ()))

noncomputable def yJv (n : Nat) (a : Cha) (b : Cha) : Option (Bool × Unit) :=
  (bif (↑a.fst.length : Int) != (↑b.fst.length : Int) then Option.some (Bool.false, ()) else (bif (↑a.snd.fst.length : Int) != (↑b.snd.fst.length : Int) then Option.some (Bool.false, ()) else (y7L n n (a) (b) ((0 : Int)))))

theorem yQd (n : Nat) (x : yN8.den) : runF yQB (yLJ n) Tryz.f13 yN8 yOe x = yJv n x.1 x.2.1 := by kernel_rfl

noncomputable def y99 (a2_5 : Cha) (b3_5 : Cha) (i6_5 : Int) (v6 : Tra) : Option ((Bool × Unit) ⊕ Unit) :=
  (Option.bind (Go.Vx.idx b3_5.snd.fst i6_5) fun (v7 : Tra) => (bif !Go.Vx.eqV ((Go.Vx.Ty.int Go.IntKind.i64).pair (Go.Vx.Ty.str.pair ((Go.Vx.Ty.int Go.IntKind.i64).pair ((Go.Vx.Ty.int Go.IntKind.i64).pair ((Go.Vx.Ty.int Go.IntKind.i64).pair Go.Vx.Ty.unit))))) v6 v7 then (some (Sum.inl ((Bool.false, ())))) else (some (Sum.inr ()))))

noncomputable def yEN (a2_5 : Cha) (b3_5 : Cha) : Option (Bool × Unit) :=
  (some ((Bool.true, ())))

theorem yDs (n : Nat) (hn : big ≤ n)  (a2_5 : Cha) (b3_5 : Cha) (hx : List.length (a2_5.snd.fst) < lenMax) : LeF some (yI (fun i__ e__ s__ => y99 a2_5 b3_5 i__ e__) (fun s__ => yEN a2_5 b3_5) 0 (a2_5.snd.fst) ()) (y75 n n a2_5 b3_5 0) := by
  refine yR (f := some) (W := fun k__ i__ s__ => y75 n k__ a2_5 b3_5 i__) (body := (fun i__ e__ s__ => y99 a2_5 b3_5 i__ e__)) (fin := (fun s__ => yEN a2_5 b3_5)) (fun k__ i__ s__ => ?_) hx () n (by unfold big at hn; unfold lenMax at hx; omega)
  show LeF _ _ (yEY n (y75 n k__) a2_5 b3_5 i__)
  exact y4 (yA fun v6 => (yA fun v7 => (y4 (y6 rfl) (y6 rfl)))) (y0T (y6 rfl))

noncomputable def y9j (a2_2 : Cha) (b3_2 : Cha) (i5_2 : Int) (v3 : Sta) : Option ((Bool × Unit) ⊕ Unit) :=
  (Option.bind (Go.Vx.idx b3_2.fst i5_2) fun (v4 : Sta) => (bif !Go.Vx.eqV (Go.Vx.Ty.str.pair ((Go.Vx.Ty.int Go.IntKind.i64).pair ((Go.Vx.Ty.int Go.IntKind.i64).pair (Go.Vx.Ty.bool.pair Go.Vx.Ty.unit)))) v3 v4 then (some (Sum.inl ((Bool.false, ())))) else (some (Sum.inr ()))))

noncomputable def yB7 (a2_2 : Cha) (b3_2 : Cha) : Option (Bool × Unit) :=
  (bif decide (List.length (a2_2.snd.fst) < lenMax) then yI (fun i__ e__ s__ => y99 (a2_2) (b3_2) i__ e__) (fun s__ => yEN (a2_2) (b3_2)) 0 (a2_2.snd.fst) () else none)

theorem yCs (n : Nat) (hn : big ≤ n)  (a2_2 : Cha) (b3_2 : Cha) (hx : List.length (a2_2.fst) < lenMax) : LeF some (yI (fun i__ e__ s__ => y9j a2_2 b3_2 i__ e__) (fun s__ => yB7 a2_2 b3_2) 0 (a2_2.fst) ()) (y7L n n a2_2 b3_2 0) := by
  refine yR (f := some) (W := fun k__ i__ s__ => y7L n k__ a2_2 b3_2 i__) (body := (fun i__ e__ s__ => y9j a2_2 b3_2 i__ e__)) (fin := (fun s__ => yB7 a2_2 b3_2)) (fun k__ i__ s__ => ?_) hx () n (by unfold big at hn; unfold lenMax at hx; omega)
  show LeF _ _ (yEW n (y7L n k__) a2_2 b3_2 i__)
  exact y4 (yA fun v3 => (yA fun v4 => (y4 (y6 rfl) (y6 rfl)))) (y0T (yZ fun hx => by apply yDs n hn; exact hx))

noncomputable def yFm (a : Cha) (b : Cha) : Option (Bool × Unit) :=
  (bif (↑a.fst.length : Int) != (↑b.fst.length : Int) then (some ((Bool.false, ()))) else (bif (↑a.snd.fst.length : Int) != (↑b.snd.fst.length : Int) then (some ((Bool.false, ()))) else (bif decide (List.length (a.fst) < lenMax) then yI (fun i__ e__ s__ => y9j (a) (b) i__ e__) (fun s__ => yB7 (a) (b)) 0 (a.fst) () else none)))

theorem yN9 (a : Cha) (b : Cha) (y : Bool × Unit) (h : yFm a b = some y) : ∃ n, yJv n a b = some y :=
  ⟨big, LeF.top (show LeF some (yFm a b) (yJv big a b) from (fun (n : Nat) (hn : big ≤ n) => show LeF some (yFm a b) (yJv n a b) from (y4 (y6 rfl) (y4 (y6 rfl) (yZ fun hx => by apply yCs n hn; exact hx)))) big (Nat.le_refl _)) h⟩
noncomputable def z02_e : Entry := { f := 13, args := yN8, rS := yOe, m := fun x => yFm x.1 x.2.1 }
theorem yQ1 : FnOK Tryz.prog z02_e := y1x (g := yQB) (fn := Tryz.f13) y0M y1t eNil (by kernel_rfl) (by kernel_rfl) (by kernel_rfl) (fun x y h => let ⟨n, hn⟩ := yN9 x.1 x.2.1 y h; ⟨yLJ n, iNil, (yQd n x).trans hn⟩)

/-! ### tidewaylaw06.own -/
abbrev yM3 : Ty := .pair t34 .unit
abbrev yOy : Ty := .pair t25 .unit
noncomputable def yQ8 : G := { T := T, E := [], mU := [3], fz := [] }
def yRK : List (List Nat) := [[1, 2, 3, 9, 10, 11], [2, 3, 23, 24, 25]]
noncomputable def yKp (n : Nat) : Ann := { keep := yRK, fuel := n, inl := [], deep := 0 }
noncomputable def yF5 (n : Nat) (r2 : List Tra → Int → Int → List Sta → List Tra → Option (Cha × Unit)) (t23_2 : List Tra) (t24_2 : Int) (t25_2 : Int) (cs2_2 : List Sta) (cs3_2 : List Tra) : Option (Cha × Unit) :=
  (bif Decidable.decide (t25_2 < t24_2) then (Option.bind (Go.Vx.idx t23_2 t25_2) fun (v3 : Tra) => (bif Decidable.decide (cs3_2.length + (1 : Nat) ≤ Go.Vx.memMax) then r2 t23_2 t24_2 (Go.IntKind.i64.wrap (t25_2 + (1 : Int))) cs2_2 (cs3_2 ++ [(v3.fst, v3.snd.fst, v3.snd.snd.fst, v3.snd.snd.snd.fst, v3.snd.snd.snd.snd.fst, ())]) else none)) else Option.some ((cs2_2, cs3_2, ()), ()))

noncomputable def y7G (n : Nat)  (k : Nat) (t23_2 : List Tra) (t24_2 : Int) (t25_2 : Int) (cs2_2 : List Sta) (cs3_2 : List Tra) : Option (Cha × Unit) :=
  iter (fun r y => yF5 n (fun t23_2 t24_2 t25_2 cs2_2 cs3_2 => r ((t23_2, (t24_2, (t25_2, ()))), (((), ((), (cs2_2, (cs3_2, ())))), ()))) y.1.1 y.1.2.1 y.1.2.2.1 y.2.1.2.2.1 y.2.1.2.2.2.1) k ((t23_2, (t24_2, (t25_2, ()))), (((), ((), (cs2_2, (cs3_2, ())))), ()))

noncomputable def yEj (n : Nat) (r0 : Cha → List Sta → Int → Int → List Sta → List Tra → Option (Cha × Unit)) (c1_0 : Cha) (t9_0 : List Sta) (t10_0 : Int) (t11_0 : Int) (cs2_0 : List Sta) (cs3_0 : List Tra) : Option (Cha × Unit) :=
  (bif Decidable.decide (t11_0 < t10_0) then (Option.bind (Go.Vx.idx t9_0 t11_0) fun (v1 : Sta) => (bif Decidable.decide (cs2_0.length + (1 : Nat) ≤ Go.Vx.memMax) then r0 c1_0 t9_0 t10_0 (Go.IntKind.i64.wrap (t11_0 + (1 : Int))) (cs2_0 ++ [(v1.fst, v1.snd.fst, v1.snd.snd.fst, v1.snd.snd.snd.fst, ())]) cs3_0 else none)) else (y7G n n (c1_0.snd.fst) ((↑c1_0.snd.fst.length : Int)) ((0 : Int)) (cs2_0) (cs3_0)))

noncomputable def y7A (n : Nat)  (k : Nat) (c1_0 : Cha) (t9_0 : List Sta) (t10_0 : Int) (t11_0 : Int) (cs2_0 : List Sta) (cs3_0 : List Tra) : Option (Cha × Unit) :=
  iter (fun r y => yEj n (fun c1_0 t9_0 t10_0 t11_0 cs2_0 cs3_0 => r ((c1_0, (t9_0, (t10_0, (t11_0, ())))), (((), ((), (cs2_0, (cs3_0, ())))), ()))) y.1.1 y.1.2.1 y.1.2.2.1 y.1.2.2.2.1 y.2.1.2.2.1 y.2.1.2.2.2.1) k ((c1_0, (t9_0, (t10_0, (t11_0, ())))), (((), ((), (cs2_0, (cs3_0, ())))), ()))

noncomputable def yJ8 (n : Nat) (c : Cha) : Option (Cha × Unit) :=
  (y7A n n (c) (c.fst) ((↑c.fst.length : Int)) ((0 : Int)) ([]) ([]))

theorem yOH (n : Nat) (x : yM3.den) : runF yQ8 (yKp n) Tryz.f14 yM3 yOy x = yJ8 n x.1 := by kernel_rfl

noncomputable def y9t (t23_2 : List Tra) (cs2_2 : List Sta) (t25_2 : Int) (v3 : Tra) (cs3_2 : List Tra) : Option ((Cha × Unit) ⊕ (List Tra)) :=
  (bif Decidable.decide (cs3_2.length + (1 : Nat) ≤ Go.Vx.memMax) then (some (Sum.inr (cs3_2 ++ [(v3.fst, v3.snd.fst, v3.snd.snd.fst, v3.snd.snd.snd.fst, v3.snd.snd.snd.snd.fst, ())]))) else none)

noncomputable def yBi (t23_2 : List Tra) (cs2_2 : List Sta) (cs3_2 : List Tra) : Option (Cha × Unit) :=
  (some (((cs2_2, cs3_2, ()), ())))

theorem yDU (n : Nat) (hn : big ≤ n)  (t23_2 : List Tra) (cs2_2 : List Sta) (cs3_2 : List Tra) (hx : List.length (t23_2) < lenMax) : LeF some (yI (fun i__ e__ s__ => y9t t23_2 cs2_2 i__ e__ s__) (fun s__ => yBi t23_2 cs2_2 s__) 0 (t23_2) cs3_2) (y7G n n t23_2 (List.length (t23_2) : Int) 0 cs2_2 cs3_2) := by
  refine yR (f := some) (W := fun k__ i__ s__ => y7G n k__ t23_2 (List.length (t23_2) : Int) i__ cs2_2 s__) (body := (fun i__ e__ s__ => y9t t23_2 cs2_2 i__ e__ s__)) (fin := (fun s__ => yBi t23_2 cs2_2 s__)) (fun k__ i__ s__ => ?_) hx cs3_2 n (by unfold big at hn; unfold lenMax at hx; omega)
  show LeF _ _ (yF5 n (y7G n k__) t23_2 (List.length (t23_2) : Int) i__ cs2_2 s__)
  exact y4 (yA fun v3 => (y4 (y6 rfl) yL)) (y0T (y6 rfl))

noncomputable def y9D (c1_0 : Cha) (t9_0 : List Sta) (cs3_0 : List Tra) (t11_0 : Int) (v1 : Sta) (cs2_0 : List Sta) : Option ((Cha × Unit) ⊕ (List Sta)) :=
  (bif Decidable.decide (cs2_0.length + (1 : Nat) ≤ Go.Vx.memMax) then (some (Sum.inr (cs2_0 ++ [(v1.fst, v1.snd.fst, v1.snd.snd.fst, v1.snd.snd.snd.fst, ())]))) else none)

noncomputable def yCW (c1_0 : Cha) (t9_0 : List Sta) (cs3_0 : List Tra) (cs2_0 : List Sta) : Option (Cha × Unit) :=
  (bif decide (List.length (c1_0.snd.fst) < lenMax) then yI (fun i__ e__ s__ => y9t (c1_0.snd.fst) (cs2_0) i__ e__ s__) (fun s__ => yBi (c1_0.snd.fst) (cs2_0) s__) 0 (c1_0.snd.fst) (cs3_0) else none)

theorem yD8 (n : Nat) (hn : big ≤ n)  (c1_0 : Cha) (t9_0 : List Sta) (cs3_0 : List Tra) (cs2_0 : List Sta) (hx : List.length (t9_0) < lenMax) : LeF some (yI (fun i__ e__ s__ => y9D c1_0 t9_0 cs3_0 i__ e__ s__) (fun s__ => yCW c1_0 t9_0 cs3_0 s__) 0 (t9_0) cs2_0) (y7A n n c1_0 t9_0 (List.length (t9_0) : Int) 0 cs2_0 cs3_0) := by
  refine yR (f := some) (W := fun k__ i__ s__ => y7A n k__ c1_0 t9_0 (List.length (t9_0) : Int) i__ s__ cs3_0) (body := (fun i__ e__ s__ => y9D c1_0 t9_0 cs3_0 i__ e__ s__)) (fin := (fun s__ => yCW c1_0 t9_0 cs3_0 s__)) (fun k__ i__ s__ => ?_) hx cs2_0 n (by unfold big at hn; unfold lenMax at hx; omega)
  show LeF _ _ (yEj n (y7A n k__) c1_0 t9_0 (List.length (t9_0) : Int) i__ s__ cs3_0)
  exact y4 (yA fun v1 => (y4 (y6 rfl) yL)) (y0T (yZ fun hx => by apply yDU n hn; exact hx))

noncomputable def yGa (c : Cha) : Option (Cha × Unit) :=
  (bif decide (List.length (c.fst) < lenMax) then yI (fun i__ e__ s__ => y9D (c) (c.fst) ([]) i__ e__ s__) (fun s__ => yCW (c) (c.fst) ([]) s__) 0 (c.fst) ([]) else none)

theorem yNU (c : Cha) (y : Cha × Unit) (h : yGa c = some y) : ∃ n, yJ8 n c = some y :=
  ⟨big, LeF.top (show LeF some (yGa c) (yJ8 big c) from (fun (n : Nat) (hn : big ≤ n) => show LeF some (yGa c) (yJ8 n c) from (yZ fun hx => by apply yD8 n hn; exact hx)) big (Nat.le_refl _)) h⟩
noncomputable def z0y_e : Entry := { f := 14, args := yM3, rS := yOy, m := fun x => yGa x.1 }
theorem yPj : FnOK Tryz.prog z0y_e := y1x (g := yQ8) (fn := Tryz.f14) y0M y1t eNil (by kernel_rfl) (by kernel_rfl) (by kernel_rfl) (fun x y h => let ⟨n, hn⟩ := yNU x.1 y h; ⟨yKp n, iNil, (yOH n x).trans hn⟩)

/-! ### tidewayref01.Split -/
abbrev yMO : Ty := .pair t9 (.pair t5 .unit)
abbrev yPU : Ty := .pair t51 .unit
noncomputable def yPs : G := { T := T, E := [], mU := [5], fz := [] }
def yR3 : List (List Nat) := [[0, 1, 5, 6, 7]]
noncomputable def yL6 (n : Nat) : Ann := { keep := yR3, fuel := n, inl := [], deep := 0 }
noncomputable def yAX (n : Nat) (r0 : List UInt8 → Int → Int → Int → List (List UInt8) → Option (List (List UInt8) × Unit)) (s0_0 : List UInt8) (c1_0 : Int) (from6_0 : Int) (i7_0 : Int) (cs0_0 : List (List UInt8)) (j3 : Bool) : Option (List (List UInt8) × Unit) :=
  (bif j3 then (bif Decidable.decide ((0 : Int) ≤ from6_0) && Decidable.decide (from6_0 ≤ i7_0) && Decidable.decide (i7_0 ≤ (↑s0_0.length : Int)) then (bif Decidable.decide (cs0_0.length + (1 : Nat) ≤ Go.Vx.memMax) then r0 s0_0 c1_0 (Go.IntKind.i64.wrap (i7_0 + (1 : Int))) (Go.IntKind.i64.wrap (i7_0 + (1 : Int))) (cs0_0 ++ [List.drop from6_0.toNat (List.take i7_0.toNat s0_0)]) else none) else none) else r0 s0_0 c1_0 from6_0 (Go.IntKind.i64.wrap (i7_0 + (1 : Int))) cs0_0)

noncomputable def yED (n : Nat) (r0 : List UInt8 → Int → Int → Int → List (List UInt8) → Option (List (List UInt8) × Unit)) (s0_0 : List UInt8) (c1_0 : Int) (from6_0 : Int) (i7_0 : Int) (cs0_0 : List (List UInt8)) : Option (List (List UInt8) × Unit) :=
  (bif Decidable.decide (i7_0 ≤ (↑s0_0.length : Int)) then (bif i7_0 == (↑s0_0.length : Int) then (yAX n r0 s0_0 c1_0 from6_0 i7_0 cs0_0 (Bool.true)) else (Option.bind (Go.Vx.idx s0_0 i7_0) fun (v1 : UInt8) => (yAX n r0 s0_0 c1_0 from6_0 i7_0 cs0_0 ((↑v1.toNat : Int) == c1_0)))) else Option.some (cs0_0, ()))

noncomputable def y6w (n : Nat)  (k : Nat) (s0_0 : List UInt8) (c1_0 : Int) (from6_0 : Int) (i7_0 : Int) (cs0_0 : List (List UInt8)) : Option (List (List UInt8) × Unit) :=
  iter (fun r y => yED n (fun s0_0 c1_0 from6_0 i7_0 cs0_0 => r ((s0_0, (c1_0, (from6_0, (i7_0, ())))), ((cs0_0, ()), ()))) y.1.1 y.1.2.1 y.1.2.2.1 y.1.2.2.2.1 y.2.1.1) k ((s0_0, (c1_0, (from6_0, (i7_0, ())))), ((cs0_0, ()), ()))

noncomputable def yJg (n : Nat) (s : List UInt8) (c : Int) : Option (List (List UInt8) × Unit) :=
  (y6w n n (s) (c) ((0 : Int)) ((0 : Int)) ([]))

theorem yNw (n : Nat) (x : yMO.den) : runF yPs (yL6 n) Tryz.f52 yMO yPU x = yJg n x.1 x.2.1 := by kernel_rfl

noncomputable def y9L (s0_0 : List UInt8) (c1_0 : Int) (from6_0 : Int) (i7_0 : Int) (cs0_0 : List (List UInt8)) (j3 : Bool) : Option ((List (List UInt8) × Unit) ⊕ (Int × List (List UInt8))) :=
  (bif j3 then (bif Decidable.decide ((0 : Int) ≤ from6_0) && Decidable.decide (from6_0 ≤ i7_0) && Decidable.decide (i7_0 ≤ (↑s0_0.length : Int)) then (bif Decidable.decide (cs0_0.length + (1 : Nat) ≤ Go.Vx.memMax) then (some (Sum.inr ((Go.IntKind.i64.wrap (i7_0 + (1 : Int))), (cs0_0 ++ [List.drop from6_0.toNat (List.take i7_0.toNat s0_0)])))) else none) else none) else (some (Sum.inr ((from6_0), (cs0_0)))))

theorem y2e (n : Nat) (hn : big ≤ n)  (r0 : List UInt8 → Int → Int → Int → List (List UInt8) → Option (List (List UInt8) × Unit)) (s0_0 : List UInt8) (c1_0 : Int) (from6_0 : Int) (i7_0 : Int) (cs0_0 : List (List UInt8)) (j3 : Bool) : LeF (elim some fun (s__ : (Int × List (List UInt8))) => r0 s0_0 c1_0 s__.1 (Go.IntKind.i64.wrap (i7_0 + 1)) s__.2) (y9L s0_0 c1_0 from6_0 i7_0 cs0_0 j3) (yAX n r0 s0_0 c1_0 from6_0 i7_0 cs0_0 j3) :=
  (y4 (y4 (y4 (y6 rfl) yL) yL) (y6 rfl))

noncomputable def y4j (s0_0 : List UInt8) (c1_0 : Int) (i7_0 : Int) (from6_0 : Int) (cs0_0 : List (List UInt8)) : Option ((List (List UInt8) × Unit) ⊕ (Int × List (List UInt8))) :=
  (bif i7_0 == (↑s0_0.length : Int) then (y9L s0_0 c1_0 from6_0 i7_0 cs0_0 (Bool.true)) else (Option.bind (Go.Vx.idx s0_0 i7_0) fun (v1 : UInt8) => (y9L s0_0 c1_0 from6_0 i7_0 cs0_0 ((↑v1.toNat : Int) == c1_0))))

noncomputable def yBe (s0_0 : List UInt8) (c1_0 : Int) (from6_0 : Int) (cs0_0 : List (List UInt8)) : Option (List (List UInt8) × Unit) :=
  (some ((cs0_0, ())))

theorem yDn (n : Nat) (hn : big ≤ n)  (s0_0 : List UInt8) (c1_0 : Int) (from6_0 : Int) (cs0_0 : List (List UInt8)) (hx : ((↑s0_0.length : Int)) ≤ (9223372036854775806 : Int)) : LeF some (y21 (fun i__ s__ => y4j s0_0 c1_0 i__ s__.1 s__.2) (fun s__ => yBe s0_0 c1_0 s__.1 s__.2) (((↑s0_0.length : Int)) + 1 - 0).toNat 0 (from6_0, cs0_0)) (y6w n n s0_0 c1_0 from6_0 0 cs0_0) := by
  refine yId (f := some) (W := fun k__ i__ s__ => y6w n k__ s0_0 c1_0 s__.1 i__ s__.2) (body := (fun i__ s__ => y4j s0_0 c1_0 i__ s__.1 s__.2)) (fin := (fun s__ => yBe s0_0 c1_0 s__.1 s__.2)) (fun k__ i__ s__ => ?_) hx (from6_0, cs0_0) n 0 (by decide) (by unfold big at hn; omega)
  show LeF _ _ (yED n (y6w n k__) s0_0 c1_0 s__.1 i__ s__.2)
  exact y4 (y4 (by apply y2e n hn) (yA fun v1 => (by apply y2e n hn))) (y0T (y6 rfl))

noncomputable def yFf (s : List UInt8) (c : Int) : Option (List (List UInt8) × Unit) :=
  (bif decide (((↑s.length : Int)) ≤ (9223372036854775806 : Int)) then y21 (fun i__ s__ => y4j (s) (c) i__ s__.1 s__.2) (fun s__ => yBe (s) (c) s__.1 s__.2) (((↑s.length : Int)) + 1 - 0).toNat 0 (((0 : Int)), ([])) else none)

theorem yMt (s : List UInt8) (c : Int) (y : List (List UInt8) × Unit) (h : yFf s c = some y) : ∃ n, yJg n s c = some y :=
  ⟨big, LeF.top (show LeF some (yFf s c) (yJg big s c) from (fun (n : Nat) (hn : big ≤ n) => show LeF some (yFf s c) (yJg n s c) from (yZ fun hx => by apply yDn n hn; exact hx)) big (Nat.le_refl _)) h⟩
noncomputable def z0f_e : Entry := { f := 52, args := yMO, rS := yPU, m := fun x => yFf x.1 x.2.1 }
theorem yPW : FnOK Tryz.prog z0f_e := y1x (g := yPs) (fn := Tryz.f52) y0M y1t eNil (by kernel_rfl) (by kernel_rfl) (by kernel_rfl) (fun x y h => let ⟨n, hn⟩ := yMt x.1 x.2.1 y h; ⟨yL6 n, iNil, (yNw n x).trans hn⟩)

/-! ### tidewayref01.Text -/
abbrev yDq : Ty := .pair t3 .unit
abbrev yFu : Ty := .pair t9 .unit
class ref01_Text_Rec where
  f : yDq.den → Option yFu.den
section
variable [ref01_Text_Rec]
noncomputable def yAK : Entry := { f := 96, args := yDq, rS := yFu, m := fun x => ref01_Text_Rec.f x }
noncomputable def yPN : G := { T := T, E := [yAK], mU := [], fz := [] }
def yRJ : List (List Nat) := []
noncomputable def yLI (n : Nat) : Ann := { keep := yRJ, fuel := n, inl := [], deep := 0 }
noncomputable def yE2 (n : Nat) (np : Int) : Option (List UInt8 × Unit) :=
  (bif Decidable.decide (np > (9 : Int)) then (Option.bind (Go.Tw.ref01_Text_Rec.f (Go.IntKind.i64.wrap (np.tdiv (10 : Int)), ())) fun (v0 : List UInt8 × Unit) => (Option.bind (Go.Tw.ref01_Text_Rec.f (np.tmod (10 : Int), ())) fun (v1 : List UInt8 × Unit) => (bif Decidable.decide (v0.fst.length + v1.fst.length < Go.Vx.strMax) then Option.some (v0.fst ++ v1.fst, ()) else none))) else (bif Decidable.decide (np < (-9 : Int)) then (Option.bind (Go.Tw.ref01_Text_Rec.f (Go.IntKind.i64.wrap (np.tdiv (10 : Int)), ())) fun (v2 : List UInt8 × Unit) => (Option.bind (Go.Tw.ref01_Text_Rec.f (Go.IntKind.i64.wrap ((0 : Int) - np.tmod (10 : Int)), ())) fun (v3 : List UInt8 × Unit) => (bif Decidable.decide (v2.fst.length + v3.fst.length < Go.Vx.strMax) then Option.some (v2.fst ++ v3.fst, ()) else none))) else (bif Decidable.decide (np < (0 : Int)) then (Option.bind (Go.Tw.ref01_Text_Rec.f (Go.IntKind.i64.wrap ((0 : Int) - np), ())) fun (v4 : List UInt8 × Unit) => (bif Decidable.decide ((1 : Nat) + v4.fst.length < Go.Vx.strMax) then Option.some ([(45 : UInt8)] ++ v4.fst, ()) else none)) else Option.some (Go.Vx.y0Y [Go.IntKind.u8.wrap (Go.IntKind.i64.wrap ((48 : Int) + np))], ()))))

theorem yOT (n : Nat) (x : yDq.den) : runF yPN (yLI n) Tryz.f96 yDq yFu x = yE2 n x.1 := by kernel_rfl

noncomputable def y8m (np : Int) : Option (List UInt8 × Unit) := yE2 0 np

theorem yMv (np : Int) (y : List UInt8 × Unit) (h : y8m np = some y) : ∃ n, yE2 n np = some y := ⟨0, h⟩
end
/-- The recursion, d deep. -/
noncomputable def yP (d : Nat) : yDq.den → Option yFu.den := Nat.rec (motive := fun _ => yDq.den → Option yFu.den) (fun _ => none) (fun _ ih x => @y8m ⟨ih⟩ x.1) d
noncomputable def y3K (d : Nat) : Entry := { f := 96, args := yDq, rS := yFu, m := yP d }
theorem y4h : (d : Nat) → FnOK Tryz.prog (y3K d)
  | 0 => FnOK.none (fn := Tryz.f96) (by kernel_rfl) (by kernel_rfl) (by kernel_rfl)
  | d + 1 => y1x (g := @yPN ⟨yP d⟩) (fn := Tryz.f96) (e := y3K (d + 1)) y0M y1t (yB (y4h d) eNil) (by kernel_rfl) (by kernel_rfl) (by kernel_rfl) (fun x y h => let ⟨n, hn⟩ := @yMv ⟨yP d⟩ x.1 y h; ⟨yLI n, iNil, (@yOT ⟨yP d⟩ n x).trans hn⟩)
noncomputable def z0r_e : Entry := y3K 24
theorem yOF : FnOK Tryz.prog z0r_e := y4h 24

/-! ### internal/stringslite.HasSuffix -/
abbrev zD_a : Ty := .pair t9 (.pair t9 .unit)
abbrev zD_r : Ty := .pair t4 .unit
noncomputable def zD_g : G := { T := T, E := [], mU := [], fz := [] }
def zD_k : List (List Nat) := []
noncomputable def yQA (n : Nat) : Ann := { keep := zD_k, fuel := n, inl := [], deep := 0 }
noncomputable def zD_m (n : Nat) (s : List UInt8) (suffix : List UInt8) : Option (Bool × Unit) :=
  (bif Decidable.decide ((↑s.length : Int) ≥ (↑suffix.length : Int)) then (bif Decidable.decide ((0 : Int) ≤ Go.IntKind.i64.wrap ((↑s.length : Int) - (↑suffix.length : Int))) && Decidable.decide (Go.IntKind.i64.wrap ((↑s.length : Int) - (↑suffix.length : Int)) ≤ (↑s.length : Int)) then Option.some (List.drop (Go.IntKind.i64.wrap ((↑s.length : Int) - (↑suffix.length : Int))).toNat s == suffix, ()) else none) else Option.some (Bool.false, ()))

theorem yQw (n : Nat) (x : zD_a.den) : runF zD_g (yQA n) Tryz.f124 zD_a zD_r x = zD_m n x.1 x.2.1 := by kernel_rfl

noncomputable def zD_M (s : List UInt8) (suffix : List UInt8) : Option (Bool × Unit) := zD_m 0 s suffix

theorem yOV (s : List UInt8) (suffix : List UInt8) (y : Bool × Unit) (h : zD_M s suffix = some y) : ∃ n, zD_m n s suffix = some y := ⟨0, h⟩
noncomputable def zD_e : Entry := { f := 124, args := zD_a, rS := zD_r, m := fun x => zD_M x.1 x.2.1 }
theorem yRU : FnOK Tryz.prog zD_e := y1x (g := zD_g) (fn := Tryz.f124) y0M y1t eNil (by kernel_rfl) (by kernel_rfl) (by kernel_rfl) (fun x y h => let ⟨n, hn⟩ := yOV x.1 x.2.1 y h; ⟨yQA n, iNil, (yQw n x).trans hn⟩)

/-! ### internal/stringslite.HasPrefix -/
abbrev zC_a : Ty := .pair t9 (.pair t9 .unit)
abbrev zC_r : Ty := .pair t4 .unit
noncomputable def zC_g : G := { T := T, E := [], mU := [], fz := [] }
def zC_k : List (List Nat) := []
noncomputable def yPa (n : Nat) : Ann := { keep := zC_k, fuel := n, inl := [], deep := 0 }
noncomputable def zC_m (n : Nat) (s : List UInt8) (p1 : List UInt8) : Option (Bool × Unit) :=
  (bif Decidable.decide ((↑s.length : Int) ≥ (↑p1.length : Int)) then (bif Decidable.decide ((0 : Int) ≤ (↑p1.length : Int)) && Decidable.decide ((↑p1.length : Int) ≤ (↑s.length : Int)) then Option.some (List.take (↑p1.length : Int).toNat s == p1, ()) else none) else Option.some (Bool.false, ()))

theorem yRo (n : Nat) (x : zC_a.den) : runF zC_g (yPa n) Tryz.f183 zC_a zC_r x = zC_m n x.1 x.2.1 := by kernel_rfl

noncomputable def zC_M (s : List UInt8) (p1 : List UInt8) : Option (Bool × Unit) := zC_m 0 s p1

theorem yQK (s : List UInt8) (p1 : List UInt8) (y : Bool × Unit) (h : zC_M s p1 = some y) : ∃ n, zC_m n s p1 = some y := ⟨0, h⟩
noncomputable def zC_e : Entry := { f := 183, args := zC_a, rS := zC_r, m := fun x => zC_M x.1 x.2.1 }
theorem yRy : FnOK Tryz.prog zC_e := y1x (g := zC_g) (fn := Tryz.f183) y0M y1t eNil (by kernel_rfl) (by kernel_rfl) (by kernel_rfl) (fun x y h => let ⟨n, hn⟩ := yQK x.1 x.2.1 y h; ⟨yPa n, iNil, (yRo n x).trans hn⟩)

/-! ### tidewayref01.Number -/
abbrev yMG : Ty := .pair t9 .unit
abbrev yP3 : Ty := .pair t3 (.pair t4 .unit)
noncomputable def yQL : G := { T := T, E := [], mU := [], fz := [] }
def yQs : List (List Nat) := [[0, 4, 5]]
noncomputable def yL9 (n : Nat) : Ann := { keep := yQs, fuel := n, inl := [], deep := 0 }
noncomputable def yF1 (n : Nat) (r8 : List UInt8 → Int → Int → Option (Int × Bool × Unit)) (s0_8 : List UInt8) (n4_8 : Int) (i5_8 : Int) : Option (Int × Bool × Unit) :=
  (bif Decidable.decide (i5_8 < (↑s0_8.length : Int)) then (Option.bind (Go.Vx.idx s0_8 i5_8) fun (v9 : UInt8) => (bif Decidable.decide ((↑v9.toNat : Int) < (48 : Int)) then Option.some ((0 : Int), Bool.false, ()) else (Option.bind (Go.Vx.idx s0_8 i5_8) fun (v10 : UInt8) => (bif Decidable.decide ((↑v10.toNat : Int) > (57 : Int)) then Option.some ((0 : Int), Bool.false, ()) else (Option.bind (Go.Vx.idx s0_8 i5_8) fun (v13 : UInt8) => r8 s0_8 (Go.IntKind.i64.wrap (Go.IntKind.i64.wrap ((10 : Int) * n4_8) + Go.IntKind.i64.wrap (Go.IntKind.u8.wrap ((↑v13.toNat : Int) - (48 : Int))))) (Go.IntKind.i64.wrap (i5_8 + (1 : Int)))))))) else Option.some (n4_8, Bool.true, ()))

noncomputable def y7J (n : Nat)  (k : Nat) (s0_8 : List UInt8) (n4_8 : Int) (i5_8 : Int) : Option (Int × Bool × Unit) :=
  iter (fun r y => yF1 n (fun s0_8 n4_8 i5_8 => r ((s0_8, (n4_8, (i5_8, ()))), ((), ()))) y.1.1 y.1.2.1 y.1.2.2.1) k ((s0_8, (n4_8, (i5_8, ()))), ((), ()))

noncomputable def y7X (n : Nat) (s : List UInt8) : Option (Int × Bool × Unit) :=
  (y7J n n (s) ((0 : Int)) ((0 : Int)))

noncomputable def yK1 (n : Nat) (s : List UInt8) : Option (Int × Bool × Unit) :=
  (bif (↑s.length : Int) == (0 : Int) then Option.some ((0 : Int), Bool.false, ()) else (bif Decidable.decide ((↑s.length : Int) > (9 : Int)) then Option.some ((0 : Int), Bool.false, ()) else (bif Decidable.decide ((↑s.length : Int) > (1 : Int)) then (Option.bind (Go.Vx.idx s (0 : Int)) fun (v0 : UInt8) => (bif (↑v0.toNat : Int) == (48 : Int) then Option.some ((0 : Int), Bool.false, ()) else (y7X n s))) else (y7X n s))))

theorem yNm (n : Nat) (x : yMG.den) : runF yQL (yL9 n) Tryz.f129 yMG yP3 x = yK1 n x.1 := by kernel_rfl

noncomputable def y4a (s0_8 : List UInt8) (i5_8 : Int) (v9 : UInt8) (n4_8 : Int) : Option ((Int × Bool × Unit) ⊕ (Int)) :=
  (bif Decidable.decide ((↑v9.toNat : Int) < (48 : Int)) then (some (Sum.inl (((0 : Int), Bool.false, ())))) else (Option.bind (Go.Vx.idx s0_8 i5_8) fun (v10 : UInt8) => (bif Decidable.decide ((↑v10.toNat : Int) > (57 : Int)) then (some (Sum.inl (((0 : Int), Bool.false, ())))) else (Option.bind (Go.Vx.idx s0_8 i5_8) fun (v13 : UInt8) => (some (Sum.inr (Go.IntKind.i64.wrap (Go.IntKind.i64.wrap ((10 : Int) * n4_8) + Go.IntKind.i64.wrap (Go.IntKind.u8.wrap ((↑v13.toNat : Int) - (48 : Int)))))))))))

noncomputable def yCg (s0_8 : List UInt8) (n4_8 : Int) : Option (Int × Bool × Unit) :=
  (some ((n4_8, Bool.true, ())))

theorem yDp (n : Nat) (hn : big ≤ n)  (s0_8 : List UInt8) (n4_8 : Int) (hx : List.length (s0_8) < lenMax) : LeF some (yI (fun i__ e__ s__ => y4a s0_8 i__ e__ s__) (fun s__ => yCg s0_8 s__) 0 (s0_8) n4_8) (y7J n n s0_8 n4_8 0) := by
  refine yR (f := some) (W := fun k__ i__ s__ => y7J n k__ s0_8 s__ i__) (body := (fun i__ e__ s__ => y4a s0_8 i__ e__ s__)) (fin := (fun s__ => yCg s0_8 s__)) (fun k__ i__ s__ => ?_) hx n4_8 n (by unfold big at hn; unfold lenMax at hx; omega)
  show LeF _ _ (yF1 n (y7J n k__) s0_8 s__ i__)
  exact y4 (yA fun v9 => (y4 (y6 rfl) (yA fun v10 => (y4 (y6 rfl) (yA fun v13 => (y6 rfl)))))) (y0T (y6 rfl))

noncomputable def y8f (s : List UInt8) : Option (Int × Bool × Unit) :=
  (bif decide (List.length (s) < lenMax) then yI (fun i__ e__ s__ => y4a (s) i__ e__ s__) (fun s__ => yCg (s) s__) 0 (s) ((0 : Int)) else none)

theorem y2C (n : Nat) (hn : big ≤ n)  (s : List UInt8) : LeF some (y8f s) (y7X n s) :=
  (yZ fun hx => by apply yDp n hn; exact hx)

noncomputable def yG9 (s : List UInt8) : Option (Int × Bool × Unit) :=
  (bif (↑s.length : Int) == (0 : Int) then (some (((0 : Int), Bool.false, ()))) else (bif Decidable.decide ((↑s.length : Int) > (9 : Int)) then (some (((0 : Int), Bool.false, ()))) else (bif Decidable.decide ((↑s.length : Int) > (1 : Int)) then (Option.bind (Go.Vx.idx s (0 : Int)) fun (v0 : UInt8) => (bif (↑v0.toNat : Int) == (48 : Int) then (some (((0 : Int), Bool.false, ()))) else (y8f s))) else (y8f s))))

theorem yM6 (s : List UInt8) (y : Int × Bool × Unit) (h : yG9 s = some y) : ∃ n, yK1 n s = some y :=
  ⟨big, LeF.top (show LeF some (yG9 s) (yK1 big s) from (fun (n : Nat) (hn : big ≤ n) => show LeF some (yG9 s) (yK1 n s) from (y4 (y6 rfl) (y4 (y6 rfl) (y4 (yA fun v0 => (y4 (y6 rfl) (by apply y2C n hn))) (by apply y2C n hn))))) big (Nat.le_refl _)) h⟩
noncomputable def z0Q_e : Entry := { f := 129, args := yMG, rS := yP3, m := fun x => yG9 x.1 }
theorem yQk : FnOK Tryz.prog z0Q_e := y1x (g := yQL) (fn := Tryz.f129) y0M y1t eNil (by kernel_rfl) (by kernel_rfl) (by kernel_rfl) (fun x y h => let ⟨n, hn⟩ := yM6 x.1 y h; ⟨yL9 n, iNil, (yNm n x).trans hn⟩)

end Go.Tw
end

section
set_option linter.all false
set_option maxRecDepth 1000000
namespace Go.Tw
open Go.Vx Go.Vx.B Go.Proofs
/-! ### tidewayref06.signed -/
abbrev yML : Ty := .pair t3 .unit
abbrev yQc : Ty := .pair t9 .unit
noncomputable def yNz : G := { T := T, E := [z0r_e], mU := [], fz := [] }
def yR6 : List (List Nat) := []
noncomputable def yLC (n : Nat) : Ann := { keep := yR6, fuel := n, inl := [], deep := 0 }
noncomputable def yJF (n : Nat) (np : Int) : Option (List UInt8 × Unit) :=
  (Option.bind (Go.Tw.yP (24 : Nat) (np, ())) fun (v0 : List UInt8 × Unit) => Option.some (v0.fst, ()))

theorem yOc (n : Nat) (x : yML.den) : runF yNz (yLC n) Tryz.f51 yML yQc x = yJF n x.1 := by kernel_rfl

noncomputable def yJZ (np : Int) : Option (List UInt8 × Unit) := yJF 0 np

theorem yMp (np : Int) (y : List UInt8 × Unit) (h : yJZ np = some y) : ∃ n, yJF n np = some y := ⟨0, h⟩
noncomputable def z0T_e : Entry := { f := 51, args := yML, rS := yQc, m := fun x => yJZ x.1 }
theorem yPI : FnOK Tryz.prog z0T_e := y1x (g := yNz) (fn := Tryz.f51) y0M y1t (yB yOF eNil) (by kernel_rfl) (by kernel_rfl) (by kernel_rfl) (fun x y h => let ⟨n, hn⟩ := yMp x.1 y h; ⟨yLC n, iNil, (yOc n x).trans hn⟩)

/-! ### internal/stringslite.CutSuffix -/
abbrev zB_a : Ty := .pair t9 (.pair t9 .unit)
abbrev zB_r : Ty := .pair t9 (.pair t4 .unit)
noncomputable def zB_g : G := { T := T, E := [zD_e], mU := [], fz := [] }
def zB_k : List (List Nat) := []
noncomputable def yPu (n : Nat) : Ann := { keep := zB_k, fuel := n, inl := [], deep := 0 }
noncomputable def zB_m (n : Nat) (s : List UInt8) (suffix : List UInt8) : Option (List UInt8 × Bool × Unit) :=
  (Option.bind (Go.Tw.zD_M s suffix) fun (v0 : Bool × Unit) => (bif !v0.fst then Option.some (s, Bool.false, ()) else (bif Decidable.decide ((0 : Int) ≤ Go.IntKind.i64.wrap ((↑s.length : Int) - (↑suffix.length : Int))) && Decidable.decide (Go.IntKind.i64.wrap ((↑s.length : Int) - (↑suffix.length : Int)) ≤ (↑s.length : Int)) then Option.some (List.take (Go.IntKind.i64.wrap ((↑s.length : Int) - (↑suffix.length : Int))).toNat s, Bool.true, ()) else none)))

theorem yQp (n : Nat) (x : zB_a.den) : runF zB_g (yPu n) Tryz.f90 zB_a zB_r x = zB_m n x.1 x.2.1 := by kernel_rfl

noncomputable def zB_M (s : List UInt8) (suffix : List UInt8) : Option (List UInt8 × Bool × Unit) := zB_m 0 s suffix

theorem yOS (s : List UInt8) (suffix : List UInt8) (y : List UInt8 × Bool × Unit) (h : zB_M s suffix = some y) : ∃ n, zB_m n s suffix = some y := ⟨0, h⟩
noncomputable def zB_e : Entry := { f := 90, args := zB_a, rS := zB_r, m := fun x => zB_M x.1 x.2.1 }
theorem yRB : FnOK Tryz.prog zB_e := y1x (g := zB_g) (fn := Tryz.f90) y0M y1t (yB yRU eNil) (by kernel_rfl) (by kernel_rfl) (by kernel_rfl) (fun x y h => let ⟨n, hn⟩ := yOS x.1 x.2.1 y h; ⟨yPu n, iNil, (yQp n x).trans hn⟩)

/-! ### tidewayref01.Signed -/
abbrev yLj : Ty := .pair t9 .unit
abbrev yPq : Ty := .pair t3 (.pair t4 .unit)
noncomputable def yOB : G := { T := T, E := [z0Q_e], mU := [], fz := [] }
def yRz : List (List Nat) := []
noncomputable def yLA (n : Nat) : Ann := { keep := yRz, fuel := n, inl := [], deep := 0 }
noncomputable def y3B (n : Nat) (s : List UInt8) (j2 : Bool) : Option (Int × Bool × Unit) :=
  (bif j2 then (bif Decidable.decide ((0 : Int) ≤ (1 : Int)) && Decidable.decide ((1 : Int) ≤ (↑s.length : Int)) then (Option.bind (Go.Tw.yG9 (List.drop (Int.toNat (1 : Int)) s)) fun (v3 : Int × Bool × Unit) => (bif v3.snd.fst then Option.some (Go.IntKind.i64.wrap ((0 : Int) - v3.fst), Decidable.decide (v3.fst > (0 : Int)), ()) else Option.some (Go.IntKind.i64.wrap ((0 : Int) - v3.fst), Bool.false, ()))) else none) else (Option.bind (Go.Tw.yG9 s) fun (v8 : Int × Bool × Unit) => Option.some (v8.fst, v8.snd.fst, ())))

noncomputable def yJn (n : Nat) (s : List UInt8) : Option (Int × Bool × Unit) :=
  (bif Decidable.decide ((↑s.length : Int) > (1 : Int)) then (Option.bind (Go.Vx.idx s (0 : Int)) fun (v0 : UInt8) => (y3B n s ((↑v0.toNat : Int) == (45 : Int)))) else (y3B n s (Bool.false)))

theorem yQf (n : Nat) (x : yLj.den) : runF yOB (yLA n) Tryz.f97 yLj yPq x = yJn n x.1 := by kernel_rfl

noncomputable def yKR (s : List UInt8) : Option (Int × Bool × Unit) := yJn 0 s

theorem yNY (s : List UInt8) (y : Int × Bool × Unit) (h : yKR s = some y) : ∃ n, yJn n s = some y := ⟨0, h⟩
noncomputable def z0R_e : Entry := { f := 97, args := yLj, rS := yPq, m := fun x => yKR x.1 }
theorem yQS : FnOK Tryz.prog z0R_e := y1x (g := yOB) (fn := Tryz.f97) y0M y1t (yB yQk eNil) (by kernel_rfl) (by kernel_rfl) (by kernel_rfl) (fun x y h => let ⟨n, hn⟩ := yNY x.1 y h; ⟨yLA n, iNil, (yQf n x).trans hn⟩)

/-! ### internal/stringslite.CutPrefix -/
abbrev zA_a : Ty := .pair t9 (.pair t9 .unit)
abbrev zA_r : Ty := .pair t9 (.pair t4 .unit)
noncomputable def zA_g : G := { T := T, E := [zC_e], mU := [], fz := [] }
def zA_k : List (List Nat) := []
noncomputable def yOv (n : Nat) : Ann := { keep := zA_k, fuel := n, inl := [], deep := 0 }
noncomputable def zA_m (n : Nat) (s : List UInt8) (p1 : List UInt8) : Option (List UInt8 × Bool × Unit) :=
  (Option.bind (Go.Tw.zC_M s p1) fun (v0 : Bool × Unit) => (bif !v0.fst then Option.some (s, Bool.false, ()) else (bif Decidable.decide ((0 : Int) ≤ (↑p1.length : Int)) && Decidable.decide ((↑p1.length : Int) ≤ (↑s.length : Int)) then Option.some (List.drop (↑p1.length : Int).toNat s, Bool.true, ()) else none)))

theorem yS2 (n : Nat) (x : zA_a.den) : runF zA_g (yOv n) Tryz.f170 zA_a zA_r x = zA_m n x.1 x.2.1 := by kernel_rfl

noncomputable def zA_M (s : List UInt8) (p1 : List UInt8) : Option (List UInt8 × Bool × Unit) := zA_m 0 s p1

theorem yPL (s : List UInt8) (p1 : List UInt8) (y : List UInt8 × Bool × Unit) (h : zA_M s p1 = some y) : ∃ n, zA_m n s p1 = some y := ⟨0, h⟩
noncomputable def zA_e : Entry := { f := 170, args := zA_a, rS := zA_r, m := fun x => zA_M x.1 x.2.1 }
theorem yS4 : FnOK Tryz.prog zA_e := y1x (g := zA_g) (fn := Tryz.f170) y0M y1t (yB yRy eNil) (by kernel_rfl) (by kernel_rfl) (by kernel_rfl) (fun x y h => let ⟨n, hn⟩ := yPL x.1 x.2.1 y h; ⟨yOv n, iNil, (yS2 n x).trans hn⟩)

end Go.Tw
end

section
set_option linter.all false
set_option maxRecDepth 1000000
namespace Go.Tw
open Go.Vx Go.Vx.B Go.Proofs
/-! ### tidewayref06.Print -/
abbrev yLq : Ty := .pair t25 .unit
abbrev yPo : Ty := .pair t9 .unit
noncomputable def yQU : G := { T := T, E := [z0T_e], mU := [], fz := [] }
def yRv : List (List Nat) := [[1, 3, 4], [1, 3, 7]]
noncomputable def yLG (n : Nat) : Ann := { keep := yRv, fuel := n, inl := [], deep := 0 }
noncomputable def yAT (n : Nat) (r0 : Cha → List UInt8 → Int → Option (List UInt8 × Unit)) (c1_0 : Cha) (s3_0 : List UInt8) (i4_0 : Int) (v1 : Sta) (j2 : List UInt8) : Option (List UInt8 × Unit) :=
  (bif Decidable.decide (s3_0.length + (6 : Nat) < Go.Vx.strMax) then (bif Decidable.decide ((s3_0 ++ [(115 : UInt8), (116 : UInt8), (97 : UInt8), (116 : UInt8), (101 : UInt8), (32 : UInt8)]).length + v1.fst.length < Go.Vx.strMax) then (bif Decidable.decide ((s3_0 ++ [(115 : UInt8), (116 : UInt8), (97 : UInt8), (116 : UInt8), (101 : UInt8), (32 : UInt8)] ++ v1.fst).length + (1 : Nat) < Go.Vx.strMax) then (Option.bind (Go.Tw.yJZ v1.snd.fst) fun (v3 : List UInt8 × Unit) => (bif Decidable.decide ((s3_0 ++ [(115 : UInt8), (116 : UInt8), (97 : UInt8), (116 : UInt8), (101 : UInt8), (32 : UInt8)] ++ v1.fst ++ [(32 : UInt8)]).length + v3.fst.length < Go.Vx.strMax) then (bif Decidable.decide ((s3_0 ++ [(115 : UInt8), (116 : UInt8), (97 : UInt8), (116 : UInt8), (101 : UInt8), (32 : UInt8)] ++ v1.fst ++ [(32 : UInt8)] ++ v3.fst).length + (1 : Nat) < Go.Vx.strMax) then (Option.bind (Go.Tw.yJZ v1.snd.snd.fst) fun (v4 : List UInt8 × Unit) => (bif Decidable.decide ((s3_0 ++ [(115 : UInt8), (116 : UInt8), (97 : UInt8), (116 : UInt8), (101 : UInt8), (32 : UInt8)] ++ v1.fst ++ [(32 : UInt8)] ++ v3.fst ++ [(32 : UInt8)]).length + v4.fst.length < Go.Vx.strMax) then (bif Decidable.decide ((s3_0 ++ [(115 : UInt8), (116 : UInt8), (97 : UInt8), (116 : UInt8), (101 : UInt8), (32 : UInt8)] ++ v1.fst ++ [(32 : UInt8)] ++ v3.fst ++ [(32 : UInt8)] ++ v4.fst).length + (1 : Nat) < Go.Vx.strMax) then (bif Decidable.decide ((s3_0 ++ [(115 : UInt8), (116 : UInt8), (97 : UInt8), (116 : UInt8), (101 : UInt8), (32 : UInt8)] ++ v1.fst ++ [(32 : UInt8)] ++ v3.fst ++ [(32 : UInt8)] ++ v4.fst ++ [(32 : UInt8)]).length + j2.length < Go.Vx.strMax) then (bif Decidable.decide ((s3_0 ++ [(115 : UInt8), (116 : UInt8), (97 : UInt8), (116 : UInt8), (101 : UInt8), (32 : UInt8)] ++ v1.fst ++ [(32 : UInt8)] ++ v3.fst ++ [(32 : UInt8)] ++ v4.fst ++ [(32 : UInt8)] ++ j2).length + (1 : Nat) < Go.Vx.strMax) then r0 c1_0 (s3_0 ++ [(115 : UInt8), (116 : UInt8), (97 : UInt8), (116 : UInt8), (101 : UInt8), (32 : UInt8)] ++ v1.fst ++ [(32 : UInt8)] ++ v3.fst ++ [(32 : UInt8)] ++ v4.fst ++ [(32 : UInt8)] ++ j2 ++ [(10 : UInt8)]) (Go.IntKind.i64.wrap (i4_0 + (1 : Int))) else none) else none) else none) else none)) else none) else none)) else none) else none) else none)

noncomputable def yER (n : Nat) (r6 : Cha → List UInt8 → Int → Option (List UInt8 × Unit)) (c1_6 : Cha) (s3_6 : List UInt8) (i7_6 : Int) : Option (List UInt8 × Unit) :=
  (bif Decidable.decide (i7_6 < (↑c1_6.snd.fst.length : Int)) then (Option.bind (Go.Vx.idx c1_6.snd.fst i7_6) fun (v7 : Tra) => (bif Decidable.decide (s3_6.length + (5 : Nat) < Go.Vx.strMax) then (Option.bind (Go.Tw.yJZ v7.fst) fun (v8 : List UInt8 × Unit) => (bif Decidable.decide ((s3_6 ++ [(109 : UInt8), (111 : UInt8), (118 : UInt8), (101 : UInt8), (32 : UInt8)]).length + v8.fst.length < Go.Vx.strMax) then (bif Decidable.decide ((s3_6 ++ [(109 : UInt8), (111 : UInt8), (118 : UInt8), (101 : UInt8), (32 : UInt8)] ++ v8.fst).length + (1 : Nat) < Go.Vx.strMax) then (bif Decidable.decide ((s3_6 ++ [(109 : UInt8), (111 : UInt8), (118 : UInt8), (101 : UInt8), (32 : UInt8)] ++ v8.fst ++ [(32 : UInt8)]).length + v7.snd.fst.length < Go.Vx.strMax) then (bif Decidable.decide ((s3_6 ++ [(109 : UInt8), (111 : UInt8), (118 : UInt8), (101 : UInt8), (32 : UInt8)] ++ v8.fst ++ [(32 : UInt8)] ++ v7.snd.fst).length + (1 : Nat) < Go.Vx.strMax) then (Option.bind (Go.Tw.yJZ v7.snd.snd.fst) fun (v9 : List UInt8 × Unit) => (bif Decidable.decide ((s3_6 ++ [(109 : UInt8), (111 : UInt8), (118 : UInt8), (101 : UInt8), (32 : UInt8)] ++ v8.fst ++ [(32 : UInt8)] ++ v7.snd.fst ++ [(32 : UInt8)]).length + v9.fst.length < Go.Vx.strMax) then (bif Decidable.decide ((s3_6 ++ [(109 : UInt8), (111 : UInt8), (118 : UInt8), (101 : UInt8), (32 : UInt8)] ++ v8.fst ++ [(32 : UInt8)] ++ v7.snd.fst ++ [(32 : UInt8)] ++ v9.fst).length + (1 : Nat) < Go.Vx.strMax) then (Option.bind (Go.Tw.yJZ v7.snd.snd.snd.fst) fun (v10 : List UInt8 × Unit) => (bif Decidable.decide ((s3_6 ++ [(109 : UInt8), (111 : UInt8), (118 : UInt8), (101 : UInt8), (32 : UInt8)] ++ v8.fst ++ [(32 : UInt8)] ++ v7.snd.fst ++ [(32 : UInt8)] ++ v9.fst ++ [(32 : UInt8)]).length + v10.fst.length < Go.Vx.strMax) then (bif Decidable.decide ((s3_6 ++ [(109 : UInt8), (111 : UInt8), (118 : UInt8), (101 : UInt8), (32 : UInt8)] ++ v8.fst ++ [(32 : UInt8)] ++ v7.snd.fst ++ [(32 : UInt8)] ++ v9.fst ++ [(32 : UInt8)] ++ v10.fst).length + (1 : Nat) < Go.Vx.strMax) then (Option.bind (Go.Tw.yJZ v7.snd.snd.snd.snd.fst) fun (v11 : List UInt8 × Unit) => (bif Decidable.decide ((s3_6 ++ [(109 : UInt8), (111 : UInt8), (118 : UInt8), (101 : UInt8), (32 : UInt8)] ++ v8.fst ++ [(32 : UInt8)] ++ v7.snd.fst ++ [(32 : UInt8)] ++ v9.fst ++ [(32 : UInt8)] ++ v10.fst ++ [(32 : UInt8)]).length + v11.fst.length < Go.Vx.strMax) then (bif Decidable.decide ((s3_6 ++ [(109 : UInt8), (111 : UInt8), (118 : UInt8), (101 : UInt8), (32 : UInt8)] ++ v8.fst ++ [(32 : UInt8)] ++ v7.snd.fst ++ [(32 : UInt8)] ++ v9.fst ++ [(32 : UInt8)] ++ v10.fst ++ [(32 : UInt8)] ++ v11.fst).length + (1 : Nat) < Go.Vx.strMax) then r6 c1_6 (s3_6 ++ [(109 : UInt8), (111 : UInt8), (118 : UInt8), (101 : UInt8), (32 : UInt8)] ++ v8.fst ++ [(32 : UInt8)] ++ v7.snd.fst ++ [(32 : UInt8)] ++ v9.fst ++ [(32 : UInt8)] ++ v10.fst ++ [(32 : UInt8)] ++ v11.fst ++ [(10 : UInt8)]) (Go.IntKind.i64.wrap (i7_6 + (1 : Int))) else none) else none)) else none) else none)) else none) else none)) else none) else none) else none) else none)) else none)) else Option.some (s3_6, ()))

noncomputable def y6x (n : Nat)  (k : Nat) (c1_6 : Cha) (s3_6 : List UInt8) (i7_6 : Int) : Option (List UInt8 × Unit) :=
  iter (fun r y => yER n (fun c1_6 s3_6 i7_6 => r ((c1_6, (s3_6, (i7_6, ()))), ((), ()))) y.1.1 y.1.2.1 y.1.2.2.1) k ((c1_6, (s3_6, (i7_6, ()))), ((), ()))

noncomputable def yEh (n : Nat) (r0 : Cha → List UInt8 → Int → Option (List UInt8 × Unit)) (c1_0 : Cha) (s3_0 : List UInt8) (i4_0 : Int) : Option (List UInt8 × Unit) :=
  (bif Decidable.decide (i4_0 < (↑c1_0.fst.length : Int)) then (Option.bind (Go.Vx.idx c1_0.fst i4_0) fun (v1 : Sta) => (bif v1.snd.snd.snd.fst then (yAT n r0 c1_0 s3_0 i4_0 v1 ([(49 : UInt8)])) else (yAT n r0 c1_0 s3_0 i4_0 v1 ([(48 : UInt8)])))) else (y6x n n (c1_0) (s3_0) ((0 : Int))))

noncomputable def y6y (n : Nat)  (k : Nat) (c1_0 : Cha) (s3_0 : List UInt8) (i4_0 : Int) : Option (List UInt8 × Unit) :=
  iter (fun r y => yEh n (fun c1_0 s3_0 i4_0 => r ((c1_0, (s3_0, (i4_0, ()))), ((), ()))) y.1.1 y.1.2.1 y.1.2.2.1) k ((c1_0, (s3_0, (i4_0, ()))), ((), ()))

noncomputable def yK2 (n : Nat) (c : Cha) : Option (List UInt8 × Unit) :=
  (y6y n n (c) ([]) ((0 : Int)))

theorem yPf (n : Nat) (x : yLq.den) : runF yQU (yLG n) Tryz.f11 yLq yPo x = yK2 n x.1 := by kernel_rfl

noncomputable def yBK (c1_0 : Cha) (s3_0 : List UInt8) (i4_0 : Int) (v1 : Sta) (j2 : List UInt8) : Option ((List UInt8 × Unit) ⊕ (List UInt8)) :=
  (bif Decidable.decide (s3_0.length + (6 : Nat) < Go.Vx.strMax) then (bif Decidable.decide ((s3_0 ++ [(115 : UInt8), (116 : UInt8), (97 : UInt8), (116 : UInt8), (101 : UInt8), (32 : UInt8)]).length + v1.fst.length < Go.Vx.strMax) then (bif Decidable.decide ((s3_0 ++ [(115 : UInt8), (116 : UInt8), (97 : UInt8), (116 : UInt8), (101 : UInt8), (32 : UInt8)] ++ v1.fst).length + (1 : Nat) < Go.Vx.strMax) then (Option.bind (Go.Tw.yJZ v1.snd.fst) fun (v3 : List UInt8 × Unit) => (bif Decidable.decide ((s3_0 ++ [(115 : UInt8), (116 : UInt8), (97 : UInt8), (116 : UInt8), (101 : UInt8), (32 : UInt8)] ++ v1.fst ++ [(32 : UInt8)]).length + v3.fst.length < Go.Vx.strMax) then (bif Decidable.decide ((s3_0 ++ [(115 : UInt8), (116 : UInt8), (97 : UInt8), (116 : UInt8), (101 : UInt8), (32 : UInt8)] ++ v1.fst ++ [(32 : UInt8)] ++ v3.fst).length + (1 : Nat) < Go.Vx.strMax) then (Option.bind (Go.Tw.yJZ v1.snd.snd.fst) fun (v4 : List UInt8 × Unit) => (bif Decidable.decide ((s3_0 ++ [(115 : UInt8), (116 : UInt8), (97 : UInt8), (116 : UInt8), (101 : UInt8), (32 : UInt8)] ++ v1.fst ++ [(32 : UInt8)] ++ v3.fst ++ [(32 : UInt8)]).length + v4.fst.length < Go.Vx.strMax) then (bif Decidable.decide ((s3_0 ++ [(115 : UInt8), (116 : UInt8), (97 : UInt8), (116 : UInt8), (101 : UInt8), (32 : UInt8)] ++ v1.fst ++ [(32 : UInt8)] ++ v3.fst ++ [(32 : UInt8)] ++ v4.fst).length + (1 : Nat) < Go.Vx.strMax) then (bif Decidable.decide ((s3_0 ++ [(115 : UInt8), (116 : UInt8), (97 : UInt8), (116 : UInt8), (101 : UInt8), (32 : UInt8)] ++ v1.fst ++ [(32 : UInt8)] ++ v3.fst ++ [(32 : UInt8)] ++ v4.fst ++ [(32 : UInt8)]).length + j2.length < Go.Vx.strMax) then (bif Decidable.decide ((s3_0 ++ [(115 : UInt8), (116 : UInt8), (97 : UInt8), (116 : UInt8), (101 : UInt8), (32 : UInt8)] ++ v1.fst ++ [(32 : UInt8)] ++ v3.fst ++ [(32 : UInt8)] ++ v4.fst ++ [(32 : UInt8)] ++ j2).length + (1 : Nat) < Go.Vx.strMax) then (some (Sum.inr (s3_0 ++ [(115 : UInt8), (116 : UInt8), (97 : UInt8), (116 : UInt8), (101 : UInt8), (32 : UInt8)] ++ v1.fst ++ [(32 : UInt8)] ++ v3.fst ++ [(32 : UInt8)] ++ v4.fst ++ [(32 : UInt8)] ++ j2 ++ [(10 : UInt8)]))) else none) else none) else none) else none)) else none) else none)) else none) else none) else none)

theorem y2q (n : Nat) (hn : big ≤ n)  (r0 : Cha → List UInt8 → Int → Option (List UInt8 × Unit)) (c1_0 : Cha) (s3_0 : List UInt8) (i4_0 : Int) (v1 : Sta) (j2 : List UInt8) : LeF (elim some fun (s__ : (List UInt8)) => r0 c1_0 s__ (Go.IntKind.i64.wrap (i4_0 + 1))) (yBK c1_0 s3_0 i4_0 v1 j2) (yAT n r0 c1_0 s3_0 i4_0 v1 j2) :=
  (y4 (y4 (y4 (yA fun v3 => (y4 (y4 (yA fun v4 => (y4 (y4 (y4 (y4 (y6 rfl) yL) yL) yL) yL)) yL) yL)) yL) yL) yL)

noncomputable def y9M (c1_6 : Cha) (i7_6 : Int) (v7 : Tra) (s3_6 : List UInt8) : Option ((List UInt8 × Unit) ⊕ (List UInt8)) :=
  (bif Decidable.decide (s3_6.length + (5 : Nat) < Go.Vx.strMax) then (Option.bind (Go.Tw.yJZ v7.fst) fun (v8 : List UInt8 × Unit) => (bif Decidable.decide ((s3_6 ++ [(109 : UInt8), (111 : UInt8), (118 : UInt8), (101 : UInt8), (32 : UInt8)]).length + v8.fst.length < Go.Vx.strMax) then (bif Decidable.decide ((s3_6 ++ [(109 : UInt8), (111 : UInt8), (118 : UInt8), (101 : UInt8), (32 : UInt8)] ++ v8.fst).length + (1 : Nat) < Go.Vx.strMax) then (bif Decidable.decide ((s3_6 ++ [(109 : UInt8), (111 : UInt8), (118 : UInt8), (101 : UInt8), (32 : UInt8)] ++ v8.fst ++ [(32 : UInt8)]).length + v7.snd.fst.length < Go.Vx.strMax) then (bif Decidable.decide ((s3_6 ++ [(109 : UInt8), (111 : UInt8), (118 : UInt8), (101 : UInt8), (32 : UInt8)] ++ v8.fst ++ [(32 : UInt8)] ++ v7.snd.fst).length + (1 : Nat) < Go.Vx.strMax) then (Option.bind (Go.Tw.yJZ v7.snd.snd.fst) fun (v9 : List UInt8 × Unit) => (bif Decidable.decide ((s3_6 ++ [(109 : UInt8), (111 : UInt8), (118 : UInt8), (101 : UInt8), (32 : UInt8)] ++ v8.fst ++ [(32 : UInt8)] ++ v7.snd.fst ++ [(32 : UInt8)]).length + v9.fst.length < Go.Vx.strMax) then (bif Decidable.decide ((s3_6 ++ [(109 : UInt8), (111 : UInt8), (118 : UInt8), (101 : UInt8), (32 : UInt8)] ++ v8.fst ++ [(32 : UInt8)] ++ v7.snd.fst ++ [(32 : UInt8)] ++ v9.fst).length + (1 : Nat) < Go.Vx.strMax) then (Option.bind (Go.Tw.yJZ v7.snd.snd.snd.fst) fun (v10 : List UInt8 × Unit) => (bif Decidable.decide ((s3_6 ++ [(109 : UInt8), (111 : UInt8), (118 : UInt8), (101 : UInt8), (32 : UInt8)] ++ v8.fst ++ [(32 : UInt8)] ++ v7.snd.fst ++ [(32 : UInt8)] ++ v9.fst ++ [(32 : UInt8)]).length + v10.fst.length < Go.Vx.strMax) then (bif Decidable.decide ((s3_6 ++ [(109 : UInt8), (111 : UInt8), (118 : UInt8), (101 : UInt8), (32 : UInt8)] ++ v8.fst ++ [(32 : UInt8)] ++ v7.snd.fst ++ [(32 : UInt8)] ++ v9.fst ++ [(32 : UInt8)] ++ v10.fst).length + (1 : Nat) < Go.Vx.strMax) then (Option.bind (Go.Tw.yJZ v7.snd.snd.snd.snd.fst) fun (v11 : List UInt8 × Unit) => (bif Decidable.decide ((s3_6 ++ [(109 : UInt8), (111 : UInt8), (118 : UInt8), (101 : UInt8), (32 : UInt8)] ++ v8.fst ++ [(32 : UInt8)] ++ v7.snd.fst ++ [(32 : UInt8)] ++ v9.fst ++ [(32 : UInt8)] ++ v10.fst ++ [(32 : UInt8)]).length + v11.fst.length < Go.Vx.strMax) then (bif Decidable.decide ((s3_6 ++ [(109 : UInt8), (111 : UInt8), (118 : UInt8), (101 : UInt8), (32 : UInt8)] ++ v8.fst ++ [(32 : UInt8)] ++ v7.snd.fst ++ [(32 : UInt8)] ++ v9.fst ++ [(32 : UInt8)] ++ v10.fst ++ [(32 : UInt8)] ++ v11.fst).length + (1 : Nat) < Go.Vx.strMax) then (some (Sum.inr (s3_6 ++ [(109 : UInt8), (111 : UInt8), (118 : UInt8), (101 : UInt8), (32 : UInt8)] ++ v8.fst ++ [(32 : UInt8)] ++ v7.snd.fst ++ [(32 : UInt8)] ++ v9.fst ++ [(32 : UInt8)] ++ v10.fst ++ [(32 : UInt8)] ++ v11.fst ++ [(10 : UInt8)]))) else none) else none)) else none) else none)) else none) else none)) else none) else none) else none) else none)) else none)

noncomputable def yBF (c1_6 : Cha) (s3_6 : List UInt8) : Option (List UInt8 × Unit) :=
  (some ((s3_6, ())))

theorem yDk (n : Nat) (hn : big ≤ n)  (c1_6 : Cha) (s3_6 : List UInt8) (hx : List.length (c1_6.snd.fst) < lenMax) : LeF some (yI (fun i__ e__ s__ => y9M c1_6 i__ e__ s__) (fun s__ => yBF c1_6 s__) 0 (c1_6.snd.fst) s3_6) (y6x n n c1_6 s3_6 0) := by
  refine yR (f := some) (W := fun k__ i__ s__ => y6x n k__ c1_6 s__ i__) (body := (fun i__ e__ s__ => y9M c1_6 i__ e__ s__)) (fin := (fun s__ => yBF c1_6 s__)) (fun k__ i__ s__ => ?_) hx s3_6 n (by unfold big at hn; unfold lenMax at hx; omega)
  show LeF _ _ (yER n (y6x n k__) c1_6 s__ i__)
  exact y4 (yA fun v7 => (y4 (yA fun v8 => (y4 (y4 (y4 (y4 (yA fun v9 => (y4 (y4 (yA fun v10 => (y4 (y4 (yA fun v11 => (y4 (y4 (y6 rfl) yL) yL)) yL) yL)) yL) yL)) yL) yL) yL) yL)) yL)) (y0T (y6 rfl))

noncomputable def y9S (c1_0 : Cha) (i4_0 : Int) (v1 : Sta) (s3_0 : List UInt8) : Option ((List UInt8 × Unit) ⊕ (List UInt8)) :=
  (bif v1.snd.snd.snd.fst then (yBK c1_0 s3_0 i4_0 v1 ([(49 : UInt8)])) else (yBK c1_0 s3_0 i4_0 v1 ([(48 : UInt8)])))

noncomputable def y9Z (c1_0 : Cha) (s3_0 : List UInt8) : Option (List UInt8 × Unit) :=
  (bif decide (List.length (c1_0.snd.fst) < lenMax) then yI (fun i__ e__ s__ => y9M (c1_0) i__ e__ s__) (fun s__ => yBF (c1_0) s__) 0 (c1_0.snd.fst) (s3_0) else none)

theorem yDS (n : Nat) (hn : big ≤ n)  (c1_0 : Cha) (s3_0 : List UInt8) (hx : List.length (c1_0.fst) < lenMax) : LeF some (yI (fun i__ e__ s__ => y9S c1_0 i__ e__ s__) (fun s__ => y9Z c1_0 s__) 0 (c1_0.fst) s3_0) (y6y n n c1_0 s3_0 0) := by
  refine yR (f := some) (W := fun k__ i__ s__ => y6y n k__ c1_0 s__ i__) (body := (fun i__ e__ s__ => y9S c1_0 i__ e__ s__)) (fin := (fun s__ => y9Z c1_0 s__)) (fun k__ i__ s__ => ?_) hx s3_0 n (by unfold big at hn; unfold lenMax at hx; omega)
  show LeF _ _ (yEh n (y6y n k__) c1_0 s__ i__)
  exact y4 (yA fun v1 => (y4 (by apply y2q n hn) (by apply y2q n hn))) (y0T (yZ fun hx => by apply yDk n hn; exact hx))

noncomputable def yG3 (c : Cha) : Option (List UInt8 × Unit) :=
  (bif decide (List.length (c.fst) < lenMax) then yI (fun i__ e__ s__ => y9S (c) i__ e__ s__) (fun s__ => y9Z (c) s__) 0 (c.fst) ([]) else none)

theorem yLu (c : Cha) (y : List UInt8 × Unit) (h : yG3 c = some y) : ∃ n, yK2 n c = some y :=
  ⟨big, LeF.top (show LeF some (yG3 c) (yK2 big c) from (fun (n : Nat) (hn : big ≤ n) => show LeF some (yG3 c) (yK2 n c) from (yZ fun hx => by apply yDS n hn; exact hx)) big (Nat.le_refl _)) h⟩
noncomputable def z0h_e : Entry := { f := 11, args := yLq, rS := yPo, m := fun x => yG3 x.1 }
theorem yOf : FnOK Tryz.prog z0h_e := y1x (g := yQU) (fn := Tryz.f11) y0M y1t (yB yPI eNil) (by kernel_rfl) (by kernel_rfl) (by kernel_rfl) (fun x y h => let ⟨n, hn⟩ := yLu x.1 y h; ⟨yLG n, iNil, (yPf n x).trans hn⟩)

/-! ### strings.CutSuffix -/
abbrev zl_a : Ty := .pair t9 (.pair t9 .unit)
abbrev zl_r : Ty := .pair t9 (.pair t4 .unit)
noncomputable def zl_g : G := { T := T, E := [zB_e], mU := [], fz := [] }
def zl_k : List (List Nat) := []
noncomputable def yOz (n : Nat) : Ann := { keep := zl_k, fuel := n, inl := [], deep := 0 }
noncomputable def zl_m (n : Nat) (s : List UInt8) (suffix : List UInt8) : Option (List UInt8 × Bool × Unit) :=
  (Option.bind (Go.Tw.zB_M s suffix) fun (v0 : List UInt8 × Bool × Unit) => Option.some (v0.fst, v0.snd.fst, ()))

theorem yRr (n : Nat) (x : zl_a.den) : runF zl_g (yOz n) Tryz.f42 zl_a zl_r x = zl_m n x.1 x.2.1 := by kernel_rfl

noncomputable def zl_M (s : List UInt8) (suffix : List UInt8) : Option (List UInt8 × Bool × Unit) := zl_m 0 s suffix

theorem yO6 (s : List UInt8) (suffix : List UInt8) (y : List UInt8 × Bool × Unit) (h : zl_M s suffix = some y) : ∃ n, zl_m n s suffix = some y := ⟨0, h⟩
noncomputable def zl_e : Entry := { f := 42, args := zl_a, rS := zl_r, m := fun x => zl_M x.1 x.2.1 }
theorem yR7 : FnOK Tryz.prog zl_e := y1x (g := zl_g) (fn := Tryz.f42) y0M y1t (yB yRB eNil) (by kernel_rfl) (by kernel_rfl) (by kernel_rfl) (fun x y h => let ⟨n, hn⟩ := yO6 x.1 x.2.1 y h; ⟨yOz n, iNil, (yRr n x).trans hn⟩)

/-! ### tidewayref06.numbers -/
abbrev yMm : Ty := .pair t51 .unit
abbrev yOn : Ty := .pair t45 (.pair t4 .unit)
noncomputable def yP5 : G := { T := T, E := [z0R_e], mU := [4], fz := [] }
def yQx : List (List Nat) := [[0, 4, 5]]
noncomputable def yLB (n : Nat) : Ann := { keep := yQx, fuel := n, inl := [], deep := 0 }
noncomputable def yE6 (n : Nat) (r0 : List (List UInt8) → Int → List Int → Option (List Int × Bool × Unit)) (w0_0 : List (List UInt8)) (i5_0 : Int) (c0_0 : List Int) : Option (List Int × Bool × Unit) :=
  (bif Decidable.decide (i5_0 < (↑w0_0.length : Int)) then (Option.bind (Go.Vx.idx w0_0 i5_0) fun (v1 : List UInt8) => (Option.bind (Go.Tw.yKR v1) fun (v2 : Int × Bool × Unit) => (bif !v2.snd.fst then Option.some ([], Bool.false, ()) else (bif Decidable.decide (c0_0.length + (1 : Nat) ≤ Go.Vx.memMax) then r0 w0_0 (Go.IntKind.i64.wrap (i5_0 + (1 : Int))) (c0_0 ++ [v2.fst]) else none)))) else Option.some (c0_0, Bool.true, ()))

noncomputable def y7T (n : Nat)  (k : Nat) (w0_0 : List (List UInt8)) (i5_0 : Int) (c0_0 : List Int) : Option (List Int × Bool × Unit) :=
  iter (fun r y => yE6 n (fun w0_0 i5_0 c0_0 => r ((w0_0, (i5_0, ())), ((c0_0, ()), ()))) y.1.1 y.1.2.1 y.2.1.1) k ((w0_0, (i5_0, ())), ((c0_0, ()), ()))

noncomputable def yK3 (n : Nat) (w : List (List UInt8)) : Option (List Int × Bool × Unit) :=
  (y7T n n (w) ((0 : Int)) ([]))

theorem yPg (n : Nat) (x : yMm.den) : runF yP5 (yLB n) Tryz.f53 yMm yOn x = yK3 n x.1 := by kernel_rfl

noncomputable def y6b (w0_0 : List (List UInt8)) (i5_0 : Int) (v1 : List UInt8) (c0_0 : List Int) : Option ((List Int × Bool × Unit) ⊕ (List Int)) :=
  (Option.bind (Go.Tw.yKR v1) fun (v2 : Int × Bool × Unit) => (bif !v2.snd.fst then (some (Sum.inl (([], Bool.false, ())))) else (bif Decidable.decide (c0_0.length + (1 : Nat) ≤ Go.Vx.memMax) then (some (Sum.inr (c0_0 ++ [v2.fst]))) else none)))

noncomputable def yBS (w0_0 : List (List UInt8)) (c0_0 : List Int) : Option (List Int × Bool × Unit) :=
  (some ((c0_0, Bool.true, ())))

theorem yCu (n : Nat) (hn : big ≤ n)  (w0_0 : List (List UInt8)) (c0_0 : List Int) (hx : List.length (w0_0) < lenMax) : LeF some (yI (fun i__ e__ s__ => y6b w0_0 i__ e__ s__) (fun s__ => yBS w0_0 s__) 0 (w0_0) c0_0) (y7T n n w0_0 0 c0_0) := by
  refine yR (f := some) (W := fun k__ i__ s__ => y7T n k__ w0_0 i__ s__) (body := (fun i__ e__ s__ => y6b w0_0 i__ e__ s__)) (fin := (fun s__ => yBS w0_0 s__)) (fun k__ i__ s__ => ?_) hx c0_0 n (by unfold big at hn; unfold lenMax at hx; omega)
  show LeF _ _ (yE6 n (y7T n k__) w0_0 i__ s__)
  exact y4 (yA fun v1 => (yA fun v2 => (y4 (y6 rfl) (y4 (y6 rfl) yL)))) (y0T (y6 rfl))

noncomputable def yFl (w : List (List UInt8)) : Option (List Int × Bool × Unit) :=
  (bif decide (List.length (w) < lenMax) then yI (fun i__ e__ s__ => y6b (w) i__ e__ s__) (fun s__ => yBS (w) s__) 0 (w) ([]) else none)

theorem yMa (w : List (List UInt8)) (y : List Int × Bool × Unit) (h : yFl w = some y) : ∃ n, yK3 n w = some y :=
  ⟨big, LeF.top (show LeF some (yFl w) (yK3 big w) from (fun (n : Nat) (hn : big ≤ n) => show LeF some (yFl w) (yK3 n w) from (yZ fun hx => by apply yCu n hn; exact hx)) big (Nat.le_refl _)) h⟩
noncomputable def z0D_e : Entry := { f := 53, args := yMm, rS := yOn, m := fun x => yFl x.1 }
theorem yPl : FnOK Tryz.prog z0D_e := y1x (g := yP5) (fn := Tryz.f53) y0M y1t (yB yQS eNil) (by kernel_rfl) (by kernel_rfl) (by kernel_rfl) (fun x y h => let ⟨n, hn⟩ := yMa x.1 y h; ⟨yLB n, iNil, (yPg n x).trans hn⟩)

/-! ### strings.CutPrefix -/
abbrev zk_a : Ty := .pair t9 (.pair t9 .unit)
abbrev zk_r : Ty := .pair t9 (.pair t4 .unit)
noncomputable def zk_g : G := { T := T, E := [zA_e], mU := [], fz := [] }
def zk_k : List (List Nat) := []
noncomputable def yP8 (n : Nat) : Ann := { keep := zk_k, fuel := n, inl := [], deep := 0 }
noncomputable def zk_m (n : Nat) (s : List UInt8) (p1 : List UInt8) : Option (List UInt8 × Bool × Unit) :=
  (Option.bind (Go.Tw.zA_M s p1) fun (v0 : List UInt8 × Bool × Unit) => Option.some (v0.fst, v0.snd.fst, ()))

theorem yRc (n : Nat) (x : zk_a.den) : runF zk_g (yP8 n) Tryz.f144 zk_a zk_r x = zk_m n x.1 x.2.1 := by kernel_rfl

noncomputable def zk_M (s : List UInt8) (p1 : List UInt8) : Option (List UInt8 × Bool × Unit) := zk_m 0 s p1

theorem yQV (s : List UInt8) (p1 : List UInt8) (y : List UInt8 × Bool × Unit) (h : zk_M s p1 = some y) : ∃ n, zk_m n s p1 = some y := ⟨0, h⟩
noncomputable def zk_e : Entry := { f := 144, args := zk_a, rS := zk_r, m := fun x => zk_M x.1 x.2.1 }
theorem yRP : FnOK Tryz.prog zk_e := y1x (g := zk_g) (fn := Tryz.f144) y0M y1t (yB yS4 eNil) (by kernel_rfl) (by kernel_rfl) (by kernel_rfl) (fun x y h => let ⟨n, hn⟩ := yQV x.1 x.2.1 y h; ⟨yP8 n, iNil, (yRc n x).trans hn⟩)

end Go.Tw
end

section
set_option linter.all false
set_option maxRecDepth 1000000
namespace Go.Tw
open Go.Vx Go.Vx.B Go.Proofs
/-! ### tidewayref06.Parse -/
abbrev yNb : Ty := .pair t9 .unit
abbrev yQ9 : Ty := .pair t25 (.pair t3 (.pair t3 .unit))
noncomputable def yPK : G := { T := T, E := [z0f_e, z0D_e, zu_e], mU := [5], fz := [] }
def yQr : List (List Nat) := [[2, 5, 6, 7]]
noncomputable def yKw (n : Nat) : Ann := { keep := yQr, fuel := n, inl := [], deep := 0 }
noncomputable def y2A (n : Nat) (r1 : List (List UInt8) → Int → List Sta → List Tra → Option (Cha × Int × Int × Unit)) (lines6_1 : List (List UInt8)) (i7_1 : Int) (c2_1 : List Sta) (c3_1 : List Tra) (v4 : List (List UInt8) × Unit) (j16 : Bool) : Option (Cha × Int × Int × Unit) :=
  (bif j16 then (bif Decidable.decide ((0 : Int) ≤ (2 : Int)) && Decidable.decide ((2 : Int) ≤ (4 : Int)) && Decidable.decide ((4 : Int) ≤ (↑v4.fst.length : Int)) then (Option.bind (Go.Tw.yFl (List.drop (Int.toNat (2 : Int)) (List.take (Int.toNat (4 : Int)) v4.fst))) fun (v17 : List Int × Bool × Unit) => (bif !v17.snd.fst then Option.some (([], [], ()), i7_1, (26 : Int), ()) else (Option.bind (Go.Vx.idx v4.fst (1 : Int)) fun (v18 : List UInt8) => (Option.bind (Go.Vx.idx v17.fst (0 : Int)) fun (v19 : Int) => (Option.bind (Go.Vx.idx v17.fst (1 : Int)) fun (v20 : Int) => (Option.bind (Go.Vx.idx v4.fst (4 : Int)) fun (v21 : List UInt8) => (bif Decidable.decide (c2_1.length + (1 : Nat) ≤ Go.Vx.memMax) then r1 lines6_1 (Go.IntKind.i64.wrap (i7_1 + (1 : Int))) (c2_1 ++ [(v18, v19, v20, v21 == [(49 : UInt8)], ())]) c3_1 else none))))))) else none) else (bif (↑v4.fst.length : Int) != (6 : Int) then Option.some (([], [], ()), i7_1, (26 : Int), ()) else (Option.bind (Go.Vx.idx v4.fst (0 : Int)) fun (v23 : List UInt8) => (bif !v23 == [(109 : UInt8), (111 : UInt8), (118 : UInt8), (101 : UInt8)] then Option.some (([], [], ()), i7_1, (26 : Int), ()) else (Option.bind (Go.Vx.idx v4.fst (2 : Int)) fun (v24 : List UInt8) => (bif v24 == [] then Option.some (([], [], ()), i7_1, (26 : Int), ()) else (Option.bind (Go.Vx.idx v4.fst (1 : Int)) fun (v29 : List UInt8) => (Option.bind (Go.Vx.idx v4.fst (3 : Int)) fun (v30 : List UInt8) => (Option.bind (Go.Vx.idx v4.fst (4 : Int)) fun (v31 : List UInt8) => (Option.bind (Go.Vx.idx v4.fst (5 : Int)) fun (v32 : List UInt8) => (Option.bind (Go.Tw.yFl [v29, v30, v31, v32]) fun (v33 : List Int × Bool × Unit) => (bif !v33.snd.fst then Option.some (([], [], ()), i7_1, (26 : Int), ()) else (Option.bind (Go.Vx.idx v33.fst (0 : Int)) fun (v34 : Int) => (Option.bind (Go.Vx.idx v4.fst (2 : Int)) fun (v35 : List UInt8) => (Option.bind (Go.Vx.idx v33.fst (1 : Int)) fun (v36 : Int) => (Option.bind (Go.Vx.idx v33.fst (2 : Int)) fun (v37 : Int) => (Option.bind (Go.Vx.idx v33.fst (3 : Int)) fun (v38 : Int) => (bif Decidable.decide (c3_1.length + (1 : Nat) ≤ Go.Vx.memMax) then r1 lines6_1 (Go.IntKind.i64.wrap (i7_1 + (1 : Int))) c2_1 (c3_1 ++ [(v34, v35, v36, v37, v38, ())]) else none))))))))))))))))))

noncomputable def yEb (n : Nat) (r1 : List (List UInt8) → Int → List Sta → List Tra → Option (Cha × Int × Int × Unit)) (lines6_1 : List (List UInt8)) (i7_1 : Int) (c2_1 : List Sta) (c3_1 : List Tra) : Option (Cha × Int × Int × Unit) :=
  (bif Decidable.decide (i7_1 < (↑lines6_1.length : Int)) then (bif i7_1 == Go.IntKind.i64.wrap ((↑lines6_1.length : Int) - (1 : Int)) then (Option.bind (Go.Vx.idx lines6_1 i7_1) fun (v2 : List UInt8) => (bif !v2 == [] then Option.some (([], [], ()), i7_1, (26 : Int), ()) else r1 lines6_1 (Go.IntKind.i64.wrap (i7_1 + (1 : Int))) c2_1 c3_1)) else (Option.bind (Go.Vx.idx lines6_1 i7_1) fun (v3 : List UInt8) => (Option.bind (Go.Tw.yFf v3 (32 : Int)) fun (v4 : List (List UInt8) × Unit) => (bif (↑v4.fst.length : Int) == (5 : Int) then (Option.bind (Go.Vx.idx v4.fst (0 : Int)) fun (v5 : List UInt8) => (bif v5 == [(115 : UInt8), (116 : UInt8), (97 : UInt8), (116 : UInt8), (101 : UInt8)] then (Option.bind (Go.Vx.idx v4.fst (1 : Int)) fun (v6 : List UInt8) => (bif !v6 == [] then (Option.bind (Go.Vx.idx v4.fst (4 : Int)) fun (v7 : List UInt8) => (bif v7 == [(48 : UInt8)] then (y2A n r1 lines6_1 i7_1 c2_1 c3_1 v4 ((↑c3_1.length : Int) == (0 : Int))) else (Option.bind (Go.Vx.idx v4.fst (4 : Int)) fun (v8 : List UInt8) => (bif v8 == [(49 : UInt8)] then (y2A n r1 lines6_1 i7_1 c2_1 c3_1 v4 ((↑c3_1.length : Int) == (0 : Int))) else (y2A n r1 lines6_1 i7_1 c2_1 c3_1 v4 (Bool.false)))))) else (y2A n r1 lines6_1 i7_1 c2_1 c3_1 v4 (Bool.false)))) else (y2A n r1 lines6_1 i7_1 c2_1 c3_1 v4 (Bool.false)))) else (y2A n r1 lines6_1 i7_1 c2_1 c3_1 v4 (Bool.false)))))) else (Option.bind (Go.Tw.zu_M (c2_1, c3_1, ())) fun (v39 : Int × Unit) => (bif v39.fst != (0 : Int) then Option.some (([], [], ()), Go.IntKind.i64.wrap ((↑lines6_1.length : Int) - (1 : Int)), v39.fst, ()) else Option.some ((c2_1, c3_1, ()), (0 : Int), (0 : Int), ()))))

noncomputable def y6r (n : Nat)  (k : Nat) (lines6_1 : List (List UInt8)) (i7_1 : Int) (c2_1 : List Sta) (c3_1 : List Tra) : Option (Cha × Int × Int × Unit) :=
  iter (fun r y => yEb n (fun lines6_1 i7_1 c2_1 c3_1 => r ((lines6_1, (i7_1, ())), (((), ((), (c2_1, (c3_1, ())))), ()))) y.1.1 y.1.2.1 y.2.1.2.2.1 y.2.1.2.2.2.1) k ((lines6_1, (i7_1, ())), (((), ((), (c2_1, (c3_1, ())))), ()))

noncomputable def yKG (n : Nat) (s : List UInt8) : Option (Cha × Int × Int × Unit) :=
  (bif Decidable.decide ((↑s.length : Int) > (1000000 : Int)) then Option.some (([], [], ()), (0 : Int), (27 : Int), ()) else (Option.bind (Go.Tw.yFf s (10 : Int)) fun (v0 : List (List UInt8) × Unit) => (y6r n n (v0.fst) ((0 : Int)) ([]) ([]))))

theorem yNy (n : Nat) (x : yNb.den) : runF yPK (yKw n) Tryz.f12 yNb yQ9 x = yKG n x.1 := by kernel_rfl

noncomputable def y1r (lines6_1 : List (List UInt8)) (i7_1 : Int) (c2_1 : List Sta) (c3_1 : List Tra) (v4 : List (List UInt8) × Unit) (j16 : Bool) : Option ((Cha × Int × Int × Unit) ⊕ ((List Sta) × (List Tra))) :=
  (bif j16 then (bif Decidable.decide ((0 : Int) ≤ (2 : Int)) && Decidable.decide ((2 : Int) ≤ (4 : Int)) && Decidable.decide ((4 : Int) ≤ (↑v4.fst.length : Int)) then (Option.bind (Go.Tw.yFl (List.drop (Int.toNat (2 : Int)) (List.take (Int.toNat (4 : Int)) v4.fst))) fun (v17 : List Int × Bool × Unit) => (bif !v17.snd.fst then (some (Sum.inl ((([], [], ()), i7_1, (26 : Int), ())))) else (Option.bind (Go.Vx.idx v4.fst (1 : Int)) fun (v18 : List UInt8) => (Option.bind (Go.Vx.idx v17.fst (0 : Int)) fun (v19 : Int) => (Option.bind (Go.Vx.idx v17.fst (1 : Int)) fun (v20 : Int) => (Option.bind (Go.Vx.idx v4.fst (4 : Int)) fun (v21 : List UInt8) => (bif Decidable.decide (c2_1.length + (1 : Nat) ≤ Go.Vx.memMax) then (some (Sum.inr ((c2_1 ++ [(v18, v19, v20, v21 == [(49 : UInt8)], ())]), (c3_1)))) else none))))))) else none) else (bif (↑v4.fst.length : Int) != (6 : Int) then (some (Sum.inl ((([], [], ()), i7_1, (26 : Int), ())))) else (Option.bind (Go.Vx.idx v4.fst (0 : Int)) fun (v23 : List UInt8) => (bif !v23 == [(109 : UInt8), (111 : UInt8), (118 : UInt8), (101 : UInt8)] then (some (Sum.inl ((([], [], ()), i7_1, (26 : Int), ())))) else (Option.bind (Go.Vx.idx v4.fst (2 : Int)) fun (v24 : List UInt8) => (bif v24 == [] then (some (Sum.inl ((([], [], ()), i7_1, (26 : Int), ())))) else (Option.bind (Go.Vx.idx v4.fst (1 : Int)) fun (v29 : List UInt8) => (Option.bind (Go.Vx.idx v4.fst (3 : Int)) fun (v30 : List UInt8) => (Option.bind (Go.Vx.idx v4.fst (4 : Int)) fun (v31 : List UInt8) => (Option.bind (Go.Vx.idx v4.fst (5 : Int)) fun (v32 : List UInt8) => (Option.bind (Go.Tw.yFl [v29, v30, v31, v32]) fun (v33 : List Int × Bool × Unit) => (bif !v33.snd.fst then (some (Sum.inl ((([], [], ()), i7_1, (26 : Int), ())))) else (Option.bind (Go.Vx.idx v33.fst (0 : Int)) fun (v34 : Int) => (Option.bind (Go.Vx.idx v4.fst (2 : Int)) fun (v35 : List UInt8) => (Option.bind (Go.Vx.idx v33.fst (1 : Int)) fun (v36 : Int) => (Option.bind (Go.Vx.idx v33.fst (2 : Int)) fun (v37 : Int) => (Option.bind (Go.Vx.idx v33.fst (3 : Int)) fun (v38 : Int) => (bif Decidable.decide (c3_1.length + (1 : Nat) ≤ Go.Vx.memMax) then (some (Sum.inr ((c2_1), (c3_1 ++ [(v34, v35, v36, v37, v38, ())])))) else none))))))))))))))))))

theorem yz (n : Nat) (hn : big ≤ n)  (r1 : List (List UInt8) → Int → List Sta → List Tra → Option (Cha × Int × Int × Unit)) (lines6_1 : List (List UInt8)) (i7_1 : Int) (c2_1 : List Sta) (c3_1 : List Tra) (v4 : List (List UInt8) × Unit) (j16 : Bool) : LeF (elim some fun (s__ : ((List Sta) × (List Tra))) => r1 lines6_1 (Go.IntKind.i64.wrap (i7_1 + 1)) s__.1 s__.2) (y1r lines6_1 i7_1 c2_1 c3_1 v4 j16) (y2A n r1 lines6_1 i7_1 c2_1 c3_1 v4 j16) :=
  (y4 (y4 (yA fun v17 => (y4 (y6 rfl) (yA fun v18 => (yA fun v19 => (yA fun v20 => (yA fun v21 => (y4 (y6 rfl) yL))))))) yL) (y4 (y6 rfl) (yA fun v23 => (y4 (y6 rfl) (yA fun v24 => (y4 (y6 rfl) (yA fun v29 => (yA fun v30 => (yA fun v31 => (yA fun v32 => (yA fun v33 => (y4 (y6 rfl) (yA fun v34 => (yA fun v35 => (yA fun v36 => (yA fun v37 => (yA fun v38 => (y4 (y6 rfl) yL))))))))))))))))))

noncomputable def y4i (lines6_1 : List (List UInt8)) (i7_1 : Int) (c2_1 : List Sta) (c3_1 : List Tra) : Option ((Cha × Int × Int × Unit) ⊕ ((List Sta) × (List Tra))) :=
  (bif i7_1 == Go.IntKind.i64.wrap ((↑lines6_1.length : Int) - (1 : Int)) then (Option.bind (Go.Vx.idx lines6_1 i7_1) fun (v2 : List UInt8) => (bif !v2 == [] then (some (Sum.inl ((([], [], ()), i7_1, (26 : Int), ())))) else (some (Sum.inr ((c2_1), (c3_1)))))) else (Option.bind (Go.Vx.idx lines6_1 i7_1) fun (v3 : List UInt8) => (Option.bind (Go.Tw.yFf v3 (32 : Int)) fun (v4 : List (List UInt8) × Unit) => (bif (↑v4.fst.length : Int) == (5 : Int) then (Option.bind (Go.Vx.idx v4.fst (0 : Int)) fun (v5 : List UInt8) => (bif v5 == [(115 : UInt8), (116 : UInt8), (97 : UInt8), (116 : UInt8), (101 : UInt8)] then (Option.bind (Go.Vx.idx v4.fst (1 : Int)) fun (v6 : List UInt8) => (bif !v6 == [] then (Option.bind (Go.Vx.idx v4.fst (4 : Int)) fun (v7 : List UInt8) => (bif v7 == [(48 : UInt8)] then (y1r lines6_1 i7_1 c2_1 c3_1 v4 ((↑c3_1.length : Int) == (0 : Int))) else (Option.bind (Go.Vx.idx v4.fst (4 : Int)) fun (v8 : List UInt8) => (bif v8 == [(49 : UInt8)] then (y1r lines6_1 i7_1 c2_1 c3_1 v4 ((↑c3_1.length : Int) == (0 : Int))) else (y1r lines6_1 i7_1 c2_1 c3_1 v4 (Bool.false)))))) else (y1r lines6_1 i7_1 c2_1 c3_1 v4 (Bool.false)))) else (y1r lines6_1 i7_1 c2_1 c3_1 v4 (Bool.false)))) else (y1r lines6_1 i7_1 c2_1 c3_1 v4 (Bool.false))))))

noncomputable def yBA (lines6_1 : List (List UInt8)) (c2_1 : List Sta) (c3_1 : List Tra) : Option (Cha × Int × Int × Unit) :=
  (Option.bind (Go.Tw.zu_M (c2_1, c3_1, ())) fun (v39 : Int × Unit) => (bif v39.fst != (0 : Int) then (some ((([], [], ()), Go.IntKind.i64.wrap ((↑lines6_1.length : Int) - (1 : Int)), v39.fst, ()))) else (some (((c2_1, c3_1, ()), (0 : Int), (0 : Int), ())))))

theorem yE0 (n : Nat) (hn : big ≤ n)  (lines6_1 : List (List UInt8)) (c2_1 : List Sta) (c3_1 : List Tra) (hx : ((↑lines6_1.length : Int)) ≤ (9223372036854775807 : Int)) : LeF some (y21 (fun i__ s__ => y4i lines6_1 i__ s__.1 s__.2) (fun s__ => yBA lines6_1 s__.1 s__.2) (((↑lines6_1.length : Int)) - 0).toNat 0 (c2_1, c3_1)) (y6r n n lines6_1 0 c2_1 c3_1) := by
  refine y72 (f := some) (W := fun k__ i__ s__ => y6r n k__ lines6_1 i__ s__.1 s__.2) (body := (fun i__ s__ => y4i lines6_1 i__ s__.1 s__.2)) (fin := (fun s__ => yBA lines6_1 s__.1 s__.2)) (fun k__ i__ s__ => ?_) hx (c2_1, c3_1) n 0 (by decide) (by unfold big at hn; omega)
  show LeF _ _ (yEb n (y6r n k__) lines6_1 i__ s__.1 s__.2)
  exact y4 (y4 (yA fun v2 => (y4 (y6 rfl) (y6 rfl))) (yA fun v3 => (yA fun v4 => (y4 (yA fun v5 => (y4 (yA fun v6 => (y4 (yA fun v7 => (y4 (by apply yz n hn) (yA fun v8 => (y4 (by apply yz n hn) (by apply yz n hn))))) (by apply yz n hn))) (by apply yz n hn))) (by apply yz n hn))))) (y0T (yA fun v39 => (y4 (y6 rfl) (y6 rfl))))

noncomputable def yFp (s : List UInt8) : Option (Cha × Int × Int × Unit) :=
  (bif Decidable.decide ((↑s.length : Int) > (1000000 : Int)) then (some ((([], [], ()), (0 : Int), (27 : Int), ()))) else (Option.bind (Go.Tw.yFf s (10 : Int)) fun (v0 : List (List UInt8) × Unit) => (bif decide (((↑v0.fst.length : Int)) ≤ (9223372036854775807 : Int)) then y21 (fun i__ s__ => y4i (v0.fst) i__ s__.1 s__.2) (fun s__ => yBA (v0.fst) s__.1 s__.2) (((↑v0.fst.length : Int)) - 0).toNat 0 (([]), ([])) else none)))

theorem yM4 (s : List UInt8) (y : Cha × Int × Int × Unit) (h : yFp s = some y) : ∃ n, yKG n s = some y :=
  ⟨big, LeF.top (show LeF some (yFp s) (yKG big s) from (fun (n : Nat) (hn : big ≤ n) => show LeF some (yFp s) (yKG n s) from (y4 (y6 rfl) (yA fun v0 => (yZ fun hx => by apply yE0 n hn; exact hx)))) big (Nat.le_refl _)) h⟩
noncomputable def z0g_e : Entry := { f := 12, args := yNb, rS := yQ9, m := fun x => yFp x.1 }
theorem yOt : FnOK Tryz.prog z0g_e := y1x (g := yPK) (fn := Tryz.f12) y0M y1t (yB yPW (yB yPl (yB yPp eNil))) (by kernel_rfl) (by kernel_rfl) (by kernel_rfl) (fun x y h => let ⟨n, hn⟩ := yM4 x.1 y h; ⟨yKw n, iNil, (yNy n x).trans hn⟩)

/-! ### gate.integer -/
abbrev yN0 : Ty := .pair t9 .unit
abbrev yNv : Ty := .pair t3 (.pair t4 .unit)
noncomputable def yOu : G := { T := T, E := [zk_e], mU := [], fz := [] }
def yRk : List (List Nat) := [[4, 5, 6, 16]]
noncomputable def yKy (n : Nat) : Ann := { keep := yRk, fuel := n, inl := [], deep := 0 }
noncomputable def yEH (n : Nat) (r1 : List UInt8 → Bool → Int → List UInt8 → Int → Option (Int × Bool × Unit)) (body4_1 : List UInt8) (minus5_1 : Bool) (n6_1 : Int) (str0__1 : List UInt8) (pos0__1 : Int) : Option (Int × Bool × Unit) :=
  (bif Decidable.decide (pos0__1 < (↑str0__1.length : Int)) then (bif Decidable.decide ((Go.Vx.yh str0__1 pos0__1).fst < (48 : Int)) then Option.some ((0 : Int), Bool.false, ()) else (bif Decidable.decide ((Go.Vx.yh str0__1 pos0__1).fst > (57 : Int)) then Option.some ((0 : Int), Bool.false, ()) else (bif Decidable.decide ((↑body4_1.length : Int) > (9 : Int)) then Option.some ((0 : Int), Bool.false, ()) else r1 body4_1 minus5_1 (Go.IntKind.i64.wrap (Go.IntKind.i64.wrap ((10 : Int) * n6_1) + Go.IntKind.i64.wrap (Go.IntKind.i32.wrap ((Go.Vx.yh str0__1 pos0__1).fst - (48 : Int))))) str0__1 (Go.Vx.yh str0__1 pos0__1).snd))) else (bif !body4_1 == [] then (bif (↑body4_1.length : Int) == (1 : Int) then (bif minus5_1 then Option.some (Go.IntKind.i64.wrap ((0 : Int) - n6_1), Decidable.decide (n6_1 > (0 : Int)), ()) else Option.some (n6_1, Bool.true, ())) else (Option.bind (Go.Vx.idx body4_1 (0 : Int)) fun (v7 : UInt8) => (bif minus5_1 then (bif (↑v7.toNat : Int) != (48 : Int) then Option.some (Go.IntKind.i64.wrap ((0 : Int) - n6_1), Decidable.decide (n6_1 > (0 : Int)), ()) else Option.some (Go.IntKind.i64.wrap ((0 : Int) - n6_1), Bool.false, ())) else Option.some (n6_1, (↑v7.toNat : Int) != (48 : Int), ())))) else (bif minus5_1 then Option.some (Go.IntKind.i64.wrap ((0 : Int) - n6_1), Bool.false, ()) else Option.some (n6_1, Bool.false, ()))))

noncomputable def y6s (n : Nat)  (k : Nat) (body4_1 : List UInt8) (minus5_1 : Bool) (n6_1 : Int) (str0__1 : List UInt8) (pos0__1 : Int) : Option (Int × Bool × Unit) :=
  iter (fun r y => yEH n (fun body4_1 minus5_1 n6_1 str0__1 pos0__1 => r ((body4_1, (minus5_1, (n6_1, ()))), (((str0__1, pos0__1), ()), ()))) y.1.1 y.1.2.1 y.1.2.2.1 y.2.1.1.1 y.2.1.1.2) k ((body4_1, (minus5_1, (n6_1, ()))), (((str0__1, pos0__1), ()), ()))

noncomputable def yK8 (n : Nat) (s : List UInt8) : Option (Int × Bool × Unit) :=
  (Option.bind (Go.Tw.zk_M s [(45 : UInt8)]) fun (v0 : List UInt8 × Bool × Unit) => (y6s n n (v0.fst) (v0.snd.fst) ((0 : Int)) (v0.fst) ((0 : Int))))

theorem yPC (n : Nat) (x : yN0.den) : runF yOu (yKy n) Tryz.f125 yN0 yNv x = yK8 n x.1 := by kernel_rfl

noncomputable def y1v (body4_1 : List UInt8) (minus5_1 : Bool) (str0__1 : List UInt8) (pos0__1 : Int) (n6_1 : Int) : Option ((Int × Bool × Unit) ⊕ (Int)) :=
  (bif Decidable.decide ((Go.Vx.yh str0__1 pos0__1).fst < (48 : Int)) then (some (Sum.inl (((0 : Int), Bool.false, ())))) else (bif Decidable.decide ((Go.Vx.yh str0__1 pos0__1).fst > (57 : Int)) then (some (Sum.inl (((0 : Int), Bool.false, ())))) else (bif Decidable.decide ((↑body4_1.length : Int) > (9 : Int)) then (some (Sum.inl (((0 : Int), Bool.false, ())))) else (some (Sum.inr (Go.IntKind.i64.wrap (Go.IntKind.i64.wrap ((10 : Int) * n6_1) + Go.IntKind.i64.wrap (Go.IntKind.i32.wrap ((Go.Vx.yh str0__1 pos0__1).fst - (48 : Int))))))))))

noncomputable def y53 (body4_1 : List UInt8) (minus5_1 : Bool) (str0__1 : List UInt8) (n6_1 : Int) : Option (Int × Bool × Unit) :=
  (bif !body4_1 == [] then (bif (↑body4_1.length : Int) == (1 : Int) then (bif minus5_1 then (some ((Go.IntKind.i64.wrap ((0 : Int) - n6_1), Decidable.decide (n6_1 > (0 : Int)), ()))) else (some ((n6_1, Bool.true, ())))) else (Option.bind (Go.Vx.idx body4_1 (0 : Int)) fun (v7 : UInt8) => (bif minus5_1 then (bif (↑v7.toNat : Int) != (48 : Int) then (some ((Go.IntKind.i64.wrap ((0 : Int) - n6_1), Decidable.decide (n6_1 > (0 : Int)), ()))) else (some ((Go.IntKind.i64.wrap ((0 : Int) - n6_1), Bool.false, ())))) else (some ((n6_1, (↑v7.toNat : Int) != (48 : Int), ())))))) else (bif minus5_1 then (some ((Go.IntKind.i64.wrap ((0 : Int) - n6_1), Bool.false, ()))) else (some ((n6_1, Bool.false, ())))))

theorem yDj (n : Nat) (hn : big ≤ n)  (body4_1 : List UInt8) (minus5_1 : Bool) (str0__1 : List UInt8) (n6_1 : Int) (hx : List.length (str0__1) < lenMax) : LeF some (y3Z (str0__1) (fun i__ s__ => y1v body4_1 minus5_1 str0__1 i__ s__) (fun s__ => y53 body4_1 minus5_1 str0__1 s__) (List.length (str0__1)) 0 n6_1) (y6s n n body4_1 minus5_1 n6_1 str0__1 0) := by
  refine yF9 (f := some) (W := fun k__ i__ s__ => y6s n k__ body4_1 minus5_1 s__ str0__1 i__) (body := (fun i__ s__ => y1v body4_1 minus5_1 str0__1 i__ s__)) (fin := (fun s__ => y53 body4_1 minus5_1 str0__1 s__)) (fun k__ i__ s__ => ?_) n6_1 n (by unfold big at hn; unfold lenMax at hx; omega)
  show LeF _ _ (yEH n (y6s n k__) body4_1 minus5_1 s__ str0__1 i__)
  exact y4 (y4 (y6 rfl) (y4 (y6 rfl) (y4 (y6 rfl) (y6 rfl)))) (y0T (y4 (y4 (y4 (y6 rfl) (y6 rfl)) (yA fun v7 => (y4 (y4 (y6 rfl) (y6 rfl)) (y6 rfl)))) (y4 (y6 rfl) (y6 rfl))))

noncomputable def yCE (s : List UInt8) : Option (Int × Bool × Unit) :=
  (Option.bind (Go.Tw.zk_M s [(45 : UInt8)]) fun (v0 : List UInt8 × Bool × Unit) => (bif decide (List.length (v0.fst) < lenMax) then y3Z (v0.fst) (fun i__ s__ => y1v (v0.fst) (v0.snd.fst) (v0.fst) i__ s__) (fun s__ => y53 (v0.fst) (v0.snd.fst) (v0.fst) s__) (List.length (v0.fst)) 0 ((0 : Int)) else none))

theorem yMW (s : List UInt8) (y : Int × Bool × Unit) (h : yCE s = some y) : ∃ n, yK8 n s = some y :=
  ⟨big, LeF.top (show LeF some (yCE s) (yK8 big s) from (fun (n : Nat) (hn : big ≤ n) => show LeF some (yCE s) (yK8 n s) from (yA fun v0 => (yZ fun hx => by apply yDj n hn; exact hx))) big (Nat.le_refl _)) h⟩
noncomputable def z0H_e : Entry := { f := 125, args := yN0, rS := yNv, m := fun x => yCE x.1 }
theorem yO5 : FnOK Tryz.prog z0H_e := y1x (g := yOu) (fn := Tryz.f125) y0M y1t (yB yRP eNil) (by kernel_rfl) (by kernel_rfl) (by kernel_rfl) (fun x y h => let ⟨n, hn⟩ := yMW x.1 y h; ⟨yKy n, iNil, (yPC n x).trans hn⟩)

end Go.Tw
end
