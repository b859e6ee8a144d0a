/- Models of the program's functions, by program (gen.py), and what they compute.
Models of the program's functions, by program (gen.py), and what they compute.
Models of the program's functions, by program (gen.py), and what they compute.
Models of the program's functions, by program (gen.py), and what they compute. -/
import Derived.Test.YtimaoihjoojcdaaGreatDoorBT
import Derived.Test.YtimaoihjoojcdaaGreatDoorB0
import Derived.Test.YtimaoihjoojcdaaGreatDoorSA
import Derived.Test.YtimaoihjoojcdaaGreatDoorLQ
import Derived.Test.YtimaoihjoojcdaaGreatDoorLR
import Derived.Test.YtimaoihjoojcdaaGreatDoorBA
import Derived.Test.YtimaoihjoojcdaaGreatDoorBC
import Derived.Test.YtimaoihjoojcdaaGreatDoorBD

section
set_option linter.all false
set_option maxRecDepth 1000000
namespace Go.Tw
open Go.Vx Go.Vx.B Go.Proofs
/-! ### tidewayref06.SameChart -/
abbrev yMA : Ty := .pair t25 (.pair t25 .unit)
abbrev yOs : Ty := .pair t4 .unit
noncomputable def yPr : G := { T := T, E := [], mU := [], fz := [] }
def yRd : List (List Nat) := [[2, 3, 5], [2, 3, 6]]
noncomputable def yL0 (n : Nat) : Ann := { keep := yRd, fuel := n, inl := [], deep := 0 }
noncomputable def yFD (n : Nat) (r5 : Cha → Cha → Int → Option (Bool × Unit)) (a2_5 : Cha) (b3_5 : Cha) (i6_5 : Int) : Option (Bool × Unit) :=
  (bif Decidable.decide (i6_5 < (↑a2_5.snd.fst.length : Int)) then (Option.bind (Go.Vx.idx a2_5.snd.fst i6_5) fun (v6 : Tra) => (Option.bind (Go.Vx.idx b3_5.snd.fst i6_5) fun (v7 : Tra) => (bif !Go.Vx.eqV ((Go.Vx.Ty.int Go.IntKind.i64).pair (Go.Vx.Ty.str.pair ((Go.Vx.Ty.int Go.IntKind.i64).pair ((Go.Vx.Ty.int Go.IntKind.i64).pair ((Go.Vx.Ty.int Go.IntKind.i64).pair Go.Vx.Ty.unit))))) v6 v7 then Option.some (Bool.false, ()) else r5 a2_5 b3_5 (Go.IntKind.i64.wrap (i6_5 + (1 : Int)))))) else Option.some (Bool.true, ()))

noncomputable def y7S (n : Nat)  (k : Nat) (a2_5 : Cha) (b3_5 : Cha) (i6_5 : Int) : Option (Bool × Unit) :=
  iter (fun r y => yFD n (fun a2_5 b3_5 i6_5 => r ((a2_5, (b3_5, (i6_5, ()))), ((), ()))) y.1.1 y.1.2.1 y.1.2.2.1) k ((a2_5, (b3_5, (i6_5, ()))), ((), ()))

noncomputable def yEE (n : Nat) (r2 : Cha → Cha → Int → Option (Bool × Unit)) (a2_2 : Cha) (b3_2 : Cha) (i5_2 : Int) : Option (Bool × Unit) :=
  (bif Decidable.decide (i5_2 < (↑a2_2.fst.length : Int)) then (Option.bind (Go.Vx.idx a2_2.fst i5_2) fun (v3 : Sta) => (Option.bind (Go.Vx.idx b3_2.fst i5_2) fun (v4 : Sta) => (bif !Go.Vx.eqV (Go.Vx.Ty.str.pair ((Go.Vx.Ty.int Go.IntKind.i64).pair ((Go.Vx.Ty.int Go.IntKind.i64).pair (Go.Vx.Ty.bool.pair Go.Vx.Ty.unit)))) v3 v4 then Option.some (Bool.false, ()) else r2 a2_2 b3_2 (Go.IntKind.i64.wrap (i5_2 + (1 : Int)))))) else (y7S n n (a2_2) (b3_2) ((0 : Int))))

noncomputable def y7N (n : Nat)  (k : Nat) (a2_2 : Cha) (b3_2 : Cha) (i5_2 : Int) : Option (Bool × Unit) :=
  iter (fun r y => yEE n (fun a2_2 b3_2 i5_2 => r ((a2_2, (b3_2, (i5_2, ()))), ((), ()))) y.1.1 y.1.2.1 y.1.2.2.1) k ((a2_2, (b3_2, (i5_2, ()))), ((), ()))

noncomputable def yKo (n : Nat) (a : Cha) (b : Cha) : Option (Bool × Unit) :=
  (bif (↑a.fst.length : Int) != (↑b.fst.length : Int) then Option.some (Bool.false, ()) else (bif (↑a.snd.fst.length : Int) != (↑b.snd.fst.length : Int) then Option.some (Bool.false, ()) else (y7N n n (a) (b) ((0 : Int)))))

theorem yOR (n : Nat) (x : yMA.den) : runF yPr (yL0 n) Tryz.f13 yMA yOs x = yKo n x.1 x.2.1 := by kernel_rfl

noncomputable def y9i (a2_5 : Cha) (b3_5 : Cha) (i6_5 : Int) (v6 : Tra) : Option ((Bool × Unit) ⊕ Unit) :=
  (Option.bind (Go.Vx.idx b3_5.snd.fst i6_5) fun (v7 : Tra) => (bif !Go.Vx.eqV ((Go.Vx.Ty.int Go.IntKind.i64).pair (Go.Vx.Ty.str.pair ((Go.Vx.Ty.int Go.IntKind.i64).pair ((Go.Vx.Ty.int Go.IntKind.i64).pair ((Go.Vx.Ty.int Go.IntKind.i64).pair Go.Vx.Ty.unit))))) v6 v7 then (some (Sum.inl ((Bool.false, ())))) else (some (Sum.inr ()))))

noncomputable def yEP (a2_5 : Cha) (b3_5 : Cha) : Option (Bool × Unit) :=
  (some ((Bool.true, ())))

theorem yCs (n : Nat) (hn : big ≤ n)  (a2_5 : Cha) (b3_5 : Cha) (hx : List.length (a2_5.snd.fst) < lenMax) : LeF some (yI (fun i__ e__ s__ => y9i a2_5 b3_5 i__ e__) (fun s__ => yEP a2_5 b3_5) 0 (a2_5.snd.fst) ()) (y7S n n a2_5 b3_5 0) := by
  refine yQ (f := some) (W := fun k__ i__ s__ => y7S n k__ a2_5 b3_5 i__) (body := (fun i__ e__ s__ => y9i a2_5 b3_5 i__ e__)) (fin := (fun s__ => yEP a2_5 b3_5)) (fun k__ i__ s__ => ?_) hx () n (by unfold big at hn; unfold lenMax at hx; omega)
  show LeF _ _ (yFD n (y7S n k__) a2_5 b3_5 i__)
  exact y4 (yA fun v6 => (yA fun v7 => (y4 (y6 rfl) (y6 rfl)))) (y0R (y6 rfl))

noncomputable def y9M (a2_2 : Cha) (b3_2 : Cha) (i5_2 : Int) (v3 : Sta) : Option ((Bool × Unit) ⊕ Unit) :=
  (Option.bind (Go.Vx.idx b3_2.fst i5_2) fun (v4 : Sta) => (bif !Go.Vx.eqV (Go.Vx.Ty.str.pair ((Go.Vx.Ty.int Go.IntKind.i64).pair ((Go.Vx.Ty.int Go.IntKind.i64).pair (Go.Vx.Ty.bool.pair Go.Vx.Ty.unit)))) v3 v4 then (some (Sum.inl ((Bool.false, ())))) else (some (Sum.inr ()))))

noncomputable def yCV (a2_2 : Cha) (b3_2 : Cha) : Option (Bool × Unit) :=
  (bif decide (List.length (a2_2.snd.fst) < lenMax) then yI (fun i__ e__ s__ => y9i (a2_2) (b3_2) i__ e__) (fun s__ => yEP (a2_2) (b3_2)) 0 (a2_2.snd.fst) () else none)

theorem yCl (n : Nat) (hn : big ≤ n)  (a2_2 : Cha) (b3_2 : Cha) (hx : List.length (a2_2.fst) < lenMax) : LeF some (yI (fun i__ e__ s__ => y9M a2_2 b3_2 i__ e__) (fun s__ => yCV a2_2 b3_2) 0 (a2_2.fst) ()) (y7N n n a2_2 b3_2 0) := by
  refine yQ (f := some) (W := fun k__ i__ s__ => y7N n k__ a2_2 b3_2 i__) (body := (fun i__ e__ s__ => y9M a2_2 b3_2 i__ e__)) (fin := (fun s__ => yCV a2_2 b3_2)) (fun k__ i__ s__ => ?_) hx () n (by unfold big at hn; unfold lenMax at hx; omega)
  show LeF _ _ (yEE n (y7N n k__) a2_2 b3_2 i__)
  exact y4 (yA fun v3 => (yA fun v4 => (y4 (y6 rfl) (y6 rfl)))) (y0R (yW fun hx => by apply yCs n hn; exact hx))

noncomputable def yD0 (a : Cha) (b : Cha) : Option (Bool × Unit) :=
  (bif (↑a.fst.length : Int) != (↑b.fst.length : Int) then (some ((Bool.false, ()))) else (bif (↑a.snd.fst.length : Int) != (↑b.snd.fst.length : Int) then (some ((Bool.false, ()))) else (bif decide (List.length (a.fst) < lenMax) then yI (fun i__ e__ s__ => y9M (a) (b) i__ e__) (fun s__ => yCV (a) (b)) 0 (a.fst) () else none)))

theorem yLs (a : Cha) (b : Cha) (y : Bool × Unit) (h : yD0 a b = some y) : ∃ n, yKo n a b = some y :=
  ⟨big, LeF.top (show LeF some (yD0 a b) (yKo big a b) from (fun (n : Nat) (hn : big ≤ n) => show LeF some (yD0 a b) (yKo n a b) from (y4 (y6 rfl) (y4 (y6 rfl) (yW fun hx => by apply yCl n hn; exact hx)))) big (Nat.le_refl _)) h⟩
noncomputable def z02_e : Entry := { f := 13, args := yMA, rS := yOs, m := fun x => yD0 x.1 x.2.1 }
theorem yL4 : FnOK Tryz.prog z02_e := y1t (g := yPr) (fn := Tryz.f13) y0I y1i eNil (by kernel_rfl) (by kernel_rfl) (by kernel_rfl) (fun x y h => let ⟨n, hn⟩ := yLs x.1 x.2.1 y h; ⟨yL0 n, iNil, (yOR n x).trans hn⟩)

/-! ### tidewaylaw06.own -/
abbrev yNm : Ty := .pair t34 .unit
abbrev yOD : Ty := .pair t25 .unit
noncomputable def yQr : G := { T := T, E := [], mU := [3], fz := [] }
def ySR : List (List Nat) := [[1, 2, 3, 9, 10, 11], [2, 3, 23, 24, 25]]
noncomputable def yLW (n : Nat) : Ann := { keep := ySR, fuel := n, inl := [], deep := 0 }
noncomputable def yER (n : Nat) (r2 : List Tra → Int → Int → List Sta → List Tra → Option (Cha × Unit)) (t23_2 : List Tra) (t24_2 : Int) (t25_2 : Int) (cs2_2 : List Sta) (cs3_2 : List Tra) : Option (Cha × Unit) :=
  (bif Decidable.decide (t25_2 < t24_2) then (Option.bind (Go.Vx.idx t23_2 t25_2) fun (v3 : Tra) => (bif Decidable.decide (cs3_2.length + (1 : Nat) ≤ Go.Vx.memMax) then r2 t23_2 t24_2 (Go.IntKind.i64.wrap (t25_2 + (1 : Int))) cs2_2 (cs3_2 ++ [(v3.fst, v3.snd.fst, v3.snd.snd.fst, v3.snd.snd.snd.fst, v3.snd.snd.snd.snd.fst, ())]) else none)) else Option.some ((cs2_2, cs3_2, ()), ()))

noncomputable def y6w (n : Nat)  (k : Nat) (t23_2 : List Tra) (t24_2 : Int) (t25_2 : Int) (cs2_2 : List Sta) (cs3_2 : List Tra) : Option (Cha × Unit) :=
  iter (fun r y => yER n (fun t23_2 t24_2 t25_2 cs2_2 cs3_2 => r ((t23_2, (t24_2, (t25_2, ()))), (((), ((), (cs2_2, (cs3_2, ())))), ()))) y.1.1 y.1.2.1 y.1.2.2.1 y.2.1.2.2.1 y.2.1.2.2.2.1) k ((t23_2, (t24_2, (t25_2, ()))), (((), ((), (cs2_2, (cs3_2, ())))), ()))

noncomputable def yF6 (n : Nat) (r0 : Cha → List Sta → Int → Int → List Sta → List Tra → Option (Cha × Unit)) (c1_0 : Cha) (t9_0 : List Sta) (t10_0 : Int) (t11_0 : Int) (cs2_0 : List Sta) (cs3_0 : List Tra) : Option (Cha × Unit) :=
  (bif Decidable.decide (t11_0 < t10_0) then (Option.bind (Go.Vx.idx t9_0 t11_0) fun (v1 : Sta) => (bif Decidable.decide (cs2_0.length + (1 : Nat) ≤ Go.Vx.memMax) then r0 c1_0 t9_0 t10_0 (Go.IntKind.i64.wrap (t11_0 + (1 : Int))) (cs2_0 ++ [(v1.fst, v1.snd.fst, v1.snd.snd.fst, v1.snd.snd.snd.fst, ())]) cs3_0 else none)) else (y6w n n (c1_0.snd.fst) ((↑c1_0.snd.fst.length : Int)) ((0 : Int)) (cs2_0) (cs3_0)))

noncomputable def y7E (n : Nat)  (k : Nat) (c1_0 : Cha) (t9_0 : List Sta) (t10_0 : Int) (t11_0 : Int) (cs2_0 : List Sta) (cs3_0 : List Tra) : Option (Cha × Unit) :=
  iter (fun r y => yF6 n (fun c1_0 t9_0 t10_0 t11_0 cs2_0 cs3_0 => r ((c1_0, (t9_0, (t10_0, (t11_0, ())))), (((), ((), (cs2_0, (cs3_0, ())))), ()))) y.1.1 y.1.2.1 y.1.2.2.1 y.1.2.2.2.1 y.2.1.2.2.1 y.2.1.2.2.2.1) k ((c1_0, (t9_0, (t10_0, (t11_0, ())))), (((), ((), (cs2_0, (cs3_0, ())))), ()))

noncomputable def yKR (n : Nat) (c : Cha) : Option (Cha × Unit) :=
  (y7E n n (c) (c.fst) ((↑c.fst.length : Int)) ((0 : Int)) ([]) ([]))

theorem yQG (n : Nat) (x : yNm.den) : runF yQr (yLW n) Tryz.f14 yNm yOD x = yKR n x.1 := by kernel_rfl

noncomputable def y96 (t23_2 : List Tra) (cs2_2 : List Sta) (t25_2 : Int) (v3 : Tra) (cs3_2 : List Tra) : Option ((Cha × Unit) ⊕ (List Tra)) :=
  (bif Decidable.decide (cs3_2.length + (1 : Nat) ≤ Go.Vx.memMax) then (some (Sum.inr (cs3_2 ++ [(v3.fst, v3.snd.fst, v3.snd.snd.fst, v3.snd.snd.snd.fst, v3.snd.snd.snd.snd.fst, ())]))) else none)

noncomputable def yBa (t23_2 : List Tra) (cs2_2 : List Sta) (cs3_2 : List Tra) : Option (Cha × Unit) :=
  (some (((cs2_2, cs3_2, ()), ())))

theorem yDy (n : Nat) (hn : big ≤ n)  (t23_2 : List Tra) (cs2_2 : List Sta) (cs3_2 : List Tra) (hx : List.length (t23_2) < lenMax) : LeF some (yI (fun i__ e__ s__ => y96 t23_2 cs2_2 i__ e__ s__) (fun s__ => yBa t23_2 cs2_2 s__) 0 (t23_2) cs3_2) (y6w n n t23_2 (List.length (t23_2) : Int) 0 cs2_2 cs3_2) := by
  refine yQ (f := some) (W := fun k__ i__ s__ => y6w n k__ t23_2 (List.length (t23_2) : Int) i__ cs2_2 s__) (body := (fun i__ e__ s__ => y96 t23_2 cs2_2 i__ e__ s__)) (fin := (fun s__ => yBa t23_2 cs2_2 s__)) (fun k__ i__ s__ => ?_) hx cs3_2 n (by unfold big at hn; unfold lenMax at hx; omega)
  show LeF _ _ (yER n (y6w n k__) t23_2 (List.length (t23_2) : Int) i__ cs2_2 s__)
  exact y4 (yA fun v3 => (y4 (y6 rfl) yL)) (y0R (y6 rfl))

noncomputable def y9E (c1_0 : Cha) (t9_0 : List Sta) (cs3_0 : List Tra) (t11_0 : Int) (v1 : Sta) (cs2_0 : List Sta) : Option ((Cha × Unit) ⊕ (List Sta)) :=
  (bif Decidable.decide (cs2_0.length + (1 : Nat) ≤ Go.Vx.memMax) then (some (Sum.inr (cs2_0 ++ [(v1.fst, v1.snd.fst, v1.snd.snd.fst, v1.snd.snd.snd.fst, ())]))) else none)

noncomputable def yCD (c1_0 : Cha) (t9_0 : List Sta) (cs3_0 : List Tra) (cs2_0 : List Sta) : Option (Cha × Unit) :=
  (bif decide (List.length (c1_0.snd.fst) < lenMax) then yI (fun i__ e__ s__ => y96 (c1_0.snd.fst) (cs2_0) i__ e__ s__) (fun s__ => yBa (c1_0.snd.fst) (cs2_0) s__) 0 (c1_0.snd.fst) (cs3_0) else none)

theorem yDd (n : Nat) (hn : big ≤ n)  (c1_0 : Cha) (t9_0 : List Sta) (cs3_0 : List Tra) (cs2_0 : List Sta) (hx : List.length (t9_0) < lenMax) : LeF some (yI (fun i__ e__ s__ => y9E c1_0 t9_0 cs3_0 i__ e__ s__) (fun s__ => yCD c1_0 t9_0 cs3_0 s__) 0 (t9_0) cs2_0) (y7E n n c1_0 t9_0 (List.length (t9_0) : Int) 0 cs2_0 cs3_0) := by
  refine yQ (f := some) (W := fun k__ i__ s__ => y7E n k__ c1_0 t9_0 (List.length (t9_0) : Int) i__ s__ cs3_0) (body := (fun i__ e__ s__ => y9E c1_0 t9_0 cs3_0 i__ e__ s__)) (fin := (fun s__ => yCD c1_0 t9_0 cs3_0 s__)) (fun k__ i__ s__ => ?_) hx cs2_0 n (by unfold big at hn; unfold lenMax at hx; omega)
  show LeF _ _ (yF6 n (y7E n k__) c1_0 t9_0 (List.length (t9_0) : Int) i__ s__ cs3_0)
  exact y4 (yA fun v1 => (y4 (y6 rfl) yL)) (y0R (yW fun hx => by apply yDy n hn; exact hx))

noncomputable def yFu (c : Cha) : Option (Cha × Unit) :=
  (bif decide (List.length (c.fst) < lenMax) then yI (fun i__ e__ s__ => y9E (c) (c.fst) ([]) i__ e__ s__) (fun s__ => yCD (c) (c.fst) ([]) s__) 0 (c.fst) ([]) else none)

theorem yMx (c : Cha) (y : Cha × Unit) (h : yFu c = some y) : ∃ n, yKR n c = some y :=
  ⟨big, LeF.top (show LeF some (yFu c) (yKR big c) from (fun (n : Nat) (hn : big ≤ n) => show LeF some (yFu c) (yKR n c) from (yW fun hx => by apply yDd n hn; exact hx)) big (Nat.le_refl _)) h⟩
noncomputable def z0z_e : Entry := { f := 14, args := yNm, rS := yOD, m := fun x => yFu x.1 }
theorem yL6 : FnOK Tryz.prog z0z_e := y1t (g := yQr) (fn := Tryz.f14) y0I y1i eNil (by kernel_rfl) (by kernel_rfl) (by kernel_rfl) (fun x y h => let ⟨n, hn⟩ := yMx x.1 y h; ⟨yLW n, iNil, (yQG n x).trans hn⟩)

/-! ### tidewayref01.Split -/
abbrev yMd : Ty := .pair t9 (.pair t5 .unit)
abbrev yOf : Ty := .pair t51 .unit
noncomputable def yQV : G := { T := T, E := [], mU := [5], fz := [] }
def ySA : List (List Nat) := [[0, 1, 5, 6, 7]]
noncomputable def yLJ (n : Nat) : Ann := { keep := ySA, fuel := n, inl := [], deep := 0 }
noncomputable def yAv (n : Nat) (r0 : List UInt8 → Int → Int → Int → List (List UInt8) → Option (List (List UInt8) × Unit)) (s0_0 : List UInt8) (c1_0 : Int) (from6_0 : Int) (i7_0 : Int) (cs0_0 : List (List UInt8)) (j3 : Bool) : Option (List (List UInt8) × Unit) :=
  (bif j3 then (bif Decidable.decide ((0 : Int) ≤ from6_0) && Decidable.decide (from6_0 ≤ i7_0) && Decidable.decide (i7_0 ≤ (↑s0_0.length : Int)) then (bif Decidable.decide (cs0_0.length + (1 : Nat) ≤ Go.Vx.memMax) then r0 s0_0 c1_0 (Go.IntKind.i64.wrap (i7_0 + (1 : Int))) (Go.IntKind.i64.wrap (i7_0 + (1 : Int))) (cs0_0 ++ [List.drop from6_0.toNat (List.take i7_0.toNat s0_0)]) else none) else none) else r0 s0_0 c1_0 from6_0 (Go.IntKind.i64.wrap (i7_0 + (1 : Int))) cs0_0)

noncomputable def yFG (n : Nat) (r0 : List UInt8 → Int → Int → Int → List (List UInt8) → Option (List (List UInt8) × Unit)) (s0_0 : List UInt8) (c1_0 : Int) (from6_0 : Int) (i7_0 : Int) (cs0_0 : List (List UInt8)) : Option (List (List UInt8) × Unit) :=
  (bif Decidable.decide (i7_0 ≤ (↑s0_0.length : Int)) then (bif i7_0 == (↑s0_0.length : Int) then (yAv n r0 s0_0 c1_0 from6_0 i7_0 cs0_0 (Bool.true)) else (Option.bind (Go.Vx.idx s0_0 i7_0) fun (v1 : UInt8) => (yAv n r0 s0_0 c1_0 from6_0 i7_0 cs0_0 ((↑v1.toNat : Int) == c1_0)))) else Option.some (cs0_0, ()))

noncomputable def y7R (n : Nat)  (k : Nat) (s0_0 : List UInt8) (c1_0 : Int) (from6_0 : Int) (i7_0 : Int) (cs0_0 : List (List UInt8)) : Option (List (List UInt8) × Unit) :=
  iter (fun r y => yFG n (fun s0_0 c1_0 from6_0 i7_0 cs0_0 => r ((s0_0, (c1_0, (from6_0, (i7_0, ())))), ((cs0_0, ()), ()))) y.1.1 y.1.2.1 y.1.2.2.1 y.1.2.2.2.1 y.2.1.1) k ((s0_0, (c1_0, (from6_0, (i7_0, ())))), ((cs0_0, ()), ()))

noncomputable def yJQ (n : Nat) (s : List UInt8) (c : Int) : Option (List (List UInt8) × Unit) :=
  (y7R n n (s) (c) ((0 : Int)) ((0 : Int)) ([]))

theorem yOh (n : Nat) (x : yMd.den) : runF yQV (yLJ n) Tryz.f52 yMd yOf x = yJQ n x.1 x.2.1 := by kernel_rfl

noncomputable def yI5 (s0_0 : List UInt8) (c1_0 : Int) (from6_0 : Int) (i7_0 : Int) (cs0_0 : List (List UInt8)) (j3 : Bool) : Option ((List (List UInt8) × Unit) ⊕ (Int × List (List UInt8))) :=
  (bif j3 then (bif Decidable.decide ((0 : Int) ≤ from6_0) && Decidable.decide (from6_0 ≤ i7_0) && Decidable.decide (i7_0 ≤ (↑s0_0.length : Int)) then (bif Decidable.decide (cs0_0.length + (1 : Nat) ≤ Go.Vx.memMax) then (some (Sum.inr ((Go.IntKind.i64.wrap (i7_0 + (1 : Int))), (cs0_0 ++ [List.drop from6_0.toNat (List.take i7_0.toNat s0_0)])))) else none) else none) else (some (Sum.inr ((from6_0), (cs0_0)))))

theorem y2h (n : Nat) (hn : big ≤ n)  (r0 : List UInt8 → Int → Int → Int → List (List UInt8) → Option (List (List UInt8) × Unit)) (s0_0 : List UInt8) (c1_0 : Int) (from6_0 : Int) (i7_0 : Int) (cs0_0 : List (List UInt8)) (j3 : Bool) : LeF (elim some fun (s__ : (Int × List (List UInt8))) => r0 s0_0 c1_0 s__.1 (Go.IntKind.i64.wrap (i7_0 + 1)) s__.2) (yI5 s0_0 c1_0 from6_0 i7_0 cs0_0 j3) (yAv n r0 s0_0 c1_0 from6_0 i7_0 cs0_0 j3) :=
  (y4 (y4 (y4 (y6 rfl) yL) yL) (y6 rfl))

noncomputable def yHY (s0_0 : List UInt8) (c1_0 : Int) (i7_0 : Int) (from6_0 : Int) (cs0_0 : List (List UInt8)) : Option ((List (List UInt8) × Unit) ⊕ (Int × List (List UInt8))) :=
  (bif i7_0 == (↑s0_0.length : Int) then (yI5 s0_0 c1_0 from6_0 i7_0 cs0_0 (Bool.true)) else (Option.bind (Go.Vx.idx s0_0 i7_0) fun (v1 : UInt8) => (yI5 s0_0 c1_0 from6_0 i7_0 cs0_0 ((↑v1.toNat : Int) == c1_0))))

noncomputable def yI7 (s0_0 : List UInt8) (c1_0 : Int) (from6_0 : Int) (cs0_0 : List (List UInt8)) : Option (List (List UInt8) × Unit) :=
  (some ((cs0_0, ())))

theorem yDX (n : Nat) (hn : big ≤ n)  (s0_0 : List UInt8) (c1_0 : Int) (from6_0 : Int) (cs0_0 : List (List UInt8)) (hx : ((↑s0_0.length : Int)) ≤ (9223372036854775806 : Int)) : LeF some (y44 (fun i__ s__ => yHY s0_0 c1_0 i__ s__.1 s__.2) (fun s__ => yI7 s0_0 c1_0 s__.1 s__.2) (((↑s0_0.length : Int)) + 1 - 0).toNat 0 (from6_0, cs0_0)) (y7R n n s0_0 c1_0 from6_0 0 cs0_0) := by
  refine yIK (f := some) (W := fun k__ i__ s__ => y7R n k__ s0_0 c1_0 s__.1 i__ s__.2) (body := (fun i__ s__ => yHY s0_0 c1_0 i__ s__.1 s__.2)) (fin := (fun s__ => yI7 s0_0 c1_0 s__.1 s__.2)) (fun k__ i__ s__ => ?_) hx (from6_0, cs0_0) n 0 (by decide) (by unfold big at hn; omega)
  show LeF _ _ (yFG n (y7R n k__) s0_0 c1_0 s__.1 i__ s__.2)
  exact y4 (y4 (by apply y2h n hn) (yA fun v1 => (by apply y2h n hn))) (y0R (y6 rfl))

noncomputable def yKE (s : List UInt8) (c : Int) : Option (List (List UInt8) × Unit) :=
  (bif decide (((↑s.length : Int)) ≤ (9223372036854775806 : Int)) then y44 (fun i__ s__ => yHY (s) (c) i__ s__.1 s__.2) (fun s__ => yI7 (s) (c) s__.1 s__.2) (((↑s.length : Int)) + 1 - 0).toNat 0 (((0 : Int)), ([])) else none)

theorem yNZ (s : List UInt8) (c : Int) (y : List (List UInt8) × Unit) (h : yKE s c = some y) : ∃ n, yJQ n s c = some y :=
  ⟨big, LeF.top (show LeF some (yKE s c) (yJQ big s c) from (fun (n : Nat) (hn : big ≤ n) => show LeF some (yKE s c) (yJQ n s c) from (yW fun hx => by apply yDX n hn; exact hx)) big (Nat.le_refl _)) h⟩
noncomputable def z0g_e : Entry := { f := 52, args := yMd, rS := yOf, m := fun x => yKE x.1 x.2.1 }
theorem yOI : FnOK Tryz.prog z0g_e := y1t (g := yQV) (fn := Tryz.f52) y0I y1i eNil (by kernel_rfl) (by kernel_rfl) (by kernel_rfl) (fun x y h => let ⟨n, hn⟩ := yNZ x.1 x.2.1 y h; ⟨yLJ n, iNil, (yOh n x).trans hn⟩)

/-! ### tidewayref01.Text -/
abbrev yDn : Ty := .pair t3 .unit
abbrev yFp : Ty := .pair t9 .unit
class ref01_Text_Rec where
  f : yDn.den → Option yFp.den
section
variable [ref01_Text_Rec]
noncomputable def yAI : Entry := { f := 96, args := yDn, rS := yFp, m := fun x => ref01_Text_Rec.f x }
noncomputable def yP5 : G := { T := T, E := [yAI], mU := [], fz := [] }
def ySL : List (List Nat) := []
noncomputable def yLI (n : Nat) : Ann := { keep := ySL, fuel := n, inl := [], deep := 0 }
noncomputable def yMX (n : Nat) (np : Int) : Option (List UInt8 × Unit) :=
  (bif Decidable.decide (np > (9 : Int)) then (Option.bind (Go.Tw.ref01_Text_Rec.f (Go.IntKind.i64.wrap (np.tdiv (10 : Int)), ())) fun (v0 : List UInt8 × Unit) => (Option.bind (Go.Tw.ref01_Text_Rec.f (np.tmod (10 : Int), ())) fun (v1 : List UInt8 × Unit) => (bif Decidable.decide (v0.fst.length + v1.fst.length < Go.Vx.strMax) then Option.some (v0.fst ++ v1.fst, ()) else none))) else (bif Decidable.decide (np < (-9 : Int)) then (Option.bind (Go.Tw.ref01_Text_Rec.f (Go.IntKind.i64.wrap (np.tdiv (10 : Int)), ())) fun (v2 : List UInt8 × Unit) => (Option.bind (Go.Tw.ref01_Text_Rec.f (Go.IntKind.i64.wrap ((0 : Int) - np.tmod (10 : Int)), ())) fun (v3 : List UInt8 × Unit) => (bif Decidable.decide (v2.fst.length + v3.fst.length < Go.Vx.strMax) then Option.some (v2.fst ++ v3.fst, ()) else none))) else (bif Decidable.decide (np < (0 : Int)) then (Option.bind (Go.Tw.ref01_Text_Rec.f (Go.IntKind.i64.wrap ((0 : Int) - np), ())) fun (v4 : List UInt8 × Unit) => (bif Decidable.decide ((1 : Nat) + v4.fst.length < Go.Vx.strMax) then Option.some ([(45 : UInt8)] ++ v4.fst, ()) else none)) else Option.some (Go.Vx.y0f [Go.IntKind.u8.wrap (Go.IntKind.i64.wrap ((48 : Int) + np))], ()))))

theorem yPX (n : Nat) (x : yDn.den) : runF yP5 (yLI n) Tryz.f96 yDn yFp x = yMX n x.1 := by kernel_rfl

noncomputable def yQK (np : Int) : Option (List UInt8 × Unit) := yMX 0 np

theorem yMZ (np : Int) (y : List UInt8 × Unit) (h : yQK np = some y) : ∃ n, yMX n np = some y := ⟨0, h⟩
end
/-- The recursion, d deep. -/
noncomputable def y2N (d : Nat) : yDn.den → Option yFp.den := Nat.rec (motive := fun _ => yDn.den → Option yFp.den) (fun _ => none) (fun _ ih x => @yQK ⟨ih⟩ x.1) d
noncomputable def y3D (d : Nat) : Entry := { f := 96, args := yDn, rS := yFp, m := y2N d }
theorem y4j : (d : Nat) → FnOK Tryz.prog (y3D d)
  | 0 => FnOK.none (fn := Tryz.f96) (by kernel_rfl) (by kernel_rfl) (by kernel_rfl)
  | d + 1 => y1t (g := @yP5 ⟨y2N d⟩) (fn := Tryz.f96) (e := y3D (d + 1)) y0I y1i (yB (y4j d) eNil) (by kernel_rfl) (by kernel_rfl) (by kernel_rfl) (fun x y h => let ⟨n, hn⟩ := @yMZ ⟨y2N d⟩ x.1 y h; ⟨yLI n, iNil, (@yPX ⟨y2N d⟩ n x).trans hn⟩)
noncomputable def z0s_e : Entry := y3D 24
theorem yOV : FnOK Tryz.prog z0s_e := y4j 24

/-! ### internal/stringslite.HasSuffix -/
abbrev zD_a : Ty := .pair t9 (.pair t9 .unit)
abbrev zD_r : Ty := .pair t4 .unit
noncomputable def zD_g : G := { T := T, E := [], mU := [], fz := [] }
def zD_k : List (List Nat) := []
noncomputable def yPR (n : Nat) : Ann := { keep := zD_k, fuel := n, inl := [], deep := 0 }
noncomputable def zD_m (n : Nat) (s : List UInt8) (suffix : List UInt8) : Option (Bool × Unit) :=
  (bif Decidable.decide ((↑s.length : Int) ≥ (↑suffix.length : Int)) then (bif Decidable.decide ((0 : Int) ≤ Go.IntKind.i64.wrap ((↑s.length : Int) - (↑suffix.length : Int))) && Decidable.decide (Go.IntKind.i64.wrap ((↑s.length : Int) - (↑suffix.length : Int)) ≤ (↑s.length : Int)) then Option.some (List.drop (Go.IntKind.i64.wrap ((↑s.length : Int) - (↑suffix.length : Int))).toNat s == suffix, ()) else none) else Option.some (Bool.false, ()))

theorem ySM (n : Nat) (x : zD_a.den) : runF zD_g (yPR n) Tryz.f124 zD_a zD_r x = zD_m n x.1 x.2.1 := by kernel_rfl

noncomputable def zD_M (s : List UInt8) (suffix : List UInt8) : Option (Bool × Unit) := zD_m 0 s suffix

theorem yOr (s : List UInt8) (suffix : List UInt8) (y : Bool × Unit) (h : zD_M s suffix = some y) : ∃ n, zD_m n s suffix = some y := ⟨0, h⟩
noncomputable def zD_e : Entry := { f := 124, args := zD_a, rS := zD_r, m := fun x => zD_M x.1 x.2.1 }
theorem yRk : FnOK Tryz.prog zD_e := y1t (g := zD_g) (fn := Tryz.f124) y0I y1i eNil (by kernel_rfl) (by kernel_rfl) (by kernel_rfl) (fun x y h => let ⟨n, hn⟩ := yOr x.1 x.2.1 y h; ⟨yPR n, iNil, (ySM n x).trans hn⟩)

/-! ### internal/stringslite.HasPrefix -/
abbrev zC_a : Ty := .pair t9 (.pair t9 .unit)
abbrev zC_r : Ty := .pair t4 .unit
noncomputable def zC_g : G := { T := T, E := [], mU := [], fz := [] }
def zC_k : List (List Nat) := []
noncomputable def yQC (n : Nat) : Ann := { keep := zC_k, fuel := n, inl := [], deep := 0 }
noncomputable def zC_m (n : Nat) (s : List UInt8) (p1 : List UInt8) : Option (Bool × Unit) :=
  (bif Decidable.decide ((↑s.length : Int) ≥ (↑p1.length : Int)) then (bif Decidable.decide ((0 : Int) ≤ (↑p1.length : Int)) && Decidable.decide ((↑p1.length : Int) ≤ (↑s.length : Int)) then Option.some (List.take (↑p1.length : Int).toNat s == p1, ()) else none) else Option.some (Bool.false, ()))

theorem ySG (n : Nat) (x : zC_a.den) : runF zC_g (yQC n) Tryz.f183 zC_a zC_r x = zC_m n x.1 x.2.1 := by kernel_rfl

noncomputable def zC_M (s : List UInt8) (p1 : List UInt8) : Option (Bool × Unit) := zC_m 0 s p1

theorem yPi (s : List UInt8) (p1 : List UInt8) (y : Bool × Unit) (h : zC_M s p1 = some y) : ∃ n, zC_m n s p1 = some y := ⟨0, h⟩
noncomputable def zC_e : Entry := { f := 183, args := zC_a, rS := zC_r, m := fun x => zC_M x.1 x.2.1 }
theorem yRJ : FnOK Tryz.prog zC_e := y1t (g := zC_g) (fn := Tryz.f183) y0I y1i eNil (by kernel_rfl) (by kernel_rfl) (by kernel_rfl) (fun x y h => let ⟨n, hn⟩ := yPi x.1 x.2.1 y h; ⟨yQC n, iNil, (ySG n x).trans hn⟩)

/-! ### tidewayref01.Number -/
abbrev yM0 : Ty := .pair t9 .unit
abbrev yPn : Ty := .pair t3 (.pair t4 .unit)
noncomputable def yRD : G := { T := T, E := [], mU := [], fz := [] }
def yS9 : List (List Nat) := [[0, 4, 5]]
noncomputable def yL8 (n : Nat) : Ann := { keep := yS9, fuel := n, inl := [], deep := 0 }
noncomputable def yF7 (n : Nat) (r8 : List UInt8 → Int → Int → Option (Int × Bool × Unit)) (s0_8 : List UInt8) (n4_8 : Int) (i5_8 : Int) : Option (Int × Bool × Unit) :=
  (bif Decidable.decide (i5_8 < (↑s0_8.length : Int)) then (Option.bind (Go.Vx.idx s0_8 i5_8) fun (v9 : UInt8) => (bif Decidable.decide ((↑v9.toNat : Int) < (48 : Int)) then Option.some ((0 : Int), Bool.false, ()) else (Option.bind (Go.Vx.idx s0_8 i5_8) fun (v10 : UInt8) => (bif Decidable.decide ((↑v10.toNat : Int) > (57 : Int)) then Option.some ((0 : Int), Bool.false, ()) else (Option.bind (Go.Vx.idx s0_8 i5_8) fun (v13 : UInt8) => r8 s0_8 (Go.IntKind.i64.wrap (Go.IntKind.i64.wrap ((10 : Int) * n4_8) + Go.IntKind.i64.wrap (Go.IntKind.u8.wrap ((↑v13.toNat : Int) - (48 : Int))))) (Go.IntKind.i64.wrap (i5_8 + (1 : Int)))))))) else Option.some (n4_8, Bool.true, ()))

noncomputable def y7V (n : Nat)  (k : Nat) (s0_8 : List UInt8) (n4_8 : Int) (i5_8 : Int) : Option (Int × Bool × Unit) :=
  iter (fun r y => yF7 n (fun s0_8 n4_8 i5_8 => r ((s0_8, (n4_8, (i5_8, ()))), ((), ()))) y.1.1 y.1.2.1 y.1.2.2.1) k ((s0_8, (n4_8, (i5_8, ()))), ((), ()))

noncomputable def y7a (n : Nat) (s : List UInt8) : Option (Int × Bool × Unit) :=
  (y7V n n (s) ((0 : Int)) ((0 : Int)))

noncomputable def yJV (n : Nat) (s : List UInt8) : Option (Int × Bool × Unit) :=
  (bif (↑s.length : Int) == (0 : Int) then Option.some ((0 : Int), Bool.false, ()) else (bif Decidable.decide ((↑s.length : Int) > (9 : Int)) then Option.some ((0 : Int), Bool.false, ()) else (bif Decidable.decide ((↑s.length : Int) > (1 : Int)) then (Option.bind (Go.Vx.idx s (0 : Int)) fun (v0 : UInt8) => (bif (↑v0.toNat : Int) == (48 : Int) then Option.some ((0 : Int), Bool.false, ()) else (y7a n s))) else (y7a n s))))

theorem yPm (n : Nat) (x : yM0.den) : runF yRD (yL8 n) Tryz.f129 yM0 yPn x = yJV n x.1 := by kernel_rfl

noncomputable def yIS (s0_8 : List UInt8) (i5_8 : Int) (v9 : UInt8) (n4_8 : Int) : Option ((Int × Bool × Unit) ⊕ (Int)) :=
  (bif Decidable.decide ((↑v9.toNat : Int) < (48 : Int)) then (some (Sum.inl (((0 : Int), Bool.false, ())))) else (Option.bind (Go.Vx.idx s0_8 i5_8) fun (v10 : UInt8) => (bif Decidable.decide ((↑v10.toNat : Int) > (57 : Int)) then (some (Sum.inl (((0 : Int), Bool.false, ())))) else (Option.bind (Go.Vx.idx s0_8 i5_8) fun (v13 : UInt8) => (some (Sum.inr (Go.IntKind.i64.wrap (Go.IntKind.i64.wrap ((10 : Int) * n4_8) + Go.IntKind.i64.wrap (Go.IntKind.u8.wrap ((↑v13.toNat : Int) - (48 : Int)))))))))))

noncomputable def yIH (s0_8 : List UInt8) (n4_8 : Int) : Option (Int × Bool × Unit) :=
  (some ((n4_8, Bool.true, ())))

theorem yDr (n : Nat) (hn : big ≤ n)  (s0_8 : List UInt8) (n4_8 : Int) (hx : List.length (s0_8) < lenMax) : LeF some (yI (fun i__ e__ s__ => yIS s0_8 i__ e__ s__) (fun s__ => yIH s0_8 s__) 0 (s0_8) n4_8) (y7V n n s0_8 n4_8 0) := by
  refine yQ (f := some) (W := fun k__ i__ s__ => y7V n k__ s0_8 s__ i__) (body := (fun i__ e__ s__ => yIS s0_8 i__ e__ s__)) (fin := (fun s__ => yIH s0_8 s__)) (fun k__ i__ s__ => ?_) hx n4_8 n (by unfold big at hn; unfold lenMax at hx; omega)
  show LeF _ _ (yF7 n (y7V n k__) s0_8 s__ i__)
  exact y4 (yA fun v9 => (y4 (y6 rfl) (yA fun v10 => (y4 (y6 rfl) (yA fun v13 => (y6 rfl)))))) (y0R (y6 rfl))

noncomputable def yD8 (s : List UInt8) : Option (Int × Bool × Unit) :=
  (bif decide (List.length (s) < lenMax) then yI (fun i__ e__ s__ => yIS (s) i__ e__ s__) (fun s__ => yIH (s) s__) 0 (s) ((0 : Int)) else none)

theorem y2I (n : Nat) (hn : big ≤ n)  (s : List UInt8) : LeF some (yD8 s) (y7a n s) :=
  (yW fun hx => by apply yDr n hn; exact hx)

noncomputable def yJK (s : List UInt8) : Option (Int × Bool × Unit) :=
  (bif (↑s.length : Int) == (0 : Int) then (some (((0 : Int), Bool.false, ()))) else (bif Decidable.decide ((↑s.length : Int) > (9 : Int)) then (some (((0 : Int), Bool.false, ()))) else (bif Decidable.decide ((↑s.length : Int) > (1 : Int)) then (Option.bind (Go.Vx.idx s (0 : Int)) fun (v0 : UInt8) => (bif (↑v0.toNat : Int) == (48 : Int) then (some (((0 : Int), Bool.false, ()))) else (yD8 s))) else (yD8 s))))

theorem yNN (s : List UInt8) (y : Int × Bool × Unit) (h : yJK s = some y) : ∃ n, yJV n s = some y :=
  ⟨big, LeF.top (show LeF some (yJK s) (yJV big s) from (fun (n : Nat) (hn : big ≤ n) => show LeF some (yJK s) (yJV n s) from (y4 (y6 rfl) (y4 (y6 rfl) (y4 (yA fun v0 => (y4 (y6 rfl) (by apply y2I n hn))) (by apply y2I n hn))))) big (Nat.le_refl _)) h⟩
noncomputable def z0R_e : Entry := { f := 129, args := yM0, rS := yPn, m := fun x => yJK x.1 }
theorem yQJ : FnOK Tryz.prog z0R_e := y1t (g := yRD) (fn := Tryz.f129) y0I y1i eNil (by kernel_rfl) (by kernel_rfl) (by kernel_rfl) (fun x y h => let ⟨n, hn⟩ := yNN x.1 y h; ⟨yL8 n, iNil, (yPm n x).trans hn⟩)

end Go.Tw
end

section
set_option linter.all false
set_option maxRecDepth 1000000
namespace Go.Tw
open Go.Vx Go.Vx.B Go.Proofs
/-! ### tidewayref06.signed -/
abbrev yM8 : Ty := .pair t3 .unit
abbrev yP9 : Ty := .pair t9 .unit
noncomputable def yRF : G := { T := T, E := [z0s_e], mU := [], fz := [] }
def ySD : List (List Nat) := []
noncomputable def yLL (n : Nat) : Ann := { keep := ySD, fuel := n, inl := [], deep := 0 }
noncomputable def yNH (n : Nat) (np : Int) : Option (List UInt8 × Unit) :=
  (Option.bind (Go.Tw.y2N (24 : Nat) (np, ())) fun (v0 : List UInt8 × Unit) => Option.some (v0.fst, ()))

theorem yQj (n : Nat) (x : yM8.den) : runF yRF (yLL n) Tryz.f51 yM8 yP9 x = yNH n x.1 := by kernel_rfl

noncomputable def yPO (np : Int) : Option (List UInt8 × Unit) := yNH 0 np

theorem yNn (np : Int) (y : List UInt8 × Unit) (h : yPO np = some y) : ∃ n, yNH n np = some y := ⟨0, h⟩
noncomputable def z0U_e : Entry := { f := 51, args := yM8, rS := yP9, m := fun x => yPO x.1 }
theorem yOv : FnOK Tryz.prog z0U_e := y1t (g := yRF) (fn := Tryz.f51) y0I y1i (yB yOV eNil) (by kernel_rfl) (by kernel_rfl) (by kernel_rfl) (fun x y h => let ⟨n, hn⟩ := yNn x.1 y h; ⟨yLL n, iNil, (yQj n x).trans hn⟩)

/-! ### internal/stringslite.CutSuffix -/
abbrev zB_a : Ty := .pair t9 (.pair t9 .unit)
abbrev zB_r : Ty := .pair t9 (.pair t4 .unit)
noncomputable def zB_g : G := { T := T, E := [zD_e], mU := [], fz := [] }
def zB_k : List (List Nat) := []
noncomputable def yOA (n : Nat) : Ann := { keep := zB_k, fuel := n, inl := [], deep := 0 }
noncomputable def zB_m (n : Nat) (s : List UInt8) (suffix : List UInt8) : Option (List UInt8 × Bool × Unit) :=
  (Option.bind (Go.Tw.zD_M s suffix) fun (v0 : Bool × Unit) => (bif !v0.fst then Option.some (s, Bool.false, ()) else (bif Decidable.decide ((0 : Int) ≤ Go.IntKind.i64.wrap ((↑s.length : Int) - (↑suffix.length : Int))) && Decidable.decide (Go.IntKind.i64.wrap ((↑s.length : Int) - (↑suffix.length : Int)) ≤ (↑s.length : Int)) then Option.some (List.take (Go.IntKind.i64.wrap ((↑s.length : Int) - (↑suffix.length : Int))).toNat s, Bool.true, ()) else none)))

theorem yRM (n : Nat) (x : zB_a.den) : runF zB_g (yOA n) Tryz.f90 zB_a zB_r x = zB_m n x.1 x.2.1 := by kernel_rfl

noncomputable def zB_M (s : List UInt8) (suffix : List UInt8) : Option (List UInt8 × Bool × Unit) := zB_m 0 s suffix

theorem yQw (s : List UInt8) (suffix : List UInt8) (y : List UInt8 × Bool × Unit) (h : zB_M s suffix = some y) : ∃ n, zB_m n s suffix = some y := ⟨0, h⟩
noncomputable def zB_e : Entry := { f := 90, args := zB_a, rS := zB_r, m := fun x => zB_M x.1 x.2.1 }
theorem ySI : FnOK Tryz.prog zB_e := y1t (g := zB_g) (fn := Tryz.f90) y0I y1i (yB yRk eNil) (by kernel_rfl) (by kernel_rfl) (by kernel_rfl) (fun x y h => let ⟨n, hn⟩ := yQw x.1 x.2.1 y h; ⟨yOA n, iNil, (yRM n x).trans hn⟩)

/-! ### tidewayref01.Signed -/
abbrev yMq : Ty := .pair t9 .unit
abbrev yPs : Ty := .pair t3 (.pair t4 .unit)
noncomputable def yOq : G := { T := T, E := [z0R_e], mU := [], fz := [] }
def yRz : List (List Nat) := []
noncomputable def yLe (n : Nat) : Ann := { keep := yRz, fuel := n, inl := [], deep := 0 }
noncomputable def yEv (n : Nat) (s : List UInt8) (j2 : Bool) : Option (Int × Bool × Unit) :=
  (bif j2 then (bif Decidable.decide ((0 : Int) ≤ (1 : Int)) && Decidable.decide ((1 : Int) ≤ (↑s.length : Int)) then (Option.bind (Go.Tw.yJK (List.drop (Int.toNat (1 : Int)) s)) fun (v3 : Int × Bool × Unit) => (bif v3.snd.fst then Option.some (Go.IntKind.i64.wrap ((0 : Int) - v3.fst), Decidable.decide (v3.fst > (0 : Int)), ()) else Option.some (Go.IntKind.i64.wrap ((0 : Int) - v3.fst), Bool.false, ()))) else none) else (Option.bind (Go.Tw.yJK s) fun (v8 : Int × Bool × Unit) => Option.some (v8.fst, v8.snd.fst, ())))

noncomputable def yO4 (n : Nat) (s : List UInt8) : Option (Int × Bool × Unit) :=
  (bif Decidable.decide ((↑s.length : Int) > (1 : Int)) then (Option.bind (Go.Vx.idx s (0 : Int)) fun (v0 : UInt8) => (yEv n s ((↑v0.toNat : Int) == (45 : Int)))) else (yEv n s (Bool.false)))

theorem yPx (n : Nat) (x : yMq.den) : runF yOq (yLe n) Tryz.f97 yMq yPs x = yO4 n x.1 := by kernel_rfl

noncomputable def yR0 (s : List UInt8) : Option (Int × Bool × Unit) := yO4 0 s

theorem yNb (s : List UInt8) (y : Int × Bool × Unit) (h : yR0 s = some y) : ∃ n, yO4 n s = some y := ⟨0, h⟩
noncomputable def z0S_e : Entry := { f := 97, args := yMq, rS := yPs, m := fun x => yR0 x.1 }
theorem yQR : FnOK Tryz.prog z0S_e := y1t (g := yOq) (fn := Tryz.f97) y0I y1i (yB yQJ eNil) (by kernel_rfl) (by kernel_rfl) (by kernel_rfl) (fun x y h => let ⟨n, hn⟩ := yNb x.1 y h; ⟨yLe n, iNil, (yPx n x).trans hn⟩)

/-! ### internal/stringslite.CutPrefix -/
abbrev zA_a : Ty := .pair t9 (.pair t9 .unit)
abbrev zA_r : Ty := .pair t9 (.pair t4 .unit)
noncomputable def zA_g : G := { T := T, E := [zC_e], mU := [], fz := [] }
def zA_k : List (List Nat) := []
noncomputable def yPH (n : Nat) : Ann := { keep := zA_k, fuel := n, inl := [], deep := 0 }
noncomputable def zA_m (n : Nat) (s : List UInt8) (p1 : List UInt8) : Option (List UInt8 × Bool × Unit) :=
  (Option.bind (Go.Tw.zC_M s p1) fun (v0 : Bool × Unit) => (bif !v0.fst then Option.some (s, Bool.false, ()) else (bif Decidable.decide ((0 : Int) ≤ (↑p1.length : Int)) && Decidable.decide ((↑p1.length : Int) ≤ (↑s.length : Int)) then Option.some (List.drop (↑p1.length : Int).toNat s, Bool.true, ()) else none)))

theorem yS3 (n : Nat) (x : zA_a.den) : runF zA_g (yPH n) Tryz.f170 zA_a zA_r x = zA_m n x.1 x.2.1 := by kernel_rfl

noncomputable def zA_M (s : List UInt8) (p1 : List UInt8) : Option (List UInt8 × Bool × Unit) := zA_m 0 s p1

theorem yRH (s : List UInt8) (p1 : List UInt8) (y : List UInt8 × Bool × Unit) (h : zA_M s p1 = some y) : ∃ n, zA_m n s p1 = some y := ⟨0, h⟩
noncomputable def zA_e : Entry := { f := 170, args := zA_a, rS := zA_r, m := fun x => zA_M x.1 x.2.1 }
theorem yRN : FnOK Tryz.prog zA_e := y1t (g := zA_g) (fn := Tryz.f170) y0I y1i (yB yRJ eNil) (by kernel_rfl) (by kernel_rfl) (by kernel_rfl) (fun x y h => let ⟨n, hn⟩ := yRH x.1 x.2.1 y h; ⟨yPH n, iNil, (yS3 n x).trans hn⟩)

end Go.Tw
end

section
set_option linter.all false
set_option maxRecDepth 1000000
namespace Go.Tw
open Go.Vx Go.Vx.B Go.Proofs
/-! ### tidewayref06.Print -/
abbrev yNq : Ty := .pair t25 .unit
abbrev yQF : Ty := .pair t9 .unit
noncomputable def yQU : G := { T := T, E := [z0U_e], mU := [], fz := [] }
def yS4 : List (List Nat) := [[1, 3, 4], [1, 3, 7]]
noncomputable def yLR (n : Nat) : Ann := { keep := yS4, fuel := n, inl := [], deep := 0 }
noncomputable def yA5 (n : Nat) (r0 : Cha → List UInt8 → Int → Option (List UInt8 × Unit)) (c1_0 : Cha) (s3_0 : List UInt8) (i4_0 : Int) (v1 : Sta) (j2 : List UInt8) : Option (List UInt8 × Unit) :=
  (bif Decidable.decide (s3_0.length + (6 : Nat) < Go.Vx.strMax) then (bif Decidable.decide ((s3_0 ++ [(115 : UInt8), (116 : UInt8), (97 : UInt8), (116 : UInt8), (101 : UInt8), (32 : UInt8)]).length + v1.fst.length < Go.Vx.strMax) then (bif Decidable.decide ((s3_0 ++ [(115 : UInt8), (116 : UInt8), (97 : UInt8), (116 : UInt8), (101 : UInt8), (32 : UInt8)] ++ v1.fst).length + (1 : Nat) < Go.Vx.strMax) then (Option.bind (Go.Tw.yPO v1.snd.fst) fun (v3 : List UInt8 × Unit) => (bif Decidable.decide ((s3_0 ++ [(115 : UInt8), (116 : UInt8), (97 : UInt8), (116 : UInt8), (101 : UInt8), (32 : UInt8)] ++ v1.fst ++ [(32 : UInt8)]).length + v3.fst.length < Go.Vx.strMax) then (bif Decidable.decide ((s3_0 ++ [(115 : UInt8), (116 : UInt8), (97 : UInt8), (116 : UInt8), (101 : UInt8), (32 : UInt8)] ++ v1.fst ++ [(32 : UInt8)] ++ v3.fst).length + (1 : Nat) < Go.Vx.strMax) then (Option.bind (Go.Tw.yPO v1.snd.snd.fst) fun (v4 : List UInt8 × Unit) => (bif Decidable.decide ((s3_0 ++ [(115 : UInt8), (116 : UInt8), (97 : UInt8), (116 : UInt8), (101 : UInt8), (32 : UInt8)] ++ v1.fst ++ [(32 : UInt8)] ++ v3.fst ++ [(32 : UInt8)]).length + v4.fst.length < Go.Vx.strMax) then (bif Decidable.decide ((s3_0 ++ [(115 : UInt8), (116 : UInt8), (97 : UInt8), (116 : UInt8), (101 : UInt8), (32 : UInt8)] ++ v1.fst ++ [(32 : UInt8)] ++ v3.fst ++ [(32 : UInt8)] ++ v4.fst).length + (1 : Nat) < Go.Vx.strMax) then (bif Decidable.decide ((s3_0 ++ [(115 : UInt8), (116 : UInt8), (97 : UInt8), (116 : UInt8), (101 : UInt8), (32 : UInt8)] ++ v1.fst ++ [(32 : UInt8)] ++ v3.fst ++ [(32 : UInt8)] ++ v4.fst ++ [(32 : UInt8)]).length + j2.length < Go.Vx.strMax) then (bif Decidable.decide ((s3_0 ++ [(115 : UInt8), (116 : UInt8), (97 : UInt8), (116 : UInt8), (101 : UInt8), (32 : UInt8)] ++ v1.fst ++ [(32 : UInt8)] ++ v3.fst ++ [(32 : UInt8)] ++ v4.fst ++ [(32 : UInt8)] ++ j2).length + (1 : Nat) < Go.Vx.strMax) then r0 c1_0 (s3_0 ++ [(115 : UInt8), (116 : UInt8), (97 : UInt8), (116 : UInt8), (101 : UInt8), (32 : UInt8)] ++ v1.fst ++ [(32 : UInt8)] ++ v3.fst ++ [(32 : UInt8)] ++ v4.fst ++ [(32 : UInt8)] ++ j2 ++ [(10 : UInt8)]) (Go.IntKind.i64.wrap (i4_0 + (1 : Int))) else none) else none) else none) else none)) else none) else none)) else none) else none) else none)

noncomputable def yF5 (n : Nat) (r6 : Cha → List UInt8 → Int → Option (List UInt8 × Unit)) (c1_6 : Cha) (s3_6 : List UInt8) (i7_6 : Int) : Option (List UInt8 × Unit) :=
  (bif Decidable.decide (i7_6 < (↑c1_6.snd.fst.length : Int)) then (Option.bind (Go.Vx.idx c1_6.snd.fst i7_6) fun (v7 : Tra) => (bif Decidable.decide (s3_6.length + (5 : Nat) < Go.Vx.strMax) then (Option.bind (Go.Tw.yPO v7.fst) fun (v8 : List UInt8 × Unit) => (bif Decidable.decide ((s3_6 ++ [(109 : UInt8), (111 : UInt8), (118 : UInt8), (101 : UInt8), (32 : UInt8)]).length + v8.fst.length < Go.Vx.strMax) then (bif Decidable.decide ((s3_6 ++ [(109 : UInt8), (111 : UInt8), (118 : UInt8), (101 : UInt8), (32 : UInt8)] ++ v8.fst).length + (1 : Nat) < Go.Vx.strMax) then (bif Decidable.decide ((s3_6 ++ [(109 : UInt8), (111 : UInt8), (118 : UInt8), (101 : UInt8), (32 : UInt8)] ++ v8.fst ++ [(32 : UInt8)]).length + v7.snd.fst.length < Go.Vx.strMax) then (bif Decidable.decide ((s3_6 ++ [(109 : UInt8), (111 : UInt8), (118 : UInt8), (101 : UInt8), (32 : UInt8)] ++ v8.fst ++ [(32 : UInt8)] ++ v7.snd.fst).length + (1 : Nat) < Go.Vx.strMax) then (Option.bind (Go.Tw.yPO v7.snd.snd.fst) fun (v9 : List UInt8 × Unit) => (bif Decidable.decide ((s3_6 ++ [(109 : UInt8), (111 : UInt8), (118 : UInt8), (101 : UInt8), (32 : UInt8)] ++ v8.fst ++ [(32 : UInt8)] ++ v7.snd.fst ++ [(32 : UInt8)]).length + v9.fst.length < Go.Vx.strMax) then (bif Decidable.decide ((s3_6 ++ [(109 : UInt8), (111 : UInt8), (118 : UInt8), (101 : UInt8), (32 : UInt8)] ++ v8.fst ++ [(32 : UInt8)] ++ v7.snd.fst ++ [(32 : UInt8)] ++ v9.fst).length + (1 : Nat) < Go.Vx.strMax) then (Option.bind (Go.Tw.yPO v7.snd.snd.snd.fst) fun (v10 : List UInt8 × Unit) => (bif Decidable.decide ((s3_6 ++ [(109 : UInt8), (111 : UInt8), (118 : UInt8), (101 : UInt8), (32 : UInt8)] ++ v8.fst ++ [(32 : UInt8)] ++ v7.snd.fst ++ [(32 : UInt8)] ++ v9.fst ++ [(32 : UInt8)]).length + v10.fst.length < Go.Vx.strMax) then (bif Decidable.decide ((s3_6 ++ [(109 : UInt8), (111 : UInt8), (118 : UInt8), (101 : UInt8), (32 : UInt8)] ++ v8.fst ++ [(32 : UInt8)] ++ v7.snd.fst ++ [(32 : UInt8)] ++ v9.fst ++ [(32 : UInt8)] ++ v10.fst).length + (1 : Nat) < Go.Vx.strMax) then (Option.bind (Go.Tw.yPO v7.snd.snd.snd.snd.fst) fun (v11 : List UInt8 × Unit) => (bif Decidable.decide ((s3_6 ++ [(109 : UInt8), (111 : UInt8), (118 : UInt8), (101 : UInt8), (32 : UInt8)] ++ v8.fst ++ [(32 : UInt8)] ++ v7.snd.fst ++ [(32 : UInt8)] ++ v9.fst ++ [(32 : UInt8)] ++ v10.fst ++ [(32 : UInt8)]).length + v11.fst.length < Go.Vx.strMax) then (bif Decidable.decide ((s3_6 ++ [(109 : UInt8), (111 : UInt8), (118 : UInt8), (101 : UInt8), (32 : UInt8)] ++ v8.fst ++ [(32 : UInt8)] ++ v7.snd.fst ++ [(32 : UInt8)] ++ v9.fst ++ [(32 : UInt8)] ++ v10.fst ++ [(32 : UInt8)] ++ v11.fst).length + (1 : Nat) < Go.Vx.strMax) then r6 c1_6 (s3_6 ++ [(109 : UInt8), (111 : UInt8), (118 : UInt8), (101 : UInt8), (32 : UInt8)] ++ v8.fst ++ [(32 : UInt8)] ++ v7.snd.fst ++ [(32 : UInt8)] ++ v9.fst ++ [(32 : UInt8)] ++ v10.fst ++ [(32 : UInt8)] ++ v11.fst ++ [(10 : UInt8)]) (Go.IntKind.i64.wrap (i7_6 + (1 : Int))) else none) else none)) else none) else none)) else none) else none)) else none) else none) else none) else none)) else none)) else Option.some (s3_6, ()))

noncomputable def y6z (n : Nat)  (k : Nat) (c1_6 : Cha) (s3_6 : List UInt8) (i7_6 : Int) : Option (List UInt8 × Unit) :=
  iter (fun r y => yF5 n (fun c1_6 s3_6 i7_6 => r ((c1_6, (s3_6, (i7_6, ()))), ((), ()))) y.1.1 y.1.2.1 y.1.2.2.1) k ((c1_6, (s3_6, (i7_6, ()))), ((), ()))

noncomputable def yF0 (n : Nat) (r0 : Cha → List UInt8 → Int → Option (List UInt8 × Unit)) (c1_0 : Cha) (s3_0 : List UInt8) (i4_0 : Int) : Option (List UInt8 × Unit) :=
  (bif Decidable.decide (i4_0 < (↑c1_0.fst.length : Int)) then (Option.bind (Go.Vx.idx c1_0.fst i4_0) fun (v1 : Sta) => (bif v1.snd.snd.snd.fst then (yA5 n r0 c1_0 s3_0 i4_0 v1 ([(49 : UInt8)])) else (yA5 n r0 c1_0 s3_0 i4_0 v1 ([(48 : UInt8)])))) else (y6z n n (c1_0) (s3_0) ((0 : Int))))

noncomputable def y7Q (n : Nat)  (k : Nat) (c1_0 : Cha) (s3_0 : List UInt8) (i4_0 : Int) : Option (List UInt8 × Unit) :=
  iter (fun r y => yF0 n (fun c1_0 s3_0 i4_0 => r ((c1_0, (s3_0, (i4_0, ()))), ((), ()))) y.1.1 y.1.2.1 y.1.2.2.1) k ((c1_0, (s3_0, (i4_0, ()))), ((), ()))

noncomputable def yKM (n : Nat) (c : Cha) : Option (List UInt8 × Unit) :=
  (y7Q n n (c) ([]) ((0 : Int)))

theorem yOP (n : Nat) (x : yNq.den) : runF yQU (yLR n) Tryz.f11 yNq yQF x = yKM n x.1 := by kernel_rfl

noncomputable def yHI (c1_0 : Cha) (s3_0 : List UInt8) (i4_0 : Int) (v1 : Sta) (j2 : List UInt8) : Option ((List UInt8 × Unit) ⊕ (List UInt8)) :=
  (bif Decidable.decide (s3_0.length + (6 : Nat) < Go.Vx.strMax) then (bif Decidable.decide ((s3_0 ++ [(115 : UInt8), (116 : UInt8), (97 : UInt8), (116 : UInt8), (101 : UInt8), (32 : UInt8)]).length + v1.fst.length < Go.Vx.strMax) then (bif Decidable.decide ((s3_0 ++ [(115 : UInt8), (116 : UInt8), (97 : UInt8), (116 : UInt8), (101 : UInt8), (32 : UInt8)] ++ v1.fst).length + (1 : Nat) < Go.Vx.strMax) then (Option.bind (Go.Tw.yPO v1.snd.fst) fun (v3 : List UInt8 × Unit) => (bif Decidable.decide ((s3_0 ++ [(115 : UInt8), (116 : UInt8), (97 : UInt8), (116 : UInt8), (101 : UInt8), (32 : UInt8)] ++ v1.fst ++ [(32 : UInt8)]).length + v3.fst.length < Go.Vx.strMax) then (bif Decidable.decide ((s3_0 ++ [(115 : UInt8), (116 : UInt8), (97 : UInt8), (116 : UInt8), (101 : UInt8), (32 : UInt8)] ++ v1.fst ++ [(32 : UInt8)] ++ v3.fst).length + (1 : Nat) < Go.Vx.strMax) then (Option.bind (Go.Tw.yPO v1.snd.snd.fst) fun (v4 : List UInt8 × Unit) => (bif Decidable.decide ((s3_0 ++ [(115 : UInt8), (116 : UInt8), (97 : UInt8), (116 : UInt8), (101 : UInt8), (32 : UInt8)] ++ v1.fst ++ [(32 : UInt8)] ++ v3.fst ++ [(32 : UInt8)]).length + v4.fst.length < Go.Vx.strMax) then (bif Decidable.decide ((s3_0 ++ [(115 : UInt8), (116 : UInt8), (97 : UInt8), (116 : UInt8), (101 : UInt8), (32 : UInt8)] ++ v1.fst ++ [(32 : UInt8)] ++ v3.fst ++ [(32 : UInt8)] ++ v4.fst).length + (1 : Nat) < Go.Vx.strMax) then (bif Decidable.decide ((s3_0 ++ [(115 : UInt8), (116 : UInt8), (97 : UInt8), (116 : UInt8), (101 : UInt8), (32 : UInt8)] ++ v1.fst ++ [(32 : UInt8)] ++ v3.fst ++ [(32 : UInt8)] ++ v4.fst ++ [(32 : UInt8)]).length + j2.length < Go.Vx.strMax) then (bif Decidable.decide ((s3_0 ++ [(115 : UInt8), (116 : UInt8), (97 : UInt8), (116 : UInt8), (101 : UInt8), (32 : UInt8)] ++ v1.fst ++ [(32 : UInt8)] ++ v3.fst ++ [(32 : UInt8)] ++ v4.fst ++ [(32 : UInt8)] ++ j2).length + (1 : Nat) < Go.Vx.strMax) then (some (Sum.inr (s3_0 ++ [(115 : UInt8), (116 : UInt8), (97 : UInt8), (116 : UInt8), (101 : UInt8), (32 : UInt8)] ++ v1.fst ++ [(32 : UInt8)] ++ v3.fst ++ [(32 : UInt8)] ++ v4.fst ++ [(32 : UInt8)] ++ j2 ++ [(10 : UInt8)]))) else none) else none) else none) else none)) else none) else none)) else none) else none) else none)

theorem y2z (n : Nat) (hn : big ≤ n)  (r0 : Cha → List UInt8 → Int → Option (List UInt8 × Unit)) (c1_0 : Cha) (s3_0 : List UInt8) (i4_0 : Int) (v1 : Sta) (j2 : List UInt8) : LeF (elim some fun (s__ : (List UInt8)) => r0 c1_0 s__ (Go.IntKind.i64.wrap (i4_0 + 1))) (yHI c1_0 s3_0 i4_0 v1 j2) (yA5 n r0 c1_0 s3_0 i4_0 v1 j2) :=
  (y4 (y4 (y4 (yA fun v3 => (y4 (y4 (yA fun v4 => (y4 (y4 (y4 (y4 (y6 rfl) yL) yL) yL) yL)) yL) yL)) yL) yL) yL)

noncomputable def yHB (c1_6 : Cha) (i7_6 : Int) (v7 : Tra) (s3_6 : List UInt8) : Option ((List UInt8 × Unit) ⊕ (List UInt8)) :=
  (bif Decidable.decide (s3_6.length + (5 : Nat) < Go.Vx.strMax) then (Option.bind (Go.Tw.yPO v7.fst) fun (v8 : List UInt8 × Unit) => (bif Decidable.decide ((s3_6 ++ [(109 : UInt8), (111 : UInt8), (118 : UInt8), (101 : UInt8), (32 : UInt8)]).length + v8.fst.length < Go.Vx.strMax) then (bif Decidable.decide ((s3_6 ++ [(109 : UInt8), (111 : UInt8), (118 : UInt8), (101 : UInt8), (32 : UInt8)] ++ v8.fst).length + (1 : Nat) < Go.Vx.strMax) then (bif Decidable.decide ((s3_6 ++ [(109 : UInt8), (111 : UInt8), (118 : UInt8), (101 : UInt8), (32 : UInt8)] ++ v8.fst ++ [(32 : UInt8)]).length + v7.snd.fst.length < Go.Vx.strMax) then (bif Decidable.decide ((s3_6 ++ [(109 : UInt8), (111 : UInt8), (118 : UInt8), (101 : UInt8), (32 : UInt8)] ++ v8.fst ++ [(32 : UInt8)] ++ v7.snd.fst).length + (1 : Nat) < Go.Vx.strMax) then (Option.bind (Go.Tw.yPO v7.snd.snd.fst) fun (v9 : List UInt8 × Unit) => (bif Decidable.decide ((s3_6 ++ [(109 : UInt8), (111 : UInt8), (118 : UInt8), (101 : UInt8), (32 : UInt8)] ++ v8.fst ++ [(32 : UInt8)] ++ v7.snd.fst ++ [(32 : UInt8)]).length + v9.fst.length < Go.Vx.strMax) then (bif Decidable.decide ((s3_6 ++ [(109 : UInt8), (111 : UInt8), (118 : UInt8), (101 : UInt8), (32 : UInt8)] ++ v8.fst ++ [(32 : UInt8)] ++ v7.snd.fst ++ [(32 : UInt8)] ++ v9.fst).length + (1 : Nat) < Go.Vx.strMax) then (Option.bind (Go.Tw.yPO v7.snd.snd.snd.fst) fun (v10 : List UInt8 × Unit) => (bif Decidable.decide ((s3_6 ++ [(109 : UInt8), (111 : UInt8), (118 : UInt8), (101 : UInt8), (32 : UInt8)] ++ v8.fst ++ [(32 : UInt8)] ++ v7.snd.fst ++ [(32 : UInt8)] ++ v9.fst ++ [(32 : UInt8)]).length + v10.fst.length < Go.Vx.strMax) then (bif Decidable.decide ((s3_6 ++ [(109 : UInt8), (111 : UInt8), (118 : UInt8), (101 : UInt8), (32 : UInt8)] ++ v8.fst ++ [(32 : UInt8)] ++ v7.snd.fst ++ [(32 : UInt8)] ++ v9.fst ++ [(32 : UInt8)] ++ v10.fst).length + (1 : Nat) < Go.Vx.strMax) then (Option.bind (Go.Tw.yPO v7.snd.snd.snd.snd.fst) fun (v11 : List UInt8 × Unit) => (bif Decidable.decide ((s3_6 ++ [(109 : UInt8), (111 : UInt8), (118 : UInt8), (101 : UInt8), (32 : UInt8)] ++ v8.fst ++ [(32 : UInt8)] ++ v7.snd.fst ++ [(32 : UInt8)] ++ v9.fst ++ [(32 : UInt8)] ++ v10.fst ++ [(32 : UInt8)]).length + v11.fst.length < Go.Vx.strMax) then (bif Decidable.decide ((s3_6 ++ [(109 : UInt8), (111 : UInt8), (118 : UInt8), (101 : UInt8), (32 : UInt8)] ++ v8.fst ++ [(32 : UInt8)] ++ v7.snd.fst ++ [(32 : UInt8)] ++ v9.fst ++ [(32 : UInt8)] ++ v10.fst ++ [(32 : UInt8)] ++ v11.fst).length + (1 : Nat) < Go.Vx.strMax) then (some (Sum.inr (s3_6 ++ [(109 : UInt8), (111 : UInt8), (118 : UInt8), (101 : UInt8), (32 : UInt8)] ++ v8.fst ++ [(32 : UInt8)] ++ v7.snd.fst ++ [(32 : UInt8)] ++ v9.fst ++ [(32 : UInt8)] ++ v10.fst ++ [(32 : UInt8)] ++ v11.fst ++ [(10 : UInt8)]))) else none) else none)) else none) else none)) else none) else none)) else none) else none) else none) else none)) else none)

noncomputable def yIi (c1_6 : Cha) (s3_6 : List UInt8) : Option (List UInt8 × Unit) :=
  (some ((s3_6, ())))

theorem yDi (n : Nat) (hn : big ≤ n)  (c1_6 : Cha) (s3_6 : List UInt8) (hx : List.length (c1_6.snd.fst) < lenMax) : LeF some (yI (fun i__ e__ s__ => yHB c1_6 i__ e__ s__) (fun s__ => yIi c1_6 s__) 0 (c1_6.snd.fst) s3_6) (y6z n n c1_6 s3_6 0) := by
  refine yQ (f := some) (W := fun k__ i__ s__ => y6z n k__ c1_6 s__ i__) (body := (fun i__ e__ s__ => yHB c1_6 i__ e__ s__)) (fin := (fun s__ => yIi c1_6 s__)) (fun k__ i__ s__ => ?_) hx s3_6 n (by unfold big at hn; unfold lenMax at hx; omega)
  show LeF _ _ (yF5 n (y6z n k__) c1_6 s__ i__)
  exact y4 (yA fun v7 => (y4 (yA fun v8 => (y4 (y4 (y4 (y4 (yA fun v9 => (y4 (y4 (yA fun v10 => (y4 (y4 (yA fun v11 => (y4 (y4 (y6 rfl) yL) yL)) yL) yL)) yL) yL)) yL) yL) yL) yL)) yL)) (y0R (y6 rfl))

noncomputable def yHO (c1_0 : Cha) (i4_0 : Int) (v1 : Sta) (s3_0 : List UInt8) : Option ((List UInt8 × Unit) ⊕ (List UInt8)) :=
  (bif v1.snd.snd.snd.fst then (yHI c1_0 s3_0 i4_0 v1 ([(49 : UInt8)])) else (yHI c1_0 s3_0 i4_0 v1 ([(48 : UInt8)])))

noncomputable def yHn (c1_0 : Cha) (s3_0 : List UInt8) : Option (List UInt8 × Unit) :=
  (bif decide (List.length (c1_0.snd.fst) < lenMax) then yI (fun i__ e__ s__ => yHB (c1_0) i__ e__ s__) (fun s__ => yIi (c1_0) s__) 0 (c1_0.snd.fst) (s3_0) else none)

theorem yDH (n : Nat) (hn : big ≤ n)  (c1_0 : Cha) (s3_0 : List UInt8) (hx : List.length (c1_0.fst) < lenMax) : LeF some (yI (fun i__ e__ s__ => yHO c1_0 i__ e__ s__) (fun s__ => yHn c1_0 s__) 0 (c1_0.fst) s3_0) (y7Q n n c1_0 s3_0 0) := by
  refine yQ (f := some) (W := fun k__ i__ s__ => y7Q n k__ c1_0 s__ i__) (body := (fun i__ e__ s__ => yHO c1_0 i__ e__ s__)) (fin := (fun s__ => yHn c1_0 s__)) (fun k__ i__ s__ => ?_) hx s3_0 n (by unfold big at hn; unfold lenMax at hx; omega)
  show LeF _ _ (yF0 n (y7Q n k__) c1_0 s__ i__)
  exact y4 (yA fun v1 => (y4 (by apply y2z n hn) (by apply y2z n hn))) (y0R (yW fun hx => by apply yDi n hn; exact hx))

noncomputable def yJM (c : Cha) : Option (List UInt8 × Unit) :=
  (bif decide (List.length (c.fst) < lenMax) then yI (fun i__ e__ s__ => yHO (c) i__ e__ s__) (fun s__ => yHn (c) s__) 0 (c.fst) ([]) else none)

theorem yNO (c : Cha) (y : List UInt8 × Unit) (h : yJM c = some y) : ∃ n, yKM n c = some y :=
  ⟨big, LeF.top (show LeF some (yJM c) (yKM big c) from (fun (n : Nat) (hn : big ≤ n) => show LeF some (yJM c) (yKM n c) from (yW fun hx => by apply yDH n hn; exact hx)) big (Nat.le_refl _)) h⟩
noncomputable def z0i_e : Entry := { f := 11, args := yNq, rS := yQF, m := fun x => yJM x.1 }
theorem yQb : FnOK Tryz.prog z0i_e := y1t (g := yQU) (fn := Tryz.f11) y0I y1i (yB yOv eNil) (by kernel_rfl) (by kernel_rfl) (by kernel_rfl) (fun x y h => let ⟨n, hn⟩ := yNO x.1 y h; ⟨yLR n, iNil, (yOP n x).trans hn⟩)

/-! ### strings.CutSuffix -/
abbrev zl_a : Ty := .pair t9 (.pair t9 .unit)
abbrev zl_r : Ty := .pair t9 (.pair t4 .unit)
noncomputable def zl_g : G := { T := T, E := [zB_e], mU := [], fz := [] }
def zl_k : List (List Nat) := []
noncomputable def yPZ (n : Nat) : Ann := { keep := zl_k, fuel := n, inl := [], deep := 0 }
noncomputable def zl_m (n : Nat) (s : List UInt8) (suffix : List UInt8) : Option (List UInt8 × Bool × Unit) :=
  (Option.bind (Go.Tw.zB_M s suffix) fun (v0 : List UInt8 × Bool × Unit) => Option.some (v0.fst, v0.snd.fst, ()))

theorem ySN (n : Nat) (x : zl_a.den) : runF zl_g (yPZ n) Tryz.f42 zl_a zl_r x = zl_m n x.1 x.2.1 := by kernel_rfl

noncomputable def zl_M (s : List UInt8) (suffix : List UInt8) : Option (List UInt8 × Bool × Unit) := zl_m 0 s suffix

theorem yOy (s : List UInt8) (suffix : List UInt8) (y : List UInt8 × Bool × Unit) (h : zl_M s suffix = some y) : ∃ n, zl_m n s suffix = some y := ⟨0, h⟩
noncomputable def zl_e : Entry := { f := 42, args := zl_a, rS := zl_r, m := fun x => zl_M x.1 x.2.1 }
theorem yRU : FnOK Tryz.prog zl_e := y1t (g := zl_g) (fn := Tryz.f42) y0I y1i (yB ySI eNil) (by kernel_rfl) (by kernel_rfl) (by kernel_rfl) (fun x y h => let ⟨n, hn⟩ := yOy x.1 x.2.1 y h; ⟨yPZ n, iNil, (ySN n x).trans hn⟩)

/-! ### tidewayref06.numbers -/
abbrev yMK : Ty := .pair t51 .unit
abbrev yPC : Ty := .pair t45 (.pair t4 .unit)
noncomputable def yOO : G := { T := T, E := [z0S_e], mU := [4], fz := [] }
def ySH : List (List Nat) := [[0, 4, 5]]
noncomputable def yLV (n : Nat) : Ann := { keep := ySH, fuel := n, inl := [], deep := 0 }
noncomputable def yED (n : Nat) (r0 : List (List UInt8) → Int → List Int → Option (List Int × Bool × Unit)) (w0_0 : List (List UInt8)) (i5_0 : Int) (c0_0 : List Int) : Option (List Int × Bool × Unit) :=
  (bif Decidable.decide (i5_0 < (↑w0_0.length : Int)) then (Option.bind (Go.Vx.idx w0_0 i5_0) fun (v1 : List UInt8) => (Option.bind (Go.Tw.yR0 v1) fun (v2 : Int × Bool × Unit) => (bif !v2.snd.fst then Option.some ([], Bool.false, ()) else (bif Decidable.decide (c0_0.length + (1 : Nat) ≤ Go.Vx.memMax) then r0 w0_0 (Go.IntKind.i64.wrap (i5_0 + (1 : Int))) (c0_0 ++ [v2.fst]) else none)))) else Option.some (c0_0, Bool.true, ()))

noncomputable def y7P (n : Nat)  (k : Nat) (w0_0 : List (List UInt8)) (i5_0 : Int) (c0_0 : List Int) : Option (List Int × Bool × Unit) :=
  iter (fun r y => yED n (fun w0_0 i5_0 c0_0 => r ((w0_0, (i5_0, ())), ((c0_0, ()), ()))) y.1.1 y.1.2.1 y.2.1.1) k ((w0_0, (i5_0, ())), ((c0_0, ()), ()))

noncomputable def yKc (n : Nat) (w : List (List UInt8)) : Option (List Int × Bool × Unit) :=
  (y7P n n (w) ((0 : Int)) ([]))

theorem yQ3 (n : Nat) (x : yMK.den) : runF yOO (yLV n) Tryz.f53 yMK yPC x = yKc n x.1 := by kernel_rfl

noncomputable def yHv (w0_0 : List (List UInt8)) (i5_0 : Int) (v1 : List UInt8) (c0_0 : List Int) : Option ((List Int × Bool × Unit) ⊕ (List Int)) :=
  (Option.bind (Go.Tw.yR0 v1) fun (v2 : Int × Bool × Unit) => (bif !v2.snd.fst then (some (Sum.inl (([], Bool.false, ())))) else (bif Decidable.decide (c0_0.length + (1 : Nat) ≤ Go.Vx.memMax) then (some (Sum.inr (c0_0 ++ [v2.fst]))) else none)))

noncomputable def yHd (w0_0 : List (List UInt8)) (c0_0 : List Int) : Option (List Int × Bool × Unit) :=
  (some ((c0_0, Bool.true, ())))

theorem yDQ (n : Nat) (hn : big ≤ n)  (w0_0 : List (List UInt8)) (c0_0 : List Int) (hx : List.length (w0_0) < lenMax) : LeF some (yI (fun i__ e__ s__ => yHv w0_0 i__ e__ s__) (fun s__ => yHd w0_0 s__) 0 (w0_0) c0_0) (y7P n n w0_0 0 c0_0) := by
  refine yQ (f := some) (W := fun k__ i__ s__ => y7P n k__ w0_0 i__ s__) (body := (fun i__ e__ s__ => yHv w0_0 i__ e__ s__)) (fin := (fun s__ => yHd w0_0 s__)) (fun k__ i__ s__ => ?_) hx c0_0 n (by unfold big at hn; unfold lenMax at hx; omega)
  show LeF _ _ (yED n (y7P n k__) w0_0 i__ s__)
  exact y4 (yA fun v1 => (yA fun v2 => (y4 (y6 rfl) (y4 (y6 rfl) yL)))) (y0R (y6 rfl))

noncomputable def yJX (w : List (List UInt8)) : Option (List Int × Bool × Unit) :=
  (bif decide (List.length (w) < lenMax) then yI (fun i__ e__ s__ => yHv (w) i__ e__ s__) (fun s__ => yHd (w) s__) 0 (w) ([]) else none)

theorem yO0 (w : List (List UInt8)) (y : List Int × Bool × Unit) (h : yJX w = some y) : ∃ n, yKc n w = some y :=
  ⟨big, LeF.top (show LeF some (yJX w) (yKc big w) from (fun (n : Nat) (hn : big ≤ n) => show LeF some (yJX w) (yKc n w) from (yW fun hx => by apply yDQ n hn; exact hx)) big (Nat.le_refl _)) h⟩
noncomputable def z0E_e : Entry := { f := 53, args := yMK, rS := yPC, m := fun x => yJX x.1 }
theorem yQ1 : FnOK Tryz.prog z0E_e := y1t (g := yOO) (fn := Tryz.f53) y0I y1i (yB yQR eNil) (by kernel_rfl) (by kernel_rfl) (by kernel_rfl) (fun x y h => let ⟨n, hn⟩ := yO0 x.1 y h; ⟨yLV n, iNil, (yQ3 n x).trans hn⟩)

/-! ### strings.CutPrefix -/
abbrev zk_a : Ty := .pair t9 (.pair t9 .unit)
abbrev zk_r : Ty := .pair t9 (.pair t4 .unit)
noncomputable def zk_g : G := { T := T, E := [zA_e], mU := [], fz := [] }
def zk_k : List (List Nat) := []
noncomputable def yQD (n : Nat) : Ann := { keep := zk_k, fuel := n, inl := [], deep := 0 }
noncomputable def zk_m (n : Nat) (s : List UInt8) (p1 : List UInt8) : Option (List UInt8 × Bool × Unit) :=
  (Option.bind (Go.Tw.zA_M s p1) fun (v0 : List UInt8 × Bool × Unit) => Option.some (v0.fst, v0.snd.fst, ()))

theorem yST (n : Nat) (x : zk_a.den) : runF zk_g (yQD n) Tryz.f144 zk_a zk_r x = zk_m n x.1 x.2.1 := by kernel_rfl

noncomputable def zk_M (s : List UInt8) (p1 : List UInt8) : Option (List UInt8 × Bool × Unit) := zk_m 0 s p1

theorem yQS (s : List UInt8) (p1 : List UInt8) (y : List UInt8 × Bool × Unit) (h : zk_M s p1 = some y) : ∃ n, zk_m n s p1 = some y := ⟨0, h⟩
noncomputable def zk_e : Entry := { f := 144, args := zk_a, rS := zk_r, m := fun x => zk_M x.1 x.2.1 }
theorem yS7 : FnOK Tryz.prog zk_e := y1t (g := zk_g) (fn := Tryz.f144) y0I y1i (yB yRN eNil) (by kernel_rfl) (by kernel_rfl) (by kernel_rfl) (fun x y h => let ⟨n, hn⟩ := yQS x.1 x.2.1 y h; ⟨yQD n, iNil, (yST n x).trans hn⟩)

end Go.Tw
end

section
set_option linter.all false
set_option maxRecDepth 1000000
namespace Go.Tw
open Go.Vx Go.Vx.B Go.Proofs
/-! ### tidewayref06.Parse -/
abbrev yN2 : Ty := .pair t9 .unit
abbrev yP4 : Ty := .pair t25 (.pair t3 (.pair t3 .unit))
noncomputable def yQz : G := { T := T, E := [z0g_e, z0E_e, zu_e], mU := [5], fz := [] }
def yRr : List (List Nat) := [[2, 5, 6, 7]]
noncomputable def yLS (n : Nat) : Ann := { keep := yRr, fuel := n, inl := [], deep := 0 }
noncomputable def y2E (n : Nat) (r1 : List (List UInt8) → Int → List Sta → List Tra → Option (Cha × Int × Int × Unit)) (lines6_1 : List (List UInt8)) (i7_1 : Int) (c2_1 : List Sta) (c3_1 : List Tra) (v4 : List (List UInt8) × Unit) (j16 : Bool) : Option (Cha × Int × Int × Unit) :=
  (bif j16 then (bif Decidable.decide ((0 : Int) ≤ (2 : Int)) && Decidable.decide ((2 : Int) ≤ (4 : Int)) && Decidable.decide ((4 : Int) ≤ (↑v4.fst.length : Int)) then (Option.bind (Go.Tw.yJX (List.drop (Int.toNat (2 : Int)) (List.take (Int.toNat (4 : Int)) v4.fst))) fun (v17 : List Int × Bool × Unit) => (bif !v17.snd.fst then Option.some (([], [], ()), i7_1, (26 : Int), ()) else (Option.bind (Go.Vx.idx v4.fst (1 : Int)) fun (v18 : List UInt8) => (Option.bind (Go.Vx.idx v17.fst (0 : Int)) fun (v19 : Int) => (Option.bind (Go.Vx.idx v17.fst (1 : Int)) fun (v20 : Int) => (Option.bind (Go.Vx.idx v4.fst (4 : Int)) fun (v21 : List UInt8) => (bif Decidable.decide (c2_1.length + (1 : Nat) ≤ Go.Vx.memMax) then r1 lines6_1 (Go.IntKind.i64.wrap (i7_1 + (1 : Int))) (c2_1 ++ [(v18, v19, v20, v21 == [(49 : UInt8)], ())]) c3_1 else none))))))) else none) else (bif (↑v4.fst.length : Int) != (6 : Int) then Option.some (([], [], ()), i7_1, (26 : Int), ()) else (Option.bind (Go.Vx.idx v4.fst (0 : Int)) fun (v23 : List UInt8) => (bif !v23 == [(109 : UInt8), (111 : UInt8), (118 : UInt8), (101 : UInt8)] then Option.some (([], [], ()), i7_1, (26 : Int), ()) else (Option.bind (Go.Vx.idx v4.fst (2 : Int)) fun (v24 : List UInt8) => (bif v24 == [] then Option.some (([], [], ()), i7_1, (26 : Int), ()) else (Option.bind (Go.Vx.idx v4.fst (1 : Int)) fun (v29 : List UInt8) => (Option.bind (Go.Vx.idx v4.fst (3 : Int)) fun (v30 : List UInt8) => (Option.bind (Go.Vx.idx v4.fst (4 : Int)) fun (v31 : List UInt8) => (Option.bind (Go.Vx.idx v4.fst (5 : Int)) fun (v32 : List UInt8) => (Option.bind (Go.Tw.yJX [v29, v30, v31, v32]) fun (v33 : List Int × Bool × Unit) => (bif !v33.snd.fst then Option.some (([], [], ()), i7_1, (26 : Int), ()) else (Option.bind (Go.Vx.idx v33.fst (0 : Int)) fun (v34 : Int) => (Option.bind (Go.Vx.idx v4.fst (2 : Int)) fun (v35 : List UInt8) => (Option.bind (Go.Vx.idx v33.fst (1 : Int)) fun (v36 : Int) => (Option.bind (Go.Vx.idx v33.fst (2 : Int)) fun (v37 : Int) => (Option.bind (Go.Vx.idx v33.fst (3 : Int)) fun (v38 : Int) => (bif Decidable.decide (c3_1.length + (1 : Nat) ≤ Go.Vx.memMax) then r1 lines6_1 (Go.IntKind.i64.wrap (i7_1 + (1 : Int))) c2_1 (c3_1 ++ [(v34, v35, v36, v37, v38, ())]) else none))))))))))))))))))

noncomputable def yEu (n : Nat) (r1 : List (List UInt8) → Int → List Sta → List Tra → Option (Cha × Int × Int × Unit)) (lines6_1 : List (List UInt8)) (i7_1 : Int) (c2_1 : List Sta) (c3_1 : List Tra) : Option (Cha × Int × Int × Unit) :=
  (bif Decidable.decide (i7_1 < (↑lines6_1.length : Int)) then (bif i7_1 == Go.IntKind.i64.wrap ((↑lines6_1.length : Int) - (1 : Int)) then (Option.bind (Go.Vx.idx lines6_1 i7_1) fun (v2 : List UInt8) => (bif !v2 == [] then Option.some (([], [], ()), i7_1, (26 : Int), ()) else r1 lines6_1 (Go.IntKind.i64.wrap (i7_1 + (1 : Int))) c2_1 c3_1)) else (Option.bind (Go.Vx.idx lines6_1 i7_1) fun (v3 : List UInt8) => (Option.bind (Go.Tw.yKE v3 (32 : Int)) fun (v4 : List (List UInt8) × Unit) => (bif (↑v4.fst.length : Int) == (5 : Int) then (Option.bind (Go.Vx.idx v4.fst (0 : Int)) fun (v5 : List UInt8) => (bif v5 == [(115 : UInt8), (116 : UInt8), (97 : UInt8), (116 : UInt8), (101 : UInt8)] then (Option.bind (Go.Vx.idx v4.fst (1 : Int)) fun (v6 : List UInt8) => (bif !v6 == [] then (Option.bind (Go.Vx.idx v4.fst (4 : Int)) fun (v7 : List UInt8) => (bif v7 == [(48 : UInt8)] then (y2E n r1 lines6_1 i7_1 c2_1 c3_1 v4 ((↑c3_1.length : Int) == (0 : Int))) else (Option.bind (Go.Vx.idx v4.fst (4 : Int)) fun (v8 : List UInt8) => (bif v8 == [(49 : UInt8)] then (y2E n r1 lines6_1 i7_1 c2_1 c3_1 v4 ((↑c3_1.length : Int) == (0 : Int))) else (y2E n r1 lines6_1 i7_1 c2_1 c3_1 v4 (Bool.false)))))) else (y2E n r1 lines6_1 i7_1 c2_1 c3_1 v4 (Bool.false)))) else (y2E n r1 lines6_1 i7_1 c2_1 c3_1 v4 (Bool.false)))) else (y2E n r1 lines6_1 i7_1 c2_1 c3_1 v4 (Bool.false)))))) else (Option.bind (Go.Tw.zu_M (c2_1, c3_1, ())) fun (v39 : Int × Unit) => (bif v39.fst != (0 : Int) then Option.some (([], [], ()), Go.IntKind.i64.wrap ((↑lines6_1.length : Int) - (1 : Int)), v39.fst, ()) else Option.some ((c2_1, c3_1, ()), (0 : Int), (0 : Int), ()))))

noncomputable def y7J (n : Nat)  (k : Nat) (lines6_1 : List (List UInt8)) (i7_1 : Int) (c2_1 : List Sta) (c3_1 : List Tra) : Option (Cha × Int × Int × Unit) :=
  iter (fun r y => yEu n (fun lines6_1 i7_1 c2_1 c3_1 => r ((lines6_1, (i7_1, ())), (((), ((), (c2_1, (c3_1, ())))), ()))) y.1.1 y.1.2.1 y.2.1.2.2.1 y.2.1.2.2.2.1) k ((lines6_1, (i7_1, ())), (((), ((), (c2_1, (c3_1, ())))), ()))

noncomputable def yKl (n : Nat) (s : List UInt8) : Option (Cha × Int × Int × Unit) :=
  (bif Decidable.decide ((↑s.length : Int) > (1000000 : Int)) then Option.some (([], [], ()), (0 : Int), (27 : Int), ()) else (Option.bind (Go.Tw.yKE s (10 : Int)) fun (v0 : List (List UInt8) × Unit) => (y7J n n (v0.fst) ((0 : Int)) ([]) ([]))))

theorem yPS (n : Nat) (x : yN2.den) : runF yQz (yLS n) Tryz.f12 yN2 yP4 x = yKl n x.1 := by kernel_rfl

noncomputable def y4w (lines6_1 : List (List UInt8)) (i7_1 : Int) (c2_1 : List Sta) (c3_1 : List Tra) (v4 : List (List UInt8) × Unit) (j16 : Bool) : Option ((Cha × Int × Int × Unit) ⊕ ((List Sta) × (List Tra))) :=
  (bif j16 then (bif Decidable.decide ((0 : Int) ≤ (2 : Int)) && Decidable.decide ((2 : Int) ≤ (4 : Int)) && Decidable.decide ((4 : Int) ≤ (↑v4.fst.length : Int)) then (Option.bind (Go.Tw.yJX (List.drop (Int.toNat (2 : Int)) (List.take (Int.toNat (4 : Int)) v4.fst))) fun (v17 : List Int × Bool × Unit) => (bif !v17.snd.fst then (some (Sum.inl ((([], [], ()), i7_1, (26 : Int), ())))) else (Option.bind (Go.Vx.idx v4.fst (1 : Int)) fun (v18 : List UInt8) => (Option.bind (Go.Vx.idx v17.fst (0 : Int)) fun (v19 : Int) => (Option.bind (Go.Vx.idx v17.fst (1 : Int)) fun (v20 : Int) => (Option.bind (Go.Vx.idx v4.fst (4 : Int)) fun (v21 : List UInt8) => (bif Decidable.decide (c2_1.length + (1 : Nat) ≤ Go.Vx.memMax) then (some (Sum.inr ((c2_1 ++ [(v18, v19, v20, v21 == [(49 : UInt8)], ())]), (c3_1)))) else none))))))) else none) else (bif (↑v4.fst.length : Int) != (6 : Int) then (some (Sum.inl ((([], [], ()), i7_1, (26 : Int), ())))) else (Option.bind (Go.Vx.idx v4.fst (0 : Int)) fun (v23 : List UInt8) => (bif !v23 == [(109 : UInt8), (111 : UInt8), (118 : UInt8), (101 : UInt8)] then (some (Sum.inl ((([], [], ()), i7_1, (26 : Int), ())))) else (Option.bind (Go.Vx.idx v4.fst (2 : Int)) fun (v24 : List UInt8) => (bif v24 == [] then (some (Sum.inl ((([], [], ()), i7_1, (26 : Int), ())))) else (Option.bind (Go.Vx.idx v4.fst (1 : Int)) fun (v29 : List UInt8) => (Option.bind (Go.Vx.idx v4.fst (3 : Int)) fun (v30 : List UInt8) => (Option.bind (Go.Vx.idx v4.fst (4 : Int)) fun (v31 : List UInt8) => (Option.bind (Go.Vx.idx v4.fst (5 : Int)) fun (v32 : List UInt8) => (Option.bind (Go.Tw.yJX [v29, v30, v31, v32]) fun (v33 : List Int × Bool × Unit) => (bif !v33.snd.fst then (some (Sum.inl ((([], [], ()), i7_1, (26 : Int), ())))) else (Option.bind (Go.Vx.idx v33.fst (0 : Int)) fun (v34 : Int) => (Option.bind (Go.Vx.idx v4.fst (2 : Int)) fun (v35 : List UInt8) => (Option.bind (Go.Vx.idx v33.fst (1 : Int)) fun (v36 : Int) => (Option.bind (Go.Vx.idx v33.fst (2 : Int)) fun (v37 : Int) => (Option.bind (Go.Vx.idx v33.fst (3 : Int)) fun (v38 : Int) => (bif Decidable.decide (c3_1.length + (1 : Nat) ≤ Go.Vx.memMax) then (some (Sum.inr ((c2_1), (c3_1 ++ [(v34, v35, v36, v37, v38, ())])))) else none))))))))))))))))))

theorem yz (n : Nat) (hn : big ≤ n)  (r1 : List (List UInt8) → Int → List Sta → List Tra → Option (Cha × Int × Int × Unit)) (lines6_1 : List (List UInt8)) (i7_1 : Int) (c2_1 : List Sta) (c3_1 : List Tra) (v4 : List (List UInt8) × Unit) (j16 : Bool) : LeF (elim some fun (s__ : ((List Sta) × (List Tra))) => r1 lines6_1 (Go.IntKind.i64.wrap (i7_1 + 1)) s__.1 s__.2) (y4w lines6_1 i7_1 c2_1 c3_1 v4 j16) (y2E n r1 lines6_1 i7_1 c2_1 c3_1 v4 j16) :=
  (y4 (y4 (yA fun v17 => (y4 (y6 rfl) (yA fun v18 => (yA fun v19 => (yA fun v20 => (yA fun v21 => (y4 (y6 rfl) yL))))))) yL) (y4 (y6 rfl) (yA fun v23 => (y4 (y6 rfl) (yA fun v24 => (y4 (y6 rfl) (yA fun v29 => (yA fun v30 => (yA fun v31 => (yA fun v32 => (yA fun v33 => (y4 (y6 rfl) (yA fun v34 => (yA fun v35 => (yA fun v36 => (yA fun v37 => (yA fun v38 => (y4 (y6 rfl) yL))))))))))))))))))

noncomputable def yIB (lines6_1 : List (List UInt8)) (i7_1 : Int) (c2_1 : List Sta) (c3_1 : List Tra) : Option ((Cha × Int × Int × Unit) ⊕ ((List Sta) × (List Tra))) :=
  (bif i7_1 == Go.IntKind.i64.wrap ((↑lines6_1.length : Int) - (1 : Int)) then (Option.bind (Go.Vx.idx lines6_1 i7_1) fun (v2 : List UInt8) => (bif !v2 == [] then (some (Sum.inl ((([], [], ()), i7_1, (26 : Int), ())))) else (some (Sum.inr ((c2_1), (c3_1)))))) else (Option.bind (Go.Vx.idx lines6_1 i7_1) fun (v3 : List UInt8) => (Option.bind (Go.Tw.yKE v3 (32 : Int)) fun (v4 : List (List UInt8) × Unit) => (bif (↑v4.fst.length : Int) == (5 : Int) then (Option.bind (Go.Vx.idx v4.fst (0 : Int)) fun (v5 : List UInt8) => (bif v5 == [(115 : UInt8), (116 : UInt8), (97 : UInt8), (116 : UInt8), (101 : UInt8)] then (Option.bind (Go.Vx.idx v4.fst (1 : Int)) fun (v6 : List UInt8) => (bif !v6 == [] then (Option.bind (Go.Vx.idx v4.fst (4 : Int)) fun (v7 : List UInt8) => (bif v7 == [(48 : UInt8)] then (y4w lines6_1 i7_1 c2_1 c3_1 v4 ((↑c3_1.length : Int) == (0 : Int))) else (Option.bind (Go.Vx.idx v4.fst (4 : Int)) fun (v8 : List UInt8) => (bif v8 == [(49 : UInt8)] then (y4w lines6_1 i7_1 c2_1 c3_1 v4 ((↑c3_1.length : Int) == (0 : Int))) else (y4w lines6_1 i7_1 c2_1 c3_1 v4 (Bool.false)))))) else (y4w lines6_1 i7_1 c2_1 c3_1 v4 (Bool.false)))) else (y4w lines6_1 i7_1 c2_1 c3_1 v4 (Bool.false)))) else (y4w lines6_1 i7_1 c2_1 c3_1 v4 (Bool.false))))))

noncomputable def yHb (lines6_1 : List (List UInt8)) (c2_1 : List Sta) (c3_1 : List Tra) : Option (Cha × Int × Int × Unit) :=
  (Option.bind (Go.Tw.zu_M (c2_1, c3_1, ())) fun (v39 : Int × Unit) => (bif v39.fst != (0 : Int) then (some ((([], [], ()), Go.IntKind.i64.wrap ((↑lines6_1.length : Int) - (1 : Int)), v39.fst, ()))) else (some (((c2_1, c3_1, ()), (0 : Int), (0 : Int), ())))))

theorem yDv (n : Nat) (hn : big ≤ n)  (lines6_1 : List (List UInt8)) (c2_1 : List Sta) (c3_1 : List Tra) (hx : ((↑lines6_1.length : Int)) ≤ (9223372036854775807 : Int)) : LeF some (y44 (fun i__ s__ => yIB lines6_1 i__ s__.1 s__.2) (fun s__ => yHb lines6_1 s__.1 s__.2) (((↑lines6_1.length : Int)) - 0).toNat 0 (c2_1, c3_1)) (y7J n n lines6_1 0 c2_1 c3_1) := by
  refine y6y (f := some) (W := fun k__ i__ s__ => y7J n k__ lines6_1 i__ s__.1 s__.2) (body := (fun i__ s__ => yIB lines6_1 i__ s__.1 s__.2)) (fin := (fun s__ => yHb lines6_1 s__.1 s__.2)) (fun k__ i__ s__ => ?_) hx (c2_1, c3_1) n 0 (by decide) (by unfold big at hn; omega)
  show LeF _ _ (yEu n (y7J n k__) lines6_1 i__ s__.1 s__.2)
  exact y4 (y4 (yA fun v2 => (y4 (y6 rfl) (y6 rfl))) (yA fun v3 => (yA fun v4 => (y4 (yA fun v5 => (y4 (yA fun v6 => (y4 (yA fun v7 => (y4 (by apply yz n hn) (yA fun v8 => (y4 (by apply yz n hn) (by apply yz n hn))))) (by apply yz n hn))) (by apply yz n hn))) (by apply yz n hn))))) (y0R (yA fun v39 => (y4 (y6 rfl) (y6 rfl))))

noncomputable def yKP (s : List UInt8) : Option (Cha × Int × Int × Unit) :=
  (bif Decidable.decide ((↑s.length : Int) > (1000000 : Int)) then (some ((([], [], ()), (0 : Int), (27 : Int), ()))) else (Option.bind (Go.Tw.yKE s (10 : Int)) fun (v0 : List (List UInt8) × Unit) => (bif decide (((↑v0.fst.length : Int)) ≤ (9223372036854775807 : Int)) then y44 (fun i__ s__ => yIB (v0.fst) i__ s__.1 s__.2) (fun s__ => yHb (v0.fst) s__.1 s__.2) (((↑v0.fst.length : Int)) - 0).toNat 0 (([]), ([])) else none)))

theorem yO7 (s : List UInt8) (y : Cha × Int × Int × Unit) (h : yKP s = some y) : ∃ n, yKl n s = some y :=
  ⟨big, LeF.top (show LeF some (yKP s) (yKl big s) from (fun (n : Nat) (hn : big ≤ n) => show LeF some (yKP s) (yKl n s) from (y4 (y6 rfl) (yA fun v0 => (yW fun hx => by apply yDv n hn; exact hx)))) big (Nat.le_refl _)) h⟩
noncomputable def z0h_e : Entry := { f := 12, args := yN2, rS := yP4, m := fun x => yKP x.1 }
theorem yQi : FnOK Tryz.prog z0h_e := y1t (g := yQz) (fn := Tryz.f12) y0I y1i (yB yOI (yB yQ1 (yB yM6 eNil))) (by kernel_rfl) (by kernel_rfl) (by kernel_rfl) (fun x y h => let ⟨n, hn⟩ := yO7 x.1 y h; ⟨yLS n, iNil, (yPS n x).trans hn⟩)

/-! ### gate.integer -/
abbrev yO6 : Ty := .pair t9 .unit
abbrev yQc : Ty := .pair t3 (.pair t4 .unit)
noncomputable def yQM : G := { T := T, E := [zk_e], mU := [], fz := [] }
def yRe : List (List Nat) := [[4, 5, 6, 16]]
noncomputable def yLX (n : Nat) : Ann := { keep := yRe, fuel := n, inl := [], deep := 0 }
noncomputable def yF3 (n : Nat) (r1 : List UInt8 → Bool → Int → List UInt8 → Int → Option (Int × Bool × Unit)) (body4_1 : List UInt8) (minus5_1 : Bool) (n6_1 : Int) (str0__1 : List UInt8) (pos0__1 : Int) : Option (Int × Bool × Unit) :=
  (bif Decidable.decide (pos0__1 < (↑str0__1.length : Int)) then (bif Decidable.decide ((Go.Vx.yg str0__1 pos0__1).fst < (48 : Int)) then Option.some ((0 : Int), Bool.false, ()) else (bif Decidable.decide ((Go.Vx.yg str0__1 pos0__1).fst > (57 : Int)) then Option.some ((0 : Int), Bool.false, ()) else (bif Decidable.decide ((↑body4_1.length : Int) > (9 : Int)) then Option.some ((0 : Int), Bool.false, ()) else r1 body4_1 minus5_1 (Go.IntKind.i64.wrap (Go.IntKind.i64.wrap ((10 : Int) * n6_1) + Go.IntKind.i64.wrap (Go.IntKind.i32.wrap ((Go.Vx.yg str0__1 pos0__1).fst - (48 : Int))))) str0__1 (Go.Vx.yg str0__1 pos0__1).snd))) else (bif !body4_1 == [] then (bif (↑body4_1.length : Int) == (1 : Int) then (bif minus5_1 then Option.some (Go.IntKind.i64.wrap ((0 : Int) - n6_1), Decidable.decide (n6_1 > (0 : Int)), ()) else Option.some (n6_1, Bool.true, ())) else (Option.bind (Go.Vx.idx body4_1 (0 : Int)) fun (v7 : UInt8) => (bif minus5_1 then (bif (↑v7.toNat : Int) != (48 : Int) then Option.some (Go.IntKind.i64.wrap ((0 : Int) - n6_1), Decidable.decide (n6_1 > (0 : Int)), ()) else Option.some (Go.IntKind.i64.wrap ((0 : Int) - n6_1), Bool.false, ())) else Option.some (n6_1, (↑v7.toNat : Int) != (48 : Int), ())))) else (bif minus5_1 then Option.some (Go.IntKind.i64.wrap ((0 : Int) - n6_1), Bool.false, ()) else Option.some (n6_1, Bool.false, ()))))

noncomputable def y7K (n : Nat)  (k : Nat) (body4_1 : List UInt8) (minus5_1 : Bool) (n6_1 : Int) (str0__1 : List UInt8) (pos0__1 : Int) : Option (Int × Bool × Unit) :=
  iter (fun r y => yF3 n (fun body4_1 minus5_1 n6_1 str0__1 pos0__1 => r ((body4_1, (minus5_1, (n6_1, ()))), (((str0__1, pos0__1), ()), ()))) y.1.1 y.1.2.1 y.1.2.2.1 y.2.1.1.1 y.2.1.1.2) k ((body4_1, (minus5_1, (n6_1, ()))), (((str0__1, pos0__1), ()), ()))

noncomputable def yKa (n : Nat) (s : List UInt8) : Option (Int × Bool × Unit) :=
  (Option.bind (Go.Tw.zk_M s [(45 : UInt8)]) fun (v0 : List UInt8 × Bool × Unit) => (y7K n n (v0.fst) (v0.snd.fst) ((0 : Int)) (v0.fst) ((0 : Int))))

theorem yOF (n : Nat) (x : yO6.den) : runF yQM (yLX n) Tryz.f125 yO6 yQc x = yKa n x.1 := by kernel_rfl

noncomputable def y1u (body4_1 : List UInt8) (minus5_1 : Bool) (str0__1 : List UInt8) (pos0__1 : Int) (n6_1 : Int) : Option ((Int × Bool × Unit) ⊕ (Int)) :=
  (bif Decidable.decide ((Go.Vx.yg str0__1 pos0__1).fst < (48 : Int)) then (some (Sum.inl (((0 : Int), Bool.false, ())))) else (bif Decidable.decide ((Go.Vx.yg str0__1 pos0__1).fst > (57 : Int)) then (some (Sum.inl (((0 : Int), Bool.false, ())))) else (bif Decidable.decide ((↑body4_1.length : Int) > (9 : Int)) then (some (Sum.inl (((0 : Int), Bool.false, ())))) else (some (Sum.inr (Go.IntKind.i64.wrap (Go.IntKind.i64.wrap ((10 : Int) * n6_1) + Go.IntKind.i64.wrap (Go.IntKind.i32.wrap ((Go.Vx.yg str0__1 pos0__1).fst - (48 : Int))))))))))

noncomputable def y5Q (body4_1 : List UInt8) (minus5_1 : Bool) (str0__1 : List UInt8) (n6_1 : Int) : Option (Int × Bool × Unit) :=
  (bif !body4_1 == [] then (bif (↑body4_1.length : Int) == (1 : Int) then (bif minus5_1 then (some ((Go.IntKind.i64.wrap ((0 : Int) - n6_1), Decidable.decide (n6_1 > (0 : Int)), ()))) else (some ((n6_1, Bool.true, ())))) else (Option.bind (Go.Vx.idx body4_1 (0 : Int)) fun (v7 : UInt8) => (bif minus5_1 then (bif (↑v7.toNat : Int) != (48 : Int) then (some ((Go.IntKind.i64.wrap ((0 : Int) - n6_1), Decidable.decide (n6_1 > (0 : Int)), ()))) else (some ((Go.IntKind.i64.wrap ((0 : Int) - n6_1), Bool.false, ())))) else (some ((n6_1, (↑v7.toNat : Int) != (48 : Int), ())))))) else (bif minus5_1 then (some ((Go.IntKind.i64.wrap ((0 : Int) - n6_1), Bool.false, ()))) else (some ((n6_1, Bool.false, ())))))

theorem yCy (n : Nat) (hn : big ≤ n)  (body4_1 : List UInt8) (minus5_1 : Bool) (str0__1 : List UInt8) (n6_1 : Int) (hx : List.length (str0__1) < lenMax) : LeF some (y3W (str0__1) (fun i__ s__ => y1u body4_1 minus5_1 str0__1 i__ s__) (fun s__ => y5Q body4_1 minus5_1 str0__1 s__) (List.length (str0__1)) 0 n6_1) (y7K n n body4_1 minus5_1 n6_1 str0__1 0) := by
  refine yFP (f := some) (W := fun k__ i__ s__ => y7K n k__ body4_1 minus5_1 s__ str0__1 i__) (body := (fun i__ s__ => y1u body4_1 minus5_1 str0__1 i__ s__)) (fin := (fun s__ => y5Q body4_1 minus5_1 str0__1 s__)) (fun k__ i__ s__ => ?_) n6_1 n (by unfold big at hn; unfold lenMax at hx; omega)
  show LeF _ _ (yF3 n (y7K n k__) body4_1 minus5_1 s__ str0__1 i__)
  exact y4 (y4 (y6 rfl) (y4 (y6 rfl) (y4 (y6 rfl) (y6 rfl)))) (y0R (y4 (y4 (y4 (y6 rfl) (y6 rfl)) (yA fun v7 => (y4 (y4 (y6 rfl) (y6 rfl)) (y6 rfl)))) (y4 (y6 rfl) (y6 rfl))))

noncomputable def yBM (s : List UInt8) : Option (Int × Bool × Unit) :=
  (Option.bind (Go.Tw.zk_M s [(45 : UInt8)]) fun (v0 : List UInt8 × Bool × Unit) => (bif decide (List.length (v0.fst) < lenMax) then y3W (v0.fst) (fun i__ s__ => y1u (v0.fst) (v0.snd.fst) (v0.fst) i__ s__) (fun s__ => y5Q (v0.fst) (v0.snd.fst) (v0.fst) s__) (List.length (v0.fst)) 0 ((0 : Int)) else none))

theorem yMM (s : List UInt8) (y : Int × Bool × Unit) (h : yBM s = some y) : ∃ n, yKa n s = some y :=
  ⟨big, LeF.top (show LeF some (yBM s) (yKa big s) from (fun (n : Nat) (hn : big ≤ n) => show LeF some (yBM s) (yKa n s) from (yA fun v0 => (yW fun hx => by apply yCy n hn; exact hx))) big (Nat.le_refl _)) h⟩
noncomputable def z0I_e : Entry := { f := 125, args := yO6, rS := yQc, m := fun x => yBM x.1 }
theorem yOT : FnOK Tryz.prog z0I_e := y1t (g := yQM) (fn := Tryz.f125) y0I y1i (yB yS7 eNil) (by kernel_rfl) (by kernel_rfl) (by kernel_rfl) (fun x y h => let ⟨n, hn⟩ := yMM x.1 y h; ⟨yLX n, iNil, (yOF n x).trans hn⟩)

end Go.Tw
end
