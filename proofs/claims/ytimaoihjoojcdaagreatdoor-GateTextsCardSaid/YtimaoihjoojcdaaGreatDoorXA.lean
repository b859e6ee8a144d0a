/- Models of the program's functions, by program (gen.py), and what they compute.
Models of the program's functions, by program (gen.py), and what they compute.
Models of the program's functions, by program (gen.py), and what they compute.
Models of the program's functions, by program (gen.py), and what they compute. -/
import Derived.Test.YtimaoihjoojcdaaGreatDoorBT
import Derived.Test.YtimaoihjoojcdaaGreatDoorB0
import Derived.Test.YtimaoihjoojcdaaGreatDoorSA
import Derived.Test.YtimaoihjoojcdaaGreatDoorLQ
import Derived.Test.YtimaoihjoojcdaaGreatDoorLR
import Derived.Test.YtimaoihjoojcdaaGreatDoorBA
import Derived.Test.YtimaoihjoojcdaaGreatDoorBC
import Derived.Test.YtimaoihjoojcdaaGreatDoorBD

section
set_option linter.all false
set_option maxRecDepth 1000000
namespace Go.Tw
open Go.Vx Go.Vx.B Go.Proofs
/-! ### tidewayref06.SameChart -/
abbrev yN9 : Ty := .pair t25 (.pair t25 .unit)
abbrev yOF : Ty := .pair t4 .unit
noncomputable def yNt : G := { T := T, E := [], mU := [], fz := [] }
def yR1 : List (List Nat) := [[2, 3, 5], [2, 3, 6]]
noncomputable def yL7 (n : Nat) : Ann := { keep := yR1, fuel := n, inl := [], deep := 0 }
noncomputable def yF8 (n : Nat) (r5 : Cha → Cha → Int → Option (Bool × Unit)) (a2_5 : Cha) (b3_5 : Cha) (i6_5 : Int) : Option (Bool × Unit) :=
  (bif Decidable.decide (i6_5 < (↑a2_5.snd.fst.length : Int)) then (Option.bind (Go.Vx.idx a2_5.snd.fst i6_5) fun (v6 : Tra) => (Option.bind (Go.Vx.idx b3_5.snd.fst i6_5) fun (v7 : Tra) => (bif !Go.Vx.eqV ((Go.Vx.Ty.int Go.IntKind.i64).pair (Go.Vx.Ty.str.pair ((Go.Vx.Ty.int Go.IntKind.i64).pair ((Go.Vx.Ty.int Go.IntKind.i64).pair ((Go.Vx.Ty.int Go.IntKind.i64).pair Go.Vx.Ty.unit))))) v6 v7 then Option.some (Bool.false, ()) else r5 a2_5 b3_5 (Go.IntKind.i64.wrap (i6_5 + (1 : Int)))))) else Option.some (Bool.true, ()))

noncomputable def y6r (n : Nat)  (k : Nat) (a2_5 : Cha) (b3_5 : Cha) (i6_5 : Int) : Option (Bool × Unit) :=
  iter (fun r y => yF8 n (fun a2_5 b3_5 i6_5 => r ((a2_5, (b3_5, (i6_5, ()))), ((), ()))) y.1.1 y.1.2.1 y.1.2.2.1) k ((a2_5, (b3_5, (i6_5, ()))), ((), ()))

noncomputable def yFY (n : Nat) (r2 : Cha → Cha → Int → Option (Bool × Unit)) (a2_2 : Cha) (b3_2 : Cha) (i5_2 : Int) : Option (Bool × Unit) :=
  (bif Decidable.decide (i5_2 < (↑a2_2.fst.length : Int)) then (Option.bind (Go.Vx.idx a2_2.fst i5_2) fun (v3 : Sta) => (Option.bind (Go.Vx.idx b3_2.fst i5_2) fun (v4 : Sta) => (bif !Go.Vx.eqV (Go.Vx.Ty.str.pair ((Go.Vx.Ty.int Go.IntKind.i64).pair ((Go.Vx.Ty.int Go.IntKind.i64).pair (Go.Vx.Ty.bool.pair Go.Vx.Ty.unit)))) v3 v4 then Option.some (Bool.false, ()) else r2 a2_2 b3_2 (Go.IntKind.i64.wrap (i5_2 + (1 : Int)))))) else (y6r n n (a2_2) (b3_2) ((0 : Int))))

noncomputable def y7J (n : Nat)  (k : Nat) (a2_2 : Cha) (b3_2 : Cha) (i5_2 : Int) : Option (Bool × Unit) :=
  iter (fun r y => yFY n (fun a2_2 b3_2 i5_2 => r ((a2_2, (b3_2, (i5_2, ()))), ((), ()))) y.1.1 y.1.2.1 y.1.2.2.1) k ((a2_2, (b3_2, (i5_2, ()))), ((), ()))

noncomputable def yKR (n : Nat) (a : Cha) (b : Cha) : Option (Bool × Unit) :=
  (bif (↑a.fst.length : Int) != (↑b.fst.length : Int) then Option.some (Bool.false, ()) else (bif (↑a.snd.fst.length : Int) != (↑b.snd.fst.length : Int) then Option.some (Bool.false, ()) else (y7J n n (a) (b) ((0 : Int)))))

theorem yNm (n : Nat) (x : yN9.den) : runF yNt (yL7 n) Tryz.f13 yN9 yOF x = yKR n x.1 x.2.1 := by kernel_rfl

noncomputable def y9L (a2_5 : Cha) (b3_5 : Cha) (i6_5 : Int) (v6 : Tra) : Option ((Bool × Unit) ⊕ Unit) :=
  (Option.bind (Go.Vx.idx b3_5.snd.fst i6_5) fun (v7 : Tra) => (bif !Go.Vx.eqV ((Go.Vx.Ty.int Go.IntKind.i64).pair (Go.Vx.Ty.str.pair ((Go.Vx.Ty.int Go.IntKind.i64).pair ((Go.Vx.Ty.int Go.IntKind.i64).pair ((Go.Vx.Ty.int Go.IntKind.i64).pair Go.Vx.Ty.unit))))) v6 v7 then (some (Sum.inl ((Bool.false, ())))) else (some (Sum.inr ()))))

noncomputable def yEg (a2_5 : Cha) (b3_5 : Cha) : Option (Bool × Unit) :=
  (some ((Bool.true, ())))

theorem yD1 (n : Nat) (hn : big ≤ n)  (a2_5 : Cha) (b3_5 : Cha) (hx : List.length (a2_5.snd.fst) < lenMax) : LeF some (yI (fun i__ e__ s__ => y9L a2_5 b3_5 i__ e__) (fun s__ => yEg a2_5 b3_5) 0 (a2_5.snd.fst) ()) (y6r n n a2_5 b3_5 0) := by
  refine yQ (f := some) (W := fun k__ i__ s__ => y6r n k__ a2_5 b3_5 i__) (body := (fun i__ e__ s__ => y9L a2_5 b3_5 i__ e__)) (fin := (fun s__ => yEg a2_5 b3_5)) (fun k__ i__ s__ => ?_) hx () n (by unfold big at hn; unfold lenMax at hx; omega)
  show LeF _ _ (yF8 n (y6r n k__) a2_5 b3_5 i__)
  exact y4 (yA fun v6 => (yA fun v7 => (y4 (y6 rfl) (y6 rfl)))) (y0R (y6 rfl))

noncomputable def y9B (a2_2 : Cha) (b3_2 : Cha) (i5_2 : Int) (v3 : Sta) : Option ((Bool × Unit) ⊕ Unit) :=
  (Option.bind (Go.Vx.idx b3_2.fst i5_2) fun (v4 : Sta) => (bif !Go.Vx.eqV (Go.Vx.Ty.str.pair ((Go.Vx.Ty.int Go.IntKind.i64).pair ((Go.Vx.Ty.int Go.IntKind.i64).pair (Go.Vx.Ty.bool.pair Go.Vx.Ty.unit)))) v3 v4 then (some (Sum.inl ((Bool.false, ())))) else (some (Sum.inr ()))))

noncomputable def yBR (a2_2 : Cha) (b3_2 : Cha) : Option (Bool × Unit) :=
  (bif decide (List.length (a2_2.snd.fst) < lenMax) then yI (fun i__ e__ s__ => y9L (a2_2) (b3_2) i__ e__) (fun s__ => yEg (a2_2) (b3_2)) 0 (a2_2.snd.fst) () else none)

theorem yDh (n : Nat) (hn : big ≤ n)  (a2_2 : Cha) (b3_2 : Cha) (hx : List.length (a2_2.fst) < lenMax) : LeF some (yI (fun i__ e__ s__ => y9B a2_2 b3_2 i__ e__) (fun s__ => yBR a2_2 b3_2) 0 (a2_2.fst) ()) (y7J n n a2_2 b3_2 0) := by
  refine yQ (f := some) (W := fun k__ i__ s__ => y7J n k__ a2_2 b3_2 i__) (body := (fun i__ e__ s__ => y9B a2_2 b3_2 i__ e__)) (fin := (fun s__ => yBR a2_2 b3_2)) (fun k__ i__ s__ => ?_) hx () n (by unfold big at hn; unfold lenMax at hx; omega)
  show LeF _ _ (yFY n (y7J n k__) a2_2 b3_2 i__)
  exact y4 (yA fun v3 => (yA fun v4 => (y4 (y6 rfl) (y6 rfl)))) (y0R (yY fun hx => by apply yD1 n hn; exact hx))

noncomputable def yGX (a : Cha) (b : Cha) : Option (Bool × Unit) :=
  (bif (↑a.fst.length : Int) != (↑b.fst.length : Int) then (some ((Bool.false, ()))) else (bif (↑a.snd.fst.length : Int) != (↑b.snd.fst.length : Int) then (some ((Bool.false, ()))) else (bif decide (List.length (a.fst) < lenMax) then yI (fun i__ e__ s__ => y9B (a) (b) i__ e__) (fun s__ => yBR (a) (b)) 0 (a.fst) () else none)))

theorem yM1 (a : Cha) (b : Cha) (y : Bool × Unit) (h : yGX a b = some y) : ∃ n, yKR n a b = some y :=
  ⟨big, LeF.top (show LeF some (yGX a b) (yKR big a b) from (fun (n : Nat) (hn : big ≤ n) => show LeF some (yGX a b) (yKR n a b) from (y4 (y6 rfl) (y4 (y6 rfl) (yY fun hx => by apply yDh n hn; exact hx)))) big (Nat.le_refl _)) h⟩
noncomputable def z02_e : Entry := { f := 13, args := yN9, rS := yOF, m := fun x => yGX x.1 x.2.1 }
theorem yOa : FnOK Tryz.prog z02_e := y20 (g := yNt) (fn := Tryz.f13) y0L y1s eNil (by kernel_rfl) (by kernel_rfl) (by kernel_rfl) (fun x y h => let ⟨n, hn⟩ := yM1 x.1 x.2.1 y h; ⟨yL7 n, iNil, (yNm n x).trans hn⟩)

/-! ### tidewaylaw06.own -/
abbrev yMu : Ty := .pair t34 .unit
abbrev yP7 : Ty := .pair t25 .unit
noncomputable def yNg : G := { T := T, E := [], mU := [3], fz := [] }
def yR3 : List (List Nat) := [[1, 2, 3, 9, 10, 11], [2, 3, 23, 24, 25]]
noncomputable def yLL (n : Nat) : Ann := { keep := yR3, fuel := n, inl := [], deep := 0 }
noncomputable def yE3 (n : Nat) (r2 : List Tra → Int → Int → List Sta → List Tra → Option (Cha × Unit)) (t23_2 : List Tra) (t24_2 : Int) (t25_2 : Int) (cs2_2 : List Sta) (cs3_2 : List Tra) : Option (Cha × Unit) :=
  (bif Decidable.decide (t25_2 < t24_2) then (Option.bind (Go.Vx.idx t23_2 t25_2) fun (v3 : Tra) => (bif Decidable.decide (cs3_2.length + (1 : Nat) ≤ Go.Vx.memMax) then r2 t23_2 t24_2 (Go.IntKind.i64.wrap (t25_2 + (1 : Int))) cs2_2 (cs3_2 ++ [(v3.fst, v3.snd.fst, v3.snd.snd.fst, v3.snd.snd.snd.fst, v3.snd.snd.snd.snd.fst, ())]) else none)) else Option.some ((cs2_2, cs3_2, ()), ()))

noncomputable def y6w (n : Nat)  (k : Nat) (t23_2 : List Tra) (t24_2 : Int) (t25_2 : Int) (cs2_2 : List Sta) (cs3_2 : List Tra) : Option (Cha × Unit) :=
  iter (fun r y => yE3 n (fun t23_2 t24_2 t25_2 cs2_2 cs3_2 => r ((t23_2, (t24_2, (t25_2, ()))), (((), ((), (cs2_2, (cs3_2, ())))), ()))) y.1.1 y.1.2.1 y.1.2.2.1 y.2.1.2.2.1 y.2.1.2.2.2.1) k ((t23_2, (t24_2, (t25_2, ()))), (((), ((), (cs2_2, (cs3_2, ())))), ()))

noncomputable def yFI (n : Nat) (r0 : Cha → List Sta → Int → Int → List Sta → List Tra → Option (Cha × Unit)) (c1_0 : Cha) (t9_0 : List Sta) (t10_0 : Int) (t11_0 : Int) (cs2_0 : List Sta) (cs3_0 : List Tra) : Option (Cha × Unit) :=
  (bif Decidable.decide (t11_0 < t10_0) then (Option.bind (Go.Vx.idx t9_0 t11_0) fun (v1 : Sta) => (bif Decidable.decide (cs2_0.length + (1 : Nat) ≤ Go.Vx.memMax) then r0 c1_0 t9_0 t10_0 (Go.IntKind.i64.wrap (t11_0 + (1 : Int))) (cs2_0 ++ [(v1.fst, v1.snd.fst, v1.snd.snd.fst, v1.snd.snd.snd.fst, ())]) cs3_0 else none)) else (y6w n n (c1_0.snd.fst) ((↑c1_0.snd.fst.length : Int)) ((0 : Int)) (cs2_0) (cs3_0)))

noncomputable def y6t (n : Nat)  (k : Nat) (c1_0 : Cha) (t9_0 : List Sta) (t10_0 : Int) (t11_0 : Int) (cs2_0 : List Sta) (cs3_0 : List Tra) : Option (Cha × Unit) :=
  iter (fun r y => yFI n (fun c1_0 t9_0 t10_0 t11_0 cs2_0 cs3_0 => r ((c1_0, (t9_0, (t10_0, (t11_0, ())))), (((), ((), (cs2_0, (cs3_0, ())))), ()))) y.1.1 y.1.2.1 y.1.2.2.1 y.1.2.2.2.1 y.2.1.2.2.1 y.2.1.2.2.2.1) k ((c1_0, (t9_0, (t10_0, (t11_0, ())))), (((), ((), (cs2_0, (cs3_0, ())))), ()))

noncomputable def yKl (n : Nat) (c : Cha) : Option (Cha × Unit) :=
  (y6t n n (c) (c.fst) ((↑c.fst.length : Int)) ((0 : Int)) ([]) ([]))

theorem yPl (n : Nat) (x : yMu.den) : runF yNg (yLL n) Tryz.f14 yMu yP7 x = yKl n x.1 := by kernel_rfl

noncomputable def y9p (t23_2 : List Tra) (cs2_2 : List Sta) (t25_2 : Int) (v3 : Tra) (cs3_2 : List Tra) : Option ((Cha × Unit) ⊕ (List Tra)) :=
  (bif Decidable.decide (cs3_2.length + (1 : Nat) ≤ Go.Vx.memMax) then (some (Sum.inr (cs3_2 ++ [(v3.fst, v3.snd.fst, v3.snd.snd.fst, v3.snd.snd.snd.fst, v3.snd.snd.snd.snd.fst, ())]))) else none)

noncomputable def yCe (t23_2 : List Tra) (cs2_2 : List Sta) (cs3_2 : List Tra) : Option (Cha × Unit) :=
  (some (((cs2_2, cs3_2, ()), ())))

theorem yCt (n : Nat) (hn : big ≤ n)  (t23_2 : List Tra) (cs2_2 : List Sta) (cs3_2 : List Tra) (hx : List.length (t23_2) < lenMax) : LeF some (yI (fun i__ e__ s__ => y9p t23_2 cs2_2 i__ e__ s__) (fun s__ => yCe t23_2 cs2_2 s__) 0 (t23_2) cs3_2) (y6w n n t23_2 (List.length (t23_2) : Int) 0 cs2_2 cs3_2) := by
  refine yQ (f := some) (W := fun k__ i__ s__ => y6w n k__ t23_2 (List.length (t23_2) : Int) i__ cs2_2 s__) (body := (fun i__ e__ s__ => y9p t23_2 cs2_2 i__ e__ s__)) (fin := (fun s__ => yCe t23_2 cs2_2 s__)) (fun k__ i__ s__ => ?_) hx cs3_2 n (by unfold big at hn; unfold lenMax at hx; omega)
  show LeF _ _ (yE3 n (y6w n k__) t23_2 (List.length (t23_2) : Int) i__ cs2_2 s__)
  exact y4 (yA fun v3 => (y4 (y6 rfl) yM)) (y0R (y6 rfl))

noncomputable def y9D (c1_0 : Cha) (t9_0 : List Sta) (cs3_0 : List Tra) (t11_0 : Int) (v1 : Sta) (cs2_0 : List Sta) : Option ((Cha × Unit) ⊕ (List Sta)) :=
  (bif Decidable.decide (cs2_0.length + (1 : Nat) ≤ Go.Vx.memMax) then (some (Sum.inr (cs2_0 ++ [(v1.fst, v1.snd.fst, v1.snd.snd.fst, v1.snd.snd.snd.fst, ())]))) else none)

noncomputable def yBa (c1_0 : Cha) (t9_0 : List Sta) (cs3_0 : List Tra) (cs2_0 : List Sta) : Option (Cha × Unit) :=
  (bif decide (List.length (c1_0.snd.fst) < lenMax) then yI (fun i__ e__ s__ => y9p (c1_0.snd.fst) (cs2_0) i__ e__ s__) (fun s__ => yCe (c1_0.snd.fst) (cs2_0) s__) 0 (c1_0.snd.fst) (cs3_0) else none)

theorem yDZ (n : Nat) (hn : big ≤ n)  (c1_0 : Cha) (t9_0 : List Sta) (cs3_0 : List Tra) (cs2_0 : List Sta) (hx : List.length (t9_0) < lenMax) : LeF some (yI (fun i__ e__ s__ => y9D c1_0 t9_0 cs3_0 i__ e__ s__) (fun s__ => yBa c1_0 t9_0 cs3_0 s__) 0 (t9_0) cs2_0) (y6t n n c1_0 t9_0 (List.length (t9_0) : Int) 0 cs2_0 cs3_0) := by
  refine yQ (f := some) (W := fun k__ i__ s__ => y6t n k__ c1_0 t9_0 (List.length (t9_0) : Int) i__ s__ cs3_0) (body := (fun i__ e__ s__ => y9D c1_0 t9_0 cs3_0 i__ e__ s__)) (fin := (fun s__ => yBa c1_0 t9_0 cs3_0 s__)) (fun k__ i__ s__ => ?_) hx cs2_0 n (by unfold big at hn; unfold lenMax at hx; omega)
  show LeF _ _ (yFI n (y6t n k__) c1_0 t9_0 (List.length (t9_0) : Int) i__ s__ cs3_0)
  exact y4 (yA fun v1 => (y4 (y6 rfl) yM)) (y0R (yY fun hx => by apply yCt n hn; exact hx))

noncomputable def yGn (c : Cha) : Option (Cha × Unit) :=
  (bif decide (List.length (c.fst) < lenMax) then yI (fun i__ e__ s__ => y9D (c) (c.fst) ([]) i__ e__ s__) (fun s__ => yBa (c) (c.fst) ([]) s__) 0 (c.fst) ([]) else none)

theorem yM4 (c : Cha) (y : Cha × Unit) (h : yGn c = some y) : ∃ n, yKl n c = some y :=
  ⟨big, LeF.top (show LeF some (yGn c) (yKl big c) from (fun (n : Nat) (hn : big ≤ n) => show LeF some (yGn c) (yKl n c) from (yY fun hx => by apply yDZ n hn; exact hx)) big (Nat.le_refl _)) h⟩
noncomputable def z0y_e : Entry := { f := 14, args := yMu, rS := yP7, m := fun x => yGn x.1 }
theorem yPt : FnOK Tryz.prog z0y_e := y20 (g := yNg) (fn := Tryz.f14) y0L y1s eNil (by kernel_rfl) (by kernel_rfl) (by kernel_rfl) (fun x y h => let ⟨n, hn⟩ := yM4 x.1 y h; ⟨yLL n, iNil, (yPl n x).trans hn⟩)

/-! ### tidewayref01.Split -/
abbrev yMH : Ty := .pair t9 (.pair t5 .unit)
abbrev yQ0 : Ty := .pair t51 .unit
noncomputable def yOS : G := { T := T, E := [], mU := [5], fz := [] }
def yRf : List (List Nat) := [[0, 1, 5, 6, 7]]
noncomputable def yL0 (n : Nat) : Ann := { keep := yRf, fuel := n, inl := [], deep := 0 }
noncomputable def yAa (n : Nat) (r0 : List UInt8 → Int → Int → Int → List (List UInt8) → Option (List (List UInt8) × Unit)) (s0_0 : List UInt8) (c1_0 : Int) (from6_0 : Int) (i7_0 : Int) (cs0_0 : List (List UInt8)) (j3 : Bool) : Option (List (List UInt8) × Unit) :=
  (bif j3 then (bif Decidable.decide ((0 : Int) ≤ from6_0) && Decidable.decide (from6_0 ≤ i7_0) && Decidable.decide (i7_0 ≤ (↑s0_0.length : Int)) then (bif Decidable.decide (cs0_0.length + (1 : Nat) ≤ Go.Vx.memMax) then r0 s0_0 c1_0 (Go.IntKind.i64.wrap (i7_0 + (1 : Int))) (Go.IntKind.i64.wrap (i7_0 + (1 : Int))) (cs0_0 ++ [List.drop from6_0.toNat (List.take i7_0.toNat s0_0)]) else none) else none) else r0 s0_0 c1_0 from6_0 (Go.IntKind.i64.wrap (i7_0 + (1 : Int))) cs0_0)

noncomputable def yEG (n : Nat) (r0 : List UInt8 → Int → Int → Int → List (List UInt8) → Option (List (List UInt8) × Unit)) (s0_0 : List UInt8) (c1_0 : Int) (from6_0 : Int) (i7_0 : Int) (cs0_0 : List (List UInt8)) : Option (List (List UInt8) × Unit) :=
  (bif Decidable.decide (i7_0 ≤ (↑s0_0.length : Int)) then (bif i7_0 == (↑s0_0.length : Int) then (yAa n r0 s0_0 c1_0 from6_0 i7_0 cs0_0 (Bool.true)) else (Option.bind (Go.Vx.idx s0_0 i7_0) fun (v1 : UInt8) => (yAa n r0 s0_0 c1_0 from6_0 i7_0 cs0_0 ((↑v1.toNat : Int) == c1_0)))) else Option.some (cs0_0, ()))

noncomputable def y71 (n : Nat)  (k : Nat) (s0_0 : List UInt8) (c1_0 : Int) (from6_0 : Int) (i7_0 : Int) (cs0_0 : List (List UInt8)) : Option (List (List UInt8) × Unit) :=
  iter (fun r y => yEG n (fun s0_0 c1_0 from6_0 i7_0 cs0_0 => r ((s0_0, (c1_0, (from6_0, (i7_0, ())))), ((cs0_0, ()), ()))) y.1.1 y.1.2.1 y.1.2.2.1 y.1.2.2.2.1 y.2.1.1) k ((s0_0, (c1_0, (from6_0, (i7_0, ())))), ((cs0_0, ()), ()))

noncomputable def yJl (n : Nat) (s : List UInt8) (c : Int) : Option (List (List UInt8) × Unit) :=
  (y71 n n (s) (c) ((0 : Int)) ((0 : Int)) ([]))

theorem yNz (n : Nat) (x : yMH.den) : runF yOS (yL0 n) Tryz.f52 yMH yQ0 x = yJl n x.1 x.2.1 := by kernel_rfl

noncomputable def y9V (s0_0 : List UInt8) (c1_0 : Int) (from6_0 : Int) (i7_0 : Int) (cs0_0 : List (List UInt8)) (j3 : Bool) : Option ((List (List UInt8) × Unit) ⊕ (Int × List (List UInt8))) :=
  (bif j3 then (bif Decidable.decide ((0 : Int) ≤ from6_0) && Decidable.decide (from6_0 ≤ i7_0) && Decidable.decide (i7_0 ≤ (↑s0_0.length : Int)) then (bif Decidable.decide (cs0_0.length + (1 : Nat) ≤ Go.Vx.memMax) then (some (Sum.inr ((Go.IntKind.i64.wrap (i7_0 + (1 : Int))), (cs0_0 ++ [List.drop from6_0.toNat (List.take i7_0.toNat s0_0)])))) else none) else none) else (some (Sum.inr ((from6_0), (cs0_0)))))

theorem y2s (n : Nat) (hn : big ≤ n)  (r0 : List UInt8 → Int → Int → Int → List (List UInt8) → Option (List (List UInt8) × Unit)) (s0_0 : List UInt8) (c1_0 : Int) (from6_0 : Int) (i7_0 : Int) (cs0_0 : List (List UInt8)) (j3 : Bool) : LeF (elim some fun (s__ : (Int × List (List UInt8))) => r0 s0_0 c1_0 s__.1 (Go.IntKind.i64.wrap (i7_0 + 1)) s__.2) (y9V s0_0 c1_0 from6_0 i7_0 cs0_0 j3) (yAa n r0 s0_0 c1_0 from6_0 i7_0 cs0_0 j3) :=
  (y4 (y4 (y4 (y6 rfl) yM) yM) (y6 rfl))

noncomputable def y4e (s0_0 : List UInt8) (c1_0 : Int) (i7_0 : Int) (from6_0 : Int) (cs0_0 : List (List UInt8)) : Option ((List (List UInt8) × Unit) ⊕ (Int × List (List UInt8))) :=
  (bif i7_0 == (↑s0_0.length : Int) then (y9V s0_0 c1_0 from6_0 i7_0 cs0_0 (Bool.true)) else (Option.bind (Go.Vx.idx s0_0 i7_0) fun (v1 : UInt8) => (y9V s0_0 c1_0 from6_0 i7_0 cs0_0 ((↑v1.toNat : Int) == c1_0))))

noncomputable def yBb (s0_0 : List UInt8) (c1_0 : Int) (from6_0 : Int) (cs0_0 : List (List UInt8)) : Option (List (List UInt8) × Unit) :=
  (some ((cs0_0, ())))

theorem yCz (n : Nat) (hn : big ≤ n)  (s0_0 : List UInt8) (c1_0 : Int) (from6_0 : Int) (cs0_0 : List (List UInt8)) (hx : ((↑s0_0.length : Int)) ≤ (9223372036854775806 : Int)) : LeF some (y21 (fun i__ s__ => y4e s0_0 c1_0 i__ s__.1 s__.2) (fun s__ => yBb s0_0 c1_0 s__.1 s__.2) (((↑s0_0.length : Int)) + 1 - 0).toNat 0 (from6_0, cs0_0)) (y71 n n s0_0 c1_0 from6_0 0 cs0_0) := by
  refine yIh (f := some) (W := fun k__ i__ s__ => y71 n k__ s0_0 c1_0 s__.1 i__ s__.2) (body := (fun i__ s__ => y4e s0_0 c1_0 i__ s__.1 s__.2)) (fin := (fun s__ => yBb s0_0 c1_0 s__.1 s__.2)) (fun k__ i__ s__ => ?_) hx (from6_0, cs0_0) n 0 (by decide) (by unfold big at hn; omega)
  show LeF _ _ (yEG n (y71 n k__) s0_0 c1_0 s__.1 i__ s__.2)
  exact y4 (y4 (by apply y2s n hn) (yA fun v1 => (by apply y2s n hn))) (y0R (y6 rfl))

noncomputable def yGZ (s : List UInt8) (c : Int) : Option (List (List UInt8) × Unit) :=
  (bif decide (((↑s.length : Int)) ≤ (9223372036854775806 : Int)) then y21 (fun i__ s__ => y4e (s) (c) i__ s__.1 s__.2) (fun s__ => yBb (s) (c) s__.1 s__.2) (((↑s.length : Int)) + 1 - 0).toNat 0 (((0 : Int)), ([])) else none)

theorem yMv (s : List UInt8) (c : Int) (y : List (List UInt8) × Unit) (h : yGZ s c = some y) : ∃ n, yJl n s c = some y :=
  ⟨big, LeF.top (show LeF some (yGZ s c) (yJl big s c) from (fun (n : Nat) (hn : big ≤ n) => show LeF some (yGZ s c) (yJl n s c) from (yY fun hx => by apply yCz n hn; exact hx)) big (Nat.le_refl _)) h⟩
noncomputable def z0f_e : Entry := { f := 52, args := yMH, rS := yQ0, m := fun x => yGZ x.1 x.2.1 }
theorem yOi : FnOK Tryz.prog z0f_e := y20 (g := yOS) (fn := Tryz.f52) y0L y1s eNil (by kernel_rfl) (by kernel_rfl) (by kernel_rfl) (fun x y h => let ⟨n, hn⟩ := yMv x.1 x.2.1 y h; ⟨yL0 n, iNil, (yNz n x).trans hn⟩)

/-! ### tidewayref01.Text -/
abbrev yDv : Ty := .pair t3 .unit
abbrev yGL : Ty := .pair t9 .unit
class ref01_Text_Rec where
  f : yDv.den → Option yGL.den
section
variable [ref01_Text_Rec]
noncomputable def yAr : Entry := { f := 96, args := yDv, rS := yGL, m := fun x => ref01_Text_Rec.f x }
noncomputable def yOY : G := { T := T, E := [yAr], mU := [], fz := [] }
def yRq : List (List Nat) := []
noncomputable def yLC (n : Nat) : Ann := { keep := yRq, fuel := n, inl := [], deep := 0 }
noncomputable def yDQ (n : Nat) (np : Int) : Option (List UInt8 × Unit) :=
  (bif Decidable.decide (np > (9 : Int)) then (Option.bind (Go.Tw.ref01_Text_Rec.f (Go.IntKind.i64.wrap (np.tdiv (10 : Int)), ())) fun (v0 : List UInt8 × Unit) => (Option.bind (Go.Tw.ref01_Text_Rec.f (np.tmod (10 : Int), ())) fun (v1 : List UInt8 × Unit) => (bif Decidable.decide (v0.fst.length + v1.fst.length < Go.Vx.strMax) then Option.some (v0.fst ++ v1.fst, ()) else none))) else (bif Decidable.decide (np < (-9 : Int)) then (Option.bind (Go.Tw.ref01_Text_Rec.f (Go.IntKind.i64.wrap (np.tdiv (10 : Int)), ())) fun (v2 : List UInt8 × Unit) => (Option.bind (Go.Tw.ref01_Text_Rec.f (Go.IntKind.i64.wrap ((0 : Int) - np.tmod (10 : Int)), ())) fun (v3 : List UInt8 × Unit) => (bif Decidable.decide (v2.fst.length + v3.fst.length < Go.Vx.strMax) then Option.some (v2.fst ++ v3.fst, ()) else none))) else (bif Decidable.decide (np < (0 : Int)) then (Option.bind (Go.Tw.ref01_Text_Rec.f (Go.IntKind.i64.wrap ((0 : Int) - np), ())) fun (v4 : List UInt8 × Unit) => (bif Decidable.decide ((1 : Nat) + v4.fst.length < Go.Vx.strMax) then Option.some ([(45 : UInt8)] ++ v4.fst, ()) else none)) else Option.some (Go.Vx.y0X [Go.IntKind.u8.wrap (Go.IntKind.i64.wrap ((48 : Int) + np))], ()))))

theorem yPS (n : Nat) (x : yDv.den) : runF yOY (yLC n) Tryz.f96 yDv yGL x = yDQ n x.1 := by kernel_rfl

noncomputable def y8q (np : Int) : Option (List UInt8 × Unit) := yDQ 0 np

theorem yMK (np : Int) (y : List UInt8 × Unit) (h : y8q np = some y) : ∃ n, yDQ n np = some y := ⟨0, h⟩
end
/-- The recursion, d deep. -/
noncomputable def yO (d : Nat) : yDv.den → Option yGL.den := Nat.rec (motive := fun _ => yDv.den → Option yGL.den) (fun _ => none) (fun _ ih x => @y8q ⟨ih⟩ x.1) d
noncomputable def y3D (d : Nat) : Entry := { f := 96, args := yDv, rS := yGL, m := yO d }
theorem y4a : (d : Nat) → FnOK Tryz.prog (y3D d)
  | 0 => FnOK.none (fn := Tryz.f96) (by kernel_rfl) (by kernel_rfl) (by kernel_rfl)
  | d + 1 => y20 (g := @yOY ⟨yO d⟩) (fn := Tryz.f96) (e := y3D (d + 1)) y0L y1s (yB (y4a d) eNil) (by kernel_rfl) (by kernel_rfl) (by kernel_rfl) (fun x y h => let ⟨n, hn⟩ := @yMK ⟨yO d⟩ x.1 y h; ⟨yLC n, iNil, (@yPS ⟨yO d⟩ n x).trans hn⟩)
noncomputable def z0r_e : Entry := y3D 24
theorem yPJ : FnOK Tryz.prog z0r_e := y4a 24

/-! ### internal/stringslite.HasSuffix -/
abbrev zD_a : Ty := .pair t9 (.pair t9 .unit)
abbrev zD_r : Ty := .pair t4 .unit
noncomputable def zD_g : G := { T := T, E := [], mU := [], fz := [] }
def zD_k : List (List Nat) := []
noncomputable def yPo (n : Nat) : Ann := { keep := zD_k, fuel := n, inl := [], deep := 0 }
noncomputable def zD_m (n : Nat) (s : List UInt8) (suffix : List UInt8) : Option (Bool × Unit) :=
  (bif Decidable.decide ((↑s.length : Int) ≥ (↑suffix.length : Int)) then (bif Decidable.decide ((0 : Int) ≤ Go.IntKind.i64.wrap ((↑s.length : Int) - (↑suffix.length : Int))) && Decidable.decide (Go.IntKind.i64.wrap ((↑s.length : Int) - (↑suffix.length : Int)) ≤ (↑s.length : Int)) then Option.some (List.drop (Go.IntKind.i64.wrap ((↑s.length : Int) - (↑suffix.length : Int))).toNat s == suffix, ()) else none) else Option.some (Bool.false, ()))

theorem yRy (n : Nat) (x : zD_a.den) : runF zD_g (yPo n) Tryz.f124 zD_a zD_r x = zD_m n x.1 x.2.1 := by kernel_rfl

noncomputable def zD_M (s : List UInt8) (suffix : List UInt8) : Option (Bool × Unit) := zD_m 0 s suffix

theorem yOL (s : List UInt8) (suffix : List UInt8) (y : Bool × Unit) (h : zD_M s suffix = some y) : ∃ n, zD_m n s suffix = some y := ⟨0, h⟩
noncomputable def zD_e : Entry := { f := 124, args := zD_a, rS := zD_r, m := fun x => zD_M x.1 x.2.1 }
theorem yRB : FnOK Tryz.prog zD_e := y20 (g := zD_g) (fn := Tryz.f124) y0L y1s eNil (by kernel_rfl) (by kernel_rfl) (by kernel_rfl) (fun x y h => let ⟨n, hn⟩ := yOL x.1 x.2.1 y h; ⟨yPo n, iNil, (yRy n x).trans hn⟩)

/-! ### internal/stringslite.HasPrefix -/
abbrev zC_a : Ty := .pair t9 (.pair t9 .unit)
abbrev zC_r : Ty := .pair t4 .unit
noncomputable def zC_g : G := { T := T, E := [], mU := [], fz := [] }
def zC_k : List (List Nat) := []
noncomputable def yOt (n : Nat) : Ann := { keep := zC_k, fuel := n, inl := [], deep := 0 }
noncomputable def zC_m (n : Nat) (s : List UInt8) (p1 : List UInt8) : Option (Bool × Unit) :=
  (bif Decidable.decide ((↑s.length : Int) ≥ (↑p1.length : Int)) then (bif Decidable.decide ((0 : Int) ≤ (↑p1.length : Int)) && Decidable.decide ((↑p1.length : Int) ≤ (↑s.length : Int)) then Option.some (List.take (↑p1.length : Int).toNat s == p1, ()) else none) else Option.some (Bool.false, ()))

theorem yRG (n : Nat) (x : zC_a.den) : runF zC_g (yOt n) Tryz.f183 zC_a zC_r x = zC_m n x.1 x.2.1 := by kernel_rfl

noncomputable def zC_M (s : List UInt8) (p1 : List UInt8) : Option (Bool × Unit) := zC_m 0 s p1

theorem yOe (s : List UInt8) (p1 : List UInt8) (y : Bool × Unit) (h : zC_M s p1 = some y) : ∃ n, zC_m n s p1 = some y := ⟨0, h⟩
noncomputable def zC_e : Entry := { f := 183, args := zC_a, rS := zC_r, m := fun x => zC_M x.1 x.2.1 }
theorem yQs : FnOK Tryz.prog zC_e := y20 (g := zC_g) (fn := Tryz.f183) y0L y1s eNil (by kernel_rfl) (by kernel_rfl) (by kernel_rfl) (fun x y h => let ⟨n, hn⟩ := yOe x.1 x.2.1 y h; ⟨yOt n, iNil, (yRG n x).trans hn⟩)

/-! ### tidewayref01.Number -/
abbrev yMi : Ty := .pair t9 .unit
abbrev yOW : Ty := .pair t3 (.pair t4 .unit)
noncomputable def yP5 : G := { T := T, E := [], mU := [], fz := [] }
def yRJ : List (List Nat) := [[0, 4, 5]]
noncomputable def yL3 (n : Nat) : Ann := { keep := yRJ, fuel := n, inl := [], deep := 0 }
noncomputable def yEF (n : Nat) (r8 : List UInt8 → Int → Int → Option (Int × Bool × Unit)) (s0_8 : List UInt8) (n4_8 : Int) (i5_8 : Int) : Option (Int × Bool × Unit) :=
  (bif Decidable.decide (i5_8 < (↑s0_8.length : Int)) then (Option.bind (Go.Vx.idx s0_8 i5_8) fun (v9 : UInt8) => (bif Decidable.decide ((↑v9.toNat : Int) < (48 : Int)) then Option.some ((0 : Int), Bool.false, ()) else (Option.bind (Go.Vx.idx s0_8 i5_8) fun (v10 : UInt8) => (bif Decidable.decide ((↑v10.toNat : Int) > (57 : Int)) then Option.some ((0 : Int), Bool.false, ()) else (Option.bind (Go.Vx.idx s0_8 i5_8) fun (v13 : UInt8) => r8 s0_8 (Go.IntKind.i64.wrap (Go.IntKind.i64.wrap ((10 : Int) * n4_8) + Go.IntKind.i64.wrap (Go.IntKind.u8.wrap ((↑v13.toNat : Int) - (48 : Int))))) (Go.IntKind.i64.wrap (i5_8 + (1 : Int)))))))) else Option.some (n4_8, Bool.true, ()))

noncomputable def y6q (n : Nat)  (k : Nat) (s0_8 : List UInt8) (n4_8 : Int) (i5_8 : Int) : Option (Int × Bool × Unit) :=
  iter (fun r y => yEF n (fun s0_8 n4_8 i5_8 => r ((s0_8, (n4_8, (i5_8, ()))), ((), ()))) y.1.1 y.1.2.1 y.1.2.2.1) k ((s0_8, (n4_8, (i5_8, ()))), ((), ()))

noncomputable def y7x (n : Nat) (s : List UInt8) : Option (Int × Bool × Unit) :=
  (y6q n n (s) ((0 : Int)) ((0 : Int)))

noncomputable def yJi (n : Nat) (s : List UInt8) : Option (Int × Bool × Unit) :=
  (bif (↑s.length : Int) == (0 : Int) then Option.some ((0 : Int), Bool.false, ()) else (bif Decidable.decide ((↑s.length : Int) > (9 : Int)) then Option.some ((0 : Int), Bool.false, ()) else (bif Decidable.decide ((↑s.length : Int) > (1 : Int)) then (Option.bind (Go.Vx.idx s (0 : Int)) fun (v0 : UInt8) => (bif (↑v0.toNat : Int) == (48 : Int) then Option.some ((0 : Int), Bool.false, ()) else (y7x n s))) else (y7x n s))))

theorem yQ1 (n : Nat) (x : yMi.den) : runF yP5 (yL3 n) Tryz.f129 yMi yOW x = yJi n x.1 := by kernel_rfl

noncomputable def y4b (s0_8 : List UInt8) (i5_8 : Int) (v9 : UInt8) (n4_8 : Int) : Option ((Int × Bool × Unit) ⊕ (Int)) :=
  (bif Decidable.decide ((↑v9.toNat : Int) < (48 : Int)) then (some (Sum.inl (((0 : Int), Bool.false, ())))) else (Option.bind (Go.Vx.idx s0_8 i5_8) fun (v10 : UInt8) => (bif Decidable.decide ((↑v10.toNat : Int) > (57 : Int)) then (some (Sum.inl (((0 : Int), Bool.false, ())))) else (Option.bind (Go.Vx.idx s0_8 i5_8) fun (v13 : UInt8) => (some (Sum.inr (Go.IntKind.i64.wrap (Go.IntKind.i64.wrap ((10 : Int) * n4_8) + Go.IntKind.i64.wrap (Go.IntKind.u8.wrap ((↑v13.toNat : Int) - (48 : Int)))))))))))

noncomputable def yCP (s0_8 : List UInt8) (n4_8 : Int) : Option (Int × Bool × Unit) :=
  (some ((n4_8, Bool.true, ())))

theorem yDg (n : Nat) (hn : big ≤ n)  (s0_8 : List UInt8) (n4_8 : Int) (hx : List.length (s0_8) < lenMax) : LeF some (yI (fun i__ e__ s__ => y4b s0_8 i__ e__ s__) (fun s__ => yCP s0_8 s__) 0 (s0_8) n4_8) (y6q n n s0_8 n4_8 0) := by
  refine yQ (f := some) (W := fun k__ i__ s__ => y6q n k__ s0_8 s__ i__) (body := (fun i__ e__ s__ => y4b s0_8 i__ e__ s__)) (fin := (fun s__ => yCP s0_8 s__)) (fun k__ i__ s__ => ?_) hx n4_8 n (by unfold big at hn; unfold lenMax at hx; omega)
  show LeF _ _ (yEF n (y6q n k__) s0_8 s__ i__)
  exact y4 (yA fun v9 => (y4 (y6 rfl) (yA fun v10 => (y4 (y6 rfl) (yA fun v13 => (y6 rfl)))))) (y0R (y6 rfl))

noncomputable def y81 (s : List UInt8) : Option (Int × Bool × Unit) :=
  (bif decide (List.length (s) < lenMax) then yI (fun i__ e__ s__ => y4b (s) i__ e__ s__) (fun s__ => yCP (s) s__) 0 (s) ((0 : Int)) else none)

theorem y2B (n : Nat) (hn : big ≤ n)  (s : List UInt8) : LeF some (y81 s) (y7x n s) :=
  (yY fun hx => by apply yDg n hn; exact hx)

noncomputable def yGf (s : List UInt8) : Option (Int × Bool × Unit) :=
  (bif (↑s.length : Int) == (0 : Int) then (some (((0 : Int), Bool.false, ()))) else (bif Decidable.decide ((↑s.length : Int) > (9 : Int)) then (some (((0 : Int), Bool.false, ()))) else (bif Decidable.decide ((↑s.length : Int) > (1 : Int)) then (Option.bind (Go.Vx.idx s (0 : Int)) fun (v0 : UInt8) => (bif (↑v0.toNat : Int) == (48 : Int) then (some (((0 : Int), Bool.false, ()))) else (y81 s))) else (y81 s))))

theorem yME (s : List UInt8) (y : Int × Bool × Unit) (h : yGf s = some y) : ∃ n, yJi n s = some y :=
  ⟨big, LeF.top (show LeF some (yGf s) (yJi big s) from (fun (n : Nat) (hn : big ≤ n) => show LeF some (yGf s) (yJi n s) from (y4 (y6 rfl) (y4 (y6 rfl) (y4 (yA fun v0 => (y4 (y6 rfl) (by apply y2B n hn))) (by apply y2B n hn))))) big (Nat.le_refl _)) h⟩
noncomputable def z0Q_e : Entry := { f := 129, args := yMi, rS := yOW, m := fun x => yGf x.1 }
theorem yQO : FnOK Tryz.prog z0Q_e := y20 (g := yP5) (fn := Tryz.f129) y0L y1s eNil (by kernel_rfl) (by kernel_rfl) (by kernel_rfl) (fun x y h => let ⟨n, hn⟩ := yME x.1 y h; ⟨yL3 n, iNil, (yQ1 n x).trans hn⟩)

end Go.Tw
end

section
set_option linter.all false
set_option maxRecDepth 1000000
namespace Go.Tw
open Go.Vx Go.Vx.B Go.Proofs
/-! ### tidewayref06.signed -/
abbrev yLb : Ty := .pair t3 .unit
abbrev yPf : Ty := .pair t9 .unit
noncomputable def yQN : G := { T := T, E := [z0r_e], mU := [], fz := [] }
def yRO : List (List Nat) := []
noncomputable def yKy (n : Nat) : Ann := { keep := yRO, fuel := n, inl := [], deep := 0 }
noncomputable def yKe (n : Nat) (np : Int) : Option (List UInt8 × Unit) :=
  (Option.bind (Go.Tw.yO (24 : Nat) (np, ())) fun (v0 : List UInt8 × Unit) => Option.some (v0.fst, ()))

theorem yPD (n : Nat) (x : yLb.den) : runF yQN (yKy n) Tryz.f51 yLb yPf x = yKe n x.1 := by kernel_rfl

noncomputable def yKQ (np : Int) : Option (List UInt8 × Unit) := yKe 0 np

theorem yLp (np : Int) (y : List UInt8 × Unit) (h : yKQ np = some y) : ∃ n, yKe n np = some y := ⟨0, h⟩
noncomputable def z0T_e : Entry := { f := 51, args := yLb, rS := yPf, m := fun x => yKQ x.1 }
theorem yOI : FnOK Tryz.prog z0T_e := y20 (g := yQN) (fn := Tryz.f51) y0L y1s (yB yPJ eNil) (by kernel_rfl) (by kernel_rfl) (by kernel_rfl) (fun x y h => let ⟨n, hn⟩ := yLp x.1 y h; ⟨yKy n, iNil, (yPD n x).trans hn⟩)

/-! ### internal/stringslite.CutSuffix -/
abbrev zB_a : Ty := .pair t9 (.pair t9 .unit)
abbrev zB_r : Ty := .pair t9 (.pair t4 .unit)
noncomputable def zB_g : G := { T := T, E := [zD_e], mU := [], fz := [] }
def zB_k : List (List Nat) := []
noncomputable def yO2 (n : Nat) : Ann := { keep := zB_k, fuel := n, inl := [], deep := 0 }
noncomputable def zB_m (n : Nat) (s : List UInt8) (suffix : List UInt8) : Option (List UInt8 × Bool × Unit) :=
  (Option.bind (Go.Tw.zD_M s suffix) fun (v0 : Bool × Unit) => (bif !v0.fst then Option.some (s, Bool.false, ()) else (bif Decidable.decide ((0 : Int) ≤ Go.IntKind.i64.wrap ((↑s.length : Int) - (↑suffix.length : Int))) && Decidable.decide (Go.IntKind.i64.wrap ((↑s.length : Int) - (↑suffix.length : Int)) ≤ (↑s.length : Int)) then Option.some (List.take (Go.IntKind.i64.wrap ((↑s.length : Int) - (↑suffix.length : Int))).toNat s, Bool.true, ()) else none)))

theorem yRT (n : Nat) (x : zB_a.den) : runF zB_g (yO2 n) Tryz.f90 zB_a zB_r x = zB_m n x.1 x.2.1 := by kernel_rfl

noncomputable def zB_M (s : List UInt8) (suffix : List UInt8) : Option (List UInt8 × Bool × Unit) := zB_m 0 s suffix

theorem yPr (s : List UInt8) (suffix : List UInt8) (y : List UInt8 × Bool × Unit) (h : zB_M s suffix = some y) : ∃ n, zB_m n s suffix = some y := ⟨0, h⟩
noncomputable def zB_e : Entry := { f := 90, args := zB_a, rS := zB_r, m := fun x => zB_M x.1 x.2.1 }
theorem yRu : FnOK Tryz.prog zB_e := y20 (g := zB_g) (fn := Tryz.f90) y0L y1s (yB yRB eNil) (by kernel_rfl) (by kernel_rfl) (by kernel_rfl) (fun x y h => let ⟨n, hn⟩ := yPr x.1 x.2.1 y h; ⟨yO2 n, iNil, (yRT n x).trans hn⟩)

/-! ### tidewayref01.Signed -/
abbrev yM0 : Ty := .pair t9 .unit
abbrev yOQ : Ty := .pair t3 (.pair t4 .unit)
noncomputable def yQ2 : G := { T := T, E := [z0Q_e], mU := [], fz := [] }
def yRc : List (List Nat) := []
noncomputable def yL2 (n : Nat) : Ann := { keep := yRc, fuel := n, inl := [], deep := 0 }
noncomputable def y34 (n : Nat) (s : List UInt8) (j2 : Bool) : Option (Int × Bool × Unit) :=
  (bif j2 then (bif Decidable.decide ((0 : Int) ≤ (1 : Int)) && Decidable.decide ((1 : Int) ≤ (↑s.length : Int)) then (Option.bind (Go.Tw.yGf (List.drop (Int.toNat (1 : Int)) s)) fun (v3 : Int × Bool × Unit) => (bif v3.snd.fst then Option.some (Go.IntKind.i64.wrap ((0 : Int) - v3.fst), Decidable.decide (v3.fst > (0 : Int)), ()) else Option.some (Go.IntKind.i64.wrap ((0 : Int) - v3.fst), Bool.false, ()))) else none) else (Option.bind (Go.Tw.yGf s) fun (v8 : Int × Bool × Unit) => Option.some (v8.fst, v8.snd.fst, ())))

noncomputable def yJC (n : Nat) (s : List UInt8) : Option (Int × Bool × Unit) :=
  (bif Decidable.decide ((↑s.length : Int) > (1 : Int)) then (Option.bind (Go.Vx.idx s (0 : Int)) fun (v0 : UInt8) => (y34 n s ((↑v0.toNat : Int) == (45 : Int)))) else (y34 n s (Bool.false)))

theorem yNh (n : Nat) (x : yM0.den) : runF yQ2 (yL2 n) Tryz.f97 yM0 yOQ x = yJC n x.1 := by kernel_rfl

noncomputable def yJy (s : List UInt8) : Option (Int × Bool × Unit) := yJC 0 s

theorem yLm (s : List UInt8) (y : Int × Bool × Unit) (h : yJy s = some y) : ∃ n, yJC n s = some y := ⟨0, h⟩
noncomputable def z0R_e : Entry := { f := 97, args := yM0, rS := yOQ, m := fun x => yJy x.1 }
theorem yPv : FnOK Tryz.prog z0R_e := y20 (g := yQ2) (fn := Tryz.f97) y0L y1s (yB yQO eNil) (by kernel_rfl) (by kernel_rfl) (by kernel_rfl) (fun x y h => let ⟨n, hn⟩ := yLm x.1 y h; ⟨yL2 n, iNil, (yNh n x).trans hn⟩)

/-! ### internal/stringslite.CutPrefix -/
abbrev zA_a : Ty := .pair t9 (.pair t9 .unit)
abbrev zA_r : Ty := .pair t9 (.pair t4 .unit)
noncomputable def zA_g : G := { T := T, E := [zC_e], mU := [], fz := [] }
def zA_k : List (List Nat) := []
noncomputable def yQa (n : Nat) : Ann := { keep := zA_k, fuel := n, inl := [], deep := 0 }
noncomputable def zA_m (n : Nat) (s : List UInt8) (p1 : List UInt8) : Option (List UInt8 × Bool × Unit) :=
  (Option.bind (Go.Tw.zC_M s p1) fun (v0 : Bool × Unit) => (bif !v0.fst then Option.some (s, Bool.false, ()) else (bif Decidable.decide ((0 : Int) ≤ (↑p1.length : Int)) && Decidable.decide ((↑p1.length : Int) ≤ (↑s.length : Int)) then Option.some (List.drop (↑p1.length : Int).toNat s, Bool.true, ()) else none)))

theorem yQw (n : Nat) (x : zA_a.den) : runF zA_g (yQa n) Tryz.f170 zA_a zA_r x = zA_m n x.1 x.2.1 := by kernel_rfl

noncomputable def zA_M (s : List UInt8) (p1 : List UInt8) : Option (List UInt8 × Bool × Unit) := zA_m 0 s p1

theorem yOp (s : List UInt8) (p1 : List UInt8) (y : List UInt8 × Bool × Unit) (h : zA_M s p1 = some y) : ∃ n, zA_m n s p1 = some y := ⟨0, h⟩
noncomputable def zA_e : Entry := { f := 170, args := zA_a, rS := zA_r, m := fun x => zA_M x.1 x.2.1 }
theorem yR9 : FnOK Tryz.prog zA_e := y20 (g := zA_g) (fn := Tryz.f170) y0L y1s (yB yQs eNil) (by kernel_rfl) (by kernel_rfl) (by kernel_rfl) (fun x y h => let ⟨n, hn⟩ := yOp x.1 x.2.1 y h; ⟨yQa n, iNil, (yQw n x).trans hn⟩)

end Go.Tw
end

section
set_option linter.all false
set_option maxRecDepth 1000000
namespace Go.Tw
open Go.Vx Go.Vx.B Go.Proofs
/-! ### tidewayref06.Print -/
abbrev yLW : Ty := .pair t25 .unit
abbrev yPw : Ty := .pair t9 .unit
noncomputable def yNw : G := { T := T, E := [z0T_e], mU := [], fz := [] }
def yRd : List (List Nat) := [[1, 3, 4], [1, 3, 7]]
noncomputable def yL5 (n : Nat) : Ann := { keep := yRd, fuel := n, inl := [], deep := 0 }
noncomputable def yAT (n : Nat) (r0 : Cha → List UInt8 → Int → Option (List UInt8 × Unit)) (c1_0 : Cha) (s3_0 : List UInt8) (i4_0 : Int) (v1 : Sta) (j2 : List UInt8) : Option (List UInt8 × Unit) :=
  (bif Decidable.decide (s3_0.length + (6 : Nat) < Go.Vx.strMax) then (bif Decidable.decide ((s3_0 ++ [(115 : UInt8), (116 : UInt8), (97 : UInt8), (116 : UInt8), (101 : UInt8), (32 : UInt8)]).length + v1.fst.length < Go.Vx.strMax) then (bif Decidable.decide ((s3_0 ++ [(115 : UInt8), (116 : UInt8), (97 : UInt8), (116 : UInt8), (101 : UInt8), (32 : UInt8)] ++ v1.fst).length + (1 : Nat) < Go.Vx.strMax) then (Option.bind (Go.Tw.yKQ v1.snd.fst) fun (v3 : List UInt8 × Unit) => (bif Decidable.decide ((s3_0 ++ [(115 : UInt8), (116 : UInt8), (97 : UInt8), (116 : UInt8), (101 : UInt8), (32 : UInt8)] ++ v1.fst ++ [(32 : UInt8)]).length + v3.fst.length < Go.Vx.strMax) then (bif Decidable.decide ((s3_0 ++ [(115 : UInt8), (116 : UInt8), (97 : UInt8), (116 : UInt8), (101 : UInt8), (32 : UInt8)] ++ v1.fst ++ [(32 : UInt8)] ++ v3.fst).length + (1 : Nat) < Go.Vx.strMax) then (Option.bind (Go.Tw.yKQ v1.snd.snd.fst) fun (v4 : List UInt8 × Unit) => (bif Decidable.decide ((s3_0 ++ [(115 : UInt8), (116 : UInt8), (97 : UInt8), (116 : UInt8), (101 : UInt8), (32 : UInt8)] ++ v1.fst ++ [(32 : UInt8)] ++ v3.fst ++ [(32 : UInt8)]).length + v4.fst.length < Go.Vx.strMax) then (bif Decidable.decide ((s3_0 ++ [(115 : UInt8), (116 : UInt8), (97 : UInt8), (116 : UInt8), (101 : UInt8), (32 : UInt8)] ++ v1.fst ++ [(32 : UInt8)] ++ v3.fst ++ [(32 : UInt8)] ++ v4.fst).length + (1 : Nat) < Go.Vx.strMax) then (bif Decidable.decide ((s3_0 ++ [(115 : UInt8), (116 : UInt8), (97 : UInt8), (116 : UInt8), (101 : UInt8), (32 : UInt8)] ++ v1.fst ++ [(32 : UInt8)] ++ v3.fst ++ [(32 : UInt8)] ++ v4.fst ++ [(32 : UInt8)]).length + j2.length < Go.Vx.strMax) then (bif Decidable.decide ((s3_0 ++ [(115 : UInt8), (116 : UInt8), (97 : UInt8), (116 : UInt8), (101 : UInt8), (32 : UInt8)] ++ v1.fst ++ [(32 : UInt8)] ++ v3.fst ++ [(32 : UInt8)] ++ v4.fst ++ [(32 : UInt8)] ++ j2).length + (1 : Nat) < Go.Vx.strMax) then r0 c1_0 (s3_0 ++ [(115 : UInt8), (116 : UInt8), (97 : UInt8), (116 : UInt8), (101 : UInt8), (32 : UInt8)] ++ v1.fst ++ [(32 : UInt8)] ++ v3.fst ++ [(32 : UInt8)] ++ v4.fst ++ [(32 : UInt8)] ++ j2 ++ [(10 : UInt8)]) (Go.IntKind.i64.wrap (i4_0 + (1 : Int))) else none) else none) else none) else none)) else none) else none)) else none) else none) else none)

noncomputable def yE7 (n : Nat) (r6 : Cha → List UInt8 → Int → Option (List UInt8 × Unit)) (c1_6 : Cha) (s3_6 : List UInt8) (i7_6 : Int) : Option (List UInt8 × Unit) :=
  (bif Decidable.decide (i7_6 < (↑c1_6.snd.fst.length : Int)) then (Option.bind (Go.Vx.idx c1_6.snd.fst i7_6) fun (v7 : Tra) => (bif Decidable.decide (s3_6.length + (5 : Nat) < Go.Vx.strMax) then (Option.bind (Go.Tw.yKQ v7.fst) fun (v8 : List UInt8 × Unit) => (bif Decidable.decide ((s3_6 ++ [(109 : UInt8), (111 : UInt8), (118 : UInt8), (101 : UInt8), (32 : UInt8)]).length + v8.fst.length < Go.Vx.strMax) then (bif Decidable.decide ((s3_6 ++ [(109 : UInt8), (111 : UInt8), (118 : UInt8), (101 : UInt8), (32 : UInt8)] ++ v8.fst).length + (1 : Nat) < Go.Vx.strMax) then (bif Decidable.decide ((s3_6 ++ [(109 : UInt8), (111 : UInt8), (118 : UInt8), (101 : UInt8), (32 : UInt8)] ++ v8.fst ++ [(32 : UInt8)]).length + v7.snd.fst.length < Go.Vx.strMax) then (bif Decidable.decide ((s3_6 ++ [(109 : UInt8), (111 : UInt8), (118 : UInt8), (101 : UInt8), (32 : UInt8)] ++ v8.fst ++ [(32 : UInt8)] ++ v7.snd.fst).length + (1 : Nat) < Go.Vx.strMax) then (Option.bind (Go.Tw.yKQ v7.snd.snd.fst) fun (v9 : List UInt8 × Unit) => (bif Decidable.decide ((s3_6 ++ [(109 : UInt8), (111 : UInt8), (118 : UInt8), (101 : UInt8), (32 : UInt8)] ++ v8.fst ++ [(32 : UInt8)] ++ v7.snd.fst ++ [(32 : UInt8)]).length + v9.fst.length < Go.Vx.strMax) then (bif Decidable.decide ((s3_6 ++ [(109 : UInt8), (111 : UInt8), (118 : UInt8), (101 : UInt8), (32 : UInt8)] ++ v8.fst ++ [(32 : UInt8)] ++ v7.snd.fst ++ [(32 : UInt8)] ++ v9.fst).length + (1 : Nat) < Go.Vx.strMax) then (Option.bind (Go.Tw.yKQ v7.snd.snd.snd.fst) fun (v10 : List UInt8 × Unit) => (bif Decidable.decide ((s3_6 ++ [(109 : UInt8), (111 : UInt8), (118 : UInt8), (101 : UInt8), (32 : UInt8)] ++ v8.fst ++ [(32 : UInt8)] ++ v7.snd.fst ++ [(32 : UInt8)] ++ v9.fst ++ [(32 : UInt8)]).length + v10.fst.length < Go.Vx.strMax) then (bif Decidable.decide ((s3_6 ++ [(109 : UInt8), (111 : UInt8), (118 : UInt8), (101 : UInt8), (32 : UInt8)] ++ v8.fst ++ [(32 : UInt8)] ++ v7.snd.fst ++ [(32 : UInt8)] ++ v9.fst ++ [(32 : UInt8)] ++ v10.fst).length + (1 : Nat) < Go.Vx.strMax) then (Option.bind (Go.Tw.yKQ v7.snd.snd.snd.snd.fst) fun (v11 : List UInt8 × Unit) => (bif Decidable.decide ((s3_6 ++ [(109 : UInt8), (111 : UInt8), (118 : UInt8), (101 : UInt8), (32 : UInt8)] ++ v8.fst ++ [(32 : UInt8)] ++ v7.snd.fst ++ [(32 : UInt8)] ++ v9.fst ++ [(32 : UInt8)] ++ v10.fst ++ [(32 : UInt8)]).length + v11.fst.length < Go.Vx.strMax) then (bif Decidable.decide ((s3_6 ++ [(109 : UInt8), (111 : UInt8), (118 : UInt8), (101 : UInt8), (32 : UInt8)] ++ v8.fst ++ [(32 : UInt8)] ++ v7.snd.fst ++ [(32 : UInt8)] ++ v9.fst ++ [(32 : UInt8)] ++ v10.fst ++ [(32 : UInt8)] ++ v11.fst).length + (1 : Nat) < Go.Vx.strMax) then r6 c1_6 (s3_6 ++ [(109 : UInt8), (111 : UInt8), (118 : UInt8), (101 : UInt8), (32 : UInt8)] ++ v8.fst ++ [(32 : UInt8)] ++ v7.snd.fst ++ [(32 : UInt8)] ++ v9.fst ++ [(32 : UInt8)] ++ v10.fst ++ [(32 : UInt8)] ++ v11.fst ++ [(10 : UInt8)]) (Go.IntKind.i64.wrap (i7_6 + (1 : Int))) else none) else none)) else none) else none)) else none) else none)) else none) else none) else none) else none)) else none)) else Option.some (s3_6, ()))

noncomputable def y7S (n : Nat)  (k : Nat) (c1_6 : Cha) (s3_6 : List UInt8) (i7_6 : Int) : Option (List UInt8 × Unit) :=
  iter (fun r y => yE7 n (fun c1_6 s3_6 i7_6 => r ((c1_6, (s3_6, (i7_6, ()))), ((), ()))) y.1.1 y.1.2.1 y.1.2.2.1) k ((c1_6, (s3_6, (i7_6, ()))), ((), ()))

noncomputable def yEi (n : Nat) (r0 : Cha → List UInt8 → Int → Option (List UInt8 × Unit)) (c1_0 : Cha) (s3_0 : List UInt8) (i4_0 : Int) : Option (List UInt8 × Unit) :=
  (bif Decidable.decide (i4_0 < (↑c1_0.fst.length : Int)) then (Option.bind (Go.Vx.idx c1_0.fst i4_0) fun (v1 : Sta) => (bif v1.snd.snd.snd.fst then (yAT n r0 c1_0 s3_0 i4_0 v1 ([(49 : UInt8)])) else (yAT n r0 c1_0 s3_0 i4_0 v1 ([(48 : UInt8)])))) else (y7S n n (c1_0) (s3_0) ((0 : Int))))

noncomputable def y7P (n : Nat)  (k : Nat) (c1_0 : Cha) (s3_0 : List UInt8) (i4_0 : Int) : Option (List UInt8 × Unit) :=
  iter (fun r y => yEi n (fun c1_0 s3_0 i4_0 => r ((c1_0, (s3_0, (i4_0, ()))), ((), ()))) y.1.1 y.1.2.1 y.1.2.2.1) k ((c1_0, (s3_0, (i4_0, ()))), ((), ()))

noncomputable def yKG (n : Nat) (c : Cha) : Option (List UInt8 × Unit) :=
  (y7P n n (c) ([]) ((0 : Int)))

theorem yPU (n : Nat) (x : yLW.den) : runF yNw (yL5 n) Tryz.f11 yLW yPw x = yKG n x.1 := by kernel_rfl

noncomputable def yCF (c1_0 : Cha) (s3_0 : List UInt8) (i4_0 : Int) (v1 : Sta) (j2 : List UInt8) : Option ((List UInt8 × Unit) ⊕ (List UInt8)) :=
  (bif Decidable.decide (s3_0.length + (6 : Nat) < Go.Vx.strMax) then (bif Decidable.decide ((s3_0 ++ [(115 : UInt8), (116 : UInt8), (97 : UInt8), (116 : UInt8), (101 : UInt8), (32 : UInt8)]).length + v1.fst.length < Go.Vx.strMax) then (bif Decidable.decide ((s3_0 ++ [(115 : UInt8), (116 : UInt8), (97 : UInt8), (116 : UInt8), (101 : UInt8), (32 : UInt8)] ++ v1.fst).length + (1 : Nat) < Go.Vx.strMax) then (Option.bind (Go.Tw.yKQ v1.snd.fst) fun (v3 : List UInt8 × Unit) => (bif Decidable.decide ((s3_0 ++ [(115 : UInt8), (116 : UInt8), (97 : UInt8), (116 : UInt8), (101 : UInt8), (32 : UInt8)] ++ v1.fst ++ [(32 : UInt8)]).length + v3.fst.length < Go.Vx.strMax) then (bif Decidable.decide ((s3_0 ++ [(115 : UInt8), (116 : UInt8), (97 : UInt8), (116 : UInt8), (101 : UInt8), (32 : UInt8)] ++ v1.fst ++ [(32 : UInt8)] ++ v3.fst).length + (1 : Nat) < Go.Vx.strMax) then (Option.bind (Go.Tw.yKQ v1.snd.snd.fst) fun (v4 : List UInt8 × Unit) => (bif Decidable.decide ((s3_0 ++ [(115 : UInt8), (116 : UInt8), (97 : UInt8), (116 : UInt8), (101 : UInt8), (32 : UInt8)] ++ v1.fst ++ [(32 : UInt8)] ++ v3.fst ++ [(32 : UInt8)]).length + v4.fst.length < Go.Vx.strMax) then (bif Decidable.decide ((s3_0 ++ [(115 : UInt8), (116 : UInt8), (97 : UInt8), (116 : UInt8), (101 : UInt8), (32 : UInt8)] ++ v1.fst ++ [(32 : UInt8)] ++ v3.fst ++ [(32 : UInt8)] ++ v4.fst).length + (1 : Nat) < Go.Vx.strMax) then (bif Decidable.decide ((s3_0 ++ [(115 : UInt8), (116 : UInt8), (97 : UInt8), (116 : UInt8), (101 : UInt8), (32 : UInt8)] ++ v1.fst ++ [(32 : UInt8)] ++ v3.fst ++ [(32 : UInt8)] ++ v4.fst ++ [(32 : UInt8)]).length + j2.length < Go.Vx.strMax) then (bif Decidable.decide ((s3_0 ++ [(115 : UInt8), (116 : UInt8), (97 : UInt8), (116 : UInt8), (101 : UInt8), (32 : UInt8)] ++ v1.fst ++ [(32 : UInt8)] ++ v3.fst ++ [(32 : UInt8)] ++ v4.fst ++ [(32 : UInt8)] ++ j2).length + (1 : Nat) < Go.Vx.strMax) then (some (Sum.inr (s3_0 ++ [(115 : UInt8), (116 : UInt8), (97 : UInt8), (116 : UInt8), (101 : UInt8), (32 : UInt8)] ++ v1.fst ++ [(32 : UInt8)] ++ v3.fst ++ [(32 : UInt8)] ++ v4.fst ++ [(32 : UInt8)] ++ j2 ++ [(10 : UInt8)]))) else none) else none) else none) else none)) else none) else none)) else none) else none) else none)

theorem y2r (n : Nat) (hn : big ≤ n)  (r0 : Cha → List UInt8 → Int → Option (List UInt8 × Unit)) (c1_0 : Cha) (s3_0 : List UInt8) (i4_0 : Int) (v1 : Sta) (j2 : List UInt8) : LeF (elim some fun (s__ : (List UInt8)) => r0 c1_0 s__ (Go.IntKind.i64.wrap (i4_0 + 1))) (yCF c1_0 s3_0 i4_0 v1 j2) (yAT n r0 c1_0 s3_0 i4_0 v1 j2) :=
  (y4 (y4 (y4 (yA fun v3 => (y4 (y4 (yA fun v4 => (y4 (y4 (y4 (y4 (y6 rfl) yM) yM) yM) yM)) yM) yM)) yM) yM) yM)

noncomputable def y98 (c1_6 : Cha) (i7_6 : Int) (v7 : Tra) (s3_6 : List UInt8) : Option ((List UInt8 × Unit) ⊕ (List UInt8)) :=
  (bif Decidable.decide (s3_6.length + (5 : Nat) < Go.Vx.strMax) then (Option.bind (Go.Tw.yKQ v7.fst) fun (v8 : List UInt8 × Unit) => (bif Decidable.decide ((s3_6 ++ [(109 : UInt8), (111 : UInt8), (118 : UInt8), (101 : UInt8), (32 : UInt8)]).length + v8.fst.length < Go.Vx.strMax) then (bif Decidable.decide ((s3_6 ++ [(109 : UInt8), (111 : UInt8), (118 : UInt8), (101 : UInt8), (32 : UInt8)] ++ v8.fst).length + (1 : Nat) < Go.Vx.strMax) then (bif Decidable.decide ((s3_6 ++ [(109 : UInt8), (111 : UInt8), (118 : UInt8), (101 : UInt8), (32 : UInt8)] ++ v8.fst ++ [(32 : UInt8)]).length + v7.snd.fst.length < Go.Vx.strMax) then (bif Decidable.decide ((s3_6 ++ [(109 : UInt8), (111 : UInt8), (118 : UInt8), (101 : UInt8), (32 : UInt8)] ++ v8.fst ++ [(32 : UInt8)] ++ v7.snd.fst).length + (1 : Nat) < Go.Vx.strMax) then (Option.bind (Go.Tw.yKQ v7.snd.snd.fst) fun (v9 : List UInt8 × Unit) => (bif Decidable.decide ((s3_6 ++ [(109 : UInt8), (111 : UInt8), (118 : UInt8), (101 : UInt8), (32 : UInt8)] ++ v8.fst ++ [(32 : UInt8)] ++ v7.snd.fst ++ [(32 : UInt8)]).length + v9.fst.length < Go.Vx.strMax) then (bif Decidable.decide ((s3_6 ++ [(109 : UInt8), (111 : UInt8), (118 : UInt8), (101 : UInt8), (32 : UInt8)] ++ v8.fst ++ [(32 : UInt8)] ++ v7.snd.fst ++ [(32 : UInt8)] ++ v9.fst).length + (1 : Nat) < Go.Vx.strMax) then (Option.bind (Go.Tw.yKQ v7.snd.snd.snd.fst) fun (v10 : List UInt8 × Unit) => (bif Decidable.decide ((s3_6 ++ [(109 : UInt8), (111 : UInt8), (118 : UInt8), (101 : UInt8), (32 : UInt8)] ++ v8.fst ++ [(32 : UInt8)] ++ v7.snd.fst ++ [(32 : UInt8)] ++ v9.fst ++ [(32 : UInt8)]).length + v10.fst.length < Go.Vx.strMax) then (bif Decidable.decide ((s3_6 ++ [(109 : UInt8), (111 : UInt8), (118 : UInt8), (101 : UInt8), (32 : UInt8)] ++ v8.fst ++ [(32 : UInt8)] ++ v7.snd.fst ++ [(32 : UInt8)] ++ v9.fst ++ [(32 : UInt8)] ++ v10.fst).length + (1 : Nat) < Go.Vx.strMax) then (Option.bind (Go.Tw.yKQ v7.snd.snd.snd.snd.fst) fun (v11 : List UInt8 × Unit) => (bif Decidable.decide ((s3_6 ++ [(109 : UInt8), (111 : UInt8), (118 : UInt8), (101 : UInt8), (32 : UInt8)] ++ v8.fst ++ [(32 : UInt8)] ++ v7.snd.fst ++ [(32 : UInt8)] ++ v9.fst ++ [(32 : UInt8)] ++ v10.fst ++ [(32 : UInt8)]).length + v11.fst.length < Go.Vx.strMax) then (bif Decidable.decide ((s3_6 ++ [(109 : UInt8), (111 : UInt8), (118 : UInt8), (101 : UInt8), (32 : UInt8)] ++ v8.fst ++ [(32 : UInt8)] ++ v7.snd.fst ++ [(32 : UInt8)] ++ v9.fst ++ [(32 : UInt8)] ++ v10.fst ++ [(32 : UInt8)] ++ v11.fst).length + (1 : Nat) < Go.Vx.strMax) then (some (Sum.inr (s3_6 ++ [(109 : UInt8), (111 : UInt8), (118 : UInt8), (101 : UInt8), (32 : UInt8)] ++ v8.fst ++ [(32 : UInt8)] ++ v7.snd.fst ++ [(32 : UInt8)] ++ v9.fst ++ [(32 : UInt8)] ++ v10.fst ++ [(32 : UInt8)] ++ v11.fst ++ [(10 : UInt8)]))) else none) else none)) else none) else none)) else none) else none)) else none) else none) else none) else none)) else none)

noncomputable def yCc (c1_6 : Cha) (s3_6 : List UInt8) : Option (List UInt8 × Unit) :=
  (some ((s3_6, ())))

theorem yDc (n : Nat) (hn : big ≤ n)  (c1_6 : Cha) (s3_6 : List UInt8) (hx : List.length (c1_6.snd.fst) < lenMax) : LeF some (yI (fun i__ e__ s__ => y98 c1_6 i__ e__ s__) (fun s__ => yCc c1_6 s__) 0 (c1_6.snd.fst) s3_6) (y7S n n c1_6 s3_6 0) := by
  refine yQ (f := some) (W := fun k__ i__ s__ => y7S n k__ c1_6 s__ i__) (body := (fun i__ e__ s__ => y98 c1_6 i__ e__ s__)) (fin := (fun s__ => yCc c1_6 s__)) (fun k__ i__ s__ => ?_) hx s3_6 n (by unfold big at hn; unfold lenMax at hx; omega)
  show LeF _ _ (yE7 n (y7S n k__) c1_6 s__ i__)
  exact y4 (yA fun v7 => (y4 (yA fun v8 => (y4 (y4 (y4 (y4 (yA fun v9 => (y4 (y4 (yA fun v10 => (y4 (y4 (yA fun v11 => (y4 (y4 (y6 rfl) yM) yM)) yM) yM)) yM) yM)) yM) yM) yM) yM)) yM)) (y0R (y6 rfl))

noncomputable def y96 (c1_0 : Cha) (i4_0 : Int) (v1 : Sta) (s3_0 : List UInt8) : Option ((List UInt8 × Unit) ⊕ (List UInt8)) :=
  (bif v1.snd.snd.snd.fst then (yCF c1_0 s3_0 i4_0 v1 ([(49 : UInt8)])) else (yCF c1_0 s3_0 i4_0 v1 ([(48 : UInt8)])))

noncomputable def y95 (c1_0 : Cha) (s3_0 : List UInt8) : Option (List UInt8 × Unit) :=
  (bif decide (List.length (c1_0.snd.fst) < lenMax) then yI (fun i__ e__ s__ => y98 (c1_0) i__ e__ s__) (fun s__ => yCc (c1_0) s__) 0 (c1_0.snd.fst) (s3_0) else none)

theorem yDf (n : Nat) (hn : big ≤ n)  (c1_0 : Cha) (s3_0 : List UInt8) (hx : List.length (c1_0.fst) < lenMax) : LeF some (yI (fun i__ e__ s__ => y96 c1_0 i__ e__ s__) (fun s__ => y95 c1_0 s__) 0 (c1_0.fst) s3_0) (y7P n n c1_0 s3_0 0) := by
  refine yQ (f := some) (W := fun k__ i__ s__ => y7P n k__ c1_0 s__ i__) (body := (fun i__ e__ s__ => y96 c1_0 i__ e__ s__)) (fin := (fun s__ => y95 c1_0 s__)) (fun k__ i__ s__ => ?_) hx s3_0 n (by unfold big at hn; unfold lenMax at hx; omega)
  show LeF _ _ (yEi n (y7P n k__) c1_0 s__ i__)
  exact y4 (yA fun v1 => (y4 (by apply y2r n hn) (by apply y2r n hn))) (y0R (yY fun hx => by apply yDc n hn; exact hx))

noncomputable def yGM (c : Cha) : Option (List UInt8 × Unit) :=
  (bif decide (List.length (c.fst) < lenMax) then yI (fun i__ e__ s__ => y96 (c) i__ e__ s__) (fun s__ => y95 (c) s__) 0 (c.fst) ([]) else none)

theorem yMG (c : Cha) (y : List UInt8 × Unit) (h : yGM c = some y) : ∃ n, yKG n c = some y :=
  ⟨big, LeF.top (show LeF some (yGM c) (yKG big c) from (fun (n : Nat) (hn : big ≤ n) => show LeF some (yGM c) (yKG n c) from (yY fun hx => by apply yDf n hn; exact hx)) big (Nat.le_refl _)) h⟩
noncomputable def z0h_e : Entry := { f := 11, args := yLW, rS := yPw, m := fun x => yGM x.1 }
theorem yPg : FnOK Tryz.prog z0h_e := y20 (g := yNw) (fn := Tryz.f11) y0L y1s (yB yOI eNil) (by kernel_rfl) (by kernel_rfl) (by kernel_rfl) (fun x y h => let ⟨n, hn⟩ := yMG x.1 y h; ⟨yL5 n, iNil, (yPU n x).trans hn⟩)

/-! ### strings.CutSuffix -/
abbrev zl_a : Ty := .pair t9 (.pair t9 .unit)
abbrev zl_r : Ty := .pair t9 (.pair t4 .unit)
noncomputable def zl_g : G := { T := T, E := [zB_e], mU := [], fz := [] }
def zl_k : List (List Nat) := []
noncomputable def yON (n : Nat) : Ann := { keep := zl_k, fuel := n, inl := [], deep := 0 }
noncomputable def zl_m (n : Nat) (s : List UInt8) (suffix : List UInt8) : Option (List UInt8 × Bool × Unit) :=
  (Option.bind (Go.Tw.zB_M s suffix) fun (v0 : List UInt8 × Bool × Unit) => Option.some (v0.fst, v0.snd.fst, ()))

theorem yRZ (n : Nat) (x : zl_a.den) : runF zl_g (yON n) Tryz.f42 zl_a zl_r x = zl_m n x.1 x.2.1 := by kernel_rfl

noncomputable def zl_M (s : List UInt8) (suffix : List UInt8) : Option (List UInt8 × Bool × Unit) := zl_m 0 s suffix

theorem yOs (s : List UInt8) (suffix : List UInt8) (y : List UInt8 × Bool × Unit) (h : zl_M s suffix = some y) : ∃ n, zl_m n s suffix = some y := ⟨0, h⟩
noncomputable def zl_e : Entry := { f := 42, args := zl_a, rS := zl_r, m := fun x => zl_M x.1 x.2.1 }
theorem yRg : FnOK Tryz.prog zl_e := y20 (g := zl_g) (fn := Tryz.f42) y0L y1s (yB yRu eNil) (by kernel_rfl) (by kernel_rfl) (by kernel_rfl) (fun x y h => let ⟨n, hn⟩ := yOs x.1 x.2.1 y h; ⟨yON n, iNil, (yRZ n x).trans hn⟩)

/-! ### tidewayref06.numbers -/
abbrev yLo : Ty := .pair t51 .unit
abbrev yQF : Ty := .pair t45 (.pair t4 .unit)
noncomputable def yPA : G := { T := T, E := [z0R_e], mU := [4], fz := [] }
def yRI : List (List Nat) := [[0, 4, 5]]
noncomputable def yL8 (n : Nat) : Ann := { keep := yRI, fuel := n, inl := [], deep := 0 }
noncomputable def yEw (n : Nat) (r0 : List (List UInt8) → Int → List Int → Option (List Int × Bool × Unit)) (w0_0 : List (List UInt8)) (i5_0 : Int) (c0_0 : List Int) : Option (List Int × Bool × Unit) :=
  (bif Decidable.decide (i5_0 < (↑w0_0.length : Int)) then (Option.bind (Go.Vx.idx w0_0 i5_0) fun (v1 : List UInt8) => (Option.bind (Go.Tw.yJy v1) fun (v2 : Int × Bool × Unit) => (bif !v2.snd.fst then Option.some ([], Bool.false, ()) else (bif Decidable.decide (c0_0.length + (1 : Nat) ≤ Go.Vx.memMax) then r0 w0_0 (Go.IntKind.i64.wrap (i5_0 + (1 : Int))) (c0_0 ++ [v2.fst]) else none)))) else Option.some (c0_0, Bool.true, ()))

noncomputable def y79 (n : Nat)  (k : Nat) (w0_0 : List (List UInt8)) (i5_0 : Int) (c0_0 : List Int) : Option (List Int × Bool × Unit) :=
  iter (fun r y => yEw n (fun w0_0 i5_0 c0_0 => r ((w0_0, (i5_0, ())), ((c0_0, ()), ()))) y.1.1 y.1.2.1 y.2.1.1) k ((w0_0, (i5_0, ())), ((c0_0, ()), ()))

noncomputable def yJB (n : Nat) (w : List (List UInt8)) : Option (List Int × Bool × Unit) :=
  (y79 n n (w) ((0 : Int)) ([]))

theorem yPm (n : Nat) (x : yLo.den) : runF yPA (yL8 n) Tryz.f53 yLo yQF x = yJB n x.1 := by kernel_rfl

noncomputable def y6d (w0_0 : List (List UInt8)) (i5_0 : Int) (v1 : List UInt8) (c0_0 : List Int) : Option ((List Int × Bool × Unit) ⊕ (List Int)) :=
  (Option.bind (Go.Tw.yJy v1) fun (v2 : Int × Bool × Unit) => (bif !v2.snd.fst then (some (Sum.inl (([], Bool.false, ())))) else (bif Decidable.decide (c0_0.length + (1 : Nat) ≤ Go.Vx.memMax) then (some (Sum.inr (c0_0 ++ [v2.fst]))) else none)))

noncomputable def yB4 (w0_0 : List (List UInt8)) (c0_0 : List Int) : Option (List Int × Bool × Unit) :=
  (some ((c0_0, Bool.true, ())))

theorem yDB (n : Nat) (hn : big ≤ n)  (w0_0 : List (List UInt8)) (c0_0 : List Int) (hx : List.length (w0_0) < lenMax) : LeF some (yI (fun i__ e__ s__ => y6d w0_0 i__ e__ s__) (fun s__ => yB4 w0_0 s__) 0 (w0_0) c0_0) (y79 n n w0_0 0 c0_0) := by
  refine yQ (f := some) (W := fun k__ i__ s__ => y79 n k__ w0_0 i__ s__) (body := (fun i__ e__ s__ => y6d w0_0 i__ e__ s__)) (fin := (fun s__ => yB4 w0_0 s__)) (fun k__ i__ s__ => ?_) hx c0_0 n (by unfold big at hn; unfold lenMax at hx; omega)
  show LeF _ _ (yEw n (y79 n k__) w0_0 i__ s__)
  exact y4 (yA fun v1 => (yA fun v2 => (y4 (y6 rfl) (y4 (y6 rfl) yM)))) (y0R (y6 rfl))

noncomputable def yGI (w : List (List UInt8)) : Option (List Int × Bool × Unit) :=
  (bif decide (List.length (w) < lenMax) then yI (fun i__ e__ s__ => y6d (w) i__ e__ s__) (fun s__ => yB4 (w) s__) 0 (w) ([]) else none)

theorem yMr (w : List (List UInt8)) (y : List Int × Bool × Unit) (h : yGI w = some y) : ∃ n, yJB n w = some y :=
  ⟨big, LeF.top (show LeF some (yGI w) (yJB big w) from (fun (n : Nat) (hn : big ≤ n) => show LeF some (yGI w) (yJB n w) from (yY fun hx => by apply yDB n hn; exact hx)) big (Nat.le_refl _)) h⟩
noncomputable def z0D_e : Entry := { f := 53, args := yLo, rS := yQF, m := fun x => yGI x.1 }
theorem yPc : FnOK Tryz.prog z0D_e := y20 (g := yPA) (fn := Tryz.f53) y0L y1s (yB yPv eNil) (by kernel_rfl) (by kernel_rfl) (by kernel_rfl) (fun x y h => let ⟨n, hn⟩ := yMr x.1 y h; ⟨yL8 n, iNil, (yPm n x).trans hn⟩)

/-! ### strings.CutPrefix -/
abbrev zk_a : Ty := .pair t9 (.pair t9 .unit)
abbrev zk_r : Ty := .pair t9 (.pair t4 .unit)
noncomputable def zk_g : G := { T := T, E := [zA_e], mU := [], fz := [] }
def zk_k : List (List Nat) := []
noncomputable def yQi (n : Nat) : Ann := { keep := zk_k, fuel := n, inl := [], deep := 0 }
noncomputable def zk_m (n : Nat) (s : List UInt8) (p1 : List UInt8) : Option (List UInt8 × Bool × Unit) :=
  (Option.bind (Go.Tw.zA_M s p1) fun (v0 : List UInt8 × Bool × Unit) => Option.some (v0.fst, v0.snd.fst, ()))

theorem yRr (n : Nat) (x : zk_a.den) : runF zk_g (yQi n) Tryz.f144 zk_a zk_r x = zk_m n x.1 x.2.1 := by kernel_rfl

noncomputable def zk_M (s : List UInt8) (p1 : List UInt8) : Option (List UInt8 × Bool × Unit) := zk_m 0 s p1

theorem yOT (s : List UInt8) (p1 : List UInt8) (y : List UInt8 × Bool × Unit) (h : zk_M s p1 = some y) : ∃ n, zk_m n s p1 = some y := ⟨0, h⟩
noncomputable def zk_e : Entry := { f := 144, args := zk_a, rS := zk_r, m := fun x => zk_M x.1 x.2.1 }
theorem yQy : FnOK Tryz.prog zk_e := y20 (g := zk_g) (fn := Tryz.f144) y0L y1s (yB yR9 eNil) (by kernel_rfl) (by kernel_rfl) (by kernel_rfl) (fun x y h => let ⟨n, hn⟩ := yOT x.1 x.2.1 y h; ⟨yQi n, iNil, (yRr n x).trans hn⟩)

end Go.Tw
end

section
set_option linter.all false
set_option maxRecDepth 1000000
namespace Go.Tw
open Go.Vx Go.Vx.B Go.Proofs
/-! ### tidewayref06.Parse -/
abbrev yMt : Ty := .pair t9 .unit
abbrev yOl : Ty := .pair t25 (.pair t3 (.pair t3 .unit))
noncomputable def yNi : G := { T := T, E := [z0f_e, z0D_e, zu_e], mU := [5], fz := [] }
def yRl : List (List Nat) := [[2, 5, 6, 7]]
noncomputable def yKq (n : Nat) : Ann := { keep := yRl, fuel := n, inl := [], deep := 0 }
noncomputable def y2L (n : Nat) (r1 : List (List UInt8) → Int → List Sta → List Tra → Option (Cha × Int × Int × Unit)) (lines6_1 : List (List UInt8)) (i7_1 : Int) (c2_1 : List Sta) (c3_1 : List Tra) (v4 : List (List UInt8) × Unit) (j16 : Bool) : Option (Cha × Int × Int × Unit) :=
  (bif j16 then (bif Decidable.decide ((0 : Int) ≤ (2 : Int)) && Decidable.decide ((2 : Int) ≤ (4 : Int)) && Decidable.decide ((4 : Int) ≤ (↑v4.fst.length : Int)) then (Option.bind (Go.Tw.yGI (List.drop (Int.toNat (2 : Int)) (List.take (Int.toNat (4 : Int)) v4.fst))) fun (v17 : List Int × Bool × Unit) => (bif !v17.snd.fst then Option.some (([], [], ()), i7_1, (26 : Int), ()) else (Option.bind (Go.Vx.idx v4.fst (1 : Int)) fun (v18 : List UInt8) => (Option.bind (Go.Vx.idx v17.fst (0 : Int)) fun (v19 : Int) => (Option.bind (Go.Vx.idx v17.fst (1 : Int)) fun (v20 : Int) => (Option.bind (Go.Vx.idx v4.fst (4 : Int)) fun (v21 : List UInt8) => (bif Decidable.decide (c2_1.length + (1 : Nat) ≤ Go.Vx.memMax) then r1 lines6_1 (Go.IntKind.i64.wrap (i7_1 + (1 : Int))) (c2_1 ++ [(v18, v19, v20, v21 == [(49 : UInt8)], ())]) c3_1 else none))))))) else none) else (bif (↑v4.fst.length : Int) != (6 : Int) then Option.some (([], [], ()), i7_1, (26 : Int), ()) else (Option.bind (Go.Vx.idx v4.fst (0 : Int)) fun (v23 : List UInt8) => (bif !v23 == [(109 : UInt8), (111 : UInt8), (118 : UInt8), (101 : UInt8)] then Option.some (([], [], ()), i7_1, (26 : Int), ()) else (Option.bind (Go.Vx.idx v4.fst (2 : Int)) fun (v24 : List UInt8) => (bif v24 == [] then Option.some (([], [], ()), i7_1, (26 : Int), ()) else (Option.bind (Go.Vx.idx v4.fst (1 : Int)) fun (v29 : List UInt8) => (Option.bind (Go.Vx.idx v4.fst (3 : Int)) fun (v30 : List UInt8) => (Option.bind (Go.Vx.idx v4.fst (4 : Int)) fun (v31 : List UInt8) => (Option.bind (Go.Vx.idx v4.fst (5 : Int)) fun (v32 : List UInt8) => (Option.bind (Go.Tw.yGI [v29, v30, v31, v32]) fun (v33 : List Int × Bool × Unit) => (bif !v33.snd.fst then Option.some (([], [], ()), i7_1, (26 : Int), ()) else (Option.bind (Go.Vx.idx v33.fst (0 : Int)) fun (v34 : Int) => (Option.bind (Go.Vx.idx v4.fst (2 : Int)) fun (v35 : List UInt8) => (Option.bind (Go.Vx.idx v33.fst (1 : Int)) fun (v36 : Int) => (Option.bind (Go.Vx.idx v33.fst (2 : Int)) fun (v37 : Int) => (Option.bind (Go.Vx.idx v33.fst (3 : Int)) fun (v38 : Int) => (bif Decidable.decide (c3_1.length + (1 : Nat) ≤ Go.Vx.memMax) then r1 lines6_1 (Go.IntKind.i64.wrap (i7_1 + (1 : Int))) c2_1 (c3_1 ++ [(v34, v35, v36, v37, v38, ())]) else none))))))))))))))))))

noncomputable def yEc (n : Nat) (r1 : List (List UInt8) → Int → List Sta → List Tra → Option (Cha × Int × Int × Unit)) (lines6_1 : List (List UInt8)) (i7_1 : Int) (c2_1 : List Sta) (c3_1 : List Tra) : Option (Cha × Int × Int × Unit) :=
  (bif Decidable.decide (i7_1 < (↑lines6_1.length : Int)) then (bif i7_1 == Go.IntKind.i64.wrap ((↑lines6_1.length : Int) - (1 : Int)) then (Option.bind (Go.Vx.idx lines6_1 i7_1) fun (v2 : List UInt8) => (bif !v2 == [] then Option.some (([], [], ()), i7_1, (26 : Int), ()) else r1 lines6_1 (Go.IntKind.i64.wrap (i7_1 + (1 : Int))) c2_1 c3_1)) else (Option.bind (Go.Vx.idx lines6_1 i7_1) fun (v3 : List UInt8) => (Option.bind (Go.Tw.yGZ v3 (32 : Int)) fun (v4 : List (List UInt8) × Unit) => (bif (↑v4.fst.length : Int) == (5 : Int) then (Option.bind (Go.Vx.idx v4.fst (0 : Int)) fun (v5 : List UInt8) => (bif v5 == [(115 : UInt8), (116 : UInt8), (97 : UInt8), (116 : UInt8), (101 : UInt8)] then (Option.bind (Go.Vx.idx v4.fst (1 : Int)) fun (v6 : List UInt8) => (bif !v6 == [] then (Option.bind (Go.Vx.idx v4.fst (4 : Int)) fun (v7 : List UInt8) => (bif v7 == [(48 : UInt8)] then (y2L n r1 lines6_1 i7_1 c2_1 c3_1 v4 ((↑c3_1.length : Int) == (0 : Int))) else (Option.bind (Go.Vx.idx v4.fst (4 : Int)) fun (v8 : List UInt8) => (bif v8 == [(49 : UInt8)] then (y2L n r1 lines6_1 i7_1 c2_1 c3_1 v4 ((↑c3_1.length : Int) == (0 : Int))) else (y2L n r1 lines6_1 i7_1 c2_1 c3_1 v4 (Bool.false)))))) else (y2L n r1 lines6_1 i7_1 c2_1 c3_1 v4 (Bool.false)))) else (y2L n r1 lines6_1 i7_1 c2_1 c3_1 v4 (Bool.false)))) else (y2L n r1 lines6_1 i7_1 c2_1 c3_1 v4 (Bool.false)))))) else (Option.bind (Go.Tw.zu_M (c2_1, c3_1, ())) fun (v39 : Int × Unit) => (bif v39.fst != (0 : Int) then Option.some (([], [], ()), Go.IntKind.i64.wrap ((↑lines6_1.length : Int) - (1 : Int)), v39.fst, ()) else Option.some ((c2_1, c3_1, ()), (0 : Int), (0 : Int), ()))))

noncomputable def y7H (n : Nat)  (k : Nat) (lines6_1 : List (List UInt8)) (i7_1 : Int) (c2_1 : List Sta) (c3_1 : List Tra) : Option (Cha × Int × Int × Unit) :=
  iter (fun r y => yEc n (fun lines6_1 i7_1 c2_1 c3_1 => r ((lines6_1, (i7_1, ())), (((), ((), (c2_1, (c3_1, ())))), ()))) y.1.1 y.1.2.1 y.2.1.2.2.1 y.2.1.2.2.2.1) k ((lines6_1, (i7_1, ())), (((), ((), (c2_1, (c3_1, ())))), ()))

noncomputable def yJn (n : Nat) (s : List UInt8) : Option (Cha × Int × Int × Unit) :=
  (bif Decidable.decide ((↑s.length : Int) > (1000000 : Int)) then Option.some (([], [], ()), (0 : Int), (27 : Int), ()) else (Option.bind (Go.Tw.yGZ s (10 : Int)) fun (v0 : List (List UInt8) × Unit) => (y7H n n (v0.fst) ((0 : Int)) ([]) ([]))))

theorem yOz (n : Nat) (x : yMt.den) : runF yNi (yKq n) Tryz.f12 yMt yOl x = yJn n x.1 := by kernel_rfl

noncomputable def y1r (lines6_1 : List (List UInt8)) (i7_1 : Int) (c2_1 : List Sta) (c3_1 : List Tra) (v4 : List (List UInt8) × Unit) (j16 : Bool) : Option ((Cha × Int × Int × Unit) ⊕ ((List Sta) × (List Tra))) :=
  (bif j16 then (bif Decidable.decide ((0 : Int) ≤ (2 : Int)) && Decidable.decide ((2 : Int) ≤ (4 : Int)) && Decidable.decide ((4 : Int) ≤ (↑v4.fst.length : Int)) then (Option.bind (Go.Tw.yGI (List.drop (Int.toNat (2 : Int)) (List.take (Int.toNat (4 : Int)) v4.fst))) fun (v17 : List Int × Bool × Unit) => (bif !v17.snd.fst then (some (Sum.inl ((([], [], ()), i7_1, (26 : Int), ())))) else (Option.bind (Go.Vx.idx v4.fst (1 : Int)) fun (v18 : List UInt8) => (Option.bind (Go.Vx.idx v17.fst (0 : Int)) fun (v19 : Int) => (Option.bind (Go.Vx.idx v17.fst (1 : Int)) fun (v20 : Int) => (Option.bind (Go.Vx.idx v4.fst (4 : Int)) fun (v21 : List UInt8) => (bif Decidable.decide (c2_1.length + (1 : Nat) ≤ Go.Vx.memMax) then (some (Sum.inr ((c2_1 ++ [(v18, v19, v20, v21 == [(49 : UInt8)], ())]), (c3_1)))) else none))))))) else none) else (bif (↑v4.fst.length : Int) != (6 : Int) then (some (Sum.inl ((([], [], ()), i7_1, (26 : Int), ())))) else (Option.bind (Go.Vx.idx v4.fst (0 : Int)) fun (v23 : List UInt8) => (bif !v23 == [(109 : UInt8), (111 : UInt8), (118 : UInt8), (101 : UInt8)] then (some (Sum.inl ((([], [], ()), i7_1, (26 : Int), ())))) else (Option.bind (Go.Vx.idx v4.fst (2 : Int)) fun (v24 : List UInt8) => (bif v24 == [] then (some (Sum.inl ((([], [], ()), i7_1, (26 : Int), ())))) else (Option.bind (Go.Vx.idx v4.fst (1 : Int)) fun (v29 : List UInt8) => (Option.bind (Go.Vx.idx v4.fst (3 : Int)) fun (v30 : List UInt8) => (Option.bind (Go.Vx.idx v4.fst (4 : Int)) fun (v31 : List UInt8) => (Option.bind (Go.Vx.idx v4.fst (5 : Int)) fun (v32 : List UInt8) => (Option.bind (Go.Tw.yGI [v29, v30, v31, v32]) fun (v33 : List Int × Bool × Unit) => (bif !v33.snd.fst then (some (Sum.inl ((([], [], ()), i7_1, (26 : Int), ())))) else (Option.bind (Go.Vx.idx v33.fst (0 : Int)) fun (v34 : Int) => (Option.bind (Go.Vx.idx v4.fst (2 : Int)) fun (v35 : List UInt8) => (Option.bind (Go.Vx.idx v33.fst (1 : Int)) fun (v36 : Int) => (Option.bind (Go.Vx.idx v33.fst (2 : Int)) fun (v37 : Int) => (Option.bind (Go.Vx.idx v33.fst (3 : Int)) fun (v38 : Int) => (bif Decidable.decide (c3_1.length + (1 : Nat) ≤ Go.Vx.memMax) then (some (Sum.inr ((c2_1), (c3_1 ++ [(v34, v35, v36, v37, v38, ())])))) else none))))))))))))))))))

theorem yy (n : Nat) (hn : big ≤ n)  (r1 : List (List UInt8) → Int → List Sta → List Tra → Option (Cha × Int × Int × Unit)) (lines6_1 : List (List UInt8)) (i7_1 : Int) (c2_1 : List Sta) (c3_1 : List Tra) (v4 : List (List UInt8) × Unit) (j16 : Bool) : LeF (elim some fun (s__ : ((List Sta) × (List Tra))) => r1 lines6_1 (Go.IntKind.i64.wrap (i7_1 + 1)) s__.1 s__.2) (y1r lines6_1 i7_1 c2_1 c3_1 v4 j16) (y2L n r1 lines6_1 i7_1 c2_1 c3_1 v4 j16) :=
  (y4 (y4 (yA fun v17 => (y4 (y6 rfl) (yA fun v18 => (yA fun v19 => (yA fun v20 => (yA fun v21 => (y4 (y6 rfl) yM))))))) yM) (y4 (y6 rfl) (yA fun v23 => (y4 (y6 rfl) (yA fun v24 => (y4 (y6 rfl) (yA fun v29 => (yA fun v30 => (yA fun v31 => (yA fun v32 => (yA fun v33 => (y4 (y6 rfl) (yA fun v34 => (yA fun v35 => (yA fun v36 => (yA fun v37 => (yA fun v38 => (y4 (y6 rfl) yM))))))))))))))))))

noncomputable def y4i (lines6_1 : List (List UInt8)) (i7_1 : Int) (c2_1 : List Sta) (c3_1 : List Tra) : Option ((Cha × Int × Int × Unit) ⊕ ((List Sta) × (List Tra))) :=
  (bif i7_1 == Go.IntKind.i64.wrap ((↑lines6_1.length : Int) - (1 : Int)) then (Option.bind (Go.Vx.idx lines6_1 i7_1) fun (v2 : List UInt8) => (bif !v2 == [] then (some (Sum.inl ((([], [], ()), i7_1, (26 : Int), ())))) else (some (Sum.inr ((c2_1), (c3_1)))))) else (Option.bind (Go.Vx.idx lines6_1 i7_1) fun (v3 : List UInt8) => (Option.bind (Go.Tw.yGZ v3 (32 : Int)) fun (v4 : List (List UInt8) × Unit) => (bif (↑v4.fst.length : Int) == (5 : Int) then (Option.bind (Go.Vx.idx v4.fst (0 : Int)) fun (v5 : List UInt8) => (bif v5 == [(115 : UInt8), (116 : UInt8), (97 : UInt8), (116 : UInt8), (101 : UInt8)] then (Option.bind (Go.Vx.idx v4.fst (1 : Int)) fun (v6 : List UInt8) => (bif !v6 == [] then (Option.bind (Go.Vx.idx v4.fst (4 : Int)) fun (v7 : List UInt8) => (bif v7 == [(48 : UInt8)] then (y1r lines6_1 i7_1 c2_1 c3_1 v4 ((↑c3_1.length : Int) == (0 : Int))) else (Option.bind (Go.Vx.idx v4.fst (4 : Int)) fun (v8 : List UInt8) => (bif v8 == [(49 : UInt8)] then (y1r lines6_1 i7_1 c2_1 c3_1 v4 ((↑c3_1.length : Int) == (0 : Int))) else (y1r lines6_1 i7_1 c2_1 c3_1 v4 (Bool.false)))))) else (y1r lines6_1 i7_1 c2_1 c3_1 v4 (Bool.false)))) else (y1r lines6_1 i7_1 c2_1 c3_1 v4 (Bool.false)))) else (y1r lines6_1 i7_1 c2_1 c3_1 v4 (Bool.false))))))

noncomputable def yBO (lines6_1 : List (List UInt8)) (c2_1 : List Sta) (c3_1 : List Tra) : Option (Cha × Int × Int × Unit) :=
  (Option.bind (Go.Tw.zu_M (c2_1, c3_1, ())) fun (v39 : Int × Unit) => (bif v39.fst != (0 : Int) then (some ((([], [], ()), Go.IntKind.i64.wrap ((↑lines6_1.length : Int) - (1 : Int)), v39.fst, ()))) else (some (((c2_1, c3_1, ()), (0 : Int), (0 : Int), ())))))

theorem yDp (n : Nat) (hn : big ≤ n)  (lines6_1 : List (List UInt8)) (c2_1 : List Sta) (c3_1 : List Tra) (hx : ((↑lines6_1.length : Int)) ≤ (9223372036854775807 : Int)) : LeF some (y21 (fun i__ s__ => y4i lines6_1 i__ s__.1 s__.2) (fun s__ => yBO lines6_1 s__.1 s__.2) (((↑lines6_1.length : Int)) - 0).toNat 0 (c2_1, c3_1)) (y7H n n lines6_1 0 c2_1 c3_1) := by
  refine y6u (f := some) (W := fun k__ i__ s__ => y7H n k__ lines6_1 i__ s__.1 s__.2) (body := (fun i__ s__ => y4i lines6_1 i__ s__.1 s__.2)) (fin := (fun s__ => yBO lines6_1 s__.1 s__.2)) (fun k__ i__ s__ => ?_) hx (c2_1, c3_1) n 0 (by decide) (by unfold big at hn; omega)
  show LeF _ _ (yEc n (y7H n k__) lines6_1 i__ s__.1 s__.2)
  exact y4 (y4 (yA fun v2 => (y4 (y6 rfl) (y6 rfl))) (yA fun v3 => (yA fun v4 => (y4 (yA fun v5 => (y4 (yA fun v6 => (y4 (yA fun v7 => (y4 (by apply yy n hn) (yA fun v8 => (y4 (by apply yy n hn) (by apply yy n hn))))) (by apply yy n hn))) (by apply yy n hn))) (by apply yy n hn))))) (y0R (yA fun v39 => (y4 (y6 rfl) (y6 rfl))))

noncomputable def yGE (s : List UInt8) : Option (Cha × Int × Int × Unit) :=
  (bif Decidable.decide ((↑s.length : Int) > (1000000 : Int)) then (some ((([], [], ()), (0 : Int), (27 : Int), ()))) else (Option.bind (Go.Tw.yGZ s (10 : Int)) fun (v0 : List (List UInt8) × Unit) => (bif decide (((↑v0.fst.length : Int)) ≤ (9223372036854775807 : Int)) then y21 (fun i__ s__ => y4i (v0.fst) i__ s__.1 s__.2) (fun s__ => yBO (v0.fst) s__.1 s__.2) (((↑v0.fst.length : Int)) - 0).toNat 0 (([]), ([])) else none)))

theorem yLy (s : List UInt8) (y : Cha × Int × Int × Unit) (h : yGE s = some y) : ∃ n, yJn n s = some y :=
  ⟨big, LeF.top (show LeF some (yGE s) (yJn big s) from (fun (n : Nat) (hn : big ≤ n) => show LeF some (yGE s) (yJn n s) from (y4 (y6 rfl) (yA fun v0 => (yY fun hx => by apply yDp n hn; exact hx)))) big (Nat.le_refl _)) h⟩
noncomputable def z0g_e : Entry := { f := 12, args := yMt, rS := yOl, m := fun x => yGE x.1 }
theorem yOx : FnOK Tryz.prog z0g_e := y20 (g := yNi) (fn := Tryz.f12) y0L y1s (yB yOi (yB yPc (yB yNx eNil))) (by kernel_rfl) (by kernel_rfl) (by kernel_rfl) (fun x y h => let ⟨n, hn⟩ := yLy x.1 y h; ⟨yKq n, iNil, (yOz n x).trans hn⟩)

/-! ### gate.integer -/
abbrev yLe : Ty := .pair t9 .unit
abbrev yO6 : Ty := .pair t3 (.pair t4 .unit)
noncomputable def yO7 : G := { T := T, E := [zk_e], mU := [], fz := [] }
def yRC : List (List Nat) := [[4, 5, 6, 16]]
noncomputable def yKp (n : Nat) : Ann := { keep := yRC, fuel := n, inl := [], deep := 0 }
noncomputable def yFL (n : Nat) (r1 : List UInt8 → Bool → Int → List UInt8 → Int → Option (Int × Bool × Unit)) (body4_1 : List UInt8) (minus5_1 : Bool) (n6_1 : Int) (str0__1 : List UInt8) (pos0__1 : Int) : Option (Int × Bool × Unit) :=
  (bif Decidable.decide (pos0__1 < (↑str0__1.length : Int)) then (bif Decidable.decide ((Go.Vx.yg str0__1 pos0__1).fst < (48 : Int)) then Option.some ((0 : Int), Bool.false, ()) else (bif Decidable.decide ((Go.Vx.yg str0__1 pos0__1).fst > (57 : Int)) then Option.some ((0 : Int), Bool.false, ()) else (bif Decidable.decide ((↑body4_1.length : Int) > (9 : Int)) then Option.some ((0 : Int), Bool.false, ()) else r1 body4_1 minus5_1 (Go.IntKind.i64.wrap (Go.IntKind.i64.wrap ((10 : Int) * n6_1) + Go.IntKind.i64.wrap (Go.IntKind.i32.wrap ((Go.Vx.yg str0__1 pos0__1).fst - (48 : Int))))) str0__1 (Go.Vx.yg str0__1 pos0__1).snd))) else (bif !body4_1 == [] then (bif (↑body4_1.length : Int) == (1 : Int) then (bif minus5_1 then Option.some (Go.IntKind.i64.wrap ((0 : Int) - n6_1), Decidable.decide (n6_1 > (0 : Int)), ()) else Option.some (n6_1, Bool.true, ())) else (Option.bind (Go.Vx.idx body4_1 (0 : Int)) fun (v7 : UInt8) => (bif minus5_1 then (bif (↑v7.toNat : Int) != (48 : Int) then Option.some (Go.IntKind.i64.wrap ((0 : Int) - n6_1), Decidable.decide (n6_1 > (0 : Int)), ()) else Option.some (Go.IntKind.i64.wrap ((0 : Int) - n6_1), Bool.false, ())) else Option.some (n6_1, (↑v7.toNat : Int) != (48 : Int), ())))) else (bif minus5_1 then Option.some (Go.IntKind.i64.wrap ((0 : Int) - n6_1), Bool.false, ()) else Option.some (n6_1, Bool.false, ()))))

noncomputable def y75 (n : Nat)  (k : Nat) (body4_1 : List UInt8) (minus5_1 : Bool) (n6_1 : Int) (str0__1 : List UInt8) (pos0__1 : Int) : Option (Int × Bool × Unit) :=
  iter (fun r y => yFL n (fun body4_1 minus5_1 n6_1 str0__1 pos0__1 => r ((body4_1, (minus5_1, (n6_1, ()))), (((str0__1, pos0__1), ()), ()))) y.1.1 y.1.2.1 y.1.2.2.1 y.2.1.1.1 y.2.1.1.2) k ((body4_1, (minus5_1, (n6_1, ()))), (((str0__1, pos0__1), ()), ()))

noncomputable def yKV (n : Nat) (s : List UInt8) : Option (Int × Bool × Unit) :=
  (Option.bind (Go.Tw.zk_M s [(45 : UInt8)]) fun (v0 : List UInt8 × Bool × Unit) => (y75 n n (v0.fst) (v0.snd.fst) ((0 : Int)) (v0.fst) ((0 : Int))))

theorem yNj (n : Nat) (x : yLe.den) : runF yO7 (yKp n) Tryz.f125 yLe yO6 x = yKV n x.1 := by kernel_rfl

noncomputable def y1w (body4_1 : List UInt8) (minus5_1 : Bool) (str0__1 : List UInt8) (pos0__1 : Int) (n6_1 : Int) : Option ((Int × Bool × Unit) ⊕ (Int)) :=
  (bif Decidable.decide ((Go.Vx.yg str0__1 pos0__1).fst < (48 : Int)) then (some (Sum.inl (((0 : Int), Bool.false, ())))) else (bif Decidable.decide ((Go.Vx.yg str0__1 pos0__1).fst > (57 : Int)) then (some (Sum.inl (((0 : Int), Bool.false, ())))) else (bif Decidable.decide ((↑body4_1.length : Int) > (9 : Int)) then (some (Sum.inl (((0 : Int), Bool.false, ())))) else (some (Sum.inr (Go.IntKind.i64.wrap (Go.IntKind.i64.wrap ((10 : Int) * n6_1) + Go.IntKind.i64.wrap (Go.IntKind.i32.wrap ((Go.Vx.yg str0__1 pos0__1).fst - (48 : Int))))))))))

noncomputable def y5Q (body4_1 : List UInt8) (minus5_1 : Bool) (str0__1 : List UInt8) (n6_1 : Int) : Option (Int × Bool × Unit) :=
  (bif !body4_1 == [] then (bif (↑body4_1.length : Int) == (1 : Int) then (bif minus5_1 then (some ((Go.IntKind.i64.wrap ((0 : Int) - n6_1), Decidable.decide (n6_1 > (0 : Int)), ()))) else (some ((n6_1, Bool.true, ())))) else (Option.bind (Go.Vx.idx body4_1 (0 : Int)) fun (v7 : UInt8) => (bif minus5_1 then (bif (↑v7.toNat : Int) != (48 : Int) then (some ((Go.IntKind.i64.wrap ((0 : Int) - n6_1), Decidable.decide (n6_1 > (0 : Int)), ()))) else (some ((Go.IntKind.i64.wrap ((0 : Int) - n6_1), Bool.false, ())))) else (some ((n6_1, (↑v7.toNat : Int) != (48 : Int), ())))))) else (bif minus5_1 then (some ((Go.IntKind.i64.wrap ((0 : Int) - n6_1), Bool.false, ()))) else (some ((n6_1, Bool.false, ())))))

theorem yDI (n : Nat) (hn : big ≤ n)  (body4_1 : List UInt8) (minus5_1 : Bool) (str0__1 : List UInt8) (n6_1 : Int) (hx : List.length (str0__1) < lenMax) : LeF some (y3Y (str0__1) (fun i__ s__ => y1w body4_1 minus5_1 str0__1 i__ s__) (fun s__ => y5Q body4_1 minus5_1 str0__1 s__) (List.length (str0__1)) 0 n6_1) (y75 n n body4_1 minus5_1 n6_1 str0__1 0) := by
  refine yEZ (f := some) (W := fun k__ i__ s__ => y75 n k__ body4_1 minus5_1 s__ str0__1 i__) (body := (fun i__ s__ => y1w body4_1 minus5_1 str0__1 i__ s__)) (fin := (fun s__ => y5Q body4_1 minus5_1 str0__1 s__)) (fun k__ i__ s__ => ?_) n6_1 n (by unfold big at hn; unfold lenMax at hx; omega)
  show LeF _ _ (yFL n (y75 n k__) body4_1 minus5_1 s__ str0__1 i__)
  exact y4 (y4 (y6 rfl) (y4 (y6 rfl) (y4 (y6 rfl) (y6 rfl)))) (y0R (y4 (y4 (y4 (y6 rfl) (y6 rfl)) (yA fun v7 => (y4 (y4 (y6 rfl) (y6 rfl)) (y6 rfl)))) (y4 (y6 rfl) (y6 rfl))))

noncomputable def yBp (s : List UInt8) : Option (Int × Bool × Unit) :=
  (Option.bind (Go.Tw.zk_M s [(45 : UInt8)]) fun (v0 : List UInt8 × Bool × Unit) => (bif decide (List.length (v0.fst) < lenMax) then y3Y (v0.fst) (fun i__ s__ => y1w (v0.fst) (v0.snd.fst) (v0.fst) i__ s__) (fun s__ => y5Q (v0.fst) (v0.snd.fst) (v0.fst) s__) (List.length (v0.fst)) 0 ((0 : Int)) else none))

theorem yN2 (s : List UInt8) (y : Int × Bool × Unit) (h : yBp s = some y) : ∃ n, yKV n s = some y :=
  ⟨big, LeF.top (show LeF some (yBp s) (yKV big s) from (fun (n : Nat) (hn : big ≤ n) => show LeF some (yBp s) (yKV n s) from (yA fun v0 => (yY fun hx => by apply yDI n hn; exact hx))) big (Nat.le_refl _)) h⟩
noncomputable def z0H_e : Entry := { f := 125, args := yLe, rS := yO6, m := fun x => yBp x.1 }
theorem yQK : FnOK Tryz.prog z0H_e := y20 (g := yO7) (fn := Tryz.f125) y0L y1s (yB yQy eNil) (by kernel_rfl) (by kernel_rfl) (by kernel_rfl) (fun x y h => let ⟨n, hn⟩ := yN2 x.1 y h; ⟨yKp n, iNil, (yNj n x).trans hn⟩)

end Go.Tw
end
