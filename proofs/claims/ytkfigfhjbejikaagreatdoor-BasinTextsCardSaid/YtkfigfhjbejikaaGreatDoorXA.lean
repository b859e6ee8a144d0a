/- Models of the program's functions, by program (gen.py), and what they compute.
Models of the program's functions, by program (gen.py), and what they compute.
Models of the program's functions, by program (gen.py), and what they compute.
Models of the program's functions, by program (gen.py), and what they compute. -/
import Derived.Test.YtkfigfhjbejikaaGreatDoorBT
import Derived.Test.YtkfigfhjbejikaaGreatDoorB0
import Derived.Test.YtkfigfhjbejikaaGreatDoorBA
import Derived.Test.YtkfigfhjbejikaaGreatDoorBC
import Derived.Test.YtkfigfhjbejikaaGreatDoorBD
import Derived.Test.YtkfigfhjbejikaaGreatDoorBE
import Derived.Test.YtkfigfhjbejikaaGreatDoorSA
import Derived.Test.YtkfigfhjbejikaaGreatDoorLQ
import Derived.Test.YtkfigfhjbejikaaGreatDoorLR

section
set_option linter.all false
set_option maxRecDepth 1000000
namespace Go.Tw
open Go.Vx Go.Vx.B Go.Proofs
/-! ### tidewayref04.SameBasin -/
abbrev zu_a : Ty := .pair t25 (.pair t25 .unit)
abbrev zu_r : Ty := .pair t4 .unit
noncomputable def zu_g : G := { T := T, E := [], mU := [], fz := [] }
def zu_k : List (List Nat) := [[2, 3, 5], [2, 3, 6]]
noncomputable def yMk (n : Nat) : Ann := { keep := zu_k, fuel := n, inl := [], deep := 0 }
noncomputable def yHl (n : Nat) (r5 : Bas → Bas → Int → Option (Bool × Unit)) (a2_5 : Bas) (b3_5 : Bas) (i6_5 : Int) : Option (Bool × Unit) :=
  (bif Decidable.decide (i6_5 < (↑a2_5.snd.fst.length : Int)) then (Option.bind (Go.Vx.idx a2_5.snd.fst i6_5) fun (v6 : Lnk) => (Option.bind (Go.Vx.idx b3_5.snd.fst i6_5) fun (v7 : Lnk) => (bif !Go.Vx.eqV (Go.Vx.Ty.str.pair ((Go.Vx.Ty.int Go.IntKind.i64).pair ((Go.Vx.Ty.int Go.IntKind.i64).pair ((Go.Vx.Ty.int Go.IntKind.i64).pair ((Go.Vx.Ty.int Go.IntKind.i64).pair Go.Vx.Ty.unit))))) v6 v7 then Option.some (Bool.false, ()) else r5 a2_5 b3_5 (Go.IntKind.i64.wrap (i6_5 + (1 : Int)))))) else Option.some (Bool.true, ()))

noncomputable def y9a (n : Nat)  (k : Nat) (a2_5 : Bas) (b3_5 : Bas) (i6_5 : Int) : Option (Bool × Unit) :=
  iter (fun r y => yHl n (fun a2_5 b3_5 i6_5 => r ((a2_5, (b3_5, (i6_5, ()))), ((), ()))) y.1.1 y.1.2.1 y.1.2.2.1) k ((a2_5, (b3_5, (i6_5, ()))), ((), ()))

noncomputable def yHY (n : Nat) (r2 : Bas → Bas → Int → Option (Bool × Unit)) (a2_2 : Bas) (b3_2 : Bas) (i5_2 : Int) : Option (Bool × Unit) :=
  (bif Decidable.decide (i5_2 < (↑a2_2.fst.length : Int)) then (Option.bind (Go.Vx.idx a2_2.fst i5_2) fun (v3 : Nod) => (Option.bind (Go.Vx.idx b3_2.fst i5_2) fun (v4 : Nod) => (bif !Go.Vx.eqV (Go.Vx.Ty.str.pair ((Go.Vx.Ty.int Go.IntKind.i64).pair ((Go.Vx.Ty.int Go.IntKind.i64).pair Go.Vx.Ty.unit))) v3 v4 then Option.some (Bool.false, ()) else r2 a2_2 b3_2 (Go.IntKind.i64.wrap (i5_2 + (1 : Int)))))) else (y9a n n (a2_2) (b3_2) ((0 : Int))))

noncomputable def yAZ (n : Nat)  (k : Nat) (a2_2 : Bas) (b3_2 : Bas) (i5_2 : Int) : Option (Bool × Unit) :=
  iter (fun r y => yHY n (fun a2_2 b3_2 i5_2 => r ((a2_2, (b3_2, (i5_2, ()))), ((), ()))) y.1.1 y.1.2.1 y.1.2.2.1) k ((a2_2, (b3_2, (i5_2, ()))), ((), ()))

noncomputable def zu_m (n : Nat) (a : Bas) (b : Bas) : Option (Bool × Unit) :=
  (bif (↑a.fst.length : Int) != (↑b.fst.length : Int) then Option.some (Bool.false, ()) else (bif (↑a.snd.fst.length : Int) != (↑b.snd.fst.length : Int) then Option.some (Bool.false, ()) else (yAZ n n (a) (b) ((0 : Int)))))

theorem yOP (n : Nat) (x : zu_a.den) : runF zu_g (yMk n) Tryz.f82 zu_a zu_r x = zu_m n x.1 x.2.1 := by kernel_rfl

noncomputable def yEY (a2_5 : Bas) (b3_5 : Bas) (i6_5 : Int) (v6 : Lnk) : Option ((Bool × Unit) ⊕ Unit) :=
  (Option.bind (Go.Vx.idx b3_5.snd.fst i6_5) fun (v7 : Lnk) => (bif !Go.Vx.eqV (Go.Vx.Ty.str.pair ((Go.Vx.Ty.int Go.IntKind.i64).pair ((Go.Vx.Ty.int Go.IntKind.i64).pair ((Go.Vx.Ty.int Go.IntKind.i64).pair ((Go.Vx.Ty.int Go.IntKind.i64).pair Go.Vx.Ty.unit))))) v6 v7 then (some (Sum.inl ((Bool.false, ())))) else (some (Sum.inr ()))))

noncomputable def yIs (a2_5 : Bas) (b3_5 : Bas) : Option (Bool × Unit) :=
  (some ((Bool.true, ())))

theorem yFI (n : Nat) (hn : big ≤ n)  (a2_5 : Bas) (b3_5 : Bas) (hx : List.length (a2_5.snd.fst) < lenMax) : LeF some (yJ (fun i__ e__ s__ => yEY a2_5 b3_5 i__ e__) (fun s__ => yIs a2_5 b3_5) 0 (a2_5.snd.fst) ()) (y9a n n a2_5 b3_5 0) := by
  refine yb (f := some) (W := fun k__ i__ s__ => y9a n k__ a2_5 b3_5 i__) (body := (fun i__ e__ s__ => yEY a2_5 b3_5 i__ e__)) (fin := (fun s__ => yIs a2_5 b3_5)) (fun k__ i__ s__ => ?_) hx () n (by unfold big at hn; unfold lenMax at hx; omega)
  show LeF _ _ (yHl n (y9a n k__) a2_5 b3_5 i__)
  exact y5 (y9 fun v6 => (y9 fun v7 => (y5 (y8 rfl) (y8 rfl)))) (y0t (y8 rfl))

noncomputable def yF7 (a2_2 : Bas) (b3_2 : Bas) (i5_2 : Int) (v3 : Nod) : Option ((Bool × Unit) ⊕ Unit) :=
  (Option.bind (Go.Vx.idx b3_2.fst i5_2) fun (v4 : Nod) => (bif !Go.Vx.eqV (Go.Vx.Ty.str.pair ((Go.Vx.Ty.int Go.IntKind.i64).pair ((Go.Vx.Ty.int Go.IntKind.i64).pair Go.Vx.Ty.unit))) v3 v4 then (some (Sum.inl ((Bool.false, ())))) else (some (Sum.inr ()))))

noncomputable def yGk (a2_2 : Bas) (b3_2 : Bas) : Option (Bool × Unit) :=
  (bif decide (List.length (a2_2.snd.fst) < lenMax) then yJ (fun i__ e__ s__ => yEY (a2_2) (b3_2) i__ e__) (fun s__ => yIs (a2_2) (b3_2)) 0 (a2_2.snd.fst) () else none)

theorem yEp (n : Nat) (hn : big ≤ n)  (a2_2 : Bas) (b3_2 : Bas) (hx : List.length (a2_2.fst) < lenMax) : LeF some (yJ (fun i__ e__ s__ => yF7 a2_2 b3_2 i__ e__) (fun s__ => yGk a2_2 b3_2) 0 (a2_2.fst) ()) (yAZ n n a2_2 b3_2 0) := by
  refine yb (f := some) (W := fun k__ i__ s__ => yAZ n k__ a2_2 b3_2 i__) (body := (fun i__ e__ s__ => yF7 a2_2 b3_2 i__ e__)) (fin := (fun s__ => yGk a2_2 b3_2)) (fun k__ i__ s__ => ?_) hx () n (by unfold big at hn; unfold lenMax at hx; omega)
  show LeF _ _ (yHY n (yAZ n k__) a2_2 b3_2 i__)
  exact y5 (y9 fun v3 => (y9 fun v4 => (y5 (y8 rfl) (y8 rfl)))) (y0t (yd fun hx => by apply yFI n hn; exact hx))

noncomputable def zu_M (a : Bas) (b : Bas) : Option (Bool × Unit) :=
  (bif (↑a.fst.length : Int) != (↑b.fst.length : Int) then (some ((Bool.false, ()))) else (bif (↑a.snd.fst.length : Int) != (↑b.snd.fst.length : Int) then (some ((Bool.false, ()))) else (bif decide (List.length (a.fst) < lenMax) then yJ (fun i__ e__ s__ => yF7 (a) (b) i__ e__) (fun s__ => yGk (a) (b)) 0 (a.fst) () else none)))

theorem yNm (a : Bas) (b : Bas) (y : Bool × Unit) (h : zu_M a b = some y) : ∃ n, zu_m n a b = some y :=
  ⟨big, LeF.top (show LeF some (zu_M a b) (zu_m big a b) from (fun (n : Nat) (hn : big ≤ n) => show LeF some (zu_M a b) (zu_m n a b) from (y5 (y8 rfl) (y5 (y8 rfl) (yd fun hx => by apply yEp n hn; exact hx)))) big (Nat.le_refl _)) h⟩
noncomputable def zu_e : Entry := { f := 82, args := zu_a, rS := zu_r, m := fun x => zu_M x.1 x.2.1 }
theorem yOb : FnOK Tryz.prog zu_e := y2v (g := zu_g) (fn := Tryz.f82) y17 y2W eNil (by kernel_rfl) (by kernel_rfl) (by kernel_rfl) (fun x y h => let ⟨n, hn⟩ := yNm x.1 x.2.1 y h; ⟨yMk n, iNil, (yOP n x).trans hn⟩)

/-! ### tidewaylaw04.told -/
abbrev yLD : Ty := .pair t41 .unit
abbrev yMV : Ty := .pair t25 .unit
noncomputable def yM5 : G := { T := T, E := [], mU := [3], fz := [] }
def yOs : List (List Nat) := [[1, 2, 3, 9, 10, 11], [2, 3, 23, 24, 25]]
noncomputable def yK1 (n : Nat) : Ann := { keep := yOs, fuel := n, inl := [], deep := 0 }
noncomputable def yDj (n : Nat) (r2 : List Lnk → Int → Int → List Nod → List Lnk → Option (Bas × Unit)) (t23_2 : List Lnk) (t24_2 : Int) (t25_2 : Int) (c2_2 : List Nod) (c3_2 : List Lnk) : Option (Bas × Unit) :=
  (bif Decidable.decide (t25_2 < t24_2) then (Option.bind (Go.Vx.idx t23_2 t25_2) fun (v3 : Lnk) => (bif Decidable.decide (c3_2.length + (1 : Nat) ≤ Go.Vx.memMax) then r2 t23_2 t24_2 (Go.IntKind.i64.wrap (t25_2 + (1 : Int))) c2_2 (c3_2 ++ [(v3.fst, v3.snd.fst, v3.snd.snd.fst, v3.snd.snd.snd.fst, v3.snd.snd.snd.snd.fst, ())]) else none)) else Option.some ((c2_2, c3_2, ()), ()))

noncomputable def y6s (n : Nat)  (k : Nat) (t23_2 : List Lnk) (t24_2 : Int) (t25_2 : Int) (c2_2 : List Nod) (c3_2 : List Lnk) : Option (Bas × Unit) :=
  iter (fun r y => yDj n (fun t23_2 t24_2 t25_2 c2_2 c3_2 => r ((t23_2, (t24_2, (t25_2, ()))), (((), ((), (c2_2, (c3_2, ())))), ()))) y.1.1 y.1.2.1 y.1.2.2.1 y.2.1.2.2.1 y.2.1.2.2.2.1) k ((t23_2, (t24_2, (t25_2, ()))), (((), ((), (c2_2, (c3_2, ())))), ()))

noncomputable def yDq (n : Nat) (r0 : Bas → List Nod → Int → Int → List Nod → List Lnk → Option (Bas × Unit)) (b1_0 : Bas) (t9_0 : List Nod) (t10_0 : Int) (t11_0 : Int) (c2_0 : List Nod) (c3_0 : List Lnk) : Option (Bas × Unit) :=
  (bif Decidable.decide (t11_0 < t10_0) then (Option.bind (Go.Vx.idx t9_0 t11_0) fun (v1 : Nod) => (bif Decidable.decide (c2_0.length + (1 : Nat) ≤ Go.Vx.memMax) then r0 b1_0 t9_0 t10_0 (Go.IntKind.i64.wrap (t11_0 + (1 : Int))) (c2_0 ++ [(v1.fst, v1.snd.fst, v1.snd.snd.fst, ())]) c3_0 else none)) else (y6s n n (b1_0.snd.fst) ((↑b1_0.snd.fst.length : Int)) ((0 : Int)) (c2_0) (c3_0)))

noncomputable def y6W (n : Nat)  (k : Nat) (b1_0 : Bas) (t9_0 : List Nod) (t10_0 : Int) (t11_0 : Int) (c2_0 : List Nod) (c3_0 : List Lnk) : Option (Bas × Unit) :=
  iter (fun r y => yDq n (fun b1_0 t9_0 t10_0 t11_0 c2_0 c3_0 => r ((b1_0, (t9_0, (t10_0, (t11_0, ())))), (((), ((), (c2_0, (c3_0, ())))), ()))) y.1.1 y.1.2.1 y.1.2.2.1 y.1.2.2.2.1 y.2.1.2.2.1 y.2.1.2.2.2.1) k ((b1_0, (t9_0, (t10_0, (t11_0, ())))), (((), ((), (c2_0, (c3_0, ())))), ()))

noncomputable def yIq (n : Nat) (b : Bas) : Option (Bas × Unit) :=
  (y6W n n (b) (b.fst) ((↑b.fst.length : Int)) ((0 : Int)) ([]) ([]))

theorem yN6 (n : Nat) (x : yLD.den) : runF yM5 (yK1 n) Tryz.f83 yLD yMV x = yIq n x.1 := by kernel_rfl

noncomputable def y98 (t23_2 : List Lnk) (c2_2 : List Nod) (t25_2 : Int) (v3 : Lnk) (c3_2 : List Lnk) : Option ((Bas × Unit) ⊕ (List Lnk)) :=
  (bif Decidable.decide (c3_2.length + (1 : Nat) ≤ Go.Vx.memMax) then (some (Sum.inr (c3_2 ++ [(v3.fst, v3.snd.fst, v3.snd.snd.fst, v3.snd.snd.snd.fst, v3.snd.snd.snd.snd.fst, ())]))) else none)

noncomputable def yAw (t23_2 : List Lnk) (c2_2 : List Nod) (c3_2 : List Lnk) : Option (Bas × Unit) :=
  (some (((c2_2, c3_2, ()), ())))

theorem yCR (n : Nat) (hn : big ≤ n)  (t23_2 : List Lnk) (c2_2 : List Nod) (c3_2 : List Lnk) (hx : List.length (t23_2) < lenMax) : LeF some (yJ (fun i__ e__ s__ => y98 t23_2 c2_2 i__ e__ s__) (fun s__ => yAw t23_2 c2_2 s__) 0 (t23_2) c3_2) (y6s n n t23_2 (List.length (t23_2) : Int) 0 c2_2 c3_2) := by
  refine yb (f := some) (W := fun k__ i__ s__ => y6s n k__ t23_2 (List.length (t23_2) : Int) i__ c2_2 s__) (body := (fun i__ e__ s__ => y98 t23_2 c2_2 i__ e__ s__)) (fin := (fun s__ => yAw t23_2 c2_2 s__)) (fun k__ i__ s__ => ?_) hx c3_2 n (by unfold big at hn; unfold lenMax at hx; omega)
  show LeF _ _ (yDj n (y6s n k__) t23_2 (List.length (t23_2) : Int) i__ c2_2 s__)
  exact y5 (y9 fun v3 => (y5 (y8 rfl) yL)) (y0t (y8 rfl))

noncomputable def y8w (b1_0 : Bas) (t9_0 : List Nod) (c3_0 : List Lnk) (t11_0 : Int) (v1 : Nod) (c2_0 : List Nod) : Option ((Bas × Unit) ⊕ (List Nod)) :=
  (bif Decidable.decide (c2_0.length + (1 : Nat) ≤ Go.Vx.memMax) then (some (Sum.inr (c2_0 ++ [(v1.fst, v1.snd.fst, v1.snd.snd.fst, ())]))) else none)

noncomputable def yAk (b1_0 : Bas) (t9_0 : List Nod) (c3_0 : List Lnk) (c2_0 : List Nod) : Option (Bas × Unit) :=
  (bif decide (List.length (b1_0.snd.fst) < lenMax) then yJ (fun i__ e__ s__ => y98 (b1_0.snd.fst) (c2_0) i__ e__ s__) (fun s__ => yAw (b1_0.snd.fst) (c2_0) s__) 0 (b1_0.snd.fst) (c3_0) else none)

theorem yDA (n : Nat) (hn : big ≤ n)  (b1_0 : Bas) (t9_0 : List Nod) (c3_0 : List Lnk) (c2_0 : List Nod) (hx : List.length (t9_0) < lenMax) : LeF some (yJ (fun i__ e__ s__ => y8w b1_0 t9_0 c3_0 i__ e__ s__) (fun s__ => yAk b1_0 t9_0 c3_0 s__) 0 (t9_0) c2_0) (y6W n n b1_0 t9_0 (List.length (t9_0) : Int) 0 c2_0 c3_0) := by
  refine yb (f := some) (W := fun k__ i__ s__ => y6W n k__ b1_0 t9_0 (List.length (t9_0) : Int) i__ s__ c3_0) (body := (fun i__ e__ s__ => y8w b1_0 t9_0 c3_0 i__ e__ s__)) (fin := (fun s__ => yAk b1_0 t9_0 c3_0 s__)) (fun k__ i__ s__ => ?_) hx c2_0 n (by unfold big at hn; unfold lenMax at hx; omega)
  show LeF _ _ (yDq n (y6W n k__) b1_0 t9_0 (List.length (t9_0) : Int) i__ s__ c3_0)
  exact y5 (y9 fun v1 => (y5 (y8 rfl) yL)) (y0t (yd fun hx => by apply yCR n hn; exact hx))

noncomputable def yEr (b : Bas) : Option (Bas × Unit) :=
  (bif decide (List.length (b.fst) < lenMax) then yJ (fun i__ e__ s__ => y8w (b) (b.fst) ([]) i__ e__ s__) (fun s__ => yAk (b) (b.fst) ([]) s__) 0 (b.fst) ([]) else none)

theorem yKj (b : Bas) (y : Bas × Unit) (h : yEr b = some y) : ∃ n, yIq n b = some y :=
  ⟨big, LeF.top (show LeF some (yEr b) (yIq big b) from (fun (n : Nat) (hn : big ≤ n) => show LeF some (yEr b) (yIq n b) from (yd fun hx => by apply yDA n hn; exact hx)) big (Nat.le_refl _)) h⟩
noncomputable def z0e_e : Entry := { f := 83, args := yLD, rS := yMV, m := fun x => yEr x.1 }
theorem yLq : FnOK Tryz.prog z0e_e := y2v (g := yM5) (fn := Tryz.f83) y17 y2W eNil (by kernel_rfl) (by kernel_rfl) (by kernel_rfl) (fun x y h => let ⟨n, hn⟩ := yKj x.1 y h; ⟨yK1 n, iNil, (yN6 n x).trans hn⟩)

/-! ### tidewayref01.Split -/
abbrev yL9 : Ty := .pair t9 (.pair t5 .unit)
abbrev yNw : Ty := .pair t67 .unit
noncomputable def yMN : G := { T := T, E := [], mU := [5], fz := [] }
def yOn : List (List Nat) := [[0, 1, 5, 6, 7]]
noncomputable def yJm (n : Nat) : Ann := { keep := yOn, fuel := n, inl := [], deep := 0 }
noncomputable def yAF (n : Nat) (r0 : List UInt8 → Int → Int → Int → List (List UInt8) → Option (List (List UInt8) × Unit)) (s0_0 : List UInt8) (c1_0 : Int) (from6_0 : Int) (i7_0 : Int) (cs0_0 : List (List UInt8)) (j3 : Bool) : Option (List (List UInt8) × Unit) :=
  (bif j3 then (bif Decidable.decide ((0 : Int) ≤ from6_0) && Decidable.decide (from6_0 ≤ i7_0) && Decidable.decide (i7_0 ≤ (↑s0_0.length : Int)) then (bif Decidable.decide (cs0_0.length + (1 : Nat) ≤ Go.Vx.memMax) then r0 s0_0 c1_0 (Go.IntKind.i64.wrap (i7_0 + (1 : Int))) (Go.IntKind.i64.wrap (i7_0 + (1 : Int))) (cs0_0 ++ [List.drop from6_0.toNat (List.take i7_0.toNat s0_0)]) else none) else none) else r0 s0_0 c1_0 from6_0 (Go.IntKind.i64.wrap (i7_0 + (1 : Int))) cs0_0)

noncomputable def yEN (n : Nat) (r0 : List UInt8 → Int → Int → Int → List (List UInt8) → Option (List (List UInt8) × Unit)) (s0_0 : List UInt8) (c1_0 : Int) (from6_0 : Int) (i7_0 : Int) (cs0_0 : List (List UInt8)) : Option (List (List UInt8) × Unit) :=
  (bif Decidable.decide (i7_0 ≤ (↑s0_0.length : Int)) then (bif i7_0 == (↑s0_0.length : Int) then (yAF n r0 s0_0 c1_0 from6_0 i7_0 cs0_0 (Bool.true)) else (Option.bind (Go.Vx.idx s0_0 i7_0) fun (v1 : UInt8) => (yAF n r0 s0_0 c1_0 from6_0 i7_0 cs0_0 ((↑v1.toNat : Int) == c1_0)))) else Option.some (cs0_0, ()))

noncomputable def y6z (n : Nat)  (k : Nat) (s0_0 : List UInt8) (c1_0 : Int) (from6_0 : Int) (i7_0 : Int) (cs0_0 : List (List UInt8)) : Option (List (List UInt8) × Unit) :=
  iter (fun r y => yEN n (fun s0_0 c1_0 from6_0 i7_0 cs0_0 => r ((s0_0, (c1_0, (from6_0, (i7_0, ())))), ((cs0_0, ()), ()))) y.1.1 y.1.2.1 y.1.2.2.1 y.1.2.2.2.1 y.2.1.1) k ((s0_0, (c1_0, (from6_0, (i7_0, ())))), ((cs0_0, ()), ()))

noncomputable def yJN (n : Nat) (s : List UInt8) (c : Int) : Option (List (List UInt8) × Unit) :=
  (y6z n n (s) (c) ((0 : Int)) ((0 : Int)) ([]))

theorem yM2 (n : Nat) (x : yL9.den) : runF yMN (yJm n) Tryz.f84 yL9 yNw x = yJN n x.1 x.2.1 := by kernel_rfl

noncomputable def y9H (s0_0 : List UInt8) (c1_0 : Int) (from6_0 : Int) (i7_0 : Int) (cs0_0 : List (List UInt8)) (j3 : Bool) : Option ((List (List UInt8) × Unit) ⊕ (Int × List (List UInt8))) :=
  (bif j3 then (bif Decidable.decide ((0 : Int) ≤ from6_0) && Decidable.decide (from6_0 ≤ i7_0) && Decidable.decide (i7_0 ≤ (↑s0_0.length : Int)) then (bif Decidable.decide (cs0_0.length + (1 : Nat) ≤ Go.Vx.memMax) then (some (Sum.inr ((Go.IntKind.i64.wrap (i7_0 + (1 : Int))), (cs0_0 ++ [List.drop from6_0.toNat (List.take i7_0.toNat s0_0)])))) else none) else none) else (some (Sum.inr ((from6_0), (cs0_0)))))

theorem y2q (n : Nat) (hn : big ≤ n)  (r0 : List UInt8 → Int → Int → Int → List (List UInt8) → Option (List (List UInt8) × Unit)) (s0_0 : List UInt8) (c1_0 : Int) (from6_0 : Int) (i7_0 : Int) (cs0_0 : List (List UInt8)) (j3 : Bool) : LeF (elim some fun (s__ : (Int × List (List UInt8))) => r0 s0_0 c1_0 s__.1 (Go.IntKind.i64.wrap (i7_0 + 1)) s__.2) (y9H s0_0 c1_0 from6_0 i7_0 cs0_0 j3) (yAF n r0 s0_0 c1_0 from6_0 i7_0 cs0_0 j3) :=
  (y5 (y5 (y5 (y8 rfl) yL) yL) (y8 rfl))

noncomputable def y4Q (s0_0 : List UInt8) (c1_0 : Int) (i7_0 : Int) (from6_0 : Int) (cs0_0 : List (List UInt8)) : Option ((List (List UInt8) × Unit) ⊕ (Int × List (List UInt8))) :=
  (bif i7_0 == (↑s0_0.length : Int) then (y9H s0_0 c1_0 from6_0 i7_0 cs0_0 (Bool.true)) else (Option.bind (Go.Vx.idx s0_0 i7_0) fun (v1 : UInt8) => (y9H s0_0 c1_0 from6_0 i7_0 cs0_0 ((↑v1.toNat : Int) == c1_0))))

noncomputable def yAz (s0_0 : List UInt8) (c1_0 : Int) (from6_0 : Int) (cs0_0 : List (List UInt8)) : Option (List (List UInt8) × Unit) :=
  (some ((cs0_0, ())))

theorem yCr (n : Nat) (hn : big ≤ n)  (s0_0 : List UInt8) (c1_0 : Int) (from6_0 : Int) (cs0_0 : List (List UInt8)) (hx : ((↑s0_0.length : Int)) ≤ (9223372036854775806 : Int)) : LeF some (y1a (fun i__ s__ => y4Q s0_0 c1_0 i__ s__.1 s__.2) (fun s__ => yAz s0_0 c1_0 s__.1 s__.2) (((↑s0_0.length : Int)) + 1 - 0).toNat 0 (from6_0, cs0_0)) (y6z n n s0_0 c1_0 from6_0 0 cs0_0) := by
  refine yGI (f := some) (W := fun k__ i__ s__ => y6z n k__ s0_0 c1_0 s__.1 i__ s__.2) (body := (fun i__ s__ => y4Q s0_0 c1_0 i__ s__.1 s__.2)) (fin := (fun s__ => yAz s0_0 c1_0 s__.1 s__.2)) (fun k__ i__ s__ => ?_) hx (from6_0, cs0_0) n 0 (by decide) (by unfold big at hn; omega)
  show LeF _ _ (yEN n (y6z n k__) s0_0 c1_0 s__.1 i__ s__.2)
  exact y5 (y5 (by apply y2q n hn) (y9 fun v1 => (by apply y2q n hn))) (y0t (y8 rfl))

noncomputable def yFA (s : List UInt8) (c : Int) : Option (List (List UInt8) × Unit) :=
  (bif decide (((↑s.length : Int)) ≤ (9223372036854775806 : Int)) then y1a (fun i__ s__ => y4Q (s) (c) i__ s__.1 s__.2) (fun s__ => yAz (s) (c) s__.1 s__.2) (((↑s.length : Int)) + 1 - 0).toNat 0 (((0 : Int)), ([])) else none)

theorem yKB (s : List UInt8) (c : Int) (y : List (List UInt8) × Unit) (h : yFA s c = some y) : ∃ n, yJN n s c = some y :=
  ⟨big, LeF.top (show LeF some (yFA s c) (yJN big s c) from (fun (n : Nat) (hn : big ≤ n) => show LeF some (yFA s c) (yJN n s c) from (yd fun hx => by apply yCr n hn; exact hx)) big (Nat.le_refl _)) h⟩
noncomputable def z0V_e : Entry := { f := 84, args := yL9, rS := yNw, m := fun x => yFA x.1 x.2.1 }
theorem yN4 : FnOK Tryz.prog z0V_e := y2v (g := yMN) (fn := Tryz.f84) y17 y2W eNil (by kernel_rfl) (by kernel_rfl) (by kernel_rfl) (fun x y h => let ⟨n, hn⟩ := yKB x.1 x.2.1 y h; ⟨yJm n, iNil, (yM2 n x).trans hn⟩)

/-! ### tidewayref01.HasInt -/
abbrev yKt : Ty := .pair t26 (.pair t3 .unit)
abbrev yM6 : Ty := .pair t4 .unit
noncomputable def yME : G := { T := T, E := [], mU := [], fz := [] }
def yP6 : List (List Nat) := [[0, 1, 5]]
noncomputable def yJn (n : Nat) : Ann := { keep := yP6, fuel := n, inl := [], deep := 0 }
noncomputable def yDd (n : Nat) (r0 : List Int → Int → Int → Option (Bool × Unit)) (l0_0 : List Int) (n1_0 : Int) (i5_0 : Int) : Option (Bool × Unit) :=
  (bif Decidable.decide (i5_0 < (↑l0_0.length : Int)) then (Option.bind (Go.Vx.idx l0_0 i5_0) fun (v1 : Int) => (bif v1 == n1_0 then Option.some (Bool.true, ()) else r0 l0_0 n1_0 (Go.IntKind.i64.wrap (i5_0 + (1 : Int))))) else Option.some (Bool.false, ()))

noncomputable def y6c (n : Nat)  (k : Nat) (l0_0 : List Int) (n1_0 : Int) (i5_0 : Int) : Option (Bool × Unit) :=
  iter (fun r y => yDd n (fun l0_0 n1_0 i5_0 => r ((l0_0, (n1_0, (i5_0, ()))), ((), ()))) y.1.1 y.1.2.1 y.1.2.2.1) k ((l0_0, (n1_0, (i5_0, ()))), ((), ()))

noncomputable def yI9 (n : Nat) (l : List Int) (np : Int) : Option (Bool × Unit) :=
  (y6c n n (l) (np) ((0 : Int)))

theorem yMg (n : Nat) (x : yKt.den) : runF yME (yJn n) Tryz.f85 yKt yM6 x = yI9 n x.1 x.2.1 := by kernel_rfl

noncomputable def yHs (l0_0 : List Int) (n1_0 : Int) (i5_0 : Int) (v1 : Int) : Option ((Bool × Unit) ⊕ Unit) :=
  (bif v1 == n1_0 then (some (Sum.inl ((Bool.true, ())))) else (some (Sum.inr ())))

noncomputable def yGa (l0_0 : List Int) (n1_0 : Int) : Option (Bool × Unit) :=
  (some ((Bool.false, ())))

theorem yCv (n : Nat) (hn : big ≤ n)  (l0_0 : List Int) (n1_0 : Int) (hx : List.length (l0_0) < lenMax) : LeF some (yJ (fun i__ e__ s__ => yHs l0_0 n1_0 i__ e__) (fun s__ => yGa l0_0 n1_0) 0 (l0_0) ()) (y6c n n l0_0 n1_0 0) := by
  refine yb (f := some) (W := fun k__ i__ s__ => y6c n k__ l0_0 n1_0 i__) (body := (fun i__ e__ s__ => yHs l0_0 n1_0 i__ e__)) (fin := (fun s__ => yGa l0_0 n1_0)) (fun k__ i__ s__ => ?_) hx () n (by unfold big at hn; unfold lenMax at hx; omega)
  show LeF _ _ (yDd n (y6c n k__) l0_0 n1_0 i__)
  exact y5 (y9 fun v1 => (y5 (y8 rfl) (y8 rfl))) (y0t (y8 rfl))

noncomputable def yIr (l : List Int) (np : Int) : Option (Bool × Unit) :=
  (bif decide (List.length (l) < lenMax) then yJ (fun i__ e__ s__ => yHs (l) (np) i__ e__) (fun s__ => yGa (l) (np)) 0 (l) () else none)

theorem yLn (l : List Int) (np : Int) (y : Bool × Unit) (h : yIr l np = some y) : ∃ n, yI9 n l np = some y :=
  ⟨big, LeF.top (show LeF some (yIr l np) (yI9 big l np) from (fun (n : Nat) (hn : big ≤ n) => show LeF some (yIr l np) (yI9 n l np) from (yd fun hx => by apply yCv n hn; exact hx)) big (Nat.le_refl _)) h⟩
noncomputable def z0C_e : Entry := { f := 85, args := yKt, rS := yM6, m := fun x => yIr x.1 x.2.1 }
theorem yPS : FnOK Tryz.prog z0C_e := y2v (g := yME) (fn := Tryz.f85) y17 y2W eNil (by kernel_rfl) (by kernel_rfl) (by kernel_rfl) (fun x y h => let ⟨n, hn⟩ := yLn x.1 x.2.1 y h; ⟨yJn n, iNil, (yMg n x).trans hn⟩)

/-! ### tidewayref01.Text -/
abbrev yCw : Ty := .pair t3 .unit
abbrev yEZ : Ty := .pair t9 .unit
class ref01_Text_Rec where
  f : yCw.den → Option yEZ.den
section
variable [ref01_Text_Rec]
noncomputable def y9s : Entry := { f := 135, args := yCw, rS := yEZ, m := fun x => ref01_Text_Rec.f x }
noncomputable def yMJ : G := { T := T, E := [y9s], mU := [], fz := [] }
def yOc : List (List Nat) := []
noncomputable def yJr (n : Nat) : Ann := { keep := yOc, fuel := n, inl := [], deep := 0 }
noncomputable def yCi (n : Nat) (np : Int) : Option (List UInt8 × Unit) :=
  (bif Decidable.decide (np > (9 : Int)) then (Option.bind (Go.Tw.ref01_Text_Rec.f (Go.IntKind.i64.wrap (np.tdiv (10 : Int)), ())) fun (v0 : List UInt8 × Unit) => (Option.bind (Go.Tw.ref01_Text_Rec.f (np.tmod (10 : Int), ())) fun (v1 : List UInt8 × Unit) => (bif Decidable.decide (v0.fst.length + v1.fst.length < Go.Vx.strMax) then Option.some (v0.fst ++ v1.fst, ()) else none))) else (bif Decidable.decide (np < (-9 : Int)) then (Option.bind (Go.Tw.ref01_Text_Rec.f (Go.IntKind.i64.wrap (np.tdiv (10 : Int)), ())) fun (v2 : List UInt8 × Unit) => (Option.bind (Go.Tw.ref01_Text_Rec.f (Go.IntKind.i64.wrap ((0 : Int) - np.tmod (10 : Int)), ())) fun (v3 : List UInt8 × Unit) => (bif Decidable.decide (v2.fst.length + v3.fst.length < Go.Vx.strMax) then Option.some (v2.fst ++ v3.fst, ()) else none))) else (bif Decidable.decide (np < (0 : Int)) then (Option.bind (Go.Tw.ref01_Text_Rec.f (Go.IntKind.i64.wrap ((0 : Int) - np), ())) fun (v4 : List UInt8 × Unit) => (bif Decidable.decide ((1 : Nat) + v4.fst.length < Go.Vx.strMax) then Option.some ([(45 : UInt8)] ++ v4.fst, ()) else none)) else Option.some (Go.Vx.y0G [Go.IntKind.u8.wrap (Go.IntKind.i64.wrap ((48 : Int) + np))], ()))))

theorem yMl (n : Nat) (x : yCw.den) : runF yMJ (yJr n) Tryz.f135 yCw yEZ x = yCi n x.1 := by kernel_rfl

noncomputable def y8C (np : Int) : Option (List UInt8 × Unit) := yCi 0 np

theorem yKg (np : Int) (y : List UInt8 × Unit) (h : y8C np = some y) : ∃ n, yCi n np = some y := ⟨0, h⟩
end
/-- The recursion, d deep. -/
noncomputable def yP (d : Nat) : yCw.den → Option yEZ.den := Nat.rec (motive := fun _ => yCw.den → Option yEZ.den) (fun _ => none) (fun _ ih x => @y8C ⟨ih⟩ x.1) d
noncomputable def y37 (d : Nat) : Entry := { f := 135, args := yCw, rS := yEZ, m := yP d }
theorem y4N : (d : Nat) → FnOK Tryz.prog (y37 d)
  | 0 => FnOK.none (fn := Tryz.f135) (by kernel_rfl) (by kernel_rfl) (by kernel_rfl)
  | d + 1 => y2v (g := @yMJ ⟨yP d⟩) (fn := Tryz.f135) (e := y37 (d + 1)) y17 y2W (yC (y4N d) eNil) (by kernel_rfl) (by kernel_rfl) (by kernel_rfl) (fun x y h => let ⟨n, hn⟩ := @yKg ⟨yP d⟩ x.1 y h; ⟨yJr n, iNil, (@yMl ⟨yP d⟩ n x).trans hn⟩)
noncomputable def z0f_e : Entry := y37 24
theorem yMf : FnOK Tryz.prog z0f_e := y4N 24

/-! ### internal/stringslite.HasSuffix -/
abbrev zE_a : Ty := .pair t9 (.pair t9 .unit)
abbrev zE_r : Ty := .pair t4 .unit
noncomputable def zE_g : G := { T := T, E := [], mU := [], fz := [] }
def zE_k : List (List Nat) := []
noncomputable def yMp (n : Nat) : Ann := { keep := zE_k, fuel := n, inl := [], deep := 0 }
noncomputable def zE_m (n : Nat) (s : List UInt8) (suffix : List UInt8) : Option (Bool × Unit) :=
  (bif Decidable.decide ((↑s.length : Int) ≥ (↑suffix.length : Int)) then (bif Decidable.decide ((0 : Int) ≤ Go.IntKind.i64.wrap ((↑s.length : Int) - (↑suffix.length : Int))) && Decidable.decide (Go.IntKind.i64.wrap ((↑s.length : Int) - (↑suffix.length : Int)) ≤ (↑s.length : Int)) then Option.some (List.drop (Go.IntKind.i64.wrap ((↑s.length : Int) - (↑suffix.length : Int))).toNat s == suffix, ()) else none) else Option.some (Bool.false, ()))

theorem yPM (n : Nat) (x : zE_a.den) : runF zE_g (yMp n) Tryz.f192 zE_a zE_r x = zE_m n x.1 x.2.1 := by kernel_rfl

noncomputable def zE_M (s : List UInt8) (suffix : List UInt8) : Option (Bool × Unit) := zE_m 0 s suffix

theorem yMj (s : List UInt8) (suffix : List UInt8) (y : Bool × Unit) (h : zE_M s suffix = some y) : ∃ n, zE_m n s suffix = some y := ⟨0, h⟩
noncomputable def zE_e : Entry := { f := 192, args := zE_a, rS := zE_r, m := fun x => zE_M x.1 x.2.1 }
theorem yOQ : FnOK Tryz.prog zE_e := y2v (g := zE_g) (fn := Tryz.f192) y17 y2W eNil (by kernel_rfl) (by kernel_rfl) (by kernel_rfl) (fun x y h => let ⟨n, hn⟩ := yMj x.1 x.2.1 y h; ⟨yMp n, iNil, (yPM n x).trans hn⟩)

/-! ### tidewayref01.Number -/
abbrev yLT : Ty := .pair t9 .unit
abbrev yMa : Ty := .pair t3 (.pair t4 .unit)
noncomputable def yMR : G := { T := T, E := [], mU := [], fz := [] }
def yOg : List (List Nat) := [[0, 4, 5]]
noncomputable def yK7 (n : Nat) : Ann := { keep := yOg, fuel := n, inl := [], deep := 0 }
noncomputable def yDx (n : Nat) (r8 : List UInt8 → Int → Int → Option (Int × Bool × Unit)) (s0_8 : List UInt8) (n4_8 : Int) (i5_8 : Int) : Option (Int × Bool × Unit) :=
  (bif Decidable.decide (i5_8 < (↑s0_8.length : Int)) then (Option.bind (Go.Vx.idx s0_8 i5_8) fun (v9 : UInt8) => (bif Decidable.decide ((↑v9.toNat : Int) < (48 : Int)) then Option.some ((0 : Int), Bool.false, ()) else (Option.bind (Go.Vx.idx s0_8 i5_8) fun (v10 : UInt8) => (bif Decidable.decide ((↑v10.toNat : Int) > (57 : Int)) then Option.some ((0 : Int), Bool.false, ()) else (Option.bind (Go.Vx.idx s0_8 i5_8) fun (v13 : UInt8) => r8 s0_8 (Go.IntKind.i64.wrap (Go.IntKind.i64.wrap ((10 : Int) * n4_8) + Go.IntKind.i64.wrap (Go.IntKind.u8.wrap ((↑v13.toNat : Int) - (48 : Int))))) (Go.IntKind.i64.wrap (i5_8 + (1 : Int)))))))) else Option.some (n4_8, Bool.true, ()))

noncomputable def y6w (n : Nat)  (k : Nat) (s0_8 : List UInt8) (n4_8 : Int) (i5_8 : Int) : Option (Int × Bool × Unit) :=
  iter (fun r y => yDx n (fun s0_8 n4_8 i5_8 => r ((s0_8, (n4_8, (i5_8, ()))), ((), ()))) y.1.1 y.1.2.1 y.1.2.2.1) k ((s0_8, (n4_8, (i5_8, ()))), ((), ()))

noncomputable def y7p (n : Nat) (s : List UInt8) : Option (Int × Bool × Unit) :=
  (y6w n n (s) ((0 : Int)) ((0 : Int)))

noncomputable def yIZ (n : Nat) (s : List UInt8) : Option (Int × Bool × Unit) :=
  (bif (↑s.length : Int) == (0 : Int) then Option.some ((0 : Int), Bool.false, ()) else (bif Decidable.decide ((↑s.length : Int) > (9 : Int)) then Option.some ((0 : Int), Bool.false, ()) else (bif Decidable.decide ((↑s.length : Int) > (1 : Int)) then (Option.bind (Go.Vx.idx s (0 : Int)) fun (v0 : UInt8) => (bif (↑v0.toNat : Int) == (48 : Int) then Option.some ((0 : Int), Bool.false, ()) else (y7p n s))) else (y7p n s))))

theorem yMA (n : Nat) (x : yLT.den) : runF yMR (yK7 n) Tryz.f198 yLT yMa x = yIZ n x.1 := by kernel_rfl

noncomputable def y4L (s0_8 : List UInt8) (i5_8 : Int) (v9 : UInt8) (n4_8 : Int) : Option ((Int × Bool × Unit) ⊕ (Int)) :=
  (bif Decidable.decide ((↑v9.toNat : Int) < (48 : Int)) then (some (Sum.inl (((0 : Int), Bool.false, ())))) else (Option.bind (Go.Vx.idx s0_8 i5_8) fun (v10 : UInt8) => (bif Decidable.decide ((↑v10.toNat : Int) > (57 : Int)) then (some (Sum.inl (((0 : Int), Bool.false, ())))) else (Option.bind (Go.Vx.idx s0_8 i5_8) fun (v13 : UInt8) => (some (Sum.inr (Go.IntKind.i64.wrap (Go.IntKind.i64.wrap ((10 : Int) * n4_8) + Go.IntKind.i64.wrap (Go.IntKind.u8.wrap ((↑v13.toNat : Int) - (48 : Int)))))))))))

noncomputable def yB4 (s0_8 : List UInt8) (n4_8 : Int) : Option (Int × Bool × Unit) :=
  (some ((n4_8, Bool.true, ())))

theorem yCh (n : Nat) (hn : big ≤ n)  (s0_8 : List UInt8) (n4_8 : Int) (hx : List.length (s0_8) < lenMax) : LeF some (yJ (fun i__ e__ s__ => y4L s0_8 i__ e__ s__) (fun s__ => yB4 s0_8 s__) 0 (s0_8) n4_8) (y6w n n s0_8 n4_8 0) := by
  refine yb (f := some) (W := fun k__ i__ s__ => y6w n k__ s0_8 s__ i__) (body := (fun i__ e__ s__ => y4L s0_8 i__ e__ s__)) (fin := (fun s__ => yB4 s0_8 s__)) (fun k__ i__ s__ => ?_) hx n4_8 n (by unfold big at hn; unfold lenMax at hx; omega)
  show LeF _ _ (yDx n (y6w n k__) s0_8 s__ i__)
  exact y5 (y9 fun v9 => (y5 (y8 rfl) (y9 fun v10 => (y5 (y8 rfl) (y9 fun v13 => (y8 rfl)))))) (y0t (y8 rfl))

noncomputable def y81 (s : List UInt8) : Option (Int × Bool × Unit) :=
  (bif decide (List.length (s) < lenMax) then yJ (fun i__ e__ s__ => y4L (s) i__ e__ s__) (fun s__ => yB4 (s) s__) 0 (s) ((0 : Int)) else none)

theorem y2E (n : Nat) (hn : big ≤ n)  (s : List UInt8) : LeF some (y81 s) (y7p n s) :=
  (yd fun hx => by apply yCh n hn; exact hx)

noncomputable def yEe (s : List UInt8) : Option (Int × Bool × Unit) :=
  (bif (↑s.length : Int) == (0 : Int) then (some (((0 : Int), Bool.false, ()))) else (bif Decidable.decide ((↑s.length : Int) > (9 : Int)) then (some (((0 : Int), Bool.false, ()))) else (bif Decidable.decide ((↑s.length : Int) > (1 : Int)) then (Option.bind (Go.Vx.idx s (0 : Int)) fun (v0 : UInt8) => (bif (↑v0.toNat : Int) == (48 : Int) then (some (((0 : Int), Bool.false, ()))) else (y81 s))) else (y81 s))))

theorem yKi (s : List UInt8) (y : Int × Bool × Unit) (h : yEe s = some y) : ∃ n, yIZ n s = some y :=
  ⟨big, LeF.top (show LeF some (yEe s) (yIZ big s) from (fun (n : Nat) (hn : big ≤ n) => show LeF some (yEe s) (yIZ n s) from (y5 (y8 rfl) (y5 (y8 rfl) (y5 (y9 fun v0 => (y5 (y8 rfl) (by apply y2E n hn))) (by apply y2E n hn))))) big (Nat.le_refl _)) h⟩
noncomputable def z0E_e : Entry := { f := 198, args := yLT, rS := yMa, m := fun x => yEe x.1 }
theorem yMq : FnOK Tryz.prog z0E_e := y2v (g := yMR) (fn := Tryz.f198) y17 y2W eNil (by kernel_rfl) (by kernel_rfl) (by kernel_rfl) (fun x y h => let ⟨n, hn⟩ := yKi x.1 y h; ⟨yK7 n, iNil, (yMA n x).trans hn⟩)

end Go.Tw
end

section
set_option linter.all false
set_option maxRecDepth 1000000
namespace Go.Tw
open Go.Vx Go.Vx.B Go.Proofs
/-! ### tidewayref04.Print -/
abbrev yL6 : Ty := .pair t25 .unit
abbrev yN7 : Ty := .pair t9 .unit
noncomputable def yNF : G := { T := T, E := [z0f_e], mU := [], fz := [] }
def yOw : List (List Nat) := [[1, 3, 4], [1, 3, 6]]
noncomputable def yJo (n : Nat) : Ann := { keep := yOw, fuel := n, inl := [], deep := 0 }
noncomputable def yDS (n : Nat) (r4 : Bas → List UInt8 → Int → Option (List UInt8 × Unit)) (b1_4 : Bas) (s3_4 : List UInt8) (i6_4 : Int) : Option (List UInt8 × Unit) :=
  (bif Decidable.decide (i6_4 < (↑b1_4.snd.fst.length : Int)) then (Option.bind (Go.Vx.idx b1_4.snd.fst i6_4) fun (v5 : Lnk) => (bif Decidable.decide (s3_4.length + v5.fst.length < Go.Vx.strMax) then (bif Decidable.decide ((s3_4 ++ v5.fst).length + (1 : Nat) < Go.Vx.strMax) then (Option.bind (Go.Tw.yP (24 : Nat) (v5.snd.fst, ())) fun (v6 : List UInt8 × Unit) => (bif Decidable.decide ((s3_4 ++ v5.fst ++ [(32 : UInt8)]).length + v6.fst.length < Go.Vx.strMax) then (bif Decidable.decide ((s3_4 ++ v5.fst ++ [(32 : UInt8)] ++ v6.fst).length + (1 : Nat) < Go.Vx.strMax) then (Option.bind (Go.Tw.yP (24 : Nat) (v5.snd.snd.fst, ())) fun (v7 : List UInt8 × Unit) => (bif Decidable.decide ((s3_4 ++ v5.fst ++ [(32 : UInt8)] ++ v6.fst ++ [(32 : UInt8)]).length + v7.fst.length < Go.Vx.strMax) then (bif Decidable.decide ((s3_4 ++ v5.fst ++ [(32 : UInt8)] ++ v6.fst ++ [(32 : UInt8)] ++ v7.fst).length + (1 : Nat) < Go.Vx.strMax) then (Option.bind (Go.Tw.yP (24 : Nat) (v5.snd.snd.snd.fst, ())) fun (v8 : List UInt8 × Unit) => (bif Decidable.decide ((s3_4 ++ v5.fst ++ [(32 : UInt8)] ++ v6.fst ++ [(32 : UInt8)] ++ v7.fst ++ [(32 : UInt8)]).length + v8.fst.length < Go.Vx.strMax) then (bif Decidable.decide ((s3_4 ++ v5.fst ++ [(32 : UInt8)] ++ v6.fst ++ [(32 : UInt8)] ++ v7.fst ++ [(32 : UInt8)] ++ v8.fst).length + (1 : Nat) < Go.Vx.strMax) then (Option.bind (Go.Tw.yP (24 : Nat) (v5.snd.snd.snd.snd.fst, ())) fun (v9 : List UInt8 × Unit) => (bif Decidable.decide ((s3_4 ++ v5.fst ++ [(32 : UInt8)] ++ v6.fst ++ [(32 : UInt8)] ++ v7.fst ++ [(32 : UInt8)] ++ v8.fst ++ [(32 : UInt8)]).length + v9.fst.length < Go.Vx.strMax) then (bif Decidable.decide ((s3_4 ++ v5.fst ++ [(32 : UInt8)] ++ v6.fst ++ [(32 : UInt8)] ++ v7.fst ++ [(32 : UInt8)] ++ v8.fst ++ [(32 : UInt8)] ++ v9.fst).length + (1 : Nat) < Go.Vx.strMax) then r4 b1_4 (s3_4 ++ v5.fst ++ [(32 : UInt8)] ++ v6.fst ++ [(32 : UInt8)] ++ v7.fst ++ [(32 : UInt8)] ++ v8.fst ++ [(32 : UInt8)] ++ v9.fst ++ [(10 : UInt8)]) (Go.IntKind.i64.wrap (i6_4 + (1 : Int))) else none) else none)) else none) else none)) else none) else none)) else none) else none)) else none) else none)) else Option.some (s3_4, ()))

noncomputable def y6i (n : Nat)  (k : Nat) (b1_4 : Bas) (s3_4 : List UInt8) (i6_4 : Int) : Option (List UInt8 × Unit) :=
  iter (fun r y => yDS n (fun b1_4 s3_4 i6_4 => r ((b1_4, (s3_4, (i6_4, ()))), ((), ()))) y.1.1 y.1.2.1 y.1.2.2.1) k ((b1_4, (s3_4, (i6_4, ()))), ((), ()))

noncomputable def yEJ (n : Nat) (r0 : Bas → List UInt8 → Int → Option (List UInt8 × Unit)) (b1_0 : Bas) (s3_0 : List UInt8) (i4_0 : Int) : Option (List UInt8 × Unit) :=
  (bif Decidable.decide (i4_0 < (↑b1_0.fst.length : Int)) then (Option.bind (Go.Vx.idx b1_0.fst i4_0) fun (v1 : Nod) => (bif Decidable.decide (s3_0.length + (5 : Nat) < Go.Vx.strMax) then (bif Decidable.decide ((s3_0 ++ [(110 : UInt8), (111 : UInt8), (100 : UInt8), (101 : UInt8), (32 : UInt8)]).length + v1.fst.length < Go.Vx.strMax) then (bif Decidable.decide ((s3_0 ++ [(110 : UInt8), (111 : UInt8), (100 : UInt8), (101 : UInt8), (32 : UInt8)] ++ v1.fst).length + (1 : Nat) < Go.Vx.strMax) then (Option.bind (Go.Tw.yP (24 : Nat) (v1.snd.fst, ())) fun (v2 : List UInt8 × Unit) => (bif Decidable.decide ((s3_0 ++ [(110 : UInt8), (111 : UInt8), (100 : UInt8), (101 : UInt8), (32 : UInt8)] ++ v1.fst ++ [(32 : UInt8)]).length + v2.fst.length < Go.Vx.strMax) then (bif Decidable.decide ((s3_0 ++ [(110 : UInt8), (111 : UInt8), (100 : UInt8), (101 : UInt8), (32 : UInt8)] ++ v1.fst ++ [(32 : UInt8)] ++ v2.fst).length + (1 : Nat) < Go.Vx.strMax) then (Option.bind (Go.Tw.yP (24 : Nat) (v1.snd.snd.fst, ())) fun (v3 : List UInt8 × Unit) => (bif Decidable.decide ((s3_0 ++ [(110 : UInt8), (111 : UInt8), (100 : UInt8), (101 : UInt8), (32 : UInt8)] ++ v1.fst ++ [(32 : UInt8)] ++ v2.fst ++ [(32 : UInt8)]).length + v3.fst.length < Go.Vx.strMax) then (bif Decidable.decide ((s3_0 ++ [(110 : UInt8), (111 : UInt8), (100 : UInt8), (101 : UInt8), (32 : UInt8)] ++ v1.fst ++ [(32 : UInt8)] ++ v2.fst ++ [(32 : UInt8)] ++ v3.fst).length + (1 : Nat) < Go.Vx.strMax) then r0 b1_0 (s3_0 ++ [(110 : UInt8), (111 : UInt8), (100 : UInt8), (101 : UInt8), (32 : UInt8)] ++ v1.fst ++ [(32 : UInt8)] ++ v2.fst ++ [(32 : UInt8)] ++ v3.fst ++ [(10 : UInt8)]) (Go.IntKind.i64.wrap (i4_0 + (1 : Int))) else none) else none)) else none) else none)) else none) else none) else none)) else (y6i n n (b1_0) (s3_0) ((0 : Int))))

noncomputable def y6Z (n : Nat)  (k : Nat) (b1_0 : Bas) (s3_0 : List UInt8) (i4_0 : Int) : Option (List UInt8 × Unit) :=
  iter (fun r y => yEJ n (fun b1_0 s3_0 i4_0 => r ((b1_0, (s3_0, (i4_0, ()))), ((), ()))) y.1.1 y.1.2.1 y.1.2.2.1) k ((b1_0, (s3_0, (i4_0, ()))), ((), ()))

noncomputable def yJI (n : Nat) (b : Bas) : Option (List UInt8 × Unit) :=
  (y6Z n n (b) ([]) ((0 : Int)))

theorem yLs (n : Nat) (x : yL6.den) : runF yNF (yJo n) Tryz.f80 yL6 yN7 x = yJI n x.1 := by kernel_rfl

noncomputable def y9N (b1_4 : Bas) (i6_4 : Int) (v5 : Lnk) (s3_4 : List UInt8) : Option ((List UInt8 × Unit) ⊕ (List UInt8)) :=
  (bif Decidable.decide (s3_4.length + v5.fst.length < Go.Vx.strMax) then (bif Decidable.decide ((s3_4 ++ v5.fst).length + (1 : Nat) < Go.Vx.strMax) then (Option.bind (Go.Tw.yP (24 : Nat) (v5.snd.fst, ())) fun (v6 : List UInt8 × Unit) => (bif Decidable.decide ((s3_4 ++ v5.fst ++ [(32 : UInt8)]).length + v6.fst.length < Go.Vx.strMax) then (bif Decidable.decide ((s3_4 ++ v5.fst ++ [(32 : UInt8)] ++ v6.fst).length + (1 : Nat) < Go.Vx.strMax) then (Option.bind (Go.Tw.yP (24 : Nat) (v5.snd.snd.fst, ())) fun (v7 : List UInt8 × Unit) => (bif Decidable.decide ((s3_4 ++ v5.fst ++ [(32 : UInt8)] ++ v6.fst ++ [(32 : UInt8)]).length + v7.fst.length < Go.Vx.strMax) then (bif Decidable.decide ((s3_4 ++ v5.fst ++ [(32 : UInt8)] ++ v6.fst ++ [(32 : UInt8)] ++ v7.fst).length + (1 : Nat) < Go.Vx.strMax) then (Option.bind (Go.Tw.yP (24 : Nat) (v5.snd.snd.snd.fst, ())) fun (v8 : List UInt8 × Unit) => (bif Decidable.decide ((s3_4 ++ v5.fst ++ [(32 : UInt8)] ++ v6.fst ++ [(32 : UInt8)] ++ v7.fst ++ [(32 : UInt8)]).length + v8.fst.length < Go.Vx.strMax) then (bif Decidable.decide ((s3_4 ++ v5.fst ++ [(32 : UInt8)] ++ v6.fst ++ [(32 : UInt8)] ++ v7.fst ++ [(32 : UInt8)] ++ v8.fst).length + (1 : Nat) < Go.Vx.strMax) then (Option.bind (Go.Tw.yP (24 : Nat) (v5.snd.snd.snd.snd.fst, ())) fun (v9 : List UInt8 × Unit) => (bif Decidable.decide ((s3_4 ++ v5.fst ++ [(32 : UInt8)] ++ v6.fst ++ [(32 : UInt8)] ++ v7.fst ++ [(32 : UInt8)] ++ v8.fst ++ [(32 : UInt8)]).length + v9.fst.length < Go.Vx.strMax) then (bif Decidable.decide ((s3_4 ++ v5.fst ++ [(32 : UInt8)] ++ v6.fst ++ [(32 : UInt8)] ++ v7.fst ++ [(32 : UInt8)] ++ v8.fst ++ [(32 : UInt8)] ++ v9.fst).length + (1 : Nat) < Go.Vx.strMax) then (some (Sum.inr (s3_4 ++ v5.fst ++ [(32 : UInt8)] ++ v6.fst ++ [(32 : UInt8)] ++ v7.fst ++ [(32 : UInt8)] ++ v8.fst ++ [(32 : UInt8)] ++ v9.fst ++ [(10 : UInt8)]))) else none) else none)) else none) else none)) else none) else none)) else none) else none)) else none) else none)

noncomputable def yAj (b1_4 : Bas) (s3_4 : List UInt8) : Option (List UInt8 × Unit) :=
  (some ((s3_4, ())))

theorem yD7 (n : Nat) (hn : big ≤ n)  (b1_4 : Bas) (s3_4 : List UInt8) (hx : List.length (b1_4.snd.fst) < lenMax) : LeF some (yJ (fun i__ e__ s__ => y9N b1_4 i__ e__ s__) (fun s__ => yAj b1_4 s__) 0 (b1_4.snd.fst) s3_4) (y6i n n b1_4 s3_4 0) := by
  refine yb (f := some) (W := fun k__ i__ s__ => y6i n k__ b1_4 s__ i__) (body := (fun i__ e__ s__ => y9N b1_4 i__ e__ s__)) (fin := (fun s__ => yAj b1_4 s__)) (fun k__ i__ s__ => ?_) hx s3_4 n (by unfold big at hn; unfold lenMax at hx; omega)
  show LeF _ _ (yDS n (y6i n k__) b1_4 s__ i__)
  exact y5 (y9 fun v5 => (y5 (y5 (y9 fun v6 => (y5 (y5 (y9 fun v7 => (y5 (y5 (y9 fun v8 => (y5 (y5 (y9 fun v9 => (y5 (y5 (y8 rfl) yL) yL)) yL) yL)) yL) yL)) yL) yL)) yL) yL)) (y0t (y8 rfl))

noncomputable def y9I (b1_0 : Bas) (i4_0 : Int) (v1 : Nod) (s3_0 : List UInt8) : Option ((List UInt8 × Unit) ⊕ (List UInt8)) :=
  (bif Decidable.decide (s3_0.length + (5 : Nat) < Go.Vx.strMax) then (bif Decidable.decide ((s3_0 ++ [(110 : UInt8), (111 : UInt8), (100 : UInt8), (101 : UInt8), (32 : UInt8)]).length + v1.fst.length < Go.Vx.strMax) then (bif Decidable.decide ((s3_0 ++ [(110 : UInt8), (111 : UInt8), (100 : UInt8), (101 : UInt8), (32 : UInt8)] ++ v1.fst).length + (1 : Nat) < Go.Vx.strMax) then (Option.bind (Go.Tw.yP (24 : Nat) (v1.snd.fst, ())) fun (v2 : List UInt8 × Unit) => (bif Decidable.decide ((s3_0 ++ [(110 : UInt8), (111 : UInt8), (100 : UInt8), (101 : UInt8), (32 : UInt8)] ++ v1.fst ++ [(32 : UInt8)]).length + v2.fst.length < Go.Vx.strMax) then (bif Decidable.decide ((s3_0 ++ [(110 : UInt8), (111 : UInt8), (100 : UInt8), (101 : UInt8), (32 : UInt8)] ++ v1.fst ++ [(32 : UInt8)] ++ v2.fst).length + (1 : Nat) < Go.Vx.strMax) then (Option.bind (Go.Tw.yP (24 : Nat) (v1.snd.snd.fst, ())) fun (v3 : List UInt8 × Unit) => (bif Decidable.decide ((s3_0 ++ [(110 : UInt8), (111 : UInt8), (100 : UInt8), (101 : UInt8), (32 : UInt8)] ++ v1.fst ++ [(32 : UInt8)] ++ v2.fst ++ [(32 : UInt8)]).length + v3.fst.length < Go.Vx.strMax) then (bif Decidable.decide ((s3_0 ++ [(110 : UInt8), (111 : UInt8), (100 : UInt8), (101 : UInt8), (32 : UInt8)] ++ v1.fst ++ [(32 : UInt8)] ++ v2.fst ++ [(32 : UInt8)] ++ v3.fst).length + (1 : Nat) < Go.Vx.strMax) then (some (Sum.inr (s3_0 ++ [(110 : UInt8), (111 : UInt8), (100 : UInt8), (101 : UInt8), (32 : UInt8)] ++ v1.fst ++ [(32 : UInt8)] ++ v2.fst ++ [(32 : UInt8)] ++ v3.fst ++ [(10 : UInt8)]))) else none) else none)) else none) else none)) else none) else none) else none)

noncomputable def y8f (b1_0 : Bas) (s3_0 : List UInt8) : Option (List UInt8 × Unit) :=
  (bif decide (List.length (b1_0.snd.fst) < lenMax) then yJ (fun i__ e__ s__ => y9N (b1_0) i__ e__ s__) (fun s__ => yAj (b1_0) s__) 0 (b1_0.snd.fst) (s3_0) else none)

theorem yD5 (n : Nat) (hn : big ≤ n)  (b1_0 : Bas) (s3_0 : List UInt8) (hx : List.length (b1_0.fst) < lenMax) : LeF some (yJ (fun i__ e__ s__ => y9I b1_0 i__ e__ s__) (fun s__ => y8f b1_0 s__) 0 (b1_0.fst) s3_0) (y6Z n n b1_0 s3_0 0) := by
  refine yb (f := some) (W := fun k__ i__ s__ => y6Z n k__ b1_0 s__ i__) (body := (fun i__ e__ s__ => y9I b1_0 i__ e__ s__)) (fin := (fun s__ => y8f b1_0 s__)) (fun k__ i__ s__ => ?_) hx s3_0 n (by unfold big at hn; unfold lenMax at hx; omega)
  show LeF _ _ (yEJ n (y6Z n k__) b1_0 s__ i__)
  exact y5 (y9 fun v1 => (y5 (y5 (y5 (y9 fun v2 => (y5 (y5 (y9 fun v3 => (y5 (y5 (y8 rfl) yL) yL)) yL) yL)) yL) yL) yL)) (y0t (yd fun hx => by apply yD7 n hn; exact hx))

noncomputable def yFZ (b : Bas) : Option (List UInt8 × Unit) :=
  (bif decide (List.length (b.fst) < lenMax) then yJ (fun i__ e__ s__ => y9I (b) i__ e__ s__) (fun s__ => y8f (b) s__) 0 (b.fst) ([]) else none)

theorem yKe (b : Bas) (y : List UInt8 × Unit) (h : yFZ b = some y) : ∃ n, yJI n b = some y :=
  ⟨big, LeF.top (show LeF some (yFZ b) (yJI big b) from (fun (n : Nat) (hn : big ≤ n) => show LeF some (yFZ b) (yJI n b) from (yd fun hx => by apply yD5 n hn; exact hx)) big (Nat.le_refl _)) h⟩
noncomputable def z0Y_e : Entry := { f := 80, args := yL6, rS := yN7, m := fun x => yFZ x.1 }
theorem yLw : FnOK Tryz.prog z0Y_e := y2v (g := yNF) (fn := Tryz.f80) y17 y2W (yC yMf eNil) (by kernel_rfl) (by kernel_rfl) (by kernel_rfl) (fun x y h => let ⟨n, hn⟩ := yKe x.1 y h; ⟨yJo n, iNil, (yLs n x).trans hn⟩)

/-! ### internal/stringslite.CutSuffix -/
abbrev zD_a : Ty := .pair t9 (.pair t9 .unit)
abbrev zD_r : Ty := .pair t9 (.pair t4 .unit)
noncomputable def zD_g : G := { T := T, E := [zE_e], mU := [], fz := [] }
def zD_k : List (List Nat) := []
noncomputable def yNt (n : Nat) : Ann := { keep := zD_k, fuel := n, inl := [], deep := 0 }
noncomputable def zD_m (n : Nat) (s : List UInt8) (suffix : List UInt8) : Option (List UInt8 × Bool × Unit) :=
  (Option.bind (Go.Tw.zE_M s suffix) fun (v0 : Bool × Unit) => (bif !v0.fst then Option.some (s, Bool.false, ()) else (bif Decidable.decide ((0 : Int) ≤ Go.IntKind.i64.wrap ((↑s.length : Int) - (↑suffix.length : Int))) && Decidable.decide (Go.IntKind.i64.wrap ((↑s.length : Int) - (↑suffix.length : Int)) ≤ (↑s.length : Int)) then Option.some (List.take (Go.IntKind.i64.wrap ((↑s.length : Int) - (↑suffix.length : Int))).toNat s, Bool.true, ()) else none)))

theorem yPA (n : Nat) (x : zD_a.den) : runF zD_g (yNt n) Tryz.f174 zD_a zD_r x = zD_m n x.1 x.2.1 := by kernel_rfl

noncomputable def zD_M (s : List UInt8) (suffix : List UInt8) : Option (List UInt8 × Bool × Unit) := zD_m 0 s suffix

theorem yNd (s : List UInt8) (suffix : List UInt8) (y : List UInt8 × Bool × Unit) (h : zD_M s suffix = some y) : ∃ n, zD_m n s suffix = some y := ⟨0, h⟩
noncomputable def zD_e : Entry := { f := 174, args := zD_a, rS := zD_r, m := fun x => zD_M x.1 x.2.1 }
theorem yOl : FnOK Tryz.prog zD_e := y2v (g := zD_g) (fn := Tryz.f174) y17 y2W (yC yOQ eNil) (by kernel_rfl) (by kernel_rfl) (by kernel_rfl) (fun x y h => let ⟨n, hn⟩ := yNd x.1 x.2.1 y h; ⟨yNt n, iNil, (yPA n x).trans hn⟩)

/-! ### tidewayref01.Signed -/
abbrev yKG : Ty := .pair t9 .unit
abbrev yLv : Ty := .pair t3 (.pair t4 .unit)
noncomputable def yO7 : G := { T := T, E := [z0E_e], mU := [], fz := [] }
def yPQ : List (List Nat) := []
noncomputable def yJx (n : Nat) : Ann := { keep := yPQ, fuel := n, inl := [], deep := 0 }
noncomputable def y3C (n : Nat) (s : List UInt8) (j2 : Bool) : Option (Int × Bool × Unit) :=
  (bif j2 then (bif Decidable.decide ((0 : Int) ≤ (1 : Int)) && Decidable.decide ((1 : Int) ≤ (↑s.length : Int)) then (Option.bind (Go.Tw.yEe (List.drop (Int.toNat (1 : Int)) s)) fun (v3 : Int × Bool × Unit) => (bif v3.snd.fst then Option.some (Go.IntKind.i64.wrap ((0 : Int) - v3.fst), Decidable.decide (v3.fst > (0 : Int)), ()) else Option.some (Go.IntKind.i64.wrap ((0 : Int) - v3.fst), Bool.false, ()))) else none) else (Option.bind (Go.Tw.yEe s) fun (v8 : Int × Bool × Unit) => Option.some (v8.fst, v8.snd.fst, ())))

noncomputable def yIg (n : Nat) (s : List UInt8) : Option (Int × Bool × Unit) :=
  (bif Decidable.decide ((↑s.length : Int) > (1 : Int)) then (Option.bind (Go.Vx.idx s (0 : Int)) fun (v0 : UInt8) => (y3C n s ((↑v0.toNat : Int) == (45 : Int)))) else (y3C n s (Bool.false)))

theorem yNG (n : Nat) (x : yKG.den) : runF yO7 (yJx n) Tryz.f177 yKG yLv x = yIg n x.1 := by kernel_rfl

noncomputable def yJ5 (s : List UInt8) : Option (Int × Bool × Unit) := yIg 0 s

theorem yLC (s : List UInt8) (y : Int × Bool × Unit) (h : yJ5 s = some y) : ∃ n, yIg n s = some y := ⟨0, h⟩
noncomputable def z0F_e : Entry := { f := 177, args := yKG, rS := yLv, m := fun x => yJ5 x.1 }
theorem yLu : FnOK Tryz.prog z0F_e := y2v (g := yO7) (fn := Tryz.f177) y17 y2W (yC yMq eNil) (by kernel_rfl) (by kernel_rfl) (by kernel_rfl) (fun x y h => let ⟨n, hn⟩ := yLC x.1 y h; ⟨yJx n, iNil, (yNG n x).trans hn⟩)

end Go.Tw
end

section
set_option linter.all false
set_option maxRecDepth 1000000
namespace Go.Tw
open Go.Vx Go.Vx.B Go.Proofs
/-! ### strings.CutSuffix -/
abbrev ze_a : Ty := .pair t9 (.pair t9 .unit)
abbrev ze_r : Ty := .pair t9 (.pair t4 .unit)
noncomputable def ze_g : G := { T := T, E := [zD_e], mU := [], fz := [] }
def ze_k : List (List Nat) := []
noncomputable def yM1 (n : Nat) : Ann := { keep := ze_k, fuel := n, inl := [], deep := 0 }
noncomputable def ze_m (n : Nat) (s : List UInt8) (suffix : List UInt8) : Option (List UInt8 × Bool × Unit) :=
  (Option.bind (Go.Tw.zD_M s suffix) fun (v0 : List UInt8 × Bool × Unit) => Option.some (v0.fst, v0.snd.fst, ()))

theorem yPE (n : Nat) (x : ze_a.den) : runF ze_g (yM1 n) Tryz.f132 ze_a ze_r x = ze_m n x.1 x.2.1 := by kernel_rfl

noncomputable def ze_M (s : List UInt8) (suffix : List UInt8) : Option (List UInt8 × Bool × Unit) := ze_m 0 s suffix

theorem yO8 (s : List UInt8) (suffix : List UInt8) (y : List UInt8 × Bool × Unit) (h : ze_M s suffix = some y) : ∃ n, ze_m n s suffix = some y := ⟨0, h⟩
noncomputable def ze_e : Entry := { f := 132, args := ze_a, rS := ze_r, m := fun x => ze_M x.1 x.2.1 }
theorem yP0 : FnOK Tryz.prog ze_e := y2v (g := ze_g) (fn := Tryz.f132) y17 y2W (yC yOl eNil) (by kernel_rfl) (by kernel_rfl) (by kernel_rfl) (fun x y h => let ⟨n, hn⟩ := yO8 x.1 x.2.1 y h; ⟨yM1 n, iNil, (yPE n x).trans hn⟩)

/-! ### tidewayref04.integers -/
abbrev zy_a : Ty := .pair t67 .unit
abbrev zy_r : Ty := .pair t26 (.pair t4 .unit)
noncomputable def zy_g : G := { T := T, E := [z0F_e], mU := [4], fz := [] }
def zy_k : List (List Nat) := [[0, 4, 5]]
noncomputable def yMh (n : Nat) : Ann := { keep := zy_k, fuel := n, inl := [], deep := 0 }
noncomputable def yG4 (n : Nat) (r0 : List (List UInt8) → Int → List Int → Option (List Int × Bool × Unit)) (w0_0 : List (List UInt8)) (i5_0 : Int) (c0_0 : List Int) : Option (List Int × Bool × Unit) :=
  (bif Decidable.decide (i5_0 < (↑w0_0.length : Int)) then (Option.bind (Go.Vx.idx w0_0 i5_0) fun (v1 : List UInt8) => (Option.bind (Go.Tw.yJ5 v1) fun (v2 : Int × Bool × Unit) => (bif !v2.snd.fst then Option.some ([], Bool.false, ()) else (bif Decidable.decide (c0_0.length + (1 : Nat) ≤ Go.Vx.memMax) then r0 w0_0 (Go.IntKind.i64.wrap (i5_0 + (1 : Int))) (c0_0 ++ [v2.fst]) else none)))) else Option.some (c0_0, Bool.true, ()))

noncomputable def yA3 (n : Nat)  (k : Nat) (w0_0 : List (List UInt8)) (i5_0 : Int) (c0_0 : List Int) : Option (List Int × Bool × Unit) :=
  iter (fun r y => yG4 n (fun w0_0 i5_0 c0_0 => r ((w0_0, (i5_0, ())), ((c0_0, ()), ()))) y.1.1 y.1.2.1 y.2.1.1) k ((w0_0, (i5_0, ())), ((c0_0, ()), ()))

noncomputable def zy_m (n : Nat) (w : List (List UInt8)) : Option (List Int × Bool × Unit) :=
  (yA3 n n (w) ((0 : Int)) ([]))

theorem yP1 (n : Nat) (x : zy_a.den) : runF zy_g (yMh n) Tryz.f136 zy_a zy_r x = zy_m n x.1 := by kernel_rfl

noncomputable def yBZ (w0_0 : List (List UInt8)) (i5_0 : Int) (v1 : List UInt8) (c0_0 : List Int) : Option ((List Int × Bool × Unit) ⊕ (List Int)) :=
  (Option.bind (Go.Tw.yJ5 v1) fun (v2 : Int × Bool × Unit) => (bif !v2.snd.fst then (some (Sum.inl (([], Bool.false, ())))) else (bif Decidable.decide (c0_0.length + (1 : Nat) ≤ Go.Vx.memMax) then (some (Sum.inr (c0_0 ++ [v2.fst]))) else none)))

noncomputable def yHk (w0_0 : List (List UInt8)) (c0_0 : List Int) : Option (List Int × Bool × Unit) :=
  (some ((c0_0, Bool.true, ())))

theorem yFN (n : Nat) (hn : big ≤ n)  (w0_0 : List (List UInt8)) (c0_0 : List Int) (hx : List.length (w0_0) < lenMax) : LeF some (yJ (fun i__ e__ s__ => yBZ w0_0 i__ e__ s__) (fun s__ => yHk w0_0 s__) 0 (w0_0) c0_0) (yA3 n n w0_0 0 c0_0) := by
  refine yb (f := some) (W := fun k__ i__ s__ => yA3 n k__ w0_0 i__ s__) (body := (fun i__ e__ s__ => yBZ w0_0 i__ e__ s__)) (fin := (fun s__ => yHk w0_0 s__)) (fun k__ i__ s__ => ?_) hx c0_0 n (by unfold big at hn; unfold lenMax at hx; omega)
  show LeF _ _ (yG4 n (yA3 n k__) w0_0 i__ s__)
  exact y5 (y9 fun v1 => (y9 fun v2 => (y5 (y8 rfl) (y5 (y8 rfl) yL)))) (y0t (y8 rfl))

noncomputable def zy_M (w : List (List UInt8)) : Option (List Int × Bool × Unit) :=
  (bif decide (List.length (w) < lenMax) then yJ (fun i__ e__ s__ => yBZ (w) i__ e__ s__) (fun s__ => yHk (w) s__) 0 (w) ([]) else none)

theorem yND (w : List (List UInt8)) (y : List Int × Bool × Unit) (h : zy_M w = some y) : ∃ n, zy_m n w = some y :=
  ⟨big, LeF.top (show LeF some (zy_M w) (zy_m big w) from (fun (n : Nat) (hn : big ≤ n) => show LeF some (zy_M w) (zy_m n w) from (yd fun hx => by apply yFN n hn; exact hx)) big (Nat.le_refl _)) h⟩
noncomputable def zy_e : Entry := { f := 136, args := zy_a, rS := zy_r, m := fun x => zy_M x.1 }
theorem yP8 : FnOK Tryz.prog zy_e := y2v (g := zy_g) (fn := Tryz.f136) y17 y2W (yC yLu eNil) (by kernel_rfl) (by kernel_rfl) (by kernel_rfl) (fun x y h => let ⟨n, hn⟩ := yND x.1 y h; ⟨yMh n, iNil, (yP1 n x).trans hn⟩)

end Go.Tw
end

section
set_option linter.all false
set_option maxRecDepth 1000000
namespace Go.Tw
open Go.Vx Go.Vx.B Go.Proofs
/-! ### tidewayref04.Parse -/
abbrev yL4 : Ty := .pair t9 .unit
abbrev yNq : Ty := .pair t25 (.pair t3 (.pair t3 .unit))
noncomputable def yMS : G := { T := T, E := [z0V_e, zy_e, zn_e], mU := [5], fz := [] }
def yPL : List (List Nat) := [[2, 5, 6, 7, 8]]
noncomputable def yK0 (n : Nat) : Ann := { keep := yPL, fuel := n, inl := [], deep := 0 }
noncomputable def yDH (n : Nat) (r1 : List (List UInt8) → Int → Int → List Nod → List Lnk → Option (Bas × Int × Int × Unit)) (lines6_1 : List (List UInt8)) (last7_1 : Int) (i8_1 : Int) (c2_1 : List Nod) (c3_1 : List Lnk) : Option (Bas × Int × Int × Unit) :=
  (bif Decidable.decide (i8_1 < last7_1) then (Option.bind (Go.Vx.idx lines6_1 i8_1) fun (v2 : List UInt8) => (Option.bind (Go.Tw.yFA v2 (32 : Int)) fun (v3 : List (List UInt8) × Unit) => (Option.bind (Go.Vx.idx v3.fst (0 : Int)) fun (v4 : List UInt8) => (bif v4 == [(110 : UInt8), (111 : UInt8), (100 : UInt8), (101 : UInt8)] then (bif Decidable.decide ((↑c3_1.length : Int) > (0 : Int)) then Option.some (([], [], ()), i8_1, (26 : Int), ()) else (bif (↑v3.fst.length : Int) != (4 : Int) then Option.some (([], [], ()), i8_1, (26 : Int), ()) else (Option.bind (Go.Vx.idx v3.fst (1 : Int)) fun (v5 : List UInt8) => (bif v5 == [] then Option.some (([], [], ()), i8_1, (26 : Int), ()) else (bif Decidable.decide ((0 : Int) ≤ (2 : Int)) && Decidable.decide ((2 : Int) ≤ (↑v3.fst.length : Int)) then (Option.bind (Go.Tw.zy_M (List.drop (Int.toNat (2 : Int)) v3.fst)) fun (v10 : List Int × Bool × Unit) => (bif !v10.snd.fst then Option.some (([], [], ()), i8_1, (26 : Int), ()) else (Option.bind (Go.Vx.idx v3.fst (1 : Int)) fun (v11 : List UInt8) => (Option.bind (Go.Vx.idx v10.fst (0 : Int)) fun (v12 : Int) => (Option.bind (Go.Vx.idx v10.fst (1 : Int)) fun (v13 : Int) => (bif Decidable.decide (c2_1.length + (1 : Nat) ≤ Go.Vx.memMax) then r1 lines6_1 last7_1 (Go.IntKind.i64.wrap (i8_1 + (1 : Int))) (c2_1 ++ [(v11, v12, v13, ())]) c3_1 else none)))))) else none))))) else (bif Decidable.decide ((0 : Int) ≤ (1 : Int)) && Decidable.decide ((1 : Int) ≤ (↑v3.fst.length : Int)) then (Option.bind (Go.Tw.zy_M (List.drop (Int.toNat (1 : Int)) v3.fst)) fun (v14 : List Int × Bool × Unit) => (Option.bind (Go.Vx.idx v3.fst (0 : Int)) fun (v15 : List UInt8) => (bif v15 == [] then Option.some (([], [], ()), i8_1, (26 : Int), ()) else (bif (↑v3.fst.length : Int) != (5 : Int) then Option.some (([], [], ()), i8_1, (26 : Int), ()) else (bif !v14.snd.fst then Option.some (([], [], ()), i8_1, (26 : Int), ()) else (Option.bind (Go.Vx.idx v3.fst (0 : Int)) fun (v20 : List UInt8) => (Option.bind (Go.Vx.idx v14.fst (0 : Int)) fun (v21 : Int) => (Option.bind (Go.Vx.idx v14.fst (1 : Int)) fun (v22 : Int) => (Option.bind (Go.Vx.idx v14.fst (2 : Int)) fun (v23 : Int) => (Option.bind (Go.Vx.idx v14.fst (3 : Int)) fun (v24 : Int) => (bif Decidable.decide (c3_1.length + (1 : Nat) ≤ Go.Vx.memMax) then r1 lines6_1 last7_1 (Go.IntKind.i64.wrap (i8_1 + (1 : Int))) c2_1 (c3_1 ++ [(v20, v21, v22, v23, v24, ())]) else none))))))))))) else none))))) else (Option.bind (Go.Vx.idx lines6_1 last7_1) fun (v25 : List UInt8) => (bif !v25 == [] then Option.some (([], [], ()), last7_1, (26 : Int), ()) else (Option.bind (Go.Tw.zn_M (c2_1, c3_1, ())) fun (v26 : Int × Unit) => (bif v26.fst != (0 : Int) then Option.some (([], [], ()), last7_1, v26.fst, ()) else Option.some ((c2_1, c3_1, ()), (0 : Int), (0 : Int), ()))))))

noncomputable def y6n (n : Nat)  (k : Nat) (lines6_1 : List (List UInt8)) (last7_1 : Int) (i8_1 : Int) (c2_1 : List Nod) (c3_1 : List Lnk) : Option (Bas × Int × Int × Unit) :=
  iter (fun r y => yDH n (fun lines6_1 last7_1 i8_1 c2_1 c3_1 => r ((lines6_1, (last7_1, (i8_1, ()))), (((), ((), (c2_1, (c3_1, ())))), ()))) y.1.1 y.1.2.1 y.1.2.2.1 y.2.1.2.2.1 y.2.1.2.2.2.1) k ((lines6_1, (last7_1, (i8_1, ()))), (((), ((), (c2_1, (c3_1, ())))), ()))

noncomputable def yIA (n : Nat) (s : List UInt8) : Option (Bas × Int × Int × Unit) :=
  (bif Decidable.decide ((↑s.length : Int) > (4096 : Int)) then Option.some (([], [], ()), (0 : Int), (27 : Int), ()) else (Option.bind (Go.Tw.yFA s (10 : Int)) fun (v0 : List (List UInt8) × Unit) => (y6n n n (v0.fst) (Go.IntKind.i64.wrap ((↑v0.fst.length : Int) - (1 : Int))) ((0 : Int)) ([]) ([]))))

theorem yMy (n : Nat) (x : yL4.den) : runF yMS (yK0 n) Tryz.f81 yL4 yNq x = yIA n x.1 := by kernel_rfl

noncomputable def y8o (lines6_1 : List (List UInt8)) (last7_1 : Int) (i8_1 : Int) (c2_1 : List Nod) (c3_1 : List Lnk) : Option ((Bas × Int × Int × Unit) ⊕ ((List Nod) × (List Lnk))) :=
  (Option.bind (Go.Vx.idx lines6_1 i8_1) fun (v2 : List UInt8) => (Option.bind (Go.Tw.yFA v2 (32 : Int)) fun (v3 : List (List UInt8) × Unit) => (Option.bind (Go.Vx.idx v3.fst (0 : Int)) fun (v4 : List UInt8) => (bif v4 == [(110 : UInt8), (111 : UInt8), (100 : UInt8), (101 : UInt8)] then (bif Decidable.decide ((↑c3_1.length : Int) > (0 : Int)) then (some (Sum.inl ((([], [], ()), i8_1, (26 : Int), ())))) else (bif (↑v3.fst.length : Int) != (4 : Int) then (some (Sum.inl ((([], [], ()), i8_1, (26 : Int), ())))) else (Option.bind (Go.Vx.idx v3.fst (1 : Int)) fun (v5 : List UInt8) => (bif v5 == [] then (some (Sum.inl ((([], [], ()), i8_1, (26 : Int), ())))) else (bif Decidable.decide ((0 : Int) ≤ (2 : Int)) && Decidable.decide ((2 : Int) ≤ (↑v3.fst.length : Int)) then (Option.bind (Go.Tw.zy_M (List.drop (Int.toNat (2 : Int)) v3.fst)) fun (v10 : List Int × Bool × Unit) => (bif !v10.snd.fst then (some (Sum.inl ((([], [], ()), i8_1, (26 : Int), ())))) else (Option.bind (Go.Vx.idx v3.fst (1 : Int)) fun (v11 : List UInt8) => (Option.bind (Go.Vx.idx v10.fst (0 : Int)) fun (v12 : Int) => (Option.bind (Go.Vx.idx v10.fst (1 : Int)) fun (v13 : Int) => (bif Decidable.decide (c2_1.length + (1 : Nat) ≤ Go.Vx.memMax) then (some (Sum.inr ((c2_1 ++ [(v11, v12, v13, ())]), (c3_1)))) else none)))))) else none))))) else (bif Decidable.decide ((0 : Int) ≤ (1 : Int)) && Decidable.decide ((1 : Int) ≤ (↑v3.fst.length : Int)) then (Option.bind (Go.Tw.zy_M (List.drop (Int.toNat (1 : Int)) v3.fst)) fun (v14 : List Int × Bool × Unit) => (Option.bind (Go.Vx.idx v3.fst (0 : Int)) fun (v15 : List UInt8) => (bif v15 == [] then (some (Sum.inl ((([], [], ()), i8_1, (26 : Int), ())))) else (bif (↑v3.fst.length : Int) != (5 : Int) then (some (Sum.inl ((([], [], ()), i8_1, (26 : Int), ())))) else (bif !v14.snd.fst then (some (Sum.inl ((([], [], ()), i8_1, (26 : Int), ())))) else (Option.bind (Go.Vx.idx v3.fst (0 : Int)) fun (v20 : List UInt8) => (Option.bind (Go.Vx.idx v14.fst (0 : Int)) fun (v21 : Int) => (Option.bind (Go.Vx.idx v14.fst (1 : Int)) fun (v22 : Int) => (Option.bind (Go.Vx.idx v14.fst (2 : Int)) fun (v23 : Int) => (Option.bind (Go.Vx.idx v14.fst (3 : Int)) fun (v24 : Int) => (bif Decidable.decide (c3_1.length + (1 : Nat) ≤ Go.Vx.memMax) then (some (Sum.inr ((c2_1), (c3_1 ++ [(v20, v21, v22, v23, v24, ())])))) else none))))))))))) else none)))))

noncomputable def yBC (lines6_1 : List (List UInt8)) (last7_1 : Int) (c2_1 : List Nod) (c3_1 : List Lnk) : Option (Bas × Int × Int × Unit) :=
  (Option.bind (Go.Vx.idx lines6_1 last7_1) fun (v25 : List UInt8) => (bif !v25 == [] then (some ((([], [], ()), last7_1, (26 : Int), ()))) else (Option.bind (Go.Tw.zn_M (c2_1, c3_1, ())) fun (v26 : Int × Unit) => (bif v26.fst != (0 : Int) then (some ((([], [], ()), last7_1, v26.fst, ()))) else (some (((c2_1, c3_1, ()), (0 : Int), (0 : Int), ())))))))

theorem yCz (n : Nat) (hn : big ≤ n)  (lines6_1 : List (List UInt8)) (last7_1 : Int) (c2_1 : List Nod) (c3_1 : List Lnk) (hx : (last7_1) ≤ (9223372036854775807 : Int)) : LeF some (y1a (fun i__ s__ => y8o lines6_1 last7_1 i__ s__.1 s__.2) (fun s__ => yBC lines6_1 last7_1 s__.1 s__.2) ((last7_1) - 0).toNat 0 (c2_1, c3_1)) (y6n n n lines6_1 last7_1 0 c2_1 c3_1) := by
  refine y4s (f := some) (W := fun k__ i__ s__ => y6n n k__ lines6_1 last7_1 i__ s__.1 s__.2) (body := (fun i__ s__ => y8o lines6_1 last7_1 i__ s__.1 s__.2)) (fin := (fun s__ => yBC lines6_1 last7_1 s__.1 s__.2)) (fun k__ i__ s__ => ?_) hx (c2_1, c3_1) n 0 (by decide) (by unfold big at hn; omega)
  show LeF _ _ (yDH n (y6n n k__) lines6_1 last7_1 i__ s__.1 s__.2)
  exact y5 (y9 fun v2 => (y9 fun v3 => (y9 fun v4 => (y5 (y5 (y8 rfl) (y5 (y8 rfl) (y9 fun v5 => (y5 (y8 rfl) (y5 (y9 fun v10 => (y5 (y8 rfl) (y9 fun v11 => (y9 fun v12 => (y9 fun v13 => (y5 (y8 rfl) yL)))))) yL))))) (y5 (y9 fun v14 => (y9 fun v15 => (y5 (y8 rfl) (y5 (y8 rfl) (y5 (y8 rfl) (y9 fun v20 => (y9 fun v21 => (y9 fun v22 => (y9 fun v23 => (y9 fun v24 => (y5 (y8 rfl) yL))))))))))) yL))))) (y0t (y9 fun v25 => (y5 (y8 rfl) (y9 fun v26 => (y5 (y8 rfl) (y8 rfl))))))

noncomputable def yEh (s : List UInt8) : Option (Bas × Int × Int × Unit) :=
  (bif Decidable.decide ((↑s.length : Int) > (4096 : Int)) then (some ((([], [], ()), (0 : Int), (27 : Int), ()))) else (Option.bind (Go.Tw.yFA s (10 : Int)) fun (v0 : List (List UInt8) × Unit) => (bif decide ((Go.IntKind.i64.wrap ((↑v0.fst.length : Int) - (1 : Int))) ≤ (9223372036854775807 : Int)) then y1a (fun i__ s__ => y8o (v0.fst) (Go.IntKind.i64.wrap ((↑v0.fst.length : Int) - (1 : Int))) i__ s__.1 s__.2) (fun s__ => yBC (v0.fst) (Go.IntKind.i64.wrap ((↑v0.fst.length : Int) - (1 : Int))) s__.1 s__.2) ((Go.IntKind.i64.wrap ((↑v0.fst.length : Int) - (1 : Int))) - 0).toNat 0 (([]), ([])) else none)))

theorem yKF (s : List UInt8) (y : Bas × Int × Int × Unit) (h : yEh s = some y) : ∃ n, yIA n s = some y :=
  ⟨big, LeF.top (show LeF some (yEh s) (yIA big s) from (fun (n : Nat) (hn : big ≤ n) => show LeF some (yEh s) (yIA n s) from (y5 (y8 rfl) (y9 fun v0 => (yd fun hx => by apply yCz n hn; exact hx)))) big (Nat.le_refl _)) h⟩
noncomputable def z0X_e : Entry := { f := 81, args := yL4, rS := yNq, m := fun x => yEh x.1 }
theorem yMB : FnOK Tryz.prog z0X_e := y2v (g := yMS) (fn := Tryz.f81) y17 y2W (yC yN4 (yC yP8 (yC yNJ eNil))) (by kernel_rfl) (by kernel_rfl) (by kernel_rfl) (fun x y h => let ⟨n, hn⟩ := yKF x.1 y h; ⟨yK0 n, iNil, (yMy n x).trans hn⟩)

end Go.Tw
end
