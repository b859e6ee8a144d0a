/- Models of the program's functions, by program (gen.py), and what they compute.
Models of the program's functions, by program (gen.py), and what they compute.
Models of the program's functions, by program (gen.py), and what they compute.
Models of the program's functions, by program (gen.py), and what they compute. -/
import Derived.Test.YtkfigfhjbejikaaGreatDoorBT
import Derived.Test.YtkfigfhjbejikaaGreatDoorB0
import Derived.Test.YtkfigfhjbejikaaGreatDoorBA
import Derived.Test.YtkfigfhjbejikaaGreatDoorBC
import Derived.Test.YtkfigfhjbejikaaGreatDoorBD
import Derived.Test.YtkfigfhjbejikaaGreatDoorBE
import Derived.Test.YtkfigfhjbejikaaGreatDoorSA
import Derived.Test.YtkfigfhjbejikaaGreatDoorLQ
import Derived.Test.YtkfigfhjbejikaaGreatDoorLR

section
set_option linter.all false
set_option maxRecDepth 1000000
namespace Go.Tw
open Go.Vx Go.Vx.B Go.Proofs
/-! ### tidewayref04.SameBasin -/
abbrev zx_a : Ty := .pair t25 (.pair t25 .unit)
abbrev zx_r : Ty := .pair t4 .unit
noncomputable def zx_g : G := { T := T, E := [], mU := [], fz := [] }
def zx_k : List (List Nat) := [[2, 3, 5], [2, 3, 6]]
noncomputable def yO3 (n : Nat) : Ann := { keep := zx_k, fuel := n, inl := [], deep := 0 }
noncomputable def yGM (n : Nat) (r5 : Bas → Bas → Int → Option (Bool × Unit)) (a2_5 : Bas) (b3_5 : Bas) (i6_5 : Int) : Option (Bool × Unit) :=
  (bif Decidable.decide (i6_5 < (↑a2_5.snd.fst.length : Int)) then (Option.bind (Go.Vx.idx a2_5.snd.fst i6_5) fun (v6 : Lnk) => (Option.bind (Go.Vx.idx b3_5.snd.fst i6_5) fun (v7 : Lnk) => (bif !Go.Vx.eqV (Go.Vx.Ty.str.pair ((Go.Vx.Ty.int Go.IntKind.i64).pair ((Go.Vx.Ty.int Go.IntKind.i64).pair ((Go.Vx.Ty.int Go.IntKind.i64).pair ((Go.Vx.Ty.int Go.IntKind.i64).pair Go.Vx.Ty.unit))))) v6 v7 then Option.some (Bool.false, ()) else r5 a2_5 b3_5 (Go.IntKind.i64.wrap (i6_5 + (1 : Int)))))) else Option.some (Bool.true, ()))

noncomputable def y9c (n : Nat)  (k : Nat) (a2_5 : Bas) (b3_5 : Bas) (i6_5 : Int) : Option (Bool × Unit) :=
  iter (fun r y => yGM n (fun a2_5 b3_5 i6_5 => r ((a2_5, (b3_5, (i6_5, ()))), ((), ()))) y.1.1 y.1.2.1 y.1.2.2.1) k ((a2_5, (b3_5, (i6_5, ()))), ((), ()))

noncomputable def yGW (n : Nat) (r2 : Bas → Bas → Int → Option (Bool × Unit)) (a2_2 : Bas) (b3_2 : Bas) (i5_2 : Int) : Option (Bool × Unit) :=
  (bif Decidable.decide (i5_2 < (↑a2_2.fst.length : Int)) then (Option.bind (Go.Vx.idx a2_2.fst i5_2) fun (v3 : Nod) => (Option.bind (Go.Vx.idx b3_2.fst i5_2) fun (v4 : Nod) => (bif !Go.Vx.eqV (Go.Vx.Ty.str.pair ((Go.Vx.Ty.int Go.IntKind.i64).pair ((Go.Vx.Ty.int Go.IntKind.i64).pair Go.Vx.Ty.unit))) v3 v4 then Option.some (Bool.false, ()) else r2 a2_2 b3_2 (Go.IntKind.i64.wrap (i5_2 + (1 : Int)))))) else (y9c n n (a2_2) (b3_2) ((0 : Int))))

noncomputable def yAa (n : Nat)  (k : Nat) (a2_2 : Bas) (b3_2 : Bas) (i5_2 : Int) : Option (Bool × Unit) :=
  iter (fun r y => yGW n (fun a2_2 b3_2 i5_2 => r ((a2_2, (b3_2, (i5_2, ()))), ((), ()))) y.1.1 y.1.2.1 y.1.2.2.1) k ((a2_2, (b3_2, (i5_2, ()))), ((), ()))

noncomputable def zx_m (n : Nat) (a : Bas) (b : Bas) : Option (Bool × Unit) :=
  (bif (↑a.fst.length : Int) != (↑b.fst.length : Int) then Option.some (Bool.false, ()) else (bif (↑a.snd.fst.length : Int) != (↑b.snd.fst.length : Int) then Option.some (Bool.false, ()) else (yAa n n (a) (b) ((0 : Int)))))

theorem yQX (n : Nat) (x : zx_a.den) : runF zx_g (yO3 n) Tryz.f82 zx_a zx_r x = zx_m n x.1 x.2.1 := by kernel_rfl

noncomputable def yFi (a2_5 : Bas) (b3_5 : Bas) (i6_5 : Int) (v6 : Lnk) : Option ((Bool × Unit) ⊕ Unit) :=
  (Option.bind (Go.Vx.idx b3_5.snd.fst i6_5) fun (v7 : Lnk) => (bif !Go.Vx.eqV (Go.Vx.Ty.str.pair ((Go.Vx.Ty.int Go.IntKind.i64).pair ((Go.Vx.Ty.int Go.IntKind.i64).pair ((Go.Vx.Ty.int Go.IntKind.i64).pair ((Go.Vx.Ty.int Go.IntKind.i64).pair Go.Vx.Ty.unit))))) v6 v7 then (some (Sum.inl ((Bool.false, ())))) else (some (Sum.inr ()))))

noncomputable def yK0 (a2_5 : Bas) (b3_5 : Bas) : Option (Bool × Unit) :=
  (some ((Bool.true, ())))

theorem yG9 (n : Nat) (hn : big ≤ n)  (a2_5 : Bas) (b3_5 : Bas) (hx : List.length (a2_5.snd.fst) < lenMax) : LeF some (yK (fun i__ e__ s__ => yFi a2_5 b3_5 i__ e__) (fun s__ => yK0 a2_5 b3_5) 0 (a2_5.snd.fst) ()) (y9c n n a2_5 b3_5 0) := by
  refine yT (f := some) (W := fun k__ i__ s__ => y9c n k__ a2_5 b3_5 i__) (body := (fun i__ e__ s__ => yFi a2_5 b3_5 i__ e__)) (fin := (fun s__ => yK0 a2_5 b3_5)) (fun k__ i__ s__ => ?_) hx () n (by unfold big at hn; unfold lenMax at hx; omega)
  show LeF _ _ (yGM n (y9c n k__) a2_5 b3_5 i__)
  exact y5 (y6 fun v6 => (y6 fun v7 => (y5 (y7 rfl) (y7 rfl)))) (y0R (y7 rfl))

noncomputable def yG2 (a2_2 : Bas) (b3_2 : Bas) (i5_2 : Int) (v3 : Nod) : Option ((Bool × Unit) ⊕ Unit) :=
  (Option.bind (Go.Vx.idx b3_2.fst i5_2) fun (v4 : Nod) => (bif !Go.Vx.eqV (Go.Vx.Ty.str.pair ((Go.Vx.Ty.int Go.IntKind.i64).pair ((Go.Vx.Ty.int Go.IntKind.i64).pair Go.Vx.Ty.unit))) v3 v4 then (some (Sum.inl ((Bool.false, ())))) else (some (Sum.inr ()))))

noncomputable def yHF (a2_2 : Bas) (b3_2 : Bas) : Option (Bool × Unit) :=
  (bif decide (List.length (a2_2.snd.fst) < lenMax) then yK (fun i__ e__ s__ => yFi (a2_2) (b3_2) i__ e__) (fun s__ => yK0 (a2_2) (b3_2)) 0 (a2_2.snd.fst) () else none)

theorem yFB (n : Nat) (hn : big ≤ n)  (a2_2 : Bas) (b3_2 : Bas) (hx : List.length (a2_2.fst) < lenMax) : LeF some (yK (fun i__ e__ s__ => yG2 a2_2 b3_2 i__ e__) (fun s__ => yHF a2_2 b3_2) 0 (a2_2.fst) ()) (yAa n n a2_2 b3_2 0) := by
  refine yT (f := some) (W := fun k__ i__ s__ => yAa n k__ a2_2 b3_2 i__) (body := (fun i__ e__ s__ => yG2 a2_2 b3_2 i__ e__)) (fin := (fun s__ => yHF a2_2 b3_2)) (fun k__ i__ s__ => ?_) hx () n (by unfold big at hn; unfold lenMax at hx; omega)
  show LeF _ _ (yGW n (yAa n k__) a2_2 b3_2 i__)
  exact y5 (y6 fun v3 => (y6 fun v4 => (y5 (y7 rfl) (y7 rfl)))) (y0R (yV fun hx => by apply yG9 n hn; exact hx))

noncomputable def zx_M (a : Bas) (b : Bas) : Option (Bool × Unit) :=
  (bif (↑a.fst.length : Int) != (↑b.fst.length : Int) then (some ((Bool.false, ()))) else (bif (↑a.snd.fst.length : Int) != (↑b.snd.fst.length : Int) then (some ((Bool.false, ()))) else (bif decide (List.length (a.fst) < lenMax) then yK (fun i__ e__ s__ => yG2 (a) (b) i__ e__) (fun s__ => yHF (a) (b)) 0 (a.fst) () else none)))

theorem yNM (a : Bas) (b : Bas) (y : Bool × Unit) (h : zx_M a b = some y) : ∃ n, zx_m n a b = some y :=
  ⟨big, LeF.top (show LeF some (zx_M a b) (zx_m big a b) from (fun (n : Nat) (hn : big ≤ n) => show LeF some (zx_M a b) (zx_m n a b) from (y5 (y7 rfl) (y5 (y7 rfl) (yV fun hx => by apply yFB n hn; exact hx)))) big (Nat.le_refl _)) h⟩
noncomputable def zx_e : Entry := { f := 82, args := zx_a, rS := zx_r, m := fun x => zx_M x.1 x.2.1 }
theorem yOs : FnOK Tryz.prog zx_e := y2Y (g := zx_g) (fn := Tryz.f82) y0q y2M eNil (by kernel_rfl) (by kernel_rfl) (by kernel_rfl) (fun x y h => let ⟨n, hn⟩ := yNM x.1 x.2.1 y h; ⟨yO3 n, iNil, (yQX n x).trans hn⟩)

/-! ### tidewaylaw04.told -/
abbrev yM8 : Ty := .pair t41 .unit
abbrev yNg : Ty := .pair t25 .unit
noncomputable def yNi : G := { T := T, E := [], mU := [3], fz := [] }
def yQG : List (List Nat) := [[1, 2, 3, 9, 10, 11], [2, 3, 23, 24, 25]]
noncomputable def yLB (n : Nat) : Ann := { keep := yQG, fuel := n, inl := [], deep := 0 }
noncomputable def yE5 (n : Nat) (r2 : List Lnk → Int → Int → List Nod → List Lnk → Option (Bas × Unit)) (t23_2 : List Lnk) (t24_2 : Int) (t25_2 : Int) (c2_2 : List Nod) (c3_2 : List Lnk) : Option (Bas × Unit) :=
  (bif Decidable.decide (t25_2 < t24_2) then (Option.bind (Go.Vx.idx t23_2 t25_2) fun (v3 : Lnk) => (bif Decidable.decide (c3_2.length + (1 : Nat) ≤ Go.Vx.memMax) then r2 t23_2 t24_2 (Go.IntKind.i64.wrap (t25_2 + (1 : Int))) c2_2 (c3_2 ++ [(v3.fst, v3.snd.fst, v3.snd.snd.fst, v3.snd.snd.snd.fst, v3.snd.snd.snd.snd.fst, ())]) else none)) else Option.some ((c2_2, c3_2, ()), ()))

noncomputable def y6p (n : Nat)  (k : Nat) (t23_2 : List Lnk) (t24_2 : Int) (t25_2 : Int) (c2_2 : List Nod) (c3_2 : List Lnk) : Option (Bas × Unit) :=
  iter (fun r y => yE5 n (fun t23_2 t24_2 t25_2 c2_2 c3_2 => r ((t23_2, (t24_2, (t25_2, ()))), (((), ((), (c2_2, (c3_2, ())))), ()))) y.1.1 y.1.2.1 y.1.2.2.1 y.2.1.2.2.1 y.2.1.2.2.2.1) k ((t23_2, (t24_2, (t25_2, ()))), (((), ((), (c2_2, (c3_2, ())))), ()))

noncomputable def yEN (n : Nat) (r0 : Bas → List Nod → Int → Int → List Nod → List Lnk → Option (Bas × Unit)) (b1_0 : Bas) (t9_0 : List Nod) (t10_0 : Int) (t11_0 : Int) (c2_0 : List Nod) (c3_0 : List Lnk) : Option (Bas × Unit) :=
  (bif Decidable.decide (t11_0 < t10_0) then (Option.bind (Go.Vx.idx t9_0 t11_0) fun (v1 : Nod) => (bif Decidable.decide (c2_0.length + (1 : Nat) ≤ Go.Vx.memMax) then r0 b1_0 t9_0 t10_0 (Go.IntKind.i64.wrap (t11_0 + (1 : Int))) (c2_0 ++ [(v1.fst, v1.snd.fst, v1.snd.snd.fst, ())]) c3_0 else none)) else (y6p n n (b1_0.snd.fst) ((↑b1_0.snd.fst.length : Int)) ((0 : Int)) (c2_0) (c3_0)))

noncomputable def y70 (n : Nat)  (k : Nat) (b1_0 : Bas) (t9_0 : List Nod) (t10_0 : Int) (t11_0 : Int) (c2_0 : List Nod) (c3_0 : List Lnk) : Option (Bas × Unit) :=
  iter (fun r y => yEN n (fun b1_0 t9_0 t10_0 t11_0 c2_0 c3_0 => r ((b1_0, (t9_0, (t10_0, (t11_0, ())))), (((), ((), (c2_0, (c3_0, ())))), ()))) y.1.1 y.1.2.1 y.1.2.2.1 y.1.2.2.2.1 y.2.1.2.2.1 y.2.1.2.2.2.1) k ((b1_0, (t9_0, (t10_0, (t11_0, ())))), (((), ((), (c2_0, (c3_0, ())))), ()))

noncomputable def yJs (n : Nat) (b : Bas) : Option (Bas × Unit) :=
  (y70 n n (b) (b.fst) ((↑b.fst.length : Int)) ((0 : Int)) ([]) ([]))

theorem yP6 (n : Nat) (x : yM8.den) : runF yNi (yLB n) Tryz.f83 yM8 yNg x = yJs n x.1 := by kernel_rfl

noncomputable def y8j (t23_2 : List Lnk) (c2_2 : List Nod) (t25_2 : Int) (v3 : Lnk) (c3_2 : List Lnk) : Option ((Bas × Unit) ⊕ (List Lnk)) :=
  (bif Decidable.decide (c3_2.length + (1 : Nat) ≤ Go.Vx.memMax) then (some (Sum.inr (c3_2 ++ [(v3.fst, v3.snd.fst, v3.snd.snd.fst, v3.snd.snd.snd.fst, v3.snd.snd.snd.snd.fst, ())]))) else none)

noncomputable def yBd (t23_2 : List Lnk) (c2_2 : List Nod) (c3_2 : List Lnk) : Option (Bas × Unit) :=
  (some (((c2_2, c3_2, ()), ())))

theorem yCm (n : Nat) (hn : big ≤ n)  (t23_2 : List Lnk) (c2_2 : List Nod) (c3_2 : List Lnk) (hx : List.length (t23_2) < lenMax) : LeF some (yK (fun i__ e__ s__ => y8j t23_2 c2_2 i__ e__ s__) (fun s__ => yBd t23_2 c2_2 s__) 0 (t23_2) c3_2) (y6p n n t23_2 (List.length (t23_2) : Int) 0 c2_2 c3_2) := by
  refine yT (f := some) (W := fun k__ i__ s__ => y6p n k__ t23_2 (List.length (t23_2) : Int) i__ c2_2 s__) (body := (fun i__ e__ s__ => y8j t23_2 c2_2 i__ e__ s__)) (fin := (fun s__ => yBd t23_2 c2_2 s__)) (fun k__ i__ s__ => ?_) hx c3_2 n (by unfold big at hn; unfold lenMax at hx; omega)
  show LeF _ _ (yE5 n (y6p n k__) t23_2 (List.length (t23_2) : Int) i__ c2_2 s__)
  exact y5 (y6 fun v3 => (y5 (y7 rfl) yL)) (y0R (y7 rfl))

noncomputable def y9N (b1_0 : Bas) (t9_0 : List Nod) (c3_0 : List Lnk) (t11_0 : Int) (v1 : Nod) (c2_0 : List Nod) : Option ((Bas × Unit) ⊕ (List Nod)) :=
  (bif Decidable.decide (c2_0.length + (1 : Nat) ≤ Go.Vx.memMax) then (some (Sum.inr (c2_0 ++ [(v1.fst, v1.snd.fst, v1.snd.snd.fst, ())]))) else none)

noncomputable def yC7 (b1_0 : Bas) (t9_0 : List Nod) (c3_0 : List Lnk) (c2_0 : List Nod) : Option (Bas × Unit) :=
  (bif decide (List.length (b1_0.snd.fst) < lenMax) then yK (fun i__ e__ s__ => y8j (b1_0.snd.fst) (c2_0) i__ e__ s__) (fun s__ => yBd (b1_0.snd.fst) (c2_0) s__) 0 (b1_0.snd.fst) (c3_0) else none)

theorem yD0 (n : Nat) (hn : big ≤ n)  (b1_0 : Bas) (t9_0 : List Nod) (c3_0 : List Lnk) (c2_0 : List Nod) (hx : List.length (t9_0) < lenMax) : LeF some (yK (fun i__ e__ s__ => y9N b1_0 t9_0 c3_0 i__ e__ s__) (fun s__ => yC7 b1_0 t9_0 c3_0 s__) 0 (t9_0) c2_0) (y70 n n b1_0 t9_0 (List.length (t9_0) : Int) 0 c2_0 c3_0) := by
  refine yT (f := some) (W := fun k__ i__ s__ => y70 n k__ b1_0 t9_0 (List.length (t9_0) : Int) i__ s__ c3_0) (body := (fun i__ e__ s__ => y9N b1_0 t9_0 c3_0 i__ e__ s__)) (fin := (fun s__ => yC7 b1_0 t9_0 c3_0 s__)) (fun k__ i__ s__ => ?_) hx c2_0 n (by unfold big at hn; unfold lenMax at hx; omega)
  show LeF _ _ (yEN n (y70 n k__) b1_0 t9_0 (List.length (t9_0) : Int) i__ s__ c3_0)
  exact y5 (y6 fun v1 => (y5 (y7 rfl) yL)) (y0R (yV fun hx => by apply yCm n hn; exact hx))

noncomputable def yGE (b : Bas) : Option (Bas × Unit) :=
  (bif decide (List.length (b.fst) < lenMax) then yK (fun i__ e__ s__ => y9N (b) (b.fst) ([]) i__ e__ s__) (fun s__ => yC7 (b) (b.fst) ([]) s__) 0 (b.fst) ([]) else none)

theorem yLR (b : Bas) (y : Bas × Unit) (h : yGE b = some y) : ∃ n, yJs n b = some y :=
  ⟨big, LeF.top (show LeF some (yGE b) (yJs big b) from (fun (n : Nat) (hn : big ≤ n) => show LeF some (yGE b) (yJs n b) from (yV fun hx => by apply yD0 n hn; exact hx)) big (Nat.le_refl _)) h⟩
noncomputable def z0i_e : Entry := { f := 83, args := yM8, rS := yNg, m := fun x => yGE x.1 }
theorem yKi : FnOK Tryz.prog z0i_e := y2Y (g := yNi) (fn := Tryz.f83) y0q y2M eNil (by kernel_rfl) (by kernel_rfl) (by kernel_rfl) (fun x y h => let ⟨n, hn⟩ := yLR x.1 y h; ⟨yLB n, iNil, (yP6 n x).trans hn⟩)

/-! ### tidewayref01.Split -/
abbrev yM9 : Ty := .pair t9 (.pair t5 .unit)
abbrev yPB : Ty := .pair t67 .unit
noncomputable def yN5 : G := { T := T, E := [], mU := [5], fz := [] }
def yQ0 : List (List Nat) := [[0, 1, 5, 6, 7]]
noncomputable def yKc (n : Nat) : Ann := { keep := yQ0, fuel := n, inl := [], deep := 0 }
noncomputable def y9Z (n : Nat) (r0 : List UInt8 → Int → Int → Int → List (List UInt8) → Option (List (List UInt8) × Unit)) (s0_0 : List UInt8) (c1_0 : Int) (from6_0 : Int) (i7_0 : Int) (cs0_0 : List (List UInt8)) (j3 : Bool) : Option (List (List UInt8) × Unit) :=
  (bif j3 then (bif Decidable.decide ((0 : Int) ≤ from6_0) && Decidable.decide (from6_0 ≤ i7_0) && Decidable.decide (i7_0 ≤ (↑s0_0.length : Int)) then (bif Decidable.decide (cs0_0.length + (1 : Nat) ≤ Go.Vx.memMax) then r0 s0_0 c1_0 (Go.IntKind.i64.wrap (i7_0 + (1 : Int))) (Go.IntKind.i64.wrap (i7_0 + (1 : Int))) (cs0_0 ++ [List.drop from6_0.toNat (List.take i7_0.toNat s0_0)]) else none) else none) else r0 s0_0 c1_0 from6_0 (Go.IntKind.i64.wrap (i7_0 + (1 : Int))) cs0_0)

noncomputable def yDt (n : Nat) (r0 : List UInt8 → Int → Int → Int → List (List UInt8) → Option (List (List UInt8) × Unit)) (s0_0 : List UInt8) (c1_0 : Int) (from6_0 : Int) (i7_0 : Int) (cs0_0 : List (List UInt8)) : Option (List (List UInt8) × Unit) :=
  (bif Decidable.decide (i7_0 ≤ (↑s0_0.length : Int)) then (bif i7_0 == (↑s0_0.length : Int) then (y9Z n r0 s0_0 c1_0 from6_0 i7_0 cs0_0 (Bool.true)) else (Option.bind (Go.Vx.idx s0_0 i7_0) fun (v1 : UInt8) => (y9Z n r0 s0_0 c1_0 from6_0 i7_0 cs0_0 ((↑v1.toNat : Int) == c1_0)))) else Option.some (cs0_0, ()))

noncomputable def y6i (n : Nat)  (k : Nat) (s0_0 : List UInt8) (c1_0 : Int) (from6_0 : Int) (i7_0 : Int) (cs0_0 : List (List UInt8)) : Option (List (List UInt8) × Unit) :=
  iter (fun r y => yDt n (fun s0_0 c1_0 from6_0 i7_0 cs0_0 => r ((s0_0, (c1_0, (from6_0, (i7_0, ())))), ((cs0_0, ()), ()))) y.1.1 y.1.2.1 y.1.2.2.1 y.1.2.2.2.1 y.2.1.1) k ((s0_0, (c1_0, (from6_0, (i7_0, ())))), ((cs0_0, ()), ()))

noncomputable def yIq (n : Nat) (s : List UInt8) (c : Int) : Option (List (List UInt8) × Unit) :=
  (y6i n n (s) (c) ((0 : Int)) ((0 : Int)) ([]))

theorem yNh (n : Nat) (x : yM9.den) : runF yN5 (yKc n) Tryz.f84 yM9 yPB x = yIq n x.1 x.2.1 := by kernel_rfl

noncomputable def y94 (s0_0 : List UInt8) (c1_0 : Int) (from6_0 : Int) (i7_0 : Int) (cs0_0 : List (List UInt8)) (j3 : Bool) : Option ((List (List UInt8) × Unit) ⊕ (Int × List (List UInt8))) :=
  (bif j3 then (bif Decidable.decide ((0 : Int) ≤ from6_0) && Decidable.decide (from6_0 ≤ i7_0) && Decidable.decide (i7_0 ≤ (↑s0_0.length : Int)) then (bif Decidable.decide (cs0_0.length + (1 : Nat) ≤ Go.Vx.memMax) then (some (Sum.inr ((Go.IntKind.i64.wrap (i7_0 + (1 : Int))), (cs0_0 ++ [List.drop from6_0.toNat (List.take i7_0.toNat s0_0)])))) else none) else none) else (some (Sum.inr ((from6_0), (cs0_0)))))

theorem y2w (n : Nat) (hn : big ≤ n)  (r0 : List UInt8 → Int → Int → Int → List (List UInt8) → Option (List (List UInt8) × Unit)) (s0_0 : List UInt8) (c1_0 : Int) (from6_0 : Int) (i7_0 : Int) (cs0_0 : List (List UInt8)) (j3 : Bool) : LeF (elim some fun (s__ : (Int × List (List UInt8))) => r0 s0_0 c1_0 s__.1 (Go.IntKind.i64.wrap (i7_0 + 1)) s__.2) (y94 s0_0 c1_0 from6_0 i7_0 cs0_0 j3) (y9Z n r0 s0_0 c1_0 from6_0 i7_0 cs0_0 j3) :=
  (y5 (y5 (y5 (y7 rfl) yL) yL) (y7 rfl))

noncomputable def y4Y (s0_0 : List UInt8) (c1_0 : Int) (i7_0 : Int) (from6_0 : Int) (cs0_0 : List (List UInt8)) : Option ((List (List UInt8) × Unit) ⊕ (Int × List (List UInt8))) :=
  (bif i7_0 == (↑s0_0.length : Int) then (y94 s0_0 c1_0 from6_0 i7_0 cs0_0 (Bool.true)) else (Option.bind (Go.Vx.idx s0_0 i7_0) fun (v1 : UInt8) => (y94 s0_0 c1_0 from6_0 i7_0 cs0_0 ((↑v1.toNat : Int) == c1_0))))

noncomputable def yBQ (s0_0 : List UInt8) (c1_0 : Int) (from6_0 : Int) (cs0_0 : List (List UInt8)) : Option (List (List UInt8) × Unit) :=
  (some ((cs0_0, ())))

theorem yD8 (n : Nat) (hn : big ≤ n)  (s0_0 : List UInt8) (c1_0 : Int) (from6_0 : Int) (cs0_0 : List (List UInt8)) (hx : ((↑s0_0.length : Int)) ≤ (9223372036854775806 : Int)) : LeF some (y1R (fun i__ s__ => y4Y s0_0 c1_0 i__ s__.1 s__.2) (fun s__ => yBQ s0_0 c1_0 s__.1 s__.2) (((↑s0_0.length : Int)) + 1 - 0).toNat 0 (from6_0, cs0_0)) (y6i n n s0_0 c1_0 from6_0 0 cs0_0) := by
  refine yIL (f := some) (W := fun k__ i__ s__ => y6i n k__ s0_0 c1_0 s__.1 i__ s__.2) (body := (fun i__ s__ => y4Y s0_0 c1_0 i__ s__.1 s__.2)) (fin := (fun s__ => yBQ s0_0 c1_0 s__.1 s__.2)) (fun k__ i__ s__ => ?_) hx (from6_0, cs0_0) n 0 (by decide) (by unfold big at hn; omega)
  show LeF _ _ (yDt n (y6i n k__) s0_0 c1_0 s__.1 i__ s__.2)
  exact y5 (y5 (by apply y2w n hn) (y6 fun v1 => (by apply y2w n hn))) (y0R (y7 rfl))

noncomputable def yGC (s : List UInt8) (c : Int) : Option (List (List UInt8) × Unit) :=
  (bif decide (((↑s.length : Int)) ≤ (9223372036854775806 : Int)) then y1R (fun i__ s__ => y4Y (s) (c) i__ s__.1 s__.2) (fun s__ => yBQ (s) (c) s__.1 s__.2) (((↑s.length : Int)) + 1 - 0).toNat 0 (((0 : Int)), ([])) else none)

theorem yM2 (s : List UInt8) (c : Int) (y : List (List UInt8) × Unit) (h : yGC s c = some y) : ∃ n, yIq n s c = some y :=
  ⟨big, LeF.top (show LeF some (yGC s c) (yIq big s c) from (fun (n : Nat) (hn : big ≤ n) => show LeF some (yGC s c) (yIq n s c) from (yV fun hx => by apply yD8 n hn; exact hx)) big (Nat.le_refl _)) h⟩
noncomputable def z0Y_e : Entry := { f := 84, args := yM9, rS := yPB, m := fun x => yGC x.1 x.2.1 }
theorem yKx : FnOK Tryz.prog z0Y_e := y2Y (g := yN5) (fn := Tryz.f84) y0q y2M eNil (by kernel_rfl) (by kernel_rfl) (by kernel_rfl) (fun x y h => let ⟨n, hn⟩ := yM2 x.1 x.2.1 y h; ⟨yKc n, iNil, (yNh n x).trans hn⟩)

/-! ### tidewayref01.HasInt -/
abbrev yLy : Ty := .pair t26 (.pair t3 .unit)
abbrev yP3 : Ty := .pair t4 .unit
noncomputable def yOJ : G := { T := T, E := [], mU := [], fz := [] }
def yPa : List (List Nat) := [[0, 1, 5]]
noncomputable def yKu (n : Nat) : Ann := { keep := yPa, fuel := n, inl := [], deep := 0 }
noncomputable def yEd (n : Nat) (r0 : List Int → Int → Int → Option (Bool × Unit)) (l0_0 : List Int) (n1_0 : Int) (i5_0 : Int) : Option (Bool × Unit) :=
  (bif Decidable.decide (i5_0 < (↑l0_0.length : Int)) then (Option.bind (Go.Vx.idx l0_0 i5_0) fun (v1 : Int) => (bif v1 == n1_0 then Option.some (Bool.true, ()) else r0 l0_0 n1_0 (Go.IntKind.i64.wrap (i5_0 + (1 : Int))))) else Option.some (Bool.false, ()))

noncomputable def y72 (n : Nat)  (k : Nat) (l0_0 : List Int) (n1_0 : Int) (i5_0 : Int) : Option (Bool × Unit) :=
  iter (fun r y => yEd n (fun l0_0 n1_0 i5_0 => r ((l0_0, (n1_0, (i5_0, ()))), ((), ()))) y.1.1 y.1.2.1 y.1.2.2.1) k ((l0_0, (n1_0, (i5_0, ()))), ((), ()))

noncomputable def yIv (n : Nat) (l : List Int) (np : Int) : Option (Bool × Unit) :=
  (y72 n n (l) (np) ((0 : Int)))

theorem yP5 (n : Nat) (x : yLy.den) : runF yOJ (yKu n) Tryz.f85 yLy yP3 x = yIv n x.1 x.2.1 := by kernel_rfl

noncomputable def y6C (l0_0 : List Int) (n1_0 : Int) (i5_0 : Int) (v1 : Int) : Option ((Bool × Unit) ⊕ Unit) :=
  (bif v1 == n1_0 then (some (Sum.inl ((Bool.true, ())))) else (some (Sum.inr ())))

noncomputable def yDU (l0_0 : List Int) (n1_0 : Int) : Option (Bool × Unit) :=
  (some ((Bool.false, ())))

theorem yCT (n : Nat) (hn : big ≤ n)  (l0_0 : List Int) (n1_0 : Int) (hx : List.length (l0_0) < lenMax) : LeF some (yK (fun i__ e__ s__ => y6C l0_0 n1_0 i__ e__) (fun s__ => yDU l0_0 n1_0) 0 (l0_0) ()) (y72 n n l0_0 n1_0 0) := by
  refine yT (f := some) (W := fun k__ i__ s__ => y72 n k__ l0_0 n1_0 i__) (body := (fun i__ e__ s__ => y6C l0_0 n1_0 i__ e__)) (fin := (fun s__ => yDU l0_0 n1_0)) (fun k__ i__ s__ => ?_) hx () n (by unfold big at hn; unfold lenMax at hx; omega)
  show LeF _ _ (yEd n (y72 n k__) l0_0 n1_0 i__)
  exact y5 (y6 fun v1 => (y5 (y7 rfl) (y7 rfl))) (y0R (y7 rfl))

noncomputable def yFg (l : List Int) (np : Int) : Option (Bool × Unit) :=
  (bif decide (List.length (l) < lenMax) then yK (fun i__ e__ s__ => y6C (l) (np) i__ e__) (fun s__ => yDU (l) (np)) 0 (l) () else none)

theorem yMU (l : List Int) (np : Int) (y : Bool × Unit) (h : yFg l np = some y) : ∃ n, yIv n l np = some y :=
  ⟨big, LeF.top (show LeF some (yFg l np) (yIv big l np) from (fun (n : Nat) (hn : big ≤ n) => show LeF some (yFg l np) (yIv n l np) from (yV fun hx => by apply yCT n hn; exact hx)) big (Nat.le_refl _)) h⟩
noncomputable def z0F_e : Entry := { f := 85, args := yLy, rS := yP3, m := fun x => yFg x.1 x.2.1 }
theorem yNx : FnOK Tryz.prog z0F_e := y2Y (g := yOJ) (fn := Tryz.f85) y0q y2M eNil (by kernel_rfl) (by kernel_rfl) (by kernel_rfl) (fun x y h => let ⟨n, hn⟩ := yMU x.1 x.2.1 y h; ⟨yKu n, iNil, (yP5 n x).trans hn⟩)

/-! ### tidewayref01.Text -/
abbrev yCi : Ty := .pair t3 .unit
abbrev yFf : Ty := .pair t9 .unit
class ref01_Text_Rec where
  f : yCi.den → Option yFf.den
section
variable [ref01_Text_Rec]
noncomputable def y9l : Entry := { f := 135, args := yCi, rS := yFf, m := fun x => ref01_Text_Rec.f x }
noncomputable def yOt : G := { T := T, E := [y9l], mU := [], fz := [] }
def yQC : List (List Nat) := []
noncomputable def yL9 (n : Nat) : Ann := { keep := yQC, fuel := n, inl := [], deep := 0 }
noncomputable def yLH (n : Nat) (np : Int) : Option (List UInt8 × Unit) :=
  (bif Decidable.decide (np > (9 : Int)) then (Option.bind (Go.Tw.ref01_Text_Rec.f (Go.IntKind.i64.wrap (np.tdiv (10 : Int)), ())) fun (v0 : List UInt8 × Unit) => (Option.bind (Go.Tw.ref01_Text_Rec.f (np.tmod (10 : Int), ())) fun (v1 : List UInt8 × Unit) => (bif Decidable.decide (v0.fst.length + v1.fst.length < Go.Vx.strMax) then Option.some (v0.fst ++ v1.fst, ()) else none))) else (bif Decidable.decide (np < (-9 : Int)) then (Option.bind (Go.Tw.ref01_Text_Rec.f (Go.IntKind.i64.wrap (np.tdiv (10 : Int)), ())) fun (v2 : List UInt8 × Unit) => (Option.bind (Go.Tw.ref01_Text_Rec.f (Go.IntKind.i64.wrap ((0 : Int) - np.tmod (10 : Int)), ())) fun (v3 : List UInt8 × Unit) => (bif Decidable.decide (v2.fst.length + v3.fst.length < Go.Vx.strMax) then Option.some (v2.fst ++ v3.fst, ()) else none))) else (bif Decidable.decide (np < (0 : Int)) then (Option.bind (Go.Tw.ref01_Text_Rec.f (Go.IntKind.i64.wrap ((0 : Int) - np), ())) fun (v4 : List UInt8 × Unit) => (bif Decidable.decide ((1 : Nat) + v4.fst.length < Go.Vx.strMax) then Option.some ([(45 : UInt8)] ++ v4.fst, ()) else none)) else Option.some (Go.Vx.y0O [Go.IntKind.u8.wrap (Go.IntKind.i64.wrap ((48 : Int) + np))], ()))))

theorem yON (n : Nat) (x : yCi.den) : runF yOt (yL9 n) Tryz.f135 yCi yFf x = yLH n x.1 := by kernel_rfl

noncomputable def yOy (np : Int) : Option (List UInt8 × Unit) := yLH 0 np

theorem yMG (np : Int) (y : List UInt8 × Unit) (h : yOy np = some y) : ∃ n, yLH n np = some y := ⟨0, h⟩
end
/-- The recursion, d deep. -/
noncomputable def y2P (d : Nat) : yCi.den → Option yFf.den := Nat.rec (motive := fun _ => yCi.den → Option yFf.den) (fun _ => none) (fun _ ih x => @yOy ⟨ih⟩ x.1) d
noncomputable def y3D (d : Nat) : Entry := { f := 135, args := yCi, rS := yFf, m := y2P d }
theorem y4X : (d : Nat) → FnOK Tryz.prog (y3D d)
  | 0 => FnOK.none (fn := Tryz.f135) (by kernel_rfl) (by kernel_rfl) (by kernel_rfl)
  | d + 1 => y2Y (g := @yOt ⟨y2P d⟩) (fn := Tryz.f135) (e := y3D (d + 1)) y0q y2M (yC (y4X d) eNil) (by kernel_rfl) (by kernel_rfl) (by kernel_rfl) (fun x y h => let ⟨n, hn⟩ := @yMG ⟨y2P d⟩ x.1 y h; ⟨yL9 n, iNil, (@yON ⟨y2P d⟩ n x).trans hn⟩)
noncomputable def z0j_e : Entry := y3D 24
theorem yN4 : FnOK Tryz.prog z0j_e := y4X 24

/-! ### internal/stringslite.HasSuffix -/
abbrev zE_a : Ty := .pair t9 (.pair t9 .unit)
abbrev zE_r : Ty := .pair t4 .unit
noncomputable def zE_g : G := { T := T, E := [], mU := [], fz := [] }
def zE_k : List (List Nat) := []
noncomputable def yN8 (n : Nat) : Ann := { keep := zE_k, fuel := n, inl := [], deep := 0 }
noncomputable def zE_m (n : Nat) (s : List UInt8) (suffix : List UInt8) : Option (Bool × Unit) :=
  (bif Decidable.decide ((↑s.length : Int) ≥ (↑suffix.length : Int)) then (bif Decidable.decide ((0 : Int) ≤ Go.IntKind.i64.wrap ((↑s.length : Int) - (↑suffix.length : Int))) && Decidable.decide (Go.IntKind.i64.wrap ((↑s.length : Int) - (↑suffix.length : Int)) ≤ (↑s.length : Int)) then Option.some (List.drop (Go.IntKind.i64.wrap ((↑s.length : Int) - (↑suffix.length : Int))).toNat s == suffix, ()) else none) else Option.some (Bool.false, ()))

theorem yPr (n : Nat) (x : zE_a.den) : runF zE_g (yN8 n) Tryz.f192 zE_a zE_r x = zE_m n x.1 x.2.1 := by kernel_rfl

noncomputable def zE_M (s : List UInt8) (suffix : List UInt8) : Option (Bool × Unit) := zE_m 0 s suffix

theorem yPA (s : List UInt8) (suffix : List UInt8) (y : Bool × Unit) (h : zE_M s suffix = some y) : ∃ n, zE_m n s suffix = some y := ⟨0, h⟩
noncomputable def zE_e : Entry := { f := 192, args := zE_a, rS := zE_r, m := fun x => zE_M x.1 x.2.1 }
theorem yPi : FnOK Tryz.prog zE_e := y2Y (g := zE_g) (fn := Tryz.f192) y0q y2M eNil (by kernel_rfl) (by kernel_rfl) (by kernel_rfl) (fun x y h => let ⟨n, hn⟩ := yPA x.1 x.2.1 y h; ⟨yN8 n, iNil, (yPr n x).trans hn⟩)

/-! ### tidewayref01.Number -/
abbrev yMt : Ty := .pair t9 .unit
abbrev yP8 : Ty := .pair t3 (.pair t4 .unit)
noncomputable def yO4 : G := { T := T, E := [], mU := [], fz := [] }
def yPv : List (List Nat) := [[0, 4, 5]]
noncomputable def yL3 (n : Nat) : Ann := { keep := yPv, fuel := n, inl := [], deep := 0 }
noncomputable def yE0 (n : Nat) (r8 : List UInt8 → Int → Int → Option (Int × Bool × Unit)) (s0_8 : List UInt8) (n4_8 : Int) (i5_8 : Int) : Option (Int × Bool × Unit) :=
  (bif Decidable.decide (i5_8 < (↑s0_8.length : Int)) then (Option.bind (Go.Vx.idx s0_8 i5_8) fun (v9 : UInt8) => (bif Decidable.decide ((↑v9.toNat : Int) < (48 : Int)) then Option.some ((0 : Int), Bool.false, ()) else (Option.bind (Go.Vx.idx s0_8 i5_8) fun (v10 : UInt8) => (bif Decidable.decide ((↑v10.toNat : Int) > (57 : Int)) then Option.some ((0 : Int), Bool.false, ()) else (Option.bind (Go.Vx.idx s0_8 i5_8) fun (v13 : UInt8) => r8 s0_8 (Go.IntKind.i64.wrap (Go.IntKind.i64.wrap ((10 : Int) * n4_8) + Go.IntKind.i64.wrap (Go.IntKind.u8.wrap ((↑v13.toNat : Int) - (48 : Int))))) (Go.IntKind.i64.wrap (i5_8 + (1 : Int)))))))) else Option.some (n4_8, Bool.true, ()))

noncomputable def y6g (n : Nat)  (k : Nat) (s0_8 : List UInt8) (n4_8 : Int) (i5_8 : Int) : Option (Int × Bool × Unit) :=
  iter (fun r y => yE0 n (fun s0_8 n4_8 i5_8 => r ((s0_8, (n4_8, (i5_8, ()))), ((), ()))) y.1.1 y.1.2.1 y.1.2.2.1) k ((s0_8, (n4_8, (i5_8, ()))), ((), ()))

noncomputable def y8G (n : Nat) (s : List UInt8) : Option (Int × Bool × Unit) :=
  (y6g n n (s) ((0 : Int)) ((0 : Int)))

noncomputable def yK9 (n : Nat) (s : List UInt8) : Option (Int × Bool × Unit) :=
  (bif (↑s.length : Int) == (0 : Int) then Option.some ((0 : Int), Bool.false, ()) else (bif Decidable.decide ((↑s.length : Int) > (9 : Int)) then Option.some ((0 : Int), Bool.false, ()) else (bif Decidable.decide ((↑s.length : Int) > (1 : Int)) then (Option.bind (Go.Vx.idx s (0 : Int)) fun (v0 : UInt8) => (bif (↑v0.toNat : Int) == (48 : Int) then Option.some ((0 : Int), Bool.false, ()) else (y8G n s))) else (y8G n s))))

theorem yNr (n : Nat) (x : yMt.den) : runF yO4 (yL3 n) Tryz.f198 yMt yP8 x = yK9 n x.1 := by kernel_rfl

noncomputable def yIX (s0_8 : List UInt8) (i5_8 : Int) (v9 : UInt8) (n4_8 : Int) : Option ((Int × Bool × Unit) ⊕ (Int)) :=
  (bif Decidable.decide ((↑v9.toNat : Int) < (48 : Int)) then (some (Sum.inl (((0 : Int), Bool.false, ())))) else (Option.bind (Go.Vx.idx s0_8 i5_8) fun (v10 : UInt8) => (bif Decidable.decide ((↑v10.toNat : Int) > (57 : Int)) then (some (Sum.inl (((0 : Int), Bool.false, ())))) else (Option.bind (Go.Vx.idx s0_8 i5_8) fun (v13 : UInt8) => (some (Sum.inr (Go.IntKind.i64.wrap (Go.IntKind.i64.wrap ((10 : Int) * n4_8) + Go.IntKind.i64.wrap (Go.IntKind.u8.wrap ((↑v13.toNat : Int) - (48 : Int)))))))))))

noncomputable def yHt (s0_8 : List UInt8) (n4_8 : Int) : Option (Int × Bool × Unit) :=
  (some ((n4_8, Bool.true, ())))

theorem yD1 (n : Nat) (hn : big ≤ n)  (s0_8 : List UInt8) (n4_8 : Int) (hx : List.length (s0_8) < lenMax) : LeF some (yK (fun i__ e__ s__ => yIX s0_8 i__ e__ s__) (fun s__ => yHt s0_8 s__) 0 (s0_8) n4_8) (y6g n n s0_8 n4_8 0) := by
  refine yT (f := some) (W := fun k__ i__ s__ => y6g n k__ s0_8 s__ i__) (body := (fun i__ e__ s__ => yIX s0_8 i__ e__ s__)) (fin := (fun s__ => yHt s0_8 s__)) (fun k__ i__ s__ => ?_) hx n4_8 n (by unfold big at hn; unfold lenMax at hx; omega)
  show LeF _ _ (yE0 n (y6g n k__) s0_8 s__ i__)
  exact y5 (y6 fun v9 => (y5 (y7 rfl) (y6 fun v10 => (y5 (y7 rfl) (y6 fun v13 => (y7 rfl)))))) (y0R (y7 rfl))

noncomputable def yDF (s : List UInt8) : Option (Int × Bool × Unit) :=
  (bif decide (List.length (s) < lenMax) then yK (fun i__ e__ s__ => yIX (s) i__ e__ s__) (fun s__ => yHt (s) s__) 0 (s) ((0 : Int)) else none)

theorem y2I (n : Nat) (hn : big ≤ n)  (s : List UInt8) : LeF some (yDF s) (y8G n s) :=
  (yV fun hx => by apply yD1 n hn; exact hx)

noncomputable def yJn (s : List UInt8) : Option (Int × Bool × Unit) :=
  (bif (↑s.length : Int) == (0 : Int) then (some (((0 : Int), Bool.false, ()))) else (bif Decidable.decide ((↑s.length : Int) > (9 : Int)) then (some (((0 : Int), Bool.false, ()))) else (bif Decidable.decide ((↑s.length : Int) > (1 : Int)) then (Option.bind (Go.Vx.idx s (0 : Int)) fun (v0 : UInt8) => (bif (↑v0.toNat : Int) == (48 : Int) then (some (((0 : Int), Bool.false, ()))) else (yDF s))) else (yDF s))))

theorem yMW (s : List UInt8) (y : Int × Bool × Unit) (h : yJn s = some y) : ∃ n, yK9 n s = some y :=
  ⟨big, LeF.top (show LeF some (yJn s) (yK9 big s) from (fun (n : Nat) (hn : big ≤ n) => show LeF some (yJn s) (yK9 n s) from (y5 (y7 rfl) (y5 (y7 rfl) (y5 (y6 fun v0 => (y5 (y7 rfl) (by apply y2I n hn))) (by apply y2I n hn))))) big (Nat.le_refl _)) h⟩
noncomputable def z0H_e : Entry := { f := 198, args := yMt, rS := yP8, m := fun x => yJn x.1 }
theorem yOf : FnOK Tryz.prog z0H_e := y2Y (g := yO4) (fn := Tryz.f198) y0q y2M eNil (by kernel_rfl) (by kernel_rfl) (by kernel_rfl) (fun x y h => let ⟨n, hn⟩ := yMW x.1 y h; ⟨yL3 n, iNil, (yNr n x).trans hn⟩)

end Go.Tw
end

section
set_option linter.all false
set_option maxRecDepth 1000000
namespace Go.Tw
open Go.Vx Go.Vx.B Go.Proofs
/-! ### tidewayref04.Print -/
abbrev yLM : Ty := .pair t25 .unit
abbrev yOo : Ty := .pair t9 .unit
noncomputable def yNR : G := { T := T, E := [z0j_e], mU := [], fz := [] }
def yQP : List (List Nat) := [[1, 3, 4], [1, 3, 6]]
noncomputable def yL0 (n : Nat) : Ann := { keep := yQP, fuel := n, inl := [], deep := 0 }
noncomputable def yEs (n : Nat) (r4 : Bas → List UInt8 → Int → Option (List UInt8 × Unit)) (b1_4 : Bas) (s3_4 : List UInt8) (i6_4 : Int) : Option (List UInt8 × Unit) :=
  (bif Decidable.decide (i6_4 < (↑b1_4.snd.fst.length : Int)) then (Option.bind (Go.Vx.idx b1_4.snd.fst i6_4) fun (v5 : Lnk) => (bif Decidable.decide (s3_4.length + v5.fst.length < Go.Vx.strMax) then (bif Decidable.decide ((s3_4 ++ v5.fst).length + (1 : Nat) < Go.Vx.strMax) then (Option.bind (Go.Tw.y2P (24 : Nat) (v5.snd.fst, ())) fun (v6 : List UInt8 × Unit) => (bif Decidable.decide ((s3_4 ++ v5.fst ++ [(32 : UInt8)]).length + v6.fst.length < Go.Vx.strMax) then (bif Decidable.decide ((s3_4 ++ v5.fst ++ [(32 : UInt8)] ++ v6.fst).length + (1 : Nat) < Go.Vx.strMax) then (Option.bind (Go.Tw.y2P (24 : Nat) (v5.snd.snd.fst, ())) fun (v7 : List UInt8 × Unit) => (bif Decidable.decide ((s3_4 ++ v5.fst ++ [(32 : UInt8)] ++ v6.fst ++ [(32 : UInt8)]).length + v7.fst.length < Go.Vx.strMax) then (bif Decidable.decide ((s3_4 ++ v5.fst ++ [(32 : UInt8)] ++ v6.fst ++ [(32 : UInt8)] ++ v7.fst).length + (1 : Nat) < Go.Vx.strMax) then (Option.bind (Go.Tw.y2P (24 : Nat) (v5.snd.snd.snd.fst, ())) fun (v8 : List UInt8 × Unit) => (bif Decidable.decide ((s3_4 ++ v5.fst ++ [(32 : UInt8)] ++ v6.fst ++ [(32 : UInt8)] ++ v7.fst ++ [(32 : UInt8)]).length + v8.fst.length < Go.Vx.strMax) then (bif Decidable.decide ((s3_4 ++ v5.fst ++ [(32 : UInt8)] ++ v6.fst ++ [(32 : UInt8)] ++ v7.fst ++ [(32 : UInt8)] ++ v8.fst).length + (1 : Nat) < Go.Vx.strMax) then (Option.bind (Go.Tw.y2P (24 : Nat) (v5.snd.snd.snd.snd.fst, ())) fun (v9 : List UInt8 × Unit) => (bif Decidable.decide ((s3_4 ++ v5.fst ++ [(32 : UInt8)] ++ v6.fst ++ [(32 : UInt8)] ++ v7.fst ++ [(32 : UInt8)] ++ v8.fst ++ [(32 : UInt8)]).length + v9.fst.length < Go.Vx.strMax) then (bif Decidable.decide ((s3_4 ++ v5.fst ++ [(32 : UInt8)] ++ v6.fst ++ [(32 : UInt8)] ++ v7.fst ++ [(32 : UInt8)] ++ v8.fst ++ [(32 : UInt8)] ++ v9.fst).length + (1 : Nat) < Go.Vx.strMax) then r4 b1_4 (s3_4 ++ v5.fst ++ [(32 : UInt8)] ++ v6.fst ++ [(32 : UInt8)] ++ v7.fst ++ [(32 : UInt8)] ++ v8.fst ++ [(32 : UInt8)] ++ v9.fst ++ [(10 : UInt8)]) (Go.IntKind.i64.wrap (i6_4 + (1 : Int))) else none) else none)) else none) else none)) else none) else none)) else none) else none)) else none) else none)) else Option.some (s3_4, ()))

noncomputable def y6u (n : Nat)  (k : Nat) (b1_4 : Bas) (s3_4 : List UInt8) (i6_4 : Int) : Option (List UInt8 × Unit) :=
  iter (fun r y => yEs n (fun b1_4 s3_4 i6_4 => r ((b1_4, (s3_4, (i6_4, ()))), ((), ()))) y.1.1 y.1.2.1 y.1.2.2.1) k ((b1_4, (s3_4, (i6_4, ()))), ((), ()))

noncomputable def yEa (n : Nat) (r0 : Bas → List UInt8 → Int → Option (List UInt8 × Unit)) (b1_0 : Bas) (s3_0 : List UInt8) (i4_0 : Int) : Option (List UInt8 × Unit) :=
  (bif Decidable.decide (i4_0 < (↑b1_0.fst.length : Int)) then (Option.bind (Go.Vx.idx b1_0.fst i4_0) fun (v1 : Nod) => (bif Decidable.decide (s3_0.length + (5 : Nat) < Go.Vx.strMax) then (bif Decidable.decide ((s3_0 ++ [(110 : UInt8), (111 : UInt8), (100 : UInt8), (101 : UInt8), (32 : UInt8)]).length + v1.fst.length < Go.Vx.strMax) then (bif Decidable.decide ((s3_0 ++ [(110 : UInt8), (111 : UInt8), (100 : UInt8), (101 : UInt8), (32 : UInt8)] ++ v1.fst).length + (1 : Nat) < Go.Vx.strMax) then (Option.bind (Go.Tw.y2P (24 : Nat) (v1.snd.fst, ())) fun (v2 : List UInt8 × Unit) => (bif Decidable.decide ((s3_0 ++ [(110 : UInt8), (111 : UInt8), (100 : UInt8), (101 : UInt8), (32 : UInt8)] ++ v1.fst ++ [(32 : UInt8)]).length + v2.fst.length < Go.Vx.strMax) then (bif Decidable.decide ((s3_0 ++ [(110 : UInt8), (111 : UInt8), (100 : UInt8), (101 : UInt8), (32 : UInt8)] ++ v1.fst ++ [(32 : UInt8)] ++ v2.fst).length + (1 : Nat) < Go.Vx.strMax) then (Option.bind (Go.Tw.y2P (24 : Nat) (v1.snd.snd.fst, ())) fun (v3 : List UInt8 × Unit) => (bif Decidable.decide ((s3_0 ++ [(110 : UInt8), (111 : UInt8), (100 : UInt8), (101 : UInt8), (32 : UInt8)] ++ v1.fst ++ [(32 : UInt8)] ++ v2.fst ++ [(32 : UInt8)]).length + v3.fst.length < Go.Vx.strMax) then (bif Decidable.decide ((s3_0 ++ [(110 : UInt8), (111 : UInt8), (100 : UInt8), (101 : UInt8), (32 : UInt8)] ++ v1.fst ++ [(32 : UInt8)] ++ v2.fst ++ [(32 : UInt8)] ++ v3.fst).length + (1 : Nat) < Go.Vx.strMax) then r0 b1_0 (s3_0 ++ [(110 : UInt8), (111 : UInt8), (100 : UInt8), (101 : UInt8), (32 : UInt8)] ++ v1.fst ++ [(32 : UInt8)] ++ v2.fst ++ [(32 : UInt8)] ++ v3.fst ++ [(10 : UInt8)]) (Go.IntKind.i64.wrap (i4_0 + (1 : Int))) else none) else none)) else none) else none)) else none) else none) else none)) else (y6u n n (b1_0) (s3_0) ((0 : Int))))

noncomputable def y6q (n : Nat)  (k : Nat) (b1_0 : Bas) (s3_0 : List UInt8) (i4_0 : Int) : Option (List UInt8 × Unit) :=
  iter (fun r y => yEa n (fun b1_0 s3_0 i4_0 => r ((b1_0, (s3_0, (i4_0, ()))), ((), ()))) y.1.1 y.1.2.1 y.1.2.2.1) k ((b1_0, (s3_0, (i4_0, ()))), ((), ()))

noncomputable def yJl (n : Nat) (b : Bas) : Option (List UInt8 × Unit) :=
  (y6q n n (b) ([]) ((0 : Int)))

theorem yOm (n : Nat) (x : yLM.den) : runF yNR (yL0 n) Tryz.f80 yLM yOo x = yJl n x.1 := by kernel_rfl

noncomputable def yHY (b1_4 : Bas) (i6_4 : Int) (v5 : Lnk) (s3_4 : List UInt8) : Option ((List UInt8 × Unit) ⊕ (List UInt8)) :=
  (bif Decidable.decide (s3_4.length + v5.fst.length < Go.Vx.strMax) then (bif Decidable.decide ((s3_4 ++ v5.fst).length + (1 : Nat) < Go.Vx.strMax) then (Option.bind (Go.Tw.y2P (24 : Nat) (v5.snd.fst, ())) fun (v6 : List UInt8 × Unit) => (bif Decidable.decide ((s3_4 ++ v5.fst ++ [(32 : UInt8)]).length + v6.fst.length < Go.Vx.strMax) then (bif Decidable.decide ((s3_4 ++ v5.fst ++ [(32 : UInt8)] ++ v6.fst).length + (1 : Nat) < Go.Vx.strMax) then (Option.bind (Go.Tw.y2P (24 : Nat) (v5.snd.snd.fst, ())) fun (v7 : List UInt8 × Unit) => (bif Decidable.decide ((s3_4 ++ v5.fst ++ [(32 : UInt8)] ++ v6.fst ++ [(32 : UInt8)]).length + v7.fst.length < Go.Vx.strMax) then (bif Decidable.decide ((s3_4 ++ v5.fst ++ [(32 : UInt8)] ++ v6.fst ++ [(32 : UInt8)] ++ v7.fst).length + (1 : Nat) < Go.Vx.strMax) then (Option.bind (Go.Tw.y2P (24 : Nat) (v5.snd.snd.snd.fst, ())) fun (v8 : List UInt8 × Unit) => (bif Decidable.decide ((s3_4 ++ v5.fst ++ [(32 : UInt8)] ++ v6.fst ++ [(32 : UInt8)] ++ v7.fst ++ [(32 : UInt8)]).length + v8.fst.length < Go.Vx.strMax) then (bif Decidable.decide ((s3_4 ++ v5.fst ++ [(32 : UInt8)] ++ v6.fst ++ [(32 : UInt8)] ++ v7.fst ++ [(32 : UInt8)] ++ v8.fst).length + (1 : Nat) < Go.Vx.strMax) then (Option.bind (Go.Tw.y2P (24 : Nat) (v5.snd.snd.snd.snd.fst, ())) fun (v9 : List UInt8 × Unit) => (bif Decidable.decide ((s3_4 ++ v5.fst ++ [(32 : UInt8)] ++ v6.fst ++ [(32 : UInt8)] ++ v7.fst ++ [(32 : UInt8)] ++ v8.fst ++ [(32 : UInt8)]).length + v9.fst.length < Go.Vx.strMax) then (bif Decidable.decide ((s3_4 ++ v5.fst ++ [(32 : UInt8)] ++ v6.fst ++ [(32 : UInt8)] ++ v7.fst ++ [(32 : UInt8)] ++ v8.fst ++ [(32 : UInt8)] ++ v9.fst).length + (1 : Nat) < Go.Vx.strMax) then (some (Sum.inr (s3_4 ++ v5.fst ++ [(32 : UInt8)] ++ v6.fst ++ [(32 : UInt8)] ++ v7.fst ++ [(32 : UInt8)] ++ v8.fst ++ [(32 : UInt8)] ++ v9.fst ++ [(10 : UInt8)]))) else none) else none)) else none) else none)) else none) else none)) else none) else none)) else none) else none)

noncomputable def yHJ (b1_4 : Bas) (s3_4 : List UInt8) : Option (List UInt8 × Unit) :=
  (some ((s3_4, ())))

theorem yDE (n : Nat) (hn : big ≤ n)  (b1_4 : Bas) (s3_4 : List UInt8) (hx : List.length (b1_4.snd.fst) < lenMax) : LeF some (yK (fun i__ e__ s__ => yHY b1_4 i__ e__ s__) (fun s__ => yHJ b1_4 s__) 0 (b1_4.snd.fst) s3_4) (y6u n n b1_4 s3_4 0) := by
  refine yT (f := some) (W := fun k__ i__ s__ => y6u n k__ b1_4 s__ i__) (body := (fun i__ e__ s__ => yHY b1_4 i__ e__ s__)) (fin := (fun s__ => yHJ b1_4 s__)) (fun k__ i__ s__ => ?_) hx s3_4 n (by unfold big at hn; unfold lenMax at hx; omega)
  show LeF _ _ (yEs n (y6u n k__) b1_4 s__ i__)
  exact y5 (y6 fun v5 => (y5 (y5 (y6 fun v6 => (y5 (y5 (y6 fun v7 => (y5 (y5 (y6 fun v8 => (y5 (y5 (y6 fun v9 => (y5 (y5 (y7 rfl) yL) yL)) yL) yL)) yL) yL)) yL) yL)) yL) yL)) (y0R (y7 rfl))

noncomputable def yHo (b1_0 : Bas) (i4_0 : Int) (v1 : Nod) (s3_0 : List UInt8) : Option ((List UInt8 × Unit) ⊕ (List UInt8)) :=
  (bif Decidable.decide (s3_0.length + (5 : Nat) < Go.Vx.strMax) then (bif Decidable.decide ((s3_0 ++ [(110 : UInt8), (111 : UInt8), (100 : UInt8), (101 : UInt8), (32 : UInt8)]).length + v1.fst.length < Go.Vx.strMax) then (bif Decidable.decide ((s3_0 ++ [(110 : UInt8), (111 : UInt8), (100 : UInt8), (101 : UInt8), (32 : UInt8)] ++ v1.fst).length + (1 : Nat) < Go.Vx.strMax) then (Option.bind (Go.Tw.y2P (24 : Nat) (v1.snd.fst, ())) fun (v2 : List UInt8 × Unit) => (bif Decidable.decide ((s3_0 ++ [(110 : UInt8), (111 : UInt8), (100 : UInt8), (101 : UInt8), (32 : UInt8)] ++ v1.fst ++ [(32 : UInt8)]).length + v2.fst.length < Go.Vx.strMax) then (bif Decidable.decide ((s3_0 ++ [(110 : UInt8), (111 : UInt8), (100 : UInt8), (101 : UInt8), (32 : UInt8)] ++ v1.fst ++ [(32 : UInt8)] ++ v2.fst).length + (1 : Nat) < Go.Vx.strMax) then (Option.bind (Go.Tw.y2P (24 : Nat) (v1.snd.snd.fst, ())) fun (v3 : List UInt8 × Unit) => (bif Decidable.decide ((s3_0 ++ [(110 : UInt8), (111 : UInt8), (100 : UInt8), (101 : UInt8), (32 : UInt8)] ++ v1.fst ++ [(32 : UInt8)] ++ v2.fst ++ [(32 : UInt8)]).length + v3.fst.length < Go.Vx.strMax) then (bif Decidable.decide ((s3_0 ++ [(110 : UInt8), (111 : UInt8), (100 : UInt8), (101 : UInt8), (32 : UInt8)] ++ v1.fst ++ [(32 : UInt8)] ++ v2.fst ++ [(32 : UInt8)] ++ v3.fst).length + (1 : Nat) < Go.Vx.strMax) then (some (Sum.inr (s3_0 ++ [(110 : UInt8), (111 : UInt8), (100 : UInt8), (101 : UInt8), (32 : UInt8)] ++ v1.fst ++ [(32 : UInt8)] ++ v2.fst ++ [(32 : UInt8)] ++ v3.fst ++ [(10 : UInt8)]))) else none) else none)) else none) else none)) else none) else none) else none)

noncomputable def yGk (b1_0 : Bas) (s3_0 : List UInt8) : Option (List UInt8 × Unit) :=
  (bif decide (List.length (b1_0.snd.fst) < lenMax) then yK (fun i__ e__ s__ => yHY (b1_0) i__ e__ s__) (fun s__ => yHJ (b1_0) s__) 0 (b1_0.snd.fst) (s3_0) else none)

theorem yCg (n : Nat) (hn : big ≤ n)  (b1_0 : Bas) (s3_0 : List UInt8) (hx : List.length (b1_0.fst) < lenMax) : LeF some (yK (fun i__ e__ s__ => yHo b1_0 i__ e__ s__) (fun s__ => yGk b1_0 s__) 0 (b1_0.fst) s3_0) (y6q n n b1_0 s3_0 0) := by
  refine yT (f := some) (W := fun k__ i__ s__ => y6q n k__ b1_0 s__ i__) (body := (fun i__ e__ s__ => yHo b1_0 i__ e__ s__)) (fin := (fun s__ => yGk b1_0 s__)) (fun k__ i__ s__ => ?_) hx s3_0 n (by unfold big at hn; unfold lenMax at hx; omega)
  show LeF _ _ (yEa n (y6q n k__) b1_0 s__ i__)
  exact y5 (y6 fun v1 => (y5 (y5 (y5 (y6 fun v2 => (y5 (y5 (y6 fun v3 => (y5 (y5 (y7 rfl) yL) yL)) yL) yL)) yL) yL) yL)) (y0R (yV fun hx => by apply yDE n hn; exact hx))

noncomputable def yJL (b : Bas) : Option (List UInt8 × Unit) :=
  (bif decide (List.length (b.fst) < lenMax) then yK (fun i__ e__ s__ => yHo (b) i__ e__ s__) (fun s__ => yGk (b) s__) 0 (b.fst) ([]) else none)

theorem yLZ (b : Bas) (y : List UInt8 × Unit) (h : yJL b = some y) : ∃ n, yJl n b = some y :=
  ⟨big, LeF.top (show LeF some (yJL b) (yJl big b) from (fun (n : Nat) (hn : big ≤ n) => show LeF some (yJL b) (yJl n b) from (yV fun hx => by apply yCg n hn; exact hx)) big (Nat.le_refl _)) h⟩
noncomputable def z0b_e : Entry := { f := 80, args := yLM, rS := yOo, m := fun x => yJL x.1 }
theorem yP7 : FnOK Tryz.prog z0b_e := y2Y (g := yNR) (fn := Tryz.f80) y0q y2M (yC yN4 eNil) (by kernel_rfl) (by kernel_rfl) (by kernel_rfl) (fun x y h => let ⟨n, hn⟩ := yLZ x.1 y h; ⟨yL0 n, iNil, (yOm n x).trans hn⟩)

/-! ### internal/stringslite.CutSuffix -/
abbrev zD_a : Ty := .pair t9 (.pair t9 .unit)
abbrev zD_r : Ty := .pair t9 (.pair t4 .unit)
noncomputable def zD_g : G := { T := T, E := [zE_e], mU := [], fz := [] }
def zD_k : List (List Nat) := []
noncomputable def yPG (n : Nat) : Ann := { keep := zD_k, fuel := n, inl := [], deep := 0 }
noncomputable def zD_m (n : Nat) (s : List UInt8) (suffix : List UInt8) : Option (List UInt8 × Bool × Unit) :=
  (Option.bind (Go.Tw.zE_M s suffix) fun (v0 : Bool × Unit) => (bif !v0.fst then Option.some (s, Bool.false, ()) else (bif Decidable.decide ((0 : Int) ≤ Go.IntKind.i64.wrap ((↑s.length : Int) - (↑suffix.length : Int))) && Decidable.decide (Go.IntKind.i64.wrap ((↑s.length : Int) - (↑suffix.length : Int)) ≤ (↑s.length : Int)) then Option.some (List.take (Go.IntKind.i64.wrap ((↑s.length : Int) - (↑suffix.length : Int))).toNat s, Bool.true, ()) else none)))

theorem yQ9 (n : Nat) (x : zD_a.den) : runF zD_g (yPG n) Tryz.f174 zD_a zD_r x = zD_m n x.1 x.2.1 := by kernel_rfl

noncomputable def zD_M (s : List UInt8) (suffix : List UInt8) : Option (List UInt8 × Bool × Unit) := zD_m 0 s suffix

theorem yO8 (s : List UInt8) (suffix : List UInt8) (y : List UInt8 × Bool × Unit) (h : zD_M s suffix = some y) : ∃ n, zD_m n s suffix = some y := ⟨0, h⟩
noncomputable def zD_e : Entry := { f := 174, args := zD_a, rS := zD_r, m := fun x => zD_M x.1 x.2.1 }
theorem yQL : FnOK Tryz.prog zD_e := y2Y (g := zD_g) (fn := Tryz.f174) y0q y2M (yC yPi eNil) (by kernel_rfl) (by kernel_rfl) (by kernel_rfl) (fun x y h => let ⟨n, hn⟩ := yO8 x.1 x.2.1 y h; ⟨yPG n, iNil, (yQ9 n x).trans hn⟩)

/-! ### tidewayref01.Signed -/
abbrev yLo : Ty := .pair t9 .unit
abbrev yOB : Ty := .pair t3 (.pair t4 .unit)
noncomputable def yPO : G := { T := T, E := [z0H_e], mU := [], fz := [] }
def yQH : List (List Nat) := []
noncomputable def yKf (n : Nat) : Ann := { keep := yQH, fuel := n, inl := [], deep := 0 }
noncomputable def yDw (n : Nat) (s : List UInt8) (j2 : Bool) : Option (Int × Bool × Unit) :=
  (bif j2 then (bif Decidable.decide ((0 : Int) ≤ (1 : Int)) && Decidable.decide ((1 : Int) ≤ (↑s.length : Int)) then (Option.bind (Go.Tw.yJn (List.drop (Int.toNat (1 : Int)) s)) fun (v3 : Int × Bool × Unit) => (bif v3.snd.fst then Option.some (Go.IntKind.i64.wrap ((0 : Int) - v3.fst), Decidable.decide (v3.fst > (0 : Int)), ()) else Option.some (Go.IntKind.i64.wrap ((0 : Int) - v3.fst), Bool.false, ()))) else none) else (Option.bind (Go.Tw.yJn s) fun (v8 : Int × Bool × Unit) => Option.some (v8.fst, v8.snd.fst, ())))

noncomputable def yLv (n : Nat) (s : List UInt8) : Option (Int × Bool × Unit) :=
  (bif Decidable.decide ((↑s.length : Int) > (1 : Int)) then (Option.bind (Go.Vx.idx s (0 : Int)) fun (v0 : UInt8) => (yDw n s ((↑v0.toNat : Int) == (45 : Int)))) else (yDw n s (Bool.false)))

theorem yOx (n : Nat) (x : yLo.den) : runF yPO (yKf n) Tryz.f177 yLo yOB x = yLv n x.1 := by kernel_rfl

noncomputable def yPS (s : List UInt8) : Option (Int × Bool × Unit) := yLv 0 s

theorem yLc (s : List UInt8) (y : Int × Bool × Unit) (h : yPS s = some y) : ∃ n, yLv n s = some y := ⟨0, h⟩
noncomputable def z0I_e : Entry := { f := 177, args := yLo, rS := yOB, m := fun x => yPS x.1 }
theorem yOh : FnOK Tryz.prog z0I_e := y2Y (g := yPO) (fn := Tryz.f177) y0q y2M (yC yOf eNil) (by kernel_rfl) (by kernel_rfl) (by kernel_rfl) (fun x y h => let ⟨n, hn⟩ := yLc x.1 y h; ⟨yKf n, iNil, (yOx n x).trans hn⟩)

end Go.Tw
end

section
set_option linter.all false
set_option maxRecDepth 1000000
namespace Go.Tw
open Go.Vx Go.Vx.B Go.Proofs
/-! ### strings.CutSuffix -/
abbrev zg_a : Ty := .pair t9 (.pair t9 .unit)
abbrev zg_r : Ty := .pair t9 (.pair t4 .unit)
noncomputable def zg_g : G := { T := T, E := [zD_e], mU := [], fz := [] }
def zg_k : List (List Nat) := []
noncomputable def yPM (n : Nat) : Ann := { keep := zg_k, fuel := n, inl := [], deep := 0 }
noncomputable def zg_m (n : Nat) (s : List UInt8) (suffix : List UInt8) : Option (List UInt8 × Bool × Unit) :=
  (Option.bind (Go.Tw.zD_M s suffix) fun (v0 : List UInt8 × Bool × Unit) => Option.some (v0.fst, v0.snd.fst, ()))

theorem yPd (n : Nat) (x : zg_a.den) : runF zg_g (yPM n) Tryz.f132 zg_a zg_r x = zg_m n x.1 x.2.1 := by kernel_rfl

noncomputable def zg_M (s : List UInt8) (suffix : List UInt8) : Option (List UInt8 × Bool × Unit) := zg_m 0 s suffix

theorem yNK (s : List UInt8) (suffix : List UInt8) (y : List UInt8 × Bool × Unit) (h : zg_M s suffix = some y) : ∃ n, zg_m n s suffix = some y := ⟨0, h⟩
noncomputable def zg_e : Entry := { f := 132, args := zg_a, rS := zg_r, m := fun x => zg_M x.1 x.2.1 }
theorem yQc : FnOK Tryz.prog zg_e := y2Y (g := zg_g) (fn := Tryz.f132) y0q y2M (yC yQL eNil) (by kernel_rfl) (by kernel_rfl) (by kernel_rfl) (fun x y h => let ⟨n, hn⟩ := yNK x.1 x.2.1 y h; ⟨yPM n, iNil, (yPd n x).trans hn⟩)

/-! ### tidewayref04.integers -/
abbrev yLY : Ty := .pair t67 .unit
abbrev yNt : Ty := .pair t26 (.pair t4 .unit)
noncomputable def yNZ : G := { T := T, E := [z0I_e], mU := [4], fz := [] }
def yQN : List (List Nat) := [[0, 4, 5]]
noncomputable def yKe (n : Nat) : Ann := { keep := yQN, fuel := n, inl := [], deep := 0 }
noncomputable def yEt (n : Nat) (r0 : List (List UInt8) → Int → List Int → Option (List Int × Bool × Unit)) (w0_0 : List (List UInt8)) (i5_0 : Int) (c0_0 : List Int) : Option (List Int × Bool × Unit) :=
  (bif Decidable.decide (i5_0 < (↑w0_0.length : Int)) then (Option.bind (Go.Vx.idx w0_0 i5_0) fun (v1 : List UInt8) => (Option.bind (Go.Tw.yPS v1) fun (v2 : Int × Bool × Unit) => (bif !v2.snd.fst then Option.some ([], Bool.false, ()) else (bif Decidable.decide (c0_0.length + (1 : Nat) ≤ Go.Vx.memMax) then r0 w0_0 (Go.IntKind.i64.wrap (i5_0 + (1 : Int))) (c0_0 ++ [v2.fst]) else none)))) else Option.some (c0_0, Bool.true, ()))

noncomputable def y6b (n : Nat)  (k : Nat) (w0_0 : List (List UInt8)) (i5_0 : Int) (c0_0 : List Int) : Option (List Int × Bool × Unit) :=
  iter (fun r y => yEt n (fun w0_0 i5_0 c0_0 => r ((w0_0, (i5_0, ())), ((c0_0, ()), ()))) y.1.1 y.1.2.1 y.2.1.1) k ((w0_0, (i5_0, ())), ((c0_0, ()), ()))

noncomputable def yJ0 (n : Nat) (w : List (List UInt8)) : Option (List Int × Bool × Unit) :=
  (y6b n n (w) ((0 : Int)) ([]))

theorem yNs (n : Nat) (x : yLY.den) : runF yNZ (yKe n) Tryz.f136 yLY yNt x = yJ0 n x.1 := by kernel_rfl

noncomputable def yH7 (w0_0 : List (List UInt8)) (i5_0 : Int) (v1 : List UInt8) (c0_0 : List Int) : Option ((List Int × Bool × Unit) ⊕ (List Int)) :=
  (Option.bind (Go.Tw.yPS v1) fun (v2 : Int × Bool × Unit) => (bif !v2.snd.fst then (some (Sum.inl (([], Bool.false, ())))) else (bif Decidable.decide (c0_0.length + (1 : Nat) ≤ Go.Vx.memMax) then (some (Sum.inr (c0_0 ++ [v2.fst]))) else none)))

noncomputable def yIR (w0_0 : List (List UInt8)) (c0_0 : List Int) : Option (List Int × Bool × Unit) :=
  (some ((c0_0, Bool.true, ())))

theorem yCy (n : Nat) (hn : big ≤ n)  (w0_0 : List (List UInt8)) (c0_0 : List Int) (hx : List.length (w0_0) < lenMax) : LeF some (yK (fun i__ e__ s__ => yH7 w0_0 i__ e__ s__) (fun s__ => yIR w0_0 s__) 0 (w0_0) c0_0) (y6b n n w0_0 0 c0_0) := by
  refine yT (f := some) (W := fun k__ i__ s__ => y6b n k__ w0_0 i__ s__) (body := (fun i__ e__ s__ => yH7 w0_0 i__ e__ s__)) (fin := (fun s__ => yIR w0_0 s__)) (fun k__ i__ s__ => ?_) hx c0_0 n (by unfold big at hn; unfold lenMax at hx; omega)
  show LeF _ _ (yEt n (y6b n k__) w0_0 i__ s__)
  exact y5 (y6 fun v1 => (y6 fun v2 => (y5 (y7 rfl) (y5 (y7 rfl) yL)))) (y0R (y7 rfl))

noncomputable def yKJ (w : List (List UInt8)) : Option (List Int × Bool × Unit) :=
  (bif decide (List.length (w) < lenMax) then yK (fun i__ e__ s__ => yH7 (w) i__ e__ s__) (fun s__ => yIR (w) s__) 0 (w) ([]) else none)

theorem yLS (w : List (List UInt8)) (y : List Int × Bool × Unit) (h : yKJ w = some y) : ∃ n, yJ0 n w = some y :=
  ⟨big, LeF.top (show LeF some (yKJ w) (yJ0 big w) from (fun (n : Nat) (hn : big ≤ n) => show LeF some (yKJ w) (yJ0 n w) from (yV fun hx => by apply yCy n hn; exact hx)) big (Nat.le_refl _)) h⟩
noncomputable def z01_e : Entry := { f := 136, args := yLY, rS := yNt, m := fun x => yKJ x.1 }
theorem yNf : FnOK Tryz.prog z01_e := y2Y (g := yNZ) (fn := Tryz.f136) y0q y2M (yC yOh eNil) (by kernel_rfl) (by kernel_rfl) (by kernel_rfl) (fun x y h => let ⟨n, hn⟩ := yLS x.1 y h; ⟨yKe n, iNil, (yNs n x).trans hn⟩)

end Go.Tw
end

section
set_option linter.all false
set_option maxRecDepth 1000000
namespace Go.Tw
open Go.Vx Go.Vx.B Go.Proofs
/-! ### tidewayref04.Parse -/
abbrev yLP : Ty := .pair t9 .unit
abbrev yNV : Ty := .pair t25 (.pair t3 (.pair t3 .unit))
noncomputable def yN6 : G := { T := T, E := [z0Y_e, z01_e, zq_e], mU := [5], fz := [] }
def yQO : List (List Nat) := [[2, 5, 6, 7, 8]]
noncomputable def yL5 (n : Nat) : Ann := { keep := yQO, fuel := n, inl := [], deep := 0 }
noncomputable def yEl (n : Nat) (r1 : List (List UInt8) → Int → Int → List Nod → List Lnk → Option (Bas × Int × Int × Unit)) (lines6_1 : List (List UInt8)) (last7_1 : Int) (i8_1 : Int) (c2_1 : List Nod) (c3_1 : List Lnk) : Option (Bas × Int × Int × Unit) :=
  (bif Decidable.decide (i8_1 < last7_1) then (Option.bind (Go.Vx.idx lines6_1 i8_1) fun (v2 : List UInt8) => (Option.bind (Go.Tw.yGC v2 (32 : Int)) fun (v3 : List (List UInt8) × Unit) => (Option.bind (Go.Vx.idx v3.fst (0 : Int)) fun (v4 : List UInt8) => (bif v4 == [(110 : UInt8), (111 : UInt8), (100 : UInt8), (101 : UInt8)] then (bif Decidable.decide ((↑c3_1.length : Int) > (0 : Int)) then Option.some (([], [], ()), i8_1, (26 : Int), ()) else (bif (↑v3.fst.length : Int) != (4 : Int) then Option.some (([], [], ()), i8_1, (26 : Int), ()) else (Option.bind (Go.Vx.idx v3.fst (1 : Int)) fun (v5 : List UInt8) => (bif v5 == [] then Option.some (([], [], ()), i8_1, (26 : Int), ()) else (bif Decidable.decide ((0 : Int) ≤ (2 : Int)) && Decidable.decide ((2 : Int) ≤ (↑v3.fst.length : Int)) then (Option.bind (Go.Tw.yKJ (List.drop (Int.toNat (2 : Int)) v3.fst)) fun (v10 : List Int × Bool × Unit) => (bif !v10.snd.fst then Option.some (([], [], ()), i8_1, (26 : Int), ()) else (Option.bind (Go.Vx.idx v3.fst (1 : Int)) fun (v11 : List UInt8) => (Option.bind (Go.Vx.idx v10.fst (0 : Int)) fun (v12 : Int) => (Option.bind (Go.Vx.idx v10.fst (1 : Int)) fun (v13 : Int) => (bif Decidable.decide (c2_1.length + (1 : Nat) ≤ Go.Vx.memMax) then r1 lines6_1 last7_1 (Go.IntKind.i64.wrap (i8_1 + (1 : Int))) (c2_1 ++ [(v11, v12, v13, ())]) c3_1 else none)))))) else none))))) else (bif Decidable.decide ((0 : Int) ≤ (1 : Int)) && Decidable.decide ((1 : Int) ≤ (↑v3.fst.length : Int)) then (Option.bind (Go.Tw.yKJ (List.drop (Int.toNat (1 : Int)) v3.fst)) fun (v14 : List Int × Bool × Unit) => (Option.bind (Go.Vx.idx v3.fst (0 : Int)) fun (v15 : List UInt8) => (bif v15 == [] then Option.some (([], [], ()), i8_1, (26 : Int), ()) else (bif (↑v3.fst.length : Int) != (5 : Int) then Option.some (([], [], ()), i8_1, (26 : Int), ()) else (bif !v14.snd.fst then Option.some (([], [], ()), i8_1, (26 : Int), ()) else (Option.bind (Go.Vx.idx v3.fst (0 : Int)) fun (v20 : List UInt8) => (Option.bind (Go.Vx.idx v14.fst (0 : Int)) fun (v21 : Int) => (Option.bind (Go.Vx.idx v14.fst (1 : Int)) fun (v22 : Int) => (Option.bind (Go.Vx.idx v14.fst (2 : Int)) fun (v23 : Int) => (Option.bind (Go.Vx.idx v14.fst (3 : Int)) fun (v24 : Int) => (bif Decidable.decide (c3_1.length + (1 : Nat) ≤ Go.Vx.memMax) then r1 lines6_1 last7_1 (Go.IntKind.i64.wrap (i8_1 + (1 : Int))) c2_1 (c3_1 ++ [(v20, v21, v22, v23, v24, ())]) else none))))))))))) else none))))) else (Option.bind (Go.Vx.idx lines6_1 last7_1) fun (v25 : List UInt8) => (bif !v25 == [] then Option.some (([], [], ()), last7_1, (26 : Int), ()) else (Option.bind (Go.Tw.zq_M (c2_1, c3_1, ())) fun (v26 : Int × Unit) => (bif v26.fst != (0 : Int) then Option.some (([], [], ()), last7_1, v26.fst, ()) else Option.some ((c2_1, c3_1, ()), (0 : Int), (0 : Int), ()))))))

noncomputable def y6t (n : Nat)  (k : Nat) (lines6_1 : List (List UInt8)) (last7_1 : Int) (i8_1 : Int) (c2_1 : List Nod) (c3_1 : List Lnk) : Option (Bas × Int × Int × Unit) :=
  iter (fun r y => yEl n (fun lines6_1 last7_1 i8_1 c2_1 c3_1 => r ((lines6_1, (last7_1, (i8_1, ()))), (((), ((), (c2_1, (c3_1, ())))), ()))) y.1.1 y.1.2.1 y.1.2.2.1 y.2.1.2.2.1 y.2.1.2.2.2.1) k ((lines6_1, (last7_1, (i8_1, ()))), (((), ((), (c2_1, (c3_1, ())))), ()))

noncomputable def yK7 (n : Nat) (s : List UInt8) : Option (Bas × Int × Int × Unit) :=
  (bif Decidable.decide ((↑s.length : Int) > (4096 : Int)) then Option.some (([], [], ()), (0 : Int), (27 : Int), ()) else (Option.bind (Go.Tw.yGC s (10 : Int)) fun (v0 : List (List UInt8) × Unit) => (y6t n n (v0.fst) (Go.IntKind.i64.wrap ((↑v0.fst.length : Int) - (1 : Int))) ((0 : Int)) ([]) ([]))))

theorem yOH (n : Nat) (x : yLP.den) : runF yN6 (yL5 n) Tryz.f81 yLP yNV x = yK7 n x.1 := by kernel_rfl

noncomputable def yIP (lines6_1 : List (List UInt8)) (last7_1 : Int) (i8_1 : Int) (c2_1 : List Nod) (c3_1 : List Lnk) : Option ((Bas × Int × Int × Unit) ⊕ ((List Nod) × (List Lnk))) :=
  (Option.bind (Go.Vx.idx lines6_1 i8_1) fun (v2 : List UInt8) => (Option.bind (Go.Tw.yGC v2 (32 : Int)) fun (v3 : List (List UInt8) × Unit) => (Option.bind (Go.Vx.idx v3.fst (0 : Int)) fun (v4 : List UInt8) => (bif v4 == [(110 : UInt8), (111 : UInt8), (100 : UInt8), (101 : UInt8)] then (bif Decidable.decide ((↑c3_1.length : Int) > (0 : Int)) then (some (Sum.inl ((([], [], ()), i8_1, (26 : Int), ())))) else (bif (↑v3.fst.length : Int) != (4 : Int) then (some (Sum.inl ((([], [], ()), i8_1, (26 : Int), ())))) else (Option.bind (Go.Vx.idx v3.fst (1 : Int)) fun (v5 : List UInt8) => (bif v5 == [] then (some (Sum.inl ((([], [], ()), i8_1, (26 : Int), ())))) else (bif Decidable.decide ((0 : Int) ≤ (2 : Int)) && Decidable.decide ((2 : Int) ≤ (↑v3.fst.length : Int)) then (Option.bind (Go.Tw.yKJ (List.drop (Int.toNat (2 : Int)) v3.fst)) fun (v10 : List Int × Bool × Unit) => (bif !v10.snd.fst then (some (Sum.inl ((([], [], ()), i8_1, (26 : Int), ())))) else (Option.bind (Go.Vx.idx v3.fst (1 : Int)) fun (v11 : List UInt8) => (Option.bind (Go.Vx.idx v10.fst (0 : Int)) fun (v12 : Int) => (Option.bind (Go.Vx.idx v10.fst (1 : Int)) fun (v13 : Int) => (bif Decidable.decide (c2_1.length + (1 : Nat) ≤ Go.Vx.memMax) then (some (Sum.inr ((c2_1 ++ [(v11, v12, v13, ())]), (c3_1)))) else none)))))) else none))))) else (bif Decidable.decide ((0 : Int) ≤ (1 : Int)) && Decidable.decide ((1 : Int) ≤ (↑v3.fst.length : Int)) then (Option.bind (Go.Tw.yKJ (List.drop (Int.toNat (1 : Int)) v3.fst)) fun (v14 : List Int × Bool × Unit) => (Option.bind (Go.Vx.idx v3.fst (0 : Int)) fun (v15 : List UInt8) => (bif v15 == [] then (some (Sum.inl ((([], [], ()), i8_1, (26 : Int), ())))) else (bif (↑v3.fst.length : Int) != (5 : Int) then (some (Sum.inl ((([], [], ()), i8_1, (26 : Int), ())))) else (bif !v14.snd.fst then (some (Sum.inl ((([], [], ()), i8_1, (26 : Int), ())))) else (Option.bind (Go.Vx.idx v3.fst (0 : Int)) fun (v20 : List UInt8) => (Option.bind (Go.Vx.idx v14.fst (0 : Int)) fun (v21 : Int) => (Option.bind (Go.Vx.idx v14.fst (1 : Int)) fun (v22 : Int) => (Option.bind (Go.Vx.idx v14.fst (2 : Int)) fun (v23 : Int) => (Option.bind (Go.Vx.idx v14.fst (3 : Int)) fun (v24 : Int) => (bif Decidable.decide (c3_1.length + (1 : Nat) ≤ Go.Vx.memMax) then (some (Sum.inr ((c2_1), (c3_1 ++ [(v20, v21, v22, v23, v24, ())])))) else none))))))))))) else none)))))

noncomputable def yGh (lines6_1 : List (List UInt8)) (last7_1 : Int) (c2_1 : List Nod) (c3_1 : List Lnk) : Option (Bas × Int × Int × Unit) :=
  (Option.bind (Go.Vx.idx lines6_1 last7_1) fun (v25 : List UInt8) => (bif !v25 == [] then (some ((([], [], ()), last7_1, (26 : Int), ()))) else (Option.bind (Go.Tw.zq_M (c2_1, c3_1, ())) fun (v26 : Int × Unit) => (bif v26.fst != (0 : Int) then (some ((([], [], ()), last7_1, v26.fst, ()))) else (some (((c2_1, c3_1, ()), (0 : Int), (0 : Int), ())))))))

theorem yCa (n : Nat) (hn : big ≤ n)  (lines6_1 : List (List UInt8)) (last7_1 : Int) (c2_1 : List Nod) (c3_1 : List Lnk) (hx : (last7_1) ≤ (9223372036854775807 : Int)) : LeF some (y1R (fun i__ s__ => yIP lines6_1 last7_1 i__ s__.1 s__.2) (fun s__ => yGh lines6_1 last7_1 s__.1 s__.2) ((last7_1) - 0).toNat 0 (c2_1, c3_1)) (y6t n n lines6_1 last7_1 0 c2_1 c3_1) := by
  refine y4G (f := some) (W := fun k__ i__ s__ => y6t n k__ lines6_1 last7_1 i__ s__.1 s__.2) (body := (fun i__ s__ => yIP lines6_1 last7_1 i__ s__.1 s__.2)) (fin := (fun s__ => yGh lines6_1 last7_1 s__.1 s__.2)) (fun k__ i__ s__ => ?_) hx (c2_1, c3_1) n 0 (by decide) (by unfold big at hn; omega)
  show LeF _ _ (yEl n (y6t n k__) lines6_1 last7_1 i__ s__.1 s__.2)
  exact y5 (y6 fun v2 => (y6 fun v3 => (y6 fun v4 => (y5 (y5 (y7 rfl) (y5 (y7 rfl) (y6 fun v5 => (y5 (y7 rfl) (y5 (y6 fun v10 => (y5 (y7 rfl) (y6 fun v11 => (y6 fun v12 => (y6 fun v13 => (y5 (y7 rfl) yL)))))) yL))))) (y5 (y6 fun v14 => (y6 fun v15 => (y5 (y7 rfl) (y5 (y7 rfl) (y5 (y7 rfl) (y6 fun v20 => (y6 fun v21 => (y6 fun v22 => (y6 fun v23 => (y6 fun v24 => (y5 (y7 rfl) yL))))))))))) yL))))) (y0R (y6 fun v25 => (y5 (y7 rfl) (y6 fun v26 => (y5 (y7 rfl) (y7 rfl))))))

noncomputable def yJS (s : List UInt8) : Option (Bas × Int × Int × Unit) :=
  (bif Decidable.decide ((↑s.length : Int) > (4096 : Int)) then (some ((([], [], ()), (0 : Int), (27 : Int), ()))) else (Option.bind (Go.Tw.yGC s (10 : Int)) fun (v0 : List (List UInt8) × Unit) => (bif decide ((Go.IntKind.i64.wrap ((↑v0.fst.length : Int) - (1 : Int))) ≤ (9223372036854775807 : Int)) then y1R (fun i__ s__ => yIP (v0.fst) (Go.IntKind.i64.wrap ((↑v0.fst.length : Int) - (1 : Int))) i__ s__.1 s__.2) (fun s__ => yGh (v0.fst) (Go.IntKind.i64.wrap ((↑v0.fst.length : Int) - (1 : Int))) s__.1 s__.2) ((Go.IntKind.i64.wrap ((↑v0.fst.length : Int) - (1 : Int))) - 0).toNat 0 (([]), ([])) else none)))

theorem yME (s : List UInt8) (y : Bas × Int × Int × Unit) (h : yJS s = some y) : ∃ n, yK7 n s = some y :=
  ⟨big, LeF.top (show LeF some (yJS s) (yK7 big s) from (fun (n : Nat) (hn : big ≤ n) => show LeF some (yJS s) (yK7 n s) from (y5 (y7 rfl) (y6 fun v0 => (yV fun hx => by apply yCa n hn; exact hx)))) big (Nat.le_refl _)) h⟩
noncomputable def z0a_e : Entry := { f := 81, args := yLP, rS := yNV, m := fun x => yJS x.1 }
theorem yPK : FnOK Tryz.prog z0a_e := y2Y (g := yN6) (fn := Tryz.f81) y0q y2M (yC yKx (yC yNf (yC yLj eNil))) (by kernel_rfl) (by kernel_rfl) (by kernel_rfl) (fun x y h => let ⟨n, hn⟩ := yME x.1 y h; ⟨yL5 n, iNil, (yOH n x).trans hn⟩)

end Go.Tw
end
