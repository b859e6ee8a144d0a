/- Models of the program's functions, by program (gen.py), and what they compute.
Models of the program's functions, by program (gen.py), and what they compute.
Models of the program's functions, by program (gen.py), and what they compute. -/
import Derived.Test.YtlaebedgpkiodaaGreatDoorBT
import Derived.Test.YtlaebedgpkiodaaGreatDoorB0
import Derived.Test.YtlaebedgpkiodaaGreatDoorSA
import Derived.Test.YtlaebedgpkiodaaGreatDoorLZ
import Derived.Test.YtlaebedgpkiodaaGreatDoorBA
import Derived.Test.YtlaebedgpkiodaaGreatDoorBC
import Derived.Test.YtlaebedgpkiodaaGreatDoorBD

section
set_option linter.all false
set_option maxRecDepth 1000000
namespace Go.Tw
open Go.Vx Go.Vx.B Go.Proofs
/-! ### tidewayref01.Split -/
noncomputable def yBB (n : Nat) (r0 : List UInt8 -> Int -> Int -> Int -> List (List UInt8) -> Option (List (List UInt8) × Unit)) (s0_0 : List UInt8) (c1_0 : Int) (from6_0 : Int) (i7_0 : Int) (cs0_0 : List (List UInt8)) (j3 : Bool) : Option (List (List UInt8) × Unit):=
  (bif j3 then (bif Decidable.decide ((0 : Int) <= from6_0) && Decidable.decide (from6_0 <= i7_0) && Decidable.decide (i7_0 <= (↑s0_0.length : Int)) then (bif Decidable.decide (cs0_0.length + (1 : Nat) <= Go.Vx.memMax) then r0 s0_0 c1_0 (Go.IntKind.i64.wrap (i7_0 + (1 : Int))) (Go.IntKind.i64.wrap (i7_0 + (1 : Int))) (cs0_0 ++ [List.drop from6_0.toNat (List.take i7_0.toNat s0_0)]) else none) else none) else r0 s0_0 c1_0 from6_0 (Go.IntKind.i64.wrap (i7_0 + (1 : Int))) cs0_0)

noncomputable def yEa (n : Nat) (r0 : List UInt8 -> Int -> Int -> Int -> List (List UInt8) -> Option (List (List UInt8) × Unit)) (s0_0 : List UInt8) (c1_0 : Int) (from6_0 : Int) (i7_0 : Int) (cs0_0 : List (List UInt8)) : Option (List (List UInt8) × Unit):=
  (bif Decidable.decide (i7_0 <= (↑s0_0.length : Int)) then (bif i7_0 == (↑s0_0.length : Int) then (yBB n r0 s0_0 c1_0 from6_0 i7_0 cs0_0 (Bool.true)) else (Option.bind (Go.Vx.idx s0_0 i7_0) λ (v1 : UInt8) => (yBB n r0 s0_0 c1_0 from6_0 i7_0 cs0_0 ((↑v1.toNat : Int) == c1_0)))) else Option.some (cs0_0, ()))

noncomputable def y7R (n : Nat)  (k : Nat) (s0_0 : List UInt8) (c1_0 : Int) (from6_0 : Int) (i7_0 : Int) (cs0_0 : List (List UInt8)) : Option (List (List UInt8) × Unit):=
  iter (λ r y => yEa n (λ s0_0 c1_0 from6_0 i7_0 cs0_0 => r ((s0_0, (c1_0, (from6_0, (i7_0, ())))), ((cs0_0, ()), ()))) y.1.1 y.1.2.1 y.1.2.2.1 y.1.2.2.2.1 y.2.1.1) k ((s0_0, (c1_0, (from6_0, (i7_0, ())))), ((cs0_0, ()), ()))

noncomputable def yQc (n : Nat) (s : List UInt8) (c : Int) : Option (List (List UInt8) × Unit):=
  (y7R n n (s) (c) ((0 : Int)) ((0 : Int)) ([]))

noncomputable def y9O (s0_0 : List UInt8) (c1_0 : Int) (from6_0 : Int) (i7_0 : Int) (cs0_0 : List (List UInt8)) (j3 : Bool) : Option ((List (List UInt8) × Unit) ⊕ (Int × List (List UInt8))):=
  (bif j3 then (bif Decidable.decide ((0 : Int) <= from6_0) && Decidable.decide (from6_0 <= i7_0) && Decidable.decide (i7_0 <= (↑s0_0.length : Int)) then (bif Decidable.decide (cs0_0.length + (1 : Nat) <= Go.Vx.memMax) then (some (Sum.inr ((Go.IntKind.i64.wrap (i7_0 + (1 : Int))), (cs0_0 ++ [List.drop from6_0.toNat (List.take i7_0.toNat s0_0)])))) else none) else none) else (some (Sum.inr ((from6_0), (cs0_0)))))

theorem y3B (n : Nat) (hn : big <= n)  (r0 : List UInt8 -> Int -> Int -> Int -> List (List UInt8) -> Option (List (List UInt8) × Unit)) (s0_0 : List UInt8) (c1_0 : Int) (from6_0 : Int) (i7_0 : Int) (cs0_0 : List (List UInt8)) (j3 : Bool) : LeF (elim some λ (s__ : (Int × List (List UInt8))) => r0 s0_0 c1_0 s__.1 (Go.IntKind.i64.wrap (i7_0 + 1)) s__.2) (y9O s0_0 c1_0 from6_0 i7_0 cs0_0 j3) (yBB n r0 s0_0 c1_0 from6_0 i7_0 cs0_0 j3):=
  (y5 (y5 (y5 (y8 rfl) yK) yK) (y8 rfl))

noncomputable def y5q (s0_0 : List UInt8) (c1_0 : Int) (i7_0 : Int) (from6_0 : Int) (cs0_0 : List (List UInt8)) : Option ((List (List UInt8) × Unit) ⊕ (Int × List (List UInt8))):=
  (bif i7_0 == (↑s0_0.length : Int) then (y9O s0_0 c1_0 from6_0 i7_0 cs0_0 (Bool.true)) else (Option.bind (Go.Vx.idx s0_0 i7_0) λ (v1 : UInt8) => (y9O s0_0 c1_0 from6_0 i7_0 cs0_0 ((↑v1.toNat : Int) == c1_0))))

noncomputable def yFU (s0_0 : List UInt8) (c1_0 : Int) (from6_0 : Int) (cs0_0 : List (List UInt8)) : Option (List (List UInt8) × Unit):=
  (some ((cs0_0, ())))

theorem yDg (n : Nat) (hn : big <= n)  (s0_0 : List UInt8) (c1_0 : Int) (from6_0 : Int) (cs0_0 : List (List UInt8)) (hx : ((↑s0_0.length : Int)) <= (9223372036854775806 : Int)) : LeF some (y1j (λ i__ s__ => y5q s0_0 c1_0 i__ s__.1 s__.2) (λ s__ => yFU s0_0 c1_0 s__.1 s__.2) (((↑s0_0.length : Int)) + 1 - 0).toNat 0 (from6_0, cs0_0)) (y7R n n s0_0 c1_0 from6_0 0 cs0_0) := by
  refine yIc (f := some) (W := λ k__ i__ s__ => y7R n k__ s0_0 c1_0 s__.1 i__ s__.2) (λ k__ i__ s__ => ?_) hx (from6_0, cs0_0) n 0 (by decide) (by unfold big at hn; omega)
  show LeF _ _ (yEa n (y7R n k__) s0_0 c1_0 s__.1 i__ s__.2)
  exact y5 (y5 (by apply y3B n hn) (yC λ v1 => (by apply y3B n hn))) (y1A (y8 rfl))

noncomputable def yMR (s : List UInt8) (c : Int) : Option (List (List UInt8) × Unit):=
  (bif decide (((↑s.length : Int)) <= (9223372036854775806 : Int)) then y1j (λ i__ s__ => y5q (s) (c) i__ s__.1 s__.2) (λ s__ => yFU (s) (c) s__.1 s__.2) (((↑s.length : Int)) + 1 - 0).toNat 0 (((0 : Int)), ([])) else none)

noncomputable abbrev z0R_e : Entry := { f := 25, args := .pair t9 (.pair t5 .unit), rS := .pair t73 .unit, m := λ x => yMR x.1 x.2.1 }
theorem yLQ : FnOK Tryz.prog z0R_e := fB (mu := [5]) Tryz.f25 (λ n x => yQc n x.1 x.2.1) [[0, 1, 5, 6, 7]] eNil λ n hn x => (ye λ hx => by apply yDg n hn; exact hx)

/-! ### tidewayref01.Text -/
abbrev yDI : Ty := .pair t3 .unit
abbrev yFu : Ty := .pair t9 .unit
class ref01_Text_Rec where
  f : yDI.den -> Option yFu.den
section
variable [ref01_Text_Rec]
noncomputable def yAy : Entry := { f := 75, args := yDI, rS := yFu, m := λ x => ref01_Text_Rec.f x }
noncomputable def yPW : G := { T := T, E := [yAy], mU := [], fz := [] }
def yRM : List (List Nat) := []
noncomputable def yM4 (n : Nat) : Ann := { keep := yRM, fuel := n, inl := [], deep := 0 }
noncomputable def yDh (n : Nat) (np : Int) : Option (List UInt8 × Unit):=
  (bif Decidable.decide (np > (9 : Int)) then (Option.bind (Go.Tw.ref01_Text_Rec.f (Go.IntKind.i64.wrap (np.tdiv (10 : Int)), ())) λ (v0 : List UInt8 × Unit) => (Option.bind (Go.Tw.ref01_Text_Rec.f (np.tmod (10 : Int), ())) λ (v1 : List UInt8 × Unit) => (bif Decidable.decide (v0.fst.length + v1.fst.length < Go.Vx.strMax) then Option.some (v0.fst ++ v1.fst, ()) else none))) else (bif Decidable.decide (np < (-9 : Int)) then (Option.bind (Go.Tw.ref01_Text_Rec.f (Go.IntKind.i64.wrap (np.tdiv (10 : Int)), ())) λ (v2 : List UInt8 × Unit) => (Option.bind (Go.Tw.ref01_Text_Rec.f (Go.IntKind.i64.wrap ((0 : Int) - np.tmod (10 : Int)), ())) λ (v3 : List UInt8 × Unit) => (bif Decidable.decide (v2.fst.length + v3.fst.length < Go.Vx.strMax) then Option.some (v2.fst ++ v3.fst, ()) else none))) else (bif Decidable.decide (np < (0 : Int)) then (Option.bind (Go.Tw.ref01_Text_Rec.f (Go.IntKind.i64.wrap ((0 : Int) - np), ())) λ (v4 : List UInt8 × Unit) => (bif Decidable.decide ((1 : Nat) + v4.fst.length < Go.Vx.strMax) then Option.some ([(45 : UInt8)] ++ v4.fst, ()) else none)) else Option.some (Go.Vx.y0Q [Go.IntKind.u8.wrap (Go.IntKind.i64.wrap ((48 : Int) + np))], ()))))

theorem yQ5 (n : Nat) (x : yDI.den) : runF yPW (yM4 n) Tryz.f75 yDI yFu x = yDh n x.1 := by kernel_rfl

noncomputable def y9B (np : Int) : Option (List UInt8 × Unit) := yDh 0 np

theorem yNe (np : Int) (y : List UInt8 × Unit) (h : y9B np = some y) : ∃ n, yDh n np = some y := ⟨0, h⟩
end
/-- The recursion, d deep. -/
noncomputable def yO (d : Nat) : yDI.den -> Option yFu.den := Nat.rec (motive := λ _ => yDI.den -> Option yFu.den) (λ _ => none) (λ _ ih x => @y9B ⟨ih⟩ x.1) d
noncomputable def y3j (d : Nat) : Entry := { f := 75, args := yDI, rS := yFu, m := yO d }
theorem y5A : (d : Nat) -> FnOK Tryz.prog (y3j d)
  |0 => FnOK.none (fn := Tryz.f75) (by kernel_rfl) (by kernel_rfl) (by kernel_rfl)
  |d + 1 => yDt (g := @yPW ⟨yO d⟩) (fn := Tryz.f75) (e := y3j (d + 1)) y5i yBR (y7 (y5A d) eNil) (by kernel_rfl) (by kernel_rfl) (by kernel_rfl) (λ x y h => let ⟨n, hn⟩ := @yNe ⟨yO d⟩ x.1 y h; ⟨yM4 n, iNil, (@yQ5 ⟨yO d⟩ n x).trans hn⟩)
noncomputable def z0k_e : Entry := y3j 24
theorem yNl : FnOK Tryz.prog z0k_e := y5A 24

/-! ### tidewayref02.number -/
noncomputable def yBj (n : Nat) (r13 : List UInt8 -> Bool -> Int -> Int -> Option (Int × Bool × Unit)) (s0_13 : List UInt8) (minus4_13 : Bool) (n5_13 : Int) (i6_13 : Int) : Option (Int × Bool × Unit):=
  (bif Decidable.decide (i6_13 < (↑s0_13.length : Int)) then (Option.bind (Go.Vx.idx s0_13 i6_13) λ (v14 : UInt8) => (bif Decidable.decide ((↑v14.toNat : Int) < (48 : Int)) then Option.some ((0 : Int), Bool.false, ()) else (Option.bind (Go.Vx.idx s0_13 i6_13) λ (v15 : UInt8) => (bif Decidable.decide ((↑v15.toNat : Int) > (57 : Int)) then Option.some ((0 : Int), Bool.false, ()) else (Option.bind (Go.Vx.idx s0_13 i6_13) λ (v18 : UInt8) => r13 s0_13 minus4_13 (Go.IntKind.i64.wrap (Go.IntKind.i64.wrap ((10 : Int) * n5_13) + Go.IntKind.i64.wrap (Go.IntKind.u8.wrap ((↑v18.toNat : Int) - (48 : Int))))) (Go.IntKind.i64.wrap (i6_13 + (1 : Int)))))))) else (bif minus4_13 then Option.some (Go.IntKind.i64.wrap ((0 : Int) - n5_13), Decidable.decide (n5_13 > (0 : Int)), ()) else Option.some (n5_13, Bool.true, ())))

noncomputable def y63 (n : Nat)  (k : Nat) (s0_13 : List UInt8) (minus4_13 : Bool) (n5_13 : Int) (i6_13 : Int) : Option (Int × Bool × Unit):=
  iter (λ r y => yBj n (λ s0_13 minus4_13 n5_13 i6_13 => r ((s0_13, (minus4_13, (n5_13, (i6_13, ())))), ((), ()))) y.1.1 y.1.2.1 y.1.2.2.1 y.1.2.2.2.1) k ((s0_13, (minus4_13, (n5_13, (i6_13, ())))), ((), ()))

noncomputable def y86 (n : Nat) (j1 : Bool) (j4 : List UInt8) : Option (Int × Bool × Unit):=
  (y63 n n (j4) (j1) ((0 : Int)) ((0 : Int)))

noncomputable def y82 (n : Nat) (j1 : Bool) (j4 : List UInt8) : Option (Int × Bool × Unit):=
  (bif (↑j4.length : Int) == (0 : Int) then Option.some ((0 : Int), Bool.false, ()) else (bif Decidable.decide ((↑j4.length : Int) > (15 : Int)) then Option.some ((0 : Int), Bool.false, ()) else (bif Decidable.decide ((↑j4.length : Int) > (1 : Int)) then (Option.bind (Go.Vx.idx j4 (0 : Int)) λ (v5 : UInt8) => (bif (↑v5.toNat : Int) == (48 : Int) then Option.some ((0 : Int), Bool.false, ()) else (y86 n j1 j4))) else (y86 n j1 j4))))

noncomputable def y8B (n : Nat) (s : List UInt8) (j1 : Bool) : Option (Int × Bool × Unit):=
  (bif j1 then (bif Decidable.decide ((0 : Int) <= (1 : Int)) && Decidable.decide ((1 : Int) <= (↑s.length : Int)) then (y82 n j1 (List.drop (Int.toNat (1 : Int)) s)) else none) else (y82 n j1 (s)))

noncomputable def yRP (n : Nat) (s : List UInt8) : Option (Int × Bool × Unit):=
  (bif Decidable.decide ((↑s.length : Int) > (0 : Int)) then (Option.bind (Go.Vx.idx s (0 : Int)) λ (v0 : UInt8) => (y8B n s ((↑v0.toNat : Int) == (45 : Int)))) else (y8B n s (Bool.false)))

noncomputable def y3k (s0_13 : List UInt8) (minus4_13 : Bool) (i6_13 : Int) (v14 : UInt8) (n5_13 : Int) : Option ((Int × Bool × Unit) ⊕ (Int)):=
  (bif Decidable.decide ((↑v14.toNat : Int) < (48 : Int)) then (some (Sum.inl (((0 : Int), Bool.false, ())))) else (Option.bind (Go.Vx.idx s0_13 i6_13) λ (v15 : UInt8) => (bif Decidable.decide ((↑v15.toNat : Int) > (57 : Int)) then (some (Sum.inl (((0 : Int), Bool.false, ())))) else (Option.bind (Go.Vx.idx s0_13 i6_13) λ (v18 : UInt8) => (some (Sum.inr (Go.IntKind.i64.wrap (Go.IntKind.i64.wrap ((10 : Int) * n5_13) + Go.IntKind.i64.wrap (Go.IntKind.u8.wrap ((↑v18.toNat : Int) - (48 : Int)))))))))))

noncomputable def y6h (s0_13 : List UInt8) (minus4_13 : Bool) (n5_13 : Int) : Option (Int × Bool × Unit):=
  (bif minus4_13 then (some ((Go.IntKind.i64.wrap ((0 : Int) - n5_13), Decidable.decide (n5_13 > (0 : Int)), ()))) else (some ((n5_13, Bool.true, ()))))

theorem yCa (n : Nat) (hn : big <= n)  (s0_13 : List UInt8) (minus4_13 : Bool) (n5_13 : Int) (hx : List.length (s0_13) < lenMax) : LeF some (yQ (λ i__ e__ s__ => y3k s0_13 minus4_13 i__ e__ s__) (λ s__ => y6h s0_13 minus4_13 s__) 0 (s0_13) n5_13) (y63 n n s0_13 minus4_13 n5_13 0) := by
  refine yf (f := some) (W := λ k__ i__ s__ => y63 n k__ s0_13 minus4_13 s__ i__) (λ k__ i__ s__ => ?_) hx n5_13 n (by unfold big at hn; unfold lenMax at hx; omega)
  show LeF _ _ (yBj n (y63 n k__) s0_13 minus4_13 s__ i__)
  exact y5 (yC λ v14 => (y5 (y8 rfl) (yC λ v15 => (y5 (y8 rfl) (yC λ v18 => (y8 rfl)))))) (y1A (y5 (y8 rfl) (y8 rfl)))

noncomputable def y6Z (j1 : Bool) (j4 : List UInt8) : Option (Int × Bool × Unit):=
  (bif decide (List.length (j4) < lenMax) then yQ (λ i__ e__ s__ => y3k (j4) (j1) i__ e__ s__) (λ s__ => y6h (j4) (j1) s__) 0 (j4) ((0 : Int)) else none)

theorem y2W (n : Nat) (hn : big <= n)  (j1 : Bool) (j4 : List UInt8) : LeF some (y6Z j1 j4) (y86 n j1 j4):=
  (ye λ hx => by apply yCa n hn; exact hx)

noncomputable def y7u (j1 : Bool) (j4 : List UInt8) : Option (Int × Bool × Unit):=
  (bif (↑j4.length : Int) == (0 : Int) then (some (((0 : Int), Bool.false, ()))) else (bif Decidable.decide ((↑j4.length : Int) > (15 : Int)) then (some (((0 : Int), Bool.false, ()))) else (bif Decidable.decide ((↑j4.length : Int) > (1 : Int)) then (Option.bind (Go.Vx.idx j4 (0 : Int)) λ (v5 : UInt8) => (bif (↑v5.toNat : Int) == (48 : Int) then (some (((0 : Int), Bool.false, ()))) else (y6Z j1 j4))) else (y6Z j1 j4))))

theorem y2j (n : Nat) (hn : big <= n)  (j1 : Bool) (j4 : List UInt8) : LeF some (y7u j1 j4) (y82 n j1 j4):=
  (y5 (y8 rfl) (y5 (y8 rfl) (y5 (yC λ v5 => (y5 (y8 rfl) (by apply y2W n hn))) (by apply y2W n hn))))

noncomputable def y8n (s : List UInt8) (j1 : Bool) : Option (Int × Bool × Unit):=
  (bif j1 then (bif Decidable.decide ((0 : Int) <= (1 : Int)) && Decidable.decide ((1 : Int) <= (↑s.length : Int)) then (y7u j1 (List.drop (Int.toNat (1 : Int)) s)) else none) else (y7u j1 (s)))

theorem y2V (n : Nat) (hn : big <= n)  (s : List UInt8) (j1 : Bool) : LeF some (y8n s j1) (y8B n s j1):=
  (y5 (y5 (by apply y2j n hn) yK) (by apply y2j n hn))

noncomputable def yH1 (s : List UInt8) : Option (Int × Bool × Unit):=
  (bif Decidable.decide ((↑s.length : Int) > (0 : Int)) then (Option.bind (Go.Vx.idx s (0 : Int)) λ (v0 : UInt8) => (y8n s ((↑v0.toNat : Int) == (45 : Int)))) else (y8n s (Bool.false)))

noncomputable abbrev z0C_e : Entry := { f := 76, args := .pair t9 .unit, rS := .pair t3 (.pair t4 .unit), m := λ x => yH1 x.1 }
theorem yQJ : FnOK Tryz.prog z0C_e := fB Tryz.f76 (λ n x => yRP n x.1) [[0, 4, 5, 6]] eNil λ n hn x => (y5 (yC λ v0 => (by apply y2V n hn)) (by apply y2V n hn))

end Go.Tw
end

section
set_option linter.all false
set_option maxRecDepth 1000000
namespace Go.Tw
open Go.Vx Go.Vx.B Go.Proofs
/-! ### tidewayref02.Print -/
abbrev yNA : Ty := .pair t58 .unit
abbrev yQ3 : Ty := .pair t9 .unit
noncomputable def yPT : G := { T := T, E := [z0k_e], mU := [], fz := [], on := [5, 6] }
def yRC : List (List Nat) := [[1, 3, 4]]
noncomputable def yOZ (n : Nat) : Ann := { keep := yRC, fuel := n, inl := [], deep := 0 }
noncomputable def yF9 (n : Nat) (r1 : List (List UInt8 × Int × Int × Unit) × List (Int × Int × Unit) × Int × Unit -> List UInt8 -> Int -> Option (List UInt8 × Unit)) (t1_1 : List (List UInt8 × Int × Int × Unit) × List (Int × Int × Unit) × Int × Unit) (s3_1 : List UInt8) (i4_1 : Int) : Option (List UInt8 × Unit):=
  (bif Decidable.decide (i4_1 < (↑t1_1.fst.length : Int)) then (Option.bind (Go.Vx.idx t1_1.fst i4_1) λ (v2 : List UInt8 × Int × Int × Unit) => (Option.bind (Go.Vx.idx t1_1.snd.fst i4_1) λ (v3 : Int × Int × Unit) => (bif Decidable.decide (s3_1.length + (12 : Nat) < Go.Vx.strMax) then (bif Decidable.decide ((s3_1 ++ [(99 : UInt8), (111 : UInt8), (110 : UInt8), (115 : UInt8), (116 : UInt8), (105 : UInt8), (116 : UInt8), (117 : UInt8), (101 : UInt8), (110 : UInt8), (116 : UInt8), (32 : UInt8)]).length + v2.fst.length < Go.Vx.strMax) then (bif Decidable.decide ((s3_1 ++ [(99 : UInt8), (111 : UInt8), (110 : UInt8), (115 : UInt8), (116 : UInt8), (105 : UInt8), (116 : UInt8), (117 : UInt8), (101 : UInt8), (110 : UInt8), (116 : UInt8), (32 : UInt8)] ++ v2.fst).length + (1 : Nat) < Go.Vx.strMax) then (Option.bind (Go.Tw.yO (24 : Nat) (v2.snd.fst, ())) λ (v4 : List UInt8 × Unit) => (bif Decidable.decide ((s3_1 ++ [(99 : UInt8), (111 : UInt8), (110 : UInt8), (115 : UInt8), (116 : UInt8), (105 : UInt8), (116 : UInt8), (117 : UInt8), (101 : UInt8), (110 : UInt8), (116 : UInt8), (32 : UInt8)] ++ v2.fst ++ [(32 : UInt8)]).length + v4.fst.length < Go.Vx.strMax) then (bif Decidable.decide ((s3_1 ++ [(99 : UInt8), (111 : UInt8), (110 : UInt8), (115 : UInt8), (116 : UInt8), (105 : UInt8), (116 : UInt8), (117 : UInt8), (101 : UInt8), (110 : UInt8), (116 : UInt8), (32 : UInt8)] ++ v2.fst ++ [(32 : UInt8)] ++ v4.fst).length + (1 : Nat) < Go.Vx.strMax) then (Option.bind (Go.Tw.yO (24 : Nat) (v2.snd.snd.fst, ())) λ (v5 : List UInt8 × Unit) => (bif Decidable.decide ((s3_1 ++ [(99 : UInt8), (111 : UInt8), (110 : UInt8), (115 : UInt8), (116 : UInt8), (105 : UInt8), (116 : UInt8), (117 : UInt8), (101 : UInt8), (110 : UInt8), (116 : UInt8), (32 : UInt8)] ++ v2.fst ++ [(32 : UInt8)] ++ v4.fst ++ [(32 : UInt8)]).length + v5.fst.length < Go.Vx.strMax) then (bif Decidable.decide ((s3_1 ++ [(99 : UInt8), (111 : UInt8), (110 : UInt8), (115 : UInt8), (116 : UInt8), (105 : UInt8), (116 : UInt8), (117 : UInt8), (101 : UInt8), (110 : UInt8), (116 : UInt8), (32 : UInt8)] ++ v2.fst ++ [(32 : UInt8)] ++ v4.fst ++ [(32 : UInt8)] ++ v5.fst).length + (1 : Nat) < Go.Vx.strMax) then (Option.bind (Go.Tw.yO (24 : Nat) (v3.fst, ())) λ (v6 : List UInt8 × Unit) => (bif Decidable.decide ((s3_1 ++ [(99 : UInt8), (111 : UInt8), (110 : UInt8), (115 : UInt8), (116 : UInt8), (105 : UInt8), (116 : UInt8), (117 : UInt8), (101 : UInt8), (110 : UInt8), (116 : UInt8), (32 : UInt8)] ++ v2.fst ++ [(32 : UInt8)] ++ v4.fst ++ [(32 : UInt8)] ++ v5.fst ++ [(32 : UInt8)]).length + v6.fst.length < Go.Vx.strMax) then (bif Decidable.decide ((s3_1 ++ [(99 : UInt8), (111 : UInt8), (110 : UInt8), (115 : UInt8), (116 : UInt8), (105 : UInt8), (116 : UInt8), (117 : UInt8), (101 : UInt8), (110 : UInt8), (116 : UInt8), (32 : UInt8)] ++ v2.fst ++ [(32 : UInt8)] ++ v4.fst ++ [(32 : UInt8)] ++ v5.fst ++ [(32 : UInt8)] ++ v6.fst).length + (1 : Nat) < Go.Vx.strMax) then (Option.bind (Go.Tw.yO (24 : Nat) (v3.snd.fst, ())) λ (v7 : List UInt8 × Unit) => (bif Decidable.decide ((s3_1 ++ [(99 : UInt8), (111 : UInt8), (110 : UInt8), (115 : UInt8), (116 : UInt8), (105 : UInt8), (116 : UInt8), (117 : UInt8), (101 : UInt8), (110 : UInt8), (116 : UInt8), (32 : UInt8)] ++ v2.fst ++ [(32 : UInt8)] ++ v4.fst ++ [(32 : UInt8)] ++ v5.fst ++ [(32 : UInt8)] ++ v6.fst ++ [(32 : UInt8)]).length + v7.fst.length < Go.Vx.strMax) then (bif Decidable.decide ((s3_1 ++ [(99 : UInt8), (111 : UInt8), (110 : UInt8), (115 : UInt8), (116 : UInt8), (105 : UInt8), (116 : UInt8), (117 : UInt8), (101 : UInt8), (110 : UInt8), (116 : UInt8), (32 : UInt8)] ++ v2.fst ++ [(32 : UInt8)] ++ v4.fst ++ [(32 : UInt8)] ++ v5.fst ++ [(32 : UInt8)] ++ v6.fst ++ [(32 : UInt8)] ++ v7.fst).length + (1 : Nat) < Go.Vx.strMax) then r1 t1_1 (s3_1 ++ [(99 : UInt8), (111 : UInt8), (110 : UInt8), (115 : UInt8), (116 : UInt8), (105 : UInt8), (116 : UInt8), (117 : UInt8), (101 : UInt8), (110 : UInt8), (116 : UInt8), (32 : UInt8)] ++ v2.fst ++ [(32 : UInt8)] ++ v4.fst ++ [(32 : UInt8)] ++ v5.fst ++ [(32 : UInt8)] ++ v6.fst ++ [(32 : UInt8)] ++ v7.fst ++ [(10 : UInt8)]) (Go.IntKind.i64.wrap (i4_1 + (1 : Int))) else none) else none)) else none) else none)) else none) else none)) else none) else none)) else none) else none) else none))) else Option.some (s3_1, ()))

noncomputable def y7M (n : Nat)  (k : Nat) (t1_1 : List (List UInt8 × Int × Int × Unit) × List (Int × Int × Unit) × Int × Unit) (s3_1 : List UInt8) (i4_1 : Int) : Option (List UInt8 × Unit):=
  iter (λ r y => yF9 n (λ t1_1 s3_1 i4_1 => r ((t1_1, (s3_1, (i4_1, ()))), ((), ()))) y.1.1 y.1.2.1 y.1.2.2.1) k ((t1_1, (s3_1, (i4_1, ()))), ((), ()))

noncomputable def yQo (n : Nat) (t : List (List UInt8 × Int × Int × Unit) × List (Int × Int × Unit) × Int × Unit) : Option (List UInt8 × Unit):=
  (Option.bind (Go.Tw.yO (24 : Nat) (t.snd.snd.fst, ())) λ (v0 : List UInt8 × Unit) => (bif Decidable.decide ((5 : Nat) + v0.fst.length < Go.Vx.strMax) then (bif Decidable.decide (([(116 : UInt8), (105 : UInt8), (100 : UInt8), (101 : UInt8), (32 : UInt8)] ++ v0.fst).length + (1 : Nat) < Go.Vx.strMax) then (y7M n n (t) ([(116 : UInt8), (105 : UInt8), (100 : UInt8), (101 : UInt8), (32 : UInt8)] ++ v0.fst ++ [(10 : UInt8)]) ((0 : Int))) else none) else none))

theorem yO3 (n : Nat) (x : yNA.den) : runF yPT (yOZ n) Tryz.f22 yNA yQ3 x = yQo n x.1 := by kernel_rfl

noncomputable def yBo (t1_1 : List (List UInt8 × Int × Int × Unit) × List (Int × Int × Unit) × Int × Unit) (i4_1 : Int) (v2 : List UInt8 × Int × Int × Unit) (s3_1 : List UInt8) : Option ((List UInt8 × Unit) ⊕ (List UInt8)):=
  (Option.bind (Go.Vx.idx t1_1.snd.fst i4_1) λ (v3 : Int × Int × Unit) => (bif Decidable.decide (s3_1.length + (12 : Nat) < Go.Vx.strMax) then (bif Decidable.decide ((s3_1 ++ [(99 : UInt8), (111 : UInt8), (110 : UInt8), (115 : UInt8), (116 : UInt8), (105 : UInt8), (116 : UInt8), (117 : UInt8), (101 : UInt8), (110 : UInt8), (116 : UInt8), (32 : UInt8)]).length + v2.fst.length < Go.Vx.strMax) then (bif Decidable.decide ((s3_1 ++ [(99 : UInt8), (111 : UInt8), (110 : UInt8), (115 : UInt8), (116 : UInt8), (105 : UInt8), (116 : UInt8), (117 : UInt8), (101 : UInt8), (110 : UInt8), (116 : UInt8), (32 : UInt8)] ++ v2.fst).length + (1 : Nat) < Go.Vx.strMax) then (Option.bind (Go.Tw.yO (24 : Nat) (v2.snd.fst, ())) λ (v4 : List UInt8 × Unit) => (bif Decidable.decide ((s3_1 ++ [(99 : UInt8), (111 : UInt8), (110 : UInt8), (115 : UInt8), (116 : UInt8), (105 : UInt8), (116 : UInt8), (117 : UInt8), (101 : UInt8), (110 : UInt8), (116 : UInt8), (32 : UInt8)] ++ v2.fst ++ [(32 : UInt8)]).length + v4.fst.length < Go.Vx.strMax) then (bif Decidable.decide ((s3_1 ++ [(99 : UInt8), (111 : UInt8), (110 : UInt8), (115 : UInt8), (116 : UInt8), (105 : UInt8), (116 : UInt8), (117 : UInt8), (101 : UInt8), (110 : UInt8), (116 : UInt8), (32 : UInt8)] ++ v2.fst ++ [(32 : UInt8)] ++ v4.fst).length + (1 : Nat) < Go.Vx.strMax) then (Option.bind (Go.Tw.yO (24 : Nat) (v2.snd.snd.fst, ())) λ (v5 : List UInt8 × Unit) => (bif Decidable.decide ((s3_1 ++ [(99 : UInt8), (111 : UInt8), (110 : UInt8), (115 : UInt8), (116 : UInt8), (105 : UInt8), (116 : UInt8), (117 : UInt8), (101 : UInt8), (110 : UInt8), (116 : UInt8), (32 : UInt8)] ++ v2.fst ++ [(32 : UInt8)] ++ v4.fst ++ [(32 : UInt8)]).length + v5.fst.length < Go.Vx.strMax) then (bif Decidable.decide ((s3_1 ++ [(99 : UInt8), (111 : UInt8), (110 : UInt8), (115 : UInt8), (116 : UInt8), (105 : UInt8), (116 : UInt8), (117 : UInt8), (101 : UInt8), (110 : UInt8), (116 : UInt8), (32 : UInt8)] ++ v2.fst ++ [(32 : UInt8)] ++ v4.fst ++ [(32 : UInt8)] ++ v5.fst).length + (1 : Nat) < Go.Vx.strMax) then (Option.bind (Go.Tw.yO (24 : Nat) (v3.fst, ())) λ (v6 : List UInt8 × Unit) => (bif Decidable.decide ((s3_1 ++ [(99 : UInt8), (111 : UInt8), (110 : UInt8), (115 : UInt8), (116 : UInt8), (105 : UInt8), (116 : UInt8), (117 : UInt8), (101 : UInt8), (110 : UInt8), (116 : UInt8), (32 : UInt8)] ++ v2.fst ++ [(32 : UInt8)] ++ v4.fst ++ [(32 : UInt8)] ++ v5.fst ++ [(32 : UInt8)]).length + v6.fst.length < Go.Vx.strMax) then (bif Decidable.decide ((s3_1 ++ [(99 : UInt8), (111 : UInt8), (110 : UInt8), (115 : UInt8), (116 : UInt8), (105 : UInt8), (116 : UInt8), (117 : UInt8), (101 : UInt8), (110 : UInt8), (116 : UInt8), (32 : UInt8)] ++ v2.fst ++ [(32 : UInt8)] ++ v4.fst ++ [(32 : UInt8)] ++ v5.fst ++ [(32 : UInt8)] ++ v6.fst).length + (1 : Nat) < Go.Vx.strMax) then (Option.bind (Go.Tw.yO (24 : Nat) (v3.snd.fst, ())) λ (v7 : List UInt8 × Unit) => (bif Decidable.decide ((s3_1 ++ [(99 : UInt8), (111 : UInt8), (110 : UInt8), (115 : UInt8), (116 : UInt8), (105 : UInt8), (116 : UInt8), (117 : UInt8), (101 : UInt8), (110 : UInt8), (116 : UInt8), (32 : UInt8)] ++ v2.fst ++ [(32 : UInt8)] ++ v4.fst ++ [(32 : UInt8)] ++ v5.fst ++ [(32 : UInt8)] ++ v6.fst ++ [(32 : UInt8)]).length + v7.fst.length < Go.Vx.strMax) then (bif Decidable.decide ((s3_1 ++ [(99 : UInt8), (111 : UInt8), (110 : UInt8), (115 : UInt8), (116 : UInt8), (105 : UInt8), (116 : UInt8), (117 : UInt8), (101 : UInt8), (110 : UInt8), (116 : UInt8), (32 : UInt8)] ++ v2.fst ++ [(32 : UInt8)] ++ v4.fst ++ [(32 : UInt8)] ++ v5.fst ++ [(32 : UInt8)] ++ v6.fst ++ [(32 : UInt8)] ++ v7.fst).length + (1 : Nat) < Go.Vx.strMax) then (some (Sum.inr (s3_1 ++ [(99 : UInt8), (111 : UInt8), (110 : UInt8), (115 : UInt8), (116 : UInt8), (105 : UInt8), (116 : UInt8), (117 : UInt8), (101 : UInt8), (110 : UInt8), (116 : UInt8), (32 : UInt8)] ++ v2.fst ++ [(32 : UInt8)] ++ v4.fst ++ [(32 : UInt8)] ++ v5.fst ++ [(32 : UInt8)] ++ v6.fst ++ [(32 : UInt8)] ++ v7.fst ++ [(10 : UInt8)]))) else none) else none)) else none) else none)) else none) else none)) else none) else none)) else none) else none) else none))

noncomputable def yIi (t1_1 : List (List UInt8 × Int × Int × Unit) × List (Int × Int × Unit) × Int × Unit) (s3_1 : List UInt8) : Option (List UInt8 × Unit):=
  (some ((s3_1, ())))

theorem yDZ (n : Nat) (hn : big <= n)  (t1_1 : List (List UInt8 × Int × Int × Unit) × List (Int × Int × Unit) × Int × Unit) (s3_1 : List UInt8) (hx : List.length (t1_1.fst) < lenMax) : LeF some (yQ (λ i__ e__ s__ => yBo t1_1 i__ e__ s__) (λ s__ => yIi t1_1 s__) 0 (t1_1.fst) s3_1) (y7M n n t1_1 s3_1 0) := by
  refine yf (f := some) (W := λ k__ i__ s__ => y7M n k__ t1_1 s__ i__) (λ k__ i__ s__ => ?_) hx s3_1 n (by unfold big at hn; unfold lenMax at hx; omega)
  show LeF _ _ (yF9 n (y7M n k__) t1_1 s__ i__)
  exact y5 (yC λ v2 => (yC λ v3 => (y5 (y5 (y5 (yC λ v4 => (y5 (y5 (yC λ v5 => (y5 (y5 (yC λ v6 => (y5 (y5 (yC λ v7 => (y5 (y5 (y8 rfl) yK) yK)) yK) yK)) yK) yK)) yK) yK)) yK) yK) yK))) (y1A (y8 rfl))

noncomputable def yMJ (t : List (List UInt8 × Int × Int × Unit) × List (Int × Int × Unit) × Int × Unit) : Option (List UInt8 × Unit):=
  (Option.bind (Go.Tw.yO (24 : Nat) (t.snd.snd.fst, ())) λ (v0 : List UInt8 × Unit) => (bif Decidable.decide ((5 : Nat) + v0.fst.length < Go.Vx.strMax) then (bif Decidable.decide (([(116 : UInt8), (105 : UInt8), (100 : UInt8), (101 : UInt8), (32 : UInt8)] ++ v0.fst).length + (1 : Nat) < Go.Vx.strMax) then (bif decide (List.length (t.fst) < lenMax) then yQ (λ i__ e__ s__ => yBo (t) i__ e__ s__) (λ s__ => yIi (t) s__) 0 (t.fst) ([(116 : UInt8), (105 : UInt8), (100 : UInt8), (101 : UInt8), (32 : UInt8)] ++ v0.fst ++ [(10 : UInt8)]) else none) else none) else none))

noncomputable def z0T_e : Entry := { f := 22, args := yNA, rS := yQ3, m := λ x => yMJ x.1 }
theorem yPx : FnOK Tryz.prog z0T_e := yLf (g := yPT) (fn := Tryz.f22) (y7 yNl eNil) (λ _ => iNil) yO3 λ n hn x => (yC λ v0 => (y5 (y5 (ye λ hx => by apply yDZ n hn; exact hx) yK) yK))

end Go.Tw
end

section
set_option linter.all false
set_option maxRecDepth 1000000
namespace Go.Tw
open Go.Vx Go.Vx.B Go.Proofs
/-! ### tidewayref02.Parse -/
noncomputable def yBc (n : Nat) (r1 : List (List UInt8) -> Int -> Int -> Int -> List (List UInt8 × Int × Int × Unit) -> List (Int × Int × Unit) -> Option ((List (List UInt8 × Int × Int × Unit) × List (Int × Int × Unit) × Int × Unit) × Int × Int × Unit)) (r15 : List (List UInt8) -> Int -> List (List UInt8) -> Int -> Int -> Int -> List Int -> List (List UInt8 × Int × Int × Unit) -> List (Int × Int × Unit) -> Option ((List (List UInt8 × Int × Int × Unit) × List (Int × Int × Unit) × Int × Unit) × Int × Int × Unit)) (lines5_15 : List (List UInt8)) (i7_15 : Int) (w8_15 : List (List UInt8)) (k12_15 : Int) (b0_2_15 : Int) (b1_2_15 : Int) (c2_15 : List Int) (c3_15 : List (List UInt8 × Int × Int × Unit)) (c4_15 : List (Int × Int × Unit)) : Option ((List (List UInt8 × Int × Int × Unit) × List (Int × Int × Unit) × Int × Unit) × Int × Int × Unit):=
  (bif Decidable.decide (k12_15 < (4 : Int)) then (Option.bind (Go.Vx.idx w8_15 (Go.IntKind.i64.wrap (k12_15 + (2 : Int)))) λ (v16 : List UInt8) => (Option.bind (Go.Tw.yH1 v16) λ (v17 : Int × Bool × Unit) => (bif !v17.snd.fst then Option.some (([], [], (0 : Int), ()), i7_15, (26 : Int), ()) else (bif Decidable.decide ((0 : Int) <= k12_15) && Decidable.decide (k12_15 < (↑(4 : Nat) : Int)) then (Option.bind (c2_15[k12_15.toNat]?) λ (v18 : Int) => r15 lines5_15 i7_15 w8_15 (Go.IntKind.i64.wrap (k12_15 + (1 : Int))) b0_2_15 b1_2_15 (c2_15.set k12_15.toNat v17.fst) c3_15 c4_15) else none)))) else (Option.bind (Go.Vx.idx w8_15 (1 : Int)) λ (v19 : List UInt8) => (Option.bind (c2_15[Int.toNat (0 : Int)]?) λ (v20 : Int) => (Option.bind (c2_15[Int.toNat (1 : Int)]?) λ (v21 : Int) => (bif Decidable.decide (c3_15.length + (1 : Nat) <= Go.Vx.memMax) then (Option.bind (c2_15[Int.toNat (2 : Int)]?) λ (v22 : Int) => (Option.bind (c2_15[Int.toNat (3 : Int)]?) λ (v23 : Int) => (bif Decidable.decide (c4_15.length + (1 : Nat) <= Go.Vx.memMax) then r1 lines5_15 (Go.IntKind.i64.wrap (i7_15 + (1 : Int))) b0_2_15 b1_2_15 (c3_15 ++ [(v19, v20, v21, ())]) (c4_15 ++ [(v22, v23, ())]) else none))) else none)))))

noncomputable def y67 (n : Nat) (r1 : List (List UInt8) -> Int -> Int -> Int -> List (List UInt8 × Int × Int × Unit) -> List (Int × Int × Unit) -> Option ((List (List UInt8 × Int × Int × Unit) × List (Int × Int × Unit) × Int × Unit) × Int × Int × Unit)) (k : Nat) (lines5_15 : List (List UInt8)) (i7_15 : Int) (w8_15 : List (List UInt8)) (k12_15 : Int) (b0_2_15 : Int) (b1_2_15 : Int) (c2_15 : List Int) (c3_15 : List (List UInt8 × Int × Int × Unit)) (c4_15 : List (Int × Int × Unit)) : Option ((List (List UInt8 × Int × Int × Unit) × List (Int × Int × Unit) × Int × Unit) × Int × Int × Unit):=
  iter (λ r y => yBc n r1 (λ lines5_15 i7_15 w8_15 k12_15 b0_2_15 b1_2_15 c2_15 c3_15 c4_15 => r ((lines5_15, (i7_15, (w8_15, (k12_15, ())))), (((b0_2_15, ()), ((b1_2_15, ()), (c2_15, (c3_15, (c4_15, ()))))), ()))) y.1.1 y.1.2.1 y.1.2.2.1 y.1.2.2.2.1 y.2.1.1.1 y.2.1.2.1.1 y.2.1.2.2.1 y.2.1.2.2.2.1 y.2.1.2.2.2.2.1) k ((lines5_15, (i7_15, (w8_15, (k12_15, ())))), (((b0_2_15, ()), ((b1_2_15, ()), (c2_15, (c3_15, (c4_15, ()))))), ()))

noncomputable def yEX (n : Nat) (r1 : List (List UInt8) -> Int -> Int -> Int -> List (List UInt8 × Int × Int × Unit) -> List (Int × Int × Unit) -> Option ((List (List UInt8 × Int × Int × Unit) × List (Int × Int × Unit) × Int × Unit) × Int × Int × Unit)) (lines5_1 : List (List UInt8)) (i7_1 : Int) (b0_2_1 : Int) (b1_2_1 : Int) (c2_1 : List (List UInt8 × Int × Int × Unit)) (c3_1 : List (Int × Int × Unit)) : Option ((List (List UInt8 × Int × Int × Unit) × List (Int × Int × Unit) × Int × Unit) × Int × Int × Unit):=
  (bif Decidable.decide (i7_1 < Go.IntKind.i64.wrap ((↑lines5_1.length : Int) - (1 : Int))) then (Option.bind (Go.Vx.idx lines5_1 i7_1) λ (v2 : List UInt8) => (Option.bind (Go.Tw.yMR v2 (32 : Int)) λ (v3 : List (List UInt8) × Unit) => (bif i7_1 == (0 : Int) then (bif (↑v3.fst.length : Int) != (2 : Int) then Option.some (([], [], (0 : Int), ()), i7_1, (26 : Int), ()) else (Option.bind (Go.Vx.idx v3.fst (0 : Int)) λ (v4 : List UInt8) => (bif !v4 == [(116 : UInt8), (105 : UInt8), (100 : UInt8), (101 : UInt8)] then Option.some (([], [], (0 : Int), ()), i7_1, (26 : Int), ()) else (Option.bind (Go.Vx.idx v3.fst (1 : Int)) λ (v7 : List UInt8) => (Option.bind (Go.Tw.yH1 v7) λ (v8 : Int × Bool × Unit) => (bif !v8.snd.fst then Option.some (([], [], (0 : Int), ()), i7_1, (26 : Int), ()) else r1 lines5_1 (Go.IntKind.i64.wrap (i7_1 + (1 : Int))) b0_2_1 v8.fst c2_1 c3_1)))))) else (bif (↑v3.fst.length : Int) != (6 : Int) then Option.some (([], [], (0 : Int), ()), i7_1, (26 : Int), ()) else (Option.bind (Go.Vx.idx v3.fst (0 : Int)) λ (v9 : List UInt8) => (bif !v9 == [(99 : UInt8), (111 : UInt8), (110 : UInt8), (115 : UInt8), (116 : UInt8), (105 : UInt8), (116 : UInt8), (117 : UInt8), (101 : UInt8), (110 : UInt8), (116 : UInt8)] then Option.some (([], [], (0 : Int), ()), i7_1, (26 : Int), ()) else (Option.bind (Go.Vx.idx v3.fst (1 : Int)) λ (v10 : List UInt8) => (bif v10 == [] then Option.some (([], [], (0 : Int), ()), i7_1, (26 : Int), ()) else (y67 n r1 n (lines5_1) (i7_1) (v3.fst) ((0 : Int)) (b0_2_1) (b1_2_1) ([(0 : Int), (0 : Int), (0 : Int), (0 : Int)]) (c2_1) (c3_1)))))))))) else (Option.bind (Go.Vx.idx lines5_1 (Go.IntKind.i64.wrap ((↑lines5_1.length : Int) - (1 : Int)))) λ (v24 : List UInt8) => (bif !v24 == [] then Option.some (([], [], (0 : Int), ()), Go.IntKind.i64.wrap ((↑lines5_1.length : Int) - (1 : Int)), (26 : Int), ()) else (bif (↑lines5_1.length : Int) == (1 : Int) then Option.some (([], [], (0 : Int), ()), Go.IntKind.i64.wrap ((↑lines5_1.length : Int) - (1 : Int)), (26 : Int), ()) else (Option.bind (Go.Tw.zj_M (c2_1, c3_1, b1_2_1, ())) λ (v27 : Int × Unit) => (bif v27.fst != (0 : Int) then Option.some (([], [], (0 : Int), ()), Go.IntKind.i64.wrap ((↑lines5_1.length : Int) - (1 : Int)), v27.fst, ()) else Option.some ((c2_1, c3_1, b1_2_1, ()), (0 : Int), (0 : Int), ())))))))

noncomputable def y7V (n : Nat)  (k : Nat) (lines5_1 : List (List UInt8)) (i7_1 : Int) (b0_2_1 : Int) (b1_2_1 : Int) (c2_1 : List (List UInt8 × Int × Int × Unit)) (c3_1 : List (Int × Int × Unit)) : Option ((List (List UInt8 × Int × Int × Unit) × List (Int × Int × Unit) × Int × Unit) × Int × Int × Unit):=
  iter (λ r y => yEX n (λ lines5_1 i7_1 b0_2_1 b1_2_1 c2_1 c3_1 => r ((lines5_1, (i7_1, ())), (((b0_2_1, ()), ((b1_2_1, ()), (c2_1, (c3_1, ())))), ()))) y.1.1 y.1.2.1 y.2.1.1.1 y.2.1.2.1.1 y.2.1.2.2.1 y.2.1.2.2.2.1) k ((lines5_1, (i7_1, ())), (((b0_2_1, ()), ((b1_2_1, ()), (c2_1, (c3_1, ())))), ()))

noncomputable def yRV (n : Nat) (s : List UInt8) : Option ((List (List UInt8 × Int × Int × Unit) × List (Int × Int × Unit) × Int × Unit) × Int × Int × Unit):=
  (bif Decidable.decide ((↑s.length : Int) > (4096 : Int)) then Option.some (([], [], (0 : Int), ()), (0 : Int), (27 : Int), ()) else (Option.bind (Go.Tw.yMR s (10 : Int)) λ (v0 : List (List UInt8) × Unit) => (y7V n n (v0.fst) ((0 : Int)) ((0 : Int)) ((0 : Int)) ([]) ([]))))

noncomputable def y8f (lines5_15 : List (List UInt8)) (i7_15 : Int) (w8_15 : List (List UInt8)) (b0_2_15 : Int) (b1_2_15 : Int) (c3_15 : List (List UInt8 × Int × Int × Unit)) (c4_15 : List (Int × Int × Unit)) (k12_15 : Int) (c2_15 : List Int) : Option ((((List (List UInt8 × Int × Int × Unit) × List (Int × Int × Unit) × Int × Unit) × Int × Int × Unit) ⊕ (Int × (List (List UInt8 × Int × Int × Unit)) × (List (Int × Int × Unit)))) ⊕ (List Int)):=
  (Option.bind (Go.Vx.idx w8_15 (Go.IntKind.i64.wrap (k12_15 + (2 : Int)))) λ (v16 : List UInt8) => (Option.bind (Go.Tw.yH1 v16) λ (v17 : Int × Bool × Unit) => (bif !v17.snd.fst then (some (Sum.inl (Sum.inl ((([], [], (0 : Int), ()), i7_15, (26 : Int), ()))))) else (bif Decidable.decide ((0 : Int) <= k12_15) && Decidable.decide (k12_15 < (↑(4 : Nat) : Int)) then (Option.bind (c2_15[k12_15.toNat]?) λ (v18 : Int) => (some (Sum.inr (c2_15.set k12_15.toNat v17.fst)))) else none))))

noncomputable def yAa (lines5_15 : List (List UInt8)) (i7_15 : Int) (w8_15 : List (List UInt8)) (b0_2_15 : Int) (b1_2_15 : Int) (c3_15 : List (List UInt8 × Int × Int × Unit)) (c4_15 : List (Int × Int × Unit)) (c2_15 : List Int) : Option (((List (List UInt8 × Int × Int × Unit) × List (Int × Int × Unit) × Int × Unit) × Int × Int × Unit) ⊕ (Int × (List (List UInt8 × Int × Int × Unit)) × (List (Int × Int × Unit)))):=
  (Option.bind (Go.Vx.idx w8_15 (1 : Int)) λ (v19 : List UInt8) => (Option.bind (c2_15[Int.toNat (0 : Int)]?) λ (v20 : Int) => (Option.bind (c2_15[Int.toNat (1 : Int)]?) λ (v21 : Int) => (bif Decidable.decide (c3_15.length + (1 : Nat) <= Go.Vx.memMax) then (Option.bind (c2_15[Int.toNat (2 : Int)]?) λ (v22 : Int) => (Option.bind (c2_15[Int.toNat (3 : Int)]?) λ (v23 : Int) => (bif Decidable.decide (c4_15.length + (1 : Nat) <= Go.Vx.memMax) then (some (Sum.inr ((b1_2_15), (c3_15 ++ [(v19, v20, v21, ())]), (c4_15 ++ [(v22, v23, ())])))) else none))) else none))))

theorem yCs (n : Nat) (hn : big <= n)  (r1 : List (List UInt8) -> Int -> Int -> Int -> List (List UInt8 × Int × Int × Unit) -> List (Int × Int × Unit) -> Option ((List (List UInt8 × Int × Int × Unit) × List (Int × Int × Unit) × Int × Unit) × Int × Int × Unit)) (lines5_15 : List (List UInt8)) (i7_15 : Int) (w8_15 : List (List UInt8)) (b0_2_15 : Int) (b1_2_15 : Int) (c3_15 : List (List UInt8 × Int × Int × Unit)) (c4_15 : List (Int × Int × Unit)) (c2_15 : List Int) (hx : ((4 : Int)) <= (9223372036854775807 : Int)) : LeF (elim some λ (s__ : (Int × (List (List UInt8 × Int × Int × Unit)) × (List (Int × Int × Unit)))) => r1 lines5_15 (Go.IntKind.i64.wrap (i7_15 + 1)) b0_2_15 s__.1 s__.2.1 s__.2.2) (y1j (λ i__ s__ => y8f lines5_15 i7_15 w8_15 b0_2_15 b1_2_15 c3_15 c4_15 i__ s__) (λ s__ => yAa lines5_15 i7_15 w8_15 b0_2_15 b1_2_15 c3_15 c4_15 s__) (((4 : Int)) - 0).toNat 0 c2_15) (y67 n r1 n lines5_15 i7_15 w8_15 0 b0_2_15 b1_2_15 c2_15 c3_15 c4_15) := by
  refine y4g (f := (elim some λ (s__ : (Int × (List (List UInt8 × Int × Int × Unit)) × (List (Int × Int × Unit)))) => r1 lines5_15 (Go.IntKind.i64.wrap (i7_15 + 1)) b0_2_15 s__.1 s__.2.1 s__.2.2)) (W := λ k__ i__ s__ => y67 n r1 k__ lines5_15 i7_15 w8_15 i__ b0_2_15 b1_2_15 s__ c3_15 c4_15) (body := (λ i__ s__ => y8f lines5_15 i7_15 w8_15 b0_2_15 b1_2_15 c3_15 c4_15 i__ s__)) (fin := (λ s__ => yAa lines5_15 i7_15 w8_15 b0_2_15 b1_2_15 c3_15 c4_15 s__)) (λ k__ i__ s__ => ?_) hx c2_15 n 0 (by decide) (by unfold big at hn; omega)
  show LeF _ _ (yBc n r1 (y67 n r1 k__) lines5_15 i7_15 w8_15 i__ b0_2_15 b1_2_15 s__ c3_15 c4_15)
  exact y5 (yC λ v16 => (yC λ v17 => (y5 (y8 rfl) (y5 (yC λ v18 => (y8 rfl)) yK)))) (y1A (yC λ v19 => (yC λ v20 => (yC λ v21 => (y5 (yC λ v22 => (yC λ v23 => (y5 (y8 rfl) yK))) yK)))))

noncomputable def yCj (lines5_1 : List (List UInt8)) (b0_2_1 : Int) (i7_1 : Int) (b1_2_1 : Int) (c2_1 : List (List UInt8 × Int × Int × Unit)) (c3_1 : List (Int × Int × Unit)) : Option (((List (List UInt8 × Int × Int × Unit) × List (Int × Int × Unit) × Int × Unit) × Int × Int × Unit) ⊕ (Int × (List (List UInt8 × Int × Int × Unit)) × (List (Int × Int × Unit)))):=
  (Option.bind (Go.Vx.idx lines5_1 i7_1) λ (v2 : List UInt8) => (Option.bind (Go.Tw.yMR v2 (32 : Int)) λ (v3 : List (List UInt8) × Unit) => (bif i7_1 == (0 : Int) then (bif (↑v3.fst.length : Int) != (2 : Int) then (some (Sum.inl ((([], [], (0 : Int), ()), i7_1, (26 : Int), ())))) else (Option.bind (Go.Vx.idx v3.fst (0 : Int)) λ (v4 : List UInt8) => (bif !v4 == [(116 : UInt8), (105 : UInt8), (100 : UInt8), (101 : UInt8)] then (some (Sum.inl ((([], [], (0 : Int), ()), i7_1, (26 : Int), ())))) else (Option.bind (Go.Vx.idx v3.fst (1 : Int)) λ (v7 : List UInt8) => (Option.bind (Go.Tw.yH1 v7) λ (v8 : Int × Bool × Unit) => (bif !v8.snd.fst then (some (Sum.inl ((([], [], (0 : Int), ()), i7_1, (26 : Int), ())))) else (some (Sum.inr ((v8.fst), (c2_1), (c3_1)))))))))) else (bif (↑v3.fst.length : Int) != (6 : Int) then (some (Sum.inl ((([], [], (0 : Int), ()), i7_1, (26 : Int), ())))) else (Option.bind (Go.Vx.idx v3.fst (0 : Int)) λ (v9 : List UInt8) => (bif !v9 == [(99 : UInt8), (111 : UInt8), (110 : UInt8), (115 : UInt8), (116 : UInt8), (105 : UInt8), (116 : UInt8), (117 : UInt8), (101 : UInt8), (110 : UInt8), (116 : UInt8)] then (some (Sum.inl ((([], [], (0 : Int), ()), i7_1, (26 : Int), ())))) else (Option.bind (Go.Vx.idx v3.fst (1 : Int)) λ (v10 : List UInt8) => (bif v10 == [] then (some (Sum.inl ((([], [], (0 : Int), ()), i7_1, (26 : Int), ())))) else (bif decide (((4 : Int)) <= (9223372036854775807 : Int)) then y1j (λ i__ s__ => y8f (lines5_1) (i7_1) (v3.fst) (b0_2_1) (b1_2_1) (c2_1) (c3_1) i__ s__) (λ s__ => yAa (lines5_1) (i7_1) (v3.fst) (b0_2_1) (b1_2_1) (c2_1) (c3_1) s__) (((4 : Int)) - 0).toNat 0 ([(0 : Int), (0 : Int), (0 : Int), (0 : Int)]) else none)))))))))

noncomputable def yEq (lines5_1 : List (List UInt8)) (b0_2_1 : Int) (b1_2_1 : Int) (c2_1 : List (List UInt8 × Int × Int × Unit)) (c3_1 : List (Int × Int × Unit)) : Option ((List (List UInt8 × Int × Int × Unit) × List (Int × Int × Unit) × Int × Unit) × Int × Int × Unit):=
  (Option.bind (Go.Vx.idx lines5_1 (Go.IntKind.i64.wrap ((↑lines5_1.length : Int) - (1 : Int)))) λ (v24 : List UInt8) => (bif !v24 == [] then (some ((([], [], (0 : Int), ()), Go.IntKind.i64.wrap ((↑lines5_1.length : Int) - (1 : Int)), (26 : Int), ()))) else (bif (↑lines5_1.length : Int) == (1 : Int) then (some ((([], [], (0 : Int), ()), Go.IntKind.i64.wrap ((↑lines5_1.length : Int) - (1 : Int)), (26 : Int), ()))) else (Option.bind (Go.Tw.zj_M (c2_1, c3_1, b1_2_1, ())) λ (v27 : Int × Unit) => (bif v27.fst != (0 : Int) then (some ((([], [], (0 : Int), ()), Go.IntKind.i64.wrap ((↑lines5_1.length : Int) - (1 : Int)), v27.fst, ()))) else (some (((c2_1, c3_1, b1_2_1, ()), (0 : Int), (0 : Int), ()))))))))

theorem yDe (n : Nat) (hn : big <= n)  (lines5_1 : List (List UInt8)) (b0_2_1 : Int) (b1_2_1 : Int) (c2_1 : List (List UInt8 × Int × Int × Unit)) (c3_1 : List (Int × Int × Unit)) (hx : (Go.IntKind.i64.wrap ((↑lines5_1.length : Int) - (1 : Int))) <= (9223372036854775807 : Int)) : LeF some (y1j (λ i__ s__ => yCj lines5_1 b0_2_1 i__ s__.1 s__.2.1 s__.2.2) (λ s__ => yEq lines5_1 b0_2_1 s__.1 s__.2.1 s__.2.2) ((Go.IntKind.i64.wrap ((↑lines5_1.length : Int) - (1 : Int))) - 0).toNat 0 (b1_2_1, c2_1, c3_1)) (y7V n n lines5_1 0 b0_2_1 b1_2_1 c2_1 c3_1) := by
  refine y4g (f := some) (W := λ k__ i__ s__ => y7V n k__ lines5_1 i__ b0_2_1 s__.1 s__.2.1 s__.2.2) (λ k__ i__ s__ => ?_) hx (b1_2_1, c2_1, c3_1) n 0 (by decide) (by unfold big at hn; omega)
  show LeF _ _ (yEX n (y7V n k__) lines5_1 i__ b0_2_1 s__.1 s__.2.1 s__.2.2)
  exact y5 (yC λ v2 => (yC λ v3 => (y5 (y5 (y8 rfl) (yC λ v4 => (y5 (y8 rfl) (yC λ v7 => (yC λ v8 => (y5 (y8 rfl) (y8 rfl))))))) (y5 (y8 rfl) (yC λ v9 => (y5 (y8 rfl) (yC λ v10 => (y5 (y8 rfl) (ye λ hx => by apply yCs n hn; exact hx))))))))) (y1A (yC λ v24 => (y5 (y8 rfl) (y5 (y8 rfl) (yC λ v27 => (y5 (y8 rfl) (y8 rfl)))))))

noncomputable def yMg (s : List UInt8) : Option ((List (List UInt8 × Int × Int × Unit) × List (Int × Int × Unit) × Int × Unit) × Int × Int × Unit):=
  (bif Decidable.decide ((↑s.length : Int) > (4096 : Int)) then (some ((([], [], (0 : Int), ()), (0 : Int), (27 : Int), ()))) else (Option.bind (Go.Tw.yMR s (10 : Int)) λ (v0 : List (List UInt8) × Unit) => (bif decide ((Go.IntKind.i64.wrap ((↑v0.fst.length : Int) - (1 : Int))) <= (9223372036854775807 : Int)) then y1j (λ i__ s__ => yCj (v0.fst) ((0 : Int)) i__ s__.1 s__.2.1 s__.2.2) (λ s__ => yEq (v0.fst) ((0 : Int)) s__.1 s__.2.1 s__.2.2) ((Go.IntKind.i64.wrap ((↑v0.fst.length : Int) - (1 : Int))) - 0).toNat 0 (((0 : Int)), ([]), ([])) else none)))

noncomputable abbrev z0S_e : Entry := { f := 23, args := .pair t9 .unit, rS := .pair t58 (.pair t3 (.pair t3 .unit)), m := λ x => yMg x.1 }
theorem yPA : FnOK Tryz.prog z0S_e := fB (mu := [6, 11]) Tryz.f23 (λ n x => yRV n x.1) [[2, 5, 6, 7], [2, 5, 6, 7, 8, 11, 12]] (y7 yLQ (y7 yQJ (y7 yNU eNil))) λ n hn x => (y5 (y8 rfl) (yC λ v0 => (ye λ hx => by apply yDe n hn; exact hx)))

end Go.Tw
end
