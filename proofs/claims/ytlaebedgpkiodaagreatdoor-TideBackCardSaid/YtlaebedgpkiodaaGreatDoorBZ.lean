/- Models of the program's functions, by program (gen.py), and what they compute.
Models of the program's functions, by program (gen.py), and what they compute.
Models of the program's functions, by program (gen.py), and what they compute. -/
import Derived.Test.YtlaebedgpkiodaaGreatDoorBT
import Derived.Test.YtlaebedgpkiodaaGreatDoorB0
import Derived.Test.YtlaebedgpkiodaaGreatDoorSA
import Derived.Test.YtlaebedgpkiodaaGreatDoorLZ
import Derived.Test.YtlaebedgpkiodaaGreatDoorBA
import Derived.Test.YtlaebedgpkiodaaGreatDoorBC
import Derived.Test.YtlaebedgpkiodaaGreatDoorBD

section
set_option linter.all false
set_option maxRecDepth 1000000
namespace Go.Tw
open Go.Vx Go.Vx.B Go.Proofs
/-! ### tidewayref01.Split -/
noncomputable def yAN (n : Nat) (r0 : List UInt8 -> Int -> Int -> Int -> List (List UInt8) -> Option (List (List UInt8) × Unit)) (s0_0 : List UInt8) (c1_0 : Int) (from6_0 : Int) (i7_0 : Int) (cs0_0 : List (List UInt8)) (j3 : Bool) : Option (List (List UInt8) × Unit):=
  (bif j3 then (bif Decidable.decide ((0 : Int) <= from6_0) && Decidable.decide (from6_0 <= i7_0) && Decidable.decide (i7_0 <= (↑s0_0.length : Int)) then (bif Decidable.decide (cs0_0.length + (1 : Nat) <= Go.Vx.memMax) then r0 s0_0 c1_0 (Go.IntKind.i64.wrap (i7_0 + (1 : Int))) (Go.IntKind.i64.wrap (i7_0 + (1 : Int))) (cs0_0 ++ [List.drop from6_0.toNat (List.take i7_0.toNat s0_0)]) else none) else none) else r0 s0_0 c1_0 from6_0 (Go.IntKind.i64.wrap (i7_0 + (1 : Int))) cs0_0)

noncomputable def yEI (n : Nat) (r0 : List UInt8 -> Int -> Int -> Int -> List (List UInt8) -> Option (List (List UInt8) × Unit)) (s0_0 : List UInt8) (c1_0 : Int) (from6_0 : Int) (i7_0 : Int) (cs0_0 : List (List UInt8)) : Option (List (List UInt8) × Unit):=
  (bif Decidable.decide (i7_0 <= (↑s0_0.length : Int)) then (bif i7_0 == (↑s0_0.length : Int) then (yAN n r0 s0_0 c1_0 from6_0 i7_0 cs0_0 (Bool.true)) else (Option.bind (Go.Vx.idx s0_0 i7_0) λ (v1 : UInt8) => (yAN n r0 s0_0 c1_0 from6_0 i7_0 cs0_0 ((↑v1.toNat : Int) == c1_0)))) else Option.some (cs0_0, ()))

noncomputable def y7h (n : Nat)  (k : Nat) (s0_0 : List UInt8) (c1_0 : Int) (from6_0 : Int) (i7_0 : Int) (cs0_0 : List (List UInt8)) : Option (List (List UInt8) × Unit):=
  iter (λ r y => yEI n (λ s0_0 c1_0 from6_0 i7_0 cs0_0 => r ((s0_0, (c1_0, (from6_0, (i7_0, ())))), ((cs0_0, ()), ()))) y.1.1 y.1.2.1 y.1.2.2.1 y.1.2.2.2.1 y.2.1.1) k ((s0_0, (c1_0, (from6_0, (i7_0, ())))), ((cs0_0, ()), ()))

noncomputable def yQB (n : Nat) (s : List UInt8) (c : Int) : Option (List (List UInt8) × Unit):=
  (y7h n n (s) (c) ((0 : Int)) ((0 : Int)) ([]))

noncomputable def y9G (s0_0 : List UInt8) (c1_0 : Int) (from6_0 : Int) (i7_0 : Int) (cs0_0 : List (List UInt8)) (j3 : Bool) : Option ((List (List UInt8) × Unit) ⊕ (Int × List (List UInt8))):=
  (bif j3 then (bif Decidable.decide ((0 : Int) <= from6_0) && Decidable.decide (from6_0 <= i7_0) && Decidable.decide (i7_0 <= (↑s0_0.length : Int)) then (bif Decidable.decide (cs0_0.length + (1 : Nat) <= Go.Vx.memMax) then (some (Sum.inr ((Go.IntKind.i64.wrap (i7_0 + (1 : Int))), (cs0_0 ++ [List.drop from6_0.toNat (List.take i7_0.toNat s0_0)])))) else none) else none) else (some (Sum.inr ((from6_0), (cs0_0)))))

theorem y3T (n : Nat) (hn : big <= n)  (r0 : List UInt8 -> Int -> Int -> Int -> List (List UInt8) -> Option (List (List UInt8) × Unit)) (s0_0 : List UInt8) (c1_0 : Int) (from6_0 : Int) (i7_0 : Int) (cs0_0 : List (List UInt8)) (j3 : Bool) : LeF (elim some λ (s__ : (Int × List (List UInt8))) => r0 s0_0 c1_0 s__.1 (Go.IntKind.i64.wrap (i7_0 + 1)) s__.2) (y9G s0_0 c1_0 from6_0 i7_0 cs0_0 j3) (yAN n r0 s0_0 c1_0 from6_0 i7_0 cs0_0 j3):=
  (y5 (y5 (y5 (y8 rfl) yK) yK) (y8 rfl))

noncomputable def y5f (s0_0 : List UInt8) (c1_0 : Int) (i7_0 : Int) (from6_0 : Int) (cs0_0 : List (List UInt8)) : Option ((List (List UInt8) × Unit) ⊕ (Int × List (List UInt8))):=
  (bif i7_0 == (↑s0_0.length : Int) then (y9G s0_0 c1_0 from6_0 i7_0 cs0_0 (Bool.true)) else (Option.bind (Go.Vx.idx s0_0 i7_0) λ (v1 : UInt8) => (y9G s0_0 c1_0 from6_0 i7_0 cs0_0 ((↑v1.toNat : Int) == c1_0))))

noncomputable def yEp (s0_0 : List UInt8) (c1_0 : Int) (from6_0 : Int) (cs0_0 : List (List UInt8)) : Option (List (List UInt8) × Unit):=
  (some ((cs0_0, ())))

theorem yDb (n : Nat) (hn : big <= n)  (s0_0 : List UInt8) (c1_0 : Int) (from6_0 : Int) (cs0_0 : List (List UInt8)) (hx : ((↑s0_0.length : Int)) <= (9223372036854775806 : Int)) : LeF some (y2D (λ i__ s__ => y5f s0_0 c1_0 i__ s__.1 s__.2) (λ s__ => yEp s0_0 c1_0 s__.1 s__.2) (((↑s0_0.length : Int)) + 1 - 0).toNat 0 (from6_0, cs0_0)) (y7h n n s0_0 c1_0 from6_0 0 cs0_0) := by
  refine yIU (f := some) (W := λ k__ i__ s__ => y7h n k__ s0_0 c1_0 s__.1 i__ s__.2) (λ k__ i__ s__ => ?_) hx (from6_0, cs0_0) n 0 (by decide) (by unfold big at hn; omega)
  show LeF _ _ (yEI n (y7h n k__) s0_0 c1_0 s__.1 i__ s__.2)
  exact y5 (y5 (by apply y3T n hn) (yC λ v1 => (by apply y3T n hn))) (y16 (y8 rfl))

noncomputable def yMm (s : List UInt8) (c : Int) : Option (List (List UInt8) × Unit):=
  (bif decide (((↑s.length : Int)) <= (9223372036854775806 : Int)) then y2D (λ i__ s__ => y5f (s) (c) i__ s__.1 s__.2) (λ s__ => yEp (s) (c) s__.1 s__.2) (((↑s.length : Int)) + 1 - 0).toNat 0 (((0 : Int)), ([])) else none)

noncomputable abbrev z0R_e : Entry := { f := 25, args := .pair t9 (.pair t5 .unit), rS := .pair t73 .unit, m := λ x => yMm x.1 x.2.1 }
theorem yLb : FnOK Tryz.prog z0R_e := fB (mu := [5]) Tryz.f25 (λ n x => yQB n x.1 x.2.1) [[0, 1, 5, 6, 7]] eNil λ n hn x => (yd λ hx => by apply yDb n hn; exact hx)

/-! ### tidewayref01.Text -/
abbrev yE1 : Ty := .pair t3 .unit
abbrev yFX : Ty := .pair t9 .unit
class ref01_Text_Rec where
  f : yE1.den -> Option yFX.den
section
variable [ref01_Text_Rec]
noncomputable def yAq : Entry := { f := 75, args := yE1, rS := yFX, m := λ x => ref01_Text_Rec.f x }
noncomputable def yOx : G := { T := T, E := [yAq], mU := [], fz := [] }
def yRB : List (List Nat) := []
noncomputable def yLt (n : Nat) : Ann := { keep := yRB, fuel := n, inl := [], deep := 0 }
noncomputable def yMl (n : Nat) (np : Int) : Option (List UInt8 × Unit):=
  (bif Decidable.decide (np > (9 : Int)) then (Option.bind (Go.Tw.ref01_Text_Rec.f (Go.IntKind.i64.wrap (np.tdiv (10 : Int)), ())) λ (v0 : List UInt8 × Unit) => (Option.bind (Go.Tw.ref01_Text_Rec.f (np.tmod (10 : Int), ())) λ (v1 : List UInt8 × Unit) => (bif Decidable.decide (v0.fst.length + v1.fst.length < Go.Vx.strMax) then Option.some (v0.fst ++ v1.fst, ()) else none))) else (bif Decidable.decide (np < (-9 : Int)) then (Option.bind (Go.Tw.ref01_Text_Rec.f (Go.IntKind.i64.wrap (np.tdiv (10 : Int)), ())) λ (v2 : List UInt8 × Unit) => (Option.bind (Go.Tw.ref01_Text_Rec.f (Go.IntKind.i64.wrap ((0 : Int) - np.tmod (10 : Int)), ())) λ (v3 : List UInt8 × Unit) => (bif Decidable.decide (v2.fst.length + v3.fst.length < Go.Vx.strMax) then Option.some (v2.fst ++ v3.fst, ()) else none))) else (bif Decidable.decide (np < (0 : Int)) then (Option.bind (Go.Tw.ref01_Text_Rec.f (Go.IntKind.i64.wrap ((0 : Int) - np), ())) λ (v4 : List UInt8 × Unit) => (bif Decidable.decide ((1 : Nat) + v4.fst.length < Go.Vx.strMax) then Option.some ([(45 : UInt8)] ++ v4.fst, ()) else none)) else Option.some (Go.Vx.y0U [Go.IntKind.u8.wrap (Go.IntKind.i64.wrap ((48 : Int) + np))], ()))))

theorem yOS (n : Nat) (x : yE1.den) : runF yOx (yLt n) Tryz.f75 yE1 yFX x = yMl n x.1 := by kernel_rfl

noncomputable def yP0 (np : Int) : Option (List UInt8 × Unit) := yMl 0 np

theorem yMA (np : Int) (y : List UInt8 × Unit) (h : yP0 np = some y) : ∃ n, yMl n np = some y := ⟨0, h⟩
end
/-- The recursion, d deep. -/
noncomputable def y2o (d : Nat) : yE1.den -> Option yFX.den := Nat.rec (motive := λ _ => yE1.den -> Option yFX.den) (λ _ => none) (λ _ ih x => @yP0 ⟨ih⟩ x.1) d
noncomputable def y3k (d : Nat) : Entry := { f := 75, args := yE1, rS := yFX, m := y2o d }
theorem y5C : (d : Nat) -> FnOK Tryz.prog (y3k d)
  |0 => FnOK.none (fn := Tryz.f75) (by kernel_rfl) (by kernel_rfl) (by kernel_rfl)
  |d + 1 => yDe (g := @yOx ⟨y2o d⟩) (fn := Tryz.f75) (e := y3k (d + 1)) y5r yC6 (y7 (y5C d) eNil) (by kernel_rfl) (by kernel_rfl) (by kernel_rfl) (λ x y h => let ⟨n, hn⟩ := @yMA ⟨y2o d⟩ x.1 y h; ⟨yLt n, iNil, (@yOS ⟨y2o d⟩ n x).trans hn⟩)
noncomputable def z0k_e : Entry := y3k 24
theorem yNd : FnOK Tryz.prog z0k_e := y5C 24

/-! ### tidewayref02.number -/
noncomputable def yCd (n : Nat) (r13 : List UInt8 -> Bool -> Int -> Int -> Option (Int × Bool × Unit)) (s0_13 : List UInt8) (minus4_13 : Bool) (n5_13 : Int) (i6_13 : Int) : Option (Int × Bool × Unit):=
  (bif Decidable.decide (i6_13 < (↑s0_13.length : Int)) then (Option.bind (Go.Vx.idx s0_13 i6_13) λ (v14 : UInt8) => (bif Decidable.decide ((↑v14.toNat : Int) < (48 : Int)) then Option.some ((0 : Int), Bool.false, ()) else (Option.bind (Go.Vx.idx s0_13 i6_13) λ (v15 : UInt8) => (bif Decidable.decide ((↑v15.toNat : Int) > (57 : Int)) then Option.some ((0 : Int), Bool.false, ()) else (Option.bind (Go.Vx.idx s0_13 i6_13) λ (v18 : UInt8) => r13 s0_13 minus4_13 (Go.IntKind.i64.wrap (Go.IntKind.i64.wrap ((10 : Int) * n5_13) + Go.IntKind.i64.wrap (Go.IntKind.u8.wrap ((↑v18.toNat : Int) - (48 : Int))))) (Go.IntKind.i64.wrap (i6_13 + (1 : Int)))))))) else (bif minus4_13 then Option.some (Go.IntKind.i64.wrap ((0 : Int) - n5_13), Decidable.decide (n5_13 > (0 : Int)), ()) else Option.some (n5_13, Bool.true, ())))

noncomputable def y5n (n : Nat)  (k : Nat) (s0_13 : List UInt8) (minus4_13 : Bool) (n5_13 : Int) (i6_13 : Int) : Option (Int × Bool × Unit):=
  iter (λ r y => yCd n (λ s0_13 minus4_13 n5_13 i6_13 => r ((s0_13, (minus4_13, (n5_13, (i6_13, ())))), ((), ()))) y.1.1 y.1.2.1 y.1.2.2.1 y.1.2.2.2.1) k ((s0_13, (minus4_13, (n5_13, (i6_13, ())))), ((), ()))

noncomputable def y8b (n : Nat) (j1 : Bool) (j4 : List UInt8) : Option (Int × Bool × Unit):=
  (y5n n n (j4) (j1) ((0 : Int)) ((0 : Int)))

noncomputable def y8W (n : Nat) (j1 : Bool) (j4 : List UInt8) : Option (Int × Bool × Unit):=
  (bif (↑j4.length : Int) == (0 : Int) then Option.some ((0 : Int), Bool.false, ()) else (bif Decidable.decide ((↑j4.length : Int) > (15 : Int)) then Option.some ((0 : Int), Bool.false, ()) else (bif Decidable.decide ((↑j4.length : Int) > (1 : Int)) then (Option.bind (Go.Vx.idx j4 (0 : Int)) λ (v5 : UInt8) => (bif (↑v5.toNat : Int) == (48 : Int) then Option.some ((0 : Int), Bool.false, ()) else (y8b n j1 j4))) else (y8b n j1 j4))))

noncomputable def y7o (n : Nat) (s : List UInt8) (j1 : Bool) : Option (Int × Bool × Unit):=
  (bif j1 then (bif Decidable.decide ((0 : Int) <= (1 : Int)) && Decidable.decide ((1 : Int) <= (↑s.length : Int)) then (y8W n j1 (List.drop (Int.toNat (1 : Int)) s)) else none) else (y8W n j1 (s)))

noncomputable def yR6 (n : Nat) (s : List UInt8) : Option (Int × Bool × Unit):=
  (bif Decidable.decide ((↑s.length : Int) > (0 : Int)) then (Option.bind (Go.Vx.idx s (0 : Int)) λ (v0 : UInt8) => (y7o n s ((↑v0.toNat : Int) == (45 : Int)))) else (y7o n s (Bool.false)))

noncomputable def yHR (s0_13 : List UInt8) (minus4_13 : Bool) (i6_13 : Int) (v14 : UInt8) (n5_13 : Int) : Option ((Int × Bool × Unit) ⊕ (Int)):=
  (bif Decidable.decide ((↑v14.toNat : Int) < (48 : Int)) then (some (Sum.inl (((0 : Int), Bool.false, ())))) else (Option.bind (Go.Vx.idx s0_13 i6_13) λ (v15 : UInt8) => (bif Decidable.decide ((↑v15.toNat : Int) > (57 : Int)) then (some (Sum.inl (((0 : Int), Bool.false, ())))) else (Option.bind (Go.Vx.idx s0_13 i6_13) λ (v18 : UInt8) => (some (Sum.inr (Go.IntKind.i64.wrap (Go.IntKind.i64.wrap ((10 : Int) * n5_13) + Go.IntKind.i64.wrap (Go.IntKind.u8.wrap ((↑v18.toNat : Int) - (48 : Int)))))))))))

noncomputable def yIn (s0_13 : List UInt8) (minus4_13 : Bool) (n5_13 : Int) : Option (Int × Bool × Unit):=
  (bif minus4_13 then (some ((Go.IntKind.i64.wrap ((0 : Int) - n5_13), Decidable.decide (n5_13 > (0 : Int)), ()))) else (some ((n5_13, Bool.true, ()))))

theorem yC3 (n : Nat) (hn : big <= n)  (s0_13 : List UInt8) (minus4_13 : Bool) (n5_13 : Int) (hx : List.length (s0_13) < lenMax) : LeF some (yS (λ i__ e__ s__ => yHR s0_13 minus4_13 i__ e__ s__) (λ s__ => yIn s0_13 minus4_13 s__) 0 (s0_13) n5_13) (y5n n n s0_13 minus4_13 n5_13 0) := by
  refine yf (f := some) (W := λ k__ i__ s__ => y5n n k__ s0_13 minus4_13 s__ i__) (λ k__ i__ s__ => ?_) hx n5_13 n (by unfold big at hn; unfold lenMax at hx; omega)
  show LeF _ _ (yCd n (y5n n k__) s0_13 minus4_13 s__ i__)
  exact y5 (yC λ v14 => (y5 (y8 rfl) (yC λ v15 => (y5 (y8 rfl) (yC λ v18 => (y8 rfl)))))) (y16 (y5 (y8 rfl) (y8 rfl)))

noncomputable def yDw (j1 : Bool) (j4 : List UInt8) : Option (Int × Bool × Unit):=
  (bif decide (List.length (j4) < lenMax) then yS (λ i__ e__ s__ => yHR (j4) (j1) i__ e__ s__) (λ s__ => yIn (j4) (j1) s__) 0 (j4) ((0 : Int)) else none)

theorem y2a (n : Nat) (hn : big <= n)  (j1 : Bool) (j4 : List UInt8) : LeF some (yDw j1 j4) (y8b n j1 j4):=
  (yd λ hx => by apply yC3 n hn; exact hx)

noncomputable def yDz (j1 : Bool) (j4 : List UInt8) : Option (Int × Bool × Unit):=
  (bif (↑j4.length : Int) == (0 : Int) then (some (((0 : Int), Bool.false, ()))) else (bif Decidable.decide ((↑j4.length : Int) > (15 : Int)) then (some (((0 : Int), Bool.false, ()))) else (bif Decidable.decide ((↑j4.length : Int) > (1 : Int)) then (Option.bind (Go.Vx.idx j4 (0 : Int)) λ (v5 : UInt8) => (bif (↑v5.toNat : Int) == (48 : Int) then (some (((0 : Int), Bool.false, ()))) else (yDw j1 j4))) else (yDw j1 j4))))

theorem y2Z (n : Nat) (hn : big <= n)  (j1 : Bool) (j4 : List UInt8) : LeF some (yDz j1 j4) (y8W n j1 j4):=
  (y5 (y8 rfl) (y5 (y8 rfl) (y5 (yC λ v5 => (y5 (y8 rfl) (by apply y2a n hn))) (by apply y2a n hn))))

noncomputable def yD5 (s : List UInt8) (j1 : Bool) : Option (Int × Bool × Unit):=
  (bif j1 then (bif Decidable.decide ((0 : Int) <= (1 : Int)) && Decidable.decide ((1 : Int) <= (↑s.length : Int)) then (yDz j1 (List.drop (Int.toNat (1 : Int)) s)) else none) else (yDz j1 (s)))

theorem y2V (n : Nat) (hn : big <= n)  (s : List UInt8) (j1 : Bool) : LeF some (yD5 s j1) (y7o n s j1):=
  (y5 (y5 (by apply y2Z n hn) yK) (by apply y2Z n hn))

noncomputable def yQm (s : List UInt8) : Option (Int × Bool × Unit):=
  (bif Decidable.decide ((↑s.length : Int) > (0 : Int)) then (Option.bind (Go.Vx.idx s (0 : Int)) λ (v0 : UInt8) => (yD5 s ((↑v0.toNat : Int) == (45 : Int)))) else (yD5 s (Bool.false)))

noncomputable abbrev z0C_e : Entry := { f := 76, args := .pair t9 .unit, rS := .pair t3 (.pair t4 .unit), m := λ x => yQm x.1 }
theorem yPn : FnOK Tryz.prog z0C_e := fB Tryz.f76 (λ n x => yR6 n x.1) [[0, 4, 5, 6]] eNil λ n hn x => (y5 (yC λ v0 => (by apply y2V n hn)) (by apply y2V n hn))

end Go.Tw
end

section
set_option linter.all false
set_option maxRecDepth 1000000
namespace Go.Tw
open Go.Vx Go.Vx.B Go.Proofs
/-! ### tidewayref02.Print -/
abbrev yNF : Ty := .pair t58 .unit
abbrev yNk : Ty := .pair t9 .unit
noncomputable def yOU : G := { T := T, E := [z0k_e], mU := [], fz := [], on := [5, 6] }
def yQF : List (List Nat) := [[1, 3, 4]]
noncomputable def yO2 (n : Nat) : Ann := { keep := yQF, fuel := n, inl := [], deep := 0 }
noncomputable def yEn (n : Nat) (r1 : List (List UInt8 × Int × Int × Unit) × List (Int × Int × Unit) × Int × Unit -> List UInt8 -> Int -> Option (List UInt8 × Unit)) (t1_1 : List (List UInt8 × Int × Int × Unit) × List (Int × Int × Unit) × Int × Unit) (s3_1 : List UInt8) (i4_1 : Int) : Option (List UInt8 × Unit):=
  (bif Decidable.decide (i4_1 < (↑t1_1.fst.length : Int)) then (Option.bind (Go.Vx.idx t1_1.fst i4_1) λ (v2 : List UInt8 × Int × Int × Unit) => (Option.bind (Go.Vx.idx t1_1.snd.fst i4_1) λ (v3 : Int × Int × Unit) => (bif Decidable.decide (s3_1.length + (12 : Nat) < Go.Vx.strMax) then (bif Decidable.decide ((s3_1 ++ [(99 : UInt8), (111 : UInt8), (110 : UInt8), (115 : UInt8), (116 : UInt8), (105 : UInt8), (116 : UInt8), (117 : UInt8), (101 : UInt8), (110 : UInt8), (116 : UInt8), (32 : UInt8)]).length + v2.fst.length < Go.Vx.strMax) then (bif Decidable.decide ((s3_1 ++ [(99 : UInt8), (111 : UInt8), (110 : UInt8), (115 : UInt8), (116 : UInt8), (105 : UInt8), (116 : UInt8), (117 : UInt8), (101 : UInt8), (110 : UInt8), (116 : UInt8), (32 : UInt8)] ++ v2.fst).length + (1 : Nat) < Go.Vx.strMax) then (Option.bind (Go.Tw.y2o (24 : Nat) (v2.snd.fst, ())) λ (v4 : List UInt8 × Unit) => (bif Decidable.decide ((s3_1 ++ [(99 : UInt8), (111 : UInt8), (110 : UInt8), (115 : UInt8), (116 : UInt8), (105 : UInt8), (116 : UInt8), (117 : UInt8), (101 : UInt8), (110 : UInt8), (116 : UInt8), (32 : UInt8)] ++ v2.fst ++ [(32 : UInt8)]).length + v4.fst.length < Go.Vx.strMax) then (bif Decidable.decide ((s3_1 ++ [(99 : UInt8), (111 : UInt8), (110 : UInt8), (115 : UInt8), (116 : UInt8), (105 : UInt8), (116 : UInt8), (117 : UInt8), (101 : UInt8), (110 : UInt8), (116 : UInt8), (32 : UInt8)] ++ v2.fst ++ [(32 : UInt8)] ++ v4.fst).length + (1 : Nat) < Go.Vx.strMax) then (Option.bind (Go.Tw.y2o (24 : Nat) (v2.snd.snd.fst, ())) λ (v5 : List UInt8 × Unit) => (bif Decidable.decide ((s3_1 ++ [(99 : UInt8), (111 : UInt8), (110 : UInt8), (115 : UInt8), (116 : UInt8), (105 : UInt8), (116 : UInt8), (117 : UInt8), (101 : UInt8), (110 : UInt8), (116 : UInt8), (32 : UInt8)] ++ v2.fst ++ [(32 : UInt8)] ++ v4.fst ++ [(32 : UInt8)]).length + v5.fst.length < Go.Vx.strMax) then (bif Decidable.decide ((s3_1 ++ [(99 : UInt8), (111 : UInt8), (110 : UInt8), (115 : UInt8), (116 : UInt8), (105 : UInt8), (116 : UInt8), (117 : UInt8), (101 : UInt8), (110 : UInt8), (116 : UInt8), (32 : UInt8)] ++ v2.fst ++ [(32 : UInt8)] ++ v4.fst ++ [(32 : UInt8)] ++ v5.fst).length + (1 : Nat) < Go.Vx.strMax) then (Option.bind (Go.Tw.y2o (24 : Nat) (v3.fst, ())) λ (v6 : List UInt8 × Unit) => (bif Decidable.decide ((s3_1 ++ [(99 : UInt8), (111 : UInt8), (110 : UInt8), (115 : UInt8), (116 : UInt8), (105 : UInt8), (116 : UInt8), (117 : UInt8), (101 : UInt8), (110 : UInt8), (116 : UInt8), (32 : UInt8)] ++ v2.fst ++ [(32 : UInt8)] ++ v4.fst ++ [(32 : UInt8)] ++ v5.fst ++ [(32 : UInt8)]).length + v6.fst.length < Go.Vx.strMax) then (bif Decidable.decide ((s3_1 ++ [(99 : UInt8), (111 : UInt8), (110 : UInt8), (115 : UInt8), (116 : UInt8), (105 : UInt8), (116 : UInt8), (117 : UInt8), (101 : UInt8), (110 : UInt8), (116 : UInt8), (32 : UInt8)] ++ v2.fst ++ [(32 : UInt8)] ++ v4.fst ++ [(32 : UInt8)] ++ v5.fst ++ [(32 : UInt8)] ++ v6.fst).length + (1 : Nat) < Go.Vx.strMax) then (Option.bind (Go.Tw.y2o (24 : Nat) (v3.snd.fst, ())) λ (v7 : List UInt8 × Unit) => (bif Decidable.decide ((s3_1 ++ [(99 : UInt8), (111 : UInt8), (110 : UInt8), (115 : UInt8), (116 : UInt8), (105 : UInt8), (116 : UInt8), (117 : UInt8), (101 : UInt8), (110 : UInt8), (116 : UInt8), (32 : UInt8)] ++ v2.fst ++ [(32 : UInt8)] ++ v4.fst ++ [(32 : UInt8)] ++ v5.fst ++ [(32 : UInt8)] ++ v6.fst ++ [(32 : UInt8)]).length + v7.fst.length < Go.Vx.strMax) then (bif Decidable.decide ((s3_1 ++ [(99 : UInt8), (111 : UInt8), (110 : UInt8), (115 : UInt8), (116 : UInt8), (105 : UInt8), (116 : UInt8), (117 : UInt8), (101 : UInt8), (110 : UInt8), (116 : UInt8), (32 : UInt8)] ++ v2.fst ++ [(32 : UInt8)] ++ v4.fst ++ [(32 : UInt8)] ++ v5.fst ++ [(32 : UInt8)] ++ v6.fst ++ [(32 : UInt8)] ++ v7.fst).length + (1 : Nat) < Go.Vx.strMax) then r1 t1_1 (s3_1 ++ [(99 : UInt8), (111 : UInt8), (110 : UInt8), (115 : UInt8), (116 : UInt8), (105 : UInt8), (116 : UInt8), (117 : UInt8), (101 : UInt8), (110 : UInt8), (116 : UInt8), (32 : UInt8)] ++ v2.fst ++ [(32 : UInt8)] ++ v4.fst ++ [(32 : UInt8)] ++ v5.fst ++ [(32 : UInt8)] ++ v6.fst ++ [(32 : UInt8)] ++ v7.fst ++ [(10 : UInt8)]) (Go.IntKind.i64.wrap (i4_1 + (1 : Int))) else none) else none)) else none) else none)) else none) else none)) else none) else none)) else none) else none) else none))) else Option.some (s3_1, ()))

noncomputable def y7P (n : Nat)  (k : Nat) (t1_1 : List (List UInt8 × Int × Int × Unit) × List (Int × Int × Unit) × Int × Unit) (s3_1 : List UInt8) (i4_1 : Int) : Option (List UInt8 × Unit):=
  iter (λ r y => yEn n (λ t1_1 s3_1 i4_1 => r ((t1_1, (s3_1, (i4_1, ()))), ((), ()))) y.1.1 y.1.2.1 y.1.2.2.1) k ((t1_1, (s3_1, (i4_1, ()))), ((), ()))

noncomputable def yRO (n : Nat) (t : List (List UInt8 × Int × Int × Unit) × List (Int × Int × Unit) × Int × Unit) : Option (List UInt8 × Unit):=
  (Option.bind (Go.Tw.y2o (24 : Nat) (t.snd.snd.fst, ())) λ (v0 : List UInt8 × Unit) => (bif Decidable.decide ((5 : Nat) + v0.fst.length < Go.Vx.strMax) then (bif Decidable.decide (([(116 : UInt8), (105 : UInt8), (100 : UInt8), (101 : UInt8), (32 : UInt8)] ++ v0.fst).length + (1 : Nat) < Go.Vx.strMax) then (y7P n n (t) ([(116 : UInt8), (105 : UInt8), (100 : UInt8), (101 : UInt8), (32 : UInt8)] ++ v0.fst ++ [(10 : UInt8)]) ((0 : Int))) else none) else none))

theorem yPI (n : Nat) (x : yNF.den) : runF yOU (yO2 n) Tryz.f22 yNF yNk x = yRO n x.1 := by kernel_rfl

noncomputable def yLR (t1_1 : List (List UInt8 × Int × Int × Unit) × List (Int × Int × Unit) × Int × Unit) (i4_1 : Int) (v2 : List UInt8 × Int × Int × Unit) (s3_1 : List UInt8) : Option ((List UInt8 × Unit) ⊕ (List UInt8)):=
  (Option.bind (Go.Vx.idx t1_1.snd.fst i4_1) λ (v3 : Int × Int × Unit) => (bif Decidable.decide (s3_1.length + (12 : Nat) < Go.Vx.strMax) then (bif Decidable.decide ((s3_1 ++ [(99 : UInt8), (111 : UInt8), (110 : UInt8), (115 : UInt8), (116 : UInt8), (105 : UInt8), (116 : UInt8), (117 : UInt8), (101 : UInt8), (110 : UInt8), (116 : UInt8), (32 : UInt8)]).length + v2.fst.length < Go.Vx.strMax) then (bif Decidable.decide ((s3_1 ++ [(99 : UInt8), (111 : UInt8), (110 : UInt8), (115 : UInt8), (116 : UInt8), (105 : UInt8), (116 : UInt8), (117 : UInt8), (101 : UInt8), (110 : UInt8), (116 : UInt8), (32 : UInt8)] ++ v2.fst).length + (1 : Nat) < Go.Vx.strMax) then (Option.bind (Go.Tw.y2o (24 : Nat) (v2.snd.fst, ())) λ (v4 : List UInt8 × Unit) => (bif Decidable.decide ((s3_1 ++ [(99 : UInt8), (111 : UInt8), (110 : UInt8), (115 : UInt8), (116 : UInt8), (105 : UInt8), (116 : UInt8), (117 : UInt8), (101 : UInt8), (110 : UInt8), (116 : UInt8), (32 : UInt8)] ++ v2.fst ++ [(32 : UInt8)]).length + v4.fst.length < Go.Vx.strMax) then (bif Decidable.decide ((s3_1 ++ [(99 : UInt8), (111 : UInt8), (110 : UInt8), (115 : UInt8), (116 : UInt8), (105 : UInt8), (116 : UInt8), (117 : UInt8), (101 : UInt8), (110 : UInt8), (116 : UInt8), (32 : UInt8)] ++ v2.fst ++ [(32 : UInt8)] ++ v4.fst).length + (1 : Nat) < Go.Vx.strMax) then (Option.bind (Go.Tw.y2o (24 : Nat) (v2.snd.snd.fst, ())) λ (v5 : List UInt8 × Unit) => (bif Decidable.decide ((s3_1 ++ [(99 : UInt8), (111 : UInt8), (110 : UInt8), (115 : UInt8), (116 : UInt8), (105 : UInt8), (116 : UInt8), (117 : UInt8), (101 : UInt8), (110 : UInt8), (116 : UInt8), (32 : UInt8)] ++ v2.fst ++ [(32 : UInt8)] ++ v4.fst ++ [(32 : UInt8)]).length + v5.fst.length < Go.Vx.strMax) then (bif Decidable.decide ((s3_1 ++ [(99 : UInt8), (111 : UInt8), (110 : UInt8), (115 : UInt8), (116 : UInt8), (105 : UInt8), (116 : UInt8), (117 : UInt8), (101 : UInt8), (110 : UInt8), (116 : UInt8), (32 : UInt8)] ++ v2.fst ++ [(32 : UInt8)] ++ v4.fst ++ [(32 : UInt8)] ++ v5.fst).length + (1 : Nat) < Go.Vx.strMax) then (Option.bind (Go.Tw.y2o (24 : Nat) (v3.fst, ())) λ (v6 : List UInt8 × Unit) => (bif Decidable.decide ((s3_1 ++ [(99 : UInt8), (111 : UInt8), (110 : UInt8), (115 : UInt8), (116 : UInt8), (105 : UInt8), (116 : UInt8), (117 : UInt8), (101 : UInt8), (110 : UInt8), (116 : UInt8), (32 : UInt8)] ++ v2.fst ++ [(32 : UInt8)] ++ v4.fst ++ [(32 : UInt8)] ++ v5.fst ++ [(32 : UInt8)]).length + v6.fst.length < Go.Vx.strMax) then (bif Decidable.decide ((s3_1 ++ [(99 : UInt8), (111 : UInt8), (110 : UInt8), (115 : UInt8), (116 : UInt8), (105 : UInt8), (116 : UInt8), (117 : UInt8), (101 : UInt8), (110 : UInt8), (116 : UInt8), (32 : UInt8)] ++ v2.fst ++ [(32 : UInt8)] ++ v4.fst ++ [(32 : UInt8)] ++ v5.fst ++ [(32 : UInt8)] ++ v6.fst).length + (1 : Nat) < Go.Vx.strMax) then (Option.bind (Go.Tw.y2o (24 : Nat) (v3.snd.fst, ())) λ (v7 : List UInt8 × Unit) => (bif Decidable.decide ((s3_1 ++ [(99 : UInt8), (111 : UInt8), (110 : UInt8), (115 : UInt8), (116 : UInt8), (105 : UInt8), (116 : UInt8), (117 : UInt8), (101 : UInt8), (110 : UInt8), (116 : UInt8), (32 : UInt8)] ++ v2.fst ++ [(32 : UInt8)] ++ v4.fst ++ [(32 : UInt8)] ++ v5.fst ++ [(32 : UInt8)] ++ v6.fst ++ [(32 : UInt8)]).length + v7.fst.length < Go.Vx.strMax) then (bif Decidable.decide ((s3_1 ++ [(99 : UInt8), (111 : UInt8), (110 : UInt8), (115 : UInt8), (116 : UInt8), (105 : UInt8), (116 : UInt8), (117 : UInt8), (101 : UInt8), (110 : UInt8), (116 : UInt8), (32 : UInt8)] ++ v2.fst ++ [(32 : UInt8)] ++ v4.fst ++ [(32 : UInt8)] ++ v5.fst ++ [(32 : UInt8)] ++ v6.fst ++ [(32 : UInt8)] ++ v7.fst).length + (1 : Nat) < Go.Vx.strMax) then (some (Sum.inr (s3_1 ++ [(99 : UInt8), (111 : UInt8), (110 : UInt8), (115 : UInt8), (116 : UInt8), (105 : UInt8), (116 : UInt8), (117 : UInt8), (101 : UInt8), (110 : UInt8), (116 : UInt8), (32 : UInt8)] ++ v2.fst ++ [(32 : UInt8)] ++ v4.fst ++ [(32 : UInt8)] ++ v5.fst ++ [(32 : UInt8)] ++ v6.fst ++ [(32 : UInt8)] ++ v7.fst ++ [(10 : UInt8)]))) else none) else none)) else none) else none)) else none) else none)) else none) else none)) else none) else none) else none))

noncomputable def yLB (t1_1 : List (List UInt8 × Int × Int × Unit) × List (Int × Int × Unit) × Int × Unit) (s3_1 : List UInt8) : Option (List UInt8 × Unit):=
  (some ((s3_1, ())))

theorem yDg (n : Nat) (hn : big <= n)  (t1_1 : List (List UInt8 × Int × Int × Unit) × List (Int × Int × Unit) × Int × Unit) (s3_1 : List UInt8) (hx : List.length (t1_1.fst) < lenMax) : LeF some (yS (λ i__ e__ s__ => yLR t1_1 i__ e__ s__) (λ s__ => yLB t1_1 s__) 0 (t1_1.fst) s3_1) (y7P n n t1_1 s3_1 0) := by
  refine yf (f := some) (W := λ k__ i__ s__ => y7P n k__ t1_1 s__ i__) (λ k__ i__ s__ => ?_) hx s3_1 n (by unfold big at hn; unfold lenMax at hx; omega)
  show LeF _ _ (yEn n (y7P n k__) t1_1 s__ i__)
  exact y5 (yC λ v2 => (yC λ v3 => (y5 (y5 (y5 (yC λ v4 => (y5 (y5 (yC λ v5 => (y5 (y5 (yC λ v6 => (y5 (y5 (yC λ v7 => (y5 (y5 (y8 rfl) yK) yK)) yK) yK)) yK) yK)) yK) yK)) yK) yK) yK))) (y16 (y8 rfl))

noncomputable def yQC (t : List (List UInt8 × Int × Int × Unit) × List (Int × Int × Unit) × Int × Unit) : Option (List UInt8 × Unit):=
  (Option.bind (Go.Tw.y2o (24 : Nat) (t.snd.snd.fst, ())) λ (v0 : List UInt8 × Unit) => (bif Decidable.decide ((5 : Nat) + v0.fst.length < Go.Vx.strMax) then (bif Decidable.decide (([(116 : UInt8), (105 : UInt8), (100 : UInt8), (101 : UInt8), (32 : UInt8)] ++ v0.fst).length + (1 : Nat) < Go.Vx.strMax) then (bif decide (List.length (t.fst) < lenMax) then yS (λ i__ e__ s__ => yLR (t) i__ e__ s__) (λ s__ => yLB (t) s__) 0 (t.fst) ([(116 : UInt8), (105 : UInt8), (100 : UInt8), (101 : UInt8), (32 : UInt8)] ++ v0.fst ++ [(10 : UInt8)]) else none) else none) else none))

noncomputable def z0T_e : Entry := { f := 22, args := yNF, rS := yNk, m := λ x => yQC x.1 }
theorem yOw : FnOK Tryz.prog z0T_e := yLa (g := yOU) (fn := Tryz.f22) (y7 yNd eNil) (λ _ => iNil) yPI λ n hn x => (yC λ v0 => (y5 (y5 (yd λ hx => by apply yDg n hn; exact hx) yK) yK))

end Go.Tw
end

section
set_option linter.all false
set_option maxRecDepth 1000000
namespace Go.Tw
open Go.Vx Go.Vx.B Go.Proofs
/-! ### tidewayref02.Parse -/
noncomputable def yCx (n : Nat) (r1 : List (List UInt8) -> Int -> Int -> Int -> List (List UInt8 × Int × Int × Unit) -> List (Int × Int × Unit) -> Option ((List (List UInt8 × Int × Int × Unit) × List (Int × Int × Unit) × Int × Unit) × Int × Int × Unit)) (r15 : List (List UInt8) -> Int -> List (List UInt8) -> Int -> Int -> Int -> List Int -> List (List UInt8 × Int × Int × Unit) -> List (Int × Int × Unit) -> Option ((List (List UInt8 × Int × Int × Unit) × List (Int × Int × Unit) × Int × Unit) × Int × Int × Unit)) (lines5_15 : List (List UInt8)) (i7_15 : Int) (w8_15 : List (List UInt8)) (k12_15 : Int) (b0_2_15 : Int) (b1_2_15 : Int) (c2_15 : List Int) (c3_15 : List (List UInt8 × Int × Int × Unit)) (c4_15 : List (Int × Int × Unit)) : Option ((List (List UInt8 × Int × Int × Unit) × List (Int × Int × Unit) × Int × Unit) × Int × Int × Unit):=
  (bif Decidable.decide (k12_15 < (4 : Int)) then (Option.bind (Go.Vx.idx w8_15 (Go.IntKind.i64.wrap (k12_15 + (2 : Int)))) λ (v16 : List UInt8) => (Option.bind (Go.Tw.yQm v16) λ (v17 : Int × Bool × Unit) => (bif !v17.snd.fst then Option.some (([], [], (0 : Int), ()), i7_15, (26 : Int), ()) else (bif Decidable.decide ((0 : Int) <= k12_15) && Decidable.decide (k12_15 < (↑(4 : Nat) : Int)) then (Option.bind (c2_15[k12_15.toNat]?) λ (v18 : Int) => r15 lines5_15 i7_15 w8_15 (Go.IntKind.i64.wrap (k12_15 + (1 : Int))) b0_2_15 b1_2_15 (c2_15.set k12_15.toNat v17.fst) c3_15 c4_15) else none)))) else (Option.bind (Go.Vx.idx w8_15 (1 : Int)) λ (v19 : List UInt8) => (Option.bind (c2_15[Int.toNat (0 : Int)]?) λ (v20 : Int) => (Option.bind (c2_15[Int.toNat (1 : Int)]?) λ (v21 : Int) => (bif Decidable.decide (c3_15.length + (1 : Nat) <= Go.Vx.memMax) then (Option.bind (c2_15[Int.toNat (2 : Int)]?) λ (v22 : Int) => (Option.bind (c2_15[Int.toNat (3 : Int)]?) λ (v23 : Int) => (bif Decidable.decide (c4_15.length + (1 : Nat) <= Go.Vx.memMax) then r1 lines5_15 (Go.IntKind.i64.wrap (i7_15 + (1 : Int))) b0_2_15 b1_2_15 (c3_15 ++ [(v19, v20, v21, ())]) (c4_15 ++ [(v22, v23, ())]) else none))) else none)))))

noncomputable def y5o (n : Nat) (r1 : List (List UInt8) -> Int -> Int -> Int -> List (List UInt8 × Int × Int × Unit) -> List (Int × Int × Unit) -> Option ((List (List UInt8 × Int × Int × Unit) × List (Int × Int × Unit) × Int × Unit) × Int × Int × Unit)) (k : Nat) (lines5_15 : List (List UInt8)) (i7_15 : Int) (w8_15 : List (List UInt8)) (k12_15 : Int) (b0_2_15 : Int) (b1_2_15 : Int) (c2_15 : List Int) (c3_15 : List (List UInt8 × Int × Int × Unit)) (c4_15 : List (Int × Int × Unit)) : Option ((List (List UInt8 × Int × Int × Unit) × List (Int × Int × Unit) × Int × Unit) × Int × Int × Unit):=
  iter (λ r y => yCx n r1 (λ lines5_15 i7_15 w8_15 k12_15 b0_2_15 b1_2_15 c2_15 c3_15 c4_15 => r ((lines5_15, (i7_15, (w8_15, (k12_15, ())))), (((b0_2_15, ()), ((b1_2_15, ()), (c2_15, (c3_15, (c4_15, ()))))), ()))) y.1.1 y.1.2.1 y.1.2.2.1 y.1.2.2.2.1 y.2.1.1.1 y.2.1.2.1.1 y.2.1.2.2.1 y.2.1.2.2.2.1 y.2.1.2.2.2.2.1) k ((lines5_15, (i7_15, (w8_15, (k12_15, ())))), (((b0_2_15, ()), ((b1_2_15, ()), (c2_15, (c3_15, (c4_15, ()))))), ()))

noncomputable def yEv (n : Nat) (r1 : List (List UInt8) -> Int -> Int -> Int -> List (List UInt8 × Int × Int × Unit) -> List (Int × Int × Unit) -> Option ((List (List UInt8 × Int × Int × Unit) × List (Int × Int × Unit) × Int × Unit) × Int × Int × Unit)) (lines5_1 : List (List UInt8)) (i7_1 : Int) (b0_2_1 : Int) (b1_2_1 : Int) (c2_1 : List (List UInt8 × Int × Int × Unit)) (c3_1 : List (Int × Int × Unit)) : Option ((List (List UInt8 × Int × Int × Unit) × List (Int × Int × Unit) × Int × Unit) × Int × Int × Unit):=
  (bif Decidable.decide (i7_1 < Go.IntKind.i64.wrap ((↑lines5_1.length : Int) - (1 : Int))) then (Option.bind (Go.Vx.idx lines5_1 i7_1) λ (v2 : List UInt8) => (Option.bind (Go.Tw.yMm v2 (32 : Int)) λ (v3 : List (List UInt8) × Unit) => (bif i7_1 == (0 : Int) then (bif (↑v3.fst.length : Int) != (2 : Int) then Option.some (([], [], (0 : Int), ()), i7_1, (26 : Int), ()) else (Option.bind (Go.Vx.idx v3.fst (0 : Int)) λ (v4 : List UInt8) => (bif !v4 == [(116 : UInt8), (105 : UInt8), (100 : UInt8), (101 : UInt8)] then Option.some (([], [], (0 : Int), ()), i7_1, (26 : Int), ()) else (Option.bind (Go.Vx.idx v3.fst (1 : Int)) λ (v7 : List UInt8) => (Option.bind (Go.Tw.yQm v7) λ (v8 : Int × Bool × Unit) => (bif !v8.snd.fst then Option.some (([], [], (0 : Int), ()), i7_1, (26 : Int), ()) else r1 lines5_1 (Go.IntKind.i64.wrap (i7_1 + (1 : Int))) b0_2_1 v8.fst c2_1 c3_1)))))) else (bif (↑v3.fst.length : Int) != (6 : Int) then Option.some (([], [], (0 : Int), ()), i7_1, (26 : Int), ()) else (Option.bind (Go.Vx.idx v3.fst (0 : Int)) λ (v9 : List UInt8) => (bif !v9 == [(99 : UInt8), (111 : UInt8), (110 : UInt8), (115 : UInt8), (116 : UInt8), (105 : UInt8), (116 : UInt8), (117 : UInt8), (101 : UInt8), (110 : UInt8), (116 : UInt8)] then Option.some (([], [], (0 : Int), ()), i7_1, (26 : Int), ()) else (Option.bind (Go.Vx.idx v3.fst (1 : Int)) λ (v10 : List UInt8) => (bif v10 == [] then Option.some (([], [], (0 : Int), ()), i7_1, (26 : Int), ()) else (y5o n r1 n (lines5_1) (i7_1) (v3.fst) ((0 : Int)) (b0_2_1) (b1_2_1) ([(0 : Int), (0 : Int), (0 : Int), (0 : Int)]) (c2_1) (c3_1)))))))))) else (Option.bind (Go.Vx.idx lines5_1 (Go.IntKind.i64.wrap ((↑lines5_1.length : Int) - (1 : Int)))) λ (v24 : List UInt8) => (bif !v24 == [] then Option.some (([], [], (0 : Int), ()), Go.IntKind.i64.wrap ((↑lines5_1.length : Int) - (1 : Int)), (26 : Int), ()) else (bif (↑lines5_1.length : Int) == (1 : Int) then Option.some (([], [], (0 : Int), ()), Go.IntKind.i64.wrap ((↑lines5_1.length : Int) - (1 : Int)), (26 : Int), ()) else (Option.bind (Go.Tw.zj_M (c2_1, c3_1, b1_2_1, ())) λ (v27 : Int × Unit) => (bif v27.fst != (0 : Int) then Option.some (([], [], (0 : Int), ()), Go.IntKind.i64.wrap ((↑lines5_1.length : Int) - (1 : Int)), v27.fst, ()) else Option.some ((c2_1, c3_1, b1_2_1, ()), (0 : Int), (0 : Int), ())))))))

noncomputable def y7X (n : Nat)  (k : Nat) (lines5_1 : List (List UInt8)) (i7_1 : Int) (b0_2_1 : Int) (b1_2_1 : Int) (c2_1 : List (List UInt8 × Int × Int × Unit)) (c3_1 : List (Int × Int × Unit)) : Option ((List (List UInt8 × Int × Int × Unit) × List (Int × Int × Unit) × Int × Unit) × Int × Int × Unit):=
  iter (λ r y => yEv n (λ lines5_1 i7_1 b0_2_1 b1_2_1 c2_1 c3_1 => r ((lines5_1, (i7_1, ())), (((b0_2_1, ()), ((b1_2_1, ()), (c2_1, (c3_1, ())))), ()))) y.1.1 y.1.2.1 y.2.1.1.1 y.2.1.2.1.1 y.2.1.2.2.1 y.2.1.2.2.2.1) k ((lines5_1, (i7_1, ())), (((b0_2_1, ()), ((b1_2_1, ()), (c2_1, (c3_1, ())))), ()))

noncomputable def yQu (n : Nat) (s : List UInt8) : Option ((List (List UInt8 × Int × Int × Unit) × List (Int × Int × Unit) × Int × Unit) × Int × Int × Unit):=
  (bif Decidable.decide ((↑s.length : Int) > (4096 : Int)) then Option.some (([], [], (0 : Int), ()), (0 : Int), (27 : Int), ()) else (Option.bind (Go.Tw.yMm s (10 : Int)) λ (v0 : List (List UInt8) × Unit) => (y7X n n (v0.fst) ((0 : Int)) ((0 : Int)) ((0 : Int)) ([]) ([]))))

noncomputable def yE4 (lines5_15 : List (List UInt8)) (i7_15 : Int) (w8_15 : List (List UInt8)) (b0_2_15 : Int) (b1_2_15 : Int) (c3_15 : List (List UInt8 × Int × Int × Unit)) (c4_15 : List (Int × Int × Unit)) (k12_15 : Int) (c2_15 : List Int) : Option ((((List (List UInt8 × Int × Int × Unit) × List (Int × Int × Unit) × Int × Unit) × Int × Int × Unit) ⊕ (Int × (List (List UInt8 × Int × Int × Unit)) × (List (Int × Int × Unit)))) ⊕ (List Int)):=
  (Option.bind (Go.Vx.idx w8_15 (Go.IntKind.i64.wrap (k12_15 + (2 : Int)))) λ (v16 : List UInt8) => (Option.bind (Go.Tw.yQm v16) λ (v17 : Int × Bool × Unit) => (bif !v17.snd.fst then (some (Sum.inl (Sum.inl ((([], [], (0 : Int), ()), i7_15, (26 : Int), ()))))) else (bif Decidable.decide ((0 : Int) <= k12_15) && Decidable.decide (k12_15 < (↑(4 : Nat) : Int)) then (Option.bind (c2_15[k12_15.toNat]?) λ (v18 : Int) => (some (Sum.inr (c2_15.set k12_15.toNat v17.fst)))) else none))))

noncomputable def yDd (lines5_15 : List (List UInt8)) (i7_15 : Int) (w8_15 : List (List UInt8)) (b0_2_15 : Int) (b1_2_15 : Int) (c3_15 : List (List UInt8 × Int × Int × Unit)) (c4_15 : List (Int × Int × Unit)) (c2_15 : List Int) : Option (((List (List UInt8 × Int × Int × Unit) × List (Int × Int × Unit) × Int × Unit) × Int × Int × Unit) ⊕ (Int × (List (List UInt8 × Int × Int × Unit)) × (List (Int × Int × Unit)))):=
  (Option.bind (Go.Vx.idx w8_15 (1 : Int)) λ (v19 : List UInt8) => (Option.bind (c2_15[Int.toNat (0 : Int)]?) λ (v20 : Int) => (Option.bind (c2_15[Int.toNat (1 : Int)]?) λ (v21 : Int) => (bif Decidable.decide (c3_15.length + (1 : Nat) <= Go.Vx.memMax) then (Option.bind (c2_15[Int.toNat (2 : Int)]?) λ (v22 : Int) => (Option.bind (c2_15[Int.toNat (3 : Int)]?) λ (v23 : Int) => (bif Decidable.decide (c4_15.length + (1 : Nat) <= Go.Vx.memMax) then (some (Sum.inr ((b1_2_15), (c3_15 ++ [(v19, v20, v21, ())]), (c4_15 ++ [(v22, v23, ())])))) else none))) else none))))

theorem yBM (n : Nat) (hn : big <= n)  (r1 : List (List UInt8) -> Int -> Int -> Int -> List (List UInt8 × Int × Int × Unit) -> List (Int × Int × Unit) -> Option ((List (List UInt8 × Int × Int × Unit) × List (Int × Int × Unit) × Int × Unit) × Int × Int × Unit)) (lines5_15 : List (List UInt8)) (i7_15 : Int) (w8_15 : List (List UInt8)) (b0_2_15 : Int) (b1_2_15 : Int) (c3_15 : List (List UInt8 × Int × Int × Unit)) (c4_15 : List (Int × Int × Unit)) (c2_15 : List Int) (hx : ((4 : Int)) <= (9223372036854775807 : Int)) : LeF (elim some λ (s__ : (Int × (List (List UInt8 × Int × Int × Unit)) × (List (Int × Int × Unit)))) => r1 lines5_15 (Go.IntKind.i64.wrap (i7_15 + 1)) b0_2_15 s__.1 s__.2.1 s__.2.2) (y2D (λ i__ s__ => yE4 lines5_15 i7_15 w8_15 b0_2_15 b1_2_15 c3_15 c4_15 i__ s__) (λ s__ => yDd lines5_15 i7_15 w8_15 b0_2_15 b1_2_15 c3_15 c4_15 s__) (((4 : Int)) - 0).toNat 0 c2_15) (y5o n r1 n lines5_15 i7_15 w8_15 0 b0_2_15 b1_2_15 c2_15 c3_15 c4_15) := by
  refine y4n (f := (elim some λ (s__ : (Int × (List (List UInt8 × Int × Int × Unit)) × (List (Int × Int × Unit)))) => r1 lines5_15 (Go.IntKind.i64.wrap (i7_15 + 1)) b0_2_15 s__.1 s__.2.1 s__.2.2)) (W := λ k__ i__ s__ => y5o n r1 k__ lines5_15 i7_15 w8_15 i__ b0_2_15 b1_2_15 s__ c3_15 c4_15) (body := (λ i__ s__ => yE4 lines5_15 i7_15 w8_15 b0_2_15 b1_2_15 c3_15 c4_15 i__ s__)) (fin := (λ s__ => yDd lines5_15 i7_15 w8_15 b0_2_15 b1_2_15 c3_15 c4_15 s__)) (λ k__ i__ s__ => ?_) hx c2_15 n 0 (by decide) (by unfold big at hn; omega)
  show LeF _ _ (yCx n r1 (y5o n r1 k__) lines5_15 i7_15 w8_15 i__ b0_2_15 b1_2_15 s__ c3_15 c4_15)
  exact y5 (yC λ v16 => (yC λ v17 => (y5 (y8 rfl) (y5 (yC λ v18 => (y8 rfl)) yK)))) (y16 (yC λ v19 => (yC λ v20 => (yC λ v21 => (y5 (yC λ v22 => (yC λ v23 => (y5 (y8 rfl) yK))) yK)))))

noncomputable def yLu (lines5_1 : List (List UInt8)) (b0_2_1 : Int) (i7_1 : Int) (b1_2_1 : Int) (c2_1 : List (List UInt8 × Int × Int × Unit)) (c3_1 : List (Int × Int × Unit)) : Option (((List (List UInt8 × Int × Int × Unit) × List (Int × Int × Unit) × Int × Unit) × Int × Int × Unit) ⊕ (Int × (List (List UInt8 × Int × Int × Unit)) × (List (Int × Int × Unit)))):=
  (Option.bind (Go.Vx.idx lines5_1 i7_1) λ (v2 : List UInt8) => (Option.bind (Go.Tw.yMm v2 (32 : Int)) λ (v3 : List (List UInt8) × Unit) => (bif i7_1 == (0 : Int) then (bif (↑v3.fst.length : Int) != (2 : Int) then (some (Sum.inl ((([], [], (0 : Int), ()), i7_1, (26 : Int), ())))) else (Option.bind (Go.Vx.idx v3.fst (0 : Int)) λ (v4 : List UInt8) => (bif !v4 == [(116 : UInt8), (105 : UInt8), (100 : UInt8), (101 : UInt8)] then (some (Sum.inl ((([], [], (0 : Int), ()), i7_1, (26 : Int), ())))) else (Option.bind (Go.Vx.idx v3.fst (1 : Int)) λ (v7 : List UInt8) => (Option.bind (Go.Tw.yQm v7) λ (v8 : Int × Bool × Unit) => (bif !v8.snd.fst then (some (Sum.inl ((([], [], (0 : Int), ()), i7_1, (26 : Int), ())))) else (some (Sum.inr ((v8.fst), (c2_1), (c3_1)))))))))) else (bif (↑v3.fst.length : Int) != (6 : Int) then (some (Sum.inl ((([], [], (0 : Int), ()), i7_1, (26 : Int), ())))) else (Option.bind (Go.Vx.idx v3.fst (0 : Int)) λ (v9 : List UInt8) => (bif !v9 == [(99 : UInt8), (111 : UInt8), (110 : UInt8), (115 : UInt8), (116 : UInt8), (105 : UInt8), (116 : UInt8), (117 : UInt8), (101 : UInt8), (110 : UInt8), (116 : UInt8)] then (some (Sum.inl ((([], [], (0 : Int), ()), i7_1, (26 : Int), ())))) else (Option.bind (Go.Vx.idx v3.fst (1 : Int)) λ (v10 : List UInt8) => (bif v10 == [] then (some (Sum.inl ((([], [], (0 : Int), ()), i7_1, (26 : Int), ())))) else (bif decide (((4 : Int)) <= (9223372036854775807 : Int)) then y2D (λ i__ s__ => yE4 (lines5_1) (i7_1) (v3.fst) (b0_2_1) (b1_2_1) (c2_1) (c3_1) i__ s__) (λ s__ => yDd (lines5_1) (i7_1) (v3.fst) (b0_2_1) (b1_2_1) (c2_1) (c3_1) s__) (((4 : Int)) - 0).toNat 0 ([(0 : Int), (0 : Int), (0 : Int), (0 : Int)]) else none)))))))))

noncomputable def yLW (lines5_1 : List (List UInt8)) (b0_2_1 : Int) (b1_2_1 : Int) (c2_1 : List (List UInt8 × Int × Int × Unit)) (c3_1 : List (Int × Int × Unit)) : Option ((List (List UInt8 × Int × Int × Unit) × List (Int × Int × Unit) × Int × Unit) × Int × Int × Unit):=
  (Option.bind (Go.Vx.idx lines5_1 (Go.IntKind.i64.wrap ((↑lines5_1.length : Int) - (1 : Int)))) λ (v24 : List UInt8) => (bif !v24 == [] then (some ((([], [], (0 : Int), ()), Go.IntKind.i64.wrap ((↑lines5_1.length : Int) - (1 : Int)), (26 : Int), ()))) else (bif (↑lines5_1.length : Int) == (1 : Int) then (some ((([], [], (0 : Int), ()), Go.IntKind.i64.wrap ((↑lines5_1.length : Int) - (1 : Int)), (26 : Int), ()))) else (Option.bind (Go.Tw.zj_M (c2_1, c3_1, b1_2_1, ())) λ (v27 : Int × Unit) => (bif v27.fst != (0 : Int) then (some ((([], [], (0 : Int), ()), Go.IntKind.i64.wrap ((↑lines5_1.length : Int) - (1 : Int)), v27.fst, ()))) else (some (((c2_1, c3_1, b1_2_1, ()), (0 : Int), (0 : Int), ()))))))))

theorem yE7 (n : Nat) (hn : big <= n)  (lines5_1 : List (List UInt8)) (b0_2_1 : Int) (b1_2_1 : Int) (c2_1 : List (List UInt8 × Int × Int × Unit)) (c3_1 : List (Int × Int × Unit)) (hx : (Go.IntKind.i64.wrap ((↑lines5_1.length : Int) - (1 : Int))) <= (9223372036854775807 : Int)) : LeF some (y2D (λ i__ s__ => yLu lines5_1 b0_2_1 i__ s__.1 s__.2.1 s__.2.2) (λ s__ => yLW lines5_1 b0_2_1 s__.1 s__.2.1 s__.2.2) ((Go.IntKind.i64.wrap ((↑lines5_1.length : Int) - (1 : Int))) - 0).toNat 0 (b1_2_1, c2_1, c3_1)) (y7X n n lines5_1 0 b0_2_1 b1_2_1 c2_1 c3_1) := by
  refine y4n (f := some) (W := λ k__ i__ s__ => y7X n k__ lines5_1 i__ b0_2_1 s__.1 s__.2.1 s__.2.2) (λ k__ i__ s__ => ?_) hx (b1_2_1, c2_1, c3_1) n 0 (by decide) (by unfold big at hn; omega)
  show LeF _ _ (yEv n (y7X n k__) lines5_1 i__ b0_2_1 s__.1 s__.2.1 s__.2.2)
  exact y5 (yC λ v2 => (yC λ v3 => (y5 (y5 (y8 rfl) (yC λ v4 => (y5 (y8 rfl) (yC λ v7 => (yC λ v8 => (y5 (y8 rfl) (y8 rfl))))))) (y5 (y8 rfl) (yC λ v9 => (y5 (y8 rfl) (yC λ v10 => (y5 (y8 rfl) (yd λ hx => by apply yBM n hn; exact hx))))))))) (y16 (yC λ v24 => (y5 (y8 rfl) (y5 (y8 rfl) (yC λ v27 => (y5 (y8 rfl) (y8 rfl)))))))

noncomputable def yQj (s : List UInt8) : Option ((List (List UInt8 × Int × Int × Unit) × List (Int × Int × Unit) × Int × Unit) × Int × Int × Unit):=
  (bif Decidable.decide ((↑s.length : Int) > (4096 : Int)) then (some ((([], [], (0 : Int), ()), (0 : Int), (27 : Int), ()))) else (Option.bind (Go.Tw.yMm s (10 : Int)) λ (v0 : List (List UInt8) × Unit) => (bif decide ((Go.IntKind.i64.wrap ((↑v0.fst.length : Int) - (1 : Int))) <= (9223372036854775807 : Int)) then y2D (λ i__ s__ => yLu (v0.fst) ((0 : Int)) i__ s__.1 s__.2.1 s__.2.2) (λ s__ => yLW (v0.fst) ((0 : Int)) s__.1 s__.2.1 s__.2.2) ((Go.IntKind.i64.wrap ((↑v0.fst.length : Int) - (1 : Int))) - 0).toNat 0 (((0 : Int)), ([]), ([])) else none)))

noncomputable abbrev z0S_e : Entry := { f := 23, args := .pair t9 .unit, rS := .pair t58 (.pair t3 (.pair t3 .unit)), m := λ x => yQj x.1 }
theorem yNr : FnOK Tryz.prog z0S_e := fB (mu := [6, 11]) Tryz.f23 (λ n x => yQu n x.1) [[2, 5, 6, 7], [2, 5, 6, 7, 8, 11, 12]] (y7 yLb (y7 yPn (y7 yMk eNil))) λ n hn x => (y5 (y8 rfl) (yC λ v0 => (yd λ hx => by apply yE7 n hn; exact hx)))

end Go.Tw
end
