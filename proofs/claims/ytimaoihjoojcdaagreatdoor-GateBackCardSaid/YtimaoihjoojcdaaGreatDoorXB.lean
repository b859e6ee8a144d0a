/- Models of the program's functions, by program (gen.py), and what they compute.
Models of the program's functions, by program (gen.py), and what they compute.
Models of the program's functions, by program (gen.py), and what they compute. -/
import Derived.Test.YtimaoihjoojcdaaGreatDoorBT
import Derived.Test.YtimaoihjoojcdaaGreatDoorB0
import Derived.Test.YtimaoihjoojcdaaGreatDoorSA
import Derived.Test.YtimaoihjoojcdaaGreatDoorLQ
import Derived.Test.YtimaoihjoojcdaaGreatDoorLR
import Derived.Test.YtimaoihjoojcdaaGreatDoorBA
import Derived.Test.YtimaoihjoojcdaaGreatDoorBC
import Derived.Test.YtimaoihjoojcdaaGreatDoorBD
import Derived.Test.YtimaoihjoojcdaaGreatDoorXA

section
set_option linter.all false
set_option maxRecDepth 1000000
namespace Go.Tw
open Go.Vx Go.Vx.B Go.Proofs
noncomputable def il36 : Inl := { f := 36, fn := Tryz.f36, keep := [], mU := [], fz := [] }
theorem yMB : y1s Tryz.prog il36 := ⟨by kernel_rfl, by kernel_rfl, fun e0 h => by cases (show (none : Option LibK) = some e0 from h)⟩
noncomputable def il40 : Inl := { f := 40, fn := Tryz.f40, keep := [], mU := [], fz := [] }
theorem yMt : y1s Tryz.prog il40 := ⟨by kernel_rfl, by kernel_rfl, fun e0 h => by cases (show (none : Option LibK) = some e0 from h)⟩
noncomputable def il37 : Inl := { f := 37, fn := Tryz.f37, keep := [], mU := [], fz := [] }
theorem yNw : y1s Tryz.prog il37 := ⟨by kernel_rfl, by kernel_rfl, fun e0 h => by cases (show (none : Option LibK) = some e0 from h)⟩
noncomputable def il85 : Inl := { f := 85, fn := Tryz.f85, lib := some (.copy 98) }
theorem yMG : y1s Tryz.prog il85 := ⟨by kernel_rfl, by kernel_rfl, fun e0 h => by cases (show some (.copy 98 : LibK) = some e0 from h); exact yQy⟩
/-! ### gate.Print -/
abbrev yNa : Ty := .pair t34 .unit
abbrev yPP : Ty := .pair t9 (.pair t28 .unit)
noncomputable def yON : G := { T := T, E := [zy_e, z0V_e, z0W_e], mU := [5], fz := [], lv := some [1, 5, 6, 19, 20, 21, 41, 42, 43] }
def yRW : List (List Nat) := [[1, 5, 6, 19, 20, 21], [5, 6, 41, 42, 43]]
noncomputable def yLK (n : Nat) : Ann := { keep := yRW, fuel := n, inl := [il36, il40, il37, il85], deep := 8 }
noncomputable def yA1 (n : Nat) (r1 : Cha → List Sta → Int → Int → List Int → Option (List UInt8 × Int × Unit)) (c1_1 : Cha) (t19_1 : List Sta) (t20_1 : Int) (t21_1 : Int) (cs1_1 : List Int) (v2 : Sta) (j3 : List UInt8) : Option (List UInt8 × Int × Unit) :=
  (Option.bind (Go.Tw.yJu v2.snd.fst) fun (v4 : List UInt8 × Unit) => (Option.bind (Go.Tw.yJu v2.snd.snd.fst) fun (v5 : List UInt8 × Unit) => (Option.bind (Go.Tw.yDL [[(115 : UInt8), (116 : UInt8), (97 : UInt8), (116 : UInt8), (101 : UInt8)], v2.fst, v4.fst, v5.fst, j3] [(32 : UInt8)]) fun (v6 : List UInt8 × Unit) => (bif Decidable.decide (v6.fst.length + (1 : Nat) < Go.Vx.strMax) then (bif Decidable.decide (cs1_1.length + (v6.fst ++ [(10 : UInt8)]).length ≤ Go.Vx.memMax) then r1 c1_1 t19_1 t20_1 (Go.IntKind.i64.wrap (t21_1 + (1 : Int))) (cs1_1 ++ Go.Vx.yn (v6.fst ++ [(10 : UInt8)])) else none) else none))))

noncomputable def yEe (n : Nat) (r8 : List Tra → Int → Int → List Int → Option (List UInt8 × Int × Unit)) (t41_8 : List Tra) (t42_8 : Int) (t43_8 : Int) (cs1_8 : List Int) : Option (List UInt8 × Int × Unit) :=
  (bif Decidable.decide (t43_8 < t42_8) then (Option.bind (Go.Vx.idx t41_8 t43_8) fun (v9 : Tra) => (Option.bind (Go.Tw.yJu v9.fst) fun (v10 : List UInt8 × Unit) => (Option.bind (Go.Tw.yJu v9.snd.snd.fst) fun (v11 : List UInt8 × Unit) => (Option.bind (Go.Tw.yJu v9.snd.snd.snd.fst) fun (v12 : List UInt8 × Unit) => (Option.bind (Go.Tw.yJu v9.snd.snd.snd.snd.fst) fun (v13 : List UInt8 × Unit) => (Option.bind (Go.Tw.yDL [[(109 : UInt8), (111 : UInt8), (118 : UInt8), (101 : UInt8)], v10.fst, v9.snd.fst, v11.fst, v12.fst, v13.fst] [(32 : UInt8)]) fun (v14 : List UInt8 × Unit) => (bif Decidable.decide (v14.fst.length + (1 : Nat) < Go.Vx.strMax) then (bif Decidable.decide (cs1_8.length + (v14.fst ++ [(10 : UInt8)]).length ≤ Go.Vx.memMax) then r8 t41_8 t42_8 (Go.IntKind.i64.wrap (t43_8 + (1 : Int))) (cs1_8 ++ Go.Vx.yn (v14.fst ++ [(10 : UInt8)])) else none) else none))))))) else (bif Decidable.decide ((0 : Nat) < cs1_8.length) then (bif (↑cs1_8.length : Int) == (↑cs1_8.length : Int) && Decidable.decide ((0 : Nat) < cs1_8.length) && Go.Vx.y86 cs1_8 then Option.some (Go.Vx.y0f cs1_8, (0 : Int), ()) else none) else none))

noncomputable def y7T (n : Nat)  (k : Nat) (t41_8 : List Tra) (t42_8 : Int) (t43_8 : Int) (cs1_8 : List Int) : Option (List UInt8 × Int × Unit) :=
  iter (fun r y => yEe n (fun t41_8 t42_8 t43_8 cs1_8 => r (((), (t41_8, (t42_8, (t43_8, ())))), (((), (cs1_8, ())), ()))) y.1.2.1 y.1.2.2.1 y.1.2.2.2.1 y.2.1.2.1) k (((), (t41_8, (t42_8, (t43_8, ())))), (((), (cs1_8, ())), ()))

noncomputable def yFU (n : Nat) (r1 : Cha → List Sta → Int → Int → List Int → Option (List UInt8 × Int × Unit)) (c1_1 : Cha) (t19_1 : List Sta) (t20_1 : Int) (t21_1 : Int) (cs1_1 : List Int) : Option (List UInt8 × Int × Unit) :=
  (bif Decidable.decide (t21_1 < t20_1) then (Option.bind (Go.Vx.idx t19_1 t21_1) fun (v2 : Sta) => (bif v2.snd.snd.snd.fst then (yA1 n r1 c1_1 t19_1 t20_1 t21_1 cs1_1 v2 ([(49 : UInt8)])) else (yA1 n r1 c1_1 t19_1 t20_1 t21_1 cs1_1 v2 ([(48 : UInt8)])))) else (y7T n n (c1_1.snd.fst) ((↑c1_1.snd.fst.length : Int)) ((0 : Int)) (cs1_1)))

noncomputable def y7Y (n : Nat)  (k : Nat) (c1_1 : Cha) (t19_1 : List Sta) (t20_1 : Int) (t21_1 : Int) (cs1_1 : List Int) : Option (List UInt8 × Int × Unit) :=
  iter (fun r y => yFU n (fun c1_1 t19_1 t20_1 t21_1 cs1_1 => r ((c1_1, ((), (t19_1, (t20_1, (t21_1, ()))))), (((), (cs1_1, ())), ()))) y.1.1 y.1.2.2.1 y.1.2.2.2.1 y.1.2.2.2.2.1 y.2.1.2.1) k ((c1_1, ((), (t19_1, (t20_1, (t21_1, ()))))), (((), (cs1_1, ())), ()))

noncomputable def yJr (n : Nat) (c : Cha) : Option (List UInt8 × Int × Unit) :=
  (Option.bind (Go.Tw.zy_M c) fun (v0 : Int × Unit) => (bif v0.fst != (0 : Int) then Option.some ([], v0.fst, ()) else (y7Y n n (c) (c.fst) ((↑c.fst.length : Int)) ((0 : Int)) ([]))))

theorem yR7 (n : Nat) (x : yNa.den) : runF yON (yLK n) Tryz.f7 yNa yPP x = yJr n x.1 := by kernel_rfl

noncomputable def yBr (c1_1 : Cha) (t19_1 : List Sta) (t21_1 : Int) (cs1_1 : List Int) (v2 : Sta) (j3 : List UInt8) : Option ((List UInt8 × Int × Unit) ⊕ (List Int)) :=
  (Option.bind (Go.Tw.yJu v2.snd.fst) fun (v4 : List UInt8 × Unit) => (Option.bind (Go.Tw.yJu v2.snd.snd.fst) fun (v5 : List UInt8 × Unit) => (Option.bind (Go.Tw.yDL [[(115 : UInt8), (116 : UInt8), (97 : UInt8), (116 : UInt8), (101 : UInt8)], v2.fst, v4.fst, v5.fst, j3] [(32 : UInt8)]) fun (v6 : List UInt8 × Unit) => (bif Decidable.decide (v6.fst.length + (1 : Nat) < Go.Vx.strMax) then (bif Decidable.decide (cs1_1.length + (v6.fst ++ [(10 : UInt8)]).length ≤ Go.Vx.memMax) then (some (Sum.inr (cs1_1 ++ Go.Vx.yn (v6.fst ++ [(10 : UInt8)])))) else none) else none))))

theorem y3Q (n : Nat) (hn : big ≤ n)  (r1 : Cha → List Sta → Int → Int → List Int → Option (List UInt8 × Int × Unit)) (c1_1 : Cha) (t19_1 : List Sta) (t21_1 : Int) (cs1_1 : List Int) (v2 : Sta) (j3 : List UInt8) : LeF (elim some fun (s__ : (List Int)) => r1 c1_1 t19_1 (List.length (t19_1) : Int) (Go.IntKind.i64.wrap (t21_1 + 1)) s__) (yBr c1_1 t19_1 t21_1 cs1_1 v2 j3) (yA1 n r1 c1_1 t19_1 (List.length (t19_1) : Int) t21_1 cs1_1 v2 j3) :=
  (yA fun v4 => (yA fun v5 => (yA fun v6 => (y4 (y4 (y6 rfl) yL) yL))))

noncomputable def y9k (t41_8 : List Tra) (t43_8 : Int) (v9 : Tra) (cs1_8 : List Int) : Option ((List UInt8 × Int × Unit) ⊕ (List Int)) :=
  (Option.bind (Go.Tw.yJu v9.fst) fun (v10 : List UInt8 × Unit) => (Option.bind (Go.Tw.yJu v9.snd.snd.fst) fun (v11 : List UInt8 × Unit) => (Option.bind (Go.Tw.yJu v9.snd.snd.snd.fst) fun (v12 : List UInt8 × Unit) => (Option.bind (Go.Tw.yJu v9.snd.snd.snd.snd.fst) fun (v13 : List UInt8 × Unit) => (Option.bind (Go.Tw.yDL [[(109 : UInt8), (111 : UInt8), (118 : UInt8), (101 : UInt8)], v10.fst, v9.snd.fst, v11.fst, v12.fst, v13.fst] [(32 : UInt8)]) fun (v14 : List UInt8 × Unit) => (bif Decidable.decide (v14.fst.length + (1 : Nat) < Go.Vx.strMax) then (bif Decidable.decide (cs1_8.length + (v14.fst ++ [(10 : UInt8)]).length ≤ Go.Vx.memMax) then (some (Sum.inr (cs1_8 ++ Go.Vx.yn (v14.fst ++ [(10 : UInt8)])))) else none) else none))))))

noncomputable def y9W (t41_8 : List Tra) (cs1_8 : List Int) : Option (List UInt8 × Int × Unit) :=
  (bif Decidable.decide ((0 : Nat) < cs1_8.length) then (bif (↑cs1_8.length : Int) == (↑cs1_8.length : Int) && Decidable.decide ((0 : Nat) < cs1_8.length) && Go.Vx.y86 cs1_8 then (some ((Go.Vx.y0f cs1_8, (0 : Int), ()))) else none) else none)

theorem yDx (n : Nat) (hn : big ≤ n)  (t41_8 : List Tra) (cs1_8 : List Int) (hx : List.length (t41_8) < lenMax) : LeF some (yI (fun i__ e__ s__ => y9k t41_8 i__ e__ s__) (fun s__ => y9W t41_8 s__) 0 (t41_8) cs1_8) (y7T n n t41_8 (List.length (t41_8) : Int) 0 cs1_8) := by
  refine yQ (f := some) (W := fun k__ i__ s__ => y7T n k__ t41_8 (List.length (t41_8) : Int) i__ s__) (body := (fun i__ e__ s__ => y9k t41_8 i__ e__ s__)) (fin := (fun s__ => y9W t41_8 s__)) (fun k__ i__ s__ => ?_) hx cs1_8 n (by unfold big at hn; unfold lenMax at hx; omega)
  show LeF _ _ (yEe n (y7T n k__) t41_8 (List.length (t41_8) : Int) i__ s__)
  exact y4 (yA fun v9 => (yA fun v10 => (yA fun v11 => (yA fun v12 => (yA fun v13 => (yA fun v14 => (y4 (y4 (y6 rfl) yL) yL))))))) (y0R (y4 (y4 (y6 rfl) yL) yL))

noncomputable def y8j (c1_1 : Cha) (t19_1 : List Sta) (t21_1 : Int) (v2 : Sta) (cs1_1 : List Int) : Option ((List UInt8 × Int × Unit) ⊕ (List Int)) :=
  (bif v2.snd.snd.snd.fst then (yBr c1_1 t19_1 t21_1 cs1_1 v2 ([(49 : UInt8)])) else (yBr c1_1 t19_1 t21_1 cs1_1 v2 ([(48 : UInt8)])))

noncomputable def y8O (c1_1 : Cha) (t19_1 : List Sta) (cs1_1 : List Int) : Option (List UInt8 × Int × Unit) :=
  (bif decide (List.length (c1_1.snd.fst) < lenMax) then yI (fun i__ e__ s__ => y9k (c1_1.snd.fst) i__ e__ s__) (fun s__ => y9W (c1_1.snd.fst) s__) 0 (c1_1.snd.fst) (cs1_1) else none)

theorem yCn (n : Nat) (hn : big ≤ n)  (c1_1 : Cha) (t19_1 : List Sta) (cs1_1 : List Int) (hx : List.length (t19_1) < lenMax) : LeF some (yI (fun i__ e__ s__ => y8j c1_1 t19_1 i__ e__ s__) (fun s__ => y8O c1_1 t19_1 s__) 0 (t19_1) cs1_1) (y7Y n n c1_1 t19_1 (List.length (t19_1) : Int) 0 cs1_1) := by
  refine yQ (f := some) (W := fun k__ i__ s__ => y7Y n k__ c1_1 t19_1 (List.length (t19_1) : Int) i__ s__) (body := (fun i__ e__ s__ => y8j c1_1 t19_1 i__ e__ s__)) (fin := (fun s__ => y8O c1_1 t19_1 s__)) (fun k__ i__ s__ => ?_) hx cs1_1 n (by unfold big at hn; unfold lenMax at hx; omega)
  show LeF _ _ (yFU n (y7Y n k__) c1_1 t19_1 (List.length (t19_1) : Int) i__ s__)
  exact y4 (yA fun v2 => (y4 (by apply y3Q n hn) (by apply y3Q n hn))) (y0R (yW fun hx => by apply yDx n hn; exact hx))

noncomputable def yDK (c : Cha) : Option (List UInt8 × Int × Unit) :=
  (Option.bind (Go.Tw.zy_M c) fun (v0 : Int × Unit) => (bif v0.fst != (0 : Int) then (some (([], v0.fst, ()))) else (bif decide (List.length (c.fst) < lenMax) then yI (fun i__ e__ s__ => y8j (c) (c.fst) i__ e__ s__) (fun s__ => y8O (c) (c.fst) s__) 0 (c.fst) ([]) else none)))

theorem yMV (c : Cha) (y : List UInt8 × Int × Unit) (h : yDK c = some y) : ∃ n, yJr n c = some y :=
  ⟨big, LeF.top (show LeF some (yDK c) (yJr big c) from (fun (n : Nat) (hn : big ≤ n) => show LeF some (yDK c) (yJr n c) from (yA fun v0 => (y4 (y6 rfl) (yW fun hx => by apply yCn n hn; exact hx)))) big (Nat.le_refl _)) h⟩
noncomputable def z0l_e : Entry := { f := 7, args := yNa, rS := yPP, m := fun x => yDK x.1 }
theorem yL2 : FnOK Tryz.prog z0l_e := y1t (g := yON) (fn := Tryz.f7) y0I y1i (yB y6q (yB yQ5 (yB yOo eNil))) (by kernel_rfl) (by kernel_rfl) (by kernel_rfl) (fun x y h => let ⟨n, hn⟩ := yMV x.1 y h; ⟨yLK n, (y3o yMB (y3o yMt (y3o yNw (y3o yMG iNil)))), (yR7 n x).trans hn⟩)

noncomputable def il41 : Inl := { f := 41, fn := Tryz.f41, keep := [], mU := [1], fz := [] }
theorem yML : y1s Tryz.prog il41 := ⟨by kernel_rfl, by kernel_rfl, fun e0 h => by cases (show (none : Option LibK) = some e0 from h)⟩
noncomputable def il43 : Inl := { f := 43, fn := Tryz.f43, keep := [], mU := [19], fz := [], lv := some [0, 5, 6, 7, 8, 9, 11, 12, 13, 14] }
theorem yLr : y1s Tryz.prog il43 := ⟨by kernel_rfl, by kernel_rfl, fun e0 h => by cases (show (none : Option LibK) = some e0 from h)⟩
noncomputable def il91 : Inl := { f := 91, fn := Tryz.f91, keep := [], mU := [], fz := [] }
theorem yLz : y1s Tryz.prog il91 := ⟨by kernel_rfl, by kernel_rfl, fun e0 h => by cases (show (none : Option LibK) = some e0 from h)⟩
noncomputable def il92 : Inl := { f := 92, fn := Tryz.f92, keep := [], mU := [], fz := [] }
theorem yMh : y1s Tryz.prog il92 := ⟨by kernel_rfl, by kernel_rfl, fun e0 h => by cases (show (none : Option LibK) = some e0 from h)⟩
noncomputable def il88 : Inl := { f := 88, fn := Tryz.f88, keep := [[0, 1]], mU := [], fz := [], lv := some [0, 1] }
theorem yNe : y1s Tryz.prog il88 := ⟨by kernel_rfl, by kernel_rfl, fun e0 h => by cases (show (none : Option LibK) = some e0 from h)⟩
/-! ### gate.Parse -/
abbrev yLo : Ty := .pair t9 .unit
abbrev yQA : Ty := .pair t34 (.pair t3 (.pair t28 .unit))
noncomputable def yPy : G := { T := T, E := [zl_e, z0F_e, zy_e, z0I_e, zm_e], mU := [5], fz := [], lv := some [2, 3, 4, 5, 6, 16, 17, 25], sep := [6] }
def yS5 : List (List Nat) := []
noncomputable def yLH (n : Nat) : Ann := { keep := yS5, fuel := n, inl := [il41, il43, il91, il92, il88], deep := 8 }
noncomputable def y7m (n : Nat) (r0 : List UInt8 → Int → Int → Int → List Sta → List Tra → Option (Cha × Int × Int × Unit)) (b3_0_0 : Int) (b4_0_0 : Int) (b6_0_0 : Int) (c7_0 : List Sta) (c8_0 : List Tra) (j1 : List UInt8) (v12 : List UInt8) (j41 : Int) (j71 : Int) (j80 : Bool) (j81 : List UInt8) : Option (Cha × Int × Int × Unit) :=
  (bif Decidable.decide (c7_0.length + (1 : Nat) ≤ Go.Vx.memMax) then (bif !j80 then (bif j81 == [(48 : UInt8)] then r0 j1 b3_0_0 b4_0_0 (Go.IntKind.i64.wrap (b6_0_0 + (1 : Int))) (c7_0 ++ [(v12, j41, j71, j81 == [(49 : UInt8)], ())]) c8_0 else (bif !j81 == [(49 : UInt8)] then Option.some (([], [], ()), b6_0_0, (26 : Int), ()) else r0 j1 b3_0_0 b4_0_0 (Go.IntKind.i64.wrap (b6_0_0 + (1 : Int))) (c7_0 ++ [(v12, j41, j71, j81 == [(49 : UInt8)], ())]) c8_0)) else Option.some (([], [], ()), b6_0_0, (26 : Int), ())) else none)

noncomputable def y5D (n : Nat) (r0 : List UInt8 → Int → Int → Int → List Sta → List Tra → Option (Cha × Int × Int × Unit)) (b3_0_0 : Int) (b4_0_0 : Int) (b6_0_0 : Int) (c7_0 : List Sta) (c8_0 : List Tra) (j1 : List UInt8) (v4 : List (List UInt8) × Unit) (v12 : List UInt8) (j41 : Int) (j70 : Bool) (j71 : Int) : Option (Cha × Int × Int × Unit) :=
  (Option.bind (Go.Vx.idx (List.drop (Int.toNat (1 : Int)) (List.drop (Int.toNat (1 : Int)) (List.drop (Int.toNat (1 : Int)) (List.drop (Int.toNat (1 : Int)) v4.fst)))) (0 : Int)) fun (v73 : List UInt8) => (bif Decidable.decide ((0 : Int) ≤ (1 : Int)) && Decidable.decide ((1 : Int) ≤ (↑(List.drop (Int.toNat (1 : Int)) (List.drop (Int.toNat (1 : Int)) (List.drop (Int.toNat (1 : Int)) (List.drop (Int.toNat (1 : Int)) v4.fst)))).length : Int)) then (bif j70 then (y7m n r0 b3_0_0 b4_0_0 b6_0_0 c7_0 c8_0 j1 v12 j41 j71 (Bool.true) (v73)) else (y7m n r0 b3_0_0 b4_0_0 b6_0_0 c7_0 c8_0 j1 v12 j41 j71 (v73 == []) (v73))) else none))

noncomputable def y5v (n : Nat) (r0 : List UInt8 → Int → Int → Int → List Sta → List Tra → Option (Cha × Int × Int × Unit)) (b3_0_0 : Int) (b4_0_0 : Int) (b6_0_0 : Int) (c7_0 : List Sta) (c8_0 : List Tra) (j1 : List UInt8) (v4 : List (List UInt8) × Unit) (v12 : List UInt8) (j40 : Bool) (j41 : Int) : Option (Cha × Int × Int × Unit) :=
  (Option.bind (Go.Vx.idx (List.drop (Int.toNat (1 : Int)) (List.drop (Int.toNat (1 : Int)) (List.drop (Int.toNat (1 : Int)) v4.fst))) (0 : Int)) fun (v43 : List UInt8) => (bif Decidable.decide ((0 : Int) ≤ (1 : Int)) && Decidable.decide ((1 : Int) ≤ (↑(List.drop (Int.toNat (1 : Int)) (List.drop (Int.toNat (1 : Int)) (List.drop (Int.toNat (1 : Int)) v4.fst))).length : Int)) then (bif j40 then (Option.bind (Go.Tw.yBM v43) fun (v50 : Int × Bool × Unit) => (y5D n r0 b3_0_0 b4_0_0 b6_0_0 c7_0 c8_0 j1 v4 v12 j41 (Bool.true) (v50.fst))) else (Option.bind (Go.Tw.yBM v43) fun (v51 : Int × Bool × Unit) => (bif v43 == [] then (y5D n r0 b3_0_0 b4_0_0 b6_0_0 c7_0 c8_0 j1 v4 v12 j41 (Bool.true) (v51.fst)) else (y5D n r0 b3_0_0 b4_0_0 b6_0_0 c7_0 c8_0 j1 v4 v12 j41 (!v51.snd.fst) (v51.fst))))) else none))

noncomputable def y4R (n : Nat) (r0 : List UInt8 → Int → Int → Int → List Sta → List Tra → Option (Cha × Int × Int × Unit)) (b3_0_0 : Int) (b4_0_0 : Int) (b6_0_0 : Int) (c7_0 : List Sta) (c8_0 : List Tra) (j1 : List UInt8) (v4 : List (List UInt8) × Unit) (j102 : Int × Bool × Unit) (j111 : List UInt8) (j140 : Int) (j169 : Bool) (j170 : Int) : Option (Cha × Int × Int × Unit) :=
  (Option.bind (Go.Vx.idx (List.drop (Int.toNat (1 : Int)) (List.drop (Int.toNat (1 : Int)) (List.drop (Int.toNat (1 : Int)) (List.drop (Int.toNat (1 : Int)) (List.drop (Int.toNat (1 : Int)) v4.fst))))) (0 : Int)) fun (v172 : List UInt8) => (bif Decidable.decide ((0 : Int) ≤ (1 : Int)) && Decidable.decide ((1 : Int) ≤ (↑(List.drop (Int.toNat (1 : Int)) (List.drop (Int.toNat (1 : Int)) (List.drop (Int.toNat (1 : Int)) (List.drop (Int.toNat (1 : Int)) (List.drop (Int.toNat (1 : Int)) v4.fst))))).length : Int)) then (bif j169 then (Option.bind (Go.Tw.yBM v172) fun (v179 : Int × Bool × Unit) => (bif Decidable.decide (c8_0.length + (1 : Nat) ≤ Go.Vx.memMax) then Option.some (([], [], ()), b6_0_0, (26 : Int), ()) else none)) else (Option.bind (Go.Tw.yBM v172) fun (v180 : Int × Bool × Unit) => (bif v172 == [] then (bif Decidable.decide (c8_0.length + (1 : Nat) ≤ Go.Vx.memMax) then Option.some (([], [], ()), b6_0_0, (26 : Int), ()) else none) else (bif Decidable.decide (c8_0.length + (1 : Nat) ≤ Go.Vx.memMax) then (bif !!!v180.snd.fst then Option.some (([], [], ()), b6_0_0, (26 : Int), ()) else r0 j1 b3_0_0 b4_0_0 (Go.IntKind.i64.wrap (b6_0_0 + (1 : Int))) c7_0 (c8_0 ++ [(j102.fst, j111, j140, j170, v180.fst, ())])) else none)))) else none))

noncomputable def y4E (n : Nat) (r0 : List UInt8 → Int → Int → Int → List Sta → List Tra → Option (Cha × Int × Int × Unit)) (b3_0_0 : Int) (b4_0_0 : Int) (b6_0_0 : Int) (c7_0 : List Sta) (c8_0 : List Tra) (j1 : List UInt8) (v4 : List (List UInt8) × Unit) (j102 : Int × Bool × Unit) (j111 : List UInt8) (j139 : Bool) (j140 : Int) : Option (Cha × Int × Int × Unit) :=
  (Option.bind (Go.Vx.idx (List.drop (Int.toNat (1 : Int)) (List.drop (Int.toNat (1 : Int)) (List.drop (Int.toNat (1 : Int)) (List.drop (Int.toNat (1 : Int)) v4.fst)))) (0 : Int)) fun (v142 : List UInt8) => (bif Decidable.decide ((0 : Int) ≤ (1 : Int)) && Decidable.decide ((1 : Int) ≤ (↑(List.drop (Int.toNat (1 : Int)) (List.drop (Int.toNat (1 : Int)) (List.drop (Int.toNat (1 : Int)) (List.drop (Int.toNat (1 : Int)) v4.fst)))).length : Int)) then (bif j139 then (Option.bind (Go.Tw.yBM v142) fun (v149 : Int × Bool × Unit) => (y4R n r0 b3_0_0 b4_0_0 b6_0_0 c7_0 c8_0 j1 v4 j102 j111 j140 (Bool.true) (v149.fst))) else (Option.bind (Go.Tw.yBM v142) fun (v150 : Int × Bool × Unit) => (bif v142 == [] then (y4R n r0 b3_0_0 b4_0_0 b6_0_0 c7_0 c8_0 j1 v4 j102 j111 j140 (Bool.true) (v150.fst)) else (y4R n r0 b3_0_0 b4_0_0 b6_0_0 c7_0 c8_0 j1 v4 j102 j111 j140 (!v150.snd.fst) (v150.fst))))) else none))

noncomputable def y6I (n : Nat) (r0 : List UInt8 → Int → Int → Int → List Sta → List Tra → Option (Cha × Int × Int × Unit)) (b3_0_0 : Int) (b4_0_0 : Int) (b6_0_0 : Int) (c7_0 : List Sta) (c8_0 : List Tra) (j1 : List UInt8) (v4 : List (List UInt8) × Unit) (j102 : Int × Bool × Unit) (j110 : Bool) (j111 : List UInt8) : Option (Cha × Int × Int × Unit) :=
  (Option.bind (Go.Vx.idx (List.drop (Int.toNat (1 : Int)) (List.drop (Int.toNat (1 : Int)) (List.drop (Int.toNat (1 : Int)) v4.fst))) (0 : Int)) fun (v112 : List UInt8) => (bif Decidable.decide ((0 : Int) ≤ (1 : Int)) && Decidable.decide ((1 : Int) ≤ (↑(List.drop (Int.toNat (1 : Int)) (List.drop (Int.toNat (1 : Int)) (List.drop (Int.toNat (1 : Int)) v4.fst))).length : Int)) then (bif j110 then (Option.bind (Go.Tw.yBM v112) fun (v119 : Int × Bool × Unit) => (y4E n r0 b3_0_0 b4_0_0 b6_0_0 c7_0 c8_0 j1 v4 j102 j111 (Bool.true) (v119.fst))) else (Option.bind (Go.Tw.yBM v112) fun (v120 : Int × Bool × Unit) => (bif v112 == [] then (y4E n r0 b3_0_0 b4_0_0 b6_0_0 c7_0 c8_0 j1 v4 j102 j111 (Bool.true) (v120.fst)) else (y4E n r0 b3_0_0 b4_0_0 b6_0_0 c7_0 c8_0 j1 v4 j102 j111 (!v120.snd.fst) (v120.fst))))) else none))

noncomputable def y5y (n : Nat) (r0 : List UInt8 → Int → Int → Int → List Sta → List Tra → Option (Cha × Int × Int × Unit)) (b3_0_0 : Int) (b4_0_0 : Int) (b6_0_0 : Int) (c7_0 : List Sta) (c8_0 : List Tra) (j1 : List UInt8) (v4 : List (List UInt8) × Unit) (j101 : Bool) (j102 : Int × Bool × Unit) : Option (Cha × Int × Int × Unit) :=
  (Option.bind (Go.Vx.idx (List.drop (Int.toNat (1 : Int)) (List.drop (Int.toNat (1 : Int)) v4.fst)) (0 : Int)) fun (v103 : List UInt8) => (bif Decidable.decide ((0 : Int) ≤ (1 : Int)) && Decidable.decide ((1 : Int) ≤ (↑(List.drop (Int.toNat (1 : Int)) (List.drop (Int.toNat (1 : Int)) v4.fst)).length : Int)) then (bif j101 then (y6I n r0 b3_0_0 b4_0_0 b6_0_0 c7_0 c8_0 j1 v4 j102 (Bool.true) (v103)) else (y6I n r0 b3_0_0 b4_0_0 b6_0_0 c7_0 c8_0 j1 v4 j102 (v103 == []) (v103))) else none))

noncomputable def y5x (n : Nat) (r0 : List UInt8 → Int → Int → Int → List Sta → List Tra → Option (Cha × Int × Int × Unit)) (b3_0_0 : Int) (b4_0_0 : Int) (b6_0_0 : Int) (c7_0 : List Sta) (c8_0 : List Tra) (j1 : List UInt8) (v4 : List (List UInt8) × Unit) (j89 : Bool) : Option (Cha × Int × Int × Unit) :=
  (bif j89 then (Option.bind (Go.Vx.idx (List.drop (Int.toNat (1 : Int)) v4.fst) (0 : Int)) fun (v93 : List UInt8) => (bif Decidable.decide ((0 : Int) ≤ (1 : Int)) && Decidable.decide ((1 : Int) ≤ (↑(List.drop (Int.toNat (1 : Int)) v4.fst).length : Int)) then (Option.bind (Go.Tw.yBM v93) fun (v94 : Int × Bool × Unit) => (bif v93 == [] then (y5y n r0 b3_0_0 b4_0_0 b6_0_0 c7_0 c8_0 j1 v4 (Bool.true) (v94)) else (y5y n r0 b3_0_0 b4_0_0 b6_0_0 c7_0 c8_0 j1 v4 (!v94.snd.fst) (v94)))) else none)) else Option.some (([], [], ()), b6_0_0, (26 : Int), ()))

noncomputable def y4U (n : Nat) (r0 : List UInt8 → Int → Int → Int → List Sta → List Tra → Option (Cha × Int × Int × Unit)) (b3_0_0 : Int) (b4_0_0 : Int) (b6_0_0 : Int) (c7_0 : List Sta) (c8_0 : List Tra) (j1 : List UInt8) (v4 : List (List UInt8) × Unit) (j6 : Bool) : Option (Cha × Int × Int × Unit) :=
  (bif j6 then (Option.bind (Go.Vx.idx (List.drop (Int.toNat (1 : Int)) v4.fst) (0 : Int)) fun (v12 : List UInt8) => (bif Decidable.decide ((0 : Int) ≤ (1 : Int)) && Decidable.decide ((1 : Int) ≤ (↑(List.drop (Int.toNat (1 : Int)) v4.fst).length : Int)) then (Option.bind (Go.Vx.idx (List.drop (Int.toNat (1 : Int)) (List.drop (Int.toNat (1 : Int)) v4.fst)) (0 : Int)) fun (v13 : List UInt8) => (bif Decidable.decide ((0 : Int) ≤ (1 : Int)) && Decidable.decide ((1 : Int) ≤ (↑(List.drop (Int.toNat (1 : Int)) (List.drop (Int.toNat (1 : Int)) v4.fst)).length : Int)) then (bif v12 == [] then (Option.bind (Go.Tw.yBM v13) fun (v20 : Int × Bool × Unit) => (y5v n r0 b3_0_0 b4_0_0 b6_0_0 c7_0 c8_0 j1 v4 v12 (Bool.true) (v20.fst))) else (Option.bind (Go.Tw.yBM v13) fun (v21 : Int × Bool × Unit) => (bif v13 == [] then (y5v n r0 b3_0_0 b4_0_0 b6_0_0 c7_0 c8_0 j1 v4 v12 (Bool.true) (v21.fst)) else (y5v n r0 b3_0_0 b4_0_0 b6_0_0 c7_0 c8_0 j1 v4 v12 (!v21.snd.fst) (v21.fst))))) else none)) else none)) else (Option.bind (Go.Vx.idx v4.fst (0 : Int)) fun (v88 : List UInt8) => (bif v88 == [(109 : UInt8), (111 : UInt8), (118 : UInt8), (101 : UInt8)] then (y5x n r0 b3_0_0 b4_0_0 b6_0_0 c7_0 c8_0 j1 v4 ((↑v4.fst.length : Int) == (6 : Int))) else (y5x n r0 b3_0_0 b4_0_0 b6_0_0 c7_0 c8_0 j1 v4 (Bool.false)))))

noncomputable def y6C (n : Nat) (r0 : List UInt8 → Int → Int → Int → List Sta → List Tra → Option (Cha × Int × Int × Unit)) (b3_0_0 : Int) (b4_0_0 : Int) (b6_0_0 : Int) (c7_0 : List Sta) (c8_0 : List Tra) (j1 : List UInt8) (j2 : List UInt8) : Option (Cha × Int × Int × Unit) :=
  (Option.bind (Go.Tw.zl_M j2 [(10 : UInt8)]) fun (v3 : List UInt8 × Bool × Unit) => (bif !v3.snd.fst then Option.some (([], [], ()), b6_0_0, (26 : Int), ()) else (Option.bind (Go.Tw.yBm v3.fst [(32 : UInt8)]) fun (v4 : List (List UInt8) × Unit) => (bif Decidable.decide ((0 : Int) ≤ (1 : Int)) && Decidable.decide ((1 : Int) ≤ (↑v4.fst.length : Int)) then (Option.bind (Go.Vx.idx v4.fst (0 : Int)) fun (v5 : List UInt8) => (bif v5 == [(115 : UInt8), (116 : UInt8), (97 : UInt8), (116 : UInt8), (101 : UInt8)] then (bif (↑v4.fst.length : Int) == (5 : Int) then (y4U n r0 b3_0_0 b4_0_0 b6_0_0 c7_0 c8_0 j1 v4 ((↑c8_0.length : Int) == (0 : Int))) else (y4U n r0 b3_0_0 b4_0_0 b6_0_0 c7_0 c8_0 j1 v4 (Bool.false))) else (y4U n r0 b3_0_0 b4_0_0 b6_0_0 c7_0 c8_0 j1 v4 (Bool.false)))) else none))))

noncomputable def yEU (n : Nat) (r0 : List UInt8 → Int → Int → Int → List Sta → List Tra → Option (Cha × Int × Int × Unit)) (b1_0_0 : List UInt8) (b3_0_0 : Int) (b4_0_0 : Int) (b6_0_0 : Int) (c7_0 : List Sta) (c8_0 : List Tra) : Option (Cha × Int × Int × Unit) :=
  (bif Decidable.decide ((↑b1_0_0.length : Int) > (0 : Int)) then (bif Decidable.decide (Go.Lib.indexByte b1_0_0 (Int.toNat (10 : Int)).toUInt8 ≥ (0 : Int)) then (bif Decidable.decide ((0 : Int) ≤ Go.IntKind.i64.wrap (Go.Lib.indexByte b1_0_0 (Int.toNat (10 : Int)).toUInt8 + (1 : Int))) && Decidable.decide (Go.IntKind.i64.wrap (Go.Lib.indexByte b1_0_0 (Int.toNat (10 : Int)).toUInt8 + (1 : Int)) ≤ (↑b1_0_0.length : Int)) then (bif Decidable.decide ((0 : Int) ≤ Go.IntKind.i64.wrap (Go.Lib.indexByte b1_0_0 (Int.toNat (10 : Int)).toUInt8 + (1 : Int))) && Decidable.decide (Go.IntKind.i64.wrap (Go.Lib.indexByte b1_0_0 (Int.toNat (10 : Int)).toUInt8 + (1 : Int)) ≤ (↑b1_0_0.length : Int)) then (y6C n r0 b3_0_0 b4_0_0 b6_0_0 c7_0 c8_0 (List.drop (Go.IntKind.i64.wrap (Go.Lib.indexByte b1_0_0 (Int.toNat (10 : Int)).toUInt8 + (1 : Int))).toNat b1_0_0) (List.take (Go.IntKind.i64.wrap (Go.Lib.indexByte b1_0_0 (Int.toNat (10 : Int)).toUInt8 + (1 : Int))).toNat b1_0_0)) else none) else none) else (y6C n r0 b3_0_0 b4_0_0 b6_0_0 c7_0 c8_0 ([]) (b1_0_0))) else (Option.bind (Go.Tw.zy_M (c7_0, c8_0, ())) fun (v209 : Int × Unit) => (bif v209.fst != (0 : Int) then Option.some (([], [], ()), b6_0_0, v209.fst, ()) else Option.some ((c7_0, c8_0, ()), (0 : Int), (0 : Int), ()))))

noncomputable def y76 (n : Nat)  (k : Nat) (b1_0_0 : List UInt8) (b3_0_0 : Int) (b4_0_0 : Int) (b6_0_0 : Int) (c7_0 : List Sta) (c8_0 : List Tra) : Option (Cha × Int × Int × Unit) :=
  iter (fun r y => yEU n (fun b1_0_0 b3_0_0 b4_0_0 b6_0_0 c7_0 c8_0 => r ((), ((((), ()), ((b1_0_0, ()), ((), ((b3_0_0, ()), ((b4_0_0, ()), ((), ((b6_0_0, ()), (c7_0, (c8_0, ()))))))))), ((), ())))) y.2.1.2.1.1 y.2.1.2.2.2.1.1 y.2.1.2.2.2.2.1.1 y.2.1.2.2.2.2.2.2.1.1 y.2.1.2.2.2.2.2.2.2.1 y.2.1.2.2.2.2.2.2.2.2.1) k ((), ((((), ()), ((b1_0_0, ()), ((), ((b3_0_0, ()), ((b4_0_0, ()), ((), ((b6_0_0, ()), (c7_0, (c8_0, ()))))))))), ((), ())))

noncomputable def yJa (n : Nat) (s : List UInt8) : Option (Cha × Int × Int × Unit) :=
  (bif Decidable.decide ((↑s.length : Int) > (1000000 : Int)) then Option.some (([], [], ()), (0 : Int), (27 : Int), ()) else (y76 n n (s) ((0 : Int)) ((0 : Int)) ((0 : Int)) ([]) ([])))

theorem yP6 (n : Nat) (x : yLo.den) : runF yPy (yLH n) Tryz.f9 yLo yQA x = yJa n x.1 := by kernel_rfl

noncomputable def y8i (b3_0_0 : Int) (b4_0_0 : Int) (b6_0_0 : Int) (c7_0 : List Sta) (c8_0 : List Tra) (j1 : List UInt8) (v12 : List UInt8) (j41 : Int) (j71 : Int) (j80 : Bool) (j81 : List UInt8) : Option ((Cha × Int × Int × Unit) ⊕ (List UInt8 × Int × (List Sta) × (List Tra))) :=
  (bif Decidable.decide (c7_0.length + (1 : Nat) ≤ Go.Vx.memMax) then (bif !j80 then (bif j81 == [(48 : UInt8)] then (some (Sum.inr ((j1), (Go.IntKind.i64.wrap (b6_0_0 + (1 : Int))), (c7_0 ++ [(v12, j41, j71, j81 == [(49 : UInt8)], ())]), (c8_0)))) else (bif !j81 == [(49 : UInt8)] then (some (Sum.inl ((([], [], ()), b6_0_0, (26 : Int), ())))) else (some (Sum.inr ((j1), (Go.IntKind.i64.wrap (b6_0_0 + (1 : Int))), (c7_0 ++ [(v12, j41, j71, j81 == [(49 : UInt8)], ())]), (c8_0)))))) else (some (Sum.inl ((([], [], ()), b6_0_0, (26 : Int), ()))))) else none)

theorem y2l (n : Nat) (hn : big ≤ n)  (r0 : List UInt8 → Int → Int → Int → List Sta → List Tra → Option (Cha × Int × Int × Unit)) (b3_0_0 : Int) (b4_0_0 : Int) (b6_0_0 : Int) (c7_0 : List Sta) (c8_0 : List Tra) (j1 : List UInt8) (v12 : List UInt8) (j41 : Int) (j71 : Int) (j80 : Bool) (j81 : List UInt8) : LeF (elim some fun (s__ : (List UInt8 × Int × (List Sta) × (List Tra))) => r0 s__.1 b3_0_0 b4_0_0 s__.2.1 s__.2.2.1 s__.2.2.2) (y8i b3_0_0 b4_0_0 b6_0_0 c7_0 c8_0 j1 v12 j41 j71 j80 j81) (y7m n r0 b3_0_0 b4_0_0 b6_0_0 c7_0 c8_0 j1 v12 j41 j71 j80 j81) :=
  (y4 (y4 (y4 (y6 rfl) (y4 (y6 rfl) (y6 rfl))) (y6 rfl)) yL)

noncomputable def y5w (b3_0_0 : Int) (b4_0_0 : Int) (b6_0_0 : Int) (c7_0 : List Sta) (c8_0 : List Tra) (j1 : List UInt8) (v4 : List (List UInt8) × Unit) (v12 : List UInt8) (j41 : Int) (j70 : Bool) (j71 : Int) : Option ((Cha × Int × Int × Unit) ⊕ (List UInt8 × Int × (List Sta) × (List Tra))) :=
  (Option.bind (Go.Vx.idx (List.drop (Int.toNat (1 : Int)) (List.drop (Int.toNat (1 : Int)) (List.drop (Int.toNat (1 : Int)) (List.drop (Int.toNat (1 : Int)) v4.fst)))) (0 : Int)) fun (v73 : List UInt8) => (bif Decidable.decide ((0 : Int) ≤ (1 : Int)) && Decidable.decide ((1 : Int) ≤ (↑(List.drop (Int.toNat (1 : Int)) (List.drop (Int.toNat (1 : Int)) (List.drop (Int.toNat (1 : Int)) (List.drop (Int.toNat (1 : Int)) v4.fst)))).length : Int)) then (bif j70 then (y8i b3_0_0 b4_0_0 b6_0_0 c7_0 c8_0 j1 v12 j41 j71 (Bool.true) (v73)) else (y8i b3_0_0 b4_0_0 b6_0_0 c7_0 c8_0 j1 v12 j41 j71 (v73 == []) (v73))) else none))

theorem y1Y (n : Nat) (hn : big ≤ n)  (r0 : List UInt8 → Int → Int → Int → List Sta → List Tra → Option (Cha × Int × Int × Unit)) (b3_0_0 : Int) (b4_0_0 : Int) (b6_0_0 : Int) (c7_0 : List Sta) (c8_0 : List Tra) (j1 : List UInt8) (v4 : List (List UInt8) × Unit) (v12 : List UInt8) (j41 : Int) (j70 : Bool) (j71 : Int) : LeF (elim some fun (s__ : (List UInt8 × Int × (List Sta) × (List Tra))) => r0 s__.1 b3_0_0 b4_0_0 s__.2.1 s__.2.2.1 s__.2.2.2) (y5w b3_0_0 b4_0_0 b6_0_0 c7_0 c8_0 j1 v4 v12 j41 j70 j71) (y5D n r0 b3_0_0 b4_0_0 b6_0_0 c7_0 c8_0 j1 v4 v12 j41 j70 j71) :=
  (yA fun v73 => (y4 (y4 (by apply y2l n hn) (by apply y2l n hn)) yL))

noncomputable def y62 (b3_0_0 : Int) (b4_0_0 : Int) (b6_0_0 : Int) (c7_0 : List Sta) (c8_0 : List Tra) (j1 : List UInt8) (v4 : List (List UInt8) × Unit) (v12 : List UInt8) (j40 : Bool) (j41 : Int) : Option ((Cha × Int × Int × Unit) ⊕ (List UInt8 × Int × (List Sta) × (List Tra))) :=
  (Option.bind (Go.Vx.idx (List.drop (Int.toNat (1 : Int)) (List.drop (Int.toNat (1 : Int)) (List.drop (Int.toNat (1 : Int)) v4.fst))) (0 : Int)) fun (v43 : List UInt8) => (bif Decidable.decide ((0 : Int) ≤ (1 : Int)) && Decidable.decide ((1 : Int) ≤ (↑(List.drop (Int.toNat (1 : Int)) (List.drop (Int.toNat (1 : Int)) (List.drop (Int.toNat (1 : Int)) v4.fst))).length : Int)) then (bif j40 then (Option.bind (Go.Tw.yBM v43) fun (v50 : Int × Bool × Unit) => (y5w b3_0_0 b4_0_0 b6_0_0 c7_0 c8_0 j1 v4 v12 j41 (Bool.true) (v50.fst))) else (Option.bind (Go.Tw.yBM v43) fun (v51 : Int × Bool × Unit) => (bif v43 == [] then (y5w b3_0_0 b4_0_0 b6_0_0 c7_0 c8_0 j1 v4 v12 j41 (Bool.true) (v51.fst)) else (y5w b3_0_0 b4_0_0 b6_0_0 c7_0 c8_0 j1 v4 v12 j41 (!v51.snd.fst) (v51.fst))))) else none))

theorem y1U (n : Nat) (hn : big ≤ n)  (r0 : List UInt8 → Int → Int → Int → List Sta → List Tra → Option (Cha × Int × Int × Unit)) (b3_0_0 : Int) (b4_0_0 : Int) (b6_0_0 : Int) (c7_0 : List Sta) (c8_0 : List Tra) (j1 : List UInt8) (v4 : List (List UInt8) × Unit) (v12 : List UInt8) (j40 : Bool) (j41 : Int) : LeF (elim some fun (s__ : (List UInt8 × Int × (List Sta) × (List Tra))) => r0 s__.1 b3_0_0 b4_0_0 s__.2.1 s__.2.2.1 s__.2.2.2) (y62 b3_0_0 b4_0_0 b6_0_0 c7_0 c8_0 j1 v4 v12 j40 j41) (y5v n r0 b3_0_0 b4_0_0 b6_0_0 c7_0 c8_0 j1 v4 v12 j40 j41) :=
  (yA fun v43 => (y4 (y4 (yA fun v50 => (by apply y1Y n hn)) (yA fun v51 => (y4 (by apply y1Y n hn) (by apply y1Y n hn)))) yL))

noncomputable def y4V (b3_0_0 : Int) (b4_0_0 : Int) (b6_0_0 : Int) (c7_0 : List Sta) (c8_0 : List Tra) (j1 : List UInt8) (v4 : List (List UInt8) × Unit) (j102 : Int × Bool × Unit) (j111 : List UInt8) (j140 : Int) (j169 : Bool) (j170 : Int) : Option ((Cha × Int × Int × Unit) ⊕ (List UInt8 × Int × (List Sta) × (List Tra))) :=
  (Option.bind (Go.Vx.idx (List.drop (Int.toNat (1 : Int)) (List.drop (Int.toNat (1 : Int)) (List.drop (Int.toNat (1 : Int)) (List.drop (Int.toNat (1 : Int)) (List.drop (Int.toNat (1 : Int)) v4.fst))))) (0 : Int)) fun (v172 : List UInt8) => (bif Decidable.decide ((0 : Int) ≤ (1 : Int)) && Decidable.decide ((1 : Int) ≤ (↑(List.drop (Int.toNat (1 : Int)) (List.drop (Int.toNat (1 : Int)) (List.drop (Int.toNat (1 : Int)) (List.drop (Int.toNat (1 : Int)) (List.drop (Int.toNat (1 : Int)) v4.fst))))).length : Int)) then (bif j169 then (Option.bind (Go.Tw.yBM v172) fun (v179 : Int × Bool × Unit) => (bif Decidable.decide (c8_0.length + (1 : Nat) ≤ Go.Vx.memMax) then (some (Sum.inl ((([], [], ()), b6_0_0, (26 : Int), ())))) else none)) else (Option.bind (Go.Tw.yBM v172) fun (v180 : Int × Bool × Unit) => (bif v172 == [] then (bif Decidable.decide (c8_0.length + (1 : Nat) ≤ Go.Vx.memMax) then (some (Sum.inl ((([], [], ()), b6_0_0, (26 : Int), ())))) else none) else (bif Decidable.decide (c8_0.length + (1 : Nat) ≤ Go.Vx.memMax) then (bif !!!v180.snd.fst then (some (Sum.inl ((([], [], ()), b6_0_0, (26 : Int), ())))) else (some (Sum.inr ((j1), (Go.IntKind.i64.wrap (b6_0_0 + (1 : Int))), (c7_0), (c8_0 ++ [(j102.fst, j111, j140, j170, v180.fst, ())]))))) else none)))) else none))

theorem y1G (n : Nat) (hn : big ≤ n)  (r0 : List UInt8 → Int → Int → Int → List Sta → List Tra → Option (Cha × Int × Int × Unit)) (b3_0_0 : Int) (b4_0_0 : Int) (b6_0_0 : Int) (c7_0 : List Sta) (c8_0 : List Tra) (j1 : List UInt8) (v4 : List (List UInt8) × Unit) (j102 : Int × Bool × Unit) (j111 : List UInt8) (j140 : Int) (j169 : Bool) (j170 : Int) : LeF (elim some fun (s__ : (List UInt8 × Int × (List Sta) × (List Tra))) => r0 s__.1 b3_0_0 b4_0_0 s__.2.1 s__.2.2.1 s__.2.2.2) (y4V b3_0_0 b4_0_0 b6_0_0 c7_0 c8_0 j1 v4 j102 j111 j140 j169 j170) (y4R n r0 b3_0_0 b4_0_0 b6_0_0 c7_0 c8_0 j1 v4 j102 j111 j140 j169 j170) :=
  (yA fun v172 => (y4 (y4 (yA fun v179 => (y4 (y6 rfl) yL)) (yA fun v180 => (y4 (y4 (y6 rfl) yL) (y4 (y4 (y6 rfl) (y6 rfl)) yL)))) yL))

noncomputable def y4C (b3_0_0 : Int) (b4_0_0 : Int) (b6_0_0 : Int) (c7_0 : List Sta) (c8_0 : List Tra) (j1 : List UInt8) (v4 : List (List UInt8) × Unit) (j102 : Int × Bool × Unit) (j111 : List UInt8) (j139 : Bool) (j140 : Int) : Option ((Cha × Int × Int × Unit) ⊕ (List UInt8 × Int × (List Sta) × (List Tra))) :=
  (Option.bind (Go.Vx.idx (List.drop (Int.toNat (1 : Int)) (List.drop (Int.toNat (1 : Int)) (List.drop (Int.toNat (1 : Int)) (List.drop (Int.toNat (1 : Int)) v4.fst)))) (0 : Int)) fun (v142 : List UInt8) => (bif Decidable.decide ((0 : Int) ≤ (1 : Int)) && Decidable.decide ((1 : Int) ≤ (↑(List.drop (Int.toNat (1 : Int)) (List.drop (Int.toNat (1 : Int)) (List.drop (Int.toNat (1 : Int)) (List.drop (Int.toNat (1 : Int)) v4.fst)))).length : Int)) then (bif j139 then (Option.bind (Go.Tw.yBM v142) fun (v149 : Int × Bool × Unit) => (y4V b3_0_0 b4_0_0 b6_0_0 c7_0 c8_0 j1 v4 j102 j111 j140 (Bool.true) (v149.fst))) else (Option.bind (Go.Tw.yBM v142) fun (v150 : Int × Bool × Unit) => (bif v142 == [] then (y4V b3_0_0 b4_0_0 b6_0_0 c7_0 c8_0 j1 v4 j102 j111 j140 (Bool.true) (v150.fst)) else (y4V b3_0_0 b4_0_0 b6_0_0 c7_0 c8_0 j1 v4 j102 j111 j140 (!v150.snd.fst) (v150.fst))))) else none))

theorem y1O (n : Nat) (hn : big ≤ n)  (r0 : List UInt8 → Int → Int → Int → List Sta → List Tra → Option (Cha × Int × Int × Unit)) (b3_0_0 : Int) (b4_0_0 : Int) (b6_0_0 : Int) (c7_0 : List Sta) (c8_0 : List Tra) (j1 : List UInt8) (v4 : List (List UInt8) × Unit) (j102 : Int × Bool × Unit) (j111 : List UInt8) (j139 : Bool) (j140 : Int) : LeF (elim some fun (s__ : (List UInt8 × Int × (List Sta) × (List Tra))) => r0 s__.1 b3_0_0 b4_0_0 s__.2.1 s__.2.2.1 s__.2.2.2) (y4C b3_0_0 b4_0_0 b6_0_0 c7_0 c8_0 j1 v4 j102 j111 j139 j140) (y4E n r0 b3_0_0 b4_0_0 b6_0_0 c7_0 c8_0 j1 v4 j102 j111 j139 j140) :=
  (yA fun v142 => (y4 (y4 (yA fun v149 => (by apply y1G n hn)) (yA fun v150 => (y4 (by apply y1G n hn) (by apply y1G n hn)))) yL))

noncomputable def y5A (b3_0_0 : Int) (b4_0_0 : Int) (b6_0_0 : Int) (c7_0 : List Sta) (c8_0 : List Tra) (j1 : List UInt8) (v4 : List (List UInt8) × Unit) (j102 : Int × Bool × Unit) (j110 : Bool) (j111 : List UInt8) : Option ((Cha × Int × Int × Unit) ⊕ (List UInt8 × Int × (List Sta) × (List Tra))) :=
  (Option.bind (Go.Vx.idx (List.drop (Int.toNat (1 : Int)) (List.drop (Int.toNat (1 : Int)) (List.drop (Int.toNat (1 : Int)) v4.fst))) (0 : Int)) fun (v112 : List UInt8) => (bif Decidable.decide ((0 : Int) ≤ (1 : Int)) && Decidable.decide ((1 : Int) ≤ (↑(List.drop (Int.toNat (1 : Int)) (List.drop (Int.toNat (1 : Int)) (List.drop (Int.toNat (1 : Int)) v4.fst))).length : Int)) then (bif j110 then (Option.bind (Go.Tw.yBM v112) fun (v119 : Int × Bool × Unit) => (y4C b3_0_0 b4_0_0 b6_0_0 c7_0 c8_0 j1 v4 j102 j111 (Bool.true) (v119.fst))) else (Option.bind (Go.Tw.yBM v112) fun (v120 : Int × Bool × Unit) => (bif v112 == [] then (y4C b3_0_0 b4_0_0 b6_0_0 c7_0 c8_0 j1 v4 j102 j111 (Bool.true) (v120.fst)) else (y4C b3_0_0 b4_0_0 b6_0_0 c7_0 c8_0 j1 v4 j102 j111 (!v120.snd.fst) (v120.fst))))) else none))

theorem y2P (n : Nat) (hn : big ≤ n)  (r0 : List UInt8 → Int → Int → Int → List Sta → List Tra → Option (Cha × Int × Int × Unit)) (b3_0_0 : Int) (b4_0_0 : Int) (b6_0_0 : Int) (c7_0 : List Sta) (c8_0 : List Tra) (j1 : List UInt8) (v4 : List (List UInt8) × Unit) (j102 : Int × Bool × Unit) (j110 : Bool) (j111 : List UInt8) : LeF (elim some fun (s__ : (List UInt8 × Int × (List Sta) × (List Tra))) => r0 s__.1 b3_0_0 b4_0_0 s__.2.1 s__.2.2.1 s__.2.2.2) (y5A b3_0_0 b4_0_0 b6_0_0 c7_0 c8_0 j1 v4 j102 j110 j111) (y6I n r0 b3_0_0 b4_0_0 b6_0_0 c7_0 c8_0 j1 v4 j102 j110 j111) :=
  (yA fun v112 => (y4 (y4 (yA fun v119 => (by apply y1O n hn)) (yA fun v120 => (y4 (by apply y1O n hn) (by apply y1O n hn)))) yL))

noncomputable def y5l (b3_0_0 : Int) (b4_0_0 : Int) (b6_0_0 : Int) (c7_0 : List Sta) (c8_0 : List Tra) (j1 : List UInt8) (v4 : List (List UInt8) × Unit) (j101 : Bool) (j102 : Int × Bool × Unit) : Option ((Cha × Int × Int × Unit) ⊕ (List UInt8 × Int × (List Sta) × (List Tra))) :=
  (Option.bind (Go.Vx.idx (List.drop (Int.toNat (1 : Int)) (List.drop (Int.toNat (1 : Int)) v4.fst)) (0 : Int)) fun (v103 : List UInt8) => (bif Decidable.decide ((0 : Int) ≤ (1 : Int)) && Decidable.decide ((1 : Int) ≤ (↑(List.drop (Int.toNat (1 : Int)) (List.drop (Int.toNat (1 : Int)) v4.fst)).length : Int)) then (bif j101 then (y5A b3_0_0 b4_0_0 b6_0_0 c7_0 c8_0 j1 v4 j102 (Bool.true) (v103)) else (y5A b3_0_0 b4_0_0 b6_0_0 c7_0 c8_0 j1 v4 j102 (v103 == []) (v103))) else none))

theorem y2K (n : Nat) (hn : big ≤ n)  (r0 : List UInt8 → Int → Int → Int → List Sta → List Tra → Option (Cha × Int × Int × Unit)) (b3_0_0 : Int) (b4_0_0 : Int) (b6_0_0 : Int) (c7_0 : List Sta) (c8_0 : List Tra) (j1 : List UInt8) (v4 : List (List UInt8) × Unit) (j101 : Bool) (j102 : Int × Bool × Unit) : LeF (elim some fun (s__ : (List UInt8 × Int × (List Sta) × (List Tra))) => r0 s__.1 b3_0_0 b4_0_0 s__.2.1 s__.2.2.1 s__.2.2.2) (y5l b3_0_0 b4_0_0 b6_0_0 c7_0 c8_0 j1 v4 j101 j102) (y5y n r0 b3_0_0 b4_0_0 b6_0_0 c7_0 c8_0 j1 v4 j101 j102) :=
  (yA fun v103 => (y4 (y4 (by apply y2P n hn) (by apply y2P n hn)) yL))

noncomputable def y4N (b3_0_0 : Int) (b4_0_0 : Int) (b6_0_0 : Int) (c7_0 : List Sta) (c8_0 : List Tra) (j1 : List UInt8) (v4 : List (List UInt8) × Unit) (j89 : Bool) : Option ((Cha × Int × Int × Unit) ⊕ (List UInt8 × Int × (List Sta) × (List Tra))) :=
  (bif j89 then (Option.bind (Go.Vx.idx (List.drop (Int.toNat (1 : Int)) v4.fst) (0 : Int)) fun (v93 : List UInt8) => (bif Decidable.decide ((0 : Int) ≤ (1 : Int)) && Decidable.decide ((1 : Int) ≤ (↑(List.drop (Int.toNat (1 : Int)) v4.fst).length : Int)) then (Option.bind (Go.Tw.yBM v93) fun (v94 : Int × Bool × Unit) => (bif v93 == [] then (y5l b3_0_0 b4_0_0 b6_0_0 c7_0 c8_0 j1 v4 (Bool.true) (v94)) else (y5l b3_0_0 b4_0_0 b6_0_0 c7_0 c8_0 j1 v4 (!v94.snd.fst) (v94)))) else none)) else (some (Sum.inl ((([], [], ()), b6_0_0, (26 : Int), ())))))

theorem y2Q (n : Nat) (hn : big ≤ n)  (r0 : List UInt8 → Int → Int → Int → List Sta → List Tra → Option (Cha × Int × Int × Unit)) (b3_0_0 : Int) (b4_0_0 : Int) (b6_0_0 : Int) (c7_0 : List Sta) (c8_0 : List Tra) (j1 : List UInt8) (v4 : List (List UInt8) × Unit) (j89 : Bool) : LeF (elim some fun (s__ : (List UInt8 × Int × (List Sta) × (List Tra))) => r0 s__.1 b3_0_0 b4_0_0 s__.2.1 s__.2.2.1 s__.2.2.2) (y4N b3_0_0 b4_0_0 b6_0_0 c7_0 c8_0 j1 v4 j89) (y5x n r0 b3_0_0 b4_0_0 b6_0_0 c7_0 c8_0 j1 v4 j89) :=
  (y4 (yA fun v93 => (y4 (yA fun v94 => (y4 (by apply y2K n hn) (by apply y2K n hn))) yL)) (y6 rfl))

noncomputable def y3M (b3_0_0 : Int) (b4_0_0 : Int) (b6_0_0 : Int) (c7_0 : List Sta) (c8_0 : List Tra) (j1 : List UInt8) (v4 : List (List UInt8) × Unit) (j6 : Bool) : Option ((Cha × Int × Int × Unit) ⊕ (List UInt8 × Int × (List Sta) × (List Tra))) :=
  (bif j6 then (Option.bind (Go.Vx.idx (List.drop (Int.toNat (1 : Int)) v4.fst) (0 : Int)) fun (v12 : List UInt8) => (bif Decidable.decide ((0 : Int) ≤ (1 : Int)) && Decidable.decide ((1 : Int) ≤ (↑(List.drop (Int.toNat (1 : Int)) v4.fst).length : Int)) then (Option.bind (Go.Vx.idx (List.drop (Int.toNat (1 : Int)) (List.drop (Int.toNat (1 : Int)) v4.fst)) (0 : Int)) fun (v13 : List UInt8) => (bif Decidable.decide ((0 : Int) ≤ (1 : Int)) && Decidable.decide ((1 : Int) ≤ (↑(List.drop (Int.toNat (1 : Int)) (List.drop (Int.toNat (1 : Int)) v4.fst)).length : Int)) then (bif v12 == [] then (Option.bind (Go.Tw.yBM v13) fun (v20 : Int × Bool × Unit) => (y62 b3_0_0 b4_0_0 b6_0_0 c7_0 c8_0 j1 v4 v12 (Bool.true) (v20.fst))) else (Option.bind (Go.Tw.yBM v13) fun (v21 : Int × Bool × Unit) => (bif v13 == [] then (y62 b3_0_0 b4_0_0 b6_0_0 c7_0 c8_0 j1 v4 v12 (Bool.true) (v21.fst)) else (y62 b3_0_0 b4_0_0 b6_0_0 c7_0 c8_0 j1 v4 v12 (!v21.snd.fst) (v21.fst))))) else none)) else none)) else (Option.bind (Go.Vx.idx v4.fst (0 : Int)) fun (v88 : List UInt8) => (bif v88 == [(109 : UInt8), (111 : UInt8), (118 : UInt8), (101 : UInt8)] then (y4N b3_0_0 b4_0_0 b6_0_0 c7_0 c8_0 j1 v4 ((↑v4.fst.length : Int) == (6 : Int))) else (y4N b3_0_0 b4_0_0 b6_0_0 c7_0 c8_0 j1 v4 (Bool.false)))))

theorem y1P (n : Nat) (hn : big ≤ n)  (r0 : List UInt8 → Int → Int → Int → List Sta → List Tra → Option (Cha × Int × Int × Unit)) (b3_0_0 : Int) (b4_0_0 : Int) (b6_0_0 : Int) (c7_0 : List Sta) (c8_0 : List Tra) (j1 : List UInt8) (v4 : List (List UInt8) × Unit) (j6 : Bool) : LeF (elim some fun (s__ : (List UInt8 × Int × (List Sta) × (List Tra))) => r0 s__.1 b3_0_0 b4_0_0 s__.2.1 s__.2.2.1 s__.2.2.2) (y3M b3_0_0 b4_0_0 b6_0_0 c7_0 c8_0 j1 v4 j6) (y4U n r0 b3_0_0 b4_0_0 b6_0_0 c7_0 c8_0 j1 v4 j6) :=
  (y4 (yA fun v12 => (y4 (yA fun v13 => (y4 (y4 (yA fun v20 => (by apply y1U n hn)) (yA fun v21 => (y4 (by apply y1U n hn) (by apply y1U n hn)))) yL)) yL)) (yA fun v88 => (y4 (by apply y2Q n hn) (by apply y2Q n hn))))

noncomputable def y4H (b3_0_0 : Int) (b4_0_0 : Int) (b6_0_0 : Int) (c7_0 : List Sta) (c8_0 : List Tra) (j1 : List UInt8) (j2 : List UInt8) : Option ((Cha × Int × Int × Unit) ⊕ (List UInt8 × Int × (List Sta) × (List Tra))) :=
  (Option.bind (Go.Tw.zl_M j2 [(10 : UInt8)]) fun (v3 : List UInt8 × Bool × Unit) => (bif !v3.snd.fst then (some (Sum.inl ((([], [], ()), b6_0_0, (26 : Int), ())))) else (Option.bind (Go.Tw.yBm v3.fst [(32 : UInt8)]) fun (v4 : List (List UInt8) × Unit) => (bif Decidable.decide ((0 : Int) ≤ (1 : Int)) && Decidable.decide ((1 : Int) ≤ (↑v4.fst.length : Int)) then (Option.bind (Go.Vx.idx v4.fst (0 : Int)) fun (v5 : List UInt8) => (bif v5 == [(115 : UInt8), (116 : UInt8), (97 : UInt8), (116 : UInt8), (101 : UInt8)] then (bif (↑v4.fst.length : Int) == (5 : Int) then (y3M b3_0_0 b4_0_0 b6_0_0 c7_0 c8_0 j1 v4 ((↑c8_0.length : Int) == (0 : Int))) else (y3M b3_0_0 b4_0_0 b6_0_0 c7_0 c8_0 j1 v4 (Bool.false))) else (y3M b3_0_0 b4_0_0 b6_0_0 c7_0 c8_0 j1 v4 (Bool.false)))) else none))))

theorem y2O (n : Nat) (hn : big ≤ n)  (r0 : List UInt8 → Int → Int → Int → List Sta → List Tra → Option (Cha × Int × Int × Unit)) (b3_0_0 : Int) (b4_0_0 : Int) (b6_0_0 : Int) (c7_0 : List Sta) (c8_0 : List Tra) (j1 : List UInt8) (j2 : List UInt8) : LeF (elim some fun (s__ : (List UInt8 × Int × (List Sta) × (List Tra))) => r0 s__.1 b3_0_0 b4_0_0 s__.2.1 s__.2.2.1 s__.2.2.2) (y4H b3_0_0 b4_0_0 b6_0_0 c7_0 c8_0 j1 j2) (y6C n r0 b3_0_0 b4_0_0 b6_0_0 c7_0 c8_0 j1 j2) :=
  (yA fun v3 => (y4 (y6 rfl) (yA fun v4 => (y4 (yA fun v5 => (y4 (y4 (by apply y1P n hn) (by apply y1P n hn)) (by apply y1P n hn))) yL))))

noncomputable def y4k (b3_0_0 : Int) (b4_0_0 : Int) (b1_0_0 : List UInt8) (b6_0_0 : Int) (c7_0 : List Sta) (c8_0 : List Tra) : Option ((Cha × Int × Int × Unit) ⊕ (List UInt8 × Int × (List Sta) × (List Tra))) :=
  (bif Decidable.decide ((↑b1_0_0.length : Int) > (0 : Int)) then (bif Decidable.decide (Go.Lib.indexByte b1_0_0 (Int.toNat (10 : Int)).toUInt8 ≥ (0 : Int)) then (bif Decidable.decide ((0 : Int) ≤ Go.IntKind.i64.wrap (Go.Lib.indexByte b1_0_0 (Int.toNat (10 : Int)).toUInt8 + (1 : Int))) && Decidable.decide (Go.IntKind.i64.wrap (Go.Lib.indexByte b1_0_0 (Int.toNat (10 : Int)).toUInt8 + (1 : Int)) ≤ (↑b1_0_0.length : Int)) then (bif Decidable.decide ((0 : Int) ≤ Go.IntKind.i64.wrap (Go.Lib.indexByte b1_0_0 (Int.toNat (10 : Int)).toUInt8 + (1 : Int))) && Decidable.decide (Go.IntKind.i64.wrap (Go.Lib.indexByte b1_0_0 (Int.toNat (10 : Int)).toUInt8 + (1 : Int)) ≤ (↑b1_0_0.length : Int)) then (y4H b3_0_0 b4_0_0 b6_0_0 c7_0 c8_0 (List.drop (Go.IntKind.i64.wrap (Go.Lib.indexByte b1_0_0 (Int.toNat (10 : Int)).toUInt8 + (1 : Int))).toNat b1_0_0) (List.take (Go.IntKind.i64.wrap (Go.Lib.indexByte b1_0_0 (Int.toNat (10 : Int)).toUInt8 + (1 : Int))).toNat b1_0_0)) else none) else none) else (y4H b3_0_0 b4_0_0 b6_0_0 c7_0 c8_0 ([]) (b1_0_0))) else (Option.bind (Go.Tw.zy_M (c7_0, c8_0, ())) fun (v209 : Int × Unit) => (bif v209.fst != (0 : Int) then (some (Sum.inl ((([], [], ()), b6_0_0, v209.fst, ())))) else (some (Sum.inl (((c7_0, c8_0, ()), (0 : Int), (0 : Int), ())))))))

theorem yDW (n : Nat) (hn : big ≤ n)  (b3_0_0 : Int) (b4_0_0 : Int) (b1_0_0 : List UInt8) (b6_0_0 : Int) (c7_0 : List Sta) (c8_0 : List Tra) : LeF some (yDk (fun s__ => y4k b3_0_0 b4_0_0 s__.1 s__.2.1 s__.2.2.1 s__.2.2.2) wMax (b1_0_0, b6_0_0, c7_0, c8_0)) (y76 n n b1_0_0 b3_0_0 b4_0_0 b6_0_0 c7_0 c8_0) := by
  refine yJm (f := some) (W := fun k__ s__ => y76 n k__ s__.1 b3_0_0 b4_0_0 s__.2.1 s__.2.2.1 s__.2.2.2) (body := (fun s__ => y4k b3_0_0 b4_0_0 s__.1 s__.2.1 s__.2.2.1 s__.2.2.2)) (fun k__ s__ => ?_) wMax n (b1_0_0, b6_0_0, c7_0, c8_0) (by unfold big at hn; unfold wMax; omega)
  show LeF _ _ (yEU n (y76 n k__) s__.1 b3_0_0 b4_0_0 s__.2.1 s__.2.2.1 s__.2.2.2)
  exact (y4 (y4 (y4 (y4 (by apply y2O n hn) yL) yL) (by apply y2O n hn)) (yA fun v209 => (y4 (y6 rfl) (y6 rfl))))

noncomputable def yFe (s : List UInt8) : Option (Cha × Int × Int × Unit) :=
  (bif Decidable.decide ((↑s.length : Int) > (1000000 : Int)) then (some ((([], [], ()), (0 : Int), (27 : Int), ()))) else (yDk (fun s__ => y4k ((0 : Int)) ((0 : Int)) s__.1 s__.2.1 s__.2.2.1 s__.2.2.2) wMax ((s), ((0 : Int)), ([]), ([]))))

theorem yNr (s : List UInt8) (y : Cha × Int × Int × Unit) (h : yFe s = some y) : ∃ n, yJa n s = some y :=
  ⟨big, LeF.top (show LeF some (yFe s) (yJa big s) from (fun (n : Nat) (hn : big ≤ n) => show LeF some (yFe s) (yJa n s) from (y4 (y6 rfl) (by apply yDW n hn))) big (Nat.le_refl _)) h⟩
noncomputable def z0k_e : Entry := { f := 9, args := yLo, rS := yQA, m := fun x => yFe x.1 }
theorem yL9 : FnOK Tryz.prog z0k_e := y1t (g := yPy) (fn := Tryz.f9) y0I y1i (yB yRU (yB yPz (yB y6q (yB yOT (yB yRf eNil))))) (by kernel_rfl) (by kernel_rfl) (by kernel_rfl) (fun x y h => let ⟨n, hn⟩ := yNr x.1 y h; ⟨yLH n, (y3o yML (y3o yLr (y3o yLz (y3o yMh (y3o yNe iNil))))), (yP6 n x).trans hn⟩)

end Go.Tw
end

section
set_option linter.all false
set_option maxRecDepth 1000000
namespace Go.Tw
open Go.Vx Go.Vx.B Go.Proofs
/-! ### tidewaylaw06.GateTexts -/
abbrev zz_a : Ty := .pair t25 (.pair t9 .unit)
abbrev zz_r : Ty := .pair t4 .unit
noncomputable def zz_g : G := { T := T, E := [z0d_e, z0j_e, z0e_e, z0l_e, z0k_e, zu_e, z0i_e, z0h_e, z0z_e, z02_e], mU := [], fz := [] }
def zz_k : List (List Nat) := []
noncomputable def yQu (n : Nat) : Ann := { keep := zz_k, fuel := n, inl := [], deep := 0 }
noncomputable def yEx (n : Nat) (s : List UInt8) (v10 : List UInt8 × Int × Unit) (v11 : Go.Tw.Cha × Int × Int × Unit) (v12 : Int × Unit) (j14 : List UInt8) : Option (Bool × Unit) :=
  (Option.bind (Go.Tw.yKP s) fun (v15 : Go.Tw.Cha × Int × Int × Unit) => (bif v10.fst == j14 then (bif v10.snd.fst == v12.fst then (Option.bind (Go.Tw.yFu (v11.fst.fst, v11.fst.snd.fst, ())) fun (v16 : Go.Tw.Cha × Unit) => (Option.bind (Go.Tw.yD0 v16.fst (v15.fst.fst, v15.fst.snd.fst, ())) fun (v17 : Bool × Unit) => (bif v17.fst then (bif v11.snd.fst == v15.snd.fst then Option.some (v11.snd.snd.fst == v15.snd.snd.fst, ()) else Option.some (Bool.false, ())) else Option.some (Bool.false, ())))) else Option.some (Bool.false, ())) else Option.some (Bool.false, ())))

noncomputable def zz_m (n : Nat) (c : Cha) (s : List UInt8) : Option (Bool × Unit) :=
  (Option.bind (Go.Tw.yPf) fun (v0 : Bool × Unit) => (bif !v0.fst then (Option.bind (Go.Tw.yPf) fun (v6 : Bool × Unit) => Option.some (v6.fst, ())) else (Option.bind (Go.Tw.yMm c) fun (v1 : Bool × Unit) => (bif !v1.fst then (Option.bind (Go.Tw.yPf) fun (v7 : Bool × Unit) => Option.some (v7.fst, ())) else (bif Decidable.decide ((↑s.length : Int) > (400 : Int)) then (Option.bind (Go.Tw.yPf) fun (v8 : Bool × Unit) => Option.some (v8.fst, ())) else (Option.bind (Go.Tw.yMQ c) fun (v9 : Go.Tw.Cha × Unit) => (Option.bind (Go.Tw.yDK v9.fst) fun (v10 : List UInt8 × Int × Unit) => (Option.bind (Go.Tw.yFe s) fun (v11 : Go.Tw.Cha × Int × Int × Unit) => (Option.bind (Go.Tw.zu_M c) fun (v12 : Int × Unit) => (bif v12.fst == (0 : Int) then (Option.bind (Go.Tw.yJM c) fun (v13 : List UInt8 × Unit) => (yEx n s v10 v11 v12 (v13.fst))) else (yEx n s v10 v11 v12 ([]))))))))))))

theorem ySX (n : Nat) (x : zz_a.den) : runF zz_g (yQu n) Tryz.f3 zz_a zz_r x = zz_m n x.1 x.2.1 := by kernel_rfl

noncomputable def zz_M (c : Cha) (s : List UInt8) : Option (Bool × Unit) := zz_m 0 c s

theorem yQX (c : Cha) (s : List UInt8) (y : Bool × Unit) (h : zz_M c s = some y) : ∃ n, zz_m n c s = some y := ⟨0, h⟩
noncomputable def zz_e : Entry := { f := 3, args := zz_a, rS := zz_r, m := fun x => zz_M x.1 x.2.1 }
theorem ySc : FnOK Tryz.prog zz_e := y1t (g := zz_g) (fn := Tryz.f3) y0I y1i (yB yL5 (yB yL3 (yB yLB (yB yL2 (yB yL9 (yB yM6 (yB yQb (yB yQi (yB yL6 (yB yL4 eNil)))))))))) (by kernel_rfl) (by kernel_rfl) (by kernel_rfl) (fun x y h => let ⟨n, hn⟩ := yQX x.1 x.2.1 y h; ⟨yQu n, iNil, (ySX n x).trans hn⟩)

end Go.Tw
end

section
set_option linter.all false
set_option maxRecDepth 1000000
namespace Go.Tw
open Go.Vx Go.Vx.B Go.Proofs
/-! ### tidewaylaw06.GateBack -/
abbrev yMH : Ty := .pair t25 (.pair t9 .unit)
abbrev yOX : Ty := .pair t4 .unit
noncomputable def yR5 : G := { T := T, E := [z0d_e, z0j_e, zu_e, z0e_e, z0l_e, z0k_e, z0z_e, z02_e], mU := [], fz := [] }
def ySS : List (List Nat) := []
noncomputable def yLU (n : Nat) : Ann := { keep := ySS, fuel := n, inl := [], deep := 0 }
noncomputable def y5h (n : Nat) (c : Cha) (v14 : List UInt8 × Int × Unit) : Option (Bool × Unit) :=
  (bif Decidable.decide ((0 : Int) ≤ Go.IntKind.i64.wrap ((↑v14.fst.length : Int) - (1 : Int))) && Decidable.decide (Go.IntKind.i64.wrap ((↑v14.fst.length : Int) - (1 : Int)) ≤ (↑v14.fst.length : Int)) then (Option.bind (Go.Tw.yFe (List.take (Go.IntKind.i64.wrap ((↑v14.fst.length : Int) - (1 : Int))).toNat v14.fst)) fun (v31 : Go.Tw.Cha × Int × Int × Unit) => (bif v31.snd.snd.fst == (26 : Int) then Option.some (v31.snd.fst == Go.IntKind.i64.wrap (Go.IntKind.i64.wrap ((↑c.fst.length : Int) + (↑c.snd.fst.length : Int)) - (1 : Int)), ()) else Option.some (Bool.false, ()))) else none)

noncomputable def yKp (n : Nat) (c : Cha) (s : List UInt8) : Option (Bool × Unit) :=
  (Option.bind (Go.Tw.yPf) fun (v0 : Bool × Unit) => (bif !v0.fst then (Option.bind (Go.Tw.yPf) fun (v9 : Bool × Unit) => Option.some (v9.fst, ())) else (Option.bind (Go.Tw.yMm c) fun (v1 : Bool × Unit) => (bif !v1.fst then (Option.bind (Go.Tw.yPf) fun (v10 : Bool × Unit) => Option.some (v10.fst, ())) else (Option.bind (Go.Tw.zu_M c) fun (v2 : Int × Unit) => (bif v2.fst != (0 : Int) then (Option.bind (Go.Tw.yPf) fun (v11 : Bool × Unit) => Option.some (v11.fst, ())) else (bif Decidable.decide ((↑s.length : Int) > (400 : Int)) then (Option.bind (Go.Tw.yPf) fun (v12 : Bool × Unit) => Option.some (v12.fst, ())) else (Option.bind (Go.Tw.yMQ c) fun (v13 : Go.Tw.Cha × Unit) => (Option.bind (Go.Tw.yDK v13.fst) fun (v14 : List UInt8 × Int × Unit) => (Option.bind (Go.Tw.yFe v14.fst) fun (v15 : Go.Tw.Cha × Int × Int × Unit) => (bif v14.snd.fst != (0 : Int) then Option.some (Bool.false, ()) else (bif v15.snd.snd.fst != (0 : Int) then Option.some (Bool.false, ()) else (bif v15.snd.fst != (0 : Int) then Option.some (Bool.false, ()) else (Option.bind (Go.Tw.yFu (v15.fst.fst, v15.fst.snd.fst, ())) fun (v16 : Go.Tw.Cha × Unit) => (Option.bind (Go.Tw.yD0 v16.fst c) fun (v17 : Bool × Unit) => (bif !v17.fst then Option.some (Bool.false, ()) else (bif Decidable.decide ((↑v14.fst.length : Int) < (10 : Int)) then Option.some (Bool.false, ()) else (Option.bind (Go.Tw.yFe s) fun (v26 : Go.Tw.Cha × Int × Int × Unit) => (bif v26.snd.snd.fst == (0 : Int) then (Option.bind (Go.Tw.yDK (v26.fst.fst, v26.fst.snd.fst, ())) fun (v27 : List UInt8 × Int × Unit) => (bif v27.snd.fst != (0 : Int) then Option.some (Bool.false, ()) else (bif !v27.fst == s then Option.some (Bool.false, ()) else (y5h n c v14)))) else (y5h n c v14))))))))))))))))))))

theorem yQo (n : Nat) (x : yMH.den) : runF yR5 (yLU n) Tryz.f4 yMH yOX x = yKp n x.1 x.2.1 := by kernel_rfl

noncomputable def yJO (c : Cha) (s : List UInt8) : Option (Bool × Unit) := yKp 0 c s

theorem yMc (c : Cha) (s : List UInt8) (y : Bool × Unit) (h : yJO c s = some y) : ∃ n, yKp n c s = some y := ⟨0, h⟩
noncomputable def z07_e : Entry := { f := 4, args := yMH, rS := yOX, m := fun x => yJO x.1 x.2.1 }
theorem ySb : FnOK Tryz.prog z07_e := y1t (g := yR5) (fn := Tryz.f4) y0I y1i (yB yL5 (yB yL3 (yB yM6 (yB yLB (yB yL2 (yB yL9 (yB yL6 (yB yL4 eNil)))))))) (by kernel_rfl) (by kernel_rfl) (by kernel_rfl) (fun x y h => let ⟨n, hn⟩ := yMc x.1 x.2.1 y h; ⟨yLU n, iNil, (yQo n x).trans hn⟩)

end Go.Tw
end
