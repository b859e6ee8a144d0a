import Derived.Test.YtkfigfhjbejikaaGreatDoorBT
import Derived.Test.YtkfigfhjbejikaaGreatDoorBA
import Derived.Test.YtkfigfhjbejikaaGreatDoorBC
import Derived.Test.YtkfigfhjbejikaaGreatDoorBD
import Derived.Test.YtkfigfhjbejikaaGreatDoorBS
set_option linter.all false
section
set_option maxRecDepth 1000000
namespace Go.Tw
open Go.Vx Go.Vx.B Go.Proofs
noncomputable section
def il125 : Inl := { f := 125, fn := Tryz.f125, keep := [], muts := [], fz := [] }
theorem yJ2 : y3O Tryz.prog il125 := ⟨by kernel_rfl, by kernel_rfl, fun e0 h => by cases (show (none : Option LibK) = some e0 from h)⟩
def il130 : Inl := { f := 130, fn := Tryz.f130, keep := [], muts := [], fz := [] }
theorem yIh : y3O Tryz.prog il130 := ⟨by kernel_rfl, by kernel_rfl, fun e0 h => by cases (show (none : Option LibK) = some e0 from h)⟩
def il126 : Inl := { f := 126, fn := Tryz.f126, keep := [], muts := [], fz := [] }
theorem yIS : y3O Tryz.prog il126 := ⟨by kernel_rfl, by kernel_rfl, fun e0 h => by cases (show (none : Option LibK) = some e0 from h)⟩
def il169 : Inl := { f := 169, fn := Tryz.f169, lib := some (.copy 201) }
theorem yIx : y3O Tryz.prog il169 := ⟨by kernel_rfl, by kernel_rfl, fun e0 h => by cases (show some (.copy 201 : LibK) = some e0 from h); exact yM8⟩
abbrev yMS : Ty := .pair t41 .unit
abbrev yPU : Ty := .pair t9 (.pair t35 .unit)
def yQ8 : G := { T := T, E := [zg_e, zK_e, z0C_e, z0D_e], muts := [5, 27, 45], fz := [] }
def ySN : List (List Nat) := [[1, 5, 6, 18, 19, 20], [5, 6, 36, 37, 38]]
def yK7 (n : Nat) : Ann := { keep := ySN, fuel := n, inl := [il125, il130, il126, il169], deep := 8 }
def yDd (n : Nat) (r5 : List Lnk → Int → Int → List Int → Option (List UInt8 × Int × Unit)) (a7 : List Lnk) (am : Int) (ak : Int) (aa : List Int) : Option (List UInt8 × Int × Unit) :=
  (bif decide (ak < am) then (Option.bind (idx a7 ak) fun (v6 : Lnk) => (Option.bind (zK_M [v6.2.1, v6.2.2.1, v6.2.2.2.1, v6.2.2.2.2.1] fun (x : Int × Unit) => yFX x.1) fun (v7 : List (List UInt8) × Unit) => (bif decide ((1 : Nat) + v7.1.length ≤ memMax) then (Option.bind (yCj ([v6.1] ++ v7.1) [(32 : UInt8)]) fun (v8 : List UInt8 × Unit) => (bif decide (v8.1.length + (1 : Nat) < strMax) then (bif decide (aa.length + (v8.1 ++ [(10 : UInt8)]).length ≤ memMax) then r5 a7 am (IntKind.i64.wrap (ak + 1)) (aa ++ y1W (v8.1 ++ [(10 : UInt8)])) else none) else none)) else none))) else (bif decide ((0 : Nat) < aa.length) then (bif (↑aa.length : Int) == (↑aa.length : Int) && decide ((0 : Nat) < aa.length) && y7Y aa then some (y2T aa, (0 : Int), ()) else none) else none))
def y6m (n : Nat)  (k : Nat) (a7 : List Lnk) (am : Int) (ak : Int) (aa : List Int) : Option (List UInt8 × Int × Unit) :=
  iter (fun r y => yDd n (fun a7 am ak aa => r (((), (a7, (am, (ak, ())))), (((), (aa, ())), ()))) y.1.2.1 y.1.2.2.1 y.1.2.2.2.1 y.2.1.2.1) k (((), (a7, (am, (ak, ())))), (((), (aa, ())), ()))
def yE2 (n : Nat) (r1 : Bas → List Nod → Int → Int → List Int → Option (List UInt8 × Int × Unit)) (ac : Bas) (a8 : List Nod) (aq : Int) (al : Int) (ai : List Int) : Option (List UInt8 × Int × Unit) :=
  (bif decide (al < aq) then (Option.bind (idx a8 al) fun (v2 : Nod) => (Option.bind (zK_M [v2.2.1, v2.2.2.1] fun (x : Int × Unit) => yFX x.1) fun (v3 : List (List UInt8) × Unit) => (bif decide ((2 : Nat) + v3.1.length ≤ memMax) then (Option.bind (yCj ([[(110 : UInt8), 111, 100, 101], v2.1] ++ v3.1) [(32 : UInt8)]) fun (v4 : List UInt8 × Unit) => (bif decide (v4.1.length + (1 : Nat) < strMax) then (bif decide (ai.length + (v4.1 ++ [(10 : UInt8)]).length ≤ memMax) then r1 ac a8 aq (IntKind.i64.wrap (al + 1)) (ai ++ y1W (v4.1 ++ [(10 : UInt8)])) else none) else none)) else none))) else (y6m n n (ac.2.1) ((↑ac.2.1.length : Int)) ((0 : Int)) (ai)))
def y6e (n : Nat)  (k : Nat) (ac : Bas) (a8 : List Nod) (aq : Int) (al : Int) (ai : List Int) : Option (List UInt8 × Int × Unit) :=
  iter (fun r y => yE2 n (fun ac a8 aq al ai => r ((ac, ((), (a8, (aq, (al, ()))))), (((), (ai, ())), ()))) y.1.1 y.1.2.2.1 y.1.2.2.2.1 y.1.2.2.2.2.1 y.2.1.2.1) k ((ac, ((), (a8, (aq, (al, ()))))), (((), (ai, ())), ()))
def yIw (n : Nat) (b : Bas) : Option (List UInt8 × Int × Unit) :=
  (Option.bind (zg_M b) fun (v0 : Int × Unit) => (bif v0.1 != 0 then some ([], v0.1, ()) else (y6e n n (b) (b.1) ((↑b.1.length : Int)) ((0 : Int)) ([]))))
theorem yR8 (n : Nat) (x : yMS.den) : runF yQ8 (yK7 n) Tryz.f78 yMS yPU x = yIw n x.1 := by kernel_rfl
def yHO (a7 : List Lnk) (ak : Int) (v6 : Lnk) (aa : List Int) : Option ((List UInt8 × Int × Unit) ⊕ (List Int)) :=
  (Option.bind (zK_M [v6.2.1, v6.2.2.1, v6.2.2.2.1, v6.2.2.2.2.1] fun (x : Int × Unit) => yFX x.1) fun (v7 : List (List UInt8) × Unit) => (bif decide ((1 : Nat) + v7.1.length ≤ memMax) then (Option.bind (yCj ([v6.1] ++ v7.1) [(32 : UInt8)]) fun (v8 : List UInt8 × Unit) => (bif decide (v8.1.length + (1 : Nat) < strMax) then (bif decide (aa.length + (v8.1 ++ [(10 : UInt8)]).length ≤ memMax) then (some (Sum.inr (aa ++ y1W (v8.1 ++ [(10 : UInt8)])))) else none) else none)) else none))
def yHd (a7 : List Lnk) (aa : List Int) : Option (List UInt8 × Int × Unit) :=
  (bif decide ((0 : Nat) < aa.length) then (bif (↑aa.length : Int) == (↑aa.length : Int) && decide ((0 : Nat) < aa.length) && y7Y aa then (some ((y2T aa, (0 : Int), ()))) else none) else none)
theorem yCD (n : Nat) (hn : big ≤ n)  (a7 : List Lnk) (aa : List Int) (hx : List.length (a7) < lenMax) : LeF some (yL (fun i__ e__ s__ => yHO a7 i__ e__ s__) (fun s__ => yHd a7 s__) 0 (a7) aa) (y6m n n a7 (List.length (a7) : Int) 0 aa) := by
  refine yK (f := some) (W := fun k__ i__ s__ => y6m n k__ a7 (List.length (a7) : Int) i__ s__) (body := (fun i__ e__ s__ => yHO a7 i__ e__ s__)) (fin := (fun s__ => yHd a7 s__)) (fun k__ i__ s__ => ?_) hx aa n (by unfold big at hn; unfold lenMax at hx; omega)
  show LeF _ _ (yDd n (y6m n k__) a7 (List.length (a7) : Int) i__ s__)
  exact y6 (y5 fun v6 => (y5 fun v7 => (y6 (y5 fun v8 => (y6 (y6 (y7 rfl) yx) yx)) yx))) (y03 (y6 (y6 (y7 rfl) yx) yx))
def yFt (ac : Bas) (a8 : List Nod) (al : Int) (v2 : Nod) (ai : List Int) : Option ((List UInt8 × Int × Unit) ⊕ (List Int)) :=
  (Option.bind (zK_M [v2.2.1, v2.2.2.1] fun (x : Int × Unit) => yFX x.1) fun (v3 : List (List UInt8) × Unit) => (bif decide ((2 : Nat) + v3.1.length ≤ memMax) then (Option.bind (yCj ([[(110 : UInt8), 111, 100, 101], v2.1] ++ v3.1) [(32 : UInt8)]) fun (v4 : List UInt8 × Unit) => (bif decide (v4.1.length + (1 : Nat) < strMax) then (bif decide (ai.length + (v4.1 ++ [(10 : UInt8)]).length ≤ memMax) then (some (Sum.inr (ai ++ y1W (v4.1 ++ [(10 : UInt8)])))) else none) else none)) else none))
def yHW (ac : Bas) (a8 : List Nod) (ai : List Int) : Option (List UInt8 × Int × Unit) :=
  (bif decide (List.length (ac.2.1) < lenMax) then yL (fun i__ e__ s__ => yHO (ac.2.1) i__ e__ s__) (fun s__ => yHd (ac.2.1) s__) 0 (ac.2.1) (ai) else none)
theorem yCs (n : Nat) (hn : big ≤ n)  (ac : Bas) (a8 : List Nod) (ai : List Int) (hx : List.length (a8) < lenMax) : LeF some (yL (fun i__ e__ s__ => yFt ac a8 i__ e__ s__) (fun s__ => yHW ac a8 s__) 0 (a8) ai) (y6e n n ac a8 (List.length (a8) : Int) 0 ai) := by
  refine yK (f := some) (W := fun k__ i__ s__ => y6e n k__ ac a8 (List.length (a8) : Int) i__ s__) (body := (fun i__ e__ s__ => yFt ac a8 i__ e__ s__)) (fin := (fun s__ => yHW ac a8 s__)) (fun k__ i__ s__ => ?_) hx ai n (by unfold big at hn; unfold lenMax at hx; omega)
  show LeF _ _ (yE2 n (y6e n k__) ac a8 (List.length (a8) : Int) i__ s__)
  exact y6 (y5 fun v2 => (y5 fun v3 => (y6 (y5 fun v4 => (y6 (y6 (y7 rfl) yx) yx)) yx))) (y03 (yN fun hx => by apply yCD n hn; exact hx))
def yGl (b : Bas) : Option (List UInt8 × Int × Unit) :=
  (Option.bind (zg_M b) fun (v0 : Int × Unit) => (bif v0.1 != 0 then (some (([], v0.1, ()))) else (bif decide (List.length (b.1) < lenMax) then yL (fun i__ e__ s__ => yFt (b) (b.1) i__ e__ s__) (fun s__ => yHW (b) (b.1) s__) 0 (b.1) ([]) else none)))
theorem yLX (b : Bas) (y : List UInt8 × Int × Unit) (h : yGl b = some y) : ∃ n, yIw n b = some y :=
  ⟨big, LeF.top (show LeF some (yGl b) (yIw big b) from (fun (n : Nat) (hn : big ≤ n) => show LeF some (yGl b) (yIw n b) from (y5 fun v0 => (y6 (y7 rfl) (yN fun hx => by apply yCs n hn; exact hx)))) big (Nat.le_refl _)) h⟩
def z0G_e : Entry := { f := 78, args := yMS, ress := yPU, m := fun x => yGl x.1 }
theorem yN5 : FnOK Tryz.prog z0G_e := yS (g := yQ8) (fn := Tryz.f78) yG yR (yD yLE (yD yS1 (yD yO8 (yD yQn eNil)))) (by kernel_rfl) (by kernel_rfl) (by kernel_rfl) (fun x y h => let ⟨n, hn⟩ := yLX x.1 y h; ⟨yK7 n, (y6J yJ2 (y6J yIh (y6J yIS (y6J yIx iNil)))), (yR8 n x).trans hn⟩)
end
end Go.Tw
end
section
set_option maxRecDepth 1000000
namespace Go.Tw
open Go.Vx Go.Vx.B Go.Proofs
noncomputable section
abbrev yMw : Ty := .unit
abbrev yQu : Ty := .pair t4 .unit
def yQX : G := { T := T, E := [z0X_e, z08_e, z0T_e, z0F_e, z0a_e, zy_e, z0H_e, zv_e, zx_e, zz_e, z0E_e, z0G_e, zU_e], muts := [], fz := [] }
def ySR : List (List Nat) := []
def yJp (n : Nat) : Ann := { keep := ySR, fuel := n, inl := [], deep := 0 }
def yLL (n : Nat)  : Option (Bool × Unit) :=
  (Option.bind (yMG z0X.1 [(100 : Int), (30 : Int)]) fun (v0 : List Int × Int × Unit) => (Option.bind (yHo z0X.1 [(100 : Int), (30 : Int)]) fun (v1 : List Int × Int × Unit) => (Option.bind (yMt z0X.1 [(100 : Int), (30 : Int)] ((16 : Int), Bool.true, [(20 : Int), (5 : Int)], ())) fun (v2 : List Int × Int × Unit) => (Option.bind (y9u z0X.1 [(100 : Int), (30 : Int)] [((16 : Int), Bool.true, [(20 : Int), (5 : Int)], ()), ((8 : Int), Bool.false, [(0 : Int), (0 : Int)], ())]) fun (v3 : List (List Int) × Int × Unit) => (Option.bind (zy_M z0X.1 [(100 : Int), (30 : Int)] [((16 : Int), Bool.true, [(20 : Int), (5 : Int)], ()), ((8 : Int), Bool.false, [(0 : Int), (0 : Int)], ())]) fun (v4 : (Int × Int × Int × Unit) × Int × Unit) => (Option.bind (y5J z0X.1 [(100 : Int), (20 : Int)] ((16 : Int), Bool.false, [(50 : Int), (0 : Int)], ()) (0 : Int) (20 : Int)) fun (v5 : Int × Int × Unit) => (bif IntKind.i64.wrap (IntKind.i64.wrap (IntKind.i64.wrap (IntKind.i64.wrap (IntKind.i64.wrap (v0.2.1 + v1.2.1) + v2.2.1) + v3.2.1) + v4.2.1) + v5.2.1) != 0 then some (Bool.false, ()) else (Option.bind (zv_M v0.1 [(10 : Int), (6 : Int)]) fun (v6 : Bool × Unit) => (bif !v6.1 then some (Bool.false, ()) else (Option.bind (zv_M v1.1 [(109 : Int), (14 : Int)]) fun (v7 : Bool × Unit) => (bif !v7.1 then some (Bool.false, ()) else (Option.bind (zv_M v2.1 [(20 : Int), (10 : Int), (0 : Int)]) fun (v8 : Bool × Unit) => (bif !v8.1 then some (Bool.false, ()) else (Option.bind (zx_M v3.1 [[(150 : Int), (25 : Int)], [(147 : Int), (20 : Int)]]) fun (v9 : Bool × Unit) => (bif !v9.1 then some (Bool.false, ()) else (bif !eqV ((Ty.int IntKind.i64).pair ((Ty.int IntKind.i64).pair ((Ty.int IntKind.i64).pair Ty.unit))) (v4.1.1, v4.1.2.1, v4.1.2.2.1, ()) ((25 : Int), (20 : Int), (8 : Int), ()) then some (Bool.false, ()) else (bif v5.1 != 3 then some (Bool.false, ()) else (Option.bind (zz_M z0X.1 [((100 : Int), (110 : Int), ()), ((20 : Int), (20 : Int), ())] [(((8 : Int), (16 : Int), ()), Bool.false, [((0 : Int), (50 : Int), ()), ((0 : Int), (0 : Int), ())], ())]) fun (v22 : List (List (Int × Int × Unit)) × Int × Unit) => (Option.bind (yM4 z0X.1 [(210 : Int), (44 : Int)]) fun (v23 : List Int × Int × Unit) => (Option.bind (yGl z0X.1) fun (v24 : List UInt8 × Int × Unit) => (bif IntKind.i64.wrap (IntKind.i64.wrap (v22.2.1 + v23.2.1) + v24.2.1) == 0 then (Option.bind (zU_M v22.1 [[((100 : Int), (160 : Int), ()), ((20 : Int), (20 : Int), ())]]) fun (v25 : Bool × Unit) => (bif v25.1 then (Option.bind (zv_M v23.1 [(0 : Int)]) fun (v26 : Bool × Unit) => (bif v26.1 then some (v24.1 == [(110 : UInt8), 111, 100, 101, 32, 108, 97, 107, 101, 32, 49, 48, 32, 50, 48, 10, 110, 111, 100, 101, 32, 112, 111, 108, 100, 101, 114, 32, 53, 32, 56, 10, 98, 97, 114, 114, 105, 101, 114, 32, 45, 49, 32, 48, 32, 48, 32, 50, 10, 112, 117, 109, 112, 32, 49, 32, 48, 32, 52, 32, 49, 48, 10, 111, 117, 116, 102, 97, 108, 108, 32, 48, 32, 45, 49, 32, 49, 50, 32, 52, 10], ()) else some (Bool.false, ()))) else some (Bool.false, ()))) else some (Bool.false, ()))))))))))))))))))))))
theorem yQx (n : Nat) (x : yMw.den) : runF yQX (yJp n) Tryz.f17 yMw yQu x = yLL n := by kernel_rfl
def y1r  : Option (Bool × Unit) := yLL 0
theorem yMH  (y : Bool × Unit) (h : y1r = some y) : ∃ n, yLL n = some y := ⟨0, h⟩
def z0M_e : Entry := { f := 17, args := yMw, ress := yQu, m := fun x => y1r }
theorem yOr : FnOK Tryz.prog z0M_e := yS (g := yQX) (fn := Tryz.f17) yG yR (yD yQ4 (yD yPa (yD yPT (yD yQf (yD yJo (yD ySm (yD yJt (yD yPm (yD ySr (yD yRu (yD yPo (yD yN5 (yD yS9 eNil))))))))))))) (by kernel_rfl) (by kernel_rfl) (by kernel_rfl) (fun x y h => let ⟨n, hn⟩ := yMH y h; ⟨yJp n, iNil, (yQx n x).trans hn⟩)
end
end Go.Tw
end
section
set_option maxRecDepth 1000000
namespace Go.Tw
open Go.Vx Go.Vx.B Go.Proofs
noncomputable section
end
end Go.Tw
end
section
set_option maxRecDepth 1000000
namespace Go.Tw
open Go.Vx Go.Vx.B Go.Proofs
noncomputable section
abbrev zk_a : Ty := .pair t33 .unit
abbrev zk_r : Ty := .pair t54 .unit
def zk_g : G := { T := T, E := [zt_e], muts := [3], fz := [] }
def zk_k : List (List Nat) := [[3, 6, 7, 8]]
def yOZ (n : Nat) : Ann := { keep := zk_k, fuel := n, inl := [], deep := 0 }
def yHv (n : Nat) (r0 : List Cnd → Int → Int → List Cnd → Option (List Cnd × Unit)) (ae : List Cnd) (av : Int) (ar : Int) (aj : List Cnd) : Option (List Cnd × Unit) :=
  (bif decide (ar < av) then (Option.bind (idx ae ar) fun (v1 : Cnd) => (Option.bind (zt_M (v1.1, v1.2.1, v1.2.2.1, ())) fun (v2 : Cnd × Unit) => (bif decide (aj.length + (1 : Nat) ≤ memMax) then r0 ae av (IntKind.i64.wrap (ar + 1)) (aj ++ [v2.1]) else none))) else some (aj, ()))
def yA4 (n : Nat)  (k : Nat) (ae : List Cnd) (av : Int) (ar : Int) (aj : List Cnd) : Option (List Cnd × Unit) :=
  iter (fun r y => yHv n (fun ae av ar aj => r ((ae, (av, (ar, ()))), ((aj, ()), ()))) y.1.1 y.1.2.1 y.1.2.2.1 y.2.1.1) k ((ae, (av, (ar, ()))), ((aj, ()), ()))
def zk_m (n : Nat) (l : List Cnd) : Option (List Cnd × Unit) :=
  (yA4 n n (l) ((↑l.length : Int)) ((0 : Int)) ([]))
theorem ySo (n : Nat) (x : zk_a.den) : runF zk_g (yOZ n) Tryz.f26 zk_a zk_r x = zk_m n x.1 := by kernel_rfl
def yIL (ae : List Cnd) (ar : Int) (v1 : Cnd) (aj : List Cnd) : Option ((List Cnd × Unit) ⊕ (List Cnd)) :=
  (Option.bind (zt_M (v1.1, v1.2.1, v1.2.2.1, ())) fun (v2 : Cnd × Unit) => (bif decide (aj.length + (1 : Nat) ≤ memMax) then (some (Sum.inr (aj ++ [v2.1]))) else none))
def yLY (ae : List Cnd) (aj : List Cnd) : Option (List Cnd × Unit) :=
  (some ((aj, ())))
theorem yEK (n : Nat) (hn : big ≤ n)  (ae : List Cnd) (aj : List Cnd) (hx : List.length (ae) < lenMax) : LeF some (yL (fun i__ e__ s__ => yIL ae i__ e__ s__) (fun s__ => yLY ae s__) 0 (ae) aj) (yA4 n n ae (List.length (ae) : Int) 0 aj) := by
  refine yK (f := some) (W := fun k__ i__ s__ => yA4 n k__ ae (List.length (ae) : Int) i__ s__) (body := (fun i__ e__ s__ => yIL ae i__ e__ s__)) (fin := (fun s__ => yLY ae s__)) (fun k__ i__ s__ => ?_) hx aj n (by unfold big at hn; unfold lenMax at hx; omega)
  show LeF _ _ (yHv n (yA4 n k__) ae (List.length (ae) : Int) i__ s__)
  exact y6 (y5 fun v1 => (y5 fun v2 => (y6 (y7 rfl) yx))) (y03 (y7 rfl))
def zk_M (l : List Cnd) : Option (List Cnd × Unit) :=
  (bif decide (List.length (l) < lenMax) then yL (fun i__ e__ s__ => yIL (l) i__ e__ s__) (fun s__ => yLY (l) s__) 0 (l) ([]) else none)
theorem yPy (l : List Cnd) (y : List Cnd × Unit) (h : zk_M l = some y) : ∃ n, zk_m n l = some y :=
  ⟨big, LeF.top (show LeF some (zk_M l) (zk_m big l) from (fun (n : Nat) (hn : big ≤ n) => show LeF some (zk_M l) (zk_m n l) from (yN fun hx => by apply yEK n hn; exact hx)) big (Nat.le_refl _)) h⟩
def zk_e : Entry := { f := 26, args := zk_a, ress := zk_r, m := fun x => zk_M x.1 }
theorem yTD : FnOK Tryz.prog zk_e := yS (g := zk_g) (fn := Tryz.f26) yG yR (yD yOG eNil) (by kernel_rfl) (by kernel_rfl) (by kernel_rfl) (fun x y h => let ⟨n, hn⟩ := yPy x.1 y h; ⟨yOZ n, iNil, (ySo n x).trans hn⟩)
abbrev zw_a : Ty := .pair t25 (.pair t26 (.pair t33 .unit))
abbrev zw_r : Ty := .pair t3 .unit
def zw_g : G := { T := T, E := [za_e, zT_e], muts := [], fz := [] }
def zw_k : List (List Nat) := [[2, 3, 8]]
def yQy (n : Nat) : Ann := { keep := zw_k, fuel := n, inl := [], deep := 0 }
def yHn (n : Nat) (r1 : List Cnd → Bas → Int → Option (Int × Unit)) (af : List Cnd) (ah : Bas) (au : Int) : Option (Int × Unit) :=
  (bif decide (au < (↑af.length : Int)) then (Option.bind (idx af au) fun (v2 : Cnd) => (Option.bind (zT_M ah v2) fun (v3 : Int × Unit) => (bif v3.1 != 0 then some (v3.1, ()) else r1 af ah (IntKind.i64.wrap (au + 1))))) else some ((0 : Int), ()))
def yA2 (n : Nat)  (k : Nat) (af : List Cnd) (ah : Bas) (au : Int) : Option (Int × Unit) :=
  iter (fun r y => yHn n (fun af ah au => r ((af, (ah, (au, ()))), ((), ()))) y.1.1 y.1.2.1 y.1.2.2.1) k ((af, (ah, (au, ()))), ((), ()))
def zw_m (n : Nat) (b : Bas) (v : List Int) (l : List Cnd) : Option (Int × Unit) :=
  (Option.bind (za_M b v) fun (v0 : Int × Unit) => (bif v0.1 != 0 then some (v0.1, ()) else (bif decide ((↑l.length : Int) > 96) then some ((5 : Int), ()) else (yA2 n n (l) (b) ((0 : Int))))))
theorem ySA (n : Nat) (x : zw_a.den) : runF zw_g (yQy n) Tryz.f25 zw_a zw_r x = zw_m n x.1 x.2.1 x.2.2.1 := by kernel_rfl
def yJM (af : List Cnd) (ah : Bas) (au : Int) (v2 : Cnd) : Option ((Int × Unit) ⊕ Unit) :=
  (Option.bind (zT_M ah v2) fun (v3 : Int × Unit) => (bif v3.1 != 0 then (some (Sum.inl ((v3.1, ())))) else (some (Sum.inr ()))))
def yL0 (af : List Cnd) (ah : Bas) : Option (Int × Unit) :=
  (some (((0 : Int), ())))
theorem yEk (n : Nat) (hn : big ≤ n)  (af : List Cnd) (ah : Bas) (hx : List.length (af) < lenMax) : LeF some (yL (fun i__ e__ s__ => yJM af ah i__ e__) (fun s__ => yL0 af ah) 0 (af) ()) (yA2 n n af ah 0) := by
  refine yK (f := some) (W := fun k__ i__ s__ => yA2 n k__ af ah i__) (body := (fun i__ e__ s__ => yJM af ah i__ e__)) (fin := (fun s__ => yL0 af ah)) (fun k__ i__ s__ => ?_) hx () n (by unfold big at hn; unfold lenMax at hx; omega)
  show LeF _ _ (yHn n (yA2 n k__) af ah i__)
  exact y6 (y5 fun v2 => (y5 fun v3 => (y6 (y7 rfl) (y7 rfl)))) (y03 (y7 rfl))
def zw_M (b : Bas) (v : List Int) (l : List Cnd) : Option (Int × Unit) :=
  (Option.bind (za_M b v) fun (v0 : Int × Unit) => (bif v0.1 != 0 then (some ((v0.1, ()))) else (bif decide ((↑l.length : Int) > 96) then (some (((5 : Int), ()))) else (bif decide (List.length (l) < lenMax) then yL (fun i__ e__ s__ => yJM (l) (b) i__ e__) (fun s__ => yL0 (l) (b)) 0 (l) () else none))))
theorem yNz (b : Bas) (v : List Int) (l : List Cnd) (y : Int × Unit) (h : zw_M b v l = some y) : ∃ n, zw_m n b v l = some y :=
  ⟨big, LeF.top (show LeF some (zw_M b v l) (zw_m big b v l) from (fun (n : Nat) (hn : big ≤ n) => show LeF some (zw_M b v l) (zw_m n b v l) from (y5 fun v0 => (y6 (y7 rfl) (y6 (y7 rfl) (yN fun hx => by apply yEk n hn; exact hx))))) big (Nat.le_refl _)) h⟩
def zw_e : Entry := { f := 25, args := zw_a, ress := zw_r, m := fun x => zw_M x.1 x.2.1 x.2.2.1 }
theorem ySQ : FnOK Tryz.prog zw_e := yS (g := zw_g) (fn := Tryz.f25) yG yR (yD yRl (yD ySs eNil)) (by kernel_rfl) (by kernel_rfl) (by kernel_rfl) (fun x y h => let ⟨n, hn⟩ := yNz x.1 x.2.1 x.2.2.1 y h; ⟨yQy n, iNil, (ySA n x).trans hn⟩)
end
end Go.Tw
end
