/- Models of the program's functions, by program (gen.py), and what they compute.
Models of the program's functions, by program (gen.py), and what they compute.
Models of the program's functions, by program (gen.py), and what they compute.
Models of the program's functions, by program (gen.py), and what they compute. -/
import Derived.Test.YtkfigfhjbejikaaGreatDoorBT
import Derived.Test.YtkfigfhjbejikaaGreatDoorBA
import Derived.Test.YtkfigfhjbejikaaGreatDoorBC
import Derived.Test.YtkfigfhjbejikaaGreatDoorBD
import Derived.Test.YtkfigfhjbejikaaGreatDoorBS

section
set_option linter.all false
set_option maxRecDepth 1000000
namespace Go.Tw
open Go.Vx Go.Vx.B Go.Proofs
noncomputable def il125 : Inl := { f := 125, fn := Tryz.f125, keep := [], muts := [], fz := [] }
theorem il125_ok : InlOK Tryz.prog il125 := ⟨by kernel_rfl, by kernel_rfl, fun e0 h => by cases (show (none : Option Nat) = some e0 from h)⟩
noncomputable def il130 : Inl := { f := 130, fn := Tryz.f130, keep := [], muts := [], fz := [] }
theorem il130_ok : InlOK Tryz.prog il130 := ⟨by kernel_rfl, by kernel_rfl, fun e0 h => by cases (show (none : Option Nat) = some e0 from h)⟩
noncomputable def il126 : Inl := { f := 126, fn := Tryz.f126, keep := [], muts := [], fz := [] }
theorem il126_ok : InlOK Tryz.prog il126 := ⟨by kernel_rfl, by kernel_rfl, fun e0 h => by cases (show (none : Option Nat) = some e0 from h)⟩
noncomputable def il169 : Inl := { f := 169, fn := Tryz.f169, lib := some 201 }
theorem il169_ok : InlOK Tryz.prog il169 := ⟨by kernel_rfl, by kernel_rfl, fun e0 h => (Option.some.inj (show some 201 = some e0 from h)) ▸ copy201⟩
/-! ### basin.Print -/
abbrev basin_Print_a : Ty := .pair t41 .unit
abbrev basin_Print_r : Ty := .pair t9 (.pair t35 .unit)
noncomputable def basin_Print_g : G := { T := T, E := [basin_CheckBasin_e, basin_mapped_int_string_e, strconv_Itoa_e, strings_Join_e], muts := [5, 27, 45], fz := [] }
def basin_Print_k : List (List Nat) := [[1, 5, 6, 18, 19, 20], [5, 6, 36, 37, 38]]
noncomputable def basin_Print_an (n : Nat) : Ann := { keep := basin_Print_k, fuel := n, inl := [il125, il130, il126, il169], deep := 8 }
noncomputable def basin_Print_m_l5 (n : Nat) (r5 : List Lnk → Int → Int → List Int → Option (List UInt8 × Int × Unit)) (t36_5 : List Lnk) (t37_5 : Int) (t38_5 : Int) (c1_5 : List Int) : Option (List UInt8 × Int × Unit) :=
  (bif Decidable.decide (t38_5 < t37_5) then (Option.bind (Go.Vx.idx t36_5 t38_5) fun (v6 : Lnk) => (Option.bind (Go.Tw.basin_mapped_int_string_M [v6.snd.fst, v6.snd.snd.fst, v6.snd.snd.snd.fst, v6.snd.snd.snd.snd.fst] fun (x : Int × Unit) => Go.Tw.itoaM x.fst) fun (v7 : List (List UInt8) × Unit) => (bif Decidable.decide ((1 : Nat) + v7.fst.length ≤ Go.Vx.memMax) then (Option.bind (Go.Tw.joinM ([v6.fst] ++ v7.fst) [(32 : UInt8)]) fun (v8 : List UInt8 × Unit) => (bif Decidable.decide (v8.fst.length + (1 : Nat) < Go.Vx.strMax) then (bif Decidable.decide (c1_5.length + (v8.fst ++ [(10 : UInt8)]).length ≤ Go.Vx.memMax) then r5 t36_5 t37_5 (Go.IntKind.i64.wrap (t38_5 + (1 : Int))) (c1_5 ++ Go.Vx.strInts (v8.fst ++ [(10 : UInt8)])) else none) else none)) else none))) else (bif Decidable.decide ((0 : Nat) < c1_5.length) then (bif (↑c1_5.length : Int) == (↑c1_5.length : Int) && Decidable.decide ((0 : Nat) < c1_5.length) && Go.Vx.isBytes c1_5 then Option.some (Go.Vx.bytesOf c1_5, (0 : Int), ()) else none) else none))

noncomputable def basin_Print_m_w5 (n : Nat)  (k : Nat) (t36_5 : List Lnk) (t37_5 : Int) (t38_5 : Int) (c1_5 : List Int) : Option (List UInt8 × Int × Unit) :=
  iter (fun r y => basin_Print_m_l5 n (fun t36_5 t37_5 t38_5 c1_5 => r (((), (t36_5, (t37_5, (t38_5, ())))), (((), (c1_5, ())), ()))) y.1.2.1 y.1.2.2.1 y.1.2.2.2.1 y.2.1.2.1) k (((), (t36_5, (t37_5, (t38_5, ())))), (((), (c1_5, ())), ()))

noncomputable def basin_Print_m_l1 (n : Nat) (r1 : Bas → List Nod → Int → Int → List Int → Option (List UInt8 × Int × Unit)) (b1_1 : Bas) (t18_1 : List Nod) (t19_1 : Int) (t20_1 : Int) (c1_1 : List Int) : Option (List UInt8 × Int × Unit) :=
  (bif Decidable.decide (t20_1 < t19_1) then (Option.bind (Go.Vx.idx t18_1 t20_1) fun (v2 : Nod) => (Option.bind (Go.Tw.basin_mapped_int_string_M [v2.snd.fst, v2.snd.snd.fst] fun (x : Int × Unit) => Go.Tw.itoaM x.fst) fun (v3 : List (List UInt8) × Unit) => (bif Decidable.decide ((2 : Nat) + v3.fst.length ≤ Go.Vx.memMax) then (Option.bind (Go.Tw.joinM ([[(110 : UInt8), (111 : UInt8), (100 : UInt8), (101 : UInt8)], v2.fst] ++ v3.fst) [(32 : UInt8)]) fun (v4 : List UInt8 × Unit) => (bif Decidable.decide (v4.fst.length + (1 : Nat) < Go.Vx.strMax) then (bif Decidable.decide (c1_1.length + (v4.fst ++ [(10 : UInt8)]).length ≤ Go.Vx.memMax) then r1 b1_1 t18_1 t19_1 (Go.IntKind.i64.wrap (t20_1 + (1 : Int))) (c1_1 ++ Go.Vx.strInts (v4.fst ++ [(10 : UInt8)])) else none) else none)) else none))) else (basin_Print_m_w5 n n (b1_1.snd.fst) ((↑b1_1.snd.fst.length : Int)) ((0 : Int)) (c1_1)))

noncomputable def basin_Print_m_w1 (n : Nat)  (k : Nat) (b1_1 : Bas) (t18_1 : List Nod) (t19_1 : Int) (t20_1 : Int) (c1_1 : List Int) : Option (List UInt8 × Int × Unit) :=
  iter (fun r y => basin_Print_m_l1 n (fun b1_1 t18_1 t19_1 t20_1 c1_1 => r ((b1_1, ((), (t18_1, (t19_1, (t20_1, ()))))), (((), (c1_1, ())), ()))) y.1.1 y.1.2.2.1 y.1.2.2.2.1 y.1.2.2.2.2.1 y.2.1.2.1) k ((b1_1, ((), (t18_1, (t19_1, (t20_1, ()))))), (((), (c1_1, ())), ()))

noncomputable def basin_Print_m (n : Nat) (b : Bas) : Option (List UInt8 × Int × Unit) :=
  (Option.bind (Go.Tw.basin_CheckBasin_M b) fun (v0 : Int × Unit) => (bif v0.fst != (0 : Int) then Option.some ([], v0.fst, ()) else (basin_Print_m_w1 n n (b) (b.fst) ((↑b.fst.length : Int)) ((0 : Int)) ([]))))

theorem basin_Print_eq (n : Nat) (x : basin_Print_a.den) : runF basin_Print_g (basin_Print_an n) Tryz.f78 basin_Print_a basin_Print_r x = basin_Print_m n x.1 := by kernel_rfl

noncomputable def basin_Print_b5 (t36_5 : List Lnk) (t38_5 : Int) (v6 : Lnk) (c1_5 : List Int) : Option ((List UInt8 × Int × Unit) ⊕ (List Int)) :=
  (Option.bind (Go.Tw.basin_mapped_int_string_M [v6.snd.fst, v6.snd.snd.fst, v6.snd.snd.snd.fst, v6.snd.snd.snd.snd.fst] fun (x : Int × Unit) => Go.Tw.itoaM x.fst) fun (v7 : List (List UInt8) × Unit) => (bif Decidable.decide ((1 : Nat) + v7.fst.length ≤ Go.Vx.memMax) then (Option.bind (Go.Tw.joinM ([v6.fst] ++ v7.fst) [(32 : UInt8)]) fun (v8 : List UInt8 × Unit) => (bif Decidable.decide (v8.fst.length + (1 : Nat) < Go.Vx.strMax) then (bif Decidable.decide (c1_5.length + (v8.fst ++ [(10 : UInt8)]).length ≤ Go.Vx.memMax) then (some (Sum.inr (c1_5 ++ Go.Vx.strInts (v8.fst ++ [(10 : UInt8)])))) else none) else none)) else none))

noncomputable def basin_Print_f5 (t36_5 : List Lnk) (c1_5 : List Int) : Option (List UInt8 × Int × Unit) :=
  (bif Decidable.decide ((0 : Nat) < c1_5.length) then (bif (↑c1_5.length : Int) == (↑c1_5.length : Int) && Decidable.decide ((0 : Nat) < c1_5.length) && Go.Vx.isBytes c1_5 then (some ((Go.Vx.bytesOf c1_5, (0 : Int), ()))) else none) else none)

theorem basin_Print_m_w5_le (n : Nat) (hn : big ≤ n)  (t36_5 : List Lnk) (c1_5 : List Int) (hx : List.length (t36_5) < lenMax) : LeF some (loopL (fun i__ e__ s__ => basin_Print_b5 t36_5 i__ e__ s__) (fun s__ => basin_Print_f5 t36_5 s__) 0 (t36_5) c1_5) (basin_Print_m_w5 n n t36_5 (List.length (t36_5) : Int) 0 c1_5) := by
  refine loopL_le (f := some) (W := fun k__ i__ s__ => basin_Print_m_w5 n k__ t36_5 (List.length (t36_5) : Int) i__ s__) (body := (fun i__ e__ s__ => basin_Print_b5 t36_5 i__ e__ s__)) (fin := (fun s__ => basin_Print_f5 t36_5 s__)) (fun k__ i__ s__ => ?_) hx c1_5 n (by unfold big at hn; unfold lenMax at hx; omega)
  show LeF _ _ (basin_Print_m_l5 n (basin_Print_m_w5 n k__) t36_5 (List.length (t36_5) : Int) i__ s__)
  exact leCond (leBind fun v6 => (leBind fun v7 => (leCond (leBind fun v8 => (leCond (leCond (leSome rfl) leNone) leNone)) leNone))) (leMap (leCond (leCond (leSome rfl) leNone) leNone))

noncomputable def basin_Print_b1 (b1_1 : Bas) (t18_1 : List Nod) (t20_1 : Int) (v2 : Nod) (c1_1 : List Int) : Option ((List UInt8 × Int × Unit) ⊕ (List Int)) :=
  (Option.bind (Go.Tw.basin_mapped_int_string_M [v2.snd.fst, v2.snd.snd.fst] fun (x : Int × Unit) => Go.Tw.itoaM x.fst) fun (v3 : List (List UInt8) × Unit) => (bif Decidable.decide ((2 : Nat) + v3.fst.length ≤ Go.Vx.memMax) then (Option.bind (Go.Tw.joinM ([[(110 : UInt8), (111 : UInt8), (100 : UInt8), (101 : UInt8)], v2.fst] ++ v3.fst) [(32 : UInt8)]) fun (v4 : List UInt8 × Unit) => (bif Decidable.decide (v4.fst.length + (1 : Nat) < Go.Vx.strMax) then (bif Decidable.decide (c1_1.length + (v4.fst ++ [(10 : UInt8)]).length ≤ Go.Vx.memMax) then (some (Sum.inr (c1_1 ++ Go.Vx.strInts (v4.fst ++ [(10 : UInt8)])))) else none) else none)) else none))

noncomputable def basin_Print_f1 (b1_1 : Bas) (t18_1 : List Nod) (c1_1 : List Int) : Option (List UInt8 × Int × Unit) :=
  (bif decide (List.length (b1_1.snd.fst) < lenMax) then loopL (fun i__ e__ s__ => basin_Print_b5 (b1_1.snd.fst) i__ e__ s__) (fun s__ => basin_Print_f5 (b1_1.snd.fst) s__) 0 (b1_1.snd.fst) (c1_1) else none)

theorem basin_Print_m_w1_le (n : Nat) (hn : big ≤ n)  (b1_1 : Bas) (t18_1 : List Nod) (c1_1 : List Int) (hx : List.length (t18_1) < lenMax) : LeF some (loopL (fun i__ e__ s__ => basin_Print_b1 b1_1 t18_1 i__ e__ s__) (fun s__ => basin_Print_f1 b1_1 t18_1 s__) 0 (t18_1) c1_1) (basin_Print_m_w1 n n b1_1 t18_1 (List.length (t18_1) : Int) 0 c1_1) := by
  refine loopL_le (f := some) (W := fun k__ i__ s__ => basin_Print_m_w1 n k__ b1_1 t18_1 (List.length (t18_1) : Int) i__ s__) (body := (fun i__ e__ s__ => basin_Print_b1 b1_1 t18_1 i__ e__ s__)) (fin := (fun s__ => basin_Print_f1 b1_1 t18_1 s__)) (fun k__ i__ s__ => ?_) hx c1_1 n (by unfold big at hn; unfold lenMax at hx; omega)
  show LeF _ _ (basin_Print_m_l1 n (basin_Print_m_w1 n k__) b1_1 t18_1 (List.length (t18_1) : Int) i__ s__)
  exact leCond (leBind fun v2 => (leBind fun v3 => (leCond (leBind fun v4 => (leCond (leCond (leSome rfl) leNone) leNone)) leNone))) (leMap (leGuard fun hx => by apply basin_Print_m_w5_le n hn; exact hx))

noncomputable def basin_Print_M (b : Bas) : Option (List UInt8 × Int × Unit) :=
  (Option.bind (Go.Tw.basin_CheckBasin_M b) fun (v0 : Int × Unit) => (bif v0.fst != (0 : Int) then (some (([], v0.fst, ()))) else (bif decide (List.length (b.fst) < lenMax) then loopL (fun i__ e__ s__ => basin_Print_b1 (b) (b.fst) i__ e__ s__) (fun s__ => basin_Print_f1 (b) (b.fst) s__) 0 (b.fst) ([]) else none)))

theorem basin_Print_run (b : Bas) (y : List UInt8 × Int × Unit) (h : basin_Print_M b = some y) : ∃ n, basin_Print_m n b = some y :=
  ⟨big, LeF.top (show LeF some (basin_Print_M b) (basin_Print_m big b) from (fun (n : Nat) (hn : big ≤ n) => show LeF some (basin_Print_M b) (basin_Print_m n b) from (leBind fun v0 => (leCond (leSome rfl) (leGuard fun hx => by apply basin_Print_m_w1_le n hn; exact hx)))) big (Nat.le_refl _)) h⟩
noncomputable def basin_Print_e : Entry := { f := 78, args := basin_Print_a, ress := basin_Print_r, m := fun x => basin_Print_M x.1 }
theorem basin_Print_ok : FnOK Tryz.prog basin_Print_e := fn_ok (g := basin_Print_g) (fn := Tryz.f78) hmixed tabOk (eCons basin_CheckBasin_ok (eCons basin_mapped_int_string_ok (eCons strconv_Itoa_ok (eCons strings_Join_ok eNil)))) (by kernel_rfl) (by kernel_rfl) (by kernel_rfl) (fun x y h => let ⟨n, hn⟩ := basin_Print_run x.1 y h; ⟨basin_Print_an n, (iCons il125_ok (iCons il130_ok (iCons il126_ok (iCons il169_ok iNil)))), (basin_Print_eq n x).trans hn⟩)

end Go.Tw
end

section
set_option linter.all false
set_option maxRecDepth 1000000
namespace Go.Tw
open Go.Vx Go.Vx.B Go.Proofs
/-! ### tidewaylaw04.awake -/
abbrev law04_awake_a : Ty := .unit
abbrev law04_awake_r : Ty := .pair t4 .unit
noncomputable def law04_awake_g : G := { T := T, E := [law04_lake_e, basin_Levels_e, basin_Room_e, basin_Flows_e, basin_Run_e, basin_Account_e, basin_Until_e, ref01_SameInts_e, ref04_SameRows_e, basin_Enclose_e, basin_Above_e, basin_Print_e, ref04_SameIntervals_e], muts := [], fz := [] }
def law04_awake_k : List (List Nat) := []
noncomputable def law04_awake_an (n : Nat) : Ann := { keep := law04_awake_k, fuel := n, inl := [], deep := 0 }
noncomputable def law04_awake_m (n : Nat)  : Option (Bool × Unit) :=
  (Option.bind (Go.Tw.basin_Levels_M Go.Tw.law04_lake.fst [(100 : Int), (30 : Int)]) fun (v0 : List Int × Int × Unit) => (Option.bind (Go.Tw.basin_Room_M Go.Tw.law04_lake.fst [(100 : Int), (30 : Int)]) fun (v1 : List Int × Int × Unit) => (Option.bind (Go.Tw.basin_Flows_M Go.Tw.law04_lake.fst [(100 : Int), (30 : Int)] ((16 : Int), Bool.true, [(20 : Int), (5 : Int)], ())) fun (v2 : List Int × Int × Unit) => (Option.bind (Go.Tw.basin_Run_M Go.Tw.law04_lake.fst [(100 : Int), (30 : Int)] [((16 : Int), Bool.true, [(20 : Int), (5 : Int)], ()), ((8 : Int), Bool.false, [(0 : Int), (0 : Int)], ())]) fun (v3 : List (List Int) × Int × Unit) => (Option.bind (Go.Tw.basin_Account_M Go.Tw.law04_lake.fst [(100 : Int), (30 : Int)] [((16 : Int), Bool.true, [(20 : Int), (5 : Int)], ()), ((8 : Int), Bool.false, [(0 : Int), (0 : Int)], ())]) fun (v4 : (Int × Int × Int × Unit) × Int × Unit) => (Option.bind (Go.Tw.basin_Until_M Go.Tw.law04_lake.fst [(100 : Int), (20 : Int)] ((16 : Int), Bool.false, [(50 : Int), (0 : Int)], ()) (0 : Int) (20 : Int)) fun (v5 : Int × Int × Unit) => (bif Go.IntKind.i64.wrap (Go.IntKind.i64.wrap (Go.IntKind.i64.wrap (Go.IntKind.i64.wrap (Go.IntKind.i64.wrap (v0.snd.fst + v1.snd.fst) + v2.snd.fst) + v3.snd.fst) + v4.snd.fst) + v5.snd.fst) != (0 : Int) then Option.some (Bool.false, ()) else (Option.bind (Go.Tw.ref01_SameInts_M v0.fst [(10 : Int), (6 : Int)]) fun (v6 : Bool × Unit) => (bif !v6.fst then Option.some (Bool.false, ()) else (Option.bind (Go.Tw.ref01_SameInts_M v1.fst [(109 : Int), (14 : Int)]) fun (v7 : Bool × Unit) => (bif !v7.fst then Option.some (Bool.false, ()) else (Option.bind (Go.Tw.ref01_SameInts_M v2.fst [(20 : Int), (10 : Int), (0 : Int)]) fun (v8 : Bool × Unit) => (bif !v8.fst then Option.some (Bool.false, ()) else (Option.bind (Go.Tw.ref04_SameRows_M v3.fst [[(150 : Int), (25 : Int)], [(147 : Int), (20 : Int)]]) fun (v9 : Bool × Unit) => (bif !v9.fst then Option.some (Bool.false, ()) else (bif !Go.Vx.eqV ((Go.Vx.Ty.int Go.IntKind.i64).pair ((Go.Vx.Ty.int Go.IntKind.i64).pair ((Go.Vx.Ty.int Go.IntKind.i64).pair Go.Vx.Ty.unit))) (v4.fst.fst, v4.fst.snd.fst, v4.fst.snd.snd.fst, ()) ((25 : Int), (20 : Int), (8 : Int), ()) then Option.some (Bool.false, ()) else (bif v5.fst != (3 : Int) then Option.some (Bool.false, ()) else (Option.bind (Go.Tw.basin_Enclose_M Go.Tw.law04_lake.fst [((100 : Int), (110 : Int), ()), ((20 : Int), (20 : Int), ())] [(((8 : Int), (16 : Int), ()), Bool.false, [((0 : Int), (50 : Int), ()), ((0 : Int), (0 : Int), ())], ())]) fun (v22 : List (List (Int × Int × Unit)) × Int × Unit) => (Option.bind (Go.Tw.basin_Above_M Go.Tw.law04_lake.fst [(210 : Int), (44 : Int)]) fun (v23 : List Int × Int × Unit) => (Option.bind (Go.Tw.basin_Print_M Go.Tw.law04_lake.fst) fun (v24 : List UInt8 × Int × Unit) => (bif Go.IntKind.i64.wrap (Go.IntKind.i64.wrap (v22.snd.fst + v23.snd.fst) + v24.snd.fst) == (0 : Int) then (Option.bind (Go.Tw.ref04_SameIntervals_M v22.fst [[((100 : Int), (160 : Int), ()), ((20 : Int), (20 : Int), ())]]) fun (v25 : Bool × Unit) => (bif v25.fst then (Option.bind (Go.Tw.ref01_SameInts_M v23.fst [(0 : Int)]) fun (v26 : Bool × Unit) => (bif v26.fst then Option.some (v24.fst == [(110 : UInt8), (111 : UInt8), (100 : UInt8), (101 : UInt8), (32 : UInt8), (108 : UInt8), (97 : UInt8), (107 : UInt8), (101 : UInt8), (32 : UInt8), (49 : UInt8), (48 : UInt8), (32 : UInt8), (50 : UInt8), (48 : UInt8), (10 : UInt8), (110 : UInt8), (111 : UInt8), (100 : UInt8), (101 : UInt8), (32 : UInt8), (112 : UInt8), (111 : UInt8), (108 : UInt8), (100 : UInt8), (101 : UInt8), (114 : UInt8), (32 : UInt8), (53 : UInt8), (32 : UInt8), (56 : UInt8), (10 : UInt8), (98 : UInt8), (97 : UInt8), (114 : UInt8), (114 : UInt8), (105 : UInt8), (101 : UInt8), (114 : UInt8), (32 : UInt8), (45 : UInt8), (49 : UInt8), (32 : UInt8), (48 : UInt8), (32 : UInt8), (48 : UInt8), (32 : UInt8), (50 : UInt8), (10 : UInt8), (112 : UInt8), (117 : UInt8), (109 : UInt8), (112 : UInt8), (32 : UInt8), (49 : UInt8), (32 : UInt8), (48 : UInt8), (32 : UInt8), (52 : UInt8), (32 : UInt8), (49 : UInt8), (48 : UInt8), (10 : UInt8), (111 : UInt8), (117 : UInt8), (116 : UInt8), (102 : UInt8), (97 : UInt8), (108 : UInt8), (108 : UInt8), (32 : UInt8), (48 : UInt8), (32 : UInt8), (45 : UInt8), (49 : UInt8), (32 : UInt8), (49 : UInt8), (50 : UInt8), (32 : UInt8), (52 : UInt8), (10 : UInt8)], ()) else Option.some (Bool.false, ()))) else Option.some (Bool.false, ()))) else Option.some (Bool.false, ()))))))))))))))))))))))

theorem law04_awake_eq (n : Nat) (x : law04_awake_a.den) : runF law04_awake_g (law04_awake_an n) Tryz.f17 law04_awake_a law04_awake_r x = law04_awake_m n := by kernel_rfl

noncomputable def law04_awake_M  : Option (Bool × Unit) := law04_awake_m 0

theorem law04_awake_run  (y : Bool × Unit) (h : law04_awake_M = some y) : ∃ n, law04_awake_m n = some y := ⟨0, h⟩
noncomputable def law04_awake_e : Entry := { f := 17, args := law04_awake_a, ress := law04_awake_r, m := fun x => law04_awake_M }
theorem law04_awake_ok : FnOK Tryz.prog law04_awake_e := fn_ok (g := law04_awake_g) (fn := Tryz.f17) hmixed tabOk (eCons law04_lake_ok (eCons basin_Levels_ok (eCons basin_Room_ok (eCons basin_Flows_ok (eCons basin_Run_ok (eCons basin_Account_ok (eCons basin_Until_ok (eCons ref01_SameInts_ok (eCons ref04_SameRows_ok (eCons basin_Enclose_ok (eCons basin_Above_ok (eCons basin_Print_ok (eCons ref04_SameIntervals_ok eNil))))))))))))) (by kernel_rfl) (by kernel_rfl) (by kernel_rfl) (fun x y h => let ⟨n, hn⟩ := law04_awake_run y h; ⟨law04_awake_an n, iNil, (law04_awake_eq n x).trans hn⟩)

end Go.Tw
end

section
set_option linter.all false
set_option maxRecDepth 1000000
namespace Go.Tw
open Go.Vx Go.Vx.B Go.Proofs
/-! ### tidewaylaw04.BasinUntil -/
end Go.Tw
end

section
set_option linter.all false
set_option maxRecDepth 1000000
namespace Go.Tw
open Go.Vx Go.Vx.B Go.Proofs
/-! ### tidewaylaw04.conditions -/
abbrev law04_conditions_a : Ty := .pair t33 .unit
abbrev law04_conditions_r : Ty := .pair t54 .unit
noncomputable def law04_conditions_g : G := { T := T, E := [law04_condition_e], muts := [3], fz := [] }
def law04_conditions_k : List (List Nat) := [[3, 6, 7, 8]]
noncomputable def law04_conditions_an (n : Nat) : Ann := { keep := law04_conditions_k, fuel := n, inl := [], deep := 0 }
noncomputable def law04_conditions_m_l0 (n : Nat) (r0 : List Cnd → Int → Int → List Cnd → Option (List Cnd × Unit)) (t6_0 : List Cnd) (t7_0 : Int) (t8_0 : Int) (c0_0 : List Cnd) : Option (List Cnd × Unit) :=
  (bif Decidable.decide (t8_0 < t7_0) then (Option.bind (Go.Vx.idx t6_0 t8_0) fun (v1 : Cnd) => (Option.bind (Go.Tw.law04_condition_M (v1.fst, v1.snd.fst, v1.snd.snd.fst, ())) fun (v2 : Cnd × Unit) => (bif Decidable.decide (c0_0.length + (1 : Nat) ≤ Go.Vx.memMax) then r0 t6_0 t7_0 (Go.IntKind.i64.wrap (t8_0 + (1 : Int))) (c0_0 ++ [v2.fst]) else none))) else Option.some (c0_0, ()))

noncomputable def law04_conditions_m_w0 (n : Nat)  (k : Nat) (t6_0 : List Cnd) (t7_0 : Int) (t8_0 : Int) (c0_0 : List Cnd) : Option (List Cnd × Unit) :=
  iter (fun r y => law04_conditions_m_l0 n (fun t6_0 t7_0 t8_0 c0_0 => r ((t6_0, (t7_0, (t8_0, ()))), ((c0_0, ()), ()))) y.1.1 y.1.2.1 y.1.2.2.1 y.2.1.1) k ((t6_0, (t7_0, (t8_0, ()))), ((c0_0, ()), ()))

noncomputable def law04_conditions_m (n : Nat) (l : List Cnd) : Option (List Cnd × Unit) :=
  (law04_conditions_m_w0 n n (l) ((↑l.length : Int)) ((0 : Int)) ([]))

theorem law04_conditions_eq (n : Nat) (x : law04_conditions_a.den) : runF law04_conditions_g (law04_conditions_an n) Tryz.f26 law04_conditions_a law04_conditions_r x = law04_conditions_m n x.1 := by kernel_rfl

noncomputable def law04_conditions_b0 (t6_0 : List Cnd) (t8_0 : Int) (v1 : Cnd) (c0_0 : List Cnd) : Option ((List Cnd × Unit) ⊕ (List Cnd)) :=
  (Option.bind (Go.Tw.law04_condition_M (v1.fst, v1.snd.fst, v1.snd.snd.fst, ())) fun (v2 : Cnd × Unit) => (bif Decidable.decide (c0_0.length + (1 : Nat) ≤ Go.Vx.memMax) then (some (Sum.inr (c0_0 ++ [v2.fst]))) else none))

noncomputable def law04_conditions_f0 (t6_0 : List Cnd) (c0_0 : List Cnd) : Option (List Cnd × Unit) :=
  (some ((c0_0, ())))

theorem law04_conditions_m_w0_le (n : Nat) (hn : big ≤ n)  (t6_0 : List Cnd) (c0_0 : List Cnd) (hx : List.length (t6_0) < lenMax) : LeF some (loopL (fun i__ e__ s__ => law04_conditions_b0 t6_0 i__ e__ s__) (fun s__ => law04_conditions_f0 t6_0 s__) 0 (t6_0) c0_0) (law04_conditions_m_w0 n n t6_0 (List.length (t6_0) : Int) 0 c0_0) := by
  refine loopL_le (f := some) (W := fun k__ i__ s__ => law04_conditions_m_w0 n k__ t6_0 (List.length (t6_0) : Int) i__ s__) (body := (fun i__ e__ s__ => law04_conditions_b0 t6_0 i__ e__ s__)) (fin := (fun s__ => law04_conditions_f0 t6_0 s__)) (fun k__ i__ s__ => ?_) hx c0_0 n (by unfold big at hn; unfold lenMax at hx; omega)
  show LeF _ _ (law04_conditions_m_l0 n (law04_conditions_m_w0 n k__) t6_0 (List.length (t6_0) : Int) i__ s__)
  exact leCond (leBind fun v1 => (leBind fun v2 => (leCond (leSome rfl) leNone))) (leMap (leSome rfl))

noncomputable def law04_conditions_M (l : List Cnd) : Option (List Cnd × Unit) :=
  (bif decide (List.length (l) < lenMax) then loopL (fun i__ e__ s__ => law04_conditions_b0 (l) i__ e__ s__) (fun s__ => law04_conditions_f0 (l) s__) 0 (l) ([]) else none)

theorem law04_conditions_run (l : List Cnd) (y : List Cnd × Unit) (h : law04_conditions_M l = some y) : ∃ n, law04_conditions_m n l = some y :=
  ⟨big, LeF.top (show LeF some (law04_conditions_M l) (law04_conditions_m big l) from (fun (n : Nat) (hn : big ≤ n) => show LeF some (law04_conditions_M l) (law04_conditions_m n l) from (leGuard fun hx => by apply law04_conditions_m_w0_le n hn; exact hx)) big (Nat.le_refl _)) h⟩
noncomputable def law04_conditions_e : Entry := { f := 26, args := law04_conditions_a, ress := law04_conditions_r, m := fun x => law04_conditions_M x.1 }
theorem law04_conditions_ok : FnOK Tryz.prog law04_conditions_e := fn_ok (g := law04_conditions_g) (fn := Tryz.f26) hmixed tabOk (eCons law04_condition_ok eNil) (by kernel_rfl) (by kernel_rfl) (by kernel_rfl) (fun x y h => let ⟨n, hn⟩ := law04_conditions_run x.1 y h; ⟨law04_conditions_an n, iNil, (law04_conditions_eq n x).trans hn⟩)

/-! ### tidewayref04.CheckRun -/
abbrev ref04_CheckRun_a : Ty := .pair t25 (.pair t26 (.pair t33 .unit))
abbrev ref04_CheckRun_r : Ty := .pair t3 .unit
noncomputable def ref04_CheckRun_g : G := { T := T, E := [ref04_CheckVolumes_e, ref04_OnlyCondition_e], muts := [], fz := [] }
def ref04_CheckRun_k : List (List Nat) := [[2, 3, 8]]
noncomputable def ref04_CheckRun_an (n : Nat) : Ann := { keep := ref04_CheckRun_k, fuel := n, inl := [], deep := 0 }
noncomputable def ref04_CheckRun_m_l1 (n : Nat) (r1 : List Cnd → Bas → Int → Option (Int × Unit)) (l2_1 : List Cnd) (b3_1 : Bas) (i8_1 : Int) : Option (Int × Unit) :=
  (bif Decidable.decide (i8_1 < (↑l2_1.length : Int)) then (Option.bind (Go.Vx.idx l2_1 i8_1) fun (v2 : Cnd) => (Option.bind (Go.Tw.ref04_OnlyCondition_M b3_1 v2) fun (v3 : Int × Unit) => (bif v3.fst != (0 : Int) then Option.some (v3.fst, ()) else r1 l2_1 b3_1 (Go.IntKind.i64.wrap (i8_1 + (1 : Int)))))) else Option.some ((0 : Int), ()))

noncomputable def ref04_CheckRun_m_w1 (n : Nat)  (k : Nat) (l2_1 : List Cnd) (b3_1 : Bas) (i8_1 : Int) : Option (Int × Unit) :=
  iter (fun r y => ref04_CheckRun_m_l1 n (fun l2_1 b3_1 i8_1 => r ((l2_1, (b3_1, (i8_1, ()))), ((), ()))) y.1.1 y.1.2.1 y.1.2.2.1) k ((l2_1, (b3_1, (i8_1, ()))), ((), ()))

noncomputable def ref04_CheckRun_m (n : Nat) (b : Bas) (v : List Int) (l : List Cnd) : Option (Int × Unit) :=
  (Option.bind (Go.Tw.ref04_CheckVolumes_M b v) fun (v0 : Int × Unit) => (bif v0.fst != (0 : Int) then Option.some (v0.fst, ()) else (bif Decidable.decide ((↑l.length : Int) > (96 : Int)) then Option.some ((5 : Int), ()) else (ref04_CheckRun_m_w1 n n (l) (b) ((0 : Int))))))

theorem ref04_CheckRun_eq (n : Nat) (x : ref04_CheckRun_a.den) : runF ref04_CheckRun_g (ref04_CheckRun_an n) Tryz.f25 ref04_CheckRun_a ref04_CheckRun_r x = ref04_CheckRun_m n x.1 x.2.1 x.2.2.1 := by kernel_rfl

noncomputable def ref04_CheckRun_b1 (l2_1 : List Cnd) (b3_1 : Bas) (i8_1 : Int) (v2 : Cnd) : Option ((Int × Unit) ⊕ Unit) :=
  (Option.bind (Go.Tw.ref04_OnlyCondition_M b3_1 v2) fun (v3 : Int × Unit) => (bif v3.fst != (0 : Int) then (some (Sum.inl ((v3.fst, ())))) else (some (Sum.inr ()))))

noncomputable def ref04_CheckRun_f1 (l2_1 : List Cnd) (b3_1 : Bas) : Option (Int × Unit) :=
  (some (((0 : Int), ())))

theorem ref04_CheckRun_m_w1_le (n : Nat) (hn : big ≤ n)  (l2_1 : List Cnd) (b3_1 : Bas) (hx : List.length (l2_1) < lenMax) : LeF some (loopL (fun i__ e__ s__ => ref04_CheckRun_b1 l2_1 b3_1 i__ e__) (fun s__ => ref04_CheckRun_f1 l2_1 b3_1) 0 (l2_1) ()) (ref04_CheckRun_m_w1 n n l2_1 b3_1 0) := by
  refine loopL_le (f := some) (W := fun k__ i__ s__ => ref04_CheckRun_m_w1 n k__ l2_1 b3_1 i__) (body := (fun i__ e__ s__ => ref04_CheckRun_b1 l2_1 b3_1 i__ e__)) (fin := (fun s__ => ref04_CheckRun_f1 l2_1 b3_1)) (fun k__ i__ s__ => ?_) hx () n (by unfold big at hn; unfold lenMax at hx; omega)
  show LeF _ _ (ref04_CheckRun_m_l1 n (ref04_CheckRun_m_w1 n k__) l2_1 b3_1 i__)
  exact leCond (leBind fun v2 => (leBind fun v3 => (leCond (leSome rfl) (leSome rfl)))) (leMap (leSome rfl))

noncomputable def ref04_CheckRun_M (b : Bas) (v : List Int) (l : List Cnd) : Option (Int × Unit) :=
  (Option.bind (Go.Tw.ref04_CheckVolumes_M b v) fun (v0 : Int × Unit) => (bif v0.fst != (0 : Int) then (some ((v0.fst, ()))) else (bif Decidable.decide ((↑l.length : Int) > (96 : Int)) then (some (((5 : Int), ()))) else (bif decide (List.length (l) < lenMax) then loopL (fun i__ e__ s__ => ref04_CheckRun_b1 (l) (b) i__ e__) (fun s__ => ref04_CheckRun_f1 (l) (b)) 0 (l) () else none))))

theorem ref04_CheckRun_run (b : Bas) (v : List Int) (l : List Cnd) (y : Int × Unit) (h : ref04_CheckRun_M b v l = some y) : ∃ n, ref04_CheckRun_m n b v l = some y :=
  ⟨big, LeF.top (show LeF some (ref04_CheckRun_M b v l) (ref04_CheckRun_m big b v l) from (fun (n : Nat) (hn : big ≤ n) => show LeF some (ref04_CheckRun_M b v l) (ref04_CheckRun_m n b v l) from (leBind fun v0 => (leCond (leSome rfl) (leCond (leSome rfl) (leGuard fun hx => by apply ref04_CheckRun_m_w1_le n hn; exact hx))))) big (Nat.le_refl _)) h⟩
noncomputable def ref04_CheckRun_e : Entry := { f := 25, args := ref04_CheckRun_a, ress := ref04_CheckRun_r, m := fun x => ref04_CheckRun_M x.1 x.2.1 x.2.2.1 }
theorem ref04_CheckRun_ok : FnOK Tryz.prog ref04_CheckRun_e := fn_ok (g := ref04_CheckRun_g) (fn := Tryz.f25) hmixed tabOk (eCons ref04_CheckVolumes_ok (eCons ref04_OnlyCondition_ok eNil)) (by kernel_rfl) (by kernel_rfl) (by kernel_rfl) (fun x y h => let ⟨n, hn⟩ := ref04_CheckRun_run x.1 x.2.1 x.2.2.1 y h; ⟨ref04_CheckRun_an n, iNil, (ref04_CheckRun_eq n x).trans hn⟩)

/-! ### basin.Step -/
abbrev basin_Step_a : Ty := .pair t41 (.pair t26 (.pair t44 .unit))
abbrev basin_Step_r : Ty := .pair t26 (.pair t35 .unit)
noncomputable def basin_Step_g : G := { T := T, E := [basin_checked_e], muts := [], fz := [] }
def basin_Step_k : List (List Nat) := []
noncomputable def basin_Step_an (n : Nat) : Ann := { keep := basin_Step_k, fuel := n, inl := [], deep := 0 }
noncomputable def basin_Step_m (n : Nat) (b : Bas) (v : List Int) (c : Cnd) : Option (List Int × Int × Unit) :=
  (Option.bind (Go.Tw.basin_checked_M b v [c]) fun (v0 : List Psg × Int × Unit) => (bif v0.snd.fst != (0 : Int) then Option.some ([], v0.snd.fst, ()) else (Option.bind (Go.Vx.idx v0.fst (0 : Int)) fun (v1 : Psg) => Option.some (v1.snd.snd.fst.getD [], (0 : Int), ()))))

theorem basin_Step_eq (n : Nat) (x : basin_Step_a.den) : runF basin_Step_g (basin_Step_an n) Tryz.f43 basin_Step_a basin_Step_r x = basin_Step_m n x.1 x.2.1 x.2.2.1 := by kernel_rfl

noncomputable def basin_Step_M (b : Bas) (v : List Int) (c : Cnd) : Option (List Int × Int × Unit) := basin_Step_m 0 b v c

theorem basin_Step_run (b : Bas) (v : List Int) (c : Cnd) (y : List Int × Int × Unit) (h : basin_Step_M b v c = some y) : ∃ n, basin_Step_m n b v c = some y := ⟨0, h⟩
noncomputable def basin_Step_e : Entry := { f := 43, args := basin_Step_a, ress := basin_Step_r, m := fun x => basin_Step_M x.1 x.2.1 x.2.2.1 }
theorem basin_Step_ok : FnOK Tryz.prog basin_Step_e := fn_ok (g := basin_Step_g) (fn := Tryz.f43) hmixed tabOk (eCons basin_checked_ok eNil) (by kernel_rfl) (by kernel_rfl) (by kernel_rfl) (fun x y h => let ⟨n, hn⟩ := basin_Step_run x.1 x.2.1 x.2.2.1 y h; ⟨basin_Step_an n, iNil, (basin_Step_eq n x).trans hn⟩)

/-! ### tidewaylaw04.total -/
abbrev law04_total_a : Ty := .pair t26 .unit
abbrev law04_total_r : Ty := .pair t3 .unit
noncomputable def law04_total_g : G := { T := T, E := [], muts := [], fz := [] }
def law04_total_k : List (List Nat) := [[3, 6, 7, 8]]
noncomputable def law04_total_an (n : Nat) : Ann := { keep := law04_total_k, fuel := n, inl := [], deep := 0 }
noncomputable def law04_total_m_l0 (n : Nat) (r0 : Int → List Int → Int → Int → Option (Int × Unit)) (n3_0 : Int) (t6_0 : List Int) (t7_0 : Int) (t8_0 : Int) : Option (Int × Unit) :=
  (bif Decidable.decide (t8_0 < t7_0) then (Option.bind (Go.Vx.idx t6_0 t8_0) fun (v1 : Int) => r0 (Go.IntKind.i64.wrap (n3_0 + v1)) t6_0 t7_0 (Go.IntKind.i64.wrap (t8_0 + (1 : Int)))) else Option.some (n3_0, ()))

noncomputable def law04_total_m_w0 (n : Nat)  (k : Nat) (n3_0 : Int) (t6_0 : List Int) (t7_0 : Int) (t8_0 : Int) : Option (Int × Unit) :=
  iter (fun r y => law04_total_m_l0 n (fun n3_0 t6_0 t7_0 t8_0 => r ((n3_0, (t6_0, (t7_0, (t8_0, ())))), ((), ()))) y.1.1 y.1.2.1 y.1.2.2.1 y.1.2.2.2.1) k ((n3_0, (t6_0, (t7_0, (t8_0, ())))), ((), ()))

noncomputable def law04_total_m (n : Nat) (v : List Int) : Option (Int × Unit) :=
  (law04_total_m_w0 n n ((0 : Int)) (v) ((↑v.length : Int)) ((0 : Int)))

theorem law04_total_eq (n : Nat) (x : law04_total_a.den) : runF law04_total_g (law04_total_an n) Tryz.f46 law04_total_a law04_total_r x = law04_total_m n x.1 := by kernel_rfl

noncomputable def law04_total_b0 (t6_0 : List Int) (t8_0 : Int) (v1 : Int) (n3_0 : Int) : Option ((Int × Unit) ⊕ (Int)) :=
  (some (Sum.inr (Go.IntKind.i64.wrap (n3_0 + v1))))

noncomputable def law04_total_f0 (t6_0 : List Int) (n3_0 : Int) : Option (Int × Unit) :=
  (some ((n3_0, ())))

theorem law04_total_m_w0_le (n : Nat) (hn : big ≤ n)  (t6_0 : List Int) (n3_0 : Int) (hx : List.length (t6_0) < lenMax) : LeF some (loopL (fun i__ e__ s__ => law04_total_b0 t6_0 i__ e__ s__) (fun s__ => law04_total_f0 t6_0 s__) 0 (t6_0) n3_0) (law04_total_m_w0 n n n3_0 t6_0 (List.length (t6_0) : Int) 0) := by
  refine loopL_le (f := some) (W := fun k__ i__ s__ => law04_total_m_w0 n k__ s__ t6_0 (List.length (t6_0) : Int) i__) (body := (fun i__ e__ s__ => law04_total_b0 t6_0 i__ e__ s__)) (fin := (fun s__ => law04_total_f0 t6_0 s__)) (fun k__ i__ s__ => ?_) hx n3_0 n (by unfold big at hn; unfold lenMax at hx; omega)
  show LeF _ _ (law04_total_m_l0 n (law04_total_m_w0 n k__) s__ t6_0 (List.length (t6_0) : Int) i__)
  exact leCond (leBind fun v1 => (leSome rfl)) (leMap (leSome rfl))

noncomputable def law04_total_M (v : List Int) : Option (Int × Unit) :=
  (bif decide (List.length (v) < lenMax) then loopL (fun i__ e__ s__ => law04_total_b0 (v) i__ e__ s__) (fun s__ => law04_total_f0 (v) s__) 0 (v) ((0 : Int)) else none)

theorem law04_total_run (v : List Int) (y : Int × Unit) (h : law04_total_M v = some y) : ∃ n, law04_total_m n v = some y :=
  ⟨big, LeF.top (show LeF some (law04_total_M v) (law04_total_m big v) from (fun (n : Nat) (hn : big ≤ n) => show LeF some (law04_total_M v) (law04_total_m n v) from (leGuard fun hx => by apply law04_total_m_w0_le n hn; exact hx)) big (Nat.le_refl _)) h⟩
noncomputable def law04_total_e : Entry := { f := 46, args := law04_total_a, ress := law04_total_r, m := fun x => law04_total_M x.1 }
theorem law04_total_ok : FnOK Tryz.prog law04_total_e := fn_ok (g := law04_total_g) (fn := Tryz.f46) hmixed tabOk eNil (by kernel_rfl) (by kernel_rfl) (by kernel_rfl) (fun x y h => let ⟨n, hn⟩ := law04_total_run x.1 y h; ⟨law04_total_an n, iNil, (law04_total_eq n x).trans hn⟩)

/-! ### tidewayref01.SameWords -/
/-! ### tidewayref04.Room -/
/-! ### tidewayref04.Above -/
/-! ### tidewayref04.Run -/
/-! ### tidewayref04.Account -/
/-! ### basin.First -/
end Go.Tw
end
