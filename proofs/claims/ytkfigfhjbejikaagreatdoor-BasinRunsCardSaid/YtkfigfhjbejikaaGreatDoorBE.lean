/- Models of the program's functions, by program (gen.py), and what they compute.
Models of the program's functions, by program (gen.py), and what they compute.
Models of the program's functions, by program (gen.py), and what they compute.
Models of the program's functions, by program (gen.py), and what they compute.
Models of the program's functions, by program (gen.py), and what they compute.
Models of the program's functions, by program (gen.py), and what they compute. -/
import Derived.Test.YtkfigfhjbejikaaGreatDoorBT
import Derived.Test.YtkfigfhjbejikaaGreatDoorBA
import Derived.Test.YtkfigfhjbejikaaGreatDoorBC
import Derived.Test.YtkfigfhjbejikaaGreatDoorBD
import Derived.Test.YtkfigfhjbejikaaGreatDoorBS

section
set_option linter.all false
set_option maxRecDepth 1000000
namespace Go.Tw
open Go.Vx Go.Vx.B Go.Proofs
noncomputable def il125 : Inl := { f := 125, fn := Tryz.f125, keep := [], muts := [], fz := [] }
theorem il125_ok : InlOK Tryz.prog il125 := ⟨by kernel_rfl, by kernel_rfl, fun e0 h => by cases (show (none : Option Nat) = some e0 from h)⟩
noncomputable def il130 : Inl := { f := 130, fn := Tryz.f130, keep := [], muts := [], fz := [] }
theorem il130_ok : InlOK Tryz.prog il130 := ⟨by kernel_rfl, by kernel_rfl, fun e0 h => by cases (show (none : Option Nat) = some e0 from h)⟩
noncomputable def il126 : Inl := { f := 126, fn := Tryz.f126, keep := [], muts := [], fz := [] }
theorem il126_ok : InlOK Tryz.prog il126 := ⟨by kernel_rfl, by kernel_rfl, fun e0 h => by cases (show (none : Option Nat) = some e0 from h)⟩
noncomputable def il169 : Inl := { f := 169, fn := Tryz.f169, lib := some 201 }
theorem il169_ok : InlOK Tryz.prog il169 := ⟨by kernel_rfl, by kernel_rfl, fun e0 h => (Option.some.inj (show some 201 = some e0 from h)) ▸ copy201⟩
/-! ### basin.Print -/
abbrev basin_Print_a : Ty := .pair t41 .unit
abbrev basin_Print_r : Ty := .pair t9 (.pair t35 .unit)
noncomputable def basin_Print_g : G := { T := T, E := [basin_CheckBasin_e, basin_mapped_int_string_e, strconv_Itoa_e, strings_Join_e], muts := [5, 27, 45], fz := [] }
def basin_Print_k : List (List Nat) := [[1, 5, 6, 18, 19, 20], [5, 6, 36, 37, 38]]
noncomputable def basin_Print_an (n : Nat) : Ann := { keep := basin_Print_k, fuel := n, inl := [il125, il130, il126, il169], deep := 8 }
noncomputable def basin_Print_m_l5 (n : Nat) (r5 : List Lnk → Int → Int → List Int → Option (List UInt8 × Int × Unit)) (t36_5 : List Lnk) (t37_5 : Int) (t38_5 : Int) (c1_5 : List Int) : Option (List UInt8 × Int × Unit) :=
  (bif Decidable.decide (t38_5 < t37_5) then (Option.bind (Go.Vx.idx t36_5 t38_5) fun (v6 : Lnk) => (Option.bind (Go.Tw.basin_mapped_int_string_M [v6.snd.fst, v6.snd.snd.fst, v6.snd.snd.snd.fst, v6.snd.snd.snd.snd.fst] fun (x : Int × Unit) => Go.Tw.itoaM x.fst) fun (v7 : List (List UInt8) × Unit) => (bif Decidable.decide ((1 : Nat) + v7.fst.length ≤ Go.Vx.memMax) then (Option.bind (Go.Tw.joinM ([v6.fst] ++ v7.fst) [(32 : UInt8)]) fun (v8 : List UInt8 × Unit) => (bif Decidable.decide (v8.fst.length + (1 : Nat) < Go.Vx.strMax) then (bif Decidable.decide (c1_5.length + (v8.fst ++ [(10 : UInt8)]).length ≤ Go.Vx.memMax) then r5 t36_5 t37_5 (Go.IntKind.i64.wrap (t38_5 + (1 : Int))) (c1_5 ++ Go.Vx.strInts (v8.fst ++ [(10 : UInt8)])) else none) else none)) else none))) else (bif Decidable.decide ((0 : Nat) < c1_5.length) then (bif (↑c1_5.length : Int) == (↑c1_5.length : Int) && Decidable.decide ((0 : Nat) < c1_5.length) && Go.Vx.isBytes c1_5 then Option.some (Go.Vx.bytesOf c1_5, (0 : Int), ()) else none) else none))

noncomputable def basin_Print_m_w5 (n : Nat)  (k : Nat) (t36_5 : List Lnk) (t37_5 : Int) (t38_5 : Int) (c1_5 : List Int) : Option (List UInt8 × Int × Unit) :=
  iter (fun r y => basin_Print_m_l5 n (fun t36_5 t37_5 t38_5 c1_5 => r (((), (t36_5, (t37_5, (t38_5, ())))), (((), (c1_5, ())), ()))) y.1.2.1 y.1.2.2.1 y.1.2.2.2.1 y.2.1.2.1) k (((), (t36_5, (t37_5, (t38_5, ())))), (((), (c1_5, ())), ()))

noncomputable def basin_Print_m_l1 (n : Nat) (r1 : Bas → List Nod → Int → Int → List Int → Option (List UInt8 × Int × Unit)) (b1_1 : Bas) (t18_1 : List Nod) (t19_1 : Int) (t20_1 : Int) (c1_1 : List Int) : Option (List UInt8 × Int × Unit) :=
  (bif Decidable.decide (t20_1 < t19_1) then (Option.bind (Go.Vx.idx t18_1 t20_1) fun (v2 : Nod) => (Option.bind (Go.Tw.basin_mapped_int_string_M [v2.snd.fst, v2.snd.snd.fst] fun (x : Int × Unit) => Go.Tw.itoaM x.fst) fun (v3 : List (List UInt8) × Unit) => (bif Decidable.decide ((2 : Nat) + v3.fst.length ≤ Go.Vx.memMax) then (Option.bind (Go.Tw.joinM ([[(110 : UInt8), (111 : UInt8), (100 : UInt8), (101 : UInt8)], v2.fst] ++ v3.fst) [(32 : UInt8)]) fun (v4 : List UInt8 × Unit) => (bif Decidable.decide (v4.fst.length + (1 : Nat) < Go.Vx.strMax) then (bif Decidable.decide (c1_1.length + (v4.fst ++ [(10 : UInt8)]).length ≤ Go.Vx.memMax) then r1 b1_1 t18_1 t19_1 (Go.IntKind.i64.wrap (t20_1 + (1 : Int))) (c1_1 ++ Go.Vx.strInts (v4.fst ++ [(10 : UInt8)])) else none) else none)) else none))) else (basin_Print_m_w5 n n (b1_1.snd.fst) ((↑b1_1.snd.fst.length : Int)) ((0 : Int)) (c1_1)))

noncomputable def basin_Print_m_w1 (n : Nat)  (k : Nat) (b1_1 : Bas) (t18_1 : List Nod) (t19_1 : Int) (t20_1 : Int) (c1_1 : List Int) : Option (List UInt8 × Int × Unit) :=
  iter (fun r y => basin_Print_m_l1 n (fun b1_1 t18_1 t19_1 t20_1 c1_1 => r ((b1_1, ((), (t18_1, (t19_1, (t20_1, ()))))), (((), (c1_1, ())), ()))) y.1.1 y.1.2.2.1 y.1.2.2.2.1 y.1.2.2.2.2.1 y.2.1.2.1) k ((b1_1, ((), (t18_1, (t19_1, (t20_1, ()))))), (((), (c1_1, ())), ()))

noncomputable def basin_Print_m (n : Nat) (b : Bas) : Option (List UInt8 × Int × Unit) :=
  (Option.bind (Go.Tw.basin_CheckBasin_M b) fun (v0 : Int × Unit) => (bif v0.fst != (0 : Int) then Option.some ([], v0.fst, ()) else (basin_Print_m_w1 n n (b) (b.fst) ((↑b.fst.length : Int)) ((0 : Int)) ([]))))

theorem basin_Print_eq (n : Nat) (x : basin_Print_a.den) : runF basin_Print_g (basin_Print_an n) Tryz.f78 basin_Print_a basin_Print_r x = basin_Print_m n x.1 := by kernel_rfl

noncomputable def basin_Print_b5 (t36_5 : List Lnk) (t38_5 : Int) (v6 : Lnk) (c1_5 : List Int) : Option ((List UInt8 × Int × Unit) ⊕ (List Int)) :=
  (Option.bind (Go.Tw.basin_mapped_int_string_M [v6.snd.fst, v6.snd.snd.fst, v6.snd.snd.snd.fst, v6.snd.snd.snd.snd.fst] fun (x : Int × Unit) => Go.Tw.itoaM x.fst) fun (v7 : List (List UInt8) × Unit) => (bif Decidable.decide ((1 : Nat) + v7.fst.length ≤ Go.Vx.memMax) then (Option.bind (Go.Tw.joinM ([v6.fst] ++ v7.fst) [(32 : UInt8)]) fun (v8 : List UInt8 × Unit) => (bif Decidable.decide (v8.fst.length + (1 : Nat) < Go.Vx.strMax) then (bif Decidable.decide (c1_5.length + (v8.fst ++ [(10 : UInt8)]).length ≤ Go.Vx.memMax) then (some (Sum.inr (c1_5 ++ Go.Vx.strInts (v8.fst ++ [(10 : UInt8)])))) else none) else none)) else none))

noncomputable def basin_Print_f5 (t36_5 : List Lnk) (c1_5 : List Int) : Option (List UInt8 × Int × Unit) :=
  (bif Decidable.decide ((0 : Nat) < c1_5.length) then (bif (↑c1_5.length : Int) == (↑c1_5.length : Int) && Decidable.decide ((0 : Nat) < c1_5.length) && Go.Vx.isBytes c1_5 then (some ((Go.Vx.bytesOf c1_5, (0 : Int), ()))) else none) else none)

theorem basin_Print_m_w5_le (n : Nat) (hn : big ≤ n)  (t36_5 : List Lnk) (c1_5 : List Int) (hx : List.length (t36_5) < lenMax) : LeF some (loopL (fun i__ e__ s__ => basin_Print_b5 t36_5 i__ e__ s__) (fun s__ => basin_Print_f5 t36_5 s__) 0 (t36_5) c1_5) (basin_Print_m_w5 n n t36_5 (List.length (t36_5) : Int) 0 c1_5) := by
  refine loopL_le (f := some) (W := fun k__ i__ s__ => basin_Print_m_w5 n k__ t36_5 (List.length (t36_5) : Int) i__ s__) (body := (fun i__ e__ s__ => basin_Print_b5 t36_5 i__ e__ s__)) (fin := (fun s__ => basin_Print_f5 t36_5 s__)) (fun k__ i__ s__ => ?_) hx c1_5 n (by unfold big at hn; unfold lenMax at hx; omega)
  show LeF _ _ (basin_Print_m_l5 n (basin_Print_m_w5 n k__) t36_5 (List.length (t36_5) : Int) i__ s__)
  exact leCond (leBind fun v6 => (leBind fun v7 => (leCond (leBind fun v8 => (leCond (leCond (leSome rfl) leNone) leNone)) leNone))) (leMap (leCond (leCond (leSome rfl) leNone) leNone))

noncomputable def basin_Print_b1 (b1_1 : Bas) (t18_1 : List Nod) (t20_1 : Int) (v2 : Nod) (c1_1 : List Int) : Option ((List UInt8 × Int × Unit) ⊕ (List Int)) :=
  (Option.bind (Go.Tw.basin_mapped_int_string_M [v2.snd.fst, v2.snd.snd.fst] fun (x : Int × Unit) => Go.Tw.itoaM x.fst) fun (v3 : List (List UInt8) × Unit) => (bif Decidable.decide ((2 : Nat) + v3.fst.length ≤ Go.Vx.memMax) then (Option.bind (Go.Tw.joinM ([[(110 : UInt8), (111 : UInt8), (100 : UInt8), (101 : UInt8)], v2.fst] ++ v3.fst) [(32 : UInt8)]) fun (v4 : List UInt8 × Unit) => (bif Decidable.decide (v4.fst.length + (1 : Nat) < Go.Vx.strMax) then (bif Decidable.decide (c1_1.length + (v4.fst ++ [(10 : UInt8)]).length ≤ Go.Vx.memMax) then (some (Sum.inr (c1_1 ++ Go.Vx.strInts (v4.fst ++ [(10 : UInt8)])))) else none) else none)) else none))

noncomputable def basin_Print_f1 (b1_1 : Bas) (t18_1 : List Nod) (c1_1 : List Int) : Option (List UInt8 × Int × Unit) :=
  (bif decide (List.length (b1_1.snd.fst) < lenMax) then loopL (fun i__ e__ s__ => basin_Print_b5 (b1_1.snd.fst) i__ e__ s__) (fun s__ => basin_Print_f5 (b1_1.snd.fst) s__) 0 (b1_1.snd.fst) (c1_1) else none)

theorem basin_Print_m_w1_le (n : Nat) (hn : big ≤ n)  (b1_1 : Bas) (t18_1 : List Nod) (c1_1 : List Int) (hx : List.length (t18_1) < lenMax) : LeF some (loopL (fun i__ e__ s__ => basin_Print_b1 b1_1 t18_1 i__ e__ s__) (fun s__ => basin_Print_f1 b1_1 t18_1 s__) 0 (t18_1) c1_1) (basin_Print_m_w1 n n b1_1 t18_1 (List.length (t18_1) : Int) 0 c1_1) := by
  refine loopL_le (f := some) (W := fun k__ i__ s__ => basin_Print_m_w1 n k__ b1_1 t18_1 (List.length (t18_1) : Int) i__ s__) (body := (fun i__ e__ s__ => basin_Print_b1 b1_1 t18_1 i__ e__ s__)) (fin := (fun s__ => basin_Print_f1 b1_1 t18_1 s__)) (fun k__ i__ s__ => ?_) hx c1_1 n (by unfold big at hn; unfold lenMax at hx; omega)
  show LeF _ _ (basin_Print_m_l1 n (basin_Print_m_w1 n k__) b1_1 t18_1 (List.length (t18_1) : Int) i__ s__)
  exact leCond (leBind fun v2 => (leBind fun v3 => (leCond (leBind fun v4 => (leCond (leCond (leSome rfl) leNone) leNone)) leNone))) (leMap (leGuard fun hx => by apply basin_Print_m_w5_le n hn; exact hx))

noncomputable def basin_Print_M (b : Bas) : Option (List UInt8 × Int × Unit) :=
  (Option.bind (Go.Tw.basin_CheckBasin_M b) fun (v0 : Int × Unit) => (bif v0.fst != (0 : Int) then (some (([], v0.fst, ()))) else (bif decide (List.length (b.fst) < lenMax) then loopL (fun i__ e__ s__ => basin_Print_b1 (b) (b.fst) i__ e__ s__) (fun s__ => basin_Print_f1 (b) (b.fst) s__) 0 (b.fst) ([]) else none)))

theorem basin_Print_run (b : Bas) (y : List UInt8 × Int × Unit) (h : basin_Print_M b = some y) : ∃ n, basin_Print_m n b = some y :=
  ⟨big, LeF.top (show LeF some (basin_Print_M b) (basin_Print_m big b) from (fun (n : Nat) (hn : big ≤ n) => show LeF some (basin_Print_M b) (basin_Print_m n b) from (leBind fun v0 => (leCond (leSome rfl) (leGuard fun hx => by apply basin_Print_m_w1_le n hn; exact hx)))) big (Nat.le_refl _)) h⟩
noncomputable def basin_Print_e : Entry := { f := 78, args := basin_Print_a, ress := basin_Print_r, m := fun x => basin_Print_M x.1 }
theorem basin_Print_ok : FnOK Tryz.prog basin_Print_e := fn_ok (g := basin_Print_g) (fn := Tryz.f78) hmixed tabOk (eCons basin_CheckBasin_ok (eCons basin_mapped_int_string_ok (eCons strconv_Itoa_ok (eCons strings_Join_ok eNil)))) (by kernel_rfl) (by kernel_rfl) (by kernel_rfl) (fun x y h => let ⟨n, hn⟩ := basin_Print_run x.1 y h; ⟨basin_Print_an n, (iCons il125_ok (iCons il130_ok (iCons il126_ok (iCons il169_ok iNil)))), (basin_Print_eq n x).trans hn⟩)

end Go.Tw
end

section
set_option linter.all false
set_option maxRecDepth 1000000
namespace Go.Tw
open Go.Vx Go.Vx.B Go.Proofs
/-! ### tidewaylaw04.awake -/
abbrev law04_awake_a : Ty := .unit
abbrev law04_awake_r : Ty := .pair t4 .unit
noncomputable def law04_awake_g : G := { T := T, E := [law04_lake_e, basin_Levels_e, basin_Room_e, basin_Flows_e, basin_Run_e, basin_Account_e, basin_Until_e, ref01_SameInts_e, ref04_SameRows_e, basin_Enclose_e, basin_Above_e, basin_Print_e, ref04_SameIntervals_e], muts := [], fz := [] }
def law04_awake_k : List (List Nat) := []
noncomputable def law04_awake_an (n : Nat) : Ann := { keep := law04_awake_k, fuel := n, inl := [], deep := 0 }
noncomputable def law04_awake_m (n : Nat)  : Option (Bool × Unit) :=
  (Option.bind (Go.Tw.basin_Levels_M Go.Tw.law04_lake.fst [(100 : Int), (30 : Int)]) fun (v0 : List Int × Int × Unit) => (Option.bind (Go.Tw.basin_Room_M Go.Tw.law04_lake.fst [(100 : Int), (30 : Int)]) fun (v1 : List Int × Int × Unit) => (Option.bind (Go.Tw.basin_Flows_M Go.Tw.law04_lake.fst [(100 : Int), (30 : Int)] ((16 : Int), Bool.true, [(20 : Int), (5 : Int)], ())) fun (v2 : List Int × Int × Unit) => (Option.bind (Go.Tw.basin_Run_M Go.Tw.law04_lake.fst [(100 : Int), (30 : Int)] [((16 : Int), Bool.true, [(20 : Int), (5 : Int)], ()), ((8 : Int), Bool.false, [(0 : Int), (0 : Int)], ())]) fun (v3 : List (List Int) × Int × Unit) => (Option.bind (Go.Tw.basin_Account_M Go.Tw.law04_lake.fst [(100 : Int), (30 : Int)] [((16 : Int), Bool.true, [(20 : Int), (5 : Int)], ()), ((8 : Int), Bool.false, [(0 : Int), (0 : Int)], ())]) fun (v4 : (Int × Int × Int × Unit) × Int × Unit) => (Option.bind (Go.Tw.basin_Until_M Go.Tw.law04_lake.fst [(100 : Int), (20 : Int)] ((16 : Int), Bool.false, [(50 : Int), (0 : Int)], ()) (0 : Int) (20 : Int)) fun (v5 : Int × Int × Unit) => (bif Go.IntKind.i64.wrap (Go.IntKind.i64.wrap (Go.IntKind.i64.wrap (Go.IntKind.i64.wrap (Go.IntKind.i64.wrap (v0.snd.fst + v1.snd.fst) + v2.snd.fst) + v3.snd.fst) + v4.snd.fst) + v5.snd.fst) != (0 : Int) then Option.some (Bool.false, ()) else (Option.bind (Go.Tw.ref01_SameInts_M v0.fst [(10 : Int), (6 : Int)]) fun (v6 : Bool × Unit) => (bif !v6.fst then Option.some (Bool.false, ()) else (Option.bind (Go.Tw.ref01_SameInts_M v1.fst [(109 : Int), (14 : Int)]) fun (v7 : Bool × Unit) => (bif !v7.fst then Option.some (Bool.false, ()) else (Option.bind (Go.Tw.ref01_SameInts_M v2.fst [(20 : Int), (10 : Int), (0 : Int)]) fun (v8 : Bool × Unit) => (bif !v8.fst then Option.some (Bool.false, ()) else (Option.bind (Go.Tw.ref04_SameRows_M v3.fst [[(150 : Int), (25 : Int)], [(147 : Int), (20 : Int)]]) fun (v9 : Bool × Unit) => (bif !v9.fst then Option.some (Bool.false, ()) else (bif !Go.Vx.eqV ((Go.Vx.Ty.int Go.IntKind.i64).pair ((Go.Vx.Ty.int Go.IntKind.i64).pair ((Go.Vx.Ty.int Go.IntKind.i64).pair Go.Vx.Ty.unit))) (v4.fst.fst, v4.fst.snd.fst, v4.fst.snd.snd.fst, ()) ((25 : Int), (20 : Int), (8 : Int), ()) then Option.some (Bool.false, ()) else (bif v5.fst != (3 : Int) then Option.some (Bool.false, ()) else (Option.bind (Go.Tw.basin_Enclose_M Go.Tw.law04_lake.fst [((100 : Int), (110 : Int), ()), ((20 : Int), (20 : Int), ())] [(((8 : Int), (16 : Int), ()), Bool.false, [((0 : Int), (50 : Int), ()), ((0 : Int), (0 : Int), ())], ())]) fun (v22 : List (List (Int × Int × Unit)) × Int × Unit) => (Option.bind (Go.Tw.basin_Above_M Go.Tw.law04_lake.fst [(210 : Int), (44 : Int)]) fun (v23 : List Int × Int × Unit) => (Option.bind (Go.Tw.basin_Print_M Go.Tw.law04_lake.fst) fun (v24 : List UInt8 × Int × Unit) => (bif Go.IntKind.i64.wrap (Go.IntKind.i64.wrap (v22.snd.fst + v23.snd.fst) + v24.snd.fst) == (0 : Int) then (Option.bind (Go.Tw.ref04_SameIntervals_M v22.fst [[((100 : Int), (160 : Int), ()), ((20 : Int), (20 : Int), ())]]) fun (v25 : Bool × Unit) => (bif v25.fst then (Option.bind (Go.Tw.ref01_SameInts_M v23.fst [(0 : Int)]) fun (v26 : Bool × Unit) => (bif v26.fst then Option.some (v24.fst == [(110 : UInt8), (111 : UInt8), (100 : UInt8), (101 : UInt8), (32 : UInt8), (108 : UInt8), (97 : UInt8), (107 : UInt8), (101 : UInt8), (32 : UInt8), (49 : UInt8), (48 : UInt8), (32 : UInt8), (50 : UInt8), (48 : UInt8), (10 : UInt8), (110 : UInt8), (111 : UInt8), (100 : UInt8), (101 : UInt8), (32 : UInt8), (112 : UInt8), (111 : UInt8), (108 : UInt8), (100 : UInt8), (101 : UInt8), (114 : UInt8), (32 : UInt8), (53 : UInt8), (32 : UInt8), (56 : UInt8), (10 : UInt8), (98 : UInt8), (97 : UInt8), (114 : UInt8), (114 : UInt8), (105 : UInt8), (101 : UInt8), (114 : UInt8), (32 : UInt8), (45 : UInt8), (49 : UInt8), (32 : UInt8), (48 : UInt8), (32 : UInt8), (48 : UInt8), (32 : UInt8), (50 : UInt8), (10 : UInt8), (112 : UInt8), (117 : UInt8), (109 : UInt8), (112 : UInt8), (32 : UInt8), (49 : UInt8), (32 : UInt8), (48 : UInt8), (32 : UInt8), (52 : UInt8), (32 : UInt8), (49 : UInt8), (48 : UInt8), (10 : UInt8), (111 : UInt8), (117 : UInt8), (116 : UInt8), (102 : UInt8), (97 : UInt8), (108 : UInt8), (108 : UInt8), (32 : UInt8), (48 : UInt8), (32 : UInt8), (45 : UInt8), (49 : UInt8), (32 : UInt8), (49 : UInt8), (50 : UInt8), (32 : UInt8), (52 : UInt8), (10 : UInt8)], ()) else Option.some (Bool.false, ()))) else Option.some (Bool.false, ()))) else Option.some (Bool.false, ()))))))))))))))))))))))

theorem law04_awake_eq (n : Nat) (x : law04_awake_a.den) : runF law04_awake_g (law04_awake_an n) Tryz.f17 law04_awake_a law04_awake_r x = law04_awake_m n := by kernel_rfl

noncomputable def law04_awake_M  : Option (Bool × Unit) := law04_awake_m 0

theorem law04_awake_run  (y : Bool × Unit) (h : law04_awake_M = some y) : ∃ n, law04_awake_m n = some y := ⟨0, h⟩
noncomputable def law04_awake_e : Entry := { f := 17, args := law04_awake_a, ress := law04_awake_r, m := fun x => law04_awake_M }
theorem law04_awake_ok : FnOK Tryz.prog law04_awake_e := fn_ok (g := law04_awake_g) (fn := Tryz.f17) hmixed tabOk (eCons law04_lake_ok (eCons basin_Levels_ok (eCons basin_Room_ok (eCons basin_Flows_ok (eCons basin_Run_ok (eCons basin_Account_ok (eCons basin_Until_ok (eCons ref01_SameInts_ok (eCons ref04_SameRows_ok (eCons basin_Enclose_ok (eCons basin_Above_ok (eCons basin_Print_ok (eCons ref04_SameIntervals_ok eNil))))))))))))) (by kernel_rfl) (by kernel_rfl) (by kernel_rfl) (fun x y h => let ⟨n, hn⟩ := law04_awake_run y h; ⟨law04_awake_an n, iNil, (law04_awake_eq n x).trans hn⟩)

end Go.Tw
end

section
set_option linter.all false
set_option maxRecDepth 1000000
namespace Go.Tw
open Go.Vx Go.Vx.B Go.Proofs
/-! ### tidewaylaw04.BasinUntil -/
abbrev law04_BasinUntil_a : Ty := .pair t25 (.pair t26 (.pair t30 .unit))
abbrev law04_BasinUntil_r : Ty := .pair t4 .unit
noncomputable def law04_BasinUntil_g : G := { T := T, E := [ref04_Short_e, ref04_ShortConditions_e, law04_awake_e, law04_given_e, law04_ints_e, law04_condition_e, basin_Until_e, ref04_CheckUntil_e, ref04_Until_e], muts := [], fz := [] }
def law04_BasinUntil_k : List (List Nat) := []
noncomputable def law04_BasinUntil_an (n : Nat) : Ann := { keep := law04_BasinUntil_k, fuel := n, inl := [], deep := 0 }
noncomputable def law04_BasinUntil_m_j23 (n : Nat) (v12 : Int × Int × Unit) (j15 : Int) (j16 : Int) : Option (Bool × Unit) :=
  (bif v12.fst == j16 then (bif v12.snd.fst == j15 then (Option.bind (Go.Tw.law04_awake_M) fun (v17 : Bool × Unit) => Option.some (v17.fst, ())) else Option.some (Bool.false, ())) else Option.some (Bool.false, ()))

noncomputable def law04_BasinUntil_m (n : Nat) (b : Bas) (v : List Int) (x1 : Cnd × Int × Int × Unit) : Option (Bool × Unit) :=
  (Option.bind (Go.Tw.ref04_Short_M b) fun (v0 : Bool × Unit) => (bif !v0.fst then (Option.bind (Go.Tw.law04_awake_M) fun (v6 : Bool × Unit) => Option.some (v6.fst, ())) else (bif Decidable.decide ((↑v.length : Int) > (9 : Int)) then (Option.bind (Go.Tw.law04_awake_M) fun (v7 : Bool × Unit) => Option.some (v7.fst, ())) else (Option.bind (Go.Tw.ref04_ShortConditions_M [x1.fst]) fun (v1 : Bool × Unit) => (bif !v1.fst then (Option.bind (Go.Tw.law04_awake_M) fun (v8 : Bool × Unit) => Option.some (v8.fst, ())) else (Option.bind (Go.Tw.law04_given_M b) fun (v9 : Bas × Unit) => (Option.bind (Go.Tw.law04_ints_M v) fun (v10 : List Int × Unit) => (Option.bind (Go.Tw.law04_condition_M x1.fst) fun (v11 : Cnd × Unit) => (Option.bind (Go.Tw.basin_Until_M v9.fst v10.fst v11.fst x1.snd.fst x1.snd.snd.fst) fun (v12 : Int × Int × Unit) => (Option.bind (Go.Tw.ref04_CheckUntil_M b v x1.fst x1.snd.fst x1.snd.snd.fst) fun (v13 : Int × Unit) => (bif v13.fst == (0 : Int) then (Option.bind (Go.Tw.ref04_Until_M b v x1.fst x1.snd.fst x1.snd.snd.fst) fun (v14 : Int × Int × Unit) => (law04_BasinUntil_m_j23 n v12 (v14.snd.fst) (v14.fst))) else (law04_BasinUntil_m_j23 n v12 (v13.fst) ((0 : Int))))))))))))))

theorem law04_BasinUntil_eq (n : Nat) (x : law04_BasinUntil_a.den) : runF law04_BasinUntil_g (law04_BasinUntil_an n) Tryz.f3 law04_BasinUntil_a law04_BasinUntil_r x = law04_BasinUntil_m n x.1 x.2.1 x.2.2.1 := by kernel_rfl

noncomputable def law04_BasinUntil_M (b : Bas) (v : List Int) (x1 : Cnd × Int × Int × Unit) : Option (Bool × Unit) := law04_BasinUntil_m 0 b v x1

theorem law04_BasinUntil_run (b : Bas) (v : List Int) (x1 : Cnd × Int × Int × Unit) (y : Bool × Unit) (h : law04_BasinUntil_M b v x1 = some y) : ∃ n, law04_BasinUntil_m n b v x1 = some y := ⟨0, h⟩
noncomputable def law04_BasinUntil_e : Entry := { f := 3, args := law04_BasinUntil_a, ress := law04_BasinUntil_r, m := fun x => law04_BasinUntil_M x.1 x.2.1 x.2.2.1 }
theorem law04_BasinUntil_ok : FnOK Tryz.prog law04_BasinUntil_e := fn_ok (g := law04_BasinUntil_g) (fn := Tryz.f3) hmixed tabOk (eCons ref04_Short_ok (eCons ref04_ShortConditions_ok (eCons law04_awake_ok (eCons law04_given_ok (eCons law04_ints_ok (eCons law04_condition_ok (eCons basin_Until_ok (eCons ref04_CheckUntil_ok (eCons ref04_Until_ok eNil))))))))) (by kernel_rfl) (by kernel_rfl) (by kernel_rfl) (fun x y h => let ⟨n, hn⟩ := law04_BasinUntil_run x.1 x.2.1 x.2.2.1 y h; ⟨law04_BasinUntil_an n, iNil, (law04_BasinUntil_eq n x).trans hn⟩)

end Go.Tw
end

section
set_option linter.all false
set_option maxRecDepth 1000000
namespace Go.Tw
open Go.Vx Go.Vx.B Go.Proofs
/-! ### tidewaylaw04.conditions -/
abbrev law04_conditions_a : Ty := .pair t33 .unit
abbrev law04_conditions_r : Ty := .pair t54 .unit
noncomputable def law04_conditions_g : G := { T := T, E := [law04_condition_e], muts := [3], fz := [] }
def law04_conditions_k : List (List Nat) := [[3, 6, 7, 8]]
noncomputable def law04_conditions_an (n : Nat) : Ann := { keep := law04_conditions_k, fuel := n, inl := [], deep := 0 }
noncomputable def law04_conditions_m_l0 (n : Nat) (r0 : List Cnd → Int → Int → List Cnd → Option (List Cnd × Unit)) (t6_0 : List Cnd) (t7_0 : Int) (t8_0 : Int) (c0_0 : List Cnd) : Option (List Cnd × Unit) :=
  (bif Decidable.decide (t8_0 < t7_0) then (Option.bind (Go.Vx.idx t6_0 t8_0) fun (v1 : Cnd) => (Option.bind (Go.Tw.law04_condition_M (v1.fst, v1.snd.fst, v1.snd.snd.fst, ())) fun (v2 : Cnd × Unit) => (bif Decidable.decide (c0_0.length + (1 : Nat) ≤ Go.Vx.memMax) then r0 t6_0 t7_0 (Go.IntKind.i64.wrap (t8_0 + (1 : Int))) (c0_0 ++ [v2.fst]) else none))) else Option.some (c0_0, ()))

noncomputable def law04_conditions_m_w0 (n : Nat)  (k : Nat) (t6_0 : List Cnd) (t7_0 : Int) (t8_0 : Int) (c0_0 : List Cnd) : Option (List Cnd × Unit) :=
  iter (fun r y => law04_conditions_m_l0 n (fun t6_0 t7_0 t8_0 c0_0 => r ((t6_0, (t7_0, (t8_0, ()))), ((c0_0, ()), ()))) y.1.1 y.1.2.1 y.1.2.2.1 y.2.1.1) k ((t6_0, (t7_0, (t8_0, ()))), ((c0_0, ()), ()))

noncomputable def law04_conditions_m (n : Nat) (l : List Cnd) : Option (List Cnd × Unit) :=
  (law04_conditions_m_w0 n n (l) ((↑l.length : Int)) ((0 : Int)) ([]))

theorem law04_conditions_eq (n : Nat) (x : law04_conditions_a.den) : runF law04_conditions_g (law04_conditions_an n) Tryz.f26 law04_conditions_a law04_conditions_r x = law04_conditions_m n x.1 := by kernel_rfl

noncomputable def law04_conditions_b0 (t6_0 : List Cnd) (t8_0 : Int) (v1 : Cnd) (c0_0 : List Cnd) : Option ((List Cnd × Unit) ⊕ (List Cnd)) :=
  (Option.bind (Go.Tw.law04_condition_M (v1.fst, v1.snd.fst, v1.snd.snd.fst, ())) fun (v2 : Cnd × Unit) => (bif Decidable.decide (c0_0.length + (1 : Nat) ≤ Go.Vx.memMax) then (some (Sum.inr (c0_0 ++ [v2.fst]))) else none))

noncomputable def law04_conditions_f0 (t6_0 : List Cnd) (c0_0 : List Cnd) : Option (List Cnd × Unit) :=
  (some ((c0_0, ())))

theorem law04_conditions_m_w0_le (n : Nat) (hn : big ≤ n)  (t6_0 : List Cnd) (c0_0 : List Cnd) (hx : List.length (t6_0) < lenMax) : LeF some (loopL (fun i__ e__ s__ => law04_conditions_b0 t6_0 i__ e__ s__) (fun s__ => law04_conditions_f0 t6_0 s__) 0 (t6_0) c0_0) (law04_conditions_m_w0 n n t6_0 (List.length (t6_0) : Int) 0 c0_0) := by
  refine loopL_le (f := some) (W := fun k__ i__ s__ => law04_conditions_m_w0 n k__ t6_0 (List.length (t6_0) : Int) i__ s__) (body := (fun i__ e__ s__ => law04_conditions_b0 t6_0 i__ e__ s__)) (fin := (fun s__ => law04_conditions_f0 t6_0 s__)) (fun k__ i__ s__ => ?_) hx c0_0 n (by unfold big at hn; unfold lenMax at hx; omega)
  show LeF _ _ (law04_conditions_m_l0 n (law04_conditions_m_w0 n k__) t6_0 (List.length (t6_0) : Int) i__ s__)
  exact leCond (leBind fun v1 => (leBind fun v2 => (leCond (leSome rfl) leNone))) (leMap (leSome rfl))

noncomputable def law04_conditions_M (l : List Cnd) : Option (List Cnd × Unit) :=
  (bif decide (List.length (l) < lenMax) then loopL (fun i__ e__ s__ => law04_conditions_b0 (l) i__ e__ s__) (fun s__ => law04_conditions_f0 (l) s__) 0 (l) ([]) else none)

theorem law04_conditions_run (l : List Cnd) (y : List Cnd × Unit) (h : law04_conditions_M l = some y) : ∃ n, law04_conditions_m n l = some y :=
  ⟨big, LeF.top (show LeF some (law04_conditions_M l) (law04_conditions_m big l) from (fun (n : Nat) (hn : big ≤ n) => show LeF some (law04_conditions_M l) (law04_conditions_m n l) from (leGuard fun hx => by apply law04_conditions_m_w0_le n hn; exact hx)) big (Nat.le_refl _)) h⟩
noncomputable def law04_conditions_e : Entry := { f := 26, args := law04_conditions_a, ress := law04_conditions_r, m := fun x => law04_conditions_M x.1 }
theorem law04_conditions_ok : FnOK Tryz.prog law04_conditions_e := fn_ok (g := law04_conditions_g) (fn := Tryz.f26) hmixed tabOk (eCons law04_condition_ok eNil) (by kernel_rfl) (by kernel_rfl) (by kernel_rfl) (fun x y h => let ⟨n, hn⟩ := law04_conditions_run x.1 y h; ⟨law04_conditions_an n, iNil, (law04_conditions_eq n x).trans hn⟩)

/-! ### tidewayref04.CheckRun -/
abbrev ref04_CheckRun_a : Ty := .pair t25 (.pair t26 (.pair t33 .unit))
abbrev ref04_CheckRun_r : Ty := .pair t3 .unit
noncomputable def ref04_CheckRun_g : G := { T := T, E := [ref04_CheckVolumes_e, ref04_OnlyCondition_e], muts := [], fz := [] }
def ref04_CheckRun_k : List (List Nat) := [[2, 3, 8]]
noncomputable def ref04_CheckRun_an (n : Nat) : Ann := { keep := ref04_CheckRun_k, fuel := n, inl := [], deep := 0 }
noncomputable def ref04_CheckRun_m_l1 (n : Nat) (r1 : List Cnd → Bas → Int → Option (Int × Unit)) (l2_1 : List Cnd) (b3_1 : Bas) (i8_1 : Int) : Option (Int × Unit) :=
  (bif Decidable.decide (i8_1 < (↑l2_1.length : Int)) then (Option.bind (Go.Vx.idx l2_1 i8_1) fun (v2 : Cnd) => (Option.bind (Go.Tw.ref04_OnlyCondition_M b3_1 v2) fun (v3 : Int × Unit) => (bif v3.fst != (0 : Int) then Option.some (v3.fst, ()) else r1 l2_1 b3_1 (Go.IntKind.i64.wrap (i8_1 + (1 : Int)))))) else Option.some ((0 : Int), ()))

noncomputable def ref04_CheckRun_m_w1 (n : Nat)  (k : Nat) (l2_1 : List Cnd) (b3_1 : Bas) (i8_1 : Int) : Option (Int × Unit) :=
  iter (fun r y => ref04_CheckRun_m_l1 n (fun l2_1 b3_1 i8_1 => r ((l2_1, (b3_1, (i8_1, ()))), ((), ()))) y.1.1 y.1.2.1 y.1.2.2.1) k ((l2_1, (b3_1, (i8_1, ()))), ((), ()))

noncomputable def ref04_CheckRun_m (n : Nat) (b : Bas) (v : List Int) (l : List Cnd) : Option (Int × Unit) :=
  (Option.bind (Go.Tw.ref04_CheckVolumes_M b v) fun (v0 : Int × Unit) => (bif v0.fst != (0 : Int) then Option.some (v0.fst, ()) else (bif Decidable.decide ((↑l.length : Int) > (96 : Int)) then Option.some ((5 : Int), ()) else (ref04_CheckRun_m_w1 n n (l) (b) ((0 : Int))))))

theorem ref04_CheckRun_eq (n : Nat) (x : ref04_CheckRun_a.den) : runF ref04_CheckRun_g (ref04_CheckRun_an n) Tryz.f25 ref04_CheckRun_a ref04_CheckRun_r x = ref04_CheckRun_m n x.1 x.2.1 x.2.2.1 := by kernel_rfl

noncomputable def ref04_CheckRun_b1 (l2_1 : List Cnd) (b3_1 : Bas) (i8_1 : Int) (v2 : Cnd) : Option ((Int × Unit) ⊕ Unit) :=
  (Option.bind (Go.Tw.ref04_OnlyCondition_M b3_1 v2) fun (v3 : Int × Unit) => (bif v3.fst != (0 : Int) then (some (Sum.inl ((v3.fst, ())))) else (some (Sum.inr ()))))

noncomputable def ref04_CheckRun_f1 (l2_1 : List Cnd) (b3_1 : Bas) : Option (Int × Unit) :=
  (some (((0 : Int), ())))

theorem ref04_CheckRun_m_w1_le (n : Nat) (hn : big ≤ n)  (l2_1 : List Cnd) (b3_1 : Bas) (hx : List.length (l2_1) < lenMax) : LeF some (loopL (fun i__ e__ s__ => ref04_CheckRun_b1 l2_1 b3_1 i__ e__) (fun s__ => ref04_CheckRun_f1 l2_1 b3_1) 0 (l2_1) ()) (ref04_CheckRun_m_w1 n n l2_1 b3_1 0) := by
  refine loopL_le (f := some) (W := fun k__ i__ s__ => ref04_CheckRun_m_w1 n k__ l2_1 b3_1 i__) (body := (fun i__ e__ s__ => ref04_CheckRun_b1 l2_1 b3_1 i__ e__)) (fin := (fun s__ => ref04_CheckRun_f1 l2_1 b3_1)) (fun k__ i__ s__ => ?_) hx () n (by unfold big at hn; unfold lenMax at hx; omega)
  show LeF _ _ (ref04_CheckRun_m_l1 n (ref04_CheckRun_m_w1 n k__) l2_1 b3_1 i__)
  exact leCond (leBind fun v2 => (leBind fun v3 => (leCond (leSome rfl) (leSome rfl)))) (leMap (leSome rfl))

noncomputable def ref04_CheckRun_M (b : Bas) (v : List Int) (l : List Cnd) : Option (Int × Unit) :=
  (Option.bind (Go.Tw.ref04_CheckVolumes_M b v) fun (v0 : Int × Unit) => (bif v0.fst != (0 : Int) then (some ((v0.fst, ()))) else (bif Decidable.decide ((↑l.length : Int) > (96 : Int)) then (some (((5 : Int), ()))) else (bif decide (List.length (l) < lenMax) then loopL (fun i__ e__ s__ => ref04_CheckRun_b1 (l) (b) i__ e__) (fun s__ => ref04_CheckRun_f1 (l) (b)) 0 (l) () else none))))

theorem ref04_CheckRun_run (b : Bas) (v : List Int) (l : List Cnd) (y : Int × Unit) (h : ref04_CheckRun_M b v l = some y) : ∃ n, ref04_CheckRun_m n b v l = some y :=
  ⟨big, LeF.top (show LeF some (ref04_CheckRun_M b v l) (ref04_CheckRun_m big b v l) from (fun (n : Nat) (hn : big ≤ n) => show LeF some (ref04_CheckRun_M b v l) (ref04_CheckRun_m n b v l) from (leBind fun v0 => (leCond (leSome rfl) (leCond (leSome rfl) (leGuard fun hx => by apply ref04_CheckRun_m_w1_le n hn; exact hx))))) big (Nat.le_refl _)) h⟩
noncomputable def ref04_CheckRun_e : Entry := { f := 25, args := ref04_CheckRun_a, ress := ref04_CheckRun_r, m := fun x => ref04_CheckRun_M x.1 x.2.1 x.2.2.1 }
theorem ref04_CheckRun_ok : FnOK Tryz.prog ref04_CheckRun_e := fn_ok (g := ref04_CheckRun_g) (fn := Tryz.f25) hmixed tabOk (eCons ref04_CheckVolumes_ok (eCons ref04_OnlyCondition_ok eNil)) (by kernel_rfl) (by kernel_rfl) (by kernel_rfl) (fun x y h => let ⟨n, hn⟩ := ref04_CheckRun_run x.1 x.2.1 x.2.2.1 y h; ⟨ref04_CheckRun_an n, iNil, (ref04_CheckRun_eq n x).trans hn⟩)

/-! ### basin.Step -/
abbrev basin_Step_a : Ty := .pair t41 (.pair t26 (.pair t44 .unit))
abbrev basin_Step_r : Ty := .pair t26 (.pair t35 .unit)
noncomputable def basin_Step_g : G := { T := T, E := [basin_checked_e], muts := [], fz := [] }
def basin_Step_k : List (List Nat) := []
noncomputable def basin_Step_an (n : Nat) : Ann := { keep := basin_Step_k, fuel := n, inl := [], deep := 0 }
noncomputable def basin_Step_m (n : Nat) (b : Bas) (v : List Int) (c : Cnd) : Option (List Int × Int × Unit) :=
  (Option.bind (Go.Tw.basin_checked_M b v [c]) fun (v0 : List Psg × Int × Unit) => (bif v0.snd.fst != (0 : Int) then Option.some ([], v0.snd.fst, ()) else (Option.bind (Go.Vx.idx v0.fst (0 : Int)) fun (v1 : Psg) => Option.some (v1.snd.snd.fst.getD [], (0 : Int), ()))))

theorem basin_Step_eq (n : Nat) (x : basin_Step_a.den) : runF basin_Step_g (basin_Step_an n) Tryz.f43 basin_Step_a basin_Step_r x = basin_Step_m n x.1 x.2.1 x.2.2.1 := by kernel_rfl

noncomputable def basin_Step_M (b : Bas) (v : List Int) (c : Cnd) : Option (List Int × Int × Unit) := basin_Step_m 0 b v c

theorem basin_Step_run (b : Bas) (v : List Int) (c : Cnd) (y : List Int × Int × Unit) (h : basin_Step_M b v c = some y) : ∃ n, basin_Step_m n b v c = some y := ⟨0, h⟩
noncomputable def basin_Step_e : Entry := { f := 43, args := basin_Step_a, ress := basin_Step_r, m := fun x => basin_Step_M x.1 x.2.1 x.2.2.1 }
theorem basin_Step_ok : FnOK Tryz.prog basin_Step_e := fn_ok (g := basin_Step_g) (fn := Tryz.f43) hmixed tabOk (eCons basin_checked_ok eNil) (by kernel_rfl) (by kernel_rfl) (by kernel_rfl) (fun x y h => let ⟨n, hn⟩ := basin_Step_run x.1 x.2.1 x.2.2.1 y h; ⟨basin_Step_an n, iNil, (basin_Step_eq n x).trans hn⟩)

/-! ### tidewaylaw04.total -/
abbrev law04_total_a : Ty := .pair t26 .unit
abbrev law04_total_r : Ty := .pair t3 .unit
noncomputable def law04_total_g : G := { T := T, E := [], muts := [], fz := [] }
def law04_total_k : List (List Nat) := [[3, 6, 7, 8]]
noncomputable def law04_total_an (n : Nat) : Ann := { keep := law04_total_k, fuel := n, inl := [], deep := 0 }
noncomputable def law04_total_m_l0 (n : Nat) (r0 : Int → List Int → Int → Int → Option (Int × Unit)) (n3_0 : Int) (t6_0 : List Int) (t7_0 : Int) (t8_0 : Int) : Option (Int × Unit) :=
  (bif Decidable.decide (t8_0 < t7_0) then (Option.bind (Go.Vx.idx t6_0 t8_0) fun (v1 : Int) => r0 (Go.IntKind.i64.wrap (n3_0 + v1)) t6_0 t7_0 (Go.IntKind.i64.wrap (t8_0 + (1 : Int)))) else Option.some (n3_0, ()))

noncomputable def law04_total_m_w0 (n : Nat)  (k : Nat) (n3_0 : Int) (t6_0 : List Int) (t7_0 : Int) (t8_0 : Int) : Option (Int × Unit) :=
  iter (fun r y => law04_total_m_l0 n (fun n3_0 t6_0 t7_0 t8_0 => r ((n3_0, (t6_0, (t7_0, (t8_0, ())))), ((), ()))) y.1.1 y.1.2.1 y.1.2.2.1 y.1.2.2.2.1) k ((n3_0, (t6_0, (t7_0, (t8_0, ())))), ((), ()))

noncomputable def law04_total_m (n : Nat) (v : List Int) : Option (Int × Unit) :=
  (law04_total_m_w0 n n ((0 : Int)) (v) ((↑v.length : Int)) ((0 : Int)))

theorem law04_total_eq (n : Nat) (x : law04_total_a.den) : runF law04_total_g (law04_total_an n) Tryz.f46 law04_total_a law04_total_r x = law04_total_m n x.1 := by kernel_rfl

noncomputable def law04_total_b0 (t6_0 : List Int) (t8_0 : Int) (v1 : Int) (n3_0 : Int) : Option ((Int × Unit) ⊕ (Int)) :=
  (some (Sum.inr (Go.IntKind.i64.wrap (n3_0 + v1))))

noncomputable def law04_total_f0 (t6_0 : List Int) (n3_0 : Int) : Option (Int × Unit) :=
  (some ((n3_0, ())))

theorem law04_total_m_w0_le (n : Nat) (hn : big ≤ n)  (t6_0 : List Int) (n3_0 : Int) (hx : List.length (t6_0) < lenMax) : LeF some (loopL (fun i__ e__ s__ => law04_total_b0 t6_0 i__ e__ s__) (fun s__ => law04_total_f0 t6_0 s__) 0 (t6_0) n3_0) (law04_total_m_w0 n n n3_0 t6_0 (List.length (t6_0) : Int) 0) := by
  refine loopL_le (f := some) (W := fun k__ i__ s__ => law04_total_m_w0 n k__ s__ t6_0 (List.length (t6_0) : Int) i__) (body := (fun i__ e__ s__ => law04_total_b0 t6_0 i__ e__ s__)) (fin := (fun s__ => law04_total_f0 t6_0 s__)) (fun k__ i__ s__ => ?_) hx n3_0 n (by unfold big at hn; unfold lenMax at hx; omega)
  show LeF _ _ (law04_total_m_l0 n (law04_total_m_w0 n k__) s__ t6_0 (List.length (t6_0) : Int) i__)
  exact leCond (leBind fun v1 => (leSome rfl)) (leMap (leSome rfl))

noncomputable def law04_total_M (v : List Int) : Option (Int × Unit) :=
  (bif decide (List.length (v) < lenMax) then loopL (fun i__ e__ s__ => law04_total_b0 (v) i__ e__ s__) (fun s__ => law04_total_f0 (v) s__) 0 (v) ((0 : Int)) else none)

theorem law04_total_run (v : List Int) (y : Int × Unit) (h : law04_total_M v = some y) : ∃ n, law04_total_m n v = some y :=
  ⟨big, LeF.top (show LeF some (law04_total_M v) (law04_total_m big v) from (fun (n : Nat) (hn : big ≤ n) => show LeF some (law04_total_M v) (law04_total_m n v) from (leGuard fun hx => by apply law04_total_m_w0_le n hn; exact hx)) big (Nat.le_refl _)) h⟩
noncomputable def law04_total_e : Entry := { f := 46, args := law04_total_a, ress := law04_total_r, m := fun x => law04_total_M x.1 }
theorem law04_total_ok : FnOK Tryz.prog law04_total_e := fn_ok (g := law04_total_g) (fn := Tryz.f46) hmixed tabOk eNil (by kernel_rfl) (by kernel_rfl) (by kernel_rfl) (fun x y h => let ⟨n, hn⟩ := law04_total_run x.1 y h; ⟨law04_total_an n, iNil, (law04_total_eq n x).trans hn⟩)

/-! ### tidewayref01.SameWords -/
abbrev ref01_SameWords_a : Ty := .pair t67 (.pair t67 .unit)
abbrev ref01_SameWords_r : Ty := .pair t4 .unit
noncomputable def ref01_SameWords_g : G := { T := T, E := [], muts := [], fz := [] }
def ref01_SameWords_k : List (List Nat) := [[0, 1, 5]]
noncomputable def ref01_SameWords_an (n : Nat) : Ann := { keep := ref01_SameWords_k, fuel := n, inl := [], deep := 0 }
noncomputable def ref01_SameWords_m_l0 (n : Nat) (r0 : List (List UInt8) → List (List UInt8) → Int → Option (Bool × Unit)) (a0_0 : List (List UInt8)) (b1_0 : List (List UInt8)) (i5_0 : Int) : Option (Bool × Unit) :=
  (bif Decidable.decide (i5_0 < (↑a0_0.length : Int)) then (Option.bind (Go.Vx.idx a0_0 i5_0) fun (v1 : List UInt8) => (Option.bind (Go.Vx.idx b1_0 i5_0) fun (v2 : List UInt8) => (bif !v1 == v2 then Option.some (Bool.false, ()) else r0 a0_0 b1_0 (Go.IntKind.i64.wrap (i5_0 + (1 : Int)))))) else Option.some (Bool.true, ()))

noncomputable def ref01_SameWords_m_w0 (n : Nat)  (k : Nat) (a0_0 : List (List UInt8)) (b1_0 : List (List UInt8)) (i5_0 : Int) : Option (Bool × Unit) :=
  iter (fun r y => ref01_SameWords_m_l0 n (fun a0_0 b1_0 i5_0 => r ((a0_0, (b1_0, (i5_0, ()))), ((), ()))) y.1.1 y.1.2.1 y.1.2.2.1) k ((a0_0, (b1_0, (i5_0, ()))), ((), ()))

noncomputable def ref01_SameWords_m (n : Nat) (a : List (List UInt8)) (b : List (List UInt8)) : Option (Bool × Unit) :=
  (bif (↑a.length : Int) != (↑b.length : Int) then Option.some (Bool.false, ()) else (ref01_SameWords_m_w0 n n (a) (b) ((0 : Int))))

theorem ref01_SameWords_eq (n : Nat) (x : ref01_SameWords_a.den) : runF ref01_SameWords_g (ref01_SameWords_an n) Tryz.f36 ref01_SameWords_a ref01_SameWords_r x = ref01_SameWords_m n x.1 x.2.1 := by kernel_rfl

noncomputable def ref01_SameWords_b0 (a0_0 : List (List UInt8)) (b1_0 : List (List UInt8)) (i5_0 : Int) (v1 : List UInt8) : Option ((Bool × Unit) ⊕ Unit) :=
  (Option.bind (Go.Vx.idx b1_0 i5_0) fun (v2 : List UInt8) => (bif !v1 == v2 then (some (Sum.inl ((Bool.false, ())))) else (some (Sum.inr ()))))

noncomputable def ref01_SameWords_f0 (a0_0 : List (List UInt8)) (b1_0 : List (List UInt8)) : Option (Bool × Unit) :=
  (some ((Bool.true, ())))

theorem ref01_SameWords_m_w0_le (n : Nat) (hn : big ≤ n)  (a0_0 : List (List UInt8)) (b1_0 : List (List UInt8)) (hx : List.length (a0_0) < lenMax) : LeF some (loopL (fun i__ e__ s__ => ref01_SameWords_b0 a0_0 b1_0 i__ e__) (fun s__ => ref01_SameWords_f0 a0_0 b1_0) 0 (a0_0) ()) (ref01_SameWords_m_w0 n n a0_0 b1_0 0) := by
  refine loopL_le (f := some) (W := fun k__ i__ s__ => ref01_SameWords_m_w0 n k__ a0_0 b1_0 i__) (body := (fun i__ e__ s__ => ref01_SameWords_b0 a0_0 b1_0 i__ e__)) (fin := (fun s__ => ref01_SameWords_f0 a0_0 b1_0)) (fun k__ i__ s__ => ?_) hx () n (by unfold big at hn; unfold lenMax at hx; omega)
  show LeF _ _ (ref01_SameWords_m_l0 n (ref01_SameWords_m_w0 n k__) a0_0 b1_0 i__)
  exact leCond (leBind fun v1 => (leBind fun v2 => (leCond (leSome rfl) (leSome rfl)))) (leMap (leSome rfl))

noncomputable def ref01_SameWords_M (a : List (List UInt8)) (b : List (List UInt8)) : Option (Bool × Unit) :=
  (bif (↑a.length : Int) != (↑b.length : Int) then (some ((Bool.false, ()))) else (bif decide (List.length (a) < lenMax) then loopL (fun i__ e__ s__ => ref01_SameWords_b0 (a) (b) i__ e__) (fun s__ => ref01_SameWords_f0 (a) (b)) 0 (a) () else none))

theorem ref01_SameWords_run (a : List (List UInt8)) (b : List (List UInt8)) (y : Bool × Unit) (h : ref01_SameWords_M a b = some y) : ∃ n, ref01_SameWords_m n a b = some y :=
  ⟨big, LeF.top (show LeF some (ref01_SameWords_M a b) (ref01_SameWords_m big a b) from (fun (n : Nat) (hn : big ≤ n) => show LeF some (ref01_SameWords_M a b) (ref01_SameWords_m n a b) from (leCond (leSome rfl) (leGuard fun hx => by apply ref01_SameWords_m_w0_le n hn; exact hx))) big (Nat.le_refl _)) h⟩
noncomputable def ref01_SameWords_e : Entry := { f := 36, args := ref01_SameWords_a, ress := ref01_SameWords_r, m := fun x => ref01_SameWords_M x.1 x.2.1 }
theorem ref01_SameWords_ok : FnOK Tryz.prog ref01_SameWords_e := fn_ok (g := ref01_SameWords_g) (fn := Tryz.f36) hmixed tabOk eNil (by kernel_rfl) (by kernel_rfl) (by kernel_rfl) (fun x y h => let ⟨n, hn⟩ := ref01_SameWords_run x.1 x.2.1 y h; ⟨ref01_SameWords_an n, iNil, (ref01_SameWords_eq n x).trans hn⟩)

/-! ### tidewayref04.Room -/
abbrev ref04_Room_a : Ty := .pair t25 (.pair t26 .unit)
abbrev ref04_Room_r : Ty := .pair t26 .unit
noncomputable def ref04_Room_g : G := { T := T, E := [], muts := [5], fz := [] }
def ref04_Room_k : List (List Nat) := [[1, 2, 5, 6]]
noncomputable def ref04_Room_an (n : Nat) : Ann := { keep := ref04_Room_k, fuel := n, inl := [], deep := 0 }
noncomputable def ref04_Room_m_l0 (n : Nat) (r0 : List Int → Bas → Int → List Int → Option (List Int × Unit)) (v1_0 : List Int) (b2_0 : Bas) (i6_0 : Int) (c0_0 : List Int) : Option (List Int × Unit) :=
  (bif Decidable.decide (i6_0 < (↑v1_0.length : Int)) then (Option.bind (Go.Vx.idx b2_0.fst i6_0) fun (v1 : Nod) => (Option.bind (Go.Vx.idx b2_0.fst i6_0) fun (v2 : Nod) => (Option.bind (Go.Vx.idx v1_0 i6_0) fun (v3 : Int) => (bif Decidable.decide (c0_0.length + (1 : Nat) ≤ Go.Vx.memMax) then r0 v1_0 b2_0 (Go.IntKind.i64.wrap (i6_0 + (1 : Int))) (c0_0 ++ [if Bool.true = Bool.true then if Go.IntKind.i64.wrap (Go.IntKind.i64.wrap (Go.IntKind.i64.wrap (v1.snd.fst * Go.IntKind.i64.wrap (v2.snd.snd.fst + (1 : Int))) - (1 : Int)) - v3) > (-1 : Int) then Go.IntKind.i64.wrap (Go.IntKind.i64.wrap (Go.IntKind.i64.wrap (v1.snd.fst * Go.IntKind.i64.wrap (v2.snd.snd.fst + (1 : Int))) - (1 : Int)) - v3) else (-1 : Int) else if Go.IntKind.i64.wrap (Go.IntKind.i64.wrap (Go.IntKind.i64.wrap (v1.snd.fst * Go.IntKind.i64.wrap (v2.snd.snd.fst + (1 : Int))) - (1 : Int)) - v3) < (-1 : Int) then Go.IntKind.i64.wrap (Go.IntKind.i64.wrap (Go.IntKind.i64.wrap (v1.snd.fst * Go.IntKind.i64.wrap (v2.snd.snd.fst + (1 : Int))) - (1 : Int)) - v3) else (-1 : Int)]) else none)))) else Option.some (c0_0, ()))

noncomputable def ref04_Room_m_w0 (n : Nat)  (k : Nat) (v1_0 : List Int) (b2_0 : Bas) (i6_0 : Int) (c0_0 : List Int) : Option (List Int × Unit) :=
  iter (fun r y => ref04_Room_m_l0 n (fun v1_0 b2_0 i6_0 c0_0 => r ((v1_0, (b2_0, (i6_0, ()))), ((c0_0, ()), ()))) y.1.1 y.1.2.1 y.1.2.2.1 y.2.1.1) k ((v1_0, (b2_0, (i6_0, ()))), ((c0_0, ()), ()))

noncomputable def ref04_Room_m (n : Nat) (b : Bas) (v : List Int) : Option (List Int × Unit) :=
  (ref04_Room_m_w0 n n (v) (b) ((0 : Int)) ([]))

theorem ref04_Room_eq (n : Nat) (x : ref04_Room_a.den) : runF ref04_Room_g (ref04_Room_an n) Tryz.f35 ref04_Room_a ref04_Room_r x = ref04_Room_m n x.1 x.2.1 := by kernel_rfl

noncomputable def ref04_Room_b0 (v1_0 : List Int) (b2_0 : Bas) (i6_0 : Int) (c0_0 : List Int) : Option ((List Int × Unit) ⊕ (List Int)) :=
  (Option.bind (Go.Vx.idx b2_0.fst i6_0) fun (v1 : Nod) => (Option.bind (Go.Vx.idx b2_0.fst i6_0) fun (v2 : Nod) => (Option.bind (Go.Vx.idx v1_0 i6_0) fun (v3 : Int) => (bif Decidable.decide (c0_0.length + (1 : Nat) ≤ Go.Vx.memMax) then (some (Sum.inr (c0_0 ++ [if Bool.true = Bool.true then if Go.IntKind.i64.wrap (Go.IntKind.i64.wrap (Go.IntKind.i64.wrap (v1.snd.fst * Go.IntKind.i64.wrap (v2.snd.snd.fst + (1 : Int))) - (1 : Int)) - v3) > (-1 : Int) then Go.IntKind.i64.wrap (Go.IntKind.i64.wrap (Go.IntKind.i64.wrap (v1.snd.fst * Go.IntKind.i64.wrap (v2.snd.snd.fst + (1 : Int))) - (1 : Int)) - v3) else (-1 : Int) else if Go.IntKind.i64.wrap (Go.IntKind.i64.wrap (Go.IntKind.i64.wrap (v1.snd.fst * Go.IntKind.i64.wrap (v2.snd.snd.fst + (1 : Int))) - (1 : Int)) - v3) < (-1 : Int) then Go.IntKind.i64.wrap (Go.IntKind.i64.wrap (Go.IntKind.i64.wrap (v1.snd.fst * Go.IntKind.i64.wrap (v2.snd.snd.fst + (1 : Int))) - (1 : Int)) - v3) else (-1 : Int)]))) else none))))

noncomputable def ref04_Room_f0 (v1_0 : List Int) (b2_0 : Bas) (c0_0 : List Int) : Option (List Int × Unit) :=
  (some ((c0_0, ())))

theorem ref04_Room_m_w0_le (n : Nat) (hn : big ≤ n)  (v1_0 : List Int) (b2_0 : Bas) (c0_0 : List Int) (hx : ((↑v1_0.length : Int)) ≤ (9223372036854775807 : Int)) : LeF some (loopN (fun i__ s__ => ref04_Room_b0 v1_0 b2_0 i__ s__) (fun s__ => ref04_Room_f0 v1_0 b2_0 s__) (((↑v1_0.length : Int)) - 0).toNat 0 c0_0) (ref04_Room_m_w0 n n v1_0 b2_0 0 c0_0) := by
  refine loopN_le (f := some) (W := fun k__ i__ s__ => ref04_Room_m_w0 n k__ v1_0 b2_0 i__ s__) (body := (fun i__ s__ => ref04_Room_b0 v1_0 b2_0 i__ s__)) (fin := (fun s__ => ref04_Room_f0 v1_0 b2_0 s__)) (fun k__ i__ s__ => ?_) hx c0_0 n 0 (by decide) (by unfold big at hn; omega)
  show LeF _ _ (ref04_Room_m_l0 n (ref04_Room_m_w0 n k__) v1_0 b2_0 i__ s__)
  exact leCond (leBind fun v1 => (leBind fun v2 => (leBind fun v3 => (leCond (leSome rfl) leNone)))) (leMap (leSome rfl))

noncomputable def ref04_Room_M (b : Bas) (v : List Int) : Option (List Int × Unit) :=
  (bif decide (((↑v.length : Int)) ≤ (9223372036854775807 : Int)) then loopN (fun i__ s__ => ref04_Room_b0 (v) (b) i__ s__) (fun s__ => ref04_Room_f0 (v) (b) s__) (((↑v.length : Int)) - 0).toNat 0 ([]) else none)

theorem ref04_Room_run (b : Bas) (v : List Int) (y : List Int × Unit) (h : ref04_Room_M b v = some y) : ∃ n, ref04_Room_m n b v = some y :=
  ⟨big, LeF.top (show LeF some (ref04_Room_M b v) (ref04_Room_m big b v) from (fun (n : Nat) (hn : big ≤ n) => show LeF some (ref04_Room_M b v) (ref04_Room_m n b v) from (leGuard fun hx => by apply ref04_Room_m_w0_le n hn; exact hx)) big (Nat.le_refl _)) h⟩
noncomputable def ref04_Room_e : Entry := { f := 35, args := ref04_Room_a, ress := ref04_Room_r, m := fun x => ref04_Room_M x.1 x.2.1 }
theorem ref04_Room_ok : FnOK Tryz.prog ref04_Room_e := fn_ok (g := ref04_Room_g) (fn := Tryz.f35) hmixed tabOk eNil (by kernel_rfl) (by kernel_rfl) (by kernel_rfl) (fun x y h => let ⟨n, hn⟩ := ref04_Room_run x.1 x.2.1 y h; ⟨ref04_Room_an n, iNil, (ref04_Room_eq n x).trans hn⟩)

/-! ### tidewayref04.Above -/
abbrev ref04_Above_a : Ty := .pair t25 (.pair t26 .unit)
abbrev ref04_Above_r : Ty := .pair t26 .unit
noncomputable def ref04_Above_g : G := { T := T, E := [ref04_Levels_e], muts := [5], fz := [] }
def ref04_Above_k : List (List Nat) := [[2, 5, 6, 7]]
noncomputable def ref04_Above_an (n : Nat) : Ann := { keep := ref04_Above_k, fuel := n, inl := [], deep := 0 }
noncomputable def ref04_Above_m_l1 (n : Nat) (r1 : Bas → List Int → Int → List Int → Option (List Int × Unit)) (b2_1 : Bas) (l6_1 : List Int) (i7_1 : Int) (c0_1 : List Int) : Option (List Int × Unit) :=
  (bif Decidable.decide (i7_1 < (↑l6_1.length : Int)) then (Option.bind (Go.Vx.idx l6_1 i7_1) fun (v2 : Int) => (Option.bind (Go.Vx.idx b2_1.fst i7_1) fun (v3 : Nod) => (bif Decidable.decide (v2 > v3.snd.snd.fst) then (bif Decidable.decide (c0_1.length + (1 : Nat) ≤ Go.Vx.memMax) then r1 b2_1 l6_1 (Go.IntKind.i64.wrap (i7_1 + (1 : Int))) (c0_1 ++ [i7_1]) else none) else r1 b2_1 l6_1 (Go.IntKind.i64.wrap (i7_1 + (1 : Int))) c0_1))) else Option.some (c0_1, ()))

noncomputable def ref04_Above_m_w1 (n : Nat)  (k : Nat) (b2_1 : Bas) (l6_1 : List Int) (i7_1 : Int) (c0_1 : List Int) : Option (List Int × Unit) :=
  iter (fun r y => ref04_Above_m_l1 n (fun b2_1 l6_1 i7_1 c0_1 => r ((b2_1, (l6_1, (i7_1, ()))), ((c0_1, ()), ()))) y.1.1 y.1.2.1 y.1.2.2.1 y.2.1.1) k ((b2_1, (l6_1, (i7_1, ()))), ((c0_1, ()), ()))

noncomputable def ref04_Above_m (n : Nat) (b : Bas) (v : List Int) : Option (List Int × Unit) :=
  (Option.bind (Go.Tw.ref04_Levels_M b v) fun (v0 : List Int × Unit) => (ref04_Above_m_w1 n n (b) (v0.fst) ((0 : Int)) ([])))

theorem ref04_Above_eq (n : Nat) (x : ref04_Above_a.den) : runF ref04_Above_g (ref04_Above_an n) Tryz.f34 ref04_Above_a ref04_Above_r x = ref04_Above_m n x.1 x.2.1 := by kernel_rfl

noncomputable def ref04_Above_b1 (b2_1 : Bas) (l6_1 : List Int) (i7_1 : Int) (v2 : Int) (c0_1 : List Int) : Option ((List Int × Unit) ⊕ (List Int)) :=
  (Option.bind (Go.Vx.idx b2_1.fst i7_1) fun (v3 : Nod) => (bif Decidable.decide (v2 > v3.snd.snd.fst) then (bif Decidable.decide (c0_1.length + (1 : Nat) ≤ Go.Vx.memMax) then (some (Sum.inr (c0_1 ++ [i7_1]))) else none) else (some (Sum.inr (c0_1)))))

noncomputable def ref04_Above_f1 (b2_1 : Bas) (l6_1 : List Int) (c0_1 : List Int) : Option (List Int × Unit) :=
  (some ((c0_1, ())))

theorem ref04_Above_m_w1_le (n : Nat) (hn : big ≤ n)  (b2_1 : Bas) (l6_1 : List Int) (c0_1 : List Int) (hx : List.length (l6_1) < lenMax) : LeF some (loopL (fun i__ e__ s__ => ref04_Above_b1 b2_1 l6_1 i__ e__ s__) (fun s__ => ref04_Above_f1 b2_1 l6_1 s__) 0 (l6_1) c0_1) (ref04_Above_m_w1 n n b2_1 l6_1 0 c0_1) := by
  refine loopL_le (f := some) (W := fun k__ i__ s__ => ref04_Above_m_w1 n k__ b2_1 l6_1 i__ s__) (body := (fun i__ e__ s__ => ref04_Above_b1 b2_1 l6_1 i__ e__ s__)) (fin := (fun s__ => ref04_Above_f1 b2_1 l6_1 s__)) (fun k__ i__ s__ => ?_) hx c0_1 n (by unfold big at hn; unfold lenMax at hx; omega)
  show LeF _ _ (ref04_Above_m_l1 n (ref04_Above_m_w1 n k__) b2_1 l6_1 i__ s__)
  exact leCond (leBind fun v2 => (leBind fun v3 => (leCond (leCond (leSome rfl) leNone) (leSome rfl)))) (leMap (leSome rfl))

noncomputable def ref04_Above_M (b : Bas) (v : List Int) : Option (List Int × Unit) :=
  (Option.bind (Go.Tw.ref04_Levels_M b v) fun (v0 : List Int × Unit) => (bif decide (List.length (v0.fst) < lenMax) then loopL (fun i__ e__ s__ => ref04_Above_b1 (b) (v0.fst) i__ e__ s__) (fun s__ => ref04_Above_f1 (b) (v0.fst) s__) 0 (v0.fst) ([]) else none))

theorem ref04_Above_run (b : Bas) (v : List Int) (y : List Int × Unit) (h : ref04_Above_M b v = some y) : ∃ n, ref04_Above_m n b v = some y :=
  ⟨big, LeF.top (show LeF some (ref04_Above_M b v) (ref04_Above_m big b v) from (fun (n : Nat) (hn : big ≤ n) => show LeF some (ref04_Above_M b v) (ref04_Above_m n b v) from (leBind fun v0 => (leGuard fun hx => by apply ref04_Above_m_w1_le n hn; exact hx))) big (Nat.le_refl _)) h⟩
noncomputable def ref04_Above_e : Entry := { f := 34, args := ref04_Above_a, ress := ref04_Above_r, m := fun x => ref04_Above_M x.1 x.2.1 }
theorem ref04_Above_ok : FnOK Tryz.prog ref04_Above_e := fn_ok (g := ref04_Above_g) (fn := Tryz.f34) hmixed tabOk (eCons ref04_Levels_ok eNil) (by kernel_rfl) (by kernel_rfl) (by kernel_rfl) (fun x y h => let ⟨n, hn⟩ := ref04_Above_run x.1 x.2.1 y h; ⟨ref04_Above_an n, iNil, (ref04_Above_eq n x).trans hn⟩)

/-! ### tidewayref04.Run -/
abbrev ref04_Run_a : Ty := .pair t25 (.pair t26 (.pair t33 .unit))
abbrev ref04_Run_r : Ty := .pair t56 (.pair t3 .unit)
noncomputable def ref04_Run_g : G := { T := T, E := [ref04_Moved_e], muts := [8], fz := [] }
def ref04_Run_k : List (List Nat) := [[1, 2, 3, 8, 9]]
noncomputable def ref04_Run_an (n : Nat) : Ann := { keep := ref04_Run_k, fuel := n, inl := [], deep := 0 }
noncomputable def ref04_Run_m_l0 (n : Nat) (r0 : List Int → List Cnd → Bas → Int → List (List Int) → Option (List (List Int) × Int × Unit)) (v1_0 : List Int) (l2_0 : List Cnd) (b3_0 : Bas) (i9_0 : Int) (c0_0 : List (List Int)) : Option (List (List Int) × Int × Unit) :=
  (bif Decidable.decide (i9_0 < (↑l2_0.length : Int)) then (Option.bind (Go.Vx.idx l2_0 i9_0) fun (v1 : Cnd) => (Option.bind (Go.Tw.ref04_Moved_M b3_0 v1_0 v1) fun (v2 : List Int × List Int × Int × Unit) => (bif v2.snd.snd.fst != (0 : Int) then Option.some ([], v2.snd.snd.fst, ()) else (bif Decidable.decide (c0_0.length + (1 : Nat) ≤ Go.Vx.memMax) then r0 v2.snd.fst l2_0 b3_0 (Go.IntKind.i64.wrap (i9_0 + (1 : Int))) (c0_0 ++ [v2.snd.fst]) else none)))) else Option.some (c0_0, (0 : Int), ()))

noncomputable def ref04_Run_m_w0 (n : Nat)  (k : Nat) (v1_0 : List Int) (l2_0 : List Cnd) (b3_0 : Bas) (i9_0 : Int) (c0_0 : List (List Int)) : Option (List (List Int) × Int × Unit) :=
  iter (fun r y => ref04_Run_m_l0 n (fun v1_0 l2_0 b3_0 i9_0 c0_0 => r ((v1_0, (l2_0, (b3_0, (i9_0, ())))), ((c0_0, ()), ()))) y.1.1 y.1.2.1 y.1.2.2.1 y.1.2.2.2.1 y.2.1.1) k ((v1_0, (l2_0, (b3_0, (i9_0, ())))), ((c0_0, ()), ()))

noncomputable def ref04_Run_m (n : Nat) (b : Bas) (v : List Int) (l : List Cnd) : Option (List (List Int) × Int × Unit) :=
  (ref04_Run_m_w0 n n (v) (l) (b) ((0 : Int)) ([]))

theorem ref04_Run_eq (n : Nat) (x : ref04_Run_a.den) : runF ref04_Run_g (ref04_Run_an n) Tryz.f49 ref04_Run_a ref04_Run_r x = ref04_Run_m n x.1 x.2.1 x.2.2.1 := by kernel_rfl

noncomputable def ref04_Run_b0 (l2_0 : List Cnd) (b3_0 : Bas) (i9_0 : Int) (v1 : Cnd) (v1_0 : List Int) (c0_0 : List (List Int)) : Option ((List (List Int) × Int × Unit) ⊕ (List Int × List (List Int))) :=
  (Option.bind (Go.Tw.ref04_Moved_M b3_0 v1_0 v1) fun (v2 : List Int × List Int × Int × Unit) => (bif v2.snd.snd.fst != (0 : Int) then (some (Sum.inl (([], v2.snd.snd.fst, ())))) else (bif Decidable.decide (c0_0.length + (1 : Nat) ≤ Go.Vx.memMax) then (some (Sum.inr ((v2.snd.fst), (c0_0 ++ [v2.snd.fst])))) else none)))

noncomputable def ref04_Run_f0 (l2_0 : List Cnd) (b3_0 : Bas) (v1_0 : List Int) (c0_0 : List (List Int)) : Option (List (List Int) × Int × Unit) :=
  (some ((c0_0, (0 : Int), ())))

theorem ref04_Run_m_w0_le (n : Nat) (hn : big ≤ n)  (l2_0 : List Cnd) (b3_0 : Bas) (v1_0 : List Int) (c0_0 : List (List Int)) (hx : List.length (l2_0) < lenMax) : LeF some (loopL (fun i__ e__ s__ => ref04_Run_b0 l2_0 b3_0 i__ e__ s__.1 s__.2) (fun s__ => ref04_Run_f0 l2_0 b3_0 s__.1 s__.2) 0 (l2_0) (v1_0, c0_0)) (ref04_Run_m_w0 n n v1_0 l2_0 b3_0 0 c0_0) := by
  refine loopL_le (f := some) (W := fun k__ i__ s__ => ref04_Run_m_w0 n k__ s__.1 l2_0 b3_0 i__ s__.2) (body := (fun i__ e__ s__ => ref04_Run_b0 l2_0 b3_0 i__ e__ s__.1 s__.2)) (fin := (fun s__ => ref04_Run_f0 l2_0 b3_0 s__.1 s__.2)) (fun k__ i__ s__ => ?_) hx (v1_0, c0_0) n (by unfold big at hn; unfold lenMax at hx; omega)
  show LeF _ _ (ref04_Run_m_l0 n (ref04_Run_m_w0 n k__) s__.1 l2_0 b3_0 i__ s__.2)
  exact leCond (leBind fun v1 => (leBind fun v2 => (leCond (leSome rfl) (leCond (leSome rfl) leNone)))) (leMap (leSome rfl))

noncomputable def ref04_Run_M (b : Bas) (v : List Int) (l : List Cnd) : Option (List (List Int) × Int × Unit) :=
  (bif decide (List.length (l) < lenMax) then loopL (fun i__ e__ s__ => ref04_Run_b0 (l) (b) i__ e__ s__.1 s__.2) (fun s__ => ref04_Run_f0 (l) (b) s__.1 s__.2) 0 (l) ((v), ([])) else none)

theorem ref04_Run_run (b : Bas) (v : List Int) (l : List Cnd) (y : List (List Int) × Int × Unit) (h : ref04_Run_M b v l = some y) : ∃ n, ref04_Run_m n b v l = some y :=
  ⟨big, LeF.top (show LeF some (ref04_Run_M b v l) (ref04_Run_m big b v l) from (fun (n : Nat) (hn : big ≤ n) => show LeF some (ref04_Run_M b v l) (ref04_Run_m n b v l) from (leGuard fun hx => by apply ref04_Run_m_w0_le n hn; exact hx)) big (Nat.le_refl _)) h⟩
noncomputable def ref04_Run_e : Entry := { f := 49, args := ref04_Run_a, ress := ref04_Run_r, m := fun x => ref04_Run_M x.1 x.2.1 x.2.2.1 }
theorem ref04_Run_ok : FnOK Tryz.prog ref04_Run_e := fn_ok (g := ref04_Run_g) (fn := Tryz.f49) hmixed tabOk (eCons ref04_Moved_ok eNil) (by kernel_rfl) (by kernel_rfl) (by kernel_rfl) (fun x y h => let ⟨n, hn⟩ := ref04_Run_run x.1 x.2.1 x.2.2.1 y h; ⟨ref04_Run_an n, iNil, (ref04_Run_eq n x).trans hn⟩)

/-! ### tidewayref04.Account -/
abbrev ref04_Account_a : Ty := .pair t25 (.pair t26 (.pair t33 .unit))
abbrev ref04_Account_r : Ty := .pair t88 (.pair t3 .unit)
noncomputable def ref04_Account_g : G := { T := T, E := [ref04_Moved_e], muts := [], fz := [] }
def ref04_Account_k : List (List Nat) := [[1, 2, 3, 6, 8, 9], [2, 3, 6, 8, 9, 10, 11, 13], [2, 3, 6, 8, 9, 10, 11, 14]]
noncomputable def ref04_Account_an (n : Nat) : Ann := { keep := ref04_Account_k, fuel := n, inl := [], deep := 0 }
noncomputable def ref04_Account_m_l7 (n : Nat) (r0 : List Int → List Cnd → Bas → Int → Int → Int → Int → Int → Int → Int → Option ((Int × Int × Int × Unit) × Int × Unit)) (r7 : List Cnd → Bas → Int → List Int → List Int → Int → Int → Int → Int → Int → Int → Int → Option ((Int × Int × Int × Unit) × Int × Unit)) (l2_7 : List Cnd) (b3_7 : Bas) (i9_7 : Int) (flows10_7 : List Int) (next11_7 : List Int) (k14_7 : Int) (b0_0_7 : Int) (b0_1_7 : Int) (b0_2_7 : Int) (b1_0_7 : Int) (b1_1_7 : Int) (b1_2_7 : Int) : Option ((Int × Int × Int × Unit) × Int × Unit) :=
  (bif Decidable.decide (k14_7 < (↑flows10_7.length : Int)) then (Option.bind (Go.Vx.idx b3_7.snd.fst k14_7) fun (v8 : Lnk) => (bif Decidable.decide (v8.snd.fst < (0 : Int)) then (Option.bind (Go.Vx.idx flows10_7 k14_7) fun (v9 : Int) => (Option.bind (Go.Vx.idx flows10_7 k14_7) fun (v10 : Int) => (Option.bind (Go.Vx.idx b3_7.snd.fst k14_7) fun (v13 : Lnk) => (bif Decidable.decide (v13.snd.snd.fst < (0 : Int)) then (Option.bind (Go.Vx.idx flows10_7 k14_7) fun (v14 : Int) => r7 l2_7 b3_7 i9_7 flows10_7 next11_7 (Go.IntKind.i64.wrap (k14_7 + (1 : Int))) b0_0_7 b0_1_7 b0_2_7 b1_0_7 (Go.IntKind.i64.wrap (b1_1_7 + if Bool.true = Bool.true then if v9 > (0 : Int) then v9 else (0 : Int) else if v9 < (0 : Int) then v9 else (0 : Int))) (Go.IntKind.i64.wrap (Go.IntKind.i64.wrap (b1_2_7 + if Bool.true = Bool.true then if Go.IntKind.i64.wrap ((0 : Int) - v10) > (0 : Int) then Go.IntKind.i64.wrap ((0 : Int) - v10) else (0 : Int) else if Go.IntKind.i64.wrap ((0 : Int) - v10) < (0 : Int) then Go.IntKind.i64.wrap ((0 : Int) - v10) else (0 : Int)) + v14))) else r7 l2_7 b3_7 i9_7 flows10_7 next11_7 (Go.IntKind.i64.wrap (k14_7 + (1 : Int))) b0_0_7 b0_1_7 b0_2_7 b1_0_7 (Go.IntKind.i64.wrap (b1_1_7 + if Bool.true = Bool.true then if v9 > (0 : Int) then v9 else (0 : Int) else if v9 < (0 : Int) then v9 else (0 : Int))) (Go.IntKind.i64.wrap (b1_2_7 + if Bool.true = Bool.true then if Go.IntKind.i64.wrap ((0 : Int) - v10) > (0 : Int) then Go.IntKind.i64.wrap ((0 : Int) - v10) else (0 : Int) else if Go.IntKind.i64.wrap ((0 : Int) - v10) < (0 : Int) then Go.IntKind.i64.wrap ((0 : Int) - v10) else (0 : Int))))))) else (Option.bind (Go.Vx.idx b3_7.snd.fst k14_7) fun (v15 : Lnk) => (bif Decidable.decide (v15.snd.snd.fst < (0 : Int)) then (Option.bind (Go.Vx.idx flows10_7 k14_7) fun (v16 : Int) => r7 l2_7 b3_7 i9_7 flows10_7 next11_7 (Go.IntKind.i64.wrap (k14_7 + (1 : Int))) b0_0_7 b0_1_7 b0_2_7 b1_0_7 b1_1_7 (Go.IntKind.i64.wrap (b1_2_7 + v16))) else r7 l2_7 b3_7 i9_7 flows10_7 next11_7 (Go.IntKind.i64.wrap (k14_7 + (1 : Int))) b0_0_7 b0_1_7 b0_2_7 b1_0_7 b1_1_7 b1_2_7)))) else r0 next11_7 l2_7 b3_7 (Go.IntKind.i64.wrap (i9_7 + (1 : Int))) b0_0_7 b0_1_7 b0_2_7 b1_0_7 b1_1_7 b1_2_7)

noncomputable def ref04_Account_m_w7 (n : Nat) (r0 : List Int → List Cnd → Bas → Int → Int → Int → Int → Int → Int → Int → Option ((Int × Int × Int × Unit) × Int × Unit)) (k : Nat) (l2_7 : List Cnd) (b3_7 : Bas) (i9_7 : Int) (flows10_7 : List Int) (next11_7 : List Int) (k14_7 : Int) (b0_0_7 : Int) (b0_1_7 : Int) (b0_2_7 : Int) (b1_0_7 : Int) (b1_1_7 : Int) (b1_2_7 : Int) : Option ((Int × Int × Int × Unit) × Int × Unit) :=
  iter (fun r y => ref04_Account_m_l7 n r0 (fun l2_7 b3_7 i9_7 flows10_7 next11_7 k14_7 b0_0_7 b0_1_7 b0_2_7 b1_0_7 b1_1_7 b1_2_7 => r ((l2_7, (b3_7, (i9_7, (flows10_7, (next11_7, (k14_7, ())))))), (((b0_0_7, (b0_1_7, (b0_2_7, ()))), ((b1_0_7, (b1_1_7, (b1_2_7, ()))), ())), ()))) y.1.1 y.1.2.1 y.1.2.2.1 y.1.2.2.2.1 y.1.2.2.2.2.1 y.1.2.2.2.2.2.1 y.2.1.1.1 y.2.1.1.2.1 y.2.1.1.2.2.1 y.2.1.2.1.1 y.2.1.2.1.2.1 y.2.1.2.1.2.2.1) k ((l2_7, (b3_7, (i9_7, (flows10_7, (next11_7, (k14_7, ())))))), (((b0_0_7, (b0_1_7, (b0_2_7, ()))), ((b1_0_7, (b1_1_7, (b1_2_7, ()))), ())), ()))

noncomputable def ref04_Account_m_l3 (n : Nat) (r0 : List Int → List Cnd → Bas → Int → Int → Int → Int → Int → Int → Int → Option ((Int × Int × Int × Unit) × Int × Unit)) (r3 : List Cnd → Bas → Int → List Int → List Int → Int → Int → Int → Int → Int → Int → Int → Option ((Int × Int × Int × Unit) × Int × Unit)) (l2_3 : List Cnd) (b3_3 : Bas) (i9_3 : Int) (flows10_3 : List Int) (next11_3 : List Int) (k13_3 : Int) (b0_0_3 : Int) (b0_1_3 : Int) (b0_2_3 : Int) (b1_0_3 : Int) (b1_1_3 : Int) (b1_2_3 : Int) : Option ((Int × Int × Int × Unit) × Int × Unit) :=
  (Option.bind (Go.Vx.idx l2_3 i9_3) fun (v4 : Cnd) => (bif Decidable.decide (k13_3 < (↑v4.snd.snd.fst.length : Int)) then (Option.bind (Go.Vx.idx l2_3 i9_3) fun (v5 : Cnd) => (Option.bind (Go.Vx.idx v5.snd.snd.fst k13_3) fun (v6 : Int) => r3 l2_3 b3_3 i9_3 flows10_3 next11_3 (Go.IntKind.i64.wrap (k13_3 + (1 : Int))) b0_0_3 b0_1_3 b0_2_3 (Go.IntKind.i64.wrap (b1_0_3 + v6)) b1_1_3 b1_2_3)) else (ref04_Account_m_w7 n r0 n (l2_3) (b3_3) (i9_3) (flows10_3) (next11_3) ((0 : Int)) (b0_0_3) (b0_1_3) (b0_2_3) (b1_0_3) (b1_1_3) (b1_2_3))))

noncomputable def ref04_Account_m_w3 (n : Nat) (r0 : List Int → List Cnd → Bas → Int → Int → Int → Int → Int → Int → Int → Option ((Int × Int × Int × Unit) × Int × Unit)) (k : Nat) (l2_3 : List Cnd) (b3_3 : Bas) (i9_3 : Int) (flows10_3 : List Int) (next11_3 : List Int) (k13_3 : Int) (b0_0_3 : Int) (b0_1_3 : Int) (b0_2_3 : Int) (b1_0_3 : Int) (b1_1_3 : Int) (b1_2_3 : Int) : Option ((Int × Int × Int × Unit) × Int × Unit) :=
  iter (fun r y => ref04_Account_m_l3 n r0 (fun l2_3 b3_3 i9_3 flows10_3 next11_3 k13_3 b0_0_3 b0_1_3 b0_2_3 b1_0_3 b1_1_3 b1_2_3 => r ((l2_3, (b3_3, (i9_3, (flows10_3, (next11_3, (k13_3, ())))))), (((b0_0_3, (b0_1_3, (b0_2_3, ()))), ((b1_0_3, (b1_1_3, (b1_2_3, ()))), ())), ()))) y.1.1 y.1.2.1 y.1.2.2.1 y.1.2.2.2.1 y.1.2.2.2.2.1 y.1.2.2.2.2.2.1 y.2.1.1.1 y.2.1.1.2.1 y.2.1.1.2.2.1 y.2.1.2.1.1 y.2.1.2.1.2.1 y.2.1.2.1.2.2.1) k ((l2_3, (b3_3, (i9_3, (flows10_3, (next11_3, (k13_3, ())))))), (((b0_0_3, (b0_1_3, (b0_2_3, ()))), ((b1_0_3, (b1_1_3, (b1_2_3, ()))), ())), ()))

noncomputable def ref04_Account_m_l0 (n : Nat) (r0 : List Int → List Cnd → Bas → Int → Int → Int → Int → Int → Int → Int → Option ((Int × Int × Int × Unit) × Int × Unit)) (v1_0 : List Int) (l2_0 : List Cnd) (b3_0 : Bas) (i9_0 : Int) (b0_0_0 : Int) (b0_1_0 : Int) (b0_2_0 : Int) (b1_0_0 : Int) (b1_1_0 : Int) (b1_2_0 : Int) : Option ((Int × Int × Int × Unit) × Int × Unit) :=
  (bif Decidable.decide (i9_0 < (↑l2_0.length : Int)) then (Option.bind (Go.Vx.idx l2_0 i9_0) fun (v1 : Cnd) => (Option.bind (Go.Tw.ref04_Moved_M b3_0 v1_0 v1) fun (v2 : List Int × List Int × Int × Unit) => (bif v2.snd.snd.fst != (0 : Int) then Option.some (((0 : Int), (0 : Int), (0 : Int), ()), v2.snd.snd.fst, ()) else (ref04_Account_m_w3 n r0 n (l2_0) (b3_0) (i9_0) (v2.fst) (v2.snd.fst) ((0 : Int)) (b0_0_0) (b0_1_0) (b0_2_0) (b1_0_0) (b1_1_0) (b1_2_0))))) else Option.some ((b1_0_0, b1_1_0, b1_2_0, ()), (0 : Int), ()))

noncomputable def ref04_Account_m_w0 (n : Nat)  (k : Nat) (v1_0 : List Int) (l2_0 : List Cnd) (b3_0 : Bas) (i9_0 : Int) (b0_0_0 : Int) (b0_1_0 : Int) (b0_2_0 : Int) (b1_0_0 : Int) (b1_1_0 : Int) (b1_2_0 : Int) : Option ((Int × Int × Int × Unit) × Int × Unit) :=
  iter (fun r y => ref04_Account_m_l0 n (fun v1_0 l2_0 b3_0 i9_0 b0_0_0 b0_1_0 b0_2_0 b1_0_0 b1_1_0 b1_2_0 => r ((v1_0, (l2_0, (b3_0, (i9_0, ())))), (((b0_0_0, (b0_1_0, (b0_2_0, ()))), ((b1_0_0, (b1_1_0, (b1_2_0, ()))), ())), ()))) y.1.1 y.1.2.1 y.1.2.2.1 y.1.2.2.2.1 y.2.1.1.1 y.2.1.1.2.1 y.2.1.1.2.2.1 y.2.1.2.1.1 y.2.1.2.1.2.1 y.2.1.2.1.2.2.1) k ((v1_0, (l2_0, (b3_0, (i9_0, ())))), (((b0_0_0, (b0_1_0, (b0_2_0, ()))), ((b1_0_0, (b1_1_0, (b1_2_0, ()))), ())), ()))

noncomputable def ref04_Account_m (n : Nat) (b : Bas) (v : List Int) (l : List Cnd) : Option ((Int × Int × Int × Unit) × Int × Unit) :=
  (ref04_Account_m_w0 n n (v) (l) (b) ((0 : Int)) ((0 : Int)) ((0 : Int)) ((0 : Int)) ((0 : Int)) ((0 : Int)) ((0 : Int)))

theorem ref04_Account_eq (n : Nat) (x : ref04_Account_a.den) : runF ref04_Account_g (ref04_Account_an n) Tryz.f50 ref04_Account_a ref04_Account_r x = ref04_Account_m n x.1 x.2.1 x.2.2.1 := by kernel_rfl

noncomputable def ref04_Account_b7 (l2_7 : List Cnd) (b3_7 : Bas) (i9_7 : Int) (flows10_7 : List Int) (next11_7 : List Int) (b0_0_7 : Int) (b0_1_7 : Int) (b0_2_7 : Int) (b1_0_7 : Int) (k14_7 : Int) (b1_1_7 : Int) (b1_2_7 : Int) : Option ((((Int × Int × Int × Unit) × Int × Unit) ⊕ (List Int × Int × Int × Int)) ⊕ (Int × Int)) :=
  (Option.bind (Go.Vx.idx b3_7.snd.fst k14_7) fun (v8 : Lnk) => (bif Decidable.decide (v8.snd.fst < (0 : Int)) then (Option.bind (Go.Vx.idx flows10_7 k14_7) fun (v9 : Int) => (Option.bind (Go.Vx.idx flows10_7 k14_7) fun (v10 : Int) => (Option.bind (Go.Vx.idx b3_7.snd.fst k14_7) fun (v13 : Lnk) => (bif Decidable.decide (v13.snd.snd.fst < (0 : Int)) then (Option.bind (Go.Vx.idx flows10_7 k14_7) fun (v14 : Int) => (some (Sum.inr ((Go.IntKind.i64.wrap (b1_1_7 + if Bool.true = Bool.true then if v9 > (0 : Int) then v9 else (0 : Int) else if v9 < (0 : Int) then v9 else (0 : Int))), (Go.IntKind.i64.wrap (Go.IntKind.i64.wrap (b1_2_7 + if Bool.true = Bool.true then if Go.IntKind.i64.wrap ((0 : Int) - v10) > (0 : Int) then Go.IntKind.i64.wrap ((0 : Int) - v10) else (0 : Int) else if Go.IntKind.i64.wrap ((0 : Int) - v10) < (0 : Int) then Go.IntKind.i64.wrap ((0 : Int) - v10) else (0 : Int)) + v14)))))) else (some (Sum.inr ((Go.IntKind.i64.wrap (b1_1_7 + if Bool.true = Bool.true then if v9 > (0 : Int) then v9 else (0 : Int) else if v9 < (0 : Int) then v9 else (0 : Int))), (Go.IntKind.i64.wrap (b1_2_7 + if Bool.true = Bool.true then if Go.IntKind.i64.wrap ((0 : Int) - v10) > (0 : Int) then Go.IntKind.i64.wrap ((0 : Int) - v10) else (0 : Int) else if Go.IntKind.i64.wrap ((0 : Int) - v10) < (0 : Int) then Go.IntKind.i64.wrap ((0 : Int) - v10) else (0 : Int)))))))))) else (Option.bind (Go.Vx.idx b3_7.snd.fst k14_7) fun (v15 : Lnk) => (bif Decidable.decide (v15.snd.snd.fst < (0 : Int)) then (Option.bind (Go.Vx.idx flows10_7 k14_7) fun (v16 : Int) => (some (Sum.inr ((b1_1_7), (Go.IntKind.i64.wrap (b1_2_7 + v16)))))) else (some (Sum.inr ((b1_1_7), (b1_2_7))))))))

noncomputable def ref04_Account_f7 (l2_7 : List Cnd) (b3_7 : Bas) (i9_7 : Int) (flows10_7 : List Int) (next11_7 : List Int) (b0_0_7 : Int) (b0_1_7 : Int) (b0_2_7 : Int) (b1_0_7 : Int) (b1_1_7 : Int) (b1_2_7 : Int) : Option (((Int × Int × Int × Unit) × Int × Unit) ⊕ (List Int × Int × Int × Int)) :=
  (some (Sum.inr ((next11_7), (b1_0_7), (b1_1_7), (b1_2_7))))

theorem ref04_Account_m_w7_le (n : Nat) (hn : big ≤ n)  (r0 : List Int → List Cnd → Bas → Int → Int → Int → Int → Int → Int → Int → Option ((Int × Int × Int × Unit) × Int × Unit)) (l2_7 : List Cnd) (b3_7 : Bas) (i9_7 : Int) (flows10_7 : List Int) (next11_7 : List Int) (b0_0_7 : Int) (b0_1_7 : Int) (b0_2_7 : Int) (b1_0_7 : Int) (b1_1_7 : Int) (b1_2_7 : Int) (hx : ((↑flows10_7.length : Int)) ≤ (9223372036854775807 : Int)) : LeF (elim some fun (s__ : (List Int × Int × Int × Int)) => r0 s__.1 l2_7 b3_7 (Go.IntKind.i64.wrap (i9_7 + 1)) b0_0_7 b0_1_7 b0_2_7 s__.2.1 s__.2.2.1 s__.2.2.2) (loopN (fun i__ s__ => ref04_Account_b7 l2_7 b3_7 i9_7 flows10_7 next11_7 b0_0_7 b0_1_7 b0_2_7 b1_0_7 i__ s__.1 s__.2) (fun s__ => ref04_Account_f7 l2_7 b3_7 i9_7 flows10_7 next11_7 b0_0_7 b0_1_7 b0_2_7 b1_0_7 s__.1 s__.2) (((↑flows10_7.length : Int)) - 0).toNat 0 (b1_1_7, b1_2_7)) (ref04_Account_m_w7 n r0 n l2_7 b3_7 i9_7 flows10_7 next11_7 0 b0_0_7 b0_1_7 b0_2_7 b1_0_7 b1_1_7 b1_2_7) := by
  refine loopN_le (f := (elim some fun (s__ : (List Int × Int × Int × Int)) => r0 s__.1 l2_7 b3_7 (Go.IntKind.i64.wrap (i9_7 + 1)) b0_0_7 b0_1_7 b0_2_7 s__.2.1 s__.2.2.1 s__.2.2.2)) (W := fun k__ i__ s__ => ref04_Account_m_w7 n r0 k__ l2_7 b3_7 i9_7 flows10_7 next11_7 i__ b0_0_7 b0_1_7 b0_2_7 b1_0_7 s__.1 s__.2) (body := (fun i__ s__ => ref04_Account_b7 l2_7 b3_7 i9_7 flows10_7 next11_7 b0_0_7 b0_1_7 b0_2_7 b1_0_7 i__ s__.1 s__.2)) (fin := (fun s__ => ref04_Account_f7 l2_7 b3_7 i9_7 flows10_7 next11_7 b0_0_7 b0_1_7 b0_2_7 b1_0_7 s__.1 s__.2)) (fun k__ i__ s__ => ?_) hx (b1_1_7, b1_2_7) n 0 (by decide) (by unfold big at hn; omega)
  show LeF _ _ (ref04_Account_m_l7 n r0 (ref04_Account_m_w7 n r0 k__) l2_7 b3_7 i9_7 flows10_7 next11_7 i__ b0_0_7 b0_1_7 b0_2_7 b1_0_7 s__.1 s__.2)
  exact leCond (leBind fun v8 => (leCond (leBind fun v9 => (leBind fun v10 => (leBind fun v13 => (leCond (leBind fun v14 => (leSome rfl)) (leSome rfl))))) (leBind fun v15 => (leCond (leBind fun v16 => (leSome rfl)) (leSome rfl))))) (leMap (leSome rfl))

noncomputable def ref04_Account_b3 (l2_3 : List Cnd) (b3_3 : Bas) (i9_3 : Int) (flows10_3 : List Int) (next11_3 : List Int) (b0_0_3 : Int) (b0_1_3 : Int) (b0_2_3 : Int) (b1_1_3 : Int) (b1_2_3 : Int) (v4 : Cnd) (k13_3 : Int) (b1_0_3 : Int) : Option ((((Int × Int × Int × Unit) × Int × Unit) ⊕ (List Int × Int × Int × Int)) ⊕ (Int)) :=
  (Option.bind (Go.Vx.idx l2_3 i9_3) fun (v5 : Cnd) => (Option.bind (Go.Vx.idx v5.snd.snd.fst k13_3) fun (v6 : Int) => (some (Sum.inr (Go.IntKind.i64.wrap (b1_0_3 + v6))))))

noncomputable def ref04_Account_f3 (l2_3 : List Cnd) (b3_3 : Bas) (i9_3 : Int) (flows10_3 : List Int) (next11_3 : List Int) (b0_0_3 : Int) (b0_1_3 : Int) (b0_2_3 : Int) (b1_1_3 : Int) (b1_2_3 : Int) (v4 : Cnd) (b1_0_3 : Int) : Option (((Int × Int × Int × Unit) × Int × Unit) ⊕ (List Int × Int × Int × Int)) :=
  (bif decide (((↑flows10_3.length : Int)) ≤ (9223372036854775807 : Int)) then loopN (fun i__ s__ => ref04_Account_b7 (l2_3) (b3_3) (i9_3) (flows10_3) (next11_3) (b0_0_3) (b0_1_3) (b0_2_3) (b1_0_3) i__ s__.1 s__.2) (fun s__ => ref04_Account_f7 (l2_3) (b3_3) (i9_3) (flows10_3) (next11_3) (b0_0_3) (b0_1_3) (b0_2_3) (b1_0_3) s__.1 s__.2) (((↑flows10_3.length : Int)) - 0).toNat 0 ((b1_1_3), (b1_2_3)) else none)

theorem ref04_Account_m_w3_le (n : Nat) (hn : big ≤ n)  (r0 : List Int → List Cnd → Bas → Int → Int → Int → Int → Int → Int → Int → Option ((Int × Int × Int × Unit) × Int × Unit)) (l2_3 : List Cnd) (b3_3 : Bas) (i9_3 : Int) (flows10_3 : List Int) (next11_3 : List Int) (b0_0_3 : Int) (b0_1_3 : Int) (b0_2_3 : Int) (b1_1_3 : Int) (b1_2_3 : Int) (b1_0_3 : Int) (v4 : Cnd) (h0__ : (Go.Vx.idx l2_3 i9_3) = some v4) (hx : ((↑v4.snd.snd.fst.length : Int)) ≤ (9223372036854775807 : Int)) : LeF (elim some fun (s__ : (List Int × Int × Int × Int)) => r0 s__.1 l2_3 b3_3 (Go.IntKind.i64.wrap (i9_3 + 1)) b0_0_3 b0_1_3 b0_2_3 s__.2.1 s__.2.2.1 s__.2.2.2) (loopN (fun i__ s__ => ref04_Account_b3 l2_3 b3_3 i9_3 flows10_3 next11_3 b0_0_3 b0_1_3 b0_2_3 b1_1_3 b1_2_3 v4 i__ s__) (fun s__ => ref04_Account_f3 l2_3 b3_3 i9_3 flows10_3 next11_3 b0_0_3 b0_1_3 b0_2_3 b1_1_3 b1_2_3 v4 s__) (((↑v4.snd.snd.fst.length : Int)) - 0).toNat 0 b1_0_3) (ref04_Account_m_w3 n r0 n l2_3 b3_3 i9_3 flows10_3 next11_3 0 b0_0_3 b0_1_3 b0_2_3 b1_0_3 b1_1_3 b1_2_3) := by
  refine loopN_le (f := (elim some fun (s__ : (List Int × Int × Int × Int)) => r0 s__.1 l2_3 b3_3 (Go.IntKind.i64.wrap (i9_3 + 1)) b0_0_3 b0_1_3 b0_2_3 s__.2.1 s__.2.2.1 s__.2.2.2)) (W := fun k__ i__ s__ => ref04_Account_m_w3 n r0 k__ l2_3 b3_3 i9_3 flows10_3 next11_3 i__ b0_0_3 b0_1_3 b0_2_3 s__ b1_1_3 b1_2_3) (body := (fun i__ s__ => ref04_Account_b3 l2_3 b3_3 i9_3 flows10_3 next11_3 b0_0_3 b0_1_3 b0_2_3 b1_1_3 b1_2_3 v4 i__ s__)) (fin := (fun s__ => ref04_Account_f3 l2_3 b3_3 i9_3 flows10_3 next11_3 b0_0_3 b0_1_3 b0_2_3 b1_1_3 b1_2_3 v4 s__)) (fun k__ i__ s__ => ?_) hx b1_0_3 n 0 (by decide) (by unfold big at hn; omega)
  show LeF _ _ (ref04_Account_m_l3 n r0 (ref04_Account_m_w3 n r0 k__) l2_3 b3_3 i9_3 flows10_3 next11_3 i__ b0_0_3 b0_1_3 b0_2_3 s__ b1_1_3 b1_2_3)
  exact leAt h0__ (leCond (leBind fun v5 => (leBind fun v6 => (leSome rfl))) (leMap (leGuard fun hx => by apply ref04_Account_m_w7_le n hn; exact hx)))

noncomputable def ref04_Account_b0 (l2_0 : List Cnd) (b3_0 : Bas) (b0_0_0 : Int) (b0_1_0 : Int) (b0_2_0 : Int) (i9_0 : Int) (v1 : Cnd) (v1_0 : List Int) (b1_0_0 : Int) (b1_1_0 : Int) (b1_2_0 : Int) : Option (((Int × Int × Int × Unit) × Int × Unit) ⊕ (List Int × Int × Int × Int)) :=
  (Option.bind (Go.Tw.ref04_Moved_M b3_0 v1_0 v1) fun (v2 : List Int × List Int × Int × Unit) => (bif v2.snd.snd.fst != (0 : Int) then (some (Sum.inl ((((0 : Int), (0 : Int), (0 : Int), ()), v2.snd.snd.fst, ())))) else (Option.bind (Go.Vx.idx l2_0 i9_0) fun (v4 : Cnd) => (bif decide (((↑v4.snd.snd.fst.length : Int)) ≤ (9223372036854775807 : Int)) then loopN (fun i__ s__ => ref04_Account_b3 (l2_0) (b3_0) (i9_0) (v2.fst) (v2.snd.fst) (b0_0_0) (b0_1_0) (b0_2_0) (b1_1_0) (b1_2_0) v4 i__ s__) (fun s__ => ref04_Account_f3 (l2_0) (b3_0) (i9_0) (v2.fst) (v2.snd.fst) (b0_0_0) (b0_1_0) (b0_2_0) (b1_1_0) (b1_2_0) v4 s__) (((↑v4.snd.snd.fst.length : Int)) - 0).toNat 0 (b1_0_0) else none))))

noncomputable def ref04_Account_f0 (l2_0 : List Cnd) (b3_0 : Bas) (b0_0_0 : Int) (b0_1_0 : Int) (b0_2_0 : Int) (v1_0 : List Int) (b1_0_0 : Int) (b1_1_0 : Int) (b1_2_0 : Int) : Option ((Int × Int × Int × Unit) × Int × Unit) :=
  (some (((b1_0_0, b1_1_0, b1_2_0, ()), (0 : Int), ())))

theorem ref04_Account_m_w0_le (n : Nat) (hn : big ≤ n)  (l2_0 : List Cnd) (b3_0 : Bas) (b0_0_0 : Int) (b0_1_0 : Int) (b0_2_0 : Int) (v1_0 : List Int) (b1_0_0 : Int) (b1_1_0 : Int) (b1_2_0 : Int) (hx : List.length (l2_0) < lenMax) : LeF some (loopL (fun i__ e__ s__ => ref04_Account_b0 l2_0 b3_0 b0_0_0 b0_1_0 b0_2_0 i__ e__ s__.1 s__.2.1 s__.2.2.1 s__.2.2.2) (fun s__ => ref04_Account_f0 l2_0 b3_0 b0_0_0 b0_1_0 b0_2_0 s__.1 s__.2.1 s__.2.2.1 s__.2.2.2) 0 (l2_0) (v1_0, b1_0_0, b1_1_0, b1_2_0)) (ref04_Account_m_w0 n n v1_0 l2_0 b3_0 0 b0_0_0 b0_1_0 b0_2_0 b1_0_0 b1_1_0 b1_2_0) := by
  refine loopL_le (f := some) (W := fun k__ i__ s__ => ref04_Account_m_w0 n k__ s__.1 l2_0 b3_0 i__ b0_0_0 b0_1_0 b0_2_0 s__.2.1 s__.2.2.1 s__.2.2.2) (body := (fun i__ e__ s__ => ref04_Account_b0 l2_0 b3_0 b0_0_0 b0_1_0 b0_2_0 i__ e__ s__.1 s__.2.1 s__.2.2.1 s__.2.2.2)) (fin := (fun s__ => ref04_Account_f0 l2_0 b3_0 b0_0_0 b0_1_0 b0_2_0 s__.1 s__.2.1 s__.2.2.1 s__.2.2.2)) (fun k__ i__ s__ => ?_) hx (v1_0, b1_0_0, b1_1_0, b1_2_0) n (by unfold big at hn; unfold lenMax at hx; omega)
  show LeF _ _ (ref04_Account_m_l0 n (ref04_Account_m_w0 n k__) s__.1 l2_0 b3_0 i__ b0_0_0 b0_1_0 b0_2_0 s__.2.1 s__.2.2.1 s__.2.2.2)
  exact leCond (leBind fun v1 => (leBind fun v2 => (leCond (leSome rfl) (leBindE fun v4 h0__ => (leGuard fun hx => by apply ref04_Account_m_w3_le n hn; exact h0__; exact hx))))) (leMap (leSome rfl))

noncomputable def ref04_Account_M (b : Bas) (v : List Int) (l : List Cnd) : Option ((Int × Int × Int × Unit) × Int × Unit) :=
  (bif decide (List.length (l) < lenMax) then loopL (fun i__ e__ s__ => ref04_Account_b0 (l) (b) ((0 : Int)) ((0 : Int)) ((0 : Int)) i__ e__ s__.1 s__.2.1 s__.2.2.1 s__.2.2.2) (fun s__ => ref04_Account_f0 (l) (b) ((0 : Int)) ((0 : Int)) ((0 : Int)) s__.1 s__.2.1 s__.2.2.1 s__.2.2.2) 0 (l) ((v), ((0 : Int)), ((0 : Int)), ((0 : Int))) else none)

theorem ref04_Account_run (b : Bas) (v : List Int) (l : List Cnd) (y : (Int × Int × Int × Unit) × Int × Unit) (h : ref04_Account_M b v l = some y) : ∃ n, ref04_Account_m n b v l = some y :=
  ⟨big, LeF.top (show LeF some (ref04_Account_M b v l) (ref04_Account_m big b v l) from (fun (n : Nat) (hn : big ≤ n) => show LeF some (ref04_Account_M b v l) (ref04_Account_m n b v l) from (leGuard fun hx => by apply ref04_Account_m_w0_le n hn; exact hx)) big (Nat.le_refl _)) h⟩
noncomputable def ref04_Account_e : Entry := { f := 50, args := ref04_Account_a, ress := ref04_Account_r, m := fun x => ref04_Account_M x.1 x.2.1 x.2.2.1 }
theorem ref04_Account_ok : FnOK Tryz.prog ref04_Account_e := fn_ok (g := ref04_Account_g) (fn := Tryz.f50) hmixed tabOk (eCons ref04_Moved_ok eNil) (by kernel_rfl) (by kernel_rfl) (by kernel_rfl) (fun x y h => let ⟨n, hn⟩ := ref04_Account_run x.1 x.2.1 x.2.2.1 y h; ⟨ref04_Account_an n, iNil, (ref04_Account_eq n x).trans hn⟩)

/-! ### basin.First -/
abbrev basin_First_a : Ty := .pair t41 (.pair t26 (.pair t54 .unit))
abbrev basin_First_r : Ty := .pair t3 (.pair t3 (.pair t35 .unit))
noncomputable def basin_First_g : G := { T := T, E := [basin_checked_e, basin_Basin_above_e, basin_when_e], muts := [], fz := [] }
def basin_First_k : List (List Nat) := [[3, 11, 12, 13, 28, 29, 30], [3, 11, 12, 13, 14, 28, 29, 30, 38, 39, 40]]
noncomputable def basin_First_an (n : Nat) : Ann := { keep := basin_First_k, fuel := n, inl := [], deep := 0 }
noncomputable def basin_First_m_l4 (n : Nat) (r1 : Bas → Int → Int → Bool → List Psg → Int → Int → Option (Int × Int × Int × Unit)) (r4 : Bas → Int → Int → Bool → Int → List Psg → Int → Int → List Int → Int → Int → Option (Int × Int × Int × Unit)) (b3_4 : Bas) (step11_4 : Int) (node12_4 : Int) (found13_4 : Bool) (i14_4 : Int) (t28_4 : List Psg) (t29_4 : Int) (t30_4 : Int) (t38_4 : List Int) (t39_4 : Int) (t40_4 : Int) : Option (Int × Int × Int × Unit) :=
  (bif Decidable.decide (t40_4 < t39_4) then (Option.bind (Go.Vx.idx t38_4 t40_4) fun (v5 : Int) => Option.some (i14_4, v5, (Go.Tw.basin_when (!Bool.true) (7 : Int)).fst, ())) else r1 b3_4 step11_4 node12_4 found13_4 t28_4 t29_4 (Go.IntKind.i64.wrap (t30_4 + (1 : Int))))

noncomputable def basin_First_m_w4 (n : Nat) (r1 : Bas → Int → Int → Bool → List Psg → Int → Int → Option (Int × Int × Int × Unit)) (k : Nat) (b3_4 : Bas) (step11_4 : Int) (node12_4 : Int) (found13_4 : Bool) (i14_4 : Int) (t28_4 : List Psg) (t29_4 : Int) (t30_4 : Int) (t38_4 : List Int) (t39_4 : Int) (t40_4 : Int) : Option (Int × Int × Int × Unit) :=
  iter (fun r y => basin_First_m_l4 n r1 (fun b3_4 step11_4 node12_4 found13_4 i14_4 t28_4 t29_4 t30_4 t38_4 t39_4 t40_4 => r ((b3_4, (step11_4, (node12_4, (found13_4, (i14_4, (t28_4, (t29_4, (t30_4, (t38_4, (t39_4, (t40_4, ()))))))))))), ((), ()))) y.1.1 y.1.2.1 y.1.2.2.1 y.1.2.2.2.1 y.1.2.2.2.2.1 y.1.2.2.2.2.2.1 y.1.2.2.2.2.2.2.1 y.1.2.2.2.2.2.2.2.1 y.1.2.2.2.2.2.2.2.2.1 y.1.2.2.2.2.2.2.2.2.2.1 y.1.2.2.2.2.2.2.2.2.2.2.1) k ((b3_4, (step11_4, (node12_4, (found13_4, (i14_4, (t28_4, (t29_4, (t30_4, (t38_4, (t39_4, (t40_4, ()))))))))))), ((), ()))

noncomputable def basin_First_m_l1 (n : Nat) (r1 : Bas → Int → Int → Bool → List Psg → Int → Int → Option (Int × Int × Int × Unit)) (b3_1 : Bas) (step11_1 : Int) (node12_1 : Int) (found13_1 : Bool) (t28_1 : List Psg) (t29_1 : Int) (t30_1 : Int) : Option (Int × Int × Int × Unit) :=
  (bif Decidable.decide (t30_1 < t29_1) then (Option.bind (Go.Vx.idx t28_1 t30_1) fun (v2 : Psg) => (Option.bind (Go.Tw.basin_Basin_above_M b3_1 (v2.snd.snd.fst.getD [])) fun (v3 : List Int × Unit) => (basin_First_m_w4 n r1 n (b3_1) (step11_1) (node12_1) (found13_1) (t30_1) (t28_1) (t29_1) (t30_1) (v3.fst) ((↑v3.fst.length : Int)) ((0 : Int))))) else Option.some (step11_1, node12_1, (Go.Tw.basin_when (!found13_1) (7 : Int)).fst, ()))

noncomputable def basin_First_m_w1 (n : Nat)  (k : Nat) (b3_1 : Bas) (step11_1 : Int) (node12_1 : Int) (found13_1 : Bool) (t28_1 : List Psg) (t29_1 : Int) (t30_1 : Int) : Option (Int × Int × Int × Unit) :=
  iter (fun r y => basin_First_m_l1 n (fun b3_1 step11_1 node12_1 found13_1 t28_1 t29_1 t30_1 => r ((b3_1, (step11_1, (node12_1, (found13_1, (t28_1, (t29_1, (t30_1, ()))))))), ((), ()))) y.1.1 y.1.2.1 y.1.2.2.1 y.1.2.2.2.1 y.1.2.2.2.2.1 y.1.2.2.2.2.2.1 y.1.2.2.2.2.2.2.1) k ((b3_1, (step11_1, (node12_1, (found13_1, (t28_1, (t29_1, (t30_1, ()))))))), ((), ()))

noncomputable def basin_First_m (n : Nat) (b : Bas) (v : List Int) (l : List Cnd) : Option (Int × Int × Int × Unit) :=
  (Option.bind (Go.Tw.basin_checked_M b v l) fun (v0 : List Psg × Int × Unit) => (bif v0.snd.fst != (0 : Int) then Option.some ((0 : Int), (0 : Int), v0.snd.fst, ()) else (basin_First_m_w1 n n (b) ((0 : Int)) ((0 : Int)) (Bool.false) (v0.fst) ((↑v0.fst.length : Int)) ((0 : Int)))))

theorem basin_First_eq (n : Nat) (x : basin_First_a.den) : runF basin_First_g (basin_First_an n) Tryz.f48 basin_First_a basin_First_r x = basin_First_m n x.1 x.2.1 x.2.2.1 := by kernel_rfl

noncomputable def basin_First_b4 (b3_4 : Bas) (step11_4 : Int) (node12_4 : Int) (found13_4 : Bool) (i14_4 : Int) (t28_4 : List Psg) (t29_4 : Int) (t30_4 : Int) (t38_4 : List Int) (t40_4 : Int) (v5 : Int) : Option (((Int × Int × Int × Unit) ⊕ Unit) ⊕ Unit) :=
  (some (Sum.inl (Sum.inl ((i14_4, v5, (Go.Tw.basin_when (!Bool.true) (7 : Int)).fst, ())))))

noncomputable def basin_First_f4 (b3_4 : Bas) (step11_4 : Int) (node12_4 : Int) (found13_4 : Bool) (i14_4 : Int) (t28_4 : List Psg) (t29_4 : Int) (t30_4 : Int) (t38_4 : List Int) : Option ((Int × Int × Int × Unit) ⊕ Unit) :=
  (some (Sum.inr ()))

theorem basin_First_m_w4_le (n : Nat) (hn : big ≤ n)  (r1 : Bas → Int → Int → Bool → List Psg → Int → Int → Option (Int × Int × Int × Unit)) (b3_4 : Bas) (step11_4 : Int) (node12_4 : Int) (found13_4 : Bool) (i14_4 : Int) (t28_4 : List Psg) (t29_4 : Int) (t30_4 : Int) (t38_4 : List Int) (hx : List.length (t38_4) < lenMax) : LeF (elim some fun (s__ : Unit) => r1 b3_4 step11_4 node12_4 found13_4 t28_4 t29_4 (Go.IntKind.i64.wrap (t30_4 + 1))) (loopL (fun i__ e__ s__ => basin_First_b4 b3_4 step11_4 node12_4 found13_4 i14_4 t28_4 t29_4 t30_4 t38_4 i__ e__) (fun s__ => basin_First_f4 b3_4 step11_4 node12_4 found13_4 i14_4 t28_4 t29_4 t30_4 t38_4) 0 (t38_4) ()) (basin_First_m_w4 n r1 n b3_4 step11_4 node12_4 found13_4 i14_4 t28_4 t29_4 t30_4 t38_4 (List.length (t38_4) : Int) 0) := by
  refine loopL_le (f := (elim some fun (s__ : Unit) => r1 b3_4 step11_4 node12_4 found13_4 t28_4 t29_4 (Go.IntKind.i64.wrap (t30_4 + 1)))) (W := fun k__ i__ s__ => basin_First_m_w4 n r1 k__ b3_4 step11_4 node12_4 found13_4 i14_4 t28_4 t29_4 t30_4 t38_4 (List.length (t38_4) : Int) i__) (body := (fun i__ e__ s__ => basin_First_b4 b3_4 step11_4 node12_4 found13_4 i14_4 t28_4 t29_4 t30_4 t38_4 i__ e__)) (fin := (fun s__ => basin_First_f4 b3_4 step11_4 node12_4 found13_4 i14_4 t28_4 t29_4 t30_4 t38_4)) (fun k__ i__ s__ => ?_) hx () n (by unfold big at hn; unfold lenMax at hx; omega)
  show LeF _ _ (basin_First_m_l4 n r1 (basin_First_m_w4 n r1 k__) b3_4 step11_4 node12_4 found13_4 i14_4 t28_4 t29_4 t30_4 t38_4 (List.length (t38_4) : Int) i__)
  exact leCond (leBind fun v5 => (leSome rfl)) (leMap (leSome rfl))

noncomputable def basin_First_b1 (b3_1 : Bas) (step11_1 : Int) (node12_1 : Int) (found13_1 : Bool) (t28_1 : List Psg) (t30_1 : Int) (v2 : Psg) : Option ((Int × Int × Int × Unit) ⊕ Unit) :=
  (Option.bind (Go.Tw.basin_Basin_above_M b3_1 (v2.snd.snd.fst.getD [])) fun (v3 : List Int × Unit) => (bif decide (List.length (v3.fst) < lenMax) then loopL (fun i__ e__ s__ => basin_First_b4 (b3_1) (step11_1) (node12_1) (found13_1) (t30_1) (t28_1) ((↑t28_1.length : Int)) (t30_1) (v3.fst) i__ e__) (fun s__ => basin_First_f4 (b3_1) (step11_1) (node12_1) (found13_1) (t30_1) (t28_1) ((↑t28_1.length : Int)) (t30_1) (v3.fst)) 0 (v3.fst) () else none))

noncomputable def basin_First_f1 (b3_1 : Bas) (step11_1 : Int) (node12_1 : Int) (found13_1 : Bool) (t28_1 : List Psg) : Option (Int × Int × Int × Unit) :=
  (some ((step11_1, node12_1, (Go.Tw.basin_when (!found13_1) (7 : Int)).fst, ())))

theorem basin_First_m_w1_le (n : Nat) (hn : big ≤ n)  (b3_1 : Bas) (step11_1 : Int) (node12_1 : Int) (found13_1 : Bool) (t28_1 : List Psg) (hx : List.length (t28_1) < lenMax) : LeF some (loopL (fun i__ e__ s__ => basin_First_b1 b3_1 step11_1 node12_1 found13_1 t28_1 i__ e__) (fun s__ => basin_First_f1 b3_1 step11_1 node12_1 found13_1 t28_1) 0 (t28_1) ()) (basin_First_m_w1 n n b3_1 step11_1 node12_1 found13_1 t28_1 (List.length (t28_1) : Int) 0) := by
  refine loopL_le (f := some) (W := fun k__ i__ s__ => basin_First_m_w1 n k__ b3_1 step11_1 node12_1 found13_1 t28_1 (List.length (t28_1) : Int) i__) (body := (fun i__ e__ s__ => basin_First_b1 b3_1 step11_1 node12_1 found13_1 t28_1 i__ e__)) (fin := (fun s__ => basin_First_f1 b3_1 step11_1 node12_1 found13_1 t28_1)) (fun k__ i__ s__ => ?_) hx () n (by unfold big at hn; unfold lenMax at hx; omega)
  show LeF _ _ (basin_First_m_l1 n (basin_First_m_w1 n k__) b3_1 step11_1 node12_1 found13_1 t28_1 (List.length (t28_1) : Int) i__)
  exact leCond (leBind fun v2 => (leBind fun v3 => (leGuard fun hx => by apply basin_First_m_w4_le n hn; exact hx))) (leMap (leSome rfl))

noncomputable def basin_First_M (b : Bas) (v : List Int) (l : List Cnd) : Option (Int × Int × Int × Unit) :=
  (Option.bind (Go.Tw.basin_checked_M b v l) fun (v0 : List Psg × Int × Unit) => (bif v0.snd.fst != (0 : Int) then (some (((0 : Int), (0 : Int), v0.snd.fst, ()))) else (bif decide (List.length (v0.fst) < lenMax) then loopL (fun i__ e__ s__ => basin_First_b1 (b) ((0 : Int)) ((0 : Int)) (Bool.false) (v0.fst) i__ e__) (fun s__ => basin_First_f1 (b) ((0 : Int)) ((0 : Int)) (Bool.false) (v0.fst)) 0 (v0.fst) () else none)))

theorem basin_First_run (b : Bas) (v : List Int) (l : List Cnd) (y : Int × Int × Int × Unit) (h : basin_First_M b v l = some y) : ∃ n, basin_First_m n b v l = some y :=
  ⟨big, LeF.top (show LeF some (basin_First_M b v l) (basin_First_m big b v l) from (fun (n : Nat) (hn : big ≤ n) => show LeF some (basin_First_M b v l) (basin_First_m n b v l) from (leBind fun v0 => (leCond (leSome rfl) (leGuard fun hx => by apply basin_First_m_w1_le n hn; exact hx)))) big (Nat.le_refl _)) h⟩
noncomputable def basin_First_e : Entry := { f := 48, args := basin_First_a, ress := basin_First_r, m := fun x => basin_First_M x.1 x.2.1 x.2.2.1 }
theorem basin_First_ok : FnOK Tryz.prog basin_First_e := fn_ok (g := basin_First_g) (fn := Tryz.f48) hmixed tabOk (eCons basin_checked_ok (eCons basin_Basin_above_ok (eCons basin_when_ok eNil))) (by kernel_rfl) (by kernel_rfl) (by kernel_rfl) (fun x y h => let ⟨n, hn⟩ := basin_First_run x.1 x.2.1 x.2.2.1 y h; ⟨basin_First_an n, iNil, (basin_First_eq n x).trans hn⟩)

end Go.Tw
end

section
set_option linter.all false
set_option maxRecDepth 1000000
namespace Go.Tw
open Go.Vx Go.Vx.B Go.Proofs
/-! ### tidewayref04.First -/
abbrev ref04_First_a : Ty := .pair t25 (.pair t26 (.pair t33 .unit))
abbrev ref04_First_r : Ty := .pair t3 (.pair t3 (.pair t3 .unit))
noncomputable def ref04_First_g : G := { T := T, E := [ref04_Run_e, ref04_Above_e], muts := [], fz := [] }
def ref04_First_k : List (List Nat) := [[3, 9, 11]]
noncomputable def ref04_First_an (n : Nat) : Ann := { keep := ref04_First_k, fuel := n, inl := [], deep := 0 }
noncomputable def ref04_First_m_l1 (n : Nat) (r1 : Bas → List (List Int) → Int → Option (Int × Int × Int × Unit)) (b3_1 : Bas) (run9_1 : List (List Int)) (i11_1 : Int) : Option (Int × Int × Int × Unit) :=
  (bif Decidable.decide (i11_1 < (↑run9_1.length : Int)) then (Option.bind (Go.Vx.idx run9_1 i11_1) fun (v2 : List Int) => (Option.bind (Go.Tw.ref04_Above_M b3_1 v2) fun (v3 : List Int × Unit) => (bif Decidable.decide ((↑v3.fst.length : Int) > (0 : Int)) then (Option.bind (Go.Vx.idx v3.fst (0 : Int)) fun (v4 : Int) => Option.some (i11_1, v4, (0 : Int), ())) else r1 b3_1 run9_1 (Go.IntKind.i64.wrap (i11_1 + (1 : Int)))))) else Option.some ((0 : Int), (0 : Int), (7 : Int), ()))

noncomputable def ref04_First_m_w1 (n : Nat)  (k : Nat) (b3_1 : Bas) (run9_1 : List (List Int)) (i11_1 : Int) : Option (Int × Int × Int × Unit) :=
  iter (fun r y => ref04_First_m_l1 n (fun b3_1 run9_1 i11_1 => r ((b3_1, (run9_1, (i11_1, ()))), ((), ()))) y.1.1 y.1.2.1 y.1.2.2.1) k ((b3_1, (run9_1, (i11_1, ()))), ((), ()))

noncomputable def ref04_First_m (n : Nat) (b : Bas) (v : List Int) (l : List Cnd) : Option (Int × Int × Int × Unit) :=
  (Option.bind (Go.Tw.ref04_Run_M b v l) fun (v0 : List (List Int) × Int × Unit) => (bif v0.snd.fst != (0 : Int) then Option.some ((0 : Int), (0 : Int), v0.snd.fst, ()) else (ref04_First_m_w1 n n (b) (v0.fst) ((0 : Int)))))

theorem ref04_First_eq (n : Nat) (x : ref04_First_a.den) : runF ref04_First_g (ref04_First_an n) Tryz.f51 ref04_First_a ref04_First_r x = ref04_First_m n x.1 x.2.1 x.2.2.1 := by kernel_rfl

noncomputable def ref04_First_b1 (b3_1 : Bas) (run9_1 : List (List Int)) (i11_1 : Int) (v2 : List Int) : Option ((Int × Int × Int × Unit) ⊕ Unit) :=
  (Option.bind (Go.Tw.ref04_Above_M b3_1 v2) fun (v3 : List Int × Unit) => (bif Decidable.decide ((↑v3.fst.length : Int) > (0 : Int)) then (Option.bind (Go.Vx.idx v3.fst (0 : Int)) fun (v4 : Int) => (some (Sum.inl ((i11_1, v4, (0 : Int), ()))))) else (some (Sum.inr ()))))

noncomputable def ref04_First_f1 (b3_1 : Bas) (run9_1 : List (List Int)) : Option (Int × Int × Int × Unit) :=
  (some (((0 : Int), (0 : Int), (7 : Int), ())))

theorem ref04_First_m_w1_le (n : Nat) (hn : big ≤ n)  (b3_1 : Bas) (run9_1 : List (List Int)) (hx : List.length (run9_1) < lenMax) : LeF some (loopL (fun i__ e__ s__ => ref04_First_b1 b3_1 run9_1 i__ e__) (fun s__ => ref04_First_f1 b3_1 run9_1) 0 (run9_1) ()) (ref04_First_m_w1 n n b3_1 run9_1 0) := by
  refine loopL_le (f := some) (W := fun k__ i__ s__ => ref04_First_m_w1 n k__ b3_1 run9_1 i__) (body := (fun i__ e__ s__ => ref04_First_b1 b3_1 run9_1 i__ e__)) (fin := (fun s__ => ref04_First_f1 b3_1 run9_1)) (fun k__ i__ s__ => ?_) hx () n (by unfold big at hn; unfold lenMax at hx; omega)
  show LeF _ _ (ref04_First_m_l1 n (ref04_First_m_w1 n k__) b3_1 run9_1 i__)
  exact leCond (leBind fun v2 => (leBind fun v3 => (leCond (leBind fun v4 => (leSome rfl)) (leSome rfl)))) (leMap (leSome rfl))

noncomputable def ref04_First_M (b : Bas) (v : List Int) (l : List Cnd) : Option (Int × Int × Int × Unit) :=
  (Option.bind (Go.Tw.ref04_Run_M b v l) fun (v0 : List (List Int) × Int × Unit) => (bif v0.snd.fst != (0 : Int) then (some (((0 : Int), (0 : Int), v0.snd.fst, ()))) else (bif decide (List.length (v0.fst) < lenMax) then loopL (fun i__ e__ s__ => ref04_First_b1 (b) (v0.fst) i__ e__) (fun s__ => ref04_First_f1 (b) (v0.fst)) 0 (v0.fst) () else none)))

theorem ref04_First_run (b : Bas) (v : List Int) (l : List Cnd) (y : Int × Int × Int × Unit) (h : ref04_First_M b v l = some y) : ∃ n, ref04_First_m n b v l = some y :=
  ⟨big, LeF.top (show LeF some (ref04_First_M b v l) (ref04_First_m big b v l) from (fun (n : Nat) (hn : big ≤ n) => show LeF some (ref04_First_M b v l) (ref04_First_m n b v l) from (leBind fun v0 => (leCond (leSome rfl) (leGuard fun hx => by apply ref04_First_m_w1_le n hn; exact hx)))) big (Nat.le_refl _)) h⟩
noncomputable def ref04_First_e : Entry := { f := 51, args := ref04_First_a, ress := ref04_First_r, m := fun x => ref04_First_M x.1 x.2.1 x.2.2.1 }
theorem ref04_First_ok : FnOK Tryz.prog ref04_First_e := fn_ok (g := ref04_First_g) (fn := Tryz.f51) hmixed tabOk (eCons ref04_Run_ok (eCons ref04_Above_ok eNil)) (by kernel_rfl) (by kernel_rfl) (by kernel_rfl) (fun x y h => let ⟨n, hn⟩ := ref04_First_run x.1 x.2.1 x.2.2.1 y h; ⟨ref04_First_an n, iNil, (ref04_First_eq n x).trans hn⟩)

/-! ### tidewaylaw04.BasinSteps -/
abbrev law04_BasinSteps_a : Ty := .pair t25 (.pair t26 (.pair t28 .unit))
abbrev law04_BasinSteps_r : Ty := .pair t4 .unit
noncomputable def law04_BasinSteps_g : G := { T := T, E := [ref04_Short_e, ref04_ShortConditions_e, law04_awake_e, law04_given_e, law04_ints_e, law04_condition_e, basin_Flows_e, basin_Step_e, ref04_CheckRun_e, ref04_Moved_e, ref01_SameInts_e], muts := [], fz := [] }
def law04_BasinSteps_k : List (List Nat) := []
noncomputable def law04_BasinSteps_an (n : Nat) : Ann := { keep := law04_BasinSteps_k, fuel := n, inl := [], deep := 0 }
noncomputable def law04_BasinSteps_m_j34 (n : Nat) (v12 : List Int × Int × Unit) (v16 : List Int × Int × Unit) (j19 : Int) (j20 : List Int) (j21 : List Int) : Option (Bool × Unit) :=
  (Option.bind (Go.Tw.ref01_SameInts_M v12.fst j20) fun (v22 : Bool × Unit) => (bif v22.fst then (bif v12.snd.fst == j19 then (Option.bind (Go.Tw.ref01_SameInts_M v16.fst j21) fun (v23 : Bool × Unit) => (bif v23.fst then (bif v16.snd.fst == j19 then (Option.bind (Go.Tw.law04_awake_M) fun (v24 : Bool × Unit) => Option.some (v24.fst, ())) else Option.some (Bool.false, ())) else Option.some (Bool.false, ()))) else Option.some (Bool.false, ())) else Option.some (Bool.false, ())))

noncomputable def law04_BasinSteps_m (n : Nat) (b : Bas) (v : List Int) (c : Cnd) : Option (Bool × Unit) :=
  (Option.bind (Go.Tw.ref04_Short_M b) fun (v0 : Bool × Unit) => (bif !v0.fst then (Option.bind (Go.Tw.law04_awake_M) fun (v6 : Bool × Unit) => Option.some (v6.fst, ())) else (bif Decidable.decide ((↑v.length : Int) > (9 : Int)) then (Option.bind (Go.Tw.law04_awake_M) fun (v7 : Bool × Unit) => Option.some (v7.fst, ())) else (Option.bind (Go.Tw.ref04_ShortConditions_M [c]) fun (v1 : Bool × Unit) => (bif !v1.fst then (Option.bind (Go.Tw.law04_awake_M) fun (v8 : Bool × Unit) => Option.some (v8.fst, ())) else (Option.bind (Go.Tw.law04_given_M b) fun (v9 : Bas × Unit) => (Option.bind (Go.Tw.law04_ints_M v) fun (v10 : List Int × Unit) => (Option.bind (Go.Tw.law04_condition_M c) fun (v11 : Cnd × Unit) => (Option.bind (Go.Tw.basin_Flows_M v9.fst v10.fst v11.fst) fun (v12 : List Int × Int × Unit) => (Option.bind (Go.Tw.law04_given_M b) fun (v13 : Bas × Unit) => (Option.bind (Go.Tw.law04_ints_M v) fun (v14 : List Int × Unit) => (Option.bind (Go.Tw.law04_condition_M c) fun (v15 : Cnd × Unit) => (Option.bind (Go.Tw.basin_Step_M v13.fst v14.fst v15.fst) fun (v16 : List Int × Int × Unit) => (Option.bind (Go.Tw.ref04_CheckRun_M b v [c]) fun (v17 : Int × Unit) => (bif v17.fst == (0 : Int) then (Option.bind (Go.Tw.ref04_Moved_M b v c) fun (v18 : List Int × List Int × Int × Unit) => (law04_BasinSteps_m_j34 n v12 v16 (v18.snd.snd.fst) (v18.fst) (v18.snd.fst))) else (law04_BasinSteps_m_j34 n v12 v16 (v17.fst) ([]) ([])))))))))))))))))

theorem law04_BasinSteps_eq (n : Nat) (x : law04_BasinSteps_a.den) : runF law04_BasinSteps_g (law04_BasinSteps_an n) Tryz.f6 law04_BasinSteps_a law04_BasinSteps_r x = law04_BasinSteps_m n x.1 x.2.1 x.2.2.1 := by kernel_rfl

noncomputable def law04_BasinSteps_M (b : Bas) (v : List Int) (c : Cnd) : Option (Bool × Unit) := law04_BasinSteps_m 0 b v c

theorem law04_BasinSteps_run (b : Bas) (v : List Int) (c : Cnd) (y : Bool × Unit) (h : law04_BasinSteps_M b v c = some y) : ∃ n, law04_BasinSteps_m n b v c = some y := ⟨0, h⟩
noncomputable def law04_BasinSteps_e : Entry := { f := 6, args := law04_BasinSteps_a, ress := law04_BasinSteps_r, m := fun x => law04_BasinSteps_M x.1 x.2.1 x.2.2.1 }
theorem law04_BasinSteps_ok : FnOK Tryz.prog law04_BasinSteps_e := fn_ok (g := law04_BasinSteps_g) (fn := Tryz.f6) hmixed tabOk (eCons ref04_Short_ok (eCons ref04_ShortConditions_ok (eCons law04_awake_ok (eCons law04_given_ok (eCons law04_ints_ok (eCons law04_condition_ok (eCons basin_Flows_ok (eCons basin_Step_ok (eCons ref04_CheckRun_ok (eCons ref04_Moved_ok (eCons ref01_SameInts_ok eNil))))))))))) (by kernel_rfl) (by kernel_rfl) (by kernel_rfl) (fun x y h => let ⟨n, hn⟩ := law04_BasinSteps_run x.1 x.2.1 x.2.2.1 y h; ⟨law04_BasinSteps_an n, iNil, (law04_BasinSteps_eq n x).trans hn⟩)

/-! ### tidewaylaw04.BasinMonotone -/
abbrev law04_BasinMonotone_a : Ty := .pair t25 (.pair t33 (.pair t51 .unit))
abbrev law04_BasinMonotone_r : Ty := .pair t4 .unit
noncomputable def law04_BasinMonotone_g : G := { T := T, E := [ref04_Short_e, ref04_CheckBasin_e, law04_awake_e, ref04_CheckRun_e, law04_ints_e, law04_conditions_e, law04_given_e, basin_Run_e, ref04_OnlyVolumes_e, law04_condition_e, basin_Until_e], muts := [], fz := [] }
def law04_BasinMonotone_k : List (List Nat) := [[1, 3, 5, 7, 48, 49, 152, 153, 156, 157, 158, 159, 160, 161, 164, 165, 166, 167, 168, 169, 180, 181, 182, 183, 184, 199, 200, 201, 202, 203, 204, 205, 279, 280, 283, 284, 285, 286, 287, 288, 289, 292], [1, 3, 5, 7, 9, 10, 11, 90, 91, 152, 153, 156, 157, 158, 159, 160, 161, 164, 165, 166, 167, 168, 169, 180, 181, 182, 183, 184, 199, 200, 201, 202, 203, 204, 205, 279, 280, 283, 284, 285, 286, 287, 288, 289, 292], [1, 3, 7, 9, 10, 11, 13, 15, 187, 188, 199, 200, 201, 202, 203, 204, 205, 279, 280, 283, 284, 285, 286, 287, 288, 289, 292], [1, 3, 7, 9, 10, 11, 13, 15, 17, 187, 188, 199, 200, 201, 202, 203, 204, 205, 211, 212, 279, 280, 283, 284, 285, 286, 287, 288, 289, 292]]
noncomputable def law04_BasinMonotone_an (n : Nat) : Ann := { keep := law04_BasinMonotone_k, fuel := n, inl := [], deep := 0 }
noncomputable def law04_BasinMonotone_m_l12 (n : Nat) (r12 : List Cnd → Bas → Int × Int × Int × Int × Unit → Int → Int → List Int → Option (Bool × Unit)) (l1_12 : List Cnd) (b3_12 : Bas) (x5_12 : Int × Int × Int × Int × Unit) (t48_12 : Int) (t49_12 : Int) (c0_12 : List Int) : Option (Bool × Unit) :=
  (bif Decidable.decide (t49_12 < t48_12) then (Option.bind (Go.Vx.idx c0_12 t49_12) fun (v13 : Int) => (Option.bind (c0_12[t49_12.toNat]?) fun (v14 : Int) => r12 l1_12 b3_12 x5_12 t48_12 (Go.IntKind.i64.wrap (t49_12 + (1 : Int))) (c0_12.set t49_12.toNat (Go.IntKind.i64.wrap (Go.IntKind.i64.wrap ((7 : Int) * Go.IntKind.i64.wrap (t49_12 + (1 : Int))) * Go.IntKind.i64.wrap x5_12.snd.snd.snd.fst))))) else (Option.bind (Go.Tw.ref04_CheckRun_M b3_12 c0_12 l1_12) fun (v15 : Int × Unit) => (bif v15.fst != (0 : Int) then (Option.bind (Go.Tw.law04_awake_M) fun (v16 : Bool × Unit) => Option.some (v16.fst, ())) else (bif (↑b3_12.fst.length : Int) == (0 : Int) then none else (Option.bind (Go.Tw.law04_ints_M c0_12) fun (v17 : List Int × Unit) => (Option.bind (Go.Vx.idx v17.fst ((Go.IntKind.i64.wrap x5_12.fst).tmod (↑b3_12.fst.length : Int))) fun (v18 : Int) => (Option.bind (Go.Vx.idx v17.fst ((Go.IntKind.i64.wrap x5_12.fst).tmod (↑b3_12.fst.length : Int))) fun (v19 : Int) => none)))))))

noncomputable def law04_BasinMonotone_m_w12 (n : Nat)  (k : Nat) (l1_12 : List Cnd) (b3_12 : Bas) (x5_12 : Int × Int × Int × Int × Unit) (t48_12 : Int) (t49_12 : Int) (c0_12 : List Int) : Option (Bool × Unit) :=
  iter (fun r y => law04_BasinMonotone_m_l12 n (fun l1_12 b3_12 x5_12 t48_12 t49_12 c0_12 => r ((l1_12, (b3_12, (x5_12, (t48_12, (t49_12, ()))))), ((c0_12, ()), ()))) y.1.1 y.1.2.1 y.1.2.2.1 y.1.2.2.2.1 y.1.2.2.2.2.1 y.2.1.1) k ((l1_12, (b3_12, (x5_12, (t48_12, (t49_12, ()))))), ((c0_12, ()), ()))

noncomputable def law04_BasinMonotone_m (n : Nat) (b : Bas) (l : List Cnd) (x1 : Int × Int × Int × Int × Unit) : Option (Bool × Unit) :=
  (Option.bind (Go.Tw.ref04_Short_M b) fun (v0 : Bool × Unit) => (bif !v0.fst then (Option.bind (Go.Tw.law04_awake_M) fun (v8 : Bool × Unit) => Option.some (v8.fst, ())) else (Option.bind (Go.Tw.ref04_CheckBasin_M b) fun (v1 : Int × Unit) => (bif v1.fst != (0 : Int) then (Option.bind (Go.Tw.law04_awake_M) fun (v9 : Bool × Unit) => Option.some (v9.fst, ())) else (bif Decidable.decide ((↑l.length : Int) > (12 : Int)) then (Option.bind (Go.Tw.law04_awake_M) fun (v10 : Bool × Unit) => Option.some (v10.fst, ())) else (bif (↑l.length : Int) == (0 : Int) then (Option.bind (Go.Tw.law04_awake_M) fun (v11 : Bool × Unit) => Option.some (v11.fst, ())) else (bif Bool.true && Decidable.decide ((0 : Int) ≤ (↑b.fst.length : Int)) && Decidable.decide ((↑b.fst.length : Int) ≤ (↑Go.Vx.memMax : Int)) && (↑b.fst.length : Int) == (↑b.fst.length : Int) then (law04_BasinMonotone_m_w12 n n (l) (b) (x1) ((↑(List.replicate (↑b.fst.length : Int).toNat (0 : Int)).length : Int)) ((0 : Int)) (List.replicate (↑b.fst.length : Int).toNat (0 : Int))) else none)))))))

theorem law04_BasinMonotone_eq (n : Nat) (x : law04_BasinMonotone_a.den) : runF law04_BasinMonotone_g (law04_BasinMonotone_an n) Tryz.f4 law04_BasinMonotone_a law04_BasinMonotone_r x = law04_BasinMonotone_m n x.1 x.2.1 x.2.2.1 := by kernel_rfl

noncomputable def law04_BasinMonotone_b12 (l1_12 : List Cnd) (b3_12 : Bas) (x5_12 : Int × Int × Int × Int × Unit) (t48_12 : Int) (t49_12 : Int) (c0_12 : List Int) : Option ((Bool × Unit) ⊕ (List Int)) :=
  (Option.bind (Go.Vx.idx c0_12 t49_12) fun (v13 : Int) => (Option.bind (c0_12[t49_12.toNat]?) fun (v14 : Int) => (some (Sum.inr (c0_12.set t49_12.toNat (Go.IntKind.i64.wrap (Go.IntKind.i64.wrap ((7 : Int) * Go.IntKind.i64.wrap (t49_12 + (1 : Int))) * Go.IntKind.i64.wrap x5_12.snd.snd.snd.fst)))))))

noncomputable def law04_BasinMonotone_f12 (l1_12 : List Cnd) (b3_12 : Bas) (x5_12 : Int × Int × Int × Int × Unit) (t48_12 : Int) (c0_12 : List Int) : Option (Bool × Unit) :=
  (Option.bind (Go.Tw.ref04_CheckRun_M b3_12 c0_12 l1_12) fun (v15 : Int × Unit) => (bif v15.fst != (0 : Int) then (Option.bind (Go.Tw.law04_awake_M) fun (v16 : Bool × Unit) => (some ((v16.fst, ())))) else (bif (↑b3_12.fst.length : Int) == (0 : Int) then none else (Option.bind (Go.Tw.law04_ints_M c0_12) fun (v17 : List Int × Unit) => (Option.bind (Go.Vx.idx v17.fst ((Go.IntKind.i64.wrap x5_12.fst).tmod (↑b3_12.fst.length : Int))) fun (v18 : Int) => (Option.bind (Go.Vx.idx v17.fst ((Go.IntKind.i64.wrap x5_12.fst).tmod (↑b3_12.fst.length : Int))) fun (v19 : Int) => none))))))

theorem law04_BasinMonotone_m_w12_le (n : Nat) (hn : big ≤ n)  (l1_12 : List Cnd) (b3_12 : Bas) (x5_12 : Int × Int × Int × Int × Unit) (t48_12 : Int) (c0_12 : List Int) (hx : (t48_12) ≤ (9223372036854775807 : Int)) : LeF some (loopN (fun i__ s__ => law04_BasinMonotone_b12 l1_12 b3_12 x5_12 t48_12 i__ s__) (fun s__ => law04_BasinMonotone_f12 l1_12 b3_12 x5_12 t48_12 s__) ((t48_12) - 0).toNat 0 c0_12) (law04_BasinMonotone_m_w12 n n l1_12 b3_12 x5_12 t48_12 0 c0_12) := by
  refine loopN_le (f := some) (W := fun k__ i__ s__ => law04_BasinMonotone_m_w12 n k__ l1_12 b3_12 x5_12 t48_12 i__ s__) (body := (fun i__ s__ => law04_BasinMonotone_b12 l1_12 b3_12 x5_12 t48_12 i__ s__)) (fin := (fun s__ => law04_BasinMonotone_f12 l1_12 b3_12 x5_12 t48_12 s__)) (fun k__ i__ s__ => ?_) hx c0_12 n 0 (by decide) (by unfold big at hn; omega)
  show LeF _ _ (law04_BasinMonotone_m_l12 n (law04_BasinMonotone_m_w12 n k__) l1_12 b3_12 x5_12 t48_12 i__ s__)
  exact leCond (leBind fun v13 => (leBind fun v14 => (leSome rfl))) (leMap (leBind fun v15 => (leCond (leBind fun v16 => (leSome rfl)) (leCond leNone (leBind fun v17 => (leBind fun v18 => (leBind fun v19 => leNone)))))))

noncomputable def law04_BasinMonotone_M (b : Bas) (l : List Cnd) (x1 : Int × Int × Int × Int × Unit) : Option (Bool × Unit) :=
  (Option.bind (Go.Tw.ref04_Short_M b) fun (v0 : Bool × Unit) => (bif !v0.fst then (Option.bind (Go.Tw.law04_awake_M) fun (v8 : Bool × Unit) => (some ((v8.fst, ())))) else (Option.bind (Go.Tw.ref04_CheckBasin_M b) fun (v1 : Int × Unit) => (bif v1.fst != (0 : Int) then (Option.bind (Go.Tw.law04_awake_M) fun (v9 : Bool × Unit) => (some ((v9.fst, ())))) else (bif Decidable.decide ((↑l.length : Int) > (12 : Int)) then (Option.bind (Go.Tw.law04_awake_M) fun (v10 : Bool × Unit) => (some ((v10.fst, ())))) else (bif (↑l.length : Int) == (0 : Int) then (Option.bind (Go.Tw.law04_awake_M) fun (v11 : Bool × Unit) => (some ((v11.fst, ())))) else (bif Bool.true && Decidable.decide ((0 : Int) ≤ (↑b.fst.length : Int)) && Decidable.decide ((↑b.fst.length : Int) ≤ (↑Go.Vx.memMax : Int)) && (↑b.fst.length : Int) == (↑b.fst.length : Int) then (bif decide (((↑(List.replicate (↑b.fst.length : Int).toNat (0 : Int)).length : Int)) ≤ (9223372036854775807 : Int)) then loopN (fun i__ s__ => law04_BasinMonotone_b12 (l) (b) (x1) ((↑(List.replicate (↑b.fst.length : Int).toNat (0 : Int)).length : Int)) i__ s__) (fun s__ => law04_BasinMonotone_f12 (l) (b) (x1) ((↑(List.replicate (↑b.fst.length : Int).toNat (0 : Int)).length : Int)) s__) (((↑(List.replicate (↑b.fst.length : Int).toNat (0 : Int)).length : Int)) - 0).toNat 0 (List.replicate (↑b.fst.length : Int).toNat (0 : Int)) else none) else none)))))))

theorem law04_BasinMonotone_run (b : Bas) (l : List Cnd) (x1 : Int × Int × Int × Int × Unit) (y : Bool × Unit) (h : law04_BasinMonotone_M b l x1 = some y) : ∃ n, law04_BasinMonotone_m n b l x1 = some y :=
  ⟨big, LeF.top (show LeF some (law04_BasinMonotone_M b l x1) (law04_BasinMonotone_m big b l x1) from (fun (n : Nat) (hn : big ≤ n) => show LeF some (law04_BasinMonotone_M b l x1) (law04_BasinMonotone_m n b l x1) from (leBind fun v0 => (leCond (leBind fun v8 => (leSome rfl)) (leBind fun v1 => (leCond (leBind fun v9 => (leSome rfl)) (leCond (leBind fun v10 => (leSome rfl)) (leCond (leBind fun v11 => (leSome rfl)) (leCond (leGuard fun hx => by apply law04_BasinMonotone_m_w12_le n hn; exact hx) leNone)))))))) big (Nat.le_refl _)) h⟩
noncomputable def law04_BasinMonotone_e : Entry := { f := 4, args := law04_BasinMonotone_a, ress := law04_BasinMonotone_r, m := fun x => law04_BasinMonotone_M x.1 x.2.1 x.2.2.1 }
theorem law04_BasinMonotone_ok : FnOK Tryz.prog law04_BasinMonotone_e := fn_ok (g := law04_BasinMonotone_g) (fn := Tryz.f4) hmixed tabOk (eCons ref04_Short_ok (eCons ref04_CheckBasin_ok (eCons law04_awake_ok (eCons ref04_CheckRun_ok (eCons law04_ints_ok (eCons law04_conditions_ok (eCons law04_given_ok (eCons basin_Run_ok (eCons ref04_OnlyVolumes_ok (eCons law04_condition_ok (eCons basin_Until_ok eNil))))))))))) (by kernel_rfl) (by kernel_rfl) (by kernel_rfl) (fun x y h => let ⟨n, hn⟩ := law04_BasinMonotone_run x.1 x.2.1 x.2.2.1 y h; ⟨law04_BasinMonotone_an n, iNil, (law04_BasinMonotone_eq n x).trans hn⟩)

end Go.Tw
end

section
set_option linter.all false
set_option maxRecDepth 1000000
namespace Go.Tw
open Go.Vx Go.Vx.B Go.Proofs
/-! ### tidewaylaw04.BasinRuns -/
abbrev law04_BasinRuns_a : Ty := .pair t25 (.pair t26 (.pair t33 .unit))
abbrev law04_BasinRuns_r : Ty := .pair t4 .unit
noncomputable def law04_BasinRuns_g : G := { T := T, E := [ref04_Short_e, ref04_ShortConditions_e, law04_awake_e, law04_given_e, law04_ints_e, law04_conditions_e, basin_Run_e, basin_Account_e, basin_First_e, ref04_CheckRun_e, ref04_Run_e, ref04_Account_e, ref04_First_e, ref04_SameRows_e], muts := [], fz := [] }
def law04_BasinRuns_k : List (List Nat) := []
noncomputable def law04_BasinRuns_an (n : Nat) : Ann := { keep := law04_BasinRuns_k, fuel := n, inl := [], deep := 0 }
noncomputable def law04_BasinRuns_m_j51 (n : Nat) (v12 : List (List Int) × Int × Unit) (v16 : (Int × Int × Int × Unit) × Int × Unit) (v20 : Int × Int × Int × Unit) (j25 : Int) (j26 : Int) (j27 : Int) (j28 : Int) (j29 : Int) (j30 : Int) (j31 : List (List Int)) (j32 : Int) (j33 : Int) : Option (Bool × Unit) :=
  (Option.bind (Go.Tw.ref04_SameRows_M v12.fst j31) fun (v34 : Bool × Unit) => (bif v34.fst then (bif v12.snd.fst == j28 then (bif Go.Vx.eqV ((Go.Vx.Ty.int Go.IntKind.i64).pair ((Go.Vx.Ty.int Go.IntKind.i64).pair ((Go.Vx.Ty.int Go.IntKind.i64).pair Go.Vx.Ty.unit))) (v16.fst.fst, v16.fst.snd.fst, v16.fst.snd.snd.fst, ()) (j25, j26, j27, ()) then (bif v16.snd.fst == j29 then (bif v20.fst == j32 then (bif v20.snd.fst == j33 then (bif v20.snd.snd.fst == j30 then (Option.bind (Go.Tw.law04_awake_M) fun (v35 : Bool × Unit) => Option.some (v35.fst, ())) else Option.some (Bool.false, ())) else Option.some (Bool.false, ())) else Option.some (Bool.false, ())) else Option.some (Bool.false, ())) else Option.some (Bool.false, ())) else Option.some (Bool.false, ())) else Option.some (Bool.false, ())))

noncomputable def law04_BasinRuns_m (n : Nat) (b : Bas) (v : List Int) (l : List Cnd) : Option (Bool × Unit) :=
  (Option.bind (Go.Tw.ref04_Short_M b) fun (v0 : Bool × Unit) => (bif !v0.fst then (Option.bind (Go.Tw.law04_awake_M) fun (v6 : Bool × Unit) => Option.some (v6.fst, ())) else (bif Decidable.decide ((↑v.length : Int) > (9 : Int)) then (Option.bind (Go.Tw.law04_awake_M) fun (v7 : Bool × Unit) => Option.some (v7.fst, ())) else (Option.bind (Go.Tw.ref04_ShortConditions_M l) fun (v1 : Bool × Unit) => (bif !v1.fst then (Option.bind (Go.Tw.law04_awake_M) fun (v8 : Bool × Unit) => Option.some (v8.fst, ())) else (Option.bind (Go.Tw.law04_given_M b) fun (v9 : Go.Tw.Bas × Unit) => (Option.bind (Go.Tw.law04_ints_M v) fun (v10 : List Int × Unit) => (Option.bind (Go.Tw.law04_conditions_M l) fun (v11 : List Go.Tw.Cnd × Unit) => (Option.bind (Go.Tw.basin_Run_M v9.fst v10.fst v11.fst) fun (v12 : List (List Int) × Int × Unit) => (Option.bind (Go.Tw.law04_given_M b) fun (v13 : Go.Tw.Bas × Unit) => (Option.bind (Go.Tw.law04_ints_M v) fun (v14 : List Int × Unit) => (Option.bind (Go.Tw.law04_conditions_M l) fun (v15 : List Go.Tw.Cnd × Unit) => (Option.bind (Go.Tw.basin_Account_M v13.fst v14.fst v15.fst) fun (v16 : (Int × Int × Int × Unit) × Int × Unit) => (Option.bind (Go.Tw.law04_given_M b) fun (v17 : Go.Tw.Bas × Unit) => (Option.bind (Go.Tw.law04_ints_M v) fun (v18 : List Int × Unit) => (Option.bind (Go.Tw.law04_conditions_M l) fun (v19 : List Go.Tw.Cnd × Unit) => (Option.bind (Go.Tw.basin_First_M v17.fst v18.fst v19.fst) fun (v20 : Int × Int × Int × Unit) => (Option.bind (Go.Tw.ref04_CheckRun_M b v l) fun (v21 : Int × Unit) => (bif v21.fst == (0 : Int) then (Option.bind (Go.Tw.ref04_Run_M b v l) fun (v22 : List (List Int) × Int × Unit) => (Option.bind (Go.Tw.ref04_Account_M b v l) fun (v23 : (Int × Int × Int × Unit) × Int × Unit) => (Option.bind (Go.Tw.ref04_First_M b v l) fun (v24 : Int × Int × Int × Unit) => (law04_BasinRuns_m_j51 n v12 v16 v20 (v23.fst.fst) (v23.fst.snd.fst) (v23.fst.snd.snd.fst) (v22.snd.fst) (v23.snd.fst) (v24.snd.snd.fst) (v22.fst) (v24.fst) (v24.snd.fst))))) else (law04_BasinRuns_m_j51 n v12 v16 v20 ((0 : Int)) ((0 : Int)) ((0 : Int)) (v21.fst) (v21.fst) (v21.fst) ([]) ((0 : Int)) ((0 : Int))))))))))))))))))))))

theorem law04_BasinRuns_eq (n : Nat) (x : law04_BasinRuns_a.den) : runF law04_BasinRuns_g (law04_BasinRuns_an n) Tryz.f8 law04_BasinRuns_a law04_BasinRuns_r x = law04_BasinRuns_m n x.1 x.2.1 x.2.2.1 := by kernel_rfl

noncomputable def law04_BasinRuns_M (b : Bas) (v : List Int) (l : List Cnd) : Option (Bool × Unit) := law04_BasinRuns_m 0 b v l

theorem law04_BasinRuns_run (b : Bas) (v : List Int) (l : List Cnd) (y : Bool × Unit) (h : law04_BasinRuns_M b v l = some y) : ∃ n, law04_BasinRuns_m n b v l = some y := ⟨0, h⟩
noncomputable def law04_BasinRuns_e : Entry := { f := 8, args := law04_BasinRuns_a, ress := law04_BasinRuns_r, m := fun x => law04_BasinRuns_M x.1 x.2.1 x.2.2.1 }
theorem law04_BasinRuns_ok : FnOK Tryz.prog law04_BasinRuns_e := fn_ok (g := law04_BasinRuns_g) (fn := Tryz.f8) hmixed tabOk (eCons ref04_Short_ok (eCons ref04_ShortConditions_ok (eCons law04_awake_ok (eCons law04_given_ok (eCons law04_ints_ok (eCons law04_conditions_ok (eCons basin_Run_ok (eCons basin_Account_ok (eCons basin_First_ok (eCons ref04_CheckRun_ok (eCons ref04_Run_ok (eCons ref04_Account_ok (eCons ref04_First_ok (eCons ref04_SameRows_ok eNil)))))))))))))) (by kernel_rfl) (by kernel_rfl) (by kernel_rfl) (fun x y h => let ⟨n, hn⟩ := law04_BasinRuns_run x.1 x.2.1 x.2.2.1 y h; ⟨law04_BasinRuns_an n, iNil, (law04_BasinRuns_eq n x).trans hn⟩)

end Go.Tw
end
