/- Models of the program's functions, by program (gen.py), and what they compute.
Models of the program's functions, by program (gen.py), and what they compute.
Models of the program's functions, by program (gen.py), and what they compute.
Models of the program's functions, by program (gen.py), and what they compute. -/
import Derived.Test.YtkfigfhjbejikaaGreatDoorBT
import Derived.Test.YtkfigfhjbejikaaGreatDoorBA
import Derived.Test.YtkfigfhjbejikaaGreatDoorBC
import Derived.Test.YtkfigfhjbejikaaGreatDoorBD
import Derived.Test.YtkfigfhjbejikaaGreatDoorBS
section
set_option linter.all false
set_option maxRecDepth 1000000
namespace Go.Tw
open Go.Vx Go.Vx.B Go.Proofs
noncomputable section
def il125 : Inl := { f := 125, fn := Tryz.f125, keep := [], muts := [], fz := [] }
theorem il125_ok : InlOK Tryz.prog il125 := ⟨by kernel_rfl, by kernel_rfl, fun e0 h => by cases (show (none : Option Nat) = some e0 from h)⟩
def il130 : Inl := { f := 130, fn := Tryz.f130, keep := [], muts := [], fz := [] }
theorem il130_ok : InlOK Tryz.prog il130 := ⟨by kernel_rfl, by kernel_rfl, fun e0 h => by cases (show (none : Option Nat) = some e0 from h)⟩
def il126 : Inl := { f := 126, fn := Tryz.f126, keep := [], muts := [], fz := [] }
theorem il126_ok : InlOK Tryz.prog il126 := ⟨by kernel_rfl, by kernel_rfl, fun e0 h => by cases (show (none : Option Nat) = some e0 from h)⟩
def il169 : Inl := { f := 169, fn := Tryz.f169, lib := some 201 }
theorem il169_ok : InlOK Tryz.prog il169 := ⟨by kernel_rfl, by kernel_rfl, fun e0 h => (Option.some.inj (show some 201 = some e0 from h)) ▸ copy201⟩
abbrev z0T_a : Ty := .pair t41 .unit
abbrev z0T_r : Ty := .pair t9 (.pair t35 .unit)
def z0T_g : G := { T := T, E := [zj_e, zM_e, z0O_e, z0P_e], muts := [5, 27, 45], fz := [] }
def z0T_k : List (List Nat) := [[1, 5, 6, 18, 19, 20], [5, 6, 36, 37, 38]]
def z0T_an (n : Nat) : Ann := { keep := z0T_k, fuel := n, inl := [il125, il130, il126, il169], deep := 8 }
def z0T_m_l5 (n : Nat) (r5 : List Lnk → Int → Int → List Int → Option (List UInt8 × Int × Unit)) (t36_5 : List Lnk) (t37_5 : Int) (t38_5 : Int) (c1_5 : List Int) : Option (List UInt8 × Int × Unit) :=
  (bif decide (t38_5 < t37_5) then (Option.bind (idx t36_5 t38_5) fun (v6 : Lnk) => (Option.bind (zM_M [v6.2.1, v6.2.2.1, v6.2.2.2.1, v6.2.2.2.2.1] fun (x : Int × Unit) => itoaM x.1) fun (v7 : List (List UInt8) × Unit) => (bif decide ((1 : Nat) + v7.1.length ≤ memMax) then (Option.bind (joinM ([v6.1] ++ v7.1) [(32 : UInt8)]) fun (v8 : List UInt8 × Unit) => (bif decide (v8.1.length + (1 : Nat) < strMax) then (bif decide (c1_5.length + (v8.1 ++ [(10 : UInt8)]).length ≤ memMax) then r5 t36_5 t37_5 (IntKind.i64.wrap (t38_5 + (1 : Int))) (c1_5 ++ strInts (v8.1 ++ [(10 : UInt8)])) else none) else none)) else none))) else (bif decide ((0 : Nat) < c1_5.length) then (bif (↑c1_5.length : Int) == (↑c1_5.length : Int) && decide ((0 : Nat) < c1_5.length) && isBytes c1_5 then some (bytesOf c1_5, (0 : Int), ()) else none) else none))
def z0T_m_w5 (n : Nat)  (k : Nat) (t36_5 : List Lnk) (t37_5 : Int) (t38_5 : Int) (c1_5 : List Int) : Option (List UInt8 × Int × Unit) :=
  iter (fun r y => z0T_m_l5 n (fun t36_5 t37_5 t38_5 c1_5 => r (((), (t36_5, (t37_5, (t38_5, ())))), (((), (c1_5, ())), ()))) y.1.2.1 y.1.2.2.1 y.1.2.2.2.1 y.2.1.2.1) k (((), (t36_5, (t37_5, (t38_5, ())))), (((), (c1_5, ())), ()))
def z0T_m_l1 (n : Nat) (r1 : Bas → List Nod → Int → Int → List Int → Option (List UInt8 × Int × Unit)) (b1_1 : Bas) (t18_1 : List Nod) (t19_1 : Int) (t20_1 : Int) (c1_1 : List Int) : Option (List UInt8 × Int × Unit) :=
  (bif decide (t20_1 < t19_1) then (Option.bind (idx t18_1 t20_1) fun (v2 : Nod) => (Option.bind (zM_M [v2.2.1, v2.2.2.1] fun (x : Int × Unit) => itoaM x.1) fun (v3 : List (List UInt8) × Unit) => (bif decide ((2 : Nat) + v3.1.length ≤ memMax) then (Option.bind (joinM ([[(110 : UInt8), (111 : UInt8), (100 : UInt8), (101 : UInt8)], v2.1] ++ v3.1) [(32 : UInt8)]) fun (v4 : List UInt8 × Unit) => (bif decide (v4.1.length + (1 : Nat) < strMax) then (bif decide (c1_1.length + (v4.1 ++ [(10 : UInt8)]).length ≤ memMax) then r1 b1_1 t18_1 t19_1 (IntKind.i64.wrap (t20_1 + (1 : Int))) (c1_1 ++ strInts (v4.1 ++ [(10 : UInt8)])) else none) else none)) else none))) else (z0T_m_w5 n n (b1_1.2.1) ((↑b1_1.2.1.length : Int)) ((0 : Int)) (c1_1)))
def z0T_m_w1 (n : Nat)  (k : Nat) (b1_1 : Bas) (t18_1 : List Nod) (t19_1 : Int) (t20_1 : Int) (c1_1 : List Int) : Option (List UInt8 × Int × Unit) :=
  iter (fun r y => z0T_m_l1 n (fun b1_1 t18_1 t19_1 t20_1 c1_1 => r ((b1_1, ((), (t18_1, (t19_1, (t20_1, ()))))), (((), (c1_1, ())), ()))) y.1.1 y.1.2.2.1 y.1.2.2.2.1 y.1.2.2.2.2.1 y.2.1.2.1) k ((b1_1, ((), (t18_1, (t19_1, (t20_1, ()))))), (((), (c1_1, ())), ()))
def z0T_m (n : Nat) (b : Bas) : Option (List UInt8 × Int × Unit) :=
  (Option.bind (zj_M b) fun (v0 : Int × Unit) => (bif v0.1 != (0 : Int) then some ([], v0.1, ()) else (z0T_m_w1 n n (b) (b.1) ((↑b.1.length : Int)) ((0 : Int)) ([]))))
theorem z0T_eq (n : Nat) (x : z0T_a.den) : runF z0T_g (z0T_an n) Tryz.f78 z0T_a z0T_r x = z0T_m n x.1 := by kernel_rfl
def z0T_b5 (t36_5 : List Lnk) (t38_5 : Int) (v6 : Lnk) (c1_5 : List Int) : Option ((List UInt8 × Int × Unit) ⊕ (List Int)) :=
  (Option.bind (zM_M [v6.2.1, v6.2.2.1, v6.2.2.2.1, v6.2.2.2.2.1] fun (x : Int × Unit) => itoaM x.1) fun (v7 : List (List UInt8) × Unit) => (bif decide ((1 : Nat) + v7.1.length ≤ memMax) then (Option.bind (joinM ([v6.1] ++ v7.1) [(32 : UInt8)]) fun (v8 : List UInt8 × Unit) => (bif decide (v8.1.length + (1 : Nat) < strMax) then (bif decide (c1_5.length + (v8.1 ++ [(10 : UInt8)]).length ≤ memMax) then (some (Sum.inr (c1_5 ++ strInts (v8.1 ++ [(10 : UInt8)])))) else none) else none)) else none))
def z0T_f5 (t36_5 : List Lnk) (c1_5 : List Int) : Option (List UInt8 × Int × Unit) :=
  (bif decide ((0 : Nat) < c1_5.length) then (bif (↑c1_5.length : Int) == (↑c1_5.length : Int) && decide ((0 : Nat) < c1_5.length) && isBytes c1_5 then (some ((bytesOf c1_5, (0 : Int), ()))) else none) else none)
theorem z0T_m_w5_le (n : Nat) (hn : big ≤ n)  (t36_5 : List Lnk) (c1_5 : List Int) (hx : List.length (t36_5) < lenMax) : LeF some (loopL (fun i__ e__ s__ => z0T_b5 t36_5 i__ e__ s__) (fun s__ => z0T_f5 t36_5 s__) 0 (t36_5) c1_5) (z0T_m_w5 n n t36_5 (List.length (t36_5) : Int) 0 c1_5) := by
  refine loopL_le (f := some) (W := fun k__ i__ s__ => z0T_m_w5 n k__ t36_5 (List.length (t36_5) : Int) i__ s__) (body := (fun i__ e__ s__ => z0T_b5 t36_5 i__ e__ s__)) (fin := (fun s__ => z0T_f5 t36_5 s__)) (fun k__ i__ s__ => ?_) hx c1_5 n (by unfold big at hn; unfold lenMax at hx; omega)
  show LeF _ _ (z0T_m_l5 n (z0T_m_w5 n k__) t36_5 (List.length (t36_5) : Int) i__ s__)
  exact leCond (leBind fun v6 => (leBind fun v7 => (leCond (leBind fun v8 => (leCond (leCond (leSome rfl) leNone) leNone)) leNone))) (leMap (leCond (leCond (leSome rfl) leNone) leNone))
def z0T_b1 (b1_1 : Bas) (t18_1 : List Nod) (t20_1 : Int) (v2 : Nod) (c1_1 : List Int) : Option ((List UInt8 × Int × Unit) ⊕ (List Int)) :=
  (Option.bind (zM_M [v2.2.1, v2.2.2.1] fun (x : Int × Unit) => itoaM x.1) fun (v3 : List (List UInt8) × Unit) => (bif decide ((2 : Nat) + v3.1.length ≤ memMax) then (Option.bind (joinM ([[(110 : UInt8), (111 : UInt8), (100 : UInt8), (101 : UInt8)], v2.1] ++ v3.1) [(32 : UInt8)]) fun (v4 : List UInt8 × Unit) => (bif decide (v4.1.length + (1 : Nat) < strMax) then (bif decide (c1_1.length + (v4.1 ++ [(10 : UInt8)]).length ≤ memMax) then (some (Sum.inr (c1_1 ++ strInts (v4.1 ++ [(10 : UInt8)])))) else none) else none)) else none))
def z0T_f1 (b1_1 : Bas) (t18_1 : List Nod) (c1_1 : List Int) : Option (List UInt8 × Int × Unit) :=
  (bif decide (List.length (b1_1.2.1) < lenMax) then loopL (fun i__ e__ s__ => z0T_b5 (b1_1.2.1) i__ e__ s__) (fun s__ => z0T_f5 (b1_1.2.1) s__) 0 (b1_1.2.1) (c1_1) else none)
theorem z0T_m_w1_le (n : Nat) (hn : big ≤ n)  (b1_1 : Bas) (t18_1 : List Nod) (c1_1 : List Int) (hx : List.length (t18_1) < lenMax) : LeF some (loopL (fun i__ e__ s__ => z0T_b1 b1_1 t18_1 i__ e__ s__) (fun s__ => z0T_f1 b1_1 t18_1 s__) 0 (t18_1) c1_1) (z0T_m_w1 n n b1_1 t18_1 (List.length (t18_1) : Int) 0 c1_1) := by
  refine loopL_le (f := some) (W := fun k__ i__ s__ => z0T_m_w1 n k__ b1_1 t18_1 (List.length (t18_1) : Int) i__ s__) (body := (fun i__ e__ s__ => z0T_b1 b1_1 t18_1 i__ e__ s__)) (fin := (fun s__ => z0T_f1 b1_1 t18_1 s__)) (fun k__ i__ s__ => ?_) hx c1_1 n (by unfold big at hn; unfold lenMax at hx; omega)
  show LeF _ _ (z0T_m_l1 n (z0T_m_w1 n k__) b1_1 t18_1 (List.length (t18_1) : Int) i__ s__)
  exact leCond (leBind fun v2 => (leBind fun v3 => (leCond (leBind fun v4 => (leCond (leCond (leSome rfl) leNone) leNone)) leNone))) (leMap (leGuard fun hx => by apply z0T_m_w5_le n hn; exact hx))
def z0T_M (b : Bas) : Option (List UInt8 × Int × Unit) :=
  (Option.bind (zj_M b) fun (v0 : Int × Unit) => (bif v0.1 != (0 : Int) then (some (([], v0.1, ()))) else (bif decide (List.length (b.1) < lenMax) then loopL (fun i__ e__ s__ => z0T_b1 (b) (b.1) i__ e__ s__) (fun s__ => z0T_f1 (b) (b.1) s__) 0 (b.1) ([]) else none)))
theorem z0T_run (b : Bas) (y : List UInt8 × Int × Unit) (h : z0T_M b = some y) : ∃ n, z0T_m n b = some y :=
  ⟨big, LeF.top (show LeF some (z0T_M b) (z0T_m big b) from (fun (n : Nat) (hn : big ≤ n) => show LeF some (z0T_M b) (z0T_m n b) from (leBind fun v0 => (leCond (leSome rfl) (leGuard fun hx => by apply z0T_m_w1_le n hn; exact hx)))) big (Nat.le_refl _)) h⟩
def z0T_e : Entry := { f := 78, args := z0T_a, ress := z0T_r, m := fun x => z0T_M x.1 }
theorem z0T_ok : FnOK Tryz.prog z0T_e := fn_ok (g := z0T_g) (fn := Tryz.f78) hmixed tabOk (eCons zj_ok (eCons zM_ok (eCons z0O_ok (eCons z0P_ok eNil)))) (by kernel_rfl) (by kernel_rfl) (by kernel_rfl) (fun x y h => let ⟨n, hn⟩ := z0T_run x.1 y h; ⟨z0T_an n, (iCons il125_ok (iCons il130_ok (iCons il126_ok (iCons il169_ok iNil)))), (z0T_eq n x).trans hn⟩)
end
end Go.Tw
end
section
set_option linter.all false
set_option maxRecDepth 1000000
namespace Go.Tw
open Go.Vx Go.Vx.B Go.Proofs
noncomputable section
abbrev z0Z_a : Ty := .unit
abbrev z0Z_r : Ty := .pair t4 .unit
def z0Z_g : G := { T := T, E := [z0m_e, z0G_e, z0h_e, z0S_e, z0p_e, z04_e, z0U_e, z02_e, z03_e, z05_e, z0Q_e, z0T_e, zV_e], muts := [], fz := [] }
def z0Z_k : List (List Nat) := []
def z0Z_an (n : Nat) : Ann := { keep := z0Z_k, fuel := n, inl := [], deep := 0 }
def z0Z_m (n : Nat)  : Option (Bool × Unit) :=
  (Option.bind (z0G_M z0m.1 [(100 : Int), (30 : Int)]) fun (v0 : List Int × Int × Unit) => (Option.bind (z0h_M z0m.1 [(100 : Int), (30 : Int)]) fun (v1 : List Int × Int × Unit) => (Option.bind (z0S_M z0m.1 [(100 : Int), (30 : Int)] ((16 : Int), Bool.true, [(20 : Int), (5 : Int)], ())) fun (v2 : List Int × Int × Unit) => (Option.bind (z0p_M z0m.1 [(100 : Int), (30 : Int)] [((16 : Int), Bool.true, [(20 : Int), (5 : Int)], ()), ((8 : Int), Bool.false, [(0 : Int), (0 : Int)], ())]) fun (v3 : List (List Int) × Int × Unit) => (Option.bind (z04_M z0m.1 [(100 : Int), (30 : Int)] [((16 : Int), Bool.true, [(20 : Int), (5 : Int)], ()), ((8 : Int), Bool.false, [(0 : Int), (0 : Int)], ())]) fun (v4 : (Int × Int × Int × Unit) × Int × Unit) => (Option.bind (z0U_M z0m.1 [(100 : Int), (20 : Int)] ((16 : Int), Bool.false, [(50 : Int), (0 : Int)], ()) (0 : Int) (20 : Int)) fun (v5 : Int × Int × Unit) => (bif IntKind.i64.wrap (IntKind.i64.wrap (IntKind.i64.wrap (IntKind.i64.wrap (IntKind.i64.wrap (v0.2.1 + v1.2.1) + v2.2.1) + v3.2.1) + v4.2.1) + v5.2.1) != (0 : Int) then some (Bool.false, ()) else (Option.bind (z02_M v0.1 [(10 : Int), (6 : Int)]) fun (v6 : Bool × Unit) => (bif !v6.1 then some (Bool.false, ()) else (Option.bind (z02_M v1.1 [(109 : Int), (14 : Int)]) fun (v7 : Bool × Unit) => (bif !v7.1 then some (Bool.false, ()) else (Option.bind (z02_M v2.1 [(20 : Int), (10 : Int), (0 : Int)]) fun (v8 : Bool × Unit) => (bif !v8.1 then some (Bool.false, ()) else (Option.bind (z03_M v3.1 [[(150 : Int), (25 : Int)], [(147 : Int), (20 : Int)]]) fun (v9 : Bool × Unit) => (bif !v9.1 then some (Bool.false, ()) else (bif !eqV ((Ty.int IntKind.i64).pair ((Ty.int IntKind.i64).pair ((Ty.int IntKind.i64).pair Ty.unit))) (v4.1.1, v4.1.2.1, v4.1.2.2.1, ()) ((25 : Int), (20 : Int), (8 : Int), ()) then some (Bool.false, ()) else (bif v5.1 != (3 : Int) then some (Bool.false, ()) else (Option.bind (z05_M z0m.1 [((100 : Int), (110 : Int), ()), ((20 : Int), (20 : Int), ())] [(((8 : Int), (16 : Int), ()), Bool.false, [((0 : Int), (50 : Int), ()), ((0 : Int), (0 : Int), ())], ())]) fun (v22 : List (List (Int × Int × Unit)) × Int × Unit) => (Option.bind (z0Q_M z0m.1 [(210 : Int), (44 : Int)]) fun (v23 : List Int × Int × Unit) => (Option.bind (z0T_M z0m.1) fun (v24 : List UInt8 × Int × Unit) => (bif IntKind.i64.wrap (IntKind.i64.wrap (v22.2.1 + v23.2.1) + v24.2.1) == (0 : Int) then (Option.bind (zV_M v22.1 [[((100 : Int), (160 : Int), ()), ((20 : Int), (20 : Int), ())]]) fun (v25 : Bool × Unit) => (bif v25.1 then (Option.bind (z02_M v23.1 [(0 : Int)]) fun (v26 : Bool × Unit) => (bif v26.1 then some (v24.1 == [(110 : UInt8), (111 : UInt8), (100 : UInt8), (101 : UInt8), (32 : UInt8), (108 : UInt8), (97 : UInt8), (107 : UInt8), (101 : UInt8), (32 : UInt8), (49 : UInt8), (48 : UInt8), (32 : UInt8), (50 : UInt8), (48 : UInt8), (10 : UInt8), (110 : UInt8), (111 : UInt8), (100 : UInt8), (101 : UInt8), (32 : UInt8), (112 : UInt8), (111 : UInt8), (108 : UInt8), (100 : UInt8), (101 : UInt8), (114 : UInt8), (32 : UInt8), (53 : UInt8), (32 : UInt8), (56 : UInt8), (10 : UInt8), (98 : UInt8), (97 : UInt8), (114 : UInt8), (114 : UInt8), (105 : UInt8), (101 : UInt8), (114 : UInt8), (32 : UInt8), (45 : UInt8), (49 : UInt8), (32 : UInt8), (48 : UInt8), (32 : UInt8), (48 : UInt8), (32 : UInt8), (50 : UInt8), (10 : UInt8), (112 : UInt8), (117 : UInt8), (109 : UInt8), (112 : UInt8), (32 : UInt8), (49 : UInt8), (32 : UInt8), (48 : UInt8), (32 : UInt8), (52 : UInt8), (32 : UInt8), (49 : UInt8), (48 : UInt8), (10 : UInt8), (111 : UInt8), (117 : UInt8), (116 : UInt8), (102 : UInt8), (97 : UInt8), (108 : UInt8), (108 : UInt8), (32 : UInt8), (48 : UInt8), (32 : UInt8), (45 : UInt8), (49 : UInt8), (32 : UInt8), (49 : UInt8), (50 : UInt8), (32 : UInt8), (52 : UInt8), (10 : UInt8)], ()) else some (Bool.false, ()))) else some (Bool.false, ()))) else some (Bool.false, ()))))))))))))))))))))))
theorem z0Z_eq (n : Nat) (x : z0Z_a.den) : runF z0Z_g (z0Z_an n) Tryz.f17 z0Z_a z0Z_r x = z0Z_m n := by kernel_rfl
def z0Z_M  : Option (Bool × Unit) := z0Z_m 0
theorem z0Z_run  (y : Bool × Unit) (h : z0Z_M = some y) : ∃ n, z0Z_m n = some y := ⟨0, h⟩
def z0Z_e : Entry := { f := 17, args := z0Z_a, ress := z0Z_r, m := fun x => z0Z_M }
theorem z0Z_ok : FnOK Tryz.prog z0Z_e := fn_ok (g := z0Z_g) (fn := Tryz.f17) hmixed tabOk (eCons z0m_ok (eCons z0G_ok (eCons z0h_ok (eCons z0S_ok (eCons z0p_ok (eCons z04_ok (eCons z0U_ok (eCons z02_ok (eCons z03_ok (eCons z05_ok (eCons z0Q_ok (eCons z0T_ok (eCons zV_ok eNil))))))))))))) (by kernel_rfl) (by kernel_rfl) (by kernel_rfl) (fun x y h => let ⟨n, hn⟩ := z0Z_run y h; ⟨z0Z_an n, iNil, (z0Z_eq n x).trans hn⟩)
end
end Go.Tw
end
section
set_option linter.all false
set_option maxRecDepth 1000000
namespace Go.Tw
open Go.Vx Go.Vx.B Go.Proofs
noncomputable section
end
end Go.Tw
end
section
set_option linter.all false
set_option maxRecDepth 1000000
namespace Go.Tw
open Go.Vx Go.Vx.B Go.Proofs
noncomputable section
def z0c_b1 (b2_1 : Bas) (l6_1 : List Int) (i7_1 : Int) (v2 : Int) (c0_1 : List Int) : Option ((List Int × Unit) ⊕ (List Int)) :=
  (Option.bind (idx b2_1.1 i7_1) fun (v3 : Nod) => (bif decide (v2 > v3.2.2.1) then (bif decide (c0_1.length + (1 : Nat) ≤ memMax) then (some (Sum.inr (c0_1 ++ [i7_1]))) else none) else (some (Sum.inr (c0_1)))))
def z0c_f1 (b2_1 : Bas) (l6_1 : List Int) (c0_1 : List Int) : Option (List Int × Unit) :=
  (some ((c0_1, ())))
def z0c_M (b : Bas) (v : List Int) : Option (List Int × Unit) :=
  (Option.bind (z0N_M b v) fun (v0 : List Int × Unit) => (bif decide (List.length (v0.1) < lenMax) then loopL (fun i__ e__ s__ => z0c_b1 (b) (v0.1) i__ e__ s__) (fun s__ => z0c_f1 (b) (v0.1) s__) 0 (v0.1) ([]) else none))
abbrev z0R_a : Ty := .pair t41 (.pair t26 (.pair t54 .unit))
abbrev z0R_r : Ty := .pair t3 (.pair t3 (.pair t35 .unit))
def z0R_g : G := { T := T, E := [z06_e, zd_e, z0k_e], muts := [], fz := [] }
def z0R_k : List (List Nat) := [[3, 11, 12, 13, 28, 29, 30], [3, 11, 12, 13, 14, 28, 29, 30, 38, 39, 40]]
def z0R_an (n : Nat) : Ann := { keep := z0R_k, fuel := n, inl := [], deep := 0 }
def z0R_m_l4 (n : Nat) (r1 : Bas → Int → Int → Bool → List Psg → Int → Int → Option (Int × Int × Int × Unit)) (r4 : Bas → Int → Int → Bool → Int → List Psg → Int → Int → List Int → Int → Int → Option (Int × Int × Int × Unit)) (b3_4 : Bas) (step11_4 : Int) (node12_4 : Int) (found13_4 : Bool) (i14_4 : Int) (t28_4 : List Psg) (t29_4 : Int) (t30_4 : Int) (t38_4 : List Int) (t39_4 : Int) (t40_4 : Int) : Option (Int × Int × Int × Unit) :=
  (bif decide (t40_4 < t39_4) then (Option.bind (idx t38_4 t40_4) fun (v5 : Int) => some (i14_4, v5, (z0k (!Bool.true) (7 : Int)).1, ())) else r1 b3_4 step11_4 node12_4 found13_4 t28_4 t29_4 (IntKind.i64.wrap (t30_4 + (1 : Int))))
def z0R_m_w4 (n : Nat) (r1 : Bas → Int → Int → Bool → List Psg → Int → Int → Option (Int × Int × Int × Unit)) (k : Nat) (b3_4 : Bas) (step11_4 : Int) (node12_4 : Int) (found13_4 : Bool) (i14_4 : Int) (t28_4 : List Psg) (t29_4 : Int) (t30_4 : Int) (t38_4 : List Int) (t39_4 : Int) (t40_4 : Int) : Option (Int × Int × Int × Unit) :=
  iter (fun r y => z0R_m_l4 n r1 (fun b3_4 step11_4 node12_4 found13_4 i14_4 t28_4 t29_4 t30_4 t38_4 t39_4 t40_4 => r ((b3_4, (step11_4, (node12_4, (found13_4, (i14_4, (t28_4, (t29_4, (t30_4, (t38_4, (t39_4, (t40_4, ()))))))))))), ((), ()))) y.1.1 y.1.2.1 y.1.2.2.1 y.1.2.2.2.1 y.1.2.2.2.2.1 y.1.2.2.2.2.2.1 y.1.2.2.2.2.2.2.1 y.1.2.2.2.2.2.2.2.1 y.1.2.2.2.2.2.2.2.2.1 y.1.2.2.2.2.2.2.2.2.2.1 y.1.2.2.2.2.2.2.2.2.2.2.1) k ((b3_4, (step11_4, (node12_4, (found13_4, (i14_4, (t28_4, (t29_4, (t30_4, (t38_4, (t39_4, (t40_4, ()))))))))))), ((), ()))
def z0R_m_l1 (n : Nat) (r1 : Bas → Int → Int → Bool → List Psg → Int → Int → Option (Int × Int × Int × Unit)) (b3_1 : Bas) (step11_1 : Int) (node12_1 : Int) (found13_1 : Bool) (t28_1 : List Psg) (t29_1 : Int) (t30_1 : Int) : Option (Int × Int × Int × Unit) :=
  (bif decide (t30_1 < t29_1) then (Option.bind (idx t28_1 t30_1) fun (v2 : Psg) => (Option.bind (zd_M b3_1 (v2.2.2.1.getD [])) fun (v3 : List Int × Unit) => (z0R_m_w4 n r1 n (b3_1) (step11_1) (node12_1) (found13_1) (t30_1) (t28_1) (t29_1) (t30_1) (v3.1) ((↑v3.1.length : Int)) ((0 : Int))))) else some (step11_1, node12_1, (z0k (!found13_1) (7 : Int)).1, ()))
def z0R_m_w1 (n : Nat)  (k : Nat) (b3_1 : Bas) (step11_1 : Int) (node12_1 : Int) (found13_1 : Bool) (t28_1 : List Psg) (t29_1 : Int) (t30_1 : Int) : Option (Int × Int × Int × Unit) :=
  iter (fun r y => z0R_m_l1 n (fun b3_1 step11_1 node12_1 found13_1 t28_1 t29_1 t30_1 => r ((b3_1, (step11_1, (node12_1, (found13_1, (t28_1, (t29_1, (t30_1, ()))))))), ((), ()))) y.1.1 y.1.2.1 y.1.2.2.1 y.1.2.2.2.1 y.1.2.2.2.2.1 y.1.2.2.2.2.2.1 y.1.2.2.2.2.2.2.1) k ((b3_1, (step11_1, (node12_1, (found13_1, (t28_1, (t29_1, (t30_1, ()))))))), ((), ()))
def z0R_m (n : Nat) (b : Bas) (v : List Int) (l : List Cnd) : Option (Int × Int × Int × Unit) :=
  (Option.bind (z06_M b v l) fun (v0 : List Psg × Int × Unit) => (bif v0.2.1 != (0 : Int) then some ((0 : Int), (0 : Int), v0.2.1, ()) else (z0R_m_w1 n n (b) ((0 : Int)) ((0 : Int)) (Bool.false) (v0.1) ((↑v0.1.length : Int)) ((0 : Int)))))
theorem z0R_eq (n : Nat) (x : z0R_a.den) : runF z0R_g (z0R_an n) Tryz.f48 z0R_a z0R_r x = z0R_m n x.1 x.2.1 x.2.2.1 := by kernel_rfl
def z0R_b4 (b3_4 : Bas) (step11_4 : Int) (node12_4 : Int) (found13_4 : Bool) (i14_4 : Int) (t28_4 : List Psg) (t29_4 : Int) (t30_4 : Int) (t38_4 : List Int) (t40_4 : Int) (v5 : Int) : Option (((Int × Int × Int × Unit) ⊕ Unit) ⊕ Unit) :=
  (some (Sum.inl (Sum.inl ((i14_4, v5, (z0k (!Bool.true) (7 : Int)).1, ())))))
def z0R_f4 (b3_4 : Bas) (step11_4 : Int) (node12_4 : Int) (found13_4 : Bool) (i14_4 : Int) (t28_4 : List Psg) (t29_4 : Int) (t30_4 : Int) (t38_4 : List Int) : Option ((Int × Int × Int × Unit) ⊕ Unit) :=
  (some (Sum.inr ()))
theorem z0R_m_w4_le (n : Nat) (hn : big ≤ n)  (r1 : Bas → Int → Int → Bool → List Psg → Int → Int → Option (Int × Int × Int × Unit)) (b3_4 : Bas) (step11_4 : Int) (node12_4 : Int) (found13_4 : Bool) (i14_4 : Int) (t28_4 : List Psg) (t29_4 : Int) (t30_4 : Int) (t38_4 : List Int) (hx : List.length (t38_4) < lenMax) : LeF (elim some fun (s__ : Unit) => r1 b3_4 step11_4 node12_4 found13_4 t28_4 t29_4 (IntKind.i64.wrap (t30_4 + 1))) (loopL (fun i__ e__ s__ => z0R_b4 b3_4 step11_4 node12_4 found13_4 i14_4 t28_4 t29_4 t30_4 t38_4 i__ e__) (fun s__ => z0R_f4 b3_4 step11_4 node12_4 found13_4 i14_4 t28_4 t29_4 t30_4 t38_4) 0 (t38_4) ()) (z0R_m_w4 n r1 n b3_4 step11_4 node12_4 found13_4 i14_4 t28_4 t29_4 t30_4 t38_4 (List.length (t38_4) : Int) 0) := by
  refine loopL_le (f := (elim some fun (s__ : Unit) => r1 b3_4 step11_4 node12_4 found13_4 t28_4 t29_4 (IntKind.i64.wrap (t30_4 + 1)))) (W := fun k__ i__ s__ => z0R_m_w4 n r1 k__ b3_4 step11_4 node12_4 found13_4 i14_4 t28_4 t29_4 t30_4 t38_4 (List.length (t38_4) : Int) i__) (body := (fun i__ e__ s__ => z0R_b4 b3_4 step11_4 node12_4 found13_4 i14_4 t28_4 t29_4 t30_4 t38_4 i__ e__)) (fin := (fun s__ => z0R_f4 b3_4 step11_4 node12_4 found13_4 i14_4 t28_4 t29_4 t30_4 t38_4)) (fun k__ i__ s__ => ?_) hx () n (by unfold big at hn; unfold lenMax at hx; omega)
  show LeF _ _ (z0R_m_l4 n r1 (z0R_m_w4 n r1 k__) b3_4 step11_4 node12_4 found13_4 i14_4 t28_4 t29_4 t30_4 t38_4 (List.length (t38_4) : Int) i__)
  exact leCond (leBind fun v5 => (leSome rfl)) (leMap (leSome rfl))
def z0R_b1 (b3_1 : Bas) (step11_1 : Int) (node12_1 : Int) (found13_1 : Bool) (t28_1 : List Psg) (t30_1 : Int) (v2 : Psg) : Option ((Int × Int × Int × Unit) ⊕ Unit) :=
  (Option.bind (zd_M b3_1 (v2.2.2.1.getD [])) fun (v3 : List Int × Unit) => (bif decide (List.length (v3.1) < lenMax) then loopL (fun i__ e__ s__ => z0R_b4 (b3_1) (step11_1) (node12_1) (found13_1) (t30_1) (t28_1) ((↑t28_1.length : Int)) (t30_1) (v3.1) i__ e__) (fun s__ => z0R_f4 (b3_1) (step11_1) (node12_1) (found13_1) (t30_1) (t28_1) ((↑t28_1.length : Int)) (t30_1) (v3.1)) 0 (v3.1) () else none))
def z0R_f1 (b3_1 : Bas) (step11_1 : Int) (node12_1 : Int) (found13_1 : Bool) (t28_1 : List Psg) : Option (Int × Int × Int × Unit) :=
  (some ((step11_1, node12_1, (z0k (!found13_1) (7 : Int)).1, ())))
theorem z0R_m_w1_le (n : Nat) (hn : big ≤ n)  (b3_1 : Bas) (step11_1 : Int) (node12_1 : Int) (found13_1 : Bool) (t28_1 : List Psg) (hx : List.length (t28_1) < lenMax) : LeF some (loopL (fun i__ e__ s__ => z0R_b1 b3_1 step11_1 node12_1 found13_1 t28_1 i__ e__) (fun s__ => z0R_f1 b3_1 step11_1 node12_1 found13_1 t28_1) 0 (t28_1) ()) (z0R_m_w1 n n b3_1 step11_1 node12_1 found13_1 t28_1 (List.length (t28_1) : Int) 0) := by
  refine loopL_le (f := some) (W := fun k__ i__ s__ => z0R_m_w1 n k__ b3_1 step11_1 node12_1 found13_1 t28_1 (List.length (t28_1) : Int) i__) (body := (fun i__ e__ s__ => z0R_b1 b3_1 step11_1 node12_1 found13_1 t28_1 i__ e__)) (fin := (fun s__ => z0R_f1 b3_1 step11_1 node12_1 found13_1 t28_1)) (fun k__ i__ s__ => ?_) hx () n (by unfold big at hn; unfold lenMax at hx; omega)
  show LeF _ _ (z0R_m_l1 n (z0R_m_w1 n k__) b3_1 step11_1 node12_1 found13_1 t28_1 (List.length (t28_1) : Int) i__)
  exact leCond (leBind fun v2 => (leBind fun v3 => (leGuard fun hx => by apply z0R_m_w4_le n hn; exact hx))) (leMap (leSome rfl))
def z0R_M (b : Bas) (v : List Int) (l : List Cnd) : Option (Int × Int × Int × Unit) :=
  (Option.bind (z06_M b v l) fun (v0 : List Psg × Int × Unit) => (bif v0.2.1 != (0 : Int) then (some (((0 : Int), (0 : Int), v0.2.1, ()))) else (bif decide (List.length (v0.1) < lenMax) then loopL (fun i__ e__ s__ => z0R_b1 (b) ((0 : Int)) ((0 : Int)) (Bool.false) (v0.1) i__ e__) (fun s__ => z0R_f1 (b) ((0 : Int)) ((0 : Int)) (Bool.false) (v0.1)) 0 (v0.1) () else none)))
theorem z0R_run (b : Bas) (v : List Int) (l : List Cnd) (y : Int × Int × Int × Unit) (h : z0R_M b v l = some y) : ∃ n, z0R_m n b v l = some y :=
  ⟨big, LeF.top (show LeF some (z0R_M b v l) (z0R_m big b v l) from (fun (n : Nat) (hn : big ≤ n) => show LeF some (z0R_M b v l) (z0R_m n b v l) from (leBind fun v0 => (leCond (leSome rfl) (leGuard fun hx => by apply z0R_m_w1_le n hn; exact hx)))) big (Nat.le_refl _)) h⟩
def z0R_e : Entry := { f := 48, args := z0R_a, ress := z0R_r, m := fun x => z0R_M x.1 x.2.1 x.2.2.1 }
theorem z0R_ok : FnOK Tryz.prog z0R_e := fn_ok (g := z0R_g) (fn := Tryz.f48) hmixed tabOk (eCons z06_ok (eCons zd_ok (eCons z0k_ok eNil))) (by kernel_rfl) (by kernel_rfl) (by kernel_rfl) (fun x y h => let ⟨n, hn⟩ := z0R_run x.1 x.2.1 x.2.2.1 y h; ⟨z0R_an n, iNil, (z0R_eq n x).trans hn⟩)
end
end Go.Tw
end
