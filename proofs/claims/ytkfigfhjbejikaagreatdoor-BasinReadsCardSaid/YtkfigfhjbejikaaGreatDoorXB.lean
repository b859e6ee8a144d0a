/- Models of the program's functions, by program (gen.py), and what they compute.
Models of the program's functions, by program (gen.py), and what they compute.
BO: copies of lists that lie in memory of their own.
Models of the program's functions, by program (gen.py), and what they compute. -/
import Derived.Test.YtkfigfhjbejikaaGreatDoorBT
import Derived.Test.YtkfigfhjbejikaaGreatDoorB0
import Derived.Test.YtkfigfhjbejikaaGreatDoorBA
import Derived.Test.YtkfigfhjbejikaaGreatDoorBC
import Derived.Test.YtkfigfhjbejikaaGreatDoorBD
import Derived.Test.YtkfigfhjbejikaaGreatDoorBE
import Derived.Test.YtkfigfhjbejikaaGreatDoorXA
import Derived.Test.YtkfigfhjbejikaaGreatDoorSA
import Derived.Test.YtkfigfhjbejikaaGreatDoorLQ
import Derived.Test.YtkfigfhjbejikaaGreatDoorLR
import Derived.WalkKit
import Derived.Deep.LoopGhost
import Derived.Lib.Walk
import Derived.Lib.SliceRun

section
set_option linter.all false
set_option maxRecDepth 1000000
namespace Go.Tw
open Go.Vx Go.Vx.B Go.Proofs
noncomputable def il131 : Inl := { f := 131, fn := Tryz.f131, keep := [], mU := [1], fz := [] }
theorem yKR : y1q Tryz.prog il131 := ⟨by kernel_rfl, by kernel_rfl, fun e0 h => by cases (show (none : Option LibK) = some e0 from h)⟩
noncomputable def il134 : Inl := { f := 134, fn := Tryz.f134, keep := [[0, 1, 9, 10, 11, 79]], mU := [37, 76, 11], fz := [], lv := some [0, 1, 5, 6, 7, 9, 10, 11, 79, 82] }
theorem yJI : y1q Tryz.prog il134 := ⟨by kernel_rfl, by kernel_rfl, fun e0 h => by cases (show (none : Option LibK) = some e0 from h)⟩
noncomputable def il176 : Inl := { f := 176, fn := Tryz.f176, keep := [], mU := [], fz := [] }
theorem yJc : y1q Tryz.prog il176 := ⟨by kernel_rfl, by kernel_rfl, fun e0 h => by cases (show (none : Option LibK) = some e0 from h)⟩
noncomputable def il172 : Inl := { f := 172, fn := Tryz.f172, keep := [[0, 1]], mU := [], fz := [], lv := some [0, 1] }
theorem yJU : y1q Tryz.prog il172 := ⟨by kernel_rfl, by kernel_rfl, fun e0 h => by cases (show (none : Option LibK) = some e0 from h)⟩
/-! ### basin.Parse -/
abbrev yLK : Ty := .pair t9 .unit
abbrev yNH : Ty := .pair t41 (.pair t3 (.pair t35 .unit))
noncomputable def yO5 : G := { T := T, E := [zg_e, z0B_e, zj_e, z0J_e, z0K_e, zb_e, zh_e], mU := [5], fz := [], lv := some [2, 3, 4, 5, 6, 17, 18, 28], sep := [6] }
def yQQ : List (List Nat) := []
noncomputable def yKs (n : Nat) : Ann := { keep := yQQ, fuel := n, inl := [il131, il134, il176, il172], deep := 8 }
noncomputable def y55 (n : Nat) (r0 : List UInt8 → Int → Int → Int → List Nod → List Lnk → Option (Bas × Int × Int × Unit)) (b3_0_0 : Int) (b4_0_0 : Int) (b6_0_0 : Int) (c7_0 : List Nod) (c8_0 : List Lnk) (j1 : List UInt8) (v4 : List (List UInt8) × Unit) (j24 : Bool) (j25 : Int × Bool × Unit) : Option (Bas × Int × Int × Unit) :=
  (Option.bind (Go.Vx.idx (List.drop (Int.toNat (1 : Int)) (List.drop (Int.toNat (2 : Int)) v4.fst)) (0 : Int)) fun (v26 : List UInt8) => (bif Decidable.decide ((0 : Int) ≤ (1 : Int)) && Decidable.decide ((1 : Int) ≤ (↑(List.drop (Int.toNat (1 : Int)) (List.drop (Int.toNat (2 : Int)) v4.fst)).length : Int)) then (Option.bind (Go.Tw.yIl v26) fun (v27 : Int × Bool × Unit) => (bif j24 then (Option.bind (Go.Vx.idx v4.fst (1 : Int)) fun (v44 : List UInt8) => (bif Decidable.decide (c7_0.length + (1 : Nat) ≤ Go.Vx.memMax) then Option.some (([], [], ()), b6_0_0, (26 : Int), ()) else none)) else (bif !v27.snd.fst then (Option.bind (Go.Vx.idx v4.fst (1 : Int)) fun (v45 : List UInt8) => (bif Decidable.decide (c7_0.length + (1 : Nat) ≤ Go.Vx.memMax) then Option.some (([], [], ()), b6_0_0, (26 : Int), ()) else none)) else (Option.bind (Go.Tw.y9n v27.fst) fun (v28 : List UInt8 × Unit) => (bif !v28.fst == v26 then (Option.bind (Go.Vx.idx v4.fst (1 : Int)) fun (v46 : List UInt8) => (bif Decidable.decide (c7_0.length + (1 : Nat) ≤ Go.Vx.memMax) then Option.some (([], [], ()), b6_0_0, (26 : Int), ()) else none)) else (Option.bind (Go.Vx.idx v4.fst (1 : Int)) fun (v47 : List UInt8) => (bif Decidable.decide (c7_0.length + (1 : Nat) ≤ Go.Vx.memMax) then (bif !!Decidable.decide ((↑(Go.Lib.trimPrefix v26 [(45 : UInt8)]).length : Int) > (9 : Int)) then Option.some (([], [], ()), b6_0_0, (26 : Int), ()) else r0 j1 b3_0_0 b4_0_0 (Go.IntKind.i64.wrap (b6_0_0 + (1 : Int))) (c7_0 ++ [(v47, j25.fst, v27.fst, ())]) c8_0) else none))))))) else none))

noncomputable def yBz (n : Nat) (r0 : List UInt8 → Int → Int → Int → List Nod → List Lnk → Option (Bas × Int × Int × Unit)) (r52 : List (List UInt8) → Int → List (List UInt8) → Bool → List Int → Int → Int → Int → List UInt8 → List Nod → List Lnk → List UInt8 → Bool → Option (Bas × Int × Int × Unit)) (words1_52 : List (List UInt8)) (t79_52 : Int) (b1_0_52 : List (List UInt8)) (b1_1_52 : Bool) (c2_52 : List Int) (b4_0_52 : Int) (b5_0_52 : Int) (b6_0_52 : Int) (b7_0_52 : List UInt8) (c9_52 : List Nod) (c10_52 : List Lnk) (k18_52 : List UInt8) (k28_52 : Bool) : Option (Bas × Int × Int × Unit) :=
  (bif Decidable.decide (t79_52 < (4 : Int)) then (Option.bind (Go.Vx.idx b1_0_52 (0 : Int)) fun (v53 : List UInt8) => (bif Decidable.decide ((0 : Int) ≤ (1 : Int)) && Decidable.decide ((1 : Int) ≤ (↑b1_0_52.length : Int)) then (Option.bind (Go.Tw.yIl v53) fun (v54 : Int × Bool × Unit) => (bif b1_1_52 then (bif Decidable.decide ((0 : Int) ≤ t79_52) && Decidable.decide (t79_52 < (↑(4 : Nat) : Int)) then (Option.bind (c2_52[t79_52.toNat]?) fun (v70 : Int) => r52 words1_52 (Go.IntKind.i64.wrap (t79_52 + (1 : Int))) (List.drop (Int.toNat (1 : Int)) b1_0_52) Bool.true (c2_52.set t79_52.toNat v54.fst) b4_0_52 b5_0_52 b6_0_52 b7_0_52 c9_52 c10_52 k18_52 k28_52) else none) else (bif !v54.snd.fst then (bif Decidable.decide ((0 : Int) ≤ t79_52) && Decidable.decide (t79_52 < (↑(4 : Nat) : Int)) then (Option.bind (c2_52[t79_52.toNat]?) fun (v71 : Int) => r52 words1_52 (Go.IntKind.i64.wrap (t79_52 + (1 : Int))) (List.drop (Int.toNat (1 : Int)) b1_0_52) Bool.true (c2_52.set t79_52.toNat v54.fst) b4_0_52 b5_0_52 b6_0_52 b7_0_52 c9_52 c10_52 k18_52 k28_52) else none) else (Option.bind (Go.Tw.y9n v54.fst) fun (v55 : List UInt8 × Unit) => (bif !v55.fst == v53 then (bif Decidable.decide ((0 : Int) ≤ t79_52) && Decidable.decide (t79_52 < (↑(4 : Nat) : Int)) then (Option.bind (c2_52[t79_52.toNat]?) fun (v72 : Int) => r52 words1_52 (Go.IntKind.i64.wrap (t79_52 + (1 : Int))) (List.drop (Int.toNat (1 : Int)) b1_0_52) Bool.true (c2_52.set t79_52.toNat v54.fst) b4_0_52 b5_0_52 b6_0_52 b7_0_52 c9_52 c10_52 k18_52 k28_52) else none) else (bif Decidable.decide ((0 : Int) ≤ t79_52) && Decidable.decide (t79_52 < (↑(4 : Nat) : Int)) then (Option.bind (c2_52[t79_52.toNat]?) fun (v73 : Int) => r52 words1_52 (Go.IntKind.i64.wrap (t79_52 + (1 : Int))) (List.drop (Int.toNat (1 : Int)) b1_0_52) (Decidable.decide ((↑(Go.Lib.trimPrefix v53 [(45 : UInt8)]).length : Int) > (9 : Int))) (c2_52.set t79_52.toNat v54.fst) b4_0_52 b5_0_52 b6_0_52 b7_0_52 c9_52 c10_52 k18_52 k28_52) else none)))))) else none)) else (Option.bind (Go.Vx.idx words1_52 (0 : Int)) fun (v75 : List UInt8) => (Option.bind (c2_52[Int.toNat (0 : Int)]?) fun (v76 : Int) => (Option.bind (c2_52[Int.toNat (1 : Int)]?) fun (v77 : Int) => (Option.bind (c2_52[Int.toNat (2 : Int)]?) fun (v78 : Int) => (Option.bind (c2_52[Int.toNat (3 : Int)]?) fun (v79 : Int) => (bif Decidable.decide (c10_52.length + (1 : Nat) ≤ Go.Vx.memMax) then (bif k28_52 then Option.some (([], [], ()), b6_0_52, (26 : Int), ()) else (bif !!b1_1_52 then Option.some (([], [], ()), b6_0_52, (26 : Int), ()) else r0 b7_0_52 b4_0_52 b5_0_52 (Go.IntKind.i64.wrap (b6_0_52 + (1 : Int))) c9_52 (c10_52 ++ [(v75, v76, v77, v78, v79, ())]))) else none)))))))

noncomputable def y5J (n : Nat) (r0 : List UInt8 → Int → Int → Int → List Nod → List Lnk → Option (Bas × Int × Int × Unit)) (k : Nat) (words1_52 : List (List UInt8)) (t79_52 : Int) (b1_0_52 : List (List UInt8)) (b1_1_52 : Bool) (c2_52 : List Int) (b4_0_52 : Int) (b5_0_52 : Int) (b6_0_52 : Int) (b7_0_52 : List UInt8) (c9_52 : List Nod) (c10_52 : List Lnk) (k18_52 : List UInt8) (k28_52 : Bool) : Option (Bas × Int × Int × Unit) :=
  iter (fun r y => yBz n r0 (fun words1_52 t79_52 b1_0_52 b1_1_52 c2_52 b4_0_52 b5_0_52 b6_0_52 b7_0_52 c9_52 c10_52 k18_52 k28_52 => r ((words1_52, (t79_52, ())), (((), ((b1_0_52, (b1_1_52, ())), (c2_52, ((), ((b4_0_52, ()), ((b5_0_52, ()), ((b6_0_52, ()), ((b7_0_52, ()), (((), ()), (c9_52, (c10_52, ()))))))))))), ((), (k18_52, (k28_52, ((), ()))))))) y.1.1 y.1.2.1 y.2.1.2.1.1 y.2.1.2.1.2.1 y.2.1.2.2.1 y.2.1.2.2.2.2.1.1 y.2.1.2.2.2.2.2.1.1 y.2.1.2.2.2.2.2.2.1.1 y.2.1.2.2.2.2.2.2.2.1.1 y.2.1.2.2.2.2.2.2.2.2.2.1 y.2.1.2.2.2.2.2.2.2.2.2.2.1 y.2.2.2.1 y.2.2.2.2.1) k ((words1_52, (t79_52, ())), (((), ((b1_0_52, (b1_1_52, ())), (c2_52, ((), ((b4_0_52, ()), ((b5_0_52, ()), ((b6_0_52, ()), ((b7_0_52, ()), (((), ()), (c9_52, (c10_52, ()))))))))))), ((), (k18_52, (k28_52, ((), ()))))))

noncomputable def y8D (n : Nat) (r0 : List UInt8 → Int → Int → Int → List Nod → List Lnk → Option (Bas × Int × Int × Unit)) (b3_0_0 : Int) (b4_0_0 : Int) (b6_0_0 : Int) (c7_0 : List Nod) (c8_0 : List Lnk) (j1 : List UInt8) (j2 : List UInt8) : Option (Bas × Int × Int × Unit) :=
  (Option.bind (Go.Tw.zg_M j2 [(10 : UInt8)]) fun (v3 : List UInt8 × Bool × Unit) => (Option.bind (Go.Tw.yBC v3.fst [(32 : UInt8)]) fun (v4 : List (List UInt8) × Unit) => (bif !v3.snd.fst then Option.some (([], [], ()), b6_0_0, (26 : Int), ()) else (Option.bind (Go.Vx.idx v4.fst (0 : Int)) fun (v5 : List UInt8) => (bif v5 == [(110 : UInt8), (111 : UInt8), (100 : UInt8), (101 : UInt8)] then (bif (↑v4.fst.length : Int) != (4 : Int) then Option.some (([], [], ()), b6_0_0, (26 : Int), ()) else (Option.bind (Go.Vx.idx v4.fst (1 : Int)) fun (v6 : List UInt8) => (bif v6 == [] then Option.some (([], [], ()), b6_0_0, (26 : Int), ()) else (bif Decidable.decide ((↑c8_0.length : Int) > (0 : Int)) then Option.some (([], [], ()), b6_0_0, (26 : Int), ()) else (bif Decidable.decide ((0 : Int) ≤ (2 : Int)) && Decidable.decide ((2 : Int) ≤ (↑v4.fst.length : Int)) then (Option.bind (Go.Vx.idx (List.drop (Int.toNat (2 : Int)) v4.fst) (0 : Int)) fun (v11 : List UInt8) => (bif Decidable.decide ((0 : Int) ≤ (1 : Int)) && Decidable.decide ((1 : Int) ≤ (↑(List.drop (Int.toNat (2 : Int)) v4.fst).length : Int)) then (Option.bind (Go.Tw.yIl v11) fun (v12 : Int × Bool × Unit) => (bif !v12.snd.fst then (y55 n r0 b3_0_0 b4_0_0 b6_0_0 c7_0 c8_0 j1 v4 (Bool.true) (v12)) else (Option.bind (Go.Tw.y9n v12.fst) fun (v13 : List UInt8 × Unit) => (bif !v13.fst == v11 then (y55 n r0 b3_0_0 b4_0_0 b6_0_0 c7_0 c8_0 j1 v4 (Bool.true) (v12)) else (y55 n r0 b3_0_0 b4_0_0 b6_0_0 c7_0 c8_0 j1 v4 (Decidable.decide ((↑(Go.Lib.trimPrefix v11 [(45 : UInt8)]).length : Int) > (9 : Int))) (v12)))))) else none)) else none))))) else (bif (↑v4.fst.length : Int) != (5 : Int) then Option.some (([], [], ()), b6_0_0, (26 : Int), ()) else (Option.bind (Go.Vx.idx v4.fst (0 : Int)) fun (v49 : List UInt8) => (bif v49 == [] then Option.some (([], [], ()), b6_0_0, (26 : Int), ()) else (bif Decidable.decide ((0 : Int) ≤ (1 : Int)) && Decidable.decide ((1 : Int) ≤ (↑v4.fst.length : Int)) then (y5J n r0 n (v4.fst) ((0 : Int)) (List.drop (Int.toNat (1 : Int)) v4.fst) (Bool.false) ([(0 : Int), (0 : Int), (0 : Int), (0 : Int)]) (b3_0_0) (b4_0_0) (b6_0_0) (j1) (c7_0) (c8_0) (j2) (Bool.false)) else none)))))))))

noncomputable def yDv (n : Nat) (r0 : List UInt8 → Int → Int → Int → List Nod → List Lnk → Option (Bas × Int × Int × Unit)) (b1_0_0 : List UInt8) (b3_0_0 : Int) (b4_0_0 : Int) (b6_0_0 : Int) (c7_0 : List Nod) (c8_0 : List Lnk) : Option (Bas × Int × Int × Unit) :=
  (bif Decidable.decide ((↑b1_0_0.length : Int) > (0 : Int)) then (bif Decidable.decide (Go.Lib.indexByte b1_0_0 (Int.toNat (10 : Int)).toUInt8 ≥ (0 : Int)) then (bif Decidable.decide ((0 : Int) ≤ Go.IntKind.i64.wrap (Go.Lib.indexByte b1_0_0 (Int.toNat (10 : Int)).toUInt8 + (1 : Int))) && Decidable.decide (Go.IntKind.i64.wrap (Go.Lib.indexByte b1_0_0 (Int.toNat (10 : Int)).toUInt8 + (1 : Int)) ≤ (↑b1_0_0.length : Int)) then (bif Decidable.decide ((0 : Int) ≤ Go.IntKind.i64.wrap (Go.Lib.indexByte b1_0_0 (Int.toNat (10 : Int)).toUInt8 + (1 : Int))) && Decidable.decide (Go.IntKind.i64.wrap (Go.Lib.indexByte b1_0_0 (Int.toNat (10 : Int)).toUInt8 + (1 : Int)) ≤ (↑b1_0_0.length : Int)) then (y8D n r0 b3_0_0 b4_0_0 b6_0_0 c7_0 c8_0 (List.drop (Go.IntKind.i64.wrap (Go.Lib.indexByte b1_0_0 (Int.toNat (10 : Int)).toUInt8 + (1 : Int))).toNat b1_0_0) (List.take (Go.IntKind.i64.wrap (Go.Lib.indexByte b1_0_0 (Int.toNat (10 : Int)).toUInt8 + (1 : Int))).toNat b1_0_0)) else none) else none) else (y8D n r0 b3_0_0 b4_0_0 b6_0_0 c7_0 c8_0 ([]) (b1_0_0))) else (Option.bind (Go.Tw.zj_M (c7_0, c8_0, ())) fun (v81 : Int × Unit) => (bif v81.fst != (0 : Int) then Option.some (([], [], ()), b6_0_0, v81.fst, ()) else Option.some ((c7_0, c8_0, ()), (0 : Int), (0 : Int), ()))))

noncomputable def y71 (n : Nat)  (k : Nat) (b1_0_0 : List UInt8) (b3_0_0 : Int) (b4_0_0 : Int) (b6_0_0 : Int) (c7_0 : List Nod) (c8_0 : List Lnk) : Option (Bas × Int × Int × Unit) :=
  iter (fun r y => yDv n (fun b1_0_0 b3_0_0 b4_0_0 b6_0_0 c7_0 c8_0 => r ((), ((((), ()), ((b1_0_0, ()), ((), ((b3_0_0, ()), ((b4_0_0, ()), ((), ((b6_0_0, ()), (c7_0, (c8_0, ()))))))))), ((), ())))) y.2.1.2.1.1 y.2.1.2.2.2.1.1 y.2.1.2.2.2.2.1.1 y.2.1.2.2.2.2.2.2.1.1 y.2.1.2.2.2.2.2.2.2.1 y.2.1.2.2.2.2.2.2.2.2.1) k ((), ((((), ()), ((b1_0_0, ()), ((), ((b3_0_0, ()), ((b4_0_0, ()), ((), ((b6_0_0, ()), (c7_0, (c8_0, ()))))))))), ((), ())))

noncomputable def yJN (n : Nat) (s : List UInt8) : Option (Bas × Int × Int × Unit) :=
  (bif Decidable.decide ((↑s.length : Int) > (4096 : Int)) then Option.some (([], [], ()), (0 : Int), (27 : Int), ()) else (y71 n n (s) ((0 : Int)) ((0 : Int)) ((0 : Int)) ([]) ([])))

theorem yPW (n : Nat) (x : yLK.den) : runF yO5 (yKs n) Tryz.f79 yLK yNH x = yJN n x.1 := by kernel_rfl

noncomputable def y5e (b3_0_0 : Int) (b4_0_0 : Int) (b6_0_0 : Int) (c7_0 : List Nod) (c8_0 : List Lnk) (j1 : List UInt8) (v4 : List (List UInt8) × Unit) (j24 : Bool) (j25 : Int × Bool × Unit) : Option ((Bas × Int × Int × Unit) ⊕ (List UInt8 × Int × (List Nod) × (List Lnk))) :=
  (Option.bind (Go.Vx.idx (List.drop (Int.toNat (1 : Int)) (List.drop (Int.toNat (2 : Int)) v4.fst)) (0 : Int)) fun (v26 : List UInt8) => (bif Decidable.decide ((0 : Int) ≤ (1 : Int)) && Decidable.decide ((1 : Int) ≤ (↑(List.drop (Int.toNat (1 : Int)) (List.drop (Int.toNat (2 : Int)) v4.fst)).length : Int)) then (Option.bind (Go.Tw.yIl v26) fun (v27 : Int × Bool × Unit) => (bif j24 then (Option.bind (Go.Vx.idx v4.fst (1 : Int)) fun (v44 : List UInt8) => (bif Decidable.decide (c7_0.length + (1 : Nat) ≤ Go.Vx.memMax) then (some (Sum.inl ((([], [], ()), b6_0_0, (26 : Int), ())))) else none)) else (bif !v27.snd.fst then (Option.bind (Go.Vx.idx v4.fst (1 : Int)) fun (v45 : List UInt8) => (bif Decidable.decide (c7_0.length + (1 : Nat) ≤ Go.Vx.memMax) then (some (Sum.inl ((([], [], ()), b6_0_0, (26 : Int), ())))) else none)) else (Option.bind (Go.Tw.y9n v27.fst) fun (v28 : List UInt8 × Unit) => (bif !v28.fst == v26 then (Option.bind (Go.Vx.idx v4.fst (1 : Int)) fun (v46 : List UInt8) => (bif Decidable.decide (c7_0.length + (1 : Nat) ≤ Go.Vx.memMax) then (some (Sum.inl ((([], [], ()), b6_0_0, (26 : Int), ())))) else none)) else (Option.bind (Go.Vx.idx v4.fst (1 : Int)) fun (v47 : List UInt8) => (bif Decidable.decide (c7_0.length + (1 : Nat) ≤ Go.Vx.memMax) then (bif !!Decidable.decide ((↑(Go.Lib.trimPrefix v26 [(45 : UInt8)]).length : Int) > (9 : Int)) then (some (Sum.inl ((([], [], ()), b6_0_0, (26 : Int), ())))) else (some (Sum.inr ((j1), (Go.IntKind.i64.wrap (b6_0_0 + (1 : Int))), (c7_0 ++ [(v47, j25.fst, v27.fst, ())]), (c8_0))))) else none))))))) else none))

theorem y1N (n : Nat) (hn : big ≤ n)  (r0 : List UInt8 → Int → Int → Int → List Nod → List Lnk → Option (Bas × Int × Int × Unit)) (b3_0_0 : Int) (b4_0_0 : Int) (b6_0_0 : Int) (c7_0 : List Nod) (c8_0 : List Lnk) (j1 : List UInt8) (v4 : List (List UInt8) × Unit) (j24 : Bool) (j25 : Int × Bool × Unit) : LeF (elim some fun (s__ : (List UInt8 × Int × (List Nod) × (List Lnk))) => r0 s__.1 b3_0_0 b4_0_0 s__.2.1 s__.2.2.1 s__.2.2.2) (y5e b3_0_0 b4_0_0 b6_0_0 c7_0 c8_0 j1 v4 j24 j25) (y55 n r0 b3_0_0 b4_0_0 b6_0_0 c7_0 c8_0 j1 v4 j24 j25) :=
  (y6 fun v26 => (y5 (y6 fun v27 => (y5 (y6 fun v44 => (y5 (y7 rfl) yL)) (y5 (y6 fun v45 => (y5 (y7 rfl) yL)) (y6 fun v28 => (y5 (y6 fun v46 => (y5 (y7 rfl) yL)) (y6 fun v47 => (y5 (y5 (y7 rfl) (y7 rfl)) yL))))))) yL))

noncomputable def y7Y (words1_52 : List (List UInt8)) (b4_0_52 : Int) (b5_0_52 : Int) (b6_0_52 : Int) (b7_0_52 : List UInt8) (c9_52 : List Nod) (c10_52 : List Lnk) (k18_52 : List UInt8) (k28_52 : Bool) (t79_52 : Int) (b1_0_52 : List (List UInt8)) (b1_1_52 : Bool) (c2_52 : List Int) : Option (((Bas × Int × Int × Unit) ⊕ (List UInt8 × Int × (List Nod) × (List Lnk))) ⊕ (List (List UInt8) × Bool × List Int)) :=
  (Option.bind (Go.Vx.idx b1_0_52 (0 : Int)) fun (v53 : List UInt8) => (bif Decidable.decide ((0 : Int) ≤ (1 : Int)) && Decidable.decide ((1 : Int) ≤ (↑b1_0_52.length : Int)) then (Option.bind (Go.Tw.yIl v53) fun (v54 : Int × Bool × Unit) => (bif b1_1_52 then (bif Decidable.decide ((0 : Int) ≤ t79_52) && Decidable.decide (t79_52 < (↑(4 : Nat) : Int)) then (Option.bind (c2_52[t79_52.toNat]?) fun (v70 : Int) => (some (Sum.inr ((List.drop (Int.toNat (1 : Int)) b1_0_52), (Bool.true), (c2_52.set t79_52.toNat v54.fst))))) else none) else (bif !v54.snd.fst then (bif Decidable.decide ((0 : Int) ≤ t79_52) && Decidable.decide (t79_52 < (↑(4 : Nat) : Int)) then (Option.bind (c2_52[t79_52.toNat]?) fun (v71 : Int) => (some (Sum.inr ((List.drop (Int.toNat (1 : Int)) b1_0_52), (Bool.true), (c2_52.set t79_52.toNat v54.fst))))) else none) else (Option.bind (Go.Tw.y9n v54.fst) fun (v55 : List UInt8 × Unit) => (bif !v55.fst == v53 then (bif Decidable.decide ((0 : Int) ≤ t79_52) && Decidable.decide (t79_52 < (↑(4 : Nat) : Int)) then (Option.bind (c2_52[t79_52.toNat]?) fun (v72 : Int) => (some (Sum.inr ((List.drop (Int.toNat (1 : Int)) b1_0_52), (Bool.true), (c2_52.set t79_52.toNat v54.fst))))) else none) else (bif Decidable.decide ((0 : Int) ≤ t79_52) && Decidable.decide (t79_52 < (↑(4 : Nat) : Int)) then (Option.bind (c2_52[t79_52.toNat]?) fun (v73 : Int) => (some (Sum.inr ((List.drop (Int.toNat (1 : Int)) b1_0_52), (Decidable.decide ((↑(Go.Lib.trimPrefix v53 [(45 : UInt8)]).length : Int) > (9 : Int))), (c2_52.set t79_52.toNat v54.fst))))) else none)))))) else none))

noncomputable def y7J (words1_52 : List (List UInt8)) (b4_0_52 : Int) (b5_0_52 : Int) (b6_0_52 : Int) (b7_0_52 : List UInt8) (c9_52 : List Nod) (c10_52 : List Lnk) (k18_52 : List UInt8) (k28_52 : Bool) (b1_0_52 : List (List UInt8)) (b1_1_52 : Bool) (c2_52 : List Int) : Option ((Bas × Int × Int × Unit) ⊕ (List UInt8 × Int × (List Nod) × (List Lnk))) :=
  (Option.bind (Go.Vx.idx words1_52 (0 : Int)) fun (v75 : List UInt8) => (Option.bind (c2_52[Int.toNat (0 : Int)]?) fun (v76 : Int) => (Option.bind (c2_52[Int.toNat (1 : Int)]?) fun (v77 : Int) => (Option.bind (c2_52[Int.toNat (2 : Int)]?) fun (v78 : Int) => (Option.bind (c2_52[Int.toNat (3 : Int)]?) fun (v79 : Int) => (bif Decidable.decide (c10_52.length + (1 : Nat) ≤ Go.Vx.memMax) then (bif k28_52 then (some (Sum.inl ((([], [], ()), b6_0_52, (26 : Int), ())))) else (bif !!b1_1_52 then (some (Sum.inl ((([], [], ()), b6_0_52, (26 : Int), ())))) else (some (Sum.inr ((b7_0_52), (Go.IntKind.i64.wrap (b6_0_52 + (1 : Int))), (c9_52), (c10_52 ++ [(v75, v76, v77, v78, v79, ())])))))) else none))))))

theorem yB8 (n : Nat) (hn : big ≤ n)  (r0 : List UInt8 → Int → Int → Int → List Nod → List Lnk → Option (Bas × Int × Int × Unit)) (words1_52 : List (List UInt8)) (b4_0_52 : Int) (b5_0_52 : Int) (b6_0_52 : Int) (b7_0_52 : List UInt8) (c9_52 : List Nod) (c10_52 : List Lnk) (k18_52 : List UInt8) (k28_52 : Bool) (b1_0_52 : List (List UInt8)) (b1_1_52 : Bool) (c2_52 : List Int) (hx : ((4 : Int)) ≤ (9223372036854775807 : Int)) : LeF (elim some fun (s__ : (List UInt8 × Int × (List Nod) × (List Lnk))) => r0 s__.1 b4_0_52 b5_0_52 s__.2.1 s__.2.2.1 s__.2.2.2) (y1R (fun i__ s__ => y7Y words1_52 b4_0_52 b5_0_52 b6_0_52 b7_0_52 c9_52 c10_52 k18_52 k28_52 i__ s__.1 s__.2.1 s__.2.2) (fun s__ => y7J words1_52 b4_0_52 b5_0_52 b6_0_52 b7_0_52 c9_52 c10_52 k18_52 k28_52 s__.1 s__.2.1 s__.2.2) (((4 : Int)) - 0).toNat 0 (b1_0_52, b1_1_52, c2_52)) (y5J n r0 n words1_52 0 b1_0_52 b1_1_52 c2_52 b4_0_52 b5_0_52 b6_0_52 b7_0_52 c9_52 c10_52 k18_52 k28_52) := by
  refine y4G (f := (elim some fun (s__ : (List UInt8 × Int × (List Nod) × (List Lnk))) => r0 s__.1 b4_0_52 b5_0_52 s__.2.1 s__.2.2.1 s__.2.2.2)) (W := fun k__ i__ s__ => y5J n r0 k__ words1_52 i__ s__.1 s__.2.1 s__.2.2 b4_0_52 b5_0_52 b6_0_52 b7_0_52 c9_52 c10_52 k18_52 k28_52) (body := (fun i__ s__ => y7Y words1_52 b4_0_52 b5_0_52 b6_0_52 b7_0_52 c9_52 c10_52 k18_52 k28_52 i__ s__.1 s__.2.1 s__.2.2)) (fin := (fun s__ => y7J words1_52 b4_0_52 b5_0_52 b6_0_52 b7_0_52 c9_52 c10_52 k18_52 k28_52 s__.1 s__.2.1 s__.2.2)) (fun k__ i__ s__ => ?_) hx (b1_0_52, b1_1_52, c2_52) n 0 (by decide) (by unfold big at hn; omega)
  show LeF _ _ (yBz n r0 (y5J n r0 k__) words1_52 i__ s__.1 s__.2.1 s__.2.2 b4_0_52 b5_0_52 b6_0_52 b7_0_52 c9_52 c10_52 k18_52 k28_52)
  exact y5 (y6 fun v53 => (y5 (y6 fun v54 => (y5 (y5 (y6 fun v70 => (y7 rfl)) yL) (y5 (y5 (y6 fun v71 => (y7 rfl)) yL) (y6 fun v55 => (y5 (y5 (y6 fun v72 => (y7 rfl)) yL) (y5 (y6 fun v73 => (y7 rfl)) yL)))))) yL)) (y0R (y6 fun v75 => (y6 fun v76 => (y6 fun v77 => (y6 fun v78 => (y6 fun v79 => (y5 (y5 (y7 rfl) (y5 (y7 rfl) (y7 rfl))) yL)))))))

noncomputable def y5r (b3_0_0 : Int) (b4_0_0 : Int) (b6_0_0 : Int) (c7_0 : List Nod) (c8_0 : List Lnk) (j1 : List UInt8) (j2 : List UInt8) : Option ((Bas × Int × Int × Unit) ⊕ (List UInt8 × Int × (List Nod) × (List Lnk))) :=
  (Option.bind (Go.Tw.zg_M j2 [(10 : UInt8)]) fun (v3 : List UInt8 × Bool × Unit) => (Option.bind (Go.Tw.yBC v3.fst [(32 : UInt8)]) fun (v4 : List (List UInt8) × Unit) => (bif !v3.snd.fst then (some (Sum.inl ((([], [], ()), b6_0_0, (26 : Int), ())))) else (Option.bind (Go.Vx.idx v4.fst (0 : Int)) fun (v5 : List UInt8) => (bif v5 == [(110 : UInt8), (111 : UInt8), (100 : UInt8), (101 : UInt8)] then (bif (↑v4.fst.length : Int) != (4 : Int) then (some (Sum.inl ((([], [], ()), b6_0_0, (26 : Int), ())))) else (Option.bind (Go.Vx.idx v4.fst (1 : Int)) fun (v6 : List UInt8) => (bif v6 == [] then (some (Sum.inl ((([], [], ()), b6_0_0, (26 : Int), ())))) else (bif Decidable.decide ((↑c8_0.length : Int) > (0 : Int)) then (some (Sum.inl ((([], [], ()), b6_0_0, (26 : Int), ())))) else (bif Decidable.decide ((0 : Int) ≤ (2 : Int)) && Decidable.decide ((2 : Int) ≤ (↑v4.fst.length : Int)) then (Option.bind (Go.Vx.idx (List.drop (Int.toNat (2 : Int)) v4.fst) (0 : Int)) fun (v11 : List UInt8) => (bif Decidable.decide ((0 : Int) ≤ (1 : Int)) && Decidable.decide ((1 : Int) ≤ (↑(List.drop (Int.toNat (2 : Int)) v4.fst).length : Int)) then (Option.bind (Go.Tw.yIl v11) fun (v12 : Int × Bool × Unit) => (bif !v12.snd.fst then (y5e b3_0_0 b4_0_0 b6_0_0 c7_0 c8_0 j1 v4 (Bool.true) (v12)) else (Option.bind (Go.Tw.y9n v12.fst) fun (v13 : List UInt8 × Unit) => (bif !v13.fst == v11 then (y5e b3_0_0 b4_0_0 b6_0_0 c7_0 c8_0 j1 v4 (Bool.true) (v12)) else (y5e b3_0_0 b4_0_0 b6_0_0 c7_0 c8_0 j1 v4 (Decidable.decide ((↑(Go.Lib.trimPrefix v11 [(45 : UInt8)]).length : Int) > (9 : Int))) (v12)))))) else none)) else none))))) else (bif (↑v4.fst.length : Int) != (5 : Int) then (some (Sum.inl ((([], [], ()), b6_0_0, (26 : Int), ())))) else (Option.bind (Go.Vx.idx v4.fst (0 : Int)) fun (v49 : List UInt8) => (bif v49 == [] then (some (Sum.inl ((([], [], ()), b6_0_0, (26 : Int), ())))) else (bif Decidable.decide ((0 : Int) ≤ (1 : Int)) && Decidable.decide ((1 : Int) ≤ (↑v4.fst.length : Int)) then (bif decide (((4 : Int)) ≤ (9223372036854775807 : Int)) then y1R (fun i__ s__ => y7Y (v4.fst) (b3_0_0) (b4_0_0) (b6_0_0) (j1) (c7_0) (c8_0) (j2) (Bool.false) i__ s__.1 s__.2.1 s__.2.2) (fun s__ => y7J (v4.fst) (b3_0_0) (b4_0_0) (b6_0_0) (j1) (c7_0) (c8_0) (j2) (Bool.false) s__.1 s__.2.1 s__.2.2) (((4 : Int)) - 0).toNat 0 ((List.drop (Int.toNat (1 : Int)) v4.fst), (Bool.false), ([(0 : Int), (0 : Int), (0 : Int), (0 : Int)])) else none) else none)))))))))

theorem y2W (n : Nat) (hn : big ≤ n)  (r0 : List UInt8 → Int → Int → Int → List Nod → List Lnk → Option (Bas × Int × Int × Unit)) (b3_0_0 : Int) (b4_0_0 : Int) (b6_0_0 : Int) (c7_0 : List Nod) (c8_0 : List Lnk) (j1 : List UInt8) (j2 : List UInt8) : LeF (elim some fun (s__ : (List UInt8 × Int × (List Nod) × (List Lnk))) => r0 s__.1 b3_0_0 b4_0_0 s__.2.1 s__.2.2.1 s__.2.2.2) (y5r b3_0_0 b4_0_0 b6_0_0 c7_0 c8_0 j1 j2) (y8D n r0 b3_0_0 b4_0_0 b6_0_0 c7_0 c8_0 j1 j2) :=
  (y6 fun v3 => (y6 fun v4 => (y5 (y7 rfl) (y6 fun v5 => (y5 (y5 (y7 rfl) (y6 fun v6 => (y5 (y7 rfl) (y5 (y7 rfl) (y5 (y6 fun v11 => (y5 (y6 fun v12 => (y5 (by apply y1N n hn) (y6 fun v13 => (y5 (by apply y1N n hn) (by apply y1N n hn))))) yL)) yL))))) (y5 (y7 rfl) (y6 fun v49 => (y5 (y7 rfl) (y5 (yV fun hx => by apply yB8 n hn; exact hx) yL)))))))))

noncomputable def y4b (b3_0_0 : Int) (b4_0_0 : Int) (b1_0_0 : List UInt8) (b6_0_0 : Int) (c7_0 : List Nod) (c8_0 : List Lnk) : Option ((Bas × Int × Int × Unit) ⊕ (List UInt8 × Int × (List Nod) × (List Lnk))) :=
  (bif Decidable.decide ((↑b1_0_0.length : Int) > (0 : Int)) then (bif Decidable.decide (Go.Lib.indexByte b1_0_0 (Int.toNat (10 : Int)).toUInt8 ≥ (0 : Int)) then (bif Decidable.decide ((0 : Int) ≤ Go.IntKind.i64.wrap (Go.Lib.indexByte b1_0_0 (Int.toNat (10 : Int)).toUInt8 + (1 : Int))) && Decidable.decide (Go.IntKind.i64.wrap (Go.Lib.indexByte b1_0_0 (Int.toNat (10 : Int)).toUInt8 + (1 : Int)) ≤ (↑b1_0_0.length : Int)) then (bif Decidable.decide ((0 : Int) ≤ Go.IntKind.i64.wrap (Go.Lib.indexByte b1_0_0 (Int.toNat (10 : Int)).toUInt8 + (1 : Int))) && Decidable.decide (Go.IntKind.i64.wrap (Go.Lib.indexByte b1_0_0 (Int.toNat (10 : Int)).toUInt8 + (1 : Int)) ≤ (↑b1_0_0.length : Int)) then (y5r b3_0_0 b4_0_0 b6_0_0 c7_0 c8_0 (List.drop (Go.IntKind.i64.wrap (Go.Lib.indexByte b1_0_0 (Int.toNat (10 : Int)).toUInt8 + (1 : Int))).toNat b1_0_0) (List.take (Go.IntKind.i64.wrap (Go.Lib.indexByte b1_0_0 (Int.toNat (10 : Int)).toUInt8 + (1 : Int))).toNat b1_0_0)) else none) else none) else (y5r b3_0_0 b4_0_0 b6_0_0 c7_0 c8_0 ([]) (b1_0_0))) else (Option.bind (Go.Tw.zj_M (c7_0, c8_0, ())) fun (v81 : Int × Unit) => (bif v81.fst != (0 : Int) then (some (Sum.inl ((([], [], ()), b6_0_0, v81.fst, ())))) else (some (Sum.inl (((c7_0, c8_0, ()), (0 : Int), (0 : Int), ())))))))

theorem yDT (n : Nat) (hn : big ≤ n)  (b3_0_0 : Int) (b4_0_0 : Int) (b1_0_0 : List UInt8) (b6_0_0 : Int) (c7_0 : List Nod) (c8_0 : List Lnk) : LeF some (yDO (fun s__ => y4b b3_0_0 b4_0_0 s__.1 s__.2.1 s__.2.2.1 s__.2.2.2) wMax (b1_0_0, b6_0_0, c7_0, c8_0)) (y71 n n b1_0_0 b3_0_0 b4_0_0 b6_0_0 c7_0 c8_0) := by
  refine yJD (f := some) (W := fun k__ s__ => y71 n k__ s__.1 b3_0_0 b4_0_0 s__.2.1 s__.2.2.1 s__.2.2.2) (body := (fun s__ => y4b b3_0_0 b4_0_0 s__.1 s__.2.1 s__.2.2.1 s__.2.2.2)) (fun k__ s__ => ?_) wMax n (b1_0_0, b6_0_0, c7_0, c8_0) (by unfold big at hn; unfold wMax; omega)
  show LeF _ _ (yDv n (y71 n k__) s__.1 b3_0_0 b4_0_0 s__.2.1 s__.2.2.1 s__.2.2.2)
  exact (y5 (y5 (y5 (y5 (by apply y2W n hn) yL) yL) (by apply y2W n hn)) (y6 fun v81 => (y5 (y7 rfl) (y7 rfl))))

noncomputable def yFo (s : List UInt8) : Option (Bas × Int × Int × Unit) :=
  (bif Decidable.decide ((↑s.length : Int) > (4096 : Int)) then (some ((([], [], ()), (0 : Int), (27 : Int), ()))) else (yDO (fun s__ => y4b ((0 : Int)) ((0 : Int)) s__.1 s__.2.1 s__.2.2.1 s__.2.2.2) wMax ((s), ((0 : Int)), ([]), ([]))))

theorem yMk (s : List UInt8) (y : Bas × Int × Int × Unit) (h : yFo s = some y) : ∃ n, yJN n s = some y :=
  ⟨big, LeF.top (show LeF some (yFo s) (yJN big s) from (fun (n : Nat) (hn : big ≤ n) => show LeF some (yFo s) (yJN n s) from (y5 (y7 rfl) (by apply yDT n hn))) big (Nat.le_refl _)) h⟩
noncomputable def z0O_e : Entry := { f := 79, args := yLK, rS := yNH, m := fun x => yFo x.1 }
theorem yKt : FnOK Tryz.prog z0O_e := y2Y (g := yO5) (fn := Tryz.f79) y0q y2M (yC yQc (yC yO2 (yC yJ4 (yC yPT (yC yKq (yC yPj (yC yQ8 eNil))))))) (by kernel_rfl) (by kernel_rfl) (by kernel_rfl) (fun x y h => let ⟨n, hn⟩ := yMk x.1 y h; ⟨yKs n, (y5Y yKR (y5Y yJI (y5Y yJc (y5Y yJU iNil)))), (yPW n x).trans hn⟩)

end Go.Tw
end

section
set_option linter.all false
set_option maxRecDepth 1000000
namespace Go.Tw
open Go.Vx Go.Vx.B Go.Proofs
/-! ### tidewaylaw04.BasinTexts -/
abbrev zo_a : Ty := .pair t25 (.pair t9 .unit)
abbrev zo_r : Ty := .pair t4 .unit
noncomputable def zo_g : G := { T := T, E := [z0c_e, z0V_e, z0W_e, z0P_e, z0O_e, zq_e, z0b_e, z0a_e, z0i_e, zx_e], mU := [], fz := [] }
def zo_k : List (List Nat) := []
noncomputable def yOi (n : Nat) : Ann := { keep := zo_k, fuel := n, inl := [], deep := 0 }
noncomputable def yDd (n : Nat) (s : List UInt8) (v10 : List UInt8 × Int × Unit) (v11 : Go.Tw.Bas × Int × Int × Unit) (v12 : Int × Unit) (j14 : List UInt8) : Option (Bool × Unit) :=
  (Option.bind (Go.Tw.yJS s) fun (v15 : Go.Tw.Bas × Int × Int × Unit) => (bif v10.fst == j14 then (bif v10.snd.fst == v12.fst then (Option.bind (Go.Tw.yGE (v11.fst.fst, v11.fst.snd.fst, ())) fun (v16 : Go.Tw.Bas × Unit) => (Option.bind (Go.Tw.zx_M v16.fst (v15.fst.fst, v15.fst.snd.fst, ())) fun (v17 : Bool × Unit) => (bif v17.fst then (bif v11.snd.fst == v15.snd.fst then (bif v11.snd.snd.fst == v15.snd.snd.fst then (Option.bind (Go.Tw.yP0) fun (v18 : Bool × Unit) => Option.some (v18.fst, ())) else Option.some (Bool.false, ())) else Option.some (Bool.false, ())) else Option.some (Bool.false, ())))) else Option.some (Bool.false, ())) else Option.some (Bool.false, ())))

noncomputable def yEC (n : Nat) (b : Bas) (s : List UInt8) : Option (Bool × Unit) :=
  (Option.bind (Go.Tw.yMI b) fun (v9 : Go.Tw.Bas × Unit) => (Option.bind (Go.Tw.yIw v9.fst) fun (v10 : List UInt8 × Int × Unit) => (Option.bind (Go.Tw.yFo s) fun (v11 : Go.Tw.Bas × Int × Int × Unit) => (Option.bind (Go.Tw.zq_M b) fun (v12 : Int × Unit) => (bif v12.fst == (0 : Int) then (Option.bind (Go.Tw.yJL b) fun (v13 : List UInt8 × Unit) => (yDd n s v10 v11 v12 (v13.fst))) else (yDd n s v10 v11 v12 ([])))))))

noncomputable def zo_m (n : Nat) (b : Bas) (s : List UInt8) : Option (Bool × Unit) :=
  (Option.bind (Go.Tw.yMj b) fun (v0 : Bool × Unit) => (bif !v0.fst then (Option.bind (Go.Tw.yP0) fun (v3 : Bool × Unit) => Option.some (v3.fst, ())) else (bif Decidable.decide ((↑s.length : Int) > (300 : Int)) then (bif (↑s.length : Int) != (4097 : Int) then (Option.bind (Go.Tw.yP0) fun (v4 : Bool × Unit) => Option.some (v4.fst, ())) else (yEC n b s)) else (yEC n b s))))

theorem yQ7 (n : Nat) (x : zo_a.den) : runF zo_g (yOi n) Tryz.f13 zo_a zo_r x = zo_m n x.1 x.2.1 := by kernel_rfl

noncomputable def zo_M (b : Bas) (s : List UInt8) : Option (Bool × Unit) := zo_m 0 b s

theorem yN1 (b : Bas) (s : List UInt8) (y : Bool × Unit) (h : zo_M b s = some y) : ∃ n, zo_m n b s = some y := ⟨0, h⟩
noncomputable def zo_e : Entry := { f := 13, args := zo_a, rS := zo_r, m := fun x => zo_M x.1 x.2.1 }
theorem yQh : FnOK Tryz.prog zo_e := y2Y (g := zo_g) (fn := Tryz.f13) y0q y2M (yC yL7 (yC yKb (yC yKa (yC yHr (yC yKt (yC yLj (yC yP7 (yC yPK (yC yKi (yC yOs eNil)))))))))) (by kernel_rfl) (by kernel_rfl) (by kernel_rfl) (fun x y h => let ⟨n, hn⟩ := yN1 x.1 x.2.1 y h; ⟨yOi n, iNil, (yQ7 n x).trans hn⟩)

end Go.Tw
end

section
set_option linter.all false
set_option maxRecDepth 1000000
namespace Go.Tw
open Go.Vx Go.Vx.B Go.Proofs Go.RowKit Go.Lib

theorem y57 {P : Program} {w : World} {ops : Array Oper} {rest : List Oper} {o : Oper} {a : Act} {Q : Exit → Act → World → Prop} (hgd : o.guard = none) (s x : Operand) (t : TypeId)
    (ho : o.op = .call { callee := .builtin .append, args := #[s, x], argTypes := #[t, t] }) {e : TypeId} {i : TypeInfo} (ht : P.underlying t = some (.slice e)) (hi : P.info? e = some i)
    {p q : Option Addr} {n c c' : Nat} (hs : a.eval s = .slice p n c) (hx : a.eval x = .slice q 0 c') (hn : n ≤ c) (h : wpList P ops Q rest (a.put o.dst (.slice p n c)) w) : wpList P ops Q (o :: rest) a w :=
  wpList_plain hgd fun _ hK => by
    have hr := y3y (P := P) (w := w) (ty := o.type) ht hi (p := p) (q := q) (c' := c') hn
    unfold Oper.wp execOp
    simp only [ho, resolve, invoke, builtin, Sem.run_bind, Sem.run_pure, Result.andThen_ok, List.map_toArray, List.map_cons, List.map_nil, hs, hx, hr]
    exact hK _ _ h

noncomputable def intsO_e : Entry := { z0g_e with own := some (3, t3) }
set_option maxHeartbeats 2000000 in
theorem yC5 (i0 : TypeInfo) (z : Value) (hi : Tryz.prog.info? 3 = some i0) (hz0 : i0.zero = some z) (hz1 : i0.size = 1) (hzs : z.cells.size = 1)
    (hz2 : i0.bytes ≤ 2048) (p : Option Addr) (n c : Nat) (news : List Value) (w : World) (hp : p = none → n = 0) (hl : news.length = n * 1) (hn : n ≤ memMax)
    (hc : ∀ a, p = some a → ∀ j u, news[j]? = some u → w.cell? (a.add j) = some u) (h1 : ∀ u ∈ news, u.oneCell' = true) :
    Calls Tryz.prog 20 #[.slice p n c] w fun e w' => ∃ v', e = .returned v' ∧ w'.ownsRow w.heap.size 3 1 v' n news ∧ Below w.heap.size w w' := by
  have hmx : n ≤ maxLen := by simp only [memMax] at hn; simp only [maxLen]; omega
  have hbig : n * i0.bytes ≤ 140737488355328 := by
    have : n * i0.bytes ≤ 68719476736 * 2048 := Nat.mul_le_mul hn hz2
    omega
  have mixed := y0q
  have u := Tryz.underlying26; have a := Tryz.isAgg26; have z' := Tryz.sizeOf26; have v := Tryz.zeroValue26
  have r : ∀ w, Sem.run Tryz.prog (underlying 26) w = .ok (TypeDesc.slice 3) w := run_underlying Tryz.underlying26
  cases p with
  | none =>
    have h0 := hp rfl
    subst h0
    have hnews : news = [] := List.eq_nil_of_length_eq_zero (by simpa using hl)
    subst hnews
    go_enter Tryz.func20, Tryz.ntmps20
    go_wp2_with (at_builtin; refine y57 rfl _ _ 26 rfl Tryz.underlying26 hi rfl rfl (Nat.le_refl _) ?_)
    go_wp2
    go_ret
    refine ⟨_, rfl, World.ownsRow_made w #[] 0 (Nat.le_refl _) (Nat.zero_le _) (by simp), ?_⟩
    exact (Below.refl _ w).alloc (Nat.le_refl _) _
  | some p =>
    have A : Aside (∀ j u, news[j]? = some u → w.cell? (p.add j) = some u) := hc p rfl
    clear hc
    go_enter Tryz.func20, Tryz.ntmps20
    go_wp2_with (at_builtin; refine wpList_append_own _ rfl _ _ 26 rfl w.heap.size 3 i0 z 1 i0.bytes Tryz.underlying26 hi hz0 hz1 rfl hzs (by decide) _ _ _ rfl (World.ownsRow_made w #[] 0 (Nat.le_refl _) (Nat.zero_le _) (by simp)) p n c news rfl ?qc1 ?qc2 ?qc3 ?qc4 ?qc5 ?qc6 ?_)
    case qc1 => exact hl
    case qc2 =>
      intro j u hj
      exact Lib.cell?_alloc_some _ (A.out j u hj)
    case qc3 => exact h1
    case qc4 => rw [Nat.zero_add]; exact hmx
    case qc5 => rw [Nat.zero_add]; exact hbig
    case qc6 => simp
    intro v' w1 hown hgrow hnil
    go_wp2
    go_ret
    refine ⟨v', rfl, by simpa using hown, ?_⟩
    exact ((Below.refl _ w).alloc (Nat.le_refl _) _).grown hgrow (by simp) (by intro k hk; simp [Value.ownBlock] at hk; omega)

theorem yFt : ∃ (inf : TypeInfo) (z : Value), Tryz.prog.info? 3 = some inf ∧ inf.zero = some z ∧ inf.size = 1 ∧ z.cells.size = 1 ∧ inf.bytes ≤ 2048 := by
  obtain ⟨hu, hF, hs0⟩ := yJ (u := t3) (y2M.shape (t := 26) (i := { ty := t26, elem := 3, fields := [] }) (by kernel_rfl)) (.inl rfl)
  obtain ⟨inf, d, f1, f2, f3, f4, f5, f6⟩ := hF.ex
  refine ⟨inf, _, f1, f6, f3, ?_, f4⟩
  rw [y1b (yQ _) (y3K _), List.size_toArray, yQ]
  rfl

theorem yGm : yOO Tryz.prog 20 (3, t3) := by
  intro w p n c news hl hn hp hc h1
  obtain ⟨inf, z, i1, i2, i3, i4, i5⟩ := yFt
  exact yC5 inf z i1 i2 i3 i4 i5 p n c news w hp hl hn hc h1

theorem yJw : FnOK Tryz.prog intsO_e :=
  ⟨yL2.1, yL2.2.1, fun q hq => by
    cases (show some ((3, t3) : TypeId × Ty) = some q from hq)
    exact yGm, fun q hq => by cases hq⟩

end Go.Tw
end

section
set_option linter.all false
set_option maxRecDepth 1000000
namespace Go.Tw
open Go.Vx Go.Vx.B Go.Proofs
/-! ### tidewaylaw04.BasinReads -/
abbrev zn_a : Ty := .pair t25 (.pair t26 (.pair t9 .unit))
abbrev zn_r : Ty := .pair t4 .unit
noncomputable def zn_g : G := { T := T, E := [z0c_e, z0V_e, z0O_e, z0P_e, za_e, z0W_e, intsO_e, z0d_e, z0M_e, z0i_e, zx_e, z0Y_e, z0F_e], mU := [208, 210], fz := [] }
def zn_k : List (List Nat) := [[1, 3, 17, 19, 163, 164]]
noncomputable def yN7 (n : Nat) : Ann := { keep := zn_k, fuel := n, inl := [], deep := 0 }
noncomputable def yDl (n : Nat) (r37 : List Int → Bas → List Int → List Int → Int → Int → Option (Bool × Unit)) (v1_37 : List Int) (b3_37 : Bas) (r17_37 : List Int) (a19_37 : List Int) (t163_37 : Int) (t164_37 : Int) : Option (Bool × Unit) :=
  (bif Decidable.decide (t164_37 < t163_37) then (Option.bind (Go.Vx.idx r17_37 t164_37) fun (v38 : Int) => (Option.bind (Go.Tw.yFg a19_37 t164_37) fun (v39 : Bool × Unit) => (bif !Decidable.decide (v38 < (0 : Int)) == v39.fst then Option.some (Bool.false, ()) else (Option.bind (Go.Vx.idx r17_37 t164_37) fun (v40 : Int) => (bif Decidable.decide (v40 < (-1 : Int)) then Option.some (Bool.false, ()) else (Option.bind (Go.Vx.idx r17_37 t164_37) fun (v41 : Int) => (bif Decidable.decide (v41 > (100000000 : Int)) then Option.some (Bool.false, ()) else (Option.bind (Go.Vx.idx r17_37 t164_37) fun (v46 : Int) => (bif Decidable.decide (v46 < (0 : Int)) then r37 v1_37 b3_37 r17_37 a19_37 t163_37 (Go.IntKind.i64.wrap (t164_37 + (1 : Int))) else (Option.bind (Go.Vx.idx v1_37 t164_37) fun (v47 : Int) => (Option.bind (Go.Vx.idx r17_37 t164_37) fun (v48 : Int) => (bif Decidable.decide (Go.IntKind.i64.wrap (v47 + v48) ≥ (100000000 : Int)) then r37 v1_37 b3_37 r17_37 a19_37 t163_37 (Go.IntKind.i64.wrap (t164_37 + (1 : Int))) else (bif Decidable.decide (v1_37.length ≤ Go.Vx.memMax) then (bif Decidable.decide (v1_37.length ≤ Go.Vx.memMax) then (Option.bind (Go.Vx.idx v1_37 t164_37) fun (v51 : Int) => (Option.bind (Go.Vx.idx r17_37 t164_37) fun (v52 : Int) => (Option.bind (Go.Vx.idx v1_37 t164_37) fun (v53 : Int) => (Option.bind (Go.Vx.idx r17_37 t164_37) fun (v54 : Int) => (Option.bind (Go.Vx.idx v1_37 t164_37) fun (v55 : Int) => (Option.bind (v1_37[t164_37.toNat]?) fun (v56 : Int) => (Option.bind (Go.Vx.idx v1_37 t164_37) fun (v57 : Int) => (Option.bind (v1_37[t164_37.toNat]?) fun (v58 : Int) => (Option.bind (Go.Tw.yMI b3_37) fun (v59 : Go.Tw.Bas × Unit) => (Option.bind (Go.Tw.yKA v59.fst (v1_37.set t164_37.toNat (Go.IntKind.i64.wrap (v51 + v52)))) fun (v60 : List Int × Int × Unit) => (Option.bind (Go.Tw.yMI b3_37) fun (v61 : Go.Tw.Bas × Unit) => (Option.bind (Go.Tw.yKA v61.fst (v1_37.set t164_37.toNat (Go.IntKind.i64.wrap (Go.IntKind.i64.wrap (v53 + v54) + (1 : Int))))) fun (v62 : List Int × Int × Unit) => (bif v60.snd.fst != (0 : Int) then Option.some (Bool.false, ()) else (bif v62.snd.fst != (0 : Int) then Option.some (Bool.false, ()) else (Option.bind (Go.Tw.yFg v60.fst t164_37) fun (v63 : Bool × Unit) => (bif v63.fst then Option.some (Bool.false, ()) else (Option.bind (Go.Tw.yFg v62.fst t164_37) fun (v64 : Bool × Unit) => (bif !v64.fst then Option.some (Bool.false, ()) else r37 v1_37 b3_37 r17_37 a19_37 t163_37 (Go.IntKind.i64.wrap (t164_37 + (1 : Int))))))))))))))))))))) else none) else none))))))))))))) else (Option.bind (Go.Tw.yP0) fun (v71 : Bool × Unit) => Option.some (v71.fst, ())))

noncomputable def y6k (n : Nat)  (k : Nat) (v1_37 : List Int) (b3_37 : Bas) (r17_37 : List Int) (a19_37 : List Int) (t163_37 : Int) (t164_37 : Int) : Option (Bool × Unit) :=
  iter (fun r y => yDl n (fun v1_37 b3_37 r17_37 a19_37 t163_37 t164_37 => r ((v1_37, (b3_37, (r17_37, (a19_37, (t163_37, (t164_37, ())))))), ((), ()))) y.1.1 y.1.2.1 y.1.2.2.1 y.1.2.2.2.1 y.1.2.2.2.2.1 y.1.2.2.2.2.2.1) k ((v1_37, (b3_37, (r17_37, (a19_37, (t163_37, (t164_37, ())))))), ((), ()))

noncomputable def yA3 (n : Nat) (b : Bas) (v : List Int) : Option (Bool × Unit) :=
  (Option.bind (Go.Tw.za_M b v) fun (v10 : Int × Unit) => (bif v10.fst != (0 : Int) then (Option.bind (Go.Tw.yP0) fun (v11 : Bool × Unit) => Option.some (v11.fst, ())) else (Option.bind (Go.Tw.yMI b) fun (v12 : Go.Tw.Bas × Unit) => (Option.bind (Go.Tw.yIw v12.fst) fun (v13 : List UInt8 × Int × Unit) => (Option.bind (Go.Tw.yFo v13.fst) fun (v14 : Go.Tw.Bas × Int × Int × Unit) => (Option.bind (Go.Tw.yMI b) fun (v15 : Go.Tw.Bas × Unit) => (Option.bind (Go.Tw.yLt v) fun (v16 : List Int × Unit) => (Option.bind (Go.Tw.yJ7 v15.fst v16.fst) fun (v17 : List Int × Int × Unit) => (Option.bind (Go.Tw.yMI b) fun (v18 : Go.Tw.Bas × Unit) => (Option.bind (Go.Tw.yLt v) fun (v19 : List Int × Unit) => (Option.bind (Go.Tw.yKA v18.fst v19.fst) fun (v20 : List Int × Int × Unit) => (bif Go.IntKind.i64.wrap (Go.IntKind.i64.wrap (Go.IntKind.i64.wrap (v13.snd.fst + v14.snd.snd.fst) + v17.snd.fst) + v20.snd.fst) != (0 : Int) then Option.some (Bool.false, ()) else (bif v14.snd.fst != (0 : Int) then Option.some (Bool.false, ()) else (Option.bind (Go.Tw.yGE (v14.fst.fst, v14.fst.snd.fst, ())) fun (v21 : Go.Tw.Bas × Unit) => (Option.bind (Go.Tw.zx_M v21.fst b) fun (v22 : Bool × Unit) => (bif !v22.fst then Option.some (Bool.false, ()) else (Option.bind (Go.Tw.yGC v13.fst (10 : Int)) fun (v23 : List (List UInt8) × Unit) => (bif (↑v23.fst.length : Int) != Go.IntKind.i64.wrap (Go.IntKind.i64.wrap ((↑b.fst.length : Int) + (↑b.snd.fst.length : Int)) + (1 : Int)) then Option.some (Bool.false, ()) else (bif (↑v17.fst.length : Int) != (↑v.length : Int) then Option.some (Bool.false, ()) else (bif (↑v13.fst.length : Int) == (0 : Int) then Option.some (Bool.false, ()) else (bif Decidable.decide ((0 : Int) ≤ Go.IntKind.i64.wrap ((↑v13.fst.length : Int) - (1 : Int))) && Decidable.decide (Go.IntKind.i64.wrap ((↑v13.fst.length : Int) - (1 : Int)) ≤ (↑v13.fst.length : Int)) then (Option.bind (Go.Tw.yFo (List.take (Go.IntKind.i64.wrap ((↑v13.fst.length : Int) - (1 : Int))).toNat v13.fst)) fun (v34 : Go.Tw.Bas × Int × Int × Unit) => (bif v34.snd.snd.fst != (26 : Int) then Option.some (Bool.false, ()) else (bif v34.snd.fst != Go.IntKind.i64.wrap (Go.IntKind.i64.wrap ((↑b.fst.length : Int) + (↑b.snd.fst.length : Int)) - (1 : Int)) then Option.some (Bool.false, ()) else (y6k n n (v) (b) (v17.fst) (v20.fst) ((↑v.length : Int)) ((0 : Int)))))) else none)))))))))))))))))))))

noncomputable def zn_m (n : Nat) (b : Bas) (v : List Int) (s : List UInt8) : Option (Bool × Unit) :=
  (Option.bind (Go.Tw.yMj b) fun (v0 : Bool × Unit) => (bif !v0.fst then (Option.bind (Go.Tw.yP0) fun (v3 : Bool × Unit) => Option.some (v3.fst, ())) else (bif Decidable.decide ((↑s.length : Int) > (300 : Int)) then (Option.bind (Go.Tw.yP0) fun (v4 : Bool × Unit) => Option.some (v4.fst, ())) else (Option.bind (Go.Tw.yFo s) fun (v5 : Go.Tw.Bas × Int × Int × Unit) => (bif v5.snd.snd.fst == (0 : Int) then (Option.bind (Go.Tw.yIw (v5.fst.fst, v5.fst.snd.fst, ())) fun (v6 : List UInt8 × Int × Unit) => (bif v6.snd.fst != (0 : Int) then Option.some (Bool.false, ()) else (bif !v6.fst == s then Option.some (Bool.false, ()) else (yA3 n b v)))) else (yA3 n b v))))))

theorem yQ5 (n : Nat) (x : zn_a.den) : runF zn_g (yN7 n) Tryz.f14 zn_a zn_r x = zn_m n x.1 x.2.1 x.2.2.1 := by kernel_rfl

noncomputable def y9K (v1_37 : List Int) (b3_37 : Bas) (r17_37 : List Int) (a19_37 : List Int) (t163_37 : Int) (t164_37 : Int) : Option ((Bool × Unit) ⊕ Unit) :=
  (Option.bind (Go.Vx.idx r17_37 t164_37) fun (v38 : Int) => (Option.bind (Go.Tw.yFg a19_37 t164_37) fun (v39 : Bool × Unit) => (bif !Decidable.decide (v38 < (0 : Int)) == v39.fst then (some (Sum.inl ((Bool.false, ())))) else (Option.bind (Go.Vx.idx r17_37 t164_37) fun (v40 : Int) => (bif Decidable.decide (v40 < (-1 : Int)) then (some (Sum.inl ((Bool.false, ())))) else (Option.bind (Go.Vx.idx r17_37 t164_37) fun (v41 : Int) => (bif Decidable.decide (v41 > (100000000 : Int)) then (some (Sum.inl ((Bool.false, ())))) else (Option.bind (Go.Vx.idx r17_37 t164_37) fun (v46 : Int) => (bif Decidable.decide (v46 < (0 : Int)) then (some (Sum.inr ())) else (Option.bind (Go.Vx.idx v1_37 t164_37) fun (v47 : Int) => (Option.bind (Go.Vx.idx r17_37 t164_37) fun (v48 : Int) => (bif Decidable.decide (Go.IntKind.i64.wrap (v47 + v48) ≥ (100000000 : Int)) then (some (Sum.inr ())) else (bif Decidable.decide (v1_37.length ≤ Go.Vx.memMax) then (bif Decidable.decide (v1_37.length ≤ Go.Vx.memMax) then (Option.bind (Go.Vx.idx v1_37 t164_37) fun (v51 : Int) => (Option.bind (Go.Vx.idx r17_37 t164_37) fun (v52 : Int) => (Option.bind (Go.Vx.idx v1_37 t164_37) fun (v53 : Int) => (Option.bind (Go.Vx.idx r17_37 t164_37) fun (v54 : Int) => (Option.bind (Go.Vx.idx v1_37 t164_37) fun (v55 : Int) => (Option.bind (v1_37[t164_37.toNat]?) fun (v56 : Int) => (Option.bind (Go.Vx.idx v1_37 t164_37) fun (v57 : Int) => (Option.bind (v1_37[t164_37.toNat]?) fun (v58 : Int) => (Option.bind (Go.Tw.yMI b3_37) fun (v59 : Go.Tw.Bas × Unit) => (Option.bind (Go.Tw.yKA v59.fst (v1_37.set t164_37.toNat (Go.IntKind.i64.wrap (v51 + v52)))) fun (v60 : List Int × Int × Unit) => (Option.bind (Go.Tw.yMI b3_37) fun (v61 : Go.Tw.Bas × Unit) => (Option.bind (Go.Tw.yKA v61.fst (v1_37.set t164_37.toNat (Go.IntKind.i64.wrap (Go.IntKind.i64.wrap (v53 + v54) + (1 : Int))))) fun (v62 : List Int × Int × Unit) => (bif v60.snd.fst != (0 : Int) then (some (Sum.inl ((Bool.false, ())))) else (bif v62.snd.fst != (0 : Int) then (some (Sum.inl ((Bool.false, ())))) else (Option.bind (Go.Tw.yFg v60.fst t164_37) fun (v63 : Bool × Unit) => (bif v63.fst then (some (Sum.inl ((Bool.false, ())))) else (Option.bind (Go.Tw.yFg v62.fst t164_37) fun (v64 : Bool × Unit) => (bif !v64.fst then (some (Sum.inl ((Bool.false, ())))) else (some (Sum.inr ())))))))))))))))))))) else none) else none)))))))))))))

noncomputable def y93 (v1_37 : List Int) (b3_37 : Bas) (r17_37 : List Int) (a19_37 : List Int) (t163_37 : Int) : Option (Bool × Unit) :=
  (Option.bind (Go.Tw.yP0) fun (v71 : Bool × Unit) => (some ((v71.fst, ()))))

theorem yCv (n : Nat) (hn : big ≤ n)  (v1_37 : List Int) (b3_37 : Bas) (r17_37 : List Int) (a19_37 : List Int) (t163_37 : Int) (hx : (t163_37) ≤ (9223372036854775807 : Int)) : LeF some (y1R (fun i__ s__ => y9K v1_37 b3_37 r17_37 a19_37 t163_37 i__) (fun s__ => y93 v1_37 b3_37 r17_37 a19_37 t163_37) ((t163_37) - 0).toNat 0 ()) (y6k n n v1_37 b3_37 r17_37 a19_37 t163_37 0) := by
  refine y4G (f := some) (W := fun k__ i__ s__ => y6k n k__ v1_37 b3_37 r17_37 a19_37 t163_37 i__) (body := (fun i__ s__ => y9K v1_37 b3_37 r17_37 a19_37 t163_37 i__)) (fin := (fun s__ => y93 v1_37 b3_37 r17_37 a19_37 t163_37)) (fun k__ i__ s__ => ?_) hx () n 0 (by decide) (by unfold big at hn; omega)
  show LeF _ _ (yDl n (y6k n k__) v1_37 b3_37 r17_37 a19_37 t163_37 i__)
  exact y5 (y6 fun v38 => (y6 fun v39 => (y5 (y7 rfl) (y6 fun v40 => (y5 (y7 rfl) (y6 fun v41 => (y5 (y7 rfl) (y6 fun v46 => (y5 (y7 rfl) (y6 fun v47 => (y6 fun v48 => (y5 (y7 rfl) (y5 (y5 (y6 fun v51 => (y6 fun v52 => (y6 fun v53 => (y6 fun v54 => (y6 fun v55 => (y6 fun v56 => (y6 fun v57 => (y6 fun v58 => (y6 fun v59 => (y6 fun v60 => (y6 fun v61 => (y6 fun v62 => (y5 (y7 rfl) (y5 (y7 rfl) (y6 fun v63 => (y5 (y7 rfl) (y6 fun v64 => (y5 (y7 rfl) (y7 rfl))))))))))))))))))) yL) yL))))))))))))) (y0R (y6 fun v71 => (y7 rfl)))

noncomputable def yBe (b : Bas) (v : List Int) : Option (Bool × Unit) :=
  (Option.bind (Go.Tw.za_M b v) fun (v10 : Int × Unit) => (bif v10.fst != (0 : Int) then (Option.bind (Go.Tw.yP0) fun (v11 : Bool × Unit) => (some ((v11.fst, ())))) else (Option.bind (Go.Tw.yMI b) fun (v12 : Go.Tw.Bas × Unit) => (Option.bind (Go.Tw.yIw v12.fst) fun (v13 : List UInt8 × Int × Unit) => (Option.bind (Go.Tw.yFo v13.fst) fun (v14 : Go.Tw.Bas × Int × Int × Unit) => (Option.bind (Go.Tw.yMI b) fun (v15 : Go.Tw.Bas × Unit) => (Option.bind (Go.Tw.yLt v) fun (v16 : List Int × Unit) => (Option.bind (Go.Tw.yJ7 v15.fst v16.fst) fun (v17 : List Int × Int × Unit) => (Option.bind (Go.Tw.yMI b) fun (v18 : Go.Tw.Bas × Unit) => (Option.bind (Go.Tw.yLt v) fun (v19 : List Int × Unit) => (Option.bind (Go.Tw.yKA v18.fst v19.fst) fun (v20 : List Int × Int × Unit) => (bif Go.IntKind.i64.wrap (Go.IntKind.i64.wrap (Go.IntKind.i64.wrap (v13.snd.fst + v14.snd.snd.fst) + v17.snd.fst) + v20.snd.fst) != (0 : Int) then (some ((Bool.false, ()))) else (bif v14.snd.fst != (0 : Int) then (some ((Bool.false, ()))) else (Option.bind (Go.Tw.yGE (v14.fst.fst, v14.fst.snd.fst, ())) fun (v21 : Go.Tw.Bas × Unit) => (Option.bind (Go.Tw.zx_M v21.fst b) fun (v22 : Bool × Unit) => (bif !v22.fst then (some ((Bool.false, ()))) else (Option.bind (Go.Tw.yGC v13.fst (10 : Int)) fun (v23 : List (List UInt8) × Unit) => (bif (↑v23.fst.length : Int) != Go.IntKind.i64.wrap (Go.IntKind.i64.wrap ((↑b.fst.length : Int) + (↑b.snd.fst.length : Int)) + (1 : Int)) then (some ((Bool.false, ()))) else (bif (↑v17.fst.length : Int) != (↑v.length : Int) then (some ((Bool.false, ()))) else (bif (↑v13.fst.length : Int) == (0 : Int) then (some ((Bool.false, ()))) else (bif Decidable.decide ((0 : Int) ≤ Go.IntKind.i64.wrap ((↑v13.fst.length : Int) - (1 : Int))) && Decidable.decide (Go.IntKind.i64.wrap ((↑v13.fst.length : Int) - (1 : Int)) ≤ (↑v13.fst.length : Int)) then (Option.bind (Go.Tw.yFo (List.take (Go.IntKind.i64.wrap ((↑v13.fst.length : Int) - (1 : Int))).toNat v13.fst)) fun (v34 : Go.Tw.Bas × Int × Int × Unit) => (bif v34.snd.snd.fst != (26 : Int) then (some ((Bool.false, ()))) else (bif v34.snd.fst != Go.IntKind.i64.wrap (Go.IntKind.i64.wrap ((↑b.fst.length : Int) + (↑b.snd.fst.length : Int)) - (1 : Int)) then (some ((Bool.false, ()))) else (bif decide (((↑v.length : Int)) ≤ (9223372036854775807 : Int)) then y1R (fun i__ s__ => y9K (v) (b) (v17.fst) (v20.fst) ((↑v.length : Int)) i__) (fun s__ => y93 (v) (b) (v17.fst) (v20.fst) ((↑v.length : Int))) (((↑v.length : Int)) - 0).toNat 0 () else none)))) else none)))))))))))))))))))))

theorem y1K (n : Nat) (hn : big ≤ n)  (b : Bas) (v : List Int) : LeF some (yBe b v) (yA3 n b v) :=
  (y6 fun v10 => (y5 (y6 fun v11 => (y7 rfl)) (y6 fun v12 => (y6 fun v13 => (y6 fun v14 => (y6 fun v15 => (y6 fun v16 => (y6 fun v17 => (y6 fun v18 => (y6 fun v19 => (y6 fun v20 => (y5 (y7 rfl) (y5 (y7 rfl) (y6 fun v21 => (y6 fun v22 => (y5 (y7 rfl) (y6 fun v23 => (y5 (y7 rfl) (y5 (y7 rfl) (y5 (y7 rfl) (y5 (y6 fun v34 => (y5 (y7 rfl) (y5 (y7 rfl) (yV fun hx => by apply yCv n hn; exact hx)))) yL)))))))))))))))))))))

noncomputable def zn_M (b : Bas) (v : List Int) (s : List UInt8) : Option (Bool × Unit) :=
  (Option.bind (Go.Tw.yMj b) fun (v0 : Bool × Unit) => (bif !v0.fst then (Option.bind (Go.Tw.yP0) fun (v3 : Bool × Unit) => (some ((v3.fst, ())))) else (bif Decidable.decide ((↑s.length : Int) > (300 : Int)) then (Option.bind (Go.Tw.yP0) fun (v4 : Bool × Unit) => (some ((v4.fst, ())))) else (Option.bind (Go.Tw.yFo s) fun (v5 : Go.Tw.Bas × Int × Int × Unit) => (bif v5.snd.snd.fst == (0 : Int) then (Option.bind (Go.Tw.yIw (v5.fst.fst, v5.fst.snd.fst, ())) fun (v6 : List UInt8 × Int × Unit) => (bif v6.snd.fst != (0 : Int) then (some ((Bool.false, ()))) else (bif !v6.fst == s then (some ((Bool.false, ()))) else (yBe b v)))) else (yBe b v))))))

theorem yOn (b : Bas) (v : List Int) (s : List UInt8) (y : Bool × Unit) (h : zn_M b v s = some y) : ∃ n, zn_m n b v s = some y :=
  ⟨big, LeF.top (show LeF some (zn_M b v s) (zn_m big b v s) from (fun (n : Nat) (hn : big ≤ n) => show LeF some (zn_M b v s) (zn_m n b v s) from (y6 fun v0 => (y5 (y6 fun v3 => (y7 rfl)) (y5 (y6 fun v4 => (y7 rfl)) (y6 fun v5 => (y5 (y6 fun v6 => (y5 (y7 rfl) (y5 (y7 rfl) (by apply y1K n hn)))) (by apply y1K n hn))))))) big (Nat.le_refl _)) h⟩
noncomputable def zn_e : Entry := { f := 14, args := zn_a, rS := zn_r, m := fun x => zn_M x.1 x.2.1 x.2.2.1 }
theorem yQi : FnOK Tryz.prog zn_e := y2Y (g := zn_g) (fn := Tryz.f14) y0q y2M (yC yL7 (yC yKb (yC yKt (yC yHr (yC yPc (yC yKa (yC yJw (yC yL4 (yC yLE (yC yKi (yC yOs (yC yKx (yC yNx eNil))))))))))))) (by kernel_rfl) (by kernel_rfl) (by kernel_rfl) (fun x y h => let ⟨n, hn⟩ := yOn x.1 x.2.1 x.2.2.1 y h; ⟨yN7 n, iNil, (yQ5 n x).trans hn⟩)

end Go.Tw
end
