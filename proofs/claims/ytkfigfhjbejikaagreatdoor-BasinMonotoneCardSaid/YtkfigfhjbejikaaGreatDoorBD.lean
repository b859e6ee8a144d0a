import Derived.Test.YtkfigfhjbejikaaGreatDoorBT
import Derived.Test.YtkfigfhjbejikaaGreatDoorBA
import Derived.Test.YtkfigfhjbejikaaGreatDoorBC
set_option linter.all false
section
set_option maxRecDepth 1000000
namespace Go.Tw
open Go.Vx Go.Vx.B Go.Proofs
noncomputable section
abbrev zW_a : Ty := .pair t163 (.pair (.ref t41) .unit)
abbrev zW_r : Ty := .pair t35 .unit
def zW_g : G := { T := T, E := [zh_e], muts := [], fz := [] }
def zW_k : List (List Nat) := []
def yOx (n : Nat) : Ann := { keep := zW_k, fuel := n, inl := [], deep := 0 }
def zW_m (n : Nat) (l : Lnk) (p1 : Bas) : Option (Int × Unit) :=
  (Option.bind (zh_M l (↑p1.1.length : Int)) fun (v0 : Int × Unit) => some (v0.1, ()))
theorem yRq (n : Nat) (x : zW_a.den) : runF zW_g (yOx n) Tryz.f102 zW_a zW_r x = zW_m n x.1 x.2.1 := by kernel_rfl
def zW_M (l : Lnk) (p1 : Bas) : Option (Int × Unit) := zW_m 0 l p1
theorem yPc (l : Lnk) (p1 : Bas) (y : Int × Unit) (h : zW_M l p1 = some y) : ∃ n, zW_m n l p1 = some y := ⟨0, h⟩
def zW_e : Entry := { f := 102, args := zW_a, ress := zW_r, m := fun x => zW_M x.1 x.2.1 }
theorem yRd : FnOK Tryz.prog zW_e := yS (g := zW_g) (fn := Tryz.f102) yG yR (yD ySV eNil) (by kernel_rfl) (by kernel_rfl) (by kernel_rfl) (fun x y h => let ⟨n, hn⟩ := yPc x.1 x.2.1 y h; ⟨yOx n, iNil, (yRq n x).trans hn⟩)
abbrev zJ_a : Ty := .pair t41 (.pair t108 .unit)
abbrev zJ_r : Ty := .pair t35 .unit
def zJ_g : G := { T := T, E := [z0V_e, zL_e, zA_e, z0J_e], muts := [], fz := [] }
def zJ_k : List (List Nat) := []
def yQC (n : Nat) : Ann := { keep := zJ_k, fuel := n, inl := [], deep := 0 }
def zJ_m (n : Nat) (b : Bas) (l : List Rng) : Option (Int × Unit) :=
  (Option.bind (zA_M l fun (z : Rng × Unit) => zL_M b z.1) fun (v0 : List Int × Unit) => (Option.bind (y0U v0.1) fun (v1 : Int × Unit) => (Option.bind (y0U [(z0V (decide ((↑l.length : Int) > 96)) (5 : Int)).1, v1.1]) fun (v2 : Int × Unit) => some (v2.1, ()))))
theorem yRh (n : Nat) (x : zJ_a.den) : runF zJ_g (yQC n) Tryz.f108 zJ_a zJ_r x = zJ_m n x.1 x.2.1 := by kernel_rfl
def zJ_M (b : Bas) (l : List Rng) : Option (Int × Unit) := zJ_m 0 b l
theorem yMz (b : Bas) (l : List Rng) (y : Int × Unit) (h : zJ_M b l = some y) : ∃ n, zJ_m n b l = some y := ⟨0, h⟩
def zJ_e : Entry := { f := 108, args := zJ_a, ress := zJ_r, m := fun x => zJ_M x.1 x.2.1 }
theorem yRw : FnOK Tryz.prog zJ_e := yS (g := zJ_g) (fn := Tryz.f108) yG yR (yD y3U (yD ySP (yD yRQ (yD y3n eNil)))) (by kernel_rfl) (by kernel_rfl) (by kernel_rfl) (fun x y h => let ⟨n, hn⟩ := yMz x.1 x.2.1 y h; ⟨yQC n, iNil, (yRh n x).trans hn⟩)
end
end Go.Tw
end
section
set_option maxRecDepth 1000000
namespace Go.Tw
open Go.Vx Go.Vx.B Go.Proofs
noncomputable section
abbrev zg_a : Ty := .pair t41 .unit
abbrev zg_r : Ty := .pair t35 .unit
def zg_g : G := { T := T, E := [z0V_e, z0J_e, z0A_e, z09_e, zW_e, zB_e], muts := [23], fz := [] }
def zg_k : List (List Nat) := [[1, 4, 25, 26, 27]]
def yOW (n : Nat) : Ann := { keep := zg_k, fuel := n, inl := [], deep := 0 }
def yG4 (n : Nat) (r1 : Bas → List Nod → Int → Int → List (List UInt8 × Bool) → Option (Int × Unit)) (aS : Bas) (al : List Nod) (bg : Int) (bd : Int) (b9 : List (List UInt8 × Bool)) : Option (Int × Unit) :=
  (bif decide (bd < bg) then (Option.bind (idx al bd) fun (v2 : Nod) => (Option.bind (yBo v2.1) fun (v3 : Bool × Unit) => (Option.bind (y0U [(z0V (!v3.1) (8 : Int)).1, (z0V ((yZ Ty.str Ty.bool b9 v2.1).getD Bool.false) (9 : Int)).1, (z09 v2.2.1 (1 : Int) (1000 : Int)).1, (z09 v2.2.2.1 (0 : Int) (1024 : Int)).1]) fun (v4 : Int × Unit) => (bif v4.1 != 0 then some (v4.1, ()) else r1 aS al bg (IntKind.i64.wrap (bd + 1)) (y0J Ty.str Ty.bool b9 v2.1 Bool.true))))) else (bif decide ((↑aS.2.1.length : Int) > 16) then some ((5 : Int), ()) else (Option.bind (zB_M aS.2.1 fun (x : Lnk × Unit) => zW_M x.1 aS) fun (v5 : List Int × Unit) => (Option.bind (y0U v5.1) fun (v6 : Int × Unit) => some (v6.1, ())))))
def y9N (n : Nat)  (k : Nat) (aS : Bas) (al : List Nod) (bg : Int) (bd : Int) (b9 : List (List UInt8 × Bool)) : Option (Int × Unit) :=
  iter (fun r y => yG4 n (fun aS al bg bd b9 => r ((aS, (al, (bg, (bd, ())))), ((b9, ()), ()))) y.1.1 y.1.2.1 y.1.2.2.1 y.1.2.2.2.1 y.2.1.1) k ((aS, (al, (bg, (bd, ())))), ((b9, ()), ()))
def zg_m (n : Nat) (b : Bas) : Option (Int × Unit) :=
  (Option.bind (y0U [(z0V ((↑b.1.length : Int) == 0) (12 : Int)).1, (z0V (decide ((↑b.1.length : Int) > 8)) (5 : Int)).1]) fun (v0 : Int × Unit) => (bif v0.1 != 0 then some (v0.1, ()) else (y9N n n (b) (b.1) ((↑b.1.length : Int)) ((0 : Int)) ([]))))
theorem ySq (n : Nat) (x : zg_a.den) : runF zg_g (yOW n) Tryz.f39 zg_a zg_r x = zg_m n x.1 := by kernel_rfl
def yEi (aS : Bas) (al : List Nod) (bd : Int) (v2 : Nod) (b9 : List (List UInt8 × Bool)) : Option ((Int × Unit) ⊕ (List (List UInt8 × Bool))) :=
  (Option.bind (yBo v2.1) fun (v3 : Bool × Unit) => (Option.bind (y0U [(z0V (!v3.1) (8 : Int)).1, (z0V ((yZ Ty.str Ty.bool b9 v2.1).getD Bool.false) (9 : Int)).1, (z09 v2.2.1 (1 : Int) (1000 : Int)).1, (z09 v2.2.2.1 (0 : Int) (1024 : Int)).1]) fun (v4 : Int × Unit) => (bif v4.1 != 0 then (some (Sum.inl ((v4.1, ())))) else (some (Sum.inr (y0J Ty.str Ty.bool b9 v2.1 Bool.true))))))
def yCR (aS : Bas) (al : List Nod) (b9 : List (List UInt8 × Bool)) : Option (Int × Unit) :=
  (bif decide ((↑aS.2.1.length : Int) > 16) then (some (((5 : Int), ()))) else (Option.bind (zB_M aS.2.1 fun (x : Lnk × Unit) => zW_M x.1 aS) fun (v5 : List Int × Unit) => (Option.bind (y0U v5.1) fun (v6 : Int × Unit) => (some ((v6.1, ()))))))
theorem yEb (n : Nat) (hn : big ≤ n)  (aS : Bas) (al : List Nod) (b9 : List (List UInt8 × Bool)) (hx : List.length (al) < lenMax) : LeF some (yL (fun i__ e__ s__ => yEi aS al i__ e__ s__) (fun s__ => yCR aS al s__) 0 (al) b9) (y9N n n aS al (List.length (al) : Int) 0 b9) := by
  refine yK (f := some) (W := fun k__ i__ s__ => y9N n k__ aS al (List.length (al) : Int) i__ s__) (body := (fun i__ e__ s__ => yEi aS al i__ e__ s__)) (fin := (fun s__ => yCR aS al s__)) (fun k__ i__ s__ => ?_) hx b9 n (by unfold big at hn; unfold lenMax at hx; omega)
  show LeF _ _ (yG4 n (y9N n k__) aS al (List.length (al) : Int) i__ s__)
  exact y6 (y5 fun v2 => (y5 fun v3 => (y5 fun v4 => (y6 (y7 rfl) (y7 rfl))))) (y03 (y6 (y7 rfl) (y5 fun v5 => (y5 fun v6 => (y7 rfl)))))
def zg_M (b : Bas) : Option (Int × Unit) :=
  (Option.bind (y0U [(z0V ((↑b.1.length : Int) == 0) (12 : Int)).1, (z0V (decide ((↑b.1.length : Int) > 8)) (5 : Int)).1]) fun (v0 : Int × Unit) => (bif v0.1 != 0 then (some ((v0.1, ()))) else (bif decide (List.length (b.1) < lenMax) then yL (fun i__ e__ s__ => yEi (b) (b.1) i__ e__ s__) (fun s__ => yCR (b) (b.1) s__) 0 (b.1) ([]) else none)))
theorem yNC (b : Bas) (y : Int × Unit) (h : zg_M b = some y) : ∃ n, zg_m n b = some y :=
  ⟨big, LeF.top (show LeF some (zg_M b) (zg_m big b) from (fun (n : Nat) (hn : big ≤ n) => show LeF some (zg_M b) (zg_m n b) from (y5 fun v0 => (y6 (y7 rfl) (yN fun hx => by apply yEb n hn; exact hx)))) big (Nat.le_refl _)) h⟩
def zg_e : Entry := { f := 39, args := zg_a, ress := zg_r, m := fun x => zg_M x.1 }
theorem yLE : FnOK Tryz.prog zg_e := yS (g := zg_g) (fn := Tryz.f39) yG yR (yD y3U (yD y3n (yD yQH (yD y6s (yD yRd (yD yTC eNil)))))) (by kernel_rfl) (by kernel_rfl) (by kernel_rfl) (fun x y h => let ⟨n, hn⟩ := yNC x.1 y h; ⟨yOW n, iNil, (ySq n x).trans hn⟩)
end
end Go.Tw
end
section
set_option maxRecDepth 1000000
namespace Go.Tw
open Go.Vx Go.Vx.B Go.Proofs
noncomputable section
abbrev zX_a : Ty := .pair t41 (.pair t26 .unit)
abbrev zX_r : Ty := .pair t35 .unit
def zX_g : G := { T := T, E := [zg_e, zI_e, z0J_e], muts := [], fz := [] }
def zX_k : List (List Nat) := []
def yOt (n : Nat) : Ann := { keep := zX_k, fuel := n, inl := [], deep := 0 }
def zX_m (n : Nat) (b : Bas) (v : List Int) : Option (Int × Unit) :=
  (Option.bind (zg_M b) fun (v0 : Int × Unit) => (Option.bind (zI_M b v) fun (v1 : Int × Unit) => (Option.bind (y0U [v0.1, v1.1]) fun (v2 : Int × Unit) => some (v2.1, ()))))
theorem ySi (n : Nat) (x : zX_a.den) : runF zX_g (yOt n) Tryz.f40 zX_a zX_r x = zX_m n x.1 x.2.1 := by kernel_rfl
def zX_M (b : Bas) (v : List Int) : Option (Int × Unit) := zX_m 0 b v
theorem yN8 (b : Bas) (v : List Int) (y : Int × Unit) (h : zX_M b v = some y) : ∃ n, zX_m n b v = some y := ⟨0, h⟩
def zX_e : Entry := { f := 40, args := zX_a, ress := zX_r, m := fun x => zX_M x.1 x.2.1 }
theorem yGN : FnOK Tryz.prog zX_e := yS (g := zX_g) (fn := Tryz.f40) yG yR (yD yLE (yD ySe (yD y3n eNil))) (by kernel_rfl) (by kernel_rfl) (by kernel_rfl) (fun x y h => let ⟨n, hn⟩ := yN8 x.1 x.2.1 y h; ⟨yOt n, iNil, (ySi n x).trans hn⟩)
abbrev zO_a : Ty := .pair t41 (.pair t97 (.pair t108 .unit))
abbrev zO_r : Ty := .pair t35 .unit
def zO_g : G := { T := T, E := [zM_e, zN_e, zg_e, z0V_e, z8_e, z0J_e, zJ_e], muts := [], fz := [] }
def zO_k : List (List Nat) := []
def yPD (n : Nat) : Ann := { keep := zO_k, fuel := n, inl := [], deep := 0 }
def zO_m (n : Nat) (b : Bas) (v : List (Int × Int × Unit)) (l : List Rng) : Option (Int × Unit) :=
  (Option.bind (zg_M b) fun (v0 : Int × Unit) => (bif v0.1 != 0 then some (v0.1, ()) else (Option.bind (z8_M v fun (x : (Int × Int × Unit) × Unit) => zN_M x.1 fun (x : Int × Unit) => zM_M x.1) fun (v1 : List Int × Unit) => (Option.bind (y0U v1.1) fun (v2 : Int × Unit) => (Option.bind (zJ_M b l) fun (v3 : Int × Unit) => (Option.bind (y0U [(z0V ((↑v.length : Int) != (↑b.1.length : Int)) (2 : Int)).1, v2.1, v3.1]) fun (v4 : Int × Unit) => some (v4.1, ())))))))
theorem ySg (n : Nat) (x : zO_a.den) : runF zO_g (yPD n) Tryz.f117 zO_a zO_r x = zO_m n x.1 x.2.1 x.2.2.1 := by kernel_rfl
def zO_M (b : Bas) (v : List (Int × Int × Unit)) (l : List Rng) : Option (Int × Unit) := zO_m 0 b v l
theorem yQv (b : Bas) (v : List (Int × Int × Unit)) (l : List Rng) (y : Int × Unit) (h : zO_M b v l = some y) : ∃ n, zO_m n b v l = some y := ⟨0, h⟩
def zO_e : Entry := { f := 117, args := zO_a, ress := zO_r, m := fun x => zO_M x.1 x.2.1 x.2.2.1 }
theorem yTJ : FnOK Tryz.prog zO_e := yS (g := zO_g) (fn := Tryz.f117) yG yR (yD yRb (yD ySC (yD yLE (yD y3U (yD yN0 (yD y3n (yD yRw eNil))))))) (by kernel_rfl) (by kernel_rfl) (by kernel_rfl) (fun x y h => let ⟨n, hn⟩ := yQv x.1 x.2.1 x.2.2.1 y h; ⟨yPD n, iNil, (ySg n x).trans hn⟩)
def il163 : Inl := { f := 163, fn := Tryz.f163, keep := [], muts := [4], fz := [] }
theorem yJ1 : y3O Tryz.prog il163 := ⟨by kernel_rfl, by kernel_rfl, fun e0 h => by cases (show (none : Option LibK) = some e0 from h)⟩
def il162 : Inl := { f := 162, fn := Tryz.f162, keep := [], muts := [], fz := [] }
theorem yJH : y3O Tryz.prog il162 := ⟨by kernel_rfl, by kernel_rfl, fun e0 h => by cases (show (none : Option LibK) = some e0 from h)⟩
def il185 : Inl := { f := 185, fn := Tryz.f185, keep := [], muts := [2], fz := [] }
theorem yIG : y3O Tryz.prog il185 := ⟨by kernel_rfl, by kernel_rfl, fun e0 h => by cases (show (none : Option LibK) = some e0 from h)⟩
def il186 : Inl := { f := 186, fn := Tryz.f186, keep := [[0, 2, 3, 10, 11, 12, 34, 35]], muts := [], fz := [] }
theorem yJV : y3O Tryz.prog il186 := ⟨by kernel_rfl, by kernel_rfl, fun e0 h => by cases (show (none : Option LibK) = some e0 from h)⟩
abbrev zo_a : Ty := .pair t41 (.pair t26 (.pair t54 .unit))
abbrev zo_r : Ty := .pair t167 (.pair t35 .unit)
def zo_g : G := { T := T, E := [zf_e], muts := [], fz := [] }
def zo_k : List (List Nat) := []
def yOE (n : Nat) : Ann := { keep := zo_k, fuel := n, inl := [il163, il162, il185, il186], deep := 8 }
def yGO (n : Nat) (r0 : Bas → List Cnd → Int → Int → List Cnd → Bas → List Cnd → Bas → List Int → List Psg → List Cnd → Bas → List Cnd → Bas → List Cnd → Bas → List Cnd → Bas → Bas → List Int → List Cnd → Bas → Int → Bas → List Int → List Cnd → List Cnd → Bas → Option (List Psg × Int × Unit)) (aW : Bas) (ak : List Cnd) (bf : Int) (ba : Int) (p0_1_0_0 : List Cnd) (p0_1_0_1 : Bas) (p0_6_0_0 : List Cnd) (p0_6_0_1 : Bas) (b1_0_0 : List Int) (a8 : List Psg) (k1_0_0 : List Cnd) (k1_0_1 : Bas) (k6_0_0 : List Cnd) (k6_0_1 : Bas) (k14_0_0 : List Cnd) (k14_0_1 : Bas) (k17_0_0 : List Cnd) (k17_0_1 : Bas) (aJ : Bas) (aK : List Int) (aL : List Cnd) (aM : Bas) (aN : Int) (aO : Bas) (aP : List Int) (aQ : List Cnd) (k32_0_0 : List Cnd) (k32_0_1 : Bas) : Option (List Psg × Int × Unit) :=
  (bif decide (ba < bf) then (Option.bind (idx ak ba) fun (v1 : Cnd) => (Option.bind (zf_M aW b1_0_0 (v1.1, v1.2.1, v1.2.2.1, ())) fun (v2 : List Int × Option (List Int) × Bool × Unit) => (bif !v2.2.2.1 then (bif decide (a8.length + (1 : Nat) ≤ memMax) then (bif !v2.2.2.1 then (bif decide ((↑(a8 ++ [((v1.1, v1.2.1, v1.2.2.1, ()), v2.1, Option.none, ())]).length : Int) > 0) then (Option.bind (idx (a8 ++ [((v1.1, v1.2.1, v1.2.2.1, ()), v2.1, Option.none, ())]) (IntKind.i64.wrap ((↑(a8 ++ [((v1.1, v1.2.1, v1.2.2.1, ()), v2.1, Option.none, ())]).length : Int) - (1 : Int)))) fun (v11 : Psg) => (Option.bind ((a8 ++ [((v1.1, v1.2.1, v1.2.2.1, ()), v2.1, Option.none, ())])[(IntKind.i64.wrap ((↑(a8 ++ [((v1.1, v1.2.1, v1.2.2.1, ()), v2.1, Option.none, ())]).length : Int) - (1 : Int))).toNat]?) fun (v12 : Psg) => (bif v12.2.2.1.isNone then some ([], (4 : Int), ()) else some (a8 ++ [((v1.1, v1.2.1, v1.2.2.1, ()), v2.1, Option.none, ())], (0 : Int), ())))) else some (a8 ++ [((v1.1, v1.2.1, v1.2.2.1, ()), v2.1, Option.none, ())], (0 : Int), ())) else r0 aW ak bf (IntKind.i64.wrap (ba + 1)) p0_1_0_0 p0_1_0_1 p0_6_0_0 p0_6_0_1 [] (a8 ++ [((v1.1, v1.2.1, v1.2.2.1, ()), v2.1, Option.none, ())]) k1_0_0 k1_0_1 k6_0_0 k6_0_1 k14_0_0 k14_0_1 k17_0_0 k17_0_1 aJ aK aL aM aN aO aP aQ k32_0_0 k32_0_1) else none) else (bif decide (a8.length + (1 : Nat) ≤ memMax) then (bif !v2.2.2.1 then (bif decide ((↑(a8 ++ [((v1.1, v1.2.1, v1.2.2.1, ()), v2.1, v2.2.1, ())]).length : Int) > 0) then (Option.bind (idx (a8 ++ [((v1.1, v1.2.1, v1.2.2.1, ()), v2.1, v2.2.1, ())]) (IntKind.i64.wrap ((↑(a8 ++ [((v1.1, v1.2.1, v1.2.2.1, ()), v2.1, v2.2.1, ())]).length : Int) - (1 : Int)))) fun (v17 : Psg) => (Option.bind ((a8 ++ [((v1.1, v1.2.1, v1.2.2.1, ()), v2.1, v2.2.1, ())])[(IntKind.i64.wrap ((↑(a8 ++ [((v1.1, v1.2.1, v1.2.2.1, ()), v2.1, v2.2.1, ())]).length : Int) - (1 : Int))).toNat]?) fun (v18 : Psg) => (bif v18.2.2.1.isNone then some ([], (4 : Int), ()) else some (a8 ++ [((v1.1, v1.2.1, v1.2.2.1, ()), v2.1, v2.2.1, ())], (0 : Int), ())))) else some (a8 ++ [((v1.1, v1.2.1, v1.2.2.1, ()), v2.1, v2.2.1, ())], (0 : Int), ())) else r0 aW ak bf (IntKind.i64.wrap (ba + 1)) p0_1_0_0 p0_1_0_1 p0_6_0_0 p0_6_0_1 (v2.2.1.getD []) (a8 ++ [((v1.1, v1.2.1, v1.2.2.1, ()), v2.1, v2.2.1, ())]) k1_0_0 k1_0_1 k6_0_0 k6_0_1 k14_0_0 k14_0_1 k17_0_0 k17_0_1 aJ aK aL aM aN aO aP aQ k32_0_0 k32_0_1) else none)))) else (bif decide ((↑a8.length : Int) > 0) then (Option.bind (idx a8 (IntKind.i64.wrap ((↑a8.length : Int) - (1 : Int)))) fun (v23 : Psg) => (Option.bind (a8[(IntKind.i64.wrap ((↑a8.length : Int) - (1 : Int))).toNat]?) fun (v24 : Psg) => (bif v24.2.2.1.isNone then some ([], (4 : Int), ()) else some (a8, (0 : Int), ())))) else some (a8, (0 : Int), ())))
def yAH (n : Nat)  (k : Nat) (aW : Bas) (ak : List Cnd) (bf : Int) (ba : Int) (p0_1_0_0 : List Cnd) (p0_1_0_1 : Bas) (p0_6_0_0 : List Cnd) (p0_6_0_1 : Bas) (b1_0_0 : List Int) (a8 : List Psg) (k1_0_0 : List Cnd) (k1_0_1 : Bas) (k6_0_0 : List Cnd) (k6_0_1 : Bas) (k14_0_0 : List Cnd) (k14_0_1 : Bas) (k17_0_0 : List Cnd) (k17_0_1 : Bas) (aJ : Bas) (aK : List Int) (aL : List Cnd) (aM : Bas) (aN : Int) (aO : Bas) (aP : List Int) (aQ : List Cnd) (k32_0_0 : List Cnd) (k32_0_1 : Bas) : Option (List Psg × Int × Unit) :=
  iter (fun r y => yGO n (fun aW ak bf ba p0_1_0_0 p0_1_0_1 p0_6_0_0 p0_6_0_1 b1_0_0 a8 k1_0_0 k1_0_1 k6_0_0 k6_0_1 k14_0_0 k14_0_1 k17_0_0 k17_0_1 aJ aK aL aM aN aO aP aQ k32_0_0 k32_0_1 => r ((aW, (ak, (bf, (ba, ())))), ((((p0_1_0_0, (p0_1_0_1, ())), ((p0_6_0_0, (p0_6_0_1, ())), ())), ((b1_0_0, ()), ((), (a8, ())))), ((k1_0_0, (k1_0_1, ())), ((k6_0_0, (k6_0_1, ())), ((k14_0_0, (k14_0_1, ())), ((k17_0_0, (k17_0_1, ())), (aJ, (aK, (aL, (aM, (aN, (aO, (aP, (aQ, ((k32_0_0, (k32_0_1, ())), ())))))))))))))))) y.1.1 y.1.2.1 y.1.2.2.1 y.1.2.2.2.1 y.2.1.1.1.1 y.2.1.1.1.2.1 y.2.1.1.2.1.1 y.2.1.1.2.1.2.1 y.2.1.2.1.1 y.2.1.2.2.2.1 y.2.2.1.1 y.2.2.1.2.1 y.2.2.2.1.1 y.2.2.2.1.2.1 y.2.2.2.2.1.1 y.2.2.2.2.1.2.1 y.2.2.2.2.2.1.1 y.2.2.2.2.2.1.2.1 y.2.2.2.2.2.2.1 y.2.2.2.2.2.2.2.1 y.2.2.2.2.2.2.2.2.1 y.2.2.2.2.2.2.2.2.2.1 y.2.2.2.2.2.2.2.2.2.2.1 y.2.2.2.2.2.2.2.2.2.2.2.1 y.2.2.2.2.2.2.2.2.2.2.2.2.1 y.2.2.2.2.2.2.2.2.2.2.2.2.2.1 y.2.2.2.2.2.2.2.2.2.2.2.2.2.2.1.1 y.2.2.2.2.2.2.2.2.2.2.2.2.2.2.1.2.1) k ((aW, (ak, (bf, (ba, ())))), ((((p0_1_0_0, (p0_1_0_1, ())), ((p0_6_0_0, (p0_6_0_1, ())), ())), ((b1_0_0, ()), ((), (a8, ())))), ((k1_0_0, (k1_0_1, ())), ((k6_0_0, (k6_0_1, ())), ((k14_0_0, (k14_0_1, ())), ((k17_0_0, (k17_0_1, ())), (aJ, (aK, (aL, (aM, (aN, (aO, (aP, (aQ, ((k32_0_0, (k32_0_1, ())), ())))))))))))))))
def zo_m (n : Nat) (b : Bas) (v : List Int) (l : List Cnd) : Option (List Psg × Int × Unit) :=
  (yAH n n (b) (l) ((↑l.length : Int)) ((0 : Int)) (l) (b) (l) (b) (v) ([]) (l) (b) (l) (b) (l) (b) (l) (b) (b) (v) (l) (b) ((0 : Int)) (b) (v) (l) (l) (b))
theorem ySw (n : Nat) (x : zo_a.den) : runF zo_g (yOE n) Tryz.f118 zo_a zo_r x = zo_m n x.1 x.2.1 x.2.2.1 := by kernel_rfl
def y86 (aW : Bas) (ak : List Cnd) (p0_1_0_0 : List Cnd) (p0_1_0_1 : Bas) (p0_6_0_0 : List Cnd) (p0_6_0_1 : Bas) (k1_0_0 : List Cnd) (k1_0_1 : Bas) (k6_0_0 : List Cnd) (k6_0_1 : Bas) (k14_0_0 : List Cnd) (k14_0_1 : Bas) (k17_0_0 : List Cnd) (k17_0_1 : Bas) (aJ : Bas) (aK : List Int) (aL : List Cnd) (aM : Bas) (aN : Int) (aO : Bas) (aP : List Int) (aQ : List Cnd) (k32_0_0 : List Cnd) (k32_0_1 : Bas) (ba : Int) (v1 : Cnd) (b1_0_0 : List Int) (a8 : List Psg) : Option ((List Psg × Int × Unit) ⊕ (List Int × List Psg)) :=
  (Option.bind (zf_M aW b1_0_0 (v1.1, v1.2.1, v1.2.2.1, ())) fun (v2 : List Int × Option (List Int) × Bool × Unit) => (bif !v2.2.2.1 then (bif decide (a8.length + (1 : Nat) ≤ memMax) then (bif !v2.2.2.1 then (bif decide ((↑(a8 ++ [((v1.1, v1.2.1, v1.2.2.1, ()), v2.1, Option.none, ())]).length : Int) > 0) then (Option.bind (idx (a8 ++ [((v1.1, v1.2.1, v1.2.2.1, ()), v2.1, Option.none, ())]) (IntKind.i64.wrap ((↑(a8 ++ [((v1.1, v1.2.1, v1.2.2.1, ()), v2.1, Option.none, ())]).length : Int) - (1 : Int)))) fun (v11 : Psg) => (Option.bind ((a8 ++ [((v1.1, v1.2.1, v1.2.2.1, ()), v2.1, Option.none, ())])[(IntKind.i64.wrap ((↑(a8 ++ [((v1.1, v1.2.1, v1.2.2.1, ()), v2.1, Option.none, ())]).length : Int) - (1 : Int))).toNat]?) fun (v12 : Psg) => (bif v12.2.2.1.isNone then (some (Sum.inl (([], (4 : Int), ())))) else (some (Sum.inl ((a8 ++ [((v1.1, v1.2.1, v1.2.2.1, ()), v2.1, Option.none, ())], (0 : Int), ()))))))) else (some (Sum.inl ((a8 ++ [((v1.1, v1.2.1, v1.2.2.1, ()), v2.1, Option.none, ())], (0 : Int), ()))))) else (some (Sum.inr (([]), (a8 ++ [((v1.1, v1.2.1, v1.2.2.1, ()), v2.1, Option.none, ())]))))) else none) else (bif decide (a8.length + (1 : Nat) ≤ memMax) then (bif !v2.2.2.1 then (bif decide ((↑(a8 ++ [((v1.1, v1.2.1, v1.2.2.1, ()), v2.1, v2.2.1, ())]).length : Int) > 0) then (Option.bind (idx (a8 ++ [((v1.1, v1.2.1, v1.2.2.1, ()), v2.1, v2.2.1, ())]) (IntKind.i64.wrap ((↑(a8 ++ [((v1.1, v1.2.1, v1.2.2.1, ()), v2.1, v2.2.1, ())]).length : Int) - (1 : Int)))) fun (v17 : Psg) => (Option.bind ((a8 ++ [((v1.1, v1.2.1, v1.2.2.1, ()), v2.1, v2.2.1, ())])[(IntKind.i64.wrap ((↑(a8 ++ [((v1.1, v1.2.1, v1.2.2.1, ()), v2.1, v2.2.1, ())]).length : Int) - (1 : Int))).toNat]?) fun (v18 : Psg) => (bif v18.2.2.1.isNone then (some (Sum.inl (([], (4 : Int), ())))) else (some (Sum.inl ((a8 ++ [((v1.1, v1.2.1, v1.2.2.1, ()), v2.1, v2.2.1, ())], (0 : Int), ()))))))) else (some (Sum.inl ((a8 ++ [((v1.1, v1.2.1, v1.2.2.1, ()), v2.1, v2.2.1, ())], (0 : Int), ()))))) else (some (Sum.inr ((v2.2.1.getD []), (a8 ++ [((v1.1, v1.2.1, v1.2.2.1, ()), v2.1, v2.2.1, ())]))))) else none)))
def yEP (aW : Bas) (ak : List Cnd) (p0_1_0_0 : List Cnd) (p0_1_0_1 : Bas) (p0_6_0_0 : List Cnd) (p0_6_0_1 : Bas) (k1_0_0 : List Cnd) (k1_0_1 : Bas) (k6_0_0 : List Cnd) (k6_0_1 : Bas) (k14_0_0 : List Cnd) (k14_0_1 : Bas) (k17_0_0 : List Cnd) (k17_0_1 : Bas) (aJ : Bas) (aK : List Int) (aL : List Cnd) (aM : Bas) (aN : Int) (aO : Bas) (aP : List Int) (aQ : List Cnd) (k32_0_0 : List Cnd) (k32_0_1 : Bas) (b1_0_0 : List Int) (a8 : List Psg) : Option (List Psg × Int × Unit) :=
  (bif decide ((↑a8.length : Int) > 0) then (Option.bind (idx a8 (IntKind.i64.wrap ((↑a8.length : Int) - (1 : Int)))) fun (v23 : Psg) => (Option.bind (a8[(IntKind.i64.wrap ((↑a8.length : Int) - (1 : Int))).toNat]?) fun (v24 : Psg) => (bif v24.2.2.1.isNone then (some (([], (4 : Int), ()))) else (some ((a8, (0 : Int), ())))))) else (some ((a8, (0 : Int), ()))))
theorem yF0 (n : Nat) (hn : big ≤ n)  (aW : Bas) (ak : List Cnd) (p0_1_0_0 : List Cnd) (p0_1_0_1 : Bas) (p0_6_0_0 : List Cnd) (p0_6_0_1 : Bas) (k1_0_0 : List Cnd) (k1_0_1 : Bas) (k6_0_0 : List Cnd) (k6_0_1 : Bas) (k14_0_0 : List Cnd) (k14_0_1 : Bas) (k17_0_0 : List Cnd) (k17_0_1 : Bas) (aJ : Bas) (aK : List Int) (aL : List Cnd) (aM : Bas) (aN : Int) (aO : Bas) (aP : List Int) (aQ : List Cnd) (k32_0_0 : List Cnd) (k32_0_1 : Bas) (b1_0_0 : List Int) (a8 : List Psg) (hx : List.length (ak) < lenMax) : LeF some (yL (fun i__ e__ s__ => y86 aW ak p0_1_0_0 p0_1_0_1 p0_6_0_0 p0_6_0_1 k1_0_0 k1_0_1 k6_0_0 k6_0_1 k14_0_0 k14_0_1 k17_0_0 k17_0_1 aJ aK aL aM aN aO aP aQ k32_0_0 k32_0_1 i__ e__ s__.1 s__.2) (fun s__ => yEP aW ak p0_1_0_0 p0_1_0_1 p0_6_0_0 p0_6_0_1 k1_0_0 k1_0_1 k6_0_0 k6_0_1 k14_0_0 k14_0_1 k17_0_0 k17_0_1 aJ aK aL aM aN aO aP aQ k32_0_0 k32_0_1 s__.1 s__.2) 0 (ak) (b1_0_0, a8)) (yAH n n aW ak (List.length (ak) : Int) 0 p0_1_0_0 p0_1_0_1 p0_6_0_0 p0_6_0_1 b1_0_0 a8 k1_0_0 k1_0_1 k6_0_0 k6_0_1 k14_0_0 k14_0_1 k17_0_0 k17_0_1 aJ aK aL aM aN aO aP aQ k32_0_0 k32_0_1) := by
  refine yK (f := some) (W := fun k__ i__ s__ => yAH n k__ aW ak (List.length (ak) : Int) i__ p0_1_0_0 p0_1_0_1 p0_6_0_0 p0_6_0_1 s__.1 s__.2 k1_0_0 k1_0_1 k6_0_0 k6_0_1 k14_0_0 k14_0_1 k17_0_0 k17_0_1 aJ aK aL aM aN aO aP aQ k32_0_0 k32_0_1) (body := (fun i__ e__ s__ => y86 aW ak p0_1_0_0 p0_1_0_1 p0_6_0_0 p0_6_0_1 k1_0_0 k1_0_1 k6_0_0 k6_0_1 k14_0_0 k14_0_1 k17_0_0 k17_0_1 aJ aK aL aM aN aO aP aQ k32_0_0 k32_0_1 i__ e__ s__.1 s__.2)) (fin := (fun s__ => yEP aW ak p0_1_0_0 p0_1_0_1 p0_6_0_0 p0_6_0_1 k1_0_0 k1_0_1 k6_0_0 k6_0_1 k14_0_0 k14_0_1 k17_0_0 k17_0_1 aJ aK aL aM aN aO aP aQ k32_0_0 k32_0_1 s__.1 s__.2)) (fun k__ i__ s__ => ?_) hx (b1_0_0, a8) n (by unfold big at hn; unfold lenMax at hx; omega)
  show LeF _ _ (yGO n (yAH n k__) aW ak (List.length (ak) : Int) i__ p0_1_0_0 p0_1_0_1 p0_6_0_0 p0_6_0_1 s__.1 s__.2 k1_0_0 k1_0_1 k6_0_0 k6_0_1 k14_0_0 k14_0_1 k17_0_0 k17_0_1 aJ aK aL aM aN aO aP aQ k32_0_0 k32_0_1)
  exact y6 (y5 fun v1 => (y5 fun v2 => (y6 (y6 (y6 (y6 (y5 fun v11 => (y5 fun v12 => (y6 (y7 rfl) (y7 rfl)))) (y7 rfl)) (y7 rfl)) yx) (y6 (y6 (y6 (y5 fun v17 => (y5 fun v18 => (y6 (y7 rfl) (y7 rfl)))) (y7 rfl)) (y7 rfl)) yx)))) (y03 (y6 (y5 fun v23 => (y5 fun v24 => (y6 (y7 rfl) (y7 rfl)))) (y7 rfl)))
def zo_M (b : Bas) (v : List Int) (l : List Cnd) : Option (List Psg × Int × Unit) :=
  (bif decide (List.length (l) < lenMax) then yL (fun i__ e__ s__ => y86 (b) (l) (l) (b) (l) (b) (l) (b) (l) (b) (l) (b) (l) (b) (b) (v) (l) (b) ((0 : Int)) (b) (v) (l) (l) (b) i__ e__ s__.1 s__.2) (fun s__ => yEP (b) (l) (l) (b) (l) (b) (l) (b) (l) (b) (l) (b) (l) (b) (b) (v) (l) (b) ((0 : Int)) (b) (v) (l) (l) (b) s__.1 s__.2) 0 (l) ((v), ([])) else none)
theorem yQ1 (b : Bas) (v : List Int) (l : List Cnd) (y : List Psg × Int × Unit) (h : zo_M b v l = some y) : ∃ n, zo_m n b v l = some y :=
  ⟨big, LeF.top (show LeF some (zo_M b v l) (zo_m big b v l) from (fun (n : Nat) (hn : big ≤ n) => show LeF some (zo_M b v l) (zo_m n b v l) from (yN fun hx => by apply yF0 n hn; exact hx)) big (Nat.le_refl _)) h⟩
def zo_e : Entry := { f := 118, args := zo_a, ress := zo_r, m := fun x => zo_M x.1 x.2.1 x.2.2.1 }
theorem yOi : FnOK Tryz.prog zo_e := yS (g := zo_g) (fn := Tryz.f118) yG yR (yD yNn eNil) (by kernel_rfl) (by kernel_rfl) (by kernel_rfl) (fun x y h => let ⟨n, hn⟩ := yQ1 x.1 x.2.1 x.2.2.1 y h; ⟨yOE n, (y6J yJ1 (y6J yJH (y6J yIG (y6J yJV iNil)))), (ySw n x).trans hn⟩)
end
end Go.Tw
end
section
set_option maxRecDepth 1000000
namespace Go.Tw
open Go.Vx Go.Vx.B Go.Proofs
noncomputable section
abbrev yLk : Ty := .pair t41 (.pair t26 (.pair t44 (.pair t3 (.pair t3 .unit))))
abbrev yNp : Ty := .pair t3 (.pair t35 .unit)
def yQF : G := { T := T, E := [zX_e, zE_e, z0V_e, z09_e, z0J_e, zi_e, zf_e], muts := [], fz := [] }
def yT3 : List (List Nat) := [[3, 4, 5, 7, 13, 42]]
def yJg (n : Nat) : Ann := { keep := yT3, fuel := n, inl := [], deep := 0 }
def yBm (n : Nat) (r18 : Int → Int → Bas → Cnd → List Int → Int → Option (Int × Int × Unit)) (aa : Int) (a7 : Int) (aB : Bas) (aG : Cnd) (ae : List Int) (aR : Int) : Option (Int × Int × Unit) :=
  (bif decide (aR < 97) then (Option.bind (idx aB.1 aa) fun (v19 : Nod) => (Option.bind (idx ae aa) fun (v20 : Int) => (Option.bind (zi_M v19 v20) fun (v21 : Int × Unit) => (bif decide (v21.1 ≥ a7) then some (aR, (0 : Int), ()) else (bif aR == 96 then some ((0 : Int), (7 : Int), ()) else (Option.bind (zf_M aB ae aG) fun (v22 : List Int × Option (List Int) × Bool × Unit) => (bif !v22.2.2.1 then some ((0 : Int), (4 : Int), ()) else r18 aa a7 aB aG (v22.2.1.getD []) (IntKind.i64.wrap (aR + 1))))))))) else some ((0 : Int), (7 : Int), ()))
def y53 (n : Nat)  (k : Nat) (aa : Int) (a7 : Int) (aB : Bas) (aG : Cnd) (ae : List Int) (aR : Int) : Option (Int × Int × Unit) :=
  iter (fun r y => yBm n (fun aa a7 aB aG ae aR => r ((aa, (a7, (aB, (aG, (ae, (aR, ())))))), ((), ()))) y.1.1 y.1.2.1 y.1.2.2.1 y.1.2.2.2.1 y.1.2.2.2.2.1 y.1.2.2.2.2.2.1) k ((aa, (a7, (aB, (aG, (ae, (aR, ())))))), ((), ()))
def y6x (n : Nat) (b : Bas) (v : List Int) (c : Cnd) (node : Int) (level : Int) : Option (Int × Int × Unit) :=
  (y53 n n (node) (level) (b) (c) (v) ((0 : Int)))
def yJI (n : Nat) (b : Bas) (v : List Int) (c : Cnd) (node : Int) (level : Int) : Option (Int × Int × Unit) :=
  (Option.bind (zX_M b v) fun (v0 : Int × Unit) => (Option.bind (zE_M b c) fun (v1 : Int × Unit) => (bif decide (node < 0) then (Option.bind (y0U [v0.1, v1.1, (z0V Bool.true (10 : Int)).1, (z09 level (0 : Int) (1024 : Int)).1]) fun (v2 : Int × Unit) => (bif v2.1 != 0 then some ((0 : Int), v2.1, ()) else (y6x n b v c node level))) else (Option.bind (y0U [v0.1, v1.1, (z0V (decide (node ≥ (↑b.1.length : Int))) (10 : Int)).1, (z09 level (0 : Int) (1024 : Int)).1]) fun (v3 : Int × Unit) => (bif v3.1 != 0 then some ((0 : Int), v3.1, ()) else (y6x n b v c node level))))))
theorem yNJ (n : Nat) (x : yLk.den) : runF yQF (yJg n) Tryz.f18 yLk yNp x = yJI n x.1 x.2.1 x.2.2.1 x.2.2.2.1 x.2.2.2.2.1 := by kernel_rfl
def y3X (aa : Int) (a7 : Int) (aB : Bas) (aG : Cnd) (aR : Int) (ae : List Int) : Option ((Int × Int × Unit) ⊕ (List Int)) :=
  (Option.bind (idx aB.1 aa) fun (v19 : Nod) => (Option.bind (idx ae aa) fun (v20 : Int) => (Option.bind (zi_M v19 v20) fun (v21 : Int × Unit) => (bif decide (v21.1 ≥ a7) then (some (Sum.inl ((aR, (0 : Int), ())))) else (bif aR == 96 then (some (Sum.inl (((0 : Int), (7 : Int), ())))) else (Option.bind (zf_M aB ae aG) fun (v22 : List Int × Option (List Int) × Bool × Unit) => (bif !v22.2.2.1 then (some (Sum.inl (((0 : Int), (4 : Int), ())))) else (some (Sum.inr (v22.2.1.getD []))))))))))
def y5T (aa : Int) (a7 : Int) (aB : Bas) (aG : Cnd) (ae : List Int) : Option (Int × Int × Unit) :=
  (some (((0 : Int), (7 : Int), ())))
theorem yB5 (n : Nat) (hn : big ≤ n)  (aa : Int) (a7 : Int) (aB : Bas) (aG : Cnd) (ae : List Int) (hx : ((97 : Int)) ≤ 9223372036854775807) : LeF some (y0h (fun i__ s__ => y3X aa a7 aB aG i__ s__) (fun s__ => y5T aa a7 aB aG s__) (((97 : Int)) - 0).toNat 0 ae) (y53 n n aa a7 aB aG ae 0) := by
  refine y4H (f := some) (W := fun k__ i__ s__ => y53 n k__ aa a7 aB aG s__ i__) (body := (fun i__ s__ => y3X aa a7 aB aG i__ s__)) (fin := (fun s__ => y5T aa a7 aB aG s__)) (fun k__ i__ s__ => ?_) hx ae n 0 (by decide) (by unfold big at hn; omega)
  show LeF _ _ (yBm n (y53 n k__) aa a7 aB aG s__ i__)
  exact y6 (y5 fun v19 => (y5 fun v20 => (y5 fun v21 => (y6 (y7 rfl) (y6 (y7 rfl) (y5 fun v22 => (y6 (y7 rfl) (y7 rfl)))))))) (y03 (y7 rfl))
def y5j (b : Bas) (v : List Int) (c : Cnd) (node : Int) (level : Int) : Option (Int × Int × Unit) :=
  (bif decide (((97 : Int)) ≤ 9223372036854775807) then y0h (fun i__ s__ => y3X (node) (level) (b) (c) i__ s__) (fun s__ => y5T (node) (level) (b) (c) s__) (((97 : Int)) - 0).toNat 0 (v) else none)
theorem y2P (n : Nat) (hn : big ≤ n)  (b : Bas) (v : List Int) (c : Cnd) (node : Int) (level : Int) : LeF some (y5j b v c node level) (y6x n b v c node level) :=
  (yN fun hx => by apply yB5 n hn; exact hx)
def y5J (b : Bas) (v : List Int) (c : Cnd) (node : Int) (level : Int) : Option (Int × Int × Unit) :=
  (Option.bind (zX_M b v) fun (v0 : Int × Unit) => (Option.bind (zE_M b c) fun (v1 : Int × Unit) => (bif decide (node < 0) then (Option.bind (y0U [v0.1, v1.1, (z0V Bool.true (10 : Int)).1, (z09 level (0 : Int) (1024 : Int)).1]) fun (v2 : Int × Unit) => (bif v2.1 != 0 then (some (((0 : Int), v2.1, ()))) else (y5j b v c node level))) else (Option.bind (y0U [v0.1, v1.1, (z0V (decide (node ≥ (↑b.1.length : Int))) (10 : Int)).1, (z09 level (0 : Int) (1024 : Int)).1]) fun (v3 : Int × Unit) => (bif v3.1 != 0 then (some (((0 : Int), v3.1, ()))) else (y5j b v c node level))))))
theorem yMW (b : Bas) (v : List Int) (c : Cnd) (node : Int) (level : Int) (y : Int × Int × Unit) (h : y5J b v c node level = some y) : ∃ n, yJI n b v c node level = some y :=
  ⟨big, LeF.top (show LeF some (y5J b v c node level) (yJI big b v c node level) from (fun (n : Nat) (hn : big ≤ n) => show LeF some (y5J b v c node level) (yJI n b v c node level) from (y5 fun v0 => (y5 fun v1 => (y6 (y5 fun v2 => (y6 (y7 rfl) (by apply y2P n hn))) (y5 fun v3 => (y6 (y7 rfl) (by apply y2P n hn))))))) big (Nat.le_refl _)) h⟩
def z0H_e : Entry := { f := 18, args := yLk, ress := yNp, m := fun x => y5J x.1 x.2.1 x.2.2.1 x.2.2.2.1 x.2.2.2.2.1 }
theorem yJt : FnOK Tryz.prog z0H_e := yS (g := yQF) (fn := Tryz.f18) yG yR (yD yGN (yD yOd (yD y3U (yD y6s (yD y3n (yD yPQ (yD yNn eNil))))))) (by kernel_rfl) (by kernel_rfl) (by kernel_rfl) (fun x y h => let ⟨n, hn⟩ := yMW x.1 x.2.1 x.2.2.1 x.2.2.2.1 x.2.2.2.2.1 y h; ⟨yJg n, iNil, (yNJ n x).trans hn⟩)
abbrev yLa : Ty := .pair t41 (.pair t26 .unit)
abbrev yNK : Ty := .pair t26 (.pair t35 .unit)
def yQl : G := { T := T, E := [zX_e, zV_e], muts := [], fz := [] }
def yRt : List (List Nat) := []
def yJr (n : Nat) : Ann := { keep := yRt, fuel := n, inl := [], deep := 0 }
def yMf (n : Nat) (b : Bas) (v : List Int) : Option (List Int × Int × Unit) :=
  (Option.bind (zX_M b v) fun (v0 : Int × Unit) => (bif v0.1 != 0 then some ([], v0.1, ()) else (Option.bind (zV_M b v) fun (v1 : List Int × Unit) => some (v1.1, (0 : Int), ()))))
theorem yOj (n : Nat) (x : yLa.den) : runF yQl (yJr n) Tryz.f29 yLa yNK x = yMf n x.1 x.2.1 := by kernel_rfl
def yMG (b : Bas) (v : List Int) : Option (List Int × Int × Unit) := yMf 0 b v
theorem yME (b : Bas) (v : List Int) (y : List Int × Int × Unit) (h : yMG b v = some y) : ∃ n, yMf n b v = some y := ⟨0, h⟩
def z08_e : Entry := { f := 29, args := yLa, ress := yNK, m := fun x => yMG x.1 x.2.1 }
theorem yPa : FnOK Tryz.prog z08_e := yS (g := yQl) (fn := Tryz.f29) yG yR (yD yGN (yD yON eNil)) (by kernel_rfl) (by kernel_rfl) (by kernel_rfl) (fun x y h => let ⟨n, hn⟩ := yME x.1 x.2.1 y h; ⟨yJr n, iNil, (yOj n x).trans hn⟩)
abbrev yLr : Ty := .pair t41 (.pair t26 .unit)
abbrev yR3 : Ty := .pair t26 (.pair t35 .unit)
def yPi : G := { T := T, E := [zX_e, zb_e], muts := [], fz := [] }
def ySO : List (List Nat) := []
def yKL (n : Nat) : Ann := { keep := ySO, fuel := n, inl := [], deep := 0 }
def yL4 (n : Nat) (b : Bas) (v : List Int) : Option (List Int × Int × Unit) :=
  (Option.bind (zX_M b v) fun (v0 : Int × Unit) => (bif v0.1 != 0 then some ([], v0.1, ()) else (Option.bind (zb_M b v) fun (v1 : List Int × Unit) => some (v1.1, (0 : Int), ()))))
theorem yPV (n : Nat) (x : yLr.den) : runF yPi (yKL n) Tryz.f30 yLr yR3 x = yL4 n x.1 x.2.1 := by kernel_rfl
def yM4 (b : Bas) (v : List Int) : Option (List Int × Int × Unit) := yL4 0 b v
theorem yLt (b : Bas) (v : List Int) (y : List Int × Int × Unit) (h : yM4 b v = some y) : ∃ n, yL4 n b v = some y := ⟨0, h⟩
def z0E_e : Entry := { f := 30, args := yLr, ress := yR3, m := fun x => yM4 x.1 x.2.1 }
theorem yPo : FnOK Tryz.prog z0E_e := yS (g := yPi) (fn := Tryz.f30) yG yR (yD yGN (yD ySc eNil)) (by kernel_rfl) (by kernel_rfl) (by kernel_rfl) (fun x y h => let ⟨n, hn⟩ := yLt x.1 x.2.1 y h; ⟨yKL n, iNil, (yPV n x).trans hn⟩)
abbrev yL2 : Ty := .pair t41 (.pair t26 .unit)
abbrev yNo : Ty := .pair t26 (.pair t35 .unit)
def yQR : G := { T := T, E := [zX_e], muts := [7], fz := [] }
def yRe : List (List Nat) := [[1, 7, 17, 18, 19]]
def yJk (n : Nat) : Ann := { keep := yRe, fuel := n, inl := [], deep := 0 }
def yE9 (n : Nat) (r1 : List Int → List Nod → Int → Int → List Int → Option (List Int × Int × Unit)) (aX : List Int) (am : List Nod) (bh : Int) (b5 : Int) (aZ : List Int) : Option (List Int × Int × Unit) :=
  (bif decide (b5 < bh) then (Option.bind (idx am b5) fun (v2 : Nod) => (Option.bind (idx aX b5) fun (v3 : Int) => (bif decide (aZ.length + (1 : Nat) ≤ memMax) then r1 aX am bh (IntKind.i64.wrap (b5 + 1)) (aZ ++ [if Bool.true = Bool.true then if IntKind.i64.wrap (IntKind.i64.wrap (IntKind.i64.wrap (v2.2.1 * IntKind.i64.wrap (v2.2.2.1 + 1)) - (1 : Int)) - v3) > (-1 : Int) then IntKind.i64.wrap (IntKind.i64.wrap (IntKind.i64.wrap (v2.2.1 * IntKind.i64.wrap (v2.2.2.1 + 1)) - (1 : Int)) - v3) else (-1 : Int) else if IntKind.i64.wrap (IntKind.i64.wrap (IntKind.i64.wrap (v2.2.1 * IntKind.i64.wrap (v2.2.2.1 + 1)) - (1 : Int)) - v3) < (-1 : Int) then IntKind.i64.wrap (IntKind.i64.wrap (IntKind.i64.wrap (v2.2.1 * IntKind.i64.wrap (v2.2.2.1 + 1)) - (1 : Int)) - v3) else (-1 : Int)]) else none))) else some (aZ, (0 : Int), ()))
def y6U (n : Nat)  (k : Nat) (aX : List Int) (am : List Nod) (bh : Int) (b5 : Int) (aZ : List Int) : Option (List Int × Int × Unit) :=
  iter (fun r y => yE9 n (fun aX am bh b5 aZ => r ((aX, (am, (bh, (b5, ())))), ((aZ, ()), ()))) y.1.1 y.1.2.1 y.1.2.2.1 y.1.2.2.2.1 y.2.1.1) k ((aX, (am, (bh, (b5, ())))), ((aZ, ()), ()))
def yI7 (n : Nat) (b : Bas) (v : List Int) : Option (List Int × Int × Unit) :=
  (Option.bind (zX_M b v) fun (v0 : Int × Unit) => (bif v0.1 != 0 then some ([], v0.1, ()) else (y6U n n (v) (b.1) ((↑b.1.length : Int)) ((0 : Int)) ([]))))
theorem yNN (n : Nat) (x : yL2.den) : runF yQR (yJk n) Tryz.f31 yL2 yNo x = yI7 n x.1 x.2.1 := by kernel_rfl
def yHU (aX : List Int) (am : List Nod) (b5 : Int) (v2 : Nod) (aZ : List Int) : Option ((List Int × Int × Unit) ⊕ (List Int)) :=
  (Option.bind (idx aX b5) fun (v3 : Int) => (bif decide (aZ.length + (1 : Nat) ≤ memMax) then (some (Sum.inr (aZ ++ [if Bool.true = Bool.true then if IntKind.i64.wrap (IntKind.i64.wrap (IntKind.i64.wrap (v2.2.1 * IntKind.i64.wrap (v2.2.2.1 + 1)) - (1 : Int)) - v3) > (-1 : Int) then IntKind.i64.wrap (IntKind.i64.wrap (IntKind.i64.wrap (v2.2.1 * IntKind.i64.wrap (v2.2.2.1 + 1)) - (1 : Int)) - v3) else (-1 : Int) else if IntKind.i64.wrap (IntKind.i64.wrap (IntKind.i64.wrap (v2.2.1 * IntKind.i64.wrap (v2.2.2.1 + 1)) - (1 : Int)) - v3) < (-1 : Int) then IntKind.i64.wrap (IntKind.i64.wrap (IntKind.i64.wrap (v2.2.1 * IntKind.i64.wrap (v2.2.2.1 + 1)) - (1 : Int)) - v3) else (-1 : Int)]))) else none))
def yHc (aX : List Int) (am : List Nod) (aZ : List Int) : Option (List Int × Int × Unit) :=
  (some ((aZ, (0 : Int), ())))
theorem yCE (n : Nat) (hn : big ≤ n)  (aX : List Int) (am : List Nod) (aZ : List Int) (hx : List.length (am) < lenMax) : LeF some (yL (fun i__ e__ s__ => yHU aX am i__ e__ s__) (fun s__ => yHc aX am s__) 0 (am) aZ) (y6U n n aX am (List.length (am) : Int) 0 aZ) := by
  refine yK (f := some) (W := fun k__ i__ s__ => y6U n k__ aX am (List.length (am) : Int) i__ s__) (body := (fun i__ e__ s__ => yHU aX am i__ e__ s__)) (fin := (fun s__ => yHc aX am s__)) (fun k__ i__ s__ => ?_) hx aZ n (by unfold big at hn; unfold lenMax at hx; omega)
  show LeF _ _ (yE9 n (y6U n k__) aX am (List.length (am) : Int) i__ s__)
  exact y6 (y5 fun v2 => (y5 fun v3 => (y6 (y7 rfl) yx))) (y03 (y7 rfl))
def yHo (b : Bas) (v : List Int) : Option (List Int × Int × Unit) :=
  (Option.bind (zX_M b v) fun (v0 : Int × Unit) => (bif v0.1 != 0 then (some (([], v0.1, ()))) else (bif decide (List.length (b.1) < lenMax) then yL (fun i__ e__ s__ => yHU (v) (b.1) i__ e__ s__) (fun s__ => yHc (v) (b.1) s__) 0 (b.1) ([]) else none)))
theorem yM1 (b : Bas) (v : List Int) (y : List Int × Int × Unit) (h : yHo b v = some y) : ∃ n, yI7 n b v = some y :=
  ⟨big, LeF.top (show LeF some (yHo b v) (yI7 big b v) from (fun (n : Nat) (hn : big ≤ n) => show LeF some (yHo b v) (yI7 n b v) from (y5 fun v0 => (y6 (y7 rfl) (yN fun hx => by apply yCE n hn; exact hx)))) big (Nat.le_refl _)) h⟩
def z0T_e : Entry := { f := 31, args := yL2, ress := yNo, m := fun x => yHo x.1 x.2.1 }
theorem yPT : FnOK Tryz.prog z0T_e := yS (g := yQR) (fn := Tryz.f31) yG yR (yD yGN eNil) (by kernel_rfl) (by kernel_rfl) (by kernel_rfl) (fun x y h => let ⟨n, hn⟩ := yM1 x.1 x.2.1 y h; ⟨yJk n, iNil, (yNN n x).trans hn⟩)
abbrev zz_a : Ty := .pair t41 (.pair t97 (.pair t108 .unit))
abbrev zz_r : Ty := .pair t119 (.pair t35 .unit)
def zz_g : G := { T := T, E := [zO_e, z0b_e, z6_e, zZ_e, zo_e, zc_e], muts := [12, 15], fz := [] }
def zz_k : List (List Nat) := [[9, 12, 49, 50, 51], [9, 12, 13, 15, 49, 50, 51, 57, 58, 59]]
def yQa (n : Nat) : Ann := { keep := zz_k, fuel := n, inl := [], deep := 0 }
def yGm (n : Nat) (r7 : List Psg → List Psg → Int → Int → List (List (Int × Int × Unit)) → Option (List (List (Int × Int × Unit)) × Int × Unit)) (r9 : List Psg → Int → List Psg → Int → Int → List Int → Int → Int → List (List (Int × Int × Unit)) → List (Int × Int × Unit) → Option (List (List (Int × Int × Unit)) × Int × Unit)) (ac : List Psg) (aH : Int) (aC : List Psg) (aD : Int) (aE : Int) (aq : List Int) (bi : Int) (b6 : Int) (aV : List (List (Int × Int × Unit))) (b4 : List (Int × Int × Unit)) : Option (List (List (Int × Int × Unit)) × Int × Unit) :=
  (bif decide (b6 < bi) then (Option.bind (idx aq b6) fun (v10 : Int) => (Option.bind (idx ac aH) fun (v11 : Psg) => (Option.bind (idx (v11.2.2.1.getD []) b6) fun (v12 : Int) => (bif decide (b4.length + (1 : Nat) ≤ memMax) then r9 ac aH aC aD aE aq bi (IntKind.i64.wrap (b6 + 1)) aV (b4 ++ [(v10, v12, ())]) else none)))) else (bif decide (aV.length + (1 : Nat) ≤ memMax) then r7 ac aC aD (IntKind.i64.wrap (aE + 1)) (aV ++ [b4]) else none))
def y9m (n : Nat) (r7 : List Psg → List Psg → Int → Int → List (List (Int × Int × Unit)) → Option (List (List (Int × Int × Unit)) × Int × Unit)) (k : Nat) (ac : List Psg) (aH : Int) (aC : List Psg) (aD : Int) (aE : Int) (aq : List Int) (bi : Int) (b6 : Int) (aV : List (List (Int × Int × Unit))) (b4 : List (Int × Int × Unit)) : Option (List (List (Int × Int × Unit)) × Int × Unit) :=
  iter (fun r y => yGm n r7 (fun ac aH aC aD aE aq bi b6 aV b4 => r ((ac, (aH, (aC, (aD, (aE, (aq, (bi, (b6, ())))))))), ((aV, (b4, ())), ()))) y.1.1 y.1.2.1 y.1.2.2.1 y.1.2.2.2.1 y.1.2.2.2.2.1 y.1.2.2.2.2.2.1 y.1.2.2.2.2.2.2.1 y.1.2.2.2.2.2.2.2.1 y.2.1.1 y.2.1.2.1) k ((ac, (aH, (aC, (aD, (aE, (aq, (bi, (b6, ())))))))), ((aV, (b4, ())), ()))
def yGh (n : Nat) (r7 : List Psg → List Psg → Int → Int → List (List (Int × Int × Unit)) → Option (List (List (Int × Int × Unit)) × Int × Unit)) (af : List Psg) (ah : List Psg) (bj : Int) (aT : Int) (b8 : List (List (Int × Int × Unit))) : Option (List (List (Int × Int × Unit)) × Int × Unit) :=
  (bif decide (aT < bj) then (Option.bind (idx ah aT) fun (v8 : Psg) => (y9m n r7 n (af) (aT) (ah) (bj) (aT) (v8.2.2.1.getD []) ((↑(v8.2.2.1.getD []).length : Int)) ((0 : Int)) (b8) ([]))) else some (b8, (0 : Int), ()))
def yAX (n : Nat)  (k : Nat) (af : List Psg) (ah : List Psg) (bj : Int) (aT : Int) (b8 : List (List (Int × Int × Unit))) : Option (List (List (Int × Int × Unit)) × Int × Unit) :=
  iter (fun r y => yGh n (fun af ah bj aT b8 => r ((af, (ah, (bj, (aT, ())))), ((b8, ()), ()))) y.1.1 y.1.2.1 y.1.2.2.1 y.1.2.2.2.1 y.2.1.1) k ((af, (ah, (bj, (aT, ())))), ((b8, ()), ()))
def zz_m (n : Nat) (b : Bas) (v : List (Int × Int × Unit)) (l : List Rng) : Option (List (List (Int × Int × Unit)) × Int × Unit) :=
  (Option.bind (zO_M b v l) fun (v0 : Int × Unit) => (bif v0.1 != 0 then some ([], v0.1, ()) else (Option.bind (yCu v (1 : Int)) fun (v1 : List Int × Unit) => (Option.bind (z6_M l fun (x : Rng × Unit) => zZ_M x.1) fun (v2 : List Cnd × Unit) => (Option.bind (zo_M b v1.1 v2.1) fun (v3 : List Psg × Int × Unit) => (bif v3.2.1 != 0 then some ([], v3.2.1, ()) else (Option.bind (yCu v (0 : Int)) fun (v4 : List Int × Unit) => (Option.bind (z6_M l fun (x : Rng × Unit) => zc_M x.1) fun (v5 : List Cnd × Unit) => (Option.bind (zo_M b v4.1 v5.1) fun (v6 : List Psg × Int × Unit) => (bif v6.2.1 != 0 then some ([], v6.2.1, ()) else (yAX n n (v3.1) (v6.1) ((↑v6.1.length : Int)) ((0 : Int)) ([]))))))))))))
theorem yRm (n : Nat) (x : zz_a.den) : runF zz_g (yQa n) Tryz.f66 zz_a zz_r x = zz_m n x.1 x.2.1 x.2.2.1 := by kernel_rfl
def yMs (ac : List Psg) (aH : Int) (aC : List Psg) (aD : Int) (aE : Int) (aq : List Int) (aV : List (List (Int × Int × Unit))) (b6 : Int) (v10 : Int) (b4 : List (Int × Int × Unit)) : Option (((List (List (Int × Int × Unit)) × Int × Unit) ⊕ (List (List (Int × Int × Unit)))) ⊕ (List (Int × Int × Unit))) :=
  (Option.bind (idx ac aH) fun (v11 : Psg) => (Option.bind (idx (v11.2.2.1.getD []) b6) fun (v12 : Int) => (bif decide (b4.length + (1 : Nat) ≤ memMax) then (some (Sum.inr (b4 ++ [(v10, v12, ())]))) else none)))
def yKg (ac : List Psg) (aH : Int) (aC : List Psg) (aD : Int) (aE : Int) (aq : List Int) (aV : List (List (Int × Int × Unit))) (b4 : List (Int × Int × Unit)) : Option ((List (List (Int × Int × Unit)) × Int × Unit) ⊕ (List (List (Int × Int × Unit)))) :=
  (bif decide (aV.length + (1 : Nat) ≤ memMax) then (some (Sum.inr (aV ++ [b4]))) else none)
theorem yFR (n : Nat) (hn : big ≤ n)  (r7 : List Psg → List Psg → Int → Int → List (List (Int × Int × Unit)) → Option (List (List (Int × Int × Unit)) × Int × Unit)) (ac : List Psg) (aH : Int) (aC : List Psg) (aD : Int) (aE : Int) (aq : List Int) (aV : List (List (Int × Int × Unit))) (b4 : List (Int × Int × Unit)) (hx : List.length (aq) < lenMax) : LeF (elim some fun (s__ : (List (List (Int × Int × Unit)))) => r7 ac aC aD (IntKind.i64.wrap (aE + 1)) s__) (yL (fun i__ e__ s__ => yMs ac aH aC aD aE aq aV i__ e__ s__) (fun s__ => yKg ac aH aC aD aE aq aV s__) 0 (aq) b4) (y9m n r7 n ac aH aC aD aE aq (List.length (aq) : Int) 0 aV b4) := by
  refine yK (f := (elim some fun (s__ : (List (List (Int × Int × Unit)))) => r7 ac aC aD (IntKind.i64.wrap (aE + 1)) s__)) (W := fun k__ i__ s__ => y9m n r7 k__ ac aH aC aD aE aq (List.length (aq) : Int) i__ aV s__) (body := (fun i__ e__ s__ => yMs ac aH aC aD aE aq aV i__ e__ s__)) (fin := (fun s__ => yKg ac aH aC aD aE aq aV s__)) (fun k__ i__ s__ => ?_) hx b4 n (by unfold big at hn; unfold lenMax at hx; omega)
  show LeF _ _ (yGm n r7 (y9m n r7 k__) ac aH aC aD aE aq (List.length (aq) : Int) i__ aV s__)
  exact y6 (y5 fun v10 => (y5 fun v11 => (y5 fun v12 => (y6 (y7 rfl) yx)))) (y03 (y6 (y7 rfl) yx))
def yMm (af : List Psg) (ah : List Psg) (aT : Int) (v8 : Psg) (b8 : List (List (Int × Int × Unit))) : Option ((List (List (Int × Int × Unit)) × Int × Unit) ⊕ (List (List (Int × Int × Unit)))) :=
  (bif decide (List.length (v8.2.2.1.getD []) < lenMax) then yL (fun i__ e__ s__ => yMs (af) (aT) (ah) ((↑ah.length : Int)) (aT) (v8.2.2.1.getD []) (b8) i__ e__ s__) (fun s__ => yKg (af) (aT) (ah) ((↑ah.length : Int)) (aT) (v8.2.2.1.getD []) (b8) s__) 0 (v8.2.2.1.getD []) ([]) else none)
def yLp (af : List Psg) (ah : List Psg) (b8 : List (List (Int × Int × Unit))) : Option (List (List (Int × Int × Unit)) × Int × Unit) :=
  (some ((b8, (0 : Int), ())))
theorem yEj (n : Nat) (hn : big ≤ n)  (af : List Psg) (ah : List Psg) (b8 : List (List (Int × Int × Unit))) (hx : List.length (ah) < lenMax) : LeF some (yL (fun i__ e__ s__ => yMm af ah i__ e__ s__) (fun s__ => yLp af ah s__) 0 (ah) b8) (yAX n n af ah (List.length (ah) : Int) 0 b8) := by
  refine yK (f := some) (W := fun k__ i__ s__ => yAX n k__ af ah (List.length (ah) : Int) i__ s__) (body := (fun i__ e__ s__ => yMm af ah i__ e__ s__)) (fin := (fun s__ => yLp af ah s__)) (fun k__ i__ s__ => ?_) hx b8 n (by unfold big at hn; unfold lenMax at hx; omega)
  show LeF _ _ (yGh n (yAX n k__) af ah (List.length (ah) : Int) i__ s__)
  exact y6 (y5 fun v8 => (yN fun hx => by apply yFR n hn; exact hx)) (y03 (y7 rfl))
def zz_M (b : Bas) (v : List (Int × Int × Unit)) (l : List Rng) : Option (List (List (Int × Int × Unit)) × Int × Unit) :=
  (Option.bind (zO_M b v l) fun (v0 : Int × Unit) => (bif v0.1 != 0 then (some (([], v0.1, ()))) else (Option.bind (yCu v (1 : Int)) fun (v1 : List Int × Unit) => (Option.bind (z6_M l fun (x : Rng × Unit) => zZ_M x.1) fun (v2 : List Cnd × Unit) => (Option.bind (zo_M b v1.1 v2.1) fun (v3 : List Psg × Int × Unit) => (bif v3.2.1 != 0 then (some (([], v3.2.1, ()))) else (Option.bind (yCu v (0 : Int)) fun (v4 : List Int × Unit) => (Option.bind (z6_M l fun (x : Rng × Unit) => zc_M x.1) fun (v5 : List Cnd × Unit) => (Option.bind (zo_M b v4.1 v5.1) fun (v6 : List Psg × Int × Unit) => (bif v6.2.1 != 0 then (some (([], v6.2.1, ()))) else (bif decide (List.length (v6.1) < lenMax) then yL (fun i__ e__ s__ => yMm (v3.1) (v6.1) i__ e__ s__) (fun s__ => yLp (v3.1) (v6.1) s__) 0 (v6.1) ([]) else none)))))))))))
theorem yOQ (b : Bas) (v : List (Int × Int × Unit)) (l : List Rng) (y : List (List (Int × Int × Unit)) × Int × Unit) (h : zz_M b v l = some y) : ∃ n, zz_m n b v l = some y :=
  ⟨big, LeF.top (show LeF some (zz_M b v l) (zz_m big b v l) from (fun (n : Nat) (hn : big ≤ n) => show LeF some (zz_M b v l) (zz_m n b v l) from (y5 fun v0 => (y6 (y7 rfl) (y5 fun v1 => (y5 fun v2 => (y5 fun v3 => (y6 (y7 rfl) (y5 fun v4 => (y5 fun v5 => (y5 fun v6 => (y6 (y7 rfl) (yN fun hx => by apply yEj n hn; exact hx)))))))))))) big (Nat.le_refl _)) h⟩
def zz_e : Entry := { f := 66, args := zz_a, ress := zz_r, m := fun x => zz_M x.1 x.2.1 x.2.2.1 }
theorem yRu : FnOK Tryz.prog zz_e := yS (g := zz_g) (fn := Tryz.f66) yG yR (yD yTJ (yD yKV (yD ySJ (yD yS6 (yD yOi (yD ySX eNil)))))) (by kernel_rfl) (by kernel_rfl) (by kernel_rfl) (fun x y h => let ⟨n, hn⟩ := yOQ x.1 x.2.1 x.2.2.1 y h; ⟨yQa n, iNil, (yRm n x).trans hn⟩)
abbrev yML : Ty := .pair t41 (.pair t26 (.pair t54 .unit))
abbrev yOu : Ty := .pair t167 (.pair t35 .unit)
def yR0 : G := { T := T, E := [zX_e, z0V_e, zE_e, z7_e, z0J_e, zo_e], muts := [], fz := [] }
def yRs : List (List Nat) := []
def yKG (n : Nat) : Ann := { keep := yRs, fuel := n, inl := [], deep := 0 }
def yJA (n : Nat) (b : Bas) (v : List Int) (l : List Cnd) : Option (List Psg × Int × Unit) :=
  (Option.bind (zX_M b v) fun (v0 : Int × Unit) => (Option.bind (z7_M l fun (z : Cnd × Unit) => zE_M b z.1) fun (v1 : List Int × Unit) => (Option.bind (y0U v1.1) fun (v2 : Int × Unit) => (Option.bind (y0U [v0.1, (z0V (decide ((↑l.length : Int) > 96)) (5 : Int)).1, v2.1]) fun (v3 : Int × Unit) => (bif v3.1 != 0 then some ([], v3.1, ()) else (Option.bind (zo_M b v l) fun (v4 : List Psg × Int × Unit) => some (v4.1, v4.2.1, ())))))))
theorem yQQ (n : Nat) (x : yML.den) : runF yR0 (yKG n) Tryz.f96 yML yOu x = yJA n x.1 x.2.1 x.2.2.1 := by kernel_rfl
def yBS (b : Bas) (v : List Int) (l : List Cnd) : Option (List Psg × Int × Unit) := yJA 0 b v l
theorem yLQ (b : Bas) (v : List Int) (l : List Cnd) (y : List Psg × Int × Unit) (h : yBS b v l = some y) : ∃ n, yJA n b v l = some y := ⟨0, h⟩
def z00_e : Entry := { f := 96, args := yML, ress := yOu, m := fun x => yBS x.1 x.2.1 x.2.2.1 }
theorem yHG : FnOK Tryz.prog z00_e := yS (g := yR0) (fn := Tryz.f96) yG yR (yD yGN (yD y3U (yD yOd (yD yRV (yD y3n (yD yOi eNil)))))) (by kernel_rfl) (by kernel_rfl) (by kernel_rfl) (fun x y h => let ⟨n, hn⟩ := yLQ x.1 x.2.1 x.2.2.1 y h; ⟨yKG n, iNil, (yQQ n x).trans hn⟩)
end
end Go.Tw
end
section
set_option maxRecDepth 1000000
namespace Go.Tw
open Go.Vx Go.Vx.B Go.Proofs
noncomputable section
abbrev yMo : Ty := .pair t41 (.pair t26 (.pair t54 .unit))
abbrev yQt : Ty := .pair t56 (.pair t35 .unit)
def yO7 : G := { T := T, E := [z00_e, z05_e], muts := [], fz := [] }
def yRc : List (List Nat) := []
def yJx (n : Nat) : Ann := { keep := yRc, fuel := n, inl := [], deep := 0 }
def yIs (n : Nat) (b : Bas) (v : List Int) (l : List Cnd) : Option (List (List Int) × Int × Unit) :=
  (Option.bind (yBS b v l) fun (v0 : List Psg × Int × Unit) => (Option.bind (yGy v0.1) fun (v1 : List (List Int) × Unit) => some (v1.1, v0.2.1, ())))
theorem yNc (n : Nat) (x : yMo.den) : runF yO7 (yJx n) Tryz.f27 yMo yQt x = yIs n x.1 x.2.1 x.2.2.1 := by kernel_rfl
def y9u (b : Bas) (v : List Int) (l : List Cnd) : Option (List (List Int) × Int × Unit) := yIs 0 b v l
theorem yLN (b : Bas) (v : List Int) (l : List Cnd) (y : List (List Int) × Int × Unit) (h : y9u b v l = some y) : ∃ n, yIs n b v l = some y := ⟨0, h⟩
def z0a_e : Entry := { f := 27, args := yMo, ress := yQt, m := fun x => y9u x.1 x.2.1 x.2.2.1 }
theorem yJo : FnOK Tryz.prog z0a_e := yS (g := yO7) (fn := Tryz.f27) yG yR (yD yHG (yD yNW eNil)) (by kernel_rfl) (by kernel_rfl) (by kernel_rfl) (fun x y h => let ⟨n, hn⟩ := yLN x.1 x.2.1 x.2.2.1 y h; ⟨yJx n, iNil, (yNc n x).trans hn⟩)
abbrev yLB : Ty := .pair t41 (.pair t26 (.pair t44 .unit))
abbrev yQh : Ty := .pair t26 (.pair t35 .unit)
def yQi : G := { T := T, E := [z00_e], muts := [], fz := [] }
def ySB : List (List Nat) := []
def yK1 (n : Nat) : Ann := { keep := ySB, fuel := n, inl := [], deep := 0 }
def yMD (n : Nat) (b : Bas) (v : List Int) (c : Cnd) : Option (List Int × Int × Unit) :=
  (Option.bind (yBS b v [c]) fun (v0 : List Psg × Int × Unit) => (bif v0.2.1 != 0 then some ([], v0.2.1, ()) else (Option.bind (idx v0.1 (0 : Int)) fun (v1 : Psg) => some (v1.2.1, (0 : Int), ()))))
theorem yO2 (n : Nat) (x : yLB.den) : runF yQi (yK1 n) Tryz.f42 yLB yQh x = yMD n x.1 x.2.1 x.2.2.1 := by kernel_rfl
def yMt (b : Bas) (v : List Int) (c : Cnd) : Option (List Int × Int × Unit) := yMD 0 b v c
theorem yLP (b : Bas) (v : List Int) (c : Cnd) (y : List Int × Int × Unit) (h : yMt b v c = some y) : ∃ n, yMD n b v c = some y := ⟨0, h⟩
def z0F_e : Entry := { f := 42, args := yLB, ress := yQh, m := fun x => yMt x.1 x.2.1 x.2.2.1 }
theorem yQf : FnOK Tryz.prog z0F_e := yS (g := yQi) (fn := Tryz.f42) yG yR (yD yHG eNil) (by kernel_rfl) (by kernel_rfl) (by kernel_rfl) (fun x y h => let ⟨n, hn⟩ := yLP x.1 x.2.1 x.2.2.1 y h; ⟨yK1 n, iNil, (yO2 n x).trans hn⟩)
abbrev zy_a : Ty := .pair t41 (.pair t26 (.pair t54 .unit))
abbrev zy_r : Ty := .pair t78 (.pair t35 .unit)
def zy_g : G := { T := T, E := [z00_e], muts := [], fz := [] }
def zy_k : List (List Nat) := [[3, 6, 10, 28, 29, 30], [3, 6, 10, 12, 28, 29, 30, 36, 37, 38], [3, 6, 10, 28, 29, 30, 49, 50, 51]]
def yOp (n : Nat) : Ann := { keep := zy_k, fuel := n, inl := [], deep := 0 }
def yHj (n : Nat) (r1 : Bas → List Psg → Int → Int → Int → Int → Int → Int → Int → Int → Option ((Int × Int × Int × Unit) × Int × Unit)) (r5 : Bas → List Psg → Int → Int → List Int → Int → Int → Int → Int → Int → Int → Int → Int → Option ((Int × Int × Int × Unit) × Int × Unit)) (aF : Bas) (ar : List Psg) (au : Int) (av : Int) (aj : List Int) (bc : Int) (aI : Int) (b0_0_5 : Int) (b0_1_5 : Int) (b0_2_5 : Int) (b1_0_5 : Int) (b1_1_5 : Int) (b1_2_5 : Int) : Option ((Int × Int × Int × Unit) × Int × Unit) :=
  (bif decide (aI < bc) then (Option.bind (idx aj aI) fun (v6 : Int) => (Option.bind (idx aF.2.1 aI) fun (v7 : Lnk) => (bif v7.2.1 == (-1 : Int) then (Option.bind (idx aF.2.1 aI) fun (v10 : Lnk) => (bif v10.2.2.1 == (-1 : Int) then r5 aF ar au av aj bc (IntKind.i64.wrap (aI + 1)) b0_0_5 b0_1_5 b0_2_5 b1_0_5 (IntKind.i64.wrap (b1_1_5 + if Bool.true = Bool.true then if (0 : Int) > v6 then (0 : Int) else v6 else if (0 : Int) < v6 then (0 : Int) else v6)) (IntKind.i64.wrap (IntKind.i64.wrap (b1_2_5 + if Bool.true = Bool.true then if (0 : Int) > IntKind.i64.wrap ((0 : Int) - v6) then (0 : Int) else IntKind.i64.wrap ((0 : Int) - v6) else if (0 : Int) < IntKind.i64.wrap ((0 : Int) - v6) then (0 : Int) else IntKind.i64.wrap ((0 : Int) - v6)) + v6)) else r5 aF ar au av aj bc (IntKind.i64.wrap (aI + 1)) b0_0_5 b0_1_5 b0_2_5 b1_0_5 (IntKind.i64.wrap (b1_1_5 + if Bool.true = Bool.true then if (0 : Int) > v6 then (0 : Int) else v6 else if (0 : Int) < v6 then (0 : Int) else v6)) (IntKind.i64.wrap (b1_2_5 + if Bool.true = Bool.true then if (0 : Int) > IntKind.i64.wrap ((0 : Int) - v6) then (0 : Int) else IntKind.i64.wrap ((0 : Int) - v6) else if (0 : Int) < IntKind.i64.wrap ((0 : Int) - v6) then (0 : Int) else IntKind.i64.wrap ((0 : Int) - v6))))) else (Option.bind (idx aF.2.1 aI) fun (v11 : Lnk) => (bif v11.2.2.1 == (-1 : Int) then r5 aF ar au av aj bc (IntKind.i64.wrap (aI + 1)) b0_0_5 b0_1_5 b0_2_5 b1_0_5 b1_1_5 (IntKind.i64.wrap (b1_2_5 + v6)) else r5 aF ar au av aj bc (IntKind.i64.wrap (aI + 1)) b0_0_5 b0_1_5 b0_2_5 b1_0_5 b1_1_5 b1_2_5))))) else r1 aF ar au (IntKind.i64.wrap (av + 1)) b0_0_5 b0_1_5 b0_2_5 b1_0_5 b1_1_5 b1_2_5)
def yA6 (n : Nat) (r1 : Bas → List Psg → Int → Int → Int → Int → Int → Int → Int → Int → Option ((Int × Int × Int × Unit) × Int × Unit)) (k : Nat) (aF : Bas) (ar : List Psg) (au : Int) (av : Int) (aj : List Int) (bc : Int) (aI : Int) (b0_0_5 : Int) (b0_1_5 : Int) (b0_2_5 : Int) (b1_0_5 : Int) (b1_1_5 : Int) (b1_2_5 : Int) : Option ((Int × Int × Int × Unit) × Int × Unit) :=
  iter (fun r y => yHj n r1 (fun aF ar au av aj bc aI b0_0_5 b0_1_5 b0_2_5 b1_0_5 b1_1_5 b1_2_5 => r ((aF, (ar, (au, (av, (aj, (bc, (aI, ()))))))), (((b0_0_5, (b0_1_5, (b0_2_5, ()))), ((b1_0_5, (b1_1_5, (b1_2_5, ()))), ())), ()))) y.1.1 y.1.2.1 y.1.2.2.1 y.1.2.2.2.1 y.1.2.2.2.2.1 y.1.2.2.2.2.2.1 y.1.2.2.2.2.2.2.1 y.2.1.1.1 y.2.1.1.2.1 y.2.1.1.2.2.1 y.2.1.2.1.1 y.2.1.2.1.2.1 y.2.1.2.1.2.2.1) k ((aF, (ar, (au, (av, (aj, (bc, (aI, ()))))))), (((b0_0_5, (b0_1_5, (b0_2_5, ()))), ((b1_0_5, (b1_1_5, (b1_2_5, ()))), ())), ()))
def yG3 (n : Nat) (r1 : Bas → List Psg → Int → Int → Int → Int → Int → Int → Int → Int → Option ((Int × Int × Int × Unit) × Int × Unit)) (r3 : Bas → List Psg → Int → Int → List Int → Int → Int → Int → Int → Int → Int → Int → Int → Int → Bool → List Int → List Int → Option (List Int) → Option ((Int × Int × Int × Unit) × Int × Unit)) (aU : Bas) (ay : List Psg) (az : Int) (aA : Int) (ax : List Int) (bl : Int) (be : Int) (b0_0_3 : Int) (b0_1_3 : Int) (b0_2_3 : Int) (b1_0_3 : Int) (b1_1_3 : Int) (b1_2_3 : Int) (b2_0_3 : Int) (b2_1_3 : Bool) (b2_2_3 : List Int) (b2_3_3 : List Int) (b2_4_3 : Option (List Int)) : Option ((Int × Int × Int × Unit) × Int × Unit) :=
  (bif decide (be < bl) then (Option.bind (idx ax be) fun (v4 : Int) => r3 aU ay az aA ax bl (IntKind.i64.wrap (be + 1)) b0_0_3 b0_1_3 b0_2_3 (IntKind.i64.wrap (b1_0_3 + v4)) b1_1_3 b1_2_3 b2_0_3 b2_1_3 b2_2_3 b2_3_3 b2_4_3) else (yA6 n r1 n (aU) (ay) (az) (aA) (b2_3_3) ((↑b2_3_3.length : Int)) ((0 : Int)) (b0_0_3) (b0_1_3) (b0_2_3) (b1_0_3) (b1_1_3) (b1_2_3)))
def yAO (n : Nat) (r1 : Bas → List Psg → Int → Int → Int → Int → Int → Int → Int → Int → Option ((Int × Int × Int × Unit) × Int × Unit)) (k : Nat) (aU : Bas) (ay : List Psg) (az : Int) (aA : Int) (ax : List Int) (bl : Int) (be : Int) (b0_0_3 : Int) (b0_1_3 : Int) (b0_2_3 : Int) (b1_0_3 : Int) (b1_1_3 : Int) (b1_2_3 : Int) (b2_0_3 : Int) (b2_1_3 : Bool) (b2_2_3 : List Int) (b2_3_3 : List Int) (b2_4_3 : Option (List Int)) : Option ((Int × Int × Int × Unit) × Int × Unit) :=
  iter (fun r y => yG3 n r1 (fun aU ay az aA ax bl be b0_0_3 b0_1_3 b0_2_3 b1_0_3 b1_1_3 b1_2_3 b2_0_3 b2_1_3 b2_2_3 b2_3_3 b2_4_3 => r ((aU, (ay, (az, (aA, (ax, (bl, (be, ()))))))), (((b0_0_3, (b0_1_3, (b0_2_3, ()))), ((b1_0_3, (b1_1_3, (b1_2_3, ()))), ((b2_0_3, (b2_1_3, (b2_2_3, (b2_3_3, (b2_4_3, ()))))), ()))), ()))) y.1.1 y.1.2.1 y.1.2.2.1 y.1.2.2.2.1 y.1.2.2.2.2.1 y.1.2.2.2.2.2.1 y.1.2.2.2.2.2.2.1 y.2.1.1.1 y.2.1.1.2.1 y.2.1.1.2.2.1 y.2.1.2.1.1 y.2.1.2.1.2.1 y.2.1.2.1.2.2.1 y.2.1.2.2.1.1 y.2.1.2.2.1.2.1 y.2.1.2.2.1.2.2.1 y.2.1.2.2.1.2.2.2.1 y.2.1.2.2.1.2.2.2.2.1) k ((aU, (ay, (az, (aA, (ax, (bl, (be, ()))))))), (((b0_0_3, (b0_1_3, (b0_2_3, ()))), ((b1_0_3, (b1_1_3, (b1_2_3, ()))), ((b2_0_3, (b2_1_3, (b2_2_3, (b2_3_3, (b2_4_3, ()))))), ()))), ()))
def yHy (n : Nat) (r1 : Bas → List Psg → Int → Int → Int → Int → Int → Int → Int → Int → Option ((Int × Int × Int × Unit) × Int × Unit)) (aY : Bas) (ai : List Psg) (bm : Int) (b7 : Int) (b0_0_1 : Int) (b0_1_1 : Int) (b0_2_1 : Int) (b1_0_1 : Int) (b1_1_1 : Int) (b1_2_1 : Int) : Option ((Int × Int × Int × Unit) × Int × Unit) :=
  (bif decide (b7 < bm) then (Option.bind (idx ai b7) fun (v2 : Psg) => (yAO n r1 n (aY) (ai) (bm) (b7) (v2.1.2.2.1) ((↑v2.1.2.2.1.length : Int)) ((0 : Int)) (b0_0_1) (b0_1_1) (b0_2_1) (b1_0_1) (b1_1_1) (b1_2_1) (v2.1.1) (v2.1.2.1) (v2.1.2.2.1) (v2.2.1) (v2.2.2.1))) else some ((b1_0_1, b1_1_1, b1_2_1, ()), (0 : Int), ()))
def yAR (n : Nat)  (k : Nat) (aY : Bas) (ai : List Psg) (bm : Int) (b7 : Int) (b0_0_1 : Int) (b0_1_1 : Int) (b0_2_1 : Int) (b1_0_1 : Int) (b1_1_1 : Int) (b1_2_1 : Int) : Option ((Int × Int × Int × Unit) × Int × Unit) :=
  iter (fun r y => yHy n (fun aY ai bm b7 b0_0_1 b0_1_1 b0_2_1 b1_0_1 b1_1_1 b1_2_1 => r ((aY, (ai, (bm, (b7, ())))), (((b0_0_1, (b0_1_1, (b0_2_1, ()))), ((b1_0_1, (b1_1_1, (b1_2_1, ()))), ())), ()))) y.1.1 y.1.2.1 y.1.2.2.1 y.1.2.2.2.1 y.2.1.1.1 y.2.1.1.2.1 y.2.1.1.2.2.1 y.2.1.2.1.1 y.2.1.2.1.2.1 y.2.1.2.1.2.2.1) k ((aY, (ai, (bm, (b7, ())))), (((b0_0_1, (b0_1_1, (b0_2_1, ()))), ((b1_0_1, (b1_1_1, (b1_2_1, ()))), ())), ()))
def zy_m (n : Nat) (b : Bas) (v : List Int) (l : List Cnd) : Option ((Int × Int × Int × Unit) × Int × Unit) :=
  (Option.bind (yBS b v l) fun (v0 : List Psg × Int × Unit) => (bif v0.2.1 != 0 then some (((0 : Int), (0 : Int), (0 : Int), ()), v0.2.1, ()) else (yAR n n (b) (v0.1) ((↑v0.1.length : Int)) ((0 : Int)) ((0 : Int)) ((0 : Int)) ((0 : Int)) ((0 : Int)) ((0 : Int)) ((0 : Int)))))
theorem yT9 (n : Nat) (x : zy_a.den) : runF zy_g (yOp n) Tryz.f45 zy_a zy_r x = zy_m n x.1 x.2.1 x.2.2.1 := by kernel_rfl
def yMl (aF : Bas) (ar : List Psg) (au : Int) (av : Int) (aj : List Int) (b0_0_5 : Int) (b0_1_5 : Int) (b0_2_5 : Int) (b1_0_5 : Int) (aI : Int) (v6 : Int) (b1_1_5 : Int) (b1_2_5 : Int) : Option ((((Int × Int × Int × Unit) × Int × Unit) ⊕ (Int × Int × Int)) ⊕ (Int × Int)) :=
  (Option.bind (idx aF.2.1 aI) fun (v7 : Lnk) => (bif v7.2.1 == (-1 : Int) then (Option.bind (idx aF.2.1 aI) fun (v10 : Lnk) => (bif v10.2.2.1 == (-1 : Int) then (some (Sum.inr ((IntKind.i64.wrap (b1_1_5 + if Bool.true = Bool.true then if (0 : Int) > v6 then (0 : Int) else v6 else if (0 : Int) < v6 then (0 : Int) else v6)), (IntKind.i64.wrap (IntKind.i64.wrap (b1_2_5 + if Bool.true = Bool.true then if (0 : Int) > IntKind.i64.wrap ((0 : Int) - v6) then (0 : Int) else IntKind.i64.wrap ((0 : Int) - v6) else if (0 : Int) < IntKind.i64.wrap ((0 : Int) - v6) then (0 : Int) else IntKind.i64.wrap ((0 : Int) - v6)) + v6))))) else (some (Sum.inr ((IntKind.i64.wrap (b1_1_5 + if Bool.true = Bool.true then if (0 : Int) > v6 then (0 : Int) else v6 else if (0 : Int) < v6 then (0 : Int) else v6)), (IntKind.i64.wrap (b1_2_5 + if Bool.true = Bool.true then if (0 : Int) > IntKind.i64.wrap ((0 : Int) - v6) then (0 : Int) else IntKind.i64.wrap ((0 : Int) - v6) else if (0 : Int) < IntKind.i64.wrap ((0 : Int) - v6) then (0 : Int) else IntKind.i64.wrap ((0 : Int) - v6)))))))) else (Option.bind (idx aF.2.1 aI) fun (v11 : Lnk) => (bif v11.2.2.1 == (-1 : Int) then (some (Sum.inr ((b1_1_5), (IntKind.i64.wrap (b1_2_5 + v6))))) else (some (Sum.inr ((b1_1_5), (b1_2_5))))))))
def yLy (aF : Bas) (ar : List Psg) (au : Int) (av : Int) (aj : List Int) (b0_0_5 : Int) (b0_1_5 : Int) (b0_2_5 : Int) (b1_0_5 : Int) (b1_1_5 : Int) (b1_2_5 : Int) : Option (((Int × Int × Int × Unit) × Int × Unit) ⊕ (Int × Int × Int)) :=
  (some (Sum.inr ((b1_0_5), (b1_1_5), (b1_2_5))))
theorem yF5 (n : Nat) (hn : big ≤ n)  (r1 : Bas → List Psg → Int → Int → Int → Int → Int → Int → Int → Int → Option ((Int × Int × Int × Unit) × Int × Unit)) (aF : Bas) (ar : List Psg) (au : Int) (av : Int) (aj : List Int) (b0_0_5 : Int) (b0_1_5 : Int) (b0_2_5 : Int) (b1_0_5 : Int) (b1_1_5 : Int) (b1_2_5 : Int) (hx : List.length (aj) < lenMax) : LeF (elim some fun (s__ : (Int × Int × Int)) => r1 aF ar au (IntKind.i64.wrap (av + 1)) b0_0_5 b0_1_5 b0_2_5 s__.1 s__.2.1 s__.2.2) (yL (fun i__ e__ s__ => yMl aF ar au av aj b0_0_5 b0_1_5 b0_2_5 b1_0_5 i__ e__ s__.1 s__.2) (fun s__ => yLy aF ar au av aj b0_0_5 b0_1_5 b0_2_5 b1_0_5 s__.1 s__.2) 0 (aj) (b1_1_5, b1_2_5)) (yA6 n r1 n aF ar au av aj (List.length (aj) : Int) 0 b0_0_5 b0_1_5 b0_2_5 b1_0_5 b1_1_5 b1_2_5) := by
  refine yK (f := (elim some fun (s__ : (Int × Int × Int)) => r1 aF ar au (IntKind.i64.wrap (av + 1)) b0_0_5 b0_1_5 b0_2_5 s__.1 s__.2.1 s__.2.2)) (W := fun k__ i__ s__ => yA6 n r1 k__ aF ar au av aj (List.length (aj) : Int) i__ b0_0_5 b0_1_5 b0_2_5 b1_0_5 s__.1 s__.2) (body := (fun i__ e__ s__ => yMl aF ar au av aj b0_0_5 b0_1_5 b0_2_5 b1_0_5 i__ e__ s__.1 s__.2)) (fin := (fun s__ => yLy aF ar au av aj b0_0_5 b0_1_5 b0_2_5 b1_0_5 s__.1 s__.2)) (fun k__ i__ s__ => ?_) hx (b1_1_5, b1_2_5) n (by unfold big at hn; unfold lenMax at hx; omega)
  show LeF _ _ (yHj n r1 (yA6 n r1 k__) aF ar au av aj (List.length (aj) : Int) i__ b0_0_5 b0_1_5 b0_2_5 b1_0_5 s__.1 s__.2)
  exact y6 (y5 fun v6 => (y5 fun v7 => (y6 (y5 fun v10 => (y6 (y7 rfl) (y7 rfl))) (y5 fun v11 => (y6 (y7 rfl) (y7 rfl)))))) (y03 (y7 rfl))
def yLG (aU : Bas) (ay : List Psg) (az : Int) (aA : Int) (ax : List Int) (b0_0_3 : Int) (b0_1_3 : Int) (b0_2_3 : Int) (b1_1_3 : Int) (b1_2_3 : Int) (b2_0_3 : Int) (b2_1_3 : Bool) (b2_2_3 : List Int) (b2_3_3 : List Int) (b2_4_3 : Option (List Int)) (be : Int) (v4 : Int) (b1_0_3 : Int) : Option ((((Int × Int × Int × Unit) × Int × Unit) ⊕ (Int × Int × Int)) ⊕ (Int)) :=
  (some (Sum.inr (IntKind.i64.wrap (b1_0_3 + v4))))
def yMB (aU : Bas) (ay : List Psg) (az : Int) (aA : Int) (ax : List Int) (b0_0_3 : Int) (b0_1_3 : Int) (b0_2_3 : Int) (b1_1_3 : Int) (b1_2_3 : Int) (b2_0_3 : Int) (b2_1_3 : Bool) (b2_2_3 : List Int) (b2_3_3 : List Int) (b2_4_3 : Option (List Int)) (b1_0_3 : Int) : Option (((Int × Int × Int × Unit) × Int × Unit) ⊕ (Int × Int × Int)) :=
  (bif decide (List.length (b2_3_3) < lenMax) then yL (fun i__ e__ s__ => yMl (aU) (ay) (az) (aA) (b2_3_3) (b0_0_3) (b0_1_3) (b0_2_3) (b1_0_3) i__ e__ s__.1 s__.2) (fun s__ => yLy (aU) (ay) (az) (aA) (b2_3_3) (b0_0_3) (b0_1_3) (b0_2_3) (b1_0_3) s__.1 s__.2) 0 (b2_3_3) ((b1_1_3), (b1_2_3)) else none)
theorem yEw (n : Nat) (hn : big ≤ n)  (r1 : Bas → List Psg → Int → Int → Int → Int → Int → Int → Int → Int → Option ((Int × Int × Int × Unit) × Int × Unit)) (aU : Bas) (ay : List Psg) (az : Int) (aA : Int) (ax : List Int) (b0_0_3 : Int) (b0_1_3 : Int) (b0_2_3 : Int) (b1_1_3 : Int) (b1_2_3 : Int) (b2_0_3 : Int) (b2_1_3 : Bool) (b2_2_3 : List Int) (b2_3_3 : List Int) (b2_4_3 : Option (List Int)) (b1_0_3 : Int) (hx : List.length (ax) < lenMax) : LeF (elim some fun (s__ : (Int × Int × Int)) => r1 aU ay az (IntKind.i64.wrap (aA + 1)) b0_0_3 b0_1_3 b0_2_3 s__.1 s__.2.1 s__.2.2) (yL (fun i__ e__ s__ => yLG aU ay az aA ax b0_0_3 b0_1_3 b0_2_3 b1_1_3 b1_2_3 b2_0_3 b2_1_3 b2_2_3 b2_3_3 b2_4_3 i__ e__ s__) (fun s__ => yMB aU ay az aA ax b0_0_3 b0_1_3 b0_2_3 b1_1_3 b1_2_3 b2_0_3 b2_1_3 b2_2_3 b2_3_3 b2_4_3 s__) 0 (ax) b1_0_3) (yAO n r1 n aU ay az aA ax (List.length (ax) : Int) 0 b0_0_3 b0_1_3 b0_2_3 b1_0_3 b1_1_3 b1_2_3 b2_0_3 b2_1_3 b2_2_3 b2_3_3 b2_4_3) := by
  refine yK (f := (elim some fun (s__ : (Int × Int × Int)) => r1 aU ay az (IntKind.i64.wrap (aA + 1)) b0_0_3 b0_1_3 b0_2_3 s__.1 s__.2.1 s__.2.2)) (W := fun k__ i__ s__ => yAO n r1 k__ aU ay az aA ax (List.length (ax) : Int) i__ b0_0_3 b0_1_3 b0_2_3 s__ b1_1_3 b1_2_3 b2_0_3 b2_1_3 b2_2_3 b2_3_3 b2_4_3) (body := (fun i__ e__ s__ => yLG aU ay az aA ax b0_0_3 b0_1_3 b0_2_3 b1_1_3 b1_2_3 b2_0_3 b2_1_3 b2_2_3 b2_3_3 b2_4_3 i__ e__ s__)) (fin := (fun s__ => yMB aU ay az aA ax b0_0_3 b0_1_3 b0_2_3 b1_1_3 b1_2_3 b2_0_3 b2_1_3 b2_2_3 b2_3_3 b2_4_3 s__)) (fun k__ i__ s__ => ?_) hx b1_0_3 n (by unfold big at hn; unfold lenMax at hx; omega)
  show LeF _ _ (yG3 n r1 (yAO n r1 k__) aU ay az aA ax (List.length (ax) : Int) i__ b0_0_3 b0_1_3 b0_2_3 s__ b1_1_3 b1_2_3 b2_0_3 b2_1_3 b2_2_3 b2_3_3 b2_4_3)
  exact y6 (y5 fun v4 => (y7 rfl)) (y03 (yN fun hx => by apply yF5 n hn; exact hx))
def yKp (aY : Bas) (ai : List Psg) (b0_0_1 : Int) (b0_1_1 : Int) (b0_2_1 : Int) (b7 : Int) (v2 : Psg) (b1_0_1 : Int) (b1_1_1 : Int) (b1_2_1 : Int) : Option (((Int × Int × Int × Unit) × Int × Unit) ⊕ (Int × Int × Int)) :=
  (bif decide (List.length (v2.1.2.2.1) < lenMax) then yL (fun i__ e__ s__ => yLG (aY) (ai) ((↑ai.length : Int)) (b7) (v2.1.2.2.1) (b0_0_1) (b0_1_1) (b0_2_1) (b1_1_1) (b1_2_1) (v2.1.1) (v2.1.2.1) (v2.1.2.2.1) (v2.2.1) (v2.2.2.1) i__ e__ s__) (fun s__ => yMB (aY) (ai) ((↑ai.length : Int)) (b7) (v2.1.2.2.1) (b0_0_1) (b0_1_1) (b0_2_1) (b1_1_1) (b1_2_1) (v2.1.1) (v2.1.2.1) (v2.1.2.2.1) (v2.2.1) (v2.2.2.1) s__) 0 (v2.1.2.2.1) (b1_0_1) else none)
def yLO (aY : Bas) (ai : List Psg) (b0_0_1 : Int) (b0_1_1 : Int) (b0_2_1 : Int) (b1_0_1 : Int) (b1_1_1 : Int) (b1_2_1 : Int) : Option ((Int × Int × Int × Unit) × Int × Unit) :=
  (some (((b1_0_1, b1_1_1, b1_2_1, ()), (0 : Int), ())))
theorem yEc (n : Nat) (hn : big ≤ n)  (aY : Bas) (ai : List Psg) (b0_0_1 : Int) (b0_1_1 : Int) (b0_2_1 : Int) (b1_0_1 : Int) (b1_1_1 : Int) (b1_2_1 : Int) (hx : List.length (ai) < lenMax) : LeF some (yL (fun i__ e__ s__ => yKp aY ai b0_0_1 b0_1_1 b0_2_1 i__ e__ s__.1 s__.2.1 s__.2.2) (fun s__ => yLO aY ai b0_0_1 b0_1_1 b0_2_1 s__.1 s__.2.1 s__.2.2) 0 (ai) (b1_0_1, b1_1_1, b1_2_1)) (yAR n n aY ai (List.length (ai) : Int) 0 b0_0_1 b0_1_1 b0_2_1 b1_0_1 b1_1_1 b1_2_1) := by
  refine yK (f := some) (W := fun k__ i__ s__ => yAR n k__ aY ai (List.length (ai) : Int) i__ b0_0_1 b0_1_1 b0_2_1 s__.1 s__.2.1 s__.2.2) (body := (fun i__ e__ s__ => yKp aY ai b0_0_1 b0_1_1 b0_2_1 i__ e__ s__.1 s__.2.1 s__.2.2)) (fin := (fun s__ => yLO aY ai b0_0_1 b0_1_1 b0_2_1 s__.1 s__.2.1 s__.2.2)) (fun k__ i__ s__ => ?_) hx (b1_0_1, b1_1_1, b1_2_1) n (by unfold big at hn; unfold lenMax at hx; omega)
  show LeF _ _ (yHy n (yAR n k__) aY ai (List.length (ai) : Int) i__ b0_0_1 b0_1_1 b0_2_1 s__.1 s__.2.1 s__.2.2)
  exact y6 (y5 fun v2 => (yN fun hx => by apply yEw n hn; exact hx)) (y03 (y7 rfl))
def zy_M (b : Bas) (v : List Int) (l : List Cnd) : Option ((Int × Int × Int × Unit) × Int × Unit) :=
  (Option.bind (yBS b v l) fun (v0 : List Psg × Int × Unit) => (bif v0.2.1 != 0 then (some ((((0 : Int), (0 : Int), (0 : Int), ()), v0.2.1, ()))) else (bif decide (List.length (v0.1) < lenMax) then yL (fun i__ e__ s__ => yKp (b) (v0.1) ((0 : Int)) ((0 : Int)) ((0 : Int)) i__ e__ s__.1 s__.2.1 s__.2.2) (fun s__ => yLO (b) (v0.1) ((0 : Int)) ((0 : Int)) ((0 : Int)) s__.1 s__.2.1 s__.2.2) 0 (v0.1) (((0 : Int)), ((0 : Int)), ((0 : Int))) else none)))
theorem yPS (b : Bas) (v : List Int) (l : List Cnd) (y : (Int × Int × Int × Unit) × Int × Unit) (h : zy_M b v l = some y) : ∃ n, zy_m n b v l = some y :=
  ⟨big, LeF.top (show LeF some (zy_M b v l) (zy_m big b v l) from (fun (n : Nat) (hn : big ≤ n) => show LeF some (zy_M b v l) (zy_m n b v l) from (y5 fun v0 => (y6 (y7 rfl) (yN fun hx => by apply yEc n hn; exact hx)))) big (Nat.le_refl _)) h⟩
def zy_e : Entry := { f := 45, args := zy_a, ress := zy_r, m := fun x => zy_M x.1 x.2.1 x.2.2.1 }
theorem ySm : FnOK Tryz.prog zy_e := yS (g := zy_g) (fn := Tryz.f45) yG yR (yD yHG eNil) (by kernel_rfl) (by kernel_rfl) (by kernel_rfl) (fun x y h => let ⟨n, hn⟩ := yPS x.1 x.2.1 x.2.2.1 y h; ⟨yOp n, iNil, (yT9 n x).trans hn⟩)
end
end Go.Tw
end
