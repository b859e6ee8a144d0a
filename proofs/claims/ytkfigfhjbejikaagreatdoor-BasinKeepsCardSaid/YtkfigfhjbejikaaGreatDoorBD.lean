/- Models of the program's functions, by program (gen.py), and what they compute.
Models of the program's functions, by program (gen.py), and what they compute.
Models of the program's functions, by program (gen.py), and what they compute.
Models of the program's functions, by program (gen.py), and what they compute.
Models of the program's functions, by program (gen.py), and what they compute. -/
import Derived.Test.YtkfigfhjbejikaaGreatDoorBT
import Derived.Test.YtkfigfhjbejikaaGreatDoorBA
import Derived.Test.YtkfigfhjbejikaaGreatDoorBC

section
set_option linter.all false
set_option maxRecDepth 1000000
namespace Go.Tw
open Go.Vx Go.Vx.B Go.Proofs
/-! ### basin.CheckBasin$1 -/
abbrev basin_CheckBasin_1_a : Ty := .pair t163 (.pair (.ref t41) .unit)
abbrev basin_CheckBasin_1_r : Ty := .pair t35 .unit
noncomputable def basin_CheckBasin_1_g : G := { T := T, E := [basin_Link_check_e], muts := [], fz := [] }
def basin_CheckBasin_1_k : List (List Nat) := []
noncomputable def basin_CheckBasin_1_an (n : Nat) : Ann := { keep := basin_CheckBasin_1_k, fuel := n, inl := [], deep := 0 }
noncomputable def basin_CheckBasin_1_m (n : Nat) (l : Lnk) (p1 : Bas) : Option (Int × Unit) :=
  (Option.bind (Go.Tw.basin_Link_check_M l (↑p1.fst.length : Int)) fun (v0 : Int × Unit) => Option.some (v0.fst, ()))

theorem basin_CheckBasin_1_eq (n : Nat) (x : basin_CheckBasin_1_a.den) : runF basin_CheckBasin_1_g (basin_CheckBasin_1_an n) Tryz.f102 basin_CheckBasin_1_a basin_CheckBasin_1_r x = basin_CheckBasin_1_m n x.1 x.2.1 := by kernel_rfl

noncomputable def basin_CheckBasin_1_M (l : Lnk) (p1 : Bas) : Option (Int × Unit) := basin_CheckBasin_1_m 0 l p1

theorem basin_CheckBasin_1_run (l : Lnk) (p1 : Bas) (y : Int × Unit) (h : basin_CheckBasin_1_M l p1 = some y) : ∃ n, basin_CheckBasin_1_m n l p1 = some y := ⟨0, h⟩
noncomputable def basin_CheckBasin_1_e : Entry := { f := 102, args := basin_CheckBasin_1_a, ress := basin_CheckBasin_1_r, m := fun x => basin_CheckBasin_1_M x.1 x.2.1 }
theorem basin_CheckBasin_1_ok : FnOK Tryz.prog basin_CheckBasin_1_e := fn_ok (g := basin_CheckBasin_1_g) (fn := Tryz.f102) hmixed tabOk (eCons basin_Link_check_ok eNil) (by kernel_rfl) (by kernel_rfl) (by kernel_rfl) (fun x y h => let ⟨n, hn⟩ := basin_CheckBasin_1_run x.1 x.2.1 y h; ⟨basin_CheckBasin_1_an n, iNil, (basin_CheckBasin_1_eq n x).trans hn⟩)

/-! ### (basin.Basin).checkRanges -/
abbrev basin_Basin_checkRanges_a : Ty := .pair t41 (.pair t108 .unit)
abbrev basin_Basin_checkRanges_r : Ty := .pair t35 .unit
noncomputable def basin_Basin_checkRanges_g : G := { T := T, E := [basin_when_e, basin_Basin_checkRange_e, basin_mapped_basin_Range_api_Errno_e, basin_first_e], muts := [], fz := [] }
def basin_Basin_checkRanges_k : List (List Nat) := []
noncomputable def basin_Basin_checkRanges_an (n : Nat) : Ann := { keep := basin_Basin_checkRanges_k, fuel := n, inl := [], deep := 0 }
noncomputable def basin_Basin_checkRanges_m (n : Nat) (b : Bas) (l : List Rng) : Option (Int × Unit) :=
  (Option.bind (Go.Tw.basin_mapped_basin_Range_api_Errno_M l fun (z : Rng × Unit) => Go.Tw.basin_Basin_checkRange_M b z.fst) fun (v0 : List Int × Unit) => (Option.bind (Go.Tw.basin_first_M v0.fst) fun (v1 : Int × Unit) => (Option.bind (Go.Tw.basin_first_M [(Go.Tw.basin_when (Decidable.decide ((↑l.length : Int) > (96 : Int))) (5 : Int)).fst, v1.fst]) fun (v2 : Int × Unit) => Option.some (v2.fst, ()))))

theorem basin_Basin_checkRanges_eq (n : Nat) (x : basin_Basin_checkRanges_a.den) : runF basin_Basin_checkRanges_g (basin_Basin_checkRanges_an n) Tryz.f108 basin_Basin_checkRanges_a basin_Basin_checkRanges_r x = basin_Basin_checkRanges_m n x.1 x.2.1 := by kernel_rfl

noncomputable def basin_Basin_checkRanges_M (b : Bas) (l : List Rng) : Option (Int × Unit) := basin_Basin_checkRanges_m 0 b l

theorem basin_Basin_checkRanges_run (b : Bas) (l : List Rng) (y : Int × Unit) (h : basin_Basin_checkRanges_M b l = some y) : ∃ n, basin_Basin_checkRanges_m n b l = some y := ⟨0, h⟩
noncomputable def basin_Basin_checkRanges_e : Entry := { f := 108, args := basin_Basin_checkRanges_a, ress := basin_Basin_checkRanges_r, m := fun x => basin_Basin_checkRanges_M x.1 x.2.1 }
theorem basin_Basin_checkRanges_ok : FnOK Tryz.prog basin_Basin_checkRanges_e := fn_ok (g := basin_Basin_checkRanges_g) (fn := Tryz.f108) hmixed tabOk (eCons basin_when_ok (eCons basin_Basin_checkRange_ok (eCons basin_mapped_basin_Range_api_Errno_ok (eCons basin_first_ok eNil)))) (by kernel_rfl) (by kernel_rfl) (by kernel_rfl) (fun x y h => let ⟨n, hn⟩ := basin_Basin_checkRanges_run x.1 x.2.1 y h; ⟨basin_Basin_checkRanges_an n, iNil, (basin_Basin_checkRanges_eq n x).trans hn⟩)

end Go.Tw
end

section
set_option linter.all false
set_option maxRecDepth 1000000
namespace Go.Tw
open Go.Vx Go.Vx.B Go.Proofs
/-! ### basin.CheckBasin -/
abbrev basin_CheckBasin_a : Ty := .pair t41 .unit
abbrev basin_CheckBasin_r : Ty := .pair t35 .unit
noncomputable def basin_CheckBasin_g : G := { T := T, E := [basin_when_e, basin_first_e, gauge_IsName_e, basin_within_e, basin_CheckBasin_1_e, basin_mapped_basin_Link_api_Errno_e], muts := [23], fz := [] }
def basin_CheckBasin_k : List (List Nat) := [[1, 4, 25, 26, 27]]
noncomputable def basin_CheckBasin_an (n : Nat) : Ann := { keep := basin_CheckBasin_k, fuel := n, inl := [], deep := 0 }
noncomputable def basin_CheckBasin_m_l1 (n : Nat) (r1 : Bas → List Nod → Int → Int → List (List UInt8 × Bool) → Option (Int × Unit)) (b1_1 : Bas) (t25_1 : List Nod) (t26_1 : Int) (t27_1 : Int) (m0_1 : List (List UInt8 × Bool)) : Option (Int × Unit) :=
  (bif Decidable.decide (t27_1 < t26_1) then (Option.bind (Go.Vx.idx t25_1 t27_1) fun (v2 : Nod) => (Option.bind (Go.Tw.gauge_IsName_M v2.fst) fun (v3 : Bool × Unit) => (Option.bind (Go.Tw.basin_first_M [(Go.Tw.basin_when (!v3.fst) (8 : Int)).fst, (Go.Tw.basin_when ((Go.Vx.mapGet Go.Vx.Ty.str Go.Vx.Ty.bool m0_1 v2.fst).getD Bool.false) (9 : Int)).fst, (Go.Tw.basin_within v2.snd.fst (1 : Int) (1000 : Int)).fst, (Go.Tw.basin_within v2.snd.snd.fst (0 : Int) (1024 : Int)).fst]) fun (v4 : Int × Unit) => (bif v4.fst != (0 : Int) then Option.some (v4.fst, ()) else r1 b1_1 t25_1 t26_1 (Go.IntKind.i64.wrap (t27_1 + (1 : Int))) (Go.Vx.mapPut Go.Vx.Ty.str Go.Vx.Ty.bool m0_1 v2.fst Bool.true))))) else (bif Decidable.decide ((↑b1_1.snd.fst.length : Int) > (16 : Int)) then Option.some ((5 : Int), ()) else (Option.bind (Go.Tw.basin_mapped_basin_Link_api_Errno_M b1_1.snd.fst fun (x : Lnk × Unit) => Go.Tw.basin_CheckBasin_1_M x.fst b1_1) fun (v5 : List Int × Unit) => (Option.bind (Go.Tw.basin_first_M v5.fst) fun (v6 : Int × Unit) => Option.some (v6.fst, ())))))

noncomputable def basin_CheckBasin_m_w1 (n : Nat)  (k : Nat) (b1_1 : Bas) (t25_1 : List Nod) (t26_1 : Int) (t27_1 : Int) (m0_1 : List (List UInt8 × Bool)) : Option (Int × Unit) :=
  iter (fun r y => basin_CheckBasin_m_l1 n (fun b1_1 t25_1 t26_1 t27_1 m0_1 => r ((b1_1, (t25_1, (t26_1, (t27_1, ())))), ((m0_1, ()), ()))) y.1.1 y.1.2.1 y.1.2.2.1 y.1.2.2.2.1 y.2.1.1) k ((b1_1, (t25_1, (t26_1, (t27_1, ())))), ((m0_1, ()), ()))

noncomputable def basin_CheckBasin_m (n : Nat) (b : Bas) : Option (Int × Unit) :=
  (Option.bind (Go.Tw.basin_first_M [(Go.Tw.basin_when ((↑b.fst.length : Int) == (0 : Int)) (12 : Int)).fst, (Go.Tw.basin_when (Decidable.decide ((↑b.fst.length : Int) > (8 : Int))) (5 : Int)).fst]) fun (v0 : Int × Unit) => (bif v0.fst != (0 : Int) then Option.some (v0.fst, ()) else (basin_CheckBasin_m_w1 n n (b) (b.fst) ((↑b.fst.length : Int)) ((0 : Int)) ([]))))

theorem basin_CheckBasin_eq (n : Nat) (x : basin_CheckBasin_a.den) : runF basin_CheckBasin_g (basin_CheckBasin_an n) Tryz.f39 basin_CheckBasin_a basin_CheckBasin_r x = basin_CheckBasin_m n x.1 := by kernel_rfl

noncomputable def basin_CheckBasin_b1 (b1_1 : Bas) (t25_1 : List Nod) (t27_1 : Int) (v2 : Nod) (m0_1 : List (List UInt8 × Bool)) : Option ((Int × Unit) ⊕ (List (List UInt8 × Bool))) :=
  (Option.bind (Go.Tw.gauge_IsName_M v2.fst) fun (v3 : Bool × Unit) => (Option.bind (Go.Tw.basin_first_M [(Go.Tw.basin_when (!v3.fst) (8 : Int)).fst, (Go.Tw.basin_when ((Go.Vx.mapGet Go.Vx.Ty.str Go.Vx.Ty.bool m0_1 v2.fst).getD Bool.false) (9 : Int)).fst, (Go.Tw.basin_within v2.snd.fst (1 : Int) (1000 : Int)).fst, (Go.Tw.basin_within v2.snd.snd.fst (0 : Int) (1024 : Int)).fst]) fun (v4 : Int × Unit) => (bif v4.fst != (0 : Int) then (some (Sum.inl ((v4.fst, ())))) else (some (Sum.inr (Go.Vx.mapPut Go.Vx.Ty.str Go.Vx.Ty.bool m0_1 v2.fst Bool.true))))))

noncomputable def basin_CheckBasin_f1 (b1_1 : Bas) (t25_1 : List Nod) (m0_1 : List (List UInt8 × Bool)) : Option (Int × Unit) :=
  (bif Decidable.decide ((↑b1_1.snd.fst.length : Int) > (16 : Int)) then (some (((5 : Int), ()))) else (Option.bind (Go.Tw.basin_mapped_basin_Link_api_Errno_M b1_1.snd.fst fun (x : Lnk × Unit) => Go.Tw.basin_CheckBasin_1_M x.fst b1_1) fun (v5 : List Int × Unit) => (Option.bind (Go.Tw.basin_first_M v5.fst) fun (v6 : Int × Unit) => (some ((v6.fst, ()))))))

theorem basin_CheckBasin_m_w1_le (n : Nat) (hn : big ≤ n)  (b1_1 : Bas) (t25_1 : List Nod) (m0_1 : List (List UInt8 × Bool)) (hx : List.length (t25_1) < lenMax) : LeF some (loopL (fun i__ e__ s__ => basin_CheckBasin_b1 b1_1 t25_1 i__ e__ s__) (fun s__ => basin_CheckBasin_f1 b1_1 t25_1 s__) 0 (t25_1) m0_1) (basin_CheckBasin_m_w1 n n b1_1 t25_1 (List.length (t25_1) : Int) 0 m0_1) := by
  refine loopL_le (f := some) (W := fun k__ i__ s__ => basin_CheckBasin_m_w1 n k__ b1_1 t25_1 (List.length (t25_1) : Int) i__ s__) (body := (fun i__ e__ s__ => basin_CheckBasin_b1 b1_1 t25_1 i__ e__ s__)) (fin := (fun s__ => basin_CheckBasin_f1 b1_1 t25_1 s__)) (fun k__ i__ s__ => ?_) hx m0_1 n (by unfold big at hn; unfold lenMax at hx; omega)
  show LeF _ _ (basin_CheckBasin_m_l1 n (basin_CheckBasin_m_w1 n k__) b1_1 t25_1 (List.length (t25_1) : Int) i__ s__)
  exact leCond (leBind fun v2 => (leBind fun v3 => (leBind fun v4 => (leCond (leSome rfl) (leSome rfl))))) (leMap (leCond (leSome rfl) (leBind fun v5 => (leBind fun v6 => (leSome rfl)))))

noncomputable def basin_CheckBasin_M (b : Bas) : Option (Int × Unit) :=
  (Option.bind (Go.Tw.basin_first_M [(Go.Tw.basin_when ((↑b.fst.length : Int) == (0 : Int)) (12 : Int)).fst, (Go.Tw.basin_when (Decidable.decide ((↑b.fst.length : Int) > (8 : Int))) (5 : Int)).fst]) fun (v0 : Int × Unit) => (bif v0.fst != (0 : Int) then (some ((v0.fst, ()))) else (bif decide (List.length (b.fst) < lenMax) then loopL (fun i__ e__ s__ => basin_CheckBasin_b1 (b) (b.fst) i__ e__ s__) (fun s__ => basin_CheckBasin_f1 (b) (b.fst) s__) 0 (b.fst) ([]) else none)))

theorem basin_CheckBasin_run (b : Bas) (y : Int × Unit) (h : basin_CheckBasin_M b = some y) : ∃ n, basin_CheckBasin_m n b = some y :=
  ⟨big, LeF.top (show LeF some (basin_CheckBasin_M b) (basin_CheckBasin_m big b) from (fun (n : Nat) (hn : big ≤ n) => show LeF some (basin_CheckBasin_M b) (basin_CheckBasin_m n b) from (leBind fun v0 => (leCond (leSome rfl) (leGuard fun hx => by apply basin_CheckBasin_m_w1_le n hn; exact hx)))) big (Nat.le_refl _)) h⟩
noncomputable def basin_CheckBasin_e : Entry := { f := 39, args := basin_CheckBasin_a, ress := basin_CheckBasin_r, m := fun x => basin_CheckBasin_M x.1 }
theorem basin_CheckBasin_ok : FnOK Tryz.prog basin_CheckBasin_e := fn_ok (g := basin_CheckBasin_g) (fn := Tryz.f39) hmixed tabOk (eCons basin_when_ok (eCons basin_first_ok (eCons gauge_IsName_ok (eCons basin_within_ok (eCons basin_CheckBasin_1_ok (eCons basin_mapped_basin_Link_api_Errno_ok eNil)))))) (by kernel_rfl) (by kernel_rfl) (by kernel_rfl) (fun x y h => let ⟨n, hn⟩ := basin_CheckBasin_run x.1 y h; ⟨basin_CheckBasin_an n, iNil, (basin_CheckBasin_eq n x).trans hn⟩)

end Go.Tw
end

section
set_option linter.all false
set_option maxRecDepth 1000000
namespace Go.Tw
open Go.Vx Go.Vx.B Go.Proofs
/-! ### basin.CheckVolumes -/
abbrev basin_CheckVolumes_a : Ty := .pair t41 (.pair t26 .unit)
abbrev basin_CheckVolumes_r : Ty := .pair t35 .unit
noncomputable def basin_CheckVolumes_g : G := { T := T, E := [basin_CheckBasin_e, basin_Basin_checkVolumes_e, basin_first_e], muts := [], fz := [] }
def basin_CheckVolumes_k : List (List Nat) := []
noncomputable def basin_CheckVolumes_an (n : Nat) : Ann := { keep := basin_CheckVolumes_k, fuel := n, inl := [], deep := 0 }
noncomputable def basin_CheckVolumes_m (n : Nat) (b : Bas) (v : List Int) : Option (Int × Unit) :=
  (Option.bind (Go.Tw.basin_CheckBasin_M b) fun (v0 : Int × Unit) => (Option.bind (Go.Tw.basin_Basin_checkVolumes_M b v) fun (v1 : Int × Unit) => (Option.bind (Go.Tw.basin_first_M [v0.fst, v1.fst]) fun (v2 : Int × Unit) => Option.some (v2.fst, ()))))

theorem basin_CheckVolumes_eq (n : Nat) (x : basin_CheckVolumes_a.den) : runF basin_CheckVolumes_g (basin_CheckVolumes_an n) Tryz.f40 basin_CheckVolumes_a basin_CheckVolumes_r x = basin_CheckVolumes_m n x.1 x.2.1 := by kernel_rfl

noncomputable def basin_CheckVolumes_M (b : Bas) (v : List Int) : Option (Int × Unit) := basin_CheckVolumes_m 0 b v

theorem basin_CheckVolumes_run (b : Bas) (v : List Int) (y : Int × Unit) (h : basin_CheckVolumes_M b v = some y) : ∃ n, basin_CheckVolumes_m n b v = some y := ⟨0, h⟩
noncomputable def basin_CheckVolumes_e : Entry := { f := 40, args := basin_CheckVolumes_a, ress := basin_CheckVolumes_r, m := fun x => basin_CheckVolumes_M x.1 x.2.1 }
theorem basin_CheckVolumes_ok : FnOK Tryz.prog basin_CheckVolumes_e := fn_ok (g := basin_CheckVolumes_g) (fn := Tryz.f40) hmixed tabOk (eCons basin_CheckBasin_ok (eCons basin_Basin_checkVolumes_ok (eCons basin_first_ok eNil))) (by kernel_rfl) (by kernel_rfl) (by kernel_rfl) (fun x y h => let ⟨n, hn⟩ := basin_CheckVolumes_run x.1 x.2.1 y h; ⟨basin_CheckVolumes_an n, iNil, (basin_CheckVolumes_eq n x).trans hn⟩)

/-! ### basin.checkEnclosed -/
abbrev basin_checkEnclosed_a : Ty := .pair t41 (.pair t97 (.pair t108 .unit))
abbrev basin_checkEnclosed_r : Ty := .pair t35 .unit
noncomputable def basin_checkEnclosed_g : G := { T := T, E := [basin_checkEnclosed_1_e, basin_checkEnclosed_2_e, basin_CheckBasin_e, basin_when_e, basin_mapped_api_Interval_api_Errno_e, basin_first_e, basin_Basin_checkRanges_e], muts := [], fz := [] }
def basin_checkEnclosed_k : List (List Nat) := []
noncomputable def basin_checkEnclosed_an (n : Nat) : Ann := { keep := basin_checkEnclosed_k, fuel := n, inl := [], deep := 0 }
noncomputable def basin_checkEnclosed_m (n : Nat) (b : Bas) (v : List (Int × Int × Unit)) (l : List Rng) : Option (Int × Unit) :=
  (Option.bind (Go.Tw.basin_CheckBasin_M b) fun (v0 : Int × Unit) => (bif v0.fst != (0 : Int) then Option.some (v0.fst, ()) else (Option.bind (Go.Tw.basin_mapped_api_Interval_api_Errno_M v fun (x : (Int × Int × Unit) × Unit) => Go.Tw.basin_checkEnclosed_2_M x.fst fun (x : Int × Unit) => Go.Tw.basin_checkEnclosed_1_M x.fst) fun (v1 : List Int × Unit) => (Option.bind (Go.Tw.basin_first_M v1.fst) fun (v2 : Int × Unit) => (Option.bind (Go.Tw.basin_Basin_checkRanges_M b l) fun (v3 : Int × Unit) => (Option.bind (Go.Tw.basin_first_M [(Go.Tw.basin_when ((↑v.length : Int) != (↑b.fst.length : Int)) (2 : Int)).fst, v2.fst, v3.fst]) fun (v4 : Int × Unit) => Option.some (v4.fst, ())))))))

theorem basin_checkEnclosed_eq (n : Nat) (x : basin_checkEnclosed_a.den) : runF basin_checkEnclosed_g (basin_checkEnclosed_an n) Tryz.f117 basin_checkEnclosed_a basin_checkEnclosed_r x = basin_checkEnclosed_m n x.1 x.2.1 x.2.2.1 := by kernel_rfl

noncomputable def basin_checkEnclosed_M (b : Bas) (v : List (Int × Int × Unit)) (l : List Rng) : Option (Int × Unit) := basin_checkEnclosed_m 0 b v l

theorem basin_checkEnclosed_run (b : Bas) (v : List (Int × Int × Unit)) (l : List Rng) (y : Int × Unit) (h : basin_checkEnclosed_M b v l = some y) : ∃ n, basin_checkEnclosed_m n b v l = some y := ⟨0, h⟩
noncomputable def basin_checkEnclosed_e : Entry := { f := 117, args := basin_checkEnclosed_a, ress := basin_checkEnclosed_r, m := fun x => basin_checkEnclosed_M x.1 x.2.1 x.2.2.1 }
theorem basin_checkEnclosed_ok : FnOK Tryz.prog basin_checkEnclosed_e := fn_ok (g := basin_checkEnclosed_g) (fn := Tryz.f117) hmixed tabOk (eCons basin_checkEnclosed_1_ok (eCons basin_checkEnclosed_2_ok (eCons basin_CheckBasin_ok (eCons basin_when_ok (eCons basin_mapped_api_Interval_api_Errno_ok (eCons basin_first_ok (eCons basin_Basin_checkRanges_ok eNil))))))) (by kernel_rfl) (by kernel_rfl) (by kernel_rfl) (fun x y h => let ⟨n, hn⟩ := basin_checkEnclosed_run x.1 x.2.1 x.2.2.1 y h; ⟨basin_checkEnclosed_an n, iNil, (basin_checkEnclosed_eq n x).trans hn⟩)

noncomputable def il163 : Inl := { f := 163, fn := Tryz.f163, keep := [], muts := [4], fz := [] }
theorem il163_ok : InlOK Tryz.prog il163 := ⟨by kernel_rfl, by kernel_rfl, fun e0 h => by cases (show (none : Option Nat) = some e0 from h)⟩
noncomputable def il162 : Inl := { f := 162, fn := Tryz.f162, keep := [], muts := [], fz := [] }
theorem il162_ok : InlOK Tryz.prog il162 := ⟨by kernel_rfl, by kernel_rfl, fun e0 h => by cases (show (none : Option Nat) = some e0 from h)⟩
noncomputable def il185 : Inl := { f := 185, fn := Tryz.f185, keep := [], muts := [2], fz := [] }
theorem il185_ok : InlOK Tryz.prog il185 := ⟨by kernel_rfl, by kernel_rfl, fun e0 h => by cases (show (none : Option Nat) = some e0 from h)⟩
noncomputable def il186 : Inl := { f := 186, fn := Tryz.f186, keep := [[0, 2, 3, 10, 11, 12, 34, 35]], muts := [], fz := [] }
theorem il186_ok : InlOK Tryz.prog il186 := ⟨by kernel_rfl, by kernel_rfl, fun e0 h => by cases (show (none : Option Nat) = some e0 from h)⟩
/-! ### (basin.Basin).run -/
abbrev basin_Basin_run_a : Ty := .pair t41 (.pair t26 (.pair t54 .unit))
abbrev basin_Basin_run_r : Ty := .pair t167 (.pair t35 .unit)
noncomputable def basin_Basin_run_g : G := { T := T, E := [basin_Basin_step_e], muts := [], fz := [] }
def basin_Basin_run_k : List (List Nat) := []
noncomputable def basin_Basin_run_an (n : Nat) : Ann := { keep := basin_Basin_run_k, fuel := n, inl := [il163, il162, il185, il186], deep := 8 }
noncomputable def basin_Basin_run_m_l0 (n : Nat) (r0 : Bas → List Cnd → Int → Int → List Cnd → Bas → List Cnd → Bas → List Int → List Psg → List Cnd → Bas → List Cnd → Bas → List Cnd → Bas → List Cnd → Bas → Bas → List Int → List Cnd → Bas → Int → Bas → List Int → List Cnd → List Cnd → Bas → Option (List Psg × Int × Unit)) (t2_0 : Bas) (t10_0 : List Cnd) (t11_0 : Int) (t12_0 : Int) (p0_1_0_0 : List Cnd) (p0_1_0_1 : Bas) (p0_6_0_0 : List Cnd) (p0_6_0_1 : Bas) (b1_0_0 : List Int) (c3_0 : List Psg) (k1_0_0 : List Cnd) (k1_0_1 : Bas) (k6_0_0 : List Cnd) (k6_0_1 : Bas) (k14_0_0 : List Cnd) (k14_0_1 : Bas) (k17_0_0 : List Cnd) (k17_0_1 : Bas) (k19_0 : Bas) (k20_0 : List Int) (k21_0 : List Cnd) (k22_0 : Bas) (k26_0 : Int) (k29_0 : Bas) (k30_0 : List Int) (k31_0 : List Cnd) (k32_0_0 : List Cnd) (k32_0_1 : Bas) : Option (List Psg × Int × Unit) :=
  (bif Decidable.decide (t12_0 < t11_0) then (Option.bind (Go.Vx.idx t10_0 t12_0) fun (v1 : Cnd) => (Option.bind (Go.Tw.basin_Basin_step_M t2_0 b1_0_0 (v1.fst, v1.snd.fst, v1.snd.snd.fst, ())) fun (v2 : List Int × Option (List Int) × Bool × Unit) => (bif !v2.snd.snd.fst then (bif Decidable.decide (c3_0.length + (1 : Nat) ≤ Go.Vx.memMax) then (bif !v2.snd.snd.fst then (bif Decidable.decide ((↑(c3_0 ++ [((v1.fst, v1.snd.fst, v1.snd.snd.fst, ()), v2.fst, Option.none, ())]).length : Int) > (0 : Int)) then (Option.bind (Go.Vx.idx (c3_0 ++ [((v1.fst, v1.snd.fst, v1.snd.snd.fst, ()), v2.fst, Option.none, ())]) (Go.IntKind.i64.wrap ((↑(c3_0 ++ [((v1.fst, v1.snd.fst, v1.snd.snd.fst, ()), v2.fst, Option.none, ())]).length : Int) - (1 : Int)))) fun (v11 : Psg) => (Option.bind ((c3_0 ++ [((v1.fst, v1.snd.fst, v1.snd.snd.fst, ()), v2.fst, Option.none, ())])[(Go.IntKind.i64.wrap ((↑(c3_0 ++ [((v1.fst, v1.snd.fst, v1.snd.snd.fst, ()), v2.fst, Option.none, ())]).length : Int) - (1 : Int))).toNat]?) fun (v12 : Psg) => (bif v12.snd.snd.fst.isNone then Option.some ([], (4 : Int), ()) else Option.some (c3_0 ++ [((v1.fst, v1.snd.fst, v1.snd.snd.fst, ()), v2.fst, Option.none, ())], (0 : Int), ())))) else Option.some (c3_0 ++ [((v1.fst, v1.snd.fst, v1.snd.snd.fst, ()), v2.fst, Option.none, ())], (0 : Int), ())) else r0 t2_0 t10_0 t11_0 (Go.IntKind.i64.wrap (t12_0 + (1 : Int))) p0_1_0_0 p0_1_0_1 p0_6_0_0 p0_6_0_1 [] (c3_0 ++ [((v1.fst, v1.snd.fst, v1.snd.snd.fst, ()), v2.fst, Option.none, ())]) k1_0_0 k1_0_1 k6_0_0 k6_0_1 k14_0_0 k14_0_1 k17_0_0 k17_0_1 k19_0 k20_0 k21_0 k22_0 k26_0 k29_0 k30_0 k31_0 k32_0_0 k32_0_1) else none) else (bif Decidable.decide (c3_0.length + (1 : Nat) ≤ Go.Vx.memMax) then (bif !v2.snd.snd.fst then (bif Decidable.decide ((↑(c3_0 ++ [((v1.fst, v1.snd.fst, v1.snd.snd.fst, ()), v2.fst, v2.snd.fst, ())]).length : Int) > (0 : Int)) then (Option.bind (Go.Vx.idx (c3_0 ++ [((v1.fst, v1.snd.fst, v1.snd.snd.fst, ()), v2.fst, v2.snd.fst, ())]) (Go.IntKind.i64.wrap ((↑(c3_0 ++ [((v1.fst, v1.snd.fst, v1.snd.snd.fst, ()), v2.fst, v2.snd.fst, ())]).length : Int) - (1 : Int)))) fun (v17 : Psg) => (Option.bind ((c3_0 ++ [((v1.fst, v1.snd.fst, v1.snd.snd.fst, ()), v2.fst, v2.snd.fst, ())])[(Go.IntKind.i64.wrap ((↑(c3_0 ++ [((v1.fst, v1.snd.fst, v1.snd.snd.fst, ()), v2.fst, v2.snd.fst, ())]).length : Int) - (1 : Int))).toNat]?) fun (v18 : Psg) => (bif v18.snd.snd.fst.isNone then Option.some ([], (4 : Int), ()) else Option.some (c3_0 ++ [((v1.fst, v1.snd.fst, v1.snd.snd.fst, ()), v2.fst, v2.snd.fst, ())], (0 : Int), ())))) else Option.some (c3_0 ++ [((v1.fst, v1.snd.fst, v1.snd.snd.fst, ()), v2.fst, v2.snd.fst, ())], (0 : Int), ())) else r0 t2_0 t10_0 t11_0 (Go.IntKind.i64.wrap (t12_0 + (1 : Int))) p0_1_0_0 p0_1_0_1 p0_6_0_0 p0_6_0_1 (v2.snd.fst.getD []) (c3_0 ++ [((v1.fst, v1.snd.fst, v1.snd.snd.fst, ()), v2.fst, v2.snd.fst, ())]) k1_0_0 k1_0_1 k6_0_0 k6_0_1 k14_0_0 k14_0_1 k17_0_0 k17_0_1 k19_0 k20_0 k21_0 k22_0 k26_0 k29_0 k30_0 k31_0 k32_0_0 k32_0_1) else none)))) else (bif Decidable.decide ((↑c3_0.length : Int) > (0 : Int)) then (Option.bind (Go.Vx.idx c3_0 (Go.IntKind.i64.wrap ((↑c3_0.length : Int) - (1 : Int)))) fun (v23 : Psg) => (Option.bind (c3_0[(Go.IntKind.i64.wrap ((↑c3_0.length : Int) - (1 : Int))).toNat]?) fun (v24 : Psg) => (bif v24.snd.snd.fst.isNone then Option.some ([], (4 : Int), ()) else Option.some (c3_0, (0 : Int), ())))) else Option.some (c3_0, (0 : Int), ())))

noncomputable def basin_Basin_run_m_w0 (n : Nat)  (k : Nat) (t2_0 : Bas) (t10_0 : List Cnd) (t11_0 : Int) (t12_0 : Int) (p0_1_0_0 : List Cnd) (p0_1_0_1 : Bas) (p0_6_0_0 : List Cnd) (p0_6_0_1 : Bas) (b1_0_0 : List Int) (c3_0 : List Psg) (k1_0_0 : List Cnd) (k1_0_1 : Bas) (k6_0_0 : List Cnd) (k6_0_1 : Bas) (k14_0_0 : List Cnd) (k14_0_1 : Bas) (k17_0_0 : List Cnd) (k17_0_1 : Bas) (k19_0 : Bas) (k20_0 : List Int) (k21_0 : List Cnd) (k22_0 : Bas) (k26_0 : Int) (k29_0 : Bas) (k30_0 : List Int) (k31_0 : List Cnd) (k32_0_0 : List Cnd) (k32_0_1 : Bas) : Option (List Psg × Int × Unit) :=
  iter (fun r y => basin_Basin_run_m_l0 n (fun t2_0 t10_0 t11_0 t12_0 p0_1_0_0 p0_1_0_1 p0_6_0_0 p0_6_0_1 b1_0_0 c3_0 k1_0_0 k1_0_1 k6_0_0 k6_0_1 k14_0_0 k14_0_1 k17_0_0 k17_0_1 k19_0 k20_0 k21_0 k22_0 k26_0 k29_0 k30_0 k31_0 k32_0_0 k32_0_1 => r ((t2_0, (t10_0, (t11_0, (t12_0, ())))), ((((p0_1_0_0, (p0_1_0_1, ())), ((p0_6_0_0, (p0_6_0_1, ())), ())), ((b1_0_0, ()), ((), (c3_0, ())))), ((k1_0_0, (k1_0_1, ())), ((k6_0_0, (k6_0_1, ())), ((k14_0_0, (k14_0_1, ())), ((k17_0_0, (k17_0_1, ())), (k19_0, (k20_0, (k21_0, (k22_0, (k26_0, (k29_0, (k30_0, (k31_0, ((k32_0_0, (k32_0_1, ())), ())))))))))))))))) y.1.1 y.1.2.1 y.1.2.2.1 y.1.2.2.2.1 y.2.1.1.1.1 y.2.1.1.1.2.1 y.2.1.1.2.1.1 y.2.1.1.2.1.2.1 y.2.1.2.1.1 y.2.1.2.2.2.1 y.2.2.1.1 y.2.2.1.2.1 y.2.2.2.1.1 y.2.2.2.1.2.1 y.2.2.2.2.1.1 y.2.2.2.2.1.2.1 y.2.2.2.2.2.1.1 y.2.2.2.2.2.1.2.1 y.2.2.2.2.2.2.1 y.2.2.2.2.2.2.2.1 y.2.2.2.2.2.2.2.2.1 y.2.2.2.2.2.2.2.2.2.1 y.2.2.2.2.2.2.2.2.2.2.1 y.2.2.2.2.2.2.2.2.2.2.2.1 y.2.2.2.2.2.2.2.2.2.2.2.2.1 y.2.2.2.2.2.2.2.2.2.2.2.2.2.1 y.2.2.2.2.2.2.2.2.2.2.2.2.2.2.1.1 y.2.2.2.2.2.2.2.2.2.2.2.2.2.2.1.2.1) k ((t2_0, (t10_0, (t11_0, (t12_0, ())))), ((((p0_1_0_0, (p0_1_0_1, ())), ((p0_6_0_0, (p0_6_0_1, ())), ())), ((b1_0_0, ()), ((), (c3_0, ())))), ((k1_0_0, (k1_0_1, ())), ((k6_0_0, (k6_0_1, ())), ((k14_0_0, (k14_0_1, ())), ((k17_0_0, (k17_0_1, ())), (k19_0, (k20_0, (k21_0, (k22_0, (k26_0, (k29_0, (k30_0, (k31_0, ((k32_0_0, (k32_0_1, ())), ())))))))))))))))

noncomputable def basin_Basin_run_m (n : Nat) (b : Bas) (v : List Int) (l : List Cnd) : Option (List Psg × Int × Unit) :=
  (basin_Basin_run_m_w0 n n (b) (l) ((↑l.length : Int)) ((0 : Int)) (l) (b) (l) (b) (v) ([]) (l) (b) (l) (b) (l) (b) (l) (b) (b) (v) (l) (b) ((0 : Int)) (b) (v) (l) (l) (b))

theorem basin_Basin_run_eq (n : Nat) (x : basin_Basin_run_a.den) : runF basin_Basin_run_g (basin_Basin_run_an n) Tryz.f118 basin_Basin_run_a basin_Basin_run_r x = basin_Basin_run_m n x.1 x.2.1 x.2.2.1 := by kernel_rfl

noncomputable def basin_Basin_run_b0 (t2_0 : Bas) (t10_0 : List Cnd) (p0_1_0_0 : List Cnd) (p0_1_0_1 : Bas) (p0_6_0_0 : List Cnd) (p0_6_0_1 : Bas) (k1_0_0 : List Cnd) (k1_0_1 : Bas) (k6_0_0 : List Cnd) (k6_0_1 : Bas) (k14_0_0 : List Cnd) (k14_0_1 : Bas) (k17_0_0 : List Cnd) (k17_0_1 : Bas) (k19_0 : Bas) (k20_0 : List Int) (k21_0 : List Cnd) (k22_0 : Bas) (k26_0 : Int) (k29_0 : Bas) (k30_0 : List Int) (k31_0 : List Cnd) (k32_0_0 : List Cnd) (k32_0_1 : Bas) (t12_0 : Int) (v1 : Cnd) (b1_0_0 : List Int) (c3_0 : List Psg) : Option ((List Psg × Int × Unit) ⊕ (List Int × List Psg)) :=
  (Option.bind (Go.Tw.basin_Basin_step_M t2_0 b1_0_0 (v1.fst, v1.snd.fst, v1.snd.snd.fst, ())) fun (v2 : List Int × Option (List Int) × Bool × Unit) => (bif !v2.snd.snd.fst then (bif Decidable.decide (c3_0.length + (1 : Nat) ≤ Go.Vx.memMax) then (bif !v2.snd.snd.fst then (bif Decidable.decide ((↑(c3_0 ++ [((v1.fst, v1.snd.fst, v1.snd.snd.fst, ()), v2.fst, Option.none, ())]).length : Int) > (0 : Int)) then (Option.bind (Go.Vx.idx (c3_0 ++ [((v1.fst, v1.snd.fst, v1.snd.snd.fst, ()), v2.fst, Option.none, ())]) (Go.IntKind.i64.wrap ((↑(c3_0 ++ [((v1.fst, v1.snd.fst, v1.snd.snd.fst, ()), v2.fst, Option.none, ())]).length : Int) - (1 : Int)))) fun (v11 : Psg) => (Option.bind ((c3_0 ++ [((v1.fst, v1.snd.fst, v1.snd.snd.fst, ()), v2.fst, Option.none, ())])[(Go.IntKind.i64.wrap ((↑(c3_0 ++ [((v1.fst, v1.snd.fst, v1.snd.snd.fst, ()), v2.fst, Option.none, ())]).length : Int) - (1 : Int))).toNat]?) fun (v12 : Psg) => (bif v12.snd.snd.fst.isNone then (some (Sum.inl (([], (4 : Int), ())))) else (some (Sum.inl ((c3_0 ++ [((v1.fst, v1.snd.fst, v1.snd.snd.fst, ()), v2.fst, Option.none, ())], (0 : Int), ()))))))) else (some (Sum.inl ((c3_0 ++ [((v1.fst, v1.snd.fst, v1.snd.snd.fst, ()), v2.fst, Option.none, ())], (0 : Int), ()))))) else (some (Sum.inr (([]), (c3_0 ++ [((v1.fst, v1.snd.fst, v1.snd.snd.fst, ()), v2.fst, Option.none, ())]))))) else none) else (bif Decidable.decide (c3_0.length + (1 : Nat) ≤ Go.Vx.memMax) then (bif !v2.snd.snd.fst then (bif Decidable.decide ((↑(c3_0 ++ [((v1.fst, v1.snd.fst, v1.snd.snd.fst, ()), v2.fst, v2.snd.fst, ())]).length : Int) > (0 : Int)) then (Option.bind (Go.Vx.idx (c3_0 ++ [((v1.fst, v1.snd.fst, v1.snd.snd.fst, ()), v2.fst, v2.snd.fst, ())]) (Go.IntKind.i64.wrap ((↑(c3_0 ++ [((v1.fst, v1.snd.fst, v1.snd.snd.fst, ()), v2.fst, v2.snd.fst, ())]).length : Int) - (1 : Int)))) fun (v17 : Psg) => (Option.bind ((c3_0 ++ [((v1.fst, v1.snd.fst, v1.snd.snd.fst, ()), v2.fst, v2.snd.fst, ())])[(Go.IntKind.i64.wrap ((↑(c3_0 ++ [((v1.fst, v1.snd.fst, v1.snd.snd.fst, ()), v2.fst, v2.snd.fst, ())]).length : Int) - (1 : Int))).toNat]?) fun (v18 : Psg) => (bif v18.snd.snd.fst.isNone then (some (Sum.inl (([], (4 : Int), ())))) else (some (Sum.inl ((c3_0 ++ [((v1.fst, v1.snd.fst, v1.snd.snd.fst, ()), v2.fst, v2.snd.fst, ())], (0 : Int), ()))))))) else (some (Sum.inl ((c3_0 ++ [((v1.fst, v1.snd.fst, v1.snd.snd.fst, ()), v2.fst, v2.snd.fst, ())], (0 : Int), ()))))) else (some (Sum.inr ((v2.snd.fst.getD []), (c3_0 ++ [((v1.fst, v1.snd.fst, v1.snd.snd.fst, ()), v2.fst, v2.snd.fst, ())]))))) else none)))

noncomputable def basin_Basin_run_f0 (t2_0 : Bas) (t10_0 : List Cnd) (p0_1_0_0 : List Cnd) (p0_1_0_1 : Bas) (p0_6_0_0 : List Cnd) (p0_6_0_1 : Bas) (k1_0_0 : List Cnd) (k1_0_1 : Bas) (k6_0_0 : List Cnd) (k6_0_1 : Bas) (k14_0_0 : List Cnd) (k14_0_1 : Bas) (k17_0_0 : List Cnd) (k17_0_1 : Bas) (k19_0 : Bas) (k20_0 : List Int) (k21_0 : List Cnd) (k22_0 : Bas) (k26_0 : Int) (k29_0 : Bas) (k30_0 : List Int) (k31_0 : List Cnd) (k32_0_0 : List Cnd) (k32_0_1 : Bas) (b1_0_0 : List Int) (c3_0 : List Psg) : Option (List Psg × Int × Unit) :=
  (bif Decidable.decide ((↑c3_0.length : Int) > (0 : Int)) then (Option.bind (Go.Vx.idx c3_0 (Go.IntKind.i64.wrap ((↑c3_0.length : Int) - (1 : Int)))) fun (v23 : Psg) => (Option.bind (c3_0[(Go.IntKind.i64.wrap ((↑c3_0.length : Int) - (1 : Int))).toNat]?) fun (v24 : Psg) => (bif v24.snd.snd.fst.isNone then (some (([], (4 : Int), ()))) else (some ((c3_0, (0 : Int), ())))))) else (some ((c3_0, (0 : Int), ()))))

theorem basin_Basin_run_m_w0_le (n : Nat) (hn : big ≤ n)  (t2_0 : Bas) (t10_0 : List Cnd) (p0_1_0_0 : List Cnd) (p0_1_0_1 : Bas) (p0_6_0_0 : List Cnd) (p0_6_0_1 : Bas) (k1_0_0 : List Cnd) (k1_0_1 : Bas) (k6_0_0 : List Cnd) (k6_0_1 : Bas) (k14_0_0 : List Cnd) (k14_0_1 : Bas) (k17_0_0 : List Cnd) (k17_0_1 : Bas) (k19_0 : Bas) (k20_0 : List Int) (k21_0 : List Cnd) (k22_0 : Bas) (k26_0 : Int) (k29_0 : Bas) (k30_0 : List Int) (k31_0 : List Cnd) (k32_0_0 : List Cnd) (k32_0_1 : Bas) (b1_0_0 : List Int) (c3_0 : List Psg) (hx : List.length (t10_0) < lenMax) : LeF some (loopL (fun i__ e__ s__ => basin_Basin_run_b0 t2_0 t10_0 p0_1_0_0 p0_1_0_1 p0_6_0_0 p0_6_0_1 k1_0_0 k1_0_1 k6_0_0 k6_0_1 k14_0_0 k14_0_1 k17_0_0 k17_0_1 k19_0 k20_0 k21_0 k22_0 k26_0 k29_0 k30_0 k31_0 k32_0_0 k32_0_1 i__ e__ s__.1 s__.2) (fun s__ => basin_Basin_run_f0 t2_0 t10_0 p0_1_0_0 p0_1_0_1 p0_6_0_0 p0_6_0_1 k1_0_0 k1_0_1 k6_0_0 k6_0_1 k14_0_0 k14_0_1 k17_0_0 k17_0_1 k19_0 k20_0 k21_0 k22_0 k26_0 k29_0 k30_0 k31_0 k32_0_0 k32_0_1 s__.1 s__.2) 0 (t10_0) (b1_0_0, c3_0)) (basin_Basin_run_m_w0 n n t2_0 t10_0 (List.length (t10_0) : Int) 0 p0_1_0_0 p0_1_0_1 p0_6_0_0 p0_6_0_1 b1_0_0 c3_0 k1_0_0 k1_0_1 k6_0_0 k6_0_1 k14_0_0 k14_0_1 k17_0_0 k17_0_1 k19_0 k20_0 k21_0 k22_0 k26_0 k29_0 k30_0 k31_0 k32_0_0 k32_0_1) := by
  refine loopL_le (f := some) (W := fun k__ i__ s__ => basin_Basin_run_m_w0 n k__ t2_0 t10_0 (List.length (t10_0) : Int) i__ p0_1_0_0 p0_1_0_1 p0_6_0_0 p0_6_0_1 s__.1 s__.2 k1_0_0 k1_0_1 k6_0_0 k6_0_1 k14_0_0 k14_0_1 k17_0_0 k17_0_1 k19_0 k20_0 k21_0 k22_0 k26_0 k29_0 k30_0 k31_0 k32_0_0 k32_0_1) (body := (fun i__ e__ s__ => basin_Basin_run_b0 t2_0 t10_0 p0_1_0_0 p0_1_0_1 p0_6_0_0 p0_6_0_1 k1_0_0 k1_0_1 k6_0_0 k6_0_1 k14_0_0 k14_0_1 k17_0_0 k17_0_1 k19_0 k20_0 k21_0 k22_0 k26_0 k29_0 k30_0 k31_0 k32_0_0 k32_0_1 i__ e__ s__.1 s__.2)) (fin := (fun s__ => basin_Basin_run_f0 t2_0 t10_0 p0_1_0_0 p0_1_0_1 p0_6_0_0 p0_6_0_1 k1_0_0 k1_0_1 k6_0_0 k6_0_1 k14_0_0 k14_0_1 k17_0_0 k17_0_1 k19_0 k20_0 k21_0 k22_0 k26_0 k29_0 k30_0 k31_0 k32_0_0 k32_0_1 s__.1 s__.2)) (fun k__ i__ s__ => ?_) hx (b1_0_0, c3_0) n (by unfold big at hn; unfold lenMax at hx; omega)
  show LeF _ _ (basin_Basin_run_m_l0 n (basin_Basin_run_m_w0 n k__) t2_0 t10_0 (List.length (t10_0) : Int) i__ p0_1_0_0 p0_1_0_1 p0_6_0_0 p0_6_0_1 s__.1 s__.2 k1_0_0 k1_0_1 k6_0_0 k6_0_1 k14_0_0 k14_0_1 k17_0_0 k17_0_1 k19_0 k20_0 k21_0 k22_0 k26_0 k29_0 k30_0 k31_0 k32_0_0 k32_0_1)
  exact leCond (leBind fun v1 => (leBind fun v2 => (leCond (leCond (leCond (leCond (leBind fun v11 => (leBind fun v12 => (leCond (leSome rfl) (leSome rfl)))) (leSome rfl)) (leSome rfl)) leNone) (leCond (leCond (leCond (leBind fun v17 => (leBind fun v18 => (leCond (leSome rfl) (leSome rfl)))) (leSome rfl)) (leSome rfl)) leNone)))) (leMap (leCond (leBind fun v23 => (leBind fun v24 => (leCond (leSome rfl) (leSome rfl)))) (leSome rfl)))

noncomputable def basin_Basin_run_M (b : Bas) (v : List Int) (l : List Cnd) : Option (List Psg × Int × Unit) :=
  (bif decide (List.length (l) < lenMax) then loopL (fun i__ e__ s__ => basin_Basin_run_b0 (b) (l) (l) (b) (l) (b) (l) (b) (l) (b) (l) (b) (l) (b) (b) (v) (l) (b) ((0 : Int)) (b) (v) (l) (l) (b) i__ e__ s__.1 s__.2) (fun s__ => basin_Basin_run_f0 (b) (l) (l) (b) (l) (b) (l) (b) (l) (b) (l) (b) (l) (b) (b) (v) (l) (b) ((0 : Int)) (b) (v) (l) (l) (b) s__.1 s__.2) 0 (l) ((v), ([])) else none)

theorem basin_Basin_run_run (b : Bas) (v : List Int) (l : List Cnd) (y : List Psg × Int × Unit) (h : basin_Basin_run_M b v l = some y) : ∃ n, basin_Basin_run_m n b v l = some y :=
  ⟨big, LeF.top (show LeF some (basin_Basin_run_M b v l) (basin_Basin_run_m big b v l) from (fun (n : Nat) (hn : big ≤ n) => show LeF some (basin_Basin_run_M b v l) (basin_Basin_run_m n b v l) from (leGuard fun hx => by apply basin_Basin_run_m_w0_le n hn; exact hx)) big (Nat.le_refl _)) h⟩
noncomputable def basin_Basin_run_e : Entry := { f := 118, args := basin_Basin_run_a, ress := basin_Basin_run_r, m := fun x => basin_Basin_run_M x.1 x.2.1 x.2.2.1 }
theorem basin_Basin_run_ok : FnOK Tryz.prog basin_Basin_run_e := fn_ok (g := basin_Basin_run_g) (fn := Tryz.f118) hmixed tabOk (eCons basin_Basin_step_ok eNil) (by kernel_rfl) (by kernel_rfl) (by kernel_rfl) (fun x y h => let ⟨n, hn⟩ := basin_Basin_run_run x.1 x.2.1 x.2.2.1 y h; ⟨basin_Basin_run_an n, (iCons il163_ok (iCons il162_ok (iCons il185_ok (iCons il186_ok iNil)))), (basin_Basin_run_eq n x).trans hn⟩)

end Go.Tw
end

section
set_option linter.all false
set_option maxRecDepth 1000000
namespace Go.Tw
open Go.Vx Go.Vx.B Go.Proofs
/-! ### basin.Until -/
abbrev basin_Until_a : Ty := .pair t41 (.pair t26 (.pair t44 (.pair t3 (.pair t3 .unit))))
abbrev basin_Until_r : Ty := .pair t3 (.pair t35 .unit)
noncomputable def basin_Until_g : G := { T := T, E := [basin_CheckVolumes_e, basin_Basin_checkCondition_e, basin_when_e, basin_within_e, basin_first_e, basin_Node_level_e, basin_Basin_step_e], muts := [], fz := [] }
def basin_Until_k : List (List Nat) := [[3, 4, 5, 7, 13, 42]]
noncomputable def basin_Until_an (n : Nat) : Ann := { keep := basin_Until_k, fuel := n, inl := [], deep := 0 }
noncomputable def basin_Until_m_l18 (n : Nat) (r18 : Int → Int → Bas → Cnd → List Int → Int → Option (Int × Int × Unit)) (node3_18 : Int) (level4_18 : Int) (b5_18 : Bas) (c7_18 : Cnd) (now13_18 : List Int) (t42_18 : Int) : Option (Int × Int × Unit) :=
  (bif Decidable.decide (t42_18 < (97 : Int)) then (Option.bind (Go.Vx.idx b5_18.fst node3_18) fun (v19 : Nod) => (Option.bind (Go.Vx.idx now13_18 node3_18) fun (v20 : Int) => (Option.bind (Go.Tw.basin_Node_level_M v19 v20) fun (v21 : Int × Unit) => (bif Decidable.decide (v21.fst ≥ level4_18) then Option.some (t42_18, (0 : Int), ()) else (bif t42_18 == (96 : Int) then Option.some ((0 : Int), (7 : Int), ()) else (Option.bind (Go.Tw.basin_Basin_step_M b5_18 now13_18 c7_18) fun (v22 : List Int × Option (List Int) × Bool × Unit) => (bif !v22.snd.snd.fst then Option.some ((0 : Int), (4 : Int), ()) else r18 node3_18 level4_18 b5_18 c7_18 (v22.snd.fst.getD []) (Go.IntKind.i64.wrap (t42_18 + (1 : Int)))))))))) else Option.some ((0 : Int), (7 : Int), ()))

noncomputable def basin_Until_m_w18 (n : Nat)  (k : Nat) (node3_18 : Int) (level4_18 : Int) (b5_18 : Bas) (c7_18 : Cnd) (now13_18 : List Int) (t42_18 : Int) : Option (Int × Int × Unit) :=
  iter (fun r y => basin_Until_m_l18 n (fun node3_18 level4_18 b5_18 c7_18 now13_18 t42_18 => r ((node3_18, (level4_18, (b5_18, (c7_18, (now13_18, (t42_18, ())))))), ((), ()))) y.1.1 y.1.2.1 y.1.2.2.1 y.1.2.2.2.1 y.1.2.2.2.2.1 y.1.2.2.2.2.2.1) k ((node3_18, (level4_18, (b5_18, (c7_18, (now13_18, (t42_18, ())))))), ((), ()))

noncomputable def basin_Until_m_j23 (n : Nat) (b : Bas) (v : List Int) (c : Cnd) (node : Int) (level : Int) : Option (Int × Int × Unit) :=
  (basin_Until_m_w18 n n (node) (level) (b) (c) (v) ((0 : Int)))

noncomputable def basin_Until_m (n : Nat) (b : Bas) (v : List Int) (c : Cnd) (node : Int) (level : Int) : Option (Int × Int × Unit) :=
  (Option.bind (Go.Tw.basin_CheckVolumes_M b v) fun (v0 : Int × Unit) => (Option.bind (Go.Tw.basin_Basin_checkCondition_M b c) fun (v1 : Int × Unit) => (bif Decidable.decide (node < (0 : Int)) then (Option.bind (Go.Tw.basin_first_M [v0.fst, v1.fst, (Go.Tw.basin_when Bool.true (10 : Int)).fst, (Go.Tw.basin_within level (0 : Int) (1024 : Int)).fst]) fun (v2 : Int × Unit) => (bif v2.fst != (0 : Int) then Option.some ((0 : Int), v2.fst, ()) else (basin_Until_m_j23 n b v c node level))) else (Option.bind (Go.Tw.basin_first_M [v0.fst, v1.fst, (Go.Tw.basin_when (Decidable.decide (node ≥ (↑b.fst.length : Int))) (10 : Int)).fst, (Go.Tw.basin_within level (0 : Int) (1024 : Int)).fst]) fun (v3 : Int × Unit) => (bif v3.fst != (0 : Int) then Option.some ((0 : Int), v3.fst, ()) else (basin_Until_m_j23 n b v c node level))))))

theorem basin_Until_eq (n : Nat) (x : basin_Until_a.den) : runF basin_Until_g (basin_Until_an n) Tryz.f18 basin_Until_a basin_Until_r x = basin_Until_m n x.1 x.2.1 x.2.2.1 x.2.2.2.1 x.2.2.2.2.1 := by kernel_rfl

noncomputable def basin_Until_b18 (node3_18 : Int) (level4_18 : Int) (b5_18 : Bas) (c7_18 : Cnd) (t42_18 : Int) (now13_18 : List Int) : Option ((Int × Int × Unit) ⊕ (List Int)) :=
  (Option.bind (Go.Vx.idx b5_18.fst node3_18) fun (v19 : Nod) => (Option.bind (Go.Vx.idx now13_18 node3_18) fun (v20 : Int) => (Option.bind (Go.Tw.basin_Node_level_M v19 v20) fun (v21 : Int × Unit) => (bif Decidable.decide (v21.fst ≥ level4_18) then (some (Sum.inl ((t42_18, (0 : Int), ())))) else (bif t42_18 == (96 : Int) then (some (Sum.inl (((0 : Int), (7 : Int), ())))) else (Option.bind (Go.Tw.basin_Basin_step_M b5_18 now13_18 c7_18) fun (v22 : List Int × Option (List Int) × Bool × Unit) => (bif !v22.snd.snd.fst then (some (Sum.inl (((0 : Int), (4 : Int), ())))) else (some (Sum.inr (v22.snd.fst.getD []))))))))))

noncomputable def basin_Until_f18 (node3_18 : Int) (level4_18 : Int) (b5_18 : Bas) (c7_18 : Cnd) (now13_18 : List Int) : Option (Int × Int × Unit) :=
  (some (((0 : Int), (7 : Int), ())))

theorem basin_Until_m_w18_le (n : Nat) (hn : big ≤ n)  (node3_18 : Int) (level4_18 : Int) (b5_18 : Bas) (c7_18 : Cnd) (now13_18 : List Int) (hx : ((97 : Int)) ≤ (9223372036854775807 : Int)) : LeF some (loopN (fun i__ s__ => basin_Until_b18 node3_18 level4_18 b5_18 c7_18 i__ s__) (fun s__ => basin_Until_f18 node3_18 level4_18 b5_18 c7_18 s__) (((97 : Int)) - 0).toNat 0 now13_18) (basin_Until_m_w18 n n node3_18 level4_18 b5_18 c7_18 now13_18 0) := by
  refine loopN_le (f := some) (W := fun k__ i__ s__ => basin_Until_m_w18 n k__ node3_18 level4_18 b5_18 c7_18 s__ i__) (body := (fun i__ s__ => basin_Until_b18 node3_18 level4_18 b5_18 c7_18 i__ s__)) (fin := (fun s__ => basin_Until_f18 node3_18 level4_18 b5_18 c7_18 s__)) (fun k__ i__ s__ => ?_) hx now13_18 n 0 (by decide) (by unfold big at hn; omega)
  show LeF _ _ (basin_Until_m_l18 n (basin_Until_m_w18 n k__) node3_18 level4_18 b5_18 c7_18 s__ i__)
  exact leCond (leBind fun v19 => (leBind fun v20 => (leBind fun v21 => (leCond (leSome rfl) (leCond (leSome rfl) (leBind fun v22 => (leCond (leSome rfl) (leSome rfl)))))))) (leMap (leSome rfl))

noncomputable def basin_Until_s23 (b : Bas) (v : List Int) (c : Cnd) (node : Int) (level : Int) : Option (Int × Int × Unit) :=
  (bif decide (((97 : Int)) ≤ (9223372036854775807 : Int)) then loopN (fun i__ s__ => basin_Until_b18 (node) (level) (b) (c) i__ s__) (fun s__ => basin_Until_f18 (node) (level) (b) (c) s__) (((97 : Int)) - 0).toNat 0 (v) else none)

theorem basin_Until_s23_le (n : Nat) (hn : big ≤ n)  (b : Bas) (v : List Int) (c : Cnd) (node : Int) (level : Int) : LeF some (basin_Until_s23 b v c node level) (basin_Until_m_j23 n b v c node level) :=
  (leGuard fun hx => by apply basin_Until_m_w18_le n hn; exact hx)

noncomputable def basin_Until_M (b : Bas) (v : List Int) (c : Cnd) (node : Int) (level : Int) : Option (Int × Int × Unit) :=
  (Option.bind (Go.Tw.basin_CheckVolumes_M b v) fun (v0 : Int × Unit) => (Option.bind (Go.Tw.basin_Basin_checkCondition_M b c) fun (v1 : Int × Unit) => (bif Decidable.decide (node < (0 : Int)) then (Option.bind (Go.Tw.basin_first_M [v0.fst, v1.fst, (Go.Tw.basin_when Bool.true (10 : Int)).fst, (Go.Tw.basin_within level (0 : Int) (1024 : Int)).fst]) fun (v2 : Int × Unit) => (bif v2.fst != (0 : Int) then (some (((0 : Int), v2.fst, ()))) else (basin_Until_s23 b v c node level))) else (Option.bind (Go.Tw.basin_first_M [v0.fst, v1.fst, (Go.Tw.basin_when (Decidable.decide (node ≥ (↑b.fst.length : Int))) (10 : Int)).fst, (Go.Tw.basin_within level (0 : Int) (1024 : Int)).fst]) fun (v3 : Int × Unit) => (bif v3.fst != (0 : Int) then (some (((0 : Int), v3.fst, ()))) else (basin_Until_s23 b v c node level))))))

theorem basin_Until_run (b : Bas) (v : List Int) (c : Cnd) (node : Int) (level : Int) (y : Int × Int × Unit) (h : basin_Until_M b v c node level = some y) : ∃ n, basin_Until_m n b v c node level = some y :=
  ⟨big, LeF.top (show LeF some (basin_Until_M b v c node level) (basin_Until_m big b v c node level) from (fun (n : Nat) (hn : big ≤ n) => show LeF some (basin_Until_M b v c node level) (basin_Until_m n b v c node level) from (leBind fun v0 => (leBind fun v1 => (leCond (leBind fun v2 => (leCond (leSome rfl) (by apply basin_Until_s23_le n hn))) (leBind fun v3 => (leCond (leSome rfl) (by apply basin_Until_s23_le n hn))))))) big (Nat.le_refl _)) h⟩
noncomputable def basin_Until_e : Entry := { f := 18, args := basin_Until_a, ress := basin_Until_r, m := fun x => basin_Until_M x.1 x.2.1 x.2.2.1 x.2.2.2.1 x.2.2.2.2.1 }
theorem basin_Until_ok : FnOK Tryz.prog basin_Until_e := fn_ok (g := basin_Until_g) (fn := Tryz.f18) hmixed tabOk (eCons basin_CheckVolumes_ok (eCons basin_Basin_checkCondition_ok (eCons basin_when_ok (eCons basin_within_ok (eCons basin_first_ok (eCons basin_Node_level_ok (eCons basin_Basin_step_ok eNil))))))) (by kernel_rfl) (by kernel_rfl) (by kernel_rfl) (fun x y h => let ⟨n, hn⟩ := basin_Until_run x.1 x.2.1 x.2.2.1 x.2.2.2.1 x.2.2.2.2.1 y h; ⟨basin_Until_an n, iNil, (basin_Until_eq n x).trans hn⟩)

/-! ### basin.Levels -/
abbrev basin_Levels_a : Ty := .pair t41 (.pair t26 .unit)
abbrev basin_Levels_r : Ty := .pair t26 (.pair t35 .unit)
noncomputable def basin_Levels_g : G := { T := T, E := [basin_CheckVolumes_e, basin_Basin_levels_e], muts := [], fz := [] }
def basin_Levels_k : List (List Nat) := []
noncomputable def basin_Levels_an (n : Nat) : Ann := { keep := basin_Levels_k, fuel := n, inl := [], deep := 0 }
noncomputable def basin_Levels_m (n : Nat) (b : Bas) (v : List Int) : Option (List Int × Int × Unit) :=
  (Option.bind (Go.Tw.basin_CheckVolumes_M b v) fun (v0 : Int × Unit) => (bif v0.fst != (0 : Int) then Option.some ([], v0.fst, ()) else (Option.bind (Go.Tw.basin_Basin_levels_M b v) fun (v1 : List Int × Unit) => Option.some (v1.fst, (0 : Int), ()))))

theorem basin_Levels_eq (n : Nat) (x : basin_Levels_a.den) : runF basin_Levels_g (basin_Levels_an n) Tryz.f29 basin_Levels_a basin_Levels_r x = basin_Levels_m n x.1 x.2.1 := by kernel_rfl

noncomputable def basin_Levels_M (b : Bas) (v : List Int) : Option (List Int × Int × Unit) := basin_Levels_m 0 b v

theorem basin_Levels_run (b : Bas) (v : List Int) (y : List Int × Int × Unit) (h : basin_Levels_M b v = some y) : ∃ n, basin_Levels_m n b v = some y := ⟨0, h⟩
noncomputable def basin_Levels_e : Entry := { f := 29, args := basin_Levels_a, ress := basin_Levels_r, m := fun x => basin_Levels_M x.1 x.2.1 }
theorem basin_Levels_ok : FnOK Tryz.prog basin_Levels_e := fn_ok (g := basin_Levels_g) (fn := Tryz.f29) hmixed tabOk (eCons basin_CheckVolumes_ok (eCons basin_Basin_levels_ok eNil)) (by kernel_rfl) (by kernel_rfl) (by kernel_rfl) (fun x y h => let ⟨n, hn⟩ := basin_Levels_run x.1 x.2.1 y h; ⟨basin_Levels_an n, iNil, (basin_Levels_eq n x).trans hn⟩)

/-! ### basin.Above -/
abbrev basin_Above_a : Ty := .pair t41 (.pair t26 .unit)
abbrev basin_Above_r : Ty := .pair t26 (.pair t35 .unit)
noncomputable def basin_Above_g : G := { T := T, E := [basin_CheckVolumes_e, basin_Basin_above_e], muts := [], fz := [] }
def basin_Above_k : List (List Nat) := []
noncomputable def basin_Above_an (n : Nat) : Ann := { keep := basin_Above_k, fuel := n, inl := [], deep := 0 }
noncomputable def basin_Above_m (n : Nat) (b : Bas) (v : List Int) : Option (List Int × Int × Unit) :=
  (Option.bind (Go.Tw.basin_CheckVolumes_M b v) fun (v0 : Int × Unit) => (bif v0.fst != (0 : Int) then Option.some ([], v0.fst, ()) else (Option.bind (Go.Tw.basin_Basin_above_M b v) fun (v1 : List Int × Unit) => Option.some (v1.fst, (0 : Int), ()))))

theorem basin_Above_eq (n : Nat) (x : basin_Above_a.den) : runF basin_Above_g (basin_Above_an n) Tryz.f30 basin_Above_a basin_Above_r x = basin_Above_m n x.1 x.2.1 := by kernel_rfl

noncomputable def basin_Above_M (b : Bas) (v : List Int) : Option (List Int × Int × Unit) := basin_Above_m 0 b v

theorem basin_Above_run (b : Bas) (v : List Int) (y : List Int × Int × Unit) (h : basin_Above_M b v = some y) : ∃ n, basin_Above_m n b v = some y := ⟨0, h⟩
noncomputable def basin_Above_e : Entry := { f := 30, args := basin_Above_a, ress := basin_Above_r, m := fun x => basin_Above_M x.1 x.2.1 }
theorem basin_Above_ok : FnOK Tryz.prog basin_Above_e := fn_ok (g := basin_Above_g) (fn := Tryz.f30) hmixed tabOk (eCons basin_CheckVolumes_ok (eCons basin_Basin_above_ok eNil)) (by kernel_rfl) (by kernel_rfl) (by kernel_rfl) (fun x y h => let ⟨n, hn⟩ := basin_Above_run x.1 x.2.1 y h; ⟨basin_Above_an n, iNil, (basin_Above_eq n x).trans hn⟩)

/-! ### basin.Room -/
abbrev basin_Room_a : Ty := .pair t41 (.pair t26 .unit)
abbrev basin_Room_r : Ty := .pair t26 (.pair t35 .unit)
noncomputable def basin_Room_g : G := { T := T, E := [basin_CheckVolumes_e], muts := [7], fz := [] }
def basin_Room_k : List (List Nat) := [[1, 7, 17, 18, 19]]
noncomputable def basin_Room_an (n : Nat) : Ann := { keep := basin_Room_k, fuel := n, inl := [], deep := 0 }
noncomputable def basin_Room_m_l1 (n : Nat) (r1 : List Int → List Nod → Int → Int → List Int → Option (List Int × Int × Unit)) (v1_1 : List Int) (t17_1 : List Nod) (t18_1 : Int) (t19_1 : Int) (c0_1 : List Int) : Option (List Int × Int × Unit) :=
  (bif Decidable.decide (t19_1 < t18_1) then (Option.bind (Go.Vx.idx t17_1 t19_1) fun (v2 : Nod) => (Option.bind (Go.Vx.idx v1_1 t19_1) fun (v3 : Int) => (bif Decidable.decide (c0_1.length + (1 : Nat) ≤ Go.Vx.memMax) then r1 v1_1 t17_1 t18_1 (Go.IntKind.i64.wrap (t19_1 + (1 : Int))) (c0_1 ++ [if Bool.true = Bool.true then if Go.IntKind.i64.wrap (Go.IntKind.i64.wrap (Go.IntKind.i64.wrap (v2.snd.fst * Go.IntKind.i64.wrap (v2.snd.snd.fst + (1 : Int))) - (1 : Int)) - v3) > (-1 : Int) then Go.IntKind.i64.wrap (Go.IntKind.i64.wrap (Go.IntKind.i64.wrap (v2.snd.fst * Go.IntKind.i64.wrap (v2.snd.snd.fst + (1 : Int))) - (1 : Int)) - v3) else (-1 : Int) else if Go.IntKind.i64.wrap (Go.IntKind.i64.wrap (Go.IntKind.i64.wrap (v2.snd.fst * Go.IntKind.i64.wrap (v2.snd.snd.fst + (1 : Int))) - (1 : Int)) - v3) < (-1 : Int) then Go.IntKind.i64.wrap (Go.IntKind.i64.wrap (Go.IntKind.i64.wrap (v2.snd.fst * Go.IntKind.i64.wrap (v2.snd.snd.fst + (1 : Int))) - (1 : Int)) - v3) else (-1 : Int)]) else none))) else Option.some (c0_1, (0 : Int), ()))

noncomputable def basin_Room_m_w1 (n : Nat)  (k : Nat) (v1_1 : List Int) (t17_1 : List Nod) (t18_1 : Int) (t19_1 : Int) (c0_1 : List Int) : Option (List Int × Int × Unit) :=
  iter (fun r y => basin_Room_m_l1 n (fun v1_1 t17_1 t18_1 t19_1 c0_1 => r ((v1_1, (t17_1, (t18_1, (t19_1, ())))), ((c0_1, ()), ()))) y.1.1 y.1.2.1 y.1.2.2.1 y.1.2.2.2.1 y.2.1.1) k ((v1_1, (t17_1, (t18_1, (t19_1, ())))), ((c0_1, ()), ()))

noncomputable def basin_Room_m (n : Nat) (b : Bas) (v : List Int) : Option (List Int × Int × Unit) :=
  (Option.bind (Go.Tw.basin_CheckVolumes_M b v) fun (v0 : Int × Unit) => (bif v0.fst != (0 : Int) then Option.some ([], v0.fst, ()) else (basin_Room_m_w1 n n (v) (b.fst) ((↑b.fst.length : Int)) ((0 : Int)) ([]))))

theorem basin_Room_eq (n : Nat) (x : basin_Room_a.den) : runF basin_Room_g (basin_Room_an n) Tryz.f31 basin_Room_a basin_Room_r x = basin_Room_m n x.1 x.2.1 := by kernel_rfl

noncomputable def basin_Room_b1 (v1_1 : List Int) (t17_1 : List Nod) (t19_1 : Int) (v2 : Nod) (c0_1 : List Int) : Option ((List Int × Int × Unit) ⊕ (List Int)) :=
  (Option.bind (Go.Vx.idx v1_1 t19_1) fun (v3 : Int) => (bif Decidable.decide (c0_1.length + (1 : Nat) ≤ Go.Vx.memMax) then (some (Sum.inr (c0_1 ++ [if Bool.true = Bool.true then if Go.IntKind.i64.wrap (Go.IntKind.i64.wrap (Go.IntKind.i64.wrap (v2.snd.fst * Go.IntKind.i64.wrap (v2.snd.snd.fst + (1 : Int))) - (1 : Int)) - v3) > (-1 : Int) then Go.IntKind.i64.wrap (Go.IntKind.i64.wrap (Go.IntKind.i64.wrap (v2.snd.fst * Go.IntKind.i64.wrap (v2.snd.snd.fst + (1 : Int))) - (1 : Int)) - v3) else (-1 : Int) else if Go.IntKind.i64.wrap (Go.IntKind.i64.wrap (Go.IntKind.i64.wrap (v2.snd.fst * Go.IntKind.i64.wrap (v2.snd.snd.fst + (1 : Int))) - (1 : Int)) - v3) < (-1 : Int) then Go.IntKind.i64.wrap (Go.IntKind.i64.wrap (Go.IntKind.i64.wrap (v2.snd.fst * Go.IntKind.i64.wrap (v2.snd.snd.fst + (1 : Int))) - (1 : Int)) - v3) else (-1 : Int)]))) else none))

noncomputable def basin_Room_f1 (v1_1 : List Int) (t17_1 : List Nod) (c0_1 : List Int) : Option (List Int × Int × Unit) :=
  (some ((c0_1, (0 : Int), ())))

theorem basin_Room_m_w1_le (n : Nat) (hn : big ≤ n)  (v1_1 : List Int) (t17_1 : List Nod) (c0_1 : List Int) (hx : List.length (t17_1) < lenMax) : LeF some (loopL (fun i__ e__ s__ => basin_Room_b1 v1_1 t17_1 i__ e__ s__) (fun s__ => basin_Room_f1 v1_1 t17_1 s__) 0 (t17_1) c0_1) (basin_Room_m_w1 n n v1_1 t17_1 (List.length (t17_1) : Int) 0 c0_1) := by
  refine loopL_le (f := some) (W := fun k__ i__ s__ => basin_Room_m_w1 n k__ v1_1 t17_1 (List.length (t17_1) : Int) i__ s__) (body := (fun i__ e__ s__ => basin_Room_b1 v1_1 t17_1 i__ e__ s__)) (fin := (fun s__ => basin_Room_f1 v1_1 t17_1 s__)) (fun k__ i__ s__ => ?_) hx c0_1 n (by unfold big at hn; unfold lenMax at hx; omega)
  show LeF _ _ (basin_Room_m_l1 n (basin_Room_m_w1 n k__) v1_1 t17_1 (List.length (t17_1) : Int) i__ s__)
  exact leCond (leBind fun v2 => (leBind fun v3 => (leCond (leSome rfl) leNone))) (leMap (leSome rfl))

noncomputable def basin_Room_M (b : Bas) (v : List Int) : Option (List Int × Int × Unit) :=
  (Option.bind (Go.Tw.basin_CheckVolumes_M b v) fun (v0 : Int × Unit) => (bif v0.fst != (0 : Int) then (some (([], v0.fst, ()))) else (bif decide (List.length (b.fst) < lenMax) then loopL (fun i__ e__ s__ => basin_Room_b1 (v) (b.fst) i__ e__ s__) (fun s__ => basin_Room_f1 (v) (b.fst) s__) 0 (b.fst) ([]) else none)))

theorem basin_Room_run (b : Bas) (v : List Int) (y : List Int × Int × Unit) (h : basin_Room_M b v = some y) : ∃ n, basin_Room_m n b v = some y :=
  ⟨big, LeF.top (show LeF some (basin_Room_M b v) (basin_Room_m big b v) from (fun (n : Nat) (hn : big ≤ n) => show LeF some (basin_Room_M b v) (basin_Room_m n b v) from (leBind fun v0 => (leCond (leSome rfl) (leGuard fun hx => by apply basin_Room_m_w1_le n hn; exact hx)))) big (Nat.le_refl _)) h⟩
noncomputable def basin_Room_e : Entry := { f := 31, args := basin_Room_a, ress := basin_Room_r, m := fun x => basin_Room_M x.1 x.2.1 }
theorem basin_Room_ok : FnOK Tryz.prog basin_Room_e := fn_ok (g := basin_Room_g) (fn := Tryz.f31) hmixed tabOk (eCons basin_CheckVolumes_ok eNil) (by kernel_rfl) (by kernel_rfl) (by kernel_rfl) (fun x y h => let ⟨n, hn⟩ := basin_Room_run x.1 x.2.1 y h; ⟨basin_Room_an n, iNil, (basin_Room_eq n x).trans hn⟩)

/-! ### basin.Enclose -/
abbrev basin_Enclose_a : Ty := .pair t41 (.pair t97 (.pair t108 .unit))
abbrev basin_Enclose_r : Ty := .pair t119 (.pair t35 .unit)
noncomputable def basin_Enclose_g : G := { T := T, E := [basin_checkEnclosed_e, basin_end_e, basin_mapped_basin_Range_basin_Condition_e, basin_Range_higher_e, basin_Basin_run_e, basin_Range_lower_e], muts := [12, 15], fz := [] }
def basin_Enclose_k : List (List Nat) := [[9, 12, 49, 50, 51], [9, 12, 13, 15, 49, 50, 51, 57, 58, 59]]
noncomputable def basin_Enclose_an (n : Nat) : Ann := { keep := basin_Enclose_k, fuel := n, inl := [], deep := 0 }
noncomputable def basin_Enclose_m_l9 (n : Nat) (r7 : List Psg → List Psg → Int → Int → List (List (Int × Int × Unit)) → Option (List (List (Int × Int × Unit)) × Int × Unit)) (r9 : List Psg → Int → List Psg → Int → Int → List Int → Int → Int → List (List (Int × Int × Unit)) → List (Int × Int × Unit) → Option (List (List (Int × Int × Unit)) × Int × Unit)) (high9_9 : List Psg) (i13_9 : Int) (t49_9 : List Psg) (t50_9 : Int) (t51_9 : Int) (t57_9 : List Int) (t58_9 : Int) (t59_9 : Int) (c0_9 : List (List (Int × Int × Unit))) (c1_9 : List (Int × Int × Unit)) : Option (List (List (Int × Int × Unit)) × Int × Unit) :=
  (bif Decidable.decide (t59_9 < t58_9) then (Option.bind (Go.Vx.idx t57_9 t59_9) fun (v10 : Int) => (Option.bind (Go.Vx.idx high9_9 i13_9) fun (v11 : Psg) => (Option.bind (Go.Vx.idx (v11.snd.snd.fst.getD []) t59_9) fun (v12 : Int) => (bif Decidable.decide (c1_9.length + (1 : Nat) ≤ Go.Vx.memMax) then r9 high9_9 i13_9 t49_9 t50_9 t51_9 t57_9 t58_9 (Go.IntKind.i64.wrap (t59_9 + (1 : Int))) c0_9 (c1_9 ++ [(v10, v12, ())]) else none)))) else (bif Decidable.decide (c0_9.length + (1 : Nat) ≤ Go.Vx.memMax) then r7 high9_9 t49_9 t50_9 (Go.IntKind.i64.wrap (t51_9 + (1 : Int))) (c0_9 ++ [c1_9]) else none))

noncomputable def basin_Enclose_m_w9 (n : Nat) (r7 : List Psg → List Psg → Int → Int → List (List (Int × Int × Unit)) → Option (List (List (Int × Int × Unit)) × Int × Unit)) (k : Nat) (high9_9 : List Psg) (i13_9 : Int) (t49_9 : List Psg) (t50_9 : Int) (t51_9 : Int) (t57_9 : List Int) (t58_9 : Int) (t59_9 : Int) (c0_9 : List (List (Int × Int × Unit))) (c1_9 : List (Int × Int × Unit)) : Option (List (List (Int × Int × Unit)) × Int × Unit) :=
  iter (fun r y => basin_Enclose_m_l9 n r7 (fun high9_9 i13_9 t49_9 t50_9 t51_9 t57_9 t58_9 t59_9 c0_9 c1_9 => r ((high9_9, (i13_9, (t49_9, (t50_9, (t51_9, (t57_9, (t58_9, (t59_9, ())))))))), ((c0_9, (c1_9, ())), ()))) y.1.1 y.1.2.1 y.1.2.2.1 y.1.2.2.2.1 y.1.2.2.2.2.1 y.1.2.2.2.2.2.1 y.1.2.2.2.2.2.2.1 y.1.2.2.2.2.2.2.2.1 y.2.1.1 y.2.1.2.1) k ((high9_9, (i13_9, (t49_9, (t50_9, (t51_9, (t57_9, (t58_9, (t59_9, ())))))))), ((c0_9, (c1_9, ())), ()))

noncomputable def basin_Enclose_m_l7 (n : Nat) (r7 : List Psg → List Psg → Int → Int → List (List (Int × Int × Unit)) → Option (List (List (Int × Int × Unit)) × Int × Unit)) (high9_7 : List Psg) (t49_7 : List Psg) (t50_7 : Int) (t51_7 : Int) (c0_7 : List (List (Int × Int × Unit))) : Option (List (List (Int × Int × Unit)) × Int × Unit) :=
  (bif Decidable.decide (t51_7 < t50_7) then (Option.bind (Go.Vx.idx t49_7 t51_7) fun (v8 : Psg) => (basin_Enclose_m_w9 n r7 n (high9_7) (t51_7) (t49_7) (t50_7) (t51_7) (v8.snd.snd.fst.getD []) ((↑(v8.snd.snd.fst.getD []).length : Int)) ((0 : Int)) (c0_7) ([]))) else Option.some (c0_7, (0 : Int), ()))

noncomputable def basin_Enclose_m_w7 (n : Nat)  (k : Nat) (high9_7 : List Psg) (t49_7 : List Psg) (t50_7 : Int) (t51_7 : Int) (c0_7 : List (List (Int × Int × Unit))) : Option (List (List (Int × Int × Unit)) × Int × Unit) :=
  iter (fun r y => basin_Enclose_m_l7 n (fun high9_7 t49_7 t50_7 t51_7 c0_7 => r ((high9_7, (t49_7, (t50_7, (t51_7, ())))), ((c0_7, ()), ()))) y.1.1 y.1.2.1 y.1.2.2.1 y.1.2.2.2.1 y.2.1.1) k ((high9_7, (t49_7, (t50_7, (t51_7, ())))), ((c0_7, ()), ()))

noncomputable def basin_Enclose_m (n : Nat) (b : Bas) (v : List (Int × Int × Unit)) (l : List Rng) : Option (List (List (Int × Int × Unit)) × Int × Unit) :=
  (Option.bind (Go.Tw.basin_checkEnclosed_M b v l) fun (v0 : Int × Unit) => (bif v0.fst != (0 : Int) then Option.some ([], v0.fst, ()) else (Option.bind (Go.Tw.basin_end_M v (1 : Int)) fun (v1 : List Int × Unit) => (Option.bind (Go.Tw.basin_mapped_basin_Range_basin_Condition_M l fun (x : Rng × Unit) => Go.Tw.basin_Range_higher_M x.fst) fun (v2 : List Cnd × Unit) => (Option.bind (Go.Tw.basin_Basin_run_M b v1.fst v2.fst) fun (v3 : List Psg × Int × Unit) => (bif v3.snd.fst != (0 : Int) then Option.some ([], v3.snd.fst, ()) else (Option.bind (Go.Tw.basin_end_M v (0 : Int)) fun (v4 : List Int × Unit) => (Option.bind (Go.Tw.basin_mapped_basin_Range_basin_Condition_M l fun (x : Rng × Unit) => Go.Tw.basin_Range_lower_M x.fst) fun (v5 : List Cnd × Unit) => (Option.bind (Go.Tw.basin_Basin_run_M b v4.fst v5.fst) fun (v6 : List Psg × Int × Unit) => (bif v6.snd.fst != (0 : Int) then Option.some ([], v6.snd.fst, ()) else (basin_Enclose_m_w7 n n (v3.fst) (v6.fst) ((↑v6.fst.length : Int)) ((0 : Int)) ([]))))))))))))

theorem basin_Enclose_eq (n : Nat) (x : basin_Enclose_a.den) : runF basin_Enclose_g (basin_Enclose_an n) Tryz.f66 basin_Enclose_a basin_Enclose_r x = basin_Enclose_m n x.1 x.2.1 x.2.2.1 := by kernel_rfl

noncomputable def basin_Enclose_b9 (high9_9 : List Psg) (i13_9 : Int) (t49_9 : List Psg) (t50_9 : Int) (t51_9 : Int) (t57_9 : List Int) (c0_9 : List (List (Int × Int × Unit))) (t59_9 : Int) (v10 : Int) (c1_9 : List (Int × Int × Unit)) : Option (((List (List (Int × Int × Unit)) × Int × Unit) ⊕ (List (List (Int × Int × Unit)))) ⊕ (List (Int × Int × Unit))) :=
  (Option.bind (Go.Vx.idx high9_9 i13_9) fun (v11 : Psg) => (Option.bind (Go.Vx.idx (v11.snd.snd.fst.getD []) t59_9) fun (v12 : Int) => (bif Decidable.decide (c1_9.length + (1 : Nat) ≤ Go.Vx.memMax) then (some (Sum.inr (c1_9 ++ [(v10, v12, ())]))) else none)))

noncomputable def basin_Enclose_f9 (high9_9 : List Psg) (i13_9 : Int) (t49_9 : List Psg) (t50_9 : Int) (t51_9 : Int) (t57_9 : List Int) (c0_9 : List (List (Int × Int × Unit))) (c1_9 : List (Int × Int × Unit)) : Option ((List (List (Int × Int × Unit)) × Int × Unit) ⊕ (List (List (Int × Int × Unit)))) :=
  (bif Decidable.decide (c0_9.length + (1 : Nat) ≤ Go.Vx.memMax) then (some (Sum.inr (c0_9 ++ [c1_9]))) else none)

theorem basin_Enclose_m_w9_le (n : Nat) (hn : big ≤ n)  (r7 : List Psg → List Psg → Int → Int → List (List (Int × Int × Unit)) → Option (List (List (Int × Int × Unit)) × Int × Unit)) (high9_9 : List Psg) (i13_9 : Int) (t49_9 : List Psg) (t50_9 : Int) (t51_9 : Int) (t57_9 : List Int) (c0_9 : List (List (Int × Int × Unit))) (c1_9 : List (Int × Int × Unit)) (hx : List.length (t57_9) < lenMax) : LeF (elim some fun (s__ : (List (List (Int × Int × Unit)))) => r7 high9_9 t49_9 t50_9 (Go.IntKind.i64.wrap (t51_9 + 1)) s__) (loopL (fun i__ e__ s__ => basin_Enclose_b9 high9_9 i13_9 t49_9 t50_9 t51_9 t57_9 c0_9 i__ e__ s__) (fun s__ => basin_Enclose_f9 high9_9 i13_9 t49_9 t50_9 t51_9 t57_9 c0_9 s__) 0 (t57_9) c1_9) (basin_Enclose_m_w9 n r7 n high9_9 i13_9 t49_9 t50_9 t51_9 t57_9 (List.length (t57_9) : Int) 0 c0_9 c1_9) := by
  refine loopL_le (f := (elim some fun (s__ : (List (List (Int × Int × Unit)))) => r7 high9_9 t49_9 t50_9 (Go.IntKind.i64.wrap (t51_9 + 1)) s__)) (W := fun k__ i__ s__ => basin_Enclose_m_w9 n r7 k__ high9_9 i13_9 t49_9 t50_9 t51_9 t57_9 (List.length (t57_9) : Int) i__ c0_9 s__) (body := (fun i__ e__ s__ => basin_Enclose_b9 high9_9 i13_9 t49_9 t50_9 t51_9 t57_9 c0_9 i__ e__ s__)) (fin := (fun s__ => basin_Enclose_f9 high9_9 i13_9 t49_9 t50_9 t51_9 t57_9 c0_9 s__)) (fun k__ i__ s__ => ?_) hx c1_9 n (by unfold big at hn; unfold lenMax at hx; omega)
  show LeF _ _ (basin_Enclose_m_l9 n r7 (basin_Enclose_m_w9 n r7 k__) high9_9 i13_9 t49_9 t50_9 t51_9 t57_9 (List.length (t57_9) : Int) i__ c0_9 s__)
  exact leCond (leBind fun v10 => (leBind fun v11 => (leBind fun v12 => (leCond (leSome rfl) leNone)))) (leMap (leCond (leSome rfl) leNone))

noncomputable def basin_Enclose_b7 (high9_7 : List Psg) (t49_7 : List Psg) (t51_7 : Int) (v8 : Psg) (c0_7 : List (List (Int × Int × Unit))) : Option ((List (List (Int × Int × Unit)) × Int × Unit) ⊕ (List (List (Int × Int × Unit)))) :=
  (bif decide (List.length (v8.snd.snd.fst.getD []) < lenMax) then loopL (fun i__ e__ s__ => basin_Enclose_b9 (high9_7) (t51_7) (t49_7) ((↑t49_7.length : Int)) (t51_7) (v8.snd.snd.fst.getD []) (c0_7) i__ e__ s__) (fun s__ => basin_Enclose_f9 (high9_7) (t51_7) (t49_7) ((↑t49_7.length : Int)) (t51_7) (v8.snd.snd.fst.getD []) (c0_7) s__) 0 (v8.snd.snd.fst.getD []) ([]) else none)

noncomputable def basin_Enclose_f7 (high9_7 : List Psg) (t49_7 : List Psg) (c0_7 : List (List (Int × Int × Unit))) : Option (List (List (Int × Int × Unit)) × Int × Unit) :=
  (some ((c0_7, (0 : Int), ())))

theorem basin_Enclose_m_w7_le (n : Nat) (hn : big ≤ n)  (high9_7 : List Psg) (t49_7 : List Psg) (c0_7 : List (List (Int × Int × Unit))) (hx : List.length (t49_7) < lenMax) : LeF some (loopL (fun i__ e__ s__ => basin_Enclose_b7 high9_7 t49_7 i__ e__ s__) (fun s__ => basin_Enclose_f7 high9_7 t49_7 s__) 0 (t49_7) c0_7) (basin_Enclose_m_w7 n n high9_7 t49_7 (List.length (t49_7) : Int) 0 c0_7) := by
  refine loopL_le (f := some) (W := fun k__ i__ s__ => basin_Enclose_m_w7 n k__ high9_7 t49_7 (List.length (t49_7) : Int) i__ s__) (body := (fun i__ e__ s__ => basin_Enclose_b7 high9_7 t49_7 i__ e__ s__)) (fin := (fun s__ => basin_Enclose_f7 high9_7 t49_7 s__)) (fun k__ i__ s__ => ?_) hx c0_7 n (by unfold big at hn; unfold lenMax at hx; omega)
  show LeF _ _ (basin_Enclose_m_l7 n (basin_Enclose_m_w7 n k__) high9_7 t49_7 (List.length (t49_7) : Int) i__ s__)
  exact leCond (leBind fun v8 => (leGuard fun hx => by apply basin_Enclose_m_w9_le n hn; exact hx)) (leMap (leSome rfl))

noncomputable def basin_Enclose_M (b : Bas) (v : List (Int × Int × Unit)) (l : List Rng) : Option (List (List (Int × Int × Unit)) × Int × Unit) :=
  (Option.bind (Go.Tw.basin_checkEnclosed_M b v l) fun (v0 : Int × Unit) => (bif v0.fst != (0 : Int) then (some (([], v0.fst, ()))) else (Option.bind (Go.Tw.basin_end_M v (1 : Int)) fun (v1 : List Int × Unit) => (Option.bind (Go.Tw.basin_mapped_basin_Range_basin_Condition_M l fun (x : Rng × Unit) => Go.Tw.basin_Range_higher_M x.fst) fun (v2 : List Cnd × Unit) => (Option.bind (Go.Tw.basin_Basin_run_M b v1.fst v2.fst) fun (v3 : List Psg × Int × Unit) => (bif v3.snd.fst != (0 : Int) then (some (([], v3.snd.fst, ()))) else (Option.bind (Go.Tw.basin_end_M v (0 : Int)) fun (v4 : List Int × Unit) => (Option.bind (Go.Tw.basin_mapped_basin_Range_basin_Condition_M l fun (x : Rng × Unit) => Go.Tw.basin_Range_lower_M x.fst) fun (v5 : List Cnd × Unit) => (Option.bind (Go.Tw.basin_Basin_run_M b v4.fst v5.fst) fun (v6 : List Psg × Int × Unit) => (bif v6.snd.fst != (0 : Int) then (some (([], v6.snd.fst, ()))) else (bif decide (List.length (v6.fst) < lenMax) then loopL (fun i__ e__ s__ => basin_Enclose_b7 (v3.fst) (v6.fst) i__ e__ s__) (fun s__ => basin_Enclose_f7 (v3.fst) (v6.fst) s__) 0 (v6.fst) ([]) else none)))))))))))

theorem basin_Enclose_run (b : Bas) (v : List (Int × Int × Unit)) (l : List Rng) (y : List (List (Int × Int × Unit)) × Int × Unit) (h : basin_Enclose_M b v l = some y) : ∃ n, basin_Enclose_m n b v l = some y :=
  ⟨big, LeF.top (show LeF some (basin_Enclose_M b v l) (basin_Enclose_m big b v l) from (fun (n : Nat) (hn : big ≤ n) => show LeF some (basin_Enclose_M b v l) (basin_Enclose_m n b v l) from (leBind fun v0 => (leCond (leSome rfl) (leBind fun v1 => (leBind fun v2 => (leBind fun v3 => (leCond (leSome rfl) (leBind fun v4 => (leBind fun v5 => (leBind fun v6 => (leCond (leSome rfl) (leGuard fun hx => by apply basin_Enclose_m_w7_le n hn; exact hx)))))))))))) big (Nat.le_refl _)) h⟩
noncomputable def basin_Enclose_e : Entry := { f := 66, args := basin_Enclose_a, ress := basin_Enclose_r, m := fun x => basin_Enclose_M x.1 x.2.1 x.2.2.1 }
theorem basin_Enclose_ok : FnOK Tryz.prog basin_Enclose_e := fn_ok (g := basin_Enclose_g) (fn := Tryz.f66) hmixed tabOk (eCons basin_checkEnclosed_ok (eCons basin_end_ok (eCons basin_mapped_basin_Range_basin_Condition_ok (eCons basin_Range_higher_ok (eCons basin_Basin_run_ok (eCons basin_Range_lower_ok eNil)))))) (by kernel_rfl) (by kernel_rfl) (by kernel_rfl) (fun x y h => let ⟨n, hn⟩ := basin_Enclose_run x.1 x.2.1 x.2.2.1 y h; ⟨basin_Enclose_an n, iNil, (basin_Enclose_eq n x).trans hn⟩)

/-! ### basin.checked -/
abbrev basin_checked_a : Ty := .pair t41 (.pair t26 (.pair t54 .unit))
abbrev basin_checked_r : Ty := .pair t167 (.pair t35 .unit)
noncomputable def basin_checked_g : G := { T := T, E := [basin_CheckVolumes_e, basin_when_e, basin_Basin_checkCondition_e, basin_mapped_basin_Condition_api_Errno_e, basin_first_e, basin_Basin_run_e], muts := [], fz := [] }
def basin_checked_k : List (List Nat) := []
noncomputable def basin_checked_an (n : Nat) : Ann := { keep := basin_checked_k, fuel := n, inl := [], deep := 0 }
noncomputable def basin_checked_m (n : Nat) (b : Bas) (v : List Int) (l : List Cnd) : Option (List Psg × Int × Unit) :=
  (Option.bind (Go.Tw.basin_CheckVolumes_M b v) fun (v0 : Int × Unit) => (Option.bind (Go.Tw.basin_mapped_basin_Condition_api_Errno_M l fun (z : Cnd × Unit) => Go.Tw.basin_Basin_checkCondition_M b z.fst) fun (v1 : List Int × Unit) => (Option.bind (Go.Tw.basin_first_M v1.fst) fun (v2 : Int × Unit) => (Option.bind (Go.Tw.basin_first_M [v0.fst, (Go.Tw.basin_when (Decidable.decide ((↑l.length : Int) > (96 : Int))) (5 : Int)).fst, v2.fst]) fun (v3 : Int × Unit) => (bif v3.fst != (0 : Int) then Option.some ([], v3.fst, ()) else (Option.bind (Go.Tw.basin_Basin_run_M b v l) fun (v4 : List Psg × Int × Unit) => Option.some (v4.fst, v4.snd.fst, ())))))))

theorem basin_checked_eq (n : Nat) (x : basin_checked_a.den) : runF basin_checked_g (basin_checked_an n) Tryz.f96 basin_checked_a basin_checked_r x = basin_checked_m n x.1 x.2.1 x.2.2.1 := by kernel_rfl

noncomputable def basin_checked_M (b : Bas) (v : List Int) (l : List Cnd) : Option (List Psg × Int × Unit) := basin_checked_m 0 b v l

theorem basin_checked_run (b : Bas) (v : List Int) (l : List Cnd) (y : List Psg × Int × Unit) (h : basin_checked_M b v l = some y) : ∃ n, basin_checked_m n b v l = some y := ⟨0, h⟩
noncomputable def basin_checked_e : Entry := { f := 96, args := basin_checked_a, ress := basin_checked_r, m := fun x => basin_checked_M x.1 x.2.1 x.2.2.1 }
theorem basin_checked_ok : FnOK Tryz.prog basin_checked_e := fn_ok (g := basin_checked_g) (fn := Tryz.f96) hmixed tabOk (eCons basin_CheckVolumes_ok (eCons basin_when_ok (eCons basin_Basin_checkCondition_ok (eCons basin_mapped_basin_Condition_api_Errno_ok (eCons basin_first_ok (eCons basin_Basin_run_ok eNil)))))) (by kernel_rfl) (by kernel_rfl) (by kernel_rfl) (fun x y h => let ⟨n, hn⟩ := basin_checked_run x.1 x.2.1 x.2.2.1 y h; ⟨basin_checked_an n, iNil, (basin_checked_eq n x).trans hn⟩)

end Go.Tw
end

section
set_option linter.all false
set_option maxRecDepth 1000000
namespace Go.Tw
open Go.Vx Go.Vx.B Go.Proofs
/-! ### basin.Run -/
abbrev basin_Run_a : Ty := .pair t41 (.pair t26 (.pair t54 .unit))
abbrev basin_Run_r : Ty := .pair t56 (.pair t35 .unit)
noncomputable def basin_Run_g : G := { T := T, E := [basin_checked_e, basin_volumes_e], muts := [], fz := [] }
def basin_Run_k : List (List Nat) := []
noncomputable def basin_Run_an (n : Nat) : Ann := { keep := basin_Run_k, fuel := n, inl := [], deep := 0 }
noncomputable def basin_Run_m (n : Nat) (b : Bas) (v : List Int) (l : List Cnd) : Option (List (List Int) × Int × Unit) :=
  (Option.bind (Go.Tw.basin_checked_M b v l) fun (v0 : List Psg × Int × Unit) => (Option.bind (Go.Tw.basin_volumes_M v0.fst) fun (v1 : List (List Int) × Unit) => Option.some (v1.fst, v0.snd.fst, ())))

theorem basin_Run_eq (n : Nat) (x : basin_Run_a.den) : runF basin_Run_g (basin_Run_an n) Tryz.f27 basin_Run_a basin_Run_r x = basin_Run_m n x.1 x.2.1 x.2.2.1 := by kernel_rfl

noncomputable def basin_Run_M (b : Bas) (v : List Int) (l : List Cnd) : Option (List (List Int) × Int × Unit) := basin_Run_m 0 b v l

theorem basin_Run_run (b : Bas) (v : List Int) (l : List Cnd) (y : List (List Int) × Int × Unit) (h : basin_Run_M b v l = some y) : ∃ n, basin_Run_m n b v l = some y := ⟨0, h⟩
noncomputable def basin_Run_e : Entry := { f := 27, args := basin_Run_a, ress := basin_Run_r, m := fun x => basin_Run_M x.1 x.2.1 x.2.2.1 }
theorem basin_Run_ok : FnOK Tryz.prog basin_Run_e := fn_ok (g := basin_Run_g) (fn := Tryz.f27) hmixed tabOk (eCons basin_checked_ok (eCons basin_volumes_ok eNil)) (by kernel_rfl) (by kernel_rfl) (by kernel_rfl) (fun x y h => let ⟨n, hn⟩ := basin_Run_run x.1 x.2.1 x.2.2.1 y h; ⟨basin_Run_an n, iNil, (basin_Run_eq n x).trans hn⟩)

/-! ### basin.Flows -/
abbrev basin_Flows_a : Ty := .pair t41 (.pair t26 (.pair t44 .unit))
abbrev basin_Flows_r : Ty := .pair t26 (.pair t35 .unit)
noncomputable def basin_Flows_g : G := { T := T, E := [basin_checked_e], muts := [], fz := [] }
def basin_Flows_k : List (List Nat) := []
noncomputable def basin_Flows_an (n : Nat) : Ann := { keep := basin_Flows_k, fuel := n, inl := [], deep := 0 }
noncomputable def basin_Flows_m (n : Nat) (b : Bas) (v : List Int) (c : Cnd) : Option (List Int × Int × Unit) :=
  (Option.bind (Go.Tw.basin_checked_M b v [c]) fun (v0 : List Psg × Int × Unit) => (bif v0.snd.fst != (0 : Int) then Option.some ([], v0.snd.fst, ()) else (Option.bind (Go.Vx.idx v0.fst (0 : Int)) fun (v1 : Psg) => Option.some (v1.snd.fst, (0 : Int), ()))))

theorem basin_Flows_eq (n : Nat) (x : basin_Flows_a.den) : runF basin_Flows_g (basin_Flows_an n) Tryz.f42 basin_Flows_a basin_Flows_r x = basin_Flows_m n x.1 x.2.1 x.2.2.1 := by kernel_rfl

noncomputable def basin_Flows_M (b : Bas) (v : List Int) (c : Cnd) : Option (List Int × Int × Unit) := basin_Flows_m 0 b v c

theorem basin_Flows_run (b : Bas) (v : List Int) (c : Cnd) (y : List Int × Int × Unit) (h : basin_Flows_M b v c = some y) : ∃ n, basin_Flows_m n b v c = some y := ⟨0, h⟩
noncomputable def basin_Flows_e : Entry := { f := 42, args := basin_Flows_a, ress := basin_Flows_r, m := fun x => basin_Flows_M x.1 x.2.1 x.2.2.1 }
theorem basin_Flows_ok : FnOK Tryz.prog basin_Flows_e := fn_ok (g := basin_Flows_g) (fn := Tryz.f42) hmixed tabOk (eCons basin_checked_ok eNil) (by kernel_rfl) (by kernel_rfl) (by kernel_rfl) (fun x y h => let ⟨n, hn⟩ := basin_Flows_run x.1 x.2.1 x.2.2.1 y h; ⟨basin_Flows_an n, iNil, (basin_Flows_eq n x).trans hn⟩)

/-! ### basin.Account -/
abbrev basin_Account_a : Ty := .pair t41 (.pair t26 (.pair t54 .unit))
abbrev basin_Account_r : Ty := .pair t78 (.pair t35 .unit)
noncomputable def basin_Account_g : G := { T := T, E := [basin_checked_e], muts := [], fz := [] }
def basin_Account_k : List (List Nat) := [[3, 6, 10, 28, 29, 30], [3, 6, 10, 12, 28, 29, 30, 36, 37, 38], [3, 6, 10, 28, 29, 30, 49, 50, 51]]
noncomputable def basin_Account_an (n : Nat) : Ann := { keep := basin_Account_k, fuel := n, inl := [], deep := 0 }
noncomputable def basin_Account_m_l5 (n : Nat) (r1 : Bas → List Psg → Int → Int → Int → Int → Int → Int → Int → Int → Option ((Int × Int × Int × Unit) × Int × Unit)) (r5 : Bas → List Psg → Int → Int → List Int → Int → Int → Int → Int → Int → Int → Int → Int → Option ((Int × Int × Int × Unit) × Int × Unit)) (b3_5 : Bas) (t28_5 : List Psg) (t29_5 : Int) (t30_5 : Int) (t49_5 : List Int) (t50_5 : Int) (t51_5 : Int) (b0_0_5 : Int) (b0_1_5 : Int) (b0_2_5 : Int) (b1_0_5 : Int) (b1_1_5 : Int) (b1_2_5 : Int) : Option ((Int × Int × Int × Unit) × Int × Unit) :=
  (bif Decidable.decide (t51_5 < t50_5) then (Option.bind (Go.Vx.idx t49_5 t51_5) fun (v6 : Int) => (Option.bind (Go.Vx.idx b3_5.snd.fst t51_5) fun (v7 : Lnk) => (bif v7.snd.fst == (-1 : Int) then (Option.bind (Go.Vx.idx b3_5.snd.fst t51_5) fun (v10 : Lnk) => (bif v10.snd.snd.fst == (-1 : Int) then r5 b3_5 t28_5 t29_5 t30_5 t49_5 t50_5 (Go.IntKind.i64.wrap (t51_5 + (1 : Int))) b0_0_5 b0_1_5 b0_2_5 b1_0_5 (Go.IntKind.i64.wrap (b1_1_5 + if Bool.true = Bool.true then if (0 : Int) > v6 then (0 : Int) else v6 else if (0 : Int) < v6 then (0 : Int) else v6)) (Go.IntKind.i64.wrap (Go.IntKind.i64.wrap (b1_2_5 + if Bool.true = Bool.true then if (0 : Int) > Go.IntKind.i64.wrap ((0 : Int) - v6) then (0 : Int) else Go.IntKind.i64.wrap ((0 : Int) - v6) else if (0 : Int) < Go.IntKind.i64.wrap ((0 : Int) - v6) then (0 : Int) else Go.IntKind.i64.wrap ((0 : Int) - v6)) + v6)) else r5 b3_5 t28_5 t29_5 t30_5 t49_5 t50_5 (Go.IntKind.i64.wrap (t51_5 + (1 : Int))) b0_0_5 b0_1_5 b0_2_5 b1_0_5 (Go.IntKind.i64.wrap (b1_1_5 + if Bool.true = Bool.true then if (0 : Int) > v6 then (0 : Int) else v6 else if (0 : Int) < v6 then (0 : Int) else v6)) (Go.IntKind.i64.wrap (b1_2_5 + if Bool.true = Bool.true then if (0 : Int) > Go.IntKind.i64.wrap ((0 : Int) - v6) then (0 : Int) else Go.IntKind.i64.wrap ((0 : Int) - v6) else if (0 : Int) < Go.IntKind.i64.wrap ((0 : Int) - v6) then (0 : Int) else Go.IntKind.i64.wrap ((0 : Int) - v6))))) else (Option.bind (Go.Vx.idx b3_5.snd.fst t51_5) fun (v11 : Lnk) => (bif v11.snd.snd.fst == (-1 : Int) then r5 b3_5 t28_5 t29_5 t30_5 t49_5 t50_5 (Go.IntKind.i64.wrap (t51_5 + (1 : Int))) b0_0_5 b0_1_5 b0_2_5 b1_0_5 b1_1_5 (Go.IntKind.i64.wrap (b1_2_5 + v6)) else r5 b3_5 t28_5 t29_5 t30_5 t49_5 t50_5 (Go.IntKind.i64.wrap (t51_5 + (1 : Int))) b0_0_5 b0_1_5 b0_2_5 b1_0_5 b1_1_5 b1_2_5))))) else r1 b3_5 t28_5 t29_5 (Go.IntKind.i64.wrap (t30_5 + (1 : Int))) b0_0_5 b0_1_5 b0_2_5 b1_0_5 b1_1_5 b1_2_5)

noncomputable def basin_Account_m_w5 (n : Nat) (r1 : Bas → List Psg → Int → Int → Int → Int → Int → Int → Int → Int → Option ((Int × Int × Int × Unit) × Int × Unit)) (k : Nat) (b3_5 : Bas) (t28_5 : List Psg) (t29_5 : Int) (t30_5 : Int) (t49_5 : List Int) (t50_5 : Int) (t51_5 : Int) (b0_0_5 : Int) (b0_1_5 : Int) (b0_2_5 : Int) (b1_0_5 : Int) (b1_1_5 : Int) (b1_2_5 : Int) : Option ((Int × Int × Int × Unit) × Int × Unit) :=
  iter (fun r y => basin_Account_m_l5 n r1 (fun b3_5 t28_5 t29_5 t30_5 t49_5 t50_5 t51_5 b0_0_5 b0_1_5 b0_2_5 b1_0_5 b1_1_5 b1_2_5 => r ((b3_5, (t28_5, (t29_5, (t30_5, (t49_5, (t50_5, (t51_5, ()))))))), (((b0_0_5, (b0_1_5, (b0_2_5, ()))), ((b1_0_5, (b1_1_5, (b1_2_5, ()))), ())), ()))) y.1.1 y.1.2.1 y.1.2.2.1 y.1.2.2.2.1 y.1.2.2.2.2.1 y.1.2.2.2.2.2.1 y.1.2.2.2.2.2.2.1 y.2.1.1.1 y.2.1.1.2.1 y.2.1.1.2.2.1 y.2.1.2.1.1 y.2.1.2.1.2.1 y.2.1.2.1.2.2.1) k ((b3_5, (t28_5, (t29_5, (t30_5, (t49_5, (t50_5, (t51_5, ()))))))), (((b0_0_5, (b0_1_5, (b0_2_5, ()))), ((b1_0_5, (b1_1_5, (b1_2_5, ()))), ())), ()))

noncomputable def basin_Account_m_l3 (n : Nat) (r1 : Bas → List Psg → Int → Int → Int → Int → Int → Int → Int → Int → Option ((Int × Int × Int × Unit) × Int × Unit)) (r3 : Bas → List Psg → Int → Int → List Int → Int → Int → Int → Int → Int → Int → Int → Int → Int → Bool → List Int → List Int → Option (List Int) → Option ((Int × Int × Int × Unit) × Int × Unit)) (b3_3 : Bas) (t28_3 : List Psg) (t29_3 : Int) (t30_3 : Int) (t36_3 : List Int) (t37_3 : Int) (t38_3 : Int) (b0_0_3 : Int) (b0_1_3 : Int) (b0_2_3 : Int) (b1_0_3 : Int) (b1_1_3 : Int) (b1_2_3 : Int) (b2_0_3 : Int) (b2_1_3 : Bool) (b2_2_3 : List Int) (b2_3_3 : List Int) (b2_4_3 : Option (List Int)) : Option ((Int × Int × Int × Unit) × Int × Unit) :=
  (bif Decidable.decide (t38_3 < t37_3) then (Option.bind (Go.Vx.idx t36_3 t38_3) fun (v4 : Int) => r3 b3_3 t28_3 t29_3 t30_3 t36_3 t37_3 (Go.IntKind.i64.wrap (t38_3 + (1 : Int))) b0_0_3 b0_1_3 b0_2_3 (Go.IntKind.i64.wrap (b1_0_3 + v4)) b1_1_3 b1_2_3 b2_0_3 b2_1_3 b2_2_3 b2_3_3 b2_4_3) else (basin_Account_m_w5 n r1 n (b3_3) (t28_3) (t29_3) (t30_3) (b2_3_3) ((↑b2_3_3.length : Int)) ((0 : Int)) (b0_0_3) (b0_1_3) (b0_2_3) (b1_0_3) (b1_1_3) (b1_2_3)))

noncomputable def basin_Account_m_w3 (n : Nat) (r1 : Bas → List Psg → Int → Int → Int → Int → Int → Int → Int → Int → Option ((Int × Int × Int × Unit) × Int × Unit)) (k : Nat) (b3_3 : Bas) (t28_3 : List Psg) (t29_3 : Int) (t30_3 : Int) (t36_3 : List Int) (t37_3 : Int) (t38_3 : Int) (b0_0_3 : Int) (b0_1_3 : Int) (b0_2_3 : Int) (b1_0_3 : Int) (b1_1_3 : Int) (b1_2_3 : Int) (b2_0_3 : Int) (b2_1_3 : Bool) (b2_2_3 : List Int) (b2_3_3 : List Int) (b2_4_3 : Option (List Int)) : Option ((Int × Int × Int × Unit) × Int × Unit) :=
  iter (fun r y => basin_Account_m_l3 n r1 (fun b3_3 t28_3 t29_3 t30_3 t36_3 t37_3 t38_3 b0_0_3 b0_1_3 b0_2_3 b1_0_3 b1_1_3 b1_2_3 b2_0_3 b2_1_3 b2_2_3 b2_3_3 b2_4_3 => r ((b3_3, (t28_3, (t29_3, (t30_3, (t36_3, (t37_3, (t38_3, ()))))))), (((b0_0_3, (b0_1_3, (b0_2_3, ()))), ((b1_0_3, (b1_1_3, (b1_2_3, ()))), ((b2_0_3, (b2_1_3, (b2_2_3, (b2_3_3, (b2_4_3, ()))))), ()))), ()))) y.1.1 y.1.2.1 y.1.2.2.1 y.1.2.2.2.1 y.1.2.2.2.2.1 y.1.2.2.2.2.2.1 y.1.2.2.2.2.2.2.1 y.2.1.1.1 y.2.1.1.2.1 y.2.1.1.2.2.1 y.2.1.2.1.1 y.2.1.2.1.2.1 y.2.1.2.1.2.2.1 y.2.1.2.2.1.1 y.2.1.2.2.1.2.1 y.2.1.2.2.1.2.2.1 y.2.1.2.2.1.2.2.2.1 y.2.1.2.2.1.2.2.2.2.1) k ((b3_3, (t28_3, (t29_3, (t30_3, (t36_3, (t37_3, (t38_3, ()))))))), (((b0_0_3, (b0_1_3, (b0_2_3, ()))), ((b1_0_3, (b1_1_3, (b1_2_3, ()))), ((b2_0_3, (b2_1_3, (b2_2_3, (b2_3_3, (b2_4_3, ()))))), ()))), ()))

noncomputable def basin_Account_m_l1 (n : Nat) (r1 : Bas → List Psg → Int → Int → Int → Int → Int → Int → Int → Int → Option ((Int × Int × Int × Unit) × Int × Unit)) (b3_1 : Bas) (t28_1 : List Psg) (t29_1 : Int) (t30_1 : Int) (b0_0_1 : Int) (b0_1_1 : Int) (b0_2_1 : Int) (b1_0_1 : Int) (b1_1_1 : Int) (b1_2_1 : Int) : Option ((Int × Int × Int × Unit) × Int × Unit) :=
  (bif Decidable.decide (t30_1 < t29_1) then (Option.bind (Go.Vx.idx t28_1 t30_1) fun (v2 : Psg) => (basin_Account_m_w3 n r1 n (b3_1) (t28_1) (t29_1) (t30_1) (v2.fst.snd.snd.fst) ((↑v2.fst.snd.snd.fst.length : Int)) ((0 : Int)) (b0_0_1) (b0_1_1) (b0_2_1) (b1_0_1) (b1_1_1) (b1_2_1) (v2.fst.fst) (v2.fst.snd.fst) (v2.fst.snd.snd.fst) (v2.snd.fst) (v2.snd.snd.fst))) else Option.some ((b1_0_1, b1_1_1, b1_2_1, ()), (0 : Int), ()))

noncomputable def basin_Account_m_w1 (n : Nat)  (k : Nat) (b3_1 : Bas) (t28_1 : List Psg) (t29_1 : Int) (t30_1 : Int) (b0_0_1 : Int) (b0_1_1 : Int) (b0_2_1 : Int) (b1_0_1 : Int) (b1_1_1 : Int) (b1_2_1 : Int) : Option ((Int × Int × Int × Unit) × Int × Unit) :=
  iter (fun r y => basin_Account_m_l1 n (fun b3_1 t28_1 t29_1 t30_1 b0_0_1 b0_1_1 b0_2_1 b1_0_1 b1_1_1 b1_2_1 => r ((b3_1, (t28_1, (t29_1, (t30_1, ())))), (((b0_0_1, (b0_1_1, (b0_2_1, ()))), ((b1_0_1, (b1_1_1, (b1_2_1, ()))), ())), ()))) y.1.1 y.1.2.1 y.1.2.2.1 y.1.2.2.2.1 y.2.1.1.1 y.2.1.1.2.1 y.2.1.1.2.2.1 y.2.1.2.1.1 y.2.1.2.1.2.1 y.2.1.2.1.2.2.1) k ((b3_1, (t28_1, (t29_1, (t30_1, ())))), (((b0_0_1, (b0_1_1, (b0_2_1, ()))), ((b1_0_1, (b1_1_1, (b1_2_1, ()))), ())), ()))

noncomputable def basin_Account_m (n : Nat) (b : Bas) (v : List Int) (l : List Cnd) : Option ((Int × Int × Int × Unit) × Int × Unit) :=
  (Option.bind (Go.Tw.basin_checked_M b v l) fun (v0 : List Psg × Int × Unit) => (bif v0.snd.fst != (0 : Int) then Option.some (((0 : Int), (0 : Int), (0 : Int), ()), v0.snd.fst, ()) else (basin_Account_m_w1 n n (b) (v0.fst) ((↑v0.fst.length : Int)) ((0 : Int)) ((0 : Int)) ((0 : Int)) ((0 : Int)) ((0 : Int)) ((0 : Int)) ((0 : Int)))))

theorem basin_Account_eq (n : Nat) (x : basin_Account_a.den) : runF basin_Account_g (basin_Account_an n) Tryz.f45 basin_Account_a basin_Account_r x = basin_Account_m n x.1 x.2.1 x.2.2.1 := by kernel_rfl

noncomputable def basin_Account_b5 (b3_5 : Bas) (t28_5 : List Psg) (t29_5 : Int) (t30_5 : Int) (t49_5 : List Int) (b0_0_5 : Int) (b0_1_5 : Int) (b0_2_5 : Int) (b1_0_5 : Int) (t51_5 : Int) (v6 : Int) (b1_1_5 : Int) (b1_2_5 : Int) : Option ((((Int × Int × Int × Unit) × Int × Unit) ⊕ (Int × Int × Int)) ⊕ (Int × Int)) :=
  (Option.bind (Go.Vx.idx b3_5.snd.fst t51_5) fun (v7 : Lnk) => (bif v7.snd.fst == (-1 : Int) then (Option.bind (Go.Vx.idx b3_5.snd.fst t51_5) fun (v10 : Lnk) => (bif v10.snd.snd.fst == (-1 : Int) then (some (Sum.inr ((Go.IntKind.i64.wrap (b1_1_5 + if Bool.true = Bool.true then if (0 : Int) > v6 then (0 : Int) else v6 else if (0 : Int) < v6 then (0 : Int) else v6)), (Go.IntKind.i64.wrap (Go.IntKind.i64.wrap (b1_2_5 + if Bool.true = Bool.true then if (0 : Int) > Go.IntKind.i64.wrap ((0 : Int) - v6) then (0 : Int) else Go.IntKind.i64.wrap ((0 : Int) - v6) else if (0 : Int) < Go.IntKind.i64.wrap ((0 : Int) - v6) then (0 : Int) else Go.IntKind.i64.wrap ((0 : Int) - v6)) + v6))))) else (some (Sum.inr ((Go.IntKind.i64.wrap (b1_1_5 + if Bool.true = Bool.true then if (0 : Int) > v6 then (0 : Int) else v6 else if (0 : Int) < v6 then (0 : Int) else v6)), (Go.IntKind.i64.wrap (b1_2_5 + if Bool.true = Bool.true then if (0 : Int) > Go.IntKind.i64.wrap ((0 : Int) - v6) then (0 : Int) else Go.IntKind.i64.wrap ((0 : Int) - v6) else if (0 : Int) < Go.IntKind.i64.wrap ((0 : Int) - v6) then (0 : Int) else Go.IntKind.i64.wrap ((0 : Int) - v6)))))))) else (Option.bind (Go.Vx.idx b3_5.snd.fst t51_5) fun (v11 : Lnk) => (bif v11.snd.snd.fst == (-1 : Int) then (some (Sum.inr ((b1_1_5), (Go.IntKind.i64.wrap (b1_2_5 + v6))))) else (some (Sum.inr ((b1_1_5), (b1_2_5))))))))

noncomputable def basin_Account_f5 (b3_5 : Bas) (t28_5 : List Psg) (t29_5 : Int) (t30_5 : Int) (t49_5 : List Int) (b0_0_5 : Int) (b0_1_5 : Int) (b0_2_5 : Int) (b1_0_5 : Int) (b1_1_5 : Int) (b1_2_5 : Int) : Option (((Int × Int × Int × Unit) × Int × Unit) ⊕ (Int × Int × Int)) :=
  (some (Sum.inr ((b1_0_5), (b1_1_5), (b1_2_5))))

theorem basin_Account_m_w5_le (n : Nat) (hn : big ≤ n)  (r1 : Bas → List Psg → Int → Int → Int → Int → Int → Int → Int → Int → Option ((Int × Int × Int × Unit) × Int × Unit)) (b3_5 : Bas) (t28_5 : List Psg) (t29_5 : Int) (t30_5 : Int) (t49_5 : List Int) (b0_0_5 : Int) (b0_1_5 : Int) (b0_2_5 : Int) (b1_0_5 : Int) (b1_1_5 : Int) (b1_2_5 : Int) (hx : List.length (t49_5) < lenMax) : LeF (elim some fun (s__ : (Int × Int × Int)) => r1 b3_5 t28_5 t29_5 (Go.IntKind.i64.wrap (t30_5 + 1)) b0_0_5 b0_1_5 b0_2_5 s__.1 s__.2.1 s__.2.2) (loopL (fun i__ e__ s__ => basin_Account_b5 b3_5 t28_5 t29_5 t30_5 t49_5 b0_0_5 b0_1_5 b0_2_5 b1_0_5 i__ e__ s__.1 s__.2) (fun s__ => basin_Account_f5 b3_5 t28_5 t29_5 t30_5 t49_5 b0_0_5 b0_1_5 b0_2_5 b1_0_5 s__.1 s__.2) 0 (t49_5) (b1_1_5, b1_2_5)) (basin_Account_m_w5 n r1 n b3_5 t28_5 t29_5 t30_5 t49_5 (List.length (t49_5) : Int) 0 b0_0_5 b0_1_5 b0_2_5 b1_0_5 b1_1_5 b1_2_5) := by
  refine loopL_le (f := (elim some fun (s__ : (Int × Int × Int)) => r1 b3_5 t28_5 t29_5 (Go.IntKind.i64.wrap (t30_5 + 1)) b0_0_5 b0_1_5 b0_2_5 s__.1 s__.2.1 s__.2.2)) (W := fun k__ i__ s__ => basin_Account_m_w5 n r1 k__ b3_5 t28_5 t29_5 t30_5 t49_5 (List.length (t49_5) : Int) i__ b0_0_5 b0_1_5 b0_2_5 b1_0_5 s__.1 s__.2) (body := (fun i__ e__ s__ => basin_Account_b5 b3_5 t28_5 t29_5 t30_5 t49_5 b0_0_5 b0_1_5 b0_2_5 b1_0_5 i__ e__ s__.1 s__.2)) (fin := (fun s__ => basin_Account_f5 b3_5 t28_5 t29_5 t30_5 t49_5 b0_0_5 b0_1_5 b0_2_5 b1_0_5 s__.1 s__.2)) (fun k__ i__ s__ => ?_) hx (b1_1_5, b1_2_5) n (by unfold big at hn; unfold lenMax at hx; omega)
  show LeF _ _ (basin_Account_m_l5 n r1 (basin_Account_m_w5 n r1 k__) b3_5 t28_5 t29_5 t30_5 t49_5 (List.length (t49_5) : Int) i__ b0_0_5 b0_1_5 b0_2_5 b1_0_5 s__.1 s__.2)
  exact leCond (leBind fun v6 => (leBind fun v7 => (leCond (leBind fun v10 => (leCond (leSome rfl) (leSome rfl))) (leBind fun v11 => (leCond (leSome rfl) (leSome rfl)))))) (leMap (leSome rfl))

noncomputable def basin_Account_b3 (b3_3 : Bas) (t28_3 : List Psg) (t29_3 : Int) (t30_3 : Int) (t36_3 : List Int) (b0_0_3 : Int) (b0_1_3 : Int) (b0_2_3 : Int) (b1_1_3 : Int) (b1_2_3 : Int) (b2_0_3 : Int) (b2_1_3 : Bool) (b2_2_3 : List Int) (b2_3_3 : List Int) (b2_4_3 : Option (List Int)) (t38_3 : Int) (v4 : Int) (b1_0_3 : Int) : Option ((((Int × Int × Int × Unit) × Int × Unit) ⊕ (Int × Int × Int)) ⊕ (Int)) :=
  (some (Sum.inr (Go.IntKind.i64.wrap (b1_0_3 + v4))))

noncomputable def basin_Account_f3 (b3_3 : Bas) (t28_3 : List Psg) (t29_3 : Int) (t30_3 : Int) (t36_3 : List Int) (b0_0_3 : Int) (b0_1_3 : Int) (b0_2_3 : Int) (b1_1_3 : Int) (b1_2_3 : Int) (b2_0_3 : Int) (b2_1_3 : Bool) (b2_2_3 : List Int) (b2_3_3 : List Int) (b2_4_3 : Option (List Int)) (b1_0_3 : Int) : Option (((Int × Int × Int × Unit) × Int × Unit) ⊕ (Int × Int × Int)) :=
  (bif decide (List.length (b2_3_3) < lenMax) then loopL (fun i__ e__ s__ => basin_Account_b5 (b3_3) (t28_3) (t29_3) (t30_3) (b2_3_3) (b0_0_3) (b0_1_3) (b0_2_3) (b1_0_3) i__ e__ s__.1 s__.2) (fun s__ => basin_Account_f5 (b3_3) (t28_3) (t29_3) (t30_3) (b2_3_3) (b0_0_3) (b0_1_3) (b0_2_3) (b1_0_3) s__.1 s__.2) 0 (b2_3_3) ((b1_1_3), (b1_2_3)) else none)

theorem basin_Account_m_w3_le (n : Nat) (hn : big ≤ n)  (r1 : Bas → List Psg → Int → Int → Int → Int → Int → Int → Int → Int → Option ((Int × Int × Int × Unit) × Int × Unit)) (b3_3 : Bas) (t28_3 : List Psg) (t29_3 : Int) (t30_3 : Int) (t36_3 : List Int) (b0_0_3 : Int) (b0_1_3 : Int) (b0_2_3 : Int) (b1_1_3 : Int) (b1_2_3 : Int) (b2_0_3 : Int) (b2_1_3 : Bool) (b2_2_3 : List Int) (b2_3_3 : List Int) (b2_4_3 : Option (List Int)) (b1_0_3 : Int) (hx : List.length (t36_3) < lenMax) : LeF (elim some fun (s__ : (Int × Int × Int)) => r1 b3_3 t28_3 t29_3 (Go.IntKind.i64.wrap (t30_3 + 1)) b0_0_3 b0_1_3 b0_2_3 s__.1 s__.2.1 s__.2.2) (loopL (fun i__ e__ s__ => basin_Account_b3 b3_3 t28_3 t29_3 t30_3 t36_3 b0_0_3 b0_1_3 b0_2_3 b1_1_3 b1_2_3 b2_0_3 b2_1_3 b2_2_3 b2_3_3 b2_4_3 i__ e__ s__) (fun s__ => basin_Account_f3 b3_3 t28_3 t29_3 t30_3 t36_3 b0_0_3 b0_1_3 b0_2_3 b1_1_3 b1_2_3 b2_0_3 b2_1_3 b2_2_3 b2_3_3 b2_4_3 s__) 0 (t36_3) b1_0_3) (basin_Account_m_w3 n r1 n b3_3 t28_3 t29_3 t30_3 t36_3 (List.length (t36_3) : Int) 0 b0_0_3 b0_1_3 b0_2_3 b1_0_3 b1_1_3 b1_2_3 b2_0_3 b2_1_3 b2_2_3 b2_3_3 b2_4_3) := by
  refine loopL_le (f := (elim some fun (s__ : (Int × Int × Int)) => r1 b3_3 t28_3 t29_3 (Go.IntKind.i64.wrap (t30_3 + 1)) b0_0_3 b0_1_3 b0_2_3 s__.1 s__.2.1 s__.2.2)) (W := fun k__ i__ s__ => basin_Account_m_w3 n r1 k__ b3_3 t28_3 t29_3 t30_3 t36_3 (List.length (t36_3) : Int) i__ b0_0_3 b0_1_3 b0_2_3 s__ b1_1_3 b1_2_3 b2_0_3 b2_1_3 b2_2_3 b2_3_3 b2_4_3) (body := (fun i__ e__ s__ => basin_Account_b3 b3_3 t28_3 t29_3 t30_3 t36_3 b0_0_3 b0_1_3 b0_2_3 b1_1_3 b1_2_3 b2_0_3 b2_1_3 b2_2_3 b2_3_3 b2_4_3 i__ e__ s__)) (fin := (fun s__ => basin_Account_f3 b3_3 t28_3 t29_3 t30_3 t36_3 b0_0_3 b0_1_3 b0_2_3 b1_1_3 b1_2_3 b2_0_3 b2_1_3 b2_2_3 b2_3_3 b2_4_3 s__)) (fun k__ i__ s__ => ?_) hx b1_0_3 n (by unfold big at hn; unfold lenMax at hx; omega)
  show LeF _ _ (basin_Account_m_l3 n r1 (basin_Account_m_w3 n r1 k__) b3_3 t28_3 t29_3 t30_3 t36_3 (List.length (t36_3) : Int) i__ b0_0_3 b0_1_3 b0_2_3 s__ b1_1_3 b1_2_3 b2_0_3 b2_1_3 b2_2_3 b2_3_3 b2_4_3)
  exact leCond (leBind fun v4 => (leSome rfl)) (leMap (leGuard fun hx => by apply basin_Account_m_w5_le n hn; exact hx))

noncomputable def basin_Account_b1 (b3_1 : Bas) (t28_1 : List Psg) (b0_0_1 : Int) (b0_1_1 : Int) (b0_2_1 : Int) (t30_1 : Int) (v2 : Psg) (b1_0_1 : Int) (b1_1_1 : Int) (b1_2_1 : Int) : Option (((Int × Int × Int × Unit) × Int × Unit) ⊕ (Int × Int × Int)) :=
  (bif decide (List.length (v2.fst.snd.snd.fst) < lenMax) then loopL (fun i__ e__ s__ => basin_Account_b3 (b3_1) (t28_1) ((↑t28_1.length : Int)) (t30_1) (v2.fst.snd.snd.fst) (b0_0_1) (b0_1_1) (b0_2_1) (b1_1_1) (b1_2_1) (v2.fst.fst) (v2.fst.snd.fst) (v2.fst.snd.snd.fst) (v2.snd.fst) (v2.snd.snd.fst) i__ e__ s__) (fun s__ => basin_Account_f3 (b3_1) (t28_1) ((↑t28_1.length : Int)) (t30_1) (v2.fst.snd.snd.fst) (b0_0_1) (b0_1_1) (b0_2_1) (b1_1_1) (b1_2_1) (v2.fst.fst) (v2.fst.snd.fst) (v2.fst.snd.snd.fst) (v2.snd.fst) (v2.snd.snd.fst) s__) 0 (v2.fst.snd.snd.fst) (b1_0_1) else none)

noncomputable def basin_Account_f1 (b3_1 : Bas) (t28_1 : List Psg) (b0_0_1 : Int) (b0_1_1 : Int) (b0_2_1 : Int) (b1_0_1 : Int) (b1_1_1 : Int) (b1_2_1 : Int) : Option ((Int × Int × Int × Unit) × Int × Unit) :=
  (some (((b1_0_1, b1_1_1, b1_2_1, ()), (0 : Int), ())))

theorem basin_Account_m_w1_le (n : Nat) (hn : big ≤ n)  (b3_1 : Bas) (t28_1 : List Psg) (b0_0_1 : Int) (b0_1_1 : Int) (b0_2_1 : Int) (b1_0_1 : Int) (b1_1_1 : Int) (b1_2_1 : Int) (hx : List.length (t28_1) < lenMax) : LeF some (loopL (fun i__ e__ s__ => basin_Account_b1 b3_1 t28_1 b0_0_1 b0_1_1 b0_2_1 i__ e__ s__.1 s__.2.1 s__.2.2) (fun s__ => basin_Account_f1 b3_1 t28_1 b0_0_1 b0_1_1 b0_2_1 s__.1 s__.2.1 s__.2.2) 0 (t28_1) (b1_0_1, b1_1_1, b1_2_1)) (basin_Account_m_w1 n n b3_1 t28_1 (List.length (t28_1) : Int) 0 b0_0_1 b0_1_1 b0_2_1 b1_0_1 b1_1_1 b1_2_1) := by
  refine loopL_le (f := some) (W := fun k__ i__ s__ => basin_Account_m_w1 n k__ b3_1 t28_1 (List.length (t28_1) : Int) i__ b0_0_1 b0_1_1 b0_2_1 s__.1 s__.2.1 s__.2.2) (body := (fun i__ e__ s__ => basin_Account_b1 b3_1 t28_1 b0_0_1 b0_1_1 b0_2_1 i__ e__ s__.1 s__.2.1 s__.2.2)) (fin := (fun s__ => basin_Account_f1 b3_1 t28_1 b0_0_1 b0_1_1 b0_2_1 s__.1 s__.2.1 s__.2.2)) (fun k__ i__ s__ => ?_) hx (b1_0_1, b1_1_1, b1_2_1) n (by unfold big at hn; unfold lenMax at hx; omega)
  show LeF _ _ (basin_Account_m_l1 n (basin_Account_m_w1 n k__) b3_1 t28_1 (List.length (t28_1) : Int) i__ b0_0_1 b0_1_1 b0_2_1 s__.1 s__.2.1 s__.2.2)
  exact leCond (leBind fun v2 => (leGuard fun hx => by apply basin_Account_m_w3_le n hn; exact hx)) (leMap (leSome rfl))

noncomputable def basin_Account_M (b : Bas) (v : List Int) (l : List Cnd) : Option ((Int × Int × Int × Unit) × Int × Unit) :=
  (Option.bind (Go.Tw.basin_checked_M b v l) fun (v0 : List Psg × Int × Unit) => (bif v0.snd.fst != (0 : Int) then (some ((((0 : Int), (0 : Int), (0 : Int), ()), v0.snd.fst, ()))) else (bif decide (List.length (v0.fst) < lenMax) then loopL (fun i__ e__ s__ => basin_Account_b1 (b) (v0.fst) ((0 : Int)) ((0 : Int)) ((0 : Int)) i__ e__ s__.1 s__.2.1 s__.2.2) (fun s__ => basin_Account_f1 (b) (v0.fst) ((0 : Int)) ((0 : Int)) ((0 : Int)) s__.1 s__.2.1 s__.2.2) 0 (v0.fst) (((0 : Int)), ((0 : Int)), ((0 : Int))) else none)))

theorem basin_Account_run (b : Bas) (v : List Int) (l : List Cnd) (y : (Int × Int × Int × Unit) × Int × Unit) (h : basin_Account_M b v l = some y) : ∃ n, basin_Account_m n b v l = some y :=
  ⟨big, LeF.top (show LeF some (basin_Account_M b v l) (basin_Account_m big b v l) from (fun (n : Nat) (hn : big ≤ n) => show LeF some (basin_Account_M b v l) (basin_Account_m n b v l) from (leBind fun v0 => (leCond (leSome rfl) (leGuard fun hx => by apply basin_Account_m_w1_le n hn; exact hx)))) big (Nat.le_refl _)) h⟩
noncomputable def basin_Account_e : Entry := { f := 45, args := basin_Account_a, ress := basin_Account_r, m := fun x => basin_Account_M x.1 x.2.1 x.2.2.1 }
theorem basin_Account_ok : FnOK Tryz.prog basin_Account_e := fn_ok (g := basin_Account_g) (fn := Tryz.f45) hmixed tabOk (eCons basin_checked_ok eNil) (by kernel_rfl) (by kernel_rfl) (by kernel_rfl) (fun x y h => let ⟨n, hn⟩ := basin_Account_run x.1 x.2.1 x.2.2.1 y h; ⟨basin_Account_an n, iNil, (basin_Account_eq n x).trans hn⟩)

end Go.Tw
end
