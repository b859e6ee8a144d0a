import Derived.Test.YtohhmdogfjmlcaaGreatBT
import Derived.Test.YtohhmdogfjmlcaaGreatB0
import Derived.Test.YtohhmdogfjmlcaaGreatBS
import Derived.Test.YtohhmdogfjmlcaaGreatLP
import Derived.Test.YtohhmdogfjmlcaaGreatBA
section
set_option linter.all false
set_option maxRecDepth 1000000
namespace Go.Tw
open Go.Vx Go.Vx.B Go.Proofs
noncomputable section
def z05_b0 (l0_0 : List Cmd) (n5_0 : Int) (c0_0 : List (List UInt8)) : Option ((List (List UInt8) × Int × Unit) ⊕ (Int × List (List UInt8))) :=
  (Option.bind (z0W_M l0_0 n5_0) fun (v1 : List UInt8 × Bool × Unit) => (bif !v1.2.1 then (some (Sum.inl ((c0_0, n5_0, ())))) else (bif decide (c0_0.length + (1 : Nat) ≤ memMax) then (some (Sum.inr ((IntKind.i64.wrap (n5_0 + (1 : Int))), (c0_0 ++ [v1.1])))) else none)))
def z05_M (l : List Cmd) : Option (List (List UInt8) × Int × Unit) :=
  (loopW (fun s__ => z05_b0 (l) s__.1 s__.2) wMax (((1 : Int)), ([])))
abbrev zS_a : Ty := .pair t28 .unit
abbrev zS_r : Ty := .pair t3 .unit
def zS_g : G := { T := T, E := [zo_e], muts := [], fz := [] }
def zS_k : List (List Nat) := [[0, 3]]
def zS_an (n : Nat) : Ann := { keep := zS_k, fuel := n, inl := [], deep := 0 }
def zS_m_l0 (n : Nat) (r0 : List Int → Int → Option (Int × Unit)) (l0_0 : List Int) (i3_0 : Int) : Option (Int × Unit) :=
  (bif decide (i3_0 < (↑l0_0.length : Int)) then (Option.bind (idx l0_0 i3_0) fun (v1 : Int) => (bif (zo v1 (0 : Int) (1000 : Int)).1 != (0 : Int) then some ((3 : Int), ()) else r0 l0_0 (IntKind.i64.wrap (i3_0 + (1 : Int))))) else some ((0 : Int), ()))
def zS_m_w0 (n : Nat)  (k : Nat) (l0_0 : List Int) (i3_0 : Int) : Option (Int × Unit) :=
  iter (fun r y => zS_m_l0 n (fun l0_0 i3_0 => r ((l0_0, (i3_0, ())), ((), ()))) y.1.1 y.1.2.1) k ((l0_0, (i3_0, ())), ((), ()))
def zS_m (n : Nat) (l : List Int) : Option (Int × Unit) :=
  (bif decide ((↑l.length : Int) > (9 : Int)) then some ((5 : Int), ()) else (zS_m_w0 n n (l) ((0 : Int))))
theorem zS_eq (n : Nat) (x : zS_a.den) : runF zS_g (zS_an n) Tryz.f46 zS_a zS_r x = zS_m n x.1 := by kernel_rfl
def zS_b0 (l0_0 : List Int) (i3_0 : Int) (v1 : Int) : Option ((Int × Unit) ⊕ Unit) :=
  (bif (zo v1 (0 : Int) (1000 : Int)).1 != (0 : Int) then (some (Sum.inl (((3 : Int), ())))) else (some (Sum.inr ())))
def zS_f0 (l0_0 : List Int) : Option (Int × Unit) :=
  (some (((0 : Int), ())))
theorem zS_m_w0_le (n : Nat) (hn : big ≤ n)  (l0_0 : List Int) (hx : List.length (l0_0) < lenMax) : LeF some (loopL (fun i__ e__ s__ => zS_b0 l0_0 i__ e__) (fun s__ => zS_f0 l0_0) 0 (l0_0) ()) (zS_m_w0 n n l0_0 0) := by
  refine loopL_le (f := some) (W := fun k__ i__ s__ => zS_m_w0 n k__ l0_0 i__) (body := (fun i__ e__ s__ => zS_b0 l0_0 i__ e__)) (fin := (fun s__ => zS_f0 l0_0)) (fun k__ i__ s__ => ?_) hx () n (by unfold big at hn; unfold lenMax at hx; omega)
  show LeF _ _ (zS_m_l0 n (zS_m_w0 n k__) l0_0 i__)
  exact leCond (leBind fun v1 => (leCond (leSome rfl) (leSome rfl))) (leMap (leSome rfl))
def zS_M (l : List Int) : Option (Int × Unit) :=
  (bif decide ((↑l.length : Int) > (9 : Int)) then (some (((5 : Int), ()))) else (bif decide (List.length (l) < lenMax) then loopL (fun i__ e__ s__ => zS_b0 (l) i__ e__) (fun s__ => zS_f0 (l)) 0 (l) () else none))
theorem zS_run (l : List Int) (y : Int × Unit) (h : zS_M l = some y) : ∃ n, zS_m n l = some y :=
  ⟨big, LeF.top (show LeF some (zS_M l) (zS_m big l) from (fun (n : Nat) (hn : big ≤ n) => show LeF some (zS_M l) (zS_m n l) from (leCond (leSome rfl) (leGuard fun hx => by apply zS_m_w0_le n hn; exact hx))) big (Nat.le_refl _)) h⟩
def zS_e : Entry := { f := 46, args := zS_a, ress := zS_r, m := fun x => zS_M x.1 }
theorem zS_ok : FnOK Tryz.prog zS_e := fn_ok (g := zS_g) (fn := Tryz.f46) hmixed tabOk (eCons zo_ok eNil) (by kernel_rfl) (by kernel_rfl) (by kernel_rfl) (fun x y h => let ⟨n, hn⟩ := zS_run x.1 y h; ⟨zS_an n, iNil, (zS_eq n x).trans hn⟩)
abbrev zb_a : Ty := .pair t35 .unit
abbrev zb_r : Ty := .pair t28 .unit
def zb_g : G := { T := T, E := [zL_e, zi_e, zB_e, zW_e], muts := [3], fz := [] }
def zb_k : List (List Nat) := [[3, 7, 8, 9]]
def zb_an (n : Nat) : Ann := { keep := zb_k, fuel := n, inl := [], deep := 0 }
def zb_m_l0 (n : Nat) (r0 : List Sta → Int → Int → List (Sta × Int × Unit) → Option (List Int × Unit)) (t7_0 : List Sta) (t8_0 : Int) (t9_0 : Int) (c0_0 : List (Sta × Int × Unit)) : Option (List Int × Unit) :=
  (bif decide (t9_0 < t8_0) then (Option.bind (idx t7_0 t9_0) fun (v1 : Sta) => (bif decide (c0_0.length + (1 : Nat) ≤ memMax) then r0 t7_0 t8_0 (IntKind.i64.wrap (t9_0 + (1 : Int))) (c0_0 ++ [((v1.1, v1.2.1, v1.2.2.1, v1.2.2.2.1, ()), t9_0, ())]) else none)) else (Option.bind (zL_M c0_0 fun (x : (Sta × Int × Unit) × Unit) => zi_M x.1) fun (v2 : List (Sta × Int × Unit) × Unit) => (Option.bind (zB_M v2.1 fun (x : (Sta × Int × Unit) × Unit) => zW_M x.1) fun (v3 : List Int × Unit) => some (v3.1, ()))))
def zb_m_w0 (n : Nat)  (k : Nat) (t7_0 : List Sta) (t8_0 : Int) (t9_0 : Int) (c0_0 : List (Sta × Int × Unit)) : Option (List Int × Unit) :=
  iter (fun r y => zb_m_l0 n (fun t7_0 t8_0 t9_0 c0_0 => r ((t7_0, (t8_0, (t9_0, ()))), ((c0_0, ()), ()))) y.1.1 y.1.2.1 y.1.2.2.1 y.2.1.1) k ((t7_0, (t8_0, (t9_0, ()))), ((c0_0, ()), ()))
def zb_m (n : Nat) (c : Cha) : Option (List Int × Unit) :=
  (zb_m_w0 n n (c.1) ((↑c.1.length : Int)) ((0 : Int)) ([]))
theorem zb_eq (n : Nat) (x : zb_a.den) : runF zb_g (zb_an n) Tryz.f86 zb_a zb_r x = zb_m n x.1 := by kernel_rfl
def zb_b0 (t7_0 : List Sta) (t9_0 : Int) (v1 : Sta) (c0_0 : List (Sta × Int × Unit)) : Option ((List Int × Unit) ⊕ (List (Sta × Int × Unit))) :=
  (bif decide (c0_0.length + (1 : Nat) ≤ memMax) then (some (Sum.inr (c0_0 ++ [((v1.1, v1.2.1, v1.2.2.1, v1.2.2.2.1, ()), t9_0, ())]))) else none)
def zb_f0 (t7_0 : List Sta) (c0_0 : List (Sta × Int × Unit)) : Option (List Int × Unit) :=
  (Option.bind (zL_M c0_0 fun (x : (Sta × Int × Unit) × Unit) => zi_M x.1) fun (v2 : List (Sta × Int × Unit) × Unit) => (Option.bind (zB_M v2.1 fun (x : (Sta × Int × Unit) × Unit) => zW_M x.1) fun (v3 : List Int × Unit) => (some ((v3.1, ())))))
theorem zb_m_w0_le (n : Nat) (hn : big ≤ n)  (t7_0 : List Sta) (c0_0 : List (Sta × Int × Unit)) (hx : List.length (t7_0) < lenMax) : LeF some (loopL (fun i__ e__ s__ => zb_b0 t7_0 i__ e__ s__) (fun s__ => zb_f0 t7_0 s__) 0 (t7_0) c0_0) (zb_m_w0 n n t7_0 (List.length (t7_0) : Int) 0 c0_0) := by
  refine loopL_le (f := some) (W := fun k__ i__ s__ => zb_m_w0 n k__ t7_0 (List.length (t7_0) : Int) i__ s__) (body := (fun i__ e__ s__ => zb_b0 t7_0 i__ e__ s__)) (fin := (fun s__ => zb_f0 t7_0 s__)) (fun k__ i__ s__ => ?_) hx c0_0 n (by unfold big at hn; unfold lenMax at hx; omega)
  show LeF _ _ (zb_m_l0 n (zb_m_w0 n k__) t7_0 (List.length (t7_0) : Int) i__ s__)
  exact leCond (leBind fun v1 => (leCond (leSome rfl) leNone)) (leMap (leBind fun v2 => (leBind fun v3 => (leSome rfl))))
def zb_M (c : Cha) : Option (List Int × Unit) :=
  (bif decide (List.length (c.1) < lenMax) then loopL (fun i__ e__ s__ => zb_b0 (c.1) i__ e__ s__) (fun s__ => zb_f0 (c.1) s__) 0 (c.1) ([]) else none)
theorem zb_run (c : Cha) (y : List Int × Unit) (h : zb_M c = some y) : ∃ n, zb_m n c = some y :=
  ⟨big, LeF.top (show LeF some (zb_M c) (zb_m big c) from (fun (n : Nat) (hn : big ≤ n) => show LeF some (zb_M c) (zb_m n c) from (leGuard fun hx => by apply zb_m_w0_le n hn; exact hx)) big (Nat.le_refl _)) h⟩
def zb_e : Entry := { f := 86, args := zb_a, ress := zb_r, m := fun x => zb_M x.1 }
theorem zb_ok : FnOK Tryz.prog zb_e := fn_ok (g := zb_g) (fn := Tryz.f86) hmixed tabOk (eCons zL_ok (eCons zi_ok (eCons zB_ok (eCons zW_ok eNil)))) (by kernel_rfl) (by kernel_rfl) (by kernel_rfl) (fun x y h => let ⟨n, hn⟩ := zb_run x.1 y h; ⟨zb_an n, iNil, (zb_eq n x).trans hn⟩)
abbrev zu_a : Ty := .pair t9 .unit
abbrev zu_r : Ty := .pair t3 .unit
def zu_g : G := { T := T, E := [z0F_e], muts := [], fz := [] }
def zu_k : List (List Nat) := []
def zu_an (n : Nat) : Ann := { keep := zu_k, fuel := n, inl := [], deep := 0 }
def zu_m (n : Nat) (s : List UInt8) : Option (Int × Unit) :=
  (Option.bind (z0F_M s) fun (v0 : Bool × Unit) => (bif !v0.1 then some ((8 : Int), ()) else some ((0 : Int), ())))
theorem zu_eq (n : Nat) (x : zu_a.den) : runF zu_g (zu_an n) Tryz.f89 zu_a zu_r x = zu_m n x.1 := by kernel_rfl
def zu_M (s : List UInt8) : Option (Int × Unit) := zu_m 0 s
theorem zu_run (s : List UInt8) (y : Int × Unit) (h : zu_M s = some y) : ∃ n, zu_m n s = some y := ⟨0, h⟩
def zu_e : Entry := { f := 89, args := zu_a, ress := zu_r, m := fun x => zu_M x.1 }
theorem zu_ok : FnOK Tryz.prog zu_e := fn_ok (g := zu_g) (fn := Tryz.f89) hmixed tabOk (eCons z0F_ok eNil) (by kernel_rfl) (by kernel_rfl) (by kernel_rfl) (fun x y h => let ⟨n, hn⟩ := zu_run x.1 y h; ⟨zu_an n, iNil, (zu_eq n x).trans hn⟩)
abbrev zO_a : Ty := .pair t35 (.pair t3 .unit)
abbrev zO_r : Ty := .pair t29 .unit
def zO_g : G := { T := T, E := [z0b_e], muts := [], fz := [] }
def zO_k : List (List Nat) := []
def zO_an (n : Nat) : Ann := { keep := zO_k, fuel := n, inl := [], deep := 0 }
def zO_m (n : Nat) (c : Cha) (leaf : Int) : Option (Int × Unit) :=
  (bif decide (leaf < (0 : Int)) then some ((10 : Int), ()) else (bif decide (leaf ≥ (↑c.1.length : Int)) then some ((10 : Int), ()) else (Option.bind (idx c.1 leaf) fun (v2 : Sta) => some ((z0b (v2.2.2.1 != (-1 : Int)) (20 : Int)).1, ()))))
theorem zO_eq (n : Nat) (x : zO_a.den) : runF zO_g (zO_an n) Tryz.f101 zO_a zO_r x = zO_m n x.1 x.2.1 := by kernel_rfl
def zO_M (c : Cha) (leaf : Int) : Option (Int × Unit) := zO_m 0 c leaf
theorem zO_run (c : Cha) (leaf : Int) (y : Int × Unit) (h : zO_M c leaf = some y) : ∃ n, zO_m n c leaf = some y := ⟨0, h⟩
def zO_e : Entry := { f := 101, args := zO_a, ress := zO_r, m := fun x => zO_M x.1 x.2.1 }
theorem zO_ok : FnOK Tryz.prog zO_e := fn_ok (g := zO_g) (fn := Tryz.f101) hmixed tabOk (eCons z0b_ok eNil) (by kernel_rfl) (by kernel_rfl) (by kernel_rfl) (fun x y h => let ⟨n, hn⟩ := zO_run x.1 x.2.1 y h; ⟨zO_an n, iNil, (zO_eq n x).trans hn⟩)
abbrev z0L_a : Ty := .pair t3 (.pair t3 (.pair t3 .unit))
abbrev z0L_r : Ty := .pair t29 .unit
def z0L_g : G := { T := T, E := [z0b_e], muts := [], fz := [] }
def z0L_k : List (List Nat) := []
def z0L_an (n : Nat) : Ann := { keep := z0L_k, fuel := n, inl := [], deep := 0 }
def z0L_m (n : Nat) (n1 : Int) (least : Int) (most : Int) : Option (Int × Unit) :=
  (bif decide (n1 < least) then some ((z0b Bool.true (3 : Int)).1, ()) else some ((z0b (decide (n1 > most)) (3 : Int)).1, ()))
theorem z0L_eq (n : Nat) (x : z0L_a.den) : runF z0L_g (z0L_an n) Tryz.f108 z0L_a z0L_r x = z0L_m n x.1 x.2.1 x.2.2.1 := by kernel_rfl
def z0L (n1 : Int) (least : Int) (most : Int) : (Int × Unit) :=
  (bif decide (n1 < least) then ((z0b Bool.true (3 : Int)).1, ()) else ((z0b (decide (n1 > most)) (3 : Int)).1, ()))
abbrev z0L_M (n1 : Int) (least : Int) (most : Int) : Option (Int × Unit) := some (z0L n1 least most)
theorem z0L_run (n1 : Int) (least : Int) (most : Int) (y : Int × Unit) (h : z0L_M n1 least most = some y) : ∃ n, z0L_m n n1 least most = some y :=
  ⟨0, by rw [← h]; show z0L_m 0 n1 least most = some (z0L n1 least most); unfold z0L_m z0L; first | rfl | (simp only [cond_some]; done) | (simp only [cond_some]; rfl)⟩
def z0L_e : Entry := { f := 108, args := z0L_a, ress := z0L_r, m := fun x => z0L_M x.1 x.2.1 x.2.2.1 }
theorem z0L_ok : FnOK Tryz.prog z0L_e := fn_ok (g := z0L_g) (fn := Tryz.f108) hmixed tabOk (eCons z0b_ok eNil) (by kernel_rfl) (by kernel_rfl) (by kernel_rfl) (fun x y h => let ⟨n, hn⟩ := z0L_run x.1 x.2.1 x.2.2.1 y h; ⟨z0L_an n, iNil, (z0L_eq n x).trans hn⟩)
abbrev zw_a : Ty := .pair t112 (.pair t167 (.pair (.ref t35) .unit))
abbrev zw_r : Ty := .pair t4 .unit
def zw_g : G := { T := T, E := [z0K_e], muts := [], fz := [] }
def zw_k : List (List Nat) := []
def zw_an (n : Nat) : Ann := { keep := zw_k, fuel := n, inl := [], deep := 0 }
def zw_m (n : Nat) (x1 : Cas) (o : Int × Bool × Bool × Unit) (p2 : Cha) : Option (Bool × Unit) :=
  (bif bitsOp IntKind.i64 Go.BinOp.and x1.2.2.1 (1 : Int) != (0 : Int) then (bif !o.2.2.1 then (Option.bind (idx p2.1 o.1) fun (v0 : Sta) => some (v0.2.2.2.1, ())) else some (Bool.false, ())) else some (Bool.false, ()))
theorem zw_eq (n : Nat) (x : zw_a.den) : runF zw_g (zw_an n) Tryz.f118 zw_a zw_r x = zw_m n x.1 x.2.1 x.2.2.1 := by kernel_rfl
def zw_M (x1 : Cas) (o : Int × Bool × Bool × Unit) (p2 : Cha) : Option (Bool × Unit) := zw_m 0 x1 o p2
theorem zw_run (x1 : Cas) (o : Int × Bool × Bool × Unit) (p2 : Cha) (y : Bool × Unit) (h : zw_M x1 o p2 = some y) : ∃ n, zw_m n x1 o p2 = some y := ⟨0, h⟩
def zw_e : Entry := { f := 118, args := zw_a, ress := zw_r, m := fun x => zw_M x.1 x.2.1 x.2.2.1 }
theorem zw_ok : FnOK Tryz.prog zw_e := fn_ok (g := zw_g) (fn := Tryz.f118) hmixed tabOk (eCons z0K_ok eNil) (by kernel_rfl) (by kernel_rfl) (by kernel_rfl) (fun x y h => let ⟨n, hn⟩ := zw_run x.1 x.2.1 x.2.2.1 y h; ⟨zw_an n, iNil, (zw_eq n x).trans hn⟩)
abbrev zH_a : Ty := .pair t28 (.pair t3 .unit)
abbrev zH_r : Ty := .pair t4 .unit
def zH_g : G := { T := T, E := [zT_e], muts := [], fz := [] }
def zH_k : List (List Nat) := []
def zH_an (n : Nat) : Ann := { keep := zH_k, fuel := n, inl := [], deep := 0 }
def zH_m (n : Nat) (s : List Int) (v : Int) : Option (Bool × Unit) :=
  (Option.bind (zT_M s v) fun (v0 : Int × Unit) => some (decide (v0.1 ≥ (0 : Int)), ()))
theorem zH_eq (n : Nat) (x : zH_a.den) : runF zH_g (zH_an n) Tryz.f125 zH_a zH_r x = zH_m n x.1 x.2.1 := by kernel_rfl
def zH_M (s : List Int) (v : Int) : Option (Bool × Unit) := zH_m 0 s v
theorem zH_run (s : List Int) (v : Int) (y : Bool × Unit) (h : zH_M s v = some y) : ∃ n, zH_m n s v = some y := ⟨0, h⟩
def zH_e : Entry := { f := 125, args := zH_a, ress := zH_r, m := fun x => zH_M x.1 x.2.1 }
theorem zH_ok : FnOK Tryz.prog zH_e := fn_ok (g := zH_g) (fn := Tryz.f125) hmixed tabOk (eCons zT_ok eNil) (by kernel_rfl) (by kernel_rfl) (by kernel_rfl) (fun x y h => let ⟨n, hn⟩ := zH_run x.1 x.2.1 y h; ⟨zH_an n, iNil, (zH_eq n x).trans hn⟩)
abbrev zA_a : Ty := .pair t37 (.pair t9 .unit)
abbrev zA_r : Ty := .pair t4 .unit
def zA_g : G := { T := T, E := [zD_e], muts := [], fz := [] }
def zA_k : List (List Nat) := []
def zA_an (n : Nat) : Ann := { keep := zA_k, fuel := n, inl := [], deep := 0 }
def zA_m (n : Nat) (s : List (List UInt8)) (v : List UInt8) : Option (Bool × Unit) :=
  (Option.bind (zD_M s v) fun (v0 : Int × Unit) => some (decide (v0.1 ≥ (0 : Int)), ()))
theorem zA_eq (n : Nat) (x : zA_a.den) : runF zA_g (zA_an n) Tryz.f135 zA_a zA_r x = zA_m n x.1 x.2.1 := by kernel_rfl
def zA_M (s : List (List UInt8)) (v : List UInt8) : Option (Bool × Unit) := zA_m 0 s v
theorem zA_run (s : List (List UInt8)) (v : List UInt8) (y : Bool × Unit) (h : zA_M s v = some y) : ∃ n, zA_m n s v = some y := ⟨0, h⟩
def zA_e : Entry := { f := 135, args := zA_a, ress := zA_r, m := fun x => zA_M x.1 x.2.1 }
theorem zA_ok : FnOK Tryz.prog zA_e := fn_ok (g := zA_g) (fn := Tryz.f135) hmixed tabOk (eCons zD_ok eNil) (by kernel_rfl) (by kernel_rfl) (by kernel_rfl) (fun x y h => let ⟨n, hn⟩ := zA_run x.1 x.2.1 y h; ⟨zA_an n, iNil, (zA_eq n x).trans hn⟩)
abbrev zz_a : Ty := .pair t9 .unit
abbrev zz_r : Ty := .pair t29 .unit
def zz_g : G := { T := T, E := [z0D_e, z0b_e], muts := [], fz := [] }
def zz_k : List (List Nat) := []
def zz_an (n : Nat) : Ann := { keep := zz_k, fuel := n, inl := [], deep := 0 }
def zz_m (n : Nat) (s : List UInt8) : Option (Int × Unit) :=
  (Option.bind (z0D_M s) fun (v0 : Bool × Unit) => some ((z0b (!v0.1) (8 : Int)).1, ()))
theorem zz_eq (n : Nat) (x : zz_a.den) : runF zz_g (zz_an n) Tryz.f137 zz_a zz_r x = zz_m n x.1 := by kernel_rfl
def zz_M (s : List UInt8) : Option (Int × Unit) := zz_m 0 s
theorem zz_run (s : List UInt8) (y : Int × Unit) (h : zz_M s = some y) : ∃ n, zz_m n s = some y := ⟨0, h⟩
def zz_e : Entry := { f := 137, args := zz_a, ress := zz_r, m := fun x => zz_M x.1 }
theorem zz_ok : FnOK Tryz.prog zz_e := fn_ok (g := zz_g) (fn := Tryz.f137) hmixed tabOk (eCons z0D_ok (eCons z0b_ok eNil)) (by kernel_rfl) (by kernel_rfl) (by kernel_rfl) (fun x y h => let ⟨n, hn⟩ := zz_run x.1 y h; ⟨zz_an n, iNil, (zz_eq n x).trans hn⟩)
abbrev zV_a : Ty := .pair t148 (.pair t3 .unit)
abbrev zV_r : Ty := .pair t4 .unit
def zV_g : G := { T := T, E := [z0K_e], muts := [], fz := [] }
def zV_k : List (List Nat) := []
def zV_an (n : Nat) : Ann := { keep := zV_k, fuel := n, inl := [], deep := 0 }
def zV_m (n : Nat) (t : Tra) (conditions : Int) : Option (Bool × Unit) :=
  some (eqV (Ty.arr (4 : Nat) Ty.bool) (z0K (bitsOp IntKind.i64 Go.BinOp.and conditions t.2.2.2.1)).1 (z0K t.2.2.2.2.1).1, ())
theorem zV_eq (n : Nat) (x : zV_a.den) : runF zV_g (zV_an n) Tryz.f141 zV_a zV_r x = zV_m n x.1 x.2.1 := by kernel_rfl
def zV (t : Tra) (conditions : Int) : (Bool × Unit) :=
  (eqV (Ty.arr (4 : Nat) Ty.bool) (z0K (bitsOp IntKind.i64 Go.BinOp.and conditions t.2.2.2.1)).1 (z0K t.2.2.2.2.1).1, ())
abbrev zV_M (t : Tra) (conditions : Int) : Option (Bool × Unit) := some (zV t conditions)
theorem zV_run (t : Tra) (conditions : Int) (y : Bool × Unit) (h : zV_M t conditions = some y) : ∃ n, zV_m n t conditions = some y :=
  ⟨0, by rw [← h]; show zV_m 0 t conditions = some (zV t conditions); unfold zV_m zV; first | rfl | (simp only [cond_some]; done) | (simp only [cond_some]; rfl)⟩
def zV_e : Entry := { f := 141, args := zV_a, ress := zV_r, m := fun x => zV_M x.1 x.2.1 }
theorem zV_ok : FnOK Tryz.prog zV_e := fn_ok (g := zV_g) (fn := Tryz.f141) hmixed tabOk (eCons z0K_ok eNil) (by kernel_rfl) (by kernel_rfl) (by kernel_rfl) (fun x y h => let ⟨n, hn⟩ := zV_run x.1 x.2.1 y h; ⟨zV_an n, iNil, (zV_eq n x).trans hn⟩)
abbrev zC_a : Ty := .pair t28 (.pair t181 .unit)
abbrev zC_r : Ty := .pair t4 .unit
def zC_g : G := { T := T, E := [zG_e], muts := [], fz := [] }
def zC_k : List (List Nat) := []
def zC_an (n : Nat) : Ann := { keep := zC_k, fuel := n, inl := [], deep := 0 }
def zC_m (n : Nat) (s : List Int) (f : Int × Unit → Option (Bool × Unit)) : Option (Bool × Unit) :=
  (Option.bind (zG_M s f) fun (v0 : Int × Unit) => some (decide (v0.1 ≥ (0 : Int)), ()))
theorem zC_eq (n : Nat) (x : zC_a.den) : runF zC_g (zC_an n) Tryz.f149 zC_a zC_r x = zC_m n x.1 x.2.1 := by kernel_rfl
def zC_M (s : List Int) (f : Int × Unit → Option (Bool × Unit)) : Option (Bool × Unit) := zC_m 0 s f
theorem zC_run (s : List Int) (f : Int × Unit → Option (Bool × Unit)) (y : Bool × Unit) (h : zC_M s f = some y) : ∃ n, zC_m n s f = some y := ⟨0, h⟩
def zC_e : Entry := { f := 149, args := zC_a, ress := zC_r, m := fun x => zC_M x.1 x.2.1 }
theorem zC_ok : FnOK Tryz.prog zC_e := fn_ok (g := zC_g) (fn := Tryz.f149) hmixed tabOk (eCons zG_ok eNil) (by kernel_rfl) (by kernel_rfl) (by kernel_rfl) (fun x y h => let ⟨n, hn⟩ := zC_run x.1 x.2.1 y h; ⟨zC_an n, iNil, (zC_eq n x).trans hn⟩)
abbrev z0R_a : Ty := .unit
abbrev z0R_r : Ty := .pair t238 .unit
def z0R_g : G := { T := T, E := [z08_e, z09_e, z0A_e, z0B_e, z0C_e, zg_e], muts := [], fz := [] }
def z0R_k : List (List Nat) := []
def z0R_an (n : Nat) : Ann := { keep := z0R_k, fuel := n, inl := [], deep := 0 }
def z0R_m (n : Nat)  : Option (List (List UInt8 × (Fai × Unit → Option (Fai × Unit)) × (Fai × Int × (List UInt8 × Int × Unit) × Unit → Option ((List UInt8 × Int × Unit) × Bool × Unit)) × Unit) × Unit) :=
  some ([([(110 : UInt8), (111 : UInt8), (110 : UInt8), (101 : UInt8)], fun (x : Fai × Unit) => z08_M x.1, fun (x : Fai × Int × (List UInt8 × Int × Unit) × Unit) => z09_M x.1 x.2.1 x.2.2.1, ()), ([(108 : UInt8), (111 : UInt8), (115 : UInt8), (116 : UInt8)], fun (x : Fai × Unit) => z0A_M x.1, fun (x : Fai × Int × (List UInt8 × Int × Unit) × Unit) => z0B_M x.1 x.2.1 x.2.2.1, ()), ([(115 : UInt8), (116 : UInt8), (117 : UInt8), (99 : UInt8), (107 : UInt8)], fun (x : Fai × Unit) => z0C_M x.1, fun (x : Fai × Int × (List UInt8 × Int × Unit) × Unit) => zg_M x.1 x.2.1 x.2.2.1, ())], ())
theorem z0R_eq (n : Nat) (x : z0R_a.den) : runF z0R_g (z0R_an n) Tryz.f156 z0R_a z0R_r x = z0R_m n := by kernel_rfl
def z0R  : (List (List UInt8 × (Fai × Unit → Option (Fai × Unit)) × (Fai × Int × (List UInt8 × Int × Unit) × Unit → Option ((List UInt8 × Int × Unit) × Bool × Unit)) × Unit) × Unit) :=
  ([([(110 : UInt8), (111 : UInt8), (110 : UInt8), (101 : UInt8)], fun (x : Fai × Unit) => z08_M x.1, fun (x : Fai × Int × (List UInt8 × Int × Unit) × Unit) => z09_M x.1 x.2.1 x.2.2.1, ()), ([(108 : UInt8), (111 : UInt8), (115 : UInt8), (116 : UInt8)], fun (x : Fai × Unit) => z0A_M x.1, fun (x : Fai × Int × (List UInt8 × Int × Unit) × Unit) => z0B_M x.1 x.2.1 x.2.2.1, ()), ([(115 : UInt8), (116 : UInt8), (117 : UInt8), (99 : UInt8), (107 : UInt8)], fun (x : Fai × Unit) => z0C_M x.1, fun (x : Fai × Int × (List UInt8 × Int × Unit) × Unit) => zg_M x.1 x.2.1 x.2.2.1, ())], ())
abbrev z0R_M  : Option (List (List UInt8 × (Fai × Unit → Option (Fai × Unit)) × (Fai × Int × (List UInt8 × Int × Unit) × Unit → Option ((List UInt8 × Int × Unit) × Bool × Unit)) × Unit) × Unit) := some (z0R)
theorem z0R_run  (y : List (List UInt8 × (Fai × Unit → Option (Fai × Unit)) × (Fai × Int × (List UInt8 × Int × Unit) × Unit → Option ((List UInt8 × Int × Unit) × Bool × Unit)) × Unit) × Unit) (h : z0R_M = some y) : ∃ n, z0R_m n = some y :=
  ⟨0, by rw [← h]; show z0R_m 0 = some (z0R); unfold z0R_m z0R; first | rfl | (simp only [cond_some]; done) | (simp only [cond_some]; rfl)⟩
def z0R_e : Entry := { f := 156, args := z0R_a, ress := z0R_r, m := fun x => z0R_M }
theorem z0R_ok : FnOK Tryz.prog z0R_e := fn_ok (g := z0R_g) (fn := Tryz.f156) hmixed tabOk (eCons z08_ok (eCons z09_ok (eCons z0A_ok (eCons z0B_ok (eCons z0C_ok (eCons zg_ok eNil)))))) (by kernel_rfl) (by kernel_rfl) (by kernel_rfl) (fun x y h => let ⟨n, hn⟩ := z0R_run y h; ⟨z0R_an n, iNil, (z0R_eq n x).trans hn⟩)
end
end Go.Tw
end
section
set_option linter.all false
set_option maxRecDepth 1000000
namespace Go.Tw
open Go.Vx Go.Vx.B Go.Proofs
noncomputable section
abbrev zX_a : Ty := .pair t67 .unit
abbrev zX_r : Ty := .pair t3 .unit
def zX_g : G := { T := T, E := [zo_e, zu_e, z0N_e], muts := [], fz := [] }
def zX_k : List (List Nat) := [[0, 3], [0, 3, 5]]
def zX_an (n : Nat) : Ann := { keep := zX_k, fuel := n, inl := [], deep := 0 }
def zX_m_l6 (n : Nat) (r0 : List Cmd → Int → Option (Int × Unit)) (r6 : List Cmd → Int → Int → Option (Int × Unit)) (l0_6 : List Cmd) (i3_6 : Int) (k5_6 : Int) : Option (Int × Unit) :=
  (bif decide (k5_6 < i3_6) then (Option.bind (idx l0_6 k5_6) fun (v7 : Cmd) => (Option.bind (idx l0_6 i3_6) fun (v8 : Cmd) => (bif v7.1 == v8.1 then (Option.bind (idx l0_6 k5_6) fun (v9 : Cmd) => (Option.bind (idx l0_6 i3_6) fun (v10 : Cmd) => (bif !v9.2.2.1 == v10.2.2.1 then some ((30 : Int), ()) else r6 l0_6 i3_6 (IntKind.i64.wrap (k5_6 + (1 : Int)))))) else r6 l0_6 i3_6 (IntKind.i64.wrap (k5_6 + (1 : Int)))))) else r0 l0_6 (IntKind.i64.wrap (i3_6 + (1 : Int))))
def zX_m_w6 (n : Nat) (r0 : List Cmd → Int → Option (Int × Unit)) (k : Nat) (l0_6 : List Cmd) (i3_6 : Int) (k5_6 : Int) : Option (Int × Unit) :=
  iter (fun r y => zX_m_l6 n r0 (fun l0_6 i3_6 k5_6 => r ((l0_6, (i3_6, (k5_6, ()))), ((), ()))) y.1.1 y.1.2.1 y.1.2.2.1) k ((l0_6, (i3_6, (k5_6, ()))), ((), ()))
def zX_m_l0 (n : Nat) (r0 : List Cmd → Int → Option (Int × Unit)) (l0_0 : List Cmd) (i3_0 : Int) : Option (Int × Unit) :=
  (bif decide (i3_0 < (↑l0_0.length : Int)) then (Option.bind (idx l0_0 i3_0) fun (v1 : Cmd) => (Option.bind (idx l0_0 i3_0) fun (v2 : Cmd) => (Option.bind (idx l0_0 i3_0) fun (v3 : Cmd) => (Option.bind (zu_M v3.2.2.1) fun (v4 : Int × Unit) => (Option.bind (z0N_M [(zo v1.1 (1 : Int) (999999999 : Int)).1, (zo v2.2.1 (0 : Int) (1 : Int)).1, v4.1]) fun (v5 : Int × Unit) => (bif v5.1 != (0 : Int) then some (v5.1, ()) else (zX_m_w6 n r0 n (l0_0) (i3_0) ((0 : Int))))))))) else some ((0 : Int), ()))
def zX_m_w0 (n : Nat)  (k : Nat) (l0_0 : List Cmd) (i3_0 : Int) : Option (Int × Unit) :=
  iter (fun r y => zX_m_l0 n (fun l0_0 i3_0 => r ((l0_0, (i3_0, ())), ((), ()))) y.1.1 y.1.2.1) k ((l0_0, (i3_0, ())), ((), ()))
def zX_m (n : Nat) (l : List Cmd) : Option (Int × Unit) :=
  (bif decide ((↑l.length : Int) > (256 : Int)) then some ((5 : Int), ()) else (zX_m_w0 n n (l) ((0 : Int))))
theorem zX_eq (n : Nat) (x : zX_a.den) : runF zX_g (zX_an n) Tryz.f42 zX_a zX_r x = zX_m n x.1 := by kernel_rfl
def zX_b6 (l0_6 : List Cmd) (i3_6 : Int) (k5_6 : Int) : Option (((Int × Unit) ⊕ Unit) ⊕ Unit) :=
  (Option.bind (idx l0_6 k5_6) fun (v7 : Cmd) => (Option.bind (idx l0_6 i3_6) fun (v8 : Cmd) => (bif v7.1 == v8.1 then (Option.bind (idx l0_6 k5_6) fun (v9 : Cmd) => (Option.bind (idx l0_6 i3_6) fun (v10 : Cmd) => (bif !v9.2.2.1 == v10.2.2.1 then (some (Sum.inl (Sum.inl (((30 : Int), ()))))) else (some (Sum.inr ()))))) else (some (Sum.inr ())))))
def zX_f6 (l0_6 : List Cmd) (i3_6 : Int) : Option ((Int × Unit) ⊕ Unit) :=
  (some (Sum.inr ()))
theorem zX_m_w6_le (n : Nat) (hn : big ≤ n)  (r0 : List Cmd → Int → Option (Int × Unit)) (l0_6 : List Cmd) (i3_6 : Int) (hx : (i3_6) ≤ (9223372036854775807 : Int)) : LeF (elim some fun (s__ : Unit) => r0 l0_6 (IntKind.i64.wrap (i3_6 + 1))) (loopN (fun i__ s__ => zX_b6 l0_6 i3_6 i__) (fun s__ => zX_f6 l0_6 i3_6) ((i3_6) - 0).toNat 0 ()) (zX_m_w6 n r0 n l0_6 i3_6 0) := by
  refine loopN_le (f := (elim some fun (s__ : Unit) => r0 l0_6 (IntKind.i64.wrap (i3_6 + 1)))) (W := fun k__ i__ s__ => zX_m_w6 n r0 k__ l0_6 i3_6 i__) (body := (fun i__ s__ => zX_b6 l0_6 i3_6 i__)) (fin := (fun s__ => zX_f6 l0_6 i3_6)) (fun k__ i__ s__ => ?_) hx () n 0 (by decide) (by unfold big at hn; omega)
  show LeF _ _ (zX_m_l6 n r0 (zX_m_w6 n r0 k__) l0_6 i3_6 i__)
  exact leCond (leBind fun v7 => (leBind fun v8 => (leCond (leBind fun v9 => (leBind fun v10 => (leCond (leSome rfl) (leSome rfl)))) (leSome rfl)))) (leMap (leSome rfl))
def zX_b0 (l0_0 : List Cmd) (i3_0 : Int) (v1 : Cmd) : Option ((Int × Unit) ⊕ Unit) :=
  (Option.bind (idx l0_0 i3_0) fun (v2 : Cmd) => (Option.bind (idx l0_0 i3_0) fun (v3 : Cmd) => (Option.bind (zu_M v3.2.2.1) fun (v4 : Int × Unit) => (Option.bind (z0N_M [(zo v1.1 (1 : Int) (999999999 : Int)).1, (zo v2.2.1 (0 : Int) (1 : Int)).1, v4.1]) fun (v5 : Int × Unit) => (bif v5.1 != (0 : Int) then (some (Sum.inl ((v5.1, ())))) else (bif decide ((i3_0) ≤ (9223372036854775807 : Int)) then loopN (fun i__ s__ => zX_b6 (l0_0) (i3_0) i__) (fun s__ => zX_f6 (l0_0) (i3_0)) ((i3_0) - 0).toNat 0 () else none))))))
def zX_f0 (l0_0 : List Cmd) : Option (Int × Unit) :=
  (some (((0 : Int), ())))
theorem zX_m_w0_le (n : Nat) (hn : big ≤ n)  (l0_0 : List Cmd) (hx : List.length (l0_0) < lenMax) : LeF some (loopL (fun i__ e__ s__ => zX_b0 l0_0 i__ e__) (fun s__ => zX_f0 l0_0) 0 (l0_0) ()) (zX_m_w0 n n l0_0 0) := by
  refine loopL_le (f := some) (W := fun k__ i__ s__ => zX_m_w0 n k__ l0_0 i__) (body := (fun i__ e__ s__ => zX_b0 l0_0 i__ e__)) (fin := (fun s__ => zX_f0 l0_0)) (fun k__ i__ s__ => ?_) hx () n (by unfold big at hn; unfold lenMax at hx; omega)
  show LeF _ _ (zX_m_l0 n (zX_m_w0 n k__) l0_0 i__)
  exact leCond (leBind fun v1 => (leBind fun v2 => (leBind fun v3 => (leBind fun v4 => (leBind fun v5 => (leCond (leSome rfl) (leGuard fun hx => by apply zX_m_w6_le n hn; exact hx))))))) (leMap (leSome rfl))
def zX_M (l : List Cmd) : Option (Int × Unit) :=
  (bif decide ((↑l.length : Int) > (256 : Int)) then (some (((5 : Int), ()))) else (bif decide (List.length (l) < lenMax) then loopL (fun i__ e__ s__ => zX_b0 (l) i__ e__) (fun s__ => zX_f0 (l)) 0 (l) () else none))
theorem zX_run (l : List Cmd) (y : Int × Unit) (h : zX_M l = some y) : ∃ n, zX_m n l = some y :=
  ⟨big, LeF.top (show LeF some (zX_M l) (zX_m big l) from (fun (n : Nat) (hn : big ≤ n) => show LeF some (zX_M l) (zX_m n l) from (leCond (leSome rfl) (leGuard fun hx => by apply zX_m_w0_le n hn; exact hx))) big (Nat.le_refl _)) h⟩
def zX_e : Entry := { f := 42, args := zX_a, ress := zX_r, m := fun x => zX_M x.1 }
theorem zX_ok : FnOK Tryz.prog zX_e := fn_ok (g := zX_g) (fn := Tryz.f42) hmixed tabOk (eCons zo_ok (eCons zu_ok (eCons z0N_ok eNil))) (by kernel_rfl) (by kernel_rfl) (by kernel_rfl) (fun x y h => let ⟨n, hn⟩ := zX_run x.1 y h; ⟨zX_an n, iNil, (zX_eq n x).trans hn⟩)
abbrev za_a : Ty := .pair t35 .unit
abbrev za_r : Ty := .pair t37 .unit
def za_g : G := { T := T, E := [zA_e], muts := [3], fz := [] }
def za_k : List (List Nat) := [[3, 7, 8, 9]]
def za_an (n : Nat) : Ann := { keep := za_k, fuel := n, inl := [], deep := 0 }
def za_m_l0 (n : Nat) (r0 : List Tra → Int → Int → List (List UInt8) → Option (List (List UInt8) × Unit)) (t7_0 : List Tra) (t8_0 : Int) (t9_0 : Int) (c0_0 : List (List UInt8)) : Option (List (List UInt8) × Unit) :=
  (bif decide (t9_0 < t8_0) then (Option.bind (idx t7_0 t9_0) fun (v1 : Tra) => (Option.bind (zA_M c0_0 v1.2.1) fun (v2 : Bool × Unit) => (bif !v2.1 then (bif decide (c0_0.length + (1 : Nat) ≤ memMax) then r0 t7_0 t8_0 (IntKind.i64.wrap (t9_0 + (1 : Int))) (c0_0 ++ [v1.2.1]) else none) else r0 t7_0 t8_0 (IntKind.i64.wrap (t9_0 + (1 : Int))) c0_0))) else some (c0_0, ()))
def za_m_w0 (n : Nat)  (k : Nat) (t7_0 : List Tra) (t8_0 : Int) (t9_0 : Int) (c0_0 : List (List UInt8)) : Option (List (List UInt8) × Unit) :=
  iter (fun r y => za_m_l0 n (fun t7_0 t8_0 t9_0 c0_0 => r ((t7_0, (t8_0, (t9_0, ()))), ((c0_0, ()), ()))) y.1.1 y.1.2.1 y.1.2.2.1 y.2.1.1) k ((t7_0, (t8_0, (t9_0, ()))), ((c0_0, ()), ()))
def za_m (n : Nat) (c : Cha) : Option (List (List UInt8) × Unit) :=
  (za_m_w0 n n (c.2.1) ((↑c.2.1.length : Int)) ((0 : Int)) ([]))
theorem za_eq (n : Nat) (x : za_a.den) : runF za_g (za_an n) Tryz.f87 za_a za_r x = za_m n x.1 := by kernel_rfl
def za_b0 (t7_0 : List Tra) (t9_0 : Int) (v1 : Tra) (c0_0 : List (List UInt8)) : Option ((List (List UInt8) × Unit) ⊕ (List (List UInt8))) :=
  (Option.bind (zA_M c0_0 v1.2.1) fun (v2 : Bool × Unit) => (bif !v2.1 then (bif decide (c0_0.length + (1 : Nat) ≤ memMax) then (some (Sum.inr (c0_0 ++ [v1.2.1]))) else none) else (some (Sum.inr (c0_0)))))
def za_f0 (t7_0 : List Tra) (c0_0 : List (List UInt8)) : Option (List (List UInt8) × Unit) :=
  (some ((c0_0, ())))
theorem za_m_w0_le (n : Nat) (hn : big ≤ n)  (t7_0 : List Tra) (c0_0 : List (List UInt8)) (hx : List.length (t7_0) < lenMax) : LeF some (loopL (fun i__ e__ s__ => za_b0 t7_0 i__ e__ s__) (fun s__ => za_f0 t7_0 s__) 0 (t7_0) c0_0) (za_m_w0 n n t7_0 (List.length (t7_0) : Int) 0 c0_0) := by
  refine loopL_le (f := some) (W := fun k__ i__ s__ => za_m_w0 n k__ t7_0 (List.length (t7_0) : Int) i__ s__) (body := (fun i__ e__ s__ => za_b0 t7_0 i__ e__ s__)) (fin := (fun s__ => za_f0 t7_0 s__)) (fun k__ i__ s__ => ?_) hx c0_0 n (by unfold big at hn; unfold lenMax at hx; omega)
  show LeF _ _ (za_m_l0 n (za_m_w0 n k__) t7_0 (List.length (t7_0) : Int) i__ s__)
  exact leCond (leBind fun v1 => (leBind fun v2 => (leCond (leCond (leSome rfl) leNone) (leSome rfl)))) (leMap (leSome rfl))
def za_M (c : Cha) : Option (List (List UInt8) × Unit) :=
  (bif decide (List.length (c.2.1) < lenMax) then loopL (fun i__ e__ s__ => za_b0 (c.2.1) i__ e__ s__) (fun s__ => za_f0 (c.2.1) s__) 0 (c.2.1) ([]) else none)
theorem za_run (c : Cha) (y : List (List UInt8) × Unit) (h : za_M c = some y) : ∃ n, za_m n c = some y :=
  ⟨big, LeF.top (show LeF some (za_M c) (za_m big c) from (fun (n : Nat) (hn : big ≤ n) => show LeF some (za_M c) (za_m n c) from (leGuard fun hx => by apply za_m_w0_le n hn; exact hx)) big (Nat.le_refl _)) h⟩
def za_e : Entry := { f := 87, args := za_a, ress := za_r, m := fun x => za_M x.1 }
theorem za_ok : FnOK Tryz.prog za_e := fn_ok (g := za_g) (fn := Tryz.f87) hmixed tabOk (eCons zA_ok eNil) (by kernel_rfl) (by kernel_rfl) (by kernel_rfl) (fun x y h => let ⟨n, hn⟩ := za_run x.1 y h; ⟨za_an n, iNil, (za_eq n x).trans hn⟩)
abbrev zJ_a : Ty := .pair t35 .unit
abbrev zJ_r : Ty := .pair t29 .unit
def zJ_g : G := { T := T, E := [zz_e, z0b_e, z0Q_e, zH_e], muts := [12, 13], fz := [13] }
def zJ_k : List (List Nat) := [[1, 3, 4, 15, 16, 17], [4, 60, 61, 62]]
def zJ_an (n : Nat) : Ann := { keep := zJ_k, fuel := n, inl := [], deep := 0 }
def zJ_m_j19 (n : Nat) (r0 : Cha → List Sta → Int → Int → List (List UInt8 × Bool) → List (Int × List Int) → Option (Int × Unit)) (c1_0 : Cha) (t15_0 : List Sta) (t16_0 : Int) (t17_0 : Int) (m0_0 : List (List UInt8 × Bool)) (m1_0 : List (Int × List Int)) (v1 : Sta) : Option (Int × Unit) :=
  (bif eqKey (Ty.int IntKind.i64) v1.2.1 v1.2.1 then (bif decide (((mapGet (Ty.int IntKind.i64) (Ty.int IntKind.i64).slice m1_0 v1.2.1).getD []).length + (1 : Nat) ≤ memMax) then (bif eqKey (Ty.int IntKind.i64) v1.2.1 v1.2.1 then r0 c1_0 t15_0 t16_0 (IntKind.i64.wrap (t17_0 + (1 : Int))) (mapPut Ty.str Ty.bool m0_0 v1.1 Bool.true) (mapPut (Ty.int IntKind.i64) (Ty.int IntKind.i64).slice m1_0 v1.2.1 ((mapGet (Ty.int IntKind.i64) (Ty.int IntKind.i64).slice m1_0 v1.2.1).getD [] ++ [t17_0])) else none) else none) else none)
def zJ_m_l20 (n : Nat) (r20 : List (Int × List Int) → List Sta → Int → Int → Option (Int × Unit)) (children4_20 : List (Int × List Int)) (t60_20 : List Sta) (t61_20 : Int) (t62_20 : Int) : Option (Int × Unit) :=
  (bif decide (t62_20 < t61_20) then (Option.bind (idx t60_20 t62_20) fun (v21 : Sta) => (bif (↑((mapGet (Ty.int IntKind.i64) (Ty.int IntKind.i64).slice children4_20 t62_20).getD []).length : Int) == (0 : Int) then (bif v21.2.2.1 != (-1 : Int) then some ((1 : Int), ()) else (bif !(↑((mapGet (Ty.int IntKind.i64) (Ty.int IntKind.i64).slice children4_20 t62_20).getD []).length : Int) == (0 : Int) then (bif v21.2.2.2.1 then some ((1 : Int), ()) else (Option.bind (zH_M ((mapGet (Ty.int IntKind.i64) (Ty.int IntKind.i64).slice children4_20 t62_20).getD []) v21.2.2.1) fun (v22 : Bool × Unit) => (bif !v22.1 then some ((1 : Int), ()) else r20 children4_20 t60_20 t61_20 (IntKind.i64.wrap (t62_20 + (1 : Int)))))) else r20 children4_20 t60_20 t61_20 (IntKind.i64.wrap (t62_20 + (1 : Int))))) else (bif !(↑((mapGet (Ty.int IntKind.i64) (Ty.int IntKind.i64).slice children4_20 t62_20).getD []).length : Int) == (0 : Int) then (bif v21.2.2.2.1 then some ((1 : Int), ()) else (Option.bind (zH_M ((mapGet (Ty.int IntKind.i64) (Ty.int IntKind.i64).slice children4_20 t62_20).getD []) v21.2.2.1) fun (v23 : Bool × Unit) => (bif !v23.1 then some ((1 : Int), ()) else r20 children4_20 t60_20 t61_20 (IntKind.i64.wrap (t62_20 + (1 : Int)))))) else r20 children4_20 t60_20 t61_20 (IntKind.i64.wrap (t62_20 + (1 : Int)))))) else some ((0 : Int), ()))
def zJ_m_w20 (n : Nat)  (k : Nat) (children4_20 : List (Int × List Int)) (t60_20 : List Sta) (t61_20 : Int) (t62_20 : Int) : Option (Int × Unit) :=
  iter (fun r y => zJ_m_l20 n (fun children4_20 t60_20 t61_20 t62_20 => r ((children4_20, (t60_20, (t61_20, (t62_20, ())))), ((), ()))) y.1.1 y.1.2.1 y.1.2.2.1 y.1.2.2.2.1) k ((children4_20, (t60_20, (t61_20, (t62_20, ())))), ((), ()))
def zJ_m_l0 (n : Nat) (r0 : Cha → List Sta → Int → Int → List (List UInt8 × Bool) → List (Int × List Int) → Option (Int × Unit)) (c1_0 : Cha) (t15_0 : List Sta) (t16_0 : Int) (t17_0 : Int) (m0_0 : List (List UInt8 × Bool)) (m1_0 : List (Int × List Int)) : Option (Int × Unit) :=
  (bif decide (t17_0 < t16_0) then (Option.bind (idx t15_0 t17_0) fun (v1 : Sta) => (Option.bind (zz_M v1.1) fun (v2 : Int × Unit) => (bif decide (v1.2.1 < (-1 : Int)) then (Option.bind (z0Q_M [v2.1, (z0b ((mapGet Ty.str Ty.bool m0_0 v1.1).getD Bool.false) (9 : Int)).1, (z0b Bool.true (11 : Int)).1]) fun (v3 : Int × Unit) => (bif v3.1 != (0 : Int) then some (v3.1, ()) else (zJ_m_j19 n r0 c1_0 t15_0 t16_0 t17_0 m0_0 m1_0 v1))) else (Option.bind (z0Q_M [v2.1, (z0b ((mapGet Ty.str Ty.bool m0_0 v1.1).getD Bool.false) (9 : Int)).1, (z0b (decide (v1.2.1 ≥ t17_0)) (11 : Int)).1]) fun (v4 : Int × Unit) => (bif v4.1 != (0 : Int) then some (v4.1, ()) else (zJ_m_j19 n r0 c1_0 t15_0 t16_0 t17_0 m0_0 m1_0 v1)))))) else (zJ_m_w20 n n (m1_0) (c1_0.1) ((↑c1_0.1.length : Int)) ((0 : Int))))
def zJ_m_w0 (n : Nat)  (k : Nat) (c1_0 : Cha) (t15_0 : List Sta) (t16_0 : Int) (t17_0 : Int) (m0_0 : List (List UInt8 × Bool)) (m1_0 : List (Int × List Int)) : Option (Int × Unit) :=
  iter (fun r y => zJ_m_l0 n (fun c1_0 t15_0 t16_0 t17_0 m0_0 m1_0 => r ((c1_0, (t15_0, (t16_0, (t17_0, ())))), ((m0_0, (m1_0, ())), ()))) y.1.1 y.1.2.1 y.1.2.2.1 y.1.2.2.2.1 y.2.1.1 y.2.1.2.1) k ((c1_0, (t15_0, (t16_0, (t17_0, ())))), ((m0_0, (m1_0, ())), ()))
def zJ_m (n : Nat) (c : Cha) : Option (Int × Unit) :=
  (zJ_m_w0 n n (c) (c.1) ((↑c.1.length : Int)) ((0 : Int)) ([]) ([]))
theorem zJ_eq (n : Nat) (x : zJ_a.den) : runF zJ_g (zJ_an n) Tryz.f97 zJ_a zJ_r x = zJ_m n x.1 := by kernel_rfl
def zJ_s19 (c1_0 : Cha) (t15_0 : List Sta) (t17_0 : Int) (m0_0 : List (List UInt8 × Bool)) (m1_0 : List (Int × List Int)) (v1 : Sta) : Option ((Int × Unit) ⊕ (List (List UInt8 × Bool) × List (Int × List Int))) :=
  (bif eqKey (Ty.int IntKind.i64) v1.2.1 v1.2.1 then (bif decide (((mapGet (Ty.int IntKind.i64) (Ty.int IntKind.i64).slice m1_0 v1.2.1).getD []).length + (1 : Nat) ≤ memMax) then (bif eqKey (Ty.int IntKind.i64) v1.2.1 v1.2.1 then (some (Sum.inr ((mapPut Ty.str Ty.bool m0_0 v1.1 Bool.true), (mapPut (Ty.int IntKind.i64) (Ty.int IntKind.i64).slice m1_0 v1.2.1 ((mapGet (Ty.int IntKind.i64) (Ty.int IntKind.i64).slice m1_0 v1.2.1).getD [] ++ [t17_0]))))) else none) else none) else none)
theorem gate_Chart_checkStates_s19_le (n : Nat) (hn : big ≤ n)  (r0 : Cha → List Sta → Int → Int → List (List UInt8 × Bool) → List (Int × List Int) → Option (Int × Unit)) (c1_0 : Cha) (t15_0 : List Sta) (t17_0 : Int) (m0_0 : List (List UInt8 × Bool)) (m1_0 : List (Int × List Int)) (v1 : Sta) : LeF (elim some fun (s__ : (List (List UInt8 × Bool) × List (Int × List Int))) => r0 c1_0 t15_0 (List.length (t15_0) : Int) (IntKind.i64.wrap (t17_0 + 1)) s__.1 s__.2) (zJ_s19 c1_0 t15_0 t17_0 m0_0 m1_0 v1) (zJ_m_j19 n r0 c1_0 t15_0 (List.length (t15_0) : Int) t17_0 m0_0 m1_0 v1) :=
  (leCond (leCond (leCond (leSome rfl) leNone) leNone) leNone)
def zJ_b20 (children4_20 : List (Int × List Int)) (t60_20 : List Sta) (t62_20 : Int) (v21 : Sta) : Option ((Int × Unit) ⊕ Unit) :=
  (bif (↑((mapGet (Ty.int IntKind.i64) (Ty.int IntKind.i64).slice children4_20 t62_20).getD []).length : Int) == (0 : Int) then (bif v21.2.2.1 != (-1 : Int) then (some (Sum.inl (((1 : Int), ())))) else (bif !(↑((mapGet (Ty.int IntKind.i64) (Ty.int IntKind.i64).slice children4_20 t62_20).getD []).length : Int) == (0 : Int) then (bif v21.2.2.2.1 then (some (Sum.inl (((1 : Int), ())))) else (Option.bind (zH_M ((mapGet (Ty.int IntKind.i64) (Ty.int IntKind.i64).slice children4_20 t62_20).getD []) v21.2.2.1) fun (v22 : Bool × Unit) => (bif !v22.1 then (some (Sum.inl (((1 : Int), ())))) else (some (Sum.inr ()))))) else (some (Sum.inr ())))) else (bif !(↑((mapGet (Ty.int IntKind.i64) (Ty.int IntKind.i64).slice children4_20 t62_20).getD []).length : Int) == (0 : Int) then (bif v21.2.2.2.1 then (some (Sum.inl (((1 : Int), ())))) else (Option.bind (zH_M ((mapGet (Ty.int IntKind.i64) (Ty.int IntKind.i64).slice children4_20 t62_20).getD []) v21.2.2.1) fun (v23 : Bool × Unit) => (bif !v23.1 then (some (Sum.inl (((1 : Int), ())))) else (some (Sum.inr ()))))) else (some (Sum.inr ()))))
def zJ_f20 (children4_20 : List (Int × List Int)) (t60_20 : List Sta) : Option (Int × Unit) :=
  (some (((0 : Int), ())))
theorem zJ_m_w20_le (n : Nat) (hn : big ≤ n)  (children4_20 : List (Int × List Int)) (t60_20 : List Sta) (hx : List.length (t60_20) < lenMax) : LeF some (loopL (fun i__ e__ s__ => zJ_b20 children4_20 t60_20 i__ e__) (fun s__ => zJ_f20 children4_20 t60_20) 0 (t60_20) ()) (zJ_m_w20 n n children4_20 t60_20 (List.length (t60_20) : Int) 0) := by
  refine loopL_le (f := some) (W := fun k__ i__ s__ => zJ_m_w20 n k__ children4_20 t60_20 (List.length (t60_20) : Int) i__) (body := (fun i__ e__ s__ => zJ_b20 children4_20 t60_20 i__ e__)) (fin := (fun s__ => zJ_f20 children4_20 t60_20)) (fun k__ i__ s__ => ?_) hx () n (by unfold big at hn; unfold lenMax at hx; omega)
  show LeF _ _ (zJ_m_l20 n (zJ_m_w20 n k__) children4_20 t60_20 (List.length (t60_20) : Int) i__)
  exact leCond (leBind fun v21 => (leCond (leCond (leSome rfl) (leCond (leCond (leSome rfl) (leBind fun v22 => (leCond (leSome rfl) (leSome rfl)))) (leSome rfl))) (leCond (leCond (leSome rfl) (leBind fun v23 => (leCond (leSome rfl) (leSome rfl)))) (leSome rfl)))) (leMap (leSome rfl))
def zJ_b0 (c1_0 : Cha) (t15_0 : List Sta) (t17_0 : Int) (v1 : Sta) (m0_0 : List (List UInt8 × Bool)) (m1_0 : List (Int × List Int)) : Option ((Int × Unit) ⊕ (List (List UInt8 × Bool) × List (Int × List Int))) :=
  (Option.bind (zz_M v1.1) fun (v2 : Int × Unit) => (bif decide (v1.2.1 < (-1 : Int)) then (Option.bind (z0Q_M [v2.1, (z0b ((mapGet Ty.str Ty.bool m0_0 v1.1).getD Bool.false) (9 : Int)).1, (z0b Bool.true (11 : Int)).1]) fun (v3 : Int × Unit) => (bif v3.1 != (0 : Int) then (some (Sum.inl ((v3.1, ())))) else (zJ_s19 c1_0 t15_0 t17_0 m0_0 m1_0 v1))) else (Option.bind (z0Q_M [v2.1, (z0b ((mapGet Ty.str Ty.bool m0_0 v1.1).getD Bool.false) (9 : Int)).1, (z0b (decide (v1.2.1 ≥ t17_0)) (11 : Int)).1]) fun (v4 : Int × Unit) => (bif v4.1 != (0 : Int) then (some (Sum.inl ((v4.1, ())))) else (zJ_s19 c1_0 t15_0 t17_0 m0_0 m1_0 v1)))))
def zJ_f0 (c1_0 : Cha) (t15_0 : List Sta) (m0_0 : List (List UInt8 × Bool)) (m1_0 : List (Int × List Int)) : Option (Int × Unit) :=
  (bif decide (List.length (c1_0.1) < lenMax) then loopL (fun i__ e__ s__ => zJ_b20 (m1_0) (c1_0.1) i__ e__) (fun s__ => zJ_f20 (m1_0) (c1_0.1)) 0 (c1_0.1) () else none)
theorem zJ_m_w0_le (n : Nat) (hn : big ≤ n)  (c1_0 : Cha) (t15_0 : List Sta) (m0_0 : List (List UInt8 × Bool)) (m1_0 : List (Int × List Int)) (hx : List.length (t15_0) < lenMax) : LeF some (loopL (fun i__ e__ s__ => zJ_b0 c1_0 t15_0 i__ e__ s__.1 s__.2) (fun s__ => zJ_f0 c1_0 t15_0 s__.1 s__.2) 0 (t15_0) (m0_0, m1_0)) (zJ_m_w0 n n c1_0 t15_0 (List.length (t15_0) : Int) 0 m0_0 m1_0) := by
  refine loopL_le (f := some) (W := fun k__ i__ s__ => zJ_m_w0 n k__ c1_0 t15_0 (List.length (t15_0) : Int) i__ s__.1 s__.2) (body := (fun i__ e__ s__ => zJ_b0 c1_0 t15_0 i__ e__ s__.1 s__.2)) (fin := (fun s__ => zJ_f0 c1_0 t15_0 s__.1 s__.2)) (fun k__ i__ s__ => ?_) hx (m0_0, m1_0) n (by unfold big at hn; unfold lenMax at hx; omega)
  show LeF _ _ (zJ_m_l0 n (zJ_m_w0 n k__) c1_0 t15_0 (List.length (t15_0) : Int) i__ s__.1 s__.2)
  exact leCond (leBind fun v1 => (leBind fun v2 => (leCond (leBind fun v3 => (leCond (leSome rfl) (by apply gate_Chart_checkStates_s19_le n hn))) (leBind fun v4 => (leCond (leSome rfl) (by apply gate_Chart_checkStates_s19_le n hn)))))) (leMap (leGuard fun hx => by apply zJ_m_w20_le n hn; exact hx))
def zJ_M (c : Cha) : Option (Int × Unit) :=
  (bif decide (List.length (c.1) < lenMax) then loopL (fun i__ e__ s__ => zJ_b0 (c) (c.1) i__ e__ s__.1 s__.2) (fun s__ => zJ_f0 (c) (c.1) s__.1 s__.2) 0 (c.1) (([]), ([])) else none)
theorem zJ_run (c : Cha) (y : Int × Unit) (h : zJ_M c = some y) : ∃ n, zJ_m n c = some y :=
  ⟨big, LeF.top (show LeF some (zJ_M c) (zJ_m big c) from (fun (n : Nat) (hn : big ≤ n) => show LeF some (zJ_M c) (zJ_m n c) from (leGuard fun hx => by apply zJ_m_w0_le n hn; exact hx)) big (Nat.le_refl _)) h⟩
def zJ_e : Entry := { f := 97, args := zJ_a, ress := zJ_r, m := fun x => zJ_M x.1 }
theorem zJ_ok : FnOK Tryz.prog zJ_e := fn_ok (g := zJ_g) (fn := Tryz.f97) hmixed tabOk (eCons zz_ok (eCons z0b_ok (eCons z0Q_ok (eCons zH_ok eNil)))) (by kernel_rfl) (by kernel_rfl) (by kernel_rfl) (fun x y h => let ⟨n, hn⟩ := zJ_run x.1 y h; ⟨zJ_an n, iNil, (zJ_eq n x).trans hn⟩)
abbrev z0S_a : Ty := .pair t71 .unit
abbrev z0S_r : Ty := .pair t173 (.pair t29 .unit)
def z0S_g : G := { T := T, E := [z0L_e, zz_e, z0b_e, z0Q_e], muts := [13], fz := [] }
def z0S_k : List (List Nat) := [[4, 14, 15, 16]]
def z0S_an (n : Nat) : Ann := { keep := z0S_k, fuel := n, inl := [], deep := 0 }
def z0S_m_l0 (n : Nat) (r0 : List Cmd → Int → Int → List (Int × List UInt8) → Option (List (Int × List UInt8) × Int × Unit)) (t14_0 : List Cmd) (t15_0 : Int) (t16_0 : Int) (m0_0 : List (Int × List UInt8)) : Option (List (Int × List UInt8) × Int × Unit) :=
  (bif decide (t16_0 < t15_0) then (Option.bind (idx t14_0 t16_0) fun (v1 : Cmd) => (Option.bind (zz_M v1.2.2.1) fun (v2 : Int × Unit) => (bif (mapGet (Ty.int IntKind.i64) Ty.str m0_0 v1.1).isSome then (Option.bind (z0Q_M [(z0L v1.1 (1 : Int) (999999999 : Int)).1, (z0L v1.2.1 (0 : Int) (1 : Int)).1, v2.1, (z0b (!(mapGet (Ty.int IntKind.i64) Ty.str m0_0 v1.1).getD [] == v1.2.2.1) (30 : Int)).1]) fun (v3 : Int × Unit) => (bif v3.1 != (0 : Int) then some ([], v3.1, ()) else r0 t14_0 t15_0 (IntKind.i64.wrap (t16_0 + (1 : Int))) (mapPut (Ty.int IntKind.i64) Ty.str m0_0 v1.1 v1.2.2.1))) else (Option.bind (z0Q_M [(z0L v1.1 (1 : Int) (999999999 : Int)).1, (z0L v1.2.1 (0 : Int) (1 : Int)).1, v2.1, (z0b Bool.false (30 : Int)).1]) fun (v4 : Int × Unit) => (bif v4.1 != (0 : Int) then some ([], v4.1, ()) else r0 t14_0 t15_0 (IntKind.i64.wrap (t16_0 + (1 : Int))) (mapPut (Ty.int IntKind.i64) Ty.str m0_0 v1.1 v1.2.2.1)))))) else some (m0_0, (0 : Int), ()))
def z0S_m_w0 (n : Nat)  (k : Nat) (t14_0 : List Cmd) (t15_0 : Int) (t16_0 : Int) (m0_0 : List (Int × List UInt8)) : Option (List (Int × List UInt8) × Int × Unit) :=
  iter (fun r y => z0S_m_l0 n (fun t14_0 t15_0 t16_0 m0_0 => r ((t14_0, (t15_0, (t16_0, ()))), ((m0_0, ()), ()))) y.1.1 y.1.2.1 y.1.2.2.1 y.2.1.1) k ((t14_0, (t15_0, (t16_0, ()))), ((m0_0, ()), ()))
def z0S_m (n : Nat) (l : List Cmd) : Option (List (Int × List UInt8) × Int × Unit) :=
  (bif decide ((↑l.length : Int) > (256 : Int)) then some ([], (5 : Int), ()) else (z0S_m_w0 n n (l) ((↑l.length : Int)) ((0 : Int)) ([])))
theorem z0S_eq (n : Nat) (x : z0S_a.den) : runF z0S_g (z0S_an n) Tryz.f107 z0S_a z0S_r x = z0S_m n x.1 := by kernel_rfl
def z0S_b0 (t14_0 : List Cmd) (t16_0 : Int) (v1 : Cmd) (m0_0 : List (Int × List UInt8)) : Option ((List (Int × List UInt8) × Int × Unit) ⊕ (List (Int × List UInt8))) :=
  (Option.bind (zz_M v1.2.2.1) fun (v2 : Int × Unit) => (bif (mapGet (Ty.int IntKind.i64) Ty.str m0_0 v1.1).isSome then (Option.bind (z0Q_M [(z0L v1.1 (1 : Int) (999999999 : Int)).1, (z0L v1.2.1 (0 : Int) (1 : Int)).1, v2.1, (z0b (!(mapGet (Ty.int IntKind.i64) Ty.str m0_0 v1.1).getD [] == v1.2.2.1) (30 : Int)).1]) fun (v3 : Int × Unit) => (bif v3.1 != (0 : Int) then (some (Sum.inl (([], v3.1, ())))) else (some (Sum.inr (mapPut (Ty.int IntKind.i64) Ty.str m0_0 v1.1 v1.2.2.1))))) else (Option.bind (z0Q_M [(z0L v1.1 (1 : Int) (999999999 : Int)).1, (z0L v1.2.1 (0 : Int) (1 : Int)).1, v2.1, (z0b Bool.false (30 : Int)).1]) fun (v4 : Int × Unit) => (bif v4.1 != (0 : Int) then (some (Sum.inl (([], v4.1, ())))) else (some (Sum.inr (mapPut (Ty.int IntKind.i64) Ty.str m0_0 v1.1 v1.2.2.1)))))))
def z0S_f0 (t14_0 : List Cmd) (m0_0 : List (Int × List UInt8)) : Option (List (Int × List UInt8) × Int × Unit) :=
  (some ((m0_0, (0 : Int), ())))
theorem z0S_m_w0_le (n : Nat) (hn : big ≤ n)  (t14_0 : List Cmd) (m0_0 : List (Int × List UInt8)) (hx : List.length (t14_0) < lenMax) : LeF some (loopL (fun i__ e__ s__ => z0S_b0 t14_0 i__ e__ s__) (fun s__ => z0S_f0 t14_0 s__) 0 (t14_0) m0_0) (z0S_m_w0 n n t14_0 (List.length (t14_0) : Int) 0 m0_0) := by
  refine loopL_le (f := some) (W := fun k__ i__ s__ => z0S_m_w0 n k__ t14_0 (List.length (t14_0) : Int) i__ s__) (body := (fun i__ e__ s__ => z0S_b0 t14_0 i__ e__ s__)) (fin := (fun s__ => z0S_f0 t14_0 s__)) (fun k__ i__ s__ => ?_) hx m0_0 n (by unfold big at hn; unfold lenMax at hx; omega)
  show LeF _ _ (z0S_m_l0 n (z0S_m_w0 n k__) t14_0 (List.length (t14_0) : Int) i__ s__)
  exact leCond (leBind fun v1 => (leBind fun v2 => (leCond (leBind fun v3 => (leCond (leSome rfl) (leSome rfl))) (leBind fun v4 => (leCond (leSome rfl) (leSome rfl)))))) (leMap (leSome rfl))
def z0S_M (l : List Cmd) : Option (List (Int × List UInt8) × Int × Unit) :=
  (bif decide ((↑l.length : Int) > (256 : Int)) then (some (([], (5 : Int), ()))) else (bif decide (List.length (l) < lenMax) then loopL (fun i__ e__ s__ => z0S_b0 (l) i__ e__ s__) (fun s__ => z0S_f0 (l) s__) 0 (l) ([]) else none))
theorem z0S_run (l : List Cmd) (y : List (Int × List UInt8) × Int × Unit) (h : z0S_M l = some y) : ∃ n, z0S_m n l = some y :=
  ⟨big, LeF.top (show LeF some (z0S_M l) (z0S_m big l) from (fun (n : Nat) (hn : big ≤ n) => show LeF some (z0S_M l) (z0S_m n l) from (leCond (leSome rfl) (leGuard fun hx => by apply z0S_m_w0_le n hn; exact hx))) big (Nat.le_refl _)) h⟩
def z0S_e : Entry := { f := 107, args := z0S_a, ress := z0S_r, m := fun x => z0S_M x.1 }
theorem z0S_ok : FnOK Tryz.prog z0S_e := fn_ok (g := z0S_g) (fn := Tryz.f107) hmixed tabOk (eCons z0L_ok (eCons zz_ok (eCons z0b_ok (eCons z0Q_ok eNil)))) (by kernel_rfl) (by kernel_rfl) (by kernel_rfl) (fun x y h => let ⟨n, hn⟩ := z0S_run x.1 y h; ⟨z0S_an n, iNil, (z0S_eq n x).trans hn⟩)
abbrev z0I_a : Ty := .pair t3 .unit
abbrev z0I_r : Ty := .pair t29 .unit
def z0I_g : G := { T := T, E := [z0L_e], muts := [], fz := [] }
def z0I_k : List (List Nat) := []
def z0I_an (n : Nat) : Ann := { keep := z0I_k, fuel := n, inl := [], deep := 0 }
def z0I_m (n : Nat) (n1 : Int) : Option (Int × Unit) :=
  some ((z0L n1 (0 : Int) (1000 : Int)).1, ())
theorem z0I_eq (n : Nat) (x : z0I_a.den) : runF z0I_g (z0I_an n) Tryz.f110 z0I_a z0I_r x = z0I_m n x.1 := by kernel_rfl
def z0I (n1 : Int) : (Int × Unit) :=
  ((z0L n1 (0 : Int) (1000 : Int)).1, ())
abbrev z0I_M (n1 : Int) : Option (Int × Unit) := some (z0I n1)
theorem z0I_run (n1 : Int) (y : Int × Unit) (h : z0I_M n1 = some y) : ∃ n, z0I_m n n1 = some y :=
  ⟨0, by rw [← h]; show z0I_m 0 n1 = some (z0I n1); unfold z0I_m z0I; first | rfl | (simp only [cond_some]; done) | (simp only [cond_some]; rfl)⟩
def z0I_e : Entry := { f := 110, args := z0I_a, ress := z0I_r, m := fun x => z0I_M x.1 }
theorem z0I_ok : FnOK Tryz.prog z0I_e := fn_ok (g := z0I_g) (fn := Tryz.f110) hmixed tabOk (eCons z0L_ok eNil) (by kernel_rfl) (by kernel_rfl) (by kernel_rfl) (fun x y h => let ⟨n, hn⟩ := z0I_run x.1 y h; ⟨z0I_an n, iNil, (z0I_eq n x).trans hn⟩)
abbrev zP_a : Ty := .pair t35 (.pair t28 .unit)
abbrev zP_r : Ty := .pair t29 .unit
def zP_g : G := { T := T, E := [zI_e, z0b_e, zC_e, z0Q_e], muts := [], fz := [] }
def zP_k : List (List Nat) := []
def zP_an (n : Nat) : Ann := { keep := zP_k, fuel := n, inl := [], deep := 0 }
def zP_m (n : Nat) (c : Cha) (l : List Int) : Option (Int × Unit) :=
  (Option.bind (zC_M l fun (x : Int × Unit) => zI_M x.1 c) fun (v0 : Bool × Unit) => (Option.bind (z0Q_M [(z0b (decide ((↑l.length : Int) > (16 : Int))) (5 : Int)).1, (z0b v0.1 (10 : Int)).1]) fun (v1 : Int × Unit) => some (v1.1, ())))
theorem zP_eq (n : Nat) (x : zP_a.den) : runF zP_g (zP_an n) Tryz.f123 zP_a zP_r x = zP_m n x.1 x.2.1 := by kernel_rfl
def zP_M (c : Cha) (l : List Int) : Option (Int × Unit) := zP_m 0 c l
theorem zP_run (c : Cha) (l : List Int) (y : Int × Unit) (h : zP_M c l = some y) : ∃ n, zP_m n c l = some y := ⟨0, h⟩
def zP_e : Entry := { f := 123, args := zP_a, ress := zP_r, m := fun x => zP_M x.1 x.2.1 }
theorem zP_ok : FnOK Tryz.prog zP_e := fn_ok (g := zP_g) (fn := Tryz.f123) hmixed tabOk (eCons zI_ok (eCons z0b_ok (eCons zC_ok (eCons z0Q_ok eNil)))) (by kernel_rfl) (by kernel_rfl) (by kernel_rfl) (fun x y h => let ⟨n, hn⟩ := zP_run x.1 x.2.1 y h; ⟨zP_an n, iNil, (zP_eq n x).trans hn⟩)
abbrev zR_a : Ty := .pair t3 .unit
abbrev zR_r : Ty := .pair t29 .unit
def zR_g : G := { T := T, E := [z0L_e], muts := [], fz := [] }
def zR_k : List (List Nat) := []
def zR_an (n : Nat) : Ann := { keep := zR_k, fuel := n, inl := [], deep := 0 }
def zR_m (n : Nat) (n1 : Int) : Option (Int × Unit) :=
  some ((z0L n1 (0 : Int) (15 : Int)).1, ())
theorem zR_eq (n : Nat) (x : zR_a.den) : runF zR_g (zR_an n) Tryz.f138 zR_a zR_r x = zR_m n x.1 := by kernel_rfl
def zR (n1 : Int) : (Int × Unit) :=
  ((z0L n1 (0 : Int) (15 : Int)).1, ())
abbrev zR_M (n1 : Int) : Option (Int × Unit) := some (zR n1)
theorem zR_run (n1 : Int) (y : Int × Unit) (h : zR_M n1 = some y) : ∃ n, zR_m n n1 = some y :=
  ⟨0, by rw [← h]; show zR_m 0 n1 = some (zR n1); unfold zR_m zR; first | rfl | (simp only [cond_some]; done) | (simp only [cond_some]; rfl)⟩
def zR_e : Entry := { f := 138, args := zR_a, ress := zR_r, m := fun x => zR_M x.1 }
theorem zR_ok : FnOK Tryz.prog zR_e := fn_ok (g := zR_g) (fn := Tryz.f138) hmixed tabOk (eCons z0L_ok eNil) (by kernel_rfl) (by kernel_rfl) (by kernel_rfl) (fun x y h => let ⟨n, hn⟩ := zR_run x.1 y h; ⟨zR_an n, iNil, (zR_eq n x).trans hn⟩)
abbrev ze_a : Ty := .pair t148 (.pair (.ref t3) (.pair (.ref t55) .unit))
abbrev ze_r : Ty := .pair t4 .unit
def ze_g : G := { T := T, E := [zV_e], muts := [], fz := [] }
def ze_k : List (List Nat) := []
def ze_an (n : Nat) : Ann := { keep := ze_k, fuel := n, inl := [], deep := 0 }
def ze_m (n : Nat) (t : Tra) (p1 : Int) (p2 : List UInt8 × Int × Unit) : Option (Bool × Unit) :=
  (bif t.1 == p1 then (bif t.2.1 == p2.1 then some ((zV t p2.2.1).1, ()) else some (Bool.false, ())) else some (Bool.false, ()))
theorem ze_eq (n : Nat) (x : ze_a.den) : runF ze_g (ze_an n) Tryz.f140 ze_a ze_r x = ze_m n x.1 x.2.1 x.2.2.1 := by kernel_rfl
def ze (t : Tra) (p1 : Int) (p2 : List UInt8 × Int × Unit) : (Bool × Unit) :=
  (bif t.1 == p1 then (bif t.2.1 == p2.1 then ((zV t p2.2.1).1, ()) else (Bool.false, ())) else (Bool.false, ()))
abbrev ze_M (t : Tra) (p1 : Int) (p2 : List UInt8 × Int × Unit) : Option (Bool × Unit) := some (ze t p1 p2)
theorem ze_run (t : Tra) (p1 : Int) (p2 : List UInt8 × Int × Unit) (y : Bool × Unit) (h : ze_M t p1 p2 = some y) : ∃ n, ze_m n t p1 p2 = some y :=
  ⟨0, by rw [← h]; show ze_m 0 t p1 p2 = some (ze t p1 p2); unfold ze_m ze; first | rfl | (simp only [cond_some]; done) | (simp only [cond_some]; rfl)⟩
def ze_e : Entry := { f := 140, args := ze_a, ress := ze_r, m := fun x => ze_M x.1 x.2.1 x.2.2.1 }
theorem ze_ok : FnOK Tryz.prog ze_e := fn_ok (g := ze_g) (fn := Tryz.f140) hmixed tabOk (eCons zV_ok eNil) (by kernel_rfl) (by kernel_rfl) (by kernel_rfl) (fun x y h => let ⟨n, hn⟩ := ze_run x.1 x.2.1 x.2.2.1 y h; ⟨ze_an n, iNil, (ze_eq n x).trans hn⟩)
abbrev zh_a : Ty := .pair t131 .unit
abbrev zh_r : Ty := .pair t220 (.pair t4 .unit)
def zh_g : G := { T := T, E := [z0R_e], muts := [], fz := [] }
def zh_k : List (List Nat) := [[1, 2, 6, 7]]
def zh_an (n : Nat) : Ann := { keep := zh_k, fuel := n, inl := [], deep := 0 }
def zh_m_l0 (n : Nat) (r0 : Fai → List (List UInt8 × (Fai × Unit → Option (Fai × Unit)) × (Fai × Int × (List UInt8 × Int × Unit) × Unit → Option ((List UInt8 × Int × Unit) × Bool × Unit)) × Unit) → Int → List UInt8 → Option ((List UInt8 × (Fai × Unit → Option (Fai × Unit)) × (Fai × Int × (List UInt8 × Int × Unit) × Unit → Option ((List UInt8 × Int × Unit) × Bool × Unit)) × Unit) × Bool × Unit)) (f1_0 : Fai) (t6_0 : List (List UInt8 × (Fai × Unit → Option (Fai × Unit)) × (Fai × Int × (List UInt8 × Int × Unit) × Unit → Option ((List UInt8 × Int × Unit) × Bool × Unit)) × Unit)) (t7_0 : Int) (b0_0_0 : List UInt8) : Option ((List UInt8 × (Fai × Unit → Option (Fai × Unit)) × (Fai × Int × (List UInt8 × Int × Unit) × Unit → Option ((List UInt8 × Int × Unit) × Bool × Unit)) × Unit) × Bool × Unit) :=
  (bif decide (t7_0 < (3 : Int)) then (Option.bind (idx t6_0 t7_0) fun (v1 : List UInt8 × (Fai × Unit → Option (Fai × Unit)) × (Fai × Int × (List UInt8 × Int × Unit) × Unit → Option ((List UInt8 × Int × Unit) × Bool × Unit)) × Unit) => (bif v1.1 == f1_0.1 then some ((v1.1, v1.2.1, v1.2.2.1, ()), Bool.true, ()) else r0 f1_0 t6_0 (IntKind.i64.wrap (t7_0 + (1 : Int))) b0_0_0)) else some (([], fun (x : Fai × Unit) => Option.none, fun (x : Fai × Int × (List UInt8 × Int × Unit) × Unit) => Option.none, ()), Bool.false, ()))
def zh_m_w0 (n : Nat)  (k : Nat) (f1_0 : Fai) (t6_0 : List (List UInt8 × (Fai × Unit → Option (Fai × Unit)) × (Fai × Int × (List UInt8 × Int × Unit) × Unit → Option ((List UInt8 × Int × Unit) × Bool × Unit)) × Unit)) (t7_0 : Int) (b0_0_0 : List UInt8) : Option ((List UInt8 × (Fai × Unit → Option (Fai × Unit)) × (Fai × Int × (List UInt8 × Int × Unit) × Unit → Option ((List UInt8 × Int × Unit) × Bool × Unit)) × Unit) × Bool × Unit) :=
  iter (fun r y => zh_m_l0 n (fun f1_0 t6_0 t7_0 b0_0_0 => r ((f1_0, (t6_0, (t7_0, ()))), (((b0_0_0, ()), ()), ()))) y.1.1 y.1.2.1 y.1.2.2.1 y.2.1.1.1) k ((f1_0, (t6_0, (t7_0, ()))), (((b0_0_0, ()), ()), ()))
def zh_m (n : Nat) (f : Fai) : Option ((List UInt8 × (Fai × Unit → Option (Fai × Unit)) × (Fai × Int × (List UInt8 × Int × Unit) × Unit → Option ((List UInt8 × Int × Unit) × Bool × Unit)) × Unit) × Bool × Unit) :=
  (zh_m_w0 n n (f) (z0R.1) ((0 : Int)) ([]))
theorem zh_eq (n : Nat) (x : zh_a.den) : runF zh_g (zh_an n) Tryz.f143 zh_a zh_r x = zh_m n x.1 := by kernel_rfl
def zh_b0 (f1_0 : Fai) (t6_0 : List (List UInt8 × (Fai × Unit → Option (Fai × Unit)) × (Fai × Int × (List UInt8 × Int × Unit) × Unit → Option ((List UInt8 × Int × Unit) × Bool × Unit)) × Unit)) (b0_0_0 : List UInt8) (t7_0 : Int) : Option (((List UInt8 × (Fai × Unit → Option (Fai × Unit)) × (Fai × Int × (List UInt8 × Int × Unit) × Unit → Option ((List UInt8 × Int × Unit) × Bool × Unit)) × Unit) × Bool × Unit) ⊕ Unit) :=
  (Option.bind (idx t6_0 t7_0) fun (v1 : List UInt8 × (Fai × Unit → Option (Fai × Unit)) × (Fai × Int × (List UInt8 × Int × Unit) × Unit → Option ((List UInt8 × Int × Unit) × Bool × Unit)) × Unit) => (bif v1.1 == f1_0.1 then (some (Sum.inl (((v1.1, v1.2.1, v1.2.2.1, ()), Bool.true, ())))) else (some (Sum.inr ()))))
def zh_f0 (f1_0 : Fai) (t6_0 : List (List UInt8 × (Fai × Unit → Option (Fai × Unit)) × (Fai × Int × (List UInt8 × Int × Unit) × Unit → Option ((List UInt8 × Int × Unit) × Bool × Unit)) × Unit)) (b0_0_0 : List UInt8) : Option ((List UInt8 × (Fai × Unit → Option (Fai × Unit)) × (Fai × Int × (List UInt8 × Int × Unit) × Unit → Option ((List UInt8 × Int × Unit) × Bool × Unit)) × Unit) × Bool × Unit) :=
  (some ((([], fun (x : Fai × Unit) => Option.none, fun (x : Fai × Int × (List UInt8 × Int × Unit) × Unit) => Option.none, ()), Bool.false, ())))
theorem zh_m_w0_le (n : Nat) (hn : big ≤ n)  (f1_0 : Fai) (t6_0 : List (List UInt8 × (Fai × Unit → Option (Fai × Unit)) × (Fai × Int × (List UInt8 × Int × Unit) × Unit → Option ((List UInt8 × Int × Unit) × Bool × Unit)) × Unit)) (b0_0_0 : List UInt8) (hx : ((3 : Int)) ≤ (9223372036854775807 : Int)) : LeF some (loopN (fun i__ s__ => zh_b0 f1_0 t6_0 b0_0_0 i__) (fun s__ => zh_f0 f1_0 t6_0 b0_0_0) (((3 : Int)) - 0).toNat 0 ()) (zh_m_w0 n n f1_0 t6_0 0 b0_0_0) := by
  refine loopN_le (f := some) (W := fun k__ i__ s__ => zh_m_w0 n k__ f1_0 t6_0 i__ b0_0_0) (body := (fun i__ s__ => zh_b0 f1_0 t6_0 b0_0_0 i__)) (fin := (fun s__ => zh_f0 f1_0 t6_0 b0_0_0)) (fun k__ i__ s__ => ?_) hx () n 0 (by decide) (by unfold big at hn; omega)
  show LeF _ _ (zh_m_l0 n (zh_m_w0 n k__) f1_0 t6_0 i__ b0_0_0)
  exact leCond (leBind fun v1 => (leCond (leSome rfl) (leSome rfl))) (leMap (leSome rfl))
def zh_M (f : Fai) : Option ((List UInt8 × (Fai × Unit → Option (Fai × Unit)) × (Fai × Int × (List UInt8 × Int × Unit) × Unit → Option ((List UInt8 × Int × Unit) × Bool × Unit)) × Unit) × Bool × Unit) :=
  (bif decide (((3 : Int)) ≤ (9223372036854775807 : Int)) then loopN (fun i__ s__ => zh_b0 (f) (z0R.1) ([]) i__) (fun s__ => zh_f0 (f) (z0R.1) ([])) (((3 : Int)) - 0).toNat 0 () else none)
theorem zh_run (f : Fai) (y : (List UInt8 × (Fai × Unit → Option (Fai × Unit)) × (Fai × Int × (List UInt8 × Int × Unit) × Unit → Option ((List UInt8 × Int × Unit) × Bool × Unit)) × Unit) × Bool × Unit) (h : zh_M f = some y) : ∃ n, zh_m n f = some y :=
  ⟨big, LeF.top (show LeF some (zh_M f) (zh_m big f) from (fun (n : Nat) (hn : big ≤ n) => show LeF some (zh_M f) (zh_m n f) from (leGuard fun hx => by apply zh_m_w0_le n hn; exact hx)) big (Nat.le_refl _)) h⟩
def zh_e : Entry := { f := 143, args := zh_a, ress := zh_r, m := fun x => zh_M x.1 }
theorem zh_ok : FnOK Tryz.prog zh_e := fn_ok (g := zh_g) (fn := Tryz.f143) hmixed tabOk (eCons z0R_ok eNil) (by kernel_rfl) (by kernel_rfl) (by kernel_rfl) (fun x y h => let ⟨n, hn⟩ := zh_run x.1 y h; ⟨zh_an n, iNil, (zh_eq n x).trans hn⟩)
abbrev zU_a : Ty := .pair t3 (.pair (.ref t134) .unit)
abbrev zU_r : Ty := .pair t4 .unit
def zU_g : G := { T := T, E := [zH_e], muts := [], fz := [] }
def zU_k : List (List Nat) := []
def zU_an (n : Nat) : Ann := { keep := zU_k, fuel := n, inl := [], deep := 0 }
def zU_m (n : Nat) (leaf : Int) (p1 : Goa) : Option (Bool × Unit) :=
  (Option.bind (zH_M p1.2.1 leaf) fun (v0 : Bool × Unit) => some (v0.1, ()))
theorem zU_eq (n : Nat) (x : zU_a.den) : runF zU_g (zU_an n) Tryz.f153 zU_a zU_r x = zU_m n x.1 x.2.1 := by kernel_rfl
def zU_M (leaf : Int) (p1 : Goa) : Option (Bool × Unit) := zU_m 0 leaf p1
theorem zU_run (leaf : Int) (p1 : Goa) (y : Bool × Unit) (h : zU_M leaf p1 = some y) : ∃ n, zU_m n leaf p1 = some y := ⟨0, h⟩
def zU_e : Entry := { f := 153, args := zU_a, ress := zU_r, m := fun x => zU_M x.1 x.2.1 }
theorem zU_ok : FnOK Tryz.prog zU_e := fn_ok (g := zU_g) (fn := Tryz.f153) hmixed tabOk (eCons zH_ok eNil) (by kernel_rfl) (by kernel_rfl) (by kernel_rfl) (fun x y h => let ⟨n, hn⟩ := zU_run x.1 x.2.1 y h; ⟨zU_an n, iNil, (zU_eq n x).trans hn⟩)
end
end Go.Tw
end
