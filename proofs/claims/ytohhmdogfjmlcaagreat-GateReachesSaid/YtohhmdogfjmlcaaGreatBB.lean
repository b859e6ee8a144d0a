import Derived.Test.YtohhmdogfjmlcaaGreatBT
import Derived.Test.YtohhmdogfjmlcaaGreatB0
import Derived.Test.YtohhmdogfjmlcaaGreatBS
import Derived.Test.YtohhmdogfjmlcaaGreatLP
import Derived.Test.YtohhmdogfjmlcaaGreatBA
section
set_option linter.all false
set_option maxRecDepth 1000000
namespace Go.Tw
open Go.Vx Go.Vx.B Go.Proofs
noncomputable section
abbrev z0H_a : Ty := .pair t25 .unit
abbrev z0H_r : Ty := .pair t37 .unit
def z0H_g : G := { T := T, E := [z05_e], muts := [3], fz := [] }
def z0H_k : List (List Nat) := [[1, 3, 4]]
def z0H_an (n : Nat) : Ann := { keep := z0H_k, fuel := n, inl := [], deep := 0 }
def z0H_m_l0 (n : Nat) (r0 : Cha → Int → List (List UInt8) → Option (List (List UInt8) × Unit)) (c1_0 : Cha) (i4_0 : Int) (c0_0 : List (List UInt8)) : Option (List (List UInt8) × Unit) :=
  (bif decide (i4_0 < (↑c1_0.2.1.length : Int)) then (Option.bind (idx c1_0.2.1 i4_0) fun (v1 : Tra) => (Option.bind (z05_M c0_0 v1.2.1) fun (v2 : Bool × Unit) => (bif !v2.1 then (Option.bind (idx c1_0.2.1 i4_0) fun (v3 : Tra) => (bif decide (c0_0.length + (1 : Nat) ≤ memMax) then r0 c1_0 (IntKind.i64.wrap (i4_0 + (1 : Int))) (c0_0 ++ [v3.2.1]) else none)) else r0 c1_0 (IntKind.i64.wrap (i4_0 + (1 : Int))) c0_0))) else some (c0_0, ()))
def z0H_m_w0 (n : Nat)  (k : Nat) (c1_0 : Cha) (i4_0 : Int) (c0_0 : List (List UInt8)) : Option (List (List UInt8) × Unit) :=
  iter (fun r y => z0H_m_l0 n (fun c1_0 i4_0 c0_0 => r ((c1_0, (i4_0, ())), ((c0_0, ()), ()))) y.1.1 y.1.2.1 y.2.1.1) k ((c1_0, (i4_0, ())), ((c0_0, ()), ()))
def z0H_m (n : Nat) (c : Cha) : Option (List (List UInt8) × Unit) :=
  (z0H_m_w0 n n (c) ((0 : Int)) ([]))
theorem z0H_eq (n : Nat) (x : z0H_a.den) : runF z0H_g (z0H_an n) Tryz.f22 z0H_a z0H_r x = z0H_m n x.1 := by kernel_rfl
def z0H_b0 (c1_0 : Cha) (i4_0 : Int) (v1 : Tra) (c0_0 : List (List UInt8)) : Option ((List (List UInt8) × Unit) ⊕ (List (List UInt8))) :=
  (Option.bind (z05_M c0_0 v1.2.1) fun (v2 : Bool × Unit) => (bif !v2.1 then (Option.bind (idx c1_0.2.1 i4_0) fun (v3 : Tra) => (bif decide (c0_0.length + (1 : Nat) ≤ memMax) then (some (Sum.inr (c0_0 ++ [v3.2.1]))) else none)) else (some (Sum.inr (c0_0)))))
def z0H_f0 (c1_0 : Cha) (c0_0 : List (List UInt8)) : Option (List (List UInt8) × Unit) :=
  (some ((c0_0, ())))
theorem z0H_m_w0_le (n : Nat) (hn : big ≤ n)  (c1_0 : Cha) (c0_0 : List (List UInt8)) (hx : List.length (c1_0.2.1) < lenMax) : LeF some (loopL (fun i__ e__ s__ => z0H_b0 c1_0 i__ e__ s__) (fun s__ => z0H_f0 c1_0 s__) 0 (c1_0.2.1) c0_0) (z0H_m_w0 n n c1_0 0 c0_0) := by
  refine loopL_le (f := some) (W := fun k__ i__ s__ => z0H_m_w0 n k__ c1_0 i__ s__) (body := (fun i__ e__ s__ => z0H_b0 c1_0 i__ e__ s__)) (fin := (fun s__ => z0H_f0 c1_0 s__)) (fun k__ i__ s__ => ?_) hx c0_0 n (by unfold big at hn; unfold lenMax at hx; omega)
  show LeF _ _ (z0H_m_l0 n (z0H_m_w0 n k__) c1_0 i__ s__)
  exact leCond (leBind fun v1 => (leBind fun v2 => (leCond (leBind fun v3 => (leCond (leSome rfl) leNone)) (leSome rfl)))) (leMap (leSome rfl))
def z0H_M (c : Cha) : Option (List (List UInt8) × Unit) :=
  (bif decide (List.length (c.2.1) < lenMax) then loopL (fun i__ e__ s__ => z0H_b0 (c) i__ e__ s__) (fun s__ => z0H_f0 (c) s__) 0 (c.2.1) ([]) else none)
theorem z0H_run (c : Cha) (y : List (List UInt8) × Unit) (h : z0H_M c = some y) : ∃ n, z0H_m n c = some y :=
  ⟨big, LeF.top (show LeF some (z0H_M c) (z0H_m big c) from (fun (n : Nat) (hn : big ≤ n) => show LeF some (z0H_M c) (z0H_m n c) from (leGuard fun hx => by apply z0H_m_w0_le n hn; exact hx)) big (Nat.le_refl _)) h⟩
def z0H_e : Entry := { f := 22, args := z0H_a, ress := z0H_r, m := fun x => z0H_M x.1 }
theorem z0H_ok : FnOK Tryz.prog z0H_e := fn_ok (g := z0H_g) (fn := Tryz.f22) hmixed tabOk (eCons z05_ok eNil) (by kernel_rfl) (by kernel_rfl) (by kernel_rfl) (fun x y h => let ⟨n, hn⟩ := z0H_run x.1 y h; ⟨z0H_an n, iNil, (z0H_eq n x).trans hn⟩)
abbrev zY_a : Ty := .pair t35 .unit
abbrev zY_r : Ty := .pair t28 .unit
def zY_g : G := { T := T, E := [zL_e, zf_e, zB_e, zV_e], muts := [3], fz := [] }
def zY_k : List (List Nat) := [[3, 7, 8, 9]]
def zY_an (n : Nat) : Ann := { keep := zY_k, fuel := n, inl := [], deep := 0 }
def zY_m_l0 (n : Nat) (r0 : List Sta → Int → Int → List (Sta × Int × Unit) → Option (List Int × Unit)) (t7_0 : List Sta) (t8_0 : Int) (t9_0 : Int) (c0_0 : List (Sta × Int × Unit)) : Option (List Int × Unit) :=
  (bif decide (t9_0 < t8_0) then (Option.bind (idx t7_0 t9_0) fun (v1 : Sta) => (bif decide (c0_0.length + (1 : Nat) ≤ memMax) then r0 t7_0 t8_0 (IntKind.i64.wrap (t9_0 + (1 : Int))) (c0_0 ++ [((v1.1, v1.2.1, v1.2.2.1, v1.2.2.2.1, ()), t9_0, ())]) else none)) else (Option.bind (zL_M c0_0 fun (x : (Sta × Int × Unit) × Unit) => zf_M x.1) fun (v2 : List (Sta × Int × Unit) × Unit) => (Option.bind (zB_M v2.1 fun (x : (Sta × Int × Unit) × Unit) => zV_M x.1) fun (v3 : List Int × Unit) => some (v3.1, ()))))
def zY_m_w0 (n : Nat)  (k : Nat) (t7_0 : List Sta) (t8_0 : Int) (t9_0 : Int) (c0_0 : List (Sta × Int × Unit)) : Option (List Int × Unit) :=
  iter (fun r y => zY_m_l0 n (fun t7_0 t8_0 t9_0 c0_0 => r ((t7_0, (t8_0, (t9_0, ()))), ((c0_0, ()), ()))) y.1.1 y.1.2.1 y.1.2.2.1 y.2.1.1) k ((t7_0, (t8_0, (t9_0, ()))), ((c0_0, ()), ()))
def zY_m (n : Nat) (c : Cha) : Option (List Int × Unit) :=
  (zY_m_w0 n n (c.1) ((↑c.1.length : Int)) ((0 : Int)) ([]))
theorem zY_eq (n : Nat) (x : zY_a.den) : runF zY_g (zY_an n) Tryz.f86 zY_a zY_r x = zY_m n x.1 := by kernel_rfl
def zY_b0 (t7_0 : List Sta) (t9_0 : Int) (v1 : Sta) (c0_0 : List (Sta × Int × Unit)) : Option ((List Int × Unit) ⊕ (List (Sta × Int × Unit))) :=
  (bif decide (c0_0.length + (1 : Nat) ≤ memMax) then (some (Sum.inr (c0_0 ++ [((v1.1, v1.2.1, v1.2.2.1, v1.2.2.2.1, ()), t9_0, ())]))) else none)
def zY_f0 (t7_0 : List Sta) (c0_0 : List (Sta × Int × Unit)) : Option (List Int × Unit) :=
  (Option.bind (zL_M c0_0 fun (x : (Sta × Int × Unit) × Unit) => zf_M x.1) fun (v2 : List (Sta × Int × Unit) × Unit) => (Option.bind (zB_M v2.1 fun (x : (Sta × Int × Unit) × Unit) => zV_M x.1) fun (v3 : List Int × Unit) => (some ((v3.1, ())))))
theorem zY_m_w0_le (n : Nat) (hn : big ≤ n)  (t7_0 : List Sta) (c0_0 : List (Sta × Int × Unit)) (hx : List.length (t7_0) < lenMax) : LeF some (loopL (fun i__ e__ s__ => zY_b0 t7_0 i__ e__ s__) (fun s__ => zY_f0 t7_0 s__) 0 (t7_0) c0_0) (zY_m_w0 n n t7_0 (List.length (t7_0) : Int) 0 c0_0) := by
  refine loopL_le (f := some) (W := fun k__ i__ s__ => zY_m_w0 n k__ t7_0 (List.length (t7_0) : Int) i__ s__) (body := (fun i__ e__ s__ => zY_b0 t7_0 i__ e__ s__)) (fin := (fun s__ => zY_f0 t7_0 s__)) (fun k__ i__ s__ => ?_) hx c0_0 n (by unfold big at hn; unfold lenMax at hx; omega)
  show LeF _ _ (zY_m_l0 n (zY_m_w0 n k__) t7_0 (List.length (t7_0) : Int) i__ s__)
  exact leCond (leBind fun v1 => (leCond (leSome rfl) leNone)) (leMap (leBind fun v2 => (leBind fun v3 => (leSome rfl))))
def zY_M (c : Cha) : Option (List Int × Unit) :=
  (bif decide (List.length (c.1) < lenMax) then loopL (fun i__ e__ s__ => zY_b0 (c.1) i__ e__ s__) (fun s__ => zY_f0 (c.1) s__) 0 (c.1) ([]) else none)
theorem zY_run (c : Cha) (y : List Int × Unit) (h : zY_M c = some y) : ∃ n, zY_m n c = some y :=
  ⟨big, LeF.top (show LeF some (zY_M c) (zY_m big c) from (fun (n : Nat) (hn : big ≤ n) => show LeF some (zY_M c) (zY_m n c) from (leGuard fun hx => by apply zY_m_w0_le n hn; exact hx)) big (Nat.le_refl _)) h⟩
def zY_e : Entry := { f := 86, args := zY_a, ress := zY_r, m := fun x => zY_M x.1 }
theorem zY_ok : FnOK Tryz.prog zY_e := fn_ok (g := zY_g) (fn := Tryz.f86) hmixed tabOk (eCons zL_ok (eCons zf_ok (eCons zB_ok (eCons zV_ok eNil)))) (by kernel_rfl) (by kernel_rfl) (by kernel_rfl) (fun x y h => let ⟨n, hn⟩ := zY_run x.1 y h; ⟨zY_an n, iNil, (zY_eq n x).trans hn⟩)
abbrev zu_a : Ty := .pair t9 .unit
abbrev zu_r : Ty := .pair t3 .unit
def zu_g : G := { T := T, E := [z0G_e], muts := [], fz := [] }
def zu_k : List (List Nat) := []
def zu_an (n : Nat) : Ann := { keep := zu_k, fuel := n, inl := [], deep := 0 }
def zu_m (n : Nat) (s : List UInt8) : Option (Int × Unit) :=
  (Option.bind (z0G_M s) fun (v0 : Bool × Unit) => (bif !v0.1 then some ((8 : Int), ()) else some ((0 : Int), ())))
theorem zu_eq (n : Nat) (x : zu_a.den) : runF zu_g (zu_an n) Tryz.f89 zu_a zu_r x = zu_m n x.1 := by kernel_rfl
def zu_M (s : List UInt8) : Option (Int × Unit) := zu_m 0 s
theorem zu_run (s : List UInt8) (y : Int × Unit) (h : zu_M s = some y) : ∃ n, zu_m n s = some y := ⟨0, h⟩
def zu_e : Entry := { f := 89, args := zu_a, ress := zu_r, m := fun x => zu_M x.1 }
theorem zu_ok : FnOK Tryz.prog zu_e := fn_ok (g := zu_g) (fn := Tryz.f89) hmixed tabOk (eCons z0G_ok eNil) (by kernel_rfl) (by kernel_rfl) (by kernel_rfl) (fun x y h => let ⟨n, hn⟩ := zu_run x.1 y h; ⟨zu_an n, iNil, (zu_eq n x).trans hn⟩)
abbrev zO_a : Ty := .pair t35 (.pair t3 .unit)
abbrev zO_r : Ty := .pair t29 .unit
def zO_g : G := { T := T, E := [z0d_e], muts := [], fz := [] }
def zO_k : List (List Nat) := []
def zO_an (n : Nat) : Ann := { keep := zO_k, fuel := n, inl := [], deep := 0 }
def zO_m (n : Nat) (c : Cha) (leaf : Int) : Option (Int × Unit) :=
  (bif decide (leaf < (0 : Int)) then some ((10 : Int), ()) else (bif decide (leaf ≥ (↑c.1.length : Int)) then some ((10 : Int), ()) else (Option.bind (idx c.1 leaf) fun (v2 : Sta) => some ((z0d (v2.2.2.1 != (-1 : Int)) (20 : Int)).1, ()))))
theorem zO_eq (n : Nat) (x : zO_a.den) : runF zO_g (zO_an n) Tryz.f101 zO_a zO_r x = zO_m n x.1 x.2.1 := by kernel_rfl
def zO_M (c : Cha) (leaf : Int) : Option (Int × Unit) := zO_m 0 c leaf
theorem zO_run (c : Cha) (leaf : Int) (y : Int × Unit) (h : zO_M c leaf = some y) : ∃ n, zO_m n c leaf = some y := ⟨0, h⟩
def zO_e : Entry := { f := 101, args := zO_a, ress := zO_r, m := fun x => zO_M x.1 x.2.1 }
theorem zO_ok : FnOK Tryz.prog zO_e := fn_ok (g := zO_g) (fn := Tryz.f101) hmixed tabOk (eCons z0d_ok eNil) (by kernel_rfl) (by kernel_rfl) (by kernel_rfl) (fun x y h => let ⟨n, hn⟩ := zO_run x.1 x.2.1 y h; ⟨zO_an n, iNil, (zO_eq n x).trans hn⟩)
abbrev z0N_a : Ty := .pair t3 (.pair t3 (.pair t3 .unit))
abbrev z0N_r : Ty := .pair t29 .unit
def z0N_g : G := { T := T, E := [z0d_e], muts := [], fz := [] }
def z0N_k : List (List Nat) := []
def z0N_an (n : Nat) : Ann := { keep := z0N_k, fuel := n, inl := [], deep := 0 }
def z0N_m (n : Nat) (n1 : Int) (least : Int) (most : Int) : Option (Int × Unit) :=
  (bif decide (n1 < least) then some ((z0d Bool.true (3 : Int)).1, ()) else some ((z0d (decide (n1 > most)) (3 : Int)).1, ()))
theorem z0N_eq (n : Nat) (x : z0N_a.den) : runF z0N_g (z0N_an n) Tryz.f108 z0N_a z0N_r x = z0N_m n x.1 x.2.1 x.2.2.1 := by kernel_rfl
def z0N (n1 : Int) (least : Int) (most : Int) : (Int × Unit) :=
  (bif decide (n1 < least) then ((z0d Bool.true (3 : Int)).1, ()) else ((z0d (decide (n1 > most)) (3 : Int)).1, ()))
abbrev z0N_M (n1 : Int) (least : Int) (most : Int) : Option (Int × Unit) := some (z0N n1 least most)
theorem z0N_run (n1 : Int) (least : Int) (most : Int) (y : Int × Unit) (h : z0N_M n1 least most = some y) : ∃ n, z0N_m n n1 least most = some y :=
  ⟨0, by rw [← h]; show z0N_m 0 n1 least most = some (z0N n1 least most); unfold z0N_m z0N; first | rfl | (simp only [cond_some]; done) | (simp only [cond_some]; rfl)⟩
def z0N_e : Entry := { f := 108, args := z0N_a, ress := z0N_r, m := fun x => z0N_M x.1 x.2.1 x.2.2.1 }
theorem z0N_ok : FnOK Tryz.prog z0N_e := fn_ok (g := z0N_g) (fn := Tryz.f108) hmixed tabOk (eCons z0d_ok eNil) (by kernel_rfl) (by kernel_rfl) (by kernel_rfl) (fun x y h => let ⟨n, hn⟩ := z0N_run x.1 x.2.1 x.2.2.1 y h; ⟨z0N_an n, iNil, (z0N_eq n x).trans hn⟩)
abbrev zw_a : Ty := .pair t112 (.pair t167 (.pair (.ref t35) .unit))
abbrev zw_r : Ty := .pair t4 .unit
def zw_g : G := { T := T, E := [z0M_e], muts := [], fz := [] }
def zw_k : List (List Nat) := []
def zw_an (n : Nat) : Ann := { keep := zw_k, fuel := n, inl := [], deep := 0 }
def zw_m (n : Nat) (x1 : Cas) (o : Int × Bool × Bool × Unit) (p2 : Cha) : Option (Bool × Unit) :=
  (bif bitsOp IntKind.i64 Go.BinOp.and x1.2.2.1 (1 : Int) != (0 : Int) then (bif !o.2.2.1 then (Option.bind (idx p2.1 o.1) fun (v0 : Sta) => some (v0.2.2.2.1, ())) else some (Bool.false, ())) else some (Bool.false, ()))
theorem zw_eq (n : Nat) (x : zw_a.den) : runF zw_g (zw_an n) Tryz.f118 zw_a zw_r x = zw_m n x.1 x.2.1 x.2.2.1 := by kernel_rfl
def zw_M (x1 : Cas) (o : Int × Bool × Bool × Unit) (p2 : Cha) : Option (Bool × Unit) := zw_m 0 x1 o p2
theorem zw_run (x1 : Cas) (o : Int × Bool × Bool × Unit) (p2 : Cha) (y : Bool × Unit) (h : zw_M x1 o p2 = some y) : ∃ n, zw_m n x1 o p2 = some y := ⟨0, h⟩
def zw_e : Entry := { f := 118, args := zw_a, ress := zw_r, m := fun x => zw_M x.1 x.2.1 x.2.2.1 }
theorem zw_ok : FnOK Tryz.prog zw_e := fn_ok (g := zw_g) (fn := Tryz.f118) hmixed tabOk (eCons z0M_ok eNil) (by kernel_rfl) (by kernel_rfl) (by kernel_rfl) (fun x y h => let ⟨n, hn⟩ := zw_run x.1 x.2.1 x.2.2.1 y h; ⟨zw_an n, iNil, (zw_eq n x).trans hn⟩)
abbrev zH_a : Ty := .pair t28 (.pair t3 .unit)
abbrev zH_r : Ty := .pair t4 .unit
def zH_g : G := { T := T, E := [zS_e], muts := [], fz := [] }
def zH_k : List (List Nat) := []
def zH_an (n : Nat) : Ann := { keep := zH_k, fuel := n, inl := [], deep := 0 }
def zH_m (n : Nat) (s : List Int) (v : Int) : Option (Bool × Unit) :=
  (Option.bind (zS_M s v) fun (v0 : Int × Unit) => some (decide (v0.1 ≥ (0 : Int)), ()))
theorem zH_eq (n : Nat) (x : zH_a.den) : runF zH_g (zH_an n) Tryz.f125 zH_a zH_r x = zH_m n x.1 x.2.1 := by kernel_rfl
def zH_M (s : List Int) (v : Int) : Option (Bool × Unit) := zH_m 0 s v
theorem zH_run (s : List Int) (v : Int) (y : Bool × Unit) (h : zH_M s v = some y) : ∃ n, zH_m n s v = some y := ⟨0, h⟩
def zH_e : Entry := { f := 125, args := zH_a, ress := zH_r, m := fun x => zH_M x.1 x.2.1 }
theorem zH_ok : FnOK Tryz.prog zH_e := fn_ok (g := zH_g) (fn := Tryz.f125) hmixed tabOk (eCons zS_ok eNil) (by kernel_rfl) (by kernel_rfl) (by kernel_rfl) (fun x y h => let ⟨n, hn⟩ := zH_run x.1 x.2.1 y h; ⟨zH_an n, iNil, (zH_eq n x).trans hn⟩)
abbrev zA_a : Ty := .pair t37 (.pair t9 .unit)
abbrev zA_r : Ty := .pair t4 .unit
def zA_g : G := { T := T, E := [zD_e], muts := [], fz := [] }
def zA_k : List (List Nat) := []
def zA_an (n : Nat) : Ann := { keep := zA_k, fuel := n, inl := [], deep := 0 }
def zA_m (n : Nat) (s : List (List UInt8)) (v : List UInt8) : Option (Bool × Unit) :=
  (Option.bind (zD_M s v) fun (v0 : Int × Unit) => some (decide (v0.1 ≥ (0 : Int)), ()))
theorem zA_eq (n : Nat) (x : zA_a.den) : runF zA_g (zA_an n) Tryz.f135 zA_a zA_r x = zA_m n x.1 x.2.1 := by kernel_rfl
def zA_M (s : List (List UInt8)) (v : List UInt8) : Option (Bool × Unit) := zA_m 0 s v
theorem zA_run (s : List (List UInt8)) (v : List UInt8) (y : Bool × Unit) (h : zA_M s v = some y) : ∃ n, zA_m n s v = some y := ⟨0, h⟩
def zA_e : Entry := { f := 135, args := zA_a, ress := zA_r, m := fun x => zA_M x.1 x.2.1 }
theorem zA_ok : FnOK Tryz.prog zA_e := fn_ok (g := zA_g) (fn := Tryz.f135) hmixed tabOk (eCons zD_ok eNil) (by kernel_rfl) (by kernel_rfl) (by kernel_rfl) (fun x y h => let ⟨n, hn⟩ := zA_run x.1 x.2.1 y h; ⟨zA_an n, iNil, (zA_eq n x).trans hn⟩)
abbrev zz_a : Ty := .pair t9 .unit
abbrev zz_r : Ty := .pair t29 .unit
def zz_g : G := { T := T, E := [z0D_e, z0d_e], muts := [], fz := [] }
def zz_k : List (List Nat) := []
def zz_an (n : Nat) : Ann := { keep := zz_k, fuel := n, inl := [], deep := 0 }
def zz_m (n : Nat) (s : List UInt8) : Option (Int × Unit) :=
  (Option.bind (z0D_M s) fun (v0 : Bool × Unit) => some ((z0d (!v0.1) (8 : Int)).1, ()))
theorem zz_eq (n : Nat) (x : zz_a.den) : runF zz_g (zz_an n) Tryz.f137 zz_a zz_r x = zz_m n x.1 := by kernel_rfl
def zz_M (s : List UInt8) : Option (Int × Unit) := zz_m 0 s
theorem zz_run (s : List UInt8) (y : Int × Unit) (h : zz_M s = some y) : ∃ n, zz_m n s = some y := ⟨0, h⟩
def zz_e : Entry := { f := 137, args := zz_a, ress := zz_r, m := fun x => zz_M x.1 }
theorem zz_ok : FnOK Tryz.prog zz_e := fn_ok (g := zz_g) (fn := Tryz.f137) hmixed tabOk (eCons z0D_ok (eCons z0d_ok eNil)) (by kernel_rfl) (by kernel_rfl) (by kernel_rfl) (fun x y h => let ⟨n, hn⟩ := zz_run x.1 y h; ⟨zz_an n, iNil, (zz_eq n x).trans hn⟩)
abbrev zU_a : Ty := .pair t148 (.pair t3 .unit)
abbrev zU_r : Ty := .pair t4 .unit
def zU_g : G := { T := T, E := [z0M_e], muts := [], fz := [] }
def zU_k : List (List Nat) := []
def zU_an (n : Nat) : Ann := { keep := zU_k, fuel := n, inl := [], deep := 0 }
def zU_m (n : Nat) (t : Tra) (conditions : Int) : Option (Bool × Unit) :=
  some (eqV (Ty.arr (4 : Nat) Ty.bool) (z0M (bitsOp IntKind.i64 Go.BinOp.and conditions t.2.2.2.1)).1 (z0M t.2.2.2.2.1).1, ())
theorem zU_eq (n : Nat) (x : zU_a.den) : runF zU_g (zU_an n) Tryz.f141 zU_a zU_r x = zU_m n x.1 x.2.1 := by kernel_rfl
def zU (t : Tra) (conditions : Int) : (Bool × Unit) :=
  (eqV (Ty.arr (4 : Nat) Ty.bool) (z0M (bitsOp IntKind.i64 Go.BinOp.and conditions t.2.2.2.1)).1 (z0M t.2.2.2.2.1).1, ())
abbrev zU_M (t : Tra) (conditions : Int) : Option (Bool × Unit) := some (zU t conditions)
theorem zU_run (t : Tra) (conditions : Int) (y : Bool × Unit) (h : zU_M t conditions = some y) : ∃ n, zU_m n t conditions = some y :=
  ⟨0, by rw [← h]; show zU_m 0 t conditions = some (zU t conditions); unfold zU_m zU; first | rfl | (simp only [cond_some]; done) | (simp only [cond_some]; rfl)⟩
def zU_e : Entry := { f := 141, args := zU_a, ress := zU_r, m := fun x => zU_M x.1 x.2.1 }
theorem zU_ok : FnOK Tryz.prog zU_e := fn_ok (g := zU_g) (fn := Tryz.f141) hmixed tabOk (eCons z0M_ok eNil) (by kernel_rfl) (by kernel_rfl) (by kernel_rfl) (fun x y h => let ⟨n, hn⟩ := zU_run x.1 x.2.1 y h; ⟨zU_an n, iNil, (zU_eq n x).trans hn⟩)
abbrev zC_a : Ty := .pair t28 (.pair t181 .unit)
abbrev zC_r : Ty := .pair t4 .unit
def zC_g : G := { T := T, E := [zG_e], muts := [], fz := [] }
def zC_k : List (List Nat) := []
def zC_an (n : Nat) : Ann := { keep := zC_k, fuel := n, inl := [], deep := 0 }
def zC_m (n : Nat) (s : List Int) (f : Int × Unit → Option (Bool × Unit)) : Option (Bool × Unit) :=
  (Option.bind (zG_M s f) fun (v0 : Int × Unit) => some (decide (v0.1 ≥ (0 : Int)), ()))
theorem zC_eq (n : Nat) (x : zC_a.den) : runF zC_g (zC_an n) Tryz.f149 zC_a zC_r x = zC_m n x.1 x.2.1 := by kernel_rfl
def zC_M (s : List Int) (f : Int × Unit → Option (Bool × Unit)) : Option (Bool × Unit) := zC_m 0 s f
theorem zC_run (s : List Int) (f : Int × Unit → Option (Bool × Unit)) (y : Bool × Unit) (h : zC_M s f = some y) : ∃ n, zC_m n s f = some y := ⟨0, h⟩
def zC_e : Entry := { f := 149, args := zC_a, ress := zC_r, m := fun x => zC_M x.1 x.2.1 }
theorem zC_ok : FnOK Tryz.prog zC_e := fn_ok (g := zC_g) (fn := Tryz.f149) hmixed tabOk (eCons zG_ok eNil) (by kernel_rfl) (by kernel_rfl) (by kernel_rfl) (fun x y h => let ⟨n, hn⟩ := zC_run x.1 x.2.1 y h; ⟨zC_an n, iNil, (zC_eq n x).trans hn⟩)
abbrev z0V_a : Ty := .unit
abbrev z0V_r : Ty := .pair t238 .unit
def z0V_g : G := { T := T, E := [z08_e, z09_e, z0A_e, z0B_e, z0C_e, zd_e], muts := [], fz := [] }
def z0V_k : List (List Nat) := []
def z0V_an (n : Nat) : Ann := { keep := z0V_k, fuel := n, inl := [], deep := 0 }
def z0V_m (n : Nat)  : Option (List (List UInt8 × (Fai × Unit → Option (Fai × Unit)) × (Fai × Int × (List UInt8 × Int × Unit) × Unit → Option ((List UInt8 × Int × Unit) × Bool × Unit)) × Unit) × Unit) :=
  some ([([(110 : UInt8), (111 : UInt8), (110 : UInt8), (101 : UInt8)], fun (x : Fai × Unit) => z08_M x.1, fun (x : Fai × Int × (List UInt8 × Int × Unit) × Unit) => z09_M x.1 x.2.1 x.2.2.1, ()), ([(108 : UInt8), (111 : UInt8), (115 : UInt8), (116 : UInt8)], fun (x : Fai × Unit) => z0A_M x.1, fun (x : Fai × Int × (List UInt8 × Int × Unit) × Unit) => z0B_M x.1 x.2.1 x.2.2.1, ()), ([(115 : UInt8), (116 : UInt8), (117 : UInt8), (99 : UInt8), (107 : UInt8)], fun (x : Fai × Unit) => z0C_M x.1, fun (x : Fai × Int × (List UInt8 × Int × Unit) × Unit) => zd_M x.1 x.2.1 x.2.2.1, ())], ())
theorem z0V_eq (n : Nat) (x : z0V_a.den) : runF z0V_g (z0V_an n) Tryz.f156 z0V_a z0V_r x = z0V_m n := by kernel_rfl
def z0V  : (List (List UInt8 × (Fai × Unit → Option (Fai × Unit)) × (Fai × Int × (List UInt8 × Int × Unit) × Unit → Option ((List UInt8 × Int × Unit) × Bool × Unit)) × Unit) × Unit) :=
  ([([(110 : UInt8), (111 : UInt8), (110 : UInt8), (101 : UInt8)], fun (x : Fai × Unit) => z08_M x.1, fun (x : Fai × Int × (List UInt8 × Int × Unit) × Unit) => z09_M x.1 x.2.1 x.2.2.1, ()), ([(108 : UInt8), (111 : UInt8), (115 : UInt8), (116 : UInt8)], fun (x : Fai × Unit) => z0A_M x.1, fun (x : Fai × Int × (List UInt8 × Int × Unit) × Unit) => z0B_M x.1 x.2.1 x.2.2.1, ()), ([(115 : UInt8), (116 : UInt8), (117 : UInt8), (99 : UInt8), (107 : UInt8)], fun (x : Fai × Unit) => z0C_M x.1, fun (x : Fai × Int × (List UInt8 × Int × Unit) × Unit) => zd_M x.1 x.2.1 x.2.2.1, ())], ())
abbrev z0V_M  : Option (List (List UInt8 × (Fai × Unit → Option (Fai × Unit)) × (Fai × Int × (List UInt8 × Int × Unit) × Unit → Option ((List UInt8 × Int × Unit) × Bool × Unit)) × Unit) × Unit) := some (z0V)
theorem z0V_run  (y : List (List UInt8 × (Fai × Unit → Option (Fai × Unit)) × (Fai × Int × (List UInt8 × Int × Unit) × Unit → Option ((List UInt8 × Int × Unit) × Bool × Unit)) × Unit) × Unit) (h : z0V_M = some y) : ∃ n, z0V_m n = some y :=
  ⟨0, by rw [← h]; show z0V_m 0 = some (z0V); unfold z0V_m z0V; first | rfl | (simp only [cond_some]; done) | (simp only [cond_some]; rfl)⟩
def z0V_e : Entry := { f := 156, args := z0V_a, ress := z0V_r, m := fun x => z0V_M }
theorem z0V_ok : FnOK Tryz.prog z0V_e := fn_ok (g := z0V_g) (fn := Tryz.f156) hmixed tabOk (eCons z08_ok (eCons z09_ok (eCons z0A_ok (eCons z0B_ok (eCons z0C_ok (eCons zd_ok eNil)))))) (by kernel_rfl) (by kernel_rfl) (by kernel_rfl) (fun x y h => let ⟨n, hn⟩ := z0V_run y h; ⟨z0V_an n, iNil, (z0V_eq n x).trans hn⟩)
end
end Go.Tw
end
section
set_option linter.all false
set_option maxRecDepth 1000000
namespace Go.Tw
open Go.Vx Go.Vx.B Go.Proofs
noncomputable section
abbrev zn_a : Ty := .pair t25 .unit
abbrev zn_r : Ty := .pair t3 .unit
def zn_g : G := { T := T, E := [zu_e, z02_e, zm_e, z0Y_e, z0Q_e, z0H_e], muts := [], fz := [] }
def zn_k : List (List Nat) := [[1, 3], [1, 3, 4, 6], [1, 7], [1, 11]]
def zn_an (n : Nat) : Ann := { keep := zn_k, fuel := n, inl := [], deep := 0 }
def zn_m_l3 (n : Nat) (r0 : Cha → Int → Option (Int × Unit)) (r3 : Cha → Int → Int → List UInt8 → Int → Int → Bool → Option (Int × Unit)) (c1_3 : Cha) (i3_3 : Int) (k6_3 : Int) (b0_0_3 : List UInt8) (b0_1_3 : Int) (b0_2_3 : Int) (b0_3_3 : Bool) : Option (Int × Unit) :=
  (bif decide (k6_3 < i3_3) then (Option.bind (idx c1_3.1 k6_3) fun (v4 : Sta) => (bif v4.1 == b0_0_3 then some ((9 : Int), ()) else r3 c1_3 i3_3 (IntKind.i64.wrap (k6_3 + (1 : Int))) b0_0_3 b0_1_3 b0_2_3 b0_3_3)) else (bif decide (b0_1_3 < (-1 : Int)) then some ((11 : Int), ()) else (bif decide (b0_1_3 ≥ i3_3) then some ((11 : Int), ()) else r0 c1_3 (IntKind.i64.wrap (i3_3 + (1 : Int))))))
def zn_m_w3 (n : Nat) (r0 : Cha → Int → Option (Int × Unit)) (k : Nat) (c1_3 : Cha) (i3_3 : Int) (k6_3 : Int) (b0_0_3 : List UInt8) (b0_1_3 : Int) (b0_2_3 : Int) (b0_3_3 : Bool) : Option (Int × Unit) :=
  iter (fun r y => zn_m_l3 n r0 (fun c1_3 i3_3 k6_3 b0_0_3 b0_1_3 b0_2_3 b0_3_3 => r ((c1_3, (i3_3, (k6_3, ()))), (((b0_0_3, (b0_1_3, (b0_2_3, (b0_3_3, ())))), ()), ()))) y.1.1 y.1.2.1 y.1.2.2.1 y.2.1.1.1 y.2.1.1.2.1 y.2.1.1.2.2.1 y.2.1.1.2.2.2.1) k ((c1_3, (i3_3, (k6_3, ()))), (((b0_0_3, (b0_1_3, (b0_2_3, (b0_3_3, ())))), ()), ()))
def zn_m_l19 (n : Nat) (r19 : Cha → Int → Option (Int × Unit)) (c1_19 : Cha) (i11_19 : Int) : Option (Int × Unit) :=
  (bif decide (i11_19 < (↑c1_19.2.1.length : Int)) then (Option.bind (idx c1_19.2.1 i11_19) fun (v20 : Tra) => (bif (zm v20.1 (0 : Int) (IntKind.i64.wrap ((↑c1_19.1.length : Int) - (1 : Int)))).1 != (0 : Int) then some ((10 : Int), ()) else (bif (zm v20.2.2.1 (0 : Int) (IntKind.i64.wrap ((↑c1_19.1.length : Int) - (1 : Int)))).1 != (0 : Int) then some ((10 : Int), ()) else (Option.bind (zu_M v20.2.1) fun (v23 : Int × Unit) => (Option.bind (z0Q_M [v23.1, (zm v20.2.2.2.1 (0 : Int) (15 : Int)).1, (zm v20.2.2.2.2.1 (0 : Int) (15 : Int)).1, (z0Y (bitsOp IntKind.i64 Go.BinOp.and v20.2.2.2.2.1 v20.2.2.2.1 != v20.2.2.2.2.1) (1 : Int)).1]) fun (v24 : Int × Unit) => (bif v24.1 != (0 : Int) then some (v24.1, ()) else r19 c1_19 (IntKind.i64.wrap (i11_19 + (1 : Int))))))))) else (Option.bind (z0H_M c1_19) fun (v25 : List (List UInt8) × Unit) => some ((z0Y (decide ((↑v25.1.length : Int) > (8 : Int))) (5 : Int)).1, ())))
def zn_m_w19 (n : Nat)  (k : Nat) (c1_19 : Cha) (i11_19 : Int) : Option (Int × Unit) :=
  iter (fun r y => zn_m_l19 n (fun c1_19 i11_19 => r ((c1_19, (i11_19, ())), ((), ()))) y.1.1 y.1.2.1) k ((c1_19, (i11_19, ())), ((), ()))
def zn_m_l7 (n : Nat) (r7 : Cha → Int → Option (Int × Unit)) (c1_7 : Cha) (i7_7 : Int) : Option (Int × Unit) :=
  (bif decide (i7_7 < (↑c1_7.1.length : Int)) then (Option.bind (idx c1_7.1 i7_7) fun (v8 : Sta) => (Option.bind (z02_M c1_7 i7_7 v8.2.2.1) fun (v9 : Int × Bool × Unit) => (bif decide (v9.1 > (0 : Int)) then (bif !v9.2.1 then some ((1 : Int), ()) else (bif v8.2.2.2.1 then some ((1 : Int), ()) else (bif v9.1 == (0 : Int) then (bif v8.2.2.1 != (-1 : Int) then some ((1 : Int), ()) else r7 c1_7 (IntKind.i64.wrap (i7_7 + (1 : Int)))) else r7 c1_7 (IntKind.i64.wrap (i7_7 + (1 : Int)))))) else (bif v9.1 == (0 : Int) then (bif v8.2.2.1 != (-1 : Int) then some ((1 : Int), ()) else r7 c1_7 (IntKind.i64.wrap (i7_7 + (1 : Int)))) else r7 c1_7 (IntKind.i64.wrap (i7_7 + (1 : Int))))))) else (bif decide ((↑c1_7.2.1.length : Int) > (48 : Int)) then some ((5 : Int), ()) else (zn_m_w19 n n (c1_7) ((0 : Int)))))
def zn_m_w7 (n : Nat)  (k : Nat) (c1_7 : Cha) (i7_7 : Int) : Option (Int × Unit) :=
  iter (fun r y => zn_m_l7 n (fun c1_7 i7_7 => r ((c1_7, (i7_7, ())), ((), ()))) y.1.1 y.1.2.1) k ((c1_7, (i7_7, ())), ((), ()))
def zn_m_l0 (n : Nat) (r0 : Cha → Int → Option (Int × Unit)) (c1_0 : Cha) (i3_0 : Int) : Option (Int × Unit) :=
  (bif decide (i3_0 < (↑c1_0.1.length : Int)) then (Option.bind (idx c1_0.1 i3_0) fun (v1 : Sta) => (Option.bind (zu_M v1.1) fun (v2 : Int × Unit) => (bif v2.1 != (0 : Int) then some (v2.1, ()) else (zn_m_w3 n r0 n (c1_0) (i3_0) ((0 : Int)) (v1.1) (v1.2.1) (v1.2.2.1) (v1.2.2.2.1))))) else (zn_m_w7 n n (c1_0) ((0 : Int))))
def zn_m_w0 (n : Nat)  (k : Nat) (c1_0 : Cha) (i3_0 : Int) : Option (Int × Unit) :=
  iter (fun r y => zn_m_l0 n (fun c1_0 i3_0 => r ((c1_0, (i3_0, ())), ((), ()))) y.1.1 y.1.2.1) k ((c1_0, (i3_0, ())), ((), ()))
def zn_m (n : Nat) (c : Cha) : Option (Int × Unit) :=
  (bif (↑c.1.length : Int) == (0 : Int) then some ((12 : Int), ()) else (bif decide ((↑c.1.length : Int) > (16 : Int)) then some ((5 : Int), ()) else (zn_m_w0 n n (c) ((0 : Int)))))
theorem zn_eq (n : Nat) (x : zn_a.den) : runF zn_g (zn_an n) Tryz.f20 zn_a zn_r x = zn_m n x.1 := by kernel_rfl
def zn_b3 (c1_3 : Cha) (i3_3 : Int) (b0_0_3 : List UInt8) (b0_1_3 : Int) (b0_2_3 : Int) (b0_3_3 : Bool) (k6_3 : Int) : Option (((Int × Unit) ⊕ Unit) ⊕ Unit) :=
  (Option.bind (idx c1_3.1 k6_3) fun (v4 : Sta) => (bif v4.1 == b0_0_3 then (some (Sum.inl (Sum.inl (((9 : Int), ()))))) else (some (Sum.inr ()))))
def zn_f3 (c1_3 : Cha) (i3_3 : Int) (b0_0_3 : List UInt8) (b0_1_3 : Int) (b0_2_3 : Int) (b0_3_3 : Bool) : Option ((Int × Unit) ⊕ Unit) :=
  (bif decide (b0_1_3 < (-1 : Int)) then (some (Sum.inl (((11 : Int), ())))) else (bif decide (b0_1_3 ≥ i3_3) then (some (Sum.inl (((11 : Int), ())))) else (some (Sum.inr ()))))
theorem zn_m_w3_le (n : Nat) (hn : big ≤ n)  (r0 : Cha → Int → Option (Int × Unit)) (c1_3 : Cha) (i3_3 : Int) (b0_0_3 : List UInt8) (b0_1_3 : Int) (b0_2_3 : Int) (b0_3_3 : Bool) (hx : (i3_3) ≤ (9223372036854775807 : Int)) : LeF (elim some fun (s__ : Unit) => r0 c1_3 (IntKind.i64.wrap (i3_3 + 1))) (loopN (fun i__ s__ => zn_b3 c1_3 i3_3 b0_0_3 b0_1_3 b0_2_3 b0_3_3 i__) (fun s__ => zn_f3 c1_3 i3_3 b0_0_3 b0_1_3 b0_2_3 b0_3_3) ((i3_3) - 0).toNat 0 ()) (zn_m_w3 n r0 n c1_3 i3_3 0 b0_0_3 b0_1_3 b0_2_3 b0_3_3) := by
  refine loopN_le (f := (elim some fun (s__ : Unit) => r0 c1_3 (IntKind.i64.wrap (i3_3 + 1)))) (W := fun k__ i__ s__ => zn_m_w3 n r0 k__ c1_3 i3_3 i__ b0_0_3 b0_1_3 b0_2_3 b0_3_3) (body := (fun i__ s__ => zn_b3 c1_3 i3_3 b0_0_3 b0_1_3 b0_2_3 b0_3_3 i__)) (fin := (fun s__ => zn_f3 c1_3 i3_3 b0_0_3 b0_1_3 b0_2_3 b0_3_3)) (fun k__ i__ s__ => ?_) hx () n 0 (by decide) (by unfold big at hn; omega)
  show LeF _ _ (zn_m_l3 n r0 (zn_m_w3 n r0 k__) c1_3 i3_3 i__ b0_0_3 b0_1_3 b0_2_3 b0_3_3)
  exact leCond (leBind fun v4 => (leCond (leSome rfl) (leSome rfl))) (leMap (leCond (leSome rfl) (leCond (leSome rfl) (leSome rfl))))
def zn_b19 (c1_19 : Cha) (i11_19 : Int) (v20 : Tra) : Option ((Int × Unit) ⊕ Unit) :=
  (bif (zm v20.1 (0 : Int) (IntKind.i64.wrap ((↑c1_19.1.length : Int) - (1 : Int)))).1 != (0 : Int) then (some (Sum.inl (((10 : Int), ())))) else (bif (zm v20.2.2.1 (0 : Int) (IntKind.i64.wrap ((↑c1_19.1.length : Int) - (1 : Int)))).1 != (0 : Int) then (some (Sum.inl (((10 : Int), ())))) else (Option.bind (zu_M v20.2.1) fun (v23 : Int × Unit) => (Option.bind (z0Q_M [v23.1, (zm v20.2.2.2.1 (0 : Int) (15 : Int)).1, (zm v20.2.2.2.2.1 (0 : Int) (15 : Int)).1, (z0Y (bitsOp IntKind.i64 Go.BinOp.and v20.2.2.2.2.1 v20.2.2.2.1 != v20.2.2.2.2.1) (1 : Int)).1]) fun (v24 : Int × Unit) => (bif v24.1 != (0 : Int) then (some (Sum.inl ((v24.1, ())))) else (some (Sum.inr ())))))))
def zn_f19 (c1_19 : Cha) : Option (Int × Unit) :=
  (Option.bind (z0H_M c1_19) fun (v25 : List (List UInt8) × Unit) => (some (((z0Y (decide ((↑v25.1.length : Int) > (8 : Int))) (5 : Int)).1, ()))))
theorem zn_m_w19_le (n : Nat) (hn : big ≤ n)  (c1_19 : Cha) (hx : List.length (c1_19.2.1) < lenMax) : LeF some (loopL (fun i__ e__ s__ => zn_b19 c1_19 i__ e__) (fun s__ => zn_f19 c1_19) 0 (c1_19.2.1) ()) (zn_m_w19 n n c1_19 0) := by
  refine loopL_le (f := some) (W := fun k__ i__ s__ => zn_m_w19 n k__ c1_19 i__) (body := (fun i__ e__ s__ => zn_b19 c1_19 i__ e__)) (fin := (fun s__ => zn_f19 c1_19)) (fun k__ i__ s__ => ?_) hx () n (by unfold big at hn; unfold lenMax at hx; omega)
  show LeF _ _ (zn_m_l19 n (zn_m_w19 n k__) c1_19 i__)
  exact leCond (leBind fun v20 => (leCond (leSome rfl) (leCond (leSome rfl) (leBind fun v23 => (leBind fun v24 => (leCond (leSome rfl) (leSome rfl))))))) (leMap (leBind fun v25 => (leSome rfl)))
def zn_b7 (c1_7 : Cha) (i7_7 : Int) (v8 : Sta) : Option ((Int × Unit) ⊕ Unit) :=
  (Option.bind (z02_M c1_7 i7_7 v8.2.2.1) fun (v9 : Int × Bool × Unit) => (bif decide (v9.1 > (0 : Int)) then (bif !v9.2.1 then (some (Sum.inl (((1 : Int), ())))) else (bif v8.2.2.2.1 then (some (Sum.inl (((1 : Int), ())))) else (bif v9.1 == (0 : Int) then (bif v8.2.2.1 != (-1 : Int) then (some (Sum.inl (((1 : Int), ())))) else (some (Sum.inr ()))) else (some (Sum.inr ()))))) else (bif v9.1 == (0 : Int) then (bif v8.2.2.1 != (-1 : Int) then (some (Sum.inl (((1 : Int), ())))) else (some (Sum.inr ()))) else (some (Sum.inr ())))))
def zn_f7 (c1_7 : Cha) : Option (Int × Unit) :=
  (bif decide ((↑c1_7.2.1.length : Int) > (48 : Int)) then (some (((5 : Int), ()))) else (bif decide (List.length (c1_7.2.1) < lenMax) then loopL (fun i__ e__ s__ => zn_b19 (c1_7) i__ e__) (fun s__ => zn_f19 (c1_7)) 0 (c1_7.2.1) () else none))
theorem zn_m_w7_le (n : Nat) (hn : big ≤ n)  (c1_7 : Cha) (hx : List.length (c1_7.1) < lenMax) : LeF some (loopL (fun i__ e__ s__ => zn_b7 c1_7 i__ e__) (fun s__ => zn_f7 c1_7) 0 (c1_7.1) ()) (zn_m_w7 n n c1_7 0) := by
  refine loopL_le (f := some) (W := fun k__ i__ s__ => zn_m_w7 n k__ c1_7 i__) (body := (fun i__ e__ s__ => zn_b7 c1_7 i__ e__)) (fin := (fun s__ => zn_f7 c1_7)) (fun k__ i__ s__ => ?_) hx () n (by unfold big at hn; unfold lenMax at hx; omega)
  show LeF _ _ (zn_m_l7 n (zn_m_w7 n k__) c1_7 i__)
  exact leCond (leBind fun v8 => (leBind fun v9 => (leCond (leCond (leSome rfl) (leCond (leSome rfl) (leCond (leCond (leSome rfl) (leSome rfl)) (leSome rfl)))) (leCond (leCond (leSome rfl) (leSome rfl)) (leSome rfl))))) (leMap (leCond (leSome rfl) (leGuard fun hx => by apply zn_m_w19_le n hn; exact hx)))
def zn_b0 (c1_0 : Cha) (i3_0 : Int) (v1 : Sta) : Option ((Int × Unit) ⊕ Unit) :=
  (Option.bind (zu_M v1.1) fun (v2 : Int × Unit) => (bif v2.1 != (0 : Int) then (some (Sum.inl ((v2.1, ())))) else (bif decide ((i3_0) ≤ (9223372036854775807 : Int)) then loopN (fun i__ s__ => zn_b3 (c1_0) (i3_0) (v1.1) (v1.2.1) (v1.2.2.1) (v1.2.2.2.1) i__) (fun s__ => zn_f3 (c1_0) (i3_0) (v1.1) (v1.2.1) (v1.2.2.1) (v1.2.2.2.1)) ((i3_0) - 0).toNat 0 () else none)))
def zn_f0 (c1_0 : Cha) : Option (Int × Unit) :=
  (bif decide (List.length (c1_0.1) < lenMax) then loopL (fun i__ e__ s__ => zn_b7 (c1_0) i__ e__) (fun s__ => zn_f7 (c1_0)) 0 (c1_0.1) () else none)
theorem zn_m_w0_le (n : Nat) (hn : big ≤ n)  (c1_0 : Cha) (hx : List.length (c1_0.1) < lenMax) : LeF some (loopL (fun i__ e__ s__ => zn_b0 c1_0 i__ e__) (fun s__ => zn_f0 c1_0) 0 (c1_0.1) ()) (zn_m_w0 n n c1_0 0) := by
  refine loopL_le (f := some) (W := fun k__ i__ s__ => zn_m_w0 n k__ c1_0 i__) (body := (fun i__ e__ s__ => zn_b0 c1_0 i__ e__)) (fin := (fun s__ => zn_f0 c1_0)) (fun k__ i__ s__ => ?_) hx () n (by unfold big at hn; unfold lenMax at hx; omega)
  show LeF _ _ (zn_m_l0 n (zn_m_w0 n k__) c1_0 i__)
  exact leCond (leBind fun v1 => (leBind fun v2 => (leCond (leSome rfl) (leGuard fun hx => by apply zn_m_w3_le n hn; exact hx)))) (leMap (leGuard fun hx => by apply zn_m_w7_le n hn; exact hx))
def zn_M (c : Cha) : Option (Int × Unit) :=
  (bif (↑c.1.length : Int) == (0 : Int) then (some (((12 : Int), ()))) else (bif decide ((↑c.1.length : Int) > (16 : Int)) then (some (((5 : Int), ()))) else (bif decide (List.length (c.1) < lenMax) then loopL (fun i__ e__ s__ => zn_b0 (c) i__ e__) (fun s__ => zn_f0 (c)) 0 (c.1) () else none)))
theorem zn_run (c : Cha) (y : Int × Unit) (h : zn_M c = some y) : ∃ n, zn_m n c = some y :=
  ⟨big, LeF.top (show LeF some (zn_M c) (zn_m big c) from (fun (n : Nat) (hn : big ≤ n) => show LeF some (zn_M c) (zn_m n c) from (leCond (leSome rfl) (leCond (leSome rfl) (leGuard fun hx => by apply zn_m_w0_le n hn; exact hx)))) big (Nat.le_refl _)) h⟩
def zn_e : Entry := { f := 20, args := zn_a, ress := zn_r, m := fun x => zn_M x.1 }
theorem zn_ok : FnOK Tryz.prog zn_e := fn_ok (g := zn_g) (fn := Tryz.f20) hmixed tabOk (eCons zu_ok (eCons z02_ok (eCons zm_ok (eCons z0Y_ok (eCons z0Q_ok (eCons z0H_ok eNil)))))) (by kernel_rfl) (by kernel_rfl) (by kernel_rfl) (fun x y h => let ⟨n, hn⟩ := zn_run x.1 y h; ⟨zn_an n, iNil, (zn_eq n x).trans hn⟩)
abbrev zX_a : Ty := .pair t35 .unit
abbrev zX_r : Ty := .pair t37 .unit
def zX_g : G := { T := T, E := [zA_e], muts := [3], fz := [] }
def zX_k : List (List Nat) := [[3, 7, 8, 9]]
def zX_an (n : Nat) : Ann := { keep := zX_k, fuel := n, inl := [], deep := 0 }
def zX_m_l0 (n : Nat) (r0 : List Tra → Int → Int → List (List UInt8) → Option (List (List UInt8) × Unit)) (t7_0 : List Tra) (t8_0 : Int) (t9_0 : Int) (c0_0 : List (List UInt8)) : Option (List (List UInt8) × Unit) :=
  (bif decide (t9_0 < t8_0) then (Option.bind (idx t7_0 t9_0) fun (v1 : Tra) => (Option.bind (zA_M c0_0 v1.2.1) fun (v2 : Bool × Unit) => (bif !v2.1 then (bif decide (c0_0.length + (1 : Nat) ≤ memMax) then r0 t7_0 t8_0 (IntKind.i64.wrap (t9_0 + (1 : Int))) (c0_0 ++ [v1.2.1]) else none) else r0 t7_0 t8_0 (IntKind.i64.wrap (t9_0 + (1 : Int))) c0_0))) else some (c0_0, ()))
def zX_m_w0 (n : Nat)  (k : Nat) (t7_0 : List Tra) (t8_0 : Int) (t9_0 : Int) (c0_0 : List (List UInt8)) : Option (List (List UInt8) × Unit) :=
  iter (fun r y => zX_m_l0 n (fun t7_0 t8_0 t9_0 c0_0 => r ((t7_0, (t8_0, (t9_0, ()))), ((c0_0, ()), ()))) y.1.1 y.1.2.1 y.1.2.2.1 y.2.1.1) k ((t7_0, (t8_0, (t9_0, ()))), ((c0_0, ()), ()))
def zX_m (n : Nat) (c : Cha) : Option (List (List UInt8) × Unit) :=
  (zX_m_w0 n n (c.2.1) ((↑c.2.1.length : Int)) ((0 : Int)) ([]))
theorem zX_eq (n : Nat) (x : zX_a.den) : runF zX_g (zX_an n) Tryz.f87 zX_a zX_r x = zX_m n x.1 := by kernel_rfl
def zX_b0 (t7_0 : List Tra) (t9_0 : Int) (v1 : Tra) (c0_0 : List (List UInt8)) : Option ((List (List UInt8) × Unit) ⊕ (List (List UInt8))) :=
  (Option.bind (zA_M c0_0 v1.2.1) fun (v2 : Bool × Unit) => (bif !v2.1 then (bif decide (c0_0.length + (1 : Nat) ≤ memMax) then (some (Sum.inr (c0_0 ++ [v1.2.1]))) else none) else (some (Sum.inr (c0_0)))))
def zX_f0 (t7_0 : List Tra) (c0_0 : List (List UInt8)) : Option (List (List UInt8) × Unit) :=
  (some ((c0_0, ())))
theorem zX_m_w0_le (n : Nat) (hn : big ≤ n)  (t7_0 : List Tra) (c0_0 : List (List UInt8)) (hx : List.length (t7_0) < lenMax) : LeF some (loopL (fun i__ e__ s__ => zX_b0 t7_0 i__ e__ s__) (fun s__ => zX_f0 t7_0 s__) 0 (t7_0) c0_0) (zX_m_w0 n n t7_0 (List.length (t7_0) : Int) 0 c0_0) := by
  refine loopL_le (f := some) (W := fun k__ i__ s__ => zX_m_w0 n k__ t7_0 (List.length (t7_0) : Int) i__ s__) (body := (fun i__ e__ s__ => zX_b0 t7_0 i__ e__ s__)) (fin := (fun s__ => zX_f0 t7_0 s__)) (fun k__ i__ s__ => ?_) hx c0_0 n (by unfold big at hn; unfold lenMax at hx; omega)
  show LeF _ _ (zX_m_l0 n (zX_m_w0 n k__) t7_0 (List.length (t7_0) : Int) i__ s__)
  exact leCond (leBind fun v1 => (leBind fun v2 => (leCond (leCond (leSome rfl) leNone) (leSome rfl)))) (leMap (leSome rfl))
def zX_M (c : Cha) : Option (List (List UInt8) × Unit) :=
  (bif decide (List.length (c.2.1) < lenMax) then loopL (fun i__ e__ s__ => zX_b0 (c.2.1) i__ e__ s__) (fun s__ => zX_f0 (c.2.1) s__) 0 (c.2.1) ([]) else none)
theorem zX_run (c : Cha) (y : List (List UInt8) × Unit) (h : zX_M c = some y) : ∃ n, zX_m n c = some y :=
  ⟨big, LeF.top (show LeF some (zX_M c) (zX_m big c) from (fun (n : Nat) (hn : big ≤ n) => show LeF some (zX_M c) (zX_m n c) from (leGuard fun hx => by apply zX_m_w0_le n hn; exact hx)) big (Nat.le_refl _)) h⟩
def zX_e : Entry := { f := 87, args := zX_a, ress := zX_r, m := fun x => zX_M x.1 }
theorem zX_ok : FnOK Tryz.prog zX_e := fn_ok (g := zX_g) (fn := Tryz.f87) hmixed tabOk (eCons zA_ok eNil) (by kernel_rfl) (by kernel_rfl) (by kernel_rfl) (fun x y h => let ⟨n, hn⟩ := zX_run x.1 y h; ⟨zX_an n, iNil, (zX_eq n x).trans hn⟩)
abbrev zJ_a : Ty := .pair t35 .unit
abbrev zJ_r : Ty := .pair t29 .unit
def zJ_g : G := { T := T, E := [zz_e, z0d_e, z0U_e, zH_e], muts := [12, 13], fz := [13] }
def zJ_k : List (List Nat) := [[1, 3, 4, 15, 16, 17], [4, 60, 61, 62]]
def zJ_an (n : Nat) : Ann := { keep := zJ_k, fuel := n, inl := [], deep := 0 }
def zJ_m_j19 (n : Nat) (r0 : Cha → List Sta → Int → Int → List (List UInt8 × Bool) → List (Int × List Int) → Option (Int × Unit)) (c1_0 : Cha) (t15_0 : List Sta) (t16_0 : Int) (t17_0 : Int) (m0_0 : List (List UInt8 × Bool)) (m1_0 : List (Int × List Int)) (v1 : Sta) : Option (Int × Unit) :=
  (bif eqKey (Ty.int IntKind.i64) v1.2.1 v1.2.1 then (bif decide (((mapGet (Ty.int IntKind.i64) (Ty.int IntKind.i64).slice m1_0 v1.2.1).getD []).length + (1 : Nat) ≤ memMax) then (bif eqKey (Ty.int IntKind.i64) v1.2.1 v1.2.1 then r0 c1_0 t15_0 t16_0 (IntKind.i64.wrap (t17_0 + (1 : Int))) (mapPut Ty.str Ty.bool m0_0 v1.1 Bool.true) (mapPut (Ty.int IntKind.i64) (Ty.int IntKind.i64).slice m1_0 v1.2.1 ((mapGet (Ty.int IntKind.i64) (Ty.int IntKind.i64).slice m1_0 v1.2.1).getD [] ++ [t17_0])) else none) else none) else none)
def zJ_m_l20 (n : Nat) (r20 : List (Int × List Int) → List Sta → Int → Int → Option (Int × Unit)) (children4_20 : List (Int × List Int)) (t60_20 : List Sta) (t61_20 : Int) (t62_20 : Int) : Option (Int × Unit) :=
  (bif decide (t62_20 < t61_20) then (Option.bind (idx t60_20 t62_20) fun (v21 : Sta) => (bif (↑((mapGet (Ty.int IntKind.i64) (Ty.int IntKind.i64).slice children4_20 t62_20).getD []).length : Int) == (0 : Int) then (bif v21.2.2.1 != (-1 : Int) then some ((1 : Int), ()) else (bif !(↑((mapGet (Ty.int IntKind.i64) (Ty.int IntKind.i64).slice children4_20 t62_20).getD []).length : Int) == (0 : Int) then (bif v21.2.2.2.1 then some ((1 : Int), ()) else (Option.bind (zH_M ((mapGet (Ty.int IntKind.i64) (Ty.int IntKind.i64).slice children4_20 t62_20).getD []) v21.2.2.1) fun (v22 : Bool × Unit) => (bif !v22.1 then some ((1 : Int), ()) else r20 children4_20 t60_20 t61_20 (IntKind.i64.wrap (t62_20 + (1 : Int)))))) else r20 children4_20 t60_20 t61_20 (IntKind.i64.wrap (t62_20 + (1 : Int))))) else (bif !(↑((mapGet (Ty.int IntKind.i64) (Ty.int IntKind.i64).slice children4_20 t62_20).getD []).length : Int) == (0 : Int) then (bif v21.2.2.2.1 then some ((1 : Int), ()) else (Option.bind (zH_M ((mapGet (Ty.int IntKind.i64) (Ty.int IntKind.i64).slice children4_20 t62_20).getD []) v21.2.2.1) fun (v23 : Bool × Unit) => (bif !v23.1 then some ((1 : Int), ()) else r20 children4_20 t60_20 t61_20 (IntKind.i64.wrap (t62_20 + (1 : Int)))))) else r20 children4_20 t60_20 t61_20 (IntKind.i64.wrap (t62_20 + (1 : Int)))))) else some ((0 : Int), ()))
def zJ_m_w20 (n : Nat)  (k : Nat) (children4_20 : List (Int × List Int)) (t60_20 : List Sta) (t61_20 : Int) (t62_20 : Int) : Option (Int × Unit) :=
  iter (fun r y => zJ_m_l20 n (fun children4_20 t60_20 t61_20 t62_20 => r ((children4_20, (t60_20, (t61_20, (t62_20, ())))), ((), ()))) y.1.1 y.1.2.1 y.1.2.2.1 y.1.2.2.2.1) k ((children4_20, (t60_20, (t61_20, (t62_20, ())))), ((), ()))
def zJ_m_l0 (n : Nat) (r0 : Cha → List Sta → Int → Int → List (List UInt8 × Bool) → List (Int × List Int) → Option (Int × Unit)) (c1_0 : Cha) (t15_0 : List Sta) (t16_0 : Int) (t17_0 : Int) (m0_0 : List (List UInt8 × Bool)) (m1_0 : List (Int × List Int)) : Option (Int × Unit) :=
  (bif decide (t17_0 < t16_0) then (Option.bind (idx t15_0 t17_0) fun (v1 : Sta) => (Option.bind (zz_M v1.1) fun (v2 : Int × Unit) => (bif decide (v1.2.1 < (-1 : Int)) then (Option.bind (z0U_M [v2.1, (z0d ((mapGet Ty.str Ty.bool m0_0 v1.1).getD Bool.false) (9 : Int)).1, (z0d Bool.true (11 : Int)).1]) fun (v3 : Int × Unit) => (bif v3.1 != (0 : Int) then some (v3.1, ()) else (zJ_m_j19 n r0 c1_0 t15_0 t16_0 t17_0 m0_0 m1_0 v1))) else (Option.bind (z0U_M [v2.1, (z0d ((mapGet Ty.str Ty.bool m0_0 v1.1).getD Bool.false) (9 : Int)).1, (z0d (decide (v1.2.1 ≥ t17_0)) (11 : Int)).1]) fun (v4 : Int × Unit) => (bif v4.1 != (0 : Int) then some (v4.1, ()) else (zJ_m_j19 n r0 c1_0 t15_0 t16_0 t17_0 m0_0 m1_0 v1)))))) else (zJ_m_w20 n n (m1_0) (c1_0.1) ((↑c1_0.1.length : Int)) ((0 : Int))))
def zJ_m_w0 (n : Nat)  (k : Nat) (c1_0 : Cha) (t15_0 : List Sta) (t16_0 : Int) (t17_0 : Int) (m0_0 : List (List UInt8 × Bool)) (m1_0 : List (Int × List Int)) : Option (Int × Unit) :=
  iter (fun r y => zJ_m_l0 n (fun c1_0 t15_0 t16_0 t17_0 m0_0 m1_0 => r ((c1_0, (t15_0, (t16_0, (t17_0, ())))), ((m0_0, (m1_0, ())), ()))) y.1.1 y.1.2.1 y.1.2.2.1 y.1.2.2.2.1 y.2.1.1 y.2.1.2.1) k ((c1_0, (t15_0, (t16_0, (t17_0, ())))), ((m0_0, (m1_0, ())), ()))
def zJ_m (n : Nat) (c : Cha) : Option (Int × Unit) :=
  (zJ_m_w0 n n (c) (c.1) ((↑c.1.length : Int)) ((0 : Int)) ([]) ([]))
theorem zJ_eq (n : Nat) (x : zJ_a.den) : runF zJ_g (zJ_an n) Tryz.f97 zJ_a zJ_r x = zJ_m n x.1 := by kernel_rfl
def zJ_s19 (c1_0 : Cha) (t15_0 : List Sta) (t17_0 : Int) (m0_0 : List (List UInt8 × Bool)) (m1_0 : List (Int × List Int)) (v1 : Sta) : Option ((Int × Unit) ⊕ (List (List UInt8 × Bool) × List (Int × List Int))) :=
  (bif eqKey (Ty.int IntKind.i64) v1.2.1 v1.2.1 then (bif decide (((mapGet (Ty.int IntKind.i64) (Ty.int IntKind.i64).slice m1_0 v1.2.1).getD []).length + (1 : Nat) ≤ memMax) then (bif eqKey (Ty.int IntKind.i64) v1.2.1 v1.2.1 then (some (Sum.inr ((mapPut Ty.str Ty.bool m0_0 v1.1 Bool.true), (mapPut (Ty.int IntKind.i64) (Ty.int IntKind.i64).slice m1_0 v1.2.1 ((mapGet (Ty.int IntKind.i64) (Ty.int IntKind.i64).slice m1_0 v1.2.1).getD [] ++ [t17_0]))))) else none) else none) else none)
theorem gate_Chart_checkStates_s19_le (n : Nat) (hn : big ≤ n)  (r0 : Cha → List Sta → Int → Int → List (List UInt8 × Bool) → List (Int × List Int) → Option (Int × Unit)) (c1_0 : Cha) (t15_0 : List Sta) (t17_0 : Int) (m0_0 : List (List UInt8 × Bool)) (m1_0 : List (Int × List Int)) (v1 : Sta) : LeF (elim some fun (s__ : (List (List UInt8 × Bool) × List (Int × List Int))) => r0 c1_0 t15_0 (List.length (t15_0) : Int) (IntKind.i64.wrap (t17_0 + 1)) s__.1 s__.2) (zJ_s19 c1_0 t15_0 t17_0 m0_0 m1_0 v1) (zJ_m_j19 n r0 c1_0 t15_0 (List.length (t15_0) : Int) t17_0 m0_0 m1_0 v1) :=
  (leCond (leCond (leCond (leSome rfl) leNone) leNone) leNone)
def zJ_b20 (children4_20 : List (Int × List Int)) (t60_20 : List Sta) (t62_20 : Int) (v21 : Sta) : Option ((Int × Unit) ⊕ Unit) :=
  (bif (↑((mapGet (Ty.int IntKind.i64) (Ty.int IntKind.i64).slice children4_20 t62_20).getD []).length : Int) == (0 : Int) then (bif v21.2.2.1 != (-1 : Int) then (some (Sum.inl (((1 : Int), ())))) else (bif !(↑((mapGet (Ty.int IntKind.i64) (Ty.int IntKind.i64).slice children4_20 t62_20).getD []).length : Int) == (0 : Int) then (bif v21.2.2.2.1 then (some (Sum.inl (((1 : Int), ())))) else (Option.bind (zH_M ((mapGet (Ty.int IntKind.i64) (Ty.int IntKind.i64).slice children4_20 t62_20).getD []) v21.2.2.1) fun (v22 : Bool × Unit) => (bif !v22.1 then (some (Sum.inl (((1 : Int), ())))) else (some (Sum.inr ()))))) else (some (Sum.inr ())))) else (bif !(↑((mapGet (Ty.int IntKind.i64) (Ty.int IntKind.i64).slice children4_20 t62_20).getD []).length : Int) == (0 : Int) then (bif v21.2.2.2.1 then (some (Sum.inl (((1 : Int), ())))) else (Option.bind (zH_M ((mapGet (Ty.int IntKind.i64) (Ty.int IntKind.i64).slice children4_20 t62_20).getD []) v21.2.2.1) fun (v23 : Bool × Unit) => (bif !v23.1 then (some (Sum.inl (((1 : Int), ())))) else (some (Sum.inr ()))))) else (some (Sum.inr ()))))
def zJ_f20 (children4_20 : List (Int × List Int)) (t60_20 : List Sta) : Option (Int × Unit) :=
  (some (((0 : Int), ())))
theorem zJ_m_w20_le (n : Nat) (hn : big ≤ n)  (children4_20 : List (Int × List Int)) (t60_20 : List Sta) (hx : List.length (t60_20) < lenMax) : LeF some (loopL (fun i__ e__ s__ => zJ_b20 children4_20 t60_20 i__ e__) (fun s__ => zJ_f20 children4_20 t60_20) 0 (t60_20) ()) (zJ_m_w20 n n children4_20 t60_20 (List.length (t60_20) : Int) 0) := by
  refine loopL_le (f := some) (W := fun k__ i__ s__ => zJ_m_w20 n k__ children4_20 t60_20 (List.length (t60_20) : Int) i__) (body := (fun i__ e__ s__ => zJ_b20 children4_20 t60_20 i__ e__)) (fin := (fun s__ => zJ_f20 children4_20 t60_20)) (fun k__ i__ s__ => ?_) hx () n (by unfold big at hn; unfold lenMax at hx; omega)
  show LeF _ _ (zJ_m_l20 n (zJ_m_w20 n k__) children4_20 t60_20 (List.length (t60_20) : Int) i__)
  exact leCond (leBind fun v21 => (leCond (leCond (leSome rfl) (leCond (leCond (leSome rfl) (leBind fun v22 => (leCond (leSome rfl) (leSome rfl)))) (leSome rfl))) (leCond (leCond (leSome rfl) (leBind fun v23 => (leCond (leSome rfl) (leSome rfl)))) (leSome rfl)))) (leMap (leSome rfl))
def zJ_b0 (c1_0 : Cha) (t15_0 : List Sta) (t17_0 : Int) (v1 : Sta) (m0_0 : List (List UInt8 × Bool)) (m1_0 : List (Int × List Int)) : Option ((Int × Unit) ⊕ (List (List UInt8 × Bool) × List (Int × List Int))) :=
  (Option.bind (zz_M v1.1) fun (v2 : Int × Unit) => (bif decide (v1.2.1 < (-1 : Int)) then (Option.bind (z0U_M [v2.1, (z0d ((mapGet Ty.str Ty.bool m0_0 v1.1).getD Bool.false) (9 : Int)).1, (z0d Bool.true (11 : Int)).1]) fun (v3 : Int × Unit) => (bif v3.1 != (0 : Int) then (some (Sum.inl ((v3.1, ())))) else (zJ_s19 c1_0 t15_0 t17_0 m0_0 m1_0 v1))) else (Option.bind (z0U_M [v2.1, (z0d ((mapGet Ty.str Ty.bool m0_0 v1.1).getD Bool.false) (9 : Int)).1, (z0d (decide (v1.2.1 ≥ t17_0)) (11 : Int)).1]) fun (v4 : Int × Unit) => (bif v4.1 != (0 : Int) then (some (Sum.inl ((v4.1, ())))) else (zJ_s19 c1_0 t15_0 t17_0 m0_0 m1_0 v1)))))
def zJ_f0 (c1_0 : Cha) (t15_0 : List Sta) (m0_0 : List (List UInt8 × Bool)) (m1_0 : List (Int × List Int)) : Option (Int × Unit) :=
  (bif decide (List.length (c1_0.1) < lenMax) then loopL (fun i__ e__ s__ => zJ_b20 (m1_0) (c1_0.1) i__ e__) (fun s__ => zJ_f20 (m1_0) (c1_0.1)) 0 (c1_0.1) () else none)
theorem zJ_m_w0_le (n : Nat) (hn : big ≤ n)  (c1_0 : Cha) (t15_0 : List Sta) (m0_0 : List (List UInt8 × Bool)) (m1_0 : List (Int × List Int)) (hx : List.length (t15_0) < lenMax) : LeF some (loopL (fun i__ e__ s__ => zJ_b0 c1_0 t15_0 i__ e__ s__.1 s__.2) (fun s__ => zJ_f0 c1_0 t15_0 s__.1 s__.2) 0 (t15_0) (m0_0, m1_0)) (zJ_m_w0 n n c1_0 t15_0 (List.length (t15_0) : Int) 0 m0_0 m1_0) := by
  refine loopL_le (f := some) (W := fun k__ i__ s__ => zJ_m_w0 n k__ c1_0 t15_0 (List.length (t15_0) : Int) i__ s__.1 s__.2) (body := (fun i__ e__ s__ => zJ_b0 c1_0 t15_0 i__ e__ s__.1 s__.2)) (fin := (fun s__ => zJ_f0 c1_0 t15_0 s__.1 s__.2)) (fun k__ i__ s__ => ?_) hx (m0_0, m1_0) n (by unfold big at hn; unfold lenMax at hx; omega)
  show LeF _ _ (zJ_m_l0 n (zJ_m_w0 n k__) c1_0 t15_0 (List.length (t15_0) : Int) i__ s__.1 s__.2)
  exact leCond (leBind fun v1 => (leBind fun v2 => (leCond (leBind fun v3 => (leCond (leSome rfl) (by apply gate_Chart_checkStates_s19_le n hn))) (leBind fun v4 => (leCond (leSome rfl) (by apply gate_Chart_checkStates_s19_le n hn)))))) (leMap (leGuard fun hx => by apply zJ_m_w20_le n hn; exact hx))
def zJ_M (c : Cha) : Option (Int × Unit) :=
  (bif decide (List.length (c.1) < lenMax) then loopL (fun i__ e__ s__ => zJ_b0 (c) (c.1) i__ e__ s__.1 s__.2) (fun s__ => zJ_f0 (c) (c.1) s__.1 s__.2) 0 (c.1) (([]), ([])) else none)
theorem zJ_run (c : Cha) (y : Int × Unit) (h : zJ_M c = some y) : ∃ n, zJ_m n c = some y :=
  ⟨big, LeF.top (show LeF some (zJ_M c) (zJ_m big c) from (fun (n : Nat) (hn : big ≤ n) => show LeF some (zJ_M c) (zJ_m n c) from (leGuard fun hx => by apply zJ_m_w0_le n hn; exact hx)) big (Nat.le_refl _)) h⟩
def zJ_e : Entry := { f := 97, args := zJ_a, ress := zJ_r, m := fun x => zJ_M x.1 }
theorem zJ_ok : FnOK Tryz.prog zJ_e := fn_ok (g := zJ_g) (fn := Tryz.f97) hmixed tabOk (eCons zz_ok (eCons z0d_ok (eCons z0U_ok (eCons zH_ok eNil)))) (by kernel_rfl) (by kernel_rfl) (by kernel_rfl) (fun x y h => let ⟨n, hn⟩ := zJ_run x.1 y h; ⟨zJ_an n, iNil, (zJ_eq n x).trans hn⟩)
abbrev z0W_a : Ty := .pair t71 .unit
abbrev z0W_r : Ty := .pair t173 (.pair t29 .unit)
def z0W_g : G := { T := T, E := [z0N_e, zz_e, z0d_e, z0U_e], muts := [13], fz := [] }
def z0W_k : List (List Nat) := [[4, 14, 15, 16]]
def z0W_an (n : Nat) : Ann := { keep := z0W_k, fuel := n, inl := [], deep := 0 }
def z0W_m_l0 (n : Nat) (r0 : List Cmd → Int → Int → List (Int × List UInt8) → Option (List (Int × List UInt8) × Int × Unit)) (t14_0 : List Cmd) (t15_0 : Int) (t16_0 : Int) (m0_0 : List (Int × List UInt8)) : Option (List (Int × List UInt8) × Int × Unit) :=
  (bif decide (t16_0 < t15_0) then (Option.bind (idx t14_0 t16_0) fun (v1 : Cmd) => (Option.bind (zz_M v1.2.2.1) fun (v2 : Int × Unit) => (bif (mapGet (Ty.int IntKind.i64) Ty.str m0_0 v1.1).isSome then (Option.bind (z0U_M [(z0N v1.1 (1 : Int) (999999999 : Int)).1, (z0N v1.2.1 (0 : Int) (1 : Int)).1, v2.1, (z0d (!(mapGet (Ty.int IntKind.i64) Ty.str m0_0 v1.1).getD [] == v1.2.2.1) (30 : Int)).1]) fun (v3 : Int × Unit) => (bif v3.1 != (0 : Int) then some ([], v3.1, ()) else r0 t14_0 t15_0 (IntKind.i64.wrap (t16_0 + (1 : Int))) (mapPut (Ty.int IntKind.i64) Ty.str m0_0 v1.1 v1.2.2.1))) else (Option.bind (z0U_M [(z0N v1.1 (1 : Int) (999999999 : Int)).1, (z0N v1.2.1 (0 : Int) (1 : Int)).1, v2.1, (z0d Bool.false (30 : Int)).1]) fun (v4 : Int × Unit) => (bif v4.1 != (0 : Int) then some ([], v4.1, ()) else r0 t14_0 t15_0 (IntKind.i64.wrap (t16_0 + (1 : Int))) (mapPut (Ty.int IntKind.i64) Ty.str m0_0 v1.1 v1.2.2.1)))))) else some (m0_0, (0 : Int), ()))
def z0W_m_w0 (n : Nat)  (k : Nat) (t14_0 : List Cmd) (t15_0 : Int) (t16_0 : Int) (m0_0 : List (Int × List UInt8)) : Option (List (Int × List UInt8) × Int × Unit) :=
  iter (fun r y => z0W_m_l0 n (fun t14_0 t15_0 t16_0 m0_0 => r ((t14_0, (t15_0, (t16_0, ()))), ((m0_0, ()), ()))) y.1.1 y.1.2.1 y.1.2.2.1 y.2.1.1) k ((t14_0, (t15_0, (t16_0, ()))), ((m0_0, ()), ()))
def z0W_m (n : Nat) (l : List Cmd) : Option (List (Int × List UInt8) × Int × Unit) :=
  (bif decide ((↑l.length : Int) > (256 : Int)) then some ([], (5 : Int), ()) else (z0W_m_w0 n n (l) ((↑l.length : Int)) ((0 : Int)) ([])))
theorem z0W_eq (n : Nat) (x : z0W_a.den) : runF z0W_g (z0W_an n) Tryz.f107 z0W_a z0W_r x = z0W_m n x.1 := by kernel_rfl
def z0W_b0 (t14_0 : List Cmd) (t16_0 : Int) (v1 : Cmd) (m0_0 : List (Int × List UInt8)) : Option ((List (Int × List UInt8) × Int × Unit) ⊕ (List (Int × List UInt8))) :=
  (Option.bind (zz_M v1.2.2.1) fun (v2 : Int × Unit) => (bif (mapGet (Ty.int IntKind.i64) Ty.str m0_0 v1.1).isSome then (Option.bind (z0U_M [(z0N v1.1 (1 : Int) (999999999 : Int)).1, (z0N v1.2.1 (0 : Int) (1 : Int)).1, v2.1, (z0d (!(mapGet (Ty.int IntKind.i64) Ty.str m0_0 v1.1).getD [] == v1.2.2.1) (30 : Int)).1]) fun (v3 : Int × Unit) => (bif v3.1 != (0 : Int) then (some (Sum.inl (([], v3.1, ())))) else (some (Sum.inr (mapPut (Ty.int IntKind.i64) Ty.str m0_0 v1.1 v1.2.2.1))))) else (Option.bind (z0U_M [(z0N v1.1 (1 : Int) (999999999 : Int)).1, (z0N v1.2.1 (0 : Int) (1 : Int)).1, v2.1, (z0d Bool.false (30 : Int)).1]) fun (v4 : Int × Unit) => (bif v4.1 != (0 : Int) then (some (Sum.inl (([], v4.1, ())))) else (some (Sum.inr (mapPut (Ty.int IntKind.i64) Ty.str m0_0 v1.1 v1.2.2.1)))))))
def z0W_f0 (t14_0 : List Cmd) (m0_0 : List (Int × List UInt8)) : Option (List (Int × List UInt8) × Int × Unit) :=
  (some ((m0_0, (0 : Int), ())))
theorem z0W_m_w0_le (n : Nat) (hn : big ≤ n)  (t14_0 : List Cmd) (m0_0 : List (Int × List UInt8)) (hx : List.length (t14_0) < lenMax) : LeF some (loopL (fun i__ e__ s__ => z0W_b0 t14_0 i__ e__ s__) (fun s__ => z0W_f0 t14_0 s__) 0 (t14_0) m0_0) (z0W_m_w0 n n t14_0 (List.length (t14_0) : Int) 0 m0_0) := by
  refine loopL_le (f := some) (W := fun k__ i__ s__ => z0W_m_w0 n k__ t14_0 (List.length (t14_0) : Int) i__ s__) (body := (fun i__ e__ s__ => z0W_b0 t14_0 i__ e__ s__)) (fin := (fun s__ => z0W_f0 t14_0 s__)) (fun k__ i__ s__ => ?_) hx m0_0 n (by unfold big at hn; unfold lenMax at hx; omega)
  show LeF _ _ (z0W_m_l0 n (z0W_m_w0 n k__) t14_0 (List.length (t14_0) : Int) i__ s__)
  exact leCond (leBind fun v1 => (leBind fun v2 => (leCond (leBind fun v3 => (leCond (leSome rfl) (leSome rfl))) (leBind fun v4 => (leCond (leSome rfl) (leSome rfl)))))) (leMap (leSome rfl))
def z0W_M (l : List Cmd) : Option (List (Int × List UInt8) × Int × Unit) :=
  (bif decide ((↑l.length : Int) > (256 : Int)) then (some (([], (5 : Int), ()))) else (bif decide (List.length (l) < lenMax) then loopL (fun i__ e__ s__ => z0W_b0 (l) i__ e__ s__) (fun s__ => z0W_f0 (l) s__) 0 (l) ([]) else none))
theorem z0W_run (l : List Cmd) (y : List (Int × List UInt8) × Int × Unit) (h : z0W_M l = some y) : ∃ n, z0W_m n l = some y :=
  ⟨big, LeF.top (show LeF some (z0W_M l) (z0W_m big l) from (fun (n : Nat) (hn : big ≤ n) => show LeF some (z0W_M l) (z0W_m n l) from (leCond (leSome rfl) (leGuard fun hx => by apply z0W_m_w0_le n hn; exact hx))) big (Nat.le_refl _)) h⟩
def z0W_e : Entry := { f := 107, args := z0W_a, ress := z0W_r, m := fun x => z0W_M x.1 }
theorem z0W_ok : FnOK Tryz.prog z0W_e := fn_ok (g := z0W_g) (fn := Tryz.f107) hmixed tabOk (eCons z0N_ok (eCons zz_ok (eCons z0d_ok (eCons z0U_ok eNil)))) (by kernel_rfl) (by kernel_rfl) (by kernel_rfl) (fun x y h => let ⟨n, hn⟩ := z0W_run x.1 y h; ⟨z0W_an n, iNil, (z0W_eq n x).trans hn⟩)
abbrev z0K_a : Ty := .pair t3 .unit
abbrev z0K_r : Ty := .pair t29 .unit
def z0K_g : G := { T := T, E := [z0N_e], muts := [], fz := [] }
def z0K_k : List (List Nat) := []
def z0K_an (n : Nat) : Ann := { keep := z0K_k, fuel := n, inl := [], deep := 0 }
def z0K_m (n : Nat) (n1 : Int) : Option (Int × Unit) :=
  some ((z0N n1 (0 : Int) (1000 : Int)).1, ())
theorem z0K_eq (n : Nat) (x : z0K_a.den) : runF z0K_g (z0K_an n) Tryz.f110 z0K_a z0K_r x = z0K_m n x.1 := by kernel_rfl
def z0K (n1 : Int) : (Int × Unit) :=
  ((z0N n1 (0 : Int) (1000 : Int)).1, ())
abbrev z0K_M (n1 : Int) : Option (Int × Unit) := some (z0K n1)
theorem z0K_run (n1 : Int) (y : Int × Unit) (h : z0K_M n1 = some y) : ∃ n, z0K_m n n1 = some y :=
  ⟨0, by rw [← h]; show z0K_m 0 n1 = some (z0K n1); unfold z0K_m z0K; first | rfl | (simp only [cond_some]; done) | (simp only [cond_some]; rfl)⟩
def z0K_e : Entry := { f := 110, args := z0K_a, ress := z0K_r, m := fun x => z0K_M x.1 }
theorem z0K_ok : FnOK Tryz.prog z0K_e := fn_ok (g := z0K_g) (fn := Tryz.f110) hmixed tabOk (eCons z0N_ok eNil) (by kernel_rfl) (by kernel_rfl) (by kernel_rfl) (fun x y h => let ⟨n, hn⟩ := z0K_run x.1 y h; ⟨z0K_an n, iNil, (z0K_eq n x).trans hn⟩)
abbrev zP_a : Ty := .pair t35 (.pair t28 .unit)
abbrev zP_r : Ty := .pair t29 .unit
def zP_g : G := { T := T, E := [zI_e, z0d_e, zC_e, z0U_e], muts := [], fz := [] }
def zP_k : List (List Nat) := []
def zP_an (n : Nat) : Ann := { keep := zP_k, fuel := n, inl := [], deep := 0 }
def zP_m (n : Nat) (c : Cha) (l : List Int) : Option (Int × Unit) :=
  (Option.bind (zC_M l fun (x : Int × Unit) => zI_M x.1 c) fun (v0 : Bool × Unit) => (Option.bind (z0U_M [(z0d (decide ((↑l.length : Int) > (16 : Int))) (5 : Int)).1, (z0d v0.1 (10 : Int)).1]) fun (v1 : Int × Unit) => some (v1.1, ())))
theorem zP_eq (n : Nat) (x : zP_a.den) : runF zP_g (zP_an n) Tryz.f123 zP_a zP_r x = zP_m n x.1 x.2.1 := by kernel_rfl
def zP_M (c : Cha) (l : List Int) : Option (Int × Unit) := zP_m 0 c l
theorem zP_run (c : Cha) (l : List Int) (y : Int × Unit) (h : zP_M c l = some y) : ∃ n, zP_m n c l = some y := ⟨0, h⟩
def zP_e : Entry := { f := 123, args := zP_a, ress := zP_r, m := fun x => zP_M x.1 x.2.1 }
theorem zP_ok : FnOK Tryz.prog zP_e := fn_ok (g := zP_g) (fn := Tryz.f123) hmixed tabOk (eCons zI_ok (eCons z0d_ok (eCons zC_ok (eCons z0U_ok eNil)))) (by kernel_rfl) (by kernel_rfl) (by kernel_rfl) (fun x y h => let ⟨n, hn⟩ := zP_run x.1 x.2.1 y h; ⟨zP_an n, iNil, (zP_eq n x).trans hn⟩)
abbrev zR_a : Ty := .pair t3 .unit
abbrev zR_r : Ty := .pair t29 .unit
def zR_g : G := { T := T, E := [z0N_e], muts := [], fz := [] }
def zR_k : List (List Nat) := []
def zR_an (n : Nat) : Ann := { keep := zR_k, fuel := n, inl := [], deep := 0 }
def zR_m (n : Nat) (n1 : Int) : Option (Int × Unit) :=
  some ((z0N n1 (0 : Int) (15 : Int)).1, ())
theorem zR_eq (n : Nat) (x : zR_a.den) : runF zR_g (zR_an n) Tryz.f138 zR_a zR_r x = zR_m n x.1 := by kernel_rfl
def zR (n1 : Int) : (Int × Unit) :=
  ((z0N n1 (0 : Int) (15 : Int)).1, ())
abbrev zR_M (n1 : Int) : Option (Int × Unit) := some (zR n1)
theorem zR_run (n1 : Int) (y : Int × Unit) (h : zR_M n1 = some y) : ∃ n, zR_m n n1 = some y :=
  ⟨0, by rw [← h]; show zR_m 0 n1 = some (zR n1); unfold zR_m zR; first | rfl | (simp only [cond_some]; done) | (simp only [cond_some]; rfl)⟩
def zR_e : Entry := { f := 138, args := zR_a, ress := zR_r, m := fun x => zR_M x.1 }
theorem zR_ok : FnOK Tryz.prog zR_e := fn_ok (g := zR_g) (fn := Tryz.f138) hmixed tabOk (eCons z0N_ok eNil) (by kernel_rfl) (by kernel_rfl) (by kernel_rfl) (fun x y h => let ⟨n, hn⟩ := zR_run x.1 y h; ⟨zR_an n, iNil, (zR_eq n x).trans hn⟩)
abbrev zb_a : Ty := .pair t148 (.pair (.ref t3) (.pair (.ref t55) .unit))
abbrev zb_r : Ty := .pair t4 .unit
def zb_g : G := { T := T, E := [zU_e], muts := [], fz := [] }
def zb_k : List (List Nat) := []
def zb_an (n : Nat) : Ann := { keep := zb_k, fuel := n, inl := [], deep := 0 }
def zb_m (n : Nat) (t : Tra) (p1 : Int) (p2 : List UInt8 × Int × Unit) : Option (Bool × Unit) :=
  (bif t.1 == p1 then (bif t.2.1 == p2.1 then some ((zU t p2.2.1).1, ()) else some (Bool.false, ())) else some (Bool.false, ()))
theorem zb_eq (n : Nat) (x : zb_a.den) : runF zb_g (zb_an n) Tryz.f140 zb_a zb_r x = zb_m n x.1 x.2.1 x.2.2.1 := by kernel_rfl
def zb (t : Tra) (p1 : Int) (p2 : List UInt8 × Int × Unit) : (Bool × Unit) :=
  (bif t.1 == p1 then (bif t.2.1 == p2.1 then ((zU t p2.2.1).1, ()) else (Bool.false, ())) else (Bool.false, ()))
abbrev zb_M (t : Tra) (p1 : Int) (p2 : List UInt8 × Int × Unit) : Option (Bool × Unit) := some (zb t p1 p2)
theorem zb_run (t : Tra) (p1 : Int) (p2 : List UInt8 × Int × Unit) (y : Bool × Unit) (h : zb_M t p1 p2 = some y) : ∃ n, zb_m n t p1 p2 = some y :=
  ⟨0, by rw [← h]; show zb_m 0 t p1 p2 = some (zb t p1 p2); unfold zb_m zb; first | rfl | (simp only [cond_some]; done) | (simp only [cond_some]; rfl)⟩
def zb_e : Entry := { f := 140, args := zb_a, ress := zb_r, m := fun x => zb_M x.1 x.2.1 x.2.2.1 }
theorem zb_ok : FnOK Tryz.prog zb_e := fn_ok (g := zb_g) (fn := Tryz.f140) hmixed tabOk (eCons zU_ok eNil) (by kernel_rfl) (by kernel_rfl) (by kernel_rfl) (fun x y h => let ⟨n, hn⟩ := zb_run x.1 x.2.1 x.2.2.1 y h; ⟨zb_an n, iNil, (zb_eq n x).trans hn⟩)
abbrev ze_a : Ty := .pair t131 .unit
abbrev ze_r : Ty := .pair t220 (.pair t4 .unit)
def ze_g : G := { T := T, E := [z0V_e], muts := [], fz := [] }
def ze_k : List (List Nat) := [[1, 2, 6, 7]]
def ze_an (n : Nat) : Ann := { keep := ze_k, fuel := n, inl := [], deep := 0 }
def ze_m_l0 (n : Nat) (r0 : Fai → List (List UInt8 × (Fai × Unit → Option (Fai × Unit)) × (Fai × Int × (List UInt8 × Int × Unit) × Unit → Option ((List UInt8 × Int × Unit) × Bool × Unit)) × Unit) → Int → List UInt8 → Option ((List UInt8 × (Fai × Unit → Option (Fai × Unit)) × (Fai × Int × (List UInt8 × Int × Unit) × Unit → Option ((List UInt8 × Int × Unit) × Bool × Unit)) × Unit) × Bool × Unit)) (f1_0 : Fai) (t6_0 : List (List UInt8 × (Fai × Unit → Option (Fai × Unit)) × (Fai × Int × (List UInt8 × Int × Unit) × Unit → Option ((List UInt8 × Int × Unit) × Bool × Unit)) × Unit)) (t7_0 : Int) (b0_0_0 : List UInt8) : Option ((List UInt8 × (Fai × Unit → Option (Fai × Unit)) × (Fai × Int × (List UInt8 × Int × Unit) × Unit → Option ((List UInt8 × Int × Unit) × Bool × Unit)) × Unit) × Bool × Unit) :=
  (bif decide (t7_0 < (3 : Int)) then (Option.bind (idx t6_0 t7_0) fun (v1 : List UInt8 × (Fai × Unit → Option (Fai × Unit)) × (Fai × Int × (List UInt8 × Int × Unit) × Unit → Option ((List UInt8 × Int × Unit) × Bool × Unit)) × Unit) => (bif v1.1 == f1_0.1 then some ((v1.1, v1.2.1, v1.2.2.1, ()), Bool.true, ()) else r0 f1_0 t6_0 (IntKind.i64.wrap (t7_0 + (1 : Int))) b0_0_0)) else some (([], fun (x : Fai × Unit) => Option.none, fun (x : Fai × Int × (List UInt8 × Int × Unit) × Unit) => Option.none, ()), Bool.false, ()))
def ze_m_w0 (n : Nat)  (k : Nat) (f1_0 : Fai) (t6_0 : List (List UInt8 × (Fai × Unit → Option (Fai × Unit)) × (Fai × Int × (List UInt8 × Int × Unit) × Unit → Option ((List UInt8 × Int × Unit) × Bool × Unit)) × Unit)) (t7_0 : Int) (b0_0_0 : List UInt8) : Option ((List UInt8 × (Fai × Unit → Option (Fai × Unit)) × (Fai × Int × (List UInt8 × Int × Unit) × Unit → Option ((List UInt8 × Int × Unit) × Bool × Unit)) × Unit) × Bool × Unit) :=
  iter (fun r y => ze_m_l0 n (fun f1_0 t6_0 t7_0 b0_0_0 => r ((f1_0, (t6_0, (t7_0, ()))), (((b0_0_0, ()), ()), ()))) y.1.1 y.1.2.1 y.1.2.2.1 y.2.1.1.1) k ((f1_0, (t6_0, (t7_0, ()))), (((b0_0_0, ()), ()), ()))
def ze_m (n : Nat) (f : Fai) : Option ((List UInt8 × (Fai × Unit → Option (Fai × Unit)) × (Fai × Int × (List UInt8 × Int × Unit) × Unit → Option ((List UInt8 × Int × Unit) × Bool × Unit)) × Unit) × Bool × Unit) :=
  (ze_m_w0 n n (f) (z0V.1) ((0 : Int)) ([]))
theorem ze_eq (n : Nat) (x : ze_a.den) : runF ze_g (ze_an n) Tryz.f143 ze_a ze_r x = ze_m n x.1 := by kernel_rfl
def ze_b0 (f1_0 : Fai) (t6_0 : List (List UInt8 × (Fai × Unit → Option (Fai × Unit)) × (Fai × Int × (List UInt8 × Int × Unit) × Unit → Option ((List UInt8 × Int × Unit) × Bool × Unit)) × Unit)) (b0_0_0 : List UInt8) (t7_0 : Int) : Option (((List UInt8 × (Fai × Unit → Option (Fai × Unit)) × (Fai × Int × (List UInt8 × Int × Unit) × Unit → Option ((List UInt8 × Int × Unit) × Bool × Unit)) × Unit) × Bool × Unit) ⊕ Unit) :=
  (Option.bind (idx t6_0 t7_0) fun (v1 : List UInt8 × (Fai × Unit → Option (Fai × Unit)) × (Fai × Int × (List UInt8 × Int × Unit) × Unit → Option ((List UInt8 × Int × Unit) × Bool × Unit)) × Unit) => (bif v1.1 == f1_0.1 then (some (Sum.inl (((v1.1, v1.2.1, v1.2.2.1, ()), Bool.true, ())))) else (some (Sum.inr ()))))
def ze_f0 (f1_0 : Fai) (t6_0 : List (List UInt8 × (Fai × Unit → Option (Fai × Unit)) × (Fai × Int × (List UInt8 × Int × Unit) × Unit → Option ((List UInt8 × Int × Unit) × Bool × Unit)) × Unit)) (b0_0_0 : List UInt8) : Option ((List UInt8 × (Fai × Unit → Option (Fai × Unit)) × (Fai × Int × (List UInt8 × Int × Unit) × Unit → Option ((List UInt8 × Int × Unit) × Bool × Unit)) × Unit) × Bool × Unit) :=
  (some ((([], fun (x : Fai × Unit) => Option.none, fun (x : Fai × Int × (List UInt8 × Int × Unit) × Unit) => Option.none, ()), Bool.false, ())))
theorem ze_m_w0_le (n : Nat) (hn : big ≤ n)  (f1_0 : Fai) (t6_0 : List (List UInt8 × (Fai × Unit → Option (Fai × Unit)) × (Fai × Int × (List UInt8 × Int × Unit) × Unit → Option ((List UInt8 × Int × Unit) × Bool × Unit)) × Unit)) (b0_0_0 : List UInt8) (hx : ((3 : Int)) ≤ (9223372036854775807 : Int)) : LeF some (loopN (fun i__ s__ => ze_b0 f1_0 t6_0 b0_0_0 i__) (fun s__ => ze_f0 f1_0 t6_0 b0_0_0) (((3 : Int)) - 0).toNat 0 ()) (ze_m_w0 n n f1_0 t6_0 0 b0_0_0) := by
  refine loopN_le (f := some) (W := fun k__ i__ s__ => ze_m_w0 n k__ f1_0 t6_0 i__ b0_0_0) (body := (fun i__ s__ => ze_b0 f1_0 t6_0 b0_0_0 i__)) (fin := (fun s__ => ze_f0 f1_0 t6_0 b0_0_0)) (fun k__ i__ s__ => ?_) hx () n 0 (by decide) (by unfold big at hn; omega)
  show LeF _ _ (ze_m_l0 n (ze_m_w0 n k__) f1_0 t6_0 i__ b0_0_0)
  exact leCond (leBind fun v1 => (leCond (leSome rfl) (leSome rfl))) (leMap (leSome rfl))
def ze_M (f : Fai) : Option ((List UInt8 × (Fai × Unit → Option (Fai × Unit)) × (Fai × Int × (List UInt8 × Int × Unit) × Unit → Option ((List UInt8 × Int × Unit) × Bool × Unit)) × Unit) × Bool × Unit) :=
  (bif decide (((3 : Int)) ≤ (9223372036854775807 : Int)) then loopN (fun i__ s__ => ze_b0 (f) (z0V.1) ([]) i__) (fun s__ => ze_f0 (f) (z0V.1) ([])) (((3 : Int)) - 0).toNat 0 () else none)
theorem ze_run (f : Fai) (y : (List UInt8 × (Fai × Unit → Option (Fai × Unit)) × (Fai × Int × (List UInt8 × Int × Unit) × Unit → Option ((List UInt8 × Int × Unit) × Bool × Unit)) × Unit) × Bool × Unit) (h : ze_M f = some y) : ∃ n, ze_m n f = some y :=
  ⟨big, LeF.top (show LeF some (ze_M f) (ze_m big f) from (fun (n : Nat) (hn : big ≤ n) => show LeF some (ze_M f) (ze_m n f) from (leGuard fun hx => by apply ze_m_w0_le n hn; exact hx)) big (Nat.le_refl _)) h⟩
def ze_e : Entry := { f := 143, args := ze_a, ress := ze_r, m := fun x => ze_M x.1 }
theorem ze_ok : FnOK Tryz.prog ze_e := fn_ok (g := ze_g) (fn := Tryz.f143) hmixed tabOk (eCons z0V_ok eNil) (by kernel_rfl) (by kernel_rfl) (by kernel_rfl) (fun x y h => let ⟨n, hn⟩ := ze_run x.1 y h; ⟨ze_an n, iNil, (ze_eq n x).trans hn⟩)
abbrev zT_a : Ty := .pair t3 (.pair (.ref t134) .unit)
abbrev zT_r : Ty := .pair t4 .unit
def zT_g : G := { T := T, E := [zH_e], muts := [], fz := [] }
def zT_k : List (List Nat) := []
def zT_an (n : Nat) : Ann := { keep := zT_k, fuel := n, inl := [], deep := 0 }
def zT_m (n : Nat) (leaf : Int) (p1 : Goa) : Option (Bool × Unit) :=
  (Option.bind (zH_M p1.2.1 leaf) fun (v0 : Bool × Unit) => some (v0.1, ()))
theorem zT_eq (n : Nat) (x : zT_a.den) : runF zT_g (zT_an n) Tryz.f153 zT_a zT_r x = zT_m n x.1 x.2.1 := by kernel_rfl
def zT_M (leaf : Int) (p1 : Goa) : Option (Bool × Unit) := zT_m 0 leaf p1
theorem zT_run (leaf : Int) (p1 : Goa) (y : Bool × Unit) (h : zT_M leaf p1 = some y) : ∃ n, zT_m n leaf p1 = some y := ⟨0, h⟩
def zT_e : Entry := { f := 153, args := zT_a, ress := zT_r, m := fun x => zT_M x.1 x.2.1 }
theorem zT_ok : FnOK Tryz.prog zT_e := fn_ok (g := zT_g) (fn := Tryz.f153) hmixed tabOk (eCons zH_ok eNil) (by kernel_rfl) (by kernel_rfl) (by kernel_rfl) (fun x y h => let ⟨n, hn⟩ := zT_run x.1 x.2.1 y h; ⟨zT_an n, iNil, (zT_eq n x).trans hn⟩)
end
end Go.Tw
end
