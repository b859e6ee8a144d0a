import Derived.Test.YtohhmdogfjmlcaaGreatBT
import Derived.Test.YtohhmdogfjmlcaaGreatB0
import Derived.Test.YtohhmdogfjmlcaaGreatBS
import Derived.Test.YtohhmdogfjmlcaaGreatLP
import Derived.Test.YtohhmdogfjmlcaaGreatBA
section
set_option linter.all false
set_option maxRecDepth 1000000
namespace Go.Tw
open Go.Vx Go.Vx.B Go.Proofs
noncomputable section
abbrev z0T_a : Ty := .pair t25 .unit
abbrev z0T_r : Ty := .pair t37 .unit
def z0T_g : G := { T := T, E := [z0F_e], muts := [3], fz := [] }
def z0T_k : List (List Nat) := [[1, 3, 4]]
def z0T_an (n : Nat) : Ann := { keep := z0T_k, fuel := n, inl := [], deep := 0 }
def z0T_m_l0 (n : Nat) (r0 : Cha → Int → List (List UInt8) → Option (List (List UInt8) × Unit)) (c1_0 : Cha) (i4_0 : Int) (c0_0 : List (List UInt8)) : Option (List (List UInt8) × Unit) :=
  (bif decide (i4_0 < (↑c1_0.2.1.length : Int)) then (Option.bind (idx c1_0.2.1 i4_0) fun (v1 : Tra) => (Option.bind (z0F_M c0_0 v1.2.1) fun (v2 : Bool × Unit) => (bif !v2.1 then (Option.bind (idx c1_0.2.1 i4_0) fun (v3 : Tra) => (bif decide (c0_0.length + (1 : Nat) ≤ memMax) then r0 c1_0 (IntKind.i64.wrap (i4_0 + (1 : Int))) (c0_0 ++ [v3.2.1]) else none)) else r0 c1_0 (IntKind.i64.wrap (i4_0 + (1 : Int))) c0_0))) else some (c0_0, ()))
def z0T_m_w0 (n : Nat)  (k : Nat) (c1_0 : Cha) (i4_0 : Int) (c0_0 : List (List UInt8)) : Option (List (List UInt8) × Unit) :=
  iter (fun r y => z0T_m_l0 n (fun c1_0 i4_0 c0_0 => r ((c1_0, (i4_0, ())), ((c0_0, ()), ()))) y.1.1 y.1.2.1 y.2.1.1) k ((c1_0, (i4_0, ())), ((c0_0, ()), ()))
def z0T_m (n : Nat) (c : Cha) : Option (List (List UInt8) × Unit) :=
  (z0T_m_w0 n n (c) ((0 : Int)) ([]))
theorem z0T_eq (n : Nat) (x : z0T_a.den) : runF z0T_g (z0T_an n) Tryz.f22 z0T_a z0T_r x = z0T_m n x.1 := by kernel_rfl
def z0T_b0 (c1_0 : Cha) (i4_0 : Int) (v1 : Tra) (c0_0 : List (List UInt8)) : Option ((List (List UInt8) × Unit) ⊕ (List (List UInt8))) :=
  (Option.bind (z0F_M c0_0 v1.2.1) fun (v2 : Bool × Unit) => (bif !v2.1 then (Option.bind (idx c1_0.2.1 i4_0) fun (v3 : Tra) => (bif decide (c0_0.length + (1 : Nat) ≤ memMax) then (some (Sum.inr (c0_0 ++ [v3.2.1]))) else none)) else (some (Sum.inr (c0_0)))))
def z0T_f0 (c1_0 : Cha) (c0_0 : List (List UInt8)) : Option (List (List UInt8) × Unit) :=
  (some ((c0_0, ())))
theorem z0T_m_w0_le (n : Nat) (hn : big ≤ n)  (c1_0 : Cha) (c0_0 : List (List UInt8)) (hx : List.length (c1_0.2.1) < lenMax) : LeF some (loopL (fun i__ e__ s__ => z0T_b0 c1_0 i__ e__ s__) (fun s__ => z0T_f0 c1_0 s__) 0 (c1_0.2.1) c0_0) (z0T_m_w0 n n c1_0 0 c0_0) := by
  refine loopL_le (f := some) (W := fun k__ i__ s__ => z0T_m_w0 n k__ c1_0 i__ s__) (body := (fun i__ e__ s__ => z0T_b0 c1_0 i__ e__ s__)) (fin := (fun s__ => z0T_f0 c1_0 s__)) (fun k__ i__ s__ => ?_) hx c0_0 n (by unfold big at hn; unfold lenMax at hx; omega)
  show LeF _ _ (z0T_m_l0 n (z0T_m_w0 n k__) c1_0 i__ s__)
  exact leCond (leBind fun v1 => (leBind fun v2 => (leCond (leBind fun v3 => (leCond (leSome rfl) leNone)) (leSome rfl)))) (leMap (leSome rfl))
def z0T_M (c : Cha) : Option (List (List UInt8) × Unit) :=
  (bif decide (List.length (c.2.1) < lenMax) then loopL (fun i__ e__ s__ => z0T_b0 (c) i__ e__ s__) (fun s__ => z0T_f0 (c) s__) 0 (c.2.1) ([]) else none)
theorem z0T_run (c : Cha) (y : List (List UInt8) × Unit) (h : z0T_M c = some y) : ∃ n, z0T_m n c = some y :=
  ⟨big, LeF.top (show LeF some (z0T_M c) (z0T_m big c) from (fun (n : Nat) (hn : big ≤ n) => show LeF some (z0T_M c) (z0T_m n c) from (leGuard fun hx => by apply z0T_m_w0_le n hn; exact hx)) big (Nat.le_refl _)) h⟩
def z0T_e : Entry := { f := 22, args := z0T_a, ress := z0T_r, m := fun x => z0T_M x.1 }
theorem z0T_ok : FnOK Tryz.prog z0T_e := fn_ok (g := z0T_g) (fn := Tryz.f22) hmixed tabOk (eCons z0F_ok eNil) (by kernel_rfl) (by kernel_rfl) (by kernel_rfl) (fun x y h => let ⟨n, hn⟩ := z0T_run x.1 y h; ⟨z0T_an n, iNil, (z0T_eq n x).trans hn⟩)
abbrev z0h_a : Ty := .pair t25 (.pair t3 .unit)
abbrev z0h_r : Ty := .pair t3 .unit
def z0h_g : G := { T := T, E := [z0U_e], muts := [], fz := [] }
def z0h_k : List (List Nat) := [[1, 2]]
def z0h_an (n : Nat) : Ann := { keep := z0h_k, fuel := n, inl := [], deep := 0 }
def z0h_m_l0 (n : Nat) (r0 : Int → Cha → Option (Int × Unit)) (i1_0 : Int) (c2_0 : Cha) : Option (Int × Unit) :=
  (Option.bind (z0U_M c2_0 i1_0) fun (v1 : Bool × Unit) => (bif !v1.1 then (Option.bind (idx c2_0.1 i1_0) fun (v2 : Sta) => r0 v2.2.2.1 c2_0) else some (i1_0, ())))
def z0h_m_w0 (n : Nat)  (k : Nat) (i1_0 : Int) (c2_0 : Cha) : Option (Int × Unit) :=
  iter (fun r y => z0h_m_l0 n (fun i1_0 c2_0 => r ((i1_0, (c2_0, ())), ((), ()))) y.1.1 y.1.2.1) k ((i1_0, (c2_0, ())), ((), ()))
def z0h_m (n : Nat) (c : Cha) (i : Int) : Option (Int × Unit) :=
  (z0h_m_w0 n n (i) (c))
theorem z0h_eq (n : Nat) (x : z0h_a.den) : runF z0h_g (z0h_an n) Tryz.f23 z0h_a z0h_r x = z0h_m n x.1 x.2.1 := by kernel_rfl
def z0h_b0 (c2_0 : Cha) (i1_0 : Int) : Option ((Int × Unit) ⊕ (Int)) :=
  (Option.bind (z0U_M c2_0 i1_0) fun (v1 : Bool × Unit) => (bif !v1.1 then (Option.bind (idx c2_0.1 i1_0) fun (v2 : Sta) => (some (Sum.inr (v2.2.2.1)))) else (some (Sum.inl ((i1_0, ()))))))
theorem z0h_m_w0_le (n : Nat) (hn : big ≤ n)  (c2_0 : Cha) (i1_0 : Int) : LeF some (loopW (fun s__ => z0h_b0 c2_0 s__) wMax i1_0) (z0h_m_w0 n n i1_0 c2_0) := by
  refine loopW_le (f := some) (W := fun k__ s__ => z0h_m_w0 n k__ s__ c2_0) (body := (fun s__ => z0h_b0 c2_0 s__)) (fun k__ s__ => ?_) wMax n i1_0 (by unfold big at hn; unfold wMax; omega)
  show LeF _ _ (z0h_m_l0 n (z0h_m_w0 n k__) s__ c2_0)
  exact (leBind fun v1 => (leCond (leBind fun v2 => (leSome rfl)) (leSome rfl)))
def z0h_M (c : Cha) (i : Int) : Option (Int × Unit) :=
  (loopW (fun s__ => z0h_b0 (c) s__) wMax (i))
theorem z0h_run (c : Cha) (i : Int) (y : Int × Unit) (h : z0h_M c i = some y) : ∃ n, z0h_m n c i = some y :=
  ⟨big, LeF.top (show LeF some (z0h_M c i) (z0h_m big c i) from (fun (n : Nat) (hn : big ≤ n) => show LeF some (z0h_M c i) (z0h_m n c i) from (by apply z0h_m_w0_le n hn)) big (Nat.le_refl _)) h⟩
def z0h_e : Entry := { f := 23, args := z0h_a, ress := z0h_r, m := fun x => z0h_M x.1 x.2.1 }
theorem z0h_ok : FnOK Tryz.prog z0h_e := fn_ok (g := z0h_g) (fn := Tryz.f23) hmixed tabOk (eCons z0U_ok eNil) (by kernel_rfl) (by kernel_rfl) (by kernel_rfl) (fun x y h => let ⟨n, hn⟩ := z0h_run x.1 x.2.1 y h; ⟨z0h_an n, iNil, (z0h_eq n x).trans hn⟩)
abbrev z0P_a : Ty := .pair t28 (.pair t29 (.pair t3 (.pair t28 .unit)))
abbrev z0P_r : Ty := .pair t4 .unit
def z0P_g : G := { T := T, E := [z0A_e], muts := [], fz := [] }
def z0P_k : List (List Nat) := []
def z0P_an (n : Nat) : Ann := { keep := z0P_k, fuel := n, inl := [], deep := 0 }
def z0P_m (n : Nat) (p0 : List Int) (e : Int) (bad : Int) (want : List Int) : Option (Bool × Unit) :=
  (bif bad != (0 : Int) then (bif (↑p0.length : Int) == (0 : Int) then some (e == bad, ()) else some (Bool.false, ())) else (bif e == (0 : Int) then (Option.bind (z0A_M p0 want) fun (v3 : Bool × Unit) => some (v3.1, ())) else some (Bool.false, ())))
theorem z0P_eq (n : Nat) (x : z0P_a.den) : runF z0P_g (z0P_an n) Tryz.f25 z0P_a z0P_r x = z0P_m n x.1 x.2.1 x.2.2.1 x.2.2.2.1 := by kernel_rfl
def z0P_M (p0 : List Int) (e : Int) (bad : Int) (want : List Int) : Option (Bool × Unit) := z0P_m 0 p0 e bad want
theorem z0P_run (p0 : List Int) (e : Int) (bad : Int) (want : List Int) (y : Bool × Unit) (h : z0P_M p0 e bad want = some y) : ∃ n, z0P_m n p0 e bad want = some y := ⟨0, h⟩
def z0P_e : Entry := { f := 25, args := z0P_a, ress := z0P_r, m := fun x => z0P_M x.1 x.2.1 x.2.2.1 x.2.2.2.1 }
theorem z0P_ok : FnOK Tryz.prog z0P_e := fn_ok (g := z0P_g) (fn := Tryz.f25) hmixed tabOk (eCons z0A_ok eNil) (by kernel_rfl) (by kernel_rfl) (by kernel_rfl) (fun x y h => let ⟨n, hn⟩ := z0P_run x.1 x.2.1 x.2.2.1 x.2.2.2.1 y h; ⟨z0P_an n, iNil, (z0P_eq n x).trans hn⟩)
abbrev z0f_a : Ty := .pair t28 .unit
abbrev z0f_r : Ty := .pair t3 .unit
def z0f_g : G := { T := T, E := [z0g_e], muts := [], fz := [] }
def z0f_k : List (List Nat) := []
def z0f_an (n : Nat) : Ann := { keep := z0f_k, fuel := n, inl := [], deep := 0 }
def z0f_m (n : Nat) (l : List Int) : Option (Int × Unit) :=
  (Option.bind (z0g_M l) fun (v0 : Int × Unit) => some (v0.1, ()))
theorem z0f_eq (n : Nat) (x : z0f_a.den) : runF z0f_g (z0f_an n) Tryz.f32 z0f_a z0f_r x = z0f_m n x.1 := by kernel_rfl
def z0f_M (l : List Int) : Option (Int × Unit) := z0f_m 0 l
theorem z0f_run (l : List Int) (y : Int × Unit) (h : z0f_M l = some y) : ∃ n, z0f_m n l = some y := ⟨0, h⟩
def z0f_e : Entry := { f := 32, args := z0f_a, ress := z0f_r, m := fun x => z0f_M x.1 }
theorem z0f_ok : FnOK Tryz.prog z0f_e := fn_ok (g := z0f_g) (fn := Tryz.f32) hmixed tabOk (eCons z0g_ok eNil) (by kernel_rfl) (by kernel_rfl) (by kernel_rfl) (fun x y h => let ⟨n, hn⟩ := z0f_run x.1 y h; ⟨z0f_an n, iNil, (z0f_eq n x).trans hn⟩)
abbrev zj_a : Ty := .pair t127 .unit
abbrev zj_r : Ty := .pair t4 .unit
def zj_g : G := { T := T, E := [z0i_e, zm_e, z04_e], muts := [], fz := [] }
def zj_k : List (List Nat) := []
def zj_an (n : Nat) : Ann := { keep := zj_k, fuel := n, inl := [], deep := 0 }
def zj_m (n : Nat) (d : Cha × List (List UInt8 × Int × Unit) × Goa × Unit) : Option (Bool × Unit) :=
  (Option.bind (z0i_M d.1) fun (v0 : Bool × Unit) => (bif v0.1 then (Option.bind (zm_M d.2.1) fun (v1 : Bool × Unit) => (bif v1.1 then some ((z04 d.2.2.1).1, ()) else some (Bool.false, ()))) else some (Bool.false, ())))
theorem zj_eq (n : Nat) (x : zj_a.den) : runF zj_g (zj_an n) Tryz.f75 zj_a zj_r x = zj_m n x.1 := by kernel_rfl
def zj_M (d : Cha × List (List UInt8 × Int × Unit) × Goa × Unit) : Option (Bool × Unit) := zj_m 0 d
theorem zj_run (d : Cha × List (List UInt8 × Int × Unit) × Goa × Unit) (y : Bool × Unit) (h : zj_M d = some y) : ∃ n, zj_m n d = some y := ⟨0, h⟩
def zj_e : Entry := { f := 75, args := zj_a, ress := zj_r, m := fun x => zj_M x.1 }
theorem zj_ok : FnOK Tryz.prog zj_e := fn_ok (g := zj_g) (fn := Tryz.f75) hmixed tabOk (eCons z0i_ok (eCons zm_ok (eCons z04_ok eNil))) (by kernel_rfl) (by kernel_rfl) (by kernel_rfl) (fun x y h => let ⟨n, hn⟩ := zj_run x.1 y h; ⟨zj_an n, iNil, (zj_eq n x).trans hn⟩)
abbrev z0q_a : Ty := .pair t125 .unit
abbrev z0q_r : Ty := .pair t134 .unit
def z0q_g : G := { T := T, E := [z0r_e], muts := [], fz := [] }
def z0q_k : List (List Nat) := []
def z0q_an (n : Nat) : Ann := { keep := z0q_k, fuel := n, inl := [], deep := 0 }
def z0q_m (n : Nat) (g : Goa) : Option (Goa × Unit) :=
  (Option.bind (z0r_M g.1) fun (v0 : List Int × Unit) => (Option.bind (z0r_M g.2.1) fun (v1 : List Int × Unit) => some ((v0.1, v1.1, g.2.2.1, g.2.2.2.1, ()), ())))
theorem z0q_eq (n : Nat) (x : z0q_a.den) : runF z0q_g (z0q_an n) Tryz.f78 z0q_a z0q_r x = z0q_m n x.1 := by kernel_rfl
def z0q_M (g : Goa) : Option (Goa × Unit) := z0q_m 0 g
theorem z0q_run (g : Goa) (y : Goa × Unit) (h : z0q_M g = some y) : ∃ n, z0q_m n g = some y := ⟨0, h⟩
def z0q_e : Entry := { f := 78, args := z0q_a, ress := z0q_r, m := fun x => z0q_M x.1 }
theorem z0q_ok : FnOK Tryz.prog z0q_e := fn_ok (g := z0q_g) (fn := Tryz.f78) hmixed tabOk (eCons z0r_ok eNil) (by kernel_rfl) (by kernel_rfl) (by kernel_rfl) (fun x y h => let ⟨n, hn⟩ := z0q_run x.1 y h; ⟨z0q_an n, iNil, (z0q_eq n x).trans hn⟩)
abbrev zX_a : Ty := .pair t3 (.pair t129 .unit)
abbrev zX_r : Ty := .pair t3 .unit
def zX_g : G := { T := T, E := [z0v_e, zt_e, z0g_e], muts := [], fz := [] }
def zX_k : List (List Nat) := []
def zX_an (n : Nat) : Ann := { keep := zX_k, fuel := n, inl := [], deep := 0 }
def zX_m (n : Nat) (n1 : Int) (f : Fai) : Option (Int × Unit) :=
  (bif f.1 == [(110 : UInt8), (111 : UInt8), (110 : UInt8), (101 : UInt8)] then some ((z0v (!eqV (Ty.str.pair ((Ty.int IntKind.i64).pair ((Ty.int IntKind.i64).pair ((Ty.int IntKind.i64).pair Ty.unit)))) f ([(110 : UInt8), (111 : UInt8), (110 : UInt8), (101 : UInt8)], (0 : Int), (0 : Int), (0 : Int), ())) (1 : Int)).1, ()) else (bif f.1 == [(108 : UInt8), (111 : UInt8), (115 : UInt8), (116 : UInt8)] then (bif f.2.2.1 != (0 : Int) then some ((z0v Bool.true (1 : Int)).1, ()) else (Option.bind (z0g_M [(z0v (f.2.2.2.1 != (0 : Int)) (1 : Int)).1, (zt f.2.1 (0 : Int) (IntKind.i64.wrap (n1 - (1 : Int)))).1]) fun (v0 : Int × Unit) => some (v0.1, ()))) else (bif f.1 == [(115 : UInt8), (116 : UInt8), (117 : UInt8), (99 : UInt8), (107 : UInt8)] then (Option.bind (z0g_M [(zt f.2.1 (0 : Int) (IntKind.i64.wrap (n1 - (1 : Int)))).1, (zt f.2.2.1 (0 : Int) (3 : Int)).1, (zt f.2.2.2.1 (0 : Int) (1 : Int)).1]) fun (v7 : Int × Unit) => some (v7.1, ())) else some ((13 : Int), ()))))
theorem zX_eq (n : Nat) (x : zX_a.den) : runF zX_g (zX_an n) Tryz.f80 zX_a zX_r x = zX_m n x.1 x.2.1 := by kernel_rfl
def zX_M (n1 : Int) (f : Fai) : Option (Int × Unit) := zX_m 0 n1 f
theorem zX_run (n1 : Int) (f : Fai) (y : Int × Unit) (h : zX_M n1 f = some y) : ∃ n, zX_m n n1 f = some y := ⟨0, h⟩
def zX_e : Entry := { f := 80, args := zX_a, ress := zX_r, m := fun x => zX_M x.1 x.2.1 }
theorem zX_ok : FnOK Tryz.prog zX_e := fn_ok (g := zX_g) (fn := Tryz.f80) hmixed tabOk (eCons z0v_ok (eCons zt_ok (eCons z0g_ok eNil))) (by kernel_rfl) (by kernel_rfl) (by kernel_rfl) (fun x y h => let ⟨n, hn⟩ := zX_run x.1 x.2.1 y h; ⟨zX_an n, iNil, (zX_eq n x).trans hn⟩)
abbrev za_a : Ty := .pair t35 .unit
abbrev za_r : Ty := .pair t28 .unit
def za_g : G := { T := T, E := [zL_e, zh_e, zB_e, zV_e], muts := [3], fz := [] }
def za_k : List (List Nat) := [[3, 7, 8, 9]]
def za_an (n : Nat) : Ann := { keep := za_k, fuel := n, inl := [], deep := 0 }
def za_m_l0 (n : Nat) (r0 : List Sta → Int → Int → List (Sta × Int × Unit) → Option (List Int × Unit)) (t7_0 : List Sta) (t8_0 : Int) (t9_0 : Int) (c0_0 : List (Sta × Int × Unit)) : Option (List Int × Unit) :=
  (bif decide (t9_0 < t8_0) then (Option.bind (idx t7_0 t9_0) fun (v1 : Sta) => (bif decide (c0_0.length + (1 : Nat) ≤ memMax) then r0 t7_0 t8_0 (IntKind.i64.wrap (t9_0 + (1 : Int))) (c0_0 ++ [((v1.1, v1.2.1, v1.2.2.1, v1.2.2.2.1, ()), t9_0, ())]) else none)) else (Option.bind (zL_M c0_0 fun (x : (Sta × Int × Unit) × Unit) => zh_M x.1) fun (v2 : List (Sta × Int × Unit) × Unit) => (Option.bind (zB_M v2.1 fun (x : (Sta × Int × Unit) × Unit) => zV_M x.1) fun (v3 : List Int × Unit) => some (v3.1, ()))))
def za_m_w0 (n : Nat)  (k : Nat) (t7_0 : List Sta) (t8_0 : Int) (t9_0 : Int) (c0_0 : List (Sta × Int × Unit)) : Option (List Int × Unit) :=
  iter (fun r y => za_m_l0 n (fun t7_0 t8_0 t9_0 c0_0 => r ((t7_0, (t8_0, (t9_0, ()))), ((c0_0, ()), ()))) y.1.1 y.1.2.1 y.1.2.2.1 y.2.1.1) k ((t7_0, (t8_0, (t9_0, ()))), ((c0_0, ()), ()))
def za_m (n : Nat) (c : Cha) : Option (List Int × Unit) :=
  (za_m_w0 n n (c.1) ((↑c.1.length : Int)) ((0 : Int)) ([]))
theorem za_eq (n : Nat) (x : za_a.den) : runF za_g (za_an n) Tryz.f86 za_a za_r x = za_m n x.1 := by kernel_rfl
def za_b0 (t7_0 : List Sta) (t9_0 : Int) (v1 : Sta) (c0_0 : List (Sta × Int × Unit)) : Option ((List Int × Unit) ⊕ (List (Sta × Int × Unit))) :=
  (bif decide (c0_0.length + (1 : Nat) ≤ memMax) then (some (Sum.inr (c0_0 ++ [((v1.1, v1.2.1, v1.2.2.1, v1.2.2.2.1, ()), t9_0, ())]))) else none)
def za_f0 (t7_0 : List Sta) (c0_0 : List (Sta × Int × Unit)) : Option (List Int × Unit) :=
  (Option.bind (zL_M c0_0 fun (x : (Sta × Int × Unit) × Unit) => zh_M x.1) fun (v2 : List (Sta × Int × Unit) × Unit) => (Option.bind (zB_M v2.1 fun (x : (Sta × Int × Unit) × Unit) => zV_M x.1) fun (v3 : List Int × Unit) => (some ((v3.1, ())))))
theorem za_m_w0_le (n : Nat) (hn : big ≤ n)  (t7_0 : List Sta) (c0_0 : List (Sta × Int × Unit)) (hx : List.length (t7_0) < lenMax) : LeF some (loopL (fun i__ e__ s__ => za_b0 t7_0 i__ e__ s__) (fun s__ => za_f0 t7_0 s__) 0 (t7_0) c0_0) (za_m_w0 n n t7_0 (List.length (t7_0) : Int) 0 c0_0) := by
  refine loopL_le (f := some) (W := fun k__ i__ s__ => za_m_w0 n k__ t7_0 (List.length (t7_0) : Int) i__ s__) (body := (fun i__ e__ s__ => za_b0 t7_0 i__ e__ s__)) (fin := (fun s__ => za_f0 t7_0 s__)) (fun k__ i__ s__ => ?_) hx c0_0 n (by unfold big at hn; unfold lenMax at hx; omega)
  show LeF _ _ (za_m_l0 n (za_m_w0 n k__) t7_0 (List.length (t7_0) : Int) i__ s__)
  exact leCond (leBind fun v1 => (leCond (leSome rfl) leNone)) (leMap (leBind fun v2 => (leBind fun v3 => (leSome rfl))))
def za_M (c : Cha) : Option (List Int × Unit) :=
  (bif decide (List.length (c.1) < lenMax) then loopL (fun i__ e__ s__ => za_b0 (c.1) i__ e__ s__) (fun s__ => za_f0 (c.1) s__) 0 (c.1) ([]) else none)
theorem za_run (c : Cha) (y : List Int × Unit) (h : za_M c = some y) : ∃ n, za_m n c = some y :=
  ⟨big, LeF.top (show LeF some (za_M c) (za_m big c) from (fun (n : Nat) (hn : big ≤ n) => show LeF some (za_M c) (za_m n c) from (leGuard fun hx => by apply za_m_w0_le n hn; exact hx)) big (Nat.le_refl _)) h⟩
def za_e : Entry := { f := 86, args := za_a, ress := za_r, m := fun x => za_M x.1 }
theorem za_ok : FnOK Tryz.prog za_e := fn_ok (g := za_g) (fn := Tryz.f86) hmixed tabOk (eCons zL_ok (eCons zh_ok (eCons zB_ok (eCons zV_ok eNil)))) (by kernel_rfl) (by kernel_rfl) (by kernel_rfl) (fun x y h => let ⟨n, hn⟩ := za_run x.1 y h; ⟨za_an n, iNil, (za_eq n x).trans hn⟩)
abbrev z01_a : Ty := .pair t9 .unit
abbrev z01_r : Ty := .pair t3 .unit
def z01_g : G := { T := T, E := [z0S_e], muts := [], fz := [] }
def z01_k : List (List Nat) := []
def z01_an (n : Nat) : Ann := { keep := z01_k, fuel := n, inl := [], deep := 0 }
def z01_m (n : Nat) (s : List UInt8) : Option (Int × Unit) :=
  (Option.bind (z0S_M s) fun (v0 : Bool × Unit) => (bif !v0.1 then some ((8 : Int), ()) else some ((0 : Int), ())))
theorem z01_eq (n : Nat) (x : z01_a.den) : runF z01_g (z01_an n) Tryz.f89 z01_a z01_r x = z01_m n x.1 := by kernel_rfl
def z01_M (s : List UInt8) : Option (Int × Unit) := z01_m 0 s
theorem z01_run (s : List UInt8) (y : Int × Unit) (h : z01_M s = some y) : ∃ n, z01_m n s = some y := ⟨0, h⟩
def z01_e : Entry := { f := 89, args := z01_a, ress := z01_r, m := fun x => z01_M x.1 }
theorem z01_ok : FnOK Tryz.prog z01_e := fn_ok (g := z01_g) (fn := Tryz.f89) hmixed tabOk (eCons z0S_ok eNil) (by kernel_rfl) (by kernel_rfl) (by kernel_rfl) (fun x y h => let ⟨n, hn⟩ := z01_run x.1 y h; ⟨z01_an n, iNil, (z01_eq n x).trans hn⟩)
abbrev zO_a : Ty := .pair t35 (.pair t3 .unit)
abbrev zO_r : Ty := .pair t29 .unit
def zO_g : G := { T := T, E := [z11_e], muts := [], fz := [] }
def zO_k : List (List Nat) := []
def zO_an (n : Nat) : Ann := { keep := zO_k, fuel := n, inl := [], deep := 0 }
def zO_m (n : Nat) (c : Cha) (leaf : Int) : Option (Int × Unit) :=
  (bif decide (leaf < (0 : Int)) then some ((10 : Int), ()) else (bif decide (leaf ≥ (↑c.1.length : Int)) then some ((10 : Int), ()) else (Option.bind (idx c.1 leaf) fun (v2 : Sta) => some ((z11 (v2.2.2.1 != (-1 : Int)) (20 : Int)).1, ()))))
theorem zO_eq (n : Nat) (x : zO_a.den) : runF zO_g (zO_an n) Tryz.f101 zO_a zO_r x = zO_m n x.1 x.2.1 := by kernel_rfl
def zO_M (c : Cha) (leaf : Int) : Option (Int × Unit) := zO_m 0 c leaf
theorem zO_run (c : Cha) (leaf : Int) (y : Int × Unit) (h : zO_M c leaf = some y) : ∃ n, zO_m n c leaf = some y := ⟨0, h⟩
def zO_e : Entry := { f := 101, args := zO_a, ress := zO_r, m := fun x => zO_M x.1 x.2.1 }
theorem zO_ok : FnOK Tryz.prog zO_e := fn_ok (g := zO_g) (fn := Tryz.f101) hmixed tabOk (eCons z11_ok eNil) (by kernel_rfl) (by kernel_rfl) (by kernel_rfl) (fun x y h => let ⟨n, hn⟩ := zO_run x.1 x.2.1 y h; ⟨zO_an n, iNil, (zO_eq n x).trans hn⟩)
abbrev z0c_a : Ty := .pair t3 (.pair t3 (.pair t3 .unit))
abbrev z0c_r : Ty := .pair t29 .unit
def z0c_g : G := { T := T, E := [z11_e], muts := [], fz := [] }
def z0c_k : List (List Nat) := []
def z0c_an (n : Nat) : Ann := { keep := z0c_k, fuel := n, inl := [], deep := 0 }
def z0c_m (n : Nat) (n1 : Int) (least : Int) (most : Int) : Option (Int × Unit) :=
  (bif decide (n1 < least) then some ((z11 Bool.true (3 : Int)).1, ()) else some ((z11 (decide (n1 > most)) (3 : Int)).1, ()))
theorem z0c_eq (n : Nat) (x : z0c_a.den) : runF z0c_g (z0c_an n) Tryz.f108 z0c_a z0c_r x = z0c_m n x.1 x.2.1 x.2.2.1 := by kernel_rfl
def z0c (n1 : Int) (least : Int) (most : Int) : (Int × Unit) :=
  (bif decide (n1 < least) then ((z11 Bool.true (3 : Int)).1, ()) else ((z11 (decide (n1 > most)) (3 : Int)).1, ()))
abbrev z0c_M (n1 : Int) (least : Int) (most : Int) : Option (Int × Unit) := some (z0c n1 least most)
theorem z0c_run (n1 : Int) (least : Int) (most : Int) (y : Int × Unit) (h : z0c_M n1 least most = some y) : ∃ n, z0c_m n n1 least most = some y :=
  ⟨0, by rw [← h]; show z0c_m 0 n1 least most = some (z0c n1 least most); unfold z0c_m z0c; first | rfl | (simp only [cond_some]; done) | (simp only [cond_some]; rfl)⟩
def z0c_e : Entry := { f := 108, args := z0c_a, ress := z0c_r, m := fun x => z0c_M x.1 x.2.1 x.2.2.1 }
theorem z0c_ok : FnOK Tryz.prog z0c_e := fn_ok (g := z0c_g) (fn := Tryz.f108) hmixed tabOk (eCons z11_ok eNil) (by kernel_rfl) (by kernel_rfl) (by kernel_rfl) (fun x y h => let ⟨n, hn⟩ := z0c_run x.1 x.2.1 x.2.2.1 y h; ⟨z0c_an n, iNil, (z0c_eq n x).trans hn⟩)
abbrev z05_a : Ty := .pair t112 (.pair t167 (.pair (.ref t35) .unit))
abbrev z05_r : Ty := .pair t4 .unit
def z05_g : G := { T := T, E := [z0b_e], muts := [], fz := [] }
def z05_k : List (List Nat) := []
def z05_an (n : Nat) : Ann := { keep := z05_k, fuel := n, inl := [], deep := 0 }
def z05_m (n : Nat) (x1 : Cas) (o : Int × Bool × Bool × Unit) (p2 : Cha) : Option (Bool × Unit) :=
  (bif bitsOp IntKind.i64 Go.BinOp.and x1.2.2.1 (1 : Int) != (0 : Int) then (bif !o.2.2.1 then (Option.bind (idx p2.1 o.1) fun (v0 : Sta) => some (v0.2.2.2.1, ())) else some (Bool.false, ())) else some (Bool.false, ()))
theorem z05_eq (n : Nat) (x : z05_a.den) : runF z05_g (z05_an n) Tryz.f118 z05_a z05_r x = z05_m n x.1 x.2.1 x.2.2.1 := by kernel_rfl
def z05_M (x1 : Cas) (o : Int × Bool × Bool × Unit) (p2 : Cha) : Option (Bool × Unit) := z05_m 0 x1 o p2
theorem z05_run (x1 : Cas) (o : Int × Bool × Bool × Unit) (p2 : Cha) (y : Bool × Unit) (h : z05_M x1 o p2 = some y) : ∃ n, z05_m n x1 o p2 = some y := ⟨0, h⟩
def z05_e : Entry := { f := 118, args := z05_a, ress := z05_r, m := fun x => z05_M x.1 x.2.1 x.2.2.1 }
theorem z05_ok : FnOK Tryz.prog z05_e := fn_ok (g := z05_g) (fn := Tryz.f118) hmixed tabOk (eCons z0b_ok eNil) (by kernel_rfl) (by kernel_rfl) (by kernel_rfl) (fun x y h => let ⟨n, hn⟩ := z05_run x.1 x.2.1 x.2.2.1 y h; ⟨z05_an n, iNil, (z05_eq n x).trans hn⟩)
abbrev zH_a : Ty := .pair t28 (.pair t3 .unit)
abbrev zH_r : Ty := .pair t4 .unit
def zH_g : G := { T := T, E := [zS_e], muts := [], fz := [] }
def zH_k : List (List Nat) := []
def zH_an (n : Nat) : Ann := { keep := zH_k, fuel := n, inl := [], deep := 0 }
def zH_m (n : Nat) (s : List Int) (v : Int) : Option (Bool × Unit) :=
  (Option.bind (zS_M s v) fun (v0 : Int × Unit) => some (decide (v0.1 ≥ (0 : Int)), ()))
theorem zH_eq (n : Nat) (x : zH_a.den) : runF zH_g (zH_an n) Tryz.f125 zH_a zH_r x = zH_m n x.1 x.2.1 := by kernel_rfl
def zH_M (s : List Int) (v : Int) : Option (Bool × Unit) := zH_m 0 s v
theorem zH_run (s : List Int) (v : Int) (y : Bool × Unit) (h : zH_M s v = some y) : ∃ n, zH_m n s v = some y := ⟨0, h⟩
def zH_e : Entry := { f := 125, args := zH_a, ress := zH_r, m := fun x => zH_M x.1 x.2.1 }
theorem zH_ok : FnOK Tryz.prog zH_e := fn_ok (g := zH_g) (fn := Tryz.f125) hmixed tabOk (eCons zS_ok eNil) (by kernel_rfl) (by kernel_rfl) (by kernel_rfl) (fun x y h => let ⟨n, hn⟩ := zH_run x.1 x.2.1 y h; ⟨zH_an n, iNil, (zH_eq n x).trans hn⟩)
abbrev z03_a : Ty := .pair t25 (.pair t3 (.pair t125 .unit))
abbrev z03_r : Ty := .pair t3 .unit
def z03_g : G := { T := T, E := [zl_e, zt_e, z0g_e], muts := [], fz := [] }
def z03_k : List (List Nat) := []
def z03_an (n : Nat) : Ann := { keep := z03_k, fuel := n, inl := [], deep := 0 }
def z03_m (n : Nat) (c : Cha) (n1 : Int) (g : Goa) : Option (Int × Unit) :=
  (Option.bind (zl_M c g.1) fun (v0 : Int × Unit) => (Option.bind (zl_M c g.2.1) fun (v1 : Int × Unit) => (Option.bind (z0g_M [v0.1, v1.1, (zt g.2.2.1 (0 : Int) n1).1, (zt g.2.2.2.1 (0 : Int) n1).1]) fun (v2 : Int × Unit) => some (v2.1, ()))))
theorem z03_eq (n : Nat) (x : z03_a.den) : runF z03_g (z03_an n) Tryz.f130 z03_a z03_r x = z03_m n x.1 x.2.1 x.2.2.1 := by kernel_rfl
def z03_M (c : Cha) (n1 : Int) (g : Goa) : Option (Int × Unit) := z03_m 0 c n1 g
theorem z03_run (c : Cha) (n1 : Int) (g : Goa) (y : Int × Unit) (h : z03_M c n1 g = some y) : ∃ n, z03_m n c n1 g = some y := ⟨0, h⟩
def z03_e : Entry := { f := 130, args := z03_a, ress := z03_r, m := fun x => z03_M x.1 x.2.1 x.2.2.1 }
theorem z03_ok : FnOK Tryz.prog z03_e := fn_ok (g := z03_g) (fn := Tryz.f130) hmixed tabOk (eCons zl_ok (eCons zt_ok (eCons z0g_ok eNil))) (by kernel_rfl) (by kernel_rfl) (by kernel_rfl) (fun x y h => let ⟨n, hn⟩ := z03_run x.1 x.2.1 x.2.2.1 y h; ⟨z03_an n, iNil, (z03_eq n x).trans hn⟩)
abbrev zA_a : Ty := .pair t37 (.pair t9 .unit)
abbrev zA_r : Ty := .pair t4 .unit
def zA_g : G := { T := T, E := [zD_e], muts := [], fz := [] }
def zA_k : List (List Nat) := []
def zA_an (n : Nat) : Ann := { keep := zA_k, fuel := n, inl := [], deep := 0 }
def zA_m (n : Nat) (s : List (List UInt8)) (v : List UInt8) : Option (Bool × Unit) :=
  (Option.bind (zD_M s v) fun (v0 : Int × Unit) => some (decide (v0.1 ≥ (0 : Int)), ()))
theorem zA_eq (n : Nat) (x : zA_a.den) : runF zA_g (zA_an n) Tryz.f135 zA_a zA_r x = zA_m n x.1 x.2.1 := by kernel_rfl
def zA_M (s : List (List UInt8)) (v : List UInt8) : Option (Bool × Unit) := zA_m 0 s v
theorem zA_run (s : List (List UInt8)) (v : List UInt8) (y : Bool × Unit) (h : zA_M s v = some y) : ∃ n, zA_m n s v = some y := ⟨0, h⟩
def zA_e : Entry := { f := 135, args := zA_a, ress := zA_r, m := fun x => zA_M x.1 x.2.1 }
theorem zA_ok : FnOK Tryz.prog zA_e := fn_ok (g := zA_g) (fn := Tryz.f135) hmixed tabOk (eCons zD_ok eNil) (by kernel_rfl) (by kernel_rfl) (by kernel_rfl) (fun x y h => let ⟨n, hn⟩ := zA_run x.1 x.2.1 y h; ⟨zA_an n, iNil, (zA_eq n x).trans hn⟩)
abbrev z08_a : Ty := .pair t9 .unit
abbrev z08_r : Ty := .pair t29 .unit
def z08_g : G := { T := T, E := [z0N_e, z11_e], muts := [], fz := [] }
def z08_k : List (List Nat) := []
def z08_an (n : Nat) : Ann := { keep := z08_k, fuel := n, inl := [], deep := 0 }
def z08_m (n : Nat) (s : List UInt8) : Option (Int × Unit) :=
  (Option.bind (z0N_M s) fun (v0 : Bool × Unit) => some ((z11 (!v0.1) (8 : Int)).1, ()))
theorem z08_eq (n : Nat) (x : z08_a.den) : runF z08_g (z08_an n) Tryz.f137 z08_a z08_r x = z08_m n x.1 := by kernel_rfl
def z08_M (s : List UInt8) : Option (Int × Unit) := z08_m 0 s
theorem z08_run (s : List UInt8) (y : Int × Unit) (h : z08_M s = some y) : ∃ n, z08_m n s = some y := ⟨0, h⟩
def z08_e : Entry := { f := 137, args := z08_a, ress := z08_r, m := fun x => z08_M x.1 }
theorem z08_ok : FnOK Tryz.prog z08_e := fn_ok (g := z08_g) (fn := Tryz.f137) hmixed tabOk (eCons z0N_ok (eCons z11_ok eNil)) (by kernel_rfl) (by kernel_rfl) (by kernel_rfl) (fun x y h => let ⟨n, hn⟩ := z08_run x.1 y h; ⟨z08_an n, iNil, (z08_eq n x).trans hn⟩)
abbrev zU_a : Ty := .pair t148 (.pair t3 .unit)
abbrev zU_r : Ty := .pair t4 .unit
def zU_g : G := { T := T, E := [z0b_e], muts := [], fz := [] }
def zU_k : List (List Nat) := []
def zU_an (n : Nat) : Ann := { keep := zU_k, fuel := n, inl := [], deep := 0 }
def zU_m (n : Nat) (t : Tra) (conditions : Int) : Option (Bool × Unit) :=
  some (eqV (Ty.arr (4 : Nat) Ty.bool) (z0b (bitsOp IntKind.i64 Go.BinOp.and conditions t.2.2.2.1)).1 (z0b t.2.2.2.2.1).1, ())
theorem zU_eq (n : Nat) (x : zU_a.den) : runF zU_g (zU_an n) Tryz.f141 zU_a zU_r x = zU_m n x.1 x.2.1 := by kernel_rfl
def zU (t : Tra) (conditions : Int) : (Bool × Unit) :=
  (eqV (Ty.arr (4 : Nat) Ty.bool) (z0b (bitsOp IntKind.i64 Go.BinOp.and conditions t.2.2.2.1)).1 (z0b t.2.2.2.2.1).1, ())
abbrev zU_M (t : Tra) (conditions : Int) : Option (Bool × Unit) := some (zU t conditions)
theorem zU_run (t : Tra) (conditions : Int) (y : Bool × Unit) (h : zU_M t conditions = some y) : ∃ n, zU_m n t conditions = some y :=
  ⟨0, by rw [← h]; show zU_m 0 t conditions = some (zU t conditions); unfold zU_m zU; first | rfl | (simp only [cond_some]; done) | (simp only [cond_some]; rfl)⟩
def zU_e : Entry := { f := 141, args := zU_a, ress := zU_r, m := fun x => zU_M x.1 x.2.1 }
theorem zU_ok : FnOK Tryz.prog zU_e := fn_ok (g := zU_g) (fn := Tryz.f141) hmixed tabOk (eCons z0b_ok eNil) (by kernel_rfl) (by kernel_rfl) (by kernel_rfl) (fun x y h => let ⟨n, hn⟩ := zU_run x.1 x.2.1 y h; ⟨zU_an n, iNil, (zU_eq n x).trans hn⟩)
abbrev zC_a : Ty := .pair t28 (.pair t181 .unit)
abbrev zC_r : Ty := .pair t4 .unit
def zC_g : G := { T := T, E := [zG_e], muts := [], fz := [] }
def zC_k : List (List Nat) := []
def zC_an (n : Nat) : Ann := { keep := zC_k, fuel := n, inl := [], deep := 0 }
def zC_m (n : Nat) (s : List Int) (f : Int × Unit → Option (Bool × Unit)) : Option (Bool × Unit) :=
  (Option.bind (zG_M s f) fun (v0 : Int × Unit) => some (decide (v0.1 ≥ (0 : Int)), ()))
theorem zC_eq (n : Nat) (x : zC_a.den) : runF zC_g (zC_an n) Tryz.f149 zC_a zC_r x = zC_m n x.1 x.2.1 := by kernel_rfl
def zC_M (s : List Int) (f : Int × Unit → Option (Bool × Unit)) : Option (Bool × Unit) := zC_m 0 s f
theorem zC_run (s : List Int) (f : Int × Unit → Option (Bool × Unit)) (y : Bool × Unit) (h : zC_M s f = some y) : ∃ n, zC_m n s f = some y := ⟨0, h⟩
def zC_e : Entry := { f := 149, args := zC_a, ress := zC_r, m := fun x => zC_M x.1 x.2.1 }
theorem zC_ok : FnOK Tryz.prog zC_e := fn_ok (g := zC_g) (fn := Tryz.f149) hmixed tabOk (eCons zG_ok eNil) (by kernel_rfl) (by kernel_rfl) (by kernel_rfl) (fun x y h => let ⟨n, hn⟩ := zC_run x.1 x.2.1 y h; ⟨zC_an n, iNil, (zC_eq n x).trans hn⟩)
abbrev z0n_a : Ty := .unit
abbrev z0n_r : Ty := .pair t238 .unit
def z0n_g : G := { T := T, E := [z0I_e, z0J_e, z0K_e, z0L_e, z0M_e, zf_e], muts := [], fz := [] }
def z0n_k : List (List Nat) := []
def z0n_an (n : Nat) : Ann := { keep := z0n_k, fuel := n, inl := [], deep := 0 }
def z0n_m (n : Nat)  : Option (List (List UInt8 × (Fai × Unit → Option (Fai × Unit)) × (Fai × Int × (List UInt8 × Int × Unit) × Unit → Option ((List UInt8 × Int × Unit) × Bool × Unit)) × Unit) × Unit) :=
  some ([([(110 : UInt8), (111 : UInt8), (110 : UInt8), (101 : UInt8)], fun (x : Fai × Unit) => z0I_M x.1, fun (x : Fai × Int × (List UInt8 × Int × Unit) × Unit) => z0J_M x.1 x.2.1 x.2.2.1, ()), ([(108 : UInt8), (111 : UInt8), (115 : UInt8), (116 : UInt8)], fun (x : Fai × Unit) => z0K_M x.1, fun (x : Fai × Int × (List UInt8 × Int × Unit) × Unit) => z0L_M x.1 x.2.1 x.2.2.1, ()), ([(115 : UInt8), (116 : UInt8), (117 : UInt8), (99 : UInt8), (107 : UInt8)], fun (x : Fai × Unit) => z0M_M x.1, fun (x : Fai × Int × (List UInt8 × Int × Unit) × Unit) => zf_M x.1 x.2.1 x.2.2.1, ())], ())
theorem z0n_eq (n : Nat) (x : z0n_a.den) : runF z0n_g (z0n_an n) Tryz.f156 z0n_a z0n_r x = z0n_m n := by kernel_rfl
def z0n  : (List (List UInt8 × (Fai × Unit → Option (Fai × Unit)) × (Fai × Int × (List UInt8 × Int × Unit) × Unit → Option ((List UInt8 × Int × Unit) × Bool × Unit)) × Unit) × Unit) :=
  ([([(110 : UInt8), (111 : UInt8), (110 : UInt8), (101 : UInt8)], fun (x : Fai × Unit) => z0I_M x.1, fun (x : Fai × Int × (List UInt8 × Int × Unit) × Unit) => z0J_M x.1 x.2.1 x.2.2.1, ()), ([(108 : UInt8), (111 : UInt8), (115 : UInt8), (116 : UInt8)], fun (x : Fai × Unit) => z0K_M x.1, fun (x : Fai × Int × (List UInt8 × Int × Unit) × Unit) => z0L_M x.1 x.2.1 x.2.2.1, ()), ([(115 : UInt8), (116 : UInt8), (117 : UInt8), (99 : UInt8), (107 : UInt8)], fun (x : Fai × Unit) => z0M_M x.1, fun (x : Fai × Int × (List UInt8 × Int × Unit) × Unit) => zf_M x.1 x.2.1 x.2.2.1, ())], ())
abbrev z0n_M  : Option (List (List UInt8 × (Fai × Unit → Option (Fai × Unit)) × (Fai × Int × (List UInt8 × Int × Unit) × Unit → Option ((List UInt8 × Int × Unit) × Bool × Unit)) × Unit) × Unit) := some (z0n)
theorem z0n_run  (y : List (List UInt8 × (Fai × Unit → Option (Fai × Unit)) × (Fai × Int × (List UInt8 × Int × Unit) × Unit → Option ((List UInt8 × Int × Unit) × Bool × Unit)) × Unit) × Unit) (h : z0n_M = some y) : ∃ n, z0n_m n = some y :=
  ⟨0, by rw [← h]; show z0n_m 0 = some (z0n); unfold z0n_m z0n; first | rfl | (simp only [cond_some]; done) | (simp only [cond_some]; rfl)⟩
def z0n_e : Entry := { f := 156, args := z0n_a, ress := z0n_r, m := fun x => z0n_M }
theorem z0n_ok : FnOK Tryz.prog z0n_e := fn_ok (g := z0n_g) (fn := Tryz.f156) hmixed tabOk (eCons z0I_ok (eCons z0J_ok (eCons z0K_ok (eCons z0L_ok (eCons z0M_ok (eCons zf_ok eNil)))))) (by kernel_rfl) (by kernel_rfl) (by kernel_rfl) (fun x y h => let ⟨n, hn⟩ := z0n_run y h; ⟨z0n_an n, iNil, (z0n_eq n x).trans hn⟩)
end
end Go.Tw
end
section
set_option linter.all false
set_option maxRecDepth 1000000
namespace Go.Tw
open Go.Vx Go.Vx.B Go.Proofs
noncomputable section
abbrev zu_a : Ty := .pair t25 .unit
abbrev zu_r : Ty := .pair t3 .unit
def zu_g : G := { T := T, E := [z01_e, z0C_e, zt_e, z0v_e, z0g_e, z0T_e], muts := [], fz := [] }
def zu_k : List (List Nat) := [[1, 3], [1, 3, 4, 6], [1, 7], [1, 11]]
def zu_an (n : Nat) : Ann := { keep := zu_k, fuel := n, inl := [], deep := 0 }
def zu_m_l3 (n : Nat) (r0 : Cha → Int → Option (Int × Unit)) (r3 : Cha → Int → Int → List UInt8 → Int → Int → Bool → Option (Int × Unit)) (c1_3 : Cha) (i3_3 : Int) (k6_3 : Int) (b0_0_3 : List UInt8) (b0_1_3 : Int) (b0_2_3 : Int) (b0_3_3 : Bool) : Option (Int × Unit) :=
  (bif decide (k6_3 < i3_3) then (Option.bind (idx c1_3.1 k6_3) fun (v4 : Sta) => (bif v4.1 == b0_0_3 then some ((9 : Int), ()) else r3 c1_3 i3_3 (IntKind.i64.wrap (k6_3 + (1 : Int))) b0_0_3 b0_1_3 b0_2_3 b0_3_3)) else (bif decide (b0_1_3 < (-1 : Int)) then some ((11 : Int), ()) else (bif decide (b0_1_3 ≥ i3_3) then some ((11 : Int), ()) else r0 c1_3 (IntKind.i64.wrap (i3_3 + (1 : Int))))))
def zu_m_w3 (n : Nat) (r0 : Cha → Int → Option (Int × Unit)) (k : Nat) (c1_3 : Cha) (i3_3 : Int) (k6_3 : Int) (b0_0_3 : List UInt8) (b0_1_3 : Int) (b0_2_3 : Int) (b0_3_3 : Bool) : Option (Int × Unit) :=
  iter (fun r y => zu_m_l3 n r0 (fun c1_3 i3_3 k6_3 b0_0_3 b0_1_3 b0_2_3 b0_3_3 => r ((c1_3, (i3_3, (k6_3, ()))), (((b0_0_3, (b0_1_3, (b0_2_3, (b0_3_3, ())))), ()), ()))) y.1.1 y.1.2.1 y.1.2.2.1 y.2.1.1.1 y.2.1.1.2.1 y.2.1.1.2.2.1 y.2.1.1.2.2.2.1) k ((c1_3, (i3_3, (k6_3, ()))), (((b0_0_3, (b0_1_3, (b0_2_3, (b0_3_3, ())))), ()), ()))
def zu_m_l19 (n : Nat) (r19 : Cha → Int → Option (Int × Unit)) (c1_19 : Cha) (i11_19 : Int) : Option (Int × Unit) :=
  (bif decide (i11_19 < (↑c1_19.2.1.length : Int)) then (Option.bind (idx c1_19.2.1 i11_19) fun (v20 : Tra) => (bif (zt v20.1 (0 : Int) (IntKind.i64.wrap ((↑c1_19.1.length : Int) - (1 : Int)))).1 != (0 : Int) then some ((10 : Int), ()) else (bif (zt v20.2.2.1 (0 : Int) (IntKind.i64.wrap ((↑c1_19.1.length : Int) - (1 : Int)))).1 != (0 : Int) then some ((10 : Int), ()) else (Option.bind (z01_M v20.2.1) fun (v23 : Int × Unit) => (Option.bind (z0g_M [v23.1, (zt v20.2.2.2.1 (0 : Int) (15 : Int)).1, (zt v20.2.2.2.2.1 (0 : Int) (15 : Int)).1, (z0v (bitsOp IntKind.i64 Go.BinOp.and v20.2.2.2.2.1 v20.2.2.2.1 != v20.2.2.2.2.1) (1 : Int)).1]) fun (v24 : Int × Unit) => (bif v24.1 != (0 : Int) then some (v24.1, ()) else r19 c1_19 (IntKind.i64.wrap (i11_19 + (1 : Int))))))))) else (Option.bind (z0T_M c1_19) fun (v25 : List (List UInt8) × Unit) => some ((z0v (decide ((↑v25.1.length : Int) > (8 : Int))) (5 : Int)).1, ())))
def zu_m_w19 (n : Nat)  (k : Nat) (c1_19 : Cha) (i11_19 : Int) : Option (Int × Unit) :=
  iter (fun r y => zu_m_l19 n (fun c1_19 i11_19 => r ((c1_19, (i11_19, ())), ((), ()))) y.1.1 y.1.2.1) k ((c1_19, (i11_19, ())), ((), ()))
def zu_m_l7 (n : Nat) (r7 : Cha → Int → Option (Int × Unit)) (c1_7 : Cha) (i7_7 : Int) : Option (Int × Unit) :=
  (bif decide (i7_7 < (↑c1_7.1.length : Int)) then (Option.bind (idx c1_7.1 i7_7) fun (v8 : Sta) => (Option.bind (z0C_M c1_7 i7_7 v8.2.2.1) fun (v9 : Int × Bool × Unit) => (bif decide (v9.1 > (0 : Int)) then (bif !v9.2.1 then some ((1 : Int), ()) else (bif v8.2.2.2.1 then some ((1 : Int), ()) else (bif v9.1 == (0 : Int) then (bif v8.2.2.1 != (-1 : Int) then some ((1 : Int), ()) else r7 c1_7 (IntKind.i64.wrap (i7_7 + (1 : Int)))) else r7 c1_7 (IntKind.i64.wrap (i7_7 + (1 : Int)))))) else (bif v9.1 == (0 : Int) then (bif v8.2.2.1 != (-1 : Int) then some ((1 : Int), ()) else r7 c1_7 (IntKind.i64.wrap (i7_7 + (1 : Int)))) else r7 c1_7 (IntKind.i64.wrap (i7_7 + (1 : Int))))))) else (bif decide ((↑c1_7.2.1.length : Int) > (48 : Int)) then some ((5 : Int), ()) else (zu_m_w19 n n (c1_7) ((0 : Int)))))
def zu_m_w7 (n : Nat)  (k : Nat) (c1_7 : Cha) (i7_7 : Int) : Option (Int × Unit) :=
  iter (fun r y => zu_m_l7 n (fun c1_7 i7_7 => r ((c1_7, (i7_7, ())), ((), ()))) y.1.1 y.1.2.1) k ((c1_7, (i7_7, ())), ((), ()))
def zu_m_l0 (n : Nat) (r0 : Cha → Int → Option (Int × Unit)) (c1_0 : Cha) (i3_0 : Int) : Option (Int × Unit) :=
  (bif decide (i3_0 < (↑c1_0.1.length : Int)) then (Option.bind (idx c1_0.1 i3_0) fun (v1 : Sta) => (Option.bind (z01_M v1.1) fun (v2 : Int × Unit) => (bif v2.1 != (0 : Int) then some (v2.1, ()) else (zu_m_w3 n r0 n (c1_0) (i3_0) ((0 : Int)) (v1.1) (v1.2.1) (v1.2.2.1) (v1.2.2.2.1))))) else (zu_m_w7 n n (c1_0) ((0 : Int))))
def zu_m_w0 (n : Nat)  (k : Nat) (c1_0 : Cha) (i3_0 : Int) : Option (Int × Unit) :=
  iter (fun r y => zu_m_l0 n (fun c1_0 i3_0 => r ((c1_0, (i3_0, ())), ((), ()))) y.1.1 y.1.2.1) k ((c1_0, (i3_0, ())), ((), ()))
def zu_m (n : Nat) (c : Cha) : Option (Int × Unit) :=
  (bif (↑c.1.length : Int) == (0 : Int) then some ((12 : Int), ()) else (bif decide ((↑c.1.length : Int) > (16 : Int)) then some ((5 : Int), ()) else (zu_m_w0 n n (c) ((0 : Int)))))
theorem zu_eq (n : Nat) (x : zu_a.den) : runF zu_g (zu_an n) Tryz.f20 zu_a zu_r x = zu_m n x.1 := by kernel_rfl
def zu_b3 (c1_3 : Cha) (i3_3 : Int) (b0_0_3 : List UInt8) (b0_1_3 : Int) (b0_2_3 : Int) (b0_3_3 : Bool) (k6_3 : Int) : Option (((Int × Unit) ⊕ Unit) ⊕ Unit) :=
  (Option.bind (idx c1_3.1 k6_3) fun (v4 : Sta) => (bif v4.1 == b0_0_3 then (some (Sum.inl (Sum.inl (((9 : Int), ()))))) else (some (Sum.inr ()))))
def zu_f3 (c1_3 : Cha) (i3_3 : Int) (b0_0_3 : List UInt8) (b0_1_3 : Int) (b0_2_3 : Int) (b0_3_3 : Bool) : Option ((Int × Unit) ⊕ Unit) :=
  (bif decide (b0_1_3 < (-1 : Int)) then (some (Sum.inl (((11 : Int), ())))) else (bif decide (b0_1_3 ≥ i3_3) then (some (Sum.inl (((11 : Int), ())))) else (some (Sum.inr ()))))
theorem zu_m_w3_le (n : Nat) (hn : big ≤ n)  (r0 : Cha → Int → Option (Int × Unit)) (c1_3 : Cha) (i3_3 : Int) (b0_0_3 : List UInt8) (b0_1_3 : Int) (b0_2_3 : Int) (b0_3_3 : Bool) (hx : (i3_3) ≤ (9223372036854775807 : Int)) : LeF (elim some fun (s__ : Unit) => r0 c1_3 (IntKind.i64.wrap (i3_3 + 1))) (loopN (fun i__ s__ => zu_b3 c1_3 i3_3 b0_0_3 b0_1_3 b0_2_3 b0_3_3 i__) (fun s__ => zu_f3 c1_3 i3_3 b0_0_3 b0_1_3 b0_2_3 b0_3_3) ((i3_3) - 0).toNat 0 ()) (zu_m_w3 n r0 n c1_3 i3_3 0 b0_0_3 b0_1_3 b0_2_3 b0_3_3) := by
  refine loopN_le (f := (elim some fun (s__ : Unit) => r0 c1_3 (IntKind.i64.wrap (i3_3 + 1)))) (W := fun k__ i__ s__ => zu_m_w3 n r0 k__ c1_3 i3_3 i__ b0_0_3 b0_1_3 b0_2_3 b0_3_3) (body := (fun i__ s__ => zu_b3 c1_3 i3_3 b0_0_3 b0_1_3 b0_2_3 b0_3_3 i__)) (fin := (fun s__ => zu_f3 c1_3 i3_3 b0_0_3 b0_1_3 b0_2_3 b0_3_3)) (fun k__ i__ s__ => ?_) hx () n 0 (by decide) (by unfold big at hn; omega)
  show LeF _ _ (zu_m_l3 n r0 (zu_m_w3 n r0 k__) c1_3 i3_3 i__ b0_0_3 b0_1_3 b0_2_3 b0_3_3)
  exact leCond (leBind fun v4 => (leCond (leSome rfl) (leSome rfl))) (leMap (leCond (leSome rfl) (leCond (leSome rfl) (leSome rfl))))
def zu_b19 (c1_19 : Cha) (i11_19 : Int) (v20 : Tra) : Option ((Int × Unit) ⊕ Unit) :=
  (bif (zt v20.1 (0 : Int) (IntKind.i64.wrap ((↑c1_19.1.length : Int) - (1 : Int)))).1 != (0 : Int) then (some (Sum.inl (((10 : Int), ())))) else (bif (zt v20.2.2.1 (0 : Int) (IntKind.i64.wrap ((↑c1_19.1.length : Int) - (1 : Int)))).1 != (0 : Int) then (some (Sum.inl (((10 : Int), ())))) else (Option.bind (z01_M v20.2.1) fun (v23 : Int × Unit) => (Option.bind (z0g_M [v23.1, (zt v20.2.2.2.1 (0 : Int) (15 : Int)).1, (zt v20.2.2.2.2.1 (0 : Int) (15 : Int)).1, (z0v (bitsOp IntKind.i64 Go.BinOp.and v20.2.2.2.2.1 v20.2.2.2.1 != v20.2.2.2.2.1) (1 : Int)).1]) fun (v24 : Int × Unit) => (bif v24.1 != (0 : Int) then (some (Sum.inl ((v24.1, ())))) else (some (Sum.inr ())))))))
def zu_f19 (c1_19 : Cha) : Option (Int × Unit) :=
  (Option.bind (z0T_M c1_19) fun (v25 : List (List UInt8) × Unit) => (some (((z0v (decide ((↑v25.1.length : Int) > (8 : Int))) (5 : Int)).1, ()))))
theorem zu_m_w19_le (n : Nat) (hn : big ≤ n)  (c1_19 : Cha) (hx : List.length (c1_19.2.1) < lenMax) : LeF some (loopL (fun i__ e__ s__ => zu_b19 c1_19 i__ e__) (fun s__ => zu_f19 c1_19) 0 (c1_19.2.1) ()) (zu_m_w19 n n c1_19 0) := by
  refine loopL_le (f := some) (W := fun k__ i__ s__ => zu_m_w19 n k__ c1_19 i__) (body := (fun i__ e__ s__ => zu_b19 c1_19 i__ e__)) (fin := (fun s__ => zu_f19 c1_19)) (fun k__ i__ s__ => ?_) hx () n (by unfold big at hn; unfold lenMax at hx; omega)
  show LeF _ _ (zu_m_l19 n (zu_m_w19 n k__) c1_19 i__)
  exact leCond (leBind fun v20 => (leCond (leSome rfl) (leCond (leSome rfl) (leBind fun v23 => (leBind fun v24 => (leCond (leSome rfl) (leSome rfl))))))) (leMap (leBind fun v25 => (leSome rfl)))
def zu_b7 (c1_7 : Cha) (i7_7 : Int) (v8 : Sta) : Option ((Int × Unit) ⊕ Unit) :=
  (Option.bind (z0C_M c1_7 i7_7 v8.2.2.1) fun (v9 : Int × Bool × Unit) => (bif decide (v9.1 > (0 : Int)) then (bif !v9.2.1 then (some (Sum.inl (((1 : Int), ())))) else (bif v8.2.2.2.1 then (some (Sum.inl (((1 : Int), ())))) else (bif v9.1 == (0 : Int) then (bif v8.2.2.1 != (-1 : Int) then (some (Sum.inl (((1 : Int), ())))) else (some (Sum.inr ()))) else (some (Sum.inr ()))))) else (bif v9.1 == (0 : Int) then (bif v8.2.2.1 != (-1 : Int) then (some (Sum.inl (((1 : Int), ())))) else (some (Sum.inr ()))) else (some (Sum.inr ())))))
def zu_f7 (c1_7 : Cha) : Option (Int × Unit) :=
  (bif decide ((↑c1_7.2.1.length : Int) > (48 : Int)) then (some (((5 : Int), ()))) else (bif decide (List.length (c1_7.2.1) < lenMax) then loopL (fun i__ e__ s__ => zu_b19 (c1_7) i__ e__) (fun s__ => zu_f19 (c1_7)) 0 (c1_7.2.1) () else none))
theorem zu_m_w7_le (n : Nat) (hn : big ≤ n)  (c1_7 : Cha) (hx : List.length (c1_7.1) < lenMax) : LeF some (loopL (fun i__ e__ s__ => zu_b7 c1_7 i__ e__) (fun s__ => zu_f7 c1_7) 0 (c1_7.1) ()) (zu_m_w7 n n c1_7 0) := by
  refine loopL_le (f := some) (W := fun k__ i__ s__ => zu_m_w7 n k__ c1_7 i__) (body := (fun i__ e__ s__ => zu_b7 c1_7 i__ e__)) (fin := (fun s__ => zu_f7 c1_7)) (fun k__ i__ s__ => ?_) hx () n (by unfold big at hn; unfold lenMax at hx; omega)
  show LeF _ _ (zu_m_l7 n (zu_m_w7 n k__) c1_7 i__)
  exact leCond (leBind fun v8 => (leBind fun v9 => (leCond (leCond (leSome rfl) (leCond (leSome rfl) (leCond (leCond (leSome rfl) (leSome rfl)) (leSome rfl)))) (leCond (leCond (leSome rfl) (leSome rfl)) (leSome rfl))))) (leMap (leCond (leSome rfl) (leGuard fun hx => by apply zu_m_w19_le n hn; exact hx)))
def zu_b0 (c1_0 : Cha) (i3_0 : Int) (v1 : Sta) : Option ((Int × Unit) ⊕ Unit) :=
  (Option.bind (z01_M v1.1) fun (v2 : Int × Unit) => (bif v2.1 != (0 : Int) then (some (Sum.inl ((v2.1, ())))) else (bif decide ((i3_0) ≤ (9223372036854775807 : Int)) then loopN (fun i__ s__ => zu_b3 (c1_0) (i3_0) (v1.1) (v1.2.1) (v1.2.2.1) (v1.2.2.2.1) i__) (fun s__ => zu_f3 (c1_0) (i3_0) (v1.1) (v1.2.1) (v1.2.2.1) (v1.2.2.2.1)) ((i3_0) - 0).toNat 0 () else none)))
def zu_f0 (c1_0 : Cha) : Option (Int × Unit) :=
  (bif decide (List.length (c1_0.1) < lenMax) then loopL (fun i__ e__ s__ => zu_b7 (c1_0) i__ e__) (fun s__ => zu_f7 (c1_0)) 0 (c1_0.1) () else none)
theorem zu_m_w0_le (n : Nat) (hn : big ≤ n)  (c1_0 : Cha) (hx : List.length (c1_0.1) < lenMax) : LeF some (loopL (fun i__ e__ s__ => zu_b0 c1_0 i__ e__) (fun s__ => zu_f0 c1_0) 0 (c1_0.1) ()) (zu_m_w0 n n c1_0 0) := by
  refine loopL_le (f := some) (W := fun k__ i__ s__ => zu_m_w0 n k__ c1_0 i__) (body := (fun i__ e__ s__ => zu_b0 c1_0 i__ e__)) (fin := (fun s__ => zu_f0 c1_0)) (fun k__ i__ s__ => ?_) hx () n (by unfold big at hn; unfold lenMax at hx; omega)
  show LeF _ _ (zu_m_l0 n (zu_m_w0 n k__) c1_0 i__)
  exact leCond (leBind fun v1 => (leBind fun v2 => (leCond (leSome rfl) (leGuard fun hx => by apply zu_m_w3_le n hn; exact hx)))) (leMap (leGuard fun hx => by apply zu_m_w7_le n hn; exact hx))
def zu_M (c : Cha) : Option (Int × Unit) :=
  (bif (↑c.1.length : Int) == (0 : Int) then (some (((12 : Int), ()))) else (bif decide ((↑c.1.length : Int) > (16 : Int)) then (some (((5 : Int), ()))) else (bif decide (List.length (c.1) < lenMax) then loopL (fun i__ e__ s__ => zu_b0 (c) i__ e__) (fun s__ => zu_f0 (c)) 0 (c.1) () else none)))
theorem zu_run (c : Cha) (y : Int × Unit) (h : zu_M c = some y) : ∃ n, zu_m n c = some y :=
  ⟨big, LeF.top (show LeF some (zu_M c) (zu_m big c) from (fun (n : Nat) (hn : big ≤ n) => show LeF some (zu_M c) (zu_m n c) from (leCond (leSome rfl) (leCond (leSome rfl) (leGuard fun hx => by apply zu_m_w0_le n hn; exact hx)))) big (Nat.le_refl _)) h⟩
def zu_e : Entry := { f := 20, args := zu_a, ress := zu_r, m := fun x => zu_M x.1 }
theorem zu_ok : FnOK Tryz.prog zu_e := fn_ok (g := zu_g) (fn := Tryz.f20) hmixed tabOk (eCons z01_ok (eCons z0C_ok (eCons zt_ok (eCons z0v_ok (eCons z0g_ok (eCons z0T_ok eNil)))))) (by kernel_rfl) (by kernel_rfl) (by kernel_rfl) (fun x y h => let ⟨n, hn⟩ := zu_run x.1 y h; ⟨zu_an n, iNil, (zu_eq n x).trans hn⟩)
abbrev zv_a : Ty := .pair t53 .unit
abbrev zv_r : Ty := .pair t3 .unit
def zv_g : G := { T := T, E := [z01_e, zt_e, z0g_e], muts := [], fz := [] }
def zv_k : List (List Nat) := []
def zv_an (n : Nat) : Ann := { keep := zv_k, fuel := n, inl := [], deep := 0 }
def zv_m (n : Nat) (p0 : List UInt8 × Int × Unit) : Option (Int × Unit) :=
  (Option.bind (z01_M p0.1) fun (v0 : Int × Unit) => (Option.bind (z0g_M [v0.1, (zt p0.2.1 (0 : Int) (15 : Int)).1]) fun (v1 : Int × Unit) => some (v1.1, ())))
theorem zv_eq (n : Nat) (x : zv_a.den) : runF zv_g (zv_an n) Tryz.f35 zv_a zv_r x = zv_m n x.1 := by kernel_rfl
def zv_M (p0 : List UInt8 × Int × Unit) : Option (Int × Unit) := zv_m 0 p0
theorem zv_run (p0 : List UInt8 × Int × Unit) (y : Int × Unit) (h : zv_M p0 = some y) : ∃ n, zv_m n p0 = some y := ⟨0, h⟩
def zv_e : Entry := { f := 35, args := zv_a, ress := zv_r, m := fun x => zv_M x.1 }
theorem zv_ok : FnOK Tryz.prog zv_e := fn_ok (g := zv_g) (fn := Tryz.f35) hmixed tabOk (eCons z01_ok (eCons zt_ok (eCons z0g_ok eNil))) (by kernel_rfl) (by kernel_rfl) (by kernel_rfl) (fun x y h => let ⟨n, hn⟩ := zv_run x.1 y h; ⟨zv_an n, iNil, (zv_eq n x).trans hn⟩)
abbrev z0t_a : Ty := .pair t25 (.pair t3 (.pair t53 .unit))
abbrev z0t_r : Ty := .pair t3 (.pair t3 .unit)
def z0t_g : G := { T := T, E := [z0j_e, z0h_e], muts := [], fz := [] }
def z0t_k : List (List Nat) := []
def z0t_an (n : Nat) : Ann := { keep := z0t_k, fuel := n, inl := [], deep := 0 }
def z0t_m (n : Nat) (c : Cha) (leaf : Int) (p2 : List UInt8 × Int × Unit) : Option (Int × Int × Unit) :=
  (Option.bind (z0j_M c leaf p2) fun (v0 : Int × Tra × Unit) => (bif v0.1 == (0 : Int) then some (leaf, (0 : Int), ()) else (bif decide (v0.1 > (1 : Int)) then some ((0 : Int), (30 : Int), ()) else (Option.bind (z0h_M c v0.2.1.2.2.1) fun (v1 : Int × Unit) => some (v1.1, (0 : Int), ())))))
theorem z0t_eq (n : Nat) (x : z0t_a.den) : runF z0t_g (z0t_an n) Tryz.f36 z0t_a z0t_r x = z0t_m n x.1 x.2.1 x.2.2.1 := by kernel_rfl
def z0t_M (c : Cha) (leaf : Int) (p2 : List UInt8 × Int × Unit) : Option (Int × Int × Unit) := z0t_m 0 c leaf p2
theorem z0t_run (c : Cha) (leaf : Int) (p2 : List UInt8 × Int × Unit) (y : Int × Int × Unit) (h : z0t_M c leaf p2 = some y) : ∃ n, z0t_m n c leaf p2 = some y := ⟨0, h⟩
def z0t_e : Entry := { f := 36, args := z0t_a, ress := z0t_r, m := fun x => z0t_M x.1 x.2.1 x.2.2.1 }
theorem z0t_ok : FnOK Tryz.prog z0t_e := fn_ok (g := z0t_g) (fn := Tryz.f36) hmixed tabOk (eCons z0j_ok (eCons z0h_ok eNil)) (by kernel_rfl) (by kernel_rfl) (by kernel_rfl) (fun x y h => let ⟨n, hn⟩ := z0t_run x.1 x.2.1 x.2.2.1 y h; ⟨z0t_an n, iNil, (z0t_eq n x).trans hn⟩)
abbrev zZ_a : Ty := .pair t35 .unit
abbrev zZ_r : Ty := .pair t37 .unit
def zZ_g : G := { T := T, E := [zA_e], muts := [3], fz := [] }
def zZ_k : List (List Nat) := [[3, 7, 8, 9]]
def zZ_an (n : Nat) : Ann := { keep := zZ_k, fuel := n, inl := [], deep := 0 }
def zZ_m_l0 (n : Nat) (r0 : List Tra → Int → Int → List (List UInt8) → Option (List (List UInt8) × Unit)) (t7_0 : List Tra) (t8_0 : Int) (t9_0 : Int) (c0_0 : List (List UInt8)) : Option (List (List UInt8) × Unit) :=
  (bif decide (t9_0 < t8_0) then (Option.bind (idx t7_0 t9_0) fun (v1 : Tra) => (Option.bind (zA_M c0_0 v1.2.1) fun (v2 : Bool × Unit) => (bif !v2.1 then (bif decide (c0_0.length + (1 : Nat) ≤ memMax) then r0 t7_0 t8_0 (IntKind.i64.wrap (t9_0 + (1 : Int))) (c0_0 ++ [v1.2.1]) else none) else r0 t7_0 t8_0 (IntKind.i64.wrap (t9_0 + (1 : Int))) c0_0))) else some (c0_0, ()))
def zZ_m_w0 (n : Nat)  (k : Nat) (t7_0 : List Tra) (t8_0 : Int) (t9_0 : Int) (c0_0 : List (List UInt8)) : Option (List (List UInt8) × Unit) :=
  iter (fun r y => zZ_m_l0 n (fun t7_0 t8_0 t9_0 c0_0 => r ((t7_0, (t8_0, (t9_0, ()))), ((c0_0, ()), ()))) y.1.1 y.1.2.1 y.1.2.2.1 y.2.1.1) k ((t7_0, (t8_0, (t9_0, ()))), ((c0_0, ()), ()))
def zZ_m (n : Nat) (c : Cha) : Option (List (List UInt8) × Unit) :=
  (zZ_m_w0 n n (c.2.1) ((↑c.2.1.length : Int)) ((0 : Int)) ([]))
theorem zZ_eq (n : Nat) (x : zZ_a.den) : runF zZ_g (zZ_an n) Tryz.f87 zZ_a zZ_r x = zZ_m n x.1 := by kernel_rfl
def zZ_b0 (t7_0 : List Tra) (t9_0 : Int) (v1 : Tra) (c0_0 : List (List UInt8)) : Option ((List (List UInt8) × Unit) ⊕ (List (List UInt8))) :=
  (Option.bind (zA_M c0_0 v1.2.1) fun (v2 : Bool × Unit) => (bif !v2.1 then (bif decide (c0_0.length + (1 : Nat) ≤ memMax) then (some (Sum.inr (c0_0 ++ [v1.2.1]))) else none) else (some (Sum.inr (c0_0)))))
def zZ_f0 (t7_0 : List Tra) (c0_0 : List (List UInt8)) : Option (List (List UInt8) × Unit) :=
  (some ((c0_0, ())))
theorem zZ_m_w0_le (n : Nat) (hn : big ≤ n)  (t7_0 : List Tra) (c0_0 : List (List UInt8)) (hx : List.length (t7_0) < lenMax) : LeF some (loopL (fun i__ e__ s__ => zZ_b0 t7_0 i__ e__ s__) (fun s__ => zZ_f0 t7_0 s__) 0 (t7_0) c0_0) (zZ_m_w0 n n t7_0 (List.length (t7_0) : Int) 0 c0_0) := by
  refine loopL_le (f := some) (W := fun k__ i__ s__ => zZ_m_w0 n k__ t7_0 (List.length (t7_0) : Int) i__ s__) (body := (fun i__ e__ s__ => zZ_b0 t7_0 i__ e__ s__)) (fin := (fun s__ => zZ_f0 t7_0 s__)) (fun k__ i__ s__ => ?_) hx c0_0 n (by unfold big at hn; unfold lenMax at hx; omega)
  show LeF _ _ (zZ_m_l0 n (zZ_m_w0 n k__) t7_0 (List.length (t7_0) : Int) i__ s__)
  exact leCond (leBind fun v1 => (leBind fun v2 => (leCond (leCond (leSome rfl) leNone) (leSome rfl)))) (leMap (leSome rfl))
def zZ_M (c : Cha) : Option (List (List UInt8) × Unit) :=
  (bif decide (List.length (c.2.1) < lenMax) then loopL (fun i__ e__ s__ => zZ_b0 (c.2.1) i__ e__ s__) (fun s__ => zZ_f0 (c.2.1) s__) 0 (c.2.1) ([]) else none)
theorem zZ_run (c : Cha) (y : List (List UInt8) × Unit) (h : zZ_M c = some y) : ∃ n, zZ_m n c = some y :=
  ⟨big, LeF.top (show LeF some (zZ_M c) (zZ_m big c) from (fun (n : Nat) (hn : big ≤ n) => show LeF some (zZ_M c) (zZ_m n c) from (leGuard fun hx => by apply zZ_m_w0_le n hn; exact hx)) big (Nat.le_refl _)) h⟩
def zZ_e : Entry := { f := 87, args := zZ_a, ress := zZ_r, m := fun x => zZ_M x.1 }
theorem zZ_ok : FnOK Tryz.prog zZ_e := fn_ok (g := zZ_g) (fn := Tryz.f87) hmixed tabOk (eCons zA_ok eNil) (by kernel_rfl) (by kernel_rfl) (by kernel_rfl) (fun x y h => let ⟨n, hn⟩ := zZ_run x.1 y h; ⟨zZ_an n, iNil, (zZ_eq n x).trans hn⟩)
abbrev zJ_a : Ty := .pair t35 .unit
abbrev zJ_r : Ty := .pair t29 .unit
def zJ_g : G := { T := T, E := [z08_e, z11_e, z0m_e, zH_e], muts := [12, 13], fz := [13] }
def zJ_k : List (List Nat) := [[1, 3, 4, 15, 16, 17], [4, 60, 61, 62]]
def zJ_an (n : Nat) : Ann := { keep := zJ_k, fuel := n, inl := [], deep := 0 }
def zJ_m_j19 (n : Nat) (r0 : Cha → List Sta → Int → Int → List (List UInt8 × Bool) → List (Int × List Int) → Option (Int × Unit)) (c1_0 : Cha) (t15_0 : List Sta) (t16_0 : Int) (t17_0 : Int) (m0_0 : List (List UInt8 × Bool)) (m1_0 : List (Int × List Int)) (v1 : Sta) : Option (Int × Unit) :=
  (bif eqKey (Ty.int IntKind.i64) v1.2.1 v1.2.1 then (bif decide (((mapGet (Ty.int IntKind.i64) (Ty.int IntKind.i64).slice m1_0 v1.2.1).getD []).length + (1 : Nat) ≤ memMax) then (bif eqKey (Ty.int IntKind.i64) v1.2.1 v1.2.1 then r0 c1_0 t15_0 t16_0 (IntKind.i64.wrap (t17_0 + (1 : Int))) (mapPut Ty.str Ty.bool m0_0 v1.1 Bool.true) (mapPut (Ty.int IntKind.i64) (Ty.int IntKind.i64).slice m1_0 v1.2.1 ((mapGet (Ty.int IntKind.i64) (Ty.int IntKind.i64).slice m1_0 v1.2.1).getD [] ++ [t17_0])) else none) else none) else none)
def zJ_m_l20 (n : Nat) (r20 : List (Int × List Int) → List Sta → Int → Int → Option (Int × Unit)) (children4_20 : List (Int × List Int)) (t60_20 : List Sta) (t61_20 : Int) (t62_20 : Int) : Option (Int × Unit) :=
  (bif decide (t62_20 < t61_20) then (Option.bind (idx t60_20 t62_20) fun (v21 : Sta) => (bif (↑((mapGet (Ty.int IntKind.i64) (Ty.int IntKind.i64).slice children4_20 t62_20).getD []).length : Int) == (0 : Int) then (bif v21.2.2.1 != (-1 : Int) then some ((1 : Int), ()) else (bif !(↑((mapGet (Ty.int IntKind.i64) (Ty.int IntKind.i64).slice children4_20 t62_20).getD []).length : Int) == (0 : Int) then (bif v21.2.2.2.1 then some ((1 : Int), ()) else (Option.bind (zH_M ((mapGet (Ty.int IntKind.i64) (Ty.int IntKind.i64).slice children4_20 t62_20).getD []) v21.2.2.1) fun (v22 : Bool × Unit) => (bif !v22.1 then some ((1 : Int), ()) else r20 children4_20 t60_20 t61_20 (IntKind.i64.wrap (t62_20 + (1 : Int)))))) else r20 children4_20 t60_20 t61_20 (IntKind.i64.wrap (t62_20 + (1 : Int))))) else (bif !(↑((mapGet (Ty.int IntKind.i64) (Ty.int IntKind.i64).slice children4_20 t62_20).getD []).length : Int) == (0 : Int) then (bif v21.2.2.2.1 then some ((1 : Int), ()) else (Option.bind (zH_M ((mapGet (Ty.int IntKind.i64) (Ty.int IntKind.i64).slice children4_20 t62_20).getD []) v21.2.2.1) fun (v23 : Bool × Unit) => (bif !v23.1 then some ((1 : Int), ()) else r20 children4_20 t60_20 t61_20 (IntKind.i64.wrap (t62_20 + (1 : Int)))))) else r20 children4_20 t60_20 t61_20 (IntKind.i64.wrap (t62_20 + (1 : Int)))))) else some ((0 : Int), ()))
def zJ_m_w20 (n : Nat)  (k : Nat) (children4_20 : List (Int × List Int)) (t60_20 : List Sta) (t61_20 : Int) (t62_20 : Int) : Option (Int × Unit) :=
  iter (fun r y => zJ_m_l20 n (fun children4_20 t60_20 t61_20 t62_20 => r ((children4_20, (t60_20, (t61_20, (t62_20, ())))), ((), ()))) y.1.1 y.1.2.1 y.1.2.2.1 y.1.2.2.2.1) k ((children4_20, (t60_20, (t61_20, (t62_20, ())))), ((), ()))
def zJ_m_l0 (n : Nat) (r0 : Cha → List Sta → Int → Int → List (List UInt8 × Bool) → List (Int × List Int) → Option (Int × Unit)) (c1_0 : Cha) (t15_0 : List Sta) (t16_0 : Int) (t17_0 : Int) (m0_0 : List (List UInt8 × Bool)) (m1_0 : List (Int × List Int)) : Option (Int × Unit) :=
  (bif decide (t17_0 < t16_0) then (Option.bind (idx t15_0 t17_0) fun (v1 : Sta) => (Option.bind (z08_M v1.1) fun (v2 : Int × Unit) => (bif decide (v1.2.1 < (-1 : Int)) then (Option.bind (z0m_M [v2.1, (z11 ((mapGet Ty.str Ty.bool m0_0 v1.1).getD Bool.false) (9 : Int)).1, (z11 Bool.true (11 : Int)).1]) fun (v3 : Int × Unit) => (bif v3.1 != (0 : Int) then some (v3.1, ()) else (zJ_m_j19 n r0 c1_0 t15_0 t16_0 t17_0 m0_0 m1_0 v1))) else (Option.bind (z0m_M [v2.1, (z11 ((mapGet Ty.str Ty.bool m0_0 v1.1).getD Bool.false) (9 : Int)).1, (z11 (decide (v1.2.1 ≥ t17_0)) (11 : Int)).1]) fun (v4 : Int × Unit) => (bif v4.1 != (0 : Int) then some (v4.1, ()) else (zJ_m_j19 n r0 c1_0 t15_0 t16_0 t17_0 m0_0 m1_0 v1)))))) else (zJ_m_w20 n n (m1_0) (c1_0.1) ((↑c1_0.1.length : Int)) ((0 : Int))))
def zJ_m_w0 (n : Nat)  (k : Nat) (c1_0 : Cha) (t15_0 : List Sta) (t16_0 : Int) (t17_0 : Int) (m0_0 : List (List UInt8 × Bool)) (m1_0 : List (Int × List Int)) : Option (Int × Unit) :=
  iter (fun r y => zJ_m_l0 n (fun c1_0 t15_0 t16_0 t17_0 m0_0 m1_0 => r ((c1_0, (t15_0, (t16_0, (t17_0, ())))), ((m0_0, (m1_0, ())), ()))) y.1.1 y.1.2.1 y.1.2.2.1 y.1.2.2.2.1 y.2.1.1 y.2.1.2.1) k ((c1_0, (t15_0, (t16_0, (t17_0, ())))), ((m0_0, (m1_0, ())), ()))
def zJ_m (n : Nat) (c : Cha) : Option (Int × Unit) :=
  (zJ_m_w0 n n (c) (c.1) ((↑c.1.length : Int)) ((0 : Int)) ([]) ([]))
theorem zJ_eq (n : Nat) (x : zJ_a.den) : runF zJ_g (zJ_an n) Tryz.f97 zJ_a zJ_r x = zJ_m n x.1 := by kernel_rfl
def zJ_s19 (c1_0 : Cha) (t15_0 : List Sta) (t17_0 : Int) (m0_0 : List (List UInt8 × Bool)) (m1_0 : List (Int × List Int)) (v1 : Sta) : Option ((Int × Unit) ⊕ (List (List UInt8 × Bool) × List (Int × List Int))) :=
  (bif eqKey (Ty.int IntKind.i64) v1.2.1 v1.2.1 then (bif decide (((mapGet (Ty.int IntKind.i64) (Ty.int IntKind.i64).slice m1_0 v1.2.1).getD []).length + (1 : Nat) ≤ memMax) then (bif eqKey (Ty.int IntKind.i64) v1.2.1 v1.2.1 then (some (Sum.inr ((mapPut Ty.str Ty.bool m0_0 v1.1 Bool.true), (mapPut (Ty.int IntKind.i64) (Ty.int IntKind.i64).slice m1_0 v1.2.1 ((mapGet (Ty.int IntKind.i64) (Ty.int IntKind.i64).slice m1_0 v1.2.1).getD [] ++ [t17_0]))))) else none) else none) else none)
theorem gate_Chart_checkStates_s19_le (n : Nat) (hn : big ≤ n)  (r0 : Cha → List Sta → Int → Int → List (List UInt8 × Bool) → List (Int × List Int) → Option (Int × Unit)) (c1_0 : Cha) (t15_0 : List Sta) (t17_0 : Int) (m0_0 : List (List UInt8 × Bool)) (m1_0 : List (Int × List Int)) (v1 : Sta) : LeF (elim some fun (s__ : (List (List UInt8 × Bool) × List (Int × List Int))) => r0 c1_0 t15_0 (List.length (t15_0) : Int) (IntKind.i64.wrap (t17_0 + 1)) s__.1 s__.2) (zJ_s19 c1_0 t15_0 t17_0 m0_0 m1_0 v1) (zJ_m_j19 n r0 c1_0 t15_0 (List.length (t15_0) : Int) t17_0 m0_0 m1_0 v1) :=
  (leCond (leCond (leCond (leSome rfl) leNone) leNone) leNone)
def zJ_b20 (children4_20 : List (Int × List Int)) (t60_20 : List Sta) (t62_20 : Int) (v21 : Sta) : Option ((Int × Unit) ⊕ Unit) :=
  (bif (↑((mapGet (Ty.int IntKind.i64) (Ty.int IntKind.i64).slice children4_20 t62_20).getD []).length : Int) == (0 : Int) then (bif v21.2.2.1 != (-1 : Int) then (some (Sum.inl (((1 : Int), ())))) else (bif !(↑((mapGet (Ty.int IntKind.i64) (Ty.int IntKind.i64).slice children4_20 t62_20).getD []).length : Int) == (0 : Int) then (bif v21.2.2.2.1 then (some (Sum.inl (((1 : Int), ())))) else (Option.bind (zH_M ((mapGet (Ty.int IntKind.i64) (Ty.int IntKind.i64).slice children4_20 t62_20).getD []) v21.2.2.1) fun (v22 : Bool × Unit) => (bif !v22.1 then (some (Sum.inl (((1 : Int), ())))) else (some (Sum.inr ()))))) else (some (Sum.inr ())))) else (bif !(↑((mapGet (Ty.int IntKind.i64) (Ty.int IntKind.i64).slice children4_20 t62_20).getD []).length : Int) == (0 : Int) then (bif v21.2.2.2.1 then (some (Sum.inl (((1 : Int), ())))) else (Option.bind (zH_M ((mapGet (Ty.int IntKind.i64) (Ty.int IntKind.i64).slice children4_20 t62_20).getD []) v21.2.2.1) fun (v23 : Bool × Unit) => (bif !v23.1 then (some (Sum.inl (((1 : Int), ())))) else (some (Sum.inr ()))))) else (some (Sum.inr ()))))
def zJ_f20 (children4_20 : List (Int × List Int)) (t60_20 : List Sta) : Option (Int × Unit) :=
  (some (((0 : Int), ())))
theorem zJ_m_w20_le (n : Nat) (hn : big ≤ n)  (children4_20 : List (Int × List Int)) (t60_20 : List Sta) (hx : List.length (t60_20) < lenMax) : LeF some (loopL (fun i__ e__ s__ => zJ_b20 children4_20 t60_20 i__ e__) (fun s__ => zJ_f20 children4_20 t60_20) 0 (t60_20) ()) (zJ_m_w20 n n children4_20 t60_20 (List.length (t60_20) : Int) 0) := by
  refine loopL_le (f := some) (W := fun k__ i__ s__ => zJ_m_w20 n k__ children4_20 t60_20 (List.length (t60_20) : Int) i__) (body := (fun i__ e__ s__ => zJ_b20 children4_20 t60_20 i__ e__)) (fin := (fun s__ => zJ_f20 children4_20 t60_20)) (fun k__ i__ s__ => ?_) hx () n (by unfold big at hn; unfold lenMax at hx; omega)
  show LeF _ _ (zJ_m_l20 n (zJ_m_w20 n k__) children4_20 t60_20 (List.length (t60_20) : Int) i__)
  exact leCond (leBind fun v21 => (leCond (leCond (leSome rfl) (leCond (leCond (leSome rfl) (leBind fun v22 => (leCond (leSome rfl) (leSome rfl)))) (leSome rfl))) (leCond (leCond (leSome rfl) (leBind fun v23 => (leCond (leSome rfl) (leSome rfl)))) (leSome rfl)))) (leMap (leSome rfl))
def zJ_b0 (c1_0 : Cha) (t15_0 : List Sta) (t17_0 : Int) (v1 : Sta) (m0_0 : List (List UInt8 × Bool)) (m1_0 : List (Int × List Int)) : Option ((Int × Unit) ⊕ (List (List UInt8 × Bool) × List (Int × List Int))) :=
  (Option.bind (z08_M v1.1) fun (v2 : Int × Unit) => (bif decide (v1.2.1 < (-1 : Int)) then (Option.bind (z0m_M [v2.1, (z11 ((mapGet Ty.str Ty.bool m0_0 v1.1).getD Bool.false) (9 : Int)).1, (z11 Bool.true (11 : Int)).1]) fun (v3 : Int × Unit) => (bif v3.1 != (0 : Int) then (some (Sum.inl ((v3.1, ())))) else (zJ_s19 c1_0 t15_0 t17_0 m0_0 m1_0 v1))) else (Option.bind (z0m_M [v2.1, (z11 ((mapGet Ty.str Ty.bool m0_0 v1.1).getD Bool.false) (9 : Int)).1, (z11 (decide (v1.2.1 ≥ t17_0)) (11 : Int)).1]) fun (v4 : Int × Unit) => (bif v4.1 != (0 : Int) then (some (Sum.inl ((v4.1, ())))) else (zJ_s19 c1_0 t15_0 t17_0 m0_0 m1_0 v1)))))
def zJ_f0 (c1_0 : Cha) (t15_0 : List Sta) (m0_0 : List (List UInt8 × Bool)) (m1_0 : List (Int × List Int)) : Option (Int × Unit) :=
  (bif decide (List.length (c1_0.1) < lenMax) then loopL (fun i__ e__ s__ => zJ_b20 (m1_0) (c1_0.1) i__ e__) (fun s__ => zJ_f20 (m1_0) (c1_0.1)) 0 (c1_0.1) () else none)
theorem zJ_m_w0_le (n : Nat) (hn : big ≤ n)  (c1_0 : Cha) (t15_0 : List Sta) (m0_0 : List (List UInt8 × Bool)) (m1_0 : List (Int × List Int)) (hx : List.length (t15_0) < lenMax) : LeF some (loopL (fun i__ e__ s__ => zJ_b0 c1_0 t15_0 i__ e__ s__.1 s__.2) (fun s__ => zJ_f0 c1_0 t15_0 s__.1 s__.2) 0 (t15_0) (m0_0, m1_0)) (zJ_m_w0 n n c1_0 t15_0 (List.length (t15_0) : Int) 0 m0_0 m1_0) := by
  refine loopL_le (f := some) (W := fun k__ i__ s__ => zJ_m_w0 n k__ c1_0 t15_0 (List.length (t15_0) : Int) i__ s__.1 s__.2) (body := (fun i__ e__ s__ => zJ_b0 c1_0 t15_0 i__ e__ s__.1 s__.2)) (fin := (fun s__ => zJ_f0 c1_0 t15_0 s__.1 s__.2)) (fun k__ i__ s__ => ?_) hx (m0_0, m1_0) n (by unfold big at hn; unfold lenMax at hx; omega)
  show LeF _ _ (zJ_m_l0 n (zJ_m_w0 n k__) c1_0 t15_0 (List.length (t15_0) : Int) i__ s__.1 s__.2)
  exact leCond (leBind fun v1 => (leBind fun v2 => (leCond (leBind fun v3 => (leCond (leSome rfl) (by apply gate_Chart_checkStates_s19_le n hn))) (leBind fun v4 => (leCond (leSome rfl) (by apply gate_Chart_checkStates_s19_le n hn)))))) (leMap (leGuard fun hx => by apply zJ_m_w20_le n hn; exact hx))
def zJ_M (c : Cha) : Option (Int × Unit) :=
  (bif decide (List.length (c.1) < lenMax) then loopL (fun i__ e__ s__ => zJ_b0 (c) (c.1) i__ e__ s__.1 s__.2) (fun s__ => zJ_f0 (c) (c.1) s__.1 s__.2) 0 (c.1) (([]), ([])) else none)
theorem zJ_run (c : Cha) (y : Int × Unit) (h : zJ_M c = some y) : ∃ n, zJ_m n c = some y :=
  ⟨big, LeF.top (show LeF some (zJ_M c) (zJ_m big c) from (fun (n : Nat) (hn : big ≤ n) => show LeF some (zJ_M c) (zJ_m n c) from (leGuard fun hx => by apply zJ_m_w0_le n hn; exact hx)) big (Nat.le_refl _)) h⟩
def zJ_e : Entry := { f := 97, args := zJ_a, ress := zJ_r, m := fun x => zJ_M x.1 }
theorem zJ_ok : FnOK Tryz.prog zJ_e := fn_ok (g := zJ_g) (fn := Tryz.f97) hmixed tabOk (eCons z08_ok (eCons z11_ok (eCons z0m_ok (eCons zH_ok eNil)))) (by kernel_rfl) (by kernel_rfl) (by kernel_rfl) (fun x y h => let ⟨n, hn⟩ := zJ_run x.1 y h; ⟨zJ_an n, iNil, (zJ_eq n x).trans hn⟩)
abbrev z0o_a : Ty := .pair t71 .unit
abbrev z0o_r : Ty := .pair t173 (.pair t29 .unit)
def z0o_g : G := { T := T, E := [z0c_e, z08_e, z11_e, z0m_e], muts := [13], fz := [] }
def z0o_k : List (List Nat) := [[4, 14, 15, 16]]
def z0o_an (n : Nat) : Ann := { keep := z0o_k, fuel := n, inl := [], deep := 0 }
def z0o_m_l0 (n : Nat) (r0 : List Cmd → Int → Int → List (Int × List UInt8) → Option (List (Int × List UInt8) × Int × Unit)) (t14_0 : List Cmd) (t15_0 : Int) (t16_0 : Int) (m0_0 : List (Int × List UInt8)) : Option (List (Int × List UInt8) × Int × Unit) :=
  (bif decide (t16_0 < t15_0) then (Option.bind (idx t14_0 t16_0) fun (v1 : Cmd) => (Option.bind (z08_M v1.2.2.1) fun (v2 : Int × Unit) => (bif (mapGet (Ty.int IntKind.i64) Ty.str m0_0 v1.1).isSome then (Option.bind (z0m_M [(z0c v1.1 (1 : Int) (999999999 : Int)).1, (z0c v1.2.1 (0 : Int) (1 : Int)).1, v2.1, (z11 (!(mapGet (Ty.int IntKind.i64) Ty.str m0_0 v1.1).getD [] == v1.2.2.1) (30 : Int)).1]) fun (v3 : Int × Unit) => (bif v3.1 != (0 : Int) then some ([], v3.1, ()) else r0 t14_0 t15_0 (IntKind.i64.wrap (t16_0 + (1 : Int))) (mapPut (Ty.int IntKind.i64) Ty.str m0_0 v1.1 v1.2.2.1))) else (Option.bind (z0m_M [(z0c v1.1 (1 : Int) (999999999 : Int)).1, (z0c v1.2.1 (0 : Int) (1 : Int)).1, v2.1, (z11 Bool.false (30 : Int)).1]) fun (v4 : Int × Unit) => (bif v4.1 != (0 : Int) then some ([], v4.1, ()) else r0 t14_0 t15_0 (IntKind.i64.wrap (t16_0 + (1 : Int))) (mapPut (Ty.int IntKind.i64) Ty.str m0_0 v1.1 v1.2.2.1)))))) else some (m0_0, (0 : Int), ()))
def z0o_m_w0 (n : Nat)  (k : Nat) (t14_0 : List Cmd) (t15_0 : Int) (t16_0 : Int) (m0_0 : List (Int × List UInt8)) : Option (List (Int × List UInt8) × Int × Unit) :=
  iter (fun r y => z0o_m_l0 n (fun t14_0 t15_0 t16_0 m0_0 => r ((t14_0, (t15_0, (t16_0, ()))), ((m0_0, ()), ()))) y.1.1 y.1.2.1 y.1.2.2.1 y.2.1.1) k ((t14_0, (t15_0, (t16_0, ()))), ((m0_0, ()), ()))
def z0o_m (n : Nat) (l : List Cmd) : Option (List (Int × List UInt8) × Int × Unit) :=
  (bif decide ((↑l.length : Int) > (256 : Int)) then some ([], (5 : Int), ()) else (z0o_m_w0 n n (l) ((↑l.length : Int)) ((0 : Int)) ([])))
theorem z0o_eq (n : Nat) (x : z0o_a.den) : runF z0o_g (z0o_an n) Tryz.f107 z0o_a z0o_r x = z0o_m n x.1 := by kernel_rfl
def z0o_b0 (t14_0 : List Cmd) (t16_0 : Int) (v1 : Cmd) (m0_0 : List (Int × List UInt8)) : Option ((List (Int × List UInt8) × Int × Unit) ⊕ (List (Int × List UInt8))) :=
  (Option.bind (z08_M v1.2.2.1) fun (v2 : Int × Unit) => (bif (mapGet (Ty.int IntKind.i64) Ty.str m0_0 v1.1).isSome then (Option.bind (z0m_M [(z0c v1.1 (1 : Int) (999999999 : Int)).1, (z0c v1.2.1 (0 : Int) (1 : Int)).1, v2.1, (z11 (!(mapGet (Ty.int IntKind.i64) Ty.str m0_0 v1.1).getD [] == v1.2.2.1) (30 : Int)).1]) fun (v3 : Int × Unit) => (bif v3.1 != (0 : Int) then (some (Sum.inl (([], v3.1, ())))) else (some (Sum.inr (mapPut (Ty.int IntKind.i64) Ty.str m0_0 v1.1 v1.2.2.1))))) else (Option.bind (z0m_M [(z0c v1.1 (1 : Int) (999999999 : Int)).1, (z0c v1.2.1 (0 : Int) (1 : Int)).1, v2.1, (z11 Bool.false (30 : Int)).1]) fun (v4 : Int × Unit) => (bif v4.1 != (0 : Int) then (some (Sum.inl (([], v4.1, ())))) else (some (Sum.inr (mapPut (Ty.int IntKind.i64) Ty.str m0_0 v1.1 v1.2.2.1)))))))
def z0o_f0 (t14_0 : List Cmd) (m0_0 : List (Int × List UInt8)) : Option (List (Int × List UInt8) × Int × Unit) :=
  (some ((m0_0, (0 : Int), ())))
theorem z0o_m_w0_le (n : Nat) (hn : big ≤ n)  (t14_0 : List Cmd) (m0_0 : List (Int × List UInt8)) (hx : List.length (t14_0) < lenMax) : LeF some (loopL (fun i__ e__ s__ => z0o_b0 t14_0 i__ e__ s__) (fun s__ => z0o_f0 t14_0 s__) 0 (t14_0) m0_0) (z0o_m_w0 n n t14_0 (List.length (t14_0) : Int) 0 m0_0) := by
  refine loopL_le (f := some) (W := fun k__ i__ s__ => z0o_m_w0 n k__ t14_0 (List.length (t14_0) : Int) i__ s__) (body := (fun i__ e__ s__ => z0o_b0 t14_0 i__ e__ s__)) (fin := (fun s__ => z0o_f0 t14_0 s__)) (fun k__ i__ s__ => ?_) hx m0_0 n (by unfold big at hn; unfold lenMax at hx; omega)
  show LeF _ _ (z0o_m_l0 n (z0o_m_w0 n k__) t14_0 (List.length (t14_0) : Int) i__ s__)
  exact leCond (leBind fun v1 => (leBind fun v2 => (leCond (leBind fun v3 => (leCond (leSome rfl) (leSome rfl))) (leBind fun v4 => (leCond (leSome rfl) (leSome rfl)))))) (leMap (leSome rfl))
def z0o_M (l : List Cmd) : Option (List (Int × List UInt8) × Int × Unit) :=
  (bif decide ((↑l.length : Int) > (256 : Int)) then (some (([], (5 : Int), ()))) else (bif decide (List.length (l) < lenMax) then loopL (fun i__ e__ s__ => z0o_b0 (l) i__ e__ s__) (fun s__ => z0o_f0 (l) s__) 0 (l) ([]) else none))
theorem z0o_run (l : List Cmd) (y : List (Int × List UInt8) × Int × Unit) (h : z0o_M l = some y) : ∃ n, z0o_m n l = some y :=
  ⟨big, LeF.top (show LeF some (z0o_M l) (z0o_m big l) from (fun (n : Nat) (hn : big ≤ n) => show LeF some (z0o_M l) (z0o_m n l) from (leCond (leSome rfl) (leGuard fun hx => by apply z0o_m_w0_le n hn; exact hx))) big (Nat.le_refl _)) h⟩
def z0o_e : Entry := { f := 107, args := z0o_a, ress := z0o_r, m := fun x => z0o_M x.1 }
theorem z0o_ok : FnOK Tryz.prog z0o_e := fn_ok (g := z0o_g) (fn := Tryz.f107) hmixed tabOk (eCons z0c_ok (eCons z08_ok (eCons z11_ok (eCons z0m_ok eNil)))) (by kernel_rfl) (by kernel_rfl) (by kernel_rfl) (fun x y h => let ⟨n, hn⟩ := z0o_run x.1 y h; ⟨z0o_an n, iNil, (z0o_eq n x).trans hn⟩)
abbrev z0Z_a : Ty := .pair t3 .unit
abbrev z0Z_r : Ty := .pair t29 .unit
def z0Z_g : G := { T := T, E := [z0c_e], muts := [], fz := [] }
def z0Z_k : List (List Nat) := []
def z0Z_an (n : Nat) : Ann := { keep := z0Z_k, fuel := n, inl := [], deep := 0 }
def z0Z_m (n : Nat) (n1 : Int) : Option (Int × Unit) :=
  some ((z0c n1 (0 : Int) (1000 : Int)).1, ())
theorem z0Z_eq (n : Nat) (x : z0Z_a.den) : runF z0Z_g (z0Z_an n) Tryz.f110 z0Z_a z0Z_r x = z0Z_m n x.1 := by kernel_rfl
def z0Z (n1 : Int) : (Int × Unit) :=
  ((z0c n1 (0 : Int) (1000 : Int)).1, ())
abbrev z0Z_M (n1 : Int) : Option (Int × Unit) := some (z0Z n1)
theorem z0Z_run (n1 : Int) (y : Int × Unit) (h : z0Z_M n1 = some y) : ∃ n, z0Z_m n n1 = some y :=
  ⟨0, by rw [← h]; show z0Z_m 0 n1 = some (z0Z n1); unfold z0Z_m z0Z; first | rfl | (simp only [cond_some]; done) | (simp only [cond_some]; rfl)⟩
def z0Z_e : Entry := { f := 110, args := z0Z_a, ress := z0Z_r, m := fun x => z0Z_M x.1 }
theorem z0Z_ok : FnOK Tryz.prog z0Z_e := fn_ok (g := z0Z_g) (fn := Tryz.f110) hmixed tabOk (eCons z0c_ok eNil) (by kernel_rfl) (by kernel_rfl) (by kernel_rfl) (fun x y h => let ⟨n, hn⟩ := z0Z_run x.1 y h; ⟨z0Z_an n, iNil, (z0Z_eq n x).trans hn⟩)
abbrev zP_a : Ty := .pair t35 (.pair t28 .unit)
abbrev zP_r : Ty := .pair t29 .unit
def zP_g : G := { T := T, E := [zI_e, z11_e, zC_e, z0m_e], muts := [], fz := [] }
def zP_k : List (List Nat) := []
def zP_an (n : Nat) : Ann := { keep := zP_k, fuel := n, inl := [], deep := 0 }
def zP_m (n : Nat) (c : Cha) (l : List Int) : Option (Int × Unit) :=
  (Option.bind (zC_M l fun (x : Int × Unit) => zI_M x.1 c) fun (v0 : Bool × Unit) => (Option.bind (z0m_M [(z11 (decide ((↑l.length : Int) > (16 : Int))) (5 : Int)).1, (z11 v0.1 (10 : Int)).1]) fun (v1 : Int × Unit) => some (v1.1, ())))
theorem zP_eq (n : Nat) (x : zP_a.den) : runF zP_g (zP_an n) Tryz.f123 zP_a zP_r x = zP_m n x.1 x.2.1 := by kernel_rfl
def zP_M (c : Cha) (l : List Int) : Option (Int × Unit) := zP_m 0 c l
theorem zP_run (c : Cha) (l : List Int) (y : Int × Unit) (h : zP_M c l = some y) : ∃ n, zP_m n c l = some y := ⟨0, h⟩
def zP_e : Entry := { f := 123, args := zP_a, ress := zP_r, m := fun x => zP_M x.1 x.2.1 }
theorem zP_ok : FnOK Tryz.prog zP_e := fn_ok (g := zP_g) (fn := Tryz.f123) hmixed tabOk (eCons zI_ok (eCons z11_ok (eCons zC_ok (eCons z0m_ok eNil)))) (by kernel_rfl) (by kernel_rfl) (by kernel_rfl) (fun x y h => let ⟨n, hn⟩ := zP_run x.1 x.2.1 y h; ⟨zP_an n, iNil, (zP_eq n x).trans hn⟩)
abbrev zR_a : Ty := .pair t3 .unit
abbrev zR_r : Ty := .pair t29 .unit
def zR_g : G := { T := T, E := [z0c_e], muts := [], fz := [] }
def zR_k : List (List Nat) := []
def zR_an (n : Nat) : Ann := { keep := zR_k, fuel := n, inl := [], deep := 0 }
def zR_m (n : Nat) (n1 : Int) : Option (Int × Unit) :=
  some ((z0c n1 (0 : Int) (15 : Int)).1, ())
theorem zR_eq (n : Nat) (x : zR_a.den) : runF zR_g (zR_an n) Tryz.f138 zR_a zR_r x = zR_m n x.1 := by kernel_rfl
def zR (n1 : Int) : (Int × Unit) :=
  ((z0c n1 (0 : Int) (15 : Int)).1, ())
abbrev zR_M (n1 : Int) : Option (Int × Unit) := some (zR n1)
theorem zR_run (n1 : Int) (y : Int × Unit) (h : zR_M n1 = some y) : ∃ n, zR_m n n1 = some y :=
  ⟨0, by rw [← h]; show zR_m 0 n1 = some (zR n1); unfold zR_m zR; first | rfl | (simp only [cond_some]; done) | (simp only [cond_some]; rfl)⟩
def zR_e : Entry := { f := 138, args := zR_a, ress := zR_r, m := fun x => zR_M x.1 }
theorem zR_ok : FnOK Tryz.prog zR_e := fn_ok (g := zR_g) (fn := Tryz.f138) hmixed tabOk (eCons z0c_ok eNil) (by kernel_rfl) (by kernel_rfl) (by kernel_rfl) (fun x y h => let ⟨n, hn⟩ := zR_run x.1 y h; ⟨zR_an n, iNil, (zR_eq n x).trans hn⟩)
abbrev zd_a : Ty := .pair t148 (.pair (.ref t3) (.pair (.ref t55) .unit))
abbrev zd_r : Ty := .pair t4 .unit
def zd_g : G := { T := T, E := [zU_e], muts := [], fz := [] }
def zd_k : List (List Nat) := []
def zd_an (n : Nat) : Ann := { keep := zd_k, fuel := n, inl := [], deep := 0 }
def zd_m (n : Nat) (t : Tra) (p1 : Int) (p2 : List UInt8 × Int × Unit) : Option (Bool × Unit) :=
  (bif t.1 == p1 then (bif t.2.1 == p2.1 then some ((zU t p2.2.1).1, ()) else some (Bool.false, ())) else some (Bool.false, ()))
theorem zd_eq (n : Nat) (x : zd_a.den) : runF zd_g (zd_an n) Tryz.f140 zd_a zd_r x = zd_m n x.1 x.2.1 x.2.2.1 := by kernel_rfl
def zd (t : Tra) (p1 : Int) (p2 : List UInt8 × Int × Unit) : (Bool × Unit) :=
  (bif t.1 == p1 then (bif t.2.1 == p2.1 then ((zU t p2.2.1).1, ()) else (Bool.false, ())) else (Bool.false, ()))
abbrev zd_M (t : Tra) (p1 : Int) (p2 : List UInt8 × Int × Unit) : Option (Bool × Unit) := some (zd t p1 p2)
theorem zd_run (t : Tra) (p1 : Int) (p2 : List UInt8 × Int × Unit) (y : Bool × Unit) (h : zd_M t p1 p2 = some y) : ∃ n, zd_m n t p1 p2 = some y :=
  ⟨0, by rw [← h]; show zd_m 0 t p1 p2 = some (zd t p1 p2); unfold zd_m zd; first | rfl | (simp only [cond_some]; done) | (simp only [cond_some]; rfl)⟩
def zd_e : Entry := { f := 140, args := zd_a, ress := zd_r, m := fun x => zd_M x.1 x.2.1 x.2.2.1 }
theorem zd_ok : FnOK Tryz.prog zd_e := fn_ok (g := zd_g) (fn := Tryz.f140) hmixed tabOk (eCons zU_ok eNil) (by kernel_rfl) (by kernel_rfl) (by kernel_rfl) (fun x y h => let ⟨n, hn⟩ := zd_run x.1 x.2.1 x.2.2.1 y h; ⟨zd_an n, iNil, (zd_eq n x).trans hn⟩)
abbrev zg_a : Ty := .pair t131 .unit
abbrev zg_r : Ty := .pair t220 (.pair t4 .unit)
def zg_g : G := { T := T, E := [z0n_e], muts := [], fz := [] }
def zg_k : List (List Nat) := [[1, 2, 6, 7]]
def zg_an (n : Nat) : Ann := { keep := zg_k, fuel := n, inl := [], deep := 0 }
def zg_m_l0 (n : Nat) (r0 : Fai → List (List UInt8 × (Fai × Unit → Option (Fai × Unit)) × (Fai × Int × (List UInt8 × Int × Unit) × Unit → Option ((List UInt8 × Int × Unit) × Bool × Unit)) × Unit) → Int → List UInt8 → Option ((List UInt8 × (Fai × Unit → Option (Fai × Unit)) × (Fai × Int × (List UInt8 × Int × Unit) × Unit → Option ((List UInt8 × Int × Unit) × Bool × Unit)) × Unit) × Bool × Unit)) (f1_0 : Fai) (t6_0 : List (List UInt8 × (Fai × Unit → Option (Fai × Unit)) × (Fai × Int × (List UInt8 × Int × Unit) × Unit → Option ((List UInt8 × Int × Unit) × Bool × Unit)) × Unit)) (t7_0 : Int) (b0_0_0 : List UInt8) : Option ((List UInt8 × (Fai × Unit → Option (Fai × Unit)) × (Fai × Int × (List UInt8 × Int × Unit) × Unit → Option ((List UInt8 × Int × Unit) × Bool × Unit)) × Unit) × Bool × Unit) :=
  (bif decide (t7_0 < (3 : Int)) then (Option.bind (idx t6_0 t7_0) fun (v1 : List UInt8 × (Fai × Unit → Option (Fai × Unit)) × (Fai × Int × (List UInt8 × Int × Unit) × Unit → Option ((List UInt8 × Int × Unit) × Bool × Unit)) × Unit) => (bif v1.1 == f1_0.1 then some ((v1.1, v1.2.1, v1.2.2.1, ()), Bool.true, ()) else r0 f1_0 t6_0 (IntKind.i64.wrap (t7_0 + (1 : Int))) b0_0_0)) else some (([], fun (x : Fai × Unit) => Option.none, fun (x : Fai × Int × (List UInt8 × Int × Unit) × Unit) => Option.none, ()), Bool.false, ()))
def zg_m_w0 (n : Nat)  (k : Nat) (f1_0 : Fai) (t6_0 : List (List UInt8 × (Fai × Unit → Option (Fai × Unit)) × (Fai × Int × (List UInt8 × Int × Unit) × Unit → Option ((List UInt8 × Int × Unit) × Bool × Unit)) × Unit)) (t7_0 : Int) (b0_0_0 : List UInt8) : Option ((List UInt8 × (Fai × Unit → Option (Fai × Unit)) × (Fai × Int × (List UInt8 × Int × Unit) × Unit → Option ((List UInt8 × Int × Unit) × Bool × Unit)) × Unit) × Bool × Unit) :=
  iter (fun r y => zg_m_l0 n (fun f1_0 t6_0 t7_0 b0_0_0 => r ((f1_0, (t6_0, (t7_0, ()))), (((b0_0_0, ()), ()), ()))) y.1.1 y.1.2.1 y.1.2.2.1 y.2.1.1.1) k ((f1_0, (t6_0, (t7_0, ()))), (((b0_0_0, ()), ()), ()))
def zg_m (n : Nat) (f : Fai) : Option ((List UInt8 × (Fai × Unit → Option (Fai × Unit)) × (Fai × Int × (List UInt8 × Int × Unit) × Unit → Option ((List UInt8 × Int × Unit) × Bool × Unit)) × Unit) × Bool × Unit) :=
  (zg_m_w0 n n (f) (z0n.1) ((0 : Int)) ([]))
theorem zg_eq (n : Nat) (x : zg_a.den) : runF zg_g (zg_an n) Tryz.f143 zg_a zg_r x = zg_m n x.1 := by kernel_rfl
def zg_b0 (f1_0 : Fai) (t6_0 : List (List UInt8 × (Fai × Unit → Option (Fai × Unit)) × (Fai × Int × (List UInt8 × Int × Unit) × Unit → Option ((List UInt8 × Int × Unit) × Bool × Unit)) × Unit)) (b0_0_0 : List UInt8) (t7_0 : Int) : Option (((List UInt8 × (Fai × Unit → Option (Fai × Unit)) × (Fai × Int × (List UInt8 × Int × Unit) × Unit → Option ((List UInt8 × Int × Unit) × Bool × Unit)) × Unit) × Bool × Unit) ⊕ Unit) :=
  (Option.bind (idx t6_0 t7_0) fun (v1 : List UInt8 × (Fai × Unit → Option (Fai × Unit)) × (Fai × Int × (List UInt8 × Int × Unit) × Unit → Option ((List UInt8 × Int × Unit) × Bool × Unit)) × Unit) => (bif v1.1 == f1_0.1 then (some (Sum.inl (((v1.1, v1.2.1, v1.2.2.1, ()), Bool.true, ())))) else (some (Sum.inr ()))))
def zg_f0 (f1_0 : Fai) (t6_0 : List (List UInt8 × (Fai × Unit → Option (Fai × Unit)) × (Fai × Int × (List UInt8 × Int × Unit) × Unit → Option ((List UInt8 × Int × Unit) × Bool × Unit)) × Unit)) (b0_0_0 : List UInt8) : Option ((List UInt8 × (Fai × Unit → Option (Fai × Unit)) × (Fai × Int × (List UInt8 × Int × Unit) × Unit → Option ((List UInt8 × Int × Unit) × Bool × Unit)) × Unit) × Bool × Unit) :=
  (some ((([], fun (x : Fai × Unit) => Option.none, fun (x : Fai × Int × (List UInt8 × Int × Unit) × Unit) => Option.none, ()), Bool.false, ())))
theorem zg_m_w0_le (n : Nat) (hn : big ≤ n)  (f1_0 : Fai) (t6_0 : List (List UInt8 × (Fai × Unit → Option (Fai × Unit)) × (Fai × Int × (List UInt8 × Int × Unit) × Unit → Option ((List UInt8 × Int × Unit) × Bool × Unit)) × Unit)) (b0_0_0 : List UInt8) (hx : ((3 : Int)) ≤ (9223372036854775807 : Int)) : LeF some (loopN (fun i__ s__ => zg_b0 f1_0 t6_0 b0_0_0 i__) (fun s__ => zg_f0 f1_0 t6_0 b0_0_0) (((3 : Int)) - 0).toNat 0 ()) (zg_m_w0 n n f1_0 t6_0 0 b0_0_0) := by
  refine loopN_le (f := some) (W := fun k__ i__ s__ => zg_m_w0 n k__ f1_0 t6_0 i__ b0_0_0) (body := (fun i__ s__ => zg_b0 f1_0 t6_0 b0_0_0 i__)) (fin := (fun s__ => zg_f0 f1_0 t6_0 b0_0_0)) (fun k__ i__ s__ => ?_) hx () n 0 (by decide) (by unfold big at hn; omega)
  show LeF _ _ (zg_m_l0 n (zg_m_w0 n k__) f1_0 t6_0 i__ b0_0_0)
  exact leCond (leBind fun v1 => (leCond (leSome rfl) (leSome rfl))) (leMap (leSome rfl))
def zg_M (f : Fai) : Option ((List UInt8 × (Fai × Unit → Option (Fai × Unit)) × (Fai × Int × (List UInt8 × Int × Unit) × Unit → Option ((List UInt8 × Int × Unit) × Bool × Unit)) × Unit) × Bool × Unit) :=
  (bif decide (((3 : Int)) ≤ (9223372036854775807 : Int)) then loopN (fun i__ s__ => zg_b0 (f) (z0n.1) ([]) i__) (fun s__ => zg_f0 (f) (z0n.1) ([])) (((3 : Int)) - 0).toNat 0 () else none)
theorem zg_run (f : Fai) (y : (List UInt8 × (Fai × Unit → Option (Fai × Unit)) × (Fai × Int × (List UInt8 × Int × Unit) × Unit → Option ((List UInt8 × Int × Unit) × Bool × Unit)) × Unit) × Bool × Unit) (h : zg_M f = some y) : ∃ n, zg_m n f = some y :=
  ⟨big, LeF.top (show LeF some (zg_M f) (zg_m big f) from (fun (n : Nat) (hn : big ≤ n) => show LeF some (zg_M f) (zg_m n f) from (leGuard fun hx => by apply zg_m_w0_le n hn; exact hx)) big (Nat.le_refl _)) h⟩
def zg_e : Entry := { f := 143, args := zg_a, ress := zg_r, m := fun x => zg_M x.1 }
theorem zg_ok : FnOK Tryz.prog zg_e := fn_ok (g := zg_g) (fn := Tryz.f143) hmixed tabOk (eCons z0n_ok eNil) (by kernel_rfl) (by kernel_rfl) (by kernel_rfl) (fun x y h => let ⟨n, hn⟩ := zg_run x.1 y h; ⟨zg_an n, iNil, (zg_eq n x).trans hn⟩)
abbrev zT_a : Ty := .pair t3 (.pair (.ref t134) .unit)
abbrev zT_r : Ty := .pair t4 .unit
def zT_g : G := { T := T, E := [zH_e], muts := [], fz := [] }
def zT_k : List (List Nat) := []
def zT_an (n : Nat) : Ann := { keep := zT_k, fuel := n, inl := [], deep := 0 }
def zT_m (n : Nat) (leaf : Int) (p1 : Goa) : Option (Bool × Unit) :=
  (Option.bind (zH_M p1.2.1 leaf) fun (v0 : Bool × Unit) => some (v0.1, ()))
theorem zT_eq (n : Nat) (x : zT_a.den) : runF zT_g (zT_an n) Tryz.f153 zT_a zT_r x = zT_m n x.1 x.2.1 := by kernel_rfl
def zT_M (leaf : Int) (p1 : Goa) : Option (Bool × Unit) := zT_m 0 leaf p1
theorem zT_run (leaf : Int) (p1 : Goa) (y : Bool × Unit) (h : zT_M leaf p1 = some y) : ∃ n, zT_m n leaf p1 = some y := ⟨0, h⟩
def zT_e : Entry := { f := 153, args := zT_a, ress := zT_r, m := fun x => zT_M x.1 x.2.1 }
theorem zT_ok : FnOK Tryz.prog zT_e := fn_ok (g := zT_g) (fn := Tryz.f153) hmixed tabOk (eCons zH_ok eNil) (by kernel_rfl) (by kernel_rfl) (by kernel_rfl) (fun x y h => let ⟨n, hn⟩ := zT_run x.1 x.2.1 y h; ⟨zT_an n, iNil, (zT_eq n x).trans hn⟩)
end
end Go.Tw
end
