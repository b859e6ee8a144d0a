/- Models of the program's functions, by program (gen.py), and what they compute.
Models of the program's functions, by program (gen.py), and what they compute.
Models of the program's functions, by program (gen.py), and what they compute.
Models of the program's functions, by program (gen.py), and what they compute. -/
import Derived.Test.YtkfigfhjbejikaaGreatDoorBT
import Derived.Test.YtkfigfhjbejikaaGreatDoorBA
section
set_option linter.all false
set_option maxRecDepth 1000000
namespace Go.Tw
open Go.Vx Go.Vx.B Go.Proofs
noncomputable section
abbrev z03_a : Ty := .pair t56 (.pair t56 .unit)
abbrev z03_r : Ty := .pair t4 .unit
def z03_g : G := { T := T, E := [z02_e], muts := [], fz := [] }
def z03_k : List (List Nat) := [[0, 1, 5]]
def z03_an (n : Nat) : Ann := { keep := z03_k, fuel := n, inl := [], deep := 0 }
def z03_m_l0 (n : Nat) (r0 : List (List Int) → List (List Int) → Int → Option (Bool × Unit)) (a0_0 : List (List Int)) (b1_0 : List (List Int)) (i5_0 : Int) : Option (Bool × Unit) :=
  (bif decide (i5_0 < (↑a0_0.length : Int)) then (Option.bind (idx a0_0 i5_0) fun (v1 : List Int) => (Option.bind (idx b1_0 i5_0) fun (v2 : List Int) => (Option.bind (z02_M v1 v2) fun (v3 : Bool × Unit) => (bif !v3.1 then some (Bool.false, ()) else r0 a0_0 b1_0 (IntKind.i64.wrap (i5_0 + (1 : Int))))))) else some (Bool.true, ()))
def z03_m_w0 (n : Nat)  (k : Nat) (a0_0 : List (List Int)) (b1_0 : List (List Int)) (i5_0 : Int) : Option (Bool × Unit) :=
  iter (fun r y => z03_m_l0 n (fun a0_0 b1_0 i5_0 => r ((a0_0, (b1_0, (i5_0, ()))), ((), ()))) y.1.1 y.1.2.1 y.1.2.2.1) k ((a0_0, (b1_0, (i5_0, ()))), ((), ()))
def z03_m (n : Nat) (a : List (List Int)) (b : List (List Int)) : Option (Bool × Unit) :=
  (bif (↑a.length : Int) != (↑b.length : Int) then some (Bool.false, ()) else (z03_m_w0 n n (a) (b) ((0 : Int))))
theorem z03_eq (n : Nat) (x : z03_a.den) : runF z03_g (z03_an n) Tryz.f47 z03_a z03_r x = z03_m n x.1 x.2.1 := by kernel_rfl
def z03_b0 (a0_0 : List (List Int)) (b1_0 : List (List Int)) (i5_0 : Int) (v1 : List Int) : Option ((Bool × Unit) ⊕ Unit) :=
  (Option.bind (idx b1_0 i5_0) fun (v2 : List Int) => (Option.bind (z02_M v1 v2) fun (v3 : Bool × Unit) => (bif !v3.1 then (some (Sum.inl ((Bool.false, ())))) else (some (Sum.inr ())))))
def z03_f0 (a0_0 : List (List Int)) (b1_0 : List (List Int)) : Option (Bool × Unit) :=
  (some ((Bool.true, ())))
theorem z03_m_w0_le (n : Nat) (hn : big ≤ n)  (a0_0 : List (List Int)) (b1_0 : List (List Int)) (hx : List.length (a0_0) < lenMax) : LeF some (loopL (fun i__ e__ s__ => z03_b0 a0_0 b1_0 i__ e__) (fun s__ => z03_f0 a0_0 b1_0) 0 (a0_0) ()) (z03_m_w0 n n a0_0 b1_0 0) := by
  refine loopL_le (f := some) (W := fun k__ i__ s__ => z03_m_w0 n k__ a0_0 b1_0 i__) (body := (fun i__ e__ s__ => z03_b0 a0_0 b1_0 i__ e__)) (fin := (fun s__ => z03_f0 a0_0 b1_0)) (fun k__ i__ s__ => ?_) hx () n (by unfold big at hn; unfold lenMax at hx; omega)
  show LeF _ _ (z03_m_l0 n (z03_m_w0 n k__) a0_0 b1_0 i__)
  exact leCond (leBind fun v1 => (leBind fun v2 => (leBind fun v3 => (leCond (leSome rfl) (leSome rfl))))) (leMap (leSome rfl))
def z03_M (a : List (List Int)) (b : List (List Int)) : Option (Bool × Unit) :=
  (bif (↑a.length : Int) != (↑b.length : Int) then (some ((Bool.false, ()))) else (bif decide (List.length (a) < lenMax) then loopL (fun i__ e__ s__ => z03_b0 (a) (b) i__ e__) (fun s__ => z03_f0 (a) (b)) 0 (a) () else none))
theorem z03_run (a : List (List Int)) (b : List (List Int)) (y : Bool × Unit) (h : z03_M a b = some y) : ∃ n, z03_m n a b = some y :=
  ⟨big, LeF.top (show LeF some (z03_M a b) (z03_m big a b) from (fun (n : Nat) (hn : big ≤ n) => show LeF some (z03_M a b) (z03_m n a b) from (leCond (leSome rfl) (leGuard fun hx => by apply z03_m_w0_le n hn; exact hx))) big (Nat.le_refl _)) h⟩
def z03_e : Entry := { f := 47, args := z03_a, ress := z03_r, m := fun x => z03_M x.1 x.2.1 }
theorem z03_ok : FnOK Tryz.prog z03_e := fn_ok (g := z03_g) (fn := Tryz.f47) hmixed tabOk (eCons z02_ok eNil) (by kernel_rfl) (by kernel_rfl) (by kernel_rfl) (fun x y h => let ⟨n, hn⟩ := z03_run x.1 x.2.1 y h; ⟨z03_an n, iNil, (z03_eq n x).trans hn⟩)
abbrev z0I_a : Ty := .pair t3 (.pair t3 (.pair t3 .unit))
abbrev z0I_r : Ty := .pair t35 .unit
def z0I_g : G := { T := T, E := [z0k_e], muts := [], fz := [] }
def z0I_k : List (List Nat) := []
def z0I_an (n : Nat) : Ann := { keep := z0I_k, fuel := n, inl := [], deep := 0 }
def z0I_m (n : Nat) (n1 : Int) (least : Int) (most : Int) : Option (Int × Unit) :=
  (bif decide (n1 < least) then some ((z0k Bool.true (3 : Int)).1, ()) else some ((z0k (decide (n1 > most)) (3 : Int)).1, ()))
theorem z0I_eq (n : Nat) (x : z0I_a.den) : runF z0I_g (z0I_an n) Tryz.f90 z0I_a z0I_r x = z0I_m n x.1 x.2.1 x.2.2.1 := by kernel_rfl
def z0I (n1 : Int) (least : Int) (most : Int) : (Int × Unit) :=
  (bif decide (n1 < least) then ((z0k Bool.true (3 : Int)).1, ()) else ((z0k (decide (n1 > most)) (3 : Int)).1, ()))
abbrev z0I_M (n1 : Int) (least : Int) (most : Int) : Option (Int × Unit) := some (z0I n1 least most)
theorem z0I_run (n1 : Int) (least : Int) (most : Int) (y : Int × Unit) (h : z0I_M n1 least most = some y) : ∃ n, z0I_m n n1 least most = some y :=
  ⟨0, by rw [← h]; show z0I_m 0 n1 least most = some (z0I n1 least most); unfold z0I_m z0I; first | rfl | (simp only [cond_some]; done) | (simp only [cond_some]; rfl)⟩
def z0I_e : Entry := { f := 90, args := z0I_a, ress := z0I_r, m := fun x => z0I_M x.1 x.2.1 x.2.2.1 }
theorem z0I_ok : FnOK Tryz.prog z0I_e := fn_ok (g := z0I_g) (fn := Tryz.f90) hmixed tabOk (eCons z0k_ok eNil) (by kernel_rfl) (by kernel_rfl) (by kernel_rfl) (fun x y h => let ⟨n, hn⟩ := z0I_run x.1 x.2.1 x.2.2.1 y h; ⟨z0I_an n, iNil, (z0I_eq n x).trans hn⟩)
abbrev zr_a : Ty := .pair t22 .unit
abbrev zr_r : Ty := .pair t3 .unit
def zr_g : G := { T := T, E := [z0M_e, zp_e, z0b_e], muts := [], fz := [] }
def zr_k : List (List Nat) := [[0, 3], [0, 3, 4]]
def zr_an (n : Nat) : Ann := { keep := zr_k, fuel := n, inl := [], deep := 0 }
def zr_m_l3 (n : Nat) (r0 : List Nod → Int → Option (Int × Unit)) (r3 : List Nod → Int → Int → Option (Int × Unit)) (l0_3 : List Nod) (i3_3 : Int) (k4_3 : Int) : Option (Int × Unit) :=
  (bif decide (k4_3 < i3_3) then (Option.bind (idx l0_3 k4_3) fun (v4 : Nod) => (Option.bind (idx l0_3 i3_3) fun (v5 : Nod) => (bif v4.1 == v5.1 then some ((9 : Int), ()) else r3 l0_3 i3_3 (IntKind.i64.wrap (k4_3 + (1 : Int)))))) else (Option.bind (idx l0_3 i3_3) fun (v6 : Nod) => (Option.bind (idx l0_3 i3_3) fun (v7 : Nod) => (Option.bind (z0b_M [(zp v6.2.1 (1 : Int) (1000 : Int)).1, (zp v7.2.2.1 (0 : Int) (1024 : Int)).1]) fun (v8 : Int × Unit) => (bif v8.1 != (0 : Int) then some (v8.1, ()) else r0 l0_3 (IntKind.i64.wrap (i3_3 + (1 : Int))))))))
def zr_m_w3 (n : Nat) (r0 : List Nod → Int → Option (Int × Unit)) (k : Nat) (l0_3 : List Nod) (i3_3 : Int) (k4_3 : Int) : Option (Int × Unit) :=
  iter (fun r y => zr_m_l3 n r0 (fun l0_3 i3_3 k4_3 => r ((l0_3, (i3_3, (k4_3, ()))), ((), ()))) y.1.1 y.1.2.1 y.1.2.2.1) k ((l0_3, (i3_3, (k4_3, ()))), ((), ()))
def zr_m_l0 (n : Nat) (r0 : List Nod → Int → Option (Int × Unit)) (l0_0 : List Nod) (i3_0 : Int) : Option (Int × Unit) :=
  (bif decide (i3_0 < (↑l0_0.length : Int)) then (Option.bind (idx l0_0 i3_0) fun (v1 : Nod) => (Option.bind (z0M_M v1.1) fun (v2 : Bool × Unit) => (bif !v2.1 then some ((8 : Int), ()) else (zr_m_w3 n r0 n (l0_0) (i3_0) ((0 : Int)))))) else some ((0 : Int), ()))
def zr_m_w0 (n : Nat)  (k : Nat) (l0_0 : List Nod) (i3_0 : Int) : Option (Int × Unit) :=
  iter (fun r y => zr_m_l0 n (fun l0_0 i3_0 => r ((l0_0, (i3_0, ())), ((), ()))) y.1.1 y.1.2.1) k ((l0_0, (i3_0, ())), ((), ()))
def zr_m (n : Nat) (l : List Nod) : Option (Int × Unit) :=
  (bif (↑l.length : Int) == (0 : Int) then some ((12 : Int), ()) else (bif decide ((↑l.length : Int) > (8 : Int)) then some ((5 : Int), ()) else (zr_m_w0 n n (l) ((0 : Int)))))
theorem zr_eq (n : Nat) (x : zr_a.den) : runF zr_g (zr_an n) Tryz.f94 zr_a zr_r x = zr_m n x.1 := by kernel_rfl
def zr_b3 (l0_3 : List Nod) (i3_3 : Int) (k4_3 : Int) : Option (((Int × Unit) ⊕ Unit) ⊕ Unit) :=
  (Option.bind (idx l0_3 k4_3) fun (v4 : Nod) => (Option.bind (idx l0_3 i3_3) fun (v5 : Nod) => (bif v4.1 == v5.1 then (some (Sum.inl (Sum.inl (((9 : Int), ()))))) else (some (Sum.inr ())))))
def zr_f3 (l0_3 : List Nod) (i3_3 : Int) : Option ((Int × Unit) ⊕ Unit) :=
  (Option.bind (idx l0_3 i3_3) fun (v6 : Nod) => (Option.bind (idx l0_3 i3_3) fun (v7 : Nod) => (Option.bind (z0b_M [(zp v6.2.1 (1 : Int) (1000 : Int)).1, (zp v7.2.2.1 (0 : Int) (1024 : Int)).1]) fun (v8 : Int × Unit) => (bif v8.1 != (0 : Int) then (some (Sum.inl ((v8.1, ())))) else (some (Sum.inr ()))))))
theorem zr_m_w3_le (n : Nat) (hn : big ≤ n)  (r0 : List Nod → Int → Option (Int × Unit)) (l0_3 : List Nod) (i3_3 : Int) (hx : (i3_3) ≤ (9223372036854775807 : Int)) : LeF (elim some fun (s__ : Unit) => r0 l0_3 (IntKind.i64.wrap (i3_3 + 1))) (loopN (fun i__ s__ => zr_b3 l0_3 i3_3 i__) (fun s__ => zr_f3 l0_3 i3_3) ((i3_3) - 0).toNat 0 ()) (zr_m_w3 n r0 n l0_3 i3_3 0) := by
  refine loopN_le (f := (elim some fun (s__ : Unit) => r0 l0_3 (IntKind.i64.wrap (i3_3 + 1)))) (W := fun k__ i__ s__ => zr_m_w3 n r0 k__ l0_3 i3_3 i__) (body := (fun i__ s__ => zr_b3 l0_3 i3_3 i__)) (fin := (fun s__ => zr_f3 l0_3 i3_3)) (fun k__ i__ s__ => ?_) hx () n 0 (by decide) (by unfold big at hn; omega)
  show LeF _ _ (zr_m_l3 n r0 (zr_m_w3 n r0 k__) l0_3 i3_3 i__)
  exact leCond (leBind fun v4 => (leBind fun v5 => (leCond (leSome rfl) (leSome rfl)))) (leMap (leBind fun v6 => (leBind fun v7 => (leBind fun v8 => (leCond (leSome rfl) (leSome rfl))))))
def zr_b0 (l0_0 : List Nod) (i3_0 : Int) (v1 : Nod) : Option ((Int × Unit) ⊕ Unit) :=
  (Option.bind (z0M_M v1.1) fun (v2 : Bool × Unit) => (bif !v2.1 then (some (Sum.inl (((8 : Int), ())))) else (bif decide ((i3_0) ≤ (9223372036854775807 : Int)) then loopN (fun i__ s__ => zr_b3 (l0_0) (i3_0) i__) (fun s__ => zr_f3 (l0_0) (i3_0)) ((i3_0) - 0).toNat 0 () else none)))
def zr_f0 (l0_0 : List Nod) : Option (Int × Unit) :=
  (some (((0 : Int), ())))
theorem zr_m_w0_le (n : Nat) (hn : big ≤ n)  (l0_0 : List Nod) (hx : List.length (l0_0) < lenMax) : LeF some (loopL (fun i__ e__ s__ => zr_b0 l0_0 i__ e__) (fun s__ => zr_f0 l0_0) 0 (l0_0) ()) (zr_m_w0 n n l0_0 0) := by
  refine loopL_le (f := some) (W := fun k__ i__ s__ => zr_m_w0 n k__ l0_0 i__) (body := (fun i__ e__ s__ => zr_b0 l0_0 i__ e__)) (fin := (fun s__ => zr_f0 l0_0)) (fun k__ i__ s__ => ?_) hx () n (by unfold big at hn; unfold lenMax at hx; omega)
  show LeF _ _ (zr_m_l0 n (zr_m_w0 n k__) l0_0 i__)
  exact leCond (leBind fun v1 => (leBind fun v2 => (leCond (leSome rfl) (leGuard fun hx => by apply zr_m_w3_le n hn; exact hx)))) (leMap (leSome rfl))
def zr_M (l : List Nod) : Option (Int × Unit) :=
  (bif (↑l.length : Int) == (0 : Int) then (some (((12 : Int), ()))) else (bif decide ((↑l.length : Int) > (8 : Int)) then (some (((5 : Int), ()))) else (bif decide (List.length (l) < lenMax) then loopL (fun i__ e__ s__ => zr_b0 (l) i__ e__) (fun s__ => zr_f0 (l)) 0 (l) () else none)))
theorem zr_run (l : List Nod) (y : Int × Unit) (h : zr_M l = some y) : ∃ n, zr_m n l = some y :=
  ⟨big, LeF.top (show LeF some (zr_M l) (zr_m big l) from (fun (n : Nat) (hn : big ≤ n) => show LeF some (zr_M l) (zr_m n l) from (leCond (leSome rfl) (leCond (leSome rfl) (leGuard fun hx => by apply zr_m_w0_le n hn; exact hx)))) big (Nat.le_refl _)) h⟩
def zr_e : Entry := { f := 94, args := zr_a, ress := zr_r, m := fun x => zr_M x.1 }
theorem zr_ok : FnOK Tryz.prog zr_e := fn_ok (g := zr_g) (fn := Tryz.f94) hmixed tabOk (eCons z0M_ok (eCons zp_ok (eCons z0b_ok eNil))) (by kernel_rfl) (by kernel_rfl) (by kernel_rfl) (fun x y h => let ⟨n, hn⟩ := zr_run x.1 y h; ⟨zr_an n, iNil, (zr_eq n x).trans hn⟩)
abbrev z00_a : Ty := .pair t83 (.pair t3 .unit)
abbrev z00_r : Ty := .pair t3 .unit
def z00_g : G := { T := T, E := [z0e_e, z0D_e, z0s_e, z0n_e, zp_e, z0b_e], muts := [], fz := [] }
def z00_k : List (List Nat) := []
def z00_an (n : Nat) : Ann := { keep := z00_k, fuel := n, inl := [], deep := 0 }
def z00_m (n : Nat) (x1 : Lnk) (nodes : Int) : Option (Int × Unit) :=
  (Option.bind (z0D_M z0e.1 x1.1) fun (v0 : Bool × Unit) => (bif !v0.1 then some ((13 : Int), ()) else (bif !(z0n x1.2.1 nodes (z0s x1.1).1).1 then some ((10 : Int), ()) else (bif !(z0n x1.2.2.1 nodes (z0s x1.1).2.1).1 then some ((10 : Int), ()) else (bif x1.2.1 == x1.2.2.1 then some ((17 : Int), ()) else (bif (z0s x1.1).1 then (Option.bind (z0b_M [(zp x1.2.2.2.1 (0 : Int) (0 : Int)).1, (zp x1.2.2.2.2.1 (1 : Int) (1000 : Int)).1]) fun (v4 : Int × Unit) => some (v4.1, ())) else (Option.bind (z0b_M [(zp x1.2.2.2.1 (0 : Int) (1024 : Int)).1, (zp x1.2.2.2.2.1 (1 : Int) (1000 : Int)).1]) fun (v5 : Int × Unit) => some (v5.1, ()))))))))
theorem z00_eq (n : Nat) (x : z00_a.den) : runF z00_g (z00_an n) Tryz.f95 z00_a z00_r x = z00_m n x.1 x.2.1 := by kernel_rfl
def z00_M (x1 : Lnk) (nodes : Int) : Option (Int × Unit) := z00_m 0 x1 nodes
theorem z00_run (x1 : Lnk) (nodes : Int) (y : Int × Unit) (h : z00_M x1 nodes = some y) : ∃ n, z00_m n x1 nodes = some y := ⟨0, h⟩
def z00_e : Entry := { f := 95, args := z00_a, ress := z00_r, m := fun x => z00_M x.1 x.2.1 }
theorem z00_ok : FnOK Tryz.prog z00_e := fn_ok (g := z00_g) (fn := Tryz.f95) hmixed tabOk (eCons z0e_ok (eCons z0D_ok (eCons z0s_ok (eCons z0n_ok (eCons zp_ok (eCons z0b_ok eNil)))))) (by kernel_rfl) (by kernel_rfl) (by kernel_rfl) (fun x y h => let ⟨n, hn⟩ := z00_run x.1 x.2.1 y h; ⟨z00_an n, iNil, (z00_eq n x).trans hn⟩)
abbrev z0B_a : Ty := .pair t167 .unit
abbrev z0B_r : Ty := .pair t56 .unit
def z0B_g : G := { T := T, E := [zC_e, zx_e], muts := [], fz := [] }
def z0B_k : List (List Nat) := []
def z0B_an (n : Nat) : Ann := { keep := z0B_k, fuel := n, inl := [], deep := 0 }
def z0B_m (n : Nat) (l : List Psg) : Option (List (List Int) × Unit) :=
  (Option.bind (zC_M l fun (x : Psg × Unit) => zx_M x.1) fun (v0 : List (List Int) × Unit) => some (v0.1, ()))
theorem z0B_eq (n : Nat) (x : z0B_a.den) : runF z0B_g (z0B_an n) Tryz.f97 z0B_a z0B_r x = z0B_m n x.1 := by kernel_rfl
def z0B_M (l : List Psg) : Option (List (List Int) × Unit) := z0B_m 0 l
theorem z0B_run (l : List Psg) (y : List (List Int) × Unit) (h : z0B_M l = some y) : ∃ n, z0B_m n l = some y := ⟨0, h⟩
def z0B_e : Entry := { f := 97, args := z0B_a, ress := z0B_r, m := fun x => z0B_M x.1 }
theorem z0B_ok : FnOK Tryz.prog z0B_e := fn_ok (g := z0B_g) (fn := Tryz.f97) hmixed tabOk (eCons zC_ok (eCons zx_ok eNil)) (by kernel_rfl) (by kernel_rfl) (by kernel_rfl) (fun x y h => let ⟨n, hn⟩ := z0B_run x.1 y h; ⟨z0B_an n, iNil, (z0B_eq n x).trans hn⟩)
abbrev zX_a : Ty := .pair t41 (.pair t26 .unit)
abbrev zX_r : Ty := .pair t26 .unit
def zX_g : G := { T := T, E := [zm_e], muts := [], fz := [] }
def zX_k : List (List Nat) := [[5, 15, 16, 17]]
def zX_an (n : Nat) : Ann := { keep := zX_k, fuel := n, inl := [], deep := 0 }
def zX_m_l0 (n : Nat) (r0 : List Nod → Int → Int → List Int → Option (List Int × Unit)) (t15_0 : List Nod) (t16_0 : Int) (t17_0 : Int) (c0_0 : List Int) : Option (List Int × Unit) :=
  (bif decide (t17_0 < t16_0) then (Option.bind (idx t15_0 t17_0) fun (v1 : Nod) => (Option.bind (idx c0_0 t17_0) fun (v2 : Int) => (Option.bind (c0_0[t17_0.toNat]?) fun (v3 : Int) => (Option.bind (zm_M (v1.1, v1.2.1, v1.2.2.1, ()) v3) fun (v4 : Int × Unit) => (Option.bind (idx c0_0 t17_0) fun (v5 : Int) => (Option.bind (c0_0[t17_0.toNat]?) fun (v6 : Int) => r0 t15_0 t16_0 (IntKind.i64.wrap (t17_0 + (1 : Int))) (c0_0.set t17_0.toNat v4.1))))))) else some (c0_0, ()))
def zX_m_w0 (n : Nat)  (k : Nat) (t15_0 : List Nod) (t16_0 : Int) (t17_0 : Int) (c0_0 : List Int) : Option (List Int × Unit) :=
  iter (fun r y => zX_m_l0 n (fun t15_0 t16_0 t17_0 c0_0 => r ((t15_0, (t16_0, (t17_0, ()))), ((c0_0, ()), ()))) y.1.1 y.1.2.1 y.1.2.2.1 y.2.1.1) k ((t15_0, (t16_0, (t17_0, ()))), ((c0_0, ()), ()))
def zX_m (n : Nat) (b : Bas) (v : List Int) : Option (List Int × Unit) :=
  (bif Bool.true && decide ((0 : Int) ≤ (↑v.length : Int)) && decide ((↑v.length : Int) ≤ (↑memMax : Int)) && (↑v.length : Int) == (↑v.length : Int) then (zX_m_w0 n n (b.1) ((↑b.1.length : Int)) ((0 : Int)) (List.take (List.replicate (↑v.length : Int).toNat (0 : Int)).length v ++ List.drop v.length (List.replicate (↑v.length : Int).toNat (0 : Int)))) else none)
theorem zX_eq (n : Nat) (x : zX_a.den) : runF zX_g (zX_an n) Tryz.f98 zX_a zX_r x = zX_m n x.1 x.2.1 := by kernel_rfl
def zX_b0 (t15_0 : List Nod) (t17_0 : Int) (v1 : Nod) (c0_0 : List Int) : Option ((List Int × Unit) ⊕ (List Int)) :=
  (Option.bind (idx c0_0 t17_0) fun (v2 : Int) => (Option.bind (c0_0[t17_0.toNat]?) fun (v3 : Int) => (Option.bind (zm_M (v1.1, v1.2.1, v1.2.2.1, ()) v3) fun (v4 : Int × Unit) => (Option.bind (idx c0_0 t17_0) fun (v5 : Int) => (Option.bind (c0_0[t17_0.toNat]?) fun (v6 : Int) => (some (Sum.inr (c0_0.set t17_0.toNat v4.1))))))))
def zX_f0 (t15_0 : List Nod) (c0_0 : List Int) : Option (List Int × Unit) :=
  (some ((c0_0, ())))
theorem zX_m_w0_le (n : Nat) (hn : big ≤ n)  (t15_0 : List Nod) (c0_0 : List Int) (hx : List.length (t15_0) < lenMax) : LeF some (loopL (fun i__ e__ s__ => zX_b0 t15_0 i__ e__ s__) (fun s__ => zX_f0 t15_0 s__) 0 (t15_0) c0_0) (zX_m_w0 n n t15_0 (List.length (t15_0) : Int) 0 c0_0) := by
  refine loopL_le (f := some) (W := fun k__ i__ s__ => zX_m_w0 n k__ t15_0 (List.length (t15_0) : Int) i__ s__) (body := (fun i__ e__ s__ => zX_b0 t15_0 i__ e__ s__)) (fin := (fun s__ => zX_f0 t15_0 s__)) (fun k__ i__ s__ => ?_) hx c0_0 n (by unfold big at hn; unfold lenMax at hx; omega)
  show LeF _ _ (zX_m_l0 n (zX_m_w0 n k__) t15_0 (List.length (t15_0) : Int) i__ s__)
  exact leCond (leBind fun v1 => (leBind fun v2 => (leBind fun v3 => (leBind fun v4 => (leBind fun v5 => (leBind fun v6 => (leSome rfl))))))) (leMap (leSome rfl))
def zX_M (b : Bas) (v : List Int) : Option (List Int × Unit) :=
  (bif Bool.true && decide ((0 : Int) ≤ (↑v.length : Int)) && decide ((↑v.length : Int) ≤ (↑memMax : Int)) && (↑v.length : Int) == (↑v.length : Int) then (bif decide (List.length (b.1) < lenMax) then loopL (fun i__ e__ s__ => zX_b0 (b.1) i__ e__ s__) (fun s__ => zX_f0 (b.1) s__) 0 (b.1) (List.take (List.replicate (↑v.length : Int).toNat (0 : Int)).length v ++ List.drop v.length (List.replicate (↑v.length : Int).toNat (0 : Int))) else none) else none)
theorem zX_run (b : Bas) (v : List Int) (y : List Int × Unit) (h : zX_M b v = some y) : ∃ n, zX_m n b v = some y :=
  ⟨big, LeF.top (show LeF some (zX_M b v) (zX_m big b v) from (fun (n : Nat) (hn : big ≤ n) => show LeF some (zX_M b v) (zX_m n b v) from (leCond (leGuard fun hx => by apply zX_m_w0_le n hn; exact hx) leNone)) big (Nat.le_refl _)) h⟩
def zX_e : Entry := { f := 98, args := zX_a, ress := zX_r, m := fun x => zX_M x.1 x.2.1 }
theorem zX_ok : FnOK Tryz.prog zX_e := fn_ok (g := zX_g) (fn := Tryz.f98) hmixed tabOk (eCons zm_ok eNil) (by kernel_rfl) (by kernel_rfl) (by kernel_rfl) (fun x y h => let ⟨n, hn⟩ := zX_run x.1 x.2.1 y h; ⟨zX_an n, iNil, (zX_eq n x).trans hn⟩)
def z0o_m_j12 (n : Nat) (b : Bas) (v : List Int) (c : Cnd) (x1 : Lnk) (j0 : Int) : Option (Int × Unit) :=
  (Option.bind (idx b.1 j0) fun (v1 : Nod) => (bif x1.1 == [(98 : UInt8), (97 : UInt8), (114 : UInt8), (114 : UInt8), (105 : UInt8), (101 : UInt8), (114 : UInt8)] then (bif !c.2.1 then some ((0 : Int), ()) else (Option.bind (idx v j0) fun (v2 : Int) => (Option.bind (idx v j0) fun (v3 : Int) => (Option.bind (z0d_M (IntKind.i64.wrap (IntKind.i64.wrap (v1.2.1 * c.1) - v3)) x1.2.2.2.2.1) fun (v4 : Int × Unit) => some (if Bool.true = Bool.true then if v4.1 > IntKind.i64.wrap ((0 : Int) - v2) then v4.1 else IntKind.i64.wrap ((0 : Int) - v2) else if v4.1 < IntKind.i64.wrap ((0 : Int) - v2) then v4.1 else IntKind.i64.wrap ((0 : Int) - v2), ()))))) else (bif x1.1 == [(108 : UInt8), (101 : UInt8), (97 : UInt8), (107 : UInt8)] then (Option.bind (idx v j0) fun (v5 : Int) => (Option.bind (z0d_M (IntKind.i64.wrap (IntKind.i64.wrap (v1.2.1 * c.1) - v5)) x1.2.2.2.2.1) fun (v6 : Int × Unit) => some (if Bool.true = Bool.true then if v6.1 > (0 : Int) then v6.1 else (0 : Int) else if v6.1 < (0 : Int) then v6.1 else (0 : Int), ()))) else (bif x1.1 == [(111 : UInt8), (117 : UInt8), (116 : UInt8), (102 : UInt8), (97 : UInt8), (108 : UInt8), (108 : UInt8)] then (Option.bind (idx v j0) fun (v7 : Int) => (Option.bind (z0d_M (IntKind.i64.wrap (v7 - IntKind.i64.wrap (v1.2.1 * if Bool.true = Bool.true then if x1.2.2.2.1 > c.1 then x1.2.2.2.1 else c.1 else if x1.2.2.2.1 < c.1 then x1.2.2.2.1 else c.1))) x1.2.2.2.2.1) fun (v8 : Int × Unit) => some (if Bool.true = Bool.true then if v8.1 > (0 : Int) then v8.1 else (0 : Int) else if v8.1 < (0 : Int) then v8.1 else (0 : Int), ()))) else (bif x1.1 == [(112 : UInt8), (117 : UInt8), (109 : UInt8), (112 : UInt8)] then (Option.bind (idx v j0) fun (v9 : Int) => some (if Bool.true = Bool.true then if (if Bool.false = Bool.true then if IntKind.i64.wrap (v9 - IntKind.i64.wrap (v1.2.1 * x1.2.2.2.1)) > x1.2.2.2.2.1 then IntKind.i64.wrap (v9 - IntKind.i64.wrap (v1.2.1 * x1.2.2.2.1)) else x1.2.2.2.2.1 else if IntKind.i64.wrap (v9 - IntKind.i64.wrap (v1.2.1 * x1.2.2.2.1)) < x1.2.2.2.2.1 then IntKind.i64.wrap (v9 - IntKind.i64.wrap (v1.2.1 * x1.2.2.2.1)) else x1.2.2.2.2.1) > (0 : Int) then if Bool.false = Bool.true then if IntKind.i64.wrap (v9 - IntKind.i64.wrap (v1.2.1 * x1.2.2.2.1)) > x1.2.2.2.2.1 then IntKind.i64.wrap (v9 - IntKind.i64.wrap (v1.2.1 * x1.2.2.2.1)) else x1.2.2.2.2.1 else if IntKind.i64.wrap (v9 - IntKind.i64.wrap (v1.2.1 * x1.2.2.2.1)) < x1.2.2.2.2.1 then IntKind.i64.wrap (v9 - IntKind.i64.wrap (v1.2.1 * x1.2.2.2.1)) else x1.2.2.2.2.1 else (0 : Int) else if (if Bool.false = Bool.true then if IntKind.i64.wrap (v9 - IntKind.i64.wrap (v1.2.1 * x1.2.2.2.1)) > x1.2.2.2.2.1 then IntKind.i64.wrap (v9 - IntKind.i64.wrap (v1.2.1 * x1.2.2.2.1)) else x1.2.2.2.2.1 else if IntKind.i64.wrap (v9 - IntKind.i64.wrap (v1.2.1 * x1.2.2.2.1)) < x1.2.2.2.2.1 then IntKind.i64.wrap (v9 - IntKind.i64.wrap (v1.2.1 * x1.2.2.2.1)) else x1.2.2.2.2.1) < (0 : Int) then if Bool.false = Bool.true then if IntKind.i64.wrap (v9 - IntKind.i64.wrap (v1.2.1 * x1.2.2.2.1)) > x1.2.2.2.2.1 then IntKind.i64.wrap (v9 - IntKind.i64.wrap (v1.2.1 * x1.2.2.2.1)) else x1.2.2.2.2.1 else if IntKind.i64.wrap (v9 - IntKind.i64.wrap (v1.2.1 * x1.2.2.2.1)) < x1.2.2.2.2.1 then IntKind.i64.wrap (v9 - IntKind.i64.wrap (v1.2.1 * x1.2.2.2.1)) else x1.2.2.2.2.1 else (0 : Int), ())) else (Option.bind (idx v j0) fun (v10 : Int) => (Option.bind (z0d_M (IntKind.i64.wrap (v10 - IntKind.i64.wrap (v1.2.1 * x1.2.2.2.1))) x1.2.2.2.2.1) fun (v11 : Int × Unit) => some (if Bool.true = Bool.true then if v11.1 > (0 : Int) then v11.1 else (0 : Int) else if v11.1 < (0 : Int) then v11.1 else (0 : Int), ()))))))))
def z0o_m (n : Nat) (b : Bas) (v : List Int) (c : Cnd) (x1 : Lnk) : Option (Int × Unit) :=
  (bif decide (x1.2.1 < (0 : Int)) then (z0o_m_j12 n b v c x1 (x1.2.2.1)) else (z0o_m_j12 n b v c x1 (x1.2.1)))
def z0o_M (b : Bas) (v : List Int) (c : Cnd) (x1 : Lnk) : Option (Int × Unit) := z0o_m 0 b v c x1
abbrev zS_a : Ty := .pair t96 (.pair t176 .unit)
abbrev zS_r : Ty := .pair t35 .unit
def zS_g : G := { T := T, E := [z0k_e, z0W_e], muts := [], fz := [] }
def zS_k : List (List Nat) := []
def zS_an (n : Nat) : Ann := { keep := zS_k, fuel := n, inl := [], deep := 0 }
def zS_m (n : Nat) (x1 : Int × Int × Unit) (check : Int × Unit → Option (Int × Unit)) : Option (Int × Unit) :=
  (Option.bind (check (x1.1, ())) fun (v0 : Int × Unit) => (Option.bind (check (x1.2.1, ())) fun (v1 : Int × Unit) => (Option.bind (z0W_M [v0.1, v1.1, (z0k (decide (x1.1 > x1.2.1)) (11 : Int)).1]) fun (v2 : Int × Unit) => some (v2.1, ()))))
theorem zS_eq (n : Nat) (x : zS_a.den) : runF zS_g (zS_an n) Tryz.f158 zS_a zS_r x = zS_m n x.1 x.2.1 := by kernel_rfl
def zS_M (x1 : Int × Int × Unit) (check : Int × Unit → Option (Int × Unit)) : Option (Int × Unit) := zS_m 0 x1 check
theorem zS_run (x1 : Int × Int × Unit) (check : Int × Unit → Option (Int × Unit)) (y : Int × Unit) (h : zS_M x1 check = some y) : ∃ n, zS_m n x1 check = some y := ⟨0, h⟩
def zS_e : Entry := { f := 158, args := zS_a, ress := zS_r, m := fun x => zS_M x.1 x.2.1 }
theorem zS_ok : FnOK Tryz.prog zS_e := fn_ok (g := zS_g) (fn := Tryz.f158) hmixed tabOk (eCons z0k_ok (eCons z0W_ok eNil)) (by kernel_rfl) (by kernel_rfl) (by kernel_rfl) (fun x y h => let ⟨n, hn⟩ := zS_run x.1 x.2.1 y h; ⟨zS_an n, iNil, (zS_eq n x).trans hn⟩)
abbrev z0V_a : Ty := .pair t96 (.pair (.ref t3) .unit)
abbrev z0V_r : Ty := .pair t3 .unit
def z0V_g : G := { T := T, E := [z0j_e], muts := [], fz := [] }
def z0V_k : List (List Nat) := []
def z0V_an (n : Nat) : Ann := { keep := z0V_k, fuel := n, inl := [], deep := 0 }
def z0V_m (n : Nat) (x1 : Int × Int × Unit) (p1 : Int) : Option (Int × Unit) :=
  (Option.bind (idx (z0j x1).1 p1) fun (v0 : Int) => some (v0, ()))
theorem z0V_eq (n : Nat) (x : z0V_a.den) : runF z0V_g (z0V_an n) Tryz.f165 z0V_a z0V_r x = z0V_m n x.1 x.2.1 := by kernel_rfl
def z0V_M (x1 : Int × Int × Unit) (p1 : Int) : Option (Int × Unit) := z0V_m 0 x1 p1
theorem z0V_run (x1 : Int × Int × Unit) (p1 : Int) (y : Int × Unit) (h : z0V_M x1 p1 = some y) : ∃ n, z0V_m n x1 p1 = some y := ⟨0, h⟩
def z0V_e : Entry := { f := 165, args := z0V_a, ress := z0V_r, m := fun x => z0V_M x.1 x.2.1 }
theorem z0V_ok : FnOK Tryz.prog z0V_e := fn_ok (g := z0V_g) (fn := Tryz.f165) hmixed tabOk (eCons z0j_ok eNil) (by kernel_rfl) (by kernel_rfl) (by kernel_rfl) (fun x y h => let ⟨n, hn⟩ := z0V_run x.1 x.2.1 y h; ⟨z0V_an n, iNil, (z0V_eq n x).trans hn⟩)
abbrev zU_a : Ty := .pair t230 .unit
abbrev zU_r : Ty := .pair t3 .unit
def zU_g : G := { T := T, E := [z0X_e], muts := [], fz := [] }
def zU_k : List (List Nat) := []
def zU_an (n : Nat) : Ann := { keep := zU_k, fuel := n, inl := [], deep := 0 }
def zU_m (n : Nat) (p : Lnk × Int × Int × Int × Bool × Unit) : Option (Int × Unit) :=
  (Option.bind (z0X_M (IntKind.i64.wrap (IntKind.i64.wrap (p.2.2.1 * p.2.2.2.1) - p.2.1)) p.1.2.2.2.2.1) fun (v0 : Int × Unit) => some (v0.1, ()))
theorem zU_eq (n : Nat) (x : zU_a.den) : runF zU_g (zU_an n) Tryz.f180 zU_a zU_r x = zU_m n x.1 := by kernel_rfl
def zU_M (p : Lnk × Int × Int × Int × Bool × Unit) : Option (Int × Unit) := zU_m 0 p
theorem zU_run (p : Lnk × Int × Int × Int × Bool × Unit) (y : Int × Unit) (h : zU_M p = some y) : ∃ n, zU_m n p = some y := ⟨0, h⟩
def zU_e : Entry := { f := 180, args := zU_a, ress := zU_r, m := fun x => zU_M x.1 }
theorem zU_ok : FnOK Tryz.prog zU_e := fn_ok (g := zU_g) (fn := Tryz.f180) hmixed tabOk (eCons z0X_ok eNil) (by kernel_rfl) (by kernel_rfl) (by kernel_rfl) (fun x y h => let ⟨n, hn⟩ := zU_run x.1 y h; ⟨zU_an n, iNil, (zU_eq n x).trans hn⟩)
abbrev zn_a : Ty := .pair t230 (.pair t3 .unit)
abbrev zn_r : Ty := .pair t3 .unit
def zn_g : G := { T := T, E := [z0X_e], muts := [], fz := [] }
def zn_k : List (List Nat) := []
def zn_an (n : Nat) : Ann := { keep := zn_k, fuel := n, inl := [], deep := 0 }
def zn_m (n : Nat) (p : Lnk × Int × Int × Int × Bool × Unit) (level : Int) : Option (Int × Unit) :=
  (Option.bind (z0X_M (IntKind.i64.wrap (p.2.1 - IntKind.i64.wrap (p.2.2.1 * level))) p.1.2.2.2.2.1) fun (v0 : Int × Unit) => some (if Bool.true = Bool.true then if v0.1 > (0 : Int) then v0.1 else (0 : Int) else if v0.1 < (0 : Int) then v0.1 else (0 : Int), ()))
theorem zn_eq (n : Nat) (x : zn_a.den) : runF zn_g (zn_an n) Tryz.f182 zn_a zn_r x = zn_m n x.1 x.2.1 := by kernel_rfl
def zn_M (p : Lnk × Int × Int × Int × Bool × Unit) (level : Int) : Option (Int × Unit) := zn_m 0 p level
theorem zn_run (p : Lnk × Int × Int × Int × Bool × Unit) (level : Int) (y : Int × Unit) (h : zn_M p level = some y) : ∃ n, zn_m n p level = some y := ⟨0, h⟩
def zn_e : Entry := { f := 182, args := zn_a, ress := zn_r, m := fun x => zn_M x.1 x.2.1 }
theorem zn_ok : FnOK Tryz.prog zn_e := fn_ok (g := zn_g) (fn := Tryz.f182) hmixed tabOk (eCons z0X_ok eNil) (by kernel_rfl) (by kernel_rfl) (by kernel_rfl) (fun x y h => let ⟨n, hn⟩ := zn_run x.1 x.2.1 y h; ⟨zn_an n, iNil, (zn_eq n x).trans hn⟩)
end
end Go.Tw
end
section
set_option linter.all false
set_option maxRecDepth 1000000
namespace Go.Tw
open Go.Vx Go.Vx.B Go.Proofs
noncomputable section
abbrev zq_a : Ty := .pair t25 .unit
abbrev zq_r : Ty := .pair t3 .unit
def zq_g : G := { T := T, E := [zr_e, z00_e], muts := [], fz := [] }
def zq_k : List (List Nat) := [[1, 4]]
def zq_an (n : Nat) : Ann := { keep := zq_k, fuel := n, inl := [], deep := 0 }
def zq_m_l1 (n : Nat) (r1 : Bas → Int → Option (Int × Unit)) (b1_1 : Bas) (i4_1 : Int) : Option (Int × Unit) :=
  (bif decide (i4_1 < (↑b1_1.2.1.length : Int)) then (Option.bind (idx b1_1.2.1 i4_1) fun (v2 : Lnk) => (Option.bind (z00_M v2 (↑b1_1.1.length : Int)) fun (v3 : Int × Unit) => (bif v3.1 != (0 : Int) then some (v3.1, ()) else r1 b1_1 (IntKind.i64.wrap (i4_1 + (1 : Int)))))) else some ((0 : Int), ()))
def zq_m_w1 (n : Nat)  (k : Nat) (b1_1 : Bas) (i4_1 : Int) : Option (Int × Unit) :=
  iter (fun r y => zq_m_l1 n (fun b1_1 i4_1 => r ((b1_1, (i4_1, ())), ((), ()))) y.1.1 y.1.2.1) k ((b1_1, (i4_1, ())), ((), ()))
def zq_m (n : Nat) (b : Bas) : Option (Int × Unit) :=
  (Option.bind (zr_M b.1) fun (v0 : Int × Unit) => (bif v0.1 != (0 : Int) then some (v0.1, ()) else (bif decide ((↑b.2.1.length : Int) > (16 : Int)) then some ((5 : Int), ()) else (zq_m_w1 n n (b) ((0 : Int))))))
theorem zq_eq (n : Nat) (x : zq_a.den) : runF zq_g (zq_an n) Tryz.f24 zq_a zq_r x = zq_m n x.1 := by kernel_rfl
def zq_b1 (b1_1 : Bas) (i4_1 : Int) (v2 : Lnk) : Option ((Int × Unit) ⊕ Unit) :=
  (Option.bind (z00_M v2 (↑b1_1.1.length : Int)) fun (v3 : Int × Unit) => (bif v3.1 != (0 : Int) then (some (Sum.inl ((v3.1, ())))) else (some (Sum.inr ()))))
def zq_f1 (b1_1 : Bas) : Option (Int × Unit) :=
  (some (((0 : Int), ())))
theorem zq_m_w1_le (n : Nat) (hn : big ≤ n)  (b1_1 : Bas) (hx : List.length (b1_1.2.1) < lenMax) : LeF some (loopL (fun i__ e__ s__ => zq_b1 b1_1 i__ e__) (fun s__ => zq_f1 b1_1) 0 (b1_1.2.1) ()) (zq_m_w1 n n b1_1 0) := by
  refine loopL_le (f := some) (W := fun k__ i__ s__ => zq_m_w1 n k__ b1_1 i__) (body := (fun i__ e__ s__ => zq_b1 b1_1 i__ e__)) (fin := (fun s__ => zq_f1 b1_1)) (fun k__ i__ s__ => ?_) hx () n (by unfold big at hn; unfold lenMax at hx; omega)
  show LeF _ _ (zq_m_l1 n (zq_m_w1 n k__) b1_1 i__)
  exact leCond (leBind fun v2 => (leBind fun v3 => (leCond (leSome rfl) (leSome rfl)))) (leMap (leSome rfl))
def zq_M (b : Bas) : Option (Int × Unit) :=
  (Option.bind (zr_M b.1) fun (v0 : Int × Unit) => (bif v0.1 != (0 : Int) then (some ((v0.1, ()))) else (bif decide ((↑b.2.1.length : Int) > (16 : Int)) then (some (((5 : Int), ()))) else (bif decide (List.length (b.2.1) < lenMax) then loopL (fun i__ e__ s__ => zq_b1 (b) i__ e__) (fun s__ => zq_f1 (b)) 0 (b.2.1) () else none))))
theorem zq_run (b : Bas) (y : Int × Unit) (h : zq_M b = some y) : ∃ n, zq_m n b = some y :=
  ⟨big, LeF.top (show LeF some (zq_M b) (zq_m big b) from (fun (n : Nat) (hn : big ≤ n) => show LeF some (zq_M b) (zq_m n b) from (leBind fun v0 => (leCond (leSome rfl) (leCond (leSome rfl) (leGuard fun hx => by apply zq_m_w1_le n hn; exact hx))))) big (Nat.le_refl _)) h⟩
def zq_e : Entry := { f := 24, args := zq_a, ress := zq_r, m := fun x => zq_M x.1 }
theorem zq_ok : FnOK Tryz.prog zq_e := fn_ok (g := zq_g) (fn := Tryz.f24) hmixed tabOk (eCons zr_ok (eCons z00_ok eNil)) (by kernel_rfl) (by kernel_rfl) (by kernel_rfl) (fun x y h => let ⟨n, hn⟩ := zq_run x.1 y h; ⟨zq_an n, iNil, (zq_eq n x).trans hn⟩)
def z0f_s21 (b3_7 : Bas) (c5_7 : Cnd) (i12_7 : Int) (c1_7 : List Int) (v9 : Int × Unit) (j19 : List Int) : Option ((List Int × List Int × Int × Unit) ⊕ (List Int × List Int)) :=
  (Option.bind (z0E_M j19) fun (v20 : Bool × Unit) => (bif v20.1 then (some (Sum.inl (([], [], (4 : Int), ())))) else (bif decide (c1_7.length + (1 : Nat) ≤ memMax) then (some (Sum.inr ((j19), (c1_7 ++ [v9.1])))) else none)))
def z0f_s22 (b3_7 : Bas) (c5_7 : Cnd) (i12_7 : Int) (c1_7 : List Int) (v8 : Lnk) (v9 : Int × Unit) (j14 : List Int) : Option ((List Int × List Int × Int × Unit) ⊕ (List Int × List Int)) :=
  (bif decide (v8.2.2.1 ≥ (0 : Int)) then (Option.bind (idx j14 v8.2.2.1) fun (v15 : Int) => (Option.bind (j14[v8.2.2.1.toNat]?) fun (v16 : Int) => (Option.bind (idx j14 v8.2.2.1) fun (v17 : Int) => (Option.bind (j14[v8.2.2.1.toNat]?) fun (v18 : Int) => (z0f_s21 b3_7 c5_7 i12_7 c1_7 v9 (j14.set v8.2.2.1.toNat (IntKind.i64.wrap (v16 + v9.1)))))))) else (z0f_s21 b3_7 c5_7 i12_7 c1_7 v9 (j14)))
def z0f_b7 (b3_7 : Bas) (c5_7 : Cnd) (i12_7 : Int) (v8 : Lnk) (c0_7 : List Int) (c1_7 : List Int) : Option ((List Int × List Int × Int × Unit) ⊕ (List Int × List Int)) :=
  (Option.bind (z0o_M b3_7 c0_7 c5_7 (v8.1, v8.2.1, v8.2.2.1, v8.2.2.2.1, v8.2.2.2.2.1, ())) fun (v9 : Int × Unit) => (bif decide (v8.2.1 ≥ (0 : Int)) then (Option.bind (idx c0_7 v8.2.1) fun (v10 : Int) => (Option.bind (c0_7[v8.2.1.toNat]?) fun (v11 : Int) => (Option.bind (idx c0_7 v8.2.1) fun (v12 : Int) => (Option.bind (c0_7[v8.2.1.toNat]?) fun (v13 : Int) => (z0f_s22 b3_7 c5_7 i12_7 c1_7 v8 v9 (c0_7.set v8.2.1.toNat (IntKind.i64.wrap (v11 - v9.1)))))))) else (z0f_s22 b3_7 c5_7 i12_7 c1_7 v8 v9 (c0_7))))
def z0f_f7 (b3_7 : Bas) (c5_7 : Cnd) (c0_7 : List Int) (c1_7 : List Int) : Option (List Int × List Int × Int × Unit) :=
  (some ((c1_7, c0_7, (0 : Int), ())))
def z0f_b0 (b3_0 : Bas) (c5_0 : Cnd) (i10_0 : Int) (c0_0 : List Int) : Option ((List Int × List Int × Int × Unit) ⊕ (List Int)) :=
  (Option.bind (idx c0_0 i10_0) fun (v1 : Int) => (Option.bind (c0_0[i10_0.toNat]?) fun (v2 : Int) => (Option.bind (idx c5_0.2.2.1 i10_0) fun (v3 : Int) => (Option.bind (idx c0_0 i10_0) fun (v4 : Int) => (Option.bind (c0_0[i10_0.toNat]?) fun (v5 : Int) => (some (Sum.inr (c0_0.set i10_0.toNat (IntKind.i64.wrap (v2 + v3))))))))))
def z0f_f0 (b3_0 : Bas) (c5_0 : Cnd) (c0_0 : List Int) : Option (List Int × List Int × Int × Unit) :=
  (Option.bind (z0E_M c0_0) fun (v6 : Bool × Unit) => (bif v6.1 then (some (([], [], (4 : Int), ()))) else (bif decide (List.length (b3_0.2.1) < lenMax) then loopL (fun i__ e__ s__ => z0f_b7 (b3_0) (c5_0) i__ e__ s__.1 s__.2) (fun s__ => z0f_f7 (b3_0) (c5_0) s__.1 s__.2) 0 (b3_0.2.1) ((c0_0), ([])) else none)))
def z0f_M (b : Bas) (v : List Int) (c : Cnd) : Option (List Int × List Int × Int × Unit) :=
  (bif decide ((0 : Nat) + v.length ≤ memMax) then (bif decide (((↑v.length : Int)) ≤ (9223372036854775807 : Int)) then loopG (fun s__ => (↑s__.length : Int)) (fun i__ s__ => z0f_b0 (b) (c) i__ s__) (fun s__ => z0f_f0 (b) (c) s__) (((↑v.length : Int)) - 0).toNat 0 (v) else none) else none)
abbrev zd_a : Ty := .pair t41 (.pair t26 .unit)
abbrev zd_r : Ty := .pair t26 .unit
def zd_g : G := { T := T, E := [zX_e], muts := [5], fz := [] }
def zd_k : List (List Nat) := [[2, 5, 10, 11, 12]]
def zd_an (n : Nat) : Ann := { keep := zd_k, fuel := n, inl := [], deep := 0 }
def zd_m_l1 (n : Nat) (r1 : Bas → List Int → Int → Int → List Int → Option (List Int × Unit)) (b2_1 : Bas) (t10_1 : List Int) (t11_1 : Int) (t12_1 : Int) (c0_1 : List Int) : Option (List Int × Unit) :=
  (bif decide (t12_1 < t11_1) then (Option.bind (idx t10_1 t12_1) fun (v2 : Int) => (Option.bind (idx b2_1.1 t12_1) fun (v3 : Nod) => (bif decide (v2 > v3.2.2.1) then (bif decide (c0_1.length + (1 : Nat) ≤ memMax) then r1 b2_1 t10_1 t11_1 (IntKind.i64.wrap (t12_1 + (1 : Int))) (c0_1 ++ [t12_1]) else none) else r1 b2_1 t10_1 t11_1 (IntKind.i64.wrap (t12_1 + (1 : Int))) c0_1))) else some (c0_1, ()))
def zd_m_w1 (n : Nat)  (k : Nat) (b2_1 : Bas) (t10_1 : List Int) (t11_1 : Int) (t12_1 : Int) (c0_1 : List Int) : Option (List Int × Unit) :=
  iter (fun r y => zd_m_l1 n (fun b2_1 t10_1 t11_1 t12_1 c0_1 => r ((b2_1, (t10_1, (t11_1, (t12_1, ())))), ((c0_1, ()), ()))) y.1.1 y.1.2.1 y.1.2.2.1 y.1.2.2.2.1 y.2.1.1) k ((b2_1, (t10_1, (t11_1, (t12_1, ())))), ((c0_1, ()), ()))
def zd_m (n : Nat) (b : Bas) (v : List Int) : Option (List Int × Unit) :=
  (Option.bind (zX_M b v) fun (v0 : List Int × Unit) => (zd_m_w1 n n (b) (v0.1) ((↑v0.1.length : Int)) ((0 : Int)) ([])))
theorem zd_eq (n : Nat) (x : zd_a.den) : runF zd_g (zd_an n) Tryz.f99 zd_a zd_r x = zd_m n x.1 x.2.1 := by kernel_rfl
def zd_b1 (b2_1 : Bas) (t10_1 : List Int) (t12_1 : Int) (v2 : Int) (c0_1 : List Int) : Option ((List Int × Unit) ⊕ (List Int)) :=
  (Option.bind (idx b2_1.1 t12_1) fun (v3 : Nod) => (bif decide (v2 > v3.2.2.1) then (bif decide (c0_1.length + (1 : Nat) ≤ memMax) then (some (Sum.inr (c0_1 ++ [t12_1]))) else none) else (some (Sum.inr (c0_1)))))
def zd_f1 (b2_1 : Bas) (t10_1 : List Int) (c0_1 : List Int) : Option (List Int × Unit) :=
  (some ((c0_1, ())))
theorem zd_m_w1_le (n : Nat) (hn : big ≤ n)  (b2_1 : Bas) (t10_1 : List Int) (c0_1 : List Int) (hx : List.length (t10_1) < lenMax) : LeF some (loopL (fun i__ e__ s__ => zd_b1 b2_1 t10_1 i__ e__ s__) (fun s__ => zd_f1 b2_1 t10_1 s__) 0 (t10_1) c0_1) (zd_m_w1 n n b2_1 t10_1 (List.length (t10_1) : Int) 0 c0_1) := by
  refine loopL_le (f := some) (W := fun k__ i__ s__ => zd_m_w1 n k__ b2_1 t10_1 (List.length (t10_1) : Int) i__ s__) (body := (fun i__ e__ s__ => zd_b1 b2_1 t10_1 i__ e__ s__)) (fin := (fun s__ => zd_f1 b2_1 t10_1 s__)) (fun k__ i__ s__ => ?_) hx c0_1 n (by unfold big at hn; unfold lenMax at hx; omega)
  show LeF _ _ (zd_m_l1 n (zd_m_w1 n k__) b2_1 t10_1 (List.length (t10_1) : Int) i__ s__)
  exact leCond (leBind fun v2 => (leBind fun v3 => (leCond (leCond (leSome rfl) leNone) (leSome rfl)))) (leMap (leSome rfl))
def zd_M (b : Bas) (v : List Int) : Option (List Int × Unit) :=
  (Option.bind (zX_M b v) fun (v0 : List Int × Unit) => (bif decide (List.length (v0.1) < lenMax) then loopL (fun i__ e__ s__ => zd_b1 (b) (v0.1) i__ e__ s__) (fun s__ => zd_f1 (b) (v0.1) s__) 0 (v0.1) ([]) else none))
theorem zd_run (b : Bas) (v : List Int) (y : List Int × Unit) (h : zd_M b v = some y) : ∃ n, zd_m n b v = some y :=
  ⟨big, LeF.top (show LeF some (zd_M b v) (zd_m big b v) from (fun (n : Nat) (hn : big ≤ n) => show LeF some (zd_M b v) (zd_m n b v) from (leBind fun v0 => (leGuard fun hx => by apply zd_m_w1_le n hn; exact hx))) big (Nat.le_refl _)) h⟩
def zd_e : Entry := { f := 99, args := zd_a, ress := zd_r, m := fun x => zd_M x.1 x.2.1 }
theorem zd_ok : FnOK Tryz.prog zd_e := fn_ok (g := zd_g) (fn := Tryz.f99) hmixed tabOk (eCons zX_ok eNil) (by kernel_rfl) (by kernel_rfl) (by kernel_rfl) (fun x y h => let ⟨n, hn⟩ := zd_run x.1 x.2.1 y h; ⟨zd_an n, iNil, (zd_eq n x).trans hn⟩)
abbrev z0q_a : Ty := .pair t97 (.pair t3 .unit)
abbrev z0q_r : Ty := .pair t26 .unit
def z0q_g : G := { T := T, E := [z0V_e, zD_e], muts := [], fz := [] }
def z0q_k : List (List Nat) := []
def z0q_an (n : Nat) : Ann := { keep := z0q_k, fuel := n, inl := [], deep := 0 }
def z0q_m (n : Nat) (l : List (Int × Int × Unit)) (upper : Int) : Option (List Int × Unit) :=
  (Option.bind (zD_M l fun (x : (Int × Int × Unit) × Unit) => z0V_M x.1 upper) fun (v0 : List Int × Unit) => some (v0.1, ()))
theorem z0q_eq (n : Nat) (x : z0q_a.den) : runF z0q_g (z0q_an n) Tryz.f119 z0q_a z0q_r x = z0q_m n x.1 x.2.1 := by kernel_rfl
def z0q_M (l : List (Int × Int × Unit)) (upper : Int) : Option (List Int × Unit) := z0q_m 0 l upper
theorem z0q_run (l : List (Int × Int × Unit)) (upper : Int) (y : List Int × Unit) (h : z0q_M l upper = some y) : ∃ n, z0q_m n l upper = some y := ⟨0, h⟩
def z0q_e : Entry := { f := 119, args := z0q_a, ress := z0q_r, m := fun x => z0q_M x.1 x.2.1 }
theorem z0q_ok : FnOK Tryz.prog z0q_e := fn_ok (g := z0q_g) (fn := Tryz.f119) hmixed tabOk (eCons z0V_ok (eCons zD_ok eNil)) (by kernel_rfl) (by kernel_rfl) (by kernel_rfl) (fun x y h => let ⟨n, hn⟩ := z0q_run x.1 x.2.1 y h; ⟨z0q_an n, iNil, (z0q_eq n x).trans hn⟩)
abbrev zw_a : Ty := .pair t3 .unit
abbrev zw_r : Ty := .pair t35 .unit
def zw_g : G := { T := T, E := [z0I_e], muts := [], fz := [] }
def zw_k : List (List Nat) := []
def zw_an (n : Nat) : Ann := { keep := zw_k, fuel := n, inl := [], deep := 0 }
def zw_m (n : Nat) (n1 : Int) : Option (Int × Unit) :=
  some ((z0I n1 (-1024 : Int) (1024 : Int)).1, ())
theorem zw_eq (n : Nat) (x : zw_a.den) : runF zw_g (zw_an n) Tryz.f137 zw_a zw_r x = zw_m n x.1 := by kernel_rfl
def zw (n1 : Int) : (Int × Unit) :=
  ((z0I n1 (-1024 : Int) (1024 : Int)).1, ())
abbrev zw_M (n1 : Int) : Option (Int × Unit) := some (zw n1)
theorem zw_run (n1 : Int) (y : Int × Unit) (h : zw_M n1 = some y) : ∃ n, zw_m n n1 = some y :=
  ⟨0, by rw [← h]; show zw_m 0 n1 = some (zw n1); unfold zw_m zw; first | rfl | (simp only [cond_some]; done) | (simp only [cond_some]; rfl)⟩
def zw_e : Entry := { f := 137, args := zw_a, ress := zw_r, m := fun x => zw_M x.1 }
theorem zw_ok : FnOK Tryz.prog zw_e := fn_ok (g := zw_g) (fn := Tryz.f137) hmixed tabOk (eCons z0I_ok eNil) (by kernel_rfl) (by kernel_rfl) (by kernel_rfl) (fun x y h => let ⟨n, hn⟩ := zw_run x.1 y h; ⟨zw_an n, iNil, (zw_eq n x).trans hn⟩)
abbrev zf_a : Ty := .pair t3 .unit
abbrev zf_r : Ty := .pair t35 .unit
def zf_g : G := { T := T, E := [z0I_e], muts := [], fz := [] }
def zf_k : List (List Nat) := []
def zf_an (n : Nat) : Ann := { keep := zf_k, fuel := n, inl := [], deep := 0 }
def zf_m (n : Nat) (n1 : Int) : Option (Int × Unit) :=
  some ((z0I n1 (0 : Int) (100000 : Int)).1, ())
theorem zf_eq (n : Nat) (x : zf_a.den) : runF zf_g (zf_an n) Tryz.f139 zf_a zf_r x = zf_m n x.1 := by kernel_rfl
def zf (n1 : Int) : (Int × Unit) :=
  ((z0I n1 (0 : Int) (100000 : Int)).1, ())
abbrev zf_M (n1 : Int) : Option (Int × Unit) := some (zf n1)
theorem zf_run (n1 : Int) (y : Int × Unit) (h : zf_M n1 = some y) : ∃ n, zf_m n n1 = some y :=
  ⟨0, by rw [← h]; show zf_m 0 n1 = some (zf n1); unfold zf_m zf; first | rfl | (simp only [cond_some]; done) | (simp only [cond_some]; rfl)⟩
def zf_e : Entry := { f := 139, args := zf_a, ress := zf_r, m := fun x => zf_M x.1 }
theorem zf_ok : FnOK Tryz.prog zf_e := fn_ok (g := zf_g) (fn := Tryz.f139) hmixed tabOk (eCons z0I_ok eNil) (by kernel_rfl) (by kernel_rfl) (by kernel_rfl) (fun x y h => let ⟨n, hn⟩ := zf_run x.1 y h; ⟨zf_an n, iNil, (zf_eq n x).trans hn⟩)
abbrev zG_a : Ty := .pair t3 .unit
abbrev zG_r : Ty := .pair t35 .unit
def zG_g : G := { T := T, E := [z0I_e], muts := [], fz := [] }
def zG_k : List (List Nat) := []
def zG_an (n : Nat) : Ann := { keep := zG_k, fuel := n, inl := [], deep := 0 }
def zG_m (n : Nat) (n1 : Int) : Option (Int × Unit) :=
  some ((z0I n1 (0 : Int) (100000000 : Int)).1, ())
theorem zG_eq (n : Nat) (x : zG_a.den) : runF zG_g (zG_an n) Tryz.f151 zG_a zG_r x = zG_m n x.1 := by kernel_rfl
def zG (n1 : Int) : (Int × Unit) :=
  ((z0I n1 (0 : Int) (100000000 : Int)).1, ())
abbrev zG_M (n1 : Int) : Option (Int × Unit) := some (zG n1)
theorem zG_run (n1 : Int) (y : Int × Unit) (h : zG_M n1 = some y) : ∃ n, zG_m n n1 = some y :=
  ⟨0, by rw [← h]; show zG_m 0 n1 = some (zG n1); unfold zG_m zG; first | rfl | (simp only [cond_some]; done) | (simp only [cond_some]; rfl)⟩
def zG_e : Entry := { f := 151, args := zG_a, ress := zG_r, m := fun x => zG_M x.1 }
theorem zG_ok : FnOK Tryz.prog zG_e := fn_ok (g := zG_g) (fn := Tryz.f151) hmixed tabOk (eCons z0I_ok eNil) (by kernel_rfl) (by kernel_rfl) (by kernel_rfl) (fun x y h => let ⟨n, hn⟩ := zG_run x.1 y h; ⟨zG_an n, iNil, (zG_eq n x).trans hn⟩)
abbrev zO_a : Ty := .pair t3 .unit
abbrev zO_r : Ty := .pair t35 .unit
def zO_g : G := { T := T, E := [z0I_e], muts := [], fz := [] }
def zO_k : List (List Nat) := []
def zO_an (n : Nat) : Ann := { keep := zO_k, fuel := n, inl := [], deep := 0 }
def zO_m (n : Nat) (n1 : Int) : Option (Int × Unit) :=
  some ((z0I n1 (0 : Int) (100000000 : Int)).1, ())
theorem zO_eq (n : Nat) (x : zO_a.den) : runF zO_g (zO_an n) Tryz.f160 zO_a zO_r x = zO_m n x.1 := by kernel_rfl
def zO (n1 : Int) : (Int × Unit) :=
  ((z0I n1 (0 : Int) (100000000 : Int)).1, ())
abbrev zO_M (n1 : Int) : Option (Int × Unit) := some (zO n1)
theorem zO_run (n1 : Int) (y : Int × Unit) (h : zO_M n1 = some y) : ∃ n, zO_m n n1 = some y :=
  ⟨0, by rw [← h]; show zO_m 0 n1 = some (zO n1); unfold zO_m zO; first | rfl | (simp only [cond_some]; done) | (simp only [cond_some]; rfl)⟩
def zO_e : Entry := { f := 160, args := zO_a, ress := zO_r, m := fun x => zO_M x.1 }
theorem zO_ok : FnOK Tryz.prog zO_e := fn_ok (g := zO_g) (fn := Tryz.f160) hmixed tabOk (eCons z0I_ok eNil) (by kernel_rfl) (by kernel_rfl) (by kernel_rfl) (fun x y h => let ⟨n, hn⟩ := zO_run x.1 y h; ⟨zO_an n, iNil, (zO_eq n x).trans hn⟩)
abbrev zP_a : Ty := .pair t96 (.pair (.ref t176) .unit)
abbrev zP_r : Ty := .pair t35 .unit
def zP_g : G := { T := T, E := [zS_e], muts := [], fz := [] }
def zP_k : List (List Nat) := []
def zP_an (n : Nat) : Ann := { keep := zP_k, fuel := n, inl := [], deep := 0 }
def zP_m (n : Nat) (x1 : Int × Int × Unit) (p1 : Int × Unit → Option (Int × Unit)) : Option (Int × Unit) :=
  (Option.bind (zS_M x1 p1) fun (v0 : Int × Unit) => some (v0.1, ()))
theorem zP_eq (n : Nat) (x : zP_a.den) : runF zP_g (zP_an n) Tryz.f161 zP_a zP_r x = zP_m n x.1 x.2.1 := by kernel_rfl
def zP_M (x1 : Int × Int × Unit) (p1 : Int × Unit → Option (Int × Unit)) : Option (Int × Unit) := zP_m 0 x1 p1
theorem zP_run (x1 : Int × Int × Unit) (p1 : Int × Unit → Option (Int × Unit)) (y : Int × Unit) (h : zP_M x1 p1 = some y) : ∃ n, zP_m n x1 p1 = some y := ⟨0, h⟩
def zP_e : Entry := { f := 161, args := zP_a, ress := zP_r, m := fun x => zP_M x.1 x.2.1 }
theorem zP_ok : FnOK Tryz.prog zP_e := fn_ok (g := zP_g) (fn := Tryz.f161) hmixed tabOk (eCons zS_ok eNil) (by kernel_rfl) (by kernel_rfl) (by kernel_rfl) (fun x y h => let ⟨n, hn⟩ := zP_run x.1 x.2.1 y h; ⟨zP_an n, iNil, (zP_eq n x).trans hn⟩)
abbrev zT_a : Ty := .pair t230 .unit
abbrev zT_r : Ty := .pair t3 .unit
def zT_g : G := { T := T, E := [zU_e], muts := [], fz := [] }
def zT_k : List (List Nat) := []
def zT_an (n : Nat) : Ann := { keep := zT_k, fuel := n, inl := [], deep := 0 }
def zT_m (n : Nat) (p : Lnk × Int × Int × Int × Bool × Unit) : Option (Int × Unit) :=
  (bif !p.2.2.2.2.1 then some ((0 : Int), ()) else (Option.bind (zU_M p) fun (v0 : Int × Unit) => some (if Bool.true = Bool.true then if v0.1 > IntKind.i64.wrap ((0 : Int) - p.2.1) then v0.1 else IntKind.i64.wrap ((0 : Int) - p.2.1) else if v0.1 < IntKind.i64.wrap ((0 : Int) - p.2.1) then v0.1 else IntKind.i64.wrap ((0 : Int) - p.2.1), ())))
theorem zT_eq (n : Nat) (x : zT_a.den) : runF zT_g (zT_an n) Tryz.f178 zT_a zT_r x = zT_m n x.1 := by kernel_rfl
def zT_M (p : Lnk × Int × Int × Int × Bool × Unit) : Option (Int × Unit) := zT_m 0 p
theorem zT_run (p : Lnk × Int × Int × Int × Bool × Unit) (y : Int × Unit) (h : zT_M p = some y) : ∃ n, zT_m n p = some y := ⟨0, h⟩
def zT_e : Entry := { f := 178, args := zT_a, ress := zT_r, m := fun x => zT_M x.1 }
theorem zT_ok : FnOK Tryz.prog zT_e := fn_ok (g := zT_g) (fn := Tryz.f178) hmixed tabOk (eCons zU_ok eNil) (by kernel_rfl) (by kernel_rfl) (by kernel_rfl) (fun x y h => let ⟨n, hn⟩ := zT_run x.1 y h; ⟨zT_an n, iNil, (zT_eq n x).trans hn⟩)
abbrev z07_a : Ty := .pair t230 .unit
abbrev z07_r : Ty := .pair t3 .unit
def z07_g : G := { T := T, E := [zU_e], muts := [], fz := [] }
def z07_k : List (List Nat) := []
def z07_an (n : Nat) : Ann := { keep := z07_k, fuel := n, inl := [], deep := 0 }
def z07_m (n : Nat) (p : Lnk × Int × Int × Int × Bool × Unit) : Option (Int × Unit) :=
  (Option.bind (zU_M p) fun (v0 : Int × Unit) => some (if Bool.true = Bool.true then if v0.1 > (0 : Int) then v0.1 else (0 : Int) else if v0.1 < (0 : Int) then v0.1 else (0 : Int), ()))
theorem z07_eq (n : Nat) (x : z07_a.den) : runF z07_g (z07_an n) Tryz.f179 z07_a z07_r x = z07_m n x.1 := by kernel_rfl
def z07_M (p : Lnk × Int × Int × Int × Bool × Unit) : Option (Int × Unit) := z07_m 0 p
theorem z07_run (p : Lnk × Int × Int × Int × Bool × Unit) (y : Int × Unit) (h : z07_M p = some y) : ∃ n, z07_m n p = some y := ⟨0, h⟩
def z07_e : Entry := { f := 179, args := z07_a, ress := z07_r, m := fun x => z07_M x.1 }
theorem z07_ok : FnOK Tryz.prog z07_e := fn_ok (g := z07_g) (fn := Tryz.f179) hmixed tabOk (eCons zU_ok eNil) (by kernel_rfl) (by kernel_rfl) (by kernel_rfl) (fun x y h => let ⟨n, hn⟩ := z07_run x.1 y h; ⟨z07_an n, iNil, (z07_eq n x).trans hn⟩)
abbrev z08_a : Ty := .pair t230 .unit
abbrev z08_r : Ty := .pair t3 .unit
def z08_g : G := { T := T, E := [zn_e], muts := [], fz := [] }
def z08_k : List (List Nat) := []
def z08_an (n : Nat) : Ann := { keep := z08_k, fuel := n, inl := [], deep := 0 }
def z08_m (n : Nat) (p : Lnk × Int × Int × Int × Bool × Unit) : Option (Int × Unit) :=
  (Option.bind (zn_M p (if Bool.true = Bool.true then if p.1.2.2.2.1 > p.2.2.2.1 then p.1.2.2.2.1 else p.2.2.2.1 else if p.1.2.2.2.1 < p.2.2.2.1 then p.1.2.2.2.1 else p.2.2.2.1)) fun (v0 : Int × Unit) => some (v0.1, ()))
theorem z08_eq (n : Nat) (x : z08_a.den) : runF z08_g (z08_an n) Tryz.f181 z08_a z08_r x = z08_m n x.1 := by kernel_rfl
def z08_M (p : Lnk × Int × Int × Int × Bool × Unit) : Option (Int × Unit) := z08_m 0 p
theorem z08_run (p : Lnk × Int × Int × Int × Bool × Unit) (y : Int × Unit) (h : z08_M p = some y) : ∃ n, z08_m n p = some y := ⟨0, h⟩
def z08_e : Entry := { f := 181, args := z08_a, ress := z08_r, m := fun x => z08_M x.1 }
theorem z08_ok : FnOK Tryz.prog z08_e := fn_ok (g := z08_g) (fn := Tryz.f181) hmixed tabOk (eCons zn_ok eNil) (by kernel_rfl) (by kernel_rfl) (by kernel_rfl) (fun x y h => let ⟨n, hn⟩ := z08_run x.1 y h; ⟨z08_an n, iNil, (z08_eq n x).trans hn⟩)
abbrev z0A_a : Ty := .pair t230 .unit
abbrev z0A_r : Ty := .pair t3 .unit
def z0A_g : G := { T := T, E := [zn_e], muts := [], fz := [] }
def z0A_k : List (List Nat) := []
def z0A_an (n : Nat) : Ann := { keep := z0A_k, fuel := n, inl := [], deep := 0 }
def z0A_m (n : Nat) (p : Lnk × Int × Int × Int × Bool × Unit) : Option (Int × Unit) :=
  (Option.bind (zn_M p p.1.2.2.2.1) fun (v0 : Int × Unit) => some (v0.1, ()))
theorem z0A_eq (n : Nat) (x : z0A_a.den) : runF z0A_g (z0A_an n) Tryz.f184 z0A_a z0A_r x = z0A_m n x.1 := by kernel_rfl
def z0A_M (p : Lnk × Int × Int × Int × Bool × Unit) : Option (Int × Unit) := z0A_m 0 p
theorem z0A_run (p : Lnk × Int × Int × Int × Bool × Unit) (y : Int × Unit) (h : z0A_M p = some y) : ∃ n, z0A_m n p = some y := ⟨0, h⟩
def z0A_e : Entry := { f := 184, args := z0A_a, ress := z0A_r, m := fun x => z0A_M x.1 }
theorem z0A_ok : FnOK Tryz.prog z0A_e := fn_ok (g := z0A_g) (fn := Tryz.f184) hmixed tabOk (eCons zn_ok eNil) (by kernel_rfl) (by kernel_rfl) (by kernel_rfl) (fun x y h => let ⟨n, hn⟩ := z0A_run x.1 y h; ⟨z0A_an n, iNil, (z0A_eq n x).trans hn⟩)
end
end Go.Tw
end
section
set_option linter.all false
set_option maxRecDepth 1000000
namespace Go.Tw
open Go.Vx Go.Vx.B Go.Proofs
noncomputable section
abbrev zF_a : Ty := .pair t41 (.pair t44 .unit)
abbrev zF_r : Ty := .pair t35 .unit
def zF_g : G := { T := T, E := [zw_e, z0k_e, zH_e, zf_e, z0W_e], muts := [], fz := [] }
def zF_k : List (List Nat) := []
def zF_an (n : Nat) : Ann := { keep := zF_k, fuel := n, inl := [], deep := 0 }
def zF_m (n : Nat) (b : Bas) (c : Cnd) : Option (Int × Unit) :=
  (Option.bind (zH_M c.2.2.1 fun (x : Int × Unit) => zf_M x.1) fun (v0 : List Int × Unit) => (Option.bind (z0W_M v0.1) fun (v1 : Int × Unit) => (Option.bind (z0W_M [(zw c.1).1, (z0k ((↑c.2.2.1.length : Int) != (↑b.1.length : Int)) (2 : Int)).1, v1.1]) fun (v2 : Int × Unit) => some (v2.1, ()))))
theorem zF_eq (n : Nat) (x : zF_a.den) : runF zF_g (zF_an n) Tryz.f88 zF_a zF_r x = zF_m n x.1 x.2.1 := by kernel_rfl
def zF_M (b : Bas) (c : Cnd) : Option (Int × Unit) := zF_m 0 b c
theorem zF_run (b : Bas) (c : Cnd) (y : Int × Unit) (h : zF_M b c = some y) : ∃ n, zF_m n b c = some y := ⟨0, h⟩
def zF_e : Entry := { f := 88, args := zF_a, ress := zF_r, m := fun x => zF_M x.1 x.2.1 }
theorem zF_ok : FnOK Tryz.prog zF_e := fn_ok (g := zF_g) (fn := Tryz.f88) hmixed tabOk (eCons zw_ok (eCons z0k_ok (eCons zH_ok (eCons zf_ok (eCons z0W_ok eNil))))) (by kernel_rfl) (by kernel_rfl) (by kernel_rfl) (fun x y h => let ⟨n, hn⟩ := zF_run x.1 x.2.1 y h; ⟨zF_an n, iNil, (zF_eq n x).trans hn⟩)
abbrev zJ_a : Ty := .pair t41 (.pair t26 .unit)
abbrev zJ_r : Ty := .pair t35 .unit
def zJ_g : G := { T := T, E := [z0k_e, zH_e, zG_e, z0W_e], muts := [], fz := [] }
def zJ_k : List (List Nat) := []
def zJ_an (n : Nat) : Ann := { keep := zJ_k, fuel := n, inl := [], deep := 0 }
def zJ_m (n : Nat) (b : Bas) (v : List Int) : Option (Int × Unit) :=
  (Option.bind (zH_M v fun (x : Int × Unit) => zG_M x.1) fun (v0 : List Int × Unit) => (Option.bind (z0W_M v0.1) fun (v1 : Int × Unit) => (Option.bind (z0W_M [(z0k ((↑v.length : Int) != (↑b.1.length : Int)) (2 : Int)).1, v1.1]) fun (v2 : Int × Unit) => some (v2.1, ()))))
theorem zJ_eq (n : Nat) (x : zJ_a.den) : runF zJ_g (zJ_an n) Tryz.f104 zJ_a zJ_r x = zJ_m n x.1 x.2.1 := by kernel_rfl
def zJ_M (b : Bas) (v : List Int) : Option (Int × Unit) := zJ_m 0 b v
theorem zJ_run (b : Bas) (v : List Int) (y : Int × Unit) (h : zJ_M b v = some y) : ∃ n, zJ_m n b v = some y := ⟨0, h⟩
def zJ_e : Entry := { f := 104, args := zJ_a, ress := zJ_r, m := fun x => zJ_M x.1 x.2.1 }
theorem zJ_ok : FnOK Tryz.prog zJ_e := fn_ok (g := zJ_g) (fn := Tryz.f104) hmixed tabOk (eCons z0k_ok (eCons zH_ok (eCons zG_ok (eCons z0W_ok eNil)))) (by kernel_rfl) (by kernel_rfl) (by kernel_rfl) (fun x y h => let ⟨n, hn⟩ := zJ_run x.1 x.2.1 y h; ⟨zJ_an n, iNil, (zJ_eq n x).trans hn⟩)
abbrev z0Y_a : Ty := .unit
abbrev z0Y_r : Ty := .pair t222 .unit
def z0Y_g : G := { T := T, E := [zT_e, z07_e, z08_e, z09_e, z0A_e], muts := [], fz := [] }
def z0Y_k : List (List Nat) := []
def z0Y_an (n : Nat) : Ann := { keep := z0Y_k, fuel := n, inl := [], deep := 0 }
def z0Y_m (n : Nat)  : Option (List (List UInt8 × List Bool × ((Lnk × Int × Int × Int × Bool × Unit) × Unit → Option (Int × Unit)) × Unit) × Unit) :=
  some ([([(98 : UInt8), (97 : UInt8), (114 : UInt8), (114 : UInt8), (105 : UInt8), (101 : UInt8), (114 : UInt8)], [Bool.true, Bool.false], fun (x : (Lnk × Int × Int × Int × Bool × Unit) × Unit) => zT_M x.1, ()), ([(108 : UInt8), (101 : UInt8), (97 : UInt8), (107 : UInt8)], [Bool.true, Bool.false], fun (x : (Lnk × Int × Int × Int × Bool × Unit) × Unit) => z07_M x.1, ()), ([(111 : UInt8), (117 : UInt8), (116 : UInt8), (102 : UInt8), (97 : UInt8), (108 : UInt8), (108 : UInt8)], [Bool.false, Bool.true], fun (x : (Lnk × Int × Int × Int × Bool × Unit) × Unit) => z08_M x.1, ()), ([(112 : UInt8), (117 : UInt8), (109 : UInt8), (112 : UInt8)], [Bool.false, Bool.false], fun (x : (Lnk × Int × Int × Int × Bool × Unit) × Unit) => z09_M x.1, ()), ([(119 : UInt8), (101 : UInt8), (105 : UInt8), (114 : UInt8)], [Bool.false, Bool.false], fun (x : (Lnk × Int × Int × Int × Bool × Unit) × Unit) => z0A_M x.1, ())], ())
theorem z0Y_eq (n : Nat) (x : z0Y_a.den) : runF z0Y_g (z0Y_an n) Tryz.f141 z0Y_a z0Y_r x = z0Y_m n := by kernel_rfl
def z0Y  : (List (List UInt8 × List Bool × ((Lnk × Int × Int × Int × Bool × Unit) × Unit → Option (Int × Unit)) × Unit) × Unit) :=
  ([([(98 : UInt8), (97 : UInt8), (114 : UInt8), (114 : UInt8), (105 : UInt8), (101 : UInt8), (114 : UInt8)], [Bool.true, Bool.false], fun (x : (Lnk × Int × Int × Int × Bool × Unit) × Unit) => zT_M x.1, ()), ([(108 : UInt8), (101 : UInt8), (97 : UInt8), (107 : UInt8)], [Bool.true, Bool.false], fun (x : (Lnk × Int × Int × Int × Bool × Unit) × Unit) => z07_M x.1, ()), ([(111 : UInt8), (117 : UInt8), (116 : UInt8), (102 : UInt8), (97 : UInt8), (108 : UInt8), (108 : UInt8)], [Bool.false, Bool.true], fun (x : (Lnk × Int × Int × Int × Bool × Unit) × Unit) => z08_M x.1, ()), ([(112 : UInt8), (117 : UInt8), (109 : UInt8), (112 : UInt8)], [Bool.false, Bool.false], fun (x : (Lnk × Int × Int × Int × Bool × Unit) × Unit) => z09_M x.1, ()), ([(119 : UInt8), (101 : UInt8), (105 : UInt8), (114 : UInt8)], [Bool.false, Bool.false], fun (x : (Lnk × Int × Int × Int × Bool × Unit) × Unit) => z0A_M x.1, ())], ())
abbrev z0Y_M  : Option (List (List UInt8 × List Bool × ((Lnk × Int × Int × Int × Bool × Unit) × Unit → Option (Int × Unit)) × Unit) × Unit) := some (z0Y)
theorem z0Y_run  (y : List (List UInt8 × List Bool × ((Lnk × Int × Int × Int × Bool × Unit) × Unit → Option (Int × Unit)) × Unit) × Unit) (h : z0Y_M = some y) : ∃ n, z0Y_m n = some y :=
  ⟨0, by rw [← h]; show z0Y_m 0 = some (z0Y); unfold z0Y_m z0Y; first | rfl | (simp only [cond_some]; done) | (simp only [cond_some]; rfl)⟩
def z0Y_e : Entry := { f := 141, args := z0Y_a, ress := z0Y_r, m := fun x => z0Y_M }
theorem z0Y_ok : FnOK Tryz.prog z0Y_e := fn_ok (g := z0Y_g) (fn := Tryz.f141) hmixed tabOk (eCons zT_ok (eCons z07_ok (eCons z08_ok (eCons z09_ok (eCons z0A_ok eNil))))) (by kernel_rfl) (by kernel_rfl) (by kernel_rfl) (fun x y h => let ⟨n, hn⟩ := z0Y_run y h; ⟨z0Y_an n, iNil, (z0Y_eq n x).trans hn⟩)
abbrev zb_a : Ty := .pair t104 (.pair t3 .unit)
abbrev zb_r : Ty := .pair t44 .unit
def zb_g : G := { T := T, E := [z0j_e, z0q_e], muts := [], fz := [] }
def zb_k : List (List Nat) := []
def zb_an (n : Nat) : Ann := { keep := zb_k, fuel := n, inl := [], deep := 0 }
def zb_m (n : Nat) (r1 : Rng) (upper : Int) : Option (Cnd × Unit) :=
  (Option.bind (idx (z0j r1.1).1 upper) fun (v0 : Int) => (Option.bind (z0q_M r1.2.2.1 upper) fun (v1 : List Int × Unit) => some ((v0, r1.2.1, v1.1, ()), ())))
theorem zb_eq (n : Nat) (x : zb_a.den) : runF zb_g (zb_an n) Tryz.f154 zb_a zb_r x = zb_m n x.1 x.2.1 := by kernel_rfl
def zb_M (r1 : Rng) (upper : Int) : Option (Cnd × Unit) := zb_m 0 r1 upper
theorem zb_run (r1 : Rng) (upper : Int) (y : Cnd × Unit) (h : zb_M r1 upper = some y) : ∃ n, zb_m n r1 upper = some y := ⟨0, h⟩
def zb_e : Entry := { f := 154, args := zb_a, ress := zb_r, m := fun x => zb_M x.1 x.2.1 }
theorem zb_ok : FnOK Tryz.prog zb_e := fn_ok (g := zb_g) (fn := Tryz.f154) hmixed tabOk (eCons z0j_ok (eCons z0q_ok eNil)) (by kernel_rfl) (by kernel_rfl) (by kernel_rfl) (fun x y h => let ⟨n, hn⟩ := zb_run x.1 x.2.1 y h; ⟨zb_an n, iNil, (zb_eq n x).trans hn⟩)
abbrev zI_a : Ty := .pair t96 .unit
abbrev zI_r : Ty := .pair t35 .unit
def zI_g : G := { T := T, E := [zS_e, zf_e], muts := [], fz := [] }
def zI_k : List (List Nat) := []
def zI_an (n : Nat) : Ann := { keep := zI_k, fuel := n, inl := [], deep := 0 }
def zI_m (n : Nat) (x1 : Int × Int × Unit) : Option (Int × Unit) :=
  (Option.bind (zS_M x1 fun (x : Int × Unit) => zf_M x.1) fun (v0 : Int × Unit) => some (v0.1, ()))
theorem zI_eq (n : Nat) (x : zI_a.den) : runF zI_g (zI_an n) Tryz.f157 zI_a zI_r x = zI_m n x.1 := by kernel_rfl
def zI_M (x1 : Int × Int × Unit) : Option (Int × Unit) := zI_m 0 x1
theorem zI_run (x1 : Int × Int × Unit) (y : Int × Unit) (h : zI_M x1 = some y) : ∃ n, zI_m n x1 = some y := ⟨0, h⟩
def zI_e : Entry := { f := 157, args := zI_a, ress := zI_r, m := fun x => zI_M x.1 }
theorem zI_ok : FnOK Tryz.prog zI_e := fn_ok (g := zI_g) (fn := Tryz.f157) hmixed tabOk (eCons zS_ok (eCons zf_ok eNil)) (by kernel_rfl) (by kernel_rfl) (by kernel_rfl) (fun x y h => let ⟨n, hn⟩ := zI_run x.1 y h; ⟨zI_an n, iNil, (zI_eq n x).trans hn⟩)
end
end Go.Tw
end
section
set_option linter.all false
set_option maxRecDepth 1000000
namespace Go.Tw
open Go.Vx Go.Vx.B Go.Proofs
noncomputable section
def il140 : Inl := { f := 140, fn := Tryz.f140, keep := [], muts := [], fz := [] }
theorem il140_ok : InlOK Tryz.prog il140 := ⟨by kernel_rfl, by kernel_rfl, fun e0 h => by cases (show (none : Option Nat) = some e0 from h)⟩
abbrev zi_a : Ty := .pair t41 (.pair t26 (.pair t44 .unit))
abbrev zi_r : Ty := .pair t26 (.pair (.nslice (.int .i64)) (.pair t4 .unit))
def zi_g : G := { T := T, E := [z0Y_e, zv_e], muts := [14], fz := [] }
def zi_k : List (List Nat) := [[3, 5, 9, 10, 11, 28, 29, 30], [3, 5, 9, 10, 11, 14, 15, 42, 43, 44]]
def zi_an (n : Nat) : Ann := { keep := zi_k, fuel := n, inl := [il140], deep := 3 }
def zi_m_j38 (n : Nat) (r12 : Bas → Cnd → List (List UInt8 × List Bool × ((Lnk × Int × Int × Int × Bool × Unit) × Unit → Option (Int × Unit)) × Unit) → List Lnk → Int → Int → Bool → List Int → List Int → Option (List Int × Option (List Int) × Bool × Unit)) (b3_12 : Bas) (c5_12 : Cnd) (all15_12 : List (List UInt8 × List Bool × ((Lnk × Int × Int × Int × Bool × Unit) × Unit → Option (Int × Unit)) × Unit)) (t42_12 : List Lnk) (t43_12 : Int) (t44_12 : Int) (c2_12 : List Int) (v13 : Lnk) (v17 : Int × Unit) (j26 : Bool) (j27 : List Int) : Option (List Int × Option (List Int) × Bool × Unit) :=
  (bif v13.2.2.1 != (-1 : Int) then (Option.bind (idx j27 v13.2.2.1) fun (v28 : Int) => (Option.bind (j27[v13.2.2.1.toNat]?) fun (v29 : Int) => (Option.bind (idx j27 v13.2.2.1) fun (v30 : Int) => (Option.bind (j27[v13.2.2.1.toNat]?) fun (v31 : Int) => (bif j26 then (Option.bind (idx (j27.set v13.2.2.1.toNat (IntKind.i64.wrap (v29 + v17.1))) v13.2.2.1) fun (v32 : Int) => (Option.bind ((j27.set v13.2.2.1.toNat (IntKind.i64.wrap (v29 + v17.1)))[v13.2.2.1.toNat]?) fun (v33 : Int) => (bif decide (c2_12.length + (1 : Nat) ≤ memMax) then r12 b3_12 c5_12 all15_12 t42_12 t43_12 (IntKind.i64.wrap (t44_12 + (1 : Int))) (decide (v33 ≤ (100000000 : Int))) (c2_12 ++ [v17.1]) (j27.set v13.2.2.1.toNat (IntKind.i64.wrap (v29 + v17.1))) else none))) else (bif decide (c2_12.length + (1 : Nat) ≤ memMax) then r12 b3_12 c5_12 all15_12 t42_12 t43_12 (IntKind.i64.wrap (t44_12 + (1 : Int))) Bool.false (c2_12 ++ [v17.1]) (j27.set v13.2.2.1.toNat (IntKind.i64.wrap (v29 + v17.1))) else none)))))) else (bif decide (c2_12.length + (1 : Nat) ≤ memMax) then r12 b3_12 c5_12 all15_12 t42_12 t43_12 (IntKind.i64.wrap (t44_12 + (1 : Int))) j26 (c2_12 ++ [v17.1]) j27 else none))
def zi_m_l12 (n : Nat) (r12 : Bas → Cnd → List (List UInt8 × List Bool × ((Lnk × Int × Int × Int × Bool × Unit) × Unit → Option (Int × Unit)) × Unit) → List Lnk → Int → Int → Bool → List Int → List Int → Option (List Int × Option (List Int) × Bool × Unit)) (b3_12 : Bas) (c5_12 : Cnd) (all15_12 : List (List UInt8 × List Bool × ((Lnk × Int × Int × Int × Bool × Unit) × Unit → Option (Int × Unit)) × Unit)) (t42_12 : List Lnk) (t43_12 : Int) (t44_12 : Int) (b1_0_12 : Bool) (c2_12 : List Int) (c3_12 : List Int) : Option (List Int × Option (List Int) × Bool × Unit) :=
  (bif decide (t44_12 < t43_12) then (Option.bind (idx t42_12 t44_12) fun (v13 : Lnk) => (Option.bind (idx c3_12 (zv (v13.1, v13.2.1, v13.2.2.1, v13.2.2.2.1, v13.2.2.2.2.1, ())).1) fun (v14 : Int) => (Option.bind (c3_12[(zv (v13.1, v13.2.1, v13.2.2.1, v13.2.2.2.1, v13.2.2.2.2.1, ())).1.toNat]?) fun (v15 : Int) => (Option.bind (idx b3_12.1 (zv (v13.1, v13.2.1, v13.2.2.1, v13.2.2.2.1, v13.2.2.2.2.1, ())).1) fun (v16 : Nod) => (Option.bind (((mapGet Ty.str ((Ty.arr (nat_lit 2) Ty.bool).pair (((((Ty.str.pair ((Ty.int IntKind.i64).pair ((Ty.int IntKind.i64).pair ((Ty.int IntKind.i64).pair ((Ty.int IntKind.i64).pair Ty.unit))))).pair ((Ty.int IntKind.i64).pair ((Ty.int IntKind.i64).pair ((Ty.int IntKind.i64).pair (Ty.bool.pair Ty.unit))))).pair Ty.unit).func ((Ty.int IntKind.i64).pair Ty.unit)).pair Ty.unit)) all15_12 v13.1).getD ([Bool.false, Bool.false], fun (x : (((Ty.str.pair ((Ty.int IntKind.i64).pair ((Ty.int IntKind.i64).pair ((Ty.int IntKind.i64).pair ((Ty.int IntKind.i64).pair Ty.unit))))).pair ((Ty.int IntKind.i64).pair ((Ty.int IntKind.i64).pair ((Ty.int IntKind.i64).pair (Ty.bool.pair Ty.unit))))).pair Ty.unit).den) => Option.none, ())).2.1 (((v13.1, v13.2.1, v13.2.2.1, v13.2.2.2.1, v13.2.2.2.2.1, ()), v15, v16.2.1, c5_12.1, c5_12.2.1, ()), ())) fun (v17 : Int × Unit) => (bif v13.2.1 != (-1 : Int) then (Option.bind (idx c3_12 v13.2.1) fun (v18 : Int) => (Option.bind (c3_12[v13.2.1.toNat]?) fun (v19 : Int) => (Option.bind (idx c3_12 v13.2.1) fun (v20 : Int) => (Option.bind (c3_12[v13.2.1.toNat]?) fun (v21 : Int) => (bif b1_0_12 then (Option.bind (idx (c3_12.set v13.2.1.toNat (IntKind.i64.wrap (v19 + IntKind.i64.wrap ((0 : Int) - v17.1)))) v13.2.1) fun (v22 : Int) => (Option.bind ((c3_12.set v13.2.1.toNat (IntKind.i64.wrap (v19 + IntKind.i64.wrap ((0 : Int) - v17.1))))[v13.2.1.toNat]?) fun (v23 : Int) => (zi_m_j38 n r12 b3_12 c5_12 all15_12 t42_12 t43_12 t44_12 c2_12 v13 v17 (decide (v23 ≤ (100000000 : Int))) (c3_12.set v13.2.1.toNat (IntKind.i64.wrap (v19 + IntKind.i64.wrap ((0 : Int) - v17.1))))))) else (zi_m_j38 n r12 b3_12 c5_12 all15_12 t42_12 t43_12 t44_12 c2_12 v13 v17 (Bool.false) (c3_12.set v13.2.1.toNat (IntKind.i64.wrap (v19 + IntKind.i64.wrap ((0 : Int) - v17.1)))))))))) else (zi_m_j38 n r12 b3_12 c5_12 all15_12 t42_12 t43_12 t44_12 c2_12 v13 v17 (b1_0_12) (c3_12)))))))) else some (c2_12, some c3_12, b1_0_12, ()))
def zi_m_w12 (n : Nat)  (k : Nat) (b3_12 : Bas) (c5_12 : Cnd) (all15_12 : List (List UInt8 × List Bool × ((Lnk × Int × Int × Int × Bool × Unit) × Unit → Option (Int × Unit)) × Unit)) (t42_12 : List Lnk) (t43_12 : Int) (t44_12 : Int) (b1_0_12 : Bool) (c2_12 : List Int) (c3_12 : List Int) : Option (List Int × Option (List Int) × Bool × Unit) :=
  iter (fun r y => zi_m_l12 n (fun b3_12 c5_12 all15_12 t42_12 t43_12 t44_12 b1_0_12 c2_12 c3_12 => r ((b3_12, (c5_12, ((), (all15_12, (t42_12, (t43_12, (t44_12, ()))))))), (((), ((b1_0_12, ()), (c2_12, (c3_12, ())))), ()))) y.1.1 y.1.2.1 y.1.2.2.2.1 y.1.2.2.2.2.1 y.1.2.2.2.2.2.1 y.1.2.2.2.2.2.2.1 y.2.1.2.1.1 y.2.1.2.2.1 y.2.1.2.2.2.1) k ((b3_12, (c5_12, ((), (all15_12, (t42_12, (t43_12, (t44_12, ()))))))), (((), ((b1_0_12, ()), (c2_12, (c3_12, ())))), ()))
def zi_m_l0 (n : Nat) (r0 : Bas → Cnd → List Int → Int → Int → Bool → List Int → Option (List Int × Option (List Int) × Bool × Unit)) (b3_0 : Bas) (c5_0 : Cnd) (t28_0 : List Int) (t29_0 : Int) (t30_0 : Int) (b1_0_0 : Bool) (c2_0 : List Int) : Option (List Int × Option (List Int) × Bool × Unit) :=
  (bif decide (t30_0 < t29_0) then (Option.bind (idx t28_0 t30_0) fun (v1 : Int) => (bif t30_0 != (-1 : Int) then (Option.bind (idx c2_0 t30_0) fun (v2 : Int) => (Option.bind (c2_0[t30_0.toNat]?) fun (v3 : Int) => (Option.bind (idx c2_0 t30_0) fun (v4 : Int) => (Option.bind (c2_0[t30_0.toNat]?) fun (v5 : Int) => (bif b1_0_0 then (Option.bind (idx (c2_0.set t30_0.toNat (IntKind.i64.wrap (v3 + v1))) t30_0) fun (v6 : Int) => (Option.bind ((c2_0.set t30_0.toNat (IntKind.i64.wrap (v3 + v1)))[t30_0.toNat]?) fun (v7 : Int) => r0 b3_0 c5_0 t28_0 t29_0 (IntKind.i64.wrap (t30_0 + (1 : Int))) (decide (v7 ≤ (100000000 : Int))) (c2_0.set t30_0.toNat (IntKind.i64.wrap (v3 + v1))))) else r0 b3_0 c5_0 t28_0 t29_0 (IntKind.i64.wrap (t30_0 + (1 : Int))) Bool.false (c2_0.set t30_0.toNat (IntKind.i64.wrap (v3 + v1)))))))) else r0 b3_0 c5_0 t28_0 t29_0 (IntKind.i64.wrap (t30_0 + (1 : Int))) b1_0_0 c2_0)) else (zi_m_w12 n n (b3_0) (c5_0) (z0Y.1) (b3_0.2.1) ((↑b3_0.2.1.length : Int)) ((0 : Int)) (b1_0_0) ([]) (c2_0)))
def zi_m_w0 (n : Nat)  (k : Nat) (b3_0 : Bas) (c5_0 : Cnd) (t28_0 : List Int) (t29_0 : Int) (t30_0 : Int) (b1_0_0 : Bool) (c2_0 : List Int) : Option (List Int × Option (List Int) × Bool × Unit) :=
  iter (fun r y => zi_m_l0 n (fun b3_0 c5_0 t28_0 t29_0 t30_0 b1_0_0 c2_0 => r ((b3_0, (c5_0, ((), (t28_0, (t29_0, (t30_0, ())))))), (((), ((b1_0_0, ()), (c2_0, ()))), ()))) y.1.1 y.1.2.1 y.1.2.2.2.1 y.1.2.2.2.2.1 y.1.2.2.2.2.2.1 y.2.1.2.1.1 y.2.1.2.2.1) k ((b3_0, (c5_0, ((), (t28_0, (t29_0, (t30_0, ())))))), (((), ((b1_0_0, ()), (c2_0, ()))), ()))
def zi_m (n : Nat) (b : Bas) (v : List Int) (c : Cnd) : Option (List Int × Option (List Int) × Bool × Unit) :=
  (bif Bool.true && decide ((0 : Int) ≤ (↑v.length : Int)) && decide ((↑v.length : Int) ≤ (↑memMax : Int)) && (↑v.length : Int) == (↑v.length : Int) then (zi_m_w0 n n (b) (c) (c.2.2.1) ((↑c.2.2.1.length : Int)) ((0 : Int)) (Bool.true) (List.take (List.replicate (↑v.length : Int).toNat (0 : Int)).length v ++ List.drop v.length (List.replicate (↑v.length : Int).toNat (0 : Int)))) else none)
theorem zi_eq (n : Nat) (x : zi_a.den) : runF zi_g (zi_an n) Tryz.f92 zi_a zi_r x = zi_m n x.1 x.2.1 x.2.2.1 := by kernel_rfl
def zi_s38 (b3_12 : Bas) (c5_12 : Cnd) (all15_12 : List (List UInt8 × List Bool × ((Lnk × Int × Int × Int × Bool × Unit) × Unit → Option (Int × Unit)) × Unit)) (t42_12 : List Lnk) (t44_12 : Int) (c2_12 : List Int) (v13 : Lnk) (v17 : Int × Unit) (j26 : Bool) (j27 : List Int) : Option ((List Int × Option (List Int) × Bool × Unit) ⊕ (Bool × List Int × List Int)) :=
  (bif v13.2.2.1 != (-1 : Int) then (Option.bind (idx j27 v13.2.2.1) fun (v28 : Int) => (Option.bind (j27[v13.2.2.1.toNat]?) fun (v29 : Int) => (Option.bind (idx j27 v13.2.2.1) fun (v30 : Int) => (Option.bind (j27[v13.2.2.1.toNat]?) fun (v31 : Int) => (bif j26 then (Option.bind (idx (j27.set v13.2.2.1.toNat (IntKind.i64.wrap (v29 + v17.1))) v13.2.2.1) fun (v32 : Int) => (Option.bind ((j27.set v13.2.2.1.toNat (IntKind.i64.wrap (v29 + v17.1)))[v13.2.2.1.toNat]?) fun (v33 : Int) => (bif decide (c2_12.length + (1 : Nat) ≤ memMax) then (some (Sum.inr ((decide (v33 ≤ (100000000 : Int))), (c2_12 ++ [v17.1]), (j27.set v13.2.2.1.toNat (IntKind.i64.wrap (v29 + v17.1)))))) else none))) else (bif decide (c2_12.length + (1 : Nat) ≤ memMax) then (some (Sum.inr ((Bool.false), (c2_12 ++ [v17.1]), (j27.set v13.2.2.1.toNat (IntKind.i64.wrap (v29 + v17.1)))))) else none)))))) else (bif decide (c2_12.length + (1 : Nat) ≤ memMax) then (some (Sum.inr ((j26), (c2_12 ++ [v17.1]), (j27)))) else none))
theorem basin_Basin_step_s38_le (n : Nat) (hn : big ≤ n)  (r12 : Bas → Cnd → List (List UInt8 × List Bool × ((Lnk × Int × Int × Int × Bool × Unit) × Unit → Option (Int × Unit)) × Unit) → List Lnk → Int → Int → Bool → List Int → List Int → Option (List Int × Option (List Int) × Bool × Unit)) (b3_12 : Bas) (c5_12 : Cnd) (all15_12 : List (List UInt8 × List Bool × ((Lnk × Int × Int × Int × Bool × Unit) × Unit → Option (Int × Unit)) × Unit)) (t42_12 : List Lnk) (t44_12 : Int) (c2_12 : List Int) (v13 : Lnk) (v17 : Int × Unit) (j26 : Bool) (j27 : List Int) : LeF (elim some fun (s__ : (Bool × List Int × List Int)) => r12 b3_12 c5_12 all15_12 t42_12 (List.length (t42_12) : Int) (IntKind.i64.wrap (t44_12 + 1)) s__.1 s__.2.1 s__.2.2) (zi_s38 b3_12 c5_12 all15_12 t42_12 t44_12 c2_12 v13 v17 j26 j27) (zi_m_j38 n r12 b3_12 c5_12 all15_12 t42_12 (List.length (t42_12) : Int) t44_12 c2_12 v13 v17 j26 j27) :=
  (leCond (leBind fun v28 => (leBind fun v29 => (leBind fun v30 => (leBind fun v31 => (leCond (leBind fun v32 => (leBind fun v33 => (leCond (leSome rfl) leNone))) (leCond (leSome rfl) leNone)))))) (leCond (leSome rfl) leNone))
def zi_b12 (b3_12 : Bas) (c5_12 : Cnd) (all15_12 : List (List UInt8 × List Bool × ((Lnk × Int × Int × Int × Bool × Unit) × Unit → Option (Int × Unit)) × Unit)) (t42_12 : List Lnk) (t44_12 : Int) (v13 : Lnk) (b1_0_12 : Bool) (c2_12 : List Int) (c3_12 : List Int) : Option ((List Int × Option (List Int) × Bool × Unit) ⊕ (Bool × List Int × List Int)) :=
  (Option.bind (idx c3_12 (zv (v13.1, v13.2.1, v13.2.2.1, v13.2.2.2.1, v13.2.2.2.2.1, ())).1) fun (v14 : Int) => (Option.bind (c3_12[(zv (v13.1, v13.2.1, v13.2.2.1, v13.2.2.2.1, v13.2.2.2.2.1, ())).1.toNat]?) fun (v15 : Int) => (Option.bind (idx b3_12.1 (zv (v13.1, v13.2.1, v13.2.2.1, v13.2.2.2.1, v13.2.2.2.2.1, ())).1) fun (v16 : Nod) => (Option.bind (((mapGet Ty.str ((Ty.arr (nat_lit 2) Ty.bool).pair (((((Ty.str.pair ((Ty.int IntKind.i64).pair ((Ty.int IntKind.i64).pair ((Ty.int IntKind.i64).pair ((Ty.int IntKind.i64).pair Ty.unit))))).pair ((Ty.int IntKind.i64).pair ((Ty.int IntKind.i64).pair ((Ty.int IntKind.i64).pair (Ty.bool.pair Ty.unit))))).pair Ty.unit).func ((Ty.int IntKind.i64).pair Ty.unit)).pair Ty.unit)) all15_12 v13.1).getD ([Bool.false, Bool.false], fun (x : (((Ty.str.pair ((Ty.int IntKind.i64).pair ((Ty.int IntKind.i64).pair ((Ty.int IntKind.i64).pair ((Ty.int IntKind.i64).pair Ty.unit))))).pair ((Ty.int IntKind.i64).pair ((Ty.int IntKind.i64).pair ((Ty.int IntKind.i64).pair (Ty.bool.pair Ty.unit))))).pair Ty.unit).den) => Option.none, ())).2.1 (((v13.1, v13.2.1, v13.2.2.1, v13.2.2.2.1, v13.2.2.2.2.1, ()), v15, v16.2.1, c5_12.1, c5_12.2.1, ()), ())) fun (v17 : Int × Unit) => (bif v13.2.1 != (-1 : Int) then (Option.bind (idx c3_12 v13.2.1) fun (v18 : Int) => (Option.bind (c3_12[v13.2.1.toNat]?) fun (v19 : Int) => (Option.bind (idx c3_12 v13.2.1) fun (v20 : Int) => (Option.bind (c3_12[v13.2.1.toNat]?) fun (v21 : Int) => (bif b1_0_12 then (Option.bind (idx (c3_12.set v13.2.1.toNat (IntKind.i64.wrap (v19 + IntKind.i64.wrap ((0 : Int) - v17.1)))) v13.2.1) fun (v22 : Int) => (Option.bind ((c3_12.set v13.2.1.toNat (IntKind.i64.wrap (v19 + IntKind.i64.wrap ((0 : Int) - v17.1))))[v13.2.1.toNat]?) fun (v23 : Int) => (zi_s38 b3_12 c5_12 all15_12 t42_12 t44_12 c2_12 v13 v17 (decide (v23 ≤ (100000000 : Int))) (c3_12.set v13.2.1.toNat (IntKind.i64.wrap (v19 + IntKind.i64.wrap ((0 : Int) - v17.1))))))) else (zi_s38 b3_12 c5_12 all15_12 t42_12 t44_12 c2_12 v13 v17 (Bool.false) (c3_12.set v13.2.1.toNat (IntKind.i64.wrap (v19 + IntKind.i64.wrap ((0 : Int) - v17.1)))))))))) else (zi_s38 b3_12 c5_12 all15_12 t42_12 t44_12 c2_12 v13 v17 (b1_0_12) (c3_12)))))))
def zi_f12 (b3_12 : Bas) (c5_12 : Cnd) (all15_12 : List (List UInt8 × List Bool × ((Lnk × Int × Int × Int × Bool × Unit) × Unit → Option (Int × Unit)) × Unit)) (t42_12 : List Lnk) (b1_0_12 : Bool) (c2_12 : List Int) (c3_12 : List Int) : Option (List Int × Option (List Int) × Bool × Unit) :=
  (some ((c2_12, some c3_12, b1_0_12, ())))
theorem zi_m_w12_le (n : Nat) (hn : big ≤ n)  (b3_12 : Bas) (c5_12 : Cnd) (all15_12 : List (List UInt8 × List Bool × ((Lnk × Int × Int × Int × Bool × Unit) × Unit → Option (Int × Unit)) × Unit)) (t42_12 : List Lnk) (b1_0_12 : Bool) (c2_12 : List Int) (c3_12 : List Int) (hx : List.length (t42_12) < lenMax) : LeF some (loopL (fun i__ e__ s__ => zi_b12 b3_12 c5_12 all15_12 t42_12 i__ e__ s__.1 s__.2.1 s__.2.2) (fun s__ => zi_f12 b3_12 c5_12 all15_12 t42_12 s__.1 s__.2.1 s__.2.2) 0 (t42_12) (b1_0_12, c2_12, c3_12)) (zi_m_w12 n n b3_12 c5_12 all15_12 t42_12 (List.length (t42_12) : Int) 0 b1_0_12 c2_12 c3_12) := by
  refine loopL_le (f := some) (W := fun k__ i__ s__ => zi_m_w12 n k__ b3_12 c5_12 all15_12 t42_12 (List.length (t42_12) : Int) i__ s__.1 s__.2.1 s__.2.2) (body := (fun i__ e__ s__ => zi_b12 b3_12 c5_12 all15_12 t42_12 i__ e__ s__.1 s__.2.1 s__.2.2)) (fin := (fun s__ => zi_f12 b3_12 c5_12 all15_12 t42_12 s__.1 s__.2.1 s__.2.2)) (fun k__ i__ s__ => ?_) hx (b1_0_12, c2_12, c3_12) n (by unfold big at hn; unfold lenMax at hx; omega)
  show LeF _ _ (zi_m_l12 n (zi_m_w12 n k__) b3_12 c5_12 all15_12 t42_12 (List.length (t42_12) : Int) i__ s__.1 s__.2.1 s__.2.2)
  exact leCond (leBind fun v13 => (leBind fun v14 => (leBind fun v15 => (leBind fun v16 => (leBind fun v17 => (leCond (leBind fun v18 => (leBind fun v19 => (leBind fun v20 => (leBind fun v21 => (leCond (leBind fun v22 => (leBind fun v23 => (by apply basin_Basin_step_s38_le n hn))) (by apply basin_Basin_step_s38_le n hn)))))) (by apply basin_Basin_step_s38_le n hn))))))) (leMap (leSome rfl))
def zi_b0 (b3_0 : Bas) (c5_0 : Cnd) (t28_0 : List Int) (t30_0 : Int) (v1 : Int) (b1_0_0 : Bool) (c2_0 : List Int) : Option ((List Int × Option (List Int) × Bool × Unit) ⊕ (Bool × List Int)) :=
  (bif t30_0 != (-1 : Int) then (Option.bind (idx c2_0 t30_0) fun (v2 : Int) => (Option.bind (c2_0[t30_0.toNat]?) fun (v3 : Int) => (Option.bind (idx c2_0 t30_0) fun (v4 : Int) => (Option.bind (c2_0[t30_0.toNat]?) fun (v5 : Int) => (bif b1_0_0 then (Option.bind (idx (c2_0.set t30_0.toNat (IntKind.i64.wrap (v3 + v1))) t30_0) fun (v6 : Int) => (Option.bind ((c2_0.set t30_0.toNat (IntKind.i64.wrap (v3 + v1)))[t30_0.toNat]?) fun (v7 : Int) => (some (Sum.inr ((decide (v7 ≤ (100000000 : Int))), (c2_0.set t30_0.toNat (IntKind.i64.wrap (v3 + v1)))))))) else (some (Sum.inr ((Bool.false), (c2_0.set t30_0.toNat (IntKind.i64.wrap (v3 + v1))))))))))) else (some (Sum.inr ((b1_0_0), (c2_0)))))
def zi_f0 (b3_0 : Bas) (c5_0 : Cnd) (t28_0 : List Int) (b1_0_0 : Bool) (c2_0 : List Int) : Option (List Int × Option (List Int) × Bool × Unit) :=
  (bif decide (List.length (b3_0.2.1) < lenMax) then loopL (fun i__ e__ s__ => zi_b12 (b3_0) (c5_0) (z0Y.1) (b3_0.2.1) i__ e__ s__.1 s__.2.1 s__.2.2) (fun s__ => zi_f12 (b3_0) (c5_0) (z0Y.1) (b3_0.2.1) s__.1 s__.2.1 s__.2.2) 0 (b3_0.2.1) ((b1_0_0), ([]), (c2_0)) else none)
theorem zi_m_w0_le (n : Nat) (hn : big ≤ n)  (b3_0 : Bas) (c5_0 : Cnd) (t28_0 : List Int) (b1_0_0 : Bool) (c2_0 : List Int) (hx : List.length (t28_0) < lenMax) : LeF some (loopL (fun i__ e__ s__ => zi_b0 b3_0 c5_0 t28_0 i__ e__ s__.1 s__.2) (fun s__ => zi_f0 b3_0 c5_0 t28_0 s__.1 s__.2) 0 (t28_0) (b1_0_0, c2_0)) (zi_m_w0 n n b3_0 c5_0 t28_0 (List.length (t28_0) : Int) 0 b1_0_0 c2_0) := by
  refine loopL_le (f := some) (W := fun k__ i__ s__ => zi_m_w0 n k__ b3_0 c5_0 t28_0 (List.length (t28_0) : Int) i__ s__.1 s__.2) (body := (fun i__ e__ s__ => zi_b0 b3_0 c5_0 t28_0 i__ e__ s__.1 s__.2)) (fin := (fun s__ => zi_f0 b3_0 c5_0 t28_0 s__.1 s__.2)) (fun k__ i__ s__ => ?_) hx (b1_0_0, c2_0) n (by unfold big at hn; unfold lenMax at hx; omega)
  show LeF _ _ (zi_m_l0 n (zi_m_w0 n k__) b3_0 c5_0 t28_0 (List.length (t28_0) : Int) i__ s__.1 s__.2)
  exact leCond (leBind fun v1 => (leCond (leBind fun v2 => (leBind fun v3 => (leBind fun v4 => (leBind fun v5 => (leCond (leBind fun v6 => (leBind fun v7 => (leSome rfl))) (leSome rfl)))))) (leSome rfl))) (leMap (leGuard fun hx => by apply zi_m_w12_le n hn; exact hx))
def zi_M (b : Bas) (v : List Int) (c : Cnd) : Option (List Int × Option (List Int) × Bool × Unit) :=
  (bif Bool.true && decide ((0 : Int) ≤ (↑v.length : Int)) && decide ((↑v.length : Int) ≤ (↑memMax : Int)) && (↑v.length : Int) == (↑v.length : Int) then (bif decide (List.length (c.2.2.1) < lenMax) then loopL (fun i__ e__ s__ => zi_b0 (b) (c) (c.2.2.1) i__ e__ s__.1 s__.2) (fun s__ => zi_f0 (b) (c) (c.2.2.1) s__.1 s__.2) 0 (c.2.2.1) ((Bool.true), (List.take (List.replicate (↑v.length : Int).toNat (0 : Int)).length v ++ List.drop v.length (List.replicate (↑v.length : Int).toNat (0 : Int)))) else none) else none)
theorem zi_run (b : Bas) (v : List Int) (c : Cnd) (y : List Int × Option (List Int) × Bool × Unit) (h : zi_M b v c = some y) : ∃ n, zi_m n b v c = some y :=
  ⟨big, LeF.top (show LeF some (zi_M b v c) (zi_m big b v c) from (fun (n : Nat) (hn : big ≤ n) => show LeF some (zi_M b v c) (zi_m n b v c) from (leCond (leGuard fun hx => by apply zi_m_w0_le n hn; exact hx) leNone)) big (Nat.le_refl _)) h⟩
def zi_e : Entry := { f := 92, args := zi_a, ress := zi_r, m := fun x => zi_M x.1 x.2.1 x.2.2.1 }
theorem zi_ok : FnOK Tryz.prog zi_e := fn_ok (g := zi_g) (fn := Tryz.f92) hmixed tabOk (eCons z0Y_ok (eCons zv_ok eNil)) (by kernel_rfl) (by kernel_rfl) (by kernel_rfl) (fun x y h => let ⟨n, hn⟩ := zi_run x.1 x.2.1 x.2.2.1 y h; ⟨zi_an n, (iCons il140_ok iNil), (zi_eq n x).trans hn⟩)
def il150 : Inl := { f := 150, fn := Tryz.f150, keep := [], muts := [], fz := [] }
theorem il150_ok : InlOK Tryz.prog il150 := ⟨by kernel_rfl, by kernel_rfl, fun e0 h => by cases (show (none : Option Nat) = some e0 from h)⟩
abbrev zl_a : Ty := .pair t163 (.pair t3 .unit)
abbrev zl_r : Ty := .pair t35 .unit
def zl_g : G := { T := T, E := [z0Y_e, z0k_e, z0I_e, z0W_e], muts := [], fz := [] }
def zl_k : List (List Nat) := []
def zl_an (n : Nat) : Ann := { keep := zl_k, fuel := n, inl := [il150], deep := 3 }
def zl_m_j20 (n : Nat) (l : Lnk) (nodes : Int) (j5 : Bool) : Option (Int × Unit) :=
  (bif !j5 then some ((10 : Int), ()) else (bif ((mapGet Ty.str ((Ty.arr (2 : Nat) Ty.bool).pair (((((Ty.str.pair ((Ty.int IntKind.i64).pair ((Ty.int IntKind.i64).pair ((Ty.int IntKind.i64).pair ((Ty.int IntKind.i64).pair Ty.unit))))).pair ((Ty.int IntKind.i64).pair ((Ty.int IntKind.i64).pair ((Ty.int IntKind.i64).pair (Ty.bool.pair Ty.unit))))).pair Ty.unit).func ((Ty.int IntKind.i64).pair Ty.unit)).pair Ty.unit)) z0Y.1 l.1).getD ([Bool.false, Bool.false], fun (x : (Lnk × Int × Int × Int × Bool × Unit) × Unit) => Option.none, ())).1.getD (nat_lit 1) Bool.false then (bif l.2.2.1 == (-1 : Int) then (bif eqV (Ty.arr (2 : Nat) Ty.bool) [((mapGet Ty.str ((Ty.arr (2 : Nat) Ty.bool).pair (((((Ty.str.pair ((Ty.int IntKind.i64).pair ((Ty.int IntKind.i64).pair ((Ty.int IntKind.i64).pair ((Ty.int IntKind.i64).pair Ty.unit))))).pair ((Ty.int IntKind.i64).pair ((Ty.int IntKind.i64).pair ((Ty.int IntKind.i64).pair (Ty.bool.pair Ty.unit))))).pair Ty.unit).func ((Ty.int IntKind.i64).pair Ty.unit)).pair Ty.unit)) z0Y.1 l.1).getD ([Bool.false, Bool.false], fun (x : (Lnk × Int × Int × Int × Bool × Unit) × Unit) => Option.none, ())).1.getD (nat_lit 0) Bool.false, ((mapGet Ty.str ((Ty.arr (2 : Nat) Ty.bool).pair (((((Ty.str.pair ((Ty.int IntKind.i64).pair ((Ty.int IntKind.i64).pair ((Ty.int IntKind.i64).pair ((Ty.int IntKind.i64).pair Ty.unit))))).pair ((Ty.int IntKind.i64).pair ((Ty.int IntKind.i64).pair ((Ty.int IntKind.i64).pair (Ty.bool.pair Ty.unit))))).pair Ty.unit).func ((Ty.int IntKind.i64).pair Ty.unit)).pair Ty.unit)) z0Y.1 l.1).getD ([Bool.false, Bool.false], fun (x : (Lnk × Int × Int × Int × Bool × Unit) × Unit) => Option.none, ())).1.getD (nat_lit 1) Bool.false] [Bool.true, Bool.false] then (Option.bind (z0W_M [(z0k (l.2.1 == l.2.2.1) (17 : Int)).1, (z0I l.2.2.2.1 (0 : Int) (0 : Int)).1, (z0I l.2.2.2.2.1 (1 : Int) (1000 : Int)).1]) fun (v27 : Int × Unit) => some (v27.1, ())) else (Option.bind (z0W_M [(z0k (l.2.1 == l.2.2.1) (17 : Int)).1, (z0I l.2.2.2.1 (0 : Int) (1024 : Int)).1, (z0I l.2.2.2.2.1 (1 : Int) (1000 : Int)).1]) fun (v28 : Int × Unit) => some (v28.1, ()))) else (bif !((mapGet Ty.str ((Ty.arr (2 : Nat) Ty.bool).pair (((((Ty.str.pair ((Ty.int IntKind.i64).pair ((Ty.int IntKind.i64).pair ((Ty.int IntKind.i64).pair ((Ty.int IntKind.i64).pair Ty.unit))))).pair ((Ty.int IntKind.i64).pair ((Ty.int IntKind.i64).pair ((Ty.int IntKind.i64).pair (Ty.bool.pair Ty.unit))))).pair Ty.unit).func ((Ty.int IntKind.i64).pair Ty.unit)).pair Ty.unit)) z0Y.1 l.1).getD ([Bool.false, Bool.false], fun (x : (Lnk × Int × Int × Int × Bool × Unit) × Unit) => Option.none, ())).1.getD (nat_lit 1) Bool.false then (bif decide (l.2.2.1 ≥ (0 : Int)) then (bif !decide (l.2.2.1 < nodes) then some ((10 : Int), ()) else (bif eqV (Ty.arr (2 : Nat) Ty.bool) [((mapGet Ty.str ((Ty.arr (2 : Nat) Ty.bool).pair (((((Ty.str.pair ((Ty.int IntKind.i64).pair ((Ty.int IntKind.i64).pair ((Ty.int IntKind.i64).pair ((Ty.int IntKind.i64).pair Ty.unit))))).pair ((Ty.int IntKind.i64).pair ((Ty.int IntKind.i64).pair ((Ty.int IntKind.i64).pair (Ty.bool.pair Ty.unit))))).pair Ty.unit).func ((Ty.int IntKind.i64).pair Ty.unit)).pair Ty.unit)) z0Y.1 l.1).getD ([Bool.false, Bool.false], fun (x : (Lnk × Int × Int × Int × Bool × Unit) × Unit) => Option.none, ())).1.getD (nat_lit 0) Bool.false, ((mapGet Ty.str ((Ty.arr (2 : Nat) Ty.bool).pair (((((Ty.str.pair ((Ty.int IntKind.i64).pair ((Ty.int IntKind.i64).pair ((Ty.int IntKind.i64).pair ((Ty.int IntKind.i64).pair Ty.unit))))).pair ((Ty.int IntKind.i64).pair ((Ty.int IntKind.i64).pair ((Ty.int IntKind.i64).pair (Ty.bool.pair Ty.unit))))).pair Ty.unit).func ((Ty.int IntKind.i64).pair Ty.unit)).pair Ty.unit)) z0Y.1 l.1).getD ([Bool.false, Bool.false], fun (x : (Lnk × Int × Int × Int × Bool × Unit) × Unit) => Option.none, ())).1.getD (nat_lit 1) Bool.false] [Bool.true, Bool.false] then (Option.bind (z0W_M [(z0k (l.2.1 == l.2.2.1) (17 : Int)).1, (z0I l.2.2.2.1 (0 : Int) (0 : Int)).1, (z0I l.2.2.2.2.1 (1 : Int) (1000 : Int)).1]) fun (v30 : Int × Unit) => some (v30.1, ())) else (Option.bind (z0W_M [(z0k (l.2.1 == l.2.2.1) (17 : Int)).1, (z0I l.2.2.2.1 (0 : Int) (1024 : Int)).1, (z0I l.2.2.2.2.1 (1 : Int) (1000 : Int)).1]) fun (v31 : Int × Unit) => some (v31.1, ())))) else some ((10 : Int), ())) else some ((10 : Int), ()))) else (bif !((mapGet Ty.str ((Ty.arr (2 : Nat) Ty.bool).pair (((((Ty.str.pair ((Ty.int IntKind.i64).pair ((Ty.int IntKind.i64).pair ((Ty.int IntKind.i64).pair ((Ty.int IntKind.i64).pair Ty.unit))))).pair ((Ty.int IntKind.i64).pair ((Ty.int IntKind.i64).pair ((Ty.int IntKind.i64).pair (Ty.bool.pair Ty.unit))))).pair Ty.unit).func ((Ty.int IntKind.i64).pair Ty.unit)).pair Ty.unit)) z0Y.1 l.1).getD ([Bool.false, Bool.false], fun (x : (Lnk × Int × Int × Int × Bool × Unit) × Unit) => Option.none, ())).1.getD (nat_lit 1) Bool.false then (bif decide (l.2.2.1 ≥ (0 : Int)) then (bif !decide (l.2.2.1 < nodes) then some ((10 : Int), ()) else (bif eqV (Ty.arr (2 : Nat) Ty.bool) [((mapGet Ty.str ((Ty.arr (2 : Nat) Ty.bool).pair (((((Ty.str.pair ((Ty.int IntKind.i64).pair ((Ty.int IntKind.i64).pair ((Ty.int IntKind.i64).pair ((Ty.int IntKind.i64).pair Ty.unit))))).pair ((Ty.int IntKind.i64).pair ((Ty.int IntKind.i64).pair ((Ty.int IntKind.i64).pair (Ty.bool.pair Ty.unit))))).pair Ty.unit).func ((Ty.int IntKind.i64).pair Ty.unit)).pair Ty.unit)) z0Y.1 l.1).getD ([Bool.false, Bool.false], fun (x : (Lnk × Int × Int × Int × Bool × Unit) × Unit) => Option.none, ())).1.getD (nat_lit 0) Bool.false, ((mapGet Ty.str ((Ty.arr (2 : Nat) Ty.bool).pair (((((Ty.str.pair ((Ty.int IntKind.i64).pair ((Ty.int IntKind.i64).pair ((Ty.int IntKind.i64).pair ((Ty.int IntKind.i64).pair Ty.unit))))).pair ((Ty.int IntKind.i64).pair ((Ty.int IntKind.i64).pair ((Ty.int IntKind.i64).pair (Ty.bool.pair Ty.unit))))).pair Ty.unit).func ((Ty.int IntKind.i64).pair Ty.unit)).pair Ty.unit)) z0Y.1 l.1).getD ([Bool.false, Bool.false], fun (x : (Lnk × Int × Int × Int × Bool × Unit) × Unit) => Option.none, ())).1.getD (nat_lit 1) Bool.false] [Bool.true, Bool.false] then (Option.bind (z0W_M [(z0k (l.2.1 == l.2.2.1) (17 : Int)).1, (z0I l.2.2.2.1 (0 : Int) (0 : Int)).1, (z0I l.2.2.2.2.1 (1 : Int) (1000 : Int)).1]) fun (v33 : Int × Unit) => some (v33.1, ())) else (Option.bind (z0W_M [(z0k (l.2.1 == l.2.2.1) (17 : Int)).1, (z0I l.2.2.2.1 (0 : Int) (1024 : Int)).1, (z0I l.2.2.2.2.1 (1 : Int) (1000 : Int)).1]) fun (v34 : Int × Unit) => some (v34.1, ())))) else some ((10 : Int), ())) else some ((10 : Int), ()))))
def zl_m (n : Nat) (l : Lnk) (nodes : Int) : Option (Int × Unit) :=
  (bif !(mapGet Ty.str ((Ty.arr (2 : Nat) Ty.bool).pair (((((Ty.str.pair ((Ty.int IntKind.i64).pair ((Ty.int IntKind.i64).pair ((Ty.int IntKind.i64).pair ((Ty.int IntKind.i64).pair Ty.unit))))).pair ((Ty.int IntKind.i64).pair ((Ty.int IntKind.i64).pair ((Ty.int IntKind.i64).pair (Ty.bool.pair Ty.unit))))).pair Ty.unit).func ((Ty.int IntKind.i64).pair Ty.unit)).pair Ty.unit)) z0Y.1 l.1).isSome then some ((13 : Int), ()) else (bif ((mapGet Ty.str ((Ty.arr (2 : Nat) Ty.bool).pair (((((Ty.str.pair ((Ty.int IntKind.i64).pair ((Ty.int IntKind.i64).pair ((Ty.int IntKind.i64).pair ((Ty.int IntKind.i64).pair Ty.unit))))).pair ((Ty.int IntKind.i64).pair ((Ty.int IntKind.i64).pair ((Ty.int IntKind.i64).pair (Ty.bool.pair Ty.unit))))).pair Ty.unit).func ((Ty.int IntKind.i64).pair Ty.unit)).pair Ty.unit)) z0Y.1 l.1).getD ([Bool.false, Bool.false], fun (x : (Lnk × Int × Int × Int × Bool × Unit) × Unit) => Option.none, ())).1.getD (nat_lit 0) Bool.false then (bif l.2.1 == (-1 : Int) then (zl_m_j20 n l nodes (Bool.true)) else (bif !((mapGet Ty.str ((Ty.arr (2 : Nat) Ty.bool).pair (((((Ty.str.pair ((Ty.int IntKind.i64).pair ((Ty.int IntKind.i64).pair ((Ty.int IntKind.i64).pair ((Ty.int IntKind.i64).pair Ty.unit))))).pair ((Ty.int IntKind.i64).pair ((Ty.int IntKind.i64).pair ((Ty.int IntKind.i64).pair (Ty.bool.pair Ty.unit))))).pair Ty.unit).func ((Ty.int IntKind.i64).pair Ty.unit)).pair Ty.unit)) z0Y.1 l.1).getD ([Bool.false, Bool.false], fun (x : (Lnk × Int × Int × Int × Bool × Unit) × Unit) => Option.none, ())).1.getD (nat_lit 0) Bool.false then (bif decide (l.2.1 ≥ (0 : Int)) then (zl_m_j20 n l nodes (decide (l.2.1 < nodes))) else (zl_m_j20 n l nodes (Bool.false))) else (zl_m_j20 n l nodes (Bool.false)))) else (bif !((mapGet Ty.str ((Ty.arr (2 : Nat) Ty.bool).pair (((((Ty.str.pair ((Ty.int IntKind.i64).pair ((Ty.int IntKind.i64).pair ((Ty.int IntKind.i64).pair ((Ty.int IntKind.i64).pair Ty.unit))))).pair ((Ty.int IntKind.i64).pair ((Ty.int IntKind.i64).pair ((Ty.int IntKind.i64).pair (Ty.bool.pair Ty.unit))))).pair Ty.unit).func ((Ty.int IntKind.i64).pair Ty.unit)).pair Ty.unit)) z0Y.1 l.1).getD ([Bool.false, Bool.false], fun (x : (Lnk × Int × Int × Int × Bool × Unit) × Unit) => Option.none, ())).1.getD (nat_lit 0) Bool.false then (bif decide (l.2.1 ≥ (0 : Int)) then (zl_m_j20 n l nodes (decide (l.2.1 < nodes))) else (zl_m_j20 n l nodes (Bool.false))) else (zl_m_j20 n l nodes (Bool.false)))))
theorem zl_eq (n : Nat) (x : zl_a.den) : runF zl_g (zl_an n) Tryz.f103 zl_a zl_r x = zl_m n x.1 x.2.1 := by kernel_rfl
def zl_M (l : Lnk) (nodes : Int) : Option (Int × Unit) := zl_m 0 l nodes
theorem zl_run (l : Lnk) (nodes : Int) (y : Int × Unit) (h : zl_M l nodes = some y) : ∃ n, zl_m n l nodes = some y := ⟨0, h⟩
def zl_e : Entry := { f := 103, args := zl_a, ress := zl_r, m := fun x => zl_M x.1 x.2.1 }
theorem zl_ok : FnOK Tryz.prog zl_e := fn_ok (g := zl_g) (fn := Tryz.f103) hmixed tabOk (eCons z0Y_ok (eCons z0k_ok (eCons z0I_ok (eCons z0W_ok eNil)))) (by kernel_rfl) (by kernel_rfl) (by kernel_rfl) (fun x y h => let ⟨n, hn⟩ := zl_run x.1 x.2.1 y h; ⟨zl_an n, (iCons il150_ok iNil), (zl_eq n x).trans hn⟩)
abbrev zc_a : Ty := .pair t104 .unit
abbrev zc_r : Ty := .pair t44 .unit
def zc_g : G := { T := T, E := [zb_e], muts := [], fz := [] }
def zc_k : List (List Nat) := []
def zc_an (n : Nat) : Ann := { keep := zc_k, fuel := n, inl := [], deep := 0 }
def zc_m (n : Nat) (r1 : Rng) : Option (Cnd × Unit) :=
  (Option.bind (zb_M r1 (1 : Int)) fun (v0 : Cnd × Unit) => some ((v0.1.1, v0.1.2.1, v0.1.2.2.1, ()), ()))
theorem zc_eq (n : Nat) (x : zc_a.den) : runF zc_g (zc_an n) Tryz.f110 zc_a zc_r x = zc_m n x.1 := by kernel_rfl
def zc_M (r1 : Rng) : Option (Cnd × Unit) := zc_m 0 r1
theorem zc_run (r1 : Rng) (y : Cnd × Unit) (h : zc_M r1 = some y) : ∃ n, zc_m n r1 = some y := ⟨0, h⟩
def zc_e : Entry := { f := 110, args := zc_a, ress := zc_r, m := fun x => zc_M x.1 }
theorem zc_ok : FnOK Tryz.prog zc_e := fn_ok (g := zc_g) (fn := Tryz.f110) hmixed tabOk (eCons zb_ok eNil) (by kernel_rfl) (by kernel_rfl) (by kernel_rfl) (fun x y h => let ⟨n, hn⟩ := zc_run x.1 y h; ⟨zc_an n, iNil, (zc_eq n x).trans hn⟩)
abbrev ze_a : Ty := .pair t104 .unit
abbrev ze_r : Ty := .pair t44 .unit
def ze_g : G := { T := T, E := [zb_e], muts := [], fz := [] }
def ze_k : List (List Nat) := []
def ze_an (n : Nat) : Ann := { keep := ze_k, fuel := n, inl := [], deep := 0 }
def ze_m (n : Nat) (r1 : Rng) : Option (Cnd × Unit) :=
  (Option.bind (zb_M r1 (0 : Int)) fun (v0 : Cnd × Unit) => some ((v0.1.1, v0.1.2.1, v0.1.2.2.1, ()), ()))
theorem ze_eq (n : Nat) (x : ze_a.den) : runF ze_g (ze_an n) Tryz.f111 ze_a ze_r x = ze_m n x.1 := by kernel_rfl
def ze_M (r1 : Rng) : Option (Cnd × Unit) := ze_m 0 r1
theorem ze_run (r1 : Rng) (y : Cnd × Unit) (h : ze_M r1 = some y) : ∃ n, ze_m n r1 = some y := ⟨0, h⟩
def ze_e : Entry := { f := 111, args := ze_a, ress := ze_r, m := fun x => ze_M x.1 }
theorem ze_ok : FnOK Tryz.prog ze_e := fn_ok (g := ze_g) (fn := Tryz.f111) hmixed tabOk (eCons zb_ok eNil) (by kernel_rfl) (by kernel_rfl) (by kernel_rfl) (fun x y h => let ⟨n, hn⟩ := ze_run x.1 y h; ⟨ze_an n, iNil, (ze_eq n x).trans hn⟩)
abbrev zN_a : Ty := .pair t41 (.pair t104 .unit)
abbrev zN_r : Ty := .pair t35 .unit
def zN_g : G := { T := T, E := [zI_e, zS_e, zw_e, z0k_e, z8_e, z0W_e], muts := [], fz := [] }
def zN_k : List (List Nat) := []
def zN_an (n : Nat) : Ann := { keep := zN_k, fuel := n, inl := [], deep := 0 }
def zN_m (n : Nat) (b : Bas) (r1 : Rng) : Option (Int × Unit) :=
  (Option.bind (zS_M r1.1 fun (x : Int × Unit) => zw_M x.1) fun (v0 : Int × Unit) => (Option.bind (z8_M r1.2.2.1 fun (x : (Int × Int × Unit) × Unit) => zI_M x.1) fun (v1 : List Int × Unit) => (Option.bind (z0W_M v1.1) fun (v2 : Int × Unit) => (Option.bind (z0W_M [v0.1, (z0k ((↑r1.2.2.1.length : Int) != (↑b.1.length : Int)) (2 : Int)).1, v2.1]) fun (v3 : Int × Unit) => some (v3.1, ())))))
theorem zN_eq (n : Nat) (x : zN_a.den) : runF zN_g (zN_an n) Tryz.f115 zN_a zN_r x = zN_m n x.1 x.2.1 := by kernel_rfl
def zN_M (b : Bas) (r1 : Rng) : Option (Int × Unit) := zN_m 0 b r1
theorem zN_run (b : Bas) (r1 : Rng) (y : Int × Unit) (h : zN_M b r1 = some y) : ∃ n, zN_m n b r1 = some y := ⟨0, h⟩
def zN_e : Entry := { f := 115, args := zN_a, ress := zN_r, m := fun x => zN_M x.1 x.2.1 }
theorem zN_ok : FnOK Tryz.prog zN_e := fn_ok (g := zN_g) (fn := Tryz.f115) hmixed tabOk (eCons zI_ok (eCons zS_ok (eCons zw_ok (eCons z0k_ok (eCons z8_ok (eCons z0W_ok eNil)))))) (by kernel_rfl) (by kernel_rfl) (by kernel_rfl) (fun x y h => let ⟨n, hn⟩ := zN_run x.1 x.2.1 y h; ⟨zN_an n, iNil, (zN_eq n x).trans hn⟩)
end
end Go.Tw
end
