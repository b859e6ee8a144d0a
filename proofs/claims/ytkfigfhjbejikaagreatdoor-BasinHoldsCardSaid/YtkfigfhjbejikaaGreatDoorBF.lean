/- Models of the program's functions, by program (gen.py), and what they compute.
Models of the program's functions, by program (gen.py), and what they compute.
Models of the program's functions, by program (gen.py), and what they compute.
Models of the program's functions, by program (gen.py), and what they compute.
Models of the program's functions, by program (gen.py), and what they compute. -/
import Derived.Test.YtkfigfhjbejikaaGreatDoorBT
import Derived.Test.YtkfigfhjbejikaaGreatDoorBA
import Derived.Test.YtkfigfhjbejikaaGreatDoorBC
import Derived.Test.YtkfigfhjbejikaaGreatDoorBD
import Derived.Test.YtkfigfhjbejikaaGreatDoorBE
import Derived.Test.YtkfigfhjbejikaaGreatDoorB16
import Derived.Test.YtkfigfhjbejikaaGreatDoorB17
section
set_option linter.all false
set_option maxRecDepth 1000000
namespace Go.Tw
open Go.Vx Go.Vx.B Go.Proofs
noncomputable section
abbrev zW_a : Ty := .pair t96 (.pair t3 (.pair t3 .unit))
abbrev zW_r : Ty := .pair t3 .unit
def zW_g : G := { T := T, E := [zp_e, z0b_e], muts := [], fz := [] }
def zW_k : List (List Nat) := []
def zW_an (n : Nat) : Ann := { keep := zW_k, fuel := n, inl := [], deep := 0 }
def zW_m (n : Nat) (x1 : Int × Int × Unit) (low : Int) (high : Int) : Option (Int × Unit) :=
  (Option.bind (z0b_M [(zp x1.1 low high).1, (zp x1.2.1 low high).1]) fun (v0 : Int × Unit) => (bif v0.1 != (0 : Int) then some (v0.1, ()) else (bif decide (x1.1 > x1.2.1) then some ((11 : Int), ()) else some ((0 : Int), ()))))
theorem zW_eq (n : Nat) (x : zW_a.den) : runF zW_g (zW_an n) Tryz.f155 zW_a zW_r x = zW_m n x.1 x.2.1 x.2.2.1 := by kernel_rfl
def zW_M (x1 : Int × Int × Unit) (low : Int) (high : Int) : Option (Int × Unit) := zW_m 0 x1 low high
theorem zW_run (x1 : Int × Int × Unit) (low : Int) (high : Int) (y : Int × Unit) (h : zW_M x1 low high = some y) : ∃ n, zW_m n x1 low high = some y := ⟨0, h⟩
def zW_e : Entry := { f := 155, args := zW_a, ress := zW_r, m := fun x => zW_M x.1 x.2.1 x.2.2.1 }
theorem zW_ok : FnOK Tryz.prog zW_e := fn_ok (g := zW_g) (fn := Tryz.f155) hmixed tabOk (eCons zp_ok (eCons z0b_ok eNil)) (by kernel_rfl) (by kernel_rfl) (by kernel_rfl) (fun x y h => let ⟨n, hn⟩ := zW_run x.1 x.2.1 x.2.2.1 y h; ⟨zW_an n, iNil, (zW_eq n x).trans hn⟩)
abbrev zY_a : Ty := .pair t26 (.pair (.ref t41) .unit)
abbrev zY_r : Ty := .pair t4 .unit
def zY_g : G := { T := T, E := [zd_e], muts := [], fz := [] }
def zY_k : List (List Nat) := []
def zY_an (n : Nat) : Ann := { keep := zY_k, fuel := n, inl := [], deep := 0 }
def zY_m (n : Nat) (w : List Int) (p1 : Bas) : Option (Bool × Unit) :=
  (Option.bind (zd_M p1 w) fun (v0 : List Int × Unit) => some (decide ((↑v0.1.length : Int) > (0 : Int)), ()))
theorem zY_eq (n : Nat) (x : zY_a.den) : runF zY_g (zY_an n) Tryz.f167 zY_a zY_r x = zY_m n x.1 x.2.1 := by kernel_rfl
def zY_M (w : List Int) (p1 : Bas) : Option (Bool × Unit) := zY_m 0 w p1
theorem zY_run (w : List Int) (p1 : Bas) (y : Bool × Unit) (h : zY_M w p1 = some y) : ∃ n, zY_m n w p1 = some y := ⟨0, h⟩
def zY_e : Entry := { f := 167, args := zY_a, ress := zY_r, m := fun x => zY_M x.1 x.2.1 }
theorem zY_ok : FnOK Tryz.prog zY_e := fn_ok (g := zY_g) (fn := Tryz.f167) hmixed tabOk (eCons zd_ok eNil) (by kernel_rfl) (by kernel_rfl) (by kernel_rfl) (fun x y h => let ⟨n, hn⟩ := zY_run x.1 x.2.1 y h; ⟨zY_an n, iNil, (zY_eq n x).trans hn⟩)
abbrev z0F_a : Ty := .pair t41 (.pair t108 (.pair t4 .unit))
abbrev z0F_r : Ty := .pair t54 (.pair t35 .unit)
def z0F_g : G := { T := T, E := [zj_e, zL_e, z0W_e, z6_e, zc_e, ze_e], muts := [], fz := [] }
def z0F_k : List (List Nat) := []
def z0F_an (n : Nat) : Ann := { keep := z0F_k, fuel := n, inl := [], deep := 0 }
def z0F_m (n : Nat) (b : Bas) (l : List Rng) (upper : Bool) : Option (List Cnd × Int × Unit) :=
  (Option.bind (zj_M b) fun (v0 : Int × Unit) => (Option.bind (zL_M b l) fun (v1 : Int × Unit) => (Option.bind (z0W_M [v0.1, v1.1]) fun (v2 : Int × Unit) => (bif v2.1 != (0 : Int) then some ([], v2.1, ()) else (bif upper then (Option.bind (z6_M l fun (x : Rng × Unit) => zc_M x.1) fun (v3 : List Cnd × Unit) => some (v3.1, (0 : Int), ())) else (Option.bind (z6_M l fun (x : Rng × Unit) => ze_M x.1) fun (v4 : List Cnd × Unit) => some (v4.1, (0 : Int), ())))))))
theorem z0F_eq (n : Nat) (x : z0F_a.den) : runF z0F_g (z0F_an n) Tryz.f55 z0F_a z0F_r x = z0F_m n x.1 x.2.1 x.2.2.1 := by kernel_rfl
def z0F_M (b : Bas) (l : List Rng) (upper : Bool) : Option (List Cnd × Int × Unit) := z0F_m 0 b l upper
theorem z0F_run (b : Bas) (l : List Rng) (upper : Bool) (y : List Cnd × Int × Unit) (h : z0F_M b l upper = some y) : ∃ n, z0F_m n b l upper = some y := ⟨0, h⟩
def z0F_e : Entry := { f := 55, args := z0F_a, ress := z0F_r, m := fun x => z0F_M x.1 x.2.1 x.2.2.1 }
theorem z0F_ok : FnOK Tryz.prog z0F_e := fn_ok (g := z0F_g) (fn := Tryz.f55) hmixed tabOk (eCons zj_ok (eCons zL_ok (eCons z0W_ok (eCons z6_ok (eCons zc_ok (eCons ze_ok eNil)))))) (by kernel_rfl) (by kernel_rfl) (by kernel_rfl) (fun x y h => let ⟨n, hn⟩ := z0F_run x.1 x.2.1 x.2.2.1 y h; ⟨z0F_an n, iNil, (z0F_eq n x).trans hn⟩)
abbrev zK_a : Ty := .pair t56 (.pair t181 .unit)
abbrev zK_r : Ty := .pair t3 .unit
def zK_g : G := { T := T, E := [], muts := [], fz := [] }
def zK_k : List (List Nat) := [[0, 1, 7, 8]]
def zK_an (n : Nat) : Ann := { keep := zK_k, fuel := n, inl := [], deep := 0 }
def zK_m_l0 (n : Nat) (r0 : List (List Int) → (List Int × Unit → Option (Bool × Unit)) → Int → Int → Option (Int × Unit)) (s0_0 : List (List Int)) (f1_0 : List Int × Unit → Option (Bool × Unit)) (t7_0 : Int) (t8_0 : Int) : Option (Int × Unit) :=
  (bif decide (t8_0 < t7_0) then (Option.bind (idx s0_0 t8_0) fun (v1 : List Int) => (Option.bind (f1_0 (v1, ())) fun (v2 : Bool × Unit) => (bif v2.1 then some (t8_0, ()) else r0 s0_0 f1_0 t7_0 (IntKind.i64.wrap (t8_0 + (1 : Int)))))) else some ((-1 : Int), ()))
def zK_m_w0 (n : Nat)  (k : Nat) (s0_0 : List (List Int)) (f1_0 : List Int × Unit → Option (Bool × Unit)) (t7_0 : Int) (t8_0 : Int) : Option (Int × Unit) :=
  iter (fun r y => zK_m_l0 n (fun s0_0 f1_0 t7_0 t8_0 => r ((s0_0, (f1_0, (t7_0, (t8_0, ())))), ((), ()))) y.1.1 y.1.2.1 y.1.2.2.1 y.1.2.2.2.1) k ((s0_0, (f1_0, (t7_0, (t8_0, ())))), ((), ()))
def zK_m (n : Nat) (s : List (List Int)) (f : List Int × Unit → Option (Bool × Unit)) : Option (Int × Unit) :=
  (zK_m_w0 n n (s) (f) ((↑s.length : Int)) ((0 : Int)))
theorem zK_eq (n : Nat) (x : zK_a.den) : runF zK_g (zK_an n) Tryz.f187 zK_a zK_r x = zK_m n x.1 x.2.1 := by kernel_rfl
def zK_b0 (s0_0 : List (List Int)) (f1_0 : List Int × Unit → Option (Bool × Unit)) (t8_0 : Int) (v1 : List Int) : Option ((Int × Unit) ⊕ Unit) :=
  (Option.bind (f1_0 (v1, ())) fun (v2 : Bool × Unit) => (bif v2.1 then (some (Sum.inl ((t8_0, ())))) else (some (Sum.inr ()))))
def zK_f0 (s0_0 : List (List Int)) (f1_0 : List Int × Unit → Option (Bool × Unit)) : Option (Int × Unit) :=
  (some (((-1 : Int), ())))
theorem zK_m_w0_le (n : Nat) (hn : big ≤ n)  (s0_0 : List (List Int)) (f1_0 : List Int × Unit → Option (Bool × Unit)) (hx : List.length (s0_0) < lenMax) : LeF some (loopL (fun i__ e__ s__ => zK_b0 s0_0 f1_0 i__ e__) (fun s__ => zK_f0 s0_0 f1_0) 0 (s0_0) ()) (zK_m_w0 n n s0_0 f1_0 (List.length (s0_0) : Int) 0) := by
  refine loopL_le (f := some) (W := fun k__ i__ s__ => zK_m_w0 n k__ s0_0 f1_0 (List.length (s0_0) : Int) i__) (body := (fun i__ e__ s__ => zK_b0 s0_0 f1_0 i__ e__)) (fin := (fun s__ => zK_f0 s0_0 f1_0)) (fun k__ i__ s__ => ?_) hx () n (by unfold big at hn; unfold lenMax at hx; omega)
  show LeF _ _ (zK_m_l0 n (zK_m_w0 n k__) s0_0 f1_0 (List.length (s0_0) : Int) i__)
  exact leCond (leBind fun v1 => (leBind fun v2 => (leCond (leSome rfl) (leSome rfl)))) (leMap (leSome rfl))
def zK_M (s : List (List Int)) (f : List Int × Unit → Option (Bool × Unit)) : Option (Int × Unit) :=
  (bif decide (List.length (s) < lenMax) then loopL (fun i__ e__ s__ => zK_b0 (s) (f) i__ e__) (fun s__ => zK_f0 (s) (f)) 0 (s) () else none)
theorem zK_run (s : List (List Int)) (f : List Int × Unit → Option (Bool × Unit)) (y : Int × Unit) (h : zK_M s f = some y) : ∃ n, zK_m n s f = some y :=
  ⟨big, LeF.top (show LeF some (zK_M s f) (zK_m big s f) from (fun (n : Nat) (hn : big ≤ n) => show LeF some (zK_M s f) (zK_m n s f) from (leGuard fun hx => by apply zK_m_w0_le n hn; exact hx)) big (Nat.le_refl _)) h⟩
def zK_e : Entry := { f := 187, args := zK_a, ress := zK_r, m := fun x => zK_M x.1 x.2.1 }
theorem zK_ok : FnOK Tryz.prog zK_e := fn_ok (g := zK_g) (fn := Tryz.f187) hmixed tabOk eNil (by kernel_rfl) (by kernel_rfl) (by kernel_rfl) (fun x y h => let ⟨n, hn⟩ := zK_run x.1 x.2.1 y h; ⟨zK_an n, iNil, (zK_eq n x).trans hn⟩)
abbrev zk_a : Ty := .pair t41 (.pair t104 .unit)
abbrev zk_r : Ty := .pair t35 .unit
def zk_g : G := { T := T, E := [zj_e, zN_e, z0W_e], muts := [], fz := [] }
def zk_k : List (List Nat) := []
def zk_an (n : Nat) : Ann := { keep := zk_k, fuel := n, inl := [], deep := 0 }
def zk_m (n : Nat) (b : Bas) (r1 : Rng) : Option (Int × Unit) :=
  (Option.bind (zj_M b) fun (v0 : Int × Unit) => (Option.bind (zN_M b r1) fun (v1 : Int × Unit) => (Option.bind (z0W_M [v0.1, v1.1]) fun (v2 : Int × Unit) => some (v2.1, ()))))
theorem zk_eq (n : Nat) (x : zk_a.den) : runF zk_g (zk_an n) Tryz.f64 zk_a zk_r x = zk_m n x.1 x.2.1 := by kernel_rfl
def zk_M (b : Bas) (r1 : Rng) : Option (Int × Unit) := zk_m 0 b r1
theorem zk_run (b : Bas) (r1 : Rng) (y : Int × Unit) (h : zk_M b r1 = some y) : ∃ n, zk_m n b r1 = some y := ⟨0, h⟩
def zk_e : Entry := { f := 64, args := zk_a, ress := zk_r, m := fun x => zk_M x.1 x.2.1 }
theorem zk_ok : FnOK Tryz.prog zk_e := fn_ok (g := zk_g) (fn := Tryz.f64) hmixed tabOk (eCons zj_ok (eCons zN_ok (eCons z0W_ok eNil))) (by kernel_rfl) (by kernel_rfl) (by kernel_rfl) (fun x y h => let ⟨n, hn⟩ := zk_run x.1 x.2.1 y h; ⟨zk_an n, iNil, (zk_eq n x).trans hn⟩)
abbrev zy_a : Ty := .pair t97 .unit
abbrev zy_r : Ty := .pair t97 .unit
def zy_g : G := { T := T, E := [], muts := [3], fz := [] }
def zy_k : List (List Nat) := []
def zy_an (n : Nat) : Ann := { keep := zy_k, fuel := n, inl := [], deep := 0 }
def zy_m (n : Nat) (l : List (Int × Int × Unit)) : Option (List (Int × Int × Unit) × Unit) :=
  (bif decide ((0 : Nat) + l.length ≤ memMax) then some (l, ()) else none)
theorem zy_eq (n : Nat) (x : zy_a.den) : runF zy_g (zy_an n) Tryz.f67 zy_a zy_r x = zy_m n x.1 := by kernel_rfl
def zy_M (l : List (Int × Int × Unit)) : Option (List (Int × Int × Unit) × Unit) := zy_m 0 l
theorem zy_run (l : List (Int × Int × Unit)) (y : List (Int × Int × Unit) × Unit) (h : zy_M l = some y) : ∃ n, zy_m n l = some y := ⟨0, h⟩
def zy_e : Entry := { f := 67, args := zy_a, ress := zy_r, m := fun x => zy_M x.1 }
theorem zy_ok : FnOK Tryz.prog zy_e := fn_ok (g := zy_g) (fn := Tryz.f67) hmixed tabOk eNil (by kernel_rfl) (by kernel_rfl) (by kernel_rfl) (fun x y h => let ⟨n, hn⟩ := zy_run x.1 y h; ⟨zy_an n, iNil, (zy_eq n x).trans hn⟩)
abbrev z0C_a : Ty := .pair t96 (.pair t5 .unit)
abbrev z0C_r : Ty := .pair t3 .unit
def z0C_g : G := { T := T, E := [], muts := [], fz := [] }
def z0C_k : List (List Nat) := []
def z0C_an (n : Nat) : Ann := { keep := z0C_k, fuel := n, inl := [], deep := 0 }
def z0C_m (n : Nat) (x1 : Int × Int × Unit) (share : Int) : Option (Int × Unit) :=
  some (IntKind.i64.wrap (x1.1 + IntKind.i64.wrap ((IntKind.i64.wrap (IntKind.i64.wrap (x1.2.1 - x1.1) * (IntKind.i64.wrap share).tmod (17 : Int))).tdiv (16 : Int))), ())
theorem z0C_eq (n : Nat) (x : z0C_a.den) : runF z0C_g (z0C_an n) Tryz.f76 z0C_a z0C_r x = z0C_m n x.1 x.2.1 := by kernel_rfl
def z0C (x1 : Int × Int × Unit) (share : Int) : (Int × Unit) :=
  (IntKind.i64.wrap (x1.1 + IntKind.i64.wrap ((IntKind.i64.wrap (IntKind.i64.wrap (x1.2.1 - x1.1) * (IntKind.i64.wrap share).tmod (17 : Int))).tdiv (16 : Int))), ())
abbrev z0C_M (x1 : Int × Int × Unit) (share : Int) : Option (Int × Unit) := some (z0C x1 share)
theorem z0C_run (x1 : Int × Int × Unit) (share : Int) (y : Int × Unit) (h : z0C_M x1 share = some y) : ∃ n, z0C_m n x1 share = some y :=
  ⟨0, by rw [← h]; show z0C_m 0 x1 share = some (z0C x1 share); unfold z0C_m z0C; first | rfl | (simp only [cond_some]; done) | (simp only [cond_some]; rfl)⟩
def z0C_e : Entry := { f := 76, args := z0C_a, ress := z0C_r, m := fun x => z0C_M x.1 x.2.1 }
theorem z0C_ok : FnOK Tryz.prog z0C_e := fn_ok (g := z0C_g) (fn := Tryz.f76) hmixed tabOk eNil (by kernel_rfl) (by kernel_rfl) (by kernel_rfl) (fun x y h => let ⟨n, hn⟩ := z0C_run x.1 x.2.1 y h; ⟨z0C_an n, iNil, (z0C_eq n x).trans hn⟩)
abbrev z0K_a : Ty := .pair t54 .unit
abbrev z0K_r : Ty := .pair t54 .unit
def z0K_g : G := { T := T, E := [z0l_e], muts := [3], fz := [] }
def z0K_k : List (List Nat) := [[3, 6, 7, 8]]
def z0K_an (n : Nat) : Ann := { keep := z0K_k, fuel := n, inl := [], deep := 0 }
def z0K_m_l0 (n : Nat) (r0 : List Cnd → Int → Int → List Cnd → Option (List Cnd × Unit)) (t6_0 : List Cnd) (t7_0 : Int) (t8_0 : Int) (c0_0 : List Cnd) : Option (List Cnd × Unit) :=
  (bif decide (t8_0 < t7_0) then (Option.bind (idx t6_0 t8_0) fun (v1 : Cnd) => (Option.bind (z0l_M v1.2.2.1) fun (v2 : List Int × Unit) => (bif decide (c0_0.length + (1 : Nat) ≤ memMax) then r0 t6_0 t7_0 (IntKind.i64.wrap (t8_0 + (1 : Int))) (c0_0 ++ [(v1.1, v1.2.1, v2.1, ())]) else none))) else some (c0_0, ()))
def z0K_m_w0 (n : Nat)  (k : Nat) (t6_0 : List Cnd) (t7_0 : Int) (t8_0 : Int) (c0_0 : List Cnd) : Option (List Cnd × Unit) :=
  iter (fun r y => z0K_m_l0 n (fun t6_0 t7_0 t8_0 c0_0 => r ((t6_0, (t7_0, (t8_0, ()))), ((c0_0, ()), ()))) y.1.1 y.1.2.1 y.1.2.2.1 y.2.1.1) k ((t6_0, (t7_0, (t8_0, ()))), ((c0_0, ()), ()))
def z0K_m (n : Nat) (l : List Cnd) : Option (List Cnd × Unit) :=
  (z0K_m_w0 n n (l) ((↑l.length : Int)) ((0 : Int)) ([]))
theorem z0K_eq (n : Nat) (x : z0K_a.den) : runF z0K_g (z0K_an n) Tryz.f77 z0K_a z0K_r x = z0K_m n x.1 := by kernel_rfl
def z0K_b0 (t6_0 : List Cnd) (t8_0 : Int) (v1 : Cnd) (c0_0 : List Cnd) : Option ((List Cnd × Unit) ⊕ (List Cnd)) :=
  (Option.bind (z0l_M v1.2.2.1) fun (v2 : List Int × Unit) => (bif decide (c0_0.length + (1 : Nat) ≤ memMax) then (some (Sum.inr (c0_0 ++ [(v1.1, v1.2.1, v2.1, ())]))) else none))
def z0K_f0 (t6_0 : List Cnd) (c0_0 : List Cnd) : Option (List Cnd × Unit) :=
  (some ((c0_0, ())))
theorem z0K_m_w0_le (n : Nat) (hn : big ≤ n)  (t6_0 : List Cnd) (c0_0 : List Cnd) (hx : List.length (t6_0) < lenMax) : LeF some (loopL (fun i__ e__ s__ => z0K_b0 t6_0 i__ e__ s__) (fun s__ => z0K_f0 t6_0 s__) 0 (t6_0) c0_0) (z0K_m_w0 n n t6_0 (List.length (t6_0) : Int) 0 c0_0) := by
  refine loopL_le (f := some) (W := fun k__ i__ s__ => z0K_m_w0 n k__ t6_0 (List.length (t6_0) : Int) i__ s__) (body := (fun i__ e__ s__ => z0K_b0 t6_0 i__ e__ s__)) (fin := (fun s__ => z0K_f0 t6_0 s__)) (fun k__ i__ s__ => ?_) hx c0_0 n (by unfold big at hn; unfold lenMax at hx; omega)
  show LeF _ _ (z0K_m_l0 n (z0K_m_w0 n k__) t6_0 (List.length (t6_0) : Int) i__ s__)
  exact leCond (leBind fun v1 => (leBind fun v2 => (leCond (leSome rfl) leNone))) (leMap (leSome rfl))
def z0K_M (l : List Cnd) : Option (List Cnd × Unit) :=
  (bif decide (List.length (l) < lenMax) then loopL (fun i__ e__ s__ => z0K_b0 (l) i__ e__ s__) (fun s__ => z0K_f0 (l) s__) 0 (l) ([]) else none)
theorem z0K_run (l : List Cnd) (y : List Cnd × Unit) (h : z0K_M l = some y) : ∃ n, z0K_m n l = some y :=
  ⟨big, LeF.top (show LeF some (z0K_M l) (z0K_m big l) from (fun (n : Nat) (hn : big ≤ n) => show LeF some (z0K_M l) (z0K_m n l) from (leGuard fun hx => by apply z0K_m_w0_le n hn; exact hx)) big (Nat.le_refl _)) h⟩
def z0K_e : Entry := { f := 77, args := z0K_a, ress := z0K_r, m := fun x => z0K_M x.1 }
theorem z0K_ok : FnOK Tryz.prog z0K_e := fn_ok (g := z0K_g) (fn := Tryz.f77) hmixed tabOk (eCons z0l_ok eNil) (by kernel_rfl) (by kernel_rfl) (by kernel_rfl) (fun x y h => let ⟨n, hn⟩ := z0K_run x.1 y h; ⟨z0K_an n, iNil, (z0K_eq n x).trans hn⟩)
abbrev z01_a : Ty := .pair t96 (.pair t3 .unit)
abbrev z01_r : Ty := .pair t4 .unit
def z01_g : G := { T := T, E := [], muts := [], fz := [] }
def z01_k : List (List Nat) := []
def z01_an (n : Nat) : Ann := { keep := z01_k, fuel := n, inl := [], deep := 0 }
def z01_m (n : Nat) (x1 : Int × Int × Unit) (n1 : Int) : Option (Bool × Unit) :=
  (bif decide (x1.1 ≤ n1) then some (decide (n1 ≤ x1.2.1), ()) else some (Bool.false, ()))
theorem z01_eq (n : Nat) (x : z01_a.den) : runF z01_g (z01_an n) Tryz.f107 z01_a z01_r x = z01_m n x.1 x.2.1 := by kernel_rfl
def z01 (x1 : Int × Int × Unit) (n1 : Int) : (Bool × Unit) :=
  (bif decide (x1.1 ≤ n1) then (decide (n1 ≤ x1.2.1), ()) else (Bool.false, ()))
abbrev z01_M (x1 : Int × Int × Unit) (n1 : Int) : Option (Bool × Unit) := some (z01 x1 n1)
theorem z01_run (x1 : Int × Int × Unit) (n1 : Int) (y : Bool × Unit) (h : z01_M x1 n1 = some y) : ∃ n, z01_m n x1 n1 = some y :=
  ⟨0, by rw [← h]; show z01_m 0 x1 n1 = some (z01 x1 n1); unfold z01_m z01; first | rfl | (simp only [cond_some]; done) | (simp only [cond_some]; rfl)⟩
def z01_e : Entry := { f := 107, args := z01_a, ress := z01_r, m := fun x => z01_M x.1 x.2.1 }
theorem z01_ok : FnOK Tryz.prog z01_e := fn_ok (g := z01_g) (fn := Tryz.f107) hmixed tabOk eNil (by kernel_rfl) (by kernel_rfl) (by kernel_rfl) (fun x y h => let ⟨n, hn⟩ := z01_run x.1 x.2.1 y h; ⟨z01_an n, iNil, (z01_eq n x).trans hn⟩)
end
end Go.Tw
end
section
set_option linter.all false
set_option maxRecDepth 1000000
namespace Go.Tw
open Go.Vx Go.Vx.B Go.Proofs
noncomputable section
abbrev zQ_a : Ty := .pair t25 (.pair t97 (.pair t3 .unit))
abbrev zQ_r : Ty := .pair t3 .unit
def zQ_g : G := { T := T, E := [zW_e], muts := [], fz := [] }
def zQ_k : List (List Nat) := [[1, 2, 7]]
def zQ_an (n : Nat) : Ann := { keep := zQ_k, fuel := n, inl := [], deep := 0 }
def zQ_m_l0 (n : Nat) (r0 : List (Int × Int × Unit) → Int → Int → Option (Int × Unit)) (l1_0 : List (Int × Int × Unit)) (most2_0 : Int) (i7_0 : Int) : Option (Int × Unit) :=
  (bif decide (i7_0 < (↑l1_0.length : Int)) then (Option.bind (idx l1_0 i7_0) fun (v1 : Int × Int × Unit) => (Option.bind (zW_M v1 (0 : Int) most2_0) fun (v2 : Int × Unit) => (bif v2.1 != (0 : Int) then some (v2.1, ()) else r0 l1_0 most2_0 (IntKind.i64.wrap (i7_0 + (1 : Int)))))) else some ((0 : Int), ()))
def zQ_m_w0 (n : Nat)  (k : Nat) (l1_0 : List (Int × Int × Unit)) (most2_0 : Int) (i7_0 : Int) : Option (Int × Unit) :=
  iter (fun r y => zQ_m_l0 n (fun l1_0 most2_0 i7_0 => r ((l1_0, (most2_0, (i7_0, ()))), ((), ()))) y.1.1 y.1.2.1 y.1.2.2.1) k ((l1_0, (most2_0, (i7_0, ()))), ((), ()))
def zQ_m (n : Nat) (b : Bas) (l : List (Int × Int × Unit)) (most : Int) : Option (Int × Unit) :=
  (bif (↑l.length : Int) != (↑b.1.length : Int) then some ((2 : Int), ()) else (zQ_m_w0 n n (l) (most) ((0 : Int))))
theorem zQ_eq (n : Nat) (x : zQ_a.den) : runF zQ_g (zQ_an n) Tryz.f156 zQ_a zQ_r x = zQ_m n x.1 x.2.1 x.2.2.1 := by kernel_rfl
def zQ_b0 (l1_0 : List (Int × Int × Unit)) (most2_0 : Int) (i7_0 : Int) (v1 : Int × Int × Unit) : Option ((Int × Unit) ⊕ Unit) :=
  (Option.bind (zW_M v1 (0 : Int) most2_0) fun (v2 : Int × Unit) => (bif v2.1 != (0 : Int) then (some (Sum.inl ((v2.1, ())))) else (some (Sum.inr ()))))
def zQ_f0 (l1_0 : List (Int × Int × Unit)) (most2_0 : Int) : Option (Int × Unit) :=
  (some (((0 : Int), ())))
theorem zQ_m_w0_le (n : Nat) (hn : big ≤ n)  (l1_0 : List (Int × Int × Unit)) (most2_0 : Int) (hx : List.length (l1_0) < lenMax) : LeF some (loopL (fun i__ e__ s__ => zQ_b0 l1_0 most2_0 i__ e__) (fun s__ => zQ_f0 l1_0 most2_0) 0 (l1_0) ()) (zQ_m_w0 n n l1_0 most2_0 0) := by
  refine loopL_le (f := some) (W := fun k__ i__ s__ => zQ_m_w0 n k__ l1_0 most2_0 i__) (body := (fun i__ e__ s__ => zQ_b0 l1_0 most2_0 i__ e__)) (fin := (fun s__ => zQ_f0 l1_0 most2_0)) (fun k__ i__ s__ => ?_) hx () n (by unfold big at hn; unfold lenMax at hx; omega)
  show LeF _ _ (zQ_m_l0 n (zQ_m_w0 n k__) l1_0 most2_0 i__)
  exact leCond (leBind fun v1 => (leBind fun v2 => (leCond (leSome rfl) (leSome rfl)))) (leMap (leSome rfl))
def zQ_M (b : Bas) (l : List (Int × Int × Unit)) (most : Int) : Option (Int × Unit) :=
  (bif (↑l.length : Int) != (↑b.1.length : Int) then (some (((2 : Int), ()))) else (bif decide (List.length (l) < lenMax) then loopL (fun i__ e__ s__ => zQ_b0 (l) (most) i__ e__) (fun s__ => zQ_f0 (l) (most)) 0 (l) () else none))
theorem zQ_run (b : Bas) (l : List (Int × Int × Unit)) (most : Int) (y : Int × Unit) (h : zQ_M b l most = some y) : ∃ n, zQ_m n b l most = some y :=
  ⟨big, LeF.top (show LeF some (zQ_M b l most) (zQ_m big b l most) from (fun (n : Nat) (hn : big ≤ n) => show LeF some (zQ_M b l most) (zQ_m n b l most) from (leCond (leSome rfl) (leGuard fun hx => by apply zQ_m_w0_le n hn; exact hx))) big (Nat.le_refl _)) h⟩
def zQ_e : Entry := { f := 156, args := zQ_a, ress := zQ_r, m := fun x => zQ_M x.1 x.2.1 x.2.2.1 }
theorem zQ_ok : FnOK Tryz.prog zQ_e := fn_ok (g := zQ_g) (fn := Tryz.f156) hmixed tabOk (eCons zW_ok eNil) (by kernel_rfl) (by kernel_rfl) (by kernel_rfl) (fun x y h => let ⟨n, hn⟩ := zQ_run x.1 x.2.1 x.2.2.1 y h; ⟨zQ_an n, iNil, (zQ_eq n x).trans hn⟩)
abbrev zE_a : Ty := .pair t56 (.pair t181 .unit)
abbrev zE_r : Ty := .pair t4 .unit
def zE_g : G := { T := T, E := [zK_e], muts := [], fz := [] }
def zE_k : List (List Nat) := []
def zE_an (n : Nat) : Ann := { keep := zE_k, fuel := n, inl := [], deep := 0 }
def zE_m (n : Nat) (s : List (List Int)) (f : List Int × Unit → Option (Bool × Unit)) : Option (Bool × Unit) :=
  (Option.bind (zK_M s f) fun (v0 : Int × Unit) => some (decide (v0.1 ≥ (0 : Int)), ()))
theorem zE_eq (n : Nat) (x : zE_a.den) : runF zE_g (zE_an n) Tryz.f168 zE_a zE_r x = zE_m n x.1 x.2.1 := by kernel_rfl
def zE_M (s : List (List Int)) (f : List Int × Unit → Option (Bool × Unit)) : Option (Bool × Unit) := zE_m 0 s f
theorem zE_run (s : List (List Int)) (f : List Int × Unit → Option (Bool × Unit)) (y : Bool × Unit) (h : zE_M s f = some y) : ∃ n, zE_m n s f = some y := ⟨0, h⟩
def zE_e : Entry := { f := 168, args := zE_a, ress := zE_r, m := fun x => zE_M x.1 x.2.1 }
theorem zE_ok : FnOK Tryz.prog zE_e := fn_ok (g := zE_g) (fn := Tryz.f168) hmixed tabOk (eCons zK_ok eNil) (by kernel_rfl) (by kernel_rfl) (by kernel_rfl) (fun x y h => let ⟨n, hn⟩ := zE_run x.1 x.2.1 y h; ⟨zE_an n, iNil, (zE_eq n x).trans hn⟩)
abbrev z0H_a : Ty := .pair t41 (.pair t104 (.pair t44 .unit))
abbrev z0H_r : Ty := .pair t4 (.pair t35 .unit)
def z0H_g : G := { T := T, E := [zk_e, zF_e, z0W_e, z01_e], muts := [], fz := [] }
def z0H_k : List (List Nat) := [[5, 9, 10, 38, 39, 40, 47, 48, 49, 50, 51, 52, 53, 54]]
def z0H_an (n : Nat) : Ann := { keep := z0H_k, fuel := n, inl := [], deep := 0 }
def z0H_m_l6 (n : Nat) (r6 : Cnd → Bool → List (Int × Int × Unit) → Int → Int → Option (Bool × Int × Unit)) (c5_6 : Cnd) (is10_6 : Bool) (t38_6 : List (Int × Int × Unit)) (t39_6 : Int) (t40_6 : Int) : Option (Bool × Int × Unit) :=
  (bif decide (t40_6 < t39_6) then (Option.bind (idx t38_6 t40_6) fun (v7 : Int × Int × Unit) => (bif is10_6 then (Option.bind (idx c5_6.2.2.1 t40_6) fun (v8 : Int) => r6 c5_6 (z01 (v7.1, v7.2.1, ()) v8).1 t38_6 t39_6 (IntKind.i64.wrap (t40_6 + (1 : Int)))) else r6 c5_6 Bool.false t38_6 t39_6 (IntKind.i64.wrap (t40_6 + (1 : Int))))) else some (is10_6, (0 : Int), ()))
def z0H_m_w6 (n : Nat)  (k : Nat) (c5_6 : Cnd) (is10_6 : Bool) (t38_6 : List (Int × Int × Unit)) (t39_6 : Int) (t40_6 : Int) : Option (Bool × Int × Unit) :=
  iter (fun r y => z0H_m_l6 n (fun c5_6 is10_6 t38_6 t39_6 t40_6 => r ((c5_6, ((), (is10_6, (t38_6, (t39_6, (t40_6, ())))))), ((), ()))) y.1.1 y.1.2.2.1 y.1.2.2.2.1 y.1.2.2.2.2.1 y.1.2.2.2.2.2.1) k ((c5_6, ((), (is10_6, (t38_6, (t39_6, (t40_6, ())))))), ((), ()))
def z0H_m_j12 (n : Nat) (r1 : Rng) (c : Cnd) (j3 : Bool) : Option (Bool × Int × Unit) :=
  (z0H_m_w6 n n (c) (j3) (r1.2.2.1) ((↑r1.2.2.1.length : Int)) ((0 : Int)))
def z0H_m (n : Nat) (b : Bas) (r1 : Rng) (c : Cnd) : Option (Bool × Int × Unit) :=
  (Option.bind (zk_M b r1) fun (v0 : Int × Unit) => (Option.bind (zF_M b c) fun (v1 : Int × Unit) => (Option.bind (z0W_M [v0.1, v1.1]) fun (v2 : Int × Unit) => (bif v2.1 != (0 : Int) then some (Bool.false, v2.1, ()) else (bif r1.2.1 == c.2.1 then (z0H_m_j12 n r1 c ((z01 r1.1 c.1).1)) else (z0H_m_j12 n r1 c (Bool.false)))))))
theorem z0H_eq (n : Nat) (x : z0H_a.den) : runF z0H_g (z0H_an n) Tryz.f53 z0H_a z0H_r x = z0H_m n x.1 x.2.1 x.2.2.1 := by kernel_rfl
def z0H_b6 (c5_6 : Cnd) (t38_6 : List (Int × Int × Unit)) (t40_6 : Int) (v7 : Int × Int × Unit) (is10_6 : Bool) : Option ((Bool × Int × Unit) ⊕ (Bool)) :=
  (bif is10_6 then (Option.bind (idx c5_6.2.2.1 t40_6) fun (v8 : Int) => (some (Sum.inr ((z01 (v7.1, v7.2.1, ()) v8).1)))) else (some (Sum.inr (Bool.false))))
def z0H_f6 (c5_6 : Cnd) (t38_6 : List (Int × Int × Unit)) (is10_6 : Bool) : Option (Bool × Int × Unit) :=
  (some ((is10_6, (0 : Int), ())))
theorem z0H_m_w6_le (n : Nat) (hn : big ≤ n)  (c5_6 : Cnd) (t38_6 : List (Int × Int × Unit)) (is10_6 : Bool) (hx : List.length (t38_6) < lenMax) : LeF some (loopL (fun i__ e__ s__ => z0H_b6 c5_6 t38_6 i__ e__ s__) (fun s__ => z0H_f6 c5_6 t38_6 s__) 0 (t38_6) is10_6) (z0H_m_w6 n n c5_6 is10_6 t38_6 (List.length (t38_6) : Int) 0) := by
  refine loopL_le (f := some) (W := fun k__ i__ s__ => z0H_m_w6 n k__ c5_6 s__ t38_6 (List.length (t38_6) : Int) i__) (body := (fun i__ e__ s__ => z0H_b6 c5_6 t38_6 i__ e__ s__)) (fin := (fun s__ => z0H_f6 c5_6 t38_6 s__)) (fun k__ i__ s__ => ?_) hx is10_6 n (by unfold big at hn; unfold lenMax at hx; omega)
  show LeF _ _ (z0H_m_l6 n (z0H_m_w6 n k__) c5_6 s__ t38_6 (List.length (t38_6) : Int) i__)
  exact leCond (leBind fun v7 => (leCond (leBind fun v8 => (leSome rfl)) (leSome rfl))) (leMap (leSome rfl))
def z0H_s12 (r1 : Rng) (c : Cnd) (j3 : Bool) : Option (Bool × Int × Unit) :=
  (bif decide (List.length (r1.2.2.1) < lenMax) then loopL (fun i__ e__ s__ => z0H_b6 (c) (r1.2.2.1) i__ e__ s__) (fun s__ => z0H_f6 (c) (r1.2.2.1) s__) 0 (r1.2.2.1) (j3) else none)
theorem basin_Within_s12_le (n : Nat) (hn : big ≤ n)  (r1 : Rng) (c : Cnd) (j3 : Bool) : LeF some (z0H_s12 r1 c j3) (z0H_m_j12 n r1 c j3) :=
  (leGuard fun hx => by apply z0H_m_w6_le n hn; exact hx)
def z0H_M (b : Bas) (r1 : Rng) (c : Cnd) : Option (Bool × Int × Unit) :=
  (Option.bind (zk_M b r1) fun (v0 : Int × Unit) => (Option.bind (zF_M b c) fun (v1 : Int × Unit) => (Option.bind (z0W_M [v0.1, v1.1]) fun (v2 : Int × Unit) => (bif v2.1 != (0 : Int) then (some ((Bool.false, v2.1, ()))) else (bif r1.2.1 == c.2.1 then (z0H_s12 r1 c ((z01 r1.1 c.1).1)) else (z0H_s12 r1 c (Bool.false)))))))
theorem z0H_run (b : Bas) (r1 : Rng) (c : Cnd) (y : Bool × Int × Unit) (h : z0H_M b r1 c = some y) : ∃ n, z0H_m n b r1 c = some y :=
  ⟨big, LeF.top (show LeF some (z0H_M b r1 c) (z0H_m big b r1 c) from (fun (n : Nat) (hn : big ≤ n) => show LeF some (z0H_M b r1 c) (z0H_m n b r1 c) from (leBind fun v0 => (leBind fun v1 => (leBind fun v2 => (leCond (leSome rfl) (leCond (by apply basin_Within_s12_le n hn) (by apply basin_Within_s12_le n hn))))))) big (Nat.le_refl _)) h⟩
def z0H_e : Entry := { f := 53, args := z0H_a, ress := z0H_r, m := fun x => z0H_M x.1 x.2.1 x.2.2.1 }
theorem z0H_ok : FnOK Tryz.prog z0H_e := fn_ok (g := z0H_g) (fn := Tryz.f53) hmixed tabOk (eCons zk_ok (eCons zF_ok (eCons z0W_ok (eCons z01_ok eNil)))) (by kernel_rfl) (by kernel_rfl) (by kernel_rfl) (fun x y h => let ⟨n, hn⟩ := z0H_run x.1 x.2.1 x.2.2.1 y h; ⟨z0H_an n, iNil, (z0H_eq n x).trans hn⟩)
abbrev z0r_a : Ty := .pair t99 .unit
abbrev z0r_r : Ty := .pair t104 .unit
def z0r_g : G := { T := T, E := [zy_e], muts := [], fz := [] }
def z0r_k : List (List Nat) := []
def z0r_an (n : Nat) : Ann := { keep := z0r_k, fuel := n, inl := [], deep := 0 }
def z0r_m (n : Nat) (r1 : Rng) : Option (Rng × Unit) :=
  (Option.bind (zy_M r1.2.2.1) fun (v0 : List (Int × Int × Unit) × Unit) => some (((r1.1.1, r1.1.2.1, ()), r1.2.1, v0.1, ()), ()))
theorem z0r_eq (n : Nat) (x : z0r_a.den) : runF z0r_g (z0r_an n) Tryz.f54 z0r_a z0r_r x = z0r_m n x.1 := by kernel_rfl
def z0r_M (r1 : Rng) : Option (Rng × Unit) := z0r_m 0 r1
theorem z0r_run (r1 : Rng) (y : Rng × Unit) (h : z0r_M r1 = some y) : ∃ n, z0r_m n r1 = some y := ⟨0, h⟩
def z0r_e : Entry := { f := 54, args := z0r_a, ress := z0r_r, m := fun x => z0r_M x.1 }
theorem z0r_ok : FnOK Tryz.prog z0r_e := fn_ok (g := z0r_g) (fn := Tryz.f54) hmixed tabOk (eCons zy_ok eNil) (by kernel_rfl) (by kernel_rfl) (by kernel_rfl) (fun x y h => let ⟨n, hn⟩ := z0r_run x.1 y h; ⟨z0r_an n, iNil, (z0r_eq n x).trans hn⟩)
end
end Go.Tw
end
section
set_option linter.all false
set_option maxRecDepth 1000000
namespace Go.Tw
open Go.Vx Go.Vx.B Go.Proofs
noncomputable section
abbrev z0L_a : Ty := .pair t101 .unit
abbrev z0L_r : Ty := .pair t108 .unit
def z0L_g : G := { T := T, E := [z0r_e], muts := [3], fz := [] }
def z0L_k : List (List Nat) := [[3, 6, 7, 8]]
def z0L_an (n : Nat) : Ann := { keep := z0L_k, fuel := n, inl := [], deep := 0 }
def z0L_m_l0 (n : Nat) (r0 : List Rng → Int → Int → List Rng → Option (List Rng × Unit)) (t6_0 : List Rng) (t7_0 : Int) (t8_0 : Int) (c0_0 : List Rng) : Option (List Rng × Unit) :=
  (bif decide (t8_0 < t7_0) then (Option.bind (idx t6_0 t8_0) fun (v1 : Rng) => (Option.bind (z0r_M ((v1.1.1, v1.1.2.1, ()), v1.2.1, v1.2.2.1, ())) fun (v2 : Rng × Unit) => (bif decide (c0_0.length + (1 : Nat) ≤ memMax) then r0 t6_0 t7_0 (IntKind.i64.wrap (t8_0 + (1 : Int))) (c0_0 ++ [v2.1]) else none))) else some (c0_0, ()))
def z0L_m_w0 (n : Nat)  (k : Nat) (t6_0 : List Rng) (t7_0 : Int) (t8_0 : Int) (c0_0 : List Rng) : Option (List Rng × Unit) :=
  iter (fun r y => z0L_m_l0 n (fun t6_0 t7_0 t8_0 c0_0 => r ((t6_0, (t7_0, (t8_0, ()))), ((c0_0, ()), ()))) y.1.1 y.1.2.1 y.1.2.2.1 y.2.1.1) k ((t6_0, (t7_0, (t8_0, ()))), ((c0_0, ()), ()))
def z0L_m (n : Nat) (l : List Rng) : Option (List Rng × Unit) :=
  (z0L_m_w0 n n (l) ((↑l.length : Int)) ((0 : Int)) ([]))
theorem z0L_eq (n : Nat) (x : z0L_a.den) : runF z0L_g (z0L_an n) Tryz.f56 z0L_a z0L_r x = z0L_m n x.1 := by kernel_rfl
def z0L_b0 (t6_0 : List Rng) (t8_0 : Int) (v1 : Rng) (c0_0 : List Rng) : Option ((List Rng × Unit) ⊕ (List Rng)) :=
  (Option.bind (z0r_M ((v1.1.1, v1.1.2.1, ()), v1.2.1, v1.2.2.1, ())) fun (v2 : Rng × Unit) => (bif decide (c0_0.length + (1 : Nat) ≤ memMax) then (some (Sum.inr (c0_0 ++ [v2.1]))) else none))
def z0L_f0 (t6_0 : List Rng) (c0_0 : List Rng) : Option (List Rng × Unit) :=
  (some ((c0_0, ())))
theorem z0L_m_w0_le (n : Nat) (hn : big ≤ n)  (t6_0 : List Rng) (c0_0 : List Rng) (hx : List.length (t6_0) < lenMax) : LeF some (loopL (fun i__ e__ s__ => z0L_b0 t6_0 i__ e__ s__) (fun s__ => z0L_f0 t6_0 s__) 0 (t6_0) c0_0) (z0L_m_w0 n n t6_0 (List.length (t6_0) : Int) 0 c0_0) := by
  refine loopL_le (f := some) (W := fun k__ i__ s__ => z0L_m_w0 n k__ t6_0 (List.length (t6_0) : Int) i__ s__) (body := (fun i__ e__ s__ => z0L_b0 t6_0 i__ e__ s__)) (fin := (fun s__ => z0L_f0 t6_0 s__)) (fun k__ i__ s__ => ?_) hx c0_0 n (by unfold big at hn; unfold lenMax at hx; omega)
  show LeF _ _ (z0L_m_l0 n (z0L_m_w0 n k__) t6_0 (List.length (t6_0) : Int) i__ s__)
  exact leCond (leBind fun v1 => (leBind fun v2 => (leCond (leSome rfl) leNone))) (leMap (leSome rfl))
def z0L_M (l : List Rng) : Option (List Rng × Unit) :=
  (bif decide (List.length (l) < lenMax) then loopL (fun i__ e__ s__ => z0L_b0 (l) i__ e__ s__) (fun s__ => z0L_f0 (l) s__) 0 (l) ([]) else none)
theorem z0L_run (l : List Rng) (y : List Rng × Unit) (h : z0L_M l = some y) : ∃ n, z0L_m n l = some y :=
  ⟨big, LeF.top (show LeF some (z0L_M l) (z0L_m big l) from (fun (n : Nat) (hn : big ≤ n) => show LeF some (z0L_M l) (z0L_m n l) from (leGuard fun hx => by apply z0L_m_w0_le n hn; exact hx)) big (Nat.le_refl _)) h⟩
def z0L_e : Entry := { f := 56, args := z0L_a, ress := z0L_r, m := fun x => z0L_M x.1 }
theorem z0L_ok : FnOK Tryz.prog z0L_e := fn_ok (g := z0L_g) (fn := Tryz.f56) hmixed tabOk (eCons z0r_ok eNil) (by kernel_rfl) (by kernel_rfl) (by kernel_rfl) (fun x y h => let ⟨n, hn⟩ := z0L_run x.1 y h; ⟨z0L_an n, iNil, (z0L_eq n x).trans hn⟩)
abbrev zz_a : Ty := .pair t25 (.pair t99 .unit)
abbrev zz_r : Ty := .pair t3 .unit
def zz_g : G := { T := T, E := [zW_e, zQ_e, z0b_e], muts := [], fz := [] }
def zz_k : List (List Nat) := []
def zz_an (n : Nat) : Ann := { keep := zz_k, fuel := n, inl := [], deep := 0 }
def zz_m (n : Nat) (b : Bas) (r1 : Rng) : Option (Int × Unit) :=
  (Option.bind (zW_M r1.1 (-1024 : Int) (1024 : Int)) fun (v0 : Int × Unit) => (Option.bind (zQ_M b r1.2.2.1 (100000 : Int)) fun (v1 : Int × Unit) => (Option.bind (z0b_M [v0.1, v1.1]) fun (v2 : Int × Unit) => some (v2.1, ()))))
theorem zz_eq (n : Nat) (x : zz_a.den) : runF zz_g (zz_an n) Tryz.f112 zz_a zz_r x = zz_m n x.1 x.2.1 := by kernel_rfl
def zz_M (b : Bas) (r1 : Rng) : Option (Int × Unit) := zz_m 0 b r1
theorem zz_run (b : Bas) (r1 : Rng) (y : Int × Unit) (h : zz_M b r1 = some y) : ∃ n, zz_m n b r1 = some y := ⟨0, h⟩
def zz_e : Entry := { f := 112, args := zz_a, ress := zz_r, m := fun x => zz_M x.1 x.2.1 }
theorem zz_ok : FnOK Tryz.prog zz_e := fn_ok (g := zz_g) (fn := Tryz.f112) hmixed tabOk (eCons zW_ok (eCons zQ_ok (eCons z0b_ok eNil))) (by kernel_rfl) (by kernel_rfl) (by kernel_rfl) (fun x y h => let ⟨n, hn⟩ := zz_run x.1 x.2.1 y h; ⟨zz_an n, iNil, (zz_eq n x).trans hn⟩)
abbrev zh_a : Ty := .pair t41 (.pair t97 (.pair t108 .unit))
abbrev zh_r : Ty := .pair t4 (.pair t35 .unit)
def zh_g : G := { T := T, E := [z0q_e, z6_e, zc_e, zu_e, zY_e, z0B_e, zE_e], muts := [], fz := [] }
def zh_k : List (List Nat) := []
def zh_an (n : Nat) : Ann := { keep := zh_k, fuel := n, inl := [], deep := 0 }
def zh_m (n : Nat) (b : Bas) (v : List (Int × Int × Unit)) (l : List Rng) : Option (Bool × Int × Unit) :=
  (Option.bind (z0q_M v (1 : Int)) fun (v0 : List Int × Unit) => (Option.bind (z6_M l fun (x : Rng × Unit) => zc_M x.1) fun (v1 : List Cnd × Unit) => (Option.bind (zu_M b v0.1 v1.1) fun (v2 : List Psg × Int × Unit) => (bif v2.2.1 != (0 : Int) then some (Bool.false, v2.2.1, ()) else (Option.bind (z0B_M v2.1) fun (v3 : List (List Int) × Unit) => (Option.bind (zE_M v3.1 fun (x : List Int × Unit) => zY_M x.1 b) fun (v4 : Bool × Unit) => some (!v4.1, (0 : Int), ())))))))
theorem zh_eq (n : Nat) (x : zh_a.den) : runF zh_g (zh_an n) Tryz.f120 zh_a zh_r x = zh_m n x.1 x.2.1 x.2.2.1 := by kernel_rfl
def zh_M (b : Bas) (v : List (Int × Int × Unit)) (l : List Rng) : Option (Bool × Int × Unit) := zh_m 0 b v l
theorem zh_run (b : Bas) (v : List (Int × Int × Unit)) (l : List Rng) (y : Bool × Int × Unit) (h : zh_M b v l = some y) : ∃ n, zh_m n b v l = some y := ⟨0, h⟩
def zh_e : Entry := { f := 120, args := zh_a, ress := zh_r, m := fun x => zh_M x.1 x.2.1 x.2.2.1 }
theorem zh_ok : FnOK Tryz.prog zh_e := fn_ok (g := zh_g) (fn := Tryz.f120) hmixed tabOk (eCons z0q_ok (eCons z6_ok (eCons zc_ok (eCons zu_ok (eCons zY_ok (eCons z0B_ok (eCons zE_ok eNil))))))) (by kernel_rfl) (by kernel_rfl) (by kernel_rfl) (fun x y h => let ⟨n, hn⟩ := zh_run x.1 x.2.1 x.2.2.1 y h; ⟨zh_an n, iNil, (zh_eq n x).trans hn⟩)
end
end Go.Tw
end
section
set_option linter.all false
set_option maxRecDepth 1000000
namespace Go.Tw
open Go.Vx Go.Vx.B Go.Proofs
noncomputable section
abbrev z0i_a : Ty := .pair t41 (.pair t97 (.pair t108 .unit))
abbrev z0i_r : Ty := .pair t4 (.pair t35 .unit)
def z0i_g : G := { T := T, E := [zR_e, zh_e], muts := [], fz := [] }
def z0i_k : List (List Nat) := []
def z0i_an (n : Nat) : Ann := { keep := z0i_k, fuel := n, inl := [], deep := 0 }
def z0i_m (n : Nat) (b : Bas) (v : List (Int × Int × Unit)) (l : List Rng) : Option (Bool × Int × Unit) :=
  (Option.bind (zR_M b v l) fun (v0 : Int × Unit) => (bif v0.1 != (0 : Int) then some (Bool.false, v0.1, ()) else (Option.bind (zh_M b v l) fun (v1 : Bool × Int × Unit) => some (v1.1, v1.2.1, ()))))
theorem z0i_eq (n : Nat) (x : z0i_a.den) : runF z0i_g (z0i_an n) Tryz.f68 z0i_a z0i_r x = z0i_m n x.1 x.2.1 x.2.2.1 := by kernel_rfl
def z0i_M (b : Bas) (v : List (Int × Int × Unit)) (l : List Rng) : Option (Bool × Int × Unit) := z0i_m 0 b v l
theorem z0i_run (b : Bas) (v : List (Int × Int × Unit)) (l : List Rng) (y : Bool × Int × Unit) (h : z0i_M b v l = some y) : ∃ n, z0i_m n b v l = some y := ⟨0, h⟩
def z0i_e : Entry := { f := 68, args := z0i_a, ress := z0i_r, m := fun x => z0i_M x.1 x.2.1 x.2.2.1 }
theorem z0i_ok : FnOK Tryz.prog z0i_e := fn_ok (g := z0i_g) (fn := Tryz.f68) hmixed tabOk (eCons zR_ok (eCons zh_ok eNil)) (by kernel_rfl) (by kernel_rfl) (by kernel_rfl) (fun x y h => let ⟨n, hn⟩ := z0i_run x.1 x.2.1 x.2.2.1 y h; ⟨z0i_an n, iNil, (z0i_eq n x).trans hn⟩)
abbrev zt_a : Ty := .pair t25 (.pair t101 .unit)
abbrev zt_r : Ty := .pair t3 .unit
def zt_g : G := { T := T, E := [zz_e], muts := [], fz := [] }
def zt_k : List (List Nat) := [[1, 2, 5]]
def zt_an (n : Nat) : Ann := { keep := zt_k, fuel := n, inl := [], deep := 0 }
def zt_m_l0 (n : Nat) (r0 : List Rng → Bas → Int → Option (Int × Unit)) (l1_0 : List Rng) (b2_0 : Bas) (i5_0 : Int) : Option (Int × Unit) :=
  (bif decide (i5_0 < (↑l1_0.length : Int)) then (Option.bind (idx l1_0 i5_0) fun (v1 : Rng) => (Option.bind (zz_M b2_0 v1) fun (v2 : Int × Unit) => (bif v2.1 != (0 : Int) then some (v2.1, ()) else r0 l1_0 b2_0 (IntKind.i64.wrap (i5_0 + (1 : Int)))))) else some ((0 : Int), ()))
def zt_m_w0 (n : Nat)  (k : Nat) (l1_0 : List Rng) (b2_0 : Bas) (i5_0 : Int) : Option (Int × Unit) :=
  iter (fun r y => zt_m_l0 n (fun l1_0 b2_0 i5_0 => r ((l1_0, (b2_0, (i5_0, ()))), ((), ()))) y.1.1 y.1.2.1 y.1.2.2.1) k ((l1_0, (b2_0, (i5_0, ()))), ((), ()))
def zt_m (n : Nat) (b : Bas) (l : List Rng) : Option (Int × Unit) :=
  (bif decide ((↑l.length : Int) > (96 : Int)) then some ((5 : Int), ()) else (zt_m_w0 n n (l) (b) ((0 : Int))))
theorem zt_eq (n : Nat) (x : zt_a.den) : runF zt_g (zt_an n) Tryz.f123 zt_a zt_r x = zt_m n x.1 x.2.1 := by kernel_rfl
def zt_b0 (l1_0 : List Rng) (b2_0 : Bas) (i5_0 : Int) (v1 : Rng) : Option ((Int × Unit) ⊕ Unit) :=
  (Option.bind (zz_M b2_0 v1) fun (v2 : Int × Unit) => (bif v2.1 != (0 : Int) then (some (Sum.inl ((v2.1, ())))) else (some (Sum.inr ()))))
def zt_f0 (l1_0 : List Rng) (b2_0 : Bas) : Option (Int × Unit) :=
  (some (((0 : Int), ())))
theorem zt_m_w0_le (n : Nat) (hn : big ≤ n)  (l1_0 : List Rng) (b2_0 : Bas) (hx : List.length (l1_0) < lenMax) : LeF some (loopL (fun i__ e__ s__ => zt_b0 l1_0 b2_0 i__ e__) (fun s__ => zt_f0 l1_0 b2_0) 0 (l1_0) ()) (zt_m_w0 n n l1_0 b2_0 0) := by
  refine loopL_le (f := some) (W := fun k__ i__ s__ => zt_m_w0 n k__ l1_0 b2_0 i__) (body := (fun i__ e__ s__ => zt_b0 l1_0 b2_0 i__ e__)) (fin := (fun s__ => zt_f0 l1_0 b2_0)) (fun k__ i__ s__ => ?_) hx () n (by unfold big at hn; unfold lenMax at hx; omega)
  show LeF _ _ (zt_m_l0 n (zt_m_w0 n k__) l1_0 b2_0 i__)
  exact leCond (leBind fun v1 => (leBind fun v2 => (leCond (leSome rfl) (leSome rfl)))) (leMap (leSome rfl))
def zt_M (b : Bas) (l : List Rng) : Option (Int × Unit) :=
  (bif decide ((↑l.length : Int) > (96 : Int)) then (some (((5 : Int), ()))) else (bif decide (List.length (l) < lenMax) then loopL (fun i__ e__ s__ => zt_b0 (l) (b) i__ e__) (fun s__ => zt_f0 (l) (b)) 0 (l) () else none))
theorem zt_run (b : Bas) (l : List Rng) (y : Int × Unit) (h : zt_M b l = some y) : ∃ n, zt_m n b l = some y :=
  ⟨big, LeF.top (show LeF some (zt_M b l) (zt_m big b l) from (fun (n : Nat) (hn : big ≤ n) => show LeF some (zt_M b l) (zt_m n b l) from (leCond (leSome rfl) (leGuard fun hx => by apply zt_m_w0_le n hn; exact hx))) big (Nat.le_refl _)) h⟩
def zt_e : Entry := { f := 123, args := zt_a, ress := zt_r, m := fun x => zt_M x.1 x.2.1 }
theorem zt_ok : FnOK Tryz.prog zt_e := fn_ok (g := zt_g) (fn := Tryz.f123) hmixed tabOk (eCons zz_ok eNil) (by kernel_rfl) (by kernel_rfl) (by kernel_rfl) (fun x y h => let ⟨n, hn⟩ := zt_run x.1 x.2.1 y h; ⟨zt_an n, iNil, (zt_eq n x).trans hn⟩)
end
end Go.Tw
end
section
set_option linter.all false
set_option maxRecDepth 1000000
namespace Go.Tw
open Go.Vx Go.Vx.B Go.Proofs
noncomputable section
abbrev zg_a : Ty := .pair t25 (.pair t101 .unit)
abbrev zg_r : Ty := .pair t3 .unit
def zg_g : G := { T := T, E := [zq_e, zt_e], muts := [], fz := [] }
def zg_k : List (List Nat) := []
def zg_an (n : Nat) : Ann := { keep := zg_k, fuel := n, inl := [], deep := 0 }
def zg_m (n : Nat) (b : Bas) (l : List Rng) : Option (Int × Unit) :=
  (Option.bind (zq_M b) fun (v0 : Int × Unit) => (bif v0.1 != (0 : Int) then some (v0.1, ()) else (Option.bind (zt_M b l) fun (v1 : Int × Unit) => some (v1.1, ()))))
theorem zg_eq (n : Nat) (x : zg_a.den) : runF zg_g (zg_an n) Tryz.f75 zg_a zg_r x = zg_m n x.1 x.2.1 := by kernel_rfl
def zg_M (b : Bas) (l : List Rng) : Option (Int × Unit) := zg_m 0 b l
theorem zg_run (b : Bas) (l : List Rng) (y : Int × Unit) (h : zg_M b l = some y) : ∃ n, zg_m n b l = some y := ⟨0, h⟩
def zg_e : Entry := { f := 75, args := zg_a, ress := zg_r, m := fun x => zg_M x.1 x.2.1 }
theorem zg_ok : FnOK Tryz.prog zg_e := fn_ok (g := zg_g) (fn := Tryz.f75) hmixed tabOk (eCons zq_ok (eCons zt_ok eNil)) (by kernel_rfl) (by kernel_rfl) (by kernel_rfl) (fun x y h => let ⟨n, hn⟩ := zg_run x.1 x.2.1 y h; ⟨zg_an n, iNil, (zg_eq n x).trans hn⟩)
end
end Go.Tw
end
