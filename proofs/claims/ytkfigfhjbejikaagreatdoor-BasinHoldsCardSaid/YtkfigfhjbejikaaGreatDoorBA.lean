/- The seat's base: what the package-level variables hold, the check of the table of types, small tools.
Models of the program's functions, by program (gen.py), and what they compute.
Models of the program's functions, by program (gen.py), and what they compute. -/
import Derived.Test.YtkfigfhjbejikaaGreatDoorBT
import Derived.Test.YtkfigfhjbejikaaGreatDoorVD
import Derived.Test.YtkfigfhjbejikaaGreatDoorLP
import Derived.Test.YtkfigfhjbejikaaGreatDoorProg
import Derived.KernelRfl
section
set_option linter.all false
set_option maxRecDepth 1000000
namespace Go.Tw
open Go.Vx Go.Vx.B Go.Proofs
noncomputable section
abbrev Nod := List UInt8 × Int × Int × Unit
abbrev Lnk := List UInt8 × Int × Int × Int × Int × Unit
abbrev Bas := List Nod × List Lnk × Unit
abbrev Cnd := Int × Bool × List Int × Unit
abbrev Rng := (Int × Int × Unit) × Bool × List (Int × Int × Unit) × Unit
abbrev Psg := Cnd × List Int × Option (List Int) × Unit
instance theGT : GT := ⟨[(7, t315, [.int .u8 0, .int .u8 1, .int .u8 28, .int .u8 2, .int .u8 29, .int .u8 14, .int .u8 24, .int .u8 3, .int .u8 30, .int .u8 22, .int .u8 20, .int .u8 15, .int .u8 25, .int .u8 17, .int .u8 4, .int .u8 8, .int .u8 31, .int .u8 27, .int .u8 13, .int .u8 23, .int .u8 21, .int .u8 19, .int .u8 16, .int .u8 7, .int .u8 26, .int .u8 12, .int .u8 18, .int .u8 6, .int .u8 11, .int .u8 5, .int .u8 10, .int .u8 9]),
  (8, t316, [.int .u8 0, .int .u8 1, .int .u8 56, .int .u8 2, .int .u8 57, .int .u8 49, .int .u8 28, .int .u8 3, .int .u8 61, .int .u8 58, .int .u8 42, .int .u8 50, .int .u8 38, .int .u8 29, .int .u8 17, .int .u8 4, .int .u8 62, .int .u8 47, .int .u8 59, .int .u8 36, .int .u8 45, .int .u8 43, .int .u8 51, .int .u8 22, .int .u8 53, .int .u8 39, .int .u8 33, .int .u8 30, .int .u8 24, .int .u8 18, .int .u8 12, .int .u8 5, .int .u8 63, .int .u8 55, .int .u8 48, .int .u8 27, .int .u8 60, .int .u8 41, .int .u8 37, .int .u8 16, .int .u8 46, .int .u8 35, .int .u8 44, .int .u8 21, .int .u8 52, .int .u8 32, .int .u8 23, .int .u8 11, .int .u8 54, .int .u8 26, .int .u8 40, .int .u8 15, .int .u8 34, .int .u8 20, .int .u8 31, .int .u8 10, .int .u8 25, .int .u8 14, .int .u8 19, .int .u8 9, .int .u8 13, .int .u8 8, .int .u8 7, .int .u8 6]),
  (2, t290, [.int .u64 1, .int .u64 10, .int .u64 100, .int .u64 1000, .int .u64 10000, .int .u64 100000, .int .u64 1000000, .int .u64 10000000, .int .u64 100000000, .int .u64 1000000000, .int .u64 10000000000, .int .u64 100000000000, .int .u64 1000000000000, .int .u64 10000000000000, .int .u64 100000000000000, .int .u64 1000000000000000, .int .u64 10000000000000000, .int .u64 100000000000000000, .int .u64 1000000000000000000, .int .u64 10000000000000000000])]⟩
theorem hmixed : Tryz.prog.follows .mixedOrders = true := by kernel_rfl
theorem tabOk : TabOk Tryz.prog T := by unfold TabOk; kernel_rfl
theorem eNil {P : Program} : ∀ e ∈ ([] : List Entry), FnOK P e := fun e h => by cases h
theorem eCons {P : Program} {e : Entry} {l : List Entry} (h : FnOK P e) (hl : ∀ e ∈ l, FnOK P e) : ∀ f ∈ e :: l, FnOK P f := fun f hf => by
  rcases List.mem_cons.1 hf with rfl | hf
  · exact h
  · exact hl f hf
theorem iNil {P : Program} : ∀ e ∈ ([] : List Inl), InlOK P e := fun e h => by cases h
theorem iCons {P : Program} {e : Inl} {l : List Inl} (h : InlOK P e) (hl : ∀ e ∈ l, InlOK P e) : ∀ f ∈ e :: l, InlOK P f := fun f hf => by
  rcases List.mem_cons.1 hf with rfl | hf
  · exact h
  · exact hl f hf
theorem cond_some {α : Type} (c : Bool) (x y : α) : (bif c then some x else some y) = some (bif c then x else y) := by cases c <;> rfl
end
end Go.Tw
end
section
set_option linter.all false
set_option maxRecDepth 1000000
namespace Go.Tw
open Go.Vx Go.Vx.B Go.Proofs
noncomputable section
abbrev z0k_a : Ty := .pair t4 (.pair t35 .unit)
abbrev z0k_r : Ty := .pair t35 .unit
def z0k_g : G := { T := T, E := [], muts := [], fz := [] }
def z0k_k : List (List Nat) := []
def z0k_an (n : Nat) : Ann := { keep := z0k_k, fuel := n, inl := [], deep := 0 }
def z0k_m (n : Nat) (holds : Bool) (e : Int) : Option (Int × Unit) :=
  (bif holds then some (e, ()) else some ((0 : Int), ()))
theorem z0k_eq (n : Nat) (x : z0k_a.den) : runF z0k_g (z0k_an n) Tryz.f89 z0k_a z0k_r x = z0k_m n x.1 x.2.1 := by kernel_rfl
def z0k (holds : Bool) (e : Int) : (Int × Unit) :=
  (bif holds then (e, ()) else ((0 : Int), ()))
abbrev z0k_M (holds : Bool) (e : Int) : Option (Int × Unit) := some (z0k holds e)
theorem z0k_run (holds : Bool) (e : Int) (y : Int × Unit) (h : z0k_M holds e = some y) : ∃ n, z0k_m n holds e = some y :=
  ⟨0, by rw [← h]; show z0k_m 0 holds e = some (z0k holds e); unfold z0k_m z0k; first | rfl | (simp only [cond_some]; done) | (simp only [cond_some]; rfl)⟩
def z0k_e : Entry := { f := 89, args := z0k_a, ress := z0k_r, m := fun x => z0k_M x.1 x.2.1 }
theorem z0k_ok : FnOK Tryz.prog z0k_e := fn_ok (g := z0k_g) (fn := Tryz.f89) hmixed tabOk eNil (by kernel_rfl) (by kernel_rfl) (by kernel_rfl) (fun x y h => let ⟨n, hn⟩ := z0k_run x.1 x.2.1 y h; ⟨z0k_an n, iNil, (z0k_eq n x).trans hn⟩)
abbrev z0W_a : Ty := .pair t174 .unit
abbrev z0W_r : Ty := .pair t35 .unit
def z0W_g : G := { T := T, E := [], muts := [], fz := [] }
def z0W_k : List (List Nat) := [[5, 6, 7]]
def z0W_an (n : Nat) : Ann := { keep := z0W_k, fuel := n, inl := [], deep := 0 }
def z0W_m_l0 (n : Nat) (r0 : List Int → Int → Int → Option (Int × Unit)) (t5_0 : List Int) (t6_0 : Int) (t7_0 : Int) : Option (Int × Unit) :=
  (bif decide (t7_0 < t6_0) then (Option.bind (idx t5_0 t7_0) fun (v1 : Int) => (bif v1 != (0 : Int) then some (v1, ()) else r0 t5_0 t6_0 (IntKind.i64.wrap (t7_0 + (1 : Int))))) else some ((0 : Int), ()))
def z0W_m_w0 (n : Nat)  (k : Nat) (t5_0 : List Int) (t6_0 : Int) (t7_0 : Int) : Option (Int × Unit) :=
  iter (fun r y => z0W_m_l0 n (fun t5_0 t6_0 t7_0 => r ((t5_0, (t6_0, (t7_0, ()))), ((), ()))) y.1.1 y.1.2.1 y.1.2.2.1) k ((t5_0, (t6_0, (t7_0, ()))), ((), ()))
def z0W_m (n : Nat) (l : List Int) : Option (Int × Unit) :=
  (z0W_m_w0 n n (l) ((↑l.length : Int)) ((0 : Int)))
theorem z0W_eq (n : Nat) (x : z0W_a.den) : runF z0W_g (z0W_an n) Tryz.f87 z0W_a z0W_r x = z0W_m n x.1 := by kernel_rfl
def z0W_b0 (t5_0 : List Int) (t7_0 : Int) (v1 : Int) : Option ((Int × Unit) ⊕ Unit) :=
  (bif v1 != (0 : Int) then (some (Sum.inl ((v1, ())))) else (some (Sum.inr ())))
def z0W_f0 (t5_0 : List Int) : Option (Int × Unit) :=
  (some (((0 : Int), ())))
theorem z0W_m_w0_le (n : Nat) (hn : big ≤ n)  (t5_0 : List Int) (hx : List.length (t5_0) < lenMax) : LeF some (loopL (fun i__ e__ s__ => z0W_b0 t5_0 i__ e__) (fun s__ => z0W_f0 t5_0) 0 (t5_0) ()) (z0W_m_w0 n n t5_0 (List.length (t5_0) : Int) 0) := by
  refine loopL_le (f := some) (W := fun k__ i__ s__ => z0W_m_w0 n k__ t5_0 (List.length (t5_0) : Int) i__) (body := (fun i__ e__ s__ => z0W_b0 t5_0 i__ e__)) (fin := (fun s__ => z0W_f0 t5_0)) (fun k__ i__ s__ => ?_) hx () n (by unfold big at hn; unfold lenMax at hx; omega)
  show LeF _ _ (z0W_m_l0 n (z0W_m_w0 n k__) t5_0 (List.length (t5_0) : Int) i__)
  exact leCond (leBind fun v1 => (leCond (leSome rfl) (leSome rfl))) (leMap (leSome rfl))
def z0W_M (l : List Int) : Option (Int × Unit) :=
  (bif decide (List.length (l) < lenMax) then loopL (fun i__ e__ s__ => z0W_b0 (l) i__ e__) (fun s__ => z0W_f0 (l)) 0 (l) () else none)
theorem z0W_run (l : List Int) (y : Int × Unit) (h : z0W_M l = some y) : ∃ n, z0W_m n l = some y :=
  ⟨big, LeF.top (show LeF some (z0W_M l) (z0W_m big l) from (fun (n : Nat) (hn : big ≤ n) => show LeF some (z0W_M l) (z0W_m n l) from (leGuard fun hx => by apply z0W_m_w0_le n hn; exact hx)) big (Nat.le_refl _)) h⟩
def z0W_e : Entry := { f := 87, args := z0W_a, ress := z0W_r, m := fun x => z0W_M x.1 }
theorem z0W_ok : FnOK Tryz.prog z0W_e := fn_ok (g := z0W_g) (fn := Tryz.f87) hmixed tabOk eNil (by kernel_rfl) (by kernel_rfl) (by kernel_rfl) (fun x y h => let ⟨n, hn⟩ := z0W_run x.1 y h; ⟨z0W_an n, iNil, (z0W_eq n x).trans hn⟩)
abbrev zm_a : Ty := .pair t159 (.pair t3 .unit)
abbrev zm_r : Ty := .pair t3 .unit
def zm_g : G := { T := T, E := [], muts := [], fz := [] }
def zm_k : List (List Nat) := []
def zm_an (n : Nat) : Ann := { keep := zm_k, fuel := n, inl := [], deep := 0 }
def zm_m (n : Nat) (n1 : Nod) (volume : Int) : Option (Int × Unit) :=
  (bif n1.2.1 == (0 : Int) then none else some (IntKind.i64.wrap (volume.tdiv n1.2.1), ()))
theorem zm_eq (n : Nat) (x : zm_a.den) : runF zm_g (zm_an n) Tryz.f91 zm_a zm_r x = zm_m n x.1 x.2.1 := by kernel_rfl
def zm_M (n1 : Nod) (volume : Int) : Option (Int × Unit) := zm_m 0 n1 volume
theorem zm_run (n1 : Nod) (volume : Int) (y : Int × Unit) (h : zm_M n1 volume = some y) : ∃ n, zm_m n n1 volume = some y := ⟨0, h⟩
def zm_e : Entry := { f := 91, args := zm_a, ress := zm_r, m := fun x => zm_M x.1 x.2.1 }
theorem zm_ok : FnOK Tryz.prog zm_e := fn_ok (g := zm_g) (fn := Tryz.f91) hmixed tabOk eNil (by kernel_rfl) (by kernel_rfl) (by kernel_rfl) (fun x y h => let ⟨n, hn⟩ := zm_run x.1 x.2.1 y h; ⟨zm_an n, iNil, (zm_eq n x).trans hn⟩)
abbrev z0X_a : Ty := .pair t3 (.pair t3 .unit)
abbrev z0X_r : Ty := .pair t3 .unit
def z0X_g : G := { T := T, E := [], muts := [], fz := [] }
def z0X_k : List (List Nat) := []
def z0X_an (n : Nat) : Ann := { keep := z0X_k, fuel := n, inl := [], deep := 0 }
def z0X_m (n : Nat) (a : Int) (b : Int) : Option (Int × Unit) :=
  (bif b == (0 : Int) then none else (bif decide (IntKind.i64.wrap (IntKind.i64.wrap (a.tdiv b) * b) > a) then some (IntKind.i64.wrap (IntKind.i64.wrap (a.tdiv b) - (1 : Int)), ()) else some (IntKind.i64.wrap (a.tdiv b), ())))
theorem z0X_eq (n : Nat) (x : z0X_a.den) : runF z0X_g (z0X_an n) Tryz.f199 z0X_a z0X_r x = z0X_m n x.1 x.2.1 := by kernel_rfl
def z0X_M (a : Int) (b : Int) : Option (Int × Unit) := z0X_m 0 a b
theorem z0X_run (a : Int) (b : Int) (y : Int × Unit) (h : z0X_M a b = some y) : ∃ n, z0X_m n a b = some y := ⟨0, h⟩
def z0X_e : Entry := { f := 199, args := z0X_a, ress := z0X_r, m := fun x => z0X_M x.1 x.2.1 }
theorem z0X_ok : FnOK Tryz.prog z0X_e := fn_ok (g := z0X_g) (fn := Tryz.f199) hmixed tabOk eNil (by kernel_rfl) (by kernel_rfl) (by kernel_rfl) (fun x y h => let ⟨n, hn⟩ := z0X_run x.1 x.2.1 y h; ⟨z0X_an n, iNil, (z0X_eq n x).trans hn⟩)
def z0d_m (n : Nat) (a : Int) (b : Int) : Option (Int × Unit) :=
  (bif b == (0 : Int) then none else (bif decide (IntKind.i64.wrap (IntKind.i64.wrap (a.tdiv b) * b) > a) then some (IntKind.i64.wrap (IntKind.i64.wrap (a.tdiv b) - (1 : Int)), ()) else some (IntKind.i64.wrap (a.tdiv b), ())))
def z0d_M (a : Int) (b : Int) : Option (Int × Unit) := z0d_m 0 a b
abbrev zp_a : Ty := .pair t3 (.pair t3 (.pair t3 .unit))
abbrev zp_r : Ty := .pair t3 .unit
def zp_g : G := { T := T, E := [], muts := [], fz := [] }
def zp_k : List (List Nat) := []
def zp_an (n : Nat) : Ann := { keep := zp_k, fuel := n, inl := [], deep := 0 }
def zp_m (n : Nat) (n1 : Int) (low : Int) (high : Int) : Option (Int × Unit) :=
  (bif decide (n1 < low) then some ((3 : Int), ()) else (bif decide (n1 > high) then some ((3 : Int), ()) else some ((0 : Int), ())))
theorem zp_eq (n : Nat) (x : zp_a.den) : runF zp_g (zp_an n) Tryz.f93 zp_a zp_r x = zp_m n x.1 x.2.1 x.2.2.1 := by kernel_rfl
def zp (n1 : Int) (low : Int) (high : Int) : (Int × Unit) :=
  (bif decide (n1 < low) then ((3 : Int), ()) else (bif decide (n1 > high) then ((3 : Int), ()) else ((0 : Int), ())))
abbrev zp_M (n1 : Int) (low : Int) (high : Int) : Option (Int × Unit) := some (zp n1 low high)
theorem zp_run (n1 : Int) (low : Int) (high : Int) (y : Int × Unit) (h : zp_M n1 low high = some y) : ∃ n, zp_m n n1 low high = some y :=
  ⟨0, by rw [← h]; show zp_m 0 n1 low high = some (zp n1 low high); unfold zp_m zp; first | rfl | (simp only [cond_some]; done) | (simp only [cond_some]; rfl)⟩
def zp_e : Entry := { f := 93, args := zp_a, ress := zp_r, m := fun x => zp_M x.1 x.2.1 x.2.2.1 }
theorem zp_ok : FnOK Tryz.prog zp_e := fn_ok (g := zp_g) (fn := Tryz.f93) hmixed tabOk eNil (by kernel_rfl) (by kernel_rfl) (by kernel_rfl) (fun x y h => let ⟨n, hn⟩ := zp_run x.1 x.2.1 x.2.2.1 y h; ⟨zp_an n, iNil, (zp_eq n x).trans hn⟩)
abbrev z0b_a : Ty := .pair t26 .unit
abbrev z0b_r : Ty := .pair t3 .unit
def z0b_g : G := { T := T, E := [], muts := [], fz := [] }
def z0b_k : List (List Nat) := [[0, 3]]
def z0b_an (n : Nat) : Ann := { keep := z0b_k, fuel := n, inl := [], deep := 0 }
def z0b_m_l0 (n : Nat) (r0 : List Int → Int → Option (Int × Unit)) (l0_0 : List Int) (i3_0 : Int) : Option (Int × Unit) :=
  (bif decide (i3_0 < (↑l0_0.length : Int)) then (Option.bind (idx l0_0 i3_0) fun (v1 : Int) => (bif v1 != (0 : Int) then (Option.bind (idx l0_0 i3_0) fun (v2 : Int) => some (v2, ())) else r0 l0_0 (IntKind.i64.wrap (i3_0 + (1 : Int))))) else some ((0 : Int), ()))
def z0b_m_w0 (n : Nat)  (k : Nat) (l0_0 : List Int) (i3_0 : Int) : Option (Int × Unit) :=
  iter (fun r y => z0b_m_l0 n (fun l0_0 i3_0 => r ((l0_0, (i3_0, ())), ((), ()))) y.1.1 y.1.2.1) k ((l0_0, (i3_0, ())), ((), ()))
def z0b_m (n : Nat) (l : List Int) : Option (Int × Unit) :=
  (z0b_m_w0 n n (l) ((0 : Int)))
theorem z0b_eq (n : Nat) (x : z0b_a.den) : runF z0b_g (z0b_an n) Tryz.f121 z0b_a z0b_r x = z0b_m n x.1 := by kernel_rfl
def z0b_b0 (l0_0 : List Int) (i3_0 : Int) (v1 : Int) : Option ((Int × Unit) ⊕ Unit) :=
  (bif v1 != (0 : Int) then (Option.bind (idx l0_0 i3_0) fun (v2 : Int) => (some (Sum.inl ((v2, ()))))) else (some (Sum.inr ())))
def z0b_f0 (l0_0 : List Int) : Option (Int × Unit) :=
  (some (((0 : Int), ())))
theorem z0b_m_w0_le (n : Nat) (hn : big ≤ n)  (l0_0 : List Int) (hx : List.length (l0_0) < lenMax) : LeF some (loopL (fun i__ e__ s__ => z0b_b0 l0_0 i__ e__) (fun s__ => z0b_f0 l0_0) 0 (l0_0) ()) (z0b_m_w0 n n l0_0 0) := by
  refine loopL_le (f := some) (W := fun k__ i__ s__ => z0b_m_w0 n k__ l0_0 i__) (body := (fun i__ e__ s__ => z0b_b0 l0_0 i__ e__)) (fin := (fun s__ => z0b_f0 l0_0)) (fun k__ i__ s__ => ?_) hx () n (by unfold big at hn; unfold lenMax at hx; omega)
  show LeF _ _ (z0b_m_l0 n (z0b_m_w0 n k__) l0_0 i__)
  exact leCond (leBind fun v1 => (leCond (leBind fun v2 => (leSome rfl)) (leSome rfl))) (leMap (leSome rfl))
def z0b_M (l : List Int) : Option (Int × Unit) :=
  (bif decide (List.length (l) < lenMax) then loopL (fun i__ e__ s__ => z0b_b0 (l) i__ e__) (fun s__ => z0b_f0 (l)) 0 (l) () else none)
theorem z0b_run (l : List Int) (y : Int × Unit) (h : z0b_M l = some y) : ∃ n, z0b_m n l = some y :=
  ⟨big, LeF.top (show LeF some (z0b_M l) (z0b_m big l) from (fun (n : Nat) (hn : big ≤ n) => show LeF some (z0b_M l) (z0b_m n l) from (leGuard fun hx => by apply z0b_m_w0_le n hn; exact hx)) big (Nat.le_refl _)) h⟩
def z0b_e : Entry := { f := 121, args := z0b_a, ress := z0b_r, m := fun x => z0b_M x.1 }
theorem z0b_ok : FnOK Tryz.prog z0b_e := fn_ok (g := z0b_g) (fn := Tryz.f121) hmixed tabOk eNil (by kernel_rfl) (by kernel_rfl) (by kernel_rfl) (fun x y h => let ⟨n, hn⟩ := z0b_run x.1 y h; ⟨z0b_an n, iNil, (z0b_eq n x).trans hn⟩)
abbrev z0s_a : Ty := .pair t9 .unit
abbrev z0s_r : Ty := .pair t4 (.pair t4 .unit)
def z0s_g : G := { T := T, E := [], muts := [], fz := [] }
def z0s_k : List (List Nat) := []
def z0s_an (n : Nat) : Ann := { keep := z0s_k, fuel := n, inl := [], deep := 0 }
def z0s_m (n : Nat) (kind : List UInt8) : Option (Bool × Bool × Unit) :=
  (bif kind == [(98 : UInt8), (97 : UInt8), (114 : UInt8), (114 : UInt8), (105 : UInt8), (101 : UInt8), (114 : UInt8)] then some (Bool.true, kind == [(111 : UInt8), (117 : UInt8), (116 : UInt8), (102 : UInt8), (97 : UInt8), (108 : UInt8), (108 : UInt8)], ()) else some (kind == [(108 : UInt8), (101 : UInt8), (97 : UInt8), (107 : UInt8)], kind == [(111 : UInt8), (117 : UInt8), (116 : UInt8), (102 : UInt8), (97 : UInt8), (108 : UInt8), (108 : UInt8)], ()))
theorem z0s_eq (n : Nat) (x : z0s_a.den) : runF z0s_g (z0s_an n) Tryz.f145 z0s_a z0s_r x = z0s_m n x.1 := by kernel_rfl
def z0s (kind : List UInt8) : (Bool × Bool × Unit) :=
  (bif kind == [(98 : UInt8), (97 : UInt8), (114 : UInt8), (114 : UInt8), (105 : UInt8), (101 : UInt8), (114 : UInt8)] then (Bool.true, kind == [(111 : UInt8), (117 : UInt8), (116 : UInt8), (102 : UInt8), (97 : UInt8), (108 : UInt8), (108 : UInt8)], ()) else (kind == [(108 : UInt8), (101 : UInt8), (97 : UInt8), (107 : UInt8)], kind == [(111 : UInt8), (117 : UInt8), (116 : UInt8), (102 : UInt8), (97 : UInt8), (108 : UInt8), (108 : UInt8)], ()))
abbrev z0s_M (kind : List UInt8) : Option (Bool × Bool × Unit) := some (z0s kind)
theorem z0s_run (kind : List UInt8) (y : Bool × Bool × Unit) (h : z0s_M kind = some y) : ∃ n, z0s_m n kind = some y :=
  ⟨0, by rw [← h]; show z0s_m 0 kind = some (z0s kind); unfold z0s_m z0s; first | rfl | (simp only [cond_some]; done) | (simp only [cond_some]; rfl)⟩
def z0s_e : Entry := { f := 145, args := z0s_a, ress := z0s_r, m := fun x => z0s_M x.1 }
theorem z0s_ok : FnOK Tryz.prog z0s_e := fn_ok (g := z0s_g) (fn := Tryz.f145) hmixed tabOk eNil (by kernel_rfl) (by kernel_rfl) (by kernel_rfl) (fun x y h => let ⟨n, hn⟩ := z0s_run x.1 y h; ⟨z0s_an n, iNil, (z0s_eq n x).trans hn⟩)
abbrev z0n_a : Ty := .pair t3 (.pair t3 (.pair t4 .unit))
abbrev z0n_r : Ty := .pair t4 .unit
def z0n_g : G := { T := T, E := [], muts := [], fz := [] }
def z0n_k : List (List Nat) := []
def z0n_an (n : Nat) : Ann := { keep := z0n_k, fuel := n, inl := [], deep := 0 }
def z0n_m (n : Nat) (n1 : Int) (nodes : Int) (atSea : Bool) : Option (Bool × Unit) :=
  (bif atSea then some (n1 == (-1 : Int), ()) else (bif decide (n1 ≥ (0 : Int)) then some (decide (n1 < nodes), ()) else some (Bool.false, ())))
theorem z0n_eq (n : Nat) (x : z0n_a.den) : runF z0n_g (z0n_an n) Tryz.f146 z0n_a z0n_r x = z0n_m n x.1 x.2.1 x.2.2.1 := by kernel_rfl
def z0n (n1 : Int) (nodes : Int) (atSea : Bool) : (Bool × Unit) :=
  (bif atSea then (n1 == (-1 : Int), ()) else (bif decide (n1 ≥ (0 : Int)) then (decide (n1 < nodes), ()) else (Bool.false, ())))
abbrev z0n_M (n1 : Int) (nodes : Int) (atSea : Bool) : Option (Bool × Unit) := some (z0n n1 nodes atSea)
theorem z0n_run (n1 : Int) (nodes : Int) (atSea : Bool) (y : Bool × Unit) (h : z0n_M n1 nodes atSea = some y) : ∃ n, z0n_m n n1 nodes atSea = some y :=
  ⟨0, by rw [← h]; show z0n_m 0 n1 nodes atSea = some (z0n n1 nodes atSea); unfold z0n_m z0n; first | rfl | (simp only [cond_some]; done) | (simp only [cond_some]; rfl)⟩
def z0n_e : Entry := { f := 146, args := z0n_a, ress := z0n_r, m := fun x => z0n_M x.1 x.2.1 x.2.2.1 }
theorem z0n_ok : FnOK Tryz.prog z0n_e := fn_ok (g := z0n_g) (fn := Tryz.f146) hmixed tabOk eNil (by kernel_rfl) (by kernel_rfl) (by kernel_rfl) (fun x y h => let ⟨n, hn⟩ := z0n_run x.1 x.2.1 x.2.2.1 y h; ⟨z0n_an n, iNil, (z0n_eq n x).trans hn⟩)
abbrev z0j_a : Ty := .pair t96 .unit
abbrev z0j_r : Ty := .pair t253 .unit
def z0j_g : G := { T := T, E := [], muts := [], fz := [] }
def z0j_k : List (List Nat) := []
def z0j_an (n : Nat) : Ann := { keep := z0j_k, fuel := n, inl := [], deep := 0 }
def z0j_m (n : Nat) (x1 : Int × Int × Unit) : Option (List Int × Unit) :=
  some ([x1.1, x1.2.1], ())
theorem z0j_eq (n : Nat) (x : z0j_a.den) : runF z0j_g (z0j_an n) Tryz.f166 z0j_a z0j_r x = z0j_m n x.1 := by kernel_rfl
def z0j (x1 : Int × Int × Unit) : (List Int × Unit) :=
  ([x1.1, x1.2.1], ())
abbrev z0j_M (x1 : Int × Int × Unit) : Option (List Int × Unit) := some (z0j x1)
theorem z0j_run (x1 : Int × Int × Unit) (y : List Int × Unit) (h : z0j_M x1 = some y) : ∃ n, z0j_m n x1 = some y :=
  ⟨0, by rw [← h]; show z0j_m 0 x1 = some (z0j x1); unfold z0j_m z0j; first | rfl | (simp only [cond_some]; done) | (simp only [cond_some]; rfl)⟩
def z0j_e : Entry := { f := 166, args := z0j_a, ress := z0j_r, m := fun x => z0j_M x.1 }
theorem z0j_ok : FnOK Tryz.prog z0j_e := fn_ok (g := z0j_g) (fn := Tryz.f166) hmixed tabOk eNil (by kernel_rfl) (by kernel_rfl) (by kernel_rfl) (fun x y h => let ⟨n, hn⟩ := z0j_run x.1 y h; ⟨z0j_an n, iNil, (z0j_eq n x).trans hn⟩)
abbrev z0e_a : Ty := .unit
abbrev z0e_r : Ty := .pair t67 .unit
def z0e_g : G := { T := T, E := [], muts := [], fz := [] }
def z0e_k : List (List Nat) := []
def z0e_an (n : Nat) : Ann := { keep := z0e_k, fuel := n, inl := [], deep := 0 }
def z0e_m (n : Nat)  : Option (List (List UInt8) × Unit) :=
  some ([[(98 : UInt8), (97 : UInt8), (114 : UInt8), (114 : UInt8), (105 : UInt8), (101 : UInt8), (114 : UInt8)], [(108 : UInt8), (101 : UInt8), (97 : UInt8), (107 : UInt8)], [(111 : UInt8), (117 : UInt8), (116 : UInt8), (102 : UInt8), (97 : UInt8), (108 : UInt8), (108 : UInt8)], [(112 : UInt8), (117 : UInt8), (109 : UInt8), (112 : UInt8)], [(119 : UInt8), (101 : UInt8), (105 : UInt8), (114 : UInt8)]], ())
theorem z0e_eq (n : Nat) (x : z0e_a.den) : runF z0e_g (z0e_an n) Tryz.f38 z0e_a z0e_r x = z0e_m n := by kernel_rfl
def z0e  : (List (List UInt8) × Unit) :=
  ([[(98 : UInt8), (97 : UInt8), (114 : UInt8), (114 : UInt8), (105 : UInt8), (101 : UInt8), (114 : UInt8)], [(108 : UInt8), (101 : UInt8), (97 : UInt8), (107 : UInt8)], [(111 : UInt8), (117 : UInt8), (116 : UInt8), (102 : UInt8), (97 : UInt8), (108 : UInt8), (108 : UInt8)], [(112 : UInt8), (117 : UInt8), (109 : UInt8), (112 : UInt8)], [(119 : UInt8), (101 : UInt8), (105 : UInt8), (114 : UInt8)]], ())
abbrev z0e_M  : Option (List (List UInt8) × Unit) := some (z0e)
theorem z0e_run  (y : List (List UInt8) × Unit) (h : z0e_M = some y) : ∃ n, z0e_m n = some y :=
  ⟨0, by rw [← h]; show z0e_m 0 = some (z0e); unfold z0e_m z0e; first | rfl | (simp only [cond_some]; done) | (simp only [cond_some]; rfl)⟩
def z0e_e : Entry := { f := 38, args := z0e_a, ress := z0e_r, m := fun x => z0e_M }
theorem z0e_ok : FnOK Tryz.prog z0e_e := fn_ok (g := z0e_g) (fn := Tryz.f38) hmixed tabOk eNil (by kernel_rfl) (by kernel_rfl) (by kernel_rfl) (fun x y h => let ⟨n, hn⟩ := z0e_run y h; ⟨z0e_an n, iNil, (z0e_eq n x).trans hn⟩)
abbrev z0g_a : Ty := .pair t25 .unit
abbrev z0g_r : Ty := .pair t4 .unit
def z0g_g : G := { T := T, E := [], muts := [], fz := [] }
def z0g_k : List (List Nat) := [[1, 3], [1, 4]]
def z0g_an (n : Nat) : Ann := { keep := z0g_k, fuel := n, inl := [], deep := 0 }
def z0g_m_l7 (n : Nat) (r7 : Bas → Int → Option (Bool × Unit)) (b1_7 : Bas) (i4_7 : Int) : Option (Bool × Unit) :=
  (bif decide (i4_7 < (↑b1_7.2.1.length : Int)) then (Option.bind (idx b1_7.2.1 i4_7) fun (v8 : Lnk) => (bif decide ((↑v8.1.length : Int) > (60 : Int)) then some (Bool.false, ()) else r7 b1_7 (IntKind.i64.wrap (i4_7 + (1 : Int))))) else some (Bool.true, ()))
def z0g_m_w7 (n : Nat)  (k : Nat) (b1_7 : Bas) (i4_7 : Int) : Option (Bool × Unit) :=
  iter (fun r y => z0g_m_l7 n (fun b1_7 i4_7 => r ((b1_7, (i4_7, ())), ((), ()))) y.1.1 y.1.2.1) k ((b1_7, (i4_7, ())), ((), ()))
def z0g_m_l5 (n : Nat) (r5 : Bas → Int → Option (Bool × Unit)) (b1_5 : Bas) (i3_5 : Int) : Option (Bool × Unit) :=
  (bif decide (i3_5 < (↑b1_5.1.length : Int)) then (Option.bind (idx b1_5.1 i3_5) fun (v6 : Nod) => (bif decide ((↑v6.1.length : Int) > (60 : Int)) then some (Bool.false, ()) else r5 b1_5 (IntKind.i64.wrap (i3_5 + (1 : Int))))) else (z0g_m_w7 n n (b1_5) ((0 : Int))))
def z0g_m_w5 (n : Nat)  (k : Nat) (b1_5 : Bas) (i3_5 : Int) : Option (Bool × Unit) :=
  iter (fun r y => z0g_m_l5 n (fun b1_5 i3_5 => r ((b1_5, (i3_5, ())), ((), ()))) y.1.1 y.1.2.1) k ((b1_5, (i3_5, ())), ((), ()))
def z0g_m_j9 (n : Nat) (b : Bas) : Option (Bool × Unit) :=
  (z0g_m_w5 n n (b) ((0 : Int)))
def z0g_m (n : Nat) (b : Bas) : Option (Bool × Unit) :=
  (bif decide ((↑b.1.length : Int) > (9 : Int)) then some (Bool.false, ()) else (bif decide ((↑b.2.1.length : Int) > (8 : Int)) then (bif (↑b.2.1.length : Int) != (17 : Int) then some (Bool.false, ()) else (z0g_m_j9 n b)) else (z0g_m_j9 n b)))
theorem z0g_eq (n : Nat) (x : z0g_a.den) : runF z0g_g (z0g_an n) Tryz.f15 z0g_a z0g_r x = z0g_m n x.1 := by kernel_rfl
def z0g_b7 (b1_7 : Bas) (i4_7 : Int) (v8 : Lnk) : Option ((Bool × Unit) ⊕ Unit) :=
  (bif decide ((↑v8.1.length : Int) > (60 : Int)) then (some (Sum.inl ((Bool.false, ())))) else (some (Sum.inr ())))
def z0g_f7 (b1_7 : Bas) : Option (Bool × Unit) :=
  (some ((Bool.true, ())))
theorem z0g_m_w7_le (n : Nat) (hn : big ≤ n)  (b1_7 : Bas) (hx : List.length (b1_7.2.1) < lenMax) : LeF some (loopL (fun i__ e__ s__ => z0g_b7 b1_7 i__ e__) (fun s__ => z0g_f7 b1_7) 0 (b1_7.2.1) ()) (z0g_m_w7 n n b1_7 0) := by
  refine loopL_le (f := some) (W := fun k__ i__ s__ => z0g_m_w7 n k__ b1_7 i__) (body := (fun i__ e__ s__ => z0g_b7 b1_7 i__ e__)) (fin := (fun s__ => z0g_f7 b1_7)) (fun k__ i__ s__ => ?_) hx () n (by unfold big at hn; unfold lenMax at hx; omega)
  show LeF _ _ (z0g_m_l7 n (z0g_m_w7 n k__) b1_7 i__)
  exact leCond (leBind fun v8 => (leCond (leSome rfl) (leSome rfl))) (leMap (leSome rfl))
def z0g_b5 (b1_5 : Bas) (i3_5 : Int) (v6 : Nod) : Option ((Bool × Unit) ⊕ Unit) :=
  (bif decide ((↑v6.1.length : Int) > (60 : Int)) then (some (Sum.inl ((Bool.false, ())))) else (some (Sum.inr ())))
def z0g_f5 (b1_5 : Bas) : Option (Bool × Unit) :=
  (bif decide (List.length (b1_5.2.1) < lenMax) then loopL (fun i__ e__ s__ => z0g_b7 (b1_5) i__ e__) (fun s__ => z0g_f7 (b1_5)) 0 (b1_5.2.1) () else none)
theorem z0g_m_w5_le (n : Nat) (hn : big ≤ n)  (b1_5 : Bas) (hx : List.length (b1_5.1) < lenMax) : LeF some (loopL (fun i__ e__ s__ => z0g_b5 b1_5 i__ e__) (fun s__ => z0g_f5 b1_5) 0 (b1_5.1) ()) (z0g_m_w5 n n b1_5 0) := by
  refine loopL_le (f := some) (W := fun k__ i__ s__ => z0g_m_w5 n k__ b1_5 i__) (body := (fun i__ e__ s__ => z0g_b5 b1_5 i__ e__)) (fin := (fun s__ => z0g_f5 b1_5)) (fun k__ i__ s__ => ?_) hx () n (by unfold big at hn; unfold lenMax at hx; omega)
  show LeF _ _ (z0g_m_l5 n (z0g_m_w5 n k__) b1_5 i__)
  exact leCond (leBind fun v6 => (leCond (leSome rfl) (leSome rfl))) (leMap (leGuard fun hx => by apply z0g_m_w7_le n hn; exact hx))
def z0g_s9 (b : Bas) : Option (Bool × Unit) :=
  (bif decide (List.length (b.1) < lenMax) then loopL (fun i__ e__ s__ => z0g_b5 (b) i__ e__) (fun s__ => z0g_f5 (b)) 0 (b.1) () else none)
theorem ref04_Short_s9_le (n : Nat) (hn : big ≤ n)  (b : Bas) : LeF some (z0g_s9 b) (z0g_m_j9 n b) :=
  (leGuard fun hx => by apply z0g_m_w5_le n hn; exact hx)
def z0g_M (b : Bas) : Option (Bool × Unit) :=
  (bif decide ((↑b.1.length : Int) > (9 : Int)) then (some ((Bool.false, ()))) else (bif decide ((↑b.2.1.length : Int) > (8 : Int)) then (bif (↑b.2.1.length : Int) != (17 : Int) then (some ((Bool.false, ()))) else (z0g_s9 b)) else (z0g_s9 b)))
theorem z0g_run (b : Bas) (y : Bool × Unit) (h : z0g_M b = some y) : ∃ n, z0g_m n b = some y :=
  ⟨big, LeF.top (show LeF some (z0g_M b) (z0g_m big b) from (fun (n : Nat) (hn : big ≤ n) => show LeF some (z0g_M b) (z0g_m n b) from (leCond (leSome rfl) (leCond (leCond (leSome rfl) (by apply ref04_Short_s9_le n hn)) (by apply ref04_Short_s9_le n hn)))) big (Nat.le_refl _)) h⟩
def z0g_e : Entry := { f := 15, args := z0g_a, ress := z0g_r, m := fun x => z0g_M x.1 }
theorem z0g_ok : FnOK Tryz.prog z0g_e := fn_ok (g := z0g_g) (fn := Tryz.f15) hmixed tabOk eNil (by kernel_rfl) (by kernel_rfl) (by kernel_rfl) (fun x y h => let ⟨n, hn⟩ := z0g_run x.1 y h; ⟨z0g_an n, iNil, (z0g_eq n x).trans hn⟩)
abbrev z0l_a : Ty := .pair t26 .unit
abbrev z0l_r : Ty := .pair t26 .unit
def z0l_g : G := { T := T, E := [], muts := [3], fz := [] }
def z0l_k : List (List Nat) := []
def z0l_an (n : Nat) : Ann := { keep := z0l_k, fuel := n, inl := [], deep := 0 }
def z0l_m (n : Nat) (l : List Int) : Option (List Int × Unit) :=
  (bif decide ((0 : Nat) + l.length ≤ memMax) then some (l, ()) else none)
theorem z0l_eq (n : Nat) (x : z0l_a.den) : runF z0l_g (z0l_an n) Tryz.f20 z0l_a z0l_r x = z0l_m n x.1 := by kernel_rfl
def z0l_M (l : List Int) : Option (List Int × Unit) := z0l_m 0 l
theorem z0l_run (l : List Int) (y : List Int × Unit) (h : z0l_M l = some y) : ∃ n, z0l_m n l = some y := ⟨0, h⟩
def z0l_e : Entry := { f := 20, args := z0l_a, ress := z0l_r, m := fun x => z0l_M x.1 }
theorem z0l_ok : FnOK Tryz.prog z0l_e := fn_ok (g := z0l_g) (fn := Tryz.f20) hmixed tabOk eNil (by kernel_rfl) (by kernel_rfl) (by kernel_rfl) (fun x y h => let ⟨n, hn⟩ := z0l_run x.1 y h; ⟨z0l_an n, iNil, (z0l_eq n x).trans hn⟩)
abbrev zv_a : Ty := .pair t163 .unit
abbrev zv_r : Ty := .pair t3 .unit
def zv_g : G := { T := T, E := [], muts := [], fz := [] }
def zv_k : List (List Nat) := []
def zv_an (n : Nat) : Ann := { keep := zv_k, fuel := n, inl := [], deep := 0 }
def zv_m (n : Nat) (l : Lnk) : Option (Int × Unit) :=
  (bif l.2.1 == (-1 : Int) then some (l.2.2.1, ()) else some (l.2.1, ()))
theorem zv_eq (n : Nat) (x : zv_a.den) : runF zv_g (zv_an n) Tryz.f142 zv_a zv_r x = zv_m n x.1 := by kernel_rfl
def zv (l : Lnk) : (Int × Unit) :=
  (bif l.2.1 == (-1 : Int) then (l.2.2.1, ()) else (l.2.1, ()))
abbrev zv_M (l : Lnk) : Option (Int × Unit) := some (zv l)
theorem zv_run (l : Lnk) (y : Int × Unit) (h : zv_M l = some y) : ∃ n, zv_m n l = some y :=
  ⟨0, by rw [← h]; show zv_m 0 l = some (zv l); unfold zv_m zv; first | rfl | (simp only [cond_some]; done) | (simp only [cond_some]; rfl)⟩
def zv_e : Entry := { f := 142, args := zv_a, ress := zv_r, m := fun x => zv_M x.1 }
theorem zv_ok : FnOK Tryz.prog zv_e := fn_ok (g := zv_g) (fn := Tryz.f142) hmixed tabOk eNil (by kernel_rfl) (by kernel_rfl) (by kernel_rfl) (fun x y h => let ⟨n, hn⟩ := zv_run x.1 y h; ⟨zv_an n, iNil, (zv_eq n x).trans hn⟩)
abbrev z0D_a : Ty := .pair t67 (.pair t9 .unit)
abbrev z0D_r : Ty := .pair t4 .unit
def z0D_g : G := { T := T, E := [], muts := [], fz := [] }
def z0D_k : List (List Nat) := [[0, 1, 5]]
def z0D_an (n : Nat) : Ann := { keep := z0D_k, fuel := n, inl := [], deep := 0 }
def z0D_m_l0 (n : Nat) (r0 : List (List UInt8) → List UInt8 → Int → Option (Bool × Unit)) (l0_0 : List (List UInt8)) (s1_0 : List UInt8) (i5_0 : Int) : Option (Bool × Unit) :=
  (bif decide (i5_0 < (↑l0_0.length : Int)) then (Option.bind (idx l0_0 i5_0) fun (v1 : List UInt8) => (bif v1 == s1_0 then some (Bool.true, ()) else r0 l0_0 s1_0 (IntKind.i64.wrap (i5_0 + (1 : Int))))) else some (Bool.false, ()))
def z0D_m_w0 (n : Nat)  (k : Nat) (l0_0 : List (List UInt8)) (s1_0 : List UInt8) (i5_0 : Int) : Option (Bool × Unit) :=
  iter (fun r y => z0D_m_l0 n (fun l0_0 s1_0 i5_0 => r ((l0_0, (s1_0, (i5_0, ()))), ((), ()))) y.1.1 y.1.2.1 y.1.2.2.1) k ((l0_0, (s1_0, (i5_0, ()))), ((), ()))
def z0D_m (n : Nat) (l : List (List UInt8)) (s : List UInt8) : Option (Bool × Unit) :=
  (z0D_m_w0 n n (l) (s) ((0 : Int)))
theorem z0D_eq (n : Nat) (x : z0D_a.den) : runF z0D_g (z0D_an n) Tryz.f144 z0D_a z0D_r x = z0D_m n x.1 x.2.1 := by kernel_rfl
def z0D_b0 (l0_0 : List (List UInt8)) (s1_0 : List UInt8) (i5_0 : Int) (v1 : List UInt8) : Option ((Bool × Unit) ⊕ Unit) :=
  (bif v1 == s1_0 then (some (Sum.inl ((Bool.true, ())))) else (some (Sum.inr ())))
def z0D_f0 (l0_0 : List (List UInt8)) (s1_0 : List UInt8) : Option (Bool × Unit) :=
  (some ((Bool.false, ())))
theorem z0D_m_w0_le (n : Nat) (hn : big ≤ n)  (l0_0 : List (List UInt8)) (s1_0 : List UInt8) (hx : List.length (l0_0) < lenMax) : LeF some (loopL (fun i__ e__ s__ => z0D_b0 l0_0 s1_0 i__ e__) (fun s__ => z0D_f0 l0_0 s1_0) 0 (l0_0) ()) (z0D_m_w0 n n l0_0 s1_0 0) := by
  refine loopL_le (f := some) (W := fun k__ i__ s__ => z0D_m_w0 n k__ l0_0 s1_0 i__) (body := (fun i__ e__ s__ => z0D_b0 l0_0 s1_0 i__ e__)) (fin := (fun s__ => z0D_f0 l0_0 s1_0)) (fun k__ i__ s__ => ?_) hx () n (by unfold big at hn; unfold lenMax at hx; omega)
  show LeF _ _ (z0D_m_l0 n (z0D_m_w0 n k__) l0_0 s1_0 i__)
  exact leCond (leBind fun v1 => (leCond (leSome rfl) (leSome rfl))) (leMap (leSome rfl))
def z0D_M (l : List (List UInt8)) (s : List UInt8) : Option (Bool × Unit) :=
  (bif decide (List.length (l) < lenMax) then loopL (fun i__ e__ s__ => z0D_b0 (l) (s) i__ e__) (fun s__ => z0D_f0 (l) (s)) 0 (l) () else none)
theorem z0D_run (l : List (List UInt8)) (s : List UInt8) (y : Bool × Unit) (h : z0D_M l s = some y) : ∃ n, z0D_m n l s = some y :=
  ⟨big, LeF.top (show LeF some (z0D_M l s) (z0D_m big l s) from (fun (n : Nat) (hn : big ≤ n) => show LeF some (z0D_M l s) (z0D_m n l s) from (leGuard fun hx => by apply z0D_m_w0_le n hn; exact hx)) big (Nat.le_refl _)) h⟩
def z0D_e : Entry := { f := 144, args := z0D_a, ress := z0D_r, m := fun x => z0D_M x.1 x.2.1 }
theorem z0D_ok : FnOK Tryz.prog z0D_e := fn_ok (g := z0D_g) (fn := Tryz.f144) hmixed tabOk eNil (by kernel_rfl) (by kernel_rfl) (by kernel_rfl) (fun x y h => let ⟨n, hn⟩ := z0D_run x.1 x.2.1 y h; ⟨z0D_an n, iNil, (z0D_eq n x).trans hn⟩)
abbrev z02_a : Ty := .pair t26 (.pair t26 .unit)
abbrev z02_r : Ty := .pair t4 .unit
def z02_g : G := { T := T, E := [], muts := [], fz := [] }
def z02_k : List (List Nat) := [[0, 1, 5]]
def z02_an (n : Nat) : Ann := { keep := z02_k, fuel := n, inl := [], deep := 0 }
def z02_m_l0 (n : Nat) (r0 : List Int → List Int → Int → Option (Bool × Unit)) (a0_0 : List Int) (b1_0 : List Int) (i5_0 : Int) : Option (Bool × Unit) :=
  (bif decide (i5_0 < (↑a0_0.length : Int)) then (Option.bind (idx a0_0 i5_0) fun (v1 : Int) => (Option.bind (idx b1_0 i5_0) fun (v2 : Int) => (bif v1 != v2 then some (Bool.false, ()) else r0 a0_0 b1_0 (IntKind.i64.wrap (i5_0 + (1 : Int)))))) else some (Bool.true, ()))
def z02_m_w0 (n : Nat)  (k : Nat) (a0_0 : List Int) (b1_0 : List Int) (i5_0 : Int) : Option (Bool × Unit) :=
  iter (fun r y => z02_m_l0 n (fun a0_0 b1_0 i5_0 => r ((a0_0, (b1_0, (i5_0, ()))), ((), ()))) y.1.1 y.1.2.1 y.1.2.2.1) k ((a0_0, (b1_0, (i5_0, ()))), ((), ()))
def z02_m (n : Nat) (a : List Int) (b : List Int) : Option (Bool × Unit) :=
  (bif (↑a.length : Int) != (↑b.length : Int) then some (Bool.false, ()) else (z02_m_w0 n n (a) (b) ((0 : Int))))
theorem z02_eq (n : Nat) (x : z02_a.den) : runF z02_g (z02_an n) Tryz.f41 z02_a z02_r x = z02_m n x.1 x.2.1 := by kernel_rfl
def z02_b0 (a0_0 : List Int) (b1_0 : List Int) (i5_0 : Int) (v1 : Int) : Option ((Bool × Unit) ⊕ Unit) :=
  (Option.bind (idx b1_0 i5_0) fun (v2 : Int) => (bif v1 != v2 then (some (Sum.inl ((Bool.false, ())))) else (some (Sum.inr ()))))
def z02_f0 (a0_0 : List Int) (b1_0 : List Int) : Option (Bool × Unit) :=
  (some ((Bool.true, ())))
theorem z02_m_w0_le (n : Nat) (hn : big ≤ n)  (a0_0 : List Int) (b1_0 : List Int) (hx : List.length (a0_0) < lenMax) : LeF some (loopL (fun i__ e__ s__ => z02_b0 a0_0 b1_0 i__ e__) (fun s__ => z02_f0 a0_0 b1_0) 0 (a0_0) ()) (z02_m_w0 n n a0_0 b1_0 0) := by
  refine loopL_le (f := some) (W := fun k__ i__ s__ => z02_m_w0 n k__ a0_0 b1_0 i__) (body := (fun i__ e__ s__ => z02_b0 a0_0 b1_0 i__ e__)) (fin := (fun s__ => z02_f0 a0_0 b1_0)) (fun k__ i__ s__ => ?_) hx () n (by unfold big at hn; unfold lenMax at hx; omega)
  show LeF _ _ (z02_m_l0 n (z02_m_w0 n k__) a0_0 b1_0 i__)
  exact leCond (leBind fun v1 => (leBind fun v2 => (leCond (leSome rfl) (leSome rfl)))) (leMap (leSome rfl))
def z02_M (a : List Int) (b : List Int) : Option (Bool × Unit) :=
  (bif (↑a.length : Int) != (↑b.length : Int) then (some ((Bool.false, ()))) else (bif decide (List.length (a) < lenMax) then loopL (fun i__ e__ s__ => z02_b0 (a) (b) i__ e__) (fun s__ => z02_f0 (a) (b)) 0 (a) () else none))
theorem z02_run (a : List Int) (b : List Int) (y : Bool × Unit) (h : z02_M a b = some y) : ∃ n, z02_m n a b = some y :=
  ⟨big, LeF.top (show LeF some (z02_M a b) (z02_m big a b) from (fun (n : Nat) (hn : big ≤ n) => show LeF some (z02_M a b) (z02_m n a b) from (leCond (leSome rfl) (leGuard fun hx => by apply z02_m_w0_le n hn; exact hx))) big (Nat.le_refl _)) h⟩
def z02_e : Entry := { f := 41, args := z02_a, ress := z02_r, m := fun x => z02_M x.1 x.2.1 }
theorem z02_ok : FnOK Tryz.prog z02_e := fn_ok (g := z02_g) (fn := Tryz.f41) hmixed tabOk eNil (by kernel_rfl) (by kernel_rfl) (by kernel_rfl) (fun x y h => let ⟨n, hn⟩ := z02_run x.1 x.2.1 y h; ⟨z02_an n, iNil, (z02_eq n x).trans hn⟩)
def z0E_b0 (v0_0 : List Int) (i3_0 : Int) (v1 : Int) : Option ((Bool × Unit) ⊕ Unit) :=
  (bif decide (v1 > (100000000 : Int)) then (some (Sum.inl ((Bool.true, ())))) else (some (Sum.inr ())))
def z0E_f0 (v0_0 : List Int) : Option (Bool × Unit) :=
  (some ((Bool.false, ())))
def z0E_M (v : List Int) : Option (Bool × Unit) :=
  (bif decide (List.length (v) < lenMax) then loopL (fun i__ e__ s__ => z0E_b0 (v) i__ e__) (fun s__ => z0E_f0 (v)) 0 (v) () else none)
end
end Go.Tw
end
section
set_option linter.all false
set_option maxRecDepth 1000000
namespace Go.Tw
open Go.Vx Go.Vx.B Go.Proofs
noncomputable section
abbrev z0a_a : Ty := .pair t25 .unit
abbrev z0a_r : Ty := .pair t41 .unit
def z0a_g : G := { T := T, E := [], muts := [3], fz := [] }
def z0a_k : List (List Nat) := [[1, 2, 3, 9, 10, 11], [2, 3, 23, 24, 25]]
def z0a_an (n : Nat) : Ann := { keep := z0a_k, fuel := n, inl := [], deep := 0 }
def z0a_m_l2 (n : Nat) (r2 : List Lnk → Int → Int → List Nod → List Lnk → Option (Bas × Unit)) (t23_2 : List Lnk) (t24_2 : Int) (t25_2 : Int) (c2_2 : List Nod) (c3_2 : List Lnk) : Option (Bas × Unit) :=
  (bif decide (t25_2 < t24_2) then (Option.bind (idx t23_2 t25_2) fun (v3 : Lnk) => (bif decide (c3_2.length + (1 : Nat) ≤ memMax) then r2 t23_2 t24_2 (IntKind.i64.wrap (t25_2 + (1 : Int))) c2_2 (c3_2 ++ [(v3.1, v3.2.1, v3.2.2.1, v3.2.2.2.1, v3.2.2.2.2.1, ())]) else none)) else some ((c2_2, c3_2, ()), ()))
def z0a_m_w2 (n : Nat)  (k : Nat) (t23_2 : List Lnk) (t24_2 : Int) (t25_2 : Int) (c2_2 : List Nod) (c3_2 : List Lnk) : Option (Bas × Unit) :=
  iter (fun r y => z0a_m_l2 n (fun t23_2 t24_2 t25_2 c2_2 c3_2 => r ((t23_2, (t24_2, (t25_2, ()))), (((), ((), (c2_2, (c3_2, ())))), ()))) y.1.1 y.1.2.1 y.1.2.2.1 y.2.1.2.2.1 y.2.1.2.2.2.1) k ((t23_2, (t24_2, (t25_2, ()))), (((), ((), (c2_2, (c3_2, ())))), ()))
def z0a_m_l0 (n : Nat) (r0 : Bas → List Nod → Int → Int → List Nod → List Lnk → Option (Bas × Unit)) (b1_0 : Bas) (t9_0 : List Nod) (t10_0 : Int) (t11_0 : Int) (c2_0 : List Nod) (c3_0 : List Lnk) : Option (Bas × Unit) :=
  (bif decide (t11_0 < t10_0) then (Option.bind (idx t9_0 t11_0) fun (v1 : Nod) => (bif decide (c2_0.length + (1 : Nat) ≤ memMax) then r0 b1_0 t9_0 t10_0 (IntKind.i64.wrap (t11_0 + (1 : Int))) (c2_0 ++ [(v1.1, v1.2.1, v1.2.2.1, ())]) c3_0 else none)) else (z0a_m_w2 n n (b1_0.2.1) ((↑b1_0.2.1.length : Int)) ((0 : Int)) (c2_0) (c3_0)))
def z0a_m_w0 (n : Nat)  (k : Nat) (b1_0 : Bas) (t9_0 : List Nod) (t10_0 : Int) (t11_0 : Int) (c2_0 : List Nod) (c3_0 : List Lnk) : Option (Bas × Unit) :=
  iter (fun r y => z0a_m_l0 n (fun b1_0 t9_0 t10_0 t11_0 c2_0 c3_0 => r ((b1_0, (t9_0, (t10_0, (t11_0, ())))), (((), ((), (c2_0, (c3_0, ())))), ()))) y.1.1 y.1.2.1 y.1.2.2.1 y.1.2.2.2.1 y.2.1.2.2.1 y.2.1.2.2.2.1) k ((b1_0, (t9_0, (t10_0, (t11_0, ())))), (((), ((), (c2_0, (c3_0, ())))), ()))
def z0a_m (n : Nat) (b : Bas) : Option (Bas × Unit) :=
  (z0a_m_w0 n n (b) (b.1) ((↑b.1.length : Int)) ((0 : Int)) ([]) ([]))
theorem z0a_eq (n : Nat) (x : z0a_a.den) : runF z0a_g (z0a_an n) Tryz.f19 z0a_a z0a_r x = z0a_m n x.1 := by kernel_rfl
def z0a_b2 (t23_2 : List Lnk) (c2_2 : List Nod) (t25_2 : Int) (v3 : Lnk) (c3_2 : List Lnk) : Option ((Bas × Unit) ⊕ (List Lnk)) :=
  (bif decide (c3_2.length + (1 : Nat) ≤ memMax) then (some (Sum.inr (c3_2 ++ [(v3.1, v3.2.1, v3.2.2.1, v3.2.2.2.1, v3.2.2.2.2.1, ())]))) else none)
def z0a_f2 (t23_2 : List Lnk) (c2_2 : List Nod) (c3_2 : List Lnk) : Option (Bas × Unit) :=
  (some (((c2_2, c3_2, ()), ())))
theorem z0a_m_w2_le (n : Nat) (hn : big ≤ n)  (t23_2 : List Lnk) (c2_2 : List Nod) (c3_2 : List Lnk) (hx : List.length (t23_2) < lenMax) : LeF some (loopL (fun i__ e__ s__ => z0a_b2 t23_2 c2_2 i__ e__ s__) (fun s__ => z0a_f2 t23_2 c2_2 s__) 0 (t23_2) c3_2) (z0a_m_w2 n n t23_2 (List.length (t23_2) : Int) 0 c2_2 c3_2) := by
  refine loopL_le (f := some) (W := fun k__ i__ s__ => z0a_m_w2 n k__ t23_2 (List.length (t23_2) : Int) i__ c2_2 s__) (body := (fun i__ e__ s__ => z0a_b2 t23_2 c2_2 i__ e__ s__)) (fin := (fun s__ => z0a_f2 t23_2 c2_2 s__)) (fun k__ i__ s__ => ?_) hx c3_2 n (by unfold big at hn; unfold lenMax at hx; omega)
  show LeF _ _ (z0a_m_l2 n (z0a_m_w2 n k__) t23_2 (List.length (t23_2) : Int) i__ c2_2 s__)
  exact leCond (leBind fun v3 => (leCond (leSome rfl) leNone)) (leMap (leSome rfl))
def z0a_b0 (b1_0 : Bas) (t9_0 : List Nod) (c3_0 : List Lnk) (t11_0 : Int) (v1 : Nod) (c2_0 : List Nod) : Option ((Bas × Unit) ⊕ (List Nod)) :=
  (bif decide (c2_0.length + (1 : Nat) ≤ memMax) then (some (Sum.inr (c2_0 ++ [(v1.1, v1.2.1, v1.2.2.1, ())]))) else none)
def z0a_f0 (b1_0 : Bas) (t9_0 : List Nod) (c3_0 : List Lnk) (c2_0 : List Nod) : Option (Bas × Unit) :=
  (bif decide (List.length (b1_0.2.1) < lenMax) then loopL (fun i__ e__ s__ => z0a_b2 (b1_0.2.1) (c2_0) i__ e__ s__) (fun s__ => z0a_f2 (b1_0.2.1) (c2_0) s__) 0 (b1_0.2.1) (c3_0) else none)
theorem z0a_m_w0_le (n : Nat) (hn : big ≤ n)  (b1_0 : Bas) (t9_0 : List Nod) (c3_0 : List Lnk) (c2_0 : List Nod) (hx : List.length (t9_0) < lenMax) : LeF some (loopL (fun i__ e__ s__ => z0a_b0 b1_0 t9_0 c3_0 i__ e__ s__) (fun s__ => z0a_f0 b1_0 t9_0 c3_0 s__) 0 (t9_0) c2_0) (z0a_m_w0 n n b1_0 t9_0 (List.length (t9_0) : Int) 0 c2_0 c3_0) := by
  refine loopL_le (f := some) (W := fun k__ i__ s__ => z0a_m_w0 n k__ b1_0 t9_0 (List.length (t9_0) : Int) i__ s__ c3_0) (body := (fun i__ e__ s__ => z0a_b0 b1_0 t9_0 c3_0 i__ e__ s__)) (fin := (fun s__ => z0a_f0 b1_0 t9_0 c3_0 s__)) (fun k__ i__ s__ => ?_) hx c2_0 n (by unfold big at hn; unfold lenMax at hx; omega)
  show LeF _ _ (z0a_m_l0 n (z0a_m_w0 n k__) b1_0 t9_0 (List.length (t9_0) : Int) i__ s__ c3_0)
  exact leCond (leBind fun v1 => (leCond (leSome rfl) leNone)) (leMap (leGuard fun hx => by apply z0a_m_w2_le n hn; exact hx))
def z0a_M (b : Bas) : Option (Bas × Unit) :=
  (bif decide (List.length (b.1) < lenMax) then loopL (fun i__ e__ s__ => z0a_b0 (b) (b.1) ([]) i__ e__ s__) (fun s__ => z0a_f0 (b) (b.1) ([]) s__) 0 (b.1) ([]) else none)
theorem z0a_run (b : Bas) (y : Bas × Unit) (h : z0a_M b = some y) : ∃ n, z0a_m n b = some y :=
  ⟨big, LeF.top (show LeF some (z0a_M b) (z0a_m big b) from (fun (n : Nat) (hn : big ≤ n) => show LeF some (z0a_M b) (z0a_m n b) from (leGuard fun hx => by apply z0a_m_w0_le n hn; exact hx)) big (Nat.le_refl _)) h⟩
def z0a_e : Entry := { f := 19, args := z0a_a, ress := z0a_r, m := fun x => z0a_M x.1 }
theorem z0a_ok : FnOK Tryz.prog z0a_e := fn_ok (g := z0a_g) (fn := Tryz.f19) hmixed tabOk eNil (by kernel_rfl) (by kernel_rfl) (by kernel_rfl) (fun x y h => let ⟨n, hn⟩ := z0a_run x.1 y h; ⟨z0a_an n, iNil, (z0a_eq n x).trans hn⟩)
def z0N_b0 (v1_0 : List Int) (b2_0 : Bas) (i6_0 : Int) (v1 : Int) (c0_0 : List Int) : Option ((List Int × Unit) ⊕ (List Int)) :=
  (Option.bind (idx b2_0.1 i6_0) fun (v2 : Nod) => (bif v2.2.1 == (0 : Int) then none else (bif decide (c0_0.length + (1 : Nat) ≤ memMax) then (some (Sum.inr (c0_0 ++ [IntKind.i64.wrap (v1.tdiv v2.2.1)]))) else none)))
def z0N_f0 (v1_0 : List Int) (b2_0 : Bas) (c0_0 : List Int) : Option (List Int × Unit) :=
  (some ((c0_0, ())))
def z0N_M (b : Bas) (v : List Int) : Option (List Int × Unit) :=
  (bif decide (List.length (v) < lenMax) then loopL (fun i__ e__ s__ => z0N_b0 (v) (b) i__ e__ s__) (fun s__ => z0N_f0 (v) (b) s__) 0 (v) ([]) else none)
abbrev zV_a : Ty := .pair t119 (.pair t119 .unit)
abbrev zV_r : Ty := .pair t4 .unit
def zV_g : G := { T := T, E := [], muts := [], fz := [] }
def zV_k : List (List Nat) := [[0, 1, 5], [0, 1, 5, 6]]
def zV_an (n : Nat) : Ann := { keep := zV_k, fuel := n, inl := [], deep := 0 }
def zV_m_l3 (n : Nat) (r0 : List (List (Int × Int × Unit)) → List (List (Int × Int × Unit)) → Int → Option (Bool × Unit)) (r3 : List (List (Int × Int × Unit)) → List (List (Int × Int × Unit)) → Int → Int → Option (Bool × Unit)) (a0_3 : List (List (Int × Int × Unit))) (b1_3 : List (List (Int × Int × Unit))) (i5_3 : Int) (k6_3 : Int) : Option (Bool × Unit) :=
  (Option.bind (idx a0_3 i5_3) fun (v4 : List (Int × Int × Unit)) => (bif decide (k6_3 < (↑v4.length : Int)) then (Option.bind (idx a0_3 i5_3) fun (v5 : List (Int × Int × Unit)) => (Option.bind (idx v5 k6_3) fun (v6 : Int × Int × Unit) => (Option.bind (idx b1_3 i5_3) fun (v7 : List (Int × Int × Unit)) => (Option.bind (idx v7 k6_3) fun (v8 : Int × Int × Unit) => (bif !eqV ((Ty.int IntKind.i64).pair ((Ty.int IntKind.i64).pair Ty.unit)) v6 v8 then some (Bool.false, ()) else r3 a0_3 b1_3 i5_3 (IntKind.i64.wrap (k6_3 + (1 : Int)))))))) else r0 a0_3 b1_3 (IntKind.i64.wrap (i5_3 + (1 : Int)))))
def zV_m_w3 (n : Nat) (r0 : List (List (Int × Int × Unit)) → List (List (Int × Int × Unit)) → Int → Option (Bool × Unit)) (k : Nat) (a0_3 : List (List (Int × Int × Unit))) (b1_3 : List (List (Int × Int × Unit))) (i5_3 : Int) (k6_3 : Int) : Option (Bool × Unit) :=
  iter (fun r y => zV_m_l3 n r0 (fun a0_3 b1_3 i5_3 k6_3 => r ((a0_3, (b1_3, (i5_3, (k6_3, ())))), ((), ()))) y.1.1 y.1.2.1 y.1.2.2.1 y.1.2.2.2.1) k ((a0_3, (b1_3, (i5_3, (k6_3, ())))), ((), ()))
def zV_m_l0 (n : Nat) (r0 : List (List (Int × Int × Unit)) → List (List (Int × Int × Unit)) → Int → Option (Bool × Unit)) (a0_0 : List (List (Int × Int × Unit))) (b1_0 : List (List (Int × Int × Unit))) (i5_0 : Int) : Option (Bool × Unit) :=
  (bif decide (i5_0 < (↑a0_0.length : Int)) then (Option.bind (idx a0_0 i5_0) fun (v1 : List (Int × Int × Unit)) => (Option.bind (idx b1_0 i5_0) fun (v2 : List (Int × Int × Unit)) => (bif (↑v1.length : Int) != (↑v2.length : Int) then some (Bool.false, ()) else (zV_m_w3 n r0 n (a0_0) (b1_0) (i5_0) ((0 : Int)))))) else some (Bool.true, ()))
def zV_m_w0 (n : Nat)  (k : Nat) (a0_0 : List (List (Int × Int × Unit))) (b1_0 : List (List (Int × Int × Unit))) (i5_0 : Int) : Option (Bool × Unit) :=
  iter (fun r y => zV_m_l0 n (fun a0_0 b1_0 i5_0 => r ((a0_0, (b1_0, (i5_0, ()))), ((), ()))) y.1.1 y.1.2.1 y.1.2.2.1) k ((a0_0, (b1_0, (i5_0, ()))), ((), ()))
def zV_m (n : Nat) (a : List (List (Int × Int × Unit))) (b : List (List (Int × Int × Unit))) : Option (Bool × Unit) :=
  (bif (↑a.length : Int) != (↑b.length : Int) then some (Bool.false, ()) else (zV_m_w0 n n (a) (b) ((0 : Int))))
theorem zV_eq (n : Nat) (x : zV_a.den) : runF zV_g (zV_an n) Tryz.f74 zV_a zV_r x = zV_m n x.1 x.2.1 := by kernel_rfl
def zV_b3 (a0_3 : List (List (Int × Int × Unit))) (b1_3 : List (List (Int × Int × Unit))) (i5_3 : Int) (v4 : List (Int × Int × Unit)) (k6_3 : Int) : Option (((Bool × Unit) ⊕ Unit) ⊕ Unit) :=
  (Option.bind (idx a0_3 i5_3) fun (v5 : List (Int × Int × Unit)) => (Option.bind (idx v5 k6_3) fun (v6 : Int × Int × Unit) => (Option.bind (idx b1_3 i5_3) fun (v7 : List (Int × Int × Unit)) => (Option.bind (idx v7 k6_3) fun (v8 : Int × Int × Unit) => (bif !eqV ((Ty.int IntKind.i64).pair ((Ty.int IntKind.i64).pair Ty.unit)) v6 v8 then (some (Sum.inl (Sum.inl ((Bool.false, ()))))) else (some (Sum.inr ())))))))
def zV_f3 (a0_3 : List (List (Int × Int × Unit))) (b1_3 : List (List (Int × Int × Unit))) (i5_3 : Int) (v4 : List (Int × Int × Unit)) : Option ((Bool × Unit) ⊕ Unit) :=
  (some (Sum.inr ()))
theorem zV_m_w3_le (n : Nat) (hn : big ≤ n)  (r0 : List (List (Int × Int × Unit)) → List (List (Int × Int × Unit)) → Int → Option (Bool × Unit)) (a0_3 : List (List (Int × Int × Unit))) (b1_3 : List (List (Int × Int × Unit))) (i5_3 : Int) (v4 : List (Int × Int × Unit)) (h0__ : (idx a0_3 i5_3) = some v4) (hx : ((↑v4.length : Int)) ≤ (9223372036854775807 : Int)) : LeF (elim some fun (s__ : Unit) => r0 a0_3 b1_3 (IntKind.i64.wrap (i5_3 + 1))) (loopN (fun i__ s__ => zV_b3 a0_3 b1_3 i5_3 v4 i__) (fun s__ => zV_f3 a0_3 b1_3 i5_3 v4) (((↑v4.length : Int)) - 0).toNat 0 ()) (zV_m_w3 n r0 n a0_3 b1_3 i5_3 0) := by
  refine loopN_le (f := (elim some fun (s__ : Unit) => r0 a0_3 b1_3 (IntKind.i64.wrap (i5_3 + 1)))) (W := fun k__ i__ s__ => zV_m_w3 n r0 k__ a0_3 b1_3 i5_3 i__) (body := (fun i__ s__ => zV_b3 a0_3 b1_3 i5_3 v4 i__)) (fin := (fun s__ => zV_f3 a0_3 b1_3 i5_3 v4)) (fun k__ i__ s__ => ?_) hx () n 0 (by decide) (by unfold big at hn; omega)
  show LeF _ _ (zV_m_l3 n r0 (zV_m_w3 n r0 k__) a0_3 b1_3 i5_3 i__)
  exact leAt h0__ (leCond (leBind fun v5 => (leBind fun v6 => (leBind fun v7 => (leBind fun v8 => (leCond (leSome rfl) (leSome rfl)))))) (leMap (leSome rfl)))
def zV_b0 (a0_0 : List (List (Int × Int × Unit))) (b1_0 : List (List (Int × Int × Unit))) (i5_0 : Int) (v1 : List (Int × Int × Unit)) : Option ((Bool × Unit) ⊕ Unit) :=
  (Option.bind (idx b1_0 i5_0) fun (v2 : List (Int × Int × Unit)) => (bif (↑v1.length : Int) != (↑v2.length : Int) then (some (Sum.inl ((Bool.false, ())))) else (Option.bind (idx a0_0 i5_0) fun (v4 : List (Int × Int × Unit)) => (bif decide (((↑v4.length : Int)) ≤ (9223372036854775807 : Int)) then loopN (fun i__ s__ => zV_b3 (a0_0) (b1_0) (i5_0) v4 i__) (fun s__ => zV_f3 (a0_0) (b1_0) (i5_0) v4) (((↑v4.length : Int)) - 0).toNat 0 () else none))))
def zV_f0 (a0_0 : List (List (Int × Int × Unit))) (b1_0 : List (List (Int × Int × Unit))) : Option (Bool × Unit) :=
  (some ((Bool.true, ())))
theorem zV_m_w0_le (n : Nat) (hn : big ≤ n)  (a0_0 : List (List (Int × Int × Unit))) (b1_0 : List (List (Int × Int × Unit))) (hx : List.length (a0_0) < lenMax) : LeF some (loopL (fun i__ e__ s__ => zV_b0 a0_0 b1_0 i__ e__) (fun s__ => zV_f0 a0_0 b1_0) 0 (a0_0) ()) (zV_m_w0 n n a0_0 b1_0 0) := by
  refine loopL_le (f := some) (W := fun k__ i__ s__ => zV_m_w0 n k__ a0_0 b1_0 i__) (body := (fun i__ e__ s__ => zV_b0 a0_0 b1_0 i__ e__)) (fin := (fun s__ => zV_f0 a0_0 b1_0)) (fun k__ i__ s__ => ?_) hx () n (by unfold big at hn; unfold lenMax at hx; omega)
  show LeF _ _ (zV_m_l0 n (zV_m_w0 n k__) a0_0 b1_0 i__)
  exact leCond (leBind fun v1 => (leBind fun v2 => (leCond (leSome rfl) (leBindE fun v4 h0__ => (leGuard fun hx => by apply zV_m_w3_le n hn; exact h0__; exact hx))))) (leMap (leSome rfl))
def zV_M (a : List (List (Int × Int × Unit))) (b : List (List (Int × Int × Unit))) : Option (Bool × Unit) :=
  (bif (↑a.length : Int) != (↑b.length : Int) then (some ((Bool.false, ()))) else (bif decide (List.length (a) < lenMax) then loopL (fun i__ e__ s__ => zV_b0 (a) (b) i__ e__) (fun s__ => zV_f0 (a) (b)) 0 (a) () else none))
theorem zV_run (a : List (List (Int × Int × Unit))) (b : List (List (Int × Int × Unit))) (y : Bool × Unit) (h : zV_M a b = some y) : ∃ n, zV_m n a b = some y :=
  ⟨big, LeF.top (show LeF some (zV_M a b) (zV_m big a b) from (fun (n : Nat) (hn : big ≤ n) => show LeF some (zV_M a b) (zV_m n a b) from (leCond (leSome rfl) (leGuard fun hx => by apply zV_m_w0_le n hn; exact hx))) big (Nat.le_refl _)) h⟩
def zV_e : Entry := { f := 74, args := zV_a, ress := zV_r, m := fun x => zV_M x.1 x.2.1 }
theorem zV_ok : FnOK Tryz.prog zV_e := fn_ok (g := zV_g) (fn := Tryz.f74) hmixed tabOk eNil (by kernel_rfl) (by kernel_rfl) (by kernel_rfl) (fun x y h => let ⟨n, hn⟩ := zV_run x.1 x.2.1 y h; ⟨zV_an n, iNil, (zV_eq n x).trans hn⟩)
abbrev z0m_a : Ty := .unit
abbrev z0m_r : Ty := .pair t41 .unit
def z0m_g : G := { T := T, E := [], muts := [], fz := [] }
def z0m_k : List (List Nat) := []
def z0m_an (n : Nat) : Ann := { keep := z0m_k, fuel := n, inl := [], deep := 0 }
def z0m_m (n : Nat)  : Option (Bas × Unit) :=
  some (([([(108 : UInt8), (97 : UInt8), (107 : UInt8), (101 : UInt8)], (10 : Int), (20 : Int), ()), ([(112 : UInt8), (111 : UInt8), (108 : UInt8), (100 : UInt8), (101 : UInt8), (114 : UInt8)], (5 : Int), (8 : Int), ())], [([(98 : UInt8), (97 : UInt8), (114 : UInt8), (114 : UInt8), (105 : UInt8), (101 : UInt8), (114 : UInt8)], (-1 : Int), (0 : Int), (0 : Int), (2 : Int), ()), ([(112 : UInt8), (117 : UInt8), (109 : UInt8), (112 : UInt8)], (1 : Int), (0 : Int), (4 : Int), (10 : Int), ()), ([(111 : UInt8), (117 : UInt8), (116 : UInt8), (102 : UInt8), (97 : UInt8), (108 : UInt8), (108 : UInt8)], (0 : Int), (-1 : Int), (12 : Int), (4 : Int), ())], ()), ())
theorem z0m_eq (n : Nat) (x : z0m_a.den) : runF z0m_g (z0m_an n) Tryz.f86 z0m_a z0m_r x = z0m_m n := by kernel_rfl
def z0m  : (Bas × Unit) :=
  (([([(108 : UInt8), (97 : UInt8), (107 : UInt8), (101 : UInt8)], (10 : Int), (20 : Int), ()), ([(112 : UInt8), (111 : UInt8), (108 : UInt8), (100 : UInt8), (101 : UInt8), (114 : UInt8)], (5 : Int), (8 : Int), ())], [([(98 : UInt8), (97 : UInt8), (114 : UInt8), (114 : UInt8), (105 : UInt8), (101 : UInt8), (114 : UInt8)], (-1 : Int), (0 : Int), (0 : Int), (2 : Int), ()), ([(112 : UInt8), (117 : UInt8), (109 : UInt8), (112 : UInt8)], (1 : Int), (0 : Int), (4 : Int), (10 : Int), ()), ([(111 : UInt8), (117 : UInt8), (116 : UInt8), (102 : UInt8), (97 : UInt8), (108 : UInt8), (108 : UInt8)], (0 : Int), (-1 : Int), (12 : Int), (4 : Int), ())], ()), ())
abbrev z0m_M  : Option (Bas × Unit) := some (z0m)
theorem z0m_run  (y : Bas × Unit) (h : z0m_M = some y) : ∃ n, z0m_m n = some y :=
  ⟨0, by rw [← h]; show z0m_m 0 = some (z0m); unfold z0m_m z0m; first | rfl | (simp only [cond_some]; done) | (simp only [cond_some]; rfl)⟩
def z0m_e : Entry := { f := 86, args := z0m_a, ress := z0m_r, m := fun x => z0m_M }
theorem z0m_ok : FnOK Tryz.prog z0m_e := fn_ok (g := z0m_g) (fn := Tryz.f86) hmixed tabOk eNil (by kernel_rfl) (by kernel_rfl) (by kernel_rfl) (fun x y h => let ⟨n, hn⟩ := z0m_run y h; ⟨z0m_an n, iNil, (z0m_eq n x).trans hn⟩)
abbrev z0J_a : Ty := .pair t9 .unit
abbrev z0J_r : Ty := .pair t4 .unit
def z0J_g : G := { T := T, E := [], muts := [], fz := [] }
def z0J_k : List (List Nat) := [[0, 8, 16, 17, 20, 21, 22, 23, 24, 25, 30, 31, 34, 35, 40, 41, 42, 43, 44, 45, 50, 51, 52]]
def z0J_an (n : Nat) : Ann := { keep := z0J_k, fuel := n, inl := [], deep := 0 }
def z0J_m_j14 (n : Nat) (r0 : List UInt8 → List UInt8 → Int → Option (Bool × Unit)) (s0_0 : List UInt8) (str0__0 : List UInt8) (pos0__0 : Int) (j2 : Bool) (j7 : Bool) : Option (Bool × Unit) :=
  (bif !j2 then (bif pos0__0 == (0 : Int) then some (Bool.false, ()) else (bif !j7 then some (Bool.false, ()) else r0 s0_0 str0__0 (runeAt str0__0 pos0__0).2)) else r0 s0_0 str0__0 (runeAt str0__0 pos0__0).2)
def z0J_m_j15 (n : Nat) (r0 : List UInt8 → List UInt8 → Int → Option (Bool × Unit)) (s0_0 : List UInt8) (str0__0 : List UInt8) (pos0__0 : Int) (j2 : Bool) : Option (Bool × Unit) :=
  (bif decide ((runeAt str0__0 pos0__0).1 ≥ (48 : Int)) then (bif decide ((runeAt str0__0 pos0__0).1 ≤ (57 : Int)) then (z0J_m_j14 n r0 s0_0 str0__0 pos0__0 j2 (Bool.true)) else (z0J_m_j14 n r0 s0_0 str0__0 pos0__0 j2 ((runeAt str0__0 pos0__0).1 == (95 : Int)))) else (z0J_m_j14 n r0 s0_0 str0__0 pos0__0 j2 ((runeAt str0__0 pos0__0).1 == (95 : Int))))
def z0J_m_l0 (n : Nat) (r0 : List UInt8 → List UInt8 → Int → Option (Bool × Unit)) (s0_0 : List UInt8) (str0__0 : List UInt8) (pos0__0 : Int) : Option (Bool × Unit) :=
  (bif decide (pos0__0 < (↑str0__0.length : Int)) then (bif decide ((runeAt str0__0 pos0__0).1 ≥ (65 : Int)) then (bif decide ((runeAt str0__0 pos0__0).1 ≤ (90 : Int)) then (z0J_m_j15 n r0 s0_0 str0__0 pos0__0 (Bool.true)) else (bif decide ((runeAt str0__0 pos0__0).1 ≥ (97 : Int)) then (z0J_m_j15 n r0 s0_0 str0__0 pos0__0 (decide ((runeAt str0__0 pos0__0).1 ≤ (122 : Int)))) else (z0J_m_j15 n r0 s0_0 str0__0 pos0__0 (Bool.false)))) else (bif decide ((runeAt str0__0 pos0__0).1 ≥ (97 : Int)) then (z0J_m_j15 n r0 s0_0 str0__0 pos0__0 (decide ((runeAt str0__0 pos0__0).1 ≤ (122 : Int)))) else (z0J_m_j15 n r0 s0_0 str0__0 pos0__0 (Bool.false)))) else (bif !s0_0 == [] then some (decide ((↑s0_0.length : Int) ≤ (24 : Int)), ()) else some (Bool.false, ())))
def z0J_m_w0 (n : Nat)  (k : Nat) (s0_0 : List UInt8) (str0__0 : List UInt8) (pos0__0 : Int) : Option (Bool × Unit) :=
  iter (fun r y => z0J_m_l0 n (fun s0_0 str0__0 pos0__0 => r ((s0_0, ()), (((str0__0, pos0__0), ()), ()))) y.1.1 y.2.1.1.1 y.2.1.1.2) k ((s0_0, ()), (((str0__0, pos0__0), ()), ()))
def z0J_m (n : Nat) (s : List UInt8) : Option (Bool × Unit) :=
  (z0J_m_w0 n n (s) (s) ((0 : Int)))
theorem z0J_eq (n : Nat) (x : z0J_a.den) : runF z0J_g (z0J_an n) Tryz.f100 z0J_a z0J_r x = z0J_m n x.1 := by kernel_rfl
def z0J_s14 (s0_0 : List UInt8) (str0__0 : List UInt8) (pos0__0 : Int) (j2 : Bool) (j7 : Bool) : Option ((Bool × Unit) ⊕ Unit) :=
  (bif !j2 then (bif pos0__0 == (0 : Int) then (some (Sum.inl ((Bool.false, ())))) else (bif !j7 then (some (Sum.inl ((Bool.false, ())))) else (some (Sum.inr ())))) else (some (Sum.inr ())))
theorem gauge_IsName_s14_le (n : Nat) (hn : big ≤ n)  (r0 : List UInt8 → List UInt8 → Int → Option (Bool × Unit)) (s0_0 : List UInt8) (str0__0 : List UInt8) (pos0__0 : Int) (j2 : Bool) (j7 : Bool) : LeF (elim some fun (s__ : Unit) => r0 s0_0 str0__0 (runeAt (str0__0) pos0__0).2) (z0J_s14 s0_0 str0__0 pos0__0 j2 j7) (z0J_m_j14 n r0 s0_0 str0__0 pos0__0 j2 j7) :=
  (leCond (leCond (leSome rfl) (leCond (leSome rfl) (leSome rfl))) (leSome rfl))
def z0J_s15 (s0_0 : List UInt8) (str0__0 : List UInt8) (pos0__0 : Int) (j2 : Bool) : Option ((Bool × Unit) ⊕ Unit) :=
  (bif decide ((runeAt str0__0 pos0__0).1 ≥ (48 : Int)) then (bif decide ((runeAt str0__0 pos0__0).1 ≤ (57 : Int)) then (z0J_s14 s0_0 str0__0 pos0__0 j2 (Bool.true)) else (z0J_s14 s0_0 str0__0 pos0__0 j2 ((runeAt str0__0 pos0__0).1 == (95 : Int)))) else (z0J_s14 s0_0 str0__0 pos0__0 j2 ((runeAt str0__0 pos0__0).1 == (95 : Int))))
theorem gauge_IsName_s15_le (n : Nat) (hn : big ≤ n)  (r0 : List UInt8 → List UInt8 → Int → Option (Bool × Unit)) (s0_0 : List UInt8) (str0__0 : List UInt8) (pos0__0 : Int) (j2 : Bool) : LeF (elim some fun (s__ : Unit) => r0 s0_0 str0__0 (runeAt (str0__0) pos0__0).2) (z0J_s15 s0_0 str0__0 pos0__0 j2) (z0J_m_j15 n r0 s0_0 str0__0 pos0__0 j2) :=
  (leCond (leCond (by apply gauge_IsName_s14_le n hn) (by apply gauge_IsName_s14_le n hn)) (by apply gauge_IsName_s14_le n hn))
def z0J_b0 (s0_0 : List UInt8) (str0__0 : List UInt8) (pos0__0 : Int) : Option ((Bool × Unit) ⊕ Unit) :=
  (bif decide ((runeAt str0__0 pos0__0).1 ≥ (65 : Int)) then (bif decide ((runeAt str0__0 pos0__0).1 ≤ (90 : Int)) then (z0J_s15 s0_0 str0__0 pos0__0 (Bool.true)) else (bif decide ((runeAt str0__0 pos0__0).1 ≥ (97 : Int)) then (z0J_s15 s0_0 str0__0 pos0__0 (decide ((runeAt str0__0 pos0__0).1 ≤ (122 : Int)))) else (z0J_s15 s0_0 str0__0 pos0__0 (Bool.false)))) else (bif decide ((runeAt str0__0 pos0__0).1 ≥ (97 : Int)) then (z0J_s15 s0_0 str0__0 pos0__0 (decide ((runeAt str0__0 pos0__0).1 ≤ (122 : Int)))) else (z0J_s15 s0_0 str0__0 pos0__0 (Bool.false))))
def z0J_f0 (s0_0 : List UInt8) (str0__0 : List UInt8) : Option (Bool × Unit) :=
  (bif !s0_0 == [] then (some ((decide ((↑s0_0.length : Int) ≤ (24 : Int)), ()))) else (some ((Bool.false, ()))))
theorem z0J_m_w0_le (n : Nat) (hn : big ≤ n)  (s0_0 : List UInt8) (str0__0 : List UInt8) (hx : List.length (str0__0) < lenMax) : LeF some (loopS (str0__0) (fun i__ s__ => z0J_b0 s0_0 str0__0 i__) (fun s__ => z0J_f0 s0_0 str0__0) (List.length (str0__0)) 0 ()) (z0J_m_w0 n n s0_0 str0__0 0) := by
  refine loopS_le (f := some) (W := fun k__ i__ s__ => z0J_m_w0 n k__ s0_0 str0__0 i__) (body := (fun i__ s__ => z0J_b0 s0_0 str0__0 i__)) (fin := (fun s__ => z0J_f0 s0_0 str0__0)) (fun k__ i__ s__ => ?_) () n (by unfold big at hn; unfold lenMax at hx; omega)
  show LeF _ _ (z0J_m_l0 n (z0J_m_w0 n k__) s0_0 str0__0 i__)
  exact leCond (leCond (leCond (by apply gauge_IsName_s15_le n hn) (leCond (by apply gauge_IsName_s15_le n hn) (by apply gauge_IsName_s15_le n hn))) (leCond (by apply gauge_IsName_s15_le n hn) (by apply gauge_IsName_s15_le n hn))) (leMap (leCond (leSome rfl) (leSome rfl)))
def z0J_M (s : List UInt8) : Option (Bool × Unit) :=
  (bif decide (List.length (s) < lenMax) then loopS (s) (fun i__ s__ => z0J_b0 (s) (s) i__) (fun s__ => z0J_f0 (s) (s)) (List.length (s)) 0 () else none)
theorem z0J_run (s : List UInt8) (y : Bool × Unit) (h : z0J_M s = some y) : ∃ n, z0J_m n s = some y :=
  ⟨big, LeF.top (show LeF some (z0J_M s) (z0J_m big s) from (fun (n : Nat) (hn : big ≤ n) => show LeF some (z0J_M s) (z0J_m n s) from (leGuard fun hx => by apply z0J_m_w0_le n hn; exact hx)) big (Nat.le_refl _)) h⟩
def z0J_e : Entry := { f := 100, args := z0J_a, ress := z0J_r, m := fun x => z0J_M x.1 }
theorem z0J_ok : FnOK Tryz.prog z0J_e := fn_ok (g := z0J_g) (fn := Tryz.f100) hmixed tabOk eNil (by kernel_rfl) (by kernel_rfl) (by kernel_rfl) (fun x y h => let ⟨n, hn⟩ := z0J_run x.1 y h; ⟨z0J_an n, iNil, (z0J_eq n x).trans hn⟩)
abbrev zB_a : Ty := .pair t39 (.pair t177 .unit)
abbrev zB_r : Ty := .pair t174 .unit
def zB_g : G := { T := T, E := [], muts := [5], fz := [] }
def zB_k : List (List Nat) := [[1, 5, 8, 9, 10]]
def zB_an (n : Nat) : Ann := { keep := zB_k, fuel := n, inl := [], deep := 0 }
def zB_m_l0 (n : Nat) (r0 : (Lnk × Unit → Option (Int × Unit)) → List Lnk → Int → Int → List Int → Option (List Int × Unit)) (of1_0 : Lnk × Unit → Option (Int × Unit)) (t8_0 : List Lnk) (t9_0 : Int) (t10_0 : Int) (c0_0 : List Int) : Option (List Int × Unit) :=
  (bif decide (t10_0 < t9_0) then (Option.bind (idx t8_0 t10_0) fun (v1 : Lnk) => (Option.bind (of1_0 ((v1.1, v1.2.1, v1.2.2.1, v1.2.2.2.1, v1.2.2.2.2.1, ()), ())) fun (v2 : Int × Unit) => (bif decide (c0_0.length + (1 : Nat) ≤ memMax) then r0 of1_0 t8_0 t9_0 (IntKind.i64.wrap (t10_0 + (1 : Int))) (c0_0 ++ [v2.1]) else none))) else some (c0_0, ()))
def zB_m_w0 (n : Nat)  (k : Nat) (of1_0 : Lnk × Unit → Option (Int × Unit)) (t8_0 : List Lnk) (t9_0 : Int) (t10_0 : Int) (c0_0 : List Int) : Option (List Int × Unit) :=
  iter (fun r y => zB_m_l0 n (fun of1_0 t8_0 t9_0 t10_0 c0_0 => r ((of1_0, (t8_0, (t9_0, (t10_0, ())))), ((c0_0, ()), ()))) y.1.1 y.1.2.1 y.1.2.2.1 y.1.2.2.2.1 y.2.1.1) k ((of1_0, (t8_0, (t9_0, (t10_0, ())))), ((c0_0, ()), ()))
def zB_m (n : Nat) (l : List Lnk) (of : Lnk × Unit → Option (Int × Unit)) : Option (List Int × Unit) :=
  (zB_m_w0 n n (of) (l) ((↑l.length : Int)) ((0 : Int)) ([]))
theorem zB_eq (n : Nat) (x : zB_a.den) : runF zB_g (zB_an n) Tryz.f101 zB_a zB_r x = zB_m n x.1 x.2.1 := by kernel_rfl
def zB_b0 (of1_0 : Lnk × Unit → Option (Int × Unit)) (t8_0 : List Lnk) (t10_0 : Int) (v1 : Lnk) (c0_0 : List Int) : Option ((List Int × Unit) ⊕ (List Int)) :=
  (Option.bind (of1_0 ((v1.1, v1.2.1, v1.2.2.1, v1.2.2.2.1, v1.2.2.2.2.1, ()), ())) fun (v2 : Int × Unit) => (bif decide (c0_0.length + (1 : Nat) ≤ memMax) then (some (Sum.inr (c0_0 ++ [v2.1]))) else none))
def zB_f0 (of1_0 : Lnk × Unit → Option (Int × Unit)) (t8_0 : List Lnk) (c0_0 : List Int) : Option (List Int × Unit) :=
  (some ((c0_0, ())))
theorem zB_m_w0_le (n : Nat) (hn : big ≤ n)  (of1_0 : Lnk × Unit → Option (Int × Unit)) (t8_0 : List Lnk) (c0_0 : List Int) (hx : List.length (t8_0) < lenMax) : LeF some (loopL (fun i__ e__ s__ => zB_b0 of1_0 t8_0 i__ e__ s__) (fun s__ => zB_f0 of1_0 t8_0 s__) 0 (t8_0) c0_0) (zB_m_w0 n n of1_0 t8_0 (List.length (t8_0) : Int) 0 c0_0) := by
  refine loopL_le (f := some) (W := fun k__ i__ s__ => zB_m_w0 n k__ of1_0 t8_0 (List.length (t8_0) : Int) i__ s__) (body := (fun i__ e__ s__ => zB_b0 of1_0 t8_0 i__ e__ s__)) (fin := (fun s__ => zB_f0 of1_0 t8_0 s__)) (fun k__ i__ s__ => ?_) hx c0_0 n (by unfold big at hn; unfold lenMax at hx; omega)
  show LeF _ _ (zB_m_l0 n (zB_m_w0 n k__) of1_0 t8_0 (List.length (t8_0) : Int) i__ s__)
  exact leCond (leBind fun v1 => (leBind fun v2 => (leCond (leSome rfl) leNone))) (leMap (leSome rfl))
def zB_M (l : List Lnk) (of : Lnk × Unit → Option (Int × Unit)) : Option (List Int × Unit) :=
  (bif decide (List.length (l) < lenMax) then loopL (fun i__ e__ s__ => zB_b0 (of) (l) i__ e__ s__) (fun s__ => zB_f0 (of) (l) s__) 0 (l) ([]) else none)
theorem zB_run (l : List Lnk) (of : Lnk × Unit → Option (Int × Unit)) (y : List Int × Unit) (h : zB_M l of = some y) : ∃ n, zB_m n l of = some y :=
  ⟨big, LeF.top (show LeF some (zB_M l of) (zB_m big l of) from (fun (n : Nat) (hn : big ≤ n) => show LeF some (zB_M l of) (zB_m n l of) from (leGuard fun hx => by apply zB_m_w0_le n hn; exact hx)) big (Nat.le_refl _)) h⟩
def zB_e : Entry := { f := 101, args := zB_a, ress := zB_r, m := fun x => zB_M x.1 x.2.1 }
theorem zB_ok : FnOK Tryz.prog zB_e := fn_ok (g := zB_g) (fn := Tryz.f101) hmixed tabOk eNil (by kernel_rfl) (by kernel_rfl) (by kernel_rfl) (fun x y h => let ⟨n, hn⟩ := zB_run x.1 x.2.1 y h; ⟨zB_an n, iNil, (zB_eq n x).trans hn⟩)
abbrev z6_a : Ty := .pair t108 (.pair t186 .unit)
abbrev z6_r : Ty := .pair t54 .unit
def z6_g : G := { T := T, E := [], muts := [5], fz := [] }
def z6_k : List (List Nat) := [[1, 5, 8, 9, 10]]
def z6_an (n : Nat) : Ann := { keep := z6_k, fuel := n, inl := [], deep := 0 }
def z6_m_l0 (n : Nat) (r0 : (Rng × Unit → Option (Cnd × Unit)) → List Rng → Int → Int → List Cnd → Option (List Cnd × Unit)) (of1_0 : Rng × Unit → Option (Cnd × Unit)) (t8_0 : List Rng) (t9_0 : Int) (t10_0 : Int) (c0_0 : List Cnd) : Option (List Cnd × Unit) :=
  (bif decide (t10_0 < t9_0) then (Option.bind (idx t8_0 t10_0) fun (v1 : Rng) => (Option.bind (of1_0 (((v1.1.1, v1.1.2.1, ()), v1.2.1, v1.2.2.1, ()), ())) fun (v2 : Cnd × Unit) => (bif decide (c0_0.length + (1 : Nat) ≤ memMax) then r0 of1_0 t8_0 t9_0 (IntKind.i64.wrap (t10_0 + (1 : Int))) (c0_0 ++ [v2.1]) else none))) else some (c0_0, ()))
def z6_m_w0 (n : Nat)  (k : Nat) (of1_0 : Rng × Unit → Option (Cnd × Unit)) (t8_0 : List Rng) (t9_0 : Int) (t10_0 : Int) (c0_0 : List Cnd) : Option (List Cnd × Unit) :=
  iter (fun r y => z6_m_l0 n (fun of1_0 t8_0 t9_0 t10_0 c0_0 => r ((of1_0, (t8_0, (t9_0, (t10_0, ())))), ((c0_0, ()), ()))) y.1.1 y.1.2.1 y.1.2.2.1 y.1.2.2.2.1 y.2.1.1) k ((of1_0, (t8_0, (t9_0, (t10_0, ())))), ((c0_0, ()), ()))
def z6_m (n : Nat) (l : List Rng) (of : Rng × Unit → Option (Cnd × Unit)) : Option (List Cnd × Unit) :=
  (z6_m_w0 n n (of) (l) ((↑l.length : Int)) ((0 : Int)) ([]))
theorem z6_eq (n : Nat) (x : z6_a.den) : runF z6_g (z6_an n) Tryz.f109 z6_a z6_r x = z6_m n x.1 x.2.1 := by kernel_rfl
def z6_b0 (of1_0 : Rng × Unit → Option (Cnd × Unit)) (t8_0 : List Rng) (t10_0 : Int) (v1 : Rng) (c0_0 : List Cnd) : Option ((List Cnd × Unit) ⊕ (List Cnd)) :=
  (Option.bind (of1_0 (((v1.1.1, v1.1.2.1, ()), v1.2.1, v1.2.2.1, ()), ())) fun (v2 : Cnd × Unit) => (bif decide (c0_0.length + (1 : Nat) ≤ memMax) then (some (Sum.inr (c0_0 ++ [v2.1]))) else none))
def z6_f0 (of1_0 : Rng × Unit → Option (Cnd × Unit)) (t8_0 : List Rng) (c0_0 : List Cnd) : Option (List Cnd × Unit) :=
  (some ((c0_0, ())))
theorem z6_m_w0_le (n : Nat) (hn : big ≤ n)  (of1_0 : Rng × Unit → Option (Cnd × Unit)) (t8_0 : List Rng) (c0_0 : List Cnd) (hx : List.length (t8_0) < lenMax) : LeF some (loopL (fun i__ e__ s__ => z6_b0 of1_0 t8_0 i__ e__ s__) (fun s__ => z6_f0 of1_0 t8_0 s__) 0 (t8_0) c0_0) (z6_m_w0 n n of1_0 t8_0 (List.length (t8_0) : Int) 0 c0_0) := by
  refine loopL_le (f := some) (W := fun k__ i__ s__ => z6_m_w0 n k__ of1_0 t8_0 (List.length (t8_0) : Int) i__ s__) (body := (fun i__ e__ s__ => z6_b0 of1_0 t8_0 i__ e__ s__)) (fin := (fun s__ => z6_f0 of1_0 t8_0 s__)) (fun k__ i__ s__ => ?_) hx c0_0 n (by unfold big at hn; unfold lenMax at hx; omega)
  show LeF _ _ (z6_m_l0 n (z6_m_w0 n k__) of1_0 t8_0 (List.length (t8_0) : Int) i__ s__)
  exact leCond (leBind fun v1 => (leBind fun v2 => (leCond (leSome rfl) leNone))) (leMap (leSome rfl))
def z6_M (l : List Rng) (of : Rng × Unit → Option (Cnd × Unit)) : Option (List Cnd × Unit) :=
  (bif decide (List.length (l) < lenMax) then loopL (fun i__ e__ s__ => z6_b0 (of) (l) i__ e__ s__) (fun s__ => z6_f0 (of) (l) s__) 0 (l) ([]) else none)
theorem z6_run (l : List Rng) (of : Rng × Unit → Option (Cnd × Unit)) (y : List Cnd × Unit) (h : z6_M l of = some y) : ∃ n, z6_m n l of = some y :=
  ⟨big, LeF.top (show LeF some (z6_M l of) (z6_m big l of) from (fun (n : Nat) (hn : big ≤ n) => show LeF some (z6_M l of) (z6_m n l of) from (leGuard fun hx => by apply z6_m_w0_le n hn; exact hx)) big (Nat.le_refl _)) h⟩
def z6_e : Entry := { f := 109, args := z6_a, ress := z6_r, m := fun x => z6_M x.1 x.2.1 }
theorem z6_ok : FnOK Tryz.prog z6_e := fn_ok (g := z6_g) (fn := Tryz.f109) hmixed tabOk eNil (by kernel_rfl) (by kernel_rfl) (by kernel_rfl) (fun x y h => let ⟨n, hn⟩ := z6_run x.1 x.2.1 y h; ⟨z6_an n, iNil, (z6_eq n x).trans hn⟩)
abbrev zM_a : Ty := .pair t26 (.pair t208 .unit)
abbrev zM_r : Ty := .pair t67 .unit
def zM_g : G := { T := T, E := [], muts := [5], fz := [] }
def zM_k : List (List Nat) := [[1, 5, 8, 9, 10]]
def zM_an (n : Nat) : Ann := { keep := zM_k, fuel := n, inl := [], deep := 0 }
def zM_m_l0 (n : Nat) (r0 : (Int × Unit → Option (List UInt8 × Unit)) → List Int → Int → Int → List (List UInt8) → Option (List (List UInt8) × Unit)) (of1_0 : Int × Unit → Option (List UInt8 × Unit)) (t8_0 : List Int) (t9_0 : Int) (t10_0 : Int) (c0_0 : List (List UInt8)) : Option (List (List UInt8) × Unit) :=
  (bif decide (t10_0 < t9_0) then (Option.bind (idx t8_0 t10_0) fun (v1 : Int) => (Option.bind (of1_0 (v1, ())) fun (v2 : List UInt8 × Unit) => (bif decide (c0_0.length + (1 : Nat) ≤ memMax) then r0 of1_0 t8_0 t9_0 (IntKind.i64.wrap (t10_0 + (1 : Int))) (c0_0 ++ [v2.1]) else none))) else some (c0_0, ()))
def zM_m_w0 (n : Nat)  (k : Nat) (of1_0 : Int × Unit → Option (List UInt8 × Unit)) (t8_0 : List Int) (t9_0 : Int) (t10_0 : Int) (c0_0 : List (List UInt8)) : Option (List (List UInt8) × Unit) :=
  iter (fun r y => zM_m_l0 n (fun of1_0 t8_0 t9_0 t10_0 c0_0 => r ((of1_0, (t8_0, (t9_0, (t10_0, ())))), ((c0_0, ()), ()))) y.1.1 y.1.2.1 y.1.2.2.1 y.1.2.2.2.1 y.2.1.1) k ((of1_0, (t8_0, (t9_0, (t10_0, ())))), ((c0_0, ()), ()))
def zM_m (n : Nat) (l : List Int) (of : Int × Unit → Option (List UInt8 × Unit)) : Option (List (List UInt8) × Unit) :=
  (zM_m_w0 n n (of) (l) ((↑l.length : Int)) ((0 : Int)) ([]))
theorem zM_eq (n : Nat) (x : zM_a.den) : runF zM_g (zM_an n) Tryz.f128 zM_a zM_r x = zM_m n x.1 x.2.1 := by kernel_rfl
def zM_b0 (of1_0 : Int × Unit → Option (List UInt8 × Unit)) (t8_0 : List Int) (t10_0 : Int) (v1 : Int) (c0_0 : List (List UInt8)) : Option ((List (List UInt8) × Unit) ⊕ (List (List UInt8))) :=
  (Option.bind (of1_0 (v1, ())) fun (v2 : List UInt8 × Unit) => (bif decide (c0_0.length + (1 : Nat) ≤ memMax) then (some (Sum.inr (c0_0 ++ [v2.1]))) else none))
def zM_f0 (of1_0 : Int × Unit → Option (List UInt8 × Unit)) (t8_0 : List Int) (c0_0 : List (List UInt8)) : Option (List (List UInt8) × Unit) :=
  (some ((c0_0, ())))
theorem zM_m_w0_le (n : Nat) (hn : big ≤ n)  (of1_0 : Int × Unit → Option (List UInt8 × Unit)) (t8_0 : List Int) (c0_0 : List (List UInt8)) (hx : List.length (t8_0) < lenMax) : LeF some (loopL (fun i__ e__ s__ => zM_b0 of1_0 t8_0 i__ e__ s__) (fun s__ => zM_f0 of1_0 t8_0 s__) 0 (t8_0) c0_0) (zM_m_w0 n n of1_0 t8_0 (List.length (t8_0) : Int) 0 c0_0) := by
  refine loopL_le (f := some) (W := fun k__ i__ s__ => zM_m_w0 n k__ of1_0 t8_0 (List.length (t8_0) : Int) i__ s__) (body := (fun i__ e__ s__ => zM_b0 of1_0 t8_0 i__ e__ s__)) (fin := (fun s__ => zM_f0 of1_0 t8_0 s__)) (fun k__ i__ s__ => ?_) hx c0_0 n (by unfold big at hn; unfold lenMax at hx; omega)
  show LeF _ _ (zM_m_l0 n (zM_m_w0 n k__) of1_0 t8_0 (List.length (t8_0) : Int) i__ s__)
  exact leCond (leBind fun v1 => (leBind fun v2 => (leCond (leSome rfl) leNone))) (leMap (leSome rfl))
def zM_M (l : List Int) (of : Int × Unit → Option (List UInt8 × Unit)) : Option (List (List UInt8) × Unit) :=
  (bif decide (List.length (l) < lenMax) then loopL (fun i__ e__ s__ => zM_b0 (of) (l) i__ e__ s__) (fun s__ => zM_f0 (of) (l) s__) 0 (l) ([]) else none)
theorem zM_run (l : List Int) (of : Int × Unit → Option (List UInt8 × Unit)) (y : List (List UInt8) × Unit) (h : zM_M l of = some y) : ∃ n, zM_m n l of = some y :=
  ⟨big, LeF.top (show LeF some (zM_M l of) (zM_m big l of) from (fun (n : Nat) (hn : big ≤ n) => show LeF some (zM_M l of) (zM_m n l of) from (leGuard fun hx => by apply zM_m_w0_le n hn; exact hx)) big (Nat.le_refl _)) h⟩
def zM_e : Entry := { f := 128, args := zM_a, ress := zM_r, m := fun x => zM_M x.1 x.2.1 }
theorem zM_ok : FnOK Tryz.prog zM_e := fn_ok (g := zM_g) (fn := Tryz.f128) hmixed tabOk eNil (by kernel_rfl) (by kernel_rfl) (by kernel_rfl) (fun x y h => let ⟨n, hn⟩ := zM_run x.1 x.2.1 y h; ⟨zM_an n, iNil, (zM_eq n x).trans hn⟩)
abbrev zH_a : Ty := .pair t26 (.pair t176 .unit)
abbrev zH_r : Ty := .pair t174 .unit
def zH_g : G := { T := T, E := [], muts := [5], fz := [] }
def zH_k : List (List Nat) := [[1, 5, 8, 9, 10]]
def zH_an (n : Nat) : Ann := { keep := zH_k, fuel := n, inl := [], deep := 0 }
def zH_m_l0 (n : Nat) (r0 : (Int × Unit → Option (Int × Unit)) → List Int → Int → Int → List Int → Option (List Int × Unit)) (of1_0 : Int × Unit → Option (Int × Unit)) (t8_0 : List Int) (t9_0 : Int) (t10_0 : Int) (c0_0 : List Int) : Option (List Int × Unit) :=
  (bif decide (t10_0 < t9_0) then (Option.bind (idx t8_0 t10_0) fun (v1 : Int) => (Option.bind (of1_0 (v1, ())) fun (v2 : Int × Unit) => (bif decide (c0_0.length + (1 : Nat) ≤ memMax) then r0 of1_0 t8_0 t9_0 (IntKind.i64.wrap (t10_0 + (1 : Int))) (c0_0 ++ [v2.1]) else none))) else some (c0_0, ()))
def zH_m_w0 (n : Nat)  (k : Nat) (of1_0 : Int × Unit → Option (Int × Unit)) (t8_0 : List Int) (t9_0 : Int) (t10_0 : Int) (c0_0 : List Int) : Option (List Int × Unit) :=
  iter (fun r y => zH_m_l0 n (fun of1_0 t8_0 t9_0 t10_0 c0_0 => r ((of1_0, (t8_0, (t9_0, (t10_0, ())))), ((c0_0, ()), ()))) y.1.1 y.1.2.1 y.1.2.2.1 y.1.2.2.2.1 y.2.1.1) k ((of1_0, (t8_0, (t9_0, (t10_0, ())))), ((c0_0, ()), ()))
def zH_m (n : Nat) (l : List Int) (of : Int × Unit → Option (Int × Unit)) : Option (List Int × Unit) :=
  (zH_m_w0 n n (of) (l) ((↑l.length : Int)) ((0 : Int)) ([]))
theorem zH_eq (n : Nat) (x : zH_a.den) : runF zH_g (zH_an n) Tryz.f138 zH_a zH_r x = zH_m n x.1 x.2.1 := by kernel_rfl
def zH_b0 (of1_0 : Int × Unit → Option (Int × Unit)) (t8_0 : List Int) (t10_0 : Int) (v1 : Int) (c0_0 : List Int) : Option ((List Int × Unit) ⊕ (List Int)) :=
  (Option.bind (of1_0 (v1, ())) fun (v2 : Int × Unit) => (bif decide (c0_0.length + (1 : Nat) ≤ memMax) then (some (Sum.inr (c0_0 ++ [v2.1]))) else none))
def zH_f0 (of1_0 : Int × Unit → Option (Int × Unit)) (t8_0 : List Int) (c0_0 : List Int) : Option (List Int × Unit) :=
  (some ((c0_0, ())))
theorem zH_m_w0_le (n : Nat) (hn : big ≤ n)  (of1_0 : Int × Unit → Option (Int × Unit)) (t8_0 : List Int) (c0_0 : List Int) (hx : List.length (t8_0) < lenMax) : LeF some (loopL (fun i__ e__ s__ => zH_b0 of1_0 t8_0 i__ e__ s__) (fun s__ => zH_f0 of1_0 t8_0 s__) 0 (t8_0) c0_0) (zH_m_w0 n n of1_0 t8_0 (List.length (t8_0) : Int) 0 c0_0) := by
  refine loopL_le (f := some) (W := fun k__ i__ s__ => zH_m_w0 n k__ of1_0 t8_0 (List.length (t8_0) : Int) i__ s__) (body := (fun i__ e__ s__ => zH_b0 of1_0 t8_0 i__ e__ s__)) (fin := (fun s__ => zH_f0 of1_0 t8_0 s__)) (fun k__ i__ s__ => ?_) hx c0_0 n (by unfold big at hn; unfold lenMax at hx; omega)
  show LeF _ _ (zH_m_l0 n (zH_m_w0 n k__) of1_0 t8_0 (List.length (t8_0) : Int) i__ s__)
  exact leCond (leBind fun v1 => (leBind fun v2 => (leCond (leSome rfl) leNone))) (leMap (leSome rfl))
def zH_M (l : List Int) (of : Int × Unit → Option (Int × Unit)) : Option (List Int × Unit) :=
  (bif decide (List.length (l) < lenMax) then loopL (fun i__ e__ s__ => zH_b0 (of) (l) i__ e__ s__) (fun s__ => zH_f0 (of) (l) s__) 0 (l) ([]) else none)
theorem zH_run (l : List Int) (of : Int × Unit → Option (Int × Unit)) (y : List Int × Unit) (h : zH_M l of = some y) : ∃ n, zH_m n l of = some y :=
  ⟨big, LeF.top (show LeF some (zH_M l of) (zH_m big l of) from (fun (n : Nat) (hn : big ≤ n) => show LeF some (zH_M l of) (zH_m n l of) from (leGuard fun hx => by apply zH_m_w0_le n hn; exact hx)) big (Nat.le_refl _)) h⟩
def zH_e : Entry := { f := 138, args := zH_a, ress := zH_r, m := fun x => zH_M x.1 x.2.1 }
theorem zH_ok : FnOK Tryz.prog zH_e := fn_ok (g := zH_g) (fn := Tryz.f138) hmixed tabOk eNil (by kernel_rfl) (by kernel_rfl) (by kernel_rfl) (fun x y h => let ⟨n, hn⟩ := zH_run x.1 x.2.1 y h; ⟨zH_an n, iNil, (zH_eq n x).trans hn⟩)
abbrev z0M_a : Ty := .pair t9 .unit
abbrev z0M_r : Ty := .pair t4 .unit
def z0M_g : G := { T := T, E := [], muts := [], fz := [] }
def z0M_k : List (List Nat) := [[0, 3, 25, 26, 29, 30, 31, 32, 33, 34, 39, 40, 41, 42, 43, 44, 45, 46, 47, 48]]
def z0M_an (n : Nat) : Ann := { keep := z0M_k, fuel := n, inl := [], deep := 0 }
def z0M_m_j15 (n : Nat) (r2 : List UInt8 → Int → Option (Bool × Unit)) (s0_2 : List UInt8) (i3_2 : Int) (v3 : UInt8) : Option (Bool × Unit) :=
  (bif i3_2 == (0 : Int) then some (Bool.false, ()) else (bif (↑v3.toNat : Int) != (95 : Int) then (bif decide ((↑v3.toNat : Int) < (48 : Int)) then some (Bool.false, ()) else (bif decide ((↑v3.toNat : Int) > (57 : Int)) then some (Bool.false, ()) else r2 s0_2 (IntKind.i64.wrap (i3_2 + (1 : Int))))) else r2 s0_2 (IntKind.i64.wrap (i3_2 + (1 : Int)))))
def z0M_m_l2 (n : Nat) (r2 : List UInt8 → Int → Option (Bool × Unit)) (s0_2 : List UInt8) (i3_2 : Int) : Option (Bool × Unit) :=
  (bif decide (i3_2 < (↑s0_2.length : Int)) then (Option.bind (idx s0_2 i3_2) fun (v3 : UInt8) => (bif decide ((↑v3.toNat : Int) ≥ (97 : Int)) then (bif decide ((↑v3.toNat : Int) ≤ (122 : Int)) then r2 s0_2 (IntKind.i64.wrap (i3_2 + (1 : Int))) else (bif decide ((↑v3.toNat : Int) ≥ (65 : Int)) then (bif decide ((↑v3.toNat : Int) ≤ (90 : Int)) then r2 s0_2 (IntKind.i64.wrap (i3_2 + (1 : Int))) else (z0M_m_j15 n r2 s0_2 i3_2 v3)) else (z0M_m_j15 n r2 s0_2 i3_2 v3))) else (bif decide ((↑v3.toNat : Int) ≥ (65 : Int)) then (bif decide ((↑v3.toNat : Int) ≤ (90 : Int)) then r2 s0_2 (IntKind.i64.wrap (i3_2 + (1 : Int))) else (z0M_m_j15 n r2 s0_2 i3_2 v3)) else (z0M_m_j15 n r2 s0_2 i3_2 v3)))) else some (Bool.true, ()))
def z0M_m_w2 (n : Nat)  (k : Nat) (s0_2 : List UInt8) (i3_2 : Int) : Option (Bool × Unit) :=
  iter (fun r y => z0M_m_l2 n (fun s0_2 i3_2 => r ((s0_2, (i3_2, ())), ((), ()))) y.1.1 y.1.2.1) k ((s0_2, (i3_2, ())), ((), ()))
def z0M_m (n : Nat) (s : List UInt8) : Option (Bool × Unit) :=
  (bif (↑s.length : Int) == (0 : Int) then some (Bool.false, ()) else (bif decide ((↑s.length : Int) > (24 : Int)) then some (Bool.false, ()) else (z0M_m_w2 n n (s) ((0 : Int)))))
theorem z0M_eq (n : Nat) (x : z0M_a.den) : runF z0M_g (z0M_an n) Tryz.f143 z0M_a z0M_r x = z0M_m n x.1 := by kernel_rfl
def z0M_s15 (s0_2 : List UInt8) (i3_2 : Int) (v3 : UInt8) : Option ((Bool × Unit) ⊕ Unit) :=
  (bif i3_2 == (0 : Int) then (some (Sum.inl ((Bool.false, ())))) else (bif (↑v3.toNat : Int) != (95 : Int) then (bif decide ((↑v3.toNat : Int) < (48 : Int)) then (some (Sum.inl ((Bool.false, ())))) else (bif decide ((↑v3.toNat : Int) > (57 : Int)) then (some (Sum.inl ((Bool.false, ())))) else (some (Sum.inr ())))) else (some (Sum.inr ()))))
theorem ref01_IsName_s15_le (n : Nat) (hn : big ≤ n)  (r2 : List UInt8 → Int → Option (Bool × Unit)) (s0_2 : List UInt8) (i3_2 : Int) (v3 : UInt8) : LeF (elim some fun (s__ : Unit) => r2 s0_2 (IntKind.i64.wrap (i3_2 + 1))) (z0M_s15 s0_2 i3_2 v3) (z0M_m_j15 n r2 s0_2 i3_2 v3) :=
  (leCond (leSome rfl) (leCond (leCond (leSome rfl) (leCond (leSome rfl) (leSome rfl))) (leSome rfl)))
def z0M_b2 (s0_2 : List UInt8) (i3_2 : Int) (v3 : UInt8) : Option ((Bool × Unit) ⊕ Unit) :=
  (bif decide ((↑v3.toNat : Int) ≥ (97 : Int)) then (bif decide ((↑v3.toNat : Int) ≤ (122 : Int)) then (some (Sum.inr ())) else (bif decide ((↑v3.toNat : Int) ≥ (65 : Int)) then (bif decide ((↑v3.toNat : Int) ≤ (90 : Int)) then (some (Sum.inr ())) else (z0M_s15 s0_2 i3_2 v3)) else (z0M_s15 s0_2 i3_2 v3))) else (bif decide ((↑v3.toNat : Int) ≥ (65 : Int)) then (bif decide ((↑v3.toNat : Int) ≤ (90 : Int)) then (some (Sum.inr ())) else (z0M_s15 s0_2 i3_2 v3)) else (z0M_s15 s0_2 i3_2 v3)))
def z0M_f2 (s0_2 : List UInt8) : Option (Bool × Unit) :=
  (some ((Bool.true, ())))
theorem z0M_m_w2_le (n : Nat) (hn : big ≤ n)  (s0_2 : List UInt8) (hx : List.length (s0_2) < lenMax) : LeF some (loopL (fun i__ e__ s__ => z0M_b2 s0_2 i__ e__) (fun s__ => z0M_f2 s0_2) 0 (s0_2) ()) (z0M_m_w2 n n s0_2 0) := by
  refine loopL_le (f := some) (W := fun k__ i__ s__ => z0M_m_w2 n k__ s0_2 i__) (body := (fun i__ e__ s__ => z0M_b2 s0_2 i__ e__)) (fin := (fun s__ => z0M_f2 s0_2)) (fun k__ i__ s__ => ?_) hx () n (by unfold big at hn; unfold lenMax at hx; omega)
  show LeF _ _ (z0M_m_l2 n (z0M_m_w2 n k__) s0_2 i__)
  exact leCond (leBind fun v3 => (leCond (leCond (leSome rfl) (leCond (leCond (leSome rfl) (by apply ref01_IsName_s15_le n hn)) (by apply ref01_IsName_s15_le n hn))) (leCond (leCond (leSome rfl) (by apply ref01_IsName_s15_le n hn)) (by apply ref01_IsName_s15_le n hn)))) (leMap (leSome rfl))
def z0M_M (s : List UInt8) : Option (Bool × Unit) :=
  (bif (↑s.length : Int) == (0 : Int) then (some ((Bool.false, ()))) else (bif decide ((↑s.length : Int) > (24 : Int)) then (some ((Bool.false, ()))) else (bif decide (List.length (s) < lenMax) then loopL (fun i__ e__ s__ => z0M_b2 (s) i__ e__) (fun s__ => z0M_f2 (s)) 0 (s) () else none)))
theorem z0M_run (s : List UInt8) (y : Bool × Unit) (h : z0M_M s = some y) : ∃ n, z0M_m n s = some y :=
  ⟨big, LeF.top (show LeF some (z0M_M s) (z0M_m big s) from (fun (n : Nat) (hn : big ≤ n) => show LeF some (z0M_M s) (z0M_m n s) from (leCond (leSome rfl) (leCond (leSome rfl) (leGuard fun hx => by apply z0M_m_w2_le n hn; exact hx)))) big (Nat.le_refl _)) h⟩
def z0M_e : Entry := { f := 143, args := z0M_a, ress := z0M_r, m := fun x => z0M_M x.1 }
theorem z0M_ok : FnOK Tryz.prog z0M_e := fn_ok (g := z0M_g) (fn := Tryz.f143) hmixed tabOk eNil (by kernel_rfl) (by kernel_rfl) (by kernel_rfl) (fun x y h => let ⟨n, hn⟩ := z0M_run x.1 y h; ⟨z0M_an n, iNil, (z0M_eq n x).trans hn⟩)
abbrev z7_a : Ty := .pair t54 (.pair t156 .unit)
abbrev z7_r : Ty := .pair t174 .unit
def z7_g : G := { T := T, E := [], muts := [5], fz := [] }
def z7_k : List (List Nat) := [[1, 5, 8, 9, 10]]
def z7_an (n : Nat) : Ann := { keep := z7_k, fuel := n, inl := [], deep := 0 }
def z7_m_l0 (n : Nat) (r0 : (Cnd × Unit → Option (Int × Unit)) → List Cnd → Int → Int → List Int → Option (List Int × Unit)) (of1_0 : Cnd × Unit → Option (Int × Unit)) (t8_0 : List Cnd) (t9_0 : Int) (t10_0 : Int) (c0_0 : List Int) : Option (List Int × Unit) :=
  (bif decide (t10_0 < t9_0) then (Option.bind (idx t8_0 t10_0) fun (v1 : Cnd) => (Option.bind (of1_0 ((v1.1, v1.2.1, v1.2.2.1, ()), ())) fun (v2 : Int × Unit) => (bif decide (c0_0.length + (1 : Nat) ≤ memMax) then r0 of1_0 t8_0 t9_0 (IntKind.i64.wrap (t10_0 + (1 : Int))) (c0_0 ++ [v2.1]) else none))) else some (c0_0, ()))
def z7_m_w0 (n : Nat)  (k : Nat) (of1_0 : Cnd × Unit → Option (Int × Unit)) (t8_0 : List Cnd) (t9_0 : Int) (t10_0 : Int) (c0_0 : List Int) : Option (List Int × Unit) :=
  iter (fun r y => z7_m_l0 n (fun of1_0 t8_0 t9_0 t10_0 c0_0 => r ((of1_0, (t8_0, (t9_0, (t10_0, ())))), ((c0_0, ()), ()))) y.1.1 y.1.2.1 y.1.2.2.1 y.1.2.2.2.1 y.2.1.1) k ((of1_0, (t8_0, (t9_0, (t10_0, ())))), ((c0_0, ()), ()))
def z7_m (n : Nat) (l : List Cnd) (of : Cnd × Unit → Option (Int × Unit)) : Option (List Int × Unit) :=
  (z7_m_w0 n n (of) (l) ((↑l.length : Int)) ((0 : Int)) ([]))
theorem z7_eq (n : Nat) (x : z7_a.den) : runF z7_g (z7_an n) Tryz.f147 z7_a z7_r x = z7_m n x.1 x.2.1 := by kernel_rfl
def z7_b0 (of1_0 : Cnd × Unit → Option (Int × Unit)) (t8_0 : List Cnd) (t10_0 : Int) (v1 : Cnd) (c0_0 : List Int) : Option ((List Int × Unit) ⊕ (List Int)) :=
  (Option.bind (of1_0 ((v1.1, v1.2.1, v1.2.2.1, ()), ())) fun (v2 : Int × Unit) => (bif decide (c0_0.length + (1 : Nat) ≤ memMax) then (some (Sum.inr (c0_0 ++ [v2.1]))) else none))
def z7_f0 (of1_0 : Cnd × Unit → Option (Int × Unit)) (t8_0 : List Cnd) (c0_0 : List Int) : Option (List Int × Unit) :=
  (some ((c0_0, ())))
theorem z7_m_w0_le (n : Nat) (hn : big ≤ n)  (of1_0 : Cnd × Unit → Option (Int × Unit)) (t8_0 : List Cnd) (c0_0 : List Int) (hx : List.length (t8_0) < lenMax) : LeF some (loopL (fun i__ e__ s__ => z7_b0 of1_0 t8_0 i__ e__ s__) (fun s__ => z7_f0 of1_0 t8_0 s__) 0 (t8_0) c0_0) (z7_m_w0 n n of1_0 t8_0 (List.length (t8_0) : Int) 0 c0_0) := by
  refine loopL_le (f := some) (W := fun k__ i__ s__ => z7_m_w0 n k__ of1_0 t8_0 (List.length (t8_0) : Int) i__ s__) (body := (fun i__ e__ s__ => z7_b0 of1_0 t8_0 i__ e__ s__)) (fin := (fun s__ => z7_f0 of1_0 t8_0 s__)) (fun k__ i__ s__ => ?_) hx c0_0 n (by unfold big at hn; unfold lenMax at hx; omega)
  show LeF _ _ (z7_m_l0 n (z7_m_w0 n k__) of1_0 t8_0 (List.length (t8_0) : Int) i__ s__)
  exact leCond (leBind fun v1 => (leBind fun v2 => (leCond (leSome rfl) leNone))) (leMap (leSome rfl))
def z7_M (l : List Cnd) (of : Cnd × Unit → Option (Int × Unit)) : Option (List Int × Unit) :=
  (bif decide (List.length (l) < lenMax) then loopL (fun i__ e__ s__ => z7_b0 (of) (l) i__ e__ s__) (fun s__ => z7_f0 (of) (l) s__) 0 (l) ([]) else none)
theorem z7_run (l : List Cnd) (of : Cnd × Unit → Option (Int × Unit)) (y : List Int × Unit) (h : z7_M l of = some y) : ∃ n, z7_m n l of = some y :=
  ⟨big, LeF.top (show LeF some (z7_M l of) (z7_m big l of) from (fun (n : Nat) (hn : big ≤ n) => show LeF some (z7_M l of) (z7_m n l of) from (leGuard fun hx => by apply z7_m_w0_le n hn; exact hx)) big (Nat.le_refl _)) h⟩
def z7_e : Entry := { f := 147, args := z7_a, ress := z7_r, m := fun x => z7_M x.1 x.2.1 }
theorem z7_ok : FnOK Tryz.prog z7_e := fn_ok (g := z7_g) (fn := Tryz.f147) hmixed tabOk eNil (by kernel_rfl) (by kernel_rfl) (by kernel_rfl) (fun x y h => let ⟨n, hn⟩ := z7_run x.1 x.2.1 y h; ⟨z7_an n, iNil, (z7_eq n x).trans hn⟩)
abbrev zC_a : Ty := .pair t167 (.pair t237 .unit)
abbrev zC_r : Ty := .pair t56 .unit
def zC_g : G := { T := T, E := [], muts := [5], fz := [] }
def zC_k : List (List Nat) := [[1, 5, 8, 9, 10]]
def zC_an (n : Nat) : Ann := { keep := zC_k, fuel := n, inl := [], deep := 0 }
def zC_m_l0 (n : Nat) (r0 : (Psg × Unit → Option (List Int × Unit)) → List Psg → Int → Int → List (List Int) → Option (List (List Int) × Unit)) (of1_0 : Psg × Unit → Option (List Int × Unit)) (t8_0 : List Psg) (t9_0 : Int) (t10_0 : Int) (c0_0 : List (List Int)) : Option (List (List Int) × Unit) :=
  (bif decide (t10_0 < t9_0) then (Option.bind (idx t8_0 t10_0) fun (v1 : Psg) => (Option.bind (of1_0 (((v1.1.1, v1.1.2.1, v1.1.2.2.1, ()), v1.2.1, v1.2.2.1, ()), ())) fun (v2 : List Int × Unit) => (bif decide (c0_0.length + (1 : Nat) ≤ memMax) then r0 of1_0 t8_0 t9_0 (IntKind.i64.wrap (t10_0 + (1 : Int))) (c0_0 ++ [v2.1]) else none))) else some (c0_0, ()))
def zC_m_w0 (n : Nat)  (k : Nat) (of1_0 : Psg × Unit → Option (List Int × Unit)) (t8_0 : List Psg) (t9_0 : Int) (t10_0 : Int) (c0_0 : List (List Int)) : Option (List (List Int) × Unit) :=
  iter (fun r y => zC_m_l0 n (fun of1_0 t8_0 t9_0 t10_0 c0_0 => r ((of1_0, (t8_0, (t9_0, (t10_0, ())))), ((c0_0, ()), ()))) y.1.1 y.1.2.1 y.1.2.2.1 y.1.2.2.2.1 y.2.1.1) k ((of1_0, (t8_0, (t9_0, (t10_0, ())))), ((c0_0, ()), ()))
def zC_m (n : Nat) (l : List Psg) (of : Psg × Unit → Option (List Int × Unit)) : Option (List (List Int) × Unit) :=
  (zC_m_w0 n n (of) (l) ((↑l.length : Int)) ((0 : Int)) ([]))
theorem zC_eq (n : Nat) (x : zC_a.den) : runF zC_g (zC_an n) Tryz.f148 zC_a zC_r x = zC_m n x.1 x.2.1 := by kernel_rfl
def zC_b0 (of1_0 : Psg × Unit → Option (List Int × Unit)) (t8_0 : List Psg) (t10_0 : Int) (v1 : Psg) (c0_0 : List (List Int)) : Option ((List (List Int) × Unit) ⊕ (List (List Int))) :=
  (Option.bind (of1_0 (((v1.1.1, v1.1.2.1, v1.1.2.2.1, ()), v1.2.1, v1.2.2.1, ()), ())) fun (v2 : List Int × Unit) => (bif decide (c0_0.length + (1 : Nat) ≤ memMax) then (some (Sum.inr (c0_0 ++ [v2.1]))) else none))
def zC_f0 (of1_0 : Psg × Unit → Option (List Int × Unit)) (t8_0 : List Psg) (c0_0 : List (List Int)) : Option (List (List Int) × Unit) :=
  (some ((c0_0, ())))
theorem zC_m_w0_le (n : Nat) (hn : big ≤ n)  (of1_0 : Psg × Unit → Option (List Int × Unit)) (t8_0 : List Psg) (c0_0 : List (List Int)) (hx : List.length (t8_0) < lenMax) : LeF some (loopL (fun i__ e__ s__ => zC_b0 of1_0 t8_0 i__ e__ s__) (fun s__ => zC_f0 of1_0 t8_0 s__) 0 (t8_0) c0_0) (zC_m_w0 n n of1_0 t8_0 (List.length (t8_0) : Int) 0 c0_0) := by
  refine loopL_le (f := some) (W := fun k__ i__ s__ => zC_m_w0 n k__ of1_0 t8_0 (List.length (t8_0) : Int) i__ s__) (body := (fun i__ e__ s__ => zC_b0 of1_0 t8_0 i__ e__ s__)) (fin := (fun s__ => zC_f0 of1_0 t8_0 s__)) (fun k__ i__ s__ => ?_) hx c0_0 n (by unfold big at hn; unfold lenMax at hx; omega)
  show LeF _ _ (zC_m_l0 n (zC_m_w0 n k__) of1_0 t8_0 (List.length (t8_0) : Int) i__ s__)
  exact leCond (leBind fun v1 => (leBind fun v2 => (leCond (leSome rfl) leNone))) (leMap (leSome rfl))
def zC_M (l : List Psg) (of : Psg × Unit → Option (List Int × Unit)) : Option (List (List Int) × Unit) :=
  (bif decide (List.length (l) < lenMax) then loopL (fun i__ e__ s__ => zC_b0 (of) (l) i__ e__ s__) (fun s__ => zC_f0 (of) (l) s__) 0 (l) ([]) else none)
theorem zC_run (l : List Psg) (of : Psg × Unit → Option (List Int × Unit)) (y : List (List Int) × Unit) (h : zC_M l of = some y) : ∃ n, zC_m n l of = some y :=
  ⟨big, LeF.top (show LeF some (zC_M l of) (zC_m big l of) from (fun (n : Nat) (hn : big ≤ n) => show LeF some (zC_M l of) (zC_m n l of) from (leGuard fun hx => by apply zC_m_w0_le n hn; exact hx)) big (Nat.le_refl _)) h⟩
def zC_e : Entry := { f := 148, args := zC_a, ress := zC_r, m := fun x => zC_M x.1 x.2.1 }
theorem zC_ok : FnOK Tryz.prog zC_e := fn_ok (g := zC_g) (fn := Tryz.f148) hmixed tabOk eNil (by kernel_rfl) (by kernel_rfl) (by kernel_rfl) (fun x y h => let ⟨n, hn⟩ := zC_run x.1 x.2.1 y h; ⟨zC_an n, iNil, (zC_eq n x).trans hn⟩)
abbrev zx_a : Ty := .pair t180 .unit
abbrev zx_r : Ty := .pair t26 .unit
def zx_g : G := { T := T, E := [], muts := [], fz := [] }
def zx_k : List (List Nat) := []
def zx_an (n : Nat) : Ann := { keep := zx_k, fuel := n, inl := [], deep := 0 }
def zx_m (n : Nat) (p : Psg) : Option (List Int × Unit) :=
  some (p.2.2.1.getD [], ())
theorem zx_eq (n : Nat) (x : zx_a.den) : runF zx_g (zx_an n) Tryz.f149 zx_a zx_r x = zx_m n x.1 := by kernel_rfl
def zx (p : Psg) : (List Int × Unit) :=
  (p.2.2.1.getD [], ())
abbrev zx_M (p : Psg) : Option (List Int × Unit) := some (zx p)
theorem zx_run (p : Psg) (y : List Int × Unit) (h : zx_M p = some y) : ∃ n, zx_m n p = some y :=
  ⟨0, by rw [← h]; show zx_m 0 p = some (zx p); unfold zx_m zx; first | rfl | (simp only [cond_some]; done) | (simp only [cond_some]; rfl)⟩
def zx_e : Entry := { f := 149, args := zx_a, ress := zx_r, m := fun x => zx_M x.1 }
theorem zx_ok : FnOK Tryz.prog zx_e := fn_ok (g := zx_g) (fn := Tryz.f149) hmixed tabOk eNil (by kernel_rfl) (by kernel_rfl) (by kernel_rfl) (fun x y h => let ⟨n, hn⟩ := zx_run x.1 y h; ⟨zx_an n, iNil, (zx_eq n x).trans hn⟩)
abbrev zA_a : Ty := .pair t108 (.pair t190 .unit)
abbrev zA_r : Ty := .pair t174 .unit
def zA_g : G := { T := T, E := [], muts := [5], fz := [] }
def zA_k : List (List Nat) := [[1, 5, 8, 9, 10]]
def zA_an (n : Nat) : Ann := { keep := zA_k, fuel := n, inl := [], deep := 0 }
def zA_m_l0 (n : Nat) (r0 : (Rng × Unit → Option (Int × Unit)) → List Rng → Int → Int → List Int → Option (List Int × Unit)) (of1_0 : Rng × Unit → Option (Int × Unit)) (t8_0 : List Rng) (t9_0 : Int) (t10_0 : Int) (c0_0 : List Int) : Option (List Int × Unit) :=
  (bif decide (t10_0 < t9_0) then (Option.bind (idx t8_0 t10_0) fun (v1 : Rng) => (Option.bind (of1_0 (((v1.1.1, v1.1.2.1, ()), v1.2.1, v1.2.2.1, ()), ())) fun (v2 : Int × Unit) => (bif decide (c0_0.length + (1 : Nat) ≤ memMax) then r0 of1_0 t8_0 t9_0 (IntKind.i64.wrap (t10_0 + (1 : Int))) (c0_0 ++ [v2.1]) else none))) else some (c0_0, ()))
def zA_m_w0 (n : Nat)  (k : Nat) (of1_0 : Rng × Unit → Option (Int × Unit)) (t8_0 : List Rng) (t9_0 : Int) (t10_0 : Int) (c0_0 : List Int) : Option (List Int × Unit) :=
  iter (fun r y => zA_m_l0 n (fun of1_0 t8_0 t9_0 t10_0 c0_0 => r ((of1_0, (t8_0, (t9_0, (t10_0, ())))), ((c0_0, ()), ()))) y.1.1 y.1.2.1 y.1.2.2.1 y.1.2.2.2.1 y.2.1.1) k ((of1_0, (t8_0, (t9_0, (t10_0, ())))), ((c0_0, ()), ()))
def zA_m (n : Nat) (l : List Rng) (of : Rng × Unit → Option (Int × Unit)) : Option (List Int × Unit) :=
  (zA_m_w0 n n (of) (l) ((↑l.length : Int)) ((0 : Int)) ([]))
theorem zA_eq (n : Nat) (x : zA_a.den) : runF zA_g (zA_an n) Tryz.f153 zA_a zA_r x = zA_m n x.1 x.2.1 := by kernel_rfl
def zA_b0 (of1_0 : Rng × Unit → Option (Int × Unit)) (t8_0 : List Rng) (t10_0 : Int) (v1 : Rng) (c0_0 : List Int) : Option ((List Int × Unit) ⊕ (List Int)) :=
  (Option.bind (of1_0 (((v1.1.1, v1.1.2.1, ()), v1.2.1, v1.2.2.1, ()), ())) fun (v2 : Int × Unit) => (bif decide (c0_0.length + (1 : Nat) ≤ memMax) then (some (Sum.inr (c0_0 ++ [v2.1]))) else none))
def zA_f0 (of1_0 : Rng × Unit → Option (Int × Unit)) (t8_0 : List Rng) (c0_0 : List Int) : Option (List Int × Unit) :=
  (some ((c0_0, ())))
theorem zA_m_w0_le (n : Nat) (hn : big ≤ n)  (of1_0 : Rng × Unit → Option (Int × Unit)) (t8_0 : List Rng) (c0_0 : List Int) (hx : List.length (t8_0) < lenMax) : LeF some (loopL (fun i__ e__ s__ => zA_b0 of1_0 t8_0 i__ e__ s__) (fun s__ => zA_f0 of1_0 t8_0 s__) 0 (t8_0) c0_0) (zA_m_w0 n n of1_0 t8_0 (List.length (t8_0) : Int) 0 c0_0) := by
  refine loopL_le (f := some) (W := fun k__ i__ s__ => zA_m_w0 n k__ of1_0 t8_0 (List.length (t8_0) : Int) i__ s__) (body := (fun i__ e__ s__ => zA_b0 of1_0 t8_0 i__ e__ s__)) (fin := (fun s__ => zA_f0 of1_0 t8_0 s__)) (fun k__ i__ s__ => ?_) hx c0_0 n (by unfold big at hn; unfold lenMax at hx; omega)
  show LeF _ _ (zA_m_l0 n (zA_m_w0 n k__) of1_0 t8_0 (List.length (t8_0) : Int) i__ s__)
  exact leCond (leBind fun v1 => (leBind fun v2 => (leCond (leSome rfl) leNone))) (leMap (leSome rfl))
def zA_M (l : List Rng) (of : Rng × Unit → Option (Int × Unit)) : Option (List Int × Unit) :=
  (bif decide (List.length (l) < lenMax) then loopL (fun i__ e__ s__ => zA_b0 (of) (l) i__ e__ s__) (fun s__ => zA_f0 (of) (l) s__) 0 (l) ([]) else none)
theorem zA_run (l : List Rng) (of : Rng × Unit → Option (Int × Unit)) (y : List Int × Unit) (h : zA_M l of = some y) : ∃ n, zA_m n l of = some y :=
  ⟨big, LeF.top (show LeF some (zA_M l of) (zA_m big l of) from (fun (n : Nat) (hn : big ≤ n) => show LeF some (zA_M l of) (zA_m n l of) from (leGuard fun hx => by apply zA_m_w0_le n hn; exact hx)) big (Nat.le_refl _)) h⟩
def zA_e : Entry := { f := 153, args := zA_a, ress := zA_r, m := fun x => zA_M x.1 x.2.1 }
theorem zA_ok : FnOK Tryz.prog zA_e := fn_ok (g := zA_g) (fn := Tryz.f153) hmixed tabOk eNil (by kernel_rfl) (by kernel_rfl) (by kernel_rfl) (fun x y h => let ⟨n, hn⟩ := zA_run x.1 x.2.1 y h; ⟨zA_an n, iNil, (zA_eq n x).trans hn⟩)
abbrev z8_a : Ty := .pair t97 (.pair t246 .unit)
abbrev z8_r : Ty := .pair t174 .unit
def z8_g : G := { T := T, E := [], muts := [5], fz := [] }
def z8_k : List (List Nat) := [[1, 5, 8, 9, 10]]
def z8_an (n : Nat) : Ann := { keep := z8_k, fuel := n, inl := [], deep := 0 }
def z8_m_l0 (n : Nat) (r0 : ((Int × Int × Unit) × Unit → Option (Int × Unit)) → List (Int × Int × Unit) → Int → Int → List Int → Option (List Int × Unit)) (of1_0 : (Int × Int × Unit) × Unit → Option (Int × Unit)) (t8_0 : List (Int × Int × Unit)) (t9_0 : Int) (t10_0 : Int) (c0_0 : List Int) : Option (List Int × Unit) :=
  (bif decide (t10_0 < t9_0) then (Option.bind (idx t8_0 t10_0) fun (v1 : Int × Int × Unit) => (Option.bind (of1_0 ((v1.1, v1.2.1, ()), ())) fun (v2 : Int × Unit) => (bif decide (c0_0.length + (1 : Nat) ≤ memMax) then r0 of1_0 t8_0 t9_0 (IntKind.i64.wrap (t10_0 + (1 : Int))) (c0_0 ++ [v2.1]) else none))) else some (c0_0, ()))
def z8_m_w0 (n : Nat)  (k : Nat) (of1_0 : (Int × Int × Unit) × Unit → Option (Int × Unit)) (t8_0 : List (Int × Int × Unit)) (t9_0 : Int) (t10_0 : Int) (c0_0 : List Int) : Option (List Int × Unit) :=
  iter (fun r y => z8_m_l0 n (fun of1_0 t8_0 t9_0 t10_0 c0_0 => r ((of1_0, (t8_0, (t9_0, (t10_0, ())))), ((c0_0, ()), ()))) y.1.1 y.1.2.1 y.1.2.2.1 y.1.2.2.2.1 y.2.1.1) k ((of1_0, (t8_0, (t9_0, (t10_0, ())))), ((c0_0, ()), ()))
def z8_m (n : Nat) (l : List (Int × Int × Unit)) (of : (Int × Int × Unit) × Unit → Option (Int × Unit)) : Option (List Int × Unit) :=
  (z8_m_w0 n n (of) (l) ((↑l.length : Int)) ((0 : Int)) ([]))
theorem z8_eq (n : Nat) (x : z8_a.den) : runF z8_g (z8_an n) Tryz.f159 z8_a z8_r x = z8_m n x.1 x.2.1 := by kernel_rfl
def z8_b0 (of1_0 : (Int × Int × Unit) × Unit → Option (Int × Unit)) (t8_0 : List (Int × Int × Unit)) (t10_0 : Int) (v1 : Int × Int × Unit) (c0_0 : List Int) : Option ((List Int × Unit) ⊕ (List Int)) :=
  (Option.bind (of1_0 ((v1.1, v1.2.1, ()), ())) fun (v2 : Int × Unit) => (bif decide (c0_0.length + (1 : Nat) ≤ memMax) then (some (Sum.inr (c0_0 ++ [v2.1]))) else none))
def z8_f0 (of1_0 : (Int × Int × Unit) × Unit → Option (Int × Unit)) (t8_0 : List (Int × Int × Unit)) (c0_0 : List Int) : Option (List Int × Unit) :=
  (some ((c0_0, ())))
theorem z8_m_w0_le (n : Nat) (hn : big ≤ n)  (of1_0 : (Int × Int × Unit) × Unit → Option (Int × Unit)) (t8_0 : List (Int × Int × Unit)) (c0_0 : List Int) (hx : List.length (t8_0) < lenMax) : LeF some (loopL (fun i__ e__ s__ => z8_b0 of1_0 t8_0 i__ e__ s__) (fun s__ => z8_f0 of1_0 t8_0 s__) 0 (t8_0) c0_0) (z8_m_w0 n n of1_0 t8_0 (List.length (t8_0) : Int) 0 c0_0) := by
  refine loopL_le (f := some) (W := fun k__ i__ s__ => z8_m_w0 n k__ of1_0 t8_0 (List.length (t8_0) : Int) i__ s__) (body := (fun i__ e__ s__ => z8_b0 of1_0 t8_0 i__ e__ s__)) (fin := (fun s__ => z8_f0 of1_0 t8_0 s__)) (fun k__ i__ s__ => ?_) hx c0_0 n (by unfold big at hn; unfold lenMax at hx; omega)
  show LeF _ _ (z8_m_l0 n (z8_m_w0 n k__) of1_0 t8_0 (List.length (t8_0) : Int) i__ s__)
  exact leCond (leBind fun v1 => (leBind fun v2 => (leCond (leSome rfl) leNone))) (leMap (leSome rfl))
def z8_M (l : List (Int × Int × Unit)) (of : (Int × Int × Unit) × Unit → Option (Int × Unit)) : Option (List Int × Unit) :=
  (bif decide (List.length (l) < lenMax) then loopL (fun i__ e__ s__ => z8_b0 (of) (l) i__ e__ s__) (fun s__ => z8_f0 (of) (l) s__) 0 (l) ([]) else none)
theorem z8_run (l : List (Int × Int × Unit)) (of : (Int × Int × Unit) × Unit → Option (Int × Unit)) (y : List Int × Unit) (h : z8_M l of = some y) : ∃ n, z8_m n l of = some y :=
  ⟨big, LeF.top (show LeF some (z8_M l of) (z8_m big l of) from (fun (n : Nat) (hn : big ≤ n) => show LeF some (z8_M l of) (z8_m n l of) from (leGuard fun hx => by apply z8_m_w0_le n hn; exact hx)) big (Nat.le_refl _)) h⟩
def z8_e : Entry := { f := 159, args := z8_a, ress := z8_r, m := fun x => z8_M x.1 x.2.1 }
theorem z8_ok : FnOK Tryz.prog z8_e := fn_ok (g := z8_g) (fn := Tryz.f159) hmixed tabOk eNil (by kernel_rfl) (by kernel_rfl) (by kernel_rfl) (fun x y h => let ⟨n, hn⟩ := z8_run x.1 x.2.1 y h; ⟨z8_an n, iNil, (z8_eq n x).trans hn⟩)
abbrev zD_a : Ty := .pair t97 (.pair t255 .unit)
abbrev zD_r : Ty := .pair t26 .unit
def zD_g : G := { T := T, E := [], muts := [5], fz := [] }
def zD_k : List (List Nat) := [[1, 5, 8, 9, 10]]
def zD_an (n : Nat) : Ann := { keep := zD_k, fuel := n, inl := [], deep := 0 }
def zD_m_l0 (n : Nat) (r0 : ((Int × Int × Unit) × Unit → Option (Int × Unit)) → List (Int × Int × Unit) → Int → Int → List Int → Option (List Int × Unit)) (of1_0 : (Int × Int × Unit) × Unit → Option (Int × Unit)) (t8_0 : List (Int × Int × Unit)) (t9_0 : Int) (t10_0 : Int) (c0_0 : List Int) : Option (List Int × Unit) :=
  (bif decide (t10_0 < t9_0) then (Option.bind (idx t8_0 t10_0) fun (v1 : Int × Int × Unit) => (Option.bind (of1_0 ((v1.1, v1.2.1, ()), ())) fun (v2 : Int × Unit) => (bif decide (c0_0.length + (1 : Nat) ≤ memMax) then r0 of1_0 t8_0 t9_0 (IntKind.i64.wrap (t10_0 + (1 : Int))) (c0_0 ++ [v2.1]) else none))) else some (c0_0, ()))
def zD_m_w0 (n : Nat)  (k : Nat) (of1_0 : (Int × Int × Unit) × Unit → Option (Int × Unit)) (t8_0 : List (Int × Int × Unit)) (t9_0 : Int) (t10_0 : Int) (c0_0 : List Int) : Option (List Int × Unit) :=
  iter (fun r y => zD_m_l0 n (fun of1_0 t8_0 t9_0 t10_0 c0_0 => r ((of1_0, (t8_0, (t9_0, (t10_0, ())))), ((c0_0, ()), ()))) y.1.1 y.1.2.1 y.1.2.2.1 y.1.2.2.2.1 y.2.1.1) k ((of1_0, (t8_0, (t9_0, (t10_0, ())))), ((c0_0, ()), ()))
def zD_m (n : Nat) (l : List (Int × Int × Unit)) (of : (Int × Int × Unit) × Unit → Option (Int × Unit)) : Option (List Int × Unit) :=
  (zD_m_w0 n n (of) (l) ((↑l.length : Int)) ((0 : Int)) ([]))
theorem zD_eq (n : Nat) (x : zD_a.den) : runF zD_g (zD_an n) Tryz.f164 zD_a zD_r x = zD_m n x.1 x.2.1 := by kernel_rfl
def zD_b0 (of1_0 : (Int × Int × Unit) × Unit → Option (Int × Unit)) (t8_0 : List (Int × Int × Unit)) (t10_0 : Int) (v1 : Int × Int × Unit) (c0_0 : List Int) : Option ((List Int × Unit) ⊕ (List Int)) :=
  (Option.bind (of1_0 ((v1.1, v1.2.1, ()), ())) fun (v2 : Int × Unit) => (bif decide (c0_0.length + (1 : Nat) ≤ memMax) then (some (Sum.inr (c0_0 ++ [v2.1]))) else none))
def zD_f0 (of1_0 : (Int × Int × Unit) × Unit → Option (Int × Unit)) (t8_0 : List (Int × Int × Unit)) (c0_0 : List Int) : Option (List Int × Unit) :=
  (some ((c0_0, ())))
theorem zD_m_w0_le (n : Nat) (hn : big ≤ n)  (of1_0 : (Int × Int × Unit) × Unit → Option (Int × Unit)) (t8_0 : List (Int × Int × Unit)) (c0_0 : List Int) (hx : List.length (t8_0) < lenMax) : LeF some (loopL (fun i__ e__ s__ => zD_b0 of1_0 t8_0 i__ e__ s__) (fun s__ => zD_f0 of1_0 t8_0 s__) 0 (t8_0) c0_0) (zD_m_w0 n n of1_0 t8_0 (List.length (t8_0) : Int) 0 c0_0) := by
  refine loopL_le (f := some) (W := fun k__ i__ s__ => zD_m_w0 n k__ of1_0 t8_0 (List.length (t8_0) : Int) i__ s__) (body := (fun i__ e__ s__ => zD_b0 of1_0 t8_0 i__ e__ s__)) (fin := (fun s__ => zD_f0 of1_0 t8_0 s__)) (fun k__ i__ s__ => ?_) hx c0_0 n (by unfold big at hn; unfold lenMax at hx; omega)
  show LeF _ _ (zD_m_l0 n (zD_m_w0 n k__) of1_0 t8_0 (List.length (t8_0) : Int) i__ s__)
  exact leCond (leBind fun v1 => (leBind fun v2 => (leCond (leSome rfl) leNone))) (leMap (leSome rfl))
def zD_M (l : List (Int × Int × Unit)) (of : (Int × Int × Unit) × Unit → Option (Int × Unit)) : Option (List Int × Unit) :=
  (bif decide (List.length (l) < lenMax) then loopL (fun i__ e__ s__ => zD_b0 (of) (l) i__ e__ s__) (fun s__ => zD_f0 (of) (l) s__) 0 (l) ([]) else none)
theorem zD_run (l : List (Int × Int × Unit)) (of : (Int × Int × Unit) × Unit → Option (Int × Unit)) (y : List Int × Unit) (h : zD_M l of = some y) : ∃ n, zD_m n l of = some y :=
  ⟨big, LeF.top (show LeF some (zD_M l of) (zD_m big l of) from (fun (n : Nat) (hn : big ≤ n) => show LeF some (zD_M l of) (zD_m n l of) from (leGuard fun hx => by apply zD_m_w0_le n hn; exact hx)) big (Nat.le_refl _)) h⟩
def zD_e : Entry := { f := 164, args := zD_a, ress := zD_r, m := fun x => zD_M x.1 x.2.1 }
theorem zD_ok : FnOK Tryz.prog zD_e := fn_ok (g := zD_g) (fn := Tryz.f164) hmixed tabOk eNil (by kernel_rfl) (by kernel_rfl) (by kernel_rfl) (fun x y h => let ⟨n, hn⟩ := zD_run x.1 x.2.1 y h; ⟨zD_an n, iNil, (zD_eq n x).trans hn⟩)
abbrev z09_a : Ty := .pair t230 .unit
abbrev z09_r : Ty := .pair t3 .unit
def z09_g : G := { T := T, E := [], muts := [], fz := [] }
def z09_k : List (List Nat) := []
def z09_an (n : Nat) : Ann := { keep := z09_k, fuel := n, inl := [], deep := 0 }
def z09_m (n : Nat) (p : Lnk × Int × Int × Int × Bool × Unit) : Option (Int × Unit) :=
  some (if Bool.true = Bool.true then if (if Bool.false = Bool.true then if IntKind.i64.wrap (p.2.1 - IntKind.i64.wrap (p.2.2.1 * p.1.2.2.2.1)) > p.1.2.2.2.2.1 then IntKind.i64.wrap (p.2.1 - IntKind.i64.wrap (p.2.2.1 * p.1.2.2.2.1)) else p.1.2.2.2.2.1 else if IntKind.i64.wrap (p.2.1 - IntKind.i64.wrap (p.2.2.1 * p.1.2.2.2.1)) < p.1.2.2.2.2.1 then IntKind.i64.wrap (p.2.1 - IntKind.i64.wrap (p.2.2.1 * p.1.2.2.2.1)) else p.1.2.2.2.2.1) > (0 : Int) then if Bool.false = Bool.true then if IntKind.i64.wrap (p.2.1 - IntKind.i64.wrap (p.2.2.1 * p.1.2.2.2.1)) > p.1.2.2.2.2.1 then IntKind.i64.wrap (p.2.1 - IntKind.i64.wrap (p.2.2.1 * p.1.2.2.2.1)) else p.1.2.2.2.2.1 else if IntKind.i64.wrap (p.2.1 - IntKind.i64.wrap (p.2.2.1 * p.1.2.2.2.1)) < p.1.2.2.2.2.1 then IntKind.i64.wrap (p.2.1 - IntKind.i64.wrap (p.2.2.1 * p.1.2.2.2.1)) else p.1.2.2.2.2.1 else (0 : Int) else if (if Bool.false = Bool.true then if IntKind.i64.wrap (p.2.1 - IntKind.i64.wrap (p.2.2.1 * p.1.2.2.2.1)) > p.1.2.2.2.2.1 then IntKind.i64.wrap (p.2.1 - IntKind.i64.wrap (p.2.2.1 * p.1.2.2.2.1)) else p.1.2.2.2.2.1 else if IntKind.i64.wrap (p.2.1 - IntKind.i64.wrap (p.2.2.1 * p.1.2.2.2.1)) < p.1.2.2.2.2.1 then IntKind.i64.wrap (p.2.1 - IntKind.i64.wrap (p.2.2.1 * p.1.2.2.2.1)) else p.1.2.2.2.2.1) < (0 : Int) then if Bool.false = Bool.true then if IntKind.i64.wrap (p.2.1 - IntKind.i64.wrap (p.2.2.1 * p.1.2.2.2.1)) > p.1.2.2.2.2.1 then IntKind.i64.wrap (p.2.1 - IntKind.i64.wrap (p.2.2.1 * p.1.2.2.2.1)) else p.1.2.2.2.2.1 else if IntKind.i64.wrap (p.2.1 - IntKind.i64.wrap (p.2.2.1 * p.1.2.2.2.1)) < p.1.2.2.2.2.1 then IntKind.i64.wrap (p.2.1 - IntKind.i64.wrap (p.2.2.1 * p.1.2.2.2.1)) else p.1.2.2.2.2.1 else (0 : Int), ())
theorem z09_eq (n : Nat) (x : z09_a.den) : runF z09_g (z09_an n) Tryz.f183 z09_a z09_r x = z09_m n x.1 := by kernel_rfl
def z09 (p : Lnk × Int × Int × Int × Bool × Unit) : (Int × Unit) :=
  (if Bool.true = Bool.true then if (if Bool.false = Bool.true then if IntKind.i64.wrap (p.2.1 - IntKind.i64.wrap (p.2.2.1 * p.1.2.2.2.1)) > p.1.2.2.2.2.1 then IntKind.i64.wrap (p.2.1 - IntKind.i64.wrap (p.2.2.1 * p.1.2.2.2.1)) else p.1.2.2.2.2.1 else if IntKind.i64.wrap (p.2.1 - IntKind.i64.wrap (p.2.2.1 * p.1.2.2.2.1)) < p.1.2.2.2.2.1 then IntKind.i64.wrap (p.2.1 - IntKind.i64.wrap (p.2.2.1 * p.1.2.2.2.1)) else p.1.2.2.2.2.1) > (0 : Int) then if Bool.false = Bool.true then if IntKind.i64.wrap (p.2.1 - IntKind.i64.wrap (p.2.2.1 * p.1.2.2.2.1)) > p.1.2.2.2.2.1 then IntKind.i64.wrap (p.2.1 - IntKind.i64.wrap (p.2.2.1 * p.1.2.2.2.1)) else p.1.2.2.2.2.1 else if IntKind.i64.wrap (p.2.1 - IntKind.i64.wrap (p.2.2.1 * p.1.2.2.2.1)) < p.1.2.2.2.2.1 then IntKind.i64.wrap (p.2.1 - IntKind.i64.wrap (p.2.2.1 * p.1.2.2.2.1)) else p.1.2.2.2.2.1 else (0 : Int) else if (if Bool.false = Bool.true then if IntKind.i64.wrap (p.2.1 - IntKind.i64.wrap (p.2.2.1 * p.1.2.2.2.1)) > p.1.2.2.2.2.1 then IntKind.i64.wrap (p.2.1 - IntKind.i64.wrap (p.2.2.1 * p.1.2.2.2.1)) else p.1.2.2.2.2.1 else if IntKind.i64.wrap (p.2.1 - IntKind.i64.wrap (p.2.2.1 * p.1.2.2.2.1)) < p.1.2.2.2.2.1 then IntKind.i64.wrap (p.2.1 - IntKind.i64.wrap (p.2.2.1 * p.1.2.2.2.1)) else p.1.2.2.2.2.1) < (0 : Int) then if Bool.false = Bool.true then if IntKind.i64.wrap (p.2.1 - IntKind.i64.wrap (p.2.2.1 * p.1.2.2.2.1)) > p.1.2.2.2.2.1 then IntKind.i64.wrap (p.2.1 - IntKind.i64.wrap (p.2.2.1 * p.1.2.2.2.1)) else p.1.2.2.2.2.1 else if IntKind.i64.wrap (p.2.1 - IntKind.i64.wrap (p.2.2.1 * p.1.2.2.2.1)) < p.1.2.2.2.2.1 then IntKind.i64.wrap (p.2.1 - IntKind.i64.wrap (p.2.2.1 * p.1.2.2.2.1)) else p.1.2.2.2.2.1 else (0 : Int), ())
abbrev z09_M (p : Lnk × Int × Int × Int × Bool × Unit) : Option (Int × Unit) := some (z09 p)
theorem z09_run (p : Lnk × Int × Int × Int × Bool × Unit) (y : Int × Unit) (h : z09_M p = some y) : ∃ n, z09_m n p = some y :=
  ⟨0, by rw [← h]; show z09_m 0 p = some (z09 p); unfold z09_m z09; first | rfl | (simp only [cond_some]; done) | (simp only [cond_some]; rfl)⟩
def z09_e : Entry := { f := 183, args := z09_a, ress := z09_r, m := fun x => z09_M x.1 }
theorem z09_ok : FnOK Tryz.prog z09_e := fn_ok (g := z09_g) (fn := Tryz.f183) hmixed tabOk eNil (by kernel_rfl) (by kernel_rfl) (by kernel_rfl) (fun x y h => let ⟨n, hn⟩ := z09_run x.1 y h; ⟨z09_an n, iNil, (z09_eq n x).trans hn⟩)
end
end Go.Tw
end
