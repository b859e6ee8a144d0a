/- Models of the program's functions, by program (gen.py), and what they compute.
Models of the program's functions, by program (gen.py), and what they compute.
Models of the program's functions, by program (gen.py), and what they compute.
Models of the program's functions, by program (gen.py), and what they compute.
Models of the program's functions, by program (gen.py), and what they compute.
Models of the program's functions, by program (gen.py), and what they compute.
Models of the program's functions, by program (gen.py), and what they compute.
Models of the program's functions, by program (gen.py), and what they compute. -/
import Derived.Test.YtohhmdogfjmlcaaGreatBT
import Derived.Test.YtohhmdogfjmlcaaGreatB0
import Derived.Test.YtohhmdogfjmlcaaGreatBS
import Derived.Test.YtohhmdogfjmlcaaGreatLP
import Derived.Test.YtohhmdogfjmlcaaGreatBA

section
set_option linter.all false
set_option maxRecDepth 1000000
namespace Go.Tw
open Go.Vx Go.Vx.B Go.Proofs
/-! ### tidewayref06.CheckScript -/
abbrev ref06_CheckScript_a : Ty := .pair t50 .unit
abbrev ref06_CheckScript_r : Ty := .pair t3 .unit
noncomputable def ref06_CheckScript_g : G := { T := T, E := [ref06_CheckInput_e], muts := [], fz := [] }
def ref06_CheckScript_k : List (List Nat) := [[0, 3]]
noncomputable def ref06_CheckScript_an (n : Nat) : Ann := { keep := ref06_CheckScript_k, fuel := n, inl := [], deep := 0 }
noncomputable def ref06_CheckScript_m_l0 (n : Nat) (r0 : List (List UInt8 × Int × Unit) → Int → Option (Int × Unit)) (l0_0 : List (List UInt8 × Int × Unit)) (i3_0 : Int) : Option (Int × Unit) :=
  (bif Decidable.decide (i3_0 < (↑l0_0.length : Int)) then (Option.bind (Go.Vx.idx l0_0 i3_0) fun (v1 : List UInt8 × Int × Unit) => (Option.bind (Go.Tw.ref06_CheckInput_M v1) fun (v2 : Int × Unit) => (bif v2.fst != (0 : Int) then Option.some (v2.fst, ()) else r0 l0_0 (Go.IntKind.i64.wrap (i3_0 + (1 : Int)))))) else Option.some ((0 : Int), ()))

noncomputable def ref06_CheckScript_m_w0 (n : Nat)  (k : Nat) (l0_0 : List (List UInt8 × Int × Unit)) (i3_0 : Int) : Option (Int × Unit) :=
  iter (fun r y => ref06_CheckScript_m_l0 n (fun l0_0 i3_0 => r ((l0_0, (i3_0, ())), ((), ()))) y.1.1 y.1.2.1) k ((l0_0, (i3_0, ())), ((), ()))

noncomputable def ref06_CheckScript_m (n : Nat) (l : List (List UInt8 × Int × Unit)) : Option (Int × Unit) :=
  (bif Decidable.decide ((↑l.length : Int) > (64 : Int)) then Option.some ((5 : Int), ()) else (ref06_CheckScript_m_w0 n n (l) ((0 : Int))))

theorem ref06_CheckScript_eq (n : Nat) (x : ref06_CheckScript_a.den) : runF ref06_CheckScript_g (ref06_CheckScript_an n) Tryz.f33 ref06_CheckScript_a ref06_CheckScript_r x = ref06_CheckScript_m n x.1 := by kernel_rfl

noncomputable def ref06_CheckScript_b0 (l0_0 : List (List UInt8 × Int × Unit)) (i3_0 : Int) (v1 : List UInt8 × Int × Unit) : Option ((Int × Unit) ⊕ Unit) :=
  (Option.bind (Go.Tw.ref06_CheckInput_M v1) fun (v2 : Int × Unit) => (bif v2.fst != (0 : Int) then (some (Sum.inl ((v2.fst, ())))) else (some (Sum.inr ()))))

noncomputable def ref06_CheckScript_f0 (l0_0 : List (List UInt8 × Int × Unit)) : Option (Int × Unit) :=
  (some (((0 : Int), ())))

theorem ref06_CheckScript_m_w0_le (n : Nat) (hn : big ≤ n)  (l0_0 : List (List UInt8 × Int × Unit)) (hx : List.length (l0_0) < lenMax) : LeF some (loopL (fun i__ e__ s__ => ref06_CheckScript_b0 l0_0 i__ e__) (fun s__ => ref06_CheckScript_f0 l0_0) 0 (l0_0) ()) (ref06_CheckScript_m_w0 n n l0_0 0) := by
  refine loopL_le (f := some) (W := fun k__ i__ s__ => ref06_CheckScript_m_w0 n k__ l0_0 i__) (body := (fun i__ e__ s__ => ref06_CheckScript_b0 l0_0 i__ e__)) (fin := (fun s__ => ref06_CheckScript_f0 l0_0)) (fun k__ i__ s__ => ?_) hx () n (by unfold big at hn; unfold lenMax at hx; omega)
  show LeF _ _ (ref06_CheckScript_m_l0 n (ref06_CheckScript_m_w0 n k__) l0_0 i__)
  exact leCond (leBind fun v1 => (leBind fun v2 => (leCond (leSome rfl) (leSome rfl)))) (leMap (leSome rfl))

noncomputable def ref06_CheckScript_M (l : List (List UInt8 × Int × Unit)) : Option (Int × Unit) :=
  (bif Decidable.decide ((↑l.length : Int) > (64 : Int)) then (some (((5 : Int), ()))) else (bif decide (List.length (l) < lenMax) then loopL (fun i__ e__ s__ => ref06_CheckScript_b0 (l) i__ e__) (fun s__ => ref06_CheckScript_f0 (l)) 0 (l) () else none))

theorem ref06_CheckScript_run (l : List (List UInt8 × Int × Unit)) (y : Int × Unit) (h : ref06_CheckScript_M l = some y) : ∃ n, ref06_CheckScript_m n l = some y :=
  ⟨big, LeF.top (show LeF some (ref06_CheckScript_M l) (ref06_CheckScript_m big l) from (fun (n : Nat) (hn : big ≤ n) => show LeF some (ref06_CheckScript_M l) (ref06_CheckScript_m n l) from (leCond (leSome rfl) (leGuard fun hx => by apply ref06_CheckScript_m_w0_le n hn; exact hx))) big (Nat.le_refl _)) h⟩
noncomputable def ref06_CheckScript_e : Entry := { f := 33, args := ref06_CheckScript_a, ress := ref06_CheckScript_r, m := fun x => ref06_CheckScript_M x.1 }
theorem ref06_CheckScript_ok : FnOK Tryz.prog ref06_CheckScript_e := fn_ok (g := ref06_CheckScript_g) (fn := Tryz.f33) hmixed tabOk (eCons ref06_CheckInput_ok eNil) (by kernel_rfl) (by kernel_rfl) (by kernel_rfl) (fun x y h => let ⟨n, hn⟩ := ref06_CheckScript_run x.1 y h; ⟨ref06_CheckScript_an n, iNil, (ref06_CheckScript_eq n x).trans hn⟩)

/-! ### gate.Execute -/
abbrev gate_Execute_a : Ty := .pair t71 .unit
abbrev gate_Execute_r : Ty := .pair t37 (.pair t3 (.pair t29 .unit))
noncomputable def gate_Execute_g : G := { T := T, E := [gate_known_e], muts := [7], fz := [] }
def gate_Execute_k : List (List Nat) := [[5, 7, 8, 9, 10]]
noncomputable def gate_Execute_an (n : Nat) : Ann := { keep := gate_Execute_k, fuel := n, inl := [], deep := 0 }
noncomputable def gate_Execute_m_l1 (n : Nat) (r1 : List (Int × List UInt8) → Int → List UInt8 → Bool → List (List UInt8) → Option (List (List UInt8) × Int × Int × Unit)) (events5_1 : List (Int × List UInt8)) (next8_1 : Int) (event9_1 : List UInt8) (is10_1 : Bool) (c0_1 : List (List UInt8)) : Option (List (List UInt8) × Int × Int × Unit) :=
  (bif is10_1 then (bif Decidable.decide (c0_1.length + (1 : Nat) ≤ Go.Vx.memMax) then r1 events5_1 (Go.IntKind.i64.wrap (next8_1 + (1 : Int))) ((Go.Vx.mapGet (Go.Vx.Ty.int Go.IntKind.i64) Go.Vx.Ty.str events5_1 (Go.IntKind.i64.wrap (next8_1 + (1 : Int)))).getD []) (Go.Vx.mapGet (Go.Vx.Ty.int Go.IntKind.i64) Go.Vx.Ty.str events5_1 (Go.IntKind.i64.wrap (next8_1 + (1 : Int)))).isSome (c0_1 ++ [event9_1]) else none) else Option.some (c0_1, next8_1, (0 : Int), ()))

noncomputable def gate_Execute_m_w1 (n : Nat)  (k : Nat) (events5_1 : List (Int × List UInt8)) (next8_1 : Int) (event9_1 : List UInt8) (is10_1 : Bool) (c0_1 : List (List UInt8)) : Option (List (List UInt8) × Int × Int × Unit) :=
  iter (fun r y => gate_Execute_m_l1 n (fun events5_1 next8_1 event9_1 is10_1 c0_1 => r ((events5_1, (next8_1, (event9_1, (is10_1, ())))), ((c0_1, ()), ()))) y.1.1 y.1.2.1 y.1.2.2.1 y.1.2.2.2.1 y.2.1.1) k ((events5_1, (next8_1, (event9_1, (is10_1, ())))), ((c0_1, ()), ()))

noncomputable def gate_Execute_m (n : Nat) (l : List Cmd) : Option (List (List UInt8) × Int × Int × Unit) :=
  (Option.bind (Go.Tw.gate_known_M l) fun (v0 : List (Int × List UInt8) × Int × Unit) => (bif v0.snd.fst != (0 : Int) then Option.some ([], (0 : Int), v0.snd.fst, ()) else (gate_Execute_m_w1 n n (v0.fst) ((1 : Int)) ((Go.Vx.mapGet (Go.Vx.Ty.int Go.IntKind.i64) Go.Vx.Ty.str v0.fst (1 : Int)).getD []) ((Go.Vx.mapGet (Go.Vx.Ty.int Go.IntKind.i64) Go.Vx.Ty.str v0.fst (1 : Int)).isSome) ([]))))

theorem gate_Execute_eq (n : Nat) (x : gate_Execute_a.den) : runF gate_Execute_g (gate_Execute_an n) Tryz.f39 gate_Execute_a gate_Execute_r x = gate_Execute_m n x.1 := by kernel_rfl

noncomputable def gate_Execute_b1 (events5_1 : List (Int × List UInt8)) (next8_1 : Int) (event9_1 : List UInt8) (is10_1 : Bool) (c0_1 : List (List UInt8)) : Option ((List (List UInt8) × Int × Int × Unit) ⊕ (Int × List UInt8 × Bool × List (List UInt8))) :=
  (bif is10_1 then (bif Decidable.decide (c0_1.length + (1 : Nat) ≤ Go.Vx.memMax) then (some (Sum.inr ((Go.IntKind.i64.wrap (next8_1 + (1 : Int))), ((Go.Vx.mapGet (Go.Vx.Ty.int Go.IntKind.i64) Go.Vx.Ty.str events5_1 (Go.IntKind.i64.wrap (next8_1 + (1 : Int)))).getD []), ((Go.Vx.mapGet (Go.Vx.Ty.int Go.IntKind.i64) Go.Vx.Ty.str events5_1 (Go.IntKind.i64.wrap (next8_1 + (1 : Int)))).isSome), (c0_1 ++ [event9_1])))) else none) else (some (Sum.inl ((c0_1, next8_1, (0 : Int), ())))))

theorem gate_Execute_m_w1_le (n : Nat) (hn : big ≤ n)  (events5_1 : List (Int × List UInt8)) (next8_1 : Int) (event9_1 : List UInt8) (is10_1 : Bool) (c0_1 : List (List UInt8)) : LeF some (loopW (fun s__ => gate_Execute_b1 events5_1 s__.1 s__.2.1 s__.2.2.1 s__.2.2.2) wMax (next8_1, event9_1, is10_1, c0_1)) (gate_Execute_m_w1 n n events5_1 next8_1 event9_1 is10_1 c0_1) := by
  refine loopW_le (f := some) (W := fun k__ s__ => gate_Execute_m_w1 n k__ events5_1 s__.1 s__.2.1 s__.2.2.1 s__.2.2.2) (body := (fun s__ => gate_Execute_b1 events5_1 s__.1 s__.2.1 s__.2.2.1 s__.2.2.2)) (fun k__ s__ => ?_) wMax n (next8_1, event9_1, is10_1, c0_1) (by unfold big at hn; unfold wMax; omega)
  show LeF _ _ (gate_Execute_m_l1 n (gate_Execute_m_w1 n k__) events5_1 s__.1 s__.2.1 s__.2.2.1 s__.2.2.2)
  exact (leCond (leCond (leSome rfl) leNone) (leSome rfl))

noncomputable def gate_Execute_M (l : List Cmd) : Option (List (List UInt8) × Int × Int × Unit) :=
  (Option.bind (Go.Tw.gate_known_M l) fun (v0 : List (Int × List UInt8) × Int × Unit) => (bif v0.snd.fst != (0 : Int) then (some (([], (0 : Int), v0.snd.fst, ()))) else (loopW (fun s__ => gate_Execute_b1 (v0.fst) s__.1 s__.2.1 s__.2.2.1 s__.2.2.2) wMax (((1 : Int)), ((Go.Vx.mapGet (Go.Vx.Ty.int Go.IntKind.i64) Go.Vx.Ty.str v0.fst (1 : Int)).getD []), ((Go.Vx.mapGet (Go.Vx.Ty.int Go.IntKind.i64) Go.Vx.Ty.str v0.fst (1 : Int)).isSome), ([])))))

theorem gate_Execute_run (l : List Cmd) (y : List (List UInt8) × Int × Int × Unit) (h : gate_Execute_M l = some y) : ∃ n, gate_Execute_m n l = some y :=
  ⟨big, LeF.top (show LeF some (gate_Execute_M l) (gate_Execute_m big l) from (fun (n : Nat) (hn : big ≤ n) => show LeF some (gate_Execute_M l) (gate_Execute_m n l) from (leBind fun v0 => (leCond (leSome rfl) (by apply gate_Execute_m_w1_le n hn)))) big (Nat.le_refl _)) h⟩
noncomputable def gate_Execute_e : Entry := { f := 39, args := gate_Execute_a, ress := gate_Execute_r, m := fun x => gate_Execute_M x.1 }
theorem gate_Execute_ok : FnOK Tryz.prog gate_Execute_e := fn_ok (g := gate_Execute_g) (fn := Tryz.f39) hmixed tabOk (eCons gate_known_ok eNil) (by kernel_rfl) (by kernel_rfl) (by kernel_rfl) (fun x y h => let ⟨n, hn⟩ := gate_Execute_run x.1 y h; ⟨gate_Execute_an n, iNil, (gate_Execute_eq n x).trans hn⟩)

/-! ### gate.Lost -/
abbrev gate_Lost_a : Ty := .pair t71 (.pair t3 .unit)
abbrev gate_Lost_r : Ty := .pair t28 (.pair t29 .unit)
noncomputable def gate_Lost_g : G := { T := T, E := [gate_known_e, gate_within_e, gate_first_e], muts := [8], fz := [] }
def gate_Lost_k : List (List Nat) := [[6, 8, 25, 26]]
noncomputable def gate_Lost_an (n : Nat) : Ann := { keep := gate_Lost_k, fuel := n, inl := [], deep := 0 }
noncomputable def gate_Lost_m_l2 (n : Nat) (r2 : List (Int × List UInt8) → Int → Int → List Int → Option (List Int × Int × Unit)) (events6_2 : List (Int × List UInt8)) (t25_2 : Int) (t26_2 : Int) (c0_2 : List Int) : Option (List Int × Int × Unit) :=
  (bif Decidable.decide (t26_2 < t25_2) then (bif !(Go.Vx.mapGet (Go.Vx.Ty.int Go.IntKind.i64) Go.Vx.Ty.str events6_2 (Go.IntKind.i64.wrap (t26_2 + (1 : Int)))).isSome then (bif Decidable.decide (c0_2.length + (1 : Nat) ≤ Go.Vx.memMax) then r2 events6_2 t25_2 (Go.IntKind.i64.wrap (t26_2 + (1 : Int))) (c0_2 ++ [Go.IntKind.i64.wrap (t26_2 + (1 : Int))]) else none) else r2 events6_2 t25_2 (Go.IntKind.i64.wrap (t26_2 + (1 : Int))) c0_2) else Option.some (c0_2, (0 : Int), ()))

noncomputable def gate_Lost_m_w2 (n : Nat)  (k : Nat) (events6_2 : List (Int × List UInt8)) (t25_2 : Int) (t26_2 : Int) (c0_2 : List Int) : Option (List Int × Int × Unit) :=
  iter (fun r y => gate_Lost_m_l2 n (fun events6_2 t25_2 t26_2 c0_2 => r ((events6_2, (t25_2, (t26_2, ()))), ((c0_2, ()), ()))) y.1.1 y.1.2.1 y.1.2.2.1 y.2.1.1) k ((events6_2, (t25_2, (t26_2, ()))), ((c0_2, ()), ()))

noncomputable def gate_Lost_m (n : Nat) (l : List Cmd) (last : Int) : Option (List Int × Int × Unit) :=
  (Option.bind (Go.Tw.gate_known_M l) fun (v0 : List (Int × List UInt8) × Int × Unit) => (Option.bind (Go.Tw.gate_first_M [v0.snd.fst, (Go.Tw.gate_within last (0 : Int) (256 : Int)).fst]) fun (v1 : Int × Unit) => (bif v1.fst != (0 : Int) then Option.some ([], v1.fst, ()) else (gate_Lost_m_w2 n n (v0.fst) (last) ((0 : Int)) ([])))))

theorem gate_Lost_eq (n : Nat) (x : gate_Lost_a.den) : runF gate_Lost_g (gate_Lost_an n) Tryz.f41 gate_Lost_a gate_Lost_r x = gate_Lost_m n x.1 x.2.1 := by kernel_rfl

noncomputable def gate_Lost_b2 (events6_2 : List (Int × List UInt8)) (t25_2 : Int) (t26_2 : Int) (c0_2 : List Int) : Option ((List Int × Int × Unit) ⊕ (List Int)) :=
  (bif !(Go.Vx.mapGet (Go.Vx.Ty.int Go.IntKind.i64) Go.Vx.Ty.str events6_2 (Go.IntKind.i64.wrap (t26_2 + (1 : Int)))).isSome then (bif Decidable.decide (c0_2.length + (1 : Nat) ≤ Go.Vx.memMax) then (some (Sum.inr (c0_2 ++ [Go.IntKind.i64.wrap (t26_2 + (1 : Int))]))) else none) else (some (Sum.inr (c0_2))))

noncomputable def gate_Lost_f2 (events6_2 : List (Int × List UInt8)) (t25_2 : Int) (c0_2 : List Int) : Option (List Int × Int × Unit) :=
  (some ((c0_2, (0 : Int), ())))

theorem gate_Lost_m_w2_le (n : Nat) (hn : big ≤ n)  (events6_2 : List (Int × List UInt8)) (t25_2 : Int) (c0_2 : List Int) (hx : (t25_2) ≤ (9223372036854775807 : Int)) : LeF some (loopN (fun i__ s__ => gate_Lost_b2 events6_2 t25_2 i__ s__) (fun s__ => gate_Lost_f2 events6_2 t25_2 s__) ((t25_2) - 0).toNat 0 c0_2) (gate_Lost_m_w2 n n events6_2 t25_2 0 c0_2) := by
  refine loopN_le (f := some) (W := fun k__ i__ s__ => gate_Lost_m_w2 n k__ events6_2 t25_2 i__ s__) (body := (fun i__ s__ => gate_Lost_b2 events6_2 t25_2 i__ s__)) (fin := (fun s__ => gate_Lost_f2 events6_2 t25_2 s__)) (fun k__ i__ s__ => ?_) hx c0_2 n 0 (by decide) (by unfold big at hn; omega)
  show LeF _ _ (gate_Lost_m_l2 n (gate_Lost_m_w2 n k__) events6_2 t25_2 i__ s__)
  exact leCond (leCond (leCond (leSome rfl) leNone) (leSome rfl)) (leMap (leSome rfl))

noncomputable def gate_Lost_M (l : List Cmd) (last : Int) : Option (List Int × Int × Unit) :=
  (Option.bind (Go.Tw.gate_known_M l) fun (v0 : List (Int × List UInt8) × Int × Unit) => (Option.bind (Go.Tw.gate_first_M [v0.snd.fst, (Go.Tw.gate_within last (0 : Int) (256 : Int)).fst]) fun (v1 : Int × Unit) => (bif v1.fst != (0 : Int) then (some (([], v1.fst, ()))) else (bif decide ((last) ≤ (9223372036854775807 : Int)) then loopN (fun i__ s__ => gate_Lost_b2 (v0.fst) (last) i__ s__) (fun s__ => gate_Lost_f2 (v0.fst) (last) s__) ((last) - 0).toNat 0 ([]) else none))))

theorem gate_Lost_run (l : List Cmd) (last : Int) (y : List Int × Int × Unit) (h : gate_Lost_M l last = some y) : ∃ n, gate_Lost_m n l last = some y :=
  ⟨big, LeF.top (show LeF some (gate_Lost_M l last) (gate_Lost_m big l last) from (fun (n : Nat) (hn : big ≤ n) => show LeF some (gate_Lost_M l last) (gate_Lost_m n l last) from (leBind fun v0 => (leBind fun v1 => (leCond (leSome rfl) (leGuard fun hx => by apply gate_Lost_m_w2_le n hn; exact hx))))) big (Nat.le_refl _)) h⟩
noncomputable def gate_Lost_e : Entry := { f := 41, args := gate_Lost_a, ress := gate_Lost_r, m := fun x => gate_Lost_M x.1 x.2.1 }
theorem gate_Lost_ok : FnOK Tryz.prog gate_Lost_e := fn_ok (g := gate_Lost_g) (fn := Tryz.f41) hmixed tabOk (eCons gate_known_ok (eCons gate_within_ok (eCons gate_first_ok eNil))) (by kernel_rfl) (by kernel_rfl) (by kernel_rfl) (fun x y h => let ⟨n, hn⟩ := gate_Lost_run x.1 x.2.1 y h; ⟨gate_Lost_an n, iNil, (gate_Lost_eq n x).trans hn⟩)

/-! ### gate.Vote -/
abbrev gate_Vote_a : Ty := .pair t28 .unit
abbrev gate_Vote_r : Ty := .pair t3 (.pair t29 .unit)
noncomputable def gate_Vote_g : G := { T := T, E := [gate_Vote_1_e, gate_when_e, gate_mapped_int_api_Errno_e, gate_first_e, gate_Vote_2_e, gate_kept_int_e], muts := [], fz := [] }
def gate_Vote_k : List (List Nat) := [[0, 22, 23, 24]]
noncomputable def gate_Vote_an (n : Nat) : Ann := { keep := gate_Vote_k, fuel := n, inl := [], deep := 0 }
noncomputable def gate_Vote_m_l3 (n : Nat) (r3 : List Int → List Int → Int → Int → Option (Int × Int × Unit)) (l0_3 : List Int) (t22_3 : List Int) (t23_3 : Int) (t24_3 : Int) : Option (Int × Int × Unit) :=
  (bif Decidable.decide (t24_3 < t23_3) then (Option.bind (Go.Vx.idx t22_3 t24_3) fun (v4 : Int) => (Option.bind (Go.Tw.gate_kept_int_M l0_3 fun (x : Int × Unit) => Go.Tw.gate_Vote_2_M x.fst v4) fun (v5 : List Int × Unit) => (bif Decidable.decide (Go.IntKind.i64.wrap ((2 : Int) * (↑v5.fst.length : Int)) > (↑l0_3.length : Int)) then Option.some (v4, (0 : Int), ()) else r3 l0_3 t22_3 t23_3 (Go.IntKind.i64.wrap (t24_3 + (1 : Int)))))) else Option.some ((0 : Int), (7 : Int), ()))

noncomputable def gate_Vote_m_w3 (n : Nat)  (k : Nat) (l0_3 : List Int) (t22_3 : List Int) (t23_3 : Int) (t24_3 : Int) : Option (Int × Int × Unit) :=
  iter (fun r y => gate_Vote_m_l3 n (fun l0_3 t22_3 t23_3 t24_3 => r ((l0_3, (t22_3, (t23_3, (t24_3, ())))), ((), ()))) y.1.1 y.1.2.1 y.1.2.2.1 y.1.2.2.2.1) k ((l0_3, (t22_3, (t23_3, (t24_3, ())))), ((), ()))

noncomputable def gate_Vote_m (n : Nat) (l : List Int) : Option (Int × Int × Unit) :=
  (Option.bind (Go.Tw.gate_mapped_int_api_Errno_M l fun (x : Int × Unit) => Go.Tw.gate_Vote_1_M x.fst) fun (v0 : List Int × Unit) => (Option.bind (Go.Tw.gate_first_M v0.fst) fun (v1 : Int × Unit) => (Option.bind (Go.Tw.gate_first_M [(Go.Tw.gate_when (Decidable.decide ((↑l.length : Int) > (9 : Int))) (5 : Int)).fst, v1.fst]) fun (v2 : Int × Unit) => (bif v2.fst != (0 : Int) then Option.some ((0 : Int), v2.fst, ()) else (gate_Vote_m_w3 n n (l) (l) ((↑l.length : Int)) ((0 : Int)))))))

theorem gate_Vote_eq (n : Nat) (x : gate_Vote_a.den) : runF gate_Vote_g (gate_Vote_an n) Tryz.f49 gate_Vote_a gate_Vote_r x = gate_Vote_m n x.1 := by kernel_rfl

noncomputable def gate_Vote_b3 (l0_3 : List Int) (t22_3 : List Int) (t24_3 : Int) (v4 : Int) : Option ((Int × Int × Unit) ⊕ Unit) :=
  (Option.bind (Go.Tw.gate_kept_int_M l0_3 fun (x : Int × Unit) => Go.Tw.gate_Vote_2_M x.fst v4) fun (v5 : List Int × Unit) => (bif Decidable.decide (Go.IntKind.i64.wrap ((2 : Int) * (↑v5.fst.length : Int)) > (↑l0_3.length : Int)) then (some (Sum.inl ((v4, (0 : Int), ())))) else (some (Sum.inr ()))))

noncomputable def gate_Vote_f3 (l0_3 : List Int) (t22_3 : List Int) : Option (Int × Int × Unit) :=
  (some (((0 : Int), (7 : Int), ())))

theorem gate_Vote_m_w3_le (n : Nat) (hn : big ≤ n)  (l0_3 : List Int) (t22_3 : List Int) (hx : List.length (t22_3) < lenMax) : LeF some (loopL (fun i__ e__ s__ => gate_Vote_b3 l0_3 t22_3 i__ e__) (fun s__ => gate_Vote_f3 l0_3 t22_3) 0 (t22_3) ()) (gate_Vote_m_w3 n n l0_3 t22_3 (List.length (t22_3) : Int) 0) := by
  refine loopL_le (f := some) (W := fun k__ i__ s__ => gate_Vote_m_w3 n k__ l0_3 t22_3 (List.length (t22_3) : Int) i__) (body := (fun i__ e__ s__ => gate_Vote_b3 l0_3 t22_3 i__ e__)) (fin := (fun s__ => gate_Vote_f3 l0_3 t22_3)) (fun k__ i__ s__ => ?_) hx () n (by unfold big at hn; unfold lenMax at hx; omega)
  show LeF _ _ (gate_Vote_m_l3 n (gate_Vote_m_w3 n k__) l0_3 t22_3 (List.length (t22_3) : Int) i__)
  exact leCond (leBind fun v4 => (leBind fun v5 => (leCond (leSome rfl) (leSome rfl)))) (leMap (leSome rfl))

noncomputable def gate_Vote_M (l : List Int) : Option (Int × Int × Unit) :=
  (Option.bind (Go.Tw.gate_mapped_int_api_Errno_M l fun (x : Int × Unit) => Go.Tw.gate_Vote_1_M x.fst) fun (v0 : List Int × Unit) => (Option.bind (Go.Tw.gate_first_M v0.fst) fun (v1 : Int × Unit) => (Option.bind (Go.Tw.gate_first_M [(Go.Tw.gate_when (Decidable.decide ((↑l.length : Int) > (9 : Int))) (5 : Int)).fst, v1.fst]) fun (v2 : Int × Unit) => (bif v2.fst != (0 : Int) then (some (((0 : Int), v2.fst, ()))) else (bif decide (List.length (l) < lenMax) then loopL (fun i__ e__ s__ => gate_Vote_b3 (l) (l) i__ e__) (fun s__ => gate_Vote_f3 (l) (l)) 0 (l) () else none)))))

theorem gate_Vote_run (l : List Int) (y : Int × Int × Unit) (h : gate_Vote_M l = some y) : ∃ n, gate_Vote_m n l = some y :=
  ⟨big, LeF.top (show LeF some (gate_Vote_M l) (gate_Vote_m big l) from (fun (n : Nat) (hn : big ≤ n) => show LeF some (gate_Vote_M l) (gate_Vote_m n l) from (leBind fun v0 => (leBind fun v1 => (leBind fun v2 => (leCond (leSome rfl) (leGuard fun hx => by apply gate_Vote_m_w3_le n hn; exact hx)))))) big (Nat.le_refl _)) h⟩
noncomputable def gate_Vote_e : Entry := { f := 49, args := gate_Vote_a, ress := gate_Vote_r, m := fun x => gate_Vote_M x.1 }
theorem gate_Vote_ok : FnOK Tryz.prog gate_Vote_e := fn_ok (g := gate_Vote_g) (fn := Tryz.f49) hmixed tabOk (eCons gate_Vote_1_ok (eCons gate_when_ok (eCons gate_mapped_int_api_Errno_ok (eCons gate_first_ok (eCons gate_Vote_2_ok (eCons gate_kept_int_ok eNil)))))) (by kernel_rfl) (by kernel_rfl) (by kernel_rfl) (fun x y h => let ⟨n, hn⟩ := gate_Vote_run x.1 y h; ⟨gate_Vote_an n, iNil, (gate_Vote_eq n x).trans hn⟩)

/-! ### tidewayref06.Missing -/
/-! ### tidewayref06.Ambiguous -/
/-! ### tidewayref06.Play -/
/-! ### (gate.Transition).check -/
abbrev gate_Transition_check_a : Ty := .pair t148 (.pair t3 .unit)
abbrev gate_Transition_check_r : Ty := .pair t29 .unit
noncomputable def gate_Transition_check_g : G := { T := T, E := [gate_when_e, gate_checkName_e, gate_checkConditions_e, gate_first_e], muts := [], fz := [] }
def gate_Transition_check_k : List (List Nat) := []
noncomputable def gate_Transition_check_an (n : Nat) : Ann := { keep := gate_Transition_check_k, fuel := n, inl := [], deep := 0 }
noncomputable def gate_Transition_check_m (n : Nat) (t : Tra) (states : Int) : Option (Int × Unit) :=
  (bif Decidable.decide ((if Bool.false = Bool.true then if t.snd.snd.fst > t.fst then t.snd.snd.fst else t.fst else if t.snd.snd.fst < t.fst then t.snd.snd.fst else t.fst) < (0 : Int)) then (Option.bind (Go.Tw.gate_checkName_M t.snd.fst) fun (v3 : Int × Unit) => Option.some ((Go.Tw.gate_when Bool.true (10 : Int)).fst, ())) else (Option.bind (Go.Tw.gate_checkName_M t.snd.fst) fun (v4 : Int × Unit) => (Option.bind (Go.Tw.gate_first_M [(Go.Tw.gate_when (Decidable.decide ((if Bool.true = Bool.true then if t.snd.snd.fst > t.fst then t.snd.snd.fst else t.fst else if t.snd.snd.fst < t.fst then t.snd.snd.fst else t.fst) ≥ states)) (10 : Int)).fst, v4.fst, (Go.Tw.gate_checkConditions t.snd.snd.snd.fst).fst, (Go.Tw.gate_checkConditions t.snd.snd.snd.snd.fst).fst, (Go.Tw.gate_when (Go.Vx.bitsOp Go.IntKind.i64 Go.BinOp.andNot t.snd.snd.snd.snd.fst t.snd.snd.snd.fst != (0 : Int)) (1 : Int)).fst]) fun (v5 : Int × Unit) => Option.some (v5.fst, ()))))

theorem gate_Transition_check_eq (n : Nat) (x : gate_Transition_check_a.den) : runF gate_Transition_check_g (gate_Transition_check_an n) Tryz.f99 gate_Transition_check_a gate_Transition_check_r x = gate_Transition_check_m n x.1 x.2.1 := by kernel_rfl

noncomputable def gate_Transition_check_M (t : Tra) (states : Int) : Option (Int × Unit) := gate_Transition_check_m 0 t states

theorem gate_Transition_check_run (t : Tra) (states : Int) (y : Int × Unit) (h : gate_Transition_check_M t states = some y) : ∃ n, gate_Transition_check_m n t states = some y := ⟨0, h⟩
noncomputable def gate_Transition_check_e : Entry := { f := 99, args := gate_Transition_check_a, ress := gate_Transition_check_r, m := fun x => gate_Transition_check_M x.1 x.2.1 }
theorem gate_Transition_check_ok : FnOK Tryz.prog gate_Transition_check_e := fn_ok (g := gate_Transition_check_g) (fn := Tryz.f99) hmixed tabOk (eCons gate_when_ok (eCons gate_checkName_ok (eCons gate_checkConditions_ok (eCons gate_first_ok eNil)))) (by kernel_rfl) (by kernel_rfl) (by kernel_rfl) (fun x y h => let ⟨n, hn⟩ := gate_Transition_check_run x.1 x.2.1 y h; ⟨gate_Transition_check_an n, iNil, (gate_Transition_check_eq n x).trans hn⟩)

/-! ### (gate.Input).check -/
abbrev gate_Input_check_a : Ty := .pair t55 .unit
abbrev gate_Input_check_r : Ty := .pair t29 .unit
noncomputable def gate_Input_check_g : G := { T := T, E := [gate_checkName_e, gate_checkConditions_e, gate_first_e], muts := [], fz := [] }
def gate_Input_check_k : List (List Nat) := []
noncomputable def gate_Input_check_an (n : Nat) : Ann := { keep := gate_Input_check_k, fuel := n, inl := [], deep := 0 }
noncomputable def gate_Input_check_m (n : Nat) (p0 : List UInt8 × Int × Unit) : Option (Int × Unit) :=
  (Option.bind (Go.Tw.gate_checkName_M p0.fst) fun (v0 : Int × Unit) => (Option.bind (Go.Tw.gate_first_M [v0.fst, (Go.Tw.gate_checkConditions p0.snd.fst).fst]) fun (v1 : Int × Unit) => Option.some (v1.fst, ())))

theorem gate_Input_check_eq (n : Nat) (x : gate_Input_check_a.den) : runF gate_Input_check_g (gate_Input_check_an n) Tryz.f102 gate_Input_check_a gate_Input_check_r x = gate_Input_check_m n x.1 := by kernel_rfl

noncomputable def gate_Input_check_M (p0 : List UInt8 × Int × Unit) : Option (Int × Unit) := gate_Input_check_m 0 p0

theorem gate_Input_check_run (p0 : List UInt8 × Int × Unit) (y : Int × Unit) (h : gate_Input_check_M p0 = some y) : ∃ n, gate_Input_check_m n p0 = some y := ⟨0, h⟩
noncomputable def gate_Input_check_e : Entry := { f := 102, args := gate_Input_check_a, ress := gate_Input_check_r, m := fun x => gate_Input_check_M x.1 }
theorem gate_Input_check_ok : FnOK Tryz.prog gate_Input_check_e := fn_ok (g := gate_Input_check_g) (fn := Tryz.f102) hmixed tabOk (eCons gate_checkName_ok (eCons gate_checkConditions_ok (eCons gate_first_ok eNil))) (by kernel_rfl) (by kernel_rfl) (by kernel_rfl) (fun x y h => let ⟨n, hn⟩ := gate_Input_check_run x.1 y h; ⟨gate_Input_check_an n, iNil, (gate_Input_check_eq n x).trans hn⟩)

/-! ### (gate.Chart).step -/
abbrev gate_Chart_step_a : Ty := .pair t35 (.pair t3 (.pair t55 .unit))
abbrev gate_Chart_step_r : Ty := .pair t167 .unit
noncomputable def gate_Chart_step_g : G := { T := T, E := [gate_Chart_step_1_e, gate_kept_gate_Transition_e, gate_Chart_enter_e], muts := [], fz := [] }
def gate_Chart_step_k : List (List Nat) := [[1, 3, 5, 6, 7]]
noncomputable def gate_Chart_step_an (n : Nat) : Ann := { keep := gate_Chart_step_k, fuel := n, inl := [], deep := 0 }
noncomputable def gate_Chart_step_m_l0 (n : Nat) (r0 : Int → Cha → List UInt8 × Int × Unit → Int → Bool → Bool → Int → Option ((Int × Bool × Bool × Unit) × Unit)) (leaf1_0 : Int) (c3_0 : Cha) (in5_0 : List UInt8 × Int × Unit) (b0_0_0 : Int) (b0_1_0 : Bool) (b0_2_0 : Bool) (b1_0_0 : Int) : Option ((Int × Bool × Bool × Unit) × Unit) :=
  (bif b1_0_0 != (-1 : Int) then (Option.bind (Go.Tw.gate_kept_gate_Transition_M c3_0.snd.fst fun (x : Tra × Unit) => Go.Tw.gate_Chart_step_1_M x.fst b1_0_0 in5_0) fun (v1 : List Go.Tw.Tra × Unit) => (bif (↑v1.fst.length : Int) == (0 : Int) then (Option.bind (Go.Vx.idx c3_0.fst b1_0_0) fun (v4 : Sta) => r0 leaf1_0 c3_0 in5_0 b0_0_0 b0_1_0 b0_2_0 v4.snd.fst) else (bif (↑v1.fst.length : Int) == (1 : Int) then (Option.bind (Go.Vx.idx v1.fst (0 : Int)) fun (v2 : Tra) => (Option.bind (Go.Tw.gate_Chart_enter_M c3_0 v2.snd.snd.fst) fun (v3 : Int × Unit) => Option.some ((v3.fst, Bool.false, Bool.false, ()), ()))) else Option.some ((leaf1_0, Bool.false, Bool.true, ()), ())))) else Option.some ((leaf1_0, Bool.true, Bool.false, ()), ()))

noncomputable def gate_Chart_step_m_w0 (n : Nat)  (k : Nat) (leaf1_0 : Int) (c3_0 : Cha) (in5_0 : List UInt8 × Int × Unit) (b0_0_0 : Int) (b0_1_0 : Bool) (b0_2_0 : Bool) (b1_0_0 : Int) : Option ((Int × Bool × Bool × Unit) × Unit) :=
  iter (fun r y => gate_Chart_step_m_l0 n (fun leaf1_0 c3_0 in5_0 b0_0_0 b0_1_0 b0_2_0 b1_0_0 => r ((leaf1_0, (c3_0, (in5_0, ()))), (((b0_0_0, (b0_1_0, (b0_2_0, ()))), ((b1_0_0, ()), ())), ()))) y.1.1 y.1.2.1 y.1.2.2.1 y.2.1.1.1 y.2.1.1.2.1 y.2.1.1.2.2.1 y.2.1.2.1.1) k ((leaf1_0, (c3_0, (in5_0, ()))), (((b0_0_0, (b0_1_0, (b0_2_0, ()))), ((b1_0_0, ()), ())), ()))

noncomputable def gate_Chart_step_m (n : Nat) (c : Cha) (leaf : Int) (p2 : List UInt8 × Int × Unit) : Option ((Int × Bool × Bool × Unit) × Unit) :=
  (gate_Chart_step_m_w0 n n (leaf) (c) (p2) ((0 : Int)) (Bool.false) (Bool.false) (leaf))

theorem gate_Chart_step_eq (n : Nat) (x : gate_Chart_step_a.den) : runF gate_Chart_step_g (gate_Chart_step_an n) Tryz.f103 gate_Chart_step_a gate_Chart_step_r x = gate_Chart_step_m n x.1 x.2.1 x.2.2.1 := by kernel_rfl

noncomputable def gate_Chart_step_b0 (leaf1_0 : Int) (c3_0 : Cha) (in5_0 : List UInt8 × Int × Unit) (b0_0_0 : Int) (b0_1_0 : Bool) (b0_2_0 : Bool) (b1_0_0 : Int) : Option (((Int × Bool × Bool × Unit) × Unit) ⊕ (Int)) :=
  (bif b1_0_0 != (-1 : Int) then (Option.bind (Go.Tw.gate_kept_gate_Transition_M c3_0.snd.fst fun (x : Tra × Unit) => Go.Tw.gate_Chart_step_1_M x.fst b1_0_0 in5_0) fun (v1 : List Go.Tw.Tra × Unit) => (bif (↑v1.fst.length : Int) == (0 : Int) then (Option.bind (Go.Vx.idx c3_0.fst b1_0_0) fun (v4 : Sta) => (some (Sum.inr (v4.snd.fst)))) else (bif (↑v1.fst.length : Int) == (1 : Int) then (Option.bind (Go.Vx.idx v1.fst (0 : Int)) fun (v2 : Tra) => (Option.bind (Go.Tw.gate_Chart_enter_M c3_0 v2.snd.snd.fst) fun (v3 : Int × Unit) => (some (Sum.inl (((v3.fst, Bool.false, Bool.false, ()), ())))))) else (some (Sum.inl (((leaf1_0, Bool.false, Bool.true, ()), ()))))))) else (some (Sum.inl (((leaf1_0, Bool.true, Bool.false, ()), ())))))

theorem gate_Chart_step_m_w0_le (n : Nat) (hn : big ≤ n)  (leaf1_0 : Int) (c3_0 : Cha) (in5_0 : List UInt8 × Int × Unit) (b0_0_0 : Int) (b0_1_0 : Bool) (b0_2_0 : Bool) (b1_0_0 : Int) : LeF some (loopW (fun s__ => gate_Chart_step_b0 leaf1_0 c3_0 in5_0 b0_0_0 b0_1_0 b0_2_0 s__) wMax b1_0_0) (gate_Chart_step_m_w0 n n leaf1_0 c3_0 in5_0 b0_0_0 b0_1_0 b0_2_0 b1_0_0) := by
  refine loopW_le (f := some) (W := fun k__ s__ => gate_Chart_step_m_w0 n k__ leaf1_0 c3_0 in5_0 b0_0_0 b0_1_0 b0_2_0 s__) (body := (fun s__ => gate_Chart_step_b0 leaf1_0 c3_0 in5_0 b0_0_0 b0_1_0 b0_2_0 s__)) (fun k__ s__ => ?_) wMax n b1_0_0 (by unfold big at hn; unfold wMax; omega)
  show LeF _ _ (gate_Chart_step_m_l0 n (gate_Chart_step_m_w0 n k__) leaf1_0 c3_0 in5_0 b0_0_0 b0_1_0 b0_2_0 s__)
  exact (leCond (leBind fun v1 => (leCond (leBind fun v4 => (leSome rfl)) (leCond (leBind fun v2 => (leBind fun v3 => (leSome rfl))) (leSome rfl)))) (leSome rfl))

noncomputable def gate_Chart_step_M (c : Cha) (leaf : Int) (p2 : List UInt8 × Int × Unit) : Option ((Int × Bool × Bool × Unit) × Unit) :=
  (loopW (fun s__ => gate_Chart_step_b0 (leaf) (c) (p2) ((0 : Int)) (Bool.false) (Bool.false) s__) wMax (leaf))

theorem gate_Chart_step_run (c : Cha) (leaf : Int) (p2 : List UInt8 × Int × Unit) (y : (Int × Bool × Bool × Unit) × Unit) (h : gate_Chart_step_M c leaf p2 = some y) : ∃ n, gate_Chart_step_m n c leaf p2 = some y :=
  ⟨big, LeF.top (show LeF some (gate_Chart_step_M c leaf p2) (gate_Chart_step_m big c leaf p2) from (fun (n : Nat) (hn : big ≤ n) => show LeF some (gate_Chart_step_M c leaf p2) (gate_Chart_step_m n c leaf p2) from (by apply gate_Chart_step_m_w0_le n hn)) big (Nat.le_refl _)) h⟩
noncomputable def gate_Chart_step_e : Entry := { f := 103, args := gate_Chart_step_a, ress := gate_Chart_step_r, m := fun x => gate_Chart_step_M x.1 x.2.1 x.2.2.1 }
theorem gate_Chart_step_ok : FnOK Tryz.prog gate_Chart_step_e := fn_ok (g := gate_Chart_step_g) (fn := Tryz.f103) hmixed tabOk (eCons gate_Chart_step_1_ok (eCons gate_kept_gate_Transition_ok (eCons gate_Chart_enter_ok eNil))) (by kernel_rfl) (by kernel_rfl) (by kernel_rfl) (fun x y h => let ⟨n, hn⟩ := gate_Chart_step_run x.1 x.2.1 x.2.2.1 y h; ⟨gate_Chart_step_an n, iNil, (gate_Chart_step_eq n x).trans hn⟩)

/-! ### tidewayref06.ways -/
/-! ### (gate.Failure).check -/
/-! ### (gate.Chart).checkGoal -/
abbrev gate_Chart_checkGoal_a : Ty := .pair t35 (.pair t134 (.pair t3 .unit))
abbrev gate_Chart_checkGoal_r : Ty := .pair t29 .unit
noncomputable def gate_Chart_checkGoal_g : G := { T := T, E := [gate_Chart_checkList_e, gate_within_e, gate_first_e], muts := [], fz := [] }
def gate_Chart_checkGoal_k : List (List Nat) := []
noncomputable def gate_Chart_checkGoal_an (n : Nat) : Ann := { keep := gate_Chart_checkGoal_k, fuel := n, inl := [], deep := 0 }
noncomputable def gate_Chart_checkGoal_m (n : Nat) (c : Cha) (g : Goa) (ticks : Int) : Option (Int × Unit) :=
  (Option.bind (Go.Tw.gate_Chart_checkList_M c g.fst) fun (v0 : Int × Unit) => (Option.bind (Go.Tw.gate_Chart_checkList_M c g.snd.fst) fun (v1 : Int × Unit) => (Option.bind (Go.Tw.gate_first_M [v0.fst, v1.fst, (Go.Tw.gate_within g.snd.snd.fst (0 : Int) ticks).fst, (Go.Tw.gate_within g.snd.snd.snd.fst (0 : Int) ticks).fst]) fun (v2 : Int × Unit) => Option.some (v2.fst, ()))))

theorem gate_Chart_checkGoal_eq (n : Nat) (x : gate_Chart_checkGoal_a.den) : runF gate_Chart_checkGoal_g (gate_Chart_checkGoal_an n) Tryz.f128 gate_Chart_checkGoal_a gate_Chart_checkGoal_r x = gate_Chart_checkGoal_m n x.1 x.2.1 x.2.2.1 := by kernel_rfl

noncomputable def gate_Chart_checkGoal_M (c : Cha) (g : Goa) (ticks : Int) : Option (Int × Unit) := gate_Chart_checkGoal_m 0 c g ticks

theorem gate_Chart_checkGoal_run (c : Cha) (g : Goa) (ticks : Int) (y : Int × Unit) (h : gate_Chart_checkGoal_M c g ticks = some y) : ∃ n, gate_Chart_checkGoal_m n c g ticks = some y := ⟨0, h⟩
noncomputable def gate_Chart_checkGoal_e : Entry := { f := 128, args := gate_Chart_checkGoal_a, ress := gate_Chart_checkGoal_r, m := fun x => gate_Chart_checkGoal_M x.1 x.2.1 x.2.2.1 }
theorem gate_Chart_checkGoal_ok : FnOK Tryz.prog gate_Chart_checkGoal_e := fn_ok (g := gate_Chart_checkGoal_g) (fn := Tryz.f128) hmixed tabOk (eCons gate_Chart_checkList_ok (eCons gate_within_ok (eCons gate_first_ok eNil))) (by kernel_rfl) (by kernel_rfl) (by kernel_rfl) (fun x y h => let ⟨n, hn⟩ := gate_Chart_checkGoal_run x.1 x.2.1 x.2.2.1 y h; ⟨gate_Chart_checkGoal_an n, iNil, (gate_Chart_checkGoal_eq n x).trans hn⟩)

end Go.Tw
end

section
set_option linter.all false
set_option maxRecDepth 1000000
namespace Go.Tw
open Go.Vx Go.Vx.B Go.Proofs
/-! ### tidewayref06.Run -/
/-! ### tidewayref06.Reachable -/
/-! ### tidewayref06.Trace -/
/-! ### (tidewaylaw06.Drill).check -/
/-! ### tidewayref06.Serves -/
/-! ### gate.CheckChart$1 -/
abbrev gate_CheckChart_1_a : Ty := .pair t148 (.pair (.ref t35) .unit)
abbrev gate_CheckChart_1_r : Ty := .pair t29 .unit
noncomputable def gate_CheckChart_1_g : G := { T := T, E := [gate_Transition_check_e], muts := [], fz := [] }
def gate_CheckChart_1_k : List (List Nat) := []
noncomputable def gate_CheckChart_1_an (n : Nat) : Ann := { keep := gate_CheckChart_1_k, fuel := n, inl := [], deep := 0 }
noncomputable def gate_CheckChart_1_m (n : Nat) (t : Tra) (p1 : Cha) : Option (Int × Unit) :=
  (Option.bind (Go.Tw.gate_Transition_check_M t (↑p1.fst.length : Int)) fun (v0 : Int × Unit) => Option.some (v0.fst, ()))

theorem gate_CheckChart_1_eq (n : Nat) (x : gate_CheckChart_1_a.den) : runF gate_CheckChart_1_g (gate_CheckChart_1_an n) Tryz.f98 gate_CheckChart_1_a gate_CheckChart_1_r x = gate_CheckChart_1_m n x.1 x.2.1 := by kernel_rfl

noncomputable def gate_CheckChart_1_M (t : Tra) (p1 : Cha) : Option (Int × Unit) := gate_CheckChart_1_m 0 t p1

theorem gate_CheckChart_1_run (t : Tra) (p1 : Cha) (y : Int × Unit) (h : gate_CheckChart_1_M t p1 = some y) : ∃ n, gate_CheckChart_1_m n t p1 = some y := ⟨0, h⟩
noncomputable def gate_CheckChart_1_e : Entry := { f := 98, args := gate_CheckChart_1_a, ress := gate_CheckChart_1_r, m := fun x => gate_CheckChart_1_M x.1 x.2.1 }
theorem gate_CheckChart_1_ok : FnOK Tryz.prog gate_CheckChart_1_e := fn_ok (g := gate_CheckChart_1_g) (fn := Tryz.f98) hmixed tabOk (eCons gate_Transition_check_ok eNil) (by kernel_rfl) (by kernel_rfl) (by kernel_rfl) (fun x y h => let ⟨n, hn⟩ := gate_CheckChart_1_run x.1 x.2.1 y h; ⟨gate_CheckChart_1_an n, iNil, (gate_CheckChart_1_eq n x).trans hn⟩)

/-! ### gate.checkScript -/
abbrev gate_checkScript_a : Ty := .pair t57 .unit
abbrev gate_checkScript_r : Ty := .pair t29 .unit
noncomputable def gate_checkScript_g : G := { T := T, E := [gate_when_e, gate_mapped_gate_Input_api_Errno_e, gate_Input_check_e, gate_first_e], muts := [], fz := [] }
def gate_checkScript_k : List (List Nat) := []
noncomputable def gate_checkScript_an (n : Nat) : Ann := { keep := gate_checkScript_k, fuel := n, inl := [], deep := 0 }
noncomputable def gate_checkScript_m (n : Nat) (l : List (List UInt8 × Int × Unit)) : Option (Int × Unit) :=
  (Option.bind (Go.Tw.gate_mapped_gate_Input_api_Errno_M l fun (x : (List UInt8 × Int × Unit) × Unit) => Go.Tw.gate_Input_check_M x.fst) fun (v0 : List Int × Unit) => (Option.bind (Go.Tw.gate_first_M v0.fst) fun (v1 : Int × Unit) => (Option.bind (Go.Tw.gate_first_M [(Go.Tw.gate_when (Decidable.decide ((↑l.length : Int) > (64 : Int))) (5 : Int)).fst, v1.fst]) fun (v2 : Int × Unit) => Option.some (v2.fst, ()))))

theorem gate_checkScript_eq (n : Nat) (x : gate_checkScript_a.den) : runF gate_checkScript_g (gate_checkScript_an n) Tryz.f104 gate_checkScript_a gate_checkScript_r x = gate_checkScript_m n x.1 := by kernel_rfl

noncomputable def gate_checkScript_M (l : List (List UInt8 × Int × Unit)) : Option (Int × Unit) := gate_checkScript_m 0 l

theorem gate_checkScript_run (l : List (List UInt8 × Int × Unit)) (y : Int × Unit) (h : gate_checkScript_M l = some y) : ∃ n, gate_checkScript_m n l = some y := ⟨0, h⟩
noncomputable def gate_checkScript_e : Entry := { f := 104, args := gate_checkScript_a, ress := gate_checkScript_r, m := fun x => gate_checkScript_M x.1 }
theorem gate_checkScript_ok : FnOK Tryz.prog gate_checkScript_e := fn_ok (g := gate_checkScript_g) (fn := Tryz.f104) hmixed tabOk (eCons gate_when_ok (eCons gate_mapped_gate_Input_api_Errno_ok (eCons gate_Input_check_ok (eCons gate_first_ok eNil)))) (by kernel_rfl) (by kernel_rfl) (by kernel_rfl) (fun x y h => let ⟨n, hn⟩ := gate_checkScript_run x.1 y h; ⟨gate_checkScript_an n, iNil, (gate_checkScript_eq n x).trans hn⟩)

/-! ### (gate.Chart).play -/
abbrev gate_Chart_play_a : Ty := .pair t35 (.pair t57 (.pair t131 .unit))
abbrev gate_Chart_play_r : Ty := .pair t28 (.pair t29 .unit)
noncomputable def gate_Chart_play_g : G := { T := T, E := [gate_Failure_kind_e, gate_Chart_enter_e, gate_Chart_step_e], muts := [11], fz := [] }
def gate_Chart_play_k : List (List Nat) := [[3, 5, 8, 10, 11, 24, 25, 26]]
noncomputable def gate_Chart_play_an (n : Nat) : Ann := { keep := gate_Chart_play_k, fuel := n, inl := [], deep := 0 }
noncomputable def gate_Chart_play_m_l2 (n : Nat) (r2 : Cha → Fai → Int → List (List UInt8 × Int × Unit) → Int → Int → List UInt8 → (Fai × Unit → Option (Fai × Unit)) → (Fai × Int × (List UInt8 × Int × Unit) × Unit → Option ((List UInt8 × Int × Unit) × Bool × Unit)) → List Int → Option (List Int × Int × Unit)) (c3_2 : Cha) (f5_2 : Fai) (leaf10_2 : Int) (t24_2 : List (List UInt8 × Int × Unit)) (t25_2 : Int) (t26_2 : Int) (b0_0_2 : List UInt8) (b0_1_2 : Fai × Unit → Option (Fai × Unit)) (b0_2_2 : Fai × Int × (List UInt8 × Int × Unit) × Unit → Option ((List UInt8 × Int × Unit) × Bool × Unit)) (cs1_2 : List Int) : Option (List Int × Int × Unit) :=
  (bif Decidable.decide (t26_2 < t25_2) then (Option.bind (Go.Vx.idx t24_2 t26_2) fun (v3 : List UInt8 × Int × Unit) => (Option.bind (b0_2_2 (f5_2, t26_2, (v3.fst, v3.snd.fst, ()), ())) fun (v4 : (List UInt8 × Int × Unit) × Bool × Unit) => (bif v4.snd.fst then (Option.bind (Go.Tw.gate_Chart_step_M c3_2 leaf10_2 (v4.fst.fst, v4.fst.snd.fst, ())) fun (v5 : (Int × Bool × Bool × Unit) × Unit) => (bif v5.fst.snd.snd.fst then Option.some ([], (30 : Int), ()) else (bif Decidable.decide (cs1_2.length + (1 : Nat) ≤ Go.Vx.memMax) then r2 c3_2 f5_2 v5.fst.fst t24_2 t25_2 (Go.IntKind.i64.wrap (t26_2 + (1 : Int))) b0_0_2 b0_1_2 b0_2_2 (cs1_2 ++ [v5.fst.fst]) else none))) else (bif Decidable.decide (cs1_2.length + (1 : Nat) ≤ Go.Vx.memMax) then r2 c3_2 f5_2 leaf10_2 t24_2 t25_2 (Go.IntKind.i64.wrap (t26_2 + (1 : Int))) b0_0_2 b0_1_2 b0_2_2 (cs1_2 ++ [leaf10_2]) else none)))) else Option.some (cs1_2, (0 : Int), ()))

noncomputable def gate_Chart_play_m_w2 (n : Nat)  (k : Nat) (c3_2 : Cha) (f5_2 : Fai) (leaf10_2 : Int) (t24_2 : List (List UInt8 × Int × Unit)) (t25_2 : Int) (t26_2 : Int) (b0_0_2 : List UInt8) (b0_1_2 : Fai × Unit → Option (Fai × Unit)) (b0_2_2 : Fai × Int × (List UInt8 × Int × Unit) × Unit → Option ((List UInt8 × Int × Unit) × Bool × Unit)) (cs1_2 : List Int) : Option (List Int × Int × Unit) :=
  iter (fun r y => gate_Chart_play_m_l2 n (fun c3_2 f5_2 leaf10_2 t24_2 t25_2 t26_2 b0_0_2 b0_1_2 b0_2_2 cs1_2 => r ((c3_2, (f5_2, (leaf10_2, (t24_2, (t25_2, (t26_2, ())))))), (((b0_0_2, (b0_1_2, (b0_2_2, ()))), (cs1_2, ())), ()))) y.1.1 y.1.2.1 y.1.2.2.1 y.1.2.2.2.1 y.1.2.2.2.2.1 y.1.2.2.2.2.2.1 y.2.1.1.1 y.2.1.1.2.1 y.2.1.1.2.2.1 y.2.1.2.1) k ((c3_2, (f5_2, (leaf10_2, (t24_2, (t25_2, (t26_2, ())))))), (((b0_0_2, (b0_1_2, (b0_2_2, ()))), (cs1_2, ())), ()))

noncomputable def gate_Chart_play_m (n : Nat) (c : Cha) (l : List (List UInt8 × Int × Unit)) (f : Fai) : Option (List Int × Int × Unit) :=
  (Option.bind (Go.Tw.gate_Failure_kind_M f) fun (v0 : (List UInt8 × (Go.Tw.Fai × Unit → Option (Go.Tw.Fai × Unit)) × (Go.Tw.Fai × Int × (List UInt8 × Int × Unit) × Unit → Option ((List UInt8 × Int × Unit) × Bool × Unit)) × Unit) × Bool × Unit) => (Option.bind (Go.Tw.gate_Chart_enter_M c (0 : Int)) fun (v1 : Int × Unit) => (gate_Chart_play_m_w2 n n (c) (f) (v1.fst) (l) ((↑l.length : Int)) ((0 : Int)) (v0.fst.fst) (v0.fst.snd.fst) (v0.fst.snd.snd.fst) ([]))))

theorem gate_Chart_play_eq (n : Nat) (x : gate_Chart_play_a.den) : runF gate_Chart_play_g (gate_Chart_play_an n) Tryz.f105 gate_Chart_play_a gate_Chart_play_r x = gate_Chart_play_m n x.1 x.2.1 x.2.2.1 := by kernel_rfl

noncomputable def gate_Chart_play_b2 (c3_2 : Cha) (f5_2 : Fai) (t24_2 : List (List UInt8 × Int × Unit)) (b0_0_2 : List UInt8) (b0_1_2 : Fai × Unit → Option (Fai × Unit)) (b0_2_2 : Fai × Int × (List UInt8 × Int × Unit) × Unit → Option ((List UInt8 × Int × Unit) × Bool × Unit)) (t26_2 : Int) (v3 : List UInt8 × Int × Unit) (leaf10_2 : Int) (cs1_2 : List Int) : Option ((List Int × Int × Unit) ⊕ (Int × List Int)) :=
  (Option.bind (b0_2_2 (f5_2, t26_2, (v3.fst, v3.snd.fst, ()), ())) fun (v4 : (List UInt8 × Int × Unit) × Bool × Unit) => (bif v4.snd.fst then (Option.bind (Go.Tw.gate_Chart_step_M c3_2 leaf10_2 (v4.fst.fst, v4.fst.snd.fst, ())) fun (v5 : (Int × Bool × Bool × Unit) × Unit) => (bif v5.fst.snd.snd.fst then (some (Sum.inl (([], (30 : Int), ())))) else (bif Decidable.decide (cs1_2.length + (1 : Nat) ≤ Go.Vx.memMax) then (some (Sum.inr ((v5.fst.fst), (cs1_2 ++ [v5.fst.fst])))) else none))) else (bif Decidable.decide (cs1_2.length + (1 : Nat) ≤ Go.Vx.memMax) then (some (Sum.inr ((leaf10_2), (cs1_2 ++ [leaf10_2])))) else none)))

noncomputable def gate_Chart_play_f2 (c3_2 : Cha) (f5_2 : Fai) (t24_2 : List (List UInt8 × Int × Unit)) (b0_0_2 : List UInt8) (b0_1_2 : Fai × Unit → Option (Fai × Unit)) (b0_2_2 : Fai × Int × (List UInt8 × Int × Unit) × Unit → Option ((List UInt8 × Int × Unit) × Bool × Unit)) (leaf10_2 : Int) (cs1_2 : List Int) : Option (List Int × Int × Unit) :=
  (some ((cs1_2, (0 : Int), ())))

theorem gate_Chart_play_m_w2_le (n : Nat) (hn : big ≤ n)  (c3_2 : Cha) (f5_2 : Fai) (t24_2 : List (List UInt8 × Int × Unit)) (b0_0_2 : List UInt8) (b0_1_2 : Fai × Unit → Option (Fai × Unit)) (b0_2_2 : Fai × Int × (List UInt8 × Int × Unit) × Unit → Option ((List UInt8 × Int × Unit) × Bool × Unit)) (leaf10_2 : Int) (cs1_2 : List Int) (hx : List.length (t24_2) < lenMax) : LeF some (loopL (fun i__ e__ s__ => gate_Chart_play_b2 c3_2 f5_2 t24_2 b0_0_2 b0_1_2 b0_2_2 i__ e__ s__.1 s__.2) (fun s__ => gate_Chart_play_f2 c3_2 f5_2 t24_2 b0_0_2 b0_1_2 b0_2_2 s__.1 s__.2) 0 (t24_2) (leaf10_2, cs1_2)) (gate_Chart_play_m_w2 n n c3_2 f5_2 leaf10_2 t24_2 (List.length (t24_2) : Int) 0 b0_0_2 b0_1_2 b0_2_2 cs1_2) := by
  refine loopL_le (f := some) (W := fun k__ i__ s__ => gate_Chart_play_m_w2 n k__ c3_2 f5_2 s__.1 t24_2 (List.length (t24_2) : Int) i__ b0_0_2 b0_1_2 b0_2_2 s__.2) (body := (fun i__ e__ s__ => gate_Chart_play_b2 c3_2 f5_2 t24_2 b0_0_2 b0_1_2 b0_2_2 i__ e__ s__.1 s__.2)) (fin := (fun s__ => gate_Chart_play_f2 c3_2 f5_2 t24_2 b0_0_2 b0_1_2 b0_2_2 s__.1 s__.2)) (fun k__ i__ s__ => ?_) hx (leaf10_2, cs1_2) n (by unfold big at hn; unfold lenMax at hx; omega)
  show LeF _ _ (gate_Chart_play_m_l2 n (gate_Chart_play_m_w2 n k__) c3_2 f5_2 s__.1 t24_2 (List.length (t24_2) : Int) i__ b0_0_2 b0_1_2 b0_2_2 s__.2)
  exact leCond (leBind fun v3 => (leBind fun v4 => (leCond (leBind fun v5 => (leCond (leSome rfl) (leCond (leSome rfl) leNone))) (leCond (leSome rfl) leNone)))) (leMap (leSome rfl))

noncomputable def gate_Chart_play_M (c : Cha) (l : List (List UInt8 × Int × Unit)) (f : Fai) : Option (List Int × Int × Unit) :=
  (Option.bind (Go.Tw.gate_Failure_kind_M f) fun (v0 : (List UInt8 × (Go.Tw.Fai × Unit → Option (Go.Tw.Fai × Unit)) × (Go.Tw.Fai × Int × (List UInt8 × Int × Unit) × Unit → Option ((List UInt8 × Int × Unit) × Bool × Unit)) × Unit) × Bool × Unit) => (Option.bind (Go.Tw.gate_Chart_enter_M c (0 : Int)) fun (v1 : Int × Unit) => (bif decide (List.length (l) < lenMax) then loopL (fun i__ e__ s__ => gate_Chart_play_b2 (c) (f) (l) (v0.fst.fst) (v0.fst.snd.fst) (v0.fst.snd.snd.fst) i__ e__ s__.1 s__.2) (fun s__ => gate_Chart_play_f2 (c) (f) (l) (v0.fst.fst) (v0.fst.snd.fst) (v0.fst.snd.snd.fst) s__.1 s__.2) 0 (l) ((v1.fst), ([])) else none)))

theorem gate_Chart_play_run (c : Cha) (l : List (List UInt8 × Int × Unit)) (f : Fai) (y : List Int × Int × Unit) (h : gate_Chart_play_M c l f = some y) : ∃ n, gate_Chart_play_m n c l f = some y :=
  ⟨big, LeF.top (show LeF some (gate_Chart_play_M c l f) (gate_Chart_play_m big c l f) from (fun (n : Nat) (hn : big ≤ n) => show LeF some (gate_Chart_play_M c l f) (gate_Chart_play_m n c l f) from (leBind fun v0 => (leBind fun v1 => (leGuard fun hx => by apply gate_Chart_play_m_w2_le n hn; exact hx)))) big (Nat.le_refl _)) h⟩
noncomputable def gate_Chart_play_e : Entry := { f := 105, args := gate_Chart_play_a, ress := gate_Chart_play_r, m := fun x => gate_Chart_play_M x.1 x.2.1 x.2.2.1 }
theorem gate_Chart_play_ok : FnOK Tryz.prog gate_Chart_play_e := fn_ok (g := gate_Chart_play_g) (fn := Tryz.f105) hmixed tabOk (eCons gate_Failure_kind_ok (eCons gate_Chart_enter_ok (eCons gate_Chart_step_ok eNil))) (by kernel_rfl) (by kernel_rfl) (by kernel_rfl) (fun x y h => let ⟨n, hn⟩ := gate_Chart_play_run x.1 x.2.1 x.2.2.1 y h; ⟨gate_Chart_play_an n, iNil, (gate_Chart_play_eq n x).trans hn⟩)

end Go.Tw
end

section
set_option linter.all false
set_option maxRecDepth 1000000
namespace Go.Tw
open Go.Vx Go.Vx.B Go.Proofs
/-! ### gate.CheckChart -/
abbrev gate_CheckChart_a : Ty := .pair t35 .unit
abbrev gate_CheckChart_r : Ty := .pair t29 .unit
noncomputable def gate_CheckChart_g : G := { T := T, E := [gate_when_e, gate_first_e, gate_Chart_checkStates_e, gate_CheckChart_1_e, gate_mapped_gate_Transition_api_Errno_e, gate_Chart_events_e], muts := [], fz := [] }
def gate_CheckChart_k : List (List Nat) := []
noncomputable def gate_CheckChart_an (n : Nat) : Ann := { keep := gate_CheckChart_k, fuel := n, inl := [], deep := 0 }
noncomputable def gate_CheckChart_m (n : Nat) (c : Cha) : Option (Int × Unit) :=
  (Option.bind (Go.Tw.gate_first_M [(Go.Tw.gate_when ((↑c.fst.length : Int) == (0 : Int)) (12 : Int)).fst, (Go.Tw.gate_when (Decidable.decide ((↑c.fst.length : Int) > (16 : Int))) (5 : Int)).fst]) fun (v0 : Int × Unit) => (bif v0.fst != (0 : Int) then Option.some (v0.fst, ()) else (Option.bind (Go.Tw.gate_Chart_checkStates_M c) fun (v1 : Int × Unit) => (Option.bind (Go.Tw.gate_first_M [v1.fst, (Go.Tw.gate_when (Decidable.decide ((↑c.snd.fst.length : Int) > (48 : Int))) (5 : Int)).fst]) fun (v2 : Int × Unit) => (bif v2.fst != (0 : Int) then Option.some (v2.fst, ()) else (Option.bind (Go.Tw.gate_mapped_gate_Transition_api_Errno_M c.snd.fst fun (x : Tra × Unit) => Go.Tw.gate_CheckChart_1_M x.fst c) fun (v3 : List Int × Unit) => (Option.bind (Go.Tw.gate_first_M v3.fst) fun (v4 : Int × Unit) => (Option.bind (Go.Tw.gate_Chart_events_M c) fun (v5 : List (List UInt8) × Unit) => (Option.bind (Go.Tw.gate_first_M [v4.fst, (Go.Tw.gate_when (Decidable.decide ((↑v5.fst.length : Int) > (8 : Int))) (5 : Int)).fst]) fun (v6 : Int × Unit) => Option.some (v6.fst, ()))))))))))

theorem gate_CheckChart_eq (n : Nat) (x : gate_CheckChart_a.den) : runF gate_CheckChart_g (gate_CheckChart_an n) Tryz.f24 gate_CheckChart_a gate_CheckChart_r x = gate_CheckChart_m n x.1 := by kernel_rfl

noncomputable def gate_CheckChart_M (c : Cha) : Option (Int × Unit) := gate_CheckChart_m 0 c

theorem gate_CheckChart_run (c : Cha) (y : Int × Unit) (h : gate_CheckChart_M c = some y) : ∃ n, gate_CheckChart_m n c = some y := ⟨0, h⟩
noncomputable def gate_CheckChart_e : Entry := { f := 24, args := gate_CheckChart_a, ress := gate_CheckChart_r, m := fun x => gate_CheckChart_M x.1 }
theorem gate_CheckChart_ok : FnOK Tryz.prog gate_CheckChart_e := fn_ok (g := gate_CheckChart_g) (fn := Tryz.f24) hmixed tabOk (eCons gate_when_ok (eCons gate_first_ok (eCons gate_Chart_checkStates_ok (eCons gate_CheckChart_1_ok (eCons gate_mapped_gate_Transition_api_Errno_ok (eCons gate_Chart_events_ok eNil)))))) (by kernel_rfl) (by kernel_rfl) (by kernel_rfl) (fun x y h => let ⟨n, hn⟩ := gate_CheckChart_run x.1 y h; ⟨gate_CheckChart_an n, iNil, (gate_CheckChart_eq n x).trans hn⟩)

/-! ### tidewayref06.Against -/
/-! ### gate.Failures -/
abbrev gate_Failures_a : Ty := .pair t57 .unit
abbrev gate_Failures_r : Ty := .pair t97 (.pair t29 .unit)
noncomputable def gate_Failures_g : G := { T := T, E := [gate_checkScript_e, gate_failures_e], muts := [], fz := [] }
def gate_Failures_k : List (List Nat) := []
noncomputable def gate_Failures_an (n : Nat) : Ann := { keep := gate_Failures_k, fuel := n, inl := [], deep := 0 }
noncomputable def gate_Failures_m (n : Nat) (l : List (List UInt8 × Int × Unit)) : Option (List Fai × Int × Unit) :=
  (Option.bind (Go.Tw.gate_checkScript_M l) fun (v0 : Int × Unit) => (bif v0.fst != (0 : Int) then Option.some ([], v0.fst, ()) else (Option.bind (Go.Tw.gate_failures_M (↑l.length : Int)) fun (v1 : List Go.Tw.Fai × Unit) => Option.some (v1.fst, (0 : Int), ()))))

theorem gate_Failures_eq (n : Nat) (x : gate_Failures_a.den) : runF gate_Failures_g (gate_Failures_an n) Tryz.f61 gate_Failures_a gate_Failures_r x = gate_Failures_m n x.1 := by kernel_rfl

noncomputable def gate_Failures_M (l : List (List UInt8 × Int × Unit)) : Option (List Fai × Int × Unit) := gate_Failures_m 0 l

theorem gate_Failures_run (l : List (List UInt8 × Int × Unit)) (y : List Fai × Int × Unit) (h : gate_Failures_M l = some y) : ∃ n, gate_Failures_m n l = some y := ⟨0, h⟩
noncomputable def gate_Failures_e : Entry := { f := 61, args := gate_Failures_a, ress := gate_Failures_r, m := fun x => gate_Failures_M x.1 }
theorem gate_Failures_ok : FnOK Tryz.prog gate_Failures_e := fn_ok (g := gate_Failures_g) (fn := Tryz.f61) hmixed tabOk (eCons gate_checkScript_ok (eCons gate_failures_ok eNil)) (by kernel_rfl) (by kernel_rfl) (by kernel_rfl) (fun x y h => let ⟨n, hn⟩ := gate_Failures_run x.1 y h; ⟨gate_Failures_an n, iNil, (gate_Failures_eq n x).trans hn⟩)

/-! ### tidewayref06.CheckTrace -/
/-! ### tidewayref06.Weak -/
noncomputable def il150 : Inl := { f := 150, fn := Tryz.f150, keep := [], muts := [], fz := [] }
theorem il150_ok : InlOK Tryz.prog il150 := ⟨by kernel_rfl, by kernel_rfl, fun e0 h => by cases (show (none : Option LibK) = some e0 from h)⟩
noncomputable def il161 : Inl := { f := 161, fn := Tryz.f161, keep := [[0, 7, 8, 9], [0, 4, 7, 8, 9, 13]], muts := [], fz := [] }
theorem il161_ok : InlOK Tryz.prog il161 := ⟨by kernel_rfl, by kernel_rfl, fun e0 h => by cases (show (none : Option LibK) = some e0 from h)⟩
/-! ### (gate.Chart).paths -/
abbrev gate_Chart_paths_a : Ty := .pair t35 .unit
abbrev gate_Chart_paths_r : Ty := .pair t194 .unit
noncomputable def gate_Chart_paths_g : G := { T := T, E := [gate_Chart_enter_e, gate_Chart_step_e, slices_Clone_gate_Input_gate_Input_e, gate_Chart_events_e], muts := [12, 53], fz := [56] }
def gate_Chart_paths_k : List (List Nat) := [[1, 3, 4, 5, 31]]
noncomputable def gate_Chart_paths_an (n : Nat) : Ann := { keep := gate_Chart_paths_k, fuel := n, inl := [il150, il161], deep := 3 }
noncomputable def gate_Chart_paths_m_l7 (n : Nat) (r5 : List (List UInt8) → Int → Int → Cha → Int → Int → Int → Bool → Int → Pth → Cha → Cha → Int → List (List UInt8 × Int × Unit) → List Pth → List (Int × Bool) → Cha → Int → Int → Int → Bool → Int → Pth → Cha → Cha → Option (List Pth × Unit)) (r7 : List UInt8 → List (List UInt8) → Int → Int → Int → Cha → Int → Int → Int → Bool → Int → Pth → Cha → Cha → Int → List (List UInt8 × Int × Unit) → List Pth → List (Int × Bool) → Cha → Int → Int → Int → Bool → Int → Pth → Cha → Cha → Option (List Pth × Unit)) (event4_7 : List UInt8) (t7_7 : List (List UInt8)) (t8_7 : Int) (t9_7 : Int) (t13_7 : Int) (p0_1_7 : Cha) (p0_5_7 : Int) (p0_19_7 : Int) (p0_21_7 : Int) (p0_22_7 : Bool) (p0_26_7 : Int) (p0_28_7 : Pth) (p0_29_7 : Cha) (p0_30_7_0 : Cha) (b3_0_7 : Int) (b3_1_7 : List (List UInt8 × Int × Unit)) (c4_7 : List Pth) (m5_7 : List (Int × Bool)) (k1_7 : Cha) (k5_7 : Int) (k19_7 : Int) (k21_7 : Int) (k22_7 : Bool) (k26_7 : Int) (k28_7 : Pth) (k29_7 : Cha) (k30_7_0 : Cha) : Option (List Pth × Unit) :=
  (bif Decidable.decide (t13_7 < (16 : Int)) then (Option.bind (Go.Tw.gate_Chart_step_M p0_1_7 b3_0_7 (event4_7, t13_7, ())) fun (v8 : (Int × Bool × Bool × Unit) × Unit) => (bif v8.fst.snd.snd.fst then r7 event4_7 t7_7 t8_7 t9_7 (Go.IntKind.i64.wrap (t13_7 + (1 : Int))) p0_1_7 p0_5_7 p0_19_7 p0_21_7 p0_22_7 p0_26_7 p0_28_7 p0_29_7 p0_30_7_0 b3_0_7 b3_1_7 c4_7 m5_7 k1_7 k5_7 k19_7 k21_7 k22_7 k26_7 k28_7 k29_7 k30_7_0 else (bif (Go.Vx.mapGet (Go.Vx.Ty.int Go.IntKind.i64) Go.Vx.Ty.bool m5_7 v8.fst.fst).getD Bool.false then r7 event4_7 t7_7 t8_7 t9_7 (Go.IntKind.i64.wrap (t13_7 + (1 : Int))) p0_1_7 p0_5_7 p0_19_7 p0_21_7 p0_22_7 p0_26_7 p0_28_7 p0_29_7 p0_30_7_0 b3_0_7 b3_1_7 c4_7 m5_7 k1_7 k5_7 k19_7 k21_7 k22_7 k26_7 k28_7 k29_7 k30_7_0 else (bif Decidable.decide (b3_1_7.length ≤ Go.Vx.memMax) then (bif Decidable.decide (b3_1_7.length + (1 : Nat) ≤ Go.Vx.memMax) then (bif Decidable.decide (c4_7.length + (1 : Nat) ≤ Go.Vx.memMax) then r7 event4_7 t7_7 t8_7 t9_7 (Go.IntKind.i64.wrap (t13_7 + (1 : Int))) p0_1_7 p0_5_7 p0_19_7 p0_21_7 p0_22_7 p0_26_7 p0_28_7 p0_29_7 p0_30_7_0 b3_0_7 b3_1_7 (c4_7 ++ [(v8.fst.fst, b3_1_7 ++ [(event4_7, t13_7, ())], ())]) (Go.Vx.mapPut (Go.Vx.Ty.int Go.IntKind.i64) Go.Vx.Ty.bool m5_7 v8.fst.fst Bool.true) k1_7 k5_7 k19_7 k21_7 k22_7 k26_7 k28_7 k29_7 k30_7_0 else none) else none) else none)))) else r5 t7_7 t8_7 (Go.IntKind.i64.wrap (t9_7 + (1 : Int))) p0_1_7 p0_5_7 p0_19_7 p0_21_7 p0_22_7 p0_26_7 p0_28_7 p0_29_7 p0_30_7_0 b3_0_7 b3_1_7 c4_7 m5_7 k1_7 k5_7 k19_7 k21_7 k22_7 k26_7 k28_7 k29_7 k30_7_0)

noncomputable def gate_Chart_paths_m_w7 (n : Nat) (r5 : List (List UInt8) → Int → Int → Cha → Int → Int → Int → Bool → Int → Pth → Cha → Cha → Int → List (List UInt8 × Int × Unit) → List Pth → List (Int × Bool) → Cha → Int → Int → Int → Bool → Int → Pth → Cha → Cha → Option (List Pth × Unit)) (k : Nat) (event4_7 : List UInt8) (t7_7 : List (List UInt8)) (t8_7 : Int) (t9_7 : Int) (t13_7 : Int) (p0_1_7 : Cha) (p0_5_7 : Int) (p0_19_7 : Int) (p0_21_7 : Int) (p0_22_7 : Bool) (p0_26_7 : Int) (p0_28_7 : Pth) (p0_29_7 : Cha) (p0_30_7_0 : Cha) (b3_0_7 : Int) (b3_1_7 : List (List UInt8 × Int × Unit)) (c4_7 : List Pth) (m5_7 : List (Int × Bool)) (k1_7 : Cha) (k5_7 : Int) (k19_7 : Int) (k21_7 : Int) (k22_7 : Bool) (k26_7 : Int) (k28_7 : Pth) (k29_7 : Cha) (k30_7_0 : Cha) : Option (List Pth × Unit) :=
  iter (fun r y => gate_Chart_paths_m_l7 n r5 (fun event4_7 t7_7 t8_7 t9_7 t13_7 p0_1_7 p0_5_7 p0_19_7 p0_21_7 p0_22_7 p0_26_7 p0_28_7 p0_29_7 p0_30_7_0 b3_0_7 b3_1_7 c4_7 m5_7 k1_7 k5_7 k19_7 k21_7 k22_7 k26_7 k28_7 k29_7 k30_7_0 => r ((event4_7, (t7_7, (t8_7, (t9_7, (t13_7, ()))))), (((p0_1_7, (p0_5_7, (p0_19_7, (p0_21_7, (p0_22_7, (p0_26_7, (p0_28_7, (p0_29_7, ((p0_30_7_0, ()), ()))))))))), ((), ((), ((b3_0_7, (b3_1_7, ())), (c4_7, (m5_7, ())))))), (k1_7, (k5_7, (k19_7, (k21_7, (k22_7, (k26_7, (k28_7, (k29_7, ((k30_7_0, ()), ())))))))))))) y.1.1 y.1.2.1 y.1.2.2.1 y.1.2.2.2.1 y.1.2.2.2.2.1 y.2.1.1.1 y.2.1.1.2.1 y.2.1.1.2.2.1 y.2.1.1.2.2.2.1 y.2.1.1.2.2.2.2.1 y.2.1.1.2.2.2.2.2.1 y.2.1.1.2.2.2.2.2.2.1 y.2.1.1.2.2.2.2.2.2.2.1 y.2.1.1.2.2.2.2.2.2.2.2.1.1 y.2.1.2.2.2.1.1 y.2.1.2.2.2.1.2.1 y.2.1.2.2.2.2.1 y.2.1.2.2.2.2.2.1 y.2.2.1 y.2.2.2.1 y.2.2.2.2.1 y.2.2.2.2.2.1 y.2.2.2.2.2.2.1 y.2.2.2.2.2.2.2.1 y.2.2.2.2.2.2.2.2.1 y.2.2.2.2.2.2.2.2.2.1 y.2.2.2.2.2.2.2.2.2.2.1.1) k ((event4_7, (t7_7, (t8_7, (t9_7, (t13_7, ()))))), (((p0_1_7, (p0_5_7, (p0_19_7, (p0_21_7, (p0_22_7, (p0_26_7, (p0_28_7, (p0_29_7, ((p0_30_7_0, ()), ()))))))))), ((), ((), ((b3_0_7, (b3_1_7, ())), (c4_7, (m5_7, ())))))), (k1_7, (k5_7, (k19_7, (k21_7, (k22_7, (k26_7, (k28_7, (k29_7, ((k30_7_0, ()), ())))))))))))

noncomputable def gate_Chart_paths_m_l5 (n : Nat) (r1 : Cha → Int → List Pth → List (Int × Bool) → Option (List Pth × Unit)) (r5 : List (List UInt8) → Int → Int → Cha → Int → Int → Int → Bool → Int → Pth → Cha → Cha → Int → List (List UInt8 × Int × Unit) → List Pth → List (Int × Bool) → Cha → Int → Int → Int → Bool → Int → Pth → Cha → Cha → Option (List Pth × Unit)) (t7_5 : List (List UInt8)) (t8_5 : Int) (t9_5 : Int) (p0_1_5 : Cha) (p0_5_5 : Int) (p0_19_5 : Int) (p0_21_5 : Int) (p0_22_5 : Bool) (p0_26_5 : Int) (p0_28_5 : Pth) (p0_29_5 : Cha) (p0_30_5_0 : Cha) (b3_0_5 : Int) (b3_1_5 : List (List UInt8 × Int × Unit)) (c4_5 : List Pth) (m5_5 : List (Int × Bool)) (k1_5 : Cha) (k5_5 : Int) (k19_5 : Int) (k21_5 : Int) (k22_5 : Bool) (k26_5 : Int) (k28_5 : Pth) (k29_5 : Cha) (k30_5_0 : Cha) : Option (List Pth × Unit) :=
  (bif Decidable.decide (t9_5 < t8_5) then (Option.bind (Go.Vx.idx t7_5 t9_5) fun (v6 : List UInt8) => (gate_Chart_paths_m_w7 n r5 n (v6) (t7_5) (t8_5) (t9_5) ((0 : Int)) (p0_1_5) (p0_5_5) (p0_19_5) (p0_21_5) (p0_22_5) (p0_26_5) (p0_28_5) (p0_29_5) (p0_30_5_0) (b3_0_5) (b3_1_5) (c4_5) (m5_5) (k1_5) (k5_5) (k19_5) (k21_5) (k22_5) (k26_5) (k28_5) (k29_5) (k30_5_0))) else r1 k1_5 (Go.IntKind.i64.wrap (k5_5 + (1 : Int))) c4_5 m5_5)

noncomputable def gate_Chart_paths_m_w5 (n : Nat) (r1 : Cha → Int → List Pth → List (Int × Bool) → Option (List Pth × Unit)) (k : Nat) (t7_5 : List (List UInt8)) (t8_5 : Int) (t9_5 : Int) (p0_1_5 : Cha) (p0_5_5 : Int) (p0_19_5 : Int) (p0_21_5 : Int) (p0_22_5 : Bool) (p0_26_5 : Int) (p0_28_5 : Pth) (p0_29_5 : Cha) (p0_30_5_0 : Cha) (b3_0_5 : Int) (b3_1_5 : List (List UInt8 × Int × Unit)) (c4_5 : List Pth) (m5_5 : List (Int × Bool)) (k1_5 : Cha) (k5_5 : Int) (k19_5 : Int) (k21_5 : Int) (k22_5 : Bool) (k26_5 : Int) (k28_5 : Pth) (k29_5 : Cha) (k30_5_0 : Cha) : Option (List Pth × Unit) :=
  iter (fun r y => gate_Chart_paths_m_l5 n r1 (fun t7_5 t8_5 t9_5 p0_1_5 p0_5_5 p0_19_5 p0_21_5 p0_22_5 p0_26_5 p0_28_5 p0_29_5 p0_30_5_0 b3_0_5 b3_1_5 c4_5 m5_5 k1_5 k5_5 k19_5 k21_5 k22_5 k26_5 k28_5 k29_5 k30_5_0 => r ((t7_5, (t8_5, (t9_5, ()))), (((p0_1_5, (p0_5_5, (p0_19_5, (p0_21_5, (p0_22_5, (p0_26_5, (p0_28_5, (p0_29_5, ((p0_30_5_0, ()), ()))))))))), ((), ((), ((b3_0_5, (b3_1_5, ())), (c4_5, (m5_5, ())))))), (k1_5, (k5_5, (k19_5, (k21_5, (k22_5, (k26_5, (k28_5, (k29_5, ((k30_5_0, ()), ())))))))))))) y.1.1 y.1.2.1 y.1.2.2.1 y.2.1.1.1 y.2.1.1.2.1 y.2.1.1.2.2.1 y.2.1.1.2.2.2.1 y.2.1.1.2.2.2.2.1 y.2.1.1.2.2.2.2.2.1 y.2.1.1.2.2.2.2.2.2.1 y.2.1.1.2.2.2.2.2.2.2.1 y.2.1.1.2.2.2.2.2.2.2.2.1.1 y.2.1.2.2.2.1.1 y.2.1.2.2.2.1.2.1 y.2.1.2.2.2.2.1 y.2.1.2.2.2.2.2.1 y.2.2.1 y.2.2.2.1 y.2.2.2.2.1 y.2.2.2.2.2.1 y.2.2.2.2.2.2.1 y.2.2.2.2.2.2.2.1 y.2.2.2.2.2.2.2.2.1 y.2.2.2.2.2.2.2.2.2.1 y.2.2.2.2.2.2.2.2.2.2.1.1) k ((t7_5, (t8_5, (t9_5, ()))), (((p0_1_5, (p0_5_5, (p0_19_5, (p0_21_5, (p0_22_5, (p0_26_5, (p0_28_5, (p0_29_5, ((p0_30_5_0, ()), ()))))))))), ((), ((), ((b3_0_5, (b3_1_5, ())), (c4_5, (m5_5, ())))))), (k1_5, (k5_5, (k19_5, (k21_5, (k22_5, (k26_5, (k28_5, (k29_5, ((k30_5_0, ()), ())))))))))))

noncomputable def gate_Chart_paths_m_l1 (n : Nat) (r1 : Cha → Int → List Pth → List (Int × Bool) → Option (List Pth × Unit)) (c1_1 : Cha) (i5_1 : Int) (cs2_1 : List Pth) (m3_1 : List (Int × Bool)) : Option (List Pth × Unit) :=
  (bif Decidable.decide (i5_1 < (↑cs2_1.length : Int)) then (Option.bind (Go.Vx.idx cs2_1 i5_1) fun (v2 : Pth) => (Option.bind (cs2_1[i5_1.toNat]?) fun (v3 : Pth) => (Option.bind (Go.Tw.gate_Chart_events_M c1_1) fun (v4 : List (List UInt8) × Unit) => (gate_Chart_paths_m_w5 n r1 n (v4.fst) ((↑v4.fst.length : Int)) ((0 : Int)) (c1_1) (i5_1) (i5_1) ((↑cs2_1.length : Int)) (Decidable.decide (i5_1 < (↑cs2_1.length : Int))) (i5_1) (v3) (c1_1) (c1_1) (v3.fst) (v3.snd.fst) (cs2_1) (m3_1) (c1_1) (i5_1) (i5_1) ((↑cs2_1.length : Int)) (Decidable.decide (i5_1 < (↑cs2_1.length : Int))) (i5_1) (v3) (c1_1) (c1_1))))) else Option.some (cs2_1, ()))

noncomputable def gate_Chart_paths_m_w1 (n : Nat)  (k : Nat) (c1_1 : Cha) (i5_1 : Int) (cs2_1 : List Pth) (m3_1 : List (Int × Bool)) : Option (List Pth × Unit) :=
  iter (fun r y => gate_Chart_paths_m_l1 n (fun c1_1 i5_1 cs2_1 m3_1 => r ((c1_1, (i5_1, ())), (((), ((), (cs2_1, (m3_1, ())))), ()))) y.1.1 y.1.2.1 y.2.1.2.2.1 y.2.1.2.2.2.1) k ((c1_1, (i5_1, ())), (((), ((), (cs2_1, (m3_1, ())))), ()))

noncomputable def gate_Chart_paths_m (n : Nat) (c : Cha) : Option (List Pth × Unit) :=
  (Option.bind (Go.Tw.gate_Chart_enter_M c (0 : Int)) fun (v0 : Int × Unit) => (gate_Chart_paths_m_w1 n n (c) ((0 : Int)) ([(v0.fst, [], ())]) ([(v0.fst, Bool.true)])))

theorem gate_Chart_paths_eq (n : Nat) (x : gate_Chart_paths_a.den) : runF gate_Chart_paths_g (gate_Chart_paths_an n) Tryz.f124 gate_Chart_paths_a gate_Chart_paths_r x = gate_Chart_paths_m n x.1 := by kernel_rfl

noncomputable def gate_Chart_paths_b7 (event4_7 : List UInt8) (t7_7 : List (List UInt8)) (t8_7 : Int) (t9_7 : Int) (p0_1_7 : Cha) (p0_5_7 : Int) (p0_19_7 : Int) (p0_21_7 : Int) (p0_22_7 : Bool) (p0_26_7 : Int) (p0_28_7 : Pth) (p0_29_7 : Cha) (p0_30_7_0 : Cha) (b3_0_7 : Int) (b3_1_7 : List (List UInt8 × Int × Unit)) (k1_7 : Cha) (k5_7 : Int) (k19_7 : Int) (k21_7 : Int) (k22_7 : Bool) (k26_7 : Int) (k28_7 : Pth) (k29_7 : Cha) (k30_7_0 : Cha) (t13_7 : Int) (c4_7 : List Pth) (m5_7 : List (Int × Bool)) : Option ((((List Pth × Unit) ⊕ (List Pth × List (Int × Bool))) ⊕ (List Pth × List (Int × Bool))) ⊕ (List Pth × List (Int × Bool))) :=
  (Option.bind (Go.Tw.gate_Chart_step_M p0_1_7 b3_0_7 (event4_7, t13_7, ())) fun (v8 : (Int × Bool × Bool × Unit) × Unit) => (bif v8.fst.snd.snd.fst then (some (Sum.inr ((c4_7), (m5_7)))) else (bif (Go.Vx.mapGet (Go.Vx.Ty.int Go.IntKind.i64) Go.Vx.Ty.bool m5_7 v8.fst.fst).getD Bool.false then (some (Sum.inr ((c4_7), (m5_7)))) else (bif Decidable.decide (b3_1_7.length ≤ Go.Vx.memMax) then (bif Decidable.decide (b3_1_7.length + (1 : Nat) ≤ Go.Vx.memMax) then (bif Decidable.decide (c4_7.length + (1 : Nat) ≤ Go.Vx.memMax) then (some (Sum.inr ((c4_7 ++ [(v8.fst.fst, b3_1_7 ++ [(event4_7, t13_7, ())], ())]), (Go.Vx.mapPut (Go.Vx.Ty.int Go.IntKind.i64) Go.Vx.Ty.bool m5_7 v8.fst.fst Bool.true)))) else none) else none) else none))))

noncomputable def gate_Chart_paths_f7 (event4_7 : List UInt8) (t7_7 : List (List UInt8)) (t8_7 : Int) (t9_7 : Int) (p0_1_7 : Cha) (p0_5_7 : Int) (p0_19_7 : Int) (p0_21_7 : Int) (p0_22_7 : Bool) (p0_26_7 : Int) (p0_28_7 : Pth) (p0_29_7 : Cha) (p0_30_7_0 : Cha) (b3_0_7 : Int) (b3_1_7 : List (List UInt8 × Int × Unit)) (k1_7 : Cha) (k5_7 : Int) (k19_7 : Int) (k21_7 : Int) (k22_7 : Bool) (k26_7 : Int) (k28_7 : Pth) (k29_7 : Cha) (k30_7_0 : Cha) (c4_7 : List Pth) (m5_7 : List (Int × Bool)) : Option (((List Pth × Unit) ⊕ (List Pth × List (Int × Bool))) ⊕ (List Pth × List (Int × Bool))) :=
  (some (Sum.inr ((c4_7), (m5_7))))

theorem gate_Chart_paths_m_w7_le (n : Nat) (hn : big ≤ n) (r1 : Cha → Int → List Pth → List (Int × Bool) → Option (List Pth × Unit)) (r5 : List (List UInt8) → Int → Int → Cha → Int → Int → Int → Bool → Int → Pth → Cha → Cha → Int → List (List UInt8 × Int × Unit) → List Pth → List (Int × Bool) → Cha → Int → Int → Int → Bool → Int → Pth → Cha → Cha → Option (List Pth × Unit)) (event4_7 : List UInt8) (t7_7 : List (List UInt8)) (t8_7 : Int) (t9_7 : Int) (p0_1_7 : Cha) (p0_5_7 : Int) (p0_19_7 : Int) (p0_21_7 : Int) (p0_22_7 : Bool) (p0_26_7 : Int) (p0_28_7 : Pth) (p0_29_7 : Cha) (p0_30_7_0 : Cha) (b3_0_7 : Int) (b3_1_7 : List (List UInt8 × Int × Unit)) (k1_7 : Cha) (k5_7 : Int) (k19_7 : Int) (k21_7 : Int) (k22_7 : Bool) (k26_7 : Int) (k28_7 : Pth) (k29_7 : Cha) (k30_7_0 : Cha) (c4_7 : List Pth) (m5_7 : List (Int × Bool)) (hx : ((16 : Int)) ≤ (9223372036854775807 : Int)) : LeF (elim (elim some fun (s__ : (List Pth × List (Int × Bool))) => r1 k1_7 (Go.IntKind.i64.wrap (k5_7 + 1)) s__.1 s__.2) fun (s__ : (List Pth × List (Int × Bool))) => r5 t7_7 t8_7 (Go.IntKind.i64.wrap (t9_7 + 1)) p0_1_7 p0_5_7 p0_19_7 p0_21_7 p0_22_7 p0_26_7 p0_28_7 p0_29_7 p0_30_7_0 b3_0_7 b3_1_7 s__.1 s__.2 k1_7 k5_7 k19_7 k21_7 k22_7 k26_7 k28_7 k29_7 k30_7_0) (loopN (fun i__ s__ => gate_Chart_paths_b7 event4_7 t7_7 t8_7 t9_7 p0_1_7 p0_5_7 p0_19_7 p0_21_7 p0_22_7 p0_26_7 p0_28_7 p0_29_7 p0_30_7_0 b3_0_7 b3_1_7 k1_7 k5_7 k19_7 k21_7 k22_7 k26_7 k28_7 k29_7 k30_7_0 i__ s__.1 s__.2) (fun s__ => gate_Chart_paths_f7 event4_7 t7_7 t8_7 t9_7 p0_1_7 p0_5_7 p0_19_7 p0_21_7 p0_22_7 p0_26_7 p0_28_7 p0_29_7 p0_30_7_0 b3_0_7 b3_1_7 k1_7 k5_7 k19_7 k21_7 k22_7 k26_7 k28_7 k29_7 k30_7_0 s__.1 s__.2) (((16 : Int)) - 0).toNat 0 (c4_7, m5_7)) (gate_Chart_paths_m_w7 n r5 n event4_7 t7_7 t8_7 t9_7 0 p0_1_7 p0_5_7 p0_19_7 p0_21_7 p0_22_7 p0_26_7 p0_28_7 p0_29_7 p0_30_7_0 b3_0_7 b3_1_7 c4_7 m5_7 k1_7 k5_7 k19_7 k21_7 k22_7 k26_7 k28_7 k29_7 k30_7_0) := by
  refine loopN_le (f := (elim (elim some fun (s__ : (List Pth × List (Int × Bool))) => r1 k1_7 (Go.IntKind.i64.wrap (k5_7 + 1)) s__.1 s__.2) fun (s__ : (List Pth × List (Int × Bool))) => r5 t7_7 t8_7 (Go.IntKind.i64.wrap (t9_7 + 1)) p0_1_7 p0_5_7 p0_19_7 p0_21_7 p0_22_7 p0_26_7 p0_28_7 p0_29_7 p0_30_7_0 b3_0_7 b3_1_7 s__.1 s__.2 k1_7 k5_7 k19_7 k21_7 k22_7 k26_7 k28_7 k29_7 k30_7_0)) (W := fun k__ i__ s__ => gate_Chart_paths_m_w7 n r5 k__ event4_7 t7_7 t8_7 t9_7 i__ p0_1_7 p0_5_7 p0_19_7 p0_21_7 p0_22_7 p0_26_7 p0_28_7 p0_29_7 p0_30_7_0 b3_0_7 b3_1_7 s__.1 s__.2 k1_7 k5_7 k19_7 k21_7 k22_7 k26_7 k28_7 k29_7 k30_7_0) (body := (fun i__ s__ => gate_Chart_paths_b7 event4_7 t7_7 t8_7 t9_7 p0_1_7 p0_5_7 p0_19_7 p0_21_7 p0_22_7 p0_26_7 p0_28_7 p0_29_7 p0_30_7_0 b3_0_7 b3_1_7 k1_7 k5_7 k19_7 k21_7 k22_7 k26_7 k28_7 k29_7 k30_7_0 i__ s__.1 s__.2)) (fin := (fun s__ => gate_Chart_paths_f7 event4_7 t7_7 t8_7 t9_7 p0_1_7 p0_5_7 p0_19_7 p0_21_7 p0_22_7 p0_26_7 p0_28_7 p0_29_7 p0_30_7_0 b3_0_7 b3_1_7 k1_7 k5_7 k19_7 k21_7 k22_7 k26_7 k28_7 k29_7 k30_7_0 s__.1 s__.2)) (fun k__ i__ s__ => ?_) hx (c4_7, m5_7) n 0 (by decide) (by unfold big at hn; omega)
  show LeF _ _ (gate_Chart_paths_m_l7 n r5 (gate_Chart_paths_m_w7 n r5 k__) event4_7 t7_7 t8_7 t9_7 i__ p0_1_7 p0_5_7 p0_19_7 p0_21_7 p0_22_7 p0_26_7 p0_28_7 p0_29_7 p0_30_7_0 b3_0_7 b3_1_7 s__.1 s__.2 k1_7 k5_7 k19_7 k21_7 k22_7 k26_7 k28_7 k29_7 k30_7_0)
  exact leCond (leBind fun v8 => (leCond (leSome rfl) (leCond (leSome rfl) (leCond (leCond (leCond (leSome rfl) leNone) leNone) leNone)))) (leMap (leSome rfl))

noncomputable def gate_Chart_paths_b5 (t7_5 : List (List UInt8)) (p0_1_5 : Cha) (p0_5_5 : Int) (p0_19_5 : Int) (p0_21_5 : Int) (p0_22_5 : Bool) (p0_26_5 : Int) (p0_28_5 : Pth) (p0_29_5 : Cha) (p0_30_5_0 : Cha) (b3_0_5 : Int) (b3_1_5 : List (List UInt8 × Int × Unit)) (k1_5 : Cha) (k5_5 : Int) (k19_5 : Int) (k21_5 : Int) (k22_5 : Bool) (k26_5 : Int) (k28_5 : Pth) (k29_5 : Cha) (k30_5_0 : Cha) (t9_5 : Int) (v6 : List UInt8) (c4_5 : List Pth) (m5_5 : List (Int × Bool)) : Option (((List Pth × Unit) ⊕ (List Pth × List (Int × Bool))) ⊕ (List Pth × List (Int × Bool))) :=
  (bif decide (((16 : Int)) ≤ (9223372036854775807 : Int)) then loopN (fun i__ s__ => gate_Chart_paths_b7 (v6) (t7_5) ((↑t7_5.length : Int)) (t9_5) (p0_1_5) (p0_5_5) (p0_19_5) (p0_21_5) (p0_22_5) (p0_26_5) (p0_28_5) (p0_29_5) (p0_30_5_0) (b3_0_5) (b3_1_5) (k1_5) (k5_5) (k19_5) (k21_5) (k22_5) (k26_5) (k28_5) (k29_5) (k30_5_0) i__ s__.1 s__.2) (fun s__ => gate_Chart_paths_f7 (v6) (t7_5) ((↑t7_5.length : Int)) (t9_5) (p0_1_5) (p0_5_5) (p0_19_5) (p0_21_5) (p0_22_5) (p0_26_5) (p0_28_5) (p0_29_5) (p0_30_5_0) (b3_0_5) (b3_1_5) (k1_5) (k5_5) (k19_5) (k21_5) (k22_5) (k26_5) (k28_5) (k29_5) (k30_5_0) s__.1 s__.2) (((16 : Int)) - 0).toNat 0 ((c4_5), (m5_5)) else none)

noncomputable def gate_Chart_paths_f5 (t7_5 : List (List UInt8)) (p0_1_5 : Cha) (p0_5_5 : Int) (p0_19_5 : Int) (p0_21_5 : Int) (p0_22_5 : Bool) (p0_26_5 : Int) (p0_28_5 : Pth) (p0_29_5 : Cha) (p0_30_5_0 : Cha) (b3_0_5 : Int) (b3_1_5 : List (List UInt8 × Int × Unit)) (k1_5 : Cha) (k5_5 : Int) (k19_5 : Int) (k21_5 : Int) (k22_5 : Bool) (k26_5 : Int) (k28_5 : Pth) (k29_5 : Cha) (k30_5_0 : Cha) (c4_5 : List Pth) (m5_5 : List (Int × Bool)) : Option ((List Pth × Unit) ⊕ (List Pth × List (Int × Bool))) :=
  (some (Sum.inr ((c4_5), (m5_5))))

theorem gate_Chart_paths_m_w5_le (n : Nat) (hn : big ≤ n)  (r1 : Cha → Int → List Pth → List (Int × Bool) → Option (List Pth × Unit)) (t7_5 : List (List UInt8)) (p0_1_5 : Cha) (p0_5_5 : Int) (p0_19_5 : Int) (p0_21_5 : Int) (p0_22_5 : Bool) (p0_26_5 : Int) (p0_28_5 : Pth) (p0_29_5 : Cha) (p0_30_5_0 : Cha) (b3_0_5 : Int) (b3_1_5 : List (List UInt8 × Int × Unit)) (k1_5 : Cha) (k5_5 : Int) (k19_5 : Int) (k21_5 : Int) (k22_5 : Bool) (k26_5 : Int) (k28_5 : Pth) (k29_5 : Cha) (k30_5_0 : Cha) (c4_5 : List Pth) (m5_5 : List (Int × Bool)) (hx : List.length (t7_5) < lenMax) : LeF (elim some fun (s__ : (List Pth × List (Int × Bool))) => r1 k1_5 (Go.IntKind.i64.wrap (k5_5 + 1)) s__.1 s__.2) (loopL (fun i__ e__ s__ => gate_Chart_paths_b5 t7_5 p0_1_5 p0_5_5 p0_19_5 p0_21_5 p0_22_5 p0_26_5 p0_28_5 p0_29_5 p0_30_5_0 b3_0_5 b3_1_5 k1_5 k5_5 k19_5 k21_5 k22_5 k26_5 k28_5 k29_5 k30_5_0 i__ e__ s__.1 s__.2) (fun s__ => gate_Chart_paths_f5 t7_5 p0_1_5 p0_5_5 p0_19_5 p0_21_5 p0_22_5 p0_26_5 p0_28_5 p0_29_5 p0_30_5_0 b3_0_5 b3_1_5 k1_5 k5_5 k19_5 k21_5 k22_5 k26_5 k28_5 k29_5 k30_5_0 s__.1 s__.2) 0 (t7_5) (c4_5, m5_5)) (gate_Chart_paths_m_w5 n r1 n t7_5 (List.length (t7_5) : Int) 0 p0_1_5 p0_5_5 p0_19_5 p0_21_5 p0_22_5 p0_26_5 p0_28_5 p0_29_5 p0_30_5_0 b3_0_5 b3_1_5 c4_5 m5_5 k1_5 k5_5 k19_5 k21_5 k22_5 k26_5 k28_5 k29_5 k30_5_0) := by
  refine loopL_le (f := (elim some fun (s__ : (List Pth × List (Int × Bool))) => r1 k1_5 (Go.IntKind.i64.wrap (k5_5 + 1)) s__.1 s__.2)) (W := fun k__ i__ s__ => gate_Chart_paths_m_w5 n r1 k__ t7_5 (List.length (t7_5) : Int) i__ p0_1_5 p0_5_5 p0_19_5 p0_21_5 p0_22_5 p0_26_5 p0_28_5 p0_29_5 p0_30_5_0 b3_0_5 b3_1_5 s__.1 s__.2 k1_5 k5_5 k19_5 k21_5 k22_5 k26_5 k28_5 k29_5 k30_5_0) (body := (fun i__ e__ s__ => gate_Chart_paths_b5 t7_5 p0_1_5 p0_5_5 p0_19_5 p0_21_5 p0_22_5 p0_26_5 p0_28_5 p0_29_5 p0_30_5_0 b3_0_5 b3_1_5 k1_5 k5_5 k19_5 k21_5 k22_5 k26_5 k28_5 k29_5 k30_5_0 i__ e__ s__.1 s__.2)) (fin := (fun s__ => gate_Chart_paths_f5 t7_5 p0_1_5 p0_5_5 p0_19_5 p0_21_5 p0_22_5 p0_26_5 p0_28_5 p0_29_5 p0_30_5_0 b3_0_5 b3_1_5 k1_5 k5_5 k19_5 k21_5 k22_5 k26_5 k28_5 k29_5 k30_5_0 s__.1 s__.2)) (fun k__ i__ s__ => ?_) hx (c4_5, m5_5) n (by unfold big at hn; unfold lenMax at hx; omega)
  show LeF _ _ (gate_Chart_paths_m_l5 n r1 (gate_Chart_paths_m_w5 n r1 k__) t7_5 (List.length (t7_5) : Int) i__ p0_1_5 p0_5_5 p0_19_5 p0_21_5 p0_22_5 p0_26_5 p0_28_5 p0_29_5 p0_30_5_0 b3_0_5 b3_1_5 s__.1 s__.2 k1_5 k5_5 k19_5 k21_5 k22_5 k26_5 k28_5 k29_5 k30_5_0)
  exact leCond (leBind fun v6 => (leGuard fun hx => by apply gate_Chart_paths_m_w7_le n hn; exact hx)) (leMap (leSome rfl))

noncomputable def gate_Chart_paths_b1 (c1_1 : Cha) (i5_1 : Int) (cs2_1 : List Pth) (m3_1 : List (Int × Bool)) : Option ((List Pth × Unit) ⊕ (List Pth × List (Int × Bool))) :=
  (Option.bind (Go.Vx.idx cs2_1 i5_1) fun (v2 : Pth) => (Option.bind (cs2_1[i5_1.toNat]?) fun (v3 : Pth) => (Option.bind (Go.Tw.gate_Chart_events_M c1_1) fun (v4 : List (List UInt8) × Unit) => (bif decide (List.length (v4.fst) < lenMax) then loopL (fun i__ e__ s__ => gate_Chart_paths_b5 (v4.fst) (c1_1) (i5_1) (i5_1) ((↑cs2_1.length : Int)) (Decidable.decide (i5_1 < (↑cs2_1.length : Int))) (i5_1) (v3) (c1_1) (c1_1) (v3.fst) (v3.snd.fst) (c1_1) (i5_1) (i5_1) ((↑cs2_1.length : Int)) (Decidable.decide (i5_1 < (↑cs2_1.length : Int))) (i5_1) (v3) (c1_1) (c1_1) i__ e__ s__.1 s__.2) (fun s__ => gate_Chart_paths_f5 (v4.fst) (c1_1) (i5_1) (i5_1) ((↑cs2_1.length : Int)) (Decidable.decide (i5_1 < (↑cs2_1.length : Int))) (i5_1) (v3) (c1_1) (c1_1) (v3.fst) (v3.snd.fst) (c1_1) (i5_1) (i5_1) ((↑cs2_1.length : Int)) (Decidable.decide (i5_1 < (↑cs2_1.length : Int))) (i5_1) (v3) (c1_1) (c1_1) s__.1 s__.2) 0 (v4.fst) ((cs2_1), (m3_1)) else none))))

noncomputable def gate_Chart_paths_f1 (c1_1 : Cha) (cs2_1 : List Pth) (m3_1 : List (Int × Bool)) : Option (List Pth × Unit) :=
  (some ((cs2_1, ())))

theorem gate_Chart_paths_m_w1_le (n : Nat) (hn : big ≤ n)  (c1_1 : Cha) (cs2_1 : List Pth) (m3_1 : List (Int × Bool)) (hx : ((↑cs2_1.length : Int)) ≤ (9223372036854775807 : Int)) : LeF some (loopG (fun s__ => (↑s__.fst.length : Int)) (fun i__ s__ => gate_Chart_paths_b1 c1_1 i__ s__.1 s__.2) (fun s__ => gate_Chart_paths_f1 c1_1 s__.1 s__.2) wMax 0 (cs2_1, m3_1)) (gate_Chart_paths_m_w1 n n c1_1 0 cs2_1 m3_1) := by
  refine loopG_le' (f := some) (N := (fun s__ => (↑s__.fst.length : Int))) (W := fun k__ i__ s__ => gate_Chart_paths_m_w1 n k__ c1_1 i__ s__.1 s__.2) (body := (fun i__ s__ => gate_Chart_paths_b1 c1_1 i__ s__.1 s__.2)) (fin := (fun s__ => gate_Chart_paths_f1 c1_1 s__.1 s__.2)) (fun k__ i__ s__ => ?_) (cs2_1, m3_1) n 0 (by decide) (by decide) hn
  show LeF _ _ (gate_Chart_paths_m_l1 n (gate_Chart_paths_m_w1 n k__) c1_1 i__ s__.1 s__.2)
  exact leCond (leBind fun v2 => (leBind fun v3 => (leBind fun v4 => (leGuard fun hx => by apply gate_Chart_paths_m_w5_le n hn; exact hx)))) (leMap (leSome rfl))

noncomputable def gate_Chart_paths_M (c : Cha) : Option (List Pth × Unit) :=
  (Option.bind (Go.Tw.gate_Chart_enter_M c (0 : Int)) fun (v0 : Int × Unit) => (bif decide (((fun s__ => (↑s__.fst.length : Int)) (([(v0.fst, [], ())] : List Pth), ([(v0.fst, Bool.true)] : List (Int × Bool)))) ≤ (9223372036854775807 : Int)) then loopG (fun s__ => (↑s__.fst.length : Int)) (fun i__ s__ => gate_Chart_paths_b1 (c) i__ s__.1 s__.2) (fun s__ => gate_Chart_paths_f1 (c) s__.1 s__.2) wMax 0 (([(v0.fst, [], ())] : List Pth), ([(v0.fst, Bool.true)] : List (Int × Bool))) else none))

theorem gate_Chart_paths_run (c : Cha) (y : List Pth × Unit) (h : gate_Chart_paths_M c = some y) : ∃ n, gate_Chart_paths_m n c = some y :=
  ⟨big, LeF.top (show LeF some (gate_Chart_paths_M c) (gate_Chart_paths_m big c) from (fun (n : Nat) (hn : big ≤ n) => show LeF some (gate_Chart_paths_M c) (gate_Chart_paths_m n c) from (leBind fun v0 => (leGuard fun hx => by apply gate_Chart_paths_m_w1_le n hn; exact hx))) big (Nat.le_refl _)) h⟩
noncomputable def gate_Chart_paths_e : Entry := { f := 124, args := gate_Chart_paths_a, ress := gate_Chart_paths_r, m := fun x => gate_Chart_paths_M x.1 }
theorem gate_Chart_paths_ok : FnOK Tryz.prog gate_Chart_paths_e := fn_ok (g := gate_Chart_paths_g) (fn := Tryz.f124) hmixed tabOk (eCons gate_Chart_enter_ok (eCons gate_Chart_step_ok (eCons slices_Clone_gate_Input_gate_Input_ok (eCons gate_Chart_events_ok eNil)))) (by kernel_rfl) (by kernel_rfl) (by kernel_rfl) (fun x y h => let ⟨n, hn⟩ := gate_Chart_paths_run x.1 y h; ⟨gate_Chart_paths_an n, (iCons il150_ok (iCons il161_ok iNil)), (gate_Chart_paths_eq n x).trans hn⟩)

/-! ### (gate.Chart).serves -/
abbrev gate_Chart_serves_a : Ty := .pair t35 (.pair t57 (.pair t134 (.pair t131 .unit)))
abbrev gate_Chart_serves_r : Ty := .pair t4 (.pair t29 .unit)
noncomputable def gate_Chart_serves_g : G := { T := T, E := [gate_Chart_play_e, gate_Chart_enter_e, gate_Chart_serves_1_e, slices_Contains_int_int_e, slices_ContainsFunc_int_int_e], muts := [33], fz := [] }
def gate_Chart_serves_k : List (List Nat) := []
noncomputable def gate_Chart_serves_an (n : Nat) : Ann := { keep := gate_Chart_serves_k, fuel := n, inl := [], deep := 0 }
noncomputable def gate_Chart_serves_m (n : Nat) (c : Cha) (l : List (List UInt8 × Int × Unit)) (g : Goa) (f : Fai) : Option (Bool × Int × Unit) :=
  (Option.bind (Go.Tw.gate_Chart_play_M c l f) fun (v0 : List Int × Int × Unit) => (bif v0.snd.fst != (0 : Int) then Option.some (Bool.false, v0.snd.fst, ()) else (bif Bool.true && Decidable.decide ((0 : Int) ≤ Go.IntKind.i64.wrap ((↑v0.fst.length : Int) + (1 : Int))) && Decidable.decide (Go.IntKind.i64.wrap ((↑v0.fst.length : Int) + (1 : Int)) ≤ (↑Go.Vx.memMax : Int)) && Go.IntKind.i64.wrap ((↑v0.fst.length : Int) + (1 : Int)) == Go.IntKind.i64.wrap ((↑v0.fst.length : Int) + (1 : Int)) then (Option.bind (Go.Tw.gate_Chart_enter_M c (0 : Int)) fun (v1 : Int × Unit) => (Option.bind (Go.Vx.idx (List.replicate ((Go.IntKind.i64.wrap ((↑v0.fst.length : Int) + (1 : Int))).toNat) ((0 : Int)) : List (Int)) (0 : Int)) fun (v2 : Int) => (Option.bind ((List.replicate ((Go.IntKind.i64.wrap ((↑v0.fst.length : Int) + (1 : Int))).toNat) ((0 : Int)) : List (Int))[Int.toNat (0 : Int)]?) fun (v3 : Int) => (bif Decidable.decide ((0 : Int) ≤ (1 : Int)) && Decidable.decide ((1 : Int) ≤ (↑((List.replicate ((Go.IntKind.i64.wrap ((↑v0.fst.length : Int) + (1 : Int))).toNat) ((0 : Int)) : List (Int)).set (Int.toNat (0 : Int)) v1.fst).length : Int)) then (Option.bind (Go.Vx.idx (List.take (Int.toNat (1 : Int)) ((List.replicate ((Go.IntKind.i64.wrap ((↑v0.fst.length : Int) + (1 : Int))).toNat) ((0 : Int)) : List (Int)).set (Int.toNat (0 : Int)) v1.fst) ++ List.take (((List.replicate ((Go.IntKind.i64.wrap ((↑v0.fst.length : Int) + (1 : Int))).toNat) ((0 : Int)) : List (Int)).set (Int.toNat (0 : Int)) v1.fst).length - Int.toNat (1 : Int)) v0.fst ++ List.drop (Int.toNat (1 : Int) + Min.min v0.fst.length (((List.replicate ((Go.IntKind.i64.wrap ((↑v0.fst.length : Int) + (1 : Int))).toNat) ((0 : Int)) : List (Int)).set (Int.toNat (0 : Int)) v1.fst).length - Int.toNat (1 : Int))) ((List.replicate ((Go.IntKind.i64.wrap ((↑v0.fst.length : Int) + (1 : Int))).toNat) ((0 : Int)) : List (Int)).set (Int.toNat (0 : Int)) v1.fst)) g.snd.snd.fst) fun (v4 : Int) => (Option.bind (Go.Tw.slices_Contains_int_int_M g.fst v4) fun (v5 : Bool × Unit) => (bif v5.fst then Option.some (Bool.true, (0 : Int), ()) else (bif Decidable.decide ((0 : Int) ≤ Go.IntKind.i64.wrap (g.snd.snd.snd.fst + (1 : Int))) && Decidable.decide (Go.IntKind.i64.wrap (g.snd.snd.snd.fst + (1 : Int)) ≤ (↑(List.take (Int.toNat (1 : Int)) ((List.replicate ((Go.IntKind.i64.wrap ((↑v0.fst.length : Int) + (1 : Int))).toNat) ((0 : Int)) : List (Int)).set (Int.toNat (0 : Int)) v1.fst) ++ List.take (((List.replicate ((Go.IntKind.i64.wrap ((↑v0.fst.length : Int) + (1 : Int))).toNat) ((0 : Int)) : List (Int)).set (Int.toNat (0 : Int)) v1.fst).length - Int.toNat (1 : Int)) v0.fst ++ List.drop (Int.toNat (1 : Int) + Min.min v0.fst.length (((List.replicate ((Go.IntKind.i64.wrap ((↑v0.fst.length : Int) + (1 : Int))).toNat) ((0 : Int)) : List (Int)).set (Int.toNat (0 : Int)) v1.fst).length - Int.toNat (1 : Int))) ((List.replicate ((Go.IntKind.i64.wrap ((↑v0.fst.length : Int) + (1 : Int))).toNat) ((0 : Int)) : List (Int)).set (Int.toNat (0 : Int)) v1.fst)).length : Int)) then (Option.bind (Go.Tw.slices_ContainsFunc_int_int_M (List.take (Go.IntKind.i64.wrap (g.snd.snd.snd.fst + (1 : Int))).toNat (List.take (Int.toNat (1 : Int)) ((List.replicate ((Go.IntKind.i64.wrap ((↑v0.fst.length : Int) + (1 : Int))).toNat) ((0 : Int)) : List (Int)).set (Int.toNat (0 : Int)) v1.fst) ++ List.take (((List.replicate ((Go.IntKind.i64.wrap ((↑v0.fst.length : Int) + (1 : Int))).toNat) ((0 : Int)) : List (Int)).set (Int.toNat (0 : Int)) v1.fst).length - Int.toNat (1 : Int)) v0.fst ++ List.drop (Int.toNat (1 : Int) + Min.min v0.fst.length (((List.replicate ((Go.IntKind.i64.wrap ((↑v0.fst.length : Int) + (1 : Int))).toNat) ((0 : Int)) : List (Int)).set (Int.toNat (0 : Int)) v1.fst).length - Int.toNat (1 : Int))) ((List.replicate ((Go.IntKind.i64.wrap ((↑v0.fst.length : Int) + (1 : Int))).toNat) ((0 : Int)) : List (Int)).set (Int.toNat (0 : Int)) v1.fst))) fun (x : Int × Unit) => Go.Tw.gate_Chart_serves_1_M x.fst g) fun (v6 : Bool × Unit) => Option.some (v6.fst, (0 : Int), ())) else none)))) else none)))) else none)))

theorem gate_Chart_serves_eq (n : Nat) (x : gate_Chart_serves_a.den) : runF gate_Chart_serves_g (gate_Chart_serves_an n) Tryz.f129 gate_Chart_serves_a gate_Chart_serves_r x = gate_Chart_serves_m n x.1 x.2.1 x.2.2.1 x.2.2.2.1 := by kernel_rfl

noncomputable def gate_Chart_serves_M (c : Cha) (l : List (List UInt8 × Int × Unit)) (g : Goa) (f : Fai) : Option (Bool × Int × Unit) := gate_Chart_serves_m 0 c l g f

theorem gate_Chart_serves_run (c : Cha) (l : List (List UInt8 × Int × Unit)) (g : Goa) (f : Fai) (y : Bool × Int × Unit) (h : gate_Chart_serves_M c l g f = some y) : ∃ n, gate_Chart_serves_m n c l g f = some y := ⟨0, h⟩
noncomputable def gate_Chart_serves_e : Entry := { f := 129, args := gate_Chart_serves_a, ress := gate_Chart_serves_r, m := fun x => gate_Chart_serves_M x.1 x.2.1 x.2.2.1 x.2.2.2.1 }
theorem gate_Chart_serves_ok : FnOK Tryz.prog gate_Chart_serves_e := fn_ok (g := gate_Chart_serves_g) (fn := Tryz.f129) hmixed tabOk (eCons gate_Chart_play_ok (eCons gate_Chart_enter_ok (eCons gate_Chart_serves_1_ok (eCons slices_Contains_int_int_ok (eCons slices_ContainsFunc_int_int_ok eNil))))) (by kernel_rfl) (by kernel_rfl) (by kernel_rfl) (fun x y h => let ⟨n, hn⟩ := gate_Chart_serves_run x.1 x.2.1 x.2.2.1 x.2.2.2.1 y h; ⟨gate_Chart_serves_an n, iNil, (gate_Chart_serves_eq n x).trans hn⟩)

end Go.Tw
end

section
set_option linter.all false
set_option maxRecDepth 1000000
namespace Go.Tw
open Go.Vx Go.Vx.B Go.Proofs
/-! ### gate.Leaves -/
abbrev gate_Leaves_a : Ty := .pair t35 .unit
abbrev gate_Leaves_r : Ty := .pair t28 (.pair t29 .unit)
noncomputable def gate_Leaves_g : G := { T := T, E := [gate_CheckChart_e, gate_Chart_leaves_e], muts := [], fz := [] }
def gate_Leaves_k : List (List Nat) := []
noncomputable def gate_Leaves_an (n : Nat) : Ann := { keep := gate_Leaves_k, fuel := n, inl := [], deep := 0 }
noncomputable def gate_Leaves_m (n : Nat) (c : Cha) : Option (List Int × Int × Unit) :=
  (Option.bind (Go.Tw.gate_CheckChart_M c) fun (v0 : Int × Unit) => (bif v0.fst != (0 : Int) then Option.some ([], v0.fst, ()) else (Option.bind (Go.Tw.gate_Chart_leaves_M c) fun (v1 : List Int × Unit) => Option.some (v1.fst, (0 : Int), ()))))

theorem gate_Leaves_eq (n : Nat) (x : gate_Leaves_a.den) : runF gate_Leaves_g (gate_Leaves_an n) Tryz.f16 gate_Leaves_a gate_Leaves_r x = gate_Leaves_m n x.1 := by kernel_rfl

noncomputable def gate_Leaves_M (c : Cha) : Option (List Int × Int × Unit) := gate_Leaves_m 0 c

theorem gate_Leaves_run (c : Cha) (y : List Int × Int × Unit) (h : gate_Leaves_M c = some y) : ∃ n, gate_Leaves_m n c = some y := ⟨0, h⟩
noncomputable def gate_Leaves_e : Entry := { f := 16, args := gate_Leaves_a, ress := gate_Leaves_r, m := fun x => gate_Leaves_M x.1 }
theorem gate_Leaves_ok : FnOK Tryz.prog gate_Leaves_e := fn_ok (g := gate_Leaves_g) (fn := Tryz.f16) hmixed tabOk (eCons gate_CheckChart_ok (eCons gate_Chart_leaves_ok eNil)) (by kernel_rfl) (by kernel_rfl) (by kernel_rfl) (fun x y h => let ⟨n, hn⟩ := gate_Leaves_run x.1 y h; ⟨gate_Leaves_an n, iNil, (gate_Leaves_eq n x).trans hn⟩)

/-! ### gate.Events -/
abbrev gate_Events_a : Ty := .pair t35 .unit
abbrev gate_Events_r : Ty := .pair t37 (.pair t29 .unit)
noncomputable def gate_Events_g : G := { T := T, E := [gate_CheckChart_e, gate_Chart_events_e], muts := [], fz := [] }
def gate_Events_k : List (List Nat) := []
noncomputable def gate_Events_an (n : Nat) : Ann := { keep := gate_Events_k, fuel := n, inl := [], deep := 0 }
noncomputable def gate_Events_m (n : Nat) (c : Cha) : Option (List (List UInt8) × Int × Unit) :=
  (Option.bind (Go.Tw.gate_CheckChart_M c) fun (v0 : Int × Unit) => (bif v0.fst != (0 : Int) then Option.some ([], v0.fst, ()) else (Option.bind (Go.Tw.gate_Chart_events_M c) fun (v1 : List (List UInt8) × Unit) => Option.some (v1.fst, (0 : Int), ()))))

theorem gate_Events_eq (n : Nat) (x : gate_Events_a.den) : runF gate_Events_g (gate_Events_an n) Tryz.f18 gate_Events_a gate_Events_r x = gate_Events_m n x.1 := by kernel_rfl

noncomputable def gate_Events_M (c : Cha) : Option (List (List UInt8) × Int × Unit) := gate_Events_m 0 c

theorem gate_Events_run (c : Cha) (y : List (List UInt8) × Int × Unit) (h : gate_Events_M c = some y) : ∃ n, gate_Events_m n c = some y := ⟨0, h⟩
noncomputable def gate_Events_e : Entry := { f := 18, args := gate_Events_a, ress := gate_Events_r, m := fun x => gate_Events_M x.1 }
theorem gate_Events_ok : FnOK Tryz.prog gate_Events_e := fn_ok (g := gate_Events_g) (fn := Tryz.f18) hmixed tabOk (eCons gate_CheckChart_ok (eCons gate_Chart_events_ok eNil)) (by kernel_rfl) (by kernel_rfl) (by kernel_rfl) (fun x y h => let ⟨n, hn⟩ := gate_Events_run x.1 y h; ⟨gate_Events_an n, iNil, (gate_Events_eq n x).trans hn⟩)

/-! ### gate.Start -/
abbrev gate_Start_a : Ty := .pair t35 .unit
abbrev gate_Start_r : Ty := .pair t3 (.pair t29 .unit)
noncomputable def gate_Start_g : G := { T := T, E := [gate_CheckChart_e, gate_Chart_enter_e], muts := [], fz := [] }
def gate_Start_k : List (List Nat) := []
noncomputable def gate_Start_an (n : Nat) : Ann := { keep := gate_Start_k, fuel := n, inl := [], deep := 0 }
noncomputable def gate_Start_m (n : Nat) (c : Cha) : Option (Int × Int × Unit) :=
  (Option.bind (Go.Tw.gate_CheckChart_M c) fun (v0 : Int × Unit) => (bif v0.fst != (0 : Int) then Option.some ((0 : Int), v0.fst, ()) else (Option.bind (Go.Tw.gate_Chart_enter_M c (0 : Int)) fun (v1 : Int × Unit) => Option.some (v1.fst, (0 : Int), ()))))

theorem gate_Start_eq (n : Nat) (x : gate_Start_a.den) : runF gate_Start_g (gate_Start_an n) Tryz.f19 gate_Start_a gate_Start_r x = gate_Start_m n x.1 := by kernel_rfl

noncomputable def gate_Start_M (c : Cha) : Option (Int × Int × Unit) := gate_Start_m 0 c

theorem gate_Start_run (c : Cha) (y : Int × Int × Unit) (h : gate_Start_M c = some y) : ∃ n, gate_Start_m n c = some y := ⟨0, h⟩
noncomputable def gate_Start_e : Entry := { f := 19, args := gate_Start_a, ress := gate_Start_r, m := fun x => gate_Start_M x.1 }
theorem gate_Start_ok : FnOK Tryz.prog gate_Start_e := fn_ok (g := gate_Start_g) (fn := Tryz.f19) hmixed tabOk (eCons gate_CheckChart_ok (eCons gate_Chart_enter_ok eNil)) (by kernel_rfl) (by kernel_rfl) (by kernel_rfl) (fun x y h => let ⟨n, hn⟩ := gate_Start_run x.1 y h; ⟨gate_Start_an n, iNil, (gate_Start_eq n x).trans hn⟩)

/-! ### gate.Step -/
abbrev gate_Step_a : Ty := .pair t35 (.pair t3 (.pair t55 .unit))
abbrev gate_Step_r : Ty := .pair t3 (.pair t29 .unit)
noncomputable def gate_Step_g : G := { T := T, E := [gate_CheckChart_e, gate_Chart_checkLeaf_e, gate_Input_check_e, gate_first_e, gate_Chart_step_e], muts := [], fz := [] }
def gate_Step_k : List (List Nat) := []
noncomputable def gate_Step_an (n : Nat) : Ann := { keep := gate_Step_k, fuel := n, inl := [], deep := 0 }
noncomputable def gate_Step_m (n : Nat) (c : Cha) (leaf : Int) (p2 : List UInt8 × Int × Unit) : Option (Int × Int × Unit) :=
  (Option.bind (Go.Tw.gate_CheckChart_M c) fun (v0 : Int × Unit) => (bif v0.fst != (0 : Int) then Option.some ((0 : Int), v0.fst, ()) else (Option.bind (Go.Tw.gate_Chart_checkLeaf_M c leaf) fun (v1 : Int × Unit) => (Option.bind (Go.Tw.gate_Input_check_M p2) fun (v2 : Int × Unit) => (Option.bind (Go.Tw.gate_first_M [v1.fst, v2.fst]) fun (v3 : Int × Unit) => (bif v3.fst != (0 : Int) then Option.some ((0 : Int), v3.fst, ()) else (Option.bind (Go.Tw.gate_Chart_step_M c leaf p2) fun (v4 : (Int × Bool × Bool × Unit) × Unit) => (bif v4.fst.snd.snd.fst then Option.some ((0 : Int), (30 : Int), ()) else Option.some (v4.fst.fst, (0 : Int), ())))))))))

theorem gate_Step_eq (n : Nat) (x : gate_Step_a.den) : runF gate_Step_g (gate_Step_an n) Tryz.f29 gate_Step_a gate_Step_r x = gate_Step_m n x.1 x.2.1 x.2.2.1 := by kernel_rfl

noncomputable def gate_Step_M (c : Cha) (leaf : Int) (p2 : List UInt8 × Int × Unit) : Option (Int × Int × Unit) := gate_Step_m 0 c leaf p2

theorem gate_Step_run (c : Cha) (leaf : Int) (p2 : List UInt8 × Int × Unit) (y : Int × Int × Unit) (h : gate_Step_M c leaf p2 = some y) : ∃ n, gate_Step_m n c leaf p2 = some y := ⟨0, h⟩
noncomputable def gate_Step_e : Entry := { f := 29, args := gate_Step_a, ress := gate_Step_r, m := fun x => gate_Step_M x.1 x.2.1 x.2.2.1 }
theorem gate_Step_ok : FnOK Tryz.prog gate_Step_e := fn_ok (g := gate_Step_g) (fn := Tryz.f29) hmixed tabOk (eCons gate_CheckChart_ok (eCons gate_Chart_checkLeaf_ok (eCons gate_Input_check_ok (eCons gate_first_ok (eCons gate_Chart_step_ok eNil))))) (by kernel_rfl) (by kernel_rfl) (by kernel_rfl) (fun x y h => let ⟨n, hn⟩ := gate_Step_run x.1 x.2.1 x.2.2.1 y h; ⟨gate_Step_an n, iNil, (gate_Step_eq n x).trans hn⟩)

/-! ### gate.Run -/
abbrev gate_Run_a : Ty := .pair t35 (.pair t57 .unit)
abbrev gate_Run_r : Ty := .pair t28 (.pair t29 .unit)
noncomputable def gate_Run_g : G := { T := T, E := [gate_CheckChart_e, gate_checkScript_e, gate_first_e, gate_Chart_play_e], muts := [], fz := [] }
def gate_Run_k : List (List Nat) := []
noncomputable def gate_Run_an (n : Nat) : Ann := { keep := gate_Run_k, fuel := n, inl := [], deep := 0 }
noncomputable def gate_Run_m (n : Nat) (c : Cha) (l : List (List UInt8 × Int × Unit)) : Option (List Int × Int × Unit) :=
  (Option.bind (Go.Tw.gate_CheckChart_M c) fun (v0 : Int × Unit) => (Option.bind (Go.Tw.gate_checkScript_M l) fun (v1 : Int × Unit) => (Option.bind (Go.Tw.gate_first_M [v0.fst, v1.fst]) fun (v2 : Int × Unit) => (bif v2.fst != (0 : Int) then Option.some ([], v2.fst, ()) else (Option.bind (Go.Tw.gate_Chart_play_M c l ([(110 : UInt8), (111 : UInt8), (110 : UInt8), (101 : UInt8)], (0 : Int), (0 : Int), (0 : Int), ())) fun (v3 : List Int × Int × Unit) => Option.some (v3.fst, v3.snd.fst, ()))))))

theorem gate_Run_eq (n : Nat) (x : gate_Run_a.den) : runF gate_Run_g (gate_Run_an n) Tryz.f30 gate_Run_a gate_Run_r x = gate_Run_m n x.1 x.2.1 := by kernel_rfl

noncomputable def gate_Run_M (c : Cha) (l : List (List UInt8 × Int × Unit)) : Option (List Int × Int × Unit) := gate_Run_m 0 c l

theorem gate_Run_run (c : Cha) (l : List (List UInt8 × Int × Unit)) (y : List Int × Int × Unit) (h : gate_Run_M c l = some y) : ∃ n, gate_Run_m n c l = some y := ⟨0, h⟩
noncomputable def gate_Run_e : Entry := { f := 30, args := gate_Run_a, ress := gate_Run_r, m := fun x => gate_Run_M x.1 x.2.1 }
theorem gate_Run_ok : FnOK Tryz.prog gate_Run_e := fn_ok (g := gate_Run_g) (fn := Tryz.f30) hmixed tabOk (eCons gate_CheckChart_ok (eCons gate_checkScript_ok (eCons gate_first_ok (eCons gate_Chart_play_ok eNil)))) (by kernel_rfl) (by kernel_rfl) (by kernel_rfl) (fun x y h => let ⟨n, hn⟩ := gate_Run_run x.1 x.2.1 y h; ⟨gate_Run_an n, iNil, (gate_Run_eq n x).trans hn⟩)

/-! ### gate.Trace -/
abbrev gate_Trace_a : Ty := .pair t35 (.pair t28 .unit)
abbrev gate_Trace_r : Ty := .pair t57 (.pair t29 .unit)
noncomputable def gate_Trace_g : G := { T := T, E := [gate_CheckChart_e, gate_Chart_checkList_e, gate_Chart_paths_e, slices_Contains_int_int_e], muts := [8], fz := [] }
def gate_Trace_k : List (List Nat) := [[1, 8, 23, 24, 25]]
noncomputable def gate_Trace_an (n : Nat) : Ann := { keep := gate_Trace_k, fuel := n, inl := [], deep := 0 }
noncomputable def gate_Trace_m_l3 (n : Nat) (r3 : List Int → List Pth → Int → Int → List Pth → Option (List (List UInt8 × Int × Unit) × Int × Unit)) (states1_3 : List Int) (t23_3 : List Pth) (t24_3 : Int) (t25_3 : Int) (cs0_3 : List Pth) : Option (List (List UInt8 × Int × Unit) × Int × Unit) :=
  (bif Decidable.decide (t25_3 < t24_3) then (Option.bind (Go.Vx.idx t23_3 t25_3) fun (v4 : Pth) => (Option.bind (Go.Tw.slices_Contains_int_int_M states1_3 v4.fst) fun (v5 : Bool × Unit) => (bif v5.fst then (bif Decidable.decide (cs0_3.length + (1 : Nat) ≤ Go.Vx.memMax) then (bif (↑(cs0_3 ++ [(v4.fst, v4.snd.fst, ())]).length : Int) == (0 : Int) then Option.some ([], (7 : Int), ()) else (Option.bind (Go.Vx.idx (cs0_3 ++ [(v4.fst, v4.snd.fst, ())]) (0 : Int)) fun (v6 : Pth) => (Option.bind ((cs0_3 ++ [(v4.fst, v4.snd.fst, ())])[Int.toNat (0 : Int)]?) fun (v7 : Pth) => Option.some (v7.snd.fst, (0 : Int), ())))) else none) else r3 states1_3 t23_3 t24_3 (Go.IntKind.i64.wrap (t25_3 + (1 : Int))) cs0_3))) else (bif (↑cs0_3.length : Int) == (0 : Int) then Option.some ([], (7 : Int), ()) else (Option.bind (Go.Vx.idx cs0_3 (0 : Int)) fun (v8 : Pth) => (Option.bind (cs0_3[Int.toNat (0 : Int)]?) fun (v9 : Pth) => Option.some (v9.snd.fst, (0 : Int), ())))))

noncomputable def gate_Trace_m_w3 (n : Nat)  (k : Nat) (states1_3 : List Int) (t23_3 : List Pth) (t24_3 : Int) (t25_3 : Int) (cs0_3 : List Pth) : Option (List (List UInt8 × Int × Unit) × Int × Unit) :=
  iter (fun r y => gate_Trace_m_l3 n (fun states1_3 t23_3 t24_3 t25_3 cs0_3 => r ((states1_3, (t23_3, (t24_3, (t25_3, ())))), ((cs0_3, ()), ()))) y.1.1 y.1.2.1 y.1.2.2.1 y.1.2.2.2.1 y.2.1.1) k ((states1_3, (t23_3, (t24_3, (t25_3, ())))), ((cs0_3, ()), ()))

noncomputable def gate_Trace_m (n : Nat) (c : Cha) (states : List Int) : Option (List (List UInt8 × Int × Unit) × Int × Unit) :=
  (Option.bind (Go.Tw.gate_CheckChart_M c) fun (v0 : Int × Unit) => (bif v0.fst != (0 : Int) then Option.some ([], v0.fst, ()) else (Option.bind (Go.Tw.gate_Chart_checkList_M c states) fun (v1 : Int × Unit) => (bif v1.fst != (0 : Int) then Option.some ([], v1.fst, ()) else (Option.bind (Go.Tw.gate_Chart_paths_M c) fun (v2 : List Go.Tw.Pth × Unit) => (gate_Trace_m_w3 n n (states) (v2.fst) ((↑v2.fst.length : Int)) ((0 : Int)) ([])))))))

theorem gate_Trace_eq (n : Nat) (x : gate_Trace_a.den) : runF gate_Trace_g (gate_Trace_an n) Tryz.f68 gate_Trace_a gate_Trace_r x = gate_Trace_m n x.1 x.2.1 := by kernel_rfl

noncomputable def gate_Trace_b3 (states1_3 : List Int) (t23_3 : List Pth) (cs0_3 : List Pth) (t25_3 : Int) (v4 : Pth) : Option ((List (List UInt8 × Int × Unit) × Int × Unit) ⊕ Unit) :=
  (Option.bind (Go.Tw.slices_Contains_int_int_M states1_3 v4.fst) fun (v5 : Bool × Unit) => (bif v5.fst then (bif Decidable.decide (cs0_3.length + (1 : Nat) ≤ Go.Vx.memMax) then (bif (↑(cs0_3 ++ [(v4.fst, v4.snd.fst, ())]).length : Int) == (0 : Int) then (some (Sum.inl (([], (7 : Int), ())))) else (Option.bind (Go.Vx.idx (cs0_3 ++ [(v4.fst, v4.snd.fst, ())]) (0 : Int)) fun (v6 : Pth) => (Option.bind ((cs0_3 ++ [(v4.fst, v4.snd.fst, ())])[Int.toNat (0 : Int)]?) fun (v7 : Pth) => (some (Sum.inl ((v7.snd.fst, (0 : Int), ()))))))) else none) else (some (Sum.inr ()))))

noncomputable def gate_Trace_f3 (states1_3 : List Int) (t23_3 : List Pth) (cs0_3 : List Pth) : Option (List (List UInt8 × Int × Unit) × Int × Unit) :=
  (bif (↑cs0_3.length : Int) == (0 : Int) then (some (([], (7 : Int), ()))) else (Option.bind (Go.Vx.idx cs0_3 (0 : Int)) fun (v8 : Pth) => (Option.bind (cs0_3[Int.toNat (0 : Int)]?) fun (v9 : Pth) => (some ((v9.snd.fst, (0 : Int), ()))))))

theorem gate_Trace_m_w3_le (n : Nat) (hn : big ≤ n)  (states1_3 : List Int) (t23_3 : List Pth) (cs0_3 : List Pth) (hx : List.length (t23_3) < lenMax) : LeF some (loopL (fun i__ e__ s__ => gate_Trace_b3 states1_3 t23_3 cs0_3 i__ e__) (fun s__ => gate_Trace_f3 states1_3 t23_3 cs0_3) 0 (t23_3) ()) (gate_Trace_m_w3 n n states1_3 t23_3 (List.length (t23_3) : Int) 0 cs0_3) := by
  refine loopL_le (f := some) (W := fun k__ i__ s__ => gate_Trace_m_w3 n k__ states1_3 t23_3 (List.length (t23_3) : Int) i__ cs0_3) (body := (fun i__ e__ s__ => gate_Trace_b3 states1_3 t23_3 cs0_3 i__ e__)) (fin := (fun s__ => gate_Trace_f3 states1_3 t23_3 cs0_3)) (fun k__ i__ s__ => ?_) hx () n (by unfold big at hn; unfold lenMax at hx; omega)
  show LeF _ _ (gate_Trace_m_l3 n (gate_Trace_m_w3 n k__) states1_3 t23_3 (List.length (t23_3) : Int) i__ cs0_3)
  exact leCond (leBind fun v4 => (leBind fun v5 => (leCond (leCond (leCond (leSome rfl) (leBind fun v6 => (leBind fun v7 => (leSome rfl)))) leNone) (leSome rfl)))) (leMap (leCond (leSome rfl) (leBind fun v8 => (leBind fun v9 => (leSome rfl)))))

noncomputable def gate_Trace_M (c : Cha) (states : List Int) : Option (List (List UInt8 × Int × Unit) × Int × Unit) :=
  (Option.bind (Go.Tw.gate_CheckChart_M c) fun (v0 : Int × Unit) => (bif v0.fst != (0 : Int) then (some (([], v0.fst, ()))) else (Option.bind (Go.Tw.gate_Chart_checkList_M c states) fun (v1 : Int × Unit) => (bif v1.fst != (0 : Int) then (some (([], v1.fst, ()))) else (Option.bind (Go.Tw.gate_Chart_paths_M c) fun (v2 : List Go.Tw.Pth × Unit) => (bif decide (List.length (v2.fst) < lenMax) then loopL (fun i__ e__ s__ => gate_Trace_b3 (states) (v2.fst) ([]) i__ e__) (fun s__ => gate_Trace_f3 (states) (v2.fst) ([])) 0 (v2.fst) () else none))))))

theorem gate_Trace_run (c : Cha) (states : List Int) (y : List (List UInt8 × Int × Unit) × Int × Unit) (h : gate_Trace_M c states = some y) : ∃ n, gate_Trace_m n c states = some y :=
  ⟨big, LeF.top (show LeF some (gate_Trace_M c states) (gate_Trace_m big c states) from (fun (n : Nat) (hn : big ≤ n) => show LeF some (gate_Trace_M c states) (gate_Trace_m n c states) from (leBind fun v0 => (leCond (leSome rfl) (leBind fun v1 => (leCond (leSome rfl) (leBind fun v2 => (leGuard fun hx => by apply gate_Trace_m_w3_le n hn; exact hx))))))) big (Nat.le_refl _)) h⟩
noncomputable def gate_Trace_e : Entry := { f := 68, args := gate_Trace_a, ress := gate_Trace_r, m := fun x => gate_Trace_M x.1 x.2.1 }
theorem gate_Trace_ok : FnOK Tryz.prog gate_Trace_e := fn_ok (g := gate_Trace_g) (fn := Tryz.f68) hmixed tabOk (eCons gate_CheckChart_ok (eCons gate_Chart_checkList_ok (eCons gate_Chart_paths_ok (eCons slices_Contains_int_int_ok eNil)))) (by kernel_rfl) (by kernel_rfl) (by kernel_rfl) (fun x y h => let ⟨n, hn⟩ := gate_Trace_run x.1 x.2.1 y h; ⟨gate_Trace_an n, iNil, (gate_Trace_eq n x).trans hn⟩)

/-! ### gate.CheckTrace -/
/-! ### gate.Play -/
/-! ### gate.Serves -/
/-! ### gate.Weak -/
abbrev gate_Weak_a : Ty := .pair t35 (.pair t57 (.pair t134 .unit))
abbrev gate_Weak_r : Ty := .pair t97 (.pair t29 .unit)
noncomputable def gate_Weak_g : G := { T := T, E := [gate_CheckChart_e, gate_checkScript_e, gate_Chart_checkGoal_e, gate_first_e, gate_failures_e, gate_Chart_serves_e], muts := [10], fz := [] }
def gate_Weak_k : List (List Nat) := [[1, 3, 5, 10, 34, 35, 36]]
noncomputable def gate_Weak_an (n : Nat) : Ann := { keep := gate_Weak_k, fuel := n, inl := [], deep := 0 }
noncomputable def gate_Weak_m_l5 (n : Nat) (r5 : List (List UInt8 × Int × Unit) → Cha → Goa → List Fai → Int → Int → List Fai → Option (List Fai × Int × Unit)) (l1_5 : List (List UInt8 × Int × Unit)) (c3_5 : Cha) (g5_5 : Goa) (t34_5 : List Fai) (t35_5 : Int) (t36_5 : Int) (cs0_5 : List Fai) : Option (List Fai × Int × Unit) :=
  (bif Decidable.decide (t36_5 < t35_5) then (Option.bind (Go.Vx.idx t34_5 t36_5) fun (v6 : Fai) => (Option.bind (Go.Tw.gate_Chart_serves_M c3_5 l1_5 g5_5 (v6.fst, v6.snd.fst, v6.snd.snd.fst, v6.snd.snd.snd.fst, ())) fun (v7 : Bool × Int × Unit) => (bif v7.snd.fst != (0 : Int) then Option.some ([], v7.snd.fst, ()) else (bif !v7.fst then (bif Decidable.decide (cs0_5.length + (1 : Nat) ≤ Go.Vx.memMax) then r5 l1_5 c3_5 g5_5 t34_5 t35_5 (Go.IntKind.i64.wrap (t36_5 + (1 : Int))) (cs0_5 ++ [(v6.fst, v6.snd.fst, v6.snd.snd.fst, v6.snd.snd.snd.fst, ())]) else none) else r5 l1_5 c3_5 g5_5 t34_5 t35_5 (Go.IntKind.i64.wrap (t36_5 + (1 : Int))) cs0_5)))) else Option.some (cs0_5, (0 : Int), ()))

noncomputable def gate_Weak_m_w5 (n : Nat)  (k : Nat) (l1_5 : List (List UInt8 × Int × Unit)) (c3_5 : Cha) (g5_5 : Goa) (t34_5 : List Fai) (t35_5 : Int) (t36_5 : Int) (cs0_5 : List Fai) : Option (List Fai × Int × Unit) :=
  iter (fun r y => gate_Weak_m_l5 n (fun l1_5 c3_5 g5_5 t34_5 t35_5 t36_5 cs0_5 => r ((l1_5, (c3_5, (g5_5, (t34_5, (t35_5, (t36_5, ())))))), ((cs0_5, ()), ()))) y.1.1 y.1.2.1 y.1.2.2.1 y.1.2.2.2.1 y.1.2.2.2.2.1 y.1.2.2.2.2.2.1 y.2.1.1) k ((l1_5, (c3_5, (g5_5, (t34_5, (t35_5, (t36_5, ())))))), ((cs0_5, ()), ()))

noncomputable def gate_Weak_m (n : Nat) (c : Cha) (l : List (List UInt8 × Int × Unit)) (g : Goa) : Option (List Fai × Int × Unit) :=
  (Option.bind (Go.Tw.gate_CheckChart_M c) fun (v0 : Int × Unit) => (bif v0.fst != (0 : Int) then Option.some ([], v0.fst, ()) else (Option.bind (Go.Tw.gate_checkScript_M l) fun (v1 : Int × Unit) => (Option.bind (Go.Tw.gate_Chart_checkGoal_M c g (↑l.length : Int)) fun (v2 : Int × Unit) => (Option.bind (Go.Tw.gate_first_M [v1.fst, v2.fst]) fun (v3 : Int × Unit) => (bif v3.fst != (0 : Int) then Option.some ([], v3.fst, ()) else (Option.bind (Go.Tw.gate_failures_M (↑l.length : Int)) fun (v4 : List Go.Tw.Fai × Unit) => (gate_Weak_m_w5 n n (l) (c) (g) (v4.fst) ((↑v4.fst.length : Int)) ((0 : Int)) ([])))))))))

theorem gate_Weak_eq (n : Nat) (x : gate_Weak_a.den) : runF gate_Weak_g (gate_Weak_an n) Tryz.f79 gate_Weak_a gate_Weak_r x = gate_Weak_m n x.1 x.2.1 x.2.2.1 := by kernel_rfl

noncomputable def gate_Weak_b5 (l1_5 : List (List UInt8 × Int × Unit)) (c3_5 : Cha) (g5_5 : Goa) (t34_5 : List Fai) (t36_5 : Int) (v6 : Fai) (cs0_5 : List Fai) : Option ((List Fai × Int × Unit) ⊕ (List Fai)) :=
  (Option.bind (Go.Tw.gate_Chart_serves_M c3_5 l1_5 g5_5 (v6.fst, v6.snd.fst, v6.snd.snd.fst, v6.snd.snd.snd.fst, ())) fun (v7 : Bool × Int × Unit) => (bif v7.snd.fst != (0 : Int) then (some (Sum.inl (([], v7.snd.fst, ())))) else (bif !v7.fst then (bif Decidable.decide (cs0_5.length + (1 : Nat) ≤ Go.Vx.memMax) then (some (Sum.inr (cs0_5 ++ [(v6.fst, v6.snd.fst, v6.snd.snd.fst, v6.snd.snd.snd.fst, ())]))) else none) else (some (Sum.inr (cs0_5))))))

noncomputable def gate_Weak_f5 (l1_5 : List (List UInt8 × Int × Unit)) (c3_5 : Cha) (g5_5 : Goa) (t34_5 : List Fai) (cs0_5 : List Fai) : Option (List Fai × Int × Unit) :=
  (some ((cs0_5, (0 : Int), ())))

theorem gate_Weak_m_w5_le (n : Nat) (hn : big ≤ n)  (l1_5 : List (List UInt8 × Int × Unit)) (c3_5 : Cha) (g5_5 : Goa) (t34_5 : List Fai) (cs0_5 : List Fai) (hx : List.length (t34_5) < lenMax) : LeF some (loopL (fun i__ e__ s__ => gate_Weak_b5 l1_5 c3_5 g5_5 t34_5 i__ e__ s__) (fun s__ => gate_Weak_f5 l1_5 c3_5 g5_5 t34_5 s__) 0 (t34_5) cs0_5) (gate_Weak_m_w5 n n l1_5 c3_5 g5_5 t34_5 (List.length (t34_5) : Int) 0 cs0_5) := by
  refine loopL_le (f := some) (W := fun k__ i__ s__ => gate_Weak_m_w5 n k__ l1_5 c3_5 g5_5 t34_5 (List.length (t34_5) : Int) i__ s__) (body := (fun i__ e__ s__ => gate_Weak_b5 l1_5 c3_5 g5_5 t34_5 i__ e__ s__)) (fin := (fun s__ => gate_Weak_f5 l1_5 c3_5 g5_5 t34_5 s__)) (fun k__ i__ s__ => ?_) hx cs0_5 n (by unfold big at hn; unfold lenMax at hx; omega)
  show LeF _ _ (gate_Weak_m_l5 n (gate_Weak_m_w5 n k__) l1_5 c3_5 g5_5 t34_5 (List.length (t34_5) : Int) i__ s__)
  exact leCond (leBind fun v6 => (leBind fun v7 => (leCond (leSome rfl) (leCond (leCond (leSome rfl) leNone) (leSome rfl))))) (leMap (leSome rfl))

noncomputable def gate_Weak_M (c : Cha) (l : List (List UInt8 × Int × Unit)) (g : Goa) : Option (List Fai × Int × Unit) :=
  (Option.bind (Go.Tw.gate_CheckChart_M c) fun (v0 : Int × Unit) => (bif v0.fst != (0 : Int) then (some (([], v0.fst, ()))) else (Option.bind (Go.Tw.gate_checkScript_M l) fun (v1 : Int × Unit) => (Option.bind (Go.Tw.gate_Chart_checkGoal_M c g (↑l.length : Int)) fun (v2 : Int × Unit) => (Option.bind (Go.Tw.gate_first_M [v1.fst, v2.fst]) fun (v3 : Int × Unit) => (bif v3.fst != (0 : Int) then (some (([], v3.fst, ()))) else (Option.bind (Go.Tw.gate_failures_M (↑l.length : Int)) fun (v4 : List Go.Tw.Fai × Unit) => (bif decide (List.length (v4.fst) < lenMax) then loopL (fun i__ e__ s__ => gate_Weak_b5 (l) (c) (g) (v4.fst) i__ e__ s__) (fun s__ => gate_Weak_f5 (l) (c) (g) (v4.fst) s__) 0 (v4.fst) ([]) else none))))))))

theorem gate_Weak_run (c : Cha) (l : List (List UInt8 × Int × Unit)) (g : Goa) (y : List Fai × Int × Unit) (h : gate_Weak_M c l g = some y) : ∃ n, gate_Weak_m n c l g = some y :=
  ⟨big, LeF.top (show LeF some (gate_Weak_M c l g) (gate_Weak_m big c l g) from (fun (n : Nat) (hn : big ≤ n) => show LeF some (gate_Weak_M c l g) (gate_Weak_m n c l g) from (leBind fun v0 => (leCond (leSome rfl) (leBind fun v1 => (leBind fun v2 => (leBind fun v3 => (leCond (leSome rfl) (leBind fun v4 => (leGuard fun hx => by apply gate_Weak_m_w5_le n hn; exact hx))))))))) big (Nat.le_refl _)) h⟩
noncomputable def gate_Weak_e : Entry := { f := 79, args := gate_Weak_a, ress := gate_Weak_r, m := fun x => gate_Weak_M x.1 x.2.1 x.2.2.1 }
theorem gate_Weak_ok : FnOK Tryz.prog gate_Weak_e := fn_ok (g := gate_Weak_g) (fn := Tryz.f79) hmixed tabOk (eCons gate_CheckChart_ok (eCons gate_checkScript_ok (eCons gate_Chart_checkGoal_ok (eCons gate_first_ok (eCons gate_failures_ok (eCons gate_Chart_serves_ok eNil)))))) (by kernel_rfl) (by kernel_rfl) (by kernel_rfl) (fun x y h => let ⟨n, hn⟩ := gate_Weak_run x.1 x.2.1 x.2.2.1 y h; ⟨gate_Weak_an n, iNil, (gate_Weak_eq n x).trans hn⟩)

end Go.Tw
end

section
set_option linter.all false
set_option maxRecDepth 1000000
namespace Go.Tw
open Go.Vx Go.Vx.B Go.Proofs
noncomputable def il144 : Inl := { f := 144, fn := Tryz.f144, keep := [], muts := [], fz := [] }
theorem il144_ok : InlOK Tryz.prog il144 := ⟨by kernel_rfl, by kernel_rfl, fun e0 h => by cases (show (none : Option LibK) = some e0 from h)⟩
noncomputable def il157 : Inl := { f := 157, fn := Tryz.f157, keep := [[2, 3, 7, 8, 9, 15]], muts := [3], fz := [] }
theorem il157_ok : InlOK Tryz.prog il157 := ⟨by kernel_rfl, by kernel_rfl, fun e0 h => by cases (show (none : Option LibK) = some e0 from h)⟩
/-! ### (gate.Chart).picked -/
abbrev gate_Chart_picked_a : Ty := .pair t35 (.pair t28 (.pair t183 .unit))
abbrev gate_Chart_picked_r : Ty := .pair t90 .unit
noncomputable def gate_Chart_picked_g : G := { T := T, E := [gate_Chart_step_e, gate_Chart_events_e], muts := [7], fz := [] }
def gate_Chart_picked_k : List (List Nat) := []
noncomputable def gate_Chart_picked_an (n : Nat) : Ann := { keep := gate_Chart_picked_k, fuel := n, inl := [il144, il157, il150, il161], deep := 8 }
noncomputable def gate_Chart_picked_m_l5 (n : Nat) (r3 : List (List UInt8) → Int → Int → Cha → List Int → Int → Int → Bool → Int → Int → Cha → Cha → Int → Cha → List Int → (Cas × (Int × Bool × Bool × Unit) × Unit → Option (Bool × Unit)) → Cha → (Cas × (Int × Bool × Bool × Unit) × Unit → Option (Bool × Unit)) → Cha → List Int → List Int → Cha → List Cas → Cha → List Int → Int → Int → Bool → Int → Int → Cha → Cha → Cha → List Int → (Cas × (Int × Bool × Bool × Unit) × Unit → Option (Bool × Unit)) → Cha → (Cas × (Int × Bool × Bool × Unit) × Unit → Option (Bool × Unit)) → Cha → List Int → List Int → Cha → Option (List Cas × Unit)) (r5 : List UInt8 → List (List UInt8) → Int → Int → Int → Cha → List Int → Int → Int → Bool → Int → Int → Cha → Cha → Int → Cha → List Int → (Cas × (Int × Bool × Bool × Unit) × Unit → Option (Bool × Unit)) → Cha → (Cas × (Int × Bool × Bool × Unit) × Unit → Option (Bool × Unit)) → Cha → List Int → List Int → Cha → List Cas → Cha → List Int → Int → Int → Bool → Int → Int → Cha → Cha → Cha → List Int → (Cas × (Int × Bool × Bool × Unit) × Unit → Option (Bool × Unit)) → Cha → (Cas × (Int × Bool × Bool × Unit) × Unit → Option (Bool × Unit)) → Cha → List Int → List Int → Cha → Option (List Cas × Unit)) (event4_5 : List UInt8) (t7_5 : List (List UInt8)) (t8_5 : Int) (t9_5 : Int) (t13_5 : Int) (p0_2_5 : Cha) (p0_7_5 : List Int) (p0_8_5 : Int) (p0_9_5 : Int) (p0_10_5 : Bool) (p0_11_5 : Int) (p0_12_5 : Int) (p0_13_5 : Cha) (p0_14_5_0 : Cha) (b2_0_5 : Int) (p4_0_5 : Cha) (p4_1_5 : List Int) (p4_2_5 : Cas × (Int × Bool × Bool × Unit) × Unit → Option (Bool × Unit)) (p4_3_5 : Cha) (p4_5_5 : Cas × (Int × Bool × Bool × Unit) × Unit → Option (Bool × Unit)) (p4_10_5 : Cha) (p4_11_5 : List Int) (p4_12_5_0 : List Int) (p4_12_5_1 : Cha) (c5_5 : List Cas) (k2_5 : Cha) (k7_5 : List Int) (k8_5 : Int) (k9_5 : Int) (k10_5 : Bool) (k11_5 : Int) (k12_5 : Int) (k13_5 : Cha) (k14_5_0 : Cha) (k31_5 : Cha) (k32_5 : List Int) (k33_5 : Cas × (Int × Bool × Bool × Unit) × Unit → Option (Bool × Unit)) (k34_5 : Cha) (k36_5 : Cas × (Int × Bool × Bool × Unit) × Unit → Option (Bool × Unit)) (k41_5 : Cha) (k42_5 : List Int) (k43_5_0 : List Int) (k43_5_1 : Cha) : Option (List Cas × Unit) :=
  (bif Decidable.decide (t13_5 < (16 : Int)) then (Option.bind (Go.Tw.gate_Chart_step_M p0_2_5 b2_0_5 (event4_5, t13_5, ())) fun (v6 : (Int × Bool × Bool × Unit) × Unit) => (Option.bind (p4_5_5 ((b2_0_5, event4_5, t13_5, ()), (v6.fst.fst, v6.fst.snd.fst, v6.fst.snd.snd.fst, ()), ())) fun (v7 : Bool × Unit) => (bif v7.fst then (bif Decidable.decide (c5_5.length + (1 : Nat) ≤ Go.Vx.memMax) then r5 event4_5 t7_5 t8_5 t9_5 (Go.IntKind.i64.wrap (t13_5 + (1 : Int))) p0_2_5 p0_7_5 p0_8_5 p0_9_5 p0_10_5 p0_11_5 p0_12_5 p0_13_5 p0_14_5_0 b2_0_5 p4_0_5 p4_1_5 p4_2_5 p4_3_5 p4_5_5 p4_10_5 p4_11_5 p4_12_5_0 p4_12_5_1 (c5_5 ++ [(b2_0_5, event4_5, t13_5, ())]) k2_5 k7_5 k8_5 k9_5 k10_5 k11_5 k12_5 k13_5 k14_5_0 k31_5 k32_5 k33_5 k34_5 k36_5 k41_5 k42_5 k43_5_0 k43_5_1 else none) else r5 event4_5 t7_5 t8_5 t9_5 (Go.IntKind.i64.wrap (t13_5 + (1 : Int))) p0_2_5 p0_7_5 p0_8_5 p0_9_5 p0_10_5 p0_11_5 p0_12_5 p0_13_5 p0_14_5_0 b2_0_5 p4_0_5 p4_1_5 p4_2_5 p4_3_5 p4_5_5 p4_10_5 p4_11_5 p4_12_5_0 p4_12_5_1 c5_5 k2_5 k7_5 k8_5 k9_5 k10_5 k11_5 k12_5 k13_5 k14_5_0 k31_5 k32_5 k33_5 k34_5 k36_5 k41_5 k42_5 k43_5_0 k43_5_1))) else r3 t7_5 t8_5 (Go.IntKind.i64.wrap (t9_5 + (1 : Int))) p0_2_5 p0_7_5 p0_8_5 p0_9_5 p0_10_5 p0_11_5 p0_12_5 p0_13_5 p0_14_5_0 b2_0_5 p4_0_5 p4_1_5 p4_2_5 p4_3_5 p4_5_5 p4_10_5 p4_11_5 p4_12_5_0 p4_12_5_1 c5_5 k2_5 k7_5 k8_5 k9_5 k10_5 k11_5 k12_5 k13_5 k14_5_0 k31_5 k32_5 k33_5 k34_5 k36_5 k41_5 k42_5 k43_5_0 k43_5_1)

noncomputable def gate_Chart_picked_m_w5 (n : Nat) (r3 : List (List UInt8) → Int → Int → Cha → List Int → Int → Int → Bool → Int → Int → Cha → Cha → Int → Cha → List Int → (Cas × (Int × Bool × Bool × Unit) × Unit → Option (Bool × Unit)) → Cha → (Cas × (Int × Bool × Bool × Unit) × Unit → Option (Bool × Unit)) → Cha → List Int → List Int → Cha → List Cas → Cha → List Int → Int → Int → Bool → Int → Int → Cha → Cha → Cha → List Int → (Cas × (Int × Bool × Bool × Unit) × Unit → Option (Bool × Unit)) → Cha → (Cas × (Int × Bool × Bool × Unit) × Unit → Option (Bool × Unit)) → Cha → List Int → List Int → Cha → Option (List Cas × Unit)) (k : Nat) (event4_5 : List UInt8) (t7_5 : List (List UInt8)) (t8_5 : Int) (t9_5 : Int) (t13_5 : Int) (p0_2_5 : Cha) (p0_7_5 : List Int) (p0_8_5 : Int) (p0_9_5 : Int) (p0_10_5 : Bool) (p0_11_5 : Int) (p0_12_5 : Int) (p0_13_5 : Cha) (p0_14_5_0 : Cha) (b2_0_5 : Int) (p4_0_5 : Cha) (p4_1_5 : List Int) (p4_2_5 : Cas × (Int × Bool × Bool × Unit) × Unit → Option (Bool × Unit)) (p4_3_5 : Cha) (p4_5_5 : Cas × (Int × Bool × Bool × Unit) × Unit → Option (Bool × Unit)) (p4_10_5 : Cha) (p4_11_5 : List Int) (p4_12_5_0 : List Int) (p4_12_5_1 : Cha) (c5_5 : List Cas) (k2_5 : Cha) (k7_5 : List Int) (k8_5 : Int) (k9_5 : Int) (k10_5 : Bool) (k11_5 : Int) (k12_5 : Int) (k13_5 : Cha) (k14_5_0 : Cha) (k31_5 : Cha) (k32_5 : List Int) (k33_5 : Cas × (Int × Bool × Bool × Unit) × Unit → Option (Bool × Unit)) (k34_5 : Cha) (k36_5 : Cas × (Int × Bool × Bool × Unit) × Unit → Option (Bool × Unit)) (k41_5 : Cha) (k42_5 : List Int) (k43_5_0 : List Int) (k43_5_1 : Cha) : Option (List Cas × Unit) :=
  iter (fun r y => gate_Chart_picked_m_l5 n r3 (fun event4_5 t7_5 t8_5 t9_5 t13_5 p0_2_5 p0_7_5 p0_8_5 p0_9_5 p0_10_5 p0_11_5 p0_12_5 p0_13_5 p0_14_5_0 b2_0_5 p4_0_5 p4_1_5 p4_2_5 p4_3_5 p4_5_5 p4_10_5 p4_11_5 p4_12_5_0 p4_12_5_1 c5_5 k2_5 k7_5 k8_5 k9_5 k10_5 k11_5 k12_5 k13_5 k14_5_0 k31_5 k32_5 k33_5 k34_5 k36_5 k41_5 k42_5 k43_5_0 k43_5_1 => r ((event4_5, (t7_5, (t8_5, (t9_5, (t13_5, ()))))), (((p0_2_5, (p0_7_5, (p0_8_5, (p0_9_5, (p0_10_5, (p0_11_5, (p0_12_5, (p0_13_5, ((p0_14_5_0, ()), ()))))))))), ((), ((b2_0_5, ()), ((), ((p4_0_5, (p4_1_5, (p4_2_5, (p4_3_5, (p4_5_5, (p4_10_5, (p4_11_5, ((p4_12_5_0, (p4_12_5_1, ())), ())))))))), (c5_5, ())))))), (k2_5, (k7_5, (k8_5, (k9_5, (k10_5, (k11_5, (k12_5, (k13_5, ((k14_5_0, ()), (k31_5, (k32_5, (k33_5, (k34_5, (k36_5, (k41_5, (k42_5, ((k43_5_0, (k43_5_1, ())), ())))))))))))))))))))) y.1.1 y.1.2.1 y.1.2.2.1 y.1.2.2.2.1 y.1.2.2.2.2.1 y.2.1.1.1 y.2.1.1.2.1 y.2.1.1.2.2.1 y.2.1.1.2.2.2.1 y.2.1.1.2.2.2.2.1 y.2.1.1.2.2.2.2.2.1 y.2.1.1.2.2.2.2.2.2.1 y.2.1.1.2.2.2.2.2.2.2.1 y.2.1.1.2.2.2.2.2.2.2.2.1.1 y.2.1.2.2.1.1 y.2.1.2.2.2.2.1.1 y.2.1.2.2.2.2.1.2.1 y.2.1.2.2.2.2.1.2.2.1 y.2.1.2.2.2.2.1.2.2.2.1 y.2.1.2.2.2.2.1.2.2.2.2.1 y.2.1.2.2.2.2.1.2.2.2.2.2.1 y.2.1.2.2.2.2.1.2.2.2.2.2.2.1 y.2.1.2.2.2.2.1.2.2.2.2.2.2.2.1.1 y.2.1.2.2.2.2.1.2.2.2.2.2.2.2.1.2.1 y.2.1.2.2.2.2.2.1 y.2.2.1 y.2.2.2.1 y.2.2.2.2.1 y.2.2.2.2.2.1 y.2.2.2.2.2.2.1 y.2.2.2.2.2.2.2.1 y.2.2.2.2.2.2.2.2.1 y.2.2.2.2.2.2.2.2.2.1 y.2.2.2.2.2.2.2.2.2.2.1.1 y.2.2.2.2.2.2.2.2.2.2.2.1 y.2.2.2.2.2.2.2.2.2.2.2.2.1 y.2.2.2.2.2.2.2.2.2.2.2.2.2.1 y.2.2.2.2.2.2.2.2.2.2.2.2.2.2.1 y.2.2.2.2.2.2.2.2.2.2.2.2.2.2.2.1 y.2.2.2.2.2.2.2.2.2.2.2.2.2.2.2.2.1 y.2.2.2.2.2.2.2.2.2.2.2.2.2.2.2.2.2.1 y.2.2.2.2.2.2.2.2.2.2.2.2.2.2.2.2.2.2.1.1 y.2.2.2.2.2.2.2.2.2.2.2.2.2.2.2.2.2.2.1.2.1) k ((event4_5, (t7_5, (t8_5, (t9_5, (t13_5, ()))))), (((p0_2_5, (p0_7_5, (p0_8_5, (p0_9_5, (p0_10_5, (p0_11_5, (p0_12_5, (p0_13_5, ((p0_14_5_0, ()), ()))))))))), ((), ((b2_0_5, ()), ((), ((p4_0_5, (p4_1_5, (p4_2_5, (p4_3_5, (p4_5_5, (p4_10_5, (p4_11_5, ((p4_12_5_0, (p4_12_5_1, ())), ())))))))), (c5_5, ())))))), (k2_5, (k7_5, (k8_5, (k9_5, (k10_5, (k11_5, (k12_5, (k13_5, ((k14_5_0, ()), (k31_5, (k32_5, (k33_5, (k34_5, (k36_5, (k41_5, (k42_5, ((k43_5_0, (k43_5_1, ())), ())))))))))))))))))))

noncomputable def gate_Chart_picked_m_l3 (n : Nat) (r0 : Cha → List Int → Int → Int → Cha → List Int → (Cas × (Int × Bool × Bool × Unit) × Unit → Option (Bool × Unit)) → Cha → (Cas × (Int × Bool × Bool × Unit) × Unit → Option (Bool × Unit)) → Cha → List Int → List Int → Cha → List Cas → Cha → List Int → (Cas × (Int × Bool × Bool × Unit) × Unit → Option (Bool × Unit)) → Cha → (Cas × (Int × Bool × Bool × Unit) × Unit → Option (Bool × Unit)) → Cha → List Int → List Int → Cha → Option (List Cas × Unit)) (r3 : List (List UInt8) → Int → Int → Cha → List Int → Int → Int → Bool → Int → Int → Cha → Cha → Int → Cha → List Int → (Cas × (Int × Bool × Bool × Unit) × Unit → Option (Bool × Unit)) → Cha → (Cas × (Int × Bool × Bool × Unit) × Unit → Option (Bool × Unit)) → Cha → List Int → List Int → Cha → List Cas → Cha → List Int → Int → Int → Bool → Int → Int → Cha → Cha → Cha → List Int → (Cas × (Int × Bool × Bool × Unit) × Unit → Option (Bool × Unit)) → Cha → (Cas × (Int × Bool × Bool × Unit) × Unit → Option (Bool × Unit)) → Cha → List Int → List Int → Cha → Option (List Cas × Unit)) (t7_3 : List (List UInt8)) (t8_3 : Int) (t9_3 : Int) (p0_2_3 : Cha) (p0_7_3 : List Int) (p0_8_3 : Int) (p0_9_3 : Int) (p0_10_3 : Bool) (p0_11_3 : Int) (p0_12_3 : Int) (p0_13_3 : Cha) (p0_14_3_0 : Cha) (b2_0_3 : Int) (p4_0_3 : Cha) (p4_1_3 : List Int) (p4_2_3 : Cas × (Int × Bool × Bool × Unit) × Unit → Option (Bool × Unit)) (p4_3_3 : Cha) (p4_5_3 : Cas × (Int × Bool × Bool × Unit) × Unit → Option (Bool × Unit)) (p4_10_3 : Cha) (p4_11_3 : List Int) (p4_12_3_0 : List Int) (p4_12_3_1 : Cha) (c5_3 : List Cas) (k2_3 : Cha) (k7_3 : List Int) (k8_3 : Int) (k9_3 : Int) (k10_3 : Bool) (k11_3 : Int) (k12_3 : Int) (k13_3 : Cha) (k14_3_0 : Cha) (k31_3 : Cha) (k32_3 : List Int) (k33_3 : Cas × (Int × Bool × Bool × Unit) × Unit → Option (Bool × Unit)) (k34_3 : Cha) (k36_3 : Cas × (Int × Bool × Bool × Unit) × Unit → Option (Bool × Unit)) (k41_3 : Cha) (k42_3 : List Int) (k43_3_0 : List Int) (k43_3_1 : Cha) : Option (List Cas × Unit) :=
  (bif Decidable.decide (t9_3 < t8_3) then (Option.bind (Go.Vx.idx t7_3 t9_3) fun (v4 : List UInt8) => (gate_Chart_picked_m_w5 n r3 n (v4) (t7_3) (t8_3) (t9_3) ((0 : Int)) (p0_2_3) (p0_7_3) (p0_8_3) (p0_9_3) (p0_10_3) (p0_11_3) (p0_12_3) (p0_13_3) (p0_14_3_0) (b2_0_3) (p4_0_3) (p4_1_3) (p4_2_3) (p4_3_3) (p4_5_3) (p4_10_3) (p4_11_3) (p4_12_3_0) (p4_12_3_1) (c5_3) (k2_3) (k7_3) (k8_3) (k9_3) (k10_3) (k11_3) (k12_3) (k13_3) (k14_3_0) (k31_3) (k32_3) (k33_3) (k34_3) (k36_3) (k41_3) (k42_3) (k43_3_0) (k43_3_1))) else r0 k2_3 k7_3 k8_3 (Go.IntKind.i64.wrap (k9_3 + (1 : Int))) p4_0_3 p4_1_3 p4_2_3 p4_3_3 p4_5_3 p4_10_3 p4_11_3 p4_12_3_0 p4_12_3_1 c5_3 k31_3 k32_3 k33_3 k34_3 k36_3 k41_3 k42_3 k43_3_0 k43_3_1)

noncomputable def gate_Chart_picked_m_w3 (n : Nat) (r0 : Cha → List Int → Int → Int → Cha → List Int → (Cas × (Int × Bool × Bool × Unit) × Unit → Option (Bool × Unit)) → Cha → (Cas × (Int × Bool × Bool × Unit) × Unit → Option (Bool × Unit)) → Cha → List Int → List Int → Cha → List Cas → Cha → List Int → (Cas × (Int × Bool × Bool × Unit) × Unit → Option (Bool × Unit)) → Cha → (Cas × (Int × Bool × Bool × Unit) × Unit → Option (Bool × Unit)) → Cha → List Int → List Int → Cha → Option (List Cas × Unit)) (k : Nat) (t7_3 : List (List UInt8)) (t8_3 : Int) (t9_3 : Int) (p0_2_3 : Cha) (p0_7_3 : List Int) (p0_8_3 : Int) (p0_9_3 : Int) (p0_10_3 : Bool) (p0_11_3 : Int) (p0_12_3 : Int) (p0_13_3 : Cha) (p0_14_3_0 : Cha) (b2_0_3 : Int) (p4_0_3 : Cha) (p4_1_3 : List Int) (p4_2_3 : Cas × (Int × Bool × Bool × Unit) × Unit → Option (Bool × Unit)) (p4_3_3 : Cha) (p4_5_3 : Cas × (Int × Bool × Bool × Unit) × Unit → Option (Bool × Unit)) (p4_10_3 : Cha) (p4_11_3 : List Int) (p4_12_3_0 : List Int) (p4_12_3_1 : Cha) (c5_3 : List Cas) (k2_3 : Cha) (k7_3 : List Int) (k8_3 : Int) (k9_3 : Int) (k10_3 : Bool) (k11_3 : Int) (k12_3 : Int) (k13_3 : Cha) (k14_3_0 : Cha) (k31_3 : Cha) (k32_3 : List Int) (k33_3 : Cas × (Int × Bool × Bool × Unit) × Unit → Option (Bool × Unit)) (k34_3 : Cha) (k36_3 : Cas × (Int × Bool × Bool × Unit) × Unit → Option (Bool × Unit)) (k41_3 : Cha) (k42_3 : List Int) (k43_3_0 : List Int) (k43_3_1 : Cha) : Option (List Cas × Unit) :=
  iter (fun r y => gate_Chart_picked_m_l3 n r0 (fun t7_3 t8_3 t9_3 p0_2_3 p0_7_3 p0_8_3 p0_9_3 p0_10_3 p0_11_3 p0_12_3 p0_13_3 p0_14_3_0 b2_0_3 p4_0_3 p4_1_3 p4_2_3 p4_3_3 p4_5_3 p4_10_3 p4_11_3 p4_12_3_0 p4_12_3_1 c5_3 k2_3 k7_3 k8_3 k9_3 k10_3 k11_3 k12_3 k13_3 k14_3_0 k31_3 k32_3 k33_3 k34_3 k36_3 k41_3 k42_3 k43_3_0 k43_3_1 => r ((t7_3, (t8_3, (t9_3, ()))), (((p0_2_3, (p0_7_3, (p0_8_3, (p0_9_3, (p0_10_3, (p0_11_3, (p0_12_3, (p0_13_3, ((p0_14_3_0, ()), ()))))))))), ((), ((b2_0_3, ()), ((), ((p4_0_3, (p4_1_3, (p4_2_3, (p4_3_3, (p4_5_3, (p4_10_3, (p4_11_3, ((p4_12_3_0, (p4_12_3_1, ())), ())))))))), (c5_3, ())))))), (k2_3, (k7_3, (k8_3, (k9_3, (k10_3, (k11_3, (k12_3, (k13_3, ((k14_3_0, ()), (k31_3, (k32_3, (k33_3, (k34_3, (k36_3, (k41_3, (k42_3, ((k43_3_0, (k43_3_1, ())), ())))))))))))))))))))) y.1.1 y.1.2.1 y.1.2.2.1 y.2.1.1.1 y.2.1.1.2.1 y.2.1.1.2.2.1 y.2.1.1.2.2.2.1 y.2.1.1.2.2.2.2.1 y.2.1.1.2.2.2.2.2.1 y.2.1.1.2.2.2.2.2.2.1 y.2.1.1.2.2.2.2.2.2.2.1 y.2.1.1.2.2.2.2.2.2.2.2.1.1 y.2.1.2.2.1.1 y.2.1.2.2.2.2.1.1 y.2.1.2.2.2.2.1.2.1 y.2.1.2.2.2.2.1.2.2.1 y.2.1.2.2.2.2.1.2.2.2.1 y.2.1.2.2.2.2.1.2.2.2.2.1 y.2.1.2.2.2.2.1.2.2.2.2.2.1 y.2.1.2.2.2.2.1.2.2.2.2.2.2.1 y.2.1.2.2.2.2.1.2.2.2.2.2.2.2.1.1 y.2.1.2.2.2.2.1.2.2.2.2.2.2.2.1.2.1 y.2.1.2.2.2.2.2.1 y.2.2.1 y.2.2.2.1 y.2.2.2.2.1 y.2.2.2.2.2.1 y.2.2.2.2.2.2.1 y.2.2.2.2.2.2.2.1 y.2.2.2.2.2.2.2.2.1 y.2.2.2.2.2.2.2.2.2.1 y.2.2.2.2.2.2.2.2.2.2.1.1 y.2.2.2.2.2.2.2.2.2.2.2.1 y.2.2.2.2.2.2.2.2.2.2.2.2.1 y.2.2.2.2.2.2.2.2.2.2.2.2.2.1 y.2.2.2.2.2.2.2.2.2.2.2.2.2.2.1 y.2.2.2.2.2.2.2.2.2.2.2.2.2.2.2.1 y.2.2.2.2.2.2.2.2.2.2.2.2.2.2.2.2.1 y.2.2.2.2.2.2.2.2.2.2.2.2.2.2.2.2.2.1 y.2.2.2.2.2.2.2.2.2.2.2.2.2.2.2.2.2.2.1.1 y.2.2.2.2.2.2.2.2.2.2.2.2.2.2.2.2.2.2.1.2.1) k ((t7_3, (t8_3, (t9_3, ()))), (((p0_2_3, (p0_7_3, (p0_8_3, (p0_9_3, (p0_10_3, (p0_11_3, (p0_12_3, (p0_13_3, ((p0_14_3_0, ()), ()))))))))), ((), ((b2_0_3, ()), ((), ((p4_0_3, (p4_1_3, (p4_2_3, (p4_3_3, (p4_5_3, (p4_10_3, (p4_11_3, ((p4_12_3_0, (p4_12_3_1, ())), ())))))))), (c5_3, ())))))), (k2_3, (k7_3, (k8_3, (k9_3, (k10_3, (k11_3, (k12_3, (k13_3, ((k14_3_0, ()), (k31_3, (k32_3, (k33_3, (k34_3, (k36_3, (k41_3, (k42_3, ((k43_3_0, (k43_3_1, ())), ())))))))))))))))))))

noncomputable def gate_Chart_picked_m_l0 (n : Nat) (r0 : Cha → List Int → Int → Int → Cha → List Int → (Cas × (Int × Bool × Bool × Unit) × Unit → Option (Bool × Unit)) → Cha → (Cas × (Int × Bool × Bool × Unit) × Unit → Option (Bool × Unit)) → Cha → List Int → List Int → Cha → List Cas → Cha → List Int → (Cas × (Int × Bool × Bool × Unit) × Unit → Option (Bool × Unit)) → Cha → (Cas × (Int × Bool × Bool × Unit) × Unit → Option (Bool × Unit)) → Cha → List Int → List Int → Cha → Option (List Cas × Unit)) (t2_0 : Cha) (t7_0 : List Int) (t8_0 : Int) (t9_0 : Int) (p2_0_0 : Cha) (p2_1_0 : List Int) (p2_2_0 : Cas × (Int × Bool × Bool × Unit) × Unit → Option (Bool × Unit)) (p2_3_0 : Cha) (p2_5_0 : Cas × (Int × Bool × Bool × Unit) × Unit → Option (Bool × Unit)) (p2_10_0 : Cha) (p2_11_0 : List Int) (p2_12_0_0 : List Int) (p2_12_0_1 : Cha) (c3_0 : List Cas) (k0_0 : Cha) (k1_0 : List Int) (k2_0 : Cas × (Int × Bool × Bool × Unit) × Unit → Option (Bool × Unit)) (k3_0 : Cha) (k5_0 : Cas × (Int × Bool × Bool × Unit) × Unit → Option (Bool × Unit)) (k10_0 : Cha) (k11_0 : List Int) (k12_0_0 : List Int) (k12_0_1 : Cha) : Option (List Cas × Unit) :=
  (bif Decidable.decide (t9_0 < t8_0) then (Option.bind (Go.Vx.idx t7_0 t9_0) fun (v1 : Int) => (Option.bind (Go.Tw.gate_Chart_events_M t2_0) fun (v2 : List (List UInt8) × Unit) => (gate_Chart_picked_m_w3 n r0 n (v2.fst) ((↑v2.fst.length : Int)) ((0 : Int)) (t2_0) (t7_0) (t8_0) (t9_0) (Decidable.decide (t9_0 < t8_0)) (v1) (v1) (t2_0) (t2_0) (v1) (p2_0_0) (p2_1_0) (p2_2_0) (p2_3_0) (p2_5_0) (p2_10_0) (p2_11_0) (p2_12_0_0) (p2_12_0_1) (c3_0) (t2_0) (t7_0) (t8_0) (t9_0) (Decidable.decide (t9_0 < t8_0)) (v1) (v1) (t2_0) (t2_0) (k0_0) (k1_0) (k2_0) (k3_0) (k5_0) (k10_0) (k11_0) (k12_0_0) (k12_0_1)))) else Option.some (c3_0, ()))

noncomputable def gate_Chart_picked_m_w0 (n : Nat)  (k : Nat) (t2_0 : Cha) (t7_0 : List Int) (t8_0 : Int) (t9_0 : Int) (p2_0_0 : Cha) (p2_1_0 : List Int) (p2_2_0 : Cas × (Int × Bool × Bool × Unit) × Unit → Option (Bool × Unit)) (p2_3_0 : Cha) (p2_5_0 : Cas × (Int × Bool × Bool × Unit) × Unit → Option (Bool × Unit)) (p2_10_0 : Cha) (p2_11_0 : List Int) (p2_12_0_0 : List Int) (p2_12_0_1 : Cha) (c3_0 : List Cas) (k0_0 : Cha) (k1_0 : List Int) (k2_0 : Cas × (Int × Bool × Bool × Unit) × Unit → Option (Bool × Unit)) (k3_0 : Cha) (k5_0 : Cas × (Int × Bool × Bool × Unit) × Unit → Option (Bool × Unit)) (k10_0 : Cha) (k11_0 : List Int) (k12_0_0 : List Int) (k12_0_1 : Cha) : Option (List Cas × Unit) :=
  iter (fun r y => gate_Chart_picked_m_l0 n (fun t2_0 t7_0 t8_0 t9_0 p2_0_0 p2_1_0 p2_2_0 p2_3_0 p2_5_0 p2_10_0 p2_11_0 p2_12_0_0 p2_12_0_1 c3_0 k0_0 k1_0 k2_0 k3_0 k5_0 k10_0 k11_0 k12_0_0 k12_0_1 => r ((t2_0, (t7_0, (t8_0, (t9_0, ())))), (((), ((), ((p2_0_0, (p2_1_0, (p2_2_0, (p2_3_0, (p2_5_0, (p2_10_0, (p2_11_0, ((p2_12_0_0, (p2_12_0_1, ())), ())))))))), (c3_0, ())))), (k0_0, (k1_0, (k2_0, (k3_0, (k5_0, (k10_0, (k11_0, ((k12_0_0, (k12_0_1, ())), ()))))))))))) y.1.1 y.1.2.1 y.1.2.2.1 y.1.2.2.2.1 y.2.1.2.2.1.1 y.2.1.2.2.1.2.1 y.2.1.2.2.1.2.2.1 y.2.1.2.2.1.2.2.2.1 y.2.1.2.2.1.2.2.2.2.1 y.2.1.2.2.1.2.2.2.2.2.1 y.2.1.2.2.1.2.2.2.2.2.2.1 y.2.1.2.2.1.2.2.2.2.2.2.2.1.1 y.2.1.2.2.1.2.2.2.2.2.2.2.1.2.1 y.2.1.2.2.2.1 y.2.2.1 y.2.2.2.1 y.2.2.2.2.1 y.2.2.2.2.2.1 y.2.2.2.2.2.2.1 y.2.2.2.2.2.2.2.1 y.2.2.2.2.2.2.2.2.1 y.2.2.2.2.2.2.2.2.2.1.1 y.2.2.2.2.2.2.2.2.2.1.2.1) k ((t2_0, (t7_0, (t8_0, (t9_0, ())))), (((), ((), ((p2_0_0, (p2_1_0, (p2_2_0, (p2_3_0, (p2_5_0, (p2_10_0, (p2_11_0, ((p2_12_0_0, (p2_12_0_1, ())), ())))))))), (c3_0, ())))), (k0_0, (k1_0, (k2_0, (k3_0, (k5_0, (k10_0, (k11_0, ((k12_0_0, (k12_0_1, ())), ()))))))))))

noncomputable def gate_Chart_picked_m (n : Nat) (c : Cha) (leaves : List Int) (holds : Cas × (Int × Bool × Bool × Unit) × Unit → Option (Bool × Unit)) : Option (List Cas × Unit) :=
  (gate_Chart_picked_m_w0 n n (c) (leaves) ((↑leaves.length : Int)) ((0 : Int)) (c) (leaves) (holds) (c) (holds) (c) (leaves) (leaves) (c) ([]) (c) (leaves) (holds) (c) (holds) (c) (leaves) (leaves) (c))

theorem gate_Chart_picked_eq (n : Nat) (x : gate_Chart_picked_a.den) : runF gate_Chart_picked_g (gate_Chart_picked_an n) Tryz.f114 gate_Chart_picked_a gate_Chart_picked_r x = gate_Chart_picked_m n x.1 x.2.1 x.2.2.1 := by kernel_rfl

noncomputable def gate_Chart_picked_b5 (event4_5 : List UInt8) (t7_5 : List (List UInt8)) (t8_5 : Int) (t9_5 : Int) (p0_2_5 : Cha) (p0_7_5 : List Int) (p0_8_5 : Int) (p0_9_5 : Int) (p0_10_5 : Bool) (p0_11_5 : Int) (p0_12_5 : Int) (p0_13_5 : Cha) (p0_14_5_0 : Cha) (b2_0_5 : Int) (p4_0_5 : Cha) (p4_1_5 : List Int) (p4_2_5 : Cas × (Int × Bool × Bool × Unit) × Unit → Option (Bool × Unit)) (p4_3_5 : Cha) (p4_5_5 : Cas × (Int × Bool × Bool × Unit) × Unit → Option (Bool × Unit)) (p4_10_5 : Cha) (p4_11_5 : List Int) (p4_12_5_0 : List Int) (p4_12_5_1 : Cha) (k2_5 : Cha) (k7_5 : List Int) (k8_5 : Int) (k9_5 : Int) (k10_5 : Bool) (k11_5 : Int) (k12_5 : Int) (k13_5 : Cha) (k14_5_0 : Cha) (k31_5 : Cha) (k32_5 : List Int) (k33_5 : Cas × (Int × Bool × Bool × Unit) × Unit → Option (Bool × Unit)) (k34_5 : Cha) (k36_5 : Cas × (Int × Bool × Bool × Unit) × Unit → Option (Bool × Unit)) (k41_5 : Cha) (k42_5 : List Int) (k43_5_0 : List Int) (k43_5_1 : Cha) (t13_5 : Int) (c5_5 : List Cas) : Option ((((List Cas × Unit) ⊕ (List Cas)) ⊕ (List Cas)) ⊕ (List Cas)) :=
  (Option.bind (Go.Tw.gate_Chart_step_M p0_2_5 b2_0_5 (event4_5, t13_5, ())) fun (v6 : (Int × Bool × Bool × Unit) × Unit) => (Option.bind (p4_5_5 ((b2_0_5, event4_5, t13_5, ()), (v6.fst.fst, v6.fst.snd.fst, v6.fst.snd.snd.fst, ()), ())) fun (v7 : Bool × Unit) => (bif v7.fst then (bif Decidable.decide (c5_5.length + (1 : Nat) ≤ Go.Vx.memMax) then (some (Sum.inr (c5_5 ++ [(b2_0_5, event4_5, t13_5, ())]))) else none) else (some (Sum.inr (c5_5))))))

noncomputable def gate_Chart_picked_f5 (event4_5 : List UInt8) (t7_5 : List (List UInt8)) (t8_5 : Int) (t9_5 : Int) (p0_2_5 : Cha) (p0_7_5 : List Int) (p0_8_5 : Int) (p0_9_5 : Int) (p0_10_5 : Bool) (p0_11_5 : Int) (p0_12_5 : Int) (p0_13_5 : Cha) (p0_14_5_0 : Cha) (b2_0_5 : Int) (p4_0_5 : Cha) (p4_1_5 : List Int) (p4_2_5 : Cas × (Int × Bool × Bool × Unit) × Unit → Option (Bool × Unit)) (p4_3_5 : Cha) (p4_5_5 : Cas × (Int × Bool × Bool × Unit) × Unit → Option (Bool × Unit)) (p4_10_5 : Cha) (p4_11_5 : List Int) (p4_12_5_0 : List Int) (p4_12_5_1 : Cha) (k2_5 : Cha) (k7_5 : List Int) (k8_5 : Int) (k9_5 : Int) (k10_5 : Bool) (k11_5 : Int) (k12_5 : Int) (k13_5 : Cha) (k14_5_0 : Cha) (k31_5 : Cha) (k32_5 : List Int) (k33_5 : Cas × (Int × Bool × Bool × Unit) × Unit → Option (Bool × Unit)) (k34_5 : Cha) (k36_5 : Cas × (Int × Bool × Bool × Unit) × Unit → Option (Bool × Unit)) (k41_5 : Cha) (k42_5 : List Int) (k43_5_0 : List Int) (k43_5_1 : Cha) (c5_5 : List Cas) : Option (((List Cas × Unit) ⊕ (List Cas)) ⊕ (List Cas)) :=
  (some (Sum.inr (c5_5)))

theorem gate_Chart_picked_m_w5_le (n : Nat) (hn : big ≤ n) (r0 : Cha → List Int → Int → Int → Cha → List Int → (Cas × (Int × Bool × Bool × Unit) × Unit → Option (Bool × Unit)) → Cha → (Cas × (Int × Bool × Bool × Unit) × Unit → Option (Bool × Unit)) → Cha → List Int → List Int → Cha → List Cas → Cha → List Int → (Cas × (Int × Bool × Bool × Unit) × Unit → Option (Bool × Unit)) → Cha → (Cas × (Int × Bool × Bool × Unit) × Unit → Option (Bool × Unit)) → Cha → List Int → List Int → Cha → Option (List Cas × Unit)) (r3 : List (List UInt8) → Int → Int → Cha → List Int → Int → Int → Bool → Int → Int → Cha → Cha → Int → Cha → List Int → (Cas × (Int × Bool × Bool × Unit) × Unit → Option (Bool × Unit)) → Cha → (Cas × (Int × Bool × Bool × Unit) × Unit → Option (Bool × Unit)) → Cha → List Int → List Int → Cha → List Cas → Cha → List Int → Int → Int → Bool → Int → Int → Cha → Cha → Cha → List Int → (Cas × (Int × Bool × Bool × Unit) × Unit → Option (Bool × Unit)) → Cha → (Cas × (Int × Bool × Bool × Unit) × Unit → Option (Bool × Unit)) → Cha → List Int → List Int → Cha → Option (List Cas × Unit)) (event4_5 : List UInt8) (t7_5 : List (List UInt8)) (t8_5 : Int) (t9_5 : Int) (p0_2_5 : Cha) (p0_7_5 : List Int) (p0_8_5 : Int) (p0_9_5 : Int) (p0_10_5 : Bool) (p0_11_5 : Int) (p0_12_5 : Int) (p0_13_5 : Cha) (p0_14_5_0 : Cha) (b2_0_5 : Int) (p4_0_5 : Cha) (p4_1_5 : List Int) (p4_2_5 : Cas × (Int × Bool × Bool × Unit) × Unit → Option (Bool × Unit)) (p4_3_5 : Cha) (p4_5_5 : Cas × (Int × Bool × Bool × Unit) × Unit → Option (Bool × Unit)) (p4_10_5 : Cha) (p4_11_5 : List Int) (p4_12_5_0 : List Int) (p4_12_5_1 : Cha) (k2_5 : Cha) (k7_5 : List Int) (k8_5 : Int) (k9_5 : Int) (k10_5 : Bool) (k11_5 : Int) (k12_5 : Int) (k13_5 : Cha) (k14_5_0 : Cha) (k31_5 : Cha) (k32_5 : List Int) (k33_5 : Cas × (Int × Bool × Bool × Unit) × Unit → Option (Bool × Unit)) (k34_5 : Cha) (k36_5 : Cas × (Int × Bool × Bool × Unit) × Unit → Option (Bool × Unit)) (k41_5 : Cha) (k42_5 : List Int) (k43_5_0 : List Int) (k43_5_1 : Cha) (c5_5 : List Cas) (hx : ((16 : Int)) ≤ (9223372036854775807 : Int)) : LeF (elim (elim some fun (s__ : (List Cas)) => r0 k2_5 k7_5 k8_5 (Go.IntKind.i64.wrap (k9_5 + 1)) p4_0_5 p4_1_5 p4_2_5 p4_3_5 p4_5_5 p4_10_5 p4_11_5 p4_12_5_0 p4_12_5_1 s__ k31_5 k32_5 k33_5 k34_5 k36_5 k41_5 k42_5 k43_5_0 k43_5_1) fun (s__ : (List Cas)) => r3 t7_5 t8_5 (Go.IntKind.i64.wrap (t9_5 + 1)) p0_2_5 p0_7_5 p0_8_5 p0_9_5 p0_10_5 p0_11_5 p0_12_5 p0_13_5 p0_14_5_0 b2_0_5 p4_0_5 p4_1_5 p4_2_5 p4_3_5 p4_5_5 p4_10_5 p4_11_5 p4_12_5_0 p4_12_5_1 s__ k2_5 k7_5 k8_5 k9_5 k10_5 k11_5 k12_5 k13_5 k14_5_0 k31_5 k32_5 k33_5 k34_5 k36_5 k41_5 k42_5 k43_5_0 k43_5_1) (loopN (fun i__ s__ => gate_Chart_picked_b5 event4_5 t7_5 t8_5 t9_5 p0_2_5 p0_7_5 p0_8_5 p0_9_5 p0_10_5 p0_11_5 p0_12_5 p0_13_5 p0_14_5_0 b2_0_5 p4_0_5 p4_1_5 p4_2_5 p4_3_5 p4_5_5 p4_10_5 p4_11_5 p4_12_5_0 p4_12_5_1 k2_5 k7_5 k8_5 k9_5 k10_5 k11_5 k12_5 k13_5 k14_5_0 k31_5 k32_5 k33_5 k34_5 k36_5 k41_5 k42_5 k43_5_0 k43_5_1 i__ s__) (fun s__ => gate_Chart_picked_f5 event4_5 t7_5 t8_5 t9_5 p0_2_5 p0_7_5 p0_8_5 p0_9_5 p0_10_5 p0_11_5 p0_12_5 p0_13_5 p0_14_5_0 b2_0_5 p4_0_5 p4_1_5 p4_2_5 p4_3_5 p4_5_5 p4_10_5 p4_11_5 p4_12_5_0 p4_12_5_1 k2_5 k7_5 k8_5 k9_5 k10_5 k11_5 k12_5 k13_5 k14_5_0 k31_5 k32_5 k33_5 k34_5 k36_5 k41_5 k42_5 k43_5_0 k43_5_1 s__) (((16 : Int)) - 0).toNat 0 c5_5) (gate_Chart_picked_m_w5 n r3 n event4_5 t7_5 t8_5 t9_5 0 p0_2_5 p0_7_5 p0_8_5 p0_9_5 p0_10_5 p0_11_5 p0_12_5 p0_13_5 p0_14_5_0 b2_0_5 p4_0_5 p4_1_5 p4_2_5 p4_3_5 p4_5_5 p4_10_5 p4_11_5 p4_12_5_0 p4_12_5_1 c5_5 k2_5 k7_5 k8_5 k9_5 k10_5 k11_5 k12_5 k13_5 k14_5_0 k31_5 k32_5 k33_5 k34_5 k36_5 k41_5 k42_5 k43_5_0 k43_5_1) := by
  refine loopN_le (f := (elim (elim some fun (s__ : (List Cas)) => r0 k2_5 k7_5 k8_5 (Go.IntKind.i64.wrap (k9_5 + 1)) p4_0_5 p4_1_5 p4_2_5 p4_3_5 p4_5_5 p4_10_5 p4_11_5 p4_12_5_0 p4_12_5_1 s__ k31_5 k32_5 k33_5 k34_5 k36_5 k41_5 k42_5 k43_5_0 k43_5_1) fun (s__ : (List Cas)) => r3 t7_5 t8_5 (Go.IntKind.i64.wrap (t9_5 + 1)) p0_2_5 p0_7_5 p0_8_5 p0_9_5 p0_10_5 p0_11_5 p0_12_5 p0_13_5 p0_14_5_0 b2_0_5 p4_0_5 p4_1_5 p4_2_5 p4_3_5 p4_5_5 p4_10_5 p4_11_5 p4_12_5_0 p4_12_5_1 s__ k2_5 k7_5 k8_5 k9_5 k10_5 k11_5 k12_5 k13_5 k14_5_0 k31_5 k32_5 k33_5 k34_5 k36_5 k41_5 k42_5 k43_5_0 k43_5_1)) (W := fun k__ i__ s__ => gate_Chart_picked_m_w5 n r3 k__ event4_5 t7_5 t8_5 t9_5 i__ p0_2_5 p0_7_5 p0_8_5 p0_9_5 p0_10_5 p0_11_5 p0_12_5 p0_13_5 p0_14_5_0 b2_0_5 p4_0_5 p4_1_5 p4_2_5 p4_3_5 p4_5_5 p4_10_5 p4_11_5 p4_12_5_0 p4_12_5_1 s__ k2_5 k7_5 k8_5 k9_5 k10_5 k11_5 k12_5 k13_5 k14_5_0 k31_5 k32_5 k33_5 k34_5 k36_5 k41_5 k42_5 k43_5_0 k43_5_1) (body := (fun i__ s__ => gate_Chart_picked_b5 event4_5 t7_5 t8_5 t9_5 p0_2_5 p0_7_5 p0_8_5 p0_9_5 p0_10_5 p0_11_5 p0_12_5 p0_13_5 p0_14_5_0 b2_0_5 p4_0_5 p4_1_5 p4_2_5 p4_3_5 p4_5_5 p4_10_5 p4_11_5 p4_12_5_0 p4_12_5_1 k2_5 k7_5 k8_5 k9_5 k10_5 k11_5 k12_5 k13_5 k14_5_0 k31_5 k32_5 k33_5 k34_5 k36_5 k41_5 k42_5 k43_5_0 k43_5_1 i__ s__)) (fin := (fun s__ => gate_Chart_picked_f5 event4_5 t7_5 t8_5 t9_5 p0_2_5 p0_7_5 p0_8_5 p0_9_5 p0_10_5 p0_11_5 p0_12_5 p0_13_5 p0_14_5_0 b2_0_5 p4_0_5 p4_1_5 p4_2_5 p4_3_5 p4_5_5 p4_10_5 p4_11_5 p4_12_5_0 p4_12_5_1 k2_5 k7_5 k8_5 k9_5 k10_5 k11_5 k12_5 k13_5 k14_5_0 k31_5 k32_5 k33_5 k34_5 k36_5 k41_5 k42_5 k43_5_0 k43_5_1 s__)) (fun k__ i__ s__ => ?_) hx c5_5 n 0 (by decide) (by unfold big at hn; omega)
  show LeF _ _ (gate_Chart_picked_m_l5 n r3 (gate_Chart_picked_m_w5 n r3 k__) event4_5 t7_5 t8_5 t9_5 i__ p0_2_5 p0_7_5 p0_8_5 p0_9_5 p0_10_5 p0_11_5 p0_12_5 p0_13_5 p0_14_5_0 b2_0_5 p4_0_5 p4_1_5 p4_2_5 p4_3_5 p4_5_5 p4_10_5 p4_11_5 p4_12_5_0 p4_12_5_1 s__ k2_5 k7_5 k8_5 k9_5 k10_5 k11_5 k12_5 k13_5 k14_5_0 k31_5 k32_5 k33_5 k34_5 k36_5 k41_5 k42_5 k43_5_0 k43_5_1)
  exact leCond (leBind fun v6 => (leBind fun v7 => (leCond (leCond (leSome rfl) leNone) (leSome rfl)))) (leMap (leSome rfl))

noncomputable def gate_Chart_picked_b3 (t7_3 : List (List UInt8)) (p0_2_3 : Cha) (p0_7_3 : List Int) (p0_8_3 : Int) (p0_9_3 : Int) (p0_10_3 : Bool) (p0_11_3 : Int) (p0_12_3 : Int) (p0_13_3 : Cha) (p0_14_3_0 : Cha) (b2_0_3 : Int) (p4_0_3 : Cha) (p4_1_3 : List Int) (p4_2_3 : Cas × (Int × Bool × Bool × Unit) × Unit → Option (Bool × Unit)) (p4_3_3 : Cha) (p4_5_3 : Cas × (Int × Bool × Bool × Unit) × Unit → Option (Bool × Unit)) (p4_10_3 : Cha) (p4_11_3 : List Int) (p4_12_3_0 : List Int) (p4_12_3_1 : Cha) (k2_3 : Cha) (k7_3 : List Int) (k8_3 : Int) (k9_3 : Int) (k10_3 : Bool) (k11_3 : Int) (k12_3 : Int) (k13_3 : Cha) (k14_3_0 : Cha) (k31_3 : Cha) (k32_3 : List Int) (k33_3 : Cas × (Int × Bool × Bool × Unit) × Unit → Option (Bool × Unit)) (k34_3 : Cha) (k36_3 : Cas × (Int × Bool × Bool × Unit) × Unit → Option (Bool × Unit)) (k41_3 : Cha) (k42_3 : List Int) (k43_3_0 : List Int) (k43_3_1 : Cha) (t9_3 : Int) (v4 : List UInt8) (c5_3 : List Cas) : Option (((List Cas × Unit) ⊕ (List Cas)) ⊕ (List Cas)) :=
  (bif decide (((16 : Int)) ≤ (9223372036854775807 : Int)) then loopN (fun i__ s__ => gate_Chart_picked_b5 (v4) (t7_3) ((↑t7_3.length : Int)) (t9_3) (p0_2_3) (p0_7_3) (p0_8_3) (p0_9_3) (p0_10_3) (p0_11_3) (p0_12_3) (p0_13_3) (p0_14_3_0) (b2_0_3) (p4_0_3) (p4_1_3) (p4_2_3) (p4_3_3) (p4_5_3) (p4_10_3) (p4_11_3) (p4_12_3_0) (p4_12_3_1) (k2_3) (k7_3) (k8_3) (k9_3) (k10_3) (k11_3) (k12_3) (k13_3) (k14_3_0) (k31_3) (k32_3) (k33_3) (k34_3) (k36_3) (k41_3) (k42_3) (k43_3_0) (k43_3_1) i__ s__) (fun s__ => gate_Chart_picked_f5 (v4) (t7_3) ((↑t7_3.length : Int)) (t9_3) (p0_2_3) (p0_7_3) (p0_8_3) (p0_9_3) (p0_10_3) (p0_11_3) (p0_12_3) (p0_13_3) (p0_14_3_0) (b2_0_3) (p4_0_3) (p4_1_3) (p4_2_3) (p4_3_3) (p4_5_3) (p4_10_3) (p4_11_3) (p4_12_3_0) (p4_12_3_1) (k2_3) (k7_3) (k8_3) (k9_3) (k10_3) (k11_3) (k12_3) (k13_3) (k14_3_0) (k31_3) (k32_3) (k33_3) (k34_3) (k36_3) (k41_3) (k42_3) (k43_3_0) (k43_3_1) s__) (((16 : Int)) - 0).toNat 0 (c5_3) else none)

noncomputable def gate_Chart_picked_f3 (t7_3 : List (List UInt8)) (p0_2_3 : Cha) (p0_7_3 : List Int) (p0_8_3 : Int) (p0_9_3 : Int) (p0_10_3 : Bool) (p0_11_3 : Int) (p0_12_3 : Int) (p0_13_3 : Cha) (p0_14_3_0 : Cha) (b2_0_3 : Int) (p4_0_3 : Cha) (p4_1_3 : List Int) (p4_2_3 : Cas × (Int × Bool × Bool × Unit) × Unit → Option (Bool × Unit)) (p4_3_3 : Cha) (p4_5_3 : Cas × (Int × Bool × Bool × Unit) × Unit → Option (Bool × Unit)) (p4_10_3 : Cha) (p4_11_3 : List Int) (p4_12_3_0 : List Int) (p4_12_3_1 : Cha) (k2_3 : Cha) (k7_3 : List Int) (k8_3 : Int) (k9_3 : Int) (k10_3 : Bool) (k11_3 : Int) (k12_3 : Int) (k13_3 : Cha) (k14_3_0 : Cha) (k31_3 : Cha) (k32_3 : List Int) (k33_3 : Cas × (Int × Bool × Bool × Unit) × Unit → Option (Bool × Unit)) (k34_3 : Cha) (k36_3 : Cas × (Int × Bool × Bool × Unit) × Unit → Option (Bool × Unit)) (k41_3 : Cha) (k42_3 : List Int) (k43_3_0 : List Int) (k43_3_1 : Cha) (c5_3 : List Cas) : Option ((List Cas × Unit) ⊕ (List Cas)) :=
  (some (Sum.inr (c5_3)))

theorem gate_Chart_picked_m_w3_le (n : Nat) (hn : big ≤ n)  (r0 : Cha → List Int → Int → Int → Cha → List Int → (Cas × (Int × Bool × Bool × Unit) × Unit → Option (Bool × Unit)) → Cha → (Cas × (Int × Bool × Bool × Unit) × Unit → Option (Bool × Unit)) → Cha → List Int → List Int → Cha → List Cas → Cha → List Int → (Cas × (Int × Bool × Bool × Unit) × Unit → Option (Bool × Unit)) → Cha → (Cas × (Int × Bool × Bool × Unit) × Unit → Option (Bool × Unit)) → Cha → List Int → List Int → Cha → Option (List Cas × Unit)) (t7_3 : List (List UInt8)) (p0_2_3 : Cha) (p0_7_3 : List Int) (p0_8_3 : Int) (p0_9_3 : Int) (p0_10_3 : Bool) (p0_11_3 : Int) (p0_12_3 : Int) (p0_13_3 : Cha) (p0_14_3_0 : Cha) (b2_0_3 : Int) (p4_0_3 : Cha) (p4_1_3 : List Int) (p4_2_3 : Cas × (Int × Bool × Bool × Unit) × Unit → Option (Bool × Unit)) (p4_3_3 : Cha) (p4_5_3 : Cas × (Int × Bool × Bool × Unit) × Unit → Option (Bool × Unit)) (p4_10_3 : Cha) (p4_11_3 : List Int) (p4_12_3_0 : List Int) (p4_12_3_1 : Cha) (k2_3 : Cha) (k7_3 : List Int) (k8_3 : Int) (k9_3 : Int) (k10_3 : Bool) (k11_3 : Int) (k12_3 : Int) (k13_3 : Cha) (k14_3_0 : Cha) (k31_3 : Cha) (k32_3 : List Int) (k33_3 : Cas × (Int × Bool × Bool × Unit) × Unit → Option (Bool × Unit)) (k34_3 : Cha) (k36_3 : Cas × (Int × Bool × Bool × Unit) × Unit → Option (Bool × Unit)) (k41_3 : Cha) (k42_3 : List Int) (k43_3_0 : List Int) (k43_3_1 : Cha) (c5_3 : List Cas) (hx : List.length (t7_3) < lenMax) : LeF (elim some fun (s__ : (List Cas)) => r0 k2_3 k7_3 k8_3 (Go.IntKind.i64.wrap (k9_3 + 1)) p4_0_3 p4_1_3 p4_2_3 p4_3_3 p4_5_3 p4_10_3 p4_11_3 p4_12_3_0 p4_12_3_1 s__ k31_3 k32_3 k33_3 k34_3 k36_3 k41_3 k42_3 k43_3_0 k43_3_1) (loopL (fun i__ e__ s__ => gate_Chart_picked_b3 t7_3 p0_2_3 p0_7_3 p0_8_3 p0_9_3 p0_10_3 p0_11_3 p0_12_3 p0_13_3 p0_14_3_0 b2_0_3 p4_0_3 p4_1_3 p4_2_3 p4_3_3 p4_5_3 p4_10_3 p4_11_3 p4_12_3_0 p4_12_3_1 k2_3 k7_3 k8_3 k9_3 k10_3 k11_3 k12_3 k13_3 k14_3_0 k31_3 k32_3 k33_3 k34_3 k36_3 k41_3 k42_3 k43_3_0 k43_3_1 i__ e__ s__) (fun s__ => gate_Chart_picked_f3 t7_3 p0_2_3 p0_7_3 p0_8_3 p0_9_3 p0_10_3 p0_11_3 p0_12_3 p0_13_3 p0_14_3_0 b2_0_3 p4_0_3 p4_1_3 p4_2_3 p4_3_3 p4_5_3 p4_10_3 p4_11_3 p4_12_3_0 p4_12_3_1 k2_3 k7_3 k8_3 k9_3 k10_3 k11_3 k12_3 k13_3 k14_3_0 k31_3 k32_3 k33_3 k34_3 k36_3 k41_3 k42_3 k43_3_0 k43_3_1 s__) 0 (t7_3) c5_3) (gate_Chart_picked_m_w3 n r0 n t7_3 (List.length (t7_3) : Int) 0 p0_2_3 p0_7_3 p0_8_3 p0_9_3 p0_10_3 p0_11_3 p0_12_3 p0_13_3 p0_14_3_0 b2_0_3 p4_0_3 p4_1_3 p4_2_3 p4_3_3 p4_5_3 p4_10_3 p4_11_3 p4_12_3_0 p4_12_3_1 c5_3 k2_3 k7_3 k8_3 k9_3 k10_3 k11_3 k12_3 k13_3 k14_3_0 k31_3 k32_3 k33_3 k34_3 k36_3 k41_3 k42_3 k43_3_0 k43_3_1) := by
  refine loopL_le (f := (elim some fun (s__ : (List Cas)) => r0 k2_3 k7_3 k8_3 (Go.IntKind.i64.wrap (k9_3 + 1)) p4_0_3 p4_1_3 p4_2_3 p4_3_3 p4_5_3 p4_10_3 p4_11_3 p4_12_3_0 p4_12_3_1 s__ k31_3 k32_3 k33_3 k34_3 k36_3 k41_3 k42_3 k43_3_0 k43_3_1)) (W := fun k__ i__ s__ => gate_Chart_picked_m_w3 n r0 k__ t7_3 (List.length (t7_3) : Int) i__ p0_2_3 p0_7_3 p0_8_3 p0_9_3 p0_10_3 p0_11_3 p0_12_3 p0_13_3 p0_14_3_0 b2_0_3 p4_0_3 p4_1_3 p4_2_3 p4_3_3 p4_5_3 p4_10_3 p4_11_3 p4_12_3_0 p4_12_3_1 s__ k2_3 k7_3 k8_3 k9_3 k10_3 k11_3 k12_3 k13_3 k14_3_0 k31_3 k32_3 k33_3 k34_3 k36_3 k41_3 k42_3 k43_3_0 k43_3_1) (body := (fun i__ e__ s__ => gate_Chart_picked_b3 t7_3 p0_2_3 p0_7_3 p0_8_3 p0_9_3 p0_10_3 p0_11_3 p0_12_3 p0_13_3 p0_14_3_0 b2_0_3 p4_0_3 p4_1_3 p4_2_3 p4_3_3 p4_5_3 p4_10_3 p4_11_3 p4_12_3_0 p4_12_3_1 k2_3 k7_3 k8_3 k9_3 k10_3 k11_3 k12_3 k13_3 k14_3_0 k31_3 k32_3 k33_3 k34_3 k36_3 k41_3 k42_3 k43_3_0 k43_3_1 i__ e__ s__)) (fin := (fun s__ => gate_Chart_picked_f3 t7_3 p0_2_3 p0_7_3 p0_8_3 p0_9_3 p0_10_3 p0_11_3 p0_12_3 p0_13_3 p0_14_3_0 b2_0_3 p4_0_3 p4_1_3 p4_2_3 p4_3_3 p4_5_3 p4_10_3 p4_11_3 p4_12_3_0 p4_12_3_1 k2_3 k7_3 k8_3 k9_3 k10_3 k11_3 k12_3 k13_3 k14_3_0 k31_3 k32_3 k33_3 k34_3 k36_3 k41_3 k42_3 k43_3_0 k43_3_1 s__)) (fun k__ i__ s__ => ?_) hx c5_3 n (by unfold big at hn; unfold lenMax at hx; omega)
  show LeF _ _ (gate_Chart_picked_m_l3 n r0 (gate_Chart_picked_m_w3 n r0 k__) t7_3 (List.length (t7_3) : Int) i__ p0_2_3 p0_7_3 p0_8_3 p0_9_3 p0_10_3 p0_11_3 p0_12_3 p0_13_3 p0_14_3_0 b2_0_3 p4_0_3 p4_1_3 p4_2_3 p4_3_3 p4_5_3 p4_10_3 p4_11_3 p4_12_3_0 p4_12_3_1 s__ k2_3 k7_3 k8_3 k9_3 k10_3 k11_3 k12_3 k13_3 k14_3_0 k31_3 k32_3 k33_3 k34_3 k36_3 k41_3 k42_3 k43_3_0 k43_3_1)
  exact leCond (leBind fun v4 => (leGuard fun hx => by apply gate_Chart_picked_m_w5_le n hn; exact hx)) (leMap (leSome rfl))

noncomputable def gate_Chart_picked_b0 (t2_0 : Cha) (t7_0 : List Int) (p2_0_0 : Cha) (p2_1_0 : List Int) (p2_2_0 : Cas × (Int × Bool × Bool × Unit) × Unit → Option (Bool × Unit)) (p2_3_0 : Cha) (p2_5_0 : Cas × (Int × Bool × Bool × Unit) × Unit → Option (Bool × Unit)) (p2_10_0 : Cha) (p2_11_0 : List Int) (p2_12_0_0 : List Int) (p2_12_0_1 : Cha) (k0_0 : Cha) (k1_0 : List Int) (k2_0 : Cas × (Int × Bool × Bool × Unit) × Unit → Option (Bool × Unit)) (k3_0 : Cha) (k5_0 : Cas × (Int × Bool × Bool × Unit) × Unit → Option (Bool × Unit)) (k10_0 : Cha) (k11_0 : List Int) (k12_0_0 : List Int) (k12_0_1 : Cha) (t9_0 : Int) (v1 : Int) (c3_0 : List Cas) : Option ((List Cas × Unit) ⊕ (List Cas)) :=
  (Option.bind (Go.Tw.gate_Chart_events_M t2_0) fun (v2 : List (List UInt8) × Unit) => (bif decide (List.length (v2.fst) < lenMax) then loopL (fun i__ e__ s__ => gate_Chart_picked_b3 (v2.fst) (t2_0) (t7_0) ((↑t7_0.length : Int)) (t9_0) (Decidable.decide (t9_0 < (↑t7_0.length : Int))) (v1) (v1) (t2_0) (t2_0) (v1) (p2_0_0) (p2_1_0) (p2_2_0) (p2_3_0) (p2_5_0) (p2_10_0) (p2_11_0) (p2_12_0_0) (p2_12_0_1) (t2_0) (t7_0) ((↑t7_0.length : Int)) (t9_0) (Decidable.decide (t9_0 < (↑t7_0.length : Int))) (v1) (v1) (t2_0) (t2_0) (k0_0) (k1_0) (k2_0) (k3_0) (k5_0) (k10_0) (k11_0) (k12_0_0) (k12_0_1) i__ e__ s__) (fun s__ => gate_Chart_picked_f3 (v2.fst) (t2_0) (t7_0) ((↑t7_0.length : Int)) (t9_0) (Decidable.decide (t9_0 < (↑t7_0.length : Int))) (v1) (v1) (t2_0) (t2_0) (v1) (p2_0_0) (p2_1_0) (p2_2_0) (p2_3_0) (p2_5_0) (p2_10_0) (p2_11_0) (p2_12_0_0) (p2_12_0_1) (t2_0) (t7_0) ((↑t7_0.length : Int)) (t9_0) (Decidable.decide (t9_0 < (↑t7_0.length : Int))) (v1) (v1) (t2_0) (t2_0) (k0_0) (k1_0) (k2_0) (k3_0) (k5_0) (k10_0) (k11_0) (k12_0_0) (k12_0_1) s__) 0 (v2.fst) (c3_0) else none))

noncomputable def gate_Chart_picked_f0 (t2_0 : Cha) (t7_0 : List Int) (p2_0_0 : Cha) (p2_1_0 : List Int) (p2_2_0 : Cas × (Int × Bool × Bool × Unit) × Unit → Option (Bool × Unit)) (p2_3_0 : Cha) (p2_5_0 : Cas × (Int × Bool × Bool × Unit) × Unit → Option (Bool × Unit)) (p2_10_0 : Cha) (p2_11_0 : List Int) (p2_12_0_0 : List Int) (p2_12_0_1 : Cha) (k0_0 : Cha) (k1_0 : List Int) (k2_0 : Cas × (Int × Bool × Bool × Unit) × Unit → Option (Bool × Unit)) (k3_0 : Cha) (k5_0 : Cas × (Int × Bool × Bool × Unit) × Unit → Option (Bool × Unit)) (k10_0 : Cha) (k11_0 : List Int) (k12_0_0 : List Int) (k12_0_1 : Cha) (c3_0 : List Cas) : Option (List Cas × Unit) :=
  (some ((c3_0, ())))

theorem gate_Chart_picked_m_w0_le (n : Nat) (hn : big ≤ n)  (t2_0 : Cha) (t7_0 : List Int) (p2_0_0 : Cha) (p2_1_0 : List Int) (p2_2_0 : Cas × (Int × Bool × Bool × Unit) × Unit → Option (Bool × Unit)) (p2_3_0 : Cha) (p2_5_0 : Cas × (Int × Bool × Bool × Unit) × Unit → Option (Bool × Unit)) (p2_10_0 : Cha) (p2_11_0 : List Int) (p2_12_0_0 : List Int) (p2_12_0_1 : Cha) (k0_0 : Cha) (k1_0 : List Int) (k2_0 : Cas × (Int × Bool × Bool × Unit) × Unit → Option (Bool × Unit)) (k3_0 : Cha) (k5_0 : Cas × (Int × Bool × Bool × Unit) × Unit → Option (Bool × Unit)) (k10_0 : Cha) (k11_0 : List Int) (k12_0_0 : List Int) (k12_0_1 : Cha) (c3_0 : List Cas) (hx : List.length (t7_0) < lenMax) : LeF some (loopL (fun i__ e__ s__ => gate_Chart_picked_b0 t2_0 t7_0 p2_0_0 p2_1_0 p2_2_0 p2_3_0 p2_5_0 p2_10_0 p2_11_0 p2_12_0_0 p2_12_0_1 k0_0 k1_0 k2_0 k3_0 k5_0 k10_0 k11_0 k12_0_0 k12_0_1 i__ e__ s__) (fun s__ => gate_Chart_picked_f0 t2_0 t7_0 p2_0_0 p2_1_0 p2_2_0 p2_3_0 p2_5_0 p2_10_0 p2_11_0 p2_12_0_0 p2_12_0_1 k0_0 k1_0 k2_0 k3_0 k5_0 k10_0 k11_0 k12_0_0 k12_0_1 s__) 0 (t7_0) c3_0) (gate_Chart_picked_m_w0 n n t2_0 t7_0 (List.length (t7_0) : Int) 0 p2_0_0 p2_1_0 p2_2_0 p2_3_0 p2_5_0 p2_10_0 p2_11_0 p2_12_0_0 p2_12_0_1 c3_0 k0_0 k1_0 k2_0 k3_0 k5_0 k10_0 k11_0 k12_0_0 k12_0_1) := by
  refine loopL_le (f := some) (W := fun k__ i__ s__ => gate_Chart_picked_m_w0 n k__ t2_0 t7_0 (List.length (t7_0) : Int) i__ p2_0_0 p2_1_0 p2_2_0 p2_3_0 p2_5_0 p2_10_0 p2_11_0 p2_12_0_0 p2_12_0_1 s__ k0_0 k1_0 k2_0 k3_0 k5_0 k10_0 k11_0 k12_0_0 k12_0_1) (body := (fun i__ e__ s__ => gate_Chart_picked_b0 t2_0 t7_0 p2_0_0 p2_1_0 p2_2_0 p2_3_0 p2_5_0 p2_10_0 p2_11_0 p2_12_0_0 p2_12_0_1 k0_0 k1_0 k2_0 k3_0 k5_0 k10_0 k11_0 k12_0_0 k12_0_1 i__ e__ s__)) (fin := (fun s__ => gate_Chart_picked_f0 t2_0 t7_0 p2_0_0 p2_1_0 p2_2_0 p2_3_0 p2_5_0 p2_10_0 p2_11_0 p2_12_0_0 p2_12_0_1 k0_0 k1_0 k2_0 k3_0 k5_0 k10_0 k11_0 k12_0_0 k12_0_1 s__)) (fun k__ i__ s__ => ?_) hx c3_0 n (by unfold big at hn; unfold lenMax at hx; omega)
  show LeF _ _ (gate_Chart_picked_m_l0 n (gate_Chart_picked_m_w0 n k__) t2_0 t7_0 (List.length (t7_0) : Int) i__ p2_0_0 p2_1_0 p2_2_0 p2_3_0 p2_5_0 p2_10_0 p2_11_0 p2_12_0_0 p2_12_0_1 s__ k0_0 k1_0 k2_0 k3_0 k5_0 k10_0 k11_0 k12_0_0 k12_0_1)
  exact leCond (leBind fun v1 => (leBind fun v2 => (leGuard fun hx => by apply gate_Chart_picked_m_w3_le n hn; exact hx))) (leMap (leSome rfl))

noncomputable def gate_Chart_picked_M (c : Cha) (leaves : List Int) (holds : Cas × (Int × Bool × Bool × Unit) × Unit → Option (Bool × Unit)) : Option (List Cas × Unit) :=
  (bif decide (List.length (leaves) < lenMax) then loopL (fun i__ e__ s__ => gate_Chart_picked_b0 (c) (leaves) (c) (leaves) (holds) (c) (holds) (c) (leaves) (leaves) (c) (c) (leaves) (holds) (c) (holds) (c) (leaves) (leaves) (c) i__ e__ s__) (fun s__ => gate_Chart_picked_f0 (c) (leaves) (c) (leaves) (holds) (c) (holds) (c) (leaves) (leaves) (c) (c) (leaves) (holds) (c) (holds) (c) (leaves) (leaves) (c) s__) 0 (leaves) ([]) else none)

theorem gate_Chart_picked_run (c : Cha) (leaves : List Int) (holds : Cas × (Int × Bool × Bool × Unit) × Unit → Option (Bool × Unit)) (y : List Cas × Unit) (h : gate_Chart_picked_M c leaves holds = some y) : ∃ n, gate_Chart_picked_m n c leaves holds = some y :=
  ⟨big, LeF.top (show LeF some (gate_Chart_picked_M c leaves holds) (gate_Chart_picked_m big c leaves holds) from (fun (n : Nat) (hn : big ≤ n) => show LeF some (gate_Chart_picked_M c leaves holds) (gate_Chart_picked_m n c leaves holds) from (leGuard fun hx => by apply gate_Chart_picked_m_w0_le n hn; exact hx)) big (Nat.le_refl _)) h⟩
noncomputable def gate_Chart_picked_e : Entry := { f := 114, args := gate_Chart_picked_a, ress := gate_Chart_picked_r, m := fun x => gate_Chart_picked_M x.1 x.2.1 x.2.2.1 }
theorem gate_Chart_picked_ok : FnOK Tryz.prog gate_Chart_picked_e := fn_ok (g := gate_Chart_picked_g) (fn := Tryz.f114) hmixed tabOk (eCons gate_Chart_step_ok (eCons gate_Chart_events_ok eNil)) (by kernel_rfl) (by kernel_rfl) (by kernel_rfl) (fun x y h => let ⟨n, hn⟩ := gate_Chart_picked_run x.1 x.2.1 x.2.2.1 y h; ⟨gate_Chart_picked_an n, (iCons il144_ok (iCons il157_ok (iCons il150_ok (iCons il161_ok iNil)))), (gate_Chart_picked_eq n x).trans hn⟩)

end Go.Tw
end

section
set_option linter.all false
set_option maxRecDepth 1000000
namespace Go.Tw
open Go.Vx Go.Vx.B Go.Proofs
/-! ### gate.Missing -/
/-! ### gate.Ambiguous -/
abbrev gate_Ambiguous_a : Ty := .pair t35 .unit
abbrev gate_Ambiguous_r : Ty := .pair t90 (.pair t29 .unit)
noncomputable def gate_Ambiguous_g : G := { T := T, E := [gate_CheckChart_e, gate_Chart_leaves_e, gate_Chart_picked_e, gate_Ambiguous_1_e], muts := [], fz := [] }
def gate_Ambiguous_k : List (List Nat) := []
noncomputable def gate_Ambiguous_an (n : Nat) : Ann := { keep := gate_Ambiguous_k, fuel := n, inl := [], deep := 0 }
noncomputable def gate_Ambiguous_m (n : Nat) (c : Cha) : Option (List Cas × Int × Unit) :=
  (Option.bind (Go.Tw.gate_CheckChart_M c) fun (v0 : Int × Unit) => (bif v0.fst != (0 : Int) then Option.some ([], v0.fst, ()) else (Option.bind (Go.Tw.gate_Chart_leaves_M c) fun (v1 : List Int × Unit) => (Option.bind (Go.Tw.gate_Chart_picked_M c v1.fst fun (x : Cas × (Int × Bool × Bool × Unit) × Unit) => Go.Tw.gate_Ambiguous_1_M x.fst x.snd.fst) fun (v2 : List Go.Tw.Cas × Unit) => Option.some (v2.fst, (0 : Int), ())))))

theorem gate_Ambiguous_eq (n : Nat) (x : gate_Ambiguous_a.den) : runF gate_Ambiguous_g (gate_Ambiguous_an n) Tryz.f52 gate_Ambiguous_a gate_Ambiguous_r x = gate_Ambiguous_m n x.1 := by kernel_rfl

noncomputable def gate_Ambiguous_M (c : Cha) : Option (List Cas × Int × Unit) := gate_Ambiguous_m 0 c

theorem gate_Ambiguous_run (c : Cha) (y : List Cas × Int × Unit) (h : gate_Ambiguous_M c = some y) : ∃ n, gate_Ambiguous_m n c = some y := ⟨0, h⟩
noncomputable def gate_Ambiguous_e : Entry := { f := 52, args := gate_Ambiguous_a, ress := gate_Ambiguous_r, m := fun x => gate_Ambiguous_M x.1 }
theorem gate_Ambiguous_ok : FnOK Tryz.prog gate_Ambiguous_e := fn_ok (g := gate_Ambiguous_g) (fn := Tryz.f52) hmixed tabOk (eCons gate_CheckChart_ok (eCons gate_Chart_leaves_ok (eCons gate_Chart_picked_ok (eCons gate_Ambiguous_1_ok eNil)))) (by kernel_rfl) (by kernel_rfl) (by kernel_rfl) (fun x y h => let ⟨n, hn⟩ := gate_Ambiguous_run x.1 y h; ⟨gate_Ambiguous_an n, iNil, (gate_Ambiguous_eq n x).trans hn⟩)

noncomputable def il145 : Inl := { f := 145, fn := Tryz.f145, keep := [[1, 5, 8, 9, 10]], muts := [5], fz := [] }
theorem il145_ok : InlOK Tryz.prog il145 := ⟨by kernel_rfl, by kernel_rfl, fun e0 h => by cases (show (none : Option LibK) = some e0 from h)⟩
noncomputable def il147 : Inl := { f := 147, fn := Tryz.f147, lib := some (.sort) }
theorem il147_ok : InlOK Tryz.prog il147 := ⟨by kernel_rfl, by kernel_rfl, fun e0 h => by cases (show some (.sort : LibK) = some e0 from h); exact sort147⟩
/-! ### (gate.Chart).reachable -/
abbrev gate_Chart_reachable_a : Ty := .pair t35 .unit
abbrev gate_Chart_reachable_r : Ty := .pair t28 .unit
noncomputable def gate_Chart_reachable_g : G := { T := T, E := [gate_Chart_paths_e, gate_Chart_reachable_1_e], muts := [], fz := [] }
def gate_Chart_reachable_k : List (List Nat) := []
noncomputable def gate_Chart_reachable_an (n : Nat) : Ann := { keep := gate_Chart_reachable_k, fuel := n, inl := [il145, il147], deep := 3 }
noncomputable def gate_Chart_reachable_m_l1 (n : Nat) (r1 : List Pth → Int → Int → List Int → Cha → Cha → Cha → List Pth → Option (List Int × Unit)) (t8_1 : List Pth) (t9_1 : Int) (t10_1 : Int) (c0_1 : List Int) (k0_1 : Cha) (k1_1 : Cha) (k4_1 : Cha) (k5_1 : List Pth) : Option (List Int × Unit) :=
  (bif Decidable.decide (t10_1 < t9_1) then (Option.bind (Go.Vx.idx t8_1 t10_1) fun (v2 : Pth) => (bif Decidable.decide (c0_1.length + (1 : Nat) ≤ Go.Vx.memMax) then r1 t8_1 t9_1 (Go.IntKind.i64.wrap (t10_1 + (1 : Int))) (c0_1 ++ [(Go.Tw.gate_Chart_reachable_1 (v2.fst, v2.snd.fst, ())).fst]) k0_1 k1_1 k4_1 k5_1 else none)) else (bif Decidable.decide (c0_1.length ≤ Go.Vx.memMax) then Option.some (Go.Vx.sortI c0_1, ()) else none))

noncomputable def gate_Chart_reachable_m_w1 (n : Nat)  (k : Nat) (t8_1 : List Pth) (t9_1 : Int) (t10_1 : Int) (c0_1 : List Int) (k0_1 : Cha) (k1_1 : Cha) (k4_1 : Cha) (k5_1 : List Pth) : Option (List Int × Unit) :=
  iter (fun r y => gate_Chart_reachable_m_l1 n (fun t8_1 t9_1 t10_1 c0_1 k0_1 k1_1 k4_1 k5_1 => r (((), (t8_1, (t9_1, (t10_1, ())))), ((c0_1, ()), (k0_1, (k1_1, (k4_1, (k5_1, ()))))))) y.1.2.1 y.1.2.2.1 y.1.2.2.2.1 y.2.1.1 y.2.2.1 y.2.2.2.1 y.2.2.2.2.1 y.2.2.2.2.2.1) k (((), (t8_1, (t9_1, (t10_1, ())))), ((c0_1, ()), (k0_1, (k1_1, (k4_1, (k5_1, ()))))))

noncomputable def gate_Chart_reachable_m (n : Nat) (c : Cha) : Option (List Int × Unit) :=
  (Option.bind (Go.Tw.gate_Chart_paths_M c) fun (v0 : List Go.Tw.Pth × Unit) => (gate_Chart_reachable_m_w1 n n (v0.fst) ((↑v0.fst.length : Int)) ((0 : Int)) ([]) (c) (c) (c) (v0.fst)))

theorem gate_Chart_reachable_eq (n : Nat) (x : gate_Chart_reachable_a.den) : runF gate_Chart_reachable_g (gate_Chart_reachable_an n) Tryz.f117 gate_Chart_reachable_a gate_Chart_reachable_r x = gate_Chart_reachable_m n x.1 := by kernel_rfl

noncomputable def gate_Chart_reachable_b1 (t8_1 : List Pth) (k0_1 : Cha) (k1_1 : Cha) (k4_1 : Cha) (k5_1 : List Pth) (t10_1 : Int) (v2 : Pth) (c0_1 : List Int) : Option ((List Int × Unit) ⊕ (List Int)) :=
  (bif Decidable.decide (c0_1.length + (1 : Nat) ≤ Go.Vx.memMax) then (some (Sum.inr (c0_1 ++ [(Go.Tw.gate_Chart_reachable_1 (v2.fst, v2.snd.fst, ())).fst]))) else none)

noncomputable def gate_Chart_reachable_f1 (t8_1 : List Pth) (k0_1 : Cha) (k1_1 : Cha) (k4_1 : Cha) (k5_1 : List Pth) (c0_1 : List Int) : Option (List Int × Unit) :=
  (bif Decidable.decide (c0_1.length ≤ Go.Vx.memMax) then (some ((Go.Vx.sortI c0_1, ()))) else none)

theorem gate_Chart_reachable_m_w1_le (n : Nat) (hn : big ≤ n)  (t8_1 : List Pth) (k0_1 : Cha) (k1_1 : Cha) (k4_1 : Cha) (k5_1 : List Pth) (c0_1 : List Int) (hx : List.length (t8_1) < lenMax) : LeF some (loopL (fun i__ e__ s__ => gate_Chart_reachable_b1 t8_1 k0_1 k1_1 k4_1 k5_1 i__ e__ s__) (fun s__ => gate_Chart_reachable_f1 t8_1 k0_1 k1_1 k4_1 k5_1 s__) 0 (t8_1) c0_1) (gate_Chart_reachable_m_w1 n n t8_1 (List.length (t8_1) : Int) 0 c0_1 k0_1 k1_1 k4_1 k5_1) := by
  refine loopL_le (f := some) (W := fun k__ i__ s__ => gate_Chart_reachable_m_w1 n k__ t8_1 (List.length (t8_1) : Int) i__ s__ k0_1 k1_1 k4_1 k5_1) (body := (fun i__ e__ s__ => gate_Chart_reachable_b1 t8_1 k0_1 k1_1 k4_1 k5_1 i__ e__ s__)) (fin := (fun s__ => gate_Chart_reachable_f1 t8_1 k0_1 k1_1 k4_1 k5_1 s__)) (fun k__ i__ s__ => ?_) hx c0_1 n (by unfold big at hn; unfold lenMax at hx; omega)
  show LeF _ _ (gate_Chart_reachable_m_l1 n (gate_Chart_reachable_m_w1 n k__) t8_1 (List.length (t8_1) : Int) i__ s__ k0_1 k1_1 k4_1 k5_1)
  exact leCond (leBind fun v2 => (leCond (leSome rfl) leNone)) (leMap (leCond (leSome rfl) leNone))

noncomputable def gate_Chart_reachable_M (c : Cha) : Option (List Int × Unit) :=
  (Option.bind (Go.Tw.gate_Chart_paths_M c) fun (v0 : List Go.Tw.Pth × Unit) => (bif decide (List.length (v0.fst) < lenMax) then loopL (fun i__ e__ s__ => gate_Chart_reachable_b1 (v0.fst) (c) (c) (c) (v0.fst) i__ e__ s__) (fun s__ => gate_Chart_reachable_f1 (v0.fst) (c) (c) (c) (v0.fst) s__) 0 (v0.fst) ([]) else none))

theorem gate_Chart_reachable_run (c : Cha) (y : List Int × Unit) (h : gate_Chart_reachable_M c = some y) : ∃ n, gate_Chart_reachable_m n c = some y :=
  ⟨big, LeF.top (show LeF some (gate_Chart_reachable_M c) (gate_Chart_reachable_m big c) from (fun (n : Nat) (hn : big ≤ n) => show LeF some (gate_Chart_reachable_M c) (gate_Chart_reachable_m n c) from (leBind fun v0 => (leGuard fun hx => by apply gate_Chart_reachable_m_w1_le n hn; exact hx))) big (Nat.le_refl _)) h⟩
noncomputable def gate_Chart_reachable_e : Entry := { f := 117, args := gate_Chart_reachable_a, ress := gate_Chart_reachable_r, m := fun x => gate_Chart_reachable_M x.1 }
theorem gate_Chart_reachable_ok : FnOK Tryz.prog gate_Chart_reachable_e := fn_ok (g := gate_Chart_reachable_g) (fn := Tryz.f117) hmixed tabOk (eCons gate_Chart_paths_ok (eCons gate_Chart_reachable_1_ok eNil)) (by kernel_rfl) (by kernel_rfl) (by kernel_rfl) (fun x y h => let ⟨n, hn⟩ := gate_Chart_reachable_run x.1 y h; ⟨gate_Chart_reachable_an n, (iCons il145_ok (iCons il147_ok iNil)), (gate_Chart_reachable_eq n x).trans hn⟩)

end Go.Tw
end

section
set_option linter.all false
set_option maxRecDepth 1000000
namespace Go.Tw
open Go.Vx Go.Vx.B Go.Proofs
/-! ### gate.Reachable -/
abbrev gate_Reachable_a : Ty := .pair t35 .unit
abbrev gate_Reachable_r : Ty := .pair t28 (.pair t29 .unit)
noncomputable def gate_Reachable_g : G := { T := T, E := [gate_CheckChart_e, gate_Chart_reachable_e], muts := [], fz := [] }
def gate_Reachable_k : List (List Nat) := []
noncomputable def gate_Reachable_an (n : Nat) : Ann := { keep := gate_Reachable_k, fuel := n, inl := [], deep := 0 }
noncomputable def gate_Reachable_m (n : Nat) (c : Cha) : Option (List Int × Int × Unit) :=
  (Option.bind (Go.Tw.gate_CheckChart_M c) fun (v0 : Int × Unit) => (bif v0.fst != (0 : Int) then Option.some ([], v0.fst, ()) else (Option.bind (Go.Tw.gate_Chart_reachable_M c) fun (v1 : List Int × Unit) => Option.some (v1.fst, (0 : Int), ()))))

theorem gate_Reachable_eq (n : Nat) (x : gate_Reachable_a.den) : runF gate_Reachable_g (gate_Reachable_an n) Tryz.f53 gate_Reachable_a gate_Reachable_r x = gate_Reachable_m n x.1 := by kernel_rfl

noncomputable def gate_Reachable_M (c : Cha) : Option (List Int × Int × Unit) := gate_Reachable_m 0 c

theorem gate_Reachable_run (c : Cha) (y : List Int × Int × Unit) (h : gate_Reachable_M c = some y) : ∃ n, gate_Reachable_m n c = some y := ⟨0, h⟩
noncomputable def gate_Reachable_e : Entry := { f := 53, args := gate_Reachable_a, ress := gate_Reachable_r, m := fun x => gate_Reachable_M x.1 }
theorem gate_Reachable_ok : FnOK Tryz.prog gate_Reachable_e := fn_ok (g := gate_Reachable_g) (fn := Tryz.f53) hmixed tabOk (eCons gate_CheckChart_ok (eCons gate_Chart_reachable_ok eNil)) (by kernel_rfl) (by kernel_rfl) (by kernel_rfl) (fun x y h => let ⟨n, hn⟩ := gate_Reachable_run x.1 y h; ⟨gate_Reachable_an n, iNil, (gate_Reachable_eq n x).trans hn⟩)

/-! ### gate.Against -/
abbrev gate_Against_a : Ty := .pair t35 .unit
abbrev gate_Against_r : Ty := .pair t90 (.pair t29 .unit)
noncomputable def gate_Against_g : G := { T := T, E := [gate_CheckChart_e, gate_Against_1_e, gate_Chart_reachable_e, gate_Chart_picked_e], muts := [], fz := [] }
def gate_Against_k : List (List Nat) := []
noncomputable def gate_Against_an (n : Nat) : Ann := { keep := gate_Against_k, fuel := n, inl := [], deep := 0 }
noncomputable def gate_Against_m (n : Nat) (c : Cha) : Option (List Cas × Int × Unit) :=
  (Option.bind (Go.Tw.gate_CheckChart_M c) fun (v0 : Int × Unit) => (bif v0.fst != (0 : Int) then Option.some ([], v0.fst, ()) else (Option.bind (Go.Tw.gate_Chart_reachable_M c) fun (v1 : List Int × Unit) => (Option.bind (Go.Tw.gate_Chart_picked_M c v1.fst fun (x : Cas × (Int × Bool × Bool × Unit) × Unit) => Go.Tw.gate_Against_1_M x.fst x.snd.fst c) fun (v2 : List Go.Tw.Cas × Unit) => Option.some (v2.fst, (0 : Int), ())))))

theorem gate_Against_eq (n : Nat) (x : gate_Against_a.den) : runF gate_Against_g (gate_Against_an n) Tryz.f54 gate_Against_a gate_Against_r x = gate_Against_m n x.1 := by kernel_rfl

noncomputable def gate_Against_M (c : Cha) : Option (List Cas × Int × Unit) := gate_Against_m 0 c

theorem gate_Against_run (c : Cha) (y : List Cas × Int × Unit) (h : gate_Against_M c = some y) : ∃ n, gate_Against_m n c = some y := ⟨0, h⟩
noncomputable def gate_Against_e : Entry := { f := 54, args := gate_Against_a, ress := gate_Against_r, m := fun x => gate_Against_M x.1 }
theorem gate_Against_ok : FnOK Tryz.prog gate_Against_e := fn_ok (g := gate_Against_g) (fn := Tryz.f54) hmixed tabOk (eCons gate_CheckChart_ok (eCons gate_Against_1_ok (eCons gate_Chart_reachable_ok (eCons gate_Chart_picked_ok eNil)))) (by kernel_rfl) (by kernel_rfl) (by kernel_rfl) (fun x y h => let ⟨n, hn⟩ := gate_Against_run x.1 y h; ⟨gate_Against_an n, iNil, (gate_Against_eq n x).trans hn⟩)

end Go.Tw
end

section
set_option linter.all false
set_option maxRecDepth 1000000
namespace Go.Tw
open Go.Vx Go.Vx.B Go.Proofs
/-! ### tidewaylaw06.awake -/
abbrev law06_awake_a : Ty := .unit
abbrev law06_awake_r : Ty := .pair t4 .unit
noncomputable def law06_awake_g : G := { T := T, E := [law06_door_e, gate_Leaves_e, gate_Start_e, gate_Events_e, gate_Run_e, gate_Step_e, gate_Reachable_e, gate_Trace_e, gate_Against_e, gate_Ambiguous_e, ref01_SameInts_e, ref01_SameWords_e, law06_inputs_e, ref06_SameInputs_e, gate_Execute_e, gate_Lost_e, gate_Vote_e, gate_Weak_e, law06_failures_e, ref06_SameFailures_e], muts := [19], fz := [85] }
def law06_awake_k : List (List Nat) := []
noncomputable def law06_awake_an (n : Nat) : Ann := { keep := law06_awake_k, fuel := n, inl := [], deep := 0 }
noncomputable def law06_awake_m (n : Nat)  : Option (Bool × Unit) :=
  (Option.bind (Go.Tw.gate_Leaves_M Go.Tw.law06_door.fst) fun (v0 : List Int × Int × Unit) => (Option.bind (Go.Tw.gate_Start_M Go.Tw.law06_door.fst) fun (v1 : Int × Int × Unit) => (Option.bind (Go.Tw.gate_Events_M Go.Tw.law06_door.fst) fun (v2 : List (List UInt8) × Int × Unit) => (Option.bind (Go.Tw.gate_Run_M Go.Tw.law06_door.fst [([(99 : UInt8), (108 : UInt8), (111 : UInt8), (115 : UInt8), (101 : UInt8)], (0 : Int), ()), ([(100 : UInt8), (111 : UInt8), (110 : UInt8), (101 : UInt8)], (0 : Int), ()), ([(99 : UInt8), (108 : UInt8), (111 : UInt8), (115 : UInt8), (101 : UInt8)], (0 : Int), ()), ([(102 : UInt8), (97 : UInt8), (105 : UInt8), (108 : UInt8)], (0 : Int), ())]) fun (v3 : List Int × Int × Unit) => (Option.bind (Go.Tw.gate_Step_M Go.Tw.law06_door.fst (1 : Int) ([(99 : UInt8), (108 : UInt8), (111 : UInt8), (115 : UInt8), (101 : UInt8)], (1 : Int), ())) fun (v4 : Int × Int × Unit) => (Option.bind (Go.Tw.gate_Reachable_M Go.Tw.law06_door.fst) fun (v5 : List Int × Int × Unit) => (Option.bind (Go.Tw.gate_Trace_M Go.Tw.law06_door.fst [(3 : Int)]) fun (v6 : List (List UInt8 × Int × Unit) × Int × Unit) => (Option.bind (Go.Tw.gate_Against_M Go.Tw.law06_door.fst) fun (v7 : List Go.Tw.Cas × Int × Unit) => (Option.bind (Go.Tw.gate_Ambiguous_M Go.Tw.law06_door.fst) fun (v8 : List Go.Tw.Cas × Int × Unit) => (Option.bind (Go.Tw.gate_Ambiguous_M (Go.Tw.doorV.fst, [((1 : Int), [(99 : UInt8), (108 : UInt8), (111 : UInt8), (115 : UInt8), (101 : UInt8)], (2 : Int), (1 : Int), (0 : Int), ()), ((2 : Int), [(100 : UInt8), (111 : UInt8), (110 : UInt8), (101 : UInt8)], (3 : Int), (0 : Int), (0 : Int), ()), ((3 : Int), [(111 : UInt8), (112 : UInt8), (101 : UInt8), (110 : UInt8)], (1 : Int), (0 : Int), (0 : Int), ()), ((0 : Int), [(102 : UInt8), (97 : UInt8), (105 : UInt8), (108 : UInt8)], (4 : Int), (0 : Int), (0 : Int), ()), ((2 : Int), [(100 : UInt8), (111 : UInt8), (110 : UInt8), (101 : UInt8)], (4 : Int), (0 : Int), (0 : Int), ())], ())) fun (v9 : List Go.Tw.Cas × Int × Unit) => (bif Go.IntKind.i64.wrap (Go.IntKind.i64.wrap (Go.IntKind.i64.wrap (Go.IntKind.i64.wrap (Go.IntKind.i64.wrap (Go.IntKind.i64.wrap (Go.IntKind.i64.wrap (Go.IntKind.i64.wrap (Go.IntKind.i64.wrap (v0.snd.fst + v1.snd.fst) + v2.snd.fst) + v3.snd.fst) + v4.snd.fst) + v5.snd.fst) + v6.snd.fst) + v7.snd.fst) + v8.snd.fst) + v9.snd.fst) != (0 : Int) then Option.some (Bool.false, ()) else (Option.bind (Go.Tw.ref01_SameInts_M v0.fst [(1 : Int), (2 : Int), (3 : Int), (4 : Int)]) fun (v10 : Bool × Unit) => (bif !v10.fst then Option.some (Bool.false, ()) else (bif v1.fst != (1 : Int) then Option.some (Bool.false, ()) else (Option.bind (Go.Tw.ref01_SameWords_M v2.fst [[(99 : UInt8), (108 : UInt8), (111 : UInt8), (115 : UInt8), (101 : UInt8)], [(100 : UInt8), (111 : UInt8), (110 : UInt8), (101 : UInt8)], [(111 : UInt8), (112 : UInt8), (101 : UInt8), (110 : UInt8)], [(102 : UInt8), (97 : UInt8), (105 : UInt8), (108 : UInt8)]]) fun (v11 : Bool × Unit) => (bif !v11.fst then Option.some (Bool.false, ()) else (Option.bind (Go.Tw.ref01_SameInts_M v3.fst [(2 : Int), (3 : Int), (3 : Int), (4 : Int)]) fun (v12 : Bool × Unit) => (bif !v12.fst then Option.some (Bool.false, ()) else (bif v4.fst != (1 : Int) then Option.some (Bool.false, ()) else (Option.bind (Go.Tw.ref01_SameInts_M v5.fst v0.fst) fun (v13 : Bool × Unit) => (bif !v13.fst then Option.some (Bool.false, ()) else (Option.bind (Go.Tw.law06_inputs_M v6.fst) fun (v14 : List (List UInt8 × Int × Unit) × Unit) => (Option.bind (Go.Tw.ref06_SameInputs_M v14.fst [([(99 : UInt8), (108 : UInt8), (111 : UInt8), (115 : UInt8), (101 : UInt8)], (0 : Int), ()), ([(100 : UInt8), (111 : UInt8), (110 : UInt8), (101 : UInt8)], (0 : Int), ())]) fun (v15 : Bool × Unit) => (bif !v15.fst then Option.some (Bool.false, ()) else (bif (↑v7.fst.length : Int) != (16 : Int) then Option.some (Bool.false, ()) else (Option.bind (Go.Vx.idx v7.fst (0 : Int)) fun (v16 : Cas) => (bif !Go.Vx.eqV ((Go.Vx.Ty.int Go.IntKind.i64).pair (Go.Vx.Ty.str.pair ((Go.Vx.Ty.int Go.IntKind.i64).pair Go.Vx.Ty.unit))) v16 ((2 : Int), [(99 : UInt8), (108 : UInt8), (111 : UInt8), (115 : UInt8), (101 : UInt8)], (1 : Int), ()) then Option.some (Bool.false, ()) else (Option.bind (Go.Vx.idx v7.fst (15 : Int)) fun (v17 : Cas) => (bif !Go.Vx.eqV ((Go.Vx.Ty.int Go.IntKind.i64).pair (Go.Vx.Ty.str.pair ((Go.Vx.Ty.int Go.IntKind.i64).pair Go.Vx.Ty.unit))) v17 ((2 : Int), [(111 : UInt8), (112 : UInt8), (101 : UInt8), (110 : UInt8)], (15 : Int), ()) then Option.some (Bool.false, ()) else (bif (↑v8.fst.length : Int) != (0 : Int) then Option.some (Bool.false, ()) else (bif (↑v9.fst.length : Int) != (16 : Int) then Option.some (Bool.false, ()) else (Option.bind (Go.Vx.idx v9.fst (0 : Int)) fun (v18 : Cas) => (bif !Go.Vx.eqV ((Go.Vx.Ty.int Go.IntKind.i64).pair (Go.Vx.Ty.str.pair ((Go.Vx.Ty.int Go.IntKind.i64).pair Go.Vx.Ty.unit))) v18 ((2 : Int), [(100 : UInt8), (111 : UInt8), (110 : UInt8), (101 : UInt8)], (0 : Int), ()) then Option.some (Bool.false, ()) else (Option.bind (Go.Tw.gate_Execute_M [((2 : Int), (0 : Int), [(100 : UInt8), (111 : UInt8), (110 : UInt8), (101 : UInt8)], ()), ((1 : Int), (1 : Int), [(99 : UInt8), (108 : UInt8), (111 : UInt8), (115 : UInt8), (101 : UInt8)], ()), ((1 : Int), (0 : Int), [(99 : UInt8), (108 : UInt8), (111 : UInt8), (115 : UInt8), (101 : UInt8)], ()), ((4 : Int), (1 : Int), [(111 : UInt8), (112 : UInt8), (101 : UInt8), (110 : UInt8)], ())]) fun (v45 : List (List UInt8) × Int × Int × Unit) => (Option.bind (Go.Tw.gate_Lost_M [((2 : Int), (0 : Int), [(100 : UInt8), (111 : UInt8), (110 : UInt8), (101 : UInt8)], ()), ((1 : Int), (1 : Int), [(99 : UInt8), (108 : UInt8), (111 : UInt8), (115 : UInt8), (101 : UInt8)], ()), ((4 : Int), (1 : Int), [(111 : UInt8), (112 : UInt8), (101 : UInt8), (110 : UInt8)], ())] (4 : Int)) fun (v46 : List Int × Int × Unit) => (Option.bind (Go.Tw.gate_Vote_M [(10 : Int), (10 : Int), (12 : Int)]) fun (v47 : Int × Int × Unit) => (Option.bind (Go.Tw.gate_Vote_M [(10 : Int), (12 : Int)]) fun (v48 : Int × Int × Unit) => (Option.bind (Go.Tw.gate_Weak_M Go.Tw.law06_door.fst [([(99 : UInt8), (108 : UInt8), (111 : UInt8), (115 : UInt8), (101 : UInt8)], (0 : Int), ()), ([(100 : UInt8), (111 : UInt8), (110 : UInt8), (101 : UInt8)], (0 : Int), ())] ([(3 : Int)], [(4 : Int)], (2 : Int), (1 : Int), ())) fun (v49 : List Go.Tw.Fai × Int × Unit) => (bif Go.IntKind.i64.wrap (Go.IntKind.i64.wrap (Go.IntKind.i64.wrap (v45.snd.snd.fst + v46.snd.fst) + v47.snd.fst) + v49.snd.fst) == (0 : Int) then (bif v48.snd.fst == (7 : Int) then (Option.bind (Go.Tw.ref01_SameWords_M v45.fst [[(99 : UInt8), (108 : UInt8), (111 : UInt8), (115 : UInt8), (101 : UInt8)], [(100 : UInt8), (111 : UInt8), (110 : UInt8), (101 : UInt8)]]) fun (v50 : Bool × Unit) => (bif v50.fst then (bif v45.snd.fst == (3 : Int) then (Option.bind (Go.Tw.ref01_SameInts_M v46.fst [(3 : Int)]) fun (v51 : Bool × Unit) => (bif v51.fst then (bif v47.fst == (10 : Int) then (Option.bind (Go.Tw.law06_failures_M v49.fst) fun (v52 : List Go.Tw.Fai × Unit) => (Option.bind (Go.Tw.ref06_SameFailures_M v52.fst [([(108 : UInt8), (111 : UInt8), (115 : UInt8), (116 : UInt8)], (0 : Int), (0 : Int), (0 : Int), ()), ([(115 : UInt8), (116 : UInt8), (117 : UInt8), (99 : UInt8), (107 : UInt8)], (0 : Int), (0 : Int), (1 : Int), ()), ([(108 : UInt8), (111 : UInt8), (115 : UInt8), (116 : UInt8)], (1 : Int), (0 : Int), (0 : Int), ())]) fun (v53 : Bool × Unit) => Option.some (v53.fst, ()))) else Option.some (Bool.false, ())) else Option.some (Bool.false, ()))) else Option.some (Bool.false, ())) else Option.some (Bool.false, ()))) else Option.some (Bool.false, ())) else Option.some (Bool.false, ()))))))))))))))))))))))))))))))))))))))))

theorem law06_awake_eq (n : Nat) (x : law06_awake_a.den) : runF law06_awake_g (law06_awake_an n) Tryz.f14 law06_awake_a law06_awake_r x = law06_awake_m n := by kernel_rfl

noncomputable def law06_awake_M  : Option (Bool × Unit) := law06_awake_m 0

theorem law06_awake_run  (y : Bool × Unit) (h : law06_awake_M = some y) : ∃ n, law06_awake_m n = some y := ⟨0, h⟩
noncomputable def law06_awake_e : Entry := { f := 14, args := law06_awake_a, ress := law06_awake_r, m := fun x => law06_awake_M }
theorem law06_awake_ok : FnOK Tryz.prog law06_awake_e := fn_ok (g := law06_awake_g) (fn := Tryz.f14) hmixed tabOk (eCons law06_door_ok (eCons gate_Leaves_ok (eCons gate_Start_ok (eCons gate_Events_ok (eCons gate_Run_ok (eCons gate_Step_ok (eCons gate_Reachable_ok (eCons gate_Trace_ok (eCons gate_Against_ok (eCons gate_Ambiguous_ok (eCons ref01_SameInts_ok (eCons ref01_SameWords_ok (eCons law06_inputs_ok (eCons ref06_SameInputs_ok (eCons gate_Execute_ok (eCons gate_Lost_ok (eCons gate_Vote_ok (eCons gate_Weak_ok (eCons law06_failures_ok (eCons ref06_SameFailures_ok eNil)))))))))))))))))))) (by kernel_rfl) (by kernel_rfl) (by kernel_rfl) (fun x y h => let ⟨n, hn⟩ := law06_awake_run y h; ⟨law06_awake_an n, iNil, (law06_awake_eq n x).trans hn⟩)

end Go.Tw
end
