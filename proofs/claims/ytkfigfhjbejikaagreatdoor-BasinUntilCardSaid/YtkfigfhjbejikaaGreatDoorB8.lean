/- Models of the program's functions, by program (gen.py), and what they compute. -/
import Derived.Test.YtkfigfhjbejikaaGreatDoorBT
import Derived.Test.YtkfigfhjbejikaaGreatDoorB0
import Derived.Test.YtkfigfhjbejikaaGreatDoorB1
import Derived.Test.YtkfigfhjbejikaaGreatDoorB2
import Derived.Test.YtkfigfhjbejikaaGreatDoorB3
import Derived.Test.YtkfigfhjbejikaaGreatDoorB4
import Derived.Test.YtkfigfhjbejikaaGreatDoorB5
import Derived.Test.YtkfigfhjbejikaaGreatDoorB6
import Derived.Test.YtkfigfhjbejikaaGreatDoorB7
set_option linter.all false
set_option maxRecDepth 1000000
namespace Go.Tw
open Go.Vx Go.Vx.B Go.Proofs
/-! ### basin.CheckBasin -/
abbrev basin_CheckBasin_a : Ty := .pair t41 .unit
abbrev basin_CheckBasin_r : Ty := .pair t35 .unit
noncomputable def basin_CheckBasin_g : G := { T := T, E := [basin_when_e, basin_first_e, gauge_IsName_e, basin_within_e, basin_CheckBasin_1_e, basin_mapped_basin_Link_api_Errno_e], muts := [23], fz := [] }
def basin_CheckBasin_k : List (List Nat) := [[1, 4, 25, 26, 27]]
noncomputable def basin_CheckBasin_an (n : Nat) : Ann := { keep := basin_CheckBasin_k, fuel := n, inl := [], deep := 0 }
noncomputable def basin_CheckBasin_m_l1 (n : Nat) (r1 : List (List UInt8 × Int × Int × Unit) × List (List UInt8 × Int × Int × Int × Int × Unit) × Unit → List (List UInt8 × Int × Int × Unit) → Int → Int → List (List UInt8 × Bool) → Option (Int × Unit)) (b1_1 : List (List UInt8 × Int × Int × Unit) × List (List UInt8 × Int × Int × Int × Int × Unit) × Unit) (t25_1 : List (List UInt8 × Int × Int × Unit)) (t26_1 : Int) (t27_1 : Int) (m0_1 : List (List UInt8 × Bool)) : Option (Int × Unit) :=
  (bif Decidable.decide (t27_1 < t26_1) then (Option.bind (Go.Vx.idx t25_1 t27_1) fun (v2 : List UInt8 × Int × Int × Unit) => (Option.bind (Go.Tw.gauge_IsName_M v2.fst) fun (v3 : Bool × Unit) => (Option.bind (Go.Tw.basin_first_M [(Go.Tw.basin_when (!v3.fst) (8 : Int)).fst, (Go.Tw.basin_when ((Go.Vx.mapGet Go.Vx.Ty.str Go.Vx.Ty.bool m0_1 v2.fst).getD Bool.false) (9 : Int)).fst, (Go.Tw.basin_within v2.snd.fst (1 : Int) (1000 : Int)).fst, (Go.Tw.basin_within v2.snd.snd.fst (0 : Int) (1024 : Int)).fst]) fun (v4 : Int × Unit) => (bif v4.fst != (0 : Int) then Option.some (v4.fst, ()) else r1 b1_1 t25_1 t26_1 (Go.IntKind.i64.wrap (t27_1 + (1 : Int))) (Go.Vx.mapPut Go.Vx.Ty.str Go.Vx.Ty.bool m0_1 v2.fst Bool.true))))) else (bif Decidable.decide ((↑b1_1.snd.fst.length : Int) > (16 : Int)) then Option.some ((5 : Int), ()) else (Option.bind (Go.Tw.basin_mapped_basin_Link_api_Errno_M b1_1.snd.fst fun (x : (List UInt8 × Int × Int × Int × Int × Unit) × Unit) => Go.Tw.basin_CheckBasin_1_M x.fst b1_1) fun (v5 : List Int × Unit) => (Option.bind (Go.Tw.basin_first_M v5.fst) fun (v6 : Int × Unit) => Option.some (v6.fst, ())))))

noncomputable def basin_CheckBasin_m_w1 (n : Nat)  (k : Nat) (b1_1 : List (List UInt8 × Int × Int × Unit) × List (List UInt8 × Int × Int × Int × Int × Unit) × Unit) (t25_1 : List (List UInt8 × Int × Int × Unit)) (t26_1 : Int) (t27_1 : Int) (m0_1 : List (List UInt8 × Bool)) : Option (Int × Unit) :=
  iter (fun r y => basin_CheckBasin_m_l1 n (fun b1_1 t25_1 t26_1 t27_1 m0_1 => r ((b1_1, (t25_1, (t26_1, (t27_1, ())))), ((m0_1, ()), ()))) y.1.1 y.1.2.1 y.1.2.2.1 y.1.2.2.2.1 y.2.1.1) k ((b1_1, (t25_1, (t26_1, (t27_1, ())))), ((m0_1, ()), ()))
theorem basin_CheckBasin_m_w1_succ (n : Nat)  (k : Nat) (b1_1 : List (List UInt8 × Int × Int × Unit) × List (List UInt8 × Int × Int × Int × Int × Unit) × Unit) (t25_1 : List (List UInt8 × Int × Int × Unit)) (t26_1 : Int) (t27_1 : Int) (m0_1 : List (List UInt8 × Bool)) : basin_CheckBasin_m_w1 n (k + 1) b1_1 t25_1 t26_1 t27_1 m0_1 = basin_CheckBasin_m_l1 n (basin_CheckBasin_m_w1 n k) b1_1 t25_1 t26_1 t27_1 m0_1 := rfl

noncomputable def basin_CheckBasin_m (n : Nat) (b : List (List UInt8 × Int × Int × Unit) × List (List UInt8 × Int × Int × Int × Int × Unit) × Unit) : Option (Int × Unit) :=
  (Option.bind (Go.Tw.basin_first_M [(Go.Tw.basin_when ((↑b.fst.length : Int) == (0 : Int)) (12 : Int)).fst, (Go.Tw.basin_when (Decidable.decide ((↑b.fst.length : Int) > (8 : Int))) (5 : Int)).fst]) fun (v0 : Int × Unit) => (bif v0.fst != (0 : Int) then Option.some (v0.fst, ()) else (basin_CheckBasin_m_w1 n n (b) (b.fst) ((↑b.fst.length : Int)) ((0 : Int)) ([]))))

theorem basin_CheckBasin_eq (n : Nat) (x : basin_CheckBasin_a.den) : runF basin_CheckBasin_g (basin_CheckBasin_an n) Tryz.f39 basin_CheckBasin_a basin_CheckBasin_r x = basin_CheckBasin_m n x.1 := by kernel_rfl

noncomputable def basin_CheckBasin_b1 (b1_1 : List (List UInt8 × Int × Int × Unit) × List (List UInt8 × Int × Int × Int × Int × Unit) × Unit) (t25_1 : List (List UInt8 × Int × Int × Unit)) (t27_1 : Int) (v2 : List UInt8 × Int × Int × Unit) (m0_1 : List (List UInt8 × Bool)) : Option ((Int × Unit) ⊕ (List (List UInt8 × Bool))) :=
  (Option.bind (Go.Tw.gauge_IsName_M v2.fst) fun (v3 : Bool × Unit) => (Option.bind (Go.Tw.basin_first_M [(Go.Tw.basin_when (!v3.fst) (8 : Int)).fst, (Go.Tw.basin_when ((Go.Vx.mapGet Go.Vx.Ty.str Go.Vx.Ty.bool m0_1 v2.fst).getD Bool.false) (9 : Int)).fst, (Go.Tw.basin_within v2.snd.fst (1 : Int) (1000 : Int)).fst, (Go.Tw.basin_within v2.snd.snd.fst (0 : Int) (1024 : Int)).fst]) fun (v4 : Int × Unit) => (bif v4.fst != (0 : Int) then (some (Sum.inl ((v4.fst, ())))) else (some (Sum.inr (Go.Vx.mapPut Go.Vx.Ty.str Go.Vx.Ty.bool m0_1 v2.fst Bool.true))))))

noncomputable def basin_CheckBasin_f1 (b1_1 : List (List UInt8 × Int × Int × Unit) × List (List UInt8 × Int × Int × Int × Int × Unit) × Unit) (t25_1 : List (List UInt8 × Int × Int × Unit)) (m0_1 : List (List UInt8 × Bool)) : Option (Int × Unit) :=
  (bif Decidable.decide ((↑b1_1.snd.fst.length : Int) > (16 : Int)) then (some (((5 : Int), ()))) else (Option.bind (Go.Tw.basin_mapped_basin_Link_api_Errno_M b1_1.snd.fst fun (x : (List UInt8 × Int × Int × Int × Int × Unit) × Unit) => Go.Tw.basin_CheckBasin_1_M x.fst b1_1) fun (v5 : List Int × Unit) => (Option.bind (Go.Tw.basin_first_M v5.fst) fun (v6 : Int × Unit) => (some ((v6.fst, ()))))))

theorem basin_CheckBasin_m_w1_le (n : Nat) (hn : big ≤ n)  (b1_1 : List (List UInt8 × Int × Int × Unit) × List (List UInt8 × Int × Int × Int × Int × Unit) × Unit) (t25_1 : List (List UInt8 × Int × Int × Unit)) (m0_1 : List (List UInt8 × Bool)) (hx : List.length (t25_1) < lenMax) : LeF some (loopL (fun i__ e__ s__ => basin_CheckBasin_b1 b1_1 t25_1 i__ e__ s__) (fun s__ => basin_CheckBasin_f1 b1_1 t25_1 s__) 0 (t25_1) m0_1) (basin_CheckBasin_m_w1 n n b1_1 t25_1 (List.length (t25_1) : Int) 0 m0_1) := by
  refine loopL_le (f := some) (W := fun k__ i__ s__ => basin_CheckBasin_m_w1 n k__ b1_1 t25_1 (List.length (t25_1) : Int) i__ s__) (body := (fun i__ e__ s__ => basin_CheckBasin_b1 b1_1 t25_1 i__ e__ s__)) (fin := (fun s__ => basin_CheckBasin_f1 b1_1 t25_1 s__)) (fun k__ i__ s__ => ?_) hx m0_1 n (by unfold big at hn; unfold lenMax at hx; omega)
  show LeF _ _ (basin_CheckBasin_m_l1 n (basin_CheckBasin_m_w1 n k__) b1_1 t25_1 (List.length (t25_1) : Int) i__ s__)
  exact leCond (leBind fun v2 => (leBind fun v3 => (leBind fun v4 => (leCond (leSome rfl) (leSome rfl))))) (leMap (leCond (leSome rfl) (leBind fun v5 => (leBind fun v6 => (leSome rfl)))))

noncomputable def basin_CheckBasin_M (b : List (List UInt8 × Int × Int × Unit) × List (List UInt8 × Int × Int × Int × Int × Unit) × Unit) : Option (Int × Unit) :=
  (Option.bind (Go.Tw.basin_first_M [(Go.Tw.basin_when ((↑b.fst.length : Int) == (0 : Int)) (12 : Int)).fst, (Go.Tw.basin_when (Decidable.decide ((↑b.fst.length : Int) > (8 : Int))) (5 : Int)).fst]) fun (v0 : Int × Unit) => (bif v0.fst != (0 : Int) then (some ((v0.fst, ()))) else (bif decide (List.length (b.fst) < lenMax) then loopL (fun i__ e__ s__ => basin_CheckBasin_b1 (b) (b.fst) i__ e__ s__) (fun s__ => basin_CheckBasin_f1 (b) (b.fst) s__) 0 (b.fst) ([]) else none)))

theorem basin_CheckBasin_run (b : List (List UInt8 × Int × Int × Unit) × List (List UInt8 × Int × Int × Int × Int × Unit) × Unit) (y : Int × Unit) (h : basin_CheckBasin_M b = some y) : ∃ n, basin_CheckBasin_m n b = some y :=
  ⟨big, LeF.top (show LeF some (basin_CheckBasin_M b) (basin_CheckBasin_m big b) from (fun (n : Nat) (hn : big ≤ n) => show LeF some (basin_CheckBasin_M b) (basin_CheckBasin_m n b) from (leBind fun v0 => (leCond (leSome rfl) (leGuard fun hx => by apply basin_CheckBasin_m_w1_le n hn; exact hx)))) big (Nat.le_refl _)) h⟩
noncomputable def basin_CheckBasin_e : Entry := { f := 39, args := basin_CheckBasin_a, ress := basin_CheckBasin_r, m := fun x => basin_CheckBasin_M x.1 }
theorem basin_CheckBasin_ok : FnOK Tryz.prog basin_CheckBasin_e := fn_ok (g := basin_CheckBasin_g) (fn := Tryz.f39) hmixed tabOk (eCons basin_when_ok (eCons basin_first_ok (eCons gauge_IsName_ok (eCons basin_within_ok (eCons basin_CheckBasin_1_ok (eCons basin_mapped_basin_Link_api_Errno_ok eNil)))))) (by kernel_rfl) (by kernel_rfl) (by kernel_rfl) (fun x y h => let ⟨n, hn⟩ := basin_CheckBasin_run x.1 y h; ⟨basin_CheckBasin_an n, iNil, (basin_CheckBasin_eq n x).trans hn⟩)

end Go.Tw
