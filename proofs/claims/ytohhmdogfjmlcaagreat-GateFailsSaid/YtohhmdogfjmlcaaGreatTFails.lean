/- For every drill and every pair of numbers: tidewaylaw06.GateFails answers true, and what came in reads as before. No conditions. -/
import Derived.Test.YtohhmdogfjmlcaaGreatT0
import Derived.Test.YtohhmdogfjmlcaaGreatP23

set_option linter.all false
set_option maxRecDepth 100000
namespace Go.Proofs.YtohhmdogfjmlcaaGreat.tGateFails
open Go.ChangeShapes Go.WideShapes Go.ChangeAt Go.RowKit Go.Vx Go.Vx.B Go.Proofs.YtohhmdogfjmlcaaGreat.rows

def ts : List (TypeId × Ty) := [(127, t127), (145, t145)]

/-- WHAT THE LAW's CONTRACT GIVES, for every argument and every world that holds the tables. -/
theorem contract (H : Type) (enc : TypeId × Value → H) (W : World) (base : Nat) (args : Array Value) (ds gs : List (DataW H)) (before : List MemPlace)
    (hval : ∀ (j : Nat) t v, Tryz.f13.params[j]? = some t → args[j]? = some v → Value.okWide Tryz.prog W .any base t v)
    (hW : DataW.Whole enc Tryz.prog Tryz.f13.params.toList Rows.gateFailsSpec.vars false W args.toList ds gs before) (hL : laidMetH Tryz.prog Rows.gateFailsRow.laid W) :
    Calls Tryz.prog 13 args W fun e W' => ∃ v, e = .returned v ∧ Rows.gateFailsSpec.post enc Tryz.prog Tryz.f13 false true false false W args v W' :=
  yMT (ts := ts) (f := 13) (m := fun x => Go.Tw.zz_M x.1 x.2.1) (tb := 4) Go.Tw.yXf (by kernel_rfl) (by kernel_rfl) Tryz.underlying4 (by unfold ts; intro q hq; simp only [List.mem_cons, List.not_mem_nil, or_false] at hq; rcases hq with rfl | rfl <;> kernel_rfl)
    (by kernel_rfl) (by unfold ts; intro q hq; simp only [List.mem_cons, List.not_mem_nil, or_false] at hq; rcases hq with rfl | rfl <;> exact ⟨by kernel_rfl, of_decide_eq_true (by kernel_rfl)⟩) rfl
    (fun ds hd => by
      match ds, hd with
      | [d1, d2], _ => rfl)
    (fun x hw => Go.Tw.yJE x.1 x.2.1 (Nat.lt_of_le_of_lt hw.1.2.1.1 (Nat.lt_of_sub_pos (by decide))) hw.2.1.1 (fun y hy => Go.Tw.yXg (hw.2.1.2 y hy))) W base args ds gs before hval hW (glob hL)

def yKm : Array Value := #[.agg #[.slice none 0 0, .slice none 0 0, .slice none 0 0, .slice none 0 0, .slice none 0 0, .int .i64 0, .int .i64 0], .agg #[.int .u8 0, .int .u8 0]]
theorem yJs (os : Os) : laidMet Tryz.prog Rows.gateFailsRow.laid ((y7S os).forCall (fun _ _ => 0) ⟨#[], yKm, []⟩).memory :=
  laidMet_of_run' 8 (by kernel_rfl) (by kernel_rfl)
def wds (H : Type) : List (DataW H) := [.agg [.agg [.nil, .nil], .nil, .agg [.nil, .nil, .lit (.int .i64 0), .lit (.int .i64 0)]], .agg [.lit (.int .u8 0), .lit (.int .u8 0)]]
theorem reads (os : Os) {H : Type} (enc : TypeId × Value → H) : ∃ places, DataW.whole enc Tryz.prog ((y7S os).forCall (fun _ _ => 0) ⟨#[], yKm, []⟩).memory Tryz.f13.params.toList Rows.gateFailsSpec.vars false yKm.toList 8 = some (wds H, [], places) :=
  ⟨[], by kernel_rfl⟩

theorem lifted (os : Os) (started : os.Started) (H : Type) (enc : TypeId × Value → H) (F : Stop.Interp) :
    ReturnsInHanded {} Tryz.checked os 13 .any ((OpenSpec.ofChange Rows.gateFailsSpec).preRow enc Tryz.prog Tryz.f13 Rows.gateFailsRow.domain false Rows.gateFailsRow.laid) (((OpenSpec.ofChange Rows.gateFailsSpec).at F).post enc Tryz.prog Tryz.f13 false true false false) := by
  obtain ⟨places, hx⟩ := reads os enc
  refine returnsInHanded_of_row (C := Tryz.checked) (s := OpenSpec.ofChange Rows.gateFailsSpec) own started (by kernel_rfl) Tryz.func13
    (witness_row_at (enc := enc) (C := Tryz.checked) false (y7S os) yKm rfl (by kernel_rfl) (by kernel_rfl) (by kernel_rfl)
      (OpenSpec.preRow_of_cond 8 hx (by kernel_rfl) (fun k hk => by cases hk) (by kernel_rfl) (yJs os))) ?_
  intro W base args ds gs before hval hW _ _ _ hL _ _
  exact contract H enc W base args ds gs before hval hW hL

theorem named : Tryz.prog.funcNamed "tideway/tidewaylaw06.GateFails" = some 13 := by kernel_rfl
theorem c1 : yIh Tryz.prog 13 Tryz.f13 (OpenSpec.ofChange Rows.gateFailsSpec).bare Rows.gateFailsRow = true := by kernel_rfl
theorem c2 : yHb Tryz.prog 13 Tryz.f13 (OpenSpec.ofChange Rows.gateFailsSpec).bare Rows.gateFailsRow = true := by kernel_rfl
theorem c3 : yIl Tryz.prog 13 Tryz.f13 (OpenSpec.ofChange Rows.gateFailsSpec).bare Rows.gateFailsRow = true := by kernel_rfl
theorem c4 : yIU Tryz.prog 13 Tryz.f13 (OpenSpec.ofChange Rows.gateFailsSpec).bare Rows.gateFailsRow = true := by kernel_rfl
theorem c5 : yIi Tryz.prog 13 Tryz.f13 (OpenSpec.ofChange Rows.gateFailsSpec).bare Rows.gateFailsRow = true := by kernel_rfl
theorem c6 : yHX Tryz.prog 13 Tryz.f13 (OpenSpec.ofChange Rows.gateFailsSpec).bare Rows.gateFailsRow = true := by kernel_rfl
theorem c7 : yHI Tryz.prog 13 Tryz.f13 (OpenSpec.ofChange Rows.gateFailsSpec).bare Rows.gateFailsRow = true := by kernel_rfl
theorem c8 : yHt Tryz.prog 13 Tryz.f13 (OpenSpec.ofChange Rows.gateFailsSpec).bare Rows.gateFailsRow = true := by kernel_rfl
theorem c9 : yIF Tryz.prog 13 Tryz.f13 (OpenSpec.ofChange Rows.gateFailsSpec).bare Rows.gateFailsRow = true := by kernel_rfl
theorem inst : Tryz.f13.isInstance Tryz.prog Rows.gateFailsRow.origin Rows.gateFailsRow.targs := of_decide_eq_true (by kernel_rfl)
theorem wrapper : Tryz.f13.isWrapper Tryz.prog Rows.gateFailsRow.wrapper Rows.gateFailsRow.mainSum := by
  unfold Func.isWrapper
  first | (rw [if_pos (by decide +kernel)]; kernel_rfl) | (rw [if_neg (by decide +kernel)]; exact ⟨rfl, rfl⟩)

theorem said : Rows.GateFailsSaid :=
  OpenClaim.holds_of_cond 13 Tryz.f13 rfl rfl rfl rfl rfl rfl rfl ⟨rfl, rfl, rfl, rfl, rfl⟩ rfl rfl rfl rfl rfl named Tryz.func13 (yHM c1 c2 c3 c4 c5 c6 c7 c8 c9) inst wrapper
    (fun os started H enc _ F => by rw [OpenClaim.pre_eq_preRow]; exact lifted os started H enc F)

end Go.Proofs.YtohhmdogfjmlcaaGreat.tGateFails
#print axioms Go.Proofs.YtohhmdogfjmlcaaGreat.tGateFails.said
