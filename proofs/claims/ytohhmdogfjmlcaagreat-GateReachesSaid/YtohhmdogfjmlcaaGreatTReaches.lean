/- For every chart, of whatever size: tidewaylaw06.GateReaches answers true, and what came in reads as before. No conditions. -/
import Derived.Test.YtohhmdogfjmlcaaGreatT0
import Derived.Test.YtohhmdogfjmlcaaGreatP21

set_option linter.all false
set_option maxRecDepth 100000
namespace Go.Proofs.YtohhmdogfjmlcaaGreat.tGateReaches
open Go.ChangeShapes Go.WideShapes Go.ChangeAt Go.RowKit Go.Vx Go.Vx.B Go.Proofs.YtohhmdogfjmlcaaGreat.rows

def ts : List (TypeId × Ty) := [(25, t25)]

/-- WHAT THE LAW's CONTRACT GIVES, for every argument and every world that holds the tables. -/
theorem contract (H : Type) (enc : TypeId × Value → H) (W : World) (base : Nat) (args : Array Value) (ds gs : List (DataW H)) (before : List MemPlace)
    (hval : ∀ (j : Nat) t v, Tryz.f11.params[j]? = some t → args[j]? = some v → Value.okWide Tryz.prog W .any base t v)
    (hW : DataW.Whole enc Tryz.prog Tryz.f11.params.toList Rows.gateReachesSpec.vars false W args.toList ds gs before) (hL : laidMetH Tryz.prog Rows.gateReachesRow.laid W) :
    Calls Tryz.prog 11 args W fun e W' => ∃ v, e = .returned v ∧ Rows.gateReachesSpec.post enc Tryz.prog Tryz.f11 false true false false W args v W' :=
  law_row (ts := ts) (f := 11) (m := fun x => Go.Tw.zg_M x.1) (tb := 4) Go.Tw.zg_ok (by kernel_rfl) (by kernel_rfl) Tryz.underlying4 (by unfold ts; intro q hq; simp only [List.mem_cons, List.not_mem_nil, or_false] at hq; rcases hq with rfl <;> kernel_rfl)
    (by kernel_rfl) (by unfold ts; intro q hq; simp only [List.mem_cons, List.not_mem_nil, or_false] at hq; rcases hq with rfl <;> exact ⟨by kernel_rfl, of_decide_eq_true (by kernel_rfl)⟩) rfl
    (fun ds hd => by
      match ds, hd with
      | [d1], _ => rfl)
    (fun x hw => Go.Tw.gateReaches_law x.1) W base args ds gs before hval hW (glob hL)

def wargs : Array Value := #[.agg #[.slice none 0 0, .slice none 0 0]]
theorem laid_met (os : Os) : laidMet Tryz.prog Rows.gateReachesRow.laid ((laidWorld os).forCall (fun _ _ => 0) ⟨#[], wargs, []⟩).memory :=
  laidMet_of_run' 8 (by kernel_rfl) (by kernel_rfl)
def wds (H : Type) : List (DataW H) := [.agg [.nil, .nil]]
theorem reads (os : Os) {H : Type} (enc : TypeId × Value → H) : ∃ places, DataW.whole enc Tryz.prog ((laidWorld os).forCall (fun _ _ => 0) ⟨#[], wargs, []⟩).memory Tryz.f11.params.toList Rows.gateReachesSpec.vars false wargs.toList 8 = some (wds H, [], places) :=
  ⟨[], by kernel_rfl⟩

theorem lifted (os : Os) (started : os.Started) (H : Type) (enc : TypeId × Value → H) (F : Stop.Interp) :
    ReturnsInHanded {} Tryz.checked os 11 .any ((OpenSpec.ofChange Rows.gateReachesSpec).preRow enc Tryz.prog Tryz.f11 Rows.gateReachesRow.domain false Rows.gateReachesRow.laid) (((OpenSpec.ofChange Rows.gateReachesSpec).at F).post enc Tryz.prog Tryz.f11 false true false false) := by
  obtain ⟨places, hx⟩ := reads os enc
  refine returnsInHanded_of_row (C := Tryz.checked) (s := OpenSpec.ofChange Rows.gateReachesSpec) own started (by kernel_rfl) Tryz.func11
    (witness_row_at (enc := enc) (C := Tryz.checked) false (laidWorld os) wargs rfl (by kernel_rfl) (by kernel_rfl) (by kernel_rfl)
      (OpenSpec.preRow_of_cond 8 hx (by kernel_rfl) (fun k hk => by cases hk) (by kernel_rfl) (laid_met os))) ?_
  intro W base args ds gs before hval hW _ _ _ hL _ _
  exact contract H enc W base args ds gs before hval hW hL

theorem named : Tryz.prog.funcNamed "tideway/tidewaylaw06.GateReaches" = some 11 := by kernel_rfl
theorem c1 : facts1 Tryz.prog 11 Tryz.f11 (OpenSpec.ofChange Rows.gateReachesSpec).bare Rows.gateReachesRow = true := by kernel_rfl
theorem c2 : facts2 Tryz.prog 11 Tryz.f11 (OpenSpec.ofChange Rows.gateReachesSpec).bare Rows.gateReachesRow = true := by kernel_rfl
theorem c3 : facts3 Tryz.prog 11 Tryz.f11 (OpenSpec.ofChange Rows.gateReachesSpec).bare Rows.gateReachesRow = true := by kernel_rfl
theorem c4 : facts4 Tryz.prog 11 Tryz.f11 (OpenSpec.ofChange Rows.gateReachesSpec).bare Rows.gateReachesRow = true := by kernel_rfl
theorem c5 : facts5 Tryz.prog 11 Tryz.f11 (OpenSpec.ofChange Rows.gateReachesSpec).bare Rows.gateReachesRow = true := by kernel_rfl
theorem c6 : facts6 Tryz.prog 11 Tryz.f11 (OpenSpec.ofChange Rows.gateReachesSpec).bare Rows.gateReachesRow = true := by kernel_rfl
theorem c7 : facts7 Tryz.prog 11 Tryz.f11 (OpenSpec.ofChange Rows.gateReachesSpec).bare Rows.gateReachesRow = true := by kernel_rfl
theorem c8 : facts8 Tryz.prog 11 Tryz.f11 (OpenSpec.ofChange Rows.gateReachesSpec).bare Rows.gateReachesRow = true := by kernel_rfl
theorem c9 : facts9 Tryz.prog 11 Tryz.f11 (OpenSpec.ofChange Rows.gateReachesSpec).bare Rows.gateReachesRow = true := by kernel_rfl
theorem inst : Tryz.f11.isInstance Tryz.prog Rows.gateReachesRow.origin Rows.gateReachesRow.targs := of_decide_eq_true (by kernel_rfl)
theorem wrapper : Tryz.f11.isWrapper Tryz.prog Rows.gateReachesRow.wrapper Rows.gateReachesRow.mainSum := by
  unfold Func.isWrapper
  first | (rw [if_pos (by decide +kernel)]; kernel_rfl) | (rw [if_neg (by decide +kernel)]; exact ⟨rfl, rfl⟩)

theorem said : Rows.GateReachesSaid :=
  OpenClaim.holds_of_cond 11 Tryz.f11 rfl rfl rfl rfl rfl rfl rfl ⟨rfl, rfl, rfl, rfl, rfl⟩ rfl rfl rfl rfl rfl named Tryz.func11 (joined_of c1 c2 c3 c4 c5 c6 c7 c8 c9) inst wrapper
    (fun os started H enc _ F => by rw [OpenClaim.pre_eq_preRow]; exact lifted os started H enc F)

end Go.Proofs.YtohhmdogfjmlcaaGreat.tGateReaches
#print axioms Go.Proofs.YtohhmdogfjmlcaaGreat.tGateReaches.said
