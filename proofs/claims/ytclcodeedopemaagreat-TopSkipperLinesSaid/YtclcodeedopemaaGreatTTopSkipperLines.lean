/- For every chart, every script and every pair of numbers, of whatever sizes: tidewaytop.TopSkipperLines answers true, and what came in reads as before. No conditions. -/
import Derived.Test.YtclcodeedopemaaGreatT0
import Derived.Test.YtclcodeedopemaaGreatP30

set_option linter.all false
set_option maxRecDepth 100000
namespace Go.Proofs.YtclcodeedopemaaGreat.tTopSkipperLines
open Go.ChangeShapes Go.WideShapes Go.ChangeAt Go.RowKit Go.Vx Go.Vx.B Go.Proofs.YtclcodeedopemaaGreat.rows

def ts : List (TypeId × Ty) := [(25, t25), (26, t26), (28, t28)]

/-- WHAT THE LAW's CONTRACT GIVES, for every argument and every world that holds the tables. -/
theorem contract (H : Type) (enc : TypeId × Value → H) (W : World) (base : Nat) (args : Array Value) (ds gs : List (DataW H)) (before : List MemPlace)
    (hval : ∀ (j : Nat) t v, Tryz.f3.params[j]? = some t → args[j]? = some v → Value.okWide Tryz.prog W .any base t v)
    (hW : DataW.Whole enc Tryz.prog Tryz.f3.params.toList Rows.topSkipperLinesSpec.vars false W args.toList ds gs before) (hL : laidMetH Tryz.prog Rows.topSkipperLinesRow.laid W) :
    Calls Tryz.prog 3 args W fun e W' => ∃ v, e = .returned v ∧ Rows.topSkipperLinesSpec.post enc Tryz.prog Tryz.f3 false true false false W args v W' :=
  yKG (ts := ts) (f := 3) (m := fun x => Go.Tw.zM_M x.1 x.2.1 x.2.2.1) (tb := 4) Go.Tw.yQo (by kernel_rfl) (by kernel_rfl) Tryz.underlying4 (by unfold ts; intro q hq; simp only [List.mem_cons, List.not_mem_nil, or_false] at hq; rcases hq with rfl | rfl | rfl <;> kernel_rfl)
    (by kernel_rfl) (by unfold ts; intro q hq; simp only [List.mem_cons, List.not_mem_nil, or_false] at hq; rcases hq with rfl | rfl | rfl <;> exact ⟨by kernel_rfl, of_decide_eq_true (by kernel_rfl)⟩) rfl
    (fun ds hd => by
      match ds, hd with
      | [d1, d2, d3], _ => rfl)
    (fun x hw => Go.Tw.yBN x.1 x.2.1 x.2.2.1 (Nat.lt_of_le_of_lt hw.2.1.1 (Nat.lt_of_sub_pos (by decide))) hw.2.2.1.1 (fun y hy => Go.Tw.yQn (hw.2.2.1.2 y hy))) W base args ds gs before hval hW (glob hL)

def yIV : Array Value := #[.agg #[.slice none 0 0, .slice none 0 0], .slice none 0 0, .agg #[.int .u16 0, .int .u16 0]]
theorem yHi (os : Os) : laidMet Tryz.prog Rows.topSkipperLinesRow.laid ((y6x os).forCall (fun _ _ => 0) ⟨#[], yIV, []⟩).memory :=
  laidMet_of_run' 8 (by kernel_rfl) (by kernel_rfl)
def wds (H : Type) : List (DataW H) := [.agg [.nil, .nil], .nil, .agg [.lit (.int .u16 0), .lit (.int .u16 0)]]
theorem reads (os : Os) {H : Type} (enc : TypeId × Value → H) : ∃ places, DataW.whole enc Tryz.prog ((y6x os).forCall (fun _ _ => 0) ⟨#[], yIV, []⟩).memory Tryz.f3.params.toList Rows.topSkipperLinesSpec.vars false yIV.toList 8 = some (wds H, [], places) :=
  ⟨[], by kernel_rfl⟩

theorem lifted (os : Os) (started : os.Started) (H : Type) (enc : TypeId × Value → H) (F : Stop.Interp) :
    ReturnsInHanded {} Tryz.checked os 3 .any ((OpenSpec.ofChange Rows.topSkipperLinesSpec).preRow enc Tryz.prog Tryz.f3 Rows.topSkipperLinesRow.domain false Rows.topSkipperLinesRow.laid) (((OpenSpec.ofChange Rows.topSkipperLinesSpec).at F).post enc Tryz.prog Tryz.f3 false true false false) := by
  obtain ⟨places, hx⟩ := reads os enc
  refine returnsInHanded_of_row (C := Tryz.checked) (s := OpenSpec.ofChange Rows.topSkipperLinesSpec) own started (by kernel_rfl) Tryz.func3
    (witness_row_at (enc := enc) (C := Tryz.checked) false (y6x os) yIV rfl (by kernel_rfl) (by kernel_rfl) (by kernel_rfl)
      (OpenSpec.preRow_of_cond 8 hx (by kernel_rfl) (fun k hk => by cases hk) (by kernel_rfl) (yHi os))) ?_
  intro W base args ds gs before hval hW _ _ _ hL _ _
  exact contract H enc W base args ds gs before hval hW hL

theorem named : Tryz.prog.funcNamed "tideway/tidewaytop.TopSkipperLines" = some 3 := by kernel_rfl
theorem c1 : yFm Tryz.prog 3 Tryz.f3 (OpenSpec.ofChange Rows.topSkipperLinesSpec).bare Rows.topSkipperLinesRow = true := by kernel_rfl
theorem c2 : yG9 Tryz.prog 3 Tryz.f3 (OpenSpec.ofChange Rows.topSkipperLinesSpec).bare Rows.topSkipperLinesRow = true := by kernel_rfl
theorem c3 : yGh Tryz.prog 3 Tryz.f3 (OpenSpec.ofChange Rows.topSkipperLinesSpec).bare Rows.topSkipperLinesRow = true := by kernel_rfl
theorem c4 : yFU Tryz.prog 3 Tryz.f3 (OpenSpec.ofChange Rows.topSkipperLinesSpec).bare Rows.topSkipperLinesRow = true := by kernel_rfl
theorem c5 : yFQ Tryz.prog 3 Tryz.f3 (OpenSpec.ofChange Rows.topSkipperLinesSpec).bare Rows.topSkipperLinesRow = true := by kernel_rfl
theorem c6 : yGT Tryz.prog 3 Tryz.f3 (OpenSpec.ofChange Rows.topSkipperLinesSpec).bare Rows.topSkipperLinesRow = true := by kernel_rfl
theorem c7 : yFE Tryz.prog 3 Tryz.f3 (OpenSpec.ofChange Rows.topSkipperLinesSpec).bare Rows.topSkipperLinesRow = true := by kernel_rfl
theorem c8 : yHE Tryz.prog 3 Tryz.f3 (OpenSpec.ofChange Rows.topSkipperLinesSpec).bare Rows.topSkipperLinesRow = true := by kernel_rfl
theorem c9 : yGe Tryz.prog 3 Tryz.f3 (OpenSpec.ofChange Rows.topSkipperLinesSpec).bare Rows.topSkipperLinesRow = true := by kernel_rfl
theorem inst : Tryz.f3.isInstance Tryz.prog Rows.topSkipperLinesRow.origin Rows.topSkipperLinesRow.targs := of_decide_eq_true (by kernel_rfl)
theorem wrapper : Tryz.f3.isWrapper Tryz.prog Rows.topSkipperLinesRow.wrapper Rows.topSkipperLinesRow.mainSum := by
  unfold Func.isWrapper
  first | (rw [if_pos (by decide +kernel)]; kernel_rfl) | (rw [if_neg (by decide +kernel)]; exact ⟨rfl, rfl⟩)

theorem said : Rows.TopSkipperLinesSaid :=
  OpenClaim.holds_of_cond 3 Tryz.f3 rfl rfl rfl rfl rfl rfl rfl ⟨rfl, rfl, rfl, rfl, rfl⟩ rfl rfl rfl rfl rfl named Tryz.func3 (yG3 c1 c2 c3 c4 c5 c6 c7 c8 c9) inst wrapper
    (fun os started H enc _ F => by rw [OpenClaim.pre_eq_preRow]; exact lifted os started H enc F)

end Go.Proofs.YtclcodeedopemaaGreat.tTopSkipperLines
#print axioms Go.Proofs.YtclcodeedopemaaGreat.tTopSkipperLines.said
