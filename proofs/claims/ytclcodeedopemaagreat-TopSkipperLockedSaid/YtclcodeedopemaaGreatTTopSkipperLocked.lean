/- For every chart and every script, of whatever sizes: tidewaytop.TopSkipperLocked answers true, and what came in reads as before. No conditions. -/
import Derived.Test.YtclcodeedopemaaGreatT0
import Derived.Test.YtclcodeedopemaaGreatPV

set_option linter.all false
set_option maxRecDepth 100000
namespace Go.Proofs.YtclcodeedopemaaGreat.tTopSkipperLocked
open Go.ChangeShapes Go.WideShapes Go.ChangeAt Go.RowKit Go.Vx Go.Vx.B Go.Proofs.YtclcodeedopemaaGreat.rows

def ts : List (TypeId × Ty) := [(25, t25), (26, t26)]

/-- WHAT THE LAW's CONTRACT GIVES, for every argument and every world that holds the tables. -/
theorem contract (H : Type) (enc : TypeId × Value → H) (W : World) (base : Nat) (args : Array Value) (ds gs : List (DataW H)) (before : List MemPlace)
    (hval : ∀ (j : Nat) t v, Tryz.f4.params[j]? = some t → args[j]? = some v → Value.okWide Tryz.prog W .any base t v)
    (hW : DataW.Whole enc Tryz.prog Tryz.f4.params.toList Rows.topSkipperLockedSpec.vars false W args.toList ds gs before) (hL : laidMetH Tryz.prog Rows.topSkipperLockedRow.laid W) :
    Calls Tryz.prog 4 args W fun e W' => ∃ v, e = .returned v ∧ Rows.topSkipperLockedSpec.post enc Tryz.prog Tryz.f4 false true false false W args v W' :=
  yMT (ts := ts) (f := 4) (m := fun x => Go.Tw.zP_M x.1 x.2.1) (tb := 4) Go.Tw.yU9 (by kernel_rfl) (by kernel_rfl) Tryz.underlying4 (by unfold ts; intro q hq; simp only [List.mem_cons, List.not_mem_nil, or_false] at hq; rcases hq with rfl | rfl <;> kernel_rfl)
    (by kernel_rfl) (by unfold ts; intro q hq; simp only [List.mem_cons, List.not_mem_nil, or_false] at hq; rcases hq with rfl | rfl <;> exact ⟨by kernel_rfl, of_decide_eq_true (by kernel_rfl)⟩) rfl
    (fun ds hd => by
      match ds, hd with
      | [d1, d2], _ => rfl)
    (fun x hw => Go.Tw.yBd x.1 x.2.1 (Nat.lt_of_le_of_lt hw.2.1.1 (Nat.lt_of_sub_pos (by decide)))) W base args ds gs before hval hW (glob hL)

def yKQ : Array Value := #[.agg #[.slice none 0 0, .slice none 0 0], .slice none 0 0]
theorem yKJ (os : Os) : laidMet Tryz.prog Rows.topSkipperLockedRow.laid ((y76 os).forCall (fun _ _ => 0) ⟨#[], yKQ, []⟩).memory :=
  laidMet_of_run' 8 (by kernel_rfl) (by kernel_rfl)
def wds (H : Type) : List (DataW H) := [.agg [.nil, .nil], .nil]
theorem reads (os : Os) {H : Type} (enc : TypeId × Value → H) : ∃ places, DataW.whole enc Tryz.prog ((y76 os).forCall (fun _ _ => 0) ⟨#[], yKQ, []⟩).memory Tryz.f4.params.toList Rows.topSkipperLockedSpec.vars false yKQ.toList 8 = some (wds H, [], places) :=
  ⟨[], by kernel_rfl⟩

theorem lifted (os : Os) (started : os.Started) (H : Type) (enc : TypeId × Value → H) (F : Stop.Interp) :
    ReturnsInHanded {} Tryz.checked os 4 .any ((OpenSpec.ofChange Rows.topSkipperLockedSpec).preRow enc Tryz.prog Tryz.f4 Rows.topSkipperLockedRow.domain false Rows.topSkipperLockedRow.laid) (((OpenSpec.ofChange Rows.topSkipperLockedSpec).at F).post enc Tryz.prog Tryz.f4 false true false false) := by
  obtain ⟨places, hx⟩ := reads os enc
  refine returnsInHanded_of_row (C := Tryz.checked) (s := OpenSpec.ofChange Rows.topSkipperLockedSpec) own started (by kernel_rfl) Tryz.func4
    (witness_row_at (enc := enc) (C := Tryz.checked) false (y76 os) yKQ rfl (by kernel_rfl) (by kernel_rfl) (by kernel_rfl)
      (OpenSpec.preRow_of_cond 8 hx (by kernel_rfl) (fun k hk => by cases hk) (by kernel_rfl) (yKJ os))) ?_
  intro W base args ds gs before hval hW _ _ _ hL _ _
  exact contract H enc W base args ds gs before hval hW hL

theorem named : Tryz.prog.funcNamed "tideway/tidewaytop.TopSkipperLocked" = some 4 := by kernel_rfl
theorem c1 : yIS Tryz.prog 4 Tryz.f4 (OpenSpec.ofChange Rows.topSkipperLockedSpec).bare Rows.topSkipperLockedRow = true := by kernel_rfl
theorem c2 : yGm Tryz.prog 4 Tryz.f4 (OpenSpec.ofChange Rows.topSkipperLockedSpec).bare Rows.topSkipperLockedRow = true := by kernel_rfl
theorem c3 : yHE Tryz.prog 4 Tryz.f4 (OpenSpec.ofChange Rows.topSkipperLockedSpec).bare Rows.topSkipperLockedRow = true := by kernel_rfl
theorem c4 : yIm Tryz.prog 4 Tryz.f4 (OpenSpec.ofChange Rows.topSkipperLockedSpec).bare Rows.topSkipperLockedRow = true := by kernel_rfl
theorem c5 : yHh Tryz.prog 4 Tryz.f4 (OpenSpec.ofChange Rows.topSkipperLockedSpec).bare Rows.topSkipperLockedRow = true := by kernel_rfl
theorem c6 : yGe Tryz.prog 4 Tryz.f4 (OpenSpec.ofChange Rows.topSkipperLockedSpec).bare Rows.topSkipperLockedRow = true := by kernel_rfl
theorem c7 : yI5 Tryz.prog 4 Tryz.f4 (OpenSpec.ofChange Rows.topSkipperLockedSpec).bare Rows.topSkipperLockedRow = true := by kernel_rfl
theorem c8 : yIN Tryz.prog 4 Tryz.f4 (OpenSpec.ofChange Rows.topSkipperLockedSpec).bare Rows.topSkipperLockedRow = true := by kernel_rfl
theorem c9 : yIQ Tryz.prog 4 Tryz.f4 (OpenSpec.ofChange Rows.topSkipperLockedSpec).bare Rows.topSkipperLockedRow = true := by kernel_rfl
theorem inst : Tryz.f4.isInstance Tryz.prog Rows.topSkipperLockedRow.origin Rows.topSkipperLockedRow.targs := of_decide_eq_true (by kernel_rfl)
theorem wrapper : Tryz.f4.isWrapper Tryz.prog Rows.topSkipperLockedRow.wrapper Rows.topSkipperLockedRow.mainSum := by
  unfold Func.isWrapper
  first | (rw [if_pos (by decide +kernel)]; kernel_rfl) | (rw [if_neg (by decide +kernel)]; exact ⟨rfl, rfl⟩)

theorem said : Rows.TopSkipperLockedSaid :=
  OpenClaim.holds_of_cond 4 Tryz.f4 rfl rfl rfl rfl rfl rfl rfl ⟨rfl, rfl, rfl, rfl, rfl⟩ rfl rfl rfl rfl rfl named Tryz.func4 (yGI c1 c2 c3 c4 c5 c6 c7 c8 c9) inst wrapper
    (fun os started H enc _ F => by rw [OpenClaim.pre_eq_preRow]; exact lifted os started H enc F)

end Go.Proofs.YtclcodeedopemaaGreat.tTopSkipperLocked
#print axioms Go.Proofs.YtclcodeedopemaaGreat.tTopSkipperLocked.said
