/- For every tide, each first tick and each count, of whatever sizes: tidewaylaw02.TidePredictions answers true, and what came in reads as before. Its conditions: the tables of Go's library that the row lists hold what they are laid to hold. -/
import Derived.Test.YtpcnkpbpcebokaaGreatDoorT0
import Derived.Test.YtpcnkpbpcebokaaGreatDoorP5

set_option linter.all false
set_option maxRecDepth 100000
namespace Go.Proofs.YtpcnkpbpcebokaaGreatDoor.tTidePredictions
open Go.ChangeShapes Go.WideShapes Go.ChangeAt Go.RowKit Go.Vx Go.Vx.B Go.Proofs.YtpcnkpbpcebokaaGreatDoor.rows

def ts : List (TypeId × Ty) := [(25, t25), (3, t3), (3, t3)]

/-- WHAT THE LAW's CONTRACT GIVES, for every argument and every world that holds the tables. -/
theorem contract (H : Type) (enc : TypeId × Value → H) (W : World) (base : Nat) (args : Array Value) (ds gs : List (DataW H)) (before : List MemPlace)
    (hval : ∀ (j : Nat) t v, Tryz.f3.params[j]? = some t → args[j]? = some v → Value.okWide Tryz.prog W .any base t v)
    (hW : DataW.Whole enc Tryz.prog Tryz.f3.params.toList Rows.tidePredictionsSpec.vars false W args.toList ds gs before) (hL : laidMetH Tryz.prog Rows.tidePredictionsRow.laid W) :
    Calls Tryz.prog 3 args W fun e W' => ∃ v, e = .returned v ∧ Rows.tidePredictionsSpec.post enc Tryz.prog Tryz.f3 false true false false W args v W' :=
  yNs (ts := ts) (f := 3) (m := fun x => Go.Tw.zP_M x.1 x.2.1 x.2.2.1) (tb := 4) Go.Tw.yZD (by kernel_rfl) (by kernel_rfl) Tryz.underlying4 (by unfold ts; intro q hq; simp only [List.mem_cons, List.not_mem_nil, or_false] at hq; rcases hq with rfl | rfl | rfl <;> kernel_rfl)
    (by kernel_rfl) (by unfold ts; intro q hq; simp only [List.mem_cons, List.not_mem_nil, or_false] at hq; rcases hq with rfl | rfl | rfl <;> exact ⟨by kernel_rfl, of_decide_eq_true (by kernel_rfl)⟩) rfl
    (fun ds hd => by
      match ds, hd with
      | [d1, d2, d3], _ => rfl)
    (fun x hw => Go.Tw.yDA x.1 x.2.1 x.2.2.1 (Nat.lt_of_le_of_lt hw.1.1.1 (Nat.lt_of_sub_pos (by decide)))) W base args ds gs before hval hW (glob hL)

def yKP : Array Value := #[.agg #[.slice none 0 0, .slice none 0 0, .int .i64 0], .int .i64 0, .int .i64 0]
theorem yKo (os : Os) : laidMet Tryz.prog Rows.tidePredictionsRow.laid ((y80 os).forCall (fun _ _ => 0) ⟨#[], yKP, []⟩).memory :=
  laidMet_of_run' 8 (by kernel_rfl) (by kernel_rfl)
def wds (H : Type) : List (DataW H) := [.agg [.nil, .nil, .lit (.int .i64 0)], .lit (.int .i64 0), .lit (.int .i64 0)]
theorem reads (os : Os) {H : Type} (enc : TypeId × Value → H) : ∃ places, DataW.whole enc Tryz.prog ((y80 os).forCall (fun _ _ => 0) ⟨#[], yKP, []⟩).memory Tryz.f3.params.toList Rows.tidePredictionsSpec.vars false yKP.toList 8 = some (wds H, [], places) :=
  ⟨[], by kernel_rfl⟩

theorem lifted (os : Os) (started : os.Started) (H : Type) (enc : TypeId × Value → H) (F : Stop.Interp) :
    ReturnsInHanded {} Tryz.checked os 3 .any ((OpenSpec.ofChange Rows.tidePredictionsSpec).preRow enc Tryz.prog Tryz.f3 Rows.tidePredictionsRow.domain false Rows.tidePredictionsRow.laid) (((OpenSpec.ofChange Rows.tidePredictionsSpec).at F).post enc Tryz.prog Tryz.f3 false true false false) := by
  obtain ⟨places, hx⟩ := reads os enc
  refine returnsInHanded_of_row (C := Tryz.checked) (s := OpenSpec.ofChange Rows.tidePredictionsSpec) own started (by kernel_rfl) Tryz.func3
    (witness_row_at (enc := enc) (C := Tryz.checked) false (y80 os) yKP rfl (by kernel_rfl) (by kernel_rfl) (by kernel_rfl)
      (OpenSpec.preRow_of_cond 8 hx (by kernel_rfl) (fun k hk => by cases hk) (by kernel_rfl) (yKo os))) ?_
  intro W base args ds gs before hval hW _ _ _ hL _ _
  exact contract H enc W base args ds gs before hval hW hL

theorem named : Tryz.prog.funcNamed "tideway/tidewaylaw02.TidePredictions" = some 3 := by kernel_rfl
theorem c1 : yHL Tryz.prog 3 Tryz.f3 (OpenSpec.ofChange Rows.tidePredictionsSpec).bare Rows.tidePredictionsRow = true := by kernel_rfl
theorem c2 : yIy Tryz.prog 3 Tryz.f3 (OpenSpec.ofChange Rows.tidePredictionsSpec).bare Rows.tidePredictionsRow = true := by kernel_rfl
theorem c3 : yIs Tryz.prog 3 Tryz.f3 (OpenSpec.ofChange Rows.tidePredictionsSpec).bare Rows.tidePredictionsRow = true := by kernel_rfl
theorem c4 : yJL Tryz.prog 3 Tryz.f3 (OpenSpec.ofChange Rows.tidePredictionsSpec).bare Rows.tidePredictionsRow = true := by kernel_rfl
theorem c5 : yJ2 Tryz.prog 3 Tryz.f3 (OpenSpec.ofChange Rows.tidePredictionsSpec).bare Rows.tidePredictionsRow = true := by kernel_rfl
theorem c6 : yH0 Tryz.prog 3 Tryz.f3 (OpenSpec.ofChange Rows.tidePredictionsSpec).bare Rows.tidePredictionsRow = true := by kernel_rfl
theorem c7 : yHe Tryz.prog 3 Tryz.f3 (OpenSpec.ofChange Rows.tidePredictionsSpec).bare Rows.tidePredictionsRow = true := by kernel_rfl
theorem c8 : yIE Tryz.prog 3 Tryz.f3 (OpenSpec.ofChange Rows.tidePredictionsSpec).bare Rows.tidePredictionsRow = true := by kernel_rfl
theorem c9 : yGx Tryz.prog 3 Tryz.f3 (OpenSpec.ofChange Rows.tidePredictionsSpec).bare Rows.tidePredictionsRow = true := by kernel_rfl
theorem inst : Tryz.f3.isInstance Tryz.prog Rows.tidePredictionsRow.origin Rows.tidePredictionsRow.targs := of_decide_eq_true (by kernel_rfl)
theorem wrapper : Tryz.f3.isWrapper Tryz.prog Rows.tidePredictionsRow.wrapper Rows.tidePredictionsRow.mainSum := by
  unfold Func.isWrapper
  first | (rw [if_pos (by decide +kernel)]; kernel_rfl) | (rw [if_neg (by decide +kernel)]; exact ⟨rfl, rfl⟩)

theorem said : Rows.TidePredictionsSaid :=
  OpenClaim.holds_of_cond 3 Tryz.f3 rfl rfl rfl rfl rfl rfl rfl ⟨rfl, rfl, rfl, rfl, rfl⟩ rfl rfl rfl rfl rfl named Tryz.func3 (yHQ c1 c2 c3 c4 c5 c6 c7 c8 c9) inst wrapper
    (fun os started H enc _ F => by rw [OpenClaim.pre_eq_preRow]; exact lifted os started H enc F)

theorem plain (f : FuncId) (fn : Func) (hf : Tryz.pinned.checked.prog.funcNamed "tideway/tidewaylaw02.TidePredictions" = some f) (hfn : Tryz.pinned.checked.prog.funcs[f]? = some fn) :
    true = Tryz.pinned.checked.prog.looks [] ∧ ∀ (j : Nat) t, fn.params[j]? = some t → Tryz.pinned.checked.prog.wantsStandIn t = false := by
  obtain rfl : f = 3 := Option.some.inj (named.symm.trans hf) |>.symm
  obtain rfl : fn = Tryz.f3 := (Option.some.inj (Tryz.func3.symm.trans hfn)).symm
  refine ⟨by kernel_rfl, fun j t ht => ?_⟩
  have h : (Tryz.f3.params.toList.all fun t => !Tryz.prog.wantsStandIn t) = true := by kernel_rfl
  have := List.all_eq_true.1 h t (by simpa using Array.mem_of_getElem? ht)
  show Tryz.prog.wantsStandIn t = false
  simpa using this

/-- THE CARD -/
theorem k1 : Rows.tidePredictionsRow.wfByText (OpenSpec.ofChange Rows.tidePredictionsSpec) = true := by kernel_rfl
theorem k2 : Tryz.pinned.checked.prog.mainIs = some (true, "9fb4918ac9ed9554070fc275559d571b4d8db6d5d3cd07a716505db01760a510".toList) := by kernel_rfl
theorem k3 : false = Rows.tidePredictionsRow.goesBy Tryz.pinned.checked.prog := by kernel_rfl
theorem card : Rows.TidePredictionsCardSaid :=
  Claim7.holds_tied_plain_at .later (p := Tryz.pinned) (s := OpenSpec.ofChange Rows.tidePredictionsSpec) (c := Rows.tidePredictionsRow) [] [.data, .data, .data, .data, .data] true (true, "9fb4918ac9ed9554070fc275559d571b4d8db6d5d3cd07a716505db01760a510") true said (fun _ h => by cases h) k1 (fun _ h => by cases h) tidePredictions_row_tie rfl ⟨rfl, rfl⟩ k2 rfl plain k3
end Go.Proofs.YtpcnkpbpcebokaaGreatDoor.tTidePredictions
#print axioms Go.Proofs.YtpcnkpbpcebokaaGreatDoor.tTidePredictions.card
