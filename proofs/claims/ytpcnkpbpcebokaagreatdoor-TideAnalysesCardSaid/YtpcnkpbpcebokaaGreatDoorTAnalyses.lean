/- For every record and all constituents, of whatever sizes: tidewaylaw02.TideAnalyses answers true, and what came in reads as before. Its conditions: the tables of Go's library that the row lists hold what they are laid to hold. -/
import Derived.Test.YtpcnkpbpcebokaaGreatDoorT0
import Derived.Test.YtpcnkpbpcebokaaGreatDoorPM4

set_option linter.all false
set_option maxRecDepth 100000
namespace Go.Proofs.YtpcnkpbpcebokaaGreatDoor.tTideAnalyses
open Go.ChangeShapes Go.WideShapes Go.ChangeAt Go.RowKit Go.Vx Go.Vx.B Go.Proofs.YtpcnkpbpcebokaaGreatDoor.rows

def ts : List (TypeId × Ty) := [(94, t94), (22, t22)]

/-- WHAT THE LAW's CONTRACT GIVES, for every argument and every world that holds the tables. -/
theorem contract (H : Type) (enc : TypeId × Value → H) (W : World) (base : Nat) (args : Array Value) (ds gs : List (DataW H)) (before : List MemPlace)
  (hval : ∀ (j : Nat) t v, Tryz.f7.params[j]? = some t → args[j]? = some v → Value.okWide Tryz.prog W .any base t v)
  (hW : DataW.Whole enc Tryz.prog Tryz.f7.params.toList Rows.tideAnalysesSpec.vars false W args.toList ds gs before) (hL : laidMetH Tryz.prog Rows.tideAnalysesRow.laid W) :
  Calls Tryz.prog 7 args W fun e W' => ∃ v, e = .returned v ∧ Rows.tideAnalysesSpec.post enc Tryz.prog Tryz.f7 false true false false W args v W' :=
 yT0 (ts := ts) (f := 7) (m := fun x => Go.Tw.zS_M x.1 x.2.1) (tb := 4) Go.Tw.yfn (by kernel_rfl) (by kernel_rfl) Tryz.underlying4 (by unfold ts; intro q hq; simp only [List.mem_cons, List.not_mem_nil, or_false] at hq; rcases hq with rfl | rfl <;> kernel_rfl)
  (by kernel_rfl) (by unfold ts; intro q hq; simp only [List.mem_cons, List.not_mem_nil, or_false] at hq; rcases hq with rfl | rfl <;> exact ⟨by kernel_rfl, of_decide_eq_true (by kernel_rfl)⟩) rfl
  (fun ds hd => by
   match ds, hd with
   | [d1, d2], _ => rfl)
  (fun x hw => Go.Tw.yIo x.1 x.2.1 (Nat.lt_of_le_of_lt hw.2.1.1 (Nat.lt_of_sub_pos (by decide)))) W base args ds gs before hval hW (glob hL)

def yMs : Array Value := #[.agg #[.string ⟨#[]⟩, .int .i64 0, .slice none 0 0, .slice none 0 0], .slice none 0 0]
theorem yN3 (os : Os) : laidMet Tryz.prog Rows.tideAnalysesRow.laid ((y81 os).forCall (fun _ _ => 0) ⟨#[], yMs, []⟩).memory :=
 laidMet_of_run' 8 (by kernel_rfl) (by kernel_rfl)
def wds (H : Type) : List (DataW H) := [.agg [.lit (.string []), .lit (.int .i64 0), .nil, .nil], .nil]
theorem reads (os : Os) {H : Type} (enc : TypeId × Value → H) : ∃ places, DataW.whole enc Tryz.prog ((y81 os).forCall (fun _ _ => 0) ⟨#[], yMs, []⟩).memory Tryz.f7.params.toList Rows.tideAnalysesSpec.vars false yMs.toList 8 = some (wds H, [], places) :=
 ⟨[], by kernel_rfl⟩

theorem lifted (os : Os) (started : os.Started) (H : Type) (enc : TypeId × Value → H) (F : Stop.Interp) :
  ReturnsInHanded {} Tryz.checked os 7 .any ((OpenSpec.ofChange Rows.tideAnalysesSpec).preRow enc Tryz.prog Tryz.f7 Rows.tideAnalysesRow.domain false Rows.tideAnalysesRow.laid) (((OpenSpec.ofChange Rows.tideAnalysesSpec).at F).post enc Tryz.prog Tryz.f7 false true false false) := by
 obtain ⟨places, hx⟩ := reads os enc
 refine returnsInHanded_of_row (C := Tryz.checked) (s := OpenSpec.ofChange Rows.tideAnalysesSpec) own started (by kernel_rfl) Tryz.func7
  (witness_row_at (enc := enc) (C := Tryz.checked) false (y81 os) yMs rfl (by kernel_rfl) (by kernel_rfl) (by kernel_rfl)
   (OpenSpec.preRow_of_cond 8 hx (by kernel_rfl) (fun k hk => by cases hk) (by kernel_rfl) (yN3 os))) ?_
 intro W base args ds gs before hval hW _ _ _ hL _ _
 exact contract H enc W base args ds gs before hval hW hL

theorem named : Tryz.prog.funcNamed "tideway/tidewaylaw02.TideAnalyses" = some 7 := by kernel_rfl
theorem c1 : yLD Tryz.prog 7 Tryz.f7 (OpenSpec.ofChange Rows.tideAnalysesSpec).bare Rows.tideAnalysesRow = true := by kernel_rfl
theorem c2 : yLC Tryz.prog 7 Tryz.f7 (OpenSpec.ofChange Rows.tideAnalysesSpec).bare Rows.tideAnalysesRow = true := by kernel_rfl
theorem c3 : yKQ Tryz.prog 7 Tryz.f7 (OpenSpec.ofChange Rows.tideAnalysesSpec).bare Rows.tideAnalysesRow = true := by kernel_rfl
theorem c4 : yJp Tryz.prog 7 Tryz.f7 (OpenSpec.ofChange Rows.tideAnalysesSpec).bare Rows.tideAnalysesRow = true := by kernel_rfl
theorem c5 : yJV Tryz.prog 7 Tryz.f7 (OpenSpec.ofChange Rows.tideAnalysesSpec).bare Rows.tideAnalysesRow = true := by kernel_rfl
theorem c6 : yLY Tryz.prog 7 Tryz.f7 (OpenSpec.ofChange Rows.tideAnalysesSpec).bare Rows.tideAnalysesRow = true := by kernel_rfl
theorem c7 : yJY Tryz.prog 7 Tryz.f7 (OpenSpec.ofChange Rows.tideAnalysesSpec).bare Rows.tideAnalysesRow = true := by kernel_rfl
theorem c8 : yJt Tryz.prog 7 Tryz.f7 (OpenSpec.ofChange Rows.tideAnalysesSpec).bare Rows.tideAnalysesRow = true := by kernel_rfl
theorem c9 : yIv Tryz.prog 7 Tryz.f7 (OpenSpec.ofChange Rows.tideAnalysesSpec).bare Rows.tideAnalysesRow = true := by kernel_rfl
theorem inst : Tryz.f7.isInstance Tryz.prog Rows.tideAnalysesRow.origin Rows.tideAnalysesRow.targs := of_decide_eq_true (by kernel_rfl)
theorem wrapper : Tryz.f7.isWrapper Tryz.prog Rows.tideAnalysesRow.wrapper Rows.tideAnalysesRow.mainSum := by
 unfold Func.isWrapper
 first | (rw [if_pos (by decide +kernel)]; kernel_rfl) | (rw [if_neg (by decide +kernel)]; exact ⟨rfl, rfl⟩)

theorem said : Rows.TideAnalysesSaid :=
 OpenClaim.holds_of_cond 7 Tryz.f7 rfl rfl rfl rfl rfl rfl rfl ⟨rfl, rfl, rfl, rfl, rfl⟩ rfl rfl rfl rfl rfl named Tryz.func7 (yJF c1 c2 c3 c4 c5 c6 c7 c8 c9) inst wrapper
  (fun os started H enc _ F => by rw [OpenClaim.pre_eq_preRow]; exact lifted os started H enc F)

theorem plain (f : FuncId) (fn : Func) (hf : Tryz.pinned.checked.prog.funcNamed "tideway/tidewaylaw02.TideAnalyses" = some f) (hfn : Tryz.pinned.checked.prog.funcs[f]? = some fn) :
  true = Tryz.pinned.checked.prog.looks [] ∧ ∀ (j : Nat) t, fn.params[j]? = some t → Tryz.pinned.checked.prog.wantsStandIn t = false := by
 obtain rfl : f = 7 := Option.some.inj (named.symm.trans hf) |>.symm
 obtain rfl : fn = Tryz.f7 := (Option.some.inj (Tryz.func7.symm.trans hfn)).symm
 refine ⟨by kernel_rfl, fun j t ht => ?_⟩
 have h : (Tryz.f7.params.toList.all fun t => !Tryz.prog.wantsStandIn t) = true := by kernel_rfl
 have := List.all_eq_true.1 h t (by simpa using Array.mem_of_getElem? ht)
 show Tryz.prog.wantsStandIn t = false
 simpa using this

/-- THE CARD -/
theorem k1 : Rows.tideAnalysesRow.wfByText (OpenSpec.ofChange Rows.tideAnalysesSpec) = true := by kernel_rfl
theorem k2 : Tryz.pinned.checked.prog.mainIs = some (true, "9fb4918ac9ed9554070fc275559d571b4d8db6d5d3cd07a716505db01760a510".toList) := by kernel_rfl
theorem k3 : false = Rows.tideAnalysesRow.goesBy Tryz.pinned.checked.prog := by kernel_rfl
theorem card : Rows.TideAnalysesCardSaid :=
 Claim7.holds_tied_plain_at .later (p := Tryz.pinned) (s := OpenSpec.ofChange Rows.tideAnalysesSpec) (c := Rows.tideAnalysesRow) [] [.data, .data, .data, .data, .data] true (true, "9fb4918ac9ed9554070fc275559d571b4d8db6d5d3cd07a716505db01760a510") true said (fun _ h => by cases h) k1 (fun _ h => by cases h) tideAnalyses_row_tie rfl ⟨rfl, rfl⟩ k2 rfl plain k3
end Go.Proofs.YtpcnkpbpcebokaaGreatDoor.tTideAnalyses
#print axioms Go.Proofs.YtpcnkpbpcebokaaGreatDoor.tTideAnalyses.card
