/- For every list of levels, of whatever sizes: tidewaylaw02.TideWaters answers true, and what came in reads as before. Its conditions: the tables of Go's library that the row lists hold what they are laid to hold. -/
import Derived.Test.YtpcnkpbpcebokaaGreatDoorT0
import Derived.Test.YtpcnkpbpcebokaaGreatDoorPW

set_option linter.all false
set_option maxRecDepth 100000
namespace Go.Proofs.YtpcnkpbpcebokaaGreatDoor.tTideWaters
open Go.ChangeShapes Go.WideShapes Go.ChangeAt Go.RowKit Go.Vx Go.Vx.B Go.Proofs.YtpcnkpbpcebokaaGreatDoor.rows

def ts : List (TypeId × Ty) := [(35, t35)]

/-- WHAT THE LAW's CONTRACT GIVES, for every argument and every world that holds the tables. -/
theorem contract (H : Type) (enc : TypeId × Value → H) (W : World) (base : Nat) (args : Array Value) (ds gs : List (DataW H)) (before : List MemPlace)
    (hval : ∀ (j : Nat) t v, Tryz.f9.params[j]? = some t → args[j]? = some v → Value.okWide Tryz.prog W .any base t v)
    (hW : DataW.Whole enc Tryz.prog Tryz.f9.params.toList Rows.tideWatersSpec.vars false W args.toList ds gs before) (hL : laidMetH Tryz.prog Rows.tideWatersRow.laid W) :
    Calls Tryz.prog 9 args W fun e W' => ∃ v, e = .returned v ∧ Rows.tideWatersSpec.post enc Tryz.prog Tryz.f9 false true false false W args v W' :=
  yNb (ts := ts) (f := 9) (m := fun x => Go.Tw.zZ_M x.1) (tb := 4) Go.Tw.yV0 (by kernel_rfl) (by kernel_rfl) Tryz.underlying4 (by unfold ts; intro q hq; simp only [List.mem_cons, List.not_mem_nil, or_false] at hq; rcases hq with rfl <;> kernel_rfl)
    (by kernel_rfl) (by unfold ts; intro q hq; simp only [List.mem_cons, List.not_mem_nil, or_false] at hq; rcases hq with rfl <;> exact ⟨by kernel_rfl, of_decide_eq_true (by kernel_rfl)⟩) rfl
    (fun ds hd => by
      match ds, hd with
      | [d1], _ => rfl)
    (fun x hw => Go.Tw.yI4 x.1) W base args ds gs before hval hW (glob hL)

def yI6 : Array Value := #[.slice none 0 0]
theorem yJR (os : Os) : laidMet Tryz.prog Rows.tideWatersRow.laid ((y77 os).forCall (fun _ _ => 0) ⟨#[], yI6, []⟩).memory :=
  laidMet_of_run' 8 (by kernel_rfl) (by kernel_rfl)
def wds (H : Type) : List (DataW H) := [.nil]
theorem reads (os : Os) {H : Type} (enc : TypeId × Value → H) : ∃ places, DataW.whole enc Tryz.prog ((y77 os).forCall (fun _ _ => 0) ⟨#[], yI6, []⟩).memory Tryz.f9.params.toList Rows.tideWatersSpec.vars false yI6.toList 8 = some (wds H, [], places) :=
  ⟨[], by kernel_rfl⟩

theorem lifted (os : Os) (started : os.Started) (H : Type) (enc : TypeId × Value → H) (F : Stop.Interp) :
    ReturnsInHanded {} Tryz.checked os 9 .any ((OpenSpec.ofChange Rows.tideWatersSpec).preRow enc Tryz.prog Tryz.f9 Rows.tideWatersRow.domain false Rows.tideWatersRow.laid) (((OpenSpec.ofChange Rows.tideWatersSpec).at F).post enc Tryz.prog Tryz.f9 false true false false) := by
  obtain ⟨places, hx⟩ := reads os enc
  refine returnsInHanded_of_row (C := Tryz.checked) (s := OpenSpec.ofChange Rows.tideWatersSpec) own started (by kernel_rfl) Tryz.func9
    (witness_row_at (enc := enc) (C := Tryz.checked) false (y77 os) yI6 rfl (by kernel_rfl) (by kernel_rfl) (by kernel_rfl)
      (OpenSpec.preRow_of_cond 8 hx (by kernel_rfl) (fun k hk => by cases hk) (by kernel_rfl) (yJR os))) ?_
  intro W base args ds gs before hval hW _ _ _ hL _ _
  exact contract H enc W base args ds gs before hval hW hL

theorem named : Tryz.prog.funcNamed "tideway/tidewaylaw02.TideWaters" = some 9 := by kernel_rfl
theorem c1 : yGB Tryz.prog 9 Tryz.f9 (OpenSpec.ofChange Rows.tideWatersSpec).bare Rows.tideWatersRow = true := by kernel_rfl
theorem c2 : yGu Tryz.prog 9 Tryz.f9 (OpenSpec.ofChange Rows.tideWatersSpec).bare Rows.tideWatersRow = true := by kernel_rfl
theorem c3 : yG7 Tryz.prog 9 Tryz.f9 (OpenSpec.ofChange Rows.tideWatersSpec).bare Rows.tideWatersRow = true := by kernel_rfl
theorem c4 : yHF Tryz.prog 9 Tryz.f9 (OpenSpec.ofChange Rows.tideWatersSpec).bare Rows.tideWatersRow = true := by kernel_rfl
theorem c5 : yHG Tryz.prog 9 Tryz.f9 (OpenSpec.ofChange Rows.tideWatersSpec).bare Rows.tideWatersRow = true := by kernel_rfl
theorem c6 : yFN Tryz.prog 9 Tryz.f9 (OpenSpec.ofChange Rows.tideWatersSpec).bare Rows.tideWatersRow = true := by kernel_rfl
theorem c7 : yFU Tryz.prog 9 Tryz.f9 (OpenSpec.ofChange Rows.tideWatersSpec).bare Rows.tideWatersRow = true := by kernel_rfl
theorem c8 : yGO Tryz.prog 9 Tryz.f9 (OpenSpec.ofChange Rows.tideWatersSpec).bare Rows.tideWatersRow = true := by kernel_rfl
theorem c9 : yGy Tryz.prog 9 Tryz.f9 (OpenSpec.ofChange Rows.tideWatersSpec).bare Rows.tideWatersRow = true := by kernel_rfl
theorem inst : Tryz.f9.isInstance Tryz.prog Rows.tideWatersRow.origin Rows.tideWatersRow.targs := of_decide_eq_true (by kernel_rfl)
theorem wrapper : Tryz.f9.isWrapper Tryz.prog Rows.tideWatersRow.wrapper Rows.tideWatersRow.mainSum := by
  unfold Func.isWrapper
  first | (rw [if_pos (by decide +kernel)]; kernel_rfl) | (rw [if_neg (by decide +kernel)]; exact ⟨rfl, rfl⟩)

theorem said : Rows.TideWatersSaid :=
  OpenClaim.holds_of_cond 9 Tryz.f9 rfl rfl rfl rfl rfl rfl rfl ⟨rfl, rfl, rfl, rfl, rfl⟩ rfl rfl rfl rfl rfl named Tryz.func9 (yFk c1 c2 c3 c4 c5 c6 c7 c8 c9) inst wrapper
    (fun os started H enc _ F => by rw [OpenClaim.pre_eq_preRow]; exact lifted os started H enc F)

theorem plain (f : FuncId) (fn : Func) (hf : Tryz.pinned.checked.prog.funcNamed "tideway/tidewaylaw02.TideWaters" = some f) (hfn : Tryz.pinned.checked.prog.funcs[f]? = some fn) :
    true = Tryz.pinned.checked.prog.looks [] ∧ ∀ (j : Nat) t, fn.params[j]? = some t → Tryz.pinned.checked.prog.wantsStandIn t = false := by
  obtain rfl : f = 9 := Option.some.inj (named.symm.trans hf) |>.symm
  obtain rfl : fn = Tryz.f9 := (Option.some.inj (Tryz.func9.symm.trans hfn)).symm
  refine ⟨by kernel_rfl, fun j t ht => ?_⟩
  have h : (Tryz.f9.params.toList.all fun t => !Tryz.prog.wantsStandIn t) = true := by kernel_rfl
  have := List.all_eq_true.1 h t (by simpa using Array.mem_of_getElem? ht)
  show Tryz.prog.wantsStandIn t = false
  simpa using this

/-- THE CARD -/
theorem k1 : Rows.tideWatersRow.wfByText (OpenSpec.ofChange Rows.tideWatersSpec) = true := by kernel_rfl
theorem k2 : Tryz.pinned.checked.prog.mainIs = some (true, "9fb4918ac9ed9554070fc275559d571b4d8db6d5d3cd07a716505db01760a510".toList) := by kernel_rfl
theorem k3 : false = Rows.tideWatersRow.goesBy Tryz.pinned.checked.prog := by kernel_rfl
theorem card : Rows.TideWatersCardSaid :=
  Claim7.holds_tied_plain_at .later (p := Tryz.pinned) (s := OpenSpec.ofChange Rows.tideWatersSpec) (c := Rows.tideWatersRow) [] [.data, .data, .data, .data, .data] true (true, "9fb4918ac9ed9554070fc275559d571b4d8db6d5d3cd07a716505db01760a510") true said (fun _ h => by cases h) k1 (fun _ h => by cases h) tideWaters_row_tie rfl ⟨rfl, rfl⟩ k2 rfl plain k3
end Go.Proofs.YtpcnkpbpcebokaaGreatDoor.tTideWaters
#print axioms Go.Proofs.YtpcnkpbpcebokaaGreatDoor.tTideWaters.card
