/- For every list of levels and each place, of whatever sizes: tidewaylaw02.TideTurns answers true, and what came in reads as before. Its conditions: the tables of Go's library that the row lists hold what they are laid to hold. -/
import Derived.Test.YtpcnkpbpcebokaaGreatDoorT0
import Derived.Test.YtpcnkpbpcebokaaGreatDoorPV

set_option linter.all false
set_option maxRecDepth 100000
namespace Go.Proofs.YtpcnkpbpcebokaaGreatDoor.tTideTurns
open Go.ChangeShapes Go.WideShapes Go.ChangeAt Go.RowKit Go.Vx Go.Vx.B Go.Proofs.YtpcnkpbpcebokaaGreatDoor.rows

def ts : List (TypeId × Ty) := [(35, t35), (5, t5)]

/-- WHAT THE LAW's CONTRACT GIVES, for every argument and every world that holds the tables. -/
theorem contract (H : Type) (enc : TypeId × Value → H) (W : World) (base : Nat) (args : Array Value) (ds gs : List (DataW H)) (before : List MemPlace)
    (hval : ∀ (j : Nat) t v, Tryz.f11.params[j]? = some t → args[j]? = some v → Value.okWide Tryz.prog W .any base t v)
    (hW : DataW.Whole enc Tryz.prog Tryz.f11.params.toList Rows.tideTurnsSpec.vars false W args.toList ds gs before) (hL : laidMetH Tryz.prog Rows.tideTurnsRow.laid W) :
    Calls Tryz.prog 11 args W fun e W' => ∃ v, e = .returned v ∧ Rows.tideTurnsSpec.post enc Tryz.prog Tryz.f11 false true false false W args v W' :=
  yLY (ts := ts) (f := 11) (m := fun x => Go.Tw.zh_M x.1 x.2.1) (tb := 4) Go.Tw.yVs (by kernel_rfl) (by kernel_rfl) Tryz.underlying4 (by unfold ts; intro q hq; simp only [List.mem_cons, List.not_mem_nil, or_false] at hq; rcases hq with rfl | rfl <;> kernel_rfl)
    (by kernel_rfl) (by unfold ts; intro q hq; simp only [List.mem_cons, List.not_mem_nil, or_false] at hq; rcases hq with rfl | rfl <;> exact ⟨by kernel_rfl, of_decide_eq_true (by kernel_rfl)⟩) rfl
    (fun ds hd => by
      match ds, hd with
      | [d1, d2], _ => rfl)
    (fun x hw => Go.Tw.yK5 x.1 x.2.1) W base args ds gs before hval hW (glob hL)

def yK3 : Array Value := #[.slice none 0 0, .int .u8 0]
theorem yJy (os : Os) : laidMet Tryz.prog Rows.tideTurnsRow.laid ((y7A os).forCall (fun _ _ => 0) ⟨#[], yK3, []⟩).memory :=
  laidMet_of_run' 8 (by kernel_rfl) (by kernel_rfl)
def wds (H : Type) : List (DataW H) := [.nil, .lit (.int .u8 0)]
theorem reads (os : Os) {H : Type} (enc : TypeId × Value → H) : ∃ places, DataW.whole enc Tryz.prog ((y7A os).forCall (fun _ _ => 0) ⟨#[], yK3, []⟩).memory Tryz.f11.params.toList Rows.tideTurnsSpec.vars false yK3.toList 8 = some (wds H, [], places) :=
  ⟨[], by kernel_rfl⟩

theorem lifted (os : Os) (started : os.Started) (H : Type) (enc : TypeId × Value → H) (F : Stop.Interp) :
    ReturnsInHanded {} Tryz.checked os 11 .any ((OpenSpec.ofChange Rows.tideTurnsSpec).preRow enc Tryz.prog Tryz.f11 Rows.tideTurnsRow.domain false Rows.tideTurnsRow.laid) (((OpenSpec.ofChange Rows.tideTurnsSpec).at F).post enc Tryz.prog Tryz.f11 false true false false) := by
  obtain ⟨places, hx⟩ := reads os enc
  refine returnsInHanded_of_row (C := Tryz.checked) (s := OpenSpec.ofChange Rows.tideTurnsSpec) own started (by kernel_rfl) Tryz.func11
    (witness_row_at (enc := enc) (C := Tryz.checked) false (y7A os) yK3 rfl (by kernel_rfl) (by kernel_rfl) (by kernel_rfl)
      (OpenSpec.preRow_of_cond 8 hx (by kernel_rfl) (fun k hk => by cases hk) (by kernel_rfl) (yJy os))) ?_
  intro W base args ds gs before hval hW _ _ _ hL _ _
  exact contract H enc W base args ds gs before hval hW hL

theorem named : Tryz.prog.funcNamed "tideway/tidewaylaw02.TideTurns" = some 11 := by kernel_rfl
theorem c1 : yH2 Tryz.prog 11 Tryz.f11 (OpenSpec.ofChange Rows.tideTurnsSpec).bare Rows.tideTurnsRow = true := by kernel_rfl
theorem c2 : yHv Tryz.prog 11 Tryz.f11 (OpenSpec.ofChange Rows.tideTurnsSpec).bare Rows.tideTurnsRow = true := by kernel_rfl
theorem c3 : yGA Tryz.prog 11 Tryz.f11 (OpenSpec.ofChange Rows.tideTurnsSpec).bare Rows.tideTurnsRow = true := by kernel_rfl
theorem c4 : yG0 Tryz.prog 11 Tryz.f11 (OpenSpec.ofChange Rows.tideTurnsSpec).bare Rows.tideTurnsRow = true := by kernel_rfl
theorem c5 : yFj Tryz.prog 11 Tryz.f11 (OpenSpec.ofChange Rows.tideTurnsSpec).bare Rows.tideTurnsRow = true := by kernel_rfl
theorem c6 : yFd Tryz.prog 11 Tryz.f11 (OpenSpec.ofChange Rows.tideTurnsSpec).bare Rows.tideTurnsRow = true := by kernel_rfl
theorem c7 : yGG Tryz.prog 11 Tryz.f11 (OpenSpec.ofChange Rows.tideTurnsSpec).bare Rows.tideTurnsRow = true := by kernel_rfl
theorem c8 : yHX Tryz.prog 11 Tryz.f11 (OpenSpec.ofChange Rows.tideTurnsSpec).bare Rows.tideTurnsRow = true := by kernel_rfl
theorem c9 : yFv Tryz.prog 11 Tryz.f11 (OpenSpec.ofChange Rows.tideTurnsSpec).bare Rows.tideTurnsRow = true := by kernel_rfl
theorem inst : Tryz.f11.isInstance Tryz.prog Rows.tideTurnsRow.origin Rows.tideTurnsRow.targs := of_decide_eq_true (by kernel_rfl)
theorem wrapper : Tryz.f11.isWrapper Tryz.prog Rows.tideTurnsRow.wrapper Rows.tideTurnsRow.mainSum := by
  unfold Func.isWrapper
  first | (rw [if_pos (by decide +kernel)]; kernel_rfl) | (rw [if_neg (by decide +kernel)]; exact ⟨rfl, rfl⟩)

theorem said : Rows.TideTurnsSaid :=
  OpenClaim.holds_of_cond 11 Tryz.f11 rfl rfl rfl rfl rfl rfl rfl ⟨rfl, rfl, rfl, rfl, rfl⟩ rfl rfl rfl rfl rfl named Tryz.func11 (yIV c1 c2 c3 c4 c5 c6 c7 c8 c9) inst wrapper
    (fun os started H enc _ F => by rw [OpenClaim.pre_eq_preRow]; exact lifted os started H enc F)

theorem plain (f : FuncId) (fn : Func) (hf : Tryz.pinned.checked.prog.funcNamed "tideway/tidewaylaw02.TideTurns" = some f) (hfn : Tryz.pinned.checked.prog.funcs[f]? = some fn) :
    true = Tryz.pinned.checked.prog.looks [] ∧ ∀ (j : Nat) t, fn.params[j]? = some t → Tryz.pinned.checked.prog.wantsStandIn t = false := by
  obtain rfl : f = 11 := Option.some.inj (named.symm.trans hf) |>.symm
  obtain rfl : fn = Tryz.f11 := (Option.some.inj (Tryz.func11.symm.trans hfn)).symm
  refine ⟨by kernel_rfl, fun j t ht => ?_⟩
  have h : (Tryz.f11.params.toList.all fun t => !Tryz.prog.wantsStandIn t) = true := by kernel_rfl
  have := List.all_eq_true.1 h t (by simpa using Array.mem_of_getElem? ht)
  show Tryz.prog.wantsStandIn t = false
  simpa using this

/-- THE CARD -/
theorem k1 : Rows.tideTurnsRow.wfByText (OpenSpec.ofChange Rows.tideTurnsSpec) = true := by kernel_rfl
theorem k2 : Tryz.pinned.checked.prog.mainIs = some (true, "9fb4918ac9ed9554070fc275559d571b4d8db6d5d3cd07a716505db01760a510".toList) := by kernel_rfl
theorem k3 : false = Rows.tideTurnsRow.goesBy Tryz.pinned.checked.prog := by kernel_rfl
theorem card : Rows.TideTurnsCardSaid :=
  Claim7.holds_tied_plain_at .later (p := Tryz.pinned) (s := OpenSpec.ofChange Rows.tideTurnsSpec) (c := Rows.tideTurnsRow) [] [.data, .data, .data, .data, .data] true (true, "9fb4918ac9ed9554070fc275559d571b4d8db6d5d3cd07a716505db01760a510") true said (fun _ h => by cases h) k1 (fun _ h => by cases h) tideTurns_row_tie rfl ⟨rfl, rfl⟩ k2 rfl plain k3
end Go.Proofs.YtpcnkpbpcebokaaGreatDoor.tTideTurns
#print axioms Go.Proofs.YtpcnkpbpcebokaaGreatDoor.tTideTurns.card
