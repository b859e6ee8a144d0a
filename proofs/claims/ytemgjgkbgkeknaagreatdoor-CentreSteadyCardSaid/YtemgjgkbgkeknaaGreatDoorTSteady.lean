/- For every list of events and each two small numbers, of whatever sizes: tidewaylaw10.CentreSteady answers true, and what came in reads as before. Its conditions: the tables of Go's library that the row lists hold what they are laid to hold. -/
import Derived.Test.YtemgjgkbgkeknaaGreatDoorT0
import Derived.Test.YtemgjgkbgkeknaaGreatDoorPW

set_option linter.all false
set_option maxRecDepth 100000
namespace Go.Proofs.YtemgjgkbgkeknaaGreatDoor.tCentreSteady
open Go.ChangeShapes Go.WideShapes Go.ChangeAt Go.RowKit Go.Vx Go.Vx.B Go.Proofs.YtemgjgkbgkeknaaGreatDoor.rows

def ts : List (TypeId × Ty) := [(22, t22), (96, t96)]

/-- WHAT THE LAW's CONTRACT GIVES, for every argument and every world that holds the tables. -/
theorem contract (H : Type) (enc : TypeId × Value → H) (W : World) (base : Nat) (args : Array Value) (ds gs : List (DataW H)) (before : List MemPlace)
  (hval : ∀ (j : Nat) t v, Tryz.f9.params[j]? = some t → args[j]? = some v → Value.okWide Tryz.prog W .any base t v)
  (hW : DataW.Whole enc Tryz.prog Tryz.f9.params.toList Rows.centreSteadySpec.vars false W args.toList ds gs before) (hL : laidMetH Tryz.prog Rows.centreSteadyRow.laid W) (hsh : W.ShapedOpen Tryz.prog) :
  Calls Tryz.prog 9 args W fun e W' => ∃ v, e = .returned v ∧ Rows.centreSteadySpec.post enc Tryz.prog Tryz.f9 false true false false W args v W' :=
 yNT (ts := ts) (f := 9) (m := fun x => Go.Tw.zn_M x.1 x.2.1) (tb := 4) Go.Tw.ySD (by kernel_rfl) (by kernel_rfl) Tryz.underlying4 (by unfold ts; intro q hq; simp only [List.mem_cons, List.not_mem_nil, or_false] at hq; rcases hq with rfl | rfl <;> kernel_rfl)
  (by kernel_rfl) (by unfold ts; intro q hq; simp only [List.mem_cons, List.not_mem_nil, or_false] at hq; rcases hq with rfl | rfl <;> exact ⟨by kernel_rfl, of_decide_eq_true (by kernel_rfl)⟩) rfl
  (fun ds hd => by
   match ds, hd with
   | [d1, d2], _ => rfl)
  (fun x hw => Go.Tw.yHV x.1 x.2.1 hw.2.1.1 (fun y hy => Go.Tw.yQs (hw.2.1.2 y hy))) W base args ds gs before hval hW (glob hL hsh)

def yMJ : Array Value := #[.slice none 0 0, .agg #[.int .u8 0, .int .u8 0]]
theorem yMK (os : Os) : laidMet Tryz.prog Rows.centreSteadyRow.laid ((y8Q os).forCall (fun _ _ => 0) ⟨#[], yMJ, []⟩).memory :=
 laidMet_of_run' 8 (by kernel_rfl) (by kernel_rfl)
def wds (H : Type) : List (DataW H) := [.nil, .agg [.lit (.int .u8 0), .lit (.int .u8 0)]]
theorem reads (os : Os) {H : Type} (enc : TypeId × Value → H) : ∃ places, DataW.whole enc Tryz.prog ((y8Q os).forCall (fun _ _ => 0) ⟨#[], yMJ, []⟩).memory Tryz.f9.params.toList Rows.centreSteadySpec.vars false yMJ.toList 8 = some (wds H, [], places) :=
 ⟨[], by kernel_rfl⟩

theorem lifted (os : Os) (started : os.Started) (H : Type) (enc : TypeId × Value → H) (F : Stop.Interp) :
  ReturnsInHanded {} Tryz.checked os 9 .any ((OpenSpec.ofChange Rows.centreSteadySpec).preRow enc Tryz.prog Tryz.f9 Rows.centreSteadyRow.domain false Rows.centreSteadyRow.laid) (((OpenSpec.ofChange Rows.centreSteadySpec).at F).post enc Tryz.prog Tryz.f9 false true false false) := by
 obtain ⟨places, hx⟩ := reads os enc
 refine returnsInHanded_of_row (C := Tryz.checked) (s := OpenSpec.ofChange Rows.centreSteadySpec) own started (by kernel_rfl) Tryz.func9
  (witness_row_at (enc := enc) (C := Tryz.checked) false (y8Q os) yMJ rfl (by kernel_rfl) (by kernel_rfl) (by kernel_rfl)
   (OpenSpec.preRow_of_cond 8 hx (by kernel_rfl) (fun k hk => by cases hk) (by kernel_rfl) (yMK os))) ?_
 intro W base args ds gs before hval hW _ _ _ hL hsh _
 exact contract H enc W base args ds gs before hval hW hL hsh

theorem named : Tryz.prog.funcNamed "tideway/tidewaylaw10.CentreSteady" = some 9 := by kernel_rfl
theorem c1 : yJU Tryz.prog 9 Tryz.f9 (OpenSpec.ofChange Rows.centreSteadySpec).bare Rows.centreSteadyRow = true := by kernel_rfl
theorem c2 : yIq Tryz.prog 9 Tryz.f9 (OpenSpec.ofChange Rows.centreSteadySpec).bare Rows.centreSteadyRow = true := by kernel_rfl
theorem c3 : yII Tryz.prog 9 Tryz.f9 (OpenSpec.ofChange Rows.centreSteadySpec).bare Rows.centreSteadyRow = true := by kernel_rfl
theorem c4 : yJZ Tryz.prog 9 Tryz.f9 (OpenSpec.ofChange Rows.centreSteadySpec).bare Rows.centreSteadyRow = true := by kernel_rfl
theorem c5 : yIu Tryz.prog 9 Tryz.f9 (OpenSpec.ofChange Rows.centreSteadySpec).bare Rows.centreSteadyRow = true := by kernel_rfl
theorem c6 : yJt Tryz.prog 9 Tryz.f9 (OpenSpec.ofChange Rows.centreSteadySpec).bare Rows.centreSteadyRow = true := by kernel_rfl
theorem c7 : yHw Tryz.prog 9 Tryz.f9 (OpenSpec.ofChange Rows.centreSteadySpec).bare Rows.centreSteadyRow = true := by kernel_rfl
theorem c8 : yJq Tryz.prog 9 Tryz.f9 (OpenSpec.ofChange Rows.centreSteadySpec).bare Rows.centreSteadyRow = true := by kernel_rfl
theorem c9 : yIg Tryz.prog 9 Tryz.f9 (OpenSpec.ofChange Rows.centreSteadySpec).bare Rows.centreSteadyRow = true := by kernel_rfl
theorem inst : Tryz.f9.isInstance Tryz.prog Rows.centreSteadyRow.origin Rows.centreSteadyRow.targs := of_decide_eq_true (by kernel_rfl)
theorem wrapper : Tryz.f9.isWrapper Tryz.prog Rows.centreSteadyRow.wrapper Rows.centreSteadyRow.mainSum := by
 unfold Func.isWrapper
 first | (rw [if_pos (by decide +kernel)]; kernel_rfl) | (rw [if_neg (by decide +kernel)]; exact ⟨rfl, rfl⟩)

theorem said : Rows.CentreSteadySaid :=
 OpenClaim.holds_of_cond 9 Tryz.f9 rfl rfl rfl rfl rfl rfl rfl ⟨rfl, rfl, rfl, rfl, rfl⟩ rfl rfl rfl rfl rfl named Tryz.func9 (yJe c1 c2 c3 c4 c5 c6 c7 c8 c9) inst wrapper
  (fun os started H enc _ F => by rw [OpenClaim.pre_eq_preRow]; exact lifted os started H enc F)

theorem plain (f : FuncId) (fn : Func) (hf : Tryz.pinned.checked.prog.funcNamed "tideway/tidewaylaw10.CentreSteady" = some f) (hfn : Tryz.pinned.checked.prog.funcs[f]? = some fn) :
  false = Tryz.pinned.checked.prog.looks [] ∧ ∀ (j : Nat) t, fn.params[j]? = some t → Tryz.pinned.checked.prog.wantsStandIn t = false := by
 obtain rfl : f = 9 := Option.some.inj (named.symm.trans hf) |>.symm
 obtain rfl : fn = Tryz.f9 := (Option.some.inj (Tryz.func9.symm.trans hfn)).symm
 refine ⟨by kernel_rfl, fun j t ht => ?_⟩
 have h : (Tryz.f9.params.toList.all fun t => !Tryz.prog.wantsStandIn t) = true := by kernel_rfl
 have := List.all_eq_true.1 h t (by simpa using Array.mem_of_getElem? ht)
 show Tryz.prog.wantsStandIn t = false
 simpa using this

/-- THE CARD -/
theorem k1 : Rows.centreSteadyRow.wfByText (OpenSpec.ofChange Rows.centreSteadySpec) = true := by kernel_rfl
theorem k2 : Tryz.pinned.checked.prog.mainIs = some (true, "dff214c9163f6c05e0717f865add6ef767c25055a12d34f6adbf980af0759abf".toList) := by kernel_rfl
theorem k3 : false = Rows.centreSteadyRow.goesBy Tryz.pinned.checked.prog := by kernel_rfl
theorem card : Rows.CentreSteadyCardSaid :=
 Claim7.holds_tied_plain_at .later (p := Tryz.pinned) (s := OpenSpec.ofChange Rows.centreSteadySpec) (c := Rows.centreSteadyRow) [] [.data, .data, .data, .data, .pinned] true (true, "dff214c9163f6c05e0717f865add6ef767c25055a12d34f6adbf980af0759abf") false said (fun _ h => by cases h) k1 (fun _ h => by cases h) centreSteady_row_tie rfl ⟨rfl, rfl⟩ k2 rfl plain k3
end Go.Proofs.YtemgjgkbgkeknaaGreatDoor.tCentreSteady
#print axioms Go.Proofs.YtemgjgkbgkeknaaGreatDoor.tCentreSteady.card
