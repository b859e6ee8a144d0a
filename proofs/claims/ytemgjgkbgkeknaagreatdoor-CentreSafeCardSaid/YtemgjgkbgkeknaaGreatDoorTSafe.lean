/- For every list of events, of whatever sizes: tidewaylaw10.CentreSafe answers true, and what came in reads as before. Its conditions: the tables of Go's library that the row lists hold what they are laid to hold. -/
import Derived.Test.YtemgjgkbgkeknaaGreatDoorT0
import Derived.Test.YtemgjgkbgkeknaaGreatDoorP16

set_option linter.all false
set_option maxRecDepth 100000
namespace Go.Proofs.YtemgjgkbgkeknaaGreatDoor.tCentreSafe
open Go.ChangeShapes Go.WideShapes Go.ChangeAt Go.RowKit Go.Vx Go.Vx.B Go.Proofs.YtemgjgkbgkeknaaGreatDoor.rows

def ts : List (TypeId × Ty) := [(22, t22)]

/-- WHAT THE LAW's CONTRACT GIVES, for every argument and every world that holds the tables. -/
theorem contract (H : Type) (enc : TypeId × Value → H) (W : World) (base : Nat) (args : Array Value) (ds gs : List (DataW H)) (before : List MemPlace)
  (hval : ∀ (j : Nat) t v, Tryz.f4.params[j]? = some t → args[j]? = some v → Value.okWide Tryz.prog W .any base t v)
  (hW : DataW.Whole enc Tryz.prog Tryz.f4.params.toList Rows.centreSafeSpec.vars false W args.toList ds gs before) (hL : laidMetH Tryz.prog Rows.centreSafeRow.laid W) (hsh : W.ShapedOpen Tryz.prog) :
  Calls Tryz.prog 4 args W fun e W' => ∃ v, e = .returned v ∧ Rows.centreSafeSpec.post enc Tryz.prog Tryz.f4 false true false false W args v W' :=
 yMa (ts := ts) (f := 4) (m := fun x => Go.Tw.zu_M x.1) (tb := 4) Go.Tw.yRV (by kernel_rfl) (by kernel_rfl) Tryz.underlying4 (by unfold ts; intro q hq; simp only [List.mem_cons, List.not_mem_nil, or_false] at hq; rcases hq with rfl <;> kernel_rfl)
  (by kernel_rfl) (by unfold ts; intro q hq; simp only [List.mem_cons, List.not_mem_nil, or_false] at hq; rcases hq with rfl <;> exact ⟨by kernel_rfl, of_decide_eq_true (by kernel_rfl)⟩) rfl
  (fun ds hd => by
   match ds, hd with
   | [d1], _ => rfl)
  (fun x hw => Go.Tw.yJi x.1) W base args ds gs before hval hW (glob hL hsh)

def yKO : Array Value := #[.slice none 0 0]
theorem yK8 (os : Os) : laidMet Tryz.prog Rows.centreSafeRow.laid ((y7q os).forCall (fun _ _ => 0) ⟨#[], yKO, []⟩).memory :=
 laidMet_of_run' 8 (by kernel_rfl) (by kernel_rfl)
def wds (H : Type) : List (DataW H) := [.nil]
theorem reads (os : Os) {H : Type} (enc : TypeId × Value → H) : ∃ places, DataW.whole enc Tryz.prog ((y7q os).forCall (fun _ _ => 0) ⟨#[], yKO, []⟩).memory Tryz.f4.params.toList Rows.centreSafeSpec.vars false yKO.toList 8 = some (wds H, [], places) :=
 ⟨[], by kernel_rfl⟩

theorem lifted (os : Os) (started : os.Started) (H : Type) (enc : TypeId × Value → H) (F : Stop.Interp) :
  ReturnsInHanded {} Tryz.checked os 4 .any ((OpenSpec.ofChange Rows.centreSafeSpec).preRow enc Tryz.prog Tryz.f4 Rows.centreSafeRow.domain false Rows.centreSafeRow.laid) (((OpenSpec.ofChange Rows.centreSafeSpec).at F).post enc Tryz.prog Tryz.f4 false true false false) := by
 obtain ⟨places, hx⟩ := reads os enc
 refine returnsInHanded_of_row (C := Tryz.checked) (s := OpenSpec.ofChange Rows.centreSafeSpec) own started (by kernel_rfl) Tryz.func4
  (witness_row_at (enc := enc) (C := Tryz.checked) false (y7q os) yKO rfl (by kernel_rfl) (by kernel_rfl) (by kernel_rfl)
   (OpenSpec.preRow_of_cond 8 hx (by kernel_rfl) (fun k hk => by cases hk) (by kernel_rfl) (yK8 os))) ?_
 intro W base args ds gs before hval hW _ _ _ hL hsh _
 exact contract H enc W base args ds gs before hval hW hL hsh

theorem named : Tryz.prog.funcNamed "tideway/tidewaylaw10.CentreSafe" = some 4 := by kernel_rfl
theorem c1 : yIU Tryz.prog 4 Tryz.f4 (OpenSpec.ofChange Rows.centreSafeSpec).bare Rows.centreSafeRow = true := by kernel_rfl
theorem c2 : yHd Tryz.prog 4 Tryz.f4 (OpenSpec.ofChange Rows.centreSafeSpec).bare Rows.centreSafeRow = true := by kernel_rfl
theorem c3 : yJg Tryz.prog 4 Tryz.f4 (OpenSpec.ofChange Rows.centreSafeSpec).bare Rows.centreSafeRow = true := by kernel_rfl
theorem c4 : yIO Tryz.prog 4 Tryz.f4 (OpenSpec.ofChange Rows.centreSafeSpec).bare Rows.centreSafeRow = true := by kernel_rfl
theorem c5 : yIi Tryz.prog 4 Tryz.f4 (OpenSpec.ofChange Rows.centreSafeSpec).bare Rows.centreSafeRow = true := by kernel_rfl
theorem c6 : yJK Tryz.prog 4 Tryz.f4 (OpenSpec.ofChange Rows.centreSafeSpec).bare Rows.centreSafeRow = true := by kernel_rfl
theorem c7 : yJf Tryz.prog 4 Tryz.f4 (OpenSpec.ofChange Rows.centreSafeSpec).bare Rows.centreSafeRow = true := by kernel_rfl
theorem c8 : yJ9 Tryz.prog 4 Tryz.f4 (OpenSpec.ofChange Rows.centreSafeSpec).bare Rows.centreSafeRow = true := by kernel_rfl
theorem c9 : yIg Tryz.prog 4 Tryz.f4 (OpenSpec.ofChange Rows.centreSafeSpec).bare Rows.centreSafeRow = true := by kernel_rfl
theorem inst : Tryz.f4.isInstance Tryz.prog Rows.centreSafeRow.origin Rows.centreSafeRow.targs := of_decide_eq_true (by kernel_rfl)
theorem wrapper : Tryz.f4.isWrapper Tryz.prog Rows.centreSafeRow.wrapper Rows.centreSafeRow.mainSum := by
 unfold Func.isWrapper
 first | (rw [if_pos (by decide +kernel)]; kernel_rfl) | (rw [if_neg (by decide +kernel)]; exact ⟨rfl, rfl⟩)

theorem said : Rows.CentreSafeSaid :=
 OpenClaim.holds_of_cond 4 Tryz.f4 rfl rfl rfl rfl rfl rfl rfl ⟨rfl, rfl, rfl, rfl, rfl⟩ rfl rfl rfl rfl rfl named Tryz.func4 (yJa c1 c2 c3 c4 c5 c6 c7 c8 c9) inst wrapper
  (fun os started H enc _ F => by rw [OpenClaim.pre_eq_preRow]; exact lifted os started H enc F)

theorem plain (f : FuncId) (fn : Func) (hf : Tryz.pinned.checked.prog.funcNamed "tideway/tidewaylaw10.CentreSafe" = some f) (hfn : Tryz.pinned.checked.prog.funcs[f]? = some fn) :
  false = Tryz.pinned.checked.prog.looks [] ∧ ∀ (j : Nat) t, fn.params[j]? = some t → Tryz.pinned.checked.prog.wantsStandIn t = false := by
 obtain rfl : f = 4 := Option.some.inj (named.symm.trans hf) |>.symm
 obtain rfl : fn = Tryz.f4 := (Option.some.inj (Tryz.func4.symm.trans hfn)).symm
 refine ⟨by kernel_rfl, fun j t ht => ?_⟩
 have h : (Tryz.f4.params.toList.all fun t => !Tryz.prog.wantsStandIn t) = true := by kernel_rfl
 have := List.all_eq_true.1 h t (by simpa using Array.mem_of_getElem? ht)
 show Tryz.prog.wantsStandIn t = false
 simpa using this

/-- THE CARD -/
theorem k1 : Rows.centreSafeRow.wfByText (OpenSpec.ofChange Rows.centreSafeSpec) = true := by kernel_rfl
theorem k2 : Tryz.pinned.checked.prog.mainIs = some (true, "dff214c9163f6c05e0717f865add6ef767c25055a12d34f6adbf980af0759abf".toList) := by kernel_rfl
theorem k3 : false = Rows.centreSafeRow.goesBy Tryz.pinned.checked.prog := by kernel_rfl
theorem card : Rows.CentreSafeCardSaid :=
 Claim7.holds_tied_plain_at .later (p := Tryz.pinned) (s := OpenSpec.ofChange Rows.centreSafeSpec) (c := Rows.centreSafeRow) [] [.data, .data, .data, .data, .pinned] true (true, "dff214c9163f6c05e0717f865add6ef767c25055a12d34f6adbf980af0759abf") false said (fun _ h => by cases h) k1 (fun _ h => by cases h) centreSafe_row_tie rfl ⟨rfl, rfl⟩ k2 rfl plain k3
end Go.Proofs.YtemgjgkbgkeknaaGreatDoor.tCentreSafe
#print axioms Go.Proofs.YtemgjgkbgkeknaaGreatDoor.tCentreSafe.card
