/- For every list of events and each small number, of whatever sizes: tidewaylaw10.CentrePast answers true, and what came in reads as before. Its conditions: the tables of Go's library that the row lists hold what they are laid to hold. -/
import Derived.Test.YtemgjgkbgkeknaaGreatDoorT0
import Derived.Test.YtemgjgkbgkeknaaGreatDoorPV

set_option linter.all false
set_option maxRecDepth 100000
namespace Go.Proofs.YtemgjgkbgkeknaaGreatDoor.tCentrePast
open Go.ChangeShapes Go.WideShapes Go.ChangeAt Go.RowKit Go.Vx Go.Vx.B Go.Proofs.YtemgjgkbgkeknaaGreatDoor.rows

def ts : List (TypeId × Ty) := [(22, t22), (5, t5)]

/-- WHAT THE LAW's CONTRACT GIVES, for every argument and every world that holds the tables. -/
theorem contract (H : Type) (enc : TypeId × Value → H) (W : World) (base : Nat) (args : Array Value) (ds gs : List (DataW H)) (before : List MemPlace)
  (hval : ∀ (j : Nat) t v, Tryz.f10.params[j]? = some t → args[j]? = some v → Value.okWide Tryz.prog W .any base t v)
  (hW : DataW.Whole enc Tryz.prog Tryz.f10.params.toList Rows.centrePastSpec.vars false W args.toList ds gs before) (hL : laidMetH Tryz.prog Rows.centrePastRow.laid W) (hsh : W.ShapedOpen Tryz.prog) :
  Calls Tryz.prog 10 args W fun e W' => ∃ v, e = .returned v ∧ Rows.centrePastSpec.post enc Tryz.prog Tryz.f10 false true false false W args v W' :=
 yNV (ts := ts) (f := 10) (m := fun x => Go.Tw.zu_M x.1 x.2.1) (tb := 4) Go.Tw.yRi (by kernel_rfl) (by kernel_rfl) Tryz.underlying4 (by unfold ts; intro q hq; simp only [List.mem_cons, List.not_mem_nil, or_false] at hq; rcases hq with rfl | rfl <;> kernel_rfl)
  (by kernel_rfl) (by unfold ts; intro q hq; simp only [List.mem_cons, List.not_mem_nil, or_false] at hq; rcases hq with rfl | rfl <;> exact ⟨by kernel_rfl, of_decide_eq_true (by kernel_rfl)⟩) rfl
  (fun ds hd => by
   match ds, hd with
   | [d1, d2], _ => rfl)
  (fun x hw => Go.Tw.yJp x.1 x.2.1 (Go.Tw.yR0 hw.2.1)) W base args ds gs before hval hW (glob hL hsh)

def yL9 : Array Value := #[.slice none 0 0, .int .u8 0]
theorem yLT (os : Os) : laidMet Tryz.prog Rows.centrePastRow.laid ((y83 os).forCall (fun _ _ => 0) ⟨#[], yL9, []⟩).memory :=
 laidMet_of_run' 8 (by kernel_rfl) (by kernel_rfl)
def wds (H : Type) : List (DataW H) := [.nil, .lit (.int .u8 0)]
theorem reads (os : Os) {H : Type} (enc : TypeId × Value → H) : ∃ places, DataW.whole enc Tryz.prog ((y83 os).forCall (fun _ _ => 0) ⟨#[], yL9, []⟩).memory Tryz.f10.params.toList Rows.centrePastSpec.vars false yL9.toList 8 = some (wds H, [], places) :=
 ⟨[], by kernel_rfl⟩

theorem lifted (os : Os) (started : os.Started) (H : Type) (enc : TypeId × Value → H) (F : Stop.Interp) :
  ReturnsInHanded {} Tryz.checked os 10 .any ((OpenSpec.ofChange Rows.centrePastSpec).preRow enc Tryz.prog Tryz.f10 Rows.centrePastRow.domain false Rows.centrePastRow.laid) (((OpenSpec.ofChange Rows.centrePastSpec).at F).post enc Tryz.prog Tryz.f10 false true false false) := by
 obtain ⟨places, hx⟩ := reads os enc
 refine returnsInHanded_of_row (C := Tryz.checked) (s := OpenSpec.ofChange Rows.centrePastSpec) own started (by kernel_rfl) Tryz.func10
  (witness_row_at (enc := enc) (C := Tryz.checked) false (y83 os) yL9 rfl (by kernel_rfl) (by kernel_rfl) (by kernel_rfl)
   (OpenSpec.preRow_of_cond 8 hx (by kernel_rfl) (fun k hk => by cases hk) (by kernel_rfl) (yLT os))) ?_
 intro W base args ds gs before hval hW _ _ _ hL hsh _
 exact contract H enc W base args ds gs before hval hW hL hsh

theorem named : Tryz.prog.funcNamed "tideway/tidewaylaw10.CentrePast" = some 10 := by kernel_rfl
theorem c1 : yIj Tryz.prog 10 Tryz.f10 (OpenSpec.ofChange Rows.centrePastSpec).bare Rows.centrePastRow = true := by kernel_rfl
theorem c2 : yIy Tryz.prog 10 Tryz.f10 (OpenSpec.ofChange Rows.centrePastSpec).bare Rows.centrePastRow = true := by kernel_rfl
theorem c3 : yIp Tryz.prog 10 Tryz.f10 (OpenSpec.ofChange Rows.centrePastSpec).bare Rows.centrePastRow = true := by kernel_rfl
theorem c4 : yHA Tryz.prog 10 Tryz.f10 (OpenSpec.ofChange Rows.centrePastSpec).bare Rows.centrePastRow = true := by kernel_rfl
theorem c5 : yJS Tryz.prog 10 Tryz.f10 (OpenSpec.ofChange Rows.centrePastSpec).bare Rows.centrePastRow = true := by kernel_rfl
theorem c6 : yIV Tryz.prog 10 Tryz.f10 (OpenSpec.ofChange Rows.centrePastSpec).bare Rows.centrePastRow = true := by kernel_rfl
theorem c7 : yJi Tryz.prog 10 Tryz.f10 (OpenSpec.ofChange Rows.centrePastSpec).bare Rows.centrePastRow = true := by kernel_rfl
theorem c8 : yJE Tryz.prog 10 Tryz.f10 (OpenSpec.ofChange Rows.centrePastSpec).bare Rows.centrePastRow = true := by kernel_rfl
theorem c9 : yIS Tryz.prog 10 Tryz.f10 (OpenSpec.ofChange Rows.centrePastSpec).bare Rows.centrePastRow = true := by kernel_rfl
theorem inst : Tryz.f10.isInstance Tryz.prog Rows.centrePastRow.origin Rows.centrePastRow.targs := of_decide_eq_true (by kernel_rfl)
theorem wrapper : Tryz.f10.isWrapper Tryz.prog Rows.centrePastRow.wrapper Rows.centrePastRow.mainSum := by
 unfold Func.isWrapper
 first | (rw [if_pos (by decide +kernel)]; kernel_rfl) | (rw [if_neg (by decide +kernel)]; exact ⟨rfl, rfl⟩)

theorem said : Rows.CentrePastSaid :=
 OpenClaim.holds_of_cond 10 Tryz.f10 rfl rfl rfl rfl rfl rfl rfl ⟨rfl, rfl, rfl, rfl, rfl⟩ rfl rfl rfl rfl rfl named Tryz.func10 (yHj c1 c2 c3 c4 c5 c6 c7 c8 c9) inst wrapper
  (fun os started H enc _ F => by rw [OpenClaim.pre_eq_preRow]; exact lifted os started H enc F)

theorem plain (f : FuncId) (fn : Func) (hf : Tryz.pinned.checked.prog.funcNamed "tideway/tidewaylaw10.CentrePast" = some f) (hfn : Tryz.pinned.checked.prog.funcs[f]? = some fn) :
  false = Tryz.pinned.checked.prog.looks [] ∧ ∀ (j : Nat) t, fn.params[j]? = some t → Tryz.pinned.checked.prog.wantsStandIn t = false := by
 obtain rfl : f = 10 := Option.some.inj (named.symm.trans hf) |>.symm
 obtain rfl : fn = Tryz.f10 := (Option.some.inj (Tryz.func10.symm.trans hfn)).symm
 refine ⟨by kernel_rfl, fun j t ht => ?_⟩
 have h : (Tryz.f10.params.toList.all fun t => !Tryz.prog.wantsStandIn t) = true := by kernel_rfl
 have := List.all_eq_true.1 h t (by simpa using Array.mem_of_getElem? ht)
 show Tryz.prog.wantsStandIn t = false
 simpa using this

/-- THE CARD -/
theorem k1 : Rows.centrePastRow.wfByText (OpenSpec.ofChange Rows.centrePastSpec) = true := by kernel_rfl
theorem k2 : Tryz.pinned.checked.prog.mainIs = some (true, "dff214c9163f6c05e0717f865add6ef767c25055a12d34f6adbf980af0759abf".toList) := by kernel_rfl
theorem k3 : false = Rows.centrePastRow.goesBy Tryz.pinned.checked.prog := by kernel_rfl
theorem card : Rows.CentrePastCardSaid :=
 Claim7.holds_tied_plain_at .later (p := Tryz.pinned) (s := OpenSpec.ofChange Rows.centrePastSpec) (c := Rows.centrePastRow) [] [.data, .data, .data, .data, .pinned] true (true, "dff214c9163f6c05e0717f865add6ef767c25055a12d34f6adbf980af0759abf") false said (fun _ h => by cases h) k1 (fun _ h => by cases h) centrePast_row_tie rfl ⟨rfl, rfl⟩ k2 rfl plain k3
end Go.Proofs.YtemgjgkbgkeknaaGreatDoor.tCentrePast
#print axioms Go.Proofs.YtemgjgkbgkeknaaGreatDoor.tCentrePast.card
