/- For all constituents, each start and all six bytes, of whatever sizes: tidewaylaw02.TideFound answers true, and what came in reads as before. Its conditions: the tables of Go's library that the row lists hold what they are laid to hold. -/
import Derived.Test.YtlaebedgpkiodaaGreatDoorT0
import Derived.Test.YtlaebedgpkiodaaGreatDoorPH4

set_option linter.all false
set_option maxRecDepth 100000
namespace Go.Proofs.YtlaebedgpkiodaaGreatDoor.tTideFound
open Go.ChangeShapes Go.WideShapes Go.ChangeAt Go.RowKit Go.Vx Go.Vx.B Go.Proofs.YtlaebedgpkiodaaGreatDoor.rows

def ts : List (TypeId × Ty) := [(22, t22), (23, t23), (24, t24)]

/-- WHAT THE LAW's CONTRACT GIVES, for every argument and every world that holds the tables. -/
theorem contract (H : Type) (enc : TypeId × Value → H) (W : World) (base : Nat) (args : Array Value) (ds gs : List (DataW H)) (before : List MemPlace)
  (hval : ∀ (j : Nat) t v, Tryz.f3.params[j]? = some t → args[j]? = some v → Value.okWide Tryz.prog W .any base t v)
  (hW : DataW.Whole enc Tryz.prog Tryz.f3.params.toList Rows.tideFoundSpec.vars false W args.toList ds gs before) (hL : laidMetH Tryz.prog Rows.tideFoundRow.laid W) :
  Calls Tryz.prog 3 args W fun e W' => ∃ v, e = .returned v ∧ Rows.tideFoundSpec.post enc Tryz.prog Tryz.f3 false true false false W args v W' :=
 yQ4 (ts := ts) (f := 3) (m := fun x => Go.Tw.zf_M x.1 x.2.1 x.2.2.1) (tb := 4) Go.Tw.yUP (by kernel_rfl) (by kernel_rfl) Tryz.underlying4 (by unfold ts; intro q hq; simp only [List.mem_cons, List.not_mem_nil, or_false] at hq; rcases hq with rfl | rfl | rfl <;> kernel_rfl)
  (by kernel_rfl) (by unfold ts; intro q hq; simp only [List.mem_cons, List.not_mem_nil, or_false] at hq; rcases hq with rfl | rfl | rfl <;> exact ⟨by kernel_rfl, of_decide_eq_true (by kernel_rfl)⟩) rfl
  (fun ds hd => by
   match ds, hd with
   | [d1, d2, d3], _ => rfl)
  (fun x hw => Go.Tw.yOH x.1 x.2.1 x.2.2.1 (Nat.lt_of_le_of_lt hw.1.1 (Nat.lt_of_sub_pos (by decide))) hw.2.1 hw.2.2.1) W base args ds gs before hval hW (glob hL)

def yMP : Array Value := #[.slice none 0 0, .int .u16 0, .agg #[.int .u8 0, .int .u8 0, .int .u8 0, .int .u8 0, .int .u8 0, .int .u8 0]]
theorem yML (os : Os) : laidMet Tryz.prog Rows.tideFoundRow.laid ((y8E os).forCall (fun _ _ => 0) ⟨#[], yMP, []⟩).memory :=
 laidMet_of_run' 8 (by kernel_rfl) (by kernel_rfl)
def wds (H : Type) : List (DataW H) := [.nil, .lit (.int .u16 0), .agg [.lit (.int .u8 0), .lit (.int .u8 0), .lit (.int .u8 0), .lit (.int .u8 0), .lit (.int .u8 0), .lit (.int .u8 0)]]
theorem reads (os : Os) {H : Type} (enc : TypeId × Value → H) : ∃ places, DataW.whole enc Tryz.prog ((y8E os).forCall (fun _ _ => 0) ⟨#[], yMP, []⟩).memory Tryz.f3.params.toList Rows.tideFoundSpec.vars false yMP.toList 8 = some (wds H, [], places) :=
 ⟨[], by kernel_rfl⟩

theorem lifted (os : Os) (started : os.Started) (H : Type) (enc : TypeId × Value → H) (F : Stop.Interp) :
  ReturnsInHanded {} Tryz.checked os 3 .any ((OpenSpec.ofChange Rows.tideFoundSpec).preRow enc Tryz.prog Tryz.f3 Rows.tideFoundRow.domain false Rows.tideFoundRow.laid) (((OpenSpec.ofChange Rows.tideFoundSpec).at F).post enc Tryz.prog Tryz.f3 false true false false) := by
 obtain ⟨places, hx⟩ := reads os enc
 refine returnsInHanded_of_row (C := Tryz.checked) (s := OpenSpec.ofChange Rows.tideFoundSpec) own started (by kernel_rfl) Tryz.func3
  (witness_row_at (enc := enc) (C := Tryz.checked) false (y8E os) yMP rfl (by kernel_rfl) (by kernel_rfl) (by kernel_rfl)
   (OpenSpec.preRow_of_cond 8 hx (by kernel_rfl) (fun k hk => by cases hk) (by kernel_rfl) (yML os))) ?_
 intro W base args ds gs before hval hW _ _ _ hL _ _
 exact contract H enc W base args ds gs before hval hW hL

theorem named : Tryz.prog.funcNamed "tideway/tidewaylaw02.TideFound" = some 3 := by kernel_rfl
theorem c1 : yIy Tryz.prog 3 Tryz.f3 (OpenSpec.ofChange Rows.tideFoundSpec).bare Rows.tideFoundRow = true := by kernel_rfl
theorem c2 : yIw Tryz.prog 3 Tryz.f3 (OpenSpec.ofChange Rows.tideFoundSpec).bare Rows.tideFoundRow = true := by kernel_rfl
theorem c3 : yLc Tryz.prog 3 Tryz.f3 (OpenSpec.ofChange Rows.tideFoundSpec).bare Rows.tideFoundRow = true := by kernel_rfl
theorem c4 : yJk Tryz.prog 3 Tryz.f3 (OpenSpec.ofChange Rows.tideFoundSpec).bare Rows.tideFoundRow = true := by kernel_rfl
theorem c5 : yJM Tryz.prog 3 Tryz.f3 (OpenSpec.ofChange Rows.tideFoundSpec).bare Rows.tideFoundRow = true := by kernel_rfl
theorem c6 : yLz Tryz.prog 3 Tryz.f3 (OpenSpec.ofChange Rows.tideFoundSpec).bare Rows.tideFoundRow = true := by kernel_rfl
theorem c7 : yL8 Tryz.prog 3 Tryz.f3 (OpenSpec.ofChange Rows.tideFoundSpec).bare Rows.tideFoundRow = true := by kernel_rfl
theorem c8 : yLq Tryz.prog 3 Tryz.f3 (OpenSpec.ofChange Rows.tideFoundSpec).bare Rows.tideFoundRow = true := by kernel_rfl
theorem c9 : yKP Tryz.prog 3 Tryz.f3 (OpenSpec.ofChange Rows.tideFoundSpec).bare Rows.tideFoundRow = true := by kernel_rfl
theorem inst : Tryz.f3.isInstance Tryz.prog Rows.tideFoundRow.origin Rows.tideFoundRow.targs := of_decide_eq_true (by kernel_rfl)
theorem wrapper : Tryz.f3.isWrapper Tryz.prog Rows.tideFoundRow.wrapper Rows.tideFoundRow.mainSum := by
 unfold Func.isWrapper
 first | (rw [if_pos (by decide +kernel)]; kernel_rfl) | (rw [if_neg (by decide +kernel)]; exact ⟨rfl, rfl⟩)

theorem said : Rows.TideFoundSaid :=
 OpenClaim.holds_of_cond 3 Tryz.f3 rfl rfl rfl rfl rfl rfl rfl ⟨rfl, rfl, rfl, rfl, rfl⟩ rfl rfl rfl rfl rfl named Tryz.func3 (yKX c1 c2 c3 c4 c5 c6 c7 c8 c9) inst wrapper
  (fun os started H enc _ F => by rw [OpenClaim.pre_eq_preRow]; exact lifted os started H enc F)

theorem plain (f : FuncId) (fn : Func) (hf : Tryz.pinned.checked.prog.funcNamed "tideway/tidewaylaw02.TideFound" = some f) (hfn : Tryz.pinned.checked.prog.funcs[f]? = some fn) :
  true = Tryz.pinned.checked.prog.looks [] ∧ ∀ (j : Nat) t, fn.params[j]? = some t → Tryz.pinned.checked.prog.wantsStandIn t = false := by
 obtain rfl : f = 3 := Option.some.inj (named.symm.trans hf) |>.symm
 obtain rfl : fn = Tryz.f3 := (Option.some.inj (Tryz.func3.symm.trans hfn)).symm
 refine ⟨by kernel_rfl, fun j t ht => ?_⟩
 have h : (Tryz.f3.params.toList.all fun t => !Tryz.prog.wantsStandIn t) = true := by kernel_rfl
 have := List.all_eq_true.1 h t (by simpa using Array.mem_of_getElem? ht)
 show Tryz.prog.wantsStandIn t = false
 simpa using this

/-- THE CARD -/
theorem k1 : Rows.tideFoundRow.wfByText (OpenSpec.ofChange Rows.tideFoundSpec) = true := by kernel_rfl
theorem k2 : Tryz.pinned.checked.prog.mainIs = some (true, "14d035ed2a22feea3eb749ee8f1feb293c8faa70b674104b9e23238b29db1d8d".toList) := by kernel_rfl
theorem k3 : false = Rows.tideFoundRow.goesBy Tryz.pinned.checked.prog := by kernel_rfl
theorem card : Rows.TideFoundCardSaid :=
 Claim7.holds_tied_plain_at .later (p := Tryz.pinned) (s := OpenSpec.ofChange Rows.tideFoundSpec) (c := Rows.tideFoundRow) [] [.data, .data, .data, .data, .data] true (true, "14d035ed2a22feea3eb749ee8f1feb293c8faa70b674104b9e23238b29db1d8d") true said (fun _ h => by cases h) k1 (fun _ h => by cases h) tideFound_row_tie rfl ⟨rfl, rfl⟩ k2 rfl plain k3
end Go.Proofs.YtlaebedgpkiodaaGreatDoor.tTideFound
#print axioms Go.Proofs.YtlaebedgpkiodaaGreatDoor.tTideFound.card
