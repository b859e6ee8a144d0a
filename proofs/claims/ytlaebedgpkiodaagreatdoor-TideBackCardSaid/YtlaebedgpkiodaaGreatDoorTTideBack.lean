/- For every tide and each string, of whatever sizes: tidewaylaw02.TideBack answers true, and what came in reads as before. Its conditions: the tables of Go's library that the row lists hold what they are laid to hold. -/
import Derived.Test.YtlaebedgpkiodaaGreatDoorT0
import Derived.Test.YtlaebedgpkiodaaGreatDoorPZ

set_option linter.all false
set_option maxRecDepth 100000
namespace Go.Proofs.YtlaebedgpkiodaaGreatDoor.tTideBack
open Go.ChangeShapes Go.WideShapes Go.ChangeAt Go.RowKit Go.Vx Go.Vx.B Go.Proofs.YtlaebedgpkiodaaGreatDoor.rows

def ts : List (TypeId × Ty) := [(58, t58), (9, t9)]

/-- WHAT THE LAW's CONTRACT GIVES, for every argument and every world that holds the tables. -/
theorem contract (H : Type) (enc : TypeId × Value → H) (W : World) (base : Nat) (args : Array Value) (ds gs : List (DataW H)) (before : List MemPlace)
  (hval : ∀ (j : Nat) t v, Tryz.f5.params[j]? = some t → args[j]? = some v → Value.okWide Tryz.prog W .any base t v)
  (hW : DataW.Whole enc Tryz.prog Tryz.f5.params.toList Rows.tideBackSpec.vars false W args.toList ds gs before) (hL : laidMetH Tryz.prog Rows.tideBackRow.laid W) (hsh : W.ShapedOpen Tryz.prog) :
  Calls Tryz.prog 5 args W fun e W' => ∃ v, e = .returned v ∧ Rows.tideBackSpec.post enc Tryz.prog Tryz.f5 false true false false W args v W' :=
 yNR (ts := ts) (f := 5) (m := fun x => Go.Tw.zp_M x.1 x.2.1) (tb := 4) Go.Tw.yRU (by kernel_rfl) (by kernel_rfl) Tryz.underlying4 (by unfold ts; intro q hq; simp only [List.mem_cons, List.not_mem_nil, or_false] at hq; rcases hq with rfl | rfl <;> kernel_rfl)
  (by kernel_rfl) (by unfold ts; intro q hq; simp only [List.mem_cons, List.not_mem_nil, or_false] at hq; rcases hq with rfl | rfl <;> exact ⟨by kernel_rfl, of_decide_eq_true (by kernel_rfl)⟩) rfl
  (fun ds hd => by
   match ds, hd with
   | [d1, d2], _ => rfl)
  (fun x hw => Go.Tw.yLA x.1 x.2.1 (Nat.lt_of_le_of_lt hw.1.1.1 (Nat.lt_of_sub_pos (by decide)))) W base args ds gs before hval hW (glob hL hsh)

def yL7 : Array Value := #[.agg #[.slice none 0 0, .slice none 0 0, .int .i64 0], .string ⟨#[]⟩]
theorem yJq (os : Os) : laidMet Tryz.prog Rows.tideBackRow.laid ((y8J os).forCall (fun _ _ => 0) ⟨#[], yL7, []⟩).memory :=
 laidMet_of_run' 8 (by kernel_rfl) (by kernel_rfl)
def wds (H : Type) : List (DataW H) := [.agg [.nil, .nil, .lit (.int .i64 0)], .lit (.string [])]
theorem reads (os : Os) {H : Type} (enc : TypeId × Value → H) : ∃ places, DataW.whole enc Tryz.prog ((y8J os).forCall (fun _ _ => 0) ⟨#[], yL7, []⟩).memory Tryz.f5.params.toList Rows.tideBackSpec.vars false yL7.toList 8 = some (wds H, [], places) :=
 ⟨[], by kernel_rfl⟩

theorem lifted (os : Os) (started : os.Started) (H : Type) (enc : TypeId × Value → H) (F : Stop.Interp) :
  ReturnsInHanded {} Tryz.checked os 5 .any ((OpenSpec.ofChange Rows.tideBackSpec).preRow enc Tryz.prog Tryz.f5 Rows.tideBackRow.domain false Rows.tideBackRow.laid) (((OpenSpec.ofChange Rows.tideBackSpec).at F).post enc Tryz.prog Tryz.f5 false true false false) := by
 obtain ⟨places, hx⟩ := reads os enc
 refine returnsInHanded_of_row (C := Tryz.checked) (s := OpenSpec.ofChange Rows.tideBackSpec) own started (by kernel_rfl) Tryz.func5
  (witness_row_at (enc := enc) (C := Tryz.checked) false (y8J os) yL7 rfl (by kernel_rfl) (by kernel_rfl) (by kernel_rfl)
   (OpenSpec.preRow_of_cond 8 hx (by kernel_rfl) (fun k hk => by cases hk) (by kernel_rfl) (yJq os))) ?_
 intro W base args ds gs before hval hW _ _ _ hL hsh _
 exact contract H enc W base args ds gs before hval hW hL hsh

theorem named : Tryz.prog.funcNamed "tideway/tidewaylaw02.TideBack" = some 5 := by kernel_rfl
theorem c1 : yHT Tryz.prog 5 Tryz.f5 (OpenSpec.ofChange Rows.tideBackSpec).bare Rows.tideBackRow = true := by kernel_rfl
theorem c2 : yJB Tryz.prog 5 Tryz.f5 (OpenSpec.ofChange Rows.tideBackSpec).bare Rows.tideBackRow = true := by kernel_rfl
theorem c3 : yHN Tryz.prog 5 Tryz.f5 (OpenSpec.ofChange Rows.tideBackSpec).bare Rows.tideBackRow = true := by kernel_rfl
theorem c4 : yIw Tryz.prog 5 Tryz.f5 (OpenSpec.ofChange Rows.tideBackSpec).bare Rows.tideBackRow = true := by kernel_rfl
theorem c5 : yJR Tryz.prog 5 Tryz.f5 (OpenSpec.ofChange Rows.tideBackSpec).bare Rows.tideBackRow = true := by kernel_rfl
theorem c6 : yIy Tryz.prog 5 Tryz.f5 (OpenSpec.ofChange Rows.tideBackSpec).bare Rows.tideBackRow = true := by kernel_rfl
theorem c7 : yH4 Tryz.prog 5 Tryz.f5 (OpenSpec.ofChange Rows.tideBackSpec).bare Rows.tideBackRow = true := by kernel_rfl
theorem c8 : yJI Tryz.prog 5 Tryz.f5 (OpenSpec.ofChange Rows.tideBackSpec).bare Rows.tideBackRow = true := by kernel_rfl
theorem c9 : yJN Tryz.prog 5 Tryz.f5 (OpenSpec.ofChange Rows.tideBackSpec).bare Rows.tideBackRow = true := by kernel_rfl
theorem inst : Tryz.f5.isInstance Tryz.prog Rows.tideBackRow.origin Rows.tideBackRow.targs := of_decide_eq_true (by kernel_rfl)
theorem wrapper : Tryz.f5.isWrapper Tryz.prog Rows.tideBackRow.wrapper Rows.tideBackRow.mainSum := by
 unfold Func.isWrapper
 first | (rw [if_pos (by decide +kernel)]; kernel_rfl) | (rw [if_neg (by decide +kernel)]; exact ⟨rfl, rfl⟩)

theorem said : Rows.TideBackSaid :=
 OpenClaim.holds_of_cond 5 Tryz.f5 rfl rfl rfl rfl rfl rfl rfl ⟨rfl, rfl, rfl, rfl, rfl⟩ rfl rfl rfl rfl rfl named Tryz.func5 (yHp c1 c2 c3 c4 c5 c6 c7 c8 c9) inst wrapper
  (fun os started H enc _ F => by rw [OpenClaim.pre_eq_preRow]; exact lifted os started H enc F)

theorem plain (f : FuncId) (fn : Func) (hf : Tryz.pinned.checked.prog.funcNamed "tideway/tidewaylaw02.TideBack" = some f) (hfn : Tryz.pinned.checked.prog.funcs[f]? = some fn) :
  true = Tryz.pinned.checked.prog.looks [] ∧ ∀ (j : Nat) t, fn.params[j]? = some t → Tryz.pinned.checked.prog.wantsStandIn t = false := by
 obtain rfl : f = 5 := Option.some.inj (named.symm.trans hf) |>.symm
 obtain rfl : fn = Tryz.f5 := (Option.some.inj (Tryz.func5.symm.trans hfn)).symm
 refine ⟨by kernel_rfl, fun j t ht => ?_⟩
 have h : (Tryz.f5.params.toList.all fun t => !Tryz.prog.wantsStandIn t) = true := by kernel_rfl
 have := List.all_eq_true.1 h t (by simpa using Array.mem_of_getElem? ht)
 show Tryz.prog.wantsStandIn t = false
 simpa using this

/-- THE CARD -/
theorem k1 : Rows.tideBackRow.wfByText (OpenSpec.ofChange Rows.tideBackSpec) = true := by kernel_rfl
theorem k2 : Tryz.pinned.checked.prog.mainIs = some (true, "14d035ed2a22feea3eb749ee8f1feb293c8faa70b674104b9e23238b29db1d8d".toList) := by kernel_rfl
theorem k3 : false = Rows.tideBackRow.goesBy Tryz.pinned.checked.prog := by kernel_rfl
theorem card : Rows.TideBackCardSaid :=
 Claim7.holds_tied_plain_at .later (p := Tryz.pinned) (s := OpenSpec.ofChange Rows.tideBackSpec) (c := Rows.tideBackRow) [] [.data, .data, .data, .data, .sentinel, .sentinel, .data, .data, .pinned] true (true, "14d035ed2a22feea3eb749ee8f1feb293c8faa70b674104b9e23238b29db1d8d") true said (fun _ h => by cases h) k1 (fun _ h => by cases h) tideBack_row_tie rfl ⟨rfl, rfl⟩ k2 rfl plain k3
end Go.Proofs.YtlaebedgpkiodaaGreatDoor.tTideBack
#print axioms Go.Proofs.YtlaebedgpkiodaaGreatDoor.tTideBack.card
