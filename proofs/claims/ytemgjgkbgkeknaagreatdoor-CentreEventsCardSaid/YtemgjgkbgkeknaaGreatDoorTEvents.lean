/- For every list of events and each event, of whatever sizes: tidewaylaw10.CentreEvents answers true, and what came in reads as before. Its conditions: the tables of Go's library that the row lists hold what they are laid to hold. -/
import Derived.Test.YtemgjgkbgkeknaaGreatDoorT0
import Derived.Test.YtemgjgkbgkeknaaGreatDoorP10

set_option linter.all false
set_option maxRecDepth 100000
namespace Go.Proofs.YtemgjgkbgkeknaaGreatDoor.tCentreEvents
open Go.ChangeShapes Go.WideShapes Go.ChangeAt Go.RowKit Go.Vx Go.Vx.B Go.Proofs.YtemgjgkbgkeknaaGreatDoor.rows

def ts : List (TypeId × Ty) := [(22, t22), (56, t56)]

/-- WHAT THE LAW's CONTRACT GIVES, for every argument and every world that holds the tables. -/
theorem contract (H : Type) (enc : TypeId × Value → H) (W : World) (base : Nat) (args : Array Value) (ds gs : List (DataW H)) (before : List MemPlace)
  (hval : ∀ (j : Nat) t v, Tryz.f8.params[j]? = some t → args[j]? = some v → Value.okWide Tryz.prog W .any base t v)
  (hW : DataW.Whole enc Tryz.prog Tryz.f8.params.toList Rows.centreEventsSpec.vars false W args.toList ds gs before) (hL : laidMetH Tryz.prog Rows.centreEventsRow.laid W) (hsh : W.ShapedOpen Tryz.prog) :
  Calls Tryz.prog 8 args W fun e W' => ∃ v, e = .returned v ∧ Rows.centreEventsSpec.post enc Tryz.prog Tryz.f8 false true false false W args v W' :=
 yND (ts := ts) (f := 8) (m := fun x => Go.Tw.zn_M x.1 x.2.1) (tb := 4) Go.Tw.yQy (by kernel_rfl) (by kernel_rfl) Tryz.underlying4 (by unfold ts; intro q hq; simp only [List.mem_cons, List.not_mem_nil, or_false] at hq; rcases hq with rfl | rfl <;> kernel_rfl)
  (by kernel_rfl) (by unfold ts; intro q hq; simp only [List.mem_cons, List.not_mem_nil, or_false] at hq; rcases hq with rfl | rfl <;> exact ⟨by kernel_rfl, of_decide_eq_true (by kernel_rfl)⟩) rfl
  (fun ds hd => by
   match ds, hd with
   | [d1, d2], _ => rfl)
  (fun x hw => Go.Tw.yGV x.1 x.2.1) W base args ds gs before hval hW (glob hL hsh)

def yK7 : Array Value := #[.slice none 0 0, .agg #[.int .i64 0, .string ⟨#[]⟩, .slice none 0 0, .slice none 0 0, .string ⟨#[]⟩]]
theorem yKL (os : Os) : laidMet Tryz.prog Rows.centreEventsRow.laid ((y7j os).forCall (fun _ _ => 0) ⟨#[], yK7, []⟩).memory :=
 laidMet_of_run' 8 (by kernel_rfl) (by kernel_rfl)
def wds (H : Type) : List (DataW H) := [.nil, .agg [.lit (.int .i64 0), .lit (.string []), .nil, .nil, .lit (.string [])]]
theorem reads (os : Os) {H : Type} (enc : TypeId × Value → H) : ∃ places, DataW.whole enc Tryz.prog ((y7j os).forCall (fun _ _ => 0) ⟨#[], yK7, []⟩).memory Tryz.f8.params.toList Rows.centreEventsSpec.vars false yK7.toList 8 = some (wds H, [], places) :=
 ⟨[], by kernel_rfl⟩

theorem lifted (os : Os) (started : os.Started) (H : Type) (enc : TypeId × Value → H) (F : Stop.Interp) :
  ReturnsInHanded {} Tryz.checked os 8 .any ((OpenSpec.ofChange Rows.centreEventsSpec).preRow enc Tryz.prog Tryz.f8 Rows.centreEventsRow.domain false Rows.centreEventsRow.laid) (((OpenSpec.ofChange Rows.centreEventsSpec).at F).post enc Tryz.prog Tryz.f8 false true false false) := by
 obtain ⟨places, hx⟩ := reads os enc
 refine returnsInHanded_of_row (C := Tryz.checked) (s := OpenSpec.ofChange Rows.centreEventsSpec) own started (by kernel_rfl) Tryz.func8
  (witness_row_at (enc := enc) (C := Tryz.checked) false (y7j os) yK7 rfl (by kernel_rfl) (by kernel_rfl) (by kernel_rfl)
   (OpenSpec.preRow_of_cond 8 hx (by kernel_rfl) (fun k hk => by cases hk) (by kernel_rfl) (yKL os))) ?_
 intro W base args ds gs before hval hW _ _ _ hL hsh _
 exact contract H enc W base args ds gs before hval hW hL hsh

theorem named : Tryz.prog.funcNamed "tideway/tidewaylaw10.CentreEvents" = some 8 := by kernel_rfl
theorem c1 : yHV Tryz.prog 8 Tryz.f8 (OpenSpec.ofChange Rows.centreEventsSpec).bare Rows.centreEventsRow = true := by kernel_rfl
theorem c2 : yHN Tryz.prog 8 Tryz.f8 (OpenSpec.ofChange Rows.centreEventsSpec).bare Rows.centreEventsRow = true := by kernel_rfl
theorem c3 : yGX Tryz.prog 8 Tryz.f8 (OpenSpec.ofChange Rows.centreEventsSpec).bare Rows.centreEventsRow = true := by kernel_rfl
theorem c4 : yJ3 Tryz.prog 8 Tryz.f8 (OpenSpec.ofChange Rows.centreEventsSpec).bare Rows.centreEventsRow = true := by kernel_rfl
theorem c5 : yIK Tryz.prog 8 Tryz.f8 (OpenSpec.ofChange Rows.centreEventsSpec).bare Rows.centreEventsRow = true := by kernel_rfl
theorem c6 : yJ1 Tryz.prog 8 Tryz.f8 (OpenSpec.ofChange Rows.centreEventsSpec).bare Rows.centreEventsRow = true := by kernel_rfl
theorem c7 : yHY Tryz.prog 8 Tryz.f8 (OpenSpec.ofChange Rows.centreEventsSpec).bare Rows.centreEventsRow = true := by kernel_rfl
theorem c8 : yHf Tryz.prog 8 Tryz.f8 (OpenSpec.ofChange Rows.centreEventsSpec).bare Rows.centreEventsRow = true := by kernel_rfl
theorem c9 : yJA Tryz.prog 8 Tryz.f8 (OpenSpec.ofChange Rows.centreEventsSpec).bare Rows.centreEventsRow = true := by kernel_rfl
theorem inst : Tryz.f8.isInstance Tryz.prog Rows.centreEventsRow.origin Rows.centreEventsRow.targs := of_decide_eq_true (by kernel_rfl)
theorem wrapper : Tryz.f8.isWrapper Tryz.prog Rows.centreEventsRow.wrapper Rows.centreEventsRow.mainSum := by
 unfold Func.isWrapper
 first | (rw [if_pos (by decide +kernel)]; kernel_rfl) | (rw [if_neg (by decide +kernel)]; exact ⟨rfl, rfl⟩)

theorem said : Rows.CentreEventsSaid :=
 OpenClaim.holds_of_cond 8 Tryz.f8 rfl rfl rfl rfl rfl rfl rfl ⟨rfl, rfl, rfl, rfl, rfl⟩ rfl rfl rfl rfl rfl named Tryz.func8 (yHl c1 c2 c3 c4 c5 c6 c7 c8 c9) inst wrapper
  (fun os started H enc _ F => by rw [OpenClaim.pre_eq_preRow]; exact lifted os started H enc F)

theorem plain (f : FuncId) (fn : Func) (hf : Tryz.pinned.checked.prog.funcNamed "tideway/tidewaylaw10.CentreEvents" = some f) (hfn : Tryz.pinned.checked.prog.funcs[f]? = some fn) :
  false = Tryz.pinned.checked.prog.looks [] ∧ ∀ (j : Nat) t, fn.params[j]? = some t → Tryz.pinned.checked.prog.wantsStandIn t = false := by
 obtain rfl : f = 8 := Option.some.inj (named.symm.trans hf) |>.symm
 obtain rfl : fn = Tryz.f8 := (Option.some.inj (Tryz.func8.symm.trans hfn)).symm
 refine ⟨by kernel_rfl, fun j t ht => ?_⟩
 have h : (Tryz.f8.params.toList.all fun t => !Tryz.prog.wantsStandIn t) = true := by kernel_rfl
 have := List.all_eq_true.1 h t (by simpa using Array.mem_of_getElem? ht)
 show Tryz.prog.wantsStandIn t = false
 simpa using this

/-- THE CARD -/
theorem k1 : Rows.centreEventsRow.wfByText (OpenSpec.ofChange Rows.centreEventsSpec) = true := by kernel_rfl
theorem k2 : Tryz.pinned.checked.prog.mainIs = some (true, "dff214c9163f6c05e0717f865add6ef767c25055a12d34f6adbf980af0759abf".toList) := by kernel_rfl
theorem k3 : false = Rows.centreEventsRow.goesBy Tryz.pinned.checked.prog := by kernel_rfl
theorem card : Rows.CentreEventsCardSaid :=
 Claim7.holds_tied_plain_at .later (p := Tryz.pinned) (s := OpenSpec.ofChange Rows.centreEventsSpec) (c := Rows.centreEventsRow) [] [.data, .data, .data, .data, .pinned] true (true, "dff214c9163f6c05e0717f865add6ef767c25055a12d34f6adbf980af0759abf") false said (fun _ h => by cases h) k1 (fun _ h => by cases h) centreEvents_row_tie rfl ⟨rfl, rfl⟩ k2 rfl plain k3
end Go.Proofs.YtemgjgkbgkeknaaGreatDoor.tCentreEvents
#print axioms Go.Proofs.YtemgjgkbgkeknaaGreatDoor.tCentreEvents.card
