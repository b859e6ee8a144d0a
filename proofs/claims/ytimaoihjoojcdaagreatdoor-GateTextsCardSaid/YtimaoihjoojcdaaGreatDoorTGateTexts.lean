/- For every chart and each string, of whatever sizes: tidewaylaw06.GateTexts answers true, and what came in reads as before. Its conditions: the tables of Go's library that the row lists hold what they are laid to hold. -/
import Derived.Test.YtimaoihjoojcdaaGreatDoorT0
import Derived.Test.YtimaoihjoojcdaaGreatDoorPY

set_option linter.all false
set_option maxRecDepth 100000
namespace Go.Proofs.YtimaoihjoojcdaaGreatDoor.tGateTexts
open Go.ChangeShapes Go.WideShapes Go.ChangeAt Go.RowKit Go.Vx Go.Vx.B Go.Proofs.YtimaoihjoojcdaaGreatDoor.rows

def ts : List (TypeId × Ty) := [(25, t25), (9, t9)]

/-- WHAT THE LAW's CONTRACT GIVES, for every argument and every world that holds the tables. -/
theorem contract (H : Type) (enc : TypeId × Value → H) (W : World) (base : Nat) (args : Array Value) (ds gs : List (DataW H)) (before : List MemPlace)
    (hval : ∀ (j : Nat) t v, Tryz.f3.params[j]? = some t → args[j]? = some v → Value.okWide Tryz.prog W .any base t v)
    (hW : DataW.Whole enc Tryz.prog Tryz.f3.params.toList Rows.gateTextsSpec.vars false W args.toList ds gs before) (hL : laidMetH Tryz.prog Rows.gateTextsRow.laid W) (hsh : W.ShapedOpen Tryz.prog) :
    Calls Tryz.prog 3 args W fun e W' => ∃ v, e = .returned v ∧ Rows.gateTextsSpec.post enc Tryz.prog Tryz.f3 false true false false W args v W' :=
  yNT (ts := ts) (f := 3) (m := fun x => Go.Tw.zz_M x.1 x.2.1) (tb := 4) Go.Tw.yS6 (by kernel_rfl) (by kernel_rfl) Tryz.underlying4 (by unfold ts; intro q hq; simp only [List.mem_cons, List.not_mem_nil, or_false] at hq; rcases hq with rfl | rfl <;> kernel_rfl)
    (by kernel_rfl) (by unfold ts; intro q hq; simp only [List.mem_cons, List.not_mem_nil, or_false] at hq; rcases hq with rfl | rfl <;> exact ⟨by kernel_rfl, of_decide_eq_true (by kernel_rfl)⟩) rfl
    (fun ds hd => by
      match ds, hd with
      | [d1, d2], _ => rfl)
    (fun x hw => Go.Tw.yJi x.1 x.2.1) W base args ds gs before hval hW (glob hL hsh)

def yJE : Array Value := #[.agg #[.slice none 0 0, .slice none 0 0], .string ⟨#[]⟩]
theorem yKE (os : Os) : laidMet Tryz.prog Rows.gateTextsRow.laid ((y7m os).forCall (fun _ _ => 0) ⟨#[], yJE, []⟩).memory :=
  laidMet_of_run' 8 (by kernel_rfl) (by kernel_rfl)
def wds (H : Type) : List (DataW H) := [.agg [.nil, .nil], .lit (.string [])]
theorem reads (os : Os) {H : Type} (enc : TypeId × Value → H) : ∃ places, DataW.whole enc Tryz.prog ((y7m os).forCall (fun _ _ => 0) ⟨#[], yJE, []⟩).memory Tryz.f3.params.toList Rows.gateTextsSpec.vars false yJE.toList 8 = some (wds H, [], places) :=
  ⟨[], by kernel_rfl⟩

theorem lifted (os : Os) (started : os.Started) (H : Type) (enc : TypeId × Value → H) (F : Stop.Interp) :
    ReturnsInHanded {} Tryz.checked os 3 .any ((OpenSpec.ofChange Rows.gateTextsSpec).preRow enc Tryz.prog Tryz.f3 Rows.gateTextsRow.domain false Rows.gateTextsRow.laid) (((OpenSpec.ofChange Rows.gateTextsSpec).at F).post enc Tryz.prog Tryz.f3 false true false false) := by
  obtain ⟨places, hx⟩ := reads os enc
  refine returnsInHanded_of_row (C := Tryz.checked) (s := OpenSpec.ofChange Rows.gateTextsSpec) own started (by kernel_rfl) Tryz.func3
    (witness_row_at (enc := enc) (C := Tryz.checked) false (y7m os) yJE rfl (by kernel_rfl) (by kernel_rfl) (by kernel_rfl)
      (OpenSpec.preRow_of_cond 8 hx (by kernel_rfl) (fun k hk => by cases hk) (by kernel_rfl) (yKE os))) ?_
  intro W base args ds gs before hval hW _ _ _ hL hsh _
  exact contract H enc W base args ds gs before hval hW hL hsh

theorem named : Tryz.prog.funcNamed "tideway/tidewaylaw06.GateTexts" = some 3 := by kernel_rfl
theorem c1 : yIo Tryz.prog 3 Tryz.f3 (OpenSpec.ofChange Rows.gateTextsSpec).bare Rows.gateTextsRow = true := by kernel_rfl
theorem c2 : yHQ Tryz.prog 3 Tryz.f3 (OpenSpec.ofChange Rows.gateTextsSpec).bare Rows.gateTextsRow = true := by kernel_rfl
theorem c3 : yID Tryz.prog 3 Tryz.f3 (OpenSpec.ofChange Rows.gateTextsSpec).bare Rows.gateTextsRow = true := by kernel_rfl
theorem c4 : yHx Tryz.prog 3 Tryz.f3 (OpenSpec.ofChange Rows.gateTextsSpec).bare Rows.gateTextsRow = true := by kernel_rfl
theorem c5 : yIX Tryz.prog 3 Tryz.f3 (OpenSpec.ofChange Rows.gateTextsSpec).bare Rows.gateTextsRow = true := by kernel_rfl
theorem c6 : yIl Tryz.prog 3 Tryz.f3 (OpenSpec.ofChange Rows.gateTextsSpec).bare Rows.gateTextsRow = true := by kernel_rfl
theorem c7 : yIr Tryz.prog 3 Tryz.f3 (OpenSpec.ofChange Rows.gateTextsSpec).bare Rows.gateTextsRow = true := by kernel_rfl
theorem c8 : yIY Tryz.prog 3 Tryz.f3 (OpenSpec.ofChange Rows.gateTextsSpec).bare Rows.gateTextsRow = true := by kernel_rfl
theorem c9 : yH0 Tryz.prog 3 Tryz.f3 (OpenSpec.ofChange Rows.gateTextsSpec).bare Rows.gateTextsRow = true := by kernel_rfl
theorem inst : Tryz.f3.isInstance Tryz.prog Rows.gateTextsRow.origin Rows.gateTextsRow.targs := of_decide_eq_true (by kernel_rfl)
theorem wrapper : Tryz.f3.isWrapper Tryz.prog Rows.gateTextsRow.wrapper Rows.gateTextsRow.mainSum := by
  unfold Func.isWrapper
  first | (rw [if_pos (by decide +kernel)]; kernel_rfl) | (rw [if_neg (by decide +kernel)]; exact ⟨rfl, rfl⟩)

theorem said : Rows.GateTextsSaid :=
  OpenClaim.holds_of_cond 3 Tryz.f3 rfl rfl rfl rfl rfl rfl rfl ⟨rfl, rfl, rfl, rfl, rfl⟩ rfl rfl rfl rfl rfl named Tryz.func3 (yHY c1 c2 c3 c4 c5 c6 c7 c8 c9) inst wrapper
    (fun os started H enc _ F => by rw [OpenClaim.pre_eq_preRow]; exact lifted os started H enc F)

theorem plain (f : FuncId) (fn : Func) (hf : Tryz.pinned.checked.prog.funcNamed "tideway/tidewaylaw06.GateTexts" = some f) (hfn : Tryz.pinned.checked.prog.funcs[f]? = some fn) :
    false = Tryz.pinned.checked.prog.looks [] ∧ ∀ (j : Nat) t, fn.params[j]? = some t → Tryz.pinned.checked.prog.wantsStandIn t = false := by
  obtain rfl : f = 3 := Option.some.inj (named.symm.trans hf) |>.symm
  obtain rfl : fn = Tryz.f3 := (Option.some.inj (Tryz.func3.symm.trans hfn)).symm
  refine ⟨by kernel_rfl, fun j t ht => ?_⟩
  have h : (Tryz.f3.params.toList.all fun t => !Tryz.prog.wantsStandIn t) = true := by kernel_rfl
  have := List.all_eq_true.1 h t (by simpa using Array.mem_of_getElem? ht)
  show Tryz.prog.wantsStandIn t = false
  simpa using this

/-- THE CARD -/
theorem k1 : Rows.gateTextsRow.wfByText (OpenSpec.ofChange Rows.gateTextsSpec) = true := by kernel_rfl
theorem k2 : Tryz.pinned.checked.prog.mainIs = some (true, "04a5dd218ad5e8c931e2f3a553bd3501636a28a4f2cb21e7e72b3dc5493ed746".toList) := by kernel_rfl
theorem k3 : false = Rows.gateTextsRow.goesBy Tryz.pinned.checked.prog := by kernel_rfl
theorem card : Rows.GateTextsCardSaid :=
  Claim7.holds_tied_plain_at .later (p := Tryz.pinned) (s := OpenSpec.ofChange Rows.gateTextsSpec) (c := Rows.gateTextsRow) [] [.data, .data, .data, .data, .pinned] true (true, "04a5dd218ad5e8c931e2f3a553bd3501636a28a4f2cb21e7e72b3dc5493ed746") false said (fun _ h => by cases h) k1 (fun _ h => by cases h) gateTexts_row_tie rfl ⟨rfl, rfl⟩ k2 rfl plain k3
end Go.Proofs.YtimaoihjoojcdaaGreatDoor.tGateTexts
#print axioms Go.Proofs.YtimaoihjoojcdaaGreatDoor.tGateTexts.card
