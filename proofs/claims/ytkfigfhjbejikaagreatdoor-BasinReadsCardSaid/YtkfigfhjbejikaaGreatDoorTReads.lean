/- For every basin, all volumes and each string, of whatever sizes: tidewaylaw04.BasinReads answers true, and what came in reads as before. Its conditions: the tables of Go's library that the row lists hold what they are laid to hold. -/
import Derived.Test.YtkfigfhjbejikaaGreatDoorT0
import Derived.Test.YtkfigfhjbejikaaGreatDoorPY

set_option linter.all false
set_option maxRecDepth 100000
namespace Go.Proofs.YtkfigfhjbejikaaGreatDoor.tBasinReads
open Go.ChangeShapes Go.WideShapes Go.ChangeAt Go.RowKit Go.Vx Go.Vx.B Go.Proofs.YtkfigfhjbejikaaGreatDoor.rows

def ts : List (TypeId × Ty) := [(25, t25), (26, t26), (9, t9)]

/-- WHAT THE LAW's CONTRACT GIVES, for every argument and every world that holds the tables. -/
theorem contract (H : Type) (enc : TypeId × Value → H) (W : World) (base : Nat) (args : Array Value) (ds gs : List (DataW H)) (before : List MemPlace)
    (hval : ∀ (j : Nat) t v, Tryz.f14.params[j]? = some t → args[j]? = some v → Value.okWide Tryz.prog W .any base t v)
    (hW : DataW.Whole enc Tryz.prog Tryz.f14.params.toList Rows.basinReadsSpec.vars false W args.toList ds gs before) (hL : laidMetH Tryz.prog Rows.basinReadsRow.laid W) (hsh : W.ShapedOpen Tryz.prog) :
    Calls Tryz.prog 14 args W fun e W' => ∃ v, e = .returned v ∧ Rows.basinReadsSpec.post enc Tryz.prog Tryz.f14 false true false false W args v W' :=
  yMC (ts := ts) (f := 14) (m := fun x => Go.Tw.zn_M x.1 x.2.1 x.2.2.1) (tb := 4) Go.Tw.yQi (by kernel_rfl) (by kernel_rfl) Tryz.underlying4 (by unfold ts; intro q hq; simp only [List.mem_cons, List.not_mem_nil, or_false] at hq; rcases hq with rfl | rfl | rfl <;> kernel_rfl)
    (by kernel_rfl) (by unfold ts; intro q hq; simp only [List.mem_cons, List.not_mem_nil, or_false] at hq; rcases hq with rfl | rfl | rfl <;> exact ⟨by kernel_rfl, of_decide_eq_true (by kernel_rfl)⟩) rfl
    (fun ds hd => by
      match ds, hd with
      | [d1, d2, d3], _ => rfl)
    (fun x hw => Go.Tw.yIm x.1 x.2.1 x.2.2.1 (Nat.lt_of_le_of_lt hw.2.1.1 (Nat.lt_of_sub_pos (by decide)))) W base args ds gs before hval hW (glob hL hsh)

def yKG : Array Value := #[.agg #[.slice none 0 0, .slice none 0 0], .slice none 0 0, .string ⟨#[]⟩]
theorem yKB (os : Os) : laidMet Tryz.prog Rows.basinReadsRow.laid ((y7h os).forCall (fun _ _ => 0) ⟨#[], yKG, []⟩).memory :=
  laidMet_of_run' 8 (by kernel_rfl) (by kernel_rfl)
def wds (H : Type) : List (DataW H) := [.agg [.nil, .nil], .nil, .lit (.string [])]
theorem reads (os : Os) {H : Type} (enc : TypeId × Value → H) : ∃ places, DataW.whole enc Tryz.prog ((y7h os).forCall (fun _ _ => 0) ⟨#[], yKG, []⟩).memory Tryz.f14.params.toList Rows.basinReadsSpec.vars false yKG.toList 8 = some (wds H, [], places) :=
  ⟨[], by kernel_rfl⟩

theorem lifted (os : Os) (started : os.Started) (H : Type) (enc : TypeId × Value → H) (F : Stop.Interp) :
    ReturnsInHanded {} Tryz.checked os 14 .any ((OpenSpec.ofChange Rows.basinReadsSpec).preRow enc Tryz.prog Tryz.f14 Rows.basinReadsRow.domain false Rows.basinReadsRow.laid) (((OpenSpec.ofChange Rows.basinReadsSpec).at F).post enc Tryz.prog Tryz.f14 false true false false) := by
  obtain ⟨places, hx⟩ := reads os enc
  refine returnsInHanded_of_row (C := Tryz.checked) (s := OpenSpec.ofChange Rows.basinReadsSpec) own started (by kernel_rfl) Tryz.func14
    (witness_row_at (enc := enc) (C := Tryz.checked) false (y7h os) yKG rfl (by kernel_rfl) (by kernel_rfl) (by kernel_rfl)
      (OpenSpec.preRow_of_cond 8 hx (by kernel_rfl) (fun k hk => by cases hk) (by kernel_rfl) (yKB os))) ?_
  intro W base args ds gs before hval hW _ _ _ hL hsh _
  exact contract H enc W base args ds gs before hval hW hL hsh

theorem named : Tryz.prog.funcNamed "tideway/tidewaylaw04.BasinReads" = some 14 := by kernel_rfl
theorem c1 : yHp Tryz.prog 14 Tryz.f14 (OpenSpec.ofChange Rows.basinReadsSpec).bare Rows.basinReadsRow = true := by kernel_rfl
theorem c2 : yIY Tryz.prog 14 Tryz.f14 (OpenSpec.ofChange Rows.basinReadsSpec).bare Rows.basinReadsRow = true := by kernel_rfl
theorem c3 : yHT Tryz.prog 14 Tryz.f14 (OpenSpec.ofChange Rows.basinReadsSpec).bare Rows.basinReadsRow = true := by kernel_rfl
theorem c4 : yGZ Tryz.prog 14 Tryz.f14 (OpenSpec.ofChange Rows.basinReadsSpec).bare Rows.basinReadsRow = true := by kernel_rfl
theorem c5 : yHE Tryz.prog 14 Tryz.f14 (OpenSpec.ofChange Rows.basinReadsSpec).bare Rows.basinReadsRow = true := by kernel_rfl
theorem c6 : yI0 Tryz.prog 14 Tryz.f14 (OpenSpec.ofChange Rows.basinReadsSpec).bare Rows.basinReadsRow = true := by kernel_rfl
theorem c7 : yH8 Tryz.prog 14 Tryz.f14 (OpenSpec.ofChange Rows.basinReadsSpec).bare Rows.basinReadsRow = true := by kernel_rfl
theorem c8 : yHb Tryz.prog 14 Tryz.f14 (OpenSpec.ofChange Rows.basinReadsSpec).bare Rows.basinReadsRow = true := by kernel_rfl
theorem c9 : yI1 Tryz.prog 14 Tryz.f14 (OpenSpec.ofChange Rows.basinReadsSpec).bare Rows.basinReadsRow = true := by kernel_rfl
theorem inst : Tryz.f14.isInstance Tryz.prog Rows.basinReadsRow.origin Rows.basinReadsRow.targs := of_decide_eq_true (by kernel_rfl)
theorem wrapper : Tryz.f14.isWrapper Tryz.prog Rows.basinReadsRow.wrapper Rows.basinReadsRow.mainSum := by
  unfold Func.isWrapper
  first | (rw [if_pos (by decide +kernel)]; kernel_rfl) | (rw [if_neg (by decide +kernel)]; exact ⟨rfl, rfl⟩)

theorem said : Rows.BasinReadsSaid :=
  OpenClaim.holds_of_cond 14 Tryz.f14 rfl rfl rfl rfl rfl rfl rfl ⟨rfl, rfl, rfl, rfl, rfl⟩ rfl rfl rfl rfl rfl named Tryz.func14 (yHu c1 c2 c3 c4 c5 c6 c7 c8 c9) inst wrapper
    (fun os started H enc _ F => by rw [OpenClaim.pre_eq_preRow]; exact lifted os started H enc F)

theorem plain (f : FuncId) (fn : Func) (hf : Tryz.pinned.checked.prog.funcNamed "tideway/tidewaylaw04.BasinReads" = some f) (hfn : Tryz.pinned.checked.prog.funcs[f]? = some fn) :
    true = Tryz.pinned.checked.prog.looks [] ∧ ∀ (j : Nat) t, fn.params[j]? = some t → Tryz.pinned.checked.prog.wantsStandIn t = false := by
  obtain rfl : f = 14 := Option.some.inj (named.symm.trans hf) |>.symm
  obtain rfl : fn = Tryz.f14 := (Option.some.inj (Tryz.func14.symm.trans hfn)).symm
  refine ⟨by kernel_rfl, fun j t ht => ?_⟩
  have h : (Tryz.f14.params.toList.all fun t => !Tryz.prog.wantsStandIn t) = true := by kernel_rfl
  have := List.all_eq_true.1 h t (by simpa using Array.mem_of_getElem? ht)
  show Tryz.prog.wantsStandIn t = false
  simpa using this

/-- THE CARD -/
theorem k1 : Rows.basinReadsRow.wfByText (OpenSpec.ofChange Rows.basinReadsSpec) = true := by kernel_rfl
theorem k2 : Tryz.pinned.checked.prog.mainIs = some (true, "1573c1d1047677fdeee3a40edbe16282c18acc6059b28c7bcb04fd6c808a0cc8".toList) := by kernel_rfl
theorem k3 : false = Rows.basinReadsRow.goesBy Tryz.pinned.checked.prog := by kernel_rfl
theorem card : Rows.BasinReadsCardSaid :=
  Claim7.holds_tied_plain_at .later (p := Tryz.pinned) (s := OpenSpec.ofChange Rows.basinReadsSpec) (c := Rows.basinReadsRow) [] [.data, .data, .data, .data, .sentinel, .sentinel, .pinned] true (true, "1573c1d1047677fdeee3a40edbe16282c18acc6059b28c7bcb04fd6c808a0cc8") true said (fun _ h => by cases h) k1 (fun _ h => by cases h) basinReads_row_tie rfl ⟨rfl, rfl⟩ k2 rfl plain k3
end Go.Proofs.YtkfigfhjbejikaaGreatDoor.tBasinReads
#print axioms Go.Proofs.YtkfigfhjbejikaaGreatDoor.tBasinReads.card
