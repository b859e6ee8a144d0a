/- For every basin, all lists of y8q and each choice of two bytes to yIy by, of whatever sizes: tidewaylaw04.BasinWider answers true, and what came in reads as before. Its conditions: the tables of Go's library that the row lists hold what they are laid to hold. -/
import Derived.Test.YtkfigfhjbejikaaGreatDoorT0
import Derived.Test.YtkfigfhjbejikaaGreatDoorP31

set_option linter.all false
set_option maxRecDepth 100000
namespace Go.Proofs.YtkfigfhjbejikaaGreatDoor.tBasinWider
open Go.ChangeShapes Go.WideShapes Go.ChangeAt Go.RowKit Go.Vx Go.Vx.B Go.Proofs.YtkfigfhjbejikaaGreatDoor.rows

def ts : List (TypeId × Ty) := [(25, t25), (101, t101), (133, t133)]

/-- WHAT THE LAW's CONTRACT GIVES, for every argument and every world that holds the tables. -/
theorem contract (H : Type) (enc : TypeId × Value → H) (W : World) (base : Nat) (args : Array Value) (ds gs : List (DataW H)) (before : List MemPlace)
  (hval : ∀ (j : Nat) t v, Tryz.f11.params[j]? = some t → args[j]? = some v → Value.okWide Tryz.prog W .any base t v)
  (hW : DataW.Whole enc Tryz.prog Tryz.f11.params.toList Rows.basinWiderSpec.vars false W args.toList ds gs before) (hL : laidMetH Tryz.prog Rows.basinWiderRow.laid W) :
  Calls Tryz.prog 11 args W fun e W' => ∃ v, e = .returned v ∧ Rows.basinWiderSpec.post enc Tryz.prog Tryz.f11 false true false false W args v W' :=
 yNp (ts := ts) (f := 11) (m := fun x => Go.Tw.zn_M x.1 x.2.1 x.2.2.1) (tb := 4) Go.Tw.yRs (by kernel_rfl) (by kernel_rfl) Tryz.underlying4 (by unfold ts; intro q hq; simp only [List.mem_cons, List.not_mem_nil, or_false] at hq; rcases hq with rfl | rfl | rfl <;> kernel_rfl)
  (by kernel_rfl) (by unfold ts; intro q hq; simp only [List.mem_cons, List.not_mem_nil, or_false] at hq; rcases hq with rfl | rfl | rfl <;> exact ⟨by kernel_rfl, of_decide_eq_true (by kernel_rfl)⟩) rfl
  (fun ds hd => by
   match ds, hd with
   | [d1, d2, d3], _ => rfl)
  (fun x hw => Go.Tw.yLg x.1 x.2.1 x.2.2.1 ⟨hw.2.2.1.1, fun y hy => Go.Tw.yR3 (hw.2.2.1.2 y hy)⟩ (fun r hr => Nat.lt_of_le_of_lt (hw.2.1.2 r hr).2.2.1.1 (Nat.lt_of_sub_pos (by decide)))) W base args ds gs before hval hW (glob hL)

def yMT : Array Value := #[.agg #[.slice none 0 0, .slice none 0 0], .slice none 0 0, .agg #[.int .u8 0, .int .u8 0]]
theorem yM7 (os : Os) : laidMet Tryz.prog Rows.basinWiderRow.laid ((y9E os).forCall (fun _ _ => 0) ⟨#[], yMT, []⟩).memory :=
 laidMet_of_run' 8 (by kernel_rfl) (by kernel_rfl)
def wds (H : Type) : List (DataW H) := [.agg [.nil, .nil], .nil, .agg [.lit (.int .u8 0), .lit (.int .u8 0)]]
theorem reads (os : Os) {H : Type} (enc : TypeId × Value → H) : ∃ places, DataW.whole enc Tryz.prog ((y9E os).forCall (fun _ _ => 0) ⟨#[], yMT, []⟩).memory Tryz.f11.params.toList Rows.basinWiderSpec.vars false yMT.toList 8 = some (wds H, [], places) :=
 ⟨[], by kernel_rfl⟩

theorem lifted (os : Os) (started : os.Started) (H : Type) (enc : TypeId × Value → H) (F : Stop.Interp) :
  ReturnsInHanded {} Tryz.checked os 11 .any ((OpenSpec.ofChange Rows.basinWiderSpec).preRow enc Tryz.prog Tryz.f11 Rows.basinWiderRow.domain false Rows.basinWiderRow.laid) (((OpenSpec.ofChange Rows.basinWiderSpec).at F).post enc Tryz.prog Tryz.f11 false true false false) := by
 obtain ⟨places, hx⟩ := reads os enc
 refine returnsInHanded_of_row (C := Tryz.checked) (s := OpenSpec.ofChange Rows.basinWiderSpec) own started (by kernel_rfl) Tryz.func11
  (witness_row_at (enc := enc) (C := Tryz.checked) false (y9E os) yMT rfl (by kernel_rfl) (by kernel_rfl) (by kernel_rfl)
   (OpenSpec.preRow_of_cond 8 hx (by kernel_rfl) (fun k hk => by cases hk) (by kernel_rfl) (yM7 os))) ?_
 intro W base args ds gs before hval hW _ _ _ hL _ _
 exact contract H enc W base args ds gs before hval hW hL

theorem named : Tryz.prog.funcNamed "tideway/tidewaylaw04.BasinWider" = some 11 := by kernel_rfl
theorem c1 : yLA Tryz.prog 11 Tryz.f11 (OpenSpec.ofChange Rows.basinWiderSpec).bare Rows.basinWiderRow = true := by kernel_rfl
theorem c2 : yJV Tryz.prog 11 Tryz.f11 (OpenSpec.ofChange Rows.basinWiderSpec).bare Rows.basinWiderRow = true := by kernel_rfl
theorem c3 : yKz Tryz.prog 11 Tryz.f11 (OpenSpec.ofChange Rows.basinWiderSpec).bare Rows.basinWiderRow = true := by kernel_rfl
theorem c4 : yIg Tryz.prog 11 Tryz.f11 (OpenSpec.ofChange Rows.basinWiderSpec).bare Rows.basinWiderRow = true := by kernel_rfl
theorem c5 : yJ0 Tryz.prog 11 Tryz.f11 (OpenSpec.ofChange Rows.basinWiderSpec).bare Rows.basinWiderRow = true := by kernel_rfl
theorem c6 : yK9 Tryz.prog 11 Tryz.f11 (OpenSpec.ofChange Rows.basinWiderSpec).bare Rows.basinWiderRow = true := by kernel_rfl
theorem c7 : yKp Tryz.prog 11 Tryz.f11 (OpenSpec.ofChange Rows.basinWiderSpec).bare Rows.basinWiderRow = true := by kernel_rfl
theorem c8 : yJ6 Tryz.prog 11 Tryz.f11 (OpenSpec.ofChange Rows.basinWiderSpec).bare Rows.basinWiderRow = true := by kernel_rfl
theorem c9 : yLc Tryz.prog 11 Tryz.f11 (OpenSpec.ofChange Rows.basinWiderSpec).bare Rows.basinWiderRow = true := by kernel_rfl
theorem inst : Tryz.f11.isInstance Tryz.prog Rows.basinWiderRow.origin Rows.basinWiderRow.targs := of_decide_eq_true (by kernel_rfl)
theorem wrapper : Tryz.f11.isWrapper Tryz.prog Rows.basinWiderRow.wrapper Rows.basinWiderRow.mainSum := by
 unfold Func.isWrapper
 first | (rw [if_pos (by decide +kernel)]; kernel_rfl) | (rw [if_neg (by decide +kernel)]; exact ⟨rfl, rfl⟩)

theorem said : Rows.BasinWiderSaid :=
 OpenClaim.holds_of_cond 11 Tryz.f11 rfl rfl rfl rfl rfl rfl rfl ⟨rfl, rfl, rfl, rfl, rfl⟩ rfl rfl rfl rfl rfl named Tryz.func11 (yKK c1 c2 c3 c4 c5 c6 c7 c8 c9) inst wrapper
  (fun os started H enc _ F => by rw [OpenClaim.pre_eq_preRow]; exact lifted os started H enc F)

theorem plain (f : FuncId) (fn : Func) (hf : Tryz.pinned.checked.prog.funcNamed "tideway/tidewaylaw04.BasinWider" = some f) (hfn : Tryz.pinned.checked.prog.funcs[f]? = some fn) :
  true = Tryz.pinned.checked.prog.looks [] ∧ ∀ (j : Nat) t, fn.params[j]? = some t → Tryz.pinned.checked.prog.wantsStandIn t = false := by
 obtain rfl : f = 11 := Option.some.inj (named.symm.trans hf) |>.symm
 obtain rfl : fn = Tryz.f11 := (Option.some.inj (Tryz.func11.symm.trans hfn)).symm
 refine ⟨by kernel_rfl, fun j t ht => ?_⟩
 have h : (Tryz.f11.params.toList.all fun t => !Tryz.prog.wantsStandIn t) = true := by kernel_rfl
 have := List.all_eq_true.1 h t (by simpa using Array.mem_of_getElem? ht)
 show Tryz.prog.wantsStandIn t = false
 simpa using this

/-- THE CARD -/
theorem card : Rows.BasinWiderCardSaid :=
 Claim7.holds_tied_plain_at .later [] _ _ _ _ said (fun _ h => by cases h) (by kernel_rfl) (fun _ h => by cases h) basinWider_row_tie rfl ⟨rfl, rfl⟩ (by kernel_rfl) rfl plain (by kernel_rfl)
end Go.Proofs.YtkfigfhjbejikaaGreatDoor.tBasinWider
#print axioms Go.Proofs.YtkfigfhjbejikaaGreatDoor.tBasinWider.card
