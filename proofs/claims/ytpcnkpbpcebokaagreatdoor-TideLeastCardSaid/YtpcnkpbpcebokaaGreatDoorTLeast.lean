/- For every record, each list of constituents and each two small numbers, of whatever sizes: tidewaylaw02.TideLeast answers true, and what came in reads as before. Its conditions: the tables of Go's library that the row lists hold what they are laid to hold. -/
import Derived.Test.YtpcnkpbpcebokaaGreatDoorT0
import Derived.Test.YtpcnkpbpcebokaaGreatDoorPF4

set_option linter.all false
set_option maxRecDepth 100000
namespace Go.Proofs.YtpcnkpbpcebokaaGreatDoor.tTideLeast
open Go.ChangeShapes Go.WideShapes Go.ChangeAt Go.RowKit Go.Vx Go.Vx.B Go.Proofs.YtpcnkpbpcebokaaGreatDoor.rows

def ts : List (TypeId × Ty) := [(94, t94), (22, t22), (123, t123)]

/-- WHAT THE LAW's CONTRACT GIVES, for every argument and every world that holds the tables. -/
theorem contract (H : Type) (enc : TypeId × Value → H) (W : World) (base : Nat) (args : Array Value) (ds gs : List (DataW H)) (before : List MemPlace)
  (hval : ∀ (j : Nat) t v, Tryz.f10.params[j]? = some t → args[j]? = some v → Value.okWide Tryz.prog W .any base t v)
  (hW : DataW.Whole enc Tryz.prog Tryz.f10.params.toList Rows.tideLeastSpec.vars false W args.toList ds gs before) (hL : laidMetH Tryz.prog Rows.tideLeastRow.laid W) :
  Calls Tryz.prog 10 args W fun e W' => ∃ v, e = .returned v ∧ Rows.tideLeastSpec.post enc Tryz.prog Tryz.f10 false true false false W args v W' :=
 yQA (ts := ts) (f := 10) (m := fun x => Go.Tw.zk_M x.1 x.2.1 x.2.2.1) (tb := 4) Go.Tw.yV6 (by kernel_rfl) (by kernel_rfl) Tryz.underlying4 (by unfold ts; intro q hq; simp only [List.mem_cons, List.not_mem_nil, or_false] at hq; rcases hq with rfl | rfl | rfl <;> kernel_rfl)
  (by kernel_rfl) (by unfold ts; intro q hq; simp only [List.mem_cons, List.not_mem_nil, or_false] at hq; rcases hq with rfl | rfl | rfl <;> exact ⟨by kernel_rfl, of_decide_eq_true (by kernel_rfl)⟩) rfl
  (fun ds hd => by
   match ds, hd with
   | [d1, d2, d3], _ => rfl)
  (fun x hw => Go.Tw.yMK x.1 x.2.1 x.2.2.1 (Nat.lt_of_le_of_lt hw.2.1.1 (Nat.lt_of_sub_pos (by decide))) hw.2.2.1) W base args ds gs before hval hW (glob hL)

def yNf : Array Value := #[.agg #[.string ⟨#[]⟩, .int .i64 0, .slice none 0 0, .slice none 0 0], .slice none 0 0, .agg #[.int .i8 0, .int .i8 0]]
theorem yN9 (os : Os) : laidMet Tryz.prog Rows.tideLeastRow.laid ((y7o os).forCall (fun _ _ => 0) ⟨#[], yNf, []⟩).memory :=
 laidMet_of_run' 8 (by kernel_rfl) (by kernel_rfl)
def wds (H : Type) : List (DataW H) := [.agg [.lit (.string []), .lit (.int .i64 0), .nil, .nil], .nil, .agg [.lit (.int .i8 0), .lit (.int .i8 0)]]
theorem reads (os : Os) {H : Type} (enc : TypeId × Value → H) : ∃ places, DataW.whole enc Tryz.prog ((y7o os).forCall (fun _ _ => 0) ⟨#[], yNf, []⟩).memory Tryz.f10.params.toList Rows.tideLeastSpec.vars false yNf.toList 8 = some (wds H, [], places) :=
 ⟨[], by kernel_rfl⟩

theorem lifted (os : Os) (started : os.Started) (H : Type) (enc : TypeId × Value → H) (F : Stop.Interp) :
  ReturnsInHanded {} Tryz.checked os 10 .any ((OpenSpec.ofChange Rows.tideLeastSpec).preRow enc Tryz.prog Tryz.f10 Rows.tideLeastRow.domain false Rows.tideLeastRow.laid) (((OpenSpec.ofChange Rows.tideLeastSpec).at F).post enc Tryz.prog Tryz.f10 false true false false) := by
 obtain ⟨places, hx⟩ := reads os enc
 refine returnsInHanded_of_row (C := Tryz.checked) (s := OpenSpec.ofChange Rows.tideLeastSpec) own started (by kernel_rfl) Tryz.func10
  (witness_row_at (enc := enc) (C := Tryz.checked) false (y7o os) yNf rfl (by kernel_rfl) (by kernel_rfl) (by kernel_rfl)
   (OpenSpec.preRow_of_cond 8 hx (by kernel_rfl) (fun k hk => by cases hk) (by kernel_rfl) (yN9 os))) ?_
 intro W base args ds gs before hval hW _ _ _ hL _ _
 exact contract H enc W base args ds gs before hval hW hL

theorem named : Tryz.prog.funcNamed "tideway/tidewaylaw02.TideLeast" = some 10 := by kernel_rfl
theorem c1 : yKa Tryz.prog 10 Tryz.f10 (OpenSpec.ofChange Rows.tideLeastSpec).bare Rows.tideLeastRow = true := by kernel_rfl
theorem c2 : yJi Tryz.prog 10 Tryz.f10 (OpenSpec.ofChange Rows.tideLeastSpec).bare Rows.tideLeastRow = true := by kernel_rfl
theorem c3 : yLA Tryz.prog 10 Tryz.f10 (OpenSpec.ofChange Rows.tideLeastSpec).bare Rows.tideLeastRow = true := by kernel_rfl
theorem c4 : yKz Tryz.prog 10 Tryz.f10 (OpenSpec.ofChange Rows.tideLeastSpec).bare Rows.tideLeastRow = true := by kernel_rfl
theorem c5 : yLQ Tryz.prog 10 Tryz.f10 (OpenSpec.ofChange Rows.tideLeastSpec).bare Rows.tideLeastRow = true := by kernel_rfl
theorem c6 : yM2 Tryz.prog 10 Tryz.f10 (OpenSpec.ofChange Rows.tideLeastSpec).bare Rows.tideLeastRow = true := by kernel_rfl
theorem c7 : yJ8 Tryz.prog 10 Tryz.f10 (OpenSpec.ofChange Rows.tideLeastSpec).bare Rows.tideLeastRow = true := by kernel_rfl
theorem c8 : yKb Tryz.prog 10 Tryz.f10 (OpenSpec.ofChange Rows.tideLeastSpec).bare Rows.tideLeastRow = true := by kernel_rfl
theorem c9 : yJK Tryz.prog 10 Tryz.f10 (OpenSpec.ofChange Rows.tideLeastSpec).bare Rows.tideLeastRow = true := by kernel_rfl
theorem inst : Tryz.f10.isInstance Tryz.prog Rows.tideLeastRow.origin Rows.tideLeastRow.targs := of_decide_eq_true (by kernel_rfl)
theorem wrapper : Tryz.f10.isWrapper Tryz.prog Rows.tideLeastRow.wrapper Rows.tideLeastRow.mainSum := by
 unfold Func.isWrapper
 first | (rw [if_pos (by decide +kernel)]; kernel_rfl) | (rw [if_neg (by decide +kernel)]; exact ⟨rfl, rfl⟩)

theorem said : Rows.TideLeastSaid :=
 OpenClaim.holds_of_cond 10 Tryz.f10 rfl rfl rfl rfl rfl rfl rfl ⟨rfl, rfl, rfl, rfl, rfl⟩ rfl rfl rfl rfl rfl named Tryz.func10 (yLg c1 c2 c3 c4 c5 c6 c7 c8 c9) inst wrapper
  (fun os started H enc _ F => by rw [OpenClaim.pre_eq_preRow]; exact lifted os started H enc F)

theorem plain (f : FuncId) (fn : Func) (hf : Tryz.pinned.checked.prog.funcNamed "tideway/tidewaylaw02.TideLeast" = some f) (hfn : Tryz.pinned.checked.prog.funcs[f]? = some fn) :
  true = Tryz.pinned.checked.prog.looks [] ∧ ∀ (j : Nat) t, fn.params[j]? = some t → Tryz.pinned.checked.prog.wantsStandIn t = false := by
 obtain rfl : f = 10 := Option.some.inj (named.symm.trans hf) |>.symm
 obtain rfl : fn = Tryz.f10 := (Option.some.inj (Tryz.func10.symm.trans hfn)).symm
 refine ⟨by kernel_rfl, fun j t ht => ?_⟩
 have h : (Tryz.f10.params.toList.all fun t => !Tryz.prog.wantsStandIn t) = true := by kernel_rfl
 have := List.all_eq_true.1 h t (by simpa using Array.mem_of_getElem? ht)
 show Tryz.prog.wantsStandIn t = false
 simpa using this

/-- THE CARD -/
theorem k1 : Rows.tideLeastRow.wfByText (OpenSpec.ofChange Rows.tideLeastSpec) = true := by kernel_rfl
theorem k2 : Tryz.pinned.checked.prog.mainIs = some (true, "9fb4918ac9ed9554070fc275559d571b4d8db6d5d3cd07a716505db01760a510".toList) := by kernel_rfl
theorem k3 : false = Rows.tideLeastRow.goesBy Tryz.pinned.checked.prog := by kernel_rfl
theorem card : Rows.TideLeastCardSaid :=
 Claim7.holds_tied_plain_at .later (p := Tryz.pinned) (s := OpenSpec.ofChange Rows.tideLeastSpec) (c := Rows.tideLeastRow) [] [.data, .data, .data, .data, .data] true (true, "9fb4918ac9ed9554070fc275559d571b4d8db6d5d3cd07a716505db01760a510") true said (fun _ h => by cases h) k1 (fun _ h => by cases h) tideLeast_row_tie rfl ⟨rfl, rfl⟩ k2 rfl plain k3
end Go.Proofs.YtpcnkpbpcebokaaGreatDoor.tTideLeast
#print axioms Go.Proofs.YtpcnkpbpcebokaaGreatDoor.tTideLeast.card
