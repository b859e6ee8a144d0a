/- For every basin, all volumes and each condition with a node and a level, of whatever sizes: tidewaylaw04.BasinUntil answers true, and what came in reads as before. Its conditions: the three tables of Go's library that the row lists hold what they are laid to hold. -/
import Derived.Test.YtkfigfhjbejikaaGreatDoorCards
import Derived.Test.YtkfigfhjbejikaaGreatDoorTie
import Derived.Test.YtkfigfhjbejikaaGreatDoorV25
import Derived.Test.YtkfigfhjbejikaaGreatDoorV26
import Derived.Test.YtkfigfhjbejikaaGreatDoorP8
import Derived.WalkKit
import Derived.ProofKit
import Derived.OpenShut
import Derived.Deep.DeepHandedRow
import Derived.Lib.LaidTab
set_option linter.all false
set_option maxRecDepth 100000
namespace Go.Proofs.YtkfigfhjbejikaaGreatDoor.tBasinUntil
open Go.ChangeShapes Go.WideShapes Go.ChangeAt Go.RowKit Go.Vx Go.Vx.B

theorem own : ownKnob Tryz.prog.godebug = none := by kernel_rfl

theorem tab_of {P : Program} {W : World} {name : String} {k : IntKind} {zs : List Int} {g : Nat} {t e : TypeId} {n : Nat}
    (hg : P.globalNamed name = some g) (hty : (P.globals[g]?).map (·.type) = some t) (ht : P.underlying t = some (.array n e)) (he : P.underlying e = some (.int k)) (hce : P.cellsOf e = 1) (hct : P.cellsOf t = n) :
    ∀ (l : List (String × DataW Unit)) (ps : List MemPlace) (i : Nat), DataW.LaidVars P W l ps → l[i]? = some (name, Lib.tabData k zs) → Lib.TabIs P W name k zs
  | [], _, _, _, hi => by simp at hi
  | x :: l, ps, i, h, hi => by
    obtain ⟨g', t', cs, fuel, p, q, hg', ht', hvar, hd, hr, _⟩ := h
    cases i with
    | zero =>
      simp at hi
      subst hi
      obtain rfl := Option.some.inj (hg.symm.trans hg')
      obtain rfl := Option.some.inj (hty.symm.trans ht')
      unfold Lib.TabIs
      rw [hvar, ← Lib.cells_of_tab ht he hce hct hd]
    | succ i => exact tab_of hg hty ht he hce hct l q i hr (by simpa using hi)

theorem heap_of {P : Program} {W : World} {name : String} {g : Nat} {cs : Array Value} (hg : P.globalNamed name = some g) (h : W.var? P name = some cs) : g < W.heap.size ∧ ∃ t f, W.heap[g]? = some (.cells cs t f) := by
  unfold World.var? at h
  rw [hg] at h
  simp only [Option.bind_some] at h
  split at h
  · rename_i cs' t f hc
    cases h
    exact ⟨lt_of_get hc, t, f, hc⟩
  · cases h

theorem glob {W : World} (h : laidMetH Tryz.prog Rows.basinUntilRow.laid W) : GlobOK noA W := by
  have h' : laidMet Tryz.prog Rows.basinUntilRow.laid W := h
  obtain ⟨ps, hv, _⟩ := h'
  have h7 := tab_of (P := Tryz.prog) (W := W) (name := "math/bits.deBruijn32tab") (k := .u8) (zs := [0, 1, 28, 2, 29, 14, 24, 3, 30, 22, 20, 15, 25, 17, 4, 8, 31, 27, 13, 23, 21, 19, 16, 7, 26, 12, 18, 6, 11, 5, 10, 9]) (g := 7) (t := 315) (e := 5) (n := 32) (by kernel_rfl) (by kernel_rfl) Tryz.underlying315 Tryz.underlying5 (by kernel_rfl) (by kernel_rfl) _ ps 0 hv rfl
  have h8 := tab_of (P := Tryz.prog) (W := W) (name := "math/bits.deBruijn64tab") (k := .u8) (zs := [0, 1, 56, 2, 57, 49, 28, 3, 61, 58, 42, 50, 38, 29, 17, 4, 62, 47, 59, 36, 45, 43, 51, 22, 53, 39, 33, 30, 24, 18, 12, 5, 63, 55, 48, 27, 60, 41, 37, 16, 46, 35, 44, 21, 52, 32, 23, 11, 54, 26, 40, 15, 34, 20, 31, 10, 25, 14, 19, 9, 13, 8, 7, 6]) (g := 8) (t := 316) (e := 5) (n := 64) (by kernel_rfl) (by kernel_rfl) Tryz.underlying316 Tryz.underlying5 (by kernel_rfl) (by kernel_rfl) _ ps 1 hv rfl
  have h2 := tab_of (P := Tryz.prog) (W := W) (name := "internal/strconv.uint64pow10") (k := .u64) (zs := [1, 10, 100, 1000, 10000, 100000, 1000000, 10000000, 100000000, 1000000000, 10000000000, 100000000000, 1000000000000, 10000000000000, 100000000000000, 1000000000000000, 10000000000000000, 100000000000000000, 1000000000000000000, 10000000000000000000]) (g := 2) (t := 290) (e := 280) (n := 20) (by kernel_rfl) (by kernel_rfl) Tryz.underlying290 Tryz.underlying280 (by kernel_rfl) (by kernel_rfl) _ ps 2 hv rfl
  obtain ⟨l7, r7⟩ := heap_of (P := Tryz.prog) (g := 7) (by kernel_rfl) h7
  obtain ⟨l8, r8⟩ := heap_of (P := Tryz.prog) (g := 8) (by kernel_rfl) h8
  obtain ⟨l2, r2⟩ := heap_of (P := Tryz.prog) (g := 2) (by kernel_rfl) h2
  intro p hp
  rcases List.mem_cons.1 (show p ∈ (_ :: _ :: _ :: [] : List (Nat × Ty × List Value)) from hp) with rfl | hp
  · exact ⟨fun h => h, l7, r7⟩
  · rcases List.mem_cons.1 hp with rfl | hp
    · exact ⟨fun h => h, l8, r8⟩
    · rcases List.mem_cons.1 hp with rfl | hp
      · exact ⟨fun h => h, l2, r2⟩
      · cases hp

def ts : List (TypeId × Ty) := [(25, t25), (26, t26), (30, t30)]

/-- WHAT THE LAW's CONTRACT GIVES, for every argument and every world that holds the tables. -/
theorem contract (H : Type) (enc : TypeId × Value → H) (W : World) (base : Nat) (args : Array Value) (ds gs : List (DataW H)) (before : List MemPlace)
    (hval : ∀ (j : Nat) t v, Tryz.f3.params[j]? = some t → args[j]? = some v → Value.okWide Tryz.prog W .any base t v)
    (hW : DataW.Whole enc Tryz.prog Tryz.f3.params.toList Rows.basinUntilSpec.vars false W args.toList ds gs before) (hL : laidMetH Tryz.prog Rows.basinUntilRow.laid W) :
    Calls Tryz.prog 3 args W fun e W' => ∃ v, e = .returned v ∧ Rows.basinUntilSpec.post enc Tryz.prog Tryz.f3 false true false false W args v W' :=
  law_row (ts := ts) (f := 3) (m := fun x => Go.Tw.law04_BasinUntil_M x.1 x.2.1 x.2.2.1) (tb := 4) Go.Tw.law04_BasinUntil_ok (by kernel_rfl) (by kernel_rfl) Tryz.underlying4 (by unfold ts; intro q hq; simp only [List.mem_cons, List.not_mem_nil, or_false] at hq; rcases hq with rfl | rfl | rfl <;> kernel_rfl)
    (by kernel_rfl) (by unfold ts; intro q hq; simp only [List.mem_cons, List.not_mem_nil, or_false] at hq; rcases hq with rfl | rfl | rfl <;> exact ⟨by kernel_rfl, of_decide_eq_true (by kernel_rfl)⟩) rfl
    (fun ds hd => by
      match ds, hd with
      | [d1, d2, d3], _ => rfl)
    (fun x _ => Go.Tw.basinUntil_law x.1 x.2.1 x.2.2.1) W base args ds gs before hval hW (glob hL)

def put (cs : Array Value) : Obj → Obj
  | .cells _ t frozen => .cells cs t frozen
  | o => o

/-- A WORLD FOR THE WITNESS: the settled one, the tables holding what their initialisers lay. -/
noncomputable def laidWorld (os : Os) : World :=
  { World.holding Tryz.prog os ⟨#[], #[], []⟩ with heap := (((World.holding Tryz.prog os ⟨#[], #[], []⟩).heap.modify 7 (put (Go.Tw.theGT.gl.getD 0 default).2.2.toArray)).modify 8 (put (Go.Tw.theGT.gl.getD 1 default).2.2.toArray)).modify 2 (put (Go.Tw.theGT.gl.getD 2 default).2.2.toArray) }
def wargs : Array Value := #[.agg #[.slice none 0 0, .slice none 0 0], .slice none 0 0, .agg #[.int .i64 0, .bool false, .slice none 0 0, .int .i64 0, .int .i64 0]]
theorem laid_met (os : Os) : laidMet Tryz.prog Rows.basinUntilRow.laid ((laidWorld os).forCall (fun _ _ => 0) ⟨#[], wargs, []⟩).memory :=
  laidMet_of_run' 8 (by kernel_rfl) (by kernel_rfl)
def wds (H : Type) : List (DataW H) := [.agg [.nil, .nil], .nil, .agg [.agg [.lit (.int .i64 0), .lit (.bool false), .nil], .lit (.int .i64 0), .lit (.int .i64 0)]]
theorem reads (os : Os) {H : Type} (enc : TypeId × Value → H) : ∃ places, DataW.whole enc Tryz.prog ((laidWorld os).forCall (fun _ _ => 0) ⟨#[], wargs, []⟩).memory Tryz.f3.params.toList Rows.basinUntilSpec.vars false wargs.toList 8 = some (wds H, [], places) :=
  ⟨[], by kernel_rfl⟩

theorem lifted (os : Os) (started : os.Started) (H : Type) (enc : TypeId × Value → H) (F : Stop.Interp) :
    ReturnsInHanded {} Tryz.checked os 3 .any ((OpenSpec.ofChange Rows.basinUntilSpec).preRow enc Tryz.prog Tryz.f3 Rows.basinUntilRow.domain false Rows.basinUntilRow.laid) (((OpenSpec.ofChange Rows.basinUntilSpec).at F).post enc Tryz.prog Tryz.f3 false true false false) := by
  obtain ⟨places, hx⟩ := reads os enc
  refine returnsInHanded_of_row (C := Tryz.checked) (s := OpenSpec.ofChange Rows.basinUntilSpec) own started (by kernel_rfl) Tryz.func3
    (witness_row_at (enc := enc) (C := Tryz.checked) false (laidWorld os) wargs rfl (by kernel_rfl) (by kernel_rfl) (by kernel_rfl)
      (OpenSpec.preRow_of_cond 8 hx (by kernel_rfl) (fun k hk => by cases hk) (by kernel_rfl) (laid_met os))) ?_
  intro W base args ds gs before hval hW _ _ _ hL _ _
  exact contract H enc W base args ds gs before hval hW hL

theorem named : Tryz.prog.funcNamed "tideway/tidewaylaw04.BasinUntil" = some 3 := by kernel_rfl
theorem c1 : facts1 Tryz.prog 3 Tryz.f3 (OpenSpec.ofChange Rows.basinUntilSpec).bare Rows.basinUntilRow = true := by kernel_rfl
theorem c2 : facts2 Tryz.prog 3 Tryz.f3 (OpenSpec.ofChange Rows.basinUntilSpec).bare Rows.basinUntilRow = true := by kernel_rfl
theorem c3 : facts3 Tryz.prog 3 Tryz.f3 (OpenSpec.ofChange Rows.basinUntilSpec).bare Rows.basinUntilRow = true := by kernel_rfl
theorem c4 : facts4 Tryz.prog 3 Tryz.f3 (OpenSpec.ofChange Rows.basinUntilSpec).bare Rows.basinUntilRow = true := by kernel_rfl
theorem c5 : facts5 Tryz.prog 3 Tryz.f3 (OpenSpec.ofChange Rows.basinUntilSpec).bare Rows.basinUntilRow = true := by kernel_rfl
theorem c6 : facts6 Tryz.prog 3 Tryz.f3 (OpenSpec.ofChange Rows.basinUntilSpec).bare Rows.basinUntilRow = true := by kernel_rfl
theorem c7 : facts7 Tryz.prog 3 Tryz.f3 (OpenSpec.ofChange Rows.basinUntilSpec).bare Rows.basinUntilRow = true := by kernel_rfl
theorem c8 : facts8 Tryz.prog 3 Tryz.f3 (OpenSpec.ofChange Rows.basinUntilSpec).bare Rows.basinUntilRow = true := by kernel_rfl
theorem c9 : facts9 Tryz.prog 3 Tryz.f3 (OpenSpec.ofChange Rows.basinUntilSpec).bare Rows.basinUntilRow = true := by kernel_rfl
theorem inst : Tryz.f3.isInstance Tryz.prog Rows.basinUntilRow.origin Rows.basinUntilRow.targs := of_decide_eq_true (by kernel_rfl)
theorem wrapper : Tryz.f3.isWrapper Tryz.prog Rows.basinUntilRow.wrapper Rows.basinUntilRow.mainSum := by
  unfold Func.isWrapper
  first | (rw [if_pos (by decide +kernel)]; kernel_rfl) | (rw [if_neg (by decide +kernel)]; exact ⟨rfl, rfl⟩)

theorem said : Rows.BasinUntilSaid :=
  OpenClaim.holds_of_cond 3 Tryz.f3 rfl rfl rfl rfl rfl rfl rfl ⟨rfl, rfl, rfl, rfl, rfl⟩ rfl rfl rfl rfl rfl named Tryz.func3 (joined_of c1 c2 c3 c4 c5 c6 c7 c8 c9) inst wrapper
    (fun os started H enc _ F => by rw [OpenClaim.pre_eq_preRow]; exact lifted os started H enc F)

theorem plain (f : FuncId) (fn : Func) (hf : Tryz.pinned.checked.prog.funcNamed "tideway/tidewaylaw04.BasinUntil" = some f) (hfn : Tryz.pinned.checked.prog.funcs[f]? = some fn) :
    true = Tryz.pinned.checked.prog.looks [] ∧ ∀ (j : Nat) t, fn.params[j]? = some t → Tryz.pinned.checked.prog.wantsStandIn t = false := by
  obtain rfl : f = 3 := Option.some.inj (named.symm.trans hf) |>.symm
  obtain rfl : fn = Tryz.f3 := (Option.some.inj (Tryz.func3.symm.trans hfn)).symm
  refine ⟨by kernel_rfl, fun j t ht => ?_⟩
  have h : (Tryz.f3.params.toList.all fun t => !Tryz.prog.wantsStandIn t) = true := by kernel_rfl
  have := List.all_eq_true.1 h t (by simpa using Array.mem_of_getElem? ht)
  show Tryz.prog.wantsStandIn t = false
  simpa using this

/-- THE CARD -/
theorem card : Rows.BasinUntilCardSaid :=
  Claim7.holds_tied_plain_at .later [] _ _ _ _ said (fun _ h => by cases h) (by kernel_rfl) (fun _ h => by cases h) basinUntil_row_tie rfl ⟨rfl, rfl⟩ (by kernel_rfl) rfl plain (by kernel_rfl)
end Go.Proofs.YtkfigfhjbejikaaGreatDoor.tBasinUntil
#print axioms Go.Proofs.YtkfigfhjbejikaaGreatDoor.tBasinUntil.card
