/- The tables of Go's library that the rows list: what they hold is what the models read. -/
import Derived.Test.YtkfigfhjbejikaaGreatDoorCards
import Derived.Test.YtkfigfhjbejikaaGreatDoorTie
import Derived.Test.YtkfigfhjbejikaaGreatDoorVF
import Derived.Test.YtkfigfhjbejikaaGreatDoorB0
import Derived.WalkKit
import Derived.ProofKit
import Derived.OpenShut
import Derived.Deep.DeepHandedRow
import Derived.Lib.LaidTab

set_option linter.all false
set_option maxRecDepth 100000
namespace Go.Proofs.YtkfigfhjbejikaaGreatDoor.rows
open Go.ChangeShapes Go.WideShapes Go.ChangeAt Go.RowKit Go.Vx Go.Vx.B

theorem own : ownKnob Tryz.prog.godebug = none := by kernel_rfl

theorem yAR {P : Program} {W : World} {name : String} {k : IntKind} {zs : List Int} {g : Nat} {t e : TypeId} {n : Nat}
  (hg : P.globalNamed name = some g) (hty : (P.globals[g]?).map (·.type) = some t) (ht : P.underlying t = some (.array n e)) (he : P.underlying e = some (.int k)) (hce : P.cellsOf e = 1) (hct : P.cellsOf t = n) :
  ∀ (l : List (String × DataW Unit)) (ps : List MemPlace) (i : Nat), DataW.LaidVars P W l ps → l[i]? = some (name, Lib.tabData k zs) → Lib.TabIs P W name k zs
 | [], _, _, _, hi => by simp at hi
 | x :: l, ps, i, h, hi => by
  obtain ⟨g', t', cs, fuel, p, q, hg', ht', hvar, hd, hr, _⟩ := h
  cases i with
  | zero =>
   simp at hi
   subst hi
   obtain rfl := Option.some.inj (hg.symm.trans hg')
   obtain rfl := Option.some.inj (hty.symm.trans ht')
   unfold Lib.TabIs
   rw [hvar, ← Lib.cells_of_tab ht he hce hct hd]
  | succ i => exact yAR hg hty ht he hce hct l q i hr (by simpa using hi)

theorem yEy {P : Program} {W : World} {name : String} {g : Nat} {cs : Array Value} (hg : P.globalNamed name = some g) (h : W.var? P name = some cs) : g < W.heap.size ∧ ∃ t f, W.heap[g]? = some (.cells cs t f) := by
 unfold World.var? at h
 rw [hg] at h
 simp only [Option.bind_some] at h
 split at h
 ·rename_i cs' t f hc
  cases h
  exact ⟨yM hc, t, f, hc⟩
 ·cases h

theorem glob {W : World} (h : laidMetH Tryz.prog Rows.basinUntilRow.laid W) : GlobOK noA W := by
 have h' : laidMet Tryz.prog Rows.basinUntilRow.laid W := h
 obtain ⟨ps, hv, _⟩ := h'
 have h7 := yAR (P := Tryz.prog) (W := W) (name := "math/bits.deBruijn32tab") (k := .u8) (zs := [0, 1, 28, 2, 29, 14, 24, 3, 30, 22, 20, 15, 25, 17, 4, 8, 31, 27, 13, 23, 21, 19, 16, 7, 26, 12, 18, 6, 11, 5, 10, 9]) (g := 7) (t := 315) (e := 5) (n := 32) (by kernel_rfl) (by kernel_rfl) Tryz.underlying315 Tryz.underlying5 (by kernel_rfl) (by kernel_rfl) _ ps 0 hv rfl
 have h8 := yAR (P := Tryz.prog) (W := W) (name := "math/bits.deBruijn64tab") (k := .u8) (zs := [0, 1, 56, 2, 57, 49, 28, 3, 61, 58, 42, 50, 38, 29, 17, 4, 62, 47, 59, 36, 45, 43, 51, 22, 53, 39, 33, 30, 24, 18, 12, 5, 63, 55, 48, 27, 60, 41, 37, 16, 46, 35, 44, 21, 52, 32, 23, 11, 54, 26, 40, 15, 34, 20, 31, 10, 25, 14, 19, 9, 13, 8, 7, 6]) (g := 8) (t := 316) (e := 5) (n := 64) (by kernel_rfl) (by kernel_rfl) Tryz.underlying316 Tryz.underlying5 (by kernel_rfl) (by kernel_rfl) _ ps 1 hv rfl
 have h2 := yAR (P := Tryz.prog) (W := W) (name := "internal/strconv.uint64pow10") (k := .u64) (zs := [1, 10, 100, 1000, 10000, 100000, 1000000, 10000000, 100000000, 1000000000, 10000000000, 100000000000, 1000000000000, 10000000000000, 100000000000000, 1000000000000000, 10000000000000000, 100000000000000000, 1000000000000000000, 10000000000000000000]) (g := 2) (t := 290) (e := 280) (n := 20) (by kernel_rfl) (by kernel_rfl) Tryz.underlying290 Tryz.underlying280 (by kernel_rfl) (by kernel_rfl) _ ps 2 hv rfl
 obtain ⟨l7, r7⟩ := yEy (P := Tryz.prog) (g := 7) (by kernel_rfl) h7
 obtain ⟨l8, r8⟩ := yEy (P := Tryz.prog) (g := 8) (by kernel_rfl) h8
 obtain ⟨l2, r2⟩ := yEy (P := Tryz.prog) (g := 2) (by kernel_rfl) h2
 refine ⟨fun p hp => ?_, fun b hb => (by cases hb), fun b hb => (by cases hb)⟩
 rcases List.mem_cons.1 (show p ∈ (_ :: _ :: _ :: [] : List (Nat × Ty × List Value)) from hp) with rfl | hp
 ·exact ⟨fun h => h, l7, r7⟩
 ·rcases List.mem_cons.1 hp with rfl | hp
  ·exact ⟨fun h => h, l8, r8⟩
  ·rcases List.mem_cons.1 hp with rfl | hp
   ·exact ⟨fun h => h, l2, r2⟩
   ·cases hp

def put (cs : Array Value) : Obj → Obj
 | .cells _ t frozen => .cells cs t frozen
 | o => o

/-- A WORLD FOR THE WITNESS: the settled one, the tables holding what their initialisers lay. -/
noncomputable def y9E (os : Os) : World :=
 { World.holding Tryz.prog os ⟨#[], #[], []⟩ with heap := (((World.holding Tryz.prog os ⟨#[], #[], []⟩).heap.modify 7 (put (Go.Tw.theGT.gl.getD 0 default).2.2.toArray)).modify 8 (put (Go.Tw.theGT.gl.getD 1 default).2.2.toArray)).modify 2 (put (Go.Tw.theGT.gl.getD 2 default).2.2.toArray) }
end Go.Proofs.YtkfigfhjbejikaaGreatDoor.rows
