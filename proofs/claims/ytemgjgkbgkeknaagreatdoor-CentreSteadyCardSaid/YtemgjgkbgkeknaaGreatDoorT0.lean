/- The tables of Go's library that the rows list: what they hold is what the models read. -/
import Derived.Test.YtemgjgkbgkeknaaGreatDoorCards
import Derived.Test.YtemgjgkbgkeknaaGreatDoorTie
import Derived.Test.YtemgjgkbgkeknaaGreatDoorVF
import Derived.Test.YtemgjgkbgkeknaaGreatDoorB0
import Derived.WalkKit
import Derived.ProofKit
import Derived.OpenShut
import Derived.Deep.DeepHandedRow
import Derived.Lib.LaidTab
import Derived.Shelf.Vars

set_option linter.all false
set_option maxRecDepth 100000
namespace Go.Proofs.YtemgjgkbgkeknaaGreatDoor.rows
open Go.ChangeShapes Go.WideShapes Go.ChangeAt Go.RowKit Go.Vx Go.Vx.B

theorem own : ownKnob Tryz.prog.godebug = none := by kernel_rfl

theorem y9w {P : Program} {W : World} {name : String} {k : IntKind} {zs : List Int} {g : Nat} {t e : TypeId} {n : Nat}
  (hg : P.globalNamed name = some g) (hty : (P.globals[g]?).map (·.type) = some t) (ht : P.underlying t = some (.array n e)) (he : P.underlying e = some (.int k)) (hce : P.cellsOf e = 1) (hct : P.cellsOf t = n) :
  ∀ (l : List (String × DataW Unit)) (ps : List MemPlace) (i : Nat), DataW.LaidVars P W l ps → l[i]? = some (name, Lib.tabData k zs) → Lib.TabIs P W name k zs
 | [], _, _, _, hi => by simp at hi
 | x :: l, ps, i, h, hi => by
  obtain ⟨g', t', cs, fuel, p, q, hg', ht', hvar, hd, hr, _⟩ := h
  cases i with
  | zero =>
   simp at hi
   subst hi
   obtain rfl := Option.some.inj (hg.symm.trans hg')
   obtain rfl := Option.some.inj (hty.symm.trans ht')
   unfold Lib.TabIs
   rw [hvar, ← Lib.cells_of_tab ht he hce hct hd]
  | succ i => exact y9w hg hty ht he hce hct l q i hr (by simpa using hi)

theorem yDu {P : Program} {W : World} {name : String} {g : Nat} {cs : Array Value} (hg : P.globalNamed name = some g) (h : W.var? P name = some cs) : g < W.heap.size ∧ ∃ t f, W.heap[g]? = some (.cells cs t f) := by
 unfold World.var? at h
 rw [hg] at h
 simp only [Option.bind_some] at h
 split at h
 ·rename_i cs' t f hc
  cases h
  exact ⟨yJ hc, t, f, hc⟩
 ·cases h

theorem yQB {P : Program} {w : World} {g : Nat} {t : TypeId} {zero : Array Value} {k : IntKind} (h : w.ShapedOpen P) (hg : g < P.globals.size)
  (h0 : ((begin P (fun _ _ => 0) default).world.heap[g]?).bind Obj.row? = some (zero, t)) (hz : zero.size = 1)
  (hb : P.buildable t = true) (hc : P.cellTypes P.depth t = some [t]) (hu : P.underlying t = some (.int k)) : g < w.heap.size ∧ ∃ (m : Int) (t : TypeId) (f : Nat × Nat), w.heap[g]? = some (.cells #[.int k m] t f) := by
 obtain ⟨m, hm⟩ := cell_of_shapedOpen_int h hg h0 hz hb hc hu
 obtain ⟨cs, hh, hs, _⟩ := h.1 g zero t hg h0
 refine ⟨yJ hh, m, t, (0, 0), ?_⟩
 rw [hh]
 simp only [World.cell?, hh] at hm
 have e : cs = #[.int k m] := by
  apply Array.ext_getElem?
  intro i
  cases i with
  | zero => exact (show cs[0]? = some (Value.int k m) from hm)
  | succ i =>
   have h1 : ¬ i + 1 < cs.size := by omega
   rw [Array.getElem?_eq_none (by omega)]
   rfl
 rw [e]

theorem glob {W : World} (h : laidMetH Tryz.prog Rows.centreNightsRow.laid W) (hsh : W.ShapedOpen Tryz.prog) : GlobOK noA W := by
 have h' : laidMet Tryz.prog Rows.centreNightsRow.laid W := h
 obtain ⟨ps, hv, _⟩ := h'
 have h4 := y9w (P := Tryz.prog) (W := W) (name := "math/bits.deBruijn32tab") (k := .u8) (zs := [0, 1, 28, 2, 29, 14, 24, 3, 30, 22, 20, 15, 25, 17, 4, 8, 31, 27, 13, 23, 21, 19, 16, 7, 26, 12, 18, 6, 11, 5, 10, 9]) (g := 4) (t := 287) (e := 5) (n := 32) (by kernel_rfl) (by kernel_rfl) Tryz.underlying287 Tryz.underlying5 (by kernel_rfl) (by kernel_rfl) _ ps 0 hv rfl
 have h5 := y9w (P := Tryz.prog) (W := W) (name := "math/bits.deBruijn64tab") (k := .u8) (zs := [0, 1, 56, 2, 57, 49, 28, 3, 61, 58, 42, 50, 38, 29, 17, 4, 62, 47, 59, 36, 45, 43, 51, 22, 53, 39, 33, 30, 24, 18, 12, 5, 63, 55, 48, 27, 60, 41, 37, 16, 46, 35, 44, 21, 52, 32, 23, 11, 54, 26, 40, 15, 34, 20, 31, 10, 25, 14, 19, 9, 13, 8, 7, 6]) (g := 5) (t := 288) (e := 5) (n := 64) (by kernel_rfl) (by kernel_rfl) Tryz.underlying288 Tryz.underlying5 (by kernel_rfl) (by kernel_rfl) _ ps 1 hv rfl
 have h1 := y9w (P := Tryz.prog) (W := W) (name := "internal/strconv.uint64pow10") (k := .u64) (zs := [1, 10, 100, 1000, 10000, 100000, 1000000, 10000000, 100000000, 1000000000, 10000000000, 100000000000, 1000000000000, 10000000000000, 100000000000000, 1000000000000000, 10000000000000000, 100000000000000000, 1000000000000000000, 10000000000000000000]) (g := 1) (t := 278) (e := 263) (n := 20) (by kernel_rfl) (by kernel_rfl) Tryz.underlying278 Tryz.underlying263 (by kernel_rfl) (by kernel_rfl) _ ps 2 hv rfl
 obtain ⟨l4, r4⟩ := yDu (P := Tryz.prog) (g := 4) (by kernel_rfl) h4
 obtain ⟨l5, r5⟩ := yDu (P := Tryz.prog) (g := 5) (by kernel_rfl) h5
 obtain ⟨l1, r1⟩ := yDu (P := Tryz.prog) (g := 1) (by kernel_rfl) h1
 refine ⟨fun p hp => ?_, fun b hb => ?_, fun b hb => by cases (show b ∈ [] from hb)⟩
 case refine_2 =>
  rw [List.mem_singleton.1 (show b ∈ [0] from hb)]
  exact ⟨fun h => h, yQB hsh (zero := #[.int .i64 0]) (t := 3) (of_decide_eq_true (by kernel_rfl)) (by kernel_rfl) rfl (by kernel_rfl) (by kernel_rfl) Tryz.underlying3⟩
 rcases List.mem_cons.1 (show p ∈ (_ :: _ :: _ :: [] : List (Nat × Ty × List Value)) from hp) with rfl | hp
 ·exact ⟨fun h => h, l1, r1⟩
 ·rcases List.mem_cons.1 hp with rfl | hp
  ·exact ⟨fun h => h, l4, r4⟩
  ·rcases List.mem_cons.1 hp with rfl | hp
   ·exact ⟨fun h => h, l5, r5⟩
   ·cases hp

def put (cs : Array Value) : Obj → Obj
 | .cells _ t frozen => .cells cs t frozen
 | o => o

def yPT : Array Value := (Go.Pinned.utf8FirstZ.map fun (n : Nat) => Value.int .u8 (n : Int)).toArray
def yN9 : Array Value := #[.int .u8 128, .int .u8 191, .int .u8 160, .int .u8 191, .int .u8 128, .int .u8 159, .int .u8 144, .int .u8 191, .int .u8 128, .int .u8 143] ++ Array.replicate 22 (.int .u8 0)

/-- A WORLD FOR THE WITNESS: the settled one, the tables as their initialisers lay them. -/
noncomputable def y8Q (os : Os) : World :=
 let w0 := World.holding Tryz.prog os ⟨#[], #[], []⟩
 { w0 with heap := (((((w0.heap.modify 4 (put (Go.Tw.theGT.gl.getD 1 default).2.2.toArray)).modify 5 (put (Go.Tw.theGT.gl.getD 2 default).2.2.toArray)).modify 1 (put (Go.Tw.theGT.gl.getD 0 default).2.2.toArray)).modify 2 (put yPT)).modify 3 (put yN9)) }
theorem gn2 : Tryz.prog.globalNamed "unicode/utf8.first" = some 2 := by kernel_rfl
theorem gn3 : Tryz.prog.globalNamed "unicode/utf8.acceptRanges" = some 3 := by kernel_rfl
end Go.Proofs.YtemgjgkbgkeknaaGreatDoor.rows
