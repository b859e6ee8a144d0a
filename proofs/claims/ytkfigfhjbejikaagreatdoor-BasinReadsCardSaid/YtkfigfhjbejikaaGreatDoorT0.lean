/- The tables of Go's library that the rows list: what they hold is what the models read. -/
import Derived.Test.YtkfigfhjbejikaaGreatDoorCards
import Derived.Test.YtkfigfhjbejikaaGreatDoorTie
import Derived.Test.YtkfigfhjbejikaaGreatDoorVF
import Derived.Test.YtkfigfhjbejikaaGreatDoorB0
import Derived.WalkKit
import Derived.ProofKit
import Derived.OpenShut
import Derived.Deep.DeepHandedRow
import Derived.Lib.LaidTab
import Derived.Shelf.Vars

set_option linter.all false
set_option maxRecDepth 100000
namespace Go.Proofs.YtkfigfhjbejikaaGreatDoor.rows
open Go.ChangeShapes Go.WideShapes Go.ChangeAt Go.RowKit Go.Vx Go.Vx.B

theorem own : ownKnob Tryz.prog.godebug = none := by kernel_rfl

theorem y8u {P : Program} {W : World} {name : String} {k : IntKind} {zs : List Int} {g : Nat} {t e : TypeId} {n : Nat}
    (hg : P.globalNamed name = some g) (hty : (P.globals[g]?).map (·.type) = some t) (ht : P.underlying t = some (.array n e)) (he : P.underlying e = some (.int k)) (hce : P.cellsOf e = 1) (hct : P.cellsOf t = n) :
    ∀ (l : List (String × DataW Unit)) (ps : List MemPlace) (i : Nat), DataW.LaidVars P W l ps → l[i]? = some (name, Lib.tabData k zs) → Lib.TabIs P W name k zs
  | [], _, _, _, hi => by simp at hi
  | x :: l, ps, i, h, hi => by
    obtain ⟨g', t', cs, fuel, p, q, hg', ht', hvar, hd, hr, _⟩ := h
    cases i with
    | zero =>
      simp at hi
      subst hi
      obtain rfl := Option.some.inj (hg.symm.trans hg')
      obtain rfl := Option.some.inj (hty.symm.trans ht')
      unfold Lib.TabIs
      rw [hvar, ← Lib.cells_of_tab ht he hce hct hd]
    | succ i => exact y8u hg hty ht he hce hct l q i hr (by simpa using hi)

theorem yAJ {P : Program} {W : World} {name : String} {g : Nat} {cs : Array Value} (hg : P.globalNamed name = some g) (h : W.var? P name = some cs) : g < W.heap.size ∧ ∃ t f, W.heap[g]? = some (.cells cs t f) := by
  unfold World.var? at h
  rw [hg] at h
  simp only [Option.bind_some] at h
  split at h
  · rename_i cs' t f hc
    cases h
    exact ⟨yG hc, t, f, hc⟩
  · cases h

theorem y9k {P : Program} {W : World} {name : String} {D : DataW Unit} {g : Nat} {t : TypeId} {Q : List Value → Prop}
    (hg : P.globalNamed name = some g) (hty : (P.globals[g]?).map (·.type) = some t)
    (hd : ∀ (sp : Nat → Bool) (b : Nat) (held : Bool) (enc : TypeId × Value → Unit) (fuel : Nat) (cs : List Value) (p : List MemPlace), DataW.trod enc P W b sp false fuel t cs = some (D, p) → Q cs) :
    ∀ (l : List (String × DataW Unit)) (ps : List MemPlace) (i : Nat), DataW.LaidVars P W l ps → l[i]? = some (name, D) → ∃ cs, W.var? P name = some cs ∧ Q cs.toList
  | [], _, _, _, hi => by simp at hi
  | x :: l, ps, i, h, hi => by
    obtain ⟨g', t', cs, fuel, p, q, hg', ht', hvar, hd', hr, _⟩ := h
    cases i with
    | zero =>
      simp at hi
      subst hi
      obtain rfl := Option.some.inj (hg.symm.trans hg')
      obtain rfl := Option.some.inj (hty.symm.trans ht')
      exact ⟨cs, hvar, hd _ _ false _ _ _ _ hd'⟩
    | succ i => exact y9k hg hty hd l q i hr (by simpa using hi)

theorem yDa {P : Program} {W : World} {sp : Nat → Bool} {b : Nat} {enc : TypeId × Value → Unit} {fuel : Nat} {t : TypeId} {ms : Array (String × TypeId)} {cs : List Value} {n : String} {d : DataW Unit} {p : List MemPlace} (ht : P.underlying t = some (.interface ms))
    (h : DataW.trod enc P W b sp false fuel t cs = some (.iface n d, p)) : ∃ u v, cs = [.iface u v] := by
  cases fuel with
  | zero => simp [DataW.trod] at h
  | succ k =>
    unfold DataW.trod at h
    rw [ht] at h
    split at h <;> simp_all

theorem yEf {P : Program} {W : World} {name : String} {g : Nat} (hg : P.globalNamed name = some g) (h : ∃ cs, W.var? P name = some cs ∧ ∃ u v, cs.toList = [.iface u v]) :
    g < W.heap.size ∧ ∃ (tp : TypeId) (p : Value) (t : TypeId) (f : Nat × Nat), W.heap[g]? = some (.cells #[.iface tp p] t f) := by
  obtain ⟨cs, hc, u, v, e⟩ := h
  obtain ⟨h1, t, f, h2⟩ := yAJ hg hc
  have : cs = #[.iface u v] := by apply Array.toList_inj.1; rw [e]
  rw [this] at h2
  exact ⟨h1, u, v, t, f, h2⟩

theorem yN9 {P : Program} {w : World} {g : Nat} {t : TypeId} {zero : Array Value} {k : IntKind} (h : w.ShapedOpen P) (hg : g < P.globals.size)
    (h0 : ((begin P (fun _ _ => 0) default).world.heap[g]?).bind Obj.row? = some (zero, t)) (hz : zero.size = 1)
    (hb : P.buildable t = true) (hc : P.cellTypes P.depth t = some [t]) (hu : P.underlying t = some (.int k)) : g < w.heap.size ∧ ∃ (m : Int) (t : TypeId) (f : Nat × Nat), w.heap[g]? = some (.cells #[.int k m] t f) := by
  obtain ⟨m, hm⟩ := cell_of_shapedOpen_int h hg h0 hz hb hc hu
  obtain ⟨cs, hh, hs, _⟩ := h.1 g zero t hg h0
  refine ⟨yG hh, m, t, (0, 0), ?_⟩
  rw [hh]
  simp only [World.cell?, hh] at hm
  have e : cs = #[.int k m] := by
    apply Array.ext_getElem?
    intro i
    cases i with
    | zero => exact (show cs[0]? = some (Value.int k m) from hm)
    | succ i =>
      have h1 : ¬ i + 1 < cs.size := by omega
      rw [Array.getElem?_eq_none (by omega)]
      rfl
  rw [e]

theorem glob {W : World} (h : laidMetH Tryz.prog Rows.basinTextsRow.laid W) (hsh : W.ShapedOpen Tryz.prog) : GlobOK noA W := by
  have h' : laidMet Tryz.prog Rows.basinTextsRow.laid W := h
  obtain ⟨ps, hv, _⟩ := h'
  have h7 := y8u (P := Tryz.prog) (W := W) (name := "math/bits.deBruijn32tab") (k := .u8) (zs := [0, 1, 28, 2, 29, 14, 24, 3, 30, 22, 20, 15, 25, 17, 4, 8, 31, 27, 13, 23, 21, 19, 16, 7, 26, 12, 18, 6, 11, 5, 10, 9]) (g := 7) (t := 315) (e := 5) (n := 32) (by kernel_rfl) (by kernel_rfl) Tryz.underlying315 Tryz.underlying5 (by kernel_rfl) (by kernel_rfl) _ ps 0 hv rfl
  have h8 := y8u (P := Tryz.prog) (W := W) (name := "math/bits.deBruijn64tab") (k := .u8) (zs := [0, 1, 56, 2, 57, 49, 28, 3, 61, 58, 42, 50, 38, 29, 17, 4, 62, 47, 59, 36, 45, 43, 51, 22, 53, 39, 33, 30, 24, 18, 12, 5, 63, 55, 48, 27, 60, 41, 37, 16, 46, 35, 44, 21, 52, 32, 23, 11, 54, 26, 40, 15, 34, 20, 31, 10, 25, 14, 19, 9, 13, 8, 7, 6]) (g := 8) (t := 316) (e := 5) (n := 64) (by kernel_rfl) (by kernel_rfl) Tryz.underlying316 Tryz.underlying5 (by kernel_rfl) (by kernel_rfl) _ ps 1 hv rfl
  have h2 := y8u (P := Tryz.prog) (W := W) (name := "internal/strconv.uint64pow10") (k := .u64) (zs := [1, 10, 100, 1000, 10000, 100000, 1000000, 10000000, 100000000, 1000000000, 10000000000, 100000000000, 1000000000000, 10000000000000, 100000000000000, 1000000000000000, 10000000000000000, 100000000000000000, 1000000000000000000, 10000000000000000000]) (g := 2) (t := 290) (e := 280) (n := 20) (by kernel_rfl) (by kernel_rfl) Tryz.underlying290 Tryz.underlying280 (by kernel_rfl) (by kernel_rfl) _ ps 2 hv rfl
  obtain ⟨l7, r7⟩ := yAJ (P := Tryz.prog) (g := 7) (by kernel_rfl) h7
  obtain ⟨l8, r8⟩ := yAJ (P := Tryz.prog) (g := 8) (by kernel_rfl) h8
  obtain ⟨l2, r2⟩ := yAJ (P := Tryz.prog) (g := 2) (by kernel_rfl) h2
  have h5 := y9k (P := Tryz.prog) (W := W) (name := "strconv.ErrSyntax") (D := Rows.laid_strconv_ErrSyntax) (g := 5) (t := 203) (Q := fun cs => ∃ u v, cs = [.iface u v]) (by kernel_rfl) (by kernel_rfl) (fun _ _ _ _ _ _ _ h => yDa Tryz.underlying203 h) _ ps 5 hv rfl
  have h6 := y9k (P := Tryz.prog) (W := W) (name := "strconv.ErrRange") (D := Rows.laid_strconv_ErrRange) (g := 6) (t := 203) (Q := fun cs => ∃ u v, cs = [.iface u v]) (by kernel_rfl) (by kernel_rfl) (fun _ _ _ _ _ _ _ h => yDa Tryz.underlying203 h) _ ps 4 hv rfl
  refine ⟨fun p hp => ?_, fun b hb => ?_, fun b hb => ?_⟩
  case refine_2 =>
    rw [List.mem_singleton.1 (show b ∈ [1] from hb)]
    exact ⟨fun h => h, yN9 hsh (zero := #[.int .i64 0]) (t := 3) (of_decide_eq_true (by kernel_rfl)) (by kernel_rfl) rfl (by kernel_rfl) (by kernel_rfl) Tryz.underlying3⟩
  case refine_3 =>
    rcases List.mem_cons.1 (show b ∈ [5, 6] from hb) with rfl | hb
    · exact ⟨fun h => h, yEf (P := Tryz.prog) (g := 5) (by kernel_rfl) h5⟩
    · rw [List.mem_singleton.1 hb]
      exact ⟨fun h => h, yEf (P := Tryz.prog) (g := 6) (by kernel_rfl) h6⟩
  rcases List.mem_cons.1 (show p ∈ (_ :: _ :: _ :: [] : List (Nat × Ty × List Value)) from hp) with rfl | hp
  · exact ⟨fun h => h, l7, r7⟩
  · rcases List.mem_cons.1 hp with rfl | hp
    · exact ⟨fun h => h, l8, r8⟩
    · rcases List.mem_cons.1 hp with rfl | hp
      · exact ⟨fun h => h, l2, r2⟩
      · cases hp

def put (cs : Array Value) : Obj → Obj
  | .cells _ t frozen => .cells cs t frozen
  | o => o

/-- Where new blocks come to lie. -/
noncomputable def low : Nat := (World.holding Tryz.prog default ⟨#[], #[], []⟩).heap.size

def yOK : Array Value := (Go.Pinned.utf8FirstZ.map fun (n : Nat) => Value.int .u8 (n : Int)).toArray
def yMp : Array Value := #[.int .u8 128, .int .u8 191, .int .u8 160, .int .u8 191, .int .u8 128, .int .u8 159, .int .u8 144, .int .u8 191, .int .u8 128, .int .u8 143] ++ Array.replicate 22 (.int .u8 0)

/-- A WORLD FOR THE WITNESS: the settled one, the tables and the two errors as their initialisers lay them. -/
noncomputable def y7h (os : Os) : World :=
  let w0 := World.holding Tryz.prog os ⟨#[.cells #[.string ⟨#[105, 110, 118, 97, 108, 105, 100, 32, 115, 121, 110, 116, 97, 120]⟩] 320, .cells #[.string ⟨#[118, 97, 108, 117, 101, 32, 111, 117, 116, 32, 111, 102, 32, 114, 97, 110, 103, 101]⟩] 320], #[], []⟩
  { w0 with heap := ((((((w0.heap.modify 7 (put (Go.Tw.theGT.gl.getD 0 default).2.2.toArray)).modify 8 (put (Go.Tw.theGT.gl.getD 1 default).2.2.toArray)).modify 2 (put (Go.Tw.theGT.gl.getD 2 default).2.2.toArray)).modify 3 (put yOK)).modify 4 (put yMp)).modify 5 (put #[.iface 318 (.pointer (some ⟨low, 0, none⟩))])).modify 6 (put #[.iface 318 (.pointer (some ⟨low + 1, 0, none⟩))]) }
end Go.Proofs.YtkfigfhjbejikaaGreatDoor.rows
