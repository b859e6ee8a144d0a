/- The tables of Go's library that the rows list: what they hold is what the models read. -/
import Derived.Test.YtlaebedgpkiodaaGreatDoorCards
import Derived.Test.YtlaebedgpkiodaaGreatDoorTie
import Derived.Test.YtlaebedgpkiodaaGreatDoorVF
import Derived.Test.YtlaebedgpkiodaaGreatDoorB0
import Derived.WalkKit
import Derived.ProofKit
import Derived.OpenShut
import Derived.Deep.DeepHandedRow
import Derived.Lib.LaidTab
import Derived.Shelf.Vars

set_option linter.all false
set_option maxRecDepth 100000
namespace Go.Proofs.YtlaebedgpkiodaaGreatDoor.rows
open Go.ChangeShapes Go.WideShapes Go.ChangeAt Go.RowKit Go.Vx Go.Vx.B

theorem own : ownKnob Tryz.prog.godebug = none := by kernel_rfl

theorem yEc {P : Program} {W : World} {name : String} {D : DataW Unit} {g : Nat} {t : TypeId} {L : List Value}
  (hg : P.globalNamed name = some g) (hty : (P.globals[g]?).map (·.type) = some t)
  (hd : ∀ (sp : Nat → Bool) (b : Nat) (held : Bool) (enc : TypeId × Value → Unit) (fuel : Nat) (cs : List Value) (p : List MemPlace), DataW.trod enc P W b sp held fuel t cs = some (D, p) → cs = L) :
  ∀ (l : List (String × DataW Unit)) (ps : List MemPlace) (i : Nat), DataW.LaidVars P W l ps → l[i]? = some (name, D) → W.var? P name = some L.toArray
 | [], _, _, _, hi => by simp at hi
 | x :: l, ps, i, h, hi => by
  obtain ⟨g', t', cs, fuel, p, q, hg', ht', hvar, hd', hr, _⟩ := h
  cases i with
  | zero =>
   simp at hi
   subst hi
   obtain rfl := Option.some.inj (hg.symm.trans hg')
   obtain rfl := Option.some.inj (hty.symm.trans ht')
   rw [hvar, ← hd _ _ _ _ _ _ _ hd']
  | succ i => exact yEc hg hty hd l q i hr (by simpa using hi)

theorem y2b {W : World} {sp : Nat → Bool} {b : Nat} {held : Bool} {enc : TypeId × Value → Unit} {fuel : Nat} {cs : List Value} {p : List MemPlace} {x y : Int} (h : DataW.trod enc Tryz.prog W b sp held fuel 36 cs = some (.agg [.lit (.int .i64 x), .lit (.int .i64 y)], p)) : cs = [.int .i64 x, .int .i64 y] := by
 obtain ⟨y0, y1, n, h1, h2, h3, h4⟩ := trod_struct2 Tryz.underlying36 h
 obtain ⟨a, ha, hax, _⟩ := DataW.trod_int Tryz.underlying3 h3
 obtain ⟨c, hc, hcx, _⟩ := DataW.trod_int Tryz.underlying3 h4
 subst hax hcx
 simp only [Prod.mk.injEq, DataW.agg.injEq, List.cons.injEq, DataW.lit.injEq, Lit.int.injEq, true_and, and_true] at h1
 obtain ⟨⟨rfl, rfl⟩, _⟩ := h1
 have e1 : Tryz.prog.cellsOf 36 = 2 := by kernel_rfl
 have e2 : Tryz.prog.cellsOf 3 = 1 := by kernel_rfl
 rw [e1] at h2
 match cs, h2 with
 | [u, v], _ =>
  rw [e2] at ha hc
  simp only [List.drop_zero, List.take_succ_cons, List.take_zero, List.drop_succ_cons, List.cons.injEq, and_true] at ha hc
  rw [ha, hc]

theorem yEQ {W : World} {sp : Nat → Bool} {b : Nat} {held : Bool} {enc : TypeId × Value → Unit} {fuel : Nat} {cs : List Value} {p : List MemPlace} (h : DataW.trod enc Tryz.prog W b sp held fuel 191 cs = some (Rows.laid_tideway_tide_turns, p)) :
  cs = [.int .i64 1, .int .i64 0, .int .i64 0, .int .i64 1, .int .i64 (-1), .int .i64 0, .int .i64 0, .int .i64 (-1)] := by
 obtain ⟨xs, m, _, hx, hl, hn, hget⟩ := DataW.trod_array Tryz.underlying191 h
 have e1 : Tryz.prog.cellsOf 36 = 2 := by kernel_rfl
 have e2 : Tryz.prog.cellsOf 191 = 8 := by kernel_rfl
 rw [e2] at hl
 rw [e1] at hget
 match xs, hn with
 | [a0, a1, a2, a3], _ =>
  unfold Rows.laid_tideway_tide_turns at hx
  simp only [List.map_cons, List.map_nil, Prod.mk.injEq, DataW.agg.injEq, List.cons.injEq, and_true] at hx
  obtain ⟨⟨k0, k1, k2, k3⟩, _⟩ := hx
  obtain ⟨a0, q0⟩ := a0
  obtain ⟨a1, q1⟩ := a1
  obtain ⟨a2, q2⟩ := a2
  obtain ⟨a3, q3⟩ := a3
  simp only at k0 k1 k2 k3
  subst k0 k1 k2 k3
  have g0 := y2b (hget 0 (by omega))
  have g1 := y2b (hget 1 (by omega))
  have g2 := y2b (hget 2 (by omega))
  have g3 := y2b (hget 3 (by omega))
  match cs, hl with
  | [c0, c1, c2, c3, c4, c5, c6, c7], _ =>
   simp only [Nat.zero_mul, Nat.one_mul, Nat.reduceMul, List.drop_zero, List.take_succ_cons, List.take_zero, List.drop_succ_cons, List.cons.injEq, and_true] at g0 g1 g2 g3
   obtain ⟨rfl, rfl⟩ := g0
   obtain ⟨rfl, rfl⟩ := g1
   obtain ⟨rfl, rfl⟩ := g2
   obtain ⟨rfl, rfl⟩ := g3
   rfl

theorem yAW {P : Program} {W : World} {name : String} {k : IntKind} {zs : List Int} {g : Nat} {t e : TypeId} {n : Nat}
  (hg : P.globalNamed name = some g) (hty : (P.globals[g]?).map (·.type) = some t) (ht : P.underlying t = some (.array n e)) (he : P.underlying e = some (.int k)) (hce : P.cellsOf e = 1) (hct : P.cellsOf t = n) :
  ∀ (l : List (String × DataW Unit)) (ps : List MemPlace) (i : Nat), DataW.LaidVars P W l ps → l[i]? = some (name, Lib.tabData k zs) → Lib.TabIs P W name k zs
 | [], _, _, _, hi => by simp at hi
 | x :: l, ps, i, h, hi => by
  obtain ⟨g', t', cs, fuel, p, q, hg', ht', hvar, hd, hr, _⟩ := h
  cases i with
  | zero =>
   simp at hi
   subst hi
   obtain rfl := Option.some.inj (hg.symm.trans hg')
   obtain rfl := Option.some.inj (hty.symm.trans ht')
   unfold Lib.TabIs
   rw [hvar, ← Lib.cells_of_tab ht he hce hct hd]
  | succ i => exact yAW hg hty ht he hce hct l q i hr (by simpa using hi)

theorem y8i {P : Program} {W : World} {name : String} {g : Nat} {cs : Array Value} (hg : P.globalNamed name = some g) (h : W.var? P name = some cs) : g < W.heap.size ∧ ∃ t f, W.heap[g]? = some (.cells cs t f) := by
 unfold World.var? at h
 rw [hg] at h
 simp only [Option.bind_some] at h
 split at h
 ·rename_i cs' t f hc
  cases h
  exact ⟨yN hc, t, f, hc⟩
 ·cases h

theorem glob {W : World} (h : laidMetH Tryz.prog Rows.tideFoundRow.laid W) : GlobOK noA W := by
 have h' : laidMet Tryz.prog Rows.tideFoundRow.laid W := h
 obtain ⟨ps, hv, _⟩ := h'
 have h8 := yAW (P := Tryz.prog) (W := W) (name := "math/bits.deBruijn32tab") (k := .u8) (zs := [0, 1, 28, 2, 29, 14, 24, 3, 30, 22, 20, 15, 25, 17, 4, 8, 31, 27, 13, 23, 21, 19, 16, 7, 26, 12, 18, 6, 11, 5, 10, 9]) (g := 8) (t := 246) (e := 5) (n := 32) (by kernel_rfl) (by kernel_rfl) Tryz.underlying246 Tryz.underlying5 (by kernel_rfl) (by kernel_rfl) _ ps 0 hv rfl
 have h9 := yAW (P := Tryz.prog) (W := W) (name := "math/bits.deBruijn64tab") (k := .u8) (zs := [0, 1, 56, 2, 57, 49, 28, 3, 61, 58, 42, 50, 38, 29, 17, 4, 62, 47, 59, 36, 45, 43, 51, 22, 53, 39, 33, 30, 24, 18, 12, 5, 63, 55, 48, 27, 60, 41, 37, 16, 46, 35, 44, 21, 52, 32, 23, 11, 54, 26, 40, 15, 34, 20, 31, 10, 25, 14, 19, 9, 13, 8, 7, 6]) (g := 9) (t := 247) (e := 5) (n := 64) (by kernel_rfl) (by kernel_rfl) Tryz.underlying247 Tryz.underlying5 (by kernel_rfl) (by kernel_rfl) _ ps 1 hv rfl
 have h3 := yAW (P := Tryz.prog) (W := W) (name := "internal/strconv.uint64pow10") (k := .u64) (zs := [1, 10, 100, 1000, 10000, 100000, 1000000, 10000000, 100000000, 1000000000, 10000000000, 100000000000, 1000000000000, 10000000000000, 100000000000000, 1000000000000000, 10000000000000000, 100000000000000000, 1000000000000000000, 10000000000000000000]) (g := 3) (t := 221) (e := 209) (n := 20) (by kernel_rfl) (by kernel_rfl) Tryz.underlying221 Tryz.underlying209 (by kernel_rfl) (by kernel_rfl) _ ps 2 hv rfl
 have h0 := yEc (P := Tryz.prog) (W := W) (name := "tideway/tide.none") (D := Rows.laid_tideway_tide_none) (g := 0) (t := 36) (by kernel_rfl) (by kernel_rfl) (fun _ _ _ _ _ _ _ h => y2b h) _ ps 3 hv rfl
 have h1 := yEc (P := Tryz.prog) (W := W) (name := "tideway/tide.turns") (D := Rows.laid_tideway_tide_turns) (g := 1) (t := 191) (by kernel_rfl) (by kernel_rfl) (fun _ _ _ _ _ _ _ h => yEQ h) _ ps 4 hv rfl
 obtain ⟨l0, r0⟩ := y8i (P := Tryz.prog) (g := 0) (by kernel_rfl) h0
 obtain ⟨l1, r1⟩ := y8i (P := Tryz.prog) (g := 1) (by kernel_rfl) h1
 obtain ⟨l3, r3⟩ := y8i (P := Tryz.prog) (g := 3) (by kernel_rfl) h3
 obtain ⟨l8, r8⟩ := y8i (P := Tryz.prog) (g := 8) (by kernel_rfl) h8
 obtain ⟨l9, r9⟩ := y8i (P := Tryz.prog) (g := 9) (by kernel_rfl) h9
 refine ⟨fun p hp => ?_, fun b hb => (by cases hb), fun b hb => (by cases hb)⟩
 rcases List.mem_cons.1 (show p ∈ (_ :: _ :: _ :: _ :: _ :: [] : List (Nat × Ty × List Value)) from hp) with rfl | hp
 ·exact ⟨fun h => h, l0, r0⟩
 rcases List.mem_cons.1 hp with rfl | hp
 ·exact ⟨fun h => h, l1, r1⟩
 rcases List.mem_cons.1 hp with rfl | hp
 ·exact ⟨fun h => h, l3, r3⟩
 rcases List.mem_cons.1 hp with rfl | hp
 ·exact ⟨fun h => h, l8, r8⟩
 rcases List.mem_cons.1 hp with rfl | hp
 ·exact ⟨fun h => h, l9, r9⟩
 ·cases hp

def put (cs : Array Value) : Obj → Obj
 | .cells _ t frozen => .cells cs t frozen
 | o => o

/-- A WORLD FOR THE WITNESS: the settled one, the tables as their initialisers lay them. -/
noncomputable def y8E (os : Os) : World :=
 let w0 := World.holding Tryz.prog os ⟨#[], #[], []⟩
 { w0 with heap := ((((w0.heap.modify 0 (put (Go.Tw.theGT.gl.getD 0 default).2.2.toArray)).modify 1 (put (Go.Tw.theGT.gl.getD 1 default).2.2.toArray)).modify 3 (put (Go.Tw.theGT.gl.getD 2 default).2.2.toArray)).modify 8 (put (Go.Tw.theGT.gl.getD 3 default).2.2.toArray)).modify 9 (put (Go.Tw.theGT.gl.getD 4 default).2.2.toArray) }
end Go.Proofs.YtlaebedgpkiodaaGreatDoor.rows
