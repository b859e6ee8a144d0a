/- SH: contracts of the library's functions at this program, in the words of the shelf's tool (lay-plain.mjs; shelf.py picks them).
BS: contracts of the library's functions: strconv.Itoa, strings.Join, and strings.Builder's look whether it was copied.
SH2: contracts of the library's functions on strings at this program (strings.IndexByte, Split, TrimPrefix, strconv.Atoi), in the words of the shelf's tool (lay-plain.mjs; shelf.py picks them).
BS2: contracts of the library's functions on strings: strings.Cut, Split, TrimPrefix, strconv.Atoi. Cut and Split ask for the cell of internal/bytealg.MaxLen (some int), Atoi for strconv.ErrSyntax and ErrRange (some interface value): GT.ints, GT.ifs. -/
import Derived.Shelf.Strings.Builder1
import Derived.Shelf.Strings.OnBuilder
import Derived.Shelf.LaysM
import Derived.Shelf.Strconv.Itoa3
import Derived.Test.YtkfigfhjbejikaaGreatDoorProg
import Derived.Test.YtkfigfhjbejikaaGreatDoorB0
import Derived.Lib.AppendIntMem
import Derived.Shelf.Strings.Split
import Derived.Shelf.Strings.Prefix
import Derived.Shelf.Strings.Shaped
import Derived.Shelf.Small.Strs
import Derived.Shelf.Strconv.AtoiAll
import Derived.Shelf.Strconv.ErrVarAll
import Derived.Shelf.LaysC
import Derived.Lib.AtoiErrMem
import Derived.Lib.SplitLaws

section
set_option linter.all false
namespace Go.Proofs
open Go.Shelf
def Tryz.lays240_ren : Go.Shelf.Ren := ⟨fun | 240 => 169 | 276 => 188 | n => n, fun | 70 => 198 | 0 => 0 | 4 => 4 | 9 => 9 | 20 => 20 | 72 => 201 | 37 => 199 | 164 => 271 | n => n, fun | n => n⟩
theorem Tryz.lays240 : Go.Proofs.Lays.n240 Tryz.prog Tryz.lays240_ren := {
  mixed := by kernel_rfl
  f240 := Tryz.func169.trans (congrArg some (by kernel_rfl))
  f276 := Tryz.func188.trans (congrArg some (by kernel_rfl))
  t0 := Tryz.underlying0
  a0 := Tryz.isAgg0
  z0 := Tryz.sizeOf0
  v0 := Tryz.zeroValue0
  t4 := Tryz.underlying4
  a4 := Tryz.isAgg4
  z4 := Tryz.sizeOf4
  v4 := Tryz.zeroValue4
  t9 := Tryz.underlying9
  a9 := Tryz.isAgg9
  z9 := Tryz.sizeOf9
  v9 := Tryz.zeroValue9
  t20 := Tryz.underlying20
  a20 := Tryz.isAgg20
  z20 := Tryz.sizeOf20
  v20 := Tryz.zeroValue20
  t70 := Tryz.underlying198
  a70 := Tryz.isAgg198
  z70 := Tryz.sizeOf198
  v70 := Tryz.zeroValue198
  t72 := Tryz.underlying201
  a72 := Tryz.isAgg201
  z72 := Tryz.sizeOf201
  v72 := Tryz.zeroValue201
  t164 := Tryz.underlying271
  a164 := Tryz.isAgg271
  z164 := Tryz.sizeOf271
  v164 := Tryz.zeroValue271 }
theorem Tryz.x72_240 : Builder.X72 Tryz.prog Tryz.lays240_ren := {
  sizeBuilder := by kernel_rfl
  liesBuilder := by kernel_rfl }
def Tryz.lays156_ren : Go.Shelf.Ren := ⟨fun | 156 => 127 | 165 => 170 | 166 => 126 | 169 => 130 | 240 => 169 | 241 => 189 | 276 => 188 | 277 => 200 | n => n, fun | 31 => 67 | 9 => 9 | 3 => 3 | 4 => 4 | 0 => 0 | 20 => 20 | 72 => 201 | 76 => 204 | 70 => 198 | 37 => 199 | 75 => 203 | 127 => 258 | 164 => 271 | 5 => 5 | 80 => 210 | n => n, fun | n => n⟩
theorem Tryz.lays156 : Go.Proofs.Lays.n156 Tryz.prog Tryz.lays156_ren := {
  mixed := by kernel_rfl
  f156 := Tryz.func127.trans (congrArg some (by kernel_rfl))
  f165 := Tryz.func170.trans (congrArg some (by kernel_rfl))
  f166 := Tryz.func126.trans (congrArg some (by kernel_rfl))
  f169 := Tryz.func130.trans (congrArg some (by kernel_rfl))
  f240 := Tryz.func169.trans (congrArg some (by kernel_rfl))
  f241 := Tryz.func189.trans (congrArg some (by kernel_rfl))
  f276 := Tryz.func188.trans (congrArg some (by kernel_rfl))
  f277 := Tryz.func200.trans (congrArg some (by kernel_rfl))
  t0 := Tryz.underlying0
  a0 := Tryz.isAgg0
  z0 := Tryz.sizeOf0
  v0 := Tryz.zeroValue0
  t3 := Tryz.underlying3
  a3 := Tryz.isAgg3
  z3 := Tryz.sizeOf3
  v3 := Tryz.zeroValue3
  t4 := Tryz.underlying4
  a4 := Tryz.isAgg4
  z4 := Tryz.sizeOf4
  v4 := Tryz.zeroValue4
  t9 := Tryz.underlying9
  a9 := Tryz.isAgg9
  z9 := Tryz.sizeOf9
  v9 := Tryz.zeroValue9
  t20 := Tryz.underlying20
  a20 := Tryz.isAgg20
  z20 := Tryz.sizeOf20
  v20 := Tryz.zeroValue20
  t31 := Tryz.underlying67
  a31 := Tryz.isAgg67
  z31 := Tryz.sizeOf67
  v31 := Tryz.zeroValue67
  t37 := Tryz.underlying199
  a37 := Tryz.isAgg199
  z37 := Tryz.sizeOf199
  v37 := Tryz.zeroValue199
  t70 := Tryz.underlying198
  a70 := Tryz.isAgg198
  z70 := Tryz.sizeOf198
  v70 := Tryz.zeroValue198
  t72 := Tryz.underlying201
  a72 := Tryz.isAgg201
  z72 := Tryz.sizeOf201
  v72 := Tryz.zeroValue201
  t75 := Tryz.underlying203
  a75 := Tryz.isAgg203
  z75 := Tryz.sizeOf203
  v75 := Tryz.zeroValue203
  t76 := Tryz.underlying204
  a76 := Tryz.isAgg204
  z76 := Tryz.sizeOf204
  v76 := Tryz.zeroValue204
  t127 := Tryz.underlying258
  a127 := Tryz.isAgg258
  z127 := Tryz.sizeOf258
  v127 := Tryz.zeroValue258
  t164 := Tryz.underlying271
  a164 := Tryz.isAgg271
  z164 := Tryz.sizeOf271
  v164 := Tryz.zeroValue271 }
theorem Tryz.Builder_Extra_156 : Builder.Extra Tryz.prog Tryz.lays156_ren := {
  sizeBuilder := by kernel_rfl
  liesBuilder := by kernel_rfl
  t5 := Tryz.underlying5
  a5 := Tryz.isAgg5
  z5 := Tryz.sizeOf5
  v5 := Tryz.zeroValue5
  infoByte := by kernel_rfl
  cellsByte := by kernel_rfl
  sizeByte := by kernel_rfl
  neB5 := by decide }
open Go.RowKit in
/-- No element: the empty string; the world is as it was. (Whatever the slice's address and capacity: a nil slice too.) (LAID: no walk: one application.) -/
theorem Tryz.strings_Join_none (a : Option Addr) (c : Nat) (sep : ByteArray) (w : World) :
    Calls Tryz.prog 127 #[.slice a 0 c, .string sep] w fun e w' => e = .returned (.string ⟨#[]⟩) ∧ w' = w := Any.strings_Join_none Tryz.lays156 Tryz.Builder_Extra_156 a c sep w
open Go.RowKit in
/-- strings.Join: "Join concatenates the elements of its first argument to create a single string. The separator string sep is placed between elements in the resulting string.": HOWEVER MANY ELEMENTS. Below the heap's end the world is as it was. (LAID: no walk: one application.) -/
theorem Tryz.strings_Join (bk o c : Nat) (xs : List ByteArray) (sep : ByteArray) (w : World) (hcells : ∀ (j : Nat) x, xs[j]? = some x → w.cell? ⟨bk, o + j, none⟩ = some (.string x)) (hbk : bk < w.heap.size) (hN : xs.length ≤ 140737488355328) (hcap : xs.length ≤ c) (hlen : (Lib.join (xs.map (·.data.toList)) sep.data.toList).length ≤ 140737488355328) :
    Calls Tryz.prog 127 #[.slice (some ⟨bk, o, none⟩) xs.length c, .string sep] w fun e w' => e = .returned (.string ⟨(Lib.join (xs.map (·.data.toList)) sep.data.toList).toArray⟩) ∧ Below w.heap.size w w' := Any.strings_Join Tryz.lays156 Tryz.Builder_Extra_156 bk o c xs sep w hcells hbk hN hcap hlen
def Tryz.laysM171_ren : Go.Shelf.Ren := ⟨fun | 171 => 129 | 243 => 171 | 246 => 190 | 283 => 201 | 284 => 202 | 285 => 203 | 286 => 204 | 129 => 214 | 317 => 213 | 318 => 215 | 319 => 216 | 320 => 217 | 337 => 228 | 338 => 229 | n => n, fun | 3 => 3 | 9 => 9 | 2 => 2 | 4 => 4 | 171 => 279 | 0 => 0 | 53 => 280 | 37 => 199 | 5 => 5 | 173 => 283 | 212 => 290 | 51 => 291 | 20 => 20 | 213 => 292 | 46 => 294 | 232 => 315 | 233 => 316 | n => n, fun | 17 => 2 | 18 => 7 | 19 => 8 | n => n⟩
theorem Tryz.laysM171 : Go.Proofs.LaysM.n171 Tryz.prog Tryz.laysM171_ren := {
  mixed := by kernel_rfl
  f129 := Tryz.func214.trans (congrArg some (by kernel_rfl))
  f171 := Tryz.func129.trans (congrArg some (by kernel_rfl))
  f243 := Tryz.func171.trans (congrArg some (by kernel_rfl))
  f246 := Tryz.func190.trans (congrArg some (by kernel_rfl))
  f283 := Tryz.func201.trans (congrArg some (by kernel_rfl))
  f284 := Tryz.func202.trans (congrArg some (by kernel_rfl))
  f285 := Tryz.func203.trans (congrArg some (by kernel_rfl))
  f286 := Tryz.func204.trans (congrArg some (by kernel_rfl))
  f317 := Tryz.func213.trans (congrArg some (by kernel_rfl))
  f318 := Tryz.func215.trans (congrArg some (by kernel_rfl))
  f319 := Tryz.func216.trans (congrArg some (by kernel_rfl))
  f320 := Tryz.func217.trans (congrArg some (by kernel_rfl))
  f337 := Tryz.func228.trans (congrArg some (by kernel_rfl))
  f338 := Tryz.func229.trans (congrArg some (by kernel_rfl))
  t0 := Tryz.underlying0
  a0 := Tryz.isAgg0
  z0 := Tryz.sizeOf0
  v0 := Tryz.zeroValue0
  t2 := Tryz.underlying2
  a2 := Tryz.isAgg2
  z2 := Tryz.sizeOf2
  v2 := Tryz.zeroValue2
  t3 := Tryz.underlying3
  a3 := Tryz.isAgg3
  z3 := Tryz.sizeOf3
  v3 := Tryz.zeroValue3
  t4 := Tryz.underlying4
  a4 := Tryz.isAgg4
  z4 := Tryz.sizeOf4
  v4 := Tryz.zeroValue4
  t5 := Tryz.underlying5
  a5 := Tryz.isAgg5
  z5 := Tryz.sizeOf5
  v5 := Tryz.zeroValue5
  t9 := Tryz.underlying9
  a9 := Tryz.isAgg9
  z9 := Tryz.sizeOf9
  v9 := Tryz.zeroValue9
  t20 := Tryz.underlying20
  a20 := Tryz.isAgg20
  z20 := Tryz.sizeOf20
  v20 := Tryz.zeroValue20
  t37 := Tryz.underlying199
  a37 := Tryz.isAgg199
  z37 := Tryz.sizeOf199
  v37 := Tryz.zeroValue199
  t46 := Tryz.underlying294
  a46 := Tryz.isAgg294
  z46 := Tryz.sizeOf294
  v46 := Tryz.zeroValue294
  t51 := Tryz.underlying291
  a51 := Tryz.isAgg291
  z51 := Tryz.sizeOf291
  v51 := Tryz.zeroValue291
  t53 := Tryz.underlying280
  a53 := Tryz.isAgg280
  z53 := Tryz.sizeOf280
  v53 := Tryz.zeroValue280
  t171 := Tryz.underlying279
  a171 := Tryz.isAgg279
  z171 := Tryz.sizeOf279
  v171 := Tryz.zeroValue279
  t173 := Tryz.underlying283
  a173 := Tryz.isAgg283
  z173 := Tryz.sizeOf283
  v173 := Tryz.zeroValue283
  t212 := Tryz.underlying290
  a212 := Tryz.isAgg290
  z212 := Tryz.sizeOf290
  v212 := Tryz.zeroValue290
  t213 := Tryz.underlying292
  a213 := Tryz.isAgg292
  z213 := Tryz.sizeOf292
  t232 := Tryz.underlying315
  a232 := Tryz.isAgg315
  z232 := Tryz.sizeOf315
  v232 := Tryz.zeroValue315
  t233 := Tryz.underlying316
  a233 := Tryz.isAgg316
  z233 := Tryz.sizeOf316
  v233 := Tryz.zeroValue316
  g17 := by kernel_rfl
  g18 := by kernel_rfl
  g19 := by kernel_rfl
  i0 := by kernel_rfl
  i2 := by kernel_rfl
  i3 := by kernel_rfl
  i4 := by kernel_rfl
  i5 := by kernel_rfl
  i9 := by kernel_rfl
  i20 := by kernel_rfl
  i37 := by kernel_rfl
  i46 := by kernel_rfl
  i51 := by kernel_rfl
  i53 := by kernel_rfl
  i171 := by kernel_rfl
  i173 := by kernel_rfl
  i212 := by kernel_rfl
  i232 := by kernel_rfl
  i233 := by kernel_rfl
  m17 := by kernel_rfl
  m18 := by kernel_rfl
  m19 := by kernel_rfl }
open Go.RowKit Go.Sort Go.Lib in
/-- strconv.Itoa: "Itoa is equivalent to FormatInt(int64(i), 10).": i's DECIMAL NUMERAL ('Lib.itoa': a '-' where i is negative, then the digits), FOR EVERY int. The world behind the call: the world before it, new blocks behind the heap (the library's 'var a [24]byte'), draws. (LAID: no walk: one application.) -/
theorem Tryz.strconv_Itoa (n : Int) (h0 : -9223372036854775808 ≤ n) (h1 : n ≤ 9223372036854775807) (w : World) (htab : Lib.TabIs Tryz.prog w "internal/strconv.uint64pow10" .u64 Lib.pow10Tab) :
    Calls Tryz.prog 129 #[.int .i64 n] w fun e w' => e = .returned (.string ⟨(Lib.itoa n).toArray⟩) ∧ ∃ k os, w' = grow (w.drewN k) os := Any.strconv_Itoa Tryz.laysM171 n h0 h1 w htab
end Go.Proofs
end

section
set_option linter.all false
set_option maxRecDepth 1000000
namespace Go.Tw
open Go.Vx Go.Vx.B Go.Proofs Go.RowKit

theorem y2L (f : FuncId) (fn : Func) (h : Tryz.prog.funcs[f]? = some fn) (hn : (fn.name == "runtime.NumGoroutine") = false) (hb : fn.body.isNone = false) : Vx.y3U Tryz.prog f := ⟨fn, h, hn, hb⟩

theorem yMx : yHW Tryz.prog 169 201 := by
  refine ⟨y2L 169 Tryz.f169 (by kernel_rfl) (by kernel_rfl) (by kernel_rfl), fun w b p v hg hp => ?_⟩
  rcases hp with rfl | rfl
  · refine (Any.Builder_copyCheck_fresh Tryz.lays240 Tryz.x72_240 b w (by simp [World.cell?, hg]) (by simp [World.shape?, hg]; rfl) (by simp [World.frozen?, hg])).mono ?_
    rintro e w' ⟨rfl, rfl⟩
    refine ⟨rfl, ?_, fun n hn => ?_, ?_, rfl, rfl, rfl⟩
    · simp [World.setCell, Array.getElem?_modify, hg]
    · simp only [World.setCell, Array.getElem?_modify]
      rw [if_neg (fun e => hn e.symm)]
    · simp [World.setCell]
  · refine (Any.Builder_copyCheck_used Tryz.lays240 Tryz.x72_240 b w (by simp [World.cell?, hg])).mono ?_
    rintro e w' ⟨rfl, rfl⟩
    exact ⟨rfl, hg, fun _ _ => rfl, rfl, rfl, rfl, rfl⟩

noncomputable def y9n (n : Int) : Option (List UInt8 × Unit) := bif decide (-9223372036854775808 ≤ n) && decide (n ≤ 9223372036854775807) then some (Lib.itoa n, ()) else none
noncomputable def z0K_e : Entry := { f := 129, args := .pair t3 .unit, rS := .pair .str .unit, m := fun x => y9n x.1 }

theorem y8u (w : World) {A : Nat → Prop} (hG : GlobOK A w) : Lib.TabIs Tryz.prog w "internal/strconv.uint64pow10" .u64 Lib.pow10Tab := by
  obtain ⟨_, _, t, f, h⟩ := hG.tab (GT.gl.getD 2 default) (by show _ ∈ GT.gl; exact List.mem_of_getElem? (i := 2) rfl)
  unfold Lib.TabIs World.var?
  rw [show Tryz.prog.globalNamed "internal/strconv.uint64pow10" = some 2 by kernel_rfl]
  simp only [Option.bind_some]
  rw [show w.heap[2]? = _ from h]
  rfl

theorem yKq : FnOK Tryz.prog z0K_e := by
  refine ⟨y2L 129 Tryz.f129 (by kernel_rfl) (by kernel_rfl) (by kernel_rfl), fun A w x l y hG hA hx hm => ?_, fun q h => (by cases h), fun q h => (by cases h)⟩
  obtain ⟨n, u⟩ := x
  simp only [z0K_e, y4] at hx
  obtain ⟨l1, l2, rfl, rfl, rfl⟩ := hx
  simp only [z0K_e, y9n] at hm
  cases hb : (decide (-9223372036854775808 ≤ n) && decide (n ≤ 9223372036854775807)) with
  | false => rw [hb] at hm; cases hm
  | true =>
    rw [hb] at hm
    cases hm
    simp only [Bool.and_eq_true, decide_eq_true_eq] at hb
    refine (Tryz.strconv_Itoa n hb.1 hb.2 w (y8u w hG)).mono ?_
    rintro e w' ⟨rfl, k, os, rfl⟩
    exact ⟨[.string ⟨(Lib.itoa n).toArray⟩], rfl, ⟨_, [], rfl, rfl, rfl⟩, Lib.below_grow w.heap.size w (Nat.le_refl _) k os⟩

noncomputable def y7t (xs : List (List UInt8)) (sep : List UInt8) : Option (List UInt8 × Unit) :=
  bif decide (xs.length ≤ 140737488355328) && decide ((Lib.join xs sep).length ≤ 140737488355328) then some (Lib.join xs sep, ()) else none
noncomputable def z0L_e : Entry := { f := 127, args := .pair (.slice .str) (.pair .str .unit), rS := .pair .str .unit, m := fun x => y7t x.1 x.2.1 }

theorem yNQ : FnOK Tryz.prog z0L_e := by
  refine ⟨y2L 127 Tryz.f127 (by kernel_rfl) (by kernel_rfl) (by kernel_rfl), fun A w x l y hG hA hx hm => ?_, fun q h => (by cases h), fun q h => (by cases h)⟩
  obtain ⟨xs, sep, u⟩ := x
  obtain ⟨l1, l2, rfl, ⟨p, c, rfl, hc1, hc2, hel⟩, l3, l4, rfl, rfl, rfl⟩ := hx
  change y7t xs sep = some y at hm
  unfold y7t at hm
  cases hb : (decide (List.length xs ≤ 140737488355328) && decide ((Lib.join xs sep).length ≤ 140737488355328)) with
  | false => rw [hb] at hm; cases hm
  | true =>
    rw [hb] at hm
    cases hm
    simp only [Bool.and_eq_true, decide_eq_true_eq] at hb
    show Calls Tryz.prog 127 #[.slice p (List.length xs) c, .string ⟨sep.toArray⟩] w _
    cases xs with
    | nil =>
      refine (Tryz.strings_Join_none p c ⟨sep.toArray⟩ w).mono ?_
      rintro e w' ⟨rfl, rfl⟩
      exact ⟨[.string ⟨#[]⟩], rfl, ⟨_, [], rfl, rfl, rfl⟩, Below.refl _ _⟩
    | cons x0 xs =>
      obtain ⟨ad, l0, rfl, hsp, _, hlt, _⟩ := hel 0 x0 rfl
      obtain ⟨bk, o, sp⟩ := ad
      simp only at hsp hlt
      subst hsp
      have e1 : (((x0 :: xs).map fun s => (⟨s.toArray⟩ : ByteArray)).map (·.data.toList)) = x0 :: xs := by simp [List.map_map, Function.comp_def]
      have e2 : ((x0 :: xs).map fun s => (⟨s.toArray⟩ : ByteArray)).length = List.length (x0 :: xs) := by simp
      have h := Tryz.strings_Join bk o c ((x0 :: xs).map fun s => (⟨s.toArray⟩ : ByteArray)) ⟨sep.toArray⟩ w (fun j x hj => by
        rw [List.getElem?_map, Option.map_eq_some_iff] at hj
        obtain ⟨s, hs, rfl⟩ := hj
        obtain ⟨a1, l', e, _, _, _, h1, h2⟩ := hel j s hs
        cases e
        simp only [y4] at h2
        subst h2
        have := h1 0 _ rfl
        simpa [Ty.size] using this) hlt (by rw [e2]; exact hb.1) (by rw [e2]; exact hc1) (by rw [e1]; exact hb.2)
      rw [e1, e2] at h
      refine h.mono ?_
      rintro e w' ⟨rfl, hbl⟩
      exact ⟨[.string ⟨(Lib.join (x0 :: xs) sep).toArray⟩], rfl, ⟨_, [], rfl, rfl, rfl⟩, hbl⟩
end Go.Tw
end

section
set_option linter.all false
namespace Go.Proofs
open Go.Shelf
def Tryz.lays137_ren : Go.Shelf.Ren := ⟨fun | 137 => 173 | 217 => 191 | 266 => 205 | n => n, fun | 9 => 9 | 5 => 5 | 3 => 3 | n => n, fun | n => n⟩
theorem Tryz.lays137 : Go.Proofs.Lays.n137 Tryz.prog Tryz.lays137_ren := {
  mixed := by kernel_rfl
  f137 := Tryz.func173.trans (congrArg some (by kernel_rfl))
  f217 := Tryz.func191.trans (congrArg some (by kernel_rfl))
  f266 := Tryz.func205.trans (congrArg some (by kernel_rfl))
  t3 := Tryz.underlying3
  a3 := Tryz.isAgg3
  z3 := Tryz.sizeOf3
  v3 := Tryz.zeroValue3
  t5 := Tryz.underlying5
  a5 := Tryz.isAgg5
  z5 := Tryz.sizeOf5
  v5 := Tryz.zeroValue5
  t9 := Tryz.underlying9
  a9 := Tryz.isAgg9
  z9 := Tryz.sizeOf9
  v9 := Tryz.zeroValue9 }
open Go.RowKit in
/-- strings.IndexByte: "IndexByte returns the index of the first instance of c in s, or -1 if c is not present in s.": IT RETURNS 'Lib.indexByte s c'; the world is as it was. (LAID: no walk: one application.) -/
theorem Tryz.strings_IndexByte (s : ByteArray) (c : Int) (w : World) :
    Calls Tryz.prog 173 #[.string s, .int .u8 c] w fun e w' => e = .returned (.int .i64 (Lib.indexByte s.data.toList c.toNat.toUInt8)) ∧ w' = w := Any.strings_IndexByte Tryz.lays137 s c w
def Tryz.laysC172_ren : Go.Shelf.Ren := ⟨fun | 172 => 196 | 244 => 210 | 245 => 211 | 247 => 222 | 279 => 223 | 280 => 224 | 281 => 225 | 282 => 226 | 287 => 231 | 316 => 232 | 171 => 129 | 205 => 233 | 321 => 234 | 322 => 235 | 243 => 171 | 246 => 190 | 283 => 201 | 284 => 202 | 285 => 203 | 286 => 204 | 129 => 214 | 317 => 213 | 318 => 215 | 319 => 216 | 320 => 217 | 337 => 228 | 338 => 229 | n => n, fun | 9 => 9 | 3 => 3 | 75 => 203 | 76 => 204 | 4 => 4 | 5 => 5 | 167 => 296 | 37 => 199 | 0 => 0 | 85 => 297 | 2 => 2 | 168 => 299 | 53 => 280 | 175 => 309 | 46 => 294 | 210 => 313 | 127 => 258 | 145 => 320 | 143 => 318 | 21 => 21 | 171 => 279 | 173 => 283 | 212 => 290 | 51 => 291 | 20 => 20 | 213 => 292 | 232 => 315 | 233 => 316 | 80 => 210 | n => n, fun | 15 => 5 | 16 => 6 | 17 => 2 | 18 => 7 | 19 => 8 | n => n⟩
theorem Tryz.laysC172 : Go.Proofs.LaysC.n172 Tryz.prog Tryz.laysC172_ren := {
  mixed := by kernel_rfl
  f129 := Tryz.func214.trans (congrArg some (by kernel_rfl))
  f171 := Tryz.func129.trans (congrArg some (by kernel_rfl))
  f172 := Tryz.func196.trans (congrArg some (by kernel_rfl))
  f205 := Tryz.func233.trans (congrArg some (by kernel_rfl))
  f243 := Tryz.func171.trans (congrArg some (by kernel_rfl))
  f244 := Tryz.func210.trans (congrArg some (by kernel_rfl))
  f245 := Tryz.func211.trans (congrArg some (by kernel_rfl))
  f246 := Tryz.func190.trans (congrArg some (by kernel_rfl))
  f247 := Tryz.func222.trans (congrArg some (by kernel_rfl))
  f279 := Tryz.func223.trans (congrArg some (by kernel_rfl))
  f280 := Tryz.func224.trans (congrArg some (by kernel_rfl))
  f281 := Tryz.func225.trans (congrArg some (by kernel_rfl))
  f282 := Tryz.func226.trans (congrArg some (by kernel_rfl))
  f283 := Tryz.func201.trans (congrArg some (by kernel_rfl))
  f284 := Tryz.func202.trans (congrArg some (by kernel_rfl))
  f285 := Tryz.func203.trans (congrArg some (by kernel_rfl))
  f286 := Tryz.func204.trans (congrArg some (by kernel_rfl))
  f287 := Tryz.func231.trans (congrArg some (by kernel_rfl))
  f316 := Tryz.func232.trans (congrArg some (by kernel_rfl))
  f317 := Tryz.func213.trans (congrArg some (by kernel_rfl))
  f318 := Tryz.func215.trans (congrArg some (by kernel_rfl))
  f319 := Tryz.func216.trans (congrArg some (by kernel_rfl))
  f320 := Tryz.func217.trans (congrArg some (by kernel_rfl))
  f321 := Tryz.func234.trans (congrArg some (by kernel_rfl))
  f322 := Tryz.func235.trans (congrArg some (by kernel_rfl))
  f337 := Tryz.func228.trans (congrArg some (by kernel_rfl))
  f338 := Tryz.func229.trans (congrArg some (by kernel_rfl))
  t0 := Tryz.underlying0
  a0 := Tryz.isAgg0
  z0 := Tryz.sizeOf0
  v0 := Tryz.zeroValue0
  t2 := Tryz.underlying2
  a2 := Tryz.isAgg2
  z2 := Tryz.sizeOf2
  v2 := Tryz.zeroValue2
  t3 := Tryz.underlying3
  a3 := Tryz.isAgg3
  z3 := Tryz.sizeOf3
  v3 := Tryz.zeroValue3
  t4 := Tryz.underlying4
  a4 := Tryz.isAgg4
  z4 := Tryz.sizeOf4
  v4 := Tryz.zeroValue4
  t5 := Tryz.underlying5
  a5 := Tryz.isAgg5
  z5 := Tryz.sizeOf5
  v5 := Tryz.zeroValue5
  t9 := Tryz.underlying9
  a9 := Tryz.isAgg9
  z9 := Tryz.sizeOf9
  v9 := Tryz.zeroValue9
  t20 := Tryz.underlying20
  a20 := Tryz.isAgg20
  z20 := Tryz.sizeOf20
  v20 := Tryz.zeroValue20
  t21 := Tryz.underlying21
  a21 := Tryz.isAgg21
  z21 := Tryz.sizeOf21
  v21 := Tryz.zeroValue21
  t37 := Tryz.underlying199
  a37 := Tryz.isAgg199
  z37 := Tryz.sizeOf199
  v37 := Tryz.zeroValue199
  t46 := Tryz.underlying294
  a46 := Tryz.isAgg294
  z46 := Tryz.sizeOf294
  v46 := Tryz.zeroValue294
  t51 := Tryz.underlying291
  a51 := Tryz.isAgg291
  z51 := Tryz.sizeOf291
  v51 := Tryz.zeroValue291
  t53 := Tryz.underlying280
  a53 := Tryz.isAgg280
  z53 := Tryz.sizeOf280
  v53 := Tryz.zeroValue280
  t75 := Tryz.underlying203
  a75 := Tryz.isAgg203
  z75 := Tryz.sizeOf203
  v75 := Tryz.zeroValue203
  t76 := Tryz.underlying204
  a76 := Tryz.isAgg204
  z76 := Tryz.sizeOf204
  v76 := Tryz.zeroValue204
  t85 := Tryz.underlying297
  a85 := Tryz.isAgg297
  z85 := Tryz.sizeOf297
  v85 := Tryz.zeroValue297
  t127 := Tryz.underlying258
  a127 := Tryz.isAgg258
  z127 := Tryz.sizeOf258
  v127 := Tryz.zeroValue258
  t143 := Tryz.underlying318
  a143 := Tryz.isAgg318
  z143 := Tryz.sizeOf318
  v143 := Tryz.zeroValue318
  t145 := Tryz.underlying320
  a145 := Tryz.isAgg320
  z145 := Tryz.sizeOf320
  v145 := Tryz.zeroValue320
  t167 := Tryz.underlying296
  a167 := Tryz.isAgg296
  z167 := Tryz.sizeOf296
  v167 := Tryz.zeroValue296
  t168 := Tryz.underlying299
  a168 := Tryz.isAgg299
  z168 := Tryz.sizeOf299
  v168 := Tryz.zeroValue299
  t171 := Tryz.underlying279
  a171 := Tryz.isAgg279
  z171 := Tryz.sizeOf279
  v171 := Tryz.zeroValue279
  t173 := Tryz.underlying283
  a173 := Tryz.isAgg283
  z173 := Tryz.sizeOf283
  v173 := Tryz.zeroValue283
  t175 := Tryz.underlying309
  a175 := Tryz.isAgg309
  z175 := Tryz.sizeOf309
  v175 := Tryz.zeroValue309
  t210 := Tryz.underlying313
  a210 := Tryz.isAgg313
  z210 := Tryz.sizeOf313
  v210 := Tryz.zeroValue313
  t212 := Tryz.underlying290
  a212 := Tryz.isAgg290
  z212 := Tryz.sizeOf290
  v212 := Tryz.zeroValue290
  t213 := Tryz.underlying292
  a213 := Tryz.isAgg292
  z213 := Tryz.sizeOf292
  t232 := Tryz.underlying315
  a232 := Tryz.isAgg315
  z232 := Tryz.sizeOf315
  v232 := Tryz.zeroValue315
  t233 := Tryz.underlying316
  a233 := Tryz.isAgg316
  z233 := Tryz.sizeOf316
  v233 := Tryz.zeroValue316
  g15 := by kernel_rfl
  g16 := by kernel_rfl
  g17 := by kernel_rfl
  g18 := by kernel_rfl
  g19 := by kernel_rfl
  t80 := Tryz.underlying210
  a80 := Tryz.isAgg210
  z80 := Tryz.sizeOf210
  v80 := Tryz.zeroValue210
  i0 := by kernel_rfl
  i2 := by kernel_rfl
  i3 := by kernel_rfl
  i4 := by kernel_rfl
  i5 := by kernel_rfl
  i9 := by kernel_rfl
  i20 := by kernel_rfl
  i21 := by kernel_rfl
  i37 := by kernel_rfl
  i46 := by kernel_rfl
  i51 := by kernel_rfl
  i53 := by kernel_rfl
  i75 := by kernel_rfl
  i76 := by kernel_rfl
  i80 := by kernel_rfl
  i85 := by kernel_rfl
  i127 := by kernel_rfl
  i143 := by kernel_rfl
  i145 := by kernel_rfl
  i167 := by kernel_rfl
  i168 := by kernel_rfl
  i171 := by kernel_rfl
  i173 := by kernel_rfl
  i175 := by kernel_rfl
  i210 := by kernel_rfl
  i212 := by kernel_rfl
  i232 := by kernel_rfl
  i233 := by kernel_rfl
  m15 := by kernel_rfl
  m16 := by kernel_rfl
  m17 := by kernel_rfl
  m18 := by kernel_rfl
  m19 := by kernel_rfl
  c0 := by kernel_rfl
  c2 := by kernel_rfl
  c3 := by kernel_rfl
  c4 := by kernel_rfl
  c5 := by kernel_rfl
  c9 := by kernel_rfl
  c20 := by kernel_rfl
  c21 := by kernel_rfl
  c37 := by kernel_rfl
  c46 := by kernel_rfl
  c51 := by kernel_rfl
  c53 := by kernel_rfl
  c75 := by kernel_rfl
  c76 := by kernel_rfl
  c80 := by kernel_rfl
  c85 := by kernel_rfl
  c127 := by kernel_rfl
  c143 := by kernel_rfl
  c145 := by kernel_rfl
  c167 := by kernel_rfl
  c168 := by kernel_rfl
  c171 := by kernel_rfl
  c173 := by kernel_rfl
  c175 := by kernel_rfl
  c210 := by kernel_rfl
  c212 := by kernel_rfl
  c213 := by kernel_rfl
  c232 := by kernel_rfl
  c233 := by kernel_rfl }
open Go.RowKit in
/-- strconv.Atoi, AT EVERY STRING THAT SPELLS AN int ('Lib.atoiAll .. = .ok v'; of whatever length: leading zeros count): v, AND NO ERROR. The world: as it was, or with the one new row that '[]byte(..)' lays. (LAID: no walk: one application.) -/
theorem Tryz.strconv_Atoi_ok (s : ByteArray) (hmax : s.size ≤ 9223372036854775806) (v : Int) (h : Lib.atoiAll s.data.toList = .ok v) (w : World) :
    Calls Tryz.prog 196 #[.string s] w fun e w' => e = .returned (.tuple #[.int .i64 v, .nilIface]) ∧ (w' = w ∨ ∃ t, w' = Lib.bytesWorld w 5 t) := Any.strconv_Atoi_ok Tryz.laysC172 s hmax v h w
open Go.RowKit in
/-- strconv.Atoi, AT EVERY STRING THAT IS NO DECIMAL NUMERAL ('.syntax'): 0, AND AN ERROR THAT IS NOT nil: a *NumError in a new block N: {Func: "Atoi", Num: s's bytes, Err: what the variable ErrSyntax holds}. Of what was there nothing has turned. (LAID: no walk: one application.) -/
theorem Tryz.strconv_Atoi_syntax (s : ByteArray) (hlim : s.size ≤ 281474976710656) (h : Lib.atoiAll s.data.toList = .«syntax») (ev : Value) (w : World) (hv : w.cell? ⟨5, 0, none⟩ = some ev) (hev : ev = .nilIface ∨ ∃ te pe, ev = .iface te pe) :
    Calls Tryz.prog 196 #[.string s] w fun e w' => ∃ N, e = .returned (.tuple #[.int .i64 (0), .iface 299 (.pointer (some ⟨N, 0, none⟩))]) ∧ w.heap.size ≤ N ∧ w'.heap[N]? = some (.cells #[.string ⟨#[65, 116, 111, 105]⟩, .string s, ev] 313 (0, 0)) ∧ Below w.heap.size w w' := Any.strconv_Atoi_syntax Tryz.laysC172 s hlim h ev w hv hev
open Go.RowKit in
/-- strconv.Atoi, AT EVERY NUMERAL THAT NO int HOLDS ('.range'): THE GREATEST OR THE LEAST int, BY THE SIGN ('Lib.atoiSat'), AND AN ERROR THAT IS NOT nil: a *NumError in a new block N: {Func: "Atoi", Num: s's bytes, Err: what the variable ErrRange holds}. Of what was there nothing has turned. (LAID: no walk: one application.) -/
theorem Tryz.strconv_Atoi_range (s : ByteArray) (hlim : s.size ≤ 281474976710656) (h : Lib.atoiAll s.data.toList = .range) (ev : Value) (w : World) (hv : w.cell? ⟨6, 0, none⟩ = some ev) (hev : ev = .nilIface ∨ ∃ te pe, ev = .iface te pe) :
    Calls Tryz.prog 196 #[.string s] w fun e w' => ∃ N, e = .returned (.tuple #[.int .i64 (Lib.atoiSat s.data.toList), .iface 299 (.pointer (some ⟨N, 0, none⟩))]) ∧ w.heap.size ≤ N ∧ w'.heap[N]? = some (.cells #[.string ⟨#[65, 116, 111, 105]⟩, .string s, ev] 313 (0, 0)) ∧ Below w.heap.size w w' := Any.strconv_Atoi_range Tryz.laysC172 s hlim h ev w hv hev
def Tryz.lays101_ren : Go.Shelf.Ren := ⟨fun | 101 => 197 | 208 => 212 | 206 => 227 | n => n, fun | 9 => 9 | 4 => 4 | 3 => 3 | n => n, fun | n => n⟩
theorem Tryz.lays101 : Go.Proofs.Lays.n101 Tryz.prog Tryz.lays101_ren := {
  mixed := by kernel_rfl
  f101 := Tryz.func197.trans (congrArg some (by kernel_rfl))
  f206 := Tryz.func227.trans (congrArg some (by kernel_rfl))
  f208 := Tryz.func212.trans (congrArg some (by kernel_rfl))
  t3 := Tryz.underlying3
  a3 := Tryz.isAgg3
  z3 := Tryz.sizeOf3
  v3 := Tryz.zeroValue3
  t4 := Tryz.underlying4
  a4 := Tryz.isAgg4
  z4 := Tryz.sizeOf4
  v4 := Tryz.zeroValue4
  t9 := Tryz.underlying9
  a9 := Tryz.isAgg9
  z9 := Tryz.sizeOf9
  v9 := Tryz.zeroValue9 }
open Go.RowKit Go.Lib in
/-- strings.TrimPrefix: "TrimPrefix returns s without the provided leading prefix string. If s doesn't start with prefix, s is returned unchanged.": IT RETURNS 'Lib.trimPrefix s prefix'; the world is as it was. (LAID: no walk: one application.) -/
theorem Tryz.strings_TrimPrefix (s p : ByteArray) (w : World) :
    Calls Tryz.prog 197 #[.string s, .string p] w fun e w' => e = .returned (.string ⟨(Lib.trimPrefix s.data.toList p.data.toList).toArray⟩) ∧ w' = w := Any.strings_TrimPrefix Tryz.lays101 s p w
def Tryz.lays146_ren : Go.Shelf.Ren := ⟨fun | 146 => 133 | 221 => 175 | 268 => 193 | 138 => 194 | 143 => 195 | 195 => 206 | 197 => 207 | 218 => 208 | 219 => 209 | 260 => 218 | 217 => 191 | 225 => 219 | 224 => 220 | 267 => 221 | 266 => 205 | 314 => 230 | n => n, fun | 9 => 9 | 31 => 67 | 3 => 3 | 4 => 4 | 0 => 0 | 105 => 286 | 21 => 21 | 5 => 5 | 46 => 294 | 119 => 303 | 139 => 306 | 138 => 305 | 146 => 307 | 51 => 291 | n => n, fun | 1 => 1 | 3 => 3 | 4 => 4 | n => n⟩
theorem Tryz.lays146 : Go.Proofs.Lays.n146 Tryz.prog Tryz.lays146_ren := {
  mixed := by kernel_rfl
  f138 := Tryz.func194.trans (congrArg some (by kernel_rfl))
  f143 := Tryz.func195.trans (congrArg some (by kernel_rfl))
  f146 := Tryz.func133.trans (congrArg some (by kernel_rfl))
  f195 := Tryz.func206.trans (congrArg some (by kernel_rfl))
  f197 := Tryz.func207.trans (congrArg some (by kernel_rfl))
  f217 := Tryz.func191.trans (congrArg some (by kernel_rfl))
  f218 := Tryz.func208.trans (congrArg some (by kernel_rfl))
  f219 := Tryz.func209.trans (congrArg some (by kernel_rfl))
  f221 := Tryz.func175.trans (congrArg some (by kernel_rfl))
  f224 := Tryz.func220.trans (congrArg some (by kernel_rfl))
  f225 := Tryz.func219.trans (congrArg some (by kernel_rfl))
  f260 := Tryz.func218.trans (congrArg some (by kernel_rfl))
  f266 := Tryz.func205.trans (congrArg some (by kernel_rfl))
  f267 := Tryz.func221.trans (congrArg some (by kernel_rfl))
  f268 := Tryz.func193.trans (congrArg some (by kernel_rfl))
  f314 := Tryz.func230.trans (congrArg some (by kernel_rfl))
  t0 := Tryz.underlying0
  a0 := Tryz.isAgg0
  z0 := Tryz.sizeOf0
  v0 := Tryz.zeroValue0
  t3 := Tryz.underlying3
  a3 := Tryz.isAgg3
  z3 := Tryz.sizeOf3
  v3 := Tryz.zeroValue3
  t4 := Tryz.underlying4
  a4 := Tryz.isAgg4
  z4 := Tryz.sizeOf4
  v4 := Tryz.zeroValue4
  t5 := Tryz.underlying5
  a5 := Tryz.isAgg5
  z5 := Tryz.sizeOf5
  v5 := Tryz.zeroValue5
  t9 := Tryz.underlying9
  a9 := Tryz.isAgg9
  z9 := Tryz.sizeOf9
  v9 := Tryz.zeroValue9
  t21 := Tryz.underlying21
  a21 := Tryz.isAgg21
  z21 := Tryz.sizeOf21
  v21 := Tryz.zeroValue21
  t31 := Tryz.underlying67
  a31 := Tryz.isAgg67
  z31 := Tryz.sizeOf67
  v31 := Tryz.zeroValue67
  t46 := Tryz.underlying294
  a46 := Tryz.isAgg294
  z46 := Tryz.sizeOf294
  v46 := Tryz.zeroValue294
  t51 := Tryz.underlying291
  a51 := Tryz.isAgg291
  z51 := Tryz.sizeOf291
  v51 := Tryz.zeroValue291
  t105 := Tryz.underlying286
  a105 := Tryz.isAgg286
  z105 := Tryz.sizeOf286
  v105 := Tryz.zeroValue286
  t119 := Tryz.underlying303
  a119 := Tryz.isAgg303
  z119 := Tryz.sizeOf303
  t138 := Tryz.underlying305
  a138 := Tryz.isAgg305
  z138 := Tryz.sizeOf305
  v138 := Tryz.zeroValue305
  t139 := Tryz.underlying306
  a139 := Tryz.isAgg306
  z139 := Tryz.sizeOf306
  v139 := Tryz.zeroValue306
  t146 := Tryz.underlying307
  a146 := Tryz.isAgg307
  z146 := Tryz.sizeOf307
  v146 := Tryz.zeroValue307
  g1 := by kernel_rfl
  g3 := by kernel_rfl
  g4 := by kernel_rfl }
open Go.RowKit Go.Lib in
/-- strings.Split. (LAID: no walk: one application.) -/
theorem Tryz.strings_Split (s sep : ByteArray) (m : Int) (w : World) (hs : s.size < 4294967281) (hm : w.cell? ⟨1, 0, none⟩ = some (.int .i64 m)) (h1 : 1 ≤ sep.size) :
    Calls Tryz.prog 133 #[.string s, .string sep] w fun e w' =>
      e = .returned (.slice (some ⟨w.heap.size, 0, none⟩) (Lib.countB s sep + 1) (Lib.countB s sep + 1)) ∧ w' = w.alloc (.cells ((Lib.splitB sep 0 (Lib.countB s sep) s).map Value.string).toArray 9) := Any.strings_Split Tryz.lays146 (by kernel_rfl) s sep m w hs hm h1

end Go.Proofs
end

section
set_option linter.all false
set_option maxRecDepth 1000000
namespace Go.Tw
open Go.Vx Go.Vx.B Go.Proofs Go.RowKit

theorem yHG (h3 : 1 ∈ GT.ints) {A : Nat → Prop} {w : World} (hG : GlobOK A w) : ∃ m, w.cell? ⟨1, 0, none⟩ = some (.int .i64 m) := by
  obtain ⟨_, _, m, t, f, h⟩ := hG.ints 1 h3
  exact ⟨m, by simp [World.cell?, h]⟩
theorem yKw {b : Nat} (hb : b ∈ GT.ifs) {A : Nat → Prop} {w : World} (hG : GlobOK A w) : ∃ tp p, w.cell? ⟨b, 0, none⟩ = some (.iface tp p) := by
  obtain ⟨_, _, tp, p, t, f, h⟩ := hG.ifs b hb
  exact ⟨tp, p, by simp [World.cell?, h]⟩

/-! ### strings.TrimPrefix -/
noncomputable def zb_e : Entry := { f := 197, args := .pair .str (.pair .str .unit), rS := .pair .str .unit, m := fun x => some (Lib.trimPrefix x.1 x.2.1, ()) }
theorem yPj : FnOK Tryz.prog zb_e := by
  refine ⟨y2L 197 Tryz.f197 (by kernel_rfl) (by kernel_rfl) (by kernel_rfl), fun A w x l y hG hA hx hm => ?_, fun q h => (by cases h), fun q h => (by cases h)⟩
  obtain ⟨s, p, u⟩ := x
  obtain ⟨l1, l2, rfl, rfl, l3, l4, rfl, rfl, rfl⟩ := hx
  cases hm
  refine (show Calls Tryz.prog 197 #[.string ⟨s.toArray⟩, .string ⟨p.toArray⟩] w _ from Tryz.strings_TrimPrefix ⟨s.toArray⟩ ⟨p.toArray⟩ w).mono ?_
  rintro e w' ⟨rfl, rfl⟩
  exact ⟨[.string ⟨(Lib.trimPrefix s p).toArray⟩], rfl, ⟨_, [], rfl, rfl, rfl⟩, Below.refl _ _⟩

/-! ### strings.Split -/
noncomputable def yBF (s sep : List UInt8) : List (List UInt8) := (Lib.splitB ⟨sep.toArray⟩ 0 (Lib.countB ⟨s.toArray⟩ ⟨sep.toArray⟩) ⟨s.toArray⟩).map (·.data.toList)
noncomputable def yBC (s sep : List UInt8) : Option (List (List UInt8) × Unit) :=
  bif decide (s.length < 4294967281) && decide (1 ≤ sep.length) && decide ((yBF s sep).length = Lib.countB ⟨s.toArray⟩ ⟨sep.toArray⟩ + 1) then some (yBF s sep, ()) else none
noncomputable def z0B_e : Entry := { f := 133, args := .pair .str (.pair .str .unit), rS := .pair (.slice .str) .unit, m := fun x => yBC x.1 x.2.1 }

theorem yJT (w : World) (o : Obj) : (w.alloc o).heap[w.heap.size]? = some o := by show (w.heap.push o)[w.heap.size]? = some o; exact Array.getElem?_push_size
theorem yJt (w : World) (o : Obj) : w.heap.size < (w.alloc o).heap.size := by show _ < (w.heap.push o).size; rw [Array.size_push]; exact Nat.lt_succ_self _
theorem yG5 (w : World) (cs : Array Value) (t : TypeId) (f : Nat × Nat) (j : Nat) : (w.alloc (.cells cs t f)).cell? ⟨w.heap.size, j, none⟩ = cs[j]? := by simp only [World.cell?, yJT]; rfl

theorem y5s (h3 : 1 ∈ GT.ints) : FnOK Tryz.prog z0B_e := by
  refine ⟨y2L 133 Tryz.f133 (by kernel_rfl) (by kernel_rfl) (by kernel_rfl), fun A w x l y hG hA hx hm => ?_, fun q h => (by cases h), fun q h => (by cases h)⟩
  obtain ⟨s, p, u⟩ := x
  obtain ⟨l1, l2, rfl, rfl, l3, l4, rfl, rfl, rfl⟩ := hx
  change yBC s p = some y at hm
  unfold yBC at hm
  cases hb : (decide (s.length < 4294967281) && decide (1 ≤ p.length) && decide ((yBF s p).length = Lib.countB ⟨s.toArray⟩ ⟨p.toArray⟩ + 1)) with
  | false => rw [hb] at hm; cases hm
  | true =>
    rw [hb] at hm
    cases hm
    simp only [Bool.and_eq_true, decide_eq_true_eq] at hb
    obtain ⟨⟨hs, h1⟩, hlen⟩ := hb
    obtain ⟨m, hm3⟩ := yHG h3 hG
    have hle : Lib.countB ⟨s.toArray⟩ ⟨p.toArray⟩ ≤ s.length := Lib.countB_le ⟨p.toArray⟩ h1 s.length ⟨s.toArray⟩ (Nat.le_refl _)
    refine (show Calls Tryz.prog 133 #[.string ⟨s.toArray⟩, .string ⟨p.toArray⟩] w _ from Tryz.strings_Split ⟨s.toArray⟩ ⟨p.toArray⟩ m w hs hm3 h1).mono ?_
    rintro e w' ⟨rfl, rfl⟩
    refine ⟨[.slice (some ⟨w.heap.size, 0, none⟩) (Lib.countB ⟨s.toArray⟩ ⟨p.toArray⟩ + 1) (Lib.countB ⟨s.toArray⟩ ⟨p.toArray⟩ + 1)], rfl, ⟨[_], [], rfl, ⟨some ⟨w.heap.size, 0, none⟩, Lib.countB ⟨s.toArray⟩ ⟨p.toArray⟩ + 1, by rw [← hlen], by rw [← hlen]; exact Nat.le_refl _, ?_, fun i x hx => ?_⟩, rfl⟩, (Below.refl _ w).alloc (Nat.le_refl _) _⟩
    · simp only [maxLen]
      omega
    · refine ⟨⟨w.heap.size, 0, none⟩, [.string ⟨x.toArray⟩], rfl, rfl, fun h => Nat.lt_irrefl _ (hA _ h), yJt w _, fun j v hj => ?_, rfl⟩
      cases j with
      | succ j => simp at hj
      | zero =>
        simp only [List.getElem?_cons_zero, Option.some.injEq] at hj
        subst hj
        change (yBF s p)[i]? = some x at hx
        unfold yBF at hx
        rw [List.getElem?_map, Option.map_eq_some_iff] at hx
        obtain ⟨z, hz, rfl⟩ := hx
        refine (yG5 w _ _ _ _).trans ?_
        rw [show 0 + i * Ty.str.size + 0 = i by show 0 + i * 1 + 0 = i; omega, List.getElem?_toArray, List.getElem?_map, hz]
        rfl

/-! ### strconv.Atoi -/
noncomputable def yIl (s : List UInt8) : Option (Int × Bool × Unit) :=
  bif decide (s.length ≤ 281474976710656) then some (match Lib.atoiAll s with
    | .ok v => (v, true, ())
    | .syntax => (0, false, ())
    | .range => (Lib.atoiSat s, false, ())) else none
noncomputable def z0J_e : Entry := { f := 196, args := .pair .str .unit, rS := .pair (.int .i64) (.pair .err .unit), m := fun x => yIl x.1 }

theorem y6R (h7 : 5 ∈ GT.ifs) (h8 : 6 ∈ GT.ifs) : FnOK Tryz.prog z0J_e := by
  refine ⟨y2L 196 Tryz.f196 (by kernel_rfl) (by kernel_rfl) (by kernel_rfl), fun A w x l y hG hA hx hm => ?_, fun q h => (by cases h), fun q h => (by cases h)⟩
  obtain ⟨s, u⟩ := x
  obtain ⟨l1, l2, rfl, rfl, rfl⟩ := hx
  change yIl s = some y at hm
  unfold yIl at hm
  cases hb : decide (s.length ≤ 281474976710656) with
  | false => rw [hb] at hm; cases hm
  | true =>
    rw [hb] at hm
    have hs := of_decide_eq_true hb
    change Calls Tryz.prog 196 #[.string ⟨s.toArray⟩] w _
    cases ha : Lib.atoiAll s with
    | ok v =>
      rw [ha] at hm
      cases hm
      refine (Tryz.strconv_Atoi_ok ⟨s.toArray⟩ (by show s.length ≤ _; omega) v ha w).mono ?_
      rintro e w' ⟨rfl, h⟩
      refine ⟨[.int .i64 v, .nilIface], rfl, ⟨[_], [_], rfl, rfl, [_], [], rfl, .inl ⟨rfl, rfl⟩, rfl⟩, ?_⟩
      rcases h with rfl | ⟨t, rfl⟩
      · exact Below.refl _ _
      · exact Lib.bytesWorld_below w 5 t
    | «syntax» =>
      rw [ha] at hm
      cases hm
      obtain ⟨tp, p, hc⟩ := yKw h7 hG
      refine (Tryz.strconv_Atoi_syntax ⟨s.toArray⟩ hs ha _ w hc (.inr ⟨tp, p, rfl⟩)).mono ?_
      rintro e w' ⟨N, rfl, _, _, hB⟩
      exact ⟨[.int .i64 0, .iface 299 (.pointer (some ⟨N, 0, none⟩))], rfl, ⟨[_], [_], rfl, rfl, [_], [], rfl, .inr ⟨rfl, _, _, rfl⟩, rfl⟩, hB⟩
    | range =>
      rw [ha] at hm
      cases hm
      obtain ⟨tp, p, hc⟩ := yKw h8 hG
      refine (Tryz.strconv_Atoi_range ⟨s.toArray⟩ hs ha _ w hc (.inr ⟨tp, p, rfl⟩)).mono ?_
      rintro e w' ⟨N, rfl, _, _, hB⟩
      exact ⟨[.int .i64 (Lib.atoiSat s), .iface 299 (.pointer (some ⟨N, 0, none⟩))], rfl, ⟨[_], [_], rfl, rfl, [_], [], rfl, .inr ⟨rfl, _, _, rfl⟩, rfl⟩, hB⟩
/-! ### strings.IndexByte -/
noncomputable def zh_e : Entry := { f := 173, args := .pair .str (.pair (.int .u8) .unit), rS := .pair (.int .i64) .unit, m := fun x => some (Lib.indexByte x.1 x.2.1.toNat.toUInt8, ()) }
theorem yQ8 : FnOK Tryz.prog zh_e := by
  refine ⟨y2L 173 Tryz.f173 (by kernel_rfl) (by kernel_rfl) (by kernel_rfl), fun A w x l y hG hA hx hm => ?_, fun q h => (by cases h), fun q h => (by cases h)⟩
  obtain ⟨s, c, u⟩ := x
  obtain ⟨l1, l2, rfl, rfl, l3, l4, rfl, rfl, rfl⟩ := hx
  cases hm
  refine (show Calls Tryz.prog 173 #[.string ⟨s.toArray⟩, .int .u8 c] w _ from Tryz.strings_IndexByte ⟨s.toArray⟩ c w).mono ?_
  rintro e w' ⟨rfl, rfl⟩
  exact ⟨[.int .i64 (Lib.indexByte s c.toNat.toUInt8)], rfl, ⟨_, [], rfl, rfl, rfl⟩, Below.refl _ _⟩

theorem yO2 : FnOK Tryz.prog z0B_e := y5s (List.mem_cons_self ..)
theorem yPT : FnOK Tryz.prog z0J_e := y6R (List.mem_cons_self ..) (List.mem_cons_of_mem _ (List.mem_cons_self ..))
end Go.Tw
end
