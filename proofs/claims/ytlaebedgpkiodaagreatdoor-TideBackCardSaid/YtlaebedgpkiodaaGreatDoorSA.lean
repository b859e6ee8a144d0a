/- SH: contracts of the library's functions at this program, in the words of the shelf's tool (lay-plain.mjs; shelf.py picks them).
BS: contracts of the library's functions: strconv.Itoa, strings.Join, and strings.Builder's look whether it was copied.
SH2: contracts of the library's functions on strings at this program (strings.Cut, Split, TrimPrefix, strconv.Atoi), in the words of the shelf's tool (lay-plain.mjs; shelf.py picks them).
BS2: contracts of the library's functions on strings: strings.Cut, Split, TrimPrefix, strconv.Atoi. Cut and Split ask for the cell of internal/bytealg.MaxLen (some int), Atoi for strconv.ErrSyntax and ErrRange (some interface value): GT.ints, GT.ifs. -/
import Derived.Shelf.Strings.Builder1
import Derived.Shelf.Strings.OnBuilder
import Derived.Shelf.LaysM
import Derived.Shelf.Strconv.Itoa3
import Derived.Test.YtlaebedgpkiodaaGreatDoorProg
import Derived.Test.YtlaebedgpkiodaaGreatDoorB0
import Derived.Lib.AppendIntMem
import Derived.WalkKit
import Derived.Deep.LoopGhost
import Derived.Lib.Walk
import Derived.Lib.SliceRun
import Derived.Shelf.Strings.Cut
import Derived.Shelf.Strings.Split
import Derived.Shelf.Strings.Prefix
import Derived.Shelf.Strings.Shaped
import Derived.Shelf.Strconv.AtoiAll
import Derived.Shelf.Strconv.ErrVarAll
import Derived.Shelf.LaysC
import Derived.Lib.AtoiErrMem
import Derived.Lib.SplitLaws

section
set_option linter.all false
namespace Go.Proofs
open Go.Shelf
def Tryz.lays240_ren : Go.Shelf.Ren := ⟨λ | 240 => 112 | 276 => 135 | n => n, λ | 70 => 125 | 0 => 0 | 4 => 4 | 9 => 9 | 20 => 20 | 72 => 128 | 37 => 126 | 164 => 198 | n => n, λ | n => n⟩
theorem Tryz.lays240 : Go.Proofs.Lays.n240 Tryz.prog Tryz.lays240_ren := {
  mixed := by kernel_rfl
  f240 := Tryz.func112.trans (congrArg some (by kernel_rfl))
  f276 := Tryz.func135.trans (congrArg some (by kernel_rfl))
  t0 := Tryz.underlying0
  a0 := Tryz.isAgg0
  z0 := Tryz.sizeOf0
  v0 := Tryz.zeroValue0
  t4 := Tryz.underlying4
  a4 := Tryz.isAgg4
  z4 := Tryz.sizeOf4
  v4 := Tryz.zeroValue4
  t9 := Tryz.underlying9
  a9 := Tryz.isAgg9
  z9 := Tryz.sizeOf9
  v9 := Tryz.zeroValue9
  t20 := Tryz.underlying20
  a20 := Tryz.isAgg20
  z20 := Tryz.sizeOf20
  v20 := Tryz.zeroValue20
  t70 := Tryz.underlying125
  a70 := Tryz.isAgg125
  z70 := Tryz.sizeOf125
  v70 := Tryz.zeroValue125
  t72 := Tryz.underlying128
  a72 := Tryz.isAgg128
  z72 := Tryz.sizeOf128
  v72 := Tryz.zeroValue128
  t164 := Tryz.underlying198
  a164 := Tryz.isAgg198
  z164 := Tryz.sizeOf198
  v164 := Tryz.zeroValue198 }
theorem Tryz.x72_240 : Builder.X72 Tryz.prog Tryz.lays240_ren := {
  sizeBuilder := by kernel_rfl
  liesBuilder := by kernel_rfl }
def Tryz.lays156_ren : Go.Shelf.Ren := ⟨λ | 156 => 66 | 165 => 114 | 166 => 63 | 169 => 67 | 240 => 112 | 241 => 137 | 276 => 135 | 277 => 152 | n => n, λ | 31 => 73 | 9 => 9 | 3 => 3 | 4 => 4 | 0 => 0 | 20 => 20 | 72 => 128 | 76 => 131 | 70 => 125 | 37 => 126 | 75 => 130 | 127 => 184 | 164 => 198 | 5 => 5 | 80 => 136 | n => n, λ | n => n⟩
theorem Tryz.lays156 : Go.Proofs.Lays.n156 Tryz.prog Tryz.lays156_ren := {
  mixed := by kernel_rfl
  f156 := Tryz.func66.trans (congrArg some (by kernel_rfl))
  f165 := Tryz.func114.trans (congrArg some (by kernel_rfl))
  f166 := Tryz.func63.trans (congrArg some (by kernel_rfl))
  f169 := Tryz.func67.trans (congrArg some (by kernel_rfl))
  f240 := Tryz.func112.trans (congrArg some (by kernel_rfl))
  f241 := Tryz.func137.trans (congrArg some (by kernel_rfl))
  f276 := Tryz.func135.trans (congrArg some (by kernel_rfl))
  f277 := Tryz.func152.trans (congrArg some (by kernel_rfl))
  t0 := Tryz.underlying0
  a0 := Tryz.isAgg0
  z0 := Tryz.sizeOf0
  v0 := Tryz.zeroValue0
  t3 := Tryz.underlying3
  a3 := Tryz.isAgg3
  z3 := Tryz.sizeOf3
  v3 := Tryz.zeroValue3
  t4 := Tryz.underlying4
  a4 := Tryz.isAgg4
  z4 := Tryz.sizeOf4
  v4 := Tryz.zeroValue4
  t9 := Tryz.underlying9
  a9 := Tryz.isAgg9
  z9 := Tryz.sizeOf9
  v9 := Tryz.zeroValue9
  t20 := Tryz.underlying20
  a20 := Tryz.isAgg20
  z20 := Tryz.sizeOf20
  v20 := Tryz.zeroValue20
  t31 := Tryz.underlying73
  a31 := Tryz.isAgg73
  z31 := Tryz.sizeOf73
  v31 := Tryz.zeroValue73
  t37 := Tryz.underlying126
  a37 := Tryz.isAgg126
  z37 := Tryz.sizeOf126
  v37 := Tryz.zeroValue126
  t70 := Tryz.underlying125
  a70 := Tryz.isAgg125
  z70 := Tryz.sizeOf125
  v70 := Tryz.zeroValue125
  t72 := Tryz.underlying128
  a72 := Tryz.isAgg128
  z72 := Tryz.sizeOf128
  v72 := Tryz.zeroValue128
  t75 := Tryz.underlying130
  a75 := Tryz.isAgg130
  z75 := Tryz.sizeOf130
  v75 := Tryz.zeroValue130
  t76 := Tryz.underlying131
  a76 := Tryz.isAgg131
  z76 := Tryz.sizeOf131
  v76 := Tryz.zeroValue131
  t127 := Tryz.underlying184
  a127 := Tryz.isAgg184
  z127 := Tryz.sizeOf184
  v127 := Tryz.zeroValue184
  t164 := Tryz.underlying198
  a164 := Tryz.isAgg198
  z164 := Tryz.sizeOf198
  v164 := Tryz.zeroValue198 }
theorem Tryz.Builder_Extra_156 : Builder.Extra Tryz.prog Tryz.lays156_ren := {
  sizeBuilder := by kernel_rfl
  liesBuilder := by kernel_rfl
  t5 := Tryz.underlying5
  a5 := Tryz.isAgg5
  z5 := Tryz.sizeOf5
  v5 := Tryz.zeroValue5
  infoByte := by kernel_rfl
  cellsByte := by kernel_rfl
  sizeByte := by kernel_rfl
  neB5 := by decide }
open Go.RowKit in
/-- No element: the empty string; the world is as it was. (Whatever the slice's address and capacity: a nil slice too.) (LAID: no walk: one application.) -/
theorem Tryz.strings_Join_none (a : Option Addr) (c : Nat) (sep : ByteArray) (w : World) :
    Calls Tryz.prog 66 #[.slice a 0 c, .string sep] w λ e w' => e = .returned (.string ⟨#[]⟩) /\ w' = w := Any.strings_Join_none Tryz.lays156 Tryz.Builder_Extra_156 a c sep w
open Go.RowKit in
/-- strings.Join: "Join concatenates the elements of its first argument to create a single string. The separator string sep is placed between elements in the resulting string.": HOWEVER MANY ELEMENTS. Below the heap's end the world is as it was. (LAID: no walk: one application.) -/
theorem Tryz.strings_Join (bk o c : Nat) (xs : List ByteArray) (sep : ByteArray) (w : World) (hcells : ∀ (j : Nat) x, xs[j]? = some x -> w.cell? ⟨bk, o + j, none⟩ = some (.string x)) (hbk : bk < w.heap.size) (hN : xs.length <= 140737488355328) (hcap : xs.length <= c) (hlen : (Lib.join (xs.map (·.data.toList)) sep.data.toList).length <= 140737488355328) :
    Calls Tryz.prog 66 #[.slice (some ⟨bk, o, none⟩) xs.length c, .string sep] w λ e w' => e = .returned (.string ⟨(Lib.join (xs.map (·.data.toList)) sep.data.toList).toArray⟩) /\ Below w.heap.size w w' := Any.strings_Join Tryz.lays156 Tryz.Builder_Extra_156 bk o c xs sep w hcells hbk hN hcap hlen
def Tryz.laysM171_ren : Go.Shelf.Ren := ⟨λ | 171 => 64 | 243 => 113 | 246 => 136 | 283 => 148 | 284 => 149 | 285 => 150 | 286 => 151 | 129 => 164 | 317 => 163 | 318 => 165 | 319 => 166 | 320 => 167 | 337 => 177 | 338 => 178 | n => n, λ | 3 => 3 | 9 => 9 | 2 => 2 | 4 => 4 | 171 => 208 | 0 => 0 | 53 => 209 | 37 => 126 | 5 => 5 | 173 => 212 | 212 => 221 | 51 => 222 | 20 => 20 | 213 => 223 | 46 => 216 | 232 => 246 | 233 => 247 | n => n, λ | 17 => 3 | 18 => 8 | 19 => 9 | n => n⟩
theorem Tryz.laysM171 : Go.Proofs.LaysM.n171 Tryz.prog Tryz.laysM171_ren := {
  mixed := by kernel_rfl
  f129 := Tryz.func164.trans (congrArg some (by kernel_rfl))
  f171 := Tryz.func64.trans (congrArg some (by kernel_rfl))
  f243 := Tryz.func113.trans (congrArg some (by kernel_rfl))
  f246 := Tryz.func136.trans (congrArg some (by kernel_rfl))
  f283 := Tryz.func148.trans (congrArg some (by kernel_rfl))
  f284 := Tryz.func149.trans (congrArg some (by kernel_rfl))
  f285 := Tryz.func150.trans (congrArg some (by kernel_rfl))
  f286 := Tryz.func151.trans (congrArg some (by kernel_rfl))
  f317 := Tryz.func163.trans (congrArg some (by kernel_rfl))
  f318 := Tryz.func165.trans (congrArg some (by kernel_rfl))
  f319 := Tryz.func166.trans (congrArg some (by kernel_rfl))
  f320 := Tryz.func167.trans (congrArg some (by kernel_rfl))
  f337 := Tryz.func177.trans (congrArg some (by kernel_rfl))
  f338 := Tryz.func178.trans (congrArg some (by kernel_rfl))
  t0 := Tryz.underlying0
  a0 := Tryz.isAgg0
  z0 := Tryz.sizeOf0
  v0 := Tryz.zeroValue0
  t2 := Tryz.underlying2
  a2 := Tryz.isAgg2
  z2 := Tryz.sizeOf2
  v2 := Tryz.zeroValue2
  t3 := Tryz.underlying3
  a3 := Tryz.isAgg3
  z3 := Tryz.sizeOf3
  v3 := Tryz.zeroValue3
  t4 := Tryz.underlying4
  a4 := Tryz.isAgg4
  z4 := Tryz.sizeOf4
  v4 := Tryz.zeroValue4
  t5 := Tryz.underlying5
  a5 := Tryz.isAgg5
  z5 := Tryz.sizeOf5
  v5 := Tryz.zeroValue5
  t9 := Tryz.underlying9
  a9 := Tryz.isAgg9
  z9 := Tryz.sizeOf9
  v9 := Tryz.zeroValue9
  t20 := Tryz.underlying20
  a20 := Tryz.isAgg20
  z20 := Tryz.sizeOf20
  v20 := Tryz.zeroValue20
  t37 := Tryz.underlying126
  a37 := Tryz.isAgg126
  z37 := Tryz.sizeOf126
  v37 := Tryz.zeroValue126
  t46 := Tryz.underlying216
  a46 := Tryz.isAgg216
  z46 := Tryz.sizeOf216
  v46 := Tryz.zeroValue216
  t51 := Tryz.underlying222
  a51 := Tryz.isAgg222
  z51 := Tryz.sizeOf222
  v51 := Tryz.zeroValue222
  t53 := Tryz.underlying209
  a53 := Tryz.isAgg209
  z53 := Tryz.sizeOf209
  v53 := Tryz.zeroValue209
  t171 := Tryz.underlying208
  a171 := Tryz.isAgg208
  z171 := Tryz.sizeOf208
  v171 := Tryz.zeroValue208
  t173 := Tryz.underlying212
  a173 := Tryz.isAgg212
  z173 := Tryz.sizeOf212
  v173 := Tryz.zeroValue212
  t212 := Tryz.underlying221
  a212 := Tryz.isAgg221
  z212 := Tryz.sizeOf221
  v212 := Tryz.zeroValue221
  t213 := Tryz.underlying223
  a213 := Tryz.isAgg223
  z213 := Tryz.sizeOf223
  t232 := Tryz.underlying246
  a232 := Tryz.isAgg246
  z232 := Tryz.sizeOf246
  v232 := Tryz.zeroValue246
  t233 := Tryz.underlying247
  a233 := Tryz.isAgg247
  z233 := Tryz.sizeOf247
  v233 := Tryz.zeroValue247
  g17 := by kernel_rfl
  g18 := by kernel_rfl
  g19 := by kernel_rfl
  i0 := by kernel_rfl
  i2 := by kernel_rfl
  i3 := by kernel_rfl
  i4 := by kernel_rfl
  i5 := by kernel_rfl
  i9 := by kernel_rfl
  i20 := by kernel_rfl
  i37 := by kernel_rfl
  i46 := by kernel_rfl
  i51 := by kernel_rfl
  i53 := by kernel_rfl
  i171 := by kernel_rfl
  i173 := by kernel_rfl
  i212 := by kernel_rfl
  i232 := by kernel_rfl
  i233 := by kernel_rfl
  m17 := by kernel_rfl
  m18 := by kernel_rfl
  m19 := by kernel_rfl }
open Go.RowKit Go.Sort Go.Lib in
/-- strconv.Itoa: "Itoa is equivalent to FormatInt(int64(i), 10).": i's DECIMAL NUMERAL ('Lib.itoa': a '-' where i is negative, then the digits), FOR EVERY int. The world behind the call: the world before it, new blocks behind the heap (the library's 'var a [24]byte'), draws. (LAID: no walk: one application.) -/
theorem Tryz.strconv_Itoa (n : Int) (h0 : -9223372036854775808 <= n) (h1 : n <= 9223372036854775807) (w : World) (htab : Lib.TabIs Tryz.prog w "internal/strconv.uint64pow10" .u64 Lib.pow10Tab) :
    Calls Tryz.prog 64 #[.int .i64 n] w λ e w' => e = .returned (.string ⟨(Lib.itoa n).toArray⟩) /\ ∃ k os, w' = grow (w.drewN k) os := Any.strconv_Itoa Tryz.laysM171 n h0 h1 w htab
end Go.Proofs
end

section
set_option linter.all false
set_option maxRecDepth 1000000
namespace Go.Tw
open Go.Vx Go.Vx.B Go.Proofs Go.RowKit

theorem y20 (f : FuncId) (fn : Func) (h : Tryz.prog.funcs[f]? = some fn) (hn : (fn.name == "runtime.NumGoroutine") = false) (hb : fn.body.isNone = false) : Vx.y40 Tryz.prog f := ⟨fn, h, hn, hb⟩

theorem yNI : yII Tryz.prog 112 128 := by
  refine ⟨y20 112 Tryz.f112 (by kernel_rfl) (by kernel_rfl) (by kernel_rfl), λ w b p v hg hp => ?_⟩
  rcases hp with rfl | rfl
  · refine (Any.Builder_copyCheck_fresh Tryz.lays240 Tryz.x72_240 b w (by simp [World.cell?, hg]) (by simp [World.shape?, hg]; rfl) (by simp [World.frozen?, hg])).mono ?_
    rintro e w' ⟨rfl, rfl⟩
    refine ⟨rfl, ?_, λ n hn => ?_, ?_, rfl, rfl, rfl⟩
    · simp [World.setCell, Array.getElem?_modify, hg]
    · simp only [World.setCell, Array.getElem?_modify]
      rw [if_neg (λ e => hn e.symm)]
    · simp [World.setCell]
  · refine (Any.Builder_copyCheck_used Tryz.lays240 Tryz.x72_240 b w (by simp [World.cell?, hg])).mono ?_
    rintro e w' ⟨rfl, rfl⟩
    exact ⟨rfl, hg, λ _ _ => rfl, rfl, rfl, rfl, rfl⟩

noncomputable def y99 (n : Int) : Option (List UInt8 × Unit) := bif decide (-9223372036854775808 <= n) && decide (n <= 9223372036854775807) then some (Lib.itoa n, ()) else none
noncomputable def z0E_e : Entry := { f := 64, args := .pair t3 .unit, rS := .pair .str .unit, m := λ x => y99 x.1 }

theorem y9f (w : World) {A : Nat -> Prop} (hG : GlobOK A w) : Lib.TabIs Tryz.prog w "internal/strconv.uint64pow10" .u64 Lib.pow10Tab := by
  obtain ⟨_, _, t, f, h⟩ := hG.tab (GT.gl.getD 2 default) (by show _ ∈ GT.gl; exact List.mem_of_getElem? (i := 2) rfl)
  unfold Lib.TabIs World.var?
  rw [show Tryz.prog.globalNamed "internal/strconv.uint64pow10" = some 3 by kernel_rfl]
  simp only [Option.bind_some]
  rw [show w.heap[3]? = _ from h]
  rfl

theorem yLD : FnOK Tryz.prog z0E_e := by
  refine ⟨y20 64 Tryz.f64 (by kernel_rfl) (by kernel_rfl) (by kernel_rfl), λ A w x l y hG hA hx hm => ?_, λ q h => (by cases h), λ q h => (by cases h)⟩
  obtain ⟨n, u⟩ := x
  simp only [z0E_e, y4] at hx
  obtain ⟨l1, l2, rfl, rfl, rfl⟩ := hx
  simp only [z0E_e, y99] at hm
  cases hb : (decide (-9223372036854775808 <= n) && decide (n <= 9223372036854775807)) with
  |false => rw [hb] at hm; cases hm
  |true =>
    rw [hb] at hm
    cases hm
    simp only [Bool.and_eq_true, decide_eq_true_eq] at hb
    refine (Tryz.strconv_Itoa n hb.1 hb.2 w (y9f w hG)).mono ?_
    rintro e w' ⟨rfl, k, os, rfl⟩
    exact ⟨[.string ⟨(Lib.itoa n).toArray⟩], rfl, ⟨_, [], rfl, rfl, rfl⟩, Lib.below_grow w.heap.size w (Nat.le_refl _) k os⟩

noncomputable def yBt (xs : List (List UInt8)) (sep : List UInt8) : Option (List UInt8 × Unit):=
  bif decide (xs.length <= 140737488355328) && decide ((Lib.join xs sep).length <= 140737488355328) then some (Lib.join xs sep, ()) else none
noncomputable def z0F_e : Entry := { f := 66, args := .pair (.slice .str) (.pair .str .unit), rS := .pair .str .unit, m := λ x => yBt x.1 x.2.1 }

theorem yPG : FnOK Tryz.prog z0F_e := by
  refine ⟨y20 66 Tryz.f66 (by kernel_rfl) (by kernel_rfl) (by kernel_rfl), λ A w x l y hG hA hx hm => ?_, λ q h => (by cases h), λ q h => (by cases h)⟩
  obtain ⟨xs, sep, u⟩ := x
  obtain ⟨l1, l2, rfl, ⟨p, c, rfl, hc1, hc2, hel⟩, l3, l4, rfl, rfl, rfl⟩ := hx
  change yBt xs sep = some y at hm
  unfold yBt at hm
  cases hb : (decide (List.length xs <= 140737488355328) && decide ((Lib.join xs sep).length <= 140737488355328)) with
  |false => rw [hb] at hm; cases hm
  |true =>
    rw [hb] at hm
    cases hm
    simp only [Bool.and_eq_true, decide_eq_true_eq] at hb
    show Calls Tryz.prog 66 #[.slice p (List.length xs) c, .string ⟨sep.toArray⟩] w _
    cases xs with
    |nil =>
      refine (Tryz.strings_Join_none p c ⟨sep.toArray⟩ w).mono ?_
      rintro e w' ⟨rfl, rfl⟩
      exact ⟨[.string ⟨#[]⟩], rfl, ⟨_, [], rfl, rfl, rfl⟩, Below.refl _ _⟩
    |cons x0 xs =>
      obtain ⟨ad, l0, rfl, hsp, _, hlt, _⟩ := hel 0 x0 rfl
      obtain ⟨bk, o, sp⟩ := ad
      simp only at hsp hlt
      subst hsp
      have e1 : (((x0 :: xs).map λ s => (⟨s.toArray⟩ : ByteArray)).map (·.data.toList)) = x0 :: xs := by simp [List.map_map, Function.comp_def]
      have e2 : ((x0 :: xs).map λ s => (⟨s.toArray⟩ : ByteArray)).length = List.length (x0 :: xs) := by simp
      have h := Tryz.strings_Join bk o c ((x0 :: xs).map λ s => (⟨s.toArray⟩ : ByteArray)) ⟨sep.toArray⟩ w (λ j x hj => by
        rw [List.getElem?_map, Option.map_eq_some_iff] at hj
        obtain ⟨s, hs, rfl⟩ := hj
        obtain ⟨a1, l', e, _, _, _, h1, h2⟩ := hel j s hs
        cases e
        simp only [y4] at h2
        subst h2
        have := h1 0 _ rfl
        simpa [Ty.size] using this) hlt (by rw [e2]; exact hb.1) (by rw [e2]; exact hc1) (by rw [e1]; exact hb.2)
      rw [e1, e2] at h
      refine h.mono ?_
      rintro e w' ⟨rfl, hbl⟩
      exact ⟨[.string ⟨(Lib.join (x0 :: xs) sep).toArray⟩], rfl, ⟨_, [], rfl, rfl, rfl⟩, hbl⟩

/-! ### slices.Clone -/
open Go.Lib
noncomputable def z6_e : Entry := { f := 85, args := .pair t28 .unit, rS := .pair t28 .unit, m := λ x => bif decide (List.length x.1 <= memMax) then some (x.1, ()) else none, own := some (34, t34) }

set_option maxHeartbeats 2000000 in
theorem yFi (i0 : TypeInfo) (z : Value) (hi : Tryz.prog.info? 34 = some i0) (hz0 : i0.zero = some z) (hz1 : i0.size = 3) (hzs : z.cells.size = 3)
    (hz2 : i0.bytes <= 2048) (p : Addr) (n c : Nat) (news : List Value) (w : World) (hl : news.length = n * 3) (hn : n <= memMax)
    (hc : ∀ j u, news[j]? = some u -> w.cell? (p.add j) = some u) (h1 : ∀ u ∈ news, u.oneCell' = true) :
    Calls Tryz.prog 85 #[.slice (some p) n c] w λ e w' => ∃ v', e = .returned v' /\ w'.ownsRow w.heap.size 34 3 v' n news /\ Below w.heap.size w w' := by
  have hmx : n <= maxLen := by simp only [memMax] at hn; simp only [maxLen]; omega
  have hbig : n * i0.bytes <= 140737488355328 := by
    have : n * i0.bytes <= 68719476736 * 2048 := Nat.mul_le_mul hn hz2
    omega
  have A : Aside (∀ j u, news[j]? = some u -> w.cell? (p.add j) = some u) := hc
  clear hc
  have mixed := y5r
  have u31 := Tryz.underlying28; have a31 := Tryz.isAgg28; have z31 := Tryz.sizeOf28; have v31 := Tryz.zeroValue28
  have u4 := Tryz.underlying4; have a4 := Tryz.isAgg4; have z4 := Tryz.sizeOf4; have v4 := Tryz.zeroValue4
  have q31 : ∀ (w : World) (a : Option Addr) (n c n' c' : Nat), (binOp .eql 28 (.slice a n c) (.slice none n' c')).run Tryz.prog w = .ok (.bool a.isNone) w := λ w a n c n' c' => Lib.run_eql_slice_nil w _ _ a n c n' c' Tryz.underlying28
  have r31 : ∀ w, Sem.run Tryz.prog (underlying 28) w = .ok (TypeDesc.slice 34) w := run_underlying Tryz.underlying28
  go_enter Tryz.func85, Tryz.ntmps85
  go_wp2_with (at_builtin; refine wpList_append_own _ rfl _ _ 28 rfl w.heap.size 34 i0 z 3 i0.bytes Tryz.underlying28 hi hz0 hz1 rfl hzs (by decide) _ _ _ rfl (World.ownsRow_made w #[] 0 (Nat.le_refl _) (Nat.zero_le _) (by simp)) p n c news rfl ?qc1 ?qc2 ?qc3 ?qc4 ?qc5 ?qc6 ?_)
  case qc1 => exact hl
  case qc2 =>
    intro j u hj
    exact Lib.cell?_alloc_some _ (A.out j u hj)
  case qc3 => exact h1
  case qc4 => rw [Nat.zero_add]; exact hmx
  case qc5 => rw [Nat.zero_add]; exact hbig
  case qc6 => simp
  intro v' w1 hown hgrow hnil
  go_wp2
  go_ret
  refine ⟨v', rfl, by simpa using hown, ?_⟩
  exact ((Below.refl _ w).alloc (Nat.le_refl _) _).grown hgrow (by simp) (by intro k hk; simp [Value.ownBlock] at hk; omega)

theorem yGU (n c : Nat) (w : World) : Calls Tryz.prog 85 #[.slice none n c] w λ e w' => e = .returned (.slice none 0 0) /\ w' = w := by
  have mixed := y5r
  have u31 := Tryz.underlying28; have a31 := Tryz.isAgg28; have z31 := Tryz.sizeOf28; have v31 := Tryz.zeroValue28
  have u4 := Tryz.underlying4; have a4 := Tryz.isAgg4; have z4 := Tryz.sizeOf4; have v4 := Tryz.zeroValue4
  have q31 : ∀ (w : World) (a : Option Addr) (n c n' c' : Nat), (binOp .eql 28 (.slice a n c) (.slice none n' c')).run Tryz.prog w = .ok (.bool a.isNone) w := λ w a n c n' c' => Lib.run_eql_slice_nil w _ _ a n c n' c' Tryz.underlying28
  have r31 : ∀ w, Sem.run Tryz.prog (underlying 28) w = .ok (TypeDesc.slice 34) w := run_underlying Tryz.underlying28
  go_enter Tryz.func85, Tryz.ntmps85
  go_wp2
  go_ret
  exact ⟨rfl, rfl⟩

theorem yQr : ∃ (inf : TypeInfo) (z : Value), Tryz.prog.info? 34 = some inf /\ inf.zero = some z /\ inf.size = 3 /\ z.cells.size = 3 /\ inf.bytes <= 2048 := by
  obtain ⟨hu, hF, hs0⟩ := yH (u := t34) (yC6.shape (t := 28) (i := { ty := t28, elem := 34, fields := [] }) (by kernel_rfl)) (.inl rfl)
  obtain ⟨inf, d, f1, f2, f3, f4, f5, f6⟩ := hF.ex
  refine ⟨inf, _, f1, f6, f3, ?_, f4⟩
  rw [y1z (yQ _) (y3e _), List.size_toArray, yQ]
  rfl

theorem yCJ : yNs Tryz.prog 85 (34, t34) := by
  intro w p n c news hl hn hp hc h1
  obtain ⟨inf, z, i1, i2, i3, i4, i5⟩ := yQr
  cases p with
  |none =>
    have h0 := hp rfl
    subst h0
    have hnews : news = [] := List.eq_nil_of_length_eq_zero (by simpa using hl)
    subst hnews
    refine (yGU 0 c w).mono ?_
    rintro e w' ⟨rfl, rfl⟩
    exact ⟨_, rfl, World.ownsRow_nil w' _ 34 _, Below.refl _ _⟩
  |some a => exact yFi inf z i1 i2 i3 i4 i5 a n c news w hl hn (λ j u hj => hc a rfl j u hj) h1

theorem yQx : FnOK Tryz.prog z6_e := by
  refine ⟨y20 85 Tryz.f85 (by kernel_rfl) (by kernel_rfl) (by kernel_rfl), λ A w x l y hG hA hx hm => ?_, λ q hq => ?_, λ q hq => by cases hq⟩
  · obtain ⟨xs, u⟩ := x
    obtain ⟨l1, l2, rfl, hx1, rfl⟩ := hx
    change (bif decide (List.length xs <= memMax) then some (xs, ()) else none) = some y at hm
    cases hb : decide (List.length xs <= memMax) with
    |false => rw [hb] at hm; cases hm
    |true =>
      rw [hb] at hm
      cases hm
      have hle := of_decide_eq_true hb
      obtain ⟨p, c, m, rfl, hp0, hpc, hml, hmx, hmc⟩ : ∃ (p : Option Addr) (c : Nat) (m : List Value), l1 = [.slice p (List.length xs) c] /\ (p = none -> List.length xs = 0) /\ (∀ ad, p = some ad -> ∀ j v, m[j]? = some v -> w.cell? (ad.add j) = some v) /\
          m.length = List.length xs * t34.size /\ (∀ v ∈ m, v.oneCell' = true) /\ ∀ (i : Nat) (x : t34.den), (xs : List t34.den)[i]? = some x -> y4 Tryz.prog t34 A w x ((m.drop (i * t34.size)).take t34.size) := by
        rcases y01 hx1 with ⟨rfl, p, c, rfl⟩ | ⟨b1, off, c, m, rfl, hm1, hm2⟩
        · exact ⟨p, c, [], rfl, λ _ => rfl, λ _ _ j v hj => by simp at hj, by simp, λ v hv => by simp at hv, λ i x hx => by simp at hx⟩
        · refine ⟨some ⟨b1, off, none⟩, c, m, rfl, (λ hp => by cases hp), λ ad had j v hj => ?_, hm2.length, λ v hv => yc (y4.plain hm2 v hv), λ i x hx => ?_⟩
          · cases had
            rw [yv]
            exact hm1 j v hj
          · simp only [y4] at hm2
            exact hm2.2.2 i x hx
      refine (show Calls Tryz.prog 85 #[.slice p (List.length xs) c] w _ from yCJ w p (List.length xs) c m hml hle hp0 hpc hmx).mono ?_
      rintro ex w' ⟨v', rfl, ⟨_, hown⟩, hB⟩
      refine ⟨[v'], ?_, ⟨[v'], [], rfl, ?_, rfl⟩, hB⟩
      · rfl
      rcases hown with ⟨rfl, hn0⟩ | ⟨gb, cap, cur, rfl, hgb, hg, hnc, hcm, hcs2, htk⟩
      · have hys : xs = ([] : List t34.den) := List.eq_nil_of_length_eq_zero hn0
        subst hys
        exact ⟨none, 0, rfl, Nat.le_refl _, Nat.zero_le _, λ i x hi => by simp at hi⟩
      · refine ⟨some ⟨gb, 0, none⟩, cap, rfl, hnc, hcm, λ i x hi => ?_⟩
        have hi1 : i < List.length xs := (List.getElem?_eq_some_iff.1 hi).1
        have hsz : i * t34.size + t34.size <= List.length xs * t34.size := by rw [<- Nat.succ_mul]; exact Nat.mul_le_mul_right _ hi1
        refine ⟨⟨gb, 0, none⟩, (m.drop (i * t34.size)).take t34.size, rfl, rfl, λ h => Nat.lt_irrefl _ (Nat.lt_of_lt_of_le (hA _ h) hgb), yG hg, λ j v hj => ?_, (hmc i x hi).mono (λ n hn _ => hB.block n hn) (λ n hn h => h)⟩
        have hj2 : j < t34.size := by
          have := (List.getElem?_eq_some_iff.1 hj).1
          simp only [List.length_take] at this
          omega
        rw [List.getElem?_take, if_pos hj2, List.getElem?_drop, <- htk, List.getElem?_take, if_pos (by show _ < List.length xs * t34.size; omega)] at hj
        simp only [World.cell?, hg]
        rw [Nat.zero_add, <- Array.getElem?_toList]
        exact hj
  · cases hq
    exact yCJ
end Go.Tw
end

section
set_option linter.all false
namespace Go.Proofs
open Go.Shelf
def Tryz.laysC172_ren : Go.Shelf.Ren := ⟨λ | 172 => 142 | 244 => 160 | 245 => 161 | 247 => 171 | 279 => 172 | 280 => 173 | 281 => 174 | 282 => 175 | 287 => 179 | 316 => 180 | 171 => 64 | 205 => 181 | 321 => 182 | 322 => 183 | 243 => 113 | 246 => 136 | 283 => 148 | 284 => 149 | 285 => 150 | 286 => 151 | 129 => 164 | 317 => 163 | 318 => 165 | 319 => 166 | 320 => 167 | 337 => 177 | 338 => 178 | n => n, λ | 9 => 9 | 3 => 3 | 75 => 130 | 76 => 131 | 4 => 4 | 5 => 5 | 167 => 228 | 37 => 126 | 0 => 0 | 85 => 229 | 2 => 2 | 168 => 231 | 53 => 209 | 175 => 240 | 46 => 216 | 210 => 244 | 127 => 184 | 145 => 251 | 143 => 249 | 21 => 21 | 171 => 208 | 173 => 212 | 212 => 221 | 51 => 222 | 20 => 20 | 213 => 223 | 232 => 246 | 233 => 247 | 80 => 136 | n => n, λ | 15 => 6 | 16 => 7 | 17 => 3 | 18 => 8 | 19 => 9 | n => n⟩
theorem Tryz.laysC172 : Go.Proofs.LaysC.n172 Tryz.prog Tryz.laysC172_ren := {
  mixed := by kernel_rfl
  f129 := Tryz.func164.trans (congrArg some (by kernel_rfl))
  f171 := Tryz.func64.trans (congrArg some (by kernel_rfl))
  f172 := Tryz.func142.trans (congrArg some (by kernel_rfl))
  f205 := Tryz.func181.trans (congrArg some (by kernel_rfl))
  f243 := Tryz.func113.trans (congrArg some (by kernel_rfl))
  f244 := Tryz.func160.trans (congrArg some (by kernel_rfl))
  f245 := Tryz.func161.trans (congrArg some (by kernel_rfl))
  f246 := Tryz.func136.trans (congrArg some (by kernel_rfl))
  f247 := Tryz.func171.trans (congrArg some (by kernel_rfl))
  f279 := Tryz.func172.trans (congrArg some (by kernel_rfl))
  f280 := Tryz.func173.trans (congrArg some (by kernel_rfl))
  f281 := Tryz.func174.trans (congrArg some (by kernel_rfl))
  f282 := Tryz.func175.trans (congrArg some (by kernel_rfl))
  f283 := Tryz.func148.trans (congrArg some (by kernel_rfl))
  f284 := Tryz.func149.trans (congrArg some (by kernel_rfl))
  f285 := Tryz.func150.trans (congrArg some (by kernel_rfl))
  f286 := Tryz.func151.trans (congrArg some (by kernel_rfl))
  f287 := Tryz.func179.trans (congrArg some (by kernel_rfl))
  f316 := Tryz.func180.trans (congrArg some (by kernel_rfl))
  f317 := Tryz.func163.trans (congrArg some (by kernel_rfl))
  f318 := Tryz.func165.trans (congrArg some (by kernel_rfl))
  f319 := Tryz.func166.trans (congrArg some (by kernel_rfl))
  f320 := Tryz.func167.trans (congrArg some (by kernel_rfl))
  f321 := Tryz.func182.trans (congrArg some (by kernel_rfl))
  f322 := Tryz.func183.trans (congrArg some (by kernel_rfl))
  f337 := Tryz.func177.trans (congrArg some (by kernel_rfl))
  f338 := Tryz.func178.trans (congrArg some (by kernel_rfl))
  t0 := Tryz.underlying0
  a0 := Tryz.isAgg0
  z0 := Tryz.sizeOf0
  v0 := Tryz.zeroValue0
  t2 := Tryz.underlying2
  a2 := Tryz.isAgg2
  z2 := Tryz.sizeOf2
  v2 := Tryz.zeroValue2
  t3 := Tryz.underlying3
  a3 := Tryz.isAgg3
  z3 := Tryz.sizeOf3
  v3 := Tryz.zeroValue3
  t4 := Tryz.underlying4
  a4 := Tryz.isAgg4
  z4 := Tryz.sizeOf4
  v4 := Tryz.zeroValue4
  t5 := Tryz.underlying5
  a5 := Tryz.isAgg5
  z5 := Tryz.sizeOf5
  v5 := Tryz.zeroValue5
  t9 := Tryz.underlying9
  a9 := Tryz.isAgg9
  z9 := Tryz.sizeOf9
  v9 := Tryz.zeroValue9
  t20 := Tryz.underlying20
  a20 := Tryz.isAgg20
  z20 := Tryz.sizeOf20
  v20 := Tryz.zeroValue20
  t21 := Tryz.underlying21
  a21 := Tryz.isAgg21
  z21 := Tryz.sizeOf21
  v21 := Tryz.zeroValue21
  t37 := Tryz.underlying126
  a37 := Tryz.isAgg126
  z37 := Tryz.sizeOf126
  v37 := Tryz.zeroValue126
  t46 := Tryz.underlying216
  a46 := Tryz.isAgg216
  z46 := Tryz.sizeOf216
  v46 := Tryz.zeroValue216
  t51 := Tryz.underlying222
  a51 := Tryz.isAgg222
  z51 := Tryz.sizeOf222
  v51 := Tryz.zeroValue222
  t53 := Tryz.underlying209
  a53 := Tryz.isAgg209
  z53 := Tryz.sizeOf209
  v53 := Tryz.zeroValue209
  t75 := Tryz.underlying130
  a75 := Tryz.isAgg130
  z75 := Tryz.sizeOf130
  v75 := Tryz.zeroValue130
  t76 := Tryz.underlying131
  a76 := Tryz.isAgg131
  z76 := Tryz.sizeOf131
  v76 := Tryz.zeroValue131
  t85 := Tryz.underlying229
  a85 := Tryz.isAgg229
  z85 := Tryz.sizeOf229
  v85 := Tryz.zeroValue229
  t127 := Tryz.underlying184
  a127 := Tryz.isAgg184
  z127 := Tryz.sizeOf184
  v127 := Tryz.zeroValue184
  t143 := Tryz.underlying249
  a143 := Tryz.isAgg249
  z143 := Tryz.sizeOf249
  v143 := Tryz.zeroValue249
  t145 := Tryz.underlying251
  a145 := Tryz.isAgg251
  z145 := Tryz.sizeOf251
  v145 := Tryz.zeroValue251
  t167 := Tryz.underlying228
  a167 := Tryz.isAgg228
  z167 := Tryz.sizeOf228
  v167 := Tryz.zeroValue228
  t168 := Tryz.underlying231
  a168 := Tryz.isAgg231
  z168 := Tryz.sizeOf231
  v168 := Tryz.zeroValue231
  t171 := Tryz.underlying208
  a171 := Tryz.isAgg208
  z171 := Tryz.sizeOf208
  v171 := Tryz.zeroValue208
  t173 := Tryz.underlying212
  a173 := Tryz.isAgg212
  z173 := Tryz.sizeOf212
  v173 := Tryz.zeroValue212
  t175 := Tryz.underlying240
  a175 := Tryz.isAgg240
  z175 := Tryz.sizeOf240
  v175 := Tryz.zeroValue240
  t210 := Tryz.underlying244
  a210 := Tryz.isAgg244
  z210 := Tryz.sizeOf244
  v210 := Tryz.zeroValue244
  t212 := Tryz.underlying221
  a212 := Tryz.isAgg221
  z212 := Tryz.sizeOf221
  v212 := Tryz.zeroValue221
  t213 := Tryz.underlying223
  a213 := Tryz.isAgg223
  z213 := Tryz.sizeOf223
  t232 := Tryz.underlying246
  a232 := Tryz.isAgg246
  z232 := Tryz.sizeOf246
  v232 := Tryz.zeroValue246
  t233 := Tryz.underlying247
  a233 := Tryz.isAgg247
  z233 := Tryz.sizeOf247
  v233 := Tryz.zeroValue247
  g15 := by kernel_rfl
  g16 := by kernel_rfl
  g17 := by kernel_rfl
  g18 := by kernel_rfl
  g19 := by kernel_rfl
  t80 := Tryz.underlying136
  a80 := Tryz.isAgg136
  z80 := Tryz.sizeOf136
  v80 := Tryz.zeroValue136
  i0 := by kernel_rfl
  i2 := by kernel_rfl
  i3 := by kernel_rfl
  i4 := by kernel_rfl
  i5 := by kernel_rfl
  i9 := by kernel_rfl
  i20 := by kernel_rfl
  i21 := by kernel_rfl
  i37 := by kernel_rfl
  i46 := by kernel_rfl
  i51 := by kernel_rfl
  i53 := by kernel_rfl
  i75 := by kernel_rfl
  i76 := by kernel_rfl
  i80 := by kernel_rfl
  i85 := by kernel_rfl
  i127 := by kernel_rfl
  i143 := by kernel_rfl
  i145 := by kernel_rfl
  i167 := by kernel_rfl
  i168 := by kernel_rfl
  i171 := by kernel_rfl
  i173 := by kernel_rfl
  i175 := by kernel_rfl
  i210 := by kernel_rfl
  i212 := by kernel_rfl
  i232 := by kernel_rfl
  i233 := by kernel_rfl
  m15 := by kernel_rfl
  m16 := by kernel_rfl
  m17 := by kernel_rfl
  m18 := by kernel_rfl
  m19 := by kernel_rfl
  c0 := by kernel_rfl
  c2 := by kernel_rfl
  c3 := by kernel_rfl
  c4 := by kernel_rfl
  c5 := by kernel_rfl
  c9 := by kernel_rfl
  c20 := by kernel_rfl
  c21 := by kernel_rfl
  c37 := by kernel_rfl
  c46 := by kernel_rfl
  c51 := by kernel_rfl
  c53 := by kernel_rfl
  c75 := by kernel_rfl
  c76 := by kernel_rfl
  c80 := by kernel_rfl
  c85 := by kernel_rfl
  c127 := by kernel_rfl
  c143 := by kernel_rfl
  c145 := by kernel_rfl
  c167 := by kernel_rfl
  c168 := by kernel_rfl
  c171 := by kernel_rfl
  c173 := by kernel_rfl
  c175 := by kernel_rfl
  c210 := by kernel_rfl
  c212 := by kernel_rfl
  c213 := by kernel_rfl
  c232 := by kernel_rfl
  c233 := by kernel_rfl }
open Go.RowKit in
/-- strconv.Atoi, AT EVERY STRING THAT SPELLS AN int ('Lib.atoiAll .. = .ok v'; of whatever length: leading zeros count): v, AND NO ERROR. The world: as it was, or with the one new row that '[]byte(..)' lays. (LAID: no walk: one application.) -/
theorem Tryz.strconv_Atoi_ok (s : ByteArray) (hmax : s.size <= 9223372036854775806) (v : Int) (h : Lib.atoiAll s.data.toList = .ok v) (w : World) :
    Calls Tryz.prog 142 #[.string s] w λ e w' => e = .returned (.tuple #[.int .i64 v, .nilIface]) /\ (w' = w \/ ∃ t, w' = Lib.bytesWorld w 5 t) := Any.strconv_Atoi_ok Tryz.laysC172 s hmax v h w
open Go.RowKit in
/-- strconv.Atoi, AT EVERY STRING THAT IS NO DECIMAL NUMERAL ('.syntax'): 0, AND AN ERROR THAT IS NOT nil: a *NumError in a new block N: {Func: "Atoi", Num: s's bytes, Err: what the variable ErrSyntax holds}. Of what was there nothing has turned. (LAID: no walk: one application.) -/
theorem Tryz.strconv_Atoi_syntax (s : ByteArray) (hlim : s.size <= 281474976710656) (h : Lib.atoiAll s.data.toList = .«syntax») (ev : Value) (w : World) (hv : w.cell? ⟨6, 0, none⟩ = some ev) (hev : ev = .nilIface \/ ∃ te pe, ev = .iface te pe) :
    Calls Tryz.prog 142 #[.string s] w λ e w' => ∃ N, e = .returned (.tuple #[.int .i64 (0), .iface 231 (.pointer (some ⟨N, 0, none⟩))]) /\ w.heap.size <= N /\ w'.heap[N]? = some (.cells #[.string ⟨#[65, 116, 111, 105]⟩, .string s, ev] 244 (0, 0)) /\ Below w.heap.size w w' := Any.strconv_Atoi_syntax Tryz.laysC172 s hlim h ev w hv hev
open Go.RowKit in
/-- strconv.Atoi, AT EVERY NUMERAL THAT NO int HOLDS ('.range'): THE GREATEST OR THE LEAST int, BY THE SIGN ('Lib.atoiSat'), AND AN ERROR THAT IS NOT nil: a *NumError in a new block N: {Func: "Atoi", Num: s's bytes, Err: what the variable ErrRange holds}. Of what was there nothing has turned. (LAID: no walk: one application.) -/
theorem Tryz.strconv_Atoi_range (s : ByteArray) (hlim : s.size <= 281474976710656) (h : Lib.atoiAll s.data.toList = .range) (ev : Value) (w : World) (hv : w.cell? ⟨7, 0, none⟩ = some ev) (hev : ev = .nilIface \/ ∃ te pe, ev = .iface te pe) :
    Calls Tryz.prog 142 #[.string s] w λ e w' => ∃ N, e = .returned (.tuple #[.int .i64 (Lib.atoiSat s.data.toList), .iface 231 (.pointer (some ⟨N, 0, none⟩))]) /\ w.heap.size <= N /\ w'.heap[N]? = some (.cells #[.string ⟨#[65, 116, 111, 105]⟩, .string s, ev] 244 (0, 0)) /\ Below w.heap.size w w' := Any.strconv_Atoi_range Tryz.laysC172 s hlim h ev w hv hev
def Tryz.lays145_ren : Go.Shelf.Ren := ⟨λ | 145 => 69 | 220 => 115 | 219 => 138 | 217 => 153 | 225 => 154 | 224 => 155 | 267 => 156 | 266 => 168 | 314 => 169 | n => n, λ | 9 => 9 | 4 => 4 | 59 => 138 | 3 => 3 | 5 => 5 | 46 => 216 | 146 => 226 | 51 => 222 | n => n, λ | 1 => 2 | n => n⟩
theorem Tryz.lays145 : Go.Proofs.Lays.n145 Tryz.prog Tryz.lays145_ren := {
  mixed := by kernel_rfl
  f145 := Tryz.func69.trans (congrArg some (by kernel_rfl))
  f217 := Tryz.func153.trans (congrArg some (by kernel_rfl))
  f219 := Tryz.func138.trans (congrArg some (by kernel_rfl))
  f220 := Tryz.func115.trans (congrArg some (by kernel_rfl))
  f224 := Tryz.func155.trans (congrArg some (by kernel_rfl))
  f225 := Tryz.func154.trans (congrArg some (by kernel_rfl))
  f266 := Tryz.func168.trans (congrArg some (by kernel_rfl))
  f267 := Tryz.func156.trans (congrArg some (by kernel_rfl))
  f314 := Tryz.func169.trans (congrArg some (by kernel_rfl))
  t3 := Tryz.underlying3
  a3 := Tryz.isAgg3
  z3 := Tryz.sizeOf3
  v3 := Tryz.zeroValue3
  t4 := Tryz.underlying4
  a4 := Tryz.isAgg4
  z4 := Tryz.sizeOf4
  v4 := Tryz.zeroValue4
  t5 := Tryz.underlying5
  a5 := Tryz.isAgg5
  z5 := Tryz.sizeOf5
  v5 := Tryz.zeroValue5
  t9 := Tryz.underlying9
  a9 := Tryz.isAgg9
  z9 := Tryz.sizeOf9
  v9 := Tryz.zeroValue9
  t46 := Tryz.underlying216
  a46 := Tryz.isAgg216
  z46 := Tryz.sizeOf216
  v46 := Tryz.zeroValue216
  t51 := Tryz.underlying222
  a51 := Tryz.isAgg222
  z51 := Tryz.sizeOf222
  v51 := Tryz.zeroValue222
  t59 := Tryz.underlying138
  a59 := Tryz.isAgg138
  z59 := Tryz.sizeOf138
  v59 := Tryz.zeroValue138
  t146 := Tryz.underlying226
  a146 := Tryz.isAgg226
  z146 := Tryz.sizeOf226
  v146 := Tryz.zeroValue226
  g1 := by kernel_rfl }
open Go.RowKit Go.Lib in
/-- strings.Cut: "Cut slices s around the first instance of sep, returning the text before and after sep. The found result reports whether sep appears in s. If sep does not appear in s, cut returns s, "", false.": IT RETURNS 'Lib.cut s sep'; the world is as it was but for the count of draws. (LAID: no walk: one application.) -/
theorem Tryz.strings_Cut (s sep : ByteArray) (m : Int) (w : World) (hs : s.size < 4294967281) (hm : w.cell? ⟨2, 0, none⟩ = some (.int .i64 m)) :
    Calls Tryz.prog 69 #[.string s, .string sep] w λ e w' => e = .returned (.tuple #[.string ⟨(Lib.cut s.data.toList sep.data.toList).1.toArray⟩, .string ⟨(Lib.cut s.data.toList sep.data.toList).2.1.toArray⟩, .bool (Lib.cut s.data.toList sep.data.toList).2.2]) /\ ∃ n, w' = w.drewN n := Any.strings_Cut Tryz.lays145 s sep m w hs hm
def Tryz.lays101_ren : Go.Shelf.Ren := ⟨λ | 101 => 143 | 208 => 162 | 206 => 176 | n => n, λ | 9 => 9 | 4 => 4 | 3 => 3 | n => n, λ | n => n⟩
theorem Tryz.lays101 : Go.Proofs.Lays.n101 Tryz.prog Tryz.lays101_ren := {
  mixed := by kernel_rfl
  f101 := Tryz.func143.trans (congrArg some (by kernel_rfl))
  f206 := Tryz.func176.trans (congrArg some (by kernel_rfl))
  f208 := Tryz.func162.trans (congrArg some (by kernel_rfl))
  t3 := Tryz.underlying3
  a3 := Tryz.isAgg3
  z3 := Tryz.sizeOf3
  v3 := Tryz.zeroValue3
  t4 := Tryz.underlying4
  a4 := Tryz.isAgg4
  z4 := Tryz.sizeOf4
  v4 := Tryz.zeroValue4
  t9 := Tryz.underlying9
  a9 := Tryz.isAgg9
  z9 := Tryz.sizeOf9
  v9 := Tryz.zeroValue9 }
open Go.RowKit Go.Lib in
/-- strings.TrimPrefix: "TrimPrefix returns s without the provided leading prefix string. If s doesn't start with prefix, s is returned unchanged.": IT RETURNS 'Lib.trimPrefix s prefix'; the world is as it was. (LAID: no walk: one application.) -/
theorem Tryz.strings_TrimPrefix (s p : ByteArray) (w : World) :
    Calls Tryz.prog 143 #[.string s, .string p] w λ e w' => e = .returned (.string ⟨(Lib.trimPrefix s.data.toList p.data.toList).toArray⟩) /\ w' = w := Any.strings_TrimPrefix Tryz.lays101 s p w
def Tryz.lays146_ren : Go.Shelf.Ren := ⟨λ | 146 => 70 | 221 => 116 | 268 => 139 | 138 => 140 | 143 => 141 | 195 => 157 | 197 => 158 | 218 => 159 | 219 => 138 | 260 => 170 | 217 => 153 | 225 => 154 | 224 => 155 | 267 => 156 | 266 => 168 | 314 => 169 | n => n, λ | 9 => 9 | 31 => 73 | 3 => 3 | 4 => 4 | 0 => 0 | 105 => 217 | 21 => 21 | 5 => 5 | 46 => 216 | 119 => 236 | 139 => 239 | 138 => 238 | 146 => 226 | 51 => 222 | n => n, λ | 1 => 2 | 3 => 4 | 4 => 5 | n => n⟩
theorem Tryz.lays146 : Go.Proofs.Lays.n146 Tryz.prog Tryz.lays146_ren := {
  mixed := by kernel_rfl
  f138 := Tryz.func140.trans (congrArg some (by kernel_rfl))
  f143 := Tryz.func141.trans (congrArg some (by kernel_rfl))
  f146 := Tryz.func70.trans (congrArg some (by kernel_rfl))
  f195 := Tryz.func157.trans (congrArg some (by kernel_rfl))
  f197 := Tryz.func158.trans (congrArg some (by kernel_rfl))
  f217 := Tryz.func153.trans (congrArg some (by kernel_rfl))
  f218 := Tryz.func159.trans (congrArg some (by kernel_rfl))
  f219 := Tryz.func138.trans (congrArg some (by kernel_rfl))
  f221 := Tryz.func116.trans (congrArg some (by kernel_rfl))
  f224 := Tryz.func155.trans (congrArg some (by kernel_rfl))
  f225 := Tryz.func154.trans (congrArg some (by kernel_rfl))
  f260 := Tryz.func170.trans (congrArg some (by kernel_rfl))
  f266 := Tryz.func168.trans (congrArg some (by kernel_rfl))
  f267 := Tryz.func156.trans (congrArg some (by kernel_rfl))
  f268 := Tryz.func139.trans (congrArg some (by kernel_rfl))
  f314 := Tryz.func169.trans (congrArg some (by kernel_rfl))
  t0 := Tryz.underlying0
  a0 := Tryz.isAgg0
  z0 := Tryz.sizeOf0
  v0 := Tryz.zeroValue0
  t3 := Tryz.underlying3
  a3 := Tryz.isAgg3
  z3 := Tryz.sizeOf3
  v3 := Tryz.zeroValue3
  t4 := Tryz.underlying4
  a4 := Tryz.isAgg4
  z4 := Tryz.sizeOf4
  v4 := Tryz.zeroValue4
  t5 := Tryz.underlying5
  a5 := Tryz.isAgg5
  z5 := Tryz.sizeOf5
  v5 := Tryz.zeroValue5
  t9 := Tryz.underlying9
  a9 := Tryz.isAgg9
  z9 := Tryz.sizeOf9
  v9 := Tryz.zeroValue9
  t21 := Tryz.underlying21
  a21 := Tryz.isAgg21
  z21 := Tryz.sizeOf21
  v21 := Tryz.zeroValue21
  t31 := Tryz.underlying73
  a31 := Tryz.isAgg73
  z31 := Tryz.sizeOf73
  v31 := Tryz.zeroValue73
  t46 := Tryz.underlying216
  a46 := Tryz.isAgg216
  z46 := Tryz.sizeOf216
  v46 := Tryz.zeroValue216
  t51 := Tryz.underlying222
  a51 := Tryz.isAgg222
  z51 := Tryz.sizeOf222
  v51 := Tryz.zeroValue222
  t105 := Tryz.underlying217
  a105 := Tryz.isAgg217
  z105 := Tryz.sizeOf217
  v105 := Tryz.zeroValue217
  t119 := Tryz.underlying236
  a119 := Tryz.isAgg236
  z119 := Tryz.sizeOf236
  t138 := Tryz.underlying238
  a138 := Tryz.isAgg238
  z138 := Tryz.sizeOf238
  v138 := Tryz.zeroValue238
  t139 := Tryz.underlying239
  a139 := Tryz.isAgg239
  z139 := Tryz.sizeOf239
  v139 := Tryz.zeroValue239
  t146 := Tryz.underlying226
  a146 := Tryz.isAgg226
  z146 := Tryz.sizeOf226
  v146 := Tryz.zeroValue226
  g1 := by kernel_rfl
  g3 := by kernel_rfl
  g4 := by kernel_rfl }
open Go.RowKit Go.Lib in
/-- strings.Split. (LAID: no walk: one application.) -/
theorem Tryz.strings_Split (s sep : ByteArray) (m : Int) (w : World) (hs : s.size < 4294967281) (hm : w.cell? ⟨2, 0, none⟩ = some (.int .i64 m)) (h1 : 1 <= sep.size) :
    Calls Tryz.prog 70 #[.string s, .string sep] w λ e w' =>
      e = .returned (.slice (some ⟨w.heap.size, 0, none⟩) (Lib.countB s sep + 1) (Lib.countB s sep + 1)) /\ w' = w.alloc (.cells ((Lib.splitB sep 0 (Lib.countB s sep) s).map Value.string).toArray 9) := Any.strings_Split Tryz.lays146 (by kernel_rfl) s sep m w hs hm h1

end Go.Proofs
end

section
set_option linter.all false
set_option maxRecDepth 1000000
namespace Go.Tw
open Go.Vx Go.Vx.B Go.Proofs Go.RowKit

theorem yBe (h3 : 2 ∈ GT.ints) {A : Nat -> Prop} {w : World} (hG : GlobOK A w) : ∃ m, w.cell? ⟨2, 0, none⟩ = some (.int .i64 m) := by
  obtain ⟨_, _, m, t, f, h⟩ := hG.ints 2 h3
  exact ⟨m, by simp [World.cell?, h]⟩
theorem yLO {b : Nat} (hb : b ∈ GT.ifs) {A : Nat -> Prop} {w : World} (hG : GlobOK A w) : ∃ tp p, w.cell? ⟨b, 0, none⟩ = some (.iface tp p) := by
  obtain ⟨_, _, tp, p, t, f, h⟩ := hG.ifs b hb
  exact ⟨tp, p, by simp [World.cell?, h]⟩

/-! ### strings.TrimPrefix -/
noncomputable def zS_e : Entry := { f := 143, args := .pair .str (.pair .str .unit), rS := .pair .str .unit, m := λ x => some (Lib.trimPrefix x.1 x.2.1, ()) }
theorem yR2 : FnOK Tryz.prog zS_e := by
  refine ⟨y20 143 Tryz.f143 (by kernel_rfl) (by kernel_rfl) (by kernel_rfl), λ A w x l y hG hA hx hm => ?_, λ q h => (by cases h), λ q h => (by cases h)⟩
  obtain ⟨s, p, u⟩ := x
  obtain ⟨l1, l2, rfl, rfl, l3, l4, rfl, rfl, rfl⟩ := hx
  cases hm
  refine (show Calls Tryz.prog 143 #[.string ⟨s.toArray⟩, .string ⟨p.toArray⟩] w _ from Tryz.strings_TrimPrefix ⟨s.toArray⟩ ⟨p.toArray⟩ w).mono ?_
  rintro e w' ⟨rfl, rfl⟩
  exact ⟨[.string ⟨(Lib.trimPrefix s p).toArray⟩], rfl, ⟨_, [], rfl, rfl, rfl⟩, Below.refl _ _⟩

/-! ### strings.Cut -/
noncomputable def cutM (s sep : List UInt8) : Option (List UInt8 × List UInt8 × Bool × Unit):=
  bif decide (s.length < 4294967281) then some ((Lib.cut s sep).1, (Lib.cut s sep).2.1, (Lib.cut s sep).2.2, ()) else none
noncomputable def z0U_e : Entry := { f := 69, args := .pair .str (.pair .str .unit), rS := .pair .str (.pair .str (.pair .bool .unit)), m := λ x => cutM x.1 x.2.1 }

theorem y8Y (h3 : 2 ∈ GT.ints) : FnOK Tryz.prog z0U_e := by
  refine ⟨y20 69 Tryz.f69 (by kernel_rfl) (by kernel_rfl) (by kernel_rfl), λ A w x l y hG hA hx hm => ?_, λ q h => (by cases h), λ q h => (by cases h)⟩
  obtain ⟨s, p, u⟩ := x
  obtain ⟨l1, l2, rfl, rfl, l3, l4, rfl, rfl, rfl⟩ := hx
  change cutM s p = some y at hm
  unfold cutM at hm
  cases hb : decide (s.length < 4294967281) with
  |false => rw [hb] at hm; cases hm
  |true =>
    rw [hb] at hm
    cases hm
    obtain ⟨m, hm3⟩ := yBe h3 hG
    refine (show Calls Tryz.prog 69 #[.string ⟨s.toArray⟩, .string ⟨p.toArray⟩] w _ from Tryz.strings_Cut ⟨s.toArray⟩ ⟨p.toArray⟩ m w (of_decide_eq_true hb) hm3).mono ?_
    rintro e w' ⟨rfl, n, rfl⟩
    exact ⟨[.string ⟨(Lib.cut s p).1.toArray⟩, .string ⟨(Lib.cut s p).2.1.toArray⟩, .bool (Lib.cut s p).2.2], rfl, ⟨[_], [_, _], rfl, rfl, [_], [_], rfl, rfl, [_], [], rfl, rfl, rfl⟩, ⟨rfl, rfl, rfl, Nat.le_refl _, λ _ _ => rfl⟩⟩

/-! ### strings.Split -/
noncomputable def yCn (s sep : List UInt8) : List (List UInt8) := (Lib.splitB ⟨sep.toArray⟩ 0 (Lib.countB ⟨s.toArray⟩ ⟨sep.toArray⟩) ⟨s.toArray⟩).map (·.data.toList)
noncomputable def yC7 (s sep : List UInt8) : Option (List (List UInt8) × Unit):=
  bif decide (s.length < 4294967281) && decide (1 <= sep.length) && decide ((yCn s sep).length = Lib.countB ⟨s.toArray⟩ ⟨sep.toArray⟩ + 1) then some (yCn s sep, ()) else none
noncomputable def z03_e : Entry := { f := 70, args := .pair .str (.pair .str .unit), rS := .pair (.slice .str) .unit, m := λ x => yC7 x.1 x.2.1 }

theorem yKs (w : World) (o : Obj) : (w.alloc o).heap[w.heap.size]? = some o := by show (w.heap.push o)[w.heap.size]? = some o; exact Array.getElem?_push_size
theorem yKx (w : World) (o : Obj) : w.heap.size < (w.alloc o).heap.size := by show _ < (w.heap.push o).size; rw [Array.size_push]; exact Nat.lt_succ_self _
theorem yGe (w : World) (cs : Array Value) (t : TypeId) (f : Nat × Nat) (j : Nat) : (w.alloc (.cells cs t f)).cell? ⟨w.heap.size, j, none⟩ = cs[j]? := by simp only [World.cell?, yKs]; rfl

theorem y6Z (h3 : 2 ∈ GT.ints) : FnOK Tryz.prog z03_e := by
  refine ⟨y20 70 Tryz.f70 (by kernel_rfl) (by kernel_rfl) (by kernel_rfl), λ A w x l y hG hA hx hm => ?_, λ q h => (by cases h), λ q h => (by cases h)⟩
  obtain ⟨s, p, u⟩ := x
  obtain ⟨l1, l2, rfl, rfl, l3, l4, rfl, rfl, rfl⟩ := hx
  change yC7 s p = some y at hm
  unfold yC7 at hm
  cases hb : (decide (s.length < 4294967281) && decide (1 <= p.length) && decide ((yCn s p).length = Lib.countB ⟨s.toArray⟩ ⟨p.toArray⟩ + 1)) with
  |false => rw [hb] at hm; cases hm
  |true =>
    rw [hb] at hm
    cases hm
    simp only [Bool.and_eq_true, decide_eq_true_eq] at hb
    obtain ⟨⟨hs, h1⟩, hlen⟩ := hb
    obtain ⟨m, hm3⟩ := yBe h3 hG
    have hle : Lib.countB ⟨s.toArray⟩ ⟨p.toArray⟩ <= s.length := Lib.countB_le ⟨p.toArray⟩ h1 s.length ⟨s.toArray⟩ (Nat.le_refl _)
    refine (show Calls Tryz.prog 70 #[.string ⟨s.toArray⟩, .string ⟨p.toArray⟩] w _ from Tryz.strings_Split ⟨s.toArray⟩ ⟨p.toArray⟩ m w hs hm3 h1).mono ?_
    rintro e w' ⟨rfl, rfl⟩
    refine ⟨[.slice (some ⟨w.heap.size, 0, none⟩) (Lib.countB ⟨s.toArray⟩ ⟨p.toArray⟩ + 1) (Lib.countB ⟨s.toArray⟩ ⟨p.toArray⟩ + 1)], rfl, ⟨[_], [], rfl, ⟨some ⟨w.heap.size, 0, none⟩, Lib.countB ⟨s.toArray⟩ ⟨p.toArray⟩ + 1, by rw [<- hlen], by rw [<- hlen]; exact Nat.le_refl _, ?_, λ i x hx => ?_⟩, rfl⟩, (Below.refl _ w).alloc (Nat.le_refl _) _⟩
    · simp only [maxLen]
      omega
    · refine ⟨⟨w.heap.size, 0, none⟩, [.string ⟨x.toArray⟩], rfl, rfl, λ h => Nat.lt_irrefl _ (hA _ h), yKx w _, λ j v hj => ?_, rfl⟩
      cases j with
      |succ j => simp at hj
      |zero =>
        simp only [List.getElem?_cons_zero, Option.some.injEq] at hj
        subst hj
        change (yCn s p)[i]? = some x at hx
        unfold yCn at hx
        rw [List.getElem?_map, Option.map_eq_some_iff] at hx
        obtain ⟨z, hz, rfl⟩ := hx
        refine (yGe w _ _ _ _).trans ?_
        rw [show 0 + i * Ty.str.size + 0 = i by show 0 + i * 1 + 0 = i; omega, List.getElem?_toArray, List.getElem?_map, hz]
        rfl

/-! ### strconv.Atoi -/
noncomputable def yGK (s : List UInt8) : Option (Int × Bool × Unit):=
  bif decide (s.length <= 281474976710656) then some (match Lib.atoiAll s with
    |.ok v => (v, true, ())
    |.syntax => (0, false, ())
    |.range => (Lib.atoiSat s, false, ())) else none
noncomputable def z0D_e : Entry := { f := 142, args := .pair .str .unit, rS := .pair (.int .i64) (.pair .err .unit), m := λ x => yGK x.1 }

theorem y7H (h7 : 6 ∈ GT.ifs) (h8 : 7 ∈ GT.ifs) : FnOK Tryz.prog z0D_e := by
  refine ⟨y20 142 Tryz.f142 (by kernel_rfl) (by kernel_rfl) (by kernel_rfl), λ A w x l y hG hA hx hm => ?_, λ q h => (by cases h), λ q h => (by cases h)⟩
  obtain ⟨s, u⟩ := x
  obtain ⟨l1, l2, rfl, rfl, rfl⟩ := hx
  change yGK s = some y at hm
  unfold yGK at hm
  cases hb : decide (s.length <= 281474976710656) with
  |false => rw [hb] at hm; cases hm
  |true =>
    rw [hb] at hm
    have hs := of_decide_eq_true hb
    change Calls Tryz.prog 142 #[.string ⟨s.toArray⟩] w _
    cases ha : Lib.atoiAll s with
    |ok v =>
      rw [ha] at hm
      cases hm
      refine (Tryz.strconv_Atoi_ok ⟨s.toArray⟩ (by show s.length <= _; omega) v ha w).mono ?_
      rintro e w' ⟨rfl, h⟩
      refine ⟨[.int .i64 v, .nilIface], rfl, ⟨[_], [_], rfl, rfl, [_], [], rfl, .inl ⟨rfl, rfl⟩, rfl⟩, ?_⟩
      rcases h with rfl | ⟨t, rfl⟩
      · exact Below.refl _ _
      · exact Lib.bytesWorld_below w 5 t
    | «syntax» =>
      rw [ha] at hm
      cases hm
      obtain ⟨tp, p, hc⟩ := yLO h7 hG
      refine (Tryz.strconv_Atoi_syntax ⟨s.toArray⟩ hs ha _ w hc (.inr ⟨tp, p, rfl⟩)).mono ?_
      rintro e w' ⟨N, rfl, _, _, hB⟩
      exact ⟨[.int .i64 0, .iface 231 (.pointer (some ⟨N, 0, none⟩))], rfl, ⟨[_], [_], rfl, rfl, [_], [], rfl, .inr ⟨rfl, _, _, rfl⟩, rfl⟩, hB⟩
    |range =>
      rw [ha] at hm
      cases hm
      obtain ⟨tp, p, hc⟩ := yLO h8 hG
      refine (Tryz.strconv_Atoi_range ⟨s.toArray⟩ hs ha _ w hc (.inr ⟨tp, p, rfl⟩)).mono ?_
      rintro e w' ⟨N, rfl, _, _, hB⟩
      exact ⟨[.int .i64 (Lib.atoiSat s), .iface 231 (.pointer (some ⟨N, 0, none⟩))], rfl, ⟨[_], [_], rfl, rfl, [_], [], rfl, .inr ⟨rfl, _, _, rfl⟩, rfl⟩, hB⟩
theorem yPu : FnOK Tryz.prog z0U_e := y8Y (List.mem_cons_self ..)
theorem yQ0 : FnOK Tryz.prog z03_e := y6Z (List.mem_cons_self ..)
theorem yPx : FnOK Tryz.prog z0D_e := y7H (List.mem_cons_self ..) (List.mem_cons_of_mem _ (List.mem_cons_self ..))
end Go.Tw
end
