/- SH: contracts of the library's functions at this program, in the words of the shelf's tool (lay-plain.mjs; shelf.py picks them).
BS: contracts of the library's functions: strconv.Itoa, strings.Join, and strings.Builder's look whether it was copied.
SH2: contracts of the library's functions on strings at this program (strings.IndexByte, Split), in the words of the shelf's tool (lay-plain.mjs; shelf.py picks them).
BS2: contracts of the library's functions on strings: strings.Cut, Split, TrimPrefix, strconv.Atoi. Cut and Split ask for the cell of internal/bytealg.MaxLen (some int), Atoi for strconv.ErrSyntax and ErrRange (some interface value): GT.ints, GT.ifs. -/
import Derived.Shelf.Strings.Builder1
import Derived.Shelf.Strings.OnBuilder
import Derived.Shelf.LaysM
import Derived.Shelf.Strconv.Itoa3
import Derived.Shelf.Sort.Plain
import Derived.Shelf.Slices.In.SortNone
import Derived.Test.YtimaoihjoojcdaaGreatDoorProg
import Derived.Test.YtimaoihjoojcdaaGreatDoorB0
import Derived.WalkKit
import Derived.Deep.LoopGhost
import Derived.Lib.Walk
import Derived.Lib.SliceRun
import Derived.Lib.AppendIntMem
import Derived.Shelf.Strings.Split
import Derived.Shelf.Strings.Prefix
import Derived.Shelf.Small.Strs
import Derived.Shelf.LaysC
import Derived.Lib.AtoiErrMem
import Derived.Lib.SplitLaws

section
set_option linter.all false
namespace Go.Proofs
open Go.Shelf
def Tryz.lays240_ren : Go.Shelf.Ren := ⟨fun | 240 => 85 | 276 => 120 | n => n, fun | 70 => 95 | 0 => 0 | 4 => 4 | 9 => 9 | 20 => 20 | 72 => 98 | 37 => 96 | 164 => 208 | n => n, fun | n => n⟩
theorem Tryz.lays240 : Go.Proofs.Lays.n240 Tryz.prog Tryz.lays240_ren := {
  mixed := by kernel_rfl
  f240 := Tryz.func85.trans (congrArg some (by kernel_rfl))
  f276 := Tryz.func120.trans (congrArg some (by kernel_rfl))
  t0 := Tryz.underlying0
  a0 := Tryz.isAgg0
  z0 := Tryz.sizeOf0
  v0 := Tryz.zeroValue0
  t4 := Tryz.underlying4
  a4 := Tryz.isAgg4
  z4 := Tryz.sizeOf4
  v4 := Tryz.zeroValue4
  t9 := Tryz.underlying9
  a9 := Tryz.isAgg9
  z9 := Tryz.sizeOf9
  v9 := Tryz.zeroValue9
  t20 := Tryz.underlying20
  a20 := Tryz.isAgg20
  z20 := Tryz.sizeOf20
  v20 := Tryz.zeroValue20
  t70 := Tryz.underlying95
  a70 := Tryz.isAgg95
  z70 := Tryz.sizeOf95
  v70 := Tryz.zeroValue95
  t72 := Tryz.underlying98
  a72 := Tryz.isAgg98
  z72 := Tryz.sizeOf98
  v72 := Tryz.zeroValue98
  t164 := Tryz.underlying208
  a164 := Tryz.isAgg208
  z164 := Tryz.sizeOf208
  v164 := Tryz.zeroValue208 }
theorem Tryz.x72_240 : Builder.X72 Tryz.prog Tryz.lays240_ren := {
  sizeBuilder := by kernel_rfl
  liesBuilder := by kernel_rfl }
def Tryz.lays156_ren : Go.Shelf.Ren := ⟨fun | 156 => 38 | 165 => 86 | 166 => 37 | 169 => 40 | 240 => 85 | 241 => 121 | 276 => 120 | 277 => 138 | n => n, fun | 31 => 51 | 9 => 9 | 3 => 3 | 4 => 4 | 0 => 0 | 20 => 20 | 72 => 98 | 76 => 101 | 70 => 95 | 37 => 96 | 75 => 100 | 127 => 163 | 164 => 208 | 5 => 5 | 80 => 107 | n => n, fun | n => n⟩
theorem Tryz.lays156 : Go.Proofs.Lays.n156 Tryz.prog Tryz.lays156_ren := {
  mixed := by kernel_rfl
  f156 := Tryz.func38.trans (congrArg some (by kernel_rfl))
  f165 := Tryz.func86.trans (congrArg some (by kernel_rfl))
  f166 := Tryz.func37.trans (congrArg some (by kernel_rfl))
  f169 := Tryz.func40.trans (congrArg some (by kernel_rfl))
  f240 := Tryz.func85.trans (congrArg some (by kernel_rfl))
  f241 := Tryz.func121.trans (congrArg some (by kernel_rfl))
  f276 := Tryz.func120.trans (congrArg some (by kernel_rfl))
  f277 := Tryz.func138.trans (congrArg some (by kernel_rfl))
  t0 := Tryz.underlying0
  a0 := Tryz.isAgg0
  z0 := Tryz.sizeOf0
  v0 := Tryz.zeroValue0
  t3 := Tryz.underlying3
  a3 := Tryz.isAgg3
  z3 := Tryz.sizeOf3
  v3 := Tryz.zeroValue3
  t4 := Tryz.underlying4
  a4 := Tryz.isAgg4
  z4 := Tryz.sizeOf4
  v4 := Tryz.zeroValue4
  t9 := Tryz.underlying9
  a9 := Tryz.isAgg9
  z9 := Tryz.sizeOf9
  v9 := Tryz.zeroValue9
  t20 := Tryz.underlying20
  a20 := Tryz.isAgg20
  z20 := Tryz.sizeOf20
  v20 := Tryz.zeroValue20
  t31 := Tryz.underlying51
  a31 := Tryz.isAgg51
  z31 := Tryz.sizeOf51
  v31 := Tryz.zeroValue51
  t37 := Tryz.underlying96
  a37 := Tryz.isAgg96
  z37 := Tryz.sizeOf96
  v37 := Tryz.zeroValue96
  t70 := Tryz.underlying95
  a70 := Tryz.isAgg95
  z70 := Tryz.sizeOf95
  v70 := Tryz.zeroValue95
  t72 := Tryz.underlying98
  a72 := Tryz.isAgg98
  z72 := Tryz.sizeOf98
  v72 := Tryz.zeroValue98
  t75 := Tryz.underlying100
  a75 := Tryz.isAgg100
  z75 := Tryz.sizeOf100
  v75 := Tryz.zeroValue100
  t76 := Tryz.underlying101
  a76 := Tryz.isAgg101
  z76 := Tryz.sizeOf101
  v76 := Tryz.zeroValue101
  t127 := Tryz.underlying163
  a127 := Tryz.isAgg163
  z127 := Tryz.sizeOf163
  v127 := Tryz.zeroValue163
  t164 := Tryz.underlying208
  a164 := Tryz.isAgg208
  z164 := Tryz.sizeOf208
  v164 := Tryz.zeroValue208 }
theorem Tryz.Builder_Extra_156 : Builder.Extra Tryz.prog Tryz.lays156_ren := {
  sizeBuilder := by kernel_rfl
  liesBuilder := by kernel_rfl
  t5 := Tryz.underlying5
  a5 := Tryz.isAgg5
  z5 := Tryz.sizeOf5
  v5 := Tryz.zeroValue5
  infoByte := by kernel_rfl
  cellsByte := by kernel_rfl
  sizeByte := by kernel_rfl
  neB5 := by decide }
open Go.RowKit in
/-- No element: the empty string; the world is as it was. (Whatever the slice's address and capacity: a nil slice too.) (LAID: no walk: one application.) -/
theorem Tryz.strings_Join_none (a : Option Addr) (c : Nat) (sep : ByteArray) (w : World) :
    Calls Tryz.prog 38 #[.slice a 0 c, .string sep] w fun e w' => e = .returned (.string ⟨#[]⟩) ∧ w' = w := Any.strings_Join_none Tryz.lays156 Tryz.Builder_Extra_156 a c sep w
open Go.RowKit in
/-- strings.Join: "Join concatenates the elements of its first argument to create a single string. The separator string sep is placed between elements in the resulting string.": HOWEVER MANY ELEMENTS. Below the heap's end the world is as it was. (LAID: no walk: one application.) -/
theorem Tryz.strings_Join (bk o c : Nat) (xs : List ByteArray) (sep : ByteArray) (w : World) (hcells : ∀ (j : Nat) x, xs[j]? = some x → w.cell? ⟨bk, o + j, none⟩ = some (.string x)) (hbk : bk < w.heap.size) (hN : xs.length ≤ 140737488355328) (hcap : xs.length ≤ c) (hlen : (Lib.join (xs.map (·.data.toList)) sep.data.toList).length ≤ 140737488355328) :
    Calls Tryz.prog 38 #[.slice (some ⟨bk, o, none⟩) xs.length c, .string sep] w fun e w' => e = .returned (.string ⟨(Lib.join (xs.map (·.data.toList)) sep.data.toList).toArray⟩) ∧ Below w.heap.size w w' := Any.strings_Join Tryz.lays156 Tryz.Builder_Extra_156 bk o c xs sep w hcells hbk hN hcap hlen
def Tryz.laysM171_ren : Go.Shelf.Ren := ⟨fun | 171 => 39 | 243 => 87 | 246 => 122 | 283 => 139 | 284 => 140 | 285 => 141 | 286 => 142 | 129 => 165 | 317 => 166 | 318 => 167 | 319 => 168 | 320 => 169 | 337 => 181 | 338 => 182 | n => n, fun | 3 => 3 | 9 => 9 | 2 => 2 | 4 => 4 | 171 => 223 | 0 => 0 | 53 => 224 | 37 => 96 | 5 => 5 | 173 => 227 | 212 => 243 | 51 => 241 | 20 => 20 | 213 => 244 | 46 => 219 | 232 => 260 | 233 => 261 | n => n, fun | 17 => 1 | 18 => 4 | 19 => 5 | n => n⟩
theorem Tryz.laysM171 : Go.Proofs.LaysM.n171 Tryz.prog Tryz.laysM171_ren := {
  mixed := by kernel_rfl
  f129 := Tryz.func165.trans (congrArg some (by kernel_rfl))
  f171 := Tryz.func39.trans (congrArg some (by kernel_rfl))
  f243 := Tryz.func87.trans (congrArg some (by kernel_rfl))
  f246 := Tryz.func122.trans (congrArg some (by kernel_rfl))
  f283 := Tryz.func139.trans (congrArg some (by kernel_rfl))
  f284 := Tryz.func140.trans (congrArg some (by kernel_rfl))
  f285 := Tryz.func141.trans (congrArg some (by kernel_rfl))
  f286 := Tryz.func142.trans (congrArg some (by kernel_rfl))
  f317 := Tryz.func166.trans (congrArg some (by kernel_rfl))
  f318 := Tryz.func167.trans (congrArg some (by kernel_rfl))
  f319 := Tryz.func168.trans (congrArg some (by kernel_rfl))
  f320 := Tryz.func169.trans (congrArg some (by kernel_rfl))
  f337 := Tryz.func181.trans (congrArg some (by kernel_rfl))
  f338 := Tryz.func182.trans (congrArg some (by kernel_rfl))
  t0 := Tryz.underlying0
  a0 := Tryz.isAgg0
  z0 := Tryz.sizeOf0
  v0 := Tryz.zeroValue0
  t2 := Tryz.underlying2
  a2 := Tryz.isAgg2
  z2 := Tryz.sizeOf2
  v2 := Tryz.zeroValue2
  t3 := Tryz.underlying3
  a3 := Tryz.isAgg3
  z3 := Tryz.sizeOf3
  v3 := Tryz.zeroValue3
  t4 := Tryz.underlying4
  a4 := Tryz.isAgg4
  z4 := Tryz.sizeOf4
  v4 := Tryz.zeroValue4
  t5 := Tryz.underlying5
  a5 := Tryz.isAgg5
  z5 := Tryz.sizeOf5
  v5 := Tryz.zeroValue5
  t9 := Tryz.underlying9
  a9 := Tryz.isAgg9
  z9 := Tryz.sizeOf9
  v9 := Tryz.zeroValue9
  t20 := Tryz.underlying20
  a20 := Tryz.isAgg20
  z20 := Tryz.sizeOf20
  v20 := Tryz.zeroValue20
  t37 := Tryz.underlying96
  a37 := Tryz.isAgg96
  z37 := Tryz.sizeOf96
  v37 := Tryz.zeroValue96
  t46 := Tryz.underlying219
  a46 := Tryz.isAgg219
  z46 := Tryz.sizeOf219
  v46 := Tryz.zeroValue219
  t51 := Tryz.underlying241
  a51 := Tryz.isAgg241
  z51 := Tryz.sizeOf241
  v51 := Tryz.zeroValue241
  t53 := Tryz.underlying224
  a53 := Tryz.isAgg224
  z53 := Tryz.sizeOf224
  v53 := Tryz.zeroValue224
  t171 := Tryz.underlying223
  a171 := Tryz.isAgg223
  z171 := Tryz.sizeOf223
  v171 := Tryz.zeroValue223
  t173 := Tryz.underlying227
  a173 := Tryz.isAgg227
  z173 := Tryz.sizeOf227
  v173 := Tryz.zeroValue227
  t212 := Tryz.underlying243
  a212 := Tryz.isAgg243
  z212 := Tryz.sizeOf243
  v212 := Tryz.zeroValue243
  t213 := Tryz.underlying244
  a213 := Tryz.isAgg244
  z213 := Tryz.sizeOf244
  t232 := Tryz.underlying260
  a232 := Tryz.isAgg260
  z232 := Tryz.sizeOf260
  v232 := Tryz.zeroValue260
  t233 := Tryz.underlying261
  a233 := Tryz.isAgg261
  z233 := Tryz.sizeOf261
  v233 := Tryz.zeroValue261
  g17 := by kernel_rfl
  g18 := by kernel_rfl
  g19 := by kernel_rfl
  i0 := by kernel_rfl
  i2 := by kernel_rfl
  i3 := by kernel_rfl
  i4 := by kernel_rfl
  i5 := by kernel_rfl
  i9 := by kernel_rfl
  i20 := by kernel_rfl
  i37 := by kernel_rfl
  i46 := by kernel_rfl
  i51 := by kernel_rfl
  i53 := by kernel_rfl
  i171 := by kernel_rfl
  i173 := by kernel_rfl
  i212 := by kernel_rfl
  i232 := by kernel_rfl
  i233 := by kernel_rfl
  m17 := by kernel_rfl
  m18 := by kernel_rfl
  m19 := by kernel_rfl }
open Go.RowKit Go.Sort Go.Lib in
/-- strconv.Itoa: "Itoa is equivalent to FormatInt(int64(i), 10).": i's DECIMAL NUMERAL ('Lib.itoa': a '-' where i is negative, then the digits), FOR EVERY int. The world behind the call: the world before it, new blocks behind the heap (the library's 'var a [24]byte'), draws. (LAID: no walk: one application.) -/
theorem Tryz.strconv_Itoa (n : Int) (h0 : -9223372036854775808 ≤ n) (h1 : n ≤ 9223372036854775807) (w : World) (htab : Lib.TabIs Tryz.prog w "internal/strconv.uint64pow10" .u64 Lib.pow10Tab) :
    Calls Tryz.prog 39 #[.int .i64 n] w fun e w' => e = .returned (.string ⟨(Lib.itoa n).toArray⟩) ∧ ∃ k os, w' = grow (w.drewN k) os := Any.strconv_Itoa Tryz.laysM171 n h0 h1 w htab
def Tryz.lays189_ren : Go.Shelf.Ren := ⟨fun | 189 => 112 | 125 => 134 | 257 => 133 | 128 => 164 | 129 => 165 | 294 => 155 | 295 => 156 | 296 => 157 | 297 => 158 | 298 => 159 | 299 => 160 | 216 => 161 | 300 => 162 | 301 => 163 | 328 => 175 | 329 => 176 | 330 => 177 | 331 => 178 | 332 => 179 | 215 => 180 | 343 => 185 | n => n, fun | 28 => 45 | 3 => 3 | 46 => 219 | 0 => 0 | 51 => 241 | 53 => 224 | 4 => 4 | 183 => 234 | 182 => 233 | 131 => 116 | 5 => 5 | 9 => 9 | 218 => 245 | 222 => 249 | 228 => 257 | 229 => 258 | n => n, fun | n => n⟩
theorem Tryz.lays189 : Go.Proofs.Lays.n189 Tryz.prog Tryz.lays189_ren := {
  mixed := by kernel_rfl
  f125 := Tryz.func134.trans (congrArg some (by kernel_rfl))
  f128 := Tryz.func164.trans (congrArg some (by kernel_rfl))
  f129 := Tryz.func165.trans (congrArg some (by kernel_rfl))
  f189 := Tryz.func112.trans (congrArg some (by kernel_rfl))
  f215 := Tryz.func180.trans (congrArg some (by kernel_rfl))
  f216 := Tryz.func161.trans (congrArg some (by kernel_rfl))
  f257 := Tryz.func133.trans (congrArg some (by kernel_rfl))
  f294 := Tryz.func155.trans (congrArg some (by kernel_rfl))
  f295 := Tryz.func156.trans (congrArg some (by kernel_rfl))
  f296 := Tryz.func157.trans (congrArg some (by kernel_rfl))
  f297 := Tryz.func158.trans (congrArg some (by kernel_rfl))
  f298 := Tryz.func159.trans (congrArg some (by kernel_rfl))
  f299 := Tryz.func160.trans (congrArg some (by kernel_rfl))
  f300 := Tryz.func162.trans (congrArg some (by kernel_rfl))
  f301 := Tryz.func163.trans (congrArg some (by kernel_rfl))
  f328 := Tryz.func175.trans (congrArg some (by kernel_rfl))
  f329 := Tryz.func176.trans (congrArg some (by kernel_rfl))
  f330 := Tryz.func177.trans (congrArg some (by kernel_rfl))
  f331 := Tryz.func178.trans (congrArg some (by kernel_rfl))
  f332 := Tryz.func179.trans (congrArg some (by kernel_rfl))
  f343 := Tryz.func185.trans (congrArg some (by kernel_rfl))
  t0 := Tryz.underlying0
  a0 := Tryz.isAgg0
  z0 := Tryz.sizeOf0
  v0 := Tryz.zeroValue0
  t3 := Tryz.underlying3
  a3 := Tryz.isAgg3
  z3 := Tryz.sizeOf3
  v3 := Tryz.zeroValue3
  t4 := Tryz.underlying4
  a4 := Tryz.isAgg4
  z4 := Tryz.sizeOf4
  v4 := Tryz.zeroValue4
  t5 := Tryz.underlying5
  a5 := Tryz.isAgg5
  z5 := Tryz.sizeOf5
  v5 := Tryz.zeroValue5
  t9 := Tryz.underlying9
  a9 := Tryz.isAgg9
  z9 := Tryz.sizeOf9
  v9 := Tryz.zeroValue9
  t28 := Tryz.underlying45
  a28 := Tryz.isAgg45
  z28 := Tryz.sizeOf45
  v28 := Tryz.zeroValue45
  t46 := Tryz.underlying219
  a46 := Tryz.isAgg219
  z46 := Tryz.sizeOf219
  v46 := Tryz.zeroValue219
  t51 := Tryz.underlying241
  a51 := Tryz.isAgg241
  z51 := Tryz.sizeOf241
  v51 := Tryz.zeroValue241
  t53 := Tryz.underlying224
  a53 := Tryz.isAgg224
  z53 := Tryz.sizeOf224
  v53 := Tryz.zeroValue224
  t131 := Tryz.underlying116
  a131 := Tryz.isAgg116
  z131 := Tryz.sizeOf116
  v131 := Tryz.zeroValue116
  t182 := Tryz.underlying233
  a182 := Tryz.isAgg233
  z182 := Tryz.sizeOf233
  v182 := Tryz.zeroValue233
  t183 := Tryz.underlying234
  a183 := Tryz.isAgg234
  z183 := Tryz.sizeOf234
  v183 := Tryz.zeroValue234
  t218 := Tryz.underlying245
  a218 := Tryz.isAgg245
  z218 := Tryz.sizeOf245
  v218 := Tryz.zeroValue245
  t222 := Tryz.underlying249
  a222 := Tryz.isAgg249
  z222 := Tryz.sizeOf249
  v222 := Tryz.zeroValue249
  t228 := Tryz.underlying257
  a228 := Tryz.isAgg257
  z228 := Tryz.sizeOf257
  v228 := Tryz.zeroValue257
  t229 := Tryz.underlying258
  a229 := Tryz.isAgg258
  z229 := Tryz.sizeOf258
  v229 := Tryz.zeroValue258 }

end Go.Proofs
end

section
set_option linter.all false
set_option maxRecDepth 1000000
namespace Go.Tw
open Go.Vx Go.Vx.B Go.Proofs Go.RowKit

theorem y27 (f : FuncId) (fn : Func) (h : Tryz.prog.funcs[f]? = some fn) (hn : (fn.name == "runtime.NumGoroutine") = false) (hb : fn.body.isNone = false) : Vx.y3R Tryz.prog f := ⟨fn, h, hn, hb⟩

theorem yQy : yGn Tryz.prog 85 98 := by
  refine ⟨y27 85 Tryz.f85 (by kernel_rfl) (by kernel_rfl) (by kernel_rfl), fun w b p v hg hp => ?_⟩
  rcases hp with rfl | rfl
  · refine (Any.Builder_copyCheck_fresh Tryz.lays240 Tryz.x72_240 b w (by simp [World.cell?, hg]) (by simp [World.shape?, hg]; rfl) (by simp [World.frozen?, hg])).mono ?_
    rintro e w' ⟨rfl, rfl⟩
    refine ⟨rfl, ?_, fun n hn => ?_, ?_, rfl, rfl, rfl⟩
    · simp [World.setCell, Array.getElem?_modify, hg]
    · simp only [World.setCell, Array.getElem?_modify]
      rw [if_neg (fun e => hn e.symm)]
    · simp [World.setCell]
  · refine (Any.Builder_copyCheck_used Tryz.lays240 Tryz.x72_240 b w (by simp [World.cell?, hg])).mono ?_
    rintro e w' ⟨rfl, rfl⟩
    exact ⟨rfl, hg, fun _ _ => rfl, rfl, rfl, rfl, rfl⟩

noncomputable def yJu (n : Int) : Option (List UInt8 × Unit) := bif decide (-9223372036854775808 ≤ n) && decide (n ≤ 9223372036854775807) then some (Lib.itoa n, ()) else none
noncomputable def z0V_e : Entry := { f := 39, args := .pair t3 .unit, rS := .pair .str .unit, m := fun x => yJu x.1 }

theorem y9P (w : World) {A : Nat → Prop} (hG : GlobOK A w) : Lib.TabIs Tryz.prog w "internal/strconv.uint64pow10" .u64 Lib.pow10Tab := by
  obtain ⟨_, _, t, f, h⟩ := hG.tab (GT.gl.getD 2 default) (by show _ ∈ GT.gl; exact List.mem_of_getElem? (i := 2) rfl)
  unfold Lib.TabIs World.var?
  rw [show Tryz.prog.globalNamed "internal/strconv.uint64pow10" = some 1 by kernel_rfl]
  simp only [Option.bind_some]
  rw [show w.heap[1]? = _ from h]
  rfl

theorem yQ5 : FnOK Tryz.prog z0V_e := by
  refine ⟨y27 39 Tryz.f39 (by kernel_rfl) (by kernel_rfl) (by kernel_rfl), fun A w x l y hG hA hx hm => ?_, fun q h => (by cases h), fun q h => (by cases h)⟩
  obtain ⟨n, u⟩ := x
  simp only [z0V_e, y5] at hx
  obtain ⟨l1, l2, rfl, rfl, rfl⟩ := hx
  simp only [z0V_e, yJu] at hm
  cases hb : (decide (-9223372036854775808 ≤ n) && decide (n ≤ 9223372036854775807)) with
  | false => rw [hb] at hm; cases hm
  | true =>
    rw [hb] at hm
    cases hm
    simp only [Bool.and_eq_true, decide_eq_true_eq] at hb
    refine (Tryz.strconv_Itoa n hb.1 hb.2 w (y9P w hG)).mono ?_
    rintro e w' ⟨rfl, k, os, rfl⟩
    exact ⟨[.string ⟨(Lib.itoa n).toArray⟩], rfl, ⟨_, [], rfl, rfl, rfl⟩, Lib.below_grow w.heap.size w (Nat.le_refl _) k os⟩

noncomputable def yDL (xs : List (List UInt8)) (sep : List UInt8) : Option (List UInt8 × Unit) :=
  bif decide (xs.length ≤ 140737488355328) && decide ((Lib.join xs sep).length ≤ 140737488355328) then some (Lib.join xs sep, ()) else none
noncomputable def z0W_e : Entry := { f := 38, args := .pair (.slice .str) (.pair .str .unit), rS := .pair .str .unit, m := fun x => yDL x.1 x.2.1 }

theorem yOo : FnOK Tryz.prog z0W_e := by
  refine ⟨y27 38 Tryz.f38 (by kernel_rfl) (by kernel_rfl) (by kernel_rfl), fun A w x l y hG hA hx hm => ?_, fun q h => (by cases h), fun q h => (by cases h)⟩
  obtain ⟨xs, sep, u⟩ := x
  obtain ⟨l1, l2, rfl, ⟨p, c, rfl, hc1, hc2, hel⟩, l3, l4, rfl, rfl, rfl⟩ := hx
  change yDL xs sep = some y at hm
  unfold yDL at hm
  cases hb : (decide (List.length xs ≤ 140737488355328) && decide ((Lib.join xs sep).length ≤ 140737488355328)) with
  | false => rw [hb] at hm; cases hm
  | true =>
    rw [hb] at hm
    cases hm
    simp only [Bool.and_eq_true, decide_eq_true_eq] at hb
    show Calls Tryz.prog 38 #[.slice p (List.length xs) c, .string ⟨sep.toArray⟩] w _
    cases xs with
    | nil =>
      refine (Tryz.strings_Join_none p c ⟨sep.toArray⟩ w).mono ?_
      rintro e w' ⟨rfl, rfl⟩
      exact ⟨[.string ⟨#[]⟩], rfl, ⟨_, [], rfl, rfl, rfl⟩, Below.refl _ _⟩
    | cons x0 xs =>
      obtain ⟨ad, l0, rfl, hsp, _, hlt, _⟩ := hel 0 x0 rfl
      obtain ⟨bk, o, sp⟩ := ad
      simp only at hsp hlt
      subst hsp
      have e1 : (((x0 :: xs).map fun s => (⟨s.toArray⟩ : ByteArray)).map (·.data.toList)) = x0 :: xs := by simp [List.map_map, Function.comp_def]
      have e2 : ((x0 :: xs).map fun s => (⟨s.toArray⟩ : ByteArray)).length = List.length (x0 :: xs) := by simp
      have h := Tryz.strings_Join bk o c ((x0 :: xs).map fun s => (⟨s.toArray⟩ : ByteArray)) ⟨sep.toArray⟩ w (fun j x hj => by
        rw [List.getElem?_map, Option.map_eq_some_iff] at hj
        obtain ⟨s, hs, rfl⟩ := hj
        obtain ⟨a1, l', e, _, _, _, h1, h2⟩ := hel j s hs
        cases e
        simp only [y5] at h2
        subst h2
        have := h1 0 _ rfl
        simpa [Ty.size] using this) hlt (by rw [e2]; exact hb.1) (by rw [e2]; exact hc1) (by rw [e1]; exact hb.2)
      rw [e1, e2] at h
      refine h.mono ?_
      rintro e w' ⟨rfl, hbl⟩
      exact ⟨[.string ⟨(Lib.join (x0 :: xs) sep).toArray⟩], rfl, ⟨_, [], rfl, rfl, rfl⟩, hbl⟩

theorem yC3 (w : World) (n : Nat) (os : Array Obj) : Below w.heap.size w (Sort.grow (Sort.ahead w n) os) :=
  ⟨rfl, rfl, rfl, by show w.heap.size ≤ (w.heap ++ os).size; rw [Array.size_append]; omega, fun _ hj => Sort.heap_grow_old (Sort.ahead w n) os hj⟩

theorem yMs : yH8 Tryz.prog 112 := by
  refine ⟨y27 112 Tryz.f112 (by kernel_rfl) (by kernel_rfl) (by kernel_rfl), fun w blk cap xs rest e h0 hb hl => ?_⟩
  cases blk with
  | none =>
    obtain ⟨rfl, rfl⟩ := h0 rfl
    refine (Any.slices_Sort_int_none Tryz.lays189 none 0 w).mono ?_
    rintro ex w' ⟨rfl, rfl⟩
    exact ⟨rfl, w', rfl, fun _ _ => rfl, fun b hb => (by cases hb), rfl, rfl, rfl, Below.refl _ _⟩
  | some b =>
    have hg := hb b rfl
    have hlt : b < w.heap.size := yG hg
    have hH : Sort.Holds (Value.int .i64) w b 0 xs.toArray := fun j hj => by
      have hj' : j < xs.length := by simpa using hj
      refine ⟨?_, by simp [World.frozen?, hg]⟩
      have e1 : (xs.toArray)[j]! = xs[j] := by rw [getElem!_pos _ j hj]; simp
      simp only [World.cell?, hg, e1, Nat.zero_add]
      simp [List.getElem?_append_left, hj']
    refine (Any.slices_Sort_int Tryz.lays189 b 0 cap xs w hH hlt (by simp only [memMax] at hl; omega)).mono ?_
    rintro ex w' ⟨rfl, n, os, rfl⟩
    rw [yCp]
    have hsz : (Sort.putRow (Value.int .i64) w b 0 (y3f xs).toArray).heap.size = w.heap.size := by simp [Sort.putRow, Sort.mapBlock]
    refine ⟨rfl, Sort.putRow (Value.int .i64) w b 0 (y3f xs).toArray, hsz, fun m hm => ?_, fun b' hb' => ?_, rfl, rfl, rfl, ?_⟩
    · simp only [Sort.putRow, Sort.mapBlock, Array.getElem?_modify]
      rw [if_neg (fun e => hm (by rw [e]))]
    · cases hb'
      have hlen : (y3f xs).length = xs.length := (y4X xs).length_eq
      simp only [Sort.putRow, Sort.mapBlock, Array.getElem?_modify, if_true, hg, Option.map_some, Sort.onCells]
      congr 2
      apply Array.ext_getElem?
      intro k
      simp only [Sort.putCells, Array.getElem?_mapIdx, List.getElem?_toArray, List.size_toArray, Nat.zero_add, Nat.zero_le, true_and, Nat.sub_zero]
      by_cases hk : k < (y3f xs).length
      · rw [List.getElem?_append_left (by simpa using by omega), List.getElem?_append_left (by simpa using hk)]
        simp only [List.getElem?_map]
        rw [List.getElem?_eq_getElem (by omega : k < xs.length), List.getElem?_eq_getElem hk]
        simp only [Option.map_some, if_pos hk]
        congr 2
        rw [getElem!_pos _ k (by simpa using hk)]
        simp
      · rw [List.getElem?_append_right (by simp; omega), List.getElem?_append_right (by simp; omega)]
        simp only [List.length_map, hlen]
        cases rest[k - xs.length]? with
        | none => rfl
        | some v =>
          simp only [Option.map_some]
          rw [if_neg (by omega)]
    · exact yC3 (Sort.putRow (Value.int .i64) w b 0 (y3f xs).toArray) n os

/-! ### slices.Clone -/
noncomputable def z7_e : Entry := { f := 116, args := .pair t57 .unit, rS := .pair t57 .unit, m := fun x => bif decide (List.length x.1 ≤ memMax) then some (x.1, ()) else none, own := some (56, t56) }

set_option maxHeartbeats 2000000 in
theorem yGX (i0 : TypeInfo) (z : Value) (hi : Tryz.prog.info? 56 = some i0) (hz0 : i0.zero = some z) (hz1 : i0.size = 2) (hzs : z.cells.size = 2)
    (hz2 : i0.bytes ≤ 2048) (p : Addr) (n c : Nat) (news : List Value) (w : World) (hl : news.length = n * 2) (hn : n ≤ memMax)
    (hc : ∀ j u, news[j]? = some u → w.cell? (p.add j) = some u) (h1 : ∀ u ∈ news, u.oneCell' = true) :
    Calls Tryz.prog 116 #[.slice (some p) n c] w fun e w' => ∃ v', e = .returned v' ∧ w'.ownsRow w.heap.size 56 2 v' n news ∧ Below w.heap.size w w' := by
  have hmx : n ≤ maxLen := by simp only [memMax] at hn; simp only [maxLen]; omega
  have hbig : n * i0.bytes ≤ 140737488355328 := by
    have : n * i0.bytes ≤ 68719476736 * 2048 := Nat.mul_le_mul hn hz2
    omega
  have A : Aside (∀ j u, news[j]? = some u → w.cell? (p.add j) = some u) := hc
  clear hc
  have mixed := y0I
  have u57 := Tryz.underlying57; have a57 := Tryz.isAgg57; have z57 := Tryz.sizeOf57; have v57 := Tryz.zeroValue57
  have u4 := Tryz.underlying4; have a4 := Tryz.isAgg4; have z4 := Tryz.sizeOf4; have v4 := Tryz.zeroValue4
  have q57 : ∀ (w : World) (a : Option Addr) (n c n' c' : Nat), (binOp .eql 57 (.slice a n c) (.slice none n' c')).run Tryz.prog w = .ok (.bool a.isNone) w := fun w a n c n' c' => Lib.run_eql_slice_nil w _ _ a n c n' c' Tryz.underlying57
  have r57 : ∀ w, Sem.run Tryz.prog (underlying 57) w = .ok (TypeDesc.slice 56) w := run_underlying Tryz.underlying57
  go_enter Tryz.func116, Tryz.ntmps116
  go_wp2_with (at_builtin; refine wpList_append_own _ rfl _ _ 57 rfl w.heap.size 56 i0 z 2 i0.bytes Tryz.underlying57 hi hz0 hz1 rfl hzs (by decide) _ _ _ rfl (World.ownsRow_made w #[] 0 (Nat.le_refl _) (Nat.zero_le _) (by simp)) p n c news rfl ?qc1 ?qc2 ?qc3 ?qc4 ?qc5 ?qc6 ?_)
  case qc1 => exact hl
  case qc2 =>
    intro j u hj
    exact Lib.cell?_alloc_some _ (A.out j u hj)
  case qc3 => exact h1
  case qc4 => rw [Nat.zero_add]; exact hmx
  case qc5 => rw [Nat.zero_add]; exact hbig
  case qc6 => simp
  intro v' w1 hown hgrow hnil
  go_wp2
  go_ret
  refine ⟨v', rfl, by simpa using hown, ?_⟩
  exact ((Below.refl _ w).alloc (Nat.le_refl _) _).grown hgrow (by simp) (by intro k hk; simp [Value.ownBlock] at hk; omega)

theorem yGb (n c : Nat) (w : World) : Calls Tryz.prog 116 #[.slice none n c] w fun e w' => e = .returned (.slice none 0 0) ∧ w' = w := by
  have mixed := y0I
  have u57 := Tryz.underlying57; have a57 := Tryz.isAgg57; have z57 := Tryz.sizeOf57; have v57 := Tryz.zeroValue57
  have u4 := Tryz.underlying4; have a4 := Tryz.isAgg4; have z4 := Tryz.sizeOf4; have v4 := Tryz.zeroValue4
  have q57 : ∀ (w : World) (a : Option Addr) (n c n' c' : Nat), (binOp .eql 57 (.slice a n c) (.slice none n' c')).run Tryz.prog w = .ok (.bool a.isNone) w := fun w a n c n' c' => Lib.run_eql_slice_nil w _ _ a n c n' c' Tryz.underlying57
  have r57 : ∀ w, Sem.run Tryz.prog (underlying 57) w = .ok (TypeDesc.slice 56) w := run_underlying Tryz.underlying57
  go_enter Tryz.func116, Tryz.ntmps116
  go_wp2
  go_ret
  exact ⟨rfl, rfl⟩

theorem yR3 : ∃ (inf : TypeInfo) (z : Value), Tryz.prog.info? 56 = some inf ∧ inf.zero = some z ∧ inf.size = 2 ∧ z.cells.size = 2 ∧ inf.bytes ≤ 2048 := by
  obtain ⟨hu, hF, hs0⟩ := yK (u := t56) (y1i.shape (t := 57) (i := { ty := t57, elem := 56, fields := [] }) (by kernel_rfl)) (.inl rfl)
  obtain ⟨inf, d, f1, f2, f3, f4, f5, f6⟩ := hF.ex
  refine ⟨inf, _, f1, f6, f3, ?_, f4⟩
  rw [y1f (yq _) (y34 _), List.size_toArray, yq]
  rfl

theorem yCg : yPq Tryz.prog 116 (56, t56) := by
  intro w p n c news hl hn hp hc h1
  obtain ⟨inf, z, i1, i2, i3, i4, i5⟩ := yR3
  cases p with
  | none =>
    have h0 := hp rfl
    subst h0
    have hnews : news = [] := List.eq_nil_of_length_eq_zero (by simpa using hl)
    subst hnews
    refine (yGb 0 c w).mono ?_
    rintro e w' ⟨rfl, rfl⟩
    exact ⟨_, rfl, World.ownsRow_nil w' _ 56 _, Below.refl _ _⟩
  | some a => exact yGX inf z i1 i2 i3 i4 i5 a n c news w hl hn (fun j u hj => hc a rfl j u hj) h1

theorem yRl : FnOK Tryz.prog z7_e := by
  refine ⟨y27 116 Tryz.f116 (by kernel_rfl) (by kernel_rfl) (by kernel_rfl), fun A w x l y hG hA hx hm => ?_, fun q hq => ?_, fun q hq => by cases hq⟩
  · obtain ⟨xs, u⟩ := x
    obtain ⟨l1, l2, rfl, hx1, rfl⟩ := hx
    change (bif decide (List.length xs ≤ memMax) then some (xs, ()) else none) = some y at hm
    cases hb : decide (List.length xs ≤ memMax) with
    | false => rw [hb] at hm; cases hm
    | true =>
      rw [hb] at hm
      cases hm
      have hle := of_decide_eq_true hb
      obtain ⟨p, c, m, rfl, hp0, hpc, hml, hmx, hmc⟩ : ∃ (p : Option Addr) (c : Nat) (m : List Value), l1 = [.slice p (List.length xs) c] ∧ (p = none → List.length xs = 0) ∧ (∀ ad, p = some ad → ∀ j v, m[j]? = some v → w.cell? (ad.add j) = some v) ∧
          m.length = List.length xs * t56.size ∧ (∀ v ∈ m, v.oneCell' = true) ∧ ∀ (i : Nat) (x : t56.den), (xs : List t56.den)[i]? = some x → y5 Tryz.prog t56 A w x ((m.drop (i * t56.size)).take t56.size) := by
        rcases y02 hx1 with ⟨rfl, p, c, rfl⟩ | ⟨b1, off, c, m, rfl, hm1, hm2⟩
        · exact ⟨p, c, [], rfl, fun _ => rfl, fun _ _ j v hj => by simp at hj, by simp, fun v hv => by simp at hv, fun i x hx => by simp at hx⟩
        · refine ⟨some ⟨b1, off, none⟩, c, m, rfl, (fun hp => by cases hp), fun ad had j v hj => ?_, hm2.length, fun v hv => ye (y5.plain hm2 v hv), fun i x hx => ?_⟩
          · cases had
            rw [y01]
            exact hm1 j v hj
          · simp only [y5] at hm2
            exact hm2.2.2 i x hx
      refine (show Calls Tryz.prog 116 #[.slice p (List.length xs) c] w _ from yCg w p (List.length xs) c m hml hle hp0 hpc hmx).mono ?_
      rintro ex w' ⟨v', rfl, ⟨_, hown⟩, hB⟩
      refine ⟨[v'], ?_, ⟨[v'], [], rfl, ?_, rfl⟩, hB⟩
      · rfl
      rcases hown with ⟨rfl, hn0⟩ | ⟨gb, cap, cur, rfl, hgb, hg, hnc, hcm, hcs2, htk⟩
      · have hys : xs = ([] : List t56.den) := List.eq_nil_of_length_eq_zero hn0
        subst hys
        exact ⟨none, 0, rfl, Nat.le_refl _, Nat.zero_le _, fun i x hi => by simp at hi⟩
      · refine ⟨some ⟨gb, 0, none⟩, cap, rfl, hnc, hcm, fun i x hi => ?_⟩
        have hi1 : i < List.length xs := (List.getElem?_eq_some_iff.1 hi).1
        have hsz : i * t56.size + t56.size ≤ List.length xs * t56.size := by rw [← Nat.succ_mul]; exact Nat.mul_le_mul_right _ hi1
        refine ⟨⟨gb, 0, none⟩, (m.drop (i * t56.size)).take t56.size, rfl, rfl, fun h => Nat.lt_irrefl _ (Nat.lt_of_lt_of_le (hA _ h) hgb), yG hg, fun j v hj => ?_, (hmc i x hi).mono (fun n hn _ => hB.block n hn) (fun n hn h => h)⟩
        have hj2 : j < t56.size := by
          have := (List.getElem?_eq_some_iff.1 hj).1
          simp only [List.length_take] at this
          omega
        rw [List.getElem?_take, if_pos hj2, List.getElem?_drop, ← htk, List.getElem?_take, if_pos (by show _ < List.length xs * t56.size; omega)] at hj
        simp only [World.cell?, hg]
        rw [Nat.zero_add, ← Array.getElem?_toList]
        exact hj
  · cases hq
    exact yCg

/-! ### The examples' chart -/
noncomputable def yNI : Cha := ([([(119 : UInt8), (111 : UInt8), (114 : UInt8), (107 : UInt8)], (-1 : Int), (1 : Int), Bool.false, ()), ([(111 : UInt8), (112 : UInt8), (101 : UInt8), (110 : UInt8)], (0 : Int), (-1 : Int), Bool.false, ()), ([(108 : UInt8), (111 : UInt8), (119 : UInt8), (101 : UInt8), (114 : UInt8)], (0 : Int), (-1 : Int), Bool.true, ()), ([(99 : UInt8), (108 : UInt8), (111 : UInt8), (115 : UInt8), (101 : UInt8), (100 : UInt8)], (0 : Int), (-1 : Int), Bool.false, ()), ([(97 : UInt8), (108 : UInt8), (97 : UInt8), (114 : UInt8), (109 : UInt8)], (-1 : Int), (-1 : Int), Bool.false, ())], [((1 : Int), [(99 : UInt8), (108 : UInt8), (111 : UInt8), (115 : UInt8), (101 : UInt8)], (2 : Int), (1 : Int), (0 : Int), ()), ((2 : Int), [(100 : UInt8), (111 : UInt8), (110 : UInt8), (101 : UInt8)], (3 : Int), (0 : Int), (0 : Int), ()), ((3 : Int), [(111 : UInt8), (112 : UInt8), (101 : UInt8), (110 : UInt8)], (1 : Int), (0 : Int), (0 : Int), ()), ((0 : Int), [(102 : UInt8), (97 : UInt8), (105 : UInt8), (108 : UInt8)], (4 : Int), (0 : Int), (0 : Int), ())], ())

theorem y6i {P : Program} {A : Nat → Prop} {w : World} {u : Ty} {xs : List u.den} {l : List Value} {b : Nat} {e : TypeId} (hg : w.heap[b]? = some (.cells l.toArray e (0, 0))) (hA : ¬ A b) (hm : xs.length ≤ maxLen)
    (hc : y5 P (.arr xs.length u) A w xs l) : y5 P (.slice u) A w xs [.slice (some ⟨b, 0, none⟩) xs.length xs.length] := by
  have hlen := hc.length
  simp only [y5] at hc ⊢
  refine ⟨_, _, rfl, Nat.le_refl _, hm, fun i x hi => ?_⟩
  refine ⟨⟨b, 0, none⟩, (l.drop (i * u.size)).take u.size, rfl, rfl, hA, yG hg, fun j v hj => ?_, hc.2.2 i x hi⟩
  have hj2 : j < u.size := by
    have := (List.getElem?_eq_some_iff.1 hj).1
    simp only [List.length_take] at this
    omega
  rw [List.getElem?_take, if_pos hj2, List.getElem?_drop] at hj
  simp only [World.cell?, hg]
  rw [Nat.zero_add]
  simpa using hj

theorem yNt (w : World) (o0 o1 o2 : Obj) : (((w.alloc o0).alloc o1).alloc o2).heap[w.heap.size + 1]? = some o1 := by
  have h1 : (w.alloc o0).heap.size = w.heap.size + 1 := size_alloc ..
  rw [heap_alloc_old ((w.alloc o0).alloc o1) o2 (r := w.heap.size + 1) (by rw [size_alloc, size_alloc]; omega), ← h1]
  exact heap_alloc_new (w.alloc o0) o1

theorem yLw (w : World) (o0 o1 o2 : Obj) : (((w.alloc o0).alloc o1).alloc o2).heap[w.heap.size + 1 + 1]? = some o2 := by
  have h1 : ((w.alloc o0).alloc o1).heap.size = w.heap.size + 1 + 1 := by rw [size_alloc, size_alloc]
  rw [← h1]
  exact heap_alloc_new ((w.alloc o0).alloc o1) o2

theorem yD5 (w : World) (o0 o1 o2 : Obj) : Below w.heap.size w (((w.alloc o0).alloc o1).alloc o2) :=
  (((Below.refl _ w).alloc (Nat.le_refl _) _).alloc (by rw [size_alloc]; omega) _).alloc (by rw [size_alloc, size_alloc]; omega) _

set_option maxHeartbeats 4000000 in
theorem yMn : ExOK Tryz.prog 16 ⟨t34, yNI⟩ := by
  intro A w hG hA
  have mixed := y0I
  have u3 := Tryz.underlying3; have a3 := Tryz.isAgg3; have z3 := Tryz.sizeOf3; have v3 := Tryz.zeroValue3
  have u4 := Tryz.underlying4; have a4 := Tryz.isAgg4; have z4 := Tryz.sizeOf4; have v4 := Tryz.zeroValue4
  have u9 := Tryz.underlying9; have a9 := Tryz.isAgg9; have z9 := Tryz.sizeOf9; have v9 := Tryz.zeroValue9
  have u31 := Tryz.underlying31; have a31 := Tryz.isAgg31; have z31 := Tryz.sizeOf31; have v31 := Tryz.zeroValue31
  have u32 := Tryz.underlying32; have a32 := Tryz.isAgg32; have z32 := Tryz.sizeOf32; have v32 := Tryz.zeroValue32
  have u34 := Tryz.underlying34; have a34 := Tryz.isAgg34; have z34 := Tryz.sizeOf34; have v34 := Tryz.zeroValue34
  have u65 := Tryz.underlying65; have a65 := Tryz.isAgg65; have z65 := Tryz.sizeOf65; have v65 := Tryz.zeroValue65
  have u105 := Tryz.underlying105; have a105 := Tryz.isAgg105; have z105 := Tryz.sizeOf105; have v105 := Tryz.zeroValue105
  have u33 := Tryz.underlying33; have a33 := Tryz.isAgg33; have z33 := Tryz.sizeOf33; have v33 := Tryz.zeroValue33
  go_enter Tryz.func16, Tryz.ntmps16
  go_wp2
  refine bodyPost_ret (v := .agg #[.slice (some ⟨w.heap.size + 1, 0, none⟩) 5 5, .slice (some ⟨w.heap.size + 1 + 1, 0, none⟩) 4 4]) (by simp [results, show Tryz.f16.results = #[.cell 0 34] from rfl, go_sem]) rfl ?_
  refine ⟨[.slice (some ⟨w.heap.size + 1, 0, none⟩) 5 5, .slice (some ⟨w.heap.size + 1 + 1, 0, none⟩) 4 4], rfl, ?_, ?_, ?_⟩
  · refine ⟨[_], [_], rfl, ?_, [_], [], rfl, ?_, rfl⟩
    · refine y6i (b := w.heap.size + 1) (e := 105) (l := [.string ⟨#[119, 111, 114, 107]⟩, .int .i64 (-1), .int .i64 1, .bool false, .string ⟨#[111, 112, 101, 110]⟩, .int .i64 0, .int .i64 (-1), .bool false, .string ⟨#[108, 111, 119, 101, 114]⟩, .int .i64 0, .int .i64 (-1), .bool true, .string ⟨#[99, 108, 111, 115, 101, 100]⟩, .int .i64 0, .int .i64 (-1), .bool false, .string ⟨#[97, 108, 97, 114, 109]⟩, .int .i64 (-1), .int .i64 (-1), .bool false]) (yNt w _ _ _) (fun h => by have := hA _ h; omega) (by decide) ⟨rfl, rfl, fun i x hi => ?_⟩
      match i, hi with
      | 0, hi => cases hi; exact ⟨[_], _, rfl, rfl, [_], _, rfl, rfl, [_], _, rfl, rfl, [_], _, rfl, rfl, rfl⟩
      | 1, hi => cases hi; exact ⟨[_], _, rfl, rfl, [_], _, rfl, rfl, [_], _, rfl, rfl, [_], _, rfl, rfl, rfl⟩
      | 2, hi => cases hi; exact ⟨[_], _, rfl, rfl, [_], _, rfl, rfl, [_], _, rfl, rfl, [_], _, rfl, rfl, rfl⟩
      | 3, hi => cases hi; exact ⟨[_], _, rfl, rfl, [_], _, rfl, rfl, [_], _, rfl, rfl, [_], _, rfl, rfl, rfl⟩
      | 4, hi => cases hi; exact ⟨[_], _, rfl, rfl, [_], _, rfl, rfl, [_], _, rfl, rfl, [_], _, rfl, rfl, rfl⟩
      | n + 5, hi => cases hi
    · refine y6i (b := w.heap.size + 1 + 1) (e := 65) (l := [.int .i64 1, .string ⟨#[99, 108, 111, 115, 101]⟩, .int .i64 2, .int .i64 1, .int .i64 0, .int .i64 2, .string ⟨#[100, 111, 110, 101]⟩, .int .i64 3, .int .i64 0, .int .i64 0, .int .i64 3, .string ⟨#[111, 112, 101, 110]⟩, .int .i64 1, .int .i64 0, .int .i64 0, .int .i64 0, .string ⟨#[102, 97, 105, 108]⟩, .int .i64 4, .int .i64 0, .int .i64 0]) (yLw w _ _ _) (fun h => by have := hA _ h; omega) (by decide) ⟨rfl, rfl, fun i x hi => ?_⟩
      match i, hi with
      | 0, hi => cases hi; exact ⟨[_], _, rfl, rfl, [_], _, rfl, rfl, [_], _, rfl, rfl, [_], _, rfl, rfl, [_], _, rfl, rfl, rfl⟩
      | 1, hi => cases hi; exact ⟨[_], _, rfl, rfl, [_], _, rfl, rfl, [_], _, rfl, rfl, [_], _, rfl, rfl, [_], _, rfl, rfl, rfl⟩
      | 2, hi => cases hi; exact ⟨[_], _, rfl, rfl, [_], _, rfl, rfl, [_], _, rfl, rfl, [_], _, rfl, rfl, [_], _, rfl, rfl, rfl⟩
      | 3, hi => cases hi; exact ⟨[_], _, rfl, rfl, [_], _, rfl, rfl, [_], _, rfl, rfl, [_], _, rfl, rfl, [_], _, rfl, rfl, rfl⟩
      | n + 4, hi => cases hi
  · intro p n c hm
    simp only [List.mem_cons, List.not_mem_nil, or_false, Value.slice.injEq] at hm
    rcases hm with ⟨_, rfl, rfl⟩ | ⟨_, rfl, rfl⟩ <;> rfl
  · exact yD5 w _ _ _
end Go.Tw
end

section
set_option linter.all false
namespace Go.Proofs
open Go.Shelf
def Tryz.lays137_ren : Go.Shelf.Ren := ⟨fun | 137 => 89 | 217 => 123 | 266 => 143 | n => n, fun | 9 => 9 | 5 => 5 | 3 => 3 | n => n, fun | n => n⟩
theorem Tryz.lays137 : Go.Proofs.Lays.n137 Tryz.prog Tryz.lays137_ren := {
  mixed := by kernel_rfl
  f137 := Tryz.func89.trans (congrArg some (by kernel_rfl))
  f217 := Tryz.func123.trans (congrArg some (by kernel_rfl))
  f266 := Tryz.func143.trans (congrArg some (by kernel_rfl))
  t3 := Tryz.underlying3
  a3 := Tryz.isAgg3
  z3 := Tryz.sizeOf3
  v3 := Tryz.zeroValue3
  t5 := Tryz.underlying5
  a5 := Tryz.isAgg5
  z5 := Tryz.sizeOf5
  v5 := Tryz.zeroValue5
  t9 := Tryz.underlying9
  a9 := Tryz.isAgg9
  z9 := Tryz.sizeOf9
  v9 := Tryz.zeroValue9 }
open Go.RowKit in
/-- strings.IndexByte: "IndexByte returns the index of the first instance of c in s, or -1 if c is not present in s.": IT RETURNS 'Lib.indexByte s c'; the world is as it was. (LAID: no walk: one application.) -/
theorem Tryz.strings_IndexByte (s : ByteArray) (c : Int) (w : World) :
    Calls Tryz.prog 89 #[.string s, .int .u8 c] w fun e w' => e = .returned (.int .i64 (Lib.indexByte s.data.toList c.toNat.toUInt8)) ∧ w' = w := Any.strings_IndexByte Tryz.lays137 s c w
def Tryz.lays146_ren : Go.Shelf.Ren := ⟨fun | 146 => 44 | 221 => 93 | 268 => 126 | 138 => 127 | 143 => 128 | 195 => 145 | 197 => 146 | 218 => 147 | 219 => 148 | 260 => 171 | 217 => 123 | 225 => 172 | 224 => 173 | 267 => 174 | 266 => 143 | 314 => 184 | n => n, fun | 9 => 9 | 31 => 51 | 3 => 3 | 4 => 4 | 0 => 0 | 105 => 229 | 21 => 21 | 5 => 5 | 46 => 219 | 119 => 251 | 139 => 254 | 138 => 253 | 146 => 255 | 51 => 241 | n => n, fun | 1 => 0 | 3 => 2 | 4 => 3 | n => n⟩
theorem Tryz.lays146 : Go.Proofs.Lays.n146 Tryz.prog Tryz.lays146_ren := {
  mixed := by kernel_rfl
  f138 := Tryz.func127.trans (congrArg some (by kernel_rfl))
  f143 := Tryz.func128.trans (congrArg some (by kernel_rfl))
  f146 := Tryz.func44.trans (congrArg some (by kernel_rfl))
  f195 := Tryz.func145.trans (congrArg some (by kernel_rfl))
  f197 := Tryz.func146.trans (congrArg some (by kernel_rfl))
  f217 := Tryz.func123.trans (congrArg some (by kernel_rfl))
  f218 := Tryz.func147.trans (congrArg some (by kernel_rfl))
  f219 := Tryz.func148.trans (congrArg some (by kernel_rfl))
  f221 := Tryz.func93.trans (congrArg some (by kernel_rfl))
  f224 := Tryz.func173.trans (congrArg some (by kernel_rfl))
  f225 := Tryz.func172.trans (congrArg some (by kernel_rfl))
  f260 := Tryz.func171.trans (congrArg some (by kernel_rfl))
  f266 := Tryz.func143.trans (congrArg some (by kernel_rfl))
  f267 := Tryz.func174.trans (congrArg some (by kernel_rfl))
  f268 := Tryz.func126.trans (congrArg some (by kernel_rfl))
  f314 := Tryz.func184.trans (congrArg some (by kernel_rfl))
  t0 := Tryz.underlying0
  a0 := Tryz.isAgg0
  z0 := Tryz.sizeOf0
  v0 := Tryz.zeroValue0
  t3 := Tryz.underlying3
  a3 := Tryz.isAgg3
  z3 := Tryz.sizeOf3
  v3 := Tryz.zeroValue3
  t4 := Tryz.underlying4
  a4 := Tryz.isAgg4
  z4 := Tryz.sizeOf4
  v4 := Tryz.zeroValue4
  t5 := Tryz.underlying5
  a5 := Tryz.isAgg5
  z5 := Tryz.sizeOf5
  v5 := Tryz.zeroValue5
  t9 := Tryz.underlying9
  a9 := Tryz.isAgg9
  z9 := Tryz.sizeOf9
  v9 := Tryz.zeroValue9
  t21 := Tryz.underlying21
  a21 := Tryz.isAgg21
  z21 := Tryz.sizeOf21
  v21 := Tryz.zeroValue21
  t31 := Tryz.underlying51
  a31 := Tryz.isAgg51
  z31 := Tryz.sizeOf51
  v31 := Tryz.zeroValue51
  t46 := Tryz.underlying219
  a46 := Tryz.isAgg219
  z46 := Tryz.sizeOf219
  v46 := Tryz.zeroValue219
  t51 := Tryz.underlying241
  a51 := Tryz.isAgg241
  z51 := Tryz.sizeOf241
  v51 := Tryz.zeroValue241
  t105 := Tryz.underlying229
  a105 := Tryz.isAgg229
  z105 := Tryz.sizeOf229
  v105 := Tryz.zeroValue229
  t119 := Tryz.underlying251
  a119 := Tryz.isAgg251
  z119 := Tryz.sizeOf251
  t138 := Tryz.underlying253
  a138 := Tryz.isAgg253
  z138 := Tryz.sizeOf253
  v138 := Tryz.zeroValue253
  t139 := Tryz.underlying254
  a139 := Tryz.isAgg254
  z139 := Tryz.sizeOf254
  v139 := Tryz.zeroValue254
  t146 := Tryz.underlying255
  a146 := Tryz.isAgg255
  z146 := Tryz.sizeOf255
  v146 := Tryz.zeroValue255
  g1 := by kernel_rfl
  g3 := by kernel_rfl
  g4 := by kernel_rfl }
open Go.RowKit Go.Lib in
/-- strings.Split. (LAID: no walk: one application.) -/
theorem Tryz.strings_Split (s sep : ByteArray) (m : Int) (w : World) (hs : s.size < 4294967281) (hm : w.cell? ⟨0, 0, none⟩ = some (.int .i64 m)) (h1 : 1 ≤ sep.size) :
    Calls Tryz.prog 44 #[.string s, .string sep] w fun e w' =>
      e = .returned (.slice (some ⟨w.heap.size, 0, none⟩) (Lib.countB s sep + 1) (Lib.countB s sep + 1)) ∧ w' = w.alloc (.cells ((Lib.splitB sep 0 (Lib.countB s sep) s).map Value.string).toArray 9) := Any.strings_Split Tryz.lays146 (by kernel_rfl) s sep m w hs hm h1

end Go.Proofs
end

section
set_option linter.all false
set_option maxRecDepth 1000000
namespace Go.Tw
open Go.Vx Go.Vx.B Go.Proofs Go.RowKit

theorem yI6 (h3 : 0 ∈ GT.ints) {A : Nat → Prop} {w : World} (hG : GlobOK A w) : ∃ m, w.cell? ⟨0, 0, none⟩ = some (.int .i64 m) := by
  obtain ⟨_, _, m, t, f, h⟩ := hG.ints 0 h3
  exact ⟨m, by simp [World.cell?, h]⟩
theorem ySa {b : Nat} (hb : b ∈ GT.ifs) {A : Nat → Prop} {w : World} (hG : GlobOK A w) : ∃ tp p, w.cell? ⟨b, 0, none⟩ = some (.iface tp p) := by
  obtain ⟨_, _, tp, p, t, f, h⟩ := hG.ifs b hb
  exact ⟨tp, p, by simp [World.cell?, h]⟩

/-! ### strings.Split -/
noncomputable def yCB (s sep : List UInt8) : List (List UInt8) := (Lib.splitB ⟨sep.toArray⟩ 0 (Lib.countB ⟨s.toArray⟩ ⟨sep.toArray⟩) ⟨s.toArray⟩).map (·.data.toList)
noncomputable def yBm (s sep : List UInt8) : Option (List (List UInt8) × Unit) :=
  bif decide (s.length < 4294967281) && decide (1 ≤ sep.length) && decide ((yCB s sep).length = Lib.countB ⟨s.toArray⟩ ⟨sep.toArray⟩ + 1) then some (yCB s sep, ()) else none
noncomputable def z0F_e : Entry := { f := 44, args := .pair .str (.pair .str .unit), rS := .pair (.slice .str) .unit, m := fun x => yBm x.1 x.2.1 }

theorem yJG (w : World) (o : Obj) : (w.alloc o).heap[w.heap.size]? = some o := by show (w.heap.push o)[w.heap.size]? = some o; exact Array.getElem?_push_size
theorem yK3 (w : World) (o : Obj) : w.heap.size < (w.alloc o).heap.size := by show _ < (w.heap.push o).size; rw [Array.size_push]; exact Nat.lt_succ_self _
theorem yFo (w : World) (cs : Array Value) (t : TypeId) (f : Nat × Nat) (j : Nat) : (w.alloc (.cells cs t f)).cell? ⟨w.heap.size, j, none⟩ = cs[j]? := by simp only [World.cell?, yJG]; rfl

theorem y68 (h3 : 0 ∈ GT.ints) : FnOK Tryz.prog z0F_e := by
  refine ⟨y27 44 Tryz.f44 (by kernel_rfl) (by kernel_rfl) (by kernel_rfl), fun A w x l y hG hA hx hm => ?_, fun q h => (by cases h), fun q h => (by cases h)⟩
  obtain ⟨s, p, u⟩ := x
  obtain ⟨l1, l2, rfl, rfl, l3, l4, rfl, rfl, rfl⟩ := hx
  change yBm s p = some y at hm
  unfold yBm at hm
  cases hb : (decide (s.length < 4294967281) && decide (1 ≤ p.length) && decide ((yCB s p).length = Lib.countB ⟨s.toArray⟩ ⟨p.toArray⟩ + 1)) with
  | false => rw [hb] at hm; cases hm
  | true =>
    rw [hb] at hm
    cases hm
    simp only [Bool.and_eq_true, decide_eq_true_eq] at hb
    obtain ⟨⟨hs, h1⟩, hlen⟩ := hb
    obtain ⟨m, hm3⟩ := yI6 h3 hG
    have hle : Lib.countB ⟨s.toArray⟩ ⟨p.toArray⟩ ≤ s.length := Lib.countB_le ⟨p.toArray⟩ h1 s.length ⟨s.toArray⟩ (Nat.le_refl _)
    refine (show Calls Tryz.prog 44 #[.string ⟨s.toArray⟩, .string ⟨p.toArray⟩] w _ from Tryz.strings_Split ⟨s.toArray⟩ ⟨p.toArray⟩ m w hs hm3 h1).mono ?_
    rintro e w' ⟨rfl, rfl⟩
    refine ⟨[.slice (some ⟨w.heap.size, 0, none⟩) (Lib.countB ⟨s.toArray⟩ ⟨p.toArray⟩ + 1) (Lib.countB ⟨s.toArray⟩ ⟨p.toArray⟩ + 1)], rfl, ⟨[_], [], rfl, ⟨some ⟨w.heap.size, 0, none⟩, Lib.countB ⟨s.toArray⟩ ⟨p.toArray⟩ + 1, by rw [← hlen], by rw [← hlen]; exact Nat.le_refl _, ?_, fun i x hx => ?_⟩, rfl⟩, (Below.refl _ w).alloc (Nat.le_refl _) _⟩
    · simp only [maxLen]
      omega
    · refine ⟨⟨w.heap.size, 0, none⟩, [.string ⟨x.toArray⟩], rfl, rfl, fun h => Nat.lt_irrefl _ (hA _ h), yK3 w _, fun j v hj => ?_, rfl⟩
      cases j with
      | succ j => simp at hj
      | zero =>
        simp only [List.getElem?_cons_zero, Option.some.injEq] at hj
        subst hj
        change (yCB s p)[i]? = some x at hx
        unfold yCB at hx
        rw [List.getElem?_map, Option.map_eq_some_iff] at hx
        obtain ⟨z, hz, rfl⟩ := hx
        refine (yFo w _ _ _ _).trans ?_
        rw [show 0 + i * Ty.str.size + 0 = i by show 0 + i * 1 + 0 = i; omega, List.getElem?_toArray, List.getElem?_map, hz]
        rfl

/-! ### strings.IndexByte -/
noncomputable def zm_e : Entry := { f := 89, args := .pair .str (.pair (.int .u8) .unit), rS := .pair (.int .i64) .unit, m := fun x => some (Lib.indexByte x.1 x.2.1.toNat.toUInt8, ()) }
theorem yRf : FnOK Tryz.prog zm_e := by
  refine ⟨y27 89 Tryz.f89 (by kernel_rfl) (by kernel_rfl) (by kernel_rfl), fun A w x l y hG hA hx hm => ?_, fun q h => (by cases h), fun q h => (by cases h)⟩
  obtain ⟨s, c, u⟩ := x
  obtain ⟨l1, l2, rfl, rfl, l3, l4, rfl, rfl, rfl⟩ := hx
  cases hm
  refine (show Calls Tryz.prog 89 #[.string ⟨s.toArray⟩, .int .u8 c] w _ from Tryz.strings_IndexByte ⟨s.toArray⟩ c w).mono ?_
  rintro e w' ⟨rfl, rfl⟩
  exact ⟨[.int .i64 (Lib.indexByte s c.toNat.toUInt8)], rfl, ⟨_, [], rfl, rfl, rfl⟩, Below.refl _ _⟩

theorem yPz : FnOK Tryz.prog z0F_e := y68 (List.mem_cons_self ..)
end Go.Tw
end
