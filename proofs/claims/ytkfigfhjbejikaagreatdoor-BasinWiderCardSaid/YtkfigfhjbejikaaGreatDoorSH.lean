/- SH: contracts of the library's functions at this program, in the words of the shelf's tool (lay-plain.mjs; shelf.py picks them). -/
import Derived.Shelf.Strings.Builder1
import Derived.Shelf.Strings.OnBuilder
import Derived.Shelf.LaysM
import Derived.Shelf.Strconv.Itoa3
import Derived.Test.YtkfigfhjbejikaaGreatDoorProg

set_option linter.all false
namespace Go.Proofs
open Go.Shelf
def Tryz.lays240_ren : Go.Shelf.Ren := ⟨λ | 240 => 169 | 276 => 188 | n => n, λ | 70 => 198 | 0 => 0 | 4 => 4 | 9 => 9 | 20 => 20 | 72 => 201 | 37 => 199 | 164 => 271 | n => n, λ | n => n⟩
theorem Tryz.lays240 : Go.Proofs.Lays.n240 Tryz.prog Tryz.lays240_ren := {
 mixed := by kernel_rfl
 f240 := Tryz.func169.trans (congrArg some (by kernel_rfl))
 f276 := Tryz.func188.trans (congrArg some (by kernel_rfl))
 t0 := Tryz.underlying0
 a0 := Tryz.isAgg0
 z0 := Tryz.sizeOf0
 v0 := Tryz.zeroValue0
 t4 := Tryz.underlying4
 a4 := Tryz.isAgg4
 z4 := Tryz.sizeOf4
 v4 := Tryz.zeroValue4
 t9 := Tryz.underlying9
 a9 := Tryz.isAgg9
 z9 := Tryz.sizeOf9
 v9 := Tryz.zeroValue9
 t20 := Tryz.underlying20
 a20 := Tryz.isAgg20
 z20 := Tryz.sizeOf20
 v20 := Tryz.zeroValue20
 t70 := Tryz.underlying198
 a70 := Tryz.isAgg198
 z70 := Tryz.sizeOf198
 v70 := Tryz.zeroValue198
 t72 := Tryz.underlying201
 a72 := Tryz.isAgg201
 z72 := Tryz.sizeOf201
 v72 := Tryz.zeroValue201
 t164 := Tryz.underlying271
 a164 := Tryz.isAgg271
 z164 := Tryz.sizeOf271
 v164 := Tryz.zeroValue271 }
theorem Tryz.x72_240 : Builder.X72 Tryz.prog Tryz.lays240_ren := {
 sizeBuilder := by kernel_rfl
 liesBuilder := by kernel_rfl }
def Tryz.lays156_ren : Go.Shelf.Ren := ⟨λ | 156 => 127 | 165 => 170 | 166 => 126 | 169 => 130 | 240 => 169 | 241 => 189 | 276 => 188 | 277 => 200 | n => n, λ | 31 => 67 | 9 => 9 | 3 => 3 | 4 => 4 | 0 => 0 | 20 => 20 | 72 => 201 | 76 => 204 | 70 => 198 | 37 => 199 | 75 => 203 | 127 => 258 | 164 => 271 | 5 => 5 | 80 => 210 | n => n, λ | n => n⟩
theorem Tryz.lays156 : Go.Proofs.Lays.n156 Tryz.prog Tryz.lays156_ren := {
 mixed := by kernel_rfl
 f156 := Tryz.func127.trans (congrArg some (by kernel_rfl))
 f165 := Tryz.func170.trans (congrArg some (by kernel_rfl))
 f166 := Tryz.func126.trans (congrArg some (by kernel_rfl))
 f169 := Tryz.func130.trans (congrArg some (by kernel_rfl))
 f240 := Tryz.func169.trans (congrArg some (by kernel_rfl))
 f241 := Tryz.func189.trans (congrArg some (by kernel_rfl))
 f276 := Tryz.func188.trans (congrArg some (by kernel_rfl))
 f277 := Tryz.func200.trans (congrArg some (by kernel_rfl))
 t0 := Tryz.underlying0
 a0 := Tryz.isAgg0
 z0 := Tryz.sizeOf0
 v0 := Tryz.zeroValue0
 t3 := Tryz.underlying3
 a3 := Tryz.isAgg3
 z3 := Tryz.sizeOf3
 v3 := Tryz.zeroValue3
 t4 := Tryz.underlying4
 a4 := Tryz.isAgg4
 z4 := Tryz.sizeOf4
 v4 := Tryz.zeroValue4
 t9 := Tryz.underlying9
 a9 := Tryz.isAgg9
 z9 := Tryz.sizeOf9
 v9 := Tryz.zeroValue9
 t20 := Tryz.underlying20
 a20 := Tryz.isAgg20
 z20 := Tryz.sizeOf20
 v20 := Tryz.zeroValue20
 t31 := Tryz.underlying67
 a31 := Tryz.isAgg67
 z31 := Tryz.sizeOf67
 v31 := Tryz.zeroValue67
 t37 := Tryz.underlying199
 a37 := Tryz.isAgg199
 z37 := Tryz.sizeOf199
 v37 := Tryz.zeroValue199
 t70 := Tryz.underlying198
 a70 := Tryz.isAgg198
 z70 := Tryz.sizeOf198
 v70 := Tryz.zeroValue198
 t72 := Tryz.underlying201
 a72 := Tryz.isAgg201
 z72 := Tryz.sizeOf201
 v72 := Tryz.zeroValue201
 t75 := Tryz.underlying203
 a75 := Tryz.isAgg203
 z75 := Tryz.sizeOf203
 v75 := Tryz.zeroValue203
 t76 := Tryz.underlying204
 a76 := Tryz.isAgg204
 z76 := Tryz.sizeOf204
 v76 := Tryz.zeroValue204
 t127 := Tryz.underlying258
 a127 := Tryz.isAgg258
 z127 := Tryz.sizeOf258
 v127 := Tryz.zeroValue258
 t164 := Tryz.underlying271
 a164 := Tryz.isAgg271
 z164 := Tryz.sizeOf271
 v164 := Tryz.zeroValue271 }
theorem Tryz.Builder_Extra_156 : Builder.Extra Tryz.prog Tryz.lays156_ren := {
 sizeBuilder := by kernel_rfl
 liesBuilder := by kernel_rfl
 t5 := Tryz.underlying5
 a5 := Tryz.isAgg5
 z5 := Tryz.sizeOf5
 v5 := Tryz.zeroValue5
 infoByte := by kernel_rfl
 cellsByte := by kernel_rfl
 sizeByte := by kernel_rfl
 neB5 := by decide }
open Go.RowKit in
/-- No element: the empty string; the world is as it was. (Whatever the slice's address and capacity: a nil slice too.) (LAID: no walk: one application.) -/
theorem Tryz.strings_Join_none (a : Option Addr) (c : Nat) (sep : ByteArray) (w : World) :
  Calls Tryz.prog 127 #[.slice a 0 c, .string sep] w λ e w' => e = .returned (.string ⟨#[]⟩) /\ w' = w := Any.strings_Join_none Tryz.lays156 Tryz.Builder_Extra_156 a c sep w
open Go.RowKit in
/-- strings.Join: "Join concatenates the elements of its first argument to create a single string. The separator string sep is placed between elements in the resulting string.": HOWEVER MANY ELEMENTS. Below the heap's end the world is as it was. (LAID: no walk: one application.) -/
theorem Tryz.strings_Join (bk o c : Nat) (xs : List ByteArray) (sep : ByteArray) (w : World) (hcells : ∀ (j : Nat) x, xs[j]? = some x -> w.cell? ⟨bk, o + j, none⟩ = some (.string x)) (hbk : bk < w.heap.size) (hN : xs.length <= 140737488355328) (hcap : xs.length <= c) (hlen : (Lib.join (xs.map (·.data.toList)) sep.data.toList).length <= 140737488355328) :
  Calls Tryz.prog 127 #[.slice (some ⟨bk, o, none⟩) xs.length c, .string sep] w λ e w' => e = .returned (.string ⟨(Lib.join (xs.map (·.data.toList)) sep.data.toList).toArray⟩) /\ Below w.heap.size w w' := Any.strings_Join Tryz.lays156 Tryz.Builder_Extra_156 bk o c xs sep w hcells hbk hN hcap hlen
def Tryz.laysM171_ren : Go.Shelf.Ren := ⟨λ | 171 => 129 | 243 => 171 | 246 => 190 | 283 => 201 | 284 => 202 | 285 => 203 | 286 => 204 | 129 => 214 | 317 => 213 | 318 => 215 | 319 => 216 | 320 => 217 | 337 => 228 | 338 => 229 | n => n, λ | 3 => 3 | 9 => 9 | 2 => 2 | 4 => 4 | 171 => 279 | 0 => 0 | 53 => 280 | 37 => 199 | 5 => 5 | 173 => 283 | 212 => 290 | 51 => 291 | 20 => 20 | 213 => 292 | 46 => 294 | 232 => 315 | 233 => 316 | n => n, λ | 17 => 2 | 18 => 7 | 19 => 8 | n => n⟩
theorem Tryz.laysM171 : Go.Proofs.LaysM.n171 Tryz.prog Tryz.laysM171_ren := {
 mixed := by kernel_rfl
 f129 := Tryz.func214.trans (congrArg some (by kernel_rfl))
 f171 := Tryz.func129.trans (congrArg some (by kernel_rfl))
 f243 := Tryz.func171.trans (congrArg some (by kernel_rfl))
 f246 := Tryz.func190.trans (congrArg some (by kernel_rfl))
 f283 := Tryz.func201.trans (congrArg some (by kernel_rfl))
 f284 := Tryz.func202.trans (congrArg some (by kernel_rfl))
 f285 := Tryz.func203.trans (congrArg some (by kernel_rfl))
 f286 := Tryz.func204.trans (congrArg some (by kernel_rfl))
 f317 := Tryz.func213.trans (congrArg some (by kernel_rfl))
 f318 := Tryz.func215.trans (congrArg some (by kernel_rfl))
 f319 := Tryz.func216.trans (congrArg some (by kernel_rfl))
 f320 := Tryz.func217.trans (congrArg some (by kernel_rfl))
 f337 := Tryz.func228.trans (congrArg some (by kernel_rfl))
 f338 := Tryz.func229.trans (congrArg some (by kernel_rfl))
 t0 := Tryz.underlying0
 a0 := Tryz.isAgg0
 z0 := Tryz.sizeOf0
 v0 := Tryz.zeroValue0
 t2 := Tryz.underlying2
 a2 := Tryz.isAgg2
 z2 := Tryz.sizeOf2
 v2 := Tryz.zeroValue2
 t3 := Tryz.underlying3
 a3 := Tryz.isAgg3
 z3 := Tryz.sizeOf3
 v3 := Tryz.zeroValue3
 t4 := Tryz.underlying4
 a4 := Tryz.isAgg4
 z4 := Tryz.sizeOf4
 v4 := Tryz.zeroValue4
 t5 := Tryz.underlying5
 a5 := Tryz.isAgg5
 z5 := Tryz.sizeOf5
 v5 := Tryz.zeroValue5
 t9 := Tryz.underlying9
 a9 := Tryz.isAgg9
 z9 := Tryz.sizeOf9
 v9 := Tryz.zeroValue9
 t20 := Tryz.underlying20
 a20 := Tryz.isAgg20
 z20 := Tryz.sizeOf20
 v20 := Tryz.zeroValue20
 t37 := Tryz.underlying199
 a37 := Tryz.isAgg199
 z37 := Tryz.sizeOf199
 v37 := Tryz.zeroValue199
 t46 := Tryz.underlying294
 a46 := Tryz.isAgg294
 z46 := Tryz.sizeOf294
 v46 := Tryz.zeroValue294
 t51 := Tryz.underlying291
 a51 := Tryz.isAgg291
 z51 := Tryz.sizeOf291
 v51 := Tryz.zeroValue291
 t53 := Tryz.underlying280
 a53 := Tryz.isAgg280
 z53 := Tryz.sizeOf280
 v53 := Tryz.zeroValue280
 t171 := Tryz.underlying279
 a171 := Tryz.isAgg279
 z171 := Tryz.sizeOf279
 v171 := Tryz.zeroValue279
 t173 := Tryz.underlying283
 a173 := Tryz.isAgg283
 z173 := Tryz.sizeOf283
 v173 := Tryz.zeroValue283
 t212 := Tryz.underlying290
 a212 := Tryz.isAgg290
 z212 := Tryz.sizeOf290
 v212 := Tryz.zeroValue290
 t213 := Tryz.underlying292
 a213 := Tryz.isAgg292
 z213 := Tryz.sizeOf292
 t232 := Tryz.underlying315
 a232 := Tryz.isAgg315
 z232 := Tryz.sizeOf315
 v232 := Tryz.zeroValue315
 t233 := Tryz.underlying316
 a233 := Tryz.isAgg316
 z233 := Tryz.sizeOf316
 v233 := Tryz.zeroValue316
 g17 := by kernel_rfl
 g18 := by kernel_rfl
 g19 := by kernel_rfl
 i0 := by kernel_rfl
 i2 := by kernel_rfl
 i3 := by kernel_rfl
 i4 := by kernel_rfl
 i5 := by kernel_rfl
 i9 := by kernel_rfl
 i20 := by kernel_rfl
 i37 := by kernel_rfl
 i46 := by kernel_rfl
 i51 := by kernel_rfl
 i53 := by kernel_rfl
 i171 := by kernel_rfl
 i173 := by kernel_rfl
 i212 := by kernel_rfl
 i232 := by kernel_rfl
 i233 := by kernel_rfl
 m17 := by kernel_rfl
 m18 := by kernel_rfl
 m19 := by kernel_rfl }
open Go.RowKit Go.Sort Go.Lib in
/-- strconv.Itoa: "Itoa is equivalent to FormatInt(int64(i), 10).": i's DECIMAL NUMERAL ('Lib.itoa': a '-' where i is negative, then the digits), FOR EVERY int. The world behind the call: the world before it, new blocks behind the heap (the library's 'var a [24]byte'), draws. (LAID: no walk: one application.) -/
theorem Tryz.strconv_Itoa (n : Int) (h0 : -9223372036854775808 <= n) (h1 : n <= 9223372036854775807) (w : World) (htab : Lib.TabIs Tryz.prog w "internal/strconv.uint64pow10" .u64 Lib.pow10Tab) :
  Calls Tryz.prog 129 #[.int .i64 n] w λ e w' => e = .returned (.string ⟨(Lib.itoa n).toArray⟩) /\ ∃ k os, w' = grow (w.drewN k) os := Any.strconv_Itoa Tryz.laysM171 n h0 h1 w htab
end Go.Proofs
