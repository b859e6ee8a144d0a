/- SH: contracts of the library's functions at this program, in the words of the shelf's tool (lay-plain.mjs; shelf.py picks them). -/
import Derived.Shelf.Strings.Builder1
import Derived.Shelf.Strings.OnBuilder
import Derived.Shelf.LaysM
import Derived.Shelf.Strconv.Itoa3
import Derived.Test.YtpcnkpbpcebokaaGreatDoorProg

set_option linter.all false
namespace Go.Proofs
open Go.Shelf
def Tryz.lays240_ren : Go.Shelf.Ren := ⟨λ | 240 => 216 | 276 => 231 | n => n, λ | 70 => 225 | 0 => 0 | 4 => 4 | 9 => 9 | 20 => 20 | 72 => 228 | 37 => 226 | 164 => 283 | n => n, λ | n => n⟩
theorem Tryz.lays240 : Go.Proofs.Lays.n240 Tryz.prog Tryz.lays240_ren := {
 mixed := by kernel_rfl
 f240 := Tryz.func216.trans (congrArg some (by kernel_rfl))
 f276 := Tryz.func231.trans (congrArg some (by kernel_rfl))
 t0 := Tryz.underlying0
 a0 := Tryz.isAgg0
 z0 := Tryz.sizeOf0
 v0 := Tryz.zeroValue0
 t4 := Tryz.underlying4
 a4 := Tryz.isAgg4
 z4 := Tryz.sizeOf4
 v4 := Tryz.zeroValue4
 t9 := Tryz.underlying9
 a9 := Tryz.isAgg9
 z9 := Tryz.sizeOf9
 v9 := Tryz.zeroValue9
 t20 := Tryz.underlying20
 a20 := Tryz.isAgg20
 z20 := Tryz.sizeOf20
 v20 := Tryz.zeroValue20
 t70 := Tryz.underlying225
 a70 := Tryz.isAgg225
 z70 := Tryz.sizeOf225
 v70 := Tryz.zeroValue225
 t72 := Tryz.underlying228
 a72 := Tryz.isAgg228
 z72 := Tryz.sizeOf228
 v72 := Tryz.zeroValue228
 t164 := Tryz.underlying283
 a164 := Tryz.isAgg283
 z164 := Tryz.sizeOf283
 v164 := Tryz.zeroValue283 }
theorem Tryz.x72_240 : Builder.X72 Tryz.prog Tryz.lays240_ren := {
 sizeBuilder := by kernel_rfl
 liesBuilder := by kernel_rfl }
def Tryz.lays156_ren : Go.Shelf.Ren := ⟨λ | 156 => 177 | 165 => 218 | 166 => 174 | 169 => 178 | 240 => 216 | 241 => 233 | 276 => 231 | 277 => 246 | n => n, λ | 31 => 161 | 9 => 9 | 3 => 3 | 4 => 4 | 0 => 0 | 20 => 20 | 72 => 228 | 76 => 231 | 70 => 225 | 37 => 226 | 75 => 230 | 127 => 272 | 164 => 283 | 5 => 5 | 80 => 236 | n => n, λ | n => n⟩
theorem Tryz.lays156 : Go.Proofs.Lays.n156 Tryz.prog Tryz.lays156_ren := {
 mixed := by kernel_rfl
 f156 := Tryz.func177.trans (congrArg some (by kernel_rfl))
 f165 := Tryz.func218.trans (congrArg some (by kernel_rfl))
 f166 := Tryz.func174.trans (congrArg some (by kernel_rfl))
 f169 := Tryz.func178.trans (congrArg some (by kernel_rfl))
 f240 := Tryz.func216.trans (congrArg some (by kernel_rfl))
 f241 := Tryz.func233.trans (congrArg some (by kernel_rfl))
 f276 := Tryz.func231.trans (congrArg some (by kernel_rfl))
 f277 := Tryz.func246.trans (congrArg some (by kernel_rfl))
 t0 := Tryz.underlying0
 a0 := Tryz.isAgg0
 z0 := Tryz.sizeOf0
 v0 := Tryz.zeroValue0
 t3 := Tryz.underlying3
 a3 := Tryz.isAgg3
 z3 := Tryz.sizeOf3
 v3 := Tryz.zeroValue3
 t4 := Tryz.underlying4
 a4 := Tryz.isAgg4
 z4 := Tryz.sizeOf4
 v4 := Tryz.zeroValue4
 t9 := Tryz.underlying9
 a9 := Tryz.isAgg9
 z9 := Tryz.sizeOf9
 v9 := Tryz.zeroValue9
 t20 := Tryz.underlying20
 a20 := Tryz.isAgg20
 z20 := Tryz.sizeOf20
 v20 := Tryz.zeroValue20
 t31 := Tryz.underlying161
 a31 := Tryz.isAgg161
 z31 := Tryz.sizeOf161
 v31 := Tryz.zeroValue161
 t37 := Tryz.underlying226
 a37 := Tryz.isAgg226
 z37 := Tryz.sizeOf226
 v37 := Tryz.zeroValue226
 t70 := Tryz.underlying225
 a70 := Tryz.isAgg225
 z70 := Tryz.sizeOf225
 v70 := Tryz.zeroValue225
 t72 := Tryz.underlying228
 a72 := Tryz.isAgg228
 z72 := Tryz.sizeOf228
 v72 := Tryz.zeroValue228
 t75 := Tryz.underlying230
 a75 := Tryz.isAgg230
 z75 := Tryz.sizeOf230
 v75 := Tryz.zeroValue230
 t76 := Tryz.underlying231
 a76 := Tryz.isAgg231
 z76 := Tryz.sizeOf231
 v76 := Tryz.zeroValue231
 t127 := Tryz.underlying272
 a127 := Tryz.isAgg272
 z127 := Tryz.sizeOf272
 v127 := Tryz.zeroValue272
 t164 := Tryz.underlying283
 a164 := Tryz.isAgg283
 z164 := Tryz.sizeOf283
 v164 := Tryz.zeroValue283 }
theorem Tryz.Builder_Extra_156 : Builder.Extra Tryz.prog Tryz.lays156_ren := {
 sizeBuilder := by kernel_rfl
 liesBuilder := by kernel_rfl
 t5 := Tryz.underlying5
 a5 := Tryz.isAgg5
 z5 := Tryz.sizeOf5
 v5 := Tryz.zeroValue5
 infoByte := by kernel_rfl
 cellsByte := by kernel_rfl
 sizeByte := by kernel_rfl
 neB5 := by decide }
open Go.RowKit in
/-- No element: the empty string; the world is as it was. (Whatever the slice's address and capacity: a nil slice too.) (LAID: no walk: one application.) -/
theorem Tryz.strings_Join_none (a : Option Addr) (c : Nat) (sep : ByteArray) (w : World) :
  Calls Tryz.prog 177 #[.slice a 0 c, .string sep] w λ e w' => e = .returned (.string ⟨#[]⟩) /\ w' = w := Any.strings_Join_none Tryz.lays156 Tryz.Builder_Extra_156 a c sep w
open Go.RowKit in
/-- strings.Join: "Join concatenates the elements of its first argument to create a single string. The separator string sep is placed between elements in the resulting string.": HOWEVER MANY ELEMENTS. Below the heap's end the world is as it was. (LAID: no walk: one application.) -/
theorem Tryz.strings_Join (bk o c : Nat) (xs : List ByteArray) (sep : ByteArray) (w : World) (hcells : ∀ (j : Nat) x, xs[j]? = some x -> w.cell? ⟨bk, o + j, none⟩ = some (.string x)) (hbk : bk < w.heap.size) (hN : xs.length <= 140737488355328) (hcap : xs.length <= c) (hlen : (Lib.join (xs.map (·.data.toList)) sep.data.toList).length <= 140737488355328) :
  Calls Tryz.prog 177 #[.slice (some ⟨bk, o, none⟩) xs.length c, .string sep] w λ e w' => e = .returned (.string ⟨(Lib.join (xs.map (·.data.toList)) sep.data.toList).toArray⟩) /\ Below w.heap.size w w' := Any.strings_Join Tryz.lays156 Tryz.Builder_Extra_156 bk o c xs sep w hcells hbk hN hcap hlen
def Tryz.laysM171_ren : Go.Shelf.Ren := ⟨λ | 171 => 175 | 243 => 217 | 246 => 232 | 283 => 242 | 284 => 243 | 285 => 244 | 286 => 245 | 129 => 260 | 317 => 259 | 318 => 261 | 319 => 262 | 320 => 263 | 337 => 273 | 338 => 274 | n => n, λ | 3 => 3 | 9 => 9 | 2 => 2 | 4 => 4 | 171 => 290 | 0 => 0 | 53 => 279 | 37 => 226 | 5 => 5 | 173 => 293 | 212 => 302 | 51 => 303 | 20 => 20 | 213 => 304 | 46 => 297 | 232 => 327 | 233 => 328 | n => n, λ | 17 => 4 | 18 => 9 | 19 => 10 | n => n⟩
theorem Tryz.laysM171 : Go.Proofs.LaysM.n171 Tryz.prog Tryz.laysM171_ren := {
 mixed := by kernel_rfl
 f129 := Tryz.func260.trans (congrArg some (by kernel_rfl))
 f171 := Tryz.func175.trans (congrArg some (by kernel_rfl))
 f243 := Tryz.func217.trans (congrArg some (by kernel_rfl))
 f246 := Tryz.func232.trans (congrArg some (by kernel_rfl))
 f283 := Tryz.func242.trans (congrArg some (by kernel_rfl))
 f284 := Tryz.func243.trans (congrArg some (by kernel_rfl))
 f285 := Tryz.func244.trans (congrArg some (by kernel_rfl))
 f286 := Tryz.func245.trans (congrArg some (by kernel_rfl))
 f317 := Tryz.func259.trans (congrArg some (by kernel_rfl))
 f318 := Tryz.func261.trans (congrArg some (by kernel_rfl))
 f319 := Tryz.func262.trans (congrArg some (by kernel_rfl))
 f320 := Tryz.func263.trans (congrArg some (by kernel_rfl))
 f337 := Tryz.func273.trans (congrArg some (by kernel_rfl))
 f338 := Tryz.func274.trans (congrArg some (by kernel_rfl))
 t0 := Tryz.underlying0
 a0 := Tryz.isAgg0
 z0 := Tryz.sizeOf0
 v0 := Tryz.zeroValue0
 t2 := Tryz.underlying2
 a2 := Tryz.isAgg2
 z2 := Tryz.sizeOf2
 v2 := Tryz.zeroValue2
 t3 := Tryz.underlying3
 a3 := Tryz.isAgg3
 z3 := Tryz.sizeOf3
 v3 := Tryz.zeroValue3
 t4 := Tryz.underlying4
 a4 := Tryz.isAgg4
 z4 := Tryz.sizeOf4
 v4 := Tryz.zeroValue4
 t5 := Tryz.underlying5
 a5 := Tryz.isAgg5
 z5 := Tryz.sizeOf5
 v5 := Tryz.zeroValue5
 t9 := Tryz.underlying9
 a9 := Tryz.isAgg9
 z9 := Tryz.sizeOf9
 v9 := Tryz.zeroValue9
 t20 := Tryz.underlying20
 a20 := Tryz.isAgg20
 z20 := Tryz.sizeOf20
 v20 := Tryz.zeroValue20
 t37 := Tryz.underlying226
 a37 := Tryz.isAgg226
 z37 := Tryz.sizeOf226
 v37 := Tryz.zeroValue226
 t46 := Tryz.underlying297
 a46 := Tryz.isAgg297
 z46 := Tryz.sizeOf297
 v46 := Tryz.zeroValue297
 t51 := Tryz.underlying303
 a51 := Tryz.isAgg303
 z51 := Tryz.sizeOf303
 v51 := Tryz.zeroValue303
 t53 := Tryz.underlying279
 a53 := Tryz.isAgg279
 z53 := Tryz.sizeOf279
 v53 := Tryz.zeroValue279
 t171 := Tryz.underlying290
 a171 := Tryz.isAgg290
 z171 := Tryz.sizeOf290
 v171 := Tryz.zeroValue290
 t173 := Tryz.underlying293
 a173 := Tryz.isAgg293
 z173 := Tryz.sizeOf293
 v173 := Tryz.zeroValue293
 t212 := Tryz.underlying302
 a212 := Tryz.isAgg302
 z212 := Tryz.sizeOf302
 v212 := Tryz.zeroValue302
 t213 := Tryz.underlying304
 a213 := Tryz.isAgg304
 z213 := Tryz.sizeOf304
 t232 := Tryz.underlying327
 a232 := Tryz.isAgg327
 z232 := Tryz.sizeOf327
 v232 := Tryz.zeroValue327
 t233 := Tryz.underlying328
 a233 := Tryz.isAgg328
 z233 := Tryz.sizeOf328
 v233 := Tryz.zeroValue328
 g17 := by kernel_rfl
 g18 := by kernel_rfl
 g19 := by kernel_rfl
 i0 := by kernel_rfl
 i2 := by kernel_rfl
 i3 := by kernel_rfl
 i4 := by kernel_rfl
 i5 := by kernel_rfl
 i9 := by kernel_rfl
 i20 := by kernel_rfl
 i37 := by kernel_rfl
 i46 := by kernel_rfl
 i51 := by kernel_rfl
 i53 := by kernel_rfl
 i171 := by kernel_rfl
 i173 := by kernel_rfl
 i212 := by kernel_rfl
 i232 := by kernel_rfl
 i233 := by kernel_rfl
 m17 := by kernel_rfl
 m18 := by kernel_rfl
 m19 := by kernel_rfl }
open Go.RowKit Go.Sort Go.Lib in
/-- strconv.Itoa: "Itoa is equivalent to FormatInt(int64(i), 10).": i's DECIMAL NUMERAL ('Lib.itoa': a '-' where i is negative, then the digits), FOR EVERY int. The world behind the call: the world before it, new blocks behind the heap (the library's 'var a [24]byte'), draws. (LAID: no walk: one application.) -/
theorem Tryz.strconv_Itoa (n : Int) (h0 : -9223372036854775808 <= n) (h1 : n <= 9223372036854775807) (w : World) (htab : Lib.TabIs Tryz.prog w "internal/strconv.uint64pow10" .u64 Lib.pow10Tab) :
  Calls Tryz.prog 175 #[.int .i64 n] w λ e w' => e = .returned (.string ⟨(Lib.itoa n).toArray⟩) /\ ∃ k os, w' = grow (w.drewN k) os := Any.strconv_Itoa Tryz.laysM171 n h0 h1 w htab
end Go.Proofs
