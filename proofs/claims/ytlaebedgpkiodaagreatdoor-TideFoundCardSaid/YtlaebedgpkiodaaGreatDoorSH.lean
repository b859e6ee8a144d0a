/- SH: contracts of the library's functions at this program, in the words of the shelf's tool (lay-plain.mjs; shelf.py picks them). -/
import Derived.Shelf.Strings.Builder1
import Derived.Shelf.Strings.OnBuilder
import Derived.Shelf.LaysM
import Derived.Shelf.Strconv.Itoa3
import Derived.Test.YtlaebedgpkiodaaGreatDoorProg

set_option linter.all false
namespace Go.Proofs
open Go.Shelf
def Tryz.lays240_ren : Go.Shelf.Ren := ⟨λ | 240 => 112 | 276 => 135 | n => n, λ | 70 => 125 | 0 => 0 | 4 => 4 | 9 => 9 | 20 => 20 | 72 => 128 | 37 => 126 | 164 => 198 | n => n, λ | n => n⟩
theorem Tryz.lays240 : Go.Proofs.Lays.n240 Tryz.prog Tryz.lays240_ren := {
 mixed := by kernel_rfl
 f240 := Tryz.func112.trans (congrArg some (by kernel_rfl))
 f276 := Tryz.func135.trans (congrArg some (by kernel_rfl))
 t0 := Tryz.underlying0
 a0 := Tryz.isAgg0
 z0 := Tryz.sizeOf0
 v0 := Tryz.zeroValue0
 t4 := Tryz.underlying4
 a4 := Tryz.isAgg4
 z4 := Tryz.sizeOf4
 v4 := Tryz.zeroValue4
 t9 := Tryz.underlying9
 a9 := Tryz.isAgg9
 z9 := Tryz.sizeOf9
 v9 := Tryz.zeroValue9
 t20 := Tryz.underlying20
 a20 := Tryz.isAgg20
 z20 := Tryz.sizeOf20
 v20 := Tryz.zeroValue20
 t70 := Tryz.underlying125
 a70 := Tryz.isAgg125
 z70 := Tryz.sizeOf125
 v70 := Tryz.zeroValue125
 t72 := Tryz.underlying128
 a72 := Tryz.isAgg128
 z72 := Tryz.sizeOf128
 v72 := Tryz.zeroValue128
 t164 := Tryz.underlying198
 a164 := Tryz.isAgg198
 z164 := Tryz.sizeOf198
 v164 := Tryz.zeroValue198 }
theorem Tryz.x72_240 : Builder.X72 Tryz.prog Tryz.lays240_ren := {
 sizeBuilder := by kernel_rfl
 liesBuilder := by kernel_rfl }
def Tryz.lays156_ren : Go.Shelf.Ren := ⟨λ | 156 => 66 | 165 => 114 | 166 => 63 | 169 => 67 | 240 => 112 | 241 => 137 | 276 => 135 | 277 => 152 | n => n, λ | 31 => 73 | 9 => 9 | 3 => 3 | 4 => 4 | 0 => 0 | 20 => 20 | 72 => 128 | 76 => 131 | 70 => 125 | 37 => 126 | 75 => 130 | 127 => 184 | 164 => 198 | 5 => 5 | 80 => 136 | n => n, λ | n => n⟩
theorem Tryz.lays156 : Go.Proofs.Lays.n156 Tryz.prog Tryz.lays156_ren := {
 mixed := by kernel_rfl
 f156 := Tryz.func66.trans (congrArg some (by kernel_rfl))
 f165 := Tryz.func114.trans (congrArg some (by kernel_rfl))
 f166 := Tryz.func63.trans (congrArg some (by kernel_rfl))
 f169 := Tryz.func67.trans (congrArg some (by kernel_rfl))
 f240 := Tryz.func112.trans (congrArg some (by kernel_rfl))
 f241 := Tryz.func137.trans (congrArg some (by kernel_rfl))
 f276 := Tryz.func135.trans (congrArg some (by kernel_rfl))
 f277 := Tryz.func152.trans (congrArg some (by kernel_rfl))
 t0 := Tryz.underlying0
 a0 := Tryz.isAgg0
 z0 := Tryz.sizeOf0
 v0 := Tryz.zeroValue0
 t3 := Tryz.underlying3
 a3 := Tryz.isAgg3
 z3 := Tryz.sizeOf3
 v3 := Tryz.zeroValue3
 t4 := Tryz.underlying4
 a4 := Tryz.isAgg4
 z4 := Tryz.sizeOf4
 v4 := Tryz.zeroValue4
 t9 := Tryz.underlying9
 a9 := Tryz.isAgg9
 z9 := Tryz.sizeOf9
 v9 := Tryz.zeroValue9
 t20 := Tryz.underlying20
 a20 := Tryz.isAgg20
 z20 := Tryz.sizeOf20
 v20 := Tryz.zeroValue20
 t31 := Tryz.underlying73
 a31 := Tryz.isAgg73
 z31 := Tryz.sizeOf73
 v31 := Tryz.zeroValue73
 t37 := Tryz.underlying126
 a37 := Tryz.isAgg126
 z37 := Tryz.sizeOf126
 v37 := Tryz.zeroValue126
 t70 := Tryz.underlying125
 a70 := Tryz.isAgg125
 z70 := Tryz.sizeOf125
 v70 := Tryz.zeroValue125
 t72 := Tryz.underlying128
 a72 := Tryz.isAgg128
 z72 := Tryz.sizeOf128
 v72 := Tryz.zeroValue128
 t75 := Tryz.underlying130
 a75 := Tryz.isAgg130
 z75 := Tryz.sizeOf130
 v75 := Tryz.zeroValue130
 t76 := Tryz.underlying131
 a76 := Tryz.isAgg131
 z76 := Tryz.sizeOf131
 v76 := Tryz.zeroValue131
 t127 := Tryz.underlying184
 a127 := Tryz.isAgg184
 z127 := Tryz.sizeOf184
 v127 := Tryz.zeroValue184
 t164 := Tryz.underlying198
 a164 := Tryz.isAgg198
 z164 := Tryz.sizeOf198
 v164 := Tryz.zeroValue198 }
theorem Tryz.Builder_Extra_156 : Builder.Extra Tryz.prog Tryz.lays156_ren := {
 sizeBuilder := by kernel_rfl
 liesBuilder := by kernel_rfl
 t5 := Tryz.underlying5
 a5 := Tryz.isAgg5
 z5 := Tryz.sizeOf5
 v5 := Tryz.zeroValue5
 infoByte := by kernel_rfl
 cellsByte := by kernel_rfl
 sizeByte := by kernel_rfl
 neB5 := by decide }
open Go.RowKit in
/-- No element: the empty string; the world is as it was. (Whatever the slice's address and capacity: a nil slice too.) (LAID: no walk: one application.) -/
theorem Tryz.strings_Join_none (a : Option Addr) (c : Nat) (sep : ByteArray) (w : World) :
  Calls Tryz.prog 66 #[.slice a 0 c, .string sep] w λ e w' => e = .returned (.string ⟨#[]⟩) /\ w' = w := Any.strings_Join_none Tryz.lays156 Tryz.Builder_Extra_156 a c sep w
open Go.RowKit in
/-- strings.Join: "Join concatenates the elements of its first argument to create a single string. The separator string sep is placed between elements in the resulting string.": HOWEVER MANY ELEMENTS. Below the heap's end the world is as it was. (LAID: no walk: one application.) -/
theorem Tryz.strings_Join (bk o c : Nat) (xs : List ByteArray) (sep : ByteArray) (w : World) (hcells : ∀ (j : Nat) x, xs[j]? = some x -> w.cell? ⟨bk, o + j, none⟩ = some (.string x)) (hbk : bk < w.heap.size) (hN : xs.length <= 140737488355328) (hcap : xs.length <= c) (hlen : (Lib.join (xs.map (·.data.toList)) sep.data.toList).length <= 140737488355328) :
  Calls Tryz.prog 66 #[.slice (some ⟨bk, o, none⟩) xs.length c, .string sep] w λ e w' => e = .returned (.string ⟨(Lib.join (xs.map (·.data.toList)) sep.data.toList).toArray⟩) /\ Below w.heap.size w w' := Any.strings_Join Tryz.lays156 Tryz.Builder_Extra_156 bk o c xs sep w hcells hbk hN hcap hlen
def Tryz.laysM171_ren : Go.Shelf.Ren := ⟨λ | 171 => 64 | 243 => 113 | 246 => 136 | 283 => 148 | 284 => 149 | 285 => 150 | 286 => 151 | 129 => 164 | 317 => 163 | 318 => 165 | 319 => 166 | 320 => 167 | 337 => 177 | 338 => 178 | n => n, λ | 3 => 3 | 9 => 9 | 2 => 2 | 4 => 4 | 171 => 208 | 0 => 0 | 53 => 209 | 37 => 126 | 5 => 5 | 173 => 212 | 212 => 221 | 51 => 222 | 20 => 20 | 213 => 223 | 46 => 216 | 232 => 246 | 233 => 247 | n => n, λ | 17 => 3 | 18 => 8 | 19 => 9 | n => n⟩
theorem Tryz.laysM171 : Go.Proofs.LaysM.n171 Tryz.prog Tryz.laysM171_ren := {
 mixed := by kernel_rfl
 f129 := Tryz.func164.trans (congrArg some (by kernel_rfl))
 f171 := Tryz.func64.trans (congrArg some (by kernel_rfl))
 f243 := Tryz.func113.trans (congrArg some (by kernel_rfl))
 f246 := Tryz.func136.trans (congrArg some (by kernel_rfl))
 f283 := Tryz.func148.trans (congrArg some (by kernel_rfl))
 f284 := Tryz.func149.trans (congrArg some (by kernel_rfl))
 f285 := Tryz.func150.trans (congrArg some (by kernel_rfl))
 f286 := Tryz.func151.trans (congrArg some (by kernel_rfl))
 f317 := Tryz.func163.trans (congrArg some (by kernel_rfl))
 f318 := Tryz.func165.trans (congrArg some (by kernel_rfl))
 f319 := Tryz.func166.trans (congrArg some (by kernel_rfl))
 f320 := Tryz.func167.trans (congrArg some (by kernel_rfl))
 f337 := Tryz.func177.trans (congrArg some (by kernel_rfl))
 f338 := Tryz.func178.trans (congrArg some (by kernel_rfl))
 t0 := Tryz.underlying0
 a0 := Tryz.isAgg0
 z0 := Tryz.sizeOf0
 v0 := Tryz.zeroValue0
 t2 := Tryz.underlying2
 a2 := Tryz.isAgg2
 z2 := Tryz.sizeOf2
 v2 := Tryz.zeroValue2
 t3 := Tryz.underlying3
 a3 := Tryz.isAgg3
 z3 := Tryz.sizeOf3
 v3 := Tryz.zeroValue3
 t4 := Tryz.underlying4
 a4 := Tryz.isAgg4
 z4 := Tryz.sizeOf4
 v4 := Tryz.zeroValue4
 t5 := Tryz.underlying5
 a5 := Tryz.isAgg5
 z5 := Tryz.sizeOf5
 v5 := Tryz.zeroValue5
 t9 := Tryz.underlying9
 a9 := Tryz.isAgg9
 z9 := Tryz.sizeOf9
 v9 := Tryz.zeroValue9
 t20 := Tryz.underlying20
 a20 := Tryz.isAgg20
 z20 := Tryz.sizeOf20
 v20 := Tryz.zeroValue20
 t37 := Tryz.underlying126
 a37 := Tryz.isAgg126
 z37 := Tryz.sizeOf126
 v37 := Tryz.zeroValue126
 t46 := Tryz.underlying216
 a46 := Tryz.isAgg216
 z46 := Tryz.sizeOf216
 v46 := Tryz.zeroValue216
 t51 := Tryz.underlying222
 a51 := Tryz.isAgg222
 z51 := Tryz.sizeOf222
 v51 := Tryz.zeroValue222
 t53 := Tryz.underlying209
 a53 := Tryz.isAgg209
 z53 := Tryz.sizeOf209
 v53 := Tryz.zeroValue209
 t171 := Tryz.underlying208
 a171 := Tryz.isAgg208
 z171 := Tryz.sizeOf208
 v171 := Tryz.zeroValue208
 t173 := Tryz.underlying212
 a173 := Tryz.isAgg212
 z173 := Tryz.sizeOf212
 v173 := Tryz.zeroValue212
 t212 := Tryz.underlying221
 a212 := Tryz.isAgg221
 z212 := Tryz.sizeOf221
 v212 := Tryz.zeroValue221
 t213 := Tryz.underlying223
 a213 := Tryz.isAgg223
 z213 := Tryz.sizeOf223
 t232 := Tryz.underlying246
 a232 := Tryz.isAgg246
 z232 := Tryz.sizeOf246
 v232 := Tryz.zeroValue246
 t233 := Tryz.underlying247
 a233 := Tryz.isAgg247
 z233 := Tryz.sizeOf247
 v233 := Tryz.zeroValue247
 g17 := by kernel_rfl
 g18 := by kernel_rfl
 g19 := by kernel_rfl
 i0 := by kernel_rfl
 i2 := by kernel_rfl
 i3 := by kernel_rfl
 i4 := by kernel_rfl
 i5 := by kernel_rfl
 i9 := by kernel_rfl
 i20 := by kernel_rfl
 i37 := by kernel_rfl
 i46 := by kernel_rfl
 i51 := by kernel_rfl
 i53 := by kernel_rfl
 i171 := by kernel_rfl
 i173 := by kernel_rfl
 i212 := by kernel_rfl
 i232 := by kernel_rfl
 i233 := by kernel_rfl
 m17 := by kernel_rfl
 m18 := by kernel_rfl
 m19 := by kernel_rfl }
open Go.RowKit Go.Sort Go.Lib in
/-- strconv.Itoa: "Itoa is equivalent to FormatInt(int64(i), 10).": i's DECIMAL NUMERAL ('Lib.itoa': a '-' where i is negative, then the digits), FOR EVERY int. The world behind the call: the world before it, new blocks behind the heap (the library's 'var a [24]byte'), draws. (LAID: no walk: one application.) -/
theorem Tryz.strconv_Itoa (n : Int) (h0 : -9223372036854775808 <= n) (h1 : n <= 9223372036854775807) (w : World) (htab : Lib.TabIs Tryz.prog w "internal/strconv.uint64pow10" .u64 Lib.pow10Tab) :
  Calls Tryz.prog 64 #[.int .i64 n] w λ e w' => e = .returned (.string ⟨(Lib.itoa n).toArray⟩) /\ ∃ k os, w' = grow (w.drewN k) os := Any.strconv_Itoa Tryz.laysM171 n h0 h1 w htab
end Go.Proofs
