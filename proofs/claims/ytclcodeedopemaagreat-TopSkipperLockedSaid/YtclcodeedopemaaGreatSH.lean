/- SH: contracts of the library's functions at this program, in the words of the shelf's tool (lay-plain.mjs; shelf.py picks them). -/
import Derived.Shelf.Sort.Plain
import Derived.Shelf.Slices.In.SortNone
import Derived.Test.YtclcodeedopemaaGreatProg

set_option linter.all false
namespace Go.Proofs
open Go.Shelf
def Tryz.lays189_ren : Go.Shelf.Ren := ⟨fun | 189 => 78 | 125 => 93 | 257 => 92 | 128 => 112 | 129 => 113 | 294 => 103 | 295 => 104 | 296 => 105 | 297 => 106 | 298 => 107 | 299 => 108 | 216 => 109 | 300 => 110 | 301 => 111 | 328 => 114 | 329 => 115 | 330 => 116 | 331 => 117 | 332 => 118 | 215 => 119 | 343 => 120 | n => n, fun | 28 => 37 | 3 => 3 | 46 => 170 | 0 => 0 | 51 => 184 | 53 => 186 | 4 => 4 | 183 => 177 | 182 => 176 | 131 => 88 | 5 => 5 | 9 => 9 | 218 => 187 | 222 => 191 | 228 => 193 | 229 => 194 | n => n, fun | n => n⟩
theorem Tryz.lays189 : Go.Proofs.Lays.n189 Tryz.prog Tryz.lays189_ren := {
  mixed := by kernel_rfl
  f125 := Tryz.func93.trans (congrArg some (by kernel_rfl))
  f128 := Tryz.func112.trans (congrArg some (by kernel_rfl))
  f129 := Tryz.func113.trans (congrArg some (by kernel_rfl))
  f189 := Tryz.func78.trans (congrArg some (by kernel_rfl))
  f215 := Tryz.func119.trans (congrArg some (by kernel_rfl))
  f216 := Tryz.func109.trans (congrArg some (by kernel_rfl))
  f257 := Tryz.func92.trans (congrArg some (by kernel_rfl))
  f294 := Tryz.func103.trans (congrArg some (by kernel_rfl))
  f295 := Tryz.func104.trans (congrArg some (by kernel_rfl))
  f296 := Tryz.func105.trans (congrArg some (by kernel_rfl))
  f297 := Tryz.func106.trans (congrArg some (by kernel_rfl))
  f298 := Tryz.func107.trans (congrArg some (by kernel_rfl))
  f299 := Tryz.func108.trans (congrArg some (by kernel_rfl))
  f300 := Tryz.func110.trans (congrArg some (by kernel_rfl))
  f301 := Tryz.func111.trans (congrArg some (by kernel_rfl))
  f328 := Tryz.func114.trans (congrArg some (by kernel_rfl))
  f329 := Tryz.func115.trans (congrArg some (by kernel_rfl))
  f330 := Tryz.func116.trans (congrArg some (by kernel_rfl))
  f331 := Tryz.func117.trans (congrArg some (by kernel_rfl))
  f332 := Tryz.func118.trans (congrArg some (by kernel_rfl))
  f343 := Tryz.func120.trans (congrArg some (by kernel_rfl))
  t0 := Tryz.underlying0
  a0 := Tryz.isAgg0
  z0 := Tryz.sizeOf0
  v0 := Tryz.zeroValue0
  t3 := Tryz.underlying3
  a3 := Tryz.isAgg3
  z3 := Tryz.sizeOf3
  v3 := Tryz.zeroValue3
  t4 := Tryz.underlying4
  a4 := Tryz.isAgg4
  z4 := Tryz.sizeOf4
  v4 := Tryz.zeroValue4
  t5 := Tryz.underlying5
  a5 := Tryz.isAgg5
  z5 := Tryz.sizeOf5
  v5 := Tryz.zeroValue5
  t9 := Tryz.underlying9
  a9 := Tryz.isAgg9
  z9 := Tryz.sizeOf9
  v9 := Tryz.zeroValue9
  t28 := Tryz.underlying37
  a28 := Tryz.isAgg37
  z28 := Tryz.sizeOf37
  v28 := Tryz.zeroValue37
  t46 := Tryz.underlying170
  a46 := Tryz.isAgg170
  z46 := Tryz.sizeOf170
  v46 := Tryz.zeroValue170
  t51 := Tryz.underlying184
  a51 := Tryz.isAgg184
  z51 := Tryz.sizeOf184
  v51 := Tryz.zeroValue184
  t53 := Tryz.underlying186
  a53 := Tryz.isAgg186
  z53 := Tryz.sizeOf186
  v53 := Tryz.zeroValue186
  t131 := Tryz.underlying88
  a131 := Tryz.isAgg88
  z131 := Tryz.sizeOf88
  v131 := Tryz.zeroValue88
  t182 := Tryz.underlying176
  a182 := Tryz.isAgg176
  z182 := Tryz.sizeOf176
  v182 := Tryz.zeroValue176
  t183 := Tryz.underlying177
  a183 := Tryz.isAgg177
  z183 := Tryz.sizeOf177
  v183 := Tryz.zeroValue177
  t218 := Tryz.underlying187
  a218 := Tryz.isAgg187
  z218 := Tryz.sizeOf187
  v218 := Tryz.zeroValue187
  t222 := Tryz.underlying191
  a222 := Tryz.isAgg191
  z222 := Tryz.sizeOf191
  v222 := Tryz.zeroValue191
  t228 := Tryz.underlying193
  a228 := Tryz.isAgg193
  z228 := Tryz.sizeOf193
  v228 := Tryz.zeroValue193
  t229 := Tryz.underlying194
  a229 := Tryz.isAgg194
  z229 := Tryz.sizeOf194
  v229 := Tryz.zeroValue194 }
end Go.Proofs
