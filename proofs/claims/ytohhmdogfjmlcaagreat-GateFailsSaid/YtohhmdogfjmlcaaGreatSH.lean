/- SH: contracts of the library's functions at this program, in the words of the shelf's tool (lay-plain.mjs; shelf.py picks them). -/
import Derived.Shelf.Sort.Plain
import Derived.Shelf.Slices.In.SortNone
import Derived.Test.YtohhmdogfjmlcaaGreatProg

set_option linter.all false
namespace Go.Proofs
open Go.Shelf
def Tryz.lays189_ren : Go.Shelf.Ren := ⟨fun | 189 => 147 | 125 => 159 | 257 => 158 | 128 => 177 | 129 => 178 | 294 => 168 | 295 => 169 | 296 => 170 | 297 => 171 | 298 => 172 | 299 => 173 | 216 => 174 | 300 => 175 | 301 => 176 | 328 => 179 | 329 => 180 | 330 => 181 | 331 => 182 | 332 => 183 | 215 => 184 | 343 => 185 | n => n, fun | 28 => 28 | 3 => 3 | 46 => 242 | 0 => 0 | 51 => 255 | 53 => 257 | 4 => 4 | 183 => 248 | 182 => 247 | 131 => 154 | 5 => 5 | 9 => 9 | 218 => 258 | 222 => 262 | 228 => 264 | 229 => 62 | n => n, fun | n => n⟩
theorem Tryz.lays189 : Go.Proofs.Lays.n189 Tryz.prog Tryz.lays189_ren := {
  mixed := by kernel_rfl
  f125 := Tryz.func159.trans (congrArg some (by kernel_rfl))
  f128 := Tryz.func177.trans (congrArg some (by kernel_rfl))
  f129 := Tryz.func178.trans (congrArg some (by kernel_rfl))
  f189 := Tryz.func147.trans (congrArg some (by kernel_rfl))
  f215 := Tryz.func184.trans (congrArg some (by kernel_rfl))
  f216 := Tryz.func174.trans (congrArg some (by kernel_rfl))
  f257 := Tryz.func158.trans (congrArg some (by kernel_rfl))
  f294 := Tryz.func168.trans (congrArg some (by kernel_rfl))
  f295 := Tryz.func169.trans (congrArg some (by kernel_rfl))
  f296 := Tryz.func170.trans (congrArg some (by kernel_rfl))
  f297 := Tryz.func171.trans (congrArg some (by kernel_rfl))
  f298 := Tryz.func172.trans (congrArg some (by kernel_rfl))
  f299 := Tryz.func173.trans (congrArg some (by kernel_rfl))
  f300 := Tryz.func175.trans (congrArg some (by kernel_rfl))
  f301 := Tryz.func176.trans (congrArg some (by kernel_rfl))
  f328 := Tryz.func179.trans (congrArg some (by kernel_rfl))
  f329 := Tryz.func180.trans (congrArg some (by kernel_rfl))
  f330 := Tryz.func181.trans (congrArg some (by kernel_rfl))
  f331 := Tryz.func182.trans (congrArg some (by kernel_rfl))
  f332 := Tryz.func183.trans (congrArg some (by kernel_rfl))
  f343 := Tryz.func185.trans (congrArg some (by kernel_rfl))
  t0 := Tryz.underlying0
  a0 := Tryz.isAgg0
  z0 := Tryz.sizeOf0
  v0 := Tryz.zeroValue0
  t3 := Tryz.underlying3
  a3 := Tryz.isAgg3
  z3 := Tryz.sizeOf3
  v3 := Tryz.zeroValue3
  t4 := Tryz.underlying4
  a4 := Tryz.isAgg4
  z4 := Tryz.sizeOf4
  v4 := Tryz.zeroValue4
  t5 := Tryz.underlying5
  a5 := Tryz.isAgg5
  z5 := Tryz.sizeOf5
  v5 := Tryz.zeroValue5
  t9 := Tryz.underlying9
  a9 := Tryz.isAgg9
  z9 := Tryz.sizeOf9
  v9 := Tryz.zeroValue9
  t28 := Tryz.underlying28
  a28 := Tryz.isAgg28
  z28 := Tryz.sizeOf28
  v28 := Tryz.zeroValue28
  t46 := Tryz.underlying242
  a46 := Tryz.isAgg242
  z46 := Tryz.sizeOf242
  v46 := Tryz.zeroValue242
  t51 := Tryz.underlying255
  a51 := Tryz.isAgg255
  z51 := Tryz.sizeOf255
  v51 := Tryz.zeroValue255
  t53 := Tryz.underlying257
  a53 := Tryz.isAgg257
  z53 := Tryz.sizeOf257
  v53 := Tryz.zeroValue257
  t131 := Tryz.underlying154
  a131 := Tryz.isAgg154
  z131 := Tryz.sizeOf154
  v131 := Tryz.zeroValue154
  t182 := Tryz.underlying247
  a182 := Tryz.isAgg247
  z182 := Tryz.sizeOf247
  v182 := Tryz.zeroValue247
  t183 := Tryz.underlying248
  a183 := Tryz.isAgg248
  z183 := Tryz.sizeOf248
  v183 := Tryz.zeroValue248
  t218 := Tryz.underlying258
  a218 := Tryz.isAgg258
  z218 := Tryz.sizeOf258
  v218 := Tryz.zeroValue258
  t222 := Tryz.underlying262
  a222 := Tryz.isAgg262
  z222 := Tryz.sizeOf262
  v222 := Tryz.zeroValue262
  t228 := Tryz.underlying264
  a228 := Tryz.isAgg264
  z228 := Tryz.sizeOf264
  v228 := Tryz.zeroValue264
  t229 := Tryz.underlying62
  a229 := Tryz.isAgg62
  z229 := Tryz.sizeOf62
  v229 := Tryz.zeroValue62 }
end Go.Proofs
