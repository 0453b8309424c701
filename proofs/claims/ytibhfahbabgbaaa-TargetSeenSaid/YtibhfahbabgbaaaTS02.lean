/-
The kit's contract of slices.Sort at whole numbers, laid at this program (written by the kit's own tool).
-/
import Derived.Shelf.Sort.Plain
import Derived.Shelf.Slices.In.SortNone
import Derived.Test.YtibhfahbabgbaaaProg
namespace Go.Proofs
open Go.Shelf
def Try.lays189_ren : Go.Shelf.Ren := ⟨fun | 189 => 127 | 125 => 146 | 257 => 145 | 128 => 168 | 129 => 169 | 294 => 159 | 295 => 160 | 296 => 161 | 297 => 162 | 298 => 163 | 299 => 164 | 216 => 165 | 300 => 166 | 301 => 167 | 328 => 176 | 329 => 177 | 330 => 178 | 331 => 179 | 332 => 180 | 215 => 144 | 343 => 182 | n => n, fun | 28 => 28 | 3 => 3 | 46 => 196 | 0 => 0 | 51 => 213 | 53 => 215 | 4 => 4 | 183 => 207 | 182 => 206 | 131 => 189 | 5 => 5 | 9 => 9 | 218 => 219 | 222 => 223 | 228 => 225 | 229 => 33 | n => n, fun | n => n⟩
theorem Try.lays189 : Go.Proofs.Lays.n189 Try.prog Try.lays189_ren := {
  mixed := by kernel_rfl
  f125 := Try.func146.trans (congrArg some (by kernel_rfl))
  f128 := Try.func168.trans (congrArg some (by kernel_rfl))
  f129 := Try.func169.trans (congrArg some (by kernel_rfl))
  f189 := Try.func127.trans (congrArg some (by kernel_rfl))
  f215 := Try.func144.trans (congrArg some (by kernel_rfl))
  f216 := Try.func165.trans (congrArg some (by kernel_rfl))
  f257 := Try.func145.trans (congrArg some (by kernel_rfl))
  f294 := Try.func159.trans (congrArg some (by kernel_rfl))
  f295 := Try.func160.trans (congrArg some (by kernel_rfl))
  f296 := Try.func161.trans (congrArg some (by kernel_rfl))
  f297 := Try.func162.trans (congrArg some (by kernel_rfl))
  f298 := Try.func163.trans (congrArg some (by kernel_rfl))
  f299 := Try.func164.trans (congrArg some (by kernel_rfl))
  f300 := Try.func166.trans (congrArg some (by kernel_rfl))
  f301 := Try.func167.trans (congrArg some (by kernel_rfl))
  f328 := Try.func176.trans (congrArg some (by kernel_rfl))
  f329 := Try.func177.trans (congrArg some (by kernel_rfl))
  f330 := Try.func178.trans (congrArg some (by kernel_rfl))
  f331 := Try.func179.trans (congrArg some (by kernel_rfl))
  f332 := Try.func180.trans (congrArg some (by kernel_rfl))
  f343 := Try.func182.trans (congrArg some (by kernel_rfl))
  t0 := Try.underlying0
  a0 := Try.isAgg0
  z0 := Try.sizeOf0
  v0 := Try.zeroValue0
  t3 := Try.underlying3
  a3 := Try.isAgg3
  z3 := Try.sizeOf3
  v3 := Try.zeroValue3
  t4 := Try.underlying4
  a4 := Try.isAgg4
  z4 := Try.sizeOf4
  v4 := Try.zeroValue4
  t5 := Try.underlying5
  a5 := Try.isAgg5
  z5 := Try.sizeOf5
  v5 := Try.zeroValue5
  t9 := Try.underlying9
  a9 := Try.isAgg9
  z9 := Try.sizeOf9
  v9 := Try.zeroValue9
  t28 := Try.underlying28
  a28 := Try.isAgg28
  z28 := Try.sizeOf28
  v28 := Try.zeroValue28
  t46 := Try.underlying196
  a46 := Try.isAgg196
  z46 := Try.sizeOf196
  v46 := Try.zeroValue196
  t51 := Try.underlying213
  a51 := Try.isAgg213
  z51 := Try.sizeOf213
  v51 := Try.zeroValue213
  t53 := Try.underlying215
  a53 := Try.isAgg215
  z53 := Try.sizeOf215
  v53 := Try.zeroValue215
  t131 := Try.underlying189
  a131 := Try.isAgg189
  z131 := Try.sizeOf189
  v131 := Try.zeroValue189
  t182 := Try.underlying206
  a182 := Try.isAgg206
  z182 := Try.sizeOf206
  v182 := Try.zeroValue206
  t183 := Try.underlying207
  a183 := Try.isAgg207
  z183 := Try.sizeOf207
  v183 := Try.zeroValue207
  t218 := Try.underlying219
  a218 := Try.isAgg219
  z218 := Try.sizeOf219
  v218 := Try.zeroValue219
  t222 := Try.underlying223
  a222 := Try.isAgg223
  z222 := Try.sizeOf223
  v222 := Try.zeroValue223
  t228 := Try.underlying225
  a228 := Try.isAgg225
  z228 := Try.sizeOf225
  v228 := Try.zeroValue225
  t229 := Try.underlying33
  a229 := Try.isAgg33
  z229 := Try.sizeOf33
  v229 := Try.zeroValue33 }
end Go.Proofs
