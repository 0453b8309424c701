/-
The kit's contract of slices.Sort at whole numbers, laid at this program (written by the kit's own tool).
-/
import Derived.Shelf.Sort.Plain
import Derived.Shelf.Slices.In.SortNone
import Derived.Test.YtjnkphmcndaijaaDoorProg
namespace Go.Proofs
open Go.Shelf
def Tryd.lays189_ren : Go.Shelf.Ren := ⟨fun | 189 => 130 | 125 => 144 | 257 => 143 | 128 => 163 | 129 => 164 | 294 => 154 | 295 => 155 | 296 => 156 | 297 => 157 | 298 => 158 | 299 => 159 | 216 => 160 | 300 => 161 | 301 => 162 | 328 => 169 | 329 => 170 | 330 => 171 | 331 => 172 | 332 => 173 | 215 => 174 | 343 => 175 | n => n, fun | 28 => 22 | 3 => 3 | 46 => 164 | 0 => 0 | 51 => 177 | 53 => 179 | 4 => 4 | 183 => 171 | 182 => 170 | 131 => 143 | 5 => 5 | 9 => 9 | 218 => 181 | 222 => 185 | 228 => 187 | 229 => 74 | n => n, fun | n => n⟩
theorem Tryd.lays189 : Go.Proofs.Lays.n189 Tryd.prog Tryd.lays189_ren := {
  mixed := by kernel_rfl
  f125 := Tryd.func144.trans (congrArg some (by kernel_rfl))
  f128 := Tryd.func163.trans (congrArg some (by kernel_rfl))
  f129 := Tryd.func164.trans (congrArg some (by kernel_rfl))
  f189 := Tryd.func130.trans (congrArg some (by kernel_rfl))
  f215 := Tryd.func174.trans (congrArg some (by kernel_rfl))
  f216 := Tryd.func160.trans (congrArg some (by kernel_rfl))
  f257 := Tryd.func143.trans (congrArg some (by kernel_rfl))
  f294 := Tryd.func154.trans (congrArg some (by kernel_rfl))
  f295 := Tryd.func155.trans (congrArg some (by kernel_rfl))
  f296 := Tryd.func156.trans (congrArg some (by kernel_rfl))
  f297 := Tryd.func157.trans (congrArg some (by kernel_rfl))
  f298 := Tryd.func158.trans (congrArg some (by kernel_rfl))
  f299 := Tryd.func159.trans (congrArg some (by kernel_rfl))
  f300 := Tryd.func161.trans (congrArg some (by kernel_rfl))
  f301 := Tryd.func162.trans (congrArg some (by kernel_rfl))
  f328 := Tryd.func169.trans (congrArg some (by kernel_rfl))
  f329 := Tryd.func170.trans (congrArg some (by kernel_rfl))
  f330 := Tryd.func171.trans (congrArg some (by kernel_rfl))
  f331 := Tryd.func172.trans (congrArg some (by kernel_rfl))
  f332 := Tryd.func173.trans (congrArg some (by kernel_rfl))
  f343 := Tryd.func175.trans (congrArg some (by kernel_rfl))
  t0 := Tryd.underlying0
  a0 := Tryd.isAgg0
  z0 := Tryd.sizeOf0
  v0 := Tryd.zeroValue0
  t3 := Tryd.underlying3
  a3 := Tryd.isAgg3
  z3 := Tryd.sizeOf3
  v3 := Tryd.zeroValue3
  t4 := Tryd.underlying4
  a4 := Tryd.isAgg4
  z4 := Tryd.sizeOf4
  v4 := Tryd.zeroValue4
  t5 := Tryd.underlying5
  a5 := Tryd.isAgg5
  z5 := Tryd.sizeOf5
  v5 := Tryd.zeroValue5
  t9 := Tryd.underlying9
  a9 := Tryd.isAgg9
  z9 := Tryd.sizeOf9
  v9 := Tryd.zeroValue9
  t28 := Tryd.underlying22
  a28 := Tryd.isAgg22
  z28 := Tryd.sizeOf22
  v28 := Tryd.zeroValue22
  t46 := Tryd.underlying164
  a46 := Tryd.isAgg164
  z46 := Tryd.sizeOf164
  v46 := Tryd.zeroValue164
  t51 := Tryd.underlying177
  a51 := Tryd.isAgg177
  z51 := Tryd.sizeOf177
  v51 := Tryd.zeroValue177
  t53 := Tryd.underlying179
  a53 := Tryd.isAgg179
  z53 := Tryd.sizeOf179
  v53 := Tryd.zeroValue179
  t131 := Tryd.underlying143
  a131 := Tryd.isAgg143
  z131 := Tryd.sizeOf143
  v131 := Tryd.zeroValue143
  t182 := Tryd.underlying170
  a182 := Tryd.isAgg170
  z182 := Tryd.sizeOf170
  v182 := Tryd.zeroValue170
  t183 := Tryd.underlying171
  a183 := Tryd.isAgg171
  z183 := Tryd.sizeOf171
  v183 := Tryd.zeroValue171
  t218 := Tryd.underlying181
  a218 := Tryd.isAgg181
  z218 := Tryd.sizeOf181
  v218 := Tryd.zeroValue181
  t222 := Tryd.underlying185
  a222 := Tryd.isAgg185
  z222 := Tryd.sizeOf185
  v222 := Tryd.zeroValue185
  t228 := Tryd.underlying187
  a228 := Tryd.isAgg187
  z228 := Tryd.sizeOf187
  v228 := Tryd.zeroValue187
  t229 := Tryd.underlying74
  a229 := Tryd.isAgg74
  z229 := Tryd.sizeOf74
  v229 := Tryd.zeroValue74 }
end Go.Proofs
