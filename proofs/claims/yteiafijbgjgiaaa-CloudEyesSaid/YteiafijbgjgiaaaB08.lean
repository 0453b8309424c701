/-
The kit's contract of slices.Sort at whole numbers, laid at this program (written by the kit's own tool).
-/
import Derived.Shelf.Sort.Plain
import Derived.Shelf.Slices.In.SortNone
import Derived.Test.YteiafijbgjgiaaaProg
namespace Go.Proofs
open Go.Shelf
def Try.lays189_ren : Go.Shelf.Ren := ⟨fun | 189 => 106 | 125 => 123 | 257 => 122 | 128 => 140 | 129 => 141 | 294 => 131 | 295 => 132 | 296 => 133 | 297 => 134 | 298 => 135 | 299 => 136 | 216 => 137 | 300 => 138 | 301 => 139 | 328 => 144 | 329 => 145 | 330 => 146 | 331 => 147 | 332 => 148 | 215 => 112 | 343 => 150 | n => n, fun | 28 => 41 | 3 => 3 | 46 => 161 | 0 => 0 | 51 => 176 | 53 => 178 | 4 => 4 | 183 => 169 | 182 => 168 | 131 => 36 | 5 => 5 | 9 => 9 | 218 => 181 | 222 => 185 | 228 => 187 | 229 => 47 | n => n, fun | n => n⟩
theorem Try.lays189 : Go.Proofs.Lays.n189 Try.prog Try.lays189_ren := {
  mixed := by kernel_rfl
  f125 := Try.func123.trans (congrArg some (by kernel_rfl))
  f128 := Try.func140.trans (congrArg some (by kernel_rfl))
  f129 := Try.func141.trans (congrArg some (by kernel_rfl))
  f189 := Try.func106.trans (congrArg some (by kernel_rfl))
  f215 := Try.func112.trans (congrArg some (by kernel_rfl))
  f216 := Try.func137.trans (congrArg some (by kernel_rfl))
  f257 := Try.func122.trans (congrArg some (by kernel_rfl))
  f294 := Try.func131.trans (congrArg some (by kernel_rfl))
  f295 := Try.func132.trans (congrArg some (by kernel_rfl))
  f296 := Try.func133.trans (congrArg some (by kernel_rfl))
  f297 := Try.func134.trans (congrArg some (by kernel_rfl))
  f298 := Try.func135.trans (congrArg some (by kernel_rfl))
  f299 := Try.func136.trans (congrArg some (by kernel_rfl))
  f300 := Try.func138.trans (congrArg some (by kernel_rfl))
  f301 := Try.func139.trans (congrArg some (by kernel_rfl))
  f328 := Try.func144.trans (congrArg some (by kernel_rfl))
  f329 := Try.func145.trans (congrArg some (by kernel_rfl))
  f330 := Try.func146.trans (congrArg some (by kernel_rfl))
  f331 := Try.func147.trans (congrArg some (by kernel_rfl))
  f332 := Try.func148.trans (congrArg some (by kernel_rfl))
  f343 := Try.func150.trans (congrArg some (by kernel_rfl))
  t0 := Try.underlying0
  a0 := Try.isAgg0
  z0 := Try.sizeOf0
  v0 := Try.zeroValue0
  t3 := Try.underlying3
  a3 := Try.isAgg3
  z3 := Try.sizeOf3
  v3 := Try.zeroValue3
  t4 := Try.underlying4
  a4 := Try.isAgg4
  z4 := Try.sizeOf4
  v4 := Try.zeroValue4
  t5 := Try.underlying5
  a5 := Try.isAgg5
  z5 := Try.sizeOf5
  v5 := Try.zeroValue5
  t9 := Try.underlying9
  a9 := Try.isAgg9
  z9 := Try.sizeOf9
  v9 := Try.zeroValue9
  t28 := Try.underlying41
  a28 := Try.isAgg41
  z28 := Try.sizeOf41
  v28 := Try.zeroValue41
  t46 := Try.underlying161
  a46 := Try.isAgg161
  z46 := Try.sizeOf161
  v46 := Try.zeroValue161
  t51 := Try.underlying176
  a51 := Try.isAgg176
  z51 := Try.sizeOf176
  v51 := Try.zeroValue176
  t53 := Try.underlying178
  a53 := Try.isAgg178
  z53 := Try.sizeOf178
  v53 := Try.zeroValue178
  t131 := Try.underlying36
  a131 := Try.isAgg36
  z131 := Try.sizeOf36
  v131 := Try.zeroValue36
  t182 := Try.underlying168
  a182 := Try.isAgg168
  z182 := Try.sizeOf168
  v182 := Try.zeroValue168
  t183 := Try.underlying169
  a183 := Try.isAgg169
  z183 := Try.sizeOf169
  v183 := Try.zeroValue169
  t218 := Try.underlying181
  a218 := Try.isAgg181
  z218 := Try.sizeOf181
  v218 := Try.zeroValue181
  t222 := Try.underlying185
  a222 := Try.isAgg185
  z222 := Try.sizeOf185
  v222 := Try.zeroValue185
  t228 := Try.underlying187
  a228 := Try.isAgg187
  z228 := Try.sizeOf187
  v228 := Try.zeroValue187
  t229 := Try.underlying47
  a229 := Try.isAgg47
  z229 := Try.sizeOf47
  v229 := Try.zeroValue47 }
end Go.Proofs
