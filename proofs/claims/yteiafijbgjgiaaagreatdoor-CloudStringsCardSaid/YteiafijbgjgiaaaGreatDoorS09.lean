/-
The kit's contract of slices.Sort at whole numbers, laid at this program (written by the kit's own tool).
-/
import Derived.Shelf.Sort.Plain
import Derived.Shelf.Slices.In.SortNone
import Derived.Test.YteiafijbgjgiaaaGreatDoorProg
namespace Go.Proofs
open Go.Shelf
def Tryz.lays189_ren:Go.Shelf.Ren:=⟨fun|189=>81|125=>101|257=>100|128=>125|129=>126|294=>116|295=>117|296=>118|297=>119|298=>120|299=>121|216=>122|300=>123|301=>124|328=>140|329=>141|330=>142|331=>143|332=>144|215=>77|343=>154|n=>n,fun|28=>22|3=>3|46=>147|0=>0|51=>169|53=>171|4=>4|183=>162|182=>161|131=>118|5=>5|9=>9|218=>188|222=>192|228=>203|229=>74|n=>n,fun|n=>n⟩
theorem Tryz.lays189:Go.Proofs.Lays.n189 Tryz.prog Tryz.lays189_ren:={
  mixed:=by kernel_rfl
  f125:=Tryz.func101.trans (congrArg some (by kernel_rfl))
  f128:=Tryz.func125.trans (congrArg some (by kernel_rfl))
  f129:=Tryz.func126.trans (congrArg some (by kernel_rfl))
  f189:=Tryz.func81.trans (congrArg some (by kernel_rfl))
  f215:=Tryz.func77.trans (congrArg some (by kernel_rfl))
  f216:=Tryz.func122.trans (congrArg some (by kernel_rfl))
  f257:=Tryz.func100.trans (congrArg some (by kernel_rfl))
  f294:=Tryz.func116.trans (congrArg some (by kernel_rfl))
  f295:=Tryz.func117.trans (congrArg some (by kernel_rfl))
  f296:=Tryz.func118.trans (congrArg some (by kernel_rfl))
  f297:=Tryz.func119.trans (congrArg some (by kernel_rfl))
  f298:=Tryz.func120.trans (congrArg some (by kernel_rfl))
  f299:=Tryz.func121.trans (congrArg some (by kernel_rfl))
  f300:=Tryz.func123.trans (congrArg some (by kernel_rfl))
  f301:=Tryz.func124.trans (congrArg some (by kernel_rfl))
  f328:=Tryz.func140.trans (congrArg some (by kernel_rfl))
  f329:=Tryz.func141.trans (congrArg some (by kernel_rfl))
  f330:=Tryz.func142.trans (congrArg some (by kernel_rfl))
  f331:=Tryz.func143.trans (congrArg some (by kernel_rfl))
  f332:=Tryz.func144.trans (congrArg some (by kernel_rfl))
  f343:=Tryz.func154.trans (congrArg some (by kernel_rfl))
  t0:=Tryz.underlying0
  a0:=Tryz.isAgg0
  z0:=Tryz.sizeOf0
  v0:=Tryz.zeroValue0
  t3:=Tryz.underlying3
  a3:=Tryz.isAgg3
  z3:=Tryz.sizeOf3
  v3:=Tryz.zeroValue3
  t4:=Tryz.underlying4
  a4:=Tryz.isAgg4
  z4:=Tryz.sizeOf4
  v4:=Tryz.zeroValue4
  t5:=Tryz.underlying5
  a5:=Tryz.isAgg5
  z5:=Tryz.sizeOf5
  v5:=Tryz.zeroValue5
  t9:=Tryz.underlying9
  a9:=Tryz.isAgg9
  z9:=Tryz.sizeOf9
  v9:=Tryz.zeroValue9
  t28:=Tryz.underlying22
  a28:=Tryz.isAgg22
  z28:=Tryz.sizeOf22
  v28:=Tryz.zeroValue22
  t46:=Tryz.underlying147
  a46:=Tryz.isAgg147
  z46:=Tryz.sizeOf147
  v46:=Tryz.zeroValue147
  t51:=Tryz.underlying169
  a51:=Tryz.isAgg169
  z51:=Tryz.sizeOf169
  v51:=Tryz.zeroValue169
  t53:=Tryz.underlying171
  a53:=Tryz.isAgg171
  z53:=Tryz.sizeOf171
  v53:=Tryz.zeroValue171
  t131:=Tryz.underlying118
  a131:=Tryz.isAgg118
  z131:=Tryz.sizeOf118
  v131:=Tryz.zeroValue118
  t182:=Tryz.underlying161
  a182:=Tryz.isAgg161
  z182:=Tryz.sizeOf161
  v182:=Tryz.zeroValue161
  t183:=Tryz.underlying162
  a183:=Tryz.isAgg162
  z183:=Tryz.sizeOf162
  v183:=Tryz.zeroValue162
  t218:=Tryz.underlying188
  a218:=Tryz.isAgg188
  z218:=Tryz.sizeOf188
  v218:=Tryz.zeroValue188
  t222:=Tryz.underlying192
  a222:=Tryz.isAgg192
  z222:=Tryz.sizeOf192
  v222:=Tryz.zeroValue192
  t228:=Tryz.underlying203
  a228:=Tryz.isAgg203
  z228:=Tryz.sizeOf203
  v228:=Tryz.zeroValue203
  t229:=Tryz.underlying74
  a229:=Tryz.isAgg74
  z229:=Tryz.sizeOf74
  v229:=Tryz.zeroValue74 }
end Go.Proofs
