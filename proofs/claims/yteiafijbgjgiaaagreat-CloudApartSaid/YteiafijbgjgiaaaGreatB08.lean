/-
The kit's contract of slices.Sort at whole numbers, laid at this program (written by the kit's own tool).
-/
import Derived.Shelf.Sort.Plain
import Derived.Shelf.Slices.In.SortNone
import Derived.Test.YteiafijbgjgiaaaGreatProg
namespace Go.Proofs
open Go.Shelf
def Tryz.lays189_ren:Go.Shelf.Ren:=⟨fun|189=>111|125=>133|257=>132|128=>153|129=>154|294=>144|295=>145|296=>146|297=>147|298=>148|299=>149|216=>150|300=>151|301=>152|328=>158|329=>159|330=>160|331=>161|332=>162|215=>107|343=>164|n=>n,fun|28=>22|3=>3|46=>181|0=>0|51=>193|53=>195|4=>4|183=>187|182=>186|131=>149|5=>5|9=>9|218=>197|222=>201|228=>203|229=>91|n=>n,fun|n=>n⟩
theorem Tryz.lays189:Go.Proofs.Lays.n189 Tryz.prog Tryz.lays189_ren:={
  mixed:=by kernel_rfl
  f125:=Tryz.func133.trans (congrArg some (by kernel_rfl))
  f128:=Tryz.func153.trans (congrArg some (by kernel_rfl))
  f129:=Tryz.func154.trans (congrArg some (by kernel_rfl))
  f189:=Tryz.func111.trans (congrArg some (by kernel_rfl))
  f215:=Tryz.func107.trans (congrArg some (by kernel_rfl))
  f216:=Tryz.func150.trans (congrArg some (by kernel_rfl))
  f257:=Tryz.func132.trans (congrArg some (by kernel_rfl))
  f294:=Tryz.func144.trans (congrArg some (by kernel_rfl))
  f295:=Tryz.func145.trans (congrArg some (by kernel_rfl))
  f296:=Tryz.func146.trans (congrArg some (by kernel_rfl))
  f297:=Tryz.func147.trans (congrArg some (by kernel_rfl))
  f298:=Tryz.func148.trans (congrArg some (by kernel_rfl))
  f299:=Tryz.func149.trans (congrArg some (by kernel_rfl))
  f300:=Tryz.func151.trans (congrArg some (by kernel_rfl))
  f301:=Tryz.func152.trans (congrArg some (by kernel_rfl))
  f328:=Tryz.func158.trans (congrArg some (by kernel_rfl))
  f329:=Tryz.func159.trans (congrArg some (by kernel_rfl))
  f330:=Tryz.func160.trans (congrArg some (by kernel_rfl))
  f331:=Tryz.func161.trans (congrArg some (by kernel_rfl))
  f332:=Tryz.func162.trans (congrArg some (by kernel_rfl))
  f343:=Tryz.func164.trans (congrArg some (by kernel_rfl))
  t0:=Tryz.underlying0
  a0:=Tryz.isAgg0
  z0:=Tryz.sizeOf0
  v0:=Tryz.zeroValue0
  t3:=Tryz.underlying3
  a3:=Tryz.isAgg3
  z3:=Tryz.sizeOf3
  v3:=Tryz.zeroValue3
  t4:=Tryz.underlying4
  a4:=Tryz.isAgg4
  z4:=Tryz.sizeOf4
  v4:=Tryz.zeroValue4
  t5:=Tryz.underlying5
  a5:=Tryz.isAgg5
  z5:=Tryz.sizeOf5
  v5:=Tryz.zeroValue5
  t9:=Tryz.underlying9
  a9:=Tryz.isAgg9
  z9:=Tryz.sizeOf9
  v9:=Tryz.zeroValue9
  t28:=Tryz.underlying22
  a28:=Tryz.isAgg22
  z28:=Tryz.sizeOf22
  v28:=Tryz.zeroValue22
  t46:=Tryz.underlying181
  a46:=Tryz.isAgg181
  z46:=Tryz.sizeOf181
  v46:=Tryz.zeroValue181
  t51:=Tryz.underlying193
  a51:=Tryz.isAgg193
  z51:=Tryz.sizeOf193
  v51:=Tryz.zeroValue193
  t53:=Tryz.underlying195
  a53:=Tryz.isAgg195
  z53:=Tryz.sizeOf195
  v53:=Tryz.zeroValue195
  t131:=Tryz.underlying149
  a131:=Tryz.isAgg149
  z131:=Tryz.sizeOf149
  v131:=Tryz.zeroValue149
  t182:=Tryz.underlying186
  a182:=Tryz.isAgg186
  z182:=Tryz.sizeOf186
  v182:=Tryz.zeroValue186
  t183:=Tryz.underlying187
  a183:=Tryz.isAgg187
  z183:=Tryz.sizeOf187
  v183:=Tryz.zeroValue187
  t218:=Tryz.underlying197
  a218:=Tryz.isAgg197
  z218:=Tryz.sizeOf197
  v218:=Tryz.zeroValue197
  t222:=Tryz.underlying201
  a222:=Tryz.isAgg201
  z222:=Tryz.sizeOf201
  v222:=Tryz.zeroValue201
  t228:=Tryz.underlying203
  a228:=Tryz.isAgg203
  z228:=Tryz.sizeOf203
  v228:=Tryz.zeroValue203
  t229:=Tryz.underlying91
  a229:=Tryz.isAgg91
  z229:=Tryz.sizeOf91
  v229:=Tryz.zeroValue91 }
end Go.Proofs
