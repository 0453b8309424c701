/-
The kit's contract of slices.Sort at whole numbers, laid at this program (written by the kit's own tool).
-/
import Derived.Shelf.Sort.Plain
import Derived.Shelf.Slices.In.SortNone
import Derived.Test.YtggiijffaifajaaProg
namespace Go.Proofs
open Go.Shelf
def Try.lays189_ren:Go.Shelf.Ren:=⟨fun|189=>50|125=>64|257=>63|128=>78|129=>79|294=>69|295=>70|296=>71|297=>72|298=>73|299=>74|216=>75|300=>76|301=>77|328=>81|329=>82|330=>83|331=>84|332=>85|215=>48|343=>87|n=>n,fun|28=>25|3=>3|46=>101|0=>0|51=>114|53=>116|4=>4|183=>106|182=>105|131=>111|5=>5|9=>9|218=>117|222=>121|228=>123|229=>124|n=>n,fun|n=>n⟩
theorem Try.lays189:Go.Proofs.Lays.n189 Try.prog Try.lays189_ren:={
  mixed:=by kernel_rfl
  f125:=Try.func64.trans (congrArg some (by kernel_rfl))
  f128:=Try.func78.trans (congrArg some (by kernel_rfl))
  f129:=Try.func79.trans (congrArg some (by kernel_rfl))
  f189:=Try.func50.trans (congrArg some (by kernel_rfl))
  f215:=Try.func48.trans (congrArg some (by kernel_rfl))
  f216:=Try.func75.trans (congrArg some (by kernel_rfl))
  f257:=Try.func63.trans (congrArg some (by kernel_rfl))
  f294:=Try.func69.trans (congrArg some (by kernel_rfl))
  f295:=Try.func70.trans (congrArg some (by kernel_rfl))
  f296:=Try.func71.trans (congrArg some (by kernel_rfl))
  f297:=Try.func72.trans (congrArg some (by kernel_rfl))
  f298:=Try.func73.trans (congrArg some (by kernel_rfl))
  f299:=Try.func74.trans (congrArg some (by kernel_rfl))
  f300:=Try.func76.trans (congrArg some (by kernel_rfl))
  f301:=Try.func77.trans (congrArg some (by kernel_rfl))
  f328:=Try.func81.trans (congrArg some (by kernel_rfl))
  f329:=Try.func82.trans (congrArg some (by kernel_rfl))
  f330:=Try.func83.trans (congrArg some (by kernel_rfl))
  f331:=Try.func84.trans (congrArg some (by kernel_rfl))
  f332:=Try.func85.trans (congrArg some (by kernel_rfl))
  f343:=Try.func87.trans (congrArg some (by kernel_rfl))
  t0:=Try.underlying0
  a0:=Try.isAgg0
  z0:=Try.sizeOf0
  v0:=Try.zeroValue0
  t3:=Try.underlying3
  a3:=Try.isAgg3
  z3:=Try.sizeOf3
  v3:=Try.zeroValue3
  t4:=Try.underlying4
  a4:=Try.isAgg4
  z4:=Try.sizeOf4
  v4:=Try.zeroValue4
  t5:=Try.underlying5
  a5:=Try.isAgg5
  z5:=Try.sizeOf5
  v5:=Try.zeroValue5
  t9:=Try.underlying9
  a9:=Try.isAgg9
  z9:=Try.sizeOf9
  v9:=Try.zeroValue9
  t28:=Try.underlying25
  a28:=Try.isAgg25
  z28:=Try.sizeOf25
  v28:=Try.zeroValue25
  t46:=Try.underlying101
  a46:=Try.isAgg101
  z46:=Try.sizeOf101
  v46:=Try.zeroValue101
  t51:=Try.underlying114
  a51:=Try.isAgg114
  z51:=Try.sizeOf114
  v51:=Try.zeroValue114
  t53:=Try.underlying116
  a53:=Try.isAgg116
  z53:=Try.sizeOf116
  v53:=Try.zeroValue116
  t131:=Try.underlying111
  a131:=Try.isAgg111
  z131:=Try.sizeOf111
  v131:=Try.zeroValue111
  t182:=Try.underlying105
  a182:=Try.isAgg105
  z182:=Try.sizeOf105
  v182:=Try.zeroValue105
  t183:=Try.underlying106
  a183:=Try.isAgg106
  z183:=Try.sizeOf106
  v183:=Try.zeroValue106
  t218:=Try.underlying117
  a218:=Try.isAgg117
  z218:=Try.sizeOf117
  v218:=Try.zeroValue117
  t222:=Try.underlying121
  a222:=Try.isAgg121
  z222:=Try.sizeOf121
  v222:=Try.zeroValue121
  t228:=Try.underlying123
  a228:=Try.isAgg123
  z228:=Try.sizeOf123
  v228:=Try.zeroValue123
  t229:=Try.underlying124
  a229:=Try.isAgg124
  z229:=Try.sizeOf124
  v229:=Try.zeroValue124 }
end Go.Proofs
