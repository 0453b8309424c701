/-
The kit's contracts of the library's functions, laid at this program (written by the kit's own tool).
-/
import Derived.Shelf.Strings.Builder1
import Derived.Shelf.Strings.Builder2
import Derived.Shelf.Strings.OnBuilder
import Derived.Shelf.Small.Bits
import Derived.Shelf.Strconv.Atoi
import Derived.Shelf.Strconv.Itoa0
import Derived.Shelf.Strconv.Itoa1
import Derived.Shelf.LaysM
import Derived.Shelf.Strconv.Itoa2
import Derived.Shelf.Strconv.Itoa3
import Derived.Shelf.Strconv.AtoiErrFast
import Derived.Shelf.Strconv.ParseIntEmpty
import Derived.Shelf.Strconv.AtoiFail
import Derived.Shelf.Strconv.Clone
import Derived.Shelf.Strconv.SyntaxError
import Derived.Shelf.LaysC
import Derived.Shelf.Strconv.ToError
import Derived.Shelf.Strconv.Lower
import Derived.Shelf.Strconv.ParseUint10
import Derived.Shelf.Strconv.ParseUint10Empty
import Derived.Shelf.Strconv.ParseUint10Any
import Derived.Shelf.Strconv.ParseInt10
import Derived.Shelf.Strconv.AtoiLong
import Derived.Shelf.Strconv.AtoiInnerAll
import Derived.Shelf.Strconv.RangeError
import Derived.Shelf.Strconv.ToErrorRange
import Derived.Shelf.Strconv.AtoiAll
import Derived.Shelf.Strconv.ErrVarAll
import Derived.Shelf.Strings.Search1
import Derived.Shelf.Strings.Search2
import Derived.Shelf.Strings.Search3
import Derived.Shelf.Strings.Shaped
import Derived.Shelf.Sort.Plain
import Derived.Shelf.Unicode.Decode
import Derived.Shelf.Unicode.DecodeSlow
import Derived.Shelf.Unicode.DecodeAny
import Derived.Ground.Names2Prog
import Derived.Shelf.Slices.CompactI
import Derived.Shelf.Slices.SearchI
import Derived.Shelf.Slices.Cells
import Derived.Shelf.Slices.In.SortNone
import Derived.Test.YteiafijbgjgiaaaGreatDoorProg
namespace Go.Proofs
open Go.Shelf
def Tryz.lays156_ren:Go.Shelf.Ren:=⟨fun|156=>29|165=>55|166=>56|169=>57|240=>85|241=>86|276=>103|277=>104|n=>n,fun|31=>62|9=>9|3=>3|4=>4|0=>0|20=>20|72=>106|76=>110|70=>103|37=>104|75=>109|127=>131|164=>149|5=>5|80=>112|n=>n,fun|n=>n⟩
theorem Tryz.lays156:Go.Proofs.Lays.n156 Tryz.prog Tryz.lays156_ren:={
  mixed:=by kernel_rfl
  f156:=Tryz.func29.trans (congrArg some (by kernel_rfl))
  f165:=Tryz.func55.trans (congrArg some (by kernel_rfl))
  f166:=Tryz.func56.trans (congrArg some (by kernel_rfl))
  f169:=Tryz.func57.trans (congrArg some (by kernel_rfl))
  f240:=Tryz.func85.trans (congrArg some (by kernel_rfl))
  f241:=Tryz.func86.trans (congrArg some (by kernel_rfl))
  f276:=Tryz.func103.trans (congrArg some (by kernel_rfl))
  f277:=Tryz.func104.trans (congrArg some (by kernel_rfl))
  t0:=Tryz.underlying0
  a0:=Tryz.isAgg0
  z0:=Tryz.sizeOf0
  v0:=Tryz.zeroValue0
  t3:=Tryz.underlying3
  a3:=Tryz.isAgg3
  z3:=Tryz.sizeOf3
  v3:=Tryz.zeroValue3
  t4:=Tryz.underlying4
  a4:=Tryz.isAgg4
  z4:=Tryz.sizeOf4
  v4:=Tryz.zeroValue4
  t9:=Tryz.underlying9
  a9:=Tryz.isAgg9
  z9:=Tryz.sizeOf9
  v9:=Tryz.zeroValue9
  t20:=Tryz.underlying20
  a20:=Tryz.isAgg20
  z20:=Tryz.sizeOf20
  v20:=Tryz.zeroValue20
  t31:=Tryz.underlying62
  a31:=Tryz.isAgg62
  z31:=Tryz.sizeOf62
  v31:=Tryz.zeroValue62
  t37:=Tryz.underlying104
  a37:=Tryz.isAgg104
  z37:=Tryz.sizeOf104
  v37:=Tryz.zeroValue104
  t70:=Tryz.underlying103
  a70:=Tryz.isAgg103
  z70:=Tryz.sizeOf103
  v70:=Tryz.zeroValue103
  t72:=Tryz.underlying106
  a72:=Tryz.isAgg106
  z72:=Tryz.sizeOf106
  v72:=Tryz.zeroValue106
  t75:=Tryz.underlying109
  a75:=Tryz.isAgg109
  z75:=Tryz.sizeOf109
  v75:=Tryz.zeroValue109
  t76:=Tryz.underlying110
  a76:=Tryz.isAgg110
  z76:=Tryz.sizeOf110
  v76:=Tryz.zeroValue110
  t127:=Tryz.underlying131
  a127:=Tryz.isAgg131
  z127:=Tryz.sizeOf131
  v127:=Tryz.zeroValue131
  t164:=Tryz.underlying149
  a164:=Tryz.isAgg149
  z164:=Tryz.sizeOf149
  v164:=Tryz.zeroValue149 }
theorem Tryz.Builder_Extra_156:Builder.Extra Tryz.prog Tryz.lays156_ren:={
  sizeBuilder:=by kernel_rfl
  liesBuilder:=by kernel_rfl
  t5:=Tryz.underlying5
  a5:=Tryz.isAgg5
  z5:=Tryz.sizeOf5
  v5:=Tryz.zeroValue5
  infoByte:=by kernel_rfl
  cellsByte:=by kernel_rfl
  sizeByte:=by kernel_rfl
  neB5:=by decide }
open Go.RowKit in
theorem Tryz.strings_Join_none (a:Option Addr) (c:Nat) (sep:ByteArray) (w:World):
    Calls Tryz.prog 29 #[.slice a 0 c,.string sep] w fun e w'=>e= .returned (.string ⟨#[]⟩)∧w'=w:=Any.strings_Join_none Tryz.lays156 Tryz.Builder_Extra_156 a c sep w
open Go.RowKit in
theorem Tryz.strings_Join (bk o c:Nat) (xs:List ByteArray) (sep:ByteArray) (w:World) (hcells:∀ (j:Nat) x,xs[j]?=some x→w.cell? ⟨bk,o+j,none⟩=some (.string x)) (hbk:bk<w.heap.size) (hN:xs.length≤140737488355328) (hcap:xs.length≤c) (hlen:(Lib.join (xs.map (·.data.toList)) sep.data.toList).length≤140737488355328):
    Calls Tryz.prog 29 #[.slice (some ⟨bk,o,none⟩) xs.length c,.string sep] w fun e w'=>e= .returned (.string ⟨(Lib.join (xs.map (·.data.toList)) sep.data.toList).toArray⟩)∧Below w.heap.size w w':=Any.strings_Join Tryz.lays156 Tryz.Builder_Extra_156 bk o c xs sep w hcells hbk hN hcap hlen
def Tryz.laysM171_ren:Go.Shelf.Ren:=⟨fun|171=>54|243=>84|246=>102|283=>127|284=>128|285=>129|286=>130|129=>126|317=>145|318=>146|319=>147|320=>148|337=>155|338=>156|n=>n,fun|3=>3|9=>9|2=>2|4=>4|171=>172|0=>0|53=>171|37=>104|5=>5|173=>174|212=>195|51=>169|20=>20|213=>196|46=>147|232=>205|233=>206|n=>n,fun|17=>5|18=>6|19=>7|n=>n⟩
theorem Tryz.laysM171:Go.Proofs.LaysM.n171 Tryz.prog Tryz.laysM171_ren:={
  mixed:=by kernel_rfl
  f129:=Tryz.func126.trans (congrArg some (by kernel_rfl))
  f171:=Tryz.func54.trans (congrArg some (by kernel_rfl))
  f243:=Tryz.func84.trans (congrArg some (by kernel_rfl))
  f246:=Tryz.func102.trans (congrArg some (by kernel_rfl))
  f283:=Tryz.func127.trans (congrArg some (by kernel_rfl))
  f284:=Tryz.func128.trans (congrArg some (by kernel_rfl))
  f285:=Tryz.func129.trans (congrArg some (by kernel_rfl))
  f286:=Tryz.func130.trans (congrArg some (by kernel_rfl))
  f317:=Tryz.func145.trans (congrArg some (by kernel_rfl))
  f318:=Tryz.func146.trans (congrArg some (by kernel_rfl))
  f319:=Tryz.func147.trans (congrArg some (by kernel_rfl))
  f320:=Tryz.func148.trans (congrArg some (by kernel_rfl))
  f337:=Tryz.func155.trans (congrArg some (by kernel_rfl))
  f338:=Tryz.func156.trans (congrArg some (by kernel_rfl))
  t0:=Tryz.underlying0
  a0:=Tryz.isAgg0
  z0:=Tryz.sizeOf0
  v0:=Tryz.zeroValue0
  t2:=Tryz.underlying2
  a2:=Tryz.isAgg2
  z2:=Tryz.sizeOf2
  v2:=Tryz.zeroValue2
  t3:=Tryz.underlying3
  a3:=Tryz.isAgg3
  z3:=Tryz.sizeOf3
  v3:=Tryz.zeroValue3
  t4:=Tryz.underlying4
  a4:=Tryz.isAgg4
  z4:=Tryz.sizeOf4
  v4:=Tryz.zeroValue4
  t5:=Tryz.underlying5
  a5:=Tryz.isAgg5
  z5:=Tryz.sizeOf5
  v5:=Tryz.zeroValue5
  t9:=Tryz.underlying9
  a9:=Tryz.isAgg9
  z9:=Tryz.sizeOf9
  v9:=Tryz.zeroValue9
  t20:=Tryz.underlying20
  a20:=Tryz.isAgg20
  z20:=Tryz.sizeOf20
  v20:=Tryz.zeroValue20
  t37:=Tryz.underlying104
  a37:=Tryz.isAgg104
  z37:=Tryz.sizeOf104
  v37:=Tryz.zeroValue104
  t46:=Tryz.underlying147
  a46:=Tryz.isAgg147
  z46:=Tryz.sizeOf147
  v46:=Tryz.zeroValue147
  t51:=Tryz.underlying169
  a51:=Tryz.isAgg169
  z51:=Tryz.sizeOf169
  v51:=Tryz.zeroValue169
  t53:=Tryz.underlying171
  a53:=Tryz.isAgg171
  z53:=Tryz.sizeOf171
  v53:=Tryz.zeroValue171
  t171:=Tryz.underlying172
  a171:=Tryz.isAgg172
  z171:=Tryz.sizeOf172
  v171:=Tryz.zeroValue172
  t173:=Tryz.underlying174
  a173:=Tryz.isAgg174
  z173:=Tryz.sizeOf174
  v173:=Tryz.zeroValue174
  t212:=Tryz.underlying195
  a212:=Tryz.isAgg195
  z212:=Tryz.sizeOf195
  v212:=Tryz.zeroValue195
  t213:=Tryz.underlying196
  a213:=Tryz.isAgg196
  z213:=Tryz.sizeOf196
  t232:=Tryz.underlying205
  a232:=Tryz.isAgg205
  z232:=Tryz.sizeOf205
  v232:=Tryz.zeroValue205
  t233:=Tryz.underlying206
  a233:=Tryz.isAgg206
  z233:=Tryz.sizeOf206
  v233:=Tryz.zeroValue206
  g17:=by kernel_rfl
  g18:=by kernel_rfl
  g19:=by kernel_rfl
  i0:=by kernel_rfl
  i2:=by kernel_rfl
  i3:=by kernel_rfl
  i4:=by kernel_rfl
  i5:=by kernel_rfl
  i9:=by kernel_rfl
  i20:=by kernel_rfl
  i37:=by kernel_rfl
  i46:=by kernel_rfl
  i51:=by kernel_rfl
  i53:=by kernel_rfl
  i171:=by kernel_rfl
  i173:=by kernel_rfl
  i212:=by kernel_rfl
  i232:=by kernel_rfl
  i233:=by kernel_rfl
  m17:=by kernel_rfl
  m18:=by kernel_rfl
  m19:=by kernel_rfl }
open Go.RowKit Go.Sort Go.Lib in
theorem Tryz.strconv_Itoa (n:Int) (h0: -9223372036854775808≤n) (h1:n≤9223372036854775807) (w:World) (htab:Lib.TabIs Tryz.prog w "internal/strconv.uint64pow10" .u64 Lib.pow10Tab):
    Calls Tryz.prog 54 #[.int .i64 n] w fun e w'=>e= .returned (.string ⟨(Lib.itoa n).toArray⟩)∧∃ k os,w'=grow (w.drewN k) os:=Any.strconv_Itoa Tryz.laysM171 n h0 h1 w htab
def Tryz.laysC172_ren:Go.Shelf.Ren:=⟨fun|172=>58|244=>87|245=>88|247=>105|279=>106|280=>107|281=>108|282=>109|287=>131|316=>132|171=>54|205=>133|321=>149|322=>150|243=>84|246=>102|283=>127|284=>128|285=>129|286=>130|129=>126|317=>145|318=>146|319=>147|320=>148|337=>155|338=>156|n=>n,fun|9=>9|3=>3|75=>109|76=>110|4=>4|5=>5|167=>152|37=>104|0=>0|85=>153|2=>2|168=>155|53=>171|175=>176|46=>147|210=>180|127=>131|145=>200|143=>198|21=>21|171=>172|173=>174|212=>195|51=>169|20=>20|213=>196|232=>205|233=>206|80=>112|n=>n,fun|15=>1|16=>2|17=>5|18=>6|19=>7|n=>n⟩
theorem Tryz.laysC172:Go.Proofs.LaysC.n172 Tryz.prog Tryz.laysC172_ren:={
  mixed:=by kernel_rfl
  f129:=Tryz.func126.trans (congrArg some (by kernel_rfl))
  f171:=Tryz.func54.trans (congrArg some (by kernel_rfl))
  f172:=Tryz.func58.trans (congrArg some (by kernel_rfl))
  f205:=Tryz.func133.trans (congrArg some (by kernel_rfl))
  f243:=Tryz.func84.trans (congrArg some (by kernel_rfl))
  f244:=Tryz.func87.trans (congrArg some (by kernel_rfl))
  f245:=Tryz.func88.trans (congrArg some (by kernel_rfl))
  f246:=Tryz.func102.trans (congrArg some (by kernel_rfl))
  f247:=Tryz.func105.trans (congrArg some (by kernel_rfl))
  f279:=Tryz.func106.trans (congrArg some (by kernel_rfl))
  f280:=Tryz.func107.trans (congrArg some (by kernel_rfl))
  f281:=Tryz.func108.trans (congrArg some (by kernel_rfl))
  f282:=Tryz.func109.trans (congrArg some (by kernel_rfl))
  f283:=Tryz.func127.trans (congrArg some (by kernel_rfl))
  f284:=Tryz.func128.trans (congrArg some (by kernel_rfl))
  f285:=Tryz.func129.trans (congrArg some (by kernel_rfl))
  f286:=Tryz.func130.trans (congrArg some (by kernel_rfl))
  f287:=Tryz.func131.trans (congrArg some (by kernel_rfl))
  f316:=Tryz.func132.trans (congrArg some (by kernel_rfl))
  f317:=Tryz.func145.trans (congrArg some (by kernel_rfl))
  f318:=Tryz.func146.trans (congrArg some (by kernel_rfl))
  f319:=Tryz.func147.trans (congrArg some (by kernel_rfl))
  f320:=Tryz.func148.trans (congrArg some (by kernel_rfl))
  f321:=Tryz.func149.trans (congrArg some (by kernel_rfl))
  f322:=Tryz.func150.trans (congrArg some (by kernel_rfl))
  f337:=Tryz.func155.trans (congrArg some (by kernel_rfl))
  f338:=Tryz.func156.trans (congrArg some (by kernel_rfl))
  t0:=Tryz.underlying0
  a0:=Tryz.isAgg0
  z0:=Tryz.sizeOf0
  v0:=Tryz.zeroValue0
  t2:=Tryz.underlying2
  a2:=Tryz.isAgg2
  z2:=Tryz.sizeOf2
  v2:=Tryz.zeroValue2
  t3:=Tryz.underlying3
  a3:=Tryz.isAgg3
  z3:=Tryz.sizeOf3
  v3:=Tryz.zeroValue3
  t4:=Tryz.underlying4
  a4:=Tryz.isAgg4
  z4:=Tryz.sizeOf4
  v4:=Tryz.zeroValue4
  t5:=Tryz.underlying5
  a5:=Tryz.isAgg5
  z5:=Tryz.sizeOf5
  v5:=Tryz.zeroValue5
  t9:=Tryz.underlying9
  a9:=Tryz.isAgg9
  z9:=Tryz.sizeOf9
  v9:=Tryz.zeroValue9
  t20:=Tryz.underlying20
  a20:=Tryz.isAgg20
  z20:=Tryz.sizeOf20
  v20:=Tryz.zeroValue20
  t21:=Tryz.underlying21
  a21:=Tryz.isAgg21
  z21:=Tryz.sizeOf21
  v21:=Tryz.zeroValue21
  t37:=Tryz.underlying104
  a37:=Tryz.isAgg104
  z37:=Tryz.sizeOf104
  v37:=Tryz.zeroValue104
  t46:=Tryz.underlying147
  a46:=Tryz.isAgg147
  z46:=Tryz.sizeOf147
  v46:=Tryz.zeroValue147
  t51:=Tryz.underlying169
  a51:=Tryz.isAgg169
  z51:=Tryz.sizeOf169
  v51:=Tryz.zeroValue169
  t53:=Tryz.underlying171
  a53:=Tryz.isAgg171
  z53:=Tryz.sizeOf171
  v53:=Tryz.zeroValue171
  t75:=Tryz.underlying109
  a75:=Tryz.isAgg109
  z75:=Tryz.sizeOf109
  v75:=Tryz.zeroValue109
  t76:=Tryz.underlying110
  a76:=Tryz.isAgg110
  z76:=Tryz.sizeOf110
  v76:=Tryz.zeroValue110
  t85:=Tryz.underlying153
  a85:=Tryz.isAgg153
  z85:=Tryz.sizeOf153
  v85:=Tryz.zeroValue153
  t127:=Tryz.underlying131
  a127:=Tryz.isAgg131
  z127:=Tryz.sizeOf131
  v127:=Tryz.zeroValue131
  t143:=Tryz.underlying198
  a143:=Tryz.isAgg198
  z143:=Tryz.sizeOf198
  v143:=Tryz.zeroValue198
  t145:=Tryz.underlying200
  a145:=Tryz.isAgg200
  z145:=Tryz.sizeOf200
  v145:=Tryz.zeroValue200
  t167:=Tryz.underlying152
  a167:=Tryz.isAgg152
  z167:=Tryz.sizeOf152
  v167:=Tryz.zeroValue152
  t168:=Tryz.underlying155
  a168:=Tryz.isAgg155
  z168:=Tryz.sizeOf155
  v168:=Tryz.zeroValue155
  t171:=Tryz.underlying172
  a171:=Tryz.isAgg172
  z171:=Tryz.sizeOf172
  v171:=Tryz.zeroValue172
  t173:=Tryz.underlying174
  a173:=Tryz.isAgg174
  z173:=Tryz.sizeOf174
  v173:=Tryz.zeroValue174
  t175:=Tryz.underlying176
  a175:=Tryz.isAgg176
  z175:=Tryz.sizeOf176
  v175:=Tryz.zeroValue176
  t210:=Tryz.underlying180
  a210:=Tryz.isAgg180
  z210:=Tryz.sizeOf180
  v210:=Tryz.zeroValue180
  t212:=Tryz.underlying195
  a212:=Tryz.isAgg195
  z212:=Tryz.sizeOf195
  v212:=Tryz.zeroValue195
  t213:=Tryz.underlying196
  a213:=Tryz.isAgg196
  z213:=Tryz.sizeOf196
  t232:=Tryz.underlying205
  a232:=Tryz.isAgg205
  z232:=Tryz.sizeOf205
  v232:=Tryz.zeroValue205
  t233:=Tryz.underlying206
  a233:=Tryz.isAgg206
  z233:=Tryz.sizeOf206
  v233:=Tryz.zeroValue206
  g15:=by kernel_rfl
  g16:=by kernel_rfl
  g17:=by kernel_rfl
  g18:=by kernel_rfl
  g19:=by kernel_rfl
  t80:=Tryz.underlying112
  a80:=Tryz.isAgg112
  z80:=Tryz.sizeOf112
  v80:=Tryz.zeroValue112
  i0:=by kernel_rfl
  i2:=by kernel_rfl
  i3:=by kernel_rfl
  i4:=by kernel_rfl
  i5:=by kernel_rfl
  i9:=by kernel_rfl
  i20:=by kernel_rfl
  i21:=by kernel_rfl
  i37:=by kernel_rfl
  i46:=by kernel_rfl
  i51:=by kernel_rfl
  i53:=by kernel_rfl
  i75:=by kernel_rfl
  i76:=by kernel_rfl
  i80:=by kernel_rfl
  i85:=by kernel_rfl
  i127:=by kernel_rfl
  i143:=by kernel_rfl
  i145:=by kernel_rfl
  i167:=by kernel_rfl
  i168:=by kernel_rfl
  i171:=by kernel_rfl
  i173:=by kernel_rfl
  i175:=by kernel_rfl
  i210:=by kernel_rfl
  i212:=by kernel_rfl
  i232:=by kernel_rfl
  i233:=by kernel_rfl
  m15:=by kernel_rfl
  m16:=by kernel_rfl
  m17:=by kernel_rfl
  m18:=by kernel_rfl
  m19:=by kernel_rfl
  c0:=by kernel_rfl
  c2:=by kernel_rfl
  c3:=by kernel_rfl
  c4:=by kernel_rfl
  c5:=by kernel_rfl
  c9:=by kernel_rfl
  c20:=by kernel_rfl
  c21:=by kernel_rfl
  c37:=by kernel_rfl
  c46:=by kernel_rfl
  c51:=by kernel_rfl
  c53:=by kernel_rfl
  c75:=by kernel_rfl
  c76:=by kernel_rfl
  c80:=by kernel_rfl
  c85:=by kernel_rfl
  c127:=by kernel_rfl
  c143:=by kernel_rfl
  c145:=by kernel_rfl
  c167:=by kernel_rfl
  c168:=by kernel_rfl
  c171:=by kernel_rfl
  c173:=by kernel_rfl
  c175:=by kernel_rfl
  c210:=by kernel_rfl
  c212:=by kernel_rfl
  c213:=by kernel_rfl
  c232:=by kernel_rfl
  c233:=by kernel_rfl }
open Go.RowKit in
theorem Tryz.strconv_Atoi_ok (s:ByteArray) (hmax:s.size≤9223372036854775806) (v:Int) (h:Lib.atoiAll s.data.toList= .ok v) (w:World):
    Calls Tryz.prog 58 #[.string s] w fun e w'=>e= .returned (.tuple #[.int .i64 v,.nilIface])∧(w'=w∨∃ t,w'=Lib.bytesWorld w 5 t):=Any.strconv_Atoi_ok Tryz.laysC172 s hmax v h w
open Go.RowKit in
theorem Tryz.strconv_Atoi_syntax_var (s:ByteArray) (hlim:s.size≤281474976710656) (h:(∀ v,Lib.atoiAll s.data.toList≠ .ok v)∧Lib.atoiAll s.data.toList≠ .range) (tp:TypeId) (p:Value) (w:World) (hvar:w.var? Tryz.prog "strconv.ErrSyntax" =some #[.iface tp p]):
    Calls Tryz.prog 58 #[.string s] w fun e w'=>∃ N,e= .returned (.tuple #[.int .i64 0,.iface 155 (.pointer (some ⟨N,0,none⟩))])∧w.heap.size≤N∧w'.heap[N]?=some (.cells #[.string ⟨#[65,116,111,105]⟩,.string s,.iface tp p] 180 (0,0))∧Below w.heap.size w w':=Any.strconv_Atoi_syntax_var Tryz.laysC172 s hlim (by cases e:Lib.atoiAll s.data.toList<;>first|exact absurd e (h.1 _)|exact absurd e h.2|rfl) tp p w hvar
open Go.RowKit in
theorem Tryz.strconv_Atoi_range_var (s:ByteArray) (hlim:s.size≤281474976710656) (h:Lib.atoiAll s.data.toList= .range) (tp:TypeId) (p:Value) (w:World) (hvar:w.var? Tryz.prog "strconv.ErrRange" =some #[.iface tp p]):
    Calls Tryz.prog 58 #[.string s] w fun e w'=>∃ N,e= .returned (.tuple #[.int .i64 (Lib.atoiSat s.data.toList),.iface 155 (.pointer (some ⟨N,0,none⟩))])∧w.heap.size≤N∧w'.heap[N]?=some (.cells #[.string ⟨#[65,116,111,105]⟩,.string s,.iface tp p] 180 (0,0))∧Below w.heap.size w w':=Any.strconv_Atoi_range_var Tryz.laysC172 s hlim h tp p w hvar
def Tryz.lays143_ren:Go.Shelf.Ren:=⟨fun|143=>91|219=>111|217=>134|225=>135|224=>136|267=>137|266=>151|314=>152|n=>n,fun|9=>9|3=>3|4=>4|5=>5|46=>147|146=>201|51=>169|n=>n,fun|1=>0|n=>n⟩
theorem Tryz.lays143:Go.Proofs.Lays.n143 Tryz.prog Tryz.lays143_ren:={
  mixed:=by kernel_rfl
  f143:=Tryz.func91.trans (congrArg some (by kernel_rfl))
  f217:=Tryz.func134.trans (congrArg some (by kernel_rfl))
  f219:=Tryz.func111.trans (congrArg some (by kernel_rfl))
  f224:=Tryz.func136.trans (congrArg some (by kernel_rfl))
  f225:=Tryz.func135.trans (congrArg some (by kernel_rfl))
  f266:=Tryz.func151.trans (congrArg some (by kernel_rfl))
  f267:=Tryz.func137.trans (congrArg some (by kernel_rfl))
  f314:=Tryz.func152.trans (congrArg some (by kernel_rfl))
  t3:=Tryz.underlying3
  a3:=Tryz.isAgg3
  z3:=Tryz.sizeOf3
  v3:=Tryz.zeroValue3
  t4:=Tryz.underlying4
  a4:=Tryz.isAgg4
  z4:=Tryz.sizeOf4
  v4:=Tryz.zeroValue4
  t5:=Tryz.underlying5
  a5:=Tryz.isAgg5
  z5:=Tryz.sizeOf5
  v5:=Tryz.zeroValue5
  t9:=Tryz.underlying9
  a9:=Tryz.isAgg9
  z9:=Tryz.sizeOf9
  v9:=Tryz.zeroValue9
  t46:=Tryz.underlying147
  a46:=Tryz.isAgg147
  z46:=Tryz.sizeOf147
  v46:=Tryz.zeroValue147
  t51:=Tryz.underlying169
  a51:=Tryz.isAgg169
  z51:=Tryz.sizeOf169
  v51:=Tryz.zeroValue169
  t146:=Tryz.underlying201
  a146:=Tryz.isAgg201
  z146:=Tryz.sizeOf201
  v146:=Tryz.zeroValue201
  g1:=by kernel_rfl }
open Go.RowKit Go.Lib in
theorem Tryz.strings_Index_one (s:ByteArray) (c:UInt8) (w:World):
    Calls Tryz.prog 91 #[.string s,.string ⟨#[c]⟩] w fun e w'=>e= .returned (.int .i64 (Lib.indexByte s.data.toList c))∧w'=w:=Any.strings_Index_one Tryz.lays143 s c w
end Go.Proofs
