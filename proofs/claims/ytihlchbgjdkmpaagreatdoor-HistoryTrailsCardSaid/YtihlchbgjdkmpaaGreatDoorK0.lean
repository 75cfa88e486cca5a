/- The library's contracts that the texts behind it lean on, laid at this program. No condition. -/
import Derived.Shelf.Strings.SlTrimAscii
import Derived.Shelf.Strings.Builder1
import Derived.Shelf.Strings.Builder2
import Derived.Shelf.Strings.OnBuilder
import Derived.Shelf.Strings.Trim
import Derived.Shelf.Small.Utf8
import Derived.Shelf.Small.Strs
import Derived.Shelf.Small.Wraps
import Derived.Shelf.Strings.BuilderF
import Derived.Shelf.Strconv.Atoi
import Derived.Shelf.Strconv.Itoa0
import Derived.Shelf.Strconv.Itoa1
import Derived.Shelf.LaysM
import Derived.Shelf.Strconv.Itoa2
import Derived.Shelf.Strconv.Itoa3
import Derived.Shelf.Strconv.AtoiErrFast
import Derived.Shelf.Strconv.ParseIntEmpty
import Derived.Shelf.Strconv.AtoiFail
import Derived.Shelf.Strconv.Clone
import Derived.Shelf.Strconv.SyntaxError
import Derived.Shelf.LaysC
import Derived.Shelf.Strconv.ToError
import Derived.Shelf.Strconv.AtoiErr
import Derived.Shelf.Strconv.ErrVar
import Derived.Shelf.Strconv.Lower
import Derived.Shelf.Strconv.ParseUint10
import Derived.Shelf.Strconv.ParseUint10Empty
import Derived.Shelf.Strconv.ParseUint10Any
import Derived.Shelf.Strconv.ParseInt10
import Derived.Shelf.Strconv.AtoiLong
import Derived.Shelf.Strconv.AtoiInnerAll
import Derived.Shelf.Strconv.RangeError
import Derived.Shelf.Strconv.ToErrorRange
import Derived.Shelf.Strconv.AtoiAll
import Derived.Shelf.Strconv.ErrVarAll
import Derived.Shelf.Strings.Search1
import Derived.Shelf.Strings.Search2
import Derived.Shelf.Strings.Search3
import Derived.Shelf.Strings.Cut
import Derived.Shelf.Strings.Count
import Derived.Shelf.Strings.Shaped
import Derived.Shelf.Strings.Prefix
import Derived.Shelf.Strings.Split
import Derived.Shelf.Strings.SplitShaped
import Derived.Shelf.Strings.Runes
import Derived.Shelf.Strings.AsciiSet
import Derived.Shelf.Bits.Mul64
import Derived.Shelf.Strings.Repeat
import Derived.Shelf.Unicode.DecodeSlow
import Derived.Test.YtihlchbgjdkmpaaGreatDoorProg
namespace Go.Proofs
open Go.Shelf
def Tryz.lays169_ren:Go.Shelf.Ren:=⟨λ |169=>104|n=>n,λ |70=>191|9=>9|0=>0|72=>194|37=>192|127=>248|3=>3|5=>5|n=>n,λ|n=>n⟩
theorem Tryz.lays169:Go.Proofs.Lays.n169 Tryz.prog Tryz.lays169_ren:={
 mixed:=by kernel_rfl
 f169:=Tryz.func104.trans (congrArg some (by kernel_rfl))
 t0:=Tryz.underlying0
 a0:=Tryz.isAgg0
 z0:=Tryz.sizeOf0
 v0:=Tryz.zeroValue0
 t3:=Tryz.underlying3
 a3:=Tryz.isAgg3
 z3:=Tryz.sizeOf3
 v3:=Tryz.zeroValue3
 t9:=Tryz.underlying9
 a9:=Tryz.isAgg9
 z9:=Tryz.sizeOf9
 v9:=Tryz.zeroValue9
 t37:=Tryz.underlying192
 a37:=Tryz.isAgg192
 z37:=Tryz.sizeOf192
 v37:=Tryz.zeroValue192
 t70:=Tryz.underlying191
 a70:=Tryz.isAgg191
 z70:=Tryz.sizeOf191
 v70:=Tryz.zeroValue191
 t72:=Tryz.underlying194
 a72:=Tryz.isAgg194
 z72:=Tryz.sizeOf194
 v72:=Tryz.zeroValue194
 t127:=Tryz.underlying248
 a127:=Tryz.isAgg248
 z127:=Tryz.sizeOf248
 v127:=Tryz.zeroValue248}
theorem Tryz.Builder_Extra_169:Builder.Extra Tryz.prog Tryz.lays169_ren:={
 sizeBuilder:=by kernel_rfl
 liesBuilder:=by kernel_rfl
 t5:=Tryz.underlying5
 a5:=Tryz.isAgg5
 z5:=Tryz.sizeOf5
 v5:=Tryz.zeroValue5
 infoByte:=by kernel_rfl
 cellsByte:=by kernel_rfl
 sizeByte:=by kernel_rfl
 neB5:=by decide}
def Tryz.lays156_ren:Go.Shelf.Ren:=⟨λ |156=>97|165=>141|166=>101|169=>104|240=>144|241=>199|276=>203|277=>242|n=>n,λ |31=>66|9=>9|3=>3|4=>4|0=>0|20=>20|72=>194|76=>73|70=>191|37=>192|75=>29|127=>248|164=>286|5=>5|80=>54|n=>n,λ|n=>n⟩
theorem Tryz.lays156:Go.Proofs.Lays.n156 Tryz.prog Tryz.lays156_ren:={
 mixed:=by kernel_rfl
 f156:=Tryz.func97.trans (congrArg some (by kernel_rfl))
 f165:=Tryz.func141.trans (congrArg some (by kernel_rfl))
 f166:=Tryz.func101.trans (congrArg some (by kernel_rfl))
 f169:=Tryz.func104.trans (congrArg some (by kernel_rfl))
 f240:=Tryz.func144.trans (congrArg some (by kernel_rfl))
 f241:=Tryz.func199.trans (congrArg some (by kernel_rfl))
 f276:=Tryz.func203.trans (congrArg some (by kernel_rfl))
 f277:=Tryz.func242.trans (congrArg some (by kernel_rfl))
 t0:=Tryz.underlying0
 a0:=Tryz.isAgg0
 z0:=Tryz.sizeOf0
 v0:=Tryz.zeroValue0
 t3:=Tryz.underlying3
 a3:=Tryz.isAgg3
 z3:=Tryz.sizeOf3
 v3:=Tryz.zeroValue3
 t4:=Tryz.underlying4
 a4:=Tryz.isAgg4
 z4:=Tryz.sizeOf4
 v4:=Tryz.zeroValue4
 t9:=Tryz.underlying9
 a9:=Tryz.isAgg9
 z9:=Tryz.sizeOf9
 v9:=Tryz.zeroValue9
 t20:=Tryz.underlying20
 a20:=Tryz.isAgg20
 z20:=Tryz.sizeOf20
 v20:=Tryz.zeroValue20
 t31:=Tryz.underlying66
 a31:=Tryz.isAgg66
 z31:=Tryz.sizeOf66
 v31:=Tryz.zeroValue66
 t37:=Tryz.underlying192
 a37:=Tryz.isAgg192
 z37:=Tryz.sizeOf192
 v37:=Tryz.zeroValue192
 t70:=Tryz.underlying191
 a70:=Tryz.isAgg191
 z70:=Tryz.sizeOf191
 v70:=Tryz.zeroValue191
 t72:=Tryz.underlying194
 a72:=Tryz.isAgg194
 z72:=Tryz.sizeOf194
 v72:=Tryz.zeroValue194
 t75:=Tryz.underlying29
 a75:=Tryz.isAgg29
 z75:=Tryz.sizeOf29
 v75:=Tryz.zeroValue29
 t76:=Tryz.underlying73
 a76:=Tryz.isAgg73
 z76:=Tryz.sizeOf73
 v76:=Tryz.zeroValue73
 t127:=Tryz.underlying248
 a127:=Tryz.isAgg248
 z127:=Tryz.sizeOf248
 v127:=Tryz.zeroValue248
 t164:=Tryz.underlying286
 a164:=Tryz.isAgg286
 z164:=Tryz.sizeOf286
 v164:=Tryz.zeroValue286}
theorem Tryz.Builder_Extra_156:Builder.Extra Tryz.prog Tryz.lays156_ren:={
 sizeBuilder:=by kernel_rfl
 liesBuilder:=by kernel_rfl
 t5:=Tryz.underlying5
 a5:=Tryz.isAgg5
 z5:=Tryz.sizeOf5
 v5:=Tryz.zeroValue5
 infoByte:=by kernel_rfl
 cellsByte:=by kernel_rfl
 sizeByte:=by kernel_rfl
 neB5:=by decide}
open Go.RowKit in
theorem Tryz.strings_Join_none(a:Option Addr)(c:Nat)(sep:ByteArray)(w:World):
  Calls Tryz.prog 97 #[.slice a 0 c,.string sep] w λe w'=>e=.returned (.string ⟨#[]⟩)∧w'=w:=Any.strings_Join_none Tryz.lays156 Tryz.Builder_Extra_156 a c sep w
open Go.RowKit in
theorem Tryz.strings_Join(bk o c:Nat)(xs:List ByteArray)(sep:ByteArray)(w:World)(hcells:∀(j:Nat)x,xs[j]?=some x->w.cell? ⟨bk,o+j,none⟩=some (.string x))(hbk:bk<w.heap.size)(hN:xs.length<=140737488355328)(hcap:xs.length<=c)(hlen:(Lib.join (xs.map (·.data.toList)) sep.data.toList).length<=140737488355328):
  Calls Tryz.prog 97 #[.slice (some ⟨bk,o,none⟩) xs.length c,.string sep] w λe w'=>e=.returned (.string ⟨(Lib.join (xs.map (·.data.toList)) sep.data.toList).toArray⟩)∧Below w.heap.size w w':=Any.strings_Join Tryz.lays156 Tryz.Builder_Extra_156 bk o c xs sep w hcells hbk hN hcap hlen
def Tryz.lays103_ren:Go.Shelf.Ren:=⟨λ |103=>219|210=>259|206=>213|n=>n,λ |9=>9|4=>4|24=>288|3=>3|n=>n,λ|n=>n⟩
theorem Tryz.lays103:Go.Proofs.Lays.n103 Tryz.prog Tryz.lays103_ren:={
 mixed:=by kernel_rfl
 f103:=Tryz.func219.trans (congrArg some (by kernel_rfl))
 f206:=Tryz.func213.trans (congrArg some (by kernel_rfl))
 f210:=Tryz.func259.trans (congrArg some (by kernel_rfl))
 t3:=Tryz.underlying3
 a3:=Tryz.isAgg3
 z3:=Tryz.sizeOf3
 v3:=Tryz.zeroValue3
 t4:=Tryz.underlying4
 a4:=Tryz.isAgg4
 z4:=Tryz.sizeOf4
 v4:=Tryz.zeroValue4
 t9:=Tryz.underlying9
 a9:=Tryz.isAgg9
 z9:=Tryz.sizeOf9
 v9:=Tryz.zeroValue9
 t24:=Tryz.underlying288
 a24:=Tryz.isAgg288
 z24:=Tryz.sizeOf288
 v24:=Tryz.zeroValue288}
open Go.RowKit in
theorem Tryz.strings_CutPrefix(s p:ByteArray)(w:World):
  Calls Tryz.prog 219 #[.string s,.string p] w λe w'=>e=.returned (.tuple #[.string ⟨(Lib.trimPrefix s.data.toList p.data.toList).toArray⟩,.bool (Lib.hasPrefix s.data.toList p.data.toList)])∧w'=w:=Any.strings_CutPrefix Tryz.lays103 s p w
def Tryz.laysM171_ren:Go.Shelf.Ren:=⟨λ |171=>54|243=>95|246=>139|283=>192|284=>193|285=>194|286=>195|129=>235|317=>234|318=>236|319=>237|320=>238|337=>270|338=>271|n=>n,λ |3=>3|9=>9|2=>2|4=>4|171=>277|0=>0|53=>189|37=>192|5=>5|173=>280|212=>318|51=>179|20=>20|213=>319|46=>292|232=>377|233=>378|n=>n,λ |17=>0|18=>5|19=>6|n=>n⟩
theorem Tryz.laysM171:Go.Proofs.LaysM.n171 Tryz.prog Tryz.laysM171_ren:={
 mixed:=by kernel_rfl
 f129:=Tryz.func235.trans (congrArg some (by kernel_rfl))
 f171:=Tryz.func54.trans (congrArg some (by kernel_rfl))
 f243:=Tryz.func95.trans (congrArg some (by kernel_rfl))
 f246:=Tryz.func139.trans (congrArg some (by kernel_rfl))
 f283:=Tryz.func192.trans (congrArg some (by kernel_rfl))
 f284:=Tryz.func193.trans (congrArg some (by kernel_rfl))
 f285:=Tryz.func194.trans (congrArg some (by kernel_rfl))
 f286:=Tryz.func195.trans (congrArg some (by kernel_rfl))
 f317:=Tryz.func234.trans (congrArg some (by kernel_rfl))
 f318:=Tryz.func236.trans (congrArg some (by kernel_rfl))
 f319:=Tryz.func237.trans (congrArg some (by kernel_rfl))
 f320:=Tryz.func238.trans (congrArg some (by kernel_rfl))
 f337:=Tryz.func270.trans (congrArg some (by kernel_rfl))
 f338:=Tryz.func271.trans (congrArg some (by kernel_rfl))
 t0:=Tryz.underlying0
 a0:=Tryz.isAgg0
 z0:=Tryz.sizeOf0
 v0:=Tryz.zeroValue0
 t2:=Tryz.underlying2
 a2:=Tryz.isAgg2
 z2:=Tryz.sizeOf2
 v2:=Tryz.zeroValue2
 t3:=Tryz.underlying3
 a3:=Tryz.isAgg3
 z3:=Tryz.sizeOf3
 v3:=Tryz.zeroValue3
 t4:=Tryz.underlying4
 a4:=Tryz.isAgg4
 z4:=Tryz.sizeOf4
 v4:=Tryz.zeroValue4
 t5:=Tryz.underlying5
 a5:=Tryz.isAgg5
 z5:=Tryz.sizeOf5
 v5:=Tryz.zeroValue5
 t9:=Tryz.underlying9
 a9:=Tryz.isAgg9
 z9:=Tryz.sizeOf9
 v9:=Tryz.zeroValue9
 t20:=Tryz.underlying20
 a20:=Tryz.isAgg20
 z20:=Tryz.sizeOf20
 v20:=Tryz.zeroValue20
 t37:=Tryz.underlying192
 a37:=Tryz.isAgg192
 z37:=Tryz.sizeOf192
 v37:=Tryz.zeroValue192
 t46:=Tryz.underlying292
 a46:=Tryz.isAgg292
 z46:=Tryz.sizeOf292
 v46:=Tryz.zeroValue292
 t51:=Tryz.underlying179
 a51:=Tryz.isAgg179
 z51:=Tryz.sizeOf179
 v51:=Tryz.zeroValue179
 t53:=Tryz.underlying189
 a53:=Tryz.isAgg189
 z53:=Tryz.sizeOf189
 v53:=Tryz.zeroValue189
 t171:=Tryz.underlying277
 a171:=Tryz.isAgg277
 z171:=Tryz.sizeOf277
 v171:=Tryz.zeroValue277
 t173:=Tryz.underlying280
 a173:=Tryz.isAgg280
 z173:=Tryz.sizeOf280
 v173:=Tryz.zeroValue280
 t212:=Tryz.underlying318
 a212:=Tryz.isAgg318
 z212:=Tryz.sizeOf318
 v212:=Tryz.zeroValue318
 t213:=Tryz.underlying319
 a213:=Tryz.isAgg319
 z213:=Tryz.sizeOf319
 t232:=Tryz.underlying377
 a232:=Tryz.isAgg377
 z232:=Tryz.sizeOf377
 v232:=Tryz.zeroValue377
 t233:=Tryz.underlying378
 a233:=Tryz.isAgg378
 z233:=Tryz.sizeOf378
 v233:=Tryz.zeroValue378
 g17:=by kernel_rfl
 g18:=by kernel_rfl
 g19:=by kernel_rfl
 i0:=by kernel_rfl
 i2:=by kernel_rfl
 i3:=by kernel_rfl
 i4:=by kernel_rfl
 i5:=by kernel_rfl
 i9:=by kernel_rfl
 i20:=by kernel_rfl
 i37:=by kernel_rfl
 i46:=by kernel_rfl
 i51:=by kernel_rfl
 i53:=by kernel_rfl
 i171:=by kernel_rfl
 i173:=by kernel_rfl
 i212:=by kernel_rfl
 i232:=by kernel_rfl
 i233:=by kernel_rfl
 m17:=by kernel_rfl
 m18:=by kernel_rfl
 m19:=by kernel_rfl}
open Go.RowKit Go.Sort Go.Lib in
theorem Tryz.strconv_Itoa(n:Int)(h0: -9223372036854775808<=n)(h1:n<=9223372036854775807)(w:World)(htab:Lib.TabIs Tryz.prog w "internal/strconv.uint64pow10" .u64 Lib.pow10Tab):
  Calls Tryz.prog 54 #[.int .i64 n] w λe w'=>e=.returned (.string ⟨(Lib.itoa n).toArray⟩)∧∃k os,w'=grow (w.drewN k) os:=Any.strconv_Itoa Tryz.laysM171 n h0 h1 w htab
def Tryz.laysC172_ren:Go.Shelf.Ren:=⟨λ |172=>111|244=>151|245=>152|247=>208|279=>209|280=>210|281=>211|282=>212|287=>248|316=>249|171=>54|205=>250|321=>275|322=>276|243=>95|246=>139|283=>192|284=>193|285=>194|286=>195|129=>235|317=>234|318=>236|319=>237|320=>238|337=>270|338=>271|n=>n,λ |9=>9|3=>3|75=>29|76=>73|4=>4|5=>5|167=>294|37=>192|0=>0|85=>295|2=>2|168=>297|53=>189|175=>326|46=>292|210=>329|127=>248|145=>359|143=>357|21=>21|171=>277|173=>280|212=>318|51=>179|20=>20|213=>319|232=>377|233=>378|80=>54|n=>n,λ |15=>2|16=>3|17=>0|18=>5|19=>6|n=>n⟩
theorem Tryz.laysC172:Go.Proofs.LaysC.n172 Tryz.prog Tryz.laysC172_ren:={
 mixed:=by kernel_rfl
 f129:=Tryz.func235.trans (congrArg some (by kernel_rfl))
 f171:=Tryz.func54.trans (congrArg some (by kernel_rfl))
 f172:=Tryz.func111.trans (congrArg some (by kernel_rfl))
 f205:=Tryz.func250.trans (congrArg some (by kernel_rfl))
 f243:=Tryz.func95.trans (congrArg some (by kernel_rfl))
 f244:=Tryz.func151.trans (congrArg some (by kernel_rfl))
 f245:=Tryz.func152.trans (congrArg some (by kernel_rfl))
 f246:=Tryz.func139.trans (congrArg some (by kernel_rfl))
 f247:=Tryz.func208.trans (congrArg some (by kernel_rfl))
 f279:=Tryz.func209.trans (congrArg some (by kernel_rfl))
 f280:=Tryz.func210.trans (congrArg some (by kernel_rfl))
 f281:=Tryz.func211.trans (congrArg some (by kernel_rfl))
 f282:=Tryz.func212.trans (congrArg some (by kernel_rfl))
 f283:=Tryz.func192.trans (congrArg some (by kernel_rfl))
 f284:=Tryz.func193.trans (congrArg some (by kernel_rfl))
 f285:=Tryz.func194.trans (congrArg some (by kernel_rfl))
 f286:=Tryz.func195.trans (congrArg some (by kernel_rfl))
 f287:=Tryz.func248.trans (congrArg some (by kernel_rfl))
 f316:=Tryz.func249.trans (congrArg some (by kernel_rfl))
 f317:=Tryz.func234.trans (congrArg some (by kernel_rfl))
 f318:=Tryz.func236.trans (congrArg some (by kernel_rfl))
 f319:=Tryz.func237.trans (congrArg some (by kernel_rfl))
 f320:=Tryz.func238.trans (congrArg some (by kernel_rfl))
 f321:=Tryz.func275.trans (congrArg some (by kernel_rfl))
 f322:=Tryz.func276.trans (congrArg some (by kernel_rfl))
 f337:=Tryz.func270.trans (congrArg some (by kernel_rfl))
 f338:=Tryz.func271.trans (congrArg some (by kernel_rfl))
 t0:=Tryz.underlying0
 a0:=Tryz.isAgg0
 z0:=Tryz.sizeOf0
 v0:=Tryz.zeroValue0
 t2:=Tryz.underlying2
 a2:=Tryz.isAgg2
 z2:=Tryz.sizeOf2
 v2:=Tryz.zeroValue2
 t3:=Tryz.underlying3
 a3:=Tryz.isAgg3
 z3:=Tryz.sizeOf3
 v3:=Tryz.zeroValue3
 t4:=Tryz.underlying4
 a4:=Tryz.isAgg4
 z4:=Tryz.sizeOf4
 v4:=Tryz.zeroValue4
 t5:=Tryz.underlying5
 a5:=Tryz.isAgg5
 z5:=Tryz.sizeOf5
 v5:=Tryz.zeroValue5
 t9:=Tryz.underlying9
 a9:=Tryz.isAgg9
 z9:=Tryz.sizeOf9
 v9:=Tryz.zeroValue9
 t20:=Tryz.underlying20
 a20:=Tryz.isAgg20
 z20:=Tryz.sizeOf20
 v20:=Tryz.zeroValue20
 t21:=Tryz.underlying21
 a21:=Tryz.isAgg21
 z21:=Tryz.sizeOf21
 v21:=Tryz.zeroValue21
 t37:=Tryz.underlying192
 a37:=Tryz.isAgg192
 z37:=Tryz.sizeOf192
 v37:=Tryz.zeroValue192
 t46:=Tryz.underlying292
 a46:=Tryz.isAgg292
 z46:=Tryz.sizeOf292
 v46:=Tryz.zeroValue292
 t51:=Tryz.underlying179
 a51:=Tryz.isAgg179
 z51:=Tryz.sizeOf179
 v51:=Tryz.zeroValue179
 t53:=Tryz.underlying189
 a53:=Tryz.isAgg189
 z53:=Tryz.sizeOf189
 v53:=Tryz.zeroValue189
 t75:=Tryz.underlying29
 a75:=Tryz.isAgg29
 z75:=Tryz.sizeOf29
 v75:=Tryz.zeroValue29
 t76:=Tryz.underlying73
 a76:=Tryz.isAgg73
 z76:=Tryz.sizeOf73
 v76:=Tryz.zeroValue73
 t85:=Tryz.underlying295
 a85:=Tryz.isAgg295
 z85:=Tryz.sizeOf295
 v85:=Tryz.zeroValue295
 t127:=Tryz.underlying248
 a127:=Tryz.isAgg248
 z127:=Tryz.sizeOf248
 v127:=Tryz.zeroValue248
 t143:=Tryz.underlying357
 a143:=Tryz.isAgg357
 z143:=Tryz.sizeOf357
 v143:=Tryz.zeroValue357
 t145:=Tryz.underlying359
 a145:=Tryz.isAgg359
 z145:=Tryz.sizeOf359
 v145:=Tryz.zeroValue359
 t167:=Tryz.underlying294
 a167:=Tryz.isAgg294
 z167:=Tryz.sizeOf294
 v167:=Tryz.zeroValue294
 t168:=Tryz.underlying297
 a168:=Tryz.isAgg297
 z168:=Tryz.sizeOf297
 v168:=Tryz.zeroValue297
 t171:=Tryz.underlying277
 a171:=Tryz.isAgg277
 z171:=Tryz.sizeOf277
 v171:=Tryz.zeroValue277
 t173:=Tryz.underlying280
 a173:=Tryz.isAgg280
 z173:=Tryz.sizeOf280
 v173:=Tryz.zeroValue280
 t175:=Tryz.underlying326
 a175:=Tryz.isAgg326
 z175:=Tryz.sizeOf326
 v175:=Tryz.zeroValue326
 t210:=Tryz.underlying329
 a210:=Tryz.isAgg329
 z210:=Tryz.sizeOf329
 v210:=Tryz.zeroValue329
 t212:=Tryz.underlying318
 a212:=Tryz.isAgg318
 z212:=Tryz.sizeOf318
 v212:=Tryz.zeroValue318
 t213:=Tryz.underlying319
 a213:=Tryz.isAgg319
 z213:=Tryz.sizeOf319
 t232:=Tryz.underlying377
 a232:=Tryz.isAgg377
 z232:=Tryz.sizeOf377
 v232:=Tryz.zeroValue377
 t233:=Tryz.underlying378
 a233:=Tryz.isAgg378
 z233:=Tryz.sizeOf378
 v233:=Tryz.zeroValue378
 g15:=by kernel_rfl
 g16:=by kernel_rfl
 g17:=by kernel_rfl
 g18:=by kernel_rfl
 g19:=by kernel_rfl
 t80:=Tryz.underlying54
 a80:=Tryz.isAgg54
 z80:=Tryz.sizeOf54
 v80:=Tryz.zeroValue54
 i0:=by kernel_rfl
 i2:=by kernel_rfl
 i3:=by kernel_rfl
 i4:=by kernel_rfl
 i5:=by kernel_rfl
 i9:=by kernel_rfl
 i20:=by kernel_rfl
 i21:=by kernel_rfl
 i37:=by kernel_rfl
 i46:=by kernel_rfl
 i51:=by kernel_rfl
 i53:=by kernel_rfl
 i75:=by kernel_rfl
 i76:=by kernel_rfl
 i80:=by kernel_rfl
 i85:=by kernel_rfl
 i127:=by kernel_rfl
 i143:=by kernel_rfl
 i145:=by kernel_rfl
 i167:=by kernel_rfl
 i168:=by kernel_rfl
 i171:=by kernel_rfl
 i173:=by kernel_rfl
 i175:=by kernel_rfl
 i210:=by kernel_rfl
 i212:=by kernel_rfl
 i232:=by kernel_rfl
 i233:=by kernel_rfl
 m15:=by kernel_rfl
 m16:=by kernel_rfl
 m17:=by kernel_rfl
 m18:=by kernel_rfl
 m19:=by kernel_rfl
 c0:=by kernel_rfl
 c2:=by kernel_rfl
 c3:=by kernel_rfl
 c4:=by kernel_rfl
 c5:=by kernel_rfl
 c9:=by kernel_rfl
 c20:=by kernel_rfl
 c21:=by kernel_rfl
 c37:=by kernel_rfl
 c46:=by kernel_rfl
 c51:=by kernel_rfl
 c53:=by kernel_rfl
 c75:=by kernel_rfl
 c76:=by kernel_rfl
 c80:=by kernel_rfl
 c85:=by kernel_rfl
 c127:=by kernel_rfl
 c143:=by kernel_rfl
 c145:=by kernel_rfl
 c167:=by kernel_rfl
 c168:=by kernel_rfl
 c171:=by kernel_rfl
 c173:=by kernel_rfl
 c175:=by kernel_rfl
 c210:=by kernel_rfl
 c212:=by kernel_rfl
 c213:=by kernel_rfl
 c232:=by kernel_rfl
 c233:=by kernel_rfl}
open Go.RowKit in
theorem Tryz.strconv_Atoi_ok(s:ByteArray)(hmax:s.size<=9223372036854775806)(v:Int)(h:Lib.atoiAll s.data.toList=.ok v)(w:World):
  Calls Tryz.prog 111 #[.string s] w λe w'=>e=.returned (.tuple #[.int .i64 v,.nilIface])∧(w'=w∨∃t,w'=Lib.bytesWorld w 5 t):=Any.strconv_Atoi_ok Tryz.laysC172 s hmax v h w
open Go.RowKit in
theorem Tryz.strconv_Atoi_range_var(s:ByteArray)(hlim:s.size<=281474976710656)(h:Lib.atoiAll s.data.toList=.range)(tp:TypeId)(p:Value)(w:World)(hvar:w.var? Tryz.prog "strconv.ErrRange" =some #[.iface tp p]):
  Calls Tryz.prog 111 #[.string s] w λe w'=>∃N,e=.returned (.tuple #[.int .i64 (Lib.atoiSat s.data.toList),.iface 297 (.pointer (some ⟨N,0,none⟩))])∧w.heap.size<=N∧w'.heap[N]?=some (.cells #[.string ⟨#[65,116,111,105]⟩,.string s,.iface tp p] 329 (0,0))∧Below w.heap.size w w':=Any.strconv_Atoi_range_var Tryz.laysC172 s hlim h tp p w hvar
def Tryz.laysM144_ren:Go.Shelf.Ren:=⟨λ |144=>214|143=>198|219=>207|217=>244|225=>245|224=>246|267=>247|266=>273|314=>274|n=>n,λ |9=>9|4=>4|3=>3|5=>5|46=>292|146=>354|51=>179|n=>n,λ |1=>1|n=>n⟩
theorem Tryz.laysM144:Go.Proofs.LaysM.n144 Tryz.prog Tryz.laysM144_ren:={
 mixed:=by kernel_rfl
 f143:=Tryz.func198.trans (congrArg some (by kernel_rfl))
 f144:=Tryz.func214.trans (congrArg some (by kernel_rfl))
 f217:=Tryz.func244.trans (congrArg some (by kernel_rfl))
 f219:=Tryz.func207.trans (congrArg some (by kernel_rfl))
 f224:=Tryz.func246.trans (congrArg some (by kernel_rfl))
 f225:=Tryz.func245.trans (congrArg some (by kernel_rfl))
 f266:=Tryz.func273.trans (congrArg some (by kernel_rfl))
 f267:=Tryz.func247.trans (congrArg some (by kernel_rfl))
 f314:=Tryz.func274.trans (congrArg some (by kernel_rfl))
 t3:=Tryz.underlying3
 a3:=Tryz.isAgg3
 z3:=Tryz.sizeOf3
 v3:=Tryz.zeroValue3
 t4:=Tryz.underlying4
 a4:=Tryz.isAgg4
 z4:=Tryz.sizeOf4
 v4:=Tryz.zeroValue4
 t5:=Tryz.underlying5
 a5:=Tryz.isAgg5
 z5:=Tryz.sizeOf5
 v5:=Tryz.zeroValue5
 t9:=Tryz.underlying9
 a9:=Tryz.isAgg9
 z9:=Tryz.sizeOf9
 v9:=Tryz.zeroValue9
 t46:=Tryz.underlying292
 a46:=Tryz.isAgg292
 z46:=Tryz.sizeOf292
 v46:=Tryz.zeroValue292
 t51:=Tryz.underlying179
 a51:=Tryz.isAgg179
 z51:=Tryz.sizeOf179
 v51:=Tryz.zeroValue179
 t146:=Tryz.underlying354
 a146:=Tryz.isAgg354
 z146:=Tryz.sizeOf354
 v146:=Tryz.zeroValue354
 g1:=by kernel_rfl
 i3:=by kernel_rfl
 i4:=by kernel_rfl
 i5:=by kernel_rfl
 i9:=by kernel_rfl
 i46:=by kernel_rfl
 i51:=by kernel_rfl
 i146:=by kernel_rfl
 m1:=by kernel_rfl
 s1_3:=λw h=>Go.Proofs.cell_of_shapedOpen_int (zero:= #[.int .i64 0]) (t:=3) h (of_decide_eq_true (by kernel_rfl)) (by kernel_rfl) rfl (by kernel_rfl) (by kernel_rfl) Tryz.underlying3}
open Go.RowKit Go.Lib in
theorem Tryz.strings_Contains_shaped(s sub:ByteArray)(w:World)(h:w.ShapedOpen Tryz.prog)(hs:s.size<4294967281):
  Calls Tryz.prog 214 #[.string s,.string sub] w λe w'=>e=.returned (.bool (Lib.contains s.data.toList sub.data.toList))∧w'=w:=Any.strings_Contains_shaped Tryz.laysM144 s sub w h hs
def Tryz.laysM145_ren:Go.Shelf.Ren:=⟨λ |145=>110|220=>150|219=>207|217=>244|225=>245|224=>246|267=>247|266=>273|314=>274|n=>n,λ |9=>9|4=>4|59=>200|3=>3|5=>5|46=>292|146=>354|51=>179|n=>n,λ |1=>1|n=>n⟩
theorem Tryz.laysM145:Go.Proofs.LaysM.n145 Tryz.prog Tryz.laysM145_ren:={
 mixed:=by kernel_rfl
 f145:=Tryz.func110.trans (congrArg some (by kernel_rfl))
 f217:=Tryz.func244.trans (congrArg some (by kernel_rfl))
 f219:=Tryz.func207.trans (congrArg some (by kernel_rfl))
 f220:=Tryz.func150.trans (congrArg some (by kernel_rfl))
 f224:=Tryz.func246.trans (congrArg some (by kernel_rfl))
 f225:=Tryz.func245.trans (congrArg some (by kernel_rfl))
 f266:=Tryz.func273.trans (congrArg some (by kernel_rfl))
 f267:=Tryz.func247.trans (congrArg some (by kernel_rfl))
 f314:=Tryz.func274.trans (congrArg some (by kernel_rfl))
 t3:=Tryz.underlying3
 a3:=Tryz.isAgg3
 z3:=Tryz.sizeOf3
 v3:=Tryz.zeroValue3
 t4:=Tryz.underlying4
 a4:=Tryz.isAgg4
 z4:=Tryz.sizeOf4
 v4:=Tryz.zeroValue4
 t5:=Tryz.underlying5
 a5:=Tryz.isAgg5
 z5:=Tryz.sizeOf5
 v5:=Tryz.zeroValue5
 t9:=Tryz.underlying9
 a9:=Tryz.isAgg9
 z9:=Tryz.sizeOf9
 v9:=Tryz.zeroValue9
 t46:=Tryz.underlying292
 a46:=Tryz.isAgg292
 z46:=Tryz.sizeOf292
 v46:=Tryz.zeroValue292
 t51:=Tryz.underlying179
 a51:=Tryz.isAgg179
 z51:=Tryz.sizeOf179
 v51:=Tryz.zeroValue179
 t59:=Tryz.underlying200
 a59:=Tryz.isAgg200
 z59:=Tryz.sizeOf200
 v59:=Tryz.zeroValue200
 t146:=Tryz.underlying354
 a146:=Tryz.isAgg354
 z146:=Tryz.sizeOf354
 v146:=Tryz.zeroValue354
 g1:=by kernel_rfl
 i3:=by kernel_rfl
 i4:=by kernel_rfl
 i5:=by kernel_rfl
 i9:=by kernel_rfl
 i46:=by kernel_rfl
 i51:=by kernel_rfl
 i59:=by kernel_rfl
 i146:=by kernel_rfl
 m1:=by kernel_rfl
 s1_3:=λw h=>Go.Proofs.cell_of_shapedOpen_int (zero:= #[.int .i64 0]) (t:=3) h (of_decide_eq_true (by kernel_rfl)) (by kernel_rfl) rfl (by kernel_rfl) (by kernel_rfl) Tryz.underlying3}
open Go.RowKit Go.Lib in
theorem Tryz.strings_Cut_shaped(s sep:ByteArray)(w:World)(h:w.ShapedOpen Tryz.prog)(hs:s.size<4294967281):
  Calls Tryz.prog 110 #[.string s,.string sep] w λe w'=>e=.returned (.tuple #[.string ⟨(Lib.cut s.data.toList sep.data.toList).1.toArray⟩,.string ⟨(Lib.cut s.data.toList sep.data.toList).2.1.toArray⟩,.bool (Lib.cut s.data.toList sep.data.toList).2.2])∧∃n,w'=w.drewN n:=Any.strings_Cut_shaped Tryz.laysM145 s sep w h hs
def Tryz.lays99_ren:Go.Shelf.Ren:=⟨λ |99=>155|206=>213|n=>n,λ |9=>9|4=>4|3=>3|n=>n,λ|n=>n⟩
theorem Tryz.lays99:Go.Proofs.Lays.n99 Tryz.prog Tryz.lays99_ren:={
 mixed:=by kernel_rfl
 f99:=Tryz.func155.trans (congrArg some (by kernel_rfl))
 f206:=Tryz.func213.trans (congrArg some (by kernel_rfl))
 t3:=Tryz.underlying3
 a3:=Tryz.isAgg3
 z3:=Tryz.sizeOf3
 v3:=Tryz.zeroValue3
 t4:=Tryz.underlying4
 a4:=Tryz.isAgg4
 z4:=Tryz.sizeOf4
 v4:=Tryz.zeroValue4
 t9:=Tryz.underlying9
 a9:=Tryz.isAgg9
 z9:=Tryz.sizeOf9
 v9:=Tryz.zeroValue9}
open Go.RowKit Go.Lib in
theorem Tryz.strings_HasPrefix(s p:ByteArray)(w:World):
  Calls Tryz.prog 155 #[.string s,.string p] w λe w'=>e=.returned (.bool (Lib.hasPrefix s.data.toList p.data.toList))∧w'=w:=Any.strings_HasPrefix Tryz.lays99 s p w
def Tryz.lays100_ren:Go.Shelf.Ren:=⟨λ |100=>146|207=>204|n=>n,λ |9=>9|4=>4|3=>3|n=>n,λ|n=>n⟩
theorem Tryz.lays100:Go.Proofs.Lays.n100 Tryz.prog Tryz.lays100_ren:={
 mixed:=by kernel_rfl
 f100:=Tryz.func146.trans (congrArg some (by kernel_rfl))
 f207:=Tryz.func204.trans (congrArg some (by kernel_rfl))
 t3:=Tryz.underlying3
 a3:=Tryz.isAgg3
 z3:=Tryz.sizeOf3
 v3:=Tryz.zeroValue3
 t4:=Tryz.underlying4
 a4:=Tryz.isAgg4
 z4:=Tryz.sizeOf4
 v4:=Tryz.zeroValue4
 t9:=Tryz.underlying9
 a9:=Tryz.isAgg9
 z9:=Tryz.sizeOf9
 v9:=Tryz.zeroValue9}
open Go.RowKit Go.Lib in
theorem Tryz.strings_HasSuffix(s p:ByteArray)(w:World)(hs:s.size<=9223372036854775807):
  Calls Tryz.prog 146 #[.string s,.string p] w λe w'=>e=.returned (.bool (Lib.hasSuffix s.data.toList p.data.toList))∧w'=w:=Any.strings_HasSuffix Tryz.lays100 s p w hs
def Tryz.lays101_ren:Go.Shelf.Ren:=⟨λ |101=>112|208=>153|206=>213|n=>n,λ |9=>9|4=>4|3=>3|n=>n,λ|n=>n⟩
theorem Tryz.lays101:Go.Proofs.Lays.n101 Tryz.prog Tryz.lays101_ren:={
 mixed:=by kernel_rfl
 f101:=Tryz.func112.trans (congrArg some (by kernel_rfl))
 f206:=Tryz.func213.trans (congrArg some (by kernel_rfl))
 f208:=Tryz.func153.trans (congrArg some (by kernel_rfl))
 t3:=Tryz.underlying3
 a3:=Tryz.isAgg3
 z3:=Tryz.sizeOf3
 v3:=Tryz.zeroValue3
 t4:=Tryz.underlying4
 a4:=Tryz.isAgg4
 z4:=Tryz.sizeOf4
 v4:=Tryz.zeroValue4
 t9:=Tryz.underlying9
 a9:=Tryz.isAgg9
 z9:=Tryz.sizeOf9
 v9:=Tryz.zeroValue9}
open Go.RowKit Go.Lib in
theorem Tryz.strings_TrimPrefix(s p:ByteArray)(w:World):
  Calls Tryz.prog 112 #[.string s,.string p] w λe w'=>e=.returned (.string ⟨(Lib.trimPrefix s.data.toList p.data.toList).toArray⟩)∧w'=w:=Any.strings_TrimPrefix Tryz.lays101 s p w
def Tryz.laysM146_ren:Go.Shelf.Ren:=⟨λ |146=>96|221=>140|268=>196|138=>197|143=>198|195=>239|197=>240|218=>241|219=>207|260=>272|217=>244|225=>245|224=>246|267=>247|266=>273|314=>274|n=>n,λ |9=>9|31=>66|3=>3|4=>4|0=>0|105=>321|21=>21|5=>5|46=>292|119=>379|139=>382|138=>381|146=>354|51=>179|n=>n,λ |1=>1|3=>7|4=>8|n=>n⟩
theorem Tryz.laysM146:Go.Proofs.LaysM.n146 Tryz.prog Tryz.laysM146_ren:={
 mixed:=by kernel_rfl
 f138:=Tryz.func197.trans (congrArg some (by kernel_rfl))
 f143:=Tryz.func198.trans (congrArg some (by kernel_rfl))
 f146:=Tryz.func96.trans (congrArg some (by kernel_rfl))
 f195:=Tryz.func239.trans (congrArg some (by kernel_rfl))
 f197:=Tryz.func240.trans (congrArg some (by kernel_rfl))
 f217:=Tryz.func244.trans (congrArg some (by kernel_rfl))
 f218:=Tryz.func241.trans (congrArg some (by kernel_rfl))
 f219:=Tryz.func207.trans (congrArg some (by kernel_rfl))
 f221:=Tryz.func140.trans (congrArg some (by kernel_rfl))
 f224:=Tryz.func246.trans (congrArg some (by kernel_rfl))
 f225:=Tryz.func245.trans (congrArg some (by kernel_rfl))
 f260:=Tryz.func272.trans (congrArg some (by kernel_rfl))
 f266:=Tryz.func273.trans (congrArg some (by kernel_rfl))
 f267:=Tryz.func247.trans (congrArg some (by kernel_rfl))
 f268:=Tryz.func196.trans (congrArg some (by kernel_rfl))
 f314:=Tryz.func274.trans (congrArg some (by kernel_rfl))
 t0:=Tryz.underlying0
 a0:=Tryz.isAgg0
 z0:=Tryz.sizeOf0
 v0:=Tryz.zeroValue0
 t3:=Tryz.underlying3
 a3:=Tryz.isAgg3
 z3:=Tryz.sizeOf3
 v3:=Tryz.zeroValue3
 t4:=Tryz.underlying4
 a4:=Tryz.isAgg4
 z4:=Tryz.sizeOf4
 v4:=Tryz.zeroValue4
 t5:=Tryz.underlying5
 a5:=Tryz.isAgg5
 z5:=Tryz.sizeOf5
 v5:=Tryz.zeroValue5
 t9:=Tryz.underlying9
 a9:=Tryz.isAgg9
 z9:=Tryz.sizeOf9
 v9:=Tryz.zeroValue9
 t21:=Tryz.underlying21
 a21:=Tryz.isAgg21
 z21:=Tryz.sizeOf21
 v21:=Tryz.zeroValue21
 t31:=Tryz.underlying66
 a31:=Tryz.isAgg66
 z31:=Tryz.sizeOf66
 v31:=Tryz.zeroValue66
 t46:=Tryz.underlying292
 a46:=Tryz.isAgg292
 z46:=Tryz.sizeOf292
 v46:=Tryz.zeroValue292
 t51:=Tryz.underlying179
 a51:=Tryz.isAgg179
 z51:=Tryz.sizeOf179
 v51:=Tryz.zeroValue179
 t105:=Tryz.underlying321
 a105:=Tryz.isAgg321
 z105:=Tryz.sizeOf321
 v105:=Tryz.zeroValue321
 t119:=Tryz.underlying379
 a119:=Tryz.isAgg379
 z119:=Tryz.sizeOf379
 t138:=Tryz.underlying381
 a138:=Tryz.isAgg381
 z138:=Tryz.sizeOf381
 v138:=Tryz.zeroValue381
 t139:=Tryz.underlying382
 a139:=Tryz.isAgg382
 z139:=Tryz.sizeOf382
 v139:=Tryz.zeroValue382
 t146:=Tryz.underlying354
 a146:=Tryz.isAgg354
 z146:=Tryz.sizeOf354
 v146:=Tryz.zeroValue354
 g1:=by kernel_rfl
 g3:=by kernel_rfl
 g4:=by kernel_rfl
 i0:=by kernel_rfl
 i3:=by kernel_rfl
 i4:=by kernel_rfl
 i5:=by kernel_rfl
 i9:=by kernel_rfl
 i21:=by kernel_rfl
 i31:=by kernel_rfl
 i46:=by kernel_rfl
 i51:=by kernel_rfl
 i105:=by kernel_rfl
 i138:=by kernel_rfl
 i139:=by kernel_rfl
 i146:=by kernel_rfl
 m1:=by kernel_rfl
 s1_3:=λw h=>Go.Proofs.cell_of_shapedOpen_int (zero:= #[.int .i64 0]) (t:=3) h (of_decide_eq_true (by kernel_rfl)) (by kernel_rfl) rfl (by kernel_rfl) (by kernel_rfl) Tryz.underlying3
 m3:=by kernel_rfl
 m4:=by kernel_rfl}
open Go.RowKit Go.Lib in
theorem Tryz.strings_Split_shaped(s sep:ByteArray)(w:World)(h:w.ShapedOpen Tryz.prog)(hs:s.size<4294967281)(h1:1<=sep.size):
  Calls Tryz.prog 96 #[.string s,.string sep] w λe w'=>
   e=.returned (.slice (some ⟨w.heap.size,0,none⟩) (Lib.countB s sep+1) (Lib.countB s sep+1))∧w'=w.alloc (.cells ((Lib.splitB sep 0 (Lib.countB s sep) s).map Value.string).toArray 9):=Any.strings_Split_shaped Tryz.laysM146 s sep w h hs h1
def Tryz.lays105_ren:Go.Shelf.Ren:=⟨λ |105=>222|212=>260|99=>155|165=>141|166=>101|170=>261|169=>104|263=>280|264=>281|206=>213|240=>144|241=>199|276=>203|277=>242|n=>n,λ |9=>9|3=>3|4=>4|20=>20|0=>0|46=>292|109=>338|5=>5|72=>194|76=>73|51=>179|146=>354|53=>189|148=>362|70=>191|37=>192|75=>29|127=>248|164=>286|80=>54|n=>n,λ|n=>n⟩
theorem Tryz.lays105:Go.Proofs.Lays.n105 Tryz.prog Tryz.lays105_ren:={
 mixed:=by kernel_rfl
 f99:=Tryz.func155.trans (congrArg some (by kernel_rfl))
 f105:=Tryz.func222.trans (congrArg some (by kernel_rfl))
 f165:=Tryz.func141.trans (congrArg some (by kernel_rfl))
 f166:=Tryz.func101.trans (congrArg some (by kernel_rfl))
 f169:=Tryz.func104.trans (congrArg some (by kernel_rfl))
 f170:=Tryz.func261.trans (congrArg some (by kernel_rfl))
 f206:=Tryz.func213.trans (congrArg some (by kernel_rfl))
 f212:=Tryz.func260.trans (congrArg some (by kernel_rfl))
 f240:=Tryz.func144.trans (congrArg some (by kernel_rfl))
 f241:=Tryz.func199.trans (congrArg some (by kernel_rfl))
 f263:=Tryz.func280.trans (congrArg some (by kernel_rfl))
 f264:=Tryz.func281.trans (congrArg some (by kernel_rfl))
 f276:=Tryz.func203.trans (congrArg some (by kernel_rfl))
 f277:=Tryz.func242.trans (congrArg some (by kernel_rfl))
 t0:=Tryz.underlying0
 a0:=Tryz.isAgg0
 z0:=Tryz.sizeOf0
 v0:=Tryz.zeroValue0
 t3:=Tryz.underlying3
 a3:=Tryz.isAgg3
 z3:=Tryz.sizeOf3
 v3:=Tryz.zeroValue3
 t4:=Tryz.underlying4
 a4:=Tryz.isAgg4
 z4:=Tryz.sizeOf4
 v4:=Tryz.zeroValue4
 t5:=Tryz.underlying5
 a5:=Tryz.isAgg5
 z5:=Tryz.sizeOf5
 v5:=Tryz.zeroValue5
 t9:=Tryz.underlying9
 a9:=Tryz.isAgg9
 z9:=Tryz.sizeOf9
 v9:=Tryz.zeroValue9
 t20:=Tryz.underlying20
 a20:=Tryz.isAgg20
 z20:=Tryz.sizeOf20
 v20:=Tryz.zeroValue20
 t37:=Tryz.underlying192
 a37:=Tryz.isAgg192
 z37:=Tryz.sizeOf192
 v37:=Tryz.zeroValue192
 t46:=Tryz.underlying292
 a46:=Tryz.isAgg292
 z46:=Tryz.sizeOf292
 v46:=Tryz.zeroValue292
 t51:=Tryz.underlying179
 a51:=Tryz.isAgg179
 z51:=Tryz.sizeOf179
 v51:=Tryz.zeroValue179
 t53:=Tryz.underlying189
 a53:=Tryz.isAgg189
 z53:=Tryz.sizeOf189
 v53:=Tryz.zeroValue189
 t70:=Tryz.underlying191
 a70:=Tryz.isAgg191
 z70:=Tryz.sizeOf191
 v70:=Tryz.zeroValue191
 t72:=Tryz.underlying194
 a72:=Tryz.isAgg194
 z72:=Tryz.sizeOf194
 v72:=Tryz.zeroValue194
 t75:=Tryz.underlying29
 a75:=Tryz.isAgg29
 z75:=Tryz.sizeOf29
 v75:=Tryz.zeroValue29
 t76:=Tryz.underlying73
 a76:=Tryz.isAgg73
 z76:=Tryz.sizeOf73
 v76:=Tryz.zeroValue73
 t109:=Tryz.underlying338
 a109:=Tryz.isAgg338
 z109:=Tryz.sizeOf338
 v109:=Tryz.zeroValue338
 t127:=Tryz.underlying248
 a127:=Tryz.isAgg248
 z127:=Tryz.sizeOf248
 v127:=Tryz.zeroValue248
 t146:=Tryz.underlying354
 a146:=Tryz.isAgg354
 z146:=Tryz.sizeOf354
 v146:=Tryz.zeroValue354
 t148:=Tryz.underlying362
 a148:=Tryz.isAgg362
 z148:=Tryz.sizeOf362
 v148:=Tryz.zeroValue362
 t164:=Tryz.underlying286
 a164:=Tryz.isAgg286
 z164:=Tryz.sizeOf286
 v164:=Tryz.zeroValue286}
theorem Tryz.Builder_Extra_105:Builder.Extra Tryz.prog Tryz.lays105_ren:={
 sizeBuilder:=by kernel_rfl
 liesBuilder:=by kernel_rfl
 t5:=Tryz.underlying5
 a5:=Tryz.isAgg5
 z5:=Tryz.sizeOf5
 v5:=Tryz.zeroValue5
 infoByte:=by kernel_rfl
 cellsByte:=by kernel_rfl
 sizeByte:=by kernel_rfl
 neB5:=by decide}
open Go.RowKit Go.Lib in
theorem Tryz.strings_Repeat(s:ByteArray)(c:Nat)(w:World)(hc:c<=9223372036854775807)(hlen:s.size*c<=140737488355328):
  Calls Tryz.prog 222 #[.string s,.int .i64 c] w λe w'=>e=.returned (.string ⟨(Lib.repeatL s.data.toList c).toArray⟩)∧Below w.heap.size w w':=Any.strings_Repeat Tryz.lays105 Tryz.Builder_Extra_105 s c w hc hlen
def Tryz.lays160t_ren:Go.Shelf.Ren:=⟨λ |160=>215|232=>252|231=>251|227=>253|234=>255|233=>254|236=>257|235=>256|228=>277|271=>279|151=>278|197=>240|120=>287|152=>286|260=>272|137=>289|119=>290|224=>246|225=>245|217=>244|266=>273|n=>n,λ |9=>9|4=>4|3=>3|5=>5|117=>334|116=>333|0=>0|124=>337|21=>21|105=>321|46=>292|119=>379|139=>382|138=>381|n=>n,λ |3=>7|4=>8|n=>n⟩
theorem Tryz.lays160t:Go.Proofs.Lays.n160 Tryz.prog Tryz.lays160t_ren:={
 mixed:=by kernel_rfl
 f119:=Tryz.func290.trans (congrArg some (by kernel_rfl))
 f120:=Tryz.func287.trans (congrArg some (by kernel_rfl))
 f137:=Tryz.func289.trans (congrArg some (by kernel_rfl))
 f151:=Tryz.func278.trans (congrArg some (by kernel_rfl))
 f152:=Tryz.func286.trans (congrArg some (by kernel_rfl))
 f160:=Tryz.func215.trans (congrArg some (by kernel_rfl))
 f197:=Tryz.func240.trans (congrArg some (by kernel_rfl))
 f217:=Tryz.func244.trans (congrArg some (by kernel_rfl))
 f224:=Tryz.func246.trans (congrArg some (by kernel_rfl))
 f225:=Tryz.func245.trans (congrArg some (by kernel_rfl))
 f227:=Tryz.func253.trans (congrArg some (by kernel_rfl))
 f228:=Tryz.func277.trans (congrArg some (by kernel_rfl))
 f231:=Tryz.func251.trans (congrArg some (by kernel_rfl))
 f232:=Tryz.func252.trans (congrArg some (by kernel_rfl))
 f233:=Tryz.func254.trans (congrArg some (by kernel_rfl))
 f234:=Tryz.func255.trans (congrArg some (by kernel_rfl))
 f235:=Tryz.func256.trans (congrArg some (by kernel_rfl))
 f236:=Tryz.func257.trans (congrArg some (by kernel_rfl))
 f260:=Tryz.func272.trans (congrArg some (by kernel_rfl))
 f266:=Tryz.func273.trans (congrArg some (by kernel_rfl))
 f271:=Tryz.func279.trans (congrArg some (by kernel_rfl))
 t0:=Tryz.underlying0
 a0:=Tryz.isAgg0
 z0:=Tryz.sizeOf0
 v0:=Tryz.zeroValue0
 t3:=Tryz.underlying3
 a3:=Tryz.isAgg3
 z3:=Tryz.sizeOf3
 v3:=Tryz.zeroValue3
 t4:=Tryz.underlying4
 a4:=Tryz.isAgg4
 z4:=Tryz.sizeOf4
 v4:=Tryz.zeroValue4
 t5:=Tryz.underlying5
 a5:=Tryz.isAgg5
 z5:=Tryz.sizeOf5
 v5:=Tryz.zeroValue5
 t9:=Tryz.underlying9
 a9:=Tryz.isAgg9
 z9:=Tryz.sizeOf9
 v9:=Tryz.zeroValue9
 t21:=Tryz.underlying21
 a21:=Tryz.isAgg21
 z21:=Tryz.sizeOf21
 v21:=Tryz.zeroValue21
 t46:=Tryz.underlying292
 a46:=Tryz.isAgg292
 z46:=Tryz.sizeOf292
 v46:=Tryz.zeroValue292
 t105:=Tryz.underlying321
 a105:=Tryz.isAgg321
 z105:=Tryz.sizeOf321
 v105:=Tryz.zeroValue321
 t116:=Tryz.underlying333
 a116:=Tryz.isAgg333
 z116:=Tryz.sizeOf333
 t117:=Tryz.underlying334
 a117:=Tryz.isAgg334
 z117:=Tryz.sizeOf334
 v117:=Tryz.zeroValue334
 t119:=Tryz.underlying379
 a119:=Tryz.isAgg379
 z119:=Tryz.sizeOf379
 t124:=Tryz.underlying337
 a124:=Tryz.isAgg337
 z124:=Tryz.sizeOf337
 v124:=Tryz.zeroValue337
 t138:=Tryz.underlying381
 a138:=Tryz.isAgg381
 z138:=Tryz.sizeOf381
 v138:=Tryz.zeroValue381
 t139:=Tryz.underlying382
 a139:=Tryz.isAgg382
 z139:=Tryz.sizeOf382
 v139:=Tryz.zeroValue382
 g3:=by kernel_rfl
 g4:=by kernel_rfl}
end Go.Proofs
