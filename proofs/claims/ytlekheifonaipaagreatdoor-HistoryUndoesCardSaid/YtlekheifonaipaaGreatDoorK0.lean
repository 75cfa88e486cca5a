/- The library's contracts that the texts behind it lean on, laid at this program. No condition. -/
import Derived.Shelf.Strings.SlTrimAscii
import Derived.Shelf.Strings.Builder1
import Derived.Shelf.Strings.Builder2
import Derived.Shelf.Strings.OnBuilder
import Derived.Shelf.Strings.Trim
import Derived.Shelf.Small.Utf8
import Derived.Shelf.Small.Strs
import Derived.Shelf.Small.Wraps
import Derived.Shelf.Strings.BuilderF
import Derived.Shelf.Utf8.RuneCount
import Derived.Shelf.Strconv.Atoi
import Derived.Shelf.Strconv.Itoa0
import Derived.Shelf.Strconv.Itoa1
import Derived.Shelf.LaysM
import Derived.Shelf.Strconv.Itoa2
import Derived.Shelf.Strconv.Itoa3
import Derived.Shelf.Strconv.AtoiErrFast
import Derived.Shelf.Strconv.ParseIntEmpty
import Derived.Shelf.Strconv.AtoiFail
import Derived.Shelf.Strconv.Clone
import Derived.Shelf.Strconv.SyntaxError
import Derived.Shelf.LaysC
import Derived.Shelf.Strconv.ToError
import Derived.Shelf.Strconv.AtoiErr
import Derived.Shelf.Strconv.ErrVar
import Derived.Shelf.Strconv.Lower
import Derived.Shelf.Strconv.ParseUint10
import Derived.Shelf.Strconv.ParseUint10Empty
import Derived.Shelf.Strconv.ParseUint10Any
import Derived.Shelf.Strconv.ParseInt10
import Derived.Shelf.Strconv.AtoiLong
import Derived.Shelf.Strconv.AtoiInnerAll
import Derived.Shelf.Strconv.RangeError
import Derived.Shelf.Strconv.ToErrorRange
import Derived.Shelf.Strconv.AtoiAll
import Derived.Shelf.Strconv.ErrVarAll
import Derived.Shelf.Strings.Search1
import Derived.Shelf.Strings.Search2
import Derived.Shelf.Strings.Search3
import Derived.Shelf.Strings.Cut
import Derived.Shelf.Strings.Count
import Derived.Shelf.Strings.Shaped
import Derived.Shelf.Strings.Prefix
import Derived.Shelf.Strings.Split
import Derived.Shelf.Strings.SplitShaped
import Derived.Shelf.Unicode.Decode
import Derived.Shelf.Strings.Runes
import Derived.Shelf.Strings.RuneCount
import Derived.Shelf.Strings.AsciiSet
import Derived.Shelf.Strings.Explode
import Derived.Shelf.Bits.Mul64
import Derived.Shelf.Strings.Repeat
import Derived.Shelf.Unicode.DecodeSlow
import Derived.Shelf.Unicode.DecodeAny
import Derived.Shelf.Unicode.DecodeLast
import Derived.Test.YtlekheifonaipaaGreatDoorProg
namespace Go.Proofs
open Go.Shelf
def Tryz.lays169_ren:Go.Shelf.Ren:=⟨λ |169=>72|n=>n,λ |70=>151|9=>9|0=>0|72=>154|37=>152|127=>219|3=>3|5=>5|n=>n,λ|n=>n⟩
theorem Tryz.lays169:Go.Proofs.Lays.n169 Tryz.prog Tryz.lays169_ren:={
 mixed:=by kernel_rfl
 f169:=Tryz.func72.trans (congrArg some (by kernel_rfl))
 t0:=Tryz.underlying0
 a0:=Tryz.isAgg0
 z0:=Tryz.sizeOf0
 v0:=Tryz.zeroValue0
 t3:=Tryz.underlying3
 a3:=Tryz.isAgg3
 z3:=Tryz.sizeOf3
 v3:=Tryz.zeroValue3
 t9:=Tryz.underlying9
 a9:=Tryz.isAgg9
 z9:=Tryz.sizeOf9
 v9:=Tryz.zeroValue9
 t37:=Tryz.underlying152
 a37:=Tryz.isAgg152
 z37:=Tryz.sizeOf152
 v37:=Tryz.zeroValue152
 t70:=Tryz.underlying151
 a70:=Tryz.isAgg151
 z70:=Tryz.sizeOf151
 v70:=Tryz.zeroValue151
 t72:=Tryz.underlying154
 a72:=Tryz.isAgg154
 z72:=Tryz.sizeOf154
 v72:=Tryz.zeroValue154
 t127:=Tryz.underlying219
 a127:=Tryz.isAgg219
 z127:=Tryz.sizeOf219
 v127:=Tryz.zeroValue219}
theorem Tryz.Builder_Extra_169:Builder.Extra Tryz.prog Tryz.lays169_ren:={
 sizeBuilder:=by kernel_rfl
 liesBuilder:=by kernel_rfl
 t5:=Tryz.underlying5
 a5:=Tryz.isAgg5
 z5:=Tryz.sizeOf5
 v5:=Tryz.zeroValue5
 infoByte:=by kernel_rfl
 cellsByte:=by kernel_rfl
 sizeByte:=by kernel_rfl
 neB5:=by decide}
def Tryz.lays156_ren:Go.Shelf.Ren:=⟨λ |156=>118|165=>175|166=>69|169=>72|240=>115|241=>209|276=>173|277=>245|n=>n,λ |31=>199|9=>9|3=>3|4=>4|0=>0|20=>20|72=>154|76=>156|70=>151|37=>152|75=>25|127=>219|164=>255|5=>5|80=>57|n=>n,λ|n=>n⟩
theorem Tryz.lays156:Go.Proofs.Lays.n156 Tryz.prog Tryz.lays156_ren:={
 mixed:=by kernel_rfl
 f156:=Tryz.func118.trans (congrArg some (by kernel_rfl))
 f165:=Tryz.func175.trans (congrArg some (by kernel_rfl))
 f166:=Tryz.func69.trans (congrArg some (by kernel_rfl))
 f169:=Tryz.func72.trans (congrArg some (by kernel_rfl))
 f240:=Tryz.func115.trans (congrArg some (by kernel_rfl))
 f241:=Tryz.func209.trans (congrArg some (by kernel_rfl))
 f276:=Tryz.func173.trans (congrArg some (by kernel_rfl))
 f277:=Tryz.func245.trans (congrArg some (by kernel_rfl))
 t0:=Tryz.underlying0
 a0:=Tryz.isAgg0
 z0:=Tryz.sizeOf0
 v0:=Tryz.zeroValue0
 t3:=Tryz.underlying3
 a3:=Tryz.isAgg3
 z3:=Tryz.sizeOf3
 v3:=Tryz.zeroValue3
 t4:=Tryz.underlying4
 a4:=Tryz.isAgg4
 z4:=Tryz.sizeOf4
 v4:=Tryz.zeroValue4
 t9:=Tryz.underlying9
 a9:=Tryz.isAgg9
 z9:=Tryz.sizeOf9
 v9:=Tryz.zeroValue9
 t20:=Tryz.underlying20
 a20:=Tryz.isAgg20
 z20:=Tryz.sizeOf20
 v20:=Tryz.zeroValue20
 t31:=Tryz.underlying199
 a31:=Tryz.isAgg199
 z31:=Tryz.sizeOf199
 v31:=Tryz.zeroValue199
 t37:=Tryz.underlying152
 a37:=Tryz.isAgg152
 z37:=Tryz.sizeOf152
 v37:=Tryz.zeroValue152
 t70:=Tryz.underlying151
 a70:=Tryz.isAgg151
 z70:=Tryz.sizeOf151
 v70:=Tryz.zeroValue151
 t72:=Tryz.underlying154
 a72:=Tryz.isAgg154
 z72:=Tryz.sizeOf154
 v72:=Tryz.zeroValue154
 t75:=Tryz.underlying25
 a75:=Tryz.isAgg25
 z75:=Tryz.sizeOf25
 v75:=Tryz.zeroValue25
 t76:=Tryz.underlying156
 a76:=Tryz.isAgg156
 z76:=Tryz.sizeOf156
 v76:=Tryz.zeroValue156
 t127:=Tryz.underlying219
 a127:=Tryz.isAgg219
 z127:=Tryz.sizeOf219
 v127:=Tryz.zeroValue219
 t164:=Tryz.underlying255
 a164:=Tryz.isAgg255
 z164:=Tryz.sizeOf255
 v164:=Tryz.zeroValue255}
theorem Tryz.Builder_Extra_156:Builder.Extra Tryz.prog Tryz.lays156_ren:={
 sizeBuilder:=by kernel_rfl
 liesBuilder:=by kernel_rfl
 t5:=Tryz.underlying5
 a5:=Tryz.isAgg5
 z5:=Tryz.sizeOf5
 v5:=Tryz.zeroValue5
 infoByte:=by kernel_rfl
 cellsByte:=by kernel_rfl
 sizeByte:=by kernel_rfl
 neB5:=by decide}
open Go.RowKit in
theorem Tryz.strings_Join_none(a:Option Addr)(c:Nat)(sep:ByteArray)(w:World):
  Calls Tryz.prog 118 #[.slice a 0 c,.string sep] w λe w'=>e=.returned (.string ⟨#[]⟩)∧w'=w:=Any.strings_Join_none Tryz.lays156 Tryz.Builder_Extra_156 a c sep w
open Go.RowKit in
theorem Tryz.strings_Join(bk o c:Nat)(xs:List ByteArray)(sep:ByteArray)(w:World)(hcells:∀(j:Nat)x,xs[j]?=some x->w.cell? ⟨bk,o+j,none⟩=some (.string x))(hbk:bk<w.heap.size)(hN:xs.length<=140737488355328)(hcap:xs.length<=c)(hlen:(Lib.join (xs.map (·.data.toList)) sep.data.toList).length<=140737488355328):
  Calls Tryz.prog 118 #[.slice (some ⟨bk,o,none⟩) xs.length c,.string sep] w λe w'=>e=.returned (.string ⟨(Lib.join (xs.map (·.data.toList)) sep.data.toList).toArray⟩)∧Below w.heap.size w w':=Any.strings_Join Tryz.lays156 Tryz.Builder_Extra_156 bk o c xs sep w hcells hbk hN hcap hlen
def Tryz.lays103_ren:Go.Shelf.Ren:=⟨λ |103=>202|210=>236|206=>196|n=>n,λ |9=>9|4=>4|24=>258|3=>3|n=>n,λ|n=>n⟩
theorem Tryz.lays103:Go.Proofs.Lays.n103 Tryz.prog Tryz.lays103_ren:={
 mixed:=by kernel_rfl
 f103:=Tryz.func202.trans (congrArg some (by kernel_rfl))
 f206:=Tryz.func196.trans (congrArg some (by kernel_rfl))
 f210:=Tryz.func236.trans (congrArg some (by kernel_rfl))
 t3:=Tryz.underlying3
 a3:=Tryz.isAgg3
 z3:=Tryz.sizeOf3
 v3:=Tryz.zeroValue3
 t4:=Tryz.underlying4
 a4:=Tryz.isAgg4
 z4:=Tryz.sizeOf4
 v4:=Tryz.zeroValue4
 t9:=Tryz.underlying9
 a9:=Tryz.isAgg9
 z9:=Tryz.sizeOf9
 v9:=Tryz.zeroValue9
 t24:=Tryz.underlying258
 a24:=Tryz.isAgg258
 z24:=Tryz.sizeOf258
 v24:=Tryz.zeroValue258}
open Go.RowKit in
theorem Tryz.strings_CutPrefix(s p:ByteArray)(w:World):
  Calls Tryz.prog 202 #[.string s,.string p] w λe w'=>e=.returned (.tuple #[.string ⟨(Lib.trimPrefix s.data.toList p.data.toList).toArray⟩,.bool (Lib.hasPrefix s.data.toList p.data.toList)])∧w'=w:=Any.strings_CutPrefix Tryz.lays103 s p w
def Tryz.laysM171_ren:Go.Shelf.Ren:=⟨λ |171=>117|243=>174|246=>208|283=>241|284=>242|285=>243|286=>244|129=>263|317=>262|318=>264|319=>265|320=>266|337=>271|338=>272|n=>n,λ |3=>3|9=>9|2=>2|4=>4|171=>324|0=>0|53=>239|37=>152|5=>5|173=>327|212=>356|51=>139|20=>20|213=>357|46=>262|232=>367|233=>368|n=>n,λ |17=>4|18=>7|19=>8|n=>n⟩
theorem Tryz.laysM171:Go.Proofs.LaysM.n171 Tryz.prog Tryz.laysM171_ren:={
 mixed:=by kernel_rfl
 f129:=Tryz.func263.trans (congrArg some (by kernel_rfl))
 f171:=Tryz.func117.trans (congrArg some (by kernel_rfl))
 f243:=Tryz.func174.trans (congrArg some (by kernel_rfl))
 f246:=Tryz.func208.trans (congrArg some (by kernel_rfl))
 f283:=Tryz.func241.trans (congrArg some (by kernel_rfl))
 f284:=Tryz.func242.trans (congrArg some (by kernel_rfl))
 f285:=Tryz.func243.trans (congrArg some (by kernel_rfl))
 f286:=Tryz.func244.trans (congrArg some (by kernel_rfl))
 f317:=Tryz.func262.trans (congrArg some (by kernel_rfl))
 f318:=Tryz.func264.trans (congrArg some (by kernel_rfl))
 f319:=Tryz.func265.trans (congrArg some (by kernel_rfl))
 f320:=Tryz.func266.trans (congrArg some (by kernel_rfl))
 f337:=Tryz.func271.trans (congrArg some (by kernel_rfl))
 f338:=Tryz.func272.trans (congrArg some (by kernel_rfl))
 t0:=Tryz.underlying0
 a0:=Tryz.isAgg0
 z0:=Tryz.sizeOf0
 v0:=Tryz.zeroValue0
 t2:=Tryz.underlying2
 a2:=Tryz.isAgg2
 z2:=Tryz.sizeOf2
 v2:=Tryz.zeroValue2
 t3:=Tryz.underlying3
 a3:=Tryz.isAgg3
 z3:=Tryz.sizeOf3
 v3:=Tryz.zeroValue3
 t4:=Tryz.underlying4
 a4:=Tryz.isAgg4
 z4:=Tryz.sizeOf4
 v4:=Tryz.zeroValue4
 t5:=Tryz.underlying5
 a5:=Tryz.isAgg5
 z5:=Tryz.sizeOf5
 v5:=Tryz.zeroValue5
 t9:=Tryz.underlying9
 a9:=Tryz.isAgg9
 z9:=Tryz.sizeOf9
 v9:=Tryz.zeroValue9
 t20:=Tryz.underlying20
 a20:=Tryz.isAgg20
 z20:=Tryz.sizeOf20
 v20:=Tryz.zeroValue20
 t37:=Tryz.underlying152
 a37:=Tryz.isAgg152
 z37:=Tryz.sizeOf152
 v37:=Tryz.zeroValue152
 t46:=Tryz.underlying262
 a46:=Tryz.isAgg262
 z46:=Tryz.sizeOf262
 v46:=Tryz.zeroValue262
 t51:=Tryz.underlying139
 a51:=Tryz.isAgg139
 z51:=Tryz.sizeOf139
 v51:=Tryz.zeroValue139
 t53:=Tryz.underlying239
 a53:=Tryz.isAgg239
 z53:=Tryz.sizeOf239
 v53:=Tryz.zeroValue239
 t171:=Tryz.underlying324
 a171:=Tryz.isAgg324
 z171:=Tryz.sizeOf324
 v171:=Tryz.zeroValue324
 t173:=Tryz.underlying327
 a173:=Tryz.isAgg327
 z173:=Tryz.sizeOf327
 v173:=Tryz.zeroValue327
 t212:=Tryz.underlying356
 a212:=Tryz.isAgg356
 z212:=Tryz.sizeOf356
 v212:=Tryz.zeroValue356
 t213:=Tryz.underlying357
 a213:=Tryz.isAgg357
 z213:=Tryz.sizeOf357
 t232:=Tryz.underlying367
 a232:=Tryz.isAgg367
 z232:=Tryz.sizeOf367
 v232:=Tryz.zeroValue367
 t233:=Tryz.underlying368
 a233:=Tryz.isAgg368
 z233:=Tryz.sizeOf368
 v233:=Tryz.zeroValue368
 g17:=by kernel_rfl
 g18:=by kernel_rfl
 g19:=by kernel_rfl
 i0:=by kernel_rfl
 i2:=by kernel_rfl
 i3:=by kernel_rfl
 i4:=by kernel_rfl
 i5:=by kernel_rfl
 i9:=by kernel_rfl
 i20:=by kernel_rfl
 i37:=by kernel_rfl
 i46:=by kernel_rfl
 i51:=by kernel_rfl
 i53:=by kernel_rfl
 i171:=by kernel_rfl
 i173:=by kernel_rfl
 i212:=by kernel_rfl
 i232:=by kernel_rfl
 i233:=by kernel_rfl
 m17:=by kernel_rfl
 m18:=by kernel_rfl
 m19:=by kernel_rfl}
open Go.RowKit Go.Sort Go.Lib in
theorem Tryz.strconv_Itoa(n:Int)(h0: -9223372036854775808<=n)(h1:n<=9223372036854775807)(w:World)(htab:Lib.TabIs Tryz.prog w "internal/strconv.uint64pow10" .u64 Lib.pow10Tab):
  Calls Tryz.prog 117 #[.int .i64 n] w λe w'=>e=.returned (.string ⟨(Lib.itoa n).toArray⟩)∧∃k os,w'=grow (w.drewN k) os:=Any.strconv_Itoa Tryz.laysM171 n h0 h1 w htab
def Tryz.laysC172_ren:Go.Shelf.Ren:=⟨λ |172=>105|244=>151|245=>152|247=>191|279=>192|280=>193|281=>194|282=>195|287=>224|316=>225|171=>117|205=>226|321=>252|322=>253|243=>174|246=>208|283=>241|284=>242|285=>243|286=>244|129=>263|317=>262|318=>264|319=>265|320=>266|337=>271|338=>272|n=>n,λ |9=>9|3=>3|75=>25|76=>156|4=>4|5=>5|167=>280|37=>152|0=>0|85=>281|2=>2|168=>283|53=>239|175=>309|46=>262|210=>312|127=>219|145=>348|143=>346|21=>21|171=>324|173=>327|212=>356|51=>139|20=>20|213=>357|232=>367|233=>368|80=>57|n=>n,λ |15=>2|16=>3|17=>4|18=>7|19=>8|n=>n⟩
theorem Tryz.laysC172:Go.Proofs.LaysC.n172 Tryz.prog Tryz.laysC172_ren:={
 mixed:=by kernel_rfl
 f129:=Tryz.func263.trans (congrArg some (by kernel_rfl))
 f171:=Tryz.func117.trans (congrArg some (by kernel_rfl))
 f172:=Tryz.func105.trans (congrArg some (by kernel_rfl))
 f205:=Tryz.func226.trans (congrArg some (by kernel_rfl))
 f243:=Tryz.func174.trans (congrArg some (by kernel_rfl))
 f244:=Tryz.func151.trans (congrArg some (by kernel_rfl))
 f245:=Tryz.func152.trans (congrArg some (by kernel_rfl))
 f246:=Tryz.func208.trans (congrArg some (by kernel_rfl))
 f247:=Tryz.func191.trans (congrArg some (by kernel_rfl))
 f279:=Tryz.func192.trans (congrArg some (by kernel_rfl))
 f280:=Tryz.func193.trans (congrArg some (by kernel_rfl))
 f281:=Tryz.func194.trans (congrArg some (by kernel_rfl))
 f282:=Tryz.func195.trans (congrArg some (by kernel_rfl))
 f283:=Tryz.func241.trans (congrArg some (by kernel_rfl))
 f284:=Tryz.func242.trans (congrArg some (by kernel_rfl))
 f285:=Tryz.func243.trans (congrArg some (by kernel_rfl))
 f286:=Tryz.func244.trans (congrArg some (by kernel_rfl))
 f287:=Tryz.func224.trans (congrArg some (by kernel_rfl))
 f316:=Tryz.func225.trans (congrArg some (by kernel_rfl))
 f317:=Tryz.func262.trans (congrArg some (by kernel_rfl))
 f318:=Tryz.func264.trans (congrArg some (by kernel_rfl))
 f319:=Tryz.func265.trans (congrArg some (by kernel_rfl))
 f320:=Tryz.func266.trans (congrArg some (by kernel_rfl))
 f321:=Tryz.func252.trans (congrArg some (by kernel_rfl))
 f322:=Tryz.func253.trans (congrArg some (by kernel_rfl))
 f337:=Tryz.func271.trans (congrArg some (by kernel_rfl))
 f338:=Tryz.func272.trans (congrArg some (by kernel_rfl))
 t0:=Tryz.underlying0
 a0:=Tryz.isAgg0
 z0:=Tryz.sizeOf0
 v0:=Tryz.zeroValue0
 t2:=Tryz.underlying2
 a2:=Tryz.isAgg2
 z2:=Tryz.sizeOf2
 v2:=Tryz.zeroValue2
 t3:=Tryz.underlying3
 a3:=Tryz.isAgg3
 z3:=Tryz.sizeOf3
 v3:=Tryz.zeroValue3
 t4:=Tryz.underlying4
 a4:=Tryz.isAgg4
 z4:=Tryz.sizeOf4
 v4:=Tryz.zeroValue4
 t5:=Tryz.underlying5
 a5:=Tryz.isAgg5
 z5:=Tryz.sizeOf5
 v5:=Tryz.zeroValue5
 t9:=Tryz.underlying9
 a9:=Tryz.isAgg9
 z9:=Tryz.sizeOf9
 v9:=Tryz.zeroValue9
 t20:=Tryz.underlying20
 a20:=Tryz.isAgg20
 z20:=Tryz.sizeOf20
 v20:=Tryz.zeroValue20
 t21:=Tryz.underlying21
 a21:=Tryz.isAgg21
 z21:=Tryz.sizeOf21
 v21:=Tryz.zeroValue21
 t37:=Tryz.underlying152
 a37:=Tryz.isAgg152
 z37:=Tryz.sizeOf152
 v37:=Tryz.zeroValue152
 t46:=Tryz.underlying262
 a46:=Tryz.isAgg262
 z46:=Tryz.sizeOf262
 v46:=Tryz.zeroValue262
 t51:=Tryz.underlying139
 a51:=Tryz.isAgg139
 z51:=Tryz.sizeOf139
 v51:=Tryz.zeroValue139
 t53:=Tryz.underlying239
 a53:=Tryz.isAgg239
 z53:=Tryz.sizeOf239
 v53:=Tryz.zeroValue239
 t75:=Tryz.underlying25
 a75:=Tryz.isAgg25
 z75:=Tryz.sizeOf25
 v75:=Tryz.zeroValue25
 t76:=Tryz.underlying156
 a76:=Tryz.isAgg156
 z76:=Tryz.sizeOf156
 v76:=Tryz.zeroValue156
 t85:=Tryz.underlying281
 a85:=Tryz.isAgg281
 z85:=Tryz.sizeOf281
 v85:=Tryz.zeroValue281
 t127:=Tryz.underlying219
 a127:=Tryz.isAgg219
 z127:=Tryz.sizeOf219
 v127:=Tryz.zeroValue219
 t143:=Tryz.underlying346
 a143:=Tryz.isAgg346
 z143:=Tryz.sizeOf346
 v143:=Tryz.zeroValue346
 t145:=Tryz.underlying348
 a145:=Tryz.isAgg348
 z145:=Tryz.sizeOf348
 v145:=Tryz.zeroValue348
 t167:=Tryz.underlying280
 a167:=Tryz.isAgg280
 z167:=Tryz.sizeOf280
 v167:=Tryz.zeroValue280
 t168:=Tryz.underlying283
 a168:=Tryz.isAgg283
 z168:=Tryz.sizeOf283
 v168:=Tryz.zeroValue283
 t171:=Tryz.underlying324
 a171:=Tryz.isAgg324
 z171:=Tryz.sizeOf324
 v171:=Tryz.zeroValue324
 t173:=Tryz.underlying327
 a173:=Tryz.isAgg327
 z173:=Tryz.sizeOf327
 v173:=Tryz.zeroValue327
 t175:=Tryz.underlying309
 a175:=Tryz.isAgg309
 z175:=Tryz.sizeOf309
 v175:=Tryz.zeroValue309
 t210:=Tryz.underlying312
 a210:=Tryz.isAgg312
 z210:=Tryz.sizeOf312
 v210:=Tryz.zeroValue312
 t212:=Tryz.underlying356
 a212:=Tryz.isAgg356
 z212:=Tryz.sizeOf356
 v212:=Tryz.zeroValue356
 t213:=Tryz.underlying357
 a213:=Tryz.isAgg357
 z213:=Tryz.sizeOf357
 t232:=Tryz.underlying367
 a232:=Tryz.isAgg367
 z232:=Tryz.sizeOf367
 v232:=Tryz.zeroValue367
 t233:=Tryz.underlying368
 a233:=Tryz.isAgg368
 z233:=Tryz.sizeOf368
 v233:=Tryz.zeroValue368
 g15:=by kernel_rfl
 g16:=by kernel_rfl
 g17:=by kernel_rfl
 g18:=by kernel_rfl
 g19:=by kernel_rfl
 t80:=Tryz.underlying57
 a80:=Tryz.isAgg57
 z80:=Tryz.sizeOf57
 v80:=Tryz.zeroValue57
 i0:=by kernel_rfl
 i2:=by kernel_rfl
 i3:=by kernel_rfl
 i4:=by kernel_rfl
 i5:=by kernel_rfl
 i9:=by kernel_rfl
 i20:=by kernel_rfl
 i21:=by kernel_rfl
 i37:=by kernel_rfl
 i46:=by kernel_rfl
 i51:=by kernel_rfl
 i53:=by kernel_rfl
 i75:=by kernel_rfl
 i76:=by kernel_rfl
 i80:=by kernel_rfl
 i85:=by kernel_rfl
 i127:=by kernel_rfl
 i143:=by kernel_rfl
 i145:=by kernel_rfl
 i167:=by kernel_rfl
 i168:=by kernel_rfl
 i171:=by kernel_rfl
 i173:=by kernel_rfl
 i175:=by kernel_rfl
 i210:=by kernel_rfl
 i212:=by kernel_rfl
 i232:=by kernel_rfl
 i233:=by kernel_rfl
 m15:=by kernel_rfl
 m16:=by kernel_rfl
 m17:=by kernel_rfl
 m18:=by kernel_rfl
 m19:=by kernel_rfl
 c0:=by kernel_rfl
 c2:=by kernel_rfl
 c3:=by kernel_rfl
 c4:=by kernel_rfl
 c5:=by kernel_rfl
 c9:=by kernel_rfl
 c20:=by kernel_rfl
 c21:=by kernel_rfl
 c37:=by kernel_rfl
 c46:=by kernel_rfl
 c51:=by kernel_rfl
 c53:=by kernel_rfl
 c75:=by kernel_rfl
 c76:=by kernel_rfl
 c80:=by kernel_rfl
 c85:=by kernel_rfl
 c127:=by kernel_rfl
 c143:=by kernel_rfl
 c145:=by kernel_rfl
 c167:=by kernel_rfl
 c168:=by kernel_rfl
 c171:=by kernel_rfl
 c173:=by kernel_rfl
 c175:=by kernel_rfl
 c210:=by kernel_rfl
 c212:=by kernel_rfl
 c213:=by kernel_rfl
 c232:=by kernel_rfl
 c233:=by kernel_rfl}
open Go.RowKit in
theorem Tryz.strconv_Atoi_ok(s:ByteArray)(hmax:s.size<=9223372036854775806)(v:Int)(h:Lib.atoiAll s.data.toList=.ok v)(w:World):
  Calls Tryz.prog 105 #[.string s] w λe w'=>e=.returned (.tuple #[.int .i64 v,.nilIface])∧(w'=w∨∃t,w'=Lib.bytesWorld w 5 t):=Any.strconv_Atoi_ok Tryz.laysC172 s hmax v h w
open Go.RowKit in
theorem Tryz.strconv_Atoi_range_var(s:ByteArray)(hlim:s.size<=281474976710656)(h:Lib.atoiAll s.data.toList=.range)(tp:TypeId)(p:Value)(w:World)(hvar:w.var? Tryz.prog "strconv.ErrRange" =some #[.iface tp p]):
  Calls Tryz.prog 105 #[.string s] w λe w'=>∃N,e=.returned (.tuple #[.int .i64 (Lib.atoiSat s.data.toList),.iface 283 (.pointer (some ⟨N,0,none⟩))])∧w.heap.size<=N∧w'.heap[N]?=some (.cells #[.string ⟨#[65,116,111,105]⟩,.string s,.iface tp p] 312 (0,0))∧Below w.heap.size w w':=Any.strconv_Atoi_range_var Tryz.laysC172 s hlim h tp p w hvar
def Tryz.laysM144_ren:Go.Shelf.Ren:=⟨λ |144=>197|143=>227|219=>190|217=>220|225=>221|224=>222|267=>223|266=>250|314=>251|n=>n,λ |9=>9|4=>4|3=>3|5=>5|46=>262|146=>343|51=>139|n=>n,λ |1=>1|n=>n⟩
theorem Tryz.laysM144:Go.Proofs.LaysM.n144 Tryz.prog Tryz.laysM144_ren:={
 mixed:=by kernel_rfl
 f143:=Tryz.func227.trans (congrArg some (by kernel_rfl))
 f144:=Tryz.func197.trans (congrArg some (by kernel_rfl))
 f217:=Tryz.func220.trans (congrArg some (by kernel_rfl))
 f219:=Tryz.func190.trans (congrArg some (by kernel_rfl))
 f224:=Tryz.func222.trans (congrArg some (by kernel_rfl))
 f225:=Tryz.func221.trans (congrArg some (by kernel_rfl))
 f266:=Tryz.func250.trans (congrArg some (by kernel_rfl))
 f267:=Tryz.func223.trans (congrArg some (by kernel_rfl))
 f314:=Tryz.func251.trans (congrArg some (by kernel_rfl))
 t3:=Tryz.underlying3
 a3:=Tryz.isAgg3
 z3:=Tryz.sizeOf3
 v3:=Tryz.zeroValue3
 t4:=Tryz.underlying4
 a4:=Tryz.isAgg4
 z4:=Tryz.sizeOf4
 v4:=Tryz.zeroValue4
 t5:=Tryz.underlying5
 a5:=Tryz.isAgg5
 z5:=Tryz.sizeOf5
 v5:=Tryz.zeroValue5
 t9:=Tryz.underlying9
 a9:=Tryz.isAgg9
 z9:=Tryz.sizeOf9
 v9:=Tryz.zeroValue9
 t46:=Tryz.underlying262
 a46:=Tryz.isAgg262
 z46:=Tryz.sizeOf262
 v46:=Tryz.zeroValue262
 t51:=Tryz.underlying139
 a51:=Tryz.isAgg139
 z51:=Tryz.sizeOf139
 v51:=Tryz.zeroValue139
 t146:=Tryz.underlying343
 a146:=Tryz.isAgg343
 z146:=Tryz.sizeOf343
 v146:=Tryz.zeroValue343
 g1:=by kernel_rfl
 i3:=by kernel_rfl
 i4:=by kernel_rfl
 i5:=by kernel_rfl
 i9:=by kernel_rfl
 i46:=by kernel_rfl
 i51:=by kernel_rfl
 i146:=by kernel_rfl
 m1:=by kernel_rfl
 s1_3:=λw h=>Go.Proofs.cell_of_shapedOpen_int (zero:= #[.int .i64 0]) (t:=3) h (of_decide_eq_true (by kernel_rfl)) (by kernel_rfl) rfl (by kernel_rfl) (by kernel_rfl) Tryz.underlying3}
open Go.RowKit Go.Lib in
theorem Tryz.strings_Contains_shaped(s sub:ByteArray)(w:World)(h:w.ShapedOpen Tryz.prog)(hs:s.size<4294967281):
  Calls Tryz.prog 197 #[.string s,.string sub] w λe w'=>e=.returned (.bool (Lib.contains s.data.toList sub.data.toList))∧w'=w:=Any.strings_Contains_shaped Tryz.laysM144 s sub w h hs
def Tryz.laysM145_ren:Go.Shelf.Ren:=⟨λ |145=>104|220=>150|219=>190|217=>220|225=>221|224=>222|267=>223|266=>250|314=>251|n=>n,λ |9=>9|4=>4|59=>201|3=>3|5=>5|46=>262|146=>343|51=>139|n=>n,λ |1=>1|n=>n⟩
theorem Tryz.laysM145:Go.Proofs.LaysM.n145 Tryz.prog Tryz.laysM145_ren:={
 mixed:=by kernel_rfl
 f145:=Tryz.func104.trans (congrArg some (by kernel_rfl))
 f217:=Tryz.func220.trans (congrArg some (by kernel_rfl))
 f219:=Tryz.func190.trans (congrArg some (by kernel_rfl))
 f220:=Tryz.func150.trans (congrArg some (by kernel_rfl))
 f224:=Tryz.func222.trans (congrArg some (by kernel_rfl))
 f225:=Tryz.func221.trans (congrArg some (by kernel_rfl))
 f266:=Tryz.func250.trans (congrArg some (by kernel_rfl))
 f267:=Tryz.func223.trans (congrArg some (by kernel_rfl))
 f314:=Tryz.func251.trans (congrArg some (by kernel_rfl))
 t3:=Tryz.underlying3
 a3:=Tryz.isAgg3
 z3:=Tryz.sizeOf3
 v3:=Tryz.zeroValue3
 t4:=Tryz.underlying4
 a4:=Tryz.isAgg4
 z4:=Tryz.sizeOf4
 v4:=Tryz.zeroValue4
 t5:=Tryz.underlying5
 a5:=Tryz.isAgg5
 z5:=Tryz.sizeOf5
 v5:=Tryz.zeroValue5
 t9:=Tryz.underlying9
 a9:=Tryz.isAgg9
 z9:=Tryz.sizeOf9
 v9:=Tryz.zeroValue9
 t46:=Tryz.underlying262
 a46:=Tryz.isAgg262
 z46:=Tryz.sizeOf262
 v46:=Tryz.zeroValue262
 t51:=Tryz.underlying139
 a51:=Tryz.isAgg139
 z51:=Tryz.sizeOf139
 v51:=Tryz.zeroValue139
 t59:=Tryz.underlying201
 a59:=Tryz.isAgg201
 z59:=Tryz.sizeOf201
 v59:=Tryz.zeroValue201
 t146:=Tryz.underlying343
 a146:=Tryz.isAgg343
 z146:=Tryz.sizeOf343
 v146:=Tryz.zeroValue343
 g1:=by kernel_rfl
 i3:=by kernel_rfl
 i4:=by kernel_rfl
 i5:=by kernel_rfl
 i9:=by kernel_rfl
 i46:=by kernel_rfl
 i51:=by kernel_rfl
 i59:=by kernel_rfl
 i146:=by kernel_rfl
 m1:=by kernel_rfl
 s1_3:=λw h=>Go.Proofs.cell_of_shapedOpen_int (zero:= #[.int .i64 0]) (t:=3) h (of_decide_eq_true (by kernel_rfl)) (by kernel_rfl) rfl (by kernel_rfl) (by kernel_rfl) Tryz.underlying3}
open Go.RowKit Go.Lib in
theorem Tryz.strings_Cut_shaped(s sep:ByteArray)(w:World)(h:w.ShapedOpen Tryz.prog)(hs:s.size<4294967281):
  Calls Tryz.prog 104 #[.string s,.string sep] w λe w'=>e=.returned (.tuple #[.string ⟨(Lib.cut s.data.toList sep.data.toList).1.toArray⟩,.string ⟨(Lib.cut s.data.toList sep.data.toList).2.1.toArray⟩,.bool (Lib.cut s.data.toList sep.data.toList).2.2])∧∃n,w'=w.drewN n:=Any.strings_Cut_shaped Tryz.laysM145 s sep w h hs
def Tryz.lays99_ren:Go.Shelf.Ren:=⟨λ |99=>155|206=>196|n=>n,λ |9=>9|4=>4|3=>3|n=>n,λ|n=>n⟩
theorem Tryz.lays99:Go.Proofs.Lays.n99 Tryz.prog Tryz.lays99_ren:={
 mixed:=by kernel_rfl
 f99:=Tryz.func155.trans (congrArg some (by kernel_rfl))
 f206:=Tryz.func196.trans (congrArg some (by kernel_rfl))
 t3:=Tryz.underlying3
 a3:=Tryz.isAgg3
 z3:=Tryz.sizeOf3
 v3:=Tryz.zeroValue3
 t4:=Tryz.underlying4
 a4:=Tryz.isAgg4
 z4:=Tryz.sizeOf4
 v4:=Tryz.zeroValue4
 t9:=Tryz.underlying9
 a9:=Tryz.isAgg9
 z9:=Tryz.sizeOf9
 v9:=Tryz.zeroValue9}
open Go.RowKit Go.Lib in
theorem Tryz.strings_HasPrefix(s p:ByteArray)(w:World):
  Calls Tryz.prog 155 #[.string s,.string p] w λe w'=>e=.returned (.bool (Lib.hasPrefix s.data.toList p.data.toList))∧w'=w:=Any.strings_HasPrefix Tryz.lays99 s p w
def Tryz.lays100_ren:Go.Shelf.Ren:=⟨λ |100=>119|207=>176|n=>n,λ |9=>9|4=>4|3=>3|n=>n,λ|n=>n⟩
theorem Tryz.lays100:Go.Proofs.Lays.n100 Tryz.prog Tryz.lays100_ren:={
 mixed:=by kernel_rfl
 f100:=Tryz.func119.trans (congrArg some (by kernel_rfl))
 f207:=Tryz.func176.trans (congrArg some (by kernel_rfl))
 t3:=Tryz.underlying3
 a3:=Tryz.isAgg3
 z3:=Tryz.sizeOf3
 v3:=Tryz.zeroValue3
 t4:=Tryz.underlying4
 a4:=Tryz.isAgg4
 z4:=Tryz.sizeOf4
 v4:=Tryz.zeroValue4
 t9:=Tryz.underlying9
 a9:=Tryz.isAgg9
 z9:=Tryz.sizeOf9
 v9:=Tryz.zeroValue9}
open Go.RowKit Go.Lib in
theorem Tryz.strings_HasSuffix(s p:ByteArray)(w:World)(hs:s.size<=9223372036854775807):
  Calls Tryz.prog 119 #[.string s,.string p] w λe w'=>e=.returned (.bool (Lib.hasSuffix s.data.toList p.data.toList))∧w'=w:=Any.strings_HasSuffix Tryz.lays100 s p w hs
def Tryz.lays101_ren:Go.Shelf.Ren:=⟨λ |101=>106|208=>153|206=>196|n=>n,λ |9=>9|4=>4|3=>3|n=>n,λ|n=>n⟩
theorem Tryz.lays101:Go.Proofs.Lays.n101 Tryz.prog Tryz.lays101_ren:={
 mixed:=by kernel_rfl
 f101:=Tryz.func106.trans (congrArg some (by kernel_rfl))
 f206:=Tryz.func196.trans (congrArg some (by kernel_rfl))
 f208:=Tryz.func153.trans (congrArg some (by kernel_rfl))
 t3:=Tryz.underlying3
 a3:=Tryz.isAgg3
 z3:=Tryz.sizeOf3
 v3:=Tryz.zeroValue3
 t4:=Tryz.underlying4
 a4:=Tryz.isAgg4
 z4:=Tryz.sizeOf4
 v4:=Tryz.zeroValue4
 t9:=Tryz.underlying9
 a9:=Tryz.isAgg9
 z9:=Tryz.sizeOf9
 v9:=Tryz.zeroValue9}
open Go.RowKit Go.Lib in
theorem Tryz.strings_TrimPrefix(s p:ByteArray)(w:World):
  Calls Tryz.prog 106 #[.string s,.string p] w λe w'=>e=.returned (.string ⟨(Lib.trimPrefix s.data.toList p.data.toList).toArray⟩)∧w'=w:=Any.strings_TrimPrefix Tryz.lays101 s p w
def Tryz.laysM146_ren:Go.Shelf.Ren:=⟨λ |146=>171|221=>207|268=>239|138=>240|143=>227|195=>260|197=>255|218=>261|219=>190|260=>268|217=>220|225=>221|224=>222|267=>223|266=>250|314=>251|n=>n,λ |9=>9|31=>199|3=>3|4=>4|0=>0|105=>349|21=>21|5=>5|46=>262|119=>362|139=>365|138=>364|146=>343|51=>139|n=>n,λ |1=>1|3=>5|4=>6|n=>n⟩
theorem Tryz.laysM146:Go.Proofs.LaysM.n146 Tryz.prog Tryz.laysM146_ren:={
 mixed:=by kernel_rfl
 f138:=Tryz.func240.trans (congrArg some (by kernel_rfl))
 f143:=Tryz.func227.trans (congrArg some (by kernel_rfl))
 f146:=Tryz.func171.trans (congrArg some (by kernel_rfl))
 f195:=Tryz.func260.trans (congrArg some (by kernel_rfl))
 f197:=Tryz.func255.trans (congrArg some (by kernel_rfl))
 f217:=Tryz.func220.trans (congrArg some (by kernel_rfl))
 f218:=Tryz.func261.trans (congrArg some (by kernel_rfl))
 f219:=Tryz.func190.trans (congrArg some (by kernel_rfl))
 f221:=Tryz.func207.trans (congrArg some (by kernel_rfl))
 f224:=Tryz.func222.trans (congrArg some (by kernel_rfl))
 f225:=Tryz.func221.trans (congrArg some (by kernel_rfl))
 f260:=Tryz.func268.trans (congrArg some (by kernel_rfl))
 f266:=Tryz.func250.trans (congrArg some (by kernel_rfl))
 f267:=Tryz.func223.trans (congrArg some (by kernel_rfl))
 f268:=Tryz.func239.trans (congrArg some (by kernel_rfl))
 f314:=Tryz.func251.trans (congrArg some (by kernel_rfl))
 t0:=Tryz.underlying0
 a0:=Tryz.isAgg0
 z0:=Tryz.sizeOf0
 v0:=Tryz.zeroValue0
 t3:=Tryz.underlying3
 a3:=Tryz.isAgg3
 z3:=Tryz.sizeOf3
 v3:=Tryz.zeroValue3
 t4:=Tryz.underlying4
 a4:=Tryz.isAgg4
 z4:=Tryz.sizeOf4
 v4:=Tryz.zeroValue4
 t5:=Tryz.underlying5
 a5:=Tryz.isAgg5
 z5:=Tryz.sizeOf5
 v5:=Tryz.zeroValue5
 t9:=Tryz.underlying9
 a9:=Tryz.isAgg9
 z9:=Tryz.sizeOf9
 v9:=Tryz.zeroValue9
 t21:=Tryz.underlying21
 a21:=Tryz.isAgg21
 z21:=Tryz.sizeOf21
 v21:=Tryz.zeroValue21
 t31:=Tryz.underlying199
 a31:=Tryz.isAgg199
 z31:=Tryz.sizeOf199
 v31:=Tryz.zeroValue199
 t46:=Tryz.underlying262
 a46:=Tryz.isAgg262
 z46:=Tryz.sizeOf262
 v46:=Tryz.zeroValue262
 t51:=Tryz.underlying139
 a51:=Tryz.isAgg139
 z51:=Tryz.sizeOf139
 v51:=Tryz.zeroValue139
 t105:=Tryz.underlying349
 a105:=Tryz.isAgg349
 z105:=Tryz.sizeOf349
 v105:=Tryz.zeroValue349
 t119:=Tryz.underlying362
 a119:=Tryz.isAgg362
 z119:=Tryz.sizeOf362
 t138:=Tryz.underlying364
 a138:=Tryz.isAgg364
 z138:=Tryz.sizeOf364
 v138:=Tryz.zeroValue364
 t139:=Tryz.underlying365
 a139:=Tryz.isAgg365
 z139:=Tryz.sizeOf365
 v139:=Tryz.zeroValue365
 t146:=Tryz.underlying343
 a146:=Tryz.isAgg343
 z146:=Tryz.sizeOf343
 v146:=Tryz.zeroValue343
 g1:=by kernel_rfl
 g3:=by kernel_rfl
 g4:=by kernel_rfl
 i0:=by kernel_rfl
 i3:=by kernel_rfl
 i4:=by kernel_rfl
 i5:=by kernel_rfl
 i9:=by kernel_rfl
 i21:=by kernel_rfl
 i31:=by kernel_rfl
 i46:=by kernel_rfl
 i51:=by kernel_rfl
 i105:=by kernel_rfl
 i138:=by kernel_rfl
 i139:=by kernel_rfl
 i146:=by kernel_rfl
 m1:=by kernel_rfl
 s1_3:=λw h=>Go.Proofs.cell_of_shapedOpen_int (zero:= #[.int .i64 0]) (t:=3) h (of_decide_eq_true (by kernel_rfl)) (by kernel_rfl) rfl (by kernel_rfl) (by kernel_rfl) Tryz.underlying3
 m3:=by kernel_rfl
 m4:=by kernel_rfl}
open Go.RowKit Go.Lib in
theorem Tryz.strings_Split_shaped(s sep:ByteArray)(w:World)(h:w.ShapedOpen Tryz.prog)(hs:s.size<4294967281)(h1:1<=sep.size):
  Calls Tryz.prog 171 #[.string s,.string sep] w λe w'=>
   e=.returned (.slice (some ⟨w.heap.size,0,none⟩) (Lib.countB s sep+1) (Lib.countB s sep+1))∧w'=w.alloc (.cells ((Lib.splitB sep 0 (Lib.countB s sep) s).map Value.string).toArray 9):=Any.strings_Split_shaped Tryz.laysM146 s sep w h hs h1
def Tryz.lays105_ren:Go.Shelf.Ren:=⟨λ |105=>205|212=>237|99=>155|165=>175|166=>69|170=>238|169=>72|263=>258|264=>259|206=>196|240=>115|241=>209|276=>173|277=>245|n=>n,λ |9=>9|3=>3|4=>4|20=>20|0=>0|46=>262|109=>321|5=>5|72=>154|76=>156|51=>139|146=>343|53=>239|148=>353|70=>151|37=>152|75=>25|127=>219|164=>255|80=>57|n=>n,λ|n=>n⟩
theorem Tryz.lays105:Go.Proofs.Lays.n105 Tryz.prog Tryz.lays105_ren:={
 mixed:=by kernel_rfl
 f99:=Tryz.func155.trans (congrArg some (by kernel_rfl))
 f105:=Tryz.func205.trans (congrArg some (by kernel_rfl))
 f165:=Tryz.func175.trans (congrArg some (by kernel_rfl))
 f166:=Tryz.func69.trans (congrArg some (by kernel_rfl))
 f169:=Tryz.func72.trans (congrArg some (by kernel_rfl))
 f170:=Tryz.func238.trans (congrArg some (by kernel_rfl))
 f206:=Tryz.func196.trans (congrArg some (by kernel_rfl))
 f212:=Tryz.func237.trans (congrArg some (by kernel_rfl))
 f240:=Tryz.func115.trans (congrArg some (by kernel_rfl))
 f241:=Tryz.func209.trans (congrArg some (by kernel_rfl))
 f263:=Tryz.func258.trans (congrArg some (by kernel_rfl))
 f264:=Tryz.func259.trans (congrArg some (by kernel_rfl))
 f276:=Tryz.func173.trans (congrArg some (by kernel_rfl))
 f277:=Tryz.func245.trans (congrArg some (by kernel_rfl))
 t0:=Tryz.underlying0
 a0:=Tryz.isAgg0
 z0:=Tryz.sizeOf0
 v0:=Tryz.zeroValue0
 t3:=Tryz.underlying3
 a3:=Tryz.isAgg3
 z3:=Tryz.sizeOf3
 v3:=Tryz.zeroValue3
 t4:=Tryz.underlying4
 a4:=Tryz.isAgg4
 z4:=Tryz.sizeOf4
 v4:=Tryz.zeroValue4
 t5:=Tryz.underlying5
 a5:=Tryz.isAgg5
 z5:=Tryz.sizeOf5
 v5:=Tryz.zeroValue5
 t9:=Tryz.underlying9
 a9:=Tryz.isAgg9
 z9:=Tryz.sizeOf9
 v9:=Tryz.zeroValue9
 t20:=Tryz.underlying20
 a20:=Tryz.isAgg20
 z20:=Tryz.sizeOf20
 v20:=Tryz.zeroValue20
 t37:=Tryz.underlying152
 a37:=Tryz.isAgg152
 z37:=Tryz.sizeOf152
 v37:=Tryz.zeroValue152
 t46:=Tryz.underlying262
 a46:=Tryz.isAgg262
 z46:=Tryz.sizeOf262
 v46:=Tryz.zeroValue262
 t51:=Tryz.underlying139
 a51:=Tryz.isAgg139
 z51:=Tryz.sizeOf139
 v51:=Tryz.zeroValue139
 t53:=Tryz.underlying239
 a53:=Tryz.isAgg239
 z53:=Tryz.sizeOf239
 v53:=Tryz.zeroValue239
 t70:=Tryz.underlying151
 a70:=Tryz.isAgg151
 z70:=Tryz.sizeOf151
 v70:=Tryz.zeroValue151
 t72:=Tryz.underlying154
 a72:=Tryz.isAgg154
 z72:=Tryz.sizeOf154
 v72:=Tryz.zeroValue154
 t75:=Tryz.underlying25
 a75:=Tryz.isAgg25
 z75:=Tryz.sizeOf25
 v75:=Tryz.zeroValue25
 t76:=Tryz.underlying156
 a76:=Tryz.isAgg156
 z76:=Tryz.sizeOf156
 v76:=Tryz.zeroValue156
 t109:=Tryz.underlying321
 a109:=Tryz.isAgg321
 z109:=Tryz.sizeOf321
 v109:=Tryz.zeroValue321
 t127:=Tryz.underlying219
 a127:=Tryz.isAgg219
 z127:=Tryz.sizeOf219
 v127:=Tryz.zeroValue219
 t146:=Tryz.underlying343
 a146:=Tryz.isAgg343
 z146:=Tryz.sizeOf343
 v146:=Tryz.zeroValue343
 t148:=Tryz.underlying353
 a148:=Tryz.isAgg353
 z148:=Tryz.sizeOf353
 v148:=Tryz.zeroValue353
 t164:=Tryz.underlying255
 a164:=Tryz.isAgg255
 z164:=Tryz.sizeOf255
 v164:=Tryz.zeroValue255}
theorem Tryz.Builder_Extra_105:Builder.Extra Tryz.prog Tryz.lays105_ren:={
 sizeBuilder:=by kernel_rfl
 liesBuilder:=by kernel_rfl
 t5:=Tryz.underlying5
 a5:=Tryz.isAgg5
 z5:=Tryz.sizeOf5
 v5:=Tryz.zeroValue5
 infoByte:=by kernel_rfl
 cellsByte:=by kernel_rfl
 sizeByte:=by kernel_rfl
 neB5:=by decide}
open Go.RowKit Go.Lib in
theorem Tryz.strings_Repeat(s:ByteArray)(c:Nat)(w:World)(hc:c<=9223372036854775807)(hlen:s.size*c<=140737488355328):
  Calls Tryz.prog 205 #[.string s,.int .i64 c] w λe w'=>e=.returned (.string ⟨(Lib.repeatL s.data.toList c).toArray⟩)∧Below w.heap.size w w':=Any.strings_Repeat Tryz.lays105 Tryz.Builder_Extra_105 s c w hc hlen
def Tryz.lays160t_ren:Go.Shelf.Ren:=⟨λ |160=>198|232=>229|231=>228|227=>230|234=>232|233=>231|236=>234|235=>233|228=>254|271=>257|151=>256|197=>255|120=>270|152=>269|260=>268|137=>273|119=>274|224=>222|225=>221|217=>220|266=>250|n=>n,λ |9=>9|4=>4|3=>3|5=>5|117=>317|116=>316|0=>0|124=>320|21=>21|105=>349|46=>262|119=>362|139=>365|138=>364|n=>n,λ |3=>5|4=>6|n=>n⟩
theorem Tryz.lays160t:Go.Proofs.Lays.n160 Tryz.prog Tryz.lays160t_ren:={
 mixed:=by kernel_rfl
 f119:=Tryz.func274.trans (congrArg some (by kernel_rfl))
 f120:=Tryz.func270.trans (congrArg some (by kernel_rfl))
 f137:=Tryz.func273.trans (congrArg some (by kernel_rfl))
 f151:=Tryz.func256.trans (congrArg some (by kernel_rfl))
 f152:=Tryz.func269.trans (congrArg some (by kernel_rfl))
 f160:=Tryz.func198.trans (congrArg some (by kernel_rfl))
 f197:=Tryz.func255.trans (congrArg some (by kernel_rfl))
 f217:=Tryz.func220.trans (congrArg some (by kernel_rfl))
 f224:=Tryz.func222.trans (congrArg some (by kernel_rfl))
 f225:=Tryz.func221.trans (congrArg some (by kernel_rfl))
 f227:=Tryz.func230.trans (congrArg some (by kernel_rfl))
 f228:=Tryz.func254.trans (congrArg some (by kernel_rfl))
 f231:=Tryz.func228.trans (congrArg some (by kernel_rfl))
 f232:=Tryz.func229.trans (congrArg some (by kernel_rfl))
 f233:=Tryz.func231.trans (congrArg some (by kernel_rfl))
 f234:=Tryz.func232.trans (congrArg some (by kernel_rfl))
 f235:=Tryz.func233.trans (congrArg some (by kernel_rfl))
 f236:=Tryz.func234.trans (congrArg some (by kernel_rfl))
 f260:=Tryz.func268.trans (congrArg some (by kernel_rfl))
 f266:=Tryz.func250.trans (congrArg some (by kernel_rfl))
 f271:=Tryz.func257.trans (congrArg some (by kernel_rfl))
 t0:=Tryz.underlying0
 a0:=Tryz.isAgg0
 z0:=Tryz.sizeOf0
 v0:=Tryz.zeroValue0
 t3:=Tryz.underlying3
 a3:=Tryz.isAgg3
 z3:=Tryz.sizeOf3
 v3:=Tryz.zeroValue3
 t4:=Tryz.underlying4
 a4:=Tryz.isAgg4
 z4:=Tryz.sizeOf4
 v4:=Tryz.zeroValue4
 t5:=Tryz.underlying5
 a5:=Tryz.isAgg5
 z5:=Tryz.sizeOf5
 v5:=Tryz.zeroValue5
 t9:=Tryz.underlying9
 a9:=Tryz.isAgg9
 z9:=Tryz.sizeOf9
 v9:=Tryz.zeroValue9
 t21:=Tryz.underlying21
 a21:=Tryz.isAgg21
 z21:=Tryz.sizeOf21
 v21:=Tryz.zeroValue21
 t46:=Tryz.underlying262
 a46:=Tryz.isAgg262
 z46:=Tryz.sizeOf262
 v46:=Tryz.zeroValue262
 t105:=Tryz.underlying349
 a105:=Tryz.isAgg349
 z105:=Tryz.sizeOf349
 v105:=Tryz.zeroValue349
 t116:=Tryz.underlying316
 a116:=Tryz.isAgg316
 z116:=Tryz.sizeOf316
 t117:=Tryz.underlying317
 a117:=Tryz.isAgg317
 z117:=Tryz.sizeOf317
 v117:=Tryz.zeroValue317
 t119:=Tryz.underlying362
 a119:=Tryz.isAgg362
 z119:=Tryz.sizeOf362
 t124:=Tryz.underlying320
 a124:=Tryz.isAgg320
 z124:=Tryz.sizeOf320
 v124:=Tryz.zeroValue320
 t138:=Tryz.underlying364
 a138:=Tryz.isAgg364
 z138:=Tryz.sizeOf364
 v138:=Tryz.zeroValue364
 t139:=Tryz.underlying365
 a139:=Tryz.isAgg365
 z139:=Tryz.sizeOf365
 v139:=Tryz.zeroValue365
 g3:=by kernel_rfl
 g4:=by kernel_rfl}
end Go.Proofs
