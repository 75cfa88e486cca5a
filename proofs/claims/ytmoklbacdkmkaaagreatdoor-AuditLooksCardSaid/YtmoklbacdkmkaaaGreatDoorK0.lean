/- The library's contracts that the texts behind it lean on, laid at this program. No condition. -/
import Derived.Shelf.Strings.SlTrimAscii
import Derived.Shelf.Strings.Builder1
import Derived.Shelf.Strings.Builder2
import Derived.Shelf.Strings.OnBuilder
import Derived.Shelf.Strings.Trim
import Derived.Shelf.Small.Utf8
import Derived.Shelf.Small.Strs
import Derived.Shelf.Small.Wraps
import Derived.Shelf.Strings.BuilderF
import Derived.Shelf.Strconv.Atoi
import Derived.Shelf.Strconv.Itoa0
import Derived.Shelf.Strconv.Itoa1
import Derived.Shelf.LaysM
import Derived.Shelf.Strconv.Itoa2
import Derived.Shelf.Strconv.Itoa3
import Derived.Shelf.Strconv.AtoiErrFast
import Derived.Shelf.Strconv.ParseIntEmpty
import Derived.Shelf.Strconv.AtoiFail
import Derived.Shelf.Strconv.Clone
import Derived.Shelf.Strconv.SyntaxError
import Derived.Shelf.LaysC
import Derived.Shelf.Strconv.ToError
import Derived.Shelf.Strconv.AtoiErr
import Derived.Shelf.Strconv.ErrVar
import Derived.Shelf.Strconv.Lower
import Derived.Shelf.Strconv.ParseUint10
import Derived.Shelf.Strconv.ParseUint10Empty
import Derived.Shelf.Strconv.ParseUint10Any
import Derived.Shelf.Strconv.ParseInt10
import Derived.Shelf.Strconv.AtoiLong
import Derived.Shelf.Strconv.AtoiInnerAll
import Derived.Shelf.Strconv.RangeError
import Derived.Shelf.Strconv.ToErrorRange
import Derived.Shelf.Strconv.AtoiAll
import Derived.Shelf.Strconv.ErrVarAll
import Derived.Shelf.Strings.Search1
import Derived.Shelf.Strings.Search2
import Derived.Shelf.Strings.Search3
import Derived.Shelf.Strings.Cut
import Derived.Shelf.Strings.Count
import Derived.Shelf.Strings.Shaped
import Derived.Shelf.Strings.Prefix
import Derived.Shelf.Strings.Split
import Derived.Shelf.Strings.SplitShaped
import Derived.Shelf.Strings.Runes
import Derived.Shelf.Strings.AsciiSet
import Derived.Shelf.Bits.Mul64
import Derived.Shelf.Strings.Repeat
import Derived.Shelf.Unicode.DecodeSlow
import Derived.Test.YtmoklbacdkmkaaaGreatDoorProg
namespace Go.Proofs
open Go.Shelf
def Tryz.lays169_ren:Go.Shelf.Ren:=⟨fun | 169=>139|n=>n,fun | 70=>217 | 9=>9 | 0=>0 | 72=>219 | 37=>81 | 127=>269 | 3=>3 | 5=>5|n=>n,fun|n=>n⟩
theorem Tryz.lays169:Go.Proofs.Lays.n169 Tryz.prog Tryz.lays169_ren:={
 mixed:=by kernel_rfl
 f169:=Tryz.func139.trans (congrArg some (by kernel_rfl))
 t0:=Tryz.underlying0
 a0:=Tryz.isAgg0
 z0:=Tryz.sizeOf0
 v0:=Tryz.zeroValue0
 t3:=Tryz.underlying3
 a3:=Tryz.isAgg3
 z3:=Tryz.sizeOf3
 v3:=Tryz.zeroValue3
 t9:=Tryz.underlying9
 a9:=Tryz.isAgg9
 z9:=Tryz.sizeOf9
 v9:=Tryz.zeroValue9
 t37:=Tryz.underlying81
 a37:=Tryz.isAgg81
 z37:=Tryz.sizeOf81
 v37:=Tryz.zeroValue81
 t70:=Tryz.underlying217
 a70:=Tryz.isAgg217
 z70:=Tryz.sizeOf217
 v70:=Tryz.zeroValue217
 t72:=Tryz.underlying219
 a72:=Tryz.isAgg219
 z72:=Tryz.sizeOf219
 v72:=Tryz.zeroValue219
 t127:=Tryz.underlying269
 a127:=Tryz.isAgg269
 z127:=Tryz.sizeOf269
 v127:=Tryz.zeroValue269 }
theorem Tryz.Builder_Extra_169:Builder.Extra Tryz.prog Tryz.lays169_ren:={
 sizeBuilder:=by kernel_rfl
 liesBuilder:=by kernel_rfl
 t5:=Tryz.underlying5
 a5:=Tryz.isAgg5
 z5:=Tryz.sizeOf5
 v5:=Tryz.zeroValue5
 infoByte:=by kernel_rfl
 cellsByte:=by kernel_rfl
 sizeByte:=by kernel_rfl
 neB5:=by decide }
def Tryz.lays156_ren:Go.Shelf.Ren:=⟨fun | 156=>156 | 165=>203 | 166=>136 | 169=>139 | 240=>190 | 241=>240 | 276=>231 | 277=>270|n=>n,fun | 31=>85 | 9=>9 | 3=>3 | 4=>4 | 0=>0 | 20=>20 | 72=>219 | 76=>143 | 70=>217 | 37=>81 | 75=>29 | 127=>269 | 164=>230 | 5=>5 | 80=>39|n=>n,fun|n=>n⟩
theorem Tryz.lays156:Go.Proofs.Lays.n156 Tryz.prog Tryz.lays156_ren:={
 mixed:=by kernel_rfl
 f156:=Tryz.func156.trans (congrArg some (by kernel_rfl))
 f165:=Tryz.func203.trans (congrArg some (by kernel_rfl))
 f166:=Tryz.func136.trans (congrArg some (by kernel_rfl))
 f169:=Tryz.func139.trans (congrArg some (by kernel_rfl))
 f240:=Tryz.func190.trans (congrArg some (by kernel_rfl))
 f241:=Tryz.func240.trans (congrArg some (by kernel_rfl))
 f276:=Tryz.func231.trans (congrArg some (by kernel_rfl))
 f277:=Tryz.func270.trans (congrArg some (by kernel_rfl))
 t0:=Tryz.underlying0
 a0:=Tryz.isAgg0
 z0:=Tryz.sizeOf0
 v0:=Tryz.zeroValue0
 t3:=Tryz.underlying3
 a3:=Tryz.isAgg3
 z3:=Tryz.sizeOf3
 v3:=Tryz.zeroValue3
 t4:=Tryz.underlying4
 a4:=Tryz.isAgg4
 z4:=Tryz.sizeOf4
 v4:=Tryz.zeroValue4
 t9:=Tryz.underlying9
 a9:=Tryz.isAgg9
 z9:=Tryz.sizeOf9
 v9:=Tryz.zeroValue9
 t20:=Tryz.underlying20
 a20:=Tryz.isAgg20
 z20:=Tryz.sizeOf20
 v20:=Tryz.zeroValue20
 t31:=Tryz.underlying85
 a31:=Tryz.isAgg85
 z31:=Tryz.sizeOf85
 v31:=Tryz.zeroValue85
 t37:=Tryz.underlying81
 a37:=Tryz.isAgg81
 z37:=Tryz.sizeOf81
 v37:=Tryz.zeroValue81
 t70:=Tryz.underlying217
 a70:=Tryz.isAgg217
 z70:=Tryz.sizeOf217
 v70:=Tryz.zeroValue217
 t72:=Tryz.underlying219
 a72:=Tryz.isAgg219
 z72:=Tryz.sizeOf219
 v72:=Tryz.zeroValue219
 t75:=Tryz.underlying29
 a75:=Tryz.isAgg29
 z75:=Tryz.sizeOf29
 v75:=Tryz.zeroValue29
 t76:=Tryz.underlying143
 a76:=Tryz.isAgg143
 z76:=Tryz.sizeOf143
 v76:=Tryz.zeroValue143
 t127:=Tryz.underlying269
 a127:=Tryz.isAgg269
 z127:=Tryz.sizeOf269
 v127:=Tryz.zeroValue269
 t164:=Tryz.underlying230
 a164:=Tryz.isAgg230
 z164:=Tryz.sizeOf230
 v164:=Tryz.zeroValue230 }
theorem Tryz.Builder_Extra_156:Builder.Extra Tryz.prog Tryz.lays156_ren:={
 sizeBuilder:=by kernel_rfl
 liesBuilder:=by kernel_rfl
 t5:=Tryz.underlying5
 a5:=Tryz.isAgg5
 z5:=Tryz.sizeOf5
 v5:=Tryz.zeroValue5
 infoByte:=by kernel_rfl
 cellsByte:=by kernel_rfl
 sizeByte:=by kernel_rfl
 neB5:=by decide }
open Go.RowKit in
theorem Tryz.strings_Join_none (a:Option Addr) (c:Nat) (sep:ByteArray) (w:World) :
  Calls Tryz.prog 156 #[.slice a 0 c,.string sep] w fun e w'=>e = .returned (.string ⟨#[]⟩)∧w'=w:=Any.strings_Join_none Tryz.lays156 Tryz.Builder_Extra_156 a c sep w
open Go.RowKit in
theorem Tryz.strings_Join (bk o c:Nat) (xs:List ByteArray) (sep:ByteArray) (w:World) (hcells:∀ (j:Nat) x,xs[j]? = some x→w.cell? ⟨bk,o+j,none⟩=some (.string x)) (hbk:bk<w.heap.size) (hN:xs.length≤140737488355328) (hcap:xs.length≤c) (hlen:(Lib.join (xs.map (·.data.toList)) sep.data.toList).length≤140737488355328) :
  Calls Tryz.prog 156 #[.slice (some ⟨bk,o,none⟩) xs.length c,.string sep] w fun e w'=>e = .returned (.string ⟨(Lib.join (xs.map (·.data.toList)) sep.data.toList).toArray⟩)∧Below w.heap.size w w':=Any.strings_Join Tryz.lays156 Tryz.Builder_Extra_156 bk o c xs sep w hcells hbk hN hcap hlen
def Tryz.lays103_ren:Go.Shelf.Ren:=⟨fun | 103=>217 | 210=>256 | 206=>211|n=>n,fun | 9=>9 | 4=>4 | 24=>52 | 3=>3|n=>n,fun|n=>n⟩
theorem Tryz.lays103:Go.Proofs.Lays.n103 Tryz.prog Tryz.lays103_ren:={
 mixed:=by kernel_rfl
 f103:=Tryz.func217.trans (congrArg some (by kernel_rfl))
 f206:=Tryz.func211.trans (congrArg some (by kernel_rfl))
 f210:=Tryz.func256.trans (congrArg some (by kernel_rfl))
 t3:=Tryz.underlying3
 a3:=Tryz.isAgg3
 z3:=Tryz.sizeOf3
 v3:=Tryz.zeroValue3
 t4:=Tryz.underlying4
 a4:=Tryz.isAgg4
 z4:=Tryz.sizeOf4
 v4:=Tryz.zeroValue4
 t9:=Tryz.underlying9
 a9:=Tryz.isAgg9
 z9:=Tryz.sizeOf9
 v9:=Tryz.zeroValue9
 t24:=Tryz.underlying52
 a24:=Tryz.isAgg52
 z24:=Tryz.sizeOf52
 v24:=Tryz.zeroValue52 }
open Go.RowKit in
theorem Tryz.strings_CutPrefix (s p:ByteArray) (w:World) :
  Calls Tryz.prog 217 #[.string s,.string p] w fun e w'=>e = .returned (.tuple #[.string ⟨(Lib.trimPrefix s.data.toList p.data.toList).toArray⟩,.bool (Lib.hasPrefix s.data.toList p.data.toList)])∧w'=w:=Any.strings_CutPrefix Tryz.lays103 s p w
def Tryz.laysM171_ren:Go.Shelf.Ren:=⟨fun | 171=>155 | 243=>202 | 246=>239 | 283=>266 | 284=>267 | 285=>268 | 286=>269 | 129=>283 | 317=>282 | 318=>284 | 319=>285 | 320=>286 | 337=>289 | 338=>290|n=>n,fun | 3=>3 | 9=>9 | 2=>2 | 4=>4 | 171=>339 | 0=>0 | 53=>294 | 37=>81 | 5=>5 | 173=>342 | 212=>357 | 51=>203 | 20=>20 | 213=>358 | 46=>61 | 232=>367 | 233=>368|n=>n,fun | 17=>4 | 18=>7 | 19=>8|n=>n⟩
theorem Tryz.laysM171:Go.Proofs.LaysM.n171 Tryz.prog Tryz.laysM171_ren:={
 mixed:=by kernel_rfl
 f129:=Tryz.func283.trans (congrArg some (by kernel_rfl))
 f171:=Tryz.func155.trans (congrArg some (by kernel_rfl))
 f243:=Tryz.func202.trans (congrArg some (by kernel_rfl))
 f246:=Tryz.func239.trans (congrArg some (by kernel_rfl))
 f283:=Tryz.func266.trans (congrArg some (by kernel_rfl))
 f284:=Tryz.func267.trans (congrArg some (by kernel_rfl))
 f285:=Tryz.func268.trans (congrArg some (by kernel_rfl))
 f286:=Tryz.func269.trans (congrArg some (by kernel_rfl))
 f317:=Tryz.func282.trans (congrArg some (by kernel_rfl))
 f318:=Tryz.func284.trans (congrArg some (by kernel_rfl))
 f319:=Tryz.func285.trans (congrArg some (by kernel_rfl))
 f320:=Tryz.func286.trans (congrArg some (by kernel_rfl))
 f337:=Tryz.func289.trans (congrArg some (by kernel_rfl))
 f338:=Tryz.func290.trans (congrArg some (by kernel_rfl))
 t0:=Tryz.underlying0
 a0:=Tryz.isAgg0
 z0:=Tryz.sizeOf0
 v0:=Tryz.zeroValue0
 t2:=Tryz.underlying2
 a2:=Tryz.isAgg2
 z2:=Tryz.sizeOf2
 v2:=Tryz.zeroValue2
 t3:=Tryz.underlying3
 a3:=Tryz.isAgg3
 z3:=Tryz.sizeOf3
 v3:=Tryz.zeroValue3
 t4:=Tryz.underlying4
 a4:=Tryz.isAgg4
 z4:=Tryz.sizeOf4
 v4:=Tryz.zeroValue4
 t5:=Tryz.underlying5
 a5:=Tryz.isAgg5
 z5:=Tryz.sizeOf5
 v5:=Tryz.zeroValue5
 t9:=Tryz.underlying9
 a9:=Tryz.isAgg9
 z9:=Tryz.sizeOf9
 v9:=Tryz.zeroValue9
 t20:=Tryz.underlying20
 a20:=Tryz.isAgg20
 z20:=Tryz.sizeOf20
 v20:=Tryz.zeroValue20
 t37:=Tryz.underlying81
 a37:=Tryz.isAgg81
 z37:=Tryz.sizeOf81
 v37:=Tryz.zeroValue81
 t46:=Tryz.underlying61
 a46:=Tryz.isAgg61
 z46:=Tryz.sizeOf61
 v46:=Tryz.zeroValue61
 t51:=Tryz.underlying203
 a51:=Tryz.isAgg203
 z51:=Tryz.sizeOf203
 v51:=Tryz.zeroValue203
 t53:=Tryz.underlying294
 a53:=Tryz.isAgg294
 z53:=Tryz.sizeOf294
 v53:=Tryz.zeroValue294
 t171:=Tryz.underlying339
 a171:=Tryz.isAgg339
 z171:=Tryz.sizeOf339
 v171:=Tryz.zeroValue339
 t173:=Tryz.underlying342
 a173:=Tryz.isAgg342
 z173:=Tryz.sizeOf342
 v173:=Tryz.zeroValue342
 t212:=Tryz.underlying357
 a212:=Tryz.isAgg357
 z212:=Tryz.sizeOf357
 v212:=Tryz.zeroValue357
 t213:=Tryz.underlying358
 a213:=Tryz.isAgg358
 z213:=Tryz.sizeOf358
 t232:=Tryz.underlying367
 a232:=Tryz.isAgg367
 z232:=Tryz.sizeOf367
 v232:=Tryz.zeroValue367
 t233:=Tryz.underlying368
 a233:=Tryz.isAgg368
 z233:=Tryz.sizeOf368
 v233:=Tryz.zeroValue368
 g17:=by kernel_rfl
 g18:=by kernel_rfl
 g19:=by kernel_rfl
 i0:=by kernel_rfl
 i2:=by kernel_rfl
 i3:=by kernel_rfl
 i4:=by kernel_rfl
 i5:=by kernel_rfl
 i9:=by kernel_rfl
 i20:=by kernel_rfl
 i37:=by kernel_rfl
 i46:=by kernel_rfl
 i51:=by kernel_rfl
 i53:=by kernel_rfl
 i171:=by kernel_rfl
 i173:=by kernel_rfl
 i212:=by kernel_rfl
 i232:=by kernel_rfl
 i233:=by kernel_rfl
 m17:=by kernel_rfl
 m18:=by kernel_rfl
 m19:=by kernel_rfl }
open Go.RowKit Go.Sort Go.Lib in
theorem Tryz.strconv_Itoa (n : Int) (h0 : -9223372036854775808 ≤ n) (h1 : n ≤ 9223372036854775807) (w : World) (htab : Lib.TabIs Tryz.prog w "internal/strconv.uint64pow10" .u64 Lib.pow10Tab) :
  Calls Tryz.prog 155 #[.int .i64 n] w fun e w'=>e = .returned (.string ⟨(Lib.itoa n).toArray⟩)∧∃ k os,w'=grow (w.drewN k) os:=Any.strconv_Itoa Tryz.laysM171 n h0 h1 w htab
def Tryz.laysC172_ren:Go.Shelf.Ren:=⟨fun | 172=>97 | 244=>160 | 245=>161 | 247=>206 | 279=>207 | 280=>208 | 281=>209 | 282=>210 | 287=>245 | 316=>246 | 171=>155 | 205=>247 | 321=>273 | 322=>274 | 243=>202 | 246=>239 | 283=>266 | 284=>267 | 285=>268 | 286=>269 | 129=>283 | 317=>282 | 318=>284 | 319=>285 | 320=>286 | 337=>289 | 338=>290|n=>n,fun | 9=>9 | 3=>3 | 75=>29 | 76=>143 | 4=>4 | 5=>5 | 167=>296 | 37=>81 | 0=>0 | 85=>297 | 2=>2 | 168=>299 | 53=>294 | 175=>321 | 46=>61 | 210=>324 | 127=>269 | 145=>350 | 143=>348 | 21=>21 | 171=>339 | 173=>342 | 212=>357 | 51=>203 | 20=>20 | 213=>358 | 232=>367 | 233=>368 | 80=>39|n=>n,fun | 15=>2 | 16=>3 | 17=>4 | 18=>7 | 19=>8|n=>n⟩
theorem Tryz.laysC172:Go.Proofs.LaysC.n172 Tryz.prog Tryz.laysC172_ren:={
 mixed:=by kernel_rfl
 f129:=Tryz.func283.trans (congrArg some (by kernel_rfl))
 f171:=Tryz.func155.trans (congrArg some (by kernel_rfl))
 f172:=Tryz.func97.trans (congrArg some (by kernel_rfl))
 f205:=Tryz.func247.trans (congrArg some (by kernel_rfl))
 f243:=Tryz.func202.trans (congrArg some (by kernel_rfl))
 f244:=Tryz.func160.trans (congrArg some (by kernel_rfl))
 f245:=Tryz.func161.trans (congrArg some (by kernel_rfl))
 f246:=Tryz.func239.trans (congrArg some (by kernel_rfl))
 f247:=Tryz.func206.trans (congrArg some (by kernel_rfl))
 f279:=Tryz.func207.trans (congrArg some (by kernel_rfl))
 f280:=Tryz.func208.trans (congrArg some (by kernel_rfl))
 f281:=Tryz.func209.trans (congrArg some (by kernel_rfl))
 f282:=Tryz.func210.trans (congrArg some (by kernel_rfl))
 f283:=Tryz.func266.trans (congrArg some (by kernel_rfl))
 f284:=Tryz.func267.trans (congrArg some (by kernel_rfl))
 f285:=Tryz.func268.trans (congrArg some (by kernel_rfl))
 f286:=Tryz.func269.trans (congrArg some (by kernel_rfl))
 f287:=Tryz.func245.trans (congrArg some (by kernel_rfl))
 f316:=Tryz.func246.trans (congrArg some (by kernel_rfl))
 f317:=Tryz.func282.trans (congrArg some (by kernel_rfl))
 f318:=Tryz.func284.trans (congrArg some (by kernel_rfl))
 f319:=Tryz.func285.trans (congrArg some (by kernel_rfl))
 f320:=Tryz.func286.trans (congrArg some (by kernel_rfl))
 f321:=Tryz.func273.trans (congrArg some (by kernel_rfl))
 f322:=Tryz.func274.trans (congrArg some (by kernel_rfl))
 f337:=Tryz.func289.trans (congrArg some (by kernel_rfl))
 f338:=Tryz.func290.trans (congrArg some (by kernel_rfl))
 t0:=Tryz.underlying0
 a0:=Tryz.isAgg0
 z0:=Tryz.sizeOf0
 v0:=Tryz.zeroValue0
 t2:=Tryz.underlying2
 a2:=Tryz.isAgg2
 z2:=Tryz.sizeOf2
 v2:=Tryz.zeroValue2
 t3:=Tryz.underlying3
 a3:=Tryz.isAgg3
 z3:=Tryz.sizeOf3
 v3:=Tryz.zeroValue3
 t4:=Tryz.underlying4
 a4:=Tryz.isAgg4
 z4:=Tryz.sizeOf4
 v4:=Tryz.zeroValue4
 t5:=Tryz.underlying5
 a5:=Tryz.isAgg5
 z5:=Tryz.sizeOf5
 v5:=Tryz.zeroValue5
 t9:=Tryz.underlying9
 a9:=Tryz.isAgg9
 z9:=Tryz.sizeOf9
 v9:=Tryz.zeroValue9
 t20:=Tryz.underlying20
 a20:=Tryz.isAgg20
 z20:=Tryz.sizeOf20
 v20:=Tryz.zeroValue20
 t21:=Tryz.underlying21
 a21:=Tryz.isAgg21
 z21:=Tryz.sizeOf21
 v21:=Tryz.zeroValue21
 t37:=Tryz.underlying81
 a37:=Tryz.isAgg81
 z37:=Tryz.sizeOf81
 v37:=Tryz.zeroValue81
 t46:=Tryz.underlying61
 a46:=Tryz.isAgg61
 z46:=Tryz.sizeOf61
 v46:=Tryz.zeroValue61
 t51:=Tryz.underlying203
 a51:=Tryz.isAgg203
 z51:=Tryz.sizeOf203
 v51:=Tryz.zeroValue203
 t53:=Tryz.underlying294
 a53:=Tryz.isAgg294
 z53:=Tryz.sizeOf294
 v53:=Tryz.zeroValue294
 t75:=Tryz.underlying29
 a75:=Tryz.isAgg29
 z75:=Tryz.sizeOf29
 v75:=Tryz.zeroValue29
 t76:=Tryz.underlying143
 a76:=Tryz.isAgg143
 z76:=Tryz.sizeOf143
 v76:=Tryz.zeroValue143
 t85:=Tryz.underlying297
 a85:=Tryz.isAgg297
 z85:=Tryz.sizeOf297
 v85:=Tryz.zeroValue297
 t127:=Tryz.underlying269
 a127:=Tryz.isAgg269
 z127:=Tryz.sizeOf269
 v127:=Tryz.zeroValue269
 t143:=Tryz.underlying348
 a143:=Tryz.isAgg348
 z143:=Tryz.sizeOf348
 v143:=Tryz.zeroValue348
 t145:=Tryz.underlying350
 a145:=Tryz.isAgg350
 z145:=Tryz.sizeOf350
 v145:=Tryz.zeroValue350
 t167:=Tryz.underlying296
 a167:=Tryz.isAgg296
 z167:=Tryz.sizeOf296
 v167:=Tryz.zeroValue296
 t168:=Tryz.underlying299
 a168:=Tryz.isAgg299
 z168:=Tryz.sizeOf299
 v168:=Tryz.zeroValue299
 t171:=Tryz.underlying339
 a171:=Tryz.isAgg339
 z171:=Tryz.sizeOf339
 v171:=Tryz.zeroValue339
 t173:=Tryz.underlying342
 a173:=Tryz.isAgg342
 z173:=Tryz.sizeOf342
 v173:=Tryz.zeroValue342
 t175:=Tryz.underlying321
 a175:=Tryz.isAgg321
 z175:=Tryz.sizeOf321
 v175:=Tryz.zeroValue321
 t210:=Tryz.underlying324
 a210:=Tryz.isAgg324
 z210:=Tryz.sizeOf324
 v210:=Tryz.zeroValue324
 t212:=Tryz.underlying357
 a212:=Tryz.isAgg357
 z212:=Tryz.sizeOf357
 v212:=Tryz.zeroValue357
 t213:=Tryz.underlying358
 a213:=Tryz.isAgg358
 z213:=Tryz.sizeOf358
 t232:=Tryz.underlying367
 a232:=Tryz.isAgg367
 z232:=Tryz.sizeOf367
 v232:=Tryz.zeroValue367
 t233:=Tryz.underlying368
 a233:=Tryz.isAgg368
 z233:=Tryz.sizeOf368
 v233:=Tryz.zeroValue368
 g15:=by kernel_rfl
 g16:=by kernel_rfl
 g17:=by kernel_rfl
 g18:=by kernel_rfl
 g19:=by kernel_rfl
 t80:=Tryz.underlying39
 a80:=Tryz.isAgg39
 z80:=Tryz.sizeOf39
 v80:=Tryz.zeroValue39
 i0:=by kernel_rfl
 i2:=by kernel_rfl
 i3:=by kernel_rfl
 i4:=by kernel_rfl
 i5:=by kernel_rfl
 i9:=by kernel_rfl
 i20:=by kernel_rfl
 i21:=by kernel_rfl
 i37:=by kernel_rfl
 i46:=by kernel_rfl
 i51:=by kernel_rfl
 i53:=by kernel_rfl
 i75:=by kernel_rfl
 i76:=by kernel_rfl
 i80:=by kernel_rfl
 i85:=by kernel_rfl
 i127:=by kernel_rfl
 i143:=by kernel_rfl
 i145:=by kernel_rfl
 i167:=by kernel_rfl
 i168:=by kernel_rfl
 i171:=by kernel_rfl
 i173:=by kernel_rfl
 i175:=by kernel_rfl
 i210:=by kernel_rfl
 i212:=by kernel_rfl
 i232:=by kernel_rfl
 i233:=by kernel_rfl
 m15:=by kernel_rfl
 m16:=by kernel_rfl
 m17:=by kernel_rfl
 m18:=by kernel_rfl
 m19:=by kernel_rfl
 c0:=by kernel_rfl
 c2:=by kernel_rfl
 c3:=by kernel_rfl
 c4:=by kernel_rfl
 c5:=by kernel_rfl
 c9:=by kernel_rfl
 c20:=by kernel_rfl
 c21:=by kernel_rfl
 c37:=by kernel_rfl
 c46:=by kernel_rfl
 c51:=by kernel_rfl
 c53:=by kernel_rfl
 c75:=by kernel_rfl
 c76:=by kernel_rfl
 c80:=by kernel_rfl
 c85:=by kernel_rfl
 c127:=by kernel_rfl
 c143:=by kernel_rfl
 c145:=by kernel_rfl
 c167:=by kernel_rfl
 c168:=by kernel_rfl
 c171:=by kernel_rfl
 c173:=by kernel_rfl
 c175:=by kernel_rfl
 c210:=by kernel_rfl
 c212:=by kernel_rfl
 c213:=by kernel_rfl
 c232:=by kernel_rfl
 c233:=by kernel_rfl }
open Go.RowKit in
theorem Tryz.strconv_Atoi_ok (s:ByteArray) (hmax:s.size≤9223372036854775806) (v:Int) (h:Lib.atoiAll s.data.toList = .ok v) (w:World) :
  Calls Tryz.prog 97 #[.string s] w fun e w'=>e = .returned (.tuple #[.int .i64 v,.nilIface])∧(w'=w∨∃ t,w'=Lib.bytesWorld w 5 t):=Any.strconv_Atoi_ok Tryz.laysC172 s hmax v h w
open Go.RowKit in
theorem Tryz.strconv_Atoi_range_var (s : ByteArray) (hlim : s.size ≤ 281474976710656) (h : Lib.atoiAll s.data.toList = .range) (tp : TypeId) (p : Value) (w : World) (hvar : w.var? Tryz.prog "strconv.ErrRange" = some #[.iface tp p]) :
  Calls Tryz.prog 97 #[.string s] w fun e w'=>∃ N,e = .returned (.tuple #[.int .i64 (Lib.atoiSat s.data.toList),.iface 299 (.pointer (some ⟨N,0,none⟩))])∧w.heap.size≤N∧w'.heap[N]? = some (.cells #[.string ⟨#[65,116,111,105]⟩,.string s,.iface tp p] 324 (0,0))∧Below w.heap.size w w':=Any.strconv_Atoi_range_var Tryz.laysC172 s hlim h tp p w hvar
def Tryz.laysM144_ren:Go.Shelf.Ren:=⟨fun | 144=>212 | 143=>238 | 219=>205 | 217=>241 | 225=>242 | 224=>243 | 267=>244 | 266=>271 | 314=>272|n=>n,fun | 9=>9 | 4=>4 | 3=>3 | 5=>5 | 46=>61 | 146=>345 | 51=>203|n=>n,fun | 1=>1|n=>n⟩
theorem Tryz.laysM144:Go.Proofs.LaysM.n144 Tryz.prog Tryz.laysM144_ren:={
 mixed:=by kernel_rfl
 f143:=Tryz.func238.trans (congrArg some (by kernel_rfl))
 f144:=Tryz.func212.trans (congrArg some (by kernel_rfl))
 f217:=Tryz.func241.trans (congrArg some (by kernel_rfl))
 f219:=Tryz.func205.trans (congrArg some (by kernel_rfl))
 f224:=Tryz.func243.trans (congrArg some (by kernel_rfl))
 f225:=Tryz.func242.trans (congrArg some (by kernel_rfl))
 f266:=Tryz.func271.trans (congrArg some (by kernel_rfl))
 f267:=Tryz.func244.trans (congrArg some (by kernel_rfl))
 f314:=Tryz.func272.trans (congrArg some (by kernel_rfl))
 t3:=Tryz.underlying3
 a3:=Tryz.isAgg3
 z3:=Tryz.sizeOf3
 v3:=Tryz.zeroValue3
 t4:=Tryz.underlying4
 a4:=Tryz.isAgg4
 z4:=Tryz.sizeOf4
 v4:=Tryz.zeroValue4
 t5:=Tryz.underlying5
 a5:=Tryz.isAgg5
 z5:=Tryz.sizeOf5
 v5:=Tryz.zeroValue5
 t9:=Tryz.underlying9
 a9:=Tryz.isAgg9
 z9:=Tryz.sizeOf9
 v9:=Tryz.zeroValue9
 t46:=Tryz.underlying61
 a46:=Tryz.isAgg61
 z46:=Tryz.sizeOf61
 v46:=Tryz.zeroValue61
 t51:=Tryz.underlying203
 a51:=Tryz.isAgg203
 z51:=Tryz.sizeOf203
 v51:=Tryz.zeroValue203
 t146:=Tryz.underlying345
 a146:=Tryz.isAgg345
 z146:=Tryz.sizeOf345
 v146:=Tryz.zeroValue345
 g1:=by kernel_rfl
 i3:=by kernel_rfl
 i4:=by kernel_rfl
 i5:=by kernel_rfl
 i9:=by kernel_rfl
 i46:=by kernel_rfl
 i51:=by kernel_rfl
 i146:=by kernel_rfl
 m1:=by kernel_rfl
 s1_3:=fun w h=>Go.Proofs.cell_of_shapedOpen_int (zero:= #[.int .i64 0]) (t:=3) h (of_decide_eq_true (by kernel_rfl)) (by kernel_rfl) rfl (by kernel_rfl) (by kernel_rfl) Tryz.underlying3 }
open Go.RowKit Go.Lib in
theorem Tryz.strings_Contains_shaped (s sub:ByteArray) (w:World) (h:w.ShapedOpen Tryz.prog) (hs:s.size<4294967281) :
  Calls Tryz.prog 212 #[.string s,.string sub] w fun e w'=>e = .returned (.bool (Lib.contains s.data.toList sub.data.toList))∧w'=w:=Any.strings_Contains_shaped Tryz.laysM144 s sub w h hs
def Tryz.laysM145_ren:Go.Shelf.Ren:=⟨fun | 145=>96 | 220=>159 | 219=>205 | 217=>241 | 225=>242 | 224=>243 | 267=>244 | 266=>271 | 314=>272|n=>n,fun | 9=>9 | 4=>4 | 59=>173 | 3=>3 | 5=>5 | 46=>61 | 146=>345 | 51=>203|n=>n,fun | 1=>1|n=>n⟩
theorem Tryz.laysM145:Go.Proofs.LaysM.n145 Tryz.prog Tryz.laysM145_ren:={
 mixed:=by kernel_rfl
 f145:=Tryz.func96.trans (congrArg some (by kernel_rfl))
 f217:=Tryz.func241.trans (congrArg some (by kernel_rfl))
 f219:=Tryz.func205.trans (congrArg some (by kernel_rfl))
 f220:=Tryz.func159.trans (congrArg some (by kernel_rfl))
 f224:=Tryz.func243.trans (congrArg some (by kernel_rfl))
 f225:=Tryz.func242.trans (congrArg some (by kernel_rfl))
 f266:=Tryz.func271.trans (congrArg some (by kernel_rfl))
 f267:=Tryz.func244.trans (congrArg some (by kernel_rfl))
 f314:=Tryz.func272.trans (congrArg some (by kernel_rfl))
 t3:=Tryz.underlying3
 a3:=Tryz.isAgg3
 z3:=Tryz.sizeOf3
 v3:=Tryz.zeroValue3
 t4:=Tryz.underlying4
 a4:=Tryz.isAgg4
 z4:=Tryz.sizeOf4
 v4:=Tryz.zeroValue4
 t5:=Tryz.underlying5
 a5:=Tryz.isAgg5
 z5:=Tryz.sizeOf5
 v5:=Tryz.zeroValue5
 t9:=Tryz.underlying9
 a9:=Tryz.isAgg9
 z9:=Tryz.sizeOf9
 v9:=Tryz.zeroValue9
 t46:=Tryz.underlying61
 a46:=Tryz.isAgg61
 z46:=Tryz.sizeOf61
 v46:=Tryz.zeroValue61
 t51:=Tryz.underlying203
 a51:=Tryz.isAgg203
 z51:=Tryz.sizeOf203
 v51:=Tryz.zeroValue203
 t59:=Tryz.underlying173
 a59:=Tryz.isAgg173
 z59:=Tryz.sizeOf173
 v59:=Tryz.zeroValue173
 t146:=Tryz.underlying345
 a146:=Tryz.isAgg345
 z146:=Tryz.sizeOf345
 v146:=Tryz.zeroValue345
 g1:=by kernel_rfl
 i3:=by kernel_rfl
 i4:=by kernel_rfl
 i5:=by kernel_rfl
 i9:=by kernel_rfl
 i46:=by kernel_rfl
 i51:=by kernel_rfl
 i59:=by kernel_rfl
 i146:=by kernel_rfl
 m1:=by kernel_rfl
 s1_3:=fun w h=>Go.Proofs.cell_of_shapedOpen_int (zero:= #[.int .i64 0]) (t:=3) h (of_decide_eq_true (by kernel_rfl)) (by kernel_rfl) rfl (by kernel_rfl) (by kernel_rfl) Tryz.underlying3 }
open Go.RowKit Go.Lib in
theorem Tryz.strings_Cut_shaped (s sep:ByteArray) (w:World) (h:w.ShapedOpen Tryz.prog) (hs:s.size<4294967281) :
  Calls Tryz.prog 96 #[.string s,.string sep] w fun e w'=>e = .returned (.tuple #[.string ⟨(Lib.cut s.data.toList sep.data.toList).1.toArray⟩,.string ⟨(Lib.cut s.data.toList sep.data.toList).2.1.toArray⟩,.bool (Lib.cut s.data.toList sep.data.toList).2.2])∧∃ n,w'=w.drewN n:=Any.strings_Cut_shaped Tryz.laysM145 s sep w h hs
def Tryz.lays99_ren:Go.Shelf.Ren:=⟨fun | 99=>164 | 206=>211|n=>n,fun | 9=>9 | 4=>4 | 3=>3|n=>n,fun|n=>n⟩
theorem Tryz.lays99:Go.Proofs.Lays.n99 Tryz.prog Tryz.lays99_ren:={
 mixed:=by kernel_rfl
 f99:=Tryz.func164.trans (congrArg some (by kernel_rfl))
 f206:=Tryz.func211.trans (congrArg some (by kernel_rfl))
 t3:=Tryz.underlying3
 a3:=Tryz.isAgg3
 z3:=Tryz.sizeOf3
 v3:=Tryz.zeroValue3
 t4:=Tryz.underlying4
 a4:=Tryz.isAgg4
 z4:=Tryz.sizeOf4
 v4:=Tryz.zeroValue4
 t9:=Tryz.underlying9
 a9:=Tryz.isAgg9
 z9:=Tryz.sizeOf9
 v9:=Tryz.zeroValue9 }
open Go.RowKit Go.Lib in
theorem Tryz.strings_HasPrefix (s p:ByteArray) (w:World) :
  Calls Tryz.prog 164 #[.string s,.string p] w fun e w'=>e = .returned (.bool (Lib.hasPrefix s.data.toList p.data.toList))∧w'=w:=Any.strings_HasPrefix Tryz.lays99 s p w
def Tryz.lays100_ren:Go.Shelf.Ren:=⟨fun | 100=>192 | 207=>232|n=>n,fun | 9=>9 | 4=>4 | 3=>3|n=>n,fun|n=>n⟩
theorem Tryz.lays100:Go.Proofs.Lays.n100 Tryz.prog Tryz.lays100_ren:={
 mixed:=by kernel_rfl
 f100:=Tryz.func192.trans (congrArg some (by kernel_rfl))
 f207:=Tryz.func232.trans (congrArg some (by kernel_rfl))
 t3:=Tryz.underlying3
 a3:=Tryz.isAgg3
 z3:=Tryz.sizeOf3
 v3:=Tryz.zeroValue3
 t4:=Tryz.underlying4
 a4:=Tryz.isAgg4
 z4:=Tryz.sizeOf4
 v4:=Tryz.zeroValue4
 t9:=Tryz.underlying9
 a9:=Tryz.isAgg9
 z9:=Tryz.sizeOf9
 v9:=Tryz.zeroValue9 }
open Go.RowKit Go.Lib in
theorem Tryz.strings_HasSuffix (s p:ByteArray) (w:World) (hs:s.size≤9223372036854775807) :
  Calls Tryz.prog 192 #[.string s,.string p] w fun e w'=>e = .returned (.bool (Lib.hasSuffix s.data.toList p.data.toList))∧w'=w:=Any.strings_HasSuffix Tryz.lays100 s p w hs
def Tryz.lays101_ren:Go.Shelf.Ren:=⟨fun | 101=>98 | 208=>162 | 206=>211|n=>n,fun | 9=>9 | 4=>4 | 3=>3|n=>n,fun|n=>n⟩
theorem Tryz.lays101:Go.Proofs.Lays.n101 Tryz.prog Tryz.lays101_ren:={
 mixed:=by kernel_rfl
 f101:=Tryz.func98.trans (congrArg some (by kernel_rfl))
 f206:=Tryz.func211.trans (congrArg some (by kernel_rfl))
 f208:=Tryz.func162.trans (congrArg some (by kernel_rfl))
 t3:=Tryz.underlying3
 a3:=Tryz.isAgg3
 z3:=Tryz.sizeOf3
 v3:=Tryz.zeroValue3
 t4:=Tryz.underlying4
 a4:=Tryz.isAgg4
 z4:=Tryz.sizeOf4
 v4:=Tryz.zeroValue4
 t9:=Tryz.underlying9
 a9:=Tryz.isAgg9
 z9:=Tryz.sizeOf9
 v9:=Tryz.zeroValue9 }
open Go.RowKit Go.Lib in
theorem Tryz.strings_TrimPrefix (s p:ByteArray) (w:World) :
  Calls Tryz.prog 98 #[.string s,.string p] w fun e w'=>e = .returned (.string ⟨(Lib.trimPrefix s.data.toList p.data.toList).toArray⟩)∧w'=w:=Any.strings_TrimPrefix Tryz.lays101 s p w
def Tryz.laysM146_ren:Go.Shelf.Ren:=⟨fun | 146=>154 | 221=>201 | 268=>236 | 138=>237 | 143=>238 | 195=>263 | 197=>264 | 218=>265 | 219=>205 | 260=>281 | 217=>241 | 225=>242 | 224=>243 | 267=>244 | 266=>271 | 314=>272|n=>n,fun | 9=>9 | 31=>85 | 3=>3 | 4=>4 | 0=>0 | 105=>337 | 21=>21 | 5=>5 | 46=>61 | 119=>361 | 139=>364 | 138=>363 | 146=>345 | 51=>203|n=>n,fun | 1=>1 | 3=>5 | 4=>6|n=>n⟩
theorem Tryz.laysM146:Go.Proofs.LaysM.n146 Tryz.prog Tryz.laysM146_ren:={
 mixed:=by kernel_rfl
 f138:=Tryz.func237.trans (congrArg some (by kernel_rfl))
 f143:=Tryz.func238.trans (congrArg some (by kernel_rfl))
 f146:=Tryz.func154.trans (congrArg some (by kernel_rfl))
 f195:=Tryz.func263.trans (congrArg some (by kernel_rfl))
 f197:=Tryz.func264.trans (congrArg some (by kernel_rfl))
 f217:=Tryz.func241.trans (congrArg some (by kernel_rfl))
 f218:=Tryz.func265.trans (congrArg some (by kernel_rfl))
 f219:=Tryz.func205.trans (congrArg some (by kernel_rfl))
 f221:=Tryz.func201.trans (congrArg some (by kernel_rfl))
 f224:=Tryz.func243.trans (congrArg some (by kernel_rfl))
 f225:=Tryz.func242.trans (congrArg some (by kernel_rfl))
 f260:=Tryz.func281.trans (congrArg some (by kernel_rfl))
 f266:=Tryz.func271.trans (congrArg some (by kernel_rfl))
 f267:=Tryz.func244.trans (congrArg some (by kernel_rfl))
 f268:=Tryz.func236.trans (congrArg some (by kernel_rfl))
 f314:=Tryz.func272.trans (congrArg some (by kernel_rfl))
 t0:=Tryz.underlying0
 a0:=Tryz.isAgg0
 z0:=Tryz.sizeOf0
 v0:=Tryz.zeroValue0
 t3:=Tryz.underlying3
 a3:=Tryz.isAgg3
 z3:=Tryz.sizeOf3
 v3:=Tryz.zeroValue3
 t4:=Tryz.underlying4
 a4:=Tryz.isAgg4
 z4:=Tryz.sizeOf4
 v4:=Tryz.zeroValue4
 t5:=Tryz.underlying5
 a5:=Tryz.isAgg5
 z5:=Tryz.sizeOf5
 v5:=Tryz.zeroValue5
 t9:=Tryz.underlying9
 a9:=Tryz.isAgg9
 z9:=Tryz.sizeOf9
 v9:=Tryz.zeroValue9
 t21:=Tryz.underlying21
 a21:=Tryz.isAgg21
 z21:=Tryz.sizeOf21
 v21:=Tryz.zeroValue21
 t31:=Tryz.underlying85
 a31:=Tryz.isAgg85
 z31:=Tryz.sizeOf85
 v31:=Tryz.zeroValue85
 t46:=Tryz.underlying61
 a46:=Tryz.isAgg61
 z46:=Tryz.sizeOf61
 v46:=Tryz.zeroValue61
 t51:=Tryz.underlying203
 a51:=Tryz.isAgg203
 z51:=Tryz.sizeOf203
 v51:=Tryz.zeroValue203
 t105:=Tryz.underlying337
 a105:=Tryz.isAgg337
 z105:=Tryz.sizeOf337
 v105:=Tryz.zeroValue337
 t119:=Tryz.underlying361
 a119:=Tryz.isAgg361
 z119:=Tryz.sizeOf361
 t138:=Tryz.underlying363
 a138:=Tryz.isAgg363
 z138:=Tryz.sizeOf363
 v138:=Tryz.zeroValue363
 t139:=Tryz.underlying364
 a139:=Tryz.isAgg364
 z139:=Tryz.sizeOf364
 v139:=Tryz.zeroValue364
 t146:=Tryz.underlying345
 a146:=Tryz.isAgg345
 z146:=Tryz.sizeOf345
 v146:=Tryz.zeroValue345
 g1:=by kernel_rfl
 g3:=by kernel_rfl
 g4:=by kernel_rfl
 i0:=by kernel_rfl
 i3:=by kernel_rfl
 i4:=by kernel_rfl
 i5:=by kernel_rfl
 i9:=by kernel_rfl
 i21:=by kernel_rfl
 i31:=by kernel_rfl
 i46:=by kernel_rfl
 i51:=by kernel_rfl
 i105:=by kernel_rfl
 i138:=by kernel_rfl
 i139:=by kernel_rfl
 i146:=by kernel_rfl
 m1:=by kernel_rfl
 s1_3:=fun w h=>Go.Proofs.cell_of_shapedOpen_int (zero:= #[.int .i64 0]) (t:=3) h (of_decide_eq_true (by kernel_rfl)) (by kernel_rfl) rfl (by kernel_rfl) (by kernel_rfl) Tryz.underlying3
 m3:=by kernel_rfl
 m4:=by kernel_rfl }
open Go.RowKit Go.Lib in
theorem Tryz.strings_Split_shaped (s sep:ByteArray) (w:World) (h:w.ShapedOpen Tryz.prog) (hs:s.size<4294967281) (h1:1≤sep.size) :
  Calls Tryz.prog 154 #[.string s,.string sep] w fun e w'=>
   e = .returned (.slice (some ⟨w.heap.size,0,none⟩) (Lib.countB s sep+1) (Lib.countB s sep+1))∧w'=w.alloc (.cells ((Lib.splitB sep 0 (Lib.countB s sep) s).map Value.string).toArray 9):=Any.strings_Split_shaped Tryz.laysM146 s sep w h hs h1
def Tryz.lays105_ren:Go.Shelf.Ren:=⟨fun | 105=>220 | 212=>257 | 99=>164 | 165=>203 | 166=>136 | 170=>258 | 169=>139 | 263=>278 | 264=>279 | 206=>211 | 240=>190 | 241=>240 | 276=>231 | 277=>270|n=>n,fun | 9=>9 | 3=>3 | 4=>4 | 20=>20 | 0=>0 | 46=>61 | 109=>333 | 5=>5 | 72=>219 | 76=>143 | 51=>203 | 146=>345 | 53=>294 | 148=>353 | 70=>217 | 37=>81 | 75=>29 | 127=>269 | 164=>230 | 80=>39|n=>n,fun|n=>n⟩
theorem Tryz.lays105:Go.Proofs.Lays.n105 Tryz.prog Tryz.lays105_ren:={
 mixed:=by kernel_rfl
 f99:=Tryz.func164.trans (congrArg some (by kernel_rfl))
 f105:=Tryz.func220.trans (congrArg some (by kernel_rfl))
 f165:=Tryz.func203.trans (congrArg some (by kernel_rfl))
 f166:=Tryz.func136.trans (congrArg some (by kernel_rfl))
 f169:=Tryz.func139.trans (congrArg some (by kernel_rfl))
 f170:=Tryz.func258.trans (congrArg some (by kernel_rfl))
 f206:=Tryz.func211.trans (congrArg some (by kernel_rfl))
 f212:=Tryz.func257.trans (congrArg some (by kernel_rfl))
 f240:=Tryz.func190.trans (congrArg some (by kernel_rfl))
 f241:=Tryz.func240.trans (congrArg some (by kernel_rfl))
 f263:=Tryz.func278.trans (congrArg some (by kernel_rfl))
 f264:=Tryz.func279.trans (congrArg some (by kernel_rfl))
 f276:=Tryz.func231.trans (congrArg some (by kernel_rfl))
 f277:=Tryz.func270.trans (congrArg some (by kernel_rfl))
 t0:=Tryz.underlying0
 a0:=Tryz.isAgg0
 z0:=Tryz.sizeOf0
 v0:=Tryz.zeroValue0
 t3:=Tryz.underlying3
 a3:=Tryz.isAgg3
 z3:=Tryz.sizeOf3
 v3:=Tryz.zeroValue3
 t4:=Tryz.underlying4
 a4:=Tryz.isAgg4
 z4:=Tryz.sizeOf4
 v4:=Tryz.zeroValue4
 t5:=Tryz.underlying5
 a5:=Tryz.isAgg5
 z5:=Tryz.sizeOf5
 v5:=Tryz.zeroValue5
 t9:=Tryz.underlying9
 a9:=Tryz.isAgg9
 z9:=Tryz.sizeOf9
 v9:=Tryz.zeroValue9
 t20:=Tryz.underlying20
 a20:=Tryz.isAgg20
 z20:=Tryz.sizeOf20
 v20:=Tryz.zeroValue20
 t37:=Tryz.underlying81
 a37:=Tryz.isAgg81
 z37:=Tryz.sizeOf81
 v37:=Tryz.zeroValue81
 t46:=Tryz.underlying61
 a46:=Tryz.isAgg61
 z46:=Tryz.sizeOf61
 v46:=Tryz.zeroValue61
 t51:=Tryz.underlying203
 a51:=Tryz.isAgg203
 z51:=Tryz.sizeOf203
 v51:=Tryz.zeroValue203
 t53:=Tryz.underlying294
 a53:=Tryz.isAgg294
 z53:=Tryz.sizeOf294
 v53:=Tryz.zeroValue294
 t70:=Tryz.underlying217
 a70:=Tryz.isAgg217
 z70:=Tryz.sizeOf217
 v70:=Tryz.zeroValue217
 t72:=Tryz.underlying219
 a72:=Tryz.isAgg219
 z72:=Tryz.sizeOf219
 v72:=Tryz.zeroValue219
 t75:=Tryz.underlying29
 a75:=Tryz.isAgg29
 z75:=Tryz.sizeOf29
 v75:=Tryz.zeroValue29
 t76:=Tryz.underlying143
 a76:=Tryz.isAgg143
 z76:=Tryz.sizeOf143
 v76:=Tryz.zeroValue143
 t109:=Tryz.underlying333
 a109:=Tryz.isAgg333
 z109:=Tryz.sizeOf333
 v109:=Tryz.zeroValue333
 t127:=Tryz.underlying269
 a127:=Tryz.isAgg269
 z127:=Tryz.sizeOf269
 v127:=Tryz.zeroValue269
 t146:=Tryz.underlying345
 a146:=Tryz.isAgg345
 z146:=Tryz.sizeOf345
 v146:=Tryz.zeroValue345
 t148:=Tryz.underlying353
 a148:=Tryz.isAgg353
 z148:=Tryz.sizeOf353
 v148:=Tryz.zeroValue353
 t164:=Tryz.underlying230
 a164:=Tryz.isAgg230
 z164:=Tryz.sizeOf230
 v164:=Tryz.zeroValue230 }
theorem Tryz.Builder_Extra_105:Builder.Extra Tryz.prog Tryz.lays105_ren:={
 sizeBuilder:=by kernel_rfl
 liesBuilder:=by kernel_rfl
 t5:=Tryz.underlying5
 a5:=Tryz.isAgg5
 z5:=Tryz.sizeOf5
 v5:=Tryz.zeroValue5
 infoByte:=by kernel_rfl
 cellsByte:=by kernel_rfl
 sizeByte:=by kernel_rfl
 neB5:=by decide }
open Go.RowKit Go.Lib in
theorem Tryz.strings_Repeat (s:ByteArray) (c:Nat) (w:World) (hc:c≤9223372036854775807) (hlen:s.size * c≤140737488355328) :
  Calls Tryz.prog 220 #[.string s,.int .i64 c] w fun e w'=>e = .returned (.string ⟨(Lib.repeatL s.data.toList c).toArray⟩)∧Below w.heap.size w w':=Any.strings_Repeat Tryz.lays105 Tryz.Builder_Extra_105 s c w hc hlen
def Tryz.lays160t_ren:Go.Shelf.Ren:=⟨fun | 160=>213 | 232=>249 | 231=>248 | 227=>250 | 234=>252 | 233=>251 | 236=>254 | 235=>253 | 228=>275 | 271=>277 | 151=>276 | 197=>264 | 120=>288 | 152=>287 | 260=>281 | 137=>291 | 119=>292 | 224=>243 | 225=>242 | 217=>241 | 266=>271|n=>n,fun | 9=>9 | 4=>4 | 3=>3 | 5=>5 | 117=>329 | 116=>328 | 0=>0 | 124=>332 | 21=>21 | 105=>337 | 46=>61 | 119=>361 | 139=>364 | 138=>363|n=>n,fun | 3=>5 | 4=>6|n=>n⟩
theorem Tryz.lays160t:Go.Proofs.Lays.n160 Tryz.prog Tryz.lays160t_ren:={
 mixed:=by kernel_rfl
 f119:=Tryz.func292.trans (congrArg some (by kernel_rfl))
 f120:=Tryz.func288.trans (congrArg some (by kernel_rfl))
 f137:=Tryz.func291.trans (congrArg some (by kernel_rfl))
 f151:=Tryz.func276.trans (congrArg some (by kernel_rfl))
 f152:=Tryz.func287.trans (congrArg some (by kernel_rfl))
 f160:=Tryz.func213.trans (congrArg some (by kernel_rfl))
 f197:=Tryz.func264.trans (congrArg some (by kernel_rfl))
 f217:=Tryz.func241.trans (congrArg some (by kernel_rfl))
 f224:=Tryz.func243.trans (congrArg some (by kernel_rfl))
 f225:=Tryz.func242.trans (congrArg some (by kernel_rfl))
 f227:=Tryz.func250.trans (congrArg some (by kernel_rfl))
 f228:=Tryz.func275.trans (congrArg some (by kernel_rfl))
 f231:=Tryz.func248.trans (congrArg some (by kernel_rfl))
 f232:=Tryz.func249.trans (congrArg some (by kernel_rfl))
 f233:=Tryz.func251.trans (congrArg some (by kernel_rfl))
 f234:=Tryz.func252.trans (congrArg some (by kernel_rfl))
 f235:=Tryz.func253.trans (congrArg some (by kernel_rfl))
 f236:=Tryz.func254.trans (congrArg some (by kernel_rfl))
 f260:=Tryz.func281.trans (congrArg some (by kernel_rfl))
 f266:=Tryz.func271.trans (congrArg some (by kernel_rfl))
 f271:=Tryz.func277.trans (congrArg some (by kernel_rfl))
 t0:=Tryz.underlying0
 a0:=Tryz.isAgg0
 z0:=Tryz.sizeOf0
 v0:=Tryz.zeroValue0
 t3:=Tryz.underlying3
 a3:=Tryz.isAgg3
 z3:=Tryz.sizeOf3
 v3:=Tryz.zeroValue3
 t4:=Tryz.underlying4
 a4:=Tryz.isAgg4
 z4:=Tryz.sizeOf4
 v4:=Tryz.zeroValue4
 t5:=Tryz.underlying5
 a5:=Tryz.isAgg5
 z5:=Tryz.sizeOf5
 v5:=Tryz.zeroValue5
 t9:=Tryz.underlying9
 a9:=Tryz.isAgg9
 z9:=Tryz.sizeOf9
 v9:=Tryz.zeroValue9
 t21:=Tryz.underlying21
 a21:=Tryz.isAgg21
 z21:=Tryz.sizeOf21
 v21:=Tryz.zeroValue21
 t46:=Tryz.underlying61
 a46:=Tryz.isAgg61
 z46:=Tryz.sizeOf61
 v46:=Tryz.zeroValue61
 t105:=Tryz.underlying337
 a105:=Tryz.isAgg337
 z105:=Tryz.sizeOf337
 v105:=Tryz.zeroValue337
 t116:=Tryz.underlying328
 a116:=Tryz.isAgg328
 z116:=Tryz.sizeOf328
 t117:=Tryz.underlying329
 a117:=Tryz.isAgg329
 z117:=Tryz.sizeOf329
 v117:=Tryz.zeroValue329
 t119:=Tryz.underlying361
 a119:=Tryz.isAgg361
 z119:=Tryz.sizeOf361
 t124:=Tryz.underlying332
 a124:=Tryz.isAgg332
 z124:=Tryz.sizeOf332
 v124:=Tryz.zeroValue332
 t138:=Tryz.underlying363
 a138:=Tryz.isAgg363
 z138:=Tryz.sizeOf363
 v138:=Tryz.zeroValue363
 t139:=Tryz.underlying364
 a139:=Tryz.isAgg364
 z139:=Tryz.sizeOf364
 v139:=Tryz.zeroValue364
 g3:=by kernel_rfl
 g4:=by kernel_rfl }
end Go.Proofs
