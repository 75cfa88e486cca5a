/- The library's contracts that the texts behind it lean on, laid at this program. No condition. -/
import Derived.Shelf.SlGeneric
import Derived.Shelf.SlIter.Nil
import Derived.Shelf.SortM.Plain
import Derived.Shelf.SortM.SortNone
import Derived.Ground.GgzProg
import Derived.Ground.SlgmProg
import Derived.Shelf.SlMaps.Clone
import Derived.Ground.SlmcProg
import Derived.Shelf.Strings.SlTrimAscii
import Derived.Shelf.Strings.Builder1
import Derived.Shelf.Strings.Builder2
import Derived.Shelf.Strings.OnBuilder
import Derived.Shelf.Strings.Trim
import Derived.Shelf.Small.Utf8
import Derived.Shelf.Small.Bits
import Derived.Shelf.Small.Strs
import Derived.Shelf.Small.Wraps
import Derived.Shelf.Strings.BuilderF
import Derived.Shelf.Utf8.RuneCount
import Derived.Shelf.Strconv.Atoi
import Derived.Shelf.Strconv.Itoa0
import Derived.Shelf.Strconv.Itoa1
import Derived.Shelf.LaysM
import Derived.Shelf.Strconv.Itoa2
import Derived.Shelf.Strconv.Itoa3
import Derived.Shelf.Strconv.AtoiErrFast
import Derived.Shelf.Strconv.ParseIntEmpty
import Derived.Shelf.Strconv.AtoiFail
import Derived.Shelf.Strconv.Clone
import Derived.Shelf.Strconv.SyntaxError
import Derived.Shelf.LaysC
import Derived.Shelf.Strconv.ToError
import Derived.Shelf.Strconv.AtoiErr
import Derived.Shelf.Strconv.ErrVar
import Derived.Shelf.Strconv.Lower
import Derived.Shelf.Strconv.ParseUint10
import Derived.Shelf.Strconv.ParseUint10Empty
import Derived.Shelf.Strconv.ParseUint10Any
import Derived.Shelf.Strconv.ParseInt10
import Derived.Shelf.Strconv.AtoiLong
import Derived.Shelf.Strconv.AtoiInnerAll
import Derived.Shelf.Strconv.RangeError
import Derived.Shelf.Strconv.ToErrorRange
import Derived.Shelf.Strconv.AtoiAll
import Derived.Shelf.Strconv.ErrVarAll
import Derived.Shelf.Strings.Search1
import Derived.Shelf.Strings.Search2
import Derived.Shelf.Strings.Search3
import Derived.Shelf.Strings.Cut
import Derived.Shelf.Strings.Count
import Derived.Shelf.Strings.Shaped
import Derived.Shelf.Sort.Plain
import Derived.Shelf.Strings.Prefix
import Derived.Shelf.Strings.Split
import Derived.Shelf.Strings.SplitShaped
import Derived.Shelf.Unicode.Decode
import Derived.Shelf.Strings.Runes
import Derived.Shelf.Strings.RuneCount
import Derived.Shelf.Strings.AsciiSet
import Derived.Shelf.Strings.Explode
import Derived.Shelf.Bits.Mul64
import Derived.Shelf.Strings.Repeat
import Derived.Shelf.Unicode.DecodeSlow
import Derived.Shelf.Unicode.DecodeAny
import Derived.Shelf.Unicode.DecodeLast
import Derived.Shelf.Slices.In.SortNone
import Derived.Test.YthnbabbhpeebbaaGreatDoorProg
namespace Go.Proofs
open Go.Shelf
def Tryz.lays169_ren:Go.Shelf.Ren:=⟨λ |169=>133|n=>n,λ |70=>190|9=>9|0=>0|72=>193|37=>191|127=>255|3=>3|5=>5|n=>n,λ|n=>n⟩
theorem Tryz.lays169:Go.Proofs.Lays.n169 Tryz.prog Tryz.lays169_ren:={
 mixed:=by kernel_rfl
 f169:=Tryz.func133.trans (congrArg some (by kernel_rfl))
 t0:=Tryz.underlying0
 a0:=Tryz.isAgg0
 z0:=Tryz.sizeOf0
 v0:=Tryz.zeroValue0
 t3:=Tryz.underlying3
 a3:=Tryz.isAgg3
 z3:=Tryz.sizeOf3
 v3:=Tryz.zeroValue3
 t9:=Tryz.underlying9
 a9:=Tryz.isAgg9
 z9:=Tryz.sizeOf9
 v9:=Tryz.zeroValue9
 t37:=Tryz.underlying191
 a37:=Tryz.isAgg191
 z37:=Tryz.sizeOf191
 v37:=Tryz.zeroValue191
 t70:=Tryz.underlying190
 a70:=Tryz.isAgg190
 z70:=Tryz.sizeOf190
 v70:=Tryz.zeroValue190
 t72:=Tryz.underlying193
 a72:=Tryz.isAgg193
 z72:=Tryz.sizeOf193
 v72:=Tryz.zeroValue193
 t127:=Tryz.underlying255
 a127:=Tryz.isAgg255
 z127:=Tryz.sizeOf255
 v127:=Tryz.zeroValue255}
theorem Tryz.Builder_Extra_169:Builder.Extra Tryz.prog Tryz.lays169_ren:={
 sizeBuilder:=by kernel_rfl
 liesBuilder:=by kernel_rfl
 t5:=Tryz.underlying5
 a5:=Tryz.isAgg5
 z5:=Tryz.sizeOf5
 v5:=Tryz.zeroValue5
 infoByte:=by kernel_rfl
 cellsByte:=by kernel_rfl
 sizeByte:=by kernel_rfl
 neB5:=by decide}
def Tryz.lays156_ren:Go.Shelf.Ren:=⟨λ |156=>177|165=>225|166=>130|169=>133|240=>175|241=>258|276=>224|277=>279|n=>n,λ |31=>47|9=>9|3=>3|4=>4|0=>0|20=>20|72=>193|76=>183|70=>190|37=>191|75=>30|127=>255|164=>297|5=>5|80=>35|n=>n,λ|n=>n⟩
theorem Tryz.lays156:Go.Proofs.Lays.n156 Tryz.prog Tryz.lays156_ren:={
 mixed:=by kernel_rfl
 f156:=Tryz.func177.trans (congrArg some (by kernel_rfl))
 f165:=Tryz.func225.trans (congrArg some (by kernel_rfl))
 f166:=Tryz.func130.trans (congrArg some (by kernel_rfl))
 f169:=Tryz.func133.trans (congrArg some (by kernel_rfl))
 f240:=Tryz.func175.trans (congrArg some (by kernel_rfl))
 f241:=Tryz.func258.trans (congrArg some (by kernel_rfl))
 f276:=Tryz.func224.trans (congrArg some (by kernel_rfl))
 f277:=Tryz.func279.trans (congrArg some (by kernel_rfl))
 t0:=Tryz.underlying0
 a0:=Tryz.isAgg0
 z0:=Tryz.sizeOf0
 v0:=Tryz.zeroValue0
 t3:=Tryz.underlying3
 a3:=Tryz.isAgg3
 z3:=Tryz.sizeOf3
 v3:=Tryz.zeroValue3
 t4:=Tryz.underlying4
 a4:=Tryz.isAgg4
 z4:=Tryz.sizeOf4
 v4:=Tryz.zeroValue4
 t9:=Tryz.underlying9
 a9:=Tryz.isAgg9
 z9:=Tryz.sizeOf9
 v9:=Tryz.zeroValue9
 t20:=Tryz.underlying20
 a20:=Tryz.isAgg20
 z20:=Tryz.sizeOf20
 v20:=Tryz.zeroValue20
 t31:=Tryz.underlying47
 a31:=Tryz.isAgg47
 z31:=Tryz.sizeOf47
 v31:=Tryz.zeroValue47
 t37:=Tryz.underlying191
 a37:=Tryz.isAgg191
 z37:=Tryz.sizeOf191
 v37:=Tryz.zeroValue191
 t70:=Tryz.underlying190
 a70:=Tryz.isAgg190
 z70:=Tryz.sizeOf190
 v70:=Tryz.zeroValue190
 t72:=Tryz.underlying193
 a72:=Tryz.isAgg193
 z72:=Tryz.sizeOf193
 v72:=Tryz.zeroValue193
 t75:=Tryz.underlying30
 a75:=Tryz.isAgg30
 z75:=Tryz.sizeOf30
 v75:=Tryz.zeroValue30
 t76:=Tryz.underlying183
 a76:=Tryz.isAgg183
 z76:=Tryz.sizeOf183
 v76:=Tryz.zeroValue183
 t127:=Tryz.underlying255
 a127:=Tryz.isAgg255
 z127:=Tryz.sizeOf255
 v127:=Tryz.zeroValue255
 t164:=Tryz.underlying297
 a164:=Tryz.isAgg297
 z164:=Tryz.sizeOf297
 v164:=Tryz.zeroValue297}
theorem Tryz.Builder_Extra_156:Builder.Extra Tryz.prog Tryz.lays156_ren:={
 sizeBuilder:=by kernel_rfl
 liesBuilder:=by kernel_rfl
 t5:=Tryz.underlying5
 a5:=Tryz.isAgg5
 z5:=Tryz.sizeOf5
 v5:=Tryz.zeroValue5
 infoByte:=by kernel_rfl
 cellsByte:=by kernel_rfl
 sizeByte:=by kernel_rfl
 neB5:=by decide}
open Go.RowKit in
theorem Tryz.strings_Join_none(a:Option Addr)(c:Nat)(sep:ByteArray)(w:World):
  Calls Tryz.prog 177 #[.slice a 0 c,.string sep] w λe w'=>e=.returned (.string ⟨#[]⟩)∧w'=w:=Any.strings_Join_none Tryz.lays156 Tryz.Builder_Extra_156 a c sep w
open Go.RowKit in
theorem Tryz.strings_Join(bk o c:Nat)(xs:List ByteArray)(sep:ByteArray)(w:World)(hcells:∀(j:Nat)x,xs[j]?=some x->w.cell? ⟨bk,o+j,none⟩=some (.string x))(hbk:bk<w.heap.size)(hN:xs.length<=140737488355328)(hcap:xs.length<=c)(hlen:(Lib.join (xs.map (·.data.toList)) sep.data.toList).length<=140737488355328):
  Calls Tryz.prog 177 #[.slice (some ⟨bk,o,none⟩) xs.length c,.string sep] w λe w'=>e=.returned (.string ⟨(Lib.join (xs.map (·.data.toList)) sep.data.toList).toArray⟩)∧Below w.heap.size w w':=Any.strings_Join Tryz.lays156 Tryz.Builder_Extra_156 bk o c xs sep w hcells hbk hN hcap hlen
def Tryz.lays103_ren:Go.Shelf.Ren:=⟨λ |103=>240|210=>266|206=>239|n=>n,λ |9=>9|4=>4|24=>300|3=>3|n=>n,λ|n=>n⟩
theorem Tryz.lays103:Go.Proofs.Lays.n103 Tryz.prog Tryz.lays103_ren:={
 mixed:=by kernel_rfl
 f103:=Tryz.func240.trans (congrArg some (by kernel_rfl))
 f206:=Tryz.func239.trans (congrArg some (by kernel_rfl))
 f210:=Tryz.func266.trans (congrArg some (by kernel_rfl))
 t3:=Tryz.underlying3
 a3:=Tryz.isAgg3
 z3:=Tryz.sizeOf3
 v3:=Tryz.zeroValue3
 t4:=Tryz.underlying4
 a4:=Tryz.isAgg4
 z4:=Tryz.sizeOf4
 v4:=Tryz.zeroValue4
 t9:=Tryz.underlying9
 a9:=Tryz.isAgg9
 z9:=Tryz.sizeOf9
 v9:=Tryz.zeroValue9
 t24:=Tryz.underlying300
 a24:=Tryz.isAgg300
 z24:=Tryz.sizeOf300
 v24:=Tryz.zeroValue300}
open Go.RowKit in
theorem Tryz.strings_CutPrefix(s p:ByteArray)(w:World):
  Calls Tryz.prog 240 #[.string s,.string p] w λe w'=>e=.returned (.tuple #[.string ⟨(Lib.trimPrefix s.data.toList p.data.toList).toArray⟩,.bool (Lib.hasPrefix s.data.toList p.data.toList)])∧w'=w:=Any.strings_CutPrefix Tryz.lays103 s p w
def Tryz.laysM171_ren:Go.Shelf.Ren:=⟨λ |171=>153|243=>204|246=>245|283=>269|284=>270|285=>271|286=>272|129=>173|317=>285|318=>286|319=>287|320=>288|337=>292|338=>293|n=>n,λ |3=>3|9=>9|2=>2|4=>4|171=>342|0=>0|53=>251|37=>191|5=>5|173=>344|212=>363|51=>200|20=>20|213=>364|46=>189|232=>367|233=>368|n=>n,λ |17=>6|18=>7|19=>8|n=>n⟩
theorem Tryz.laysM171:Go.Proofs.LaysM.n171 Tryz.prog Tryz.laysM171_ren:={
 mixed:=by kernel_rfl
 f129:=Tryz.func173.trans (congrArg some (by kernel_rfl))
 f171:=Tryz.func153.trans (congrArg some (by kernel_rfl))
 f243:=Tryz.func204.trans (congrArg some (by kernel_rfl))
 f246:=Tryz.func245.trans (congrArg some (by kernel_rfl))
 f283:=Tryz.func269.trans (congrArg some (by kernel_rfl))
 f284:=Tryz.func270.trans (congrArg some (by kernel_rfl))
 f285:=Tryz.func271.trans (congrArg some (by kernel_rfl))
 f286:=Tryz.func272.trans (congrArg some (by kernel_rfl))
 f317:=Tryz.func285.trans (congrArg some (by kernel_rfl))
 f318:=Tryz.func286.trans (congrArg some (by kernel_rfl))
 f319:=Tryz.func287.trans (congrArg some (by kernel_rfl))
 f320:=Tryz.func288.trans (congrArg some (by kernel_rfl))
 f337:=Tryz.func292.trans (congrArg some (by kernel_rfl))
 f338:=Tryz.func293.trans (congrArg some (by kernel_rfl))
 t0:=Tryz.underlying0
 a0:=Tryz.isAgg0
 z0:=Tryz.sizeOf0
 v0:=Tryz.zeroValue0
 t2:=Tryz.underlying2
 a2:=Tryz.isAgg2
 z2:=Tryz.sizeOf2
 v2:=Tryz.zeroValue2
 t3:=Tryz.underlying3
 a3:=Tryz.isAgg3
 z3:=Tryz.sizeOf3
 v3:=Tryz.zeroValue3
 t4:=Tryz.underlying4
 a4:=Tryz.isAgg4
 z4:=Tryz.sizeOf4
 v4:=Tryz.zeroValue4
 t5:=Tryz.underlying5
 a5:=Tryz.isAgg5
 z5:=Tryz.sizeOf5
 v5:=Tryz.zeroValue5
 t9:=Tryz.underlying9
 a9:=Tryz.isAgg9
 z9:=Tryz.sizeOf9
 v9:=Tryz.zeroValue9
 t20:=Tryz.underlying20
 a20:=Tryz.isAgg20
 z20:=Tryz.sizeOf20
 v20:=Tryz.zeroValue20
 t37:=Tryz.underlying191
 a37:=Tryz.isAgg191
 z37:=Tryz.sizeOf191
 v37:=Tryz.zeroValue191
 t46:=Tryz.underlying189
 a46:=Tryz.isAgg189
 z46:=Tryz.sizeOf189
 v46:=Tryz.zeroValue189
 t51:=Tryz.underlying200
 a51:=Tryz.isAgg200
 z51:=Tryz.sizeOf200
 v51:=Tryz.zeroValue200
 t53:=Tryz.underlying251
 a53:=Tryz.isAgg251
 z53:=Tryz.sizeOf251
 v53:=Tryz.zeroValue251
 t171:=Tryz.underlying342
 a171:=Tryz.isAgg342
 z171:=Tryz.sizeOf342
 v171:=Tryz.zeroValue342
 t173:=Tryz.underlying344
 a173:=Tryz.isAgg344
 z173:=Tryz.sizeOf344
 v173:=Tryz.zeroValue344
 t212:=Tryz.underlying363
 a212:=Tryz.isAgg363
 z212:=Tryz.sizeOf363
 v212:=Tryz.zeroValue363
 t213:=Tryz.underlying364
 a213:=Tryz.isAgg364
 z213:=Tryz.sizeOf364
 t232:=Tryz.underlying367
 a232:=Tryz.isAgg367
 z232:=Tryz.sizeOf367
 v232:=Tryz.zeroValue367
 t233:=Tryz.underlying368
 a233:=Tryz.isAgg368
 z233:=Tryz.sizeOf368
 v233:=Tryz.zeroValue368
 g17:=by kernel_rfl
 g18:=by kernel_rfl
 g19:=by kernel_rfl
 i0:=by kernel_rfl
 i2:=by kernel_rfl
 i3:=by kernel_rfl
 i4:=by kernel_rfl
 i5:=by kernel_rfl
 i9:=by kernel_rfl
 i20:=by kernel_rfl
 i37:=by kernel_rfl
 i46:=by kernel_rfl
 i51:=by kernel_rfl
 i53:=by kernel_rfl
 i171:=by kernel_rfl
 i173:=by kernel_rfl
 i212:=by kernel_rfl
 i232:=by kernel_rfl
 i233:=by kernel_rfl
 m17:=by kernel_rfl
 m18:=by kernel_rfl
 m19:=by kernel_rfl}
open Go.RowKit Go.Sort Go.Lib in
theorem Tryz.strconv_Itoa(n:Int)(h0: -9223372036854775808<=n)(h1:n<=9223372036854775807)(w:World)(htab:Lib.TabIs Tryz.prog w "internal/strconv.uint64pow10" .u64 Lib.pow10Tab):
  Calls Tryz.prog 153 #[.int .i64 n] w λe w'=>e=.returned (.string ⟨(Lib.itoa n).toArray⟩)∧∃k os,w'=grow (w.drewN k) os:=Any.strconv_Itoa Tryz.laysM171 n h0 h1 w htab
def Tryz.laysC172_ren:Go.Shelf.Ren:=⟨λ |172=>147|244=>190|245=>191|247=>234|279=>235|280=>236|281=>237|282=>238|287=>263|316=>264|171=>153|205=>265|321=>281|322=>282|243=>204|246=>245|283=>269|284=>270|285=>271|286=>272|129=>173|317=>285|318=>286|319=>287|320=>288|337=>292|338=>293|n=>n,λ |9=>9|3=>3|75=>30|76=>183|4=>4|5=>5|167=>307|37=>191|0=>0|85=>308|2=>2|168=>310|53=>251|175=>336|46=>189|210=>339|127=>255|145=>358|143=>356|21=>21|171=>342|173=>344|212=>363|51=>200|20=>20|213=>364|232=>367|233=>368|80=>35|n=>n,λ |15=>4|16=>5|17=>6|18=>7|19=>8|n=>n⟩
theorem Tryz.laysC172:Go.Proofs.LaysC.n172 Tryz.prog Tryz.laysC172_ren:={
 mixed:=by kernel_rfl
 f129:=Tryz.func173.trans (congrArg some (by kernel_rfl))
 f171:=Tryz.func153.trans (congrArg some (by kernel_rfl))
 f172:=Tryz.func147.trans (congrArg some (by kernel_rfl))
 f205:=Tryz.func265.trans (congrArg some (by kernel_rfl))
 f243:=Tryz.func204.trans (congrArg some (by kernel_rfl))
 f244:=Tryz.func190.trans (congrArg some (by kernel_rfl))
 f245:=Tryz.func191.trans (congrArg some (by kernel_rfl))
 f246:=Tryz.func245.trans (congrArg some (by kernel_rfl))
 f247:=Tryz.func234.trans (congrArg some (by kernel_rfl))
 f279:=Tryz.func235.trans (congrArg some (by kernel_rfl))
 f280:=Tryz.func236.trans (congrArg some (by kernel_rfl))
 f281:=Tryz.func237.trans (congrArg some (by kernel_rfl))
 f282:=Tryz.func238.trans (congrArg some (by kernel_rfl))
 f283:=Tryz.func269.trans (congrArg some (by kernel_rfl))
 f284:=Tryz.func270.trans (congrArg some (by kernel_rfl))
 f285:=Tryz.func271.trans (congrArg some (by kernel_rfl))
 f286:=Tryz.func272.trans (congrArg some (by kernel_rfl))
 f287:=Tryz.func263.trans (congrArg some (by kernel_rfl))
 f316:=Tryz.func264.trans (congrArg some (by kernel_rfl))
 f317:=Tryz.func285.trans (congrArg some (by kernel_rfl))
 f318:=Tryz.func286.trans (congrArg some (by kernel_rfl))
 f319:=Tryz.func287.trans (congrArg some (by kernel_rfl))
 f320:=Tryz.func288.trans (congrArg some (by kernel_rfl))
 f321:=Tryz.func281.trans (congrArg some (by kernel_rfl))
 f322:=Tryz.func282.trans (congrArg some (by kernel_rfl))
 f337:=Tryz.func292.trans (congrArg some (by kernel_rfl))
 f338:=Tryz.func293.trans (congrArg some (by kernel_rfl))
 t0:=Tryz.underlying0
 a0:=Tryz.isAgg0
 z0:=Tryz.sizeOf0
 v0:=Tryz.zeroValue0
 t2:=Tryz.underlying2
 a2:=Tryz.isAgg2
 z2:=Tryz.sizeOf2
 v2:=Tryz.zeroValue2
 t3:=Tryz.underlying3
 a3:=Tryz.isAgg3
 z3:=Tryz.sizeOf3
 v3:=Tryz.zeroValue3
 t4:=Tryz.underlying4
 a4:=Tryz.isAgg4
 z4:=Tryz.sizeOf4
 v4:=Tryz.zeroValue4
 t5:=Tryz.underlying5
 a5:=Tryz.isAgg5
 z5:=Tryz.sizeOf5
 v5:=Tryz.zeroValue5
 t9:=Tryz.underlying9
 a9:=Tryz.isAgg9
 z9:=Tryz.sizeOf9
 v9:=Tryz.zeroValue9
 t20:=Tryz.underlying20
 a20:=Tryz.isAgg20
 z20:=Tryz.sizeOf20
 v20:=Tryz.zeroValue20
 t21:=Tryz.underlying21
 a21:=Tryz.isAgg21
 z21:=Tryz.sizeOf21
 v21:=Tryz.zeroValue21
 t37:=Tryz.underlying191
 a37:=Tryz.isAgg191
 z37:=Tryz.sizeOf191
 v37:=Tryz.zeroValue191
 t46:=Tryz.underlying189
 a46:=Tryz.isAgg189
 z46:=Tryz.sizeOf189
 v46:=Tryz.zeroValue189
 t51:=Tryz.underlying200
 a51:=Tryz.isAgg200
 z51:=Tryz.sizeOf200
 v51:=Tryz.zeroValue200
 t53:=Tryz.underlying251
 a53:=Tryz.isAgg251
 z53:=Tryz.sizeOf251
 v53:=Tryz.zeroValue251
 t75:=Tryz.underlying30
 a75:=Tryz.isAgg30
 z75:=Tryz.sizeOf30
 v75:=Tryz.zeroValue30
 t76:=Tryz.underlying183
 a76:=Tryz.isAgg183
 z76:=Tryz.sizeOf183
 v76:=Tryz.zeroValue183
 t85:=Tryz.underlying308
 a85:=Tryz.isAgg308
 z85:=Tryz.sizeOf308
 v85:=Tryz.zeroValue308
 t127:=Tryz.underlying255
 a127:=Tryz.isAgg255
 z127:=Tryz.sizeOf255
 v127:=Tryz.zeroValue255
 t143:=Tryz.underlying356
 a143:=Tryz.isAgg356
 z143:=Tryz.sizeOf356
 v143:=Tryz.zeroValue356
 t145:=Tryz.underlying358
 a145:=Tryz.isAgg358
 z145:=Tryz.sizeOf358
 v145:=Tryz.zeroValue358
 t167:=Tryz.underlying307
 a167:=Tryz.isAgg307
 z167:=Tryz.sizeOf307
 v167:=Tryz.zeroValue307
 t168:=Tryz.underlying310
 a168:=Tryz.isAgg310
 z168:=Tryz.sizeOf310
 v168:=Tryz.zeroValue310
 t171:=Tryz.underlying342
 a171:=Tryz.isAgg342
 z171:=Tryz.sizeOf342
 v171:=Tryz.zeroValue342
 t173:=Tryz.underlying344
 a173:=Tryz.isAgg344
 z173:=Tryz.sizeOf344
 v173:=Tryz.zeroValue344
 t175:=Tryz.underlying336
 a175:=Tryz.isAgg336
 z175:=Tryz.sizeOf336
 v175:=Tryz.zeroValue336
 t210:=Tryz.underlying339
 a210:=Tryz.isAgg339
 z210:=Tryz.sizeOf339
 v210:=Tryz.zeroValue339
 t212:=Tryz.underlying363
 a212:=Tryz.isAgg363
 z212:=Tryz.sizeOf363
 v212:=Tryz.zeroValue363
 t213:=Tryz.underlying364
 a213:=Tryz.isAgg364
 z213:=Tryz.sizeOf364
 t232:=Tryz.underlying367
 a232:=Tryz.isAgg367
 z232:=Tryz.sizeOf367
 v232:=Tryz.zeroValue367
 t233:=Tryz.underlying368
 a233:=Tryz.isAgg368
 z233:=Tryz.sizeOf368
 v233:=Tryz.zeroValue368
 g15:=by kernel_rfl
 g16:=by kernel_rfl
 g17:=by kernel_rfl
 g18:=by kernel_rfl
 g19:=by kernel_rfl
 t80:=Tryz.underlying35
 a80:=Tryz.isAgg35
 z80:=Tryz.sizeOf35
 v80:=Tryz.zeroValue35
 i0:=by kernel_rfl
 i2:=by kernel_rfl
 i3:=by kernel_rfl
 i4:=by kernel_rfl
 i5:=by kernel_rfl
 i9:=by kernel_rfl
 i20:=by kernel_rfl
 i21:=by kernel_rfl
 i37:=by kernel_rfl
 i46:=by kernel_rfl
 i51:=by kernel_rfl
 i53:=by kernel_rfl
 i75:=by kernel_rfl
 i76:=by kernel_rfl
 i80:=by kernel_rfl
 i85:=by kernel_rfl
 i127:=by kernel_rfl
 i143:=by kernel_rfl
 i145:=by kernel_rfl
 i167:=by kernel_rfl
 i168:=by kernel_rfl
 i171:=by kernel_rfl
 i173:=by kernel_rfl
 i175:=by kernel_rfl
 i210:=by kernel_rfl
 i212:=by kernel_rfl
 i232:=by kernel_rfl
 i233:=by kernel_rfl
 m15:=by kernel_rfl
 m16:=by kernel_rfl
 m17:=by kernel_rfl
 m18:=by kernel_rfl
 m19:=by kernel_rfl
 c0:=by kernel_rfl
 c2:=by kernel_rfl
 c3:=by kernel_rfl
 c4:=by kernel_rfl
 c5:=by kernel_rfl
 c9:=by kernel_rfl
 c20:=by kernel_rfl
 c21:=by kernel_rfl
 c37:=by kernel_rfl
 c46:=by kernel_rfl
 c51:=by kernel_rfl
 c53:=by kernel_rfl
 c75:=by kernel_rfl
 c76:=by kernel_rfl
 c80:=by kernel_rfl
 c85:=by kernel_rfl
 c127:=by kernel_rfl
 c143:=by kernel_rfl
 c145:=by kernel_rfl
 c167:=by kernel_rfl
 c168:=by kernel_rfl
 c171:=by kernel_rfl
 c173:=by kernel_rfl
 c175:=by kernel_rfl
 c210:=by kernel_rfl
 c212:=by kernel_rfl
 c213:=by kernel_rfl
 c232:=by kernel_rfl
 c233:=by kernel_rfl}
open Go.RowKit in
theorem Tryz.strconv_Atoi_ok(s:ByteArray)(hmax:s.size<=9223372036854775806)(v:Int)(h:Lib.atoiAll s.data.toList=.ok v)(w:World):
  Calls Tryz.prog 147 #[.string s] w λe w'=>e=.returned (.tuple #[.int .i64 v,.nilIface])∧(w'=w∨∃t,w'=Lib.bytesWorld w 5 t):=Any.strconv_Atoi_ok Tryz.laysC172 s hmax v h w
open Go.RowKit in
theorem Tryz.strconv_Atoi_range_var(s:ByteArray)(hlim:s.size<=281474976710656)(h:Lib.atoiAll s.data.toList=.range)(tp:TypeId)(p:Value)(w:World)(hvar:w.var? Tryz.prog "strconv.ErrRange" =some #[.iface tp p]):
  Calls Tryz.prog 147 #[.string s] w λe w'=>∃N,e=.returned (.tuple #[.int .i64 (Lib.atoiSat s.data.toList),.iface 310 (.pointer (some ⟨N,0,none⟩))])∧w.heap.size<=N∧w'.heap[N]?=some (.cells #[.string ⟨#[65,116,111,105]⟩,.string s,.iface tp p] 339 (0,0))∧Below w.heap.size w w':=Any.strconv_Atoi_range_var Tryz.laysC172 s hlim h tp p w hvar
def Tryz.laysM144_ren:Go.Shelf.Ren:=⟨λ |144=>229|143=>260|219=>233|217=>246|225=>208|224=>207|267=>262|266=>273|314=>280|n=>n,λ |9=>9|4=>4|3=>3|5=>5|46=>189|146=>353|51=>200|n=>n,λ |1=>2|n=>n⟩
theorem Tryz.laysM144:Go.Proofs.LaysM.n144 Tryz.prog Tryz.laysM144_ren:={
 mixed:=by kernel_rfl
 f143:=Tryz.func260.trans (congrArg some (by kernel_rfl))
 f144:=Tryz.func229.trans (congrArg some (by kernel_rfl))
 f217:=Tryz.func246.trans (congrArg some (by kernel_rfl))
 f219:=Tryz.func233.trans (congrArg some (by kernel_rfl))
 f224:=Tryz.func207.trans (congrArg some (by kernel_rfl))
 f225:=Tryz.func208.trans (congrArg some (by kernel_rfl))
 f266:=Tryz.func273.trans (congrArg some (by kernel_rfl))
 f267:=Tryz.func262.trans (congrArg some (by kernel_rfl))
 f314:=Tryz.func280.trans (congrArg some (by kernel_rfl))
 t3:=Tryz.underlying3
 a3:=Tryz.isAgg3
 z3:=Tryz.sizeOf3
 v3:=Tryz.zeroValue3
 t4:=Tryz.underlying4
 a4:=Tryz.isAgg4
 z4:=Tryz.sizeOf4
 v4:=Tryz.zeroValue4
 t5:=Tryz.underlying5
 a5:=Tryz.isAgg5
 z5:=Tryz.sizeOf5
 v5:=Tryz.zeroValue5
 t9:=Tryz.underlying9
 a9:=Tryz.isAgg9
 z9:=Tryz.sizeOf9
 v9:=Tryz.zeroValue9
 t46:=Tryz.underlying189
 a46:=Tryz.isAgg189
 z46:=Tryz.sizeOf189
 v46:=Tryz.zeroValue189
 t51:=Tryz.underlying200
 a51:=Tryz.isAgg200
 z51:=Tryz.sizeOf200
 v51:=Tryz.zeroValue200
 t146:=Tryz.underlying353
 a146:=Tryz.isAgg353
 z146:=Tryz.sizeOf353
 v146:=Tryz.zeroValue353
 g1:=by kernel_rfl
 i3:=by kernel_rfl
 i4:=by kernel_rfl
 i5:=by kernel_rfl
 i9:=by kernel_rfl
 i46:=by kernel_rfl
 i51:=by kernel_rfl
 i146:=by kernel_rfl
 m1:=by kernel_rfl
 s1_3:=λw h=>Go.Proofs.cell_of_shapedOpen_int (zero:= #[.int .i64 0]) (t:=3) h (of_decide_eq_true (by kernel_rfl)) (by kernel_rfl) rfl (by kernel_rfl) (by kernel_rfl) Tryz.underlying3}
open Go.RowKit Go.Lib in
theorem Tryz.strings_Contains_shaped(s sub:ByteArray)(w:World)(h:w.ShapedOpen Tryz.prog)(hs:s.size<4294967281):
  Calls Tryz.prog 229 #[.string s,.string sub] w λe w'=>e=.returned (.bool (Lib.contains s.data.toList sub.data.toList))∧w'=w:=Any.strings_Contains_shaped Tryz.laysM144 s sub w h hs
def Tryz.laysM145_ren:Go.Shelf.Ren:=⟨λ |145=>146|220=>189|219=>233|217=>246|225=>208|224=>207|267=>262|266=>273|314=>280|n=>n,λ |9=>9|4=>4|59=>223|3=>3|5=>5|46=>189|146=>353|51=>200|n=>n,λ |1=>2|n=>n⟩
theorem Tryz.laysM145:Go.Proofs.LaysM.n145 Tryz.prog Tryz.laysM145_ren:={
 mixed:=by kernel_rfl
 f145:=Tryz.func146.trans (congrArg some (by kernel_rfl))
 f217:=Tryz.func246.trans (congrArg some (by kernel_rfl))
 f219:=Tryz.func233.trans (congrArg some (by kernel_rfl))
 f220:=Tryz.func189.trans (congrArg some (by kernel_rfl))
 f224:=Tryz.func207.trans (congrArg some (by kernel_rfl))
 f225:=Tryz.func208.trans (congrArg some (by kernel_rfl))
 f266:=Tryz.func273.trans (congrArg some (by kernel_rfl))
 f267:=Tryz.func262.trans (congrArg some (by kernel_rfl))
 f314:=Tryz.func280.trans (congrArg some (by kernel_rfl))
 t3:=Tryz.underlying3
 a3:=Tryz.isAgg3
 z3:=Tryz.sizeOf3
 v3:=Tryz.zeroValue3
 t4:=Tryz.underlying4
 a4:=Tryz.isAgg4
 z4:=Tryz.sizeOf4
 v4:=Tryz.zeroValue4
 t5:=Tryz.underlying5
 a5:=Tryz.isAgg5
 z5:=Tryz.sizeOf5
 v5:=Tryz.zeroValue5
 t9:=Tryz.underlying9
 a9:=Tryz.isAgg9
 z9:=Tryz.sizeOf9
 v9:=Tryz.zeroValue9
 t46:=Tryz.underlying189
 a46:=Tryz.isAgg189
 z46:=Tryz.sizeOf189
 v46:=Tryz.zeroValue189
 t51:=Tryz.underlying200
 a51:=Tryz.isAgg200
 z51:=Tryz.sizeOf200
 v51:=Tryz.zeroValue200
 t59:=Tryz.underlying223
 a59:=Tryz.isAgg223
 z59:=Tryz.sizeOf223
 v59:=Tryz.zeroValue223
 t146:=Tryz.underlying353
 a146:=Tryz.isAgg353
 z146:=Tryz.sizeOf353
 v146:=Tryz.zeroValue353
 g1:=by kernel_rfl
 i3:=by kernel_rfl
 i4:=by kernel_rfl
 i5:=by kernel_rfl
 i9:=by kernel_rfl
 i46:=by kernel_rfl
 i51:=by kernel_rfl
 i59:=by kernel_rfl
 i146:=by kernel_rfl
 m1:=by kernel_rfl
 s1_3:=λw h=>Go.Proofs.cell_of_shapedOpen_int (zero:= #[.int .i64 0]) (t:=3) h (of_decide_eq_true (by kernel_rfl)) (by kernel_rfl) rfl (by kernel_rfl) (by kernel_rfl) Tryz.underlying3}
open Go.RowKit Go.Lib in
theorem Tryz.strings_Cut_shaped(s sep:ByteArray)(w:World)(h:w.ShapedOpen Tryz.prog)(hs:s.size<4294967281):
  Calls Tryz.prog 146 #[.string s,.string sep] w λe w'=>e=.returned (.tuple #[.string ⟨(Lib.cut s.data.toList sep.data.toList).1.toArray⟩,.string ⟨(Lib.cut s.data.toList sep.data.toList).2.1.toArray⟩,.bool (Lib.cut s.data.toList sep.data.toList).2.2])∧∃n,w'=w.drewN n:=Any.strings_Cut_shaped Tryz.laysM145 s sep w h hs
def Tryz.lays99_ren:Go.Shelf.Ren:=⟨λ |99=>193|206=>239|n=>n,λ |9=>9|4=>4|3=>3|n=>n,λ|n=>n⟩
theorem Tryz.lays99:Go.Proofs.Lays.n99 Tryz.prog Tryz.lays99_ren:={
 mixed:=by kernel_rfl
 f99:=Tryz.func193.trans (congrArg some (by kernel_rfl))
 f206:=Tryz.func239.trans (congrArg some (by kernel_rfl))
 t3:=Tryz.underlying3
 a3:=Tryz.isAgg3
 z3:=Tryz.sizeOf3
 v3:=Tryz.zeroValue3
 t4:=Tryz.underlying4
 a4:=Tryz.isAgg4
 z4:=Tryz.sizeOf4
 v4:=Tryz.zeroValue4
 t9:=Tryz.underlying9
 a9:=Tryz.isAgg9
 z9:=Tryz.sizeOf9
 v9:=Tryz.zeroValue9}
open Go.RowKit Go.Lib in
theorem Tryz.strings_HasPrefix(s p:ByteArray)(w:World):
  Calls Tryz.prog 193 #[.string s,.string p] w λe w'=>e=.returned (.bool (Lib.hasPrefix s.data.toList p.data.toList))∧w'=w:=Any.strings_HasPrefix Tryz.lays99 s p w
def Tryz.lays100_ren:Go.Shelf.Ren:=⟨λ |100=>178|207=>226|n=>n,λ |9=>9|4=>4|3=>3|n=>n,λ|n=>n⟩
theorem Tryz.lays100:Go.Proofs.Lays.n100 Tryz.prog Tryz.lays100_ren:={
 mixed:=by kernel_rfl
 f100:=Tryz.func178.trans (congrArg some (by kernel_rfl))
 f207:=Tryz.func226.trans (congrArg some (by kernel_rfl))
 t3:=Tryz.underlying3
 a3:=Tryz.isAgg3
 z3:=Tryz.sizeOf3
 v3:=Tryz.zeroValue3
 t4:=Tryz.underlying4
 a4:=Tryz.isAgg4
 z4:=Tryz.sizeOf4
 v4:=Tryz.zeroValue4
 t9:=Tryz.underlying9
 a9:=Tryz.isAgg9
 z9:=Tryz.sizeOf9
 v9:=Tryz.zeroValue9}
open Go.RowKit Go.Lib in
theorem Tryz.strings_HasSuffix(s p:ByteArray)(w:World)(hs:s.size<=9223372036854775807):
  Calls Tryz.prog 178 #[.string s,.string p] w λe w'=>e=.returned (.bool (Lib.hasSuffix s.data.toList p.data.toList))∧w'=w:=Any.strings_HasSuffix Tryz.lays100 s p w hs
def Tryz.lays101_ren:Go.Shelf.Ren:=⟨λ |101=>148|208=>192|206=>239|n=>n,λ |9=>9|4=>4|3=>3|n=>n,λ|n=>n⟩
theorem Tryz.lays101:Go.Proofs.Lays.n101 Tryz.prog Tryz.lays101_ren:={
 mixed:=by kernel_rfl
 f101:=Tryz.func148.trans (congrArg some (by kernel_rfl))
 f206:=Tryz.func239.trans (congrArg some (by kernel_rfl))
 f208:=Tryz.func192.trans (congrArg some (by kernel_rfl))
 t3:=Tryz.underlying3
 a3:=Tryz.isAgg3
 z3:=Tryz.sizeOf3
 v3:=Tryz.zeroValue3
 t4:=Tryz.underlying4
 a4:=Tryz.isAgg4
 z4:=Tryz.sizeOf4
 v4:=Tryz.zeroValue4
 t9:=Tryz.underlying9
 a9:=Tryz.isAgg9
 z9:=Tryz.sizeOf9
 v9:=Tryz.zeroValue9}
open Go.RowKit Go.Lib in
theorem Tryz.strings_TrimPrefix(s p:ByteArray)(w:World):
  Calls Tryz.prog 148 #[.string s,.string p] w λe w'=>e=.returned (.string ⟨(Lib.trimPrefix s.data.toList p.data.toList).toArray⟩)∧w'=w:=Any.strings_TrimPrefix Tryz.lays101 s p w
def Tryz.laysM146_ren:Go.Shelf.Ren:=⟨λ |146=>222|221=>257|268=>277|138=>278|143=>260|195=>290|197=>119|218=>291|219=>233|260=>154|217=>246|225=>208|224=>207|267=>262|266=>273|314=>280|n=>n,λ |9=>9|31=>47|3=>3|4=>4|0=>0|105=>179|21=>21|5=>5|46=>189|119=>274|139=>277|138=>276|146=>353|51=>200|n=>n,λ |1=>2|3=>0|4=>1|n=>n⟩
theorem Tryz.laysM146:Go.Proofs.LaysM.n146 Tryz.prog Tryz.laysM146_ren:={
 mixed:=by kernel_rfl
 f138:=Tryz.func278.trans (congrArg some (by kernel_rfl))
 f143:=Tryz.func260.trans (congrArg some (by kernel_rfl))
 f146:=Tryz.func222.trans (congrArg some (by kernel_rfl))
 f195:=Tryz.func290.trans (congrArg some (by kernel_rfl))
 f197:=Tryz.func119.trans (congrArg some (by kernel_rfl))
 f217:=Tryz.func246.trans (congrArg some (by kernel_rfl))
 f218:=Tryz.func291.trans (congrArg some (by kernel_rfl))
 f219:=Tryz.func233.trans (congrArg some (by kernel_rfl))
 f221:=Tryz.func257.trans (congrArg some (by kernel_rfl))
 f224:=Tryz.func207.trans (congrArg some (by kernel_rfl))
 f225:=Tryz.func208.trans (congrArg some (by kernel_rfl))
 f260:=Tryz.func154.trans (congrArg some (by kernel_rfl))
 f266:=Tryz.func273.trans (congrArg some (by kernel_rfl))
 f267:=Tryz.func262.trans (congrArg some (by kernel_rfl))
 f268:=Tryz.func277.trans (congrArg some (by kernel_rfl))
 f314:=Tryz.func280.trans (congrArg some (by kernel_rfl))
 t0:=Tryz.underlying0
 a0:=Tryz.isAgg0
 z0:=Tryz.sizeOf0
 v0:=Tryz.zeroValue0
 t3:=Tryz.underlying3
 a3:=Tryz.isAgg3
 z3:=Tryz.sizeOf3
 v3:=Tryz.zeroValue3
 t4:=Tryz.underlying4
 a4:=Tryz.isAgg4
 z4:=Tryz.sizeOf4
 v4:=Tryz.zeroValue4
 t5:=Tryz.underlying5
 a5:=Tryz.isAgg5
 z5:=Tryz.sizeOf5
 v5:=Tryz.zeroValue5
 t9:=Tryz.underlying9
 a9:=Tryz.isAgg9
 z9:=Tryz.sizeOf9
 v9:=Tryz.zeroValue9
 t21:=Tryz.underlying21
 a21:=Tryz.isAgg21
 z21:=Tryz.sizeOf21
 v21:=Tryz.zeroValue21
 t31:=Tryz.underlying47
 a31:=Tryz.isAgg47
 z31:=Tryz.sizeOf47
 v31:=Tryz.zeroValue47
 t46:=Tryz.underlying189
 a46:=Tryz.isAgg189
 z46:=Tryz.sizeOf189
 v46:=Tryz.zeroValue189
 t51:=Tryz.underlying200
 a51:=Tryz.isAgg200
 z51:=Tryz.sizeOf200
 v51:=Tryz.zeroValue200
 t105:=Tryz.underlying179
 a105:=Tryz.isAgg179
 z105:=Tryz.sizeOf179
 v105:=Tryz.zeroValue179
 t119:=Tryz.underlying274
 a119:=Tryz.isAgg274
 z119:=Tryz.sizeOf274
 t138:=Tryz.underlying276
 a138:=Tryz.isAgg276
 z138:=Tryz.sizeOf276
 v138:=Tryz.zeroValue276
 t139:=Tryz.underlying277
 a139:=Tryz.isAgg277
 z139:=Tryz.sizeOf277
 v139:=Tryz.zeroValue277
 t146:=Tryz.underlying353
 a146:=Tryz.isAgg353
 z146:=Tryz.sizeOf353
 v146:=Tryz.zeroValue353
 g1:=by kernel_rfl
 g3:=by kernel_rfl
 g4:=by kernel_rfl
 i0:=by kernel_rfl
 i3:=by kernel_rfl
 i4:=by kernel_rfl
 i5:=by kernel_rfl
 i9:=by kernel_rfl
 i21:=by kernel_rfl
 i31:=by kernel_rfl
 i46:=by kernel_rfl
 i51:=by kernel_rfl
 i105:=by kernel_rfl
 i138:=by kernel_rfl
 i139:=by kernel_rfl
 i146:=by kernel_rfl
 m1:=by kernel_rfl
 s1_3:=λw h=>Go.Proofs.cell_of_shapedOpen_int (zero:= #[.int .i64 0]) (t:=3) h (of_decide_eq_true (by kernel_rfl)) (by kernel_rfl) rfl (by kernel_rfl) (by kernel_rfl) Tryz.underlying3
 m3:=by kernel_rfl
 m4:=by kernel_rfl}
open Go.RowKit Go.Lib in
theorem Tryz.strings_Split_shaped(s sep:ByteArray)(w:World)(h:w.ShapedOpen Tryz.prog)(hs:s.size<4294967281)(h1:1<=sep.size):
  Calls Tryz.prog 222 #[.string s,.string sep] w λe w'=>
   e=.returned (.slice (some ⟨w.heap.size,0,none⟩) (Lib.countB s sep+1) (Lib.countB s sep+1))∧w'=w.alloc (.cells ((Lib.splitB sep 0 (Lib.countB s sep) s).map Value.string).toArray 9):=Any.strings_Split_shaped Tryz.laysM146 s sep w h hs h1
def Tryz.lays105_ren:Go.Shelf.Ren:=⟨λ |105=>243|212=>267|99=>193|165=>225|166=>130|170=>268|169=>133|263=>283|264=>284|206=>239|240=>175|241=>258|276=>224|277=>279|n=>n,λ |9=>9|3=>3|4=>4|20=>20|0=>0|46=>189|109=>340|5=>5|72=>193|76=>183|51=>200|146=>353|53=>251|148=>360|70=>190|37=>191|75=>30|127=>255|164=>297|80=>35|n=>n,λ|n=>n⟩
theorem Tryz.lays105:Go.Proofs.Lays.n105 Tryz.prog Tryz.lays105_ren:={
 mixed:=by kernel_rfl
 f99:=Tryz.func193.trans (congrArg some (by kernel_rfl))
 f105:=Tryz.func243.trans (congrArg some (by kernel_rfl))
 f165:=Tryz.func225.trans (congrArg some (by kernel_rfl))
 f166:=Tryz.func130.trans (congrArg some (by kernel_rfl))
 f169:=Tryz.func133.trans (congrArg some (by kernel_rfl))
 f170:=Tryz.func268.trans (congrArg some (by kernel_rfl))
 f206:=Tryz.func239.trans (congrArg some (by kernel_rfl))
 f212:=Tryz.func267.trans (congrArg some (by kernel_rfl))
 f240:=Tryz.func175.trans (congrArg some (by kernel_rfl))
 f241:=Tryz.func258.trans (congrArg some (by kernel_rfl))
 f263:=Tryz.func283.trans (congrArg some (by kernel_rfl))
 f264:=Tryz.func284.trans (congrArg some (by kernel_rfl))
 f276:=Tryz.func224.trans (congrArg some (by kernel_rfl))
 f277:=Tryz.func279.trans (congrArg some (by kernel_rfl))
 t0:=Tryz.underlying0
 a0:=Tryz.isAgg0
 z0:=Tryz.sizeOf0
 v0:=Tryz.zeroValue0
 t3:=Tryz.underlying3
 a3:=Tryz.isAgg3
 z3:=Tryz.sizeOf3
 v3:=Tryz.zeroValue3
 t4:=Tryz.underlying4
 a4:=Tryz.isAgg4
 z4:=Tryz.sizeOf4
 v4:=Tryz.zeroValue4
 t5:=Tryz.underlying5
 a5:=Tryz.isAgg5
 z5:=Tryz.sizeOf5
 v5:=Tryz.zeroValue5
 t9:=Tryz.underlying9
 a9:=Tryz.isAgg9
 z9:=Tryz.sizeOf9
 v9:=Tryz.zeroValue9
 t20:=Tryz.underlying20
 a20:=Tryz.isAgg20
 z20:=Tryz.sizeOf20
 v20:=Tryz.zeroValue20
 t37:=Tryz.underlying191
 a37:=Tryz.isAgg191
 z37:=Tryz.sizeOf191
 v37:=Tryz.zeroValue191
 t46:=Tryz.underlying189
 a46:=Tryz.isAgg189
 z46:=Tryz.sizeOf189
 v46:=Tryz.zeroValue189
 t51:=Tryz.underlying200
 a51:=Tryz.isAgg200
 z51:=Tryz.sizeOf200
 v51:=Tryz.zeroValue200
 t53:=Tryz.underlying251
 a53:=Tryz.isAgg251
 z53:=Tryz.sizeOf251
 v53:=Tryz.zeroValue251
 t70:=Tryz.underlying190
 a70:=Tryz.isAgg190
 z70:=Tryz.sizeOf190
 v70:=Tryz.zeroValue190
 t72:=Tryz.underlying193
 a72:=Tryz.isAgg193
 z72:=Tryz.sizeOf193
 v72:=Tryz.zeroValue193
 t75:=Tryz.underlying30
 a75:=Tryz.isAgg30
 z75:=Tryz.sizeOf30
 v75:=Tryz.zeroValue30
 t76:=Tryz.underlying183
 a76:=Tryz.isAgg183
 z76:=Tryz.sizeOf183
 v76:=Tryz.zeroValue183
 t109:=Tryz.underlying340
 a109:=Tryz.isAgg340
 z109:=Tryz.sizeOf340
 v109:=Tryz.zeroValue340
 t127:=Tryz.underlying255
 a127:=Tryz.isAgg255
 z127:=Tryz.sizeOf255
 v127:=Tryz.zeroValue255
 t146:=Tryz.underlying353
 a146:=Tryz.isAgg353
 z146:=Tryz.sizeOf353
 v146:=Tryz.zeroValue353
 t148:=Tryz.underlying360
 a148:=Tryz.isAgg360
 z148:=Tryz.sizeOf360
 v148:=Tryz.zeroValue360
 t164:=Tryz.underlying297
 a164:=Tryz.isAgg297
 z164:=Tryz.sizeOf297
 v164:=Tryz.zeroValue297}
theorem Tryz.Builder_Extra_105:Builder.Extra Tryz.prog Tryz.lays105_ren:={
 sizeBuilder:=by kernel_rfl
 liesBuilder:=by kernel_rfl
 t5:=Tryz.underlying5
 a5:=Tryz.isAgg5
 z5:=Tryz.sizeOf5
 v5:=Tryz.zeroValue5
 infoByte:=by kernel_rfl
 cellsByte:=by kernel_rfl
 sizeByte:=by kernel_rfl
 neB5:=by decide}
open Go.RowKit Go.Lib in
theorem Tryz.strings_Repeat(s:ByteArray)(c:Nat)(w:World)(hc:c<=9223372036854775807)(hlen:s.size*c<=140737488355328):
  Calls Tryz.prog 243 #[.string s,.int .i64 c] w λe w'=>e=.returned (.string ⟨(Lib.repeatL s.data.toList c).toArray⟩)∧Below w.heap.size w w':=Any.strings_Repeat Tryz.lays105 Tryz.Builder_Extra_105 s c w hc hlen
def Tryz.lays160t_ren:Go.Shelf.Ren:=⟨λ |160=>47|232=>91|231=>90|227=>92|234=>94|233=>93|236=>96|235=>95|228=>118|271=>121|151=>120|197=>119|120=>156|152=>155|260=>154|137=>205|119=>206|224=>207|225=>208|217=>246|266=>273|n=>n,λ |9=>9|4=>4|3=>3|5=>5|117=>143|116=>142|0=>0|124=>146|21=>21|105=>179|46=>189|119=>274|139=>277|138=>276|n=>n,λ |3=>0|4=>1|n=>n⟩
theorem Tryz.lays160t:Go.Proofs.Lays.n160 Tryz.prog Tryz.lays160t_ren:={
 mixed:=by kernel_rfl
 f119:=Tryz.func206.trans (congrArg some (by kernel_rfl))
 f120:=Tryz.func156.trans (congrArg some (by kernel_rfl))
 f137:=Tryz.func205.trans (congrArg some (by kernel_rfl))
 f151:=Tryz.func120.trans (congrArg some (by kernel_rfl))
 f152:=Tryz.func155.trans (congrArg some (by kernel_rfl))
 f160:=Tryz.func47.trans (congrArg some (by kernel_rfl))
 f197:=Tryz.func119.trans (congrArg some (by kernel_rfl))
 f217:=Tryz.func246.trans (congrArg some (by kernel_rfl))
 f224:=Tryz.func207.trans (congrArg some (by kernel_rfl))
 f225:=Tryz.func208.trans (congrArg some (by kernel_rfl))
 f227:=Tryz.func92.trans (congrArg some (by kernel_rfl))
 f228:=Tryz.func118.trans (congrArg some (by kernel_rfl))
 f231:=Tryz.func90.trans (congrArg some (by kernel_rfl))
 f232:=Tryz.func91.trans (congrArg some (by kernel_rfl))
 f233:=Tryz.func93.trans (congrArg some (by kernel_rfl))
 f234:=Tryz.func94.trans (congrArg some (by kernel_rfl))
 f235:=Tryz.func95.trans (congrArg some (by kernel_rfl))
 f236:=Tryz.func96.trans (congrArg some (by kernel_rfl))
 f260:=Tryz.func154.trans (congrArg some (by kernel_rfl))
 f266:=Tryz.func273.trans (congrArg some (by kernel_rfl))
 f271:=Tryz.func121.trans (congrArg some (by kernel_rfl))
 t0:=Tryz.underlying0
 a0:=Tryz.isAgg0
 z0:=Tryz.sizeOf0
 v0:=Tryz.zeroValue0
 t3:=Tryz.underlying3
 a3:=Tryz.isAgg3
 z3:=Tryz.sizeOf3
 v3:=Tryz.zeroValue3
 t4:=Tryz.underlying4
 a4:=Tryz.isAgg4
 z4:=Tryz.sizeOf4
 v4:=Tryz.zeroValue4
 t5:=Tryz.underlying5
 a5:=Tryz.isAgg5
 z5:=Tryz.sizeOf5
 v5:=Tryz.zeroValue5
 t9:=Tryz.underlying9
 a9:=Tryz.isAgg9
 z9:=Tryz.sizeOf9
 v9:=Tryz.zeroValue9
 t21:=Tryz.underlying21
 a21:=Tryz.isAgg21
 z21:=Tryz.sizeOf21
 v21:=Tryz.zeroValue21
 t46:=Tryz.underlying189
 a46:=Tryz.isAgg189
 z46:=Tryz.sizeOf189
 v46:=Tryz.zeroValue189
 t105:=Tryz.underlying179
 a105:=Tryz.isAgg179
 z105:=Tryz.sizeOf179
 v105:=Tryz.zeroValue179
 t116:=Tryz.underlying142
 a116:=Tryz.isAgg142
 z116:=Tryz.sizeOf142
 t117:=Tryz.underlying143
 a117:=Tryz.isAgg143
 z117:=Tryz.sizeOf143
 v117:=Tryz.zeroValue143
 t119:=Tryz.underlying274
 a119:=Tryz.isAgg274
 z119:=Tryz.sizeOf274
 t124:=Tryz.underlying146
 a124:=Tryz.isAgg146
 z124:=Tryz.sizeOf146
 v124:=Tryz.zeroValue146
 t138:=Tryz.underlying276
 a138:=Tryz.isAgg276
 z138:=Tryz.sizeOf276
 v138:=Tryz.zeroValue276
 t139:=Tryz.underlying277
 a139:=Tryz.isAgg277
 z139:=Tryz.sizeOf277
 v139:=Tryz.zeroValue277
 g3:=by kernel_rfl
 g4:=by kernel_rfl}
def Tryz.keys61_ren:Go.Shelf.Ren:=⟨λ |7=>61|10=>100|n=>n,λ |23=>88|26=>9|3=>3|28=>104|0=>0|27=>103|33=>39|4=>4|n=>n,λ|n=>n⟩
theorem Tryz.keys61:Go.Proofs.SlLaysZ.n7 Tryz.prog Tryz.keys61_ren:={
 mixed:=by kernel_rfl
 f7:=⟨Tryz.f61.name,by decide,Tryz.func61.trans (congrArg some (by kernel_rfl))⟩
 f10:=⟨Tryz.f100.name,by decide,Tryz.func100.trans (congrArg some (by kernel_rfl))⟩
 t0:=Tryz.underlying0
 a0:=Tryz.isAgg0
 z0:=Tryz.sizeOf0
 v0:=Tryz.zeroValue0
 t4:=Tryz.underlying4
 a4:=Tryz.isAgg4
 z4:=Tryz.sizeOf4
 v4:=Tryz.zeroValue4
 t23:=Tryz.underlying88
 a23:=Tryz.isAgg88
 z23:=Tryz.sizeOf88
 v23:=Tryz.zeroValue88
 t26:=Tryz.underlying9
 a26:=Tryz.isAgg9
 z26:=Tryz.sizeOf9
 v26:=Tryz.zeroValue9
 t27:=Tryz.underlying103
 a27:=Tryz.isAgg103
 z27:=Tryz.sizeOf103
 v27:=Tryz.zeroValue103
 t28:=Tryz.underlying104
 a28:=Tryz.isAgg104
 z28:=Tryz.sizeOf104
 v28:=Tryz.zeroValue104
 t33:=Tryz.underlying39
 a33:=Tryz.isAgg39
 z33:=Tryz.sizeOf39
 v33:=Tryz.zeroValue39}
def Tryz.sorted60_ren:Go.Shelf.Ren:=⟨λ |6=>60|8=>98|9=>99|11=>126|13=>128|12=>127|23=>172|24=>173|14=>163|15=>164|16=>165|17=>166|18=>167|19=>168|20=>169|21=>170|22=>171|25=>215|26=>216|27=>217|28=>218|29=>219|30=>220|31=>256|n=>n,λ |26=>9|28=>104|24=>47|0=>0|3=>3|37=>189|48=>200|50=>251|4=>4|40=>244|39=>243|45=>150|5=>5|9=>9|51=>288|55=>292|57=>330|58=>331|33=>39|n=>n,λ|n=>n⟩
theorem Tryz.sorted60:Go.Proofs.SlLaysZ.n6 Tryz.prog Tryz.sorted60_ren:={
 mixed:=by kernel_rfl
 f6:=⟨Tryz.f60.name,by decide,Tryz.func60.trans (congrArg some (by kernel_rfl))⟩
 f8:=⟨Tryz.f98.name,by decide,Tryz.func98.trans (congrArg some (by kernel_rfl))⟩
 f11:=⟨Tryz.f126.name,by decide,Tryz.func126.trans (congrArg some (by kernel_rfl))⟩
 t0:=Tryz.underlying0
 a0:=Tryz.isAgg0
 z0:=Tryz.sizeOf0
 v0:=Tryz.zeroValue0
 t24:=Tryz.underlying47
 a24:=Tryz.isAgg47
 z24:=Tryz.sizeOf47
 v24:=Tryz.zeroValue47
 t26:=Tryz.underlying9
 a26:=Tryz.isAgg9
 z26:=Tryz.sizeOf9
 v26:=Tryz.zeroValue9
 t28:=Tryz.underlying104
 a28:=Tryz.isAgg104
 z28:=Tryz.sizeOf104
 v28:=Tryz.zeroValue104
 i26:=by kernel_rfl}
def Tryz.sort99_ren:Go.Shelf.Ren:=⟨λ |6=>99|8=>128|9=>127|19=>172|20=>173|21=>163|22=>164|23=>165|24=>166|25=>167|26=>168|27=>169|28=>170|29=>171|36=>215|31=>216|32=>217|37=>218|38=>219|39=>220|41=>256|n=>n,λ |27=>47|29=>9|3=>3|32=>189|26=>47|0=>0|44=>200|46=>251|4=>4|36=>244|35=>243|41=>150|5=>5|9=>9|53=>288|57=>292|63=>330|64=>331|n=>n,λ|n=>n⟩
theorem Tryz.sort99:Go.Proofs.SlLaysM.n6 Tryz.prog Tryz.sort99_ren:={
 mixed:=by kernel_rfl
 f6:=⟨Tryz.f99.name,by decide,Tryz.func99.trans (congrArg some (by kernel_rfl))⟩
 f8:=Tryz.func128.trans (congrArg some (by kernel_rfl))
 f9:=⟨Tryz.f127.name,by decide,Tryz.func127.trans (congrArg some (by kernel_rfl))⟩
 f19:=Tryz.func172.trans (congrArg some (by kernel_rfl))
 f20:=Tryz.func173.trans (congrArg some (by kernel_rfl))
 f21:=⟨Tryz.f163.name,by decide,Tryz.func163.trans (congrArg some (by kernel_rfl))⟩
 f22:=⟨Tryz.f164.name,by decide,Tryz.func164.trans (congrArg some (by kernel_rfl))⟩
 f23:=⟨Tryz.f165.name,by decide,Tryz.func165.trans (congrArg some (by kernel_rfl))⟩
 f24:=⟨Tryz.f166.name,by decide,Tryz.func166.trans (congrArg some (by kernel_rfl))⟩
 f25:=⟨Tryz.f167.name,by decide,Tryz.func167.trans (congrArg some (by kernel_rfl))⟩
 f26:=⟨Tryz.f168.name,by decide,Tryz.func168.trans (congrArg some (by kernel_rfl))⟩
 f27:=⟨Tryz.f169.name,by decide,Tryz.func169.trans (congrArg some (by kernel_rfl))⟩
 f28:=⟨Tryz.f170.name,by decide,Tryz.func170.trans (congrArg some (by kernel_rfl))⟩
 f29:=⟨Tryz.f171.name,by decide,Tryz.func171.trans (congrArg some (by kernel_rfl))⟩
 f31:=Tryz.func216.trans (congrArg some (by kernel_rfl))
 f32:=Tryz.func217.trans (congrArg some (by kernel_rfl))
 f36:=⟨Tryz.f215.name,by decide,Tryz.func215.trans (congrArg some (by kernel_rfl))⟩
 f37:=⟨Tryz.f218.name,by decide,Tryz.func218.trans (congrArg some (by kernel_rfl))⟩
 f38:=⟨Tryz.f219.name,by decide,Tryz.func219.trans (congrArg some (by kernel_rfl))⟩
 f39:=⟨Tryz.f220.name,by decide,Tryz.func220.trans (congrArg some (by kernel_rfl))⟩
 f41:=⟨Tryz.f256.name,by decide,Tryz.func256.trans (congrArg some (by kernel_rfl))⟩
 t0:=Tryz.underlying0
 a0:=Tryz.isAgg0
 z0:=Tryz.sizeOf0
 v0:=Tryz.zeroValue0
 t3:=Tryz.underlying3
 a3:=Tryz.isAgg3
 z3:=Tryz.sizeOf3
 v3:=Tryz.zeroValue3
 t4:=Tryz.underlying4
 a4:=Tryz.isAgg4
 z4:=Tryz.sizeOf4
 v4:=Tryz.zeroValue4
 t5:=Tryz.underlying5
 a5:=Tryz.isAgg5
 z5:=Tryz.sizeOf5
 v5:=Tryz.zeroValue5
 t9:=Tryz.underlying9
 a9:=Tryz.isAgg9
 z9:=Tryz.sizeOf9
 v9:=Tryz.zeroValue9
 t26:=Tryz.underlying47
 a26:=Tryz.isAgg47
 z26:=Tryz.sizeOf47
 v26:=Tryz.zeroValue47
 t27:=Tryz.underlying47
 a27:=Tryz.isAgg47
 z27:=Tryz.sizeOf47
 v27:=Tryz.zeroValue47
 t29:=Tryz.underlying9
 a29:=Tryz.isAgg9
 z29:=Tryz.sizeOf9
 v29:=Tryz.zeroValue9
 t32:=Tryz.underlying189
 a32:=Tryz.isAgg189
 z32:=Tryz.sizeOf189
 v32:=Tryz.zeroValue189
 t35:=Tryz.underlying243
 a35:=Tryz.isAgg243
 z35:=Tryz.sizeOf243
 v35:=Tryz.zeroValue243
 t36:=Tryz.underlying244
 a36:=Tryz.isAgg244
 z36:=Tryz.sizeOf244
 v36:=Tryz.zeroValue244
 t41:=Tryz.underlying150
 a41:=Tryz.isAgg150
 z41:=Tryz.sizeOf150
 v41:=Tryz.zeroValue150
 t44:=Tryz.underlying200
 a44:=Tryz.isAgg200
 z44:=Tryz.sizeOf200
 v44:=Tryz.zeroValue200
 t46:=Tryz.underlying251
 a46:=Tryz.isAgg251
 z46:=Tryz.sizeOf251
 v46:=Tryz.zeroValue251
 t53:=Tryz.underlying288
 a53:=Tryz.isAgg288
 z53:=Tryz.sizeOf288
 v53:=Tryz.zeroValue288
 t57:=Tryz.underlying292
 a57:=Tryz.isAgg292
 z57:=Tryz.sizeOf292
 v57:=Tryz.zeroValue292
 t63:=Tryz.underlying330
 a63:=Tryz.isAgg330
 z63:=Tryz.sizeOf330
 v63:=Tryz.zeroValue330
 t64:=Tryz.underlying331
 a64:=Tryz.isAgg331
 z64:=Tryz.sizeOf331
 v64:=Tryz.zeroValue331}
def Tryz.clone64_ren:Go.Shelf.Ren:=⟨λ |5=>64|7=>102|n=>n,λ |23=>88|25=>9|3=>3|4=>4|20=>20|n=>n,λ|n=>n⟩
theorem Tryz.clone64:Go.Proofs.SlLaysW.n5 Tryz.prog Tryz.clone64_ren:={
 mixed:=by kernel_rfl
 f5:=⟨Tryz.f64.name,by decide,Tryz.func64.trans (congrArg some (by kernel_rfl))⟩
 f7:=Tryz.func102.trans (congrArg some (by kernel_rfl))
 t4:=Tryz.underlying4
 a4:=Tryz.isAgg4
 z4:=Tryz.sizeOf4
 v4:=Tryz.zeroValue4
 t20:=Tryz.underlying20
 a20:=Tryz.isAgg20
 z20:=Tryz.sizeOf20
 v20:=Tryz.zeroValue20
 t23:=Tryz.underlying88
 a23:=Tryz.isAgg88
 z23:=Tryz.sizeOf88
 v23:=Tryz.zeroValue88}
end Go.Proofs
