/- The library's contracts that the texts behind it lean on, laid at this program. No condition. -/
import Derived.Shelf.Strings.SlTrimAscii
import Derived.Shelf.Strings.Builder1
import Derived.Shelf.Strings.Builder2
import Derived.Shelf.Strings.OnBuilder
import Derived.Shelf.Strings.Trim
import Derived.Shelf.Small.Utf8
import Derived.Shelf.Small.Bits
import Derived.Shelf.Small.Strs
import Derived.Shelf.Small.Wraps
import Derived.Shelf.Strings.BuilderF
import Derived.Shelf.Utf8.RuneCount
import Derived.Shelf.Strconv.Atoi
import Derived.Shelf.Strconv.Itoa0
import Derived.Shelf.Strconv.Itoa1
import Derived.Shelf.LaysM
import Derived.Shelf.Strconv.Itoa2
import Derived.Shelf.Strconv.Itoa3
import Derived.Shelf.Strconv.AtoiErrFast
import Derived.Shelf.Strconv.ParseIntEmpty
import Derived.Shelf.Strconv.AtoiFail
import Derived.Shelf.Strconv.Clone
import Derived.Shelf.Strconv.SyntaxError
import Derived.Shelf.LaysC
import Derived.Shelf.Strconv.ToError
import Derived.Shelf.Strconv.AtoiErr
import Derived.Shelf.Strconv.ErrVar
import Derived.Shelf.Strconv.Lower
import Derived.Shelf.Strconv.ParseUint10
import Derived.Shelf.Strconv.ParseUint10Empty
import Derived.Shelf.Strconv.ParseUint10Any
import Derived.Shelf.Strconv.ParseInt10
import Derived.Shelf.Strconv.AtoiLong
import Derived.Shelf.Strconv.AtoiInnerAll
import Derived.Shelf.Strconv.RangeError
import Derived.Shelf.Strconv.ToErrorRange
import Derived.Shelf.Strconv.AtoiAll
import Derived.Shelf.Strconv.ErrVarAll
import Derived.Shelf.Strings.Search1
import Derived.Shelf.Strings.Search2
import Derived.Shelf.Strings.Search3
import Derived.Shelf.Strings.Cut
import Derived.Shelf.Strings.Count
import Derived.Shelf.Strings.Shaped
import Derived.Shelf.Sort.Plain
import Derived.Shelf.Strings.Prefix
import Derived.Shelf.Strings.Split
import Derived.Shelf.Strings.SplitShaped
import Derived.Shelf.Unicode.Decode
import Derived.Shelf.Strings.Runes
import Derived.Shelf.Strings.RuneCount
import Derived.Shelf.Strings.AsciiSet
import Derived.Shelf.Strings.Explode
import Derived.Shelf.Bits.Mul64
import Derived.Shelf.Strings.Repeat
import Derived.Shelf.Unicode.DecodeSlow
import Derived.Shelf.Unicode.DecodeAny
import Derived.Shelf.Unicode.DecodeLast
import Derived.Ground.Names2Prog
import Derived.Shelf.Slices.SearchI
import Derived.Shelf.Slices.In.SortNone
import Derived.Test.YtneejjefekdgjaaGreatDoorProg
namespace Go.Proofs
open Go.Shelf
def Tryz.lays169_ren:Go.Shelf.Ren:=⟨fun | 169=>171|n=>n,fun | 70=>243 | 9=>9 | 0=>0 | 72=>246 | 37=>244 | 127=>311 | 3=>3 | 5=>5|n=>n,fun|n=>n⟩
theorem Tryz.lays169:Go.Proofs.Lays.n169 Tryz.prog Tryz.lays169_ren:={
 mixed:=by kernel_rfl
 f169:=Tryz.func171.trans (congrArg some (by kernel_rfl))
 t0:=Tryz.underlying0
 a0:=Tryz.isAgg0
 z0:=Tryz.sizeOf0
 v0:=Tryz.zeroValue0
 t3:=Tryz.underlying3
 a3:=Tryz.isAgg3
 z3:=Tryz.sizeOf3
 v3:=Tryz.zeroValue3
 t9:=Tryz.underlying9
 a9:=Tryz.isAgg9
 z9:=Tryz.sizeOf9
 v9:=Tryz.zeroValue9
 t37:=Tryz.underlying244
 a37:=Tryz.isAgg244
 z37:=Tryz.sizeOf244
 v37:=Tryz.zeroValue244
 t70:=Tryz.underlying243
 a70:=Tryz.isAgg243
 z70:=Tryz.sizeOf243
 v70:=Tryz.zeroValue243
 t72:=Tryz.underlying246
 a72:=Tryz.isAgg246
 z72:=Tryz.sizeOf246
 v72:=Tryz.zeroValue246
 t127:=Tryz.underlying311
 a127:=Tryz.isAgg311
 z127:=Tryz.sizeOf311
 v127:=Tryz.zeroValue311 }
theorem Tryz.Builder_Extra_169:Builder.Extra Tryz.prog Tryz.lays169_ren:={
 sizeBuilder:=by kernel_rfl
 liesBuilder:=by kernel_rfl
 t5:=Tryz.underlying5
 a5:=Tryz.isAgg5
 z5:=Tryz.sizeOf5
 v5:=Tryz.zeroValue5
 infoByte:=by kernel_rfl
 cellsByte:=by kernel_rfl
 sizeByte:=by kernel_rfl
 neB5:=by decide }
def Tryz.lays156_ren:Go.Shelf.Ren:=⟨fun | 156=>127 | 165=>211 | 166=>168 | 169=>171 | 240=>238 | 241=>274 | 276=>295 | 277=>307|n=>n,fun | 31=>136 | 9=>9 | 3=>3 | 4=>4 | 0=>0 | 20=>20 | 72=>246 | 76=>29 | 70=>243 | 37=>244 | 75=>24 | 127=>311 | 164=>344 | 5=>5 | 80=>92|n=>n,fun|n=>n⟩
theorem Tryz.lays156:Go.Proofs.Lays.n156 Tryz.prog Tryz.lays156_ren:={
 mixed:=by kernel_rfl
 f156:=Tryz.func127.trans (congrArg some (by kernel_rfl))
 f165:=Tryz.func211.trans (congrArg some (by kernel_rfl))
 f166:=Tryz.func168.trans (congrArg some (by kernel_rfl))
 f169:=Tryz.func171.trans (congrArg some (by kernel_rfl))
 f240:=Tryz.func238.trans (congrArg some (by kernel_rfl))
 f241:=Tryz.func274.trans (congrArg some (by kernel_rfl))
 f276:=Tryz.func295.trans (congrArg some (by kernel_rfl))
 f277:=Tryz.func307.trans (congrArg some (by kernel_rfl))
 t0:=Tryz.underlying0
 a0:=Tryz.isAgg0
 z0:=Tryz.sizeOf0
 v0:=Tryz.zeroValue0
 t3:=Tryz.underlying3
 a3:=Tryz.isAgg3
 z3:=Tryz.sizeOf3
 v3:=Tryz.zeroValue3
 t4:=Tryz.underlying4
 a4:=Tryz.isAgg4
 z4:=Tryz.sizeOf4
 v4:=Tryz.zeroValue4
 t9:=Tryz.underlying9
 a9:=Tryz.isAgg9
 z9:=Tryz.sizeOf9
 v9:=Tryz.zeroValue9
 t20:=Tryz.underlying20
 a20:=Tryz.isAgg20
 z20:=Tryz.sizeOf20
 v20:=Tryz.zeroValue20
 t31:=Tryz.underlying136
 a31:=Tryz.isAgg136
 z31:=Tryz.sizeOf136
 v31:=Tryz.zeroValue136
 t37:=Tryz.underlying244
 a37:=Tryz.isAgg244
 z37:=Tryz.sizeOf244
 v37:=Tryz.zeroValue244
 t70:=Tryz.underlying243
 a70:=Tryz.isAgg243
 z70:=Tryz.sizeOf243
 v70:=Tryz.zeroValue243
 t72:=Tryz.underlying246
 a72:=Tryz.isAgg246
 z72:=Tryz.sizeOf246
 v72:=Tryz.zeroValue246
 t75:=Tryz.underlying24
 a75:=Tryz.isAgg24
 z75:=Tryz.sizeOf24
 v75:=Tryz.zeroValue24
 t76:=Tryz.underlying29
 a76:=Tryz.isAgg29
 z76:=Tryz.sizeOf29
 v76:=Tryz.zeroValue29
 t127:=Tryz.underlying311
 a127:=Tryz.isAgg311
 z127:=Tryz.sizeOf311
 v127:=Tryz.zeroValue311
 t164:=Tryz.underlying344
 a164:=Tryz.isAgg344
 z164:=Tryz.sizeOf344
 v164:=Tryz.zeroValue344 }
theorem Tryz.Builder_Extra_156:Builder.Extra Tryz.prog Tryz.lays156_ren:={
 sizeBuilder:=by kernel_rfl
 liesBuilder:=by kernel_rfl
 t5:=Tryz.underlying5
 a5:=Tryz.isAgg5
 z5:=Tryz.sizeOf5
 v5:=Tryz.zeroValue5
 infoByte:=by kernel_rfl
 cellsByte:=by kernel_rfl
 sizeByte:=by kernel_rfl
 neB5:=by decide }
open Go.RowKit in
theorem Tryz.strings_Join_none (a:Option Addr) (c:Nat) (sep:ByteArray) (w:World) :
  Calls Tryz.prog 127 #[.slice a 0 c,.string sep] w fun e w'=>e = .returned (.string ⟨#[]⟩)∧w'=w:=Any.strings_Join_none Tryz.lays156 Tryz.Builder_Extra_156 a c sep w
open Go.RowKit in
theorem Tryz.strings_Join (bk o c:Nat) (xs:List ByteArray) (sep:ByteArray) (w:World) (hcells:∀ (j:Nat) x,xs[j]? = some x→w.cell? ⟨bk,o+j,none⟩=some (.string x)) (hbk:bk<w.heap.size) (hN:xs.length≤140737488355328) (hcap:xs.length≤c) (hlen:(Lib.join (xs.map (·.data.toList)) sep.data.toList).length≤140737488355328) :
  Calls Tryz.prog 127 #[.slice (some ⟨bk,o,none⟩) xs.length c,.string sep] w fun e w'=>e = .returned (.string ⟨(Lib.join (xs.map (·.data.toList)) sep.data.toList).toArray⟩)∧Below w.heap.size w w':=Any.strings_Join Tryz.lays156 Tryz.Builder_Extra_156 bk o c xs sep w hcells hbk hN hcap hlen
def Tryz.lays103_ren:Go.Shelf.Ren:=⟨fun | 103=>260 | 210=>300 | 206=>218|n=>n,fun | 9=>9 | 4=>4 | 24=>68 | 3=>3|n=>n,fun|n=>n⟩
theorem Tryz.lays103:Go.Proofs.Lays.n103 Tryz.prog Tryz.lays103_ren:={
 mixed:=by kernel_rfl
 f103:=Tryz.func260.trans (congrArg some (by kernel_rfl))
 f206:=Tryz.func218.trans (congrArg some (by kernel_rfl))
 f210:=Tryz.func300.trans (congrArg some (by kernel_rfl))
 t3:=Tryz.underlying3
 a3:=Tryz.isAgg3
 z3:=Tryz.sizeOf3
 v3:=Tryz.zeroValue3
 t4:=Tryz.underlying4
 a4:=Tryz.isAgg4
 z4:=Tryz.sizeOf4
 v4:=Tryz.zeroValue4
 t9:=Tryz.underlying9
 a9:=Tryz.isAgg9
 z9:=Tryz.sizeOf9
 v9:=Tryz.zeroValue9
 t24:=Tryz.underlying68
 a24:=Tryz.isAgg68
 z24:=Tryz.sizeOf68
 v24:=Tryz.zeroValue68 }
open Go.RowKit in
theorem Tryz.strings_CutPrefix (s p:ByteArray) (w:World) :
  Calls Tryz.prog 260 #[.string s,.string p] w fun e w'=>e = .returned (.tuple #[.string ⟨(Lib.trimPrefix s.data.toList p.data.toList).toArray⟩,.bool (Lib.hasPrefix s.data.toList p.data.toList)])∧w'=w:=Any.strings_CutPrefix Tryz.lays103 s p w
def Tryz.laysM171_ren:Go.Shelf.Ren:=⟨fun | 171=>133 | 243=>219 | 246=>282 | 283=>312 | 284=>313 | 285=>314 | 286=>315 | 129=>200 | 317=>327 | 318=>328 | 319=>329 | 320=>330 | 337=>336 | 338=>337|n=>n,fun | 3=>3 | 9=>9 | 2=>2 | 4=>4 | 171=>375 | 0=>0 | 53=>262 | 37=>244 | 5=>5 | 173=>377 | 212=>399 | 51=>252 | 20=>20 | 213=>400 | 46=>202 | 232=>408 | 233=>409|n=>n,fun | 17=>4 | 18=>7 | 19=>8|n=>n⟩
theorem Tryz.laysM171:Go.Proofs.LaysM.n171 Tryz.prog Tryz.laysM171_ren:={
 mixed:=by kernel_rfl
 f129:=Tryz.func200.trans (congrArg some (by kernel_rfl))
 f171:=Tryz.func133.trans (congrArg some (by kernel_rfl))
 f243:=Tryz.func219.trans (congrArg some (by kernel_rfl))
 f246:=Tryz.func282.trans (congrArg some (by kernel_rfl))
 f283:=Tryz.func312.trans (congrArg some (by kernel_rfl))
 f284:=Tryz.func313.trans (congrArg some (by kernel_rfl))
 f285:=Tryz.func314.trans (congrArg some (by kernel_rfl))
 f286:=Tryz.func315.trans (congrArg some (by kernel_rfl))
 f317:=Tryz.func327.trans (congrArg some (by kernel_rfl))
 f318:=Tryz.func328.trans (congrArg some (by kernel_rfl))
 f319:=Tryz.func329.trans (congrArg some (by kernel_rfl))
 f320:=Tryz.func330.trans (congrArg some (by kernel_rfl))
 f337:=Tryz.func336.trans (congrArg some (by kernel_rfl))
 f338:=Tryz.func337.trans (congrArg some (by kernel_rfl))
 t0:=Tryz.underlying0
 a0:=Tryz.isAgg0
 z0:=Tryz.sizeOf0
 v0:=Tryz.zeroValue0
 t2:=Tryz.underlying2
 a2:=Tryz.isAgg2
 z2:=Tryz.sizeOf2
 v2:=Tryz.zeroValue2
 t3:=Tryz.underlying3
 a3:=Tryz.isAgg3
 z3:=Tryz.sizeOf3
 v3:=Tryz.zeroValue3
 t4:=Tryz.underlying4
 a4:=Tryz.isAgg4
 z4:=Tryz.sizeOf4
 v4:=Tryz.zeroValue4
 t5:=Tryz.underlying5
 a5:=Tryz.isAgg5
 z5:=Tryz.sizeOf5
 v5:=Tryz.zeroValue5
 t9:=Tryz.underlying9
 a9:=Tryz.isAgg9
 z9:=Tryz.sizeOf9
 v9:=Tryz.zeroValue9
 t20:=Tryz.underlying20
 a20:=Tryz.isAgg20
 z20:=Tryz.sizeOf20
 v20:=Tryz.zeroValue20
 t37:=Tryz.underlying244
 a37:=Tryz.isAgg244
 z37:=Tryz.sizeOf244
 v37:=Tryz.zeroValue244
 t46:=Tryz.underlying202
 a46:=Tryz.isAgg202
 z46:=Tryz.sizeOf202
 v46:=Tryz.zeroValue202
 t51:=Tryz.underlying252
 a51:=Tryz.isAgg252
 z51:=Tryz.sizeOf252
 v51:=Tryz.zeroValue252
 t53:=Tryz.underlying262
 a53:=Tryz.isAgg262
 z53:=Tryz.sizeOf262
 v53:=Tryz.zeroValue262
 t171:=Tryz.underlying375
 a171:=Tryz.isAgg375
 z171:=Tryz.sizeOf375
 v171:=Tryz.zeroValue375
 t173:=Tryz.underlying377
 a173:=Tryz.isAgg377
 z173:=Tryz.sizeOf377
 v173:=Tryz.zeroValue377
 t212:=Tryz.underlying399
 a212:=Tryz.isAgg399
 z212:=Tryz.sizeOf399
 v212:=Tryz.zeroValue399
 t213:=Tryz.underlying400
 a213:=Tryz.isAgg400
 z213:=Tryz.sizeOf400
 t232:=Tryz.underlying408
 a232:=Tryz.isAgg408
 z232:=Tryz.sizeOf408
 v232:=Tryz.zeroValue408
 t233:=Tryz.underlying409
 a233:=Tryz.isAgg409
 z233:=Tryz.sizeOf409
 v233:=Tryz.zeroValue409
 g17:=by kernel_rfl
 g18:=by kernel_rfl
 g19:=by kernel_rfl
 i0:=by kernel_rfl
 i2:=by kernel_rfl
 i3:=by kernel_rfl
 i4:=by kernel_rfl
 i5:=by kernel_rfl
 i9:=by kernel_rfl
 i20:=by kernel_rfl
 i37:=by kernel_rfl
 i46:=by kernel_rfl
 i51:=by kernel_rfl
 i53:=by kernel_rfl
 i171:=by kernel_rfl
 i173:=by kernel_rfl
 i212:=by kernel_rfl
 i232:=by kernel_rfl
 i233:=by kernel_rfl
 m17:=by kernel_rfl
 m18:=by kernel_rfl
 m19:=by kernel_rfl }
open Go.RowKit Go.Sort Go.Lib in
theorem Tryz.strconv_Itoa (n : Int) (h0 : -9223372036854775808 ≤ n) (h1 : n ≤ 9223372036854775807) (w : World) (htab : Lib.TabIs Tryz.prog w "internal/strconv.uint64pow10" .u64 Lib.pow10Tab) :
  Calls Tryz.prog 133 #[.int .i64 n] w fun e w'=>e = .returned (.string ⟨(Lib.itoa n).toArray⟩)∧∃ k os,w'=grow (w.drewN k) os:=Any.strconv_Itoa Tryz.laysM171 n h0 h1 w htab
def Tryz.laysC172_ren:Go.Shelf.Ren:=⟨fun | 172=>73 | 244=>130 | 245=>131 | 247=>213 | 279=>214 | 280=>215 | 281=>216 | 282=>217 | 287=>279 | 316=>280 | 171=>133 | 205=>281 | 321=>310 | 322=>311 | 243=>219 | 246=>282 | 283=>312 | 284=>313 | 285=>314 | 286=>315 | 129=>200 | 317=>327 | 318=>328 | 319=>329 | 320=>330 | 337=>336 | 338=>337|n=>n,fun | 9=>9 | 3=>3 | 75=>24 | 76=>29 | 4=>4 | 5=>5 | 167=>286 | 37=>244 | 0=>0 | 85=>287 | 2=>2 | 168=>289 | 53=>262 | 175=>333 | 46=>202 | 210=>336 | 127=>311 | 145=>374 | 143=>372 | 21=>21 | 171=>375 | 173=>377 | 212=>399 | 51=>252 | 20=>20 | 213=>400 | 232=>408 | 233=>409 | 80=>92|n=>n,fun | 15=>1 | 16=>2 | 17=>4 | 18=>7 | 19=>8|n=>n⟩
theorem Tryz.laysC172:Go.Proofs.LaysC.n172 Tryz.prog Tryz.laysC172_ren:={
 mixed:=by kernel_rfl
 f129:=Tryz.func200.trans (congrArg some (by kernel_rfl))
 f171:=Tryz.func133.trans (congrArg some (by kernel_rfl))
 f172:=Tryz.func73.trans (congrArg some (by kernel_rfl))
 f205:=Tryz.func281.trans (congrArg some (by kernel_rfl))
 f243:=Tryz.func219.trans (congrArg some (by kernel_rfl))
 f244:=Tryz.func130.trans (congrArg some (by kernel_rfl))
 f245:=Tryz.func131.trans (congrArg some (by kernel_rfl))
 f246:=Tryz.func282.trans (congrArg some (by kernel_rfl))
 f247:=Tryz.func213.trans (congrArg some (by kernel_rfl))
 f279:=Tryz.func214.trans (congrArg some (by kernel_rfl))
 f280:=Tryz.func215.trans (congrArg some (by kernel_rfl))
 f281:=Tryz.func216.trans (congrArg some (by kernel_rfl))
 f282:=Tryz.func217.trans (congrArg some (by kernel_rfl))
 f283:=Tryz.func312.trans (congrArg some (by kernel_rfl))
 f284:=Tryz.func313.trans (congrArg some (by kernel_rfl))
 f285:=Tryz.func314.trans (congrArg some (by kernel_rfl))
 f286:=Tryz.func315.trans (congrArg some (by kernel_rfl))
 f287:=Tryz.func279.trans (congrArg some (by kernel_rfl))
 f316:=Tryz.func280.trans (congrArg some (by kernel_rfl))
 f317:=Tryz.func327.trans (congrArg some (by kernel_rfl))
 f318:=Tryz.func328.trans (congrArg some (by kernel_rfl))
 f319:=Tryz.func329.trans (congrArg some (by kernel_rfl))
 f320:=Tryz.func330.trans (congrArg some (by kernel_rfl))
 f321:=Tryz.func310.trans (congrArg some (by kernel_rfl))
 f322:=Tryz.func311.trans (congrArg some (by kernel_rfl))
 f337:=Tryz.func336.trans (congrArg some (by kernel_rfl))
 f338:=Tryz.func337.trans (congrArg some (by kernel_rfl))
 t0:=Tryz.underlying0
 a0:=Tryz.isAgg0
 z0:=Tryz.sizeOf0
 v0:=Tryz.zeroValue0
 t2:=Tryz.underlying2
 a2:=Tryz.isAgg2
 z2:=Tryz.sizeOf2
 v2:=Tryz.zeroValue2
 t3:=Tryz.underlying3
 a3:=Tryz.isAgg3
 z3:=Tryz.sizeOf3
 v3:=Tryz.zeroValue3
 t4:=Tryz.underlying4
 a4:=Tryz.isAgg4
 z4:=Tryz.sizeOf4
 v4:=Tryz.zeroValue4
 t5:=Tryz.underlying5
 a5:=Tryz.isAgg5
 z5:=Tryz.sizeOf5
 v5:=Tryz.zeroValue5
 t9:=Tryz.underlying9
 a9:=Tryz.isAgg9
 z9:=Tryz.sizeOf9
 v9:=Tryz.zeroValue9
 t20:=Tryz.underlying20
 a20:=Tryz.isAgg20
 z20:=Tryz.sizeOf20
 v20:=Tryz.zeroValue20
 t21:=Tryz.underlying21
 a21:=Tryz.isAgg21
 z21:=Tryz.sizeOf21
 v21:=Tryz.zeroValue21
 t37:=Tryz.underlying244
 a37:=Tryz.isAgg244
 z37:=Tryz.sizeOf244
 v37:=Tryz.zeroValue244
 t46:=Tryz.underlying202
 a46:=Tryz.isAgg202
 z46:=Tryz.sizeOf202
 v46:=Tryz.zeroValue202
 t51:=Tryz.underlying252
 a51:=Tryz.isAgg252
 z51:=Tryz.sizeOf252
 v51:=Tryz.zeroValue252
 t53:=Tryz.underlying262
 a53:=Tryz.isAgg262
 z53:=Tryz.sizeOf262
 v53:=Tryz.zeroValue262
 t75:=Tryz.underlying24
 a75:=Tryz.isAgg24
 z75:=Tryz.sizeOf24
 v75:=Tryz.zeroValue24
 t76:=Tryz.underlying29
 a76:=Tryz.isAgg29
 z76:=Tryz.sizeOf29
 v76:=Tryz.zeroValue29
 t85:=Tryz.underlying287
 a85:=Tryz.isAgg287
 z85:=Tryz.sizeOf287
 v85:=Tryz.zeroValue287
 t127:=Tryz.underlying311
 a127:=Tryz.isAgg311
 z127:=Tryz.sizeOf311
 v127:=Tryz.zeroValue311
 t143:=Tryz.underlying372
 a143:=Tryz.isAgg372
 z143:=Tryz.sizeOf372
 v143:=Tryz.zeroValue372
 t145:=Tryz.underlying374
 a145:=Tryz.isAgg374
 z145:=Tryz.sizeOf374
 v145:=Tryz.zeroValue374
 t167:=Tryz.underlying286
 a167:=Tryz.isAgg286
 z167:=Tryz.sizeOf286
 v167:=Tryz.zeroValue286
 t168:=Tryz.underlying289
 a168:=Tryz.isAgg289
 z168:=Tryz.sizeOf289
 v168:=Tryz.zeroValue289
 t171:=Tryz.underlying375
 a171:=Tryz.isAgg375
 z171:=Tryz.sizeOf375
 v171:=Tryz.zeroValue375
 t173:=Tryz.underlying377
 a173:=Tryz.isAgg377
 z173:=Tryz.sizeOf377
 v173:=Tryz.zeroValue377
 t175:=Tryz.underlying333
 a175:=Tryz.isAgg333
 z175:=Tryz.sizeOf333
 v175:=Tryz.zeroValue333
 t210:=Tryz.underlying336
 a210:=Tryz.isAgg336
 z210:=Tryz.sizeOf336
 v210:=Tryz.zeroValue336
 t212:=Tryz.underlying399
 a212:=Tryz.isAgg399
 z212:=Tryz.sizeOf399
 v212:=Tryz.zeroValue399
 t213:=Tryz.underlying400
 a213:=Tryz.isAgg400
 z213:=Tryz.sizeOf400
 t232:=Tryz.underlying408
 a232:=Tryz.isAgg408
 z232:=Tryz.sizeOf408
 v232:=Tryz.zeroValue408
 t233:=Tryz.underlying409
 a233:=Tryz.isAgg409
 z233:=Tryz.sizeOf409
 v233:=Tryz.zeroValue409
 g15:=by kernel_rfl
 g16:=by kernel_rfl
 g17:=by kernel_rfl
 g18:=by kernel_rfl
 g19:=by kernel_rfl
 t80:=Tryz.underlying92
 a80:=Tryz.isAgg92
 z80:=Tryz.sizeOf92
 v80:=Tryz.zeroValue92
 i0:=by kernel_rfl
 i2:=by kernel_rfl
 i3:=by kernel_rfl
 i4:=by kernel_rfl
 i5:=by kernel_rfl
 i9:=by kernel_rfl
 i20:=by kernel_rfl
 i21:=by kernel_rfl
 i37:=by kernel_rfl
 i46:=by kernel_rfl
 i51:=by kernel_rfl
 i53:=by kernel_rfl
 i75:=by kernel_rfl
 i76:=by kernel_rfl
 i80:=by kernel_rfl
 i85:=by kernel_rfl
 i127:=by kernel_rfl
 i143:=by kernel_rfl
 i145:=by kernel_rfl
 i167:=by kernel_rfl
 i168:=by kernel_rfl
 i171:=by kernel_rfl
 i173:=by kernel_rfl
 i175:=by kernel_rfl
 i210:=by kernel_rfl
 i212:=by kernel_rfl
 i232:=by kernel_rfl
 i233:=by kernel_rfl
 m15:=by kernel_rfl
 m16:=by kernel_rfl
 m17:=by kernel_rfl
 m18:=by kernel_rfl
 m19:=by kernel_rfl
 c0:=by kernel_rfl
 c2:=by kernel_rfl
 c3:=by kernel_rfl
 c4:=by kernel_rfl
 c5:=by kernel_rfl
 c9:=by kernel_rfl
 c20:=by kernel_rfl
 c21:=by kernel_rfl
 c37:=by kernel_rfl
 c46:=by kernel_rfl
 c51:=by kernel_rfl
 c53:=by kernel_rfl
 c75:=by kernel_rfl
 c76:=by kernel_rfl
 c80:=by kernel_rfl
 c85:=by kernel_rfl
 c127:=by kernel_rfl
 c143:=by kernel_rfl
 c145:=by kernel_rfl
 c167:=by kernel_rfl
 c168:=by kernel_rfl
 c171:=by kernel_rfl
 c173:=by kernel_rfl
 c175:=by kernel_rfl
 c210:=by kernel_rfl
 c212:=by kernel_rfl
 c213:=by kernel_rfl
 c232:=by kernel_rfl
 c233:=by kernel_rfl }
open Go.RowKit in
theorem Tryz.strconv_Atoi_ok (s:ByteArray) (hmax:s.size≤9223372036854775806) (v:Int) (h:Lib.atoiAll s.data.toList = .ok v) (w:World) :
  Calls Tryz.prog 73 #[.string s] w fun e w'=>e = .returned (.tuple #[.int .i64 v,.nilIface])∧(w'=w∨∃ t,w'=Lib.bytesWorld w 5 t):=Any.strconv_Atoi_ok Tryz.laysC172 s hmax v h w
open Go.RowKit in
theorem Tryz.strconv_Atoi_range_var (s : ByteArray) (hlim : s.size ≤ 281474976710656) (h : Lib.atoiAll s.data.toList = .range) (tp : TypeId) (p : Value) (w : World) (hvar : w.var? Tryz.prog "strconv.ErrRange" = some #[.iface tp p]) :
  Calls Tryz.prog 73 #[.string s] w fun e w'=>∃ N,e = .returned (.tuple #[.int .i64 (Lib.atoiSat s.data.toList),.iface 289 (.pointer (some ⟨N,0,none⟩))])∧w.heap.size≤N∧w'.heap[N]? = some (.cells #[.string ⟨#[65,116,111,105]⟩,.string s,.iface tp p] 336 (0,0))∧Below w.heap.size w w':=Any.strconv_Atoi_range_var Tryz.laysC172 s hlim h tp p w hvar
def Tryz.laysM144_ren:Go.Shelf.Ren:=⟨fun | 144=>165 | 143=>236 | 219=>212 | 217=>275 | 225=>276 | 224=>277 | 267=>278 | 266=>308 | 314=>309|n=>n,fun | 9=>9 | 4=>4 | 3=>3 | 5=>5 | 46=>202 | 146=>369 | 51=>252|n=>n,fun | 1=>0|n=>n⟩
theorem Tryz.laysM144:Go.Proofs.LaysM.n144 Tryz.prog Tryz.laysM144_ren:={
 mixed:=by kernel_rfl
 f143:=Tryz.func236.trans (congrArg some (by kernel_rfl))
 f144:=Tryz.func165.trans (congrArg some (by kernel_rfl))
 f217:=Tryz.func275.trans (congrArg some (by kernel_rfl))
 f219:=Tryz.func212.trans (congrArg some (by kernel_rfl))
 f224:=Tryz.func277.trans (congrArg some (by kernel_rfl))
 f225:=Tryz.func276.trans (congrArg some (by kernel_rfl))
 f266:=Tryz.func308.trans (congrArg some (by kernel_rfl))
 f267:=Tryz.func278.trans (congrArg some (by kernel_rfl))
 f314:=Tryz.func309.trans (congrArg some (by kernel_rfl))
 t3:=Tryz.underlying3
 a3:=Tryz.isAgg3
 z3:=Tryz.sizeOf3
 v3:=Tryz.zeroValue3
 t4:=Tryz.underlying4
 a4:=Tryz.isAgg4
 z4:=Tryz.sizeOf4
 v4:=Tryz.zeroValue4
 t5:=Tryz.underlying5
 a5:=Tryz.isAgg5
 z5:=Tryz.sizeOf5
 v5:=Tryz.zeroValue5
 t9:=Tryz.underlying9
 a9:=Tryz.isAgg9
 z9:=Tryz.sizeOf9
 v9:=Tryz.zeroValue9
 t46:=Tryz.underlying202
 a46:=Tryz.isAgg202
 z46:=Tryz.sizeOf202
 v46:=Tryz.zeroValue202
 t51:=Tryz.underlying252
 a51:=Tryz.isAgg252
 z51:=Tryz.sizeOf252
 v51:=Tryz.zeroValue252
 t146:=Tryz.underlying369
 a146:=Tryz.isAgg369
 z146:=Tryz.sizeOf369
 v146:=Tryz.zeroValue369
 g1:=by kernel_rfl
 i3:=by kernel_rfl
 i4:=by kernel_rfl
 i5:=by kernel_rfl
 i9:=by kernel_rfl
 i46:=by kernel_rfl
 i51:=by kernel_rfl
 i146:=by kernel_rfl
 m1:=by kernel_rfl
 s1_3:=fun w h=>Go.Proofs.cell_of_shapedOpen_int (zero:= #[.int .i64 0]) (t:=3) h (of_decide_eq_true (by kernel_rfl)) (by kernel_rfl) rfl (by kernel_rfl) (by kernel_rfl) Tryz.underlying3 }
open Go.RowKit Go.Lib in
theorem Tryz.strings_Contains_shaped (s sub:ByteArray) (w:World) (h:w.ShapedOpen Tryz.prog) (hs:s.size<4294967281) :
  Calls Tryz.prog 165 #[.string s,.string sub] w fun e w'=>e = .returned (.bool (Lib.contains s.data.toList sub.data.toList))∧w'=w:=Any.strings_Contains_shaped Tryz.laysM144 s sub w h hs
def Tryz.laysM145_ren:Go.Shelf.Ren:=⟨fun | 145=>72 | 220=>129 | 219=>212 | 217=>275 | 225=>276 | 224=>277 | 267=>278 | 266=>308 | 314=>309|n=>n,fun | 9=>9 | 4=>4 | 59=>157 | 3=>3 | 5=>5 | 46=>202 | 146=>369 | 51=>252|n=>n,fun | 1=>0|n=>n⟩
theorem Tryz.laysM145:Go.Proofs.LaysM.n145 Tryz.prog Tryz.laysM145_ren:={
 mixed:=by kernel_rfl
 f145:=Tryz.func72.trans (congrArg some (by kernel_rfl))
 f217:=Tryz.func275.trans (congrArg some (by kernel_rfl))
 f219:=Tryz.func212.trans (congrArg some (by kernel_rfl))
 f220:=Tryz.func129.trans (congrArg some (by kernel_rfl))
 f224:=Tryz.func277.trans (congrArg some (by kernel_rfl))
 f225:=Tryz.func276.trans (congrArg some (by kernel_rfl))
 f266:=Tryz.func308.trans (congrArg some (by kernel_rfl))
 f267:=Tryz.func278.trans (congrArg some (by kernel_rfl))
 f314:=Tryz.func309.trans (congrArg some (by kernel_rfl))
 t3:=Tryz.underlying3
 a3:=Tryz.isAgg3
 z3:=Tryz.sizeOf3
 v3:=Tryz.zeroValue3
 t4:=Tryz.underlying4
 a4:=Tryz.isAgg4
 z4:=Tryz.sizeOf4
 v4:=Tryz.zeroValue4
 t5:=Tryz.underlying5
 a5:=Tryz.isAgg5
 z5:=Tryz.sizeOf5
 v5:=Tryz.zeroValue5
 t9:=Tryz.underlying9
 a9:=Tryz.isAgg9
 z9:=Tryz.sizeOf9
 v9:=Tryz.zeroValue9
 t46:=Tryz.underlying202
 a46:=Tryz.isAgg202
 z46:=Tryz.sizeOf202
 v46:=Tryz.zeroValue202
 t51:=Tryz.underlying252
 a51:=Tryz.isAgg252
 z51:=Tryz.sizeOf252
 v51:=Tryz.zeroValue252
 t59:=Tryz.underlying157
 a59:=Tryz.isAgg157
 z59:=Tryz.sizeOf157
 v59:=Tryz.zeroValue157
 t146:=Tryz.underlying369
 a146:=Tryz.isAgg369
 z146:=Tryz.sizeOf369
 v146:=Tryz.zeroValue369
 g1:=by kernel_rfl
 i3:=by kernel_rfl
 i4:=by kernel_rfl
 i5:=by kernel_rfl
 i9:=by kernel_rfl
 i46:=by kernel_rfl
 i51:=by kernel_rfl
 i59:=by kernel_rfl
 i146:=by kernel_rfl
 m1:=by kernel_rfl
 s1_3:=fun w h=>Go.Proofs.cell_of_shapedOpen_int (zero:= #[.int .i64 0]) (t:=3) h (of_decide_eq_true (by kernel_rfl)) (by kernel_rfl) rfl (by kernel_rfl) (by kernel_rfl) Tryz.underlying3 }
open Go.RowKit Go.Lib in
theorem Tryz.strings_Cut_shaped (s sep:ByteArray) (w:World) (h:w.ShapedOpen Tryz.prog) (hs:s.size<4294967281) :
  Calls Tryz.prog 72 #[.string s,.string sep] w fun e w'=>e = .returned (.tuple #[.string ⟨(Lib.cut s.data.toList sep.data.toList).1.toArray⟩,.string ⟨(Lib.cut s.data.toList sep.data.toList).2.1.toArray⟩,.bool (Lib.cut s.data.toList sep.data.toList).2.2])∧∃ n,w'=w.drewN n:=Any.strings_Cut_shaped Tryz.laysM145 s sep w h hs
def Tryz.lays189_ren:Go.Shelf.Ren:=⟨fun | 189=>61 | 125=>116 | 257=>115 | 128=>199 | 129=>200 | 294=>190 | 295=>191 | 296=>192 | 297=>193 | 298=>194 | 299=>195 | 216=>196 | 300=>197 | 301=>198 | 328=>254 | 329=>255 | 330=>256 | 331=>257 | 332=>258 | 215=>259 | 343=>299|n=>n,fun | 28=>32 | 3=>3 | 46=>202 | 0=>0 | 51=>252 | 53=>262 | 4=>4 | 183=>265 | 182=>264 | 131=>226 | 5=>5 | 9=>9 | 218=>315 | 222=>319 | 228=>361 | 229=>94|n=>n,fun|n=>n⟩
theorem Tryz.lays189:Go.Proofs.Lays.n189 Tryz.prog Tryz.lays189_ren:={
 mixed:=by kernel_rfl
 f125:=Tryz.func116.trans (congrArg some (by kernel_rfl))
 f128:=Tryz.func199.trans (congrArg some (by kernel_rfl))
 f129:=Tryz.func200.trans (congrArg some (by kernel_rfl))
 f189:=Tryz.func61.trans (congrArg some (by kernel_rfl))
 f215:=Tryz.func259.trans (congrArg some (by kernel_rfl))
 f216:=Tryz.func196.trans (congrArg some (by kernel_rfl))
 f257:=Tryz.func115.trans (congrArg some (by kernel_rfl))
 f294:=Tryz.func190.trans (congrArg some (by kernel_rfl))
 f295:=Tryz.func191.trans (congrArg some (by kernel_rfl))
 f296:=Tryz.func192.trans (congrArg some (by kernel_rfl))
 f297:=Tryz.func193.trans (congrArg some (by kernel_rfl))
 f298:=Tryz.func194.trans (congrArg some (by kernel_rfl))
 f299:=Tryz.func195.trans (congrArg some (by kernel_rfl))
 f300:=Tryz.func197.trans (congrArg some (by kernel_rfl))
 f301:=Tryz.func198.trans (congrArg some (by kernel_rfl))
 f328:=Tryz.func254.trans (congrArg some (by kernel_rfl))
 f329:=Tryz.func255.trans (congrArg some (by kernel_rfl))
 f330:=Tryz.func256.trans (congrArg some (by kernel_rfl))
 f331:=Tryz.func257.trans (congrArg some (by kernel_rfl))
 f332:=Tryz.func258.trans (congrArg some (by kernel_rfl))
 f343:=Tryz.func299.trans (congrArg some (by kernel_rfl))
 t0:=Tryz.underlying0
 a0:=Tryz.isAgg0
 z0:=Tryz.sizeOf0
 v0:=Tryz.zeroValue0
 t3:=Tryz.underlying3
 a3:=Tryz.isAgg3
 z3:=Tryz.sizeOf3
 v3:=Tryz.zeroValue3
 t4:=Tryz.underlying4
 a4:=Tryz.isAgg4
 z4:=Tryz.sizeOf4
 v4:=Tryz.zeroValue4
 t5:=Tryz.underlying5
 a5:=Tryz.isAgg5
 z5:=Tryz.sizeOf5
 v5:=Tryz.zeroValue5
 t9:=Tryz.underlying9
 a9:=Tryz.isAgg9
 z9:=Tryz.sizeOf9
 v9:=Tryz.zeroValue9
 t28:=Tryz.underlying32
 a28:=Tryz.isAgg32
 z28:=Tryz.sizeOf32
 v28:=Tryz.zeroValue32
 t46:=Tryz.underlying202
 a46:=Tryz.isAgg202
 z46:=Tryz.sizeOf202
 v46:=Tryz.zeroValue202
 t51:=Tryz.underlying252
 a51:=Tryz.isAgg252
 z51:=Tryz.sizeOf252
 v51:=Tryz.zeroValue252
 t53:=Tryz.underlying262
 a53:=Tryz.isAgg262
 z53:=Tryz.sizeOf262
 v53:=Tryz.zeroValue262
 t131:=Tryz.underlying226
 a131:=Tryz.isAgg226
 z131:=Tryz.sizeOf226
 v131:=Tryz.zeroValue226
 t182:=Tryz.underlying264
 a182:=Tryz.isAgg264
 z182:=Tryz.sizeOf264
 v182:=Tryz.zeroValue264
 t183:=Tryz.underlying265
 a183:=Tryz.isAgg265
 z183:=Tryz.sizeOf265
 v183:=Tryz.zeroValue265
 t218:=Tryz.underlying315
 a218:=Tryz.isAgg315
 z218:=Tryz.sizeOf315
 v218:=Tryz.zeroValue315
 t222:=Tryz.underlying319
 a222:=Tryz.isAgg319
 z222:=Tryz.sizeOf319
 v222:=Tryz.zeroValue319
 t228:=Tryz.underlying361
 a228:=Tryz.isAgg361
 z228:=Tryz.sizeOf361
 v228:=Tryz.zeroValue361
 t229:=Tryz.underlying94
 a229:=Tryz.isAgg94
 z229:=Tryz.sizeOf94
 v229:=Tryz.zeroValue94 }
open Go.Sort Go.RowKit in
theorem Tryz.slices_Sort_int (blk off cap:Nat) (zs:List Int) (w:World) (hH:Holds (Value.int .i64) w blk off zs.toArray) (hblk:blk<w.heap.size) (hsz:zs.length<4611686018427387904) :
  Calls Tryz.prog 61 #[.slice (some ⟨blk,off,none⟩) zs.length cap] w fun e w'=>
   e = .returned (.tuple #[])∧∃ n os,w'=grow (putRow (Value.int .i64) (Sort.ahead w n) blk off (zs.mergeSort fun x y=>decide (x≤y)).toArray) os:=Any.slices_Sort_int Tryz.lays189 blk off cap zs w hH hblk hsz
def Tryz.lays99_ren:Go.Shelf.Ren:=⟨fun | 99=>164 | 206=>218|n=>n,fun | 9=>9 | 4=>4 | 3=>3|n=>n,fun|n=>n⟩
theorem Tryz.lays99:Go.Proofs.Lays.n99 Tryz.prog Tryz.lays99_ren:={
 mixed:=by kernel_rfl
 f99:=Tryz.func164.trans (congrArg some (by kernel_rfl))
 f206:=Tryz.func218.trans (congrArg some (by kernel_rfl))
 t3:=Tryz.underlying3
 a3:=Tryz.isAgg3
 z3:=Tryz.sizeOf3
 v3:=Tryz.zeroValue3
 t4:=Tryz.underlying4
 a4:=Tryz.isAgg4
 z4:=Tryz.sizeOf4
 v4:=Tryz.zeroValue4
 t9:=Tryz.underlying9
 a9:=Tryz.isAgg9
 z9:=Tryz.sizeOf9
 v9:=Tryz.zeroValue9 }
open Go.RowKit Go.Lib in
theorem Tryz.strings_HasPrefix (s p:ByteArray) (w:World) :
  Calls Tryz.prog 164 #[.string s,.string p] w fun e w'=>e = .returned (.bool (Lib.hasPrefix s.data.toList p.data.toList))∧w'=w:=Any.strings_HasPrefix Tryz.lays99 s p w
def Tryz.lays100_ren:Go.Shelf.Ren:=⟨fun | 100=>240 | 207=>296|n=>n,fun | 9=>9 | 4=>4 | 3=>3|n=>n,fun|n=>n⟩
theorem Tryz.lays100:Go.Proofs.Lays.n100 Tryz.prog Tryz.lays100_ren:={
 mixed:=by kernel_rfl
 f100:=Tryz.func240.trans (congrArg some (by kernel_rfl))
 f207:=Tryz.func296.trans (congrArg some (by kernel_rfl))
 t3:=Tryz.underlying3
 a3:=Tryz.isAgg3
 z3:=Tryz.sizeOf3
 v3:=Tryz.zeroValue3
 t4:=Tryz.underlying4
 a4:=Tryz.isAgg4
 z4:=Tryz.sizeOf4
 v4:=Tryz.zeroValue4
 t9:=Tryz.underlying9
 a9:=Tryz.isAgg9
 z9:=Tryz.sizeOf9
 v9:=Tryz.zeroValue9 }
open Go.RowKit Go.Lib in
theorem Tryz.strings_HasSuffix (s p:ByteArray) (w:World) (hs:s.size≤9223372036854775807) :
  Calls Tryz.prog 240 #[.string s,.string p] w fun e w'=>e = .returned (.bool (Lib.hasSuffix s.data.toList p.data.toList))∧w'=w:=Any.strings_HasSuffix Tryz.lays100 s p w hs
def Tryz.lays101_ren:Go.Shelf.Ren:=⟨fun | 101=>74 | 208=>132 | 206=>218|n=>n,fun | 9=>9 | 4=>4 | 3=>3|n=>n,fun|n=>n⟩
theorem Tryz.lays101:Go.Proofs.Lays.n101 Tryz.prog Tryz.lays101_ren:={
 mixed:=by kernel_rfl
 f101:=Tryz.func74.trans (congrArg some (by kernel_rfl))
 f206:=Tryz.func218.trans (congrArg some (by kernel_rfl))
 f208:=Tryz.func132.trans (congrArg some (by kernel_rfl))
 t3:=Tryz.underlying3
 a3:=Tryz.isAgg3
 z3:=Tryz.sizeOf3
 v3:=Tryz.zeroValue3
 t4:=Tryz.underlying4
 a4:=Tryz.isAgg4
 z4:=Tryz.sizeOf4
 v4:=Tryz.zeroValue4
 t9:=Tryz.underlying9
 a9:=Tryz.isAgg9
 z9:=Tryz.sizeOf9
 v9:=Tryz.zeroValue9 }
open Go.RowKit Go.Lib in
theorem Tryz.strings_TrimPrefix (s p:ByteArray) (w:World) :
  Calls Tryz.prog 74 #[.string s,.string p] w fun e w'=>e = .returned (.string ⟨(Lib.trimPrefix s.data.toList p.data.toList).toArray⟩)∧w'=w:=Any.strings_TrimPrefix Tryz.lays101 s p w
def Tryz.laysM146_ren:Go.Shelf.Ren:=⟨fun | 146=>285 | 221=>316 | 268=>331 | 138=>332 | 143=>236 | 195=>338 | 197=>304 | 218=>339 | 219=>212 | 260=>324 | 217=>275 | 225=>276 | 224=>277 | 267=>278 | 266=>308 | 314=>309|n=>n,fun | 9=>9 | 31=>136 | 3=>3 | 4=>4 | 0=>0 | 105=>365 | 21=>21 | 5=>5 | 46=>202 | 119=>403 | 139=>406 | 138=>405 | 146=>369 | 51=>252|n=>n,fun | 1=>0 | 3=>5 | 4=>6|n=>n⟩
theorem Tryz.laysM146:Go.Proofs.LaysM.n146 Tryz.prog Tryz.laysM146_ren:={
 mixed:=by kernel_rfl
 f138:=Tryz.func332.trans (congrArg some (by kernel_rfl))
 f143:=Tryz.func236.trans (congrArg some (by kernel_rfl))
 f146:=Tryz.func285.trans (congrArg some (by kernel_rfl))
 f195:=Tryz.func338.trans (congrArg some (by kernel_rfl))
 f197:=Tryz.func304.trans (congrArg some (by kernel_rfl))
 f217:=Tryz.func275.trans (congrArg some (by kernel_rfl))
 f218:=Tryz.func339.trans (congrArg some (by kernel_rfl))
 f219:=Tryz.func212.trans (congrArg some (by kernel_rfl))
 f221:=Tryz.func316.trans (congrArg some (by kernel_rfl))
 f224:=Tryz.func277.trans (congrArg some (by kernel_rfl))
 f225:=Tryz.func276.trans (congrArg some (by kernel_rfl))
 f260:=Tryz.func324.trans (congrArg some (by kernel_rfl))
 f266:=Tryz.func308.trans (congrArg some (by kernel_rfl))
 f267:=Tryz.func278.trans (congrArg some (by kernel_rfl))
 f268:=Tryz.func331.trans (congrArg some (by kernel_rfl))
 f314:=Tryz.func309.trans (congrArg some (by kernel_rfl))
 t0:=Tryz.underlying0
 a0:=Tryz.isAgg0
 z0:=Tryz.sizeOf0
 v0:=Tryz.zeroValue0
 t3:=Tryz.underlying3
 a3:=Tryz.isAgg3
 z3:=Tryz.sizeOf3
 v3:=Tryz.zeroValue3
 t4:=Tryz.underlying4
 a4:=Tryz.isAgg4
 z4:=Tryz.sizeOf4
 v4:=Tryz.zeroValue4
 t5:=Tryz.underlying5
 a5:=Tryz.isAgg5
 z5:=Tryz.sizeOf5
 v5:=Tryz.zeroValue5
 t9:=Tryz.underlying9
 a9:=Tryz.isAgg9
 z9:=Tryz.sizeOf9
 v9:=Tryz.zeroValue9
 t21:=Tryz.underlying21
 a21:=Tryz.isAgg21
 z21:=Tryz.sizeOf21
 v21:=Tryz.zeroValue21
 t31:=Tryz.underlying136
 a31:=Tryz.isAgg136
 z31:=Tryz.sizeOf136
 v31:=Tryz.zeroValue136
 t46:=Tryz.underlying202
 a46:=Tryz.isAgg202
 z46:=Tryz.sizeOf202
 v46:=Tryz.zeroValue202
 t51:=Tryz.underlying252
 a51:=Tryz.isAgg252
 z51:=Tryz.sizeOf252
 v51:=Tryz.zeroValue252
 t105:=Tryz.underlying365
 a105:=Tryz.isAgg365
 z105:=Tryz.sizeOf365
 v105:=Tryz.zeroValue365
 t119:=Tryz.underlying403
 a119:=Tryz.isAgg403
 z119:=Tryz.sizeOf403
 t138:=Tryz.underlying405
 a138:=Tryz.isAgg405
 z138:=Tryz.sizeOf405
 v138:=Tryz.zeroValue405
 t139:=Tryz.underlying406
 a139:=Tryz.isAgg406
 z139:=Tryz.sizeOf406
 v139:=Tryz.zeroValue406
 t146:=Tryz.underlying369
 a146:=Tryz.isAgg369
 z146:=Tryz.sizeOf369
 v146:=Tryz.zeroValue369
 g1:=by kernel_rfl
 g3:=by kernel_rfl
 g4:=by kernel_rfl
 i0:=by kernel_rfl
 i3:=by kernel_rfl
 i4:=by kernel_rfl
 i5:=by kernel_rfl
 i9:=by kernel_rfl
 i21:=by kernel_rfl
 i31:=by kernel_rfl
 i46:=by kernel_rfl
 i51:=by kernel_rfl
 i105:=by kernel_rfl
 i138:=by kernel_rfl
 i139:=by kernel_rfl
 i146:=by kernel_rfl
 m1:=by kernel_rfl
 s1_3:=fun w h=>Go.Proofs.cell_of_shapedOpen_int (zero:= #[.int .i64 0]) (t:=3) h (of_decide_eq_true (by kernel_rfl)) (by kernel_rfl) rfl (by kernel_rfl) (by kernel_rfl) Tryz.underlying3
 m3:=by kernel_rfl
 m4:=by kernel_rfl }
open Go.RowKit Go.Lib in
theorem Tryz.strings_Split_shaped (s sep:ByteArray) (w:World) (h:w.ShapedOpen Tryz.prog) (hs:s.size<4294967281) (h1:1≤sep.size) :
  Calls Tryz.prog 285 #[.string s,.string sep] w fun e w'=>
   e = .returned (.slice (some ⟨w.heap.size,0,none⟩) (Lib.countB s sep+1) (Lib.countB s sep+1))∧w'=w.alloc (.cells ((Lib.splitB sep 0 (Lib.countB s sep) s).map Value.string).toArray 9):=Any.strings_Split_shaped Tryz.laysM146 s sep w h hs h1
def Tryz.lays105_ren:Go.Shelf.Ren:=⟨fun | 105=>263 | 212=>301 | 99=>164 | 165=>211 | 166=>168 | 170=>302 | 169=>171 | 263=>322 | 264=>323 | 206=>218 | 240=>238 | 241=>274 | 276=>295 | 277=>307|n=>n,fun | 9=>9 | 3=>3 | 4=>4 | 20=>20 | 0=>0 | 46=>202 | 109=>363 | 5=>5 | 72=>246 | 76=>29 | 51=>252 | 146=>369 | 53=>262 | 148=>395 | 70=>243 | 37=>244 | 75=>24 | 127=>311 | 164=>344 | 80=>92|n=>n,fun|n=>n⟩
theorem Tryz.lays105:Go.Proofs.Lays.n105 Tryz.prog Tryz.lays105_ren:={
 mixed:=by kernel_rfl
 f99:=Tryz.func164.trans (congrArg some (by kernel_rfl))
 f105:=Tryz.func263.trans (congrArg some (by kernel_rfl))
 f165:=Tryz.func211.trans (congrArg some (by kernel_rfl))
 f166:=Tryz.func168.trans (congrArg some (by kernel_rfl))
 f169:=Tryz.func171.trans (congrArg some (by kernel_rfl))
 f170:=Tryz.func302.trans (congrArg some (by kernel_rfl))
 f206:=Tryz.func218.trans (congrArg some (by kernel_rfl))
 f212:=Tryz.func301.trans (congrArg some (by kernel_rfl))
 f240:=Tryz.func238.trans (congrArg some (by kernel_rfl))
 f241:=Tryz.func274.trans (congrArg some (by kernel_rfl))
 f263:=Tryz.func322.trans (congrArg some (by kernel_rfl))
 f264:=Tryz.func323.trans (congrArg some (by kernel_rfl))
 f276:=Tryz.func295.trans (congrArg some (by kernel_rfl))
 f277:=Tryz.func307.trans (congrArg some (by kernel_rfl))
 t0:=Tryz.underlying0
 a0:=Tryz.isAgg0
 z0:=Tryz.sizeOf0
 v0:=Tryz.zeroValue0
 t3:=Tryz.underlying3
 a3:=Tryz.isAgg3
 z3:=Tryz.sizeOf3
 v3:=Tryz.zeroValue3
 t4:=Tryz.underlying4
 a4:=Tryz.isAgg4
 z4:=Tryz.sizeOf4
 v4:=Tryz.zeroValue4
 t5:=Tryz.underlying5
 a5:=Tryz.isAgg5
 z5:=Tryz.sizeOf5
 v5:=Tryz.zeroValue5
 t9:=Tryz.underlying9
 a9:=Tryz.isAgg9
 z9:=Tryz.sizeOf9
 v9:=Tryz.zeroValue9
 t20:=Tryz.underlying20
 a20:=Tryz.isAgg20
 z20:=Tryz.sizeOf20
 v20:=Tryz.zeroValue20
 t37:=Tryz.underlying244
 a37:=Tryz.isAgg244
 z37:=Tryz.sizeOf244
 v37:=Tryz.zeroValue244
 t46:=Tryz.underlying202
 a46:=Tryz.isAgg202
 z46:=Tryz.sizeOf202
 v46:=Tryz.zeroValue202
 t51:=Tryz.underlying252
 a51:=Tryz.isAgg252
 z51:=Tryz.sizeOf252
 v51:=Tryz.zeroValue252
 t53:=Tryz.underlying262
 a53:=Tryz.isAgg262
 z53:=Tryz.sizeOf262
 v53:=Tryz.zeroValue262
 t70:=Tryz.underlying243
 a70:=Tryz.isAgg243
 z70:=Tryz.sizeOf243
 v70:=Tryz.zeroValue243
 t72:=Tryz.underlying246
 a72:=Tryz.isAgg246
 z72:=Tryz.sizeOf246
 v72:=Tryz.zeroValue246
 t75:=Tryz.underlying24
 a75:=Tryz.isAgg24
 z75:=Tryz.sizeOf24
 v75:=Tryz.zeroValue24
 t76:=Tryz.underlying29
 a76:=Tryz.isAgg29
 z76:=Tryz.sizeOf29
 v76:=Tryz.zeroValue29
 t109:=Tryz.underlying363
 a109:=Tryz.isAgg363
 z109:=Tryz.sizeOf363
 v109:=Tryz.zeroValue363
 t127:=Tryz.underlying311
 a127:=Tryz.isAgg311
 z127:=Tryz.sizeOf311
 v127:=Tryz.zeroValue311
 t146:=Tryz.underlying369
 a146:=Tryz.isAgg369
 z146:=Tryz.sizeOf369
 v146:=Tryz.zeroValue369
 t148:=Tryz.underlying395
 a148:=Tryz.isAgg395
 z148:=Tryz.sizeOf395
 v148:=Tryz.zeroValue395
 t164:=Tryz.underlying344
 a164:=Tryz.isAgg344
 z164:=Tryz.sizeOf344
 v164:=Tryz.zeroValue344 }
theorem Tryz.Builder_Extra_105:Builder.Extra Tryz.prog Tryz.lays105_ren:={
 sizeBuilder:=by kernel_rfl
 liesBuilder:=by kernel_rfl
 t5:=Tryz.underlying5
 a5:=Tryz.isAgg5
 z5:=Tryz.sizeOf5
 v5:=Tryz.zeroValue5
 infoByte:=by kernel_rfl
 cellsByte:=by kernel_rfl
 sizeByte:=by kernel_rfl
 neB5:=by decide }
open Go.RowKit Go.Lib in
theorem Tryz.strings_Repeat (s:ByteArray) (c:Nat) (w:World) (hc:c≤9223372036854775807) (hlen:s.size * c≤140737488355328) :
  Calls Tryz.prog 263 #[.string s,.int .i64 c] w fun e w'=>e = .returned (.string ⟨(Lib.repeatL s.data.toList c).toArray⟩)∧Below w.heap.size w w':=Any.strings_Repeat Tryz.lays105 Tryz.Builder_Extra_105 s c w hc hlen
open Go.RowKit Go.Sort in
theorem Tryz.slices_Sort_int_none (p:Option Addr) (cap:Nat) (w:World) :
  Calls Tryz.prog 61 #[.slice p 0 cap] w fun e w'=>e = .returned (.tuple #[])∧w'=w:=Any.slices_Sort_int_none Tryz.lays189 p cap w
def Tryz.lays160t_ren:Go.Shelf.Ren:=⟨fun | 160=>209 | 232=>266 | 231=>265 | 227=>267 | 234=>269 | 233=>268 | 236=>271 | 235=>270 | 228=>303 | 271=>306 | 151=>305 | 197=>304 | 120=>326 | 152=>325 | 260=>324 | 137=>334 | 119=>335 | 224=>277 | 225=>276 | 217=>275 | 266=>308|n=>n,fun | 9=>9 | 4=>4 | 3=>3 | 5=>5 | 117=>327 | 116=>326 | 0=>0 | 124=>330 | 21=>21 | 105=>365 | 46=>202 | 119=>403 | 139=>406 | 138=>405|n=>n,fun | 3=>5 | 4=>6|n=>n⟩
theorem Tryz.lays160t:Go.Proofs.Lays.n160 Tryz.prog Tryz.lays160t_ren:={
 mixed:=by kernel_rfl
 f119:=Tryz.func335.trans (congrArg some (by kernel_rfl))
 f120:=Tryz.func326.trans (congrArg some (by kernel_rfl))
 f137:=Tryz.func334.trans (congrArg some (by kernel_rfl))
 f151:=Tryz.func305.trans (congrArg some (by kernel_rfl))
 f152:=Tryz.func325.trans (congrArg some (by kernel_rfl))
 f160:=Tryz.func209.trans (congrArg some (by kernel_rfl))
 f197:=Tryz.func304.trans (congrArg some (by kernel_rfl))
 f217:=Tryz.func275.trans (congrArg some (by kernel_rfl))
 f224:=Tryz.func277.trans (congrArg some (by kernel_rfl))
 f225:=Tryz.func276.trans (congrArg some (by kernel_rfl))
 f227:=Tryz.func267.trans (congrArg some (by kernel_rfl))
 f228:=Tryz.func303.trans (congrArg some (by kernel_rfl))
 f231:=Tryz.func265.trans (congrArg some (by kernel_rfl))
 f232:=Tryz.func266.trans (congrArg some (by kernel_rfl))
 f233:=Tryz.func268.trans (congrArg some (by kernel_rfl))
 f234:=Tryz.func269.trans (congrArg some (by kernel_rfl))
 f235:=Tryz.func270.trans (congrArg some (by kernel_rfl))
 f236:=Tryz.func271.trans (congrArg some (by kernel_rfl))
 f260:=Tryz.func324.trans (congrArg some (by kernel_rfl))
 f266:=Tryz.func308.trans (congrArg some (by kernel_rfl))
 f271:=Tryz.func306.trans (congrArg some (by kernel_rfl))
 t0:=Tryz.underlying0
 a0:=Tryz.isAgg0
 z0:=Tryz.sizeOf0
 v0:=Tryz.zeroValue0
 t3:=Tryz.underlying3
 a3:=Tryz.isAgg3
 z3:=Tryz.sizeOf3
 v3:=Tryz.zeroValue3
 t4:=Tryz.underlying4
 a4:=Tryz.isAgg4
 z4:=Tryz.sizeOf4
 v4:=Tryz.zeroValue4
 t5:=Tryz.underlying5
 a5:=Tryz.isAgg5
 z5:=Tryz.sizeOf5
 v5:=Tryz.zeroValue5
 t9:=Tryz.underlying9
 a9:=Tryz.isAgg9
 z9:=Tryz.sizeOf9
 v9:=Tryz.zeroValue9
 t21:=Tryz.underlying21
 a21:=Tryz.isAgg21
 z21:=Tryz.sizeOf21
 v21:=Tryz.zeroValue21
 t46:=Tryz.underlying202
 a46:=Tryz.isAgg202
 z46:=Tryz.sizeOf202
 v46:=Tryz.zeroValue202
 t105:=Tryz.underlying365
 a105:=Tryz.isAgg365
 z105:=Tryz.sizeOf365
 v105:=Tryz.zeroValue365
 t116:=Tryz.underlying326
 a116:=Tryz.isAgg326
 z116:=Tryz.sizeOf326
 t117:=Tryz.underlying327
 a117:=Tryz.isAgg327
 z117:=Tryz.sizeOf327
 v117:=Tryz.zeroValue327
 t119:=Tryz.underlying403
 a119:=Tryz.isAgg403
 z119:=Tryz.sizeOf403
 t124:=Tryz.underlying330
 a124:=Tryz.isAgg330
 z124:=Tryz.sizeOf330
 v124:=Tryz.zeroValue330
 t138:=Tryz.underlying405
 a138:=Tryz.isAgg405
 z138:=Tryz.sizeOf405
 v138:=Tryz.zeroValue405
 t139:=Tryz.underlying406
 a139:=Tryz.isAgg406
 z139:=Tryz.sizeOf406
 v139:=Tryz.zeroValue406
 g3:=by kernel_rfl
 g4:=by kernel_rfl }
end Go.Proofs
