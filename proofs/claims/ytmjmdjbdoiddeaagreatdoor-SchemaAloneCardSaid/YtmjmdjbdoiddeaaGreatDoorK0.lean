/- The library's contracts that the texts behind it lean on, laid at this program. No condition. -/
import Derived.Shelf.Strings.SlTrimAscii
import Derived.Shelf.Strings.Builder1
import Derived.Shelf.Strings.Builder2
import Derived.Shelf.Strings.OnBuilder
import Derived.Shelf.Strings.Trim
import Derived.Shelf.Small.Utf8
import Derived.Shelf.Small.Strs
import Derived.Shelf.Strings.BuilderF
import Derived.Shelf.Strings.BuilderK
import Derived.Shelf.Utf8.RuneCount
import Derived.Shelf.Strings.Builder2Cap
import Derived.Shelf.Strconv.Atoi
import Derived.Shelf.Strconv.Itoa0
import Derived.Shelf.Strconv.Itoa1
import Derived.Shelf.LaysM
import Derived.Shelf.Strconv.Itoa2
import Derived.Shelf.Strconv.Itoa3
import Derived.Shelf.Strconv.AtoiErrFast
import Derived.Shelf.Strconv.ParseIntEmpty
import Derived.Shelf.Strconv.AtoiFail
import Derived.Shelf.Strconv.Clone
import Derived.Shelf.Strconv.SyntaxError
import Derived.Shelf.LaysC
import Derived.Shelf.Strconv.ToError
import Derived.Shelf.Strconv.AtoiErr
import Derived.Shelf.Strconv.ErrVar
import Derived.Shelf.Strconv.Lower
import Derived.Shelf.Strconv.ParseUint10
import Derived.Shelf.Strconv.ParseUint10Empty
import Derived.Shelf.Strconv.ParseUint10Any
import Derived.Shelf.Strconv.ParseInt10
import Derived.Shelf.Strconv.AtoiLong
import Derived.Shelf.Strconv.AtoiInnerAll
import Derived.Shelf.Strconv.RangeError
import Derived.Shelf.Strconv.ToErrorRange
import Derived.Shelf.Strconv.AtoiAll
import Derived.Shelf.Strconv.ErrVarAll
import Derived.Shelf.Strconv.ParseUintEmpty
import Derived.Shelf.Strconv.ParseUint10b64
import Derived.Shelf.Strconv.ParseUint10b32
import Derived.Shelf.Strconv.ParseUint10b16
import Derived.Shelf.Strconv.ParseUint10b8
import Derived.Shelf.Strings.Search1
import Derived.Shelf.Strings.Search2
import Derived.Shelf.Strings.Search3
import Derived.Shelf.Strings.Cut
import Derived.Shelf.Strings.Count
import Derived.Shelf.Strings.Shaped
import Derived.Shelf.Strings.Prefix
import Derived.Shelf.Strings.Split
import Derived.Shelf.Strings.SplitShaped
import Derived.Shelf.Unicode.Decode
import Derived.Shelf.Strings.Runes
import Derived.Shelf.Strings.RuneCount
import Derived.Shelf.Strings.AsciiSet
import Derived.Shelf.Strings.Explode
import Derived.Shelf.Unicode.DecodeSlow
import Derived.Shelf.Unicode.DecodeAny
import Derived.Shelf.Unicode.DecodeLast
import Derived.Shelf.Slices.Turned
import Derived.Test.YtmjmdjbdoiddeaaGreatDoorProg
namespace Go.Proofs
open Go.Shelf
def Tryz.lays156_ren:Go.Shelf.Ren:=⟨fun | 156=>56 | 165=>72 | 166=>73 | 169=>74 | 240=>93 | 241=>94 | 276=>111 | 277=>112|n=>n,fun | 31=>80 | 9=>9 | 3=>3 | 4=>4 | 0=>0 | 20=>20 | 72=>140 | 76=>126 | 70=>137 | 37=>138 | 75=>27 | 127=>157 | 164=>172 | 5=>5 | 80=>142|n=>n,fun|n=>n⟩
theorem Tryz.lays156:Go.Proofs.Lays.n156 Tryz.prog Tryz.lays156_ren:={
 mixed:=by kernel_rfl
 f156:=Tryz.func56.trans (congrArg some (by kernel_rfl))
 f165:=Tryz.func72.trans (congrArg some (by kernel_rfl))
 f166:=Tryz.func73.trans (congrArg some (by kernel_rfl))
 f169:=Tryz.func74.trans (congrArg some (by kernel_rfl))
 f240:=Tryz.func93.trans (congrArg some (by kernel_rfl))
 f241:=Tryz.func94.trans (congrArg some (by kernel_rfl))
 f276:=Tryz.func111.trans (congrArg some (by kernel_rfl))
 f277:=Tryz.func112.trans (congrArg some (by kernel_rfl))
 t0:=Tryz.underlying0
 a0:=Tryz.isAgg0
 z0:=Tryz.sizeOf0
 v0:=Tryz.zeroValue0
 t3:=Tryz.underlying3
 a3:=Tryz.isAgg3
 z3:=Tryz.sizeOf3
 v3:=Tryz.zeroValue3
 t4:=Tryz.underlying4
 a4:=Tryz.isAgg4
 z4:=Tryz.sizeOf4
 v4:=Tryz.zeroValue4
 t9:=Tryz.underlying9
 a9:=Tryz.isAgg9
 z9:=Tryz.sizeOf9
 v9:=Tryz.zeroValue9
 t20:=Tryz.underlying20
 a20:=Tryz.isAgg20
 z20:=Tryz.sizeOf20
 v20:=Tryz.zeroValue20
 t31:=Tryz.underlying80
 a31:=Tryz.isAgg80
 z31:=Tryz.sizeOf80
 v31:=Tryz.zeroValue80
 t37:=Tryz.underlying138
 a37:=Tryz.isAgg138
 z37:=Tryz.sizeOf138
 v37:=Tryz.zeroValue138
 t70:=Tryz.underlying137
 a70:=Tryz.isAgg137
 z70:=Tryz.sizeOf137
 v70:=Tryz.zeroValue137
 t72:=Tryz.underlying140
 a72:=Tryz.isAgg140
 z72:=Tryz.sizeOf140
 v72:=Tryz.zeroValue140
 t75:=Tryz.underlying27
 a75:=Tryz.isAgg27
 z75:=Tryz.sizeOf27
 v75:=Tryz.zeroValue27
 t76:=Tryz.underlying126
 a76:=Tryz.isAgg126
 z76:=Tryz.sizeOf126
 v76:=Tryz.zeroValue126
 t127:=Tryz.underlying157
 a127:=Tryz.isAgg157
 z127:=Tryz.sizeOf157
 v127:=Tryz.zeroValue157
 t164:=Tryz.underlying172
 a164:=Tryz.isAgg172
 z164:=Tryz.sizeOf172
 v164:=Tryz.zeroValue172 }
theorem Tryz.Builder_Extra_156:Builder.Extra Tryz.prog Tryz.lays156_ren:={
 sizeBuilder:=by kernel_rfl
 liesBuilder:=by kernel_rfl
 t5:=Tryz.underlying5
 a5:=Tryz.isAgg5
 z5:=Tryz.sizeOf5
 v5:=Tryz.zeroValue5
 infoByte:=by kernel_rfl
 cellsByte:=by kernel_rfl
 sizeByte:=by kernel_rfl
 neB5:=by decide }
open Go.RowKit in
theorem Tryz.strings_Join_none (a:Option Addr) (c:Nat) (sep:ByteArray) (w:World) :
  Calls Tryz.prog 56 #[.slice a 0 c,.string sep] w fun e w'=>e = .returned (.string ⟨#[]⟩)∧w'=w:=Any.strings_Join_none Tryz.lays156 Tryz.Builder_Extra_156 a c sep w
open Go.RowKit in
theorem Tryz.strings_Join (bk o c:Nat) (xs:List ByteArray) (sep:ByteArray) (w:World) (hcells:∀ (j:Nat) x,xs[j]? = some x→w.cell? ⟨bk,o+j,none⟩=some (.string x)) (hbk:bk<w.heap.size) (hN:xs.length≤140737488355328) (hcap:xs.length≤c) (hlen:(Lib.join (xs.map (·.data.toList)) sep.data.toList).length≤140737488355328) :
  Calls Tryz.prog 56 #[.slice (some ⟨bk,o,none⟩) xs.length c,.string sep] w fun e w'=>e = .returned (.string ⟨(Lib.join (xs.map (·.data.toList)) sep.data.toList).toArray⟩)∧Below w.heap.size w w':=Any.strings_Join Tryz.lays156 Tryz.Builder_Extra_156 bk o c xs sep w hcells hbk hN hcap hlen
def Tryz.laysM171_ren:Go.Shelf.Ren:=⟨fun | 171=>64 | 243=>79 | 246=>100 | 283=>116 | 284=>117 | 285=>118 | 286=>119 | 129=>130 | 317=>129 | 318=>131 | 319=>132 | 320=>133 | 337=>138 | 338=>139|n=>n,fun | 3=>3 | 9=>9 | 2=>2 | 4=>4 | 171=>181 | 0=>0 | 53=>145 | 37=>138 | 5=>5 | 173=>184 | 212=>196 | 51=>187 | 20=>20 | 213=>197 | 46=>168 | 232=>205 | 233=>206|n=>n,fun | 17=>3 | 18=>6 | 19=>7|n=>n⟩
theorem Tryz.laysM171:Go.Proofs.LaysM.n171 Tryz.prog Tryz.laysM171_ren:={
 mixed:=by kernel_rfl
 f129:=Tryz.func130.trans (congrArg some (by kernel_rfl))
 f171:=Tryz.func64.trans (congrArg some (by kernel_rfl))
 f243:=Tryz.func79.trans (congrArg some (by kernel_rfl))
 f246:=Tryz.func100.trans (congrArg some (by kernel_rfl))
 f283:=Tryz.func116.trans (congrArg some (by kernel_rfl))
 f284:=Tryz.func117.trans (congrArg some (by kernel_rfl))
 f285:=Tryz.func118.trans (congrArg some (by kernel_rfl))
 f286:=Tryz.func119.trans (congrArg some (by kernel_rfl))
 f317:=Tryz.func129.trans (congrArg some (by kernel_rfl))
 f318:=Tryz.func131.trans (congrArg some (by kernel_rfl))
 f319:=Tryz.func132.trans (congrArg some (by kernel_rfl))
 f320:=Tryz.func133.trans (congrArg some (by kernel_rfl))
 f337:=Tryz.func138.trans (congrArg some (by kernel_rfl))
 f338:=Tryz.func139.trans (congrArg some (by kernel_rfl))
 t0:=Tryz.underlying0
 a0:=Tryz.isAgg0
 z0:=Tryz.sizeOf0
 v0:=Tryz.zeroValue0
 t2:=Tryz.underlying2
 a2:=Tryz.isAgg2
 z2:=Tryz.sizeOf2
 v2:=Tryz.zeroValue2
 t3:=Tryz.underlying3
 a3:=Tryz.isAgg3
 z3:=Tryz.sizeOf3
 v3:=Tryz.zeroValue3
 t4:=Tryz.underlying4
 a4:=Tryz.isAgg4
 z4:=Tryz.sizeOf4
 v4:=Tryz.zeroValue4
 t5:=Tryz.underlying5
 a5:=Tryz.isAgg5
 z5:=Tryz.sizeOf5
 v5:=Tryz.zeroValue5
 t9:=Tryz.underlying9
 a9:=Tryz.isAgg9
 z9:=Tryz.sizeOf9
 v9:=Tryz.zeroValue9
 t20:=Tryz.underlying20
 a20:=Tryz.isAgg20
 z20:=Tryz.sizeOf20
 v20:=Tryz.zeroValue20
 t37:=Tryz.underlying138
 a37:=Tryz.isAgg138
 z37:=Tryz.sizeOf138
 v37:=Tryz.zeroValue138
 t46:=Tryz.underlying168
 a46:=Tryz.isAgg168
 z46:=Tryz.sizeOf168
 v46:=Tryz.zeroValue168
 t51:=Tryz.underlying187
 a51:=Tryz.isAgg187
 z51:=Tryz.sizeOf187
 v51:=Tryz.zeroValue187
 t53:=Tryz.underlying145
 a53:=Tryz.isAgg145
 z53:=Tryz.sizeOf145
 v53:=Tryz.zeroValue145
 t171:=Tryz.underlying181
 a171:=Tryz.isAgg181
 z171:=Tryz.sizeOf181
 v171:=Tryz.zeroValue181
 t173:=Tryz.underlying184
 a173:=Tryz.isAgg184
 z173:=Tryz.sizeOf184
 v173:=Tryz.zeroValue184
 t212:=Tryz.underlying196
 a212:=Tryz.isAgg196
 z212:=Tryz.sizeOf196
 v212:=Tryz.zeroValue196
 t213:=Tryz.underlying197
 a213:=Tryz.isAgg197
 z213:=Tryz.sizeOf197
 t232:=Tryz.underlying205
 a232:=Tryz.isAgg205
 z232:=Tryz.sizeOf205
 v232:=Tryz.zeroValue205
 t233:=Tryz.underlying206
 a233:=Tryz.isAgg206
 z233:=Tryz.sizeOf206
 v233:=Tryz.zeroValue206
 g17:=by kernel_rfl
 g18:=by kernel_rfl
 g19:=by kernel_rfl
 i0:=by kernel_rfl
 i2:=by kernel_rfl
 i3:=by kernel_rfl
 i4:=by kernel_rfl
 i5:=by kernel_rfl
 i9:=by kernel_rfl
 i20:=by kernel_rfl
 i37:=by kernel_rfl
 i46:=by kernel_rfl
 i51:=by kernel_rfl
 i53:=by kernel_rfl
 i171:=by kernel_rfl
 i173:=by kernel_rfl
 i212:=by kernel_rfl
 i232:=by kernel_rfl
 i233:=by kernel_rfl
 m17:=by kernel_rfl
 m18:=by kernel_rfl
 m19:=by kernel_rfl }
open Go.RowKit Go.Sort Go.Lib in
theorem Tryz.strconv_Itoa (n : Int) (h0 : -9223372036854775808 ≤ n) (h1 : n ≤ 9223372036854775807) (w : World) (htab : Lib.TabIs Tryz.prog w "internal/strconv.uint64pow10" .u64 Lib.pow10Tab) :
  Calls Tryz.prog 64 #[.int .i64 n] w fun e w'=>e = .returned (.string ⟨(Lib.itoa n).toArray⟩)∧∃ k os,w'=grow (w.drewN k) os:=Any.strconv_Itoa Tryz.laysM171 n h0 h1 w htab
def Tryz.laysC172_ren:Go.Shelf.Ren:=⟨fun | 172=>63 | 244=>77 | 245=>78 | 247=>95 | 279=>96 | 280=>97 | 281=>98 | 282=>99 | 287=>113 | 316=>114 | 171=>64 | 205=>115 | 321=>127 | 322=>128 | 243=>79 | 246=>100 | 283=>116 | 284=>117 | 285=>118 | 286=>119 | 129=>130 | 317=>129 | 318=>131 | 319=>132 | 320=>133 | 337=>138 | 338=>139|n=>n,fun | 9=>9 | 3=>3 | 75=>27 | 76=>126 | 4=>4 | 5=>5 | 167=>158 | 37=>138 | 0=>0 | 85=>159 | 2=>2 | 168=>161 | 53=>145 | 175=>175 | 46=>168 | 210=>179 | 127=>157 | 145=>194 | 143=>192 | 21=>21 | 171=>181 | 173=>184 | 212=>196 | 51=>187 | 20=>20 | 213=>197 | 232=>205 | 233=>206 | 80=>142|n=>n,fun | 15=>1 | 16=>2 | 17=>3 | 18=>6 | 19=>7|n=>n⟩
theorem Tryz.laysC172:Go.Proofs.LaysC.n172 Tryz.prog Tryz.laysC172_ren:={
 mixed:=by kernel_rfl
 f129:=Tryz.func130.trans (congrArg some (by kernel_rfl))
 f171:=Tryz.func64.trans (congrArg some (by kernel_rfl))
 f172:=Tryz.func63.trans (congrArg some (by kernel_rfl))
 f205:=Tryz.func115.trans (congrArg some (by kernel_rfl))
 f243:=Tryz.func79.trans (congrArg some (by kernel_rfl))
 f244:=Tryz.func77.trans (congrArg some (by kernel_rfl))
 f245:=Tryz.func78.trans (congrArg some (by kernel_rfl))
 f246:=Tryz.func100.trans (congrArg some (by kernel_rfl))
 f247:=Tryz.func95.trans (congrArg some (by kernel_rfl))
 f279:=Tryz.func96.trans (congrArg some (by kernel_rfl))
 f280:=Tryz.func97.trans (congrArg some (by kernel_rfl))
 f281:=Tryz.func98.trans (congrArg some (by kernel_rfl))
 f282:=Tryz.func99.trans (congrArg some (by kernel_rfl))
 f283:=Tryz.func116.trans (congrArg some (by kernel_rfl))
 f284:=Tryz.func117.trans (congrArg some (by kernel_rfl))
 f285:=Tryz.func118.trans (congrArg some (by kernel_rfl))
 f286:=Tryz.func119.trans (congrArg some (by kernel_rfl))
 f287:=Tryz.func113.trans (congrArg some (by kernel_rfl))
 f316:=Tryz.func114.trans (congrArg some (by kernel_rfl))
 f317:=Tryz.func129.trans (congrArg some (by kernel_rfl))
 f318:=Tryz.func131.trans (congrArg some (by kernel_rfl))
 f319:=Tryz.func132.trans (congrArg some (by kernel_rfl))
 f320:=Tryz.func133.trans (congrArg some (by kernel_rfl))
 f321:=Tryz.func127.trans (congrArg some (by kernel_rfl))
 f322:=Tryz.func128.trans (congrArg some (by kernel_rfl))
 f337:=Tryz.func138.trans (congrArg some (by kernel_rfl))
 f338:=Tryz.func139.trans (congrArg some (by kernel_rfl))
 t0:=Tryz.underlying0
 a0:=Tryz.isAgg0
 z0:=Tryz.sizeOf0
 v0:=Tryz.zeroValue0
 t2:=Tryz.underlying2
 a2:=Tryz.isAgg2
 z2:=Tryz.sizeOf2
 v2:=Tryz.zeroValue2
 t3:=Tryz.underlying3
 a3:=Tryz.isAgg3
 z3:=Tryz.sizeOf3
 v3:=Tryz.zeroValue3
 t4:=Tryz.underlying4
 a4:=Tryz.isAgg4
 z4:=Tryz.sizeOf4
 v4:=Tryz.zeroValue4
 t5:=Tryz.underlying5
 a5:=Tryz.isAgg5
 z5:=Tryz.sizeOf5
 v5:=Tryz.zeroValue5
 t9:=Tryz.underlying9
 a9:=Tryz.isAgg9
 z9:=Tryz.sizeOf9
 v9:=Tryz.zeroValue9
 t20:=Tryz.underlying20
 a20:=Tryz.isAgg20
 z20:=Tryz.sizeOf20
 v20:=Tryz.zeroValue20
 t21:=Tryz.underlying21
 a21:=Tryz.isAgg21
 z21:=Tryz.sizeOf21
 v21:=Tryz.zeroValue21
 t37:=Tryz.underlying138
 a37:=Tryz.isAgg138
 z37:=Tryz.sizeOf138
 v37:=Tryz.zeroValue138
 t46:=Tryz.underlying168
 a46:=Tryz.isAgg168
 z46:=Tryz.sizeOf168
 v46:=Tryz.zeroValue168
 t51:=Tryz.underlying187
 a51:=Tryz.isAgg187
 z51:=Tryz.sizeOf187
 v51:=Tryz.zeroValue187
 t53:=Tryz.underlying145
 a53:=Tryz.isAgg145
 z53:=Tryz.sizeOf145
 v53:=Tryz.zeroValue145
 t75:=Tryz.underlying27
 a75:=Tryz.isAgg27
 z75:=Tryz.sizeOf27
 v75:=Tryz.zeroValue27
 t76:=Tryz.underlying126
 a76:=Tryz.isAgg126
 z76:=Tryz.sizeOf126
 v76:=Tryz.zeroValue126
 t85:=Tryz.underlying159
 a85:=Tryz.isAgg159
 z85:=Tryz.sizeOf159
 v85:=Tryz.zeroValue159
 t127:=Tryz.underlying157
 a127:=Tryz.isAgg157
 z127:=Tryz.sizeOf157
 v127:=Tryz.zeroValue157
 t143:=Tryz.underlying192
 a143:=Tryz.isAgg192
 z143:=Tryz.sizeOf192
 v143:=Tryz.zeroValue192
 t145:=Tryz.underlying194
 a145:=Tryz.isAgg194
 z145:=Tryz.sizeOf194
 v145:=Tryz.zeroValue194
 t167:=Tryz.underlying158
 a167:=Tryz.isAgg158
 z167:=Tryz.sizeOf158
 v167:=Tryz.zeroValue158
 t168:=Tryz.underlying161
 a168:=Tryz.isAgg161
 z168:=Tryz.sizeOf161
 v168:=Tryz.zeroValue161
 t171:=Tryz.underlying181
 a171:=Tryz.isAgg181
 z171:=Tryz.sizeOf181
 v171:=Tryz.zeroValue181
 t173:=Tryz.underlying184
 a173:=Tryz.isAgg184
 z173:=Tryz.sizeOf184
 v173:=Tryz.zeroValue184
 t175:=Tryz.underlying175
 a175:=Tryz.isAgg175
 z175:=Tryz.sizeOf175
 v175:=Tryz.zeroValue175
 t210:=Tryz.underlying179
 a210:=Tryz.isAgg179
 z210:=Tryz.sizeOf179
 v210:=Tryz.zeroValue179
 t212:=Tryz.underlying196
 a212:=Tryz.isAgg196
 z212:=Tryz.sizeOf196
 v212:=Tryz.zeroValue196
 t213:=Tryz.underlying197
 a213:=Tryz.isAgg197
 z213:=Tryz.sizeOf197
 t232:=Tryz.underlying205
 a232:=Tryz.isAgg205
 z232:=Tryz.sizeOf205
 v232:=Tryz.zeroValue205
 t233:=Tryz.underlying206
 a233:=Tryz.isAgg206
 z233:=Tryz.sizeOf206
 v233:=Tryz.zeroValue206
 g15:=by kernel_rfl
 g16:=by kernel_rfl
 g17:=by kernel_rfl
 g18:=by kernel_rfl
 g19:=by kernel_rfl
 t80:=Tryz.underlying142
 a80:=Tryz.isAgg142
 z80:=Tryz.sizeOf142
 v80:=Tryz.zeroValue142
 i0:=by kernel_rfl
 i2:=by kernel_rfl
 i3:=by kernel_rfl
 i4:=by kernel_rfl
 i5:=by kernel_rfl
 i9:=by kernel_rfl
 i20:=by kernel_rfl
 i21:=by kernel_rfl
 i37:=by kernel_rfl
 i46:=by kernel_rfl
 i51:=by kernel_rfl
 i53:=by kernel_rfl
 i75:=by kernel_rfl
 i76:=by kernel_rfl
 i80:=by kernel_rfl
 i85:=by kernel_rfl
 i127:=by kernel_rfl
 i143:=by kernel_rfl
 i145:=by kernel_rfl
 i167:=by kernel_rfl
 i168:=by kernel_rfl
 i171:=by kernel_rfl
 i173:=by kernel_rfl
 i175:=by kernel_rfl
 i210:=by kernel_rfl
 i212:=by kernel_rfl
 i232:=by kernel_rfl
 i233:=by kernel_rfl
 m15:=by kernel_rfl
 m16:=by kernel_rfl
 m17:=by kernel_rfl
 m18:=by kernel_rfl
 m19:=by kernel_rfl
 c0:=by kernel_rfl
 c2:=by kernel_rfl
 c3:=by kernel_rfl
 c4:=by kernel_rfl
 c5:=by kernel_rfl
 c9:=by kernel_rfl
 c20:=by kernel_rfl
 c21:=by kernel_rfl
 c37:=by kernel_rfl
 c46:=by kernel_rfl
 c51:=by kernel_rfl
 c53:=by kernel_rfl
 c75:=by kernel_rfl
 c76:=by kernel_rfl
 c80:=by kernel_rfl
 c85:=by kernel_rfl
 c127:=by kernel_rfl
 c143:=by kernel_rfl
 c145:=by kernel_rfl
 c167:=by kernel_rfl
 c168:=by kernel_rfl
 c171:=by kernel_rfl
 c173:=by kernel_rfl
 c175:=by kernel_rfl
 c210:=by kernel_rfl
 c212:=by kernel_rfl
 c213:=by kernel_rfl
 c232:=by kernel_rfl
 c233:=by kernel_rfl }
open Go.RowKit in
theorem Tryz.strconv_Atoi_ok (s:ByteArray) (hmax:s.size≤9223372036854775806) (v:Int) (h:Lib.atoiAll s.data.toList = .ok v) (w:World) :
  Calls Tryz.prog 63 #[.string s] w fun e w'=>e = .returned (.tuple #[.int .i64 v,.nilIface])∧(w'=w∨∃ t,w'=Lib.bytesWorld w 5 t):=Any.strconv_Atoi_ok Tryz.laysC172 s hmax v h w
open Go.RowKit in
theorem Tryz.strconv_Atoi_range_var (s : ByteArray) (hlim : s.size ≤ 281474976710656) (h : Lib.atoiAll s.data.toList = .range) (tp : TypeId) (p : Value) (w : World) (hvar : w.var? Tryz.prog "strconv.ErrRange" = some #[.iface tp p]) :
  Calls Tryz.prog 63 #[.string s] w fun e w'=>∃ N,e = .returned (.tuple #[.int .i64 (Lib.atoiSat s.data.toList),.iface 161 (.pointer (some ⟨N,0,none⟩))])∧w.heap.size≤N∧w'.heap[N]? = some (.cells #[.string ⟨#[65,116,111,105]⟩,.string s,.iface tp p] 179 (0,0))∧Below w.heap.size w w':=Any.strconv_Atoi_range_var Tryz.laysC172 s hlim h tp p w hvar
def Tryz.laysM144_ren:Go.Shelf.Ren:=⟨fun | 144=>48 | 143=>68 | 219=>82 | 217=>102 | 225=>103 | 224=>104 | 267=>105 | 266=>122 | 314=>123|n=>n,fun | 9=>9 | 4=>4 | 3=>3 | 5=>5 | 46=>168 | 146=>188 | 51=>187|n=>n,fun | 1=>0|n=>n⟩
theorem Tryz.laysM144:Go.Proofs.LaysM.n144 Tryz.prog Tryz.laysM144_ren:={
 mixed:=by kernel_rfl
 f143:=Tryz.func68.trans (congrArg some (by kernel_rfl))
 f144:=Tryz.func48.trans (congrArg some (by kernel_rfl))
 f217:=Tryz.func102.trans (congrArg some (by kernel_rfl))
 f219:=Tryz.func82.trans (congrArg some (by kernel_rfl))
 f224:=Tryz.func104.trans (congrArg some (by kernel_rfl))
 f225:=Tryz.func103.trans (congrArg some (by kernel_rfl))
 f266:=Tryz.func122.trans (congrArg some (by kernel_rfl))
 f267:=Tryz.func105.trans (congrArg some (by kernel_rfl))
 f314:=Tryz.func123.trans (congrArg some (by kernel_rfl))
 t3:=Tryz.underlying3
 a3:=Tryz.isAgg3
 z3:=Tryz.sizeOf3
 v3:=Tryz.zeroValue3
 t4:=Tryz.underlying4
 a4:=Tryz.isAgg4
 z4:=Tryz.sizeOf4
 v4:=Tryz.zeroValue4
 t5:=Tryz.underlying5
 a5:=Tryz.isAgg5
 z5:=Tryz.sizeOf5
 v5:=Tryz.zeroValue5
 t9:=Tryz.underlying9
 a9:=Tryz.isAgg9
 z9:=Tryz.sizeOf9
 v9:=Tryz.zeroValue9
 t46:=Tryz.underlying168
 a46:=Tryz.isAgg168
 z46:=Tryz.sizeOf168
 v46:=Tryz.zeroValue168
 t51:=Tryz.underlying187
 a51:=Tryz.isAgg187
 z51:=Tryz.sizeOf187
 v51:=Tryz.zeroValue187
 t146:=Tryz.underlying188
 a146:=Tryz.isAgg188
 z146:=Tryz.sizeOf188
 v146:=Tryz.zeroValue188
 g1:=by kernel_rfl
 i3:=by kernel_rfl
 i4:=by kernel_rfl
 i5:=by kernel_rfl
 i9:=by kernel_rfl
 i46:=by kernel_rfl
 i51:=by kernel_rfl
 i146:=by kernel_rfl
 m1:=by kernel_rfl
 s1_3:=fun w h=>Go.Proofs.cell_of_shapedOpen_int (zero:= #[.int .i64 0]) (t:=3) h (of_decide_eq_true (by kernel_rfl)) (by kernel_rfl) rfl (by kernel_rfl) (by kernel_rfl) Tryz.underlying3 }
open Go.RowKit Go.Lib in
theorem Tryz.strings_Contains_shaped (s sub:ByteArray) (w:World) (h:w.ShapedOpen Tryz.prog) (hs:s.size<4294967281) :
  Calls Tryz.prog 48 #[.string s,.string sub] w fun e w'=>e = .returned (.bool (Lib.contains s.data.toList sub.data.toList))∧w'=w:=Any.strings_Contains_shaped Tryz.laysM144 s sub w h hs
def Tryz.laysM145_ren:Go.Shelf.Ren:=⟨fun | 145=>50 | 220=>69 | 219=>82 | 217=>102 | 225=>103 | 224=>104 | 267=>105 | 266=>122 | 314=>123|n=>n,fun | 9=>9 | 4=>4 | 59=>114 | 3=>3 | 5=>5 | 46=>168 | 146=>188 | 51=>187|n=>n,fun | 1=>0|n=>n⟩
theorem Tryz.laysM145:Go.Proofs.LaysM.n145 Tryz.prog Tryz.laysM145_ren:={
 mixed:=by kernel_rfl
 f145:=Tryz.func50.trans (congrArg some (by kernel_rfl))
 f217:=Tryz.func102.trans (congrArg some (by kernel_rfl))
 f219:=Tryz.func82.trans (congrArg some (by kernel_rfl))
 f220:=Tryz.func69.trans (congrArg some (by kernel_rfl))
 f224:=Tryz.func104.trans (congrArg some (by kernel_rfl))
 f225:=Tryz.func103.trans (congrArg some (by kernel_rfl))
 f266:=Tryz.func122.trans (congrArg some (by kernel_rfl))
 f267:=Tryz.func105.trans (congrArg some (by kernel_rfl))
 f314:=Tryz.func123.trans (congrArg some (by kernel_rfl))
 t3:=Tryz.underlying3
 a3:=Tryz.isAgg3
 z3:=Tryz.sizeOf3
 v3:=Tryz.zeroValue3
 t4:=Tryz.underlying4
 a4:=Tryz.isAgg4
 z4:=Tryz.sizeOf4
 v4:=Tryz.zeroValue4
 t5:=Tryz.underlying5
 a5:=Tryz.isAgg5
 z5:=Tryz.sizeOf5
 v5:=Tryz.zeroValue5
 t9:=Tryz.underlying9
 a9:=Tryz.isAgg9
 z9:=Tryz.sizeOf9
 v9:=Tryz.zeroValue9
 t46:=Tryz.underlying168
 a46:=Tryz.isAgg168
 z46:=Tryz.sizeOf168
 v46:=Tryz.zeroValue168
 t51:=Tryz.underlying187
 a51:=Tryz.isAgg187
 z51:=Tryz.sizeOf187
 v51:=Tryz.zeroValue187
 t59:=Tryz.underlying114
 a59:=Tryz.isAgg114
 z59:=Tryz.sizeOf114
 v59:=Tryz.zeroValue114
 t146:=Tryz.underlying188
 a146:=Tryz.isAgg188
 z146:=Tryz.sizeOf188
 v146:=Tryz.zeroValue188
 g1:=by kernel_rfl
 i3:=by kernel_rfl
 i4:=by kernel_rfl
 i5:=by kernel_rfl
 i9:=by kernel_rfl
 i46:=by kernel_rfl
 i51:=by kernel_rfl
 i59:=by kernel_rfl
 i146:=by kernel_rfl
 m1:=by kernel_rfl
 s1_3:=fun w h=>Go.Proofs.cell_of_shapedOpen_int (zero:= #[.int .i64 0]) (t:=3) h (of_decide_eq_true (by kernel_rfl)) (by kernel_rfl) rfl (by kernel_rfl) (by kernel_rfl) Tryz.underlying3 }
open Go.RowKit Go.Lib in
theorem Tryz.strings_Cut_shaped (s sep:ByteArray) (w:World) (h:w.ShapedOpen Tryz.prog) (hs:s.size<4294967281) :
  Calls Tryz.prog 50 #[.string s,.string sep] w fun e w'=>e = .returned (.tuple #[.string ⟨(Lib.cut s.data.toList sep.data.toList).1.toArray⟩,.string ⟨(Lib.cut s.data.toList sep.data.toList).2.1.toArray⟩,.bool (Lib.cut s.data.toList sep.data.toList).2.2])∧∃ n,w'=w.drewN n:=Any.strings_Cut_shaped Tryz.laysM145 s sep w h hs
def Tryz.lays99_ren:Go.Shelf.Ren:=⟨fun | 99=>47 | 206=>67|n=>n,fun | 9=>9 | 4=>4 | 3=>3|n=>n,fun|n=>n⟩
theorem Tryz.lays99:Go.Proofs.Lays.n99 Tryz.prog Tryz.lays99_ren:={
 mixed:=by kernel_rfl
 f99:=Tryz.func47.trans (congrArg some (by kernel_rfl))
 f206:=Tryz.func67.trans (congrArg some (by kernel_rfl))
 t3:=Tryz.underlying3
 a3:=Tryz.isAgg3
 z3:=Tryz.sizeOf3
 v3:=Tryz.zeroValue3
 t4:=Tryz.underlying4
 a4:=Tryz.isAgg4
 z4:=Tryz.sizeOf4
 v4:=Tryz.zeroValue4
 t9:=Tryz.underlying9
 a9:=Tryz.isAgg9
 z9:=Tryz.sizeOf9
 v9:=Tryz.zeroValue9 }
open Go.RowKit Go.Lib in
theorem Tryz.strings_HasPrefix (s p:ByteArray) (w:World) :
  Calls Tryz.prog 47 #[.string s,.string p] w fun e w'=>e = .returned (.bool (Lib.hasPrefix s.data.toList p.data.toList))∧w'=w:=Any.strings_HasPrefix Tryz.lays99 s p w
def Tryz.lays101_ren:Go.Shelf.Ren:=⟨fun | 101=>91 | 208=>110 | 206=>67|n=>n,fun | 9=>9 | 4=>4 | 3=>3|n=>n,fun|n=>n⟩
theorem Tryz.lays101:Go.Proofs.Lays.n101 Tryz.prog Tryz.lays101_ren:={
 mixed:=by kernel_rfl
 f101:=Tryz.func91.trans (congrArg some (by kernel_rfl))
 f206:=Tryz.func67.trans (congrArg some (by kernel_rfl))
 f208:=Tryz.func110.trans (congrArg some (by kernel_rfl))
 t3:=Tryz.underlying3
 a3:=Tryz.isAgg3
 z3:=Tryz.sizeOf3
 v3:=Tryz.zeroValue3
 t4:=Tryz.underlying4
 a4:=Tryz.isAgg4
 z4:=Tryz.sizeOf4
 v4:=Tryz.zeroValue4
 t9:=Tryz.underlying9
 a9:=Tryz.isAgg9
 z9:=Tryz.sizeOf9
 v9:=Tryz.zeroValue9 }
open Go.RowKit Go.Lib in
theorem Tryz.strings_TrimPrefix (s p:ByteArray) (w:World) :
  Calls Tryz.prog 91 #[.string s,.string p] w fun e w'=>e = .returned (.string ⟨(Lib.trimPrefix s.data.toList p.data.toList).toArray⟩)∧w'=w:=Any.strings_TrimPrefix Tryz.lays101 s p w
def Tryz.laysM146_ren:Go.Shelf.Ren:=⟨fun | 146=>81 | 221=>101 | 268=>120 | 138=>121 | 143=>68 | 195=>134 | 197=>107 | 218=>135 | 219=>82 | 260=>124 | 217=>102 | 225=>103 | 224=>104 | 267=>105 | 266=>122 | 314=>123|n=>n,fun | 9=>9 | 31=>80 | 3=>3 | 4=>4 | 0=>0 | 105=>169 | 21=>21 | 5=>5 | 46=>168 | 119=>199 | 139=>202 | 138=>201 | 146=>188 | 51=>187|n=>n,fun | 1=>0 | 3=>4 | 4=>5|n=>n⟩
theorem Tryz.laysM146:Go.Proofs.LaysM.n146 Tryz.prog Tryz.laysM146_ren:={
 mixed:=by kernel_rfl
 f138:=Tryz.func121.trans (congrArg some (by kernel_rfl))
 f143:=Tryz.func68.trans (congrArg some (by kernel_rfl))
 f146:=Tryz.func81.trans (congrArg some (by kernel_rfl))
 f195:=Tryz.func134.trans (congrArg some (by kernel_rfl))
 f197:=Tryz.func107.trans (congrArg some (by kernel_rfl))
 f217:=Tryz.func102.trans (congrArg some (by kernel_rfl))
 f218:=Tryz.func135.trans (congrArg some (by kernel_rfl))
 f219:=Tryz.func82.trans (congrArg some (by kernel_rfl))
 f221:=Tryz.func101.trans (congrArg some (by kernel_rfl))
 f224:=Tryz.func104.trans (congrArg some (by kernel_rfl))
 f225:=Tryz.func103.trans (congrArg some (by kernel_rfl))
 f260:=Tryz.func124.trans (congrArg some (by kernel_rfl))
 f266:=Tryz.func122.trans (congrArg some (by kernel_rfl))
 f267:=Tryz.func105.trans (congrArg some (by kernel_rfl))
 f268:=Tryz.func120.trans (congrArg some (by kernel_rfl))
 f314:=Tryz.func123.trans (congrArg some (by kernel_rfl))
 t0:=Tryz.underlying0
 a0:=Tryz.isAgg0
 z0:=Tryz.sizeOf0
 v0:=Tryz.zeroValue0
 t3:=Tryz.underlying3
 a3:=Tryz.isAgg3
 z3:=Tryz.sizeOf3
 v3:=Tryz.zeroValue3
 t4:=Tryz.underlying4
 a4:=Tryz.isAgg4
 z4:=Tryz.sizeOf4
 v4:=Tryz.zeroValue4
 t5:=Tryz.underlying5
 a5:=Tryz.isAgg5
 z5:=Tryz.sizeOf5
 v5:=Tryz.zeroValue5
 t9:=Tryz.underlying9
 a9:=Tryz.isAgg9
 z9:=Tryz.sizeOf9
 v9:=Tryz.zeroValue9
 t21:=Tryz.underlying21
 a21:=Tryz.isAgg21
 z21:=Tryz.sizeOf21
 v21:=Tryz.zeroValue21
 t31:=Tryz.underlying80
 a31:=Tryz.isAgg80
 z31:=Tryz.sizeOf80
 v31:=Tryz.zeroValue80
 t46:=Tryz.underlying168
 a46:=Tryz.isAgg168
 z46:=Tryz.sizeOf168
 v46:=Tryz.zeroValue168
 t51:=Tryz.underlying187
 a51:=Tryz.isAgg187
 z51:=Tryz.sizeOf187
 v51:=Tryz.zeroValue187
 t105:=Tryz.underlying169
 a105:=Tryz.isAgg169
 z105:=Tryz.sizeOf169
 v105:=Tryz.zeroValue169
 t119:=Tryz.underlying199
 a119:=Tryz.isAgg199
 z119:=Tryz.sizeOf199
 t138:=Tryz.underlying201
 a138:=Tryz.isAgg201
 z138:=Tryz.sizeOf201
 v138:=Tryz.zeroValue201
 t139:=Tryz.underlying202
 a139:=Tryz.isAgg202
 z139:=Tryz.sizeOf202
 v139:=Tryz.zeroValue202
 t146:=Tryz.underlying188
 a146:=Tryz.isAgg188
 z146:=Tryz.sizeOf188
 v146:=Tryz.zeroValue188
 g1:=by kernel_rfl
 g3:=by kernel_rfl
 g4:=by kernel_rfl
 i0:=by kernel_rfl
 i3:=by kernel_rfl
 i4:=by kernel_rfl
 i5:=by kernel_rfl
 i9:=by kernel_rfl
 i21:=by kernel_rfl
 i31:=by kernel_rfl
 i46:=by kernel_rfl
 i51:=by kernel_rfl
 i105:=by kernel_rfl
 i138:=by kernel_rfl
 i139:=by kernel_rfl
 i146:=by kernel_rfl
 m1:=by kernel_rfl
 s1_3:=fun w h=>Go.Proofs.cell_of_shapedOpen_int (zero:= #[.int .i64 0]) (t:=3) h (of_decide_eq_true (by kernel_rfl)) (by kernel_rfl) rfl (by kernel_rfl) (by kernel_rfl) Tryz.underlying3
 m3:=by kernel_rfl
 m4:=by kernel_rfl }
open Go.RowKit Go.Lib in
theorem Tryz.strings_Split_shaped (s sep:ByteArray) (w:World) (h:w.ShapedOpen Tryz.prog) (hs:s.size<4294967281) (h1:1≤sep.size) :
  Calls Tryz.prog 81 #[.string s,.string sep] w fun e w'=>
   e = .returned (.slice (some ⟨w.heap.size,0,none⟩) (Lib.countB s sep+1) (Lib.countB s sep+1))∧w'=w.alloc (.cells ((Lib.splitB sep 0 (Lib.countB s sep) s).map Value.string).toArray 9):=Any.strings_Split_shaped Tryz.laysM146 s sep w h hs h1
def Tryz.lays160t_ren:Go.Shelf.Ren:=⟨fun | 160=>70 | 232=>84 | 231=>83 | 227=>85 | 234=>87 | 233=>86 | 236=>89 | 235=>88 | 228=>106 | 271=>109 | 151=>108 | 197=>107 | 120=>126 | 152=>125 | 260=>124 | 137=>136 | 119=>137 | 224=>104 | 225=>103 | 217=>102 | 266=>122|n=>n,fun | 9=>9 | 4=>4 | 3=>3 | 5=>5 | 117=>152 | 116=>151 | 0=>0 | 124=>155 | 21=>21 | 105=>169 | 46=>168 | 119=>199 | 139=>202 | 138=>201|n=>n,fun | 3=>4 | 4=>5|n=>n⟩
theorem Tryz.lays160t:Go.Proofs.Lays.n160 Tryz.prog Tryz.lays160t_ren:={
 mixed:=by kernel_rfl
 f119:=Tryz.func137.trans (congrArg some (by kernel_rfl))
 f120:=Tryz.func126.trans (congrArg some (by kernel_rfl))
 f137:=Tryz.func136.trans (congrArg some (by kernel_rfl))
 f151:=Tryz.func108.trans (congrArg some (by kernel_rfl))
 f152:=Tryz.func125.trans (congrArg some (by kernel_rfl))
 f160:=Tryz.func70.trans (congrArg some (by kernel_rfl))
 f197:=Tryz.func107.trans (congrArg some (by kernel_rfl))
 f217:=Tryz.func102.trans (congrArg some (by kernel_rfl))
 f224:=Tryz.func104.trans (congrArg some (by kernel_rfl))
 f225:=Tryz.func103.trans (congrArg some (by kernel_rfl))
 f227:=Tryz.func85.trans (congrArg some (by kernel_rfl))
 f228:=Tryz.func106.trans (congrArg some (by kernel_rfl))
 f231:=Tryz.func83.trans (congrArg some (by kernel_rfl))
 f232:=Tryz.func84.trans (congrArg some (by kernel_rfl))
 f233:=Tryz.func86.trans (congrArg some (by kernel_rfl))
 f234:=Tryz.func87.trans (congrArg some (by kernel_rfl))
 f235:=Tryz.func88.trans (congrArg some (by kernel_rfl))
 f236:=Tryz.func89.trans (congrArg some (by kernel_rfl))
 f260:=Tryz.func124.trans (congrArg some (by kernel_rfl))
 f266:=Tryz.func122.trans (congrArg some (by kernel_rfl))
 f271:=Tryz.func109.trans (congrArg some (by kernel_rfl))
 t0:=Tryz.underlying0
 a0:=Tryz.isAgg0
 z0:=Tryz.sizeOf0
 v0:=Tryz.zeroValue0
 t3:=Tryz.underlying3
 a3:=Tryz.isAgg3
 z3:=Tryz.sizeOf3
 v3:=Tryz.zeroValue3
 t4:=Tryz.underlying4
 a4:=Tryz.isAgg4
 z4:=Tryz.sizeOf4
 v4:=Tryz.zeroValue4
 t5:=Tryz.underlying5
 a5:=Tryz.isAgg5
 z5:=Tryz.sizeOf5
 v5:=Tryz.zeroValue5
 t9:=Tryz.underlying9
 a9:=Tryz.isAgg9
 z9:=Tryz.sizeOf9
 v9:=Tryz.zeroValue9
 t21:=Tryz.underlying21
 a21:=Tryz.isAgg21
 z21:=Tryz.sizeOf21
 v21:=Tryz.zeroValue21
 t46:=Tryz.underlying168
 a46:=Tryz.isAgg168
 z46:=Tryz.sizeOf168
 v46:=Tryz.zeroValue168
 t105:=Tryz.underlying169
 a105:=Tryz.isAgg169
 z105:=Tryz.sizeOf169
 v105:=Tryz.zeroValue169
 t116:=Tryz.underlying151
 a116:=Tryz.isAgg151
 z116:=Tryz.sizeOf151
 t117:=Tryz.underlying152
 a117:=Tryz.isAgg152
 z117:=Tryz.sizeOf152
 v117:=Tryz.zeroValue152
 t119:=Tryz.underlying199
 a119:=Tryz.isAgg199
 z119:=Tryz.sizeOf199
 t124:=Tryz.underlying155
 a124:=Tryz.isAgg155
 z124:=Tryz.sizeOf155
 v124:=Tryz.zeroValue155
 t138:=Tryz.underlying201
 a138:=Tryz.isAgg201
 z138:=Tryz.sizeOf201
 v138:=Tryz.zeroValue201
 t139:=Tryz.underlying202
 a139:=Tryz.isAgg202
 z139:=Tryz.sizeOf202
 v139:=Tryz.zeroValue202
 g3:=by kernel_rfl
 g4:=by kernel_rfl }
end Go.Proofs
