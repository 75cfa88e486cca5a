/- The library's contracts that the texts behind it lean on, laid at this program. No condition. -/
import Derived.Shelf.Strings.SlTrimAscii
import Derived.Shelf.Strings.Builder1
import Derived.Shelf.Strings.Builder2
import Derived.Shelf.Strings.OnBuilder
import Derived.Shelf.Strings.Trim
import Derived.Shelf.Small.Utf8
import Derived.Shelf.Small.Strs
import Derived.Shelf.Small.Wraps
import Derived.Shelf.Strings.BuilderF
import Derived.Shelf.Utf8.RuneCount
import Derived.Shelf.Strconv.Atoi
import Derived.Shelf.Strconv.Itoa0
import Derived.Shelf.Strconv.Itoa1
import Derived.Shelf.LaysM
import Derived.Shelf.Strconv.Itoa2
import Derived.Shelf.Strconv.Itoa3
import Derived.Shelf.Strconv.AtoiErrFast
import Derived.Shelf.Strconv.ParseIntEmpty
import Derived.Shelf.Strconv.AtoiFail
import Derived.Shelf.Strconv.Clone
import Derived.Shelf.Strconv.SyntaxError
import Derived.Shelf.LaysC
import Derived.Shelf.Strconv.ToError
import Derived.Shelf.Strconv.AtoiErr
import Derived.Shelf.Strconv.ErrVar
import Derived.Shelf.Strconv.Lower
import Derived.Shelf.Strconv.ParseUint10
import Derived.Shelf.Strconv.ParseUint10Empty
import Derived.Shelf.Strconv.ParseUint10Any
import Derived.Shelf.Strconv.ParseInt10
import Derived.Shelf.Strconv.AtoiLong
import Derived.Shelf.Strconv.AtoiInnerAll
import Derived.Shelf.Strconv.RangeError
import Derived.Shelf.Strconv.ToErrorRange
import Derived.Shelf.Strconv.AtoiAll
import Derived.Shelf.Strconv.ErrVarAll
import Derived.Shelf.Strings.Search1
import Derived.Shelf.Strings.Search2
import Derived.Shelf.Strings.Search3
import Derived.Shelf.Strings.Cut
import Derived.Shelf.Strings.Count
import Derived.Shelf.Strings.Shaped
import Derived.Shelf.Strings.Prefix
import Derived.Shelf.Strings.Split
import Derived.Shelf.Strings.SplitShaped
import Derived.Shelf.Unicode.Decode
import Derived.Shelf.Strings.Runes
import Derived.Shelf.Strings.RuneCount
import Derived.Shelf.Strings.AsciiSet
import Derived.Shelf.Strings.Explode
import Derived.Shelf.Bits.Mul64
import Derived.Shelf.Strings.Repeat
import Derived.Shelf.Unicode.DecodeSlow
import Derived.Shelf.Unicode.DecodeAny
import Derived.Shelf.Unicode.DecodeLast
import Derived.Shelf.Slices.Reverse
import Derived.Shelf.Slices.Cells
import Derived.Test.YtejoahlpbckbeaaGreatDoorProg
namespace Go.Proofs
open Go.Shelf
def Tryz.lays169_ren:Go.Shelf.Ren:=⟨fun | 169=>74|n=>n,fun | 70=>133 | 9=>9 | 0=>0 | 72=>136 | 37=>134 | 127=>205 | 3=>3 | 5=>5|n=>n,fun|n=>n⟩
theorem Tryz.lays169:Go.Proofs.Lays.n169 Tryz.prog Tryz.lays169_ren:={
 mixed:=by kernel_rfl
 f169:=Tryz.func74.trans (congrArg some (by kernel_rfl))
 t0:=Tryz.underlying0
 a0:=Tryz.isAgg0
 z0:=Tryz.sizeOf0
 v0:=Tryz.zeroValue0
 t3:=Tryz.underlying3
 a3:=Tryz.isAgg3
 z3:=Tryz.sizeOf3
 v3:=Tryz.zeroValue3
 t9:=Tryz.underlying9
 a9:=Tryz.isAgg9
 z9:=Tryz.sizeOf9
 v9:=Tryz.zeroValue9
 t37:=Tryz.underlying134
 a37:=Tryz.isAgg134
 z37:=Tryz.sizeOf134
 v37:=Tryz.zeroValue134
 t70:=Tryz.underlying133
 a70:=Tryz.isAgg133
 z70:=Tryz.sizeOf133
 v70:=Tryz.zeroValue133
 t72:=Tryz.underlying136
 a72:=Tryz.isAgg136
 z72:=Tryz.sizeOf136
 v72:=Tryz.zeroValue136
 t127:=Tryz.underlying205
 a127:=Tryz.isAgg205
 z127:=Tryz.sizeOf205
 v127:=Tryz.zeroValue205 }
theorem Tryz.Builder_Extra_169:Builder.Extra Tryz.prog Tryz.lays169_ren:={
 sizeBuilder:=by kernel_rfl
 liesBuilder:=by kernel_rfl
 t5:=Tryz.underlying5
 a5:=Tryz.isAgg5
 z5:=Tryz.sizeOf5
 v5:=Tryz.zeroValue5
 infoByte:=by kernel_rfl
 cellsByte:=by kernel_rfl
 sizeByte:=by kernel_rfl
 neB5:=by decide }
def Tryz.lays156_ren:Go.Shelf.Ren:=⟨fun | 156=>123 | 165=>178 | 166=>71 | 169=>74 | 240=>120 | 241=>217 | 276=>176 | 277=>260|n=>n,fun | 31=>143 | 9=>9 | 3=>3 | 4=>4 | 0=>0 | 20=>20 | 72=>136 | 76=>138 | 70=>133 | 37=>134 | 75=>28 | 127=>205 | 164=>243 | 5=>5 | 80=>104|n=>n,fun|n=>n⟩
theorem Tryz.lays156:Go.Proofs.Lays.n156 Tryz.prog Tryz.lays156_ren:={
 mixed:=by kernel_rfl
 f156:=Tryz.func123.trans (congrArg some (by kernel_rfl))
 f165:=Tryz.func178.trans (congrArg some (by kernel_rfl))
 f166:=Tryz.func71.trans (congrArg some (by kernel_rfl))
 f169:=Tryz.func74.trans (congrArg some (by kernel_rfl))
 f240:=Tryz.func120.trans (congrArg some (by kernel_rfl))
 f241:=Tryz.func217.trans (congrArg some (by kernel_rfl))
 f276:=Tryz.func176.trans (congrArg some (by kernel_rfl))
 f277:=Tryz.func260.trans (congrArg some (by kernel_rfl))
 t0:=Tryz.underlying0
 a0:=Tryz.isAgg0
 z0:=Tryz.sizeOf0
 v0:=Tryz.zeroValue0
 t3:=Tryz.underlying3
 a3:=Tryz.isAgg3
 z3:=Tryz.sizeOf3
 v3:=Tryz.zeroValue3
 t4:=Tryz.underlying4
 a4:=Tryz.isAgg4
 z4:=Tryz.sizeOf4
 v4:=Tryz.zeroValue4
 t9:=Tryz.underlying9
 a9:=Tryz.isAgg9
 z9:=Tryz.sizeOf9
 v9:=Tryz.zeroValue9
 t20:=Tryz.underlying20
 a20:=Tryz.isAgg20
 z20:=Tryz.sizeOf20
 v20:=Tryz.zeroValue20
 t31:=Tryz.underlying143
 a31:=Tryz.isAgg143
 z31:=Tryz.sizeOf143
 v31:=Tryz.zeroValue143
 t37:=Tryz.underlying134
 a37:=Tryz.isAgg134
 z37:=Tryz.sizeOf134
 v37:=Tryz.zeroValue134
 t70:=Tryz.underlying133
 a70:=Tryz.isAgg133
 z70:=Tryz.sizeOf133
 v70:=Tryz.zeroValue133
 t72:=Tryz.underlying136
 a72:=Tryz.isAgg136
 z72:=Tryz.sizeOf136
 v72:=Tryz.zeroValue136
 t75:=Tryz.underlying28
 a75:=Tryz.isAgg28
 z75:=Tryz.sizeOf28
 v75:=Tryz.zeroValue28
 t76:=Tryz.underlying138
 a76:=Tryz.isAgg138
 z76:=Tryz.sizeOf138
 v76:=Tryz.zeroValue138
 t127:=Tryz.underlying205
 a127:=Tryz.isAgg205
 z127:=Tryz.sizeOf205
 v127:=Tryz.zeroValue205
 t164:=Tryz.underlying243
 a164:=Tryz.isAgg243
 z164:=Tryz.sizeOf243
 v164:=Tryz.zeroValue243 }
theorem Tryz.Builder_Extra_156:Builder.Extra Tryz.prog Tryz.lays156_ren:={
 sizeBuilder:=by kernel_rfl
 liesBuilder:=by kernel_rfl
 t5:=Tryz.underlying5
 a5:=Tryz.isAgg5
 z5:=Tryz.sizeOf5
 v5:=Tryz.zeroValue5
 infoByte:=by kernel_rfl
 cellsByte:=by kernel_rfl
 sizeByte:=by kernel_rfl
 neB5:=by decide }
open Go.RowKit in
theorem Tryz.strings_Join_none (a:Option Addr) (c:Nat) (sep:ByteArray) (w:World) :
  Calls Tryz.prog 123 #[.slice a 0 c,.string sep] w fun e w'=>e = .returned (.string ⟨#[]⟩)∧w'=w:=Any.strings_Join_none Tryz.lays156 Tryz.Builder_Extra_156 a c sep w
open Go.RowKit in
theorem Tryz.strings_Join (bk o c:Nat) (xs:List ByteArray) (sep:ByteArray) (w:World) (hcells:∀ (j:Nat) x,xs[j]? = some x→w.cell? ⟨bk,o+j,none⟩=some (.string x)) (hbk:bk<w.heap.size) (hN:xs.length≤140737488355328) (hcap:xs.length≤c) (hlen:(Lib.join (xs.map (·.data.toList)) sep.data.toList).length≤140737488355328) :
  Calls Tryz.prog 123 #[.slice (some ⟨bk,o,none⟩) xs.length c,.string sep] w fun e w'=>e = .returned (.string ⟨(Lib.join (xs.map (·.data.toList)) sep.data.toList).toArray⟩)∧Below w.heap.size w w':=Any.strings_Join Tryz.lays156 Tryz.Builder_Extra_156 bk o c xs sep w hcells hbk hN hcap hlen
def Tryz.laysM144_ren:Go.Shelf.Ren:=⟨fun | 144=>204 | 143=>240 | 219=>167 | 217=>169 | 225=>209 | 224=>210 | 267=>211 | 266=>212 | 314=>249|n=>n,fun | 9=>9 | 4=>4 | 3=>3 | 5=>5 | 46=>194 | 146=>302 | 51=>23|n=>n,fun | 1=>0|n=>n⟩
theorem Tryz.laysM144:Go.Proofs.LaysM.n144 Tryz.prog Tryz.laysM144_ren:={
 mixed:=by kernel_rfl
 f143:=Tryz.func240.trans (congrArg some (by kernel_rfl))
 f144:=Tryz.func204.trans (congrArg some (by kernel_rfl))
 f217:=Tryz.func169.trans (congrArg some (by kernel_rfl))
 f219:=Tryz.func167.trans (congrArg some (by kernel_rfl))
 f224:=Tryz.func210.trans (congrArg some (by kernel_rfl))
 f225:=Tryz.func209.trans (congrArg some (by kernel_rfl))
 f266:=Tryz.func212.trans (congrArg some (by kernel_rfl))
 f267:=Tryz.func211.trans (congrArg some (by kernel_rfl))
 f314:=Tryz.func249.trans (congrArg some (by kernel_rfl))
 t3:=Tryz.underlying3
 a3:=Tryz.isAgg3
 z3:=Tryz.sizeOf3
 v3:=Tryz.zeroValue3
 t4:=Tryz.underlying4
 a4:=Tryz.isAgg4
 z4:=Tryz.sizeOf4
 v4:=Tryz.zeroValue4
 t5:=Tryz.underlying5
 a5:=Tryz.isAgg5
 z5:=Tryz.sizeOf5
 v5:=Tryz.zeroValue5
 t9:=Tryz.underlying9
 a9:=Tryz.isAgg9
 z9:=Tryz.sizeOf9
 v9:=Tryz.zeroValue9
 t46:=Tryz.underlying194
 a46:=Tryz.isAgg194
 z46:=Tryz.sizeOf194
 v46:=Tryz.zeroValue194
 t51:=Tryz.underlying23
 a51:=Tryz.isAgg23
 z51:=Tryz.sizeOf23
 v51:=Tryz.zeroValue23
 t146:=Tryz.underlying302
 a146:=Tryz.isAgg302
 z146:=Tryz.sizeOf302
 v146:=Tryz.zeroValue302
 g1:=by kernel_rfl
 i3:=by kernel_rfl
 i4:=by kernel_rfl
 i5:=by kernel_rfl
 i9:=by kernel_rfl
 i46:=by kernel_rfl
 i51:=by kernel_rfl
 i146:=by kernel_rfl
 m1:=by kernel_rfl
 s1_3:=fun w h=>Go.Proofs.cell_of_shapedOpen_int (zero:= #[.int .i64 0]) (t:=3) h (of_decide_eq_true (by kernel_rfl)) (by kernel_rfl) rfl (by kernel_rfl) (by kernel_rfl) Tryz.underlying3 }
open Go.RowKit Go.Lib in
theorem Tryz.strings_Contains_shaped (s sub:ByteArray) (w:World) (h:w.ShapedOpen Tryz.prog) (hs:s.size<4294967281) :
  Calls Tryz.prog 204 #[.string s,.string sub] w fun e w'=>e = .returned (.bool (Lib.contains s.data.toList sub.data.toList))∧w'=w:=Any.strings_Contains_shaped Tryz.laysM144 s sub w h hs
def Tryz.laysM145_ren:Go.Shelf.Ren:=⟨fun | 145=>62 | 220=>111 | 219=>167 | 217=>169 | 225=>209 | 224=>210 | 267=>211 | 266=>212 | 314=>249|n=>n,fun | 9=>9 | 4=>4 | 59=>122 | 3=>3 | 5=>5 | 46=>194 | 146=>302 | 51=>23|n=>n,fun | 1=>0|n=>n⟩
theorem Tryz.laysM145:Go.Proofs.LaysM.n145 Tryz.prog Tryz.laysM145_ren:={
 mixed:=by kernel_rfl
 f145:=Tryz.func62.trans (congrArg some (by kernel_rfl))
 f217:=Tryz.func169.trans (congrArg some (by kernel_rfl))
 f219:=Tryz.func167.trans (congrArg some (by kernel_rfl))
 f220:=Tryz.func111.trans (congrArg some (by kernel_rfl))
 f224:=Tryz.func210.trans (congrArg some (by kernel_rfl))
 f225:=Tryz.func209.trans (congrArg some (by kernel_rfl))
 f266:=Tryz.func212.trans (congrArg some (by kernel_rfl))
 f267:=Tryz.func211.trans (congrArg some (by kernel_rfl))
 f314:=Tryz.func249.trans (congrArg some (by kernel_rfl))
 t3:=Tryz.underlying3
 a3:=Tryz.isAgg3
 z3:=Tryz.sizeOf3
 v3:=Tryz.zeroValue3
 t4:=Tryz.underlying4
 a4:=Tryz.isAgg4
 z4:=Tryz.sizeOf4
 v4:=Tryz.zeroValue4
 t5:=Tryz.underlying5
 a5:=Tryz.isAgg5
 z5:=Tryz.sizeOf5
 v5:=Tryz.zeroValue5
 t9:=Tryz.underlying9
 a9:=Tryz.isAgg9
 z9:=Tryz.sizeOf9
 v9:=Tryz.zeroValue9
 t46:=Tryz.underlying194
 a46:=Tryz.isAgg194
 z46:=Tryz.sizeOf194
 v46:=Tryz.zeroValue194
 t51:=Tryz.underlying23
 a51:=Tryz.isAgg23
 z51:=Tryz.sizeOf23
 v51:=Tryz.zeroValue23
 t59:=Tryz.underlying122
 a59:=Tryz.isAgg122
 z59:=Tryz.sizeOf122
 v59:=Tryz.zeroValue122
 t146:=Tryz.underlying302
 a146:=Tryz.isAgg302
 z146:=Tryz.sizeOf302
 v146:=Tryz.zeroValue302
 g1:=by kernel_rfl
 i3:=by kernel_rfl
 i4:=by kernel_rfl
 i5:=by kernel_rfl
 i9:=by kernel_rfl
 i46:=by kernel_rfl
 i51:=by kernel_rfl
 i59:=by kernel_rfl
 i146:=by kernel_rfl
 m1:=by kernel_rfl
 s1_3:=fun w h=>Go.Proofs.cell_of_shapedOpen_int (zero:= #[.int .i64 0]) (t:=3) h (of_decide_eq_true (by kernel_rfl)) (by kernel_rfl) rfl (by kernel_rfl) (by kernel_rfl) Tryz.underlying3 }
open Go.RowKit Go.Lib in
theorem Tryz.strings_Cut_shaped (s sep:ByteArray) (w:World) (h:w.ShapedOpen Tryz.prog) (hs:s.size<4294967281) :
  Calls Tryz.prog 62 #[.string s,.string sep] w fun e w'=>e = .returned (.tuple #[.string ⟨(Lib.cut s.data.toList sep.data.toList).1.toArray⟩,.string ⟨(Lib.cut s.data.toList sep.data.toList).2.1.toArray⟩,.bool (Lib.cut s.data.toList sep.data.toList).2.2])∧∃ n,w'=w.drewN n:=Any.strings_Cut_shaped Tryz.laysM145 s sep w h hs
def Tryz.lays99_ren:Go.Shelf.Ren:=⟨fun | 99=>125 | 206=>168|n=>n,fun | 9=>9 | 4=>4 | 3=>3|n=>n,fun|n=>n⟩
theorem Tryz.lays99:Go.Proofs.Lays.n99 Tryz.prog Tryz.lays99_ren:={
 mixed:=by kernel_rfl
 f99:=Tryz.func125.trans (congrArg some (by kernel_rfl))
 f206:=Tryz.func168.trans (congrArg some (by kernel_rfl))
 t3:=Tryz.underlying3
 a3:=Tryz.isAgg3
 z3:=Tryz.sizeOf3
 v3:=Tryz.zeroValue3
 t4:=Tryz.underlying4
 a4:=Tryz.isAgg4
 z4:=Tryz.sizeOf4
 v4:=Tryz.zeroValue4
 t9:=Tryz.underlying9
 a9:=Tryz.isAgg9
 z9:=Tryz.sizeOf9
 v9:=Tryz.zeroValue9 }
open Go.RowKit Go.Lib in
theorem Tryz.strings_HasPrefix (s p:ByteArray) (w:World) :
  Calls Tryz.prog 125 #[.string s,.string p] w fun e w'=>e = .returned (.bool (Lib.hasPrefix s.data.toList p.data.toList))∧w'=w:=Any.strings_HasPrefix Tryz.lays99 s p w
def Tryz.lays101_ren:Go.Shelf.Ren:=⟨fun | 101=>63 | 208=>112 | 206=>168|n=>n,fun | 9=>9 | 4=>4 | 3=>3|n=>n,fun|n=>n⟩
theorem Tryz.lays101:Go.Proofs.Lays.n101 Tryz.prog Tryz.lays101_ren:={
 mixed:=by kernel_rfl
 f101:=Tryz.func63.trans (congrArg some (by kernel_rfl))
 f206:=Tryz.func168.trans (congrArg some (by kernel_rfl))
 f208:=Tryz.func112.trans (congrArg some (by kernel_rfl))
 t3:=Tryz.underlying3
 a3:=Tryz.isAgg3
 z3:=Tryz.sizeOf3
 v3:=Tryz.zeroValue3
 t4:=Tryz.underlying4
 a4:=Tryz.isAgg4
 z4:=Tryz.sizeOf4
 v4:=Tryz.zeroValue4
 t9:=Tryz.underlying9
 a9:=Tryz.isAgg9
 z9:=Tryz.sizeOf9
 v9:=Tryz.zeroValue9 }
open Go.RowKit Go.Lib in
theorem Tryz.strings_TrimPrefix (s p:ByteArray) (w:World) :
  Calls Tryz.prog 63 #[.string s,.string p] w fun e w'=>e = .returned (.string ⟨(Lib.trimPrefix s.data.toList p.data.toList).toArray⟩)∧w'=w:=Any.strings_TrimPrefix Tryz.lays101 s p w
def Tryz.laysM146_ren:Go.Shelf.Ren:=⟨fun | 146=>174 | 221=>215 | 268=>254 | 138=>255 | 143=>240 | 195=>279 | 197=>273 | 218=>280 | 219=>167 | 260=>291 | 217=>169 | 225=>209 | 224=>210 | 267=>211 | 266=>212 | 314=>249|n=>n,fun | 9=>9 | 31=>143 | 3=>3 | 4=>4 | 0=>0 | 105=>332 | 21=>21 | 5=>5 | 46=>194 | 119=>362 | 139=>365 | 138=>364 | 146=>302 | 51=>23|n=>n,fun | 1=>0 | 3=>5 | 4=>6|n=>n⟩
theorem Tryz.laysM146:Go.Proofs.LaysM.n146 Tryz.prog Tryz.laysM146_ren:={
 mixed:=by kernel_rfl
 f138:=Tryz.func255.trans (congrArg some (by kernel_rfl))
 f143:=Tryz.func240.trans (congrArg some (by kernel_rfl))
 f146:=Tryz.func174.trans (congrArg some (by kernel_rfl))
 f195:=Tryz.func279.trans (congrArg some (by kernel_rfl))
 f197:=Tryz.func273.trans (congrArg some (by kernel_rfl))
 f217:=Tryz.func169.trans (congrArg some (by kernel_rfl))
 f218:=Tryz.func280.trans (congrArg some (by kernel_rfl))
 f219:=Tryz.func167.trans (congrArg some (by kernel_rfl))
 f221:=Tryz.func215.trans (congrArg some (by kernel_rfl))
 f224:=Tryz.func210.trans (congrArg some (by kernel_rfl))
 f225:=Tryz.func209.trans (congrArg some (by kernel_rfl))
 f260:=Tryz.func291.trans (congrArg some (by kernel_rfl))
 f266:=Tryz.func212.trans (congrArg some (by kernel_rfl))
 f267:=Tryz.func211.trans (congrArg some (by kernel_rfl))
 f268:=Tryz.func254.trans (congrArg some (by kernel_rfl))
 f314:=Tryz.func249.trans (congrArg some (by kernel_rfl))
 t0:=Tryz.underlying0
 a0:=Tryz.isAgg0
 z0:=Tryz.sizeOf0
 v0:=Tryz.zeroValue0
 t3:=Tryz.underlying3
 a3:=Tryz.isAgg3
 z3:=Tryz.sizeOf3
 v3:=Tryz.zeroValue3
 t4:=Tryz.underlying4
 a4:=Tryz.isAgg4
 z4:=Tryz.sizeOf4
 v4:=Tryz.zeroValue4
 t5:=Tryz.underlying5
 a5:=Tryz.isAgg5
 z5:=Tryz.sizeOf5
 v5:=Tryz.zeroValue5
 t9:=Tryz.underlying9
 a9:=Tryz.isAgg9
 z9:=Tryz.sizeOf9
 v9:=Tryz.zeroValue9
 t21:=Tryz.underlying21
 a21:=Tryz.isAgg21
 z21:=Tryz.sizeOf21
 v21:=Tryz.zeroValue21
 t31:=Tryz.underlying143
 a31:=Tryz.isAgg143
 z31:=Tryz.sizeOf143
 v31:=Tryz.zeroValue143
 t46:=Tryz.underlying194
 a46:=Tryz.isAgg194
 z46:=Tryz.sizeOf194
 v46:=Tryz.zeroValue194
 t51:=Tryz.underlying23
 a51:=Tryz.isAgg23
 z51:=Tryz.sizeOf23
 v51:=Tryz.zeroValue23
 t105:=Tryz.underlying332
 a105:=Tryz.isAgg332
 z105:=Tryz.sizeOf332
 v105:=Tryz.zeroValue332
 t119:=Tryz.underlying362
 a119:=Tryz.isAgg362
 z119:=Tryz.sizeOf362
 t138:=Tryz.underlying364
 a138:=Tryz.isAgg364
 z138:=Tryz.sizeOf364
 v138:=Tryz.zeroValue364
 t139:=Tryz.underlying365
 a139:=Tryz.isAgg365
 z139:=Tryz.sizeOf365
 v139:=Tryz.zeroValue365
 t146:=Tryz.underlying302
 a146:=Tryz.isAgg302
 z146:=Tryz.sizeOf302
 v146:=Tryz.zeroValue302
 g1:=by kernel_rfl
 g3:=by kernel_rfl
 g4:=by kernel_rfl
 i0:=by kernel_rfl
 i3:=by kernel_rfl
 i4:=by kernel_rfl
 i5:=by kernel_rfl
 i9:=by kernel_rfl
 i21:=by kernel_rfl
 i31:=by kernel_rfl
 i46:=by kernel_rfl
 i51:=by kernel_rfl
 i105:=by kernel_rfl
 i138:=by kernel_rfl
 i139:=by kernel_rfl
 i146:=by kernel_rfl
 m1:=by kernel_rfl
 s1_3:=fun w h=>Go.Proofs.cell_of_shapedOpen_int (zero:= #[.int .i64 0]) (t:=3) h (of_decide_eq_true (by kernel_rfl)) (by kernel_rfl) rfl (by kernel_rfl) (by kernel_rfl) Tryz.underlying3
 m3:=by kernel_rfl
 m4:=by kernel_rfl }
open Go.RowKit Go.Lib in
theorem Tryz.strings_Split_shaped (s sep:ByteArray) (w:World) (h:w.ShapedOpen Tryz.prog) (hs:s.size<4294967281) (h1:1≤sep.size) :
  Calls Tryz.prog 174 #[.string s,.string sep] w fun e w'=>
   e = .returned (.slice (some ⟨w.heap.size,0,none⟩) (Lib.countB s sep+1) (Lib.countB s sep+1))∧w'=w.alloc (.cells ((Lib.splitB sep 0 (Lib.countB s sep) s).map Value.string).toArray 9):=Any.strings_Split_shaped Tryz.laysM146 s sep w h hs h1
def Tryz.lays160t_ren:Go.Shelf.Ren:=⟨fun | 160=>205 | 232=>242 | 231=>241 | 227=>243 | 234=>245 | 233=>244 | 236=>247 | 235=>246 | 228=>272 | 271=>275 | 151=>274 | 197=>273 | 120=>293 | 152=>292 | 260=>291 | 137=>113 | 119=>297 | 224=>210 | 225=>209 | 217=>169 | 266=>212|n=>n,fun | 9=>9 | 4=>4 | 3=>3 | 5=>5 | 117=>298 | 116=>297 | 0=>0 | 124=>301 | 21=>21 | 105=>332 | 46=>194 | 119=>362 | 139=>365 | 138=>364|n=>n,fun | 3=>5 | 4=>6|n=>n⟩
theorem Tryz.lays160t:Go.Proofs.Lays.n160 Tryz.prog Tryz.lays160t_ren:={
 mixed:=by kernel_rfl
 f119:=Tryz.func297.trans (congrArg some (by kernel_rfl))
 f120:=Tryz.func293.trans (congrArg some (by kernel_rfl))
 f137:=Tryz.func113.trans (congrArg some (by kernel_rfl))
 f151:=Tryz.func274.trans (congrArg some (by kernel_rfl))
 f152:=Tryz.func292.trans (congrArg some (by kernel_rfl))
 f160:=Tryz.func205.trans (congrArg some (by kernel_rfl))
 f197:=Tryz.func273.trans (congrArg some (by kernel_rfl))
 f217:=Tryz.func169.trans (congrArg some (by kernel_rfl))
 f224:=Tryz.func210.trans (congrArg some (by kernel_rfl))
 f225:=Tryz.func209.trans (congrArg some (by kernel_rfl))
 f227:=Tryz.func243.trans (congrArg some (by kernel_rfl))
 f228:=Tryz.func272.trans (congrArg some (by kernel_rfl))
 f231:=Tryz.func241.trans (congrArg some (by kernel_rfl))
 f232:=Tryz.func242.trans (congrArg some (by kernel_rfl))
 f233:=Tryz.func244.trans (congrArg some (by kernel_rfl))
 f234:=Tryz.func245.trans (congrArg some (by kernel_rfl))
 f235:=Tryz.func246.trans (congrArg some (by kernel_rfl))
 f236:=Tryz.func247.trans (congrArg some (by kernel_rfl))
 f260:=Tryz.func291.trans (congrArg some (by kernel_rfl))
 f266:=Tryz.func212.trans (congrArg some (by kernel_rfl))
 f271:=Tryz.func275.trans (congrArg some (by kernel_rfl))
 t0:=Tryz.underlying0
 a0:=Tryz.isAgg0
 z0:=Tryz.sizeOf0
 v0:=Tryz.zeroValue0
 t3:=Tryz.underlying3
 a3:=Tryz.isAgg3
 z3:=Tryz.sizeOf3
 v3:=Tryz.zeroValue3
 t4:=Tryz.underlying4
 a4:=Tryz.isAgg4
 z4:=Tryz.sizeOf4
 v4:=Tryz.zeroValue4
 t5:=Tryz.underlying5
 a5:=Tryz.isAgg5
 z5:=Tryz.sizeOf5
 v5:=Tryz.zeroValue5
 t9:=Tryz.underlying9
 a9:=Tryz.isAgg9
 z9:=Tryz.sizeOf9
 v9:=Tryz.zeroValue9
 t21:=Tryz.underlying21
 a21:=Tryz.isAgg21
 z21:=Tryz.sizeOf21
 v21:=Tryz.zeroValue21
 t46:=Tryz.underlying194
 a46:=Tryz.isAgg194
 z46:=Tryz.sizeOf194
 v46:=Tryz.zeroValue194
 t105:=Tryz.underlying332
 a105:=Tryz.isAgg332
 z105:=Tryz.sizeOf332
 v105:=Tryz.zeroValue332
 t116:=Tryz.underlying297
 a116:=Tryz.isAgg297
 z116:=Tryz.sizeOf297
 t117:=Tryz.underlying298
 a117:=Tryz.isAgg298
 z117:=Tryz.sizeOf298
 v117:=Tryz.zeroValue298
 t119:=Tryz.underlying362
 a119:=Tryz.isAgg362
 z119:=Tryz.sizeOf362
 t124:=Tryz.underlying301
 a124:=Tryz.isAgg301
 z124:=Tryz.sizeOf301
 v124:=Tryz.zeroValue301
 t138:=Tryz.underlying364
 a138:=Tryz.isAgg364
 z138:=Tryz.sizeOf364
 v138:=Tryz.zeroValue364
 t139:=Tryz.underlying365
 a139:=Tryz.isAgg365
 z139:=Tryz.sizeOf365
 v139:=Tryz.zeroValue365
 g3:=by kernel_rfl
 g4:=by kernel_rfl }
end Go.Proofs
