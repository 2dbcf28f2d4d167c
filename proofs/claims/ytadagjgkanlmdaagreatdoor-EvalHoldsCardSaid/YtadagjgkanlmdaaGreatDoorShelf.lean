import Derived.Shelf.Strings.Builder1
import Derived.Shelf.Strings.Builder2
import Derived.Shelf.Strings.Trim
import Derived.Shelf.Small.Utf8
import Derived.Shelf.Small.Strs
import Derived.Shelf.Small.Wraps
import Derived.Shelf.Strings.BuilderF
import Derived.Shelf.Strings.BuilderK
import Derived.Shelf.Strconv.Atoi
import Derived.Shelf.Strconv.Itoa0
import Derived.Shelf.Strconv.Itoa1
import Derived.Shelf.LaysM
import Derived.Shelf.Strconv.Itoa2
import Derived.Shelf.Strconv.Itoa3
import Derived.Shelf.Strings.Search1
import Derived.Shelf.Strings.Search2
import Derived.Shelf.Strings.Search3
import Derived.Shelf.Strings.Cut
import Derived.Shelf.Strings.Shaped
import Derived.Shelf.Strings.Prefix
import Derived.Shelf.Unicode.Decode
import Derived.Shelf.Strings.Runes
import Derived.Shelf.Strings.AsciiSet
import Derived.Shelf.Bits.Mul64
import Derived.Shelf.Strings.Repeat
import Derived.Shelf.Unicode.DecodeSlow
import Derived.Shelf.Unicode.DecodeAny
import Derived.Shelf.Unicode.DecodeLast
import Derived.Ground.Names2Prog
import Derived.Shelf.Slices.SearchI
import Derived.Test.YtadagjgkanlmdaaGreatDoorProg
namespace Go.Proofs
open Go.Shelf
def Tryz.lays169_ren:Go.Shelf.Ren:=⟨fun|169=>58|n=>n,fun|70=>111|9=>9|0=>0|72=>113|37=>23|127=>140|3=>3|5=>5|n=>n,fun|n=>n⟩
theorem Tryz.lays169:Go.Proofs.Lays.n169 Tryz.prog Tryz.lays169_ren:={
  mixed:=by kernel_rfl
  f169:=Tryz.func58.trans (congrArg some (by kernel_rfl))
  t0:=Tryz.underlying0
  a0:=Tryz.isAgg0
  z0:=Tryz.sizeOf0
  v0:=Tryz.zeroValue0
  t3:=Tryz.underlying3
  a3:=Tryz.isAgg3
  z3:=Tryz.sizeOf3
  v3:=Tryz.zeroValue3
  t9:=Tryz.underlying9
  a9:=Tryz.isAgg9
  z9:=Tryz.sizeOf9
  v9:=Tryz.zeroValue9
  t37:=Tryz.underlying23
  a37:=Tryz.isAgg23
  z37:=Tryz.sizeOf23
  v37:=Tryz.zeroValue23
  t70:=Tryz.underlying111
  a70:=Tryz.isAgg111
  z70:=Tryz.sizeOf111
  v70:=Tryz.zeroValue111
  t72:=Tryz.underlying113
  a72:=Tryz.isAgg113
  z72:=Tryz.sizeOf113
  v72:=Tryz.zeroValue113
  t127:=Tryz.underlying140
  a127:=Tryz.isAgg140
  z127:=Tryz.sizeOf140
  v127:=Tryz.zeroValue140}
theorem Tryz.Builder_Extra_169:Builder.Extra Tryz.prog Tryz.lays169_ren:={
  sizeBuilder:=by kernel_rfl
  liesBuilder:=by kernel_rfl
  t5:=Tryz.underlying5
  a5:=Tryz.isAgg5
  z5:=Tryz.sizeOf5
  v5:=Tryz.zeroValue5
  infoByte:=by kernel_rfl
  cellsByte:=by kernel_rfl
  sizeByte:=by kernel_rfl
  neB5:=by decide}
open Go.RowKit in
theorem Tryz.Builder_String_any (B b:Nat) (l:List UInt8) (w:World) (h:Lib.IsBuilder 113 5 B b (Lib.byteCells l) w) (hBw:B≤w.heap.size) :
    Calls Tryz.prog 58 #[.pointer (some ⟨b,0,none⟩)] w fun e w'=>e= .returned (.string ⟨l.toArray⟩)∧Below B w w':=Any.Builder_String_any Tryz.lays169 Tryz.Builder_Extra_169 B b l w h hBw
def Tryz.lays161_ren:Go.Shelf.Ren:=⟨fun|161=>48|231=>75|227=>76|233=>77|235=>78|228=>100|197=>101|151=>102|260=>111|152=>112|137=>69|119=>120|224=>121|225=>122|217=>95|266=>109|n=>n,fun|9=>9|4=>4|3=>3|5=>5|117=>133|116=>132|0=>0|124=>136|105=>155|21=>21|119=>169|46=>38|139=>172|138=>171|n=>n,fun|3=>1|4=>2|n=>n⟩
theorem Tryz.lays161:Go.Proofs.Lays.n161 Tryz.prog Tryz.lays161_ren:={
  mixed:=by kernel_rfl
  f119:=Tryz.func120.trans (congrArg some (by kernel_rfl))
  f137:=Tryz.func69.trans (congrArg some (by kernel_rfl))
  f151:=Tryz.func102.trans (congrArg some (by kernel_rfl))
  f152:=Tryz.func112.trans (congrArg some (by kernel_rfl))
  f161:=Tryz.func48.trans (congrArg some (by kernel_rfl))
  f197:=Tryz.func101.trans (congrArg some (by kernel_rfl))
  f217:=Tryz.func95.trans (congrArg some (by kernel_rfl))
  f224:=Tryz.func121.trans (congrArg some (by kernel_rfl))
  f225:=Tryz.func122.trans (congrArg some (by kernel_rfl))
  f227:=Tryz.func76.trans (congrArg some (by kernel_rfl))
  f228:=Tryz.func100.trans (congrArg some (by kernel_rfl))
  f231:=Tryz.func75.trans (congrArg some (by kernel_rfl))
  f233:=Tryz.func77.trans (congrArg some (by kernel_rfl))
  f235:=Tryz.func78.trans (congrArg some (by kernel_rfl))
  f260:=Tryz.func111.trans (congrArg some (by kernel_rfl))
  f266:=Tryz.func109.trans (congrArg some (by kernel_rfl))
  t0:=Tryz.underlying0
  a0:=Tryz.isAgg0
  z0:=Tryz.sizeOf0
  v0:=Tryz.zeroValue0
  t3:=Tryz.underlying3
  a3:=Tryz.isAgg3
  z3:=Tryz.sizeOf3
  v3:=Tryz.zeroValue3
  t4:=Tryz.underlying4
  a4:=Tryz.isAgg4
  z4:=Tryz.sizeOf4
  v4:=Tryz.zeroValue4
  t5:=Tryz.underlying5
  a5:=Tryz.isAgg5
  z5:=Tryz.sizeOf5
  v5:=Tryz.zeroValue5
  t9:=Tryz.underlying9
  a9:=Tryz.isAgg9
  z9:=Tryz.sizeOf9
  v9:=Tryz.zeroValue9
  t21:=Tryz.underlying21
  a21:=Tryz.isAgg21
  z21:=Tryz.sizeOf21
  v21:=Tryz.zeroValue21
  t46:=Tryz.underlying38
  a46:=Tryz.isAgg38
  z46:=Tryz.sizeOf38
  v46:=Tryz.zeroValue38
  t105:=Tryz.underlying155
  a105:=Tryz.isAgg155
  z105:=Tryz.sizeOf155
  v105:=Tryz.zeroValue155
  t116:=Tryz.underlying132
  a116:=Tryz.isAgg132
  z116:=Tryz.sizeOf132
  t117:=Tryz.underlying133
  a117:=Tryz.isAgg133
  z117:=Tryz.sizeOf133
  v117:=Tryz.zeroValue133
  t119:=Tryz.underlying169
  a119:=Tryz.isAgg169
  z119:=Tryz.sizeOf169
  t124:=Tryz.underlying136
  a124:=Tryz.isAgg136
  z124:=Tryz.sizeOf136
  v124:=Tryz.zeroValue136
  t138:=Tryz.underlying171
  a138:=Tryz.isAgg171
  z138:=Tryz.sizeOf171
  v138:=Tryz.zeroValue171
  t139:=Tryz.underlying172
  a139:=Tryz.isAgg172
  z139:=Tryz.sizeOf172
  v139:=Tryz.zeroValue172
  g3:=by kernel_rfl
  g4:=by kernel_rfl}
open Go.RowKit in
theorem Tryz.strings_TrimLeft_one (s:ByteArray) (c:UInt8) (hc:c.toNat<128) (w:World) :
    Calls Tryz.prog 48 #[.string s,.string ⟨#[c]⟩] w fun e w'=>e= .returned (.string ⟨(Lib.trimLeftB s.data.toList c).toArray⟩)∧w'=w:=Any.strings_TrimLeft_one Tryz.lays161 s c hc w
def Tryz.lays162_ren:Go.Shelf.Ren:=⟨fun|162=>65|232=>91|227=>76|234=>92|236=>93|228=>100|271=>108|151=>102|120=>119|197=>101|152=>112|260=>111|137=>69|119=>120|224=>121|225=>122|217=>95|266=>109|n=>n,fun|9=>9|4=>4|3=>3|5=>5|117=>133|116=>132|0=>0|124=>136|21=>21|105=>155|46=>38|119=>169|139=>172|138=>171|n=>n,fun|3=>1|4=>2|n=>n⟩
theorem Tryz.lays162:Go.Proofs.Lays.n162 Tryz.prog Tryz.lays162_ren:={
  mixed:=by kernel_rfl
  f119:=Tryz.func120.trans (congrArg some (by kernel_rfl))
  f120:=Tryz.func119.trans (congrArg some (by kernel_rfl))
  f137:=Tryz.func69.trans (congrArg some (by kernel_rfl))
  f151:=Tryz.func102.trans (congrArg some (by kernel_rfl))
  f152:=Tryz.func112.trans (congrArg some (by kernel_rfl))
  f162:=Tryz.func65.trans (congrArg some (by kernel_rfl))
  f197:=Tryz.func101.trans (congrArg some (by kernel_rfl))
  f217:=Tryz.func95.trans (congrArg some (by kernel_rfl))
  f224:=Tryz.func121.trans (congrArg some (by kernel_rfl))
  f225:=Tryz.func122.trans (congrArg some (by kernel_rfl))
  f227:=Tryz.func76.trans (congrArg some (by kernel_rfl))
  f228:=Tryz.func100.trans (congrArg some (by kernel_rfl))
  f232:=Tryz.func91.trans (congrArg some (by kernel_rfl))
  f234:=Tryz.func92.trans (congrArg some (by kernel_rfl))
  f236:=Tryz.func93.trans (congrArg some (by kernel_rfl))
  f260:=Tryz.func111.trans (congrArg some (by kernel_rfl))
  f266:=Tryz.func109.trans (congrArg some (by kernel_rfl))
  f271:=Tryz.func108.trans (congrArg some (by kernel_rfl))
  t0:=Tryz.underlying0
  a0:=Tryz.isAgg0
  z0:=Tryz.sizeOf0
  v0:=Tryz.zeroValue0
  t3:=Tryz.underlying3
  a3:=Tryz.isAgg3
  z3:=Tryz.sizeOf3
  v3:=Tryz.zeroValue3
  t4:=Tryz.underlying4
  a4:=Tryz.isAgg4
  z4:=Tryz.sizeOf4
  v4:=Tryz.zeroValue4
  t5:=Tryz.underlying5
  a5:=Tryz.isAgg5
  z5:=Tryz.sizeOf5
  v5:=Tryz.zeroValue5
  t9:=Tryz.underlying9
  a9:=Tryz.isAgg9
  z9:=Tryz.sizeOf9
  v9:=Tryz.zeroValue9
  t21:=Tryz.underlying21
  a21:=Tryz.isAgg21
  z21:=Tryz.sizeOf21
  v21:=Tryz.zeroValue21
  t46:=Tryz.underlying38
  a46:=Tryz.isAgg38
  z46:=Tryz.sizeOf38
  v46:=Tryz.zeroValue38
  t105:=Tryz.underlying155
  a105:=Tryz.isAgg155
  z105:=Tryz.sizeOf155
  v105:=Tryz.zeroValue155
  t116:=Tryz.underlying132
  a116:=Tryz.isAgg132
  z116:=Tryz.sizeOf132
  t117:=Tryz.underlying133
  a117:=Tryz.isAgg133
  z117:=Tryz.sizeOf133
  v117:=Tryz.zeroValue133
  t119:=Tryz.underlying169
  a119:=Tryz.isAgg169
  z119:=Tryz.sizeOf169
  t124:=Tryz.underlying136
  a124:=Tryz.isAgg136
  z124:=Tryz.sizeOf136
  v124:=Tryz.zeroValue136
  t138:=Tryz.underlying171
  a138:=Tryz.isAgg171
  z138:=Tryz.sizeOf171
  v138:=Tryz.zeroValue171
  t139:=Tryz.underlying172
  a139:=Tryz.isAgg172
  z139:=Tryz.sizeOf172
  v139:=Tryz.zeroValue172
  g3:=by kernel_rfl
  g4:=by kernel_rfl}
open Go.RowKit in
theorem Tryz.strings_TrimRight_one (s:ByteArray) (c:UInt8) (hc:c.toNat<128) (w:World) (hs:s.size≤9223372036854775807) :
    Calls Tryz.prog 65 #[.string s,.string ⟨#[c]⟩] w fun e w'=>e= .returned (.string ⟨(Lib.trimRightB s.data.toList c).toArray⟩)∧w'=w:=Any.strings_TrimRight_one Tryz.lays162 s c hc w hs
def Tryz.lays106_ren:Go.Shelf.Ren:=⟨fun|106=>118|213=>127|265=>131|n=>n,fun|9=>9|3=>3|n=>n,fun|n=>n⟩
theorem Tryz.lays106:Go.Proofs.Lays.n106 Tryz.prog Tryz.lays106_ren:={
  mixed:=by kernel_rfl
  f106:=Tryz.func118.trans (congrArg some (by kernel_rfl))
  f213:=Tryz.func127.trans (congrArg some (by kernel_rfl))
  f265:=Tryz.func131.trans (congrArg some (by kernel_rfl))
  t3:=Tryz.underlying3
  a3:=Tryz.isAgg3
  z3:=Tryz.sizeOf3
  v3:=Tryz.zeroValue3
  t9:=Tryz.underlying9
  a9:=Tryz.isAgg9
  z9:=Tryz.sizeOf9
  v9:=Tryz.zeroValue9}
open Go.RowKit in
theorem Tryz.strings_Compare (a b:ByteArray) (w:World) :
    Calls Tryz.prog 118 #[.string a,.string b] w fun e w'=>e= .returned (.int .i64 (Lib.compareBytes a.data.toList b.data.toList))∧w'=w:=Any.strings_Compare Tryz.lays106 a b w
def Tryz.lays137_ren:Go.Shelf.Ren:=⟨fun|137=>69|217=>95|266=>109|n=>n,fun|9=>9|5=>5|3=>3|n=>n,fun|n=>n⟩
theorem Tryz.lays137:Go.Proofs.Lays.n137 Tryz.prog Tryz.lays137_ren:={
  mixed:=by kernel_rfl
  f137:=Tryz.func69.trans (congrArg some (by kernel_rfl))
  f217:=Tryz.func95.trans (congrArg some (by kernel_rfl))
  f266:=Tryz.func109.trans (congrArg some (by kernel_rfl))
  t3:=Tryz.underlying3
  a3:=Tryz.isAgg3
  z3:=Tryz.sizeOf3
  v3:=Tryz.zeroValue3
  t5:=Tryz.underlying5
  a5:=Tryz.isAgg5
  z5:=Tryz.sizeOf5
  v5:=Tryz.zeroValue5
  t9:=Tryz.underlying9
  a9:=Tryz.isAgg9
  z9:=Tryz.sizeOf9
  v9:=Tryz.zeroValue9}
open Go.RowKit in
theorem Tryz.strings_IndexByte (s:ByteArray) (c:Int) (w:World) :
    Calls Tryz.prog 69 #[.string s,.int .u8 c] w fun e w'=>e= .returned (.int .i64 (Lib.indexByte s.data.toList c.toNat.toUInt8))∧w'=w:=Any.strings_IndexByte Tryz.lays137 s c w
def Tryz.lays122_ren:Go.Shelf.Ren:=⟨fun|122=>117|215=>126|n=>n,fun|3=>3|4=>4|n=>n,fun|n=>n⟩
theorem Tryz.lays122:Go.Proofs.Lays.n122 Tryz.prog Tryz.lays122_ren:={
  mixed:=by kernel_rfl
  f122:=Tryz.func117.trans (congrArg some (by kernel_rfl))
  f215:=Tryz.func126.trans (congrArg some (by kernel_rfl))
  t3:=Tryz.underlying3
  a3:=Tryz.isAgg3
  z3:=Tryz.sizeOf3
  v3:=Tryz.zeroValue3
  t4:=Tryz.underlying4
  a4:=Tryz.isAgg4
  z4:=Tryz.sizeOf4
  v4:=Tryz.zeroValue4}
open Go.RowKit in
theorem Tryz.cmp_Compare_int (x y:Int) (w:World) :
    Calls Tryz.prog 117 #[.int .i64 x,.int .i64 y] w fun e w'=>e= .returned (.int .i64 (Lib.compareInt x y))∧w'=w:=Any.cmp_Compare_int Tryz.lays122 x y w
def Tryz.lays172_ren:Go.Shelf.Ren:=⟨fun|172=>124|244=>128|245=>129|247=>132|279=>133|280=>134|281=>135|282=>136|287=>138|316=>139|171=>141|205=>140|321=>142|322=>143|243=>144|246=>145|283=>146|284=>147|285=>148|286=>149|129=>151|317=>150|318=>152|319=>153|320=>154|337=>155|338=>156|n=>n,fun|9=>9|3=>3|75=>115|76=>128|4=>4|5=>5|167=>176|37=>23|0=>0|85=>177|2=>2|168=>179|53=>151|175=>183|46=>38|210=>186|127=>140|145=>191|143=>189|21=>21|171=>193|173=>196|212=>199|51=>148|20=>20|213=>200|232=>203|233=>204|80=>106|n=>n,fun|15=>3|16=>4|17=>5|18=>6|19=>7|n=>n⟩
theorem Tryz.lays172:Go.Proofs.Lays.n172 Tryz.prog Tryz.lays172_ren:={
  mixed:=by kernel_rfl
  f129:=Tryz.func151.trans (congrArg some (by kernel_rfl))
  f171:=Tryz.func141.trans (congrArg some (by kernel_rfl))
  f172:=Tryz.func124.trans (congrArg some (by kernel_rfl))
  f205:=Tryz.func140.trans (congrArg some (by kernel_rfl))
  f243:=Tryz.func144.trans (congrArg some (by kernel_rfl))
  f244:=Tryz.func128.trans (congrArg some (by kernel_rfl))
  f245:=Tryz.func129.trans (congrArg some (by kernel_rfl))
  f246:=Tryz.func145.trans (congrArg some (by kernel_rfl))
  f247:=Tryz.func132.trans (congrArg some (by kernel_rfl))
  f279:=Tryz.func133.trans (congrArg some (by kernel_rfl))
  f280:=Tryz.func134.trans (congrArg some (by kernel_rfl))
  f281:=Tryz.func135.trans (congrArg some (by kernel_rfl))
  f282:=Tryz.func136.trans (congrArg some (by kernel_rfl))
  f283:=Tryz.func146.trans (congrArg some (by kernel_rfl))
  f284:=Tryz.func147.trans (congrArg some (by kernel_rfl))
  f285:=Tryz.func148.trans (congrArg some (by kernel_rfl))
  f286:=Tryz.func149.trans (congrArg some (by kernel_rfl))
  f287:=Tryz.func138.trans (congrArg some (by kernel_rfl))
  f316:=Tryz.func139.trans (congrArg some (by kernel_rfl))
  f317:=Tryz.func150.trans (congrArg some (by kernel_rfl))
  f318:=Tryz.func152.trans (congrArg some (by kernel_rfl))
  f319:=Tryz.func153.trans (congrArg some (by kernel_rfl))
  f320:=Tryz.func154.trans (congrArg some (by kernel_rfl))
  f321:=Tryz.func142.trans (congrArg some (by kernel_rfl))
  f322:=Tryz.func143.trans (congrArg some (by kernel_rfl))
  f337:=Tryz.func155.trans (congrArg some (by kernel_rfl))
  f338:=Tryz.func156.trans (congrArg some (by kernel_rfl))
  t0:=Tryz.underlying0
  a0:=Tryz.isAgg0
  z0:=Tryz.sizeOf0
  v0:=Tryz.zeroValue0
  t2:=Tryz.underlying2
  a2:=Tryz.isAgg2
  z2:=Tryz.sizeOf2
  v2:=Tryz.zeroValue2
  t3:=Tryz.underlying3
  a3:=Tryz.isAgg3
  z3:=Tryz.sizeOf3
  v3:=Tryz.zeroValue3
  t4:=Tryz.underlying4
  a4:=Tryz.isAgg4
  z4:=Tryz.sizeOf4
  v4:=Tryz.zeroValue4
  t5:=Tryz.underlying5
  a5:=Tryz.isAgg5
  z5:=Tryz.sizeOf5
  v5:=Tryz.zeroValue5
  t9:=Tryz.underlying9
  a9:=Tryz.isAgg9
  z9:=Tryz.sizeOf9
  v9:=Tryz.zeroValue9
  t20:=Tryz.underlying20
  a20:=Tryz.isAgg20
  z20:=Tryz.sizeOf20
  v20:=Tryz.zeroValue20
  t21:=Tryz.underlying21
  a21:=Tryz.isAgg21
  z21:=Tryz.sizeOf21
  v21:=Tryz.zeroValue21
  t37:=Tryz.underlying23
  a37:=Tryz.isAgg23
  z37:=Tryz.sizeOf23
  v37:=Tryz.zeroValue23
  t46:=Tryz.underlying38
  a46:=Tryz.isAgg38
  z46:=Tryz.sizeOf38
  v46:=Tryz.zeroValue38
  t51:=Tryz.underlying148
  a51:=Tryz.isAgg148
  z51:=Tryz.sizeOf148
  v51:=Tryz.zeroValue148
  t53:=Tryz.underlying151
  a53:=Tryz.isAgg151
  z53:=Tryz.sizeOf151
  v53:=Tryz.zeroValue151
  t75:=Tryz.underlying115
  a75:=Tryz.isAgg115
  z75:=Tryz.sizeOf115
  v75:=Tryz.zeroValue115
  t76:=Tryz.underlying128
  a76:=Tryz.isAgg128
  z76:=Tryz.sizeOf128
  v76:=Tryz.zeroValue128
  t85:=Tryz.underlying177
  a85:=Tryz.isAgg177
  z85:=Tryz.sizeOf177
  v85:=Tryz.zeroValue177
  t127:=Tryz.underlying140
  a127:=Tryz.isAgg140
  z127:=Tryz.sizeOf140
  v127:=Tryz.zeroValue140
  t143:=Tryz.underlying189
  a143:=Tryz.isAgg189
  z143:=Tryz.sizeOf189
  v143:=Tryz.zeroValue189
  t145:=Tryz.underlying191
  a145:=Tryz.isAgg191
  z145:=Tryz.sizeOf191
  v145:=Tryz.zeroValue191
  t167:=Tryz.underlying176
  a167:=Tryz.isAgg176
  z167:=Tryz.sizeOf176
  v167:=Tryz.zeroValue176
  t168:=Tryz.underlying179
  a168:=Tryz.isAgg179
  z168:=Tryz.sizeOf179
  v168:=Tryz.zeroValue179
  t171:=Tryz.underlying193
  a171:=Tryz.isAgg193
  z171:=Tryz.sizeOf193
  v171:=Tryz.zeroValue193
  t173:=Tryz.underlying196
  a173:=Tryz.isAgg196
  z173:=Tryz.sizeOf196
  v173:=Tryz.zeroValue196
  t175:=Tryz.underlying183
  a175:=Tryz.isAgg183
  z175:=Tryz.sizeOf183
  v175:=Tryz.zeroValue183
  t210:=Tryz.underlying186
  a210:=Tryz.isAgg186
  z210:=Tryz.sizeOf186
  v210:=Tryz.zeroValue186
  t212:=Tryz.underlying199
  a212:=Tryz.isAgg199
  z212:=Tryz.sizeOf199
  v212:=Tryz.zeroValue199
  t213:=Tryz.underlying200
  a213:=Tryz.isAgg200
  z213:=Tryz.sizeOf200
  t232:=Tryz.underlying203
  a232:=Tryz.isAgg203
  z232:=Tryz.sizeOf203
  v232:=Tryz.zeroValue203
  t233:=Tryz.underlying204
  a233:=Tryz.isAgg204
  z233:=Tryz.sizeOf204
  v233:=Tryz.zeroValue204
  g15:=by kernel_rfl
  g16:=by kernel_rfl
  g17:=by kernel_rfl
  g18:=by kernel_rfl
  g19:=by kernel_rfl}
open Go.RowKit in
theorem Tryz.strconv_Atoi (s:ByteArray) (n:Int) (hl:s.size≤18) (h:Lib.atoi s.data.toList=some n) (w:World) :
    Calls Tryz.prog 124 #[.string s] w fun e w'=>e= .returned (.tuple #[.int .i64 n,.nilIface])∧∃t,w'=Lib.bytesWorld w 5 t:=Any.strconv_Atoi Tryz.lays172 s n hl h w
def Tryz.lays219_ren:Go.Shelf.Ren:=⟨fun|219=>125|217=>95|225=>122|224=>121|267=>130|266=>109|314=>137|n=>n,fun|9=>9|3=>3|4=>4|5=>5|46=>38|146=>149|51=>148|n=>n,fun|1=>0|n=>n⟩
theorem Tryz.lays219:Go.Proofs.Lays.n219 Tryz.prog Tryz.lays219_ren:={
  mixed:=by kernel_rfl
  f217:=Tryz.func95.trans (congrArg some (by kernel_rfl))
  f219:=Tryz.func125.trans (congrArg some (by kernel_rfl))
  f224:=Tryz.func121.trans (congrArg some (by kernel_rfl))
  f225:=Tryz.func122.trans (congrArg some (by kernel_rfl))
  f266:=Tryz.func109.trans (congrArg some (by kernel_rfl))
  f267:=Tryz.func130.trans (congrArg some (by kernel_rfl))
  f314:=Tryz.func137.trans (congrArg some (by kernel_rfl))
  t3:=Tryz.underlying3
  a3:=Tryz.isAgg3
  z3:=Tryz.sizeOf3
  v3:=Tryz.zeroValue3
  t4:=Tryz.underlying4
  a4:=Tryz.isAgg4
  z4:=Tryz.sizeOf4
  v4:=Tryz.zeroValue4
  t5:=Tryz.underlying5
  a5:=Tryz.isAgg5
  z5:=Tryz.sizeOf5
  v5:=Tryz.zeroValue5
  t9:=Tryz.underlying9
  a9:=Tryz.isAgg9
  z9:=Tryz.sizeOf9
  v9:=Tryz.zeroValue9
  t46:=Tryz.underlying38
  a46:=Tryz.isAgg38
  z46:=Tryz.sizeOf38
  v46:=Tryz.zeroValue38
  t51:=Tryz.underlying148
  a51:=Tryz.isAgg148
  z51:=Tryz.sizeOf148
  v51:=Tryz.zeroValue148
  t146:=Tryz.underlying149
  a146:=Tryz.isAgg149
  z146:=Tryz.sizeOf149
  v146:=Tryz.zeroValue149
  g1:=by kernel_rfl}
open Go.RowKit Go.Lib in
theorem Tryz.stringslite_Index_one (s:ByteArray) (c:UInt8) (w:World) :
    Calls Tryz.prog 125 #[.string s,.string ⟨#[c]⟩] w fun e w'=>e= .returned (.int .i64 (Lib.indexByte s.data.toList c))∧w'=w:=Any.stringslite_Index_one Tryz.lays219 s c w
open Go.RowKit Go.Lib in
theorem Tryz.stringslite_Index (s sub:ByteArray) (m:Int) (w:World) (hs:s.size<4294967281) (hm:w.cell? ⟨0,0,none⟩=some (.int .i64 m)) :
    Calls Tryz.prog 125 #[.string s,.string sub] w fun e w'=>e= .returned (.int .i64 (Lib.index s.data.toList sub.data.toList))∧w'=w:=Any.stringslite_Index Tryz.lays219 s sub m w hs hm
def Tryz.lays143_ren:Go.Shelf.Ren:=⟨fun|143=>123|219=>125|217=>95|225=>122|224=>121|267=>130|266=>109|314=>137|n=>n,fun|9=>9|3=>3|4=>4|5=>5|46=>38|146=>149|51=>148|n=>n,fun|1=>0|n=>n⟩
theorem Tryz.lays143:Go.Proofs.Lays.n143 Tryz.prog Tryz.lays143_ren:={
  mixed:=by kernel_rfl
  f143:=Tryz.func123.trans (congrArg some (by kernel_rfl))
  f217:=Tryz.func95.trans (congrArg some (by kernel_rfl))
  f219:=Tryz.func125.trans (congrArg some (by kernel_rfl))
  f224:=Tryz.func121.trans (congrArg some (by kernel_rfl))
  f225:=Tryz.func122.trans (congrArg some (by kernel_rfl))
  f266:=Tryz.func109.trans (congrArg some (by kernel_rfl))
  f267:=Tryz.func130.trans (congrArg some (by kernel_rfl))
  f314:=Tryz.func137.trans (congrArg some (by kernel_rfl))
  t3:=Tryz.underlying3
  a3:=Tryz.isAgg3
  z3:=Tryz.sizeOf3
  v3:=Tryz.zeroValue3
  t4:=Tryz.underlying4
  a4:=Tryz.isAgg4
  z4:=Tryz.sizeOf4
  v4:=Tryz.zeroValue4
  t5:=Tryz.underlying5
  a5:=Tryz.isAgg5
  z5:=Tryz.sizeOf5
  v5:=Tryz.zeroValue5
  t9:=Tryz.underlying9
  a9:=Tryz.isAgg9
  z9:=Tryz.sizeOf9
  v9:=Tryz.zeroValue9
  t46:=Tryz.underlying38
  a46:=Tryz.isAgg38
  z46:=Tryz.sizeOf38
  v46:=Tryz.zeroValue38
  t51:=Tryz.underlying148
  a51:=Tryz.isAgg148
  z51:=Tryz.sizeOf148
  v51:=Tryz.zeroValue148
  t146:=Tryz.underlying149
  a146:=Tryz.isAgg149
  z146:=Tryz.sizeOf149
  v146:=Tryz.zeroValue149
  g1:=by kernel_rfl}
open Go.RowKit Go.Lib in
theorem Tryz.strings_Index (s sub:ByteArray) (m:Int) (w:World) (hs:s.size<4294967281) (hm:w.cell? ⟨0,0,none⟩=some (.int .i64 m)) :
    Calls Tryz.prog 123 #[.string s,.string sub] w fun e w'=>e= .returned (.int .i64 (Lib.index s.data.toList sub.data.toList))∧w'=w:=Any.strings_Index Tryz.lays143 s sub m w hs hm
def Tryz.lays144_ren:Go.Shelf.Ren:=⟨fun|144=>113|143=>123|219=>125|217=>95|225=>122|224=>121|267=>130|266=>109|314=>137|n=>n,fun|9=>9|4=>4|3=>3|5=>5|46=>38|146=>149|51=>148|n=>n,fun|1=>0|n=>n⟩
theorem Tryz.lays144:Go.Proofs.Lays.n144 Tryz.prog Tryz.lays144_ren:={
  mixed:=by kernel_rfl
  f143:=Tryz.func123.trans (congrArg some (by kernel_rfl))
  f144:=Tryz.func113.trans (congrArg some (by kernel_rfl))
  f217:=Tryz.func95.trans (congrArg some (by kernel_rfl))
  f219:=Tryz.func125.trans (congrArg some (by kernel_rfl))
  f224:=Tryz.func121.trans (congrArg some (by kernel_rfl))
  f225:=Tryz.func122.trans (congrArg some (by kernel_rfl))
  f266:=Tryz.func109.trans (congrArg some (by kernel_rfl))
  f267:=Tryz.func130.trans (congrArg some (by kernel_rfl))
  f314:=Tryz.func137.trans (congrArg some (by kernel_rfl))
  t3:=Tryz.underlying3
  a3:=Tryz.isAgg3
  z3:=Tryz.sizeOf3
  v3:=Tryz.zeroValue3
  t4:=Tryz.underlying4
  a4:=Tryz.isAgg4
  z4:=Tryz.sizeOf4
  v4:=Tryz.zeroValue4
  t5:=Tryz.underlying5
  a5:=Tryz.isAgg5
  z5:=Tryz.sizeOf5
  v5:=Tryz.zeroValue5
  t9:=Tryz.underlying9
  a9:=Tryz.isAgg9
  z9:=Tryz.sizeOf9
  v9:=Tryz.zeroValue9
  t46:=Tryz.underlying38
  a46:=Tryz.isAgg38
  z46:=Tryz.sizeOf38
  v46:=Tryz.zeroValue38
  t51:=Tryz.underlying148
  a51:=Tryz.isAgg148
  z51:=Tryz.sizeOf148
  v51:=Tryz.zeroValue148
  t146:=Tryz.underlying149
  a146:=Tryz.isAgg149
  z146:=Tryz.sizeOf149
  v146:=Tryz.zeroValue149
  g1:=by kernel_rfl}
open Go.RowKit Go.Lib in
theorem Tryz.strings_Contains (s sub:ByteArray) (m:Int) (w:World) (hs:s.size<4294967281) (hm:w.cell? ⟨0,0,none⟩=some (.int .i64 m)) :
    Calls Tryz.prog 113 #[.string s,.string sub] w fun e w'=>e= .returned (.bool (Lib.contains s.data.toList sub.data.toList))∧w'=w:=Any.strings_Contains Tryz.lays144 s sub m w hs hm
def Tryz.lays220_ren:Go.Shelf.Ren:=⟨fun|220=>116|219=>125|217=>95|225=>122|224=>121|267=>130|266=>109|314=>137|n=>n,fun|9=>9|4=>4|3=>3|5=>5|46=>38|146=>149|51=>148|n=>n,fun|1=>0|n=>n⟩
theorem Tryz.lays220:Go.Proofs.Lays.n220 Tryz.prog Tryz.lays220_ren:={
  mixed:=by kernel_rfl
  f217:=Tryz.func95.trans (congrArg some (by kernel_rfl))
  f219:=Tryz.func125.trans (congrArg some (by kernel_rfl))
  f220:=Tryz.func116.trans (congrArg some (by kernel_rfl))
  f224:=Tryz.func121.trans (congrArg some (by kernel_rfl))
  f225:=Tryz.func122.trans (congrArg some (by kernel_rfl))
  f266:=Tryz.func109.trans (congrArg some (by kernel_rfl))
  f267:=Tryz.func130.trans (congrArg some (by kernel_rfl))
  f314:=Tryz.func137.trans (congrArg some (by kernel_rfl))
  t3:=Tryz.underlying3
  a3:=Tryz.isAgg3
  z3:=Tryz.sizeOf3
  v3:=Tryz.zeroValue3
  t4:=Tryz.underlying4
  a4:=Tryz.isAgg4
  z4:=Tryz.sizeOf4
  v4:=Tryz.zeroValue4
  t5:=Tryz.underlying5
  a5:=Tryz.isAgg5
  z5:=Tryz.sizeOf5
  v5:=Tryz.zeroValue5
  t9:=Tryz.underlying9
  a9:=Tryz.isAgg9
  z9:=Tryz.sizeOf9
  v9:=Tryz.zeroValue9
  t46:=Tryz.underlying38
  a46:=Tryz.isAgg38
  z46:=Tryz.sizeOf38
  v46:=Tryz.zeroValue38
  t51:=Tryz.underlying148
  a51:=Tryz.isAgg148
  z51:=Tryz.sizeOf148
  v51:=Tryz.zeroValue148
  t146:=Tryz.underlying149
  a146:=Tryz.isAgg149
  z146:=Tryz.sizeOf149
  v146:=Tryz.zeroValue149
  g1:=by kernel_rfl}
open Go.RowKit Go.Lib in
theorem Tryz.stringslite_Cut (s sep:ByteArray) (m:Int) (w:World) (hs:s.size<4294967281) (hm:w.cell? ⟨0,0,none⟩=some (.int .i64 m)) :
    Calls Tryz.prog 116 #[.string s,.string sep] w fun e w'=>e= .returned (.tuple #[.string ⟨(Lib.cut s.data.toList sep.data.toList).1.toArray⟩,.string ⟨(Lib.cut s.data.toList sep.data.toList).2.1.toArray⟩,.bool (Lib.cut s.data.toList sep.data.toList).2.2])∧∃n,w'=w.drewN n:=Any.stringslite_Cut Tryz.lays220 s sep m w hs hm
def Tryz.lays145_ren:Go.Shelf.Ren:=⟨fun|145=>106|220=>116|219=>125|217=>95|225=>122|224=>121|267=>130|266=>109|314=>137|n=>n,fun|9=>9|4=>4|59=>104|3=>3|5=>5|46=>38|146=>149|51=>148|n=>n,fun|1=>0|n=>n⟩
theorem Tryz.lays145:Go.Proofs.Lays.n145 Tryz.prog Tryz.lays145_ren:={
  mixed:=by kernel_rfl
  f145:=Tryz.func106.trans (congrArg some (by kernel_rfl))
  f217:=Tryz.func95.trans (congrArg some (by kernel_rfl))
  f219:=Tryz.func125.trans (congrArg some (by kernel_rfl))
  f220:=Tryz.func116.trans (congrArg some (by kernel_rfl))
  f224:=Tryz.func121.trans (congrArg some (by kernel_rfl))
  f225:=Tryz.func122.trans (congrArg some (by kernel_rfl))
  f266:=Tryz.func109.trans (congrArg some (by kernel_rfl))
  f267:=Tryz.func130.trans (congrArg some (by kernel_rfl))
  f314:=Tryz.func137.trans (congrArg some (by kernel_rfl))
  t3:=Tryz.underlying3
  a3:=Tryz.isAgg3
  z3:=Tryz.sizeOf3
  v3:=Tryz.zeroValue3
  t4:=Tryz.underlying4
  a4:=Tryz.isAgg4
  z4:=Tryz.sizeOf4
  v4:=Tryz.zeroValue4
  t5:=Tryz.underlying5
  a5:=Tryz.isAgg5
  z5:=Tryz.sizeOf5
  v5:=Tryz.zeroValue5
  t9:=Tryz.underlying9
  a9:=Tryz.isAgg9
  z9:=Tryz.sizeOf9
  v9:=Tryz.zeroValue9
  t46:=Tryz.underlying38
  a46:=Tryz.isAgg38
  z46:=Tryz.sizeOf38
  v46:=Tryz.zeroValue38
  t51:=Tryz.underlying148
  a51:=Tryz.isAgg148
  z51:=Tryz.sizeOf148
  v51:=Tryz.zeroValue148
  t59:=Tryz.underlying104
  a59:=Tryz.isAgg104
  z59:=Tryz.sizeOf104
  v59:=Tryz.zeroValue104
  t146:=Tryz.underlying149
  a146:=Tryz.isAgg149
  z146:=Tryz.sizeOf149
  v146:=Tryz.zeroValue149
  g1:=by kernel_rfl}
open Go.RowKit Go.Lib in
theorem Tryz.strings_Cut (s sep:ByteArray) (m:Int) (w:World) (hs:s.size<4294967281) (hm:w.cell? ⟨0,0,none⟩=some (.int .i64 m)) :
    Calls Tryz.prog 106 #[.string s,.string sep] w fun e w'=>e= .returned (.tuple #[.string ⟨(Lib.cut s.data.toList sep.data.toList).1.toArray⟩,.string ⟨(Lib.cut s.data.toList sep.data.toList).2.1.toArray⟩,.bool (Lib.cut s.data.toList sep.data.toList).2.2])∧∃n,w'=w.drewN n:=Any.strings_Cut Tryz.lays145 s sep m w hs hm
def Tryz.lays206_ren:Go.Shelf.Ren:=⟨fun|206=>98|n=>n,fun|9=>9|4=>4|3=>3|n=>n,fun|n=>n⟩
theorem Tryz.lays206:Go.Proofs.Lays.n206 Tryz.prog Tryz.lays206_ren:={
  mixed:=by kernel_rfl
  f206:=Tryz.func98.trans (congrArg some (by kernel_rfl))
  t3:=Tryz.underlying3
  a3:=Tryz.isAgg3
  z3:=Tryz.sizeOf3
  v3:=Tryz.zeroValue3
  t4:=Tryz.underlying4
  a4:=Tryz.isAgg4
  z4:=Tryz.sizeOf4
  v4:=Tryz.zeroValue4
  t9:=Tryz.underlying9
  a9:=Tryz.isAgg9
  z9:=Tryz.sizeOf9
  v9:=Tryz.zeroValue9}
open Go.RowKit Go.Lib in
theorem Tryz.stringslite_HasPrefix (s p:ByteArray) (w:World) :
    Calls Tryz.prog 98 #[.string s,.string p] w fun e w'=>e= .returned (.bool (Lib.hasPrefix s.data.toList p.data.toList))∧w'=w:=Any.stringslite_HasPrefix Tryz.lays206 s p w
def Tryz.lays99_ren:Go.Shelf.Ren:=⟨fun|99=>71|206=>98|n=>n,fun|9=>9|4=>4|3=>3|n=>n,fun|n=>n⟩
theorem Tryz.lays99:Go.Proofs.Lays.n99 Tryz.prog Tryz.lays99_ren:={
  mixed:=by kernel_rfl
  f99:=Tryz.func71.trans (congrArg some (by kernel_rfl))
  f206:=Tryz.func98.trans (congrArg some (by kernel_rfl))
  t3:=Tryz.underlying3
  a3:=Tryz.isAgg3
  z3:=Tryz.sizeOf3
  v3:=Tryz.zeroValue3
  t4:=Tryz.underlying4
  a4:=Tryz.isAgg4
  z4:=Tryz.sizeOf4
  v4:=Tryz.zeroValue4
  t9:=Tryz.underlying9
  a9:=Tryz.isAgg9
  z9:=Tryz.sizeOf9
  v9:=Tryz.zeroValue9}
open Go.RowKit Go.Lib in
theorem Tryz.strings_HasPrefix (s p:ByteArray) (w:World) :
    Calls Tryz.prog 71 #[.string s,.string p] w fun e w'=>e= .returned (.bool (Lib.hasPrefix s.data.toList p.data.toList))∧w'=w:=Any.strings_HasPrefix Tryz.lays99 s p w
def Tryz.lays105_ren:Go.Shelf.Ren:=⟨fun|105=>47|212=>70|99=>71|165=>72|166=>73|170=>74|169=>58|263=>96|264=>97|206=>98|240=>81|241=>99|276=>103|277=>110|n=>n,fun|9=>9|3=>3|4=>4|20=>20|0=>0|46=>38|109=>124|5=>5|72=>113|76=>128|51=>148|146=>149|53=>151|148=>152|70=>111|37=>23|75=>115|127=>140|164=>158|80=>106|n=>n,fun|n=>n⟩
theorem Tryz.lays105:Go.Proofs.Lays.n105 Tryz.prog Tryz.lays105_ren:={
  mixed:=by kernel_rfl
  f99:=Tryz.func71.trans (congrArg some (by kernel_rfl))
  f105:=Tryz.func47.trans (congrArg some (by kernel_rfl))
  f165:=Tryz.func72.trans (congrArg some (by kernel_rfl))
  f166:=Tryz.func73.trans (congrArg some (by kernel_rfl))
  f169:=Tryz.func58.trans (congrArg some (by kernel_rfl))
  f170:=Tryz.func74.trans (congrArg some (by kernel_rfl))
  f206:=Tryz.func98.trans (congrArg some (by kernel_rfl))
  f212:=Tryz.func70.trans (congrArg some (by kernel_rfl))
  f240:=Tryz.func81.trans (congrArg some (by kernel_rfl))
  f241:=Tryz.func99.trans (congrArg some (by kernel_rfl))
  f263:=Tryz.func96.trans (congrArg some (by kernel_rfl))
  f264:=Tryz.func97.trans (congrArg some (by kernel_rfl))
  f276:=Tryz.func103.trans (congrArg some (by kernel_rfl))
  f277:=Tryz.func110.trans (congrArg some (by kernel_rfl))
  t0:=Tryz.underlying0
  a0:=Tryz.isAgg0
  z0:=Tryz.sizeOf0
  v0:=Tryz.zeroValue0
  t3:=Tryz.underlying3
  a3:=Tryz.isAgg3
  z3:=Tryz.sizeOf3
  v3:=Tryz.zeroValue3
  t4:=Tryz.underlying4
  a4:=Tryz.isAgg4
  z4:=Tryz.sizeOf4
  v4:=Tryz.zeroValue4
  t5:=Tryz.underlying5
  a5:=Tryz.isAgg5
  z5:=Tryz.sizeOf5
  v5:=Tryz.zeroValue5
  t9:=Tryz.underlying9
  a9:=Tryz.isAgg9
  z9:=Tryz.sizeOf9
  v9:=Tryz.zeroValue9
  t20:=Tryz.underlying20
  a20:=Tryz.isAgg20
  z20:=Tryz.sizeOf20
  v20:=Tryz.zeroValue20
  t37:=Tryz.underlying23
  a37:=Tryz.isAgg23
  z37:=Tryz.sizeOf23
  v37:=Tryz.zeroValue23
  t46:=Tryz.underlying38
  a46:=Tryz.isAgg38
  z46:=Tryz.sizeOf38
  v46:=Tryz.zeroValue38
  t51:=Tryz.underlying148
  a51:=Tryz.isAgg148
  z51:=Tryz.sizeOf148
  v51:=Tryz.zeroValue148
  t53:=Tryz.underlying151
  a53:=Tryz.isAgg151
  z53:=Tryz.sizeOf151
  v53:=Tryz.zeroValue151
  t70:=Tryz.underlying111
  a70:=Tryz.isAgg111
  z70:=Tryz.sizeOf111
  v70:=Tryz.zeroValue111
  t72:=Tryz.underlying113
  a72:=Tryz.isAgg113
  z72:=Tryz.sizeOf113
  v72:=Tryz.zeroValue113
  t75:=Tryz.underlying115
  a75:=Tryz.isAgg115
  z75:=Tryz.sizeOf115
  v75:=Tryz.zeroValue115
  t76:=Tryz.underlying128
  a76:=Tryz.isAgg128
  z76:=Tryz.sizeOf128
  v76:=Tryz.zeroValue128
  t109:=Tryz.underlying124
  a109:=Tryz.isAgg124
  z109:=Tryz.sizeOf124
  v109:=Tryz.zeroValue124
  t127:=Tryz.underlying140
  a127:=Tryz.isAgg140
  z127:=Tryz.sizeOf140
  v127:=Tryz.zeroValue140
  t146:=Tryz.underlying149
  a146:=Tryz.isAgg149
  z146:=Tryz.sizeOf149
  v146:=Tryz.zeroValue149
  t148:=Tryz.underlying152
  a148:=Tryz.isAgg152
  z148:=Tryz.sizeOf152
  v148:=Tryz.zeroValue152
  t164:=Tryz.underlying158
  a164:=Tryz.isAgg158
  z164:=Tryz.sizeOf158
  v164:=Tryz.zeroValue158}
theorem Tryz.Builder_Extra_105:Builder.Extra Tryz.prog Tryz.lays105_ren:={
  sizeBuilder:=by kernel_rfl
  liesBuilder:=by kernel_rfl
  t5:=Tryz.underlying5
  a5:=Tryz.isAgg5
  z5:=Tryz.sizeOf5
  v5:=Tryz.zeroValue5
  infoByte:=by kernel_rfl
  cellsByte:=by kernel_rfl
  sizeByte:=by kernel_rfl
  neB5:=by decide}
open Go.RowKit Go.Lib in
theorem Tryz.strings_Repeat (s:ByteArray) (c:Nat) (w:World) (hc:c≤9223372036854775807) (hlen:s.size*c≤140737488355328) :
    Calls Tryz.prog 47 #[.string s,.int .i64 c] w fun e w'=>e= .returned (.string ⟨(Lib.repeatL s.data.toList c).toArray⟩)∧Below w.heap.size w w':=Any.strings_Repeat Tryz.lays105 Tryz.Builder_Extra_105 s c w hc hlen
def Tryz.lays260_ren:Go.Shelf.Ren:=⟨fun|260=>111|n=>n,fun|9=>9|21=>21|3=>3|4=>4|5=>5|119=>169|0=>0|46=>38|139=>172|138=>171|n=>n,fun|3=>1|4=>2|n=>n⟩
theorem Tryz.lays260:Go.Proofs.Lays.n260 Tryz.prog Tryz.lays260_ren:={
  mixed:=by kernel_rfl
  f260:=Tryz.func111.trans (congrArg some (by kernel_rfl))
  t0:=Tryz.underlying0
  a0:=Tryz.isAgg0
  z0:=Tryz.sizeOf0
  v0:=Tryz.zeroValue0
  t3:=Tryz.underlying3
  a3:=Tryz.isAgg3
  z3:=Tryz.sizeOf3
  v3:=Tryz.zeroValue3
  t4:=Tryz.underlying4
  a4:=Tryz.isAgg4
  z4:=Tryz.sizeOf4
  v4:=Tryz.zeroValue4
  t5:=Tryz.underlying5
  a5:=Tryz.isAgg5
  z5:=Tryz.sizeOf5
  v5:=Tryz.zeroValue5
  t9:=Tryz.underlying9
  a9:=Tryz.isAgg9
  z9:=Tryz.sizeOf9
  v9:=Tryz.zeroValue9
  t21:=Tryz.underlying21
  a21:=Tryz.isAgg21
  z21:=Tryz.sizeOf21
  v21:=Tryz.zeroValue21
  t46:=Tryz.underlying38
  a46:=Tryz.isAgg38
  z46:=Tryz.sizeOf38
  v46:=Tryz.zeroValue38
  t119:=Tryz.underlying169
  a119:=Tryz.isAgg169
  z119:=Tryz.sizeOf169
  t138:=Tryz.underlying171
  a138:=Tryz.isAgg171
  z138:=Tryz.sizeOf171
  v138:=Tryz.zeroValue171
  t139:=Tryz.underlying172
  a139:=Tryz.isAgg172
  z139:=Tryz.sizeOf172
  v139:=Tryz.zeroValue172
  g3:=by kernel_rfl
  g4:=by kernel_rfl}
end Go.Proofs
