import Derived.Shelf.Strings.Builder1
import Derived.Shelf.Strings.Builder2
import Derived.Shelf.Strings.OnBuilder
import Derived.Shelf.Strings.Trim
import Derived.Shelf.Small.Utf8
import Derived.Shelf.Small.Strs
import Derived.Shelf.Strings.BuilderF
import Derived.Shelf.Strings.BuilderK
import Derived.Shelf.Strconv.Atoi
import Derived.Shelf.Strconv.Itoa0
import Derived.Shelf.Strconv.Itoa1
import Derived.Shelf.LaysM
import Derived.Shelf.Strconv.Itoa2
import Derived.Shelf.Strconv.Itoa3
import Derived.Shelf.Strings.Search1
import Derived.Shelf.Strings.Search2
import Derived.Shelf.Strings.Search3
import Derived.Shelf.Strings.Cut
import Derived.Shelf.Strings.Shaped
import Derived.Shelf.Strings.Prefix
import Derived.Shelf.Unicode.Decode
import Derived.Shelf.Strings.Runes
import Derived.Shelf.Strings.AsciiSet
import Derived.Shelf.Unicode.DecodeSlow
import Derived.Shelf.Unicode.DecodeAny
import Derived.Shelf.Unicode.DecodeLast
import Derived.Test.YtcokjmnkieakiaaDoorProg
namespace Go.Proofs
open Go.Shelf
def Tryd.lays156_ren:Go.Shelf.Ren:=⟨fun|156=>16|165=>23|166=>24|169=>25|240=>35|241=>36|276=>43|277=>44|n=>n,fun|31=>47|9=>9|3=>3|4=>4|0=>0|20=>20|72=>66|76=>70|70=>64|37=>46|75=>69|127=>76|164=>82|5=>5|80=>39|n=>n,fun|n=>n⟩
theorem Tryd.lays156:Go.Proofs.Lays.n156 Tryd.prog Tryd.lays156_ren:={
  mixed:=by kernel_rfl
  f156:=Tryd.func16.trans (congrArg some (by kernel_rfl))
  f165:=Tryd.func23.trans (congrArg some (by kernel_rfl))
  f166:=Tryd.func24.trans (congrArg some (by kernel_rfl))
  f169:=Tryd.func25.trans (congrArg some (by kernel_rfl))
  f240:=Tryd.func35.trans (congrArg some (by kernel_rfl))
  f241:=Tryd.func36.trans (congrArg some (by kernel_rfl))
  f276:=Tryd.func43.trans (congrArg some (by kernel_rfl))
  f277:=Tryd.func44.trans (congrArg some (by kernel_rfl))
  t0:=Tryd.underlying0
  a0:=Tryd.isAgg0
  z0:=Tryd.sizeOf0
  v0:=Tryd.zeroValue0
  t3:=Tryd.underlying3
  a3:=Tryd.isAgg3
  z3:=Tryd.sizeOf3
  v3:=Tryd.zeroValue3
  t4:=Tryd.underlying4
  a4:=Tryd.isAgg4
  z4:=Tryd.sizeOf4
  v4:=Tryd.zeroValue4
  t9:=Tryd.underlying9
  a9:=Tryd.isAgg9
  z9:=Tryd.sizeOf9
  v9:=Tryd.zeroValue9
  t20:=Tryd.underlying20
  a20:=Tryd.isAgg20
  z20:=Tryd.sizeOf20
  v20:=Tryd.zeroValue20
  t31:=Tryd.underlying47
  a31:=Tryd.isAgg47
  z31:=Tryd.sizeOf47
  v31:=Tryd.zeroValue47
  t37:=Tryd.underlying46
  a37:=Tryd.isAgg46
  z37:=Tryd.sizeOf46
  v37:=Tryd.zeroValue46
  t70:=Tryd.underlying64
  a70:=Tryd.isAgg64
  z70:=Tryd.sizeOf64
  v70:=Tryd.zeroValue64
  t72:=Tryd.underlying66
  a72:=Tryd.isAgg66
  z72:=Tryd.sizeOf66
  v72:=Tryd.zeroValue66
  t75:=Tryd.underlying69
  a75:=Tryd.isAgg69
  z75:=Tryd.sizeOf69
  v75:=Tryd.zeroValue69
  t76:=Tryd.underlying70
  a76:=Tryd.isAgg70
  z76:=Tryd.sizeOf70
  v76:=Tryd.zeroValue70
  t127:=Tryd.underlying76
  a127:=Tryd.isAgg76
  z127:=Tryd.sizeOf76
  v127:=Tryd.zeroValue76
  t164:=Tryd.underlying82
  a164:=Tryd.isAgg82
  z164:=Tryd.sizeOf82
  v164:=Tryd.zeroValue82}
theorem Tryd.Builder_Extra_156:Builder.Extra Tryd.prog Tryd.lays156_ren:={
  sizeBuilder:=by kernel_rfl
  liesBuilder:=by kernel_rfl
  t5:=Tryd.underlying5
  a5:=Tryd.isAgg5
  z5:=Tryd.sizeOf5
  v5:=Tryd.zeroValue5
  infoByte:=by kernel_rfl
  cellsByte:=by kernel_rfl
  sizeByte:=by kernel_rfl
  neB5:=by decide}
open Go.RowKit in
theorem Tryd.strings_Join_none (a:Option Addr) (c:Nat) (sep:ByteArray) (w:World) :
    Calls Tryd.prog 16 #[.slice a 0 c,.string sep] w fun e w'=>e= .returned (.string ⟨#[]⟩)∧w'=w:=Any.strings_Join_none Tryd.lays156 Tryd.Builder_Extra_156 a c sep w
open Go.RowKit in
theorem Tryd.strings_Join (bk o c:Nat) (xs:List ByteArray) (sep:ByteArray) (w:World) (hcells:∀(j:Nat) x,xs[j]? = some x→w.cell? ⟨bk,o+j,none⟩=some (.string x)) (hbk:bk<w.heap.size) (hN:xs.length≤140737488355328) (hcap:xs.length≤c) (hlen:(Lib.join (xs.map (·.data.toList)) sep.data.toList).length≤140737488355328) :
    Calls Tryd.prog 16 #[.slice (some ⟨bk,o,none⟩) xs.length c,.string sep] w fun e w'=>e= .returned (.string ⟨(Lib.join (xs.map (·.data.toList)) sep.data.toList).toArray⟩)∧Below w.heap.size w w':=Any.strings_Join Tryd.lays156 Tryd.Builder_Extra_156 bk o c xs sep w hcells hbk hN hcap hlen
def Tryd.lays162_ren:Go.Shelf.Ren:=⟨fun|162=>40|232=>49|227=>50|234=>51|236=>52|228=>57|271=>58|151=>59|120=>70|197=>71|152=>72|260=>85|137=>86|119=>87|224=>68|225=>67|217=>66|266=>83|n=>n,fun|9=>9|4=>4|3=>3|5=>5|117=>91|116=>90|0=>0|124=>94|21=>21|105=>98|46=>44|119=>133|139=>136|138=>135|n=>n,fun|3=>4|4=>5|n=>n⟩
theorem Tryd.lays162:Go.Proofs.Lays.n162 Tryd.prog Tryd.lays162_ren:={
  mixed:=by kernel_rfl
  f119:=Tryd.func87.trans (congrArg some (by kernel_rfl))
  f120:=Tryd.func70.trans (congrArg some (by kernel_rfl))
  f137:=Tryd.func86.trans (congrArg some (by kernel_rfl))
  f151:=Tryd.func59.trans (congrArg some (by kernel_rfl))
  f152:=Tryd.func72.trans (congrArg some (by kernel_rfl))
  f162:=Tryd.func40.trans (congrArg some (by kernel_rfl))
  f197:=Tryd.func71.trans (congrArg some (by kernel_rfl))
  f217:=Tryd.func66.trans (congrArg some (by kernel_rfl))
  f224:=Tryd.func68.trans (congrArg some (by kernel_rfl))
  f225:=Tryd.func67.trans (congrArg some (by kernel_rfl))
  f227:=Tryd.func50.trans (congrArg some (by kernel_rfl))
  f228:=Tryd.func57.trans (congrArg some (by kernel_rfl))
  f232:=Tryd.func49.trans (congrArg some (by kernel_rfl))
  f234:=Tryd.func51.trans (congrArg some (by kernel_rfl))
  f236:=Tryd.func52.trans (congrArg some (by kernel_rfl))
  f260:=Tryd.func85.trans (congrArg some (by kernel_rfl))
  f266:=Tryd.func83.trans (congrArg some (by kernel_rfl))
  f271:=Tryd.func58.trans (congrArg some (by kernel_rfl))
  t0:=Tryd.underlying0
  a0:=Tryd.isAgg0
  z0:=Tryd.sizeOf0
  v0:=Tryd.zeroValue0
  t3:=Tryd.underlying3
  a3:=Tryd.isAgg3
  z3:=Tryd.sizeOf3
  v3:=Tryd.zeroValue3
  t4:=Tryd.underlying4
  a4:=Tryd.isAgg4
  z4:=Tryd.sizeOf4
  v4:=Tryd.zeroValue4
  t5:=Tryd.underlying5
  a5:=Tryd.isAgg5
  z5:=Tryd.sizeOf5
  v5:=Tryd.zeroValue5
  t9:=Tryd.underlying9
  a9:=Tryd.isAgg9
  z9:=Tryd.sizeOf9
  v9:=Tryd.zeroValue9
  t21:=Tryd.underlying21
  a21:=Tryd.isAgg21
  z21:=Tryd.sizeOf21
  v21:=Tryd.zeroValue21
  t46:=Tryd.underlying44
  a46:=Tryd.isAgg44
  z46:=Tryd.sizeOf44
  v46:=Tryd.zeroValue44
  t105:=Tryd.underlying98
  a105:=Tryd.isAgg98
  z105:=Tryd.sizeOf98
  v105:=Tryd.zeroValue98
  t116:=Tryd.underlying90
  a116:=Tryd.isAgg90
  z116:=Tryd.sizeOf90
  t117:=Tryd.underlying91
  a117:=Tryd.isAgg91
  z117:=Tryd.sizeOf91
  v117:=Tryd.zeroValue91
  t119:=Tryd.underlying133
  a119:=Tryd.isAgg133
  z119:=Tryd.sizeOf133
  t124:=Tryd.underlying94
  a124:=Tryd.isAgg94
  z124:=Tryd.sizeOf94
  v124:=Tryd.zeroValue94
  t138:=Tryd.underlying135
  a138:=Tryd.isAgg135
  z138:=Tryd.sizeOf135
  v138:=Tryd.zeroValue135
  t139:=Tryd.underlying136
  a139:=Tryd.isAgg136
  z139:=Tryd.sizeOf136
  v139:=Tryd.zeroValue136
  g3:=by kernel_rfl
  g4:=by kernel_rfl}
open Go.RowKit in
theorem Tryd.strings_TrimRight_one (s:ByteArray) (c:UInt8) (hc:c.toNat<128) (w:World) (hs:s.size≤9223372036854775807) :
    Calls Tryd.prog 40 #[.string s,.string ⟨#[c]⟩] w fun e w'=>e= .returned (.string ⟨(Lib.trimRightB s.data.toList c).toArray⟩)∧w'=w:=Any.strings_TrimRight_one Tryd.lays162 s c hc w hs
def Tryd.lays137_ren:Go.Shelf.Ren:=⟨fun|137=>86|217=>66|266=>83|n=>n,fun|9=>9|5=>5|3=>3|n=>n,fun|n=>n⟩
theorem Tryd.lays137:Go.Proofs.Lays.n137 Tryd.prog Tryd.lays137_ren:={
  mixed:=by kernel_rfl
  f137:=Tryd.func86.trans (congrArg some (by kernel_rfl))
  f217:=Tryd.func66.trans (congrArg some (by kernel_rfl))
  f266:=Tryd.func83.trans (congrArg some (by kernel_rfl))
  t3:=Tryd.underlying3
  a3:=Tryd.isAgg3
  z3:=Tryd.sizeOf3
  v3:=Tryd.zeroValue3
  t5:=Tryd.underlying5
  a5:=Tryd.isAgg5
  z5:=Tryd.sizeOf5
  v5:=Tryd.zeroValue5
  t9:=Tryd.underlying9
  a9:=Tryd.isAgg9
  z9:=Tryd.sizeOf9
  v9:=Tryd.zeroValue9}
open Go.RowKit in
theorem Tryd.strings_IndexByte (s:ByteArray) (c:Int) (w:World) :
    Calls Tryd.prog 86 #[.string s,.int .u8 c] w fun e w'=>e= .returned (.int .i64 (Lib.indexByte s.data.toList c.toNat.toUInt8))∧w'=w:=Any.strings_IndexByte Tryd.lays137 s c w
def Tryd.lays172_ren:Go.Shelf.Ren:=⟨fun|172=>55|244=>64|245=>65|247=>78|279=>79|280=>80|281=>81|282=>82|287=>90|316=>91|171=>33|205=>92|321=>93|322=>94|243=>42|246=>53|283=>60|284=>61|285=>62|286=>63|129=>74|317=>73|318=>75|319=>76|320=>77|337=>88|338=>89|n=>n,fun|9=>9|3=>3|75=>69|76=>70|4=>4|5=>5|167=>117|37=>46|0=>0|85=>118|2=>2|168=>120|53=>102|175=>127|46=>44|210=>131|127=>76|145=>142|143=>140|21=>21|171=>101|173=>105|212=>112|51=>113|20=>20|213=>114|232=>137|233=>138|80=>39|n=>n,fun|15=>2|16=>3|17=>1|18=>6|19=>7|n=>n⟩
theorem Tryd.lays172:Go.Proofs.Lays.n172 Tryd.prog Tryd.lays172_ren:={
  mixed:=by kernel_rfl
  f129:=Tryd.func74.trans (congrArg some (by kernel_rfl))
  f171:=Tryd.func33.trans (congrArg some (by kernel_rfl))
  f172:=Tryd.func55.trans (congrArg some (by kernel_rfl))
  f205:=Tryd.func92.trans (congrArg some (by kernel_rfl))
  f243:=Tryd.func42.trans (congrArg some (by kernel_rfl))
  f244:=Tryd.func64.trans (congrArg some (by kernel_rfl))
  f245:=Tryd.func65.trans (congrArg some (by kernel_rfl))
  f246:=Tryd.func53.trans (congrArg some (by kernel_rfl))
  f247:=Tryd.func78.trans (congrArg some (by kernel_rfl))
  f279:=Tryd.func79.trans (congrArg some (by kernel_rfl))
  f280:=Tryd.func80.trans (congrArg some (by kernel_rfl))
  f281:=Tryd.func81.trans (congrArg some (by kernel_rfl))
  f282:=Tryd.func82.trans (congrArg some (by kernel_rfl))
  f283:=Tryd.func60.trans (congrArg some (by kernel_rfl))
  f284:=Tryd.func61.trans (congrArg some (by kernel_rfl))
  f285:=Tryd.func62.trans (congrArg some (by kernel_rfl))
  f286:=Tryd.func63.trans (congrArg some (by kernel_rfl))
  f287:=Tryd.func90.trans (congrArg some (by kernel_rfl))
  f316:=Tryd.func91.trans (congrArg some (by kernel_rfl))
  f317:=Tryd.func73.trans (congrArg some (by kernel_rfl))
  f318:=Tryd.func75.trans (congrArg some (by kernel_rfl))
  f319:=Tryd.func76.trans (congrArg some (by kernel_rfl))
  f320:=Tryd.func77.trans (congrArg some (by kernel_rfl))
  f321:=Tryd.func93.trans (congrArg some (by kernel_rfl))
  f322:=Tryd.func94.trans (congrArg some (by kernel_rfl))
  f337:=Tryd.func88.trans (congrArg some (by kernel_rfl))
  f338:=Tryd.func89.trans (congrArg some (by kernel_rfl))
  t0:=Tryd.underlying0
  a0:=Tryd.isAgg0
  z0:=Tryd.sizeOf0
  v0:=Tryd.zeroValue0
  t2:=Tryd.underlying2
  a2:=Tryd.isAgg2
  z2:=Tryd.sizeOf2
  v2:=Tryd.zeroValue2
  t3:=Tryd.underlying3
  a3:=Tryd.isAgg3
  z3:=Tryd.sizeOf3
  v3:=Tryd.zeroValue3
  t4:=Tryd.underlying4
  a4:=Tryd.isAgg4
  z4:=Tryd.sizeOf4
  v4:=Tryd.zeroValue4
  t5:=Tryd.underlying5
  a5:=Tryd.isAgg5
  z5:=Tryd.sizeOf5
  v5:=Tryd.zeroValue5
  t9:=Tryd.underlying9
  a9:=Tryd.isAgg9
  z9:=Tryd.sizeOf9
  v9:=Tryd.zeroValue9
  t20:=Tryd.underlying20
  a20:=Tryd.isAgg20
  z20:=Tryd.sizeOf20
  v20:=Tryd.zeroValue20
  t21:=Tryd.underlying21
  a21:=Tryd.isAgg21
  z21:=Tryd.sizeOf21
  v21:=Tryd.zeroValue21
  t37:=Tryd.underlying46
  a37:=Tryd.isAgg46
  z37:=Tryd.sizeOf46
  v37:=Tryd.zeroValue46
  t46:=Tryd.underlying44
  a46:=Tryd.isAgg44
  z46:=Tryd.sizeOf44
  v46:=Tryd.zeroValue44
  t51:=Tryd.underlying113
  a51:=Tryd.isAgg113
  z51:=Tryd.sizeOf113
  v51:=Tryd.zeroValue113
  t53:=Tryd.underlying102
  a53:=Tryd.isAgg102
  z53:=Tryd.sizeOf102
  v53:=Tryd.zeroValue102
  t75:=Tryd.underlying69
  a75:=Tryd.isAgg69
  z75:=Tryd.sizeOf69
  v75:=Tryd.zeroValue69
  t76:=Tryd.underlying70
  a76:=Tryd.isAgg70
  z76:=Tryd.sizeOf70
  v76:=Tryd.zeroValue70
  t85:=Tryd.underlying118
  a85:=Tryd.isAgg118
  z85:=Tryd.sizeOf118
  v85:=Tryd.zeroValue118
  t127:=Tryd.underlying76
  a127:=Tryd.isAgg76
  z127:=Tryd.sizeOf76
  v127:=Tryd.zeroValue76
  t143:=Tryd.underlying140
  a143:=Tryd.isAgg140
  z143:=Tryd.sizeOf140
  v143:=Tryd.zeroValue140
  t145:=Tryd.underlying142
  a145:=Tryd.isAgg142
  z145:=Tryd.sizeOf142
  v145:=Tryd.zeroValue142
  t167:=Tryd.underlying117
  a167:=Tryd.isAgg117
  z167:=Tryd.sizeOf117
  v167:=Tryd.zeroValue117
  t168:=Tryd.underlying120
  a168:=Tryd.isAgg120
  z168:=Tryd.sizeOf120
  v168:=Tryd.zeroValue120
  t171:=Tryd.underlying101
  a171:=Tryd.isAgg101
  z171:=Tryd.sizeOf101
  v171:=Tryd.zeroValue101
  t173:=Tryd.underlying105
  a173:=Tryd.isAgg105
  z173:=Tryd.sizeOf105
  v173:=Tryd.zeroValue105
  t175:=Tryd.underlying127
  a175:=Tryd.isAgg127
  z175:=Tryd.sizeOf127
  v175:=Tryd.zeroValue127
  t210:=Tryd.underlying131
  a210:=Tryd.isAgg131
  z210:=Tryd.sizeOf131
  v210:=Tryd.zeroValue131
  t212:=Tryd.underlying112
  a212:=Tryd.isAgg112
  z212:=Tryd.sizeOf112
  v212:=Tryd.zeroValue112
  t213:=Tryd.underlying114
  a213:=Tryd.isAgg114
  z213:=Tryd.sizeOf114
  t232:=Tryd.underlying137
  a232:=Tryd.isAgg137
  z232:=Tryd.sizeOf137
  v232:=Tryd.zeroValue137
  t233:=Tryd.underlying138
  a233:=Tryd.isAgg138
  z233:=Tryd.sizeOf138
  v233:=Tryd.zeroValue138
  g15:=by kernel_rfl
  g16:=by kernel_rfl
  g17:=by kernel_rfl
  g18:=by kernel_rfl
  g19:=by kernel_rfl}
open Go.RowKit in
theorem Tryd.strconv_Atoi (s:ByteArray) (n:Int) (hl:s.size≤18) (h:Lib.atoi s.data.toList=some n) (w:World) :
    Calls Tryd.prog 55 #[.string s] w fun e w'=>e= .returned (.tuple #[.int .i64 n,.nilIface])∧∃t,w'=Lib.bytesWorld w 5 t:=Any.strconv_Atoi Tryd.lays172 s n hl h w
def Tryd.laysM171_ren:Go.Shelf.Ren:=⟨fun|171=>33|243=>42|246=>53|283=>60|284=>61|285=>62|286=>63|129=>74|317=>73|318=>75|319=>76|320=>77|337=>88|338=>89|n=>n,fun|3=>3|9=>9|2=>2|4=>4|171=>101|0=>0|53=>102|37=>46|5=>5|173=>105|212=>112|51=>113|20=>20|213=>114|46=>44|232=>137|233=>138|n=>n,fun|17=>1|18=>6|19=>7|n=>n⟩
theorem Tryd.laysM171:Go.Proofs.LaysM.n171 Tryd.prog Tryd.laysM171_ren:={
  mixed:=by kernel_rfl
  f129:=Tryd.func74.trans (congrArg some (by kernel_rfl))
  f171:=Tryd.func33.trans (congrArg some (by kernel_rfl))
  f243:=Tryd.func42.trans (congrArg some (by kernel_rfl))
  f246:=Tryd.func53.trans (congrArg some (by kernel_rfl))
  f283:=Tryd.func60.trans (congrArg some (by kernel_rfl))
  f284:=Tryd.func61.trans (congrArg some (by kernel_rfl))
  f285:=Tryd.func62.trans (congrArg some (by kernel_rfl))
  f286:=Tryd.func63.trans (congrArg some (by kernel_rfl))
  f317:=Tryd.func73.trans (congrArg some (by kernel_rfl))
  f318:=Tryd.func75.trans (congrArg some (by kernel_rfl))
  f319:=Tryd.func76.trans (congrArg some (by kernel_rfl))
  f320:=Tryd.func77.trans (congrArg some (by kernel_rfl))
  f337:=Tryd.func88.trans (congrArg some (by kernel_rfl))
  f338:=Tryd.func89.trans (congrArg some (by kernel_rfl))
  t0:=Tryd.underlying0
  a0:=Tryd.isAgg0
  z0:=Tryd.sizeOf0
  v0:=Tryd.zeroValue0
  t2:=Tryd.underlying2
  a2:=Tryd.isAgg2
  z2:=Tryd.sizeOf2
  v2:=Tryd.zeroValue2
  t3:=Tryd.underlying3
  a3:=Tryd.isAgg3
  z3:=Tryd.sizeOf3
  v3:=Tryd.zeroValue3
  t4:=Tryd.underlying4
  a4:=Tryd.isAgg4
  z4:=Tryd.sizeOf4
  v4:=Tryd.zeroValue4
  t5:=Tryd.underlying5
  a5:=Tryd.isAgg5
  z5:=Tryd.sizeOf5
  v5:=Tryd.zeroValue5
  t9:=Tryd.underlying9
  a9:=Tryd.isAgg9
  z9:=Tryd.sizeOf9
  v9:=Tryd.zeroValue9
  t20:=Tryd.underlying20
  a20:=Tryd.isAgg20
  z20:=Tryd.sizeOf20
  v20:=Tryd.zeroValue20
  t37:=Tryd.underlying46
  a37:=Tryd.isAgg46
  z37:=Tryd.sizeOf46
  v37:=Tryd.zeroValue46
  t46:=Tryd.underlying44
  a46:=Tryd.isAgg44
  z46:=Tryd.sizeOf44
  v46:=Tryd.zeroValue44
  t51:=Tryd.underlying113
  a51:=Tryd.isAgg113
  z51:=Tryd.sizeOf113
  v51:=Tryd.zeroValue113
  t53:=Tryd.underlying102
  a53:=Tryd.isAgg102
  z53:=Tryd.sizeOf102
  v53:=Tryd.zeroValue102
  t171:=Tryd.underlying101
  a171:=Tryd.isAgg101
  z171:=Tryd.sizeOf101
  v171:=Tryd.zeroValue101
  t173:=Tryd.underlying105
  a173:=Tryd.isAgg105
  z173:=Tryd.sizeOf105
  v173:=Tryd.zeroValue105
  t212:=Tryd.underlying112
  a212:=Tryd.isAgg112
  z212:=Tryd.sizeOf112
  v212:=Tryd.zeroValue112
  t213:=Tryd.underlying114
  a213:=Tryd.isAgg114
  z213:=Tryd.sizeOf114
  t232:=Tryd.underlying137
  a232:=Tryd.isAgg137
  z232:=Tryd.sizeOf137
  v232:=Tryd.zeroValue137
  t233:=Tryd.underlying138
  a233:=Tryd.isAgg138
  z233:=Tryd.sizeOf138
  v233:=Tryd.zeroValue138
  g17:=by kernel_rfl
  g18:=by kernel_rfl
  g19:=by kernel_rfl
  i0:=by kernel_rfl
  i2:=by kernel_rfl
  i3:=by kernel_rfl
  i4:=by kernel_rfl
  i5:=by kernel_rfl
  i9:=by kernel_rfl
  i20:=by kernel_rfl
  i37:=by kernel_rfl
  i46:=by kernel_rfl
  i51:=by kernel_rfl
  i53:=by kernel_rfl
  i171:=by kernel_rfl
  i173:=by kernel_rfl
  i212:=by kernel_rfl
  i232:=by kernel_rfl
  i233:=by kernel_rfl
  m17:=by kernel_rfl
  m18:=by kernel_rfl
  m19:=by kernel_rfl}
open Go.RowKit Go.Sort Go.Lib in
theorem Tryd.strconv_Itoa (n:Int) (h0: -9223372036854775808≤n) (h1:n≤9223372036854775807) (w:World) (htab:Lib.TabIs Tryd.prog w "internal/strconv.uint64pow10" .u64 Lib.pow10Tab) :
    Calls Tryd.prog 33 #[.int .i64 n] w fun e w'=>e= .returned (.string ⟨(Lib.itoa n).toArray⟩)∧∃k os,w'=grow (w.drewN k) os:=Any.strconv_Itoa Tryd.laysM171 n h0 h1 w htab
def Tryd.lays219_ren:Go.Shelf.Ren:=⟨fun|219=>56|217=>66|225=>67|224=>68|267=>69|266=>83|314=>84|n=>n,fun|9=>9|3=>3|4=>4|5=>5|46=>44|146=>123|51=>113|n=>n,fun|1=>0|n=>n⟩
theorem Tryd.lays219:Go.Proofs.Lays.n219 Tryd.prog Tryd.lays219_ren:={
  mixed:=by kernel_rfl
  f217:=Tryd.func66.trans (congrArg some (by kernel_rfl))
  f219:=Tryd.func56.trans (congrArg some (by kernel_rfl))
  f224:=Tryd.func68.trans (congrArg some (by kernel_rfl))
  f225:=Tryd.func67.trans (congrArg some (by kernel_rfl))
  f266:=Tryd.func83.trans (congrArg some (by kernel_rfl))
  f267:=Tryd.func69.trans (congrArg some (by kernel_rfl))
  f314:=Tryd.func84.trans (congrArg some (by kernel_rfl))
  t3:=Tryd.underlying3
  a3:=Tryd.isAgg3
  z3:=Tryd.sizeOf3
  v3:=Tryd.zeroValue3
  t4:=Tryd.underlying4
  a4:=Tryd.isAgg4
  z4:=Tryd.sizeOf4
  v4:=Tryd.zeroValue4
  t5:=Tryd.underlying5
  a5:=Tryd.isAgg5
  z5:=Tryd.sizeOf5
  v5:=Tryd.zeroValue5
  t9:=Tryd.underlying9
  a9:=Tryd.isAgg9
  z9:=Tryd.sizeOf9
  v9:=Tryd.zeroValue9
  t46:=Tryd.underlying44
  a46:=Tryd.isAgg44
  z46:=Tryd.sizeOf44
  v46:=Tryd.zeroValue44
  t51:=Tryd.underlying113
  a51:=Tryd.isAgg113
  z51:=Tryd.sizeOf113
  v51:=Tryd.zeroValue113
  t146:=Tryd.underlying123
  a146:=Tryd.isAgg123
  z146:=Tryd.sizeOf123
  v146:=Tryd.zeroValue123
  g1:=by kernel_rfl}
open Go.RowKit Go.Lib in
theorem Tryd.stringslite_Index_one (s:ByteArray) (c:UInt8) (w:World) :
    Calls Tryd.prog 56 #[.string s,.string ⟨#[c]⟩] w fun e w'=>e= .returned (.int .i64 (Lib.indexByte s.data.toList c))∧w'=w:=Any.stringslite_Index_one Tryd.lays219 s c w
open Go.RowKit Go.Lib in
theorem Tryd.stringslite_Index (s sub:ByteArray) (m:Int) (w:World) (hs:s.size<4294967281) (hm:w.cell? ⟨0,0,none⟩=some (.int .i64 m)) :
    Calls Tryd.prog 56 #[.string s,.string sub] w fun e w'=>e= .returned (.int .i64 (Lib.index s.data.toList sub.data.toList))∧w'=w:=Any.stringslite_Index Tryd.lays219 s sub m w hs hm
def Tryd.lays143_ren:Go.Shelf.Ren:=⟨fun|143=>54|219=>56|217=>66|225=>67|224=>68|267=>69|266=>83|314=>84|n=>n,fun|9=>9|3=>3|4=>4|5=>5|46=>44|146=>123|51=>113|n=>n,fun|1=>0|n=>n⟩
theorem Tryd.lays143:Go.Proofs.Lays.n143 Tryd.prog Tryd.lays143_ren:={
  mixed:=by kernel_rfl
  f143:=Tryd.func54.trans (congrArg some (by kernel_rfl))
  f217:=Tryd.func66.trans (congrArg some (by kernel_rfl))
  f219:=Tryd.func56.trans (congrArg some (by kernel_rfl))
  f224:=Tryd.func68.trans (congrArg some (by kernel_rfl))
  f225:=Tryd.func67.trans (congrArg some (by kernel_rfl))
  f266:=Tryd.func83.trans (congrArg some (by kernel_rfl))
  f267:=Tryd.func69.trans (congrArg some (by kernel_rfl))
  f314:=Tryd.func84.trans (congrArg some (by kernel_rfl))
  t3:=Tryd.underlying3
  a3:=Tryd.isAgg3
  z3:=Tryd.sizeOf3
  v3:=Tryd.zeroValue3
  t4:=Tryd.underlying4
  a4:=Tryd.isAgg4
  z4:=Tryd.sizeOf4
  v4:=Tryd.zeroValue4
  t5:=Tryd.underlying5
  a5:=Tryd.isAgg5
  z5:=Tryd.sizeOf5
  v5:=Tryd.zeroValue5
  t9:=Tryd.underlying9
  a9:=Tryd.isAgg9
  z9:=Tryd.sizeOf9
  v9:=Tryd.zeroValue9
  t46:=Tryd.underlying44
  a46:=Tryd.isAgg44
  z46:=Tryd.sizeOf44
  v46:=Tryd.zeroValue44
  t51:=Tryd.underlying113
  a51:=Tryd.isAgg113
  z51:=Tryd.sizeOf113
  v51:=Tryd.zeroValue113
  t146:=Tryd.underlying123
  a146:=Tryd.isAgg123
  z146:=Tryd.sizeOf123
  v146:=Tryd.zeroValue123
  g1:=by kernel_rfl}
open Go.RowKit Go.Lib in
theorem Tryd.strings_Index (s sub:ByteArray) (m:Int) (w:World) (hs:s.size<4294967281) (hm:w.cell? ⟨0,0,none⟩=some (.int .i64 m)) :
    Calls Tryd.prog 54 #[.string s,.string sub] w fun e w'=>e= .returned (.int .i64 (Lib.index s.data.toList sub.data.toList))∧w'=w:=Any.strings_Index Tryd.lays143 s sub m w hs hm
def Tryd.lays144_ren:Go.Shelf.Ren:=⟨fun|144=>45|143=>54|219=>56|217=>66|225=>67|224=>68|267=>69|266=>83|314=>84|n=>n,fun|9=>9|4=>4|3=>3|5=>5|46=>44|146=>123|51=>113|n=>n,fun|1=>0|n=>n⟩
theorem Tryd.lays144:Go.Proofs.Lays.n144 Tryd.prog Tryd.lays144_ren:={
  mixed:=by kernel_rfl
  f143:=Tryd.func54.trans (congrArg some (by kernel_rfl))
  f144:=Tryd.func45.trans (congrArg some (by kernel_rfl))
  f217:=Tryd.func66.trans (congrArg some (by kernel_rfl))
  f219:=Tryd.func56.trans (congrArg some (by kernel_rfl))
  f224:=Tryd.func68.trans (congrArg some (by kernel_rfl))
  f225:=Tryd.func67.trans (congrArg some (by kernel_rfl))
  f266:=Tryd.func83.trans (congrArg some (by kernel_rfl))
  f267:=Tryd.func69.trans (congrArg some (by kernel_rfl))
  f314:=Tryd.func84.trans (congrArg some (by kernel_rfl))
  t3:=Tryd.underlying3
  a3:=Tryd.isAgg3
  z3:=Tryd.sizeOf3
  v3:=Tryd.zeroValue3
  t4:=Tryd.underlying4
  a4:=Tryd.isAgg4
  z4:=Tryd.sizeOf4
  v4:=Tryd.zeroValue4
  t5:=Tryd.underlying5
  a5:=Tryd.isAgg5
  z5:=Tryd.sizeOf5
  v5:=Tryd.zeroValue5
  t9:=Tryd.underlying9
  a9:=Tryd.isAgg9
  z9:=Tryd.sizeOf9
  v9:=Tryd.zeroValue9
  t46:=Tryd.underlying44
  a46:=Tryd.isAgg44
  z46:=Tryd.sizeOf44
  v46:=Tryd.zeroValue44
  t51:=Tryd.underlying113
  a51:=Tryd.isAgg113
  z51:=Tryd.sizeOf113
  v51:=Tryd.zeroValue113
  t146:=Tryd.underlying123
  a146:=Tryd.isAgg123
  z146:=Tryd.sizeOf123
  v146:=Tryd.zeroValue123
  g1:=by kernel_rfl}
open Go.RowKit Go.Lib in
theorem Tryd.strings_Contains (s sub:ByteArray) (m:Int) (w:World) (hs:s.size<4294967281) (hm:w.cell? ⟨0,0,none⟩=some (.int .i64 m)) :
    Calls Tryd.prog 45 #[.string s,.string sub] w fun e w'=>e= .returned (.bool (Lib.contains s.data.toList sub.data.toList))∧w'=w:=Any.strings_Contains Tryd.lays144 s sub m w hs hm
def Tryd.lays220_ren:Go.Shelf.Ren:=⟨fun|220=>48|219=>56|217=>66|225=>67|224=>68|267=>69|266=>83|314=>84|n=>n,fun|9=>9|4=>4|3=>3|5=>5|46=>44|146=>123|51=>113|n=>n,fun|1=>0|n=>n⟩
theorem Tryd.lays220:Go.Proofs.Lays.n220 Tryd.prog Tryd.lays220_ren:={
  mixed:=by kernel_rfl
  f217:=Tryd.func66.trans (congrArg some (by kernel_rfl))
  f219:=Tryd.func56.trans (congrArg some (by kernel_rfl))
  f220:=Tryd.func48.trans (congrArg some (by kernel_rfl))
  f224:=Tryd.func68.trans (congrArg some (by kernel_rfl))
  f225:=Tryd.func67.trans (congrArg some (by kernel_rfl))
  f266:=Tryd.func83.trans (congrArg some (by kernel_rfl))
  f267:=Tryd.func69.trans (congrArg some (by kernel_rfl))
  f314:=Tryd.func84.trans (congrArg some (by kernel_rfl))
  t3:=Tryd.underlying3
  a3:=Tryd.isAgg3
  z3:=Tryd.sizeOf3
  v3:=Tryd.zeroValue3
  t4:=Tryd.underlying4
  a4:=Tryd.isAgg4
  z4:=Tryd.sizeOf4
  v4:=Tryd.zeroValue4
  t5:=Tryd.underlying5
  a5:=Tryd.isAgg5
  z5:=Tryd.sizeOf5
  v5:=Tryd.zeroValue5
  t9:=Tryd.underlying9
  a9:=Tryd.isAgg9
  z9:=Tryd.sizeOf9
  v9:=Tryd.zeroValue9
  t46:=Tryd.underlying44
  a46:=Tryd.isAgg44
  z46:=Tryd.sizeOf44
  v46:=Tryd.zeroValue44
  t51:=Tryd.underlying113
  a51:=Tryd.isAgg113
  z51:=Tryd.sizeOf113
  v51:=Tryd.zeroValue113
  t146:=Tryd.underlying123
  a146:=Tryd.isAgg123
  z146:=Tryd.sizeOf123
  v146:=Tryd.zeroValue123
  g1:=by kernel_rfl}
open Go.RowKit Go.Lib in
theorem Tryd.stringslite_Cut (s sep:ByteArray) (m:Int) (w:World) (hs:s.size<4294967281) (hm:w.cell? ⟨0,0,none⟩=some (.int .i64 m)) :
    Calls Tryd.prog 48 #[.string s,.string sep] w fun e w'=>e= .returned (.tuple #[.string ⟨(Lib.cut s.data.toList sep.data.toList).1.toArray⟩,.string ⟨(Lib.cut s.data.toList sep.data.toList).2.1.toArray⟩,.bool (Lib.cut s.data.toList sep.data.toList).2.2])∧∃n,w'=w.drewN n:=Any.stringslite_Cut Tryd.lays220 s sep m w hs hm
def Tryd.lays145_ren:Go.Shelf.Ren:=⟨fun|145=>39|220=>48|219=>56|217=>66|225=>67|224=>68|267=>69|266=>83|314=>84|n=>n,fun|9=>9|4=>4|59=>79|3=>3|5=>5|46=>44|146=>123|51=>113|n=>n,fun|1=>0|n=>n⟩
theorem Tryd.lays145:Go.Proofs.Lays.n145 Tryd.prog Tryd.lays145_ren:={
  mixed:=by kernel_rfl
  f145:=Tryd.func39.trans (congrArg some (by kernel_rfl))
  f217:=Tryd.func66.trans (congrArg some (by kernel_rfl))
  f219:=Tryd.func56.trans (congrArg some (by kernel_rfl))
  f220:=Tryd.func48.trans (congrArg some (by kernel_rfl))
  f224:=Tryd.func68.trans (congrArg some (by kernel_rfl))
  f225:=Tryd.func67.trans (congrArg some (by kernel_rfl))
  f266:=Tryd.func83.trans (congrArg some (by kernel_rfl))
  f267:=Tryd.func69.trans (congrArg some (by kernel_rfl))
  f314:=Tryd.func84.trans (congrArg some (by kernel_rfl))
  t3:=Tryd.underlying3
  a3:=Tryd.isAgg3
  z3:=Tryd.sizeOf3
  v3:=Tryd.zeroValue3
  t4:=Tryd.underlying4
  a4:=Tryd.isAgg4
  z4:=Tryd.sizeOf4
  v4:=Tryd.zeroValue4
  t5:=Tryd.underlying5
  a5:=Tryd.isAgg5
  z5:=Tryd.sizeOf5
  v5:=Tryd.zeroValue5
  t9:=Tryd.underlying9
  a9:=Tryd.isAgg9
  z9:=Tryd.sizeOf9
  v9:=Tryd.zeroValue9
  t46:=Tryd.underlying44
  a46:=Tryd.isAgg44
  z46:=Tryd.sizeOf44
  v46:=Tryd.zeroValue44
  t51:=Tryd.underlying113
  a51:=Tryd.isAgg113
  z51:=Tryd.sizeOf113
  v51:=Tryd.zeroValue113
  t59:=Tryd.underlying79
  a59:=Tryd.isAgg79
  z59:=Tryd.sizeOf79
  v59:=Tryd.zeroValue79
  t146:=Tryd.underlying123
  a146:=Tryd.isAgg123
  z146:=Tryd.sizeOf123
  v146:=Tryd.zeroValue123
  g1:=by kernel_rfl}
open Go.RowKit Go.Lib in
theorem Tryd.strings_Cut (s sep:ByteArray) (m:Int) (w:World) (hs:s.size<4294967281) (hm:w.cell? ⟨0,0,none⟩=some (.int .i64 m)) :
    Calls Tryd.prog 39 #[.string s,.string sep] w fun e w'=>e= .returned (.tuple #[.string ⟨(Lib.cut s.data.toList sep.data.toList).1.toArray⟩,.string ⟨(Lib.cut s.data.toList sep.data.toList).2.1.toArray⟩,.bool (Lib.cut s.data.toList sep.data.toList).2.2])∧∃n,w'=w.drewN n:=Any.strings_Cut Tryd.lays145 s sep m w hs hm
def Tryd.lays206_ren:Go.Shelf.Ren:=⟨fun|206=>41|n=>n,fun|9=>9|4=>4|3=>3|n=>n,fun|n=>n⟩
theorem Tryd.lays206:Go.Proofs.Lays.n206 Tryd.prog Tryd.lays206_ren:={
  mixed:=by kernel_rfl
  f206:=Tryd.func41.trans (congrArg some (by kernel_rfl))
  t3:=Tryd.underlying3
  a3:=Tryd.isAgg3
  z3:=Tryd.sizeOf3
  v3:=Tryd.zeroValue3
  t4:=Tryd.underlying4
  a4:=Tryd.isAgg4
  z4:=Tryd.sizeOf4
  v4:=Tryd.zeroValue4
  t9:=Tryd.underlying9
  a9:=Tryd.isAgg9
  z9:=Tryd.sizeOf9
  v9:=Tryd.zeroValue9}
open Go.RowKit Go.Lib in
theorem Tryd.stringslite_HasPrefix (s p:ByteArray) (w:World) :
    Calls Tryd.prog 41 #[.string s,.string p] w fun e w'=>e= .returned (.bool (Lib.hasPrefix s.data.toList p.data.toList))∧w'=w:=Any.stringslite_HasPrefix Tryd.lays206 s p w
def Tryd.lays99_ren:Go.Shelf.Ren:=⟨fun|99=>32|206=>41|n=>n,fun|9=>9|4=>4|3=>3|n=>n,fun|n=>n⟩
theorem Tryd.lays99:Go.Proofs.Lays.n99 Tryd.prog Tryd.lays99_ren:={
  mixed:=by kernel_rfl
  f99:=Tryd.func32.trans (congrArg some (by kernel_rfl))
  f206:=Tryd.func41.trans (congrArg some (by kernel_rfl))
  t3:=Tryd.underlying3
  a3:=Tryd.isAgg3
  z3:=Tryd.sizeOf3
  v3:=Tryd.zeroValue3
  t4:=Tryd.underlying4
  a4:=Tryd.isAgg4
  z4:=Tryd.sizeOf4
  v4:=Tryd.zeroValue4
  t9:=Tryd.underlying9
  a9:=Tryd.isAgg9
  z9:=Tryd.sizeOf9
  v9:=Tryd.zeroValue9}
open Go.RowKit Go.Lib in
theorem Tryd.strings_HasPrefix (s p:ByteArray) (w:World) :
    Calls Tryd.prog 32 #[.string s,.string p] w fun e w'=>e= .returned (.bool (Lib.hasPrefix s.data.toList p.data.toList))∧w'=w:=Any.strings_HasPrefix Tryd.lays99 s p w
def Tryd.lays197_ren:Go.Shelf.Ren:=⟨fun|197=>71|260=>85|n=>n,fun|9=>9|21=>21|3=>3|4=>4|5=>5|105=>98|119=>133|0=>0|46=>44|139=>136|138=>135|n=>n,fun|3=>4|4=>5|n=>n⟩
theorem Tryd.lays197:Go.Proofs.Lays.n197 Tryd.prog Tryd.lays197_ren:={
  mixed:=by kernel_rfl
  f197:=Tryd.func71.trans (congrArg some (by kernel_rfl))
  f260:=Tryd.func85.trans (congrArg some (by kernel_rfl))
  t0:=Tryd.underlying0
  a0:=Tryd.isAgg0
  z0:=Tryd.sizeOf0
  v0:=Tryd.zeroValue0
  t3:=Tryd.underlying3
  a3:=Tryd.isAgg3
  z3:=Tryd.sizeOf3
  v3:=Tryd.zeroValue3
  t4:=Tryd.underlying4
  a4:=Tryd.isAgg4
  z4:=Tryd.sizeOf4
  v4:=Tryd.zeroValue4
  t5:=Tryd.underlying5
  a5:=Tryd.isAgg5
  z5:=Tryd.sizeOf5
  v5:=Tryd.zeroValue5
  t9:=Tryd.underlying9
  a9:=Tryd.isAgg9
  z9:=Tryd.sizeOf9
  v9:=Tryd.zeroValue9
  t21:=Tryd.underlying21
  a21:=Tryd.isAgg21
  z21:=Tryd.sizeOf21
  v21:=Tryd.zeroValue21
  t46:=Tryd.underlying44
  a46:=Tryd.isAgg44
  z46:=Tryd.sizeOf44
  v46:=Tryd.zeroValue44
  t105:=Tryd.underlying98
  a105:=Tryd.isAgg98
  z105:=Tryd.sizeOf98
  v105:=Tryd.zeroValue98
  t119:=Tryd.underlying133
  a119:=Tryd.isAgg133
  z119:=Tryd.sizeOf133
  t138:=Tryd.underlying135
  a138:=Tryd.isAgg135
  z138:=Tryd.sizeOf135
  v138:=Tryd.zeroValue135
  t139:=Tryd.underlying136
  a139:=Tryd.isAgg136
  z139:=Tryd.sizeOf136
  v139:=Tryd.zeroValue136
  g3:=by kernel_rfl
  g4:=by kernel_rfl}
def Tryd.lays260_ren:Go.Shelf.Ren:=⟨fun|260=>85|n=>n,fun|9=>9|21=>21|3=>3|4=>4|5=>5|119=>133|0=>0|46=>44|139=>136|138=>135|n=>n,fun|3=>4|4=>5|n=>n⟩
theorem Tryd.lays260:Go.Proofs.Lays.n260 Tryd.prog Tryd.lays260_ren:={
  mixed:=by kernel_rfl
  f260:=Tryd.func85.trans (congrArg some (by kernel_rfl))
  t0:=Tryd.underlying0
  a0:=Tryd.isAgg0
  z0:=Tryd.sizeOf0
  v0:=Tryd.zeroValue0
  t3:=Tryd.underlying3
  a3:=Tryd.isAgg3
  z3:=Tryd.sizeOf3
  v3:=Tryd.zeroValue3
  t4:=Tryd.underlying4
  a4:=Tryd.isAgg4
  z4:=Tryd.sizeOf4
  v4:=Tryd.zeroValue4
  t5:=Tryd.underlying5
  a5:=Tryd.isAgg5
  z5:=Tryd.sizeOf5
  v5:=Tryd.zeroValue5
  t9:=Tryd.underlying9
  a9:=Tryd.isAgg9
  z9:=Tryd.sizeOf9
  v9:=Tryd.zeroValue9
  t21:=Tryd.underlying21
  a21:=Tryd.isAgg21
  z21:=Tryd.sizeOf21
  v21:=Tryd.zeroValue21
  t46:=Tryd.underlying44
  a46:=Tryd.isAgg44
  z46:=Tryd.sizeOf44
  v46:=Tryd.zeroValue44
  t119:=Tryd.underlying133
  a119:=Tryd.isAgg133
  z119:=Tryd.sizeOf133
  t138:=Tryd.underlying135
  a138:=Tryd.isAgg135
  z138:=Tryd.sizeOf135
  v138:=Tryd.zeroValue135
  t139:=Tryd.underlying136
  a139:=Tryd.isAgg136
  z139:=Tryd.sizeOf136
  v139:=Tryd.zeroValue136
  g3:=by kernel_rfl
  g4:=by kernel_rfl}
open Go.RowKit Go.Lib in
theorem Tryd.utf8_DecodeRuneInString (s:ByteArray) (w:World) (hT:Lib.Utf8Tabs 4 5 w) :
    Calls Tryd.prog 71 #[.string s] w fun e w'=>e= .returned (.tuple #[.int .i32 (Lib.decodeGo s).1,.int .i64 (Lib.decodeGo s).2])∧Below w.heap.size w w':=Any.utf8_DecodeRuneInString Tryd.lays197 s w hT
end Go.Proofs
