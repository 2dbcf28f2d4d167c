import Derived.Shelf.Strings.Builder1
import Derived.Shelf.Strings.Builder2
import Derived.Shelf.Strings.Trim
import Derived.Shelf.Small.Utf8
import Derived.Shelf.Small.Strs
import Derived.Shelf.Small.Wraps
import Derived.Shelf.Strings.BuilderF
import Derived.Shelf.Strings.BuilderK
import Derived.Shelf.Strings.Search1
import Derived.Shelf.Strings.Search2
import Derived.Shelf.Strings.Cut
import Derived.Shelf.LaysM
import Derived.Shelf.Strings.Shaped
import Derived.Shelf.Strings.Prefix
import Derived.Shelf.Unicode.Decode
import Derived.Shelf.Strings.Runes
import Derived.Shelf.Strings.AsciiSet
import Derived.Shelf.Bits.Mul64
import Derived.Shelf.Strings.Repeat
import Derived.Shelf.Unicode.DecodeSlow
import Derived.Shelf.Unicode.DecodeAny
import Derived.Ground.Names2Prog
import Derived.Shelf.Slices.SearchI
import Derived.Test.YtbhhfpjiacfofaaDoorProg
namespace Go.Proofs
open Go.Shelf
def Tryd.lays161_ren:Go.Shelf.Ren:=⟨fun|161=>46|231=>52|227=>53|233=>54|235=>55|228=>64|197=>65|151=>66|260=>76|152=>77|137=>34|119=>82|224=>74|225=>73|217=>45|266=>51|n=>n,fun|9=>9|4=>4|3=>3|5=>5|117=>100|116=>99|0=>0|124=>103|105=>117|21=>21|119=>134|46=>49|139=>137|138=>136|n=>n,fun|3=>1|4=>2|n=>n⟩
theorem Tryd.lays161:Go.Proofs.Lays.n161 Tryd.prog Tryd.lays161_ren:={
  mixed:=by kernel_rfl
  f119:=Tryd.func82.trans (congrArg some (by kernel_rfl))
  f137:=Tryd.func34.trans (congrArg some (by kernel_rfl))
  f151:=Tryd.func66.trans (congrArg some (by kernel_rfl))
  f152:=Tryd.func77.trans (congrArg some (by kernel_rfl))
  f161:=Tryd.func46.trans (congrArg some (by kernel_rfl))
  f197:=Tryd.func65.trans (congrArg some (by kernel_rfl))
  f217:=Tryd.func45.trans (congrArg some (by kernel_rfl))
  f224:=Tryd.func74.trans (congrArg some (by kernel_rfl))
  f225:=Tryd.func73.trans (congrArg some (by kernel_rfl))
  f227:=Tryd.func53.trans (congrArg some (by kernel_rfl))
  f228:=Tryd.func64.trans (congrArg some (by kernel_rfl))
  f231:=Tryd.func52.trans (congrArg some (by kernel_rfl))
  f233:=Tryd.func54.trans (congrArg some (by kernel_rfl))
  f235:=Tryd.func55.trans (congrArg some (by kernel_rfl))
  f260:=Tryd.func76.trans (congrArg some (by kernel_rfl))
  f266:=Tryd.func51.trans (congrArg some (by kernel_rfl))
  t0:=Tryd.underlying0
  a0:=Tryd.isAgg0
  z0:=Tryd.sizeOf0
  v0:=Tryd.zeroValue0
  t3:=Tryd.underlying3
  a3:=Tryd.isAgg3
  z3:=Tryd.sizeOf3
  v3:=Tryd.zeroValue3
  t4:=Tryd.underlying4
  a4:=Tryd.isAgg4
  z4:=Tryd.sizeOf4
  v4:=Tryd.zeroValue4
  t5:=Tryd.underlying5
  a5:=Tryd.isAgg5
  z5:=Tryd.sizeOf5
  v5:=Tryd.zeroValue5
  t9:=Tryd.underlying9
  a9:=Tryd.isAgg9
  z9:=Tryd.sizeOf9
  v9:=Tryd.zeroValue9
  t21:=Tryd.underlying21
  a21:=Tryd.isAgg21
  z21:=Tryd.sizeOf21
  v21:=Tryd.zeroValue21
  t46:=Tryd.underlying49
  a46:=Tryd.isAgg49
  z46:=Tryd.sizeOf49
  v46:=Tryd.zeroValue49
  t105:=Tryd.underlying117
  a105:=Tryd.isAgg117
  z105:=Tryd.sizeOf117
  v105:=Tryd.zeroValue117
  t116:=Tryd.underlying99
  a116:=Tryd.isAgg99
  z116:=Tryd.sizeOf99
  t117:=Tryd.underlying100
  a117:=Tryd.isAgg100
  z117:=Tryd.sizeOf100
  v117:=Tryd.zeroValue100
  t119:=Tryd.underlying134
  a119:=Tryd.isAgg134
  z119:=Tryd.sizeOf134
  t124:=Tryd.underlying103
  a124:=Tryd.isAgg103
  z124:=Tryd.sizeOf103
  v124:=Tryd.zeroValue103
  t138:=Tryd.underlying136
  a138:=Tryd.isAgg136
  z138:=Tryd.sizeOf136
  v138:=Tryd.zeroValue136
  t139:=Tryd.underlying137
  a139:=Tryd.isAgg137
  z139:=Tryd.sizeOf137
  v139:=Tryd.zeroValue137
  g3:=by kernel_rfl
  g4:=by kernel_rfl}
open Go.RowKit in
theorem Tryd.strings_TrimLeft_one (s:ByteArray) (c:UInt8) (hc:c.toNat<128) (w:World) :
    Calls Tryd.prog 46 #[.string s,.string ⟨#[c]⟩] w fun e w'=>e= .returned (.string ⟨(Lib.trimLeftB s.data.toList c).toArray⟩)∧w'=w:=Any.strings_TrimLeft_one Tryd.lays161 s c hc w
def Tryd.lays106_ren:Go.Shelf.Ren:=⟨fun|106=>62|213=>72|265=>80|n=>n,fun|9=>9|3=>3|n=>n,fun|n=>n⟩
theorem Tryd.lays106:Go.Proofs.Lays.n106 Tryd.prog Tryd.lays106_ren:={
  mixed:=by kernel_rfl
  f106:=Tryd.func62.trans (congrArg some (by kernel_rfl))
  f213:=Tryd.func72.trans (congrArg some (by kernel_rfl))
  f265:=Tryd.func80.trans (congrArg some (by kernel_rfl))
  t3:=Tryd.underlying3
  a3:=Tryd.isAgg3
  z3:=Tryd.sizeOf3
  v3:=Tryd.zeroValue3
  t9:=Tryd.underlying9
  a9:=Tryd.isAgg9
  z9:=Tryd.sizeOf9
  v9:=Tryd.zeroValue9}
open Go.RowKit in
theorem Tryd.strings_Compare (a b:ByteArray) (w:World) :
    Calls Tryd.prog 62 #[.string a,.string b] w fun e w'=>e= .returned (.int .i64 (Lib.compareBytes a.data.toList b.data.toList))∧w'=w:=Any.strings_Compare Tryd.lays106 a b w
def Tryd.lays137_ren:Go.Shelf.Ren:=⟨fun|137=>34|217=>45|266=>51|n=>n,fun|9=>9|5=>5|3=>3|n=>n,fun|n=>n⟩
theorem Tryd.lays137:Go.Proofs.Lays.n137 Tryd.prog Tryd.lays137_ren:={
  mixed:=by kernel_rfl
  f137:=Tryd.func34.trans (congrArg some (by kernel_rfl))
  f217:=Tryd.func45.trans (congrArg some (by kernel_rfl))
  f266:=Tryd.func51.trans (congrArg some (by kernel_rfl))
  t3:=Tryd.underlying3
  a3:=Tryd.isAgg3
  z3:=Tryd.sizeOf3
  v3:=Tryd.zeroValue3
  t5:=Tryd.underlying5
  a5:=Tryd.isAgg5
  z5:=Tryd.sizeOf5
  v5:=Tryd.zeroValue5
  t9:=Tryd.underlying9
  a9:=Tryd.isAgg9
  z9:=Tryd.sizeOf9
  v9:=Tryd.zeroValue9}
open Go.RowKit in
theorem Tryd.strings_IndexByte (s:ByteArray) (c:Int) (w:World) :
    Calls Tryd.prog 34 #[.string s,.int .u8 c] w fun e w'=>e= .returned (.int .i64 (Lib.indexByte s.data.toList c.toNat.toUInt8))∧w'=w:=Any.strings_IndexByte Tryd.lays137 s c w
def Tryd.lays122_ren:Go.Shelf.Ren:=⟨fun|122=>61|215=>71|n=>n,fun|3=>3|4=>4|n=>n,fun|n=>n⟩
theorem Tryd.lays122:Go.Proofs.Lays.n122 Tryd.prog Tryd.lays122_ren:={
  mixed:=by kernel_rfl
  f122:=Tryd.func61.trans (congrArg some (by kernel_rfl))
  f215:=Tryd.func71.trans (congrArg some (by kernel_rfl))
  t3:=Tryd.underlying3
  a3:=Tryd.isAgg3
  z3:=Tryd.sizeOf3
  v3:=Tryd.zeroValue3
  t4:=Tryd.underlying4
  a4:=Tryd.isAgg4
  z4:=Tryd.sizeOf4
  v4:=Tryd.zeroValue4}
open Go.RowKit in
theorem Tryd.cmp_Compare_int (x y:Int) (w:World) :
    Calls Tryd.prog 61 #[.int .i64 x,.int .i64 y] w fun e w'=>e= .returned (.int .i64 (Lib.compareInt x y))∧w'=w:=Any.cmp_Compare_int Tryd.lays122 x y w
def Tryd.lays219_ren:Go.Shelf.Ren:=⟨fun|219=>63|217=>45|225=>73|224=>74|267=>75|266=>51|314=>81|n=>n,fun|9=>9|3=>3|4=>4|5=>5|46=>49|146=>121|51=>120|n=>n,fun|1=>0|n=>n⟩
theorem Tryd.lays219:Go.Proofs.Lays.n219 Tryd.prog Tryd.lays219_ren:={
  mixed:=by kernel_rfl
  f217:=Tryd.func45.trans (congrArg some (by kernel_rfl))
  f219:=Tryd.func63.trans (congrArg some (by kernel_rfl))
  f224:=Tryd.func74.trans (congrArg some (by kernel_rfl))
  f225:=Tryd.func73.trans (congrArg some (by kernel_rfl))
  f266:=Tryd.func51.trans (congrArg some (by kernel_rfl))
  f267:=Tryd.func75.trans (congrArg some (by kernel_rfl))
  f314:=Tryd.func81.trans (congrArg some (by kernel_rfl))
  t3:=Tryd.underlying3
  a3:=Tryd.isAgg3
  z3:=Tryd.sizeOf3
  v3:=Tryd.zeroValue3
  t4:=Tryd.underlying4
  a4:=Tryd.isAgg4
  z4:=Tryd.sizeOf4
  v4:=Tryd.zeroValue4
  t5:=Tryd.underlying5
  a5:=Tryd.isAgg5
  z5:=Tryd.sizeOf5
  v5:=Tryd.zeroValue5
  t9:=Tryd.underlying9
  a9:=Tryd.isAgg9
  z9:=Tryd.sizeOf9
  v9:=Tryd.zeroValue9
  t46:=Tryd.underlying49
  a46:=Tryd.isAgg49
  z46:=Tryd.sizeOf49
  v46:=Tryd.zeroValue49
  t51:=Tryd.underlying120
  a51:=Tryd.isAgg120
  z51:=Tryd.sizeOf120
  v51:=Tryd.zeroValue120
  t146:=Tryd.underlying121
  a146:=Tryd.isAgg121
  z146:=Tryd.sizeOf121
  v146:=Tryd.zeroValue121
  g1:=by kernel_rfl}
open Go.RowKit Go.Lib in
theorem Tryd.stringslite_Index_one (s:ByteArray) (c:UInt8) (w:World) :
    Calls Tryd.prog 63 #[.string s,.string ⟨#[c]⟩] w fun e w'=>e= .returned (.int .i64 (Lib.indexByte s.data.toList c))∧w'=w:=Any.stringslite_Index_one Tryd.lays219 s c w
open Go.RowKit Go.Lib in
theorem Tryd.stringslite_Index (s sub:ByteArray) (m:Int) (w:World) (hs:s.size<4294967281) (hm:w.cell? ⟨0,0,none⟩=some (.int .i64 m)) :
    Calls Tryd.prog 63 #[.string s,.string sub] w fun e w'=>e= .returned (.int .i64 (Lib.index s.data.toList sub.data.toList))∧w'=w:=Any.stringslite_Index Tryd.lays219 s sub m w hs hm
def Tryd.lays220_ren:Go.Shelf.Ren:=⟨fun|220=>50|219=>63|217=>45|225=>73|224=>74|267=>75|266=>51|314=>81|n=>n,fun|9=>9|4=>4|3=>3|5=>5|46=>49|146=>121|51=>120|n=>n,fun|1=>0|n=>n⟩
theorem Tryd.lays220:Go.Proofs.Lays.n220 Tryd.prog Tryd.lays220_ren:={
  mixed:=by kernel_rfl
  f217:=Tryd.func45.trans (congrArg some (by kernel_rfl))
  f219:=Tryd.func63.trans (congrArg some (by kernel_rfl))
  f220:=Tryd.func50.trans (congrArg some (by kernel_rfl))
  f224:=Tryd.func74.trans (congrArg some (by kernel_rfl))
  f225:=Tryd.func73.trans (congrArg some (by kernel_rfl))
  f266:=Tryd.func51.trans (congrArg some (by kernel_rfl))
  f267:=Tryd.func75.trans (congrArg some (by kernel_rfl))
  f314:=Tryd.func81.trans (congrArg some (by kernel_rfl))
  t3:=Tryd.underlying3
  a3:=Tryd.isAgg3
  z3:=Tryd.sizeOf3
  v3:=Tryd.zeroValue3
  t4:=Tryd.underlying4
  a4:=Tryd.isAgg4
  z4:=Tryd.sizeOf4
  v4:=Tryd.zeroValue4
  t5:=Tryd.underlying5
  a5:=Tryd.isAgg5
  z5:=Tryd.sizeOf5
  v5:=Tryd.zeroValue5
  t9:=Tryd.underlying9
  a9:=Tryd.isAgg9
  z9:=Tryd.sizeOf9
  v9:=Tryd.zeroValue9
  t46:=Tryd.underlying49
  a46:=Tryd.isAgg49
  z46:=Tryd.sizeOf49
  v46:=Tryd.zeroValue49
  t51:=Tryd.underlying120
  a51:=Tryd.isAgg120
  z51:=Tryd.sizeOf120
  v51:=Tryd.zeroValue120
  t146:=Tryd.underlying121
  a146:=Tryd.isAgg121
  z146:=Tryd.sizeOf121
  v146:=Tryd.zeroValue121
  g1:=by kernel_rfl}
open Go.RowKit Go.Lib in
theorem Tryd.stringslite_Cut (s sep:ByteArray) (m:Int) (w:World) (hs:s.size<4294967281) (hm:w.cell? ⟨0,0,none⟩=some (.int .i64 m)) :
    Calls Tryd.prog 50 #[.string s,.string sep] w fun e w'=>e= .returned (.tuple #[.string ⟨(Lib.cut s.data.toList sep.data.toList).1.toArray⟩,.string ⟨(Lib.cut s.data.toList sep.data.toList).2.1.toArray⟩,.bool (Lib.cut s.data.toList sep.data.toList).2.2])∧∃n,w'=w.drewN n:=Any.stringslite_Cut Tryd.lays220 s sep m w hs hm
def Tryd.lays145_ren:Go.Shelf.Ren:=⟨fun|145=>42|220=>50|219=>63|217=>45|225=>73|224=>74|267=>75|266=>51|314=>81|n=>n,fun|9=>9|4=>4|59=>68|3=>3|5=>5|46=>49|146=>121|51=>120|n=>n,fun|1=>0|n=>n⟩
theorem Tryd.lays145:Go.Proofs.Lays.n145 Tryd.prog Tryd.lays145_ren:={
  mixed:=by kernel_rfl
  f145:=Tryd.func42.trans (congrArg some (by kernel_rfl))
  f217:=Tryd.func45.trans (congrArg some (by kernel_rfl))
  f219:=Tryd.func63.trans (congrArg some (by kernel_rfl))
  f220:=Tryd.func50.trans (congrArg some (by kernel_rfl))
  f224:=Tryd.func74.trans (congrArg some (by kernel_rfl))
  f225:=Tryd.func73.trans (congrArg some (by kernel_rfl))
  f266:=Tryd.func51.trans (congrArg some (by kernel_rfl))
  f267:=Tryd.func75.trans (congrArg some (by kernel_rfl))
  f314:=Tryd.func81.trans (congrArg some (by kernel_rfl))
  t3:=Tryd.underlying3
  a3:=Tryd.isAgg3
  z3:=Tryd.sizeOf3
  v3:=Tryd.zeroValue3
  t4:=Tryd.underlying4
  a4:=Tryd.isAgg4
  z4:=Tryd.sizeOf4
  v4:=Tryd.zeroValue4
  t5:=Tryd.underlying5
  a5:=Tryd.isAgg5
  z5:=Tryd.sizeOf5
  v5:=Tryd.zeroValue5
  t9:=Tryd.underlying9
  a9:=Tryd.isAgg9
  z9:=Tryd.sizeOf9
  v9:=Tryd.zeroValue9
  t46:=Tryd.underlying49
  a46:=Tryd.isAgg49
  z46:=Tryd.sizeOf49
  v46:=Tryd.zeroValue49
  t51:=Tryd.underlying120
  a51:=Tryd.isAgg120
  z51:=Tryd.sizeOf120
  v51:=Tryd.zeroValue120
  t59:=Tryd.underlying68
  a59:=Tryd.isAgg68
  z59:=Tryd.sizeOf68
  v59:=Tryd.zeroValue68
  t146:=Tryd.underlying121
  a146:=Tryd.isAgg121
  z146:=Tryd.sizeOf121
  v146:=Tryd.zeroValue121
  g1:=by kernel_rfl}
open Go.RowKit Go.Lib in
theorem Tryd.strings_Cut (s sep:ByteArray) (m:Int) (w:World) (hs:s.size<4294967281) (hm:w.cell? ⟨0,0,none⟩=some (.int .i64 m)) :
    Calls Tryd.prog 42 #[.string s,.string sep] w fun e w'=>e= .returned (.tuple #[.string ⟨(Lib.cut s.data.toList sep.data.toList).1.toArray⟩,.string ⟨(Lib.cut s.data.toList sep.data.toList).2.1.toArray⟩,.bool (Lib.cut s.data.toList sep.data.toList).2.2])∧∃n,w'=w.drewN n:=Any.strings_Cut Tryd.lays145 s sep m w hs hm
def Tryd.lays206_ren:Go.Shelf.Ren:=⟨fun|206=>48|n=>n,fun|9=>9|4=>4|3=>3|n=>n,fun|n=>n⟩
theorem Tryd.lays206:Go.Proofs.Lays.n206 Tryd.prog Tryd.lays206_ren:={
  mixed:=by kernel_rfl
  f206:=Tryd.func48.trans (congrArg some (by kernel_rfl))
  t3:=Tryd.underlying3
  a3:=Tryd.isAgg3
  z3:=Tryd.sizeOf3
  v3:=Tryd.zeroValue3
  t4:=Tryd.underlying4
  a4:=Tryd.isAgg4
  z4:=Tryd.sizeOf4
  v4:=Tryd.zeroValue4
  t9:=Tryd.underlying9
  a9:=Tryd.isAgg9
  z9:=Tryd.sizeOf9
  v9:=Tryd.zeroValue9}
open Go.RowKit Go.Lib in
theorem Tryd.stringslite_HasPrefix (s p:ByteArray) (w:World) :
    Calls Tryd.prog 48 #[.string s,.string p] w fun e w'=>e= .returned (.bool (Lib.hasPrefix s.data.toList p.data.toList))∧w'=w:=Any.stringslite_HasPrefix Tryd.lays206 s p w
def Tryd.lays99_ren:Go.Shelf.Ren:=⟨fun|99=>39|206=>48|n=>n,fun|9=>9|4=>4|3=>3|n=>n,fun|n=>n⟩
theorem Tryd.lays99:Go.Proofs.Lays.n99 Tryd.prog Tryd.lays99_ren:={
  mixed:=by kernel_rfl
  f99:=Tryd.func39.trans (congrArg some (by kernel_rfl))
  f206:=Tryd.func48.trans (congrArg some (by kernel_rfl))
  t3:=Tryd.underlying3
  a3:=Tryd.isAgg3
  z3:=Tryd.sizeOf3
  v3:=Tryd.zeroValue3
  t4:=Tryd.underlying4
  a4:=Tryd.isAgg4
  z4:=Tryd.sizeOf4
  v4:=Tryd.zeroValue4
  t9:=Tryd.underlying9
  a9:=Tryd.isAgg9
  z9:=Tryd.sizeOf9
  v9:=Tryd.zeroValue9}
open Go.RowKit Go.Lib in
theorem Tryd.strings_HasPrefix (s p:ByteArray) (w:World) :
    Calls Tryd.prog 39 #[.string s,.string p] w fun e w'=>e= .returned (.bool (Lib.hasPrefix s.data.toList p.data.toList))∧w'=w:=Any.strings_HasPrefix Tryd.lays99 s p w
def Tryd.lays197_ren:Go.Shelf.Ren:=⟨fun|197=>65|260=>76|n=>n,fun|9=>9|21=>21|3=>3|4=>4|5=>5|105=>117|119=>134|0=>0|46=>49|139=>137|138=>136|n=>n,fun|3=>1|4=>2|n=>n⟩
theorem Tryd.lays197:Go.Proofs.Lays.n197 Tryd.prog Tryd.lays197_ren:={
  mixed:=by kernel_rfl
  f197:=Tryd.func65.trans (congrArg some (by kernel_rfl))
  f260:=Tryd.func76.trans (congrArg some (by kernel_rfl))
  t0:=Tryd.underlying0
  a0:=Tryd.isAgg0
  z0:=Tryd.sizeOf0
  v0:=Tryd.zeroValue0
  t3:=Tryd.underlying3
  a3:=Tryd.isAgg3
  z3:=Tryd.sizeOf3
  v3:=Tryd.zeroValue3
  t4:=Tryd.underlying4
  a4:=Tryd.isAgg4
  z4:=Tryd.sizeOf4
  v4:=Tryd.zeroValue4
  t5:=Tryd.underlying5
  a5:=Tryd.isAgg5
  z5:=Tryd.sizeOf5
  v5:=Tryd.zeroValue5
  t9:=Tryd.underlying9
  a9:=Tryd.isAgg9
  z9:=Tryd.sizeOf9
  v9:=Tryd.zeroValue9
  t21:=Tryd.underlying21
  a21:=Tryd.isAgg21
  z21:=Tryd.sizeOf21
  v21:=Tryd.zeroValue21
  t46:=Tryd.underlying49
  a46:=Tryd.isAgg49
  z46:=Tryd.sizeOf49
  v46:=Tryd.zeroValue49
  t105:=Tryd.underlying117
  a105:=Tryd.isAgg117
  z105:=Tryd.sizeOf117
  v105:=Tryd.zeroValue117
  t119:=Tryd.underlying134
  a119:=Tryd.isAgg134
  z119:=Tryd.sizeOf134
  t138:=Tryd.underlying136
  a138:=Tryd.isAgg136
  z138:=Tryd.sizeOf136
  v138:=Tryd.zeroValue136
  t139:=Tryd.underlying137
  a139:=Tryd.isAgg137
  z139:=Tryd.sizeOf137
  v139:=Tryd.zeroValue137
  g3:=by kernel_rfl
  g4:=by kernel_rfl}
def Tryd.lays105_ren:Go.Shelf.Ren:=⟨fun|105=>47|212=>56|99=>39|165=>57|166=>58|170=>59|169=>60|263=>67|264=>68|206=>48|240=>69|241=>70|276=>78|277=>79|n=>n,fun|9=>9|3=>3|4=>4|20=>20|0=>0|46=>49|109=>104|5=>5|72=>108|76=>112|51=>120|146=>121|53=>123|148=>124|70=>106|37=>87|75=>111|127=>126|164=>130|80=>114|n=>n,fun|n=>n⟩
theorem Tryd.lays105:Go.Proofs.Lays.n105 Tryd.prog Tryd.lays105_ren:={
  mixed:=by kernel_rfl
  f99:=Tryd.func39.trans (congrArg some (by kernel_rfl))
  f105:=Tryd.func47.trans (congrArg some (by kernel_rfl))
  f165:=Tryd.func57.trans (congrArg some (by kernel_rfl))
  f166:=Tryd.func58.trans (congrArg some (by kernel_rfl))
  f169:=Tryd.func60.trans (congrArg some (by kernel_rfl))
  f170:=Tryd.func59.trans (congrArg some (by kernel_rfl))
  f206:=Tryd.func48.trans (congrArg some (by kernel_rfl))
  f212:=Tryd.func56.trans (congrArg some (by kernel_rfl))
  f240:=Tryd.func69.trans (congrArg some (by kernel_rfl))
  f241:=Tryd.func70.trans (congrArg some (by kernel_rfl))
  f263:=Tryd.func67.trans (congrArg some (by kernel_rfl))
  f264:=Tryd.func68.trans (congrArg some (by kernel_rfl))
  f276:=Tryd.func78.trans (congrArg some (by kernel_rfl))
  f277:=Tryd.func79.trans (congrArg some (by kernel_rfl))
  t0:=Tryd.underlying0
  a0:=Tryd.isAgg0
  z0:=Tryd.sizeOf0
  v0:=Tryd.zeroValue0
  t3:=Tryd.underlying3
  a3:=Tryd.isAgg3
  z3:=Tryd.sizeOf3
  v3:=Tryd.zeroValue3
  t4:=Tryd.underlying4
  a4:=Tryd.isAgg4
  z4:=Tryd.sizeOf4
  v4:=Tryd.zeroValue4
  t5:=Tryd.underlying5
  a5:=Tryd.isAgg5
  z5:=Tryd.sizeOf5
  v5:=Tryd.zeroValue5
  t9:=Tryd.underlying9
  a9:=Tryd.isAgg9
  z9:=Tryd.sizeOf9
  v9:=Tryd.zeroValue9
  t20:=Tryd.underlying20
  a20:=Tryd.isAgg20
  z20:=Tryd.sizeOf20
  v20:=Tryd.zeroValue20
  t37:=Tryd.underlying87
  a37:=Tryd.isAgg87
  z37:=Tryd.sizeOf87
  v37:=Tryd.zeroValue87
  t46:=Tryd.underlying49
  a46:=Tryd.isAgg49
  z46:=Tryd.sizeOf49
  v46:=Tryd.zeroValue49
  t51:=Tryd.underlying120
  a51:=Tryd.isAgg120
  z51:=Tryd.sizeOf120
  v51:=Tryd.zeroValue120
  t53:=Tryd.underlying123
  a53:=Tryd.isAgg123
  z53:=Tryd.sizeOf123
  v53:=Tryd.zeroValue123
  t70:=Tryd.underlying106
  a70:=Tryd.isAgg106
  z70:=Tryd.sizeOf106
  v70:=Tryd.zeroValue106
  t72:=Tryd.underlying108
  a72:=Tryd.isAgg108
  z72:=Tryd.sizeOf108
  v72:=Tryd.zeroValue108
  t75:=Tryd.underlying111
  a75:=Tryd.isAgg111
  z75:=Tryd.sizeOf111
  v75:=Tryd.zeroValue111
  t76:=Tryd.underlying112
  a76:=Tryd.isAgg112
  z76:=Tryd.sizeOf112
  v76:=Tryd.zeroValue112
  t109:=Tryd.underlying104
  a109:=Tryd.isAgg104
  z109:=Tryd.sizeOf104
  v109:=Tryd.zeroValue104
  t127:=Tryd.underlying126
  a127:=Tryd.isAgg126
  z127:=Tryd.sizeOf126
  v127:=Tryd.zeroValue126
  t146:=Tryd.underlying121
  a146:=Tryd.isAgg121
  z146:=Tryd.sizeOf121
  v146:=Tryd.zeroValue121
  t148:=Tryd.underlying124
  a148:=Tryd.isAgg124
  z148:=Tryd.sizeOf124
  v148:=Tryd.zeroValue124
  t164:=Tryd.underlying130
  a164:=Tryd.isAgg130
  z164:=Tryd.sizeOf130
  v164:=Tryd.zeroValue130}
theorem Tryd.Builder_Extra_105:Builder.Extra Tryd.prog Tryd.lays105_ren:={
  sizeBuilder:=by kernel_rfl
  liesBuilder:=by kernel_rfl
  t5:=Tryd.underlying5
  a5:=Tryd.isAgg5
  z5:=Tryd.sizeOf5
  v5:=Tryd.zeroValue5
  infoByte:=by kernel_rfl
  cellsByte:=by kernel_rfl
  sizeByte:=by kernel_rfl
  neB5:=by decide}
open Go.RowKit Go.Lib in
theorem Tryd.strings_Repeat (s:ByteArray) (c:Nat) (w:World) (hc:c≤9223372036854775807) (hlen:s.size*c≤140737488355328) :
    Calls Tryd.prog 47 #[.string s,.int .i64 c] w fun e w'=>e= .returned (.string ⟨(Lib.repeatL s.data.toList c).toArray⟩)∧Below w.heap.size w w':=Any.strings_Repeat Tryd.lays105 Tryd.Builder_Extra_105 s c w hc hlen
def Tryd.lays260_ren:Go.Shelf.Ren:=⟨fun|260=>76|n=>n,fun|9=>9|21=>21|3=>3|4=>4|5=>5|119=>134|0=>0|46=>49|139=>137|138=>136|n=>n,fun|3=>1|4=>2|n=>n⟩
theorem Tryd.lays260:Go.Proofs.Lays.n260 Tryd.prog Tryd.lays260_ren:={
  mixed:=by kernel_rfl
  f260:=Tryd.func76.trans (congrArg some (by kernel_rfl))
  t0:=Tryd.underlying0
  a0:=Tryd.isAgg0
  z0:=Tryd.sizeOf0
  v0:=Tryd.zeroValue0
  t3:=Tryd.underlying3
  a3:=Tryd.isAgg3
  z3:=Tryd.sizeOf3
  v3:=Tryd.zeroValue3
  t4:=Tryd.underlying4
  a4:=Tryd.isAgg4
  z4:=Tryd.sizeOf4
  v4:=Tryd.zeroValue4
  t5:=Tryd.underlying5
  a5:=Tryd.isAgg5
  z5:=Tryd.sizeOf5
  v5:=Tryd.zeroValue5
  t9:=Tryd.underlying9
  a9:=Tryd.isAgg9
  z9:=Tryd.sizeOf9
  v9:=Tryd.zeroValue9
  t21:=Tryd.underlying21
  a21:=Tryd.isAgg21
  z21:=Tryd.sizeOf21
  v21:=Tryd.zeroValue21
  t46:=Tryd.underlying49
  a46:=Tryd.isAgg49
  z46:=Tryd.sizeOf49
  v46:=Tryd.zeroValue49
  t119:=Tryd.underlying134
  a119:=Tryd.isAgg134
  z119:=Tryd.sizeOf134
  t138:=Tryd.underlying136
  a138:=Tryd.isAgg136
  z138:=Tryd.sizeOf136
  v138:=Tryd.zeroValue136
  t139:=Tryd.underlying137
  a139:=Tryd.isAgg137
  z139:=Tryd.sizeOf137
  v139:=Tryd.zeroValue137
  g3:=by kernel_rfl
  g4:=by kernel_rfl}
open Go.RowKit Go.Lib in
theorem Tryd.utf8_DecodeRuneInString (s:ByteArray) (w:World) (hT:Lib.Utf8Tabs 1 2 w) :
    Calls Tryd.prog 65 #[.string s] w fun e w'=>e= .returned (.tuple #[.int .i32 (Lib.decodeGo s).1,.int .i64 (Lib.decodeGo s).2])∧Below w.heap.size w w':=Any.utf8_DecodeRuneInString Tryd.lays197 s w hT
end Go.Proofs
