/- A part of the proof. -/
import Derived.KernelRfl
import Derived.Shelf.Strings.Trim
import Derived.Shelf.Small.Strs
import Derived.Shelf.Small.Wraps
import Derived.Shelf.LaysM
import Derived.Shelf.Strconv.Itoa3
import Derived.Shelf.LaysC
import Derived.Shelf.Strconv.ParseIntPublic10
import Derived.Shelf.Strconv.ErrVarParseInt
import Derived.Shelf.Sort.Plain
import Derived.Shelf.Strings.Prefix
import Derived.Shelf.Strings.Repeat
import Derived.Shelf.Unicode.DecodeSlow
import Derived.Shelf.Unicode.DecodeAny
import Derived.Shelf.SortM.SortNone
import Derived.Test.YtbhneplafiapdaaGreatDoorProg
set_option linter.all false
namespace Go.Proofs
open Tryz
open Go.Shelf
theorem tK_lay{α:Type _}{x:Option α}{a b:α}(h:x=some a)(e:a=b:=by kernel_rfl):x=some b:=h.trans (congrArg some e)
def Tryz.lays161_ren:Go.Shelf.Ren:=⟨fun|161=>105|231=>144|227=>145|233=>146|235=>147|228=>191|197=>133|151=>192|260=>176|152=>230|137=>189|119=>253|224=>254|225=>255|217=>229|266=>252|n=>n,fun|9=>9|4=>4|3=>3|5=>5|117=>175|116=>174|0=>0|124=>178|105=>162|21=>21|119=>201|46=>110|139=>204|138=>203|n=>n,fun|3=>0|4=>1|n=>n⟩
theorem Tryz.lays161:Go.Proofs.Lays.n161 prog lays161_ren:={
 mixed:=by kernel_rfl,f119:=tK_lay func253,f137:=tK_lay func189,f151:=tK_lay func192,f152:=tK_lay func230,f161:=tK_lay func105,f197:=tK_lay func133,f217:=tK_lay func229,f224:=tK_lay func254,f225:=tK_lay func255,f227:=tK_lay func145,f228:=tK_lay func191,
 f231:=tK_lay func144,f233:=tK_lay func146,f235:=tK_lay func147,f260:=tK_lay func176,f266:=tK_lay func252,t0:=underlying0,a0:=isAgg0,z0:=sizeOf0,v0:=zeroValue0,t3:=underlying3,a3:=isAgg3,z3:=sizeOf3,
 v3:=zeroValue3,t4:=underlying4,a4:=isAgg4,z4:=sizeOf4,v4:=zeroValue4,t5:=underlying5,a5:=isAgg5,z5:=sizeOf5,v5:=zeroValue5,t9:=underlying9,a9:=isAgg9,z9:=sizeOf9,
 v9:=zeroValue9,t21:=underlying21,a21:=isAgg21,z21:=sizeOf21,v21:=zeroValue21,t46:=underlying110,a46:=isAgg110,z46:=sizeOf110,v46:=zeroValue110,t105:=underlying162,a105:=isAgg162,z105:=sizeOf162,
 v105:=zeroValue162,t116:=underlying174,a116:=isAgg174,z116:=sizeOf174,t117:=underlying175,a117:=isAgg175,z117:=sizeOf175,v117:=zeroValue175,t119:=underlying201,a119:=isAgg201,z119:=sizeOf201,t124:=underlying178,
 a124:=isAgg178,z124:=sizeOf178,v124:=zeroValue178,t138:=underlying203,a138:=isAgg203,z138:=sizeOf203,v138:=zeroValue203,t139:=underlying204,a139:=isAgg204,z139:=sizeOf204,v139:=zeroValue204,g3:=by kernel_rfl,
 g4:=by kernel_rfl}
open Go.RowKit in
theorem Tryz.strings_TrimLeft_one(s:ByteArray)(c:UInt8)(hc:c.toNat < 128)(w:World) :
    Calls prog 105 #[.string s,.string ⟨#[c]⟩] w fun e w'=>e = .returned (.string ⟨(Lib.trimLeftB s.data.toList c).toArray⟩)∧w' = w:=Any.strings_TrimLeft_one lays161 s c hc w
def Tryz.lays162_ren:Go.Shelf.Ren:=⟨fun|162=>106|232=>148|227=>145|234=>149|236=>150|228=>191|271=>193|151=>192|120=>231|197=>133|152=>230|260=>176|137=>189|119=>253|224=>254|225=>255|217=>229|266=>252|n=>n,fun|9=>9|4=>4|3=>3|5=>5|117=>175|116=>174|0=>0|124=>178|21=>21|105=>162|46=>110|119=>201|139=>204|138=>203|n=>n,fun|3=>0|4=>1|n=>n⟩
theorem Tryz.lays162:Go.Proofs.Lays.n162 prog lays162_ren:={
 mixed:=by kernel_rfl,f119:=tK_lay func253,f120:=tK_lay func231,f137:=tK_lay func189,f151:=tK_lay func192,f152:=tK_lay func230,f162:=tK_lay func106,f197:=tK_lay func133,f217:=tK_lay func229,f224:=tK_lay func254,f225:=tK_lay func255,f227:=tK_lay func145,
 f228:=tK_lay func191,f232:=tK_lay func148,f234:=tK_lay func149,f236:=tK_lay func150,f260:=tK_lay func176,f266:=tK_lay func252,f271:=tK_lay func193,t0:=underlying0,a0:=isAgg0,z0:=sizeOf0,v0:=zeroValue0,t3:=underlying3,
 a3:=isAgg3,z3:=sizeOf3,v3:=zeroValue3,t4:=underlying4,a4:=isAgg4,z4:=sizeOf4,v4:=zeroValue4,t5:=underlying5,a5:=isAgg5,z5:=sizeOf5,v5:=zeroValue5,t9:=underlying9,
 a9:=isAgg9,z9:=sizeOf9,v9:=zeroValue9,t21:=underlying21,a21:=isAgg21,z21:=sizeOf21,v21:=zeroValue21,t46:=underlying110,a46:=isAgg110,z46:=sizeOf110,v46:=zeroValue110,t105:=underlying162,
 a105:=isAgg162,z105:=sizeOf162,v105:=zeroValue162,t116:=underlying174,a116:=isAgg174,z116:=sizeOf174,t117:=underlying175,a117:=isAgg175,z117:=sizeOf175,v117:=zeroValue175,t119:=underlying201,a119:=isAgg201,
 z119:=sizeOf201,t124:=underlying178,a124:=isAgg178,z124:=sizeOf178,v124:=zeroValue178,t138:=underlying203,a138:=isAgg203,z138:=sizeOf203,v138:=zeroValue203,t139:=underlying204,a139:=isAgg204,z139:=sizeOf204,
 v139:=zeroValue204,g3:=by kernel_rfl,g4:=by kernel_rfl}
open Go.RowKit in
theorem Tryz.strings_TrimRight_one(s:ByteArray)(c:UInt8)(hc:c.toNat < 128)(w:World)(hs:s.size≤9223372036854775807) :
    Calls prog 106 #[.string s,.string ⟨#[c]⟩] w fun e w'=>e = .returned (.string ⟨(Lib.trimRightB s.data.toList c).toArray⟩)∧w' = w:=Any.strings_TrimRight_one lays162 s c hc w hs
def Tryz.lays137_ren:Go.Shelf.Ren:=⟨fun|137=>189|217=>229|266=>252|n=>n,fun|9=>9|5=>5|3=>3|n=>n,fun|n=>n⟩
theorem Tryz.lays137:Go.Proofs.Lays.n137 prog lays137_ren:={
 mixed:=by kernel_rfl,f137:=tK_lay func189,f217:=tK_lay func229,f266:=tK_lay func252,t3:=underlying3,a3:=isAgg3,z3:=sizeOf3,v3:=zeroValue3,t5:=underlying5,a5:=isAgg5,z5:=sizeOf5,v5:=zeroValue5,
 t9:=underlying9,a9:=isAgg9,z9:=sizeOf9,v9:=zeroValue9}
open Go.RowKit in
theorem Tryz.strings_IndexByte(s:ByteArray)(c:Int)(w:World) :
    Calls prog 189 #[.string s,.int .u8 c] w fun e w'=>e = .returned (.int .i64 (Lib.indexByte s.data.toList c.toNat.toUInt8))∧w' = w:=Any.strings_IndexByte lays137 s c w
def Tryz.lays103_ren:Go.Shelf.Ren:=⟨fun|103=>141|210=>188|206=>228|n=>n,fun|9=>9|4=>4|24=>152|3=>3|n=>n,fun|n=>n⟩
theorem Tryz.lays103:Go.Proofs.Lays.n103 prog lays103_ren:={
 mixed:=by kernel_rfl,f103:=tK_lay func141,f206:=tK_lay func228,f210:=tK_lay func188,t3:=underlying3,a3:=isAgg3,z3:=sizeOf3,v3:=zeroValue3,t4:=underlying4,a4:=isAgg4,z4:=sizeOf4,v4:=zeroValue4,
 t9:=underlying9,a9:=isAgg9,z9:=sizeOf9,v9:=zeroValue9,t24:=underlying152,a24:=isAgg152,z24:=sizeOf152,v24:=zeroValue152}
open Go.RowKit in
theorem Tryz.strings_CutPrefix(s p:ByteArray)(w:World) :
    Calls prog 141 #[.string s,.string p] w fun e w'=>e = .returned (.tuple #[.string ⟨(Lib.trimPrefix s.data.toList p.data.toList).toArray⟩,.bool (Lib.hasPrefix s.data.toList p.data.toList)])∧w' = w:=Any.strings_CutPrefix lays103 s p w
def Tryz.laysM171_ren:Go.Shelf.Ren:=⟨fun|171=>72|243=>103|246=>140|283=>184|284=>185|285=>186|286=>187|129=>120|317=>224|318=>225|319=>226|320=>227|337=>250|338=>251|n=>n,fun|3=>3|9=>9|2=>2|4=>4|171=>216|0=>0|53=>143|37=>218|5=>5|173=>219|212=>271|51=>141|20=>20|213=>272|46=>110|232=>313|233=>314|n=>n,fun|17=>2|18=>5|19=>6|n=>n⟩
theorem Tryz.laysM171:Go.Proofs.LaysM.n171 prog laysM171_ren:={
 mixed:=by kernel_rfl,f129:=tK_lay func120,f171:=tK_lay func72,f243:=tK_lay func103,f246:=tK_lay func140,f283:=tK_lay func184,f284:=tK_lay func185,f285:=tK_lay func186,f286:=tK_lay func187,f317:=tK_lay func224,f318:=tK_lay func225,f319:=tK_lay func226,
 f320:=tK_lay func227,f337:=tK_lay func250,f338:=tK_lay func251,t0:=underlying0,a0:=isAgg0,z0:=sizeOf0,v0:=zeroValue0,t2:=underlying2,a2:=isAgg2,z2:=sizeOf2,v2:=zeroValue2,t3:=underlying3,
 a3:=isAgg3,z3:=sizeOf3,v3:=zeroValue3,t4:=underlying4,a4:=isAgg4,z4:=sizeOf4,v4:=zeroValue4,t5:=underlying5,a5:=isAgg5,z5:=sizeOf5,v5:=zeroValue5,t9:=underlying9,
 a9:=isAgg9,z9:=sizeOf9,v9:=zeroValue9,t20:=underlying20,a20:=isAgg20,z20:=sizeOf20,v20:=zeroValue20,t37:=underlying218,a37:=isAgg218,z37:=sizeOf218,v37:=zeroValue218,t46:=underlying110,
 a46:=isAgg110,z46:=sizeOf110,v46:=zeroValue110,t51:=underlying141,a51:=isAgg141,z51:=sizeOf141,v51:=zeroValue141,t53:=underlying143,a53:=isAgg143,z53:=sizeOf143,v53:=zeroValue143,t171:=underlying216,
 a171:=isAgg216,z171:=sizeOf216,v171:=zeroValue216,t173:=underlying219,a173:=isAgg219,z173:=sizeOf219,v173:=zeroValue219,t212:=underlying271,a212:=isAgg271,z212:=sizeOf271,v212:=zeroValue271,t213:=underlying272,
 a213:=isAgg272,z213:=sizeOf272,t232:=underlying313,a232:=isAgg313,z232:=sizeOf313,v232:=zeroValue313,t233:=underlying314,a233:=isAgg314,z233:=sizeOf314,v233:=zeroValue314,g17:=by kernel_rfl,g18:=by kernel_rfl,
 g19:=by kernel_rfl,i0:=by kernel_rfl,i2:=by kernel_rfl,i3:=by kernel_rfl,i4:=by kernel_rfl,i5:=by kernel_rfl,i9:=by kernel_rfl,i20:=by kernel_rfl,i37:=by kernel_rfl,i46:=by kernel_rfl,i51:=by kernel_rfl,i53:=by kernel_rfl,
 i171:=by kernel_rfl,i173:=by kernel_rfl,i212:=by kernel_rfl,i232:=by kernel_rfl,i233:=by kernel_rfl,m17:=by kernel_rfl,m18:=by kernel_rfl,m19:=by kernel_rfl}
open Go.RowKit Go.Sort Go.Lib in
theorem Tryz.strconv_Itoa (n:Int) (h0:-9223372036854775808≤n) (h1:n≤9223372036854775807) (w:World) (htab:Lib.TabIs prog w "internal/strconv.uint64pow10" .u64 Lib.pow10Tab) :
    Calls prog 72 #[.int .i64 n] w fun e w'=>e = .returned (.string ⟨(Lib.itoa n).toArray⟩)∧∃k os,w' = grow (w.drewN k) os:=Any.strconv_Itoa laysM171 n h0 h1 w htab
def Tryz.laysC174_ren:Go.Shelf.Ren:=⟨fun|174=>183|247=>222|245=>223|287=>245|279=>246|280=>247|281=>248|282=>249|321=>267|322=>268|316=>269|171=>72|205=>270|243=>103|246=>140|283=>184|284=>185|285=>186|286=>187|129=>120|317=>224|318=>225|319=>226|320=>227|337=>250|338=>251|n=>n,fun|9=>9|3=>3|2=>2|75=>213|85=>214|4=>4|167=>290|5=>5|53=>143|175=>291|46=>110|168=>293|37=>218|0=>0|210=>311|21=>21|127=>289|145=>335|143=>333|171=>216|173=>219|212=>271|51=>141|20=>20|213=>272|232=>313|233=>314|80=>267|n=>n,fun|15=>3|16=>4|17=>2|18=>5|19=>6|n=>n⟩
theorem Tryz.laysC174:Go.Proofs.LaysC.n174 prog laysC174_ren:={
 mixed:=by kernel_rfl,f129:=tK_lay func120,f171:=tK_lay func72,f174:=tK_lay func183,f205:=tK_lay func270,f243:=tK_lay func103,f245:=tK_lay func223,f246:=tK_lay func140,f247:=tK_lay func222,f279:=tK_lay func246,f280:=tK_lay func247,f281:=tK_lay func248,
 f282:=tK_lay func249,f283:=tK_lay func184,f284:=tK_lay func185,f285:=tK_lay func186,f286:=tK_lay func187,f287:=tK_lay func245,f316:=tK_lay func269,f317:=tK_lay func224,f318:=tK_lay func225,f319:=tK_lay func226,f320:=tK_lay func227,f321:=tK_lay func267,
 f322:=tK_lay func268,f337:=tK_lay func250,f338:=tK_lay func251,t0:=underlying0,a0:=isAgg0,z0:=sizeOf0,v0:=zeroValue0,t2:=underlying2,a2:=isAgg2,z2:=sizeOf2,v2:=zeroValue2,t3:=underlying3,
 a3:=isAgg3,z3:=sizeOf3,v3:=zeroValue3,t4:=underlying4,a4:=isAgg4,z4:=sizeOf4,v4:=zeroValue4,t5:=underlying5,a5:=isAgg5,z5:=sizeOf5,v5:=zeroValue5,t9:=underlying9,
 a9:=isAgg9,z9:=sizeOf9,v9:=zeroValue9,t20:=underlying20,a20:=isAgg20,z20:=sizeOf20,v20:=zeroValue20,t21:=underlying21,a21:=isAgg21,z21:=sizeOf21,v21:=zeroValue21,t37:=underlying218,
 a37:=isAgg218,z37:=sizeOf218,v37:=zeroValue218,t46:=underlying110,a46:=isAgg110,z46:=sizeOf110,v46:=zeroValue110,t51:=underlying141,a51:=isAgg141,z51:=sizeOf141,v51:=zeroValue141,t53:=underlying143,
 a53:=isAgg143,z53:=sizeOf143,v53:=zeroValue143,t75:=underlying213,a75:=isAgg213,z75:=sizeOf213,v75:=zeroValue213,t85:=underlying214,a85:=isAgg214,z85:=sizeOf214,v85:=zeroValue214,t127:=underlying289,
 a127:=isAgg289,z127:=sizeOf289,v127:=zeroValue289,t143:=underlying333,a143:=isAgg333,z143:=sizeOf333,v143:=zeroValue333,t145:=underlying335,a145:=isAgg335,z145:=sizeOf335,v145:=zeroValue335,t167:=underlying290,
 a167:=isAgg290,z167:=sizeOf290,v167:=zeroValue290,t168:=underlying293,a168:=isAgg293,z168:=sizeOf293,v168:=zeroValue293,t171:=underlying216,a171:=isAgg216,z171:=sizeOf216,v171:=zeroValue216,t173:=underlying219,
 a173:=isAgg219,z173:=sizeOf219,v173:=zeroValue219,t175:=underlying291,a175:=isAgg291,z175:=sizeOf291,v175:=zeroValue291,t210:=underlying311,a210:=isAgg311,z210:=sizeOf311,v210:=zeroValue311,t212:=underlying271,
 a212:=isAgg271,z212:=sizeOf271,v212:=zeroValue271,t213:=underlying272,a213:=isAgg272,z213:=sizeOf272,t232:=underlying313,a232:=isAgg313,z232:=sizeOf313,v232:=zeroValue313,t233:=underlying314,a233:=isAgg314,
 z233:=sizeOf314,v233:=zeroValue314,g15:=by kernel_rfl,g16:=by kernel_rfl,g17:=by kernel_rfl,g18:=by kernel_rfl,g19:=by kernel_rfl,t80:=underlying267,a80:=isAgg267,z80:=sizeOf267,v80:=zeroValue267,i0:=by kernel_rfl,
 i2:=by kernel_rfl,i3:=by kernel_rfl,i4:=by kernel_rfl,i5:=by kernel_rfl,i9:=by kernel_rfl,i20:=by kernel_rfl,i21:=by kernel_rfl,i37:=by kernel_rfl,i46:=by kernel_rfl,i51:=by kernel_rfl,i53:=by kernel_rfl,i75:=by kernel_rfl,
 i80:=by kernel_rfl,i85:=by kernel_rfl,i127:=by kernel_rfl,i143:=by kernel_rfl,i145:=by kernel_rfl,i167:=by kernel_rfl,i168:=by kernel_rfl,i171:=by kernel_rfl,i173:=by kernel_rfl,i175:=by kernel_rfl,i210:=by kernel_rfl,i212:=by kernel_rfl,
 i232:=by kernel_rfl,i233:=by kernel_rfl,m15:=by kernel_rfl,m16:=by kernel_rfl,m17:=by kernel_rfl,m18:=by kernel_rfl,m19:=by kernel_rfl,c0:=by kernel_rfl,c2:=by kernel_rfl,c3:=by kernel_rfl,c4:=by kernel_rfl,c5:=by kernel_rfl,
 c9:=by kernel_rfl,c20:=by kernel_rfl,c21:=by kernel_rfl,c37:=by kernel_rfl,c46:=by kernel_rfl,c51:=by kernel_rfl,c53:=by kernel_rfl,c75:=by kernel_rfl,c80:=by kernel_rfl,c85:=by kernel_rfl,c127:=by kernel_rfl,c143:=by kernel_rfl,
 c145:=by kernel_rfl,c167:=by kernel_rfl,c168:=by kernel_rfl,c171:=by kernel_rfl,c173:=by kernel_rfl,c175:=by kernel_rfl,c210:=by kernel_rfl,c212:=by kernel_rfl,c213:=by kernel_rfl,c232:=by kernel_rfl,c233:=by kernel_rfl}
open Go.RowKit in
theorem Tryz.strconv_ParseInt_10_at64_ok(s:ByteArray)(hmax:s.size≤9223372036854775806)(v:Int)(h:Lib.parseIntB 64 s.data.toList = .ok v)(w:World) :
    Calls prog 183 #[.string s,.int .i64 10,.int .i64 64] w fun e w'=>e = .returned (.tuple #[.int .i64 v,.nilIface])∧(w' = w∨∃t,w' = Lib.bytesWorld w 5 t):=Any.strconv_ParseInt_10_at64_ok laysC174 s hmax v h w
open Go.RowKit in
theorem Tryz.strconv_ParseInt_10_at64_range_var (s:ByteArray) (hlim:s.size≤281474976710656) (h:Lib.parseIntB 64 s.data.toList = .range) (tp:TypeId) (p:Value) (w:World) (hvar:w.var? prog "strconv.ErrRange" = some #[.iface tp p]) :
    Calls prog 183 #[.string s,.int .i64 10,.int .i64 64] w fun e w'=>∃N,e = .returned (.tuple #[.int .i64 (Lib.intSat 64 s.data.toList),.iface 293 (.pointer (some ⟨N,0,none⟩))])∧w.heap.size≤N∧w'.heap[N]? = some (.cells #[.string ⟨#[80,97,114,115,101,73,110,116]⟩,.string s,.iface tp p] 311 (0,0))∧Below w.heap.size w w':=Any.strconv_ParseInt_10_at64_range_var laysC174 s hlim h tp p w hvar
def Tryz.lays189_ren:Go.Shelf.Ren:=⟨fun|189=>57|125=>80|257=>79|128=>119|129=>120|294=>110|295=>111|296=>112|297=>113|298=>114|299=>115|216=>116|300=>117|301=>118|328=>155|329=>156|330=>157|331=>158|332=>159|215=>160|343=>200|n=>n,fun|28=>23|3=>3|46=>110|0=>0|51=>141|53=>143|4=>4|183=>134|182=>133|131=>117|5=>5|9=>9|218=>179|222=>183|228=>228|229=>229|n=>n,fun|n=>n⟩
theorem Tryz.lays189:Go.Proofs.Lays.n189 prog lays189_ren:={
 mixed:=by kernel_rfl,f125:=tK_lay func80,f128:=tK_lay func119,f129:=tK_lay func120,f189:=tK_lay func57,f215:=tK_lay func160,f216:=tK_lay func116,f257:=tK_lay func79,f294:=tK_lay func110,f295:=tK_lay func111,f296:=tK_lay func112,f297:=tK_lay func113,
 f298:=tK_lay func114,f299:=tK_lay func115,f300:=tK_lay func117,f301:=tK_lay func118,f328:=tK_lay func155,f329:=tK_lay func156,f330:=tK_lay func157,f331:=tK_lay func158,f332:=tK_lay func159,f343:=tK_lay func200,t0:=underlying0,a0:=isAgg0,
 z0:=sizeOf0,v0:=zeroValue0,t3:=underlying3,a3:=isAgg3,z3:=sizeOf3,v3:=zeroValue3,t4:=underlying4,a4:=isAgg4,z4:=sizeOf4,v4:=zeroValue4,t5:=underlying5,a5:=isAgg5,
 z5:=sizeOf5,v5:=zeroValue5,t9:=underlying9,a9:=isAgg9,z9:=sizeOf9,v9:=zeroValue9,t28:=underlying23,a28:=isAgg23,z28:=sizeOf23,v28:=zeroValue23,t46:=underlying110,a46:=isAgg110,
 z46:=sizeOf110,v46:=zeroValue110,t51:=underlying141,a51:=isAgg141,z51:=sizeOf141,v51:=zeroValue141,t53:=underlying143,a53:=isAgg143,z53:=sizeOf143,v53:=zeroValue143,t131:=underlying117,a131:=isAgg117,
 z131:=sizeOf117,v131:=zeroValue117,t182:=underlying133,a182:=isAgg133,z182:=sizeOf133,v182:=zeroValue133,t183:=underlying134,a183:=isAgg134,z183:=sizeOf134,v183:=zeroValue134,t218:=underlying179,a218:=isAgg179,
 z218:=sizeOf179,v218:=zeroValue179,t222:=underlying183,a222:=isAgg183,z222:=sizeOf183,v222:=zeroValue183,t228:=underlying228,a228:=isAgg228,z228:=sizeOf228,v228:=zeroValue228,t229:=underlying229,a229:=isAgg229,
 z229:=sizeOf229,v229:=zeroValue229}
open Go.Sort Go.RowKit in
theorem Tryz.slices_Sort_int(blk off cap:Nat)(zs:List Int)(w:World)(hH:Holds (Value.int .i64) w blk off zs.toArray)(hblk:blk < w.heap.size)(hsz:zs.length < 4611686018427387904) :
    Calls prog 57 #[.slice (some ⟨blk,off,none⟩) zs.length cap] w fun e w' =>
      e = .returned (.tuple #[])∧∃n os,w' = grow (putRow (Value.int .i64) (Sort.ahead w n) blk off (zs.mergeSort fun x y=>decide (x≤y)).toArray) os:=Any.slices_Sort_int lays189 blk off cap zs w hH hblk hsz
def Tryz.lays101_ren:Go.Shelf.Ren:=⟨fun|101=>143|208=>190|206=>228|n=>n,fun|9=>9|4=>4|3=>3|n=>n,fun|n=>n⟩
theorem Tryz.lays101:Go.Proofs.Lays.n101 prog lays101_ren:={
 mixed:=by kernel_rfl,f101:=tK_lay func143,f206:=tK_lay func228,f208:=tK_lay func190,t3:=underlying3,a3:=isAgg3,z3:=sizeOf3,v3:=zeroValue3,t4:=underlying4,a4:=isAgg4,z4:=sizeOf4,v4:=zeroValue4,
 t9:=underlying9,a9:=isAgg9,z9:=sizeOf9,v9:=zeroValue9}
open Go.RowKit Go.Lib in
theorem Tryz.strings_TrimPrefix(s p:ByteArray)(w:World) :
    Calls prog 143 #[.string s,.string p] w fun e w'=>e = .returned (.string ⟨(Lib.trimPrefix s.data.toList p.data.toList).toArray⟩)∧w' = w:=Any.strings_TrimPrefix lays101 s p w
def Tryz.lays197_ren:Go.Shelf.Ren:=⟨fun|197=>133|260=>176|n=>n,fun|9=>9|21=>21|3=>3|4=>4|5=>5|105=>162|119=>201|0=>0|46=>110|139=>204|138=>203|n=>n,fun|3=>0|4=>1|n=>n⟩
theorem Tryz.lays197:Go.Proofs.Lays.n197 prog lays197_ren:={
 mixed:=by kernel_rfl,f197:=tK_lay func133,f260:=tK_lay func176,t0:=underlying0,a0:=isAgg0,z0:=sizeOf0,v0:=zeroValue0,t3:=underlying3,a3:=isAgg3,z3:=sizeOf3,v3:=zeroValue3,t4:=underlying4,
 a4:=isAgg4,z4:=sizeOf4,v4:=zeroValue4,t5:=underlying5,a5:=isAgg5,z5:=sizeOf5,v5:=zeroValue5,t9:=underlying9,a9:=isAgg9,z9:=sizeOf9,v9:=zeroValue9,t21:=underlying21,
 a21:=isAgg21,z21:=sizeOf21,v21:=zeroValue21,t46:=underlying110,a46:=isAgg110,z46:=sizeOf110,v46:=zeroValue110,t105:=underlying162,a105:=isAgg162,z105:=sizeOf162,v105:=zeroValue162,t119:=underlying201,
 a119:=isAgg201,z119:=sizeOf201,t138:=underlying203,a138:=isAgg203,z138:=sizeOf203,v138:=zeroValue203,t139:=underlying204,a139:=isAgg204,z139:=sizeOf204,v139:=zeroValue204,g3:=by kernel_rfl,g4:=by kernel_rfl}
def Tryz.lays105_ren:Go.Shelf.Ren:=⟨fun|105=>182|212=>216|99=>217|165=>218|166=>219|170=>220|169=>221|263=>241|264=>242|206=>228|240=>243|241=>244|276=>265|277=>266|n=>n,fun|9=>9|3=>3|4=>4|20=>20|0=>0|46=>110|109=>259|5=>5|72=>264|76=>265|51=>141|146=>285|53=>143|148=>287|70=>262|37=>218|75=>213|127=>289|164=>305|80=>267|n=>n,fun|n=>n⟩
theorem Tryz.lays105:Go.Proofs.Lays.n105 prog lays105_ren:={
 mixed:=by kernel_rfl,f99:=tK_lay func217,f105:=tK_lay func182,f165:=tK_lay func218,f166:=tK_lay func219,f169:=tK_lay func221,f170:=tK_lay func220,f206:=tK_lay func228,f212:=tK_lay func216,f240:=tK_lay func243,f241:=tK_lay func244,f263:=tK_lay func241,
 f264:=tK_lay func242,f276:=tK_lay func265,f277:=tK_lay func266,t0:=underlying0,a0:=isAgg0,z0:=sizeOf0,v0:=zeroValue0,t3:=underlying3,a3:=isAgg3,z3:=sizeOf3,v3:=zeroValue3,t4:=underlying4,
 a4:=isAgg4,z4:=sizeOf4,v4:=zeroValue4,t5:=underlying5,a5:=isAgg5,z5:=sizeOf5,v5:=zeroValue5,t9:=underlying9,a9:=isAgg9,z9:=sizeOf9,v9:=zeroValue9,t20:=underlying20,
 a20:=isAgg20,z20:=sizeOf20,v20:=zeroValue20,t37:=underlying218,a37:=isAgg218,z37:=sizeOf218,v37:=zeroValue218,t46:=underlying110,a46:=isAgg110,z46:=sizeOf110,v46:=zeroValue110,t51:=underlying141,
 a51:=isAgg141,z51:=sizeOf141,v51:=zeroValue141,t53:=underlying143,a53:=isAgg143,z53:=sizeOf143,v53:=zeroValue143,t70:=underlying262,a70:=isAgg262,z70:=sizeOf262,v70:=zeroValue262,t72:=underlying264,
 a72:=isAgg264,z72:=sizeOf264,v72:=zeroValue264,t75:=underlying213,a75:=isAgg213,z75:=sizeOf213,v75:=zeroValue213,t76:=underlying265,a76:=isAgg265,z76:=sizeOf265,v76:=zeroValue265,t109:=underlying259,
 a109:=isAgg259,z109:=sizeOf259,v109:=zeroValue259,t127:=underlying289,a127:=isAgg289,z127:=sizeOf289,v127:=zeroValue289,t146:=underlying285,a146:=isAgg285,z146:=sizeOf285,v146:=zeroValue285,t148:=underlying287,
 a148:=isAgg287,z148:=sizeOf287,v148:=zeroValue287,t164:=underlying305,a164:=isAgg305,z164:=sizeOf305,v164:=zeroValue305}
theorem Tryz.Builder_Extra_105:Builder.Extra prog lays105_ren:={
 sizeBuilder:=by kernel_rfl,liesBuilder:=by kernel_rfl,t5:=underlying5,a5:=isAgg5,z5:=sizeOf5,v5:=zeroValue5,infoByte:=by kernel_rfl,cellsByte:=by kernel_rfl,sizeByte:=by kernel_rfl,neB5:=by decide}
open Go.RowKit Go.Lib in
theorem Tryz.strings_Repeat(s:ByteArray)(c:Nat)(w:World)(hc:c≤9223372036854775807)(hlen:s.size * c≤140737488355328) :
    Calls prog 182 #[.string s,.int .i64 c] w fun e w'=>e = .returned (.string ⟨(Lib.repeatL s.data.toList c).toArray⟩)∧Below w.heap.size w w':=Any.strings_Repeat lays105 Builder_Extra_105 s c w hc hlen
open Go.RowKit Go.Lib in
theorem Tryz.utf8_DecodeRuneInString(s:ByteArray)(w:World)(hT:Lib.Utf8Tabs 0 1 w) :
    Calls prog 133 #[.string s] w fun e w'=>e = .returned (.tuple #[.int .i32 (Lib.decodeGo s).1,.int .i64 (Lib.decodeGo s).2])∧Below w.heap.size w w':=Any.utf8_DecodeRuneInString lays197 s w hT
def Tryz.laysSlM5_f57_ren:Go.Shelf.Ren:=⟨fun|5=>57|8=>80|7=>79|19=>119|20=>120|10=>110|11=>111|12=>112|13=>113|14=>114|15=>115|16=>116|17=>117|18=>118|30=>155|31=>156|32=>157|33=>158|34=>159|35=>160|40=>200|n=>n,fun|23=>23|25=>3|3=>3|32=>110|22=>23|0=>0|44=>141|46=>143|4=>4|36=>134|35=>133|41=>117|5=>5|9=>9|53=>179|57=>183|63=>228|64=>229|n=>n,fun|n=>n⟩
theorem Tryz.laysSlM5_f57:Go.Proofs.SlLaysM.n5 prog laysSlM5_f57_ren:={
 mixed:=by kernel_rfl,f5:=⟨f57.name,by decide,tK_lay func57⟩,f7:=⟨f79.name,by decide,tK_lay func79⟩,f8:=tK_lay func80,f10:=⟨f110.name,by decide,tK_lay func110⟩,f11:=⟨f111.name,by decide,tK_lay func111⟩,f12:=⟨f112.name,by decide,tK_lay func112⟩,f13:=⟨f113.name,by decide,tK_lay func113⟩,f14:=⟨f114.name,by decide,tK_lay func114⟩,f15:=⟨f115.name,by decide,tK_lay func115⟩,f16:=⟨f116.name,by decide,tK_lay func116⟩,f17:=⟨f117.name,by decide,tK_lay func117⟩,
 f18:=⟨f118.name,by decide,tK_lay func118⟩,f19:=tK_lay func119,f20:=tK_lay func120,f30:=⟨f155.name,by decide,tK_lay func155⟩,f31:=tK_lay func156,f32:=tK_lay func157,f33:=⟨f158.name,by decide,tK_lay func158⟩,f34:=⟨f159.name,by decide,tK_lay func159⟩,f35:=⟨f160.name,by decide,tK_lay func160⟩,f40:=⟨f200.name,by decide,tK_lay func200⟩,t0:=underlying0,a0:=isAgg0,
 z0:=sizeOf0,v0:=zeroValue0,t3:=underlying3,a3:=isAgg3,z3:=sizeOf3,v3:=zeroValue3,t4:=underlying4,a4:=isAgg4,z4:=sizeOf4,v4:=zeroValue4,t5:=underlying5,a5:=isAgg5,
 z5:=sizeOf5,v5:=zeroValue5,t9:=underlying9,a9:=isAgg9,z9:=sizeOf9,v9:=zeroValue9,t22:=underlying23,a22:=isAgg23,z22:=sizeOf23,v22:=zeroValue23,t23:=underlying23,a23:=isAgg23,
 z23:=sizeOf23,v23:=zeroValue23,t25:=underlying3,a25:=isAgg3,z25:=sizeOf3,v25:=zeroValue3,t32:=underlying110,a32:=isAgg110,z32:=sizeOf110,v32:=zeroValue110,t35:=underlying133,a35:=isAgg133,
 z35:=sizeOf133,v35:=zeroValue133,t36:=underlying134,a36:=isAgg134,z36:=sizeOf134,v36:=zeroValue134,t41:=underlying117,a41:=isAgg117,z41:=sizeOf117,v41:=zeroValue117,t44:=underlying141,a44:=isAgg141,
 z44:=sizeOf141,v44:=zeroValue141,t46:=underlying143,a46:=isAgg143,z46:=sizeOf143,v46:=zeroValue143,t53:=underlying179,a53:=isAgg179,z53:=sizeOf179,v53:=zeroValue179,t57:=underlying183,a57:=isAgg183,
 z57:=sizeOf183,v57:=zeroValue183,t63:=underlying228,a63:=isAgg228,z63:=sizeOf228,v63:=zeroValue228,t64:=underlying229,a64:=isAgg229,z64:=sizeOf229,v64:=zeroValue229}
open Go.RowKit Go.Sort in
theorem Tryz.slices_Sort_int_none(p:Option Addr)(cap:Nat)(w:World) :
    Calls prog 57 #[.slice p 0 cap] w fun e w'=>e = .returned (.tuple #[])∧w' = w:=AnyM.slices_Sort_int_none laysSlM5_f57 p cap w
end Go.Proofs
