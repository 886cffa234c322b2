/- A part of the proof. -/
import Derived.KernelRfl
import Derived.Shelf.Strings.Trim
import Derived.Shelf.Small.Utf8
import Derived.Shelf.Small.Strs
import Derived.Shelf.Small.Wraps
import Derived.Shelf.Utf8.AppendRunePlain
import Derived.Shelf.LaysM
import Derived.Shelf.Strconv.Itoa3
import Derived.Shelf.LaysC
import Derived.Shelf.Strconv.ToError
import Derived.Shelf.Strconv.Lower
import Derived.Shelf.Strconv.ParseIntPublic10
import Derived.Shelf.Strconv.ErrVarParseInt
import Derived.Shelf.Strings.Prefix
import Derived.Shelf.Strings.Runes
import Derived.Shelf.Strings.Repeat
import Derived.Shelf.Unicode.DecodeSlow
import Derived.Shelf.Unicode.DecodeAny
import Derived.Test.YtidlkjpohhbbcaaGreatDoorProg
set_option linter.all false
namespace Go.Proofs
open Tryz
open Go.Shelf
theorem tK_lay{α:Type _}{x:Option α}{a b:α}(h:x=some a)(e:a=b:=by kernel_rfl):x=some b:=h.trans (congrArg some e)
def Tryz.lays161_ren:Go.Shelf.Ren:=⟨fun|161=>155|231=>214|227=>215|233=>216|235=>217|228=>251|197=>125|151=>252|260=>187|152=>288|137=>249|119=>308|224=>309|225=>310|217=>287|266=>307|n=>n,fun|9=>9|4=>4|3=>3|5=>5|117=>225|116=>224|0=>0|124=>228|105=>111|21=>21|119=>208|46=>173|139=>211|138=>210|n=>n,fun|3=>0|4=>1|n=>n⟩
theorem Tryz.lays161:Go.Proofs.Lays.n161 prog lays161_ren:={
 mixed:=by kernel_rfl,f119:=tK_lay func308,f137:=tK_lay func249,f151:=tK_lay func252,f152:=tK_lay func288,f161:=tK_lay func155,f197:=tK_lay func125,f217:=tK_lay func287,f224:=tK_lay func309,f225:=tK_lay func310,f227:=tK_lay func215,f228:=tK_lay func251,
 f231:=tK_lay func214,f233:=tK_lay func216,f235:=tK_lay func217,f260:=tK_lay func187,f266:=tK_lay func307,t0:=underlying0,a0:=isAgg0,z0:=sizeOf0,v0:=zeroValue0,t3:=underlying3,a3:=isAgg3,z3:=sizeOf3,
 v3:=zeroValue3,t4:=underlying4,a4:=isAgg4,z4:=sizeOf4,v4:=zeroValue4,t5:=underlying5,a5:=isAgg5,z5:=sizeOf5,v5:=zeroValue5,t9:=underlying9,a9:=isAgg9,z9:=sizeOf9,
 v9:=zeroValue9,t21:=underlying21,a21:=isAgg21,z21:=sizeOf21,v21:=zeroValue21,t46:=underlying173,a46:=isAgg173,z46:=sizeOf173,v46:=zeroValue173,t105:=underlying111,a105:=isAgg111,z105:=sizeOf111,
 v105:=zeroValue111,t116:=underlying224,a116:=isAgg224,z116:=sizeOf224,t117:=underlying225,a117:=isAgg225,z117:=sizeOf225,v117:=zeroValue225,t119:=underlying208,a119:=isAgg208,z119:=sizeOf208,t124:=underlying228,
 a124:=isAgg228,z124:=sizeOf228,v124:=zeroValue228,t138:=underlying210,a138:=isAgg210,z138:=sizeOf210,v138:=zeroValue210,t139:=underlying211,a139:=isAgg211,z139:=sizeOf211,v139:=zeroValue211,g3:=by kernel_rfl,
 g4:=by kernel_rfl}
open Go.RowKit in
theorem Tryz.strings_TrimLeft_one(s:ByteArray)(c:UInt8)(hc:c.toNat < 128)(w:World) :
    Calls prog 155 #[.string s,.string ⟨#[c]⟩] w fun e w'=>e = .returned (.string ⟨(Lib.trimLeftB s.data.toList c).toArray⟩)∧w' = w:=Any.strings_TrimLeft_one lays161 s c hc w
def Tryz.lays162_ren:Go.Shelf.Ren:=⟨fun|162=>156|232=>218|227=>215|234=>219|236=>220|228=>251|271=>253|151=>252|120=>289|197=>125|152=>288|260=>187|137=>249|119=>308|224=>309|225=>310|217=>287|266=>307|n=>n,fun|9=>9|4=>4|3=>3|5=>5|117=>225|116=>224|0=>0|124=>228|21=>21|105=>111|46=>173|119=>208|139=>211|138=>210|n=>n,fun|3=>0|4=>1|n=>n⟩
theorem Tryz.lays162:Go.Proofs.Lays.n162 prog lays162_ren:={
 mixed:=by kernel_rfl,f119:=tK_lay func308,f120:=tK_lay func289,f137:=tK_lay func249,f151:=tK_lay func252,f152:=tK_lay func288,f162:=tK_lay func156,f197:=tK_lay func125,f217:=tK_lay func287,f224:=tK_lay func309,f225:=tK_lay func310,f227:=tK_lay func215,
 f228:=tK_lay func251,f232:=tK_lay func218,f234:=tK_lay func219,f236:=tK_lay func220,f260:=tK_lay func187,f266:=tK_lay func307,f271:=tK_lay func253,t0:=underlying0,a0:=isAgg0,z0:=sizeOf0,v0:=zeroValue0,t3:=underlying3,
 a3:=isAgg3,z3:=sizeOf3,v3:=zeroValue3,t4:=underlying4,a4:=isAgg4,z4:=sizeOf4,v4:=zeroValue4,t5:=underlying5,a5:=isAgg5,z5:=sizeOf5,v5:=zeroValue5,t9:=underlying9,
 a9:=isAgg9,z9:=sizeOf9,v9:=zeroValue9,t21:=underlying21,a21:=isAgg21,z21:=sizeOf21,v21:=zeroValue21,t46:=underlying173,a46:=isAgg173,z46:=sizeOf173,v46:=zeroValue173,t105:=underlying111,
 a105:=isAgg111,z105:=sizeOf111,v105:=zeroValue111,t116:=underlying224,a116:=isAgg224,z116:=sizeOf224,t117:=underlying225,a117:=isAgg225,z117:=sizeOf225,v117:=zeroValue225,t119:=underlying208,a119:=isAgg208,
 z119:=sizeOf208,t124:=underlying228,a124:=isAgg228,z124:=sizeOf228,v124:=zeroValue228,t138:=underlying210,a138:=isAgg210,z138:=sizeOf210,v138:=zeroValue210,t139:=underlying211,a139:=isAgg211,z139:=sizeOf211,
 v139:=zeroValue211,g3:=by kernel_rfl,g4:=by kernel_rfl}
open Go.RowKit in
theorem Tryz.strings_TrimRight_one(s:ByteArray)(c:UInt8)(hc:c.toNat < 128)(w:World)(hs:s.size≤9223372036854775807) :
    Calls prog 156 #[.string s,.string ⟨#[c]⟩] w fun e w'=>e = .returned (.string ⟨(Lib.trimRightB s.data.toList c).toArray⟩)∧w' = w:=Any.strings_TrimRight_one lays162 s c hc w hs
def Tryz.lays119_ren:Go.Shelf.Ren:=⟨fun|119=>308|n=>n,fun|21=>21|4=>4|n=>n,fun|n=>n⟩
theorem Tryz.lays119:Go.Proofs.Lays.n119 prog lays119_ren:={
 mixed:=by kernel_rfl,f119:=tK_lay func308,t4:=underlying4,a4:=isAgg4,z4:=sizeOf4,v4:=zeroValue4,t21:=underlying21,a21:=isAgg21,z21:=sizeOf21,v21:=zeroValue21}
theorem Tryz.utf8_ValidRune(r:Int)(w:World) :
    Calls prog 308 #[.int .i32 r] w fun e w'=>e = .returned (.bool (Lib.validRune r))∧w' = w:=Any.utf8_ValidRune lays119 r w
def Tryz.lays106_ren:Go.Shelf.Ren:=⟨fun|106=>92|213=>148|265=>206|n=>n,fun|9=>9|3=>3|n=>n,fun|n=>n⟩
theorem Tryz.lays106:Go.Proofs.Lays.n106 prog lays106_ren:={
 mixed:=by kernel_rfl,f106:=tK_lay func92,f213:=tK_lay func148,f265:=tK_lay func206,t3:=underlying3,a3:=isAgg3,z3:=sizeOf3,v3:=zeroValue3,t9:=underlying9,a9:=isAgg9,z9:=sizeOf9,v9:=zeroValue9}
open Go.RowKit in
theorem Tryz.strings_Compare(a b:ByteArray)(w:World) :
    Calls prog 92 #[.string a,.string b] w fun e w'=>e = .returned (.int .i64 (Lib.compareBytes a.data.toList b.data.toList))∧w' = w:=Any.strings_Compare lays106 a b w
def Tryz.lays137_ren:Go.Shelf.Ren:=⟨fun|137=>249|217=>287|266=>307|n=>n,fun|9=>9|5=>5|3=>3|n=>n,fun|n=>n⟩
theorem Tryz.lays137:Go.Proofs.Lays.n137 prog lays137_ren:={
 mixed:=by kernel_rfl,f137:=tK_lay func249,f217:=tK_lay func287,f266:=tK_lay func307,t3:=underlying3,a3:=isAgg3,z3:=sizeOf3,v3:=zeroValue3,t5:=underlying5,a5:=isAgg5,z5:=sizeOf5,v5:=zeroValue5,
 t9:=underlying9,a9:=isAgg9,z9:=sizeOf9,v9:=zeroValue9}
open Go.RowKit in
theorem Tryz.strings_IndexByte(s:ByteArray)(c:Int)(w:World) :
    Calls prog 249 #[.string s,.int .u8 c] w fun e w'=>e = .returned (.int .i64 (Lib.indexByte s.data.toList c.toNat.toUInt8))∧w' = w:=Any.strings_IndexByte lays137 s c w
def Tryz.lays103_ren:Go.Shelf.Ren:=⟨fun|103=>211|210=>248|206=>286|n=>n,fun|9=>9|4=>4|24=>46|3=>3|n=>n,fun|n=>n⟩
theorem Tryz.lays103:Go.Proofs.Lays.n103 prog lays103_ren:={
 mixed:=by kernel_rfl,f103:=tK_lay func211,f206:=tK_lay func286,f210:=tK_lay func248,t3:=underlying3,a3:=isAgg3,z3:=sizeOf3,v3:=zeroValue3,t4:=underlying4,a4:=isAgg4,z4:=sizeOf4,v4:=zeroValue4,
 t9:=underlying9,a9:=isAgg9,z9:=sizeOf9,v9:=zeroValue9,t24:=underlying46,a24:=isAgg46,z24:=sizeOf46,v24:=zeroValue46}
open Go.RowKit in
theorem Tryz.strings_CutPrefix(s p:ByteArray)(w:World) :
    Calls prog 211 #[.string s,.string p] w fun e w'=>e = .returned (.tuple #[.string ⟨(Lib.trimPrefix s.data.toList p.data.toList).toArray⟩,.bool (Lib.hasPrefix s.data.toList p.data.toList)])∧w' = w:=Any.strings_CutPrefix lays103 s p w
def Tryz.lays122_ren:Go.Shelf.Ren:=⟨fun|122=>134|215=>198|n=>n,fun|3=>3|4=>4|n=>n,fun|n=>n⟩
theorem Tryz.lays122:Go.Proofs.Lays.n122 prog lays122_ren:={
 mixed:=by kernel_rfl,f122:=tK_lay func134,f215:=tK_lay func198,t3:=underlying3,a3:=isAgg3,z3:=sizeOf3,v3:=zeroValue3,t4:=underlying4,a4:=isAgg4,z4:=sizeOf4,v4:=zeroValue4}
open Go.RowKit in
theorem Tryz.cmp_Compare_int(x y:Int)(w:World) :
    Calls prog 134 #[.int .i64 x,.int .i64 y] w fun e w'=>e = .returned (.int .i64 (Lib.compareInt x y))∧w' = w:=Any.cmp_Compare_int lays122 x y w
def Tryz.lays242_ren:Go.Shelf.Ren:=⟨fun|242=>296|278=>319|n=>n,fun|37=>121|21=>21|51=>281|4=>4|5=>5|46=>173|n=>n,fun|n=>n⟩
theorem Tryz.lays242:Go.Proofs.Lays.n242 prog lays242_ren:={
 mixed:=by kernel_rfl,f242:=tK_lay func296,f278:=tK_lay func319,t4:=underlying4,a4:=isAgg4,z4:=sizeOf4,v4:=zeroValue4,t5:=underlying5,a5:=isAgg5,z5:=sizeOf5,v5:=zeroValue5,t21:=underlying21,
 a21:=isAgg21,z21:=sizeOf21,v21:=zeroValue21,t37:=underlying121,a37:=isAgg121,z37:=sizeOf121,v37:=zeroValue121,t46:=underlying173,a46:=isAgg173,z46:=sizeOf173,v46:=zeroValue173,t51:=underlying281,
 a51:=isAgg281,z51:=sizeOf281,v51:=zeroValue281}
open Go.RowKit in
theorem Tryz.utf8_AppendRune_plain(B:Nat)(v:Value)(n:Nat)(xs:List Value)(r:Int)(hr0:-2147483648≤r)(hr1:r≤2147483647)(w:World)(hown:w.ownsRow B 5 1 v n xs)(hlen:n + 4≤140737488355328)(hBw:B≤w.heap.size) :
    Calls prog 296 #[v,.int .i32 r] w fun e w'=>∃v',e = .returned v'∧w'.ownsRow B 5 1 v' (n + (Lib.runeCells r).length) (xs ++ Lib.runeCells r)∧∃o,(w.alloc o).grownBy w' v.ownBlock:=Any.utf8_AppendRune_plain lays242 (by kernel_rfl) B v n xs r hr0 hr1 w hown hlen hBw
def Tryz.laysM171_ren:Go.Shelf.Ren:=⟨fun|171=>99|243=>153|246=>210|283=>244|284=>245|285=>246|286=>247|129=>281|317=>282|318=>283|319=>284|320=>285|337=>305|338=>306|n=>n,fun|3=>3|9=>9|2=>2|4=>4|171=>251|0=>0|53=>246|37=>121|5=>5|173=>254|212=>283|51=>281|20=>20|213=>284|46=>173|232=>312|233=>313|n=>n,fun|17=>3|18=>4|19=>5|n=>n⟩
theorem Tryz.laysM171:Go.Proofs.LaysM.n171 prog laysM171_ren:={
 mixed:=by kernel_rfl,f129:=tK_lay func281,f171:=tK_lay func99,f243:=tK_lay func153,f246:=tK_lay func210,f283:=tK_lay func244,f284:=tK_lay func245,f285:=tK_lay func246,f286:=tK_lay func247,f317:=tK_lay func282,f318:=tK_lay func283,f319:=tK_lay func284,
 f320:=tK_lay func285,f337:=tK_lay func305,f338:=tK_lay func306,t0:=underlying0,a0:=isAgg0,z0:=sizeOf0,v0:=zeroValue0,t2:=underlying2,a2:=isAgg2,z2:=sizeOf2,v2:=zeroValue2,t3:=underlying3,
 a3:=isAgg3,z3:=sizeOf3,v3:=zeroValue3,t4:=underlying4,a4:=isAgg4,z4:=sizeOf4,v4:=zeroValue4,t5:=underlying5,a5:=isAgg5,z5:=sizeOf5,v5:=zeroValue5,t9:=underlying9,
 a9:=isAgg9,z9:=sizeOf9,v9:=zeroValue9,t20:=underlying20,a20:=isAgg20,z20:=sizeOf20,v20:=zeroValue20,t37:=underlying121,a37:=isAgg121,z37:=sizeOf121,v37:=zeroValue121,t46:=underlying173,
 a46:=isAgg173,z46:=sizeOf173,v46:=zeroValue173,t51:=underlying281,a51:=isAgg281,z51:=sizeOf281,v51:=zeroValue281,t53:=underlying246,a53:=isAgg246,z53:=sizeOf246,v53:=zeroValue246,t171:=underlying251,
 a171:=isAgg251,z171:=sizeOf251,v171:=zeroValue251,t173:=underlying254,a173:=isAgg254,z173:=sizeOf254,v173:=zeroValue254,t212:=underlying283,a212:=isAgg283,z212:=sizeOf283,v212:=zeroValue283,t213:=underlying284,
 a213:=isAgg284,z213:=sizeOf284,t232:=underlying312,a232:=isAgg312,z232:=sizeOf312,v232:=zeroValue312,t233:=underlying313,a233:=isAgg313,z233:=sizeOf313,v233:=zeroValue313,g17:=by kernel_rfl,g18:=by kernel_rfl,
 g19:=by kernel_rfl,i0:=by kernel_rfl,i2:=by kernel_rfl,i3:=by kernel_rfl,i4:=by kernel_rfl,i5:=by kernel_rfl,i9:=by kernel_rfl,i20:=by kernel_rfl,i37:=by kernel_rfl,i46:=by kernel_rfl,i51:=by kernel_rfl,i53:=by kernel_rfl,
 i171:=by kernel_rfl,i173:=by kernel_rfl,i212:=by kernel_rfl,i232:=by kernel_rfl,i233:=by kernel_rfl,m17:=by kernel_rfl,m18:=by kernel_rfl,m19:=by kernel_rfl}
open Go.RowKit Go.Sort Go.Lib in
theorem Tryz.strconv_Itoa (n:Int) (h0:-9223372036854775808≤n) (h1:n≤9223372036854775807) (w:World) (htab:Lib.TabIs prog w "internal/strconv.uint64pow10" .u64 Lib.pow10Tab) :
    Calls prog 99 #[.int .i64 n] w fun e w'=>e = .returned (.string ⟨(Lib.itoa n).toArray⟩)∧∃k os,w' = grow (w.drewN k) os:=Any.strconv_Itoa laysM171 n h0 h1 w htab
def Tryz.laysC245_ren:Go.Shelf.Ren:=⟨fun|245=>295|279=>315|280=>316|281=>317|282=>318|316=>326|171=>99|205=>327|243=>153|246=>210|283=>244|284=>245|285=>246|286=>247|129=>281|317=>282|318=>283|319=>284|320=>285|337=>305|338=>306|n=>n,fun|9=>9|3=>3|75=>186|167=>301|4=>4|168=>304|210=>318|37=>121|0=>0|127=>192|145=>323|143=>321|2=>2|171=>251|53=>246|5=>5|173=>254|212=>283|51=>281|20=>20|213=>284|46=>173|232=>312|233=>313|80=>127|n=>n,fun|15=>6|16=>7|17=>3|18=>4|19=>5|n=>n⟩
theorem Tryz.laysC245:Go.Proofs.LaysC.n245 prog laysC245_ren:={
 mixed:=by kernel_rfl,f129:=tK_lay func281,f171:=tK_lay func99,f205:=tK_lay func327,f243:=tK_lay func153,f245:=tK_lay func295,f246:=tK_lay func210,f279:=tK_lay func315,f280:=tK_lay func316,f281:=tK_lay func317,f282:=tK_lay func318,f283:=tK_lay func244,
 f284:=tK_lay func245,f285:=tK_lay func246,f286:=tK_lay func247,f316:=tK_lay func326,f317:=tK_lay func282,f318:=tK_lay func283,f319:=tK_lay func284,f320:=tK_lay func285,f337:=tK_lay func305,f338:=tK_lay func306,t0:=underlying0,a0:=isAgg0,
 z0:=sizeOf0,v0:=zeroValue0,t2:=underlying2,a2:=isAgg2,z2:=sizeOf2,v2:=zeroValue2,t3:=underlying3,a3:=isAgg3,z3:=sizeOf3,v3:=zeroValue3,t4:=underlying4,a4:=isAgg4,
 z4:=sizeOf4,v4:=zeroValue4,t5:=underlying5,a5:=isAgg5,z5:=sizeOf5,v5:=zeroValue5,t9:=underlying9,a9:=isAgg9,z9:=sizeOf9,v9:=zeroValue9,t20:=underlying20,a20:=isAgg20,
 z20:=sizeOf20,v20:=zeroValue20,t37:=underlying121,a37:=isAgg121,z37:=sizeOf121,v37:=zeroValue121,t46:=underlying173,a46:=isAgg173,z46:=sizeOf173,v46:=zeroValue173,t51:=underlying281,a51:=isAgg281,
 z51:=sizeOf281,v51:=zeroValue281,t53:=underlying246,a53:=isAgg246,z53:=sizeOf246,v53:=zeroValue246,t75:=underlying186,a75:=isAgg186,z75:=sizeOf186,v75:=zeroValue186,t127:=underlying192,a127:=isAgg192,
 z127:=sizeOf192,v127:=zeroValue192,t143:=underlying321,a143:=isAgg321,z143:=sizeOf321,v143:=zeroValue321,t145:=underlying323,a145:=isAgg323,z145:=sizeOf323,v145:=zeroValue323,t167:=underlying301,a167:=isAgg301,
 z167:=sizeOf301,v167:=zeroValue301,t168:=underlying304,a168:=isAgg304,z168:=sizeOf304,v168:=zeroValue304,t171:=underlying251,a171:=isAgg251,z171:=sizeOf251,v171:=zeroValue251,t173:=underlying254,a173:=isAgg254,
 z173:=sizeOf254,v173:=zeroValue254,t210:=underlying318,a210:=isAgg318,z210:=sizeOf318,v210:=zeroValue318,t212:=underlying283,a212:=isAgg283,z212:=sizeOf283,v212:=zeroValue283,t213:=underlying284,a213:=isAgg284,
 z213:=sizeOf284,t232:=underlying312,a232:=isAgg312,z232:=sizeOf312,v232:=zeroValue312,t233:=underlying313,a233:=isAgg313,z233:=sizeOf313,v233:=zeroValue313,g15:=by kernel_rfl,g16:=by kernel_rfl,g17:=by kernel_rfl,
 g18:=by kernel_rfl,g19:=by kernel_rfl,t80:=underlying127,a80:=isAgg127,z80:=sizeOf127,v80:=zeroValue127,i0:=by kernel_rfl,i2:=by kernel_rfl,i3:=by kernel_rfl,i4:=by kernel_rfl,i5:=by kernel_rfl,i9:=by kernel_rfl,
 i20:=by kernel_rfl,i37:=by kernel_rfl,i46:=by kernel_rfl,i51:=by kernel_rfl,i53:=by kernel_rfl,i75:=by kernel_rfl,i80:=by kernel_rfl,i127:=by kernel_rfl,i143:=by kernel_rfl,i145:=by kernel_rfl,i167:=by kernel_rfl,i168:=by kernel_rfl,
 i171:=by kernel_rfl,i173:=by kernel_rfl,i210:=by kernel_rfl,i212:=by kernel_rfl,i232:=by kernel_rfl,i233:=by kernel_rfl,m15:=by kernel_rfl,m16:=by kernel_rfl,m17:=by kernel_rfl,m18:=by kernel_rfl,m19:=by kernel_rfl,c0:=by kernel_rfl,
 c2:=by kernel_rfl,c3:=by kernel_rfl,c4:=by kernel_rfl,c5:=by kernel_rfl,c9:=by kernel_rfl,c20:=by kernel_rfl,c37:=by kernel_rfl,c46:=by kernel_rfl,c51:=by kernel_rfl,c53:=by kernel_rfl,c75:=by kernel_rfl,c80:=by kernel_rfl,
 c127:=by kernel_rfl,c143:=by kernel_rfl,c145:=by kernel_rfl,c167:=by kernel_rfl,c168:=by kernel_rfl,c171:=by kernel_rfl,c173:=by kernel_rfl,c210:=by kernel_rfl,c212:=by kernel_rfl,c213:=by kernel_rfl,c232:=by kernel_rfl,c233:=by kernel_rfl}
open Go.RowKit in
theorem Tryz.strconv_toError_syntax(fn s:ByteArray)(base bits:Int)(ev:Value)(w:World)(hlim:s.size≤281474976710656)(hv:w.cell? ⟨6,0,none⟩ = some ev)(hev:ev = .nilIface∨∃te pe,ev = .iface te pe) :
    Calls prog 295 #[.string fn,.string s,.int .i64 base,.int .i64 bits,.iface 301 (.int .i64 2)] w fun e w'=>∃N,e = .returned (.iface 304 (.pointer (some ⟨N,0,none⟩)))∧w.heap.size≤N∧w'.heap[N]? = some (.cells #[.string fn,.string s,ev] 318 (0,0))∧Below w.heap.size w w':=Any.strconv_toError_syntax laysC245 fn s base bits ev w hlim hv hev
def Tryz.lays321_ren:Go.Shelf.Ren:=⟨fun|321=>324|n=>n,fun|5=>5|n=>n,fun|n=>n⟩
theorem Tryz.lays321:Go.Proofs.Lays.n321 prog lays321_ren:={
 mixed:=by kernel_rfl,f321:=tK_lay func324,t5:=underlying5,a5:=isAgg5,z5:=sizeOf5,v5:=zeroValue5}
open Go.RowKit in
theorem Tryz.internal_strconv_lower(c:Int)(w:World) :
    Calls prog 324 #[.int .u8 c] w fun e w'=>e = .returned (.int .u8 (bits .or .u8 c 32))∧w' = w:=Any.internal_strconv_lower lays321 c w
def Tryz.laysC174_ren:Go.Shelf.Ren:=⟨fun|174=>255|247=>294|245=>295|287=>314|279=>315|280=>316|281=>317|282=>318|321=>324|322=>325|316=>326|171=>99|205=>327|243=>153|246=>210|283=>244|284=>245|285=>246|286=>247|129=>281|317=>282|318=>283|319=>284|320=>285|337=>305|338=>306|n=>n,fun|9=>9|3=>3|2=>2|75=>186|85=>260|4=>4|167=>301|5=>5|53=>246|175=>302|46=>173|168=>304|37=>121|0=>0|210=>318|21=>21|127=>192|145=>323|143=>321|171=>251|173=>254|212=>283|51=>281|20=>20|213=>284|232=>312|233=>313|80=>127|n=>n,fun|15=>6|16=>7|17=>3|18=>4|19=>5|n=>n⟩
theorem Tryz.laysC174:Go.Proofs.LaysC.n174 prog laysC174_ren:={
 mixed:=by kernel_rfl,f129:=tK_lay func281,f171:=tK_lay func99,f174:=tK_lay func255,f205:=tK_lay func327,f243:=tK_lay func153,f245:=tK_lay func295,f246:=tK_lay func210,f247:=tK_lay func294,f279:=tK_lay func315,f280:=tK_lay func316,f281:=tK_lay func317,
 f282:=tK_lay func318,f283:=tK_lay func244,f284:=tK_lay func245,f285:=tK_lay func246,f286:=tK_lay func247,f287:=tK_lay func314,f316:=tK_lay func326,f317:=tK_lay func282,f318:=tK_lay func283,f319:=tK_lay func284,f320:=tK_lay func285,f321:=tK_lay func324,
 f322:=tK_lay func325,f337:=tK_lay func305,f338:=tK_lay func306,t0:=underlying0,a0:=isAgg0,z0:=sizeOf0,v0:=zeroValue0,t2:=underlying2,a2:=isAgg2,z2:=sizeOf2,v2:=zeroValue2,t3:=underlying3,
 a3:=isAgg3,z3:=sizeOf3,v3:=zeroValue3,t4:=underlying4,a4:=isAgg4,z4:=sizeOf4,v4:=zeroValue4,t5:=underlying5,a5:=isAgg5,z5:=sizeOf5,v5:=zeroValue5,t9:=underlying9,
 a9:=isAgg9,z9:=sizeOf9,v9:=zeroValue9,t20:=underlying20,a20:=isAgg20,z20:=sizeOf20,v20:=zeroValue20,t21:=underlying21,a21:=isAgg21,z21:=sizeOf21,v21:=zeroValue21,t37:=underlying121,
 a37:=isAgg121,z37:=sizeOf121,v37:=zeroValue121,t46:=underlying173,a46:=isAgg173,z46:=sizeOf173,v46:=zeroValue173,t51:=underlying281,a51:=isAgg281,z51:=sizeOf281,v51:=zeroValue281,t53:=underlying246,
 a53:=isAgg246,z53:=sizeOf246,v53:=zeroValue246,t75:=underlying186,a75:=isAgg186,z75:=sizeOf186,v75:=zeroValue186,t85:=underlying260,a85:=isAgg260,z85:=sizeOf260,v85:=zeroValue260,t127:=underlying192,
 a127:=isAgg192,z127:=sizeOf192,v127:=zeroValue192,t143:=underlying321,a143:=isAgg321,z143:=sizeOf321,v143:=zeroValue321,t145:=underlying323,a145:=isAgg323,z145:=sizeOf323,v145:=zeroValue323,t167:=underlying301,
 a167:=isAgg301,z167:=sizeOf301,v167:=zeroValue301,t168:=underlying304,a168:=isAgg304,z168:=sizeOf304,v168:=zeroValue304,t171:=underlying251,a171:=isAgg251,z171:=sizeOf251,v171:=zeroValue251,t173:=underlying254,
 a173:=isAgg254,z173:=sizeOf254,v173:=zeroValue254,t175:=underlying302,a175:=isAgg302,z175:=sizeOf302,v175:=zeroValue302,t210:=underlying318,a210:=isAgg318,z210:=sizeOf318,v210:=zeroValue318,t212:=underlying283,
 a212:=isAgg283,z212:=sizeOf283,v212:=zeroValue283,t213:=underlying284,a213:=isAgg284,z213:=sizeOf284,t232:=underlying312,a232:=isAgg312,z232:=sizeOf312,v232:=zeroValue312,t233:=underlying313,a233:=isAgg313,
 z233:=sizeOf313,v233:=zeroValue313,g15:=by kernel_rfl,g16:=by kernel_rfl,g17:=by kernel_rfl,g18:=by kernel_rfl,g19:=by kernel_rfl,t80:=underlying127,a80:=isAgg127,z80:=sizeOf127,v80:=zeroValue127,i0:=by kernel_rfl,
 i2:=by kernel_rfl,i3:=by kernel_rfl,i4:=by kernel_rfl,i5:=by kernel_rfl,i9:=by kernel_rfl,i20:=by kernel_rfl,i21:=by kernel_rfl,i37:=by kernel_rfl,i46:=by kernel_rfl,i51:=by kernel_rfl,i53:=by kernel_rfl,i75:=by kernel_rfl,
 i80:=by kernel_rfl,i85:=by kernel_rfl,i127:=by kernel_rfl,i143:=by kernel_rfl,i145:=by kernel_rfl,i167:=by kernel_rfl,i168:=by kernel_rfl,i171:=by kernel_rfl,i173:=by kernel_rfl,i175:=by kernel_rfl,i210:=by kernel_rfl,i212:=by kernel_rfl,
 i232:=by kernel_rfl,i233:=by kernel_rfl,m15:=by kernel_rfl,m16:=by kernel_rfl,m17:=by kernel_rfl,m18:=by kernel_rfl,m19:=by kernel_rfl,c0:=by kernel_rfl,c2:=by kernel_rfl,c3:=by kernel_rfl,c4:=by kernel_rfl,c5:=by kernel_rfl,
 c9:=by kernel_rfl,c20:=by kernel_rfl,c21:=by kernel_rfl,c37:=by kernel_rfl,c46:=by kernel_rfl,c51:=by kernel_rfl,c53:=by kernel_rfl,c75:=by kernel_rfl,c80:=by kernel_rfl,c85:=by kernel_rfl,c127:=by kernel_rfl,c143:=by kernel_rfl,
 c145:=by kernel_rfl,c167:=by kernel_rfl,c168:=by kernel_rfl,c171:=by kernel_rfl,c173:=by kernel_rfl,c175:=by kernel_rfl,c210:=by kernel_rfl,c212:=by kernel_rfl,c213:=by kernel_rfl,c232:=by kernel_rfl,c233:=by kernel_rfl}
open Go.RowKit in
theorem Tryz.strconv_ParseInt_10_at64_ok(s:ByteArray)(hmax:s.size≤9223372036854775806)(v:Int)(h:Lib.parseIntB 64 s.data.toList = .ok v)(w:World) :
    Calls prog 255 #[.string s,.int .i64 10,.int .i64 64] w fun e w'=>e = .returned (.tuple #[.int .i64 v,.nilIface])∧(w' = w∨∃t,w' = Lib.bytesWorld w 5 t):=Any.strconv_ParseInt_10_at64_ok laysC174 s hmax v h w
open Go.RowKit in
theorem Tryz.strconv_ParseInt_10_at64_range_var (s:ByteArray) (hlim:s.size≤281474976710656) (h:Lib.parseIntB 64 s.data.toList = .range) (tp:TypeId) (p:Value) (w:World) (hvar:w.var? prog "strconv.ErrRange" = some #[.iface tp p]) :
    Calls prog 255 #[.string s,.int .i64 10,.int .i64 64] w fun e w'=>∃N,e = .returned (.tuple #[.int .i64 (Lib.intSat 64 s.data.toList),.iface 304 (.pointer (some ⟨N,0,none⟩))])∧w.heap.size≤N∧w'.heap[N]? = some (.cells #[.string ⟨#[80,97,114,115,101,73,110,116]⟩,.string s,.iface tp p] 318 (0,0))∧Below w.heap.size w w':=Any.strconv_ParseInt_10_at64_range_var laysC174 s hlim h tp p w hvar
def Tryz.lays99_ren:Go.Shelf.Ren:=⟨fun|99=>291|206=>286|n=>n,fun|9=>9|4=>4|3=>3|n=>n,fun|n=>n⟩
theorem Tryz.lays99:Go.Proofs.Lays.n99 prog lays99_ren:={
 mixed:=by kernel_rfl,f99:=tK_lay func291,f206:=tK_lay func286,t3:=underlying3,a3:=isAgg3,z3:=sizeOf3,v3:=zeroValue3,t4:=underlying4,a4:=isAgg4,z4:=sizeOf4,v4:=zeroValue4,t9:=underlying9,
 a9:=isAgg9,z9:=sizeOf9,v9:=zeroValue9}
open Go.RowKit Go.Lib in
theorem Tryz.strings_HasPrefix(s p:ByteArray)(w:World) :
    Calls prog 291 #[.string s,.string p] w fun e w'=>e = .returned (.bool (Lib.hasPrefix s.data.toList p.data.toList))∧w' = w:=Any.strings_HasPrefix lays99 s p w
def Tryz.lays101_ren:Go.Shelf.Ren:=⟨fun|101=>213|208=>250|206=>286|n=>n,fun|9=>9|4=>4|3=>3|n=>n,fun|n=>n⟩
theorem Tryz.lays101:Go.Proofs.Lays.n101 prog lays101_ren:={
 mixed:=by kernel_rfl,f101:=tK_lay func213,f206:=tK_lay func286,f208:=tK_lay func250,t3:=underlying3,a3:=isAgg3,z3:=sizeOf3,v3:=zeroValue3,t4:=underlying4,a4:=isAgg4,z4:=sizeOf4,v4:=zeroValue4,
 t9:=underlying9,a9:=isAgg9,z9:=sizeOf9,v9:=zeroValue9}
open Go.RowKit Go.Lib in
theorem Tryz.strings_TrimPrefix(s p:ByteArray)(w:World) :
    Calls prog 213 #[.string s,.string p] w fun e w'=>e = .returned (.string ⟨(Lib.trimPrefix s.data.toList p.data.toList).toArray⟩)∧w' = w:=Any.strings_TrimPrefix lays101 s p w
def Tryz.lays197_ren:Go.Shelf.Ren:=⟨fun|197=>125|260=>187|n=>n,fun|9=>9|21=>21|3=>3|4=>4|5=>5|105=>111|119=>208|0=>0|46=>173|139=>211|138=>210|n=>n,fun|3=>0|4=>1|n=>n⟩
theorem Tryz.lays197:Go.Proofs.Lays.n197 prog lays197_ren:={
 mixed:=by kernel_rfl,f197:=tK_lay func125,f260:=tK_lay func187,t0:=underlying0,a0:=isAgg0,z0:=sizeOf0,v0:=zeroValue0,t3:=underlying3,a3:=isAgg3,z3:=sizeOf3,v3:=zeroValue3,t4:=underlying4,
 a4:=isAgg4,z4:=sizeOf4,v4:=zeroValue4,t5:=underlying5,a5:=isAgg5,z5:=sizeOf5,v5:=zeroValue5,t9:=underlying9,a9:=isAgg9,z9:=sizeOf9,v9:=zeroValue9,t21:=underlying21,
 a21:=isAgg21,z21:=sizeOf21,v21:=zeroValue21,t46:=underlying173,a46:=isAgg173,z46:=sizeOf173,v46:=zeroValue173,t105:=underlying111,a105:=isAgg111,z105:=sizeOf111,v105:=zeroValue111,t119:=underlying208,
 a119:=isAgg208,z119:=sizeOf208,t138:=underlying210,a138:=isAgg210,z138:=sizeOf210,v138:=zeroValue210,t139:=underlying211,a139:=isAgg211,z139:=sizeOf211,v139:=zeroValue211,g3:=by kernel_rfl,g4:=by kernel_rfl}
def Tryz.lays152_ren:Go.Shelf.Ren:=⟨fun|152=>288|137=>249|119=>308|224=>309|225=>310|217=>287|266=>307|n=>n,fun|9=>9|21=>21|3=>3|4=>4|5=>5|0=>0|46=>173|n=>n,fun|n=>n⟩
theorem Tryz.lays152:Go.Proofs.Lays.n152 prog lays152_ren:={
 mixed:=by kernel_rfl,f119:=tK_lay func308,f137:=tK_lay func249,f152:=tK_lay func288,f217:=tK_lay func287,f224:=tK_lay func309,f225:=tK_lay func310,f266:=tK_lay func307,t0:=underlying0,a0:=isAgg0,z0:=sizeOf0,v0:=zeroValue0,
 t3:=underlying3,a3:=isAgg3,z3:=sizeOf3,v3:=zeroValue3,t4:=underlying4,a4:=isAgg4,z4:=sizeOf4,v4:=zeroValue4,t5:=underlying5,a5:=isAgg5,z5:=sizeOf5,v5:=zeroValue5,
 t9:=underlying9,a9:=isAgg9,z9:=sizeOf9,v9:=zeroValue9,t21:=underlying21,a21:=isAgg21,z21:=sizeOf21,v21:=zeroValue21,t46:=underlying173,a46:=isAgg173,z46:=sizeOf173,v46:=zeroValue173}
open Go.RowKit Go.Lib in
theorem Tryz.strings_IndexRune_ascii(s:ByteArray)(r:Int)(w:World)(h0:0≤r)(h1:r < 128) :
    Calls prog 288 #[.string s,.int .i32 r] w fun e w'=>e = .returned (.int .i64 (Lib.indexByte s.data.toList r.toNat.toUInt8))∧w' = w:=Any.strings_IndexRune_ascii lays152 s r w h0 h1
def Tryz.lays105_ren:Go.Shelf.Ren:=⟨fun|105=>254|212=>290|99=>291|165=>292|166=>163|170=>293|169=>106|263=>311|264=>312|206=>286|240=>224|241=>313|276=>256|277=>323|n=>n,fun|9=>9|3=>3|4=>4|20=>20|0=>0|46=>173|109=>286|5=>5|72=>123|76=>187|51=>281|146=>297|53=>246|148=>299|70=>120|37=>121|75=>186|127=>192|164=>262|80=>127|n=>n,fun|n=>n⟩
theorem Tryz.lays105:Go.Proofs.Lays.n105 prog lays105_ren:={
 mixed:=by kernel_rfl,f99:=tK_lay func291,f105:=tK_lay func254,f165:=tK_lay func292,f166:=tK_lay func163,f169:=tK_lay func106,f170:=tK_lay func293,f206:=tK_lay func286,f212:=tK_lay func290,f240:=tK_lay func224,f241:=tK_lay func313,f263:=tK_lay func311,
 f264:=tK_lay func312,f276:=tK_lay func256,f277:=tK_lay func323,t0:=underlying0,a0:=isAgg0,z0:=sizeOf0,v0:=zeroValue0,t3:=underlying3,a3:=isAgg3,z3:=sizeOf3,v3:=zeroValue3,t4:=underlying4,
 a4:=isAgg4,z4:=sizeOf4,v4:=zeroValue4,t5:=underlying5,a5:=isAgg5,z5:=sizeOf5,v5:=zeroValue5,t9:=underlying9,a9:=isAgg9,z9:=sizeOf9,v9:=zeroValue9,t20:=underlying20,
 a20:=isAgg20,z20:=sizeOf20,v20:=zeroValue20,t37:=underlying121,a37:=isAgg121,z37:=sizeOf121,v37:=zeroValue121,t46:=underlying173,a46:=isAgg173,z46:=sizeOf173,v46:=zeroValue173,t51:=underlying281,
 a51:=isAgg281,z51:=sizeOf281,v51:=zeroValue281,t53:=underlying246,a53:=isAgg246,z53:=sizeOf246,v53:=zeroValue246,t70:=underlying120,a70:=isAgg120,z70:=sizeOf120,v70:=zeroValue120,t72:=underlying123,
 a72:=isAgg123,z72:=sizeOf123,v72:=zeroValue123,t75:=underlying186,a75:=isAgg186,z75:=sizeOf186,v75:=zeroValue186,t76:=underlying187,a76:=isAgg187,z76:=sizeOf187,v76:=zeroValue187,t109:=underlying286,
 a109:=isAgg286,z109:=sizeOf286,v109:=zeroValue286,t127:=underlying192,a127:=isAgg192,z127:=sizeOf192,v127:=zeroValue192,t146:=underlying297,a146:=isAgg297,z146:=sizeOf297,v146:=zeroValue297,t148:=underlying299,
 a148:=isAgg299,z148:=sizeOf299,v148:=zeroValue299,t164:=underlying262,a164:=isAgg262,z164:=sizeOf262,v164:=zeroValue262}
theorem Tryz.Builder_Extra_105:Builder.Extra prog lays105_ren:={
 sizeBuilder:=by kernel_rfl,liesBuilder:=by kernel_rfl,t5:=underlying5,a5:=isAgg5,z5:=sizeOf5,v5:=zeroValue5,infoByte:=by kernel_rfl,cellsByte:=by kernel_rfl,sizeByte:=by kernel_rfl,neB5:=by decide}
open Go.RowKit Go.Lib in
theorem Tryz.strings_Repeat(s:ByteArray)(c:Nat)(w:World)(hc:c≤9223372036854775807)(hlen:s.size * c≤140737488355328) :
    Calls prog 254 #[.string s,.int .i64 c] w fun e w'=>e = .returned (.string ⟨(Lib.repeatL s.data.toList c).toArray⟩)∧Below w.heap.size w w':=Any.strings_Repeat lays105 Builder_Extra_105 s c w hc hlen
open Go.RowKit Go.Lib in
theorem Tryz.utf8_DecodeRuneInString(s:ByteArray)(w:World)(hT:Lib.Utf8Tabs 0 1 w) :
    Calls prog 125 #[.string s] w fun e w'=>e = .returned (.tuple #[.int .i32 (Lib.decodeGo s).1,.int .i64 (Lib.decodeGo s).2])∧Below w.heap.size w w':=Any.utf8_DecodeRuneInString lays197 s w hT
end Go.Proofs
