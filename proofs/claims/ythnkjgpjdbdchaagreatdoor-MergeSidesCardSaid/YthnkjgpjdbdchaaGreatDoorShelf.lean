/- A part of the proof. -/
import Derived.KernelRfl
import Derived.Shelf.Strings.Trim
import Derived.Shelf.Small.Strs
import Derived.Shelf.Small.Wraps
import Derived.Shelf.Utf8.AppendRunePlain
import Derived.Shelf.LaysM
import Derived.Shelf.Strconv.Itoa3
import Derived.Shelf.LaysC
import Derived.Shelf.Strconv.ParseIntPublic10
import Derived.Shelf.Strconv.ErrVarParseInt
import Derived.Shelf.Strings.Prefix
import Derived.Shelf.Strings.Repeat
import Derived.Shelf.Unicode.DecodeSlow
import Derived.Shelf.Unicode.DecodeAny
import Derived.Shelf.SortM.Plain
import Derived.Shelf.SortM.SortNone
import Derived.Test.YthnkjgpjdbdchaaGreatDoorProg
set_option linter.all false
namespace Go.Proofs
open Tryz
open Go.Shelf
theorem tK_lay{α:Type _}{x:Option α}{a b:α}(h:x=some a)(e:a=b:=by kernel_rfl):x=some b:=h.trans (congrArg some e)
def Tryz.lays161_ren:Go.Shelf.Ren:=⟨fun|161=>103|231=>134|227=>135|233=>136|235=>137|228=>187|197=>106|151=>188|260=>142|152=>221|137=>185|119=>245|224=>246|225=>247|217=>220|266=>244|n=>n,fun|9=>9|4=>4|3=>3|5=>5|117=>167|116=>166|0=>0|124=>170|105=>134|21=>21|119=>172|46=>154|139=>175|138=>174|n=>n,fun|3=>0|4=>1|n=>n⟩
theorem Tryz.lays161:Go.Proofs.Lays.n161 prog lays161_ren:={
 mixed:=by kernel_rfl,f119:=tK_lay func245,f137:=tK_lay func185,f151:=tK_lay func188,f152:=tK_lay func221,f161:=tK_lay func103,f197:=tK_lay func106,f217:=tK_lay func220,f224:=tK_lay func246,f225:=tK_lay func247,f227:=tK_lay func135,f228:=tK_lay func187,
 f231:=tK_lay func134,f233:=tK_lay func136,f235:=tK_lay func137,f260:=tK_lay func142,f266:=tK_lay func244,t0:=underlying0,a0:=isAgg0,z0:=sizeOf0,v0:=zeroValue0,t3:=underlying3,a3:=isAgg3,z3:=sizeOf3,
 v3:=zeroValue3,t4:=underlying4,a4:=isAgg4,z4:=sizeOf4,v4:=zeroValue4,t5:=underlying5,a5:=isAgg5,z5:=sizeOf5,v5:=zeroValue5,t9:=underlying9,a9:=isAgg9,z9:=sizeOf9,
 v9:=zeroValue9,t21:=underlying21,a21:=isAgg21,z21:=sizeOf21,v21:=zeroValue21,t46:=underlying154,a46:=isAgg154,z46:=sizeOf154,v46:=zeroValue154,t105:=underlying134,a105:=isAgg134,z105:=sizeOf134,
 v105:=zeroValue134,t116:=underlying166,a116:=isAgg166,z116:=sizeOf166,t117:=underlying167,a117:=isAgg167,z117:=sizeOf167,v117:=zeroValue167,t119:=underlying172,a119:=isAgg172,z119:=sizeOf172,t124:=underlying170,
 a124:=isAgg170,z124:=sizeOf170,v124:=zeroValue170,t138:=underlying174,a138:=isAgg174,z138:=sizeOf174,v138:=zeroValue174,t139:=underlying175,a139:=isAgg175,z139:=sizeOf175,v139:=zeroValue175,g3:=by kernel_rfl,
 g4:=by kernel_rfl}
open Go.RowKit in
theorem Tryz.strings_TrimLeft_one(s:ByteArray)(c:UInt8)(hc:c.toNat < 128)(w:World) :
    Calls prog 103 #[.string s,.string ⟨#[c]⟩] w fun e w'=>e = .returned (.string ⟨(Lib.trimLeftB s.data.toList c).toArray⟩)∧w' = w:=Any.strings_TrimLeft_one lays161 s c hc w
def Tryz.lays162_ren:Go.Shelf.Ren:=⟨fun|162=>104|232=>138|227=>135|234=>139|236=>140|228=>187|271=>189|151=>188|120=>222|197=>106|152=>221|260=>142|137=>185|119=>245|224=>246|225=>247|217=>220|266=>244|n=>n,fun|9=>9|4=>4|3=>3|5=>5|117=>167|116=>166|0=>0|124=>170|21=>21|105=>134|46=>154|119=>172|139=>175|138=>174|n=>n,fun|3=>0|4=>1|n=>n⟩
theorem Tryz.lays162:Go.Proofs.Lays.n162 prog lays162_ren:={
 mixed:=by kernel_rfl,f119:=tK_lay func245,f120:=tK_lay func222,f137:=tK_lay func185,f151:=tK_lay func188,f152:=tK_lay func221,f162:=tK_lay func104,f197:=tK_lay func106,f217:=tK_lay func220,f224:=tK_lay func246,f225:=tK_lay func247,f227:=tK_lay func135,
 f228:=tK_lay func187,f232:=tK_lay func138,f234:=tK_lay func139,f236:=tK_lay func140,f260:=tK_lay func142,f266:=tK_lay func244,f271:=tK_lay func189,t0:=underlying0,a0:=isAgg0,z0:=sizeOf0,v0:=zeroValue0,t3:=underlying3,
 a3:=isAgg3,z3:=sizeOf3,v3:=zeroValue3,t4:=underlying4,a4:=isAgg4,z4:=sizeOf4,v4:=zeroValue4,t5:=underlying5,a5:=isAgg5,z5:=sizeOf5,v5:=zeroValue5,t9:=underlying9,
 a9:=isAgg9,z9:=sizeOf9,v9:=zeroValue9,t21:=underlying21,a21:=isAgg21,z21:=sizeOf21,v21:=zeroValue21,t46:=underlying154,a46:=isAgg154,z46:=sizeOf154,v46:=zeroValue154,t105:=underlying134,
 a105:=isAgg134,z105:=sizeOf134,v105:=zeroValue134,t116:=underlying166,a116:=isAgg166,z116:=sizeOf166,t117:=underlying167,a117:=isAgg167,z117:=sizeOf167,v117:=zeroValue167,t119:=underlying172,a119:=isAgg172,
 z119:=sizeOf172,t124:=underlying170,a124:=isAgg170,z124:=sizeOf170,v124:=zeroValue170,t138:=underlying174,a138:=isAgg174,z138:=sizeOf174,v138:=zeroValue174,t139:=underlying175,a139:=isAgg175,z139:=sizeOf175,
 v139:=zeroValue175,g3:=by kernel_rfl,g4:=by kernel_rfl}
open Go.RowKit in
theorem Tryz.strings_TrimRight_one(s:ByteArray)(c:UInt8)(hc:c.toNat < 128)(w:World)(hs:s.size≤9223372036854775807) :
    Calls prog 104 #[.string s,.string ⟨#[c]⟩] w fun e w'=>e = .returned (.string ⟨(Lib.trimRightB s.data.toList c).toArray⟩)∧w' = w:=Any.strings_TrimRight_one lays162 s c hc w hs
def Tryz.lays137_ren:Go.Shelf.Ren:=⟨fun|137=>185|217=>220|266=>244|n=>n,fun|9=>9|5=>5|3=>3|n=>n,fun|n=>n⟩
theorem Tryz.lays137:Go.Proofs.Lays.n137 prog lays137_ren:={
 mixed:=by kernel_rfl,f137:=tK_lay func185,f217:=tK_lay func220,f266:=tK_lay func244,t3:=underlying3,a3:=isAgg3,z3:=sizeOf3,v3:=zeroValue3,t5:=underlying5,a5:=isAgg5,z5:=sizeOf5,v5:=zeroValue5,
 t9:=underlying9,a9:=isAgg9,z9:=sizeOf9,v9:=zeroValue9}
open Go.RowKit in
theorem Tryz.strings_IndexByte(s:ByteArray)(c:Int)(w:World) :
    Calls prog 185 #[.string s,.int .u8 c] w fun e w'=>e = .returned (.int .i64 (Lib.indexByte s.data.toList c.toNat.toUInt8))∧w' = w:=Any.strings_IndexByte lays137 s c w
def Tryz.lays103_ren:Go.Shelf.Ren:=⟨fun|103=>131|210=>184|206=>208|n=>n,fun|9=>9|4=>4|24=>113|3=>3|n=>n,fun|n=>n⟩
theorem Tryz.lays103:Go.Proofs.Lays.n103 prog lays103_ren:={
 mixed:=by kernel_rfl,f103:=tK_lay func131,f206:=tK_lay func208,f210:=tK_lay func184,t3:=underlying3,a3:=isAgg3,z3:=sizeOf3,v3:=zeroValue3,t4:=underlying4,a4:=isAgg4,z4:=sizeOf4,v4:=zeroValue4,
 t9:=underlying9,a9:=isAgg9,z9:=sizeOf9,v9:=zeroValue9,t24:=underlying113,a24:=isAgg113,z24:=sizeOf113,v24:=zeroValue113}
open Go.RowKit in
theorem Tryz.strings_CutPrefix(s p:ByteArray)(w:World) :
    Calls prog 131 #[.string s,.string p] w fun e w'=>e = .returned (.tuple #[.string ⟨(Lib.trimPrefix s.data.toList p.data.toList).toArray⟩,.bool (Lib.hasPrefix s.data.toList p.data.toList)])∧w' = w:=Any.strings_CutPrefix lays103 s p w
def Tryz.lays242_ren:Go.Shelf.Ren:=⟨fun|242=>279|278=>289|n=>n,fun|37=>216|21=>21|51=>210|4=>4|5=>5|46=>154|n=>n,fun|n=>n⟩
theorem Tryz.lays242:Go.Proofs.Lays.n242 prog lays242_ren:={
 mixed:=by kernel_rfl,f242:=tK_lay func279,f278:=tK_lay func289,t4:=underlying4,a4:=isAgg4,z4:=sizeOf4,v4:=zeroValue4,t5:=underlying5,a5:=isAgg5,z5:=sizeOf5,v5:=zeroValue5,t21:=underlying21,
 a21:=isAgg21,z21:=sizeOf21,v21:=zeroValue21,t37:=underlying216,a37:=isAgg216,z37:=sizeOf216,v37:=zeroValue216,t46:=underlying154,a46:=isAgg154,z46:=sizeOf154,v46:=zeroValue154,t51:=underlying210,
 a51:=isAgg210,z51:=sizeOf210,v51:=zeroValue210}
open Go.RowKit in
theorem Tryz.utf8_AppendRune_plain(B:Nat)(v:Value)(n:Nat)(xs:List Value)(r:Int)(hr0:-2147483648≤r)(hr1:r≤2147483647)(w:World)(hown:w.ownsRow B 5 1 v n xs)(hlen:n + 4≤140737488355328)(hBw:B≤w.heap.size) :
    Calls prog 279 #[v,.int .i32 r] w fun e w'=>∃v',e = .returned v'∧w'.ownsRow B 5 1 v' (n + (Lib.runeCells r).length) (xs ++ Lib.runeCells r)∧∃o,(w.alloc o).grownBy w' v.ownBlock:=Any.utf8_AppendRune_plain lays242 (by kernel_rfl) B v n xs r hr0 hr1 w hown hlen hBw
def Tryz.laysM171_ren:Go.Shelf.Ren:=⟨fun|171=>76|243=>101|246=>130|283=>180|284=>181|285=>182|286=>183|129=>168|317=>216|318=>217|319=>218|320=>219|337=>242|338=>243|n=>n,fun|3=>3|9=>9|2=>2|4=>4|171=>224|0=>0|53=>212|37=>216|5=>5|173=>226|212=>260|51=>210|20=>20|213=>261|46=>154|232=>303|233=>304|n=>n,fun|17=>2|18=>6|19=>7|n=>n⟩
theorem Tryz.laysM171:Go.Proofs.LaysM.n171 prog laysM171_ren:={
 mixed:=by kernel_rfl,f129:=tK_lay func168,f171:=tK_lay func76,f243:=tK_lay func101,f246:=tK_lay func130,f283:=tK_lay func180,f284:=tK_lay func181,f285:=tK_lay func182,f286:=tK_lay func183,f317:=tK_lay func216,f318:=tK_lay func217,f319:=tK_lay func218,
 f320:=tK_lay func219,f337:=tK_lay func242,f338:=tK_lay func243,t0:=underlying0,a0:=isAgg0,z0:=sizeOf0,v0:=zeroValue0,t2:=underlying2,a2:=isAgg2,z2:=sizeOf2,v2:=zeroValue2,t3:=underlying3,
 a3:=isAgg3,z3:=sizeOf3,v3:=zeroValue3,t4:=underlying4,a4:=isAgg4,z4:=sizeOf4,v4:=zeroValue4,t5:=underlying5,a5:=isAgg5,z5:=sizeOf5,v5:=zeroValue5,t9:=underlying9,
 a9:=isAgg9,z9:=sizeOf9,v9:=zeroValue9,t20:=underlying20,a20:=isAgg20,z20:=sizeOf20,v20:=zeroValue20,t37:=underlying216,a37:=isAgg216,z37:=sizeOf216,v37:=zeroValue216,t46:=underlying154,
 a46:=isAgg154,z46:=sizeOf154,v46:=zeroValue154,t51:=underlying210,a51:=isAgg210,z51:=sizeOf210,v51:=zeroValue210,t53:=underlying212,a53:=isAgg212,z53:=sizeOf212,v53:=zeroValue212,t171:=underlying224,
 a171:=isAgg224,z171:=sizeOf224,v171:=zeroValue224,t173:=underlying226,a173:=isAgg226,z173:=sizeOf226,v173:=zeroValue226,t212:=underlying260,a212:=isAgg260,z212:=sizeOf260,v212:=zeroValue260,t213:=underlying261,
 a213:=isAgg261,z213:=sizeOf261,t232:=underlying303,a232:=isAgg303,z232:=sizeOf303,v232:=zeroValue303,t233:=underlying304,a233:=isAgg304,z233:=sizeOf304,v233:=zeroValue304,g17:=by kernel_rfl,g18:=by kernel_rfl,
 g19:=by kernel_rfl,i0:=by kernel_rfl,i2:=by kernel_rfl,i3:=by kernel_rfl,i4:=by kernel_rfl,i5:=by kernel_rfl,i9:=by kernel_rfl,i20:=by kernel_rfl,i37:=by kernel_rfl,i46:=by kernel_rfl,i51:=by kernel_rfl,i53:=by kernel_rfl,
 i171:=by kernel_rfl,i173:=by kernel_rfl,i212:=by kernel_rfl,i232:=by kernel_rfl,i233:=by kernel_rfl,m17:=by kernel_rfl,m18:=by kernel_rfl,m19:=by kernel_rfl}
open Go.RowKit Go.Sort Go.Lib in
theorem Tryz.strconv_Itoa (n:Int) (h0:-9223372036854775808≤n) (h1:n≤9223372036854775807) (w:World) (htab:Lib.TabIs prog w "internal/strconv.uint64pow10" .u64 Lib.pow10Tab) :
    Calls prog 76 #[.int .i64 n] w fun e w'=>e = .returned (.string ⟨(Lib.itoa n).toArray⟩)∧∃k os,w' = grow (w.drewN k) os:=Any.strconv_Itoa laysM171 n h0 h1 w htab
def Tryz.laysC174_ren:Go.Shelf.Ren:=⟨fun|174=>129|247=>178|245=>179|287=>211|279=>212|280=>213|281=>214|282=>215|321=>238|322=>239|316=>240|171=>76|205=>241|243=>101|246=>130|283=>180|284=>181|285=>182|286=>183|129=>168|317=>216|318=>217|319=>218|320=>219|337=>242|338=>243|n=>n,fun|9=>9|3=>3|2=>2|75=>157|85=>158|4=>4|167=>252|5=>5|53=>212|175=>253|46=>154|168=>255|37=>216|0=>0|210=>284|21=>21|127=>251|145=>302|143=>300|171=>224|173=>226|212=>260|51=>210|20=>20|213=>261|232=>303|233=>304|80=>222|n=>n,fun|15=>3|16=>4|17=>2|18=>6|19=>7|n=>n⟩
theorem Tryz.laysC174:Go.Proofs.LaysC.n174 prog laysC174_ren:={
 mixed:=by kernel_rfl,f129:=tK_lay func168,f171:=tK_lay func76,f174:=tK_lay func129,f205:=tK_lay func241,f243:=tK_lay func101,f245:=tK_lay func179,f246:=tK_lay func130,f247:=tK_lay func178,f279:=tK_lay func212,f280:=tK_lay func213,f281:=tK_lay func214,
 f282:=tK_lay func215,f283:=tK_lay func180,f284:=tK_lay func181,f285:=tK_lay func182,f286:=tK_lay func183,f287:=tK_lay func211,f316:=tK_lay func240,f317:=tK_lay func216,f318:=tK_lay func217,f319:=tK_lay func218,f320:=tK_lay func219,f321:=tK_lay func238,
 f322:=tK_lay func239,f337:=tK_lay func242,f338:=tK_lay func243,t0:=underlying0,a0:=isAgg0,z0:=sizeOf0,v0:=zeroValue0,t2:=underlying2,a2:=isAgg2,z2:=sizeOf2,v2:=zeroValue2,t3:=underlying3,
 a3:=isAgg3,z3:=sizeOf3,v3:=zeroValue3,t4:=underlying4,a4:=isAgg4,z4:=sizeOf4,v4:=zeroValue4,t5:=underlying5,a5:=isAgg5,z5:=sizeOf5,v5:=zeroValue5,t9:=underlying9,
 a9:=isAgg9,z9:=sizeOf9,v9:=zeroValue9,t20:=underlying20,a20:=isAgg20,z20:=sizeOf20,v20:=zeroValue20,t21:=underlying21,a21:=isAgg21,z21:=sizeOf21,v21:=zeroValue21,t37:=underlying216,
 a37:=isAgg216,z37:=sizeOf216,v37:=zeroValue216,t46:=underlying154,a46:=isAgg154,z46:=sizeOf154,v46:=zeroValue154,t51:=underlying210,a51:=isAgg210,z51:=sizeOf210,v51:=zeroValue210,t53:=underlying212,
 a53:=isAgg212,z53:=sizeOf212,v53:=zeroValue212,t75:=underlying157,a75:=isAgg157,z75:=sizeOf157,v75:=zeroValue157,t85:=underlying158,a85:=isAgg158,z85:=sizeOf158,v85:=zeroValue158,t127:=underlying251,
 a127:=isAgg251,z127:=sizeOf251,v127:=zeroValue251,t143:=underlying300,a143:=isAgg300,z143:=sizeOf300,v143:=zeroValue300,t145:=underlying302,a145:=isAgg302,z145:=sizeOf302,v145:=zeroValue302,t167:=underlying252,
 a167:=isAgg252,z167:=sizeOf252,v167:=zeroValue252,t168:=underlying255,a168:=isAgg255,z168:=sizeOf255,v168:=zeroValue255,t171:=underlying224,a171:=isAgg224,z171:=sizeOf224,v171:=zeroValue224,t173:=underlying226,
 a173:=isAgg226,z173:=sizeOf226,v173:=zeroValue226,t175:=underlying253,a175:=isAgg253,z175:=sizeOf253,v175:=zeroValue253,t210:=underlying284,a210:=isAgg284,z210:=sizeOf284,v210:=zeroValue284,t212:=underlying260,
 a212:=isAgg260,z212:=sizeOf260,v212:=zeroValue260,t213:=underlying261,a213:=isAgg261,z213:=sizeOf261,t232:=underlying303,a232:=isAgg303,z232:=sizeOf303,v232:=zeroValue303,t233:=underlying304,a233:=isAgg304,
 z233:=sizeOf304,v233:=zeroValue304,g15:=by kernel_rfl,g16:=by kernel_rfl,g17:=by kernel_rfl,g18:=by kernel_rfl,g19:=by kernel_rfl,t80:=underlying222,a80:=isAgg222,z80:=sizeOf222,v80:=zeroValue222,i0:=by kernel_rfl,
 i2:=by kernel_rfl,i3:=by kernel_rfl,i4:=by kernel_rfl,i5:=by kernel_rfl,i9:=by kernel_rfl,i20:=by kernel_rfl,i21:=by kernel_rfl,i37:=by kernel_rfl,i46:=by kernel_rfl,i51:=by kernel_rfl,i53:=by kernel_rfl,i75:=by kernel_rfl,
 i80:=by kernel_rfl,i85:=by kernel_rfl,i127:=by kernel_rfl,i143:=by kernel_rfl,i145:=by kernel_rfl,i167:=by kernel_rfl,i168:=by kernel_rfl,i171:=by kernel_rfl,i173:=by kernel_rfl,i175:=by kernel_rfl,i210:=by kernel_rfl,i212:=by kernel_rfl,
 i232:=by kernel_rfl,i233:=by kernel_rfl,m15:=by kernel_rfl,m16:=by kernel_rfl,m17:=by kernel_rfl,m18:=by kernel_rfl,m19:=by kernel_rfl,c0:=by kernel_rfl,c2:=by kernel_rfl,c3:=by kernel_rfl,c4:=by kernel_rfl,c5:=by kernel_rfl,
 c9:=by kernel_rfl,c20:=by kernel_rfl,c21:=by kernel_rfl,c37:=by kernel_rfl,c46:=by kernel_rfl,c51:=by kernel_rfl,c53:=by kernel_rfl,c75:=by kernel_rfl,c80:=by kernel_rfl,c85:=by kernel_rfl,c127:=by kernel_rfl,c143:=by kernel_rfl,
 c145:=by kernel_rfl,c167:=by kernel_rfl,c168:=by kernel_rfl,c171:=by kernel_rfl,c173:=by kernel_rfl,c175:=by kernel_rfl,c210:=by kernel_rfl,c212:=by kernel_rfl,c213:=by kernel_rfl,c232:=by kernel_rfl,c233:=by kernel_rfl}
open Go.RowKit in
theorem Tryz.strconv_ParseInt_10_at64_ok(s:ByteArray)(hmax:s.size≤9223372036854775806)(v:Int)(h:Lib.parseIntB 64 s.data.toList = .ok v)(w:World) :
    Calls prog 129 #[.string s,.int .i64 10,.int .i64 64] w fun e w'=>e = .returned (.tuple #[.int .i64 v,.nilIface])∧(w' = w∨∃t,w' = Lib.bytesWorld w 5 t):=Any.strconv_ParseInt_10_at64_ok laysC174 s hmax v h w
open Go.RowKit in
theorem Tryz.strconv_ParseInt_10_at64_range_var (s:ByteArray) (hlim:s.size≤281474976710656) (h:Lib.parseIntB 64 s.data.toList = .range) (tp:TypeId) (p:Value) (w:World) (hvar:w.var? prog "strconv.ErrRange" = some #[.iface tp p]) :
    Calls prog 129 #[.string s,.int .i64 10,.int .i64 64] w fun e w'=>∃N,e = .returned (.tuple #[.int .i64 (Lib.intSat 64 s.data.toList),.iface 255 (.pointer (some ⟨N,0,none⟩))])∧w.heap.size≤N∧w'.heap[N]? = some (.cells #[.string ⟨#[80,97,114,115,101,73,110,116]⟩,.string s,.iface tp p] 284 (0,0))∧Below w.heap.size w w':=Any.strconv_ParseInt_10_at64_range_var laysC174 s hlim h tp p w hvar
def Tryz.lays101_ren:Go.Shelf.Ren:=⟨fun|101=>133|208=>186|206=>208|n=>n,fun|9=>9|4=>4|3=>3|n=>n,fun|n=>n⟩
theorem Tryz.lays101:Go.Proofs.Lays.n101 prog lays101_ren:={
 mixed:=by kernel_rfl,f101:=tK_lay func133,f206:=tK_lay func208,f208:=tK_lay func186,t3:=underlying3,a3:=isAgg3,z3:=sizeOf3,v3:=zeroValue3,t4:=underlying4,a4:=isAgg4,z4:=sizeOf4,v4:=zeroValue4,
 t9:=underlying9,a9:=isAgg9,z9:=sizeOf9,v9:=zeroValue9}
open Go.RowKit Go.Lib in
theorem Tryz.strings_TrimPrefix(s p:ByteArray)(w:World) :
    Calls prog 133 #[.string s,.string p] w fun e w'=>e = .returned (.string ⟨(Lib.trimPrefix s.data.toList p.data.toList).toArray⟩)∧w' = w:=Any.strings_TrimPrefix lays101 s p w
def Tryz.lays105_ren:Go.Shelf.Ren:=⟨fun|105=>128|212=>172|99=>173|165=>174|166=>175|170=>176|169=>177|263=>206|264=>207|206=>208|240=>209|241=>210|276=>236|277=>237|n=>n,fun|9=>9|3=>3|4=>4|20=>20|0=>0|46=>154|109=>213|5=>5|72=>218|76=>220|51=>210|146=>247|53=>212|148=>249|70=>215|37=>216|75=>157|127=>251|164=>278|80=>222|n=>n,fun|n=>n⟩
theorem Tryz.lays105:Go.Proofs.Lays.n105 prog lays105_ren:={
 mixed:=by kernel_rfl,f99:=tK_lay func173,f105:=tK_lay func128,f165:=tK_lay func174,f166:=tK_lay func175,f169:=tK_lay func177,f170:=tK_lay func176,f206:=tK_lay func208,f212:=tK_lay func172,f240:=tK_lay func209,f241:=tK_lay func210,f263:=tK_lay func206,
 f264:=tK_lay func207,f276:=tK_lay func236,f277:=tK_lay func237,t0:=underlying0,a0:=isAgg0,z0:=sizeOf0,v0:=zeroValue0,t3:=underlying3,a3:=isAgg3,z3:=sizeOf3,v3:=zeroValue3,t4:=underlying4,
 a4:=isAgg4,z4:=sizeOf4,v4:=zeroValue4,t5:=underlying5,a5:=isAgg5,z5:=sizeOf5,v5:=zeroValue5,t9:=underlying9,a9:=isAgg9,z9:=sizeOf9,v9:=zeroValue9,t20:=underlying20,
 a20:=isAgg20,z20:=sizeOf20,v20:=zeroValue20,t37:=underlying216,a37:=isAgg216,z37:=sizeOf216,v37:=zeroValue216,t46:=underlying154,a46:=isAgg154,z46:=sizeOf154,v46:=zeroValue154,t51:=underlying210,
 a51:=isAgg210,z51:=sizeOf210,v51:=zeroValue210,t53:=underlying212,a53:=isAgg212,z53:=sizeOf212,v53:=zeroValue212,t70:=underlying215,a70:=isAgg215,z70:=sizeOf215,v70:=zeroValue215,t72:=underlying218,
 a72:=isAgg218,z72:=sizeOf218,v72:=zeroValue218,t75:=underlying157,a75:=isAgg157,z75:=sizeOf157,v75:=zeroValue157,t76:=underlying220,a76:=isAgg220,z76:=sizeOf220,v76:=zeroValue220,t109:=underlying213,
 a109:=isAgg213,z109:=sizeOf213,v109:=zeroValue213,t127:=underlying251,a127:=isAgg251,z127:=sizeOf251,v127:=zeroValue251,t146:=underlying247,a146:=isAgg247,z146:=sizeOf247,v146:=zeroValue247,t148:=underlying249,
 a148:=isAgg249,z148:=sizeOf249,v148:=zeroValue249,t164:=underlying278,a164:=isAgg278,z164:=sizeOf278,v164:=zeroValue278}
theorem Tryz.Builder_Extra_105:Builder.Extra prog lays105_ren:={
 sizeBuilder:=by kernel_rfl,liesBuilder:=by kernel_rfl,t5:=underlying5,a5:=isAgg5,z5:=sizeOf5,v5:=zeroValue5,infoByte:=by kernel_rfl,cellsByte:=by kernel_rfl,sizeByte:=by kernel_rfl,neB5:=by decide}
open Go.RowKit Go.Lib in
theorem Tryz.strings_Repeat(s:ByteArray)(c:Nat)(w:World)(hc:c≤9223372036854775807)(hlen:s.size * c≤140737488355328) :
    Calls prog 128 #[.string s,.int .i64 c] w fun e w'=>e = .returned (.string ⟨(Lib.repeatL s.data.toList c).toArray⟩)∧Below w.heap.size w w':=Any.strings_Repeat lays105 Builder_Extra_105 s c w hc hlen
def Tryz.lays197_ren:Go.Shelf.Ren:=⟨fun|197=>106|260=>142|n=>n,fun|9=>9|21=>21|3=>3|4=>4|5=>5|105=>134|119=>172|0=>0|46=>154|139=>175|138=>174|n=>n,fun|3=>0|4=>1|n=>n⟩
theorem Tryz.lays197:Go.Proofs.Lays.n197 prog lays197_ren:={
 mixed:=by kernel_rfl,f197:=tK_lay func106,f260:=tK_lay func142,t0:=underlying0,a0:=isAgg0,z0:=sizeOf0,v0:=zeroValue0,t3:=underlying3,a3:=isAgg3,z3:=sizeOf3,v3:=zeroValue3,t4:=underlying4,
 a4:=isAgg4,z4:=sizeOf4,v4:=zeroValue4,t5:=underlying5,a5:=isAgg5,z5:=sizeOf5,v5:=zeroValue5,t9:=underlying9,a9:=isAgg9,z9:=sizeOf9,v9:=zeroValue9,t21:=underlying21,
 a21:=isAgg21,z21:=sizeOf21,v21:=zeroValue21,t46:=underlying154,a46:=isAgg154,z46:=sizeOf154,v46:=zeroValue154,t105:=underlying134,a105:=isAgg134,z105:=sizeOf134,v105:=zeroValue134,t119:=underlying172,
 a119:=isAgg172,z119:=sizeOf172,t138:=underlying174,a138:=isAgg174,z138:=sizeOf174,v138:=zeroValue174,t139:=underlying175,a139:=isAgg175,z139:=sizeOf175,v139:=zeroValue175,g3:=by kernel_rfl,g4:=by kernel_rfl}
open Go.RowKit Go.Lib in
theorem Tryz.utf8_DecodeRuneInString(s:ByteArray)(w:World)(hT:Lib.Utf8Tabs 0 1 w) :
    Calls prog 106 #[.string s] w fun e w'=>e = .returned (.tuple #[.int .i32 (Lib.decodeGo s).1,.int .i64 (Lib.decodeGo s).2])∧Below w.heap.size w w':=Any.utf8_DecodeRuneInString lays197 s w hT
def Tryz.laysSlM5_f274_ren:Go.Shelf.Ren:=⟨fun|5=>274|8=>126|7=>278|19=>167|20=>168|10=>280|11=>281|12=>282|13=>283|14=>284|15=>285|16=>286|17=>287|18=>288|30=>290|31=>197|32=>198|33=>291|34=>292|35=>265|40=>293|n=>n,fun|23=>48|25=>3|3=>3|32=>154|22=>48|0=>0|44=>210|46=>212|4=>4|36=>203|35=>202|41=>107|5=>5|9=>9|53=>241|57=>245|63=>271|64=>272|n=>n,fun|n=>n⟩
theorem Tryz.laysSlM5_f274:Go.Proofs.SlLaysM.n5 prog laysSlM5_f274_ren:={
 mixed:=by kernel_rfl,f5:=⟨f274.name,by decide,tK_lay func274⟩,f7:=⟨f278.name,by decide,tK_lay func278⟩,f8:=tK_lay func126,f10:=⟨f280.name,by decide,tK_lay func280⟩,f11:=⟨f281.name,by decide,tK_lay func281⟩,f12:=⟨f282.name,by decide,tK_lay func282⟩,f13:=⟨f283.name,by decide,tK_lay func283⟩,f14:=⟨f284.name,by decide,tK_lay func284⟩,f15:=⟨f285.name,by decide,tK_lay func285⟩,f16:=⟨f286.name,by decide,tK_lay func286⟩,f17:=⟨f287.name,by decide,tK_lay func287⟩,
 f18:=⟨f288.name,by decide,tK_lay func288⟩,f19:=tK_lay func167,f20:=tK_lay func168,f30:=⟨f290.name,by decide,tK_lay func290⟩,f31:=tK_lay func197,f32:=tK_lay func198,f33:=⟨f291.name,by decide,tK_lay func291⟩,f34:=⟨f292.name,by decide,tK_lay func292⟩,f35:=⟨f265.name,by decide,tK_lay func265⟩,f40:=⟨f293.name,by decide,tK_lay func293⟩,t0:=underlying0,a0:=isAgg0,
 z0:=sizeOf0,v0:=zeroValue0,t3:=underlying3,a3:=isAgg3,z3:=sizeOf3,v3:=zeroValue3,t4:=underlying4,a4:=isAgg4,z4:=sizeOf4,v4:=zeroValue4,t5:=underlying5,a5:=isAgg5,
 z5:=sizeOf5,v5:=zeroValue5,t9:=underlying9,a9:=isAgg9,z9:=sizeOf9,v9:=zeroValue9,t22:=underlying48,a22:=isAgg48,z22:=sizeOf48,v22:=zeroValue48,t23:=underlying48,a23:=isAgg48,
 z23:=sizeOf48,v23:=zeroValue48,t25:=underlying3,a25:=isAgg3,z25:=sizeOf3,v25:=zeroValue3,t32:=underlying154,a32:=isAgg154,z32:=sizeOf154,v32:=zeroValue154,t35:=underlying202,a35:=isAgg202,
 z35:=sizeOf202,v35:=zeroValue202,t36:=underlying203,a36:=isAgg203,z36:=sizeOf203,v36:=zeroValue203,t41:=underlying107,a41:=isAgg107,z41:=sizeOf107,v41:=zeroValue107,t44:=underlying210,a44:=isAgg210,
 z44:=sizeOf210,v44:=zeroValue210,t46:=underlying212,a46:=isAgg212,z46:=sizeOf212,v46:=zeroValue212,t53:=underlying241,a53:=isAgg241,z53:=sizeOf241,v53:=zeroValue241,t57:=underlying245,a57:=isAgg245,
 z57:=sizeOf245,v57:=zeroValue245,t63:=underlying271,a63:=isAgg271,z63:=sizeOf271,v63:=zeroValue271,t64:=underlying272,a64:=isAgg272,z64:=sizeOf272,v64:=zeroValue272}
open Go.Sort Go.RowKit in
theorem Tryz.slices_Sort_int(blk off cap:Nat)(zs:List Int)(w:World)(hH:Holds (Value.int .i64) w blk off zs.toArray)(hblk:blk < w.heap.size)(hsz:zs.length < 4611686018427387904) :
    Calls prog 274 #[.slice (some ⟨blk,off,none⟩) zs.length cap] w fun e w' =>
      e = .returned (.tuple #[])∧∃n os,w' = grow (putRow (Value.int .i64) (Sort.ahead w n) blk off (zs.mergeSort fun x y=>decide (x≤y)).toArray) os:=AnyM.slices_Sort_int laysSlM5_f274 blk off cap zs w hH hblk hsz
open Go.RowKit Go.Sort in
theorem Tryz.slices_Sort_int_none(p:Option Addr)(cap:Nat)(w:World) :
    Calls prog 274 #[.slice p 0 cap] w fun e w'=>e = .returned (.tuple #[])∧w' = w:=AnyM.slices_Sort_int_none laysSlM5_f274 p cap w
end Go.Proofs
