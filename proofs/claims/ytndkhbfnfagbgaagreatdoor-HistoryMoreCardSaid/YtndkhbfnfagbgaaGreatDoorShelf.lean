/- A part of the proof. -/
import Derived.KernelRfl
import Derived.Shelf.Strings.Trim
import Derived.Shelf.Small.Strs
import Derived.Shelf.Small.Wraps
import Derived.Shelf.Utf8.AppendRunePlain
import Derived.Shelf.LaysM
import Derived.Shelf.Strconv.Itoa3
import Derived.Shelf.LaysC
import Derived.Shelf.Strconv.ParseIntPublic10
import Derived.Shelf.Strconv.ErrVarParseInt
import Derived.Shelf.Sort.Plain
import Derived.Shelf.Strings.Prefix
import Derived.Shelf.Strings.Repeat
import Derived.Shelf.Unicode.DecodeSlow
import Derived.Shelf.Unicode.DecodeAny
import Derived.Shelf.SortM.SortNone
import Derived.Test.YtndkhbfnfagbgaaGreatDoorProg
set_option linter.all false
namespace Go.Proofs
open Tryz
open Go.Shelf
theorem tK_lay{α:Type _}{x:Option α}{a b:α}(h:x=some a)(e:a=b:=by kernel_rfl):x=some b:=h.trans (congrArg some e)
def Tryz.lays161_ren:Go.Shelf.Ren:=⟨fun|161=>93|231=>134|227=>135|233=>136|235=>137|228=>178|197=>109|151=>179|260=>150|152=>208|137=>176|119=>231|224=>232|225=>233|217=>207|266=>230|n=>n,fun|9=>9|4=>4|3=>3|5=>5|117=>179|116=>178|0=>0|124=>182|105=>150|21=>21|119=>192|46=>105|139=>195|138=>194|n=>n,fun|3=>0|4=>1|n=>n⟩
theorem Tryz.lays161:Go.Proofs.Lays.n161 prog lays161_ren:={
 mixed:=by kernel_rfl,f119:=tK_lay func231,f137:=tK_lay func176,f151:=tK_lay func179,f152:=tK_lay func208,f161:=tK_lay func93,f197:=tK_lay func109,f217:=tK_lay func207,f224:=tK_lay func232,f225:=tK_lay func233,f227:=tK_lay func135,f228:=tK_lay func178,
 f231:=tK_lay func134,f233:=tK_lay func136,f235:=tK_lay func137,f260:=tK_lay func150,f266:=tK_lay func230,t0:=underlying0,a0:=isAgg0,z0:=sizeOf0,v0:=zeroValue0,t3:=underlying3,a3:=isAgg3,z3:=sizeOf3,
 v3:=zeroValue3,t4:=underlying4,a4:=isAgg4,z4:=sizeOf4,v4:=zeroValue4,t5:=underlying5,a5:=isAgg5,z5:=sizeOf5,v5:=zeroValue5,t9:=underlying9,a9:=isAgg9,z9:=sizeOf9,
 v9:=zeroValue9,t21:=underlying21,a21:=isAgg21,z21:=sizeOf21,v21:=zeroValue21,t46:=underlying105,a46:=isAgg105,z46:=sizeOf105,v46:=zeroValue105,t105:=underlying150,a105:=isAgg150,z105:=sizeOf150,
 v105:=zeroValue150,t116:=underlying178,a116:=isAgg178,z116:=sizeOf178,t117:=underlying179,a117:=isAgg179,z117:=sizeOf179,v117:=zeroValue179,t119:=underlying192,a119:=isAgg192,z119:=sizeOf192,t124:=underlying182,
 a124:=isAgg182,z124:=sizeOf182,v124:=zeroValue182,t138:=underlying194,a138:=isAgg194,z138:=sizeOf194,v138:=zeroValue194,t139:=underlying195,a139:=isAgg195,z139:=sizeOf195,v139:=zeroValue195,g3:=by kernel_rfl,
 g4:=by kernel_rfl}
open Go.RowKit in
theorem Tryz.strings_TrimLeft_one(s:ByteArray)(c:UInt8)(hc:c.toNat < 128)(w:World) :
    Calls prog 93 #[.string s,.string ⟨#[c]⟩] w fun e w'=>e = .returned (.string ⟨(Lib.trimLeftB s.data.toList c).toArray⟩)∧w' = w:=Any.strings_TrimLeft_one lays161 s c hc w
def Tryz.lays162_ren:Go.Shelf.Ren:=⟨fun|162=>94|232=>138|227=>135|234=>139|236=>140|228=>178|271=>180|151=>179|120=>209|197=>109|152=>208|260=>150|137=>176|119=>231|224=>232|225=>233|217=>207|266=>230|n=>n,fun|9=>9|4=>4|3=>3|5=>5|117=>179|116=>178|0=>0|124=>182|21=>21|105=>150|46=>105|119=>192|139=>195|138=>194|n=>n,fun|3=>0|4=>1|n=>n⟩
theorem Tryz.lays162:Go.Proofs.Lays.n162 prog lays162_ren:={
 mixed:=by kernel_rfl,f119:=tK_lay func231,f120:=tK_lay func209,f137:=tK_lay func176,f151:=tK_lay func179,f152:=tK_lay func208,f162:=tK_lay func94,f197:=tK_lay func109,f217:=tK_lay func207,f224:=tK_lay func232,f225:=tK_lay func233,f227:=tK_lay func135,
 f228:=tK_lay func178,f232:=tK_lay func138,f234:=tK_lay func139,f236:=tK_lay func140,f260:=tK_lay func150,f266:=tK_lay func230,f271:=tK_lay func180,t0:=underlying0,a0:=isAgg0,z0:=sizeOf0,v0:=zeroValue0,t3:=underlying3,
 a3:=isAgg3,z3:=sizeOf3,v3:=zeroValue3,t4:=underlying4,a4:=isAgg4,z4:=sizeOf4,v4:=zeroValue4,t5:=underlying5,a5:=isAgg5,z5:=sizeOf5,v5:=zeroValue5,t9:=underlying9,
 a9:=isAgg9,z9:=sizeOf9,v9:=zeroValue9,t21:=underlying21,a21:=isAgg21,z21:=sizeOf21,v21:=zeroValue21,t46:=underlying105,a46:=isAgg105,z46:=sizeOf105,v46:=zeroValue105,t105:=underlying150,
 a105:=isAgg150,z105:=sizeOf150,v105:=zeroValue150,t116:=underlying178,a116:=isAgg178,z116:=sizeOf178,t117:=underlying179,a117:=isAgg179,z117:=sizeOf179,v117:=zeroValue179,t119:=underlying192,a119:=isAgg192,
 z119:=sizeOf192,t124:=underlying182,a124:=isAgg182,z124:=sizeOf182,v124:=zeroValue182,t138:=underlying194,a138:=isAgg194,z138:=sizeOf194,v138:=zeroValue194,t139:=underlying195,a139:=isAgg195,z139:=sizeOf195,
 v139:=zeroValue195,g3:=by kernel_rfl,g4:=by kernel_rfl}
open Go.RowKit in
theorem Tryz.strings_TrimRight_one(s:ByteArray)(c:UInt8)(hc:c.toNat < 128)(w:World)(hs:s.size≤9223372036854775807) :
    Calls prog 94 #[.string s,.string ⟨#[c]⟩] w fun e w'=>e = .returned (.string ⟨(Lib.trimRightB s.data.toList c).toArray⟩)∧w' = w:=Any.strings_TrimRight_one lays162 s c hc w hs
def Tryz.lays137_ren:Go.Shelf.Ren:=⟨fun|137=>176|217=>207|266=>230|n=>n,fun|9=>9|5=>5|3=>3|n=>n,fun|n=>n⟩
theorem Tryz.lays137:Go.Proofs.Lays.n137 prog lays137_ren:={
 mixed:=by kernel_rfl,f137:=tK_lay func176,f217:=tK_lay func207,f266:=tK_lay func230,t3:=underlying3,a3:=isAgg3,z3:=sizeOf3,v3:=zeroValue3,t5:=underlying5,a5:=isAgg5,z5:=sizeOf5,v5:=zeroValue5,
 t9:=underlying9,a9:=isAgg9,z9:=sizeOf9,v9:=zeroValue9}
open Go.RowKit in
theorem Tryz.strings_IndexByte(s:ByteArray)(c:Int)(w:World) :
    Calls prog 176 #[.string s,.int .u8 c] w fun e w'=>e = .returned (.int .i64 (Lib.indexByte s.data.toList c.toNat.toUInt8))∧w' = w:=Any.strings_IndexByte lays137 s c w
def Tryz.lays103_ren:Go.Shelf.Ren:=⟨fun|103=>131|210=>175|206=>206|n=>n,fun|9=>9|4=>4|24=>117|3=>3|n=>n,fun|n=>n⟩
theorem Tryz.lays103:Go.Proofs.Lays.n103 prog lays103_ren:={
 mixed:=by kernel_rfl,f103:=tK_lay func131,f206:=tK_lay func206,f210:=tK_lay func175,t3:=underlying3,a3:=isAgg3,z3:=sizeOf3,v3:=zeroValue3,t4:=underlying4,a4:=isAgg4,z4:=sizeOf4,v4:=zeroValue4,
 t9:=underlying9,a9:=isAgg9,z9:=sizeOf9,v9:=zeroValue9,t24:=underlying117,a24:=isAgg117,z24:=sizeOf117,v24:=zeroValue117}
open Go.RowKit in
theorem Tryz.strings_CutPrefix(s p:ByteArray)(w:World) :
    Calls prog 131 #[.string s,.string p] w fun e w'=>e = .returned (.tuple #[.string ⟨(Lib.trimPrefix s.data.toList p.data.toList).toArray⟩,.bool (Lib.hasPrefix s.data.toList p.data.toList)])∧w' = w:=Any.strings_CutPrefix lays103 s p w
def Tryz.lays242_ren:Go.Shelf.Ren:=⟨fun|242=>284|278=>285|n=>n,fun|37=>234|21=>21|51=>147|4=>4|5=>5|46=>105|n=>n,fun|n=>n⟩
theorem Tryz.lays242:Go.Proofs.Lays.n242 prog lays242_ren:={
 mixed:=by kernel_rfl,f242:=tK_lay func284,f278:=tK_lay func285,t4:=underlying4,a4:=isAgg4,z4:=sizeOf4,v4:=zeroValue4,t5:=underlying5,a5:=isAgg5,z5:=sizeOf5,v5:=zeroValue5,t21:=underlying21,
 a21:=isAgg21,z21:=sizeOf21,v21:=zeroValue21,t37:=underlying234,a37:=isAgg234,z37:=sizeOf234,v37:=zeroValue234,t46:=underlying105,a46:=isAgg105,z46:=sizeOf105,v46:=zeroValue105,t51:=underlying147,
 a51:=isAgg147,z51:=sizeOf147,v51:=zeroValue147}
open Go.RowKit in
theorem Tryz.utf8_AppendRune_plain(B:Nat)(v:Value)(n:Nat)(xs:List Value)(r:Int)(hr0:-2147483648≤r)(hr1:r≤2147483647)(w:World)(hown:w.ownsRow B 5 1 v n xs)(hlen:n + 4≤140737488355328)(hBw:B≤w.heap.size) :
    Calls prog 284 #[v,.int .i32 r] w fun e w'=>∃v',e = .returned v'∧w'.ownsRow B 5 1 v' (n + (Lib.runeCells r).length) (xs ++ Lib.runeCells r)∧∃o,(w.alloc o).grownBy w' v.ownBlock:=Any.utf8_AppendRune_plain lays242 (by kernel_rfl) B v n xs r hr0 hr1 w hown hlen hBw
def Tryz.laysM171_ren:Go.Shelf.Ren:=⟨fun|171=>59|243=>91|246=>130|283=>171|284=>172|285=>173|286=>174|129=>107|317=>202|318=>203|319=>204|320=>205|337=>228|338=>229|n=>n,fun|3=>3|9=>9|2=>2|4=>4|171=>232|0=>0|53=>149|37=>234|5=>5|173=>235|212=>270|51=>147|20=>20|213=>271|46=>105|232=>321|233=>322|n=>n,fun|17=>2|18=>5|19=>6|n=>n⟩
theorem Tryz.laysM171:Go.Proofs.LaysM.n171 prog laysM171_ren:={
 mixed:=by kernel_rfl,f129:=tK_lay func107,f171:=tK_lay func59,f243:=tK_lay func91,f246:=tK_lay func130,f283:=tK_lay func171,f284:=tK_lay func172,f285:=tK_lay func173,f286:=tK_lay func174,f317:=tK_lay func202,f318:=tK_lay func203,f319:=tK_lay func204,
 f320:=tK_lay func205,f337:=tK_lay func228,f338:=tK_lay func229,t0:=underlying0,a0:=isAgg0,z0:=sizeOf0,v0:=zeroValue0,t2:=underlying2,a2:=isAgg2,z2:=sizeOf2,v2:=zeroValue2,t3:=underlying3,
 a3:=isAgg3,z3:=sizeOf3,v3:=zeroValue3,t4:=underlying4,a4:=isAgg4,z4:=sizeOf4,v4:=zeroValue4,t5:=underlying5,a5:=isAgg5,z5:=sizeOf5,v5:=zeroValue5,t9:=underlying9,
 a9:=isAgg9,z9:=sizeOf9,v9:=zeroValue9,t20:=underlying20,a20:=isAgg20,z20:=sizeOf20,v20:=zeroValue20,t37:=underlying234,a37:=isAgg234,z37:=sizeOf234,v37:=zeroValue234,t46:=underlying105,
 a46:=isAgg105,z46:=sizeOf105,v46:=zeroValue105,t51:=underlying147,a51:=isAgg147,z51:=sizeOf147,v51:=zeroValue147,t53:=underlying149,a53:=isAgg149,z53:=sizeOf149,v53:=zeroValue149,t171:=underlying232,
 a171:=isAgg232,z171:=sizeOf232,v171:=zeroValue232,t173:=underlying235,a173:=isAgg235,z173:=sizeOf235,v173:=zeroValue235,t212:=underlying270,a212:=isAgg270,z212:=sizeOf270,v212:=zeroValue270,t213:=underlying271,
 a213:=isAgg271,z213:=sizeOf271,t232:=underlying321,a232:=isAgg321,z232:=sizeOf321,v232:=zeroValue321,t233:=underlying322,a233:=isAgg322,z233:=sizeOf322,v233:=zeroValue322,g17:=by kernel_rfl,g18:=by kernel_rfl,
 g19:=by kernel_rfl,i0:=by kernel_rfl,i2:=by kernel_rfl,i3:=by kernel_rfl,i4:=by kernel_rfl,i5:=by kernel_rfl,i9:=by kernel_rfl,i20:=by kernel_rfl,i37:=by kernel_rfl,i46:=by kernel_rfl,i51:=by kernel_rfl,i53:=by kernel_rfl,
 i171:=by kernel_rfl,i173:=by kernel_rfl,i212:=by kernel_rfl,i232:=by kernel_rfl,i233:=by kernel_rfl,m17:=by kernel_rfl,m18:=by kernel_rfl,m19:=by kernel_rfl}
open Go.RowKit Go.Sort Go.Lib in
theorem Tryz.strconv_Itoa (n:Int) (h0:-9223372036854775808≤n) (h1:n≤9223372036854775807) (w:World) (htab:Lib.TabIs prog w "internal/strconv.uint64pow10" .u64 Lib.pow10Tab) :
    Calls prog 59 #[.int .i64 n] w fun e w'=>e = .returned (.string ⟨(Lib.itoa n).toArray⟩)∧∃k os,w' = grow (w.drewN k) os:=Any.strconv_Itoa laysM171 n h0 h1 w htab
def Tryz.laysC174_ren:Go.Shelf.Ren:=⟨fun|174=>170|247=>200|245=>201|287=>223|279=>224|280=>225|281=>226|282=>227|321=>258|322=>259|316=>260|171=>59|205=>261|243=>91|246=>130|283=>171|284=>172|285=>173|286=>174|129=>107|317=>202|318=>203|319=>204|320=>205|337=>228|338=>229|n=>n,fun|9=>9|3=>3|2=>2|75=>229|85=>230|4=>4|167=>288|5=>5|53=>149|175=>289|46=>105|168=>291|37=>234|0=>0|210=>319|21=>21|127=>287|145=>339|143=>337|171=>232|173=>235|212=>270|51=>147|20=>20|213=>271|232=>321|233=>322|80=>266|n=>n,fun|15=>3|16=>4|17=>2|18=>5|19=>6|n=>n⟩
theorem Tryz.laysC174:Go.Proofs.LaysC.n174 prog laysC174_ren:={
 mixed:=by kernel_rfl,f129:=tK_lay func107,f171:=tK_lay func59,f174:=tK_lay func170,f205:=tK_lay func261,f243:=tK_lay func91,f245:=tK_lay func201,f246:=tK_lay func130,f247:=tK_lay func200,f279:=tK_lay func224,f280:=tK_lay func225,f281:=tK_lay func226,
 f282:=tK_lay func227,f283:=tK_lay func171,f284:=tK_lay func172,f285:=tK_lay func173,f286:=tK_lay func174,f287:=tK_lay func223,f316:=tK_lay func260,f317:=tK_lay func202,f318:=tK_lay func203,f319:=tK_lay func204,f320:=tK_lay func205,f321:=tK_lay func258,
 f322:=tK_lay func259,f337:=tK_lay func228,f338:=tK_lay func229,t0:=underlying0,a0:=isAgg0,z0:=sizeOf0,v0:=zeroValue0,t2:=underlying2,a2:=isAgg2,z2:=sizeOf2,v2:=zeroValue2,t3:=underlying3,
 a3:=isAgg3,z3:=sizeOf3,v3:=zeroValue3,t4:=underlying4,a4:=isAgg4,z4:=sizeOf4,v4:=zeroValue4,t5:=underlying5,a5:=isAgg5,z5:=sizeOf5,v5:=zeroValue5,t9:=underlying9,
 a9:=isAgg9,z9:=sizeOf9,v9:=zeroValue9,t20:=underlying20,a20:=isAgg20,z20:=sizeOf20,v20:=zeroValue20,t21:=underlying21,a21:=isAgg21,z21:=sizeOf21,v21:=zeroValue21,t37:=underlying234,
 a37:=isAgg234,z37:=sizeOf234,v37:=zeroValue234,t46:=underlying105,a46:=isAgg105,z46:=sizeOf105,v46:=zeroValue105,t51:=underlying147,a51:=isAgg147,z51:=sizeOf147,v51:=zeroValue147,t53:=underlying149,
 a53:=isAgg149,z53:=sizeOf149,v53:=zeroValue149,t75:=underlying229,a75:=isAgg229,z75:=sizeOf229,v75:=zeroValue229,t85:=underlying230,a85:=isAgg230,z85:=sizeOf230,v85:=zeroValue230,t127:=underlying287,
 a127:=isAgg287,z127:=sizeOf287,v127:=zeroValue287,t143:=underlying337,a143:=isAgg337,z143:=sizeOf337,v143:=zeroValue337,t145:=underlying339,a145:=isAgg339,z145:=sizeOf339,v145:=zeroValue339,t167:=underlying288,
 a167:=isAgg288,z167:=sizeOf288,v167:=zeroValue288,t168:=underlying291,a168:=isAgg291,z168:=sizeOf291,v168:=zeroValue291,t171:=underlying232,a171:=isAgg232,z171:=sizeOf232,v171:=zeroValue232,t173:=underlying235,
 a173:=isAgg235,z173:=sizeOf235,v173:=zeroValue235,t175:=underlying289,a175:=isAgg289,z175:=sizeOf289,v175:=zeroValue289,t210:=underlying319,a210:=isAgg319,z210:=sizeOf319,v210:=zeroValue319,t212:=underlying270,
 a212:=isAgg270,z212:=sizeOf270,v212:=zeroValue270,t213:=underlying271,a213:=isAgg271,z213:=sizeOf271,t232:=underlying321,a232:=isAgg321,z232:=sizeOf321,v232:=zeroValue321,t233:=underlying322,a233:=isAgg322,
 z233:=sizeOf322,v233:=zeroValue322,g15:=by kernel_rfl,g16:=by kernel_rfl,g17:=by kernel_rfl,g18:=by kernel_rfl,g19:=by kernel_rfl,t80:=underlying266,a80:=isAgg266,z80:=sizeOf266,v80:=zeroValue266,i0:=by kernel_rfl,
 i2:=by kernel_rfl,i3:=by kernel_rfl,i4:=by kernel_rfl,i5:=by kernel_rfl,i9:=by kernel_rfl,i20:=by kernel_rfl,i21:=by kernel_rfl,i37:=by kernel_rfl,i46:=by kernel_rfl,i51:=by kernel_rfl,i53:=by kernel_rfl,i75:=by kernel_rfl,
 i80:=by kernel_rfl,i85:=by kernel_rfl,i127:=by kernel_rfl,i143:=by kernel_rfl,i145:=by kernel_rfl,i167:=by kernel_rfl,i168:=by kernel_rfl,i171:=by kernel_rfl,i173:=by kernel_rfl,i175:=by kernel_rfl,i210:=by kernel_rfl,i212:=by kernel_rfl,
 i232:=by kernel_rfl,i233:=by kernel_rfl,m15:=by kernel_rfl,m16:=by kernel_rfl,m17:=by kernel_rfl,m18:=by kernel_rfl,m19:=by kernel_rfl,c0:=by kernel_rfl,c2:=by kernel_rfl,c3:=by kernel_rfl,c4:=by kernel_rfl,c5:=by kernel_rfl,
 c9:=by kernel_rfl,c20:=by kernel_rfl,c21:=by kernel_rfl,c37:=by kernel_rfl,c46:=by kernel_rfl,c51:=by kernel_rfl,c53:=by kernel_rfl,c75:=by kernel_rfl,c80:=by kernel_rfl,c85:=by kernel_rfl,c127:=by kernel_rfl,c143:=by kernel_rfl,
 c145:=by kernel_rfl,c167:=by kernel_rfl,c168:=by kernel_rfl,c171:=by kernel_rfl,c173:=by kernel_rfl,c175:=by kernel_rfl,c210:=by kernel_rfl,c212:=by kernel_rfl,c213:=by kernel_rfl,c232:=by kernel_rfl,c233:=by kernel_rfl}
open Go.RowKit in
theorem Tryz.strconv_ParseInt_10_at64_ok(s:ByteArray)(hmax:s.size≤9223372036854775806)(v:Int)(h:Lib.parseIntB 64 s.data.toList = .ok v)(w:World) :
    Calls prog 170 #[.string s,.int .i64 10,.int .i64 64] w fun e w'=>e = .returned (.tuple #[.int .i64 v,.nilIface])∧(w' = w∨∃t,w' = Lib.bytesWorld w 5 t):=Any.strconv_ParseInt_10_at64_ok laysC174 s hmax v h w
open Go.RowKit in
theorem Tryz.strconv_ParseInt_10_at64_range_var (s:ByteArray) (hlim:s.size≤281474976710656) (h:Lib.parseIntB 64 s.data.toList = .range) (tp:TypeId) (p:Value) (w:World) (hvar:w.var? prog "strconv.ErrRange" = some #[.iface tp p]) :
    Calls prog 170 #[.string s,.int .i64 10,.int .i64 64] w fun e w'=>∃N,e = .returned (.tuple #[.int .i64 (Lib.intSat 64 s.data.toList),.iface 291 (.pointer (some ⟨N,0,none⟩))])∧w.heap.size≤N∧w'.heap[N]? = some (.cells #[.string ⟨#[80,97,114,115,101,73,110,116]⟩,.string s,.iface tp p] 319 (0,0))∧Below w.heap.size w w':=Any.strconv_ParseInt_10_at64_range_var laysC174 s hlim h tp p w hvar
def Tryz.lays189_ren:Go.Shelf.Ren:=⟨fun|189=>42|125=>67|257=>66|128=>106|129=>107|294=>97|295=>98|296=>99|297=>100|298=>101|299=>102|216=>103|300=>104|301=>105|328=>143|329=>144|330=>145|331=>146|332=>147|215=>148|343=>185|n=>n,fun|28=>23|3=>3|46=>105|0=>0|51=>147|53=>149|4=>4|183=>140|182=>139|131=>108|5=>5|9=>9|218=>185|222=>189|228=>244|229=>245|n=>n,fun|n=>n⟩
theorem Tryz.lays189:Go.Proofs.Lays.n189 prog lays189_ren:={
 mixed:=by kernel_rfl,f125:=tK_lay func67,f128:=tK_lay func106,f129:=tK_lay func107,f189:=tK_lay func42,f215:=tK_lay func148,f216:=tK_lay func103,f257:=tK_lay func66,f294:=tK_lay func97,f295:=tK_lay func98,f296:=tK_lay func99,f297:=tK_lay func100,
 f298:=tK_lay func101,f299:=tK_lay func102,f300:=tK_lay func104,f301:=tK_lay func105,f328:=tK_lay func143,f329:=tK_lay func144,f330:=tK_lay func145,f331:=tK_lay func146,f332:=tK_lay func147,f343:=tK_lay func185,t0:=underlying0,a0:=isAgg0,
 z0:=sizeOf0,v0:=zeroValue0,t3:=underlying3,a3:=isAgg3,z3:=sizeOf3,v3:=zeroValue3,t4:=underlying4,a4:=isAgg4,z4:=sizeOf4,v4:=zeroValue4,t5:=underlying5,a5:=isAgg5,
 z5:=sizeOf5,v5:=zeroValue5,t9:=underlying9,a9:=isAgg9,z9:=sizeOf9,v9:=zeroValue9,t28:=underlying23,a28:=isAgg23,z28:=sizeOf23,v28:=zeroValue23,t46:=underlying105,a46:=isAgg105,
 z46:=sizeOf105,v46:=zeroValue105,t51:=underlying147,a51:=isAgg147,z51:=sizeOf147,v51:=zeroValue147,t53:=underlying149,a53:=isAgg149,z53:=sizeOf149,v53:=zeroValue149,t131:=underlying108,a131:=isAgg108,
 z131:=sizeOf108,v131:=zeroValue108,t182:=underlying139,a182:=isAgg139,z182:=sizeOf139,v182:=zeroValue139,t183:=underlying140,a183:=isAgg140,z183:=sizeOf140,v183:=zeroValue140,t218:=underlying185,a218:=isAgg185,
 z218:=sizeOf185,v218:=zeroValue185,t222:=underlying189,a222:=isAgg189,z222:=sizeOf189,v222:=zeroValue189,t228:=underlying244,a228:=isAgg244,z228:=sizeOf244,v228:=zeroValue244,t229:=underlying245,a229:=isAgg245,
 z229:=sizeOf245,v229:=zeroValue245}
open Go.Sort Go.RowKit in
theorem Tryz.slices_Sort_int(blk off cap:Nat)(zs:List Int)(w:World)(hH:Holds (Value.int .i64) w blk off zs.toArray)(hblk:blk < w.heap.size)(hsz:zs.length < 4611686018427387904) :
    Calls prog 42 #[.slice (some ⟨blk,off,none⟩) zs.length cap] w fun e w' =>
      e = .returned (.tuple #[])∧∃n os,w' = grow (putRow (Value.int .i64) (Sort.ahead w n) blk off (zs.mergeSort fun x y=>decide (x≤y)).toArray) os:=Any.slices_Sort_int lays189 blk off cap zs w hH hblk hsz
def Tryz.lays101_ren:Go.Shelf.Ren:=⟨fun|101=>133|208=>177|206=>206|n=>n,fun|9=>9|4=>4|3=>3|n=>n,fun|n=>n⟩
theorem Tryz.lays101:Go.Proofs.Lays.n101 prog lays101_ren:={
 mixed:=by kernel_rfl,f101:=tK_lay func133,f206:=tK_lay func206,f208:=tK_lay func177,t3:=underlying3,a3:=isAgg3,z3:=sizeOf3,v3:=zeroValue3,t4:=underlying4,a4:=isAgg4,z4:=sizeOf4,v4:=zeroValue4,
 t9:=underlying9,a9:=isAgg9,z9:=sizeOf9,v9:=zeroValue9}
open Go.RowKit Go.Lib in
theorem Tryz.strings_TrimPrefix(s p:ByteArray)(w:World) :
    Calls prog 133 #[.string s,.string p] w fun e w'=>e = .returned (.string ⟨(Lib.trimPrefix s.data.toList p.data.toList).toArray⟩)∧w' = w:=Any.strings_TrimPrefix lays101 s p w
def Tryz.lays197_ren:Go.Shelf.Ren:=⟨fun|197=>109|260=>150|n=>n,fun|9=>9|21=>21|3=>3|4=>4|5=>5|105=>150|119=>192|0=>0|46=>105|139=>195|138=>194|n=>n,fun|3=>0|4=>1|n=>n⟩
theorem Tryz.lays197:Go.Proofs.Lays.n197 prog lays197_ren:={
 mixed:=by kernel_rfl,f197:=tK_lay func109,f260:=tK_lay func150,t0:=underlying0,a0:=isAgg0,z0:=sizeOf0,v0:=zeroValue0,t3:=underlying3,a3:=isAgg3,z3:=sizeOf3,v3:=zeroValue3,t4:=underlying4,
 a4:=isAgg4,z4:=sizeOf4,v4:=zeroValue4,t5:=underlying5,a5:=isAgg5,z5:=sizeOf5,v5:=zeroValue5,t9:=underlying9,a9:=isAgg9,z9:=sizeOf9,v9:=zeroValue9,t21:=underlying21,
 a21:=isAgg21,z21:=sizeOf21,v21:=zeroValue21,t46:=underlying105,a46:=isAgg105,z46:=sizeOf105,v46:=zeroValue105,t105:=underlying150,a105:=isAgg150,z105:=sizeOf150,v105:=zeroValue150,t119:=underlying192,
 a119:=isAgg192,z119:=sizeOf192,t138:=underlying194,a138:=isAgg194,z138:=sizeOf194,v138:=zeroValue194,t139:=underlying195,a139:=isAgg195,z139:=sizeOf195,v139:=zeroValue195,g3:=by kernel_rfl,g4:=by kernel_rfl}
def Tryz.lays105_ren:Go.Shelf.Ren:=⟨fun|105=>169|212=>194|99=>195|165=>196|166=>197|170=>198|169=>199|263=>219|264=>220|206=>206|240=>221|241=>222|276=>256|277=>257|n=>n,fun|9=>9|3=>3|4=>4|20=>20|0=>0|46=>105|109=>258|5=>5|72=>263|76=>264|51=>147|146=>283|53=>149|148=>285|70=>261|37=>234|75=>229|127=>287|164=>313|80=>266|n=>n,fun|n=>n⟩
theorem Tryz.lays105:Go.Proofs.Lays.n105 prog lays105_ren:={
 mixed:=by kernel_rfl,f99:=tK_lay func195,f105:=tK_lay func169,f165:=tK_lay func196,f166:=tK_lay func197,f169:=tK_lay func199,f170:=tK_lay func198,f206:=tK_lay func206,f212:=tK_lay func194,f240:=tK_lay func221,f241:=tK_lay func222,f263:=tK_lay func219,
 f264:=tK_lay func220,f276:=tK_lay func256,f277:=tK_lay func257,t0:=underlying0,a0:=isAgg0,z0:=sizeOf0,v0:=zeroValue0,t3:=underlying3,a3:=isAgg3,z3:=sizeOf3,v3:=zeroValue3,t4:=underlying4,
 a4:=isAgg4,z4:=sizeOf4,v4:=zeroValue4,t5:=underlying5,a5:=isAgg5,z5:=sizeOf5,v5:=zeroValue5,t9:=underlying9,a9:=isAgg9,z9:=sizeOf9,v9:=zeroValue9,t20:=underlying20,
 a20:=isAgg20,z20:=sizeOf20,v20:=zeroValue20,t37:=underlying234,a37:=isAgg234,z37:=sizeOf234,v37:=zeroValue234,t46:=underlying105,a46:=isAgg105,z46:=sizeOf105,v46:=zeroValue105,t51:=underlying147,
 a51:=isAgg147,z51:=sizeOf147,v51:=zeroValue147,t53:=underlying149,a53:=isAgg149,z53:=sizeOf149,v53:=zeroValue149,t70:=underlying261,a70:=isAgg261,z70:=sizeOf261,v70:=zeroValue261,t72:=underlying263,
 a72:=isAgg263,z72:=sizeOf263,v72:=zeroValue263,t75:=underlying229,a75:=isAgg229,z75:=sizeOf229,v75:=zeroValue229,t76:=underlying264,a76:=isAgg264,z76:=sizeOf264,v76:=zeroValue264,t109:=underlying258,
 a109:=isAgg258,z109:=sizeOf258,v109:=zeroValue258,t127:=underlying287,a127:=isAgg287,z127:=sizeOf287,v127:=zeroValue287,t146:=underlying283,a146:=isAgg283,z146:=sizeOf283,v146:=zeroValue283,t148:=underlying285,
 a148:=isAgg285,z148:=sizeOf285,v148:=zeroValue285,t164:=underlying313,a164:=isAgg313,z164:=sizeOf313,v164:=zeroValue313}
theorem Tryz.Builder_Extra_105:Builder.Extra prog lays105_ren:={
 sizeBuilder:=by kernel_rfl,liesBuilder:=by kernel_rfl,t5:=underlying5,a5:=isAgg5,z5:=sizeOf5,v5:=zeroValue5,infoByte:=by kernel_rfl,cellsByte:=by kernel_rfl,sizeByte:=by kernel_rfl,neB5:=by decide}
open Go.RowKit Go.Lib in
theorem Tryz.strings_Repeat(s:ByteArray)(c:Nat)(w:World)(hc:c≤9223372036854775807)(hlen:s.size * c≤140737488355328) :
    Calls prog 169 #[.string s,.int .i64 c] w fun e w'=>e = .returned (.string ⟨(Lib.repeatL s.data.toList c).toArray⟩)∧Below w.heap.size w w':=Any.strings_Repeat lays105 Builder_Extra_105 s c w hc hlen
open Go.RowKit Go.Lib in
theorem Tryz.utf8_DecodeRuneInString(s:ByteArray)(w:World)(hT:Lib.Utf8Tabs 0 1 w) :
    Calls prog 109 #[.string s] w fun e w'=>e = .returned (.tuple #[.int .i32 (Lib.decodeGo s).1,.int .i64 (Lib.decodeGo s).2])∧Below w.heap.size w w':=Any.utf8_DecodeRuneInString lays197 s w hT
def Tryz.laysSlM5_f42_ren:Go.Shelf.Ren:=⟨fun|5=>42|8=>67|7=>66|19=>106|20=>107|10=>97|11=>98|12=>99|13=>100|14=>101|15=>102|16=>103|17=>104|18=>105|30=>143|31=>144|32=>145|33=>146|34=>147|35=>148|40=>185|n=>n,fun|23=>23|25=>3|3=>3|32=>105|22=>23|0=>0|44=>147|46=>149|4=>4|36=>140|35=>139|41=>108|5=>5|9=>9|53=>185|57=>189|63=>244|64=>245|n=>n,fun|n=>n⟩
theorem Tryz.laysSlM5_f42:Go.Proofs.SlLaysM.n5 prog laysSlM5_f42_ren:={
 mixed:=by kernel_rfl,f5:=⟨f42.name,by decide,tK_lay func42⟩,f7:=⟨f66.name,by decide,tK_lay func66⟩,f8:=tK_lay func67,f10:=⟨f97.name,by decide,tK_lay func97⟩,f11:=⟨f98.name,by decide,tK_lay func98⟩,f12:=⟨f99.name,by decide,tK_lay func99⟩,f13:=⟨f100.name,by decide,tK_lay func100⟩,f14:=⟨f101.name,by decide,tK_lay func101⟩,f15:=⟨f102.name,by decide,tK_lay func102⟩,f16:=⟨f103.name,by decide,tK_lay func103⟩,f17:=⟨f104.name,by decide,tK_lay func104⟩,
 f18:=⟨f105.name,by decide,tK_lay func105⟩,f19:=tK_lay func106,f20:=tK_lay func107,f30:=⟨f143.name,by decide,tK_lay func143⟩,f31:=tK_lay func144,f32:=tK_lay func145,f33:=⟨f146.name,by decide,tK_lay func146⟩,f34:=⟨f147.name,by decide,tK_lay func147⟩,f35:=⟨f148.name,by decide,tK_lay func148⟩,f40:=⟨f185.name,by decide,tK_lay func185⟩,t0:=underlying0,a0:=isAgg0,
 z0:=sizeOf0,v0:=zeroValue0,t3:=underlying3,a3:=isAgg3,z3:=sizeOf3,v3:=zeroValue3,t4:=underlying4,a4:=isAgg4,z4:=sizeOf4,v4:=zeroValue4,t5:=underlying5,a5:=isAgg5,
 z5:=sizeOf5,v5:=zeroValue5,t9:=underlying9,a9:=isAgg9,z9:=sizeOf9,v9:=zeroValue9,t22:=underlying23,a22:=isAgg23,z22:=sizeOf23,v22:=zeroValue23,t23:=underlying23,a23:=isAgg23,
 z23:=sizeOf23,v23:=zeroValue23,t25:=underlying3,a25:=isAgg3,z25:=sizeOf3,v25:=zeroValue3,t32:=underlying105,a32:=isAgg105,z32:=sizeOf105,v32:=zeroValue105,t35:=underlying139,a35:=isAgg139,
 z35:=sizeOf139,v35:=zeroValue139,t36:=underlying140,a36:=isAgg140,z36:=sizeOf140,v36:=zeroValue140,t41:=underlying108,a41:=isAgg108,z41:=sizeOf108,v41:=zeroValue108,t44:=underlying147,a44:=isAgg147,
 z44:=sizeOf147,v44:=zeroValue147,t46:=underlying149,a46:=isAgg149,z46:=sizeOf149,v46:=zeroValue149,t53:=underlying185,a53:=isAgg185,z53:=sizeOf185,v53:=zeroValue185,t57:=underlying189,a57:=isAgg189,
 z57:=sizeOf189,v57:=zeroValue189,t63:=underlying244,a63:=isAgg244,z63:=sizeOf244,v63:=zeroValue244,t64:=underlying245,a64:=isAgg245,z64:=sizeOf245,v64:=zeroValue245}
open Go.RowKit Go.Sort in
theorem Tryz.slices_Sort_int_none(p:Option Addr)(cap:Nat)(w:World) :
    Calls prog 42 #[.slice p 0 cap] w fun e w'=>e = .returned (.tuple #[])∧w' = w:=AnyM.slices_Sort_int_none laysSlM5_f42 p cap w
end Go.Proofs
