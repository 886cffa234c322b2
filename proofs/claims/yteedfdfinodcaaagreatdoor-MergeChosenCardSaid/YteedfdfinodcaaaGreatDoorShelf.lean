/- A part of the proof. -/
import Derived.KernelRfl
import Derived.Shelf.Strings.Trim
import Derived.Shelf.Small.Strs
import Derived.Shelf.Small.Wraps
import Derived.Shelf.Utf8.AppendRunePlain
import Derived.Shelf.LaysM
import Derived.Shelf.Strconv.Itoa3
import Derived.Shelf.LaysC
import Derived.Shelf.Strconv.ParseIntPublic10
import Derived.Shelf.Strconv.ErrVarParseInt
import Derived.Shelf.Sort.Plain
import Derived.Shelf.Strings.Prefix
import Derived.Shelf.Strings.Repeat
import Derived.Shelf.Unicode.DecodeSlow
import Derived.Shelf.Unicode.DecodeAny
import Derived.Shelf.SortM.Plain
import Derived.Shelf.SortM.SortNone
import Derived.Test.YteedfdfinodcaaaGreatDoorProg
set_option linter.all false
namespace Go.Proofs
open Tryz
open Go.Shelf
theorem tK_lay{α:Type _}{x:Option α}{a b:α}(h:x=some a)(e:a=b:=by kernel_rfl):x=some b:=h.trans (congrArg some e)
def Tryz.lays161_ren:Go.Shelf.Ren:=⟨fun|161=>92|231=>121|227=>122|233=>123|235=>124|228=>165|197=>95|151=>166|260=>129|152=>196|137=>163|119=>223|224=>224|225=>225|217=>195|266=>222|n=>n,fun|9=>9|4=>4|3=>3|5=>5|117=>155|116=>154|0=>0|124=>158|105=>126|21=>21|119=>160|46=>164|139=>163|138=>162|n=>n,fun|3=>0|4=>1|n=>n⟩
theorem Tryz.lays161:Go.Proofs.Lays.n161 prog lays161_ren:={
 mixed:=by kernel_rfl,f119:=tK_lay func223,f137:=tK_lay func163,f151:=tK_lay func166,f152:=tK_lay func196,f161:=tK_lay func92,f197:=tK_lay func95,f217:=tK_lay func195,f224:=tK_lay func224,f225:=tK_lay func225,f227:=tK_lay func122,f228:=tK_lay func165,
 f231:=tK_lay func121,f233:=tK_lay func123,f235:=tK_lay func124,f260:=tK_lay func129,f266:=tK_lay func222,t0:=underlying0,a0:=isAgg0,z0:=sizeOf0,v0:=zeroValue0,t3:=underlying3,a3:=isAgg3,z3:=sizeOf3,
 v3:=zeroValue3,t4:=underlying4,a4:=isAgg4,z4:=sizeOf4,v4:=zeroValue4,t5:=underlying5,a5:=isAgg5,z5:=sizeOf5,v5:=zeroValue5,t9:=underlying9,a9:=isAgg9,z9:=sizeOf9,
 v9:=zeroValue9,t21:=underlying21,a21:=isAgg21,z21:=sizeOf21,v21:=zeroValue21,t46:=underlying164,a46:=isAgg164,z46:=sizeOf164,v46:=zeroValue164,t105:=underlying126,a105:=isAgg126,z105:=sizeOf126,
 v105:=zeroValue126,t116:=underlying154,a116:=isAgg154,z116:=sizeOf154,t117:=underlying155,a117:=isAgg155,z117:=sizeOf155,v117:=zeroValue155,t119:=underlying160,a119:=isAgg160,z119:=sizeOf160,t124:=underlying158,
 a124:=isAgg158,z124:=sizeOf158,v124:=zeroValue158,t138:=underlying162,a138:=isAgg162,z138:=sizeOf162,v138:=zeroValue162,t139:=underlying163,a139:=isAgg163,z139:=sizeOf163,v139:=zeroValue163,g3:=by kernel_rfl,
 g4:=by kernel_rfl}
open Go.RowKit in
theorem Tryz.strings_TrimLeft_one(s:ByteArray)(c:UInt8)(hc:c.toNat < 128)(w:World) :
    Calls prog 92 #[.string s,.string ⟨#[c]⟩] w fun e w'=>e = .returned (.string ⟨(Lib.trimLeftB s.data.toList c).toArray⟩)∧w' = w:=Any.strings_TrimLeft_one lays161 s c hc w
def Tryz.lays162_ren:Go.Shelf.Ren:=⟨fun|162=>93|232=>125|227=>122|234=>126|236=>127|228=>165|271=>167|151=>166|120=>197|197=>95|152=>196|260=>129|137=>163|119=>223|224=>224|225=>225|217=>195|266=>222|n=>n,fun|9=>9|4=>4|3=>3|5=>5|117=>155|116=>154|0=>0|124=>158|21=>21|105=>126|46=>164|119=>160|139=>163|138=>162|n=>n,fun|3=>0|4=>1|n=>n⟩
theorem Tryz.lays162:Go.Proofs.Lays.n162 prog lays162_ren:={
 mixed:=by kernel_rfl,f119:=tK_lay func223,f120:=tK_lay func197,f137:=tK_lay func163,f151:=tK_lay func166,f152:=tK_lay func196,f162:=tK_lay func93,f197:=tK_lay func95,f217:=tK_lay func195,f224:=tK_lay func224,f225:=tK_lay func225,f227:=tK_lay func122,
 f228:=tK_lay func165,f232:=tK_lay func125,f234:=tK_lay func126,f236:=tK_lay func127,f260:=tK_lay func129,f266:=tK_lay func222,f271:=tK_lay func167,t0:=underlying0,a0:=isAgg0,z0:=sizeOf0,v0:=zeroValue0,t3:=underlying3,
 a3:=isAgg3,z3:=sizeOf3,v3:=zeroValue3,t4:=underlying4,a4:=isAgg4,z4:=sizeOf4,v4:=zeroValue4,t5:=underlying5,a5:=isAgg5,z5:=sizeOf5,v5:=zeroValue5,t9:=underlying9,
 a9:=isAgg9,z9:=sizeOf9,v9:=zeroValue9,t21:=underlying21,a21:=isAgg21,z21:=sizeOf21,v21:=zeroValue21,t46:=underlying164,a46:=isAgg164,z46:=sizeOf164,v46:=zeroValue164,t105:=underlying126,
 a105:=isAgg126,z105:=sizeOf126,v105:=zeroValue126,t116:=underlying154,a116:=isAgg154,z116:=sizeOf154,t117:=underlying155,a117:=isAgg155,z117:=sizeOf155,v117:=zeroValue155,t119:=underlying160,a119:=isAgg160,
 z119:=sizeOf160,t124:=underlying158,a124:=isAgg158,z124:=sizeOf158,v124:=zeroValue158,t138:=underlying162,a138:=isAgg162,z138:=sizeOf162,v138:=zeroValue162,t139:=underlying163,a139:=isAgg163,z139:=sizeOf163,
 v139:=zeroValue163,g3:=by kernel_rfl,g4:=by kernel_rfl}
open Go.RowKit in
theorem Tryz.strings_TrimRight_one(s:ByteArray)(c:UInt8)(hc:c.toNat < 128)(w:World)(hs:s.size≤9223372036854775807) :
    Calls prog 93 #[.string s,.string ⟨#[c]⟩] w fun e w'=>e = .returned (.string ⟨(Lib.trimRightB s.data.toList c).toArray⟩)∧w' = w:=Any.strings_TrimRight_one lays162 s c hc w hs
def Tryz.lays137_ren:Go.Shelf.Ren:=⟨fun|137=>163|217=>195|266=>222|n=>n,fun|9=>9|5=>5|3=>3|n=>n,fun|n=>n⟩
theorem Tryz.lays137:Go.Proofs.Lays.n137 prog lays137_ren:={
 mixed:=by kernel_rfl,f137:=tK_lay func163,f217:=tK_lay func195,f266:=tK_lay func222,t3:=underlying3,a3:=isAgg3,z3:=sizeOf3,v3:=zeroValue3,t5:=underlying5,a5:=isAgg5,z5:=sizeOf5,v5:=zeroValue5,
 t9:=underlying9,a9:=isAgg9,z9:=sizeOf9,v9:=zeroValue9}
open Go.RowKit in
theorem Tryz.strings_IndexByte(s:ByteArray)(c:Int)(w:World) :
    Calls prog 163 #[.string s,.int .u8 c] w fun e w'=>e = .returned (.int .i64 (Lib.indexByte s.data.toList c.toNat.toUInt8))∧w' = w:=Any.strings_IndexByte lays137 s c w
def Tryz.lays103_ren:Go.Shelf.Ren:=⟨fun|103=>118|210=>162|206=>182|n=>n,fun|9=>9|4=>4|24=>106|3=>3|n=>n,fun|n=>n⟩
theorem Tryz.lays103:Go.Proofs.Lays.n103 prog lays103_ren:={
 mixed:=by kernel_rfl,f103:=tK_lay func118,f206:=tK_lay func182,f210:=tK_lay func162,t3:=underlying3,a3:=isAgg3,z3:=sizeOf3,v3:=zeroValue3,t4:=underlying4,a4:=isAgg4,z4:=sizeOf4,v4:=zeroValue4,
 t9:=underlying9,a9:=isAgg9,z9:=sizeOf9,v9:=zeroValue9,t24:=underlying106,a24:=isAgg106,z24:=sizeOf106,v24:=zeroValue106}
open Go.RowKit in
theorem Tryz.strings_CutPrefix(s p:ByteArray)(w:World) :
    Calls prog 118 #[.string s,.string p] w fun e w'=>e = .returned (.tuple #[.string ⟨(Lib.trimPrefix s.data.toList p.data.toList).toArray⟩,.bool (Lib.hasPrefix s.data.toList p.data.toList)])∧w' = w:=Any.strings_CutPrefix lays103 s p w
def Tryz.lays122_ren:Go.Shelf.Ren:=⟨fun|122=>228|215=>255|n=>n,fun|3=>3|4=>4|n=>n,fun|n=>n⟩
theorem Tryz.lays122:Go.Proofs.Lays.n122 prog lays122_ren:={
 mixed:=by kernel_rfl,f122:=tK_lay func228,f215:=tK_lay func255,t3:=underlying3,a3:=isAgg3,z3:=sizeOf3,v3:=zeroValue3,t4:=underlying4,a4:=isAgg4,z4:=sizeOf4,v4:=zeroValue4}
open Go.RowKit in
theorem Tryz.cmp_Compare_int(x y:Int)(w:World) :
    Calls prog 228 #[.int .i64 x,.int .i64 y] w fun e w'=>e = .returned (.int .i64 (Lib.compareInt x y))∧w' = w:=Any.cmp_Compare_int lays122 x y w
def Tryz.lays242_ren:Go.Shelf.Ren:=⟨fun|242=>277|278=>287|n=>n,fun|37=>198|21=>21|51=>226|4=>4|5=>5|46=>164|n=>n,fun|n=>n⟩
theorem Tryz.lays242:Go.Proofs.Lays.n242 prog lays242_ren:={
 mixed:=by kernel_rfl,f242:=tK_lay func277,f278:=tK_lay func287,t4:=underlying4,a4:=isAgg4,z4:=sizeOf4,v4:=zeroValue4,t5:=underlying5,a5:=isAgg5,z5:=sizeOf5,v5:=zeroValue5,t21:=underlying21,
 a21:=isAgg21,z21:=sizeOf21,v21:=zeroValue21,t37:=underlying198,a37:=isAgg198,z37:=sizeOf198,v37:=zeroValue198,t46:=underlying164,a46:=isAgg164,z46:=sizeOf164,v46:=zeroValue164,t51:=underlying226,
 a51:=isAgg226,z51:=sizeOf226,v51:=zeroValue226}
open Go.RowKit in
theorem Tryz.utf8_AppendRune_plain(B:Nat)(v:Value)(n:Nat)(xs:List Value)(r:Int)(hr0:-2147483648≤r)(hr1:r≤2147483647)(w:World)(hown:w.ownsRow B 5 1 v n xs)(hlen:n + 4≤140737488355328)(hBw:B≤w.heap.size) :
    Calls prog 277 #[v,.int .i32 r] w fun e w'=>∃v',e = .returned v'∧w'.ownsRow B 5 1 v' (n + (Lib.runeCells r).length) (xs ++ Lib.runeCells r)∧∃o,(w.alloc o).grownBy w' v.ownBlock:=Any.utf8_AppendRune_plain lays242 (by kernel_rfl) B v n xs r hr0 hr1 w hown hlen hBw
def Tryz.laysM171_ren:Go.Shelf.Ren:=⟨fun|171=>66|243=>90|246=>117|283=>158|284=>159|285=>160|286=>161|129=>191|317=>190|318=>192|319=>193|320=>194|337=>220|338=>221|n=>n,fun|3=>3|9=>9|2=>2|4=>4|171=>206|0=>0|53=>207|37=>198|5=>5|173=>210|212=>240|51=>226|20=>20|213=>241|46=>164|232=>292|233=>293|n=>n,fun|17=>2|18=>6|19=>7|n=>n⟩
theorem Tryz.laysM171:Go.Proofs.LaysM.n171 prog laysM171_ren:={
 mixed:=by kernel_rfl,f129:=tK_lay func191,f171:=tK_lay func66,f243:=tK_lay func90,f246:=tK_lay func117,f283:=tK_lay func158,f284:=tK_lay func159,f285:=tK_lay func160,f286:=tK_lay func161,f317:=tK_lay func190,f318:=tK_lay func192,f319:=tK_lay func193,
 f320:=tK_lay func194,f337:=tK_lay func220,f338:=tK_lay func221,t0:=underlying0,a0:=isAgg0,z0:=sizeOf0,v0:=zeroValue0,t2:=underlying2,a2:=isAgg2,z2:=sizeOf2,v2:=zeroValue2,t3:=underlying3,
 a3:=isAgg3,z3:=sizeOf3,v3:=zeroValue3,t4:=underlying4,a4:=isAgg4,z4:=sizeOf4,v4:=zeroValue4,t5:=underlying5,a5:=isAgg5,z5:=sizeOf5,v5:=zeroValue5,t9:=underlying9,
 a9:=isAgg9,z9:=sizeOf9,v9:=zeroValue9,t20:=underlying20,a20:=isAgg20,z20:=sizeOf20,v20:=zeroValue20,t37:=underlying198,a37:=isAgg198,z37:=sizeOf198,v37:=zeroValue198,t46:=underlying164,
 a46:=isAgg164,z46:=sizeOf164,v46:=zeroValue164,t51:=underlying226,a51:=isAgg226,z51:=sizeOf226,v51:=zeroValue226,t53:=underlying207,a53:=isAgg207,z53:=sizeOf207,v53:=zeroValue207,t171:=underlying206,
 a171:=isAgg206,z171:=sizeOf206,v171:=zeroValue206,t173:=underlying210,a173:=isAgg210,z173:=sizeOf210,v173:=zeroValue210,t212:=underlying240,a212:=isAgg240,z212:=sizeOf240,v212:=zeroValue240,t213:=underlying241,
 a213:=isAgg241,z213:=sizeOf241,t232:=underlying292,a232:=isAgg292,z232:=sizeOf292,v232:=zeroValue292,t233:=underlying293,a233:=isAgg293,z233:=sizeOf293,v233:=zeroValue293,g17:=by kernel_rfl,g18:=by kernel_rfl,
 g19:=by kernel_rfl,i0:=by kernel_rfl,i2:=by kernel_rfl,i3:=by kernel_rfl,i4:=by kernel_rfl,i5:=by kernel_rfl,i9:=by kernel_rfl,i20:=by kernel_rfl,i37:=by kernel_rfl,i46:=by kernel_rfl,i51:=by kernel_rfl,i53:=by kernel_rfl,
 i171:=by kernel_rfl,i173:=by kernel_rfl,i212:=by kernel_rfl,i232:=by kernel_rfl,i233:=by kernel_rfl,m17:=by kernel_rfl,m18:=by kernel_rfl,m19:=by kernel_rfl}
open Go.RowKit Go.Sort Go.Lib in
theorem Tryz.strconv_Itoa (n:Int) (h0:-9223372036854775808≤n) (h1:n≤9223372036854775807) (w:World) (htab:Lib.TabIs prog w "internal/strconv.uint64pow10" .u64 Lib.pow10Tab) :
    Calls prog 66 #[.int .i64 n] w fun e w'=>e = .returned (.string ⟨(Lib.itoa n).toArray⟩)∧∃k os,w' = grow (w.drewN k) os:=Any.strconv_Itoa laysM171 n h0 h1 w htab
def Tryz.laysC174_ren:Go.Shelf.Ren:=⟨fun|174=>116|247=>156|245=>157|287=>185|279=>186|280=>187|281=>188|282=>189|321=>216|322=>217|316=>218|171=>66|205=>219|243=>90|246=>117|283=>158|284=>159|285=>160|286=>161|129=>191|317=>190|318=>192|319=>193|320=>194|337=>220|338=>221|n=>n,fun|9=>9|3=>3|2=>2|75=>145|85=>146|4=>4|167=>232|5=>5|53=>207|175=>233|46=>164|168=>235|37=>198|0=>0|210=>264|21=>21|127=>231|145=>291|143=>289|171=>206|173=>210|212=>240|51=>226|20=>20|213=>241|232=>292|233=>293|80=>204|n=>n,fun|15=>3|16=>4|17=>2|18=>6|19=>7|n=>n⟩
theorem Tryz.laysC174:Go.Proofs.LaysC.n174 prog laysC174_ren:={
 mixed:=by kernel_rfl,f129:=tK_lay func191,f171:=tK_lay func66,f174:=tK_lay func116,f205:=tK_lay func219,f243:=tK_lay func90,f245:=tK_lay func157,f246:=tK_lay func117,f247:=tK_lay func156,f279:=tK_lay func186,f280:=tK_lay func187,f281:=tK_lay func188,
 f282:=tK_lay func189,f283:=tK_lay func158,f284:=tK_lay func159,f285:=tK_lay func160,f286:=tK_lay func161,f287:=tK_lay func185,f316:=tK_lay func218,f317:=tK_lay func190,f318:=tK_lay func192,f319:=tK_lay func193,f320:=tK_lay func194,f321:=tK_lay func216,
 f322:=tK_lay func217,f337:=tK_lay func220,f338:=tK_lay func221,t0:=underlying0,a0:=isAgg0,z0:=sizeOf0,v0:=zeroValue0,t2:=underlying2,a2:=isAgg2,z2:=sizeOf2,v2:=zeroValue2,t3:=underlying3,
 a3:=isAgg3,z3:=sizeOf3,v3:=zeroValue3,t4:=underlying4,a4:=isAgg4,z4:=sizeOf4,v4:=zeroValue4,t5:=underlying5,a5:=isAgg5,z5:=sizeOf5,v5:=zeroValue5,t9:=underlying9,
 a9:=isAgg9,z9:=sizeOf9,v9:=zeroValue9,t20:=underlying20,a20:=isAgg20,z20:=sizeOf20,v20:=zeroValue20,t21:=underlying21,a21:=isAgg21,z21:=sizeOf21,v21:=zeroValue21,t37:=underlying198,
 a37:=isAgg198,z37:=sizeOf198,v37:=zeroValue198,t46:=underlying164,a46:=isAgg164,z46:=sizeOf164,v46:=zeroValue164,t51:=underlying226,a51:=isAgg226,z51:=sizeOf226,v51:=zeroValue226,t53:=underlying207,
 a53:=isAgg207,z53:=sizeOf207,v53:=zeroValue207,t75:=underlying145,a75:=isAgg145,z75:=sizeOf145,v75:=zeroValue145,t85:=underlying146,a85:=isAgg146,z85:=sizeOf146,v85:=zeroValue146,t127:=underlying231,
 a127:=isAgg231,z127:=sizeOf231,v127:=zeroValue231,t143:=underlying289,a143:=isAgg289,z143:=sizeOf289,v143:=zeroValue289,t145:=underlying291,a145:=isAgg291,z145:=sizeOf291,v145:=zeroValue291,t167:=underlying232,
 a167:=isAgg232,z167:=sizeOf232,v167:=zeroValue232,t168:=underlying235,a168:=isAgg235,z168:=sizeOf235,v168:=zeroValue235,t171:=underlying206,a171:=isAgg206,z171:=sizeOf206,v171:=zeroValue206,t173:=underlying210,
 a173:=isAgg210,z173:=sizeOf210,v173:=zeroValue210,t175:=underlying233,a175:=isAgg233,z175:=sizeOf233,v175:=zeroValue233,t210:=underlying264,a210:=isAgg264,z210:=sizeOf264,v210:=zeroValue264,t212:=underlying240,
 a212:=isAgg240,z212:=sizeOf240,v212:=zeroValue240,t213:=underlying241,a213:=isAgg241,z213:=sizeOf241,t232:=underlying292,a232:=isAgg292,z232:=sizeOf292,v232:=zeroValue292,t233:=underlying293,a233:=isAgg293,
 z233:=sizeOf293,v233:=zeroValue293,g15:=by kernel_rfl,g16:=by kernel_rfl,g17:=by kernel_rfl,g18:=by kernel_rfl,g19:=by kernel_rfl,t80:=underlying204,a80:=isAgg204,z80:=sizeOf204,v80:=zeroValue204,i0:=by kernel_rfl,
 i2:=by kernel_rfl,i3:=by kernel_rfl,i4:=by kernel_rfl,i5:=by kernel_rfl,i9:=by kernel_rfl,i20:=by kernel_rfl,i21:=by kernel_rfl,i37:=by kernel_rfl,i46:=by kernel_rfl,i51:=by kernel_rfl,i53:=by kernel_rfl,i75:=by kernel_rfl,
 i80:=by kernel_rfl,i85:=by kernel_rfl,i127:=by kernel_rfl,i143:=by kernel_rfl,i145:=by kernel_rfl,i167:=by kernel_rfl,i168:=by kernel_rfl,i171:=by kernel_rfl,i173:=by kernel_rfl,i175:=by kernel_rfl,i210:=by kernel_rfl,i212:=by kernel_rfl,
 i232:=by kernel_rfl,i233:=by kernel_rfl,m15:=by kernel_rfl,m16:=by kernel_rfl,m17:=by kernel_rfl,m18:=by kernel_rfl,m19:=by kernel_rfl,c0:=by kernel_rfl,c2:=by kernel_rfl,c3:=by kernel_rfl,c4:=by kernel_rfl,c5:=by kernel_rfl,
 c9:=by kernel_rfl,c20:=by kernel_rfl,c21:=by kernel_rfl,c37:=by kernel_rfl,c46:=by kernel_rfl,c51:=by kernel_rfl,c53:=by kernel_rfl,c75:=by kernel_rfl,c80:=by kernel_rfl,c85:=by kernel_rfl,c127:=by kernel_rfl,c143:=by kernel_rfl,
 c145:=by kernel_rfl,c167:=by kernel_rfl,c168:=by kernel_rfl,c171:=by kernel_rfl,c173:=by kernel_rfl,c175:=by kernel_rfl,c210:=by kernel_rfl,c212:=by kernel_rfl,c213:=by kernel_rfl,c232:=by kernel_rfl,c233:=by kernel_rfl}
open Go.RowKit in
theorem Tryz.strconv_ParseInt_10_at64_ok(s:ByteArray)(hmax:s.size≤9223372036854775806)(v:Int)(h:Lib.parseIntB 64 s.data.toList = .ok v)(w:World) :
    Calls prog 116 #[.string s,.int .i64 10,.int .i64 64] w fun e w'=>e = .returned (.tuple #[.int .i64 v,.nilIface])∧(w' = w∨∃t,w' = Lib.bytesWorld w 5 t):=Any.strconv_ParseInt_10_at64_ok laysC174 s hmax v h w
open Go.RowKit in
theorem Tryz.strconv_ParseInt_10_at64_range_var (s:ByteArray) (hlim:s.size≤281474976710656) (h:Lib.parseIntB 64 s.data.toList = .range) (tp:TypeId) (p:Value) (w:World) (hvar:w.var? prog "strconv.ErrRange" = some #[.iface tp p]) :
    Calls prog 116 #[.string s,.int .i64 10,.int .i64 64] w fun e w'=>∃N,e = .returned (.tuple #[.int .i64 (Lib.intSat 64 s.data.toList),.iface 235 (.pointer (some ⟨N,0,none⟩))])∧w.heap.size≤N∧w'.heap[N]? = some (.cells #[.string ⟨#[80,97,114,115,101,73,110,116]⟩,.string s,.iface tp p] 264 (0,0))∧Below w.heap.size w w':=Any.strconv_ParseInt_10_at64_range_var laysC174 s hlim h tp p w hvar
def Tryz.lays101_ren:Go.Shelf.Ren:=⟨fun|101=>120|208=>164|206=>182|n=>n,fun|9=>9|4=>4|3=>3|n=>n,fun|n=>n⟩
theorem Tryz.lays101:Go.Proofs.Lays.n101 prog lays101_ren:={
 mixed:=by kernel_rfl,f101:=tK_lay func120,f206:=tK_lay func182,f208:=tK_lay func164,t3:=underlying3,a3:=isAgg3,z3:=sizeOf3,v3:=zeroValue3,t4:=underlying4,a4:=isAgg4,z4:=sizeOf4,v4:=zeroValue4,
 t9:=underlying9,a9:=isAgg9,z9:=sizeOf9,v9:=zeroValue9}
open Go.RowKit Go.Lib in
theorem Tryz.strings_TrimPrefix(s p:ByteArray)(w:World) :
    Calls prog 120 #[.string s,.string p] w fun e w'=>e = .returned (.string ⟨(Lib.trimPrefix s.data.toList p.data.toList).toArray⟩)∧w' = w:=Any.strings_TrimPrefix lays101 s p w
def Tryz.lays197_ren:Go.Shelf.Ren:=⟨fun|197=>95|260=>129|n=>n,fun|9=>9|21=>21|3=>3|4=>4|5=>5|105=>126|119=>160|0=>0|46=>164|139=>163|138=>162|n=>n,fun|3=>0|4=>1|n=>n⟩
theorem Tryz.lays197:Go.Proofs.Lays.n197 prog lays197_ren:={
 mixed:=by kernel_rfl,f197:=tK_lay func95,f260:=tK_lay func129,t0:=underlying0,a0:=isAgg0,z0:=sizeOf0,v0:=zeroValue0,t3:=underlying3,a3:=isAgg3,z3:=sizeOf3,v3:=zeroValue3,t4:=underlying4,
 a4:=isAgg4,z4:=sizeOf4,v4:=zeroValue4,t5:=underlying5,a5:=isAgg5,z5:=sizeOf5,v5:=zeroValue5,t9:=underlying9,a9:=isAgg9,z9:=sizeOf9,v9:=zeroValue9,t21:=underlying21,
 a21:=isAgg21,z21:=sizeOf21,v21:=zeroValue21,t46:=underlying164,a46:=isAgg164,z46:=sizeOf164,v46:=zeroValue164,t105:=underlying126,a105:=isAgg126,z105:=sizeOf126,v105:=zeroValue126,t119:=underlying160,
 a119:=isAgg160,z119:=sizeOf160,t138:=underlying162,a138:=isAgg162,z138:=sizeOf162,v138:=zeroValue162,t139:=underlying163,a139:=isAgg163,z139:=sizeOf163,v139:=zeroValue163,g3:=by kernel_rfl,g4:=by kernel_rfl}
def Tryz.lays105_ren:Go.Shelf.Ren:=⟨fun|105=>115|212=>150|99=>151|165=>152|166=>153|170=>154|169=>155|263=>180|264=>181|206=>182|240=>183|241=>184|276=>214|277=>215|n=>n,fun|9=>9|3=>3|4=>4|20=>20|0=>0|46=>164|109=>194|5=>5|72=>200|76=>202|51=>226|146=>227|53=>207|148=>229|70=>197|37=>198|75=>145|127=>231|164=>258|80=>204|n=>n,fun|n=>n⟩
theorem Tryz.lays105:Go.Proofs.Lays.n105 prog lays105_ren:={
 mixed:=by kernel_rfl,f99:=tK_lay func151,f105:=tK_lay func115,f165:=tK_lay func152,f166:=tK_lay func153,f169:=tK_lay func155,f170:=tK_lay func154,f206:=tK_lay func182,f212:=tK_lay func150,f240:=tK_lay func183,f241:=tK_lay func184,f263:=tK_lay func180,
 f264:=tK_lay func181,f276:=tK_lay func214,f277:=tK_lay func215,t0:=underlying0,a0:=isAgg0,z0:=sizeOf0,v0:=zeroValue0,t3:=underlying3,a3:=isAgg3,z3:=sizeOf3,v3:=zeroValue3,t4:=underlying4,
 a4:=isAgg4,z4:=sizeOf4,v4:=zeroValue4,t5:=underlying5,a5:=isAgg5,z5:=sizeOf5,v5:=zeroValue5,t9:=underlying9,a9:=isAgg9,z9:=sizeOf9,v9:=zeroValue9,t20:=underlying20,
 a20:=isAgg20,z20:=sizeOf20,v20:=zeroValue20,t37:=underlying198,a37:=isAgg198,z37:=sizeOf198,v37:=zeroValue198,t46:=underlying164,a46:=isAgg164,z46:=sizeOf164,v46:=zeroValue164,t51:=underlying226,
 a51:=isAgg226,z51:=sizeOf226,v51:=zeroValue226,t53:=underlying207,a53:=isAgg207,z53:=sizeOf207,v53:=zeroValue207,t70:=underlying197,a70:=isAgg197,z70:=sizeOf197,v70:=zeroValue197,t72:=underlying200,
 a72:=isAgg200,z72:=sizeOf200,v72:=zeroValue200,t75:=underlying145,a75:=isAgg145,z75:=sizeOf145,v75:=zeroValue145,t76:=underlying202,a76:=isAgg202,z76:=sizeOf202,v76:=zeroValue202,t109:=underlying194,
 a109:=isAgg194,z109:=sizeOf194,v109:=zeroValue194,t127:=underlying231,a127:=isAgg231,z127:=sizeOf231,v127:=zeroValue231,t146:=underlying227,a146:=isAgg227,z146:=sizeOf227,v146:=zeroValue227,t148:=underlying229,
 a148:=isAgg229,z148:=sizeOf229,v148:=zeroValue229,t164:=underlying258,a164:=isAgg258,z164:=sizeOf258,v164:=zeroValue258}
theorem Tryz.Builder_Extra_105:Builder.Extra prog lays105_ren:={
 sizeBuilder:=by kernel_rfl,liesBuilder:=by kernel_rfl,t5:=underlying5,a5:=isAgg5,z5:=sizeOf5,v5:=zeroValue5,infoByte:=by kernel_rfl,cellsByte:=by kernel_rfl,sizeByte:=by kernel_rfl,neB5:=by decide}
open Go.RowKit Go.Lib in
theorem Tryz.strings_Repeat(s:ByteArray)(c:Nat)(w:World)(hc:c≤9223372036854775807)(hlen:s.size * c≤140737488355328) :
    Calls prog 115 #[.string s,.int .i64 c] w fun e w'=>e = .returned (.string ⟨(Lib.repeatL s.data.toList c).toArray⟩)∧Below w.heap.size w w':=Any.strings_Repeat lays105 Builder_Extra_105 s c w hc hlen
open Go.RowKit Go.Lib in
theorem Tryz.utf8_DecodeRuneInString(s:ByteArray)(w:World)(hT:Lib.Utf8Tabs 0 1 w) :
    Calls prog 95 #[.string s] w fun e w'=>e = .returned (.tuple #[.int .i32 (Lib.decodeGo s).1,.int .i64 (Lib.decodeGo s).2])∧Below w.heap.size w w':=Any.utf8_DecodeRuneInString lays197 s w hT
def Tryz.laysSlM6_f172_ren:Go.Shelf.Ren:=⟨fun|6=>172|8=>204|9=>203|19=>238|20=>191|21=>229|22=>230|23=>231|24=>232|25=>233|26=>234|27=>235|28=>236|29=>237|36=>256|31=>257|32=>258|37=>259|38=>260|39=>261|41=>270|n=>n,fun|27=>22|29=>9|3=>3|32=>164|26=>22|0=>0|44=>226|46=>207|4=>4|36=>273|35=>272|41=>96|5=>5|9=>9|53=>299|57=>285|63=>313|64=>314|n=>n,fun|n=>n⟩
theorem Tryz.laysSlM6_f172:Go.Proofs.SlLaysM.n6 prog laysSlM6_f172_ren:={
 mixed:=by kernel_rfl,f6:=⟨f172.name,by decide,tK_lay func172⟩,f8:=tK_lay func204,f9:=⟨f203.name,by decide,tK_lay func203⟩,f19:=tK_lay func238,f20:=tK_lay func191,f21:=⟨f229.name,by decide,tK_lay func229⟩,f22:=⟨f230.name,by decide,tK_lay func230⟩,f23:=⟨f231.name,by decide,tK_lay func231⟩,f24:=⟨f232.name,by decide,tK_lay func232⟩,f25:=⟨f233.name,by decide,tK_lay func233⟩,f26:=⟨f234.name,by decide,tK_lay func234⟩,
 f27:=⟨f235.name,by decide,tK_lay func235⟩,f28:=⟨f236.name,by decide,tK_lay func236⟩,f29:=⟨f237.name,by decide,tK_lay func237⟩,f31:=tK_lay func257,f32:=tK_lay func258,f36:=⟨f256.name,by decide,tK_lay func256⟩,f37:=⟨f259.name,by decide,tK_lay func259⟩,f38:=⟨f260.name,by decide,tK_lay func260⟩,f39:=⟨f261.name,by decide,tK_lay func261⟩,f41:=⟨f270.name,by decide,tK_lay func270⟩,t0:=underlying0,a0:=isAgg0,
 z0:=sizeOf0,v0:=zeroValue0,t3:=underlying3,a3:=isAgg3,z3:=sizeOf3,v3:=zeroValue3,t4:=underlying4,a4:=isAgg4,z4:=sizeOf4,v4:=zeroValue4,t5:=underlying5,a5:=isAgg5,
 z5:=sizeOf5,v5:=zeroValue5,t9:=underlying9,a9:=isAgg9,z9:=sizeOf9,v9:=zeroValue9,t26:=underlying22,a26:=isAgg22,z26:=sizeOf22,v26:=zeroValue22,t27:=underlying22,a27:=isAgg22,
 z27:=sizeOf22,v27:=zeroValue22,t29:=underlying9,a29:=isAgg9,z29:=sizeOf9,v29:=zeroValue9,t32:=underlying164,a32:=isAgg164,z32:=sizeOf164,v32:=zeroValue164,t35:=underlying272,a35:=isAgg272,
 z35:=sizeOf272,v35:=zeroValue272,t36:=underlying273,a36:=isAgg273,z36:=sizeOf273,v36:=zeroValue273,t41:=underlying96,a41:=isAgg96,z41:=sizeOf96,v41:=zeroValue96,t44:=underlying226,a44:=isAgg226,
 z44:=sizeOf226,v44:=zeroValue226,t46:=underlying207,a46:=isAgg207,z46:=sizeOf207,v46:=zeroValue207,t53:=underlying299,a53:=isAgg299,z53:=sizeOf299,v53:=zeroValue299,t57:=underlying285,a57:=isAgg285,
 z57:=sizeOf285,v57:=zeroValue285,t63:=underlying313,a63:=isAgg313,z63:=sizeOf313,v63:=zeroValue313,t64:=underlying314,a64:=isAgg314,z64:=sizeOf314,v64:=zeroValue314}
open Go.RowKit Go.Sort in
theorem Tryz.slices_Sort_string_none(p:Option Addr)(cap:Nat)(w:World) :
    Calls prog 172 #[.slice p 0 cap] w fun e w'=>e = .returned (.tuple #[])∧w' = w:=AnyM.slices_Sort_string_none laysSlM6_f172 p cap w
def Tryz.laysSlM5_f272_ren:Go.Shelf.Ren:=⟨fun|5=>272|8=>204|7=>276|19=>238|20=>191|10=>278|11=>279|12=>280|13=>281|14=>282|15=>283|16=>284|17=>285|18=>286|30=>288|31=>257|32=>258|33=>289|34=>290|35=>255|40=>291|n=>n,fun|23=>42|25=>3|3=>3|32=>164|22=>42|0=>0|44=>226|46=>207|4=>4|36=>273|35=>272|41=>96|5=>5|9=>9|53=>299|57=>285|63=>313|64=>314|n=>n,fun|n=>n⟩
theorem Tryz.laysSlM5_f272:Go.Proofs.SlLaysM.n5 prog laysSlM5_f272_ren:={
 mixed:=by kernel_rfl,f5:=⟨f272.name,by decide,tK_lay func272⟩,f7:=⟨f276.name,by decide,tK_lay func276⟩,f8:=tK_lay func204,f10:=⟨f278.name,by decide,tK_lay func278⟩,f11:=⟨f279.name,by decide,tK_lay func279⟩,f12:=⟨f280.name,by decide,tK_lay func280⟩,f13:=⟨f281.name,by decide,tK_lay func281⟩,f14:=⟨f282.name,by decide,tK_lay func282⟩,f15:=⟨f283.name,by decide,tK_lay func283⟩,f16:=⟨f284.name,by decide,tK_lay func284⟩,f17:=⟨f285.name,by decide,tK_lay func285⟩,
 f18:=⟨f286.name,by decide,tK_lay func286⟩,f19:=tK_lay func238,f20:=tK_lay func191,f30:=⟨f288.name,by decide,tK_lay func288⟩,f31:=tK_lay func257,f32:=tK_lay func258,f33:=⟨f289.name,by decide,tK_lay func289⟩,f34:=⟨f290.name,by decide,tK_lay func290⟩,f35:=⟨f255.name,by decide,tK_lay func255⟩,f40:=⟨f291.name,by decide,tK_lay func291⟩,t0:=underlying0,a0:=isAgg0,
 z0:=sizeOf0,v0:=zeroValue0,t3:=underlying3,a3:=isAgg3,z3:=sizeOf3,v3:=zeroValue3,t4:=underlying4,a4:=isAgg4,z4:=sizeOf4,v4:=zeroValue4,t5:=underlying5,a5:=isAgg5,
 z5:=sizeOf5,v5:=zeroValue5,t9:=underlying9,a9:=isAgg9,z9:=sizeOf9,v9:=zeroValue9,t22:=underlying42,a22:=isAgg42,z22:=sizeOf42,v22:=zeroValue42,t23:=underlying42,a23:=isAgg42,
 z23:=sizeOf42,v23:=zeroValue42,t25:=underlying3,a25:=isAgg3,z25:=sizeOf3,v25:=zeroValue3,t32:=underlying164,a32:=isAgg164,z32:=sizeOf164,v32:=zeroValue164,t35:=underlying272,a35:=isAgg272,
 z35:=sizeOf272,v35:=zeroValue272,t36:=underlying273,a36:=isAgg273,z36:=sizeOf273,v36:=zeroValue273,t41:=underlying96,a41:=isAgg96,z41:=sizeOf96,v41:=zeroValue96,t44:=underlying226,a44:=isAgg226,
 z44:=sizeOf226,v44:=zeroValue226,t46:=underlying207,a46:=isAgg207,z46:=sizeOf207,v46:=zeroValue207,t53:=underlying299,a53:=isAgg299,z53:=sizeOf299,v53:=zeroValue299,t57:=underlying285,a57:=isAgg285,
 z57:=sizeOf285,v57:=zeroValue285,t63:=underlying313,a63:=isAgg313,z63:=sizeOf313,v63:=zeroValue313,t64:=underlying314,a64:=isAgg314,z64:=sizeOf314,v64:=zeroValue314}
open Go.RowKit Go.Sort in
theorem Tryz.slices_Sort_int_none(p:Option Addr)(cap:Nat)(w:World) :
    Calls prog 272 #[.slice p 0 cap] w fun e w'=>e = .returned (.tuple #[])∧w' = w:=AnyM.slices_Sort_int_none laysSlM5_f272 p cap w
open Go.RowKit Go.Sort in
theorem Tryz.slices_Sort_int(blk off cap:Nat)(zs:List Int)(w:World)(hH:Holds (Value.int .i64) w blk off zs.toArray)(hblk:blk < w.heap.size)(hsz:zs.length < 4611686018427387904) :
    Calls prog 272 #[.slice (some ⟨blk,off,none⟩) zs.length cap] w fun e w' =>
      e = .returned (.tuple #[])∧∃n os,w' = grow (putRow (Value.int .i64) (Sort.ahead w n) blk off (zs.mergeSort fun x y=>decide (x≤y)).toArray) os:=AnyM.slices_Sort_int laysSlM5_f272 blk off cap zs w hH hblk hsz
open Go.RowKit Go.Sort in
theorem Tryz.slices_Sort_string(blk off cap:Nat)(ss:List (List UInt8))(w:World)(hH:Holds encStr w blk off ss.toArray)(hblk:blk < w.heap.size)(hsz:ss.length < 4611686018427387904) :
    Calls prog 172 #[.slice (some ⟨blk,off,none⟩) ss.length cap] w fun e w' =>
      e = .returned (.tuple #[])∧∃n os,w' = grow (putRow encStr (Sort.ahead w n) blk off (ss.mergeSort fun x y=>decide (x≤y)).toArray) os:=AnyM.slices_Sort_string laysSlM6_f172 blk off cap ss w hH hblk hsz
end Go.Proofs
