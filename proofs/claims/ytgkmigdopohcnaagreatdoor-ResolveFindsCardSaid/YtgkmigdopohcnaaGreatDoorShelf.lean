/- A part of the proof. -/
import Derived.KernelRfl
import Derived.Shelf.Strings.Trim
import Derived.Shelf.Small.Strs
import Derived.Shelf.Small.Wraps
import Derived.Shelf.Utf8.AppendRunePlain
import Derived.Shelf.LaysM
import Derived.Shelf.Strconv.Itoa3
import Derived.Shelf.LaysC
import Derived.Shelf.Strconv.ParseIntPublic10
import Derived.Shelf.Strconv.ErrVarParseInt
import Derived.Shelf.Strings.Prefix
import Derived.Shelf.Strings.Repeat
import Derived.Shelf.Unicode.DecodeSlow
import Derived.Shelf.Unicode.DecodeAny
import Derived.Test.YtgkmigdopohcnaaGreatDoorProg
set_option linter.all false
namespace Go.Proofs
open Tryz
open Go.Shelf
theorem tK_lay{α:Type _}{x:Option α}{a b:α}(h:x=some a)(e:a=b:=by kernel_rfl):x=some b:=h.trans (congrArg some e)
def Tryz.lays161_ren:Go.Shelf.Ren:=⟨fun|161=>111|231=>161|227=>162|233=>163|235=>164|228=>194|197=>103|151=>195|260=>152|152=>232|137=>192|119=>258|224=>259|225=>260|217=>231|266=>257|n=>n,fun|9=>9|4=>4|3=>3|5=>5|117=>210|116=>209|0=>0|124=>213|105=>159|21=>21|119=>196|46=>161|139=>199|138=>198|n=>n,fun|3=>0|4=>1|n=>n⟩
theorem Tryz.lays161:Go.Proofs.Lays.n161 prog lays161_ren:={
 mixed:=by kernel_rfl,f119:=tK_lay func258,f137:=tK_lay func192,f151:=tK_lay func195,f152:=tK_lay func232,f161:=tK_lay func111,f197:=tK_lay func103,f217:=tK_lay func231,f224:=tK_lay func259,f225:=tK_lay func260,f227:=tK_lay func162,f228:=tK_lay func194,
 f231:=tK_lay func161,f233:=tK_lay func163,f235:=tK_lay func164,f260:=tK_lay func152,f266:=tK_lay func257,t0:=underlying0,a0:=isAgg0,z0:=sizeOf0,v0:=zeroValue0,t3:=underlying3,a3:=isAgg3,z3:=sizeOf3,
 v3:=zeroValue3,t4:=underlying4,a4:=isAgg4,z4:=sizeOf4,v4:=zeroValue4,t5:=underlying5,a5:=isAgg5,z5:=sizeOf5,v5:=zeroValue5,t9:=underlying9,a9:=isAgg9,z9:=sizeOf9,
 v9:=zeroValue9,t21:=underlying21,a21:=isAgg21,z21:=sizeOf21,v21:=zeroValue21,t46:=underlying161,a46:=isAgg161,z46:=sizeOf161,v46:=zeroValue161,t105:=underlying159,a105:=isAgg159,z105:=sizeOf159,
 v105:=zeroValue159,t116:=underlying209,a116:=isAgg209,z116:=sizeOf209,t117:=underlying210,a117:=isAgg210,z117:=sizeOf210,v117:=zeroValue210,t119:=underlying196,a119:=isAgg196,z119:=sizeOf196,t124:=underlying213,
 a124:=isAgg213,z124:=sizeOf213,v124:=zeroValue213,t138:=underlying198,a138:=isAgg198,z138:=sizeOf198,v138:=zeroValue198,t139:=underlying199,a139:=isAgg199,z139:=sizeOf199,v139:=zeroValue199,g3:=by kernel_rfl,
 g4:=by kernel_rfl}
open Go.RowKit in
theorem Tryz.strings_TrimLeft_one(s:ByteArray)(c:UInt8)(hc:c.toNat < 128)(w:World) :
    Calls prog 111 #[.string s,.string ⟨#[c]⟩] w fun e w'=>e = .returned (.string ⟨(Lib.trimLeftB s.data.toList c).toArray⟩)∧w' = w:=Any.strings_TrimLeft_one lays161 s c hc w
def Tryz.lays162_ren:Go.Shelf.Ren:=⟨fun|162=>112|232=>165|227=>162|234=>166|236=>167|228=>194|271=>196|151=>195|120=>233|197=>103|152=>232|260=>152|137=>192|119=>258|224=>259|225=>260|217=>231|266=>257|n=>n,fun|9=>9|4=>4|3=>3|5=>5|117=>210|116=>209|0=>0|124=>213|21=>21|105=>159|46=>161|119=>196|139=>199|138=>198|n=>n,fun|3=>0|4=>1|n=>n⟩
theorem Tryz.lays162:Go.Proofs.Lays.n162 prog lays162_ren:={
 mixed:=by kernel_rfl,f119:=tK_lay func258,f120:=tK_lay func233,f137:=tK_lay func192,f151:=tK_lay func195,f152:=tK_lay func232,f162:=tK_lay func112,f197:=tK_lay func103,f217:=tK_lay func231,f224:=tK_lay func259,f225:=tK_lay func260,f227:=tK_lay func162,
 f228:=tK_lay func194,f232:=tK_lay func165,f234:=tK_lay func166,f236:=tK_lay func167,f260:=tK_lay func152,f266:=tK_lay func257,f271:=tK_lay func196,t0:=underlying0,a0:=isAgg0,z0:=sizeOf0,v0:=zeroValue0,t3:=underlying3,
 a3:=isAgg3,z3:=sizeOf3,v3:=zeroValue3,t4:=underlying4,a4:=isAgg4,z4:=sizeOf4,v4:=zeroValue4,t5:=underlying5,a5:=isAgg5,z5:=sizeOf5,v5:=zeroValue5,t9:=underlying9,
 a9:=isAgg9,z9:=sizeOf9,v9:=zeroValue9,t21:=underlying21,a21:=isAgg21,z21:=sizeOf21,v21:=zeroValue21,t46:=underlying161,a46:=isAgg161,z46:=sizeOf161,v46:=zeroValue161,t105:=underlying159,
 a105:=isAgg159,z105:=sizeOf159,v105:=zeroValue159,t116:=underlying209,a116:=isAgg209,z116:=sizeOf209,t117:=underlying210,a117:=isAgg210,z117:=sizeOf210,v117:=zeroValue210,t119:=underlying196,a119:=isAgg196,
 z119:=sizeOf196,t124:=underlying213,a124:=isAgg213,z124:=sizeOf213,v124:=zeroValue213,t138:=underlying198,a138:=isAgg198,z138:=sizeOf198,v138:=zeroValue198,t139:=underlying199,a139:=isAgg199,z139:=sizeOf199,
 v139:=zeroValue199,g3:=by kernel_rfl,g4:=by kernel_rfl}
open Go.RowKit in
theorem Tryz.strings_TrimRight_one(s:ByteArray)(c:UInt8)(hc:c.toNat < 128)(w:World)(hs:s.size≤9223372036854775807) :
    Calls prog 112 #[.string s,.string ⟨#[c]⟩] w fun e w'=>e = .returned (.string ⟨(Lib.trimRightB s.data.toList c).toArray⟩)∧w' = w:=Any.strings_TrimRight_one lays162 s c hc w hs
def Tryz.lays106_ren:Go.Shelf.Ren:=⟨fun|106=>65|213=>105|265=>153|n=>n,fun|9=>9|3=>3|n=>n,fun|n=>n⟩
theorem Tryz.lays106:Go.Proofs.Lays.n106 prog lays106_ren:={
 mixed:=by kernel_rfl,f106:=tK_lay func65,f213:=tK_lay func105,f265:=tK_lay func153,t3:=underlying3,a3:=isAgg3,z3:=sizeOf3,v3:=zeroValue3,t9:=underlying9,a9:=isAgg9,z9:=sizeOf9,v9:=zeroValue9}
open Go.RowKit in
theorem Tryz.strings_Compare(a b:ByteArray)(w:World) :
    Calls prog 65 #[.string a,.string b] w fun e w'=>e = .returned (.int .i64 (Lib.compareBytes a.data.toList b.data.toList))∧w' = w:=Any.strings_Compare lays106 a b w
def Tryz.lays137_ren:Go.Shelf.Ren:=⟨fun|137=>192|217=>231|266=>257|n=>n,fun|9=>9|5=>5|3=>3|n=>n,fun|n=>n⟩
theorem Tryz.lays137:Go.Proofs.Lays.n137 prog lays137_ren:={
 mixed:=by kernel_rfl,f137:=tK_lay func192,f217:=tK_lay func231,f266:=tK_lay func257,t3:=underlying3,a3:=isAgg3,z3:=sizeOf3,v3:=zeroValue3,t5:=underlying5,a5:=isAgg5,z5:=sizeOf5,v5:=zeroValue5,
 t9:=underlying9,a9:=isAgg9,z9:=sizeOf9,v9:=zeroValue9}
open Go.RowKit in
theorem Tryz.strings_IndexByte(s:ByteArray)(c:Int)(w:World) :
    Calls prog 192 #[.string s,.int .u8 c] w fun e w'=>e = .returned (.int .i64 (Lib.indexByte s.data.toList c.toNat.toUInt8))∧w' = w:=Any.strings_IndexByte lays137 s c w
def Tryz.lays103_ren:Go.Shelf.Ren:=⟨fun|103=>158|210=>191|206=>230|n=>n,fun|9=>9|4=>4|24=>32|3=>3|n=>n,fun|n=>n⟩
theorem Tryz.lays103:Go.Proofs.Lays.n103 prog lays103_ren:={
 mixed:=by kernel_rfl,f103:=tK_lay func158,f206:=tK_lay func230,f210:=tK_lay func191,t3:=underlying3,a3:=isAgg3,z3:=sizeOf3,v3:=zeroValue3,t4:=underlying4,a4:=isAgg4,z4:=sizeOf4,v4:=zeroValue4,
 t9:=underlying9,a9:=isAgg9,z9:=sizeOf9,v9:=zeroValue9,t24:=underlying32,a24:=isAgg32,z24:=sizeOf32,v24:=zeroValue32}
open Go.RowKit in
theorem Tryz.strings_CutPrefix(s p:ByteArray)(w:World) :
    Calls prog 158 #[.string s,.string p] w fun e w'=>e = .returned (.tuple #[.string ⟨(Lib.trimPrefix s.data.toList p.data.toList).toArray⟩,.bool (Lib.hasPrefix s.data.toList p.data.toList)])∧w' = w:=Any.strings_CutPrefix lays103 s p w
def Tryz.lays122_ren:Go.Shelf.Ren:=⟨fun|122=>84|215=>129|n=>n,fun|3=>3|4=>4|n=>n,fun|n=>n⟩
theorem Tryz.lays122:Go.Proofs.Lays.n122 prog lays122_ren:={
 mixed:=by kernel_rfl,f122:=tK_lay func84,f215:=tK_lay func129,t3:=underlying3,a3:=isAgg3,z3:=sizeOf3,v3:=zeroValue3,t4:=underlying4,a4:=isAgg4,z4:=sizeOf4,v4:=zeroValue4}
open Go.RowKit in
theorem Tryz.cmp_Compare_int(x y:Int)(w:World) :
    Calls prog 84 #[.int .i64 x,.int .i64 y] w fun e w'=>e = .returned (.int .i64 (Lib.compareInt x y))∧w' = w:=Any.cmp_Compare_int lays122 x y w
def Tryz.lays242_ren:Go.Shelf.Ren:=⟨fun|242=>246|278=>270|n=>n,fun|37=>130|21=>21|51=>250|4=>4|5=>5|46=>161|n=>n,fun|n=>n⟩
theorem Tryz.lays242:Go.Proofs.Lays.n242 prog lays242_ren:={
 mixed:=by kernel_rfl,f242:=tK_lay func246,f278:=tK_lay func270,t4:=underlying4,a4:=isAgg4,z4:=sizeOf4,v4:=zeroValue4,t5:=underlying5,a5:=isAgg5,z5:=sizeOf5,v5:=zeroValue5,t21:=underlying21,
 a21:=isAgg21,z21:=sizeOf21,v21:=zeroValue21,t37:=underlying130,a37:=isAgg130,z37:=sizeOf130,v37:=zeroValue130,t46:=underlying161,a46:=isAgg161,z46:=sizeOf161,v46:=zeroValue161,t51:=underlying250,
 a51:=isAgg250,z51:=sizeOf250,v51:=zeroValue250}
open Go.RowKit in
theorem Tryz.utf8_AppendRune_plain(B:Nat)(v:Value)(n:Nat)(xs:List Value)(r:Int)(hr0:-2147483648≤r)(hr1:r≤2147483647)(w:World)(hown:w.ownsRow B 5 1 v n xs)(hlen:n + 4≤140737488355328)(hBw:B≤w.heap.size) :
    Calls prog 246 #[v,.int .i32 r] w fun e w'=>∃v',e = .returned v'∧w'.ownsRow B 5 1 v' (n + (Lib.runeCells r).length) (xs ++ Lib.runeCells r)∧∃o,(w.alloc o).grownBy w' v.ownBlock:=Any.utf8_AppendRune_plain lays242 (by kernel_rfl) B v n xs r hr0 hr1 w hown hlen hBw
def Tryz.laysM171_ren:Go.Shelf.Ren:=⟨fun|171=>70|243=>109|246=>157|283=>187|284=>188|285=>189|286=>190|129=>209|317=>226|318=>227|319=>228|320=>229|337=>255|338=>256|n=>n,fun|3=>3|9=>9|2=>2|4=>4|171=>230|0=>0|53=>229|37=>130|5=>5|173=>233|212=>263|51=>250|20=>20|213=>264|46=>161|232=>296|233=>297|n=>n,fun|17=>3|18=>4|19=>5|n=>n⟩
theorem Tryz.laysM171:Go.Proofs.LaysM.n171 prog laysM171_ren:={
 mixed:=by kernel_rfl,f129:=tK_lay func209,f171:=tK_lay func70,f243:=tK_lay func109,f246:=tK_lay func157,f283:=tK_lay func187,f284:=tK_lay func188,f285:=tK_lay func189,f286:=tK_lay func190,f317:=tK_lay func226,f318:=tK_lay func227,f319:=tK_lay func228,
 f320:=tK_lay func229,f337:=tK_lay func255,f338:=tK_lay func256,t0:=underlying0,a0:=isAgg0,z0:=sizeOf0,v0:=zeroValue0,t2:=underlying2,a2:=isAgg2,z2:=sizeOf2,v2:=zeroValue2,t3:=underlying3,
 a3:=isAgg3,z3:=sizeOf3,v3:=zeroValue3,t4:=underlying4,a4:=isAgg4,z4:=sizeOf4,v4:=zeroValue4,t5:=underlying5,a5:=isAgg5,z5:=sizeOf5,v5:=zeroValue5,t9:=underlying9,
 a9:=isAgg9,z9:=sizeOf9,v9:=zeroValue9,t20:=underlying20,a20:=isAgg20,z20:=sizeOf20,v20:=zeroValue20,t37:=underlying130,a37:=isAgg130,z37:=sizeOf130,v37:=zeroValue130,t46:=underlying161,
 a46:=isAgg161,z46:=sizeOf161,v46:=zeroValue161,t51:=underlying250,a51:=isAgg250,z51:=sizeOf250,v51:=zeroValue250,t53:=underlying229,a53:=isAgg229,z53:=sizeOf229,v53:=zeroValue229,t171:=underlying230,
 a171:=isAgg230,z171:=sizeOf230,v171:=zeroValue230,t173:=underlying233,a173:=isAgg233,z173:=sizeOf233,v173:=zeroValue233,t212:=underlying263,a212:=isAgg263,z212:=sizeOf263,v212:=zeroValue263,t213:=underlying264,
 a213:=isAgg264,z213:=sizeOf264,t232:=underlying296,a232:=isAgg296,z232:=sizeOf296,v232:=zeroValue296,t233:=underlying297,a233:=isAgg297,z233:=sizeOf297,v233:=zeroValue297,g17:=by kernel_rfl,g18:=by kernel_rfl,
 g19:=by kernel_rfl,i0:=by kernel_rfl,i2:=by kernel_rfl,i3:=by kernel_rfl,i4:=by kernel_rfl,i5:=by kernel_rfl,i9:=by kernel_rfl,i20:=by kernel_rfl,i37:=by kernel_rfl,i46:=by kernel_rfl,i51:=by kernel_rfl,i53:=by kernel_rfl,
 i171:=by kernel_rfl,i173:=by kernel_rfl,i212:=by kernel_rfl,i232:=by kernel_rfl,i233:=by kernel_rfl,m17:=by kernel_rfl,m18:=by kernel_rfl,m19:=by kernel_rfl}
open Go.RowKit Go.Sort Go.Lib in
theorem Tryz.strconv_Itoa (n:Int) (h0:-9223372036854775808≤n) (h1:n≤9223372036854775807) (w:World) (htab:Lib.TabIs prog w "internal/strconv.uint64pow10" .u64 Lib.pow10Tab) :
    Calls prog 70 #[.int .i64 n] w fun e w'=>e = .returned (.string ⟨(Lib.itoa n).toArray⟩)∧∃k os,w' = grow (w.drewN k) os:=Any.strconv_Itoa laysM171 n h0 h1 w htab
def Tryz.laysC174_ren:Go.Shelf.Ren:=⟨fun|174=>198|247=>238|245=>239|287=>264|279=>265|280=>266|281=>267|282=>268|321=>275|322=>276|316=>277|171=>70|205=>278|243=>109|246=>157|283=>187|284=>188|285=>189|286=>190|129=>209|317=>226|318=>227|319=>228|320=>229|337=>255|338=>256|n=>n,fun|9=>9|3=>3|2=>2|75=>178|85=>239|4=>4|167=>285|5=>5|53=>229|175=>286|46=>161|168=>288|37=>130|0=>0|210=>302|21=>21|127=>184|145=>307|143=>305|171=>230|173=>233|212=>263|51=>250|20=>20|213=>264|232=>296|233=>297|80=>136|n=>n,fun|15=>6|16=>7|17=>3|18=>4|19=>5|n=>n⟩
theorem Tryz.laysC174:Go.Proofs.LaysC.n174 prog laysC174_ren:={
 mixed:=by kernel_rfl,f129:=tK_lay func209,f171:=tK_lay func70,f174:=tK_lay func198,f205:=tK_lay func278,f243:=tK_lay func109,f245:=tK_lay func239,f246:=tK_lay func157,f247:=tK_lay func238,f279:=tK_lay func265,f280:=tK_lay func266,f281:=tK_lay func267,
 f282:=tK_lay func268,f283:=tK_lay func187,f284:=tK_lay func188,f285:=tK_lay func189,f286:=tK_lay func190,f287:=tK_lay func264,f316:=tK_lay func277,f317:=tK_lay func226,f318:=tK_lay func227,f319:=tK_lay func228,f320:=tK_lay func229,f321:=tK_lay func275,
 f322:=tK_lay func276,f337:=tK_lay func255,f338:=tK_lay func256,t0:=underlying0,a0:=isAgg0,z0:=sizeOf0,v0:=zeroValue0,t2:=underlying2,a2:=isAgg2,z2:=sizeOf2,v2:=zeroValue2,t3:=underlying3,
 a3:=isAgg3,z3:=sizeOf3,v3:=zeroValue3,t4:=underlying4,a4:=isAgg4,z4:=sizeOf4,v4:=zeroValue4,t5:=underlying5,a5:=isAgg5,z5:=sizeOf5,v5:=zeroValue5,t9:=underlying9,
 a9:=isAgg9,z9:=sizeOf9,v9:=zeroValue9,t20:=underlying20,a20:=isAgg20,z20:=sizeOf20,v20:=zeroValue20,t21:=underlying21,a21:=isAgg21,z21:=sizeOf21,v21:=zeroValue21,t37:=underlying130,
 a37:=isAgg130,z37:=sizeOf130,v37:=zeroValue130,t46:=underlying161,a46:=isAgg161,z46:=sizeOf161,v46:=zeroValue161,t51:=underlying250,a51:=isAgg250,z51:=sizeOf250,v51:=zeroValue250,t53:=underlying229,
 a53:=isAgg229,z53:=sizeOf229,v53:=zeroValue229,t75:=underlying178,a75:=isAgg178,z75:=sizeOf178,v75:=zeroValue178,t85:=underlying239,a85:=isAgg239,z85:=sizeOf239,v85:=zeroValue239,t127:=underlying184,
 a127:=isAgg184,z127:=sizeOf184,v127:=zeroValue184,t143:=underlying305,a143:=isAgg305,z143:=sizeOf305,v143:=zeroValue305,t145:=underlying307,a145:=isAgg307,z145:=sizeOf307,v145:=zeroValue307,t167:=underlying285,
 a167:=isAgg285,z167:=sizeOf285,v167:=zeroValue285,t168:=underlying288,a168:=isAgg288,z168:=sizeOf288,v168:=zeroValue288,t171:=underlying230,a171:=isAgg230,z171:=sizeOf230,v171:=zeroValue230,t173:=underlying233,
 a173:=isAgg233,z173:=sizeOf233,v173:=zeroValue233,t175:=underlying286,a175:=isAgg286,z175:=sizeOf286,v175:=zeroValue286,t210:=underlying302,a210:=isAgg302,z210:=sizeOf302,v210:=zeroValue302,t212:=underlying263,
 a212:=isAgg263,z212:=sizeOf263,v212:=zeroValue263,t213:=underlying264,a213:=isAgg264,z213:=sizeOf264,t232:=underlying296,a232:=isAgg296,z232:=sizeOf296,v232:=zeroValue296,t233:=underlying297,a233:=isAgg297,
 z233:=sizeOf297,v233:=zeroValue297,g15:=by kernel_rfl,g16:=by kernel_rfl,g17:=by kernel_rfl,g18:=by kernel_rfl,g19:=by kernel_rfl,t80:=underlying136,a80:=isAgg136,z80:=sizeOf136,v80:=zeroValue136,i0:=by kernel_rfl,
 i2:=by kernel_rfl,i3:=by kernel_rfl,i4:=by kernel_rfl,i5:=by kernel_rfl,i9:=by kernel_rfl,i20:=by kernel_rfl,i21:=by kernel_rfl,i37:=by kernel_rfl,i46:=by kernel_rfl,i51:=by kernel_rfl,i53:=by kernel_rfl,i75:=by kernel_rfl,
 i80:=by kernel_rfl,i85:=by kernel_rfl,i127:=by kernel_rfl,i143:=by kernel_rfl,i145:=by kernel_rfl,i167:=by kernel_rfl,i168:=by kernel_rfl,i171:=by kernel_rfl,i173:=by kernel_rfl,i175:=by kernel_rfl,i210:=by kernel_rfl,i212:=by kernel_rfl,
 i232:=by kernel_rfl,i233:=by kernel_rfl,m15:=by kernel_rfl,m16:=by kernel_rfl,m17:=by kernel_rfl,m18:=by kernel_rfl,m19:=by kernel_rfl,c0:=by kernel_rfl,c2:=by kernel_rfl,c3:=by kernel_rfl,c4:=by kernel_rfl,c5:=by kernel_rfl,
 c9:=by kernel_rfl,c20:=by kernel_rfl,c21:=by kernel_rfl,c37:=by kernel_rfl,c46:=by kernel_rfl,c51:=by kernel_rfl,c53:=by kernel_rfl,c75:=by kernel_rfl,c80:=by kernel_rfl,c85:=by kernel_rfl,c127:=by kernel_rfl,c143:=by kernel_rfl,
 c145:=by kernel_rfl,c167:=by kernel_rfl,c168:=by kernel_rfl,c171:=by kernel_rfl,c173:=by kernel_rfl,c175:=by kernel_rfl,c210:=by kernel_rfl,c212:=by kernel_rfl,c213:=by kernel_rfl,c232:=by kernel_rfl,c233:=by kernel_rfl}
open Go.RowKit in
theorem Tryz.strconv_ParseInt_10_at64_ok(s:ByteArray)(hmax:s.size≤9223372036854775806)(v:Int)(h:Lib.parseIntB 64 s.data.toList = .ok v)(w:World) :
    Calls prog 198 #[.string s,.int .i64 10,.int .i64 64] w fun e w'=>e = .returned (.tuple #[.int .i64 v,.nilIface])∧(w' = w∨∃t,w' = Lib.bytesWorld w 5 t):=Any.strconv_ParseInt_10_at64_ok laysC174 s hmax v h w
open Go.RowKit in
theorem Tryz.strconv_ParseInt_10_at64_range_var (s:ByteArray) (hlim:s.size≤281474976710656) (h:Lib.parseIntB 64 s.data.toList = .range) (tp:TypeId) (p:Value) (w:World) (hvar:w.var? prog "strconv.ErrRange" = some #[.iface tp p]) :
    Calls prog 198 #[.string s,.int .i64 10,.int .i64 64] w fun e w'=>∃N,e = .returned (.tuple #[.int .i64 (Lib.intSat 64 s.data.toList),.iface 288 (.pointer (some ⟨N,0,none⟩))])∧w.heap.size≤N∧w'.heap[N]? = some (.cells #[.string ⟨#[80,97,114,115,101,73,110,116]⟩,.string s,.iface tp p] 302 (0,0))∧Below w.heap.size w w':=Any.strconv_ParseInt_10_at64_range_var laysC174 s hlim h tp p w hvar
def Tryz.lays101_ren:Go.Shelf.Ren:=⟨fun|101=>160|208=>193|206=>230|n=>n,fun|9=>9|4=>4|3=>3|n=>n,fun|n=>n⟩
theorem Tryz.lays101:Go.Proofs.Lays.n101 prog lays101_ren:={
 mixed:=by kernel_rfl,f101:=tK_lay func160,f206:=tK_lay func230,f208:=tK_lay func193,t3:=underlying3,a3:=isAgg3,z3:=sizeOf3,v3:=zeroValue3,t4:=underlying4,a4:=isAgg4,z4:=sizeOf4,v4:=zeroValue4,
 t9:=underlying9,a9:=isAgg9,z9:=sizeOf9,v9:=zeroValue9}
open Go.RowKit Go.Lib in
theorem Tryz.strings_TrimPrefix(s p:ByteArray)(w:World) :
    Calls prog 160 #[.string s,.string p] w fun e w'=>e = .returned (.string ⟨(Lib.trimPrefix s.data.toList p.data.toList).toArray⟩)∧w' = w:=Any.strings_TrimPrefix lays101 s p w
def Tryz.lays197_ren:Go.Shelf.Ren:=⟨fun|197=>103|260=>152|n=>n,fun|9=>9|21=>21|3=>3|4=>4|5=>5|105=>159|119=>196|0=>0|46=>161|139=>199|138=>198|n=>n,fun|3=>0|4=>1|n=>n⟩
theorem Tryz.lays197:Go.Proofs.Lays.n197 prog lays197_ren:={
 mixed:=by kernel_rfl,f197:=tK_lay func103,f260:=tK_lay func152,t0:=underlying0,a0:=isAgg0,z0:=sizeOf0,v0:=zeroValue0,t3:=underlying3,a3:=isAgg3,z3:=sizeOf3,v3:=zeroValue3,t4:=underlying4,
 a4:=isAgg4,z4:=sizeOf4,v4:=zeroValue4,t5:=underlying5,a5:=isAgg5,z5:=sizeOf5,v5:=zeroValue5,t9:=underlying9,a9:=isAgg9,z9:=sizeOf9,v9:=zeroValue9,t21:=underlying21,
 a21:=isAgg21,z21:=sizeOf21,v21:=zeroValue21,t46:=underlying161,a46:=isAgg161,z46:=sizeOf161,v46:=zeroValue161,t105:=underlying159,a105:=isAgg159,z105:=sizeOf159,v105:=zeroValue159,t119:=underlying196,
 a119:=isAgg196,z119:=sizeOf196,t138:=underlying198,a138:=isAgg198,z138:=sizeOf198,v138:=zeroValue198,t139:=underlying199,a139:=isAgg199,z139:=sizeOf199,v139:=zeroValue199,g3:=by kernel_rfl,g4:=by kernel_rfl}
def Tryz.lays105_ren:Go.Shelf.Ren:=⟨fun|105=>197|212=>234|99=>235|165=>236|166=>135|170=>237|169=>91|263=>261|264=>262|206=>230|240=>176|241=>263|276=>210|277=>274|n=>n,fun|9=>9|3=>3|4=>4|20=>20|0=>0|46=>161|109=>266|5=>5|72=>132|76=>179|51=>250|146=>281|53=>229|148=>283|70=>129|37=>130|75=>178|127=>184|164=>251|80=>136|n=>n,fun|n=>n⟩
theorem Tryz.lays105:Go.Proofs.Lays.n105 prog lays105_ren:={
 mixed:=by kernel_rfl,f99:=tK_lay func235,f105:=tK_lay func197,f165:=tK_lay func236,f166:=tK_lay func135,f169:=tK_lay func91,f170:=tK_lay func237,f206:=tK_lay func230,f212:=tK_lay func234,f240:=tK_lay func176,f241:=tK_lay func263,f263:=tK_lay func261,
 f264:=tK_lay func262,f276:=tK_lay func210,f277:=tK_lay func274,t0:=underlying0,a0:=isAgg0,z0:=sizeOf0,v0:=zeroValue0,t3:=underlying3,a3:=isAgg3,z3:=sizeOf3,v3:=zeroValue3,t4:=underlying4,
 a4:=isAgg4,z4:=sizeOf4,v4:=zeroValue4,t5:=underlying5,a5:=isAgg5,z5:=sizeOf5,v5:=zeroValue5,t9:=underlying9,a9:=isAgg9,z9:=sizeOf9,v9:=zeroValue9,t20:=underlying20,
 a20:=isAgg20,z20:=sizeOf20,v20:=zeroValue20,t37:=underlying130,a37:=isAgg130,z37:=sizeOf130,v37:=zeroValue130,t46:=underlying161,a46:=isAgg161,z46:=sizeOf161,v46:=zeroValue161,t51:=underlying250,
 a51:=isAgg250,z51:=sizeOf250,v51:=zeroValue250,t53:=underlying229,a53:=isAgg229,z53:=sizeOf229,v53:=zeroValue229,t70:=underlying129,a70:=isAgg129,z70:=sizeOf129,v70:=zeroValue129,t72:=underlying132,
 a72:=isAgg132,z72:=sizeOf132,v72:=zeroValue132,t75:=underlying178,a75:=isAgg178,z75:=sizeOf178,v75:=zeroValue178,t76:=underlying179,a76:=isAgg179,z76:=sizeOf179,v76:=zeroValue179,t109:=underlying266,
 a109:=isAgg266,z109:=sizeOf266,v109:=zeroValue266,t127:=underlying184,a127:=isAgg184,z127:=sizeOf184,v127:=zeroValue184,t146:=underlying281,a146:=isAgg281,z146:=sizeOf281,v146:=zeroValue281,t148:=underlying283,
 a148:=isAgg283,z148:=sizeOf283,v148:=zeroValue283,t164:=underlying251,a164:=isAgg251,z164:=sizeOf251,v164:=zeroValue251}
theorem Tryz.Builder_Extra_105:Builder.Extra prog lays105_ren:={
 sizeBuilder:=by kernel_rfl,liesBuilder:=by kernel_rfl,t5:=underlying5,a5:=isAgg5,z5:=sizeOf5,v5:=zeroValue5,infoByte:=by kernel_rfl,cellsByte:=by kernel_rfl,sizeByte:=by kernel_rfl,neB5:=by decide}
open Go.RowKit Go.Lib in
theorem Tryz.strings_Repeat(s:ByteArray)(c:Nat)(w:World)(hc:c≤9223372036854775807)(hlen:s.size * c≤140737488355328) :
    Calls prog 197 #[.string s,.int .i64 c] w fun e w'=>e = .returned (.string ⟨(Lib.repeatL s.data.toList c).toArray⟩)∧Below w.heap.size w w':=Any.strings_Repeat lays105 Builder_Extra_105 s c w hc hlen
open Go.RowKit Go.Lib in
theorem Tryz.utf8_DecodeRuneInString(s:ByteArray)(w:World)(hT:Lib.Utf8Tabs 0 1 w) :
    Calls prog 103 #[.string s] w fun e w'=>e = .returned (.tuple #[.int .i32 (Lib.decodeGo s).1,.int .i64 (Lib.decodeGo s).2])∧Below w.heap.size w w':=Any.utf8_DecodeRuneInString lays197 s w hT
end Go.Proofs
