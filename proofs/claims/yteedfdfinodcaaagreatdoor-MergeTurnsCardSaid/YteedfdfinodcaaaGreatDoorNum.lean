/- A part of the proof. -/
import Derived.Lib.ItoaNum
import Derived.Lib.Small
import Derived.Lib.ItoaLen
import Derived.Lib.Bytealg
import Derived.Lib.TrimByte
import Derived.Lib.Strings
import Derived.Test.YteedfdfinodcaaaGreatDoorFacts
import Derived.Test.YteedfdfinodcaaaGreatDoorTie
import Derived.Test.YteedfdfinodcaaaGreatDoorShelf2
import Derived.ProofKit
import Derived.Shelf.Lay
import Derived.PinnedBridge
import Derived.Lay
import Derived.LaidOnce
import Derived.SevenTiedAt
import Derived.Lib.LaidU8T
import Derived.Lib.LaidTab
import Derived.Deep.Slices
import Derived.WideKeyArgs
import Derived.Carry
import Derived.Lib.SmallJoins
import Derived.Lib.ValidLaws
import Derived.Lib.TrimUEq
import Derived.Lib.MapLaws
set_option linter.all false
set_option maxHeartbeats 8000000
set_option maxRecDepth 10000
namespace Go.Scarf
open List renaming length->aL
variable {f:UInt8->Bool}{at_ s:Str}{a:UInt8}{q:List MemPlace}{ρ:Operand->Value}{dst:Option Nat}{e t ty:TypeId}{pos:String}{aft:Array Edge}{g:Option (Nat × Bool)}{w':World}{b0 fuel i j m:Nat}{cs:List Value}{α:Type}{r:Reach}{v:Value}{A:Option Addr}{ks:List Str}
structure Num where
  neg:Bool
  digits:Str
  exp:Int
deriving DecidableEq
def Num.zero:Num:=⟨false,[],0⟩
abbrev Tm(x:Num):Value:=.agg #[.bool x.neg,I x.digits,J x.exp]
def Md(c:UInt8):Bool:=48<=c.toNat&&c.toNat<=57
def Df(s:Str):Bool:=s.all Md&&decide (s≠[])
theorem Yy(s:Str)(p:Nat)(h:p<aL s) :
    (¬((Utf8.decode (bs s) p).1:Int)<48/\¬(57:Int)<(Utf8.decode (bs s) p).1->Md s[p]=true/\(Utf8.decode (bs s) p).2=1) /\
    (((Utf8.decode (bs s) p).1:Int)<48\/(57:Int)<(Utf8.decode (bs s) p).1->Md s[p]=false):=by
  have hs:p<(bs s).size:=h;by_cases ha:(s[p]).toNat<128
  ·have hd := decode_ascii (bs s) p hs ha
   have e:((bs s)[p]' hs)=s[p]:=rfl;grind [Md]
  have hd := decode_high (bs s) p hs (by show 128 <= (s[p]).toNat;omega);grind [Md]
def Gy{p:Nat}(h:p<aL s)(ha:(s.take p).all f=true)(hp:f s[p]=true):(s.take (p+1)).all f=true:=by
  rw[iQ h,List.all_append,ha];simp[hp]
theorem Q_{p:Nat}(h:p<aL s)(hp:f s[p]=false):s.all f=false:=qK
def Wc(x:Num):Bool :=
  decide (x=Num.zero) || (Df x.digits&&decide (aL x.digits<=1000)&&decide (x.digits.head?≠some 48)&&decide (x.digits.getLast?≠some 48)&&decide (-1000000<=x.exp)&&decide (x.exp<=1000000))
def Ij(x:Num):Str :=
  if Wc x=false then [] else if x.digits=[] then [48] else
  (if x.neg then 45::x.digits else x.digits)++(if x.exp≠0 then 101::Lib.itoa x.exp else [])
def Za(at_:Str):Str->Str × Str × Bool
  | []=>([],[],false)
  | c::r=>if at_.contains c then ([],r,true) else let x:=Za at_ r;(c::x.1,x.2.1,x.2.2)
structure Lit where
  neg:Bool
  low:Bool
  whole:Str
  rest:Str
  exp:Str
deriving DecidableEq
abbrev litV(x:Lit):Value:=.agg #[.bool x.neg,.bool x.low,I x.whole,I x.rest,I x.exp]
def Gk(neg low:Bool)(f e:Str):Lit × Bool :=
  let d:=Za [46] f
  (⟨neg,low,d.1,d.2.1,e⟩,Df d.1&&(!d.2.2 || Df d.2.1)&&(decide (d.1=[48]) || decide (d.1.head?≠some 48)))
def Xa(s:Str):Lit × Bool :=
  let neg:=Lib.hasPrefix s [45]
  let c:=Za [101,69] (Lib.trimPrefix s [45])
  if c.2.2 then
    let low:=Lib.hasPrefix c.2.1 [45]
    let e:=if low then Lib.trimPrefix c.2.1 [45] else Lib.trimPrefix (Lib.trimPrefix c.2.1 [45]) [43]
    if Df e then Gk neg low c.1 e else (⟨neg,low,[],[],[]⟩,false)
  else Gk neg false c.1 c.2.1
def Jc(s:Str):Int:=s.foldl (λa c=>10*a+((c.toNat:Int)-48)) 0
def Ld(s:Str):Num × Int :=
  let r:=Xa s
  let x:=r.1
  let exp:=Lib.trimLeftB x.exp 48
  if r.2=false then (Num.zero,2) else
  if 1000<aL x.whole+aL x.rest then (Num.zero,3) else
  if 9<aL exp then (Num.zero,4) else
  let e:=if x.low then-Jc exp else Jc exp
  let d:=Lib.trimLeftB (x.whole++x.rest) 48
  if d=[] then (Num.zero,0) else
  let short:=Lib.trimRightB d 48
  let n:Num:=⟨x.neg,short,e-aL x.rest+aL d-aL short⟩
  if Wc n=false then (Num.zero,4) else (n,0)
def OL(s:Str)(c:UInt8):Jc (s++[c])=10*Jc s+((c.toNat:Int)-48):=by simp[Jc]
theorem Gn(s:Str)(q:Nat)(h:q<aL s):Jc (s.take (q+1))=10*Jc (s.take q)+((s[q].toNat:Int)-48):=by rw[iQ h,OL]
def E1(s:Str)(ha:s.all Md=true):0<=Jc s/\Jc s<10 ^ (aL s):=by
  have key:∀q,q<=aL s->0<=Jc (s.take q)/\Jc (s.take q)<10 ^ q:=by
    intro q
    induction q with
    | zero =>
      intro _;simp[Jc]
    | succ q ih =>
      intro hq;obtain⟨h1,h2⟩:=ih kX;have hc:=List.all_eq_true.1 ha s[q] (eQ kX);unfold Md at hc;simp only[vQ,wQ]at hc;rw[Gn s q kX,Int.pow_succ];omega
  have:=key (aL s)<|gQ _
  rwa [List.take_length]at this
theorem Ww(s:Str)(ha:s.all Md=true)(hl:aL s<=9):0<=Jc s/\Jc s<1000000000:=by
  obtain⟨h1,h2⟩:=E1 s ha;refine⟨h1,?_⟩;have h3:(10:Int) ^ (aL s)<=10 ^ 9:=by
    have:=Nat.pow_le_pow_right (n:=10) kX hl;grind
  grind
theorem UG(s:Str)(p:Nat)(h:p<aL s)(hd:Md s[p]=true):Utf8.decode (bs s) p=(s[p].toNat,1):=by
  have hs:p<(bs s).size:=h;have:=decode_ascii (bs s) p hs (by
    show (s[p]).toNat<128;unfold Md at hd;simp only[vQ,wQ]at hd;omega)
  exact this
theorem Nw(h:Df s=true):s.all Md=true:=by grind [Df]
theorem Nj(h:Df s=true):s≠[]:=by grind [Df]
theorem Ir(at_:Str):∀s:Str,(Za at_ s).2.2=false->(Za at_ s).2.1=[]
  | [],_=>rfl
  | c :: r, h => by
    unfold Za at h ⊢;split at h
    ·cases h
    rename_i hc
    rw[tQ hc];exact Ir at_ r h
theorem readN_exp(h:(Xa s).2=true):(Xa s).1.exp.all Md=true:=by grind [Za,Xa,Df,Gk,Nw,Ir]
theorem Fy{f g:UInt8->Bool}:∀{s:Str},s.all f=true->(s.dropWhile g).all f=true
  | [],_=>rfl
  | c :: s, h => by
    rw[List.dropWhile_cons];split
    ·simp only[List.all_cons, vQ]at h
     exact Fy h.2
    exact h
theorem Mh(at_:Str):∀s:Str,aL (Za at_ s).1<=aL s/\aL (Za at_ s).2.1<=aL s
  | []=>by simp[Za]
  | c :: r => by
    have:=Mh at_ r;unfold Za;split
    ·simp
    simp;omega
theorem Hq(s p:Str):aL (Lib.trimPrefix s p)<=aL s:=by
  unfold Lib.trimPrefix;grind
def Hy(s:Str)(c:UInt8):aL (Lib.trimLeftB s c)<=aL s:=by
  unfold Lib.trimLeftB;exact (List.dropWhile_sublist _).length_le
def VA(s:Str)(c:UInt8):aL (Lib.trimRightB s c)<=aL s:=by
  unfold Lib.trimRightB;rw[List.length_reverse];have:=(List.dropWhile_sublist (λx=>x==c) (l:=s.reverse)).length_le;simpa using this
def head?_get(h:0<aL s):s.head? = some s[0]:=by cases s <;> simp at h ⊢
def UX{n:Nat}(hn:n<256):((a.toNat:Int)=(n:Int))↔a=UInt8.ofNat n:=by
  constructor
  ·intro h
   have h':a.toNat=n:=by_Om
   rw[<-h'];simp
  intro h;subst h;simp;omega
theorem Wx:((a.toNat:Int)=48)↔a=48:=UX (n:=48) kX
theorem XJ(h:0<aL s):(((s[0]' h).toNat:Int)=48)↔s.head? = some 48:=by
  rw[head?_get h,Wx];simp
def W6{x:Num}(h:x=Num.zero):Wc x=true:=by subst h;rfl
theorem H6{x:Num}(h0:¬x=Num.zero)(h:(!Df x.digits)=true):Wc x=false:=by grind [Wc]
theorem D7{x:Num}(h0:¬x=Num.zero)(h:(1000:Int)<aL x.digits):Wc x=false:=by grind [Wc]
theorem R7{x:Num}(h0:¬x=Num.zero)(hl:0<aL x.digits)(h:((x.digits[0]' hl).toNat:Int)=48):Wc x=false:=by
  have:x.digits.head? = some 48:=by rw[head?_get hl,Wx.1 h]
  grind [Wc]
theorem N7{x:Num}(h0:¬x=Num.zero)(hl:aL x.digits-1<aL x.digits)(h:((x.digits[aL x.digits-1]' hl).toNat:Int)=48):Wc x=false:=by grind [Wx,Wc]
theorem Dq{x:Num}(h0:¬x=Num.zero)(h:(!Df x.digits)=false)(h1:¬(1000:Int)<aL x.digits)(hl:0<aL x.digits)(h2:¬((x.digits[0]' hl).toNat:Int)=48)
    (hl':aL x.digits-1<aL x.digits) (h3:¬((x.digits[aL x.digits-1]' hl').toNat:Int)=48):Wc x=(decide (-1000000<=x.exp)&&decide (x.exp<=1000000)):=by
  have a1:aL x.digits<=1000:=by_Om
  have a2:¬x.digits.head? = some 48:=by rw[head?_get hl];intro e;exact h2<|Wx.2 (by injection e)
  grind [Wx,Wc]
def Hc{x:Num}(h:Wc x=true):aL x.digits<=1000/\-1000000<=x.exp/\x.exp<=1000000:=by
  unfold Wc at h;simp only[Bool.or_eq_true,vQ,wQ]at h;rcases h with rfl|h
  ·decide
  omega
theorem CH{q:Nat}(h:q<aL s)(hno:∀c∈s.take q,at_.contains c=false)(hq:at_.contains s[q]=false):∀c∈s.take (q+1),at_.contains c=false:=by
  rw[iQ h];grind
theorem Vx(s:Str)(c:UInt8):(0<=Lib.indexByte s c)↔s.contains c=true:=by
  induction s with
  | nil=>simp[Lib.indexByte]
  | cons a s ih =>
    unfold Lib.indexByte;grind
def VC{c:UInt8}(h:¬(0:Int)<=Lib.indexByte at_ c):at_.contains c=false:=by
  rw[Bool.eq_false_iff];intro hh;exact h<|(Vx _ _).2 hh
def K4{c:UInt8}(h:(0:Int)<=Lib.indexByte at_ c):at_.contains c=true:=(Vx _ _).1 h
theorem M3{at_:Str}:∀{s:Str},(∀c∈s,at_.contains c=false)->Za at_ s=(s,[],false)
  | [],_=>rfl
  | c :: r, h => by
    unfold Za;rw[tQ (by rw[h c Da];simp),M3 λc hc=>h c (by simp[hc])]
theorem W4{at_:Str}:∀{s:Str}{q:Nat}(h:q<aL s),(∀c∈s.take q,at_.contains c=false)->at_.contains s[q]=true->Za at_ s=(s.take q,s.drop (q+1),true)
  | [],_,h,_,_=>absurd h Da
  | c :: r, 0, _, _, hc => by
    unfold Za;rw[uQ (aS hc)];simp
  | c :: r, q + 1, h, hno, hc => by
    unfold Za;rw[tQ (by rw[hno c Da];simp),W4 (q:=q) (aS h) (λd hd=>hno d (by simp[hd])) (aS hc)];simp
set_option synthInstance.maxHeartbeats 0
set_option synthInstance.maxSize 9999
open Go.RowKit Go.Proofs Go.Proofs.Tryz
theorem CD(w:World)(a b:Num):(Op.equal 68 (Tm a) (Tm b)).run prog w=.ok (decide (a=b)) w:=by
  obtain⟨p,a,m⟩:=a;obtain⟨q,b,n⟩:=b;have h:=EK a b;simp only[Tm,Num.mk.injEq];generalize bs a=u at *;generalize bs b=v at *;simp[Op.equal,Op.maxDepth,run_equalIn_struct,go_sem];grind
theorem x_eqlN{w:World}{x y:Operand}{a b:Num}(hx:ρ x=Tm a)(hy:ρ y=Tm b) :
    (execOp ρ ⟨dst,.binOp .eql 68 x y 68,ty,pos,aft,g⟩).run prog w=.ok (.value (.bool (decide (a=b)))) w:=by
  have hg:(eqGuard .eql 68 x y (Tm a)<|Tm b).run prog w=.ok () w:=by simp[eqGuard,Tm]
  have h:=CD w a b;simp only[execOp,hx,hy,Sem.run_bind,hg,Result.andThen_ok];have hb:(binOp .eql 68 (Tm a)<|Tm b).run prog w=.ok (.bool<|decide (a=b)) w:=by
    simp only[Tm,binOp]at h ⊢;simp_all
  rw[hb];rfl
def K6(s q:Str)(w:World):Calls prog 118 #[I s,I q] w (Qb λv w'=>v=.tuple #[I (Lib.trimPrefix s q),.bool (Lib.hasPrefix s q)]/\Same [] w w'):=Ms (strings_CutPrefix (bs s) (bs q) w)
def QI(s q:Str)(w:World):Calls prog 120 #[I s,I q] w (Qb λv w'=>v=I (Lib.trimPrefix s q)/\Same [] w w'):=Ms (strings_TrimPrefix (bs s) (bs q) w)
def T6(s:Str)(w:World):Calls prog 92 #[I s,I [48]] w (Qb λv w'=>v=I (Lib.trimLeftB s 48)/\Same [] w w'):=Ms (strings_TrimLeft_one (bs s) 48 Ra w)
def DJ(s:Str)(w:World)(h:aL s<=9223372036854775807):Calls prog 93 #[I s,I [48]] w (Qb λv w'=>v=I (Lib.trimRightB s 48)/\Same [] w w'):=Ms (strings_TrimRight_one (bs s) 48 Ra w h)
theorem VL(s:Str)(c:UInt8)(w:World):Calls prog 163 #[I s,.int .u8 (c.toNat:Int)] w (Qb λv w'=>v=J (Lib.indexByte s c)/\Same [] w w'):=by
  have:=Ms<|strings_IndexByte (bs s) (c.toNat:Int) w;simp_all
def cmpInt_c(x y:Int)(w:World):Calls prog 228 #[J x,J y] w (Qb λv w'=>v=J (Lib.compareInt x y)/\Same [] w w'):=Ms (cmp_Compare_int x y w)
def Ew(s:Str){w0:World}:Calls prog 89 #[I s] w0 (Qb λv w'=>v=.bool (Df s)/\Same [] w0 w'):=by
 refine Ga func89 ntmps89 ?_;intro hF;refine rn 9<|J0 (str:=s) hF gX O ?_;rintro b1 w hb1 hF -;refine rn 3<|Wa (λμ σ w=>∃(q:Nat),μ=aL s-q/\(q<=aL s)/\((s.take q).all Md=true)/\AllEq σ [(0,I s),(6,V b1)]/\FR w0 [] [(b1,.stringIter (bs s) q)] w) _ ⟨0,O,cZ _,Da,Ib,hF⟩ ?_;rintro μ σ w ⟨q,rfl,hq,ha,hzz,hF⟩;refine Tf hzz 2 ?_;by_cases hn0:(q)<aL (s:Str);refine R8 0 (p:=q) (str:=s) hF O O hn0 ?_;rintro w hF -;refine rn 20 ⟨λhg1=>?_,λhg1=>?_⟩;refine rn 12 ?_;have hd:=(Yy s q kX).2 kX;exact⟨by unfold Df;rw[Q_ kX hd];simp,hF.same⟩;refine rn 6 ⟨λhc1=>?_,λhc1=>?_⟩;refine rn 6 ?_;have hd:=(Yy s q kX).2 kX;exact⟨by unfold Df;rw[Q_ kX hd];simp,hF.same⟩;refine rn 2 ?_;have hd:=(Yy s q kX).1 ⟨by_Om,by_Om⟩;rw[hd.2]at hF;refine Ja ⟨_,?_,q+1,O,kX,Gy kX ha hd.1,Ib,hF⟩;omega;refine Vt 0 (p:=q) (str:=s) hF O O hn0<|rn 15 ?_;have e:s.take q=s:=dZ kX;rw[e]at ha;exact⟨by unfold Df;rw[ha];simp,hF.same⟩
def HI(x:Num)(hl:aL x.digits<=140737488355328)(w0:World):Calls prog 65 #[Tm x] w0 (Qb λv w'=>v=.bool (Wc x)/\Same [] w0 w'):=by
 refine Ga func65 ntmps65 ?_;intro hF;refine rn 3 ?_;rintro b1 w hb1 hF -;refine rn 15<|Ca (w':=w) (v:=.agg #[.bool false,I [],J 0]) Gb ?_;refine Ca (v:=.bool<|decide (x=Num.zero)) (x_eqlN (a:=x) (b:=Num.zero) O O)<|rn 4 ⟨λhc0=>?_,λhc0=>?_⟩;refine rn 6 ?_;exact⟨by rw[W6 hc0],hF.same⟩;refine rn 4<|Sa (Ew x.digits) ?_;rintro w hF -;refine rn 5 ⟨λhc1=>?_,λhc1=>?_⟩;refine rn 9 ?_;exact⟨by rw[H6 hc0 hc1],hF.same⟩;refine rn 9 ⟨λhc2=>?_,λhc2=>?_⟩;refine rn 9 ?_;exact⟨by rw[D7 hc0 hc2],hF.same⟩;refine rn 3<|Ca (v:=.int .u8<|(((x.digits:Str)[0]'(List.length_pos_iff.2<|Nj (aS hc1))).toNat:Int)) (Ud (0) gX O O<|List.length_pos_iff.2<|Nj (aS hc1)) ?_;refine rn 5 ⟨λhc3=>?_,λhc3=>?_⟩;refine rn 9 ?_;exact⟨by rw[R7 hc0 _ hc3],hF.same⟩;refine rn 4 ?_;refine Ca (v:=J<|((aL x.digits-1:Nat):Int)) (Ux O O<|Od bK kX kX) ?_;refine Ca (v:=.int .u8<|(((x.digits:Str)[aL x.digits-1]' bK).toNat:Int)) (Ud (aL x.digits-1) gX O O bK) ?_;refine rn 5 ⟨λhc4=>?_,λhc4=>?_⟩;refine rn 6 ?_;exact⟨by rw[N7 hc0 _ hc4],hF.same⟩;refine rn 10 ⟨λhg0=>?_,λhg0=>?_⟩;refine rn 8 ?_;exact⟨by rw[Dq hc0 hc1 hc2 _ hc3 _ hc4];simp[hg0],hF.same⟩;refine rn 8 ?_;exact⟨by rw[Dq hc0 hc1 hc2 _ hc3 _ hc4];simp[hg0],hF.same⟩
def HQ:List Int:=[0,1,56,2,57,49,28,3,61,58,42,50,38,29,17,4,62,47,59,36,45,43,51,22,53,39,33,30,24,18,12,5,63,55,48,27,60,41,37,16,46,35,44,21,52,32,23,11,54,26,40,15,34,20,31,10,25,14,19,9,13,8,7,6]
structure Gl (w:World):Prop where
  size:8<=w.heap.size
  tabs:Lib.Utf8Tabs 0 1 w
  pow:∃e fz,w.heap[2]? = some (.cells (Lib.pow10Tab.map (λz=>Value.int .u64 z)).toArray e fz)
  rng:∃tp q e fz,w.heap[4]? = some (.cells #[.iface tp q] e fz)
  syn:∃tp q e fz,w.heap[3]? = some (.cells #[.iface tp q] e fz)
  bru:∃e fz,w.heap[7]? = some (.cells (HQ.map (λz=>Value.int .u8 z)).toArray e fz)
def Gl.same{w:World}{Ds:List Nat}(h:Gl w)(hs:Same Ds w w')(hd:∀b∈Ds,8<=b):Gl w':=by
  have hb:∀b,b<8->w'.heap[b]? = w.heap[b]?:=λb hb=>hs.block b (Nat.lt_of_lt_of_le hb h.size) (λhi=>by have:=hd b hi;omega);refine⟨fQ h.size hs.size,⟨λc hc=>?_,λi hi=>⟨?_,?_⟩⟩,?_,?_,?_,?_⟩
  ·rw[<- h.tabs.1 c hc]
   exact World.cell?_of_block (w:=w)<|hb 0 kX
  ·rw[<- (h.tabs.2 i hi).1]
   exact World.cell?_of_block (w:=w)<|hb 1 kX
  ·rw[<- (h.tabs.2 i hi).2]
   exact World.cell?_of_block (w:=w)<|hb 1 kX
  ·rw[hb 2 kX];exact h.pow
  ·rw[hb 4 kX];exact h.rng
  ·rw[hb 3 kX];exact h.syn
  rw[hb 7 kX];exact h.bru
def Gl.ext{w:World}(h:Gl w)(hs:Same [] w w'):Gl w':=h.same hs Da
def Gl.tabIs {w:World} (h:Gl w):Lib.TabIs prog w "internal/strconv.uint64pow10" IntKind.u64 Lib.pow10Tab:=by
  obtain⟨e,fz,hh⟩:=h.pow;have hg:prog.globalNamed "internal/strconv.uint64pow10" = some 2:=by kernel_rfl
  simp[Lib.TabIs,World.var?,hg,hh]
def Gl.err {w:World} (h:Gl w):∃ tp q,World.var? prog w "strconv.ErrRange" = some #[.iface tp q]:=by
  obtain⟨tp,q,e,fz,hh⟩:=h.rng;have hg:prog.globalNamed "strconv.ErrRange" = some 4:=by kernel_rfl
  exact⟨tp,q,by simp[World.var?,hg,hh]⟩
def Gl.serr {w:World} (h:Gl w):∃ tp q,World.var? prog w "strconv.ErrSyntax" = some #[.iface tp q]:=by
  obtain⟨tp,q,e,fz,hh⟩:=h.syn;have hg:prog.globalNamed "strconv.ErrSyntax" = some 3:=by kernel_rfl
  exact⟨tp,q,by simp[World.var?,hg,hh]⟩
def same_grow(w:World)(k:Nat)(os:Array Obj):Same [] w (Go.Sort.grow (w.drewN k) os) :=
  ⟨rfl,rfl,rfl,by rw[Go.Sort.size_grow];exact Nat.le_add_right _ _,λb hb _=>Go.Sort.heap_grow_old (w.drewN k) os hb⟩
def J9(n:Int)(h1:-9223372036854775808<=n)(h2:n<=9223372036854775807){w:World}(hG:Gl w):Calls prog 66 #[J n] w (Qb λv w'=>v=I (Lib.itoa n)/\Same [] w w') :=
  (strconv_Itoa n h1 h2 w hG.tabIs).mono λe w' ⟨he,k,os,hw⟩=>⟨_,he,rfl,by subst hw;exact same_grow w k os⟩
theorem ZQ(x:Num)(hl:aL x.digits<=140737488355328)(w0:World)(hG:Gl w0):Calls prog 35 #[Tm x] w0 (Qb λv w'=>v=I (Ij x)/\Same [] w0 w'):=by
 refine Ga func35 ntmps35 ?_;intro hF;refine rn 3 ?_;rintro b1 w hb1 hF -;refine rn 7<|Sa (HI x hl _) ?_;rintro w hF -;refine rn 4 ⟨λhc0=>?_,λhc0=>?_⟩;refine rn 6 ⟨?_,hF.same⟩;simp_all[Ij];refine rn 11 ⟨λhc1=>?_,λhc1=>?_⟩;refine rn 6 ⟨?_,hF.same⟩;simp_all[Ij];refine rn 17 ⟨λhc2=>?_,λhc2=>?_⟩;refine rn 2 ?_;refine Ca (v:=I<|([45])++(x.digits)) (Rj O O qP) ?_;refine rn 12 ⟨λhc3=>?_,λhc3=>?_⟩;refine rn 4 ?_;refine Sa (J9 x.exp qT qT<|hG.ext hF.same) ?_;rintro w hF -;refine Ca (v:=I<|([101])++(Lib.itoa x.exp)) (Rj O O jP) ?_;refine Ca (v:=I<|(([45])++(x.digits))++(([101])++(Lib.itoa x.exp))) (Rj O O jP) ?_;refine rn 10 ⟨?_,hF.same⟩;simp_all[Ij];refine rn 9 ⟨?_,hF.same⟩;simp_all[Ij];refine rn 11 ⟨λhc3=>?_,λhc3=>?_⟩;refine rn 4 ?_;refine Sa (J9 x.exp qT qT<|hG.ext hF.same) ?_;rintro w hF -;refine Ca (v:=I<|([101])++(Lib.itoa x.exp)) (Rj O O jP) ?_;refine Ca (v:=I<|(x.digits)++(([101])++(Lib.itoa x.exp))) (Rj O O jP) ?_;refine rn 10 ⟨?_,hF.same⟩;simp_all[Ij];refine rn 9 ⟨?_,hF.same⟩
 simp_all[Ij]
def cut_c(s at_:Str)(hl:aL s<=140737488355328)(w0:World):Calls prog 119 #[I s,I at_] w0 (Qb λv w'=>v=.tuple #[I ((Za at_ s).1),I ((Za at_ s).2.1),.bool (Za at_ s).2.2]/\Same [] w0 w'):=by
 refine Ga func119 ntmps119 ?_;intro hF;refine rn 16<|Wa (λμ σ w=>∃(q:Nat),μ=aL s-q/\(q<=aL s)/\(∀c∈s.take q,at_.contains c=false)/\AllEq σ [(0,I s),(1,I at_),(9,J<|(aL ((s):Str):Int)),(10,J<|(q:Int))]/\FR w0 [] [] w) _ ⟨0,O,cZ _,Da,Ib,hF⟩ ?_;rintro μ σ w ⟨q,rfl,hq,hno,hzz,hF⟩;refine Tf hzz 7 ⟨λhc0=>?_,λhc0=>?_⟩;refine rn 15<|Ca (v:=.int .u8<|(((s:Str)[q]' kX).toNat:Int)) (Ud (q) gX O O kX) ?_;refine Sa (VL at_ _ _) ?_;rintro w hF -;refine rn 4 ⟨λhc1=>?_,λhc1=>?_⟩;refine rn 1<|Wd (zs:=.of []) (bQ [0,1,2,3,4,5,6,7,8,9] .nil) hF ?_;intro w hF;refine rn 2<|Fa O (v:=I<|(s:Str).take (q)) (λw hC=>L2 (q) gX O O kX) ?_;refine rn 2<|Dv O (Ce<|((q+1:Nat):Int))<|Fa O (v:=I<|(s:Str).drop (q+1)) (λw hC=>Nl (q+1) gX) ?_;refine rn 6 ?_;exact⟨by rw[W4 kX hno<|K4 hc1],hF.same⟩;refine rn 4<|Kc Ui ?_;refine rn 2<|Ja ⟨_,?_,q+1,O,kX,CH kX hno<|VC hc1,Ib,hF⟩;omega;refine rn 11 ?_;have e:s.take q=s:=dZ kX;rw[e]at hno;exact⟨by rw[M3 hno],hF.same⟩
theorem read_c(s:Str)(hl:aL s<=140737488355328)(w0:World):Calls prog 91 #[I s] w0 (Qb λv w'=>v=.tuple #[litV (Xa s).1,.bool (Xa s).2]/\Same [] w0 w'):=by
 refine Ga func91 ntmps91 ?_;intro hF;refine rn 3 ?_;rintro b1 w hb1 hF -;refine rn 6<|Sa (K6 s [45] _) ?_;rintro w hF -;refine rn 6 ?_;rintro w hF -;refine rn 5 ?_;refine Sa (cut_c (Lib.trimPrefix s [45]) [101,69] kG _) ?_;rintro w hF -;refine rn 10<|Sc (λσ w=>∃(ex:Str),∃(lw:Bool),(Xa s=Gk (Lib.hasPrefix s [45]) lw (Za [101,69]<|Lib.trimPrefix s [45]).1 ex)/\AllEq σ [(0,I<|(Za [101,69]<|Lib.trimPrefix s [45]).1),(2,V b1),(4,I ex)]/\FR w0 [] [(b1,.cells #[.bool<|Lib.hasPrefix s [45],.bool lw,I [],I [],I []] 122)] w) ?_ ?_;refine rn 6 ⟨λhc0=>?_,λhc0=>?_⟩;refine rn 3<|Sa (K6 ((Za [101,69]<|Lib.trimPrefix s [45]).2.1) [45] _) ?_;rintro w hF -;refine rn 6 ?_;rintro w hF -;refine rn 11 ⟨λhc1=>?_,λhc1=>?_⟩;refine rn 2<|Sa (QI (Lib.trimPrefix ((Za [101,69]<|Lib.trimPrefix s [45]).2.1) [45]) [43] _) ?_;rintro w hF -;refine rn 6<|Sa (Ew<|Lib.trimPrefix (Lib.trimPrefix ((Za [101,69]<|Lib.trimPrefix s [45]).2.1) [45]) [43]) ?_;rintro w hF -;refine rn 4 ⟨λhc2=>?_,λhc2=>?_⟩;refine rn 4 ?_;rintro w hF -;refine rn 4 ⟨?_,hF.same⟩;simp_all[Xa,litV];refine rn 1 ?_;exact Ja ⟨Lib.trimPrefix (Lib.trimPrefix ((Za [101,69]<|Lib.trimPrefix s [45]).2.1) [45]) [43],Lib.hasPrefix ((Za [101,69]<|Lib.trimPrefix s [45]).2.1) [45],by simp_all[Xa],Ib,hF⟩;refine rn 5<|Sa (Ew<|Lib.trimPrefix ((Za [101,69]<|Lib.trimPrefix s [45]).2.1) [45]) ?_;rintro w hF -;refine rn 4 ⟨λhc2=>?_,λhc2=>?_⟩;refine rn 4 ?_;rintro w hF -;refine rn 4 ⟨?_,hF.same⟩;simp_all[Xa,litV];refine rn 1 ?_;exact Ja ⟨Lib.trimPrefix ((Za [101,69]<|Lib.trimPrefix s [45]).2.1) [45],Lib.hasPrefix ((Za [101,69]<|Lib.trimPrefix s [45]).2.1) [45],by simp_all[Xa],Ib,hF⟩;refine rn 1 ?_;exact Ja ⟨(Za [101,69]<|Lib.trimPrefix s [45]).2.1,false,by simp_all[Xa],Ib,hF⟩
 rintro σ w ⟨ex,lw,hrd,hzz,hF⟩;refine Kq hzz 6 ?_;rintro w hF -;refine rn 5 ?_;refine Sa (cut_c ((Za [101,69]<|Lib.trimPrefix s [45]).1) [46] kG _) ?_;rintro w hF -;refine rn 15 ?_;rintro w hF -;refine rn 2 ?_;rintro w hF -;refine rn 4<|Sc (λσ w=>∃(bd:Bool),(bd = !(Df (Za [46] (Za [101,69]<|Lib.trimPrefix s [45]).1).1&&(!(Za [46] (Za [101,69]<|Lib.trimPrefix s [45]).1).2.2 || Df (Za [46] (Za [101,69]<|Lib.trimPrefix s [45]).1).2.1)))/\AllEq σ [(2,V b1),(6,I<|(Za [46]<|(Za [101,69]<|Lib.trimPrefix s [45]).1).1),(59,.bool bd)]/\FR w0 [] [(b1,.cells #[.bool<|Lib.hasPrefix s [45],.bool lw,I<|(Za [46]<|(Za [101,69]<|Lib.trimPrefix s [45]).1).1,I<|(Za [46]<|(Za [101,69]<|Lib.trimPrefix s [45]).1).2.1,I ex] 122)] w) ?_ ?_;refine rn 2<|Sa (Ew<|(Za [46]<|(Za [101,69]<|Lib.trimPrefix s [45]).1).1) ?_;rintro w hF -;refine rn 3 ⟨λhg0=>?_,λhg0=>?_⟩;refine rn 8 ?_;exact Ja ⟨true,qB,Ib,hF⟩;refine rn 3 ⟨λhg1=>?_,λhg1=>?_⟩;refine rn 1<|Sa (Ew<|(Za [46]<|(Za [101,69]<|Lib.trimPrefix s [45]).1).2.1) ?_;rintro w hF -;refine rn 4 ?_;exact Ja ⟨!(Df<|(Za [46]<|(Za [101,69]<|Lib.trimPrefix s [45]).1).2.1),qB,Ib,hF⟩;refine rn 6 ?_;exact Ja ⟨false,qB,Ib,hF⟩;rintro σ w ⟨bd,hbd,hzz,hF⟩;refine Kq hzz 2 ⟨λhc3=>?_,λhc3=>?_⟩;refine rn 4 ?_;rintro w hF -;refine rn 4 ⟨?_,hF.same⟩;rw[hrd];clear hrd hF;have hB:(Df (Za [46] (Za [101,69]<|Lib.trimPrefix s [45]).1).1&&(!(Za [46] (Za [101,69]<|Lib.trimPrefix s [45]).1).2.2 || Df (Za [46] (Za [101,69]<|Lib.trimPrefix s [45]).1).2.1)) = !bd:=by rw[hbd,Bool.not_not]
 clear hbd;simp only[Gk,litV,hB];simp_all[XJ];refine rn 3<|Wd (zs:=.of []) (bQ [0,1,2,3,4,5,6,7]<|.act 8<|.free 9 .nil) hF ?_;intro w hF;refine rn 5 ⟨λhg2=>?_,λhg2=>?_⟩;refine rn 5 ?_;rintro w hF -;refine rn 4 ⟨?_,hF.same⟩;rw[hrd];clear hrd hF;have hB:(Df (Za [46] (Za [101,69]<|Lib.trimPrefix s [45]).1).1&&(!(Za [46] (Za [101,69]<|Lib.trimPrefix s [45]).1).2.2 || Df (Za [46] (Za [101,69]<|Lib.trimPrefix s [45]).1).2.1)) = !bd:=by rw[hbd,Bool.not_not]
 clear hbd;simp only[Gk,litV,hB];simp_all[XJ];refine rn 1 ?_;have hpos:=List.length_pos_iff.2<|Nj (s:=(Za [46] (Za [101,69]<|Lib.trimPrefix s [45]).1).1) qB;refine Fa O (v:=.int .u8<|((((Za [46]<|(Za [101,69]<|Lib.trimPrefix s [45]).1).1:Str)[0]'(hpos)).toNat:Int)) (λw hC=>Ud (0) gX O O hpos)<|rn 3 ?_;rintro w hF -;refine rn 4 ⟨?_,hF.same⟩;rw[hrd];clear hrd hF;have hB:(Df (Za [46] (Za [101,69]<|Lib.trimPrefix s [45]).1).1&&(!(Za [46] (Za [101,69]<|Lib.trimPrefix s [45]).1).2.2 || Df (Za [46] (Za [101,69]<|Lib.trimPrefix s [45]).1).2.1)) = !bd:=by rw[hbd,Bool.not_not]
 clear hbd;simp only[Gk,litV,hB];simp_all[XJ]
set_option maxRecDepth 100000
section
variable {H:Type}{enc:TypeId × Value->H}{W:World}{base:Nat}{sp:Nat->Bool}{held:Bool}
open Go.ChangeShapes Go.WideShapes Go.ChangeAt Go.Lib Go.Shelf Go.WideMaps Go.ChangeMaps
def wf_i64{n:Int}(h:(Lit.int .i64 n).wf=true):-9223372036854775808<=n/\n<=9223372036854775807:=by simpa[Lit.wf,IntKind.min,IntKind.max,IntKind.signed,IntKind.bits]using h
def cs25:prog.cellsOf 25=4:=by kernel_rfl
def cs9:prog.cellsOf 9=1:=by kernel_rfl
def cs3:prog.cellsOf 3=1:=by kernel_rfl
def cs22:prog.cellsOf 22=1:=by kernel_rfl
def cs23:prog.cellsOf 23=1:=by kernel_rfl
theorem TY{e:TypeId}{m:Nat}{w:World}{ad:Addr}(hC:prog.cellsOf e=m):∀(len:Nat)(g:Nat->D),(∀i,i<len->∃cs,w.cells? base (ad.add (i*m)) m=some cs/\Rep (λ_=>True) w (g i) cs) ->
    ∃es:List Value,aL es=len*m/\CellsAt (λ_=>True) w ad es/\RepL (λ_=>True) w ((List.range len).map g) es
  | 0,g,_=>⟨[],Da,λi hi=>absurd hi Da,RepL.nil_mk⟩
  | len + 1, g, h => by
    obtain⟨es,hl,hc,hr⟩:=TY hC len g λi hi=>h i kX;obtain⟨cs,h1,h2⟩:=h len kX;obtain⟨_,hcl,hat⟩:=World.cells?_some h1;refine⟨es++cs,by rw[dQ,hl,hcl,Nat.add_mul,Nat.one_mul],λi hi=>⟨?_,trivial⟩,?_⟩
    ·by_cases hi' : i<aL es
     ·rw[List.getElem_append_left hi'];exact (hc i hi').1
     have hi2 : i-aL es<aL cs := by rw[dQ]at hi;omega
     rw[List.getElem_append_right kX];have:=hat (i-aL es) kX;rw[Au,<-hl]at this;rw[show (aL es)+(i-aL es)=i by omega]at this;rw[this];exact List.getElem?_eq_getElem hi2
    rw[List.range_succ, jQ];exact RepL.append hr (by have:=RepL.cons_mk h2 RepL.nil_mk;rw[qQ]at this;exact this)
theorem G0{α:Type}[Inhabited α]{P:Nat->α->Prop}:∀(n:Nat),(∀i,i<n->∃a,P i a)->∃f:Nat->α,∀i,i<n->P i (f i)
  | 0,_=>⟨λ_=>default,λi hi=>absurd hi kX⟩
  | n + 1, h => by
    obtain⟨f,hf⟩:=G0 n λi hi=>h i kX;obtain⟨a,ha⟩:=h n kX;refine⟨λi=>if i=n then a else f i,λi hi=>?_⟩;by_cases e:i=n
    ·subst e;simpa using ha
    simp only[e,if_false];exact hf i kX
theorem X2{x:DataW H × List MemPlace}[Inhabited α]{g:α->D}(ht:prog.underlying t=some (.slice e))(hC:prog.cellsOf e=m)
    (hel:∀n,n<fuel->∀cs x,DataW.trod enc prog W base sp held n e cs=some x->∃a:α,Rep (λ_=>True) W (g a) cs) (h:DataW.trod enc prog W base sp held fuel t cs=some x) :
    ∃l:List α,Rep (λ_=>True) W (.slice (l.map g)) cs:=by
  rcases DataW.trod_slice ht h with ⟨rfl,-⟩|⟨a,len,cap,elems,rest,n,hn,rfl,-,hb,hl,hm,hlen,hall,-,-⟩
  ·exact⟨[],Rep.nil_slice 0 kX none⟩
  have hi:∀i,i<len->∃al:α,∃cs',W.cells? base (a.add<|i*m) m=some cs'/\Rep (λ_=>True) W (g al) cs':=by
    intro i hi;have h1:=hall i hi;have h2:elems[i]? = some (elems[i]' kX):=qK
    rw[h2,hC,Option.bind_eq_some_iff]at h1;grind
  obtain⟨f,hf⟩:=G0 len hi;obtain⟨es,-,hc,hr⟩:=TY hC len (λi=>g<|f i) hf;refine⟨(List.range len).map f,?_⟩;rw[List.map_map];exact Rep.slice_mk Da hl hm λ_=>⟨a,O,es,hc,hr⟩
theorem S8{x:DataW H × List MemPlace}(h:DataW.trod enc prog W base sp held fuel 9 cs=some x):∃s:Str,Rep (λ_=>True) W (Ai s) cs:=by
  obtain⟨s,rfl,-,hs⟩:=DataW.trod_string gX h;refine⟨s.data.toList,?_⟩;have e:[Value.string s]=[.string<|bs s.data.toList]:=qK
  rw[e];exact Rep.lit_mk (by show aL s.data.toList<=_;rw[Array.length_toList];exact hs)
def num_of_{x:DataW H × List MemPlace}(h:DataW.trod enc prog W base sp held fuel 3 cs=some x):∃n:Int,Rep (λ_=>True) W (Oe n) cs:=by
  obtain⟨n,rfl,-,hn⟩:=DataW.trod_int bX h;exact⟨n,Rep.lit_mk ⟨(wf_i64 hn).1,(wf_i64 hn).2⟩⟩
instance : Inhabited Tree:=⟨.node 0 [] [] []⟩
theorem tree_of:∀(fuel:Nat)(cs:List Value)(x:DataW H × List MemPlace),DataW.trod enc prog W base sp held fuel 25 cs=some x->∃t:Tree,Rep (λ_=>True) W (Ta t) cs:=by
  intro fuel
  induction fuel using Nat.strongRecOn with
  | _ fuel ih =>
    intro cs x h;obtain⟨xs,n,rfl,-,hcl,hxl,hf⟩:=DataW.trod_struct underlying25 h;rw[cs25]at hcl;have get:∀(i:Nat)(hi:i<4),xs[i]? = some (xs[i]'(by rw[hxl];exact hi)):=qK
    have h0:=(hf 0 _ rfl).trans (get 0 kX);have h1:=(hf 1 _ rfl).trans (get 1 kX);have h2:=(hf 2 _ rfl).trans (get 2 kX);have h3:=(hf 3 _ rfl).trans (get 3 kX);obtain⟨k,hk⟩:=num_of_ h0;obtain⟨t,ht⟩:=S8 h1;obtain⟨ks,hks⟩:=X2 (g:=Ai) zZ cs9 (λn _ cs x h=>S8 h) h2;obtain⟨ys,hys⟩:=X2 (g:=Ta) aX cs25 (λm hm cs x h=>ih m kX cs x h) h3;refine⟨.node k t ks ys,?_⟩;have e:cs=(cs.drop 0).take (prog.cellsOf 3)++((cs.drop 1).take (prog.cellsOf 9)++((cs.drop 2).take (prog.cellsOf 22)++((cs.drop 3).take (prog.cellsOf 23)++[]))):=by
      rw[cs3,cs9,cs22,cs23]
      match cs,hcl with
      | [a,b,c,d],_=>rfl
    rw[e];unfold Ta;rw[<-Pc]at hys;exact Rep.agg_mk<|RepL.cons_mk hk<|RepL.cons_mk ht<|RepL.cons_mk hks<|RepL.cons_mk hys RepL.nil_mk
def X5{d:DataW H}(hv:Value.okWide prog W r b0 25 v)(h:DataW.Trod enc prog W base sp held 25 v d q) :
    ∃(t:Tree)(cs:List Value),v=.agg cs.toArray/\Rep (λ_=>True) W (Ta t) cs:=by
  obtain⟨cs,rfl,-⟩:=okWide_struct underlying25 hv;obtain⟨fuel,hf⟩:=h;obtain⟨t,ht⟩:=tree_of fuel _ _ hf;exact⟨t,cs.toList,O,ht⟩
def laidOut_:laidOutB prog=true:=by kernel_rfl
def SH{W':World}(hr:prog.readableRec t=true)(hrow:t<prog.types.size){d:DataW H}{ps:List MemPlace}(hb:Below W.heap.size W W')(hlt:∀p∈ps,p.block<W.heap.size)
    (h:DataW.Trod enc prog W 0 (λ_=>true) true t v d ps):DataW.Trod enc prog W' 0 (λb=>decide (b<W.heap.size)) true t v d ps :=
  WideElems.Trod_stays laidOut_ hr hrow h (λp hp=>hb.same<|hlt p hp) (λp hp=>by simpa using hlt p hp)
def rec25:prog.readableRec 25=true:=by kernel_rfl
theorem row25:25<prog.types.size:=qB
end
section
open Go.Lib Go.Shelf Go.Proofs.YteedfdfinodcaaaGreatDoor
def Lp:List (String × DataW Unit):=[("math/bits.deBruijn32tab", Rows.laid_math_bits_deBruijn32tab),("math/bits.deBruijn64tab", Rows.laid_math_bits_deBruijn64tab),("internal/strconv.uint64pow10", Rows.laid_internal_strconv_uint64pow10),("unicode/utf8.acceptRanges", Rows.laid_unicode_utf8_acceptRanges),("strconv.ErrRange", Rows.laid_strconv_ErrRange),("strconv.ErrSyntax", Rows.laid_strconv_ErrSyntax),("unicode/utf8.first", Rows.laid_unicode_utf8_first)]
def u8x:U8Extra prog lays196_ren:=⟨Gb,Gb,Gb,Gb,Gb,Gb,Gb⟩
theorem Nn{W:World}{n:String}{g:Nat}{cs:Array Value}(hg:prog.globalNamed n=some g)(h:World.var? prog W n=some cs):∃e fz,W.heap[g]? = some (.cells cs e fz):=by
  unfold World.var? at h;grind
theorem PK{enc:TypeId × Value->Unit}{W:World}{base:Nat}{sp:Nat->Bool}{nm:String}{d:DataW Unit}(ht':∃ms,prog.underlying t=some (.interface ms))
    (h:DataW.trod enc prog W base sp false fuel t cs=some (.iface nm d,q)):∃u v,cs=[.iface u v]:=by
  obtain⟨ms,ht⟩:=ht';cases fuel with
  | zero=>simp[DataW.trod]at h
  | succ fuel =>
    unfold DataW.trod at h;rw[ht]at h;split at h <;> first|(cases h;done)|(simp at h;done)|skip
    all_goals first|exact⟨_,_,rfl⟩|(simp_all;done)
theorem IS{W:World}(h:laidMetH prog Lp W):Gl W:=by
  rw[MakeChecks.laidMetH_plain _ _ _ Gb]at h;have r:∀ n d,(n,d)∈Lp->VarReads prog W n d:=λn d hm=>Lib.laidMet.reads h hm;have hT:=utf8Tabs_of_readsT (U8Types.of196 lays196) u8x (w:=W) (Pinned.utf8First_eq▸r "unicode/utf8.first" _ (by simp[Lp,Rows.laid_unicode_utf8_first])) ((by kernel_rfl:Rows.laid_unicode_utf8_acceptRanges=acceptData)▸r "unicode/utf8.acceptRanges" _ (by simp[Lp]));refine⟨?_,hT,?_,?_,?_,?_⟩
  ·obtain⟨g, t, cs, fuel, q, hg, hty, hvar, hd⟩ := r "math/bits.deBruijn64tab" Rows.laid_math_bits_deBruijn64tab (by simp[Lp])
   obtain rfl:=lQ ((show prog.globalNamed "math/bits.deBruijn64tab" = some 7 by kernel_rfl).symm.trans hg);grind [Nn,Ia]
  ·obtain⟨g, t, cs, fuel, q, hg, hty, hvar, hd⟩ := r "internal/strconv.uint64pow10" Rows.laid_internal_strconv_uint64pow10 (by simp[Lp])
   obtain rfl:=lQ ((show prog.globalNamed "internal/strconv.uint64pow10" = some 2 by kernel_rfl).symm.trans hg);obtain rfl:=lQ ((show (prog.globals[2]?).map (·.type)=some 240 by kernel_rfl).symm.trans hty);have hcs:=cells_of_tab (zs:=Lib.pow10Tab) (k:=.u64) underlying240 underlying207 Gb Gb<|(by kernel_rfl:(Rows.laid_internal_strconv_uint64pow10:DataW Unit)=tabData .u64 Lib.pow10Tab)▸hd;obtain⟨e,fz,hh⟩:=Nn hg hvar;refine⟨e,fz,?_⟩;rw[hh,<-hcs]
  ·obtain⟨g, t, cs, fuel, q, hg, hty, hvar, hd⟩ := r "strconv.ErrRange" Rows.laid_strconv_ErrRange (by simp[Lp])
   obtain rfl:=lQ ((show prog.globalNamed "strconv.ErrRange" = some 4 by kernel_rfl).symm.trans hg);obtain rfl:=lQ ((show (prog.globals[4]?).map (·.type)=some 145 by kernel_rfl).symm.trans hty);obtain⟨u,v,hcs⟩:=PK ⟨_,underlying145⟩ hd;obtain⟨e,fz,hh⟩:=Nn hg hvar;refine⟨u,v,e,fz,?_⟩;rw[hh]
   congr 1
   congr 1
   grind
  ·obtain⟨g, t, cs, fuel, q, hg, hty, hvar, hd⟩ := r "strconv.ErrSyntax" Rows.laid_strconv_ErrSyntax (by simp[Lp])
   obtain rfl:=lQ ((show prog.globalNamed "strconv.ErrSyntax" = some 3 by kernel_rfl).symm.trans hg);obtain rfl:=lQ ((show (prog.globals[3]?).map (·.type)=some 145 by kernel_rfl).symm.trans hty);obtain⟨u,v,hcs⟩:=PK ⟨_,underlying145⟩ hd;obtain⟨e,fz,hh⟩:=Nn hg hvar;refine⟨u,v,e,fz,?_⟩;rw[hh]
   congr 1
   congr 1
   grind
  obtain⟨g, t, cs, fuel, q, hg, hty, hvar, hd⟩ := r "math/bits.deBruijn64tab" Rows.laid_math_bits_deBruijn64tab (by simp[Lp]);obtain rfl:=lQ ((show prog.globalNamed "math/bits.deBruijn64tab" = some 7 by kernel_rfl).symm.trans hg);obtain rfl:=lQ ((show (prog.globals[7]?).map (·.type)=some 293 by kernel_rfl).symm.trans hty);have hcs:=cells_of_tab (zs:=HQ) (k:=.u8) underlying293 cX Gb Gb<|(by kernel_rfl:(Rows.laid_math_bits_deBruijn64tab:DataW Unit)=tabData .u8 HQ)▸hd;obtain⟨e,fz,hh⟩:=Nn hg hvar;refine⟨e,fz,?_⟩;rw[hh,<-hcs]
def own_:ownKnob prog.godebug=none:=by kernel_rfl
def wit_(os:Os)(args:Array Value):laidMetH prog Lp ((World.laidAll prog os Lp).forCall (λ_ _=>0) ⟨#[],args,[]⟩).memory:=by rw[MakeChecks.laidMetH_plain _ _ _ Gb];exact laidMet_laidAll _ Gb Gb
end
open Go.RowKit
def FF(q:Int × Int):D:=.agg [Oe q.1,Oe q.2]
def R5(m:List (Int × Int)):D:=.slice (m.map FF)
abbrev L0(q:Int × Int):List Value:=[J q.1,J q.2]
def KB(m:List (Int × Int)):List Value:=m.flatMap L0
section
variable {S:Nat->Prop}{w:World}
theorem pair_rep{q:Int × Int}(h:Rep S w (FF q) cs):cs=L0 q/\(-9223372036854775808<=q.1/\q.1<=9223372036854775807)/\(-9223372036854775808<=q.2/\q.2<=9223372036854775807):=by
  simp only[FF,Oe,Rep,RepL]at h;obtain⟨c1,c2,rfl,⟨rfl,h1⟩,c3,c4,rfl,⟨rfl,h2⟩,rfl⟩:=h;exact⟨O,h1,h2⟩
def rep_pair{q:Int × Int}(h1:-9223372036854775808<=q.1/\q.1<=9223372036854775807)(h2:-9223372036854775808<=q.2/\q.2<=9223372036854775807):Rep S w (FF q) (L0 q):=by
  simp only[FF,Oe,Rep,RepL];exact⟨_,_,O,⟨O,h1⟩,_,_,O,⟨O,h2⟩,O⟩
theorem Rep.pair_elem{m:List (Int × Int)}{len c:Nat}(h:Rep S w (R5 m) [.slice A len c])(hi:i<aL m) :
    ∃ad,A=some ad/\(∀j (hj:j<aL (L0 m[i])),w.cell? ((ad.add (i*2)).add j)=some (L0 m[i])[j])/\(-9223372036854775808<=m[i].1/\m[i].1<=9223372036854775807)/\(-9223372036854775808<=m[i].2/\m[i].2<=9223372036854775807):=by
  obtain⟨ad,cs,hA,hl,hc,hr⟩:=Rep.elem (sz:=2) h (λd hd=>by obtain⟨k,_,rfl⟩:=nQ.1 hd;rfl) (i:=i) (aS hi);grind [pair_rep]
theorem Rep.pairs_len{m:List (Int × Int)}{len c:Nat}(h:Rep S w (R5 m) [.slice A len c]):len=aL m/\len<=c/\c<=9223372036854775807:=by
  have:=h.slice_len;grind
def Bo(x:List Str × List Int):D:=.agg [Ya x.1,.slice (x.2.map Oe)]
theorem node_rep{x:List Str × List Int}(h:Rep S w (Bo x) cs):∃A c B e,cs=[.slice A (aL x.1) c,.slice B (aL x.2) e]/\Rep S w (Ya x.1) [.slice A (aL x.1) c]/\Rep S w (.slice (x.2.map Oe)) [.slice B (aL x.2) e]:=by grind [Bo,Rep,RepL,Ya]
def rep_node{x:List Str × List Int}{B:Option Addr}{c e:Nat}(h1:Rep S w (Ya x.1) [.slice A (aL x.1) c])(h2:Rep S w (.slice (x.2.map Oe)) [.slice B (aL x.2) e]):Rep S w (Bo x) [.slice A (aL x.1) c,.slice B (aL x.2) e]:=by
  rw[Bo,Rep,RepL];refine⟨_,_,O,h1,?_⟩;rw[RepL];exact⟨_,_,O,h2,by rw[RepL]⟩
theorem Rep.node_elem{l:List (List Str × List Int)}{len c:Nat}(h:Rep S w (.slice (l.map Bo)) [.slice A len c])(hi:i<aL l) :
    ∃ad A1 c1 B1 e1, A = some ad /\ (∀j (hj : j<[Value.slice A1 (aL l[i].1) c1, .slice B1 (aL l[i].2) e1].length), w.cell? ((ad.add (i*2)).add j) = some [Value.slice A1 (aL l[i].1) c1, .slice B1 (aL l[i].2) e1][j]) /\
      Rep S w (Ya l[i].1) [.slice A1 (aL l[i].1) c1]/\Rep S w (.slice (l[i].2.map Oe)) [.slice B1 (aL l[i].2) e1]:=by
  obtain⟨ad,cs,hA,hl,hc,hr⟩:=Rep.elem (sz:=2) h (λd hd=>by obtain⟨k,_,rfl⟩:=nQ.1 hd;rfl) (i:=i) (aS hi);grind [node_rep]
end
section
variable {H:Type}{enc:TypeId × Value->H}{W:World}{base:Nat}{sp:Nat->Bool}{held:Bool}
open Go.ChangeShapes Go.WideShapes Go.ChangeAt Go.Lib Go.Shelf
theorem open_sl[Inhabited α]{g:α->D}{d:DataW H}(ht:prog.underlying t=some (.slice e))(hC:prog.cellsOf e=m)
    (hel:∀n cs x,DataW.trod enc prog W base sp held n e cs=some x->∃a:α,Rep (λ_=>True) W (g a) cs) (hv:Value.okWide prog W r b0 t v) (h:DataW.Trod enc prog W base sp held t v d q) :
    ∃(l:List α)(A:Option Addr)(c:Nat),v=.slice A (aL l) c/\Rep (λ_=>True) W (.slice (l.map g)) [.slice A (aL l) c]:=by
  obtain⟨A,n,c,rfl⟩:=okWide_slice ht hv;obtain⟨fuel,hf⟩:=h;obtain⟨l,hl⟩:=X2 ht hC (λn _ cs x h=>hel n cs x h) hf;have hl2:Rep (λ_=>True) W (.slice<|l.map g) [.slice A n c]:=hl;grind [Rep.slice_is]
end
section
variable {H:Type}{enc:TypeId × Value->H}{W:World}{base:Nat}{sp:Nat->Bool}{held:Bool}
end
section
variable {H:Type}{enc:TypeId × Value->H}{W:World}{base:Nat}{sp:Nat->Bool}{held:Bool}
end
theorem IV(s:Str):aL (Xa s).1.whole<=aL s/\aL (Xa s).1.rest<=aL s/\aL (Xa s).1.exp<=aL s:=by grind [Mh,Hq,Za,Xa,Gk]
def Bi(s:Str):Int:=if (Xa s).1.low then-Jc (Lib.trimLeftB (Xa s).1.exp 48) else Jc (Lib.trimLeftB (Xa s).1.exp 48)
def Gf(s:Str):Ld s=if (Xa s).2=false then (Num.zero,2) else
  if 1000<aL (Xa s).1.whole+aL (Xa s).1.rest then (Num.zero,3) else
  if 9<aL (Lib.trimLeftB (Xa s).1.exp 48) then (Num.zero,4) else
  if Lib.trimLeftB ((Xa s).1.whole++(Xa s).1.rest) 48=[] then (Num.zero,0) else
  if Wc (⟨(Xa s).1.neg,Lib.trimRightB (Lib.trimLeftB ((Xa s).1.whole++(Xa s).1.rest) 48) 48,Bi s-aL (Xa s).1.rest+aL (Lib.trimLeftB ((Xa s).1.whole++(Xa s).1.rest) 48)-aL (Lib.trimRightB (Lib.trimLeftB ((Xa s).1.whole++(Xa s).1.rest) 48) 48)⟩)=false then (Num.zero,4) else
  (⟨(Xa s).1.neg,Lib.trimRightB (Lib.trimLeftB ((Xa s).1.whole++(Xa s).1.rest) 48) 48,Bi s-aL (Xa s).1.rest+aL (Lib.trimLeftB ((Xa s).1.whole++(Xa s).1.rest) 48)-aL (Lib.trimRightB (Lib.trimLeftB ((Xa s).1.whole++(Xa s).1.rest) 48) 48)⟩,0):=rfl
theorem range_exp{q:Nat}(h:q<aL s)(ha:s.all Md=true):(Utf8.decode (bs s) q).1=s[q].toNat/\(Utf8.decode (bs s) q).2=1/\48<=s[q].toNat/\s[q].toNat<=57:=by grind [UG,Md]
theorem Es(q:Nat)(h:s.all f=true):(s.take q).all f=true:=qK
theorem XH(s:Str)(hl:aL s<=140737488355328)(w0:World):Calls prog 67 #[I s] w0 (Qb λv w'=>v=.tuple #[Tm (Ld s).1,J (Ld s).2]/\Same [] w0 w'):=by
 have hls:=IV s;have ht0:=Hy (Xa s).1.exp 48;have ht1:=Hy ((Xa s).1.whole++(Xa s).1.rest) 48;rw[dQ]at ht1;have ht2:=VA (Lib.trimLeftB ((Xa s).1.whole++(Xa s).1.rest) 48) 48;refine Ga func67 ntmps67 ?_;intro hF;refine rn 3 ?_;rintro b1 w hb1 hF -;refine rn 6<|Sa (read_c s hl _) ?_;rintro w hF -;refine rn 4 ?_;rintro b2 w hb2 hF -;refine rn 7<|Sa (T6 (Xa s).1.exp _) ?_;rintro w hF -;refine rn 13 ⟨λhc0=>?_,λhc0=>?_⟩;refine rn 2<|Ca (w':=w) (v:=.agg #[.bool false,I [],J 0]) Gb ?_;refine rn 1 ?_;rintro w hF -;refine rn 4 ?_;exact⟨by rw[Gf,uQ (aS hc0)] <;> rfl,hF.same⟩;refine rn 8<|Kc Ui ?_;refine rn 5 ⟨λhc1=>?_,λhc1=>?_⟩;refine rn 2<|Ca (w':=w) (v:=.agg #[.bool false,I [],J 0]) Gb ?_;refine rn 1 ?_;rintro w hF -;refine rn 4 ?_;exact⟨by rw[Gf,tQ (aS hc0),uQ kX] <;> rfl,hF.same⟩;refine rn 9 ⟨λhc2=>?_,λhc2=>?_⟩;refine rn 2<|Ca (w':=w) (v:=.agg #[.bool false,I [],J 0]) Gb ?_;refine rn 1 ?_;rintro w hF -;refine rn 4 ?_;exact⟨by rw[Gf,tQ (aS hc0),tQ kX,uQ kX] <;> rfl,hF.same⟩;refine rn 12<|J0 (str:=(Lib.trimLeftB (Xa s).1.exp 48)) hF gX O ?_;rintro b3 w hb3 hF -;refine rn 3 ?_;have hall:(Lib.trimLeftB (Xa s).1.exp 48).all Md=true:=Fy<|readN_exp qB;refine Wa (λμ σ w=>∃(q:Nat),μ=aL (Lib.trimLeftB (Xa s).1.exp 48)-q/\(q<=aL (Lib.trimLeftB (Xa s).1.exp 48))/\AllEq σ [(2,V b1),(4,V b2),(7,J<|Jc<|(Lib.trimLeftB (Xa s).1.exp 48).take q),(41,V b3)]/\FR w0 [] [(b3,.stringIter (bs<|(Lib.trimLeftB (Xa s).1.exp 48)) q),(b2,.cells #[.bool<|(Xa s).1.neg,.bool<|(Xa s).1.low,I<|(Xa s).1.whole,I<|(Xa s).1.rest,I<|(Xa s).1.exp] 122),(b1,.cells #[.bool false,I [],J 0] 68)] w) _ ⟨0,O,cZ _,ae4,hF⟩ ?_;rintro μ σ w ⟨q,rfl,hq,hzz,hF⟩;refine Tf hzz 2 ?_;by_cases hn0:(q)<aL ((Lib.trimLeftB (Xa s).1.exp 48):Str)
 refine R8 0 (p:=q) (str:=(Lib.trimLeftB (Xa s).1.exp 48)) hF O O hn0 ?_;rintro w hF -;refine rn 16 ?_;have hv:=range_exp (s:=(Lib.trimLeftB (Xa s).1.exp 48)) (q:=q) kX hall;have hb:=Ww ((Lib.trimLeftB (Xa s).1.exp 48).take q) (Es q hall) (by rw[iZ];omega);refine Ca (v:=J<|10*Jc ((Lib.trimLeftB (Xa s).1.exp 48).take q)) (Zx O O<|Od kX kX kX)<|rn 1 ?_;refine Ca (v:=.int .i32<|((Utf8.decode (bs<|Lib.trimLeftB (Xa s).1.exp 48) q).1:Int)-48) (Ux O O (by rw[IntKind.wrap_i32];omega)) ?_;refine Ca (v:=J<|((Utf8.decode (bs<|Lib.trimLeftB (Xa s).1.exp 48) q).1:Int)-48) (Yd underlying21 bX O<|Of kX kX) ?_;refine Ca (v:=J<|Jc<|(Lib.trimLeftB (Xa s).1.exp 48).take (q+1)) (Ku O O (by rw[Gn _ q kX,hv.1];exact Of kX kX)) ?_;refine rn 3 ?_;rw[hv.2.1]at hF;refine Ja ⟨_,?_,q+1,O,kX,Ib,hF⟩;omega;refine Vt 0 (p:=q) (str:=(Lib.trimLeftB (Xa s).1.exp 48)) hF O O hn0<|rn 7 ?_;have eT:(Lib.trimLeftB (Xa s).1.exp 48).take q=(Lib.trimLeftB (Xa s).1.exp 48):=dZ kX;have hb:=Ww (Lib.trimLeftB (Xa s).1.exp 48) hall kX;have hE:-1000000000<Bi s/\Bi s<1000000000:=by unfold Bi;split <;> omega
 refine rn 1<|Sc (λσ w=>AllEq σ [(2,V b1),(4,V b2),(7,J<|Bi s)]/\FR w0 [] [(b3,.stringIter (bs<|(Lib.trimLeftB (Xa s).1.exp 48)) q),(b2,.cells #[.bool<|(Xa s).1.neg,.bool<|(Xa s).1.low,I<|(Xa s).1.whole,I<|(Xa s).1.rest,I<|(Xa s).1.exp] 122),(b1,.cells #[.bool false,I [],J 0] 68)] w) ?_ ?_;refine rn 7 ⟨λhc4=>?_,λhc4=>?_⟩;have eE:Bi s = - Jc (Lib.trimLeftB (Xa s).1.exp 48):=by unfold Bi;rw[uQ qW]
 refine rn 2 ?_;refine Ca (v:=J<|Bi s) (Qu O (by rw[eT,eE];exact Od kX kX kX)) ?_;refine rn 2 ?_;exact Ja ⟨Ib,hF⟩;have eE:Bi s=Jc (Lib.trimLeftB (Xa s).1.exp 48):=by unfold Bi;rw[tQ qB]
 rw[eT,<-eE];refine rn 1 ?_;exact Ja ⟨Ib,hF⟩;rintro σ w ⟨hzz,hF⟩;refine Kq hzz 7<|Ca (v:=I<|((Xa s).1.whole)++((Xa s).1.rest)) (Rj O O kX) ?_;refine Sa (T6 ((Xa s).1.whole++(Xa s).1.rest) _) ?_;rintro w hF -;refine rn 11 ⟨λhc5=>?_,λhc5=>?_⟩;refine rn 2<|Ca (w':=w) (v:=.agg #[.bool false,I [],J 0]) Gb ?_;refine rn 1 ?_;rintro w hF -;refine rn 4 ?_;exact⟨by rw[Gf,tQ (aS hc0),tQ kX,tQ kX,uQ hc5] <;> rfl,hF.same⟩;refine rn 5<|Sa (DJ (Lib.trimLeftB ((Xa s).1.whole++(Xa s).1.rest) 48) _ kX) ?_;rintro w hF -;refine rn 12<|Kc Fp ?_;refine rn 2<|Kc Ui ?_;refine rn 2<|Kc Fp ?_;refine Ca (w':=w) (v:=.agg #[.bool<|(Xa s).1.neg,I<|(Lib.trimRightB (Lib.trimLeftB ((Xa s).1.whole++(Xa s).1.rest) 48) 48),J<|(((Bi s:Int)-(aL (((Xa s).1.rest):Str):Int):Int)+(aL (((Lib.trimLeftB ((Xa s).1.whole++(Xa s).1.rest) 48)):Str):Int):Int)-(aL (((Lib.trimRightB (Lib.trimLeftB ((Xa s).1.whole++(Xa s).1.rest) 48) 48)):Str):Int)]) Gb<|rn 1 ?_;rintro b4 w hb4 hF -;refine rn 6 ?_;refine Sa (HI (⟨(Xa s).1.neg,Lib.trimRightB (Lib.trimLeftB ((Xa s).1.whole++(Xa s).1.rest) 48) 48,Bi s-aL (Xa s).1.rest+aL (Lib.trimLeftB ((Xa s).1.whole++(Xa s).1.rest) 48)-aL (Lib.trimRightB (Lib.trimLeftB ((Xa s).1.whole++(Xa s).1.rest) 48) 48)⟩) (by show aL (Lib.trimRightB (Lib.trimLeftB ((Xa s).1.whole++(Xa s).1.rest) 48) 48)<=_;omega) _) ?_;rintro w hF -;refine rn 4 ⟨λhc6=>?_,λhc6=>?_⟩;refine rn 2<|Ca (w':=w) (v:=.agg #[.bool false,I [],J 0]) Gb ?_;refine rn 1 ?_;rintro w hF -;refine rn 4 ?_;exact⟨by rw[Gf,tQ (aS hc0),tQ kX,tQ kX,tQ hc5,uQ (aS hc6)] <;> rfl,hF.same⟩;refine rn 6 ?_;rintro w hF -;refine rn 4 ?_;exact⟨by rw[Gf,tQ (aS hc0),tQ kX,tQ kX,tQ hc5,tQ (aS hc6)] <;> rfl,hF.same⟩
def CQ(n:Int):Num:=(Ld (Lib.itoa n)).1
def pI(s:Str):Int × Bool:=match Lib.parseIntB 64 s with|.ok v=>(v,true)|.range=>(Lib.intSat 64 s,false)|_=>(0,false)
def Et(x:Num):Int × Bool :=
  if Wc x=false\/x.exp<0\/19<(aL x.digits:Int)+x.exp then (0,false) else
  let t:=x.digits++Lib.repeatL [48] x.exp.toNat
  let u:=if x.neg then 45::t else t
  if u=[] then (0,true) else if (pI u).2=false then (0,false) else ((pI u).1,true)
def AG(e:Value)(b:Bool):Prop:=if b then ∃tp q,e=.iface tp q else e=.nilIface
theorem x_err_neq{P:Program}{w:World}{t':TypeId}{x:Operand}{e:Value}{b:Bool}(ht:P.underlying t=some (.interface (P.methodsAt t)))(he:AG e b)(hx:ρ x=e)(hy:ρ (.const .nilIface)=.nilIface) :
    (execOp ρ ⟨dst,.binOp .neq t x (.const .nilIface) t',ty,pos,aft,g⟩).run P w=.ok (.value (.bool b)) w:=by grind [AG,x_nil_neq,GO]
theorem Y7(w:World)(e:TypeId)(s:ByteArray):Same [] w (Lib.bytesWorld w e s) :=
  .of_below (Joins.below_bytesWorld _ w e s<|gQ _)
theorem XR(s:Str)(hl:aL s<=140737488355328){w:World}(hG:Gl w):Calls prog 116 #[I s,J 10,J 64] w (Qb λv w'=>∃e,v=.tuple #[J (pI s).1,e]/\AG e (!(pI s).2)/\Same [] w w'):=by
  cases h:Lib.parseIntB 64 s with
  | ok n =>
    refine (strconv_ParseInt_10_at64_ok (bs s) (by rw[Vq];omega) n h w).mono ?_;rintro e w' ⟨rfl,hw⟩;refine⟨_,O,.nilIface,by simp[pI,h],by simp[pI,h,AG],?_⟩;grind [Same.refl,Y7]
  | range =>
    obtain⟨tp,q,hv⟩:=hG.err;refine (strconv_ParseInt_10_at64_range_var (bs s) (by rw[Vq];omega) h tp q w hv).mono ?_;rintro e w' ⟨N,rfl,-,-,hb⟩;exact⟨_,O,.iface 235<|V N,by simp only[pI,h],by simp[pI,h,AG],.of_below hb⟩
  | _ =>
    obtain⟨tp,q,hv⟩:=hG.serr;refine (Any.strconv_ParseInt_10_at64_syntax_var laysC174 (bs s) (by rw[Vq];omega) h tp q w hv).mono ?_;rintro e w' ⟨N,rfl,-,-,hb⟩;exact⟨_,O,.iface 235<|V N,by simp[pI,h];rfl,by simp[pI,h,AG],.of_below hb⟩
def FG(c:Int)(h0:0<=c)(h1:c<=19)(w:World):Calls prog 115 #[I [48],J c] w (Qb λv w'=>v=I (Lib.repeatL [48] c.toNat)/\Same [] w w'):=by
  have h:=strings_Repeat (bs [48]) c.toNat w kX (by rw[Vq];simp;omega);rw[Int.toNat_of_nonneg h0]at h;exact Sw h
theorem take_zero{l:List Int}(h:j<aL l)(hz:∀x∈l.take j,x=0)(hn:l[j]=0):∀x∈l.take (j+1),x=0:=by
  rw[iQ h];grind
def MX(n:Int)(h1:-9223372036854775808<=n)(h2:n<=9223372036854775807)(w0:World)(hG:Gl w0):Calls prog 36 #[J n] w0 (Qb λv w'=>v=Tm (CQ n)/\Same [] w0 w'):=by
 refine Ga func36 ntmps36 ?_;intro hF;refine rn 3 ?_;rintro b1 w hb1 hF -;refine rn 5<|Sa (J9 n h1 h2<|hG.ext hF.same) ?_;rintro w hF -;refine Sa (XH (Lib.itoa n) (by have:=Lib.itoa_length_le n h1 h2;omega) _) ?_;rintro w hF -;refine rn 4 ?_;rintro b2 w hb2 hF -;refine rn 7 ?_;rintro w hF -;refine rn 3 ?_;exact⟨O,hF.same⟩
def Px(x:Num):Str:=if x.neg then 45::(x.digits++Lib.repeatL [48] x.exp.toNat) else x.digits++Lib.repeatL [48] x.exp.toNat
theorem Zh(x:Num):Et x=if Wc x=false\/x.exp<0\/19<(aL x.digits:Int)+x.exp then (0,false) else if Px x=[] then (0,true) else if (pI (Px x)).2=false then (0,false) else ((pI (Px x)).1,true):=rfl
theorem Un(c:UInt8)(n:Nat):aL (Lib.repeatL [c] n)=n:=by
  induction n with
  | zero=>rfl
  | succ n ih =>
    unfold Lib.repeatL;grind
theorem AO(x:Num)(hl:aL x.digits<=140737488355328)(w0:World)(hG:Gl w0):Calls prog 88 #[Tm x] w0 (Qb λv w'=>v=.tuple #[J (Et x).1,.bool (Et x).2]/\Same [] w0 w'):=by
 refine Ga func88 ntmps88 ?_;intro hF;refine rn 3 ?_;rintro b1 w hb1 hF -;refine rn 8<|Sa (HI x hl _) ?_;rintro w hF -;refine rn 3 ⟨λhg0=>?_,λhg0=>?_⟩
 ·
  refine rn 23 ⟨?_,hF.same⟩
  first
  | (have hn:¬(Wc x=false\/x.exp<0\/19<(aL x.digits:Int)+x.exp):=by (refine not_or.2 ⟨qB,not_or.2 ⟨by_Om,by_Om⟩⟩)
     rw[Zh,tQ hn];simp_all;done)
  | (rw[Zh];simp_all;done)
 refine rn 6 ⟨λhg1=>?_,λhg1=>?_⟩
 ·
  refine rn 18 ⟨?_,hF.same⟩
  first
  | (have hn:¬(Wc x=false\/x.exp<0\/19<(aL x.digits:Int)+x.exp):=by (refine not_or.2 ⟨qB,not_or.2 ⟨by_Om,by_Om⟩⟩)
     rw[Zh,tQ hn];simp_all;done)
  | (rw[Zh];simp_all;done)
 refine rn 5 ?_;refine Ca (v:=J<|(aL x.digits:Int)+x.exp) (Ku O O<|Of (by have:=Hc (x:=x) qB;omega) (by have:=Hc (x:=x) qB;omega)) ?_;refine rn 5 ⟨λhc0=>?_,λhc0=>?_⟩
 ·
  refine rn 7 ⟨?_,hF.same⟩
  first
  | (have hn:¬(Wc x=false\/x.exp<0\/19<(aL x.digits:Int)+x.exp):=by (refine not_or.2 ⟨qB,not_or.2 ⟨by_Om,by_Om⟩⟩)
     rw[Zh,tQ hn];simp_all;done)
  | (rw[Zh];simp_all;done)
 refine rn 3<|Wd (zs:=.of []) (bQ [0,1,2,3]<|.act 4<|.free 5<|.free 6 .nil) hF ?_;intro w hF;refine rn 4<|Ie (FG x.exp kX kX _) ?_;rintro w hF -;refine Fa rfl (v:=I<|(x.digits)++(Lib.repeatL [48] x.exp.toNat)) (λw hC=>Rj rfl rfl wT) ?_;refine rn 4<|Sc (λσ w=>AllEq σ [(4,I<|Px x)]/\FR w0 [] [(b1,.cells #[.bool x.neg,I x.digits,J x.exp] 68)] w) ?_ ?_
 ·
  refine rn 7 ⟨λhc1=>?_,λhc1=>?_⟩
  ·
   have eT:[45]++(x.digits++Lib.repeatL [48] x.exp.toNat)=Px x:=by unfold Px;rw[uQ qW];rfl
   refine rn 2 ?_;refine Ca (v:=I<|Px x) (by rw[<-eT];exact Rj rfl rfl wT) ?_;refine rn 2 ?_;exact Ja ⟨Ib,hF⟩
  have eT:x.digits++Lib.repeatL [48] x.exp.toNat=Px x:=by unfold Px;rw[tQ qB]
  rw[eT];refine rn 1 ?_;exact Ja ⟨Ib,hF⟩
 rintro σ w ⟨hzz,hF⟩;have hT:aL (Px x)<=1020:=by have:=Un 48 x.exp.toNat;have:=Hc (x:=x) qB;unfold Px;split <;> simp only[dQ,kQ] <;> omega
 refine Kq hzz 9 ⟨λhc2=>?_,λhc2=>?_⟩
 ·
  refine rn 7 ⟨?_,hF.same⟩
  first
  | (have hn:¬(Wc x=false\/x.exp<0\/19<(aL x.digits:Int)+x.exp):=by (refine not_or.2 ⟨qB,not_or.2 ⟨by_Om,by_Om⟩⟩)
     rw[Zh,tQ hn];simp_all;done)
  | (rw[Zh];simp_all;done)
 refine rn 5<|Gc (XR (Px x) kX<|hG.ext hF.same) ?_;rintro _ w ⟨e,rfl,he,hE⟩;have hF:=hF.ext hE;refine rn 11<|Ca (v:=.bool<|!(pI<|Px x).2) (x_err_neq (underlying145) he O O) ?_;refine rn 3 ⟨λhc3=>?_,λhc3=>?_⟩
 ·
  refine rn 7 ⟨?_,hF.same⟩
  first
  | (have hn:¬(Wc x=false\/x.exp<0\/19<(aL x.digits:Int)+x.exp):=by (refine not_or.2 ⟨qB,not_or.2 ⟨by_Om,by_Om⟩⟩)
     rw[Zh,tQ hn];simp_all;done)
  | (rw[Zh];simp_all;done)
 refine rn 10 ⟨?_,hF.same⟩
 first
 | (have hn:¬(Wc x=false\/x.exp<0\/19<(aL x.digits:Int)+x.exp):=by (refine not_or.2 ⟨qB,not_or.2 ⟨by_Om,by_Om⟩⟩)
    rw[Zh,tQ hn];simp_all;done)
 | (rw[Zh];simp_all;done)
def Jh(s:Str):Bool:=decide ((Ld s).2=0)&&decide (Ij (Ld s).1=s)
def Er(s:Str):Bool:=Jh s&&(Et (Ld s).1).2&&decide (0<=(Et (Ld s).1).1)
theorem RJ(s:Str):Wc (Ld s).1=true:=by
  rw[Gf]
  repeat' split
  all_goals first|rfl|simp_all
def Kk(s:Str):aL (Ld s).1.digits<=1000:=(Hc<|RJ s).1
theorem Wn(s:Str)(q:Nat):Lib.decodeL (s.drop q)=Utf8.decode (bs s) q:=Lib.decodeL_drop (bs s) q
def Te(s:Str)(q:Nat):1<=(Utf8.decode (bs s) q).2:=by
  rw[<-Wn];exact Lib.decodeL_width _
theorem Gq(s:Str)(q:Nat)(h:q<aL s:=by omega):q+(Utf8.decode (bs s) q).2<=aL s:=by
  have:=Lib.decodeL_le (s.drop q) (by rw[ne_eq,List.drop_eq_nil_iff];omega);grind [Wn]
def G9(s:Str)(q:Nat)(h:q<aL s)(hv:Lib.validD (s.drop q)=false)(hn:¬((Utf8.decode (bs s) q).1=65533/\(Utf8.decode (bs s) q).2=1)):Lib.validD (s.drop (q+(Utf8.decode (bs s) q).2))=false:=by
  rw[Lib.validD_step _ (by rw[ne_eq,List.drop_eq_nil_iff];omega),Wn,tQ hn,List.drop_drop]at hv;exact hv
theorem Yx(s:Str)(q:Nat)(h:q<aL s):Lib.decodeGo (bs (s.drop q))=Utf8.decode (bs s) q:=by
  have h1:(bs<|s.drop q).size≠0:=by grind [Vq]
  rw[Lib.decodeGo,tQ h1];exact Wn s q
def JD(s:Str)(hl:aL s<=140737488355328){w:World}(hG:Gl w):Calls prog 94 #[I s] w (Qb λv w'=>v=.bool (Lib.validD s)/\Same [] w w') :=
  Sw (utf8_ValidString (bs s) w (by rw[Vq];omega) hG.tabs)
def BJ(s:Str){w:World}(hG:Gl w):Calls prog 95 #[I s] w (Qb λv w'=>v=.tuple #[.int .i32 (Lib.decodeGo (bs s)).1,J (Lib.decodeGo (bs s)).2]/\Same [] w w') :=
  Sw (utf8_DecodeRuneInString (bs s) w hG.tabs)
def K8(s:Str)(hl:aL s<=140737488355328)(w0:World)(hG:Gl w0):Calls prog 70 #[I s] w0 (Qb λv w'=>∃n,v=.tuple #[J n,.bool (Lib.validD s)]/\Same [] w0 w'):=by
 refine Ga func70 ntmps70 ?_;intro hF;refine rn 10<|Sa (JD s hl<|hG.ext hF.same) ?_;rintro w hF -;refine rn 3 ⟨λhc0=>?_,λhc0=>?_⟩
 ·
  refine rn 9 ?_;exact⟨_,by rw[hc0],hF.same⟩
 refine rn 6<|J0 (str:=s) hF gX O ?_;rintro b1 w hb1 hF -;refine rn 3<|Wa (λμ σ w=>∃(q:Nat),μ=aL s-q/\(q<=aL s)/\(Lib.validD (s.drop q)=false)/\AllEq σ [(0,I s),(13,V b1)]/\FR w0 [] [(b1,.stringIter (bs s) q)] w) _ ⟨0,O,cZ _,aS hc0,Ib,hF⟩ ?_;rintro μ σ w ⟨q,rfl,hq,hv,hzz,hF⟩;refine Tf hzz 2 ?_;by_cases hn0:(q)<aL (s:Str)
 ·
  refine R8 0 (p:=q) (str:=s) hF O O hn0 ?_;rintro w hF -;refine rn 24 ⟨λhc2=>?_,λhc2=>?_⟩
  ·
   refine rn 1 ?_;have h1:=Te s q;have hw:¬((Utf8.decode (bs s) q).1=65533/\(Utf8.decode (bs s) q).2=1):=by
     first
     | (intro hh;omega)
     | (rw[Yx s q kX]at hc3;intro hh;omega)
   refine Ja ⟨_,?_,q+(Utf8.decode (bs s) q).2,O,Gq s q,G9 s q kX hv hw,Ib,hF⟩;omega
  refine rn 6<|Ca (v:=I<|(s:Str).drop (q)) (Nl (q) gX) ?_;refine Sa (BJ (s.drop q)<|hG.ext hF.same) ?_;rintro w hF -;refine rn 14 ⟨λhc3=>?_,λhc3=>?_⟩
  ·
   refine rn 8 ?_;exact⟨_,by rw[hc0],hF.same⟩
  refine rn 2 ?_;have h1:=Te s q;have hw:¬((Utf8.decode (bs s) q).1=65533/\(Utf8.decode (bs s) q).2=1):=by
    first
    | (intro hh;omega)
    | (rw[Yx s q kX]at hc3;intro hh;omega)
  refine Ja ⟨_,?_,q+(Utf8.decode (bs s) q).2,O,Gq s q,G9 s q kX hv hw,Ib,hF⟩;omega
 refine Vt 0 (p:=q) (str:=s) hF O O hn0<|rn 16 ?_;have e:s.drop q=[]:=List.drop_eq_nil_of_le kX;rw[e]at hv;cases hv
def DX(s:Str)(hl:aL s<=140737488355328)(w0:World)(hG:Gl w0):Calls prog 63 #[I s] w0 (Qb λv w'=>v=.bool (Lib.validD s)/\Same [] w0 w'):=by
 refine Ga func63 ntmps63 ?_;intro hF;refine rn 8<|Gc (K8 s hl _<|hG.ext hF.same) ?_;rintro _ w ⟨n,rfl,hE⟩;have hF:=hF.ext hE;refine rn 14 ?_;exact⟨O,hF.same⟩
theorem UD(s:Str)(hl:aL s<=140737488355328)(w0:World)(hG:Gl w0):Calls prog 62 #[I s] w0 (Qb λv w'=>v=.tuple #[Tm (Ld s).1,.bool (Jh s)]/\Same [] w0 w'):=by
 refine Ga func62 ntmps62 ?_;intro hF;refine rn 3 ?_;rintro b1 w hb1 hF -;refine rn 6<|Sa (XH s hl _) ?_;rintro w hF -;refine rn 4 ?_;rintro b2 w hb2 hF -;refine rn 4<|Yb (.of []) (bQ [0,1,2,3,4,6]<|.act 5<|.free 7<|.free 8<|.act 9<|.free 10 .nil) hF ?_;rintro w hF -;refine⟨λwq=>FR w0 [] [(b2,.cells #[.bool<|(Ld s).1.neg,I<|(Ld s).1.digits,J<|(Ld s).1.exp] 68)] wq,hF.sub<|.cons_cons _<|.cons _ .slnil,?_⟩;refine rn 5 ⟨λhg0=>?_,λhg0=>?_⟩;refine rn 2 ?_;refine Ie (ZQ (Ld s).1 (by have:=Kk s;omega) _<|hG.ext hF.same) ?_;rintro w hF -;refine rn 3 ?_;rintro w hF -;refine rn 4 ?_;exact⟨by simp_all[Jh,Tm],hF.same⟩;refine rn 2<|Rp ?_<|hF.sub<|.cons_cons _<|.cons _ .slnil;refine rn 3 ?_;rintro w hF -;refine rn 4 ?_;exact⟨by simp_all[Jh,Tm],hF.same⟩
theorem hole_c(s:Str)(hl:aL s<=140737488355328)(w0:World)(hG:Gl w0):Calls prog 64 #[I s] w0 (Qb λv w'=>v=.bool (Er s)/\Same [] w0 w'):=by
 refine Ga func64 ntmps64 ?_;intro hF;refine rn 8<|Sa (UD s hl _<|hG.ext hF.same) ?_;rintro w hF -;refine rn 4 ?_;rintro b1 w hb1 hF -;refine rn 6 ?_;refine Sa (AO (Ld s).1 (by have:=Kk s;omega) _<|hG.ext hF.same) ?_;rintro w hF -;refine rn 12 ⟨λhg0=>?_,λhg0=>?_⟩;refine rn 4 ⟨λhg1=>?_,λhg1=>?_⟩;refine rn 7 ?_;exact⟨by simp_all[Er],hF.same⟩;refine rn 7 ?_;exact⟨by simp_all[Er],hF.same⟩;refine rn 10 ?_;exact⟨by simp_all[Er],hF.same⟩
def Aj(ks:List Str)(n:Int):Bool:=decide ks.Nodup&&ks.all Lib.validD&&decide ((aL ks:Int)=n)
def Bm(ks:List Str):MapL:=ks.map λk=>(k,.bool true)
theorem Mm(ks:List Str)(k:Str):Pd (Bm ks) k=if k∈ks then some (.bool true) else none:=by
  induction ks with
  | nil=>rfl
  | cons a r ih=>grind [Bm,Pd]
def CU(ks:List Str)(j:Nat)(h:j<aL ks):Bm (ks.take j)++[(ks[j],.bool true)]=Bm (ks.take (j+1)):=by
  unfold Bm;rw[iQ h,jQ];rfl
theorem Mu(h:j<aL ks)(hn:(ks.take j).Nodup)(hi:¬ks[j]∈ks.take j):(ks.take (j+1)).Nodup:=by
  rw[iQ h,List.nodup_append];grind
theorem Qt(h:j<aL ks)(hi:ks[j]∈ks.take j):¬ks.Nodup:=by
  intro hn;obtain⟨i,hi',he⟩:=List.getElem_of_mem hi;rw[List.getElem_take]at he;have hi2:i<j:=qK
  have:=(List.pairwise_iff_getElem.1 hn) i j kX h hi2;grind
def Xx{f:Str->Bool}(h:j<aL ks)(ha:(ks.take j).all f=true)(hv:f ks[j]=true):(ks.take (j+1)).all f=true:=by
  rw[iQ h,List.all_append,ha];simp[hv]
theorem CX{f:Str->Bool}(h:j<aL ks)(hv:f ks[j]=false):ks.all f=false:=qK
def keyed_c(ks:List Str)(n:Int)(S:Nat->Prop)(A:Option Addr)(c:Nat)(hl:∀k∈ks,aL k<=140737488355328)(w0:World)(hG:Gl w0)(hX:Rep S w0 (Ya ks) [.slice A (aL ks) c]):Calls prog 61 #[.slice A (aL ks) c,J n] w0 (Qb λv w'=>v=.bool (Aj ks n)/\Same [] w0 w'):=by
 have hXl:=hX.slice_len;refine Ga func61 ntmps61 ?_;intro hF;refine rn 9<|Cl (v:=λb=>.map<|some b) hF (T4 wZ O) ?_;rintro b1 w hb1 hF -;refine rn 12 ?_;have hF:FR w0 [] [(b1,Xb<|Bm<|ks.take 0)] w:=hF;refine Wa (λμ σ w=>∃(j:Nat),μ=aL ks-j/\(j<=aL ks)/\((ks.take j).Nodup)/\((ks.take j).all Lib.validD=true)/\AllEq σ [(0,.slice A (aL ks) c),(1,J n),(5,.map<|some b1),(11,.slice A (aL ks) c),(12,J<|(aL ks:Nat)),(13,J<|(j:Int))]/\FR w0 [] [(b1,Xb<|Bm<|ks.take j)] w) _ ⟨0,O,cZ _,Da,Da,Ib,hF⟩ ?_;rintro μ σ w ⟨j,rfl,hj,hd,hv,hzz,hF⟩;refine Tf hzz 7 ⟨λhc0=>?_,λhc0=>?_⟩;refine rn 6 ?_;obtain⟨ad0,hA0,hk0,hx0⟩:=hX.str_elem (i:=j) kX;refine Ca (v:=.pointer<|some<|ad0.add<|j*1) (Ea (i:=(j:Int)) Nd hA0)<|Ca (v:=I<|ks[j]) (Ma sZ<|hF.cell0 hk0) ?_;refine rn 8 ?_;refine Ca (v:=.bool<|decide (ks[j]∈ks.take j)) (Hg wZ gX zeroValue4 O O (hF.heap (i:=0) O) jN) ?_;refine rn 2 ⟨λhg1=>?_,λhg1=>?_⟩;refine rn 13 ?_;have:=Qt (ks:=ks) (j:=j) kX qW;exact⟨xQ Value.bool (by unfold Aj;rw[eZ this];rfl),hF.same⟩;refine rn 1<|Sa (DX ks[j] (hl _<|eQ _) _ (hG.ext hF.same)) ?_;rintro w hF -;refine rn 5 ⟨λhc1=>?_,λhc1=>?_⟩;refine rn 6 ?_;have:=CX (f:=Lib.validD) (ks:=ks) (j:=j) kX (aS hc1);exact⟨xQ Value.bool (by unfold Aj;rw[this,Bool.and_false];rfl),hF.same⟩;refine rn 5<|Pn 0 (v:=.bool true) hF wZ gX O O O O (by rw[Mm,tQ qW]) ?_;rintro w hF -;rw[CU ks j kX]at hF;have hF:FR w0 [] [(b1,Xb<|Bm<|ks.take<|j+1)] w:=hF;refine rn 4<|Kc Ui ?_;refine rn 2<|Ja ⟨_,?_,j+1,O,kX,Mu kX hd qW,Xx kX hv (aS hc1),Ib,hF⟩;omega;refine rn 12 ?_;obtain rfl:j=aL ks:=by_Om
 rw[List.take_length]at hd hv;exact⟨xQ Value.bool (by unfold Aj;rw[hv,fZ hd];rfl),hF.same⟩
mutual
def Sz:Tree->Prop|.node _ t ks xs=>aL t<=140737488355328/\(∀k∈ks,aL k<=140737488355328)/\BL xs
def BL:List Tree->Prop|[]=>True|x::xs=>Sz x/\BL xs
end
theorem Lv:∀{xs:List Tree},BL xs->∀x∈xs,Sz x
  | [],_,_,h=>absurd h Da
  | y :: ys, h, x, hx => by
    rw[BL]at h;rcases oQ.1 hx with rfl|hx
    ·exact h.1
    exact Lv h.2 x hx
def nodeB:Tree->Bool
  | .node k t ks xs =>
    if k=5 then decide (ks=[])&&decide (t=[]) else
    if k=6 then Aj ks (aL xs)&&decide (t=[]) else
    if ks≠[]\/xs≠[] then false else
    if k=1 then decide (t=[]) else
    if k=2 then decide (t=[116,114,117,101]) || decide (t=[102,97,108,115,101]) else
    if k=3 then Jh t else if k=4 then Lib.validD t else if k=7 then Er t else false
def OD(g:Nat)(q:Tree->Bool):Prop:=∀(x:Tree)(S:Nat->Prop)(w0:World)(cs:List Value),Rep S w0 (Ta x) cs->Sz x->Gl w0->Calls prog g #[.agg cs.toArray] w0 (Qb λv w'=>v=.bool (q x)/\Same [] w0 w')
theorem len_pos{α:Type}(l:List α):decide ((0:Int)<(aL l:Int))=decide (l≠[]):=by
  cases l <;> simp
theorem node_c  : OD 34 nodeB:=by
 rintro⟨k,t,ks,xs⟩ S w0 cs hR hk hG;obtain⟨A,c,B,e,rfl,-,-,hK,hX⟩:=hR.tree_inv;rw[Sz]at hk;refine Ga func34 ntmps34 ?_;intro hF;refine rn 3 ?_;rintro b1 w hb1 hF -;refine rn 4<|Wd (zs:=.of []) (bQ [0,1,2,3,4,5,6,7,8,9] .nil) hF ?_;intro w hF;refine rn 27 ⟨λhc0=>?_,λhc0=>?_⟩;refine rn 6 ⟨λhg0=>?_,λhg0=>?_⟩;refine rn 8 ⟨?_,hF.same⟩;clear hF hR hK hX hb1;simp_all[nodeB,List.length_pos_iff];refine rn 8 ⟨?_,hF.same⟩;clear hF hR hK hX hb1;simp_all[nodeB,List.length_pos_iff];refine rn 7 ⟨λhc1=>?_,λhc1=>?_⟩;refine rn 7<|Sa (keyed_c ks (aL xs:Nat) S A c (aS hk.2.1) _ (hG.ext hF.same)<|hF.rep hK) ?_;rintro w hF -;refine rn 2 ⟨λhg1=>?_,λhg1=>?_⟩;refine rn 8 ⟨?_,hF.same⟩;clear hF hR hK hX hb1;simp_all[nodeB,List.length_pos_iff];refine rn 8 ⟨?_,hF.same⟩;clear hF hR hK hX hb1;simp_all[nodeB,List.length_pos_iff];refine rn 9 ⟨λhg2=>?_,λhg2=>?_⟩;refine rn 11 ⟨?_,hF.same⟩;clear hF hR hK hX hb1;simp_all[nodeB,List.length_pos_iff];refine rn 5 ⟨λhc2=>?_,λhc2=>?_⟩;refine rn 6 ⟨?_,hF.same⟩;clear hF hR hK hX hb1;simp_all[nodeB,List.length_pos_iff];refine rn 17 ⟨λhc3=>?_,λhc3=>?_⟩;refine rn 9 ⟨?_,hF.same⟩;clear hF hR hK hX hb1;simp_all[nodeB,List.length_pos_iff];refine rn 7 ⟨λhc4=>?_,λhc4=>?_⟩;refine rn 7 ⟨λhg3=>?_,λhg3=>?_⟩;refine rn 8 ⟨?_,hF.same⟩;clear hF hR hK hX hb1;simp_all[nodeB,List.length_pos_iff];refine rn 8 ⟨?_,hF.same⟩;clear hF hR hK hX hb1;simp_all[nodeB,List.length_pos_iff];refine rn 7 ⟨λhc5=>?_,λhc5=>?_⟩;refine rn 4<|Sa (UD t hk.1 _<|hG.ext hF.same) ?_;rintro w hF -;refine rn 4 ?_;rintro b2 w hb2 hF -;refine rn 10 ⟨?_,hF.same⟩;clear hF hR hK hX hb1;simp_all[nodeB,List.length_pos_iff];refine rn 7 ⟨λhc6=>?_,λhc6=>?_⟩;refine rn 4<|Sa (DX t hk.1 _<|hG.ext hF.same) ?_;rintro w hF -
 refine rn 4 ⟨?_,hF.same⟩;clear hF hR hK hX hb1;simp_all[nodeB,List.length_pos_iff];refine rn 7 ⟨λhc7=>?_,λhc7=>?_⟩;refine rn 4<|Sa (hole_c t hk.1 _<|hG.ext hF.same) ?_;rintro w hF -;refine rn 4 ⟨?_,hF.same⟩;clear hF hR hK hX hb1;simp_all[nodeB,List.length_pos_iff];refine rn 9 ⟨?_,hF.same⟩;clear hF hR hK hX hb1;simp_all[nodeB,List.length_pos_iff]
def Tree.ind{Q:Tree->Prop}(h:∀k t ks xs,(∀x,x∈xs->Q x)->Q (.node k t ks xs))(x:Tree):Q x :=
  Tree.rec (motive_1:=Q) (motive_2:=λxs=>∀x,x∈xs->Q x) (λk t ks xs ih=>h k t ks xs ih) Da
    (λy ys h1 h2=>by
      intro z hz;rcases oQ.1 hz with rfl|hz
      ·exact h1
      exact h2 z hz) x
mutual
def Ka:Tree->Nat|.node _ _ _ xs=>1+Qa xs
def Qa:List Tree->Nat|[]=>0|x::xs=>Ka x+Qa xs
end
mutual
def Cb:Tree->Nat|.node _ _ _ xs=>Fb xs+1
def Fb:List Tree->Nat|[]=>0|x::xs=>max (Cb x) (Fb xs)
end
theorem Tc:∀(xs ys:List Tree),Qa (xs++ys)=Qa xs+Qa ys
  | [],ys=>by simp[Qa]
  | x::xs,ys=>by simp[Qa,Tc xs ys,Nat.add_assoc]
theorem Sl:∀(xs ys:List Tree),Fb (xs++ys)=max (Fb xs) (Fb ys)
  | [],ys=>by simp[Fb]
  | x::xs,ys=>by simp only[List.cons_append,Fb,Sl xs ys];omega
def Q6(xs:List Tree)(j:Nat)(hj:j<aL xs):Qa (xs.take (j+1))=Qa (xs.take j)+Ka xs[j]:=by
  rw[iQ hj,Tc];simp[Qa]
def W1(xs:List Tree)(j:Nat)(hj:j<aL xs):Fb (xs.take (j+1))=max (Fb (xs.take j)) (Cb xs[j]):=by
  rw[iQ hj,Sl];simp[Fb]
theorem Kd:∀{xs:List Tree}{x:Tree},x∈xs->Ka x<=Qa xs
  | [],_,h=>absurd h Da
  | y :: ys, x, h => by
    rw[Qa];rcases oQ.1 h with rfl|h
    ·omega
    have:=Kd h;omega
theorem Vo(x:Tree):1<=Ka x:=by
  cases x;rw[Ka];omega
theorem Ee:∀(xs:List Tree),aL xs<=Qa xs
  | []=>by simp[Qa]
  | x::xs=>by have:=Ee xs;have:=Vo x;simp only[Qa,kQ];omega
theorem depth_le(x:Tree):Cb x<=Ka x:=by
  refine Tree.ind (Q:=λx=>Cb x<=Ka x) (λk t ks xs ih=>?_) x;have:Fb xs<=Qa xs:=by
    induction xs with
    | nil=>simp[Fb,Qa]
    | cons y ys ihy=>grind [Fb,Qa]
  grind [Cb,Ka]
theorem Lz(xs:List Tree):Fb xs<=Qa xs:=by
  have:=depth_le<|.node 0 [] [] xs;grind [Cb,Ka]
def SizeC(x:Tree):Prop:=∀S w0 cs,Rep S w0 (Ta x) cs->Calls prog 58 #[.agg cs.toArray] w0 (Qb λv w'=>v=J (wr (Ka x))/\Same [] w0 w')
def GZ(k:Int)(t:Str)(ks:List Str)(xs:List Tree)(ih:∀x,x∈xs->SizeC x):SizeC (.node k t ks xs):=by
 intro S w0 cs hR;obtain⟨A,c,B,e,rfl,-,-,-,hX⟩:=hR.tree_inv;have hXl:=hX.slice_len;refine Ga func58 ntmps58 ?_;intro hF;refine rn 3 ?_;rintro b1 w hb1 hF -;refine rn 18<|Wa (λμ σ w=>∃(j:Nat),μ=aL xs-j/\(j<=aL xs)/\AllEq σ [(3,J<|wr<|1+Qa (xs.take j)),(7,.slice B (aL xs) e),(8,J<|(aL xs:Nat)),(9,J<|(j:Int))]/\FR w0 [] [(b1,.cells #[J k,I t,.slice A (aL ks) c,.slice B (aL xs) e] 25)] w) _ ⟨0,O,cZ _,ae4,hF⟩ ?_;rintro μ σ w ⟨j,rfl,hj,hzz,hF⟩;refine Tf hzz 7 ⟨λhc0=>?_,λhc0=>?_⟩;refine rn 6 ?_;obtain⟨ad0,cs0,hA0,hl0,hk0,hx0⟩:=hX.tree_elem (i:=j) kX;have ho0:=hx0.one_;refine Ca (v:=.pointer<|some<|ad0.add<|j*4) (Ea (i:=(j:Int)) Ad hA0)<|Ca (v:=.agg<|List.toArray cs0) (Pa (l:=cs0) oZ tZ O hl0<|hF.cells0 hk0) ?_;refine Ho (l:=cs0) hF iX jA wM (v:=.agg<|List.toArray cs0) O O (ho0) O ?_;rintro b2 w hb2 hF -;refine rn 4<|Ca (v:=.agg<|List.toArray cs0) (Pa (l:=cs0) oZ tZ O hl0<|hF.cellsAll 0 O) ?_;refine Sa (ih _ (eQ _) _ _ _<|hF.rep hx0) ?_;rintro w hF -;refine Ca (v:=J<|wr<|1+Qa (xs.take<|j+1)) (Ku O O (by rw[wr_wr_add,Q6 xs j kX,Int.natCast_add,Int.add_assoc]))<|rn 5 ?_;refine Kc Ui<|rn 2 ?_;refine Ja ⟨_,?_,j+1,O,kX,Ib,hF.drop 1⟩;omega;refine rn 9 ?_;obtain rfl:j=aL xs:=by_Om
 exact⟨by simp[Ka],hF.same⟩
def size_c(x:Tree):SizeC x:=Tree.ind GZ x
def HV(x:Tree):Prop:=Ka x<=1000000000->∀S w0 cs,Rep S w0 (Ta x) cs->Calls prog 59 #[.agg cs.toArray] w0 (Qb λv w'=>v=J (Cb x:Nat)/\Same [] w0 w')
def GQ(k:Int)(t:Str)(ks:List Str)(xs:List Tree)(ih:∀x,x∈xs->HV x):HV (.node k t ks xs):=by
 intro hsz S w0 cs hR;obtain⟨A,c,B,e,rfl,-,-,-,hX⟩:=hR.tree_inv;have hXl:=hX.slice_len;have hdl:=Lz xs;rw[Ka]at hsz;refine Ga func59 ntmps59 ?_;intro hF;refine rn 3 ?_;rintro b1 w hb1 hF -;refine rn 18<|Wa (λμ σ w=>∃(j:Nat),μ=aL xs-j/\(j<=aL xs)/\AllEq σ [(3,J<|(Fb (xs.take j):Nat)),(7,.slice B (aL xs) e),(8,J<|(aL xs:Nat)),(9,J<|(j:Int))]/\FR w0 [] [(b1,.cells #[J k,I t,.slice A (aL ks) c,.slice B (aL xs) e] 25)] w) _ ⟨0,O,cZ _,ae4,hF⟩ ?_;rintro μ σ w ⟨j,rfl,hj,hzz,hF⟩;refine Tf hzz 7 ⟨λhc0=>?_,λhc0=>?_⟩;refine rn 6 ?_;obtain⟨ad0,cs0,hA0,hl0,hk0,hx0⟩:=hX.tree_elem (i:=j) kX;have ho0:=hx0.one_;refine Ca (v:=.pointer<|some<|ad0.add<|j*4) (Ea (i:=(j:Int)) Ad hA0)<|Ca (v:=.agg<|List.toArray cs0) (Pa (l:=cs0) oZ tZ O hl0<|hF.cells0 hk0) ?_;refine Ho (l:=cs0) hF iX jA wM (v:=.agg<|List.toArray cs0) O O (ho0) O ?_;rintro b2 w hb2 hF -;refine rn 4<|Ca (v:=.agg<|List.toArray cs0) (Pa (l:=cs0) oZ tZ O hl0<|hF.cellsAll 0 O) ?_;refine Sa (ih _ (eQ _) qU _ _ _<|hF.rep hx0) ?_;rintro w hF -;refine Ca (v:=J<|(Fb (xs.take<|j+1):Nat)) jG ?_;refine rn 5<|Kc Ui ?_;refine rn 2<|Ja ⟨_,?_,j+1,O,kX,Ib,hF.drop 1⟩;omega;refine rn 5 ?_;have eT:xs.take j=xs:=dZ kX;refine Ca (v:=J<|(Cb (.node k t ks xs):Nat)) (Ku O O (by rw[eT,Cb];exact Od kX kX kX)) ?_;refine rn 4 ?_;exact⟨O,hF.same⟩
def depth_c(x:Tree):HV x:=Tree.ind GQ x
def Same.cell{w w':World}{a:Addr}{v:Value}(h:Same [] w w')(hc:w.cell? a=some v):w'.cell? a=some v:=((FR.start w []).ext h).cell0 hc
mutual
def Zb(q:Tree->Bool):Tree->Bool|.node k t ks xs=>q (.node k t ks xs)&&Uq q xs
def Uq(q:Tree->Bool):List Tree->Bool|[]=>true|x::xs=>Zb q x&&Uq q xs
end
theorem Qs(q:Tree->Bool):∀xs:List Tree,Uq q xs = !(xs.any λx=>!Zb q x)
  | []=>rfl
  | x::xs=>by rw[Uq,Qs q xs];simp
def EachC(w0:World)(bb:Nat)(xs:List Tree)(q:Tree->Bool):Prop:=∀x,x∈xs->∀S w cs,Same [] w0 w->Rep S w (Ta x) cs->Calls prog 60 #[.agg cs.toArray,V bb] w (Qb λv w'=>v=.bool (q x)/\Same [] w w')
def EachC.ext{w0 w:World}{bb:Nat}{xs:List Tree}{q:Tree->Bool}(h:EachC w0 bb xs q)(hs:Same [] w0 w):EachC w bb xs q:=λx hx S w' cs hw=>h x hx S w' cs<|hs.trans hw
def W3{q:Tree->Bool}{xs:List Tree}{j:Nat}(h:j<aL xs)(hn:(xs.take j).any q=false)(hq:q xs[j]=false):(xs.take (j+1)).any q=false:=by
  rw[iQ h,List.any_append,hn];simp[hq]
def Bz(g:Nat)(q:Tree->Bool)(x:Tree):Prop:=∀S w0 cs,Rep S w0 (Ta x) cs->Sz x->Gl w0->Calls prog 32 #[.agg cs.toArray,.func (.func g) #[] #[]] w0 (Qb λv w'=>v=.bool (Zb q x)/\Same [] w0 w')
def EP(xs:List Tree)(q:Tree->Bool)(bb:Nat)(B:Option Addr)(e:Nat)(S:Nat->Prop)(w0:World)(hX:Rep S w0 (.slice (Rb xs)) [.slice B (aL xs) e])(hq:EachC w0 bb xs q):Calls prog 68 #[.slice B (aL xs) e,.func (.func 60) #[] #[V bb]] w0 (Qb λv w'=>∃n:Int,v=J n/\decide (0<=n)=xs.any q/\Same [] w0 w'):=by
 have hXl:=hX.slice_len;refine Ga func68 ntmps68 ?_;intro hF;refine rn 14<|Wa (λμ σ w=>∃(j:Nat),μ=aL xs-j/\(j<=aL xs)/\((xs.take j).any q=false)/\AllEq σ [(0,.slice B (aL xs) e),(1,.func (.func 60) #[] #[.pointer<|some<|⟨bb,0,none⟩]),(7,J<|(aL xs:Nat)),(8,J<|(j:Int))]/\FR w0 [] [] w) _ ⟨0,O,cZ _,Da,Ib,hF⟩ ?_;rintro μ σ w ⟨j,rfl,hj,hn,hzz,hF⟩;refine Tf hzz 7 ⟨λhc0=>?_,λhc0=>?_⟩;refine rn 15 ?_;obtain⟨ad0,cs0,hA0,hl0,hk0,hx0⟩:=hX.tree_elem (i:=j) kX;have ho0:=hx0.one_;refine Ca (v:=.pointer<|some<|ad0.add<|j*4) (Ea (i:=(j:Int)) Ad hA0)<|Ca (v:=.agg<|List.toArray cs0) (Pa (l:=cs0) oZ tZ O hl0<|hF.cells0 hk0) ?_;refine Wl hF (hq _ (List.getElem_mem (l:=xs) (n:=j) kX) _ _ _ hF.same<|hF.rep hx0) (Ze O en_60 O O) ?_;intro w hF;refine rn 3 ⟨λhc1=>?_,λhc1=>?_⟩;refine rn 7 ?_;exact⟨_,O,by rw[List.any_eq_true.2 ⟨_,List.getElem_mem (l:=xs) (n:=j) kX,hc1⟩];simp,hF.same⟩;refine rn 4<|Kc Ui ?_;refine rn 2<|Ja ⟨_,?_,j+1,O,kX,W3 kX hn hc1,Ib,hF⟩;omega;refine rn 8 ?_;have eT:xs.take j=xs:=dZ kX;rw[eT]at hn;exact⟨_,O,by rw[hn];decide,hF.same⟩
def Aw(xs:List Tree)(q:Tree->Bool)(bb:Nat)(B:Option Addr)(e:Nat)(S:Nat->Prop)(w0:World)(hX:Rep S w0 (.slice (Rb xs)) [.slice B (aL xs) e])(hq:EachC w0 bb xs q):Calls prog 37 #[.slice B (aL xs) e,.func (.func 60) #[] #[V bb]] w0 (Qb λv w'=>v=.bool (xs.any q)/\Same [] w0 w'):=by
 refine Ga func37 ntmps37 ?_;intro hF;refine rn 9<|Gc (EP xs q bb B e S _ (hF.rep hX)<|hq.ext hF.same) ?_;rintro _ w ⟨n,rfl,hn,hE⟩;have hF:=hF.ext hE;refine rn 5 ?_;exact⟨xQ Value.bool hn,hF.same⟩
def ND(g:Nat)(q:Tree->Bool)(x:Tree)(h:Bz g q x)(bb:Nat)(S:Nat->Prop)(w0:World)(cs:List Value)(hR:Rep S w0 (Ta x) cs)(hk:Sz x)(hG:Gl w0)(hb:w0.cell? ⟨bb,0,none⟩=some (.func (.func g) #[] #[])):Calls prog 60 #[.agg cs.toArray,V bb] w0 (Qb λv w'=>v=.bool (!Zb q x)/\Same [] w0 w'):=by
 have hl:aL cs=4:=hR.length.trans<|Eb x;have ho:=hR.one_;refine Ga func60 ntmps60 ?_;intro hF;refine rn 2<|Oi (v:=.agg<|List.toArray cs) (cs:=(List.toArray cs)) hF O O ?_;rintro b1 w hb1 hF -;refine rn 5<|Ca (v:=.agg<|List.toArray cs) (Pa (l:=cs) oZ tZ O hl<|hF.cellsAll 0 O)<|Ca (v:=.func (.func g) #[] #[]) (Ma isAgg45<|hF.cell0 hb) ?_;refine Sa (h S _ cs (hF.rep hR) hk<|hG.ext hF.same) ?_;rintro w hF -;refine rn 5 ?_;exact⟨O,hF.same⟩
theorem PJ(q:Tree->Bool)(hp:OD 33 q)(k:Int)(t:Str)(ks:List Str)(xs:List Tree)(ih:∀x,x∈xs->Bz 33 q x):Bz 33 q (.node k t ks xs):=by
 intro S w0 cs hR hk hG;have hk':=hk;rw[Sz]at hk';obtain⟨A,c,B,e,rfl,-,-,hK,hX⟩:=hR.tree_inv;refine Ga func32 ntmps32 ?_;intro hF;refine rn 3 ?_;rintro b1 w hb1 hF -;refine rn 1 ?_;rintro b2 w hb2 hF -;refine rn 7<|Wl hF (hp (.node k t ks xs) S _ _ (hF.rep hR) hk<|hG.ext hF.same) (Ze O en_33 O O) ?_;intro w hF;refine rn 2 ⟨λhg0=>?_,λhg0=>?_⟩;refine rn 2<|Ca (v:=.func (.func 60) #[] #[V b2]) Jf ?_;refine Sa (Aw xs (λx=>!Zb q x) b2 B e S _ (hF.rep hX) λx hx S' w' cs' hs hr=>ND 33 q x (ih x hx) b2 S' w' cs' hr (Lv hk'.2.2 x hx) ((hG.ext hF.same).ext hs)<|hs.cell<|hF.cell 0 O O) ?_;rintro w hF -;refine rn 6 ⟨?_,hF.same⟩;rw[Zb,Qs];simp_all;refine rn 10 ⟨?_,hF.same⟩;rw[Zb,Qs];simp_all
def every61_c(q:Tree->Bool)(hp:OD 33 q)(x:Tree):Bz 33 q x:=Tree.ind (PJ q hp) x
theorem KK(q:Tree->Bool)(hp:OD 34 q)(k:Int)(t:Str)(ks:List Str)(xs:List Tree)(ih:∀x,x∈xs->Bz 34 q x):Bz 34 q (.node k t ks xs):=by
 intro S w0 cs hR hk hG;have hk':=hk;rw[Sz]at hk';obtain⟨A,c,B,e,rfl,-,-,hK,hX⟩:=hR.tree_inv;refine Ga func32 ntmps32 ?_;intro hF;refine rn 3 ?_;rintro b1 w hb1 hF -;refine rn 1 ?_;rintro b2 w hb2 hF -;refine rn 7<|Wl hF (hp (.node k t ks xs) S _ _ (hF.rep hR) hk<|hG.ext hF.same) (Ze O en_34 O O) ?_;intro w hF;refine rn 2 ⟨λhg0=>?_,λhg0=>?_⟩;refine rn 2<|Ca (v:=.func (.func 60) #[] #[V b2]) Jf ?_;refine Sa (Aw xs (λx=>!Zb q x) b2 B e S _ (hF.rep hX) λx hx S' w' cs' hs hr=>ND 34 q x (ih x hx) b2 S' w' cs' hr (Lv hk'.2.2 x hx) ((hG.ext hF.same).ext hs)<|hs.cell<|hF.cell 0 O O) ?_;rintro w hF -;refine rn 6 ⟨?_,hF.same⟩;rw[Zb,Qs];simp_all;refine rn 10 ⟨?_,hF.same⟩;rw[Zb,Qs];simp_all
def every62_c(q:Tree->Bool)(hp:OD 34 q)(x:Tree):Bz 34 q x:=Tree.ind (KK q hp) x
def rnodeB(x:Tree):Bool:=decide (x.kind≠7)&&nodeB x
def Ji(x:Tree):Bool:=decide (Ka x<=4096)&&decide (Cb x<=32)
def Fd(x:Tree):Bool:=Ji x&&Zb nodeB x
def Ob(x:Tree):Bool:=Ji x&&Zb rnodeB x
def wr_small{n:Nat}(h:n<=1000000000):wr (n:Int)=(n:Int):=Of kX kX
theorem rnode_c  : OD 33 rnodeB:=by
 rintro⟨k,t,ks,xs⟩ S w0 cs hR hk hG;obtain⟨A,c,B,e,rfl,-,-,hK,hX⟩:=hR.tree_inv;refine Ga func33 ntmps33 ?_;intro hF;refine rn 3 ?_;rintro b1 w hb1 hF -;refine rn 10 ⟨λhg0=>?_,λhg0=>?_⟩;refine rn 1<|Sa (node_c (.node k t ks xs) S _ _ (hF.rep hR) hk<|hG.ext hF.same) ?_;rintro w hF -;refine rn 5 ⟨?_,hF.same⟩;simp_all[rnodeB,Tree.kind];refine rn 7 ⟨?_,hF.same⟩;simp_all[rnodeB,Tree.kind]
def size_v(x:Tree)(hsz:Ka x<=1000000000)(S:Nat->Prop)(w0:World)(cs:List Value)(hR:Rep S w0 (Ta x) cs):Calls prog 58 #[.agg cs.toArray] w0 (Qb λv w'=>v=J (Ka x:Nat)/\Same [] w0 w'):=by
  have h:=size_c x S w0 cs hR
  rwa [wr_small hsz]at h
def TV(x:Tree)(hsz:Ka x<=1000000000)(S:Nat->Prop)(w0:World)(cs:List Value)(hR:Rep S w0 (Ta x) cs):Calls prog 31 #[.agg cs.toArray] w0 (Qb λv w'=>v=.bool (Ji x)/\Same [] w0 w'):=by
 have hl:aL cs=4:=hR.length.trans<|Eb x;have ho:=hR.one_;refine Ga func31 ntmps31 ?_;intro hF;refine rn 2<|Oi (v:=.agg<|List.toArray cs) (cs:=(List.toArray cs)) hF O O ?_;rintro b1 w hb1 hF -;refine rn 5<|Ca (v:=.agg<|List.toArray cs) (Pa (l:=cs) oZ tZ O hl<|hF.cellsAll 0 O) ?_;refine Sa (size_v x hsz S _ cs<|hF.rep hR) ?_;rintro w hF -;refine rn 3 ⟨λhg0=>?_,λhg0=>?_⟩;refine Ca (v:=.agg<|List.toArray cs) (Pa (l:=cs) oZ tZ O hl<|hF.cellsAll 0 O)<|Sa (depth_c x hsz S _ cs<|hF.rep hR) ?_;rintro w hF -;refine rn 6 ⟨xQ Value.bool ?_,hF.same⟩;unfold Ji
 first|(rw[fZ (by omega:Ka x<=4096)];exact decide_eq_decide.2 kX)|(rw[eZ (by omega:¬Ka x<=4096)];rfl)
 refine rn 8 ⟨xQ Value.bool ?_,hF.same⟩;unfold Ji
 first|(rw[fZ (by omega:Ka x<=4096)];exact decide_eq_decide.2 kX)|(rw[eZ (by omega:¬Ka x<=4096)];rfl)
theorem Bu(x:Tree)(hsz:Ka x<=1000000000)(S:Nat->Prop)(w0:World)(cs:List Value)(hR:Rep S w0 (Ta x) cs)(hk:Sz x)(hG:Gl w0):Calls prog 13 #[.agg cs.toArray] w0 (Qb λv w'=>v=.bool (Ob x)/\Same [] w0 w'):=by
 have hl:aL cs=4:=hR.length.trans<|Eb x;have ho:=hR.one_;refine Ga func13 ntmps13 ?_;intro hF;refine rn 2<|Oi (v:=.agg<|List.toArray cs) (cs:=(List.toArray cs)) hF O O ?_;rintro b1 w hb1 hF -;refine rn 5<|Ca (v:=.agg<|List.toArray cs) (Pa (l:=cs) oZ tZ O hl<|hF.cellsAll 0 O) ?_;refine Sa (TV x hsz S _ cs<|hF.rep hR) ?_;rintro w hF -;refine rn 2 ⟨λhg0=>?_,λhg0=>?_⟩;refine Ca (v:=.agg<|List.toArray cs) (Pa (l:=cs) oZ tZ O hl<|hF.cellsAll 0 O)<|Sa (every61_c rnodeB rnode_c x S _ cs (hF.rep hR) hk<|hG.ext hF.same) ?_;rintro w hF -;refine rn 5 ?_;exact⟨xQ Value.bool (by unfold Ob;simp_all),hF.same⟩;refine rn 7 ?_;exact⟨xQ Value.bool (by unfold Ob;simp_all),hF.same⟩
theorem My(x:Tree)(hsz:Ka x<=1000000000)(S:Nat->Prop){w0:World}(cs:List Value)(hR:Rep S w0 (Ta x) cs)(hk:Sz x)(hG:Gl w0):Calls prog 25 #[.agg cs.toArray] w0 (Qb λv w'=>v=.bool (Fd x)/\Same [] w0 w'):=by
 have hl:aL cs=4:=hR.length.trans<|Eb x;have ho:=hR.one_;refine Ga func25 ntmps25 ?_;intro hF;refine rn 2<|Oi (v:=.agg<|List.toArray cs) (cs:=(List.toArray cs)) hF O O ?_;rintro b1 w hb1 hF -;refine rn 5<|Ca (v:=.agg<|List.toArray cs) (Pa (l:=cs) oZ tZ O hl<|hF.cellsAll 0 O) ?_;refine Sa (TV x hsz S _ cs<|hF.rep hR) ?_;rintro w hF -;refine rn 2 ⟨λhg0=>?_,λhg0=>?_⟩;refine Ca (v:=.agg<|List.toArray cs) (Pa (l:=cs) oZ tZ O hl<|hF.cellsAll 0 O)<|Sa (every62_c nodeB node_c x S _ cs (hF.rep hR) hk<|hG.ext hF.same) ?_;rintro w hF -;refine rn 5 ?_;exact⟨xQ Value.bool (by unfold Fd;simp_all),hF.same⟩;refine rn 7 ?_;exact⟨xQ Value.bool (by unfold Fd;simp_all),hF.same⟩
def MapRep(S:Nat->Prop)(w:World)(xs:List Tree)(l:MapL):Prop:=∀i (h:i<aL l),∃cs:List Value,l[i].2=.agg cs.toArray/\∃h2:i<aL xs,Rep S w (Ta xs[i]) cs
def MapRep.nil(S:Nat->Prop)(w:World)(xs:List Tree):MapRep S w xs []:=λi h=>absurd h Da
theorem MapRep.snoc{S:Nat->Prop}{w:World}{xs:List Tree}{l:MapL}{k:Str}{cs:List Value}(h:MapRep S w xs l)(hl:aL l<aL xs)(hr:Rep S w (Ta xs[aL l]) cs):MapRep S w xs (l++[(k,.agg cs.toArray)]):=by
  intro i hi;rw[dQ,List.length_singleton]at hi;by_cases he:i<aL l
  ·obtain⟨c, h1, h2, h3⟩ := h i he
   grind
  grind
theorem JQ{l:MapL}{ks:List Str}{j:Nat}(h:j<aL ks)(hl:l.map (·.1)=ks.take j)(hn:ks.Nodup):Pd l ks[j]=none:=by grind [Qt,Pd]
theorem keys_snoc{l:MapL}{ks:List Str}{j:Nat}{v:Value}(h:j<aL ks)(hl:l.map (·.1)=ks.take j):(l++[(ks[j],v)]).map (·.1)=ks.take (j+1):=qB
theorem keys_len{l:MapL}{ks:List Str}{j:Nat}(h:j<=aL ks)(hl:l.map (·.1)=ks.take j):aL l=j:=by
  have:=xQ List.length hl;grind
def Qw(k:Int)(t:Str)(ks:List Str)(xs:List Tree)(hn:ks.Nodup)(hlen:aL ks=aL xs)(S:Nat->Prop)(w0:World)(cs:List Value)(hR:Rep S w0 (Ta (.node k t ks xs)) cs):Calls prog 53 #[.agg cs.toArray] w0 (Qb λv w'=>∃(b:Nat)(l:MapL),v=.map (some b)/\w0.heap.size<=b/\w'.heap[b]? = some (Xb l)/\l.map (·.1)=ks/\MapRep S w' xs l/\Same [] w0 w'):=by
 obtain⟨A,c,B,e,rfl,-,-,hK,hX⟩:=hR.tree_inv;have hXl:=hX.slice_len;have hKl:=hK.slice_len;refine Ga func53 ntmps53 ?_;intro hF;refine rn 3 ?_;rintro b1 w hb1 hF -;refine rn 8<|Cl (v:=λb=>.map<|some b) hF (T4 dX O) ?_;rintro b2 w hb2 hF -;refine rn 13 (Wa (λμ σ w=>∃(j:Nat),∃(l:MapL),μ=aL ks-j/\(j<=aL ks)/\(l.map (·.1)=ks.take j)/\(MapRep S w0 xs l)/\AllEq σ [(1,V b1),(3,.map<|some b2),(11,.slice A (aL ks) c),(12,J<|(aL ks:Nat)),(13,J<|(j:Int))]/\FR w0 [] [(b2,Xb l),(b1,.cells #[J k,I t,.slice A (aL ks) c,.slice B (aL xs) e] 25)] w) _ ⟨0,[],O,cZ _,Da,MapRep.nil _ _ _,Ib,hF⟩ ?_);rintro μ σ w ⟨j,l,rfl,hj,hl,hr,hzz,hF⟩;have hll:=keys_len hj hl;refine Tf hzz 7 ⟨λhc0=>?_,λhc0=>?_⟩;refine rn 7 ?_;obtain⟨ad0,hA0,hk0,hx0⟩:=hK.str_elem (i:=j) kX;refine Ca (v:=.pointer<|some<|ad0.add<|j*1) (Ea (i:=(j:Int)) Nd hA0)<|Ca (v:=I<|ks[j]) (Ma sZ<|hF.cell0 hk0) ?_;refine rn 10 ?_;obtain⟨ad1,cs1,hA1,hl1,hk1,hx1⟩:=hX.tree_elem (i:=j) kX;have ho1:=hx1.one_;refine Ca (v:=.pointer<|some<|ad1.add<|j*4) (Ea (i:=(j:Int)) Ad hA1)<|Ca (v:=.agg<|List.toArray cs1) (Pa (l:=cs1) oZ tZ O hl1<|hF.cells0 hk1) ?_;refine Pn 0 (v:=.agg<|List.toArray cs1) hF dX gX O O O O (JQ kX hl hn) ?_;rintro w hF -;have hF:FR w0 [] [(b2,Xb<|l++[(ks[j],.agg<|List.toArray cs1)]),(b1,.cells #[J k,I t,.slice A (aL ks) c,.slice B (aL xs) e] 25)] w:=hF;refine rn 4<|Kc Ui ?_;refine rn 2<|Ja ⟨_,?_,j+1,l++[(ks[j],.agg<|List.toArray cs1)],O,kX,keys_snoc kX hl,hr.snoc kX (by simpa only[hll]using hx1),Ib,hF⟩;omega;refine rn 9 ?_;refine⟨b2,l,O,by have:=hF.ge (i:=0) O;exact this,hF.heap (i:=0) O,?_,?_,hF.same⟩;rw[hl];exact dZ kX;intro i hi;obtain⟨cs,h1,h2,h3⟩:=hr i hi;exact⟨cs,h1,h2,hF.rep h3⟩
def Wb:List Str->List Tree->Str->Option Tree
  | k::ks,x::xs,key=>if k=key then some x else Wb ks xs key
  | _,_,_=>none
def MJ(q:Tree->Tree->Bool)(ks:List Str)(xs:List Tree)(ks':List Str)(ys:List Tree):Bool :=
  (ks.zip xs).all λp=>match Wb ks' ys p.1 with|some y=>q p.2 y|none=>false
theorem MapRep.tail{S:Nat->Prop}{w:World}{x:Tree}{xs:List Tree}{p:Str × Value}{l:MapL}(h:MapRep S w (x::xs) (p::l)):MapRep S w xs l:=by
  intro i hi;obtain⟨cs,h1,h2,h3⟩:=h (i+1) (aS hi);grind
theorem Ut{S:Nat->Prop}{w:World}(key:Str):∀{ks:List Str}{xs:List Tree}{l:MapL},l.map (·.1)=ks->MapRep S w xs l ->
    (Pd l key=none/\Wb ks xs key=none)\/∃(cs:List Value)(y:Tree),Pd l key=some (.agg cs.toArray)/\Wb ks xs key=some y/\y∈xs/\Rep S w (Ta y) cs
  | ks, xs, [], hk, _ => by
    left;simp only[List.map_nil]at hk;subst hk;exact⟨O,by cases xs <;> rfl⟩
  | ks, [], p :: l, hk, hm => by
    obtain⟨cs,h1,h2,h3⟩:=hm 0 Da;simp at h2
  | ks, x :: xs, p :: l, hk, hm => by
    rw[jZ]at hk;subst hk;by_cases h:p.1=key
    ·right
     obtain⟨cs,h1,h2,h3⟩:=hm 0 Da;refine⟨cs,x,?_,by simp[Wb,h],Da,h3⟩;simp only[List.getElem_cons_zero]at h1;simp[Pd,h,h1]
    have e1 : Pd (p :: l) key = Pd l key := by simp[Pd, h]
    have e2:Wb (p.1::l.map (·.1)) (x::xs) key=Wb (l.map (·.1)) xs key:=by simp[Wb,h]
    rw[e1,e2];rcases Ut key rfl hm.tail with h|⟨cs,y,h1,h2,h3,h4⟩
    ·exact .inl h
    exact .inr ⟨cs,y,h1,h2,by simp[h3],h4⟩
def BothC(w0:World)(g:Nat)(xs ys:List Tree)(q:Tree->Tree->Bool):Prop:=∀x,x∈xs->∀y,y∈ys->∀S S' w cs ct,Same [] w0 w->Rep S w (Ta x) cs->Rep S' w (Ta y) ct->Calls prog g #[.agg cs.toArray,.agg ct.toArray] w (Qb λv w'=>v=.bool (q x y)/\Same [] w w')
def BothC.ext{w0 w:World}{g:Nat}{xs ys:List Tree}{q:Tree->Tree->Bool}(h:BothC w0 g xs ys q)(hs:Same [] w0 w):BothC w g xs ys q:=λx hx y hy S S' w' cs ct hw=>h x hx y hy S S' w' cs ct<|hs.trans hw
def okAt(q:Tree->Tree->Bool)(ks:List Str)(xs:List Tree)(ks':List Str)(ys:List Tree)(i:Nat):Prop:=∀(h:i<aL ks)(h2:i<aL xs),∃y,Wb ks' ys ks[i]=some y/\q xs[i] y=true
theorem QZ{q:Tree->Tree->Bool}{ks ks':List Str}{xs ys:List Tree}(h:∀i,i<aL ks->okAt q ks xs ks' ys i):MJ q ks xs ks' ys=true:=by
  unfold MJ;rw[List.all_eq_true];intro p hp;obtain⟨i,hi,rfl⟩:=List.getElem_of_mem hp;rw[List.length_zip]at hi;obtain⟨y,h1,h2⟩:=h i kX kX kX;grind
theorem GC{q:Tree->Tree->Bool}{ks ks':List Str}{xs ys:List Tree}{i:Nat}(h:i<aL ks)(h2:i<aL xs)(hn:∀y,Wb ks' ys ks[i]=some y->q xs[i] y=false):MJ q ks xs ks' ys=false:=by
  unfold MJ;rw[Bool.eq_false_iff];intro ha;have:=List.all_eq_true.1 ha ((ks.zip xs)[i]'(by rw[List.length_zip];omega))<|eQ _;grind
def QK(q:Tree->Tree->Bool)(ks ks':List Str)(xs ys:List Tree)(m1 m2:Nat)(l1 l2:MapL)(S S':Nat->Prop)(w0:World)(h1:w0.heap[m1]? = some (Xb l1))(h2:w0.heap[m2]? = some (Xb l2))(hk1:l1.map (·.1)=ks)(hk2:l2.map (·.1)=ks')(hm1:MapRep S w0 xs l1)(hm2:MapRep S' w0 ys l2)(hq:BothC w0 28 xs ys q):Calls prog 52 #[.map (some m1),.map (some m2),.func (.func 28) #[] #[]] w0 (Qb λv w'=>v=.bool (decide (aL ks=aL ks')&&MJ q ks xs ks' ys)/\Same [] w0 w'):=by
 have e1:aL l1=aL ks:=by rw[<-hk1,rQ]
 have e2:aL l2=aL ks':=by rw[<-hk2,rQ]
 refine Ga func52 ntmps52 ?_;intro hF;refine rn 9<|Ca (v:=J<|(aL (l1):Nat)) (S5 dX O<|hF.heap0 h1) ?_;refine rn 1<|Ca (v:=J<|(aL (l2):Nat)) (S5 dX O<|hF.heap0 h2) ?_;refine rn 4 ⟨λhc0=>?_,λhc0=>?_⟩;refine rn 6 ?_;exact⟨xQ Value.bool (by rw[eZ kX];rfl),hF.same⟩;refine rn 6<|Cl (v:=λb=>V b) (o:=.mapIter (some m1) (aL (l1)) #[] (aL (l1))) hF (x_rangeM dX O<|hF.heap0 h1) ?_;rintro b1 w hb1 hF -;refine rn 3<|Wa (λμ σ w=>∃(seen:Array Nat),μ=GB (aL l1) seen/\(∀i,i<aL l1->seen.contains i=true->okAt q ks xs ks' ys i)/\AllEq σ [(1,.map<|some m2),(2,.func (.func 28) #[] #[]),(17,V b1)]/\FR w0 [] [(b1,.mapIter (some m1) (aL (l1)) (seen) (aL (l1)))] w) _ ⟨#[],O,λi _ h=>by simp at h,Ib,hF⟩ ?_;rintro μ σ w ⟨seen,rfl,hs_,hzz,hF⟩;refine Tf hzz 2<|o_nextM 0 (b:=m1) (l:=l1) (seen:=seen) hF O O (hF.heap0 h1) (λhall=>?_) λj w hj hn hF2 hE _=>?_;refine rn 13 ?_;exact⟨xQ Value.bool (by rw[fZ kX,QZ λi hi=>hs_ i kX<|hall i kX];rfl),hF.same⟩;clear hF;have hF:FR w0 [] [(b1,.mapIter (some m1) (aL (l1)) ((seen).push j) (aL (l1)))] w:=hF2;clear hE hF2;refine rn 10 ?_;obtain⟨cx,hcx,hx2,hrx⟩:=hm1 j hj;have hox:=hrx.one_;have hlx:aL cx=4:=hrx.length.trans<|Eb _;have hkj:(l1)[j].1=ks[j]'(by rw[<-hk1,rQ];exact hj):=by have:=List.getElem_map (·.1) (l:=l1) (i:=j) (h:=by rw[rQ];exact hj);simp only[hk1]at this;exact this.symm
 refine Ca (v:=.tuple #[I<|(l1)[j].1,.agg<|List.toArray cx]) (x_entryM O hj (hF.heap (i:=0) O) (hF.heap0 h1) hcx)<|rn 3 ?_;rintro b2 w hb2 hF -;refine rn 1 ?_;refine Td 0 (l:=cx) (cs':=(List.toArray cx)) hF (by rw[hlx];exact tZ) O (v:=.agg<|List.toArray cx) O O (hox) O (by rw[hlx];exact Nat.le_of_ble_eq_true O) (Kh (by rw[hlx];rfl)) ?_;rintro w hF -;refine rn 6 ?_;rcases Ut (l1)[j].1 hk2 hm2 with ⟨hlk,hlt⟩|⟨cy,y,hlk,hlt,hym,hry⟩
 refine Ca (v:=.tuple #[.agg #[J 0,I [],aQ,aQ],.bool false]) (Ok dX gX iX O O (hF.heap0 h2) bA bA) ?_;refine rn 4 ?_;rintro b3 w hb3 hF -;refine rn 23 ?_;exact⟨xQ Value.bool (by rw[GC (i:=j) kX hx2 (λy hy=>by rw[<-hkj,hlt]at hy;cases hy),Bool.and_false]),hF.same⟩;have hoy:=hry.one_;have hly:aL cy=4:=hry.length.trans<|Eb _;refine Ca (v:=.tuple #[.agg<|List.toArray cy,.bool true]) (Ok dX gX iX O O (hF.heap0 h2) bA bA) ?_;refine rn 3 ?_;refine Ho (l:=cy) hF iX (by rw[hly];exact tZ) (by rw[hly];rfl) (v:=.agg<|List.toArray cy) O O (hoy) O ?_;rintro b4 w hb4 hF -;refine rn 9<|Ca (v:=.agg<|List.toArray cx) (Pa (l:=cx) oZ tZ O hlx<|hF.cellsAll 1 O)<|Ca (v:=.agg<|List.toArray cy) (Pa (l:=cy) oZ tZ O hly<|hF.cellsAll 0 O) ?_;refine Wl hF (hq _ (eQ hx2) y hym S S' _ cx cy hF.same (hF.rep hrx)<|hF.rep hry) (Kp O en_28 O O O) ?_;intro w hF;refine rn 5 ⟨λhc2=>?_,λhc2=>?_⟩;refine rn 6 ?_;exact⟨xQ Value.bool (by rw[GC (i:=j) kX hx2 (λy1 hy=>by rw[<-hkj,hlt]at hy;injection hy with hy;subst hy;simpa using hc2),Bool.and_false]),hF.same⟩;refine rn 2 ?_;refine Ja ⟨_,?_,seen.push j,rfl,(λi hi hc=>by rw[contains_push]at hc;rcases Bool.or_eq_true_iff.1 hc with hc|hc;exact hs_ i hi hc;obtain rfl:=beq_iff_eq.1 hc;exact λh _=>⟨y,by rw[<-hkj];exact hlt,by simpa using hc2⟩),Ib,hF.su⟩;exact C7 hj hn
mutual
def We:Tree->Tree->Bool
  | .node k t ks xs,.node k' t' ks' ys=>decide (k=k')&&decide (t=t')&&decide (aL xs=aL ys)&&(if k≠6 then Uu xs ys else decide (aL ks=aL ks')&&Zz xs ks ks' ys)
def Uu:List Tree->List Tree->Bool
  | x::xs,y::ys=>We x y&&Uu xs ys
  | _,_=>true
def Zz:List Tree->List Str->List Str->List Tree->Bool
  | x::xs,k::ks,ks',ys=>(match Wb ks' ys k with|some y=>We x y|none=>false)&&Zz xs ks ks' ys
  | _,_,_,_=>true
end
def Fr(q:Tree->Tree->Bool)(xs ys:List Tree):Bool:=decide (aL xs=aL ys)&&(xs.zip ys).all λp=>q p.1 p.2
theorem Yi:∀xs ys:List Tree,((xs.zip ys).all λp=>We p.1 p.2)=Uu xs ys
  | [],ys=>by cases ys <;> simp[Uu]
  | x::xs,[]=>by simp[Uu]
  | x::xs,y::ys=>by rw[List.zip_cons_cons,List.all_cons,Yi xs ys,Uu]
theorem Jj:∀(xs:List Tree)(ks ks':List Str)(ys:List Tree),MJ We ks xs ks' ys=Zz xs ks ks' ys
  | [],ks,ks',ys=>by cases ks <;> simp[MJ,Zz]
  | x::xs,[],ks',ys=>by simp[MJ,Zz]
  | x :: xs, k :: ks, ks', ys => by
    have:=Jj xs ks ks' ys;unfold MJ at this ⊢;rw[List.zip_cons_cons,List.all_cons,this,Zz]
    try rfl
def FD{q:Tree->Tree->Bool}{xs ys:List Tree}{j:Nat}(h:j<aL xs)(h2:j<aL ys)(ha:((xs.take j).zip (ys.take j)).all (λp=>q p.1 p.2)=true)(hq:q xs[j] ys[j]=true):((xs.take (j+1)).zip (ys.take (j+1))).all (λp=>q p.1 p.2)=true:=by
  rw[iQ h,iQ h2,List.zip_append (by rw[iZ,iZ];omega),List.all_append,ha];simp[hq]
theorem QU{q:Tree->Tree->Bool}{xs ys:List Tree}{j:Nat}(h:j<aL xs)(h2:j<aL ys)(hq:q xs[j] ys[j]=false):((xs.zip ys).all λp=>q p.1 p.2)=false:=by
  rw[Bool.eq_false_iff];intro ha;have:=List.all_eq_true.1 ha ((xs.zip ys)[j]'(by rw[List.length_zip];omega))<|eQ _;grind
def MapRep.ext{S:Nat->Prop}{w w':World}{xs:List Tree}{l:MapL}(h:MapRep S w xs l)(hs:Same [] w w'):MapRep S w' xs l:=λi hi=>by
  obtain⟨cs,h1,h2,h3⟩:=h i hi;exact⟨cs,h1,h2,h3.ext hs⟩
def Same.heap{w w':World}{b:Nat}{o:Obj}(hs:Same [] w w')(h:w.heap[b]? = some o):w'.heap[b]? = some o:=(hs.block b (Ia h) Da).trans h
theorem BG{q:Tree->Bool}:∀{xs:List Tree},Uq q xs=true->∀x∈xs,Zb q x=true
  | [],_,_,h=>absurd h Da
  | y :: ys, h, x, hx => by
    rw[Uq,vQ]at h;rcases oQ.1 hx with rfl|hx
    ·exact h.1
    exact BG h.2 x hx
theorem Yc{q:Tree->Bool}{k:Int}{t:Str}{ks:List Str}{xs:List Tree}(h:Zb q (.node k t ks xs)=true):q (.node k t ks xs)=true/\∀x∈xs,Zb q x=true:=by grind [Zb,BG]
theorem Xk{t:Str}{ks:List Str}{xs:List Tree}(h:nodeB (.node 6 t ks xs)=true):ks.Nodup/\aL ks=aL xs:=by grind [nodeB,Aj]
def SameC(x:Tree):Prop:=∀y S S' w0 cs ct,Rep S w0 (Ta x) cs->Rep S' w0 (Ta y) ct->Zb nodeB x=true->Zb nodeB y=true->Calls prog 28 #[.agg cs.toArray,.agg ct.toArray] w0 (Qb λv w'=>v=.bool (We x y)/\Same [] w0 w')
def HO(q:Tree->Tree->Bool)(xs ys:List Tree)(B B':Option Addr)(e e':Nat)(S S':Nat->Prop)(w0:World)(hX:Rep S w0 (.slice (Rb xs)) [.slice B (aL xs) e])(hY:Rep S' w0 (.slice (Rb ys)) [.slice B' (aL ys) e'])(hq:BothC w0 28 xs ys q):Calls prog 51 #[.slice B (aL xs) e,.slice B' (aL ys) e',.func (.func 28) #[] #[]] w0 (Qb λv w'=>v=.bool (Fr q xs ys)/\Same [] w0 w'):=by
 have hXl:=hX.slice_len;have hYl:=hY.slice_len;refine Ga func51 ntmps51 ?_;intro hF;refine rn 16 ⟨λhc0=>?_,λhc0=>?_⟩;refine rn 6 ?_;exact⟨xQ Value.bool (by unfold Fr;rw[eZ kX];rfl),hF.same⟩;refine rn 11<|Wa (λμ σ w=>∃(j:Nat),μ=aL xs-j/\(j<=aL xs)/\(((xs.take j).zip (ys.take j)).all (λp=>q p.1 p.2)=true)/\AllEq σ [(1,.slice B' (aL ys) e'),(2,.func (.func 28) #[] #[]),(15,.slice B (aL xs) e),(16,J<|(aL xs:Nat)),(17,J<|(j:Int))]/\FR w0 [] [] w) _ ⟨0,O,cZ _,Da,Ib,hF⟩ ?_;rintro μ σ w ⟨j,rfl,hj,ha,hzz,hF⟩;refine Tf hzz 7 ⟨λhc1=>?_,λhc1=>?_⟩;refine rn 7 ?_;obtain⟨ad0,cs0,hA0,hl0,hk0,hx0⟩:=hX.tree_elem (i:=j) kX;have ho0:=hx0.one_;refine Ca (v:=.pointer<|some<|ad0.add<|j*4) (Ea (i:=(j:Int)) Ad hA0)<|Ca (v:=.agg<|List.toArray cs0) (Pa (l:=cs0) oZ tZ O hl0<|hF.cells0 hk0) ?_;refine rn 1 ?_;rintro b1 w hb1 hF -;refine rn 1 ?_;refine Td 0 (l:=cs0) (cs':=(List.toArray cs0)) hF jA O (v:=.agg<|List.toArray cs0) O O (ho0) O (by rw[hl0];exact Nat.le_of_ble_eq_true O) (Kh wM) ?_;rintro w hF -;refine rn 6 ?_;obtain⟨ad1,cs1,hA1,hl1,hk1,hx1⟩:=hY.tree_elem (i:=j) kX;have ho1:=hx1.one_;refine Ca (v:=.pointer<|some<|ad1.add<|j*4) (Ea (i:=(j:Int)) Ad hA1)<|Ca (v:=.agg<|List.toArray cs1) (Pa (l:=cs1) oZ tZ O hl1<|hF.cells0 hk1) ?_;refine Ho (l:=cs1) hF iX rB (by rw[hl1];rfl) (v:=.agg<|List.toArray cs1) O O (ho1) O ?_;rintro b2 w hb2 hF -;refine rn 5<|Ca (v:=.agg<|List.toArray cs0) (Pa (l:=cs0) oZ tZ O hl0<|hF.cellsAll 1 O)<|Ca (v:=.agg<|List.toArray cs1) (Pa (l:=cs1) oZ tZ O hl1<|hF.cellsAll 0 O) ?_;refine Wl hF (hq _ (List.getElem_mem (l:=xs) (n:=j) kX) _ (List.getElem_mem (l:=ys) (n:=j) kX) _ _ _ _ _ hF.same (hF.rep hx0)<|hF.rep hx1) (Kp O en_28 O O O) ?_
 intro w hF;refine rn 4 ⟨λhc2=>?_,λhc2=>?_⟩;refine rn 6 ?_;exact⟨xQ Value.bool (by unfold Fr;rw[QU (j:=j) kX kX (aS hc2),Bool.and_false]),hF.same⟩;refine rn 4<|Kc Ui ?_;refine rn 2<|Ja ⟨_,?_,j+1,O,kX,FD kX kX ha (aS hc2),Ib,hF.su⟩;omega;refine rn 8 ?_;have eX:xs.take j=xs:=dZ kX;have eY:ys.take j=ys:=dZ kX;rw[eX,eY]at ha;exact⟨xQ Value.bool (by unfold Fr;rw[ha,fZ kX];rfl),hF.same⟩
theorem XZ(k:Int)(t:Str)(ks:List Str)(xs:List Tree)(ih:∀x,x∈xs->SameC x):SameC (.node k t ks xs):=by
 rintro⟨k',t',ks',ys⟩ S S' w0 cs ct hR hR' hnx hny;have hnx:=Yc hnx;have hny:=Yc hny;obtain⟨A,c,B,e,rfl,-,-,hK,hX⟩:=hR.tree_inv;obtain⟨A',c',B',e',rfl,-,-,hK',hY⟩:=hR'.tree_inv;have hXl:=hX.slice_len;have hYl:=hY.slice_len;refine Ga func28 ntmps28 ?_;intro hF;refine rn 3 ?_;rintro b1 w hb1 hF -;refine rn 1 ?_;rintro b2 w hb2 hF -;refine rn 17 ⟨λhc0=>?_,λhc0=>?_⟩;refine rn 9 ⟨xQ Value.bool ?_,hF.same⟩;rw[We];clear hF hXl hYl hR hR' hX hY hK hK' ih hnx hny
 ·first|(simp_all[Fr,Yi,Jj];done)|(simp_all[Fr,Yi,Jj];omega)
 refine rn 11 ⟨λhc1=>?_,λhc1=>?_⟩;refine rn 9 ⟨xQ Value.bool ?_,hF.same⟩;rw[We];clear hF hXl hYl hR hR' hX hY hK hK' ih hnx hny
 ·first|(simp_all[Fr,Yi,Jj];done)|(simp_all[Fr,Yi,Jj];omega)
 refine rn 12 ⟨λhc2=>?_,λhc2=>?_⟩;refine rn 6 ⟨xQ Value.bool ?_,hF.same⟩;rw[We];clear hF hXl hYl hR hR' hX hY hK hK' ih hnx hny
 ·first|(simp_all[Fr,Yi,Jj];done)|(simp_all[Fr,Yi,Jj];omega)
 refine rn 9 ⟨λhc3=>?_,λhc3=>?_⟩;refine rn 6<|Sa (HO We xs ys B B' e e' S S' _ (hF.rep hX) (hF.rep hY) λx hx y hy S1 S2 w1 cs1 ct1 _ h1 h2=>ih x hx y S1 S2 w1 cs1 ct1 h1 h2 (hnx.2 x hx)<|hny.2 y hy) ?_;rintro w hF -;refine rn 4 ⟨xQ Value.bool ?_,hF.same⟩;rw[We];clear hF hXl hYl hR hR' hX hY hK hK' ih hnx hny
 ·first|(simp_all[Fr,Yi,Jj];done)|(simp_all[Fr,Yi,Jj];omega)
 refine rn 4<|Wd (zs:=.of []) (.free 0<|.free 2<|cQ [1,3,4]<|.free 5 .nil) hF ?_;intro w hF;refine rn 2 ?_;have k6:k=6:=aS hc3
 refine Bf (Qw k t ks xs (Xk<|k6▸hnx.1).1 (Xk<|k6▸hnx.1).2 S _ _<|hF.rep hR) ?_;rintro _ w ⟨m1,l1,rfl,-,hm1,hk1,hr1,hE⟩;have hF:=hF.ext hE;refine⟨hF,?_⟩;have k6':k'=6:=by_Om
 refine Bf (Qw k' t' ks' ys (Xk<|k6'▸hny.1).1 (Xk<|k6'▸hny.1).2 S' _ _<|hF.rep hR') ?_;rintro _ w ⟨m2,l2,rfl,-,hm2,hk2,hr2,hE⟩;have hF:=hF.ext hE;have hm1:=hE.heap hm1;have hr1:=hr1.ext hE;refine⟨hF,?_⟩;refine Ie (QK We ks ks' xs ys m1 m2 l1 l2 S S' _ hm1 hm2 hk1 hk2 hr1 hr2 λx hx y hy S1 S2 w1 cs1 ct1 _ h1 h2=>ih x hx y S1 S2 w1 cs1 ct1 h1 h2 (hnx.2 x hx)<|hny.2 y hy) ?_;rintro w hF -;refine rn 4 ⟨xQ Value.bool ?_,hF.same⟩;rw[We];clear hF hXl hYl hR hR' hX hY hK hK' ih hnx hny
 ·first|(simp_all[Fr,Yi,Jj];done)|(simp_all[Fr,Yi,Jj];omega)
def same_c(x:Tree):SameC x:=Tree.ind XZ x
def BothI(w0:World)(g:Nat)(xs ys:List Tree)(q:Tree->Tree->Int):Prop:=∀x,x∈xs->∀y,y∈ys->∀S S' w cs ct,Same [] w0 w->Rep S w (Ta x) cs->Rep S' w (Ta y) ct->Calls prog g #[.agg cs.toArray,.agg ct.toArray] w (Qb λv w'=>v=J (q x y)/\Same [] w w')
def BothI.ext{w0 w:World}{g:Nat}{xs ys:List Tree}{q:Tree->Tree->Int}(h:BothI w0 g xs ys q)(hs:Same [] w0 w):BothI w g xs ys q:=λx hx y hy S S' w' cs ct hw=>h x hx y hy S S' w' cs ct<|hs.trans hw
def Zn(x y:Tree):Bool:=Fd x&&Fd y&&We x y
theorem Ei{x:Tree}(h:Fd x=true):Zb nodeB x=true:=by unfold Fd at h;rw[vQ]at h;exact h.2
theorem MH(x y:Tree)(hsx:Ka x<=1000000000)(hsy:Ka y<=1000000000)(S S':Nat->Prop)(w0:World)(cs ct:List Value)(hR:Rep S w0 (Ta x) cs)(hR':Rep S' w0 (Ta y) ct)(hk:Sz x)(hk':Sz y)(hG:Gl w0):Calls prog 11 #[.agg cs.toArray,.agg ct.toArray] w0 (Qb λv w'=>v=.bool (Zn x y)/\Same [] w0 w'):=by
 have hl:aL cs=4:=hR.length.trans<|Eb x;have ho:=hR.one_;have hl':aL ct=4:=hR'.length.trans<|Eb y;have ho':=hR'.one_;refine Ga func11 ntmps11 ?_;intro hF;refine rn 2<|Oi (v:=.agg<|List.toArray cs) (cs:=(List.toArray cs)) hF O O ?_;rintro b1 w hb1 hF -;refine Oi (v:=.agg<|List.toArray ct) (cs:=(List.toArray ct)) hF O O ?_;rintro b2 w hb2 hF -;refine rn 5<|Ca (v:=.agg<|List.toArray cs) (Pa (l:=cs) oZ tZ O hl<|hF.cellsAll 1 O) ?_;refine Sa (My x hsx S cs (hF.rep hR) hk<|hG.ext hF.same) ?_;rintro w hF -;refine rn 2 ⟨λhg0=>?_,λhg0=>?_⟩;refine Ca (v:=.agg<|List.toArray ct) (Pa (l:=ct) oZ tZ O hl'<|hF.cellsAll 0 O)<|Sa (My y hsy S' ct (hF.rep hR') hk'<|hG.ext hF.same) ?_;rintro w hF -;refine rn 3 ⟨λhg1=>?_,λhg1=>?_⟩;refine Ca (v:=.agg<|List.toArray cs) (Pa (l:=cs) oZ tZ O hl<|hF.cellsAll 1 O)<|Ca (v:=.agg<|List.toArray ct) (Pa (l:=ct) oZ tZ O hl'<|hF.cellsAll 0 O) ?_;refine Sa (same_c x y S S' _ cs ct (hF.rep hR) (hF.rep hR') (Ei qB)<|Ei qB) ?_;rintro w hF -;refine rn 5 ⟨xQ Value.bool ?_,hF.same⟩;unfold Zn;clear hF hR hR';simp_all;refine rn 8 ⟨xQ Value.bool ?_,hF.same⟩;unfold Zn;clear hF hR hR';simp_all;refine rn 12 ⟨xQ Value.bool ?_,hF.same⟩;unfold Zn;clear hF hR hR';simp_all
def of_c(s:Str)(w0:World):Calls prog 243 #[I s] w0 (Qb λv w'=>v=.agg #[J 4,I s,aQ,aQ]/\Same [] w0 w'):=by
 refine Ga func243 ntmps243 ?_;intro hF;refine rn 3 ?_;rintro b1 w hb1 hF -;refine rn 5<|Ca (w':=w) (v:=.agg #[J 4,I s,aQ,aQ]) Gb ?_;refine rn 1 ?_;rintro w hF -;refine rn 3 ?_;exact⟨O,hF.same⟩
def num_c(n:Int)(h1:-9223372036854775808<=n)(h2:n<=9223372036854775807)(w0:World)(hG:Gl w0):Calls prog 15 #[J n] w0 (Qb λv w'=>v=.agg #[J 3,I (Ij (CQ n)),aQ,aQ]/\Same [] w0 w'):=by
 refine Ga func15 ntmps15 ?_;intro hF;refine rn 3 ?_;rintro b1 w hb1 hF -;refine rn 5<|Sa (MX n h1 h2 _<|hG.ext hF.same) ?_;rintro w hF -;refine Sa (ZQ (CQ n) (by have:=Kk<|Lib.itoa n;exact fQ this Ra) _<|hG.ext hF.same) ?_;rintro w hF -;refine Ca (w':=w) (v:=.agg #[J 3,I<|Ij<|CQ n,aQ,aQ]) Gb<|rn 1 ?_;rintro w hF -;refine rn 3 ?_;exact⟨O,hF.same⟩
section
variable {α:Type}(sz:α->Nat)(p:α->α->Nat)
def alRow(x:α)(rec:List α->Nat):List α->Nat
  | []=>sz x+rec []
  | y::ys=>min (p x y+rec ys) (min (sz x+rec (y::ys)) (sz y+alRow x rec ys))
def alNil:List α->Nat
  | []=>0
  | y::ys=>sz y+alNil ys
def al:List α->List α->Nat
  | []=>alNil sz
  | x::xs=>alRow sz p x (al xs)
inductive Ali:List α->List α->Nat->Prop
  | nil:Ali [] [] 0
  | pair {x y:α} {xs ys:List α} {c:Nat}:Ali xs ys c->Ali (x::xs) (y::ys) (p x y+c)
  | drop {x:α} {xs ys:List α} {c:Nat}:Ali xs ys c->Ali (x::xs) ys (sz x+c)
  | add {y:α} {xs ys:List α} {c:Nat}:Ali xs ys c->Ali xs (y::ys) (sz y+c)
end
section
variable {α:Type}{sz:α->Nat}{p:α->α->Nat}
theorem OV(y:α)(ys:List α):al sz p [] (y::ys)=sz y+al sz p [] ys:=rfl
def al_cn(x:α)(xs:List α):al sz p (x::xs) []=sz x+al sz p xs []:=rfl
def IX(x y:α)(xs ys:List α):al sz p (x::xs) (y::ys)=min (p x y+al sz p xs ys) (min (sz x+al sz p xs (y::ys)) (sz y+al sz p (x::xs) ys)):=rfl
def CT(x:α)(xs ys:List α):al sz p (x::xs) ys<=sz x+al sz p xs ys:=by
  cases ys with
  | nil=>exact gQ _
  | cons y ys =>
    rw[IX];omega
theorem Ali.append{xs ys xs' ys':List α}{c c':Nat}(h:Ali sz p xs ys c)(h':Ali sz p xs' ys' c'):Ali sz p (xs++xs') (ys++ys') (c+c'):=by
  induction h with
  | nil=>grind
  | pair _ ih =>
    rw[Nat.add_assoc];exact .pair ih
  | drop _ ih =>
    rw[Nat.add_assoc];exact .drop ih
  | add _ ih =>
    rw[Nat.add_assoc];exact .add ih
theorem Ali.zero(hz:∀x,1<=sz x){xs ys:List α}{c:Nat}(h:Ali sz p xs ys c)(hc:c=0):aL xs=aL ys/\∀i (h1:i<aL xs) (h2:i<aL ys),p xs[i] ys[i]=0:=by
  induction h with
  | nil=>grind
  | @pair x y xs ys c _ ih=>grind
  | @drop x _ _ _ _ _=>grind
  | @add y _ _ _ _ _=>grind
theorem Ali.pop(ht:∀x y,sz x<=p x y+sz y){xs zs:List α}{c:Nat}(h:Ali sz p xs zs c):∀{ys:List α}{v:α},zs=ys++[v]->∃c',Ali sz p xs ys c'/\c'<=c+sz v:=by
  induction h with
  | nil =>
    intro ys v e;simp at e
  | @pair x y xs zs c h ih =>
    intro ys v e;cases ys with
    | nil =>
      simp only[lZ,List.cons.injEq]at e;obtain⟨rfl,rfl⟩:=e;exact⟨_,.drop h,by have:=ht x y;omega⟩
    | cons y' ys =>
      simp only[List.cons_append,List.cons.injEq]at e;obtain⟨rfl,e⟩:=e;obtain⟨c',h1,h2⟩:=ih e;exact⟨_,.pair h1,by_Om⟩
  | @drop x xs zs c h ih =>
    intro ys v e;obtain⟨c',h1,h2⟩:=ih e;exact⟨_,.drop h1,by_Om⟩
  | @add y xs zs c h ih =>
    intro ys v e;cases ys with
    | nil=>grind
    | cons y' ys =>
      simp only[List.cons_append,List.cons.injEq]at e;obtain⟨rfl,e⟩:=e;obtain⟨c',h1,h2⟩:=ih e;exact⟨_,.add h1,by_Om⟩
end
end Go.Scarf
