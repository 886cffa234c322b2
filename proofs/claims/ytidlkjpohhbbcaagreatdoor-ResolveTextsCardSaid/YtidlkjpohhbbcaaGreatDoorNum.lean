/- A part of the proof. -/
import Derived.Lib.ItoaNum
import Derived.Lib.Small
import Derived.Lib.ItoaLen
import Derived.Lib.Bytealg
import Derived.Lib.TrimByte
import Derived.Lib.Strings
import Derived.Test.YtidlkjpohhbbcaaGreatDoorFacts
import Derived.Test.YtidlkjpohhbbcaaGreatDoorTie
import Derived.Test.YtidlkjpohhbbcaaGreatDoorShelf2
import Derived.ProofKit
import Derived.Shelf.Lay
import Derived.PinnedBridge
import Derived.Lay
import Derived.LaidOnce
import Derived.SevenTiedAt
import Derived.Lib.LaidU8T
import Derived.Lib.LaidTab
import Derived.Deep.Slices
import Derived.WideKeyArgs
import Derived.Carry
import Derived.Lib.SmallJoins
set_option linter.all false
set_option maxHeartbeats 8000000
set_option maxRecDepth 10000
namespace Go.Scarf
open List renaming length->aL
variable {f:UInt8->Bool}{at_ s:Str}{a:UInt8}{q:List MemPlace}{ρ:Operand->Value}{w w' w0:World}{dst:Option Nat}{e t ty:TypeId}{aft:Array Edge}{g:Option (Nat × Bool)}{b0 fuel m:Nat}{cs:List Value}{α:Type}{r:Reach}{v:Value}{ad:Addr}{b:Int}
structure Num where
  neg:Bool
  digits:Str
  exp:Int
deriving DecidableEq
def Num.zero:Num:=⟨false,[],0⟩
abbrev Lj(x:Num):Value:=.agg #[.bool x.neg,I x.digits,J x.exp]
def Yc(c:UInt8):Bool:=48<=c.toNat&&c.toNat<=57
def We(s:Str):Bool:=s.all Yc&&decide (s≠[])
theorem Ev(s:Str)(p:Nat)(h:p<aL s) :
    (¬((Utf8.decode (bs s) p).1:Int)<48/\¬(57:Int)<(Utf8.decode (bs s) p).1->Yc s[p]=true/\(Utf8.decode (bs s) p).2=1) /\
    (((Utf8.decode (bs s) p).1:Int)<48\/(57:Int)<(Utf8.decode (bs s) p).1->Yc s[p]=false):=by
  have hs:p<(bs s).size:=h;by_cases ha:(s[p]).toNat<128
  ·have hd := decode_ascii (bs s) p hs ha
   have e:((bs s)[p]' hs)=s[p]:=rfl;grind [Yc]
  have hd := decode_high (bs s) p hs (by show 128 <= (s[p]).toNat;omega);grind [Yc]
def Ip{p:Nat}(h:p<aL s)(ha:(s.take p).all f=true)(hp:f s[p]=true):(s.take (p+1)).all f=true:=by
  rw[iQ h,List.all_append,ha];simp[hp]
theorem Qr{p:Nat}(h:p<aL s)(hp:f s[p]=false):s.all f=false:=qK
def Ub(x:Num):Bool :=
  decide (x=Num.zero) || (We x.digits&&decide (aL x.digits<=1000)&&decide (x.digits.head?≠some 48)&&decide (x.digits.getLast?≠some 48)&&decide (-1000000<=x.exp)&&decide (x.exp<=1000000))
def Ch(x:Num):Str :=
  if Ub x=false then [] else if x.digits=[] then [48] else
  (if x.neg then 45::x.digits else x.digits)++(if x.exp≠0 then 101::Lib.itoa x.exp else [])
def Ta(at_:Str):Str->Str × Str × Bool
  | []=>([],[],false)
  | c::r=>if at_.contains c then ([],r,true) else let x:=Ta at_ r;(c::x.1,x.2.1,x.2.2)
structure Lit where
  neg:Bool
  low:Bool
  whole:Str
  rest:Str
  exp:Str
deriving DecidableEq
abbrev JV(x:Lit):Value:=.agg #[.bool x.neg,.bool x.low,I x.whole,I x.rest,I x.exp]
def Rj(neg low:Bool)(f e:Str):Lit × Bool :=
  let d:=Ta [46] f
  (⟨neg,low,d.1,d.2.1,e⟩,We d.1&&(!d.2.2 || We d.2.1)&&(decide (d.1=[48]) || decide (d.1.head?≠some 48)))
def Qa(s:Str):Lit × Bool :=
  let neg:=Lib.hasPrefix s [45]
  let c:=Ta [101,69] (Lib.trimPrefix s [45])
  if c.2.2 then
    let low:=Lib.hasPrefix c.2.1 [45]
    let e:=if low then Lib.trimPrefix c.2.1 [45] else Lib.trimPrefix (Lib.trimPrefix c.2.1 [45]) [43]
    if We e then Rj neg low c.1 e else (⟨neg,low,[],[],[]⟩,false)
  else Rj neg false c.1 c.2.1
def Bc(s:Str):Int:=s.foldl (λa c=>10*a+((c.toNat:Int)-48)) 0
def Wb(s:Str):Num × Int :=
  let r:=Qa s
  let x:=r.1
  let exp:=Lib.trimLeftB x.exp 48
  if r.2=false then (Num.zero,2) else
  if 1000<aL x.whole+aL x.rest then (Num.zero,3) else
  if 9<aL exp then (Num.zero,4) else
  let e:=if x.low then-Bc exp else Bc exp
  let d:=Lib.trimLeftB (x.whole++x.rest) 48
  if d=[] then (Num.zero,0) else
  let short:=Lib.trimRightB d 48
  let n:Num:=⟨x.neg,short,e-aL x.rest+aL d-aL short⟩
  if Ub n=false then (Num.zero,4) else (n,0)
def PF(s:Str)(c:UInt8):Bc (s++[c])=10*Bc s+((c.toNat:Int)-48):=by simp[Bc]
theorem Jm(s:Str)(q:Nat)(h:q<aL s):Bc (s.take (q+1))=10*Bc (s.take q)+((s[q].toNat:Int)-48):=by rw[iQ h,PF]
def Ny(s:Str)(ha:s.all Yc=true):0<=Bc s/\Bc s<10 ^ (aL s):=by
  have key:∀q,q<=aL s->0<=Bc (s.take q)/\Bc (s.take q)<10 ^ q:=by
    intro q
    induction q with
    | zero =>
      intro _;simp[Bc]
    | succ q ih =>
      intro hq;obtain⟨h1,h2⟩:=ih Aa;have hc:=List.all_eq_true.1 ha s[q] (eQ Aa);unfold Yc at hc;simp only[vQ,xQ]at hc;rw[Jm s q Aa,Int.pow_succ];omega
  have:=key (aL s)<|gQ _
  rwa [List.take_length]at this
theorem Iu(s:Str)(ha:s.all Yc=true)(hl:aL s<=9):0<=Bc s/\Bc s<1000000000:=by
  obtain⟨h1,h2⟩:=Ny s ha;refine⟨h1,?_⟩;have h3:(10:Int) ^ (aL s)<=10 ^ 9:=by
    have:=Nat.pow_le_pow_right (n:=10) Aa hl;grind
  grind
theorem DE(s:Str)(p:Nat)(h:p<aL s)(hd:Yc s[p]=true):Utf8.decode (bs s) p=(s[p].toNat,1):=by
  have hs:p<(bs s).size:=h;have:=decode_ascii (bs s) p hs (by
    show (s[p]).toNat<128;unfold Yc at hd;simp only[vQ,xQ]at hd;omega)
  exact this
theorem Ms(h:We s=true):s.all Yc=true:=by grind [We]
theorem Li(h:We s=true):s≠[]:=by grind [We]
theorem Ep(at_:Str):∀s:Str,(Ta at_ s).2.2=false->(Ta at_ s).2.1=[]
  | [],_=>rfl
  | c :: r, h => by
    unfold Ta at h ⊢;split at h
    ·cases h
    rename_i hc
    rw[tQ hc];exact Ep at_ r h
theorem QS(h:(Qa s).2=true):(Qa s).1.exp.all Yc=true:=by grind [Ta,Qa,We,Rj,Ms,Ep]
theorem Bv{f g:UInt8->Bool}:∀{s:Str},s.all f=true->(s.dropWhile g).all f=true
  | [],_=>rfl
  | c :: s, h => by
    rw[List.dropWhile_cons];split
    ·simp only[List.all_cons, vQ]at h
     exact Bv h.2
    exact h
theorem Xg(at_:Str):∀s:Str,aL (Ta at_ s).1<=aL s/\aL (Ta at_ s).2.1<=aL s
  | []=>by simp[Ta]
  | c :: r => by
    have:=Xg at_ r;unfold Ta;split
    ·simp
    simp;omega
theorem Qn(s p:Str):aL (Lib.trimPrefix s p)<=aL s:=by
  unfold Lib.trimPrefix;grind
def Av(s:Str)(c:UInt8):aL (Lib.trimLeftB s c)<=aL s:=by
  unfold Lib.trimLeftB;exact (List.dropWhile_sublist _).length_le
def M8(s:Str)(c:UInt8):aL (Lib.trimRightB s c)<=aL s:=by
  unfold Lib.trimRightB;rw[List.length_reverse];have:=(List.dropWhile_sublist (λx=>x==c) (l:=s.reverse)).length_le;simpa using this
def head?_get(h:0<aL s):s.head? = some s[0]:=by cases s <;> simp at h ⊢
def EQ{n:Nat}(hn:n<256):((a.toNat:Int)=(n:Int))↔a=UInt8.ofNat n:=by
  constructor
  ·intro h
   have h':a.toNat=n:=Aa
   rw[<-h'];simp
  intro h;subst h;simp;omega
theorem Tu:((a.toNat:Int)=48)↔a=48:=EQ (n:=48) Aa
theorem NC(h:0<aL s):(((s[0]' h).toNat:Int)=48)↔s.head? = some 48:=by
  rw[head?_get h,Tu];simp
def C3{x:Num}(h:x=Num.zero):Ub x=true:=by subst h;rfl
theorem L1{x:Num}(h0:¬x=Num.zero)(h:(!We x.digits)=true):Ub x=false:=by grind [Ub]
theorem O1{x:Num}(h0:¬x=Num.zero)(h:(1000:Int)<aL x.digits):Ub x=false:=by grind [Ub]
theorem F3{x:Num}(h0:¬x=Num.zero)(hl:0<aL x.digits)(h:((x.digits[0]' hl).toNat:Int)=48):Ub x=false:=by
  have:x.digits.head? = some 48:=by rw[head?_get hl,Tu.1 h]
  grind [Ub]
theorem G2{x:Num}(h0:¬x=Num.zero)(hl:aL x.digits-1<aL x.digits)(h:((x.digits[aL x.digits-1]' hl).toNat:Int)=48):Ub x=false:=by grind [Tu,Ub]
theorem Qo{x:Num}(h0:¬x=Num.zero)(h:(!We x.digits)=false)(h1:¬(1000:Int)<aL x.digits)(hl:0<aL x.digits)(h2:¬((x.digits[0]' hl).toNat:Int)=48)
    (hl':aL x.digits-1<aL x.digits) (h3:¬((x.digits[aL x.digits-1]' hl').toNat:Int)=48):Ub x=(decide (-1000000<=x.exp)&&decide (x.exp<=1000000)):=by
  have a1:aL x.digits<=1000:=Aa
  have a2:¬x.digits.head? = some 48:=by rw[head?_get hl];intro e;exact h2<|Tu.2 (by injection e)
  grind [Tu,Ub]
def Pb{x:Num}(h:Ub x=true):aL x.digits<=1000/\-1000000<=x.exp/\x.exp<=1000000:=by
  unfold Ub at h;simp only[wQ,vQ,xQ]at h;rcases h with rfl|h
  ·decide
  omega
theorem NE{q:Nat}(h:q<aL s)(hno:∀c∈s.take q,at_.contains c=false)(hq:at_.contains s[q]=false):∀c∈s.take (q+1),at_.contains c=false:=by
  rw[iQ h];grind
theorem Vu(s:Str)(c:UInt8):(0<=Lib.indexByte s c)↔s.contains c=true:=by
  induction s with
  | nil=>simp[Lib.indexByte]
  | cons a s ih =>
    unfold Lib.indexByte;grind
def L9{c:UInt8}(h:¬(0:Int)<=Lib.indexByte at_ c):at_.contains c=false:=by
  rw[Bool.eq_false_iff];intro hh;exact h<|(Vu _ _).2 hh
def Oq{c:UInt8}(h:(0:Int)<=Lib.indexByte at_ c):at_.contains c=true:=(Vu _ _).1 h
theorem Pz{at_:Str}:∀{s:Str},(∀c∈s,at_.contains c=false)->Ta at_ s=(s,[],false)
  | [],_=>rfl
  | c :: r, h => by
    unfold Ta;rw[tQ (by rw[h c Da];simp),Pz λc hc=>h c (by simp[hc])]
theorem Gz{at_:Str}:∀{s:Str}{q:Nat}(h:q<aL s),(∀c∈s.take q,at_.contains c=false)->at_.contains s[q]=true->Ta at_ s=(s.take q,s.drop (q+1),true)
  | [],_,h,_,_=>absurd h Da
  | c :: r, 0, _, _, hc => by
    unfold Ta;rw[uQ (aS hc)];simp
  | c :: r, q + 1, h, hno, hc => by
    unfold Ta;rw[tQ (by rw[hno c Da];simp),Gz (q:=q) (aS h) (λd hd=>hno d (by simp[hd])) (aS hc)];simp
set_option synthInstance.maxHeartbeats 0
set_option synthInstance.maxSize 9999
open Go.RowKit Go.Proofs Go.Proofs.Tryz
def F9(w:World)(a b:Num):(Op.equal 90 (Lj a) (Lj b)).run prog w=.ok (decide (a=b)) w:=by
  obtain⟨p,a,m⟩:=a;obtain⟨q,b,n⟩:=b;have h:=UE a b;simp only[Lj,Num.mk.injEq];generalize bs a=u at *;generalize bs b=v at *;simp[Op.equal,Op.maxDepth,run_equalIn_struct,go_sem];have h':u.toList=v.toList↔a=b:=by
    rw[<-decide_eq_true_eq (p:=a=b),<-h,beq_iff_eq]
  by_cases h1:p=q <;> by_cases h2:a=b <;> by_cases h3:m=n <;> simp[h1,h2,h3,h'.2,show ¬a=b->¬u.toList=v.toList from λhn he=>hn<|h'.1 he]
def JX{pos:String}{x y:Operand}{a b:Num}(hx:ρ x=Lj a)(hy:ρ y=Lj b) :
    (execOp ρ ⟨dst,.binOp .eql 90 x y 90,ty,pos,aft,g⟩).run prog w=.ok (.value (.bool (decide (a=b)))) w:=by
  have hg:(eqGuard .eql 90 x y (Lj a)<|Lj b).run prog w=.ok () w:=by
    simp[eqGuard,Lj]
  have h:=F9 w a b;simp only[execOp,hx,hy,Sem.run_bind,hg,Result.andThen_ok];have hb:(binOp .eql 90 (Lj a)<|Lj b).run prog w=.ok (.bool<|decide (a=b)) w:=by
    simp only[Lj,binOp]at h ⊢;simp only[Sem.run_bind,h,Result.andThen_ok,Sem.run_pure]
  rw[hb];rfl
def V2(s q:Str)(w:World):Calls prog 211 #[I s,I q] w (Za λv w'=>v=.tuple #[I (Lib.trimPrefix s q),.bool (Lib.hasPrefix s q)]/\Same [] w w'):=Ji (strings_CutPrefix (bs s) (bs q) w)
def VC(s q:Str)(w:World):Calls prog 213 #[I s,I q] w (Za λv w'=>v=I (Lib.trimPrefix s q)/\Same [] w w'):=Ji (strings_TrimPrefix (bs s) (bs q) w)
def V1(s:Str)(w:World):Calls prog 155 #[I s,I [48]] w (Za λv w'=>v=I (Lib.trimLeftB s 48)/\Same [] w w'):=Ji (strings_TrimLeft_one (bs s) 48 Ja w)
def WB(s:Str)(w:World)(h:aL s<=9223372036854775807):Calls prog 156 #[I s,I [48]] w (Za λv w'=>v=I (Lib.trimRightB s 48)/\Same [] w w'):=Ji (strings_TrimRight_one (bs s) 48 Ja w h)
def Hm(s:Str)(c:UInt8):Calls prog 249 #[I s,.int .u8 (c.toNat:Int)] w (Za λv w'=>v=J (Lib.indexByte s c)/\Same [] w w'):=by
  have:=Ji<|strings_IndexByte (bs s) (c.toNat:Int) w;simpa using this
def Lo(a b:Str)(w:World):Calls prog 92 #[I a,I b] w (Za λv w'=>v=J (Lib.compareBytes a b)/\Same [] w w'):=Ji (strings_Compare (bs a) (bs b) w)
def Wx(x y:Int)(w:World):Calls prog 134 #[J x,J y] w (Za λv w'=>v=J (Lib.compareInt x y)/\Same [] w w'):=Ji (cmp_Compare_int x y w)
def Ks(s:Str):Calls prog 152 #[I s] w0 (Za λv w'=>v=.bool (We s)/\Same [] w0 w'):=by
 refine Ea func152 ntmps152 ?_;intro hF;refine rn 9<|Zp (str:=s) hF jX O ?_;rintro b1 w hb1 hF -;refine rn 3<|Sa (λμ σ w=>∃(q:Nat),μ=aL s-q/\(q<=aL s)/\((s.take q).all Yc=true)/\AllEq σ [(0,I s),(6,V b1)]/\FR w0 [] [(b1,.stringIter (bs s) q)] w) _ ⟨0,O,dZ _,Da,Va,hF⟩ ?_;rintro μ σ w ⟨q,rfl,hq,ha,hzz,hF⟩;refine Wf hzz 2 ?_;by_cases hn0:(q)<aL (s:Str);refine Au 0 (p:=q) (str:=s) hF O O hn0 ?_;rintro w hF -;refine rn 20 ⟨λhg1=>?_,λhg1=>?_⟩;refine rn 12 ?_;have hd:=(Ev s q Aa).2 Aa;exact⟨by unfold We;rw[Qr Aa hd];simp,hF.same⟩;refine rn 6 ⟨λhc1=>?_,λhc1=>?_⟩;refine rn 6 ?_;have hd:=(Ev s q Aa).2 Aa;exact⟨by unfold We;rw[Qr Aa hd];simp,hF.same⟩;refine rn 2 ?_;have hd:=(Ev s q Aa).1 ⟨Aa,Aa⟩;rw[hd.2]at hF;refine Ha ⟨_,?_,q+1,O,Aa,Ip Aa ha hd.1,Va,hF⟩;omega;refine Ol 0 (p:=q) (str:=s) hF O O hn0<|rn 15 ?_;have e:s.take q=s:=eZ Aa;rw[e]at ha;exact⟨by unfold We;rw[ha];simp,hF.same⟩
def Fx(x:Num)(hl:aL x.digits<=140737488355328):Calls prog 98 #[Lj x] w0 (Za λv w'=>v=.bool (Ub x)/\Same [] w0 w'):=by
 refine Ea func98 ntmps98 ?_;intro hF;refine rn 3 ?_;rintro b1 w hb1 hF -;refine rn 15<|Ba (w':=w) (v:=.agg #[.bool false,I [],J 0]) Ua ?_;refine Ba (v:=.bool<|decide (x=Num.zero)) (JX (a:=x) (b:=Num.zero) O O)<|rn 4 ⟨λhc0=>?_,λhc0=>?_⟩;refine rn 6 ?_;exact⟨by rw[C3 hc0],hF.same⟩;refine rn 4<|Ia (Ks x.digits) ?_;rintro w hF -;refine rn 5 ⟨λhc1=>?_,λhc1=>?_⟩;refine rn 9 ?_;exact⟨by rw[L1 hc0 hc1],hF.same⟩;refine rn 9 ⟨λhc2=>?_,λhc2=>?_⟩;refine rn 9 ?_;exact⟨by rw[O1 hc0 hc2],hF.same⟩;refine rn 3<|Ba (v:=.int .u8<|(((x.digits:Str)[0]'(List.length_pos_iff.2<|Li (aS hc1))).toNat:Int)) (Cb (0) jX O O<|List.length_pos_iff.2<|Li (aS hc1)) ?_;refine rn 5 ⟨λhc3=>?_,λhc3=>?_⟩;refine rn 9 ?_;exact⟨by rw[F3 hc0 _ hc3],hF.same⟩;refine rn 4 ?_;refine Ba (v:=J<|((aL x.digits-1:Nat):Int)) (Ho O O<|Gd jY Aa Aa) ?_;refine Ba (v:=.int .u8<|(((x.digits:Str)[aL x.digits-1]' jY).toNat:Int)) (Cb (aL x.digits-1) jX O O jY) ?_;refine rn 5 ⟨λhc4=>?_,λhc4=>?_⟩;refine rn 6 ?_;exact⟨by rw[G2 hc0 _ hc4],hF.same⟩;refine rn 10 ⟨λhg0=>?_,λhg0=>?_⟩;refine rn 8 ?_;exact⟨by rw[Qo hc0 hc1 hc2 _ hc3 _ hc4];simp[hg0],hF.same⟩;refine rn 8 ?_;exact⟨by rw[Qo hc0 hc1 hc2 _ hc3 _ hc4];simp[hg0],hF.same⟩
def IM:List Int:=[0,1,56,2,57,49,28,3,61,58,42,50,38,29,17,4,62,47,59,36,45,43,51,22,53,39,33,30,24,18,12,5,63,55,48,27,60,41,37,16,46,35,44,21,52,32,23,11,54,26,40,15,34,20,31,10,25,14,19,9,13,8,7,6]
structure Gl (w:World):Prop where
  size:8<=w.heap.size
  tabs:Lib.Utf8Tabs 0 1 w
  pow:∃e fz,w.heap[3]? = some (.cells (Lib.pow10Tab.map (λz=>Value.int .u64 z)).toArray e fz)
  rng:∃tp q e fz,w.heap[7]? = some (.cells #[.iface tp q] e fz)
  syn:∃tp q e fz,w.heap[6]? = some (.cells #[.iface tp q] e fz)
  bru:∃e fz,w.heap[5]? = some (.cells (IM.map (λz=>Value.int .u8 z)).toArray e fz)
def Gl.same{Ds:List Nat}(h:Gl w)(hs:Same Ds w w')(hd:∀b∈Ds,8<=b):Gl w':=by
  have hb:∀b,b<8->w'.heap[b]? = w.heap[b]?:=λb hb=>hs.block b (Nat.lt_of_lt_of_le hb h.size) (λhi=>by have:=hd b hi;omega);refine⟨fQ h.size hs.size,⟨λc hc=>?_,λi hi=>⟨?_,?_⟩⟩,?_,?_,?_,?_⟩
  ·rw[<-h.tabs.1 c hc];exact World.cell?_of_block (w:=w)<|hb 0 Aa
  ·rw[<-(h.tabs.2 i hi).1];exact World.cell?_of_block (w:=w)<|hb 1 Aa
  ·rw[<-(h.tabs.2 i hi).2];exact World.cell?_of_block (w:=w)<|hb 1 Aa
  ·rw[hb 3 Aa];exact h.pow
  ·rw[hb 7 Aa];exact h.rng
  ·rw[hb 6 Aa];exact h.syn
  rw[hb 5 Aa];exact h.bru
def Gl.ext(h:Gl w)(hs:Same [] w w'):Gl w':=h.same hs Da
def Gl.tabIs  (h:Gl w):Lib.TabIs prog w "internal/strconv.uint64pow10" IntKind.u64 Lib.pow10Tab:=by
  obtain⟨e,fz,hh⟩:=h.pow;have hg:prog.globalNamed "internal/strconv.uint64pow10" = some 3:=by kernel_rfl
  simp[Lib.TabIs,World.var?,hg,hh]
def Gl.err  (h:Gl w):∃ tp q,World.var? prog w "strconv.ErrRange" = some #[.iface tp q]:=by
  obtain⟨tp,q,e,fz,hh⟩:=h.rng;have hg:prog.globalNamed "strconv.ErrRange" = some 7:=by kernel_rfl
  exact⟨tp,q,by simp[World.var?,hg,hh]⟩
def Gl.serr  (h:Gl w):∃ tp q,World.var? prog w "strconv.ErrSyntax" = some #[.iface tp q]:=by
  obtain⟨tp,q,e,fz,hh⟩:=h.syn;have hg:prog.globalNamed "strconv.ErrSyntax" = some 6:=by kernel_rfl
  exact⟨tp,q,by simp[World.var?,hg,hh]⟩
def CT(w:World)(k:Nat)(os:Array Obj):Same [] w (Go.Sort.grow (w.drewN k) os) :=
  ⟨rfl,rfl,rfl,by rw[Go.Sort.size_grow];exact Nat.le_add_right _ _,λb hb _=>Go.Sort.heap_grow_old (w.drewN k) os hb⟩
def RO(n:Int)(h1:-9223372036854775808<=n)(h2:n<=9223372036854775807)(hG:Gl w):Calls prog 99 #[J n] w (Za λv w'=>v=I (Lib.itoa n)/\Same [] w w') :=
  (strconv_Itoa n h1 h2 w hG.tabIs).mono λe w' ⟨he,k,os,hw⟩=>⟨_,he,rfl,by subst hw;exact CT w k os⟩
theorem TE(x:Num)(hl:aL x.digits<=140737488355328)(w0:World)(hG:Gl w0):Calls prog 65 #[Lj x] w0 (Za λv w'=>v=I (Ch x)/\Same [] w0 w'):=by
 refine Ea func65 ntmps65 ?_;intro hF;refine rn 3 ?_;rintro b1 w hb1 hF -;refine rn 7<|Ia (Fx x hl) ?_;rintro w hF -;refine rn 4 ⟨λhc0=>?_,λhc0=>?_⟩;refine rn 6 ⟨?_,hF.same⟩;simp_all[Ch];refine rn 11 ⟨λhc1=>?_,λhc1=>?_⟩;refine rn 6 ⟨?_,hF.same⟩;simp_all[Ch];refine rn 17 ⟨λhc2=>?_,λhc2=>?_⟩;refine rn 2 ?_;refine Ba (v:=I<|([45])++(x.digits)) (Gf O O qM) ?_;refine rn 12 ⟨λhc3=>?_,λhc3=>?_⟩;refine rn 4 ?_;refine Ia (RO x.exp qU qU<|hG.ext hF.same) ?_;rintro w hF -;refine Ba (v:=I<|([101])++(Lib.itoa x.exp)) (Gf O O zA) ?_;refine Ba (v:=I<|(([45])++(x.digits))++(([101])++(Lib.itoa x.exp))) (Gf O O zA) ?_;refine rn 10 ⟨?_,hF.same⟩;simp_all[Ch];refine rn 9 ⟨?_,hF.same⟩;simp_all[Ch];refine rn 11 ⟨λhc3=>?_,λhc3=>?_⟩;refine rn 4 ?_;refine Ia (RO x.exp qU qU<|hG.ext hF.same) ?_;rintro w hF -;refine Ba (v:=I<|([101])++(Lib.itoa x.exp)) (Gf O O zA) ?_;refine Ba (v:=I<|(x.digits)++(([101])++(Lib.itoa x.exp))) (Gf O O zA) ?_;refine rn 10 ⟨?_,hF.same⟩;simp_all[Ch];refine rn 9 ⟨?_,hF.same⟩
 simp_all[Ch]
def cut_c(s at_:Str)(hl:aL s<=140737488355328)(w0:World):Calls prog 212 #[I s,I at_] w0 (Za λv w'=>v=.tuple #[I ((Ta at_ s).1),I ((Ta at_ s).2.1),.bool (Ta at_ s).2.2]/\Same [] w0 w'):=by
 refine Ea func212 ntmps212 ?_;intro hF;refine rn 16<|Sa (λμ σ w=>∃(q:Nat),μ=aL s-q/\(q<=aL s)/\(∀c∈s.take q,at_.contains c=false)/\AllEq σ [(0,I s),(1,I at_),(9,J<|(aL ((s):Str):Int)),(10,J<|(q:Int))]/\FR w0 [] [] w) _ ⟨0,O,dZ _,Da,Va,hF⟩ ?_;rintro μ σ w ⟨q,rfl,hq,hno,hzz,hF⟩;refine Wf hzz 7 ⟨λhc0=>?_,λhc0=>?_⟩;refine rn 15<|Ba (v:=.int .u8<|(((s:Str)[q]' Aa).toNat:Int)) (Cb (q) jX O O Aa) ?_;refine Ia (Hm at_ _) ?_;rintro w hF -;refine rn 4 ⟨λhc1=>?_,λhc1=>?_⟩;refine rn 1<|Rb (zs:=.of []) (bQ [0,1,2,3,4,5,6,7,8,9] .nil) hF ?_;intro w hF;refine rn 2<|Ga O (v:=I<|(s:Str).take (q)) (λw hC=>Do (q) jX) ?_;refine rn 2<|CB O (Wd<|((q+1:Nat):Int))<|Ga O (v:=I<|(s:Str).drop (q+1)) (λw hC=>Qf (q+1) jX) ?_;refine rn 6 ?_;exact⟨by rw[Gz Aa hno<|Oq hc1],hF.same⟩;refine rn 4<|Zb Uh ?_;refine rn 2<|Ha ⟨_,?_,q+1,O,Aa,NE Aa hno<|L9 hc1,Va,hF⟩;omega;refine rn 11 ?_;have e:s.take q=s:=eZ Aa;rw[e]at hno;exact⟨by rw[Pz hno],hF.same⟩
theorem read_c(s:Str)(hl:aL s<=140737488355328)(w0:World):Calls prog 154 #[I s] w0 (Za λv w'=>v=.tuple #[JV (Qa s).1,.bool (Qa s).2]/\Same [] w0 w'):=by
 refine Ea func154 ntmps154 ?_;intro hF;refine rn 3 ?_;rintro b1 w hb1 hF -;refine rn 6<|Ia (V2 s [45] _) ?_;rintro w hF -;refine rn 6 ?_;rintro w hF -;refine rn 5 ?_;refine Ia (cut_c (Lib.trimPrefix s [45]) [101,69] kV _) ?_;rintro w hF -;refine rn 10<|Eb (λσ w=>∃(ex:Str),∃(lw:Bool),(Qa s=Rj (Lib.hasPrefix s [45]) lw (Ta [101,69]<|Lib.trimPrefix s [45]).1 ex)/\AllEq σ [(0,I<|(Ta [101,69]<|Lib.trimPrefix s [45]).1),(2,V b1),(4,I ex)]/\FR w0 [] [(b1,.cells #[.bool<|Lib.hasPrefix s [45],.bool lw,I [],I [],I []] 176)] w) ?_ ?_;refine rn 6 ⟨λhc0=>?_,λhc0=>?_⟩;refine rn 3<|Ia (V2 ((Ta [101,69]<|Lib.trimPrefix s [45]).2.1) [45] _) ?_;rintro w hF -;refine rn 6 ?_;rintro w hF -;refine rn 11 ⟨λhc1=>?_,λhc1=>?_⟩;refine rn 2<|Ia (VC (Lib.trimPrefix ((Ta [101,69]<|Lib.trimPrefix s [45]).2.1) [45]) [43] _) ?_;rintro w hF -;refine rn 6<|Ia (Ks<|Lib.trimPrefix (Lib.trimPrefix ((Ta [101,69]<|Lib.trimPrefix s [45]).2.1) [45]) [43]) ?_;rintro w hF -;refine rn 4 ⟨λhc2=>?_,λhc2=>?_⟩;refine rn 4 ?_;rintro w hF -;refine rn 4 ⟨?_,hF.same⟩;simp_all[Qa,JV];refine rn 1 ?_;exact Ha ⟨Lib.trimPrefix (Lib.trimPrefix ((Ta [101,69]<|Lib.trimPrefix s [45]).2.1) [45]) [43],Lib.hasPrefix ((Ta [101,69]<|Lib.trimPrefix s [45]).2.1) [45],by simp_all[Qa],Va,hF⟩;refine rn 5<|Ia (Ks<|Lib.trimPrefix ((Ta [101,69]<|Lib.trimPrefix s [45]).2.1) [45]) ?_;rintro w hF -;refine rn 4 ⟨λhc2=>?_,λhc2=>?_⟩;refine rn 4 ?_;rintro w hF -;refine rn 4 ⟨?_,hF.same⟩;simp_all[Qa,JV];refine rn 1 ?_;exact Ha ⟨Lib.trimPrefix ((Ta [101,69]<|Lib.trimPrefix s [45]).2.1) [45],Lib.hasPrefix ((Ta [101,69]<|Lib.trimPrefix s [45]).2.1) [45],by simp_all[Qa],Va,hF⟩;refine rn 1 ?_;exact Ha ⟨(Ta [101,69]<|Lib.trimPrefix s [45]).2.1,false,by simp_all[Qa],Va,hF⟩
 rintro σ w ⟨ex,lw,hrd,hzz,hF⟩;refine Aj hzz 6 ?_;rintro w hF -;refine rn 5 ?_;refine Ia (cut_c ((Ta [101,69]<|Lib.trimPrefix s [45]).1) [46] kV _) ?_;rintro w hF -;refine rn 15 ?_;rintro w hF -;refine rn 2 ?_;rintro w hF -;refine rn 4<|Eb (λσ w=>∃(bd:Bool),(bd = !(We (Ta [46] (Ta [101,69]<|Lib.trimPrefix s [45]).1).1&&(!(Ta [46] (Ta [101,69]<|Lib.trimPrefix s [45]).1).2.2 || We (Ta [46] (Ta [101,69]<|Lib.trimPrefix s [45]).1).2.1)))/\AllEq σ [(2,V b1),(6,I<|(Ta [46]<|(Ta [101,69]<|Lib.trimPrefix s [45]).1).1),(59,.bool bd)]/\FR w0 [] [(b1,.cells #[.bool<|Lib.hasPrefix s [45],.bool lw,I<|(Ta [46]<|(Ta [101,69]<|Lib.trimPrefix s [45]).1).1,I<|(Ta [46]<|(Ta [101,69]<|Lib.trimPrefix s [45]).1).2.1,I ex] 176)] w) ?_ ?_;refine rn 2<|Ia (Ks<|(Ta [46]<|(Ta [101,69]<|Lib.trimPrefix s [45]).1).1) ?_;rintro w hF -;refine rn 3 ⟨λhg0=>?_,λhg0=>?_⟩;refine rn 8 ?_;exact Ha ⟨true,qX,Va,hF⟩;refine rn 3 ⟨λhg1=>?_,λhg1=>?_⟩;refine rn 1<|Ia (Ks<|(Ta [46]<|(Ta [101,69]<|Lib.trimPrefix s [45]).1).2.1) ?_;rintro w hF -;refine rn 4 ?_;exact Ha ⟨!(We<|(Ta [46]<|(Ta [101,69]<|Lib.trimPrefix s [45]).1).2.1),qX,Va,hF⟩;refine rn 6 ?_;exact Ha ⟨false,qX,Va,hF⟩;rintro σ w ⟨bd,hbd,hzz,hF⟩;refine Aj hzz 2 ⟨λhc3=>?_,λhc3=>?_⟩;refine rn 4 ?_;rintro w hF -;refine rn 4 ⟨?_,hF.same⟩;rw[hrd];clear hrd hF;have hB:(We (Ta [46] (Ta [101,69]<|Lib.trimPrefix s [45]).1).1&&(!(Ta [46] (Ta [101,69]<|Lib.trimPrefix s [45]).1).2.2 || We (Ta [46] (Ta [101,69]<|Lib.trimPrefix s [45]).1).2.1)) = !bd:=by rw[hbd,Bool.not_not]
 clear hbd;simp only[Rj,JV,hB];simp_all[NC];refine rn 3<|Rb (zs:=.of []) (bQ [0,1,2,3,4,5,6,7]<|.act 8<|.free 9 .nil) hF ?_;intro w hF;refine rn 5 ⟨λhg2=>?_,λhg2=>?_⟩;refine rn 5 ?_;rintro w hF -;refine rn 4 ⟨?_,hF.same⟩;rw[hrd];clear hrd hF;have hB:(We (Ta [46] (Ta [101,69]<|Lib.trimPrefix s [45]).1).1&&(!(Ta [46] (Ta [101,69]<|Lib.trimPrefix s [45]).1).2.2 || We (Ta [46] (Ta [101,69]<|Lib.trimPrefix s [45]).1).2.1)) = !bd:=by rw[hbd,Bool.not_not]
 clear hbd;simp only[Rj,JV,hB];simp_all[NC];refine rn 1 ?_;have hpos:=List.length_pos_iff.2<|Li (s:=(Ta [46] (Ta [101,69]<|Lib.trimPrefix s [45]).1).1) qX;refine Ga O (v:=.int .u8<|((((Ta [46]<|(Ta [101,69]<|Lib.trimPrefix s [45]).1).1:Str)[0]'(hpos)).toNat:Int)) (λw hC=>Cb (0) jX O O hpos)<|rn 3 ?_;rintro w hF -;refine rn 4 ⟨?_,hF.same⟩;rw[hrd];clear hrd hF;have hB:(We (Ta [46] (Ta [101,69]<|Lib.trimPrefix s [45]).1).1&&(!(Ta [46] (Ta [101,69]<|Lib.trimPrefix s [45]).1).2.2 || We (Ta [46] (Ta [101,69]<|Lib.trimPrefix s [45]).1).2.1)) = !bd:=by rw[hbd,Bool.not_not]
 clear hbd;simp only[Rj,JV,hB];simp_all[NC]
set_option maxRecDepth 100000
section
variable {H:Type}{enc:TypeId × Value->H}{W:World}{base:Nat}{sp:Nat->Bool}{held:Bool}
open Go.ChangeShapes Go.WideShapes Go.ChangeAt Go.Lib Go.Shelf Go.WideMaps Go.ChangeMaps
def AX{n:Int}(h:(Lit.int .i64 n).wf=true):-9223372036854775808<=n/\n<=9223372036854775807:=by simpa[Lit.wf,IntKind.min,IntKind.max,IntKind.signed,IntKind.bits]using h
def cs36:prog.cellsOf 36=4:=by kernel_rfl
def cs9:prog.cellsOf 9=1:=by kernel_rfl
def cs3:prog.cellsOf 3=1:=by kernel_rfl
def cs33:prog.cellsOf 33=1:=by kernel_rfl
def cs34:prog.cellsOf 34=1:=by kernel_rfl
def bs_of(s:ByteArray):s=bs s.data.toList:=by cases s;rfl
theorem PR{e:TypeId}{m:Nat}{w:World}{ad:Addr}(hC:prog.cellsOf e=m):∀(len:Nat)(g:Nat->D),(∀i,i<len->∃cs,w.cells? base (ad.add (i*m)) m=some cs/\Rep (λ_=>True) w (g i) cs) ->
    ∃es:List Value,aL es=len*m/\CellsAt (λ_=>True) w ad es/\RepL (λ_=>True) w ((List.range len).map g) es
  | 0,g,_=>⟨[],Da,λi hi=>absurd hi Da,RepL.nil_mk⟩
  | len + 1, g, h => by
    obtain⟨es,hl,hc,hr⟩:=PR hC len g λi hi=>h i Aa;obtain⟨cs,h1,h2⟩:=h len Aa;obtain⟨_,hcl,hat⟩:=World.cells?_some h1;refine⟨es++cs,by rw[dQ,hl,hcl,Nat.add_mul,Nat.one_mul],λi hi=>⟨?_,trivial⟩,?_⟩
    ·by_cases hi' : i<aL es
     ·rw[List.getElem_append_left hi'];exact (hc i hi').1
     have hi2 : i-aL es<aL cs := by rw[dQ]at hi;omega
     rw[List.getElem_append_right Aa];have:=hat (i-aL es) Aa;rw[Jo,<-hl]at this;rw[show (aL es)+(i-aL es)=i by omega]at this;rw[this];exact List.getElem?_eq_getElem hi2
    rw[List.range_succ, jQ];exact RepL.append hr (by have:=RepL.cons_mk h2 RepL.nil_mk;rw[qQ]at this;exact this)
theorem Lx{α:Type}[Inhabited α]{P:Nat->α->Prop}:∀(n:Nat),(∀i,i<n->∃a,P i a)->∃f:Nat->α,∀i,i<n->P i (f i)
  | 0,_=>⟨λ_=>default,λi hi=>absurd hi Aa⟩
  | n + 1, h => by
    obtain⟨f,hf⟩:=Lx n λi hi=>h i Aa;obtain⟨a,ha⟩:=h n Aa;refine⟨λi=>if i=n then a else f i,λi hi=>?_⟩;by_cases e:i=n
    ·subst e;simpa using ha
    simp only[e,if_false];exact hf i Aa
theorem H7{x:DataW H × List MemPlace}[Inhabited α]{g:α->D}(ht:prog.underlying t=some (.slice e))(hC:prog.cellsOf e=m)
    (hel:∀n,n<fuel->∀cs x,DataW.trod enc prog W base sp held n e cs=some x->∃a:α,Rep (λ_=>True) W (g a) cs) (h:DataW.trod enc prog W base sp held fuel t cs=some x) :
    ∃l:List α,Rep (λ_=>True) W (.slice (l.map g)) cs:=by
  rcases DataW.trod_slice ht h with ⟨rfl,-⟩|⟨a,len,cap,elems,rest,n,hn,rfl,-,hb,hl,hm,hlen,hall,-,-⟩
  ·exact⟨[],Rep.nil_slice 0 Aa none⟩
  have hi:∀i,i<len->∃al:α,∃cs',W.cells? base (a.add<|i*m) m=some cs'/\Rep (λ_=>True) W (g al) cs':=by
    intro i hi;have h1:=hall i hi;have h2:elems[i]? = some (elems[i]' Aa):=qK
    rw[h2,hC,Option.bind_eq_some_iff]at h1;grind
  obtain⟨f,hf⟩:=Lx len hi;obtain⟨es,-,hc,hr⟩:=PR hC len (λi=>g<|f i) hf;refine⟨(List.range len).map f,?_⟩;rw[List.map_map];exact Rep.slice_mk Da hl hm λ_=>⟨a,O,es,hc,hr⟩
theorem LD{x:DataW H × List MemPlace}(h:DataW.trod enc prog W base sp held fuel 9 cs=some x):∃s:Str,Rep (λ_=>True) W (Uj s) cs:=by
  obtain⟨s,rfl,-,hs⟩:=DataW.trod_string jX h;refine⟨s.data.toList,?_⟩;have e:[Value.string s]=[.string<|bs s.data.toList]:=qK
  rw[e];exact Rep.lit_mk (by show aL s.data.toList<=_;rw[Array.length_toList];exact hs)
def num_of_{x:DataW H × List MemPlace}(h:DataW.trod enc prog W base sp held fuel 3 cs=some x):∃n:Int,Rep (λ_=>True) W (Lg n) cs:=by
  obtain⟨n,rfl,-,hn⟩:=DataW.trod_int dX h;exact⟨n,Rep.lit_mk ⟨(AX hn).1,(AX hn).2⟩⟩
instance : Inhabited Tree:=⟨.node 0 [] [] []⟩
def tree_of:∀(fuel:Nat)(cs:List Value)(x:DataW H × List MemPlace),DataW.trod enc prog W base sp held fuel 36 cs=some x->∃t:Tree,Rep (λ_=>True) W (Na t) cs:=by
  intro fuel
  induction fuel using Nat.strongRecOn with
  | _ fuel ih =>
    intro cs x h;obtain⟨xs,n,rfl,-,hcl,hxl,hf⟩:=DataW.trod_struct underlying36 h;rw[cs36]at hcl;have get:∀(i:Nat)(hi:i<4),xs[i]? = some (xs[i]'(by rw[hxl];exact hi)):=λi hi=>List.getElem?_eq_getElem _;have h0:=(hf 0 _ rfl).trans (get 0 Aa);have h1:=(hf 1 _ rfl).trans (get 1 Aa);have h2:=(hf 2 _ rfl).trans (get 2 Aa);have h3:=(hf 3 _ rfl).trans (get 3 Aa);obtain⟨k,hk⟩:=num_of_ h0;obtain⟨t,ht⟩:=LD h1;obtain⟨ks,hks⟩:=H7 (g:=Uj) fX cs9 (λn _ cs x h=>LD h) h2;obtain⟨ys,hys⟩:=H7 (g:=Na) gX cs36 (λm hm cs x h=>ih m Aa cs x h) h3;refine⟨.node k t ks ys,?_⟩;have e:cs=(cs.drop 0).take (prog.cellsOf 3)++((cs.drop 1).take (prog.cellsOf 9)++((cs.drop 2).take (prog.cellsOf 33)++((cs.drop 3).take (prog.cellsOf 34)++[]))):=by
      rw[cs3,cs9,cs33,cs34]
      match cs,hcl with
      | [a,b,c,d],_=>rfl
    rw[e];unfold Na;rw[<-Jc]at hys;exact Rep.agg_mk<|RepL.cons_mk hk<|RepL.cons_mk ht<|RepL.cons_mk hks<|RepL.cons_mk hys RepL.nil_mk
def UV{d:DataW H}(hv:Value.okWide prog W r b0 9 v)(h:DataW.Trod enc prog W base sp held 9 v d q) :
    ∃s:Str,v=I s/\aL s<=9223372036854775807:=by
  obtain⟨s,rfl,-,-,hs⟩:=open_string jX hv h;exact⟨s.data.toList,yQ _<|bs_of s,by rw[Array.length_toList];exact hs⟩
def laidOut_:laidOutB prog=true:=by kernel_rfl
def UY{W':World}(hr:prog.readableRec t=true)(hrow:t<prog.types.size){d:DataW H}{ps:List MemPlace}(hb:Below W.heap.size W W')(hlt:∀p∈ps,p.block<W.heap.size)
    (h:DataW.Trod enc prog W 0 (λ_=>true) true t v d ps):DataW.Trod enc prog W' 0 (λb=>decide (b<W.heap.size)) true t v d ps :=
  WideElems.Trod_stays laidOut_ hr hrow h (λp hp=>hb.same<|hlt p hp) (λp hp=>by simpa using hlt p hp)
def rec9:prog.readableRec 9=true:=by kernel_rfl
theorem row9:9<prog.types.size:=qX
end
section
open Go.Lib Go.Shelf Go.Proofs.YtidlkjpohhbbcaaGreatDoor
def Tn:List (String × DataW Unit):=[("math/bits.deBruijn32tab", Rows.laid_math_bits_deBruijn32tab),("math/bits.deBruijn64tab", Rows.laid_math_bits_deBruijn64tab),("internal/strconv.uint64pow10", Rows.laid_internal_strconv_uint64pow10),("unicode/utf8.acceptRanges", Rows.laid_unicode_utf8_acceptRanges),("strconv.ErrRange", Rows.laid_strconv_ErrRange),("strconv.ErrSyntax", Rows.laid_strconv_ErrSyntax),("unicode/utf8.first", Rows.laid_unicode_utf8_first)]
def u8x:U8Extra prog lays196_ren:=⟨Ua,Ua,Ua,Ua,Ua,Ua,Ua⟩
theorem Im{W:World}{n:String}{g:Nat}{cs:Array Value}(hg:prog.globalNamed n=some g)(h:World.var? prog W n=some cs):∃e fz,W.heap[g]? = some (.cells cs e fz):=by
  unfold World.var? at h;grind
theorem JJ{enc:TypeId × Value->Unit}{W:World}{base:Nat}{sp:Nat->Bool}{nm:String}{d:DataW Unit}(ht':∃ms,prog.underlying t=some (.interface ms))
    (h:DataW.trod enc prog W base sp false fuel t cs=some (.iface nm d,q)):∃u v,cs=[.iface u v]:=by
  obtain⟨ms,ht⟩:=ht';cases fuel with
  | zero=>simp[DataW.trod]at h
  | succ fuel =>
    unfold DataW.trod at h;rw[ht]at h;split at h <;> first|(cases h;done)|(simp at h;done)|skip
    all_goals first|exact⟨_,_,rfl⟩|(simp_all;done)
def GM{W:World}(h:laidMetH prog Tn W):Gl W:=by
  rw[MakeChecks.laidMetH_plain _ _ _ Ua]at h;have r:∀ n d,(n,d)∈Tn->VarReads prog W n d:=λn d hm=>Lib.laidMet.reads h hm;have hT:=utf8Tabs_of_readsT (U8Types.of196 lays196) u8x (w:=W) (Pinned.utf8First_eq▸r "unicode/utf8.first" _ (by simp[Tn,Rows.laid_unicode_utf8_first])) ((by kernel_rfl:Rows.laid_unicode_utf8_acceptRanges=acceptData)▸r "unicode/utf8.acceptRanges" _ (by simp[Tn]));refine⟨?_,hT,?_,?_,?_,?_⟩
  ·obtain⟨g, t, cs, fuel, q, hg, hty, hvar, hd⟩ := r "strconv.ErrRange" Rows.laid_strconv_ErrRange (by simp[Tn])
   obtain rfl:=lQ ((show prog.globalNamed "strconv.ErrRange" = some 7 by kernel_rfl).symm.trans hg);obtain⟨e,fz,hh⟩:=Im hg hvar;have:=Pa hh;omega
  ·obtain⟨g, t, cs, fuel, q, hg, hty, hvar, hd⟩ := r "internal/strconv.uint64pow10" Rows.laid_internal_strconv_uint64pow10 (by simp[Tn])
   obtain rfl:=lQ ((show prog.globalNamed "internal/strconv.uint64pow10" = some 3 by kernel_rfl).symm.trans hg);obtain rfl:=lQ ((show (prog.globals[3]?).map (·.type)=some 283 by kernel_rfl).symm.trans hty);have hcs:=cells_of_tab (zs:=Lib.pow10Tab) (k:=.u64) underlying283 cX Ua Ua<|(by kernel_rfl:(Rows.laid_internal_strconv_uint64pow10:DataW Unit)=tabData .u64 Lib.pow10Tab)▸hd;obtain⟨e,fz,hh⟩:=Im hg hvar;refine⟨e,fz,?_⟩;rw[hh,<-hcs]
  ·obtain⟨g, t, cs, fuel, q, hg, hty, hvar, hd⟩ := r "strconv.ErrRange" Rows.laid_strconv_ErrRange (by simp[Tn])
   obtain rfl:=lQ ((show prog.globalNamed "strconv.ErrRange" = some 7 by kernel_rfl).symm.trans hg);obtain rfl:=lQ ((show (prog.globals[7]?).map (·.type)=some 186 by kernel_rfl).symm.trans hty);obtain⟨u,v,hcs⟩:=JJ ⟨_,yZ⟩ hd;obtain⟨e,fz,hh⟩:=Im hg hvar;refine⟨u,v,e,fz,?_⟩;rw[hh];congr 1;congr 1;exact Array.toList_inj.1 hcs
  ·obtain⟨g, t, cs, fuel, q, hg, hty, hvar, hd⟩ := r "strconv.ErrSyntax" Rows.laid_strconv_ErrSyntax (by simp[Tn])
   obtain rfl:=lQ ((show prog.globalNamed "strconv.ErrSyntax" = some 6 by kernel_rfl).symm.trans hg);obtain rfl:=lQ ((show (prog.globals[6]?).map (·.type)=some 186 by kernel_rfl).symm.trans hty);obtain⟨u,v,hcs⟩:=JJ ⟨_,yZ⟩ hd;obtain⟨e,fz,hh⟩:=Im hg hvar;refine⟨u,v,e,fz,?_⟩;rw[hh];congr 1;congr 1;exact Array.toList_inj.1 hcs
  obtain⟨g, t, cs, fuel, q, hg, hty, hvar, hd⟩ := r "math/bits.deBruijn64tab" Rows.laid_math_bits_deBruijn64tab (by simp[Tn]);obtain rfl:=lQ ((show prog.globalNamed "math/bits.deBruijn64tab" = some 5 by kernel_rfl).symm.trans hg);obtain rfl:=lQ ((show (prog.globals[5]?).map (·.type)=some 313 by kernel_rfl).symm.trans hty);have hcs:=cells_of_tab (zs:=IM) (k:=.u8) underlying313 iX Ua Ua<|(by kernel_rfl:(Rows.laid_math_bits_deBruijn64tab:DataW Unit)=tabData .u8 IM)▸hd;obtain⟨e,fz,hh⟩:=Im hg hvar;refine⟨e,fz,?_⟩;rw[hh,<-hcs]
def own_:ownKnob prog.godebug=none:=by kernel_rfl
def wit_(os:Os)(args:Array Value):laidMetH prog Tn ((World.laidAll prog os Tn).forCall (λ_ _=>0) ⟨#[],args,[]⟩).memory:=by rw[MakeChecks.laidMetH_plain _ _ _ Ua];exact laidMet_laidAll _ Ua Ua
end
section
variable {H:Type}{enc:TypeId × Value->H}{W:World}{base:Nat}{sp:Nat->Bool}{held:Bool}
open Go.ChangeShapes Go.WideShapes Go.ChangeAt Go.Lib Go.Shelf
theorem open_sl[Inhabited α]{g:α->D}{d:DataW H}(ht:prog.underlying t=some (.slice e))(hC:prog.cellsOf e=m)
    (hel:∀n cs x,DataW.trod enc prog W base sp held n e cs=some x->∃a:α,Rep (λ_=>True) W (g a) cs) (hv:Value.okWide prog W r b0 t v) (h:DataW.Trod enc prog W base sp held t v d q) :
    ∃(l:List α)(A:Option Addr)(c:Nat),v=.slice A (aL l) c/\Rep (λ_=>True) W (.slice (l.map g)) [.slice A (aL l) c]:=by
  obtain⟨A,n,c,rfl⟩:=okWide_slice ht hv;obtain⟨fuel,hf⟩:=h;obtain⟨l,hl⟩:=H7 ht hC (λn _ cs x h=>hel n cs x h) hf;have hl2:Rep (λ_=>True) W (.slice<|l.map g) [.slice A n c]:=hl;grind [Rep.slice_is]
end
theorem PN(s:Str):aL (Qa s).1.whole<=aL s/\aL (Qa s).1.rest<=aL s/\aL (Qa s).1.exp<=aL s:=by grind [Xg,Qn,Ta,Qa,Rj]
def Oh(s:Str):Int:=if (Qa s).1.low then-Bc (Lib.trimLeftB (Qa s).1.exp 48) else Bc (Lib.trimLeftB (Qa s).1.exp 48)
def Ze(s:Str):Wb s=if (Qa s).2=false then (Num.zero,2) else
  if 1000<aL (Qa s).1.whole+aL (Qa s).1.rest then (Num.zero,3) else
  if 9<aL (Lib.trimLeftB (Qa s).1.exp 48) then (Num.zero,4) else
  if Lib.trimLeftB ((Qa s).1.whole++(Qa s).1.rest) 48=[] then (Num.zero,0) else
  if Ub (⟨(Qa s).1.neg,Lib.trimRightB (Lib.trimLeftB ((Qa s).1.whole++(Qa s).1.rest) 48) 48,Oh s-aL (Qa s).1.rest+aL (Lib.trimLeftB ((Qa s).1.whole++(Qa s).1.rest) 48)-aL (Lib.trimRightB (Lib.trimLeftB ((Qa s).1.whole++(Qa s).1.rest) 48) 48)⟩)=false then (Num.zero,4) else
  (⟨(Qa s).1.neg,Lib.trimRightB (Lib.trimLeftB ((Qa s).1.whole++(Qa s).1.rest) 48) 48,Oh s-aL (Qa s).1.rest+aL (Lib.trimLeftB ((Qa s).1.whole++(Qa s).1.rest) 48)-aL (Lib.trimRightB (Lib.trimLeftB ((Qa s).1.whole++(Qa s).1.rest) 48) 48)⟩,0):=rfl
theorem LV{q:Nat}(h:q<aL s)(ha:s.all Yc=true):(Utf8.decode (bs s) q).1=s[q].toNat/\(Utf8.decode (bs s) q).2=1/\48<=s[q].toNat/\s[q].toNat<=57:=by grind [DE,Yc]
theorem Tp(q:Nat)(h:s.all f=true):(s.take q).all f=true:=qK
theorem Ly(s:Str)(hl:aL s<=140737488355328):Calls prog 100 #[I s] w0 (Za λv w'=>v=.tuple #[Lj (Wb s).1,J (Wb s).2]/\Same [] w0 w'):=by
 have hls:=PN s;have ht0:=Av (Qa s).1.exp 48;have ht1:=Av ((Qa s).1.whole++(Qa s).1.rest) 48;rw[dQ]at ht1;have ht2:=M8 (Lib.trimLeftB ((Qa s).1.whole++(Qa s).1.rest) 48) 48;refine Ea func100 ntmps100 ?_;intro hF;refine rn 3 ?_;rintro b1 w hb1 hF -;refine rn 6<|Ia (read_c s hl _) ?_;rintro w hF -;refine rn 4 ?_;rintro b2 w hb2 hF -;refine rn 7<|Ia (V1 (Qa s).1.exp _) ?_;rintro w hF -;refine rn 13 ⟨λhc0=>?_,λhc0=>?_⟩;refine rn 2<|Ba (w':=w) (v:=.agg #[.bool false,I [],J 0]) Ua ?_;refine rn 1 ?_;rintro w hF -;refine rn 4 ?_;exact⟨by rw[Ze,uQ (aS hc0)] <;> rfl,hF.same⟩;refine rn 8<|Zb Uh ?_;refine rn 5 ⟨λhc1=>?_,λhc1=>?_⟩;refine rn 2<|Ba (w':=w) (v:=.agg #[.bool false,I [],J 0]) Ua ?_;refine rn 1 ?_;rintro w hF -;refine rn 4 ?_;exact⟨by rw[Ze,tQ (aS hc0),uQ Aa] <;> rfl,hF.same⟩;refine rn 9 ⟨λhc2=>?_,λhc2=>?_⟩;refine rn 2<|Ba (w':=w) (v:=.agg #[.bool false,I [],J 0]) Ua ?_;refine rn 1 ?_;rintro w hF -;refine rn 4 ?_;exact⟨by rw[Ze,tQ (aS hc0),tQ Aa,uQ Aa] <;> rfl,hF.same⟩;refine rn 12<|Zp (str:=(Lib.trimLeftB (Qa s).1.exp 48)) hF jX O ?_;rintro b3 w hb3 hF -;refine rn 3 ?_;have hall:(Lib.trimLeftB (Qa s).1.exp 48).all Yc=true:=Bv<|QS qX;refine Sa (λμ σ w=>∃(q:Nat),μ=aL (Lib.trimLeftB (Qa s).1.exp 48)-q/\(q<=aL (Lib.trimLeftB (Qa s).1.exp 48))/\AllEq σ [(2,V b1),(4,V b2),(7,J<|Bc<|(Lib.trimLeftB (Qa s).1.exp 48).take q),(41,V b3)]/\FR w0 [] [(b3,.stringIter (bs<|(Lib.trimLeftB (Qa s).1.exp 48)) q),(b2,.cells #[.bool<|(Qa s).1.neg,.bool<|(Qa s).1.low,I<|(Qa s).1.whole,I<|(Qa s).1.rest,I<|(Qa s).1.exp] 176),(b1,.cells #[.bool false,I [],J 0] 90)] w) _ ⟨0,O,dZ _,Fz,hF⟩ ?_;rintro μ σ w ⟨q,rfl,hq,hzz,hF⟩;refine Wf hzz 2 ?_;by_cases hn0:(q)<aL ((Lib.trimLeftB (Qa s).1.exp 48):Str)
 refine Au 0 (p:=q) (str:=(Lib.trimLeftB (Qa s).1.exp 48)) hF O O hn0 ?_;rintro w hF -;refine rn 16 ?_;have hv:=LV (s:=(Lib.trimLeftB (Qa s).1.exp 48)) (q:=q) Aa hall;have hb:=Iu ((Lib.trimLeftB (Qa s).1.exp 48).take q) (Tp q hall) bV;refine Ba (v:=J<|10*Bc ((Lib.trimLeftB (Qa s).1.exp 48).take q)) (Ro O O<|Gd Aa Aa Aa)<|rn 1 ?_;refine Ba (v:=.int .i32<|((Utf8.decode (bs<|Lib.trimLeftB (Qa s).1.exp 48) q).1:Int)-48) (Ho O O (by rw[IntKind.wrap_i32];omega)) ?_;refine Ba (v:=J<|((Utf8.decode (bs<|Lib.trimLeftB (Qa s).1.exp 48) q).1:Int)-48) (Qb bX dX O<|Ge Aa Aa) ?_;refine Ba (v:=J<|Bc<|(Lib.trimLeftB (Qa s).1.exp 48).take (q+1)) (Cl O O (by rw[Jm _ q Aa,hv.1];exact Ge Aa Aa)) ?_;refine rn 3 ?_;rw[hv.2.1]at hF;refine Ha ⟨_,?_,q+1,O,Aa,Va,hF⟩;omega;refine Ol 0 (p:=q) (str:=(Lib.trimLeftB (Qa s).1.exp 48)) hF O O hn0<|rn 7 ?_;have eT:(Lib.trimLeftB (Qa s).1.exp 48).take q=(Lib.trimLeftB (Qa s).1.exp 48):=eZ Aa;have hb:=Iu (Lib.trimLeftB (Qa s).1.exp 48) hall Aa;have hE:-1000000000<Oh s/\Oh s<1000000000:=by unfold Oh;split <;> omega
 refine rn 1<|Eb (λσ w=>AllEq σ [(2,V b1),(4,V b2),(7,J<|Oh s)]/\FR w0 [] [(b3,.stringIter (bs<|(Lib.trimLeftB (Qa s).1.exp 48)) q),(b2,.cells #[.bool<|(Qa s).1.neg,.bool<|(Qa s).1.low,I<|(Qa s).1.whole,I<|(Qa s).1.rest,I<|(Qa s).1.exp] 176),(b1,.cells #[.bool false,I [],J 0] 90)] w) ?_ ?_;refine rn 7 ⟨λhc4=>?_,λhc4=>?_⟩;have eE:Oh s = - Bc (Lib.trimLeftB (Qa s).1.exp 48):=by unfold Oh;rw[uQ qW]
 refine rn 2 ?_;refine Ba (v:=J<|Oh s) (K2 O (by rw[eT,eE];exact Gd Aa Aa Aa)) ?_;refine rn 2 ?_;exact Ha ⟨Va,hF⟩;have eE:Oh s=Bc (Lib.trimLeftB (Qa s).1.exp 48):=by unfold Oh;rw[tQ qX]
 rw[eT,<-eE];refine rn 1 ?_;exact Ha ⟨Va,hF⟩;rintro σ w ⟨hzz,hF⟩;refine Aj hzz 7<|Ba (v:=I<|((Qa s).1.whole)++((Qa s).1.rest)) (Gf O O Aa) ?_;refine Ia (V1 ((Qa s).1.whole++(Qa s).1.rest) _) ?_;rintro w hF -;refine rn 11 ⟨λhc5=>?_,λhc5=>?_⟩;refine rn 2<|Ba (w':=w) (v:=.agg #[.bool false,I [],J 0]) Ua ?_;refine rn 1 ?_;rintro w hF -;refine rn 4 ?_;exact⟨by rw[Ze,tQ (aS hc0),tQ Aa,tQ Aa,uQ hc5] <;> rfl,hF.same⟩;refine rn 5<|Ia (WB (Lib.trimLeftB ((Qa s).1.whole++(Qa s).1.rest) 48) _ Aa) ?_;rintro w hF -;refine rn 12<|Zb Iy ?_;refine rn 2<|Zb Uh ?_;refine rn 2<|Zb Iy ?_;refine Ba (w':=w) (v:=.agg #[.bool<|(Qa s).1.neg,I<|(Lib.trimRightB (Lib.trimLeftB ((Qa s).1.whole++(Qa s).1.rest) 48) 48),J<|(((Oh s:Int)-(aL (((Qa s).1.rest):Str):Int):Int)+(aL (((Lib.trimLeftB ((Qa s).1.whole++(Qa s).1.rest) 48)):Str):Int):Int)-(aL (((Lib.trimRightB (Lib.trimLeftB ((Qa s).1.whole++(Qa s).1.rest) 48) 48)):Str):Int)]) Ua<|rn 1 ?_;rintro b4 w hb4 hF -;refine rn 6 ?_;refine Ia (Fx (⟨(Qa s).1.neg,Lib.trimRightB (Lib.trimLeftB ((Qa s).1.whole++(Qa s).1.rest) 48) 48,Oh s-aL (Qa s).1.rest+aL (Lib.trimLeftB ((Qa s).1.whole++(Qa s).1.rest) 48)-aL (Lib.trimRightB (Lib.trimLeftB ((Qa s).1.whole++(Qa s).1.rest) 48) 48)⟩) (by show aL (Lib.trimRightB (Lib.trimLeftB ((Qa s).1.whole++(Qa s).1.rest) 48) 48)<=_;omega)) ?_;rintro w hF -;refine rn 4 ⟨λhc6=>?_,λhc6=>?_⟩;refine rn 2<|Ba (w':=w) (v:=.agg #[.bool false,I [],J 0]) Ua ?_;refine rn 1 ?_;rintro w hF -;refine rn 4 ?_;exact⟨by rw[Ze,tQ (aS hc0),tQ Aa,tQ Aa,tQ hc5,uQ (aS hc6)] <;> rfl,hF.same⟩;refine rn 6 ?_;rintro w hF -;refine rn 4 ?_;exact⟨by rw[Ze,tQ (aS hc0),tQ Aa,tQ Aa,tQ hc5,tQ (aS hc6)] <;> rfl,hF.same⟩
def Qg(x:Num):Int:=if x.digits=[] then 0 else if x.neg then -1 else 1
def GX:List Int->Int|[]=>0|x::r=>if x≠0 then x else GX r
theorem ZH:∀{l:List Int},(∀x∈l,x=0)->GX l=0
  | [],_=>rfl
  | x::r,h=>by unfold GX;rw[tQ (by simp[h x Da])];exact ZH λy hy=>h y bT
theorem orL_at:∀{l:List Int}{j:Nat}(h:j<aL l),(∀x∈l.take j,x=0)->l[j]≠0->GX l=l[j]
  | [],_,h,_,_=>absurd h Da
  | x :: r, 0, _, _, hn => by
    have hn':x≠0:=hn;unfold GX;rw[uQ hn'];rfl
  | x :: r, j + 1, h, hz, hn => by
    unfold GX;rw[tQ (by simp[hz x Da]),orL_at (j:=j) (aS h) (λy hy=>hz y bT) (aS hn)];rfl
def QL(x y:Num):Int:=GX [Lib.compareInt (aL x.digits+x.exp) (aL y.digits+y.exp),Lib.compareBytes x.digits y.digits]
def TL(x y:Num):Int :=
  if Ub x=false then (if Ub y=false then 0 else -1) else if Ub y=false then 1 else
  if Lib.compareInt (Qg x) (Qg y)≠0 then Lib.compareInt (Qg x) (Qg y) else if Qg x=0 then 0 else Qg x*QL x y
def XJ(n:Int):Num:=(Wb (Lib.itoa n)).1
def pI(s:Str):Int × Bool:=match Lib.parseIntB 64 s with|.ok v=>(v,true)|.range=>(Lib.intSat 64 s,false)|_=>(0,false)
def Lr(x:Num):Int × Bool :=
  if Ub x=false\/x.exp<0\/19<(aL x.digits:Int)+x.exp then (0,false) else
  let t:=x.digits++Lib.repeatL [48] x.exp.toNat
  let u:=if x.neg then 45::t else t
  if u=[] then (0,true) else if (pI u).2=false then (0,false) else ((pI u).1,true)
def BB(e:Value)(b:Bool):Prop:=if b then ∃tp q,e=.iface tp q else e=.nilIface
theorem FT{P:Program}{pos:String}{t':TypeId}{x:Operand}{e:Value}{b:Bool}(ht:P.underlying t=some (.interface (P.methodsAt t)))(he:BB e b)(hx:ρ x=e)(hy:ρ (.const .nilIface)=.nilIface) :
    (execOp ρ ⟨dst,.binOp .neq t x (.const .nilIface) t',ty,pos,aft,g⟩).run P w=.ok (.value (.bool b)) w:=by grind [BB,W_,O2]
def Ur(w:World)(e:TypeId)(s:ByteArray):Same [] w (Lib.bytesWorld w e s) :=
  .of_below (Joins.below_bytesWorld _ w e s<|gQ _)
def KM(s:Str)(hl:aL s<=140737488355328)(hG:Gl w):Calls prog 255 #[I s,J 10,J 64] w (Za λv w'=>∃e,v=.tuple #[J (pI s).1,e]/\BB e (!(pI s).2)/\Same [] w w'):=by
  cases h:Lib.parseIntB 64 s with
  | ok n =>
    refine (strconv_ParseInt_10_at64_ok (bs s) kR n h w).mono ?_;rintro e w' ⟨rfl,hw⟩;refine⟨_,O,.nilIface,by simp[pI,h],by simp[pI,h,BB],?_⟩;rcases hw with rfl|⟨t,rfl⟩
    ·exact Same.refl _ _
    exact Ur w 5 t
  | range =>
    obtain⟨tp,q,hv⟩:=hG.err;refine (strconv_ParseInt_10_at64_range_var (bs s) kR h tp q w hv).mono ?_;rintro e w' ⟨N,rfl,-,-,hb⟩;exact⟨_,O,.iface 304<|V N,by simp only[pI,h],by simp[pI,h,BB],.of_below hb⟩
  | _ =>
    obtain⟨tp,q,hv⟩:=hG.serr;refine (Any.strconv_ParseInt_10_at64_syntax_var laysC174 (bs s) kR h tp q w hv).mono ?_;rintro e w' ⟨N,rfl,-,-,hb⟩;exact⟨_,O,.iface 304<|V N,by simp[pI,h];rfl,by simp[pI,h,BB],.of_below hb⟩
def W9(c:Int)(h0:0<=c)(h1:c<=19)(w:World):Calls prog 254 #[I [48],J c] w (Za λv w'=>v=I (Lib.repeatL [48] c.toNat)/\Same [] w w'):=by
  have h:=strings_Repeat (bs [48]) c.toNat w Aa (by rw[Pl];simp;omega);rw[Int.toNat_of_nonneg h0]at h;exact Pu h
theorem SS{a:Int}(h:∀j (hj:j<aL [Value.int .i64 a,Value.int .i64 b]),w.cell? (ad.add j)=some [Value.int .i64 a,Value.int .i64 b][j]) :
    ∀j (hj:j<aL [a,b]),w.cell? (ad.add j)=some (.int .i64 [a,b][j])
  | 0,_=>h 0 Da
  | 1,_=>h 1 Da
  | j+2,hj=>absurd hj Da
theorem ZA{a c:Int}(h:∀j (hj:j<aL [Value.int .i64 a,Value.int .i64 b,Value.int .i64 c]),w.cell? (ad.add j)=some [Value.int .i64 a,Value.int .i64 b,Value.int .i64 c][j]) :
    ∀j (hj:j<aL [a,b,c]),w.cell? (ad.add j)=some (.int .i64 [a,b,c][j])
  | 0,_=>h 0 Da
  | 1,_=>h 1 Da
  | 2,_=>h 2 Da
  | j+3,hj=>absurd hj Da
theorem DF(x:Num):Qg x=0\/Qg x=1\/Qg x = -1:=by grind [Qg]
theorem Jz(x y:Int):Lib.compareInt x y=0\/Lib.compareInt x y=1\/Lib.compareInt x y = -1:=by
  unfold Lib.compareInt;grind
theorem Ak:∀(x y:Str),Lib.compareBytes x y=0\/Lib.compareBytes x y=1\/Lib.compareBytes x y = -1
  | [],[]=>by simp[Lib.compareBytes]
  | [],_::_=>by simp[Lib.compareBytes]
  | _::_,[]=>by simp[Lib.compareBytes]
  | a :: r, b :: q => by
    have:=Ak r q;unfold Lib.compareBytes;split
    ·simp
    split
    ·simp
    exact this
theorem LO(x y:Num):QL x y=0\/QL x y=1\/QL x y = -1:=by grind [QL,GX,Jz,Ak]
theorem take_zero{l:List Int}{j:Nat}(h:j<aL l)(hz:∀x∈l.take j,x=0)(hn:l[j]=0):∀x∈l.take (j+1),x=0:=by
  rw[iQ h];grind
theorem SB(x:Num)(w0:World):Calls prog 196 #[Lj x] w0 (Za λv w'=>v=J (Qg x)/\Same [] w0 w'):=by
  refine Ea func196 ntmps196 ?_;intro hF;refine rn 3 ?_;intro b1 w hb1 hF hE;refine rn 14 ⟨λhc0=>?_,λhc0=>?_⟩
  ·
   refine rn 6 ?_;exact⟨by simp_all[Qg],hF.same⟩
  refine rn 8 ⟨λhc1=>?_,λhc1=>?_⟩
  ·
   refine rn 6 ?_;exact⟨by simp_all[Qg],hF.same⟩
  refine rn 9 ?_;exact⟨by simp_all[Qg],hF.same⟩
def or_c(l:List Int)(ad:Addr)(c:Nat)(hlen:aL l<=140737488355328)(w0:World)(hc:∀j (h:j<aL l),w0.cell? (ad.add j)=some (J l[j])):Calls prog 133 #[.slice (some ad) (aL l) c] w0 (Za λv w'=>v=J (GX l)/\Same [] w0 w'):=by
 refine Ea func133 ntmps133 ?_;intro hF;refine rn 19<|Sa (λμ σ w=>∃(j:Nat),μ=aL l-j/\(j<=aL l)/\(∀x∈l.take j,x=0)/\AllEq σ [(3,J 0),(6,.slice (some ad) (aL l) c),(7,J<|(aL l:Nat)),(8,J<|(j:Int))]/\FR w0 [] [] w) _ ⟨0,O,dZ _,Da,Va,hF⟩ ?_;rintro μ σ w ⟨j,rfl,hj,hz,hzz,hF⟩;refine Wf hzz 7 ⟨λhc0=>?_,λhc0=>?_⟩;refine rn 6<|Ba (v:=.pointer<|some<|ad.add<|j*1) (Ca (i:=(j:Int)) M1 O) ?_;have hcj:w0.cell? (ad.add<|j*1)=some (J l[j]):=by rw[Nat.mul_one];exact hc j Aa
 refine Ba (v:=J<|l[j]) (Xa pZ<|hF.cell0 hcj)<|rn 11 ⟨λhc1=>?_,λhc1=>?_⟩;refine rn 7 ?_;exact⟨by rw[orL_at Aa hz (aS hc1)],hF.same⟩;refine rn 4<|Zb Uh ?_;refine rn 2<|Ha ⟨_,?_,j+1,O,Aa,take_zero Aa hz (aS hc1),Va,hF⟩;omega;refine rn 9 ?_;have e:l.take j=l:=eZ Aa;rw[e]at hz;exact⟨by rw[ZH hz],hF.same⟩
def far_c(x y:Num)(hx:Ub x=true)(hy:Ub y=true)(w0:World):Calls prog 197 #[Lj x,Lj y] w0 (Za λv w'=>v=J (QL x y)/\Same [] w0 w'):=by
 have h1:=Pb hx;have h2:=Pb hy;refine Ea func197 ntmps197 ?_;intro hF;refine rn 3 ?_;rintro b1 w hb1 hF -;refine rn 1 ?_;rintro b2 w hb2 hF -;refine rn 10<|Zb Uh ?_;refine rn 5<|Zb Uh ?_;refine Ia (Wx (aL x.digits+x.exp) (aL y.digits+y.exp) _) ?_;rintro w hF -;refine rn 10<|Ia (Lo x.digits y.digits _) ?_;rintro w hF -;refine rn 1 ?_;rintro b3 w hb3 hF -;refine Ia (or_c [Lib.compareInt (aL x.digits+x.exp)<|aL y.digits+y.exp,Lib.compareBytes x.digits y.digits] _ 2 Da _<|SS<|hF.cellsAll 0 O) ?_;rintro w hF -;refine rn 4 ?_;exact⟨O,hF.same⟩
theorem MC(x y:Num)(hx:aL x.digits<=140737488355328)(hy:aL y.digits<=140737488355328)(w0:World):Calls prog 132 #[Lj x,Lj y] w0 (Za λv w'=>v=J (TL x y)/\Same [] w0 w'):=by
 refine Ea func132 ntmps132 ?_;intro hF;refine rn 3 ?_;rintro b1 w hb1 hF -;refine rn 1 ?_;rintro b2 w hb2 hF -;refine rn 4<|Rb (zs:=.of []) (.free 0<|.free 2<|.act 1<|.act 3<|.free 4<|.free 5 .nil) hF ?_;intro w hF;refine rn 2<|Rc (Fx x hx) ?_;rintro w hF -;refine Rc (Fx y hy) ?_;rintro w hF -;refine rn 7<|Eb (λσ w=>∃(bd:Bool),(bd=(!Ub x && !Ub y))/\AllEq σ [(2,V b1),(3,V b2),(5,.bool<|Ub x),(6,.bool<|Ub y),(12,.bool bd)]/\FR w0 [] [(b2,.cells #[.bool y.neg,I y.digits,J y.exp] 90),(b1,.cells #[.bool x.neg,I x.digits,J x.exp] 90)] w) ?_ ?_;refine rn 5 ⟨λhg0=>?_,λhg0=>?_⟩;refine rn 5 ?_;exact Ha ⟨!(Ub y),qX,Va,hF⟩;refine rn 5 ?_;exact Ha ⟨false,qX,Va,hF⟩;rintro σ w ⟨bd,hbd,hzz,hF⟩;refine Aj hzz 2 ⟨λhc0=>?_,λhc0=>?_⟩;refine rn 6 ?_;exact⟨by simp_all[TL],hF.same⟩;refine rn 8 ⟨λhc1=>?_,λhc1=>?_⟩;refine rn 6 ?_;exact⟨by simp_all[TL],hF.same⟩;refine rn 8 ⟨λhc2=>?_,λhc2=>?_⟩;refine rn 6 ?_;exact⟨by simp_all[TL],hF.same⟩;refine rn 5<|Rb (zs:=.of []) (.free 0<|.free 2<|cQ [1,3,4]<|.free 5 .nil) hF ?_;intro w hF;refine rn 2<|Rc (SB x _) ?_;rintro w hF -;refine Rc (SB y _) ?_;rintro w hF -;refine Rc (Wx (Qg x) (Qg y) _) ?_;rintro w hF -;refine rn 4<|Eb (λσ w=>∃(be:Bool),(be=(decide (Lib.compareInt (Qg x) (Qg y)≠0) || decide (Qg x=0)))/\AllEq σ [(2,V b1),(3,V b2),(7,J<|Lib.compareInt (Qg x)<|Qg y),(36,.bool be)]/\FR w0 [] [(b2,.cells #[.bool y.neg,I y.digits,J y.exp] 90),(b1,.cells #[.bool x.neg,I x.digits,J x.exp] 90)] w) ?_ ?_;refine rn 5 ⟨λhg1=>?_,λhg1=>?_⟩;refine rn 5 ?_;exact Ha ⟨true,qX,Va,hF⟩;refine rn 1<|Ia (SB x _) ?_;rintro w hF -;refine rn 3 ?_;exact Ha ⟨decide ((Qg x:Int)=(0:Int)),qX,Va,hF⟩;rintro σ w ⟨be,hbe,hzz,hF⟩;refine Aj hzz 2 ⟨λhc3=>?_,λhc3=>?_⟩
 refine rn 7 ?_;have hb2:¬Lib.compareInt (Qg x) (Qg y)=0\/Qg x=0:=by simpa[hbe]using hc3
 exact⟨by clear hbe hF hbd;by_cases h:Lib.compareInt (Qg x) (Qg y)=0 <;> simp_all[TL],hF.same⟩;refine rn 3<|Rb (zs:=.of []) (bQ [0,2,3]<|.act 1<|.act 4<|.free 5<|.free 6 .nil) hF ?_;intro w hF;refine rn 3<|Rc (SB x _) ?_;rintro w hF -;refine Rc (far_c x y qX qX _) ?_;rintro w hF -;refine Ga rfl (v:=J<|Qg x*QL x y) (λw hC=>Ro rfl rfl (by rcases DF x with h|h|h <;> rcases LO x y with h'|h'|h' <;> rw[h,h'] <;> decide)) ?_;refine rn 4 ?_;exact⟨by simp_all[TL],hF.same⟩
def KS(n:Int)(h1:-9223372036854775808<=n)(h2:n<=9223372036854775807)(w0:World)(hG:Gl w0):Calls prog 66 #[J n] w0 (Za λv w'=>v=Lj (XJ n)/\Same [] w0 w'):=by
 refine Ea func66 ntmps66 ?_;intro hF;refine rn 3 ?_;rintro b1 w hb1 hF -;refine rn 5<|Ia (RO n h1 h2<|hG.ext hF.same) ?_;rintro w hF -;refine Ia (Ly (Lib.itoa n) (by have:=Lib.itoa_length_le n h1 h2;omega)) ?_;rintro w hF -;refine rn 4 ?_;rintro b2 w hb2 hF -;refine rn 7 ?_;rintro w hF -;refine rn 3 ?_;exact⟨O,hF.same⟩
def Qu(x:Num):Str:=if x.neg then 45::(x.digits++Lib.repeatL [48] x.exp.toNat) else x.digits++Lib.repeatL [48] x.exp.toNat
theorem Mh(x:Num):Lr x=if Ub x=false\/x.exp<0\/19<(aL x.digits:Int)+x.exp then (0,false) else if Qu x=[] then (0,true) else if (pI (Qu x)).2=false then (0,false) else ((pI (Qu x)).1,true):=rfl
theorem Zl(c:UInt8)(n:Nat):aL (Lib.repeatL [c] n)=n:=by
  induction n with
  | zero=>rfl
  | succ n ih =>
    unfold Lib.repeatL;grind
theorem PG(x:Num)(hl:aL x.digits<=140737488355328)(w0:World)(hG:Gl w0):Calls prog 222 #[Lj x] w0 (Za λv w'=>v=.tuple #[J (Lr x).1,.bool (Lr x).2]/\Same [] w0 w'):=by
 refine Ea func222 ntmps222 ?_;intro hF;refine rn 3 ?_;rintro b1 w hb1 hF -;refine rn 8<|Ia (Fx x hl) ?_;rintro w hF -;refine rn 3 ⟨λhg0=>?_,λhg0=>?_⟩
 ·
  refine rn 23 ⟨?_,hF.same⟩
  first
  | (have hn:¬(Ub x=false\/x.exp<0\/19<(aL x.digits:Int)+x.exp):=by (refine not_or.2 ⟨qX,not_or.2 ⟨Aa,Aa⟩⟩)
     rw[Mh,tQ hn];simp_all;done)
  | (rw[Mh];simp_all;done)
 refine rn 6 ⟨λhg1=>?_,λhg1=>?_⟩
 ·
  refine rn 18 ⟨?_,hF.same⟩
  first
  | (have hn:¬(Ub x=false\/x.exp<0\/19<(aL x.digits:Int)+x.exp):=by (refine not_or.2 ⟨qX,not_or.2 ⟨Aa,Aa⟩⟩)
     rw[Mh,tQ hn];simp_all;done)
  | (rw[Mh];simp_all;done)
 refine rn 5 ?_;refine Ba (v:=J<|(aL x.digits:Int)+x.exp) (Cl O O<|Ge (by have:=Pb (x:=x) qX;omega) (by have:=Pb (x:=x) qX;omega)) ?_;refine rn 5 ⟨λhc0=>?_,λhc0=>?_⟩
 ·
  refine rn 7 ⟨?_,hF.same⟩
  first
  | (have hn:¬(Ub x=false\/x.exp<0\/19<(aL x.digits:Int)+x.exp):=by (refine not_or.2 ⟨qX,not_or.2 ⟨Aa,Aa⟩⟩)
     rw[Mh,tQ hn];simp_all;done)
  | (rw[Mh];simp_all;done)
 refine rn 3<|Rb (zs:=.of []) (bQ [0,1,2,3]<|.act 4<|.free 5<|.free 6 .nil) hF ?_;intro w hF;refine rn 4<|Rc (W9 x.exp Aa Aa _) ?_;rintro w hF -;refine Ga rfl (v:=I<|(x.digits)++(Lib.repeatL [48] x.exp.toNat)) (λw hC=>Gf rfl rfl wJ) ?_;refine rn 4<|Eb (λσ w=>AllEq σ [(4,I<|Qu x)]/\FR w0 [] [(b1,.cells #[.bool x.neg,I x.digits,J x.exp] 90)] w) ?_ ?_
 ·
  refine rn 7 ⟨λhc1=>?_,λhc1=>?_⟩
  ·
   have eT:[45]++(x.digits++Lib.repeatL [48] x.exp.toNat)=Qu x:=by unfold Qu;rw[uQ qW];rfl
   refine rn 2 ?_;refine Ba (v:=I<|Qu x) (by rw[<-eT];exact Gf rfl rfl wJ) ?_;refine rn 2 ?_;exact Ha ⟨Va,hF⟩
  have eT:x.digits++Lib.repeatL [48] x.exp.toNat=Qu x:=by unfold Qu;rw[tQ qX]
  rw[eT];refine rn 1 ?_;exact Ha ⟨Va,hF⟩
 rintro σ w ⟨hzz,hF⟩;have hT:aL (Qu x)<=1020:=by have:=Zl 48 x.exp.toNat;have:=Pb (x:=x) qX;unfold Qu;split <;> simp only[dQ,kQ] <;> omega
 refine Aj hzz 9 ⟨λhc2=>?_,λhc2=>?_⟩
 ·
  refine rn 7 ⟨?_,hF.same⟩
  first
  | (have hn:¬(Ub x=false\/x.exp<0\/19<(aL x.digits:Int)+x.exp):=by (refine not_or.2 ⟨qX,not_or.2 ⟨Aa,Aa⟩⟩)
     rw[Mh,tQ hn];simp_all;done)
  | (rw[Mh];simp_all;done)
 refine rn 5<|Fc (KM (Qu x) Aa<|hG.ext hF.same) ?_;rintro _ w ⟨e,rfl,he,hE⟩;have hF:=hF.ext hE;refine rn 11<|Ba (v:=.bool<|!(pI<|Qu x).2) (FT (yZ) he O O) ?_;refine rn 3 ⟨λhc3=>?_,λhc3=>?_⟩
 ·
  refine rn 7 ⟨?_,hF.same⟩
  first
  | (have hn:¬(Ub x=false\/x.exp<0\/19<(aL x.digits:Int)+x.exp):=by (refine not_or.2 ⟨qX,not_or.2 ⟨Aa,Aa⟩⟩)
     rw[Mh,tQ hn];simp_all;done)
  | (rw[Mh];simp_all;done)
 refine rn 10 ⟨?_,hF.same⟩
 first
 | (have hn:¬(Ub x=false\/x.exp<0\/19<(aL x.digits:Int)+x.exp):=by (refine not_or.2 ⟨qX,not_or.2 ⟨Aa,Aa⟩⟩)
    rw[Mh,tQ hn];simp_all;done)
 | (rw[Mh];simp_all;done)
end Go.Scarf
