/- A part of the proof. -/
import Derived.Lib.ItoaNum
import Derived.Lib.Small
import Derived.Lib.ItoaLen
import Derived.Lib.Bytealg
import Derived.Lib.TrimByte
import Derived.Lib.Strings
import Derived.Test.YteedfdfinodcaaaGreatDoorFacts
import Derived.Test.YteedfdfinodcaaaGreatDoorTie
import Derived.Test.YteedfdfinodcaaaGreatDoorShelf2
import Derived.ProofKit
import Derived.Shelf.Lay
import Derived.PinnedBridge
import Derived.Lay
import Derived.LaidOnce
import Derived.SevenTiedAt
import Derived.Lib.LaidU8T
import Derived.Lib.LaidTab
import Derived.Deep.Slices
import Derived.WideKeyArgs
import Derived.Carry
import Derived.Lib.SmallJoins
set_option linter.all false
set_option maxHeartbeats 8000000
set_option maxRecDepth 10000
namespace Go.Scarf
open List renaming length->aL
variable {f:UInt8->Bool}{at_ s:Str}{a:UInt8}{ps q:List MemPlace}{ρ:Operand->Value}{dst:Option Nat}{e t t1 t2 t3 t4 ty:TypeId}{pos:String}{aft:Array Edge}{g:Option (Nat × Bool)}{w':World}{b0 fuel i m:Nat}{cs:List Value}{r:Reach}{v:Value}{A:Option Addr}{P:Program}{spare:Nat->Bool}
structure Num where
  neg:Bool
  digits:Str
  exp:Int
deriving DecidableEq
def Num.zero:Num:=⟨false,[],0⟩
abbrev Pr(x:Num):Value:=.agg #[.bool x.neg,I x.digits,J x.exp]
def Qk(c:UInt8):Bool:=48<=c.toNat&&c.toNat<=57
def Jn(s:Str):Bool:=s.all Qk&&decide (s≠[])
theorem Jw(s:Str)(p:Nat)(h:p<aL s) :
    (¬((Utf8.decode (bs s) p).1:Int)<48/\¬(57:Int)<(Utf8.decode (bs s) p).1->Qk s[p]=true/\(Utf8.decode (bs s) p).2=1) /\
    (((Utf8.decode (bs s) p).1:Int)<48\/(57:Int)<(Utf8.decode (bs s) p).1->Qk s[p]=false):=by
  have hs:p<(bs s).size:=h;by_cases ha:(s[p]).toNat<128
  ·have hd := decode_ascii (bs s) p hs ha
   have e:((bs s)[p]' hs)=s[p]:=rfl;grind [Qk]
  have hd := decode_high (bs s) p hs (by show 128 <= (s[p]).toNat;omega);grind [Qk]
def V9{p:Nat}(h:p<aL s)(ha:(s.take p).all f=true)(hp:f s[p]=true):(s.take (p+1)).all f=true:=by
  rw[iQ h,List.all_append,ha];simp[hp]
theorem P7{p:Nat}(h:p<aL s)(hp:f s[p]=false):s.all f=false:=qJ
def Je(x:Num):Bool :=
  decide (x=Num.zero) || (Jn x.digits&&decide (aL x.digits<=1000)&&decide (x.digits.head?≠some 48)&&decide (x.digits.getLast?≠some 48)&&decide (-1000000<=x.exp)&&decide (x.exp<=1000000))
def Nm(x:Num):Str :=
  if Je x=false then [] else if x.digits=[] then [48] else
  (if x.neg then 45::x.digits else x.digits)++(if x.exp≠0 then 101::Lib.itoa x.exp else [])
def Jb(at_:Str):Str->Str × Str × Bool
  | []=>([],[],false)
  | c::r=>if at_.contains c then ([],r,true) else let x:=Jb at_ r;(c::x.1,x.2.1,x.2.2)
structure Lit where
  neg:Bool
  low:Bool
  whole:Str
  rest:Str
  exp:Str
deriving DecidableEq
abbrev CW(x:Lit):Value:=.agg #[.bool x.neg,.bool x.low,I x.whole,I x.rest,I x.exp]
def Rp(neg low:Bool)(f e:Str):Lit × Bool :=
  let d:=Jb [46] f
  (⟨neg,low,d.1,d.2.1,e⟩,Jn d.1&&(!d.2.2 || Jn d.2.1)&&(decide (d.1=[48]) || decide (d.1.head?≠some 48)))
def Fb(s:Str):Lit × Bool :=
  let neg:=Lib.hasPrefix s [45]
  let c:=Jb [101,69] (Lib.trimPrefix s [45])
  if c.2.2 then
    let low:=Lib.hasPrefix c.2.1 [45]
    let e:=if low then Lib.trimPrefix c.2.1 [45] else Lib.trimPrefix (Lib.trimPrefix c.2.1 [45]) [43]
    if Jn e then Rp neg low c.1 e else (⟨neg,low,[],[],[]⟩,false)
  else Rp neg false c.1 c.2.1
def Kg(s:Str):Int:=s.foldl (λa c=>10*a+((c.toNat:Int)-48)) 0
def De(s:Str):Num × Int :=
  let r:=Fb s
  let x:=r.1
  let exp:=Lib.trimLeftB x.exp 48
  if r.2=false then (Num.zero,2) else
  if 1000<aL x.whole+aL x.rest then (Num.zero,3) else
  if 9<aL exp then (Num.zero,4) else
  let e:=if x.low then-Kg exp else Kg exp
  let d:=Lib.trimLeftB (x.whole++x.rest) 48
  if d=[] then (Num.zero,0) else
  let short:=Lib.trimRightB d 48
  let n:Num:=⟨x.neg,short,e-aL x.rest+aL d-aL short⟩
  if Je n=false then (Num.zero,4) else (n,0)
def PI(s:Str)(c:UInt8):Kg (s++[c])=10*Kg s+((c.toNat:Int)-48):=by simp[Kg]
def I3(s:Str)(q:Nat)(h:q<aL s):Kg (s.take (q+1))=10*Kg (s.take q)+((s[q].toNat:Int)-48):=by rw[iQ h,PI]
def WC(s:Str)(ha:s.all Qk=true):0<=Kg s/\Kg s<10 ^ (aL s):=by
  have key:∀q,q<=aL s->0<=Kg (s.take q)/\Kg (s.take q)<10 ^ q:=by
    intro q
    induction q with
    | zero =>
      intro _;simp[Kg]
    | succ q ih =>
      intro hq;obtain⟨h1,h2⟩:=ih fX;have hc:=List.all_eq_true.1 ha s[q] (eQ fX);unfold Qk at hc;simp only[vQ,wQ]at hc;rw[I3 s q fX,Int.pow_succ];omega
  have:=key (aL s)<|gQ _
  rwa [List.take_length]at this
theorem QA(s:Str)(ha:s.all Qk=true)(hl:aL s<=9):0<=Kg s/\Kg s<1000000000:=by
  obtain⟨h1,h2⟩:=WC s ha;refine⟨h1,?_⟩;have h3:(10:Int) ^ (aL s)<=10 ^ 9:=by
    have:=Nat.pow_le_pow_right (n:=10) fX hl;grind
  grind
theorem ND(s:Str)(p:Nat)(h:p<aL s)(hd:Qk s[p]=true):Utf8.decode (bs s) p=(s[p].toNat,1):=by
  have hs:p<(bs s).size:=h;have:=decode_ascii (bs s) p hs (by
    show (s[p]).toNat<128;unfold Qk at hd;simp only[vQ,wQ]at hd;omega)
  exact this
theorem digs_all(h:Jn s=true):s.all Qk=true:=by grind [Jn]
theorem Hu(h:Jn s=true):s≠[]:=by grind [Jn]
theorem R2(at_:Str):∀s:Str,(Jb at_ s).2.2=false->(Jb at_ s).2.1=[]
  | [],_=>rfl
  | c :: r, h => by
    unfold Jb at h ⊢;split at h
    ·cases h
    rename_i hc
    rw[tQ hc];exact R2 at_ r h
theorem EU(h:(Fb s).2=true):(Fb s).1.exp.all Qk=true:=by grind [Jb,Fb,Jn,Rp,digs_all,R2]
theorem Jv{f g:UInt8->Bool}:∀{s:Str},s.all f=true->(s.dropWhile g).all f=true
  | [],_=>rfl
  | c :: s, h => by
    rw[List.dropWhile_cons];split
    ·simp only[List.all_cons, vQ]at h
     exact Jv h.2
    exact h
theorem Kk(at_:Str):∀s:Str,aL (Jb at_ s).1<=aL s/\aL (Jb at_ s).2.1<=aL s
  | []=>by simp[Jb]
  | c :: r => by
    have:=Kk at_ r;unfold Jb;split
    ·simp
    simp;omega
theorem Ro(s p:Str):aL (Lib.trimPrefix s p)<=aL s:=by
  unfold Lib.trimPrefix;grind
def Ev(s:Str)(c:UInt8):aL (Lib.trimLeftB s c)<=aL s:=by
  unfold Lib.trimLeftB;exact (List.dropWhile_sublist _).length_le
def Z6(s:Str)(c:UInt8):aL (Lib.trimRightB s c)<=aL s:=by
  unfold Lib.trimRightB;rw[List.length_reverse];have:=(List.dropWhile_sublist (λx=>x==c) (l:=s.reverse)).length_le;simpa using this
def head?_get(h:0<aL s):s.head? = some s[0]:=by cases s <;> simp at h ⊢
def u8_eq{n:Nat}(hn:n<256):((a.toNat:Int)=(n:Int))↔a=UInt8.ofNat n:=by
  constructor
  ·intro h
   have h':a.toNat=n:=by_Om
   rw[<-h'];simp
  intro h;subst h;simp;omega
theorem BK:((a.toNat:Int)=48)↔a=48:=u8_eq (n:=48) fX
def QM(h:0<aL s):(((s[0]' h).toNat:Int)=48)↔s.head? = some 48:=by
  rw[head?_get h,BK];simp
def QH{x:Num}(h:x=Num.zero):Je x=true:=by subst h;rfl
theorem WI{x:Num}(h0:¬x=Num.zero)(h:(!Jn x.digits)=true):Je x=false:=by grind [Je]
theorem OJ{x:Num}(h0:¬x=Num.zero)(h:(1000:Int)<aL x.digits):Je x=false:=by grind [Je]
theorem XI{x:Num}(h0:¬x=Num.zero)(hl:0<aL x.digits)(h:((x.digits[0]' hl).toNat:Int)=48):Je x=false:=by
  have:x.digits.head? = some 48:=by rw[head?_get hl,BK.1 h]
  grind [Je]
theorem KH{x:Num}(h0:¬x=Num.zero)(hl:aL x.digits-1<aL x.digits)(h:((x.digits[aL x.digits-1]' hl).toNat:Int)=48):Je x=false:=by grind [BK,Je]
theorem W8{x:Num}(h0:¬x=Num.zero)(h:(!Jn x.digits)=false)(h1:¬(1000:Int)<aL x.digits)(hl:0<aL x.digits)(h2:¬((x.digits[0]' hl).toNat:Int)=48)
    (hl':aL x.digits-1<aL x.digits) (h3:¬((x.digits[aL x.digits-1]' hl').toNat:Int)=48):Je x=(decide (-1000000<=x.exp)&&decide (x.exp<=1000000)):=by
  have a1:aL x.digits<=1000:=by_Om
  have a2:¬x.digits.head? = some 48:=by rw[head?_get hl];intro e;exact h2<|BK.2 (by injection e)
  grind [BK,Je]
def Zc{x:Num}(h:Je x=true):aL x.digits<=1000/\-1000000<=x.exp/\x.exp<=1000000:=by
  unfold Je at h;simp only[Bool.or_eq_true,vQ,wQ]at h;rcases h with rfl|h
  ·decide
  omega
theorem take_no{q:Nat}(h:q<aL s)(hno:∀c∈s.take q,at_.contains c=false)(hq:at_.contains s[q]=false):∀c∈s.take (q+1),at_.contains c=false:=by
  rw[iQ h];grind
theorem Dv(s:Str)(c:UInt8):(0<=Lib.indexByte s c)↔s.contains c=true:=by
  induction s with
  | nil=>simp[Lib.indexByte]
  | cons a s ih =>
    unfold Lib.indexByte;grind
def U9{c:UInt8}(h:¬(0:Int)<=Lib.indexByte at_ c):at_.contains c=false:=by
  rw[Bool.eq_false_iff];intro hh;exact h<|(Dv _ _).2 hh
def Wy{c:UInt8}(h:(0:Int)<=Lib.indexByte at_ c):at_.contains c=true:=(Dv _ _).1 h
theorem WA{at_:Str}:∀{s:Str},(∀c∈s,at_.contains c=false)->Jb at_ s=(s,[],false)
  | [],_=>rfl
  | c :: r, h => by
    unfold Jb;rw[tQ (by rw[h c Ca];simp),WA λc hc=>h c (by simp[hc])]
theorem R_{at_:Str}:∀{s:Str}{q:Nat}(h:q<aL s),(∀c∈s.take q,at_.contains c=false)->at_.contains s[q]=true->Jb at_ s=(s.take q,s.drop (q+1),true)
  | [],_,h,_,_=>absurd h Ca
  | c :: r, 0, _, _, hc => by
    unfold Jb;rw[uQ (aS hc)];simp
  | c :: r, q + 1, h, hno, hc => by
    unfold Jb;rw[tQ (by rw[hno c Ca];simp),R_ (q:=q) (aS h) (λd hd=>hno d (by simp[hd])) (aS hc)];simp
set_option synthInstance.maxHeartbeats 0
set_option synthInstance.maxSize 9999
open Go.RowKit Go.Proofs Go.Proofs.Tryz
theorem N9(w:World)(a b:Num):(Op.equal 68 (Pr a) (Pr b)).run prog w=.ok (decide (a=b)) w:=by
  obtain⟨p,a,m⟩:=a;obtain⟨q,b,n⟩:=b;have h:=WE a b;simp only[Pr,Num.mk.injEq];generalize bs a=u at *;generalize bs b=v at *;simp[Op.equal,Op.maxDepth,run_equalIn_struct,go_sem];grind
theorem x_eqlN{w:World}{x y:Operand}{a b:Num}(hx:ρ x=Pr a)(hy:ρ y=Pr b) :
    (execOp ρ ⟨dst,.binOp .eql 68 x y 68,ty,pos,aft,g⟩).run prog w=.ok (.value (.bool (decide (a=b)))) w:=by
  have hg:(eqGuard .eql 68 x y (Pr a)<|Pr b).run prog w=.ok () w:=by simp[eqGuard,Pr]
  have h:=N9 w a b;simp only[execOp,hx,hy,Sem.run_bind,hg,Result.andThen_ok];have hb:(binOp .eql 68 (Pr a)<|Pr b).run prog w=.ok (.bool<|decide (a=b)) w:=by
    simp only[Pr,binOp]at h ⊢;simp_all
  rw[hb];rfl
def K3(s q:Str)(w:World):Calls prog 118 #[I s,I q] w (Qb λv w'=>v=.tuple #[I (Lib.trimPrefix s q),.bool (Lib.hasPrefix s q)]/\Same [] w w'):=Kq (strings_CutPrefix (bs s) (bs q) w)
def EF(s q:Str)(w:World):Calls prog 120 #[I s,I q] w (Qb λv w'=>v=I (Lib.trimPrefix s q)/\Same [] w w'):=Kq (strings_TrimPrefix (bs s) (bs q) w)
def R3(s:Str)(w:World):Calls prog 92 #[I s,I [48]] w (Qb λv w'=>v=I (Lib.trimLeftB s 48)/\Same [] w w'):=Kq (strings_TrimLeft_one (bs s) 48 Pa w)
def MD(s:Str)(w:World)(h:aL s<=9223372036854775807):Calls prog 93 #[I s,I [48]] w (Qb λv w'=>v=I (Lib.trimRightB s 48)/\Same [] w w'):=Kq (strings_TrimRight_one (bs s) 48 Pa w h)
theorem GK(s:Str)(c:UInt8)(w:World):Calls prog 163 #[I s,.int .u8 (c.toNat:Int)] w (Qb λv w'=>v=J (Lib.indexByte s c)/\Same [] w w'):=by
  have:=Kq<|strings_IndexByte (bs s) (c.toNat:Int) w;simp_all
def cmpInt_c(x y:Int)(w:World):Calls prog 228 #[J x,J y] w (Qb λv w'=>v=J (Lib.compareInt x y)/\Same [] w w'):=Kq (cmp_Compare_int x y w)
def Ft(s:Str){w0:World}:Calls prog 89 #[I s] w0 (Qb λv w'=>v=.bool (Jn s)/\Same [] w0 w'):=by
 refine Ha func89 ntmps89 ?_;intro hF;refine rn 9<|Dy (str:=s) hF bX O ?_;rintro b1 w hb1 hF -;refine rn 3<|Za (λμ σ w=>∃(q:Nat),μ=aL s-q/\(q<=aL s)/\((s.take q).all Qk=true)/\AllEq σ [(0,I s),(6,V b1)]/\FR w0 [] [(b1,.stringIter (bs s) q)] w) _ ⟨0,O,bZ _,Ca,Gc,hF⟩ ?_;rintro μ σ w ⟨q,rfl,hq,ha,hzz,hF⟩;refine Gh hzz 2 ?_;by_cases hn0:(q)<aL (s:Str);refine K4 0 (p:=q) (str:=s) hF O O hn0 ?_;rintro w hF -;refine rn 20 ⟨λhg1=>?_,λhg1=>?_⟩;refine rn 12 ?_;have hd:=(Jw s q fX).2 fX;exact⟨by unfold Jn;rw[P7 fX hd];simp,hF.same⟩;refine rn 6 ⟨λhc1=>?_,λhc1=>?_⟩;refine rn 6 ?_;have hd:=(Jw s q fX).2 fX;exact⟨by unfold Jn;rw[P7 fX hd];simp,hF.same⟩;refine rn 2 ?_;have hd:=(Jw s q fX).1 ⟨by_Om,by_Om⟩;rw[hd.2]at hF;refine Va ⟨_,?_,q+1,O,fX,V9 fX ha hd.1,Gc,hF⟩;omega;refine Cs 0 (p:=q) (str:=s) hF O O hn0<|rn 15 ?_;have e:s.take q=s:=cZ fX;rw[e]at ha;exact⟨by unfold Jn;rw[ha];simp,hF.same⟩
def VF(x:Num)(hl:aL x.digits<=140737488355328)(w0:World):Calls prog 65 #[Pr x] w0 (Qb λv w'=>v=.bool (Je x)/\Same [] w0 w'):=by
 refine Ha func65 ntmps65 ?_;intro hF;refine rn 3 ?_;rintro b1 w hb1 hF -;refine rn 15<|Da (w':=w) (v:=.agg #[.bool false,I [],J 0]) Ib ?_;refine Da (v:=.bool<|decide (x=Num.zero)) (x_eqlN (a:=x) (b:=Num.zero) O O)<|rn 4 ⟨λhc0=>?_,λhc0=>?_⟩;refine rn 6 ?_;exact⟨by rw[QH hc0],hF.same⟩;refine rn 4<|Ta (Ft x.digits) ?_;rintro w hF -;refine rn 5 ⟨λhc1=>?_,λhc1=>?_⟩;refine rn 9 ?_;exact⟨by rw[WI hc0 hc1],hF.same⟩;refine rn 9 ⟨λhc2=>?_,λhc2=>?_⟩;refine rn 9 ?_;exact⟨by rw[OJ hc0 hc2],hF.same⟩;refine rn 3<|Da (v:=.int .u8<|(((x.digits:Str)[0]'(List.length_pos_iff.2<|Hu (aS hc1))).toNat:Int)) (En (0) bX O O<|List.length_pos_iff.2<|Hu (aS hc1)) ?_;refine rn 5 ⟨λhc3=>?_,λhc3=>?_⟩;refine rn 9 ?_;exact⟨by rw[XI hc0 _ hc3],hF.same⟩;refine rn 4 ?_;refine Da (v:=J<|((aL x.digits-1:Nat):Int)) (N3 O O<|Yf jN fX fX) ?_;refine Da (v:=.int .u8<|(((x.digits:Str)[aL x.digits-1]' jN).toNat:Int)) (En (aL x.digits-1) bX O O jN) ?_;refine rn 5 ⟨λhc4=>?_,λhc4=>?_⟩;refine rn 6 ?_;exact⟨by rw[KH hc0 _ hc4],hF.same⟩;refine rn 10 ⟨λhg0=>?_,λhg0=>?_⟩;refine rn 8 ?_;exact⟨by rw[W8 hc0 hc1 hc2 _ hc3 _ hc4];simp[hg0],hF.same⟩;refine rn 8 ?_;exact⟨by rw[W8 hc0 hc1 hc2 _ hc3 _ hc4];simp[hg0],hF.same⟩
def PN:List Int:=[0,1,56,2,57,49,28,3,61,58,42,50,38,29,17,4,62,47,59,36,45,43,51,22,53,39,33,30,24,18,12,5,63,55,48,27,60,41,37,16,46,35,44,21,52,32,23,11,54,26,40,15,34,20,31,10,25,14,19,9,13,8,7,6]
structure Gl (w:World):Prop where
  size:8<=w.heap.size
  tabs:Lib.Utf8Tabs 0 1 w
  pow:∃e fz,w.heap[2]? = some (.cells (Lib.pow10Tab.map (λz=>Value.int .u64 z)).toArray e fz)
  rng:∃tp q e fz,w.heap[4]? = some (.cells #[.iface tp q] e fz)
  syn:∃tp q e fz,w.heap[3]? = some (.cells #[.iface tp q] e fz)
  bru:∃e fz,w.heap[7]? = some (.cells (PN.map (λz=>Value.int .u8 z)).toArray e fz)
def Gl.same{w:World}{Ds:List Nat}(h:Gl w)(hs:Same Ds w w')(hd:∀b∈Ds,8<=b):Gl w':=by
  have hb:∀b,b<8->w'.heap[b]? = w.heap[b]?:=λb hb=>hs.block b (Nat.lt_of_lt_of_le hb h.size) (λhi=>by have:=hd b hi;omega);refine⟨fQ h.size hs.size,⟨λc hc=>?_,λi hi=>⟨?_,?_⟩⟩,?_,?_,?_,?_⟩
  ·rw[<- h.tabs.1 c hc]
   exact World.cell?_of_block (w:=w)<|hb 0 fX
  ·rw[<- (h.tabs.2 i hi).1]
   exact World.cell?_of_block (w:=w)<|hb 1 fX
  ·rw[<- (h.tabs.2 i hi).2]
   exact World.cell?_of_block (w:=w)<|hb 1 fX
  ·rw[hb 2 fX];exact h.pow
  ·rw[hb 4 fX];exact h.rng
  ·rw[hb 3 fX];exact h.syn
  rw[hb 7 fX];exact h.bru
def Gl.ext{w:World}(h:Gl w)(hs:Same [] w w'):Gl w':=h.same hs Ca
def Gl.tabIs {w:World} (h:Gl w):Lib.TabIs prog w "internal/strconv.uint64pow10" IntKind.u64 Lib.pow10Tab:=by
  obtain⟨e,fz,hh⟩:=h.pow;have hg:prog.globalNamed "internal/strconv.uint64pow10" = some 2:=by kernel_rfl
  simp[Lib.TabIs,World.var?,hg,hh]
def Gl.err {w:World} (h:Gl w):∃ tp q,World.var? prog w "strconv.ErrRange" = some #[.iface tp q]:=by
  obtain⟨tp,q,e,fz,hh⟩:=h.rng;have hg:prog.globalNamed "strconv.ErrRange" = some 4:=by kernel_rfl
  exact⟨tp,q,by simp[World.var?,hg,hh]⟩
def Gl.serr {w:World} (h:Gl w):∃ tp q,World.var? prog w "strconv.ErrSyntax" = some #[.iface tp q]:=by
  obtain⟨tp,q,e,fz,hh⟩:=h.syn;have hg:prog.globalNamed "strconv.ErrSyntax" = some 3:=by kernel_rfl
  exact⟨tp,q,by simp[World.var?,hg,hh]⟩
def ZT(w:World)(k:Nat)(os:Array Obj):Same [] w (Go.Sort.grow (w.drewN k) os) :=
  ⟨rfl,rfl,rfl,by rw[Go.Sort.size_grow];exact Nat.le_add_right _ _,λb hb _=>Go.Sort.heap_grow_old (w.drewN k) os hb⟩
def G7(n:Int)(h1:-9223372036854775808<=n)(h2:n<=9223372036854775807){w:World}(hG:Gl w):Calls prog 66 #[J n] w (Qb λv w'=>v=I (Lib.itoa n)/\Same [] w w') :=
  (strconv_Itoa n h1 h2 w hG.tabIs).mono λe w' ⟨he,k,os,hw⟩=>⟨_,he,rfl,by subst hw;exact ZT w k os⟩
theorem WN(x:Num)(hl:aL x.digits<=140737488355328)(w0:World)(hG:Gl w0):Calls prog 35 #[Pr x] w0 (Qb λv w'=>v=I (Nm x)/\Same [] w0 w'):=by
 refine Ha func35 ntmps35 ?_;intro hF;refine rn 3 ?_;rintro b1 w hb1 hF -;refine rn 7<|Ta (VF x hl _) ?_;rintro w hF -;refine rn 4 ⟨λhc0=>?_,λhc0=>?_⟩;refine rn 6 ⟨?_,hF.same⟩;simp_all[Nm];refine rn 11 ⟨λhc1=>?_,λhc1=>?_⟩;refine rn 6 ⟨?_,hF.same⟩;simp_all[Nm];refine rn 17 ⟨λhc2=>?_,λhc2=>?_⟩;refine rn 2 ?_;refine Da (v:=I<|([45])++(x.digits)) (Xq O O zS) ?_;refine rn 12 ⟨λhc3=>?_,λhc3=>?_⟩;refine rn 4 ?_;refine Ta (G7 x.exp qB qB<|hG.ext hF.same) ?_;rintro w hF -;refine Da (v:=I<|([101])++(Lib.itoa x.exp)) (Xq O O zH) ?_;refine Da (v:=I<|(([45])++(x.digits))++(([101])++(Lib.itoa x.exp))) (Xq O O zH) ?_;refine rn 10 ⟨?_,hF.same⟩;simp_all[Nm];refine rn 9 ⟨?_,hF.same⟩;simp_all[Nm];refine rn 11 ⟨λhc3=>?_,λhc3=>?_⟩;refine rn 4 ?_;refine Ta (G7 x.exp qB qB<|hG.ext hF.same) ?_;rintro w hF -;refine Da (v:=I<|([101])++(Lib.itoa x.exp)) (Xq O O zH) ?_;refine Da (v:=I<|(x.digits)++(([101])++(Lib.itoa x.exp))) (Xq O O zH) ?_;refine rn 10 ⟨?_,hF.same⟩;simp_all[Nm];refine rn 9 ⟨?_,hF.same⟩
 simp_all[Nm]
def cut_c(s at_:Str)(hl:aL s<=140737488355328)(w0:World):Calls prog 119 #[I s,I at_] w0 (Qb λv w'=>v=.tuple #[I ((Jb at_ s).1),I ((Jb at_ s).2.1),.bool (Jb at_ s).2.2]/\Same [] w0 w'):=by
 refine Ha func119 ntmps119 ?_;intro hF;refine rn 16<|Za (λμ σ w=>∃(q:Nat),μ=aL s-q/\(q<=aL s)/\(∀c∈s.take q,at_.contains c=false)/\AllEq σ [(0,I s),(1,I at_),(9,J<|(aL ((s):Str):Int)),(10,J<|(q:Int))]/\FR w0 [] [] w) _ ⟨0,O,bZ _,Ca,Gc,hF⟩ ?_;rintro μ σ w ⟨q,rfl,hq,hno,hzz,hF⟩;refine Gh hzz 7 ⟨λhc0=>?_,λhc0=>?_⟩;refine rn 15<|Da (v:=.int .u8<|(((s:Str)[q]' fX).toNat:Int)) (En (q) bX O O fX) ?_;refine Ta (GK at_ _ _) ?_;rintro w hF -;refine rn 4 ⟨λhc1=>?_,λhc1=>?_⟩;refine rn 1<|Fe (zs:=.of []) (bQ [0,1,2,3,4,5,6,7,8,9] .nil) hF ?_;intro w hF;refine rn 2<|Fa O (v:=I<|(s:Str).take (q)) (λw hC=>XZ (q) bX O O fX) ?_;refine rn 2<|Wu O (Le<|((q+1:Nat):Int))<|Fa O (v:=I<|(s:Str).drop (q+1)) (λw hC=>JI (q+1) bX O O fX) ?_;refine rn 6 ?_;exact⟨by rw[R_ fX hno<|Wy hc1],hF.same⟩;refine rn 4<|Tc Fj ?_;refine rn 2<|Va ⟨_,?_,q+1,O,fX,take_no fX hno<|U9 hc1,Gc,hF⟩;omega;refine rn 11 ?_;have e:s.take q=s:=cZ fX;rw[e]at hno;exact⟨by rw[WA hno],hF.same⟩
theorem read_c(s:Str)(hl:aL s<=140737488355328)(w0:World):Calls prog 91 #[I s] w0 (Qb λv w'=>v=.tuple #[CW (Fb s).1,.bool (Fb s).2]/\Same [] w0 w'):=by
 refine Ha func91 ntmps91 ?_;intro hF;refine rn 3 ?_;rintro b1 w hb1 hF -;refine rn 6<|Ta (K3 s [45] _) ?_;rintro w hF -;refine rn 6 ?_;rintro w hF -;refine rn 5 ?_;refine Ta (cut_c (Lib.trimPrefix s [45]) [101,69] wK _) ?_;rintro w hF -;refine rn 10<|Of (λσ w=>∃(ex:Str),∃(lw:Bool),(Fb s=Rp (Lib.hasPrefix s [45]) lw (Jb [101,69]<|Lib.trimPrefix s [45]).1 ex)/\AllEq σ [(0,I<|(Jb [101,69]<|Lib.trimPrefix s [45]).1),(2,V b1),(4,I ex)]/\FR w0 [] [(b1,.cells #[.bool<|Lib.hasPrefix s [45],.bool lw,I [],I [],I []] 122)] w) ?_ ?_;refine rn 6 ⟨λhc0=>?_,λhc0=>?_⟩;refine rn 3<|Ta (K3 ((Jb [101,69]<|Lib.trimPrefix s [45]).2.1) [45] _) ?_;rintro w hF -;refine rn 6 ?_;rintro w hF -;refine rn 11 ⟨λhc1=>?_,λhc1=>?_⟩;refine rn 2<|Ta (EF (Lib.trimPrefix ((Jb [101,69]<|Lib.trimPrefix s [45]).2.1) [45]) [43] _) ?_;rintro w hF -;refine rn 6<|Ta (Ft<|Lib.trimPrefix (Lib.trimPrefix ((Jb [101,69]<|Lib.trimPrefix s [45]).2.1) [45]) [43]) ?_;rintro w hF -;refine rn 4 ⟨λhc2=>?_,λhc2=>?_⟩;refine rn 4 ?_;rintro w hF -;refine rn 4 ⟨?_,hF.same⟩;simp_all[Fb,CW];refine rn 1 ?_;exact Va ⟨Lib.trimPrefix (Lib.trimPrefix ((Jb [101,69]<|Lib.trimPrefix s [45]).2.1) [45]) [43],Lib.hasPrefix ((Jb [101,69]<|Lib.trimPrefix s [45]).2.1) [45],by simp_all[Fb],Gc,hF⟩;refine rn 5<|Ta (Ft<|Lib.trimPrefix ((Jb [101,69]<|Lib.trimPrefix s [45]).2.1) [45]) ?_;rintro w hF -;refine rn 4 ⟨λhc2=>?_,λhc2=>?_⟩;refine rn 4 ?_;rintro w hF -;refine rn 4 ⟨?_,hF.same⟩;simp_all[Fb,CW];refine rn 1 ?_;exact Va ⟨Lib.trimPrefix ((Jb [101,69]<|Lib.trimPrefix s [45]).2.1) [45],Lib.hasPrefix ((Jb [101,69]<|Lib.trimPrefix s [45]).2.1) [45],by simp_all[Fb],Gc,hF⟩;refine rn 1 ?_;exact Va ⟨(Jb [101,69]<|Lib.trimPrefix s [45]).2.1,false,by simp_all[Fb],Gc,hF⟩
 rintro σ w ⟨ex,lw,hrd,hzz,hF⟩;refine J9 hzz 6 ?_;rintro w hF -;refine rn 5 ?_;refine Ta (cut_c ((Jb [101,69]<|Lib.trimPrefix s [45]).1) [46] wK _) ?_;rintro w hF -;refine rn 15 ?_;rintro w hF -;refine rn 2 ?_;rintro w hF -;refine rn 4<|Of (λσ w=>∃(bd:Bool),(bd = !(Jn (Jb [46] (Jb [101,69]<|Lib.trimPrefix s [45]).1).1&&(!(Jb [46] (Jb [101,69]<|Lib.trimPrefix s [45]).1).2.2 || Jn (Jb [46] (Jb [101,69]<|Lib.trimPrefix s [45]).1).2.1)))/\AllEq σ [(2,V b1),(6,I<|(Jb [46]<|(Jb [101,69]<|Lib.trimPrefix s [45]).1).1),(59,.bool bd)]/\FR w0 [] [(b1,.cells #[.bool<|Lib.hasPrefix s [45],.bool lw,I<|(Jb [46]<|(Jb [101,69]<|Lib.trimPrefix s [45]).1).1,I<|(Jb [46]<|(Jb [101,69]<|Lib.trimPrefix s [45]).1).2.1,I ex] 122)] w) ?_ ?_;refine rn 2<|Ta (Ft<|(Jb [46]<|(Jb [101,69]<|Lib.trimPrefix s [45]).1).1) ?_;rintro w hF -;refine rn 3 ⟨λhg0=>?_,λhg0=>?_⟩;refine rn 8 ?_;exact Va ⟨true,qX,Gc,hF⟩;refine rn 3 ⟨λhg1=>?_,λhg1=>?_⟩;refine rn 1<|Ta (Ft<|(Jb [46]<|(Jb [101,69]<|Lib.trimPrefix s [45]).1).2.1) ?_;rintro w hF -;refine rn 4 ?_;exact Va ⟨!(Jn<|(Jb [46]<|(Jb [101,69]<|Lib.trimPrefix s [45]).1).2.1),qX,Gc,hF⟩;refine rn 6 ?_;exact Va ⟨false,qX,Gc,hF⟩;rintro σ w ⟨bd,hbd,hzz,hF⟩;refine J9 hzz 2 ⟨λhc3=>?_,λhc3=>?_⟩;refine rn 4 ?_;rintro w hF -;refine rn 4 ⟨?_,hF.same⟩;rw[hrd];clear hrd hF;have hB:(Jn (Jb [46] (Jb [101,69]<|Lib.trimPrefix s [45]).1).1&&(!(Jb [46] (Jb [101,69]<|Lib.trimPrefix s [45]).1).2.2 || Jn (Jb [46] (Jb [101,69]<|Lib.trimPrefix s [45]).1).2.1)) = !bd:=by rw[hbd,Bool.not_not]
 clear hbd;simp only[Rp,CW,hB];simp_all[QM];refine rn 3<|Fe (zs:=.of []) (bQ [0,1,2,3,4,5,6,7]<|.act 8<|.free 9 .nil) hF ?_;intro w hF;refine rn 5 ⟨λhg2=>?_,λhg2=>?_⟩;refine rn 5 ?_;rintro w hF -;refine rn 4 ⟨?_,hF.same⟩;rw[hrd];clear hrd hF;have hB:(Jn (Jb [46] (Jb [101,69]<|Lib.trimPrefix s [45]).1).1&&(!(Jb [46] (Jb [101,69]<|Lib.trimPrefix s [45]).1).2.2 || Jn (Jb [46] (Jb [101,69]<|Lib.trimPrefix s [45]).1).2.1)) = !bd:=by rw[hbd,Bool.not_not]
 clear hbd;simp only[Rp,CW,hB];simp_all[QM];refine rn 1 ?_;have hpos:=List.length_pos_iff.2<|Hu (s:=(Jb [46] (Jb [101,69]<|Lib.trimPrefix s [45]).1).1) qX;refine Fa O (v:=.int .u8<|((((Jb [46]<|(Jb [101,69]<|Lib.trimPrefix s [45]).1).1:Str)[0]'(hpos)).toNat:Int)) (λw hC=>En (0) bX O O hpos)<|rn 3 ?_;rintro w hF -;refine rn 4 ⟨?_,hF.same⟩;rw[hrd];clear hrd hF;have hB:(Jn (Jb [46] (Jb [101,69]<|Lib.trimPrefix s [45]).1).1&&(!(Jb [46] (Jb [101,69]<|Lib.trimPrefix s [45]).1).2.2 || Jn (Jb [46] (Jb [101,69]<|Lib.trimPrefix s [45]).1).2.1)) = !bd:=by rw[hbd,Bool.not_not]
 clear hbd;simp only[Rp,CW,hB];simp_all[QM]
set_option maxRecDepth 100000
section
variable {H:Type}{enc:TypeId × Value->H}{W:World}{base:Nat}{sp:Nat->Bool}{held:Bool}
open Go.ChangeShapes Go.WideShapes Go.ChangeAt Go.Lib Go.Shelf Go.WideMaps Go.ChangeMaps
def wf_i64{n:Int}(h:(Lit.int .i64 n).wf=true):-9223372036854775808<=n/\n<=9223372036854775807:=by simpa[Lit.wf,IntKind.min,IntKind.max,IntKind.signed,IntKind.bits]using h
def cs25:prog.cellsOf 25=4:=by kernel_rfl
def cs9:prog.cellsOf 9=1:=by kernel_rfl
def cs3:prog.cellsOf 3=1:=by kernel_rfl
def cs22:prog.cellsOf 22=1:=by kernel_rfl
def cs23:prog.cellsOf 23=1:=by kernel_rfl
theorem WP{e:TypeId}{m:Nat}{w:World}{ad:Addr}(hC:prog.cellsOf e=m):∀(len:Nat)(g:Nat->D),(∀i,i<len->∃cs,w.cells? base (ad.add (i*m)) m=some cs/\Rep (λ_=>True) w (g i) cs) ->
    ∃es:List Value,aL es=len*m/\CellsAt (λ_=>True) w ad es/\RepL (λ_=>True) w ((List.range len).map g) es
  | 0,g,_=>⟨[],Ca,λi hi=>absurd hi Ca,RepL.nil_mk⟩
  | len + 1, g, h => by
    obtain⟨es,hl,hc,hr⟩:=WP hC len g λi hi=>h i fX;obtain⟨cs,h1,h2⟩:=h len fX;obtain⟨_,hcl,hat⟩:=World.cells?_some h1;refine⟨es++cs,by rw[dQ,hl,hcl,Nat.add_mul,Nat.one_mul],λi hi=>⟨?_,trivial⟩,?_⟩
    ·by_cases hi' : i<aL es
     ·rw[List.getElem_append_left hi'];exact (hc i hi').1
     have hi2 : i-aL es<aL cs := by rw[dQ]at hi;omega
     rw[List.getElem_append_right fX];have:=hat (i-aL es) fX;rw[Hr,<-hl]at this;rw[show (aL es)+(i-aL es)=i by omega]at this;rw[this];exact List.getElem?_eq_getElem hi2
    rw[List.range_succ, jQ];exact RepL.append hr (by have:=RepL.cons_mk h2 RepL.nil_mk;rw[qQ]at this;exact this)
theorem Vw{α:Type}[Inhabited α]{P:Nat->α->Prop}:∀(n:Nat),(∀i,i<n->∃a,P i a)->∃f:Nat->α,∀i,i<n->P i (f i)
  | 0,_=>⟨λ_=>default,λi hi=>absurd hi fX⟩
  | n + 1, h => by
    obtain⟨f,hf⟩:=Vw n λi hi=>h i fX;obtain⟨a,ha⟩:=h n fX;refine⟨λi=>if i=n then a else f i,λi hi=>?_⟩;by_cases e:i=n
    ·subst e;simpa using ha
    simp only[e,if_false];exact hf i fX
theorem Fy{x:DataW H × List MemPlace}{α:Type}[Inhabited α]{g:α->D}(ht:prog.underlying t=some (.slice e))(hC:prog.cellsOf e=m)
    (hel:∀n,n<fuel->∀cs x,DataW.trod enc prog W base sp held n e cs=some x->∃a:α,Rep (λ_=>True) W (g a) cs) (h:DataW.trod enc prog W base sp held fuel t cs=some x) :
    ∃l:List α,Rep (λ_=>True) W (.slice (l.map g)) cs:=by
  rcases DataW.trod_slice ht h with ⟨rfl,-⟩|⟨a,len,cap,elems,rest,n,hn,rfl,-,hb,hl,hm,hlen,hall,-,-⟩
  ·exact⟨[],Rep.nil_slice 0 fX none⟩
  have hi:∀i,i<len->∃al:α,∃cs',W.cells? base (a.add<|i*m) m=some cs'/\Rep (λ_=>True) W (g al) cs':=by
    intro i hi;have h1:=hall i hi;have h2:elems[i]? = some (elems[i]' fX):=qJ
    rw[h2,hC,Option.bind_eq_some_iff]at h1;grind
  obtain⟨f,hf⟩:=Vw len hi;obtain⟨es,-,hc,hr⟩:=WP hC len (λi=>g<|f i) hf;refine⟨(List.range len).map f,?_⟩;rw[List.map_map];exact Rep.slice_mk Ca hl hm λ_=>⟨a,O,es,hc,hr⟩
theorem N4{x:DataW H × List MemPlace}(h:DataW.trod enc prog W base sp held fuel 9 cs=some x):∃s:Str,Rep (λ_=>True) W (Hh s) cs:=by
  obtain⟨s,rfl,-,hs⟩:=DataW.trod_string bX h;refine⟨s.data.toList,?_⟩;have e:[Value.string s]=[.string<|bs s.data.toList]:=qJ
  rw[e];exact Rep.lit_mk (by show aL s.data.toList<=_;rw[Array.length_toList];exact hs)
def XR{x:DataW H × List MemPlace}(h:DataW.trod enc prog W base sp held fuel 3 cs=some x):∃n:Int,Rep (λ_=>True) W (Pd n) cs:=by
  obtain⟨n,rfl,-,hn⟩:=DataW.trod_int yZ h;exact⟨n,Rep.lit_mk ⟨(wf_i64 hn).1,(wf_i64 hn).2⟩⟩
instance : Inhabited Tree:=⟨.node 0 [] [] []⟩
theorem tree_of:∀(fuel:Nat)(cs:List Value)(x:DataW H × List MemPlace),DataW.trod enc prog W base sp held fuel 25 cs=some x->∃t:Tree,Rep (λ_=>True) W (Sa t) cs:=by
  intro fuel
  induction fuel using Nat.strongRecOn with
  | _ fuel ih =>
    intro cs x h;obtain⟨xs,n,rfl,-,hcl,hxl,hf⟩:=DataW.trod_struct underlying25 h;rw[cs25]at hcl;have get:∀(i:Nat)(hi:i<4),xs[i]? = some (xs[i]'(by rw[hxl];exact hi)):=qJ
    have h0:=(hf 0 _ rfl).trans (get 0 fX);have h1:=(hf 1 _ rfl).trans (get 1 fX);have h2:=(hf 2 _ rfl).trans (get 2 fX);have h3:=(hf 3 _ rfl).trans (get 3 fX);obtain⟨k,hk⟩:=XR h0;obtain⟨t,ht⟩:=N4 h1;obtain⟨ks,hks⟩:=Fy (g:=Hh) wZ cs9 (λn _ cs x h=>N4 h) h2;obtain⟨ys,hys⟩:=Fy (g:=Sa) xZ cs25 (λm hm cs x h=>ih m fX cs x h) h3;refine⟨.node k t ks ys,?_⟩;have e:cs=(cs.drop 0).take (prog.cellsOf 3)++((cs.drop 1).take (prog.cellsOf 9)++((cs.drop 2).take (prog.cellsOf 22)++((cs.drop 3).take (prog.cellsOf 23)++[]))):=by
      rw[cs3,cs9,cs22,cs23]
      match cs,hcl with
      | [a,b,c,d],_=>rfl
    rw[e];unfold Sa;rw[<-Fc]at hys;exact Rep.agg_mk<|RepL.cons_mk hk<|RepL.cons_mk ht<|RepL.cons_mk hks<|RepL.cons_mk hys RepL.nil_mk
def Fz{d:DataW H}(hv:Value.okWide prog W r b0 25 v)(h:DataW.Trod enc prog W base sp held 25 v d q) :
    ∃(t:Tree)(cs:List Value),v=.agg cs.toArray/\Rep (λ_=>True) W (Sa t) cs:=by
  obtain⟨cs,rfl,-⟩:=okWide_struct underlying25 hv;obtain⟨fuel,hf⟩:=h;obtain⟨t,ht⟩:=tree_of fuel _ _ hf;exact⟨t,cs.toList,O,ht⟩
def laidOut_:laidOutB prog=true:=by kernel_rfl
def P5{W':World}(hr:prog.readableRec t=true)(hrow:t<prog.types.size){d:DataW H}(hb:Below W.heap.size W W')(hlt:∀p∈ps,p.block<W.heap.size)
    (h:DataW.Trod enc prog W 0 (λ_=>true) true t v d ps):DataW.Trod enc prog W' 0 (λb=>decide (b<W.heap.size)) true t v d ps :=
  WideElems.Trod_stays laidOut_ hr hrow h (λp hp=>hb.same<|hlt p hp) (λp hp=>by simpa using hlt p hp)
def rec25:prog.readableRec 25=true:=by kernel_rfl
theorem row25:25<prog.types.size:=qX
end
section
open Go.Lib Go.Shelf Go.Proofs.YteedfdfinodcaaaGreatDoor
def Eo:List (String × DataW Unit):=[("math/bits.deBruijn32tab", Rows.laid_math_bits_deBruijn32tab),("math/bits.deBruijn64tab", Rows.laid_math_bits_deBruijn64tab),("internal/strconv.uint64pow10", Rows.laid_internal_strconv_uint64pow10),("unicode/utf8.acceptRanges", Rows.laid_unicode_utf8_acceptRanges),("strconv.ErrRange", Rows.laid_strconv_ErrRange),("strconv.ErrSyntax", Rows.laid_strconv_ErrSyntax),("unicode/utf8.first", Rows.laid_unicode_utf8_first)]
def u8x:U8Extra prog lays196_ren:=⟨Ib,Ib,Ib,Ib,Ib,Ib,Ib⟩
theorem Dm{W:World}{n:String}{g:Nat}{cs:Array Value}(hg:prog.globalNamed n=some g)(h:World.var? prog W n=some cs):∃e fz,W.heap[g]? = some (.cells cs e fz):=by
  unfold World.var? at h;grind
theorem TI{enc:TypeId × Value->Unit}{W:World}{base:Nat}{sp:Nat->Bool}{nm:String}{d:DataW Unit}(ht':∃ms,prog.underlying t=some (.interface ms))
    (h:DataW.trod enc prog W base sp false fuel t cs=some (.iface nm d,q)):∃u v,cs=[.iface u v]:=by
  obtain⟨ms,ht⟩:=ht';cases fuel with
  | zero=>simp[DataW.trod]at h
  | succ fuel =>
    unfold DataW.trod at h;rw[ht]at h;split at h <;> first|(cases h;done)|(simp at h;done)|skip
    all_goals first|exact⟨_,_,rfl⟩|(simp_all;done)
theorem DO{W:World}(h:laidMetH prog Eo W):Gl W:=by
  rw[MakeChecks.laidMetH_plain _ _ _ Ib]at h;have r:∀ n d,(n,d)∈Eo->VarReads prog W n d:=λn d hm=>Lib.laidMet.reads h hm;have hT:=utf8Tabs_of_readsT (U8Types.of196 lays196) u8x (w:=W) (Pinned.utf8First_eq▸r "unicode/utf8.first" _ (by simp[Eo,Rows.laid_unicode_utf8_first])) ((by kernel_rfl:Rows.laid_unicode_utf8_acceptRanges=acceptData)▸r "unicode/utf8.acceptRanges" _ (by simp[Eo]));refine⟨?_,hT,?_,?_,?_,?_⟩
  ·obtain⟨g, t, cs, fuel, q, hg, hty, hvar, hd⟩ := r "math/bits.deBruijn64tab" Rows.laid_math_bits_deBruijn64tab (by simp[Eo])
   obtain rfl:=lQ ((show prog.globalNamed "math/bits.deBruijn64tab" = some 7 by kernel_rfl).symm.trans hg);grind [Dm,Ga]
  ·obtain⟨g, t, cs, fuel, q, hg, hty, hvar, hd⟩ := r "internal/strconv.uint64pow10" Rows.laid_internal_strconv_uint64pow10 (by simp[Eo])
   obtain rfl:=lQ ((show prog.globalNamed "internal/strconv.uint64pow10" = some 2 by kernel_rfl).symm.trans hg);obtain rfl:=lQ ((show (prog.globals[2]?).map (·.type)=some 240 by kernel_rfl).symm.trans hty);have hcs:=cells_of_tab (zs:=Lib.pow10Tab) (k:=.u64) underlying240 underlying207 Ib Ib<|(by kernel_rfl:(Rows.laid_internal_strconv_uint64pow10:DataW Unit)=tabData .u64 Lib.pow10Tab)▸hd;obtain⟨e,fz,hh⟩:=Dm hg hvar;refine⟨e,fz,?_⟩;rw[hh,<-hcs]
  ·obtain⟨g, t, cs, fuel, q, hg, hty, hvar, hd⟩ := r "strconv.ErrRange" Rows.laid_strconv_ErrRange (by simp[Eo])
   obtain rfl:=lQ ((show prog.globalNamed "strconv.ErrRange" = some 4 by kernel_rfl).symm.trans hg);obtain rfl:=lQ ((show (prog.globals[4]?).map (·.type)=some 145 by kernel_rfl).symm.trans hty);obtain⟨u,v,hcs⟩:=TI ⟨_,underlying145⟩ hd;obtain⟨e,fz,hh⟩:=Dm hg hvar;refine⟨u,v,e,fz,?_⟩;rw[hh]
   congr 1
   congr 1
   grind
  ·obtain⟨g, t, cs, fuel, q, hg, hty, hvar, hd⟩ := r "strconv.ErrSyntax" Rows.laid_strconv_ErrSyntax (by simp[Eo])
   obtain rfl:=lQ ((show prog.globalNamed "strconv.ErrSyntax" = some 3 by kernel_rfl).symm.trans hg);obtain rfl:=lQ ((show (prog.globals[3]?).map (·.type)=some 145 by kernel_rfl).symm.trans hty);obtain⟨u,v,hcs⟩:=TI ⟨_,underlying145⟩ hd;obtain⟨e,fz,hh⟩:=Dm hg hvar;refine⟨u,v,e,fz,?_⟩;rw[hh]
   congr 1
   congr 1
   grind
  obtain⟨g, t, cs, fuel, q, hg, hty, hvar, hd⟩ := r "math/bits.deBruijn64tab" Rows.laid_math_bits_deBruijn64tab (by simp[Eo]);obtain rfl:=lQ ((show prog.globalNamed "math/bits.deBruijn64tab" = some 7 by kernel_rfl).symm.trans hg);obtain rfl:=lQ ((show (prog.globals[7]?).map (·.type)=some 293 by kernel_rfl).symm.trans hty);have hcs:=cells_of_tab (zs:=PN) (k:=.u8) underlying293 underlying5 Ib Ib<|(by kernel_rfl:(Rows.laid_math_bits_deBruijn64tab:DataW Unit)=tabData .u8 PN)▸hd;obtain⟨e,fz,hh⟩:=Dm hg hvar;refine⟨e,fz,?_⟩;rw[hh,<-hcs]
def own_:ownKnob prog.godebug=none:=by kernel_rfl
def wit_(os:Os)(args:Array Value):laidMetH prog Eo ((World.laidAll prog os Eo).forCall (λ_ _=>0) ⟨#[],args,[]⟩).memory:=by rw[MakeChecks.laidMetH_plain _ _ _ Ib];exact laidMet_laidAll _ Ib Ib
end
open Go.RowKit
def KB(q:Int × Int):D:=.agg [Pd q.1,Pd q.2]
def X0(m:List (Int × Int)):D:=.slice (m.map KB)
abbrev Uw(q:Int × Int):List Value:=[J q.1,J q.2]
def G6(m:List (Int × Int)):List Value:=m.flatMap Uw
section
variable {S:Nat->Prop}{w:World}
theorem YY{q:Int × Int}(h:Rep S w (KB q) cs):cs=Uw q/\(-9223372036854775808<=q.1/\q.1<=9223372036854775807)/\(-9223372036854775808<=q.2/\q.2<=9223372036854775807):=by
  simp only[KB,Pd,Rep,RepL]at h;obtain⟨c1,c2,rfl,⟨rfl,h1⟩,c3,c4,rfl,⟨rfl,h2⟩,rfl⟩:=h;exact⟨O,h1,h2⟩
def rep_pair{q:Int × Int}(h1:-9223372036854775808<=q.1/\q.1<=9223372036854775807)(h2:-9223372036854775808<=q.2/\q.2<=9223372036854775807):Rep S w (KB q) (Uw q):=by
  simp only[KB,Pd,Rep,RepL];exact⟨_,_,O,⟨O,h1⟩,_,_,O,⟨O,h2⟩,O⟩
theorem Rep.pair_elem{m:List (Int × Int)}{len c:Nat}(h:Rep S w (X0 m) [.slice A len c])(hi:i<aL m) :
    ∃ad,A=some ad/\(∀j (hj:j<aL (Uw m[i])),w.cell? ((ad.add (i*2)).add j)=some (Uw m[i])[j])/\(-9223372036854775808<=m[i].1/\m[i].1<=9223372036854775807)/\(-9223372036854775808<=m[i].2/\m[i].2<=9223372036854775807):=by
  obtain⟨ad,cs,hA,hl,hc,hr⟩:=Rep.elem (sz:=2) h (λd hd=>by obtain⟨k,_,rfl⟩:=nQ.1 hd;rfl) (i:=i) (aS hi);grind [YY]
theorem Rep.pairs_len{m:List (Int × Int)}{len c:Nat}(h:Rep S w (X0 m) [.slice A len c]):len=aL m/\len<=c/\c<=9223372036854775807:=by
  have:=h.slice_len;grind
def Om(x:List Str × List Int):D:=.agg [Wa x.1,.slice (x.2.map Pd)]
theorem WZ{x:List Str × List Int}(h:Rep S w (Om x) cs):∃A c B e,cs=[.slice A (aL x.1) c,.slice B (aL x.2) e]/\Rep S w (Wa x.1) [.slice A (aL x.1) c]/\Rep S w (.slice (x.2.map Pd)) [.slice B (aL x.2) e]:=by grind [Om,Rep,RepL,Wa]
def MX{x:List Str × List Int}{B:Option Addr}{c e:Nat}(h1:Rep S w (Wa x.1) [.slice A (aL x.1) c])(h2:Rep S w (.slice (x.2.map Pd)) [.slice B (aL x.2) e]):Rep S w (Om x) [.slice A (aL x.1) c,.slice B (aL x.2) e]:=by
  rw[Om,Rep,RepL];refine⟨_,_,O,h1,?_⟩;rw[RepL];exact⟨_,_,O,h2,by rw[RepL]⟩
theorem Rep.node_elem{l:List (List Str × List Int)}{len c:Nat}(h:Rep S w (.slice (l.map Om)) [.slice A len c])(hi:i<aL l) :
    ∃ad A1 c1 B1 e1, A = some ad /\ (∀j (hj : j<[Value.slice A1 (aL l[i].1) c1, .slice B1 (aL l[i].2) e1].length), w.cell? ((ad.add (i*2)).add j) = some [Value.slice A1 (aL l[i].1) c1, .slice B1 (aL l[i].2) e1][j]) /\
      Rep S w (Wa l[i].1) [.slice A1 (aL l[i].1) c1]/\Rep S w (.slice (l[i].2.map Pd)) [.slice B1 (aL l[i].2) e1]:=by
  obtain⟨ad,cs,hA,hl,hc,hr⟩:=Rep.elem (sz:=2) h (λd hd=>by obtain⟨k,_,rfl⟩:=nQ.1 hd;rfl) (i:=i) (aS hi);grind [WZ]
end
section
variable {H:Type}{enc:TypeId × Value->H}{W:World}{base:Nat}{sp:Nat->Bool}{held:Bool}
open Go.ChangeShapes Go.WideShapes Go.ChangeAt Go.Lib Go.Shelf
theorem HQ{α:Type}[Inhabited α]{g:α->D}{d:DataW H}(ht:prog.underlying t=some (.slice e))(hC:prog.cellsOf e=m)
    (hel:∀n cs x,DataW.trod enc prog W base sp held n e cs=some x->∃a:α,Rep (λ_=>True) W (g a) cs) (hv:Value.okWide prog W r b0 t v) (h:DataW.Trod enc prog W base sp held t v d q) :
    ∃(l:List α)(A:Option Addr)(c:Nat),v=.slice A (aL l) c/\Rep (λ_=>True) W (.slice (l.map g)) [.slice A (aL l) c]:=by
  obtain⟨A,n,c,rfl⟩:=okWide_slice ht hv;obtain⟨fuel,hf⟩:=h;obtain⟨l,hl⟩:=Fy ht hC (λn _ cs x h=>hel n cs x h) hf;have hl2:Rep (λ_=>True) W (.slice<|l.map g) [.slice A n c]:=hl;grind [Rep.slice_is]
theorem ED{w:World}{args:Array Value}{ds:List (DataW H)}(h:DataW.TrodAll enc P w base spare held [t,t1,t2,t3,t4] args.toList ds ps) :
    ∃v v1 v2 v3 v4 d d1 d2 d3 d4 p p1 p2 p3 p4,args=#[v,v1,v2,v3,v4]/\ds=[d,d1,d2,d3,d4]/\ps=p++(p1++(p2++(p3++p4)))/\DataW.Trod enc P w base spare held t v d p/\DataW.Trod enc P w base spare held t1 v1 d1 p1/\DataW.Trod enc P w base spare held t2 v2 d2 p2/\DataW.Trod enc P w base spare held t3 v3 d3 p3/\DataW.Trod enc P w base spare held t4 v4 d4 p4:=by
  obtain⟨v,vs,d,ds',p,q,hargs,rfl,rfl,hd,hrest⟩:=trodAll_cons h;obtain⟨v1,vs1,d1,ds1,p1,q1,rfl,rfl,rfl,hd1,hrest1⟩:=trodAll_cons hrest;obtain⟨v2,vs2,d2,ds2,p2,q2,rfl,rfl,rfl,hd2,hrest2⟩:=trodAll_cons hrest1;obtain⟨v3,vs3,d3,ds3,p3,q3,rfl,rfl,rfl,hd3,hrest3⟩:=trodAll_cons hrest2;obtain⟨v4,vs4,d4,ds4,p4,q4,rfl,rfl,rfl,hd4,hrest4⟩:=trodAll_cons hrest3;obtain⟨rfl,rfl,rfl⟩:=trodAll_nil hrest4;exact⟨v,v1,v2,v3,v4,d,d1,d2,d3,d4,p,p1,p2,p3,p4,by cases args;simp_all,O,Ca,hd,hd1,hd2,hd3,hd4⟩
def QG{w:World}{v1 v2 v3 v4:Value}{d d1 d2 d3 d4:DataW H}{p p1 p2 p3 p4:List MemPlace}(h:DataW.Trod enc P w base spare held t v d p)(h1:DataW.Trod enc P w base spare held t1 v1 d1 p1)(h2:DataW.Trod enc P w base spare held t2 v2 d2 p2)(h3:DataW.Trod enc P w base spare held t3 v3 d3 p3)(h4:DataW.Trod enc P w base spare held t4 v4 d4 p4) :
    DataW.TrodAll enc P w base spare held [t,t1,t2,t3,t4] [v,v1,v2,v3,v4] [d,d1,d2,d3,d4] (p++(p1++(p2++(p3++p4)))):=by exact⟨p,p1++(p2++(p3++p4)),h,trodAll_mk4 h1 h2 h3 h4,rfl⟩
end
section
variable {H:Type}{enc:TypeId × Value->H}{W:World}{base:Nat}{sp:Nat->Bool}{held:Bool}
end
section
variable {H:Type}{enc:TypeId × Value->H}{W:World}{base:Nat}{sp:Nat->Bool}{held:Bool}
end
theorem IN(s:Str):aL (Fb s).1.whole<=aL s/\aL (Fb s).1.rest<=aL s/\aL (Fb s).1.exp<=aL s:=by grind [Kk,Ro,Jb,Fb,Rp]
def G0(s:Str):Int:=if (Fb s).1.low then-Kg (Lib.trimLeftB (Fb s).1.exp 48) else Kg (Lib.trimLeftB (Fb s).1.exp 48)
def Ol(s:Str):De s=if (Fb s).2=false then (Num.zero,2) else
  if 1000<aL (Fb s).1.whole+aL (Fb s).1.rest then (Num.zero,3) else
  if 9<aL (Lib.trimLeftB (Fb s).1.exp 48) then (Num.zero,4) else
  if Lib.trimLeftB ((Fb s).1.whole++(Fb s).1.rest) 48=[] then (Num.zero,0) else
  if Je (⟨(Fb s).1.neg,Lib.trimRightB (Lib.trimLeftB ((Fb s).1.whole++(Fb s).1.rest) 48) 48,G0 s-aL (Fb s).1.rest+aL (Lib.trimLeftB ((Fb s).1.whole++(Fb s).1.rest) 48)-aL (Lib.trimRightB (Lib.trimLeftB ((Fb s).1.whole++(Fb s).1.rest) 48) 48)⟩)=false then (Num.zero,4) else
  (⟨(Fb s).1.neg,Lib.trimRightB (Lib.trimLeftB ((Fb s).1.whole++(Fb s).1.rest) 48) 48,G0 s-aL (Fb s).1.rest+aL (Lib.trimLeftB ((Fb s).1.whole++(Fb s).1.rest) 48)-aL (Lib.trimRightB (Lib.trimLeftB ((Fb s).1.whole++(Fb s).1.rest) 48) 48)⟩,0):=rfl
theorem GT{q:Nat}(h:q<aL s)(ha:s.all Qk=true):(Utf8.decode (bs s) q).1=s[q].toNat/\(Utf8.decode (bs s) q).2=1/\48<=s[q].toNat/\s[q].toNat<=57:=by grind [ND,Qk]
theorem VY(q:Nat)(h:s.all f=true):(s.take q).all f=true:=qJ
theorem QF(s:Str)(hl:aL s<=140737488355328)(w0:World):Calls prog 67 #[I s] w0 (Qb λv w'=>v=.tuple #[Pr (De s).1,J (De s).2]/\Same [] w0 w'):=by
 have hls:=IN s;have ht0:=Ev (Fb s).1.exp 48;have ht1:=Ev ((Fb s).1.whole++(Fb s).1.rest) 48;rw[dQ]at ht1;have ht2:=Z6 (Lib.trimLeftB ((Fb s).1.whole++(Fb s).1.rest) 48) 48;refine Ha func67 ntmps67 ?_;intro hF;refine rn 3 ?_;rintro b1 w hb1 hF -;refine rn 6<|Ta (read_c s hl _) ?_;rintro w hF -;refine rn 4 ?_;rintro b2 w hb2 hF -;refine rn 7<|Ta (R3 (Fb s).1.exp _) ?_;rintro w hF -;refine rn 13 ⟨λhc0=>?_,λhc0=>?_⟩;refine rn 2<|Da (w':=w) (v:=.agg #[.bool false,I [],J 0]) Ib ?_;refine rn 1 ?_;rintro w hF -;refine rn 4 ?_;exact⟨by rw[Ol,uQ (aS hc0)] <;> rfl,hF.same⟩;refine rn 8<|Tc Fj ?_;refine rn 5 ⟨λhc1=>?_,λhc1=>?_⟩;refine rn 2<|Da (w':=w) (v:=.agg #[.bool false,I [],J 0]) Ib ?_;refine rn 1 ?_;rintro w hF -;refine rn 4 ?_;exact⟨by rw[Ol,tQ (aS hc0),uQ fX] <;> rfl,hF.same⟩;refine rn 9 ⟨λhc2=>?_,λhc2=>?_⟩;refine rn 2<|Da (w':=w) (v:=.agg #[.bool false,I [],J 0]) Ib ?_;refine rn 1 ?_;rintro w hF -;refine rn 4 ?_;exact⟨by rw[Ol,tQ (aS hc0),tQ fX,uQ fX] <;> rfl,hF.same⟩;refine rn 12<|Dy (str:=(Lib.trimLeftB (Fb s).1.exp 48)) hF bX O ?_;rintro b3 w hb3 hF -;refine rn 3 ?_;have hall:(Lib.trimLeftB (Fb s).1.exp 48).all Qk=true:=Jv<|EU qX;refine Za (λμ σ w=>∃(q:Nat),μ=aL (Lib.trimLeftB (Fb s).1.exp 48)-q/\(q<=aL (Lib.trimLeftB (Fb s).1.exp 48))/\AllEq σ [(2,V b1),(4,V b2),(7,J<|Kg<|(Lib.trimLeftB (Fb s).1.exp 48).take q),(41,V b3)]/\FR w0 [] [(b3,.stringIter (bs<|(Lib.trimLeftB (Fb s).1.exp 48)) q),(b2,.cells #[.bool<|(Fb s).1.neg,.bool<|(Fb s).1.low,I<|(Fb s).1.whole,I<|(Fb s).1.rest,I<|(Fb s).1.exp] 122),(b1,.cells #[.bool false,I [],J 0] 68)] w) _ ⟨0,O,bZ _,ae4,hF⟩ ?_;rintro μ σ w ⟨q,rfl,hq,hzz,hF⟩;refine Gh hzz 2 ?_;by_cases hn0:(q)<aL ((Lib.trimLeftB (Fb s).1.exp 48):Str)
 refine K4 0 (p:=q) (str:=(Lib.trimLeftB (Fb s).1.exp 48)) hF O O hn0 ?_;rintro w hF -;refine rn 16 ?_;have hv:=GT (s:=(Lib.trimLeftB (Fb s).1.exp 48)) (q:=q) fX hall;have hb:=QA ((Lib.trimLeftB (Fb s).1.exp 48).take q) (VY q hall) (by rw[gZ];omega);refine Da (v:=J<|10*Kg ((Lib.trimLeftB (Fb s).1.exp 48).take q)) (F8 O O<|Yf fX fX fX)<|rn 1 ?_;refine Da (v:=.int .i32<|((Utf8.decode (bs<|Lib.trimLeftB (Fb s).1.exp 48) q).1:Int)-48) (N3 O O (by rw[IntKind.wrap_i32];omega)) ?_;refine Da (v:=J<|((Utf8.decode (bs<|Lib.trimLeftB (Fb s).1.exp 48) q).1:Int)-48) (Ng underlying21 yZ O<|Lk fX fX) ?_;refine Da (v:=J<|Kg<|(Lib.trimLeftB (Fb s).1.exp 48).take (q+1)) (L2 O O (by rw[I3 _ q fX,hv.1];exact Lk fX fX)) ?_;refine rn 3 ?_;rw[hv.2.1]at hF;refine Va ⟨_,?_,q+1,O,fX,Gc,hF⟩;omega;refine Cs 0 (p:=q) (str:=(Lib.trimLeftB (Fb s).1.exp 48)) hF O O hn0<|rn 7 ?_;have eT:(Lib.trimLeftB (Fb s).1.exp 48).take q=(Lib.trimLeftB (Fb s).1.exp 48):=cZ fX;have hb:=QA (Lib.trimLeftB (Fb s).1.exp 48) hall fX;have hE:-1000000000<G0 s/\G0 s<1000000000:=by unfold G0;split <;> omega
 refine rn 1<|Of (λσ w=>AllEq σ [(2,V b1),(4,V b2),(7,J<|G0 s)]/\FR w0 [] [(b3,.stringIter (bs<|(Lib.trimLeftB (Fb s).1.exp 48)) q),(b2,.cells #[.bool<|(Fb s).1.neg,.bool<|(Fb s).1.low,I<|(Fb s).1.whole,I<|(Fb s).1.rest,I<|(Fb s).1.exp] 122),(b1,.cells #[.bool false,I [],J 0] 68)] w) ?_ ?_;refine rn 7 ⟨λhc4=>?_,λhc4=>?_⟩;have eE:G0 s = - Kg (Lib.trimLeftB (Fb s).1.exp 48):=by unfold G0;rw[uQ qK]
 refine rn 2 ?_;refine Da (v:=J<|G0 s) (U_ O (by rw[eT,eE];exact Yf fX fX fX)) ?_;refine rn 2 ?_;exact Va ⟨Gc,hF⟩;have eE:G0 s=Kg (Lib.trimLeftB (Fb s).1.exp 48):=by unfold G0;rw[tQ qX]
 rw[eT,<-eE];refine rn 1 ?_;exact Va ⟨Gc,hF⟩;rintro σ w ⟨hzz,hF⟩;refine J9 hzz 7<|Da (v:=I<|((Fb s).1.whole)++((Fb s).1.rest)) (Xq O O fX) ?_;refine Ta (R3 ((Fb s).1.whole++(Fb s).1.rest) _) ?_;rintro w hF -;refine rn 11 ⟨λhc5=>?_,λhc5=>?_⟩;refine rn 2<|Da (w':=w) (v:=.agg #[.bool false,I [],J 0]) Ib ?_;refine rn 1 ?_;rintro w hF -;refine rn 4 ?_;exact⟨by rw[Ol,tQ (aS hc0),tQ fX,tQ fX,uQ hc5] <;> rfl,hF.same⟩;refine rn 5<|Ta (MD (Lib.trimLeftB ((Fb s).1.whole++(Fb s).1.rest) 48) _ fX) ?_;rintro w hF -;refine rn 12<|Tc Yu ?_;refine rn 2<|Tc Fj ?_;refine rn 2<|Tc Yu ?_;refine Da (w':=w) (v:=.agg #[.bool<|(Fb s).1.neg,I<|(Lib.trimRightB (Lib.trimLeftB ((Fb s).1.whole++(Fb s).1.rest) 48) 48),J<|(((G0 s:Int)-(aL (((Fb s).1.rest):Str):Int):Int)+(aL (((Lib.trimLeftB ((Fb s).1.whole++(Fb s).1.rest) 48)):Str):Int):Int)-(aL (((Lib.trimRightB (Lib.trimLeftB ((Fb s).1.whole++(Fb s).1.rest) 48) 48)):Str):Int)]) Ib<|rn 1 ?_;rintro b4 w hb4 hF -;refine rn 6 ?_;refine Ta (VF (⟨(Fb s).1.neg,Lib.trimRightB (Lib.trimLeftB ((Fb s).1.whole++(Fb s).1.rest) 48) 48,G0 s-aL (Fb s).1.rest+aL (Lib.trimLeftB ((Fb s).1.whole++(Fb s).1.rest) 48)-aL (Lib.trimRightB (Lib.trimLeftB ((Fb s).1.whole++(Fb s).1.rest) 48) 48)⟩) (by show aL (Lib.trimRightB (Lib.trimLeftB ((Fb s).1.whole++(Fb s).1.rest) 48) 48)<=_;omega) _) ?_;rintro w hF -;refine rn 4 ⟨λhc6=>?_,λhc6=>?_⟩;refine rn 2<|Da (w':=w) (v:=.agg #[.bool false,I [],J 0]) Ib ?_;refine rn 1 ?_;rintro w hF -;refine rn 4 ?_;exact⟨by rw[Ol,tQ (aS hc0),tQ fX,tQ fX,tQ hc5,uQ (aS hc6)] <;> rfl,hF.same⟩;refine rn 6 ?_;rintro w hF -;refine rn 4 ?_;exact⟨by rw[Ol,tQ (aS hc0),tQ fX,tQ fX,tQ hc5,tQ (aS hc6)] <;> rfl,hF.same⟩
def NG(n:Int):Num:=(De (Lib.itoa n)).1
def pI(s:Str):Int × Bool:=match Lib.parseIntB 64 s with|.ok v=>(v,true)|.range=>(Lib.intSat 64 s,false)|_=>(0,false)
def R9(x:Num):Int × Bool :=
  if Je x=false\/x.exp<0\/19<(aL x.digits:Int)+x.exp then (0,false) else
  let t:=x.digits++Lib.repeatL [48] x.exp.toNat
  let u:=if x.neg then 45::t else t
  if u=[] then (0,true) else if (pI u).2=false then (0,false) else ((pI u).1,true)
def T_(e:Value)(b:Bool):Prop:=if b then ∃tp q,e=.iface tp q else e=.nilIface
theorem NW{w:World}{t':TypeId}{x:Operand}{e:Value}{b:Bool}(ht:P.underlying t=some (.interface (P.methodsAt t)))(he:T_ e b)(hx:ρ x=e)(hy:ρ (.const .nilIface)=.nilIface) :
    (execOp ρ ⟨dst,.binOp .neq t x (.const .nilIface) t',ty,pos,aft,g⟩).run P w=.ok (.value (.bool b)) w:=by grind [T_,PW,TK]
theorem F4(w:World)(e:TypeId)(s:ByteArray):Same [] w (Lib.bytesWorld w e s) :=
  .of_below (Joins.below_bytesWorld _ w e s<|gQ _)
theorem QO(s:Str)(hl:aL s<=140737488355328){w:World}(hG:Gl w):Calls prog 116 #[I s,J 10,J 64] w (Qb λv w'=>∃e,v=.tuple #[J (pI s).1,e]/\T_ e (!(pI s).2)/\Same [] w w'):=by
  cases h:Lib.parseIntB 64 s with
  | ok n =>
    refine (strconv_ParseInt_10_at64_ok (bs s) (by rw[Ep];omega) n h w).mono ?_;rintro e w' ⟨rfl,hw⟩;refine⟨_,O,.nilIface,by simp[pI,h],by simp[pI,h,T_],?_⟩;grind [Same.refl,F4]
  | range =>
    obtain⟨tp,q,hv⟩:=hG.err;refine (strconv_ParseInt_10_at64_range_var (bs s) (by rw[Ep];omega) h tp q w hv).mono ?_;rintro e w' ⟨N,rfl,-,-,hb⟩;exact⟨_,O,.iface 235<|V N,by simp only[pI,h],by simp[pI,h,T_],.of_below hb⟩
  | _ =>
    obtain⟨tp,q,hv⟩:=hG.serr;refine (Any.strconv_ParseInt_10_at64_syntax_var laysC174 (bs s) (by rw[Ep];omega) h tp q w hv).mono ?_;rintro e w' ⟨N,rfl,-,-,hb⟩;exact⟨_,O,.iface 235<|V N,by simp[pI,h];rfl,by simp[pI,h,T_],.of_below hb⟩
def J_(c:Int)(h0:0<=c)(h1:c<=19)(w:World):Calls prog 115 #[I [48],J c] w (Qb λv w'=>v=I (Lib.repeatL [48] c.toNat)/\Same [] w w'):=by
  have h:=strings_Repeat (bs [48]) c.toNat w fX (by rw[Ep];simp;omega);rw[Int.toNat_of_nonneg h0]at h;exact Iu h
theorem take_zero{l:List Int}{j:Nat}(h:j<aL l)(hz:∀x∈l.take j,x=0)(hn:l[j]=0):∀x∈l.take (j+1),x=0:=by
  rw[iQ h];grind
def EQ(n:Int)(h1:-9223372036854775808<=n)(h2:n<=9223372036854775807)(w0:World)(hG:Gl w0):Calls prog 36 #[J n] w0 (Qb λv w'=>v=Pr (NG n)/\Same [] w0 w'):=by
 refine Ha func36 ntmps36 ?_;intro hF;refine rn 3 ?_;rintro b1 w hb1 hF -;refine rn 5<|Ta (G7 n h1 h2<|hG.ext hF.same) ?_;rintro w hF -;refine Ta (QF (Lib.itoa n) (by have:=Lib.itoa_length_le n h1 h2;omega) _) ?_;rintro w hF -;refine rn 4 ?_;rintro b2 w hb2 hF -;refine rn 7 ?_;rintro w hF -;refine rn 3 ?_;exact⟨O,hF.same⟩
def F0(x:Num):Str:=if x.neg then 45::(x.digits++Lib.repeatL [48] x.exp.toNat) else x.digits++Lib.repeatL [48] x.exp.toNat
def Kj(x:Num):R9 x=if Je x=false\/x.exp<0\/19<(aL x.digits:Int)+x.exp then (0,false) else if F0 x=[] then (0,true) else if (pI (F0 x)).2=false then (0,false) else ((pI (F0 x)).1,true):=rfl
theorem Ps(c:UInt8)(n:Nat):aL (Lib.repeatL [c] n)=n:=by
  induction n with
  | zero=>rfl
  | succ n ih =>
    unfold Lib.repeatL;grind
theorem AJ(x:Num)(hl:aL x.digits<=140737488355328)(w0:World)(hG:Gl w0):Calls prog 88 #[Pr x] w0 (Qb λv w'=>v=.tuple #[J (R9 x).1,.bool (R9 x).2]/\Same [] w0 w'):=by
 refine Ha func88 ntmps88 ?_;intro hF;refine rn 3 ?_;rintro b1 w hb1 hF -;refine rn 8<|Ta (VF x hl _) ?_;rintro w hF -;refine rn 3 ⟨λhg0=>?_,λhg0=>?_⟩
 ·
  refine rn 23 ⟨?_,hF.same⟩
  first
  | (have hn:¬(Je x=false\/x.exp<0\/19<(aL x.digits:Int)+x.exp):=by (refine not_or.2 ⟨qX,not_or.2 ⟨by_Om,by_Om⟩⟩)
     rw[Kj,tQ hn];simp_all;done)
  | (rw[Kj];simp_all;done)
 refine rn 6 ⟨λhg1=>?_,λhg1=>?_⟩
 ·
  refine rn 18 ⟨?_,hF.same⟩
  first
  | (have hn:¬(Je x=false\/x.exp<0\/19<(aL x.digits:Int)+x.exp):=by (refine not_or.2 ⟨qX,not_or.2 ⟨by_Om,by_Om⟩⟩)
     rw[Kj,tQ hn];simp_all;done)
  | (rw[Kj];simp_all;done)
 refine rn 5 ?_;refine Da (v:=J<|(aL x.digits:Int)+x.exp) (L2 O O<|Lk (by have:=Zc (x:=x) qX;omega) (by have:=Zc (x:=x) qX;omega)) ?_;refine rn 5 ⟨λhc0=>?_,λhc0=>?_⟩
 ·
  refine rn 7 ⟨?_,hF.same⟩
  first
  | (have hn:¬(Je x=false\/x.exp<0\/19<(aL x.digits:Int)+x.exp):=by (refine not_or.2 ⟨qX,not_or.2 ⟨by_Om,by_Om⟩⟩)
     rw[Kj,tQ hn];simp_all;done)
  | (rw[Kj];simp_all;done)
 refine rn 3<|Fe (zs:=.of []) (bQ [0,1,2,3]<|.act 4<|.free 5<|.free 6 .nil) hF ?_;intro w hF;refine rn 4<|Mf (J_ x.exp fX fX _) ?_;rintro w hF -;refine Fa rfl (v:=I<|(x.digits)++(Lib.repeatL [48] x.exp.toNat)) (λw hC=>Xq rfl rfl bM) ?_;refine rn 4<|Of (λσ w=>AllEq σ [(4,I<|F0 x)]/\FR w0 [] [(b1,.cells #[.bool x.neg,I x.digits,J x.exp] 68)] w) ?_ ?_
 ·
  refine rn 7 ⟨λhc1=>?_,λhc1=>?_⟩
  ·
   have eT:[45]++(x.digits++Lib.repeatL [48] x.exp.toNat)=F0 x:=by unfold F0;rw[uQ qK];rfl
   refine rn 2 ?_;refine Da (v:=I<|F0 x) (by rw[<-eT];exact Xq rfl rfl bM) ?_;refine rn 2 ?_;exact Va ⟨Gc,hF⟩
  have eT:x.digits++Lib.repeatL [48] x.exp.toNat=F0 x:=by unfold F0;rw[tQ qX]
  rw[eT];refine rn 1 ?_;exact Va ⟨Gc,hF⟩
 rintro σ w ⟨hzz,hF⟩;have hT:aL (F0 x)<=1020:=by have:=Ps 48 x.exp.toNat;have:=Zc (x:=x) qX;unfold F0;split <;> simp only[dQ,kQ] <;> omega
 refine J9 hzz 9 ⟨λhc2=>?_,λhc2=>?_⟩
 ·
  refine rn 7 ⟨?_,hF.same⟩
  first
  | (have hn:¬(Je x=false\/x.exp<0\/19<(aL x.digits:Int)+x.exp):=by (refine not_or.2 ⟨qX,not_or.2 ⟨by_Om,by_Om⟩⟩)
     rw[Kj,tQ hn];simp_all;done)
  | (rw[Kj];simp_all;done)
 refine rn 5<|Yb (QO (F0 x) fX<|hG.ext hF.same) ?_;rintro _ w ⟨e,rfl,he,hE⟩;have hF:=hF.ext hE;refine rn 11<|Da (v:=.bool<|!(pI<|F0 x).2) (NW (underlying145) he O O) ?_;refine rn 3 ⟨λhc3=>?_,λhc3=>?_⟩
 ·
  refine rn 7 ⟨?_,hF.same⟩
  first
  | (have hn:¬(Je x=false\/x.exp<0\/19<(aL x.digits:Int)+x.exp):=by (refine not_or.2 ⟨qX,not_or.2 ⟨by_Om,by_Om⟩⟩)
     rw[Kj,tQ hn];simp_all;done)
  | (rw[Kj];simp_all;done)
 refine rn 10 ⟨?_,hF.same⟩
 first
 | (have hn:¬(Je x=false\/x.exp<0\/19<(aL x.digits:Int)+x.exp):=by (refine not_or.2 ⟨qX,not_or.2 ⟨by_Om,by_Om⟩⟩)
    rw[Kj,tQ hn];simp_all;done)
 | (rw[Kj];simp_all;done)
section
variable {α:Type}(sz:α->Nat)(p:α->α->Nat)
def alRow(x:α)(rec:List α->Nat):List α->Nat
  | []=>sz x+rec []
  | y::ys=>min (p x y+rec ys) (min (sz x+rec (y::ys)) (sz y+alRow x rec ys))
def alNil:List α->Nat
  | []=>0
  | y::ys=>sz y+alNil ys
def al:List α->List α->Nat
  | []=>alNil sz
  | x::xs=>alRow sz p x (al xs)
inductive Ali:List α->List α->Nat->Prop
  | nil:Ali [] [] 0
  | pair {x y:α} {xs ys:List α} {c:Nat}:Ali xs ys c->Ali (x::xs) (y::ys) (p x y+c)
  | drop {x:α} {xs ys:List α} {c:Nat}:Ali xs ys c->Ali (x::xs) ys (sz x+c)
  | add {y:α} {xs ys:List α} {c:Nat}:Ali xs ys c->Ali xs (y::ys) (sz y+c)
end
section
variable {α:Type}{sz:α->Nat}{p:α->α->Nat}
theorem OR(y:α)(ys:List α):al sz p [] (y::ys)=sz y+al sz p [] ys:=rfl
def FY(x:α)(xs:List α):al sz p (x::xs) []=sz x+al sz p xs []:=rfl
def LQ(x y:α)(xs ys:List α):al sz p (x::xs) (y::ys)=min (p x y+al sz p xs ys) (min (sz x+al sz p xs (y::ys)) (sz y+al sz p (x::xs) ys)):=rfl
def BP(x:α)(xs ys:List α):al sz p (x::xs) ys<=sz x+al sz p xs ys:=by
  cases ys with
  | nil=>exact gQ _
  | cons y ys =>
    rw[LQ];omega
theorem Ali.append{xs ys xs' ys':List α}{c c':Nat}(h:Ali sz p xs ys c)(h':Ali sz p xs' ys' c'):Ali sz p (xs++xs') (ys++ys') (c+c'):=by
  induction h with
  | nil=>grind
  | pair _ ih =>
    rw[Nat.add_assoc];exact .pair ih
  | drop _ ih =>
    rw[Nat.add_assoc];exact .drop ih
  | add _ ih =>
    rw[Nat.add_assoc];exact .add ih
theorem Ali.zero(hz:∀x,1<=sz x){xs ys:List α}{c:Nat}(h:Ali sz p xs ys c)(hc:c=0):aL xs=aL ys/\∀i (h1:i<aL xs) (h2:i<aL ys),p xs[i] ys[i]=0:=by
  induction h with
  | nil=>grind
  | @pair x y xs ys c _ ih=>grind
  | @drop x _ _ _ _ _=>grind
  | @add y _ _ _ _ _=>grind
theorem Ali.pop(ht:∀x y,sz x<=p x y+sz y){xs zs:List α}{c:Nat}(h:Ali sz p xs zs c):∀{ys:List α}{v:α},zs=ys++[v]->∃c',Ali sz p xs ys c'/\c'<=c+sz v:=by
  induction h with
  | nil =>
    intro ys v e;simp at e
  | @pair x y xs zs c h ih =>
    intro ys v e;cases ys with
    | nil =>
      simp only[kZ,List.cons.injEq]at e;obtain⟨rfl,rfl⟩:=e;exact⟨_,.drop h,by have:=ht x y;omega⟩
    | cons y' ys =>
      simp only[List.cons_append,List.cons.injEq]at e;obtain⟨rfl,e⟩:=e;obtain⟨c',h1,h2⟩:=ih e;exact⟨_,.pair h1,by_Om⟩
  | @drop x xs zs c h ih =>
    intro ys v e;obtain⟨c',h1,h2⟩:=ih e;exact⟨_,.drop h1,by_Om⟩
  | @add y xs zs c h ih =>
    intro ys v e;cases ys with
    | nil=>grind
    | cons y' ys =>
      simp only[List.cons_append,List.cons.injEq]at e;obtain⟨rfl,e⟩:=e;obtain⟨c',h1,h2⟩:=ih e;exact⟨_,.add h1,by_Om⟩
end
end Go.Scarf
