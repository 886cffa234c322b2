/- A part of the proof. -/
import Derived.Lib.ItoaNum
import Derived.Lib.Small
import Derived.Lib.ItoaLen
import Derived.Lib.Bytealg
import Derived.Lib.TrimByte
import Derived.Lib.Strings
import Derived.Test.YtidlkjpohhbbcaaGreatDoorFacts
import Derived.Test.YtidlkjpohhbbcaaGreatDoorShelf
set_option linter.all false
set_option maxHeartbeats 8000000
set_option maxRecDepth 10000
namespace Go.Scarf
structure Num where
  neg:Bool
  digits:Str
  exp:Int
deriving DecidableEq
def Num.zero:Num:=⟨false,[],0⟩
def Kk(x:Num):Value:=.agg #[.bool x.neg,I x.digits,J x.exp]
def Pe(c:UInt8):Bool:=48<=c.toNat&&c.toNat<=57
def Gh(s:Str):Bool:=s.all Pe&&decide (s≠[])
theorem Uy(s:Str)(p:Nat)(h:p<s.length) :
    (¬((Utf8.decode (bs s) p).1:Int)<48/\¬(57:Int)<(Utf8.decode (bs s) p).1->Pe s[p]=true/\(Utf8.decode (bs s) p).2=1) /\
    (((Utf8.decode (bs s) p).1:Int)<48\/(57:Int)<(Utf8.decode (bs s) p).1->Pe s[p]=false):=by
  have hs:p<(bs s).size:=h;by_cases ha:(s[p]).toNat<128
  ·have hd := decode_ascii (bs s) p hs ha
   have e:((bs s)[p]' hs)=s[p]:=rfl;rw[e]at hd;rw[hd];unfold Pe;constructor
   ·rintro⟨h1, h2⟩
    simp only[Bool.and_eq_true,decide_eq_true_eq];exact⟨⟨by omega,by omega⟩,trivial⟩
   intro h1;simp only[Bool.and_eq_false_iff,decide_eq_false_iff_not];simp only at h1;omega
  have hd := decode_high (bs s) p hs (by show 128 <= (s[p]).toNat;omega);constructor
  ·rintro⟨h1, h2⟩
   omega
  intro _;unfold Pe;simp only[Bool.and_eq_false_iff,decide_eq_false_iff_not];omega
theorem Sx{f:UInt8->Bool}{s:Str}{p:Nat}(h:p<s.length)(ha:(s.take p).all f=true)(hp:f s[p]=true):(s.take (p+1)).all f=true:=by
  rw[iQ h,List.all_append,ha];simp[hp]
theorem Xy{f:UInt8->Bool}{s:Str}{p:Nat}(h:p<s.length)(hp:f s[p]=false):s.all f=false:=by
  rw[Bool.eq_false_iff];intro ha;have:=List.all_eq_true.1 ha s[p] (eQ h);rw[hp]at this;cases this
def Lc(x:Num):Bool :=
  decide (x=Num.zero) || (Gh x.digits&&decide (x.digits.length<=1000)&&decide (x.digits.head?≠some 48)&&decide (x.digits.getLast?≠some 48)&&decide (-1000000<=x.exp)&&decide (x.exp<=1000000))
def Rg(x:Num):Str :=
  if Lc x=false then [] else if x.digits=[] then [48] else
  (if x.neg then 45::x.digits else x.digits)++(if x.exp≠0 then 101::Lib.itoa x.exp else [])
def Vb(at_:Str):Str->Str × Str × Bool
  | []=>([],[],false)
  | c::r=>if at_.contains c then ([],r,true) else let x:=Vb at_ r;(c::x.1,x.2.1,x.2.2)
structure Lit where
  neg:Bool
  low:Bool
  whole:Str
  rest:Str
  exp:Str
deriving DecidableEq
def QY(x:Lit):Value:=.agg #[.bool x.neg,.bool x.low,I x.whole,I x.rest,I x.exp]
def Qk(neg low:Bool)(f e:Str):Lit × Bool :=
  let d:=Vb [46] f
  (⟨neg,low,d.1,d.2.1,e⟩,Gh d.1&&(!d.2.2 || Gh d.2.1)&&(decide (d.1=[48]) || decide (d.1.head?≠some 48)))
def Cc(s:Str):Lit × Bool :=
  let neg:=Lib.hasPrefix s [45]
  let c:=Vb [101,69] (Lib.trimPrefix s [45])
  if c.2.2 then
    let low:=Lib.hasPrefix c.2.1 [45]
    let e:=if low then Lib.trimPrefix c.2.1 [45] else Lib.trimPrefix (Lib.trimPrefix c.2.1 [45]) [43]
    if Gh e then Qk neg low c.1 e else (⟨neg,low,[],[],[]⟩,false)
  else Qk neg false c.1 c.2.1
def Qd(s:Str):Int:=s.foldl (λa c=>10*a+((c.toNat:Int)-48)) 0
def Kc(s:Str):Num × Int :=
  let r:=Cc s
  let x:=r.1
  let exp:=Lib.trimLeftB x.exp 48
  if r.2=false then (Num.zero,2) else
  if 1000<x.whole.length+x.rest.length then (Num.zero,3) else
  if 9<exp.length then (Num.zero,4) else
  let e:=if x.low then-Qd exp else Qd exp
  let d:=Lib.trimLeftB (x.whole++x.rest) 48
  if d=[] then (Num.zero,0) else
  let short:=Lib.trimRightB d 48
  let n:Num:=⟨x.neg,short,e-x.rest.length+d.length-short.length⟩
  if Lc n=false then (Num.zero,4) else (n,0)
theorem UG(s:Str)(c:UInt8):Qd (s++[c])=10*Qd s+((c.toNat:Int)-48):=by simp[Qd]
theorem Io(s:Str)(q:Nat)(h:q<s.length):Qd (s.take (q+1))=10*Qd (s.take q)+((s[q].toNat:Int)-48):=by
  rw[iQ h,UG]
theorem F1(s:Str)(ha:s.all Pe=true):0<=Qd s/\Qd s<10 ^ s.length:=by
  have key:∀q,q<=s.length->0<=Qd (s.take q)/\Qd (s.take q)<10 ^ q:=by
    intro q
    induction q with
    | zero=>intro _;simp[Qd]
    | succ q ih =>
      intro hq;obtain⟨h1,h2⟩:=ih Aa;have hc:=List.all_eq_true.1 ha s[q] (eQ Aa);unfold Pe at hc;simp only[Bool.and_eq_true,decide_eq_true_eq]at hc;rw[Io s q Aa,Int.pow_succ];omega
  have:=key s.length (gQ _)
  rwa [List.take_length]at this
theorem Mw(s:Str)(ha:s.all Pe=true)(hl:s.length<=9):0<=Qd s/\Qd s<1000000000:=by
  obtain⟨h1,h2⟩:=F1 s ha;refine⟨h1,?_⟩;have h3:(10:Int) ^ s.length<=10 ^ 9:=by
    have:=Nat.pow_le_pow_right (n:=10) Aa hl;have h4:((10 ^ s.length:Nat):Int)<=((10 ^ 9:Nat):Int):=by omega
    simpa using h4
  have:(10:Int) ^ 9=1000000000:=by decide
  omega
theorem JE(s:Str)(p:Nat)(h:p<s.length)(hd:Pe s[p]=true):Utf8.decode (bs s) p=(s[p].toNat,1):=by
  have hs:p<(bs s).size:=h;have:=decode_ascii (bs s) p hs (by
    show (s[p]).toNat<128;unfold Pe at hd;simp only[Bool.and_eq_true,decide_eq_true_eq]at hd;omega)
  exact this
theorem Cw{s:Str}(h:Gh s=true):s.all Pe=true:=by unfold Gh at h;simp only[Bool.and_eq_true]at h;exact h.1
theorem Il{s:Str}(h:Gh s=true):s≠[]:=by unfold Gh at h;simp only[Bool.and_eq_true,decide_eq_true_eq]at h;exact h.2
theorem Xq(at_:Str):∀s:Str,(Vb at_ s).2.2=false->(Vb at_ s).2.1=[]
  | [],_=>rfl
  | c :: r, h => by
    unfold Vb at h ⊢;split at h
    ·cases h
    rename_i hc
    rw[if_neg hc];exact Xq at_ r h
theorem BX{s:Str}(h:(Cc s).2=true):(Cc s).1.exp.all Pe=true:=by
  by_cases hc:(Vb [101,69] (Lib.trimPrefix s [45])).2.2=true
  ·have e1:Cc s=(let c:=Vb [101,69] (Lib.trimPrefix s [45])
       let low:=Lib.hasPrefix c.2.1 [45]
       let e:=if low then Lib.trimPrefix c.2.1 [45] else Lib.trimPrefix (Lib.trimPrefix c.2.1 [45]) [43]
       if Gh e then Qk (Lib.hasPrefix s [45]) low c.1 e else (⟨Lib.hasPrefix s [45],low,[],[],[]⟩,false)):=by
     unfold Cc;simp only;rw[if_pos hc]
   rw[e1]at h ⊢;simp only at h ⊢;generalize (if Lib.hasPrefix (Vb [101,69] (Lib.trimPrefix s [45])).2.1 [45]=true then Lib.trimPrefix (Vb [101,69] (Lib.trimPrefix s [45])).2.1 [45] else Lib.trimPrefix (Lib.trimPrefix (Vb [101,69] (Lib.trimPrefix s [45])).2.1 [45]) [43])=e at h ⊢;by_cases hd:Gh e=true
   ·rw[if_pos hd];exact Cw hd
   rw[if_neg hd]at h;cases h
  have e1:Cc s=Qk (Lib.hasPrefix s [45]) false (Vb [101,69] (Lib.trimPrefix s [45])).1 (Vb [101,69] (Lib.trimPrefix s [45])).2.1:=by
    unfold Cc;simp only;rw[if_neg hc]
  rw[e1];have:=Xq [101,69] (Lib.trimPrefix s [45]) (by simpa using hc);simp[Qk,this]
theorem Kx{f g:UInt8->Bool}:∀{s:Str},s.all f=true->(s.dropWhile g).all f=true
  | [],_=>rfl
  | c :: s, h => by
    rw[List.dropWhile_cons];split
    ·simp only[List.all_cons, Bool.and_eq_true]at h
     exact Kx h.2
    exact h
theorem Ii(at_:Str):∀s:Str,(Vb at_ s).1.length<=s.length/\(Vb at_ s).2.1.length<=s.length
  | []=>by simp[Vb]
  | c :: r => by
    have:=Ii at_ r;unfold Vb;split
    ·simp
    simp;omega
theorem Yk(s p:Str):(Lib.trimPrefix s p).length<=s.length:=by
  unfold Lib.trimPrefix;split <;> simp
theorem Ux(s:Str)(c:UInt8):(Lib.trimLeftB s c).length<=s.length:=by unfold Lib.trimLeftB;exact (List.dropWhile_sublist _).length_le
theorem G8(s:Str)(c:UInt8):(Lib.trimRightB s c).length<=s.length:=by
  unfold Lib.trimRightB;rw[List.length_reverse];have:=(List.dropWhile_sublist (λx=>x==c) (l:=s.reverse)).length_le;simpa using this
theorem head?_get{s:Str}(h:0<s.length):s.head? = some s[0]:=by cases s <;> simp at h ⊢
theorem getLast?_get{s:Str}(h:s.length-1<s.length):s.getLast? = some s[s.length-1]:=by
  rw[List.getLast?_eq_getElem?];simp[h]
theorem CS{a:UInt8}{n:Nat}(hn:n<256):((a.toNat:Int)=(n:Int))↔a=UInt8.ofNat n:=by
  constructor
  ·intro h
   have h':a.toNat=n:=by omega
   rw[<-h'];simp
  intro h;subst h;simp;omega
theorem Gv{a:UInt8}:((a.toNat:Int)=48)↔a=48:=CS (n:=48) Aa
theorem IF{s:Str}(h:0<s.length):(((s[0]' h).toNat:Int)=48)↔s.head? = some 48:=by
  rw[head?_get h,Gv];simp
theorem E4{x:Num}(h:x=Num.zero):Lc x=true:=by subst h;rfl
theorem L4{x:Num}(h0:¬x=Num.zero)(h:(!Gh x.digits)=true):Lc x=false:=by
  simp at h;simp[Lc,h0,h]
theorem S4{x:Num}(h0:¬x=Num.zero)(h:(1000:Int)<x.digits.length):Lc x=false:=by
  have:¬x.digits.length<=1000:=by omega
  simp[Lc,h0,this]
theorem R4{x:Num}(h0:¬x=Num.zero)(hl:0<x.digits.length)(h:((x.digits[0]' hl).toNat:Int)=48):Lc x=false:=by
  have:x.digits.head? = some 48:=by rw[head?_get hl,Gv.1 h]
  simp[Lc,h0,this]
theorem Q4{x:Num}(h0:¬x=Num.zero)(hl:x.digits.length-1<x.digits.length)(h:((x.digits[x.digits.length-1]' hl).toNat:Int)=48):Lc x=false:=by
  have:x.digits.getLast? = some 48:=by rw[getLast?_get hl,Gv.1 h]
  simp[Lc,h0,this]
theorem Oq{x:Num}(h0:¬x=Num.zero)(h:(!Gh x.digits)=false)(h1:¬(1000:Int)<x.digits.length)(hl:0<x.digits.length)(h2:¬((x.digits[0]' hl).toNat:Int)=48)
    (hl':x.digits.length-1<x.digits.length) (h3:¬((x.digits[x.digits.length-1]' hl').toNat:Int)=48):Lc x=(decide (-1000000<=x.exp)&&decide (x.exp<=1000000)):=by
  have a1:x.digits.length<=1000:=by omega
  have a2:¬x.digits.head? = some 48:=by rw[head?_get hl];intro e;exact h2 (Gv.2 (by injection e))
  have a3:¬x.digits.getLast? = some 48:=by rw[getLast?_get hl'];intro e;exact h3 (Gv.2 (by injection e))
  simp at h;simp[Lc,h0,h,a1,a2,a3]
theorem Wc{x:Num}(h:Lc x=true):x.digits.length<=1000/\-1000000<=x.exp/\x.exp<=1000000:=by
  unfold Lc at h;simp only[Bool.or_eq_true,Bool.and_eq_true,decide_eq_true_eq]at h;rcases h with rfl|h
  ·decide
  omega
theorem DG{at_ s:Str}{q:Nat}(h:q<s.length)(hno:∀c∈s.take q,at_.contains c=false)(hq:at_.contains s[q]=false):∀c∈s.take (q+1),at_.contains c=false:=by
  rw[iQ h];intro c hc;rcases mQ.1 hc with hc|hc
  ·exact hno c hc
  simp only[pQ]at hc;rw[hc];exact hq
theorem Tx(s:Str)(c:UInt8):(0<=Lib.indexByte s c)↔s.contains c=true:=by
  induction s with
  | nil=>simp[Lib.indexByte]
  | cons a s ih =>
    unfold Lib.indexByte;by_cases h:a=c
    ·simp[h]
    have h' : ¬ c = a := λe => h e.symm;simp only[List.contains_cons,beq_iff_eq,Bool.or_eq_true,h',false_or,<-ih];have hb:(a==c)=false:=by simp[h]
    simp[hb,h];split <;> omega
theorem Z_{at_:Str}{c:UInt8}(h:¬(0:Int)<=Lib.indexByte at_ c):at_.contains c=false:=by
  rw[Bool.eq_false_iff];intro hh;exact h ((Tx _ _).2 hh)
theorem L2{at_:Str}{c:UInt8}(h:(0:Int)<=Lib.indexByte at_ c):at_.contains c=true:=(Tx _ _).1 h
theorem P2{at_:Str}:∀{s:Str},(∀c∈s,at_.contains c=false)->Vb at_ s=(s,[],false)
  | [],_=>rfl
  | c :: r, h => by
    unfold Vb;rw[if_neg (by rw[h c Oa];simp),P2 (λc hc=>h c (by simp[hc]))]
theorem W3{at_:Str}:∀{s:Str}{q:Nat}(h:q<s.length),(∀c∈s.take q,at_.contains c=false)->at_.contains s[q]=true->Vb at_ s=(s.take q,s.drop (q+1),true)
  | [],_,h,_,_=>absurd h Oa
  | c :: r, 0, _, _, hc => by
    unfold Vb;rw[if_pos (by simpa using hc)];simp
  | c :: r, q + 1, h, hno, hc => by
    unfold Vb;rw[if_neg (by rw[hno c Oa];simp),W3 (q:=q) (by simpa using h) (λd hd=>hno d (by simp[hd])) (by simpa using hc)];simp
open Go.RowKit Go.Proofs Go.Proofs.Tryz
theorem W_(w:World)(a b:Num):(Op.equal 90 (Kk a) (Kk b)).run prog w=.ok (decide (a=b)) w:=by
  obtain⟨p,a,m⟩:=a;obtain⟨q,b,n⟩:=b;have h:=Z9 a b;simp only[Kk,Num.mk.injEq];generalize bs a=u at *;generalize bs b=v at *;simp[Op.equal,Op.maxDepth,run_equalIn_struct,go_sem];have h':u.toList=v.toList↔a=b:=by
    rw[<-decide_eq_true_eq (p:=a=b),<-h,beq_iff_eq]
  by_cases h1:p=q <;> by_cases h2:a=b <;> by_cases h3:m=n <;> simp[h1,h2,h3,h'.2,show ¬a=b->¬u.toList=v.toList from λhn he=>hn (h'.1 he)]
theorem x_eqlN{ρ:Operand->Value}{w:World}{dst:Option Nat}{ty:TypeId}{pos:String}{aft:Array Edge}{g:Option (Nat × Bool)}{x y:Operand}{a b:Num}(hx:ρ x=Kk a)(hy:ρ y=Kk b) :
    (execOp ρ ⟨dst,.binOp .eql 90 x y 90,ty,pos,aft,g⟩).run prog w=.ok (.value (.bool (decide (a=b)))) w:=by
  have hg:(eqGuard .eql 90 x y (Kk a) (Kk b)).run prog w=.ok () w:=by
    simp[eqGuard,Kk]
  have h:=W_ w a b;simp only[execOp,hx,hy,Sem.run_bind,hg,Result.andThen_ok];have hb:(binOp .eql 90 (Kk a) (Kk b)).run prog w=.ok (.bool (decide (a=b))) w:=by
    simp only[Kk,binOp]at h ⊢;simp only[Sem.run_bind,h,Result.andThen_ok,Sem.run_pure]
  rw[hb];rfl
theorem P4(s q:Str)(w:World):Calls prog 211 #[I s,I q] w (Yc λv w'=>v=.tuple #[I (Lib.trimPrefix s q),.bool (Lib.hasPrefix s q)]/\Same [] w w'):=Mq (strings_CutPrefix (bs s) (bs q) w)
theorem UD(s q:Str)(w:World):Calls prog 213 #[I s,I q] w (Yc λv w'=>v=I (Lib.trimPrefix s q)/\Same [] w w'):=Mq (strings_TrimPrefix (bs s) (bs q) w)
theorem D4(s:Str)(w:World):Calls prog 155 #[I s,I [48]] w (Yc λv w'=>v=I (Lib.trimLeftB s 48)/\Same [] w w'):=Mq (strings_TrimLeft_one (bs s) 48 Ua w)
theorem BD(s:Str)(w:World)(h:s.length<=9223372036854775807):Calls prog 156 #[I s,I [48]] w (Yc λv w'=>v=I (Lib.trimRightB s 48)/\Same [] w w'):=Mq (strings_TrimRight_one (bs s) 48 Ua w h)
theorem Cr(s:Str)(c:UInt8)(w:World):Calls prog 249 #[I s,.int .u8 (c.toNat:Int)] w (Yc λv w'=>v=J (Lib.indexByte s c)/\Same [] w w'):=by
  have:=Mq (strings_IndexByte (bs s) (c.toNat:Int) w);simpa using this
theorem Dq(a b:Str)(w:World):Calls prog 92 #[I a,I b] w (Yc λv w'=>v=J (Lib.compareBytes a b)/\Same [] w w'):=Mq (strings_Compare (bs a) (bs b) w)
theorem Mz(x y:Int)(w:World):Calls prog 134 #[J x,J y] w (Yc λv w'=>v=J (Lib.compareInt x y)/\Same [] w w'):=Mq (cmp_Compare_int x y w)
theorem Ru(s:Str)(w0:World):Calls prog 152 #[I s] w0 (Yc λv w'=>v=.bool (Gh s)/\Same [] w0 w'):=by
 refine Fa func152 O ntmps152 Ab (Wb _) ?_;have hF:=FR.start w0 [];refine Ea (Ba (Kb O) (Da (Ga (Ea (Ba (Ad O) ?_)))));refine O0 (str:=s) hF kX O ?_;rintro b1 w hb1 hF -;refine Da (Qa ?_);refine Fc (λμ σ w=>∃(q:Nat),μ=s.length-q/\(q<=s.length)/\((s.take q).all Pe=true)/\AllEq σ [(0,I s),(6,V b1)]/\FR w0 [] [(b1,.stringIter (bs s) (q))] w) _ ⟨0,O,(Nat.zero_le _),Oa,Rq,hF⟩ ?_;rintro μ σ w ⟨q,rfl,hq,ha,hs,hF⟩;refine Cg.slots hs ?_;clear hs;intro σ;refine Ea ?_;by_cases hn0:(q)<(s:Str).length;refine F6 0 (p:=q) (str:=s) hF O O hn0 ?_;rintro w hF -;refine Ba (Ym O O) (Da (Ga (Yd O (Ka (Ha (Qa (Ea (Ba (Rj O O) (Ba (Fb O) (Da ?_))))))))));refine Ea (Ba (Za O) (Ba (Pg O O) (Ba (Dc O) ?_)));refine Bb (d:=12) O (λhg1=>?_) (λhg1=>?_);refine Ca (Ca (Ba (Rb O O) (Da (Yd O (Ea (Ba (Kb O) (Da ?_)))))));refine Gc (v:=.bool false) O O ?_;have hd:=(Uy s q Aa).2 Aa;exact⟨by unfold Gh;rw[Xy Aa hd];simp,hF.same⟩;refine Ba (Za O) (Ba (Mo O O) (Ba (Pb O O) (Da ?_)));refine Jb O O (λhc1=>?_) (λhc1=>?_);refine Ea (Ba (Kb O) (Da ?_));refine Gc (v:=.bool false) O O ?_;have hd:=(Uy s q Aa).2 Aa;exact⟨by unfold Gh;rw[Xy Aa hd];simp,hF.same⟩;refine Ka (Ya ?_);have hd:=(Uy s q Aa).1 ⟨by omega,by omega⟩;rw[hd.2]at hF;refine Ta ⟨_,?_,q+1,O,Aa,(Sx Aa ha hd.1),Rq,hF⟩;omega;refine It 0 (p:=q) (str:=s) hF O O hn0 (Ba (Ym O O) (Da (Ga (Zd O ?_))));refine Bc (Yb O ?_);refine Ha (Ea (Ba (Ad O) (Ba (yns O O) (Ba (Kb O) (Da ?_)))));refine Gc (v:=.bool _) O O ?_;have e:s.take q=s:=List.take_of_length_le Aa;rw[e]at ha;exact⟨by unfold Gh;rw[ha];simp,hF.same⟩
theorem L1(x:Num)(hl:x.digits.length<=140737488355328)(w0:World):Calls prog 98 #[Kk x] w0 (Yc λv w'=>v=.bool (Lc x)/\Same [] w0 w'):=by
 refine Fa func98 O ntmps98 Ab (Wb _) ?_;have hF:=FR.start w0 [];refine Ea (Ce hF O ?_);rintro b1 w hb1 hF -;refine Ba (Kb O) (Lb (Ba (Mb Se O) (Xb (Ej iZ O hF.F 0 O O) (Ba (He O) (Da (Ga (Qa (Ea ?_))))))));refine Xb (Bf jZ tZ O hF.F 0 O O) (Ia (w':=w) (v:=.agg #[.bool false,I [],J 0]) Qb ?_);refine Ia (v:=.bool (decide (x=Num.zero))) (x_eqlN (a:=x) (b:=Num.zero) O O) (Ba (Kb O) (Da ?_));refine Jb O O (λhc0=>?_) (λhc0=>?_);refine Ea (Ba (Kb O) (Da ?_));refine Gc (v:=.bool true) O O ?_;exact⟨by rw[E4 hc0],hF.same⟩;refine Ga (Ea (Ba (Ad O) ?_));refine Pa hF (Ru (x.digits) _) (Ma N8 O O) ?_;intro w hF;refine Ba (Di O) (Ba (Kb O) (Da ?_));refine Jd O O (λhc1=>?_) (λhc1=>?_);refine Ka (Ha (Yd O (Ea (Ba (Kb O) (Da ?_)))));refine Gc (v:=.bool false) O O ?_;exact⟨by rw[L4 hc0 hc1],hF.same⟩;refine Ea (Ba (Ad O) (Ba (Sk kX O) (Ba (Mo O O) (Ba (Kb O) (Da ?_)))));refine Jb O O (λhc2=>?_) (λhc2=>?_);refine Ka (Ha (Yd O (Ea (Ba (Kb O) (Da ?_)))));refine Gc (v:=.bool false) O O ?_;exact⟨by rw[S4 hc0 hc2],hF.same⟩;refine Ea (Ba (Ad O) ?_);refine Ia (v:=.int .u8 ((((x.digits:Str)[0]'(List.length_pos_iff.2 (Il (by simpa using hc1)))).toNat:Int))) (Td (0) kX O O (List.length_pos_iff.2 (Il (by simpa using hc1)))) (Ba (Of O O) (Ba (Kb O) (Da ?_)));refine Jb O O (λhc3=>?_) (λhc3=>?_);refine Ka (Ha (Yd O (Ea (Ba (Kb O) (Da ?_)))));refine Gc (v:=.bool false) O O ?_;exact⟨by rw[R4 hc0 _ hc3],hF.same⟩;refine Ja (Ba (Ad O) (Ba (Ad O) (Ba (Sk kX O) ?_)));refine Ia (v:=J (((x.digits.length-1:Nat):Int))) (Tu O O (Hg (by have:=List.length_pos_iff.2 (Il (s:=x.digits) (by simpa using hc1));omega) Aa Aa)) ?_;refine Ia (v:=.int .u8 ((((x.digits:Str)[x.digits.length-1]'(by have:=List.length_pos_iff.2 (Il (s:=x.digits) (by simpa using hc1));omega)).toNat:Int))) (Td (x.digits.length-1) kX O O (by have:=List.length_pos_iff.2 (Il (s:=x.digits) (by simpa using hc1));omega)) ?_
 refine Ba (Of O O) (Ba (Kb O) (Da ?_));refine Jb O O (λhc4=>?_) (λhc4=>?_);refine Ea (Ba (Kb O) (Da ?_));refine Gc (v:=.bool false) O O ?_;exact⟨by rw[Q4 hc0 _ hc4],hF.same⟩;refine Ka (Ya (Ha (Ea (Ba (Mb Yg O) (Xb (Zg xQ O hF.F 0 O O) (Ba (Vx O O) (Ba (Dc O) ?_)))))));refine Bb (d:=29) O (λhg0=>?_) (λhg0=>?_);refine Ba (Mb Yg O) (Xb (Zg xQ O hF.F 0 O O) (Ba (EB O O) (Ba (Rb O O) (Ba (Kb O) (Da ?_)))));refine Gc (v:=.bool _) O O ?_;exact⟨by rw[Oq hc0 hc1 hc2 _ hc3 _ hc4];simp[hg0],hF.same⟩;refine Ca (Ca (Ca (Ba (Pb O O) (Ba (Kb O) (Da ?_)))));refine Gc (v:=.bool false) O O ?_;exact⟨by rw[Oq hc0 hc1 hc2 _ hc3 _ hc4];simp[hg0],hF.same⟩
def RO:List Int:=[0,1,56,2,57,49,28,3,61,58,42,50,38,29,17,4,62,47,59,36,45,43,51,22,53,39,33,30,24,18,12,5,63,55,48,27,60,41,37,16,46,35,44,21,52,32,23,11,54,26,40,15,34,20,31,10,25,14,19,9,13,8,7,6]
structure Gl (w:World):Prop where
  size:8<=w.heap.size
  tabs:Lib.Utf8Tabs 0 1 w
  pow:∃e fz,w.heap[3]? = some (.cells (Lib.pow10Tab.map (λz=>Value.int .u64 z)).toArray e fz)
  rng:∃tp q e fz,w.heap[7]? = some (.cells #[.iface tp q] e fz)
  syn:∃tp q e fz,w.heap[6]? = some (.cells #[.iface tp q] e fz)
  bru:∃e fz,w.heap[5]? = some (.cells (RO.map (λz=>Value.int .u8 z)).toArray e fz)
theorem Gl.same{w w':World}{Ds:List Nat}(h:Gl w)(hs:Same Ds w w')(hd:∀b∈Ds,8<=b):Gl w':=by
  have hb:∀b,b<8->w'.heap[b]? = w.heap[b]?:=λb hb=>hs.block b (Nat.lt_of_lt_of_le hb h.size) (λhi=>by have:=hd b hi;omega);refine⟨fQ h.size hs.size,⟨λc hc=>?_,λi hi=>⟨?_,?_⟩⟩,?_,?_,?_,?_⟩
  ·rw[<-h.tabs.1 c hc];exact World.cell?_of_block (w:=w) (hb 0 Aa)
  ·rw[<-(h.tabs.2 i hi).1];exact World.cell?_of_block (w:=w) (hb 1 Aa)
  ·rw[<-(h.tabs.2 i hi).2];exact World.cell?_of_block (w:=w) (hb 1 Aa)
  ·rw[hb 3 Aa];exact h.pow
  ·rw[hb 7 Aa];exact h.rng
  ·rw[hb 6 Aa];exact h.syn
  rw[hb 5 Aa];exact h.bru
theorem Gl.ext{w w':World}(h:Gl w)(hs:Same [] w w'):Gl w':=h.same hs Oa
theorem Gl.tabIs {w:World} (h:Gl w):Lib.TabIs prog w "internal/strconv.uint64pow10" IntKind.u64 Lib.pow10Tab:=by
  obtain⟨e,fz,hh⟩:=h.pow;have hg:prog.globalNamed "internal/strconv.uint64pow10" = some 3:=by kernel_rfl
  simp[Lib.TabIs,World.var?,hg,hh]
theorem Gl.err {w:World} (h:Gl w):∃ tp q,World.var? prog w "strconv.ErrRange" = some #[.iface tp q]:=by
  obtain⟨tp,q,e,fz,hh⟩:=h.rng;have hg:prog.globalNamed "strconv.ErrRange" = some 7:=by kernel_rfl
  exact⟨tp,q,by simp[World.var?,hg,hh]⟩
theorem Gl.serr {w:World} (h:Gl w):∃ tp q,World.var? prog w "strconv.ErrSyntax" = some #[.iface tp q]:=by
  obtain⟨tp,q,e,fz,hh⟩:=h.syn;have hg:prog.globalNamed "strconv.ErrSyntax" = some 6:=by kernel_rfl
  exact⟨tp,q,by simp[World.var?,hg,hh]⟩
theorem DX(w:World)(k:Nat)(os:Array Obj):Same [] w (Go.Sort.grow (w.drewN k) os) :=
  ⟨rfl,rfl,rfl,by rw[Go.Sort.size_grow];exact Nat.le_add_right _ _,λb hb _=>Go.Sort.heap_grow_old (w.drewN k) os hb⟩
theorem HQ(n:Int)(h1:-9223372036854775808<=n)(h2:n<=9223372036854775807){w:World}(hG:Gl w):Calls prog 99 #[J n] w (Yc λv w'=>v=I (Lib.itoa n)/\Same [] w w') :=
  (strconv_Itoa n h1 h2 w hG.tabIs).mono λe w' ⟨he,k,os,hw⟩=>⟨_,he,rfl,by subst hw;exact DX w k os⟩
theorem WE(x:Num)(hl:x.digits.length<=140737488355328)(w0:World)(hG:Gl w0):Calls prog 65 #[Kk x] w0 (Yc λv w'=>v=I (Rg x)/\Same [] w0 w'):=by
 refine Fa func65 O ntmps65 Ab (Wb _) ?_;have hF:=FR.start w0 [];refine Ea (Ce hF O ?_);rintro b1 w hb1 hF -;refine Ba (He O) (Da (Ga (Ea (Xb (Bf jZ tZ O hF.F 0 O O) ?_))));refine Pa hF (L1 x hl _) (Ma QL O O) ?_;intro w hF;refine Ba (Di O) (Da ?_);refine Jd O O (λhc0=>?_) (λhc0=>?_);refine Ea (Ba (He O) (Da ?_));refine Gc (v:=I []) O O ⟨?_,hF.same⟩;simp_all[Rg];refine Ka (Ha (Ga (Ea (Ba (Mb Se O) (Xb (Ej iZ O hF.F 0 O O) (Ba (Ry O O) (Da ?_)))))));refine Jb O O (λhc1=>?_) (λhc1=>?_);refine Ea (Ba (He O) (Da ?_));refine Gc (v:=I [48]) O O ⟨?_,hF.same⟩;simp_all[Rg];refine Ka (Ha (Ea (Ba (Mb Se O) (Xb (Ej iZ O hF.F 0 O O) (Ba (He O) (Da (Ga (Ea (Ba (Mb Wo O) (Xb (X3 dZ O hF.F 0 O O) ?_))))))))));refine Da (Jd O O (λhc2=>?_) (λhc2=>?_));refine Ja (Ba (Ad O) ?_);refine Ia (v:=I (([45])++(x.digits))) (Hi O O (by simp;omega)) ?_;refine Ba (He O) (Da (Ga (Ea (Ba (Mb Yg O) (Xb (Zg xQ O hF.F 0 O O) (Ba (Wm O O) (Da ?_)))))));refine Jb O O (λhc3=>?_) (λhc3=>?_);refine Ja (Ba (Ad O) (Ba (Mb Yg O) (Xb (Zg xQ O hF.F 0 O O) ?_)));refine Pa hF (HQ x.exp (by have:=Wc (x:=x) (by simpa using hc0);omega) (by have:=Wc (x:=x) (by simpa using hc0);omega) (hG.ext hF.same)) (Ma en_99 O O) ?_;intro w hF;refine Ia (v:=I (([101])++(Lib.itoa x.exp))) (Hi O O (by have:=Lib.itoa_length_le x.exp (by have:=Wc (x:=x) (by simpa using hc0);omega) (by have:=Wc (x:=x) (by simpa using hc0);omega);simp;omega)) ?_;refine Ia (v:=I ((([45])++(x.digits))++(([101])++(Lib.itoa x.exp)))) (Hi O O (by have:=Lib.itoa_length_le x.exp (by have:=Wc (x:=x) (by simpa using hc0);omega) (by have:=Wc (x:=x) (by simpa using hc0);omega);simp;omega)) ?_;refine Ba (He O) (Lb (Ba (Ad O) (Ba (He O) (Da ?_))));refine Db (Cb (La (Gq (v:=I ((([45])++(x.digits))++(([101])++(Lib.itoa x.exp)))) O O) ?_))
 refine⟨?_,hF.same⟩;simp_all[Rg];refine Ka (Ha (Ea (Ba (Ad O) (Ba (He O) (Da ?_)))));refine Gc (v:=I (([45])++(x.digits))) O O ⟨?_,hF.same⟩;simp_all[Rg];refine Ka (Ha (Ga (Ea (Ba (Mb Yg O) (Xb (Zg xQ O hF.F 0 O O) (Ba (Wm O O) (Da ?_)))))));refine Jb O O (λhc3=>?_) (λhc3=>?_);refine Ja (Ba (Ad O) (Ba (Mb Yg O) (Xb (Zg xQ O hF.F 0 O O) ?_)));refine Pa hF (HQ x.exp (by have:=Wc (x:=x) (by simpa using hc0);omega) (by have:=Wc (x:=x) (by simpa using hc0);omega) (hG.ext hF.same)) (Ma en_99 O O) ?_;intro w hF;refine Ia (v:=I (([101])++(Lib.itoa x.exp))) (Hi O O (by have:=Lib.itoa_length_le x.exp (by have:=Wc (x:=x) (by simpa using hc0);omega) (by have:=Wc (x:=x) (by simpa using hc0);omega);simp;omega)) ?_;refine Ia (v:=I ((x.digits)++(([101])++(Lib.itoa x.exp)))) (Hi O O (by have:=Lib.itoa_length_le x.exp (by have:=Wc (x:=x) (by simpa using hc0);omega) (by have:=Wc (x:=x) (by simpa using hc0);omega);simp;omega)) ?_;refine Ba (He O) (Lb (Ba (Ad O) (Ba (He O) (Da ?_))));refine Db (Cb (La (Gq (v:=I ((x.digits)++(([101])++(Lib.itoa x.exp)))) O O) ?_));refine⟨?_,hF.same⟩;simp_all[Rg];refine Ka (Ha (Ea (Ba (Ad O) (Ba (He O) (Da ?_)))));refine Gc (v:=I (x.digits)) O O ⟨?_,hF.same⟩;simp_all[Rg]
theorem cut_c(s at_:Str)(hl:s.length<=140737488355328)(w0:World):Calls prog 212 #[I s,I at_] w0 (Yc λv w'=>v=.tuple #[I ((Vb at_ s).1),I ((Vb at_ s).2.1),.bool (Vb at_ s).2.2]/\Same [] w0 w'):=by
 refine Fa func212 O ntmps212 Ab (Uc _ _) ?_;have hF:=FR.start w0 [];refine Ea (Ba (He O) (Ba (He O) (Ba (Kb O) (Da (Ga (Ea (Ba (Ad O) (Ba (Sk kX O) (Ba (Za O) (Va ?_))))))))));refine Ha (Qa ?_);refine Fc (λμ σ w=>∃(q:Nat),μ=s.length-q/\(q<=s.length)/\(∀c∈s.take q,at_.contains c=false)/\AllEq σ [(0,I s),(1,I at_),(9,J ((((s):Str).length:Int))),(10,J ((q:Int)))]/\FR w0 [] [] w) _ ⟨0,O,(Nat.zero_le _),Oa,Jj,hF⟩ ?_;rintro μ σ w ⟨q,rfl,hq,hno,hs,hF⟩;refine Cg.slots hs ?_;clear hs;intro σ;refine Ea (Ba (Pg O O) (Da (Ga ?_)));refine Jb O O (λhc0=>?_) (λhc0=>?_);refine Ka (Ha (Ga (Qa (Ea (Ba (Za O) (Ba (Fb O) (Lb (Ba (Ad O) (Ba (Ad O) ?_)))))))));refine Ba (Za O) (Ia (v:=.int .u8 ((((s:Str)[q]' Aa).toNat:Int))) (Td (q) kX O O Aa) ?_);refine Pa hF (Cr at_ _ _) (Xa CF O O O) ?_;intro w hF;refine Ba (Vx O O) (Da ?_);refine Jb O O (λhc1=>?_) (λhc1=>?_);refine Ga (De (zs:=.of []) (bQ [0,1,2,3,4,5,6,7,8,9] .nil) hF ?_);intro w hF;refine Ib O (Ad O) (Ib O (Za O) (Sa O (v:=I ((s:Str).take (q))) (λw hC=>Zv (q) kX O O Aa) (Ib O (Ad O) (Ib O (Za O) (Ib O (Bi (((q+1:Nat):Int)) O O) (Sa O (v:=I ((s:Str).drop (q+1))) (λw hC=>Dl (q+1) kX O O Aa) (Ib O (He O) (Ib O (He O) (Ib O (Kb O) (Ic (Ha ?_)))))))))));refine Db (Cb (La (Jw (v:=I ((s:Str).take (q))) (x:=I ((s:Str).drop (q+1))) (y:=.bool true) O O O O) ?_));exact⟨by rw[W3 Aa hno (L2 hc1)],hF.same⟩;refine Ka (Ya (Ha (Ja (Ba (Cl O O) (Ba (Za O) (Va ?_))))));refine Ta ⟨_,?_,q+1,O,Aa,(DG Aa hno (Z_ hc1)),Jj,hF⟩;omega;refine Bc (Yb O ?_);refine Ha (Ea (Ba (Ad O) (Ba (He O) (Ba (He O) (Ba (Kb O) (Da ?_))))));refine Db (Cb (La (Jw (v:=I s) (x:=I []) (y:=.bool false) O O O O) ?_));have e:s.take q=s:=List.take_of_length_le Aa;rw[e]at hno;exact⟨by rw[P2 hno],hF.same⟩
theorem read_c(s:Str)(hl:s.length<=140737488355328)(w0:World):Calls prog 154 #[I s] w0 (Yc λv w'=>v=.tuple #[QY (Cc s).1,.bool (Cc s).2]/\Same [] w0 w'):=by
 refine Fa func154 O ntmps154 Ab (Wb _) ?_;have hF:=FR.start w0 [];refine Ea (Pc (cs:=#[.bool false,.bool false,I [],I [],I []]) hF zeroValue176 O ?_);rintro b1 w hb1 hF -;refine Ba (Kb O) (Lb (Ba (Ad O) ?_));refine Pa hF (P4 s [45] _) (Xa en_211 O O O) ?_;intro w hF;refine Ba (Mj O) (Ba (Ly O O) (Ba (Ym O O) (Ba (He O) (Ba (Mb HH O) ?_))));refine Ro (.bool _) hF sizeOf4 O O Pi Pi ?_;rintro w hF -;refine Lb (Ba (Ad O) ?_);refine Pa hF (cut_c (Lib.trimPrefix s [45]) [101,69] (by have:=Yk s [45];have:=Ii [101,69] (Lib.trimPrefix s [45]);omega) _) (Xa en_212 O O O) ?_;intro w hF;refine Ba (Mj O) (Ba (Ly O O) (Ba (Ly O O) (Ba (Ym O O) (Ba (He O) (Ba (He O) (Ba (Kb O) (Da (Ga ?_))))))));refine Fd (λσ w=>∃(ex:Str),∃(lw:Bool),(Cc s=Qk (Lib.hasPrefix s [45]) lw (Vb [101,69] (Lib.trimPrefix s [45])).1 ex)/\AllEq σ [(0,I ((Vb [101,69] (Lib.trimPrefix s [45])).1)),(2,V b1),(4,I ex)]/\FR w0 [] [(b1,.cells #[.bool (Lib.hasPrefix s [45]),.bool (lw),I [],I [],I []] 176)] w) ?_ ?_;refine Ea (Ba (Dc O) (Da ?_));refine Jd O O (λhc0=>?_) (λhc0=>?_);refine Ea (Ba (Ad O) ?_);refine Pa hF (P4 ((Vb [101,69] (Lib.trimPrefix s [45])).2.1) [45] _) (Xa en_211 O O O) ?_;intro w hF;refine Ba (Mj O) (Ba (Ly O O) (Ba (Ym O O) (Ba (He O) (Ba (Mb I_ O) ?_))));refine Ro (.bool _) hF sizeOf4 O O Pi Tr ?_;rintro w hF -;refine Da (Ga (Ea (Ba (Mb I_ O) (Xb (X3 dZ O hF.F 0 O O) (Ba (Di O) (Da ?_))))));refine Jd O O (λhc1=>?_) (λhc1=>?_);refine Ja (Ba (Ad O) ?_);refine Pa hF (UD (Lib.trimPrefix ((Vb [101,69] (Lib.trimPrefix s [45])).2.1) [45]) [43] _) (Xa en_213 O O O) ?_;intro w hF;refine Ba (He O) (Lb (Ba (Ad O) ?_));refine Pa hF (Ru (Lib.trimPrefix (Lib.trimPrefix ((Vb [101,69] (Lib.trimPrefix s [45])).2.1) [45]) [43]) _) (Ma N8 O O) ?_;intro w hF;refine Ba (Di O) (Da ?_);refine Jd O O (λhc2=>?_) (λhc2=>?_)
 refine Ea (Xb (Bf isAgg176 lZ O hF.F 0 O O) ?_);refine Ge hF lZ O O Pi ?_;rintro w hF -;refine Ba (Kb O) (Da ?_);refine Db (Cb (La (Ld O (l:=[.bool (Lib.hasPrefix s [45]),.bool (Lib.hasPrefix ((Vb [101,69] (Lib.trimPrefix s [45])).2.1) [45]),I [],I [],I []]) O isAgg176 lZ O (hF.cellsAll 0 O) (v:=.bool false) O) ?_));refine⟨?_,hF.same⟩;simp_all[Cc,QY];refine Ka ?_;exact Ta ⟨(Lib.trimPrefix (Lib.trimPrefix ((Vb [101,69] (Lib.trimPrefix s [45])).2.1) [45]) [43]),(Lib.hasPrefix ((Vb [101,69] (Lib.trimPrefix s [45])).2.1) [45]),(by simp_all[Cc]),Oi,hF⟩;refine Ka (Ha (Ea (Ba (Ad O) ?_)));refine Pa hF (Ru (Lib.trimPrefix ((Vb [101,69] (Lib.trimPrefix s [45])).2.1) [45]) _) (Ma N8 O O) ?_;intro w hF;refine Ba (Di O) (Da ?_);refine Jd O O (λhc2=>?_) (λhc2=>?_);refine Ea (Xb (Bf isAgg176 lZ O hF.F 0 O O) ?_);refine Ge hF lZ O O Pi ?_;rintro w hF -;refine Ba (Kb O) (Da ?_);refine Db (Cb (La (Ld O (l:=[.bool (Lib.hasPrefix s [45]),.bool (Lib.hasPrefix ((Vb [101,69] (Lib.trimPrefix s [45])).2.1) [45]),I [],I [],I []]) O isAgg176 lZ O (hF.cellsAll 0 O) (v:=.bool false) O) ?_));refine⟨?_,hF.same⟩;simp_all[Cc,QY];refine Ka ?_;exact Ta ⟨(Lib.trimPrefix ((Vb [101,69] (Lib.trimPrefix s [45])).2.1) [45]),(Lib.hasPrefix ((Vb [101,69] (Lib.trimPrefix s [45])).2.1) [45]),(by simp_all[Cc]),Oi,hF⟩;refine Ka ?_;exact Ta ⟨((Vb [101,69] (Lib.trimPrefix s [45])).2.1),(false),(by simp_all[Cc]),Oi,hF⟩;rintro σ w ⟨ex,lw,hrd,hs,hF⟩;refine Eg.slots hs ?_;clear hs;intro σ;refine Ha (Ea (Ba (Ad O) (Ba (Mb EJ O) ?_)));refine Ro (.string _) hF sZ O O Pi sI4 ?_;rintro w hF -;refine Lb (Ba (Ad O) ?_);refine Pa hF (cut_c ((Vb [101,69] (Lib.trimPrefix s [45])).1) [46] (by have:=Yk s [45];have:=Ii [101,69] (Lib.trimPrefix s [45]);omega) _) (Xa en_212 O O O) ?_;intro w hF;refine Ba (Mj O) (Ba (Ly O O) (Ba (Ly O O) (Ba (Ym O O) (Ba (He O) (Ba (He O) (Ba (Kb O) (Lb (Ba (Ad O) (Ba (Ad O) (Ba (Mb L7 O) ?_))))))))))
 refine Ro (.string _) hF sZ O O Pi V3 ?_;rintro w hF -;refine Ba (Mb B0 O) (Ro (.string _) hF sZ O O Pi N_ ?_);rintro w hF -;refine Da (Ga (Ga ?_));refine Fd (λσ w=>∃(bd:Bool),(bd = !(Gh (Vb [46] (Vb [101,69] (Lib.trimPrefix s [45])).1).1&&(!(Vb [46] (Vb [101,69] (Lib.trimPrefix s [45])).1).2.2 || Gh (Vb [46] (Vb [101,69] (Lib.trimPrefix s [45])).1).2.1)))/\AllEq σ [(2,V b1),(6,I ((Vb [46] ((Vb [101,69] (Lib.trimPrefix s [45])).1)).1)),(59,.bool (bd))]/\FR w0 [] [(b1,.cells #[.bool (Lib.hasPrefix s [45]),.bool (lw),I ((Vb [46] ((Vb [101,69] (Lib.trimPrefix s [45])).1)).1),I ((Vb [46] ((Vb [101,69] (Lib.trimPrefix s [45])).1)).2.1),I ex] 176)] w) ?_ ?_;refine Ja (Ba (Ad O) ?_);refine Pa hF (Ru ((Vb [46] ((Vb [101,69] (Lib.trimPrefix s [45])).1)).1) _) (Ma N8 O O) ?_;intro w hF;refine Ba (Di O) (Ba (Dc O) ?_);refine Sc (d:=52) O (λhg0=>?_) (λhg0=>?_);refine Ca (Ca (Ca (Ca (Ca (Ca (Ba (Rb O O) (Va ?_)))))));exact Ta ⟨(true),(by simp_all),Oi,hF⟩;refine Ba (Dc O) (Ba (Dc O) ?_);refine Sc (d:=54) O (λhg1=>?_) (λhg1=>?_);refine Ba (Ad O) (Pa hF (Ru ((Vb [46] ((Vb [101,69] (Lib.trimPrefix s [45])).1)).2.1) _) (Ma N8 O O) ?_);intro w hF;refine Ba (Di O) (Ba (Rb O O) (Ba (Pb O O) (Va ?_)));exact Ta ⟨(!(Gh ((Vb [46] ((Vb [101,69] (Lib.trimPrefix s [45])).1)).2.1))),(by simp_all),Oi,hF⟩;refine Ca (Ca (Ca (Ba (Pb O O) (Ba (Pb O O) (Va ?_)))));exact Ta ⟨(false),(by simp_all),Oi,hF⟩;rintro σ w ⟨bd,hbd,hs,hF⟩;refine Eg.slots hs ?_;clear hs;intro σ;refine Ha (Jd O O (λhc3=>?_) (λhc3=>?_));refine Ea (Xb (Bf isAgg176 lZ O hF.F 0 O O) ?_);refine Ge hF lZ O O Pi ?_;rintro w hF -;refine Ba (Kb O) (Da ?_);refine Db (Cb (La (Ld O (l:=[.bool (Lib.hasPrefix s [45]),.bool (lw),I ((Vb [46] ((Vb [101,69] (Lib.trimPrefix s [45])).1)).1),I ((Vb [46] ((Vb [101,69] (Lib.trimPrefix s [45])).1)).2.1),I ex]) O isAgg176 lZ O (hF.cellsAll 0 O) (v:=.bool false) O) ?_))
 refine⟨?_,hF.same⟩;rw[hrd];clear hrd hF;have hB:(Gh (Vb [46] (Vb [101,69] (Lib.trimPrefix s [45])).1).1&&(!(Vb [46] (Vb [101,69] (Lib.trimPrefix s [45])).1).2.2 || Gh (Vb [46] (Vb [101,69] (Lib.trimPrefix s [45])).1).2.1)) = !bd:=by rw[hbd,Bool.not_not]
 clear hbd;simp only[Qk,QY,hB];simp_all[IF];refine Ka (Ha (Ga ?_));refine De (zs:=.of []) (bQ [0,1,2,3,4,5,6,7] (.act 8 (.free 9 .nil))) hF ?_;intro w hF;refine Ng O (Bf isAgg176 lZ O C0 0 O O) (Ib O (Ad O) (Ib O (Ry O O) (Ib O (Dc O) ?_)));refine Xp (d:=64) O (λhg2=>?_) (λhg2=>?_);refine Ub O (Ub O ?_);refine Ub O (Ib O (Rb O O) ?_);refine Gx O hF lZ O O Pi ?_;rintro w hF -;refine⟨hF,?_⟩;refine Ib O (Kb O) (Ic (Ha ?_));refine Db (Cb (La (Ld O (l:=[.bool (Lib.hasPrefix s [45]),.bool (lw),I ((Vb [46] ((Vb [101,69] (Lib.trimPrefix s [45])).1)).1),I ((Vb [46] ((Vb [101,69] (Lib.trimPrefix s [45])).1)).2.1),I ex]) O isAgg176 lZ O (hF.cellsAll 0 O) (v:=.bool true) O) ?_));refine⟨?_,hF.same⟩;rw[hrd];clear hrd hF;have hB:(Gh (Vb [46] (Vb [101,69] (Lib.trimPrefix s [45])).1).1&&(!(Vb [46] (Vb [101,69] (Lib.trimPrefix s [45])).1).2.2 || Gh (Vb [46] (Vb [101,69] (Lib.trimPrefix s [45])).1).2.1)) = !bd:=by rw[hbd,Bool.not_not]
 clear hbd;simp only[Qk,QY,hB];simp_all[IF];refine Ib O (Ad O) ?_;have hpos:=List.length_pos_iff.2 (Il (s:=(Vb [46] (Vb [101,69] (Lib.trimPrefix s [45])).1).1) (by simp_all));refine Sa O (v:=.int .u8 (((((Vb [46] ((Vb [101,69] (Lib.trimPrefix s [45])).1)).1:Str)[0]'(hpos)).toNat:Int))) (λw hC=>Td (0) kX O O (hpos)) (Ib O (Wm O O) (Ib O (Pb O O) ?_));refine Gx O hF lZ O O Pi ?_;rintro w hF -;refine⟨hF,?_⟩;refine Ib O (Kb O) (Ic (Ha ?_));refine Db (Cb (La (Ld O (l:=[.bool (Lib.hasPrefix s [45]),.bool (lw),I ((Vb [46] ((Vb [101,69] (Lib.trimPrefix s [45])).1)).1),I ((Vb [46] ((Vb [101,69] (Lib.trimPrefix s [45])).1)).2.1),I ex]) O isAgg176 lZ O (hF.cellsAll 0 O) (v:=.bool (decide ((((((Vb [46] ((Vb [101,69] (Lib.trimPrefix s [45])).1)).1:Str)[0]'(hpos)).toNat:Int):Int)≠(48:Int)))) O) ?_));refine⟨?_,hF.same⟩;rw[hrd];clear hrd hF;have hB:(Gh (Vb [46] (Vb [101,69] (Lib.trimPrefix s [45])).1).1&&(!(Vb [46] (Vb [101,69] (Lib.trimPrefix s [45])).1).2.2 || Gh (Vb [46] (Vb [101,69] (Lib.trimPrefix s [45])).1).2.1)) = !bd:=by rw[hbd,Bool.not_not]
 clear hbd;simp only[Qk,QY,hB];simp_all[IF]
end Go.Scarf
