/- A part of the proof. -/
import Derived.Lib.ItoaNum
import Derived.Lib.Small
import Derived.Lib.ItoaLen
import Derived.Lib.Bytealg
import Derived.Lib.TrimByte
import Derived.Lib.Strings
import Derived.Laws.RangeAny
import Derived.Laws.RangeString
import Derived.Test.YtbhneplafiapdaaGreatDoorMem
set_option linter.all false
set_option maxHeartbeats 8000000
set_option maxRecDepth 10000
namespace Go.Scarf
structure Num where
  neg:Bool
  digits:Str
  exp:Int
deriving DecidableEq
def Num.zero:Num:=⟨false,[],0⟩
def Il(x:Num):Value:=.agg #[.bool x.neg,I x.digits,J x.exp]
def Lg(c:UInt8):Bool:=48<=c.toNat&&c.toNat<=57
def Pn(s:Str):Bool:=s.all Lg&&decide (s≠[])
theorem Ko(s:Str)(p:Nat)(h:p<s.length) :
    (¬((Utf8.decode (bs s) p).1:Int)<48/\¬(57:Int)<(Utf8.decode (bs s) p).1->Lg s[p]=true/\(Utf8.decode (bs s) p).2=1) /\
    (((Utf8.decode (bs s) p).1:Int)<48\/(57:Int)<(Utf8.decode (bs s) p).1->Lg s[p]=false):=by
  have hs:p<(bs s).size:=h;by_cases ha:(s[p]).toNat<128
  ·have hd := decode_ascii (bs s) p hs ha
   have e:((bs s)[p]' hs)=s[p]:=rfl;rw[e]at hd;rw[hd];unfold Lg;constructor
   ·rintro⟨h1, h2⟩
    simp only[Bool.and_eq_true,decide_eq_true_eq];exact⟨⟨by omega,by omega⟩,trivial⟩
   intro h1;simp only[Bool.and_eq_false_iff,decide_eq_false_iff_not];simp only at h1;omega
  have hd := decode_high (bs s) p hs (by show 128 <= (s[p]).toNat;omega);constructor
  ·rintro⟨h1, h2⟩
   omega
  intro _;unfold Lg;simp only[Bool.and_eq_false_iff,decide_eq_false_iff_not];omega
theorem Ww{f:UInt8->Bool}{s:Str}{p:Nat}(h:p<s.length)(ha:(s.take p).all f=true)(hp:f s[p]=true):(s.take (p+1)).all f=true:=by
  rw[iQ h,List.all_append,ha];simp[hp]
theorem Au{f:UInt8->Bool}{s:Str}{p:Nat}(h:p<s.length)(hp:f s[p]=false):s.all f=false:=by
  rw[Bool.eq_false_iff];intro ha;have:=List.all_eq_true.1 ha s[p] (eQ h);rw[hp]at this;cases this
def Ae(x:Num):Bool :=
  decide (x=Num.zero) || (Pn x.digits&&decide (x.digits.length<=1000)&&decide (x.digits.head?≠some 48)&&decide (x.digits.getLast?≠some 48)&&decide (-1000000<=x.exp)&&decide (x.exp<=1000000))
def Jk(x:Num):Str :=
  if Ae x=false then [] else if x.digits=[] then [48] else
  (if x.neg then 45::x.digits else x.digits)++(if x.exp≠0 then 101::Lib.itoa x.exp else [])
def Ga(at_:Str):Str->Str × Str × Bool
  | []=>([],[],false)
  | c::r=>if at_.contains c then ([],r,true) else let x:=Ga at_ r;(c::x.1,x.2.1,x.2.2)
structure Lit where
  neg:Bool
  low:Bool
  whole:Str
  rest:Str
  exp:Str
deriving DecidableEq
def Uj(x:Lit):Value:=.agg #[.bool x.neg,.bool x.low,I x.whole,I x.rest,I x.exp]
def Ad(neg low:Bool)(f e:Str):Lit × Bool :=
  let d:=Ga [46] f
  (⟨neg,low,d.1,d.2.1,e⟩,Pn d.1&&(!d.2.2 || Pn d.2.1)&&(decide (d.1=[48]) || decide (d.1.head?≠some 48)))
def Xa(s:Str):Lit × Bool :=
  let neg:=Lib.hasPrefix s [45]
  let c:=Ga [101,69] (Lib.trimPrefix s [45])
  if c.2.2 then
    let low:=Lib.hasPrefix c.2.1 [45]
    let e:=if low then Lib.trimPrefix c.2.1 [45] else Lib.trimPrefix (Lib.trimPrefix c.2.1 [45]) [43]
    if Pn e then Ad neg low c.1 e else (⟨neg,low,[],[],[]⟩,false)
  else Ad neg false c.1 c.2.1
def Pe(s:Str):Int:=s.foldl (λa c=>10*a+((c.toNat:Int)-48)) 0
def Md(s:Str):Num × Int :=
  let r:=Xa s
  let x:=r.1
  let exp:=Lib.trimLeftB x.exp 48
  if r.2=false then (Num.zero,2) else
  if 1000<x.whole.length+x.rest.length then (Num.zero,3) else
  if 9<exp.length then (Num.zero,4) else
  let e:=if x.low then-Pe exp else Pe exp
  let d:=Lib.trimLeftB (x.whole++x.rest) 48
  if d=[] then (Num.zero,0) else
  let short:=Lib.trimRightB d 48
  let n:Num:=⟨x.neg,short,e-x.rest.length+d.length-short.length⟩
  if Ae n=false then (Num.zero,4) else (n,0)
theorem L1(s:Str)(c:UInt8):Pe (s++[c])=10*Pe s+((c.toNat:Int)-48):=by simp[Pe]
theorem Cs(s:Str)(q:Nat)(h:q<s.length):Pe (s.take (q+1))=10*Pe (s.take q)+((s[q].toNat:Int)-48):=by
  rw[iQ h,L1]
theorem Zz(s:Str)(ha:s.all Lg=true):0<=Pe s/\Pe s<10 ^ s.length:=by
  have key:∀q,q<=s.length->0<=Pe (s.take q)/\Pe (s.take q)<10 ^ q:=by
    intro q
    induction q with
    | zero=>intro _;simp[Pe]
    | succ q ih =>
      intro hq;obtain⟨h1,h2⟩:=ih Ca;have hc:=List.all_eq_true.1 ha s[q] (eQ Ca);unfold Lg at hc;simp only[Bool.and_eq_true,decide_eq_true_eq]at hc;rw[Cs s q Ca,Int.pow_succ];omega
  have:=key s.length (gQ _)
  rwa [List.take_length]at this
theorem Ly(s:Str)(ha:s.all Lg=true)(hl:s.length<=9):0<=Pe s/\Pe s<1000000000:=by
  obtain⟨h1,h2⟩:=Zz s ha;refine⟨h1,?_⟩;have h3:(10:Int) ^ s.length<=10 ^ 9:=by
    have:=Nat.pow_le_pow_right (n:=10) Ca hl;have h4:((10 ^ s.length:Nat):Int)<=((10 ^ 9:Nat):Int):=by omega
    simpa using h4
  have:(10:Int) ^ 9=1000000000:=by decide
  omega
theorem H0(s:Str)(p:Nat)(h:p<s.length)(hd:Lg s[p]=true):Utf8.decode (bs s) p=(s[p].toNat,1):=by
  have hs:p<(bs s).size:=h;have:=decode_ascii (bs s) p hs (by
    show (s[p]).toNat<128;unfold Lg at hd;simp only[Bool.and_eq_true,decide_eq_true_eq]at hd;omega)
  exact this
theorem OC{s:Str}(h:Pn s=true):s.all Lg=true:=by unfold Pn at h;simp only[Bool.and_eq_true]at h;exact h.1
theorem Mg{s:Str}(h:Pn s=true):s≠[]:=by unfold Pn at h;simp only[Bool.and_eq_true,decide_eq_true_eq]at h;exact h.2
theorem Pr(at_:Str):∀s:Str,(Ga at_ s).2.2=false->(Ga at_ s).2.1=[]
  | [],_=>rfl
  | c :: r, h => by
    unfold Ga at h ⊢;split at h
    ·cases h
    rename_i hc
    rw[if_neg hc];exact Pr at_ r h
theorem QA{s:Str}(h:(Xa s).2=true):(Xa s).1.exp.all Lg=true:=by
  by_cases hc:(Ga [101,69] (Lib.trimPrefix s [45])).2.2=true
  ·have e1:Xa s=(let c:=Ga [101,69] (Lib.trimPrefix s [45])
       let low:=Lib.hasPrefix c.2.1 [45]
       let e:=if low then Lib.trimPrefix c.2.1 [45] else Lib.trimPrefix (Lib.trimPrefix c.2.1 [45]) [43]
       if Pn e then Ad (Lib.hasPrefix s [45]) low c.1 e else (⟨Lib.hasPrefix s [45],low,[],[],[]⟩,false)):=by
     unfold Xa;simp only;rw[if_pos hc]
   rw[e1]at h ⊢;simp only at h ⊢;generalize (if Lib.hasPrefix (Ga [101,69] (Lib.trimPrefix s [45])).2.1 [45]=true then Lib.trimPrefix (Ga [101,69] (Lib.trimPrefix s [45])).2.1 [45] else Lib.trimPrefix (Lib.trimPrefix (Ga [101,69] (Lib.trimPrefix s [45])).2.1 [45]) [43])=e at h ⊢;by_cases hd:Pn e=true
   ·rw[if_pos hd];exact OC hd
   rw[if_neg hd]at h;cases h
  have e1:Xa s=Ad (Lib.hasPrefix s [45]) false (Ga [101,69] (Lib.trimPrefix s [45])).1 (Ga [101,69] (Lib.trimPrefix s [45])).2.1:=by
    unfold Xa;simp only;rw[if_neg hc]
  rw[e1];have:=Pr [101,69] (Lib.trimPrefix s [45]) (by simpa using hc);simp[Ad,this]
theorem Bo{f g:UInt8->Bool}:∀{s:Str},s.all f=true->(s.dropWhile g).all f=true
  | [],_=>rfl
  | c :: s, h => by
    rw[List.dropWhile_cons];split
    ·simp only[List.all_cons, Bool.and_eq_true]at h
     exact Bo h.2
    exact h
theorem Ee(at_:Str):∀s:Str,(Ga at_ s).1.length<=s.length/\(Ga at_ s).2.1.length<=s.length
  | []=>by simp[Ga]
  | c :: r => by
    have:=Ee at_ r;unfold Ga;split
    ·simp
    simp;omega
theorem Fe(s p:Str):(Lib.trimPrefix s p).length<=s.length:=by
  unfold Lib.trimPrefix;split <;> simp
theorem Co(s:Str)(c:UInt8):(Lib.trimLeftB s c).length<=s.length:=by unfold Lib.trimLeftB;exact (List.dropWhile_sublist _).length_le
theorem Hv(s:Str)(c:UInt8):(Lib.trimRightB s c).length<=s.length:=by
  unfold Lib.trimRightB;rw[List.length_reverse];have:=(List.dropWhile_sublist (λx=>x==c) (l:=s.reverse)).length_le;simpa using this
theorem head?_get{s:Str}(h:0<s.length):s.head? = some s[0]:=by cases s <;> simp at h ⊢
theorem getLast?_get{s:Str}(h:s.length-1<s.length):s.getLast? = some s[s.length-1]:=by
  rw[List.getLast?_eq_getElem?];simp[h]
theorem OQ{a:UInt8}{n:Nat}(hn:n<256):((a.toNat:Int)=(n:Int))↔a=UInt8.ofNat n:=by
  constructor
  ·intro h
   have h':a.toNat=n:=by omega
   rw[<-h'];simp
  intro h;subst h;simp;omega
theorem B2{a:UInt8}:((a.toNat:Int)=48)↔a=48:=OQ (n:=48) Ca
theorem Ve{s:Str}(h:0<s.length):(((s[0]' h).toNat:Int)=48)↔s.head? = some 48:=by
  rw[head?_get h,B2];simp
theorem I2{x:Num}(h:x=Num.zero):Ae x=true:=by subst h;rfl
theorem F3{x:Num}(h0:¬x=Num.zero)(h:(!Pn x.digits)=true):Ae x=false:=by
  simp at h;simp[Ae,h0,h]
theorem W2{x:Num}(h0:¬x=Num.zero)(h:(1000:Int)<x.digits.length):Ae x=false:=by
  have:¬x.digits.length<=1000:=by omega
  simp[Ae,h0,this]
theorem O1{x:Num}(h0:¬x=Num.zero)(hl:0<x.digits.length)(h:((x.digits[0]' hl).toNat:Int)=48):Ae x=false:=by
  have:x.digits.head? = some 48:=by rw[head?_get hl,B2.1 h]
  simp[Ae,h0,this]
theorem G1{x:Num}(h0:¬x=Num.zero)(hl:x.digits.length-1<x.digits.length)(h:((x.digits[x.digits.length-1]' hl).toNat:Int)=48):Ae x=false:=by
  have:x.digits.getLast? = some 48:=by rw[getLast?_get hl,B2.1 h]
  simp[Ae,h0,this]
theorem Pt{x:Num}(h0:¬x=Num.zero)(h:(!Pn x.digits)=false)(h1:¬(1000:Int)<x.digits.length)(hl:0<x.digits.length)(h2:¬((x.digits[0]' hl).toNat:Int)=48)
    (hl':x.digits.length-1<x.digits.length) (h3:¬((x.digits[x.digits.length-1]' hl').toNat:Int)=48):Ae x=(decide (-1000000<=x.exp)&&decide (x.exp<=1000000)):=by
  have a1:x.digits.length<=1000:=by omega
  have a2:¬x.digits.head? = some 48:=by rw[head?_get hl];intro e;exact h2 (B2.2 (by injection e))
  have a3:¬x.digits.getLast? = some 48:=by rw[getLast?_get hl'];intro e;exact h3 (B2.2 (by injection e))
  simp at h;simp[Ae,h0,h,a1,a2,a3]
theorem Vc{x:Num}(h:Ae x=true):x.digits.length<=1000/\-1000000<=x.exp/\x.exp<=1000000:=by
  unfold Ae at h;simp only[Bool.or_eq_true,Bool.and_eq_true,decide_eq_true_eq]at h;rcases h with rfl|h
  ·decide
  omega
theorem WH{at_ s:Str}{q:Nat}(h:q<s.length)(hno:∀c∈s.take q,at_.contains c=false)(hq:at_.contains s[q]=false):∀c∈s.take (q+1),at_.contains c=false:=by
  rw[iQ h];intro c hc;rcases mQ.1 hc with hc|hc
  ·exact hno c hc
  simp only[pQ]at hc;rw[hc];exact hq
theorem Yn(s:Str)(c:UInt8):(0<=Lib.indexByte s c)↔s.contains c=true:=by
  induction s with
  | nil=>simp[Lib.indexByte]
  | cons a s ih =>
    unfold Lib.indexByte;by_cases h:a=c
    ·simp[h]
    have h' : ¬ c = a := λe => h e.symm;simp only[List.contains_cons,beq_iff_eq,Bool.or_eq_true,h',false_or,<-ih];have hb:(a==c)=false:=by simp[h]
    simp[hb,h];split <;> omega
theorem Xw{at_:Str}{c:UInt8}(h:¬(0:Int)<=Lib.indexByte at_ c):at_.contains c=false:=by
  rw[Bool.eq_false_iff];intro hh;exact h ((Yn _ _).2 hh)
theorem Zq{at_:Str}{c:UInt8}(h:(0:Int)<=Lib.indexByte at_ c):at_.contains c=true:=(Yn _ _).1 h
theorem Ky{at_:Str}:∀{s:Str},(∀c∈s,at_.contains c=false)->Ga at_ s=(s,[],false)
  | [],_=>rfl
  | c :: r, h => by
    unfold Ga;rw[if_neg (by rw[h c Pa];simp),Ky (λc hc=>h c (by simp[hc]))]
theorem Qx{at_:Str}:∀{s:Str}{q:Nat}(h:q<s.length),(∀c∈s.take q,at_.contains c=false)->at_.contains s[q]=true->Ga at_ s=(s.take q,s.drop (q+1),true)
  | [],_,h,_,_=>absurd h Pa
  | c :: r, 0, _, _, hc => by
    unfold Ga;rw[if_pos (by simpa using hc)];simp
  | c :: r, q + 1, h, hno, hc => by
    unfold Ga;rw[if_neg (by rw[hno c Pa];simp),Qx (q:=q) (by simpa using h) (λd hd=>hno d (by simp[hd])) (by simpa using hc)];simp
end Go.Scarf
