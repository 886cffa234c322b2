/- A part of the proof. -/
import Derived.Lib.ItoaNum
import Derived.Lib.Small
import Derived.Lib.ItoaLen
import Derived.Lib.Bytealg
import Derived.Lib.TrimByte
import Derived.Lib.Strings
import Derived.Laws.RangeAny
import Derived.Laws.RangeString
import Derived.Test.YtbhneplafiapdaaGreatDoorMem
set_option linter.all false
set_option maxHeartbeats 8000000
set_option maxRecDepth 10000
namespace Go.Scarf
structure Num where
  neg:Bool
  digits:Str
  exp:Int
deriving DecidableEq
def Num.zero:Num:=⟨false,[],0⟩
def Kj(x:Num):Value:=.agg #[.bool x.neg,I x.digits,J x.exp]
def Rd(c:UInt8):Bool:=48<=c.toNat&&c.toNat<=57
def Bg(s:Str):Bool:=s.all Rd&&decide (s≠[])
theorem Ct(s:Str)(p:Nat)(h:p<s.length) :
    (¬((Utf8.decode (bs s) p).1:Int)<48/\¬(57:Int)<(Utf8.decode (bs s) p).1->Rd s[p]=true/\(Utf8.decode (bs s) p).2=1) /\
    (((Utf8.decode (bs s) p).1:Int)<48\/(57:Int)<(Utf8.decode (bs s) p).1->Rd s[p]=false):=by
  have hs:p<(bs s).size:=h;by_cases ha:(s[p]).toNat<128
  ·have hd := decode_ascii (bs s) p hs ha
   have e:((bs s)[p]' hs)=s[p]:=rfl;rw[e]at hd;rw[hd];unfold Rd;constructor
   ·rintro⟨h1, h2⟩
    simp only[Bool.and_eq_true,decide_eq_true_eq];exact⟨⟨by omega,by omega⟩,trivial⟩
   intro h1;simp only[Bool.and_eq_false_iff,decide_eq_false_iff_not];simp only at h1;omega
  have hd := decode_high (bs s) p hs (by show 128 <= (s[p]).toNat;omega);constructor
  ·rintro⟨h1, h2⟩
   omega
  intro _;unfold Rd;simp only[Bool.and_eq_false_iff,decide_eq_false_iff_not];omega
theorem Mr{f:UInt8->Bool}{s:Str}{p:Nat}(h:p<s.length)(ha:(s.take p).all f=true)(hp:f s[p]=true):(s.take (p+1)).all f=true:=by
  rw[iQ h,List.all_append,ha];simp[hp]
theorem Rs{f:UInt8->Bool}{s:Str}{p:Nat}(h:p<s.length)(hp:f s[p]=false):s.all f=false:=by
  rw[Bool.eq_false_iff];intro ha;have:=List.all_eq_true.1 ha s[p] (eQ h);rw[hp]at this;cases this
def Ad(x:Num):Bool :=
  decide (x=Num.zero) || (Bg x.digits&&decide (x.digits.length<=1000)&&decide (x.digits.head?≠some 48)&&decide (x.digits.getLast?≠some 48)&&decide (-1000000<=x.exp)&&decide (x.exp<=1000000))
def Oi(x:Num):Str :=
  if Ad x=false then [] else if x.digits=[] then [48] else
  (if x.neg then 45::x.digits else x.digits)++(if x.exp≠0 then 101::Lib.itoa x.exp else [])
def Oa(at_:Str):Str->Str × Str × Bool
  | []=>([],[],false)
  | c::r=>if at_.contains c then ([],r,true) else let x:=Oa at_ r;(c::x.1,x.2.1,x.2.2)
structure Lit where
  neg:Bool
  low:Bool
  whole:Str
  rest:Str
  exp:Str
deriving DecidableEq
def Bn(x:Lit):Value:=.agg #[.bool x.neg,.bool x.low,I x.whole,I x.rest,I x.exp]
def Td(neg low:Bool)(f e:Str):Lit × Bool :=
  let d:=Oa [46] f
  (⟨neg,low,d.1,d.2.1,e⟩,Bg d.1&&(!d.2.2 || Bg d.2.1)&&(decide (d.1=[48]) || decide (d.1.head?≠some 48)))
def Cb(s:Str):Lit × Bool :=
  let neg:=Lib.hasPrefix s [45]
  let c:=Oa [101,69] (Lib.trimPrefix s [45])
  if c.2.2 then
    let low:=Lib.hasPrefix c.2.1 [45]
    let e:=if low then Lib.trimPrefix c.2.1 [45] else Lib.trimPrefix (Lib.trimPrefix c.2.1 [45]) [43]
    if Bg e then Td neg low c.1 e else (⟨neg,low,[],[],[]⟩,false)
  else Td neg false c.1 c.2.1
def Yc(s:Str):Int:=s.foldl (λa c=>10*a+((c.toNat:Int)-48)) 0
def Dd(s:Str):Num × Int :=
  let r:=Cb s
  let x:=r.1
  let exp:=Lib.trimLeftB x.exp 48
  if r.2=false then (Num.zero,2) else
  if 1000<x.whole.length+x.rest.length then (Num.zero,3) else
  if 9<exp.length then (Num.zero,4) else
  let e:=if x.low then-Yc exp else Yc exp
  let d:=Lib.trimLeftB (x.whole++x.rest) 48
  if d=[] then (Num.zero,0) else
  let short:=Lib.trimRightB d 48
  let n:Num:=⟨x.neg,short,e-x.rest.length+d.length-short.length⟩
  if Ad n=false then (Num.zero,4) else (n,0)
theorem H8(s:Str)(c:UInt8):Yc (s++[c])=10*Yc s+((c.toNat:Int)-48):=by simp[Yc]
theorem Fk(s:Str)(q:Nat)(h:q<s.length):Yc (s.take (q+1))=10*Yc (s.take q)+((s[q].toNat:Int)-48):=by
  rw[iQ h,H8]
theorem Jt(s:Str)(ha:s.all Rd=true):0<=Yc s/\Yc s<10 ^ s.length:=by
  have key:∀q,q<=s.length->0<=Yc (s.take q)/\Yc (s.take q)<10 ^ q:=by
    intro q
    induction q with
    | zero=>intro _;simp[Yc]
    | succ q ih =>
      intro hq;obtain⟨h1,h2⟩:=ih U;have hc:=List.all_eq_true.1 ha s[q] (eQ U);unfold Rd at hc;simp only[Bool.and_eq_true,decide_eq_true_eq]at hc;rw[Fk s q U,Int.pow_succ];omega
  have:=key s.length (gQ _)
  rwa [List.take_length]at this
theorem Uq(s:Str)(ha:s.all Rd=true)(hl:s.length<=9):0<=Yc s/\Yc s<1000000000:=by
  obtain⟨h1,h2⟩:=Jt s ha;refine⟨h1,?_⟩;have h3:(10:Int) ^ s.length<=10 ^ 9:=by
    have:=Nat.pow_le_pow_right (n:=10) U hl;have h4:((10 ^ s.length:Nat):Int)<=((10 ^ 9:Nat):Int):=by omega
    simpa using h4
  have:(10:Int) ^ 9=1000000000:=by decide
  omega
theorem W4(s:Str)(p:Nat)(h:p<s.length)(hd:Rd s[p]=true):Utf8.decode (bs s) p=(s[p].toNat,1):=by
  have hs:p<(bs s).size:=h;have:=decode_ascii (bs s) p hs (by
    show (s[p]).toNat<128;unfold Rd at hd;simp only[Bool.and_eq_true,decide_eq_true_eq]at hd;omega)
  exact this
theorem Oq{s:Str}(h:Bg s=true):s.all Rd=true:=by unfold Bg at h;simp only[Bool.and_eq_true]at h;exact h.1
theorem Bf{s:Str}(h:Bg s=true):s≠[]:=by unfold Bg at h;simp only[Bool.and_eq_true,decide_eq_true_eq]at h;exact h.2
theorem Nm(at_:Str):∀s:Str,(Oa at_ s).2.2=false->(Oa at_ s).2.1=[]
  | [],_=>rfl
  | c :: r, h => by
    unfold Oa at h ⊢;split at h
    ·cases h
    rename_i hc
    rw[if_neg hc];exact Nm at_ r h
theorem YG{s:Str}(h:(Cb s).2=true):(Cb s).1.exp.all Rd=true:=by
  by_cases hc:(Oa [101,69] (Lib.trimPrefix s [45])).2.2=true
  ·have e1:Cb s=(let c:=Oa [101,69] (Lib.trimPrefix s [45])
       let low:=Lib.hasPrefix c.2.1 [45]
       let e:=if low then Lib.trimPrefix c.2.1 [45] else Lib.trimPrefix (Lib.trimPrefix c.2.1 [45]) [43]
       if Bg e then Td (Lib.hasPrefix s [45]) low c.1 e else (⟨Lib.hasPrefix s [45],low,[],[],[]⟩,false)):=by
     unfold Cb;simp only;rw[if_pos hc]
   rw[e1]at h ⊢;simp only at h ⊢;generalize (if Lib.hasPrefix (Oa [101,69] (Lib.trimPrefix s [45])).2.1 [45]=true then Lib.trimPrefix (Oa [101,69] (Lib.trimPrefix s [45])).2.1 [45] else Lib.trimPrefix (Lib.trimPrefix (Oa [101,69] (Lib.trimPrefix s [45])).2.1 [45]) [43])=e at h ⊢;by_cases hd:Bg e=true
   ·rw[if_pos hd];exact Oq hd
   rw[if_neg hd]at h;cases h
  have e1:Cb s=Td (Lib.hasPrefix s [45]) false (Oa [101,69] (Lib.trimPrefix s [45])).1 (Oa [101,69] (Lib.trimPrefix s [45])).2.1:=by
    unfold Cb;simp only;rw[if_neg hc]
  rw[e1];have:=Nm [101,69] (Lib.trimPrefix s [45]) (by simpa using hc);simp[Td,this]
theorem Rr{f g:UInt8->Bool}:∀{s:Str},s.all f=true->(s.dropWhile g).all f=true
  | [],_=>rfl
  | c :: s, h => by
    rw[List.dropWhile_cons];split
    ·simp only[List.all_cons, Bool.and_eq_true]at h
     exact Rr h.2
    exact h
theorem Re(at_:Str):∀s:Str,(Oa at_ s).1.length<=s.length/\(Oa at_ s).2.1.length<=s.length
  | []=>by simp[Oa]
  | c :: r => by
    have:=Re at_ r;unfold Oa;split
    ·simp
    simp;omega
theorem Mf(s p:Str):(Lib.trimPrefix s p).length<=s.length:=by
  unfold Lib.trimPrefix;split <;> simp
theorem Nr(s:Str)(c:UInt8):(Lib.trimLeftB s c).length<=s.length:=by unfold Lib.trimLeftB;exact (List.dropWhile_sublist _).length_le
theorem G1(s:Str)(c:UInt8):(Lib.trimRightB s c).length<=s.length:=by
  unfold Lib.trimRightB;rw[List.length_reverse];have:=(List.dropWhile_sublist (λx=>x==c) (l:=s.reverse)).length_le;simpa using this
theorem head?_get{s:Str}(h:0<s.length):s.head? = some s[0]:=by cases s <;> simp at h ⊢
theorem getLast?_get{s:Str}(h:s.length-1<s.length):s.getLast? = some s[s.length-1]:=by
  rw[List.getLast?_eq_getElem?];simp[h]
theorem SE{a:UInt8}{n:Nat}(hn:n<256):((a.toNat:Int)=(n:Int))↔a=UInt8.ofNat n:=by
  constructor
  ·intro h
   have h':a.toNat=n:=by omega
   rw[<-h'];simp
  intro h;subst h;simp;omega
theorem Mq{a:UInt8}:((a.toNat:Int)=48)↔a=48:=SE (n:=48) U
theorem Hg{s:Str}(h:0<s.length):(((s[0]' h).toNat:Int)=48)↔s.head? = some 48:=by
  rw[head?_get h,Mq];simp
theorem Kw{x:Num}(h:x=Num.zero):Ad x=true:=by subst h;rfl
theorem Nw{x:Num}(h0:¬x=Num.zero)(h:(!Bg x.digits)=true):Ad x=false:=by
  simp at h;simp[Ad,h0,h]
theorem Ow{x:Num}(h0:¬x=Num.zero)(h:(1000:Int)<x.digits.length):Ad x=false:=by
  have:¬x.digits.length<=1000:=by omega
  simp[Ad,h0,this]
theorem Xw{x:Num}(h0:¬x=Num.zero)(hl:0<x.digits.length)(h:((x.digits[0]' hl).toNat:Int)=48):Ad x=false:=by
  have:x.digits.head? = some 48:=by rw[head?_get hl,Mq.1 h]
  simp[Ad,h0,this]
theorem Sw{x:Num}(h0:¬x=Num.zero)(hl:x.digits.length-1<x.digits.length)(h:((x.digits[x.digits.length-1]' hl).toNat:Int)=48):Ad x=false:=by
  have:x.digits.getLast? = some 48:=by rw[getLast?_get hl,Mq.1 h]
  simp[Ad,h0,this]
theorem Nl{x:Num}(h0:¬x=Num.zero)(h:(!Bg x.digits)=false)(h1:¬(1000:Int)<x.digits.length)(hl:0<x.digits.length)(h2:¬((x.digits[0]' hl).toNat:Int)=48)
    (hl':x.digits.length-1<x.digits.length) (h3:¬((x.digits[x.digits.length-1]' hl').toNat:Int)=48):Ad x=(decide (-1000000<=x.exp)&&decide (x.exp<=1000000)):=by
  have a1:x.digits.length<=1000:=by omega
  have a2:¬x.digits.head? = some 48:=by rw[head?_get hl];intro e;exact h2 (Mq.2 (by injection e))
  have a3:¬x.digits.getLast? = some 48:=by rw[getLast?_get hl'];intro e;exact h3 (Mq.2 (by injection e))
  simp at h;simp[Ad,h0,h,a1,a2,a3]
theorem Wc{x:Num}(h:Ad x=true):x.digits.length<=1000/\-1000000<=x.exp/\x.exp<=1000000:=by
  unfold Ad at h;simp only[Bool.or_eq_true,Bool.and_eq_true,decide_eq_true_eq]at h;rcases h with rfl|h
  ·decide
  omega
theorem It{at_ s:Str}{q:Nat}(h:q<s.length)(hno:∀c∈s.take q,at_.contains c=false)(hq:at_.contains s[q]=false):∀c∈s.take (q+1),at_.contains c=false:=by
  rw[iQ h];intro c hc;rcases mQ.1 hc with hc|hc
  ·exact hno c hc
  simp only[pQ]at hc;rw[hc];exact hq
theorem Jr(s:Str)(c:UInt8):(0<=Lib.indexByte s c)↔s.contains c=true:=by
  induction s with
  | nil=>simp[Lib.indexByte]
  | cons a s ih =>
    unfold Lib.indexByte;by_cases h:a=c
    ·simp[h]
    have h' : ¬ c = a := λe => h e.symm;simp only[List.contains_cons,beq_iff_eq,Bool.or_eq_true,h',false_or,<-ih];have hb:(a==c)=false:=by simp[h]
    simp[hb,h];split <;> omega
theorem R2{at_:Str}{c:UInt8}(h:¬(0:Int)<=Lib.indexByte at_ c):at_.contains c=false:=by
  rw[Bool.eq_false_iff];intro hh;exact h ((Jr _ _).2 hh)
theorem Tu{at_:Str}{c:UInt8}(h:(0:Int)<=Lib.indexByte at_ c):at_.contains c=true:=(Jr _ _).1 h
theorem Zu{at_:Str}:∀{s:Str},(∀c∈s,at_.contains c=false)->Oa at_ s=(s,[],false)
  | [],_=>rfl
  | c :: r, h => by
    unfold Oa;rw[if_neg (by rw[h c Ua];simp),Zu (λc hc=>h c (by simp[hc]))]
theorem Zv{at_:Str}:∀{s:Str}{q:Nat}(h:q<s.length),(∀c∈s.take q,at_.contains c=false)->at_.contains s[q]=true->Oa at_ s=(s.take q,s.drop (q+1),true)
  | [],_,h,_,_=>absurd h Ua
  | c :: r, 0, _, _, hc => by
    unfold Oa;rw[if_pos (by simpa using hc)];simp
  | c :: r, q + 1, h, hno, hc => by
    unfold Oa;rw[if_neg (by rw[hno c Ua];simp),Zv (q:=q) (by simpa using h) (λd hd=>hno d (by simp[hd])) (by simpa using hc)];simp
end Go.Scarf
