/- A part of the proof. -/
import Derived.Lib.ItoaNum
import Derived.Lib.Small
import Derived.Lib.ItoaLen
import Derived.Lib.Bytealg
import Derived.Lib.TrimByte
import Derived.Lib.Strings
import Derived.Laws.RangeAny
import Derived.Laws.RangeString
import Derived.Test.YtidlkjpohhbbcaaGreatDoorMem
set_option linter.all false
set_option maxHeartbeats 8000000
set_option maxRecDepth 10000
namespace Go.Scarf
structure Num where
  neg:Bool
  digits:Str
  exp:Int
deriving DecidableEq
def Num.zero:Num:=⟨false,[],0⟩
def Co(x:Num):Value:=.agg #[.bool x.neg,I x.digits,J x.exp]
def Bi(c:UInt8):Bool:=48<=c.toNat&&c.toNat<=57
def Sl(s:Str):Bool:=s.all Bi&&decide (s≠[])
theorem Tw(s:Str)(p:Nat)(h:p<s.length) :
    (¬((Utf8.decode (bs s) p).1:Int)<48/\¬(57:Int)<(Utf8.decode (bs s) p).1->Bi s[p]=true/\(Utf8.decode (bs s) p).2=1) /\
    (((Utf8.decode (bs s) p).1:Int)<48\/(57:Int)<(Utf8.decode (bs s) p).1->Bi s[p]=false):=by
  have hs:p<(bs s).size:=h;by_cases ha:(s[p]).toNat<128
  ·have hd := decode_ascii (bs s) p hs ha
   have e:((bs s)[p]' hs)=s[p]:=rfl;rw[e]at hd;rw[hd];unfold Bi;constructor
   ·rintro⟨h1, h2⟩
    simp only[Bool.and_eq_true,decide_eq_true_eq];exact⟨⟨by omega,by omega⟩,trivial⟩
   intro h1;simp only[Bool.and_eq_false_iff,decide_eq_false_iff_not];simp only at h1;omega
  have hd := decode_high (bs s) p hs (by show 128 <= (s[p]).toNat;omega);constructor
  ·rintro⟨h1, h2⟩
   omega
  intro _;unfold Bi;simp only[Bool.and_eq_false_iff,decide_eq_false_iff_not];omega
theorem Kw{f:UInt8->Bool}{s:Str}{p:Nat}(h:p<s.length)(ha:(s.take p).all f=true)(hp:f s[p]=true):(s.take (p+1)).all f=true:=by
  rw[iQ h,List.all_append,ha];simp[hp]
theorem Bs{f:UInt8->Bool}{s:Str}{p:Nat}(h:p<s.length)(hp:f s[p]=false):s.all f=false:=by
  rw[Bool.eq_false_iff];intro ha;have:=List.all_eq_true.1 ha s[p] (eQ h);rw[hp]at this;cases this
def Fe(x:Num):Bool :=
  decide (x=Num.zero) || (Sl x.digits&&decide (x.digits.length<=1000)&&decide (x.digits.head?≠some 48)&&decide (x.digits.getLast?≠some 48)&&decide (-1000000<=x.exp)&&decide (x.exp<=1000000))
def Gi(x:Num):Str :=
  if Fe x=false then [] else if x.digits=[] then [48] else
  (if x.neg then 45::x.digits else x.digits)++(if x.exp≠0 then 101::Lib.itoa x.exp else [])
def Pb(at_:Str):Str->Str × Str × Bool
  | []=>([],[],false)
  | c::r=>if at_.contains c then ([],r,true) else let x:=Pb at_ r;(c::x.1,x.2.1,x.2.2)
structure Lit where
  neg:Bool
  low:Bool
  whole:Str
  rest:Str
  exp:Str
deriving DecidableEq
def IR(x:Lit):Value:=.agg #[.bool x.neg,.bool x.low,I x.whole,I x.rest,I x.exp]
def Sm(neg low:Bool)(f e:Str):Lit × Bool :=
  let d:=Pb [46] f
  (⟨neg,low,d.1,d.2.1,e⟩,Sl d.1&&(!d.2.2 || Sl d.2.1)&&(decide (d.1=[48]) || decide (d.1.head?≠some 48)))
def Vb(s:Str):Lit × Bool :=
  let neg:=Lib.hasPrefix s [45]
  let c:=Pb [101,69] (Lib.trimPrefix s [45])
  if c.2.2 then
    let low:=Lib.hasPrefix c.2.1 [45]
    let e:=if low then Lib.trimPrefix c.2.1 [45] else Lib.trimPrefix (Lib.trimPrefix c.2.1 [45]) [43]
    if Sl e then Sm neg low c.1 e else (⟨neg,low,[],[],[]⟩,false)
  else Sm neg false c.1 c.2.1
def Zh(s:Str):Int:=s.foldl (λa c=>10*a+((c.toNat:Int)-48)) 0
def Uc(s:Str):Num × Int :=
  let r:=Vb s
  let x:=r.1
  let exp:=Lib.trimLeftB x.exp 48
  if r.2=false then (Num.zero,2) else
  if 1000<x.whole.length+x.rest.length then (Num.zero,3) else
  if 9<exp.length then (Num.zero,4) else
  let e:=if x.low then-Zh exp else Zh exp
  let d:=Lib.trimLeftB (x.whole++x.rest) 48
  if d=[] then (Num.zero,0) else
  let short:=Lib.trimRightB d 48
  let n:Num:=⟨x.neg,short,e-x.rest.length+d.length-short.length⟩
  if Fe n=false then (Num.zero,4) else (n,0)
theorem RF(s:Str)(c:UInt8):Zh (s++[c])=10*Zh s+((c.toNat:Int)-48):=by simp[Zh]
theorem I2(s:Str)(q:Nat)(h:q<s.length):Zh (s.take (q+1))=10*Zh (s.take q)+((s[q].toNat:Int)-48):=by
  rw[iQ h,RF]
theorem QB(s:Str)(ha:s.all Bi=true):0<=Zh s/\Zh s<10 ^ s.length:=by
  have key:∀q,q<=s.length->0<=Zh (s.take q)/\Zh (s.take q)<10 ^ q:=by
    intro q
    induction q with
    | zero=>intro _;simp[Zh]
    | succ q ih =>
      intro hq;obtain⟨h1,h2⟩:=ih Aa;have hc:=List.all_eq_true.1 ha s[q] (eQ Aa);unfold Bi at hc;simp only[Bool.and_eq_true,decide_eq_true_eq]at hc;rw[I2 s q Aa,Int.pow_succ];omega
  have:=key s.length (gQ _)
  rwa [List.take_length]at this
theorem G_(s:Str)(ha:s.all Bi=true)(hl:s.length<=9):0<=Zh s/\Zh s<1000000000:=by
  obtain⟨h1,h2⟩:=QB s ha;refine⟨h1,?_⟩;have h3:(10:Int) ^ s.length<=10 ^ 9:=by
    have:=Nat.pow_le_pow_right (n:=10) Aa hl;have h4:((10 ^ s.length:Nat):Int)<=((10 ^ 9:Nat):Int):=by omega
    simpa using h4
  have:(10:Int) ^ 9=1000000000:=by decide
  omega
theorem ID(s:Str)(p:Nat)(h:p<s.length)(hd:Bi s[p]=true):Utf8.decode (bs s) p=(s[p].toNat,1):=by
  have hs:p<(bs s).size:=h;have:=decode_ascii (bs s) p hs (by
    show (s[p]).toNat<128;unfold Bi at hd;simp only[Bool.and_eq_true,decide_eq_true_eq]at hd;omega)
  exact this
theorem digs_all{s:Str}(h:Sl s=true):s.all Bi=true:=by unfold Sl at h;simp only[Bool.and_eq_true]at h;exact h.1
theorem Pv{s:Str}(h:Sl s=true):s≠[]:=by unfold Sl at h;simp only[Bool.and_eq_true,decide_eq_true_eq]at h;exact h.2
theorem D2(at_:Str):∀s:Str,(Pb at_ s).2.2=false->(Pb at_ s).2.1=[]
  | [],_=>rfl
  | c :: r, h => by
    unfold Pb at h ⊢;split at h
    ·cases h
    rename_i hc
    rw[if_neg hc];exact D2 at_ r h
theorem VT{s:Str}(h:(Vb s).2=true):(Vb s).1.exp.all Bi=true:=by
  by_cases hc:(Pb [101,69] (Lib.trimPrefix s [45])).2.2=true
  ·have e1:Vb s=(let c:=Pb [101,69] (Lib.trimPrefix s [45])
       let low:=Lib.hasPrefix c.2.1 [45]
       let e:=if low then Lib.trimPrefix c.2.1 [45] else Lib.trimPrefix (Lib.trimPrefix c.2.1 [45]) [43]
       if Sl e then Sm (Lib.hasPrefix s [45]) low c.1 e else (⟨Lib.hasPrefix s [45],low,[],[],[]⟩,false)):=by
     unfold Vb;simp only;rw[if_pos hc]
   rw[e1]at h ⊢;simp only at h ⊢;generalize (if Lib.hasPrefix (Pb [101,69] (Lib.trimPrefix s [45])).2.1 [45]=true then Lib.trimPrefix (Pb [101,69] (Lib.trimPrefix s [45])).2.1 [45] else Lib.trimPrefix (Lib.trimPrefix (Pb [101,69] (Lib.trimPrefix s [45])).2.1 [45]) [43])=e at h ⊢;by_cases hd:Sl e=true
   ·rw[if_pos hd];exact digs_all hd
   rw[if_neg hd]at h;cases h
  have e1:Vb s=Sm (Lib.hasPrefix s [45]) false (Pb [101,69] (Lib.trimPrefix s [45])).1 (Pb [101,69] (Lib.trimPrefix s [45])).2.1:=by
    unfold Vb;simp only;rw[if_neg hc]
  rw[e1];have:=D2 [101,69] (Lib.trimPrefix s [45]) (by simpa using hc);simp[Sm,this]
theorem Qw{f g:UInt8->Bool}:∀{s:Str},s.all f=true->(s.dropWhile g).all f=true
  | [],_=>rfl
  | c :: s, h => by
    rw[List.dropWhile_cons];split
    ·simp only[List.all_cons, Bool.and_eq_true]at h
     exact Qw h.2
    exact h
theorem Kj(at_:Str):∀s:Str,(Pb at_ s).1.length<=s.length/\(Pb at_ s).2.1.length<=s.length
  | []=>by simp[Pb]
  | c :: r => by
    have:=Kj at_ r;unfold Pb;split
    ·simp
    simp;omega
theorem Rj(s p:Str):(Lib.trimPrefix s p).length<=s.length:=by
  unfold Lib.trimPrefix;split <;> simp
theorem Hw(s:Str)(c:UInt8):(Lib.trimLeftB s c).length<=s.length:=by unfold Lib.trimLeftB;exact (List.dropWhile_sublist _).length_le
theorem Q4(s:Str)(c:UInt8):(Lib.trimRightB s c).length<=s.length:=by
  unfold Lib.trimRightB;rw[List.length_reverse];have:=(List.dropWhile_sublist (λx=>x==c) (l:=s.reverse)).length_le;simpa using this
theorem head?_get{s:Str}(h:0<s.length):s.head? = some s[0]:=by cases s <;> simp at h ⊢
theorem getLast?_get{s:Str}(h:s.length-1<s.length):s.getLast? = some s[s.length-1]:=by
  rw[List.getLast?_eq_getElem?];simp[h]
theorem u8_eq{a:UInt8}{n:Nat}(hn:n<256):((a.toNat:Int)=(n:Int))↔a=UInt8.ofNat n:=by
  constructor
  ·intro h
   have h':a.toNat=n:=by omega
   rw[<-h'];simp
  intro h;subst h;simp;omega
theorem BI{a:UInt8}:((a.toNat:Int)=48)↔a=48:=u8_eq (n:=48) Aa
theorem GN{s:Str}(h:0<s.length):(((s[0]' h).toNat:Int)=48)↔s.head? = some 48:=by
  rw[head?_get h,BI];simp
theorem XE{x:Num}(h:x=Num.zero):Fe x=true:=by subst h;rfl
theorem KH{x:Num}(h0:¬x=Num.zero)(h:(!Sl x.digits)=true):Fe x=false:=by
  simp at h;simp[Fe,h0,h]
theorem BF{x:Num}(h0:¬x=Num.zero)(h:(1000:Int)<x.digits.length):Fe x=false:=by
  have:¬x.digits.length<=1000:=by omega
  simp[Fe,h0,this]
theorem QH{x:Num}(h0:¬x=Num.zero)(hl:0<x.digits.length)(h:((x.digits[0]' hl).toNat:Int)=48):Fe x=false:=by
  have:x.digits.head? = some 48:=by rw[head?_get hl,BI.1 h]
  simp[Fe,h0,this]
theorem XI{x:Num}(h0:¬x=Num.zero)(hl:x.digits.length-1<x.digits.length)(h:((x.digits[x.digits.length-1]' hl).toNat:Int)=48):Fe x=false:=by
  have:x.digits.getLast? = some 48:=by rw[getLast?_get hl,BI.1 h]
  simp[Fe,h0,this]
theorem R5{x:Num}(h0:¬x=Num.zero)(h:(!Sl x.digits)=false)(h1:¬(1000:Int)<x.digits.length)(hl:0<x.digits.length)(h2:¬((x.digits[0]' hl).toNat:Int)=48)
    (hl':x.digits.length-1<x.digits.length) (h3:¬((x.digits[x.digits.length-1]' hl').toNat:Int)=48):Fe x=(decide (-1000000<=x.exp)&&decide (x.exp<=1000000)):=by
  have a1:x.digits.length<=1000:=by omega
  have a2:¬x.digits.head? = some 48:=by rw[head?_get hl];intro e;exact h2 (BI.2 (by injection e))
  have a3:¬x.digits.getLast? = some 48:=by rw[getLast?_get hl'];intro e;exact h3 (BI.2 (by injection e))
  simp at h;simp[Fe,h0,h,a1,a2,a3]
theorem Xd{x:Num}(h:Fe x=true):x.digits.length<=1000/\-1000000<=x.exp/\x.exp<=1000000:=by
  unfold Fe at h;simp only[Bool.or_eq_true,Bool.and_eq_true,decide_eq_true_eq]at h;rcases h with rfl|h
  ·decide
  omega
theorem take_no{at_ s:Str}{q:Nat}(h:q<s.length)(hno:∀c∈s.take q,at_.contains c=false)(hq:at_.contains s[q]=false):∀c∈s.take (q+1),at_.contains c=false:=by
  rw[iQ h];intro c hc;rcases mQ.1 hc with hc|hc
  ·exact hno c hc
  simp only[pQ]at hc;rw[hc];exact hq
theorem Cw(s:Str)(c:UInt8):(0<=Lib.indexByte s c)↔s.contains c=true:=by
  induction s with
  | nil=>simp[Lib.indexByte]
  | cons a s ih =>
    unfold Lib.indexByte;by_cases h:a=c
    ·simp[h]
    have h' : ¬ c = a := λe => h e.symm;simp only[List.contains_cons,beq_iff_eq,Bool.or_eq_true,h',false_or,<-ih];have hb:(a==c)=false:=by simp[h]
    simp[hb,h];split <;> omega
theorem S8{at_:Str}{c:UInt8}(h:¬(0:Int)<=Lib.indexByte at_ c):at_.contains c=false:=by
  rw[Bool.eq_false_iff];intro hh;exact h ((Cw _ _).2 hh)
theorem Mr{at_:Str}{c:UInt8}(h:(0:Int)<=Lib.indexByte at_ c):at_.contains c=true:=(Cw _ _).1 h
theorem Z9{at_:Str}:∀{s:Str},(∀c∈s,at_.contains c=false)->Pb at_ s=(s,[],false)
  | [],_=>rfl
  | c :: r, h => by
    unfold Pb;rw[if_neg (by rw[h c La];simp),Z9 (λc hc=>h c (by simp[hc]))]
theorem F9{at_:Str}:∀{s:Str}{q:Nat}(h:q<s.length),(∀c∈s.take q,at_.contains c=false)->at_.contains s[q]=true->Pb at_ s=(s.take q,s.drop (q+1),true)
  | [],_,h,_,_=>absurd h La
  | c :: r, 0, _, _, hc => by
    unfold Pb;rw[if_pos (by simpa using hc)];simp
  | c :: r, q + 1, h, hno, hc => by
    unfold Pb;rw[if_neg (by rw[hno c La];simp),F9 (q:=q) (by simpa using h) (λd hd=>hno d (by simp[hd])) (by simpa using hc)];simp
end Go.Scarf
