/- A part of the proof. -/
import Derived.Test.YteedfdfinodcaaaGreatDoorP3
import Derived.Lib.ParseIntBCases
import Derived.Sort.Walk0
import Derived.Laws.Slices
set_option linter.all false
set_option maxHeartbeats 8000000
set_option maxRecDepth 10000
set_option synthInstance.maxHeartbeats 0
set_option synthInstance.maxSize 9999
namespace Go.Scarf
open List renaming length->aL
open Go.RowKit Go.Proofs Go.Proofs.Tryz
variable {E d exp l rest s t whole:Str}{b minus neg:Bool}{e i m n:Nat}{x:Num}{ks ks':List Str}{k:Int}{A:Option Addr}
def Iv(s:Str):Mg s 45=Lib.hasPrefix s [45]:=SN s 45
def headI_43(s:Str):Mg s 43=Lib.hasPrefix s [43]:=SN s 43
def Y5(s:Str)(c:UInt8):Lib.trimPrefix s [c]=if Lib.hasPrefix s [c]=true then s.drop 1 else s:=rfl
theorem head_bZ{W:Str}(h:Df W=true):decide (¬bZ W 0=48)=decide (W.head?≠some 48):=by
  have hp:=List.length_pos_iff.2<|Nj h;rw[<-Pi hp];grind [XJ]
def VT{ok:Bool}(h:Parts s neg whole rest minus exp ok) :
    ok=(Xa s).2/\(ok=true->neg=(Xa s).1.neg/\whole=(Xa s).1.whole/\rest=(Xa s).1.rest/\minus=(Xa s).1.low/\Lib.trimLeftB exp 48=Lib.trimLeftB (Xa s).1.exp 48/\Df exp=true/\Df whole=true/\rest.all Md=true):=by
  obtain⟨s1,W,Z,R1,f,g,rfl,rfl,hc,hd,rfl,rfl,rfl,rfl,rfl⟩:=h.h;have e1:(if Mg s 45=true then s.drop 1 else s)=Lib.trimPrefix s [45]:=by rw[Y5,Iv]
  rw[e1]at hc hd;have h2:(Za [101,69]<|Lib.trimPrefix s [45]).2.1=Z:=by rw[hc]
  have h3:(Za [101,69]<|Lib.trimPrefix s [45]).2.2=f:=by rw[hc]
  have g1:(Za [46] (Za [101,69]<|Lib.trimPrefix s [45]).1).1=whole:=by rw[hd]
  have g2:(Za [46] (Za [101,69]<|Lib.trimPrefix s [45]).1).2.1=R1:=by rw[hd]
  have g3:(Za [46] (Za [101,69]<|Lib.trimPrefix s [45]).1).2.2=g:=by rw[hd]
  have hr:R1=if g=true then R1 else []:=by
    cases g with
    | true=>rfl
    | false =>
      rw[<-g2];exact Ir [46] _ g3
  have he:∀(neg low:Bool)(e:Str),Gk neg low (Za [101,69]<|Lib.trimPrefix s [45]).1 e=(⟨neg,low,whole,R1,e⟩,Df whole&&(!g || Df R1)&&(decide (whole=[48]) || decide (whole.head?≠some 48))):=by
    intro neg low e;simp only[Gk,g1,g2,g3]
  have hk:∀e:Str,Df e=true->okR whole (if g=true then R1 else [48]) e=(Df whole&&(!g || Df R1)&&(decide (whole=[48]) || decide (whole.head?≠some 48))):=by
    intro e he;unfold okR;rw[he,Bool.true_and];by_cases hw:Df whole=true
    ·rw[head_bZ hw, hw, Bool.true_and, Bool.true_and]
     cases g with
     | true=>rfl
     | false =>
       have:Df [48]=true:=Ra
       simp[this]
    rw[Bool.not_eq_true]at hw;rw[hw];simp
  have hok:∀e:Str,okR whole (if g=true then R1 else [48]) e=true->Df e=true/\Df whole=true/\(if g=true then R1 else []).all Md=true:=by
    intro e h;unfold okR at h;simp only[vQ]at h;refine⟨h.2.2.1,h.1,?_⟩;cases g with
    | true=>exact Nw h.2.1
    | false=>rfl
  have ht:∀e:Str,Df e=false->okR whole (if g=true then R1 else [48]) e=false:=by
    intro e h;unfold okR;rw[h];simp
  cases f with
  | true =>
    have hex:Du true Z=(if Lib.hasPrefix Z [45] then Lib.trimPrefix Z [45] else Lib.trimPrefix (Lib.trimPrefix Z [45]) [43]):=by
      rw[Du,uQ rfl,Iv,headI_43,Y5 Z 45];by_cases h1:Lib.hasPrefix Z [45]=true
      ·simp[h1]
      simp only[h1, if_false, false_or];rw[Y5];simp
    have er:Xa s=if Df (Du true Z)=true then Gk (Lib.hasPrefix s [45]) (Lib.hasPrefix Z [45]) (Za [101,69]<|Lib.trimPrefix s [45]).1 (Du true Z) else (⟨Lib.hasPrefix s [45],Lib.hasPrefix Z [45],[],[],[]⟩,false):=by
      unfold Xa;simp only;rw[uQ h3,h2,hex]
    by_cases hx:Df (Du true Z)=true
    ·rw[uQ hx, he]at er
     rw[er];refine⟨hk _ hx,λh=>⟨Iv s,O,hr.symm,by rw[Bool.true_and,Iv],O,hok _ h⟩⟩
    rw[tQ hx]at er;rw[Bool.not_eq_true]at hx;rw[er];refine⟨ht _ hx,λh=>?_⟩;rw[ht _ hx]at h;cases h
  | false =>
    have hz:Z=[]:=by rw[<-h2];exact Ir [101,69] _ h3
    have er:Xa s=Gk (Lib.hasPrefix s [45]) false (Za [101,69]<|Lib.trimPrefix s [45]).1 Z:=by
      unfold Xa;simp only;rw[tQ (by rw[h3];decide),h2]
    have hx:Df (Du false Z)=true:=by rw[Du,tQ Ra];decide
    rw[he]at er;rw[er];refine⟨hk _ hx,λh=>⟨Iv s,O,hr.symm,O,?_,hok _ h⟩⟩;subst hz;rw[Du,tQ Ra];rfl
def UZ{ok:Bool}(h:Parts s neg whole rest minus exp ok):aL whole<=aL s/\aL rest<=aL s/\aL exp<=aL s+1:=by
  obtain⟨s1,W,Z,R1,f,g,rfl,rfl,hc,hd,rfl,rfl,rfl,rfl,rfl⟩:=h.h;have h1:aL (if Mg s 45=true then s.drop 1 else s)<=aL s:=by split <;> simp
  have h2:=Mh [101,69] (if Mg s 45=true then s.drop 1 else s);have h3:=Mh [46] (Za [101,69] (if Mg s 45=true then s.drop 1 else s)).1;rw[hd]at h3;have h4:aL Z<=aL s:=by rw[hc]at h2;exact fQ h2.2 h1
  refine⟨fQ h3.1<|fQ h2.1 h1,?_,?_⟩
  ·split
   ·exact fQ h3.2<|fQ h2.1 h1
   exact cZ _
  unfold Du;split
  ·split
   ·simp
    omega
   omega
  simp
theorem XA(c:UInt8)(s:Str):Lib.trimLeftB (c::s) 48=if c=48 then Lib.trimLeftB s 48 else c::s:=by
  unfold Lib.trimLeftB;rw[List.dropWhile_cons];grind
theorem Fz(h:0<aL E)(h0:bZ E 0=48):Lib.trimLeftB (E.drop 1) 48=Lib.trimLeftB E 48:=by
  rw[<-Pi h]at h0;cases E with
  | nil=>simp at h
  | cons c s=>grind [Wx,XA]
theorem Ly(h:0<aL E)(h0:¬bZ E 0=48):Lib.trimLeftB E 48=E:=by
  rw[<-Pi h]at h0;cases E with
  | nil=>simp at h
  | cons c s=>grind [Wx,XA]
theorem TK(h:E.all Md=true):(E.drop 1).all Md=true:=qK
theorem Rw(h:0<aL E)(h1:aL E<=1\/¬bZ E 0=48):Jc E=Jc (Lib.trimLeftB E 48)/\((9:Int)<(aL E:Int)↔9<aL (Lib.trimLeftB E 48)):=by
  by_cases h0:bZ E 0=48
  ·have h2 : (aL E) = 1 := by grind
   rw[<-Fz h h0]
   match E,h2 with
   | [c], _ =>
     rw[<-Pi (s:=[c]) (p:=0) Da]at h0;have:c=48:=Wx.1 h0;subst this;simp[Lib.trimLeftB,Jc]
  grind [Ly]
theorem ET(l:Str)(a:UInt8):Lib.trimRightB (l++[a]) 48=if a=48 then Lib.trimRightB l 48 else l++[a]:=by
  unfold Lib.trimRightB;rw[List.reverse_append];simp only[List.reverse_cons,List.reverse_nil,lZ,List.cons_append,List.dropWhile_cons];grind
theorem L_(h1:1<=m)(h2:m<=aL d):Lib.trimRightB (d.take m) 48=if bZ (d.take m) (m-1)=48 then Lib.trimRightB (d.take (m-1)) 48 else d.take m:=by
  have h3:m-1<aL d:=by_Om
  have e:d.take m=d.take (m-1)++[d[m-1]]:=qB
  have h4:bZ (d.take m) (m-1)=((d[m-1].toNat:Nat):Int):=by
    rw[<-Pi qP];simp
  grind [ET,Wx]
def F8(h:i<m)(h2:m<=aL d):bZ (d.take m) i=bZ d i:=by
  rw[<-Pi (show i<aL (d.take m) by simp;omega),<-Pi (show i<aL d by omega)];simp
theorem expE_low(h:(Xa s).1.low=true):Bi s = - Jc (Lib.trimLeftB (Xa s).1.exp 48):=by grind [Bi]
theorem YZ(h:(Xa s).1.low=false):Bi s=Jc (Lib.trimLeftB (Xa s).1.exp 48):=by grind [Bi]
def Hz(hd:x.digits.all Md=true)(hp:0<aL x.digits)(hl:aL x.digits<=1000)(h0:¬bZ x.digits 0=48)(h1:¬bZ x.digits (aL x.digits-1)=48):Wc x=(decide (-1000000<=x.exp)&&decide (x.exp<=1000000)):=by
  have hz:¬x=Num.zero:=by rintro rfl;simp[Num.zero]at hp
  rw[<-Pi hp]at h0;rw[<-Pi (show aL x.digits-1<aL x.digits by omega)]at h1;exact Dq hz (by unfold Df;rw[hd,fZ<|List.length_pos_iff.1 hp];rfl) kX hp h0 kX h1
theorem rparse_c(s:Str)(hl:aL s<=140737488355327)(w0:World):Calls prog 176 #[I s] w0 (Qb λv w'=>v=.tuple #[Tm (Ld s).1,J (Ld s).2]/\Same [] w0 w'):=by
 refine Ga func176 ntmps176 ?_;intro hF;refine rn 3 ?_;rintro b1 w hb1 hF -;refine rn 6<|Gc (parts_c s kX _) ?_;rintro _ w ⟨neg,whole,rest,minus,exp,ok,rfl,hp,hE⟩;obtain⟨hok,hfs⟩:=VT hp;obtain⟨hl1,hl2,hl3⟩:=UZ hp;have hF:=hF.ext hE;refine rn 23 ⟨λhc0=>?_,λhc0=>?_⟩;refine rn 2<|Ca (w':=w) (v:=.agg #[.bool false,I [],J 0]) Gb ?_;refine rn 1 ?_;rintro w hF -;refine rn 4 ?_;exact⟨by rw[Gf,uQ (by rw[<-hok];simp_all)] <;> rfl,hF.same⟩;have hokt:ok=true:=qB
 have hfs:=hfs hokt;have hwr:aL whole=aL (Xa s).1.whole/\aL rest=aL (Xa s).1.rest:=⟨by rw[hfs.2.1],by rw[hfs.2.2.1]⟩;refine rn 9<|Kc (Ce<|((aL whole+aL rest:Nat):Int)) ?_;refine rn 4 ⟨λhc1=>?_,λhc1=>?_⟩;refine rn 2<|Ca (w':=w) (v:=.agg #[.bool false,I [],J 0]) Gb ?_;refine rn 1 ?_;rintro w hF -;refine rn 4 ?_;exact⟨by rw[Gf,tQ bS,uQ kX] <;> rfl,hF.same⟩;refine rn 3<|Sc (λσ w=>∃(E:Str),(Jc E=Jc (Lib.trimLeftB (Xa s).1.exp 48))/\((9:Int)<(aL E:Int)↔9<aL (Lib.trimLeftB (Xa s).1.exp 48))/\(E.all Md=true)/\(aL E<=aL s+1)/\AllEq σ [(2,V b1),(4,.bool neg),(5,I whole),(6,I rest),(7,.bool minus),(8,I E)]/\FR w0 [] [(b1,.cells #[.bool false,I [],J 0] 68)] w) ?_ ?_;refine rn 1<|Wa (λμ σ w=>∃(E:Str),μ=aL E/\(Lib.trimLeftB E 48=(Lib.trimLeftB (Xa s).1.exp 48))/\(0<aL E)/\(E.all Md=true)/\(aL E<=aL exp)/\AllEq σ [(2,V b1),(4,.bool neg),(5,I whole),(6,I rest),(7,.bool minus),(8,I E)]/\FR w0 [] [(b1,.cells #[.bool false,I [],J 0] 68)] w) _ ⟨exp,O,hfs.2.2.2.2.1,List.length_pos_iff.2<|Nj hfs.2.2.2.2.2.1,Nw hfs.2.2.2.2.2.1,gQ _,ae6,hF⟩ ?_;rintro μ σ w ⟨E,rfl,hEt,hE0,hE3,hE4,hzz,hF⟩;refine Tf hzz 8 ⟨λhg0=>?_,λhg0=>?_⟩;refine rn 1 ?_;refine Ca (v:=.int .u8<|bZ (E) 0) (by rw[<-Pi (s:=E) (p:=0) kX];exact Ud 0 gX O O kX) ?_;refine rn 5 ⟨λhc2=>?_,λhc2=>?_⟩;refine rn 5<|Ca (v:=I<|(E:Str).drop (1)) (Nl (1) gX) ?_;refine rn 3 ?_;refine Ja ⟨_,?_,E.drop 1,O,by rw[Fz kX kX];exact hEt,qP,TK hE3,qP,Ib,hF⟩;simp;omega;refine rn 1 ?_;exact Ja ⟨E,by rw[<-hEt];exact (Rw hE0 kX).1,by rw[<-hEt];exact (Rw hE0 kX).2,hE3,kX,Ib,hF⟩;refine rn 8 ?_;exact Ja ⟨E,by rw[<-hEt];exact (Rw hE0 kX).1,by rw[<-hEt];exact (Rw hE0 kX).2,hE3,kX,Ib,hF⟩
 rintro σ w ⟨E,hE1,hE2,hE3,hE4,hzz,hF⟩;refine Kq hzz 10 ⟨λhc3=>?_,λhc3=>?_⟩;refine rn 2<|Ca (w':=w) (v:=.agg #[.bool false,I [],J 0]) Gb ?_;refine rn 1 ?_;rintro w hF -;refine rn 4 ?_;exact⟨by rw[Gf,tQ bS,tQ kX,uQ kX] <;> rfl,hF.same⟩;refine rn 14<|Wa (λμ σ w=>∃(q:Nat),μ=aL E-q/\(q<=aL E)/\AllEq σ [(2,V b1),(4,.bool neg),(5,I whole),(6,I rest),(7,.bool minus),(8,I E),(10,J<|Jc<|E.take q),(11,J<|(q:Int))]/\FR w0 [] [(b1,.cells #[.bool false,I [],J 0] 68)] w) _ ⟨0,O,cZ _,ae8,hF⟩ ?_;rintro μ σ w ⟨q,rfl,hq,hzz,hF⟩;refine Tf hzz 10 ⟨λhc4=>?_,λhc4=>?_⟩;have hdq:=List.all_eq_true.1 hE3 E[q] (eQ kX);unfold Md at hdq;simp only[vQ,wQ]at hdq;have hbq:=UInt8.toNat_lt E[q];have hb:=Ww (E.take q) (Es q hE3) (by rw[iZ];omega);refine rn 6<|Ca (v:=J<|10*Jc (E.take q)) (Zx O O<|Of kX kX) ?_;refine rn 2<|Ca (v:=.int .u8<|(((E:Str)[q]' kX).toNat:Int)) (Ud (q) gX O O kX) ?_;refine Ca (v:=.int .u8<|((E[q].toNat:Nat):Int)-48) (Ux O O (by rw[IntKind.wrap_u8];omega)) ?_;refine Ca (v:=J<|((E[q].toNat:Nat):Int)-48) (Yd cX bX O<|Of kX kX) ?_;refine Ca (v:=J<|Jc<|E.take<|q+1) (Ku O O (by rw[Gn _ q kX];exact Of kX kX)) ?_;refine rn 6<|Kc (Ce<|((q+1:Nat):Int)) ?_;refine rn 2<|Ja ⟨_,?_,q+1,O,kX,Ib,hF⟩;omega;refine rn 2 ?_;have eT:E.take q=E:=dZ kX;have hb:=Ww E hE3 kX;have hE:-1000000000<Bi s/\Bi s<1000000000:=by unfold Bi;rw[<-hE1];split <;> omega
 refine rn 1<|Sc (λσ w=>AllEq σ [(2,V b1),(4,.bool neg),(5,I whole),(6,I rest),(10,J<|Bi s)]/\FR w0 [] [(b1,.cells #[.bool false,I [],J 0] 68)] w) ?_ ?_;refine rn 6 ⟨λhc5=>?_,λhc5=>?_⟩;have eE:- Jc E=Bi s:=by rw[hE1,expE_low (by rw[<-hfs.2.2.2.1];assumption)]
 rw[eT];refine rn 2 ?_;refine Ca (v:=J<|Bi s) (Qu O<|Od (by rw[<-eE];omega) kX kX) ?_;refine rn 2 ?_;exact Ja ⟨Ib,hF⟩;have eE:Jc E=Bi s:=by rw[hE1,YZ (by rw[<-hfs.2.2.2.1];assumption)]
 rw[eT,eE];refine rn 1 ?_;exact Ja ⟨Ib,hF⟩;rintro σ w ⟨hzz,hF⟩;refine Kq hzz 6<|Kc Fp ?_;refine rn 7<|Ca (v:=I<|(whole)++(rest)) (Rj O O kX) ?_;refine rn 4<|Sc (λσ w=>∃(d:Str),(d=(Lib.trimLeftB ((Xa s).1.whole++(Xa s).1.rest) 48))/\(0<aL d->¬bZ d 0=48)/\(d.all Md=true)/\(aL d<=aL whole+aL rest)/\AllEq σ [(2,V b1),(4,.bool neg),(10,J<|Bi s-(aL rest:Nat)),(12,I d)]/\FR w0 [] [(b1,.cells #[.bool false,I [],J 0] 68)] w) ?_ ?_;refine rn 1 ?_;refine Wa (λμ σ w=>∃(D:Str),μ=aL D/\(Lib.trimLeftB D 48=Lib.trimLeftB (whole++rest) 48)/\(D.all Md=true)/\(aL D<=aL whole+aL rest)/\AllEq σ [(2,V b1),(4,.bool neg),(10,J<|Bi s-(aL rest:Nat)),(12,I D)]/\FR w0 [] [(b1,.cells #[.bool false,I [],J 0] 68)] w) _ ⟨whole++rest,O,O,by rw[List.all_append,Nw hfs.2.2.2.2.2.2.1,hfs.2.2.2.2.2.2.2];rfl,Da,ae4,hF⟩ ?_;rintro μ σ w ⟨D,rfl,hDt,hDa,hDl,hzz,hF⟩;refine Tf hzz 8 ⟨λhg1=>?_,λhg1=>?_⟩;refine rn 1 ?_;refine Ca (v:=.int .u8<|bZ (D) 0) (by rw[<-Pi (s:=D) (p:=0) kX];exact Ud 0 gX O O kX) ?_;refine rn 5 ⟨λhc6=>?_,λhc6=>?_⟩;refine rn 5<|Ca (v:=I<|(D:Str).drop (1)) (Nl (1) gX) ?_;refine rn 3 ?_;refine Ja ⟨_,?_,D.drop 1,O,by rw[Fz kX kX];exact hDt,TK hDa,qP,Ib,hF⟩;simp;omega;refine rn 1 ?_;exact Ja ⟨D,bR,λh=>by omega,hDa,hDl,Ib,hF⟩;refine rn 8 ?_;exact Ja ⟨D,bR,λh=>by omega,hDa,hDl,Ib,hF⟩;rintro σ w ⟨d,hd,hd0,hda,hdl,hzz,hF⟩;refine Kq hzz 9 ⟨λhc7=>?_,λhc7=>?_⟩;refine rn 2<|Ca (w':=w) (v:=.agg #[.bool false,I [],J 0]) Gb ?_
 refine rn 1 ?_;rintro w hF -;refine rn 4 ?_;exact⟨by rw[Gf,tQ bS,tQ kX,tQ kX,uQ (by rw[<-hd];assumption)] <;> rfl,hF.same⟩;refine rn 3<|Sc (λσ w=>∃(m:Nat),∃(sh:Str),∃(ee:Int),(ee=Bi s-(aL rest:Nat)+(aL d-m:Nat))/\(sh=(d:Str).take m)/\(1<=m)/\(m<=aL d)/\(Lib.trimRightB d 48=d.take m)/\(¬bZ ((d:Str).take m) (m-1)=48)/\AllEq σ [(2,V b1),(4,.bool neg),(10,J ee),(12,I sh)]/\FR w0 [] [(b1,.cells #[.bool false,I [],J 0] 68)] w) ?_ ?_;refine rn 1 ?_;have hdp:0<aL d:=List.length_pos_iff.2 qW;refine Wa (λμ σ w=>∃(m:Nat),∃(D2:Str),∃(ee:Int),μ=m+1/\(ee=Bi s-(aL rest:Nat)+(aL d-m:Nat))/\(D2=(d:Str).take m)/\(1<=m)/\(m<=aL d)/\(Lib.trimRightB d 48=Lib.trimRightB (d.take m) 48)/\AllEq σ [(2,V b1),(4,.bool neg),(10,J ee),(12,I D2)]/\FR w0 [] [(b1,.cells #[.bool false,I [],J 0] 68)] w) _ ⟨aL d,d,Bi s-(aL rest:Nat),O,kX,by rw[List.take_length],hdp,gQ _,by rw[List.take_length],ae4,hF⟩ ?_;rintro μ σ w ⟨m,D2,ee,rfl,hee,hD2,hm1,hm2,hmt,hzz,hF⟩;have hml:aL D2=m:=by rw[hD2,iZ];omega
 refine Tf hzz 6<|Kc (W5<|((m-1:Nat):Int)) ?_;refine Ca (v:=.int .u8<|bZ (D2)<|m-1) (by rw[<-Pi (s:=D2) (p:=(m-1)) kX];exact Ud (m-1) gX O O kX) ?_;refine rn 4 ⟨λhc8=>?_,λhc8=>?_⟩;refine rn 8<|Kc (W5<|((m-1:Nat):Int))<|Ca (v:=I<|(D2:Str).take (m-1)) (L2 (m-1) gX O O kX) ?_;refine rn 5<|Kc (Ce<|ee+1) ?_;refine rn 3 ?_;refine Ja ⟨_,?_,m-1,D2.take<|m-1,ee+1,rfl,kX,by rw[hD2,List.take_take,Nat.min_eq_left kX],(by have h:=hd0 hdp;rw[<-F8 (m:=m) kX hm2,<-hD2]at h;rcases Nat.lt_or_ge 1 m with h1|h1;omega;exfalso;have h2:m-1=0:=kX;have h3:bZ D2 (m-1)=48:=qW;rw[h2]at h3;exact absurd h3 h),kX,by rw[hmt,L_ hm1 hm2,uQ (by rw[<-hD2];assumption)],Ib,hF⟩;omega;refine rn 1 ?_;exact Ja ⟨m,D2,ee,hee,hD2,hm1,hm2,by rw[hmt,L_ hm1 hm2,tQ (by rw[<-hD2];assumption)],by rw[<-hD2];assumption,Ib,hF⟩;rintro σ w ⟨m,sh,ee,hee,hsh,hm1,hm2,hmt,hlast,hzz,hF⟩;refine Kq hzz 8 ⟨λhg2=>?_,λhg2=>?_⟩;refine rn 8<|Ca (w':=w) (v:=.agg #[.bool false,I [],J 0]) Gb ?_;refine rn 1 ?_;rintro w hF -;refine rn 4 ?_;subst hsh;subst hee;have hne:¬d=[]:=List.length_pos_iff.1 kX;have hrf:=Hz (x:=⟨(Xa s).1.neg,d.take m,Bi s-(aL rest:Nat)+(aL d-m:Nat)⟩) (Es m hda) qP qP rV jK;have hfe:Bi s-(aL rest:Nat)+(aL d-m:Nat)=Bi s-aL (Xa s).1.rest+aL d-aL (d.take m):=by rw[iZ,Nat.min_eq_left hm2,<-hwr.2];omega
 refine⟨?_,hF.same⟩;rw[Gf,tQ bS,tQ kX,tQ kX,<-hd,tQ hne,hmt,<-hfe,hrf]
 first|(rw[uQ qP] <;> rfl)|(rw[tQ qP,hfs.1] <;> rfl)
 refine rn 6 ⟨λhc9=>?_,λhc9=>?_⟩;refine rn 2<|Ca (w':=w) (v:=.agg #[.bool false,I [],J 0]) Gb ?_;refine rn 1 ?_;rintro w hF -;refine rn 4 ?_;subst hsh;subst hee;have hne:¬d=[]:=List.length_pos_iff.1 kX;have hrf:=Hz (x:=⟨(Xa s).1.neg,d.take m,Bi s-(aL rest:Nat)+(aL d-m:Nat)⟩) (Es m hda) qP qP rV jK;have hfe:Bi s-(aL rest:Nat)+(aL d-m:Nat)=Bi s-aL (Xa s).1.rest+aL d-aL (d.take m):=by rw[iZ,Nat.min_eq_left hm2,<-hwr.2];omega
 refine⟨?_,hF.same⟩;rw[Gf,tQ bS,tQ kX,tQ kX,<-hd,tQ hne,hmt,<-hfe,hrf]
 first|(rw[uQ qP] <;> rfl)|(rw[tQ qP,hfs.1] <;> rfl)
 refine rn 7<|Ca (w':=w) (v:=.agg #[.bool neg,I sh,J ee]) Gb ?_;refine rn 1 ?_;rintro w hF -;refine rn 4 ?_;subst hsh;subst hee;have hne:¬d=[]:=List.length_pos_iff.1 kX;have hrf:=Hz (x:=⟨(Xa s).1.neg,d.take m,Bi s-(aL rest:Nat)+(aL d-m:Nat)⟩) (Es m hda) qP qP rV jK;have hfe:Bi s-(aL rest:Nat)+(aL d-m:Nat)=Bi s-aL (Xa s).1.rest+aL d-aL (d.take m):=by rw[iZ,Nat.min_eq_left hm2,<-hwr.2];omega
 refine⟨?_,hF.same⟩;rw[Gf,tQ bS,tQ kX,tQ kX,<-hd,tQ hne,hmt,<-hfe,hrf]
 first|(rw[uQ qP] <;> rfl)|(rw[tQ qP,hfs.1] <;> rfl)
theorem Z8(s:Str)(hl:aL s<=140737488355327)(w0:World):Calls prog 147 #[I s] w0 (Qb λv w'=>v=.tuple #[Tm (Ld s).1,.bool (Jh s)]/\Same [] w0 w'):=by
 refine Ga func147 ntmps147 ?_;intro hF;refine rn 3 ?_;rintro b1 w hb1 hF -;refine rn 6<|Sa (rparse_c s hl _) ?_;rintro w hF -;refine rn 4 ?_;rintro b2 w hb2 hF -;refine rn 4<|Yb (.of []) (bQ [0,1,2,3,4,6]<|.act 5<|.free 7<|.free 8<|.act 9<|.free 10 .nil) hF ?_;rintro w hF -;refine⟨λwq=>FR w0 [] [(b2,.cells #[.bool<|(Ld s).1.neg,I<|(Ld s).1.digits,J<|(Ld s).1.exp] 68)] wq,hF.sub<|.cons_cons _<|.cons _ .slnil,?_⟩;refine rn 5 ⟨λhg0=>?_,λhg0=>?_⟩;refine rn 2 ?_;refine Ie (rtext_c (Ld s).1 (by have:=Kk s;omega) _) ?_;rintro w hF -;refine rn 3 ?_;rintro w hF -;refine rn 4 ?_;exact⟨by simp_all[Jh,Tm],hF.same⟩;refine rn 2<|Rp ?_<|hF.sub<|.cons_cons _<|.cons _ .slnil;refine rn 3 ?_;rintro w hF -;refine rn 4 ?_;exact⟨by simp_all[Jh,Tm],hF.same⟩
def dgt(s:Str)(i:Nat):Int:=if i<aL s then bZ s i else 48
theorem dgt_ge(h:s.all Md=true)(i:Nat):48<=dgt s i/\dgt s i<=57:=by
  unfold dgt;split
  ·rename_i hi
   have:=List.all_eq_true.1 h s[i] (eQ hi);grind [Md,Pi]
  omega
def all_cons{c:UInt8}(h:(c::s).all Md=true):Md c=true/\s.all Md=true:=aS h
theorem AM(h:Wc x=true)(hd:x.digits≠[]):x.digits.all Md=true/\¬bZ x.digits (aL x.digits-1)=48:=by
  have h0:¬x=Num.zero:=by rintro rfl;exact hd rfl
  unfold Wc at h;simp only[Bool.or_eq_true,vQ,wQ]at h;rcases h with h|h
  ·grind
  refine⟨Nw h.1.1.1.1.1, ?_⟩;have hl:aL x.digits-1<aL x.digits:=by have:=List.length_pos_iff.2 hd;omega
  grind [Pi,Wx]
def vN(acc:Nat)(l:Str):Nat:=l.foldl (λa c=>a*10+(c.toNat-48)) acc
theorem CI(acc:Nat)(c:UInt8)(l:Str):vN acc (c::l)=vN (acc*10+(c.toNat-48)) l:=by grind [vN]
theorem vN_ge(l:Str):∀acc:Nat,acc<=vN acc l:=by
  induction l with
  | nil=>exact λacc=>gQ _
  | cons c l ih=>grind [CI]
theorem Zw{c:UInt8}(h:Md c=true):48<=c.toNat/\c.toNat<=57:=by grind [Md]
theorem vN_exp:∀(l:Str)(acc:Nat),l.all Md=true->((vN acc l:Nat):Int)=l.foldl (λa c=>10*a+((c.toNat:Int)-48)) (acc:Int)
  | [],_,_=>rfl
  | c :: l, acc, h => by
    obtain⟨hc,hl⟩:=all_cons h;have:=Zw hc;rw[CI,vN_exp l _ hl,List.foldl_cons]
    congr 1
    omega
def YV(h:l.all Md=true):((vN 0 l:Nat):Int)=Jc l:=vN_exp l 0 h
theorem uintM:∀(l:Str)(acc:Nat),l.all Md=true->acc<=18446744073709551615->Lib.parseUintM 18446744073709551615 acc l=if vN acc l<=18446744073709551615 then .ok (vN acc l) else .range
  | [],acc,_,h=>by rw[show vN acc []=acc from rfl,uQ h];rfl
  | c :: l, acc, h, ha => by
    obtain⟨hc,hl⟩:=all_cons h;have r:=Zw hc;rw[Lib.parseUintM,uQ r,CI];have hg:=vN_ge l<|acc*10+(c.toNat-48);by_cases h1:1844674407370955162<=acc
    ·rw[uQ h1,tQ kX]
    rw[tQ h1];by_cases h2:18446744073709551615<acc*10+(c.toNat-48)
    ·rw[uQ h2,tQ kX]
    rw[tQ h2];exact uintM l _ hl kX
theorem uint64(h:l.all Md=true)(hne:l≠[]):Lib.parseUintB 64 l=if vN 0 l<=18446744073709551615 then .ok (vN 0 l) else .range:=by
  rw[Lib.parseUintB,tQ hne];grind [uintM]
theorem pI_plain(h:l.all Md=true)(hne:l≠[]):(pI l).2=decide (Jc l<=9223372036854775807)/\(Jc l<=9223372036854775807->(pI l).1=Jc l):=by
  have hu:=uint64 h hne;rw[<-YV h]
  match l,hne with
  | c :: r, _ =>
    have hc:=Zw (all_cons h).1;have hp:=Lib.parseIntB_plain 64 c r kX kX;rw[hu]at hp;generalize vN 0 (c::r)=n at *;unfold pI;rw[hp];by_cases h1:n<=18446744073709551615
    ·rw[uQ h1, Lib.signlessC]
     grind
    rw[tQ h1];exact⟨(eZ kX).symm,λh=>absurd h kX⟩
theorem pI_minus(h:l.all Md=true)(hne:l≠[]):(pI (45::l)).2=decide (Jc l<=9223372036854775808)/\(Jc l<=9223372036854775808->(pI (45::l)).1 = - Jc l):=by
  have hu:=uint64 h hne;rw[<-YV h];have hp:=Lib.parseIntB_minus 64 l;rw[hu]at hp;generalize vN 0 l=n at *;unfold pI;rw[hp];by_cases h1:n<=18446744073709551615
  ·rw[uQ h1, Lib.signedC]
   grind
  rw[tQ h1];exact⟨(eZ kX).symm,λh=>absurd h kX⟩
def Be(x:Num):Str:=x.digits++Lib.repeatL [48] x.exp.toNat
theorem Dp(x:Num):aL (Be x)=aL x.digits+x.exp.toNat:=by grind [Be,Un]
theorem JX:∀n:Nat,(Lib.repeatL [48] n).all Md=true
  | 0=>rfl
  | n + 1 => by
    have h:=JX n;simp only[Lib.repeatL,List.all_append,h,Bool.and_true];decide
theorem rep_48:∀n:Nat,(Lib.repeatL [48] n).all (λc=>c==48)=true
  | 0=>rfl
  | n + 1 => by
    have h:=rep_48 n;simp only[Lib.repeatL,List.all_append,h,Bool.and_true];decide
theorem whole_at{j:Nat}(h:j<aL (Be x)):(((Be x)[j].toNat:Nat):Int)=dgt x.digits j:=by
  unfold dgt;by_cases hj:j<aL x.digits
  ·grind [Pi,Be]
  rw[tQ hj];simp only[Be];rw[List.getElem_append_right kX];have:=List.all_eq_true.1 (rep_48 x.exp.toNat) _<|eQ (show j-aL x.digits<aL (Lib.repeatL [48] x.exp.toNat) by rw[Un];rw[Dp]at h;omega);simp_all
theorem XS{j:Nat}(h:j<aL (Be x)):Jc ((Be x).take (j+1))=10*Jc ((Be x).take j)+(dgt x.digits j-48):=by grind [Gn,whole_at]
theorem PN{s:Str}(hs:s.all Md=true):∀k,∀j,j+k=aL s->Jc (s.take j)<=Jc s
  | 0,j,h=>by rw[dZ kX];exact Int.le_refl _
  | k + 1, j, h => by
    have h1:=PN hs k (j+1) kX;have hj:j<aL s:=by_Om
    rw[Gn s j hj]at h1;have h2:=Zw<|List.all_eq_true.1 hs s[j] (eQ hj);have h3:=(E1 (s.take j)<|Es j hs).1;omega
theorem CZ(x:Num):Px x=if x.neg=true then 45::Be x else Be x:=rfl
theorem Zt(h:Wc x=true):(Be x).all Md=true:=by grind [Be,JX,AM]
theorem whole_nil(h:Wc x=true)(hn:Be x=[]):x.neg=false:=by
  have:x.digits=[]:=by have:=xQ List.length hn;rw[Dp,aZ]at this;exact List.eq_nil_of_length_eq_zero kX
  have:=HK h this;subst this;rfl
theorem IJ(h:Wc x=false\/x.exp<0\/19<(aL x.digits:Int)+x.exp):Et x=(0,false):=by grind [Zh]
theorem DY(h:¬(Wc x=false\/x.exp<0\/19<(aL x.digits:Int)+x.exp))(hn:x.neg=true):Et x=if Jc (Be x)<=9223372036854775808 then (- Jc (Be x),true) else (0,false):=by grind [Wc,Be,whole_nil,pI_minus,Zt,Px,CZ,Zh,Jc]
theorem JK(h:¬(Wc x=false\/x.exp<0\/19<(aL x.digits:Int)+x.exp))(hn:x.neg=false):Et x=if Jc (Be x)<=9223372036854775807 then (Jc (Be x),true) else (0,false):=by grind [Wc,Px,Be,CZ,Zh,pI_plain,Zt,Jc]
theorem int_over(h:¬(Wc x=false\/x.exp<0\/19<(aL x.digits:Int)+x.exp)){j:Nat}(hj:j<=aL (Be x))(hv:9223372036854775808<Jc ((Be x).take j)):Et x=(0,false):=by
  have hr:Wc x=true:=qK
  have:=PN (Zt hr) (aL (Be x)-j) j kX;grind [DY,JK]
theorem tdiv_over(d:Int)(h0:0<=d)(h9:d<=9):(-9223372036854775808+d).tdiv 10 = -((9223372036854775808-d)/10):=qK
theorem rint_c(x:Num)(hl:aL x.digits<=140737488355328)(w0:World):Calls prog 149 #[Tm x] w0 (Qb λv w'=>v=.tuple #[J (Et x).1,.bool (Et x).2]/\Same [] w0 w'):=by
 refine Ga func149 ntmps149 ?_;intro hF;refine rn 3 ?_;rintro b1 w hb1 hF -;refine rn 7<|Sa (NM x hl _) ?_;rintro w hF -;refine rn 10 ⟨λhg0=>?_,λhg0=>?_⟩;refine rn 23 ?_;exact⟨by rw[IJ<|.inl (aS hg0)],hF.same⟩;refine rn 6 ⟨λhg1=>?_,λhg1=>?_⟩;refine rn 18 ?_;exact⟨by rw[IJ<|.inr<|.inl hg1],hF.same⟩;refine rn 5 ?_;have hrl:=Hc (x:=x) qB;refine Kc Ui<|rn 5 ⟨λhc0=>?_,λhc0=>?_⟩;refine rn 7 ?_;exact⟨by rw[IJ<|.inr<|.inr kX],hF.same⟩;refine rn 14 ?_;have hrt:Wc x=true:=qB
 have hnb:¬(Wc x=false\/x.exp<0\/19<(aL x.digits:Int)+x.exp):=by rw[hrt];simp;omega
 have hwd:=Zt hrt;have hdx:x.digits.all Md=true:=by rw[Be,List.all_append,vQ]at hwd;exact hwd.1
 have hrl:=Hc hrt;refine Wa (λμ σ w=>∃(j:Nat),∃(v:Int),μ=((aL x.digits:Int)+x.exp-j).toNat/\((j:Int)<=(aL x.digits:Int)+x.exp)/\(v = - Jc ((Be x).take j))/\(v<=0)/\(-9223372036854775808<=v)/\AllEq σ [(1,V b1),(5,J v),(6,J<|(j:Int))]/\FR w0 [] [(b1,.cells #[.bool x.neg,I x.digits,J x.exp] 68)] w) _ ⟨0,0,O,kX,O,kX,kX,Ib,hF⟩ ?_;rintro μ σ w ⟨j,v,rfl,hj,hv,hv0,hvm,hzz,hF⟩;refine Tf hzz 9<|Kc Ui ?_;refine rn 4 ⟨λhc1=>?_,λhc1=>?_⟩;refine rn 10<|Sc (λσ w=>∃(d:Int),(d=dgt x.digits j-48)/\AllEq σ [(1,V b1),(5,J v),(6,J<|(j:Int)),(7,J d)]/\FR w0 [] [(b1,.cells #[.bool x.neg,I x.digits,J x.exp] 68)] w) ?_ ?_;refine rn 10 ⟨λhc2=>?_,λhc2=>?_⟩;refine rn 4 ?_;refine Ca (v:=.int .u8<|bZ (x.digits) j) (by rw[<-Pi (s:=x.digits) (p:=j) kX];exact Ud j gX O O kX) ?_;refine Ca (v:=.int .u8<|bZ x.digits j-48) (Ux O O (by have:=dgt_ge (s:=x.digits) hdx j;unfold dgt at this;rw[uQ kX]at this;rw[IntKind.wrap_u8];omega)) ?_;refine Ca (v:=J<|bZ x.digits j-48) (Yd cX bX O (by have:=Vg x.digits j;exact Of kX kX)) ?_;refine rn 2 ?_
 ·exact Ja ⟨bZ x.digits j-48,(by unfold dgt;first|(rw[uQ kX];done)|(rw[tQ kX];rfl)),Ib,hF⟩
 refine rn 1 ?_
 ·exact Ja ⟨0,(by unfold dgt;first|(rw[uQ kX];done)|(rw[tQ kX];rfl)),Ib,hF⟩
 rintro σ w ⟨d,hd,hzz,hF⟩;have hdg:=dgt_ge hdx j;have hjw:j<aL (Be x):=by rw[Dp];omega
 have hst:=XS hjw;refine Kq hzz 6<|Kc Ui<|Ca (v:=J<|-((9223372036854775808-d)/10)) (x_quo O O Ra<|Od (tdiv_over d kX kX) kX kX) ?_;refine rn 4 ⟨λhc3=>?_,λhc3=>?_⟩;refine rn 7 ?_;exact⟨by rw[int_over hnb (j:=j+1) kX (by rw[hst];omega)],hF.same⟩;refine rn 4<|Ca (v:=J<|10*v) (Zx O O<|Of kX kX) ?_;refine rn 1<|Kc Fp ?_;refine rn 6<|Kc (Ce<|((j+1:Nat):Int)) ?_;refine rn 2 ?_;refine Ja ⟨_,?_,j+1,10*v-d,O,kX,by rw[hst];omega,kX,kX,Ib,hF⟩;omega;refine rn 10 ⟨λhc4=>?_,λhc4=>?_⟩;refine rn 8 ?_;have eT:(Be x).take j=Be x:=dZ (by rw[Dp];omega);rw[eT]at hv;exact⟨by rw[DY hnb qW,uQ kX,hv],hF.same⟩;refine rn 10 ⟨λhc5=>?_,λhc5=>?_⟩;refine rn 7 ?_;have eT:(Be x).take j=Be x:=dZ (by rw[Dp];omega);rw[eT]at hv;exact⟨by rw[JK hnb qW,tQ kX],hF.same⟩;refine rn 5<|Ca (v:=J<|-v) (Qu O<|Od kX kX kX) ?_;refine rn 5 ?_;have eT:(Be x).take j=Be x:=dZ (by rw[Dp];omega);rw[eT]at hv;exact⟨by rw[JK hnb qW,uQ kX,hv,Int.neg_neg],hF.same⟩
def PU(x:Tree):Prop:=Ka x<=1000000000->∀S w0 cs,Rep S w0 (Ta x) cs->Calls prog 84 #[.agg cs.toArray] w0 (Qb λv w'=>v=J (Ka x:Nat)/\Same [] w0 w')
def CJ(x:Tree):Prop:=Ka x<=1000000000->∀S w0 cs,Rep S w0 (Ta x) cs->Calls prog 85 #[.agg cs.toArray] w0 (Qb λv w'=>v=J (Cb x:Nat)/\Same [] w0 w')
def JU(h:Bool)(x:Tree):Bool:=nodeB x&&(h || decide (x.kind≠7))
theorem hn_true:JU true=nodeB:=by grind [JU]
def WU(x:Tree):Prop:=Ka x<=1000000000->Kb x<=1073741824->∀(h:Bool) S w0 cs,Rep S w0 (Ta x) cs->Calls prog 86 #[.agg cs.toArray,.bool h] w0 (Qb λv w'=>v=.bool (Zb (JU h) x)/\Same [] w0 w')
theorem Mv:∀(xs:List Tree)(j:Nat),Qa (xs.take j)<=Qa xs
  | [],j=>by simp
  | x::xs,0=>by simp[Qa]
  | x :: xs, j + 1 => by
    have:=Mv xs j;rw[List.take_succ_cons,Qa,Qa];omega
def HS(k:Int)(t:Str)(ks:List Str)(xs:List Tree)(ih:∀x,x∈xs->PU x):PU (.node k t ks xs):=by
 intro hsz S w0 cs hR;obtain⟨A,c,B,e,rfl,-,-,-,hX⟩:=hR.tree_inv;have hXl:=hX.slice_len;have hdl:=Lz xs;rw[Ka]at hsz;refine Ga func84 ntmps84 ?_;intro hF;refine rn 3 ?_;rintro b1 w hb1 hF -;refine rn 15<|Wa (λμ σ w=>∃(j:Nat),μ=aL xs-j/\(j<=aL xs)/\AllEq σ [(1,V b1),(3,J<|((1+Qa (xs.take j):Nat):Int)),(4,J<|(j:Int))]/\FR w0 [] [(b1,.cells #[J k,I t,.slice A (aL ks) c,.slice B (aL xs) e] 25)] w) _ ⟨0,O,cZ _,ae3,hF⟩ ?_;rintro μ σ w ⟨j,rfl,hj,hzz,hF⟩;refine Tf hzz 11 ⟨λhc0=>?_,λhc0=>?_⟩;refine rn 9 ?_;obtain⟨ad0,cs0,hA0,hl0,hk0,hx0⟩:=hX.tree_elem (i:=j) kX;have ho0:=hx0.one_;refine Ca (v:=.pointer<|some<|ad0.add<|j*4) (Ea (i:=(j:Int)) Ad hA0)<|Ca (v:=.agg<|List.toArray cs0) (Pa (l:=cs0) oZ tZ O hl0<|hF.cells0 hk0) ?_;refine Sa (ih _ (eQ _) qU _ _ _<|hF.rep hx0) ?_;rintro w hF -;refine Ca (v:=J<|((1+Qa (xs.take<|j+1):Nat):Int)) (Ku O O (by have h1:=Q6 xs j kX;have h2:=Kd<|List.getElem_mem (l:=xs) (n:=j) kX;have h3:=Mv xs<|j+1;exact Od (by rw[h1];omega) kX kX)) ?_;refine rn 6<|Kc (Ce<|((j+1:Nat):Int)) ?_;refine rn 2<|Ja ⟨_,?_,j+1,O,kX,Ib,hF⟩;omega;refine rn 4 ?_;have eT:xs.take j=xs:=dZ kX;refine rn 5 ?_;exact⟨by rw[eT,Ka],hF.same⟩
def rsizeT_c(x:Tree):PU x:=Tree.ind HS x
def JM(k:Int)(t:Str)(ks:List Str)(xs:List Tree)(ih:∀x,x∈xs->CJ x):CJ (.node k t ks xs):=by
 intro hsz S w0 cs hR;obtain⟨A,c,B,e,rfl,-,-,-,hX⟩:=hR.tree_inv;have hXl:=hX.slice_len;have hdl:=Lz xs;rw[Ka]at hsz;refine Ga func85 ntmps85 ?_;intro hF;refine rn 3 ?_;rintro b1 w hb1 hF -;refine rn 15<|Wa (λμ σ w=>∃(j:Nat),μ=aL xs-j/\(j<=aL xs)/\AllEq σ [(1,V b1),(3,J<|(Fb (xs.take j):Nat)),(4,J<|(j:Int))]/\FR w0 [] [(b1,.cells #[J k,I t,.slice A (aL ks) c,.slice B (aL xs) e] 25)] w) _ ⟨0,O,cZ _,ae3,hF⟩ ?_;rintro μ σ w ⟨j,rfl,hj,hzz,hF⟩;refine Tf hzz 11 ⟨λhc0=>?_,λhc0=>?_⟩;refine rn 9 ?_;obtain⟨ad0,cs0,hA0,hl0,hk0,hx0⟩:=hX.tree_elem (i:=j) kX;have ho0:=hx0.one_;refine Ca (v:=.pointer<|some<|ad0.add<|j*4) (Ea (i:=(j:Int)) Ad hA0)<|Ca (v:=.agg<|List.toArray cs0) (Pa (l:=cs0) oZ tZ O hl0<|hF.cells0 hk0) ?_;refine Sa (ih _ (eQ _) qU _ _ _<|hF.rep hx0) ?_;rintro w hF -;refine Ca (v:=J<|(Fb (xs.take<|j+1):Nat)) jG ?_;refine rn 6<|Kc (Ce<|((j+1:Nat):Int)) ?_;refine rn 2<|Ja ⟨_,?_,j+1,O,kX,Ib,hF⟩;omega;refine rn 5 ?_;have eT:xs.take j=xs:=dZ kX;refine Ca (v:=J<|(Cb (.node k t ks xs):Nat)) (Ku O O (by rw[eT,Cb];exact Od kX kX kX)) ?_;refine rn 4 ?_;exact⟨O,hF.same⟩
def rdepthT_c(x:Tree):CJ x:=Tree.ind JM x
def Xs(h:(!b)=false):b=true:=aS h
def Bx(h:(!b)=true):b=false:=aS h
theorem C_{xs:List Tree}:nodeB (.node 6 t ks xs)=(Aj ks (aL xs)&&decide (t=[])):=by grind [nodeB]
theorem six_bad{xs:List Tree}(h:i<aL ks)(hv:Lib.validD ks[i]=false):nodeB (.node 6 t ks xs)=false:=by grind [C_,Aj,CX]
theorem six_dup{xs:List Tree}(h:i<aL ks)(hm:m<i)(he:ks[m]=ks[i]):nodeB (.node 6 t ks xs)=false:=by
  have:¬ks.Nodup:=Qt h (by rw[<-he];exact List.mem_take_iff_getElem.2 ⟨m,by_Om,rfl⟩);grind [C_,Aj]
theorem JW{xs:List Tree}(hn:ks.Nodup)(hv:ks.all Lib.validD=true):nodeB (.node 6 t ks xs)=(decide (t=[])&&decide (((aL ks:Nat):Int)=((aL xs:Nat):Int))):=by grind [C_,Aj]
theorem node_not{xs:List Tree}(h1:¬k=1)(h2:¬k=2)(h3:¬k=3)(h4:¬k=4)(h5:¬k=5)(h6:¬k=6)(h7:¬k=7):nodeB (.node k t ks xs)=false:=by grind [nodeB]
theorem U5{xs:List Tree}(h:k≠6)(hk:(0:Int)<((aL ks:Nat):Int)):nodeB (.node k t ks xs)=false:=by grind [nodeB]
theorem Gz{xs:List Tree}(h:k≠6)(h5:k≠5)(hk:(0:Int)<((aL xs:Nat):Int)):nodeB (.node k t ks xs)=false:=by grind [nodeB]
theorem nd1{xs:List Tree}(h:k=1)(hk:ks=[])(hx:xs=[]):nodeB (.node k t ks xs)=decide (t=[]):=by grind [nodeB]
theorem nd5{xs:List Tree}(h:k=5)(hk:ks=[]):nodeB (.node k t ks xs)=decide (t=[]):=by grind [nodeB]
theorem nd2{xs:List Tree}(h:k=2)(hk:ks=[])(hx:xs=[]):nodeB (.node k t ks xs)=(decide (t=[116,114,117,101]) || decide (t=[102,97,108,115,101])):=by grind [nodeB]
theorem nd3{xs:List Tree}(h:k=3)(hk:ks=[])(hx:xs=[]):nodeB (.node k t ks xs)=Jh t:=by grind [nodeB]
theorem nd4{xs:List Tree}(h:k=4)(hk:ks=[])(hx:xs=[]):nodeB (.node k t ks xs)=Lib.validD t:=by grind [nodeB]
theorem nd7{xs:List Tree}(h:k=7)(hk:ks=[])(hx:xs=[]):nodeB (.node k t ks xs)=Er t:=by grind [nodeB]
theorem CV(h1:Jh t=true)(h2:(Et (Ld t).1).2=true):Er t=decide (0<=(Et (Ld t).1).1):=by grind [Er]
theorem VH(h1:Jh t=false):Er t=false:=by grind [Er]
theorem ZJ(h2:(Et (Ld t).1).2=false):Er t=false:=by grind [Er]
theorem J3(h:¬(0:Int)<((aL ks:Nat):Int):=by omega):ks=[]:=qB
theorem Y3{xs:List Tree}(h:¬(0:Int)<((aL xs:Nat):Int):=by omega):xs=[]:=qB
def rnode_c_(k:Int)(t:Str)(ks:List Str)(xs:List Tree)(S:Nat->Prop)(w0:World)(cs:List Value)(hR:Rep S w0 (Ta (.node k t ks xs)) cs)(hm:Kb (.node k t ks xs)<=1073741824):Calls prog 114 #[.agg cs.toArray] w0 (Qb λv w'=>v=.bool (nodeB (.node k t ks xs))/\Same [] w0 w'):=by
 obtain⟨A,c,B,e,rfl,-,-,hK,hX⟩:=hR.tree_inv;have hKl:=hK.slice_len;have hXl:=hX.slice_len;rw[Kb]at hm;have hkm:∀q (h:q<aL ks),aL ks[q]<=1073741824:=λq h=>fQ (Hi<|eQ h) kX;refine Ga func114 ntmps114 ?_;intro hF;refine rn 3 ?_;rintro b1 w hb1 hF -;refine rn 4<|Sc (λσ w=>(k≠6->ks=[])/\(k≠6->k≠5->xs=[])/\AllEq σ [(1,V b1)]/\FR w0 [] [(b1,.cells #[J k,I t,.slice A (aL ks) c,.slice B (aL xs) e] 25)] w) ?_ ?_
 ·
  refine rn 7 ⟨λhg0=>?_,λhg0=>?_⟩
  ·
   refine rn 7 ⟨λhg1=>?_,λhg1=>?_⟩
   ·
    refine rn 24 ⟨xQ Value.bool ?_,hF.same⟩
    first|exact (U5 kX qW).symm|exact (Gz kX kX qW).symm
   refine rn 5 ⟨λhg2=>?_,λhg2=>?_⟩
   ·
    refine rn 6 ⟨λhg3=>?_,λhg3=>?_⟩
    ·
     refine rn 9 ⟨λhc0=>?_,λhc0=>?_⟩
     ·
      refine rn 6 ⟨xQ Value.bool ?_,hF.same⟩
      first|exact (U5 kX qW).symm|exact (Gz kX kX qW).symm
     refine rn 1 ?_;exact Ja ⟨zM,zB,Ib,hF⟩
    refine rn 10 ?_;exact Ja ⟨zM,zB,Ib,hF⟩
   refine rn 15 ?_;exact Ja ⟨zM,zB,Ib,hF⟩
  refine rn 11 ⟨λhg4=>?_,λhg4=>?_⟩
  ·
   refine rn 6 ⟨λhg5=>?_,λhg5=>?_⟩
   ·
    refine rn 9 ⟨λhc0=>?_,λhc0=>?_⟩
    ·
     refine rn 6 ⟨xQ Value.bool ?_,hF.same⟩
     first|exact (U5 kX qW).symm|exact (Gz kX kX qW).symm
    refine rn 1 ?_;exact Ja ⟨zM,zB,Ib,hF⟩
   refine rn 10 ?_;exact Ja ⟨zM,zB,Ib,hF⟩
  refine rn 15 ?_;exact Ja ⟨zM,zB,Ib,hF⟩
 rintro σ w ⟨hk0,hx0,hzz,hF⟩;refine Kq hzz 17 ⟨λhc1=>?_,λhc1=>?_⟩
 ·
  refine rn 12 ⟨xQ Value.bool ?_,hF.same⟩
  first|(exfalso;omega)|exact (nd5 kX<|hk0 kX).symm|exact (nd1 kX (hk0 kX)<|hx0 kX kX).symm
 refine rn 6 ⟨λhc2=>?_,λhc2=>?_⟩
 ·
  refine rn 9 ⟨xQ Value.bool ?_,hF.same⟩
  first|(exfalso;omega)|exact (nd5 kX<|hk0 kX).symm|exact (nd1 kX (hk0 kX)<|hx0 kX kX).symm
 refine rn 7 ⟨λhc3=>?_,λhc3=>?_⟩
 ·
  refine rn 7 ⟨λhg6=>?_,λhg6=>?_⟩
  ·
   refine rn 8 ⟨xQ Value.bool ?_,hF.same⟩
   first|(exfalso;omega)|rw[nd2 kX (hk0 kX)<|hx0 kX kX]
   all_goals first|(rw[fZ (show t=[116,114,117,101] by assumption)];rfl)|(rw[eZ (show ¬t=[116,114,117,101] by assumption)];rfl)
  refine rn 8 ⟨xQ Value.bool ?_,hF.same⟩
  first|(exfalso;omega)|rw[nd2 kX (hk0 kX)<|hx0 kX kX]
  all_goals first|(rw[fZ (show t=[116,114,117,101] by assumption)];rfl)|(rw[eZ (show ¬t=[116,114,117,101] by assumption)];rfl)
 refine rn 7 ⟨λhc4=>?_,λhc4=>?_⟩
 ·
  refine rn 4<|Sa (Z8 t kX _) ?_;rintro w hF -;refine rn 4 ?_;rintro b2 w hb2 hF -;refine rn 10 ⟨xQ Value.bool ?_,hF.same⟩
  first|(exfalso;omega)|exact (nd3 kX (hk0 kX)<|hx0 kX kX).symm
 refine rn 7 ⟨λhc5=>?_,λhc5=>?_⟩
 ·
  refine rn 4<|Sa (utf_c t kX _) ?_;rintro w hF -;refine rn 4 ⟨xQ Value.bool ?_,hF.same⟩
  first|(exfalso;omega)|exact (nd4 kX (hk0 kX)<|hx0 kX kX).symm
 refine rn 7 ⟨λhc6=>?_,λhc6=>?_⟩
 ·
  refine rn 4<|Sa (Z8 t kX _) ?_;rintro w hF -;refine rn 4 ?_;rintro b3 w hb3 hF -;refine rn 6 ?_;refine Sa (rint_c (Ld t).1 (by have:=Kk t;omega) _) ?_;rintro w hF -;refine rn 12 ⟨λhg7=>?_,λhg7=>?_⟩
  ·
   refine rn 4 ⟨λhg8=>?_,λhg8=>?_⟩
   ·
    refine rn 7 ⟨xQ Value.bool ?_,hF.same⟩
    first|(exfalso;omega)|rw[nd7 kX (hk0 kX)<|hx0 kX kX]
    all_goals first|exact (VH qW).symm|exact (ZJ qW).symm|exact (CV qW qW).symm
   refine rn 7 ⟨xQ Value.bool ?_,hF.same⟩
   first|(exfalso;omega)|rw[nd7 kX (hk0 kX)<|hx0 kX kX]
   all_goals first|exact (VH qW).symm|exact (ZJ qW).symm|exact (CV qW qW).symm
  refine rn 10 ⟨xQ Value.bool ?_,hF.same⟩
  first|(exfalso;omega)|rw[nd7 kX (hk0 kX)<|hx0 kX kX]
  all_goals first|exact (VH qW).symm|exact (ZJ qW).symm|exact (CV qW qW).symm
 refine rn 7 ⟨λhc7=>?_,λhc7=>?_⟩
 ·
  refine rn 7<|Wa (λμ σ w=>∃(i:Nat),μ=aL ks-i/\(i<=aL ks)/\((ks.take i).all Lib.validD=true)/\((ks.take i).Nodup)/\AllEq σ [(1,V b1),(9,J<|(i:Int))]/\FR w0 [] [(b1,.cells #[J k,I t,.slice A (aL ks) c,.slice B (aL xs) e] 25)] w) _ ⟨0,O,cZ _,Da,Da,Ib,hF⟩ ?_;rintro μ σ w ⟨i,rfl,hi,hva,hnd,hzz,hF⟩;refine Tf hzz 11 ⟨λhc8=>?_,λhc8=>?_⟩
  ·
   refine rn 9 ?_;obtain⟨ad9,hA9,hk9,hx9⟩:=hK.str_elem (i:=i) kX;refine Ca (v:=.pointer<|some<|ad9.add<|i*1) (Ea (i:=(i:Int)) Nd hA9)<|Ca (v:=I<|ks[i]) (Ma sZ<|hF.cell0 hk9) ?_;refine Sa (utf_c ks[i] (by have:=hkm i kX;omega) _) ?_;rintro w hF -;refine rn 11 ⟨λhc9=>?_,λhc9=>?_⟩
   ·
    refine rn 6 ⟨xQ Value.bool ?_,hF.same⟩;have h6:k=6:=kX;subst h6;exact (six_bad (i:=i) kX<|Bx qW).symm
   refine rn 8 ?_;have hik:i<aL ks:=by_Om
   refine Wa (λμ σ w=>∃(m:Nat),μ=i-m/\(m<=i)/\(∀q (hq:q<aL ks),q<m->ks[q]≠ks[i]' hik)/\AllEq σ [(1,V b1),(9,J<|(i:Int)),(11,J<|(m:Int))]/\FR w0 [] [(b1,.cells #[J k,I t,.slice A (aL ks) c,.slice B (aL xs) e] 25)] w) _ ⟨0,O,cZ _,λq _ h=>absurd h kX,Ib,hF⟩ ?_;rintro μ σ w ⟨m,rfl,hmi,hno,hzz,hF⟩;refine Tf hzz 9 ⟨λhc10=>?_,λhc10=>?_⟩
   ·
    refine rn 5<|Wd (zs:=.of []) (bQ [0,1,2,3,4,5,6,7,8,9,10] .nil) hF ?_;intro w hF;refine rn 3 ?_;obtain⟨ad10,hA10,hk10,hx10⟩:=hK.str_elem (i:=m) kX;refine Fa O (v:=.pointer<|some<|ad10.add<|m*1) (λw hC=>Ea (i:=(m:Int)) Nd hA10)<|Fa O (v:=I<|ks[m]) (λw hC=>Ma sZ<|hC.cell0 hk10) ?_;refine rn 3 ?_;obtain⟨ad11,hA11,hk11,hx11⟩:=hK.str_elem (i:=i) kX;refine Fa O (v:=.pointer<|some<|ad11.add<|i*1) (λw hC=>Ea (i:=(i:Int)) Nd hA11)<|Fa O (v:=I<|ks[i]) (λw hC=>Ma sZ<|hC.cell0 hk11) ?_;refine rn 4 ⟨λhc11=>?_,λhc11=>?_⟩
    ·
     refine rn 6 ⟨xQ Value.bool ?_,hF.same⟩;have h6:k=6:=kX;subst h6;exact (six_dup (i:=i) (m:=m) kX kX qW).symm
    refine rn 5<|Kc (Ce<|((m+1:Nat):Int)) ?_;refine rn 2 ?_;refine Ja ⟨_,?_,m+1,rfl,kX,(λq hq h=>by rcases Nat.lt_or_ge q m with h1|h1;exact hno q hq h1;obtain rfl:q=m:=kX;assumption),Ib,hF⟩;omega
   refine rn 5<|Kc (Ce<|((i+1:Nat):Int)) ?_;refine rn 2 ?_;refine Ja ⟨_,?_,i+1,rfl,kX,Xx kX hva<|Xs qW,(Mu kX hnd (λhm=>by obtain⟨q,hq,hq2⟩:=List.mem_take_iff_getElem.1 hm;exact hno q kX kX hq2)),Ib,hF⟩;omega
  refine rn 9 ⟨λhg12=>?_,λhg12=>?_⟩
  ·
   refine rn 12 ⟨xQ Value.bool ?_,hF.same⟩;have h6:k=6:=kX;subst h6;have hz:=JW (t:=t) (ks:=ks) (xs:=xs) (by rw[<-dZ (show aL ks<=i by omega)];exact hnd) (by rw[<-dZ (show aL ks<=i by omega)];exact hva);rw[hz]
   first|(rw[fZ (show t=[] by assumption),Bool.true_and])|(rw[eZ (show ¬t=[] by assumption),Bool.false_and])
  refine rn 12 ⟨xQ Value.bool ?_,hF.same⟩;have h6:k=6:=kX;subst h6;have hz:=JW (t:=t) (ks:=ks) (xs:=xs) (by rw[<-dZ (show aL ks<=i by omega)];exact hnd) (by rw[<-dZ (show aL ks<=i by omega)];exact hva);rw[hz]
  first|(rw[fZ (show t=[] by assumption),Bool.true_and])|(rw[eZ (show ¬t=[] by assumption),Bool.false_and])
 refine rn 9 ⟨xQ Value.bool ?_,hF.same⟩;exact (node_not kX kX kX kX kX kX kX).symm
def all_next{α:Type}{f:α->Bool}{l:List α}{j:Nat}(h:j<aL l)(ha:(l.take j).all f=true)(hf:f l[j]=true):(l.take (j+1)).all f=true:=by
  rw[iQ h,List.all_append,ha,List.all_cons,hf];rfl
theorem all_fails{α:Type}{f:α->Bool}{l:List α}{j:Nat}(h:j<aL l)(hf:f l[j]=false):l.all f=false:=qK
def VI(q:Tree->Bool)(k:Int)(t:Str)(ks:List Str)(xs:List Tree):Zb q (.node k t ks xs)=(q (.node k t ks xs)&&xs.all (Zb q)):=by rw[Zb,Wr]
def SM(k:Int)(t:Str)(ks:List Str)(xs:List Tree)(ih:∀x,x∈xs->WU x):WU (.node k t ks xs):=by
 intro hsz hm h S w0 cs hR;obtain⟨A,c,B,e,rfl,-,-,hK,hX⟩:=hR.tree_inv;have hR0:=hR;have hXl:=hX.slice_len;rw[Ka]at hsz;refine Ga func86 ntmps86 ?_;intro hF;refine rn 3 ?_;rintro b1 w hb1 hF -;refine rn 6<|Sa (rnode_c_ k t ks xs _ _ _ (hF.rep hR0) hm) ?_;rintro w hF -;refine rn 5<|Sc (λσ w=>∃(bd:Bool),(bd = !(JU h<|.node k t ks xs))/\AllEq σ [(1,.bool h),(2,V b1),(20,.bool bd)]/\FR w0 [] [(b1,.cells #[J k,I t,.slice A (aL ks) c,.slice B (aL xs) e] 25)] w) ?_ ?_;refine rn 5 ⟨λhg0=>?_,λhg0=>?_⟩;refine rn 9 ?_;exact Ja ⟨true,qN,Ib,hF⟩;refine rn 5 ⟨λhg1=>?_,λhg1=>?_⟩;refine rn 5 ?_;exact Ja ⟨!(h),qN,Ib,hF⟩;refine rn 5 ?_;exact Ja ⟨false,qN,Ib,hF⟩;rintro σ w ⟨bd,hbd,hzz,hF⟩;refine Kq hzz 2 ⟨λhc0=>?_,λhc0=>?_⟩;refine rn 6 ⟨xQ Value.bool ?_,hF.same⟩;have hn:JU h (.node k t ks xs)=false:=by rw[hbd]at hc0;simpa using hc0
 rw[VI,hn];rfl;refine rn 9<|Wa (λμ σ w=>∃(j:Nat),μ=aL xs-j/\(j<=aL xs)/\((xs.take j).all (Zb<|JU h)=true)/\AllEq σ [(1,.bool h),(2,V b1),(6,J<|(j:Int))]/\FR w0 [] [(b1,.cells #[J k,I t,.slice A (aL ks) c,.slice B (aL xs) e] 25)] w) _ ⟨0,O,cZ _,Da,Ib,hF⟩ ?_;rintro μ σ w ⟨j,rfl,hj,ha,hzz,hF⟩;refine Tf hzz 11 ⟨λhc1=>?_,λhc1=>?_⟩;refine rn 9 ?_;obtain⟨ad2,cs2,hA2,hl2,hk2,hx2⟩:=hX.tree_elem (i:=j) kX;have ho2:=hx2.one_;refine Ca (v:=.pointer<|some<|ad2.add<|j*4) (Ea (i:=(j:Int)) Ad hA2)<|Ca (v:=.agg<|List.toArray cs2) (Pa (l:=cs2) oZ tZ O hl2<|hF.cells0 hk2) ?_;refine rn 1 ?_;refine Sa (ih _ (eQ _) qU (by have:=Vd<|List.getElem_mem (l:=xs) (n:=j) kX;rw[Kb]at hm;omega) h _ _ _<|hF.rep hx2) ?_;rintro w hF -;refine rn 10 ⟨λhc2=>?_,λhc2=>?_⟩;refine rn 6 ⟨xQ Value.bool ?_,hF.same⟩;rw[VI,all_fails (f:=Zb<|JU h) (l:=xs) (j:=j) kX<|Bx qW,Bool.and_false];refine rn 5<|Kc (Ce<|((j+1:Nat):Int)) ?_;refine rn 2<|Ja ⟨_,?_,j+1,O,kX,all_next kX ha<|Xs qW,Ib,hF⟩;omega;refine rn 8 ⟨xQ Value.bool ?_,hF.same⟩;have hn:JU h (.node k t ks xs)=true:=by rw[hbd]at hc0;simpa using hc0
 have hz:xs.all (Zb<|JU h)=true:=by rw[<-dZ (show aL xs<=j by omega)];exact ha
 rw[VI,hn,hz];rfl
def rnodesT_c(x:Tree):WU x:=Tree.ind SM x
theorem IY(x:Tree)(hsz:Ka x<=1000000000)(hm:Kb x<=1073741824)(S:Nat->Prop)(w0:World)(cs:List Value)(hR:Rep S w0 (Ta x) cs):Calls prog 49 #[.agg cs.toArray] w0 (Qb λv w'=>v=.bool (Fd x)/\Same [] w0 w'):=by
 have hl:aL cs=4:=hR.length.trans<|Eb x;have ho:=hR.one_;refine Ga func49 ntmps49 ?_;intro hF;refine rn 2<|Oi (v:=.agg<|List.toArray cs) (cs:=(List.toArray cs)) hF O O ?_;rintro b1 w hb1 hF -;refine rn 5<|Ca (v:=.agg<|List.toArray cs) (Pa (l:=cs) oZ tZ O hl<|hF.cellsAll 0 O) ?_;refine Sa (rsizeT_c x hsz _ _ cs<|hF.rep hR) ?_;rintro w hF -;refine rn 3 ⟨λhg0=>?_,λhg0=>?_⟩;refine Ca (v:=.agg<|List.toArray cs) (Pa (l:=cs) oZ tZ O hl<|hF.cellsAll 0 O)<|Sa (rdepthT_c x hsz _ _ cs<|hF.rep hR) ?_;rintro w hF -;refine rn 4 ⟨λhg1=>?_,λhg1=>?_⟩;refine Ca (v:=.agg<|List.toArray cs) (Pa (l:=cs) oZ tZ O hl<|hF.cellsAll 0 O) ?_;refine Sa ((by have h:=rnodesT_c x hsz hm true _ _ cs<|hF.rep hR;rw[hn_true]at h;exact h)) ?_;rintro w hF -;refine rn 5 ⟨xQ Value.bool ?_,hF.same⟩;unfold Fd Ji
 ·first|(rw[eZ (show ¬Ka x<=4096 by omega)];simp;done)|(rw[eZ (show ¬Cb x<=32 by omega)];simp;done)|(rw[fZ (show Ka x<=4096 by omega),fZ (show Cb x<=32 by omega)];simp;done)|simp_all
 refine rn 7 ⟨xQ Value.bool ?_,hF.same⟩;unfold Fd Ji
 ·first|(rw[eZ (show ¬Ka x<=4096 by omega)];simp;done)|(rw[eZ (show ¬Cb x<=32 by omega)];simp;done)|(rw[fZ (show Ka x<=4096 by omega),fZ (show Cb x<=32 by omega)];simp;done)|simp_all
 refine rn 12 ⟨xQ Value.bool ?_,hF.same⟩;unfold Fd Ji
 ·first|(rw[eZ (show ¬Ka x<=4096 by omega)];simp;done)|(rw[eZ (show ¬Cb x<=32 by omega)];simp;done)|(rw[fZ (show Ka x<=4096 by omega),fZ (show Cb x<=32 by omega)];simp;done)|simp_all
def JN(ks:List Str)(key:Str):Int:=if key∈ks then ((ks.idxOf key:Nat):Int) else -1
theorem idx_at:∀{ks:List Str}{key:Str}{j:Nat}(h:j<aL ks),(∀x∈ks.take j,x≠key)->ks[j]=key->ks.idxOf key=j
  | k :: ks, key, 0, _, _, he => by
    have he':k=key:=he;rw[List.idxOf_cons,he'];simp
  | k :: ks, key, j + 1, h, hn, he => by
    have h0:k≠key:=hn k Da;rw[List.idxOf_cons];have hb:(k==key)=false:=aS h0
    rw[hb];simp only[cond_false];rw[idx_at (ks:=ks) (j:=j) (aS h) (λx hx=>hn x jV) (aS he)]
theorem DL{key:Str}{j:Nat}(h:j<aL ks)(hn:∀x∈ks.take j,x≠key)(he:ks[j]=key):JN ks key=(j:Int):=by grind [JN,idx_at]
theorem YX{key:Str}(hn:∀x∈ks,x≠key):JN ks key = -1:=by grind [JN]
theorem no_next{key:Str}{j:Nat}(h:j<aL ks)(hn:∀x∈ks.take j,x≠key)(he:ks[j]≠key):∀x∈ks.take (j+1),x≠key:=by
  rw[iQ h];grind
def at_c(k:Int)(t:Str)(ks:List Str)(xs:List Tree)(key:Str)(S:Nat->Prop)(w0:World)(cs:List Value)(hR:Rep S w0 (Ta (.node k t ks xs)) cs):Calls prog 87 #[.agg cs.toArray,I key] w0 (Qb λv w'=>v=J (JN ks key)/\Same [] w0 w'):=by
 obtain⟨A,c,B,e,rfl,-,-,hK,hX⟩:=hR.tree_inv;have hKl:=hK.slice_len;refine Ga func87 ntmps87 ?_;intro hF;refine rn 3 ?_;rintro b1 w hb1 hF -;refine rn 10<|Wa (λμ σ w=>∃(j:Nat),μ=aL ks-j/\(j<=aL ks)/\(∀x∈ks.take j,x≠key)/\AllEq σ [(1,I key),(2,V b1),(5,J<|(j:Int))]/\FR w0 [] [(b1,.cells #[J k,I t,.slice A (aL ks) c,.slice B (aL xs) e] 25)] w) _ ⟨0,O,cZ _,Da,Ib,hF⟩ ?_;rintro μ σ w ⟨j,rfl,hj,hno,hzz,hF⟩;refine Tf hzz 11 ⟨λhc0=>?_,λhc0=>?_⟩;refine rn 9 ?_;obtain⟨ad0,hA0,hk0,hx0⟩:=hK.str_elem (i:=j) kX;refine Ca (v:=.pointer<|some<|ad0.add<|j*1) (Ea (i:=(j:Int)) Nd hA0)<|Ca (v:=I<|ks[j]) (Ma sZ<|hF.cell0 hk0) ?_;refine rn 5 ⟨λhc1=>?_,λhc1=>?_⟩;refine rn 7 ?_;exact⟨by rw[DL kX hno qW],hF.same⟩;refine rn 5<|Kc (Ce<|((j+1:Nat):Int)) ?_;refine rn 2<|Ja ⟨_,?_,j+1,O,kX,no_next kX hno qW,Ib,hF⟩;omega;refine rn 8 ?_;exact⟨by rw[YX (by rw[dZ kX]at hno;exact hno)],hF.same⟩
theorem PY:∀{ks:List Str}{xs:List Tree}{key:Str},key∈ks->∀h:ks.idxOf key<aL xs,Wb ks xs key=some (xs[ks.idxOf key]' h)
  | [],_,_,h,_=>absurd h Da
  | k::ks,[],key,_,h2=>absurd h2 Da
  | k :: ks, x :: xs, key, h, h2 => by
    rw[Wb];by_cases he:k=key
    ·have h0 : (k :: ks).idxOf key = 0 := by rw[List.idxOf_cons, he];simp
     rw[uQ he];simp only[h0,List.getElem_cons_zero]
    have hb : (k==key) = false := by simpa using he
    have h0:(k::ks).idxOf key=ks.idxOf key+1:=by rw[List.idxOf_cons,hb];simp
    have hk:key∈ks:=by
      rcases oQ.1 h with h|h
      ·exact absurd h.symm he
      exact h
    rw[tQ he,PY hk (by rw[h0]at h2;simpa using h2)];simp only[h0,List.getElem_cons_succ]
theorem at_look{xs:List Tree}{key:Str}{q:Nat}(hl:aL ks=aL xs)(h:JN ks key=(q:Int)):∃hq:q<aL xs,Wb ks xs key=some xs[q]:=by grind [JN,PY]
theorem at_no{xs:List Tree}{key:Str}(h:JN ks key<0):Wb ks xs key=none:=by
  unfold JN at h;by_cases hm:key∈ks
  ·grind
  cases hl : Wb ks xs key with
  | none=>rfl
  | some y=>grind [Ss]
theorem getX_c(x:Tree)(key:Str)(hsz:Ka x<=1000000000)(S:Nat->Prop)(w0:World)(cs:List Value)(hR:Rep S w0 (Ta x) cs)(hk:Sz x)(hG:Gl w0):Calls prog 78 #[.agg cs.toArray,I key] w0 (Qb λv w'=>∃ct:List Value,v=.tuple #[.agg ct.toArray,.bool (Xi x key).2]/\Rep (Btw w0 w') w' (Ta (Xi x key).1) ct/\Same [] w0 w'):=by
  obtain⟨k,t,ks,xs⟩:=x;grind [getV_c]
theorem NG:∀{xs ys:List Tree},aL xs=aL ys->(Uu xs ys=true↔∀i (h:i<aL xs) (h2:i<aL ys),We xs[i] ys[i]=true)
  | [],[],_=>by simp[Uu]
  | x :: xs, y :: ys, h => by
    rw[Uu,vQ,NG (xs:=xs) (ys:=ys) (aS h)];constructor
    ·rintro⟨h1, h2⟩ i hi hi2
     cases i with
     | zero=>exact h1
     | succ i=>exact h2 i (aS hi) (aS hi2)
    intro h1;exact⟨h1 0 Da Da,λi hi hi2=>h1 (i+1) (aS hi) (aS hi2)⟩
def Mate(k:Int)(ks ks':List Str)(xs ys:List Tree)(i:Nat)(y:Tree):Prop:=(k≠6/\ys[i]? = some y)\/(k=6/\∃h:i<aL ks,Wb ks' ys ks[i]=some y)
theorem Mate.det{xs ys:List Tree}{y z:Tree}(h:Mate k ks ks' xs ys i y)(h2:Mate k ks ks' xs ys i z):y=z:=by
  rcases h with ⟨a,b⟩|⟨a,c,b⟩ <;> rcases h2 with ⟨a2,b2⟩|⟨a2,c2,b2⟩
  all_goals grind
theorem EE{xs ys:List Tree}(hl:aL xs=aL ys)(hk:k=6->aL ks=aL xs/\aL ks'=aL ys) :
    We (.node k t ks xs) (.node k t ks' ys)=true↔∀i (h:i<aL xs),∃y,Mate k ks ks' xs ys i y/\We xs[i] y=true:=by
  rw[We,fZ rfl,fZ rfl,fZ hl,Bool.true_and,Bool.true_and,Bool.true_and];by_cases h6:k=6
  ·obtain⟨h1, h2⟩ := hk h6
   rw[tQ (aS h6),fZ kX,Bool.true_and,SB xs ks ks' ys h1];constructor
   ·intro h i hi
    obtain⟨y,hy,hs⟩:=h i kX;exact⟨y,.inr ⟨h6,by_Om,hy⟩,hs⟩
   intro h i hi;obtain⟨y,hy,hs⟩:=h i kX;rcases hy with ⟨a,_⟩|⟨_,_,b⟩
   ·grind
   grind
  rw[uQ h6, NG hl];constructor
  ·intro h i hi
   exact⟨ys[i]' kX,.inl ⟨h6,List.getElem?_eq_getElem kX⟩,h i hi kX⟩
  intro h i hi hi2;obtain⟨y,hy,hs⟩:=h i hi;rcases hy with ⟨_,b⟩|⟨a,_⟩
  ·grind
  grind
theorem Z5{k':Int}{t':Str}{xs ys:List Tree}(h:k≠k'\/t≠t'\/((aL xs:Nat):Int)≠((aL ys:Nat):Int)):We (.node k t ks xs) (.node k' t' ks' ys)=false:=by grind [We]
theorem Y9{xs ys:List Tree}(hl:aL xs=aL ys)(hk:k=6->aL ks=aL xs/\aL ks'=aL ys)(h:i<aL xs)(hf:∀y,Mate k ks ks' xs ys i y->We xs[i] y=false):We (.node k t ks xs) (.node k t ks' ys)=false:=by grind [EE]
def EU(x:Tree):Prop:=∀y S S' w0 cs ct,Rep S w0 (Ta x) cs->Rep S' w0 (Ta y) ct->Zb nodeB x=true->Zb nodeB y=true->Calls prog 50 #[.agg cs.toArray,.agg ct.toArray] w0 (Qb λv w'=>v=.bool (We x y)/\Same [] w0 w')
def LQ(k:Int)(t:Str)(ks:List Str)(xs:List Tree)(ih:∀x,x∈xs->EU x):EU (.node k t ks xs):=by
 rintro⟨k',t',ks',ys⟩ S S' w0 cs ct hR hR' hn hn';obtain⟨A,c,B,e,rfl,-,-,hK,hX⟩:=hR.tree_inv;obtain⟨A',c',B',e',rfl,-,-,-,hY⟩:=hR'.tree_inv;have hKl:=hK.slice_len;have hXl:=hX.slice_len;have hYl:=hY.slice_len;have hnx:=Yc hn;have hny:=Yc hn';refine Ga func50 ntmps50 ?_;intro hF;refine rn 3 ?_;rintro b1 w hb1 hF -;refine rn 1 ?_;rintro b2 w hb2 hF -;refine rn 13 ⟨λhg0=>?_,λhg0=>?_⟩;refine rn 24 ?_;exact⟨by rw[Z5 bW],hF.same⟩;refine rn 8 ⟨λhg1=>?_,λhg1=>?_⟩;refine rn 17 ?_;exact⟨by rw[Z5 bW],hF.same⟩;refine rn 11 ⟨λhc0=>?_,λhc0=>?_⟩;refine rn 6 ?_;exact⟨by rw[Z5 bW],hF.same⟩;refine rn 9 ?_;have hk_:k'=k:=by_Om
 have ht_:t'=t:=(Classical.byContradiction λh=>absurd h qW:t=t').symm;have hll:aL xs=aL ys:=by_Om
 have hlk:k=6->aL ks=aL xs/\aL ks'=aL ys:=λh=>⟨(Xk<|h▸hnx.1).2,(Xk<|(hk_.trans h)▸hny.1).2⟩;refine Wa (λμ σ w=>∃(j:Nat),μ=aL xs-j/\(j<=aL xs)/\(∀i (h:i<aL xs),i<j->∃y,Mate k ks ks' xs ys i y/\We xs[i] y=true)/\AllEq σ [(2,V b1),(3,V b2),(5,J<|(j:Int))]/\FR w0 [] [(b2,.cells #[J k',I t',.slice A' (aL ks') c',.slice B' (aL ys) e'] 25),(b1,.cells #[J k,I t,.slice A (aL ks) c,.slice B (aL xs) e] 25)] w) _ ⟨0,O,cZ _,λi _ h=>absurd h kX,Ib,hF⟩ ?_;rintro μ σ w ⟨j,rfl,hj,ha,hzz,hF⟩;refine Tf hzz 11 ⟨λhc1=>?_,λhc1=>?_⟩;refine rn 10 ?_;have hjx:j<aL xs:=by_Om
 refine rn 1<|Sc (λσ w=>∃(kk:Int),(kk=if k=6 then (if h:j<aL ks then JN ks' ks[j] else -1) else (j:Int))/\AllEq σ [(2,V b1),(3,V b2),(5,J<|(j:Int)),(6,J kk)]/\FR w0 [] [(b2,.cells #[J k',I t',.slice A' (aL ks') c',.slice B' (aL ys) e'] 25),(b1,.cells #[J k,I t,.slice A (aL ks) c,.slice B (aL xs) e] 25)] w) ?_ ?_;refine rn 8 ⟨λhc2=>?_,λhc2=>?_⟩;refine Wd (zs:=.of []) (bQ [0,1,2,3,4,5]<|.act 6<|.free 7 .nil) hF ?_;intro w hF;refine rn 4 ?_;obtain⟨ad2,hA2,hk2,hx2⟩:=hK.str_elem (i:=j) kX;refine Fa O (v:=.pointer<|some<|ad2.add<|j*1) (λw hC=>Ea (i:=(j:Int)) Nd hA2)<|Fa O (v:=I<|ks[j]) (λw hC=>Ma sZ<|hC.cell0 hk2) ?_;refine Ie (at_c k' t' ks' ys ks[j] _ _ _ (hF.rep hR')) ?_;rintro w hF -;refine rn 2 ?_
 ·exact Ja ⟨JN ks' ks[j],kJ,Ib,hF⟩
 refine rn 1 ?_
 ·exact Ja ⟨(j:Int),kJ,Ib,hF⟩
 rintro σ w ⟨kk,hkk,hzz,hF⟩;refine Kq hzz 9 ⟨λhc3=>?_,λhc3=>?_⟩;have h6:k=6:=Classical.byContradiction λh=>by rw[tQ h]at hkk;omega
 refine rn 6 ?_;subst hk_;subst ht_;exact⟨by rw[Y9 hll hlk (i:=j) hjx (λy hy=>by rcases hy with ⟨a,_⟩|⟨_,hh,b⟩;exact absurd h6 a;rw[uQ h6,dif_pos hh]at hkk;rw[at_no (xs:=ys) kX]at b;cases b)],hF.same⟩;obtain⟨q,hq⟩:∃q:Nat,kk=(q:Int):=⟨kk.toNat,by_Om⟩;subst hq;obtain⟨hq3,hmate⟩:∃h:q<aL ys,Mate k ks ks' xs ys j ys[q]:=by by_cases h6:k=6;(rw[uQ h6,dif_pos (show j<aL ks by have:=(hlk h6).1;omega)]at hkk;obtain⟨a,b⟩:=at_look (xs:=ys) (hlk h6).2 hkk.symm;exact⟨a,.inr ⟨h6,by have:=(hlk h6).1;omega,b⟩⟩);(rw[tQ h6]at hkk;obtain rfl:q=j:=kX;exact⟨by_Om,.inl ⟨h6,List.getElem?_eq_getElem kX⟩⟩)
 refine rn 3<|Wd (zs:=.of []) (bQ [0,1,2,3,4,5,6,7,8,9]<|.act 10<|.free 11 .nil) hF ?_;intro w hF;refine rn 3 ?_;obtain⟨ad3,cs3,hA3,hl3,hk3,hx3⟩:=hX.tree_elem (i:=j) kX;have ho3:=hx3.one_;refine Fa O (v:=.pointer<|some<|ad3.add<|j*4) (λw hC=>Ea (i:=(j:Int)) Ad hA3)<|Fa O (v:=.agg<|List.toArray cs3) (λw hC=>Pa (l:=cs3) oZ tZ O hl3<|hC.cells0 hk3) ?_;refine rn 3 ?_;obtain⟨ad4,cs4,hA4,hl4,hk4,hx4⟩:=hY.tree_elem (i:=q) hq3;have ho4:=hx4.one_;refine Fa O (v:=.pointer<|some<|ad4.add<|q*4) (λw hC=>Ea (i:=(q:Int)) Ad hA4)<|Fa O (v:=.agg<|List.toArray cs4) (λw hC=>Pa (l:=cs4) oZ tZ O hl4<|hC.cells0 hk4) ?_;refine Ie (ih xs[j] (eQ hjx) ys[q] _ _ _ cs3 cs4 (hF.rep hx3) (hF.rep hx4) (hnx.2 _<|eQ hjx) (hny.2 _<|eQ hq3)) ?_;rintro w hF -;refine rn 10 ⟨λhc4=>?_,λhc4=>?_⟩;refine rn 6 ?_;subst hk_;subst ht_;exact⟨by rw[Y9 hll hlk (i:=j) hjx (λy hy=>by rw[hy.det hmate];exact Bx qW)],hF.same⟩;refine rn 5<|Kc (Ce<|((j+1:Nat):Int)) ?_;refine rn 2 ?_;refine Ja ⟨_,?_,j+1,rfl,kX,(λi hi h=>by rcases Nat.lt_or_ge i j with h1|h1;exact ha i hi h1;obtain rfl:i=j:=kX;exact⟨_,hmate,Xs qW⟩),Ib,hF⟩;omega;refine rn 8 ?_;subst hk_;subst ht_;exact⟨by rw[(EE hll hlk).2 (λi h=>ha i h kX)],hF.same⟩
def rsameT_c(x:Tree):EU x:=Tree.ind LQ x
def rsameV_c(x y:Tree)(hsx:Ka x<=1000000000)(hsy:Ka y<=1000000000)(hmx:Kb x<=1073741824)(hmy:Kb y<=1073741824)(S S':Nat->Prop)(w0:World)(cs ct:List Value)(hR:Rep S w0 (Ta x) cs)(hR':Rep S' w0 (Ta y) ct):Calls prog 27 #[.agg cs.toArray,.agg ct.toArray] w0 (Qb λv w'=>v=.bool (Zn x y)/\Same [] w0 w'):=by
 have hl:aL cs=4:=hR.length.trans<|Eb x;have ho:=hR.one_;have hl':aL ct=4:=hR'.length.trans<|Eb y;have ho':=hR'.one_;refine Ga func27 ntmps27 ?_;intro hF;refine rn 2<|Oi (v:=.agg<|List.toArray cs) (cs:=(List.toArray cs)) hF O O ?_;rintro b1 w hb1 hF -;refine Oi (v:=.agg<|List.toArray ct) (cs:=(List.toArray ct)) hF O O ?_;rintro b2 w hb2 hF -;refine rn 5<|Ca (v:=.agg<|List.toArray cs) (Pa (l:=cs) oZ tZ O hl<|hF.cellsAll 1 O) ?_;refine Sa (IY x hsx hmx S _ cs<|hF.rep hR) ?_;rintro w hF -;refine rn 5<|Ca (v:=.agg<|List.toArray ct) (Pa (l:=ct) oZ tZ O hl'<|hF.cellsAll 0 O) ?_;refine Sa (IY y hsy hmy S' _ ct<|hF.rep hR') ?_;rintro w hF -;refine rn 8 ⟨λhg0=>?_,λhg0=>?_⟩;refine rn 4 ⟨λhg1=>?_,λhg1=>?_⟩;refine Ca (v:=.agg<|List.toArray cs) (Pa (l:=cs) oZ tZ O hl<|hF.cellsAll 1 O)<|Ca (v:=.agg<|List.toArray ct) (Pa (l:=ct) oZ tZ O hl'<|hF.cellsAll 0 O) ?_;refine Sa (rsameT_c x y _ _ _ cs ct (hF.rep hR) (hF.rep hR') (Ei qW)<|Ei qW) ?_;rintro w hF -;refine rn 5 ⟨xQ Value.bool ?_,hF.same⟩;unfold Zn
 first|(rw[(by assumption:Fd x=false)];rfl)|(rw[(by assumption:Fd y=false),Bool.and_false];rfl)|(rw[(by assumption:Fd x=true),(by assumption:Fd y=true)];rfl)
 refine rn 8 ⟨xQ Value.bool ?_,hF.same⟩;unfold Zn
 first|(rw[(by assumption:Fd x=false)];rfl)|(rw[(by assumption:Fd y=false),Bool.and_false];rfl)|(rw[(by assumption:Fd x=true),(by assumption:Fd y=true)];rfl)
 refine rn 11 ⟨xQ Value.bool ?_,hF.same⟩;unfold Zn
 first|(rw[(by assumption:Fd x=false)];rfl)|(rw[(by assumption:Fd y=false),Bool.and_false];rfl)|(rw[(by assumption:Fd x=true),(by assumption:Fd y=true)];rfl)
open Go.RowKit Go.Proofs Go.Maps
theorem strLt_is(a b:Str):Tu a b=decide (a<b):=bytesLess_eq a b
section
variable {P:Program}{w0 w:World}{Ds ids:List Nat}
theorem KU{l:List Str}{ad:Addr}{c:Nat}(h:RX w0 ids w [Ya l] [.slice A n c])(hA:A=some ad):∀q (hq:q<aL l),w.cell? (ad.add (q*1))=some (I (l[q])):=λq hq=>by
  obtain⟨ad',hA',hc,-⟩:=h.rep.str_elem hq;grind
theorem strs_addr{l:List Str}{c:Nat}(h:RX w0 ids w [Ya l] [.slice A n c])(hl:0<aL l):∃ad,A=some ad:=by
  obtain⟨ad,hA,-⟩:=h.rep.str_elem hl;grind
def B8{t e:TypeId}(h:P.underlying t=some (.slice e)):P.elem t=e:=by
  unfold Program.elem;rw[h]
theorem x_sliceLo{ρ:Operand->Value}{dst:Option Nat}{ty:TypeId}{pos:String}{aft:Array Edge}{g:Option (Nat × Bool)}{t sz:Nat}{x y:Operand}{c:Nat}{k:IntKind}(m:Nat)(ht:Nf P t e sz)(hx:ρ x=.slice A n c)(hy:ρ y=.int k (m:Int))(hm:m<=n) :
    (execOp ρ ⟨dst,.slice t x (some y) none none,ty,pos,aft,g⟩).run P w=.ok (.value (.slice (if c=m then A else A.map (·.add (m*sz))) (n-m) (c-m))) w:=by
  have he:=B8 ht.1;have ht':P.underlying t=some (.slice<|P.elem t):=by rw[he];exact ht.1
  have h:=run_slice_l (P:=P) w t A n c ht' k m kX kX;have hs:(sizeOf<|P.elem t).run P w=.ok sz w:=by rw[he];exact ht.2 w
  rw[hs]at h;simp only[execOp,Option.map_none,Option.map_some,hx,hy,run_sliceAt_slice w t _ _ _ _ ht',Sem.run_bind,h,Result.andThen,sliced,Int.toNat_natCast];rfl
theorem erase_eq{α:Type}(l:List α)(m:Nat):l.eraseIdx m=l.take m++l.drop (m+1):=qK
theorem append_left{t ty bytes:Nat}{l:List Str}{c:Nat}(hE:Elems P t e 1 bytes)(hL:RX w0 ids w [Ya l] [.slice A n c])(hm:m<n)(hids:∀b∈ids,b<w.heap.size)(hw:w0.heap.size<=w.heap.size)(h63:n<=4611686018427387904)(hb:n*bytes<=140737488355328) :
    ∃A' c' w',(Builtin.append_ #[t,t] ty #[.slice A m m,.slice (if c=m+1 then A else A.map (·.add ((m+1)*1))) (n-(m+1)) (c-(m+1))]).run P w=.ok (.slice A' (n-1) c') w'/\RX w0 ids w' [Ya (l.eraseIdx m)] [.slice A' (n-1) c']/\Same [] w w':=by
  have hn:n=aL l:=by have:=hL.rep.slice_len;simpa using this.1
  have hcap:=hL.rep.slice_len.2;obtain⟨ad,hA⟩:=strs_addr hL kX;subst hA;have hc:=KU hL rfl;have hlen:aL (l.eraseIdx m)=n-1:=qK
  obtain⟨i,z,hi,hz,h2,h3,h4⟩:=hE.info;have hlits:∀(S:Nat->Prop)(wx:World)(q:List Str),(∀s∈q,aL s<=9223372036854775807)->RepL S wx (q.map Ai) (q.map λs=>Value.string<|bs s):=by
    intro S wx q
    induction q with
    | nil=>grind [RepL.nil_mk]
    | cons s q ih=>exact λh=>RepL.cons_mk (Rep.lit_mk (v:=I s)<|h s Da)<|ih λx hx=>h x jV
  have hls:∀s∈l,aL s<=9223372036854775807:=by
    intro s hs;obtain⟨q,hq,rfl⟩:=List.mem_iff_getElem.1 hs;obtain⟨_,_,_,h⟩:=hL.rep.str_elem hq;exact h
  by_cases hk:n=m+1
  ·
   refine⟨some ad,m,w,?_,?_,Same.refl _ _⟩
   ·have hz0 : n-(m + 1) = 0 := by omega
    rw[hz0,show n-1=m by omega];have hf:∀A2 c2,(Builtin.firstCells i.size 0<|.slice A2 0 c2).run P w=.ok #[] w:=by
      intro A2 c2;cases A2 <;> simp[Builtin.firstCells,loadCells,loadCellsFrom]
    simp[Builtin.append_,run_underlying hE.ht,sizeOf,typeInfo,hi,Builtin.lenOf,hf,storeCells]
   have e1 : l.eraseIdx m = l.take m := by grind
   rw[e1,show n-1=m by omega];refine .one<|Rep.slice_mk qP (gQ _) kX λhne=>?_;obtain⟨A',c',hA',_,_,h6⟩:=Rep.slice_inv hL.rep;simp only[List.cons.injEq,Value.slice.injEq,and_true]at hA';obtain⟨rfl,_,_⟩:=hA';obtain⟨ad',hA2,es,hce,hre⟩:=h6 (by intro e;have:=xQ List.length e;rw[rQ,aZ]at this;omega);obtain rfl:=lQ hA2;have h0:0<aL es:=by
     rcases Nat.eq_zero_or_pos (aL es) with h|h
     ·have : es = [] := by grind
      subst this;have h7:=hre.length;have hz:∀q:List Str,Rc.sizeL (q.map Ai)=aL q:=by
        intro q
        induction q with
        | nil=>rfl
        | cons a q ih =>
          rw[jZ,Rc.sizeL,ih,kQ];grind [Ai,Rc]
      grind
     exact h
   refine⟨ad,O,(l.take m).map (λs=>Value.string<|bs s),λq hq=>⟨?_,(hce 0 h0).2⟩,hlits _ _ _ λs hs=>hls s<|List.mem_of_mem_take hs⟩;grind
  have hcm:¬c=m+1:=by_Om
  have hold:∀j v,((l.take m).map (λs=>Value.string<|bs s))[j]? = some v->w.cell? (ad.add j)=some v:=qK
  have hnew:∀j v,((l.drop<|m+1).map (λs=>Value.string<|bs s))[j]? = some v->w.cell? ((ad.add<|(m+1)*1).add j)=some v:=by
    intro j v hj;rw[List.getElem?_map]at hj;cases hg:(l.drop<|m+1)[j]? with
    | none =>
      rw[hg]at hj;cases hj
    | some s =>
      rw[hg]at hj;obtain⟨hj1,hj2⟩:=List.getElem?_eq_some_iff.1 hg;have hq:m+1+j<aL l:=by simp at hj1;omega
      have h8:=hc (m+1+j) hq;rw[Nat.mul_one]at h8;rw[Au,Nat.mul_one,h8];have:s=l[m+1+j]:=by rw[<-hj2];simp
      simp only[Option.map_some,Option.some.injEq]at hj;rw[<-hj,this]
  have hr:=run_append_grow (P:=P) w t ty e i z hE.ht hi hz ad m m ((l.take m).map λs=>Value.string<|bs s) (by rw[h2];simp;omega) hold (ad.add<|(m+1)*1) (n-(m+1)) (c-(m+1)) ((l.drop<|m+1).map λs=>Value.string<|bs s) (by rw[h2];simp;omega) hnew kX kX
    (growslice_fits kX (by rw[h3];exact fQ (Nat.mul_le_mul_right _ kX) hb))
  rw[tQ hcm];simp only[Option.map_some];have en:m+(n-(m+1))=n-1:=by_Om
  rw[en]at hr;have hsm:=(Same.drew w).trans (Same.alloc w.drew<|.cells (((l.take m).map λs=>Value.string<|bs s).toArray++((l.drop<|m+1).map λs=>Value.string<|bs s).toArray++Builtin.zeroCells z.cells (grownCap w (n-1) m e-(n-1))) e);refine⟨_,_,_,hr,?_,hsm⟩;have hge:=grownCap_ge w (n-1) m e;have hcm2:grownCap w (n-1) m e<=maxLen:=grownCap_le_maxLen w (n-1) m e qG;simp only[maxLen]at hcm2;refine .one<|Rep.slice_mk (by simp[hlen]) hge kX λ_=>?_;have hhe:=heap_alloc_new w.drew<|.cells (((l.take m).map λs=>Value.string<|bs s).toArray++((l.drop<|m+1).map λs=>Value.string<|bs s).toArray++Builtin.zeroCells z.cells (grownCap w (n-1) m e-(n-1))) e;refine⟨_,O,(l.eraseIdx m).map (λs=>Value.string<|bs s),λq hq=>⟨?_,?_⟩,hlits _ _ _ λs hs=>hls s<|List.mem_of_mem_eraseIdx hs⟩
  ·rw[If, Nat.zero_add, cell_of_row _ w.heap.size q _ e (0, 0) hhe]
   have hx:((l.eraseIdx m).map λs=>Value.string<|bs s)=((l.take m).map λs=>Value.string<|bs s)++((l.drop<|m+1).map λs=>Value.string<|bs s):=by rw[erase_eq,jQ]
   rw[<-List.getElem?_eq_getElem hq,hx];rw[hx]at hq;rw[Array.getElem?_append_left (by simp at hq ⊢;omega)];simp
  refine⟨by show w0.heap.size <= w.heap.size;exact hw, by show w.heap.size<_;exact Ia hhe, λhm => ?_, ⟨_, e, hhe⟩⟩;have:=hids _ hm;exact absurd this (by show ¬w.heap.size<w.heap.size;omega)
end
theorem HJ{S:Nat->Prop}{wx:World}:∀{q:List Str},(∀s∈q,aL s<=9223372036854775807)->RepL S wx (q.map Ai) (q.map λs=>Value.string (bs s))
  | [],_=>RepL.nil_mk
  | s::q,h=>RepL.cons_mk (Rep.lit_mk (v:=I s)<|h s Da)<|HJ λx hx=>h x jV
section
variable {α:Type}{f:α->α->Int}{xs ys:List α}{j:Nat}{Q q r:Int}
end
end Go.Scarf
