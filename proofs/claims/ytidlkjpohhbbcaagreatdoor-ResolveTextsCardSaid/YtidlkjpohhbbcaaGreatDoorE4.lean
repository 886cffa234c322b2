/- A part of the proof. -/
import Derived.Test.YtidlkjpohhbbcaaGreatDoorE1
import Derived.Lib.ParseIntBCases
import Derived.Test.YtidlkjpohhbbcaaGreatDoorP3
set_option linter.all false
set_option maxHeartbeats 8000000
set_option maxRecDepth 10000
set_option synthInstance.maxHeartbeats 0
set_option synthInstance.maxSize 9999
namespace Go.Scarf
open List renaming length->aL
open Go.RowKit Go.Proofs Go.Proofs.Tryz
variable {E d exp l rest s t whole:Str}{b minus neg:Bool}{i j m:Nat}{x:Num}{ks:List Str}{xs:List Tree}{k:Int}{α:Type}
def Us(s:Str):Bg s 45=Lib.hasPrefix s [45]:=CI s 45
def RY(s:Str):Bg s 43=Lib.hasPrefix s [43]:=CI s 43
def Kz(s:Str)(c:UInt8):Lib.trimPrefix s [c]=if Lib.hasPrefix s [c]=true then s.drop 1 else s:=rfl
theorem head_bZ{W:Str}(h:We W=true):decide (¬bZ W 0=48)=decide (W.head?≠some 48):=by
  have hp:=List.length_pos_iff.2<|Li h;rw[<-Yh hp];grind [NC]
def MO{ok:Bool}(h:Parts s neg whole rest minus exp ok) :
    ok=(Qa s).2/\(ok=true->neg=(Qa s).1.neg/\whole=(Qa s).1.whole/\rest=(Qa s).1.rest/\minus=(Qa s).1.low/\Lib.trimLeftB exp 48=Lib.trimLeftB (Qa s).1.exp 48/\We exp=true/\We whole=true/\rest.all Yc=true):=by
  obtain⟨s1,W,Z,R1,f,g,rfl,rfl,hc,hd,rfl,rfl,rfl,rfl,rfl⟩:=h.h;have e1:(if Bg s 45=true then s.drop 1 else s)=Lib.trimPrefix s [45]:=by rw[Kz,Us]
  rw[e1]at hc hd;have h2:(Ta [101,69]<|Lib.trimPrefix s [45]).2.1=Z:=by rw[hc]
  have h3:(Ta [101,69]<|Lib.trimPrefix s [45]).2.2=f:=by rw[hc]
  have g1:(Ta [46] (Ta [101,69]<|Lib.trimPrefix s [45]).1).1=whole:=by rw[hd]
  have g2:(Ta [46] (Ta [101,69]<|Lib.trimPrefix s [45]).1).2.1=R1:=by rw[hd]
  have g3:(Ta [46] (Ta [101,69]<|Lib.trimPrefix s [45]).1).2.2=g:=by rw[hd]
  have hr:R1=if g=true then R1 else []:=by
    cases g with
    | true=>rfl
    | false =>
      rw[<-g2];exact Ep [46] _ g3
  have he:∀(neg low:Bool)(e:Str),Rj neg low (Ta [101,69]<|Lib.trimPrefix s [45]).1 e=(⟨neg,low,whole,R1,e⟩,We whole&&(!g || We R1)&&(decide (whole=[48]) || decide (whole.head?≠some 48))):=by
    intro neg low e;simp only[Rj,g1,g2,g3]
  have hk:∀e:Str,We e=true->FU whole (if g=true then R1 else [48]) e=(We whole&&(!g || We R1)&&(decide (whole=[48]) || decide (whole.head?≠some 48))):=by
    intro e he;unfold FU;rw[he,Bool.true_and];by_cases hw:We whole=true
    ·rw[head_bZ hw, hw, Bool.true_and, Bool.true_and]
     cases g with
     | true=>rfl
     | false =>
       have:We [48]=true:=Ja
       simp[this]
    rw[Bool.not_eq_true]at hw;rw[hw];simp
  have hok:∀e:Str,FU whole (if g=true then R1 else [48]) e=true->We e=true/\We whole=true/\(if g=true then R1 else []).all Yc=true:=by
    intro e h;unfold FU at h;simp only[vQ]at h;refine⟨h.2.2.1,h.1,?_⟩;cases g with
    | true=>exact Ms h.2.1
    | false=>rfl
  have ht:∀e:Str,We e=false->FU whole (if g=true then R1 else [48]) e=false:=by
    intro e h;unfold FU;rw[h];simp
  cases f with
  | true =>
    have hex:Wq true Z=(if Lib.hasPrefix Z [45] then Lib.trimPrefix Z [45] else Lib.trimPrefix (Lib.trimPrefix Z [45]) [43]):=by
      rw[Wq,uQ rfl,Us,RY,Kz Z 45];by_cases h1:Lib.hasPrefix Z [45]=true
      ·simp[h1]
      simp only[h1, if_false, false_or];rw[Kz];simp
    have er:Qa s=if We (Wq true Z)=true then Rj (Lib.hasPrefix s [45]) (Lib.hasPrefix Z [45]) (Ta [101,69]<|Lib.trimPrefix s [45]).1 (Wq true Z) else (⟨Lib.hasPrefix s [45],Lib.hasPrefix Z [45],[],[],[]⟩,false):=by
      unfold Qa;simp only;rw[uQ h3,h2,hex]
    by_cases hx:We (Wq true Z)=true
    ·rw[uQ hx, he]at er
     rw[er];refine⟨hk _ hx,λh=>⟨Us s,O,hr.symm,by rw[Bool.true_and,Us],O,hok _ h⟩⟩
    rw[tQ hx]at er;rw[Bool.not_eq_true]at hx;rw[er];refine⟨ht _ hx,λh=>?_⟩;rw[ht _ hx]at h;cases h
  | false =>
    have hz:Z=[]:=by rw[<-h2];exact Ep [101,69] _ h3
    have er:Qa s=Rj (Lib.hasPrefix s [45]) false (Ta [101,69]<|Lib.trimPrefix s [45]).1 Z:=by
      unfold Qa;simp only;rw[tQ (by rw[h3];decide),h2]
    have hx:We (Wq false Z)=true:=by rw[Wq,tQ Ja];decide
    rw[he]at er;rw[er];refine⟨hk _ hx,λh=>⟨Us s,O,hr.symm,O,?_,hok _ h⟩⟩;subst hz;rw[Wq,tQ Ja];rfl
def WV{ok:Bool}(h:Parts s neg whole rest minus exp ok):aL whole<=aL s/\aL rest<=aL s/\aL exp<=aL s+1:=by
  obtain⟨s1,W,Z,R1,f,g,rfl,rfl,hc,hd,rfl,rfl,rfl,rfl,rfl⟩:=h.h;have h1:aL (if Bg s 45=true then s.drop 1 else s)<=aL s:=by split <;> simp
  have h2:=Xg [101,69] (if Bg s 45=true then s.drop 1 else s);have h3:=Xg [46] (Ta [101,69] (if Bg s 45=true then s.drop 1 else s)).1;rw[hd]at h3;have h4:aL Z<=aL s:=by rw[hc]at h2;exact fQ h2.2 h1
  refine⟨fQ h3.1<|fQ h2.1 h1,?_,?_⟩
  ·split
   ·exact fQ h3.2<|fQ h2.1 h1
   exact dZ _
  unfold Wq;split
  ·split
   ·simp
    omega
   omega
  simp
theorem D8(c:UInt8)(s:Str):Lib.trimLeftB (c::s) 48=if c=48 then Lib.trimLeftB s 48 else c::s:=by
  unfold Lib.trimLeftB;rw[List.dropWhile_cons];grind
theorem Ow(h:0<aL E)(h0:bZ E 0=48):Lib.trimLeftB (E.drop 1) 48=Lib.trimLeftB E 48:=by
  rw[<-Yh h]at h0;cases E with
  | nil=>simp at h
  | cons c s=>grind [Tu,D8]
theorem Nw(h:0<aL E)(h0:¬bZ E 0=48):Lib.trimLeftB E 48=E:=by
  rw[<-Yh h]at h0;cases E with
  | nil=>simp at h
  | cons c s=>grind [Tu,D8]
theorem UI(h:E.all Yc=true):(E.drop 1).all Yc=true:=qK
theorem Vt(h:0<aL E)(h1:aL E<=1\/¬bZ E 0=48):Bc E=Bc (Lib.trimLeftB E 48)/\((9:Int)<(aL E:Int)↔9<aL (Lib.trimLeftB E 48)):=by
  by_cases h0:bZ E 0=48
  ·have h2 : (aL E) = 1 := by grind
   rw[<-Ow h h0]
   match E,h2 with
   | [c], _ =>
     rw[<-Yh (s:=[c]) (p:=0) Da]at h0;have:c=48:=Tu.1 h0;subst this;simp[Lib.trimLeftB,Bc]
  grind [Nw]
theorem WO(l:Str)(a:UInt8):Lib.trimRightB (l++[a]) 48=if a=48 then Lib.trimRightB l 48 else l++[a]:=by
  unfold Lib.trimRightB;rw[List.reverse_append];simp only[List.reverse_cons,List.reverse_nil,nZ,List.cons_append,List.dropWhile_cons];grind
theorem S8(h1:1<=m)(h2:m<=aL d):Lib.trimRightB (d.take m) 48=if bZ (d.take m) (m-1)=48 then Lib.trimRightB (d.take (m-1)) 48 else d.take m:=by
  have h3:m-1<aL d:=Aa
  have e:d.take m=d.take (m-1)++[d[m-1]]:=qX
  have h4:bZ (d.take m) (m-1)=((d[m-1].toNat:Nat):Int):=by
    rw[<-Yh qM];simp
  grind [WO,Tu]
def K4(h:i<m)(h2:m<=aL d):bZ (d.take m) i=bZ d i:=by
  rw[<-Yh (show i<aL (d.take m) by simp;omega),<-Yh (show i<aL d by omega)];simp
theorem expE_low(h:(Qa s).1.low=true):Oh s = - Bc (Lib.trimLeftB (Qa s).1.exp 48):=by grind [Oh]
theorem DT(h:(Qa s).1.low=false):Oh s=Bc (Lib.trimLeftB (Qa s).1.exp 48):=by grind [Oh]
def Ew(hd:x.digits.all Yc=true)(hp:0<aL x.digits)(hl:aL x.digits<=1000)(h0:¬bZ x.digits 0=48)(h1:¬bZ x.digits (aL x.digits-1)=48):Ub x=(decide (-1000000<=x.exp)&&decide (x.exp<=1000000)):=by
  have hz:¬x=Num.zero:=by rintro rfl;simp[Num.zero]at hp
  rw[<-Yh hp]at h0;rw[<-Yh (show aL x.digits-1<aL x.digits by omega)]at h1;exact Qo hz (by unfold We;rw[hd,gZ<|List.length_pos_iff.1 hp];rfl) Aa hp h0 Aa h1
theorem T8(s:Str)(hl:aL s<=140737488355327)(w0:World):Calls prog 122 #[I s] w0 (Za λv w'=>v=.tuple #[Lj (Wb s).1,J (Wb s).2]/\Same [] w0 w'):=by
 refine Ea func122 ntmps122 ?_;intro hF;refine rn 3 ?_;rintro b1 w hb1 hF -;refine rn 6<|Fc (parts_c s Aa _) ?_;rintro _ w ⟨neg,whole,rest,minus,exp,ok,rfl,hp,hE⟩;obtain⟨hok,hfs⟩:=MO hp;obtain⟨hl1,hl2,hl3⟩:=WV hp;have hF:=hF.ext hE;refine rn 23 ⟨λhc0=>?_,λhc0=>?_⟩;refine rn 2<|Ba (w':=w) (v:=.agg #[.bool false,I [],J 0]) Ua ?_;refine rn 1 ?_;rintro w hF -;refine rn 4 ?_;exact⟨by rw[Ze,uQ (by rw[<-hok];simp_all)] <;> rfl,hF.same⟩;have hokt:ok=true:=qX
 have hfs:=hfs hokt;have hwr:aL whole=aL (Qa s).1.whole/\aL rest=aL (Qa s).1.rest:=⟨by rw[hfs.2.1],by rw[hfs.2.2.1]⟩;refine rn 9<|Zb (Wd<|((aL whole+aL rest:Nat):Int)) ?_;refine rn 4 ⟨λhc1=>?_,λhc1=>?_⟩;refine rn 2<|Ba (w':=w) (v:=.agg #[.bool false,I [],J 0]) Ua ?_;refine rn 1 ?_;rintro w hF -;refine rn 4 ?_;exact⟨by rw[Ze,tQ bK,uQ Aa] <;> rfl,hF.same⟩;refine rn 3<|Eb (λσ w=>∃(E:Str),(Bc E=Bc (Lib.trimLeftB (Qa s).1.exp 48))/\((9:Int)<(aL E:Int)↔9<aL (Lib.trimLeftB (Qa s).1.exp 48))/\(E.all Yc=true)/\(aL E<=aL s+1)/\AllEq σ [(2,V b1),(4,.bool neg),(5,I whole),(6,I rest),(7,.bool minus),(8,I E)]/\FR w0 [] [(b1,.cells #[.bool false,I [],J 0] 90)] w) ?_ ?_;refine rn 1<|Sa (λμ σ w=>∃(E:Str),μ=aL E/\(Lib.trimLeftB E 48=(Lib.trimLeftB (Qa s).1.exp 48))/\(0<aL E)/\(E.all Yc=true)/\(aL E<=aL exp)/\AllEq σ [(2,V b1),(4,.bool neg),(5,I whole),(6,I rest),(7,.bool minus),(8,I E)]/\FR w0 [] [(b1,.cells #[.bool false,I [],J 0] 90)] w) _ ⟨exp,O,hfs.2.2.2.2.1,List.length_pos_iff.2<|Li hfs.2.2.2.2.2.1,Ms hfs.2.2.2.2.2.1,gQ _,ae6,hF⟩ ?_;rintro μ σ w ⟨E,rfl,hEt,hE0,hE3,hE4,hzz,hF⟩;refine Wf hzz 8 ⟨λhg0=>?_,λhg0=>?_⟩;refine rn 1 ?_;refine Ba (v:=.int .u8<|bZ (E) 0) (by rw[<-Yh (s:=E) (p:=0) Aa];exact Cb 0 jX O O Aa) ?_;refine rn 5 ⟨λhc2=>?_,λhc2=>?_⟩;refine rn 5<|Ba (v:=I<|(E:Str).drop (1)) (Qf (1) jX) ?_;refine rn 3 ?_;refine Ha ⟨_,?_,E.drop 1,O,by rw[Ow Aa Aa];exact hEt,qM,UI hE3,qM,Va,hF⟩;simp;omega;refine rn 1 ?_;exact Ha ⟨E,by rw[<-hEt];exact (Vt hE0 Aa).1,by rw[<-hEt];exact (Vt hE0 Aa).2,hE3,Aa,Va,hF⟩;refine rn 8 ?_;exact Ha ⟨E,by rw[<-hEt];exact (Vt hE0 Aa).1,by rw[<-hEt];exact (Vt hE0 Aa).2,hE3,Aa,Va,hF⟩
 rintro σ w ⟨E,hE1,hE2,hE3,hE4,hzz,hF⟩;refine Aj hzz 10 ⟨λhc3=>?_,λhc3=>?_⟩;refine rn 2<|Ba (w':=w) (v:=.agg #[.bool false,I [],J 0]) Ua ?_;refine rn 1 ?_;rintro w hF -;refine rn 4 ?_;exact⟨by rw[Ze,tQ bK,tQ Aa,uQ Aa] <;> rfl,hF.same⟩;refine rn 14<|Sa (λμ σ w=>∃(q:Nat),μ=aL E-q/\(q<=aL E)/\AllEq σ [(2,V b1),(4,.bool neg),(5,I whole),(6,I rest),(7,.bool minus),(8,I E),(10,J<|Bc<|E.take q),(11,J<|(q:Int))]/\FR w0 [] [(b1,.cells #[.bool false,I [],J 0] 90)] w) _ ⟨0,O,dZ _,ae8,hF⟩ ?_;rintro μ σ w ⟨q,rfl,hq,hzz,hF⟩;refine Wf hzz 10 ⟨λhc4=>?_,λhc4=>?_⟩;have hdq:=List.all_eq_true.1 hE3 E[q] (eQ Aa);unfold Yc at hdq;simp only[vQ,xQ]at hdq;have hbq:=UInt8.toNat_lt E[q];have hb:=Iu (E.take q) (Tp q hE3) bV;refine rn 6<|Ba (v:=J<|10*Bc (E.take q)) (Ro O O<|Ge Aa Aa) ?_;refine rn 2<|Ba (v:=.int .u8<|(((E:Str)[q]' Aa).toNat:Int)) (Cb (q) jX O O Aa) ?_;refine Ba (v:=.int .u8<|((E[q].toNat:Nat):Int)-48) (Ho O O (by rw[IntKind.wrap_u8];omega)) ?_;refine Ba (v:=J<|((E[q].toNat:Nat):Int)-48) (Qb iX dX O<|Ge Aa Aa) ?_;refine Ba (v:=J<|Bc<|E.take<|q+1) (Cl O O (by rw[Jm _ q Aa];exact Ge Aa Aa)) ?_;refine rn 6<|Zb (Wd<|((q+1:Nat):Int)) ?_;refine rn 2<|Ha ⟨_,?_,q+1,O,Aa,Va,hF⟩;omega;refine rn 2 ?_;have eT:E.take q=E:=eZ Aa;have hb:=Iu E hE3 Aa;have hE:-1000000000<Oh s/\Oh s<1000000000:=by unfold Oh;rw[<-hE1];split <;> omega
 refine rn 1<|Eb (λσ w=>AllEq σ [(2,V b1),(4,.bool neg),(5,I whole),(6,I rest),(10,J<|Oh s)]/\FR w0 [] [(b1,.cells #[.bool false,I [],J 0] 90)] w) ?_ ?_;refine rn 6 ⟨λhc5=>?_,λhc5=>?_⟩;have eE:- Bc E=Oh s:=by rw[hE1,expE_low (by rw[<-hfs.2.2.2.1];assumption)]
 rw[eT];refine rn 2 ?_;refine Ba (v:=J<|Oh s) (K2 O<|Gd (by rw[<-eE];omega) Aa Aa) ?_;refine rn 2 ?_;exact Ha ⟨Va,hF⟩;have eE:Bc E=Oh s:=by rw[hE1,DT (by rw[<-hfs.2.2.2.1];assumption)]
 rw[eT,eE];refine rn 1 ?_;exact Ha ⟨Va,hF⟩;rintro σ w ⟨hzz,hF⟩;refine Aj hzz 6<|Zb Iy ?_;refine rn 7<|Ba (v:=I<|(whole)++(rest)) (Gf O O Aa) ?_;refine rn 4<|Eb (λσ w=>∃(d:Str),(d=(Lib.trimLeftB ((Qa s).1.whole++(Qa s).1.rest) 48))/\(0<aL d->¬bZ d 0=48)/\(d.all Yc=true)/\(aL d<=aL whole+aL rest)/\AllEq σ [(2,V b1),(4,.bool neg),(10,J<|Oh s-(aL rest:Nat)),(12,I d)]/\FR w0 [] [(b1,.cells #[.bool false,I [],J 0] 90)] w) ?_ ?_;refine rn 1 ?_;refine Sa (λμ σ w=>∃(D:Str),μ=aL D/\(Lib.trimLeftB D 48=Lib.trimLeftB (whole++rest) 48)/\(D.all Yc=true)/\(aL D<=aL whole+aL rest)/\AllEq σ [(2,V b1),(4,.bool neg),(10,J<|Oh s-(aL rest:Nat)),(12,I D)]/\FR w0 [] [(b1,.cells #[.bool false,I [],J 0] 90)] w) _ ⟨whole++rest,O,O,by rw[List.all_append,Ms hfs.2.2.2.2.2.2.1,hfs.2.2.2.2.2.2.2];rfl,Da,Fz,hF⟩ ?_;rintro μ σ w ⟨D,rfl,hDt,hDa,hDl,hzz,hF⟩;refine Wf hzz 8 ⟨λhg1=>?_,λhg1=>?_⟩;refine rn 1 ?_;refine Ba (v:=.int .u8<|bZ (D) 0) (by rw[<-Yh (s:=D) (p:=0) Aa];exact Cb 0 jX O O Aa) ?_;refine rn 5 ⟨λhc6=>?_,λhc6=>?_⟩;refine rn 5<|Ba (v:=I<|(D:Str).drop (1)) (Qf (1) jX) ?_;refine rn 3 ?_;refine Ha ⟨_,?_,D.drop 1,O,by rw[Ow Aa Aa];exact hDt,UI hDa,qM,Va,hF⟩;simp;omega;refine rn 1 ?_;exact Ha ⟨D,jA,λh=>by omega,hDa,hDl,Va,hF⟩;refine rn 8 ?_;exact Ha ⟨D,jA,λh=>by omega,hDa,hDl,Va,hF⟩;rintro σ w ⟨d,hd,hd0,hda,hdl,hzz,hF⟩;refine Aj hzz 9 ⟨λhc7=>?_,λhc7=>?_⟩;refine rn 2<|Ba (w':=w) (v:=.agg #[.bool false,I [],J 0]) Ua ?_
 refine rn 1 ?_;rintro w hF -;refine rn 4 ?_;exact⟨by rw[Ze,tQ bK,tQ Aa,tQ Aa,uQ (by rw[<-hd];assumption)] <;> rfl,hF.same⟩;refine rn 3<|Eb (λσ w=>∃(m:Nat),∃(sh:Str),∃(ee:Int),(ee=Oh s-(aL rest:Nat)+(aL d-m:Nat))/\(sh=(d:Str).take m)/\(1<=m)/\(m<=aL d)/\(Lib.trimRightB d 48=d.take m)/\(¬bZ ((d:Str).take m) (m-1)=48)/\AllEq σ [(2,V b1),(4,.bool neg),(10,J ee),(12,I sh)]/\FR w0 [] [(b1,.cells #[.bool false,I [],J 0] 90)] w) ?_ ?_;refine rn 1 ?_;have hdp:0<aL d:=List.length_pos_iff.2 qW;refine Sa (λμ σ w=>∃(m:Nat),∃(D2:Str),∃(ee:Int),μ=m+1/\(ee=Oh s-(aL rest:Nat)+(aL d-m:Nat))/\(D2=(d:Str).take m)/\(1<=m)/\(m<=aL d)/\(Lib.trimRightB d 48=Lib.trimRightB (d.take m) 48)/\AllEq σ [(2,V b1),(4,.bool neg),(10,J ee),(12,I D2)]/\FR w0 [] [(b1,.cells #[.bool false,I [],J 0] 90)] w) _ ⟨aL d,d,Oh s-(aL rest:Nat),O,Aa,by rw[List.take_length],hdp,gQ _,by rw[List.take_length],Fz,hF⟩ ?_;rintro μ σ w ⟨m,D2,ee,rfl,hee,hD2,hm1,hm2,hmt,hzz,hF⟩;have hml:aL D2=m:=by rw[hD2,jZ];omega
 refine Wf hzz 6<|Zb (AB<|((m-1:Nat):Int)) ?_;refine Ba (v:=.int .u8<|bZ (D2)<|m-1) (by rw[<-Yh (s:=D2) (p:=(m-1)) Aa];exact Cb (m-1) jX O O Aa) ?_;refine rn 4 ⟨λhc8=>?_,λhc8=>?_⟩;refine rn 8<|Zb (AB<|((m-1:Nat):Int))<|Ba (v:=I<|(D2:Str).take (m-1)) (Do (m-1) jX) ?_;refine rn 5<|Zb (Wd<|ee+1) ?_;refine rn 3 ?_;refine Ha ⟨_,?_,m-1,D2.take<|m-1,ee+1,rfl,Aa,by rw[hD2,List.take_take,Nat.min_eq_left Aa],(by have h:=hd0 hdp;rw[<-K4 (m:=m) Aa hm2,<-hD2]at h;rcases Nat.lt_or_ge 1 m with h1|h1;omega;exfalso;have h2:m-1=0:=Aa;have h3:bZ D2 (m-1)=48:=qW;rw[h2]at h3;exact absurd h3 h),Aa,by rw[hmt,S8 hm1 hm2,uQ (by rw[<-hD2];assumption)],Va,hF⟩;omega;refine rn 1 ?_;exact Ha ⟨m,D2,ee,hee,hD2,hm1,hm2,by rw[hmt,S8 hm1 hm2,tQ (by rw[<-hD2];assumption)],by rw[<-hD2];assumption,Va,hF⟩;rintro σ w ⟨m,sh,ee,hee,hsh,hm1,hm2,hmt,hlast,hzz,hF⟩;refine Aj hzz 8 ⟨λhg2=>?_,λhg2=>?_⟩;refine rn 8<|Ba (w':=w) (v:=.agg #[.bool false,I [],J 0]) Ua ?_;refine rn 1 ?_;rintro w hF -;refine rn 4 ?_;subst hsh;subst hee;have hne:¬d=[]:=List.length_pos_iff.1 Aa;have hrf:=Ew (x:=⟨(Qa s).1.neg,d.take m,Oh s-(aL rest:Nat)+(aL d-m:Nat)⟩) (Tp m hda) qM qM kT zH;have hfe:Oh s-(aL rest:Nat)+(aL d-m:Nat)=Oh s-aL (Qa s).1.rest+aL d-aL (d.take m):=by rw[jZ,Nat.min_eq_left hm2,<-hwr.2];omega
 refine⟨?_,hF.same⟩;rw[Ze,tQ bK,tQ Aa,tQ Aa,<-hd,tQ hne,hmt,<-hfe,hrf]
 first|(rw[uQ qM] <;> rfl)|(rw[tQ qM,hfs.1] <;> rfl)
 refine rn 6 ⟨λhc9=>?_,λhc9=>?_⟩;refine rn 2<|Ba (w':=w) (v:=.agg #[.bool false,I [],J 0]) Ua ?_;refine rn 1 ?_;rintro w hF -;refine rn 4 ?_;subst hsh;subst hee;have hne:¬d=[]:=List.length_pos_iff.1 Aa;have hrf:=Ew (x:=⟨(Qa s).1.neg,d.take m,Oh s-(aL rest:Nat)+(aL d-m:Nat)⟩) (Tp m hda) qM qM kT zH;have hfe:Oh s-(aL rest:Nat)+(aL d-m:Nat)=Oh s-aL (Qa s).1.rest+aL d-aL (d.take m):=by rw[jZ,Nat.min_eq_left hm2,<-hwr.2];omega
 refine⟨?_,hF.same⟩;rw[Ze,tQ bK,tQ Aa,tQ Aa,<-hd,tQ hne,hmt,<-hfe,hrf]
 first|(rw[uQ qM] <;> rfl)|(rw[tQ qM,hfs.1] <;> rfl)
 refine rn 7<|Ba (w':=w) (v:=.agg #[.bool neg,I sh,J ee]) Ua ?_;refine rn 1 ?_;rintro w hF -;refine rn 4 ?_;subst hsh;subst hee;have hne:¬d=[]:=List.length_pos_iff.1 Aa;have hrf:=Ew (x:=⟨(Qa s).1.neg,d.take m,Oh s-(aL rest:Nat)+(aL d-m:Nat)⟩) (Tp m hda) qM qM kT zH;have hfe:Oh s-(aL rest:Nat)+(aL d-m:Nat)=Oh s-aL (Qa s).1.rest+aL d-aL (d.take m):=by rw[jZ,Nat.min_eq_left hm2,<-hwr.2];omega
 refine⟨?_,hF.same⟩;rw[Ze,tQ bK,tQ Aa,tQ Aa,<-hd,tQ hne,hmt,<-hfe,hrf]
 first|(rw[uQ qM] <;> rfl)|(rw[tQ qM,hfs.1] <;> rfl)
theorem M6(s:Str)(hl:aL s<=140737488355327)(w0:World):Calls prog 140 #[I s] w0 (Za λv w'=>v=.tuple #[Lj (Wb s).1,.bool (Bh s)]/\Same [] w0 w'):=by
 refine Ea func140 ntmps140 ?_;intro hF;refine rn 3 ?_;rintro b1 w hb1 hF -;refine rn 6<|Ia (T8 s hl _) ?_;rintro w hF -;refine rn 4 ?_;rintro b2 w hb2 hF -;refine rn 4<|Gb (.of []) (bQ [0,1,2,3,4,6]<|.act 5<|.free 7<|.free 8<|.act 9<|.free 10 .nil) hF ?_;rintro w hF -;refine⟨λwq=>FR w0 [] [(b2,.cells #[.bool<|(Wb s).1.neg,I<|(Wb s).1.digits,J<|(Wb s).1.exp] 90)] wq,hF.sub<|.cons_cons _<|.cons _ .slnil,?_⟩;refine rn 5 ⟨λhg0=>?_,λhg0=>?_⟩;refine rn 2 ?_;refine Rc (YP (Wb s).1 kY _) ?_;rintro w hF -;refine rn 3 ?_;rintro w hF -;refine rn 4 ?_;exact⟨by simp_all[Bh,Lj],hF.same⟩;refine rn 2<|Yy ?_<|hF.sub<|.cons_cons _<|.cons _ .slnil;refine rn 3 ?_;rintro w hF -;refine rn 4 ?_;exact⟨by simp_all[Bh,Lj],hF.same⟩
def dgt(s:Str)(i:Nat):Int:=if i<aL s then bZ s i else 48
theorem dgt_ge(h:s.all Yc=true)(i:Nat):48<=dgt s i/\dgt s i<=57:=by
  unfold dgt;split
  ·rename_i hi
   have:=List.all_eq_true.1 h s[i] (eQ hi);grind [Yc,Yh]
  omega
def all_cons{c:UInt8}(h:(c::s).all Yc=true):Yc c=true/\s.all Yc=true:=aS h
theorem MJ(h:Ub x=true)(hd:x.digits≠[]):x.digits.all Yc=true/\¬bZ x.digits (aL x.digits-1)=48:=by
  have h0:¬x=Num.zero:=by rintro rfl;exact hd rfl
  unfold Ub at h;simp only[wQ,vQ,xQ]at h;rcases h with h|h
  ·grind
  refine⟨Ms h.1.1.1.1.1, ?_⟩;have hl:aL x.digits-1<aL x.digits:=by have:=List.length_pos_iff.2 hd;omega
  grind [Yh,Tu]
def F6(a b:Str):Lib.compareBytes b a = - Lib.compareBytes a b:=(WX a).anti b trivial
def vN(acc:Nat)(l:Str):Nat:=l.foldl (λa c=>a*10+(c.toNat-48)) acc
theorem DC(acc:Nat)(c:UInt8)(l:Str):vN acc (c::l)=vN (acc*10+(c.toNat-48)) l:=by grind [vN]
theorem vN_ge(l:Str):∀acc:Nat,acc<=vN acc l:=by
  induction l with
  | nil=>exact λacc=>gQ _
  | cons c l ih=>grind [DC]
theorem Cu{c:UInt8}(h:Yc c=true):48<=c.toNat/\c.toNat<=57:=by grind [Yc]
theorem NX:∀(l:Str)(acc:Nat),l.all Yc=true->((vN acc l:Nat):Int)=l.foldl (λa c=>10*a+((c.toNat:Int)-48)) (acc:Int)
  | [],_,_=>rfl
  | c :: l, acc, h => by
    obtain⟨hc,hl⟩:=all_cons h;have:=Cu hc;rw[DC,NX l _ hl,List.foldl_cons]
    congr 1
    omega
def XP(h:l.all Yc=true):((vN 0 l:Nat):Int)=Bc l:=NX l 0 h
theorem uintM:∀(l:Str)(acc:Nat),l.all Yc=true->acc<=18446744073709551615->Lib.parseUintM 18446744073709551615 acc l=if vN acc l<=18446744073709551615 then .ok (vN acc l) else .range
  | [],acc,_,h=>by rw[show vN acc []=acc from rfl,uQ h];rfl
  | c :: l, acc, h, ha => by
    obtain⟨hc,hl⟩:=all_cons h;have r:=Cu hc;rw[Lib.parseUintM,uQ r,DC];have hg:=vN_ge l<|acc*10+(c.toNat-48);by_cases h1:1844674407370955162<=acc
    ·rw[uQ h1,tQ Aa]
    rw[tQ h1];by_cases h2:18446744073709551615<acc*10+(c.toNat-48)
    ·rw[uQ h2,tQ Aa]
    rw[tQ h2];exact uintM l _ hl Aa
theorem QY(h:l.all Yc=true)(hne:l≠[]):Lib.parseUintB 64 l=if vN 0 l<=18446744073709551615 then .ok (vN 0 l) else .range:=by
  rw[Lib.parseUintB,tQ hne];grind [uintM]
theorem pI_plain(h:l.all Yc=true)(hne:l≠[]):(pI l).2=decide (Bc l<=9223372036854775807)/\(Bc l<=9223372036854775807->(pI l).1=Bc l):=by
  have hu:=QY h hne;rw[<-XP h]
  match l,hne with
  | c :: r, _ =>
    have hc:=Cu (all_cons h).1;have hp:=Lib.parseIntB_plain 64 c r Aa Aa;rw[hu]at hp;generalize vN 0 (c::r)=n at *;unfold pI;rw[hp];by_cases h1:n<=18446744073709551615
    ·rw[uQ h1, Lib.signlessC]
     grind
    rw[tQ h1];exact⟨(fZ Aa).symm,λh=>absurd h Aa⟩
theorem ZW(h:l.all Yc=true)(hne:l≠[]):(pI (45::l)).2=decide (Bc l<=9223372036854775808)/\(Bc l<=9223372036854775808->(pI (45::l)).1 = - Bc l):=by
  have hu:=QY h hne;rw[<-XP h];have hp:=Lib.parseIntB_minus 64 l;rw[hu]at hp;generalize vN 0 l=n at *;unfold pI;rw[hp];by_cases h1:n<=18446744073709551615
  ·rw[uQ h1, Lib.signedC]
   grind
  rw[tQ h1];exact⟨(fZ Aa).symm,λh=>absurd h Aa⟩
def Kd(x:Num):Str:=x.digits++Lib.repeatL [48] x.exp.toNat
theorem Nn(x:Num):aL (Kd x)=aL x.digits+x.exp.toNat:=by grind [Kd,Zl]
theorem WR:∀n:Nat,(Lib.repeatL [48] n).all Yc=true
  | 0=>rfl
  | n + 1 => by
    have h:=WR n;simp only[Lib.repeatL,List.all_append,h,Bool.and_true];decide
theorem OZ:∀n:Nat,(Lib.repeatL [48] n).all (λc=>c==48)=true
  | 0=>rfl
  | n + 1 => by
    have h:=OZ n;simp only[Lib.repeatL,List.all_append,h,Bool.and_true];decide
theorem ZX(h:j<aL (Kd x)):(((Kd x)[j].toNat:Nat):Int)=dgt x.digits j:=by
  unfold dgt;by_cases hj:j<aL x.digits
  ·grind [Yh,Kd]
  rw[tQ hj];simp only[Kd];rw[List.getElem_append_right Aa];have:=List.all_eq_true.1 (OZ x.exp.toNat) _<|eQ (show j-aL x.digits<aL (Lib.repeatL [48] x.exp.toNat) by rw[Zl];rw[Nn]at h;omega);simp_all
theorem NO(h:j<aL (Kd x)):Bc ((Kd x).take (j+1))=10*Bc ((Kd x).take j)+(dgt x.digits j-48):=by grind [Jm,ZX]
theorem NF{s:Str}(hs:s.all Yc=true):∀k,∀j,j+k=aL s->Bc (s.take j)<=Bc s
  | 0,j,h=>by rw[eZ Aa];exact Int.le_refl _
  | k + 1, j, h => by
    have h1:=NF hs k (j+1) Aa;have hj:j<aL s:=Aa
    rw[Jm s j hj]at h1;have h2:=Cu<|List.all_eq_true.1 hs s[j] (eQ hj);have h3:=(Ny (s.take j)<|Tp j hs).1;omega
theorem DR(x:Num):Qu x=if x.neg=true then 45::Kd x else Kd x:=rfl
theorem Kr(h:Ub x=true):(Kd x).all Yc=true:=by grind [Kd,WR,MJ]
theorem MU(h:Ub x=true)(hn:Kd x=[]):x.neg=false:=by
  have:x.digits=[]:=by have:=yQ List.length hn;rw[Nn,cZ]at this;exact List.eq_nil_of_length_eq_zero Aa
  have:=MB h this;subst this;rfl
theorem VB(h:Ub x=false\/x.exp<0\/19<(aL x.digits:Int)+x.exp):Lr x=(0,false):=by grind [Mh]
theorem WP(h:¬(Ub x=false\/x.exp<0\/19<(aL x.digits:Int)+x.exp))(hn:x.neg=true):Lr x=if Bc (Kd x)<=9223372036854775808 then (- Bc (Kd x),true) else (0,false):=by grind [Ub,Kd,MU,ZW,Kr,Qu,DR,Mh,Bc]
theorem KC(h:¬(Ub x=false\/x.exp<0\/19<(aL x.digits:Int)+x.exp))(hn:x.neg=false):Lr x=if Bc (Kd x)<=9223372036854775807 then (Bc (Kd x),true) else (0,false):=by grind [Ub,Qu,Kd,DR,Mh,pI_plain,Kr,Bc]
theorem OY(h:¬(Ub x=false\/x.exp<0\/19<(aL x.digits:Int)+x.exp))(hj:j<=aL (Kd x))(hv:9223372036854775808<Bc ((Kd x).take j)):Lr x=(0,false):=by
  have hr:Ub x=true:=qK
  have:=NF (Kr hr) (aL (Kd x)-j) j Aa;grind [WP,KC]
theorem KU(d:Int)(h0:0<=d)(h9:d<=9):(-9223372036854775808+d).tdiv 10 = -((9223372036854775808-d)/10):=qK
theorem rint_c(x:Num)(hl:aL x.digits<=140737488355328)(w0:World):Calls prog 229 #[Lj x] w0 (Za λv w'=>v=.tuple #[J (Lr x).1,.bool (Lr x).2]/\Same [] w0 w'):=by
 refine Ea func229 ntmps229 ?_;intro hF;refine rn 3 ?_;rintro b1 w hb1 hF -;refine rn 7<|Ia (GI x hl _) ?_;rintro w hF -;refine rn 10 ⟨λhg0=>?_,λhg0=>?_⟩;refine rn 23 ?_;exact⟨by rw[VB<|.inl (aS hg0)],hF.same⟩;refine rn 6 ⟨λhg1=>?_,λhg1=>?_⟩;refine rn 18 ?_;exact⟨by rw[VB<|.inr<|.inl hg1],hF.same⟩;refine rn 5 ?_;have hrl:=Pb (x:=x) qX;refine Zb Uh<|rn 5 ⟨λhc0=>?_,λhc0=>?_⟩;refine rn 7 ?_;exact⟨by rw[VB<|.inr<|.inr Aa],hF.same⟩;refine rn 14 ?_;have hrt:Ub x=true:=qX
 have hnb:¬(Ub x=false\/x.exp<0\/19<(aL x.digits:Int)+x.exp):=by rw[hrt];simp;omega
 have hwd:=Kr hrt;have hdx:x.digits.all Yc=true:=by rw[Kd,List.all_append,vQ]at hwd;exact hwd.1
 have hrl:=Pb hrt;refine Sa (λμ σ w=>∃(j:Nat),∃(v:Int),μ=((aL x.digits:Int)+x.exp-j).toNat/\((j:Int)<=(aL x.digits:Int)+x.exp)/\(v = - Bc ((Kd x).take j))/\(v<=0)/\(-9223372036854775808<=v)/\AllEq σ [(1,V b1),(5,J v),(6,J<|(j:Int))]/\FR w0 [] [(b1,.cells #[.bool x.neg,I x.digits,J x.exp] 90)] w) _ ⟨0,0,O,Aa,O,Aa,Aa,Va,hF⟩ ?_;rintro μ σ w ⟨j,v,rfl,hj,hv,hv0,hvm,hzz,hF⟩;refine Wf hzz 9<|Zb Uh ?_;refine rn 4 ⟨λhc1=>?_,λhc1=>?_⟩;refine rn 10<|Eb (λσ w=>∃(d:Int),(d=dgt x.digits j-48)/\AllEq σ [(1,V b1),(5,J v),(6,J<|(j:Int)),(7,J d)]/\FR w0 [] [(b1,.cells #[.bool x.neg,I x.digits,J x.exp] 90)] w) ?_ ?_;refine rn 10 ⟨λhc2=>?_,λhc2=>?_⟩;refine rn 4 ?_;refine Ba (v:=.int .u8<|bZ (x.digits) j) (by rw[<-Yh (s:=x.digits) (p:=j) Aa];exact Cb j jX O O Aa) ?_;refine Ba (v:=.int .u8<|bZ x.digits j-48) (Ho O O (by have:=dgt_ge (s:=x.digits) hdx j;unfold dgt at this;rw[uQ Aa]at this;rw[IntKind.wrap_u8];omega)) ?_;refine Ba (v:=J<|bZ x.digits j-48) (Qb iX dX O (by have:=Mg x.digits j;exact Ge Aa Aa)) ?_;refine rn 2 ?_
 ·exact Ha ⟨bZ x.digits j-48,(by unfold dgt;first|(rw[uQ Aa];done)|(rw[tQ Aa];rfl)),Va,hF⟩
 refine rn 1 ?_
 ·exact Ha ⟨0,(by unfold dgt;first|(rw[uQ Aa];done)|(rw[tQ Aa];rfl)),Va,hF⟩
 rintro σ w ⟨d,hd,hzz,hF⟩;have hdg:=dgt_ge hdx j;have hjw:j<aL (Kd x):=by rw[Nn];omega
 have hst:=NO hjw;refine Aj hzz 6<|Zb Uh<|Ba (v:=J<|-((9223372036854775808-d)/10)) (DQ O O Ja<|Gd (KU d Aa Aa) Aa Aa) ?_;refine rn 4 ⟨λhc3=>?_,λhc3=>?_⟩;refine rn 7 ?_;exact⟨by rw[OY hnb (j:=j+1) Aa (by rw[hst];omega)],hF.same⟩;refine rn 4<|Ba (v:=J<|10*v) (Ro O O<|Ge Aa Aa) ?_;refine rn 1<|Zb Iy ?_;refine rn 6<|Zb (Wd<|((j+1:Nat):Int)) ?_;refine rn 2 ?_;refine Ha ⟨_,?_,j+1,10*v-d,O,Aa,by rw[hst];omega,Aa,Aa,Va,hF⟩;omega;refine rn 10 ⟨λhc4=>?_,λhc4=>?_⟩;refine rn 8 ?_;have eT:(Kd x).take j=Kd x:=eZ (by rw[Nn];omega);rw[eT]at hv;exact⟨by rw[WP hnb qW,uQ Aa,hv],hF.same⟩;refine rn 10 ⟨λhc5=>?_,λhc5=>?_⟩;refine rn 7 ?_;have eT:(Kd x).take j=Kd x:=eZ (by rw[Nn];omega);rw[eT]at hv;exact⟨by rw[KC hnb qW,tQ Aa],hF.same⟩;refine rn 5<|Ba (v:=J<|-v) (K2 O<|Gd Aa Aa Aa) ?_;refine rn 5 ?_;have eT:(Kd x).take j=Kd x:=eZ (by rw[Nn];omega);rw[eT]at hv;exact⟨by rw[KC hnb qW,uQ Aa,hv,Int.neg_neg],hF.same⟩
def VL(x:Tree):Prop:=La x<=1000000000->∀S w0 cs,Rep S w0 (Na x) cs->Calls prog 107 #[.agg cs.toArray] w0 (Za λv w'=>v=J (La x:Nat)/\Same [] w0 w')
def CE(x:Tree):Prop:=La x<=1000000000->∀S w0 cs,Rep S w0 (Na x) cs->Calls prog 108 #[.agg cs.toArray] w0 (Za λv w'=>v=J (Nb x:Nat)/\Same [] w0 w')
def EG(h:Bool)(x:Tree):Bool:=nodeB x&&(h || decide (x.kind≠7))
theorem hn_true:EG true=nodeB:=by grind [EG]
theorem hn_false:EG false=rnodeB:=by grind [EG,rnodeB]
def OO(x:Tree):Prop:=La x<=1000000000->Ob x<=1073741824->∀(h:Bool) S w0 cs,Rep S w0 (Na x) cs->Calls prog 109 #[.agg cs.toArray,.bool h] w0 (Za λv w'=>v=.bool (Uc (EG h) x)/\Same [] w0 w')
theorem Ws:∀(xs:List Tree)(j:Nat),Ra (xs.take j)<=Ra xs
  | [],j=>by simp
  | x::xs,0=>by simp[Ra]
  | x :: xs, j + 1 => by
    have:=Ws xs j;rw[List.take_succ_cons,Ra,Ra];omega
def OL(k:Int)(t:Str)(ks:List Str)(xs:List Tree)(ih:∀x,x∈xs->VL x):VL (.node k t ks xs):=by
 intro hsz S w0 cs hR;obtain⟨A,c,B,e,rfl,-,-,-,hX⟩:=hR.tree_inv;have hXl:=hX.slice_len;have hdl:=Vv xs;rw[La]at hsz;refine Ea func107 ntmps107 ?_;intro hF;refine rn 3 ?_;rintro b1 w hb1 hF -;refine rn 15<|Sa (λμ σ w=>∃(j:Nat),μ=aL xs-j/\(j<=aL xs)/\AllEq σ [(1,V b1),(3,J<|((1+Ra (xs.take j):Nat):Int)),(4,J<|(j:Int))]/\FR w0 [] [(b1,.cells #[J k,I t,.slice A (aL ks) c,.slice B (aL xs) e] 36)] w) _ ⟨0,O,dZ _,ae3,hF⟩ ?_;rintro μ σ w ⟨j,rfl,hj,hzz,hF⟩;refine Wf hzz 11 ⟨λhc0=>?_,λhc0=>?_⟩;refine rn 9 ?_;obtain⟨ad0,cs0,hA0,hl0,hk0,hx0⟩:=hX.tree_elem (i:=j) Aa;have ho0:=hx0.one_;refine Ba (v:=.pointer<|some<|ad0.add<|j*4) (Ca (i:=(j:Int)) Fd hA0)<|Ba (v:=.agg<|List.toArray cs0) (Ma (l:=cs0) qZ uZ O hl0<|hF.cells0 hk0) ?_;refine Ia (ih _ (eQ _) zW _ _ _<|hF.rep hx0) ?_;rintro w hF -;refine Ba (v:=J<|((1+Ra (xs.take<|j+1):Nat):Int)) (Cl O O (by have h1:=B2 xs j Aa;have h2:=Td<|List.getElem_mem (l:=xs) (n:=j) Aa;have h3:=Ws xs<|j+1;exact Gd (by rw[h1];omega) Aa Aa)) ?_;refine rn 6<|Zb (Wd<|((j+1:Nat):Int)) ?_;refine rn 2<|Ha ⟨_,?_,j+1,O,Aa,Va,hF⟩;omega;refine rn 4 ?_;have eT:xs.take j=xs:=eZ Aa;refine rn 5 ?_;exact⟨by rw[eT,La],hF.same⟩
def WE(x:Tree):VL x:=Tree.ind OL x
def DG(k:Int)(t:Str)(ks:List Str)(xs:List Tree)(ih:∀x,x∈xs->CE x):CE (.node k t ks xs):=by
 intro hsz S w0 cs hR;obtain⟨A,c,B,e,rfl,-,-,-,hX⟩:=hR.tree_inv;have hXl:=hX.slice_len;have hdl:=Vv xs;rw[La]at hsz;refine Ea func108 ntmps108 ?_;intro hF;refine rn 3 ?_;rintro b1 w hb1 hF -;refine rn 15<|Sa (λμ σ w=>∃(j:Nat),μ=aL xs-j/\(j<=aL xs)/\AllEq σ [(1,V b1),(3,J<|(Ac (xs.take j):Nat)),(4,J<|(j:Int))]/\FR w0 [] [(b1,.cells #[J k,I t,.slice A (aL ks) c,.slice B (aL xs) e] 36)] w) _ ⟨0,O,dZ _,ae3,hF⟩ ?_;rintro μ σ w ⟨j,rfl,hj,hzz,hF⟩;refine Wf hzz 11 ⟨λhc0=>?_,λhc0=>?_⟩;refine rn 9 ?_;obtain⟨ad0,cs0,hA0,hl0,hk0,hx0⟩:=hX.tree_elem (i:=j) Aa;have ho0:=hx0.one_;refine Ba (v:=.pointer<|some<|ad0.add<|j*4) (Ca (i:=(j:Int)) Fd hA0)<|Ba (v:=.agg<|List.toArray cs0) (Ma (l:=cs0) qZ uZ O hl0<|hF.cells0 hk0) ?_;refine Ia (ih _ (eQ _) zW _ _ _<|hF.rep hx0) ?_;rintro w hF -;refine Ba (v:=J<|(Ac (xs.take<|j+1):Nat)) jN ?_;refine rn 6<|Zb (Wd<|((j+1:Nat):Int)) ?_;refine rn 2<|Ha ⟨_,?_,j+1,O,Aa,Va,hF⟩;omega;refine rn 5 ?_;have eT:xs.take j=xs:=eZ Aa;refine Ba (v:=J<|(Nb (.node k t ks xs):Nat)) (Cl O O (by rw[eT,Nb];exact Gd Aa Aa Aa)) ?_;refine rn 4 ?_;exact⟨O,hF.same⟩
def K_(x:Tree):CE x:=Tree.ind DG x
def Km(h:(!b)=false):b=true:=aS h
def Sq(h:(!b)=true):b=false:=aS h
theorem C8:nodeB (.node 6 t ks xs)=(Wj ks (aL xs)&&decide (t=[])):=by grind [nodeB]
theorem six_bad(h:i<aL ks)(hv:Lib.validD ks[i]=false):nodeB (.node 6 t ks xs)=false:=by grind [C8,Wj,NS]
theorem six_dup(h:i<aL ks)(hm:m<i)(he:ks[m]=ks[i]):nodeB (.node 6 t ks xs)=false:=by
  have:¬ks.Nodup:=Pr h (by rw[<-he];exact List.mem_take_iff_getElem.2 ⟨m,Aa,rfl⟩);grind [C8,Wj]
theorem HP(hn:ks.Nodup)(hv:ks.all Lib.validD=true):nodeB (.node 6 t ks xs)=(decide (t=[])&&decide (((aL ks:Nat):Int)=((aL xs:Nat):Int))):=by grind [C8,Wj]
theorem node_not(h1:¬k=1)(h2:¬k=2)(h3:¬k=3)(h4:¬k=4)(h5:¬k=5)(h6:¬k=6)(h7:¬k=7):nodeB (.node k t ks xs)=false:=by grind [nodeB]
theorem G0(h:k≠6)(hk:(0:Int)<((aL ks:Nat):Int)):nodeB (.node k t ks xs)=false:=by grind [nodeB]
theorem Mv(h:k≠6)(h5:k≠5)(hk:(0:Int)<((aL xs:Nat):Int)):nodeB (.node k t ks xs)=false:=by grind [nodeB]
theorem nd1(h:k=1)(hk:ks=[])(hx:xs=[]):nodeB (.node k t ks xs)=decide (t=[]):=by grind [nodeB]
theorem nd5(h:k=5)(hk:ks=[]):nodeB (.node k t ks xs)=decide (t=[]):=by grind [nodeB]
theorem nd2(h:k=2)(hk:ks=[])(hx:xs=[]):nodeB (.node k t ks xs)=(decide (t=[116,114,117,101]) || decide (t=[102,97,108,115,101])):=by grind [nodeB]
theorem nd3(h:k=3)(hk:ks=[])(hx:xs=[]):nodeB (.node k t ks xs)=Bh t:=by grind [nodeB]
theorem nd4(h:k=4)(hk:ks=[])(hx:xs=[]):nodeB (.node k t ks xs)=Lib.validD t:=by grind [nodeB]
theorem nd7(h:k=7)(hk:ks=[])(hx:xs=[]):nodeB (.node k t ks xs)=Vr t:=by grind [nodeB]
theorem VM(h1:Bh t=true)(h2:(Lr (Wb t).1).2=true):Vr t=decide (0<=(Lr (Wb t).1).1):=by grind [Vr]
theorem HC(h1:Bh t=false):Vr t=false:=by grind [Vr]
theorem GE(h2:(Lr (Wb t).1).2=false):Vr t=false:=by grind [Vr]
theorem B0(h:¬(0:Int)<((aL ks:Nat):Int):=by omega):ks=[]:=qX
theorem K0(h:¬(0:Int)<((aL xs:Nat):Int):=by omega):xs=[]:=qX
def rnode_c_(k:Int)(t:Str)(ks:List Str)(xs:List Tree)(S:Nat->Prop)(w0:World)(cs:List Value)(hR:Rep S w0 (Na (.node k t ks xs)) cs)(hm:Ob (.node k t ks xs)<=1073741824):Calls prog 168 #[.agg cs.toArray] w0 (Za λv w'=>v=.bool (nodeB (.node k t ks xs))/\Same [] w0 w'):=by
 obtain⟨A,c,B,e,rfl,-,-,hK,hX⟩:=hR.tree_inv;have hKl:=hK.slice_len;have hXl:=hX.slice_len;rw[Ob]at hm;have hkm:∀q (h:q<aL ks),aL ks[q]<=1073741824:=λq h=>fQ (Oi<|eQ h) Aa;refine Ea func168 ntmps168 ?_;intro hF;refine rn 3 ?_;rintro b1 w hb1 hF -;refine rn 4<|Eb (λσ w=>(k≠6->ks=[])/\(k≠6->k≠5->xs=[])/\AllEq σ [(1,V b1)]/\FR w0 [] [(b1,.cells #[J k,I t,.slice A (aL ks) c,.slice B (aL xs) e] 36)] w) ?_ ?_
 ·
  refine rn 7 ⟨λhg0=>?_,λhg0=>?_⟩
  ·
   refine rn 7 ⟨λhg1=>?_,λhg1=>?_⟩
   ·
    refine rn 24 ⟨yQ Value.bool ?_,hF.same⟩
    first|exact (G0 Aa qW).symm|exact (Mv Aa Aa qW).symm
   refine rn 5 ⟨λhg2=>?_,λhg2=>?_⟩
   ·
    refine rn 6 ⟨λhg3=>?_,λhg3=>?_⟩
    ·
     refine rn 9 ⟨λhc0=>?_,λhc0=>?_⟩
     ·
      refine rn 6 ⟨yQ Value.bool ?_,hF.same⟩
      first|exact (G0 Aa qW).symm|exact (Mv Aa Aa qW).symm
     refine rn 1 ?_;exact Ha ⟨zP,zN,Va,hF⟩
    refine rn 10 ?_;exact Ha ⟨zP,zN,Va,hF⟩
   refine rn 15 ?_;exact Ha ⟨zP,zN,Va,hF⟩
  refine rn 11 ⟨λhg4=>?_,λhg4=>?_⟩
  ·
   refine rn 6 ⟨λhg5=>?_,λhg5=>?_⟩
   ·
    refine rn 9 ⟨λhc0=>?_,λhc0=>?_⟩
    ·
     refine rn 6 ⟨yQ Value.bool ?_,hF.same⟩
     first|exact (G0 Aa qW).symm|exact (Mv Aa Aa qW).symm
    refine rn 1 ?_;exact Ha ⟨zP,zN,Va,hF⟩
   refine rn 10 ?_;exact Ha ⟨zP,zN,Va,hF⟩
  refine rn 15 ?_;exact Ha ⟨zP,zN,Va,hF⟩
 rintro σ w ⟨hk0,hx0,hzz,hF⟩;refine Aj hzz 17 ⟨λhc1=>?_,λhc1=>?_⟩
 ·
  refine rn 12 ⟨yQ Value.bool ?_,hF.same⟩
  first|(exfalso;omega)|exact (nd5 Aa<|hk0 Aa).symm|exact (nd1 Aa (hk0 Aa)<|hx0 Aa Aa).symm
 refine rn 6 ⟨λhc2=>?_,λhc2=>?_⟩
 ·
  refine rn 9 ⟨yQ Value.bool ?_,hF.same⟩
  first|(exfalso;omega)|exact (nd5 Aa<|hk0 Aa).symm|exact (nd1 Aa (hk0 Aa)<|hx0 Aa Aa).symm
 refine rn 7 ⟨λhc3=>?_,λhc3=>?_⟩
 ·
  refine rn 7 ⟨λhg6=>?_,λhg6=>?_⟩
  ·
   refine rn 8 ⟨yQ Value.bool ?_,hF.same⟩
   first|(exfalso;omega)|rw[nd2 Aa (hk0 Aa)<|hx0 Aa Aa]
   all_goals first|(rw[gZ (show t=[116,114,117,101] by assumption)];rfl)|(rw[fZ (show ¬t=[116,114,117,101] by assumption)];rfl)
  refine rn 8 ⟨yQ Value.bool ?_,hF.same⟩
  first|(exfalso;omega)|rw[nd2 Aa (hk0 Aa)<|hx0 Aa Aa]
  all_goals first|(rw[gZ (show t=[116,114,117,101] by assumption)];rfl)|(rw[fZ (show ¬t=[116,114,117,101] by assumption)];rfl)
 refine rn 7 ⟨λhc4=>?_,λhc4=>?_⟩
 ·
  refine rn 4<|Ia (M6 t Aa _) ?_;rintro w hF -;refine rn 4 ?_;rintro b2 w hb2 hF -;refine rn 10 ⟨yQ Value.bool ?_,hF.same⟩
  first|(exfalso;omega)|exact (nd3 Aa (hk0 Aa)<|hx0 Aa Aa).symm
 refine rn 7 ⟨λhc5=>?_,λhc5=>?_⟩
 ·
  refine rn 4<|Ia (utf_c t Aa _) ?_;rintro w hF -;refine rn 4 ⟨yQ Value.bool ?_,hF.same⟩
  first|(exfalso;omega)|exact (nd4 Aa (hk0 Aa)<|hx0 Aa Aa).symm
 refine rn 7 ⟨λhc6=>?_,λhc6=>?_⟩
 ·
  refine rn 4<|Ia (M6 t Aa _) ?_;rintro w hF -;refine rn 4 ?_;rintro b3 w hb3 hF -;refine rn 6 ?_;refine Ia (rint_c (Wb t).1 (by have:=Nf t;omega) _) ?_;rintro w hF -;refine rn 12 ⟨λhg7=>?_,λhg7=>?_⟩
  ·
   refine rn 4 ⟨λhg8=>?_,λhg8=>?_⟩
   ·
    refine rn 7 ⟨yQ Value.bool ?_,hF.same⟩
    first|(exfalso;omega)|rw[nd7 Aa (hk0 Aa)<|hx0 Aa Aa]
    all_goals first|exact (HC qW).symm|exact (GE qW).symm|exact (VM qW qW).symm
   refine rn 7 ⟨yQ Value.bool ?_,hF.same⟩
   first|(exfalso;omega)|rw[nd7 Aa (hk0 Aa)<|hx0 Aa Aa]
   all_goals first|exact (HC qW).symm|exact (GE qW).symm|exact (VM qW qW).symm
  refine rn 10 ⟨yQ Value.bool ?_,hF.same⟩
  first|(exfalso;omega)|rw[nd7 Aa (hk0 Aa)<|hx0 Aa Aa]
  all_goals first|exact (HC qW).symm|exact (GE qW).symm|exact (VM qW qW).symm
 refine rn 7 ⟨λhc7=>?_,λhc7=>?_⟩
 ·
  refine rn 7<|Sa (λμ σ w=>∃(i:Nat),μ=aL ks-i/\(i<=aL ks)/\((ks.take i).all Lib.validD=true)/\((ks.take i).Nodup)/\AllEq σ [(1,V b1),(9,J<|(i:Int))]/\FR w0 [] [(b1,.cells #[J k,I t,.slice A (aL ks) c,.slice B (aL xs) e] 36)] w) _ ⟨0,O,dZ _,Da,Da,Va,hF⟩ ?_;rintro μ σ w ⟨i,rfl,hi,hva,hnd,hzz,hF⟩;refine Wf hzz 11 ⟨λhc8=>?_,λhc8=>?_⟩
  ·
   refine rn 9 ?_;obtain⟨ad9,hA9,hk9,hx9⟩:=hK.str_elem (i:=i) Aa;refine Ba (v:=.pointer<|some<|ad9.add<|i*1) (Ca (i:=(i:Int)) Ii hA9)<|Ba (v:=I<|ks[i]) (Xa sZ<|hF.cell0 hk9) ?_;refine Ia (utf_c ks[i] (by have:=hkm i Aa;omega) _) ?_;rintro w hF -;refine rn 11 ⟨λhc9=>?_,λhc9=>?_⟩
   ·
    refine rn 6 ⟨yQ Value.bool ?_,hF.same⟩;have h6:k=6:=Aa;subst h6;exact (six_bad (i:=i) Aa<|Sq qW).symm
   refine rn 8 ?_;have hik:i<aL ks:=Aa
   refine Sa (λμ σ w=>∃(m:Nat),μ=i-m/\(m<=i)/\(∀q (hq:q<aL ks),q<m->ks[q]≠ks[i]' hik)/\AllEq σ [(1,V b1),(9,J<|(i:Int)),(11,J<|(m:Int))]/\FR w0 [] [(b1,.cells #[J k,I t,.slice A (aL ks) c,.slice B (aL xs) e] 36)] w) _ ⟨0,O,dZ _,λq _ h=>absurd h Aa,Va,hF⟩ ?_;rintro μ σ w ⟨m,rfl,hmi,hno,hzz,hF⟩;refine Wf hzz 9 ⟨λhc10=>?_,λhc10=>?_⟩
   ·
    refine rn 5<|Rb (zs:=.of []) (bQ [0,1,2,3,4,5,6,7,8,9,10] .nil) hF ?_;intro w hF;refine rn 3 ?_;obtain⟨ad10,hA10,hk10,hx10⟩:=hK.str_elem (i:=m) Aa;refine Ga O (v:=.pointer<|some<|ad10.add<|m*1) (λw hC=>Ca (i:=(m:Int)) Ii hA10)<|Ga O (v:=I<|ks[m]) (λw hC=>Xa sZ<|hC.cell0 hk10) ?_;refine rn 3 ?_;obtain⟨ad11,hA11,hk11,hx11⟩:=hK.str_elem (i:=i) Aa;refine Ga O (v:=.pointer<|some<|ad11.add<|i*1) (λw hC=>Ca (i:=(i:Int)) Ii hA11)<|Ga O (v:=I<|ks[i]) (λw hC=>Xa sZ<|hC.cell0 hk11) ?_;refine rn 4 ⟨λhc11=>?_,λhc11=>?_⟩
    ·
     refine rn 6 ⟨yQ Value.bool ?_,hF.same⟩;have h6:k=6:=Aa;subst h6;exact (six_dup (i:=i) (m:=m) Aa Aa qW).symm
    refine rn 5<|Zb (Wd<|((m+1:Nat):Int)) ?_;refine rn 2 ?_;refine Ha ⟨_,?_,m+1,rfl,Aa,(λq hq h=>by rcases Nat.lt_or_ge q m with h1|h1;exact hno q hq h1;obtain rfl:q=m:=Aa;assumption),Va,hF⟩;omega
   refine rn 5<|Zb (Wd<|((i+1:Nat):Int)) ?_;refine rn 2 ?_;refine Ha ⟨_,?_,i+1,rfl,Aa,Uu Aa hva<|Km qW,(Xr Aa hnd (λhm=>by obtain⟨q,hq,hq2⟩:=List.mem_take_iff_getElem.1 hm;exact hno q Aa Aa hq2)),Va,hF⟩;omega
  refine rn 9 ⟨λhg12=>?_,λhg12=>?_⟩
  ·
   refine rn 12 ⟨yQ Value.bool ?_,hF.same⟩;have h6:k=6:=Aa;subst h6;have hz:=HP (t:=t) (ks:=ks) (xs:=xs) (by rw[<-eZ (show aL ks<=i by omega)];exact hnd) (by rw[<-eZ (show aL ks<=i by omega)];exact hva);rw[hz]
   first|(rw[gZ (show t=[] by assumption),Bool.true_and])|(rw[fZ (show ¬t=[] by assumption),Bool.false_and])
  refine rn 12 ⟨yQ Value.bool ?_,hF.same⟩;have h6:k=6:=Aa;subst h6;have hz:=HP (t:=t) (ks:=ks) (xs:=xs) (by rw[<-eZ (show aL ks<=i by omega)];exact hnd) (by rw[<-eZ (show aL ks<=i by omega)];exact hva);rw[hz]
  first|(rw[gZ (show t=[] by assumption),Bool.true_and])|(rw[fZ (show ¬t=[] by assumption),Bool.false_and])
 refine rn 9 ⟨yQ Value.bool ?_,hF.same⟩;exact (node_not Aa Aa Aa Aa Aa Aa Aa).symm
def VZ{f:α->Bool}{l:List α}(h:j<aL l)(ha:(l.take j).all f=true)(hf:f l[j]=true):(l.take (j+1)).all f=true:=by
  rw[iQ h,List.all_append,ha,List.all_cons,hf];rfl
theorem TU{f:α->Bool}{l:List α}(h:j<aL l)(hf:f l[j]=false):l.all f=false:=qK
def HE(q:Tree->Bool)(k:Int)(t:Str)(ks:List Str)(xs:List Tree):Uc q (.node k t ks xs)=(q (.node k t ks xs)&&xs.all (Uc q)):=by rw[Uc,Ui]
def UF(k:Int)(t:Str)(ks:List Str)(xs:List Tree)(ih:∀x,x∈xs->OO x):OO (.node k t ks xs):=by
 intro hsz hm h S w0 cs hR;obtain⟨A,c,B,e,rfl,-,-,hK,hX⟩:=hR.tree_inv;have hR0:=hR;have hXl:=hX.slice_len;rw[La]at hsz;refine Ea func109 ntmps109 ?_;intro hF;refine rn 3 ?_;rintro b1 w hb1 hF -;refine rn 6<|Ia (rnode_c_ k t ks xs _ _ _ (hF.rep hR0) hm) ?_;rintro w hF -;refine rn 5<|Eb (λσ w=>∃(bd:Bool),(bd = !(EG h<|.node k t ks xs))/\AllEq σ [(1,.bool h),(2,V b1),(20,.bool bd)]/\FR w0 [] [(b1,.cells #[J k,I t,.slice A (aL ks) c,.slice B (aL xs) e] 36)] w) ?_ ?_;refine rn 5 ⟨λhg0=>?_,λhg0=>?_⟩;refine rn 9 ?_;exact Ha ⟨true,qP,Va,hF⟩;refine rn 5 ⟨λhg1=>?_,λhg1=>?_⟩;refine rn 5 ?_;exact Ha ⟨!(h),qP,Va,hF⟩;refine rn 5 ?_;exact Ha ⟨false,qP,Va,hF⟩;rintro σ w ⟨bd,hbd,hzz,hF⟩;refine Aj hzz 2 ⟨λhc0=>?_,λhc0=>?_⟩;refine rn 6 ⟨yQ Value.bool ?_,hF.same⟩;have hn:EG h (.node k t ks xs)=false:=by rw[hbd]at hc0;simpa using hc0
 rw[HE,hn];rfl;refine rn 9<|Sa (λμ σ w=>∃(j:Nat),μ=aL xs-j/\(j<=aL xs)/\((xs.take j).all (Uc<|EG h)=true)/\AllEq σ [(1,.bool h),(2,V b1),(6,J<|(j:Int))]/\FR w0 [] [(b1,.cells #[J k,I t,.slice A (aL ks) c,.slice B (aL xs) e] 36)] w) _ ⟨0,O,dZ _,Da,Va,hF⟩ ?_;rintro μ σ w ⟨j,rfl,hj,ha,hzz,hF⟩;refine Wf hzz 11 ⟨λhc1=>?_,λhc1=>?_⟩;refine rn 9 ?_;obtain⟨ad2,cs2,hA2,hl2,hk2,hx2⟩:=hX.tree_elem (i:=j) Aa;have ho2:=hx2.one_;refine Ba (v:=.pointer<|some<|ad2.add<|j*4) (Ca (i:=(j:Int)) Fd hA2)<|Ba (v:=.agg<|List.toArray cs2) (Ma (l:=cs2) qZ uZ O hl2<|hF.cells0 hk2) ?_;refine rn 1 ?_;refine Ia (ih _ (eQ _) zW (by have:=Th<|List.getElem_mem (l:=xs) (n:=j) Aa;rw[Ob]at hm;omega) h _ _ _<|hF.rep hx2) ?_;rintro w hF -;refine rn 10 ⟨λhc2=>?_,λhc2=>?_⟩;refine rn 6 ⟨yQ Value.bool ?_,hF.same⟩;rw[HE,TU (f:=Uc<|EG h) (l:=xs) (j:=j) Aa<|Sq qW,Bool.and_false];refine rn 5<|Zb (Wd<|((j+1:Nat):Int)) ?_;refine rn 2<|Ha ⟨_,?_,j+1,O,Aa,VZ Aa ha<|Km qW,Va,hF⟩;omega;refine rn 8 ⟨yQ Value.bool ?_,hF.same⟩;have hn:EG h (.node k t ks xs)=true:=by rw[hbd]at hc0;simpa using hc0
 have hz:xs.all (Uc<|EG h)=true:=by rw[<-eZ (show aL xs<=j by omega)];exact ha
 rw[HE,hn,hz];rfl
def Z_(x:Tree):OO x:=Tree.ind UF x
theorem MH(x:Tree)(hsz:La x<=1000000000)(hm:Ob x<=1073741824)(S:Nat->Prop)(w0:World)(cs:List Value)(hR:Rep S w0 (Na x) cs):Calls prog 71 #[.agg cs.toArray] w0 (Za λv w'=>v=.bool (Id x)/\Same [] w0 w'):=by
 have hl:aL cs=4:=hR.length.trans<|Bb x;have ho:=hR.one_;refine Ea func71 ntmps71 ?_;intro hF;refine rn 2<|Gk (v:=.agg<|List.toArray cs) (cs:=(List.toArray cs)) hF O O ?_;rintro b1 w hb1 hF -;refine rn 5<|Ba (v:=.agg<|List.toArray cs) (Ma (l:=cs) qZ uZ O hl<|hF.cellsAll 0 O) ?_;refine Ia (WE x hsz _ _ cs<|hF.rep hR) ?_;rintro w hF -;refine rn 3 ⟨λhg0=>?_,λhg0=>?_⟩;refine Ba (v:=.agg<|List.toArray cs) (Ma (l:=cs) qZ uZ O hl<|hF.cellsAll 0 O)<|Ia (K_ x hsz _ _ cs<|hF.rep hR) ?_;rintro w hF -;refine rn 4 ⟨λhg1=>?_,λhg1=>?_⟩;refine Ba (v:=.agg<|List.toArray cs) (Ma (l:=cs) qZ uZ O hl<|hF.cellsAll 0 O) ?_;refine Ia ((by have h:=Z_ x hsz hm false _ _ cs<|hF.rep hR;rw[hn_false]at h;exact h)) ?_;rintro w hF -;refine rn 5 ⟨yQ Value.bool ?_,hF.same⟩;unfold Id Yj
 ·first|(rw[fZ (show ¬La x<=4096 by omega)];simp;done)|(rw[fZ (show ¬Nb x<=32 by omega)];simp;done)|(rw[gZ (show La x<=4096 by omega),gZ (show Nb x<=32 by omega)];simp;done)|simp_all
 refine rn 7 ⟨yQ Value.bool ?_,hF.same⟩;unfold Id Yj
 ·first|(rw[fZ (show ¬La x<=4096 by omega)];simp;done)|(rw[fZ (show ¬Nb x<=32 by omega)];simp;done)|(rw[gZ (show La x<=4096 by omega),gZ (show Nb x<=32 by omega)];simp;done)|simp_all
 refine rn 12 ⟨yQ Value.bool ?_,hF.same⟩;unfold Id Yj
 ·first|(rw[fZ (show ¬La x<=4096 by omega)];simp;done)|(rw[fZ (show ¬Nb x<=32 by omega)];simp;done)|(rw[gZ (show La x<=4096 by omega),gZ (show Nb x<=32 by omega)];simp;done)|simp_all
theorem ropen_t(x:Tree)(hsz:La x<=1000000000)(hm:Ob x<=1073741824)(S:Nat->Prop)(w0:World)(cs:List Value)(hR:Rep S w0 (Na x) cs):Calls prog 84 #[.agg cs.toArray] w0 (Za λv w'=>v=.bool (De x)/\Same [] w0 w'):=by
 have hl:aL cs=4:=hR.length.trans<|Bb x;have ho:=hR.one_;refine Ea func84 ntmps84 ?_;intro hF;refine rn 2<|Gk (v:=.agg<|List.toArray cs) (cs:=(List.toArray cs)) hF O O ?_;rintro b1 w hb1 hF -;refine rn 5<|Ba (v:=.agg<|List.toArray cs) (Ma (l:=cs) qZ uZ O hl<|hF.cellsAll 0 O) ?_;refine Ia (WE x hsz _ _ cs<|hF.rep hR) ?_;rintro w hF -;refine rn 3 ⟨λhg0=>?_,λhg0=>?_⟩;refine Ba (v:=.agg<|List.toArray cs) (Ma (l:=cs) qZ uZ O hl<|hF.cellsAll 0 O)<|Ia (K_ x hsz _ _ cs<|hF.rep hR) ?_;rintro w hF -;refine rn 4 ⟨λhg1=>?_,λhg1=>?_⟩;refine Ba (v:=.agg<|List.toArray cs) (Ma (l:=cs) qZ uZ O hl<|hF.cellsAll 0 O) ?_;refine Ia ((by have h:=Z_ x hsz hm true _ _ cs<|hF.rep hR;rw[hn_true]at h;exact h)) ?_;rintro w hF -;refine rn 5 ⟨yQ Value.bool ?_,hF.same⟩;unfold De Yj
 ·first|(rw[fZ (show ¬La x<=4096 by omega)];simp;done)|(rw[fZ (show ¬Nb x<=32 by omega)];simp;done)|(rw[gZ (show La x<=4096 by omega),gZ (show Nb x<=32 by omega)];simp;done)|simp_all
 refine rn 7 ⟨yQ Value.bool ?_,hF.same⟩;unfold De Yj
 ·first|(rw[fZ (show ¬La x<=4096 by omega)];simp;done)|(rw[fZ (show ¬Nb x<=32 by omega)];simp;done)|(rw[gZ (show La x<=4096 by omega),gZ (show Nb x<=32 by omega)];simp;done)|simp_all
 refine rn 12 ⟨yQ Value.bool ?_,hF.same⟩;unfold De Yj
 ·first|(rw[fZ (show ¬La x<=4096 by omega)];simp;done)|(rw[fZ (show ¬Nb x<=32 by omega)];simp;done)|(rw[gZ (show La x<=4096 by omega),gZ (show Nb x<=32 by omega)];simp;done)|simp_all
def atZ(ks:List Str)(key:Str):Int:=if key∈ks then ((ks.idxOf key:Nat):Int) else -1
theorem idx_at:∀{ks:List Str}{key:Str}{j:Nat}(h:j<aL ks),(∀x∈ks.take j,x≠key)->ks[j]=key->ks.idxOf key=j
  | k :: ks, key, 0, _, _, he => by
    have he':k=key:=he;rw[List.idxOf_cons,he'];simp
  | k :: ks, key, j + 1, h, hn, he => by
    have h0:k≠key:=hn k Da;rw[List.idxOf_cons];have hb:(k==key)=false:=aS h0
    rw[hb];simp only[cond_false];rw[idx_at (ks:=ks) (j:=j) (aS h) (λx hx=>hn x wM) (aS he)]
theorem at_found{key:Str}(h:j<aL ks)(hn:∀x∈ks.take j,x≠key)(he:ks[j]=key):atZ ks key=(j:Int):=by grind [atZ,idx_at]
theorem at_none{key:Str}(hn:∀x∈ks,x≠key):atZ ks key = -1:=by grind [atZ]
theorem no_next{key:Str}(h:j<aL ks)(hn:∀x∈ks.take j,x≠key)(he:ks[j]≠key):∀x∈ks.take (j+1),x≠key:=by
  rw[iQ h];grind
def at_c(k:Int)(t:Str)(ks:List Str)(xs:List Tree)(key:Str)(S:Nat->Prop)(w0:World)(cs:List Value)(hR:Rep S w0 (Na (.node k t ks xs)) cs):Calls prog 143 #[.agg cs.toArray,I key] w0 (Za λv w'=>v=J (atZ ks key)/\Same [] w0 w'):=by
 obtain⟨A,c,B,e,rfl,-,-,hK,hX⟩:=hR.tree_inv;have hKl:=hK.slice_len;refine Ea func143 ntmps143 ?_;intro hF;refine rn 3 ?_;rintro b1 w hb1 hF -;refine rn 10<|Sa (λμ σ w=>∃(j:Nat),μ=aL ks-j/\(j<=aL ks)/\(∀x∈ks.take j,x≠key)/\AllEq σ [(1,I key),(2,V b1),(5,J<|(j:Int))]/\FR w0 [] [(b1,.cells #[J k,I t,.slice A (aL ks) c,.slice B (aL xs) e] 36)] w) _ ⟨0,O,dZ _,Da,Va,hF⟩ ?_;rintro μ σ w ⟨j,rfl,hj,hno,hzz,hF⟩;refine Wf hzz 11 ⟨λhc0=>?_,λhc0=>?_⟩;refine rn 9 ?_;obtain⟨ad0,hA0,hk0,hx0⟩:=hK.str_elem (i:=j) Aa;refine Ba (v:=.pointer<|some<|ad0.add<|j*1) (Ca (i:=(j:Int)) Ii hA0)<|Ba (v:=I<|ks[j]) (Xa sZ<|hF.cell0 hk0) ?_;refine rn 5 ⟨λhc1=>?_,λhc1=>?_⟩;refine rn 7 ?_;exact⟨by rw[at_found Aa hno qW],hF.same⟩;refine rn 5<|Zb (Wd<|((j+1:Nat):Int)) ?_;refine rn 2<|Ha ⟨_,?_,j+1,O,Aa,no_next Aa hno qW,Va,hF⟩;omega;refine rn 8 ?_;exact⟨by rw[at_none (by rw[eZ Aa]at hno;exact hno)],hF.same⟩
end Go.Scarf
