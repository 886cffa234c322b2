/- A part of the proof. -/
import Derived.Test.YtidlkjpohhbbcaaGreatDoorE12
set_option linter.all false
set_option maxHeartbeats 8000000
set_option maxRecDepth 10000
namespace Go.Scarf
open Go.RowKit Go.Proofs Go.Proofs.Tryz
def WW(m:Bool)(ind d:Nat)(k:Int)(ks:List Str)(xs:List Tree):List Str:=if k=6 then Em m ind xs ks (d+1) else Br m ind xs (d+1)
def tG(m:Bool)(ind d:Nat)(k:Int)(ks:List Str)(xs:List Tree)(j:Nat):Str:=(if k=6 then 123 else 91)::Qi m ind d true ((WW m ind d k ks xs).take j)
theorem LD(m:Bool)(ind d:Nat)(k:Int)(ks:List Str)(xs:List Tree):(WW m ind d k ks xs).length=xs.length:=by
  unfold WW;split
  ·exact Uo _ _ _ _ _
  rw[Lo,rQ]
theorem Qy(m:Bool)(ind d:Nat):∀(ps:List Str)(j:Nat)(h:j<ps.length)(b:Bool),Qi m ind d b (ps.take (j+1))=Qi m ind d b (ps.take j)++((if b=true/\j=0 then [] else [44])++(Nh m ind (d+1)++ps[j]))
  | p::ps,0,h,b=>by cases b <;> simp[Qi]
  | p :: ps, j + 1, h, b => by
    have h1:j<ps.length:=by simpa using h
    rw[List.take_succ_cons,List.take_succ_cons,Qi,Qi,Qy m ind d ps j h1 false];simp
theorem HK(m:Bool)(ind d:Nat):∀(ps:List Str)(j:Nat)(b:Bool),(Qi m ind d b (ps.take j)).length<=(Qi m ind d b ps).length
  | [],j,b=>by simp
  | p::ps,0,b=>by simp[Qi]
  | p :: ps, j + 1, b => by
    have:=HK m ind d ps j false;rw[List.take_succ_cons,Qi,Qi];simp only[dQ];omega
theorem EU(m:Bool)(ind d:Nat)(k:Int)(ks:List Str)(xs:List Tree):tG m ind d k ks xs 0=[if k=6 then 123 else 91]:=by rw[tG,List.take_zero,Qi]
theorem tG_succ{m:Bool}{ind d:Nat}{k:Int}{ks:List Str}{xs:List Tree}{j:Nat}(h6:k=6->ks.length=xs.length)(h:j<xs.length) :
    (k=6/\∃hk:j<ks.length,tG m ind d k ks xs (j+1)=tG m ind d k ks xs j++((if j=0 then [] else [44])++(Nh m ind (d+1)++(qS ks[j]++([58]++((if m then [32] else [])++Ag m ind xs[j] (d+1))))))) \/
    (¬k=6/\tG m ind d k ks xs (j+1)=tG m ind d k ks xs j++((if j=0 then [] else [44])++(Nh m ind (d+1)++Ag m ind xs[j] (d+1)))):=by
  have h1:j<(WW m ind d k ks xs).length:=by rw[LD];exact h
  by_cases hk:k=6
  ·have hl : j<ks.length := by have := h6 hk;omega
   refine .inl ⟨hk,hl,?_⟩;have h2:(WW m ind d k ks xs)[j]=qS ks[j]++([58]++((if m then [32] else [])++Ag m ind xs[j] (d+1))):=by
     have e:WW m ind d k ks xs=Em m ind xs ks (d+1):=if_pos hk;rw[List.getElem_of_eq e,U2 m ind (d+1) xs ks j h hl,M_]
   rw[tG,Qy m ind d _ j h1 true,h2,tG];simp
  refine .inr ⟨hk, ?_⟩;have h2:(WW m ind d k ks xs)[j]=Ag m ind xs[j] (d+1):=by
    have e:WW m ind d k ks xs=Br m ind xs (d+1):=if_neg hk;have e2:=Lo m ind (d+1) xs;rw[List.getElem_of_eq (e.trans e2),List.getElem_map]
  rw[tG,Qy m ind d _ j h1 true,h2,tG];simp
theorem PO{m:Bool}{ind d:Nat}{k:Int}{t:Str}{ks:List Str}{xs:List Tree}(hk:k=5\/k=6):Ag m ind (.node k t ks xs) d=tG m ind d k ks xs xs.length++((if xs.length=0 then [] else Nh m ind d)++[if k=6 then 125 else 93]):=by
  have hl:=LD m ind d k ks xs;have hn:(WW m ind d k ks xs=[])↔xs.length=0:=by rw[<-hl];exact List.length_eq_zero_iff.symm
  rw[tG,List.take_of_length_le Aa];rcases hk with rfl|rfl
  ·rw[Ag, if_neg Aa, if_neg Aa, if_pos rfl, Im]
   have e:WW m ind d 5 ks xs=Br m ind xs (d+1):=if_neg Aa;have e5:(if (5:Int)=6 then (123:UInt8) else 91)=91:=rfl;have e6:(if (5:Int)=6 then (125:UInt8) else 93)=93:=rfl;rw[<-e,e5,e6];by_cases h:xs.length=0
   ·rw[if_pos h,if_pos (hn.2 h)];simp
   rw[if_neg h,if_neg (λq=>h (hn.1 q))];simp
  rw[Ag, if_neg Aa, if_neg Aa, if_neg Aa, if_pos rfl, Im];have e:WW m ind d 6 ks xs=Em m ind xs ks (d+1):=if_pos rfl;have e5:(if (6:Int)=6 then (123:UInt8) else 91)=123:=rfl;have e6:(if (6:Int)=6 then (125:UInt8) else 93)=125:=rfl;rw[<-e,e5,e6];by_cases h:xs.length=0
  ·rw[if_pos h,if_pos (hn.2 h)];simp
  rw[if_neg h,if_neg (λq=>h (hn.1 q))];simp
theorem tG_le{m:Bool}{ind d:Nat}{k:Int}{t:Str}{ks:List Str}{xs:List Tree}(hk:k=5\/k=6)(j:Nat):(tG m ind d k ks xs j).length+1<=(Ag m ind (.node k t ks xs) d).length:=by
  have h:=congrArg List.length (PO (m:=m) (ind:=ind) (d:=d) (t:=t) (ks:=ks) (xs:=xs) hk);have h3:=HK m ind d (WW m ind d k ks xs) j true;have h4:(tG m ind d k ks xs xs.length).length=(Qi m ind d true (WW m ind d k ks xs)).length+1:=by rw[tG,List.take_of_length_le (by rw[LD];exact gQ _)];rfl
  simp only[dQ,kQ,List.length_nil,h4]at h;rw[tG];simp only[kQ];omega
theorem E9(n:Nat):(Lib.repeatL [32] n).length=n:=by
  induction n with
  | zero=>rfl
  | succ n ih=>simp[Lib.repeatL,ih];try omega
def K1(m:Bool)(ind:Nat):Int:=if m then (ind:Int) else -1
def SO(x:Tree):Prop:=∀(m:Bool) (ind d:Nat) S w0 cs,Rep S w0 (Ob x) cs->Me rnodeB x=true->Kd x<=16777216->ind*(d+Vc x)<=1000000000->d+Vc x<=1000000000->(Ag m ind x d).length<=4398046511104 ->
  Calls prog 72 #[.agg cs.toArray,J (K1 m ind),J (d:Nat)] w0 (Yc λv w'=>v=I (Ag m ind x d)/\Same [] w0 w')
theorem SF{m:Bool}{ind:Nat}(h:0<=K1 m ind):m=true:=by unfold K1 at h;cases m <;> simp_all
theorem T8{m:Bool}{ind:Nat}(h:¬0<=K1 m ind):m=false:=by unfold K1 at h;cases m <;> simp_all
theorem mul_iz{m:Bool}{ind d:Nat}(hm:m=true)(hb:ind*d<=1000000000):IntKind.i64.wrap (K1 m ind*((d:Nat):Int))=((ind*d:Nat):Int):=by
  subst hm;have e:K1 true ind=((ind:Nat):Int):=rfl;rw[e];exact Hg Oa Aa Aa
theorem J6{l:List Str}{j:Nat}(h:j<l.length):l.getD j []=l[j]:=by simp[List.getD,h]
def kG(m:Bool)(k:Int)(ks:List Str)(j:Nat):Str:=if k=6 then qS (ks.getD j [])++([58]++(if m then [32] else [])) else []
theorem tG_next{m:Bool}{ind d:Nat}{k:Int}{ks:List Str}{xs:List Tree}{j:Nat}(h6:k=6->ks.length=xs.length)(h:j<xs.length) :
    tG m ind d k ks xs (j+1)=tG m ind d k ks xs j++((if j=0 then [] else [44])++(Nh m ind (d+1)++(kG m k ks j++Ag m ind xs[j] (d+1)))):=by
  rcases tG_succ (m:=m) (ind:=ind) (d:=d) h6 h with ⟨hk,hj,e⟩|⟨hk,e⟩
  ·rw[e,kG,if_pos hk,J6 hj];simp
  rw[e,kG,if_neg hk];simp
theorem HG(m:Bool)(ind d:Nat):(Nh m ind d).length<=1+ind*d:=by
  rw[Nh];split
  ·simp[E9];omega
  simp
theorem EQ{k:Int}{t:Str}{ks:List Str}{xs:List Tree}(h:rnodeB (.node k t ks xs)=true):1<=k/\k<=6:=by
  rcases G4 h with ⟨h,_⟩|⟨h,_⟩|⟨h,_⟩|⟨h,_⟩|⟨h,_⟩|⟨h,_⟩ <;> omega
theorem YV{k:Int}{t:Str}{ks:List Str}{xs:List Tree}(h:rnodeB (.node k t ks xs)=true)(hk:k=6):ks.length=xs.length:=by
  rcases G4 h with ⟨h,_⟩|⟨h,_⟩|⟨h,_⟩|⟨h,_⟩|⟨h,_⟩|⟨_,_,_,_,h⟩
  all_goals first|exact h|omega
theorem QP(k:Int)(t:Str)(ks:List Str)(xs:List Tree)(ih:∀x∈xs,SO x)(m:Bool)(ind d:Nat)(S:Nat->Prop)(w0:World)(A:Option Addr)(c:Nat)(B:Option Addr)(e:Nat)(hR:Rep S w0 (Ob (.node k t ks xs)) [J k,I t,.slice A ks.length c,.slice B xs.length e])(hK:Rep S w0 (Oh ks) [.slice A ks.length c])(hX:Rep S w0 (.slice (Fe xs)) [.slice B xs.length e])(hn:rnodeB (.node k t ks xs)=true/\∀x∈xs,Me rnodeB x=true)(hmt:t.length<=16777216)(hmk:Mk ks<=16777216)(hmx:Rk xs<=16777216)(hd:ind*(d+(Od xs+1))<=1000000000)(hd2:d+(Od xs+1)<=1000000000)(hl:(Ag m ind (.node k t ks xs) d).length<=4398046511104):Calls prog 72 #[.agg #[J k,I t,.slice A ks.length c,.slice B xs.length e],J (K1 m ind),J (d:Nat)] w0 (Yc λv w'=>v=I (Ag m ind (.node k t ks xs) d)/\Same [] w0 w'):=by
 have hKl:=hK.slice_len;have hXl:=hX.slice_len;have hkk:=EQ hn.1;have h6:k=6->ks.length=xs.length:=λh=>YV hn.1 h;have hbL1:ind*(d+1)<=1000000000:=fQ (Nat.mul_le_mul_left ind Aa) hd;have hbL0:ind*d<=1000000000:=fQ (Nat.mul_le_mul_left ind Aa) hd;refine Fa func72 O ntmps72 Ab (Ik _ _ _) ?_;have hF:=FR.start w0 [];refine Ea (Ce hF O ?_);rintro b1 w hb1 hF -;refine Ba (He O) (Da (Ga (Ea (Ba (Mb Xc O) (Xb (Zg xQ O hF.F 0 O O) (Da (Qa (Ea (Ba (Of O O) ?_)))))))));refine Ba (Kb O) (Da ?_);refine Jb O O (λhc0=>?_) (λhc0=>?_);refine Ea (Ba (He O) (Da ?_));refine Gc (v:=I [110,117,108,108]) O O ?_;exact⟨by rw[Ag,if_pos Aa],hF.same⟩;refine Ga (Ea (Ba (Of O O) (Ba (Kb O) (Da ?_))));refine Jb O O (λhc1=>?_) (λhc1=>?_);refine Ka (Ha (Yd O (Ea (Ba (Mb Id O) (Xb (Ej iZ O hF.F 0 O O) (Ba (He O) (Da ?_)))))));refine Gc (v:=I t) O O ?_;exact⟨by rw[Ag,if_neg Aa,if_neg Aa,if_neg Aa,if_neg Aa],hF.same⟩;refine Ja (Ba (Of O O) (Ba (Kb O) (Da ?_)));refine Jb O O (λhc2=>?_) (λhc2=>?_);refine Ea (Ba (Mb Id O) (Xb (Ej iZ O hF.F 0 O O) (Ba (He O) (Da ?_))));refine Gc (v:=I t) O O ?_;exact⟨by rw[Ag,if_neg Aa,if_neg Aa,if_neg Aa,if_neg Aa],hF.same⟩;refine Ea (Ba (Of O O) (Ba (Kb O) (Da ?_)));refine Jb O O (λhc3=>?_) (λhc3=>?_);refine Ea (Ba (Mb Id O) (Xb (Ej iZ O hF.F 0 O O) ?_));refine Pa hF (KK t Aa _) (Ma en_110 O O) ?_;intro w hF;refine Ba (Mj O) (Ba (Ly O O) (Ba (Rj O O) (Ba (He O) (Ba (Fb O) (Lb (Ba (Ad O) (Ba (He O) (Da ?_))))))));refine Gc (v:=I (qS t)) O O ?_;exact⟨by rw[Ag,if_neg Aa,if_pos Aa],hF.same⟩;refine Ka (Ya (Ha (Ea (Ba (He O) (Lb (Ba (He O) (Da ?_)))))));have hk56:k=5\/k=6:=by omega
 refine Ga (Fd (λσ w=>∃(o:UInt8),∃(c9:UInt8),(o=if k=6 then 123 else 91)/\(c9=if k=6 then 125 else 93)/\AllEq σ [(1,J (K1 m ind)),(2,J ((d:Int))),(3,V b1),(9,I ([o])),(10,I ([c9]))]/\FR w0 [] [(b1,.cells #[J k,I t,.slice A ks.length c,.slice B xs.length e] 36)] w) ?_ ?_);refine Ea (Ba (Mb Xc O) (Xb (Zg xQ O hF.F 0 O O) (Ba (Of O O) (Da ?_))));refine Jb O O (λhc4=>?_) (λhc4=>?_);refine Ea (Ba (He O) (Da (Ja (Ba (He O) (Va ?_)))));exact Ta ⟨(123),(125),(by first|(rw[if_pos Aa])|(rw[if_neg Aa])),(by first|(rw[if_pos Aa])|(rw[if_neg Aa])),Uq,hF⟩;refine Ka ?_;exact Ta ⟨(91),(93),(by first|(rw[if_pos Aa])|(rw[if_neg Aa])),(by first|(rw[if_pos Aa])|(rw[if_neg Aa])),Uq,hF⟩;rintro σ w ⟨o,c9,ho,hc9,hs,hF⟩;refine Eg.slots hs ?_;clear hs;intro σ;refine Ha (Ga (Ea (Ba (Mb Tb O) (Xb (Ie zQ O hF.F 0 O O) (Ba (Nf dX O) (Ba (Of O O) (Da ?_)))))));refine Jb O O (λhc5=>?_) (λhc5=>?_);refine Ea (Ba (Ad O) (Ba (Ad O) ?_));refine Ia (v:=I (([o])++([c9]))) (Hi O O (by (try simp only[dQ,kQ,List.length_nil]);omega)) ?_;refine Ba (He O) (Da ?_);refine Gc (v:=I (([o])++([c9]))) O O ?_;exact⟨by rw[PO hk56,if_pos Aa,show xs.length=0 by omega,EU,ho,hc9];rfl,hF.same⟩;refine Ka (Ha (Ea (Ba (Ad O) (Ba (He O) (Da (Ga (Ea (Ba (Fb O) (Da ?_)))))))));refine Qa (Fc (λμ σ w=>∃(j:Nat),∃(s:Str),μ=xs.length-j/\(j<=xs.length)/\(s=tG m ind d k ks xs j)/\AllEq σ [(1,J (K1 m ind)),(2,J ((d:Int))),(3,V b1),(10,I ([c9])),(11,I s),(12,J ((j:Int)))]/\FR w0 [] [(b1,.cells #[J k,I t,.slice A ks.length c,.slice B xs.length e] 36)] w) _ ⟨0,[o],O,(Nat.zero_le _),(by rw[EU,ho]),Du,hF⟩ ?_);rintro μ σ w ⟨j,s,rfl,hj,hs,hs,hF⟩;refine Cg.slots hs ?_;clear hs;intro σ;have hsl:s.length+1<=4398046511104:=by rw[hs];exact fQ (tG_le hk56 j) hl
 refine Ga (Ea (Ba (Za O) (Ba (Mb Tb O) (Xb (Ie zQ O hF.F 0 O O) (Ba (Nf dX O) (Ba (Pg O O) (Da ?_)))))));refine Jb O O (λhc6=>?_) (λhc6=>?_);have hjx:j<xs.length:=by omega
 have hsj:=tG_next (m:=m) (ind:=ind) (d:=d) h6 hjx;have hlj:=tG_le (m:=m) (ind:=ind) (d:=d) (t:=t) (ks:=ks) (xs:=xs) hk56 (j+1);have hls:=congrArg List.length hsj;simp only[dQ]at hls;refine Ka (Ha (Ga (Qa (Ga ?_))));refine Fd (λσ w=>∃(s1:Str),(s1=s++(if j=0 then [] else [44]))/\AllEq σ [(1,J (K1 m ind)),(2,J ((d:Int))),(3,V b1),(10,I ([c9])),(11,I s1),(12,J ((j:Int)))]/\FR w0 [] [(b1,.cells #[J k,I t,.slice A ks.length c,.slice B xs.length e] 36)] w) ?_ ?_;refine Ea (Ba (Za O) (Ba (Mo O O) (Da ?_)));refine Jb O O (λhc7=>?_) (λhc7=>?_);refine Ja (Ba (Ad O) ?_);refine Ia (v:=I ((s)++([44]))) (Hi O O (by (try simp only[dQ,kQ,List.length_nil]);omega)) ?_;refine Ba (He O) (Va ?_);exact Ta ⟨((s)++([44])),(by first|(rw[if_neg Aa])|(rw[if_pos Aa];simp)),Du,hF⟩;refine Ka ?_;exact Ta ⟨(s),(by first|(rw[if_neg Aa])|(rw[if_pos Aa];simp)),Du,hF⟩;rintro σ w ⟨s1,hs1,hs,hF⟩;refine Eg.slots hs ?_;clear hs;intro σ;have hl1:s1.length<=s.length+1:=by rw[hs1,dQ];split <;> simp
 refine Ha (Ga ?_);refine Fd (λσ w=>∃(s2:Str),(s2=s1++Nh m ind (d+1))/\AllEq σ [(1,J (K1 m ind)),(2,J ((d:Int))),(3,V b1),(10,I ([c9])),(11,I s2),(12,J ((j:Int)))]/\FR w0 [] [(b1,.cells #[J k,I t,.slice A ks.length c,.slice B xs.length e] 36)] w) ?_ ?_;refine Ea (Ba (Za O) (Ba (Vx O O) (Da ?_)));refine Jb O O (λhc8=>?_) (λhc8=>?_);have hm:m=true:=SF (by assumption);refine Ja (Ba (Ad O) ?_);refine Ia (v:=I ((s1)++([10]))) (Hi O O (by (try simp only[dQ,kQ,List.length_nil]);omega)) ?_;refine Ba (Za O) (Ba (Za O) (Ba (Bi (((d+1:Nat):Int)) O O) (Ia (v:=J (((ind*(d+1):Nat):Int))) (Q1 O O (mul_iz hm hbL1)) ?_)));refine Pa hF (JI (ind*(d+1)) Aa _) (Ma en_111 O O) ?_;intro w hF;refine Ia (v:=I (((s1)++([10]))++(Lib.repeatL [32] (ind*(d+1))))) (Hi O O (by rw[E9];(try simp only[dQ,kQ,List.length_nil]);omega)) ?_;refine Ba (He O) (Va ?_)
 ·exact Ta ⟨(((s1)++([10]))++(Lib.repeatL [32] (ind*(d+1)))),(by first|(rw[Nh,if_pos hm];simp;done)|(rw[Nh,hm];simp;done)),Du,hF⟩
 have hm:m=false:=T8 (by assumption);refine Ka ?_
 ·exact Ta ⟨(s1),(by first|(rw[Nh,if_pos hm];simp;done)|(rw[Nh,hm];simp;done)),Du,hF⟩
 rintro σ w ⟨s2,hs2,hs,hF⟩;refine Eg.slots hs ?_;clear hs;intro σ;have hl2:s2.length<=s1.length+1+ind*(d+1):=by have:=HG m ind (d+1);rw[hs2,dQ];omega
 refine Ha (Ga ?_);refine Fd (λσ w=>∃(s3:Str),(s3=s2++kG m k ks j)/\AllEq σ [(1,J (K1 m ind)),(2,J ((d:Int))),(3,V b1),(10,I ([c9])),(11,I s3),(12,J ((j:Int)))]/\FR w0 [] [(b1,.cells #[J k,I t,.slice A ks.length c,.slice B xs.length e] 36)] w) ?_ ?_;refine Ea (Ba (Mb Xc O) (Xb (Zg xQ O hF.F 0 O O) (Ba (Of O O) (Da ?_))));refine Jb O O (λhc9=>?_) (λhc9=>?_);have hk6:k=6:=by omega
 have hjk:j<ks.length:=by have:=h6 hk6;omega
 have hql:=G2 ks[j];have hkm:=Hl (eQ hjk);refine Ea (Ba (Mb Tc O) (Xb (Ie yQ O hF.F 0 O O) (Ba (Za O) ?_)));obtain⟨ad0,hA0,hk0,hx0⟩:=hK.str_elem (i:=j) Aa;refine Ia (v:=.pointer (some (ad0.add (j*1)))) (Na (i:=(j:Int)) Pk O hA0 O Aa Aa) (Ia (v:=I (ks[j])) (Nc iZ O (hF.cell0 hk0)) ?_);refine Pa hF (KK ks[j] (by have:=Hl (eQ hjk);omega) _) (Ma en_110 O O) ?_;intro w hF;refine Ba (Mj O) (Ba (Ly O O) (Ba (Rj O O) (Ba (He O) (Ba (Fb O) (Lb (Ba (Ad O) (Ba (Ad O) ?_)))))));refine Ia (v:=I ((s2)++(qS ks[j]))) (Hi O O (by (try simp only[dQ,kQ,List.length_nil]);omega)) ?_;refine Ia (v:=I (((s2)++(qS ks[j]))++([58]))) (Hi O O (by (try simp only[dQ,kQ,List.length_nil]);omega)) ?_;refine Ba (He O) (Lb (Ba (Za O) (Ba (Vx O O) (Da ?_))));refine Jb O O (λhc10=>?_) (λhc10=>?_);have hm:m=true:=SF (by assumption);refine Ja (Ba (Ad O) ?_);refine Ia (v:=I ((((s2)++(qS ks[j]))++([58]))++([32]))) (Hi O O (by (try simp only[dQ,kQ,List.length_nil]);omega)) ?_;refine Ba (He O) (Va ?_)
 ·exact Ta ⟨((((s2)++(qS ks[j]))++([58]))++([32])),(by first|(rw[kG,if_pos hk6,J6 hjk,hm];simp;done)|(rw[kG,if_neg hk6];simp;done)),Du,hF⟩
 have hm:m=false:=T8 (by assumption);refine Ka ?_
 ·exact Ta ⟨(((s2)++(qS ks[j]))++([58])),(by first|(rw[kG,if_pos hk6,J6 hjk,hm];simp;done)|(rw[kG,if_neg hk6];simp;done)),Du,hF⟩
 have hk6:¬k=6:=by omega
 refine Ka ?_
 ·exact Ta ⟨(s2),(by first|(rw[kG,if_pos hk6,J6 hjk,hm];simp;done)|(rw[kG,if_neg hk6];simp;done)),Du,hF⟩
 rintro σ w ⟨s3,hs3,hs,hF⟩;refine Eg.slots hs ?_;clear hs;intro σ;have hl3:s3.length+(Ag m ind xs[j] (d+1)).length=(tG m ind d k ks xs (j+1)).length:=by rw[hsj,hs3,hs2,hs1,hs];simp only[dQ];omega
 refine Ha (Ja (Ba (Ad O) (Ba (Mb Tb O) (Xb (Ie zQ O hF.F 0 O O) (Ba (Za O) ?_)))));obtain⟨ad1,cs1,hA1,hl1,hk1,hx1⟩:=hX.tree_elem (i:=j) Aa;have ho1:=hx1.one_;refine Ia (v:=.pointer (some (ad1.add (j*4)))) (Na (i:=(j:Int)) Wf O hA1 O Aa Aa) (Ia (v:=.agg (List.toArray cs1)) (Wa (l:=cs1) aZ nZ O hl1 (hF.cells0 hk1)) (Ba (Za O) (Ba (Za O) (Ba (Bi (((d+1:Nat):Int)) O O) ?_))));refine Pa hF (ih xs[j] (eQ hjx) m ind (d+1) _ _ cs1 (hF.rep hx1) (hn.2 _ (eQ hjx)) (by have:=Oj (eQ hjx);omega) (by have h1:=Lh (eQ hjx);exact fQ (Nat.mul_le_mul_left ind Aa) hd) (by have h1:=Lh (eQ hjx);omega) Aa) (Af en_72 O O O O) ?_;intro w hF;refine Ia (v:=I ((s3)++(Ag m ind xs[j] (d+1)))) (Hi O O (by (try simp only[dQ,kQ,List.length_nil]);omega)) ?_;refine Ba (He O) (Va (Ya (Ha (Ja (Ba (Za O) (Ba (Bi (((j+1:Nat):Int)) O O) (Ba (Fb O) (Va ?_))))))));refine Ta ⟨_,?_,j+1,(s3)++(Ag m ind xs[j] (d+1)),O,(hjx),(by rw[hsj,hs3,hs2,hs1,hs];simp),Du,hF⟩;omega;obtain rfl:j=xs.length:=by omega
 refine Bc (Yb O ?_);refine Ha (Ga ?_);refine Fd (λσ w=>∃(s4:Str),(s4=s++Nh m ind d)/\AllEq σ [(10,I ([c9])),(11,I s4)]/\FR w0 [] [(b1,.cells #[J k,I t,.slice A ks.length c,.slice B xs.length e] 36)] w) ?_ ?_;refine Ea (Ba (Za O) (Ba (Vx O O) (Da ?_)));refine Jb O O (λhc11=>?_) (λhc11=>?_);have hm:m=true:=SF (by assumption);refine Ja (Ba (Ad O) ?_);refine Ia (v:=I ((s)++([10]))) (Hi O O (by (try simp only[dQ,kQ,List.length_nil]);omega)) ?_;refine Ba (Za O) (Ba (Za O) (Ia (v:=J (((ind*d:Nat):Int))) (Q1 O O (mul_iz hm hbL0)) ?_));refine Pa hF (JI (ind*d) Aa _) (Ma en_111 O O) ?_;intro w hF;refine Ia (v:=I (((s)++([10]))++(Lib.repeatL [32] (ind*d)))) (Hi O O (by rw[E9];(try simp only[dQ,kQ,List.length_nil]);omega)) ?_;refine Ba (He O) (Va ?_)
 ·exact Ta ⟨(((s)++([10]))++(Lib.repeatL [32] (ind*d))),(by first|(rw[Nh,if_pos hm];simp;done)|(rw[Nh,hm];simp;done)),Rq,hF⟩
 have hm:m=false:=T8 (by assumption);refine Ka ?_
 ·exact Ta ⟨(s),(by first|(rw[Nh,if_pos hm];simp;done)|(rw[Nh,hm];simp;done)),Rq,hF⟩
 rintro σ w ⟨s4,hs4,hs,hF⟩;refine Eg.slots hs ?_;clear hs;intro σ;have hl4:s4.length<=s.length+1+ind*d:=by have:=HG m ind d;rw[hs4,dQ];omega
 refine Ha (Ea (Ba (Ad O) (Ba (Ad O) ?_)));refine Ia (v:=I ((s4)++([c9]))) (Hi O O (by (try simp only[dQ,kQ,List.length_nil]);omega)) ?_;refine Ba (He O) (Da ?_);refine Gc (v:=I ((s4)++([c9]))) O O ?_;exact⟨by rw[PO hk56,if_neg Aa,hs4,hs,hc9];simp,hF.same⟩
theorem CX(x:Tree):SO x:=Tree.ind (Q:=SO) (λk t ks xs ih m ind d S w0 cs hR hn hm hd hd2 hl=>by
  obtain⟨A,c,B,e,rfl,hk,ht,hK,hX⟩:=hR.tree_inv;rw[Kd]at hm;rw[Vc]at hd hd2;exact QP k t ks xs ih m ind d S w0 A c B e hR hK hX (Bh hn) Aa Aa Aa hd hd2 hl) x
theorem KY{x:Tree}(h:Pf x=true)(hm:Kd x<=16777216)(m:Bool)(ind d:Nat)(hi:ind<=8)(hd:d<=32):(Ag m ind x d).length<=4398046511104:=by
  have h1:=Kr h;have h2:=R2 m ind (Kd x) 64 x d (gQ _) Aa;have h3:Nb x<=4096:=JB (Sp h);have h4:ind*64<=8*64:=Nat.mul_le_mul_right _ hi;have h5:Nb x*(12*Kd x+40+2*(ind*64))<=4096*(12*16777216+40+2*512):=Nat.mul_le_mul h3 Aa;omega
theorem rtext_r(x:Tree)(m:Bool)(ind d:Nat)(S:Nat->Prop)(w0:World)(cs:List Value)(hR:Rep S w0 (Ob x) cs)(h:Pf x=true)(hm:Kd x<=16777216)(hi:ind<=8)(hd:d<=32) :
    Calls prog 72 #[.agg cs.toArray,J (K1 m ind),J (d:Nat)] w0 (Yc λv w'=>v=I (Ag m ind x d)/\Same [] w0 w'):=by
  have h1:=Kr h;have h2:Me rnodeB x=true:=by
    have h3:=h;unfold Pf at h3;rw[Bool.and_eq_true]at h3;exact h3.2
  have h4:ind*(d+Vc x)<=8*64:=Nat.mul_le_mul hi Aa;exact CX x m ind d S w0 cs hR h2 hm Aa Aa (KY h hm m ind d hi hd)
theorem rcanon_c(x:Tree)(hsz:Nb x<=1000000000)(hm:Kd x<=16777216)(S:Nat->Prop)(w0:World)(cs:List Value)(hR:Rep S w0 (Ob x) cs):Calls prog 42 #[.agg cs.toArray] w0 (Yc λv w'=>v=.tuple #[I (Sm (Ae x)),J (Is (Ae x))]/\Same [] w0 w'):=by
 have hl:cs.length=4:=hR.length.trans (Hc x);have ho:=hR.one_;refine Fa func42 O ntmps42 Ab (Wb _) ?_;have hF:=FR.start w0 [];refine Ea (Pl (v:=.agg (List.toArray cs)) (cs:=(List.toArray cs)) hF O O ?_);rintro b1 w hb1 hF -;refine Ba (He O) (Ba (Fb O) (Lb (Ia (v:=.agg (List.toArray cs)) (Wa (l:=cs) aZ nZ O hl (hF.cellsAll 0 O)) ?_)));refine Pa hF (JG x hsz Aa _ _ cs (hF.rep hR)) (Ma en_71 O O) ?_;intro w hF;refine Ba (Kb O) (Da (Ga (Ea (Ba (Dc O) (Ba (Di O) (Da ?_))))));refine Jd O O (λhc0=>?_) (λhc0=>?_);refine Ea (Ba (He O) (Ba (Fb O) (Da ?_)));refine Db (Cb (La (Oc (v:=I []) (x:=J 1) O O O) ?_));exact⟨by rw[Sm,Is,Ap,if_neg (by simpa using hc0),if_neg (by simpa using hc0)],hF.same⟩;refine Ka (Ha (Ea (Ia (v:=.agg (List.toArray cs)) (Wa (l:=cs) aZ nZ O hl (hF.cellsAll 0 O)) ?_)));refine Eb (QQ x hsz Aa _ _ cs (hF.rep hR)) (Ma en_73 O O) ?_;rintro _ w ⟨c2,rfl,hRt,hE⟩;have hlc2:c2.length=4:=hRt.length.trans (Hc _);have hoc2:=hRt.one_;have hF:=hF.ext hE;refine Pa hF (rtext_r (Ae x) false 0 0 _ _ c2 hRt (by rw[Ap];simpa using hc0) (fQ (X4 x) hm) Aa Aa) (Af en_72 O O O O) ?_;intro w hF;refine Ba (He O) (Ba (Fb O) (Da ?_));refine Db (Cb (La (Oc (v:=I (Ag false 0 (Ae x) 0)) (x:=J 0) O O O) ?_));exact⟨by rw[Sm,Is,Ap,if_pos (by simpa using hc0),if_pos (by simpa using hc0)],hF.same⟩
open Go.RowKit in
theorem XP{P:Program}{w:World}{ρ:Operand->Value}{dst:Option Nat}{ty:TypeId}{pos:String}{aft:Array Edge}{g:Option (Nat × Bool)}{t kt e:Nat}(ht:P.underlying t=some (.map kt e)) :
    (execOp ρ ⟨dst,.makeMap t none,ty,pos,aft,g⟩).run P w=.ok (.value (.map (some w.heap.size))) (w.alloc (Si [])):=by
  simp[execOp,Instr.makeMap,run_underlying ht,newObj,Sem.run,Si,Rc]
end Go.Scarf
