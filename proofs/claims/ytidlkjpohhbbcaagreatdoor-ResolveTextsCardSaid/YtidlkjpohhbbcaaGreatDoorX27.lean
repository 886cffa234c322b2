/- A part of the proof. -/
import Derived.Test.YtidlkjpohhbbcaaGreatDoorIv
set_option linter.all false
set_option maxHeartbeats 8000000
set_option maxRecDepth 10000
namespace Go.Scarf
open List renaming length->aL
open Go.RowKit Go.Proofs Go.Proofs.Tryz
variable {x:Tree}{m:Int}{l t:Str}{a j n:Nat}{S:Nat->Prop}{w w':World}{A:Option Addr}{y:UInt8}
def CH(hm:0<=m)(h2:m<=200)(h:Sy x m=true):La x<=200/\Ob x<=2048:=by
  obtain⟨h1,-,h3⟩:=Y3 hm h;have:=Hz x h3;exact⟨Aa,Aa⟩
structure Sm27 (c:Cf):Prop where
  b:La c.b.val<=200/\Ob c.b.val<=2048
  l:La c.l.val<=200/\Ob c.l.val<=2048
  r:La c.r.val<=200/\Ob c.r.val<=2048
def Sm27.p{c:Cf}(h:Sm27 c):CfP c:=by
  obtain⟨⟨b1,b2⟩,⟨l1,l2⟩,⟨r1,r2⟩⟩:=h;exact⟨⟨⟨Aa,Sj _ Aa⟩,⟨Aa,Sj _ Aa⟩,⟨Aa,Sj _ Aa⟩⟩,Aa,Aa,Aa,Aa⟩
structure FewM (t:List Mm):Prop where
  n:aL t<=270
  m:∀m∈t,Sy m.sd.val 60=true/\aL m.pr<=2048
def keys27(hm:0<=m)(h2:m<=200)(h:Sy x m=true):aL x.keys<=1000:=by
  obtain⟨k,t,ks,xs⟩:=x;have:=(Y3 hm h).1;simp only[Tree.keys];simp only[Rg]at this;omega
def side_few{s:Sd}(hm:0<=m)(h2:m<=200)(h:Sy s.val m=true):SdOk s/\aL s.val.keys<=1000000000:=by
  obtain⟨h1,h3⟩:=CH hm h2 h;have:=keys27 hm h2 h;exact⟨⟨Aa,Sj _ Aa⟩,Aa⟩
def FewM.ok{t:List Mm}(h:FewM t):∀m∈t,MmOk m:=λm hm=>by
  obtain⟨h1,h2⟩:=h.m m hm;obtain⟨h3,h4⟩:=side_few Aa Aa h1;exact⟨h3,Aa,h4⟩
set_option synthInstance.maxHeartbeats 0
set_option synthInstance.maxSize 9999
def JK{t:List Mm}(hs:∀i (hi:i<aL t),i<j->Sy t[i].sd.val 60=true/\aL t[i].pr<=2048)(hj:∀hj:j<aL t,Sy t[j].sd.val 60=true/\aL t[j].pr<=2048):∀i (hi:i<aL t),i<j+1->Sy t[i].sd.val 60=true/\aL t[i].pr<=2048:=λi hi h2=>by
  by_cases e:i=j
  ·subst e;exact hj hi
  exact hs i hi Aa
theorem few27_c(t:List Mm)(A:Option Addr)(c:Nat)(S:Nat->Prop)(w0:World)(hX:Rep S w0 (Jd t) [.slice A (aL t) c]):Calls prog 7 #[.slice A (aL t) c] w0 (Za λv w'=>∃b:Bool,v=.bool b/\(b=true->FewM t)/\Same [] w0 w'):=by
 have hXl:=hX.slice_len;simp only[rQ]at hXl;refine Ea func7 ntmps7 ?_;intro hF;refine rn 12<|Sa (λμ σ w=>∃(j:Nat),μ=aL t-j/\(j<=aL t/\j<=300)/\(∀i (hi:i<aL t),i<j->Sy t[i].sd.val 60=true/\aL t[i].pr<=2048)/\AllEq σ [(0,.slice A (aL t) c),(3,J<|(j:Int))]/\FR w0 [] [] w) _ ⟨0,O,Aa,λi _ h=>by omega,Va,hF⟩ ?_;rintro μ σ w ⟨j,rfl,hj,hs_,hzz,hF⟩;refine Wf hzz 9 ⟨λhg0=>?_,λhg0=>?_⟩;refine rn 6 ⟨λhc0=>?_,λhc0=>?_⟩;refine rn 8 ?_;obtain⟨ad1,q1,hA1,hk1,hx1,hp1⟩:=hX.mm_elem (i:=j) Aa;refine Ba (v:=.pointer<|some<|ad1.add<|j*6) (Ca (i:=(j:Int)) Kf hA1)<|Ba (v:=.pointer<|some<|(ad1.add<|j*6).add 1) (Oa (a:=ad1.add<|j*6) Sl)<|Ba (v:=.pointer<|some<|((ad1.add<|j*6).add 1).add 1) (Oa (a:=(ad1.add<|j*6).add 1) J4)<|Ba (v:=.agg (q1.v.cells).toArray) (Ma (l:=q1.v.cells) qZ uZ O O<|Sc (Sc (l:=q1.cells) (hF.cells0 hk1) 1 O) 1 O) ?_;refine Ia (few_v t[j].sd.val 60 Ja Ja _ _ q1.v.cells (hF.rep (Lc hx1).2.2.2.2)) ?_;rintro w hF -;refine rn 9 ⟨λhg2=>?_,λhg2=>?_⟩;refine rn 17 ?_;exact⟨_,O,λhb=>(by cases hb),hF.same⟩;refine rn 2 ?_;obtain⟨ad3,q3,hA3,hk3,ZO,hp3⟩:=hX.mm_elem (i:=j) Aa;refine Ba (v:=.pointer<|some<|ad3.add<|j*6) (Ca (i:=(j:Int)) Kf hA3)<|Ba (v:=.pointer<|some<|(ad3.add<|j*6).add 0) (Oa (a:=ad3.add<|j*6) Pj)<|Ba (v:=I<|t[j].pr) (Xa sZ<|hF.cell0<|hk3 0 Bf) ?_;refine rn 6 ⟨λhc1=>?_,λhc1=>?_⟩;refine rn 6 ?_;exact⟨_,O,λhb=>(by cases hb),hF.same⟩;refine rn 5<|Zb (Wd<|((j+1:Nat):Int)) ?_;refine rn 2<|Ha ⟨_,?_,j+1,rfl,Aa,JK hs_ λ_=>⟨by first|assumption|simp_all,Aa⟩,Va,hF⟩;omega;refine rn 11 ?_;exact⟨_,rfl,λhb=>by have:=mZ hb;exact⟨Aa,λm hm=>by obtain⟨i,hi,rfl⟩:=List.getElem_of_mem hm;exact hs_ i hi Aa⟩,hF.same⟩;refine rn 17 ?_
 exact⟨_,rfl,λhb=>by have:=mZ hb;exact⟨Aa,λm hm=>by obtain⟨i,hi,rfl⟩:=List.getElem_of_mem hm;exact hs_ i hi Aa⟩,hF.same⟩
def kin_lit{b:Bool}{d:List Value}(h:KinL [.bool b] d):d=[.bool b]:=by
  cases h with
  | cons h1 h2=>cases h2;cases h1;rfl
def mm_mold{m:Mm}{cs cs':List Value}(h:Rep S w (Sw m) cs)(hm:Mold w w')(hk:KinL cs cs'):∃m':Mm,Rep S w' (Sw m') cs':=by
  obtain⟨x,rfl,hx,hp⟩:=Yw h;obtain⟨d1,d',rfl,k1,hk⟩:=KinL.split (c1:=[_]) hk;obtain⟨d2,d3,rfl,k2,k3⟩:=KinL.split (c1:=[_]) hk;obtain⟨u,rfl,hu⟩:=UB k1 hp;obtain rfl:=kin_lit k2;have hs:=Lc hx;obtain⟨v',-,hv⟩:=moldT m.sd.val S w w' _ d3 hs.2.2.2.2 hm k3;obtain⟨q,rfl,-⟩:=Pe hv;refine⟨⟨u,⟨m.sd.has,v'⟩⟩,V8 (m:=⟨u,⟨m.sd.has,v'⟩⟩) (x:=⟨x.h,q⟩) ?_ hu⟩;rw[hs.1];exact B3 (s:=⟨m.sd.has,v'⟩) hv
theorem ZI{S:Nat->Prop}{w w':World}(hm:Mold w w'):∀{t:List Mm}{cs cs':List Value},RepL S w (t.map Sw) cs->KinL cs cs'->∃t':List Mm,aL t'=aL t/\RepL S w' (t'.map Sw) cs'
  | [], cs, cs', h, k => by
    have:=RepL.nil_inv h;subst this;cases k;exact⟨[],O,RepL.nil_mk⟩
  | m :: t, cs, cs', h, k => by
    obtain⟨c1,c2,rfl,h1,h2⟩:=RepL.cons_inv h;obtain⟨d1,d2,rfl,k1,k2⟩:=k.split;obtain⟨m',r1⟩:=mm_mold h1 hm k1;obtain⟨t',hl,r2⟩:=ZI hm h2 k2;exact⟨m'::t',by simp[hl],RepL.cons_mk r1 r2⟩
def MmsAt(S:Nat->Prop)(w:World)(A:Option Addr)(n c:Nat):Prop:=∃t:List Mm,aL t=n/\Rep S w (Jd t) [.slice A n c]
def MmsAt.mold{c:Nat}(h:MmsAt S w A n c)(hm:Mold w w'):MmsAt S w' A n c:=by
  obtain⟨t,rfl,h⟩:=h;obtain⟨A',c',hA,h1,h2,h3⟩:=Rep.slice_inv h;simp only[List.cons.injEq,Value.slice.injEq,and_true]at hA;obtain⟨rfl,_,rfl⟩:=hA;by_cases hne:t=[]
  ·subst hne
   exact⟨[],O,Rep.slice_mk O (aS h1) h2 λh=>absurd O h⟩
  obtain⟨ad, rfl, es, hc, hr⟩ := h3 (aS hne);obtain⟨es',hc',hk⟩:=hc.mold hm;obtain⟨t',hl',hr'⟩:=ZI hm hr hk;exact⟨t',hl',Rep.slice_mk (by rw[rQ,hl']) (aS h1) h2 λ_=>⟨ad,O,es',hc',hr'⟩⟩
def MmsAt.item{c:Nat}(h:MmsAt S w A n c)(hj:j<n) :
    ∃(ad:Addr)(p:Str)(q:Sv)(v:Tree),A=some ad/\(∀k (hk:k<aL (Lp p q)),w.cell? ((ad.add (j*6)).add k)=some (Lp p q)[k])/\Rep S w (Na v) q.v.cells/\S (ad.add (j*6)).block:=by
  obtain⟨t,rfl,h⟩:=h;obtain⟨ad,x,hA,hk,hx,hp⟩:=Rep.mm_elem h hj;obtain⟨A',c',hA',_,_,h4⟩:=Rep.slice_inv h;simp only[List.cons.injEq,Value.slice.injEq,and_true]at hA';obtain⟨rfl,_,rfl⟩:=hA';obtain⟨ad',hA2,es,hce,hre⟩:=h4 kF;have e:ad=ad':=by rw[hA]at hA2;exact lQ hA2
  subst e;have hpos:0<aL es:=by
    rw[RepL.length hre];cases t with
    | nil=>simp at hj
    | cons m t=>rw[lZ,Gc.sizeL,U6];omega
  exact⟨ad,_,x,_,hA,hk,(Lc hx).2.2.2.2,by rw[Tb];exact (hce 0 hpos).2⟩
def LY(n:Nat)(A:Option Addr)(c:Nat)(S:Nat->Prop)(w0:World)(hT:MmsAt S w0 A n c)(hSo:∀b,S b->Hp w0 b)(hn:n<=1000000):Calls prog 13 #[.slice A n c] w0 (Za λv w'=>v=.tuple #[]/\Over S w0 w'):=by
 have hO:=Over.refl S w0;refine Lb func13 ntmps13 O O ?_;have hF:=FR.start w0<|Sb S w0;refine rn 6<|Sa (λμ σ w=>∃(j:Nat),μ=n-j/\(j<=n)/\(MmsAt S w A n c)/\(Over S w0 w)/\AllEq σ [(0,.slice A n c),(2,J<|(j:Int))]/\FR w0 (Sb S w0) [] w) _ ⟨0,O,dZ _,hT,hO,Va,hF⟩ ?_;rintro μ σ w ⟨j,rfl,hj,hT,hO,hzz,hF⟩;refine Wf hzz 10 ⟨λhc0=>?_,λhc0=>?_⟩;refine rn 8 ?_;obtain⟨ad,pr0,q0,v0,hA,hk0,hv0,hSb⟩:=hT.item (show j<n by omega);refine Ba (v:=.pointer<|some<|ad.add<|j*6) (Ca (i:=(j:Int)) Kf hA)<|Ba (v:=.pointer<|some<|(ad.add<|j*6).add 1) (Oa (a:=ad.add<|j*6) Sl)<|Ba (v:=.pointer<|some<|((ad.add<|j*6).add 1).add 1) (Oa (a:=(ad.add<|j*6).add 1) J4)<|Ba (v:=.agg (q0.v.cells).toArray) (Ma (l:=q0.v.cells) qZ uZ O O<|Sc (Sc (l:=[.bool q0.h,J q0.v.k,I q0.v.t,.slice q0.v.A q0.v.n q0.v.c,.slice q0.v.B q0.v.m q0.v.e]) hk0 1 O) 1 O) ?_;refine Fc (spoil_c v0 S _ q0.v.cells hv0 λb hb=>hO.soft b<|hSo b hb) ?_;rintro _ w ⟨rfl,hO2⟩;have hF:=hF.touch hO2.same (λb hb=>by have hSb2:=(Nk.1 hb).2;have h1:=Qj<|hSo b hSb2;exact⟨λh=>Nk.2 ⟨h1,hSb2⟩,Da⟩);have hT:=hT.mold hO2.mold;have hO:=hO.trans (λb hb=>Qj<|hSo b hb) hO2;clear hO2 hk0 hv0;refine rn 5 ?_;obtain⟨ad,pr1,q1,v1,hA,hk1,hv1,hSb⟩:=hT.item (show j<n by omega);refine Ba (v:=.pointer<|some<|ad.add<|j*6) (Ca (i:=(j:Int)) Kf hA)<|Ba (v:=.pointer<|some<|(ad.add<|j*6).add 0) (Oa (a:=ad.add<|j*6) Pj) ?_;refine M5 (a:=(ad.add<|j*6).add 0) (u:=I pr1) hF sizeOf9 O (v:=I [115,112,111,105,108,116]) O O O (hk1 0 Bf) (hO.soft _<|hSo _ (show S ((ad.add<|j*6).add 0).block by rw[Tb];exact hSb)) (Nk.2 ⟨Qj<|hSo _ (show S ((ad.add<|j*6).add 0).block by rw[Tb];exact hSb),(show S ((ad.add<|j*6).add 0).block by rw[Tb];exact hSb)⟩) Da (.str _ _ Ja) ?_
 intro w hF hE hM hSo2;have hO:=hO.next hE (Nk.2 ⟨Qj<|hSo _ (show S ((ad.add<|j*6).add 0).block by rw[Tb];exact hSb),(show S ((ad.add<|j*6).add 0).block by rw[Tb];exact hSb)⟩) hM hSo2;have hT:=hT.mold hM;clear hE hM hSo2;refine rn 5<|Zb (Wd<|((j+1:Nat):Int)) ?_;refine rn 2<|Ha ⟨_,?_,j+1,O,Aa,hT,hO,Va,hF⟩;omega;refine rn 2 ?_;exact⟨O,hO⟩
def Oc(t:Str)(a:Nat):Int:=match Pg (t.drop a)with|some h=>(h:Int)|none=>-1
def XL(l:Str):Nat:=l.foldl (λn c=>16*n+Cq c) 0
def Hu(l:Str)(c:UInt8):XL (l++[c])=16*XL l+Cq c:=by simp[XL]
theorem UD:∀(n:Nat)(l:Str),aL l=n->l.all Qd=true->XL l<16 ^ n
  | 0,l,h,_=>by rw[List.length_eq_zero_iff.1 h];decide
  | n + 1, l, h, ha => by
    obtain⟨l',c,rfl⟩:∃l' c,l=l'++[c]:=by
      rcases List.eq_nil_or_concat l with rfl|⟨l',c,rfl⟩
      ·cases h
      exact⟨l',c,List.concat_eq_append⟩
    rw[List.all_append,vQ]at ha;have h1:=UD n l' (aS h) ha.1;have h2:=G8 (c:=c) (aS ha.2);rw[Hu,Nat.pow_succ];omega
theorem MF(h:4<=aL l)(ha:(l.take 4).all Qd=true):Pg l=some (XL (l.take 4)):=by
  match l,h with
  | a :: b :: c :: d :: r, _ =>
    have e:(a::b::c::d::r).take 4=[a,b,c,d]:=rfl;rw[e]at ha ⊢;simp only[List.all_cons,List.all_nil,Bool.and_true]at ha;have e4:Pg (a::b::c::d::r)=if (Qd a&&Qd b&&Qd c&&Qd d)=true then some (4096*Cq a+256*Cq b+16*Cq c+Cq d) else none:=rfl
    rw[e4,uQ qX]
    congr 1
    simp only[XL,List.foldl_cons,List.foldl_nil];omega
def Hv(h:aL l<4):Pg l=none:=by
  match l,h with
  | [],_=>rfl
  | [a],_=>rfl
  | [a,b],_=>rfl
  | [a,b,c],_=>rfl
theorem TG{c:UInt8}(hj:j<4)(hc:l[j]? = some c)(h:Qd c=false):Pg l=none:=by
  by_cases hl:aL l<4
  ·exact Hv hl
  match l, hl with
  | a :: b :: x :: d :: r, _ =>
    have e4:Pg (a::b::x::d::r)=if (Qd a&&Qd b&&Qd x&&Qd d)=true then some (4096*Cq a+256*Cq b+16*Cq x+Cq d) else none:=rfl
    rw[e4,tQ];intro hh;simp only[vQ]at hh;have:j=0\/j=1\/j=2\/j=3:=Aa
    rcases this with rfl|rfl|rfl|rfl <;> (simp only[List.getElem?_cons_zero,List.getElem?_cons_succ,Option.some.injEq]at hc;subst hc;simp_all)
  | [],h=>exact absurd Ja h
  | [a],h=>exact absurd Da h
  | [a,b],h=>exact absurd Da h
  | [a,b,x],h=>exact absurd Da h
def Ah(h:a+j<aL t):(t.drop a).take j++[t[a+j]]=(t.drop a).take (j+1):=by
  rw[iQ qY,List.getElem_drop]
def rhex_c(t:Str)(a:Nat)(hl:aL t<=1000000000000)(ha:a<=1000000000000)(w0:World):Calls prog 269 #[I t,J (a:Int)] w0 (Za λv w'=>v=J (Oc t a)/\Same [] w0 w'):=by
 refine Ea func269 ntmps269 ?_;intro hF;refine rn 11<|Zb Iy ?_;refine rn 4 ⟨λhc0=>?_,λhc0=>?_⟩;refine rn 6 ?_;exact⟨yQ (Value.int .i64) (by unfold Oc;rw[Hv qY]),hF.same⟩;refine rn 15<|Sa (λμ σ w=>∃(j:Nat),∃(n:Nat),μ=4-j/\(j<=4)/\(n=XL ((t.drop a).take j))/\(((t.drop a).take j).all Qd=true)/\AllEq σ [(0,I t),(1,J<|(a:Int)),(5,J<|(n:Int)),(6,J<|((a+j:Nat):Int))]/\FR w0 [] [] w) _ ⟨0,0,O,Aa,O,O,Va,hF⟩ ?_;rintro μ σ w ⟨j,n,rfl,hj,hn,hA,hzz,hF⟩;refine Wf hzz 5<|Zb (Wd<|((a+4:Nat):Int)) ?_;refine rn 4 ⟨λhc1=>?_,λhc1=>?_⟩;refine rn 5 ?_;have hcl:a+j<aL t:=Aa
 have hj3:j<4:=Aa
 have hnb:n<=4095:=by have h1:=UD j _ (by rw[jZ,zQ];omega) hA;have h2:16 ^ j<=16 ^ 3:=Nat.pow_le_pow_right Ja Aa;omega
 refine rn 3<|Ba (v:=.int .u8<|(((t:Str)[a+j]' Aa).toNat:Int)) (Cb (a+j) jX O O Aa) ?_;have hlt:=UInt8.toNat_lt t[a+j];refine Ba (v:=J<|(t[a+j].toNat:Int)) (Qb iX dX O<|Ge Aa Aa)<|rn 4 ?_;refine Eb (λσ w=>∃(ga:Bool),(ga=decide (48<=t[a+j].toNat/\t[a+j].toNat<=57))/\AllEq σ [(0,I t),(1,J<|(a:Int)),(5,J<|(n:Int)),(6,J<|((a+j:Nat):Int)),(7,J<|(t[a+j].toNat:Int)),(29,.bool ga)]/\FR w0 [] [] w) ?_ ?_;refine rn 5 ⟨λhg0=>?_,λhg0=>?_⟩;refine rn 4 ?_;exact Ha ⟨decide (((t[a+j].toNat:Int):Int)<=(57:Int)),decide_eq_decide.2 Aa,Va,hF⟩;refine rn 4 ?_;exact Ha ⟨false,(fZ Aa).symm,Va,hF⟩;rintro σ w ⟨ga,hja,hzz,hF⟩;refine Aj hzz 2 ⟨λhc2=>?_,λhc2=>?_⟩;have hc2:=mZ<|hja.symm.trans hc2;have hv:Cq t[a+j]=t[a+j].toNat-48:=by unfold Cq;rw[uQ Aa]
 have hh:Qd t[a+j]=true:=by unfold Qd;simp only[wQ,vQ,xQ];omega
 refine rn 2<|Ba (v:=J<|(16:Int)*(n:Int)) (Ro O O<|Ge Aa Aa) ?_;refine rn 1<|Zb Uh<|Zb (AB<|((16*n+Cq t[a+j]:Nat):Int)) ?_;refine rn 6<|Zb (Wd<|((a+(j+1):Nat):Int)) ?_;refine rn 2 ?_;refine Ha ⟨_,?_,j+1,16*n+Cq t[a+j],O,Aa,by rw[hn,<-Hu,Ah hcl],bA,Va,hF⟩;omega;have hc2:=of_decide_eq_false<|hja.symm.trans hc2;refine rn 1<|Eb (λσ w=>∃(gb:Bool),(gb=decide (97<=t[a+j].toNat/\t[a+j].toNat<=102))/\AllEq σ [(0,I t),(1,J<|(a:Int)),(5,J<|(n:Int)),(6,J<|((a+j:Nat):Int)),(7,J<|(t[a+j].toNat:Int)),(40,.bool gb)]/\FR w0 [] [] w) ?_ ?_;refine rn 5 ⟨λhg1=>?_,λhg1=>?_⟩;refine rn 4 ?_;exact Ha ⟨decide (((t[a+j].toNat:Int):Int)<=(102:Int)),decide_eq_decide.2 Aa,Va,hF⟩;refine rn 4 ?_;exact Ha ⟨false,(fZ Aa).symm,Va,hF⟩;rintro σ w ⟨gb,hjb,hzz,hF⟩;refine Aj hzz 2 ⟨λhc3=>?_,λhc3=>?_⟩;have hc3:=mZ<|hjb.symm.trans hc3;have hv:Cq t[a+j]=t[a+j].toNat-87:=by unfold Cq;rw[tQ Aa,uQ Aa]
 have hh:Qd t[a+j]=true:=by unfold Qd;simp only[wQ,vQ,xQ];omega
 refine rn 2<|Ba (v:=J<|(16:Int)*(n:Int)) (Ro O O<|Ge Aa Aa) ?_;refine rn 1<|Zb Uh<|Zb Iy<|Zb (Wd<|((16*n+Cq t[a+j]:Nat):Int)) ?_;refine rn 6<|Zb (Wd<|((a+(j+1):Nat):Int)) ?_;refine rn 2 ?_;refine Ha ⟨_,?_,j+1,16*n+Cq t[a+j],O,Aa,by rw[hn,<-Hu,Ah hcl],bA,Va,hF⟩;omega;have hc3:=of_decide_eq_false<|hjb.symm.trans hc3;refine rn 1<|Eb (λσ w=>∃(gc:Bool),(gc=decide (65<=t[a+j].toNat/\t[a+j].toNat<=70))/\AllEq σ [(0,I t),(1,J<|(a:Int)),(5,J<|(n:Int)),(6,J<|((a+j:Nat):Int)),(7,J<|(t[a+j].toNat:Int)),(52,.bool gc)]/\FR w0 [] [] w) ?_ ?_;refine rn 5 ⟨λhg2=>?_,λhg2=>?_⟩;refine rn 4 ?_;exact Ha ⟨decide (((t[a+j].toNat:Int):Int)<=(70:Int)),decide_eq_decide.2 Aa,Va,hF⟩;refine rn 4 ?_;exact Ha ⟨false,(fZ Aa).symm,Va,hF⟩;rintro σ w ⟨gc,hjc,hzz,hF⟩;refine Aj hzz 2 ⟨λhc4=>?_,λhc4=>?_⟩;have hc4:=mZ<|hjc.symm.trans hc4;have hv:Cq t[a+j]=t[a+j].toNat-55:=by unfold Cq;rw[tQ Aa,tQ Aa]
 have hh:Qd t[a+j]=true:=by unfold Qd;simp only[wQ,vQ,xQ];omega
 refine rn 2<|Ba (v:=J<|(16:Int)*(n:Int)) (Ro O O<|Ge Aa Aa) ?_;refine rn 1<|Zb Uh<|Zb Iy<|Zb (Wd<|((16*n+Cq t[a+j]:Nat):Int)) ?_;refine rn 6<|Zb (Wd<|((a+(j+1):Nat):Int)) ?_;refine rn 2 ?_;refine Ha ⟨_,?_,j+1,16*n+Cq t[a+j],O,Aa,by rw[hn,<-Hu,Ah hcl],bA,Va,hF⟩;omega;have hc4:=of_decide_eq_false<|hjc.symm.trans hc4;refine rn 6 ?_;have hh:Qd t[a+j]=false:=Bool.eq_false_iff.2 (λhq=>by unfold Qd at hq;simp only[wQ,vQ,xQ]at hq;omega);exact⟨yQ (Value.int .i64) (by unfold Oc;rw[TG hj3 (by rw[List.getElem?_drop,List.getElem?_eq_getElem hcl]) hh]),hF.same⟩;refine rn 9 ?_;obtain rfl:j=4:=Aa
 exact⟨yQ (Value.int .i64) (by unfold Oc;rw[MF qY hA,hn]),hF.same⟩
def enc_rune(h:n<55296\/(57344<=n/\n<=1114111)):Utf8.encode (n:Int)=bs (Od (n:Int)):=by
  have hv:Utf8.valid (n:Int)=true:=by
    unfold Utf8.valid;simp only[wQ,vQ,xQ];omega
  unfold Utf8.encode;rw[uQ hv];dsimp only;rw[Int.toNat_natCast];unfold Od Lib.encodeRuneZ;by_cases h1:n<128
  ·have k : 0 <= (n : Int) /\ (n : Int) <= 127 := by omega
   rw[uQ h1,uQ k];rfl
  have k : ¬ (0 <= (n : Int) /\ (n : Int) <= 127) := by omega
  rw[tQ h1,tQ k];by_cases h2:n<2048
  ·have k : 128 <= (n : Int) /\ (n : Int) <= 2047 := by omega
   rw[uQ h2,uQ k];have e1:(192+(n:Int)/64).toNat=192+n/64:=Aa
   have e2:(128+(n:Int)%64).toNat=128+n%64:=Aa
   simp only[lZ,List.map_nil,e1,e2]
   first|done|rfl
  have k : ¬ (128 <= (n : Int) /\ (n : Int) <= 2047) := by omega
  rw[tQ h2,tQ k];by_cases h3:n<65536
  ·have k : (2048 <= (n : Int) /\ (n : Int)<55296) \/ (57343<(n : Int) /\ (n : Int) <= 65535) := by omega
   rw[uQ h3,uQ k];have e1:(224+(n:Int)/4096).toNat=224+n/4096:=Aa
   have e2:(128+(n:Int)/64%64).toNat=128+n/64%64:=Aa
   have e3:(128+(n:Int)%64).toNat=128+n%64:=Aa
   simp only[lZ,List.map_nil,e1,e2,e3]
   first|done|rfl
  have k : ¬ ((2048 <= (n : Int) /\ (n : Int)<55296) \/ (57343<(n : Int) /\ (n : Int) <= 65535)) := by omega
  have k2:65536<=(n:Int)/\(n:Int)<=1114111:=Aa
  rw[tQ h3,tQ k,uQ k2];have e1:(240+(n:Int)/262144).toNat=240+n/262144:=Aa
  have e2:(128+(n:Int)/4096%64).toNat=128+n/4096%64:=Aa
  have e3:(128+(n:Int)/64%64).toNat=128+n/64%64:=Aa
  have e4:(128+(n:Int)%64).toNat=128+n%64:=Aa
  simp only[lZ,List.map_nil,e1,e2,e3,e4]
  first|done|rfl
def WS{n:Int}(h:(0<=n/\n<55296)\/(57344<=n/\n<=1114111)):Utf8.encode n=bs (Od n):=by
  obtain⟨m,rfl⟩:∃m:Nat,n=(m:Int):=⟨n.toNat,Aa⟩;exact enc_rune Aa
def XQ(t:Str)(a:Nat):-1<=Oc t a/\Oc t a<=65535:=by
  unfold Oc;cases h:Pg (t.drop a)with
  | none=>exact⟨Ja,Ja⟩
  | some n =>
    have hl:4<=aL (t.drop a):=Nat.le_of_not_lt λhl=>by rw[Hv hl]at h;cases h
    by_cases ha:((t.drop a).take 4).all Qd=true
    ·rw[MF hl ha]at h
     injection h with h
     have:=UD 4 _ bV ha;dsimp only;omega
    exfalso;obtain⟨c,hc,hx⟩:∃c∈(t.drop a).take 4,Qd c=false:=by simpa[List.all_eq_true]using ha
    obtain⟨j,hj,e⟩:=List.getElem_of_mem hc;rw[jZ]at hj;rw[TG (l:=t.drop a) (j:=j) (c:=c) Aa (by rw[<-e,List.getElem_take,List.getElem?_eq_getElem]) hx]at h;cases h
def Hr(t:Str)(a:Nat):Se (t.drop a)=if Oc t (a+2)<0\/(56320<=Oc t (a+2)/\Oc t (a+2)<57344) then (0,0) else if Oc t (a+2)<55296\/57344<=Oc t (a+2) then ((Oc t (a+2)).toNat,6) else
    if (t.drop (a+6)).take 2=[92,117] then (if Oc t (a+8)<56320\/57344<=Oc t (a+8) then (0,0) else ((65536+1024*(Oc t (a+2)-55296)+Oc t (a+8)-56320).toNat,12)) else (0,0):=by
  unfold Se Oc;rw[List.drop_drop,List.drop_drop,List.drop_drop];cases h1:Pg (t.drop<|a+2)with
  | none=>rfl
  | some h =>
    dsimp only;by_cases c1:56320<=h/\h<57344
    ·have k : (h : Int)<0 \/ (56320 <= (h : Int) /\ (h : Int)<57344) := by omega
     rw[uQ c1,uQ k]
    have k : ¬ ((h : Int)<0 \/ (56320 <= (h : Int) /\ (h : Int)<57344)) := by omega
    rw[tQ c1,tQ k];by_cases c2:h<55296\/57344<=h
    ·have k : (h : Int)<55296 \/ 57344 <= (h : Int) := by omega
     rw[uQ c2,uQ k,Int.toNat_natCast]
    have k : ¬ ((h : Int)<55296 \/ 57344 <= (h : Int)) := by omega
    rw[tQ c2,tQ k];by_cases c3:(t.drop<|a+6).take 2=[92,117]
    ·rw[uQ c3, uQ c3]
     cases h2:Pg (t.drop<|a+8)with
     | none=>rfl
     | some l =>
       dsimp only;by_cases c4:l<56320\/57344<=l
       ·have k : (l : Int)<56320 \/ 57344 <= (l : Int) := by omega
        rw[uQ c4,uQ k]
       have k : ¬ ((l : Int)<56320 \/ 57344 <= (l : Int)) := by omega
       rw[tQ c4,tQ k];have e:65536+(h-55296)*1024+(l-56320)=(65536+1024*((h:Int)-55296)+(l:Int)-56320).toNat:=Aa
       rw[e]
    rw[tQ c3,tQ c3]
def Ao:Str:=[34,92,47,98,102,110,114,116]
def toS:Str:=[34,92,47,8,12,10,13,9]
def VW:∀i<8,(match Me (Ao.getD i 0)with|some r=>Od (r:Int)|none=>[])=(toS.take (i+1)).drop i/\(Me (Ao.getD i 0)).isSome=true:=by decide +kernel
def Gm{c:UInt8}(h:∀i (h:i<aL Ao),c≠Ao[i]):Me c=none:=by
  have hm:Ao.contains c=false:=by
    rw[<-Bool.not_eq_true,List.contains_iff_mem];intro hm;obtain⟨i,hi,e⟩:=List.getElem_of_mem hm;exact h i hi e.symm
  have:∀n<256,Ao.contains (UInt8.ofNat n)=false->Me (UInt8.ofNat n)=none:=by decide +kernel
  have h2:=this c.toNat<|UInt8.toNat_lt c;simp only[UInt8.ofNat_toNat]at h2;exact h2 hm
def Kk(t:Str)(a:Nat):Str × Nat:=if (He (t.drop a)).2=0 then ([],0) else (Od ((He (t.drop a)).1:Int),(He (t.drop a)).2)
def two_take{k:Nat}{x:UInt8}:(t.drop k).take 2=[x,y]↔∃h:k+1<aL t,t[k]=x/\t[k+1]=y:=by
  constructor
  ·intro h
   have hl:=yQ List.length h;rw[jZ,zQ]at hl;simp only[kQ,cZ]at hl;refine⟨Aa,?_,?_⟩
   ·have := yQ (·[0]?) h
    simp only[List.getElem?_take,List.getElem?_drop,List.getElem?_cons_zero]at this;rw[uQ Ja,List.getElem?_eq_getElem Aa]at this;exact lQ this
   have := yQ (·[1]?) h;simp only[List.getElem?_take,List.getElem?_drop,List.getElem?_cons_succ,List.getElem?_cons_zero]at this;rw[uQ Ja,List.getElem?_eq_getElem Aa]at this;exact lQ this
  rintro⟨h, rfl, rfl⟩;rw[List.drop_eq_getElem_cons Aa,List.drop_eq_getElem_cons h];rfl
def Up{x:UInt8}:(t.drop (a+6)).take 2=[x,y]↔∃h:a+7<aL t,t[a+6]=x/\t[a+7]=y:=two_take (k:=a+6)
def rutf_c(n:Int)(h:(0<=n/\n<55296)\/(57344<=n/\n<=1114111))(w0:World):Calls prog 270 #[J n] w0 (Za λv w'=>v=I (Od n)/\Same [] w0 w'):=by
 refine Ea func270 ntmps270 ?_;intro hF;refine rn 8<|Ba (v:=.int .i32 n) (Qb dX bX O<|Qp Aa Aa)<|Ba (v:=I<|Od n) (L6 bX jX O<|WS h) ?_;refine rn 4 ?_;exact⟨O,hF.same⟩
def resc_c(t:Str)(a:Nat)(hl:aL t<=1000000000000)(ha:a<aL t)(w0:World):Calls prog 238 #[I t,J (a:Int)] w0 (Za λv w'=>v=.tuple #[I ((Kk t a).1),J ((Kk t a).2:Nat)]/\Same [] w0 w'):=by
 have hfl:aL Ao=8:=rfl;have htl:aL toS=8:=rfl;refine Ea func238 ntmps238 ?_;intro hF;refine rn 10<|Zb (Wd<|((a+1:Nat):Int)) ?_;refine rn 6 ⟨λhc0=>?_,λhc0=>?_⟩;refine rn 7 ?_;have hE0:He (t.drop a)=(0,0):=Su qY;have escE:Kk t a=([],0):=by unfold Kk;rw[uQ kS]
 rw[escE];exact⟨O,hF.same⟩;refine rn 19<|Sa (λμ σ w=>∃(i:Nat),μ=8-i/\(i<=8)/\(∀k (h:k<aL Ao),k<i->(t[a+1]' Aa)≠Ao[k])/\AllEq σ [(0,I t),(1,J<|(a:Int)),(6,I Ao),(7,I toS),(8,J<|(i:Int))]/\FR w0 [] [] w) _ ⟨0,O,Aa,λk _ h=>by omega,ae5,hF⟩ ?_;rintro μ σ w ⟨i,rfl,hi,hno,hzz,hF⟩;refine Wf hzz 10 ⟨λhc1=>?_,λhc1=>?_⟩;refine rn 5<|Rb (zs:=.of []) (bQ [0,1,2,3,4,5,6,7] .nil) hF ?_;intro w hF;refine rn 2<|CB O (Wd<|((a+1:Nat):Int))<|Ga O (v:=.int .u8<|(((t:Str)[a+1]' Aa).toNat:Int)) (λw hC=>Cb (a+1) jX O O Aa) ?_;refine rn 2<|Ga O (v:=.int .u8<|(((Ao:Str)[i]' Aa).toNat:Int)) (λw hC=>Cb (i) jX O O Aa) ?_;refine rn 4 ⟨λhc2=>?_,λhc2=>?_⟩;refine rn 5<|Zb (Wd<|((i+1:Nat):Int))<|Ba (v:=I<|((toS:Str).take (i+1)).drop (i)) (Eh (i) (i+1) jX O O O Aa Aa) ?_;refine rn 5 ?_;have hE:=Ef (s:=t.drop a) qY;rw[List.getElem_drop]at hE;have hi8:i<aL Ao:=by show i<8;omega
 obtain⟨hm1,hm2⟩:=VW i hi8;have hgd:Ao.getD i 0=Ao[i]:=by rw[List.getD_eq_getElem?_getD,List.getElem?_eq_getElem hi8];rfl
 rw[hgd]at hm1 hm2;have hci:t[a+1]=Ao[i]:=Lh.2 Aa;rw[hci]at hE;obtain⟨r,hr⟩:=Option.isSome_iff_exists.1 hm2;rw[hr]at hE hm1;have escE:Kk t a=(Od (r:Int),2):=by unfold Kk;rw[hE];rfl
 rw[escE,<-hm1];exact⟨O,hF.same⟩;refine rn 5<|Zb (Wd<|((i+1:Nat):Int)) ?_;refine rn 2 ?_;refine Ha ⟨_,?_,i+1,rfl,Aa,(λk hk h=>if e:k=i then (by subst e;exact λe2=>hc2 (by rw[e2])) else hno k hk Aa),ae5,hF⟩;omega;refine rn 7<|Zb (Wd<|((a+1:Nat):Int))<|Ba (v:=.int .u8<|(((t:Str)[a+1]' Aa).toNat:Int)) (Cb (a+1) jX O O Aa) ?_;refine rn 4 ⟨λhc3=>?_,λhc3=>?_⟩;refine rn 7 ?_;have hE:=Ef (s:=t.drop a) qY;rw[List.getElem_drop]at hE;have hmn:Me (t[a+1])=none:=Gm λk hk=>hno k hk (by have:k<8:=hk;omega);rw[hmn]at hE;have h117:¬t[a+1].toNat=117:=Aa
 have hE0:He (t.drop a)=(0,0):=by rw[hE];exact tQ h117
 have escE:Kk t a=([],0):=by unfold Kk;rw[uQ kS]
 rw[escE];exact⟨O,hF.same⟩;refine rn 6<|Zb (Wd<|((a+2:Nat):Int)) ?_;have hz:=XQ t<|a+2;refine Ia (rhex_c t (a+2) Aa Aa _) ?_;rintro w hF -;refine rn 5<|Eb (λσ w=>∃(ga:Bool),(ga=decide (Oc t (a+2)<0\/(56320<=Oc t (a+2)/\Oc t (a+2)<57344)))/\AllEq σ [(0,I t),(1,J<|(a:Int)),(9,J<|Oc t<|a+2),(53,.bool ga)]/\FR w0 [] [] w) ?_ ?_;refine rn 5 ⟨λhg0=>?_,λhg0=>?_⟩;refine rn 8 ?_;exact Ha ⟨true,(gZ Aa).symm,Fz,hF⟩;refine rn 4 ⟨λhg1=>?_,λhg1=>?_⟩;refine rn 5 ?_;exact Ha ⟨decide ((Oc t (a+2):Int)<(57344:Int)),decide_eq_decide.2 Aa,Fz,hF⟩;refine rn 5 ?_;exact Ha ⟨false,(fZ Aa).symm,Fz,hF⟩;rintro σ w ⟨ga,hja,hzz,hF⟩;refine Aj hzz 2 ⟨λhc4=>?_,λhc4=>?_⟩;have hc4:=mZ<|hja.symm.trans hc4;refine rn 7 ?_;have hE:=Ef (s:=t.drop a) qY;rw[List.getElem_drop]at hE;have hmn:Me (t[a+1])=none:=Gm λk hk=>hno k hk (by have:k<8:=hk;omega);have h117:t[a+1].toNat=117:=Aa
 rw[hmn]at hE;have k1:Oc t (a+2)<0\/(56320<=Oc t (a+2)/\Oc t (a+2)<57344):=Aa
 have hE0:He (t.drop a)=(0,0):=by rw[hE];dsimp only;rw[uQ h117,Hr,uQ k1]
 have escE:Kk t a=([],0):=by unfold Kk;rw[uQ kS]
 rw[escE];exact⟨O,hF.same⟩;have hc4:=of_decide_eq_false<|hja.symm.trans hc4;refine rn 4<|Eb (λσ w=>∃(gb:Bool),(gb=decide (Oc t (a+2)<55296\/57344<=Oc t (a+2)))/\AllEq σ [(0,I t),(1,J<|(a:Int)),(9,J<|Oc t<|a+2),(59,.bool gb)]/\FR w0 [] [] w) ?_ ?_;refine rn 5 ⟨λhg2=>?_,λhg2=>?_⟩;refine rn 4 ?_;exact Ha ⟨true,(gZ Aa).symm,Fz,hF⟩;refine rn 4 ?_;exact Ha ⟨decide ((57344:Int)<=(Oc t (a+2):Int)),decide_eq_decide.2 Aa,Fz,hF⟩;rintro σ w ⟨gb,hjb,hzz,hF⟩;refine Aj hzz 2 ⟨λhc5=>?_,λhc5=>?_⟩;have hc5:=mZ<|hjb.symm.trans hc5;refine rn 3<|Ia (rutf_c (Oc t<|a+2) Aa _) ?_;rintro w hF -;refine rn 5 ?_;have hE:=Ef (s:=t.drop a) qY;rw[List.getElem_drop]at hE;have hmn:Me (t[a+1])=none:=Gm λk hk=>hno k hk (by have:k<8:=hk;omega);have h117:t[a+1].toNat=117:=Aa
 rw[hmn]at hE;have k1:¬(Oc t (a+2)<0\/(56320<=Oc t (a+2)/\Oc t (a+2)<57344)):=Aa
 have k2:Oc t (a+2)<55296\/57344<=Oc t (a+2):=Aa
 have hE0:He (t.drop a)=((Oc t<|a+2).toNat,6):=by rw[hE];dsimp only;rw[uQ h117,Hr,tQ k1,uQ k2]
 have escE:Kk t a=(Od<|Oc t<|a+2,6):=by unfold Kk;rw[hE0,tQ (by dsimp only;decide),Int.toNat_of_nonneg Aa]
 rw[escE];exact⟨O,hF.same⟩;have hc5:=of_decide_eq_false<|hjb.symm.trans hc5;refine rn 6<|Zb (Wd<|((a+7:Nat):Int)) ?_;refine rn 5 ⟨λhg3=>?_,λhg3=>?_⟩;refine rn 23 ?_;have hE:=Ef (s:=t.drop a) qY;rw[List.getElem_drop]at hE;have hmn:Me (t[a+1])=none:=Gm λk hk=>hno k hk (by have:k<8:=hk;omega);have h117:t[a+1].toNat=117:=Aa
 rw[hmn]at hE;have k1:¬(Oc t (a+2)<0\/(56320<=Oc t (a+2)/\Oc t (a+2)<57344)):=Aa
 have k2:¬(Oc t (a+2)<55296\/57344<=Oc t (a+2)):=Aa
 have k3:¬(t.drop<|a+6).take 2=[92,117]:=λh=>by obtain⟨hl7,e6,e7⟩:=Up.1 h;have b6:=yQ UInt8.toNat e6;have b7:=yQ UInt8.toNat e7;simp only[show (92:UInt8).toNat=92 from rfl,show (117:UInt8).toNat=117 from rfl]at b6 b7;omega
 have hE0:He (t.drop a)=(0,0):=by rw[hE];dsimp only;rw[uQ h117,Hr,tQ k1,tQ k2,tQ k3]
 have escE:Kk t a=([],0):=by unfold Kk;rw[uQ kS]
 rw[escE];exact⟨O,hF.same⟩;refine rn 2<|Zb (Wd<|((a+6:Nat):Int))<|Ba (v:=.int .u8<|(((t:Str)[a+6]' Aa).toNat:Int)) (Cb (a+6) jX O O Aa) ?_;refine rn 4 ⟨λhg4=>?_,λhg4=>?_⟩;refine rn 16 ?_;have hE:=Ef (s:=t.drop a) qY;rw[List.getElem_drop]at hE;have hmn:Me (t[a+1])=none:=Gm λk hk=>hno k hk (by have:k<8:=hk;omega);have h117:t[a+1].toNat=117:=Aa
 rw[hmn]at hE;have k1:¬(Oc t (a+2)<0\/(56320<=Oc t (a+2)/\Oc t (a+2)<57344)):=Aa
 have k2:¬(Oc t (a+2)<55296\/57344<=Oc t (a+2)):=Aa
 have k3:¬(t.drop<|a+6).take 2=[92,117]:=λh=>by obtain⟨hl7,e6,e7⟩:=Up.1 h;have b6:=yQ UInt8.toNat e6;have b7:=yQ UInt8.toNat e7;simp only[show (92:UInt8).toNat=92 from rfl,show (117:UInt8).toNat=117 from rfl]at b6 b7;omega
 have hE0:He (t.drop a)=(0,0):=by rw[hE];dsimp only;rw[uQ h117,Hr,tQ k1,tQ k2,tQ k3]
 have escE:Kk t a=([],0):=by unfold Kk;rw[uQ kS]
 rw[escE];exact⟨O,hF.same⟩;refine rn 2<|Zb (Wd<|((a+7:Nat):Int))<|Ba (v:=.int .u8<|(((t:Str)[a+7]' Aa).toNat:Int)) (Cb (a+7) jX O O Aa) ?_;refine rn 5 ⟨λhc6=>?_,λhc6=>?_⟩;refine rn 7 ?_;have hE:=Ef (s:=t.drop a) qY;rw[List.getElem_drop]at hE;have hmn:Me (t[a+1])=none:=Gm λk hk=>hno k hk (by have:k<8:=hk;omega);have h117:t[a+1].toNat=117:=Aa
 rw[hmn]at hE;have k1:¬(Oc t (a+2)<0\/(56320<=Oc t (a+2)/\Oc t (a+2)<57344)):=Aa
 have k2:¬(Oc t (a+2)<55296\/57344<=Oc t (a+2)):=Aa
 have k3:¬(t.drop<|a+6).take 2=[92,117]:=λh=>by obtain⟨hl7,e6,e7⟩:=Up.1 h;have b6:=yQ UInt8.toNat e6;have b7:=yQ UInt8.toNat e7;simp only[show (92:UInt8).toNat=92 from rfl,show (117:UInt8).toNat=117 from rfl]at b6 b7;omega
 have hE0:He (t.drop a)=(0,0):=by rw[hE];dsimp only;rw[uQ h117,Hr,tQ k1,tQ k2,tQ k3]
 have escE:Kk t a=([],0):=by unfold Kk;rw[uQ kS]
 rw[escE];exact⟨O,hF.same⟩;refine rn 6<|Zb (Wd<|((a+8:Nat):Int)) ?_;have hy:=XQ t<|a+8;refine Ia (rhex_c t (a+8) Aa Aa _) ?_;rintro w hF -;refine rn 5<|Eb (λσ w=>∃(gc:Bool),(gc=decide (Oc t (a+8)<56320\/57344<=Oc t (a+8)))/\AllEq σ [(9,J<|Oc t<|a+2),(10,J<|Oc t<|a+8),(90,.bool gc)]/\FR w0 [] [] w) ?_ ?_;refine rn 5 ⟨λhg5=>?_,λhg5=>?_⟩;refine rn 4 ?_;exact Ha ⟨true,(gZ Aa).symm,ae3,hF⟩;refine rn 4 ?_;exact Ha ⟨decide ((57344:Int)<=(Oc t (a+8):Int)),decide_eq_decide.2 Aa,ae3,hF⟩;rintro σ w ⟨gc,hjc,hzz,hF⟩;refine Aj hzz 2 ⟨λhc7=>?_,λhc7=>?_⟩;have hc7:=mZ<|hjc.symm.trans hc7;refine rn 7 ?_;have hE:=Ef (s:=t.drop a) qY;rw[List.getElem_drop]at hE;have hmn:Me (t[a+1])=none:=Gm λk hk=>hno k hk (by have:k<8:=hk;omega);have h117:t[a+1].toNat=117:=Aa
 rw[hmn]at hE;have k1:¬(Oc t (a+2)<0\/(56320<=Oc t (a+2)/\Oc t (a+2)<57344)):=Aa
 have k2:¬(Oc t (a+2)<55296\/57344<=Oc t (a+2)):=Aa
 have k3:(t.drop<|a+6).take 2=[92,117]:=Up.2 ⟨Aa,Lh.2 (show _=92 by omega),Lh.2 (show _=117 by omega)⟩;have k4:Oc t (a+8)<56320\/57344<=Oc t (a+8):=Aa
 have hE0:He (t.drop a)=(0,0):=by rw[hE];dsimp only;rw[uQ h117,Hr,tQ k1,tQ k2,uQ k3,uQ k4]
 have escE:Kk t a=([],0):=by unfold Kk;rw[uQ kS]
 rw[escE];exact⟨O,hF.same⟩;have hc7:=of_decide_eq_false<|hjc.symm.trans hc7;refine rn 5<|Zb (AB<|(Oc t (a+2)-55296))<|Ba (v:=J<|(1024*(Oc t (a+2)-55296))) (Ro O O<|Gd Aa Aa Aa)<|Zb (Wd<|(65536+1024*(Oc t (a+2)-55296))) ?_;refine rn 1<|Zb (Wd<|(65536+1024*(Oc t (a+2)-55296)+Oc t (a+8)))<|Zb (AB<|(65536+1024*(Oc t (a+2)-55296)+Oc t (a+8)-56320)) ?_;refine Ia (rutf_c (65536+1024*(Oc t (a+2)-55296)+Oc t (a+8)-56320) Aa _) ?_;rintro w hF -;refine rn 5 ?_;have hE:=Ef (s:=t.drop a) qY;rw[List.getElem_drop]at hE;have hmn:Me (t[a+1])=none:=Gm λk hk=>hno k hk (by have:k<8:=hk;omega);have h117:t[a+1].toNat=117:=Aa
 rw[hmn]at hE;have k1:¬(Oc t (a+2)<0\/(56320<=Oc t (a+2)/\Oc t (a+2)<57344)):=Aa
 have k2:¬(Oc t (a+2)<55296\/57344<=Oc t (a+2)):=Aa
 have k3:(t.drop<|a+6).take 2=[92,117]:=Up.2 ⟨Aa,Lh.2 (show _=92 by omega),Lh.2 (show _=117 by omega)⟩;have k4:¬(Oc t (a+8)<56320\/57344<=Oc t (a+8)):=Aa
 have hE0:He (t.drop a)=((65536+1024*(Oc t (a+2)-55296)+Oc t (a+8)-56320).toNat,12):=by rw[hE];dsimp only;rw[uQ h117,Hr,tQ k1,tQ k2,uQ k3,tQ k4]
 have escE:Kk t a=(Od<|65536+1024*(Oc t (a+2)-55296)+Oc t (a+8)-56320,12):=by unfold Kk;rw[hE0,tQ (by dsimp only;decide),Int.toNat_of_nonneg Aa]
 rw[escE];exact⟨O,hF.same⟩
end Go.Scarf
