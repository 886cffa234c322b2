/- A part of the proof. -/
import Derived.Test.YtidlkjpohhbbcaaGreatDoorW16
set_option linter.all false
set_option maxHeartbeats 8000000
set_option maxRecDepth 10000
set_option synthInstance.maxHeartbeats 0
set_option synthInstance.maxSize 9999
namespace Go.Scarf
open List renaming length->aL
open Go.RowKit Go.Proofs Go.Proofs.Tryz
mutual
def eqT:Tree->Tree->Bool
  | .node k t ks xs,.node k' t' ks' ys=>decide (k=k')&&decide (t=t')&&decide (ks=ks')&&NL xs ys
def NL:List Tree->List Tree->Bool
  | [],[]=>true
  | x::xs,y::ys=>eqT x y&&NL xs ys
  | _,_=>false
end
theorem QR:∀{xs ys:List Tree},(∀x∈xs,∀y,eqT x y=true↔x=y)->(NL xs ys=true↔xs=ys)
  | [],[],_=>by simp[NL]
  | [],_::_,_=>by simp[NL]
  | _::_,[],_=>by simp[NL]
  | x :: xs, y :: ys, h => by
    rw[NL,vQ,h x Da y,QR λz hz=>h z wP];simp
theorem By(x:Tree):∀y,eqT x y=true↔x=y:=Tree.ind (Q:=λx=>∀y,eqT x y=true↔x=y) (λk t ks xs ih y=>by
  obtain⟨k',t',ks',ys⟩:=y;rw[eqT,vQ,vQ,vQ,QR ih];simp[and_assoc]) x
def Hj(x:Tree):eqT x x=true:=(By x x).2 rfl
theorem Iz{x y:Tree}(h:x≠y):eqT x y=false:=by grind [By]
instance : DecidableEq Tree:=λx y=>if h:eqT x y=true then .isTrue ((By x y).1 h) else .isFalse (λe=>h ((By x y).2 e))
def T_{α:Type}{xs ys:List α}{j:Nat}(h:j<aL xs)(h2:j<aL ys)(ha:xs.take j=ys.take j)(he:xs[j]=ys[j]):xs.take (j+1)=ys.take (j+1):=by rw[iQ h,iQ h2,ha,he]
def XO(x:Tree):Prop:=∀y S S' w0 cs ct,Rep S w0 (Na x) cs->Rep S' w0 (Na y) ct->Calls prog 34 #[.agg cs.toArray,.agg ct.toArray] w0 (Za λv w'=>v=.bool (eqT x y)/\Same [] w0 w')
def ME(x:Tree):Prop:=∀S w0 cs,Rep S w0 (Na x) cs->La x<=1000000000->(Rg x<=8796093022208)->GF 17 #[.agg cs.toArray] (Na x) w0
mutual
def Iq(left deep:Int):Tree->Int|.node _ _ ks xs=>if 60<deep then -1 else Uk (left-1-aL ks) deep xs
def Uk(left deep:Int):List Tree->Int|[]=>left|x::xs=>if left<0 then left else Uk (Iq left (deep+1) x) deep xs
end
mutual
def Vj:Tree->Bool|.node _ t ks xs=>decide (aL t<=2048)&&ks.all (λk=>decide (aL k<=1024))&&Dp xs
def Dp:List Tree->Bool|[]=>true|x::xs=>Vj x&&Dp xs
end
def Sy(x:Tree)(most:Int):Bool:=decide (0<=Iq most 0 x)&&Vj x
theorem HI(deep:Int):∀(xs:List Tree)(left:Int),(∀x∈xs,∀l d:Int,0<=l->Iq l d x<=l)->Uk left deep xs<=left
  | [],left,_=>by rw[Uk];exact Int.le_refl _
  | x :: xs, left, h => by
    rw[Uk];split
    ·exact Int.le_refl _
    have h1 := h x Da left (deep + 1) Aa;have h2:=HI deep xs (Iq left (deep+1) x) λy hy=>h y bT;omega
def fewT_le(x:Tree):∀l d:Int,0<=l->Iq l d x<=l:=Tree.ind (Q:=λx=>∀l d:Int,0<=l->Iq l d x<=l) (λk t ks xs ih l d hl=>by
  rw[Iq];split
  ·omega
  have := HI d xs (l-1-aL ks) ih;omega) x
theorem Oz{left deep:Int}(h:left<0):∀xs:List Tree,Uk left deep xs=left
  | []=>by rw[Uk]
  | x::xs=>by rw[Uk,uQ h]
theorem LM(x:Tree):∀l d:Int,0<=l->0<=d->0<=Iq l d x->Iq l d x=l-La x-Rg x/\d+Nb x<=61:=Tree.ind (Q:=λx=>∀l d:Int,0<=l->0<=d->0<=Iq l d x->Iq l d x=l-La x-Rg x/\d+Nb x<=61) (λk t ks xs ih l d hl hd h=>by
  rw[Iq]at h ⊢;split at h
  ·omega
  rename_i hd60
  rw[tQ hd60];have key:∀(ys:List Tree),(∀y∈ys,y∈xs)->∀m:Int,0<=Uk m d ys->Uk m d ys=m-Ra ys-Xj ys/\d+1+Ac ys<=61:=by
    intro ys
    induction ys with
    | nil=>intro _ m hm;simp only[Uk,Ra,Xj,Ac];omega
    | cons y ys ihy =>
      intro hm m h0;rw[Uk]at h0 ⊢;split at h0
      ·omega
      rename_i hmm
      rw[tQ hmm];obtain⟨a1,a2⟩:=ihy (λz hz=>hm z wP) _ h0;have h3:0<=Iq m (d+1) y:=by
        rcases Int.lt_or_le (Iq m (d+1) y) 0 with hlt|hge
        ·rw[Oz hlt]at h0;omega
        exact hge
      obtain⟨b1,b2⟩:=ih y (hm y Da) m (d+1) Aa Aa h3;simp only[Ra,Xj,Ac];omega
  obtain⟨a1,a2⟩:=key xs (λ_ h=>h) _ h;rw[La,Rg,Nb];omega) x
theorem Y3{x:Tree}{most:Int}(hm:0<=most)(h:Sy x most=true):(La x:Int)+Rg x<=most/\Nb x<=61/\Vj x=true:=by grind [Sy,LM]
def CO{left deep:Int}{xs:List Tree}{j:Nat}(h:j<aL xs)(h0:¬left<0):Uk left deep (xs.drop j)=Uk (Iq left (deep+1) xs[j]) deep (xs.drop (j+1)):=by rw[List.drop_eq_getElem_cons h,Uk,tQ h0]
def FewC(x:Tree):Prop:=∀(left deep:Int) S w0 cs,0<=left->left<=1000000->0<=deep->deep<=61->Rep S w0 (Na x) cs->Calls prog 47 #[.agg cs.toArray,J left,J deep] w0 (Za λv w'=>v=J (Iq left deep x)/\Same [] w0 w')
def EK(x:Tree):Prop:=∀S w0 cs,Rep S w0 (Na x) cs->Calls prog 48 #[.agg cs.toArray] w0 (Za λv w'=>v=.bool (Vj x)/\Same [] w0 w')
theorem TJ{xs:List Tree}{x:Tree}(h:x∈xs)(hs:Vj x=false):Dp xs=false:=by
  induction xs with
  | nil=>cases h
  | cons y ys ih=>grind [Dp]
def PJ{xs:List Tree}(h:∀j (hj:j<aL xs),Vj xs[j]=true):Dp xs=true:=by
  induction xs with
  | nil=>rfl
  | cons y ys ih =>
    have h0:Vj y=true:=h 0 Da;rw[Dp,h0,Bool.true_and];exact ih (λj hj=>by have:=h (j+1) (aS hj);simpa using this)
def MK(k:Int)(t:Str)(ks:List Str)(xs:List Tree)(ih:∀x,x∈xs->XO x):XO (.node k t ks xs):=by
 rintro⟨k',t',ks',ys⟩ S S' w0 cs ct hR hR';obtain⟨A,c,B,e,rfl,-,-,hK,hX⟩:=hR.tree_inv;obtain⟨A',c',B',e',rfl,-,-,hK',hY⟩:=hR'.tree_inv;have hXl:=hX.slice_len;have hKl:=hK.slice_len;have hYl:=hY.slice_len;have hKl':=hK'.slice_len;refine Ea func34 ntmps34 ?_;intro hF;refine rn 3 ?_;rintro b1 w hb1 hF -;refine rn 1 ?_;rintro b2 w hb2 hF -;refine rn 13 ⟨λhg0=>?_,λhg0=>?_⟩;refine rn 33 ?_;refine⟨yQ Value.bool (Iz λhe=>?_).symm,hF.same⟩;cases he;first|exact absurd rfl qW|(simp only[Hj]at hc4;cases hc4)
 refine rn 8 ⟨λhg1=>?_,λhg1=>?_⟩;refine rn 26 ?_;refine⟨yQ Value.bool (Iz λhe=>?_).symm,hF.same⟩;cases he;first|exact absurd rfl qW|(simp only[Hj]at hc4;cases hc4)
 refine rn 10 ⟨λhg2=>?_,λhg2=>?_⟩;refine rn 17 ?_;refine⟨yQ Value.bool (Iz λhe=>?_).symm,hF.same⟩;cases he;first|exact absurd rfl qW|(simp only[Hj]at hc4;cases hc4)
 refine rn 11 ⟨λhc0=>?_,λhc0=>?_⟩;refine rn 6 ?_;refine⟨yQ Value.bool (Iz λhe=>?_).symm,hF.same⟩;cases he;first|exact absurd rfl qW|(simp only[Hj]at hc4;cases hc4)
 refine rn 9<|Sa (λμ σ w=>∃(j:Nat),μ=aL ks-j/\(j<=aL ks)/\(ks.take j=ks'.take j)/\AllEq σ [(2,V b1),(3,V b2),(5,J<|(j:Int))]/\FR w0 [] [(b2,.cells #[J k',I t',.slice A' (aL ks') c',.slice B' (aL ys) e'] 36),(b1,.cells #[J k,I t,.slice A (aL ks) c,.slice B (aL xs) e] 36)] w) _ ⟨0,O,dZ _,Da,Va,hF⟩ ?_;rintro μ σ w ⟨j,rfl,hj,ha,hzz,hF⟩;refine Wf hzz 11 ⟨λhc1=>?_,λhc1=>?_⟩;refine rn 5<|Rb (zs:=.of []) (bQ [0,1,2,3,4,5,6,7,8,9,10] .nil) hF ?_;intro w hF;refine rn 3 ?_;obtain⟨ad3,hA3,hk3,ZO⟩:=hK.str_elem (i:=j) Aa;refine Ga O (v:=.pointer<|some<|ad3.add<|j*1) (λw hC=>Ca (i:=(j:Int)) Ii hA3)<|Ga O (v:=I<|ks[j]) (λw hC=>Xa sZ<|hC.cell0 hk3) ?_;refine rn 3 ?_;obtain⟨ad4,hA4,hk4,hx4⟩:=hK'.str_elem (i:=j) Aa;refine Ga O (v:=.pointer<|some<|ad4.add<|j*1) (λw hC=>Ca (i:=(j:Int)) Ii hA4)<|Ga O (v:=I<|ks'[j]) (λw hC=>Xa sZ<|hC.cell0 hk4) ?_;refine rn 4 ⟨λhc2=>?_,λhc2=>?_⟩;refine rn 6 ?_;refine⟨yQ Value.bool (Iz λhe=>?_).symm,hF.same⟩;cases he;first|exact absurd rfl qW|(simp only[Hj]at hc4;cases hc4)
 refine rn 5<|Zb Uh ?_;refine rn 2<|Ha ⟨_,?_,j+1,O,Aa,T_ Aa Aa ha (aS hc2),Va,hF⟩;omega;refine rn 9<|Sa (λμ σ w=>∃(i:Nat),μ=aL xs-i/\(i<=aL xs)/\(xs.take i=ys.take i)/\AllEq σ [(2,V b1),(3,V b2),(6,J<|(i:Int))]/\FR w0 [] [(b2,.cells #[J k',I t',.slice A' (aL ks') c',.slice B' (aL ys) e'] 36),(b1,.cells #[J k,I t,.slice A (aL ks) c,.slice B (aL xs) e] 36)] w) _ ⟨0,O,dZ _,Da,Va,hF⟩ ?_;rintro μ σ w ⟨i,rfl,hi,hb,hzz,hF⟩;have hke:ks=ks':=by rw[eZ Aa,eZ Aa]at ha;exact ha
 refine Wf hzz 11 ⟨λhc3=>?_,λhc3=>?_⟩;refine rn 5<|Rb (zs:=.of []) (bQ [0,1,2,3,4,5,6,7,8,9]<|.act 10<|.free 11 .nil) hF ?_;intro w hF;refine rn 3 ?_;obtain⟨ad5,cs5,hA5,hl5,hk5,hx5⟩:=hX.tree_elem (i:=i) Aa;have ho5:=hx5.one_;refine Ga O (v:=.pointer<|some<|ad5.add<|i*4) (λw hC=>Ca (i:=(i:Int)) Fd hA5)<|Ga O (v:=.agg<|List.toArray cs5) (λw hC=>Ma (l:=cs5) qZ uZ O hl5<|hC.cells0 hk5) ?_;refine rn 3 ?_;obtain⟨ad6,cs6,hA6,hl6,hk6,hx6⟩:=hY.tree_elem (i:=i) Aa;have ho6:=hx6.one_;refine Ga O (v:=.pointer<|some<|ad6.add<|i*4) (λw hC=>Ca (i:=(i:Int)) Fd hA6)<|Ga O (v:=.agg<|List.toArray cs6) (λw hC=>Ma (l:=cs6) qZ uZ O hl6<|hC.cells0 hk6) ?_;refine Rc (ih _ (List.getElem_mem (l:=xs) (n:=i) Aa) ys[i] _ _ _ _ _ (hF.rep hx5) (hF.rep hx6)) ?_;rintro w hF -;refine rn 10 ⟨λhc4=>?_,λhc4=>?_⟩;refine rn 6 ?_;refine⟨yQ Value.bool (Iz λhe=>?_).symm,hF.same⟩;cases he;first|exact absurd rfl qW|(simp only[Hj]at hc4;cases hc4)
 refine rn 5<|Zb Uh ?_;refine rn 2<|Ha ⟨_,?_,i+1,O,Aa,T_ Aa Aa hb<|(By _ _).1 (aS hc4),Va,hF⟩;omega;refine rn 8 ?_;have e3:xs=ys:=(by have h1:=hb;rw[eZ Aa]at h1;rw[eZ Aa]at h1;exact h1);have e1:k=k':=Classical.not_not.1 hg0;have e2:t=t':=Classical.not_not.1 hg1;subst hke e3 e1 e2;exact⟨yQ Value.bool (Hj _).symm,hF.same⟩
def XB(x:Tree):XO x:=Tree.ind MK x
def few_step(k:Int)(t:Str)(ks:List Str)(xs:List Tree)(ih:∀x,x∈xs->FewC x):FewC (.node k t ks xs):=by
 intro left deep S w0 cs h0 h1 h2 h3 hR;obtain⟨A,c,B,e,rfl,-,-,hK,hX⟩:=hR.tree_inv;have hXl:=hX.slice_len;have hKl:=hK.slice_len;refine Ea func47 ntmps47 ?_;intro hF;refine rn 3 ?_;rintro b1 w hb1 hF -;refine rn 11 ⟨λhc0=>?_,λhc0=>?_⟩;refine rn 6 ?_;exact⟨yQ (Value.int .i64) (by rw[Iq,uQ Aa]),hF.same⟩;refine rn 5<|Zb Iy ?_;refine rn 3<|Zb Iy ?_;refine rn 10<|Sa (λμ σ w=>∃(j:Nat),∃(lf:Int),μ=aL xs-j/\(j<=aL xs)/\(lf<=1000000)/\(Uk (left-1-aL ks) deep xs=Uk lf deep (xs.drop j))/\AllEq σ [(1,J lf),(2,J deep),(3,V b1),(7,J<|(j:Int))]/\FR w0 [] [(b1,.cells #[J k,I t,.slice A (aL ks) c,.slice B (aL xs) e] 36)] w) _ ⟨0,left-1-aL ks,O,dZ _,Aa,Da,Va,hF⟩ ?_;rintro μ σ w ⟨j,lf,rfl,hj,hlf,hf,hzz,hF⟩;refine Wf hzz 10 ⟨λhg0=>?_,λhg0=>?_⟩;refine rn 6 ⟨λhc1=>?_,λhc1=>?_⟩;refine rn 8 ?_;obtain⟨ad1,cs1,hA1,hl1,hk1,hx1⟩:=hX.tree_elem (i:=j) Aa;have ho1:=hx1.one_;refine Ba (v:=.pointer<|some<|ad1.add<|j*4) (Ca (i:=(j:Int)) Fd hA1)<|Ba (v:=.agg<|List.toArray cs1) (Ma (l:=cs1) qZ uZ O hl1<|hF.cells0 hk1) ?_;refine rn 2<|Zb Uh ?_;refine Ia (ih _ (List.getElem_mem (l:=xs) (n:=j) Aa) lf (deep+1) _ _ _ Aa Aa Aa Aa<|hF.rep hx1) ?_;rintro w hF -;refine rn 6<|Zb Uh ?_;refine rn 2 ?_;refine Ha ⟨_,?_,j+1,Iq lf (deep+1) xs[j],O,Aa,(by have:=fewT_le xs[j] lf (deep+1) Aa;omega),hf.trans<|CO Aa Aa,Va,hF⟩;omega;refine rn 9 ⟨yQ (Value.int .i64) ?_,hF.same⟩;rw[Iq,tQ Aa,hf]
 ·first|(rw[List.drop_eq_nil_of_le Aa,Uk];done)|(rw[Oz Aa])
 refine rn 15 ⟨yQ (Value.int .i64) ?_,hF.same⟩;rw[Iq,tQ Aa,hf]
 ·first|(rw[List.drop_eq_nil_of_le Aa,Uk];done)|(rw[Oz Aa])
def few_c(x:Tree):FewC x:=Tree.ind few_step x
def VN(k:Int)(t:Str)(ks:List Str)(xs:List Tree)(ih:∀x,x∈xs->EK x):EK (.node k t ks xs):=by
 intro S w0 cs hR;obtain⟨A,c,B,e,rfl,-,-,hK,hX⟩:=hR.tree_inv;have hXl:=hX.slice_len;have hKl:=hK.slice_len;refine Ea func48 ntmps48 ?_;intro hF;refine rn 3 ?_;rintro b1 w hb1 hF -;refine rn 13 ⟨λhc0=>?_,λhc0=>?_⟩
 ·
  refine rn 6 ?_;exact⟨yQ Value.bool (by rw[Vj,fZ Aa];rfl),hF.same⟩
 refine rn 9<|Sa (λμ σ w=>∃(j:Nat),μ=aL ks-j/\(j<=aL ks)/\(∀i (hi:i<j) (hk:i<aL ks),aL ks[i]<=1024)/\AllEq σ [(1,V b1),(3,J<|(j:Int))]/\FR w0 [] [(b1,.cells #[J k,I t,.slice A (aL ks) c,.slice B (aL xs) e] 36)] w) _ ⟨0,O,dZ _,λi hi=>absurd hi Aa,Va,hF⟩ ?_;rintro μ σ w ⟨j,rfl,hj,ha,hzz,hF⟩;refine Wf hzz 11 ⟨λhc1=>?_,λhc1=>?_⟩
 ·
  refine rn 9 ?_;obtain⟨ad0,hA0,hk0,hx0⟩:=hK.str_elem (i:=j) Aa;refine Ba (v:=.pointer<|some<|ad0.add<|j*1) (Ca (i:=(j:Int)) Ii hA0)<|Ba (v:=I<|ks[j]) (Xa sZ<|hF.cell0 hk0) ?_;refine rn 5 ⟨λhc2=>?_,λhc2=>?_⟩
  ·
   refine rn 6 ?_;have hno:ks.all (λk=>decide (aL k<=1024))=false:=by
     rw[Bool.eq_false_iff];intro hall;have:=List.all_eq_true.1 hall ks[j] (eQ _);simp only[xQ]at this;omega
   exact⟨yQ Value.bool (by rw[Vj,hno,Bool.and_false];rfl),hF.same⟩
  refine rn 5<|Zb Uh ?_;refine rn 2 ?_;refine Ha ⟨_,?_,j+1,rfl,Aa,(λi hi hk=>by rcases Nat.lt_or_ge i j with h|h;exact ha i h hk;obtain rfl:i=j:=Aa;omega),Va,hF⟩;omega
 refine rn 9<|Sa (λμ σ w=>∃(i:Nat),μ=aL xs-i/\(i<=aL xs)/\(∀m (hm:m<i) (hk:m<aL xs),Vj xs[m]=true)/\AllEq σ [(1,V b1),(4,J<|(i:Int))]/\FR w0 [] [(b1,.cells #[J k,I t,.slice A (aL ks) c,.slice B (aL xs) e] 36)] w) _ ⟨0,O,dZ _,λi hi=>absurd hi Aa,Va,hF⟩ ?_;rintro μ σ w ⟨i,rfl,hi,hb,hzz,hF⟩;refine Wf hzz 11 ⟨λhc3=>?_,λhc3=>?_⟩
 ·
  refine rn 9 ?_;obtain⟨ad1,cs1,hA1,hl1,hk1,hx1⟩:=hX.tree_elem (i:=i) Aa;have ho1:=hx1.one_;refine Ba (v:=.pointer<|some<|ad1.add<|i*4) (Ca (i:=(i:Int)) Fd hA1)<|Ba (v:=.agg<|List.toArray cs1) (Ma (l:=cs1) qZ uZ O hl1<|hF.cells0 hk1) ?_;refine Ia (ih _ (List.getElem_mem (l:=xs) (n:=i) Aa) _ _ _<|hF.rep hx1) ?_;rintro w hF -;refine rn 10 ⟨λhc4=>?_,λhc4=>?_⟩
  ·
   refine rn 6 ?_;exact⟨yQ Value.bool (by rw[Vj,TJ (List.getElem_mem (l:=xs) (n:=i) Aa) (aS hc4),Bool.and_false]),hF.same⟩
  refine rn 5<|Zb Uh ?_;refine rn 2 ?_;refine Ha ⟨_,?_,i+1,rfl,Aa,(λm hm hk=>by rcases Nat.lt_or_ge m i with h|h;exact hb m h hk;obtain rfl:m=i:=Aa;simpa using hc4),Va,hF⟩;omega
 refine rn 8 ?_;have h1:ks.all (λk=>decide (aL k<=1024))=true:=by
   rw[List.all_eq_true];intro k hk;obtain⟨q,hq,rfl⟩:=List.getElem_of_mem hk;simp only[xQ];exact ha q Aa hq
 exact⟨yQ Value.bool (by rw[Vj,h1,gZ Aa,PJ λm hm=>hb m Aa hm];rfl),hF.same⟩
def short_c(x:Tree):EK x:=Tree.ind VN x
def few_v(x:Tree)(most:Int)(h0:0<=most)(h1:most<=1000000)(S:Nat->Prop)(w0:World)(cs:List Value)(hR:Rep S w0 (Na x) cs):Calls prog 16 #[.agg cs.toArray,J most] w0 (Za λv w'=>v=.bool (Sy x most)/\Same [] w0 w'):=by
 have hl:aL cs=4:=hR.length.trans<|Bb x;have ho:=hR.one_;refine Ea func16 ntmps16 ?_;intro hF;refine rn 2<|Gk (v:=.agg<|List.toArray cs) (cs:=(List.toArray cs)) hF O O ?_;rintro b1 w hb1 hF -;refine rn 5<|Ba (v:=.agg<|List.toArray cs) (Ma (l:=cs) qZ uZ O hl<|hF.cellsAll 0 O) ?_;refine rn 1<|Ia (few_c x most 0 S _ cs h0 h1 Aa Aa<|hF.rep hR) ?_;rintro w hF -;refine rn 9 ⟨λhg0=>?_,λhg0=>?_⟩;refine Ba (v:=.agg<|List.toArray cs) (Ma (l:=cs) qZ uZ O hl<|hF.cellsAll 0 O)<|Ia (short_c x S _ cs<|hF.rep hR) ?_;rintro w hF -;refine rn 5 ⟨yQ Value.bool ?_,hF.same⟩;unfold Sy
 first|(rw[gZ hg0];rfl)|(rw[fZ hg0];rfl)
 refine rn 7 ⟨yQ Value.bool ?_,hF.same⟩;unfold Sy
 first|(rw[gZ hg0];rfl)|(rw[fZ hg0];rfl)
def map_c(A:Option Addr)(n c:Nat)(B:Option Addr)(m d:Nat)(w0:World):Calls prog 32 #[.slice A n c,.slice B m d] w0 (Za λv w'=>v=.agg #[J 6,I [],.slice A n c,.slice B m d]/\Same [] w0 w'):=by
 refine Ea func32 ntmps32 ?_;intro hF;refine rn 3 ?_;rintro b1 w hb1 hF -;refine rn 6<|Ba (w':=w) (v:=.agg #[J 6,I [],.slice A n c,.slice B m d]) Ua ?_;refine rn 1 ?_;rintro w hF -;refine rn 3 ?_;exact⟨O,hF.same⟩
theorem QI(k:Int)(t:Str)(ks:List Str)(xs:List Tree)(ih:∀x,x∈xs->ME x):ME (.node k t ks xs):=by
 intro S w0 cs hR hsz hky;rw[La]at hsz;rw[Rg]at hky;have hxn:=Pf xs;obtain⟨A,c,B,e,rfl,hk,ht,hK,hX⟩:=hR.tree_inv;have hXl:=hX.slice_len;obtain⟨eK,hrK,hKl,hKc⟩:=hK.slice_open<|Ez ks;refine Ea func17 ntmps17 ?_;intro hF;refine rn 3 ?_;rintro b1 w hb1 hF -;refine rn 1 ?_;rintro b2 w hb2 hF -;refine rn 3<|Eb (λσ w=>∃(b4:Nat),∃(A0:Option Addr),∃(c0:Nat),∃(sa:List (Nat × Obj)),(SlB 9 1 A0 (aL ks) c0 eK sa)/\AllEq σ [(1,V b1),(2,V b2),(3,V b4)]/\FR w0 [] ([(b4,.cells #[J k,I t,.slice A0 (aL ks) c0,aQ] 36),(b2,.cells #[J 0,I [],aQ,aQ] 36),(b1,.cells #[J k,I t,.slice A (aL ks) c,.slice B (aL xs) e] 36)]++(sa++[])) w) ?_ ?_
 ·
  refine Rb (zs:=.of [10]) (bQ [0,1,2,3,5,6]<|.alt 4 (.alt 7 (.free 8<|.act 9<|.act 10 .nil)<|.act 9<|.act 7<|.free 8<|.act 10 .nil)<|cQ [9,4,7]<|.free 8<|.act 10 .nil) hF ?_;intro w hF;refine rn 6 ?_
  repeat' first
   |refine R7 ?_ ?_|refine Bs 4<|Js 0 O hF (Mj fX sizeOf9) ?_;rintro b301 w hb301 hF -;refine⟨hF.drop 1,?_⟩|refine Bs 4<|Js 0 O hF (Mj fX sizeOf9) ?_;rintro b301 w hb301 hF -;refine⟨hF.drop 2,?_⟩|refine Bs 7 ?_;have hS0:SlB 9 1 (some ⟨b301,0,none⟩) 0 0 [] [(b301,.cells #[] 9)]:=⟨Da,.inr ⟨b301,#[],rfl,rfl,gQ _,dZ _,Da,Da⟩⟩;have hF:=hF.toseg 0 rfl;refine Yk [(b2,.cells #[J 0,I [],aQ,aQ] 36),(b1,.cells #[J k,I t,.slice A (aL ks) c,.slice B (aL xs) e] 36)] [] (news:=eK) (len':=aL ks) (ys:=eK) rfl I2 hF hS0 rfl rfl (by rw[hKl]) (λhk=>by obtain⟨ad,hA,hc⟩:=hKc hk;exact⟨ad,hA,Kc<|hF.cells0 hc⟩) (Ig hrK.one_) qN (Nat.zero_add _) (rfl) Aa ?_;intro A302 c302 a_302 w hS302_a hF hE hnew;refine⟨hF.mid 0 2,?_⟩|refine Bs 7 ?_;have hS0:SlB 9 1 (some ⟨b301,0,none⟩) 0 0 [] [(b301,.cells #[] 9)]:=⟨Da,.inr ⟨b301,#[],rfl,rfl,gQ _,dZ _,Da,Da⟩⟩;have hF:=hF.toseg 1 rfl;refine Yk [(b303,.cells #[J 0,I [],aQ,aQ] 36),(b2,.cells #[J 0,I [],aQ,aQ] 36),(b1,.cells #[J k,I t,.slice A (aL ks) c,.slice B (aL xs) e] 36)] [] (news:=eK) (len':=aL ks) (ys:=eK) rfl I2 hF hS0 rfl rfl (by rw[hKl]) (λhk=>by obtain⟨ad,hA,hc⟩:=hKc hk;exact⟨ad,hA,Kc<|hF.cells0 hc⟩) (Ig hrK.one_) qN (Nat.zero_add _) (rfl) Aa ?_;intro A302 c302 a_302 w hS302_a hF hE hnew;refine⟨hF.mid 1 2,?_⟩|refine Bs 7 ?_;have hS0:SlB 9 1 (some ⟨b301,0,none⟩) 0 0 [] [(b301,.cells #[] 9)]:=⟨Da,.inr ⟨b301,#[],rfl,rfl,gQ _,dZ _,Da,Da⟩⟩;have hF:=hF.toseg 0 rfl;refine Yk [(b303,.cells #[J 0,I [],aQ,aQ] 36),(b2,.cells #[J 0,I [],aQ,aQ] 36),(b1,.cells #[J k,I t,.slice A (aL ks) c,.slice B (aL xs) e] 36)] [] (news:=eK) (len':=aL ks) (ys:=eK) rfl I2 hF hS0 rfl rfl (by rw[hKl]) (λhk=>by obtain⟨ad,hA,hc⟩:=hKc hk;exact⟨ad,hA,Kc<|hF.cells0 hc⟩) (Ig hrK.one_) qN (Nat.zero_add _) (rfl) Aa ?_;intro A302 c302 a_302 w hS302_a hF hE hnew;refine⟨hF.mid 1 2,?_⟩|refine Bs 9<|rn 1 ?_;rintro b303 w hb303 hF -|refine Bs 10<|rn 1 ?_;rintro w hF -|refine rn 1 ?_;exact Ha ⟨b303,A302,c302,a_302,hS302_a,ae3,((hF.front 2 O).front 2 O).front 2 O⟩|refine ndF 8<|Ga O (v:=.agg #[J k,I t,.slice A302 (aL ks) c302,aQ]) (λw hC=>by kernel_rfl) ?_
 rintro σ w ⟨b4,A0,c0,sa,hSa,hzz,hF⟩;refine Aj hzz 8 (Sa (λμ σ w=>∃(j:Nat),∃(A1:Option Addr),∃(c1:Nat),∃(sb:List (Nat × Obj)),∃(cs1:List Value),μ=aL xs-j/\(j<=aL xs)/\(SlB 36 4 A1 j c1 cs1 sb)/\(RX w0 ([b4,b2,b1]++(sa.map (·.1)++sb.map (·.1))) w (Hc<|xs.take j) cs1)/\AllEq σ [(1,V b1),(2,V b2),(3,V b4),(4,J<|(j:Int))]/\FR w0 [] ([(b4,.cells #[J k,I t,.slice A0 (aL ks) c0,.slice A1 j c1] 36),(b2,.cells #[J 0,I [],aQ,aQ] 36),(b1,.cells #[J k,I t,.slice A (aL ks) c,.slice B (aL xs) e] 36)]++(sa++(sb++[]))) w) _ ⟨0,none,0,[],[],O,dZ _,SlB.nil _ _,RX.nil,Fz,hF⟩ ?_);rintro μ σ w ⟨j,A1,c1,sb,cs1,rfl,hj,hS,hDX,hzz,hF⟩;refine Wf hzz 11 ⟨λhc0=>?_,λhc0=>?_⟩
 ·
  refine rn 4<|Gb (.of [11]) (bQ [0,1,2,3,4,5,6]<|cQ [7,8,9]<|.free 10<|.act 11 .nil) hF ?_;intro w hF hE;have hDX:=hDX.ext hE;refine⟨λwq=>FR w0 [] [(b4,.cells #[J k,I t,.slice A0 (aL ks) c0,.slice A1 j c1] 36),(b2,.cells #[J 0,I [],aQ,aQ] 36),(b1,.cells #[J k,I t,.slice A (aL ks) c,.slice B (aL xs) e] 36)] wq,hF.mid 0 3,?_⟩;refine rn 5 ?_;obtain⟨ad3,cs3,hA3,hl3,hk3,ZO⟩:=hX.tree_elem (i:=j) Aa;have ho3:=ZO.one_;refine Ga O (v:=.pointer<|some<|ad3.add<|j*4) (λw hC=>Ca (i:=(j:Int)) Fd hA3)<|Ga O (v:=.agg<|List.toArray cs3) (λw hC=>Ma (l:=cs3) qZ uZ O hl3<|hC.cells0 hk3) ?_;refine Lk (ih _ (List.getElem_mem (l:=xs) (n:=j) Aa) _ _ cs3 (hF.rep ZO) zW (by have:=Pw<|List.getElem_mem (l:=xs) (n:=j) Aa;omega)) ?_;rintro _ w ⟨ct,rfl,hRt,hE⟩;have hlt:aL ct=4:=hRt.length.trans<|Bb _;have hot:=hRt.one_;have hYX:=RX.made (ids:=[b4,b2,b1]++(sa.map (·.1)++sb.map (·.1))) hF.same.size (λx hx=>hF.lt_ids qK) hRt;have hDX:=(hDX.ext hE).append hYX;have hF:=hF.ext hE;clear hE hYX;refine⟨hF.mid 0 3,?_⟩;refine Js 1 O hF (Cj (l:=ct) gX uZ kX Ja Ja O hlt) ?_;intro b8 w hb8 hF hE;have hDX:=hDX.alloc hE hb8;refine⟨hF.mid 1 3,?_⟩;refine Yk ([(b8,.cells (List.toArray ct) 36),(b4,.cells #[J k,I t,.slice A0 (aL ks) c0,.slice A1 j c1] 36),(b2,.cells #[J 0,I [],aQ,aQ] 36),(b1,.cells #[J k,I t,.slice A (aL ks) c,.slice B (aL xs) e] 36)]++sa) [] (news:=ct) (len':=j+1) (ys:=cs1++ct) O E2 hF hS O O (by rw[hlt]) (λ_=>⟨_,O,Kc<|hF.cellsAll 0 O⟩) (Ig hot) qN (O) (O) Aa ?_;intro A4 c4 i_4 w hS4_i hF hE hnew;have hDX:=hDX.step (ids':=[b8,b4,b2,b1]++(sa.map (·.1)++i_4.map (·.1))) hE qK qK;refine⟨hF.mid 1 3,?_⟩;refine rn 2 ?_;intro w hF hE
  have hDX:=hDX.store hE qK;have hF:FR w0 [] ([(b8,.cells (List.toArray ct) 36),(b4,.cells #[J k,I t,.slice A0 (aL ks) c0,.slice (A4) (j+1) c4] 36),(b2,.cells #[J 0,I [],aQ,aQ] 36),(b1,.cells #[J k,I t,.slice A (aL ks) c,.slice B (aL xs) e] 36)]++(sa++(i_4++[]))) w:=hF;refine rn 5<|Zb Uh ?_;refine rn 2 ?_;refine Ha ⟨_,?_,j+1,A4,c4,i_4,cs1++ct,O,Aa,qW,by rw[L2 Aa];exact hDX.sub qK,Fz,hF.drop 1⟩;omega
 refine rn 6 ?_;intro w hF hE;have hDX:=hDX.store hE qK;have hF:FR w0 [] ([(b4,.cells #[J k,I t,.slice A0 (aL ks) c0,.slice A1 j c1] 36),(b2,.cells #[J k,I t,.slice A0 (aL ks) c0,.slice A1 j c1] 36),(b1,.cells #[J k,I t,.slice A (aL ks) c,.slice B (aL xs) e] 36)]++(sa++(sb++[]))) w:=hF;refine rn 3 ?_;have ej:j=aL xs:=Aa
 subst ej;rw[List.take_length]at hDX;refine⟨_,O,?_,hF.same⟩;have hKX:RX w0 [] w (ks.map Uj) eK:=hrK.lits;exact Rep.tree_mk hk ht (hSa.rep (pre:=[_,_,_]) (post:=sb++[]) hF hKX Da)<|hS.rep (pre:=[_,_,_]++sa) (post:=[]) (aS hF) hDX Da
def cloneR_c(x:Tree):ME x:=Tree.ind QI x
structure LA {α:Type} (f:α->α->Int) (P:α->Prop) (a:α):Prop where
  rng:∀b,f a b = -1\/f a b=0\/f a b=1
  anti:∀b,P b->f b a = - f a b
  eq:∀b,P b->(f a b=0↔a=b)
  tr:∀b c,P b->P c->f a b<=0->f b c<=0->f a c<=0
def WX:∀a:Str,LA Lib.compareBytes (λ_=>True) a:=by
  have rng:∀a b:Str,Lib.compareBytes a b = -1\/Lib.compareBytes a b=0\/Lib.compareBytes a b=1:=by
    intro a
    induction a with
    | nil =>
      intro b;cases b <;> simp[Lib.compareBytes]
    | cons x a ih => intro b;cases b with
      | nil=>simp[Lib.compareBytes]
      | cons y b => unfold Lib.compareBytes;repeat' split
                    ·exact .inl O
                    ·exact .inr<|.inr O
                    exact ih b
  have lt3:∀x y:UInt8,¬x<y->¬y<x->x=y:=λx y h1 h2=>by
    apply UInt8.toNat_inj.1;rw[UInt8.lt_iff_toNat_lt]at h1 h2;omega
  have ltn:∀x y:UInt8,x<y↔x.toNat<y.toNat:=λx y=>UInt8.lt_iff_toNat_lt;intro a;refine⟨rng a,λb _=>?_,λb _=>?_,λb c _ _=>?_⟩
  ·induction a generalizing b with
   | nil=>cases b <;> simp[Lib.compareBytes]
   | cons x a ih => cases b with
     | nil=>simp[Lib.compareBytes]
     | cons y b =>
       unfold Lib.compareBytes;simp only[ltn]
       repeat' split
       all_goals first|omega|exact ih b
  ·induction a generalizing b with
   | nil=>cases b <;> simp[Lib.compareBytes]
   | cons x a ih => cases b with
     | nil=>simp[Lib.compareBytes]
     | cons y b =>
       unfold Lib.compareBytes;split
       ·rename_i h
        simp;intro e;subst e;rw[ltn]at h;omega
       split
       ·rename_i h
        simp;intro e;subst e;rw[ltn]at h;omega
       rename_i h1 h2
       have:=lt3 x y h1 h2;subst this;rw[ih];simp
  induction a generalizing b c with
  | nil=>cases b <;> cases c <;> simp[Lib.compareBytes]
  | cons x a ih => cases b with
    | nil =>
      intro h;simp[Lib.compareBytes]at h
    | cons y b => cases c with
      | nil =>
        intro _ h;simp[Lib.compareBytes]at h
      | cons z c =>
        unfold Lib.compareBytes;simp only[ltn];intro h1 h2
        repeat' split
        ·omega
        ·exfalso
         split at h1
         ·split at h2
          ·omega
          split at h2
          ·omega
          omega
         split at h1
         ·omega
         split at h2
         ·omega
         split at h2
         ·omega
         omega
        split at h1
        ·split at h2
         ·omega
         split at h2
         ·omega
         omega
        split at h1
        ·omega
        split at h2
        ·omega
        split at h2
        ·omega
        exact ih b c h1 h2
theorem MB{x:Num}(h:Ub x=true)(hd:x.digits=[]):x=Num.zero:=by grind [Ub,Li]
theorem XV{ks:List Str}{xs:List Tree}(hn:ks.Nodup):∀{i:Nat}(h:i<aL ks)(h2:i<aL xs),Dh ks xs ks[i]=some xs[i]:=by
  induction ks generalizing xs with
  | nil=>grind
  | cons k ks ih =>
    intro i h h2;cases xs with
    | nil=>cases h2
    | cons x xs=>grind [Dh]
theorem OK{ks ks':List Str}{n:Int}(h:ks.Perm ks'):Wj ks n=Wj ks' n:=by
  unfold Wj;rw[h.length_eq,decide_eq_decide.2 h.nodup_iff]
  congr 2
  grind
theorem F8{q:Tree->Bool}:∀{xs:List Tree},(∀x∈xs,Uc q x=true)->Vp q xs=true
  | [],_=>rfl
  | x::xs,h=>by rw[Vp,h x Da,F8 λy hy=>h y bT];rfl
theorem VE{ks:List Str}{xs:List Tree}(hn:ks.Nodup)(hl:aL ks=aL xs):(E0 ks xs).Perm (Fe xs):=by
  have h1:(E0 ks xs).Perm (ks.map λkey=>(Dh ks (Fe xs) key).getD (.node 0 [] [] [])):=(Vn ks).map _;refine h1.trans ?_;have h2:(ks.map λkey=>(Dh ks (Fe xs) key).getD (.node 0 [] [] []))=Fe xs:=by
    apply List.ext_getElem
    all_goals grind [Xf,XV]
  rw[h2]
def Wz{k:Int}{t:Str}{ks:List Str}{xs:List Tree}:Oe (.node k t ks xs)=if k=6 then .node k t (Je ks) (E0 ks xs) else .node k t [] (Fe xs):=by rw[Oe];rfl
theorem YV(x:Tree):Uc nodeB x=true->Uc nodeB (Oe x)=true:=Tree.ind (Q:=λx=>Uc nodeB x=true->Uc nodeB (Oe x)=true) (λk t ks xs ih hx=>by
  obtain⟨hn,hxs⟩:=Xe hx;have hs:∀y∈Fe xs,Uc nodeB y=true:=by
    intro y hy;rw[Xf]at hy;obtain⟨z,hz,rfl⟩:=nQ.1 hy;exact ih z hz<|hxs z hz
  rw[Wz];split
  ·rename_i h6
   subst h6;obtain⟨nd,len⟩:=Dv hn;have hp:=VE nd len;rw[Uc,vQ];refine⟨?_,F8 λy hy=>hs y<|hp.mem_iff.1 hy⟩;simp only[nodeB]at hn ⊢;rw[uQ trivial]at hn ⊢;rw[OK<|Vn ks,hp.length_eq,Xf,rQ];exact hn
  rename_i h6
  rw[Uc,vQ];refine⟨?_,F8 hs⟩;simp only[nodeB]at hn ⊢;by_cases h5:k=5
  ·rw[uQ h5]at hn ⊢
   simp at hn ⊢;exact hn.2
  rw[tQ h5, tQ h6]at hn ⊢;by_cases hc:ks≠[]\/xs≠[]
  ·rw[uQ hc]at hn;cases hn
  have hk : ks = [] := Classical.byContradiction λh => hc (.inl h);have hx0:xs=[]:=Classical.byContradiction λh=>hc<|.inr h;subst hk hx0;simpa[Fe]using hn) x
theorem I7:∀xs:List Tree,Ra xs=(xs.map La).sum
  | []=>rfl
  | x::xs=>by rw[Ra,I7 xs];rfl
theorem YE{xs ys:List Tree}(h:xs.Perm ys):Ra xs=Ra ys:=by grind [I7]
theorem RD{xs ys:List Tree}(h:xs.Perm ys):Ac xs=Ac ys:=by
  induction h with
  | nil=>rfl
  | cons x _ ih=>grind [Ac]
  | swap x y l=>grind [Ac]
  | trans _ _ h1 h2=>grind
theorem S9(x:Tree):Uc nodeB x=true->La (Oe x)=La x/\Nb (Oe x)=Nb x:=Tree.ind (Q:=λx=>Uc nodeB x=true->La (Oe x)=La x/\Nb (Oe x)=Nb x) (λk t ks xs ih hx=>by
  obtain⟨hn,hxs⟩:=Xe hx;have h1:∀ys:List Tree,(∀y∈ys,y∈xs)->Ra (Fe ys)=Ra ys/\Ac (Fe ys)=Ac ys:=by
    intro ys
    induction ys with
    | nil=>intro _;exact⟨rfl,rfl⟩
    | cons y ys ihy =>
      intro hm;obtain⟨a,b⟩:=ih y (hm y Da)<|hxs y<|hm y Da;obtain⟨c,d⟩:=ihy λz hz=>hm z wP;simp only[Fe,Ra,Ac,a,b,c,d];exact⟨trivial,trivial⟩
  obtain⟨a,b⟩:=h1 xs λ_ h=>h;rw[Wz];split
  ·rename_i h6
   subst h6;obtain⟨nd,len⟩:=Dv hn;have hp:=VE nd len;simp only[La,Nb,YE hp,RD hp,a,b];exact⟨trivial,trivial⟩
  simp only[La, Nb, a, b];exact⟨trivial,trivial⟩) x
theorem CU{x:Tree}(h:De x=true):De (Oe x)=true:=by grind [S9,Am,YV,De,Yj]
theorem Cs{x:Tree}(h:De x=true):Zc x=Oe x:=by grind [Zc]
abbrev n1T:Tree:=.node 3 [49] [] []
abbrev n2T:Tree:=.node 3 [50] [] []
abbrev xT:Tree:=.node 6 [] [[97],[98]] [n1T,n2T]
abbrev yT:Tree:=.node 6 [] [[98],[97]] [n2T,n1T]
section
variable {ρ:Operand->Value}{o:Oper}
variable {P:Program}{w0 w w':World}{ids:List Nat}{ds:List D}
theorem Ud{P:Program}{w w':World}{p:Prop}{_:Decidable p}(h:(execOp ρ o).run P w=.ok (.value (.bool (decide p))) w')(hp:p):(execOp ρ o).run P w=.ok (.value (.bool true)) w':=qK
theorem Cc{P:Program}{w w':World}{p:Prop}{_:Decidable p}(h:(execOp ρ o).run P w=.ok (.value (.bool (decide p))) w')(hp:¬p):(execOp ρ o).run P w=.ok (.value (.bool false)) w':=qK
def RX.tree{k:Int}{t:Str}{ks:List Str}{xs:List Tree}{v u:Value}(hk:-9223372036854775808<=k/\k<=9223372036854775807)(ht:aL t<=9223372036854775807)
    (h3:RX w0 ids w [Ee ks] [v]) (h4:RX w0 ids w [.slice (Hc xs)] [u]):RX w0 ids w [Na (.node k t ks xs)] [J k,I t,v,u]:=.one (Rep.tree_mk hk ht h3.rep h4.rep)
def RX.nils{ids:List Nat}:RX w0 ids w [.slice []] [aQ]:=.one (Rep.nil_slice 0 Aa none)
theorem RX.strs:∀{ks:List Str},(∀k∈ks,aL k<=9223372036854775807)->RX w0 ids w (ks.map Uj) (ks.map λk=>I k)
  | [],_=>RX.nil
  | k::ks,h=>RepL.cons_mk (Rep.lit_mk (v:=I k)<|h k Da)<|RX.strs λx hx=>h x wM
def RX.str(t:Str)(ht:aL t<=9223372036854775807):RX w0 ids w [Na (.node 4 t [] [])] [J 4,I t,aQ,aQ]:=RX.tree ⟨Aa,Aa⟩ ht RX.nils RX.nils
end
end Go.Scarf
