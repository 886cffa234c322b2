/- A part of the proof. -/
import Derived.Test.YthnkjgpjdbdchaaGreatDoorW16
set_option linter.all false
set_option maxHeartbeats 8000000
set_option maxRecDepth 10000
namespace Go.Scarf
open Go.RowKit Go.Proofs Go.Proofs.Tryz
mutual
def eqT:Tree->Tree->Bool
  | .node k t ks xs,.node k' t' ks' ys=>decide (k=k')&&decide (t=t')&&decide (ks=ks')&&UQ xs ys
def UQ:List Tree->List Tree->Bool
  | [],[]=>true
  | x::xs,y::ys=>eqT x y&&UQ xs ys
  | _,_=>false
end
theorem OT:∀{xs ys:List Tree},(∀x∈xs,∀y,eqT x y=true↔x=y)->(UQ xs ys=true↔xs=ys)
  | [],[],_=>by simp[UQ]
  | [],_::_,_=>by simp[UQ]
  | _::_,[],_=>by simp[UQ]
  | x :: xs, y :: ys, h => by
    rw[UQ,Bool.and_eq_true,h x Da y,OT (λz hz=>h z (by simp[hz]))];simp
theorem C2(x:Tree):∀y,eqT x y=true↔x=y:=Tree.ind (Q:=λx=>∀y,eqT x y=true↔x=y) (λk t ks xs ih y=>by
  obtain⟨k',t',ks',ys⟩:=y;rw[eqT,Bool.and_eq_true,Bool.and_eq_true,Bool.and_eq_true,OT ih];simp[and_assoc]) x
theorem Nh(x:Tree):eqT x x=true:=(C2 x x).2 rfl
theorem B6{x y:Tree}(h:x≠y):eqT x y=false:=by rw[Bool.eq_false_iff];exact λe=>h ((C2 x y).1 e)
instance : DecidableEq Tree:=λx y=>if h:eqT x y=true then .isTrue ((C2 x y).1 h) else .isFalse (λe=>h ((C2 x y).2 e))
theorem BF{α:Type}{xs ys:List α}{j:Nat}(h:j<xs.length)(h2:j<ys.length)(ha:xs.take j=ys.take j)(he:xs[j]=ys[j]):xs.take (j+1)=ys.take (j+1):=by
  rw[iQ h,iQ h2,ha,he]
def LP(x:Tree):Prop:=∀y S S' w0 cs ct,Rep S w0 (Ub x) cs->Rep S' w0 (Ub y) ct->Calls prog 12 #[.agg cs.toArray,.agg ct.toArray] w0 (Be λv w'=>v=.bool (eqT x y)/\Same [] w0 w')
mutual
def Hu(left deep:Int):Tree->Int|.node _ _ ks xs=>if 60<deep then -1 else Co (left-1-ks.length) deep xs
def Co(left deep:Int):List Tree->Int|[]=>left|x::xs=>if left<0 then left else Co (Hu left (deep+1) x) deep xs
end
mutual
def Kn:Tree->Bool|.node _ t ks xs=>decide (t.length<=2048)&&ks.all (λk=>decide (k.length<=1024))&&Ys xs
def Ys:List Tree->Bool|[]=>true|x::xs=>Kn x&&Ys xs
end
def LH(x:Tree)(most:Int):Bool:=decide (0<=Hu most 0 x)&&Kn x
theorem DL(deep:Int):∀(xs:List Tree)(left:Int),(∀x∈xs,∀l d:Int,0<=l->Hu l d x<=l)->Co left deep xs<=left
  | [],left,_=>by rw[Co];exact Int.le_refl _
  | x :: xs, left, h => by
    rw[Co];split
    ·exact Int.le_refl _
    have h1 := h x Da left (deep + 1) tX;have h2:=DL deep xs (Hu left (deep+1) x) (λy hy=>h y (by simp[hy]));omega
theorem fewT_le(x:Tree):∀l d:Int,0<=l->Hu l d x<=l:=Tree.ind (Q:=λx=>∀l d:Int,0<=l->Hu l d x<=l) (λk t ks xs ih l d hl=>by
  rw[Hu];split
  ·omega
  have := DL d xs (l-1-ks.length) ih;omega) x
theorem U4{left deep:Int}(h:left<0):∀xs:List Tree,Co left deep xs=left
  | []=>by rw[Co]
  | x::xs=>by rw[Co,if_pos h]
theorem KQ(x:Tree):∀l d:Int,0<=l->0<=d->0<=Hu l d x->Hu l d x=l-Mb x-Bp x/\d+Uc x<=61:=Tree.ind (Q:=λx=>∀l d:Int,0<=l->0<=d->0<=Hu l d x->Hu l d x=l-Mb x-Bp x/\d+Uc x<=61) (λk t ks xs ih l d hl hd h=>by
  rw[Hu]at h ⊢;split at h
  ·omega
  rename_i hd60
  rw[if_neg hd60];have key:∀(ys:List Tree),(∀y∈ys,y∈xs)->∀m:Int,0<=Co m d ys->Co m d ys=m-Kb ys-Oo ys/\d+1+Dd ys<=61:=by
    intro ys
    induction ys with
    | nil=>intro _ m hm;simp only[Co,Kb,Oo,Dd];omega
    | cons y ys ihy =>
      intro hm m h0;rw[Co]at h0 ⊢;split at h0
      ·omega
      rename_i hmm
      rw[if_neg hmm];obtain⟨a1,a2⟩:=ihy (λz hz=>hm z (by simp[hz])) _ h0;have h3:0<=Hu m (d+1) y:=by
        rcases Int.lt_or_le (Hu m (d+1) y) 0 with hlt|hge
        ·rw[U4 hlt]at h0;omega
        exact hge
      obtain⟨b1,b2⟩:=ih y (hm y Da) m (d+1) tX tX h3;simp only[Kb,Oo,Dd];omega
  obtain⟨a1,a2⟩:=key xs (λ_ h=>h) _ h;rw[Mb,Bp,Uc];omega) x
theorem fewB_ok{x:Tree}{most:Int}(hm:0<=most)(h:LH x most=true):(Mb x:Int)+Bp x<=most/\Uc x<=61/\Kn x=true:=by
  unfold LH at h;rw[Bool.and_eq_true,decide_eq_true_eq]at h;obtain⟨a,b⟩:=KQ x most 0 hm tX h.1;exact⟨by omega,by omega,h.2⟩
theorem LQ{left deep:Int}{xs:List Tree}{j:Nat}(h:j<xs.length)(h0:¬left<0):Co left deep (xs.drop j)=Co (Hu left (deep+1) xs[j]) deep (xs.drop (j+1)):=by
  rw[List.drop_eq_getElem_cons h,Co,if_neg h0]
def FewC(x:Tree):Prop:=∀(left deep:Int) S w0 cs,0<=left->left<=1000000->0<=deep->deep<=61->Rep S w0 (Ub x) cs->Calls prog 22 #[.agg cs.toArray,J left,J deep] w0 (Be λv w'=>v=J (Hu left deep x)/\Same [] w0 w')
def OR(x:Tree):Prop:=∀S w0 cs,Rep S w0 (Ub x) cs->Calls prog 23 #[.agg cs.toArray] w0 (Be λv w'=>v=.bool (Kn x)/\Same [] w0 w')
theorem YM{xs:List Tree}{x:Tree}(h:x∈xs)(hs:Kn x=false):Ys xs=false:=by
  induction xs with
  | nil=>cases h
  | cons y ys ih =>
    rw[Ys];rcases oQ.1 h with rfl|h
    ·rw[hs];rfl
    rw[ih h,Bool.and_false]
theorem AK{xs:List Tree}(h:∀j (hj:j<xs.length),Kn xs[j]=true):Ys xs=true:=by
  induction xs with
  | nil=>rfl
  | cons y ys ih =>
    have h0:Kn y=true:=h 0 Da;rw[Ys,h0,Bool.true_and];exact ih (λj hj=>by have:=h (j+1) (by simpa using hj);simpa using this)
theorem QQ(k:Int)(t:Str)(ks:List Str)(xs:List Tree)(ih:∀x,x∈xs->LP x):LP (.node k t ks xs):=by
 rintro⟨k',t',ks',ys⟩ S S' w0 cs ct hR hR';obtain⟨A,c,B,e,rfl,-,-,hK,hX⟩:=hR.tree_inv;obtain⟨A',c',B',e',rfl,-,-,hK',hY⟩:=hR'.tree_inv;have hXl:=hX.slice_len;have hKl:=hK.slice_len;have hYl:=hY.slice_len;have hKl':=hK'.slice_len;refine Ga func12 O ntmps12 Ib (Md _ _) ?_;have hF:=FR.start w0 [];refine Ia (Bf hF O ?_);rintro b1 w hb1 hF -;refine Bf hF O ?_;rintro b2 w hb2 hF -;refine Ca (Jc O) (Ea (Ja (Ia (Ca (Bc Wf O) (Sc (Zq aZ O hF.F 1 O O) (Ca (Bc Wf O) (Sc (Zq aZ O hF.F 0 O O) (Ca (Bw O O) (Ca (Hd O) ?_)))))))));refine Tc (d:=13) O (λhg0=>?_) (λhg0=>?_);refine Ka (Ka (Ka (Ka (Ka (Ca (Kc O O) (Ca (Hd O) (Ka (Ka (Ka (Ka (Ka (Ka (Ka ?_)))))))))))));refine Ca (Kc O O) (Ca (Hd O) (Ka (Ka (Ka (Ka (Ka (Ka (Ka (Ca (Kc O O) (Ea (Se O (Ja ?_))))))))))));refine Fa (Ca (Jc O) (Ea ?_));refine Rd (v:=.bool false) O O ?_;refine⟨congrArg Value.bool (B6 (λhe=>?_)).symm,hF.same⟩;cases he;first|exact absurd rfl (by assumption)|(simp only[Nh]at hc4;cases hc4)
 refine Ca (Bc Fi O) (Sc (Zy fZ O hF.F 1 O O) (Ca (Bc Fi O) (Sc (Zy fZ O hF.F 0 O O) (Ca (yns O O) (Ca (Ld O O) (Ca (Hd O) ?_))))));refine Tc (d:=20) O (λhg1=>?_) (λhg1=>?_);refine Ka (Ka (Ka (Ka (Ka (Ka (Ka (Ca (Kc O O) (Ca (Hd O) (Ka (Ka (Ka (Ka (Ka ?_)))))))))))));refine Ka (Ka (Ca (Kc O O) (Ea (Se O (Ia (Ca (Jc O) (Ea ?_)))))));refine Rd (v:=.bool false) O O ?_;refine⟨congrArg Value.bool (B6 (λhe=>?_)).symm,hF.same⟩;cases he;first|exact absurd rfl (by assumption)|(simp only[Nh]at hc4;cases hc4)
 refine Ca (Bc Ff O) (Sc (Xf wQ O hF.F 1 O O) (Ca (Tf cX O) (Ca (Bc Ff O) (Sc (Xf wQ O hF.F 0 O O) (Ca (Tf cX O) (Ca (Bw O O) (Ca (Ld O O) (Ca (Hd O) ?_))))))));refine Tc (d:=29) O (λhg2=>?_) (λhg2=>?_);refine Ka (Ka (Ka (Ka (Ka (Ka (Ka (Ca (Kc O O) (Ea (Se O (Ia (Ca (Jc O) ?_)))))))))));refine Ea (Rd (v:=.bool false) O O ?_);refine⟨congrArg Value.bool (B6 (λhe=>?_)).symm,hF.same⟩;cases he;first|exact absurd rfl (by assumption)|(simp only[Nh]at hc4;cases hc4)
 refine Ca (Bc Gc O) (Sc (Xf xQ O hF.F 1 O O) (Ca (Tf dX O) (Ca (Bc Gc O) (Sc (Xf xQ O hF.F 0 O O) (Ca (Tf dX O) (Ca (Bw O O) (Ca (Ld O O) (Ea ?_))))))));refine Rc O O (λhc0=>?_) (λhc0=>?_);refine Ia (Ca (Jc O) (Ea ?_));refine Rd (v:=.bool false) O O ?_;refine⟨congrArg Value.bool (B6 (λhe=>?_)).symm,hF.same⟩;cases he;first|exact absurd rfl (by assumption)|(simp only[Nh]at hc4;cases hc4)
 refine Va (Ha (Ja (Ia (Ca (Yc O) (Ea (Za ?_))))));refine Fd (λμ σ w=>∃(j:Nat),μ=ks.length-j/\(j<=ks.length)/\(ks.take j=ks'.take j)/\AllEq σ [(2,V b1),(3,V b2),(5,J ((j:Int)))]/\FR w0 [] [(b2,.cells #[J k',I t',.slice A' ks'.length c',.slice B' ys.length e'] 25),(b1,.cells #[J k,I t,.slice A ks.length c,.slice B xs.length e] 25)] w) _ ⟨0,O,(Nat.zero_le _),Da,GM,hF⟩ ?_;rintro μ σ w ⟨j,rfl,hj,ha,hs,hF⟩;refine Cg.slots hs ?_;clear hs;intro σ;refine Ja (Ia (Ca (Vb O) (Ca (Bc Ff O) (Sc (Xf wQ O hF.F 1 O O) (Ca (Tf cX O) (Ca (Hn O O) (Ea ?_)))))));refine Rc O O (λhc1=>?_) (λhc1=>?_);refine Va (Ha (Ja (Za (Ja ?_))));refine Xg (zs:=.of []) (bQ [0,1,2,3,4,5,6,7,8,9,10] .nil) hF ?_;intro w hF;refine Cb O (Bc Ff O) (Wj O (Xf wQ O C0 1 O O) (Cb O (Vb O) ?_));obtain⟨ad3,hA3,hk3,hx3⟩:=hK.str_elem (i:=j) tX;refine Qa O (v:=.pointer (some (ad3.add (j*1)))) (λw hC=>Ta (i:=(j:Int)) Zm O hA3 O tX tX) (Qa O (v:=I (ks[j])) (λw hC=>Pb fZ O (hC.cell0 hk3)) (Cb O (Bc Ff O) (Wj O (Xf wQ O C0 0 O O) (Cb O (Vb O) ?_))));obtain⟨ad4,hA4,hk4,hx4⟩:=hK'.str_elem (i:=j) tX;refine Qa O (v:=.pointer (some (ad4.add (j*1)))) (λw hC=>Ta (i:=(j:Int)) Zm O hA4 O tX tX) (Qa O (v:=I (ks'[j])) (λw hC=>Pb fZ O (hC.cell0 hk4)) (Cb O (yns O O) (Hc (Ha ?_))));refine Rc O O (λhc2=>?_) (λhc2=>?_);refine Ia (Ca (Jc O) (Ea ?_));refine Rd (v:=.bool false) O O ?_;refine⟨congrArg Value.bool (B6 (λhe=>?_)).symm,hF.same⟩;cases he;first|exact absurd rfl (by assumption)|(simp only[Nh]at hc4;cases hc4)
 refine Va (Fb (Ha (Fa (Ca (Vb O) (Ca (Bo O O) (Ca (Yc O) (Gb ?_)))))));refine Cc ⟨_,?_,j+1,O,tX,(BF tX tX ha (by simpa using hc2)),GM,hF⟩;omega;refine Wc (Vc O ?_);refine Ha (Ja (Ia (Ca (Yc O) (Ea (Za ?_)))));refine Fd (λμ σ w=>∃(i:Nat),μ=xs.length-i/\(i<=xs.length)/\(xs.take i=ys.take i)/\AllEq σ [(2,V b1),(3,V b2),(6,J ((i:Int)))]/\FR w0 [] [(b2,.cells #[J k',I t',.slice A' ks'.length c',.slice B' ys.length e'] 25),(b1,.cells #[J k,I t,.slice A ks.length c,.slice B xs.length e] 25)] w) _ ⟨0,O,(Nat.zero_le _),Da,GM,hF⟩ ?_;rintro μ σ w ⟨i,rfl,hi,hb,hs,hF⟩;refine Cg.slots hs ?_;clear hs;intro σ;have hke:ks=ks':=by rw[List.take_of_length_le tX,List.take_of_length_le tX]at ha;exact ha
 refine Ja (Ia (Ca (Vb O) (Ca (Bc Gc O) (Sc (Xf xQ O hF.F 1 O O) (Ca (Tf dX O) (Ca (Hn O O) (Ea ?_)))))));refine Rc O O (λhc3=>?_) (λhc3=>?_);refine Va (Ha (Ja (Za (Ja ?_))));refine Xg (zs:=.of []) (bQ [0,1,2,3,4,5,6,7,8,9] (.act 10 (.free 11 .nil))) hF ?_;intro w hF;refine Cb O (Bc Gc O) (Wj O (Xf xQ O C0 1 O O) (Cb O (Vb O) ?_));obtain⟨ad5,cs5,hA5,hl5,hk5,hx5⟩:=hX.tree_elem (i:=i) tX;have ho5:=hx5.one_;refine Qa O (v:=.pointer (some (ad5.add (i*4)))) (λw hC=>Ta (i:=(i:Int)) Ae O hA5 O tX tX) (Qa O (v:=.agg (List.toArray cs5)) (λw hC=>Ya (l:=cs5) zQ oZ O hl5 (hC.cells0 hk5)) (Cb O (Bc Gc O) (Wj O (Xf xQ O C0 0 O O) (Cb O (Vb O) ?_))));obtain⟨ad6,cs6,hA6,hl6,hk6,hx6⟩:=hY.tree_elem (i:=i) tX;have ho6:=hx6.one_;refine Qa O (v:=.pointer (some (ad6.add (i*4)))) (λw hC=>Ta (i:=(i:Int)) Ae O hA6 O tX tX) (Qa O (v:=.agg (List.toArray cs6)) (λw hC=>Ya (l:=cs6) zQ oZ O hl6 (hC.cells0 hk6)) ?_);refine Sj hF (ih _ (List.getElem_mem (l:=xs) (n:=i) tX) ys[i] _ _ _ _ _ (hF.rep hx5) (hF.rep hx6)) O (Xa Px O O O) ?_;intro w hF;refine⟨hF,?_⟩;refine Cb O (Jc O) (Hc (Ha (Ia (Ca (Hd O) (Ca (Fk O) (Ea ?_))))));refine Jg O O (λhc4=>?_) (λhc4=>?_);refine Ia (Ca (Jc O) (Ea ?_));refine Rd (v:=.bool false) O O ?_;refine⟨congrArg Value.bool (B6 (λhe=>?_)).symm,hF.same⟩;cases he;first|exact absurd rfl (by assumption)|(simp only[Nh]at hc4;cases hc4)
 refine Va (Fb (Ha (Fa (Ca (Vb O) (Ca (Bo O O) (Ca (Yc O) (Gb ?_)))))));refine Cc ⟨_,?_,i+1,O,tX,(BF tX tX hb ((C2 _ _).1 (by simpa using hc4))),GM,hF⟩;omega;refine Wc (Vc O ?_);refine Ha (Ia (Ca (Jc O) (Ea ?_)));refine Rd (v:=.bool true) O O ?_;have e3:xs=ys:=(by have h1:=hb;rw[List.take_of_length_le tX]at h1;rw[List.take_of_length_le tX]at h1;exact h1);have e1:k=k':=Classical.not_not.1 hg0;have e2:t=t':=Classical.not_not.1 hg1;subst hke e3 e1 e2;exact⟨congrArg Value.bool (Nh _).symm,hF.same⟩
theorem Xp(x:Tree):LP x:=Tree.ind QQ x
theorem TX(k:Int)(t:Str)(ks:List Str)(xs:List Tree)(ih:∀x,x∈xs->FewC x):FewC (.node k t ks xs):=by
 intro left deep S w0 cs h0 h1 h2 h3 hR;obtain⟨A,c,B,e,rfl,-,-,hK,hX⟩:=hR.tree_inv;have hXl:=hX.slice_len;have hKl:=hK.slice_len;refine Ga func22 O ntmps22 Ib (Qm _ _ _) ?_;have hF:=FR.start w0 [];refine Ia (Bf hF O ?_);rintro b1 w hb1 hF -;refine Ca (Yc O) (Ea (Ja (Ia (Ca (Vb O) (Ca (W6 O O) (Ea ?_))))));refine Rc O O (λhc0=>?_) (λhc0=>?_);refine Ia (Ca (Yc O) (Ea ?_));refine Rd (v:=J ((-1))) O O ?_;exact⟨congrArg (Value.int .i64) (by rw[Hu,if_pos tX]),hF.same⟩;refine Va (Ha (Ia (Ca (Vb O) (Ca (Ez O O) (Ca (Bc Ff O) (Sc (Xf wQ O hF.F 0 O O) (Ca (Tf cX O) (Ca (Ez O O) (Ca (Yc O) (Ea (Ja ?_)))))))))));refine Ia (Ca (Yc O) (Ea (Za ?_)));refine Fd (λμ σ w=>∃(j:Nat),∃(lf:Int),μ=xs.length-j/\(j<=xs.length)/\(lf<=1000000)/\(Co (left-1-ks.length) deep xs=Co lf deep (xs.drop j))/\AllEq σ [(1,J lf),(2,J deep),(3,V b1),(7,J ((j:Int)))]/\FR w0 [] [(b1,.cells #[J k,I t,.slice A ks.length c,.slice B xs.length e] 25)] w) _ ⟨0,(left-1-ks.length),O,(Nat.zero_le _),tX,Da,Uu,hF⟩ ?_;rintro μ σ w ⟨j,lf,rfl,hj,hlf,hf,hs,hF⟩;refine Cg.slots hs ?_;clear hs;intro σ;refine Ja (Ia (Ca (Vb O) (Ca (Bc Gc O) (Sc (Xf xQ O hF.F 0 O O) (Ca (Tf dX O) (Ca (Hn O O) (Ca (Hd O) ?_)))))));refine Tc (d:=21) O (λhg0=>?_) (λhg0=>?_);refine Ca (Vb O) (Ca (KN O O) (Ca (Kc O O) (Ea ?_)));refine Rc O O (λhc1=>?_) (λhc1=>?_);refine Va (Ha (Ja (Za (Fa (Ca (Bc Gc O) (Sc (Xf xQ O hF.F 0 O O) (Ca (Vb O) ?_)))))));obtain⟨ad1,cs1,hA1,hl1,hk1,hx1⟩:=hX.tree_elem (i:=j) tX;have ho1:=hx1.one_;refine Ma (v:=.pointer (some (ad1.add (j*4)))) (Ta (i:=(j:Int)) Ae O hA1 O tX tX) (Ma (v:=.agg (List.toArray cs1)) (Ya (l:=cs1) zQ oZ O hl1 (hF.cells0 hk1)) (Ca (Vb O) (Ca (Vb O) (Ca (Bo O O) ?_))));refine Hb hF (ih _ (List.getElem_mem (l:=xs) (n:=j) tX) lf (deep+1) _ _ _ tX tX tX tX (hF.rep hx1)) (Oc en_22 O O O O) ?_
 intro w hF;refine Ca (Yc O) (Gb (Fb (Ha (Fa (Ca (Vb O) (Ca (Bo O O) (Ca (Yc O) (Gb ?_))))))));refine Cc ⟨_,?_,j+1,Hu lf (deep+1) xs[j],O,tX,(by have:=fewT_le xs[j] lf (deep+1) tX;omega),(hf.trans (LQ tX tX)),Uu,hF⟩;omega;refine Wc (Vc O ?_);refine Ha (Ia (Ca (Vb O) (Ca (Yc O) (Ea ?_))));refine Rd (v:=J lf) O O ⟨congrArg (Value.int .i64) ?_,hF.same⟩;rw[Hu,if_neg tX,hf]
 ·first|(rw[List.drop_eq_nil_of_le tX,Co];done)|(rw[U4 tX])
 refine Ka (Ka (Ca (Ld O O) (Ea (Bg O ?_))));refine Wc (Vc O ?_);refine Ha (Ia (Ca (Vb O) (Ca (Yc O) (Ea ?_))));refine Rd (v:=J lf) O O ⟨congrArg (Value.int .i64) ?_,hF.same⟩;rw[Hu,if_neg tX,hf]
 ·first|(rw[List.drop_eq_nil_of_le tX,Co];done)|(rw[U4 tX])
theorem few_c(x:Tree):FewC x:=Tree.ind TX x
theorem PR(k:Int)(t:Str)(ks:List Str)(xs:List Tree)(ih:∀x,x∈xs->OR x):OR (.node k t ks xs):=by
  intro S w0 cs hR;obtain⟨A,c,B,e,rfl,-,-,hK,hX⟩:=hR.tree_inv;have hXl:=hX.slice_len;have hKl:=hK.slice_len;refine Ga func23 O ntmps23 Ib (Id _) ?_;have hF:=FR.start w0 [];refine Ja (Fa ?_);refine Bf hF O ?_;intro b1 w hb1 hF hE;refine Ca (Jc O) (Gb ?_);refine Ha (Ja ?_);refine Ja (Fa ?_);refine Ca (Bc Fi O) (Sc (Zy fZ O hF.F 0 O O) ?_);refine Ca (UM kX O) (Ca (W6 O O) ?_);refine Gb (Ha ?_);refine Rc O O (λhc0=>?_) (λhc0=>?_)
  ·
   refine Ja (Fa ?_);refine Ca (Jc O) (Gb ?_);refine Ha (Rd (v:=.bool false) O O ?_);exact⟨congrArg Value.bool (by rw[Kn,decide_eq_false tX];rfl),hF.same⟩
  refine Va (Ha ?_);refine Ja (Ja ?_);refine Fa (Ca (Yc O) ?_);refine Gb (Ha ?_);refine Za (Fd (λμ σ w=>∃(j:Nat),μ=ks.length-j/\(j<=ks.length)/\(∀i (hi:i<j) (hk:i<ks.length),ks[i].length<=1024)/\AllEq σ [(1,V b1),(3,J ((j:Int)))]/\FR w0 [] [(b1,.cells #[J k,I t,.slice A ks.length c,.slice B xs.length e] 25)] w) _ ⟨0,O,(Nat.zero_le _),(λi hi=>absurd hi tX),GE,hF⟩ ?_);rintro μ σ w ⟨j,rfl,hj,ha,hs,hF⟩;refine Cg.slots hs ?_;clear hs;intro σ;refine Ja (Ja ?_);refine Fa (Ca (Vb O) ?_);refine Ca (Bc Ff O) (Sc (Xf wQ O hF.F 0 O O) ?_);refine Ca (Tf cX O) (Ca (Hn O O) ?_);refine Gb (Ha ?_);refine Rc O O (λhc1=>?_) (λhc1=>?_)
  ·
   refine Va (Ha ?_);refine Ja (Za ?_);refine Ja (Fa ?_);refine Ca (Bc Ff O) (Sc (Xf wQ O hF.F 0 O O) ?_);refine Ca (Vb O) ?_;obtain⟨ad0,hA0,hk0,hx0⟩:=hK.str_elem (i:=j) tX;refine Ma (v:=.pointer (some (ad0.add (j*1)))) (Ta (i:=(j:Int)) Zm O hA0 O tX tX) (Ma (v:=I (ks[j])) (Pb fZ O (hF.cell0 hk0)) ?_);refine Ca (UM kX O) (Ca (W6 O O) ?_);refine Gb (Ha ?_);refine Rc O O (λhc2=>?_) (λhc2=>?_)
   ·
    refine Ja (Fa ?_);refine Ca (Jc O) (Gb ?_);refine Ha (Rd (v:=.bool false) O O ?_);have hno:ks.all (λk=>decide (k.length<=1024))=false:=by
      rw[Bool.eq_false_iff];intro hall;have:=List.all_eq_true.1 hall ks[j] (eQ _);simp only[decide_eq_true_eq]at this;omega
    exact⟨congrArg Value.bool (by rw[Kn,hno,Bool.and_false];rfl),hF.same⟩
   refine Va (Fb ?_);refine Ha (Fa ?_);refine Ca (Vb O) (Ca (Bo O O) ?_);refine Ca (Yc O) (Gb ?_);refine Cc ⟨_,?_,j+1,rfl,tX,(λi hi hk=>by rcases Nat.lt_or_ge i j with h|h;exact ha i h hk;obtain rfl:i=j:=tX;omega),GE,hF⟩;omega
  refine Wc (Vc O ?_);refine Ha (Ja ?_);refine Ja (Fa ?_);refine Ca (Yc O) (Gb ?_);refine Ha (Za ?_);refine Fd (λμ σ w=>∃(i:Nat),μ=xs.length-i/\(i<=xs.length)/\(∀m (hm:m<i) (hk:m<xs.length),Kn xs[m]=true)/\AllEq σ [(1,V b1),(4,J ((i:Int)))]/\FR w0 [] [(b1,.cells #[J k,I t,.slice A ks.length c,.slice B xs.length e] 25)] w) _ ⟨0,O,(Nat.zero_le _),(λi hi=>absurd hi tX),GE,hF⟩ ?_;rintro μ σ w ⟨i,rfl,hi,hb,hs,hF⟩;refine Cg.slots hs ?_;clear hs;intro σ;refine Ja (Ja ?_);refine Fa (Ca (Vb O) ?_);refine Ca (Bc Gc O) (Sc (Xf xQ O hF.F 0 O O) ?_);refine Ca (Tf dX O) (Ca (Hn O O) ?_);refine Gb (Ha ?_);refine Rc O O (λhc3=>?_) (λhc3=>?_)
  ·
   refine Va (Ha ?_);refine Ja (Za ?_);refine Ja (Fa ?_);refine Ca (Bc Gc O) (Sc (Xf xQ O hF.F 0 O O) ?_);refine Ca (Vb O) ?_;obtain⟨ad1,cs1,hA1,hl1,hk1,hx1⟩:=hX.tree_elem (i:=i) tX;have ho1:=hx1.one_;refine Ma (v:=.pointer (some (ad1.add (i*4)))) (Ta (i:=(i:Int)) Ae O hA1 O tX tX) (Ma (v:=.agg (List.toArray cs1)) (Ya (l:=cs1) zQ oZ O hl1 (hF.cells0 hk1)) ?_);refine Hb hF (ih _ (List.getElem_mem (l:=xs) (n:=i) tX) _ _ _ (hF.rep hx1)) (Ra en_23 O O) ?_;intro w hF;refine Ca (Jc O) (Gb ?_);refine Ha (Ja ?_);refine Fa (Ca (Hd O) ?_);refine Ca (Fk O) (Gb ?_);refine Ha (Jg O O (λhc4=>?_) (λhc4=>?_))
   ·
    refine Ja (Fa ?_);refine Ca (Jc O) (Gb ?_);refine Ha (Rd (v:=.bool false) O O ?_);exact⟨congrArg Value.bool (by rw[Kn,YM (List.getElem_mem (l:=xs) (n:=i) tX) (by simpa using hc4),Bool.and_false]),hF.same⟩
   refine Va (Fb ?_);refine Ha (Fa ?_);refine Ca (Vb O) (Ca (Bo O O) ?_);refine Ca (Yc O) (Gb ?_);refine Cc ⟨_,?_,i+1,rfl,tX,(λm hm hk=>by rcases Nat.lt_or_ge m i with h|h;exact hb m h hk;obtain rfl:m=i:=tX;simpa using hc4),GE,hF⟩;omega
  refine Wc (Vc O ?_);refine Ha (Ja ?_);refine Fa (Ca (Jc O) ?_);refine Gb (Ha ?_);refine Rd (v:=.bool true) O O ?_;have h1:ks.all (λk=>decide (k.length<=1024))=true:=by
    rw[List.all_eq_true];intro k hk;obtain⟨q,hq,rfl⟩:=List.getElem_of_mem hk;simp only[decide_eq_true_eq];exact ha q tX hq
  exact⟨congrArg Value.bool (by rw[Kn,h1,decide_eq_true tX,AK (λm hm=>hb m tX hm)];rfl),hF.same⟩
theorem short_c(x:Tree):OR x:=Tree.ind PR x
theorem few_v(x:Tree)(most:Int)(h0:0<=most)(h1:most<=1000000)(S:Nat->Prop)(w0:World)(cs:List Value)(hR:Rep S w0 (Ub x) cs):Calls prog 8 #[.agg cs.toArray,J most] w0 (Be λv w'=>v=.bool (LH x most)/\Same [] w0 w'):=by
 have hl:cs.length=4:=hR.length.trans (Xc x);have ho:=hR.one_;refine Ga func8 O ntmps8 Ib (Md _ _) ?_;have hF:=FR.start w0 [];refine Ia (Js (v:=.agg (List.toArray cs)) (cs:=(List.toArray cs)) hF O O ?_);rintro b1 w hb1 hF -;refine Ca (Jc O) (Lc (Ma (v:=.agg (List.toArray cs)) (Ya (l:=cs) zQ oZ O hl (hF.cellsAll 0 O)) (Ca (Vb O) ?_)));refine Hb hF (few_c x most 0 S _ cs h0 h1 tX tX (hF.rep hR)) (Oc en_22 O O O O) ?_;intro w hF;refine Ca (Yc O) (Lc (Ca (Vb O) (Ca (KN O O) (Ca (Hd O) ?_))));refine Tc (d:=11) O (λhg0=>?_) (λhg0=>?_);refine Ma (v:=.agg (List.toArray cs)) (Ya (l:=cs) zQ oZ O hl (hF.cellsAll 0 O)) (Hb hF (short_c x S _ cs (hF.rep hR)) (Ra en_23 O O) ?_);intro w hF;refine Ca (Kc O O) (Ca (Jc O) (Ea ?_));refine Rd (v:=.bool _) O O ⟨congrArg Value.bool ?_,hF.same⟩;unfold LH
 first|(rw[decide_eq_true hg0];rfl)|(rw[decide_eq_false hg0];rfl)
 refine Ka (Ka (Ca (Ld O O) (Ca (Jc O) (Ea ?_))));refine Rd (v:=.bool false) O O ⟨congrArg Value.bool ?_,hF.same⟩;unfold LH
 first|(rw[decide_eq_true hg0];rfl)|(rw[decide_eq_false hg0];rfl)
theorem LK(A:Option Addr)(n c:Nat)(w0:World):Calls prog 21 #[.slice A n c] w0 (Be λv w'=>v=.agg #[J 5,I [],aQ,.slice A n c]/\Same [] w0 w'):=by
 refine Ga func21 O ntmps21 Ib (Id _) ?_;have hF:=FR.start w0 [];refine Ia (Td (cs:=#[J 0,I [],aQ,aQ]) hF mX O ?_);rintro b1 w hb1 hF -;refine Lc (Ca (Je O) ?_);refine Ma (w':=w) (v:=.agg #[J 5,I [],aQ,.slice A n c]) Ob (Pf hF oZ O O Yh ?_);rintro w hF -;refine Ea (Ec (Dc (Ua (Ug O (l:=[J 5,I [],aQ,.slice A n c]) O zQ oZ O (hF.cellsAll 0 O)) ?_)));exact⟨O,hF.same⟩
theorem QA(A:Option Addr)(n c:Nat)(B:Option Addr)(m d:Nat)(w0:World):Calls prog 20 #[.slice A n c,.slice B m d] w0 (Be λv w'=>v=.agg #[J 6,I [],.slice A n c,.slice B m d]/\Same [] w0 w'):=by
 refine Ga func20 O ntmps20 Ib (Md _ _) ?_;have hF:=FR.start w0 [];refine Ia (Td (cs:=#[J 0,I [],aQ,aQ]) hF mX O ?_);rintro b1 w hb1 hF -;refine Lc (Ca (Je O) (Ca (Je O) ?_));refine Ma (w':=w) (v:=.agg #[J 6,I [],.slice A n c,.slice B m d]) Ob (Pf hF oZ O O Yh ?_);rintro w hF -;refine Ea (Ec (Dc (Ua (Ug O (l:=[J 6,I [],.slice A n c,.slice B m d]) O zQ oZ O (hF.cellsAll 0 O)) ?_)));exact⟨O,hF.same⟩
section
variable {P:Program}{w0 w w':World}{ids:List Nat}{ds:List D}
theorem Ve{P:Program}{ρ:Operand->Value}{o:Oper}{w w':World}{p:Prop}{_:Decidable p}(h:(execOp ρ o).run P w=.ok (.value (.bool (decide p))) w')(hp:p):(execOp ρ o).run P w=.ok (.value (.bool true)) w':=by rw[h,decide_eq_true hp]
theorem Gg{P:Program}{ρ:Operand->Value}{o:Oper}{w w':World}{p:Prop}{_:Decidable p}(h:(execOp ρ o).run P w=.ok (.value (.bool (decide p))) w')(hp:¬p):(execOp ρ o).run P w=.ok (.value (.bool false)) w':=by rw[h,decide_eq_false hp]
theorem FR.rowX{bs:List (Nat × Obj)}(hF:FR w0 [] bs w)(i:Nat){b n:Nat}{l:List Value}{T:TypeId}(hi:bs[i]? = some (b,.cells l.toArray T))(hr:RX w0 ids w ds l)(hb:b∉ids)(hn:ds.length=n)(hm:n<=9223372036854775807) :
    RX w0 ids w [.slice ds] [W b n n]:=by
  refine .one (Rep.slice_mk hn.symm (gQ _) hm λ_=>⟨_,O,l,λj hj=>⟨?_,?_⟩,hr⟩)
  ·exact hF.cellsAll i hi j hj
  exact⟨hF.ge hi,hF.lt hi,hb,l.toArray,T,hF.heap hi⟩
theorem RX.tree{k:Int}{t:Str}{ks:List Str}{xs:List Tree}{v u:Value}(hk:-9223372036854775808<=k/\k<=9223372036854775807)(ht:t.length<=9223372036854775807)
    (h3:RX w0 ids w [Ud ks] [v]) (h4:RX w0 ids w [.slice (Gd xs)] [u]):RX w0 ids w [Ub (.node k t ks xs)] [J k,I t,v,u]:=.one (Rep.tree_mk hk ht h3.rep h4.rep)
theorem RX.nils{ids:List Nat}:RX w0 ids w [.slice []] [aQ]:=.one (Rep.nil_slice 0 tX none)
theorem RX.strs:∀{ks:List Str},(∀k∈ks,k.length<=9223372036854775807)->RX w0 ids w (ks.map Zo) (ks.map λk=>I k)
  | [],_=>RX.nil
  | k::ks,h=>RepL.cons_mk (Rep.lit_mk (v:=I k) (h k Da)) (RX.strs (λx hx=>h x (by simp[hx])))
theorem RX.num(t:Str)(ht:t.length<=9223372036854775807):RX w0 ids w [Ub (.node 3 t [] [])] [J 3,I t,aQ,aQ]:=RX.tree ⟨by omega,by omega⟩ ht RX.nils RX.nils
theorem RX.str(t:Str)(ht:t.length<=9223372036854775807):RX w0 ids w [Ub (.node 4 t [] [])] [J 4,I t,aQ,aQ]:=RX.tree ⟨by omega,by omega⟩ ht RX.nils RX.nils
end
end Go.Scarf
