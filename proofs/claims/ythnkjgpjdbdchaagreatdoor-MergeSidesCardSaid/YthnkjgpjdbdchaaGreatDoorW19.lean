/- A part of the proof. -/
import Derived.Test.YthnkjgpjdbdchaaGreatDoorW16
set_option linter.all false
set_option maxHeartbeats 8000000
set_option maxRecDepth 10000
namespace Go.Scarf
open Go.RowKit Go.Proofs Go.Proofs.Tryz
mutual
def eqT:Tree->Tree->Bool
  | .node k t ks xs,.node k' t' ks' ys=>decide (k=k')&&decide (t=t')&&decide (ks=ks')&&DO xs ys
def DO:List Tree->List Tree->Bool
  | [],[]=>true
  | x::xs,y::ys=>eqT x y&&DO xs ys
  | _,_=>false
end
theorem YQ:∀{xs ys:List Tree},(∀x∈xs,∀y,eqT x y=true↔x=y)->(DO xs ys=true↔xs=ys)
  | [],[],_=>by simp[DO]
  | [],_::_,_=>by simp[DO]
  | _::_,[],_=>by simp[DO]
  | x :: xs, y :: ys, h => by
    rw[DO,Bool.and_eq_true,h x Da y,YQ (λz hz=>h z (by simp[hz]))];simp
theorem M1(x:Tree):∀y,eqT x y=true↔x=y:=Tree.ind (Q:=λx=>∀y,eqT x y=true↔x=y) (λk t ks xs ih y=>by
  obtain⟨k',t',ks',ys⟩:=y;rw[eqT,Bool.and_eq_true,Bool.and_eq_true,Bool.and_eq_true,YQ ih];simp[and_assoc]) x
theorem Hg(x:Tree):eqT x x=true:=(M1 x x).2 rfl
theorem E5{x y:Tree}(h:x≠y):eqT x y=false:=by rw[Bool.eq_false_iff];exact λe=>h ((M1 x y).1 e)
instance : DecidableEq Tree:=λx y=>if h:eqT x y=true then .isTrue ((M1 x y).1 h) else .isFalse (λe=>h ((M1 x y).2 e))
theorem PB{α:Type}{xs ys:List α}{j:Nat}(h:j<xs.length)(h2:j<ys.length)(ha:xs.take j=ys.take j)(he:xs[j]=ys[j]):xs.take (j+1)=ys.take (j+1):=by
  rw[iQ h,iQ h2,ha,he]
def PO(x:Tree):Prop:=∀y S S' w0 cs ct,Rep S w0 (Wb x) cs->Rep S' w0 (Wb y) ct->Calls prog 12 #[.agg cs.toArray,.agg ct.toArray] w0 (Wd λv w'=>v=.bool (eqT x y)/\Same [] w0 w')
mutual
def St(left deep:Int):Tree->Int|.node _ _ ks xs=>if 60<deep then -1 else Eo (left-1-ks.length) deep xs
def Eo(left deep:Int):List Tree->Int|[]=>left|x::xs=>if left<0 then left else Eo (St left (deep+1) x) deep xs
end
mutual
def Gn:Tree->Bool|.node _ t ks xs=>decide (t.length<=2048)&&ks.all (λk=>decide (k.length<=1024))&&Ls xs
def Ls:List Tree->Bool|[]=>true|x::xs=>Gn x&&Ls xs
end
def YJ(x:Tree)(most:Int):Bool:=decide (0<=St most 0 x)&&Gn x
theorem PK(deep:Int):∀(xs:List Tree)(left:Int),(∀x∈xs,∀l d:Int,0<=l->St l d x<=l)->Eo left deep xs<=left
  | [],left,_=>by rw[Eo];exact Int.le_refl _
  | x :: xs, left, h => by
    rw[Eo];split
    ·exact Int.le_refl _
    have h1 := h x Da left (deep + 1) sX;have h2:=PK deep xs (St left (deep+1) x) (λy hy=>h y (by simp[hy]));omega
theorem fewT_le(x:Tree):∀l d:Int,0<=l->St l d x<=l:=Tree.ind (Q:=λx=>∀l d:Int,0<=l->St l d x<=l) (λk t ks xs ih l d hl=>by
  rw[St];split
  ·omega
  have := PK d xs (l-1-ks.length) ih;omega) x
theorem R4{left deep:Int}(h:left<0):∀xs:List Tree,Eo left deep xs=left
  | []=>by rw[Eo]
  | x::xs=>by rw[Eo,if_pos h]
theorem GN(x:Tree):∀l d:Int,0<=l->0<=d->0<=St l d x->St l d x=l-Rb x-Vo x/\d+Ed x<=61:=Tree.ind (Q:=λx=>∀l d:Int,0<=l->0<=d->0<=St l d x->St l d x=l-Rb x-Vo x/\d+Ed x<=61) (λk t ks xs ih l d hl hd h=>by
  rw[St]at h ⊢;split at h
  ·omega
  rename_i hd60
  rw[if_neg hd60];have key:∀(ys:List Tree),(∀y∈ys,y∈xs)->∀m:Int,0<=Eo m d ys->Eo m d ys=m-Pb ys-Qo ys/\d+1+Fd ys<=61:=by
    intro ys
    induction ys with
    | nil=>intro _ m hm;simp only[Eo,Pb,Qo,Fd];omega
    | cons y ys ihy =>
      intro hm m h0;rw[Eo]at h0 ⊢;split at h0
      ·omega
      rename_i hmm
      rw[if_neg hmm];obtain⟨a1,a2⟩:=ihy (λz hz=>hm z (by simp[hz])) _ h0;have h3:0<=St m (d+1) y:=by
        rcases Int.lt_or_le (St m (d+1) y) 0 with hlt|hge
        ·rw[R4 hlt]at h0;omega
        exact hge
      obtain⟨b1,b2⟩:=ih y (hm y Da) m (d+1) sX sX h3;simp only[Pb,Qo,Fd];omega
  obtain⟨a1,a2⟩:=key xs (λ_ h=>h) _ h;rw[Rb,Vo,Ed];omega) x
theorem fewB_ok{x:Tree}{most:Int}(hm:0<=most)(h:YJ x most=true):(Rb x:Int)+Vo x<=most/\Ed x<=61/\Gn x=true:=by
  unfold YJ at h;rw[Bool.and_eq_true,decide_eq_true_eq]at h;obtain⟨a,b⟩:=GN x most 0 hm sX h.1;exact⟨by omega,by omega,h.2⟩
theorem NM{left deep:Int}{xs:List Tree}{j:Nat}(h:j<xs.length)(h0:¬left<0):Eo left deep (xs.drop j)=Eo (St left (deep+1) xs[j]) deep (xs.drop (j+1)):=by
  rw[List.drop_eq_getElem_cons h,Eo,if_neg h0]
def FewC(x:Tree):Prop:=∀(left deep:Int) S w0 cs,0<=left->left<=1000000->0<=deep->deep<=61->Rep S w0 (Wb x) cs->Calls prog 22 #[.agg cs.toArray,J left,J deep] w0 (Wd λv w'=>v=J (St left deep x)/\Same [] w0 w')
def UO(x:Tree):Prop:=∀S w0 cs,Rep S w0 (Wb x) cs->Calls prog 23 #[.agg cs.toArray] w0 (Wd λv w'=>v=.bool (Gn x)/\Same [] w0 w')
theorem DH{xs:List Tree}{x:Tree}(h:x∈xs)(hs:Gn x=false):Ls xs=false:=by
  induction xs with
  | nil=>cases h
  | cons y ys ih =>
    rw[Ls];rcases oQ.1 h with rfl|h
    ·rw[hs];rfl
    rw[ih h,Bool.and_false]
theorem NK{xs:List Tree}(h:∀j (hj:j<xs.length),Gn xs[j]=true):Ls xs=true:=by
  induction xs with
  | nil=>rfl
  | cons y ys ih =>
    have h0:Gn y=true:=h 0 Da;rw[Ls,h0,Bool.true_and];exact ih (λj hj=>by have:=h (j+1) (by simpa using hj);simpa using this)
theorem OL(k:Int)(t:Str)(ks:List Str)(xs:List Tree)(ih:∀x,x∈xs->PO x):PO (.node k t ks xs):=by
 rintro⟨k',t',ks',ys⟩ S S' w0 cs ct hR hR';obtain⟨A,c,B,e,rfl,-,-,hK,hX⟩:=hR.tree_inv;obtain⟨A',c',B',e',rfl,-,-,hK',hY⟩:=hR'.tree_inv;have hXl:=hX.slice_len;have hKl:=hK.slice_len;have hYl:=hY.slice_len;have hKl':=hK'.slice_len;refine Fa func12 O ntmps12 Ib (Hd _ _) ?_;have hF:=FR.start w0 [];refine Ha (Df hF O ?_);rintro b1 w hb1 hF -;refine Df hF O ?_;rintro b2 w hb2 hF -;refine Ca (Ic O) (Ea (Ja (Ha (Ca (Zb Mg O) (Rc (Wr aZ O hF.F 1 O O) (Ca (Zb Mg O) (Rc (Wr aZ O hF.F 0 O O) (Ca (Dz O O) (Ca (Fe O) ?_)))))))));refine Jd (d:=13) O (λhg0=>?_) (λhg0=>?_);refine Qa (Qa (Qa (Qa (Qa (Ca (Dd O O) (Ca (Fe O) (Qa (Qa (Qa (Qa (Qa (Qa (Qa ?_)))))))))))));refine Ca (Dd O O) (Ca (Fe O) (Qa (Qa (Qa (Qa (Qa (Qa (Qa (Ca (Dd O O) (Ea (Le O (Ja ?_))))))))))));refine Ga (Ca (Ic O) (Ea ?_));refine Pd (v:=.bool false) O O ?_;refine⟨congrArg Value.bool (E5 (λhe=>?_)).symm,hF.same⟩;cases he;first|exact absurd rfl (by assumption)|(simp only[Hg]at hc4;cases hc4)
 refine Ca (Zb Xh O) (Rc (Iy fZ O hF.F 1 O O) (Ca (Zb Xh O) (Rc (Iy fZ O hF.F 0 O O) (Ca (yns O O) (Ca (Ae O O) (Ca (Fe O) ?_))))));refine Jd (d:=20) O (λhg1=>?_) (λhg1=>?_);refine Qa (Qa (Qa (Qa (Qa (Qa (Qa (Ca (Dd O O) (Ca (Fe O) (Qa (Qa (Qa (Qa (Qa ?_)))))))))))));refine Qa (Qa (Ca (Dd O O) (Ea (Le O (Ha (Ca (Ic O) (Ea ?_)))))));refine Pd (v:=.bool false) O O ?_;refine⟨congrArg Value.bool (E5 (λhe=>?_)).symm,hF.same⟩;cases he;first|exact absurd rfl (by assumption)|(simp only[Hg]at hc4;cases hc4)
 refine Ca (Zb Af O) (Rc (Tf wQ O hF.F 1 O O) (Ca (Mf bX O) (Ca (Zb Af O) (Rc (Tf wQ O hF.F 0 O O) (Ca (Mf bX O) (Ca (Dz O O) (Ca (Ae O O) (Ca (Fe O) ?_))))))));refine Jd (d:=29) O (λhg2=>?_) (λhg2=>?_);refine Qa (Qa (Qa (Qa (Qa (Qa (Qa (Ca (Dd O O) (Ea (Le O (Ha (Ca (Ic O) ?_)))))))))));refine Ea (Pd (v:=.bool false) O O ?_);refine⟨congrArg Value.bool (E5 (λhe=>?_)).symm,hF.same⟩;cases he;first|exact absurd rfl (by assumption)|(simp only[Hg]at hc4;cases hc4)
 refine Ca (Zb Gc O) (Rc (Tf xQ O hF.F 1 O O) (Ca (Mf cX O) (Ca (Zb Gc O) (Rc (Tf xQ O hF.F 0 O O) (Ca (Mf cX O) (Ca (Dz O O) (Ca (Ae O O) (Ea ?_))))))));refine Nc O O (λhc0=>?_) (λhc0=>?_);refine Ha (Ca (Ic O) (Ea ?_));refine Pd (v:=.bool false) O O ?_;refine⟨congrArg Value.bool (E5 (λhe=>?_)).symm,hF.same⟩;cases he;first|exact absurd rfl (by assumption)|(simp only[Hg]at hc4;cases hc4)
 refine Wa (Ia (Ja (Ha (Ca (Uc O) (Ea (Za ?_))))));refine Ad (λμ σ w=>∃(j:Nat),μ=ks.length-j/\(j<=ks.length)/\(ks.take j=ks'.take j)/\AllEq σ [(2,V b1),(3,V b2),(5,J ((j:Int)))]/\FR w0 [] [(b2,.cells #[J k',I t',.slice A' ks'.length c',.slice B' ys.length e'] 25),(b1,.cells #[J k,I t,.slice A ks.length c,.slice B xs.length e] 25)] w) _ ⟨0,O,(Nat.zero_le _),Da,WH,hF⟩ ?_;rintro μ σ w ⟨j,rfl,hj,ha,hs,hF⟩;refine Cg.slots hs ?_;clear hs;intro σ;refine Ja (Ha (Ca (Qb O) (Ca (Zb Af O) (Rc (Tf wQ O hF.F 1 O O) (Ca (Mf bX O) (Ca (An O O) (Ea ?_)))))));refine Nc O O (λhc1=>?_) (λhc1=>?_);refine Wa (Ia (Ja (Za (Ja ?_))));refine Ig (zs:=.of []) (bQ [0,1,2,3,4,5,6,7,8,9,10] .nil) hF ?_;intro w hF;refine Cb O (Zb Af O) (Vi O (Tf wQ O C0 1 O O) (Cb O (Qb O) ?_));obtain⟨ad3,hA3,hk3,hx3⟩:=hK.str_elem (i:=j) sX;refine Pa O (v:=.pointer (some (ad3.add (j*1)))) (λw hC=>Ta (i:=(j:Int)) Vm O hA3 O sX sX) (Pa O (v:=I (ks[j])) (λw hC=>Ob fZ O (hC.cell0 hk3)) (Cb O (Zb Af O) (Vi O (Tf wQ O C0 0 O O) (Cb O (Qb O) ?_))));obtain⟨ad4,hA4,hk4,hx4⟩:=hK'.str_elem (i:=j) sX;refine Pa O (v:=.pointer (some (ad4.add (j*1)))) (λw hC=>Ta (i:=(j:Int)) Vm O hA4 O sX sX) (Pa O (v:=I (ks'[j])) (λw hC=>Ob fZ O (hC.cell0 hk4)) (Cb O (yns O O) (Fc (Ia ?_))));refine Nc O O (λhc2=>?_) (λhc2=>?_);refine Ha (Ca (Ic O) (Ea ?_));refine Pd (v:=.bool false) O O ?_;refine⟨congrArg Value.bool (E5 (λhe=>?_)).symm,hF.same⟩;cases he;first|exact absurd rfl (by assumption)|(simp only[Hg]at hc4;cases hc4)
 refine Wa (Eb (Ia (Ga (Ca (Qb O) (Ca (Bm O O) (Ca (Uc O) (Gb ?_)))))));refine Dc ⟨_,?_,j+1,O,sX,(PB sX sX ha (by simpa using hc2)),WH,hF⟩;omega;refine Pc (Oc O ?_);refine Ia (Ja (Ha (Ca (Uc O) (Ea (Za ?_)))));refine Ad (λμ σ w=>∃(i:Nat),μ=xs.length-i/\(i<=xs.length)/\(xs.take i=ys.take i)/\AllEq σ [(2,V b1),(3,V b2),(6,J ((i:Int)))]/\FR w0 [] [(b2,.cells #[J k',I t',.slice A' ks'.length c',.slice B' ys.length e'] 25),(b1,.cells #[J k,I t,.slice A ks.length c,.slice B xs.length e] 25)] w) _ ⟨0,O,(Nat.zero_le _),Da,WH,hF⟩ ?_;rintro μ σ w ⟨i,rfl,hi,hb,hs,hF⟩;refine Cg.slots hs ?_;clear hs;intro σ;have hke:ks=ks':=by rw[List.take_of_length_le sX,List.take_of_length_le sX]at ha;exact ha
 refine Ja (Ha (Ca (Qb O) (Ca (Zb Gc O) (Rc (Tf xQ O hF.F 1 O O) (Ca (Mf cX O) (Ca (An O O) (Ea ?_)))))));refine Nc O O (λhc3=>?_) (λhc3=>?_);refine Wa (Ia (Ja (Za (Ja ?_))));refine Ig (zs:=.of []) (bQ [0,1,2,3,4,5,6,7,8,9] (.act 10 (.free 11 .nil))) hF ?_;intro w hF;refine Cb O (Zb Gc O) (Vi O (Tf xQ O C0 1 O O) (Cb O (Qb O) ?_));obtain⟨ad5,cs5,hA5,hl5,hk5,hx5⟩:=hX.tree_elem (i:=i) sX;have ho5:=hx5.one_;refine Pa O (v:=.pointer (some (ad5.add (i*4)))) (λw hC=>Ta (i:=(i:Int)) Xd O hA5 O sX sX) (Pa O (v:=.agg (List.toArray cs5)) (λw hC=>Va (l:=cs5) zQ oZ O hl5 (hC.cells0 hk5)) (Cb O (Zb Gc O) (Vi O (Tf xQ O C0 0 O O) (Cb O (Qb O) ?_))));obtain⟨ad6,cs6,hA6,hl6,hk6,hx6⟩:=hY.tree_elem (i:=i) sX;have ho6:=hx6.one_;refine Pa O (v:=.pointer (some (ad6.add (i*4)))) (λw hC=>Ta (i:=(i:Int)) Xd O hA6 O sX sX) (Pa O (v:=.agg (List.toArray cs6)) (λw hC=>Va (l:=cs6) zQ oZ O hl6 (hC.cells0 hk6)) ?_);refine Lj hF (ih _ (List.getElem_mem (l:=xs) (n:=i) sX) ys[i] _ _ _ _ _ (hF.rep hx5) (hF.rep hx6)) O (Ya Dt O O O) ?_;intro w hF;refine⟨hF,?_⟩;refine Cb O (Ic O) (Fc (Ia (Ha (Ca (Fe O) (Ca (Jm O) (Ea ?_))))));refine Ng O O (λhc4=>?_) (λhc4=>?_);refine Ha (Ca (Ic O) (Ea ?_));refine Pd (v:=.bool false) O O ?_;refine⟨congrArg Value.bool (E5 (λhe=>?_)).symm,hF.same⟩;cases he;first|exact absurd rfl (by assumption)|(simp only[Hg]at hc4;cases hc4)
 refine Wa (Eb (Ia (Ga (Ca (Qb O) (Ca (Bm O O) (Ca (Uc O) (Gb ?_)))))));refine Dc ⟨_,?_,i+1,O,sX,(PB sX sX hb ((M1 _ _).1 (by simpa using hc4))),WH,hF⟩;omega;refine Pc (Oc O ?_);refine Ia (Ha (Ca (Ic O) (Ea ?_)));refine Pd (v:=.bool true) O O ?_;have e3:xs=ys:=(by have h1:=hb;rw[List.take_of_length_le sX]at h1;rw[List.take_of_length_le sX]at h1;exact h1);have e1:k=k':=Classical.not_not.1 hg0;have e2:t=t':=Classical.not_not.1 hg1;subst hke e3 e1 e2;exact⟨congrArg Value.bool (Hg _).symm,hF.same⟩
theorem Bn(x:Tree):PO x:=Tree.ind OL x
theorem YY(k:Int)(t:Str)(ks:List Str)(xs:List Tree)(ih:∀x,x∈xs->FewC x):FewC (.node k t ks xs):=by
 intro left deep S w0 cs h0 h1 h2 h3 hR;obtain⟨A,c,B,e,rfl,-,-,hK,hX⟩:=hR.tree_inv;have hXl:=hX.slice_len;have hKl:=hK.slice_len;refine Fa func22 O ntmps22 Ib (Pk _ _ _) ?_;have hF:=FR.start w0 [];refine Ha (Df hF O ?_);rintro b1 w hb1 hF -;refine Ca (Uc O) (Ea (Ja (Ha (Ca (Qb O) (Ca (AB O O) (Ea ?_))))));refine Nc O O (λhc0=>?_) (λhc0=>?_);refine Ha (Ca (Uc O) (Ea ?_));refine Pd (v:=J ((-1))) O O ?_;exact⟨congrArg (Value.int .i64) (by rw[St,if_pos sX]),hF.same⟩;refine Wa (Ia (Ha (Ca (Qb O) (Ca (My O O) (Ca (Zb Af O) (Rc (Tf wQ O hF.F 0 O O) (Ca (Mf bX O) (Ca (My O O) (Ca (Uc O) (Ea (Ja ?_)))))))))));refine Ha (Ca (Uc O) (Ea (Za ?_)));refine Ad (λμ σ w=>∃(j:Nat),∃(lf:Int),μ=xs.length-j/\(j<=xs.length)/\(lf<=1000000)/\(Eo (left-1-ks.length) deep xs=Eo lf deep (xs.drop j))/\AllEq σ [(1,J lf),(2,J deep),(3,V b1),(7,J ((j:Int)))]/\FR w0 [] [(b1,.cells #[J k,I t,.slice A ks.length c,.slice B xs.length e] 25)] w) _ ⟨0,(left-1-ks.length),O,(Nat.zero_le _),sX,Da,Eu,hF⟩ ?_;rintro μ σ w ⟨j,lf,rfl,hj,hlf,hf,hs,hF⟩;refine Cg.slots hs ?_;clear hs;intro σ;refine Ja (Ha (Ca (Qb O) (Ca (Zb Gc O) (Rc (Tf xQ O hF.F 0 O O) (Ca (Mf cX O) (Ca (An O O) (Ca (Fe O) ?_)))))));refine Jd (d:=21) O (λhg0=>?_) (λhg0=>?_);refine Ca (Qb O) (Ca (HL O O) (Ca (Dd O O) (Ea ?_)));refine Nc O O (λhc1=>?_) (λhc1=>?_);refine Wa (Ia (Ja (Za (Ga (Ca (Zb Gc O) (Rc (Tf xQ O hF.F 0 O O) (Ca (Qb O) ?_)))))));obtain⟨ad1,cs1,hA1,hl1,hk1,hx1⟩:=hX.tree_elem (i:=j) sX;have ho1:=hx1.one_;refine Ka (v:=.pointer (some (ad1.add (j*4)))) (Ta (i:=(j:Int)) Xd O hA1 O sX sX) (Ka (v:=.agg (List.toArray cs1)) (Va (l:=cs1) zQ oZ O hl1 (hF.cells0 hk1)) (Ca (Qb O) (Ca (Qb O) (Ca (Bm O O) ?_))));refine Hb hF (ih _ (List.getElem_mem (l:=xs) (n:=j) sX) lf (deep+1) _ _ _ sX sX sX sX (hF.rep hx1)) (Kc en_22 O O O O) ?_
 intro w hF;refine Ca (Uc O) (Gb (Eb (Ia (Ga (Ca (Qb O) (Ca (Bm O O) (Ca (Uc O) (Gb ?_))))))));refine Dc ⟨_,?_,j+1,St lf (deep+1) xs[j],O,sX,(by have:=fewT_le xs[j] lf (deep+1) sX;omega),(hf.trans (NM sX sX)),Eu,hF⟩;omega;refine Pc (Oc O ?_);refine Ia (Ha (Ca (Qb O) (Ca (Uc O) (Ea ?_))));refine Pd (v:=J lf) O O ⟨congrArg (Value.int .i64) ?_,hF.same⟩;rw[St,if_neg sX,hf]
 ·first|(rw[List.drop_eq_nil_of_le sX,Eo];done)|(rw[R4 sX])
 refine Qa (Qa (Ca (Ae O O) (Ea (Bg O ?_))));refine Pc (Oc O ?_);refine Ia (Ha (Ca (Qb O) (Ca (Uc O) (Ea ?_))));refine Pd (v:=J lf) O O ⟨congrArg (Value.int .i64) ?_,hF.same⟩;rw[St,if_neg sX,hf]
 ·first|(rw[List.drop_eq_nil_of_le sX,Eo];done)|(rw[R4 sX])
theorem few_c(x:Tree):FewC x:=Tree.ind YY x
theorem JN(k:Int)(t:Str)(ks:List Str)(xs:List Tree)(ih:∀x,x∈xs->UO x):UO (.node k t ks xs):=by
  intro S w0 cs hR;obtain⟨A,c,B,e,rfl,-,-,hK,hX⟩:=hR.tree_inv;have hXl:=hX.slice_len;have hKl:=hK.slice_len;refine Fa func23 O ntmps23 Ib (Zc _) ?_;have hF:=FR.start w0 [];refine Ja (Ga ?_);refine Df hF O ?_;intro b1 w hb1 hF hE;refine Ca (Ic O) (Gb ?_);refine Ia (Ja ?_);refine Ja (Ga ?_);refine Ca (Zb Xh O) (Rc (Iy fZ O hF.F 0 O O) ?_);refine Ca (WG kX O) (Ca (AB O O) ?_);refine Gb (Ia ?_);refine Nc O O (λhc0=>?_) (λhc0=>?_)
  ·
   refine Ja (Ga ?_);refine Ca (Ic O) (Gb ?_);refine Ia (Pd (v:=.bool false) O O ?_);exact⟨congrArg Value.bool (by rw[Gn,decide_eq_false sX];rfl),hF.same⟩
  refine Wa (Ia ?_);refine Ja (Ja ?_);refine Ga (Ca (Uc O) ?_);refine Gb (Ia ?_);refine Za (Ad (λμ σ w=>∃(j:Nat),μ=ks.length-j/\(j<=ks.length)/\(∀i (hi:i<j) (hk:i<ks.length),ks[i].length<=1024)/\AllEq σ [(1,V b1),(3,J ((j:Int)))]/\FR w0 [] [(b1,.cells #[J k,I t,.slice A ks.length c,.slice B xs.length e] 25)] w) _ ⟨0,O,(Nat.zero_le _),(λi hi=>absurd hi sX),J7,hF⟩ ?_);rintro μ σ w ⟨j,rfl,hj,ha,hs,hF⟩;refine Cg.slots hs ?_;clear hs;intro σ;refine Ja (Ja ?_);refine Ga (Ca (Qb O) ?_);refine Ca (Zb Af O) (Rc (Tf wQ O hF.F 0 O O) ?_);refine Ca (Mf bX O) (Ca (An O O) ?_);refine Gb (Ia ?_);refine Nc O O (λhc1=>?_) (λhc1=>?_)
  ·
   refine Wa (Ia ?_);refine Ja (Za ?_);refine Ja (Ga ?_);refine Ca (Zb Af O) (Rc (Tf wQ O hF.F 0 O O) ?_);refine Ca (Qb O) ?_;obtain⟨ad0,hA0,hk0,hx0⟩:=hK.str_elem (i:=j) sX;refine Ka (v:=.pointer (some (ad0.add (j*1)))) (Ta (i:=(j:Int)) Vm O hA0 O sX sX) (Ka (v:=I (ks[j])) (Ob fZ O (hF.cell0 hk0)) ?_);refine Ca (WG kX O) (Ca (AB O O) ?_);refine Gb (Ia ?_);refine Nc O O (λhc2=>?_) (λhc2=>?_)
   ·
    refine Ja (Ga ?_);refine Ca (Ic O) (Gb ?_);refine Ia (Pd (v:=.bool false) O O ?_);have hno:ks.all (λk=>decide (k.length<=1024))=false:=by
      rw[Bool.eq_false_iff];intro hall;have:=List.all_eq_true.1 hall ks[j] (eQ _);simp only[decide_eq_true_eq]at this;omega
    exact⟨congrArg Value.bool (by rw[Gn,hno,Bool.and_false];rfl),hF.same⟩
   refine Wa (Eb ?_);refine Ia (Ga ?_);refine Ca (Qb O) (Ca (Bm O O) ?_);refine Ca (Uc O) (Gb ?_);refine Dc ⟨_,?_,j+1,rfl,sX,(λi hi hk=>by rcases Nat.lt_or_ge i j with h|h;exact ha i h hk;obtain rfl:i=j:=sX;omega),J7,hF⟩;omega
  refine Pc (Oc O ?_);refine Ia (Ja ?_);refine Ja (Ga ?_);refine Ca (Uc O) (Gb ?_);refine Ia (Za ?_);refine Ad (λμ σ w=>∃(i:Nat),μ=xs.length-i/\(i<=xs.length)/\(∀m (hm:m<i) (hk:m<xs.length),Gn xs[m]=true)/\AllEq σ [(1,V b1),(4,J ((i:Int)))]/\FR w0 [] [(b1,.cells #[J k,I t,.slice A ks.length c,.slice B xs.length e] 25)] w) _ ⟨0,O,(Nat.zero_le _),(λi hi=>absurd hi sX),J7,hF⟩ ?_;rintro μ σ w ⟨i,rfl,hi,hb,hs,hF⟩;refine Cg.slots hs ?_;clear hs;intro σ;refine Ja (Ja ?_);refine Ga (Ca (Qb O) ?_);refine Ca (Zb Gc O) (Rc (Tf xQ O hF.F 0 O O) ?_);refine Ca (Mf cX O) (Ca (An O O) ?_);refine Gb (Ia ?_);refine Nc O O (λhc3=>?_) (λhc3=>?_)
  ·
   refine Wa (Ia ?_);refine Ja (Za ?_);refine Ja (Ga ?_);refine Ca (Zb Gc O) (Rc (Tf xQ O hF.F 0 O O) ?_);refine Ca (Qb O) ?_;obtain⟨ad1,cs1,hA1,hl1,hk1,hx1⟩:=hX.tree_elem (i:=i) sX;have ho1:=hx1.one_;refine Ka (v:=.pointer (some (ad1.add (i*4)))) (Ta (i:=(i:Int)) Xd O hA1 O sX sX) (Ka (v:=.agg (List.toArray cs1)) (Va (l:=cs1) zQ oZ O hl1 (hF.cells0 hk1)) ?_);refine Hb hF (ih _ (List.getElem_mem (l:=xs) (n:=i) sX) _ _ _ (hF.rep hx1)) (Ra en_23 O O) ?_;intro w hF;refine Ca (Ic O) (Gb ?_);refine Ia (Ja ?_);refine Ga (Ca (Fe O) ?_);refine Ca (Jm O) (Gb ?_);refine Ia (Ng O O (λhc4=>?_) (λhc4=>?_))
   ·
    refine Ja (Ga ?_);refine Ca (Ic O) (Gb ?_);refine Ia (Pd (v:=.bool false) O O ?_);exact⟨congrArg Value.bool (by rw[Gn,DH (List.getElem_mem (l:=xs) (n:=i) sX) (by simpa using hc4),Bool.and_false]),hF.same⟩
   refine Wa (Eb ?_);refine Ia (Ga ?_);refine Ca (Qb O) (Ca (Bm O O) ?_);refine Ca (Uc O) (Gb ?_);refine Dc ⟨_,?_,i+1,rfl,sX,(λm hm hk=>by rcases Nat.lt_or_ge m i with h|h;exact hb m h hk;obtain rfl:m=i:=sX;simpa using hc4),J7,hF⟩;omega
  refine Pc (Oc O ?_);refine Ia (Ja ?_);refine Ga (Ca (Ic O) ?_);refine Gb (Ia ?_);refine Pd (v:=.bool true) O O ?_;have h1:ks.all (λk=>decide (k.length<=1024))=true:=by
    rw[List.all_eq_true];intro k hk;obtain⟨q,hq,rfl⟩:=List.getElem_of_mem hk;simp only[decide_eq_true_eq];exact ha q sX hq
  exact⟨congrArg Value.bool (by rw[Gn,h1,decide_eq_true sX,NK (λm hm=>hb m sX hm)];rfl),hF.same⟩
theorem short_c(x:Tree):UO x:=Tree.ind JN x
theorem few_v(x:Tree)(most:Int)(h0:0<=most)(h1:most<=1000000)(S:Nat->Prop)(w0:World)(cs:List Value)(hR:Rep S w0 (Wb x) cs):Calls prog 8 #[.agg cs.toArray,J most] w0 (Wd λv w'=>v=.bool (YJ x most)/\Same [] w0 w'):=by
 have hl:cs.length=4:=hR.length.trans (Tc x);have ho:=hR.one_;refine Fa func8 O ntmps8 Ib (Hd _ _) ?_;have hF:=FR.start w0 [];refine Ha (Qp (v:=.agg (List.toArray cs)) (cs:=(List.toArray cs)) hF O O ?_);rintro b1 w hb1 hF -;refine Ca (Ic O) (Jc (Ka (v:=.agg (List.toArray cs)) (Va (l:=cs) zQ oZ O hl (hF.cellsAll 0 O)) (Ca (Qb O) ?_)));refine Hb hF (few_c x most 0 S _ cs h0 h1 sX sX (hF.rep hR)) (Kc en_22 O O O O) ?_;intro w hF;refine Ca (Uc O) (Jc (Ca (Qb O) (Ca (HL O O) (Ca (Fe O) ?_))));refine Jd (d:=11) O (λhg0=>?_) (λhg0=>?_);refine Ka (v:=.agg (List.toArray cs)) (Va (l:=cs) zQ oZ O hl (hF.cellsAll 0 O)) (Hb hF (short_c x S _ cs (hF.rep hR)) (Ra en_23 O O) ?_);intro w hF;refine Ca (Dd O O) (Ca (Ic O) (Ea ?_));refine Pd (v:=.bool _) O O ⟨congrArg Value.bool ?_,hF.same⟩;unfold YJ
 first|(rw[decide_eq_true hg0];rfl)|(rw[decide_eq_false hg0];rfl)
 refine Qa (Qa (Ca (Ae O O) (Ca (Ic O) (Ea ?_))));refine Pd (v:=.bool false) O O ⟨congrArg Value.bool ?_,hF.same⟩;unfold YJ
 first|(rw[decide_eq_true hg0];rfl)|(rw[decide_eq_false hg0];rfl)
theorem II(A:Option Addr)(n c:Nat)(w0:World):Calls prog 21 #[.slice A n c] w0 (Wd λv w'=>v=.agg #[J 5,I [],aQ,.slice A n c]/\Same [] w0 w'):=by
 refine Fa func21 O ntmps21 Ib (Zc _) ?_;have hF:=FR.start w0 [];refine Ha (Md (cs:=#[J 0,I [],aQ,aQ]) hF mX O ?_);rintro b1 w hb1 hF -;refine Jc (Ca (He O) ?_);refine Ka (w':=w) (v:=.agg #[J 5,I [],aQ,.slice A n c]) Mb (If hF oZ O O Ih ?_);rintro w hF -;refine Ea (Cc (Bc (Ua (Uf O (l:=[J 5,I [],aQ,.slice A n c]) O zQ oZ O (hF.cellsAll 0 O)) ?_)));exact⟨O,hF.same⟩
theorem B8(A:Option Addr)(n c:Nat)(B:Option Addr)(m d:Nat)(w0:World):Calls prog 20 #[.slice A n c,.slice B m d] w0 (Wd λv w'=>v=.agg #[J 6,I [],.slice A n c,.slice B m d]/\Same [] w0 w'):=by
 refine Fa func20 O ntmps20 Ib (Hd _ _) ?_;have hF:=FR.start w0 [];refine Ha (Md (cs:=#[J 0,I [],aQ,aQ]) hF mX O ?_);rintro b1 w hb1 hF -;refine Jc (Ca (He O) (Ca (He O) ?_));refine Ka (w':=w) (v:=.agg #[J 6,I [],.slice A n c,.slice B m d]) Mb (If hF oZ O O Ih ?_);rintro w hF -;refine Ea (Cc (Bc (Ua (Uf O (l:=[J 6,I [],.slice A n c,.slice B m d]) O zQ oZ O (hF.cellsAll 0 O)) ?_)));exact⟨O,hF.same⟩
section
variable {P:Program}{w0 w w':World}{ids:List Nat}{ds:List D}
theorem Ge{P:Program}{ρ:Operand->Value}{o:Oper}{w w':World}{p:Prop}{_:Decidable p}(h:(execOp ρ o).run P w=.ok (.value (.bool (decide p))) w')(hp:p):(execOp ρ o).run P w=.ok (.value (.bool true)) w':=by rw[h,decide_eq_true hp]
theorem Wf{P:Program}{ρ:Operand->Value}{o:Oper}{w w':World}{p:Prop}{_:Decidable p}(h:(execOp ρ o).run P w=.ok (.value (.bool (decide p))) w')(hp:¬p):(execOp ρ o).run P w=.ok (.value (.bool false)) w':=by rw[h,decide_eq_false hp]
theorem FR.rowX{bs:List (Nat × Obj)}(hF:FR w0 [] bs w)(i:Nat){b n:Nat}{l:List Value}{T:TypeId}(hi:bs[i]? = some (b,.cells l.toArray T))(hr:RX w0 ids w ds l)(hb:b∉ids)(hn:ds.length=n)(hm:n<=9223372036854775807) :
    RX w0 ids w [.slice ds] [W b n n]:=by
  refine .one (Rep.slice_mk hn.symm (gQ _) hm λ_=>⟨_,O,l,λj hj=>⟨?_,?_⟩,hr⟩)
  ·exact hF.cellsAll i hi j hj
  exact⟨hF.ge hi,hF.lt hi,hb,l.toArray,T,hF.heap hi⟩
theorem RX.tree{k:Int}{t:Str}{ks:List Str}{xs:List Tree}{v u:Value}(hk:-9223372036854775808<=k/\k<=9223372036854775807)(ht:t.length<=9223372036854775807)
    (h3:RX w0 ids w [Ld ks] [v]) (h4:RX w0 ids w [.slice (Cd xs)] [u]):RX w0 ids w [Wb (.node k t ks xs)] [J k,I t,v,u]:=.one (Rep.tree_mk hk ht h3.rep h4.rep)
theorem RX.nils{ids:List Nat}:RX w0 ids w [.slice []] [aQ]:=.one (Rep.nil_slice 0 sX none)
theorem RX.strs:∀{ks:List Str},(∀k∈ks,k.length<=9223372036854775807)->RX w0 ids w (ks.map Qm) (ks.map λk=>I k)
  | [],_=>RX.nil
  | k::ks,h=>RepL.cons_mk (Rep.lit_mk (v:=I k) (h k Da)) (RX.strs (λx hx=>h x (by simp[hx])))
theorem RX.num(t:Str)(ht:t.length<=9223372036854775807):RX w0 ids w [Wb (.node 3 t [] [])] [J 3,I t,aQ,aQ]:=RX.tree ⟨by omega,by omega⟩ ht RX.nils RX.nils
theorem RX.str(t:Str)(ht:t.length<=9223372036854775807):RX w0 ids w [Wb (.node 4 t [] [])] [J 4,I t,aQ,aQ]:=RX.tree ⟨by omega,by omega⟩ ht RX.nils RX.nils
end
end Go.Scarf
