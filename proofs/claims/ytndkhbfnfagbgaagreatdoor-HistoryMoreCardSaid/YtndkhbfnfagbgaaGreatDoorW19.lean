/- A part of the proof. -/
import Derived.Test.YtndkhbfnfagbgaaGreatDoorW16
set_option linter.all false
set_option maxHeartbeats 8000000
set_option maxRecDepth 10000
namespace Go.Scarf
open Go.RowKit Go.Proofs Go.Proofs.Tryz
mutual
def eqT:Tree->Tree->Bool
  | .node k t ks xs,.node k' t' ks' ys=>decide (k=k')&&decide (t=t')&&decide (ks=ks')&&IM xs ys
def IM:List Tree->List Tree->Bool
  | [],[]=>true
  | x::xs,y::ys=>eqT x y&&IM xs ys
  | _,_=>false
end
theorem JR:∀{xs ys:List Tree},(∀x∈xs,∀y,eqT x y=true↔x=y)->(IM xs ys=true↔xs=ys)
  | [],[],_=>by simp[IM]
  | [],_::_,_=>by simp[IM]
  | _::_,[],_=>by simp[IM]
  | x :: xs, y :: ys, h => by
    rw[IM,Bool.and_eq_true,h x Da y,JR (λz hz=>h z (by simp[hz]))];simp
theorem V2(x:Tree):∀y,eqT x y=true↔x=y:=Tree.ind (Q:=λx=>∀y,eqT x y=true↔x=y) (λk t ks xs ih y=>by
  obtain⟨k',t',ks',ys⟩:=y;rw[eqT,Bool.and_eq_true,Bool.and_eq_true,Bool.and_eq_true,JR ih];simp[and_assoc]) x
theorem Jn(x:Tree):eqT x x=true:=(V2 x x).2 rfl
theorem T3{x y:Tree}(h:x≠y):eqT x y=false:=by rw[Bool.eq_false_iff];exact λe=>h ((V2 x y).1 e)
instance : DecidableEq Tree:=λx y=>if h:eqT x y=true then .isTrue ((V2 x y).1 h) else .isFalse (λe=>h ((V2 x y).2 e))
theorem CD{α:Type}{xs ys:List α}{j:Nat}(h:j<xs.length)(h2:j<ys.length)(ha:xs.take j=ys.take j)(he:xs[j]=ys[j]):xs.take (j+1)=ys.take (j+1):=by
  rw[iQ h,iQ h2,ha,he]
def EL(x:Tree):Prop:=∀y S S' w0 cs ct,Rep S w0 (Zb x) cs->Rep S' w0 (Zb y) ct->Calls prog 14 #[.agg cs.toArray,.agg ct.toArray] w0 (Td λv w'=>v=.bool (eqT x y)/\Same [] w0 w')
mutual
def It(left deep:Int):Tree->Int|.node _ _ ks xs=>if 60<deep then -1 else Eo (left-1-ks.length) deep xs
def Eo(left deep:Int):List Tree->Int|[]=>left|x::xs=>if left<0 then left else Eo (It left (deep+1) x) deep xs
end
mutual
def Rm:Tree->Bool|.node _ t ks xs=>decide (t.length<=2048)&&ks.all (λk=>decide (k.length<=1024))&&Xr xs
def Xr:List Tree->Bool|[]=>true|x::xs=>Rm x&&Xr xs
end
def M3(x:Tree)(most:Int):Bool:=decide (0<=It most 0 x)&&Rm x
theorem LJ(deep:Int):∀(xs:List Tree)(left:Int),(∀x∈xs,∀l d:Int,0<=l->It l d x<=l)->Eo left deep xs<=left
  | [],left,_=>by rw[Eo];exact Int.le_refl _
  | x :: xs, left, h => by
    rw[Eo];split
    ·exact Int.le_refl _
    have h1 := h x Da left (deep + 1) sX;have h2:=LJ deep xs (It left (deep+1) x) (λy hy=>h y (by simp[hy]));omega
theorem fewT_le(x:Tree):∀l d:Int,0<=l->It l d x<=l:=Tree.ind (Q:=λx=>∀l d:Int,0<=l->It l d x<=l) (λk t ks xs ih l d hl=>by
  rw[It];split
  ·omega
  have := LJ d xs (l-1-ks.length) ih;omega) x
theorem U3{left deep:Int}(h:left<0):∀xs:List Tree,Eo left deep xs=left
  | []=>by rw[Eo]
  | x::xs=>by rw[Eo,if_pos h]
theorem MN(x:Tree):∀l d:Int,0<=l->0<=d->0<=It l d x->It l d x=l-Wb x-Lo x/\d+Cd x<=61:=Tree.ind (Q:=λx=>∀l d:Int,0<=l->0<=d->0<=It l d x->It l d x=l-Wb x-Lo x/\d+Cd x<=61) (λk t ks xs ih l d hl hd h=>by
  rw[It]at h ⊢;split at h
  ·omega
  rename_i hd60
  rw[if_neg hd60];have key:∀(ys:List Tree),(∀y∈ys,y∈xs)->∀m:Int,0<=Eo m d ys->Eo m d ys=m-Rb ys-Qn ys/\d+1+Ed ys<=61:=by
    intro ys
    induction ys with
    | nil=>intro _ m hm;simp only[Eo,Rb,Qn,Ed];omega
    | cons y ys ihy =>
      intro hm m h0;rw[Eo]at h0 ⊢;split at h0
      ·omega
      rename_i hmm
      rw[if_neg hmm];obtain⟨a1,a2⟩:=ihy (λz hz=>hm z (by simp[hz])) _ h0;have h3:0<=It m (d+1) y:=by
        rcases Int.lt_or_le (It m (d+1) y) 0 with hlt|hge
        ·rw[U3 hlt]at h0;omega
        exact hge
      obtain⟨b1,b2⟩:=ih y (hm y Da) m (d+1) sX sX h3;simp only[Rb,Qn,Ed];omega
  obtain⟨a1,a2⟩:=key xs (λ_ h=>h) _ h;rw[Wb,Lo,Cd];omega) x
theorem MQ{x:Tree}{most:Int}(hm:0<=most)(h:M3 x most=true):(Wb x:Int)+Lo x<=most/\Cd x<=61/\Rm x=true:=by
  unfold M3 at h;rw[Bool.and_eq_true,decide_eq_true_eq]at h;obtain⟨a,b⟩:=MN x most 0 hm sX h.1;exact⟨by omega,by omega,h.2⟩
theorem YO{left deep:Int}{xs:List Tree}{j:Nat}(h:j<xs.length)(h0:¬left<0):Eo left deep (xs.drop j)=Eo (It left (deep+1) xs[j]) deep (xs.drop (j+1)):=by
  rw[List.drop_eq_getElem_cons h,Eo,if_neg h0]
def FewC(x:Tree):Prop:=∀(left deep:Int) S w0 cs,0<=left->left<=1000000->0<=deep->deep<=61->Rep S w0 (Zb x) cs->Calls prog 19 #[.agg cs.toArray,J left,J deep] w0 (Td λv w'=>v=J (It left deep x)/\Same [] w0 w')
def QO(x:Tree):Prop:=∀S w0 cs,Rep S w0 (Zb x) cs->Calls prog 20 #[.agg cs.toArray] w0 (Td λv w'=>v=.bool (Rm x)/\Same [] w0 w')
theorem PI{xs:List Tree}{x:Tree}(h:x∈xs)(hs:Rm x=false):Xr xs=false:=by
  induction xs with
  | nil=>cases h
  | cons y ys ih =>
    rw[Xr];rcases oQ.1 h with rfl|h
    ·rw[hs];rfl
    rw[ih h,Bool.and_false]
theorem XJ{xs:List Tree}(h:∀j (hj:j<xs.length),Rm xs[j]=true):Xr xs=true:=by
  induction xs with
  | nil=>rfl
  | cons y ys ih =>
    have h0:Rm y=true:=h 0 Da;rw[Xr,h0,Bool.true_and];exact ih (λj hj=>by have:=h (j+1) (by simpa using hj);simpa using this)
theorem BP(k:Int)(t:Str)(ks:List Str)(xs:List Tree)(ih:∀x,x∈xs->EL x):EL (.node k t ks xs):=by
 rintro⟨k',t',ks',ys⟩ S S' w0 cs ct hR hR';obtain⟨A,c,B,e,rfl,-,-,hK,hX⟩:=hR.tree_inv;obtain⟨A',c',B',e',rfl,-,-,hK',hY⟩:=hR'.tree_inv;have hXl:=hX.slice_len;have hKl:=hK.slice_len;have hYl:=hY.slice_len;have hKl':=hK'.slice_len;refine Ga func14 O ntmps14 Fb (Zc _ _) ?_;have hF:=FR.start w0 [];refine Ja (Ve hF O ?_);rintro b1 w hb1 hF -;refine Ve hF O ?_;rintro b2 w hb2 hF -;refine Ca (Hc O) (Ea (Ha (Ja (Ca (Xb Wh O) (Yc (Xs bZ O hF.F 1 O O) (Ca (Xb Wh O) (Yc (Xs bZ O hF.F 0 O O) (Ca (Mz O O) (Ca (Ae O) ?_)))))))));refine Dd (d:=13) O (λhg0=>?_) (λhg0=>?_);refine Oa (Oa (Oa (Oa (Oa (Ca (Nd O O) (Ca (Ae O) (Oa (Oa (Oa (Oa (Oa (Oa (Oa ?_)))))))))))));refine Ca (Nd O O) (Ca (Ae O) (Oa (Oa (Oa (Oa (Oa (Oa (Oa (Ca (Nd O O) (Ea (Ge O (Ha ?_))))))))))));refine Fa (Ca (Hc O) (Ea ?_));refine Qd (v:=.bool false) O O ?_;refine⟨congrArg Value.bool (T3 (λhe=>?_)).symm,hF.same⟩;cases he;first|exact absurd rfl (by assumption)|(simp only[Jn]at hc4;cases hc4)
 refine Ca (Xb Vh O) (Yc (Wy fZ O hF.F 1 O O) (Ca (Xb Vh O) (Yc (Wy fZ O hF.F 0 O O) (Ca (yns O O) (Ca (Md O O) (Ca (Ae O) ?_))))));refine Dd (d:=20) O (λhg1=>?_) (λhg1=>?_);refine Oa (Oa (Oa (Oa (Oa (Oa (Oa (Ca (Nd O O) (Ca (Ae O) (Oa (Oa (Oa (Oa (Oa ?_)))))))))))));refine Oa (Oa (Ca (Nd O O) (Ea (Ge O (Ja (Ca (Hc O) (Ea ?_)))))));refine Qd (v:=.bool false) O O ?_;refine⟨congrArg Value.bool (T3 (λhe=>?_)).symm,hF.same⟩;cases he;first|exact absurd rfl (by assumption)|(simp only[Jn]at hc4;cases hc4)
 refine Ca (Xb Of O) (Yc (Rf xQ O hF.F 1 O O) (Ca (Ye dX O) (Ca (Xb Of O) (Yc (Rf xQ O hF.F 0 O O) (Ca (Ye dX O) (Ca (Mz O O) (Ca (Md O O) (Ca (Ae O) ?_))))))));refine Dd (d:=29) O (λhg2=>?_) (λhg2=>?_);refine Oa (Oa (Oa (Oa (Oa (Oa (Oa (Ca (Nd O O) (Ea (Ge O (Ja (Ca (Hc O) ?_)))))))))));refine Ea (Qd (v:=.bool false) O O ?_);refine⟨congrArg Value.bool (T3 (λhe=>?_)).symm,hF.same⟩;cases he;first|exact absurd rfl (by assumption)|(simp only[Jn]at hc4;cases hc4)
 refine Ca (Xb Jc O) (Yc (Rf yQ O hF.F 1 O O) (Ca (Ye fX O) (Ca (Xb Jc O) (Yc (Rf yQ O hF.F 0 O O) (Ca (Ye fX O) (Ca (Mz O O) (Ca (Md O O) (Ea ?_))))))));refine Pc O O (λhc0=>?_) (λhc0=>?_);refine Ja (Ca (Hc O) (Ea ?_));refine Qd (v:=.bool false) O O ?_;refine⟨congrArg Value.bool (T3 (λhe=>?_)).symm,hF.same⟩;cases he;first|exact absurd rfl (by assumption)|(simp only[Jn]at hc4;cases hc4)
 refine Ta (Ia (Ha (Ja (Ca (Sc O) (Ea (Va ?_))))));refine Rc (λμ σ w=>∃(j:Nat),μ=ks.length-j/\(j<=ks.length)/\(ks.take j=ks'.take j)/\AllEq σ [(2,V b1),(3,V b2),(5,J ((j:Int)))]/\FR w0 [] [(b2,.cells #[J k',I t',.slice A' ks'.length c',.slice B' ys.length e'] 27),(b1,.cells #[J k,I t,.slice A ks.length c,.slice B xs.length e] 27)] w) _ ⟨0,O,(Nat.zero_le _),Da,I7,hF⟩ ?_;rintro μ σ w ⟨j,rfl,hj,ha,hs,hF⟩;refine Cg.slots hs ?_;clear hs;intro σ;refine Ha (Ja (Ca (Kb O) (Ca (Xb Of O) (Yc (Rf xQ O hF.F 1 O O) (Ca (Ye dX O) (Ca (Kl O O) (Ea ?_)))))));refine Pc O O (λhc1=>?_) (λhc1=>?_);refine Ta (Ia (Ha (Va (Ha ?_))));refine If (zs:=.of []) (bQ [0,1,2,3,4,5,6,7,8,9,10] .nil) hF ?_;intro w hF;refine Hb O (Xb Of O) (Hl O (Rf xQ O C0 1 O O) (Hb O (Kb O) ?_));obtain⟨ad3,hA3,hk3,hx3⟩:=hK.str_elem (i:=j) sX;refine Qa O (v:=.pointer (some (ad3.add (j*1)))) (λw hC=>Pa (i:=(j:Int)) Cr O hA3 O sX sX) (Qa O (v:=I (ks[j])) (λw hC=>Jb fZ O (hC.cell0 hk3)) (Hb O (Xb Of O) (Hl O (Rf xQ O C0 0 O O) (Hb O (Kb O) ?_))));obtain⟨ad4,hA4,hk4,hx4⟩:=hK'.str_elem (i:=j) sX;refine Qa O (v:=.pointer (some (ad4.add (j*1)))) (λw hC=>Pa (i:=(j:Int)) Cr O hA4 O sX sX) (Qa O (v:=I (ks'[j])) (λw hC=>Jb fZ O (hC.cell0 hk4)) (Hb O (yns O O) (Ec (Ia ?_))));refine Pc O O (λhc2=>?_) (λhc2=>?_);refine Ja (Ca (Hc O) (Ea ?_));refine Qd (v:=.bool false) O O ?_;refine⟨congrArg Value.bool (T3 (λhe=>?_)).symm,hF.same⟩;cases he;first|exact absurd rfl (by assumption)|(simp only[Jn]at hc4;cases hc4)
 refine Ta (Ib (Ia (Fa (Ca (Kb O) (Ca (Um O O) (Ca (Sc O) (Db ?_)))))));refine Yb ⟨_,?_,j+1,O,sX,(CD sX sX ha (by simpa using hc2)),I7,hF⟩;omega;refine Nc (Kc O ?_);refine Ia (Ha (Ja (Ca (Sc O) (Ea (Va ?_)))));refine Rc (λμ σ w=>∃(i:Nat),μ=xs.length-i/\(i<=xs.length)/\(xs.take i=ys.take i)/\AllEq σ [(2,V b1),(3,V b2),(6,J ((i:Int)))]/\FR w0 [] [(b2,.cells #[J k',I t',.slice A' ks'.length c',.slice B' ys.length e'] 27),(b1,.cells #[J k,I t,.slice A ks.length c,.slice B xs.length e] 27)] w) _ ⟨0,O,(Nat.zero_le _),Da,I7,hF⟩ ?_;rintro μ σ w ⟨i,rfl,hi,hb,hs,hF⟩;refine Cg.slots hs ?_;clear hs;intro σ;have hke:ks=ks':=by rw[List.take_of_length_le sX,List.take_of_length_le sX]at ha;exact ha
 refine Ha (Ja (Ca (Kb O) (Ca (Xb Jc O) (Yc (Rf yQ O hF.F 1 O O) (Ca (Ye fX O) (Ca (Kl O O) (Ea ?_)))))));refine Pc O O (λhc3=>?_) (λhc3=>?_);refine Ta (Ia (Ha (Va (Ha ?_))));refine If (zs:=.of []) (bQ [0,1,2,3,4,5,6,7,8,9] (.act 10 (.free 11 .nil))) hF ?_;intro w hF;refine Hb O (Xb Jc O) (Hl O (Rf yQ O C0 1 O O) (Hb O (Kb O) ?_));obtain⟨ad5,cs5,hA5,hl5,hk5,hx5⟩:=hX.tree_elem (i:=i) sX;have ho5:=hx5.one_;refine Qa O (v:=.pointer (some (ad5.add (i*4)))) (λw hC=>Pa (i:=(i:Int)) Hj O hA5 O sX sX) (Qa O (v:=.agg (List.toArray cs5)) (λw hC=>Ya (l:=cs5) aZ oZ O hl5 (hC.cells0 hk5)) (Hb O (Xb Jc O) (Hl O (Rf yQ O C0 0 O O) (Hb O (Kb O) ?_))));obtain⟨ad6,cs6,hA6,hl6,hk6,hx6⟩:=hY.tree_elem (i:=i) sX;have ho6:=hx6.one_;refine Qa O (v:=.pointer (some (ad6.add (i*4)))) (λw hC=>Pa (i:=(i:Int)) Hj O hA6 O sX sX) (Qa O (v:=.agg (List.toArray cs6)) (λw hC=>Ya (l:=cs6) aZ oZ O hl6 (hC.cells0 hk6)) ?_);refine Eh hF (ih _ (List.getElem_mem (l:=xs) (n:=i) sX) ys[i] _ _ _ _ _ (hF.rep hx5) (hF.rep hx6)) O (Za IX O O O) ?_;intro w hF;refine⟨hF,?_⟩;refine Hb O (Hc O) (Ec (Ia (Ja (Ca (Ae O) (Ca (Zj O) (Ea ?_))))));refine Uf O O (λhc4=>?_) (λhc4=>?_);refine Ja (Ca (Hc O) (Ea ?_));refine Qd (v:=.bool false) O O ?_;refine⟨congrArg Value.bool (T3 (λhe=>?_)).symm,hF.same⟩;cases he;first|exact absurd rfl (by assumption)|(simp only[Jn]at hc4;cases hc4)
 refine Ta (Ib (Ia (Fa (Ca (Kb O) (Ca (Um O O) (Ca (Sc O) (Db ?_)))))));refine Yb ⟨_,?_,i+1,O,sX,(CD sX sX hb ((V2 _ _).1 (by simpa using hc4))),I7,hF⟩;omega;refine Nc (Kc O ?_);refine Ia (Ja (Ca (Hc O) (Ea ?_)));refine Qd (v:=.bool true) O O ?_;have e3:xs=ys:=(by have h1:=hb;rw[List.take_of_length_le sX]at h1;rw[List.take_of_length_le sX]at h1;exact h1);have e1:k=k':=Classical.not_not.1 hg0;have e2:t=t':=Classical.not_not.1 hg1;subst hke e3 e1 e2;exact⟨congrArg Value.bool (Jn _).symm,hF.same⟩
theorem LR(x:Tree):EL x:=Tree.ind BP x
theorem XY(k:Int)(t:Str)(ks:List Str)(xs:List Tree)(ih:∀x,x∈xs->FewC x):FewC (.node k t ks xs):=by
 intro left deep S w0 cs h0 h1 h2 h3 hR;obtain⟨A,c,B,e,rfl,-,-,hK,hX⟩:=hR.tree_inv;have hXl:=hX.slice_len;have hKl:=hK.slice_len;refine Ga func19 O ntmps19 Fb (Oj _ _ _) ?_;have hF:=FR.start w0 [];refine Ja (Ve hF O ?_);rintro b1 w hb1 hF -;refine Ca (Sc O) (Ea (Ha (Ja (Ca (Kb O) (Ca (QB O O) (Ea ?_))))));refine Pc O O (λhc0=>?_) (λhc0=>?_);refine Ja (Ca (Sc O) (Ea ?_));refine Qd (v:=J ((-1))) O O ?_;exact⟨congrArg (Value.int .i64) (by rw[It,if_pos sX]),hF.same⟩;refine Ta (Ia (Ja (Ca (Kb O) (Ca (Hy O O) (Ca (Xb Of O) (Yc (Rf xQ O hF.F 0 O O) (Ca (Ye dX O) (Ca (Hy O O) (Ca (Sc O) (Ea (Ha ?_)))))))))));refine Ja (Ca (Sc O) (Ea (Va ?_)));refine Rc (λμ σ w=>∃(j:Nat),∃(lf:Int),μ=xs.length-j/\(j<=xs.length)/\(lf<=1000000)/\(Eo (left-1-ks.length) deep xs=Eo lf deep (xs.drop j))/\AllEq σ [(1,J lf),(2,J deep),(3,V b1),(7,J ((j:Int)))]/\FR w0 [] [(b1,.cells #[J k,I t,.slice A ks.length c,.slice B xs.length e] 27)] w) _ ⟨0,(left-1-ks.length),O,(Nat.zero_le _),sX,Da,Tq,hF⟩ ?_;rintro μ σ w ⟨j,lf,rfl,hj,hlf,hf,hs,hF⟩;refine Cg.slots hs ?_;clear hs;intro σ;refine Ha (Ja (Ca (Kb O) (Ca (Xb Jc O) (Yc (Rf yQ O hF.F 0 O O) (Ca (Ye fX O) (Ca (Kl O O) (Ca (Ae O) ?_)))))));refine Dd (d:=21) O (λhg0=>?_) (λhg0=>?_);refine Ca (Kb O) (Ca (GC O O) (Ca (Nd O O) (Ea ?_)));refine Pc O O (λhc1=>?_) (λhc1=>?_);refine Ta (Ia (Ha (Va (Fa (Ca (Xb Jc O) (Yc (Rf yQ O hF.F 0 O O) (Ca (Kb O) ?_)))))));obtain⟨ad1,cs1,hA1,hl1,hk1,hx1⟩:=hX.tree_elem (i:=j) sX;have ho1:=hx1.one_;refine Ka (v:=.pointer (some (ad1.add (j*4)))) (Pa (i:=(j:Int)) Hj O hA1 O sX sX) (Ka (v:=.agg (List.toArray cs1)) (Ya (l:=cs1) aZ oZ O hl1 (hF.cells0 hk1)) (Ca (Kb O) (Ca (Kb O) (Ca (Um O O) ?_))));refine Gb hF (ih _ (List.getElem_mem (l:=xs) (n:=j) sX) lf (deep+1) _ _ _ sX sX sX sX (hF.rep hx1)) (Ic en_19 O O O O) ?_
 intro w hF;refine Ca (Sc O) (Db (Ib (Ia (Fa (Ca (Kb O) (Ca (Um O O) (Ca (Sc O) (Db ?_))))))));refine Yb ⟨_,?_,j+1,It lf (deep+1) xs[j],O,sX,(by have:=fewT_le xs[j] lf (deep+1) sX;omega),(hf.trans (YO sX sX)),Tq,hF⟩;omega;refine Nc (Kc O ?_);refine Ia (Ja (Ca (Kb O) (Ca (Sc O) (Ea ?_))));refine Qd (v:=J lf) O O ⟨congrArg (Value.int .i64) ?_,hF.same⟩;rw[It,if_neg sX,hf]
 ·first|(rw[List.drop_eq_nil_of_le sX,Eo];done)|(rw[U3 sX])
 refine Oa (Oa (Ca (Md O O) (Ea (Kg O ?_))));refine Nc (Kc O ?_);refine Ia (Ja (Ca (Kb O) (Ca (Sc O) (Ea ?_))));refine Qd (v:=J lf) O O ⟨congrArg (Value.int .i64) ?_,hF.same⟩;rw[It,if_neg sX,hf]
 ·first|(rw[List.drop_eq_nil_of_le sX,Eo];done)|(rw[U3 sX])
theorem few_c(x:Tree):FewC x:=Tree.ind XY x
theorem RN(k:Int)(t:Str)(ks:List Str)(xs:List Tree)(ih:∀x,x∈xs->QO x):QO (.node k t ks xs):=by
  intro S w0 cs hR;obtain⟨A,c,B,e,rfl,-,-,hK,hX⟩:=hR.tree_inv;have hXl:=hX.slice_len;have hKl:=hK.slice_len;refine Ga func20 O ntmps20 Fb (Ad _) ?_;have hF:=FR.start w0 [];refine Ha (Fa ?_);refine Ve hF O ?_;intro b1 w hb1 hF hE;refine Ca (Hc O) (Db ?_);refine Ia (Ha ?_);refine Ha (Fa ?_);refine Ca (Xb Vh O) (Yc (Wy fZ O hF.F 0 O O) ?_);refine Ca (GI kX O) (Ca (QB O O) ?_);refine Db (Ia ?_);refine Pc O O (λhc0=>?_) (λhc0=>?_)
  ·
   refine Ha (Fa ?_);refine Ca (Hc O) (Db ?_);refine Ia (Qd (v:=.bool false) O O ?_);exact⟨congrArg Value.bool (by rw[Rm,decide_eq_false sX];rfl),hF.same⟩
  refine Ta (Ia ?_);refine Ha (Ha ?_);refine Fa (Ca (Sc O) ?_);refine Db (Ia ?_);refine Va (Rc (λμ σ w=>∃(j:Nat),μ=ks.length-j/\(j<=ks.length)/\(∀i (hi:i<j) (hk:i<ks.length),ks[i].length<=1024)/\AllEq σ [(1,V b1),(3,J ((j:Int)))]/\FR w0 [] [(b1,.cells #[J k,I t,.slice A ks.length c,.slice B xs.length e] 27)] w) _ ⟨0,O,(Nat.zero_le _),(λi hi=>absurd hi sX),ED,hF⟩ ?_);rintro μ σ w ⟨j,rfl,hj,ha,hs,hF⟩;refine Cg.slots hs ?_;clear hs;intro σ;refine Ha (Ha ?_);refine Fa (Ca (Kb O) ?_);refine Ca (Xb Of O) (Yc (Rf xQ O hF.F 0 O O) ?_);refine Ca (Ye dX O) (Ca (Kl O O) ?_);refine Db (Ia ?_);refine Pc O O (λhc1=>?_) (λhc1=>?_)
  ·
   refine Ta (Ia ?_);refine Ha (Va ?_);refine Ha (Fa ?_);refine Ca (Xb Of O) (Yc (Rf xQ O hF.F 0 O O) ?_);refine Ca (Kb O) ?_;obtain⟨ad0,hA0,hk0,hx0⟩:=hK.str_elem (i:=j) sX;refine Ka (v:=.pointer (some (ad0.add (j*1)))) (Pa (i:=(j:Int)) Cr O hA0 O sX sX) (Ka (v:=I (ks[j])) (Jb fZ O (hF.cell0 hk0)) ?_);refine Ca (GI kX O) (Ca (QB O O) ?_);refine Db (Ia ?_);refine Pc O O (λhc2=>?_) (λhc2=>?_)
   ·
    refine Ha (Fa ?_);refine Ca (Hc O) (Db ?_);refine Ia (Qd (v:=.bool false) O O ?_);have hno:ks.all (λk=>decide (k.length<=1024))=false:=by
      rw[Bool.eq_false_iff];intro hall;have:=List.all_eq_true.1 hall ks[j] (eQ _);simp only[decide_eq_true_eq]at this;omega
    exact⟨congrArg Value.bool (by rw[Rm,hno,Bool.and_false];rfl),hF.same⟩
   refine Ta (Ib ?_);refine Ia (Fa ?_);refine Ca (Kb O) (Ca (Um O O) ?_);refine Ca (Sc O) (Db ?_);refine Yb ⟨_,?_,j+1,rfl,sX,(λi hi hk=>by rcases Nat.lt_or_ge i j with h|h;exact ha i h hk;obtain rfl:i=j:=sX;omega),ED,hF⟩;omega
  refine Nc (Kc O ?_);refine Ia (Ha ?_);refine Ha (Fa ?_);refine Ca (Sc O) (Db ?_);refine Ia (Va ?_);refine Rc (λμ σ w=>∃(i:Nat),μ=xs.length-i/\(i<=xs.length)/\(∀m (hm:m<i) (hk:m<xs.length),Rm xs[m]=true)/\AllEq σ [(1,V b1),(4,J ((i:Int)))]/\FR w0 [] [(b1,.cells #[J k,I t,.slice A ks.length c,.slice B xs.length e] 27)] w) _ ⟨0,O,(Nat.zero_le _),(λi hi=>absurd hi sX),ED,hF⟩ ?_;rintro μ σ w ⟨i,rfl,hi,hb,hs,hF⟩;refine Cg.slots hs ?_;clear hs;intro σ;refine Ha (Ha ?_);refine Fa (Ca (Kb O) ?_);refine Ca (Xb Jc O) (Yc (Rf yQ O hF.F 0 O O) ?_);refine Ca (Ye fX O) (Ca (Kl O O) ?_);refine Db (Ia ?_);refine Pc O O (λhc3=>?_) (λhc3=>?_)
  ·
   refine Ta (Ia ?_);refine Ha (Va ?_);refine Ha (Fa ?_);refine Ca (Xb Jc O) (Yc (Rf yQ O hF.F 0 O O) ?_);refine Ca (Kb O) ?_;obtain⟨ad1,cs1,hA1,hl1,hk1,hx1⟩:=hX.tree_elem (i:=i) sX;have ho1:=hx1.one_;refine Ka (v:=.pointer (some (ad1.add (i*4)))) (Pa (i:=(i:Int)) Hj O hA1 O sX sX) (Ka (v:=.agg (List.toArray cs1)) (Ya (l:=cs1) aZ oZ O hl1 (hF.cells0 hk1)) ?_);refine Gb hF (ih _ (List.getElem_mem (l:=xs) (n:=i) sX) _ _ _ (hF.rep hx1)) (Ra en_20 O O) ?_;intro w hF;refine Ca (Hc O) (Db ?_);refine Ia (Ha ?_);refine Fa (Ca (Ae O) ?_);refine Ca (Zj O) (Db ?_);refine Ia (Uf O O (λhc4=>?_) (λhc4=>?_))
   ·
    refine Ha (Fa ?_);refine Ca (Hc O) (Db ?_);refine Ia (Qd (v:=.bool false) O O ?_);exact⟨congrArg Value.bool (by rw[Rm,PI (List.getElem_mem (l:=xs) (n:=i) sX) (by simpa using hc4),Bool.and_false]),hF.same⟩
   refine Ta (Ib ?_);refine Ia (Fa ?_);refine Ca (Kb O) (Ca (Um O O) ?_);refine Ca (Sc O) (Db ?_);refine Yb ⟨_,?_,i+1,rfl,sX,(λm hm hk=>by rcases Nat.lt_or_ge m i with h|h;exact hb m h hk;obtain rfl:m=i:=sX;simpa using hc4),ED,hF⟩;omega
  refine Nc (Kc O ?_);refine Ia (Ha ?_);refine Fa (Ca (Hc O) ?_);refine Db (Ia ?_);refine Qd (v:=.bool true) O O ?_;have h1:ks.all (λk=>decide (k.length<=1024))=true:=by
    rw[List.all_eq_true];intro k hk;obtain⟨q,hq,rfl⟩:=List.getElem_of_mem hk;simp only[decide_eq_true_eq];exact ha q sX hq
  exact⟨congrArg Value.bool (by rw[Rm,h1,decide_eq_true sX,XJ (λm hm=>hb m sX hm)];rfl),hF.same⟩
theorem short_c(x:Tree):QO x:=Tree.ind RN x
theorem NW(x:Tree)(most:Int)(h0:0<=most)(h1:most<=1000000)(S:Nat->Prop)(w0:World)(cs:List Value)(hR:Rep S w0 (Zb x) cs):Calls prog 6 #[.agg cs.toArray,J most] w0 (Td λv w'=>v=.bool (M3 x most)/\Same [] w0 w'):=by
 have hl:cs.length=4:=hR.length.trans (Tc x);have ho:=hR.one_;refine Ga func6 O ntmps6 Fb (Zc _ _) ?_;have hF:=FR.start w0 [];refine Ja (Ar (v:=.agg (List.toArray cs)) (cs:=(List.toArray cs)) hF O O ?_);rintro b1 w hb1 hF -;refine Ca (Hc O) (Fc (Ka (v:=.agg (List.toArray cs)) (Ya (l:=cs) aZ oZ O hl (hF.cellsAll 0 O)) (Ca (Kb O) ?_)));refine Gb hF (few_c x most 0 S _ cs h0 h1 sX sX (hF.rep hR)) (Ic en_19 O O O O) ?_;intro w hF;refine Ca (Sc O) (Fc (Ca (Kb O) (Ca (GC O O) (Ca (Ae O) ?_))));refine Dd (d:=11) O (λhg0=>?_) (λhg0=>?_);refine Ka (v:=.agg (List.toArray cs)) (Ya (l:=cs) aZ oZ O hl (hF.cellsAll 0 O)) (Gb hF (short_c x S _ cs (hF.rep hR)) (Ra en_20 O O) ?_);intro w hF;refine Ca (Nd O O) (Ca (Hc O) (Ea ?_));refine Qd (v:=.bool _) O O ⟨congrArg Value.bool ?_,hF.same⟩;unfold M3
 first|(rw[decide_eq_true hg0];rfl)|(rw[decide_eq_false hg0];rfl)
 refine Oa (Oa (Ca (Md O O) (Ca (Hc O) (Ea ?_))));refine Qd (v:=.bool false) O O ⟨congrArg Value.bool ?_,hF.same⟩;unfold M3
 first|(rw[decide_eq_true hg0];rfl)|(rw[decide_eq_false hg0];rfl)
section
variable {P:Program}{w0 w w':World}{ids:List Nat}{ds:List D}
theorem Xi{P:Program}{ρ:Operand->Value}{o:Oper}{w w':World}{p:Prop}{_:Decidable p}(h:(execOp ρ o).run P w=.ok (.value (.bool (decide p))) w')(hp:p):(execOp ρ o).run P w=.ok (.value (.bool true)) w':=by rw[h,decide_eq_true hp]
theorem Je{P:Program}{ρ:Operand->Value}{o:Oper}{w w':World}{p:Prop}{_:Decidable p}(h:(execOp ρ o).run P w=.ok (.value (.bool (decide p))) w')(hp:¬p):(execOp ρ o).run P w=.ok (.value (.bool false)) w':=by rw[h,decide_eq_false hp]
theorem FR.rowX{bs:List (Nat × Obj)}(hF:FR w0 [] bs w)(i:Nat){b n:Nat}{l:List Value}{T:TypeId}(hi:bs[i]? = some (b,.cells l.toArray T))(hr:RX w0 ids w ds l)(hb:b∉ids)(hn:ds.length=n)(hm:n<=9223372036854775807) :
    RX w0 ids w [.slice ds] [W b n n]:=by
  refine .one (Rep.slice_mk hn.symm (gQ _) hm λ_=>⟨_,O,l,λj hj=>⟨?_,?_⟩,hr⟩)
  ·exact hF.cellsAll i hi j hj
  exact⟨hF.ge hi,hF.lt hi,hb,l.toArray,T,hF.heap hi⟩
theorem RX.tree{k:Int}{t:Str}{ks:List Str}{xs:List Tree}{v u:Value}(hk:-9223372036854775808<=k/\k<=9223372036854775807)(ht:t.length<=9223372036854775807)
    (h3:RX w0 ids w [Xd ks] [v]) (h4:RX w0 ids w [.slice (Gd xs)] [u]):RX w0 ids w [Zb (.node k t ks xs)] [J k,I t,v,u]:=.one (Rep.tree_mk hk ht h3.rep h4.rep)
theorem RX.nils{ids:List Nat}:RX w0 ids w [.slice []] [aQ]:=.one (Rep.nil_slice 0 sX none)
theorem RX.strs:∀{ks:List Str},(∀k∈ks,k.length<=9223372036854775807)->RX w0 ids w (ks.map Dq) (ks.map λk=>I k)
  | [],_=>RX.nil
  | k::ks,h=>RepL.cons_mk (Rep.lit_mk (v:=I k) (h k Da)) (RX.strs (λx hx=>h x (by simp[hx])))
theorem RX.str(t:Str)(ht:t.length<=9223372036854775807):RX w0 ids w [Zb (.node 4 t [] [])] [J 4,I t,aQ,aQ]:=RX.tree ⟨by omega,by omega⟩ ht RX.nils RX.nils
end
end Go.Scarf
