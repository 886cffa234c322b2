/- A part of the proof. -/
import Derived.Test.YtbhneplafiapdaaGreatDoorW16
set_option linter.all false
set_option maxHeartbeats 8000000
set_option maxRecDepth 10000
namespace Go.Scarf
open Go.RowKit Go.Proofs Go.Proofs.Tryz
mutual
def QP:Tree->Tree->Bool
  | .node k t ks xs,.node k' t' ks' ys=>decide (k=k')&&decide (t=t')&&decide (ks=ks')&&JC xs ys
def JC:List Tree->List Tree->Bool
  | [],[]=>true
  | x::xs,y::ys=>QP x y&&JC xs ys
  | _,_=>false
end
theorem MC:∀{xs ys:List Tree},(∀x∈xs,∀y,QP x y=true↔x=y)->(JC xs ys=true↔xs=ys)
  | [],[],_=>by simp[JC]
  | [],_::_,_=>by simp[JC]
  | _::_,[],_=>by simp[JC]
  | x :: xs, y :: ys, h => by
    rw[JC,Bool.and_eq_true,h x Ua y,MC (λz hz=>h z (by simp[hz]))];simp
theorem Iu(x:Tree):∀y,QP x y=true↔x=y:=Tree.ind (Q:=λx=>∀y,QP x y=true↔x=y) (λk t ks xs ih y=>by
  obtain⟨k',t',ks',ys⟩:=y;rw[QP,Bool.and_eq_true,Bool.and_eq_true,Bool.and_eq_true,MC ih];simp[and_assoc]) x
theorem Yj(x:Tree):QP x x=true:=(Iu x x).2 rfl
theorem Jv{x y:Tree}(h:x≠y):QP x y=false:=by rw[Bool.eq_false_iff];exact λe=>h ((Iu x y).1 e)
instance : DecidableEq Tree:=λx y=>if h:QP x y=true then .isTrue ((Iu x y).1 h) else .isFalse (λe=>h ((Iu x y).2 e))
theorem Q4{α:Type}{xs ys:List α}{j:Nat}(h:j<xs.length)(h2:j<ys.length)(ha:xs.take j=ys.take j)(he:xs[j]=ys[j]):xs.take (j+1)=ys.take (j+1):=by
  rw[iQ h,iQ h2,ha,he]
def SA(x:Tree):Prop:=∀y S S' w0 cs ct,Rep S w0 (Fc x) cs->Rep S' w0 (Fc y) ct->Calls prog 34 #[.agg cs.toArray,.agg ct.toArray] w0 (Vd λv w'=>v=.bool (QP x y)/\Same [] w0 w')
def B5(x:Tree):Prop:=∀S w0 cs,Rep S w0 (Fc x) cs->Ub x<=1000000000->(Jm x<=8796093022208)->AU 29 #[.agg cs.toArray] (Fc x) w0
mutual
def Qn(left deep:Int):Tree->Int|.node _ _ ks xs=>if 60<deep then -1 else Si (left-1-ks.length) deep xs
def Si(left deep:Int):List Tree->Int|[]=>left|x::xs=>if left<0 then left else Si (Qn left (deep+1) x) deep xs
end
mutual
def Ki:Tree->Bool|.node _ t ks xs=>decide (t.length<=2048)&&ks.all (λk=>decide (k.length<=1024))&&Pm xs
def Pm:List Tree->Bool|[]=>true|x::xs=>Ki x&&Pm xs
end
def Px(x:Tree)(most:Int):Bool:=decide (0<=Qn most 0 x)&&Ki x
theorem G_(deep:Int):∀(xs:List Tree)(left:Int),(∀x∈xs,∀l d:Int,0<=l->Qn l d x<=l)->Si left deep xs<=left
  | [],left,_=>by rw[Si];exact Int.le_refl _
  | x :: xs, left, h => by
    rw[Si];split
    ·exact Int.le_refl _
    have h1 := h x Ua left (deep + 1) U;have h2:=G_ deep xs (Qn left (deep+1) x) (λy hy=>h y (by simp[hy]));omega
theorem WP(x:Tree):∀l d:Int,0<=l->Qn l d x<=l:=Tree.ind (Q:=λx=>∀l d:Int,0<=l->Qn l d x<=l) (λk t ks xs ih l d hl=>by
  rw[Qn];split
  ·omega
  have := G_ d xs (l-1-ks.length) ih;omega) x
theorem Vu{left deep:Int}(h:left<0):∀xs:List Tree,Si left deep xs=left
  | []=>by rw[Si]
  | x::xs=>by rw[Si,if_pos h]
theorem Q_(x:Tree):∀l d:Int,0<=l->0<=d->0<=Qn l d x->Qn l d x=l-Ub x-Jm x/\d+Be x<=61:=Tree.ind (Q:=λx=>∀l d:Int,0<=l->0<=d->0<=Qn l d x->Qn l d x=l-Ub x-Jm x/\d+Be x<=61) (λk t ks xs ih l d hl hd h=>by
  rw[Qn]at h ⊢;split at h
  ·omega
  rename_i hd60
  rw[if_neg hd60];have key:∀(ys:List Tree),(∀y∈ys,y∈xs)->∀m:Int,0<=Si m d ys->Si m d ys=m-Ob ys-Xm ys/\d+1+Fd ys<=61:=by
    intro ys
    induction ys with
    | nil=>intro _ m hm;simp only[Si,Ob,Xm,Fd];omega
    | cons y ys ihy =>
      intro hm m h0;rw[Si]at h0 ⊢;split at h0
      ·omega
      rename_i hmm
      rw[if_neg hmm];obtain⟨a1,a2⟩:=ihy (λz hz=>hm z (by simp[hz])) _ h0;have h3:0<=Qn m (d+1) y:=by
        rcases Int.lt_or_le (Qn m (d+1) y) 0 with hlt|hge
        ·rw[Vu hlt]at h0;omega
        exact hge
      obtain⟨b1,b2⟩:=ih y (hm y Ua) m (d+1) U U h3;simp only[Ob,Xm,Fd];omega
  obtain⟨a1,a2⟩:=key xs (λ_ h=>h) _ h;rw[Ub,Jm,Be];omega) x
theorem K5{x:Tree}{most:Int}(hm:0<=most)(h:Px x most=true):(Ub x:Int)+Jm x<=most/\Be x<=61/\Ki x=true:=by
  unfold Px at h;rw[Bool.and_eq_true,decide_eq_true_eq]at h;obtain⟨a,b⟩:=Q_ x most 0 hm U h.1;exact⟨by omega,by omega,h.2⟩
theorem M_{left deep:Int}{xs:List Tree}{j:Nat}(h:j<xs.length)(h0:¬left<0):Si left deep (xs.drop j)=Si (Qn left (deep+1) xs[j]) deep (xs.drop (j+1)):=by
  rw[List.drop_eq_getElem_cons h,Si,if_neg h0]
def QU(x:Tree):Prop:=∀(left deep:Int) S w0 cs,0<=left->left<=1000000->0<=deep->deep<=61->Rep S w0 (Fc x) cs->Calls prog 27 #[.agg cs.toArray,J left,J deep] w0 (Vd λv w'=>v=J (Qn left deep x)/\Same [] w0 w')
def JB(x:Tree):Prop:=∀S w0 cs,Rep S w0 (Fc x) cs->Calls prog 28 #[.agg cs.toArray] w0 (Vd λv w'=>v=.bool (Ki x)/\Same [] w0 w')
theorem G8{xs:List Tree}{x:Tree}(h:x∈xs)(hs:Ki x=false):Pm xs=false:=by
  induction xs with
  | nil=>cases h
  | cons y ys ih =>
    rw[Pm];rcases oQ.1 h with rfl|h
    ·rw[hs];rfl
    rw[ih h,Bool.and_false]
theorem B_{xs:List Tree}(h:∀j (hj:j<xs.length),Ki xs[j]=true):Pm xs=true:=by
  induction xs with
  | nil=>rfl
  | cons y ys ih =>
    have h0:Ki y=true:=h 0 Ua;rw[Pm,h0,Bool.true_and];exact ih (λj hj=>by have:=h (j+1) (by simpa using hj);simpa using this)
theorem AC(k:Int)(t:Str)(ks:List Str)(xs:List Tree)(ih:∀x,x∈xs->SA x):SA (.node k t ks xs):=by
 rintro⟨k',t',ks',ys⟩ S S' w0 cs ct hR hR';obtain⟨A,c,B,e,rfl,-,-,hK,hX⟩:=hR.tree_inv;obtain⟨A',c',B',e',rfl,-,-,hK',hY⟩:=hR'.tree_inv;have hXl:=hX.slice_len;have hKl:=hK.slice_len;have hYl:=hY.slice_len;have hKl':=hK'.slice_len;refine Ka func34 O ntmps34 Mb (Ae _ _) ?_;have hF:=FR.start w0 [];refine Ia (Xf hF O ?_);rintro b1 w hb1 hF -;refine Xf hF O ?_;rintro b2 w hb2 hF -;refine Ca (Eb O) (Fa (Ha (Ia (Ca (Cd Pf O) (Ed (Jq yQ O hF.F 1 O O) (Ca (Cd Pf O) (Ed (Jq yQ O hF.F 0 O O) (Ca (Ep O O) (Ca (Xb O) ?_)))))))));refine Xa (d:=13) O (λhg0=>?_) (λhg0=>?_);refine Da (Da (Da (Da (Da (Ca (Rb O O) (Ca (Xb O) (Da (Da (Da (Da (Da (Da (Da ?_)))))))))))));refine Ca (Rb O O) (Ca (Xb O) (Da (Da (Da (Da (Da (Da (Da (Ca (Rb O O) (Fa (Od O (Ha ?_))))))))))));refine Ea (Ca (Eb O) (Fa ?_));refine Tc (v:=.bool false) O O ?_;refine⟨congrArg Value.bool (Jv (λhe=>?_)).symm,hF.same⟩;cases he;first|exact absurd rfl (by assumption)|(simp only[Yj]at hc4;cases hc4)
 refine Ca (Cd Le O) (Ed (Em dZ O hF.F 1 O O) (Ca (Cd Le O) (Ed (Em dZ O hF.F 0 O O) (Ca (VZ O O) (Ca (Jb O O) (Ca (Xb O) ?_))))));refine Xa (d:=20) O (λhg1=>?_) (λhg1=>?_);refine Da (Da (Da (Da (Da (Da (Da (Ca (Rb O O) (Ca (Xb O) (Da (Da (Da (Da (Da ?_)))))))))))));refine Da (Da (Ca (Rb O O) (Fa (Od O (Ia (Ca (Eb O) (Fa ?_)))))));refine Tc (v:=.bool false) O O ?_;refine⟨congrArg Value.bool (Jv (λhe=>?_)).symm,hF.same⟩;cases he;first|exact absurd rfl (by assumption)|(simp only[Yj]at hc4;cases hc4)
 refine Ca (Cd Pe O) (Ed (Mh vQ O hF.F 1 O O) (Ca (Rf pZ O) (Ca (Cd Pe O) (Ed (Mh vQ O hF.F 0 O O) (Ca (Rf pZ O) (Ca (Ep O O) (Ca (Jb O O) (Ca (Xb O) ?_))))))));refine Xa (d:=29) O (λhg2=>?_) (λhg2=>?_);refine Da (Da (Da (Da (Da (Da (Da (Ca (Rb O O) (Fa (Od O (Ia (Ca (Eb O) ?_)))))))))));refine Fa (Tc (v:=.bool false) O O ?_);refine⟨congrArg Value.bool (Jv (λhe=>?_)).symm,hF.same⟩;cases he;first|exact absurd rfl (by assumption)|(simp only[Yj]at hc4;cases hc4)
 refine Ca (Cd Rc O) (Ed (Mh wQ O hF.F 1 O O) (Ca (Rf qZ O) (Ca (Cd Rc O) (Ed (Mh wQ O hF.F 0 O O) (Ca (Rf qZ O) (Ca (Ep O O) (Ca (Jb O O) (Fa ?_))))))));refine Wb O O (λhc0=>?_) (λhc0=>?_);refine Ia (Ca (Eb O) (Fa ?_));refine Tc (v:=.bool false) O O ?_;refine⟨congrArg Value.bool (Jv (λhe=>?_)).symm,hF.same⟩;cases he;first|exact absurd rfl (by assumption)|(simp only[Yj]at hc4;cases hc4)
 refine Ma (Ga (Ha (Ia (Ca (Bc O) (Fa (Sa ?_))))));refine Gc (λμ σ w=>∃(j:Nat),μ=ks.length-j/\(j<=ks.length)/\(ks.take j=ks'.take j)/\AllEq σ [(2,V b1),(3,V b2),(5,J ((j:Int)))]/\FR w0 [] [(b2,.cells #[J k',I t',.slice A' ks'.length c',.slice B' ys.length e'] 27),(b1,.cells #[J k,I t,.slice A ks.length c,.slice B xs.length e] 27)] w) _ ⟨0,O,(Nat.zero_le _),Ua,Mk,hF⟩ ?_;rintro μ σ w ⟨j,rfl,hj,ha,hs,hF⟩;refine Cg.slots hs ?_;clear hs;intro σ;refine Ha (Ia (Ca (Db O) (Ca (Cd Pe O) (Ed (Mh vQ O hF.F 1 O O) (Ca (Rf pZ O) (Ca (Tg O O) (Fa ?_)))))));refine Wb O O (λhc1=>?_) (λhc1=>?_);refine Ma (Ga (Ha (Sa (Ha ?_))));refine Te (zs:=.of []) (bQ [0,1,2,3,4,5,6,7,8,9,10] .nil) hF ?_;intro w hF;refine Zc O (Cd Pe O) (Cp O (Mh vQ O C0 1 O O) (Zc O (Db O) ?_));obtain⟨ad3,hA3,hk3,hx3⟩:=hK.str_elem (i:=j) U;refine Pb O (v:=.pointer (some (ad3.add (j*1)))) (λw hC=>Qa (i:=(j:Int)) Tr O hA3 O U U) (Pb O (v:=I (ks[j])) (λw hC=>Oc dZ O (hC.cell0 hk3)) (Zc O (Cd Pe O) (Cp O (Mh vQ O C0 0 O O) (Zc O (Db O) ?_))));obtain⟨ad4,hA4,hk4,hx4⟩:=hK'.str_elem (i:=j) U;refine Pb O (v:=.pointer (some (ad4.add (j*1)))) (λw hC=>Qa (i:=(j:Int)) Tr O hA4 O U U) (Pb O (v:=I (ks'[j])) (λw hC=>Oc dZ O (hC.cell0 hk4)) (Zc O (VZ O O) (Xd (Ga ?_))));refine Wb O O (λhc2=>?_) (λhc2=>?_);refine Ia (Ca (Eb O) (Fa ?_));refine Tc (v:=.bool false) O O ?_;refine⟨congrArg Value.bool (Jv (λhe=>?_)).symm,hF.same⟩;cases he;first|exact absurd rfl (by assumption)|(simp only[Yj]at hc4;cases hc4)
 refine Ma (Ib (Ga (Ea (Ca (Db O) (Ca (Lk O O) (Ca (Bc O) (Ra ?_)))))));refine Za ⟨_,?_,j+1,O,U,(Q4 U U ha (by simpa using hc2)),Mk,hF⟩;omega;refine Zb (Vb O ?_);refine Ga (Ha (Ia (Ca (Bc O) (Fa (Sa ?_)))));refine Gc (λμ σ w=>∃(i:Nat),μ=xs.length-i/\(i<=xs.length)/\(xs.take i=ys.take i)/\AllEq σ [(2,V b1),(3,V b2),(6,J ((i:Int)))]/\FR w0 [] [(b2,.cells #[J k',I t',.slice A' ks'.length c',.slice B' ys.length e'] 27),(b1,.cells #[J k,I t,.slice A ks.length c,.slice B xs.length e] 27)] w) _ ⟨0,O,(Nat.zero_le _),Ua,Mk,hF⟩ ?_;rintro μ σ w ⟨i,rfl,hi,hb,hs,hF⟩;refine Cg.slots hs ?_;clear hs;intro σ;have hke:ks=ks':=by rw[List.take_of_length_le U,List.take_of_length_le U]at ha;exact ha
 refine Ha (Ia (Ca (Db O) (Ca (Cd Rc O) (Ed (Mh wQ O hF.F 1 O O) (Ca (Rf qZ O) (Ca (Tg O O) (Fa ?_)))))));refine Wb O O (λhc3=>?_) (λhc3=>?_);refine Ma (Ga (Ha (Sa (Ha ?_))));refine Te (zs:=.of []) (bQ [0,1,2,3,4,5,6,7,8,9] (.act 10 (.free 11 .nil))) hF ?_;intro w hF;refine Zc O (Cd Rc O) (Cp O (Mh wQ O C0 1 O O) (Zc O (Db O) ?_));obtain⟨ad5,cs5,hA5,hl5,hk5,hx5⟩:=hX.tree_elem (i:=i) U;have ho5:=hx5.one_;refine Pb O (v:=.pointer (some (ad5.add (i*4)))) (λw hC=>Qa (i:=(i:Int)) Zh O hA5 O U U) (Pb O (v:=.agg (List.toArray cs5)) (λw hC=>Hb (l:=cs5) xQ fZ O hl5 (hC.cells0 hk5)) (Zc O (Cd Rc O) (Cp O (Mh wQ O C0 0 O O) (Zc O (Db O) ?_))));obtain⟨ad6,cs6,hA6,hl6,hk6,hx6⟩:=hY.tree_elem (i:=i) U;have ho6:=hx6.one_;refine Pb O (v:=.pointer (some (ad6.add (i*4)))) (λw hC=>Qa (i:=(i:Int)) Zh O hA6 O U U) (Pb O (v:=.agg (List.toArray cs6)) (λw hC=>Hb (l:=cs6) xQ fZ O hl6 (hC.cells0 hk6)) ?_);refine Wf hF (ih _ (List.getElem_mem (l:=xs) (n:=i) U) ys[i] _ _ _ _ _ (hF.rep hx5) (hF.rep hx6)) O (Qb ET O O O) ?_;intro w hF;refine⟨hF,?_⟩;refine Zc O (Eb O) (Xd (Ga (Ia (Ca (Xb O) (Ca (Bi O) (Fa ?_))))));refine Je O O (λhc4=>?_) (λhc4=>?_);refine Ia (Ca (Eb O) (Fa ?_));refine Tc (v:=.bool false) O O ?_;refine⟨congrArg Value.bool (Jv (λhe=>?_)).symm,hF.same⟩;cases he;first|exact absurd rfl (by assumption)|(simp only[Yj]at hc4;cases hc4)
 refine Ma (Ib (Ga (Ea (Ca (Db O) (Ca (Lk O O) (Ca (Bc O) (Ra ?_)))))));refine Za ⟨_,?_,i+1,O,U,(Q4 U U hb ((Iu _ _).1 (by simpa using hc4))),Mk,hF⟩;omega;refine Zb (Vb O ?_);refine Ga (Ia (Ca (Eb O) (Fa ?_)));refine Tc (v:=.bool true) O O ?_;have e3:xs=ys:=(by have h1:=hb;rw[List.take_of_length_le U]at h1;rw[List.take_of_length_le U]at h1;exact h1);have e1:k=k':=Classical.not_not.1 hg0;have e2:t=t':=Classical.not_not.1 hg1;subst hke e3 e1 e2;exact⟨congrArg Value.bool (Yj _).symm,hF.same⟩
theorem FQ(x:Tree):SA x:=Tree.ind AC x
theorem VL(k:Int)(t:Str)(ks:List Str)(xs:List Tree)(ih:∀x,x∈xs->QU x):QU (.node k t ks xs):=by
 intro left deep S w0 cs h0 h1 h2 h3 hR;obtain⟨A,c,B,e,rfl,-,-,hK,hX⟩:=hR.tree_inv;have hXl:=hX.slice_len;have hKl:=hK.slice_len;refine Ka func27 O ntmps27 Mb (Yp _ _ _) ?_;have hF:=FR.start w0 [];refine Ia (Xf hF O ?_);rintro b1 w hb1 hF -;refine Ca (Bc O) (Fa (Ha (Ia (Ca (Db O) (Ca (Jo O O) (Fa ?_))))));refine Wb O O (λhc0=>?_) (λhc0=>?_);refine Ia (Ca (Bc O) (Fa ?_));refine Tc (v:=J ((-1))) O O ?_;exact⟨congrArg (Value.int .i64) (by rw[Qn,if_pos U]),hF.same⟩;refine Ma (Ga (Ia (Ca (Db O) (Ca (D1 O O) (Ca (Cd Pe O) (Ed (Mh vQ O hF.F 0 O O) (Ca (Rf pZ O) (Ca (D1 O O) (Ca (Bc O) (Fa (Ha ?_)))))))))));refine Ia (Ca (Bc O) (Fa (Sa ?_)));refine Gc (λμ σ w=>∃(j:Nat),∃(lf:Int),μ=xs.length-j/\(j<=xs.length)/\(lf<=1000000)/\(Si (left-1-ks.length) deep xs=Si lf deep (xs.drop j))/\AllEq σ [(1,J lf),(2,J deep),(3,V b1),(7,J ((j:Int)))]/\FR w0 [] [(b1,.cells #[J k,I t,.slice A ks.length c,.slice B xs.length e] 27)] w) _ ⟨0,(left-1-ks.length),O,(Nat.zero_le _),U,Ua,Fj,hF⟩ ?_;rintro μ σ w ⟨j,lf,rfl,hj,hlf,hf,hs,hF⟩;refine Cg.slots hs ?_;clear hs;intro σ;refine Ha (Ia (Ca (Db O) (Ca (Cd Rc O) (Ed (Mh wQ O hF.F 0 O O) (Ca (Rf qZ O) (Ca (Tg O O) (Ca (Xb O) ?_)))))));refine Xa (d:=21) O (λhg0=>?_) (λhg0=>?_);refine Ca (Db O) (Ca (Gt O O) (Ca (Rb O O) (Fa ?_)));refine Wb O O (λhc1=>?_) (λhc1=>?_);refine Ma (Ga (Ha (Sa (Ea (Ca (Cd Rc O) (Ed (Mh wQ O hF.F 0 O O) (Ca (Db O) ?_)))))));obtain⟨ad1,cs1,hA1,hl1,hk1,hx1⟩:=hX.tree_elem (i:=j) U;have ho1:=hx1.one_;refine Ja (v:=.pointer (some (ad1.add (j*4)))) (Qa (i:=(j:Int)) Zh O hA1 O U U) (Ja (v:=.agg (List.toArray cs1)) (Hb (l:=cs1) xQ fZ O hl1 (hF.cells0 hk1)) (Ca (Db O) (Ca (Db O) (Ca (Lk O O) ?_))));refine Ta hF (ih _ (List.getElem_mem (l:=xs) (n:=j) U) lf (deep+1) _ _ _ U U U U (hF.rep hx1)) (Ng MS O O O O) ?_
 intro w hF;refine Ca (Bc O) (Ra (Ib (Ga (Ea (Ca (Db O) (Ca (Lk O O) (Ca (Bc O) (Ra ?_))))))));refine Za ⟨_,?_,j+1,Qn lf (deep+1) xs[j],O,U,(by have:=WP xs[j] lf (deep+1) U;omega),(hf.trans (M_ U U)),Fj,hF⟩;omega;refine Zb (Vb O ?_);refine Ga (Ia (Ca (Db O) (Ca (Bc O) (Fa ?_))));refine Tc (v:=J lf) O O ⟨congrArg (Value.int .i64) ?_,hF.same⟩;rw[Qn,if_neg U,hf]
 ·first|(rw[List.drop_eq_nil_of_le U,Si];done)|(rw[Vu U])
 refine Da (Da (Ca (Jb O O) (Fa (If O ?_))));refine Zb (Vb O ?_);refine Ga (Ia (Ca (Db O) (Ca (Bc O) (Fa ?_))));refine Tc (v:=J lf) O O ⟨congrArg (Value.int .i64) ?_,hF.same⟩;rw[Qn,if_neg U,hf]
 ·first|(rw[List.drop_eq_nil_of_le U,Si];done)|(rw[Vu U])
theorem HX(x:Tree):QU x:=Tree.ind VL x
theorem EC(k:Int)(t:Str)(ks:List Str)(xs:List Tree)(ih:∀x,x∈xs->JB x):JB (.node k t ks xs):=by
  intro S w0 cs hR;obtain⟨A,c,B,e,rfl,-,-,hK,hX⟩:=hR.tree_inv;have hXl:=hX.slice_len;have hKl:=hK.slice_len;refine Ka func28 O ntmps28 Mb (Jc _) ?_;have hF:=FR.start w0 [];refine Ha (Ea ?_);refine Xf hF O ?_;intro b1 w hb1 hF hE;refine Ca (Eb O) (Ra ?_);refine Ga (Ha ?_);refine Ha (Ea ?_);refine Ca (Cd Le O) (Ed (Em dZ O hF.F 0 O O) ?_);refine Ca (Bj tZ O) (Ca (Jo O O) ?_);refine Ra (Ga ?_);refine Wb O O (λhc0=>?_) (λhc0=>?_)
  ·
   refine Ha (Ea ?_);refine Ca (Eb O) (Ra ?_);refine Ga (Tc (v:=.bool false) O O ?_);exact⟨congrArg Value.bool (by rw[Ki,decide_eq_false U];rfl),hF.same⟩
  refine Ma (Ga ?_);refine Ha (Ha ?_);refine Ea (Ca (Bc O) ?_);refine Ra (Ga ?_);refine Sa (Gc (λμ σ w=>∃(j:Nat),μ=ks.length-j/\(j<=ks.length)/\(∀i (hi:i<j) (hk:i<ks.length),ks[i].length<=1024)/\AllEq σ [(1,V b1),(3,J ((j:Int)))]/\FR w0 [] [(b1,.cells #[J k,I t,.slice A ks.length c,.slice B xs.length e] 27)] w) _ ⟨0,O,(Nat.zero_le _),(λi hi=>absurd hi U),Ms,hF⟩ ?_);rintro μ σ w ⟨j,rfl,hj,ha,hs,hF⟩;refine Cg.slots hs ?_;clear hs;intro σ;refine Ha (Ha ?_);refine Ea (Ca (Db O) ?_);refine Ca (Cd Pe O) (Ed (Mh vQ O hF.F 0 O O) ?_);refine Ca (Rf pZ O) (Ca (Tg O O) ?_);refine Ra (Ga ?_);refine Wb O O (λhc1=>?_) (λhc1=>?_)
  ·
   refine Ma (Ga ?_);refine Ha (Sa ?_);refine Ha (Ea ?_);refine Ca (Cd Pe O) (Ed (Mh vQ O hF.F 0 O O) ?_);refine Ca (Db O) ?_;obtain⟨ad0,hA0,hk0,hx0⟩:=hK.str_elem (i:=j) U;refine Ja (v:=.pointer (some (ad0.add (j*1)))) (Qa (i:=(j:Int)) Tr O hA0 O U U) (Ja (v:=I (ks[j])) (Oc dZ O (hF.cell0 hk0)) ?_);refine Ca (Bj tZ O) (Ca (Jo O O) ?_);refine Ra (Ga ?_);refine Wb O O (λhc2=>?_) (λhc2=>?_)
   ·
    refine Ha (Ea ?_);refine Ca (Eb O) (Ra ?_);refine Ga (Tc (v:=.bool false) O O ?_);have hno:ks.all (λk=>decide (k.length<=1024))=false:=by
      rw[Bool.eq_false_iff];intro hall;have:=List.all_eq_true.1 hall ks[j] (eQ _);simp only[decide_eq_true_eq]at this;omega
    exact⟨congrArg Value.bool (by rw[Ki,hno,Bool.and_false];rfl),hF.same⟩
   refine Ma (Ib ?_);refine Ga (Ea ?_);refine Ca (Db O) (Ca (Lk O O) ?_);refine Ca (Bc O) (Ra ?_);refine Za ⟨_,?_,j+1,rfl,U,(λi hi hk=>by rcases Nat.lt_or_ge i j with h|h;exact ha i h hk;obtain rfl:i=j:=U;omega),Ms,hF⟩;omega
  refine Zb (Vb O ?_);refine Ga (Ha ?_);refine Ha (Ea ?_);refine Ca (Bc O) (Ra ?_);refine Ga (Sa ?_);refine Gc (λμ σ w=>∃(i:Nat),μ=xs.length-i/\(i<=xs.length)/\(∀m (hm:m<i) (hk:m<xs.length),Ki xs[m]=true)/\AllEq σ [(1,V b1),(4,J ((i:Int)))]/\FR w0 [] [(b1,.cells #[J k,I t,.slice A ks.length c,.slice B xs.length e] 27)] w) _ ⟨0,O,(Nat.zero_le _),(λi hi=>absurd hi U),Ms,hF⟩ ?_;rintro μ σ w ⟨i,rfl,hi,hb,hs,hF⟩;refine Cg.slots hs ?_;clear hs;intro σ;refine Ha (Ha ?_);refine Ea (Ca (Db O) ?_);refine Ca (Cd Rc O) (Ed (Mh wQ O hF.F 0 O O) ?_);refine Ca (Rf qZ O) (Ca (Tg O O) ?_);refine Ra (Ga ?_);refine Wb O O (λhc3=>?_) (λhc3=>?_)
  ·
   refine Ma (Ga ?_);refine Ha (Sa ?_);refine Ha (Ea ?_);refine Ca (Cd Rc O) (Ed (Mh wQ O hF.F 0 O O) ?_);refine Ca (Db O) ?_;obtain⟨ad1,cs1,hA1,hl1,hk1,hx1⟩:=hX.tree_elem (i:=i) U;have ho1:=hx1.one_;refine Ja (v:=.pointer (some (ad1.add (i*4)))) (Qa (i:=(i:Int)) Zh O hA1 O U U) (Ja (v:=.agg (List.toArray cs1)) (Hb (l:=cs1) xQ fZ O hl1 (hF.cells0 hk1)) ?_);refine Ta hF (ih _ (List.getElem_mem (l:=xs) (n:=i) U) _ _ _ (hF.rep hx1)) (Va AS O O) ?_;intro w hF;refine Ca (Eb O) (Ra ?_);refine Ga (Ha ?_);refine Ea (Ca (Xb O) ?_);refine Ca (Bi O) (Ra ?_);refine Ga (Je O O (λhc4=>?_) (λhc4=>?_))
   ·
    refine Ha (Ea ?_);refine Ca (Eb O) (Ra ?_);refine Ga (Tc (v:=.bool false) O O ?_);exact⟨congrArg Value.bool (by rw[Ki,G8 (List.getElem_mem (l:=xs) (n:=i) U) (by simpa using hc4),Bool.and_false]),hF.same⟩
   refine Ma (Ib ?_);refine Ga (Ea ?_);refine Ca (Db O) (Ca (Lk O O) ?_);refine Ca (Bc O) (Ra ?_);refine Za ⟨_,?_,i+1,rfl,U,(λm hm hk=>by rcases Nat.lt_or_ge m i with h|h;exact hb m h hk;obtain rfl:m=i:=U;simpa using hc4),Ms,hF⟩;omega
  refine Zb (Vb O ?_);refine Ga (Ha ?_);refine Ea (Ca (Eb O) ?_);refine Ra (Ga ?_);refine Tc (v:=.bool true) O O ?_;have h1:ks.all (λk=>decide (k.length<=1024))=true:=by
    rw[List.all_eq_true];intro k hk;obtain⟨q,hq,rfl⟩:=List.getElem_of_mem hk;simp only[decide_eq_true_eq];exact ha q U hq
  exact⟨congrArg Value.bool (by rw[Ki,h1,decide_eq_true U,B_ (λm hm=>hb m U hm)];rfl),hF.same⟩
theorem TQ(x:Tree):JB x:=Tree.ind EC x
theorem SM(x:Tree)(most:Int)(h0:0<=most)(h1:most<=1000000)(S:Nat->Prop)(w0:World)(cs:List Value)(hR:Rep S w0 (Fc x) cs):Calls prog 8 #[.agg cs.toArray,J most] w0 (Vd λv w'=>v=.bool (Px x most)/\Same [] w0 w'):=by
 have hl:cs.length=4:=hR.length.trans (Id x);have ho:=hR.one_;refine Ka func8 O ntmps8 Mb (Ae _ _) ?_;have hF:=FR.start w0 [];refine Ia (Ip (v:=.agg (List.toArray cs)) (cs:=(List.toArray cs)) hF O O ?_);rintro b1 w hb1 hF -;refine Ca (Eb O) (Ec (Ja (v:=.agg (List.toArray cs)) (Hb (l:=cs) xQ fZ O hl (hF.cellsAll 0 O)) (Ca (Db O) ?_)));refine Ta hF (HX x most 0 S _ cs h0 h1 U U (hF.rep hR)) (Ng MS O O O O) ?_;intro w hF;refine Ca (Bc O) (Ec (Ca (Db O) (Ca (Gt O O) (Ca (Xb O) ?_))));refine Xa (d:=11) O (λhg0=>?_) (λhg0=>?_);refine Ja (v:=.agg (List.toArray cs)) (Hb (l:=cs) xQ fZ O hl (hF.cellsAll 0 O)) (Ta hF (TQ x S _ cs (hF.rep hR)) (Va AS O O) ?_);intro w hF;refine Ca (Rb O O) (Ca (Eb O) (Fa ?_));refine Tc (v:=.bool _) O O ⟨congrArg Value.bool ?_,hF.same⟩;unfold Px
 first|(rw[decide_eq_true hg0];rfl)|(rw[decide_eq_false hg0];rfl)
 refine Da (Da (Ca (Jb O O) (Ca (Eb O) (Fa ?_))));refine Tc (v:=.bool false) O O ⟨congrArg Value.bool ?_,hF.same⟩;unfold Px
 first|(rw[decide_eq_true hg0];rfl)|(rw[decide_eq_false hg0];rfl)
theorem C9(k:Int)(t:Str)(ks:List Str)(xs:List Tree)(ih:∀x,x∈xs->B5 x):B5 (.node k t ks xs):=by
 intro S w0 cs hR hsz hky;rw[Ub]at hsz;rw[Jm]at hky;have hxn:=Mj xs;obtain⟨A,c,B,e,rfl,hk,ht,hK,hX⟩:=hR.tree_inv;have hXl:=hX.slice_len;obtain⟨eK,hrK,hKl,hKc⟩:=hK.slice_open (R3 ks);refine Ka func29 O ntmps29 Mb (Jc _) ?_;have hF:=FR.start w0 [];refine Ia (Xf hF O ?_);rintro b1 w hb1 hF -;refine Ve (cs:=#[J 0,I [],aQ,aQ]) hF vZ O ?_;rintro b2 w hb2 hF -;refine Fa (Ha ?_);refine Ce (λσ w=>∃(b4:Nat),∃(A0:Option Addr),∃(c0:Nat),∃(sa:List (Nat × Obj)),(SlB 9 1 A0 ks.length c0 eK sa)/\AllEq σ [(1,V b1),(2,V b2),(3,V b4)]/\FR w0 [] ([(b4,.cells #[J k,I t,.slice A0 ks.length c0,aQ] 27),(b2,.cells #[J 0,I [],aQ,aQ] 27),(b1,.cells #[J k,I t,.slice A ks.length c,.slice B xs.length e] 27)]++(sa++[])) w) ?_ ?_;refine Te (zs:=.of [10]) (bQ [0,1,2,3,5,6] (.alt 4 (.alt 7 (.free 8 (.act 9 (.act 10 .nil))) (.act 9 (.act 7 (.free 8 (.act 10 .nil))))) (cQ [9,4,7] (.free 8 (.act 10 .nil))))) hF ?_;intro w hF;refine Zc O (Cd Pf O) (Cp O (Jq yQ O C0 1 O O) (Zc O (Cd Le O) (Cp O (Em dZ O C0 1 O O) (Zc O (Cd Pe O) (Cp O (Mh vQ O C0 1 O O) ?_)))));refine Iw ?_ ?_;refine Oo 0 O hF (Gh pZ lZ) ?_;rintro b3 w hb3 hF -;refine⟨hF.drop 1,?_⟩;refine Iw ?_ ?_;have hS0:SlB 9 1 (some ⟨b3,0,none⟩) 0 0 [] [(b3,.cells #[] 9)]:=⟨by simp,.inr ⟨b3,#[],rfl,rfl,gQ _,Nat.zero_le _,by simp,by simp⟩⟩;have hF:=hF.toseg 0 rfl;refine Hn [(b2,.cells #[J 0,I [],aQ,aQ] 27),(b1,.cells #[J k,I t,.slice A ks.length c,.slice B xs.length e] 27)] [] (news:=eK) (len':=ks.length) (ys:=eK) rfl YE hF hS0 rfl rfl (by rw[hKl]) (λhk=>by obtain⟨ad,hA,hc⟩:=hKc hk;exact⟨ad,hA,Xe (hF.cells0 hc)⟩) (Mm hrK.one_) (by simp only[maxLen];omega) (Nat.zero_add _) (rfl) U ?_;intro A0 c0 a_0 w hS0_a hF hE hnew;refine⟨hF.mid 0 2,?_⟩;refine Pb O (v:=.agg #[J k,I t,.slice A0 ks.length c0,aQ]) (λw hC=>by kernel_rfl) (Bq O (v:=λb=>V b) (o:=.cells #[J 0,I [],aQ,aQ] 27) hF (Ii vZ) ?_)
 rintro b4 w hb4 hF -;refine⟨hF.mid 1 2,?_⟩;refine W1 O hF fZ O O Cj.app ?_;rintro w hF -;refine Xd ?_;exact Za ⟨(b4),(A0),(c0),(a_0),(hS0_a),Mk,(((hF.front 2 O).front 2 O).front 2 O)⟩;refine Bq O (v:=λb=>V b) (o:=.cells #[J 0,I [],aQ,aQ] 27) hF (Ii vZ) ?_;rintro b5 w hb5 hF -;refine⟨hF.drop 2,?_⟩;have hS0:SlB 9 1 (some ⟨b3,0,none⟩) 0 0 [] [(b3,.cells #[] 9)]:=⟨by simp,.inr ⟨b3,#[],rfl,rfl,gQ _,Nat.zero_le _,by simp,by simp⟩⟩;have hF:=hF.toseg 1 rfl;refine Hn [(b5,.cells #[J 0,I [],aQ,aQ] 27),(b2,.cells #[J 0,I [],aQ,aQ] 27),(b1,.cells #[J k,I t,.slice A ks.length c,.slice B xs.length e] 27)] [] (news:=eK) (len':=ks.length) (ys:=eK) rfl YE hF hS0 rfl rfl (by rw[hKl]) (λhk=>by obtain⟨ad,hA,hc⟩:=hKc hk;exact⟨ad,hA,Xe (hF.cells0 hc)⟩) (Mm hrK.one_) (by simp only[maxLen];omega) (Nat.zero_add _) (rfl) U ?_;intro A1 c1 a_1 w hS1_a hF hE hnew;refine⟨hF.mid 1 2,?_⟩;refine Pb O (v:=.agg #[J k,I t,.slice A1 ks.length c1,aQ]) (λw hC=>by kernel_rfl) (W1 O hF fZ O O Cj.app ?_);rintro w hF -;refine Xd ?_;exact Za ⟨(b5),(A1),(c1),(a_1),(hS1_a),Mk,(((hF.front 2 O).front 2 O).front 2 O)⟩;refine Bq O (v:=λb=>V b) (o:=.cells #[J 0,I [],aQ,aQ] 27) hF (Ii vZ) ?_;rintro b6 w hb6 hF -;refine⟨hF.drop 1,?_⟩;refine Oo 0 O hF (Gh pZ lZ) ?_;rintro b7 w hb7 hF -;refine⟨hF.drop 2,?_⟩;have hS0:SlB 9 1 (some ⟨b7,0,none⟩) 0 0 [] [(b7,.cells #[] 9)]:=⟨by simp,.inr ⟨b7,#[],rfl,rfl,gQ _,Nat.zero_le _,by simp,by simp⟩⟩;have hF:=hF.toseg 0 rfl;refine Hn [(b6,.cells #[J 0,I [],aQ,aQ] 27),(b2,.cells #[J 0,I [],aQ,aQ] 27),(b1,.cells #[J k,I t,.slice A ks.length c,.slice B xs.length e] 27)] [] (news:=eK) (len':=ks.length) (ys:=eK) rfl YE hF hS0 rfl rfl (by rw[hKl]) (λhk=>by obtain⟨ad,hA,hc⟩:=hKc hk;exact⟨ad,hA,Xe (hF.cells0 hc)⟩) (Mm hrK.one_) (by simp only[maxLen];omega) (Nat.zero_add _) (rfl) U ?_
 intro A2 c2 a_2 w hS2_a hF hE hnew;refine⟨hF.mid 1 2,?_⟩;refine Pb O (v:=.agg #[J k,I t,.slice A2 ks.length c2,aQ]) (λw hC=>by kernel_rfl) (W1 O hF fZ O O Cj.app ?_);rintro w hF -;refine Xd ?_;exact Za ⟨(b6),(A2),(c2),(a_2),(hS2_a),Mk,(((hF.front 2 O).front 2 O).front 2 O)⟩;rintro σ w ⟨b4,A0,c0,sa,hSa,hs,hF⟩;refine Eg.slots hs ?_;clear hs;intro σ;refine Ga (Ha (Ia (Ca (Bc O) (Fa (Sa ?_)))));refine Gc (λμ σ w=>∃(j:Nat),∃(A1:Option Addr),∃(c1:Nat),∃(sb:List (Nat × Obj)),∃(cs1:List Value),μ=xs.length-j/\(j<=xs.length)/\(SlB 27 4 A1 j c1 cs1 sb)/\(RX w0 ([b4,b2,b1]++(sa.map (·.1)++sb.map (·.1))) w (Ke (xs.take j)) cs1)/\AllEq σ [(1,V b1),(2,V b2),(3,V b4),(4,J ((j:Int)))]/\FR w0 [] ([(b4,.cells #[J k,I t,.slice A0 ks.length c0,.slice A1 j c1] 27),(b2,.cells #[J 0,I [],aQ,aQ] 27),(b1,.cells #[J k,I t,.slice A ks.length c,.slice B xs.length e] 27)]++(sa++(sb++[]))) w) _ ⟨0,none,0,[],[],O,(Nat.zero_le _),(SlB.nil _ _),(RX.nil),Fj,hF⟩ ?_;rintro μ σ w ⟨j,A1,c1,sb,cs1,rfl,hj,hS,hDX,hs,hF⟩;refine Cg.slots hs ?_;clear hs;intro σ;refine Ha (Ia (Ca (Db O) (Ca (Cd Rc O) (Ed (Mh wQ O hF.F 2 O O) (Ca (Rf qZ O) (Ca (Tg O O) (Fa ?_)))))));refine Wb O O (λhc0=>?_) (λhc0=>?_);refine Ma (Ga (Ha (Sa ?_)));refine Rj (.of [11]) (bQ [0,1,2,3,4,5,6] (cQ [7,8,9] (.free 10 (.act 11 .nil)))) hF ?_;intro w hF hE;have hDX:=hDX.ext hE;refine⟨λwq=>FR w0 [] [(b4,.cells #[J k,I t,.slice A0 ks.length c0,.slice A1 j c1] 27),(b2,.cells #[J 0,I [],aQ,aQ] 27),(b1,.cells #[J k,I t,.slice A ks.length c,.slice B xs.length e] 27)] wq,hF.mid 0 3,?_⟩;refine Zc O (Cd Rc O) (Cp O (Mh wQ O C0 0 O O) (Zc O (Cd Rc O) (Cp O (Mh wQ O C0 2 O O) (Zc O (Db O) ?_))));obtain⟨ad3,VG,hA3,hl3,hk3,hx3⟩:=hX.tree_elem (i:=j) U;have ho3:=hx3.one_;refine Pb O (v:=.pointer (some (ad3.add (j*4)))) (λw hC=>Qa (i:=(j:Int)) Zh O hA3 O U U) (Pb O (v:=.agg (List.toArray VG)) (λw hC=>Hb (l:=VG) xQ fZ O hl3 (hC.cells0 hk3)) ?_)
 refine Tf O (ih _ (List.getElem_mem (l:=xs) (n:=j) U) _ _ VG (hF.rep hx3) (by have:=Ef (List.getElem_mem (l:=xs) (n:=j) U);omega) (by have:=Ks (List.getElem_mem (l:=xs) (n:=j) U);omega)) (Va VS O O) ?_;rintro _ w ⟨ct,rfl,hRt,hE⟩;have hlt:ct.length=4:=hRt.length.trans (Id _);have hot:=hRt.one_;have hYX:=RX.made (ids:=[b4,b2,b1]++(sa.map (·.1)++sb.map (·.1))) hF.same.size (λx hx=>hF.lt_ids (by grind)) hRt;have hDX:=(hDX.ext hE).append hYX;have hF:=hF.ext hE;clear hE hYX;refine⟨hF.mid 0 3,?_⟩;refine Oo 1 O hF (V2 (l:=ct) qZ fZ vZ Cc Cc O hlt) ?_;intro b8 w hb8 hF hE;have hDX:=hDX.alloc hE hb8;refine⟨hF.mid 1 3,?_⟩;refine Hn ([(b8,.cells (List.toArray ct) 27),(b4,.cells #[J k,I t,.slice A0 ks.length c0,.slice A1 j c1] 27),(b2,.cells #[J 0,I [],aQ,aQ] 27),(b1,.cells #[J k,I t,.slice A ks.length c,.slice B xs.length e] 27)]++sa) [] (news:=ct) (len':=j+1) (ys:=cs1++ct) O WR hF hS O O (by rw[hlt]) (λ_=>⟨_,O,Xe (hF.cellsAll 0 O)⟩) (Mm hot) (by simp only[maxLen];omega) (O) (O) U ?_;intro A4 c4 i_4 w hS4_i hF hE hnew;have hDX:=hDX.step (ids':=[b8,b4,b2,b1]++(sa.map (·.1)++i_4.map (·.1))) hE (by grind) (by grind);refine⟨hF.mid 1 3,?_⟩;refine Zc O (Cd Rc O) (Vz O 1 (l:=[.slice (A4) (j+1) (c4)]) (cs':=#[J k,I t,.slice A0 ks.length c0,.slice (A4) (j+1) (c4)]) hF sizeOf25 O (v:=.slice (A4) (j+1) (c4)) O O ME O Mb O ?_);intro w hF hE;have hDX:=hDX.store hE (by grind);have hF:FR w0 [] ([(b8,.cells (List.toArray ct) 27),(b4,.cells #[J k,I t,.slice A0 ks.length c0,.slice (A4) (j+1) (c4)] 27),(b2,.cells #[J 0,I [],aQ,aQ] 27),(b1,.cells #[J k,I t,.slice A ks.length c,.slice B xs.length e] 27)]++(sa++(i_4++[]))) w:=hF;refine Xd (Ib (Ga (Ea (Ca (Db O) (Ca (Lk O O) (Ca (Bc O) (Ra ?_)))))));refine Za ⟨_,?_,j+1,A4,c4,i_4,cs1++ct,O,U,(by assumption),(by rw[Bx U];exact hDX.sub (by grind)),Fj,hF.drop 1⟩
 omega;refine Zb (Vb O ?_);refine Ga (Ia (Ed (Ej xQ fZ O hF.F 0 O O) ?_));refine Sj 1 (l:=[J k,I t,.slice A0 ks.length c0,.slice A1 j c1]) (cs':=#[J k,I t,.slice A0 ks.length c0,.slice A1 j c1]) hF fZ O (v:=.agg #[J k,I t,.slice A0 ks.length c0,.slice A1 j c1]) O O ME O Mb O ?_;intro w hF hE;have hDX:=hDX.store hE (by grind);have hF:FR w0 [] ([(b4,.cells #[J k,I t,.slice A0 ks.length c0,.slice A1 j c1] 27),(b2,.cells #[J k,I t,.slice A0 ks.length c0,.slice A1 j c1] 27),(b1,.cells #[J k,I t,.slice A ks.length c,.slice B xs.length e] 27)]++(sa++(sb++[]))) w:=hF;refine Fa (Gb (Fb (Pa (Kp O (l:=[J k,I t,.slice A0 ks.length c0,.slice A1 j c1]) O xQ fZ O (hF.cellsAll 1 O)) ?_)));have ej:j=xs.length:=by omega
 subst ej;rw[List.take_length]at hDX;refine⟨_,O,?_,hF.same⟩;have hKX:RX w0 [] w (ks.map Lp) eK:=hrK.lits;exact Rep.tree_mk hk ht (hSa.rep (pre:=[_,_,_]) (post:=sb++[]) hF hKX Ua) (hS.rep (pre:=[_,_,_]++sa) (post:=[]) (by simpa using hF) hDX Ua)
theorem QJ(x:Tree):B5 x:=Tree.ind C9 x
section
variable {P:Program}{w0 w w':World}{ids:List Nat}{ds:List D}
theorem Eh{P:Program}{ρ:Operand->Value}{o:Oper}{w w':World}{p:Prop}{_:Decidable p}(h:(execOp ρ o).run P w=.ok (.value (.bool (decide p))) w')(hp:p):(execOp ρ o).run P w=.ok (.value (.bool true)) w':=by rw[h,decide_eq_true hp]
theorem Nj{P:Program}{ρ:Operand->Value}{o:Oper}{w w':World}{p:Prop}{_:Decidable p}(h:(execOp ρ o).run P w=.ok (.value (.bool (decide p))) w')(hp:¬p):(execOp ρ o).run P w=.ok (.value (.bool false)) w':=by rw[h,decide_eq_false hp]
theorem FR.rowX{bs:List (Nat × Obj)}(hF:FR w0 [] bs w)(i:Nat){b n:Nat}{l:List Value}{T:TypeId}(hi:bs[i]? = some (b,.cells l.toArray T))(hr:RX w0 ids w ds l)(hb:b∉ids)(hn:ds.length=n)(hm:n<=9223372036854775807) :
    RX w0 ids w [.slice ds] [W b n n]:=by
  refine .one (Rep.slice_mk hn.symm (gQ _) hm λ_=>⟨_,O,l,λj hj=>⟨?_,?_⟩,hr⟩)
  ·exact hF.cellsAll i hi j hj
  exact⟨hF.ge hi,hF.lt hi,hb,l.toArray,T,hF.heap hi⟩
theorem RX.tree{k:Int}{t:Str}{ks:List Str}{xs:List Tree}{v u:Value}(hk:-9223372036854775808<=k/\k<=9223372036854775807)(ht:t.length<=9223372036854775807)
    (h3:RX w0 ids w [Ug ks] [v]) (h4:RX w0 ids w [.slice (Ke xs)] [u]):RX w0 ids w [Fc (.node k t ks xs)] [J k,I t,v,u]:=.one (Rep.tree_mk hk ht h3.rep h4.rep)
theorem RX.nils{ids:List Nat}:RX w0 ids w [.slice []] [aQ]:=.one (Rep.nil_slice 0 U none)
theorem RX.str(t:Str)(ht:t.length<=9223372036854775807):RX w0 ids w [Fc (.node 4 t [] [])] [J 4,I t,aQ,aQ]:=RX.tree ⟨by omega,by omega⟩ ht RX.nils RX.nils
end
end Go.Scarf
