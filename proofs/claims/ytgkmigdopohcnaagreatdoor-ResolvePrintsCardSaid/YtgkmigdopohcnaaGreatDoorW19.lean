/- A part of the proof. -/
import Derived.Test.YtgkmigdopohcnaaGreatDoorW16
set_option linter.all false
set_option maxHeartbeats 8000000
set_option maxRecDepth 10000
namespace Go.Scarf
open Go.RowKit Go.Proofs Go.Proofs.Tryz
mutual
def eqT:Tree->Tree->Bool
  | .node k t ks xs,.node k' t' ks' ys=>decide (k=k')&&decide (t=t')&&decide (ks=ks')&&ML xs ys
def ML:List Tree->List Tree->Bool
  | [],[]=>true
  | x::xs,y::ys=>eqT x y&&ML xs ys
  | _,_=>false
end
theorem QO:∀{xs ys:List Tree},(∀x∈xs,∀y,eqT x y=true↔x=y)->(ML xs ys=true↔xs=ys)
  | [],[],_=>by simp[ML]
  | [],_::_,_=>by simp[ML]
  | _::_,[],_=>by simp[ML]
  | x :: xs, y :: ys, h => by
    rw[ML,Bool.and_eq_true,h x Ma y,QO (λz hz=>h z (by simp[hz]))];simp
theorem J0(x:Tree):∀y,eqT x y=true↔x=y:=Tree.ind (Q:=λx=>∀y,eqT x y=true↔x=y) (λk t ks xs ih y=>by
  obtain⟨k',t',ks',ys⟩:=y;rw[eqT,Bool.and_eq_true,Bool.and_eq_true,Bool.and_eq_true,QO ih];simp[and_assoc]) x
theorem Xj(x:Tree):eqT x x=true:=(J0 x x).2 rfl
theorem W1{x y:Tree}(h:x≠y):eqT x y=false:=by rw[Bool.eq_false_iff];exact λe=>h ((J0 x y).1 e)
instance : DecidableEq Tree:=λx y=>if h:eqT x y=true then .isTrue ((J0 x y).1 h) else .isFalse (λe=>h ((J0 x y).2 e))
theorem X9{α:Type}{xs ys:List α}{j:Nat}(h:j<xs.length)(h2:j<ys.length)(ha:xs.take j=ys.take j)(he:xs[j]=ys[j]):xs.take (j+1)=ys.take (j+1):=by
  rw[iQ h,iQ h2,ha,he]
def QL(x:Tree):Prop:=∀y S S' w0 cs ct,Rep S w0 (Pb x) cs->Rep S' w0 (Pb y) ct->Calls prog 19 #[.agg cs.toArray,.agg ct.toArray] w0 (Dd λv w'=>v=.bool (eqT x y)/\Same [] w0 w')
mutual
def Kr(left deep:Int):Tree->Int|.node _ _ ks xs=>if 60<deep then -1 else Gm (left-1-ks.length) deep xs
def Gm(left deep:Int):List Tree->Int|[]=>left|x::xs=>if left<0 then left else Gm (Kr left (deep+1) x) deep xs
end
mutual
def Ll:Tree->Bool|.node _ t ks xs=>decide (t.length<=2048)&&ks.all (λk=>decide (k.length<=1024))&&Wp xs
def Wp:List Tree->Bool|[]=>true|x::xs=>Ll x&&Wp xs
end
def Z3(x:Tree)(most:Int):Bool:=decide (0<=Kr most 0 x)&&Ll x
theorem DI(deep:Int):∀(xs:List Tree)(left:Int),(∀x∈xs,∀l d:Int,0<=l->Kr l d x<=l)->Gm left deep xs<=left
  | [],left,_=>by rw[Gm];exact Int.le_refl _
  | x :: xs, left, h => by
    rw[Gm];split
    ·exact Int.le_refl _
    have h1 := h x Ma left (deep + 1) Aa;have h2:=DI deep xs (Kr left (deep+1) x) (λy hy=>h y (by simp[hy]));omega
theorem fewT_le(x:Tree):∀l d:Int,0<=l->Kr l d x<=l:=Tree.ind (Q:=λx=>∀l d:Int,0<=l->Kr l d x<=l) (λk t ks xs ih l d hl=>by
  rw[Kr];split
  ·omega
  have := DI d xs (l-1-ks.length) ih;omega) x
theorem M1{left deep:Int}(h:left<0):∀xs:List Tree,Gm left deep xs=left
  | []=>by rw[Gm]
  | x::xs=>by rw[Gm,if_pos h]
theorem YL(x:Tree):∀l d:Int,0<=l->0<=d->0<=Kr l d x->Kr l d x=l-Qb x-Pu x/\d+Cd x<=61:=Tree.ind (Q:=λx=>∀l d:Int,0<=l->0<=d->0<=Kr l d x->Kr l d x=l-Qb x-Pu x/\d+Cd x<=61) (λk t ks xs ih l d hl hd h=>by
  rw[Kr]at h ⊢;split at h
  ·omega
  rename_i hd60
  rw[if_neg hd60];have key:∀(ys:List Tree),(∀y∈ys,y∈xs)->∀m:Int,0<=Gm m d ys->Gm m d ys=m-Dc ys-Tq ys/\d+1+Jd ys<=61:=by
    intro ys
    induction ys with
    | nil=>intro _ m hm;simp only[Gm,Dc,Tq,Jd];omega
    | cons y ys ihy =>
      intro hm m h0;rw[Gm]at h0 ⊢;split at h0
      ·omega
      rename_i hmm
      rw[if_neg hmm];obtain⟨a1,a2⟩:=ihy (λz hz=>hm z (by simp[hz])) _ h0;have h3:0<=Kr m (d+1) y:=by
        rcases Int.lt_or_le (Kr m (d+1) y) 0 with hlt|hge
        ·rw[M1 hlt]at h0;omega
        exact hge
      obtain⟨b1,b2⟩:=ih y (hm y Ma) m (d+1) Aa Aa h3;simp only[Dc,Tq,Jd];omega
  obtain⟨a1,a2⟩:=key xs (λ_ h=>h) _ h;rw[Qb,Pu,Cd];omega) x
theorem fewB_ok{x:Tree}{most:Int}(hm:0<=most)(h:Z3 x most=true):(Qb x:Int)+Pu x<=most/\Cd x<=61/\Ll x=true:=by
  unfold Z3 at h;rw[Bool.and_eq_true,decide_eq_true_eq]at h;obtain⟨a,b⟩:=YL x most 0 hm Aa h.1;exact⟨by omega,by omega,h.2⟩
theorem RJ{left deep:Int}{xs:List Tree}{j:Nat}(h:j<xs.length)(h0:¬left<0):Gm left deep (xs.drop j)=Gm (Kr left (deep+1) xs[j]) deep (xs.drop (j+1)):=by
  rw[List.drop_eq_getElem_cons h,Gm,if_neg h0]
def FewC(x:Tree):Prop:=∀(left deep:Int) S w0 cs,0<=left->left<=1000000->0<=deep->deep<=61->Rep S w0 (Pb x) cs->Calls prog 37 #[.agg cs.toArray,J left,J deep] w0 (Dd λv w'=>v=J (Kr left deep x)/\Same [] w0 w')
def UI(x:Tree):Prop:=∀S w0 cs,Rep S w0 (Pb x) cs->Calls prog 38 #[.agg cs.toArray] w0 (Dd λv w'=>v=.bool (Ll x)/\Same [] w0 w')
theorem KG{xs:List Tree}{x:Tree}(h:x∈xs)(hs:Ll x=false):Wp xs=false:=by
  induction xs with
  | nil=>cases h
  | cons y ys ih =>
    rw[Wp];rcases oQ.1 h with rfl|h
    ·rw[hs];rfl
    rw[ih h,Bool.and_false]
theorem LF{xs:List Tree}(h:∀j (hj:j<xs.length),Ll xs[j]=true):Wp xs=true:=by
  induction xs with
  | nil=>rfl
  | cons y ys ih =>
    have h0:Ll y=true:=h 0 Ma;rw[Wp,h0,Bool.true_and];exact ih (λj hj=>by have:=h (j+1) (by simpa using hj);simpa using this)
theorem GL(k:Int)(t:Str)(ks:List Str)(xs:List Tree)(ih:∀x,x∈xs->QL x):QL (.node k t ks xs):=by
 rintro⟨k',t',ks',ys⟩ S S' w0 cs ct hR hR';obtain⟨A,c,B,e,rfl,-,-,hK,hX⟩:=hR.tree_inv;obtain⟨A',c',B',e',rfl,-,-,hK',hY⟩:=hR'.tree_inv;have hXl:=hX.slice_len;have hKl:=hK.slice_len;have hYl:=hY.slice_len;have hKl':=hK'.slice_len;refine Ia func19 O ntmps19 Eb (Pc _ _) ?_;have hF:=FR.start w0 [];refine Ea (Oe hF O ?_);rintro b1 w hb1 hF -;refine Oe hF O ?_;rintro b2 w hb2 hF -;refine Ba (Db O) (Da (Ga (Ea (Ba (Ob Xd O) (Zb (Th eZ O hF.F 1 O O) (Ba (Ob Xd O) (Zb (Th eZ O hF.F 0 O O) (Ba (Vk O O) (Ba (Vb O) ?_)))))))));refine Ya (d:=13) O (λhg0=>?_) (λhg0=>?_);refine Ca (Ca (Ca (Ca (Ca (Ba (Tb O O) (Ba (Vb O) (Ca (Ca (Ca (Ca (Ca (Ca (Ca ?_)))))))))))));refine Ba (Tb O O) (Ba (Vb O) (Ca (Ca (Ca (Ca (Ca (Ca (Ca (Ba (Tb O O) (Da (Ad O (Ga ?_))))))))))));refine Ha (Ba (Db O) (Da ?_));refine Gc (v:=.bool false) O O ?_;refine⟨congrArg Value.bool (W1 (λhe=>?_)).symm,hF.same⟩;cases he;first|exact absurd rfl (by assumption)|(simp only[Xj]at hc4;cases hc4)
 refine Ba (Ob Wd O) (Zb (Pk jZ O hF.F 1 O O) (Ba (Ob Wd O) (Zb (Pk jZ O hF.F 0 O O) (Ba (yns O O) (Ba (Kb O O) (Ba (Vb O) ?_))))));refine Ya (d:=20) O (λhg1=>?_) (λhg1=>?_);refine Ca (Ca (Ca (Ca (Ca (Ca (Ca (Ba (Tb O O) (Ba (Vb O) (Ca (Ca (Ca (Ca (Ca ?_)))))))))))));refine Ca (Ca (Ba (Tb O O) (Da (Ad O (Ea (Ba (Db O) (Da ?_)))))));refine Gc (v:=.bool false) O O ?_;refine⟨congrArg Value.bool (W1 (λhe=>?_)).symm,hF.same⟩;cases he;first|exact absurd rfl (by assumption)|(simp only[Xj]at hc4;cases hc4)
 refine Ba (Ob Td O) (Zb (Xe yQ O hF.F 1 O O) (Ba (Ch yZ O) (Ba (Ob Td O) (Zb (Xe yQ O hF.F 0 O O) (Ba (Ch yZ O) (Ba (Vk O O) (Ba (Kb O O) (Ba (Vb O) ?_))))))));refine Ya (d:=29) O (λhg2=>?_) (λhg2=>?_);refine Ca (Ca (Ca (Ca (Ca (Ca (Ca (Ba (Tb O O) (Da (Ad O (Ea (Ba (Db O) ?_)))))))))));refine Da (Gc (v:=.bool false) O O ?_);refine⟨congrArg Value.bool (W1 (λhe=>?_)).symm,hF.same⟩;cases he;first|exact absurd rfl (by assumption)|(simp only[Xj]at hc4;cases hc4)
 refine Ba (Ob Xb O) (Zb (Xe zQ O hF.F 1 O O) (Ba (Ch zZ O) (Ba (Ob Xb O) (Zb (Xe zQ O hF.F 0 O O) (Ba (Ch zZ O) (Ba (Vk O O) (Ba (Kb O O) (Da ?_))))))));refine Ib O O (λhc0=>?_) (λhc0=>?_);refine Ea (Ba (Db O) (Da ?_));refine Gc (v:=.bool false) O O ?_;refine⟨congrArg Value.bool (W1 (λhe=>?_)).symm,hF.same⟩;cases he;first|exact absurd rfl (by assumption)|(simp only[Xj]at hc4;cases hc4)
 refine La (Fa (Ga (Ea (Ba (Gb O) (Da (Qa ?_))))));refine Jc (λμ σ w=>∃(j:Nat),μ=ks.length-j/\(j<=ks.length)/\(ks.take j=ks'.take j)/\AllEq σ [(2,V b1),(3,V b2),(5,J ((j:Int)))]/\FR w0 [] [(b2,.cells #[J k',I t',.slice A' ks'.length c',.slice B' ys.length e'] 25),(b1,.cells #[J k,I t,.slice A ks.length c,.slice B xs.length e] 25)] w) _ ⟨0,O,(Nat.zero_le _),Ma,Oq,hF⟩ ?_;rintro μ σ w ⟨j,rfl,hj,ha,hs,hF⟩;refine Cg.slots hs ?_;clear hs;intro σ;refine Ga (Ea (Ba (Za O) (Ba (Ob Td O) (Zb (Xe yQ O hF.F 1 O O) (Ba (Ch yZ O) (Ba (Di O O) (Da ?_)))))));refine Ib O O (λhc1=>?_) (λhc1=>?_);refine La (Fa (Ga (Qa (Ga ?_))));refine Md (zs:=.of []) (bQ [0,1,2,3,4,5,6,7,8,9,10] .nil) hF ?_;intro w hF;refine Jb O (Ob Td O) (Fg O (Xe yQ O C0 1 O O) (Jb O (Za O) ?_));obtain⟨ad3,hA3,hk3,hx3⟩:=hK.str_elem (i:=j) Aa;refine Cb O (v:=.pointer (some (ad3.add (j*1)))) (λw hC=>Sa (i:=(j:Int)) Ip O hA3 O Aa Aa) (Cb O (v:=I (ks[j])) (λw hC=>Qd jZ O (hC.cell0 hk3)) (Jb O (Ob Td O) (Fg O (Xe yQ O C0 0 O O) (Jb O (Za O) ?_))));obtain⟨ad4,hA4,hk4,hx4⟩:=hK'.str_elem (i:=j) Aa;refine Cb O (v:=.pointer (some (ad4.add (j*1)))) (λw hC=>Sa (i:=(j:Int)) Ip O hA4 O Aa Aa) (Cb O (v:=I (ks'[j])) (λw hC=>Qd jZ O (hC.cell0 hk4)) (Jb O (yns O O) (Hc (Fa ?_))));refine Ib O O (λhc2=>?_) (λhc2=>?_);refine Ea (Ba (Db O) (Da ?_));refine Gc (v:=.bool false) O O ?_;refine⟨congrArg Value.bool (W1 (λhe=>?_)).symm,hF.same⟩;cases he;first|exact absurd rfl (by assumption)|(simp only[Xj]at hc4;cases hc4)
 refine La (Bb (Fa (Ha (Ba (Za O) (Ba (Nl O O) (Ba (Gb O) (Ta ?_)))))));refine Hb ⟨_,?_,j+1,O,Aa,(X9 Aa Aa ha (by simpa using hc2)),Oq,hF⟩;omega;refine Ec (Ac O ?_);refine Fa (Ga (Ea (Ba (Gb O) (Da (Qa ?_)))));refine Jc (λμ σ w=>∃(i:Nat),μ=xs.length-i/\(i<=xs.length)/\(xs.take i=ys.take i)/\AllEq σ [(2,V b1),(3,V b2),(6,J ((i:Int)))]/\FR w0 [] [(b2,.cells #[J k',I t',.slice A' ks'.length c',.slice B' ys.length e'] 25),(b1,.cells #[J k,I t,.slice A ks.length c,.slice B xs.length e] 25)] w) _ ⟨0,O,(Nat.zero_le _),Ma,Oq,hF⟩ ?_;rintro μ σ w ⟨i,rfl,hi,hb,hs,hF⟩;refine Cg.slots hs ?_;clear hs;intro σ;have hke:ks=ks':=by rw[List.take_of_length_le Aa,List.take_of_length_le Aa]at ha;exact ha
 refine Ga (Ea (Ba (Za O) (Ba (Ob Xb O) (Zb (Xe zQ O hF.F 1 O O) (Ba (Ch zZ O) (Ba (Di O O) (Da ?_)))))));refine Ib O O (λhc3=>?_) (λhc3=>?_);refine La (Fa (Ga (Qa (Ga ?_))));refine Md (zs:=.of []) (bQ [0,1,2,3,4,5,6,7,8,9] (.act 10 (.free 11 .nil))) hF ?_;intro w hF;refine Jb O (Ob Xb O) (Fg O (Xe zQ O C0 1 O O) (Jb O (Za O) ?_));obtain⟨ad5,cs5,hA5,hl5,hk5,hx5⟩:=hX.tree_elem (i:=i) Aa;have ho5:=hx5.one_;refine Cb O (v:=.pointer (some (ad5.add (i*4)))) (λw hC=>Sa (i:=(i:Int)) Hg O hA5 O Aa Aa) (Cb O (v:=.agg (List.toArray cs5)) (λw hC=>Wa (l:=cs5) aZ nZ O hl5 (hC.cells0 hk5)) (Jb O (Ob Xb O) (Fg O (Xe zQ O C0 0 O O) (Jb O (Za O) ?_))));obtain⟨ad6,cs6,hA6,hl6,hk6,hx6⟩:=hY.tree_elem (i:=i) Aa;have ho6:=hx6.one_;refine Cb O (v:=.pointer (some (ad6.add (i*4)))) (λw hC=>Sa (i:=(i:Int)) Hg O hA6 O Aa Aa) (Cb O (v:=.agg (List.toArray cs6)) (λw hC=>Wa (l:=cs6) aZ nZ O hl6 (hC.cells0 hk6)) ?_);refine Ed hF (ih _ (List.getElem_mem (l:=xs) (n:=i) Aa) ys[i] _ _ _ _ _ (hF.rep hx5) (hF.rep hx6)) O (Xa NH O O O) ?_;intro w hF;refine⟨hF,?_⟩;refine Jb O (Db O) (Hc (Fa (Ea (Ba (Vb O) (Ba (Si O) (Da ?_))))));refine Le O O (λhc4=>?_) (λhc4=>?_);refine Ea (Ba (Db O) (Da ?_));refine Gc (v:=.bool false) O O ?_;refine⟨congrArg Value.bool (W1 (λhe=>?_)).symm,hF.same⟩;cases he;first|exact absurd rfl (by assumption)|(simp only[Xj]at hc4;cases hc4)
 refine La (Bb (Fa (Ha (Ba (Za O) (Ba (Nl O O) (Ba (Gb O) (Ta ?_)))))));refine Hb ⟨_,?_,i+1,O,Aa,(X9 Aa Aa hb ((J0 _ _).1 (by simpa using hc4))),Oq,hF⟩;omega;refine Ec (Ac O ?_);refine Fa (Ea (Ba (Db O) (Da ?_)));refine Gc (v:=.bool true) O O ?_;have e3:xs=ys:=(by have h1:=hb;rw[List.take_of_length_le Aa]at h1;rw[List.take_of_length_le Aa]at h1;exact h1);have e1:k=k':=Classical.not_not.1 hg0;have e2:t=t':=Classical.not_not.1 hg1;subst hke e3 e1 e2;exact⟨congrArg Value.bool (Xj _).symm,hF.same⟩
theorem K4(x:Tree):QL x:=Tree.ind GL x
theorem YU(k:Int)(t:Str)(ks:List Str)(xs:List Tree)(ih:∀x,x∈xs->FewC x):FewC (.node k t ks xs):=by
 intro left deep S w0 cs h0 h1 h2 h3 hR;obtain⟨A,c,B,e,rfl,-,-,hK,hX⟩:=hR.tree_inv;have hXl:=hX.slice_len;have hKl:=hK.slice_len;refine Ia func37 O ntmps37 Eb (Km _ _ _) ?_;have hF:=FR.start w0 [];refine Ea (Oe hF O ?_);rintro b1 w hb1 hF -;refine Ba (Gb O) (Da (Ga (Ea (Ba (Za O) (Ba (Ho O O) (Da ?_))))));refine Ib O O (λhc0=>?_) (λhc0=>?_);refine Ea (Ba (Gb O) (Da ?_));refine Gc (v:=J ((-1))) O O ?_;exact⟨congrArg (Value.int .i64) (by rw[Kr,if_pos Aa]),hF.same⟩;refine La (Fa (Ea (Ba (Za O) (Ba (P7 O O) (Ba (Ob Td O) (Zb (Xe yQ O hF.F 0 O O) (Ba (Ch yZ O) (Ba (P7 O O) (Ba (Gb O) (Da (Ga ?_)))))))))));refine Ea (Ba (Gb O) (Da (Qa ?_)));refine Jc (λμ σ w=>∃(j:Nat),∃(lf:Int),μ=xs.length-j/\(j<=xs.length)/\(lf<=1000000)/\(Gm (left-1-ks.length) deep xs=Gm lf deep (xs.drop j))/\AllEq σ [(1,J lf),(2,J deep),(3,V b1),(7,J ((j:Int)))]/\FR w0 [] [(b1,.cells #[J k,I t,.slice A ks.length c,.slice B xs.length e] 25)] w) _ ⟨0,(left-1-ks.length),O,(Nat.zero_le _),Aa,Ma,Om,hF⟩ ?_;rintro μ σ w ⟨j,lf,rfl,hj,hlf,hf,hs,hF⟩;refine Cg.slots hs ?_;clear hs;intro σ;refine Ga (Ea (Ba (Za O) (Ba (Ob Xb O) (Zb (Xe zQ O hF.F 0 O O) (Ba (Ch zZ O) (Ba (Di O O) (Ba (Vb O) ?_)))))));refine Ya (d:=21) O (λhg0=>?_) (λhg0=>?_);refine Ba (Za O) (Ba (Nw O O) (Ba (Tb O O) (Da ?_)));refine Ib O O (λhc1=>?_) (λhc1=>?_);refine La (Fa (Ga (Qa (Ha (Ba (Ob Xb O) (Zb (Xe zQ O hF.F 0 O O) (Ba (Za O) ?_)))))));obtain⟨ad1,cs1,hA1,hl1,hk1,hx1⟩:=hX.tree_elem (i:=j) Aa;have ho1:=hx1.one_;refine Ka (v:=.pointer (some (ad1.add (j*4)))) (Sa (i:=(j:Int)) Hg O hA1 O Aa Aa) (Ka (v:=.agg (List.toArray cs1)) (Wa (l:=cs1) aZ nZ O hl1 (hF.cells0 hk1)) (Ba (Za O) (Ba (Za O) (Ba (Nl O O) ?_))));refine Oa hF (ih _ (List.getElem_mem (l:=xs) (n:=j) Aa) lf (deep+1) _ _ _ Aa Aa Aa Aa (hF.rep hx1)) (Rf en_37 O O O O) ?_
 intro w hF;refine Ba (Gb O) (Ta (Bb (Fa (Ha (Ba (Za O) (Ba (Nl O O) (Ba (Gb O) (Ta ?_))))))));refine Hb ⟨_,?_,j+1,Kr lf (deep+1) xs[j],O,Aa,(by have:=fewT_le xs[j] lf (deep+1) Aa;omega),(hf.trans (RJ Aa Aa)),Om,hF⟩;omega;refine Ec (Ac O ?_);refine Fa (Ea (Ba (Za O) (Ba (Gb O) (Da ?_))));refine Gc (v:=J lf) O O ⟨congrArg (Value.int .i64) ?_,hF.same⟩;rw[Kr,if_neg Aa,hf]
 ·first|(rw[List.drop_eq_nil_of_le Aa,Gm];done)|(rw[M1 Aa])
 refine Ca (Ca (Ba (Kb O O) (Da (De O ?_))));refine Ec (Ac O ?_);refine Fa (Ea (Ba (Za O) (Ba (Gb O) (Da ?_))));refine Gc (v:=J lf) O O ⟨congrArg (Value.int .i64) ?_,hF.same⟩;rw[Kr,if_neg Aa,hf]
 ·first|(rw[List.drop_eq_nil_of_le Aa,Gm];done)|(rw[M1 Aa])
theorem few_c(x:Tree):FewC x:=Tree.ind YU x
theorem DJ(k:Int)(t:Str)(ks:List Str)(xs:List Tree)(ih:∀x,x∈xs->UI x):UI (.node k t ks xs):=by
  intro S w0 cs hR;obtain⟨A,c,B,e,rfl,-,-,hK,hX⟩:=hR.tree_inv;have hXl:=hX.slice_len;have hKl:=hK.slice_len;refine Ia func38 O ntmps38 Eb (Yb _) ?_;have hF:=FR.start w0 [];refine Ga (Ha ?_);refine Oe hF O ?_;intro b1 w hb1 hF hE;refine Ba (Db O) (Ta ?_);refine Fa (Ga ?_);refine Ga (Ha ?_);refine Ba (Ob Wd O) (Zb (Pk jZ O hF.F 0 O O) ?_);refine Ba (Fj jX O) (Ba (Ho O O) ?_);refine Ta (Fa ?_);refine Ib O O (λhc0=>?_) (λhc0=>?_)
  ·
   refine Ga (Ha ?_);refine Ba (Db O) (Ta ?_);refine Fa (Gc (v:=.bool false) O O ?_);exact⟨congrArg Value.bool (by rw[Ll,decide_eq_false Aa];rfl),hF.same⟩
  refine La (Fa ?_);refine Ga (Ga ?_);refine Ha (Ba (Gb O) ?_);refine Ta (Fa ?_);refine Qa (Jc (λμ σ w=>∃(j:Nat),μ=ks.length-j/\(j<=ks.length)/\(∀i (hi:i<j) (hk:i<ks.length),ks[i].length<=1024)/\AllEq σ [(1,V b1),(3,J ((j:Int)))]/\FR w0 [] [(b1,.cells #[J k,I t,.slice A ks.length c,.slice B xs.length e] 25)] w) _ ⟨0,O,(Nat.zero_le _),(λi hi=>absurd hi Aa),J4,hF⟩ ?_);rintro μ σ w ⟨j,rfl,hj,ha,hs,hF⟩;refine Cg.slots hs ?_;clear hs;intro σ;refine Ga (Ga ?_);refine Ha (Ba (Za O) ?_);refine Ba (Ob Td O) (Zb (Xe yQ O hF.F 0 O O) ?_);refine Ba (Ch yZ O) (Ba (Di O O) ?_);refine Ta (Fa ?_);refine Ib O O (λhc1=>?_) (λhc1=>?_)
  ·
   refine La (Fa ?_);refine Ga (Qa ?_);refine Ga (Ha ?_);refine Ba (Ob Td O) (Zb (Xe yQ O hF.F 0 O O) ?_);refine Ba (Za O) ?_;obtain⟨ad0,hA0,hk0,hx0⟩:=hK.str_elem (i:=j) Aa;refine Ka (v:=.pointer (some (ad0.add (j*1)))) (Sa (i:=(j:Int)) Ip O hA0 O Aa Aa) (Ka (v:=I (ks[j])) (Qd jZ O (hF.cell0 hk0)) ?_);refine Ba (Fj jX O) (Ba (Ho O O) ?_);refine Ta (Fa ?_);refine Ib O O (λhc2=>?_) (λhc2=>?_)
   ·
    refine Ga (Ha ?_);refine Ba (Db O) (Ta ?_);refine Fa (Gc (v:=.bool false) O O ?_);have hno:ks.all (λk=>decide (k.length<=1024))=false:=by
      rw[Bool.eq_false_iff];intro hall;have:=List.all_eq_true.1 hall ks[j] (eQ _);simp only[decide_eq_true_eq]at this;omega
    exact⟨congrArg Value.bool (by rw[Ll,hno,Bool.and_false];rfl),hF.same⟩
   refine La (Bb ?_);refine Fa (Ha ?_);refine Ba (Za O) (Ba (Nl O O) ?_);refine Ba (Gb O) (Ta ?_);refine Hb ⟨_,?_,j+1,rfl,Aa,(λi hi hk=>by rcases Nat.lt_or_ge i j with h|h;exact ha i h hk;obtain rfl:i=j:=Aa;omega),J4,hF⟩;omega
  refine Ec (Ac O ?_);refine Fa (Ga ?_);refine Ga (Ha ?_);refine Ba (Gb O) (Ta ?_);refine Fa (Qa ?_);refine Jc (λμ σ w=>∃(i:Nat),μ=xs.length-i/\(i<=xs.length)/\(∀m (hm:m<i) (hk:m<xs.length),Ll xs[m]=true)/\AllEq σ [(1,V b1),(4,J ((i:Int)))]/\FR w0 [] [(b1,.cells #[J k,I t,.slice A ks.length c,.slice B xs.length e] 25)] w) _ ⟨0,O,(Nat.zero_le _),(λi hi=>absurd hi Aa),J4,hF⟩ ?_;rintro μ σ w ⟨i,rfl,hi,hb,hs,hF⟩;refine Cg.slots hs ?_;clear hs;intro σ;refine Ga (Ga ?_);refine Ha (Ba (Za O) ?_);refine Ba (Ob Xb O) (Zb (Xe zQ O hF.F 0 O O) ?_);refine Ba (Ch zZ O) (Ba (Di O O) ?_);refine Ta (Fa ?_);refine Ib O O (λhc3=>?_) (λhc3=>?_)
  ·
   refine La (Fa ?_);refine Ga (Qa ?_);refine Ga (Ha ?_);refine Ba (Ob Xb O) (Zb (Xe zQ O hF.F 0 O O) ?_);refine Ba (Za O) ?_;obtain⟨ad1,cs1,hA1,hl1,hk1,hx1⟩:=hX.tree_elem (i:=i) Aa;have ho1:=hx1.one_;refine Ka (v:=.pointer (some (ad1.add (i*4)))) (Sa (i:=(i:Int)) Hg O hA1 O Aa Aa) (Ka (v:=.agg (List.toArray cs1)) (Wa (l:=cs1) aZ nZ O hl1 (hF.cells0 hk1)) ?_);refine Oa hF (ih _ (List.getElem_mem (l:=xs) (n:=i) Aa) _ _ _ (hF.rep hx1)) (Na en_38 O O) ?_;intro w hF;refine Ba (Db O) (Ta ?_);refine Fa (Ga ?_);refine Ha (Ba (Vb O) ?_);refine Ba (Si O) (Ta ?_);refine Fa (Le O O (λhc4=>?_) (λhc4=>?_))
   ·
    refine Ga (Ha ?_);refine Ba (Db O) (Ta ?_);refine Fa (Gc (v:=.bool false) O O ?_);exact⟨congrArg Value.bool (by rw[Ll,KG (List.getElem_mem (l:=xs) (n:=i) Aa) (by simpa using hc4),Bool.and_false]),hF.same⟩
   refine La (Bb ?_);refine Fa (Ha ?_);refine Ba (Za O) (Ba (Nl O O) ?_);refine Ba (Gb O) (Ta ?_);refine Hb ⟨_,?_,i+1,rfl,Aa,(λm hm hk=>by rcases Nat.lt_or_ge m i with h|h;exact hb m h hk;obtain rfl:m=i:=Aa;simpa using hc4),J4,hF⟩;omega
  refine Ec (Ac O ?_);refine Fa (Ga ?_);refine Ha (Ba (Db O) ?_);refine Ta (Fa ?_);refine Gc (v:=.bool true) O O ?_;have h1:ks.all (λk=>decide (k.length<=1024))=true:=by
    rw[List.all_eq_true];intro k hk;obtain⟨q,hq,rfl⟩:=List.getElem_of_mem hk;simp only[decide_eq_true_eq];exact ha q Aa hq
  exact⟨congrArg Value.bool (by rw[Ll,h1,decide_eq_true Aa,LF (λm hm=>hb m Aa hm)];rfl),hF.same⟩
theorem short_c(x:Tree):UI x:=Tree.ind DJ x
theorem CY(x:Tree)(most:Int)(h0:0<=most)(h1:most<=1000000)(S:Nat->Prop)(w0:World)(cs:List Value)(hR:Rep S w0 (Pb x) cs):Calls prog 14 #[.agg cs.toArray,J most] w0 (Dd λv w'=>v=.bool (Z3 x most)/\Same [] w0 w'):=by
 have hl:cs.length=4:=hR.length.trans (Yc x);have ho:=hR.one_;refine Ia func14 O ntmps14 Eb (Pc _ _) ?_;have hF:=FR.start w0 [];refine Ea (Jm (v:=.agg (List.toArray cs)) (cs:=(List.toArray cs)) hF O O ?_);rintro b1 w hb1 hF -;refine Ba (Db O) (Rb (Ka (v:=.agg (List.toArray cs)) (Wa (l:=cs) aZ nZ O hl (hF.cellsAll 0 O)) (Ba (Za O) ?_)));refine Oa hF (few_c x most 0 S _ cs h0 h1 Aa Aa (hF.rep hR)) (Rf en_37 O O O O) ?_;intro w hF;refine Ba (Gb O) (Rb (Ba (Za O) (Ba (Nw O O) (Ba (Vb O) ?_))));refine Ya (d:=11) O (λhg0=>?_) (λhg0=>?_);refine Ka (v:=.agg (List.toArray cs)) (Wa (l:=cs) aZ nZ O hl (hF.cellsAll 0 O)) (Oa hF (short_c x S _ cs (hF.rep hR)) (Na en_38 O O) ?_);intro w hF;refine Ba (Tb O O) (Ba (Db O) (Da ?_));refine Gc (v:=.bool _) O O ⟨congrArg Value.bool ?_,hF.same⟩;unfold Z3
 first|(rw[decide_eq_true hg0];rfl)|(rw[decide_eq_false hg0];rfl)
 refine Ca (Ca (Ba (Kb O O) (Ba (Db O) (Da ?_))));refine Gc (v:=.bool false) O O ⟨congrArg Value.bool ?_,hF.same⟩;unfold Z3
 first|(rw[decide_eq_true hg0];rfl)|(rw[decide_eq_false hg0];rfl)
theorem WP(A:Option Addr)(n c:Nat)(B:Option Addr)(m d:Nat)(w0:World):Calls prog 23 #[.slice A n c,.slice B m d] w0 (Dd λv w'=>v=.agg #[J 6,I [],.slice A n c,.slice B m d]/\Same [] w0 w'):=by
 refine Ia func23 O ntmps23 Eb (Pc _ _) ?_;have hF:=FR.start w0 [];refine Ea (Wc (cs:=#[J 0,I [],aQ,aQ]) hF lX O ?_);rintro b1 w hb1 hF -;refine Rb (Ba (Sf O) (Ba (Sf O) ?_));refine Ka (w':=w) (v:=.agg #[J 6,I [],.slice A n c,.slice B m d]) Ub (Ie hF nZ O O Zg ?_);rintro w hF -;refine Da (Va (Ua (Ja (Vi O (l:=[J 6,I [],.slice A n c,.slice B m d]) O aZ nZ O (hF.cellsAll 0 O)) ?_)));exact⟨O,hF.same⟩
abbrev n1T:Tree:=.node 3 [49] [] []
abbrev n2T:Tree:=.node 3 [50] [] []
abbrev xT:Tree:=.node 6 [] [[97],[98]] [n1T,n2T]
abbrev yT:Tree:=.node 6 [] [[98],[97]] [n2T,n1T]
section
variable {P:Program}{w0 w w':World}{ids:List Nat}{ds:List D}
theorem Lj{P:Program}{ρ:Operand->Value}{o:Oper}{w w':World}{p:Prop}{_:Decidable p}(h:(execOp ρ o).run P w=.ok (.value (.bool (decide p))) w')(hp:p):(execOp ρ o).run P w=.ok (.value (.bool true)) w':=by rw[h,decide_eq_true hp]
theorem Yf{P:Program}{ρ:Operand->Value}{o:Oper}{w w':World}{p:Prop}{_:Decidable p}(h:(execOp ρ o).run P w=.ok (.value (.bool (decide p))) w')(hp:¬p):(execOp ρ o).run P w=.ok (.value (.bool false)) w':=by rw[h,decide_eq_false hp]
theorem RX.tree{k:Int}{t:Str}{ks:List Str}{xs:List Tree}{v u:Value}(hk:-9223372036854775808<=k/\k<=9223372036854775807)(ht:t.length<=9223372036854775807)
    (h3:RX w0 ids w [Ni ks] [v]) (h4:RX w0 ids w [.slice (Pe xs)] [u]):RX w0 ids w [Pb (.node k t ks xs)] [J k,I t,v,u]:=.one (Rep.tree_mk hk ht h3.rep h4.rep)
theorem RX.nils{ids:List Nat}:RX w0 ids w [.slice []] [aQ]:=.one (Rep.nil_slice 0 Aa none)
theorem RX.strs:∀{ks:List Str},(∀k∈ks,k.length<=9223372036854775807)->RX w0 ids w (ks.map Cn) (ks.map λk=>I k)
  | [],_=>RX.nil
  | k::ks,h=>RepL.cons_mk (Rep.lit_mk (v:=I k) (h k Ma)) (RX.strs (λx hx=>h x (by simp[hx])))
theorem RX.str(t:Str)(ht:t.length<=9223372036854775807):RX w0 ids w [Pb (.node 4 t [] [])] [J 4,I t,aQ,aQ]:=RX.tree ⟨by omega,by omega⟩ ht RX.nils RX.nils
end
end Go.Scarf
