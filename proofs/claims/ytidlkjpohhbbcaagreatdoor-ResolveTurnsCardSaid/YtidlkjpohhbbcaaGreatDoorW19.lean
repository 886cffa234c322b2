/- A part of the proof. -/
import Derived.Test.YtidlkjpohhbbcaaGreatDoorW16
set_option linter.all false
set_option maxHeartbeats 8000000
set_option maxRecDepth 10000
namespace Go.Scarf
open Go.RowKit Go.Proofs Go.Proofs.Tryz
mutual
def eqT:Tree->Tree->Bool
  | .node k t ks xs,.node k' t' ks' ys=>decide (k=k')&&decide (t=t')&&decide (ks=ks')&&TO xs ys
def TO:List Tree->List Tree->Bool
  | [],[]=>true
  | x::xs,y::ys=>eqT x y&&TO xs ys
  | _,_=>false
end
theorem FU:∀{xs ys:List Tree},(∀x∈xs,∀y,eqT x y=true↔x=y)->(TO xs ys=true↔xs=ys)
  | [],[],_=>by simp[TO]
  | [],_::_,_=>by simp[TO]
  | _::_,[],_=>by simp[TO]
  | x :: xs, y :: ys, h => by
    rw[TO,Bool.and_eq_true,h x Oa y,FU (λz hz=>h z (by simp[hz]))];simp
theorem E1(x:Tree):∀y,eqT x y=true↔x=y:=Tree.ind (Q:=λx=>∀y,eqT x y=true↔x=y) (λk t ks xs ih y=>by
  obtain⟨k',t',ks',ys⟩:=y;rw[eqT,Bool.and_eq_true,Bool.and_eq_true,Bool.and_eq_true,FU ih];simp[and_assoc]) x
theorem Al(x:Tree):eqT x x=true:=(E1 x x).2 rfl
theorem M2{x y:Tree}(h:x≠y):eqT x y=false:=by rw[Bool.eq_false_iff];exact λe=>h ((E1 x y).1 e)
instance : DecidableEq Tree:=λx y=>if h:eqT x y=true then .isTrue ((E1 x y).1 h) else .isFalse (λe=>h ((E1 x y).2 e))
theorem UB{α:Type}{xs ys:List α}{j:Nat}(h:j<xs.length)(h2:j<ys.length)(ha:xs.take j=ys.take j)(he:xs[j]=ys[j]):xs.take (j+1)=ys.take (j+1):=by
  rw[iQ h,iQ h2,ha,he]
def GQ(x:Tree):Prop:=∀y S S' w0 cs ct,Rep S w0 (Ob x) cs->Rep S' w0 (Ob y) ct->Calls prog 34 #[.agg cs.toArray,.agg ct.toArray] w0 (Yc λv w'=>v=.bool (eqT x y)/\Same [] w0 w')
def KE(x:Tree):Prop:=∀S w0 cs,Rep S w0 (Ob x) cs->Nb x<=1000000000->(Pn x<=8796093022208)->QJ 17 #[.agg cs.toArray] (Ob x) w0
mutual
def Ws(left deep:Int):Tree->Int|.node _ _ ks xs=>if 60<deep then -1 else En (left-1-ks.length) deep xs
def En(left deep:Int):List Tree->Int|[]=>left|x::xs=>if left<0 then left else En (Ws left (deep+1) x) deep xs
end
mutual
def Jm:Tree->Bool|.node _ t ks xs=>decide (t.length<=2048)&&ks.all (λk=>decide (k.length<=1024))&&Fr xs
def Fr:List Tree->Bool|[]=>true|x::xs=>Jm x&&Fr xs
end
def Vn(x:Tree)(most:Int):Bool:=decide (0<=Ws most 0 x)&&Jm x
theorem OH(deep:Int):∀(xs:List Tree)(left:Int),(∀x∈xs,∀l d:Int,0<=l->Ws l d x<=l)->En left deep xs<=left
  | [],left,_=>by rw[En];exact Int.le_refl _
  | x :: xs, left, h => by
    rw[En];split
    ·exact Int.le_refl _
    have h1 := h x Oa left (deep + 1) Aa;have h2:=OH deep xs (Ws left (deep+1) x) (λy hy=>h y (by simp[hy]));omega
theorem fewT_le(x:Tree):∀l d:Int,0<=l->Ws l d x<=l:=Tree.ind (Q:=λx=>∀l d:Int,0<=l->Ws l d x<=l) (λk t ks xs ih l d hl=>by
  rw[Ws];split
  ·omega
  have := OH d xs (l-1-ks.length) ih;omega) x
theorem D3{left deep:Int}(h:left<0):∀xs:List Tree,En left deep xs=left
  | []=>by rw[En]
  | x::xs=>by rw[En,if_pos h]
theorem KN(x:Tree):∀l d:Int,0<=l->0<=d->0<=Ws l d x->Ws l d x=l-Nb x-Pn x/\d+Vc x<=61:=Tree.ind (Q:=λx=>∀l d:Int,0<=l->0<=d->0<=Ws l d x->Ws l d x=l-Nb x-Pn x/\d+Vc x<=61) (λk t ks xs ih l d hl hd h=>by
  rw[Ws]at h ⊢;split at h
  ·omega
  rename_i hd60
  rw[if_neg hd60];have key:∀(ys:List Tree),(∀y∈ys,y∈xs)->∀m:Int,0<=En m d ys->En m d ys=m-Ec ys-Rr ys/\d+1+Od ys<=61:=by
    intro ys
    induction ys with
    | nil=>intro _ m hm;simp only[En,Ec,Rr,Od];omega
    | cons y ys ihy =>
      intro hm m h0;rw[En]at h0 ⊢;split at h0
      ·omega
      rename_i hmm
      rw[if_neg hmm];obtain⟨a1,a2⟩:=ihy (λz hz=>hm z (by simp[hz])) _ h0;have h3:0<=Ws m (d+1) y:=by
        rcases Int.lt_or_le (Ws m (d+1) y) 0 with hlt|hge
        ·rw[D3 hlt]at h0;omega
        exact hge
      obtain⟨b1,b2⟩:=ih y (hm y Oa) m (d+1) Aa Aa h3;simp only[Ec,Rr,Od];omega
  obtain⟨a1,a2⟩:=key xs (λ_ h=>h) _ h;rw[Nb,Pn,Vc];omega) x
theorem QF{x:Tree}{most:Int}(hm:0<=most)(h:Vn x most=true):(Nb x:Int)+Pn x<=most/\Vc x<=61/\Jm x=true:=by
  unfold Vn at h;rw[Bool.and_eq_true,decide_eq_true_eq]at h;obtain⟨a,b⟩:=KN x most 0 hm Aa h.1;exact⟨by omega,by omega,h.2⟩
theorem CN{left deep:Int}{xs:List Tree}{j:Nat}(h:j<xs.length)(h0:¬left<0):En left deep (xs.drop j)=En (Ws left (deep+1) xs[j]) deep (xs.drop (j+1)):=by
  rw[List.drop_eq_getElem_cons h,En,if_neg h0]
def FewC(x:Tree):Prop:=∀(left deep:Int) S w0 cs,0<=left->left<=1000000->0<=deep->deep<=61->Rep S w0 (Ob x) cs->Calls prog 47 #[.agg cs.toArray,J left,J deep] w0 (Yc λv w'=>v=J (Ws left deep x)/\Same [] w0 w')
def GO(x:Tree):Prop:=∀S w0 cs,Rep S w0 (Ob x) cs->Calls prog 48 #[.agg cs.toArray] w0 (Yc λv w'=>v=.bool (Jm x)/\Same [] w0 w')
theorem OJ{xs:List Tree}{x:Tree}(h:x∈xs)(hs:Jm x=false):Fr xs=false:=by
  induction xs with
  | nil=>cases h
  | cons y ys ih =>
    rw[Fr];rcases oQ.1 h with rfl|h
    ·rw[hs];rfl
    rw[ih h,Bool.and_false]
theorem PJ{xs:List Tree}(h:∀j (hj:j<xs.length),Jm xs[j]=true):Fr xs=true:=by
  induction xs with
  | nil=>rfl
  | cons y ys ih =>
    have h0:Jm y=true:=h 0 Oa;rw[Fr,h0,Bool.true_and];exact ih (λj hj=>by have:=h (j+1) (by simpa using hj);simpa using this)
theorem DO(k:Int)(t:Str)(ks:List Str)(xs:List Tree)(ih:∀x,x∈xs->GQ x):GQ (.node k t ks xs):=by
 rintro⟨k',t',ks',ys⟩ S S' w0 cs ct hR hR';obtain⟨A,c,B,e,rfl,-,-,hK,hX⟩:=hR.tree_inv;obtain⟨A',c',B',e',rfl,-,-,hK',hY⟩:=hR'.tree_inv;have hXl:=hX.slice_len;have hKl:=hK.slice_len;have hYl:=hY.slice_len;have hKl':=hK'.slice_len;refine Fa func34 O ntmps34 Ab (Uc _ _) ?_;have hF:=FR.start w0 [];refine Ea (Ce hF O ?_);rintro b1 w hb1 hF -;refine Ce hF O ?_;rintro b2 w hb2 hF -;refine Ba (Kb O) (Da (Ga (Ea (Ba (Mb Xc O) (Xb (Zg xQ O hF.F 1 O O) (Ba (Mb Xc O) (Xb (Zg xQ O hF.F 0 O O) (Ba (Wm O O) (Ba (Dc O) ?_)))))))));refine Bb (d:=13) O (λhg0=>?_) (λhg0=>?_);refine Ca (Ca (Ca (Ca (Ca (Ba (Rb O O) (Ba (Dc O) (Ca (Ca (Ca (Ca (Ca (Ca (Ca ?_)))))))))))));refine Ba (Rb O O) (Ba (Dc O) (Ca (Ca (Ca (Ca (Ca (Ca (Ca (Ba (Rb O O) (Da (Yd O (Ga ?_))))))))))));refine Ja (Ba (Kb O) (Da ?_));refine Gc (v:=.bool false) O O ?_;refine⟨congrArg Value.bool (M2 (λhe=>?_)).symm,hF.same⟩;cases he;first|exact absurd rfl (by assumption)|(simp only[Al]at hc4;cases hc4)
 refine Ba (Mb Id O) (Xb (Ej iZ O hF.F 1 O O) (Ba (Mb Id O) (Xb (Ej iZ O hF.F 0 O O) (Ba (yns O O) (Ba (Pb O O) (Ba (Dc O) ?_))))));refine Bb (d:=20) O (λhg1=>?_) (λhg1=>?_);refine Ca (Ca (Ca (Ca (Ca (Ca (Ca (Ba (Rb O O) (Ba (Dc O) (Ca (Ca (Ca (Ca (Ca ?_)))))))))))));refine Ca (Ca (Ba (Rb O O) (Da (Yd O (Ea (Ba (Kb O) (Da ?_)))))));refine Gc (v:=.bool false) O O ?_;refine⟨congrArg Value.bool (M2 (λhe=>?_)).symm,hF.same⟩;cases he;first|exact absurd rfl (by assumption)|(simp only[Al]at hc4;cases hc4)
 refine Ba (Mb Tc O) (Xb (Ie yQ O hF.F 1 O O) (Ba (Nf cX O) (Ba (Mb Tc O) (Xb (Ie yQ O hF.F 0 O O) (Ba (Nf cX O) (Ba (Wm O O) (Ba (Pb O O) (Ba (Dc O) ?_))))))));refine Bb (d:=29) O (λhg2=>?_) (λhg2=>?_);refine Ca (Ca (Ca (Ca (Ca (Ca (Ca (Ba (Rb O O) (Da (Yd O (Ea (Ba (Kb O) ?_)))))))))));refine Da (Gc (v:=.bool false) O O ?_);refine⟨congrArg Value.bool (M2 (λhe=>?_)).symm,hF.same⟩;cases he;first|exact absurd rfl (by assumption)|(simp only[Al]at hc4;cases hc4)
 refine Ba (Mb Tb O) (Xb (Ie zQ O hF.F 1 O O) (Ba (Nf dX O) (Ba (Mb Tb O) (Xb (Ie zQ O hF.F 0 O O) (Ba (Nf dX O) (Ba (Wm O O) (Ba (Pb O O) (Da ?_))))))));refine Jb O O (λhc0=>?_) (λhc0=>?_);refine Ea (Ba (Kb O) (Da ?_));refine Gc (v:=.bool false) O O ?_;refine⟨congrArg Value.bool (M2 (λhe=>?_)).symm,hF.same⟩;cases he;first|exact absurd rfl (by assumption)|(simp only[Al]at hc4;cases hc4)
 refine Ka (Ha (Ga (Ea (Ba (Fb O) (Da (Qa ?_))))));refine Fc (λμ σ w=>∃(j:Nat),μ=ks.length-j/\(j<=ks.length)/\(ks.take j=ks'.take j)/\AllEq σ [(2,V b1),(3,V b2),(5,J ((j:Int)))]/\FR w0 [] [(b2,.cells #[J k',I t',.slice A' ks'.length c',.slice B' ys.length e'] 36),(b1,.cells #[J k,I t,.slice A ks.length c,.slice B xs.length e] 36)] w) _ ⟨0,O,(Nat.zero_le _),Oa,Oi,hF⟩ ?_;rintro μ σ w ⟨j,rfl,hj,ha,hs,hF⟩;refine Cg.slots hs ?_;clear hs;intro σ;refine Ga (Ea (Ba (Za O) (Ba (Mb Tc O) (Xb (Ie yQ O hF.F 1 O O) (Ba (Nf cX O) (Ba (Pg O O) (Da ?_)))))));refine Jb O O (λhc1=>?_) (λhc1=>?_);refine Ka (Ha (Ga (Qa (Ga ?_))));refine De (zs:=.of []) (bQ [0,1,2,3,4,5,6,7,8,9,10] .nil) hF ?_;intro w hF;refine Ib O (Mb Tc O) (Ng O (Ie yQ O C0 1 O O) (Ib O (Za O) ?_));obtain⟨ad3,hA3,hk3,hx3⟩:=hK.str_elem (i:=j) Aa;refine Sa O (v:=.pointer (some (ad3.add (j*1)))) (λw hC=>Na (i:=(j:Int)) Pk O hA3 O Aa Aa) (Sa O (v:=I (ks[j])) (λw hC=>Nc iZ O (hC.cell0 hk3)) (Ib O (Mb Tc O) (Ng O (Ie yQ O C0 0 O O) (Ib O (Za O) ?_))));obtain⟨ad4,hA4,hk4,hx4⟩:=hK'.str_elem (i:=j) Aa;refine Sa O (v:=.pointer (some (ad4.add (j*1)))) (λw hC=>Na (i:=(j:Int)) Pk O hA4 O Aa Aa) (Sa O (v:=I (ks'[j])) (λw hC=>Nc iZ O (hC.cell0 hk4)) (Ib O (yns O O) (Ic (Ha ?_))));refine Jb O O (λhc2=>?_) (λhc2=>?_);refine Ea (Ba (Kb O) (Da ?_));refine Gc (v:=.bool false) O O ?_;refine⟨congrArg Value.bool (M2 (λhe=>?_)).symm,hF.same⟩;cases he;first|exact absurd rfl (by assumption)|(simp only[Al]at hc4;cases hc4)
 refine Ka (Ya (Ha (Ja (Ba (Za O) (Ba (Cl O O) (Ba (Fb O) (Va ?_)))))));refine Ta ⟨_,?_,j+1,O,Aa,(UB Aa Aa ha (by simpa using hc2)),Oi,hF⟩;omega;refine Bc (Yb O ?_);refine Ha (Ga (Ea (Ba (Fb O) (Da (Qa ?_)))));refine Fc (λμ σ w=>∃(i:Nat),μ=xs.length-i/\(i<=xs.length)/\(xs.take i=ys.take i)/\AllEq σ [(2,V b1),(3,V b2),(6,J ((i:Int)))]/\FR w0 [] [(b2,.cells #[J k',I t',.slice A' ks'.length c',.slice B' ys.length e'] 36),(b1,.cells #[J k,I t,.slice A ks.length c,.slice B xs.length e] 36)] w) _ ⟨0,O,(Nat.zero_le _),Oa,Oi,hF⟩ ?_;rintro μ σ w ⟨i,rfl,hi,hb,hs,hF⟩;refine Cg.slots hs ?_;clear hs;intro σ;have hke:ks=ks':=by rw[List.take_of_length_le Aa,List.take_of_length_le Aa]at ha;exact ha
 refine Ga (Ea (Ba (Za O) (Ba (Mb Tb O) (Xb (Ie zQ O hF.F 1 O O) (Ba (Nf dX O) (Ba (Pg O O) (Da ?_)))))));refine Jb O O (λhc3=>?_) (λhc3=>?_);refine Ka (Ha (Ga (Qa (Ga ?_))));refine De (zs:=.of []) (bQ [0,1,2,3,4,5,6,7,8,9] (.act 10 (.free 11 .nil))) hF ?_;intro w hF;refine Ib O (Mb Tb O) (Ng O (Ie zQ O C0 1 O O) (Ib O (Za O) ?_));obtain⟨ad5,cs5,hA5,hl5,hk5,hx5⟩:=hX.tree_elem (i:=i) Aa;have ho5:=hx5.one_;refine Sa O (v:=.pointer (some (ad5.add (i*4)))) (λw hC=>Na (i:=(i:Int)) Wf O hA5 O Aa Aa) (Sa O (v:=.agg (List.toArray cs5)) (λw hC=>Wa (l:=cs5) aZ nZ O hl5 (hC.cells0 hk5)) (Ib O (Mb Tb O) (Ng O (Ie zQ O C0 0 O O) (Ib O (Za O) ?_))));obtain⟨ad6,cs6,hA6,hl6,hk6,hx6⟩:=hY.tree_elem (i:=i) Aa;have ho6:=hx6.one_;refine Sa O (v:=.pointer (some (ad6.add (i*4)))) (λw hC=>Na (i:=(i:Int)) Wf O hA6 O Aa Aa) (Sa O (v:=.agg (List.toArray cs6)) (λw hC=>Wa (l:=cs6) aZ nZ O hl6 (hC.cells0 hk6)) ?_);refine Vd hF (ih _ (List.getElem_mem (l:=xs) (n:=i) Aa) ys[i] _ _ _ _ _ (hF.rep hx5) (hF.rep hx6)) O (Xa XG O O O) ?_;intro w hF;refine⟨hF,?_⟩;refine Ib O (Kb O) (Ic (Ha (Ea (Ba (Dc O) (Ba (Di O) (Da ?_))))));refine Jd O O (λhc4=>?_) (λhc4=>?_);refine Ea (Ba (Kb O) (Da ?_));refine Gc (v:=.bool false) O O ?_;refine⟨congrArg Value.bool (M2 (λhe=>?_)).symm,hF.same⟩;cases he;first|exact absurd rfl (by assumption)|(simp only[Al]at hc4;cases hc4)
 refine Ka (Ya (Ha (Ja (Ba (Za O) (Ba (Cl O O) (Ba (Fb O) (Va ?_)))))));refine Ta ⟨_,?_,i+1,O,Aa,(UB Aa Aa hb ((E1 _ _).1 (by simpa using hc4))),Oi,hF⟩;omega;refine Bc (Yb O ?_);refine Ha (Ea (Ba (Kb O) (Da ?_)));refine Gc (v:=.bool true) O O ?_;have e3:xs=ys:=(by have h1:=hb;rw[List.take_of_length_le Aa]at h1;rw[List.take_of_length_le Aa]at h1;exact h1);have e1:k=k':=Classical.not_not.1 hg0;have e2:t=t':=Classical.not_not.1 hg1;subst hke e3 e1 e2;exact⟨congrArg Value.bool (Al _).symm,hF.same⟩
theorem M6(x:Tree):GQ x:=Tree.ind DO x
theorem few_step(k:Int)(t:Str)(ks:List Str)(xs:List Tree)(ih:∀x,x∈xs->FewC x):FewC (.node k t ks xs):=by
 intro left deep S w0 cs h0 h1 h2 h3 hR;obtain⟨A,c,B,e,rfl,-,-,hK,hX⟩:=hR.tree_inv;have hXl:=hX.slice_len;have hKl:=hK.slice_len;refine Fa func47 O ntmps47 Ab (Ik _ _ _) ?_;have hF:=FR.start w0 [];refine Ea (Ce hF O ?_);rintro b1 w hb1 hF -;refine Ba (Fb O) (Da (Ga (Ea (Ba (Za O) (Ba (Mo O O) (Da ?_))))));refine Jb O O (λhc0=>?_) (λhc0=>?_);refine Ea (Ba (Fb O) (Da ?_));refine Gc (v:=J ((-1))) O O ?_;exact⟨congrArg (Value.int .i64) (by rw[Ws,if_pos Aa]),hF.same⟩;refine Ka (Ha (Ea (Ba (Za O) (Ba (C5 O O) (Ba (Mb Tc O) (Xb (Ie yQ O hF.F 0 O O) (Ba (Nf cX O) (Ba (C5 O O) (Ba (Fb O) (Da (Ga ?_)))))))))));refine Ea (Ba (Fb O) (Da (Qa ?_)));refine Fc (λμ σ w=>∃(j:Nat),∃(lf:Int),μ=xs.length-j/\(j<=xs.length)/\(lf<=1000000)/\(En (left-1-ks.length) deep xs=En lf deep (xs.drop j))/\AllEq σ [(1,J lf),(2,J deep),(3,V b1),(7,J ((j:Int)))]/\FR w0 [] [(b1,.cells #[J k,I t,.slice A ks.length c,.slice B xs.length e] 36)] w) _ ⟨0,(left-1-ks.length),O,(Nat.zero_le _),Aa,Oa,Jj,hF⟩ ?_;rintro μ σ w ⟨j,lf,rfl,hj,hlf,hf,hs,hF⟩;refine Cg.slots hs ?_;clear hs;intro σ;refine Ga (Ea (Ba (Za O) (Ba (Mb Tb O) (Xb (Ie zQ O hF.F 0 O O) (Ba (Nf dX O) (Ba (Pg O O) (Ba (Dc O) ?_)))))));refine Bb (d:=21) O (λhg0=>?_) (λhg0=>?_);refine Ba (Za O) (Ba (Vx O O) (Ba (Rb O O) (Da ?_)));refine Jb O O (λhc1=>?_) (λhc1=>?_);refine Ka (Ha (Ga (Qa (Ja (Ba (Mb Tb O) (Xb (Ie zQ O hF.F 0 O O) (Ba (Za O) ?_)))))));obtain⟨ad1,cs1,hA1,hl1,hk1,hx1⟩:=hX.tree_elem (i:=j) Aa;have ho1:=hx1.one_;refine Ia (v:=.pointer (some (ad1.add (j*4)))) (Na (i:=(j:Int)) Wf O hA1 O Aa Aa) (Ia (v:=.agg (List.toArray cs1)) (Wa (l:=cs1) aZ nZ O hl1 (hF.cells0 hk1)) (Ba (Za O) (Ba (Za O) (Ba (Cl O O) ?_))));refine Pa hF (ih _ (List.getElem_mem (l:=xs) (n:=j) Aa) lf (deep+1) _ _ _ Aa Aa Aa Aa (hF.rep hx1)) (Af en_47 O O O O) ?_
 intro w hF;refine Ba (Fb O) (Va (Ya (Ha (Ja (Ba (Za O) (Ba (Cl O O) (Ba (Fb O) (Va ?_))))))));refine Ta ⟨_,?_,j+1,Ws lf (deep+1) xs[j],O,Aa,(by have:=fewT_le xs[j] lf (deep+1) Aa;omega),(hf.trans (CN Aa Aa)),Jj,hF⟩;omega;refine Bc (Yb O ?_);refine Ha (Ea (Ba (Za O) (Ba (Fb O) (Da ?_))));refine Gc (v:=J lf) O O ⟨congrArg (Value.int .i64) ?_,hF.same⟩;rw[Ws,if_neg Aa,hf]
 ·first|(rw[List.drop_eq_nil_of_le Aa,En];done)|(rw[D3 Aa])
 refine Ca (Ca (Ba (Pb O O) (Da (Zd O ?_))));refine Bc (Yb O ?_);refine Ha (Ea (Ba (Za O) (Ba (Fb O) (Da ?_))));refine Gc (v:=J lf) O O ⟨congrArg (Value.int .i64) ?_,hF.same⟩;rw[Ws,if_neg Aa,hf]
 ·first|(rw[List.drop_eq_nil_of_le Aa,En];done)|(rw[D3 Aa])
theorem few_c(x:Tree):FewC x:=Tree.ind few_step x
theorem PP(k:Int)(t:Str)(ks:List Str)(xs:List Tree)(ih:∀x,x∈xs->GO x):GO (.node k t ks xs):=by
 intro S w0 cs hR;obtain⟨A,c,B,e,rfl,-,-,hK,hX⟩:=hR.tree_inv;have hXl:=hX.slice_len;have hKl:=hK.slice_len;refine Fa func48 O ntmps48 Ab (Wb _) ?_;have hF:=FR.start w0 [];refine Ea (Ce hF O ?_);rintro b1 w hb1 hF -;refine Ba (Kb O) (Da (Ga (Ea (Ba (Mb Id O) (Xb (Ej iZ O hF.F 0 O O) (Ba (Sk kX O) (Ba (Mo O O) (Da ?_))))))));refine Jb O O (λhc0=>?_) (λhc0=>?_)
 ·
  refine Ea (Ba (Kb O) (Da ?_));refine Gc (v:=.bool false) O O ?_;exact⟨congrArg Value.bool (by rw[Jm,decide_eq_false Aa];rfl),hF.same⟩
 refine Ka (Ha (Ga (Ea (Ba (Fb O) (Da (Qa ?_))))));refine Fc (λμ σ w=>∃(j:Nat),μ=ks.length-j/\(j<=ks.length)/\(∀i (hi:i<j) (hk:i<ks.length),ks[i].length<=1024)/\AllEq σ [(1,V b1),(3,J ((j:Int)))]/\FR w0 [] [(b1,.cells #[J k,I t,.slice A ks.length c,.slice B xs.length e] 36)] w) _ ⟨0,O,(Nat.zero_le _),(λi hi=>absurd hi Aa),Rq,hF⟩ ?_;rintro μ σ w ⟨j,rfl,hj,ha,hs,hF⟩;refine Cg.slots hs ?_;clear hs;intro σ;refine Ga (Ea (Ba (Za O) (Ba (Mb Tc O) (Xb (Ie yQ O hF.F 0 O O) (Ba (Nf cX O) (Ba (Pg O O) (Da ?_)))))));refine Jb O O (λhc1=>?_) (λhc1=>?_)
 ·
  refine Ka (Ha (Ga (Qa (Ea (Ba (Mb Tc O) (Xb (Ie yQ O hF.F 0 O O) (Ba (Za O) ?_)))))));obtain⟨ad0,hA0,hk0,hx0⟩:=hK.str_elem (i:=j) Aa;refine Ia (v:=.pointer (some (ad0.add (j*1)))) (Na (i:=(j:Int)) Pk O hA0 O Aa Aa) (Ia (v:=I (ks[j])) (Nc iZ O (hF.cell0 hk0)) (Ba (Sk kX O) (Ba (Mo O O) (Da ?_))));refine Jb O O (λhc2=>?_) (λhc2=>?_)
  ·
   refine Ea (Ba (Kb O) (Da ?_));refine Gc (v:=.bool false) O O ?_;have hno:ks.all (λk=>decide (k.length<=1024))=false:=by
     rw[Bool.eq_false_iff];intro hall;have:=List.all_eq_true.1 hall ks[j] (eQ _);simp only[decide_eq_true_eq]at this;omega
   exact⟨congrArg Value.bool (by rw[Jm,hno,Bool.and_false];rfl),hF.same⟩
  refine Ka (Ya (Ha (Ja (Ba (Za O) (Ba (Cl O O) (Ba (Fb O) (Va ?_)))))));refine Ta ⟨_,?_,j+1,rfl,Aa,(λi hi hk=>by rcases Nat.lt_or_ge i j with h|h;exact ha i h hk;obtain rfl:i=j:=Aa;omega),Rq,hF⟩;omega
 refine Bc (Yb O ?_);refine Ha (Ga (Ea (Ba (Fb O) (Da (Qa ?_)))));refine Fc (λμ σ w=>∃(i:Nat),μ=xs.length-i/\(i<=xs.length)/\(∀m (hm:m<i) (hk:m<xs.length),Jm xs[m]=true)/\AllEq σ [(1,V b1),(4,J ((i:Int)))]/\FR w0 [] [(b1,.cells #[J k,I t,.slice A ks.length c,.slice B xs.length e] 36)] w) _ ⟨0,O,(Nat.zero_le _),(λi hi=>absurd hi Aa),Rq,hF⟩ ?_;rintro μ σ w ⟨i,rfl,hi,hb,hs,hF⟩;refine Cg.slots hs ?_;clear hs;intro σ;refine Ga (Ea (Ba (Za O) (Ba (Mb Tb O) (Xb (Ie zQ O hF.F 0 O O) (Ba (Nf dX O) (Ba (Pg O O) (Da ?_)))))));refine Jb O O (λhc3=>?_) (λhc3=>?_)
 ·
  refine Ka (Ha (Ga (Qa (Ea (Ba (Mb Tb O) (Xb (Ie zQ O hF.F 0 O O) (Ba (Za O) ?_)))))));obtain⟨ad1,cs1,hA1,hl1,hk1,hx1⟩:=hX.tree_elem (i:=i) Aa;have ho1:=hx1.one_;refine Ia (v:=.pointer (some (ad1.add (i*4)))) (Na (i:=(i:Int)) Wf O hA1 O Aa Aa) (Ia (v:=.agg (List.toArray cs1)) (Wa (l:=cs1) aZ nZ O hl1 (hF.cells0 hk1)) ?_);refine Pa hF (ih _ (List.getElem_mem (l:=xs) (n:=i) Aa) _ _ _ (hF.rep hx1)) (Ma en_48 O O) ?_;intro w hF;refine Ba (Kb O) (Lb (Ba (Dc O) (Ba (Di O) (Da ?_))));refine Jd O O (λhc4=>?_) (λhc4=>?_)
  ·
   refine Ea (Ba (Kb O) (Da ?_));refine Gc (v:=.bool false) O O ?_;exact⟨congrArg Value.bool (by rw[Jm,OJ (List.getElem_mem (l:=xs) (n:=i) Aa) (by simpa using hc4),Bool.and_false]),hF.same⟩
  refine Ka (Ya (Ha (Ja (Ba (Za O) (Ba (Cl O O) (Ba (Fb O) (Va ?_)))))));refine Ta ⟨_,?_,i+1,rfl,Aa,(λm hm hk=>by rcases Nat.lt_or_ge m i with h|h;exact hb m h hk;obtain rfl:m=i:=Aa;simpa using hc4),Rq,hF⟩;omega
 refine Bc (Yb O ?_);refine Ha (Ea (Ba (Kb O) (Da ?_)));refine Gc (v:=.bool true) O O ?_;have h1:ks.all (λk=>decide (k.length<=1024))=true:=by
   rw[List.all_eq_true];intro k hk;obtain⟨q,hq,rfl⟩:=List.getElem_of_mem hk;simp only[decide_eq_true_eq];exact ha q Aa hq
 exact⟨congrArg Value.bool (by rw[Jm,h1,decide_eq_true Aa,PJ (λm hm=>hb m Aa hm)];rfl),hF.same⟩
theorem short_c(x:Tree):GO x:=Tree.ind PP x
theorem SI(x:Tree)(most:Int)(h0:0<=most)(h1:most<=1000000)(S:Nat->Prop)(w0:World)(cs:List Value)(hR:Rep S w0 (Ob x) cs):Calls prog 16 #[.agg cs.toArray,J most] w0 (Yc λv w'=>v=.bool (Vn x most)/\Same [] w0 w'):=by
 have hl:cs.length=4:=hR.length.trans (Hc x);have ho:=hR.one_;refine Fa func16 O ntmps16 Ab (Uc _ _) ?_;have hF:=FR.start w0 [];refine Ea (Pl (v:=.agg (List.toArray cs)) (cs:=(List.toArray cs)) hF O O ?_);rintro b1 w hb1 hF -;refine Ba (Kb O) (Lb (Ia (v:=.agg (List.toArray cs)) (Wa (l:=cs) aZ nZ O hl (hF.cellsAll 0 O)) (Ba (Za O) ?_)));refine Pa hF (few_c x most 0 S _ cs h0 h1 Aa Aa (hF.rep hR)) (Af en_47 O O O O) ?_;intro w hF;refine Ba (Fb O) (Lb (Ba (Za O) (Ba (Vx O O) (Ba (Dc O) ?_))));refine Bb (d:=11) O (λhg0=>?_) (λhg0=>?_);refine Ia (v:=.agg (List.toArray cs)) (Wa (l:=cs) aZ nZ O hl (hF.cellsAll 0 O)) (Pa hF (short_c x S _ cs (hF.rep hR)) (Ma en_48 O O) ?_);intro w hF;refine Ba (Rb O O) (Ba (Kb O) (Da ?_));refine Gc (v:=.bool _) O O ⟨congrArg Value.bool ?_,hF.same⟩;unfold Vn
 first|(rw[decide_eq_true hg0];rfl)|(rw[decide_eq_false hg0];rfl)
 refine Ca (Ca (Ba (Pb O O) (Ba (Kb O) (Da ?_))));refine Gc (v:=.bool false) O O ⟨congrArg Value.bool ?_,hF.same⟩;unfold Vn
 first|(rw[decide_eq_true hg0];rfl)|(rw[decide_eq_false hg0];rfl)
theorem HU(A:Option Addr)(n c:Nat)(B:Option Addr)(m d:Nat)(w0:World):Calls prog 32 #[.slice A n c,.slice B m d] w0 (Yc λv w'=>v=.agg #[J 6,I [],.slice A n c,.slice B m d]/\Same [] w0 w'):=by
 refine Fa func32 O ntmps32 Ab (Uc _ _) ?_;have hF:=FR.start w0 [];refine Ea (Pc (cs:=#[J 0,I [],aQ,aQ]) hF oX O ?_);rintro b1 w hb1 hF -;refine Lb (Ba (Hd O) (Ba (Hd O) ?_));refine Ia (w':=w) (v:=.agg #[J 6,I [],.slice A n c,.slice B m d]) Qb (Ge hF nZ O O Pi ?_);rintro w hF -;refine Da (Db (Cb (La (Mg O (l:=[J 6,I [],.slice A n c,.slice B m d]) O aZ nZ O (hF.cellsAll 0 O)) ?_)));exact⟨O,hF.same⟩
theorem YL(k:Int)(t:Str)(ks:List Str)(xs:List Tree)(ih:∀x,x∈xs->KE x):KE (.node k t ks xs):=by
 intro S w0 cs hR hsz hky;rw[Nb]at hsz;rw[Pn]at hky;have hxn:=Yj xs;obtain⟨A,c,B,e,rfl,hk,ht,hK,hX⟩:=hR.tree_inv;have hXl:=hX.slice_len;obtain⟨eK,hrK,hKl,hKc⟩:=hK.slice_open (K3 ks);refine Fa func17 O ntmps17 Ab (Wb _) ?_;have hF:=FR.start w0 [];refine Ea (Ce hF O ?_);rintro b1 w hb1 hF -;refine Pc (cs:=#[J 0,I [],aQ,aQ]) hF oX O ?_;rintro b2 w hb2 hF -;refine Da (Ga ?_);refine Fd (λσ w=>∃(b4:Nat),∃(A0:Option Addr),∃(c0:Nat),∃(sa:List (Nat × Obj)),(SlB 9 1 A0 ks.length c0 eK sa)/\AllEq σ [(1,V b1),(2,V b2),(3,V b4)]/\FR w0 [] ([(b4,.cells #[J k,I t,.slice A0 ks.length c0,aQ] 36),(b2,.cells #[J 0,I [],aQ,aQ] 36),(b1,.cells #[J k,I t,.slice A ks.length c,.slice B xs.length e] 36)]++(sa++[])) w) ?_ ?_;refine De (zs:=.of [10]) (bQ [0,1,2,3,5,6] (.alt 4 (.alt 7 (.free 8 (.act 9 (.act 10 .nil))) (.act 9 (.act 7 (.free 8 (.act 10 .nil))))) (cQ [9,4,7] (.free 8 (.act 10 .nil))))) hF ?_;intro w hF;refine Ib O (Mb Xc O) (Ng O (Zg xQ O C0 1 O O) (Ib O (Mb Id O) (Ng O (Ej iZ O C0 1 O O) (Ib O (Mb Tc O) (Ng O (Ie yQ O C0 1 O O) ?_)))));refine Iv ?_ ?_;refine Jf 0 O hF (Dm cX sZ) ?_;rintro b3 w hb3 hF -;refine⟨hF.drop 1,?_⟩;refine Iv ?_ ?_;have hS0:SlB 9 1 (some ⟨b3,0,none⟩) 0 0 [] [(b3,.cells #[] 9)]:=⟨by simp,.inr ⟨b3,#[],rfl,rfl,gQ _,Nat.zero_le _,by simp,by simp⟩⟩;have hF:=hF.toseg 0 rfl;refine Jn [(b2,.cells #[J 0,I [],aQ,aQ] 36),(b1,.cells #[J k,I t,.slice A ks.length c,.slice B xs.length e] 36)] [] (news:=eK) (len':=ks.length) (ys:=eK) rfl Av hF hS0 rfl rfl (by rw[hKl]) (λhk=>by obtain⟨ad,hA,hc⟩:=hKc hk;exact⟨ad,hA,Jc (hF.cells0 hc)⟩) (Mi hrK.one_) (by simp only[maxLen];omega) (Nat.zero_add _) (rfl) Aa ?_;intro A0 c0 a_0 w hS0_a hF hE hnew;refine⟨hF.mid 0 2,?_⟩;refine Sa O (v:=.agg #[J k,I t,.slice A0 ks.length c0,aQ]) (λw hC=>by kernel_rfl) (Vp O (v:=λb=>V b) (o:=.cells #[J 0,I [],aQ,aQ] 36) hF (Xh oX) ?_)
 rintro b4 w hb4 hF -;refine⟨hF.mid 1 2,?_⟩;refine Q6 O hF nZ O O Pi.app ?_;rintro w hF -;refine Ic ?_;exact Ta ⟨(b4),(A0),(c0),(a_0),(hS0_a),Oi,(((hF.front 2 O).front 2 O).front 2 O)⟩;refine Vp O (v:=λb=>V b) (o:=.cells #[J 0,I [],aQ,aQ] 36) hF (Xh oX) ?_;rintro b5 w hb5 hF -;refine⟨hF.drop 2,?_⟩;have hS0:SlB 9 1 (some ⟨b3,0,none⟩) 0 0 [] [(b3,.cells #[] 9)]:=⟨by simp,.inr ⟨b3,#[],rfl,rfl,gQ _,Nat.zero_le _,by simp,by simp⟩⟩;have hF:=hF.toseg 1 rfl;refine Jn [(b5,.cells #[J 0,I [],aQ,aQ] 36),(b2,.cells #[J 0,I [],aQ,aQ] 36),(b1,.cells #[J k,I t,.slice A ks.length c,.slice B xs.length e] 36)] [] (news:=eK) (len':=ks.length) (ys:=eK) rfl Av hF hS0 rfl rfl (by rw[hKl]) (λhk=>by obtain⟨ad,hA,hc⟩:=hKc hk;exact⟨ad,hA,Jc (hF.cells0 hc)⟩) (Mi hrK.one_) (by simp only[maxLen];omega) (Nat.zero_add _) (rfl) Aa ?_;intro A1 c1 a_1 w hS1_a hF hE hnew;refine⟨hF.mid 1 2,?_⟩;refine Sa O (v:=.agg #[J k,I t,.slice A1 ks.length c1,aQ]) (λw hC=>by kernel_rfl) (Q6 O hF nZ O O Pi.app ?_);rintro w hF -;refine Ic ?_;exact Ta ⟨(b5),(A1),(c1),(a_1),(hS1_a),Oi,(((hF.front 2 O).front 2 O).front 2 O)⟩;refine Vp O (v:=λb=>V b) (o:=.cells #[J 0,I [],aQ,aQ] 36) hF (Xh oX) ?_;rintro b6 w hb6 hF -;refine⟨hF.drop 1,?_⟩;refine Jf 0 O hF (Dm cX sZ) ?_;rintro b7 w hb7 hF -;refine⟨hF.drop 2,?_⟩;have hS0:SlB 9 1 (some ⟨b7,0,none⟩) 0 0 [] [(b7,.cells #[] 9)]:=⟨by simp,.inr ⟨b7,#[],rfl,rfl,gQ _,Nat.zero_le _,by simp,by simp⟩⟩;have hF:=hF.toseg 0 rfl;refine Jn [(b6,.cells #[J 0,I [],aQ,aQ] 36),(b2,.cells #[J 0,I [],aQ,aQ] 36),(b1,.cells #[J k,I t,.slice A ks.length c,.slice B xs.length e] 36)] [] (news:=eK) (len':=ks.length) (ys:=eK) rfl Av hF hS0 rfl rfl (by rw[hKl]) (λhk=>by obtain⟨ad,hA,hc⟩:=hKc hk;exact⟨ad,hA,Jc (hF.cells0 hc)⟩) (Mi hrK.one_) (by simp only[maxLen];omega) (Nat.zero_add _) (rfl) Aa ?_
 intro A2 c2 a_2 w hS2_a hF hE hnew;refine⟨hF.mid 1 2,?_⟩;refine Sa O (v:=.agg #[J k,I t,.slice A2 ks.length c2,aQ]) (λw hC=>by kernel_rfl) (Q6 O hF nZ O O Pi.app ?_);rintro w hF -;refine Ic ?_;exact Ta ⟨(b6),(A2),(c2),(a_2),(hS2_a),Oi,(((hF.front 2 O).front 2 O).front 2 O)⟩;rintro σ w ⟨b4,A0,c0,sa,hSa,hs,hF⟩;refine Eg.slots hs ?_;clear hs;intro σ;refine Ha (Ga (Ea (Ba (Fb O) (Da (Qa ?_)))));refine Fc (λμ σ w=>∃(j:Nat),∃(A1:Option Addr),∃(c1:Nat),∃(sb:List (Nat × Obj)),∃(cs1:List Value),μ=xs.length-j/\(j<=xs.length)/\(SlB 36 4 A1 j c1 cs1 sb)/\(RX w0 ([b4,b2,b1]++(sa.map (·.1)++sb.map (·.1))) w (Fe (xs.take j)) cs1)/\AllEq σ [(1,V b1),(2,V b2),(3,V b4),(4,J ((j:Int)))]/\FR w0 [] ([(b4,.cells #[J k,I t,.slice A0 ks.length c0,.slice A1 j c1] 36),(b2,.cells #[J 0,I [],aQ,aQ] 36),(b1,.cells #[J k,I t,.slice A ks.length c,.slice B xs.length e] 36)]++(sa++(sb++[]))) w) _ ⟨0,none,0,[],[],O,(Nat.zero_le _),(SlB.nil _ _),(RX.nil),Jj,hF⟩ ?_;rintro μ σ w ⟨j,A1,c1,sb,cs1,rfl,hj,hS,hDX,hs,hF⟩;refine Cg.slots hs ?_;clear hs;intro σ;refine Ga (Ea (Ba (Za O) (Ba (Mb Tb O) (Xb (Ie zQ O hF.F 2 O O) (Ba (Nf dX O) (Ba (Pg O O) (Da ?_)))))));refine Jb O O (λhc0=>?_) (λhc0=>?_);refine Ka (Ha (Ga (Qa ?_)));refine Md (.of [11]) (bQ [0,1,2,3,4,5,6] (cQ [7,8,9] (.free 10 (.act 11 .nil)))) hF ?_;intro w hF hE;have hDX:=hDX.ext hE;refine⟨λwq=>FR w0 [] [(b4,.cells #[J k,I t,.slice A0 ks.length c0,.slice A1 j c1] 36),(b2,.cells #[J 0,I [],aQ,aQ] 36),(b1,.cells #[J k,I t,.slice A ks.length c,.slice B xs.length e] 36)] wq,hF.mid 0 3,?_⟩;refine Ib O (Mb Tb O) (Ng O (Ie zQ O C0 0 O O) (Ib O (Mb Tb O) (Ng O (Ie zQ O C0 2 O O) (Ib O (Za O) ?_))));obtain⟨ad3,cs3,hA3,hl3,hk3,hx3⟩:=hX.tree_elem (i:=j) Aa;have ho3:=hx3.one_;refine Sa O (v:=.pointer (some (ad3.add (j*4)))) (λw hC=>Na (i:=(j:Int)) Wf O hA3 O Aa Aa) (Sa O (v:=.agg (List.toArray cs3)) (λw hC=>Wa (l:=cs3) aZ nZ O hl3 (hC.cells0 hk3)) ?_)
 refine Dd O (ih _ (List.getElem_mem (l:=xs) (n:=j) Aa) _ _ cs3 (hF.rep hx3) (by have:=Lg (List.getElem_mem (l:=xs) (n:=j) Aa);omega) (by have:=Zx (List.getElem_mem (l:=xs) (n:=j) Aa);omega)) (Ma MU O O) ?_;rintro _ w ⟨ct,rfl,hRt,hE⟩;have hlt:ct.length=4:=hRt.length.trans (Hc _);have hot:=hRt.one_;have hYX:=RX.made (ids:=[b4,b2,b1]++(sa.map (·.1)++sb.map (·.1))) hF.same.size (λx hx=>hF.lt_ids (by grind)) hRt;have hDX:=(hDX.ext hE).append hYX;have hF:=hF.ext hE;clear hE hYX;refine⟨hF.mid 0 3,?_⟩;refine Jf 1 O hF (Wl (l:=ct) dX nZ oX Ua Ua O hlt) ?_;intro b8 w hb8 hF hE;have hDX:=hDX.alloc hE hb8;refine⟨hF.mid 1 3,?_⟩;refine Jn ([(b8,.cells (List.toArray ct) 36),(b4,.cells #[J k,I t,.slice A0 ks.length c0,.slice A1 j c1] 36),(b2,.cells #[J 0,I [],aQ,aQ] 36),(b1,.cells #[J k,I t,.slice A ks.length c,.slice B xs.length e] 36)]++sa) [] (news:=ct) (len':=j+1) (ys:=cs1++ct) O Np hF hS O O (by rw[hlt]) (λ_=>⟨_,O,Jc (hF.cellsAll 0 O)⟩) (Mi hot) (by simp only[maxLen];omega) (O) (O) Aa ?_;intro A4 c4 i_4 w hS4_i hF hE hnew;have hDX:=hDX.step (ids':=[b8,b4,b2,b1]++(sa.map (·.1)++i_4.map (·.1))) hE (by grind) (by grind);refine⟨hF.mid 1 3,?_⟩;refine Ib O (Mb Tb O) (Zp O 1 (l:=[.slice (A4) (j+1) (c4)]) (cs':=#[J k,I t,.slice A0 ks.length c0,.slice (A4) (j+1) (c4)]) hF mZ O (v:=.slice (A4) (j+1) (c4)) O O Sl O Ab O ?_);intro w hF hE;have hDX:=hDX.store hE (by grind);have hF:FR w0 [] ([(b8,.cells (List.toArray ct) 36),(b4,.cells #[J k,I t,.slice A0 ks.length c0,.slice (A4) (j+1) (c4)] 36),(b2,.cells #[J 0,I [],aQ,aQ] 36),(b1,.cells #[J k,I t,.slice A ks.length c,.slice B xs.length e] 36)]++(sa++(i_4++[]))) w:=hF;refine Ic (Ya (Ha (Ja (Ba (Za O) (Ba (Cl O O) (Ba (Fb O) (Va ?_)))))));refine Ta ⟨_,?_,j+1,A4,c4,i_4,cs1++ct,O,Aa,(by assumption),(by rw[U4 Aa];exact hDX.sub (by grind)),Jj,hF.drop 1⟩
 omega;refine Bc (Yb O ?_);refine Ha (Ea (Xb (Bf aZ nZ O hF.F 0 O O) ?_));refine Fg 1 (l:=[J k,I t,.slice A0 ks.length c0,.slice A1 j c1]) (cs':=#[J k,I t,.slice A0 ks.length c0,.slice A1 j c1]) hF nZ O (v:=.agg #[J k,I t,.slice A0 ks.length c0,.slice A1 j c1]) O O Sl O Ab O ?_;intro w hF hE;have hDX:=hDX.store hE (by grind);have hF:FR w0 [] ([(b4,.cells #[J k,I t,.slice A0 ks.length c0,.slice A1 j c1] 36),(b2,.cells #[J k,I t,.slice A0 ks.length c0,.slice A1 j c1] 36),(b1,.cells #[J k,I t,.slice A ks.length c,.slice B xs.length e] 36)]++(sa++(sb++[]))) w:=hF;refine Da (Db (Cb (La (Mg O (l:=[J k,I t,.slice A0 ks.length c0,.slice A1 j c1]) O aZ nZ O (hF.cellsAll 1 O)) ?_)));have ej:j=xs.length:=by omega
 subst ej;rw[List.take_length]at hDX;refine⟨_,O,?_,hF.same⟩;have hKX:RX w0 [] w (ks.map Vl) eK:=hrK.lits;exact Rep.tree_mk hk ht (hSa.rep (pre:=[_,_,_]) (post:=sb++[]) hF hKX Oa) (hS.rep (pre:=[_,_,_]++sa) (post:=[]) (by simpa using hF) hDX Oa)
theorem R9(x:Tree):KE x:=Tree.ind YL x
structure LA {α:Type} (f:α->α->Int) (P:α->Prop) (a:α):Prop where
  rng:∀b,f a b = -1\/f a b=0\/f a b=1
  anti:∀b,P b->f b a = - f a b
  eq:∀b,P b->(f a b=0↔a=b)
  tr:∀b c,P b->P c->f a b<=0->f b c<=0->f a c<=0
theorem la_int(a:Int):LA Lib.compareInt (λ_=>True) a:=by
  refine⟨λb=>?_,λb _=>?_,λb _=>?_,λb c _ _=>?_⟩ <;> unfold Lib.compareInt <;> (repeat' split) <;> omega
theorem P1:∀a:Str,LA Lib.compareBytes (λ_=>True) a:=by
  have rng:∀a b:Str,Lib.compareBytes a b = -1\/Lib.compareBytes a b=0\/Lib.compareBytes a b=1:=by
    intro a
    induction a with
    | nil=>intro b;cases b <;> simp[Lib.compareBytes]
    | cons x a ih => intro b;cases b with
      | nil=>simp[Lib.compareBytes]
      | cons y b => unfold Lib.compareBytes;repeat' split
                    ·exact .inl O
                    ·exact .inr (.inr O)
                    exact ih b
  have lt3:∀x y:UInt8,¬x<y->¬y<x->x=y:=λx y h1 h2=>by
    apply UInt8.toNat_inj.1;rw[UInt8.lt_iff_toNat_lt]at h1 h2;omega
  have ltn:∀x y:UInt8,x<y↔x.toNat<y.toNat:=λx y=>UInt8.lt_iff_toNat_lt;intro a;refine⟨rng a,λb _=>?_,λb _=>?_,λb c _ _=>?_⟩
  ·induction a generalizing b with
   | nil=>cases b <;> simp[Lib.compareBytes]
   | cons x a ih => cases b with
     | nil=>simp[Lib.compareBytes]
     | cons y b =>
       unfold Lib.compareBytes;simp only[ltn]
       repeat' split
       all_goals first|omega|exact ih b
  ·induction a generalizing b with
   | nil=>cases b <;> simp[Lib.compareBytes]
   | cons x a ih => cases b with
     | nil=>simp[Lib.compareBytes]
     | cons y b =>
       unfold Lib.compareBytes;split
       ·rename_i h;simp;intro e;subst e;rw[ltn]at h;omega
       split
       ·rename_i h;simp;intro e;subst e;rw[ltn]at h;omega
       rename_i h1 h2
       have:=lt3 x y h1 h2;subst this;rw[ih];simp
  induction a generalizing b c with
  | nil=>cases b <;> cases c <;> simp[Lib.compareBytes]
  | cons x a ih => cases b with
    | nil=>intro h;simp[Lib.compareBytes]at h
    | cons y b => cases c with
      | nil=>intro _ h;simp[Lib.compareBytes]at h
      | cons z c =>
        unfold Lib.compareBytes;simp only[ltn];intro h1 h2
        repeat' split
        ·omega
        ·exfalso
         split at h1
         ·split at h2
          ·omega
          split at h2
          ·omega
          omega
         split at h1
         ·omega
         split at h2
         ·omega
         split at h2
         ·omega
         omega
        split at h1
        ·split at h2
         ·omega
         split at h2
         ·omega
         omega
        split at h1
        ·omega
        split at h2
        ·omega
        split at h2
        ·omega
        exact ih b c h1 h2
theorem Ol{x:Num}(h:Lc x=true)(hd:x.digits=[]):x=Num.zero:=by
  unfold Lc at h;simp only[Bool.or_eq_true,Bool.and_eq_true,decide_eq_true_eq]at h;rcases h with h|h
  ·exact h
  exact absurd hd (Il h.1.1.1.1.1)
theorem Az{x y:Num}(hx:Lc x=true)(hy:Lc y=true):So x y=if Sf x=Sf y then (if Sf x=0 then 0 else Sf x*Au x y) else Lib.compareInt (Sf x) (Sf y):=by
  have e:=(la_int (Sf x)).eq (Sf y) trivial;unfold So;rw[hx,hy];simp only[Bool.true_eq_false,if_false];by_cases h:Sf x=Sf y
  ·rw[if_neg (λhh=>hh (e.2 h)),if_pos h]
  rw[if_pos (λhh=>h (e.1 hh)),if_neg h]
theorem C8(x y:Num):Au x y=if Lib.compareInt (x.digits.length+x.exp) (y.digits.length+y.exp)≠0 then Lib.compareInt (x.digits.length+x.exp) (y.digits.length+y.exp) else Lib.compareBytes x.digits y.digits:=by
  unfold Au X5;split
  ·rfl
  unfold X5;split
  ·rfl
  rename_i h;unfold X5;omega
theorem DZ(x y:Num):Au y x = - Au x y:=by
  rw[C8,C8];have h1:=(la_int (x.digits.length+x.exp)).anti (y.digits.length+y.exp) trivial;have h2:=(P1 x.digits).anti y.digits trivial
  repeat' split
  all_goals omega
theorem KA{ks:List Str}{xs:List Tree}(hn:ks.Nodup):∀{i:Nat}(h:i<ks.length)(h2:i<xs.length),Ig ks xs ks[i]=some xs[i]:=by
  induction ks generalizing xs with
  | nil=>intro i h;cases h
  | cons k ks ih =>
    intro i h h2;cases xs with
    | nil=>cases h2
    | cons x xs =>
      cases i with
      | zero=>simp[Ig]
      | succ i =>
        have hne:k≠ks[i]'(by simpa using h):=λe=>(List.nodup_cons.1 hn).1 (e▸eQ _);simp only[Ig,List.getElem_cons_succ];rw[if_neg hne];exact ih (List.nodup_cons.1 hn).2 (by simpa using h) (by simpa using h2)
theorem PZ{ks:List Str}{xs:List Tree}(hl:ks.length=xs.length){key:Str}(h:key∈ks):∃y,Ig ks xs key=some y:=by
  induction ks generalizing xs with
  | nil=>cases h
  | cons k ks ih =>
    cases xs with
    | nil=>cases hl
    | cons x xs =>
      rw[Ig];by_cases e:k=key
      ·exact⟨x,if_pos e⟩
      rw[if_neg e];exact ih (by simpa using hl) (by rcases oQ.1 h with h|h;exact absurd h.symm e;exact h)
theorem SE{ks:List Str}{xs:List Tree}(key:Str):Ig ks (Ff xs) key=(Ig ks xs key).map sortT:=by
  cases h:Ig ks xs key with
  | some y=>exact Ty h
  | none =>
    induction ks generalizing xs with
    | nil=>cases xs <;> rfl
    | cons k ks ih =>
      cases xs with
      | nil=>rfl
      | cons x xs =>
        rw[Ig]at h;rw[Ff,Ig];by_cases e:k=key
        ·rw[if_pos e]at h;cases h
        rw[if_neg e]at h ⊢;exact ih h
theorem SQ{ks ks':List Str}{n:Int}(h:ks.Perm ks'):Om ks n=Om ks' n:=by
  unfold Om;rw[h.length_eq,decide_eq_decide.2 h.nodup_iff]
  congr 2
  rw[Bool.eq_iff_iff,List.all_eq_true,List.all_eq_true];exact⟨λhh k hk=>hh k (h.mem_iff.2 hk),λhh k hk=>hh k (h.mem_iff.1 hk)⟩
theorem B7{q:Tree->Bool}:∀{xs:List Tree},(∀x∈xs,Me q x=true)->Gs q xs=true
  | [],_=>rfl
  | x::xs,h=>by rw[Gs,h x Oa,B7 (λy hy=>h y (by simp[hy]))];rfl
theorem UF{ks:List Str}{xs:List Tree}(hn:ks.Nodup)(hl:ks.length=xs.length):(By ks xs).Perm (Ff xs):=by
  have h1:(By ks xs).Perm (ks.map λkey=>(Ig ks (Ff xs) key).getD (.node 0 [] [] [])):=(Un ks).map _;refine h1.trans ?_;have h2:(ks.map λkey=>(Ig ks (Ff xs) key).getD (.node 0 [] [] []))=Ff xs:=by
    apply List.ext_getElem
    ·rw[rQ,Qh,rQ,hl]
    intro i h1 h2;rw[List.getElem_map,KA hn (by simpa using h1) h2];rfl
  rw[h2]
theorem Tw{k:Int}{t:Str}{ks:List Str}{xs:List Tree}:sortT (.node k t ks xs)=if k=6 then .node k t (Bg ks) (By ks xs) else .node k t [] (Ff xs):=by rw[sortT];rfl
theorem MV(x:Tree):Me nodeB x=true->Me nodeB (sortT x)=true:=Tree.ind (Q:=λx=>Me nodeB x=true->Me nodeB (sortT x)=true) (λk t ks xs ih hx=>by
  obtain⟨hn,hxs⟩:=Bh hx;have hs:∀y∈Ff xs,Me nodeB y=true:=by
    intro y hy;rw[Qh]at hy;obtain⟨z,hz,rfl⟩:=nQ.1 hy;exact ih z hz (hxs z hz)
  rw[Tw];split
  ·rename_i h6
   subst h6;obtain⟨nd,len⟩:=Wv hn;have hp:=UF nd len;rw[Me,Bool.and_eq_true];refine⟨?_,B7 λy hy=>hs y (hp.mem_iff.1 hy)⟩;simp only[nodeB]at hn ⊢;rw[if_pos trivial]at hn ⊢;rw[SQ (Un ks),hp.length_eq,Qh,rQ];exact hn
  rename_i h6
  rw[Me,Bool.and_eq_true];refine⟨?_,B7 hs⟩;simp only[nodeB]at hn ⊢;by_cases h5:k=5
  ·rw[if_pos h5]at hn ⊢
   simp at hn ⊢;exact hn.2
  rw[if_neg h5, if_neg h6]at hn ⊢;by_cases hc:ks≠[]\/xs≠[]
  ·rw[if_pos hc]at hn;cases hn
  have hk : ks = [] := Classical.byContradiction λh => hc (.inl h);have hx0:xs=[]:=Classical.byContradiction λh=>hc (.inr h);subst hk hx0;simpa[Ff]using hn) x
theorem Ny:∀xs:List Tree,Ec xs=(xs.map Nb).sum
  | []=>rfl
  | x::xs=>by rw[Ec,Ny xs];rfl
theorem NI{xs ys:List Tree}(h:xs.Perm ys):Ec xs=Ec ys:=by
  rw[Ny,Ny];exact (h.map _).sum_nat
theorem QD{xs ys:List Tree}(h:xs.Perm ys):Od xs=Od ys:=by
  induction h with
  | nil=>rfl
  | cons x _ ih=>rw[Od,Od,ih]
  | swap x y l=>simp only[Od];omega
  | trans _ _ h1 h2=>rw[h1,h2]
theorem LC(x:Tree):Me nodeB x=true->Nb (sortT x)=Nb x/\Vc (sortT x)=Vc x:=Tree.ind (Q:=λx=>Me nodeB x=true->Nb (sortT x)=Nb x/\Vc (sortT x)=Vc x) (λk t ks xs ih hx=>by
  obtain⟨hn,hxs⟩:=Bh hx;have h1:∀ys:List Tree,(∀y∈ys,y∈xs)->Ec (Ff ys)=Ec ys/\Od (Ff ys)=Od ys:=by
    intro ys
    induction ys with
    | nil=>intro _;exact⟨rfl,rfl⟩
    | cons y ys ihy =>
      intro hm;obtain⟨a,b⟩:=ih y (hm y Oa) (hxs y (hm y Oa));obtain⟨c,d⟩:=ihy (λz hz=>hm z (by simp[hz]));simp only[Ff,Ec,Od,a,b,c,d];exact⟨trivial,trivial⟩
  obtain⟨a,b⟩:=h1 xs (λ_ h=>h);rw[Tw];split
  ·rename_i h6
   subst h6;obtain⟨nd,len⟩:=Wv hn;have hp:=UF nd len;simp only[Nb,Vc,NI hp,QD hp,a,b];exact⟨trivial,trivial⟩
  simp only[Nb, Vc, a, b];exact⟨trivial,trivial⟩) x
theorem OX{x:Tree}(h:Qg x=true):Qg (sortT x)=true:=by
  obtain⟨a,b⟩:=LC x (Hk h);have c:=MV x (Hk h);unfold Qg Km at h ⊢;rw[a,b,c];simp only[Bool.and_eq_true]at h;simp[h.1]
theorem Zq{x:Tree}(h:Qg x=true):Ae x=sortT x:=by rw[Ae,if_pos h]
abbrev n1T:Tree:=.node 3 [49] [] []
abbrev n2T:Tree:=.node 3 [50] [] []
abbrev xT:Tree:=.node 6 [] [[97],[98]] [n1T,n2T]
abbrev yT:Tree:=.node 6 [] [[98],[97]] [n2T,n1T]
section
variable {P:Program}{w0 w w':World}{ids:List Nat}{ds:List D}
theorem Ei{P:Program}{ρ:Operand->Value}{o:Oper}{w w':World}{p:Prop}{_:Decidable p}(h:(execOp ρ o).run P w=.ok (.value (.bool (decide p))) w')(hp:p):(execOp ρ o).run P w=.ok (.value (.bool true)) w':=by rw[h,decide_eq_true hp]
theorem Xf{P:Program}{ρ:Operand->Value}{o:Oper}{w w':World}{p:Prop}{_:Decidable p}(h:(execOp ρ o).run P w=.ok (.value (.bool (decide p))) w')(hp:¬p):(execOp ρ o).run P w=.ok (.value (.bool false)) w':=by rw[h,decide_eq_false hp]
theorem RX.tree{k:Int}{t:Str}{ks:List Str}{xs:List Tree}{v u:Value}(hk:-9223372036854775808<=k/\k<=9223372036854775807)(ht:t.length<=9223372036854775807)
    (h3:RX w0 ids w [Oh ks] [v]) (h4:RX w0 ids w [.slice (Fe xs)] [u]):RX w0 ids w [Ob (.node k t ks xs)] [J k,I t,v,u]:=.one (Rep.tree_mk hk ht h3.rep h4.rep)
theorem RX.nils{ids:List Nat}:RX w0 ids w [.slice []] [aQ]:=.one (Rep.nil_slice 0 Aa none)
theorem RX.strs:∀{ks:List Str},(∀k∈ks,k.length<=9223372036854775807)->RX w0 ids w (ks.map Vl) (ks.map λk=>I k)
  | [],_=>RX.nil
  | k::ks,h=>RepL.cons_mk (Rep.lit_mk (v:=I k) (h k Oa)) (RX.strs (λx hx=>h x (by simp[hx])))
theorem RX.str(t:Str)(ht:t.length<=9223372036854775807):RX w0 ids w [Ob (.node 4 t [] [])] [J 4,I t,aQ,aQ]:=RX.tree ⟨by omega,by omega⟩ ht RX.nils RX.nils
end
end Go.Scarf
