/- A part of the proof. -/
import Derived.Test.YtgkmigdopohcnaaGreatDoorW16
set_option linter.all false
set_option maxHeartbeats 8000000
set_option maxRecDepth 10000
namespace Go.Scarf
open Go.RowKit Go.Proofs Go.Proofs.Tryz
mutual
def EW:Tree->Tree->Bool
  | .node k t ks xs,.node k' t' ks' ys=>decide (k=k')&&decide (t=t')&&decide (ks=ks')&&UF xs ys
def UF:List Tree->List Tree->Bool
  | [],[]=>true
  | x::xs,y::ys=>EW x y&&UF xs ys
  | _,_=>false
end
theorem WJ:∀{xs ys:List Tree},(∀x∈xs,∀y,EW x y=true↔x=y)->(UF xs ys=true↔xs=ys)
  | [],[],_=>by simp[UF]
  | [],_::_,_=>by simp[UF]
  | _::_,[],_=>by simp[UF]
  | x :: xs, y :: ys, h => by
    rw[UF,Bool.and_eq_true,h x La y,WJ (λz hz=>h z (by simp[hz]))];simp
theorem Vv(x:Tree):∀y,EW x y=true↔x=y:=Tree.ind (Q:=λx=>∀y,EW x y=true↔x=y) (λk t ks xs ih y=>by
  obtain⟨k',t',ks',ys⟩:=y;rw[EW,Bool.and_eq_true,Bool.and_eq_true,Bool.and_eq_true,WJ ih];simp[and_assoc]) x
theorem Fi(x:Tree):EW x x=true:=(Vv x x).2 rfl
theorem Ux{x y:Tree}(h:x≠y):EW x y=false:=by rw[Bool.eq_false_iff];exact λe=>h ((Vv x y).1 e)
instance : DecidableEq Tree:=λx y=>if h:EW x y=true then .isTrue ((Vv x y).1 h) else .isFalse (λe=>h ((Vv x y).2 e))
theorem U6{α:Type}{xs ys:List α}{j:Nat}(h:j<xs.length)(h2:j<ys.length)(ha:xs.take j=ys.take j)(he:xs[j]=ys[j]):xs.take (j+1)=ys.take (j+1):=by
  rw[iQ h,iQ h2,ha,he]
def DI(x:Tree):Prop:=∀y S S' w0 cs ct,Rep S w0 (Hb x) cs->Rep S' w0 (Hb y) ct->Calls prog 19 #[.agg cs.toArray,.agg ct.toArray] w0 (Pc λv w'=>v=.bool (EW x y)/\Same [] w0 w')
mutual
def Mp(left deep:Int):Tree->Int|.node _ _ ks xs=>if 60<deep then -1 else Zk (left-1-ks.length) deep xs
def Zk(left deep:Int):List Tree->Int|[]=>left|x::xs=>if left<0 then left else Zk (Mp left (deep+1) x) deep xs
end
mutual
def Gk:Tree->Bool|.node _ t ks xs=>decide (t.length<=2048)&&ks.all (λk=>decide (k.length<=1024))&&Eo xs
def Eo:List Tree->Bool|[]=>true|x::xs=>Gk x&&Eo xs
end
def Ro(x:Tree)(most:Int):Bool:=decide (0<=Mp most 0 x)&&Gk x
theorem P_(deep:Int):∀(xs:List Tree)(left:Int),(∀x∈xs,∀l d:Int,0<=l->Mp l d x<=l)->Zk left deep xs<=left
  | [],left,_=>by rw[Zk];exact Int.le_refl _
  | x :: xs, left, h => by
    rw[Zk];split
    ·exact Int.le_refl _
    have h1 := h x La left (deep + 1) Ba;have h2:=P_ deep xs (Mp left (deep+1) x) (λy hy=>h y (by simp[hy]));omega
theorem GY(x:Tree):∀l d:Int,0<=l->Mp l d x<=l:=Tree.ind (Q:=λx=>∀l d:Int,0<=l->Mp l d x<=l) (λk t ks xs ih l d hl=>by
  rw[Mp];split
  ·omega
  have := P_ d xs (l-1-ks.length) ih;omega) x
theorem Ay{left deep:Int}(h:left<0):∀xs:List Tree,Zk left deep xs=left
  | []=>by rw[Zk]
  | x::xs=>by rw[Zk,if_pos h]
theorem WH(x:Tree):∀l d:Int,0<=l->0<=d->0<=Mp l d x->Mp l d x=l-Mb x-Er x/\d+Hd x<=61:=Tree.ind (Q:=λx=>∀l d:Int,0<=l->0<=d->0<=Mp l d x->Mp l d x=l-Mb x-Er x/\d+Hd x<=61) (λk t ks xs ih l d hl hd h=>by
  rw[Mp]at h ⊢;split at h
  ·omega
  rename_i hd60
  rw[if_neg hd60];have key:∀(ys:List Tree),(∀y∈ys,y∈xs)->∀m:Int,0<=Zk m d ys->Zk m d ys=m-Vb ys-So ys/\d+1+Wc ys<=61:=by
    intro ys
    induction ys with
    | nil=>intro _ m hm;simp only[Zk,Vb,So,Wc];omega
    | cons y ys ihy =>
      intro hm m h0;rw[Zk]at h0 ⊢;split at h0
      ·omega
      rename_i hmm
      rw[if_neg hmm];obtain⟨a1,a2⟩:=ihy (λz hz=>hm z (by simp[hz])) _ h0;have h3:0<=Mp m (d+1) y:=by
        rcases Int.lt_or_le (Mp m (d+1) y) 0 with hlt|hge
        ·rw[Ay hlt]at h0;omega
        exact hge
      obtain⟨b1,b2⟩:=ih y (hm y La) m (d+1) Ba Ba h3;simp only[Vb,So,Wc];omega
  obtain⟨a1,a2⟩:=key xs (λ_ h=>h) _ h;rw[Mb,Er,Hd];omega) x
theorem RI{x:Tree}{most:Int}(hm:0<=most)(h:Ro x most=true):(Mb x:Int)+Er x<=most/\Hd x<=61/\Gk x=true:=by
  unfold Ro at h;rw[Bool.and_eq_true,decide_eq_true_eq]at h;obtain⟨a,b⟩:=WH x most 0 hm Ba h.1;exact⟨by omega,by omega,h.2⟩
theorem XF{left deep:Int}{xs:List Tree}{j:Nat}(h:j<xs.length)(h0:¬left<0):Zk left deep (xs.drop j)=Zk (Mp left (deep+1) xs[j]) deep (xs.drop (j+1)):=by
  rw[List.drop_eq_getElem_cons h,Zk,if_neg h0]
def FewC(x:Tree):Prop:=∀(left deep:Int) S w0 cs,0<=left->left<=1000000->0<=deep->deep<=61->Rep S w0 (Hb x) cs->Calls prog 37 #[.agg cs.toArray,J left,J deep] w0 (Pc λv w'=>v=J (Mp left deep x)/\Same [] w0 w')
def HH(x:Tree):Prop:=∀S w0 cs,Rep S w0 (Hb x) cs->Calls prog 38 #[.agg cs.toArray] w0 (Pc λv w'=>v=.bool (Gk x)/\Same [] w0 w')
theorem W_{xs:List Tree}{x:Tree}(h:x∈xs)(hs:Gk x=false):Eo xs=false:=by
  induction xs with
  | nil=>cases h
  | cons y ys ih =>
    rw[Eo];rcases oQ.1 h with rfl|h
    ·rw[hs];rfl
    rw[ih h,Bool.and_false]
theorem FD{xs:List Tree}(h:∀j (hj:j<xs.length),Gk xs[j]=true):Eo xs=true:=by
  induction xs with
  | nil=>rfl
  | cons y ys ih =>
    have h0:Gk y=true:=h 0 La;rw[Eo,h0,Bool.true_and];exact ih (λj hj=>by have:=h (j+1) (by simpa using hj);simpa using this)
theorem EI(k:Int)(t:Str)(ks:List Str)(xs:List Tree)(ih:∀x,x∈xs->DI x):DI (.node k t ks xs):=by
 rintro⟨k',t',ks',ys⟩ S S' w0 cs ct hR hR';obtain⟨A,c,B,e,rfl,-,-,hK,hX⟩:=hR.tree_inv;obtain⟨A',c',B',e',rfl,-,-,hK',hY⟩:=hR'.tree_inv;have hXl:=hX.slice_len;have hKl:=hK.slice_len;have hYl:=hY.slice_len;have hKl':=hK'.slice_len;refine Ea func19 O ntmps19 Db (Lc _ _) ?_;have hF:=FR.start w0 [];refine Da (Le hF O ?_);rintro b1 w hb1 hF -;refine Le hF O ?_;rintro b2 w hb2 hF -;refine Aa (Jb O) (Ca (Fa (Da (Aa (Ob Se O) (Tb (Yi dZ O hF.F 1 O O) (Aa (Ob Se O) (Tb (Yi dZ O hF.F 0 O O) (Aa (Om O O) (Aa (Dc O) ?_)))))))));refine Wb (d:=13) O (λhg0=>?_) (λhg0=>?_);refine Ia (Ia (Ia (Ia (Ia (Aa (Yb O O) (Aa (Dc O) (Ia (Ia (Ia (Ia (Ia (Ia (Ia ?_)))))))))))));refine Aa (Yb O O) (Aa (Dc O) (Ia (Ia (Ia (Ia (Ia (Ia (Ia (Aa (Yb O O) (Ca (Fd O (Fa ?_))))))))))));refine Ha (Aa (Jb O) (Ca ?_));refine Hc (v:=.bool false) O O ?_;refine⟨congrArg Value.bool (Ux (λhe=>?_)).symm,hF.same⟩;cases he;first|exact absurd rfl (by assumption)|(simp only[Fi]at hc4;cases hc4)
 refine Aa (Ob Re O) (Tb (Rm iZ O hF.F 1 O O) (Aa (Ob Re O) (Tb (Rm iZ O hF.F 0 O O) (Aa (yns O O) (Aa (Bc O O) (Aa (Dc O) ?_))))));refine Wb (d:=20) O (λhg1=>?_) (λhg1=>?_);refine Ia (Ia (Ia (Ia (Ia (Ia (Ia (Aa (Yb O O) (Aa (Dc O) (Ia (Ia (Ia (Ia (Ia ?_)))))))))))));refine Ia (Ia (Aa (Yb O O) (Ca (Fd O (Da (Aa (Jb O) (Ca ?_)))))));refine Hc (v:=.bool false) O O ?_;refine⟨congrArg Value.bool (Ux (λhe=>?_)).symm,hF.same⟩;cases he;first|exact absurd rfl (by assumption)|(simp only[Fi]at hc4;cases hc4)
 refine Aa (Ob Zd O) (Tb (Ff yQ O hF.F 1 O O) (Aa (Ug xZ O) (Aa (Ob Zd O) (Tb (Ff yQ O hF.F 0 O O) (Aa (Ug xZ O) (Aa (Om O O) (Aa (Bc O O) (Aa (Dc O) ?_))))))));refine Wb (d:=29) O (λhg2=>?_) (λhg2=>?_);refine Ia (Ia (Ia (Ia (Ia (Ia (Ia (Aa (Yb O O) (Ca (Fd O (Da (Aa (Jb O) ?_)))))))))));refine Ca (Hc (v:=.bool false) O O ?_);refine⟨congrArg Value.bool (Ux (λhe=>?_)).symm,hF.same⟩;cases he;first|exact absurd rfl (by assumption)|(simp only[Fi]at hc4;cases hc4)
 refine Aa (Ob Ub O) (Tb (Ff zQ O hF.F 1 O O) (Aa (Ug yZ O) (Aa (Ob Ub O) (Tb (Ff zQ O hF.F 0 O O) (Aa (Ug yZ O) (Aa (Om O O) (Aa (Bc O O) (Ca ?_))))))));refine Pb O O (λhc0=>?_) (λhc0=>?_);refine Da (Aa (Jb O) (Ca ?_));refine Hc (v:=.bool false) O O ?_;refine⟨congrArg Value.bool (Ux (λhe=>?_)).symm,hF.same⟩;cases he;first|exact absurd rfl (by assumption)|(simp only[Fi]at hc4;cases hc4)
 refine Na (Ga (Fa (Da (Aa (Lb O) (Ca (Va ?_))))));refine Tc (λμ σ w=>∃(j:Nat),μ=ks.length-j/\(j<=ks.length)/\(ks.take j=ks'.take j)/\AllEq σ [(2,V b1),(3,V b2),(5,J ((j:Int)))]/\FR w0 [] [(b2,.cells #[J k',I t',.slice A' ks'.length c',.slice B' ys.length e'] 25),(b1,.cells #[J k,I t,.slice A ks.length c,.slice B xs.length e] 25)] w) _ ⟨0,O,(Nat.zero_le _),La,O_,hF⟩ ?_;rintro μ σ w ⟨j,rfl,hj,ha,hs,hF⟩;refine Cg.slots hs ?_;clear hs;intro σ;refine Fa (Da (Aa (Gb O) (Aa (Ob Zd O) (Tb (Ff yQ O hF.F 1 O O) (Aa (Ug xZ O) (Aa (Sl O O) (Ca ?_)))))));refine Pb O O (λhc1=>?_) (λhc1=>?_);refine Na (Ga (Fa (Va (Fa ?_))));refine Zc (zs:=.of []) (bQ [0,1,2,3,4,5,6,7,8,9,10] .nil) hF ?_;intro w hF;refine Fb O (Ob Zd O) (Sf O (Ff yQ O C0 1 O O) (Fb O (Gb O) ?_));obtain⟨ad3,hA3,hk3,hx3⟩:=hK.str_elem (i:=j) Ba;refine Bb O (v:=.pointer (some (ad3.add (j*1)))) (λw hC=>Sa (i:=(j:Int)) Wt O hA3 O Ba Ba) (Bb O (v:=I (ks[j])) (λw hC=>Ad iZ O (hC.cell0 hk3)) (Fb O (Ob Zd O) (Sf O (Ff yQ O C0 0 O O) (Fb O (Gb O) ?_))));obtain⟨ad4,hA4,hk4,hx4⟩:=hK'.str_elem (i:=j) Ba;refine Bb O (v:=.pointer (some (ad4.add (j*1)))) (λw hC=>Sa (i:=(j:Int)) Wt O hA4 O Ba Ba) (Bb O (v:=I (ks'[j])) (λw hC=>Ad iZ O (hC.cell0 hk4)) (Fb O (yns O O) (Ac (Ga ?_))));refine Pb O O (λhc2=>?_) (λhc2=>?_);refine Da (Aa (Jb O) (Ca ?_));refine Hc (v:=.bool false) O O ?_;refine⟨congrArg Value.bool (Ux (λhe=>?_)).symm,hF.same⟩;cases he;first|exact absurd rfl (by assumption)|(simp only[Fi]at hc4;cases hc4)
 refine Na (Cb (Ga (Ha (Aa (Gb O) (Aa (Il O O) (Aa (Lb O) (Ua ?_)))))));refine Xb ⟨_,?_,j+1,O,Ba,(U6 Ba Ba ha (by simpa using hc2)),O_,hF⟩;omega;refine Kc (Ec O ?_);refine Ga (Fa (Da (Aa (Lb O) (Ca (Va ?_)))));refine Tc (λμ σ w=>∃(i:Nat),μ=xs.length-i/\(i<=xs.length)/\(xs.take i=ys.take i)/\AllEq σ [(2,V b1),(3,V b2),(6,J ((i:Int)))]/\FR w0 [] [(b2,.cells #[J k',I t',.slice A' ks'.length c',.slice B' ys.length e'] 25),(b1,.cells #[J k,I t,.slice A ks.length c,.slice B xs.length e] 25)] w) _ ⟨0,O,(Nat.zero_le _),La,O_,hF⟩ ?_;rintro μ σ w ⟨i,rfl,hi,hb,hs,hF⟩;refine Cg.slots hs ?_;clear hs;intro σ;have hke:ks=ks':=by rw[List.take_of_length_le Ba,List.take_of_length_le Ba]at ha;exact ha
 refine Fa (Da (Aa (Gb O) (Aa (Ob Ub O) (Tb (Ff zQ O hF.F 1 O O) (Aa (Ug yZ O) (Aa (Sl O O) (Ca ?_)))))));refine Pb O O (λhc3=>?_) (λhc3=>?_);refine Na (Ga (Fa (Va (Fa ?_))));refine Zc (zs:=.of []) (bQ [0,1,2,3,4,5,6,7,8,9] (.act 10 (.free 11 .nil))) hF ?_;intro w hF;refine Fb O (Ob Ub O) (Sf O (Ff zQ O C0 1 O O) (Fb O (Gb O) ?_));obtain⟨ad5,cs5,hA5,hl5,hk5,hx5⟩:=hX.tree_elem (i:=i) Ba;have ho5:=hx5.one_;refine Bb O (v:=.pointer (some (ad5.add (i*4)))) (λw hC=>Sa (i:=(i:Int)) Mg O hA5 O Ba Ba) (Bb O (v:=.agg (List.toArray cs5)) (λw hC=>Xa (l:=cs5) aZ mZ O hl5 (hC.cells0 hk5)) (Fb O (Ob Ub O) (Sf O (Ff zQ O C0 0 O O) (Fb O (Gb O) ?_))));obtain⟨ad6,cs6,hA6,hl6,hk6,hx6⟩:=hY.tree_elem (i:=i) Ba;have ho6:=hx6.one_;refine Bb O (v:=.pointer (some (ad6.add (i*4)))) (λw hC=>Sa (i:=(i:Int)) Mg O hA6 O Ba Ba) (Bb O (v:=.agg (List.toArray cs6)) (λw hC=>Xa (l:=cs6) aZ mZ O hl6 (hC.cells0 hk6)) ?_);refine Sc hF (ih _ (List.getElem_mem (l:=xs) (n:=i) Ba) ys[i] _ _ _ _ _ (hF.rep hx5) (hF.rep hx6)) O (Ra F5 O O O) ?_;intro w hF;refine⟨hF,?_⟩;refine Fb O (Jb O) (Ac (Ga (Da (Aa (Dc O) (Aa (Oh O) (Ca ?_))))));refine Fe O O (λhc4=>?_) (λhc4=>?_);refine Da (Aa (Jb O) (Ca ?_));refine Hc (v:=.bool false) O O ?_;refine⟨congrArg Value.bool (Ux (λhe=>?_)).symm,hF.same⟩;cases he;first|exact absurd rfl (by assumption)|(simp only[Fi]at hc4;cases hc4)
 refine Na (Cb (Ga (Ha (Aa (Gb O) (Aa (Il O O) (Aa (Lb O) (Ua ?_)))))));refine Xb ⟨_,?_,i+1,O,Ba,(U6 Ba Ba hb ((Vv _ _).1 (by simpa using hc4))),O_,hF⟩;omega;refine Kc (Ec O ?_);refine Ga (Da (Aa (Jb O) (Ca ?_)));refine Hc (v:=.bool true) O O ?_;have e3:xs=ys:=(by have h1:=hb;rw[List.take_of_length_le Ba]at h1;rw[List.take_of_length_le Ba]at h1;exact h1);have e1:k=k':=Classical.not_not.1 hg0;have e2:t=t':=Classical.not_not.1 hg1;subst hke e3 e1 e2;exact⟨congrArg Value.bool (Fi _).symm,hF.same⟩
theorem Gv(x:Tree):DI x:=Tree.ind EI x
theorem FT(k:Int)(t:Str)(ks:List Str)(xs:List Tree)(ih:∀x,x∈xs->FewC x):FewC (.node k t ks xs):=by
 intro left deep S w0 cs h0 h1 h2 h3 hR;obtain⟨A,c,B,e,rfl,-,-,hK,hX⟩:=hR.tree_inv;have hXl:=hX.slice_len;have hKl:=hK.slice_len;refine Ea func37 O ntmps37 Db (Fk _ _ _) ?_;have hF:=FR.start w0 [];refine Da (Le hF O ?_);rintro b1 w hb1 hF -;refine Aa (Lb O) (Ca (Fa (Da (Aa (Gb O) (Aa (Gz O O) (Ca ?_))))));refine Pb O O (λhc0=>?_) (λhc0=>?_);refine Da (Aa (Lb O) (Ca ?_));refine Hc (v:=J ((-1))) O O ?_;exact⟨congrArg (Value.int .i64) (by rw[Mp,if_pos Ba]),hF.same⟩;refine Na (Ga (Da (Aa (Gb O) (Aa (WV O O) (Aa (Ob Zd O) (Tb (Ff yQ O hF.F 0 O O) (Aa (Ug xZ O) (Aa (WV O O) (Aa (Lb O) (Ca (Fa ?_)))))))))));refine Da (Aa (Lb O) (Ca (Va ?_)));refine Tc (λμ σ w=>∃(j:Nat),∃(lf:Int),μ=xs.length-j/\(j<=xs.length)/\(lf<=1000000)/\(Zk (left-1-ks.length) deep xs=Zk lf deep (xs.drop j))/\AllEq σ [(1,J lf),(2,J deep),(3,V b1),(7,J ((j:Int)))]/\FR w0 [] [(b1,.cells #[J k,I t,.slice A ks.length c,.slice B xs.length e] 25)] w) _ ⟨0,(left-1-ks.length),O,(Nat.zero_le _),Ba,La,Nr,hF⟩ ?_;rintro μ σ w ⟨j,lf,rfl,hj,hlf,hf,hs,hF⟩;refine Cg.slots hs ?_;clear hs;intro σ;refine Fa (Da (Aa (Gb O) (Aa (Ob Ub O) (Tb (Ff zQ O hF.F 0 O O) (Aa (Ug yZ O) (Aa (Sl O O) (Aa (Dc O) ?_)))))));refine Wb (d:=21) O (λhg0=>?_) (λhg0=>?_);refine Aa (Gb O) (Aa (T6 O O) (Aa (Yb O O) (Ca ?_)));refine Pb O O (λhc1=>?_) (λhc1=>?_);refine Na (Ga (Fa (Va (Ha (Aa (Ob Ub O) (Tb (Ff zQ O hF.F 0 O O) (Aa (Gb O) ?_)))))));obtain⟨ad1,cs1,hA1,hl1,hk1,hx1⟩:=hX.tree_elem (i:=j) Ba;have ho1:=hx1.one_;refine Ja (v:=.pointer (some (ad1.add (j*4)))) (Sa (i:=(j:Int)) Mg O hA1 O Ba Ba) (Ja (v:=.agg (List.toArray cs1)) (Xa (l:=cs1) aZ mZ O hl1 (hF.cells0 hk1)) (Aa (Gb O) (Aa (Gb O) (Aa (Il O O) ?_))));refine Oa hF (ih _ (List.getElem_mem (l:=xs) (n:=j) Ba) lf (deep+1) _ _ _ Ba Ba Ba Ba (hF.rep hx1)) (Te en_37 O O O O) ?_
 intro w hF;refine Aa (Lb O) (Ua (Cb (Ga (Ha (Aa (Gb O) (Aa (Il O O) (Aa (Lb O) (Ua ?_))))))));refine Xb ⟨_,?_,j+1,Mp lf (deep+1) xs[j],O,Ba,(by have:=GY xs[j] lf (deep+1) Ba;omega),(hf.trans (XF Ba Ba)),Nr,hF⟩;omega;refine Kc (Ec O ?_);refine Ga (Da (Aa (Gb O) (Aa (Lb O) (Ca ?_))));refine Hc (v:=J lf) O O ⟨congrArg (Value.int .i64) ?_,hF.same⟩;rw[Mp,if_neg Ba,hf]
 ·first|(rw[List.drop_eq_nil_of_le Ba,Zk];done)|(rw[Ay Ba])
 refine Ia (Ia (Aa (Bc O O) (Ca (We O ?_))));refine Kc (Ec O ?_);refine Ga (Da (Aa (Gb O) (Aa (Lb O) (Ca ?_))));refine Hc (v:=J lf) O O ⟨congrArg (Value.int .i64) ?_,hF.same⟩;rw[Mp,if_neg Ba,hf]
 ·first|(rw[List.drop_eq_nil_of_le Ba,Zk];done)|(rw[Ay Ba])
theorem few_c(x:Tree):FewC x:=Tree.ind FT x
theorem JG(k:Int)(t:Str)(ks:List Str)(xs:List Tree)(ih:∀x,x∈xs->HH x):HH (.node k t ks xs):=by
  intro S w0 cs hR;obtain⟨A,c,B,e,rfl,-,-,hK,hX⟩:=hR.tree_inv;have hXl:=hX.slice_len;have hKl:=hK.slice_len;refine Ea func38 O ntmps38 Db (Rb _) ?_;have hF:=FR.start w0 [];refine Fa (Ha ?_);refine Le hF O ?_;intro b1 w hb1 hF hE;refine Aa (Jb O) (Ua ?_);refine Ga (Fa ?_);refine Fa (Ha ?_);refine Aa (Ob Re O) (Tb (Rm iZ O hF.F 0 O O) ?_);refine Aa (Qr iX O) (Aa (Gz O O) ?_);refine Ua (Ga ?_);refine Pb O O (λhc0=>?_) (λhc0=>?_)
  ·
   refine Fa (Ha ?_);refine Aa (Jb O) (Ua ?_);refine Ga (Hc (v:=.bool false) O O ?_);exact⟨congrArg Value.bool (by rw[Gk,decide_eq_false Ba];rfl),hF.same⟩
  refine Na (Ga ?_);refine Fa (Fa ?_);refine Ha (Aa (Lb O) ?_);refine Ua (Ga ?_);refine Va (Tc (λμ σ w=>∃(j:Nat),μ=ks.length-j/\(j<=ks.length)/\(∀i (hi:i<j) (hk:i<ks.length),ks[i].length<=1024)/\AllEq σ [(1,V b1),(3,J ((j:Int)))]/\FR w0 [] [(b1,.cells #[J k,I t,.slice A ks.length c,.slice B xs.length e] 25)] w) _ ⟨0,O,(Nat.zero_le _),(λi hi=>absurd hi Ba),UB,hF⟩ ?_);rintro μ σ w ⟨j,rfl,hj,ha,hs,hF⟩;refine Cg.slots hs ?_;clear hs;intro σ;refine Fa (Fa ?_);refine Ha (Aa (Gb O) ?_);refine Aa (Ob Zd O) (Tb (Ff yQ O hF.F 0 O O) ?_);refine Aa (Ug xZ O) (Aa (Sl O O) ?_);refine Ua (Ga ?_);refine Pb O O (λhc1=>?_) (λhc1=>?_)
  ·
   refine Na (Ga ?_);refine Fa (Va ?_);refine Fa (Ha ?_);refine Aa (Ob Zd O) (Tb (Ff yQ O hF.F 0 O O) ?_);refine Aa (Gb O) ?_;obtain⟨ad0,hA0,hk0,hx0⟩:=hK.str_elem (i:=j) Ba;refine Ja (v:=.pointer (some (ad0.add (j*1)))) (Sa (i:=(j:Int)) Wt O hA0 O Ba Ba) (Ja (v:=I (ks[j])) (Ad iZ O (hF.cell0 hk0)) ?_);refine Aa (Qr iX O) (Aa (Gz O O) ?_);refine Ua (Ga ?_);refine Pb O O (λhc2=>?_) (λhc2=>?_)
   ·
    refine Fa (Ha ?_);refine Aa (Jb O) (Ua ?_);refine Ga (Hc (v:=.bool false) O O ?_);have hno:ks.all (λk=>decide (k.length<=1024))=false:=by
      rw[Bool.eq_false_iff];intro hall;have:=List.all_eq_true.1 hall ks[j] (eQ _);simp only[decide_eq_true_eq]at this;omega
    exact⟨congrArg Value.bool (by rw[Gk,hno,Bool.and_false];rfl),hF.same⟩
   refine Na (Cb ?_);refine Ga (Ha ?_);refine Aa (Gb O) (Aa (Il O O) ?_);refine Aa (Lb O) (Ua ?_);refine Xb ⟨_,?_,j+1,rfl,Ba,(λi hi hk=>by rcases Nat.lt_or_ge i j with h|h;exact ha i h hk;obtain rfl:i=j:=Ba;omega),UB,hF⟩;omega
  refine Kc (Ec O ?_);refine Ga (Fa ?_);refine Fa (Ha ?_);refine Aa (Lb O) (Ua ?_);refine Ga (Va ?_);refine Tc (λμ σ w=>∃(i:Nat),μ=xs.length-i/\(i<=xs.length)/\(∀m (hm:m<i) (hk:m<xs.length),Gk xs[m]=true)/\AllEq σ [(1,V b1),(4,J ((i:Int)))]/\FR w0 [] [(b1,.cells #[J k,I t,.slice A ks.length c,.slice B xs.length e] 25)] w) _ ⟨0,O,(Nat.zero_le _),(λi hi=>absurd hi Ba),UB,hF⟩ ?_;rintro μ σ w ⟨i,rfl,hi,hb,hs,hF⟩;refine Cg.slots hs ?_;clear hs;intro σ;refine Fa (Fa ?_);refine Ha (Aa (Gb O) ?_);refine Aa (Ob Ub O) (Tb (Ff zQ O hF.F 0 O O) ?_);refine Aa (Ug yZ O) (Aa (Sl O O) ?_);refine Ua (Ga ?_);refine Pb O O (λhc3=>?_) (λhc3=>?_)
  ·
   refine Na (Ga ?_);refine Fa (Va ?_);refine Fa (Ha ?_);refine Aa (Ob Ub O) (Tb (Ff zQ O hF.F 0 O O) ?_);refine Aa (Gb O) ?_;obtain⟨ad1,cs1,hA1,hl1,hk1,hx1⟩:=hX.tree_elem (i:=i) Ba;have ho1:=hx1.one_;refine Ja (v:=.pointer (some (ad1.add (i*4)))) (Sa (i:=(i:Int)) Mg O hA1 O Ba Ba) (Ja (v:=.agg (List.toArray cs1)) (Xa (l:=cs1) aZ mZ O hl1 (hF.cells0 hk1)) ?_);refine Oa hF (ih _ (List.getElem_mem (l:=xs) (n:=i) Ba) _ _ _ (hF.rep hx1)) (Ma IZ O O) ?_;intro w hF;refine Aa (Jb O) (Ua ?_);refine Ga (Fa ?_);refine Ha (Aa (Dc O) ?_);refine Aa (Oh O) (Ua ?_);refine Ga (Fe O O (λhc4=>?_) (λhc4=>?_))
   ·
    refine Fa (Ha ?_);refine Aa (Jb O) (Ua ?_);refine Ga (Hc (v:=.bool false) O O ?_);exact⟨congrArg Value.bool (by rw[Gk,W_ (List.getElem_mem (l:=xs) (n:=i) Ba) (by simpa using hc4),Bool.and_false]),hF.same⟩
   refine Na (Cb ?_);refine Ga (Ha ?_);refine Aa (Gb O) (Aa (Il O O) ?_);refine Aa (Lb O) (Ua ?_);refine Xb ⟨_,?_,i+1,rfl,Ba,(λm hm hk=>by rcases Nat.lt_or_ge m i with h|h;exact hb m h hk;obtain rfl:m=i:=Ba;simpa using hc4),UB,hF⟩;omega
  refine Kc (Ec O ?_);refine Ga (Fa ?_);refine Ha (Aa (Jb O) ?_);refine Ua (Ga ?_);refine Hc (v:=.bool true) O O ?_;have h1:ks.all (λk=>decide (k.length<=1024))=true:=by
    rw[List.all_eq_true];intro k hk;obtain⟨q,hq,rfl⟩:=List.getElem_of_mem hk;simp only[decide_eq_true_eq];exact ha q Ba hq
  exact⟨congrArg Value.bool (by rw[Gk,h1,decide_eq_true Ba,FD (λm hm=>hb m Ba hm)];rfl),hF.same⟩
theorem VW(x:Tree):HH x:=Tree.ind JG x
theorem Y_(x:Tree)(most:Int)(h0:0<=most)(h1:most<=1000000)(S:Nat->Prop)(w0:World)(cs:List Value)(hR:Rep S w0 (Hb x) cs):Calls prog 14 #[.agg cs.toArray,J most] w0 (Pc λv w'=>v=.bool (Ro x most)/\Same [] w0 w'):=by
 have hl:cs.length=4:=hR.length.trans (Nc x);have ho:=hR.one_;refine Ea func14 O ntmps14 Db (Lc _ _) ?_;have hF:=FR.start w0 [];refine Da (Hm (v:=.agg (List.toArray cs)) (cs:=(List.toArray cs)) hF O O ?_);rintro b1 w hb1 hF -;refine Aa (Jb O) (Qb (Ja (v:=.agg (List.toArray cs)) (Xa (l:=cs) aZ mZ O hl (hF.cellsAll 0 O)) (Aa (Gb O) ?_)));refine Oa hF (few_c x most 0 S _ cs h0 h1 Ba Ba (hF.rep hR)) (Te en_37 O O O O) ?_;intro w hF;refine Aa (Lb O) (Qb (Aa (Gb O) (Aa (T6 O O) (Aa (Dc O) ?_))));refine Wb (d:=11) O (λhg0=>?_) (λhg0=>?_);refine Ja (v:=.agg (List.toArray cs)) (Xa (l:=cs) aZ mZ O hl (hF.cellsAll 0 O)) (Oa hF (VW x S _ cs (hF.rep hR)) (Ma IZ O O) ?_);intro w hF;refine Aa (Yb O O) (Aa (Jb O) (Ca ?_));refine Hc (v:=.bool _) O O ⟨congrArg Value.bool ?_,hF.same⟩;unfold Ro
 first|(rw[decide_eq_true hg0];rfl)|(rw[decide_eq_false hg0];rfl)
 refine Ia (Ia (Aa (Bc O O) (Aa (Jb O) (Ca ?_))));refine Hc (v:=.bool false) O O ⟨congrArg Value.bool ?_,hF.same⟩;unfold Ro
 first|(rw[decide_eq_true hg0];rfl)|(rw[decide_eq_false hg0];rfl)
theorem SK(A:Option Addr)(n c:Nat)(B:Option Addr)(m d:Nat)(w0:World):Calls prog 23 #[.slice A n c,.slice B m d] w0 (Pc λv w'=>v=.agg #[J 6,I [],.slice A n c,.slice B m d]/\Same [] w0 w'):=by
 refine Ea func23 O ntmps23 Db (Lc _ _) ?_;have hF:=FR.start w0 [];refine Da (Jc (cs:=#[J 0,I [],aQ,aQ]) hF kX O ?_);rintro b1 w hb1 hF -;refine Qb (Aa (Wd O) (Aa (Wd O) ?_));refine Ja (w':=w) (v:=.agg #[J 6,I [],.slice A n c,.slice B m d]) Ib (Xd hF mZ O O Qg ?_);rintro w hF -;refine Ca (Ab (Za (Ka (Uh O (l:=[J 6,I [],.slice A n c,.slice B m d]) O aZ mZ O (hF.cellsAll 0 O)) ?_)));exact⟨O,hF.same⟩
abbrev n1T:Tree:=.node 3 [49] [] []
abbrev n2T:Tree:=.node 3 [50] [] []
abbrev xT:Tree:=.node 6 [] [[97],[98]] [n1T,n2T]
abbrev yT:Tree:=.node 6 [] [[98],[97]] [n2T,n1T]
section
variable {P:Program}{w0 w w':World}{ids:List Nat}{ds:List D}
theorem Jj{P:Program}{ρ:Operand->Value}{o:Oper}{w w':World}{p:Prop}{_:Decidable p}(h:(execOp ρ o).run P w=.ok (.value (.bool (decide p))) w')(hp:p):(execOp ρ o).run P w=.ok (.value (.bool true)) w':=by rw[h,decide_eq_true hp]
theorem Yg{P:Program}{ρ:Operand->Value}{o:Oper}{w w':World}{p:Prop}{_:Decidable p}(h:(execOp ρ o).run P w=.ok (.value (.bool (decide p))) w')(hp:¬p):(execOp ρ o).run P w=.ok (.value (.bool false)) w':=by rw[h,decide_eq_false hp]
theorem RX.tree{k:Int}{t:Str}{ks:List Str}{xs:List Tree}{v u:Value}(hk:-9223372036854775808<=k/\k<=9223372036854775807)(ht:t.length<=9223372036854775807)
    (h3:RX w0 ids w [Lh ks] [v]) (h4:RX w0 ids w [.slice (Qd xs)] [u]):RX w0 ids w [Hb (.node k t ks xs)] [J k,I t,v,u]:=.one (Rep.tree_mk hk ht h3.rep h4.rep)
theorem RX.nils{ids:List Nat}:RX w0 ids w [.slice []] [aQ]:=.one (Rep.nil_slice 0 Ba none)
theorem RX.strs:∀{ks:List Str},(∀k∈ks,k.length<=9223372036854775807)->RX w0 ids w (ks.map Hl) (ks.map λk=>I k)
  | [],_=>RX.nil
  | k::ks,h=>RepL.cons_mk (Rep.lit_mk (v:=I k) (h k La)) (RX.strs (λx hx=>h x (by simp[hx])))
theorem RX.str(t:Str)(ht:t.length<=9223372036854775807):RX w0 ids w [Hb (.node 4 t [] [])] [J 4,I t,aQ,aQ]:=RX.tree ⟨by omega,by omega⟩ ht RX.nils RX.nils
end
end Go.Scarf
