/- A part of the proof. -/
import Derived.Test.YtidlkjpohhbbcaaGreatDoorW16
set_option linter.all false
set_option maxHeartbeats 8000000
set_option maxRecDepth 10000
namespace Go.Scarf
open Go.RowKit Go.Proofs Go.Proofs.Tryz
mutual
def eqT:Tree->Tree->Bool
  | .node k t ks xs,.node k' t' ks' ys=>decide (k=k')&&decide (t=t')&&decide (ks=ks')&&ON xs ys
def ON:List Tree->List Tree->Bool
  | [],[]=>true
  | x::xs,y::ys=>eqT x y&&ON xs ys
  | _,_=>false
end
theorem OQ:∀{xs ys:List Tree},(∀x∈xs,∀y,eqT x y=true↔x=y)->(ON xs ys=true↔xs=ys)
  | [],[],_=>by simp[ON]
  | [],_::_,_=>by simp[ON]
  | _::_,[],_=>by simp[ON]
  | x :: xs, y :: ys, h => by
    rw[ON,Bool.and_eq_true,h x La y,OQ (λz hz=>h z (by simp[hz]))];simp
theorem Zz(x:Tree):∀y,eqT x y=true↔x=y:=Tree.ind (Q:=λx=>∀y,eqT x y=true↔x=y) (λk t ks xs ih y=>by
  obtain⟨k',t',ks',ys⟩:=y;rw[eqT,Bool.and_eq_true,Bool.and_eq_true,Bool.and_eq_true,OQ ih];simp[and_assoc]) x
theorem Lj(x:Tree):eqT x x=true:=(Zz x x).2 rfl
theorem F0{x y:Tree}(h:x≠y):eqT x y=false:=by rw[Bool.eq_false_iff];exact λe=>h ((Zz x y).1 e)
instance : DecidableEq Tree:=λx y=>if h:eqT x y=true then .isTrue ((Zz x y).1 h) else .isFalse (λe=>h ((Zz x y).2 e))
theorem E9{α:Type}{xs ys:List α}{j:Nat}(h:j<xs.length)(h2:j<ys.length)(ha:xs.take j=ys.take j)(he:xs[j]=ys[j]):xs.take (j+1)=ys.take (j+1):=by
  rw[iQ h,iQ h2,ha,he]
def IL(x:Tree):Prop:=∀y S S' w0 cs ct,Rep S w0 (Jb x) cs->Rep S' w0 (Jb y) ct->Calls prog 34 #[.agg cs.toArray,.agg ct.toArray] w0 (Oc λv w'=>v=.bool (eqT x y)/\Same [] w0 w')
mutual
def Fr(left deep:Int):Tree->Int|.node _ _ ks xs=>if 60<deep then -1 else Ul (left-1-ks.length) deep xs
def Ul(left deep:Int):List Tree->Int|[]=>left|x::xs=>if left<0 then left else Ul (Fr left (deep+1) x) deep xs
end
mutual
def Cl:Tree->Bool|.node _ t ks xs=>decide (t.length<=2048)&&ks.all (λk=>decide (k.length<=1024))&&Zp xs
def Zp:List Tree->Bool|[]=>true|x::xs=>Cl x&&Zp xs
end
def V0(x:Tree)(most:Int):Bool:=decide (0<=Fr most 0 x)&&Cl x
theorem BJ(deep:Int):∀(xs:List Tree)(left:Int),(∀x∈xs,∀l d:Int,0<=l->Fr l d x<=l)->Ul left deep xs<=left
  | [],left,_=>by rw[Ul];exact Int.le_refl _
  | x :: xs, left, h => by
    rw[Ul];split
    ·exact Int.le_refl _
    have h1 := h x La left (deep + 1) Aa;have h2:=BJ deep xs (Fr left (deep+1) x) (λy hy=>h y (by simp[hy]));omega
theorem fewT_le(x:Tree):∀l d:Int,0<=l->Fr l d x<=l:=Tree.ind (Q:=λx=>∀l d:Int,0<=l->Fr l d x<=l) (λk t ks xs ih l d hl=>by
  rw[Fr];split
  ·omega
  have := BJ d xs (l-1-ks.length) ih;omega) x
theorem O1{left deep:Int}(h:left<0):∀xs:List Tree,Ul left deep xs=left
  | []=>by rw[Ul]
  | x::xs=>by rw[Ul,if_pos h]
theorem AM(x:Tree):∀l d:Int,0<=l->0<=d->0<=Fr l d x->Fr l d x=l-Db x-Ft x/\d+Hd x<=61:=Tree.ind (Q:=λx=>∀l d:Int,0<=l->0<=d->0<=Fr l d x->Fr l d x=l-Db x-Ft x/\d+Hd x<=61) (λk t ks xs ih l d hl hd h=>by
  rw[Fr]at h ⊢;split at h
  ·omega
  rename_i hd60
  rw[if_neg hd60];have key:∀(ys:List Tree),(∀y∈ys,y∈xs)->∀m:Int,0<=Ul m d ys->Ul m d ys=m-Nb ys-Rq ys/\d+1+Ld ys<=61:=by
    intro ys
    induction ys with
    | nil=>intro _ m hm;simp only[Ul,Nb,Rq,Ld];omega
    | cons y ys ihy =>
      intro hm m h0;rw[Ul]at h0 ⊢;split at h0
      ·omega
      rename_i hmm
      rw[if_neg hmm];obtain⟨a1,a2⟩:=ihy (λz hz=>hm z (by simp[hz])) _ h0;have h3:0<=Fr m (d+1) y:=by
        rcases Int.lt_or_le (Fr m (d+1) y) 0 with hlt|hge
        ·rw[O1 hlt]at h0;omega
        exact hge
      obtain⟨b1,b2⟩:=ih y (hm y La) m (d+1) Aa Aa h3;simp only[Nb,Rq,Ld];omega
  obtain⟨a1,a2⟩:=key xs (λ_ h=>h) _ h;rw[Db,Ft,Hd];omega) x
theorem BC{x:Tree}{most:Int}(hm:0<=most)(h:V0 x most=true):(Db x:Int)+Ft x<=most/\Hd x<=61/\Cl x=true:=by
  unfold V0 at h;rw[Bool.and_eq_true,decide_eq_true_eq]at h;obtain⟨a,b⟩:=AM x most 0 hm Aa h.1;exact⟨by omega,by omega,h.2⟩
theorem UK{left deep:Int}{xs:List Tree}{j:Nat}(h:j<xs.length)(h0:¬left<0):Ul left deep (xs.drop j)=Ul (Fr left (deep+1) xs[j]) deep (xs.drop (j+1)):=by
  rw[List.drop_eq_getElem_cons h,Ul,if_neg h0]
def FewC(x:Tree):Prop:=∀(left deep:Int) S w0 cs,0<=left->left<=1000000->0<=deep->deep<=61->Rep S w0 (Jb x) cs->Calls prog 47 #[.agg cs.toArray,J left,J deep] w0 (Oc λv w'=>v=J (Fr left deep x)/\Same [] w0 w')
def IM(x:Tree):Prop:=∀S w0 cs,Rep S w0 (Jb x) cs->Calls prog 48 #[.agg cs.toArray] w0 (Oc λv w'=>v=.bool (Cl x)/\Same [] w0 w')
theorem FJ{xs:List Tree}{x:Tree}(h:x∈xs)(hs:Cl x=false):Zp xs=false:=by
  induction xs with
  | nil=>cases h
  | cons y ys ih =>
    rw[Zp];rcases oQ.1 h with rfl|h
    ·rw[hs];rfl
    rw[ih h,Bool.and_false]
theorem EF{xs:List Tree}(h:∀j (hj:j<xs.length),Cl xs[j]=true):Zp xs=true:=by
  induction xs with
  | nil=>rfl
  | cons y ys ih =>
    have h0:Cl y=true:=h 0 La;rw[Zp,h0,Bool.true_and];exact ih (λj hj=>by have:=h (j+1) (by simpa using hj);simpa using this)
theorem HM(k:Int)(t:Str)(ks:List Str)(xs:List Tree)(ih:∀x,x∈xs->IL x):IL (.node k t ks xs):=by
 rintro⟨k',t',ks',ys⟩ S S' w0 cs ct hR hR';obtain⟨A,c,B,e,rfl,-,-,hK,hX⟩:=hR.tree_inv;obtain⟨A',c',B',e',rfl,-,-,hK',hY⟩:=hR'.tree_inv;have hXl:=hX.slice_len;have hKl:=hK.slice_len;have hYl:=hY.slice_len;have hKl':=hK'.slice_len;refine Ea func34 O ntmps34 Bb (Nc _ _) ?_;have hF:=FR.start w0 [];refine Da (Df hF O ?_);rintro b1 w hb1 hF -;refine Df hF O ?_;rintro b2 w hb2 hF -;refine Ba (Kb O) (Ca (Fa (Da (Ba (Rb Ve O) (Yb (Pi xQ O hF.F 1 O O) (Ba (Rb Ve O) (Yb (Pi xQ O hF.F 0 O O) (Ba (Sn O O) (Ba (Sc O) ?_)))))))));refine Wb (d:=13) O (λhg0=>?_) (λhg0=>?_);refine Ha (Ha (Ha (Ha (Ha (Ba (Fc O O) (Ba (Sc O) (Ha (Ha (Ha (Ha (Ha (Ha (Ha ?_)))))))))))));refine Ba (Fc O O) (Ba (Sc O) (Ha (Ha (Ha (Ha (Ha (Ha (Ha (Ba (Fc O O) (Ca (Od O (Fa ?_))))))))))));refine Ja (Ba (Kb O) (Ca ?_));refine Lc (v:=.bool false) O O ?_;refine⟨congrArg Value.bool (F0 (λhe=>?_)).symm,hF.same⟩;cases he;first|exact absurd rfl (by assumption)|(simp only[Lj]at hc4;cases hc4)
 refine Ba (Rb Bf O) (Yb (Tn fZ O hF.F 1 O O) (Ba (Rb Bf O) (Yb (Tn fZ O hF.F 0 O O) (Ba (yns O O) (Ba (Pc O O) (Ba (Sc O) ?_))))));refine Wb (d:=20) O (λhg1=>?_) (λhg1=>?_);refine Ha (Ha (Ha (Ha (Ha (Ha (Ha (Ba (Fc O O) (Ba (Sc O) (Ha (Ha (Ha (Ha (Ha ?_)))))))))))));refine Ha (Ha (Ba (Fc O O) (Ca (Od O (Da (Ba (Kb O) (Ca ?_)))))));refine Lc (v:=.bool false) O O ?_;refine⟨congrArg Value.bool (F0 (λhe=>?_)).symm,hF.same⟩;cases he;first|exact absurd rfl (by assumption)|(simp only[Lj]at hc4;cases hc4)
 refine Ba (Rb Oe O) (Yb (Ff yQ O hF.F 1 O O) (Ba (Qg iX O) (Ba (Rb Oe O) (Yb (Ff yQ O hF.F 0 O O) (Ba (Qg iX O) (Ba (Sn O O) (Ba (Pc O O) (Ba (Sc O) ?_))))))));refine Wb (d:=29) O (λhg2=>?_) (λhg2=>?_);refine Ha (Ha (Ha (Ha (Ha (Ha (Ha (Ba (Fc O O) (Ca (Od O (Da (Ba (Kb O) ?_)))))))))));refine Ca (Lc (v:=.bool false) O O ?_);refine⟨congrArg Value.bool (F0 (λhe=>?_)).symm,hF.same⟩;cases he;first|exact absurd rfl (by assumption)|(simp only[Lj]at hc4;cases hc4)
 refine Ba (Rb Xb O) (Yb (Ff zQ O hF.F 1 O O) (Ba (Qg jX O) (Ba (Rb Xb O) (Yb (Ff zQ O hF.F 0 O O) (Ba (Qg jX O) (Ba (Sn O O) (Ba (Pc O O) (Ca ?_))))))));refine Lb O O (λhc0=>?_) (λhc0=>?_);refine Da (Ba (Kb O) (Ca ?_));refine Lc (v:=.bool false) O O ?_;refine⟨congrArg Value.bool (F0 (λhe=>?_)).symm,hF.same⟩;cases he;first|exact absurd rfl (by assumption)|(simp only[Lj]at hc4;cases hc4)
 refine Na (Ga (Fa (Da (Ba (Gb O) (Ca (Sa ?_))))));refine Rc (λμ σ w=>∃(j:Nat),μ=ks.length-j/\(j<=ks.length)/\(ks.take j=ks'.take j)/\AllEq σ [(2,V b1),(3,V b2),(5,J ((j:Int)))]/\FR w0 [] [(b2,.cells #[J k',I t',.slice A' ks'.length c',.slice B' ys.length e'] 36),(b1,.cells #[J k,I t,.slice A ks.length c,.slice B xs.length e] 36)] w) _ ⟨0,O,(Nat.zero_le _),La,Tu,hF⟩ ?_;rintro μ σ w ⟨j,rfl,hj,ha,hs,hF⟩;refine Cg.slots hs ?_;clear hs;intro σ;refine Fa (Da (Ba (Cb O) (Ba (Rb Oe O) (Yb (Ff yQ O hF.F 1 O O) (Ba (Qg iX O) (Ba (Dl O O) (Ca ?_)))))));refine Lb O O (λhc1=>?_) (λhc1=>?_);refine Na (Ga (Fa (Sa (Fa ?_))));refine Be (zs:=.of []) (bQ [0,1,2,3,4,5,6,7,8,9,10] .nil) hF ?_;intro w hF;refine Hb O (Rb Oe O) (Nf O (Ff yQ O C0 1 O O) (Hb O (Cb O) ?_));obtain⟨ad3,hA3,hk3,hx3⟩:=hK.str_elem (i:=j) Aa;refine Ab O (v:=.pointer (some (ad3.add (j*1)))) (λw hC=>Ra (i:=(j:Int)) Jw O hA3 O Aa Aa) (Ab O (v:=I (ks[j])) (λw hC=>Yc fZ O (hC.cell0 hk3)) (Hb O (Rb Oe O) (Nf O (Ff yQ O C0 0 O O) (Hb O (Cb O) ?_))));obtain⟨ad4,hA4,hk4,hx4⟩:=hK'.str_elem (i:=j) Aa;refine Ab O (v:=.pointer (some (ad4.add (j*1)))) (λw hC=>Ra (i:=(j:Int)) Jw O hA4 O Aa Aa) (Ab O (v:=I (ks'[j])) (λw hC=>Yc fZ O (hC.cell0 hk4)) (Hb O (yns O O) (d_nil (Ga ?_))));refine Lb O O (λhc2=>?_) (λhc2=>?_);refine Da (Ba (Kb O) (Ca ?_));refine Lc (v:=.bool false) O O ?_;refine⟨congrArg Value.bool (F0 (λhe=>?_)).symm,hF.same⟩;cases he;first|exact absurd rfl (by assumption)|(simp only[Lj]at hc4;cases hc4)
 refine Na (Wa (Ga (Ja (Ba (Cb O) (Ba (Fm O O) (Ba (Gb O) (Eb ?_)))))));refine Qb ⟨_,?_,j+1,O,Aa,(E9 Aa Aa ha (by simpa using hc2)),Tu,hF⟩;omega;refine Ic (Ec O ?_);refine Ga (Fa (Da (Ba (Gb O) (Ca (Sa ?_)))));refine Rc (λμ σ w=>∃(i:Nat),μ=xs.length-i/\(i<=xs.length)/\(xs.take i=ys.take i)/\AllEq σ [(2,V b1),(3,V b2),(6,J ((i:Int)))]/\FR w0 [] [(b2,.cells #[J k',I t',.slice A' ks'.length c',.slice B' ys.length e'] 36),(b1,.cells #[J k,I t,.slice A ks.length c,.slice B xs.length e] 36)] w) _ ⟨0,O,(Nat.zero_le _),La,Tu,hF⟩ ?_;rintro μ σ w ⟨i,rfl,hi,hb,hs,hF⟩;refine Cg.slots hs ?_;clear hs;intro σ;have hke:ks=ks':=by rw[List.take_of_length_le Aa,List.take_of_length_le Aa]at ha;exact ha
 refine Fa (Da (Ba (Cb O) (Ba (Rb Xb O) (Yb (Ff zQ O hF.F 1 O O) (Ba (Qg jX O) (Ba (Dl O O) (Ca ?_)))))));refine Lb O O (λhc3=>?_) (λhc3=>?_);refine Na (Ga (Fa (Sa (Fa ?_))));refine Be (zs:=.of []) (bQ [0,1,2,3,4,5,6,7,8,9] (.act 10 (.free 11 .nil))) hF ?_;intro w hF;refine Hb O (Rb Xb O) (Nf O (Ff zQ O C0 1 O O) (Hb O (Cb O) ?_));obtain⟨ad5,cs5,hA5,hl5,hk5,hx5⟩:=hX.tree_elem (i:=i) Aa;have ho5:=hx5.one_;refine Ab O (v:=.pointer (some (ad5.add (i*4)))) (λw hC=>Ra (i:=(i:Int)) Tg O hA5 O Aa Aa) (Ab O (v:=.agg (List.toArray cs5)) (λw hC=>Za (l:=cs5) aZ oZ O hl5 (hC.cells0 hk5)) (Hb O (Rb Xb O) (Nf O (Ff zQ O C0 0 O O) (Hb O (Cb O) ?_))));obtain⟨ad6,cs6,hA6,hl6,hk6,hx6⟩:=hY.tree_elem (i:=i) Aa;have ho6:=hx6.one_;refine Ab O (v:=.pointer (some (ad6.add (i*4)))) (λw hC=>Ra (i:=(i:Int)) Tg O hA6 O Aa Aa) (Ab O (v:=.agg (List.toArray cs6)) (λw hC=>Za (l:=cs6) aZ oZ O hl6 (hC.cells0 hk6)) ?_);refine Vd hF (ih _ (List.getElem_mem (l:=xs) (n:=i) Aa) ys[i] _ _ _ _ _ (hF.rep hx5) (hF.rep hx6)) O (Ua HJ O O O) ?_;intro w hF;refine⟨hF,?_⟩;refine Hb O (Kb O) (d_nil (Ga (Da (Ba (Sc O) (Ba (Wi O) (Ca ?_))))));refine He O O (λhc4=>?_) (λhc4=>?_);refine Da (Ba (Kb O) (Ca ?_));refine Lc (v:=.bool false) O O ?_;refine⟨congrArg Value.bool (F0 (λhe=>?_)).symm,hF.same⟩;cases he;first|exact absurd rfl (by assumption)|(simp only[Lj]at hc4;cases hc4)
 refine Na (Wa (Ga (Ja (Ba (Cb O) (Ba (Fm O O) (Ba (Gb O) (Eb ?_)))))));refine Qb ⟨_,?_,i+1,O,Aa,(E9 Aa Aa hb ((Zz _ _).1 (by simpa using hc4))),Tu,hF⟩;omega;refine Ic (Ec O ?_);refine Ga (Da (Ba (Kb O) (Ca ?_)));refine Lc (v:=.bool true) O O ?_;have e3:xs=ys:=(by have h1:=hb;rw[List.take_of_length_le Aa]at h1;rw[List.take_of_length_le Aa]at h1;exact h1);have e1:k=k':=Classical.not_not.1 hg0;have e2:t=t':=Classical.not_not.1 hg1;subst hke e3 e1 e2;exact⟨congrArg Value.bool (Lj _).symm,hF.same⟩
theorem V3(x:Tree):IL x:=Tree.ind HM x
theorem WV(k:Int)(t:Str)(ks:List Str)(xs:List Tree)(ih:∀x,x∈xs->FewC x):FewC (.node k t ks xs):=by
 intro left deep S w0 cs h0 h1 h2 h3 hR;obtain⟨A,c,B,e,rfl,-,-,hK,hX⟩:=hR.tree_inv;have hXl:=hX.slice_len;have hKl:=hK.slice_len;refine Ea func47 O ntmps47 Bb (Li _ _ _) ?_;have hF:=FR.start w0 [];refine Da (Df hF O ?_);rintro b1 w hb1 hF -;refine Ba (Gb O) (Ca (Fa (Da (Ba (Cb O) (Ba (Yx O O) (Ca ?_))))));refine Lb O O (λhc0=>?_) (λhc0=>?_);refine Da (Ba (Gb O) (Ca ?_));refine Lc (v:=J ((-1))) O O ?_;exact⟨congrArg (Value.int .i64) (by rw[Fr,if_pos Aa]),hF.same⟩;refine Na (Ga (Da (Ba (Cb O) (Ba (ysb1 O O) (Ba (Rb Oe O) (Yb (Ff yQ O hF.F 0 O O) (Ba (Qg iX O) (Ba (ysb1 O O) (Ba (Gb O) (Ca (Fa ?_)))))))))));refine Da (Ba (Gb O) (Ca (Sa ?_)));refine Rc (λμ σ w=>∃(j:Nat),∃(lf:Int),μ=xs.length-j/\(j<=xs.length)/\(lf<=1000000)/\(Ul (left-1-ks.length) deep xs=Ul lf deep (xs.drop j))/\AllEq σ [(1,J lf),(2,J deep),(3,V b1),(7,J ((j:Int)))]/\FR w0 [] [(b1,.cells #[J k,I t,.slice A ks.length c,.slice B xs.length e] 36)] w) _ ⟨0,(left-1-ks.length),O,(Nat.zero_le _),Aa,La,Ur,hF⟩ ?_;rintro μ σ w ⟨j,lf,rfl,hj,hlf,hf,hs,hF⟩;refine Cg.slots hs ?_;clear hs;intro σ;refine Fa (Da (Ba (Cb O) (Ba (Rb Xb O) (Yb (Ff zQ O hF.F 0 O O) (Ba (Qg jX O) (Ba (Dl O O) (Ba (Sc O) ?_)))))));refine Wb (d:=21) O (λhg0=>?_) (λhg0=>?_);refine Ba (Cb O) (Ba (V2 O O) (Ba (Fc O O) (Ca ?_)));refine Lb O O (λhc1=>?_) (λhc1=>?_);refine Na (Ga (Fa (Sa (Ja (Ba (Rb Xb O) (Yb (Ff zQ O hF.F 0 O O) (Ba (Cb O) ?_)))))));obtain⟨ad1,cs1,hA1,hl1,hk1,hx1⟩:=hX.tree_elem (i:=j) Aa;have ho1:=hx1.one_;refine Ia (v:=.pointer (some (ad1.add (j*4)))) (Ra (i:=(j:Int)) Tg O hA1 O Aa Aa) (Ia (v:=.agg (List.toArray cs1)) (Za (l:=cs1) aZ oZ O hl1 (hF.cells0 hk1)) (Ba (Cb O) (Ba (Cb O) (Ba (Fm O O) ?_))));refine Qa hF (ih _ (List.getElem_mem (l:=xs) (n:=j) Aa) lf (deep+1) _ _ _ Aa Aa Aa Aa (hF.rep hx1)) (De en_47 O O O O) ?_
 intro w hF;refine Ba (Gb O) (Eb (Wa (Ga (Ja (Ba (Cb O) (Ba (Fm O O) (Ba (Gb O) (Eb ?_))))))));refine Qb ⟨_,?_,j+1,Fr lf (deep+1) xs[j],O,Aa,(by have:=fewT_le xs[j] lf (deep+1) Aa;omega),(hf.trans (UK Aa Aa)),Ur,hF⟩;omega;refine Ic (Ec O ?_);refine Ga (Da (Ba (Cb O) (Ba (Gb O) (Ca ?_))));refine Lc (v:=J lf) O O ⟨congrArg (Value.int .i64) ?_,hF.same⟩;rw[Fr,if_neg Aa,hf]
 ·first|(rw[List.drop_eq_nil_of_le Aa,Ul];done)|(rw[O1 Aa])
 refine Ha (Ha (Ba (Pc O O) (Ca (Te O ?_))));refine Ic (Ec O ?_);refine Ga (Da (Ba (Cb O) (Ba (Gb O) (Ca ?_))));refine Lc (v:=J lf) O O ⟨congrArg (Value.int .i64) ?_,hF.same⟩;rw[Fr,if_neg Aa,hf]
 ·first|(rw[List.drop_eq_nil_of_le Aa,Ul];done)|(rw[O1 Aa])
theorem few_c(x:Tree):FewC x:=Tree.ind WV x
theorem WK(k:Int)(t:Str)(ks:List Str)(xs:List Tree)(ih:∀x,x∈xs->IM x):IM (.node k t ks xs):=by
 intro S w0 cs hR;obtain⟨A,c,B,e,rfl,-,-,hK,hX⟩:=hR.tree_inv;have hXl:=hX.slice_len;have hKl:=hK.slice_len;refine Ea func48 O ntmps48 Bb (Tb _) ?_;have hF:=FR.start w0 [];refine Da (Df hF O ?_);rintro b1 w hb1 hF -;refine Ba (Kb O) (Ca (Fa (Da (Ba (Rb Bf O) (Yb (Tn fZ O hF.F 0 O O) (Ba (Rp oX O) (Ba (Yx O O) (Ca ?_))))))));refine Lb O O (λhc0=>?_) (λhc0=>?_)
 ·
  refine Da (Ba (Kb O) (Ca ?_));refine Lc (v:=.bool false) O O ?_;exact⟨congrArg Value.bool (by rw[Cl,decide_eq_false Aa];rfl),hF.same⟩
 refine Na (Ga (Fa (Da (Ba (Gb O) (Ca (Sa ?_))))));refine Rc (λμ σ w=>∃(j:Nat),μ=ks.length-j/\(j<=ks.length)/\(∀i (hi:i<j) (hk:i<ks.length),ks[i].length<=1024)/\AllEq σ [(1,V b1),(3,J ((j:Int)))]/\FR w0 [] [(b1,.cells #[J k,I t,.slice A ks.length c,.slice B xs.length e] 36)] w) _ ⟨0,O,(Nat.zero_le _),(λi hi=>absurd hi Aa),PC,hF⟩ ?_;rintro μ σ w ⟨j,rfl,hj,ha,hs,hF⟩;refine Cg.slots hs ?_;clear hs;intro σ;refine Fa (Da (Ba (Cb O) (Ba (Rb Oe O) (Yb (Ff yQ O hF.F 0 O O) (Ba (Qg iX O) (Ba (Dl O O) (Ca ?_)))))));refine Lb O O (λhc1=>?_) (λhc1=>?_)
 ·
  refine Na (Ga (Fa (Sa (Da (Ba (Rb Oe O) (Yb (Ff yQ O hF.F 0 O O) (Ba (Cb O) ?_)))))));obtain⟨ad0,hA0,hk0,hx0⟩:=hK.str_elem (i:=j) Aa;refine Ia (v:=.pointer (some (ad0.add (j*1)))) (Ra (i:=(j:Int)) Jw O hA0 O Aa Aa) (Ia (v:=I (ks[j])) (Yc fZ O (hF.cell0 hk0)) (Ba (Rp oX O) (Ba (Yx O O) (Ca ?_))));refine Lb O O (λhc2=>?_) (λhc2=>?_)
  ·
   refine Da (Ba (Kb O) (Ca ?_));refine Lc (v:=.bool false) O O ?_;have hno:ks.all (λk=>decide (k.length<=1024))=false:=by
     rw[Bool.eq_false_iff];intro hall;have:=List.all_eq_true.1 hall ks[j] (eQ _);simp only[decide_eq_true_eq]at this;omega
   exact⟨congrArg Value.bool (by rw[Cl,hno,Bool.and_false];rfl),hF.same⟩
  refine Na (Wa (Ga (Ja (Ba (Cb O) (Ba (Fm O O) (Ba (Gb O) (Eb ?_)))))));refine Qb ⟨_,?_,j+1,rfl,Aa,(λi hi hk=>by rcases Nat.lt_or_ge i j with h|h;exact ha i h hk;obtain rfl:i=j:=Aa;omega),PC,hF⟩;omega
 refine Ic (Ec O ?_);refine Ga (Fa (Da (Ba (Gb O) (Ca (Sa ?_)))));refine Rc (λμ σ w=>∃(i:Nat),μ=xs.length-i/\(i<=xs.length)/\(∀m (hm:m<i) (hk:m<xs.length),Cl xs[m]=true)/\AllEq σ [(1,V b1),(4,J ((i:Int)))]/\FR w0 [] [(b1,.cells #[J k,I t,.slice A ks.length c,.slice B xs.length e] 36)] w) _ ⟨0,O,(Nat.zero_le _),(λi hi=>absurd hi Aa),PC,hF⟩ ?_;rintro μ σ w ⟨i,rfl,hi,hb,hs,hF⟩;refine Cg.slots hs ?_;clear hs;intro σ;refine Fa (Da (Ba (Cb O) (Ba (Rb Xb O) (Yb (Ff zQ O hF.F 0 O O) (Ba (Qg jX O) (Ba (Dl O O) (Ca ?_)))))));refine Lb O O (λhc3=>?_) (λhc3=>?_)
 ·
  refine Na (Ga (Fa (Sa (Da (Ba (Rb Xb O) (Yb (Ff zQ O hF.F 0 O O) (Ba (Cb O) ?_)))))));obtain⟨ad1,cs1,hA1,hl1,hk1,hx1⟩:=hX.tree_elem (i:=i) Aa;have ho1:=hx1.one_;refine Ia (v:=.pointer (some (ad1.add (i*4)))) (Ra (i:=(i:Int)) Tg O hA1 O Aa Aa) (Ia (v:=.agg (List.toArray cs1)) (Za (l:=cs1) aZ oZ O hl1 (hF.cells0 hk1)) ?_);refine Qa hF (ih _ (List.getElem_mem (l:=xs) (n:=i) Aa) _ _ _ (hF.rep hx1)) (Ma en_48 O O) ?_;intro w hF;refine Ba (Kb O) (Ob (Ba (Sc O) (Ba (Wi O) (Ca ?_))));refine He O O (λhc4=>?_) (λhc4=>?_)
  ·
   refine Da (Ba (Kb O) (Ca ?_));refine Lc (v:=.bool false) O O ?_;exact⟨congrArg Value.bool (by rw[Cl,FJ (List.getElem_mem (l:=xs) (n:=i) Aa) (by simpa using hc4),Bool.and_false]),hF.same⟩
  refine Na (Wa (Ga (Ja (Ba (Cb O) (Ba (Fm O O) (Ba (Gb O) (Eb ?_)))))));refine Qb ⟨_,?_,i+1,rfl,Aa,(λm hm hk=>by rcases Nat.lt_or_ge m i with h|h;exact hb m h hk;obtain rfl:m=i:=Aa;simpa using hc4),PC,hF⟩;omega
 refine Ic (Ec O ?_);refine Ga (Da (Ba (Kb O) (Ca ?_)));refine Lc (v:=.bool true) O O ?_;have h1:ks.all (λk=>decide (k.length<=1024))=true:=by
   rw[List.all_eq_true];intro k hk;obtain⟨q,hq,rfl⟩:=List.getElem_of_mem hk;simp only[decide_eq_true_eq];exact ha q Aa hq
 exact⟨congrArg Value.bool (by rw[Cl,h1,decide_eq_true Aa,EF (λm hm=>hb m Aa hm)];rfl),hF.same⟩
theorem short_c(x:Tree):IM x:=Tree.ind WK x
theorem few_v(x:Tree)(most:Int)(h0:0<=most)(h1:most<=1000000)(S:Nat->Prop)(w0:World)(cs:List Value)(hR:Rep S w0 (Jb x) cs):Calls prog 16 #[.agg cs.toArray,J most] w0 (Oc λv w'=>v=.bool (V0 x most)/\Same [] w0 w'):=by
 have hl:cs.length=4:=hR.length.trans (Xc x);have ho:=hR.one_;refine Ea func16 O ntmps16 Bb (Nc _ _) ?_;have hF:=FR.start w0 [];refine Da (Vn (v:=.agg (List.toArray cs)) (cs:=(List.toArray cs)) hF O O ?_);rintro b1 w hb1 hF -;refine Ba (Kb O) (Ob (Ia (v:=.agg (List.toArray cs)) (Za (l:=cs) aZ oZ O hl (hF.cellsAll 0 O)) (Ba (Cb O) ?_)));refine Qa hF (few_c x most 0 S _ cs h0 h1 Aa Aa (hF.rep hR)) (De en_47 O O O O) ?_;intro w hF;refine Ba (Gb O) (Ob (Ba (Cb O) (Ba (V2 O O) (Ba (Sc O) ?_))));refine Wb (d:=11) O (λhg0=>?_) (λhg0=>?_);refine Ia (v:=.agg (List.toArray cs)) (Za (l:=cs) aZ oZ O hl (hF.cellsAll 0 O)) (Qa hF (short_c x S _ cs (hF.rep hR)) (Ma en_48 O O) ?_);intro w hF;refine Ba (Fc O O) (Ba (Kb O) (Ca ?_));refine Lc (v:=.bool _) O O ⟨congrArg Value.bool ?_,hF.same⟩;unfold V0
 first|(rw[decide_eq_true hg0];rfl)|(rw[decide_eq_false hg0];rfl)
 refine Ha (Ha (Ba (Pc O O) (Ba (Kb O) (Ca ?_))));refine Lc (v:=.bool false) O O ⟨congrArg Value.bool ?_,hF.same⟩;unfold V0
 first|(rw[decide_eq_true hg0];rfl)|(rw[decide_eq_false hg0];rfl)
theorem RQ(A:Option Addr)(n c:Nat)(B:Option Addr)(m d:Nat)(w0:World):Calls prog 32 #[.slice A n c,.slice B m d] w0 (Oc λv w'=>v=.agg #[J 6,I [],.slice A n c,.slice B m d]/\Same [] w0 w'):=by
 refine Ea func32 O ntmps32 Bb (Nc _ _) ?_;have hF:=FR.start w0 [];refine Da (Gc (cs:=#[J 0,I [],aQ,aQ]) hF sX O ?_);rintro b1 w hb1 hF -;refine Ob (Ba (Qe O) (Ba (Qe O) ?_));refine Ia (w':=w) (v:=.agg #[J 6,I [],.slice A n c,.slice B m d]) Ib (Ke hF oZ O O Oi ?_);rintro w hF -;refine Ca (Xa (Va (Ka (Ni O (l:=[J 6,I [],.slice A n c,.slice B m d]) O aZ oZ O (hF.cellsAll 0 O)) ?_)));exact⟨O,hF.same⟩
abbrev n1T:Tree:=.node 3 [49] [] []
abbrev n2T:Tree:=.node 3 [50] [] []
abbrev xT:Tree:=.node 6 [] [[97],[98]] [n1T,n2T]
abbrev yT:Tree:=.node 6 [] [[98],[97]] [n2T,n1T]
section
variable {P:Program}{w0 w w':World}{ids:List Nat}{ds:List D}
theorem Me{P:Program}{ρ:Operand->Value}{o:Oper}{w w':World}{p:Prop}{_:Decidable p}(h:(execOp ρ o).run P w=.ok (.value (.bool (decide p))) w')(hp:p):(execOp ρ o).run P w=.ok (.value (.bool true)) w':=by rw[h,decide_eq_true hp]
theorem Id{P:Program}{ρ:Operand->Value}{o:Oper}{w w':World}{p:Prop}{_:Decidable p}(h:(execOp ρ o).run P w=.ok (.value (.bool (decide p))) w')(hp:¬p):(execOp ρ o).run P w=.ok (.value (.bool false)) w':=by rw[h,decide_eq_false hp]
theorem RX.tree{k:Int}{t:Str}{ks:List Str}{xs:List Tree}{v u:Value}(hk:-9223372036854775808<=k/\k<=9223372036854775807)(ht:t.length<=9223372036854775807)
    (h3:RX w0 ids w [Ci ks] [v]) (h4:RX w0 ids w [.slice (Ie xs)] [u]):RX w0 ids w [Jb (.node k t ks xs)] [J k,I t,v,u]:=.one (Rep.tree_mk hk ht h3.rep h4.rep)
theorem RX.nils{ids:List Nat}:RX w0 ids w [.slice []] [aQ]:=.one (Rep.nil_slice 0 Aa none)
theorem RX.strs:∀{ks:List Str},(∀k∈ks,k.length<=9223372036854775807)->RX w0 ids w (ks.map Zm) (ks.map λk=>I k)
  | [],_=>RX.nil
  | k::ks,h=>RepL.cons_mk (Rep.lit_mk (v:=I k) (h k La)) (RX.strs (λx hx=>h x (by simp[hx])))
theorem RX.str(t:Str)(ht:t.length<=9223372036854775807):RX w0 ids w [Jb (.node 4 t [] [])] [J 4,I t,aQ,aQ]:=RX.tree ⟨by omega,by omega⟩ ht RX.nils RX.nils
end
end Go.Scarf
