/- A part of the proof. -/
import Derived.Test.YtbhneplafiapdaaGreatDoorW16
set_option linter.all false
set_option maxHeartbeats 8000000
set_option maxRecDepth 10000
namespace Go.Scarf
open Go.RowKit Go.Proofs Go.Proofs.Tryz
mutual
def IN:Tree->Tree->Bool
  | .node k t ks xs,.node k' t' ks' ys=>decide (k=k')&&decide (t=t')&&decide (ks=ks')&&J6 xs ys
def J6:List Tree->List Tree->Bool
  | [],[]=>true
  | x::xs,y::ys=>IN x y&&J6 xs ys
  | _,_=>false
end
theorem X8:∀{xs ys:List Tree},(∀x∈xs,∀y,IN x y=true↔x=y)->(J6 xs ys=true↔xs=ys)
  | [],[],_=>by simp[J6]
  | [],_::_,_=>by simp[J6]
  | _::_,[],_=>by simp[J6]
  | x :: xs, y :: ys, h => by
    rw[J6,Bool.and_eq_true,h x Pa y,X8 (λz hz=>h z (by simp[hz]))];simp
theorem T9(x:Tree):∀y,IN x y=true↔x=y:=Tree.ind (Q:=λx=>∀y,IN x y=true↔x=y) (λk t ks xs ih y=>by
  obtain⟨k',t',ks',ys⟩:=y;rw[IN,Bool.and_eq_true,Bool.and_eq_true,Bool.and_eq_true,X8 ih];simp[and_assoc]) x
instance : DecidableEq Tree:=λx y=>if h:IN x y=true then .isTrue ((T9 x y).1 h) else .isFalse (λe=>h ((T9 x y).2 e))
mutual
def Ek(left deep:Int):Tree->Int|.node _ _ ks xs=>if 60<deep then -1 else Bh (left-1-ks.length) deep xs
def Bh(left deep:Int):List Tree->Int|[]=>left|x::xs=>if left<0 then left else Bh (Ek left (deep+1) x) deep xs
end
mutual
def Ig:Tree->Bool|.node _ t ks xs=>decide (t.length<=2048)&&ks.all (λk=>decide (k.length<=1024))&&Pj xs
def Pj:List Tree->Bool|[]=>true|x::xs=>Ig x&&Pj xs
end
def Uw(x:Tree)(most:Int):Bool:=decide (0<=Ek most 0 x)&&Ig x
theorem G2(deep:Int):∀(xs:List Tree)(left:Int),(∀x∈xs,∀l d:Int,0<=l->Ek l d x<=l)->Bh left deep xs<=left
  | [],left,_=>by rw[Bh];exact Int.le_refl _
  | x :: xs, left, h => by
    rw[Bh];split
    ·exact Int.le_refl _
    have h1 := h x Pa left (deep + 1) Ca;have h2:=G2 deep xs (Ek left (deep+1) x) (λy hy=>h y (by simp[hy]));omega
theorem DH(x:Tree):∀l d:Int,0<=l->Ek l d x<=l:=Tree.ind (Q:=λx=>∀l d:Int,0<=l->Ek l d x<=l) (λk t ks xs ih l d hl=>by
  rw[Ek];split
  ·omega
  have := G2 d xs (l-1-ks.length) ih;omega) x
theorem Fr{left deep:Int}(h:left<0):∀xs:List Tree,Bh left deep xs=left
  | []=>by rw[Bh]
  | x::xs=>by rw[Bh,if_pos h]
theorem H7(x:Tree):∀l d:Int,0<=l->0<=d->0<=Ek l d x->Ek l d x=l-Gb x-Ym x/\d+Be x<=61:=Tree.ind (Q:=λx=>∀l d:Int,0<=l->0<=d->0<=Ek l d x->Ek l d x=l-Gb x-Ym x/\d+Be x<=61) (λk t ks xs ih l d hl hd h=>by
  rw[Ek]at h ⊢;split at h
  ·omega
  rename_i hd60
  rw[if_neg hd60];have key:∀(ys:List Tree),(∀y∈ys,y∈xs)->∀m:Int,0<=Bh m d ys->Bh m d ys=m-Za ys-Sj ys/\d+1+Fc ys<=61:=by
    intro ys
    induction ys with
    | nil=>intro _ m hm;simp only[Bh,Za,Sj,Fc];omega
    | cons y ys ihy =>
      intro hm m h0;rw[Bh]at h0 ⊢;split at h0
      ·omega
      rename_i hmm
      rw[if_neg hmm];obtain⟨a1,a2⟩:=ihy (λz hz=>hm z (by simp[hz])) _ h0;have h3:0<=Ek m (d+1) y:=by
        rcases Int.lt_or_le (Ek m (d+1) y) 0 with hlt|hge
        ·rw[Fr hlt]at h0;omega
        exact hge
      obtain⟨b1,b2⟩:=ih y (hm y Pa) m (d+1) Ca Ca h3;simp only[Za,Sj,Fc];omega
  obtain⟨a1,a2⟩:=key xs (λ_ h=>h) _ h;rw[Gb,Ym,Be];omega) x
theorem JH{x:Tree}{most:Int}(hm:0<=most)(h:Uw x most=true):(Gb x:Int)+Ym x<=most/\Be x<=61/\Ig x=true:=by
  unfold Uw at h;rw[Bool.and_eq_true,decide_eq_true_eq]at h;obtain⟨a,b⟩:=H7 x most 0 hm Ca h.1;exact⟨by omega,by omega,h.2⟩
theorem Y7{left deep:Int}{xs:List Tree}{j:Nat}(h:j<xs.length)(h0:¬left<0):Bh left deep (xs.drop j)=Bh (Ek left (deep+1) xs[j]) deep (xs.drop (j+1)):=by
  rw[List.drop_eq_getElem_cons h,Bh,if_neg h0]
def XL(x:Tree):Prop:=∀(left deep:Int) S w0 cs,0<=left->left<=1000000->0<=deep->deep<=61->Rep S w0 (Mb x) cs->Calls prog 27 #[.agg cs.toArray,J left,J deep] w0 (Hd λv w'=>v=J (Ek left deep x)/\Same [] w0 w')
def L6(x:Tree):Prop:=∀S w0 cs,Rep S w0 (Mb x) cs->Calls prog 28 #[.agg cs.toArray] w0 (Hd λv w'=>v=.bool (Ig x)/\Same [] w0 w')
theorem F3{xs:List Tree}{x:Tree}(h:x∈xs)(hs:Ig x=false):Pj xs=false:=by
  induction xs with
  | nil=>cases h
  | cons y ys ih =>
    rw[Pj];rcases oQ.1 h with rfl|h
    ·rw[hs];rfl
    rw[ih h,Bool.and_false]
theorem R2{xs:List Tree}(h:∀j (hj:j<xs.length),Ig xs[j]=true):Pj xs=true:=by
  induction xs with
  | nil=>rfl
  | cons y ys ih =>
    have h0:Ig y=true:=h 0 Pa;rw[Pj,h0,Bool.true_and];exact ih (λj hj=>by have:=h (j+1) (by simpa using hj);simpa using this)
theorem LD(k:Int)(t:Str)(ks:List Str)(xs:List Tree)(ih:∀x,x∈xs->XL x):XL (.node k t ks xs):=by
 intro left deep S w0 cs h0 h1 h2 h3 hR;obtain⟨A,c,B,e,rfl,-,-,hK,hX⟩:=hR.tree_inv;have hXl:=hX.slice_len;have hKl:=hK.slice_len;refine Ga func27 O ntmps27 Ib (Km _ _ _) ?_;have hF:=FR.start w0 [];refine Ka (Mg hF O ?_);rintro b1 w hb1 hF -;refine Da (Gd O) (Ea (Ja (Ka (Da (Bc O) (Da (AC O O) (Ea ?_))))));refine Tc O O (λhc0=>?_) (λhc0=>?_);refine Ka (Da (Gd O) (Ea ?_));refine Sc (v:=J ((-1))) O O ?_;exact⟨congrArg (Value.int .i64) (by rw[Ek,if_pos Ca]),hF.same⟩;refine Ta (Ha (Ka (Da (Bc O) (Da (MH O O) (Da (Ld Qi O) (Qd (Gm isAgg24 O hF.F 0 O O) (Da (Fh iZ O) (Da (MH O O) (Da (Gd O) (Ea (Ja ?_)))))))))));refine Ka (Da (Gd O) (Ea (Cb ?_)));refine Yc (λμ σ w=>∃(j:Nat),∃(lf:Int),μ=xs.length-j/\(j<=xs.length)/\(lf<=1000000)/\(Bh (left-1-ks.length) deep xs=Bh lf deep (xs.drop j))/\AllEq σ [(1,J lf),(2,J deep),(3,V b1),(7,J ((j:Int)))]/\FR w0 [] [(b1,.cells #[J k,I t,.slice A ks.length c,.slice B xs.length e] 27)] w) _ ⟨0,(left-1-ks.length),O,(Nat.zero_le _),Ca,Pa,Xp,hF⟩ ?_;rintro μ σ w ⟨j,lf,rfl,hj,hlf,hf,hs,hF⟩;refine Cg.slots hs ?_;clear hs;intro σ;refine Ja (Ka (Da (Bc O) (Da (Ld Md O) (Qd (Gm uQ O hF.F 0 O O) (Da (Fh jZ O) (Da (Wo O O) (Da (Nd O) ?_)))))));refine Xc (d:=21) O (λhg0=>?_) (λhg0=>?_);refine Da (Bc O) (Da (U9 O O) (Da (Ec O O) (Ea ?_)));refine Tc O O (λhc1=>?_) (λhc1=>?_);refine Ta (Ha (Ja (Cb (Ma (Da (Ld Md O) (Qd (Gm uQ O hF.F 0 O O) (Da (Bc O) ?_)))))));obtain⟨ad1,cs1,hA1,hl1,hk1,hx1⟩:=hX.tree_elem (i:=j) Ca;have ho1:=hx1.one_;refine Oa (v:=.pointer (some (ad1.add (j*4)))) (Va (i:=(j:Int)) Pk O hA1 O Ca Ca) (Oa (v:=.agg (List.toArray cs1)) (Db (l:=cs1) vQ bZ O hl1 (hF.cells0 hk1)) (Da (Bc O) (Da (Bc O) (Da (Dm O O) ?_))));refine Ra hF (ih _ (List.getElem_mem (l:=xs) (n:=j) Ca) lf (deep+1) _ _ _ Ca Ca Ca Ca (hF.rep hx1)) (Ye GK O O O O) ?_
 intro w hF;refine Da (Gd O) (Eb (Ub (Ha (Ma (Da (Bc O) (Da (Dm O O) (Da (Gd O) (Eb ?_))))))));refine Hc ⟨_,?_,j+1,Ek lf (deep+1) xs[j],O,Ca,(by have:=DH xs[j] lf (deep+1) Ca;omega),(hf.trans (Y7 Ca Ca)),Xp,hF⟩;omega;refine Rc (Nc O ?_);refine Ha (Ka (Da (Bc O) (Da (Gd O) (Ea ?_))));refine Sc (v:=J lf) O O ⟨congrArg (Value.int .i64) ?_,hF.same⟩;rw[Ek,if_neg Ca,hf]
 ·first|(rw[List.drop_eq_nil_of_le Ca,Bh];done)|(rw[Fr Ca])
 refine Ia (Ia (Da (Ed O O) (Ea (Fk O ?_))));refine Rc (Nc O ?_);refine Ha (Ka (Da (Bc O) (Da (Gd O) (Ea ?_))));refine Sc (v:=J lf) O O ⟨congrArg (Value.int .i64) ?_,hF.same⟩;rw[Ek,if_neg Ca,hf]
 ·first|(rw[List.drop_eq_nil_of_le Ca,Bh];done)|(rw[Fr Ca])
theorem QO(x:Tree):XL x:=Tree.ind LD x
theorem D6(k:Int)(t:Str)(ks:List Str)(xs:List Tree)(ih:∀x,x∈xs->L6 x):L6 (.node k t ks xs):=by
  intro S w0 cs hR;obtain⟨A,c,B,e,rfl,-,-,hK,hX⟩:=hR.tree_inv;have hXl:=hX.slice_len;have hKl:=hK.slice_len;refine Ga func28 O ntmps28 Ib (Kc _) ?_;have hF:=FR.start w0 [];refine Ja (Ma ?_);refine Mg hF O ?_;intro b1 w hb1 hF hE;refine Da (Kb O) (Eb ?_);refine Ha (Ja ?_);refine Ja (Ma ?_);refine Da (Ld Rf O) (Qd (Xs zQ O hF.F 0 O O) ?_);refine Da (N9 mZ O) (Da (AC O O) ?_);refine Eb (Ha ?_);refine Tc O O (λhc0=>?_) (λhc0=>?_)
  ·
   refine Ja (Ma ?_);refine Da (Kb O) (Eb ?_);refine Ha (Sc (v:=.bool false) O O ?_);exact⟨congrArg Value.bool (by rw[Ig,decide_eq_false Ca];rfl),hF.same⟩
  refine Ta (Ha ?_);refine Ja (Ja ?_);refine Ma (Da (Gd O) ?_);refine Eb (Ha ?_);refine Cb (Yc (λμ σ w=>∃(j:Nat),μ=ks.length-j/\(j<=ks.length)/\(∀i (hi:i<j) (hk:i<ks.length),ks[i].length<=1024)/\AllEq σ [(1,V b1),(3,J ((j:Int)))]/\FR w0 [] [(b1,.cells #[J k,I t,.slice A ks.length c,.slice B xs.length e] 27)] w) _ ⟨0,O,(Nat.zero_le _),(λi hi=>absurd hi Ca),D9,hF⟩ ?_);rintro μ σ w ⟨j,rfl,hj,ha,hs,hF⟩;refine Cg.slots hs ?_;clear hs;intro σ;refine Ja (Ja ?_);refine Ma (Da (Bc O) ?_);refine Da (Ld Qi O) (Qd (Gm isAgg24 O hF.F 0 O O) ?_);refine Da (Fh iZ O) (Da (Wo O O) ?_);refine Eb (Ha ?_);refine Tc O O (λhc1=>?_) (λhc1=>?_)
  ·
   refine Ta (Ha ?_);refine Ja (Cb ?_);refine Ja (Ma ?_);refine Da (Ld Qi O) (Qd (Gm isAgg24 O hF.F 0 O O) ?_);refine Da (Bc O) ?_;obtain⟨ad0,hA0,hk0,hx0⟩:=hK.str_elem (i:=j) Ca;refine Oa (v:=.pointer (some (ad0.add (j*1)))) (Va (i:=(j:Int)) A9 O hA0 O Ca Ca) (Oa (v:=I (ks[j])) (Xd zQ O (hF.cell0 hk0)) ?_);refine Da (N9 mZ O) (Da (AC O O) ?_);refine Eb (Ha ?_);refine Tc O O (λhc2=>?_) (λhc2=>?_)
   ·
    refine Ja (Ma ?_);refine Da (Kb O) (Eb ?_);refine Ha (Sc (v:=.bool false) O O ?_);have hno:ks.all (λk=>decide (k.length<=1024))=false:=by
      rw[Bool.eq_false_iff];intro hall;have:=List.all_eq_true.1 hall ks[j] (eQ _);simp only[decide_eq_true_eq]at this;omega
    exact⟨congrArg Value.bool (by rw[Ig,hno,Bool.and_false];rfl),hF.same⟩
   refine Ta (Ub ?_);refine Ha (Ma ?_);refine Da (Bc O) (Da (Dm O O) ?_);refine Da (Gd O) (Eb ?_);refine Hc ⟨_,?_,j+1,rfl,Ca,(λi hi hk=>by rcases Nat.lt_or_ge i j with h|h;exact ha i h hk;obtain rfl:i=j:=Ca;omega),D9,hF⟩;omega
  refine Rc (Nc O ?_);refine Ha (Ja ?_);refine Ja (Ma ?_);refine Da (Gd O) (Eb ?_);refine Ha (Cb ?_);refine Yc (λμ σ w=>∃(i:Nat),μ=xs.length-i/\(i<=xs.length)/\(∀m (hm:m<i) (hk:m<xs.length),Ig xs[m]=true)/\AllEq σ [(1,V b1),(4,J ((i:Int)))]/\FR w0 [] [(b1,.cells #[J k,I t,.slice A ks.length c,.slice B xs.length e] 27)] w) _ ⟨0,O,(Nat.zero_le _),(λi hi=>absurd hi Ca),D9,hF⟩ ?_;rintro μ σ w ⟨i,rfl,hi,hb,hs,hF⟩;refine Cg.slots hs ?_;clear hs;intro σ;refine Ja (Ja ?_);refine Ma (Da (Bc O) ?_);refine Da (Ld Md O) (Qd (Gm uQ O hF.F 0 O O) ?_);refine Da (Fh jZ O) (Da (Wo O O) ?_);refine Eb (Ha ?_);refine Tc O O (λhc3=>?_) (λhc3=>?_)
  ·
   refine Ta (Ha ?_);refine Ja (Cb ?_);refine Ja (Ma ?_);refine Da (Ld Md O) (Qd (Gm uQ O hF.F 0 O O) ?_);refine Da (Bc O) ?_;obtain⟨ad1,cs1,hA1,hl1,hk1,hx1⟩:=hX.tree_elem (i:=i) Ca;have ho1:=hx1.one_;refine Oa (v:=.pointer (some (ad1.add (i*4)))) (Va (i:=(i:Int)) Pk O hA1 O Ca Ca) (Oa (v:=.agg (List.toArray cs1)) (Db (l:=cs1) vQ bZ O hl1 (hF.cells0 hk1)) ?_);refine Ra hF (ih _ (List.getElem_mem (l:=xs) (n:=i) Ca) _ _ _ (hF.rep hx1)) (Sa JJ O O) ?_;intro w hF;refine Da (Kb O) (Eb ?_);refine Ha (Ja ?_);refine Ma (Da (Nd O) ?_);refine Da (Ui O) (Eb ?_);refine Ha (Me O O (λhc4=>?_) (λhc4=>?_))
   ·
    refine Ja (Ma ?_);refine Da (Kb O) (Eb ?_);refine Ha (Sc (v:=.bool false) O O ?_);exact⟨congrArg Value.bool (by rw[Ig,F3 (List.getElem_mem (l:=xs) (n:=i) Ca) (by simpa using hc4),Bool.and_false]),hF.same⟩
   refine Ta (Ub ?_);refine Ha (Ma ?_);refine Da (Bc O) (Da (Dm O O) ?_);refine Da (Gd O) (Eb ?_);refine Hc ⟨_,?_,i+1,rfl,Ca,(λm hm hk=>by rcases Nat.lt_or_ge m i with h|h;exact hb m h hk;obtain rfl:m=i:=Ca;simpa using hc4),D9,hF⟩;omega
  refine Rc (Nc O ?_);refine Ha (Ja ?_);refine Ma (Da (Kb O) ?_);refine Eb (Ha ?_);refine Sc (v:=.bool true) O O ?_;have h1:ks.all (λk=>decide (k.length<=1024))=true:=by
    rw[List.all_eq_true];intro k hk;obtain⟨q,hq,rfl⟩:=List.getElem_of_mem hk;simp only[decide_eq_true_eq];exact ha q Ca hq
  exact⟨congrArg Value.bool (by rw[Ig,h1,decide_eq_true Ca,R2 (λm hm=>hb m Ca hm)];rfl),hF.same⟩
theorem UG(x:Tree):L6 x:=Tree.ind D6 x
theorem IJ(x:Tree)(most:Int)(h0:0<=most)(h1:most<=1000000)(S:Nat->Prop)(w0:World)(cs:List Value)(hR:Rep S w0 (Mb x) cs):Calls prog 8 #[.agg cs.toArray,J most] w0 (Hd λv w'=>v=.bool (Uw x most)/\Same [] w0 w'):=by
 have hl:cs.length=4:=hR.length.trans (Jc x);have ho:=hR.one_;refine Ga func8 O ntmps8 Ib (Kd _ _) ?_;have hF:=FR.start w0 [];refine Ka (Im (v:=.agg (List.toArray cs)) (cs:=(List.toArray cs)) hF O O ?_);rintro b1 w hb1 hF -;refine Da (Kb O) (Yb (Oa (v:=.agg (List.toArray cs)) (Db (l:=cs) vQ bZ O hl (hF.cellsAll 0 O)) (Da (Bc O) ?_)));refine Ra hF (QO x most 0 S _ cs h0 h1 Ca Ca (hF.rep hR)) (Ye GK O O O O) ?_;intro w hF;refine Da (Gd O) (Yb (Da (Bc O) (Da (U9 O O) (Da (Nd O) ?_))));refine Xc (d:=11) O (λhg0=>?_) (λhg0=>?_);refine Oa (v:=.agg (List.toArray cs)) (Db (l:=cs) vQ bZ O hl (hF.cellsAll 0 O)) (Ra hF (UG x S _ cs (hF.rep hR)) (Sa JJ O O) ?_);intro w hF;refine Da (Ec O O) (Da (Kb O) (Ea ?_));refine Sc (v:=.bool _) O O ⟨congrArg Value.bool ?_,hF.same⟩;unfold Uw
 first|(rw[decide_eq_true hg0];rfl)|(rw[decide_eq_false hg0];rfl)
 refine Ia (Ia (Da (Ed O O) (Da (Kb O) (Ea ?_))));refine Sc (v:=.bool false) O O ⟨congrArg Value.bool ?_,hF.same⟩;unfold Uw
 first|(rw[decide_eq_true hg0];rfl)|(rw[decide_eq_false hg0];rfl)
section
variable {P:Program}{w0 w w':World}{ids:List Nat}{ds:List D}
theorem Df{P:Program}{ρ:Operand->Value}{o:Oper}{w w':World}{p:Prop}{_:Decidable p}(h:(execOp ρ o).run P w=.ok (.value (.bool (decide p))) w')(hp:p):(execOp ρ o).run P w=.ok (.value (.bool true)) w':=by rw[h,decide_eq_true hp]
theorem FN{P:Program}{ρ:Operand->Value}{o:Oper}{w w':World}{p:Prop}{_:Decidable p}(h:(execOp ρ o).run P w=.ok (.value (.bool (decide p))) w')(hp:¬p):(execOp ρ o).run P w=.ok (.value (.bool false)) w':=by rw[h,decide_eq_false hp]
theorem FR.rowX{bs:List (Nat × Obj)}(hF:FR w0 [] bs w)(i:Nat){b n:Nat}{l:List Value}{T:TypeId}(hi:bs[i]? = some (b,.cells l.toArray T))(hr:RX w0 ids w ds l)(hb:b∉ids)(hn:ds.length=n)(hm:n<=9223372036854775807) :
    RX w0 ids w [.slice ds] [W b n n]:=by
  refine .one (Rep.slice_mk hn.symm (gQ _) hm λ_=>⟨_,O,l,λj hj=>⟨?_,?_⟩,hr⟩)
  ·exact hF.cellsAll i hi j hj
  exact⟨hF.ge hi,hF.lt hi,hb,l.toArray,T,hF.heap hi⟩
theorem RX.tree{k:Int}{t:Str}{ks:List Str}{xs:List Tree}{v u:Value}(hk:-9223372036854775808<=k/\k<=9223372036854775807)(ht:t.length<=9223372036854775807)
    (h3:RX w0 ids w [Te ks] [v]) (h4:RX w0 ids w [.slice (Dd xs)] [u]):RX w0 ids w [Mb (.node k t ks xs)] [J k,I t,v,u]:=.one (Rep.tree_mk hk ht h3.rep h4.rep)
theorem RX.nils{ids:List Nat}:RX w0 ids w [.slice []] [aQ]:=.one (Rep.nil_slice 0 Ca none)
theorem RX.str(t:Str)(ht:t.length<=9223372036854775807):RX w0 ids w [Mb (.node 4 t [] [])] [J 4,I t,aQ,aQ]:=RX.tree ⟨by omega,by omega⟩ ht RX.nils RX.nils
end
end Go.Scarf
