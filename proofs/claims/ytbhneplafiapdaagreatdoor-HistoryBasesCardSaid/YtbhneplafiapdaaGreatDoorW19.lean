/- A part of the proof. -/
import Derived.Test.YtbhneplafiapdaaGreatDoorW16
set_option linter.all false
set_option maxHeartbeats 8000000
set_option maxRecDepth 10000
namespace Go.Scarf
open Go.RowKit Go.Proofs Go.Proofs.Tryz
mutual
def FN:Tree->Tree->Bool
  | .node k t ks xs,.node k' t' ks' ys=>decide (k=k')&&decide (t=t')&&decide (ks=ks')&&A6 xs ys
def A6:List Tree->List Tree->Bool
  | [],[]=>true
  | x::xs,y::ys=>FN x y&&A6 xs ys
  | _,_=>false
end
theorem C9:∀{xs ys:List Tree},(∀x∈xs,∀y,FN x y=true↔x=y)->(A6 xs ys=true↔xs=ys)
  | [],[],_=>by simp[A6]
  | [],_::_,_=>by simp[A6]
  | _::_,[],_=>by simp[A6]
  | x :: xs, y :: ys, h => by
    rw[A6,Bool.and_eq_true,h x Pa y,C9 (λz hz=>h z (by simp[hz]))];simp
theorem X8(x:Tree):∀y,FN x y=true↔x=y:=Tree.ind (Q:=λx=>∀y,FN x y=true↔x=y) (λk t ks xs ih y=>by
  obtain⟨k',t',ks',ys⟩:=y;rw[FN,Bool.and_eq_true,Bool.and_eq_true,Bool.and_eq_true,C9 ih];simp[and_assoc]) x
instance : DecidableEq Tree:=λx y=>if h:FN x y=true then .isTrue ((X8 x y).1 h) else .isFalse (λe=>h ((X8 x y).2 e))
mutual
def Zj(left deep:Int):Tree->Int|.node _ _ ks xs=>if 60<deep then -1 else Qg (left-1-ks.length) deep xs
def Qg(left deep:Int):List Tree->Int|[]=>left|x::xs=>if left<0 then left else Qg (Zj left (deep+1) x) deep xs
end
mutual
def Vf:Tree->Bool|.node _ t ks xs=>decide (t.length<=2048)&&ks.all (λk=>decide (k.length<=1024))&&Jj xs
def Jj:List Tree->Bool|[]=>true|x::xs=>Vf x&&Jj xs
end
def Tw(x:Tree)(most:Int):Bool:=decide (0<=Zj most 0 x)&&Vf x
theorem X3(deep:Int):∀(xs:List Tree)(left:Int),(∀x∈xs,∀l d:Int,0<=l->Zj l d x<=l)->Qg left deep xs<=left
  | [],left,_=>by rw[Qg];exact Int.le_refl _
  | x :: xs, left, h => by
    rw[Qg];split
    ·exact Int.le_refl _
    have h1 := h x Pa left (deep + 1) Ca;have h2:=X3 deep xs (Zj left (deep+1) x) (λy hy=>h y (by simp[hy]));omega
theorem YG(x:Tree):∀l d:Int,0<=l->Zj l d x<=l:=Tree.ind (Q:=λx=>∀l d:Int,0<=l->Zj l d x<=l) (λk t ks xs ih l d hl=>by
  rw[Zj];split
  ·omega
  have := X3 d xs (l-1-ks.length) ih;omega) x
theorem Gr{left deep:Int}(h:left<0):∀xs:List Tree,Qg left deep xs=left
  | []=>by rw[Qg]
  | x::xs=>by rw[Qg,if_pos h]
theorem R7(x:Tree):∀l d:Int,0<=l->0<=d->0<=Zj l d x->Zj l d x=l-Jb x-Hm x/\d+Ce x<=61:=Tree.ind (Q:=λx=>∀l d:Int,0<=l->0<=d->0<=Zj l d x->Zj l d x=l-Jb x-Hm x/\d+Ce x<=61) (λk t ks xs ih l d hl hd h=>by
  rw[Zj]at h ⊢;split at h
  ·omega
  rename_i hd60
  rw[if_neg hd60];have key:∀(ys:List Tree),(∀y∈ys,y∈xs)->∀m:Int,0<=Qg m d ys->Qg m d ys=m-Cb ys-Rj ys/\d+1+Ic ys<=61:=by
    intro ys
    induction ys with
    | nil=>intro _ m hm;simp only[Qg,Cb,Rj,Ic];omega
    | cons y ys ihy =>
      intro hm m h0;rw[Qg]at h0 ⊢;split at h0
      ·omega
      rename_i hmm
      rw[if_neg hmm];obtain⟨a1,a2⟩:=ihy (λz hz=>hm z (by simp[hz])) _ h0;have h3:0<=Zj m (d+1) y:=by
        rcases Int.lt_or_le (Zj m (d+1) y) 0 with hlt|hge
        ·rw[Gr hlt]at h0;omega
        exact hge
      obtain⟨b1,b2⟩:=ih y (hm y Pa) m (d+1) Ca Ca h3;simp only[Cb,Rj,Ic];omega
  obtain⟨a1,a2⟩:=key xs (λ_ h=>h) _ h;rw[Jb,Hm,Ce];omega) x
theorem HH{x:Tree}{most:Int}(hm:0<=most)(h:Tw x most=true):(Jb x:Int)+Hm x<=most/\Ce x<=61/\Vf x=true:=by
  unfold Tw at h;rw[Bool.and_eq_true,decide_eq_true_eq]at h;obtain⟨a,b⟩:=R7 x most 0 hm Ca h.1;exact⟨by omega,by omega,h.2⟩
theorem K7{left deep:Int}{xs:List Tree}{j:Nat}(h:j<xs.length)(h0:¬left<0):Qg left deep (xs.drop j)=Qg (Zj left (deep+1) xs[j]) deep (xs.drop (j+1)):=by
  rw[List.drop_eq_getElem_cons h,Qg,if_neg h0]
def KL(x:Tree):Prop:=∀(left deep:Int) S w0 cs,0<=left->left<=1000000->0<=deep->deep<=61->Rep S w0 (Pb x) cs->Calls prog 27 #[.agg cs.toArray,J left,J deep] w0 (Pd λv w'=>v=J (Zj left deep x)/\Same [] w0 w')
def X6(x:Tree):Prop:=∀S w0 cs,Rep S w0 (Pb x) cs->Calls prog 28 #[.agg cs.toArray] w0 (Pd λv w'=>v=.bool (Vf x)/\Same [] w0 w')
theorem I3{xs:List Tree}{x:Tree}(h:x∈xs)(hs:Vf x=false):Jj xs=false:=by
  induction xs with
  | nil=>cases h
  | cons y ys ih =>
    rw[Jj];rcases oQ.1 h with rfl|h
    ·rw[hs];rfl
    rw[ih h,Bool.and_false]
theorem I1{xs:List Tree}(h:∀j (hj:j<xs.length),Vf xs[j]=true):Jj xs=true:=by
  induction xs with
  | nil=>rfl
  | cons y ys ih =>
    have h0:Vf y=true:=h 0 Pa;rw[Jj,h0,Bool.true_and];exact ih (λj hj=>by have:=h (j+1) (by simpa using hj);simpa using this)
theorem NC(k:Int)(t:Str)(ks:List Str)(xs:List Tree)(ih:∀x,x∈xs->KL x):KL (.node k t ks xs):=by
 intro left deep S w0 cs h0 h1 h2 h3 hR;obtain⟨A,c,B,e,rfl,-,-,hK,hX⟩:=hR.tree_inv;have hXl:=hX.slice_len;have hKl:=hK.slice_len;refine Ia func27 O ntmps27 Kb (Zm _ _ _) ?_;have hF:=FR.start w0 [];refine Ka (Bg hF O ?_);rintro b1 w hb1 hF -;refine Da (Gd O) (Ea (Ha (Ka (Da (Bc O) (Da (WA O O) (Ea ?_))))));refine Uc O O (λhc0=>?_) (λhc0=>?_);refine Ka (Da (Gd O) (Ea ?_));refine Yc (v:=J ((-1))) O O ?_;exact⟨congrArg (Value.int .i64) (by rw[Zj,if_pos Ca]),hF.same⟩;refine Sa (Fa (Ka (Da (Bc O) (Da (OI O O) (Da (Ud Ki O) (Xd (Bm isAgg24 O hF.F 0 O O) (Da (Bh iZ O) (Da (OI O O) (Da (Gd O) (Ea (Ha ?_)))))))))));refine Ka (Da (Gd O) (Ea (Wa ?_)));refine Xc (λμ σ w=>∃(j:Nat),∃(lf:Int),μ=xs.length-j/\(j<=xs.length)/\(lf<=1000000)/\(Qg (left-1-ks.length) deep xs=Qg lf deep (xs.drop j))/\AllEq σ [(1,J lf),(2,J deep),(3,V b1),(7,J ((j:Int)))]/\FR w0 [] [(b1,.cells #[J k,I t,.slice A ks.length c,.slice B xs.length e] 27)] w) _ ⟨0,(left-1-ks.length),O,(Nat.zero_le _),Ca,Pa,Lp,hF⟩ ?_;rintro μ σ w ⟨j,lf,rfl,hj,hlf,hf,hs,hF⟩;refine Cg.slots hs ?_;clear hs;intro σ;refine Ha (Ka (Da (Bc O) (Da (Ud Td O) (Xd (Bm uQ O hF.F 0 O O) (Da (Bh jZ O) (Da (Um O O) (Da (Yd O) ?_)))))));refine Id (d:=21) O (λhg0=>?_) (λhg0=>?_);refine Da (Bc O) (Da (L9 O O) (Da (Sc O O) (Ea ?_)));refine Uc O O (λhc1=>?_) (λhc1=>?_);refine Sa (Fa (Ha (Wa (Ja (Da (Ud Td O) (Xd (Bm uQ O hF.F 0 O O) (Da (Bc O) ?_)))))));obtain⟨ad1,cs1,hA1,hl1,hk1,hx1⟩:=hX.tree_elem (i:=j) Ca;have ho1:=hx1.one_;refine Oa (v:=.pointer (some (ad1.add (j*4)))) (Ta (i:=(j:Int)) Yk O hA1 O Ca Ca) (Oa (v:=.agg (List.toArray cs1)) (Fb (l:=cs1) vQ bZ O hl1 (hF.cells0 hk1)) (Da (Bc O) (Da (Bc O) (Da (Zl O O) ?_))));refine Ra hF (ih _ (List.getElem_mem (l:=xs) (n:=j) Ca) lf (deep+1) _ _ _ Ca Ca Ca Ca (hF.rep hx1)) (Re IK O O O O) ?_
 intro w hF;refine Da (Gd O) (Db (Qb (Fa (Ja (Da (Bc O) (Da (Zl O O) (Da (Gd O) (Db ?_))))))));refine Dc ⟨_,?_,j+1,Zj lf (deep+1) xs[j],O,Ca,(by have:=YG xs[j] lf (deep+1) Ca;omega),(hf.trans (K7 Ca Ca)),Lp,hF⟩;omega;refine Nc (Fc O ?_);refine Fa (Ka (Da (Bc O) (Da (Gd O) (Ea ?_))));refine Yc (v:=J lf) O O ⟨congrArg (Value.int .i64) ?_,hF.same⟩;rw[Zj,if_neg Ca,hf]
 ·first|(rw[List.drop_eq_nil_of_le Ca,Qg];done)|(rw[Gr Ca])
 refine Ma (Ma (Da (Ed O O) (Ea (Kj O ?_))));refine Nc (Fc O ?_);refine Fa (Ka (Da (Bc O) (Da (Gd O) (Ea ?_))));refine Yc (v:=J lf) O O ⟨congrArg (Value.int .i64) ?_,hF.same⟩;rw[Zj,if_neg Ca,hf]
 ·first|(rw[List.drop_eq_nil_of_le Ca,Qg];done)|(rw[Gr Ca])
theorem TP(x:Tree):KL x:=Tree.ind NC x
theorem W6(k:Int)(t:Str)(ks:List Str)(xs:List Tree)(ih:∀x,x∈xs->X6 x):X6 (.node k t ks xs):=by
  intro S w0 cs hR;obtain⟨A,c,B,e,rfl,-,-,hK,hX⟩:=hR.tree_inv;have hXl:=hX.slice_len;have hKl:=hK.slice_len;refine Ia func28 O ntmps28 Kb (Pc _) ?_;have hF:=FR.start w0 [];refine Ha (Ja ?_);refine Bg hF O ?_;intro b1 w hb1 hF hE;refine Da (Ob O) (Db ?_);refine Fa (Ha ?_);refine Ha (Ja ?_);refine Da (Ud Lf O) (Xd (Is zQ O hF.F 0 O O) ?_);refine Da (D_ mZ O) (Da (WA O O) ?_);refine Db (Fa ?_);refine Uc O O (λhc0=>?_) (λhc0=>?_)
  ·
   refine Ha (Ja ?_);refine Da (Ob O) (Db ?_);refine Fa (Yc (v:=.bool false) O O ?_);exact⟨congrArg Value.bool (by rw[Vf,decide_eq_false Ca];rfl),hF.same⟩
  refine Sa (Fa ?_);refine Ha (Ha ?_);refine Ja (Da (Gd O) ?_);refine Db (Fa ?_);refine Wa (Xc (λμ σ w=>∃(j:Nat),μ=ks.length-j/\(j<=ks.length)/\(∀i (hi:i<j) (hk:i<ks.length),ks[i].length<=1024)/\AllEq σ [(1,V b1),(3,J ((j:Int)))]/\FR w0 [] [(b1,.cells #[J k,I t,.slice A ks.length c,.slice B xs.length e] 27)] w) _ ⟨0,O,(Nat.zero_le _),(λi hi=>absurd hi Ca),N9,hF⟩ ?_);rintro μ σ w ⟨j,rfl,hj,ha,hs,hF⟩;refine Cg.slots hs ?_;clear hs;intro σ;refine Ha (Ha ?_);refine Ja (Da (Bc O) ?_);refine Da (Ud Ki O) (Xd (Bm isAgg24 O hF.F 0 O O) ?_);refine Da (Bh iZ O) (Da (Um O O) ?_);refine Db (Fa ?_);refine Uc O O (λhc1=>?_) (λhc1=>?_)
  ·
   refine Sa (Fa ?_);refine Ha (Wa ?_);refine Ha (Ja ?_);refine Da (Ud Ki O) (Xd (Bm isAgg24 O hF.F 0 O O) ?_);refine Da (Bc O) ?_;obtain⟨ad0,hA0,hk0,hx0⟩:=hK.str_elem (i:=j) Ca;refine Oa (v:=.pointer (some (ad0.add (j*1)))) (Ta (i:=(j:Int)) P9 O hA0 O Ca Ca) (Oa (v:=I (ks[j])) (Zc zQ O (hF.cell0 hk0)) ?_);refine Da (D_ mZ O) (Da (WA O O) ?_);refine Db (Fa ?_);refine Uc O O (λhc2=>?_) (λhc2=>?_)
   ·
    refine Ha (Ja ?_);refine Da (Ob O) (Db ?_);refine Fa (Yc (v:=.bool false) O O ?_);have hno:ks.all (λk=>decide (k.length<=1024))=false:=by
      rw[Bool.eq_false_iff];intro hall;have:=List.all_eq_true.1 hall ks[j] (eQ _);simp only[decide_eq_true_eq]at this;omega
    exact⟨congrArg Value.bool (by rw[Vf,hno,Bool.and_false];rfl),hF.same⟩
   refine Sa (Qb ?_);refine Fa (Ja ?_);refine Da (Bc O) (Da (Zl O O) ?_);refine Da (Gd O) (Db ?_);refine Dc ⟨_,?_,j+1,rfl,Ca,(λi hi hk=>by rcases Nat.lt_or_ge i j with h|h;exact ha i h hk;obtain rfl:i=j:=Ca;omega),N9,hF⟩;omega
  refine Nc (Fc O ?_);refine Fa (Ha ?_);refine Ha (Ja ?_);refine Da (Gd O) (Db ?_);refine Fa (Wa ?_);refine Xc (λμ σ w=>∃(i:Nat),μ=xs.length-i/\(i<=xs.length)/\(∀m (hm:m<i) (hk:m<xs.length),Vf xs[m]=true)/\AllEq σ [(1,V b1),(4,J ((i:Int)))]/\FR w0 [] [(b1,.cells #[J k,I t,.slice A ks.length c,.slice B xs.length e] 27)] w) _ ⟨0,O,(Nat.zero_le _),(λi hi=>absurd hi Ca),N9,hF⟩ ?_;rintro μ σ w ⟨i,rfl,hi,hb,hs,hF⟩;refine Cg.slots hs ?_;clear hs;intro σ;refine Ha (Ha ?_);refine Ja (Da (Bc O) ?_);refine Da (Ud Td O) (Xd (Bm uQ O hF.F 0 O O) ?_);refine Da (Bh jZ O) (Da (Um O O) ?_);refine Db (Fa ?_);refine Uc O O (λhc3=>?_) (λhc3=>?_)
  ·
   refine Sa (Fa ?_);refine Ha (Wa ?_);refine Ha (Ja ?_);refine Da (Ud Td O) (Xd (Bm uQ O hF.F 0 O O) ?_);refine Da (Bc O) ?_;obtain⟨ad1,cs1,hA1,hl1,hk1,hx1⟩:=hX.tree_elem (i:=i) Ca;have ho1:=hx1.one_;refine Oa (v:=.pointer (some (ad1.add (i*4)))) (Ta (i:=(i:Int)) Yk O hA1 O Ca Ca) (Oa (v:=.agg (List.toArray cs1)) (Fb (l:=cs1) vQ bZ O hl1 (hF.cells0 hk1)) ?_);refine Ra hF (ih _ (List.getElem_mem (l:=xs) (n:=i) Ca) _ _ _ (hF.rep hx1)) (Ua QJ O O) ?_;intro w hF;refine Da (Ob O) (Db ?_);refine Fa (Ha ?_);refine Ja (Da (Yd O) ?_);refine Da (Bi O) (Db ?_);refine Fa (Ke O O (λhc4=>?_) (λhc4=>?_))
   ·
    refine Ha (Ja ?_);refine Da (Ob O) (Db ?_);refine Fa (Yc (v:=.bool false) O O ?_);exact⟨congrArg Value.bool (by rw[Vf,I3 (List.getElem_mem (l:=xs) (n:=i) Ca) (by simpa using hc4),Bool.and_false]),hF.same⟩
   refine Sa (Qb ?_);refine Fa (Ja ?_);refine Da (Bc O) (Da (Zl O O) ?_);refine Da (Gd O) (Db ?_);refine Dc ⟨_,?_,i+1,rfl,Ca,(λm hm hk=>by rcases Nat.lt_or_ge m i with h|h;exact hb m h hk;obtain rfl:m=i:=Ca;simpa using hc4),N9,hF⟩;omega
  refine Nc (Fc O ?_);refine Fa (Ha ?_);refine Ja (Da (Ob O) ?_);refine Db (Fa ?_);refine Yc (v:=.bool true) O O ?_;have h1:ks.all (λk=>decide (k.length<=1024))=true:=by
    rw[List.all_eq_true];intro k hk;obtain⟨q,hq,rfl⟩:=List.getElem_of_mem hk;simp only[decide_eq_true_eq];exact ha q Ca hq
  exact⟨congrArg Value.bool (by rw[Vf,h1,decide_eq_true Ca,I1 (λm hm=>hb m Ca hm)];rfl),hF.same⟩
theorem UG(x:Tree):X6 x:=Tree.ind W6 x
theorem LJ(x:Tree)(most:Int)(h0:0<=most)(h1:most<=1000000)(S:Nat->Prop)(w0:World)(cs:List Value)(hR:Rep S w0 (Pb x) cs):Calls prog 8 #[.agg cs.toArray,J most] w0 (Pd λv w'=>v=.bool (Tw x most)/\Same [] w0 w'):=by
 have hl:cs.length=4:=hR.length.trans (Rc x);have ho:=hR.one_;refine Ia func8 O ntmps8 Kb (Rd _ _) ?_;have hF:=FR.start w0 [];refine Ka (Qm (v:=.agg (List.toArray cs)) (cs:=(List.toArray cs)) hF O O ?_);rintro b1 w hb1 hF -;refine Da (Ob O) (Ec (Oa (v:=.agg (List.toArray cs)) (Fb (l:=cs) vQ bZ O hl (hF.cellsAll 0 O)) (Da (Bc O) ?_)));refine Ra hF (TP x most 0 S _ cs h0 h1 Ca Ca (hF.rep hR)) (Re IK O O O O) ?_;intro w hF;refine Da (Gd O) (Ec (Da (Bc O) (Da (L9 O O) (Da (Yd O) ?_))));refine Id (d:=11) O (λhg0=>?_) (λhg0=>?_);refine Oa (v:=.agg (List.toArray cs)) (Fb (l:=cs) vQ bZ O hl (hF.cellsAll 0 O)) (Ra hF (UG x S _ cs (hF.rep hR)) (Ua QJ O O) ?_);intro w hF;refine Da (Sc O O) (Da (Ob O) (Ea ?_));refine Yc (v:=.bool _) O O ⟨congrArg Value.bool ?_,hF.same⟩;unfold Tw
 first|(rw[decide_eq_true hg0];rfl)|(rw[decide_eq_false hg0];rfl)
 refine Ma (Ma (Da (Ed O O) (Da (Ob O) (Ea ?_))));refine Yc (v:=.bool false) O O ⟨congrArg Value.bool ?_,hF.same⟩;unfold Tw
 first|(rw[decide_eq_true hg0];rfl)|(rw[decide_eq_false hg0];rfl)
section
variable {P:Program}{w0 w w':World}{ids:List Nat}{ds:List D}
theorem Ug{P:Program}{ρ:Operand->Value}{o:Oper}{w w':World}{p:Prop}{_:Decidable p}(h:(execOp ρ o).run P w=.ok (.value (.bool (decide p))) w')(hp:p):(execOp ρ o).run P w=.ok (.value (.bool true)) w':=by rw[h,decide_eq_true hp]
theorem AB{P:Program}{ρ:Operand->Value}{o:Oper}{w w':World}{p:Prop}{_:Decidable p}(h:(execOp ρ o).run P w=.ok (.value (.bool (decide p))) w')(hp:¬p):(execOp ρ o).run P w=.ok (.value (.bool false)) w':=by rw[h,decide_eq_false hp]
theorem FR.rowX{bs:List (Nat × Obj)}(hF:FR w0 [] bs w)(i:Nat){b n:Nat}{l:List Value}{T:TypeId}(hi:bs[i]? = some (b,.cells l.toArray T))(hr:RX w0 ids w ds l)(hb:b∉ids)(hn:ds.length=n)(hm:n<=9223372036854775807) :
    RX w0 ids w [.slice ds] [W b n n]:=by
  refine .one (Rep.slice_mk hn.symm (gQ _) hm λ_=>⟨_,O,l,λj hj=>⟨?_,?_⟩,hr⟩)
  ·exact hF.cellsAll i hi j hj
  exact⟨hF.ge hi,hF.lt hi,hb,l.toArray,T,hF.heap hi⟩
theorem RX.tree{k:Int}{t:Str}{ks:List Str}{xs:List Tree}{v u:Value}(hk:-9223372036854775808<=k/\k<=9223372036854775807)(ht:t.length<=9223372036854775807)
    (h3:RX w0 ids w [Xe ks] [v]) (h4:RX w0 ids w [.slice (Ld xs)] [u]):RX w0 ids w [Pb (.node k t ks xs)] [J k,I t,v,u]:=.one (Rep.tree_mk hk ht h3.rep h4.rep)
theorem RX.nils{ids:List Nat}:RX w0 ids w [.slice []] [aQ]:=.one (Rep.nil_slice 0 Ca none)
theorem RX.str(t:Str)(ht:t.length<=9223372036854775807):RX w0 ids w [Pb (.node 4 t [] [])] [J 4,I t,aQ,aQ]:=RX.tree ⟨by omega,by omega⟩ ht RX.nils RX.nils
end
end Go.Scarf
