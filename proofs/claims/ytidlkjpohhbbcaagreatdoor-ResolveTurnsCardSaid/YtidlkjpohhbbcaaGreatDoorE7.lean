/- A part of the proof. -/
import Derived.Test.YtidlkjpohhbbcaaGreatDoorE4
import Derived.Test.YtidlkjpohhbbcaaGreatDoorP3
set_option linter.all false
set_option maxHeartbeats 8000000
set_option maxRecDepth 10000
namespace Go.Scarf
open Go.RowKit Go.Proofs Go.Proofs.Tryz
def LM(x:Tree):Prop:=Nb x<=1000000000->∀S w0 cs,Rep S w0 (Ob x) cs->Calls prog 107 #[.agg cs.toArray] w0 (Yc λv w'=>v=J (Nb x:Nat)/\Same [] w0 w')
def RF(x:Tree):Prop:=Nb x<=1000000000->∀S w0 cs,Rep S w0 (Ob x) cs->Calls prog 108 #[.agg cs.toArray] w0 (Yc λv w'=>v=J (Vc x:Nat)/\Same [] w0 w')
def FM(h:Bool)(x:Tree):Bool:=nodeB x&&(h || decide (x.kind≠7))
theorem hn_true:FM true=nodeB:=by funext x;simp[FM]
theorem hn_false:FM false=rnodeB:=by funext x;simp[FM,rnodeB,Bool.and_comm]
def OQ(x:Tree):Prop:=Nb x<=1000000000->Kd x<=1073741824->∀(h:Bool) S w0 cs,Rep S w0 (Ob x) cs->Calls prog 109 #[.agg cs.toArray,.bool h] w0 (Yc λv w'=>v=.bool (Me (FM h) x)/\Same [] w0 w')
theorem Pv:∀(xs:List Tree)(j:Nat),Ec (xs.take j)<=Ec xs
  | [],j=>by simp
  | x::xs,0=>by simp[Ec]
  | x :: xs, j + 1 => by
    have:=Pv xs j;rw[List.take_succ_cons,Ec,Ec];omega
theorem FO(k:Int)(t:Str)(ks:List Str)(xs:List Tree)(ih:∀x,x∈xs->LM x):LM (.node k t ks xs):=by
 intro hsz S w0 cs hR;obtain⟨A,c,B,e,rfl,-,-,-,hX⟩:=hR.tree_inv;have hXl:=hX.slice_len;have hdl:=Iy xs;rw[Nb]at hsz;refine Fa func107 O ntmps107 Ab (Wb _) ?_;have hF:=FR.start w0 [];refine Ea (Ce hF O ?_);rintro b1 w hb1 hF -;refine Ba (Fb O) (Lb (Ba (Fb O) (Da (Ga (Ea (Ba (Fb O) (Da ?_)))))));refine Qa (Fc (λμ σ w=>∃(j:Nat),μ=xs.length-j/\(j<=xs.length)/\AllEq σ [(1,V b1),(3,J (((1+Ec (xs.take j):Nat):Int))),(4,J ((j:Int)))]/\FR w0 [] [(b1,.cells #[J k,I t,.slice A ks.length c,.slice B xs.length e] 36)] w) _ ⟨0,O,(Nat.zero_le _),Oi,hF⟩ ?_);rintro μ σ w ⟨j,rfl,hj,hs,hF⟩;refine Cg.slots hs ?_;clear hs;intro σ;refine Ga (Ea (Ba (Za O) (Ba (Mb Tb O) (Xb (Ie zQ O hF.F 0 O O) (Ba (Nf dX O) (Ba (Pg O O) (Da ?_)))))));refine Jb O O (λhc0=>?_) (λhc0=>?_);refine Ka (Ha (Ga (Qa (Ja (Ba (Za O) (Ba (Mb Tb O) (Xb (Ie zQ O hF.F 0 O O) (Ba (Za O) ?_))))))));obtain⟨ad0,cs0,hA0,hl0,hk0,hx0⟩:=hX.tree_elem (i:=j) Aa;have ho0:=hx0.one_;refine Ia (v:=.pointer (some (ad0.add (j*4)))) (Na (i:=(j:Int)) Wf O hA0 O Aa Aa) (Ia (v:=.agg (List.toArray cs0)) (Wa (l:=cs0) aZ nZ O hl0 (hF.cells0 hk0)) ?_);refine Pa hF (ih _ (eQ _) (by have:=Lg (List.getElem_mem (l:=xs) (n:=j) Aa);omega) _ _ _ (hF.rep hx0)) (Ma KP O O) ?_;intro w hF;refine Ia (v:=J (((1+Ec (xs.take (j+1)):Nat):Int))) (Rs O O (by have h1:=T4 xs j Aa;have h2:=Lg (List.getElem_mem (l:=xs) (n:=j) Aa);have h3:=Pv xs (j+1);exact Hg (by rw[h1];omega) Aa Aa)) ?_;refine Ba (Fb O) (Va (Ya (Ha (Ja (Ba (Za O) (Ba (Bi (((j+1:Nat):Int)) O O) (Ba (Fb O) (Va ?_))))))));refine Ta ⟨_,?_,j+1,O,Aa,Oi,hF⟩;omega;refine Bc (Yb O ?_);refine Ha (Ea ?_);have eT:xs.take j=xs:=List.take_of_length_le Aa;refine Ba (Za O) (Ba (Fb O) (Da ?_));refine Db (Cb (La (Gq (v:=J (((1+Ec (xs.take j):Nat):Int))) O O) ?_));exact⟨by rw[eT,Nb],hF.same⟩
theorem ZK(x:Tree):LM x:=Tree.ind FO x
theorem FI(k:Int)(t:Str)(ks:List Str)(xs:List Tree)(ih:∀x,x∈xs->RF x):RF (.node k t ks xs):=by
 intro hsz S w0 cs hR;obtain⟨A,c,B,e,rfl,-,-,-,hX⟩:=hR.tree_inv;have hXl:=hX.slice_len;have hdl:=Iy xs;rw[Nb]at hsz;refine Fa func108 O ntmps108 Ab (Wb _) ?_;have hF:=FR.start w0 [];refine Ea (Ce hF O ?_);rintro b1 w hb1 hF -;refine Ba (Fb O) (Lb (Ba (Fb O) (Da (Ga (Ea (Ba (Fb O) (Da ?_)))))));refine Qa (Fc (λμ σ w=>∃(j:Nat),μ=xs.length-j/\(j<=xs.length)/\AllEq σ [(1,V b1),(3,J ((Od (xs.take j):Nat))),(4,J ((j:Int)))]/\FR w0 [] [(b1,.cells #[J k,I t,.slice A ks.length c,.slice B xs.length e] 36)] w) _ ⟨0,O,(Nat.zero_le _),Oi,hF⟩ ?_);rintro μ σ w ⟨j,rfl,hj,hs,hF⟩;refine Cg.slots hs ?_;clear hs;intro σ;refine Ga (Ea (Ba (Za O) (Ba (Mb Tb O) (Xb (Ie zQ O hF.F 0 O O) (Ba (Nf dX O) (Ba (Pg O O) (Da ?_)))))));refine Jb O O (λhc0=>?_) (λhc0=>?_);refine Ka (Ha (Ga (Qa (Ja (Ba (Za O) (Ba (Mb Tb O) (Xb (Ie zQ O hF.F 0 O O) (Ba (Za O) ?_))))))));obtain⟨ad0,cs0,hA0,hl0,hk0,hx0⟩:=hX.tree_elem (i:=j) Aa;have ho0:=hx0.one_;refine Ia (v:=.pointer (some (ad0.add (j*4)))) (Na (i:=(j:Int)) Wf O hA0 O Aa Aa) (Ia (v:=.agg (List.toArray cs0)) (Wa (l:=cs0) aZ nZ O hl0 (hF.cells0 hk0)) ?_);refine Pa hF (ih _ (eQ _) (by have:=Lg (List.getElem_mem (l:=xs) (n:=j) Aa);omega) _ _ _ (hF.rep hx0)) (Ma LQ O O) ?_;intro w hF;refine Ia (v:=J ((Od (xs.take (j+1)):Nat))) (by rw[<-show max ((Od (xs.take j):Nat):Int) ((Vc xs[j]:Nat):Int)=((Od (xs.take (j+1)):Nat):Int) from by rw[Qz xs j Aa];omega];exact x_max O O) ?_;refine Ba (Fb O) (Va (Ya (Ha (Ja (Ba (Za O) (Ba (Bi (((j+1:Nat):Int)) O O) (Ba (Fb O) (Va ?_))))))));refine Ta ⟨_,?_,j+1,O,Aa,Oi,hF⟩;omega;refine Bc (Yb O ?_);refine Ha (Ea (Ba (Za O) ?_));have eT:xs.take j=xs:=List.take_of_length_le Aa;refine Ia (v:=J ((Vc (.node k t ks xs):Nat))) (Rs O O (by rw[eT,Vc];exact Hg Aa Aa Aa)) ?_;refine Ba (Fb O) (Da ?_);refine Gc (v:=J ((Vc (.node k t ks xs):Nat))) O O ?_
 exact⟨O,hF.same⟩
theorem UA(x:Tree):RF x:=Tree.ind FI x
theorem Zl{b:Bool}(h:(!b)=false):b=true:=by simpa using h
theorem Ot{b:Bool}(h:(!b)=true):b=false:=by simpa using h
theorem N9{t:Str}{ks:List Str}{xs:List Tree}:nodeB (.node 6 t ks xs)=(Om ks xs.length&&decide (t=[])):=by simp only[nodeB];rfl
theorem six_bad{t:Str}{ks:List Str}{xs:List Tree}{i:Nat}(h:i<ks.length)(hv:Lib.validD ks[i]=false):nodeB (.node 6 t ks xs)=false:=by
  rw[N9,Om,QR h hv];simp
theorem six_dup{t:Str}{ks:List Str}{xs:List Tree}{i m:Nat}(h:i<ks.length)(hm:m<i)(he:ks[m]=ks[i]):nodeB (.node 6 t ks xs)=false:=by
  have:¬ks.Nodup:=Et h (by rw[<-he];exact List.mem_take_iff_getElem.2 ⟨m,by omega,rfl⟩);rw[N9,Om,decide_eq_false this];simp
theorem GT{t:Str}{ks:List Str}{xs:List Tree}(hn:ks.Nodup)(hv:ks.all Lib.validD=true):nodeB (.node 6 t ks xs)=(decide (t=[])&&decide (((ks.length:Nat):Int)=((xs.length:Nat):Int))):=by
  rw[N9,Om,decide_eq_true hn,hv,Bool.true_and,Bool.true_and,Bool.and_comm]
theorem node_not{k:Int}{t:Str}{ks:List Str}{xs:List Tree}(h1:¬k=1)(h2:¬k=2)(h3:¬k=3)(h4:¬k=4)(h5:¬k=5)(h6:¬k=6)(h7:¬k=7):nodeB (.node k t ks xs)=false:=by
  simp[nodeB,h1,h2,h3,h4,h5,h6,h7]
theorem I2{k:Int}{t:Str}{ks:List Str}{xs:List Tree}(h:k≠6)(hk:(0:Int)<((ks.length:Nat):Int)):nodeB (.node k t ks xs)=false:=by
  have h1:ks≠[]:=by rintro rfl;simp at hk
  by_cases h5:k=5 <;> simp[nodeB,h,h5,h1]
theorem Fy{k:Int}{t:Str}{ks:List Str}{xs:List Tree}(h:k≠6)(h5:k≠5)(hk:(0:Int)<((xs.length:Nat):Int)):nodeB (.node k t ks xs)=false:=by
  have h1:xs≠[]:=by rintro rfl;simp at hk
  simp[nodeB,h,h5,h1]
theorem nd1{k:Int}{t:Str}{ks:List Str}{xs:List Tree}(h:k=1)(hk:ks=[])(hx:xs=[]):nodeB (.node k t ks xs)=decide (t=[]):=by subst h hk hx;simp[nodeB]
theorem nd5{k:Int}{t:Str}{ks:List Str}{xs:List Tree}(h:k=5)(hk:ks=[]):nodeB (.node k t ks xs)=decide (t=[]):=by subst h hk;simp[nodeB]
theorem nd2{k:Int}{t:Str}{ks:List Str}{xs:List Tree}(h:k=2)(hk:ks=[])(hx:xs=[]):nodeB (.node k t ks xs)=(decide (t=[116,114,117,101]) || decide (t=[102,97,108,115,101])):=by subst h hk hx;simp[nodeB]
theorem nd3{k:Int}{t:Str}{ks:List Str}{xs:List Tree}(h:k=3)(hk:ks=[])(hx:xs=[]):nodeB (.node k t ks xs)=Pj t:=by subst h hk hx;simp[nodeB]
theorem nd4{k:Int}{t:Str}{ks:List Str}{xs:List Tree}(h:k=4)(hk:ks=[])(hx:xs=[]):nodeB (.node k t ks xs)=Lib.validD t:=by subst h hk hx;simp[nodeB]
theorem nd7{k:Int}{t:Str}{ks:List Str}{xs:List Tree}(h:k=7)(hk:ks=[])(hx:xs=[]):nodeB (.node k t ks xs)=Ou t:=by subst h hk hx;simp[nodeB]
theorem QO{t:Str}(h1:Pj t=true)(h2:(Vr (Kc t).1).2=true):Ou t=decide (0<=(Vr (Kc t).1).1):=by rw[Ou,h1,h2];rfl
theorem DF{t:Str}(h1:Pj t=false):Ou t=false:=by rw[Ou,h1];rfl
theorem XD{t:Str}(h2:(Vr (Kc t).1).2=false):Ou t=false:=by rw[Ou,h2,Bool.and_false];rfl
theorem N2{ks:List Str}(h:¬(0:Int)<((ks.length:Nat):Int)):ks=[]:=List.eq_nil_of_length_eq_zero Aa
theorem F3{xs:List Tree}(h:¬(0:Int)<((xs.length:Nat):Int)):xs=[]:=List.eq_nil_of_length_eq_zero Aa
theorem rnode_c_(k:Int)(t:Str)(ks:List Str)(xs:List Tree)(S:Nat->Prop)(w0:World)(cs:List Value)(hR:Rep S w0 (Ob (.node k t ks xs)) cs)(hm:Kd (.node k t ks xs)<=1073741824):Calls prog 168 #[.agg cs.toArray] w0 (Yc λv w'=>v=.bool (nodeB (.node k t ks xs))/\Same [] w0 w'):=by
 obtain⟨A,c,B,e,rfl,-,-,hK,hX⟩:=hR.tree_inv;have hKl:=hK.slice_len;have hXl:=hX.slice_len;rw[Kd]at hm;have hkm:∀q (h:q<ks.length),ks[q].length<=1073741824:=λq h=>fQ (Hl (eQ h)) Aa;refine Fa func168 O ntmps168 Ab (Wb _) ?_;have hF:=FR.start w0 [];refine Ea (Ce hF O ?_);rintro b1 w hb1 hF -;refine Ba (Kb O) (Da (Ga ?_));refine Fd (λσ w=>(k≠6->ks=[])/\(k≠6->k≠5->xs=[])/\AllEq σ [(1,V b1)]/\FR w0 [] [(b1,.cells #[J k,I t,.slice A ks.length c,.slice B xs.length e] 36)] w) ?_ ?_
 ·
  refine Ea (Ba (Mb Xc O) (Xb (Zg xQ O hF.F 0 O O) (Ba (Wm O O) (Ba (Dc O) ?_))));refine Bb (d:=15) O (λhg0=>?_) (λhg0=>?_)
  ·
   refine Ba (Mb Tc O) (Xb (Ie yQ O hF.F 0 O O) (Ba (Nf cX O) (Ba (Mo O O) (Ba (Rb O O) (Ba (Dc O) ?_)))));refine Bb (d:=21) O (λhg1=>?_) (λhg1=>?_)
   ·
    refine Ca (Ca (Ca (Ca (Ca (Ca (Ca (Ca (Ca (Ca (Ca (Ca (Ca (Ca ?_)))))))))))));refine Ba (Rb O O) (Da (Yd O (Ea (Ba (Kb O) (Da ?_)))));refine Gc (v:=.bool false) O O ⟨congrArg Value.bool ?_,hF.same⟩
    first|exact (I2 Aa (by assumption)).symm|exact (Fy Aa Aa (by assumption)).symm
   refine Ba (Mb Xc O) (Xb (Zg xQ O hF.F 0 O O) (Ba (Wm O O) (Ba (Dc O) ?_)));refine Bb (d:=25) O (λhg2=>?_) (λhg2=>?_)
   ·
    refine Ba (Mb Xc O) (Xb (Zg xQ O hF.F 0 O O) (Ba (Wm O O) (Ba (Rb O O) (Ba (Dc O) ?_))));refine Bb (d:=30) O (λhg3=>?_) (λhg3=>?_)
    ·
     refine Ba (Mb Tb O) (Xb (Ie zQ O hF.F 0 O O) (Ba (Nf dX O) (Ba (Mo O O) (Ba (Rb O O) (Ba (Pb O O) (Da ?_))))));refine Jb O O (λhc0=>?_) (λhc0=>?_)
     ·
      refine Ea (Ba (Kb O) (Da ?_));refine Gc (v:=.bool false) O O ⟨congrArg Value.bool ?_,hF.same⟩
      first|exact (I2 Aa (by assumption)).symm|exact (Fy Aa Aa (by assumption)).symm
     refine Ka ?_;exact Ta ⟨(by intro h;first|exact N2 Aa|(exfalso;omega)),(by intro h h5;first|exact F3 Aa|(exfalso;omega)),XO,hF⟩
    refine Ca (Ca (Ca (Ca (Ba (Pb O O) (Ba (Pb O O) (Da (Zd O (Ka ?_))))))));exact Ta ⟨(by intro h;first|exact N2 Aa|(exfalso;omega)),(by intro h h5;first|exact F3 Aa|(exfalso;omega)),XO,hF⟩
   refine Ca (Ca (Ca (Ba (Pb O O) (Ba (Dc O) (Ca (Ca (Ca (Ca (Ba (Pb O O) (Ba (Pb O O) (Da (Zd O ?_))))))))))));refine Ka ?_;exact Ta ⟨(by intro h;first|exact N2 Aa|(exfalso;omega)),(by intro h h5;first|exact F3 Aa|(exfalso;omega)),XO,hF⟩
  refine Ca (Ca (Ca (Ca (Ba (Pb O O) (Ba (Dc O) (Ba (Mb Xc O) (Xb (Zg xQ O hF.F 0 O O) (Ba (Wm O O) (Ba (Dc O) ?_)))))))));refine Bb (d:=25) O (λhg4=>?_) (λhg4=>?_)
  ·
   refine Ba (Mb Xc O) (Xb (Zg xQ O hF.F 0 O O) (Ba (Wm O O) (Ba (Rb O O) (Ba (Dc O) ?_))));refine Bb (d:=30) O (λhg5=>?_) (λhg5=>?_)
   ·
    refine Ba (Mb Tb O) (Xb (Ie zQ O hF.F 0 O O) (Ba (Nf dX O) (Ba (Mo O O) (Ba (Rb O O) (Ba (Pb O O) (Da ?_))))));refine Jb O O (λhc0=>?_) (λhc0=>?_)
    ·
     refine Ea (Ba (Kb O) (Da ?_));refine Gc (v:=.bool false) O O ⟨congrArg Value.bool ?_,hF.same⟩
     first|exact (I2 Aa (by assumption)).symm|exact (Fy Aa Aa (by assumption)).symm
    refine Ka ?_;exact Ta ⟨(by intro h;first|exact N2 Aa|(exfalso;omega)),(by intro h h5;first|exact F3 Aa|(exfalso;omega)),XO,hF⟩
   refine Ca (Ca (Ca (Ca (Ba (Pb O O) (Ba (Pb O O) (Da (Zd O (Ka ?_))))))));exact Ta ⟨(by intro h;first|exact N2 Aa|(exfalso;omega)),(by intro h h5;first|exact F3 Aa|(exfalso;omega)),XO,hF⟩
  refine Ca (Ca (Ca (Ba (Pb O O) (Ba (Dc O) (Ca (Ca (Ca (Ca (Ba (Pb O O) (Ba (Pb O O) (Da (Zd O ?_))))))))))));refine Ka ?_;exact Ta ⟨(by intro h;first|exact N2 Aa|(exfalso;omega)),(by intro h h5;first|exact F3 Aa|(exfalso;omega)),XO,hF⟩
 rintro σ w ⟨hk0,hx0,hs,hF⟩;refine Eg.slots hs ?_;clear hs;intro σ;refine Ha (Ga (Ea (Ba (Mb Xc O) (Xb (Zg xQ O hF.F 0 O O) (Da (Qa (Ga (Ea (Ba (Of O O) (Ba (Kb O) ?_))))))))));refine Da (Jb O O (λhc1=>?_) (λhc1=>?_))
 ·
  refine Ka (Ha (Yd O (Ea (Ba (Mb Id O) (Xb (Ej iZ O hF.F 0 O O) (Ba (Ry O O) (Ba (Kb O) (Da ?_))))))));refine Gc (v:=.bool _) O O ⟨congrArg Value.bool ?_,hF.same⟩
  first|(exfalso;omega)|exact (nd5 Aa (hk0 Aa)).symm|exact (nd1 Aa (hk0 Aa) (hx0 Aa Aa)).symm
 refine Ja (Ba (Of O O) (Ba (Kb O) (Da ?_)));refine Jb O O (λhc2=>?_) (λhc2=>?_)
 ·
  refine Ea (Ba (Mb Id O) (Xb (Ej iZ O hF.F 0 O O) (Ba (Ry O O) (Ba (Kb O) (Da ?_)))));refine Gc (v:=.bool _) O O ⟨congrArg Value.bool ?_,hF.same⟩
  first|(exfalso;omega)|exact (nd5 Aa (hk0 Aa)).symm|exact (nd1 Aa (hk0 Aa) (hx0 Aa Aa)).symm
 refine Ea (Ba (Of O O) (Ba (Kb O) (Da ?_)));refine Jb O O (λhc3=>?_) (λhc3=>?_)
 ·
  refine Ea (Ba (Mb Id O) (Xb (Ej iZ O hF.F 0 O O) (Ba (Ry O O) (Ba (Dc O) ?_))));refine Bb (d:=50) O (λhg6=>?_) (λhg6=>?_)
  ·
   refine Ca (Ca (Ca (Ba (Rb O O) (Ba (Kb O) (Da ?_)))));refine Gc (v:=.bool true) O O ⟨congrArg Value.bool ?_,hF.same⟩
   first|(exfalso;omega)|rw[nd2 Aa (hk0 Aa) (hx0 Aa Aa)]
   all_goals first|(rw[decide_eq_true (show t=[116,114,117,101] by assumption)];rfl)|(rw[decide_eq_false (show ¬t=[116,114,117,101] by assumption)];rfl)
  refine Ba (Mb Id O) (Xb (Ej iZ O hF.F 0 O O) (Ba (Ry O O) (Ba (Pb O O) (Ba (Kb O) (Da ?_)))));refine Gc (v:=.bool _) O O ⟨congrArg Value.bool ?_,hF.same⟩
  first|(exfalso;omega)|rw[nd2 Aa (hk0 Aa) (hx0 Aa Aa)]
  all_goals first|(rw[decide_eq_true (show t=[116,114,117,101] by assumption)];rfl)|(rw[decide_eq_false (show ¬t=[116,114,117,101] by assumption)];rfl)
 refine Ea (Ba (Of O O) (Ba (Kb O) (Da ?_)));refine Jb O O (λhc4=>?_) (λhc4=>?_)
 ·
  refine Ea (Ba (Mb Id O) (Xb (Ej iZ O hF.F 0 O O) ?_));refine Pa hF (Qt t Aa _) (Ma VF O O) ?_;intro w hF;refine Ba (Mj O) (Ba (Gt O O) (Ba (Ym O O) ?_));refine If hF tX tZ O ?_;rintro b2 w hb2 hF -;refine Ba (Kb O) (Lb (Ba (Dc O) (Ba (Kb O) (Da ?_))));refine Gc (v:=.bool _) O O ⟨congrArg Value.bool ?_,hF.same⟩
  first|(exfalso;omega)|exact (nd3 Aa (hk0 Aa) (hx0 Aa Aa)).symm
 refine Ea (Ba (Of O O) (Ba (Kb O) (Da ?_)));refine Jb O O (λhc5=>?_) (λhc5=>?_)
 ·
  refine Ea (Ba (Mb Id O) (Xb (Ej iZ O hF.F 0 O O) ?_));refine Pa hF (utf_c t Aa _) (Ma en_228 O O) ?_;intro w hF;refine Ba (Kb O) (Da ?_);refine Gc (v:=.bool _) O O ⟨congrArg Value.bool ?_,hF.same⟩
  first|(exfalso;omega)|exact (nd4 Aa (hk0 Aa) (hx0 Aa Aa)).symm
 refine Ea (Ba (Of O O) (Ba (Kb O) (Da ?_)));refine Jb O O (λhc6=>?_) (λhc6=>?_)
 ·
  refine Ea (Ba (Mb Id O) (Xb (Ej iZ O hF.F 0 O O) ?_));refine Pa hF (Qt t Aa _) (Ma VF O O) ?_;intro w hF;refine Ba (Mj O) (Ba (Gt O O) (Ba (Ym O O) ?_));refine If hF tX tZ O ?_;rintro b3 w hb3 hF -;refine Ba (Kb O) (Lb (Xb (Bf jZ tZ O hF.F 0 O O) ?_));refine Pa hF (rint_c (Kc t).1 (by have:=Ah t;omega) _) (Ma en_229 O O) ?_;intro w hF;refine Ba (Mj O) (Ba (Rj O O) (Ba (Ym O O) (Ba (Fb O) (Ba (Kb O) (Lb (Ba (Dc O) (Ba (Dc O) ?_)))))));refine Sc (d:=83) O (λhg7=>?_) (λhg7=>?_)
  ·
   refine Ba (Dc O) (Ba (Rb O O) (Ba (Dc O) ?_));refine Sc (d:=86) O (λhg8=>?_) (λhg8=>?_)
   ·
    refine Ba (Za O) (Ba (Vx O O) (Ba (Rb O O) (Ba (Kb O) (Da ?_))));refine Gc (v:=.bool _) O O ⟨congrArg Value.bool ?_,hF.same⟩
    first|(exfalso;omega)|rw[nd7 Aa (hk0 Aa) (hx0 Aa Aa)]
    all_goals first|exact (DF (by assumption)).symm|exact (XD (by assumption)).symm|exact (QO (by assumption) (by assumption)).symm
   refine Ca (Ca (Ba (Pb O O) (Ba (Kb O) (Da ?_))));refine Gc (v:=.bool false) O O ⟨congrArg Value.bool ?_,hF.same⟩
   first|(exfalso;omega)|rw[nd7 Aa (hk0 Aa) (hx0 Aa Aa)]
   all_goals first|exact (DF (by assumption)).symm|exact (XD (by assumption)).symm|exact (QO (by assumption) (by assumption)).symm
  refine Ca (Ba (Pb O O) (Ba (Dc O) (Ca (Ca (Ba (Pb O O) (Ba (Kb O) (Da ?_)))))));refine Gc (v:=.bool false) O O ⟨congrArg Value.bool ?_,hF.same⟩
  first|(exfalso;omega)|rw[nd7 Aa (hk0 Aa) (hx0 Aa Aa)]
  all_goals first|exact (DF (by assumption)).symm|exact (XD (by assumption)).symm|exact (QO (by assumption) (by assumption)).symm
 refine Ea (Ba (Of O O) (Ba (Kb O) (Da ?_)));refine Jb O O (λhc7=>?_) (λhc7=>?_)
 ·
  refine Ga (Ea (Ba (Fb O) (Da (Qa ?_))));refine Fc (λμ σ w=>∃(i:Nat),μ=ks.length-i/\(i<=ks.length)/\((ks.take i).all Lib.validD=true)/\((ks.take i).Nodup)/\AllEq σ [(1,V b1),(9,J ((i:Int)))]/\FR w0 [] [(b1,.cells #[J k,I t,.slice A ks.length c,.slice B xs.length e] 36)] w) _ ⟨0,O,(Nat.zero_le _),Oa,Oa,Rq,hF⟩ ?_;rintro μ σ w ⟨i,rfl,hi,hva,hnd,hs,hF⟩;refine Cg.slots hs ?_;clear hs;intro σ;refine Ga (Ea (Ba (Za O) (Ba (Mb Tc O) (Xb (Ie yQ O hF.F 0 O O) (Ba (Nf cX O) (Ba (Pg O O) (Da ?_)))))));refine Jb O O (λhc8=>?_) (λhc8=>?_)
  ·
   refine Ka (Ha (Ga (Qa (Ea (Ba (Mb Tc O) (Xb (Ie yQ O hF.F 0 O O) (Ba (Za O) ?_)))))));obtain⟨ad9,hA9,hk9,hx9⟩:=hK.str_elem (i:=i) Aa;refine Ia (v:=.pointer (some (ad9.add (i*1)))) (Na (i:=(i:Int)) Pk O hA9 O Aa Aa) (Ia (v:=I (ks[i])) (Nc iZ O (hF.cell0 hk9)) ?_);refine Pa hF (utf_c ks[i] (by have:=hkm i Aa;omega) _) (Ma en_228 O O) ?_;intro w hF;refine Ba (Kb O) (Da (Ga (Ea (Ba (Dc O) (Ba (Di O) (Da ?_))))));refine Jd O O (λhc9=>?_) (λhc9=>?_)
   ·
    refine Ea (Ba (Kb O) (Da ?_));refine Gc (v:=.bool false) O O ⟨congrArg Value.bool ?_,hF.same⟩;have h6:k=6:=Aa;subst h6;exact (six_bad (i:=i) Aa (Ot (by assumption))).symm
   refine Ka (Ha (Ea (Ba (Fb O) (Da (Qa ?_)))));have hik:i<ks.length:=by omega
   refine Fc (λμ σ w=>∃(m:Nat),μ=i-m/\(m<=i)/\(∀q (hq:q<ks.length),q<m->ks[q]≠ks[i]' hik)/\AllEq σ [(1,V b1),(9,J ((i:Int))),(11,J ((m:Int)))]/\FR w0 [] [(b1,.cells #[J k,I t,.slice A ks.length c,.slice B xs.length e] 36)] w) _ ⟨0,O,(Nat.zero_le _),(λq _ h=>absurd h Aa),Oi,hF⟩ ?_;rintro μ σ w ⟨m,rfl,hmi,hno,hs,hF⟩;refine Cg.slots hs ?_;clear hs;intro σ;refine Ga (Ea (Ba (Za O) (Ba (Za O) (Ba (Pg O O) (Da ?_)))));refine Jb O O (λhc10=>?_) (λhc10=>?_)
   ·
    refine Ka (Ha (Ga (Qa (Ga ?_))));refine De (zs:=.of []) (bQ [0,1,2,3,4,5,6,7,8,9,10] .nil) hF ?_;intro w hF;refine Ib O (Mb Tc O) (Ng O (Ie yQ O C0 0 O O) (Ib O (Za O) ?_));obtain⟨ad10,hA10,hk10,hx10⟩:=hK.str_elem (i:=m) Aa;refine Sa O (v:=.pointer (some (ad10.add (m*1)))) (λw hC=>Na (i:=(m:Int)) Pk O hA10 O Aa Aa) (Sa O (v:=I (ks[m])) (λw hC=>Nc iZ O (hC.cell0 hk10)) (Ib O (Mb Tc O) (Ng O (Ie yQ O C0 0 O O) (Ib O (Za O) ?_))));obtain⟨ad11,hA11,hk11,hx11⟩:=hK.str_elem (i:=i) Aa;refine Sa O (v:=.pointer (some (ad11.add (i*1)))) (λw hC=>Na (i:=(i:Int)) Pk O hA11 O Aa Aa) (Sa O (v:=I (ks[i])) (λw hC=>Nc iZ O (hC.cell0 hk11)) (Ib O (Ry O O) (Ic (Ha ?_))));refine Jb O O (λhc11=>?_) (λhc11=>?_)
    ·
     refine Ea (Ba (Kb O) (Da ?_));refine Gc (v:=.bool false) O O ⟨congrArg Value.bool ?_,hF.same⟩;have h6:k=6:=Aa;subst h6;exact (six_dup (i:=i) (m:=m) Aa Aa (by assumption)).symm
    refine Ka (Ya (Ha (Ja (Ba (Za O) (Ba (Bi (((m+1:Nat):Int)) O O) (Ba (Fb O) (Va ?_)))))));refine Ta ⟨_,?_,m+1,rfl,Aa,(λq hq h=>by rcases Nat.lt_or_ge q m with h1|h1;exact hno q hq h1;obtain rfl:q=m:=Aa;assumption),Oi,hF⟩;omega
   refine Bc (Yb O ?_);refine Ya (Ha (Ja (Ba (Za O) (Ba (Bi (((i+1:Nat):Int)) O O) (Ba (Fb O) (Va ?_))))));refine Ta ⟨_,?_,i+1,rfl,Aa,(Qx Aa hva (Zl (by assumption))),(Nu Aa hnd (λhm=>by obtain⟨q,hq,hq2⟩:=List.mem_take_iff_getElem.1 hm;exact hno q Aa Aa hq2)),Rq,hF⟩;omega
  refine Bc (Yb O ?_);refine Ha (Ea (Ba (Mb Id O) (Xb (Ej iZ O hF.F 0 O O) (Ba (Ry O O) (Ba (Dc O) ?_)))));refine Bb (d:=126) O (λhg12=>?_) (λhg12=>?_)
  ·
   refine Ba (Mb Tc O) (Xb (Ie yQ O hF.F 0 O O) (Ba (Nf cX O) (Ba (Mb Tb O) (Xb (Ie zQ O hF.F 0 O O) (Ba (Nf dX O) (Ba (Of O O) (Ba (Rb O O) (Ba (Kb O) (Da ?_)))))))));refine Gc (v:=.bool _) O O ⟨congrArg Value.bool ?_,hF.same⟩;have h6:k=6:=Aa;subst h6;have hz:=GT (t:=t) (ks:=ks) (xs:=xs) (by rw[<-List.take_of_length_le (show ks.length<=i by omega)];exact hnd) (by rw[<-List.take_of_length_le (show ks.length<=i by omega)];exact hva);rw[hz]
   first|(rw[decide_eq_true (show t=[] by assumption),Bool.true_and])|(rw[decide_eq_false (show ¬t=[] by assumption),Bool.false_and])
  refine Ca (Ca (Ca (Ca (Ca (Ca (Ca (Ba (Pb O O) (Ba (Kb O) (Da ?_)))))))));refine Gc (v:=.bool false) O O ⟨congrArg Value.bool ?_,hF.same⟩;have h6:k=6:=Aa;subst h6;have hz:=GT (t:=t) (ks:=ks) (xs:=xs) (by rw[<-List.take_of_length_le (show ks.length<=i by omega)];exact hnd) (by rw[<-List.take_of_length_le (show ks.length<=i by omega)];exact hva);rw[hz]
  first|(rw[decide_eq_true (show t=[] by assumption),Bool.true_and])|(rw[decide_eq_false (show ¬t=[] by assumption),Bool.false_and])
 refine Ka (Ya (Ha (Ea (Ba (Kb O) (Da ?_)))));refine Gc (v:=.bool false) O O ⟨congrArg Value.bool ?_,hF.same⟩;exact (node_not Aa Aa Aa Aa Aa Aa Aa).symm
theorem all_next{α:Type}{f:α->Bool}{l:List α}{j:Nat}(h:j<l.length)(ha:(l.take j).all f=true)(hf:f l[j]=true):(l.take (j+1)).all f=true:=by
  rw[iQ h,List.all_append,ha,List.all_cons,hf];rfl
theorem NX{α:Type}{f:α->Bool}{l:List α}{j:Nat}(h:j<l.length)(hf:f l[j]=false):l.all f=false:=by
  rw[Bool.eq_false_iff];intro ha;have:=List.all_eq_true.1 ha l[j] (eQ h);rw[hf]at this;cases this
theorem KD(q:Tree->Bool)(k:Int)(t:Str)(ks:List Str)(xs:List Tree):Me q (.node k t ks xs)=(q (.node k t ks xs)&&xs.all (Me q)):=by rw[Me,Nl]
theorem TL(k:Int)(t:Str)(ks:List Str)(xs:List Tree)(ih:∀x,x∈xs->OQ x):OQ (.node k t ks xs):=by
 intro hsz hm h S w0 cs hR;obtain⟨A,c,B,e,rfl,-,-,hK,hX⟩:=hR.tree_inv;have hR0:=hR;have hXl:=hX.slice_len;rw[Nb]at hsz;refine Fa func109 O ntmps109 Ab (Uc _ _) ?_;have hF:=FR.start w0 [];refine Ea (Ce hF O ?_);rintro b1 w hb1 hF -;refine Ba (Kb O) (Lb (Xb (Bf aZ nZ O hF.F 0 O O) ?_));refine Pa hF (rnode_c_ k t ks xs _ _ _ (hF.rep hR0) hm) (Ma en_168 O O) ?_;intro w hF;refine Ba (Kb O) (Da (Ga (Ga ?_)));refine Fd (λσ w=>∃(bd:Bool),(bd = !(FM h (.node k t ks xs)))/\AllEq σ [(1,.bool (h)),(2,V b1),(20,.bool (bd))]/\FR w0 [] [(b1,.cells #[J k,I t,.slice A ks.length c,.slice B xs.length e] 36)] w) ?_ ?_;refine Ja (Ba (Dc O) (Ba (Di O) (Ba (Dc O) ?_)));refine Sc (d:=12) O (λhg0=>?_) (λhg0=>?_);refine Ca (Ca (Ca (Ca (Ca (Ca (Ca (Ba (Rb O O) (Va ?_))))))));exact Ta ⟨(true),(by first|(rw[FM,Ot (b:=nodeB (.node k t ks xs)) (by assumption)];rfl)|(rw[FM,Zl (b:=nodeB (.node k t ks xs)) (by assumption)];show _ = !(true&&(h || decide (k≠7)));first|(rw[decide_eq_false (show ¬k≠7 by omega),Bool.or_false];rfl)|(rw[decide_eq_true (show k≠7 by omega),Bool.or_true];rfl))),Oi,hF⟩;refine Ba (Mb Xc O) (Xb (Zg xQ O hF.F 0 O O) (Ba (Of O O) (Ba (Dc O) ?_)));refine Bb (d:=16) O (λhg1=>?_) (λhg1=>?_);refine Ba (Dc O) (Ba (Di O) (Ba (Rb O O) (Ba (Pb O O) (Va ?_))));exact Ta ⟨(!(h)),(by first|(rw[FM,Ot (b:=nodeB (.node k t ks xs)) (by assumption)];rfl)|(rw[FM,Zl (b:=nodeB (.node k t ks xs)) (by assumption)];show _ = !(true&&(h || decide (k≠7)));first|(rw[decide_eq_false (show ¬k≠7 by omega),Bool.or_false];rfl)|(rw[decide_eq_true (show k≠7 by omega),Bool.or_true];rfl))),Oi,hF⟩;refine Ca (Ca (Ba (Pb O O) (Ba (Pb O O) (Va ?_))));exact Ta ⟨(false),(by first|(rw[FM,Ot (b:=nodeB (.node k t ks xs)) (by assumption)];rfl)|(rw[FM,Zl (b:=nodeB (.node k t ks xs)) (by assumption)];show _ = !(true&&(h || decide (k≠7)));first|(rw[decide_eq_false (show ¬k≠7 by omega),Bool.or_false];rfl)|(rw[decide_eq_true (show k≠7 by omega),Bool.or_true];rfl))),Oi,hF⟩
 rintro σ w ⟨bd,hbd,hs,hF⟩;refine Eg.slots hs ?_;clear hs;intro σ;refine Ha (Jd O O (λhc0=>?_) (λhc0=>?_));refine Ea (Ba (Kb O) (Da ?_));refine Gc (v:=.bool false) O O ⟨congrArg Value.bool ?_,hF.same⟩;have hn:FM h (.node k t ks xs)=false:=by rw[hbd]at hc0;simpa using hc0
 rw[KD,hn];rfl;refine Ka (Ha (Ga (Ea (Ba (Fb O) (Da (Qa ?_))))));refine Fc (λμ σ w=>∃(j:Nat),μ=xs.length-j/\(j<=xs.length)/\((xs.take j).all (Me (FM h))=true)/\AllEq σ [(1,.bool (h)),(2,V b1),(6,J ((j:Int)))]/\FR w0 [] [(b1,.cells #[J k,I t,.slice A ks.length c,.slice B xs.length e] 36)] w) _ ⟨0,O,(Nat.zero_le _),Oa,Oi,hF⟩ ?_;rintro μ σ w ⟨j,rfl,hj,ha,hs,hF⟩;refine Cg.slots hs ?_;clear hs;intro σ;refine Ga (Ea (Ba (Za O) (Ba (Mb Tb O) (Xb (Ie zQ O hF.F 0 O O) (Ba (Nf dX O) (Ba (Pg O O) (Da ?_)))))));refine Jb O O (λhc1=>?_) (λhc1=>?_);refine Ka (Ha (Ga (Qa (Ea (Ba (Mb Tb O) (Xb (Ie zQ O hF.F 0 O O) (Ba (Za O) ?_)))))));obtain⟨ad2,cs2,hA2,hl2,hk2,hx2⟩:=hX.tree_elem (i:=j) Aa;have ho2:=hx2.one_;refine Ia (v:=.pointer (some (ad2.add (j*4)))) (Na (i:=(j:Int)) Wf O hA2 O Aa Aa) (Ia (v:=.agg (List.toArray cs2)) (Wa (l:=cs2) aZ nZ O hl2 (hF.cells0 hk2)) (Ba (Dc O) ?_));refine Pa hF (ih _ (eQ _) (by have:=Lg (List.getElem_mem (l:=xs) (n:=j) Aa);omega) (by have:=Oj (List.getElem_mem (l:=xs) (n:=j) Aa);rw[Kd]at hm;omega) h _ _ _ (hF.rep hx2)) (Xa DR O O O) ?_;intro w hF;refine Ba (Kb O) (Lb (Ba (Dc O) (Ba (Di O) (Da ?_))));refine Jd O O (λhc2=>?_) (λhc2=>?_);refine Ea (Ba (Kb O) (Da ?_));refine Gc (v:=.bool false) O O ⟨congrArg Value.bool ?_,hF.same⟩;rw[KD,NX (f:=Me (FM h)) (l:=xs) (j:=j) Aa (Ot (by assumption)),Bool.and_false];refine Ka (Ya (Ha (Ja (Ba (Za O) (Ba (Bi (((j+1:Nat):Int)) O O) (Ba (Fb O) (Va ?_)))))));refine Ta ⟨_,?_,j+1,O,Aa,(all_next Aa ha (Zl (by assumption))),Oi,hF⟩;omega;refine Bc (Yb O ?_);refine Ha (Ea (Ba (Kb O) (Da ?_)));refine Gc (v:=.bool true) O O ⟨congrArg Value.bool ?_,hF.same⟩;have hn:FM h (.node k t ks xs)=true:=by rw[hbd]at hc0;simpa using hc0
 have hz:xs.all (Me (FM h))=true:=by rw[<-List.take_of_length_le (show xs.length<=j by omega)];exact ha
 rw[KD,hn,hz];rfl
theorem NC(x:Tree):OQ x:=Tree.ind TL x
theorem JG(x:Tree)(hsz:Nb x<=1000000000)(hm:Kd x<=1073741824)(S:Nat->Prop)(w0:World)(cs:List Value)(hR:Rep S w0 (Ob x) cs):Calls prog 71 #[.agg cs.toArray] w0 (Yc λv w'=>v=.bool (Pf x)/\Same [] w0 w'):=by
 have hl:cs.length=4:=hR.length.trans (Hc x);have ho:=hR.one_;refine Fa func71 O ntmps71 Ab (Wb _) ?_;have hF:=FR.start w0 [];refine Ea (Pl (v:=.agg (List.toArray cs)) (cs:=(List.toArray cs)) hF O O ?_);rintro b1 w hb1 hF -;refine Ba (Kb O) (Lb (Ia (v:=.agg (List.toArray cs)) (Wa (l:=cs) aZ nZ O hl (hF.cellsAll 0 O)) ?_));refine Pa hF (ZK x hsz _ _ cs (hF.rep hR)) (Ma KP O O) ?_;intro w hF;refine Ba (EB O O) (Ba (Dc O) ?_);refine Bb (d:=6) O (λhg0=>?_) (λhg0=>?_);refine Ia (v:=.agg (List.toArray cs)) (Wa (l:=cs) aZ nZ O hl (hF.cellsAll 0 O)) (Pa hF (UA x hsz _ _ cs (hF.rep hR)) (Ma LQ O O) ?_);intro w hF;refine Ba (EB O O) (Ba (Rb O O) (Ba (Dc O) ?_));refine Bb (d:=11) O (λhg1=>?_) (λhg1=>?_);refine Ia (v:=.agg (List.toArray cs)) (Wa (l:=cs) aZ nZ O hl (hF.cellsAll 0 O)) ?_;refine Pa hF ((by have h:=NC x hsz hm false _ _ cs (hF.rep hR);rw[hn_false]at h;exact h)) (Xa DR O O O) ?_;intro w hF;refine Ba (Rb O O) (Ba (Kb O) (Da ?_));refine Gc (v:=.bool _) O O ⟨congrArg Value.bool ?_,hF.same⟩;unfold Pf Km
 ·first|(rw[decide_eq_false (show ¬Nb x<=4096 by omega)];simp;done)|(rw[decide_eq_false (show ¬Vc x<=32 by omega)];simp;done)|(rw[decide_eq_true (show Nb x<=4096 by omega),decide_eq_true (show Vc x<=32 by omega)];simp;done)|simp_all
 refine Ca (Ca (Ba (Pb O O) (Ba (Kb O) (Da ?_))));refine Gc (v:=.bool false) O O ⟨congrArg Value.bool ?_,hF.same⟩;unfold Pf Km
 ·first|(rw[decide_eq_false (show ¬Nb x<=4096 by omega)];simp;done)|(rw[decide_eq_false (show ¬Vc x<=32 by omega)];simp;done)|(rw[decide_eq_true (show Nb x<=4096 by omega),decide_eq_true (show Vc x<=32 by omega)];simp;done)|simp_all
 refine Ca (Ca (Ca (Ba (Pb O O) (Ba (Dc O) (Ca (Ca (Ba (Pb O O) (Ba (Kb O) (Da ?_)))))))));refine Gc (v:=.bool false) O O ⟨congrArg Value.bool ?_,hF.same⟩;unfold Pf Km
 ·first|(rw[decide_eq_false (show ¬Nb x<=4096 by omega)];simp;done)|(rw[decide_eq_false (show ¬Vc x<=32 by omega)];simp;done)|(rw[decide_eq_true (show Nb x<=4096 by omega),decide_eq_true (show Vc x<=32 by omega)];simp;done)|simp_all
theorem FG(x:Tree)(hsz:Nb x<=1000000000)(hm:Kd x<=1073741824)(S:Nat->Prop)(w0:World)(cs:List Value)(hR:Rep S w0 (Ob x) cs):Calls prog 84 #[.agg cs.toArray] w0 (Yc λv w'=>v=.bool (Qg x)/\Same [] w0 w'):=by
 have hl:cs.length=4:=hR.length.trans (Hc x);have ho:=hR.one_;refine Fa func84 O ntmps84 Ab (Wb _) ?_;have hF:=FR.start w0 [];refine Ea (Pl (v:=.agg (List.toArray cs)) (cs:=(List.toArray cs)) hF O O ?_);rintro b1 w hb1 hF -;refine Ba (Kb O) (Lb (Ia (v:=.agg (List.toArray cs)) (Wa (l:=cs) aZ nZ O hl (hF.cellsAll 0 O)) ?_));refine Pa hF (ZK x hsz _ _ cs (hF.rep hR)) (Ma KP O O) ?_;intro w hF;refine Ba (EB O O) (Ba (Dc O) ?_);refine Bb (d:=6) O (λhg0=>?_) (λhg0=>?_);refine Ia (v:=.agg (List.toArray cs)) (Wa (l:=cs) aZ nZ O hl (hF.cellsAll 0 O)) (Pa hF (UA x hsz _ _ cs (hF.rep hR)) (Ma LQ O O) ?_);intro w hF;refine Ba (EB O O) (Ba (Rb O O) (Ba (Dc O) ?_));refine Bb (d:=11) O (λhg1=>?_) (λhg1=>?_);refine Ia (v:=.agg (List.toArray cs)) (Wa (l:=cs) aZ nZ O hl (hF.cellsAll 0 O)) ?_;refine Pa hF ((by have h:=NC x hsz hm true _ _ cs (hF.rep hR);rw[hn_true]at h;exact h)) (Xa DR O O O) ?_;intro w hF;refine Ba (Rb O O) (Ba (Kb O) (Da ?_));refine Gc (v:=.bool _) O O ⟨congrArg Value.bool ?_,hF.same⟩;unfold Qg Km
 ·first|(rw[decide_eq_false (show ¬Nb x<=4096 by omega)];simp;done)|(rw[decide_eq_false (show ¬Vc x<=32 by omega)];simp;done)|(rw[decide_eq_true (show Nb x<=4096 by omega),decide_eq_true (show Vc x<=32 by omega)];simp;done)|simp_all
 refine Ca (Ca (Ba (Pb O O) (Ba (Kb O) (Da ?_))));refine Gc (v:=.bool false) O O ⟨congrArg Value.bool ?_,hF.same⟩;unfold Qg Km
 ·first|(rw[decide_eq_false (show ¬Nb x<=4096 by omega)];simp;done)|(rw[decide_eq_false (show ¬Vc x<=32 by omega)];simp;done)|(rw[decide_eq_true (show Nb x<=4096 by omega),decide_eq_true (show Vc x<=32 by omega)];simp;done)|simp_all
 refine Ca (Ca (Ca (Ba (Pb O O) (Ba (Dc O) (Ca (Ca (Ba (Pb O O) (Ba (Kb O) (Da ?_)))))))));refine Gc (v:=.bool false) O O ⟨congrArg Value.bool ?_,hF.same⟩;unfold Qg Km
 ·first|(rw[decide_eq_false (show ¬Nb x<=4096 by omega)];simp;done)|(rw[decide_eq_false (show ¬Vc x<=32 by omega)];simp;done)|(rw[decide_eq_true (show Nb x<=4096 by omega),decide_eq_true (show Vc x<=32 by omega)];simp;done)|simp_all
def atZ(ks:List Str)(key:Str):Int:=if key∈ks then ((ks.idxOf key:Nat):Int) else -1
theorem YY:∀{ks:List Str}{key:Str}{j:Nat}(h:j<ks.length),(∀x∈ks.take j,x≠key)->ks[j]=key->ks.idxOf key=j
  | k :: ks, key, 0, _, _, he => by
    have he':k=key:=he;rw[List.idxOf_cons,he'];simp
  | k :: ks, key, j + 1, h, hn, he => by
    have h0:k≠key:=hn k Oa;rw[List.idxOf_cons];have hb:(k==key)=false:=by simpa using h0
    rw[hb];simp only[cond_false];rw[YY (ks:=ks) (j:=j) (by simpa using h) (λx hx=>hn x (by simp[hx])) (by simpa using he)]
theorem EZ{ks:List Str}{key:Str}{j:Nat}(h:j<ks.length)(hn:∀x∈ks.take j,x≠key)(he:ks[j]=key):atZ ks key=(j:Int):=by
  rw[atZ,if_pos (by rw[<-he];exact eQ h),YY h hn he]
theorem at_none{ks:List Str}{key:Str}(hn:∀x∈ks,x≠key):atZ ks key = -1:=by
  rw[atZ,if_neg (λh=>hn key h rfl)]
theorem no_next{ks:List Str}{key:Str}{j:Nat}(h:j<ks.length)(hn:∀x∈ks.take j,x≠key)(he:ks[j]≠key):∀x∈ks.take (j+1),x≠key:=by
  rw[iQ h];intro x hx;rcases mQ.1 hx with hx|hx
  ·exact hn x hx
  rw[pQ.1 hx];exact he
theorem at_c(k:Int)(t:Str)(ks:List Str)(xs:List Tree)(key:Str)(S:Nat->Prop)(w0:World)(cs:List Value)(hR:Rep S w0 (Ob (.node k t ks xs)) cs):Calls prog 143 #[.agg cs.toArray,I key] w0 (Yc λv w'=>v=J (atZ ks key)/\Same [] w0 w'):=by
 obtain⟨A,c,B,e,rfl,-,-,hK,hX⟩:=hR.tree_inv;have hKl:=hK.slice_len;refine Fa func143 O ntmps143 Ab (Uc _ _) ?_;have hF:=FR.start w0 [];refine Ea (Ce hF O ?_);rintro b1 w hb1 hF -;refine Ba (Fb O) (Da (Ga (Ea (Ba (Fb O) (Da (Qa ?_))))));refine Fc (λμ σ w=>∃(j:Nat),μ=ks.length-j/\(j<=ks.length)/\(∀x∈ks.take j,x≠key)/\AllEq σ [(1,I key),(2,V b1),(5,J ((j:Int)))]/\FR w0 [] [(b1,.cells #[J k,I t,.slice A ks.length c,.slice B xs.length e] 36)] w) _ ⟨0,O,(Nat.zero_le _),Oa,Oi,hF⟩ ?_;rintro μ σ w ⟨j,rfl,hj,hno,hs,hF⟩;refine Cg.slots hs ?_;clear hs;intro σ;refine Ga (Ea (Ba (Za O) (Ba (Mb Tc O) (Xb (Ie yQ O hF.F 0 O O) (Ba (Nf cX O) (Ba (Pg O O) (Da ?_)))))));refine Jb O O (λhc0=>?_) (λhc0=>?_);refine Ka (Ha (Ga (Qa (Ea (Ba (Mb Tc O) (Xb (Ie yQ O hF.F 0 O O) (Ba (Za O) ?_)))))));obtain⟨ad0,hA0,hk0,hx0⟩:=hK.str_elem (i:=j) Aa;refine Ia (v:=.pointer (some (ad0.add (j*1)))) (Na (i:=(j:Int)) Pk O hA0 O Aa Aa) (Ia (v:=I (ks[j])) (Nc iZ O (hF.cell0 hk0)) (Ba (Ad O) (Ba (Ry O O) (Da ?_))));refine Jb O O (λhc1=>?_) (λhc1=>?_);refine Ea (Ba (Za O) (Ba (Fb O) (Da ?_)));refine Gc (v:=J ((j:Int))) O O ?_;exact⟨by rw[EZ Aa hno (by assumption)],hF.same⟩;refine Ka (Ya (Ha (Ja (Ba (Za O) (Ba (Bi (((j+1:Nat):Int)) O O) (Ba (Fb O) (Va ?_)))))));refine Ta ⟨_,?_,j+1,O,Aa,(no_next Aa hno (by assumption)),Oi,hF⟩;omega;refine Bc (Yb O ?_);refine Ha (Ea (Ba (Fb O) (Da ?_)));refine Gc (v:=J ((-1))) O O ?_;exact⟨by rw[at_none (by rw[List.take_of_length_le Aa]at hno;exact hno)],hF.same⟩
end Go.Scarf
