/- A part of the proof. -/
import Derived.Test.YtbhneplafiapdaaGreatDoorE4
set_option linter.all false
set_option maxHeartbeats 8000000
set_option maxRecDepth 10000
namespace Go.Scarf
open Go.RowKit Go.Proofs Go.Proofs.Tryz
def FC(x:Tree):Prop:=Ub x<=1000000000->∀S w0 cs,Rep S w0 (Fc x) cs->Calls prog 51 #[.agg cs.toArray] w0 (Vd λv w'=>v=J (Ub x:Nat)/\Same [] w0 w')
def M6(x:Tree):Prop:=Ub x<=1000000000->∀S w0 cs,Rep S w0 (Fc x) cs->Calls prog 52 #[.agg cs.toArray] w0 (Vd λv w'=>v=J (Be x:Nat)/\Same [] w0 w')
def Yx(h:Bool)(x:Tree):Bool:=nodeB x&&(h || decide (x.kind≠7))
theorem AL:Yx false=rnodeB:=by funext x;simp[Yx,rnodeB,Bool.and_comm]
def KC(x:Tree):Prop:=Ub x<=1000000000->He x<=1073741824->∀(h:Bool) S w0 cs,Rep S w0 (Fc x) cs->Calls prog 53 #[.agg cs.toArray,.bool h] w0 (Vd λv w'=>v=.bool (Me (Yx h) x)/\Same [] w0 w')
theorem Hq:∀(xs:List Tree)(j:Nat),Ob (xs.take j)<=Ob xs
  | [],j=>by simp
  | x::xs,0=>by simp[Ob]
  | x :: xs, j + 1 => by
    have:=Hq xs j;rw[List.take_succ_cons,Ob,Ob];omega
theorem OA(k:Int)(t:Str)(ks:List Str)(xs:List Tree)(ih:∀x,x∈xs->FC x):FC (.node k t ks xs):=by
 intro hsz S w0 cs hR;obtain⟨A,c,B,e,rfl,-,-,-,hX⟩:=hR.tree_inv;have hXl:=hX.slice_len;have hdl:=Zs xs;rw[Ub]at hsz;refine Ka func51 O ntmps51 Mb (Jc _) ?_;have hF:=FR.start w0 [];refine Ia (Xf hF O ?_);rintro b1 w hb1 hF -;refine Ca (Bc O) (Ec (Ca (Bc O) (Fa (Ha (Ia (Ca (Bc O) (Fa ?_)))))));refine Sa (Gc (λμ σ w=>∃(j:Nat),μ=xs.length-j/\(j<=xs.length)/\AllEq σ [(1,V b1),(3,J (((1+Ob (xs.take j):Nat):Int))),(4,J ((j:Int)))]/\FR w0 [] [(b1,.cells #[J k,I t,.slice A ks.length c,.slice B xs.length e] 27)] w) _ ⟨0,O,(Nat.zero_le _),Mk,hF⟩ ?_);rintro μ σ w ⟨j,rfl,hj,hs,hF⟩;refine Cg.slots hs ?_;clear hs;intro σ;refine Ha (Ia (Ca (Db O) (Ca (Cd Rc O) (Ed (Mh wQ O hF.F 0 O O) (Ca (Rf qZ O) (Ca (Tg O O) (Fa ?_)))))));refine Wb O O (λhc0=>?_) (λhc0=>?_);refine Ma (Ga (Ha (Sa (Ea (Ca (Db O) (Ca (Cd Rc O) (Ed (Mh wQ O hF.F 0 O O) (Ca (Db O) ?_))))))));obtain⟨ad0,cs0,hA0,hl0,hk0,hx0⟩:=hX.tree_elem (i:=j) U;have ho0:=hx0.one_;refine Ja (v:=.pointer (some (ad0.add (j*4)))) (Qa (i:=(j:Int)) Zh O hA0 O U U) (Ja (v:=.agg (List.toArray cs0)) (Hb (l:=cs0) xQ fZ O hl0 (hF.cells0 hk0)) ?_);refine Ta hF (ih _ (eQ _) (by have:=Ef (List.getElem_mem (l:=xs) (n:=j) U);omega) _ _ _ (hF.rep hx0)) (Va qQq O O) ?_;intro w hF;refine Ja (v:=J (((1+Ob (xs.take (j+1)):Nat):Int))) (Lr O O (by have h1:=Nx xs j U;have h2:=Ef (List.getElem_mem (l:=xs) (n:=j) U);have h3:=Hq xs (j+1);exact Qf (by rw[h1];omega) U U)) ?_;refine Ca (Bc O) (Ra (Ib (Ga (Ea (Ca (Db O) (Ca (Uk (((j+1:Nat):Int)) O O) (Ca (Bc O) (Ra ?_))))))));refine Za ⟨_,?_,j+1,O,U,Mk,hF⟩;omega;refine Zb (Vb O ?_);refine Ga (Ia ?_);have eT:xs.take j=xs:=List.take_of_length_le U;refine Ca (Db O) (Ca (Bc O) (Fa ?_));refine Gb (Fb (Pa (Gr (v:=J (((1+Ob (xs.take j):Nat):Int))) O O) ?_));exact⟨by rw[eT,Ub],hF.same⟩
theorem CK(x:Tree):FC x:=Tree.ind OA x
theorem K7(k:Int)(t:Str)(ks:List Str)(xs:List Tree)(ih:∀x,x∈xs->M6 x):M6 (.node k t ks xs):=by
 intro hsz S w0 cs hR;obtain⟨A,c,B,e,rfl,-,-,-,hX⟩:=hR.tree_inv;have hXl:=hX.slice_len;have hdl:=Zs xs;rw[Ub]at hsz;refine Ka func52 O ntmps52 Mb (Jc _) ?_;have hF:=FR.start w0 [];refine Ia (Xf hF O ?_);rintro b1 w hb1 hF -;refine Ca (Bc O) (Ec (Ca (Bc O) (Fa (Ha (Ia (Ca (Bc O) (Fa ?_)))))));refine Sa (Gc (λμ σ w=>∃(j:Nat),μ=xs.length-j/\(j<=xs.length)/\AllEq σ [(1,V b1),(3,J ((Fd (xs.take j):Nat))),(4,J ((j:Int)))]/\FR w0 [] [(b1,.cells #[J k,I t,.slice A ks.length c,.slice B xs.length e] 27)] w) _ ⟨0,O,(Nat.zero_le _),Mk,hF⟩ ?_);rintro μ σ w ⟨j,rfl,hj,hs,hF⟩;refine Cg.slots hs ?_;clear hs;intro σ;refine Ha (Ia (Ca (Db O) (Ca (Cd Rc O) (Ed (Mh wQ O hF.F 0 O O) (Ca (Rf qZ O) (Ca (Tg O O) (Fa ?_)))))));refine Wb O O (λhc0=>?_) (λhc0=>?_);refine Ma (Ga (Ha (Sa (Ea (Ca (Db O) (Ca (Cd Rc O) (Ed (Mh wQ O hF.F 0 O O) (Ca (Db O) ?_))))))));obtain⟨ad0,cs0,hA0,hl0,hk0,hx0⟩:=hX.tree_elem (i:=j) U;have ho0:=hx0.one_;refine Ja (v:=.pointer (some (ad0.add (j*4)))) (Qa (i:=(j:Int)) Zh O hA0 O U U) (Ja (v:=.agg (List.toArray cs0)) (Hb (l:=cs0) xQ fZ O hl0 (hF.cells0 hk0)) ?_);refine Ta hF (ih _ (eQ _) (by have:=Ef (List.getElem_mem (l:=xs) (n:=j) U);omega) _ _ _ (hF.rep hx0)) (Va MR O O) ?_;intro w hF;refine Ja (v:=J ((Fd (xs.take (j+1)):Nat))) (by rw[<-show max ((Fd (xs.take j):Nat):Int) ((Be xs[j]:Nat):Int)=((Fd (xs.take (j+1)):Nat):Int) from by rw[St xs j U];omega];exact PS O O) ?_;refine Ca (Bc O) (Ra (Ib (Ga (Ea (Ca (Db O) (Ca (Uk (((j+1:Nat):Int)) O O) (Ca (Bc O) (Ra ?_))))))));refine Za ⟨_,?_,j+1,O,U,Mk,hF⟩;omega;refine Zb (Vb O ?_);refine Ga (Ia (Ca (Db O) ?_));have eT:xs.take j=xs:=List.take_of_length_le U;refine Ja (v:=J ((Be (.node k t ks xs):Nat))) (Lr O O (by rw[eT,Be];exact Qf U U U)) ?_;refine Ca (Bc O) (Fa ?_);refine Tc (v:=J ((Be (.node k t ks xs):Nat))) O O ?_
 exact⟨O,hF.same⟩
theorem KH(x:Tree):M6 x:=Tree.ind K7 x
theorem Ie{b:Bool}(h:(!b)=false):b=true:=by simpa using h
theorem Kh{b:Bool}(h:(!b)=true):b=false:=by simpa using h
theorem L0{t:Str}{ks:List Str}{xs:List Tree}:nodeB (.node 6 t ks xs)=(Ym ks xs.length&&decide (t=[])):=by simp only[nodeB];rfl
theorem FP{t:Str}{ks:List Str}{xs:List Tree}{i:Nat}(h:i<ks.length)(hv:Lib.validD ks[i]=false):nodeB (.node 6 t ks xs)=false:=by
  rw[L0,Ym,UD h hv];simp
theorem BR{t:Str}{ks:List Str}{xs:List Tree}{i m:Nat}(h:i<ks.length)(hm:m<i)(he:ks[m]=ks[i]):nodeB (.node 6 t ks xs)=false:=by
  have:¬ks.Nodup:=Ho h (by rw[<-he];exact List.mem_take_iff_getElem.2 ⟨m,by omega,rfl⟩);rw[L0,Ym,decide_eq_false this];simp
theorem KE{t:Str}{ks:List Str}{xs:List Tree}(hn:ks.Nodup)(hv:ks.all Lib.validD=true):nodeB (.node 6 t ks xs)=(decide (t=[])&&decide (((ks.length:Nat):Int)=((xs.length:Nat):Int))):=by
  rw[L0,Ym,decide_eq_true hn,hv,Bool.true_and,Bool.true_and,Bool.and_comm]
theorem UN{k:Int}{t:Str}{ks:List Str}{xs:List Tree}(h1:¬k=1)(h2:¬k=2)(h3:¬k=3)(h4:¬k=4)(h5:¬k=5)(h6:¬k=6)(h7:¬k=7):nodeB (.node k t ks xs)=false:=by
  simp[nodeB,h1,h2,h3,h4,h5,h6,h7]
theorem Uv{k:Int}{t:Str}{ks:List Str}{xs:List Tree}(h:k≠6)(hk:(0:Int)<((ks.length:Nat):Int)):nodeB (.node k t ks xs)=false:=by
  have h1:ks≠[]:=by rintro rfl;simp at hk
  by_cases h5:k=5 <;> simp[nodeB,h,h5,h1]
theorem Fs{k:Int}{t:Str}{ks:List Str}{xs:List Tree}(h:k≠6)(h5:k≠5)(hk:(0:Int)<((xs.length:Nat):Int)):nodeB (.node k t ks xs)=false:=by
  have h1:xs≠[]:=by rintro rfl;simp at hk
  simp[nodeB,h,h5,h1]
theorem nd1{k:Int}{t:Str}{ks:List Str}{xs:List Tree}(h:k=1)(hk:ks=[])(hx:xs=[]):nodeB (.node k t ks xs)=decide (t=[]):=by subst h hk hx;simp[nodeB]
theorem nd5{k:Int}{t:Str}{ks:List Str}{xs:List Tree}(h:k=5)(hk:ks=[]):nodeB (.node k t ks xs)=decide (t=[]):=by subst h hk;simp[nodeB]
theorem nd2{k:Int}{t:Str}{ks:List Str}{xs:List Tree}(h:k=2)(hk:ks=[])(hx:xs=[]):nodeB (.node k t ks xs)=(decide (t=[116,114,117,101]) || decide (t=[102,97,108,115,101])):=by subst h hk hx;simp[nodeB]
theorem nd3{k:Int}{t:Str}{ks:List Str}{xs:List Tree}(h:k=3)(hk:ks=[])(hx:xs=[]):nodeB (.node k t ks xs)=Oh t:=by subst h hk hx;simp[nodeB]
theorem nd4{k:Int}{t:Str}{ks:List Str}{xs:List Tree}(h:k=4)(hk:ks=[])(hx:xs=[]):nodeB (.node k t ks xs)=Lib.validD t:=by subst h hk hx;simp[nodeB]
theorem nd7{k:Int}{t:Str}{ks:List Str}{xs:List Tree}(h:k=7)(hk:ks=[])(hx:xs=[]):nodeB (.node k t ks xs)=Hp t:=by subst h hk hx;simp[nodeB]
theorem DA{t:Str}(h1:Oh t=true)(h2:(Tp (Dd t).1).2=true):Hp t=decide (0<=(Tp (Dd t).1).1):=by rw[Hp,h1,h2];rfl
theorem X4{t:Str}(h1:Oh t=false):Hp t=false:=by rw[Hp,h1];rfl
theorem X5{t:Str}(h2:(Tp (Dd t).1).2=false):Hp t=false:=by rw[Hp,h2,Bool.and_false];rfl
theorem Cv{ks:List Str}(h:¬(0:Int)<((ks.length:Nat):Int)):ks=[]:=List.eq_nil_of_length_eq_zero U
theorem Uu{xs:List Tree}(h:¬(0:Int)<((xs.length:Nat):Int)):xs=[]:=List.eq_nil_of_length_eq_zero U
theorem EN(k:Int)(t:Str)(ks:List Str)(xs:List Tree)(S:Nat->Prop)(w0:World)(cs:List Value)(hR:Rep S w0 (Fc (.node k t ks xs)) cs)(hm:He (.node k t ks xs)<=1073741824):Calls prog 77 #[.agg cs.toArray] w0 (Vd λv w'=>v=.bool (nodeB (.node k t ks xs))/\Same [] w0 w'):=by
 obtain⟨A,c,B,e,rfl,-,-,hK,hX⟩:=hR.tree_inv;have hKl:=hK.slice_len;have hXl:=hX.slice_len;rw[He]at hm;have hkm:∀q (h:q<ks.length),ks[q].length<=1073741824:=λq h=>fQ (Yn (eQ h)) U;refine Ka func77 O ntmps77 Mb (Jc _) ?_;have hF:=FR.start w0 [];refine Ia (Xf hF O ?_);rintro b1 w hb1 hF -;refine Ca (Eb O) (Fa (Ha ?_));refine Ce (λσ w=>(k≠6->ks=[])/\(k≠6->k≠5->xs=[])/\AllEq σ [(1,V b1)]/\FR w0 [] [(b1,.cells #[J k,I t,.slice A ks.length c,.slice B xs.length e] 27)] w) ?_ ?_
 ·
  refine Ia (Ca (Cd Pf O) (Ed (Jq yQ O hF.F 0 O O) (Ca (Ep O O) (Ca (Xb O) ?_))));refine Xa (d:=15) O (λhg0=>?_) (λhg0=>?_)
  ·
   refine Ca (Cd Pe O) (Ed (Mh vQ O hF.F 0 O O) (Ca (Rf pZ O) (Ca (Jo O O) (Ca (Rb O O) (Ca (Xb O) ?_)))));refine Xa (d:=21) O (λhg1=>?_) (λhg1=>?_)
   ·
    refine Da (Da (Da (Da (Da (Da (Da (Da (Da (Da (Da (Da (Da (Da ?_)))))))))))));refine Ca (Rb O O) (Fa (Od O (Ia (Ca (Eb O) (Fa ?_)))));refine Tc (v:=.bool false) O O ⟨congrArg Value.bool ?_,hF.same⟩
    first|exact (Uv U (by assumption)).symm|exact (Fs U U (by assumption)).symm
   refine Ca (Cd Pf O) (Ed (Jq yQ O hF.F 0 O O) (Ca (Ep O O) (Ca (Xb O) ?_)));refine Xa (d:=25) O (λhg2=>?_) (λhg2=>?_)
   ·
    refine Ca (Cd Pf O) (Ed (Jq yQ O hF.F 0 O O) (Ca (Ep O O) (Ca (Rb O O) (Ca (Xb O) ?_))));refine Xa (d:=30) O (λhg3=>?_) (λhg3=>?_)
    ·
     refine Ca (Cd Rc O) (Ed (Mh wQ O hF.F 0 O O) (Ca (Rf qZ O) (Ca (Jo O O) (Ca (Rb O O) (Ca (Jb O O) (Fa ?_))))));refine Wb O O (λhc0=>?_) (λhc0=>?_)
     ·
      refine Ia (Ca (Eb O) (Fa ?_));refine Tc (v:=.bool false) O O ⟨congrArg Value.bool ?_,hF.same⟩
      first|exact (Uv U (by assumption)).symm|exact (Fs U U (by assumption)).symm
     refine Ma ?_;exact Za ⟨(by intro h;first|exact Cv U|(exfalso;omega)),(by intro h h5;first|exact Uu U|(exfalso;omega)),SI,hF⟩
    refine Da (Da (Da (Da (Ca (Jb O O) (Ca (Jb O O) (Fa (If O (Ma ?_))))))));exact Za ⟨(by intro h;first|exact Cv U|(exfalso;omega)),(by intro h h5;first|exact Uu U|(exfalso;omega)),SI,hF⟩
   refine Da (Da (Da (Ca (Jb O O) (Ca (Xb O) (Da (Da (Da (Da (Ca (Jb O O) (Ca (Jb O O) (Fa (If O ?_))))))))))));refine Ma ?_;exact Za ⟨(by intro h;first|exact Cv U|(exfalso;omega)),(by intro h h5;first|exact Uu U|(exfalso;omega)),SI,hF⟩
  refine Da (Da (Da (Da (Ca (Jb O O) (Ca (Xb O) (Ca (Cd Pf O) (Ed (Jq yQ O hF.F 0 O O) (Ca (Ep O O) (Ca (Xb O) ?_)))))))));refine Xa (d:=25) O (λhg4=>?_) (λhg4=>?_)
  ·
   refine Ca (Cd Pf O) (Ed (Jq yQ O hF.F 0 O O) (Ca (Ep O O) (Ca (Rb O O) (Ca (Xb O) ?_))));refine Xa (d:=30) O (λhg5=>?_) (λhg5=>?_)
   ·
    refine Ca (Cd Rc O) (Ed (Mh wQ O hF.F 0 O O) (Ca (Rf qZ O) (Ca (Jo O O) (Ca (Rb O O) (Ca (Jb O O) (Fa ?_))))));refine Wb O O (λhc0=>?_) (λhc0=>?_)
    ·
     refine Ia (Ca (Eb O) (Fa ?_));refine Tc (v:=.bool false) O O ⟨congrArg Value.bool ?_,hF.same⟩
     first|exact (Uv U (by assumption)).symm|exact (Fs U U (by assumption)).symm
    refine Ma ?_;exact Za ⟨(by intro h;first|exact Cv U|(exfalso;omega)),(by intro h h5;first|exact Uu U|(exfalso;omega)),SI,hF⟩
   refine Da (Da (Da (Da (Ca (Jb O O) (Ca (Jb O O) (Fa (If O (Ma ?_))))))));exact Za ⟨(by intro h;first|exact Cv U|(exfalso;omega)),(by intro h h5;first|exact Uu U|(exfalso;omega)),SI,hF⟩
  refine Da (Da (Da (Ca (Jb O O) (Ca (Xb O) (Da (Da (Da (Da (Ca (Jb O O) (Ca (Jb O O) (Fa (If O ?_))))))))))));refine Ma ?_;exact Za ⟨(by intro h;first|exact Cv U|(exfalso;omega)),(by intro h h5;first|exact Uu U|(exfalso;omega)),SI,hF⟩
 rintro σ w ⟨hk0,hx0,hs,hF⟩;refine Eg.slots hs ?_;clear hs;intro σ;refine Ga (Ha (Ia (Ca (Cd Pf O) (Ed (Jq yQ O hF.F 0 O O) (Fa (Sa (Ha (Ia (Ca (Jj O O) (Ca (Eb O) ?_))))))))));refine Fa (Wb O O (λhc1=>?_) (λhc1=>?_))
 ·
  refine Ma (Ga (Od O (Ia (Ca (Cd Le O) (Ed (Em dZ O hF.F 0 O O) (Ca (Rx O O) (Ca (Eb O) (Fa ?_))))))));refine Tc (v:=.bool _) O O ⟨congrArg Value.bool ?_,hF.same⟩
  first|(exfalso;omega)|exact (nd5 U (hk0 U)).symm|exact (nd1 U (hk0 U) (hx0 U U)).symm
 refine Ea (Ca (Jj O O) (Ca (Eb O) (Fa ?_)));refine Wb O O (λhc2=>?_) (λhc2=>?_)
 ·
  refine Ia (Ca (Cd Le O) (Ed (Em dZ O hF.F 0 O O) (Ca (Rx O O) (Ca (Eb O) (Fa ?_)))));refine Tc (v:=.bool _) O O ⟨congrArg Value.bool ?_,hF.same⟩
  first|(exfalso;omega)|exact (nd5 U (hk0 U)).symm|exact (nd1 U (hk0 U) (hx0 U U)).symm
 refine Ia (Ca (Jj O O) (Ca (Eb O) (Fa ?_)));refine Wb O O (λhc3=>?_) (λhc3=>?_)
 ·
  refine Ia (Ca (Cd Le O) (Ed (Em dZ O hF.F 0 O O) (Ca (Rx O O) (Ca (Xb O) ?_))));refine Xa (d:=50) O (λhg6=>?_) (λhg6=>?_)
  ·
   refine Da (Da (Da (Ca (Rb O O) (Ca (Eb O) (Fa ?_)))));refine Tc (v:=.bool true) O O ⟨congrArg Value.bool ?_,hF.same⟩
   first|(exfalso;omega)|rw[nd2 U (hk0 U) (hx0 U U)]
   all_goals first|(rw[decide_eq_true (show t=[116,114,117,101] by assumption)];rfl)|(rw[decide_eq_false (show ¬t=[116,114,117,101] by assumption)];rfl)
  refine Ca (Cd Le O) (Ed (Em dZ O hF.F 0 O O) (Ca (Rx O O) (Ca (Jb O O) (Ca (Eb O) (Fa ?_)))));refine Tc (v:=.bool _) O O ⟨congrArg Value.bool ?_,hF.same⟩
  first|(exfalso;omega)|rw[nd2 U (hk0 U) (hx0 U U)]
  all_goals first|(rw[decide_eq_true (show t=[116,114,117,101] by assumption)];rfl)|(rw[decide_eq_false (show ¬t=[116,114,117,101] by assumption)];rfl)
 refine Ia (Ca (Jj O O) (Ca (Eb O) (Fa ?_)));refine Wb O O (λhc4=>?_) (λhc4=>?_)
 ·
  refine Ia (Ca (Cd Le O) (Ed (Em dZ O hF.F 0 O O) ?_));refine Ta hF (L1 t U _) (Va KL O O) ?_;intro w hF;refine Ca (Tq O) (Ca (J_ O O) (Ca (Qp O O) ?_));refine Vl hF yZ jZ O ?_;rintro b2 w hb2 hF -;refine Ca (Eb O) (Ec (Ca (Xb O) (Ca (Eb O) (Fa ?_))));refine Tc (v:=.bool _) O O ⟨congrArg Value.bool ?_,hF.same⟩
  first|(exfalso;omega)|exact (nd3 U (hk0 U) (hx0 U U)).symm
 refine Ia (Ca (Jj O O) (Ca (Eb O) (Fa ?_)));refine Wb O O (λhc5=>?_) (λhc5=>?_)
 ·
  refine Ia (Ca (Cd Le O) (Ed (Em dZ O hF.F 0 O O) ?_));refine Ta hF (PR t U _) (Va OI O O) ?_;intro w hF;refine Ca (Eb O) (Fa ?_);refine Tc (v:=.bool _) O O ⟨congrArg Value.bool ?_,hF.same⟩
  first|(exfalso;omega)|exact (nd4 U (hk0 U) (hx0 U U)).symm
 refine Ia (Ca (Jj O O) (Ca (Eb O) (Fa ?_)));refine Wb O O (λhc6=>?_) (λhc6=>?_)
 ·
  refine Ia (Ca (Cd Le O) (Ed (Em dZ O hF.F 0 O O) ?_));refine Ta hF (L1 t U _) (Va KL O O) ?_;intro w hF;refine Ca (Tq O) (Ca (J_ O O) (Ca (Qp O O) ?_));refine Vl hF yZ jZ O ?_;rintro b3 w hb3 hF -;refine Ca (Eb O) (Ec (Ed (Ej aZ jZ O hF.F 0 O O) ?_));refine Ta hF (TU (Dd t).1 (by have:=Ml t;omega) _) (Va DW O O) ?_;intro w hF;refine Ca (Tq O) (Ca (Hr O O) (Ca (Qp O O) (Ca (Bc O) (Ca (Eb O) (Ec (Ca (Xb O) (Ca (Xb O) ?_)))))));refine Uc (d:=83) O (λhg7=>?_) (λhg7=>?_)
  ·
   refine Ca (Xb O) (Ca (Rb O O) (Ca (Xb O) ?_));refine Uc (d:=86) O (λhg8=>?_) (λhg8=>?_)
   ·
    refine Ca (Db O) (Ca (Gt O O) (Ca (Rb O O) (Ca (Eb O) (Fa ?_))));refine Tc (v:=.bool _) O O ⟨congrArg Value.bool ?_,hF.same⟩
    first|(exfalso;omega)|rw[nd7 U (hk0 U) (hx0 U U)]
    all_goals first|exact (X4 (by assumption)).symm|exact (X5 (by assumption)).symm|exact (DA (by assumption) (by assumption)).symm
   refine Da (Da (Ca (Jb O O) (Ca (Eb O) (Fa ?_))));refine Tc (v:=.bool false) O O ⟨congrArg Value.bool ?_,hF.same⟩
   first|(exfalso;omega)|rw[nd7 U (hk0 U) (hx0 U U)]
   all_goals first|exact (X4 (by assumption)).symm|exact (X5 (by assumption)).symm|exact (DA (by assumption) (by assumption)).symm
  refine Da (Ca (Jb O O) (Ca (Xb O) (Da (Da (Ca (Jb O O) (Ca (Eb O) (Fa ?_)))))));refine Tc (v:=.bool false) O O ⟨congrArg Value.bool ?_,hF.same⟩
  first|(exfalso;omega)|rw[nd7 U (hk0 U) (hx0 U U)]
  all_goals first|exact (X4 (by assumption)).symm|exact (X5 (by assumption)).symm|exact (DA (by assumption) (by assumption)).symm
 refine Ia (Ca (Jj O O) (Ca (Eb O) (Fa ?_)));refine Wb O O (λhc7=>?_) (λhc7=>?_)
 ·
  refine Ha (Ia (Ca (Bc O) (Fa (Sa ?_))));refine Gc (λμ σ w=>∃(i:Nat),μ=ks.length-i/\(i<=ks.length)/\((ks.take i).all Lib.validD=true)/\((ks.take i).Nodup)/\AllEq σ [(1,V b1),(9,J ((i:Int)))]/\FR w0 [] [(b1,.cells #[J k,I t,.slice A ks.length c,.slice B xs.length e] 27)] w) _ ⟨0,O,(Nat.zero_le _),Ua,Ua,Ms,hF⟩ ?_;rintro μ σ w ⟨i,rfl,hi,hva,hnd,hs,hF⟩;refine Cg.slots hs ?_;clear hs;intro σ;refine Ha (Ia (Ca (Db O) (Ca (Cd Pe O) (Ed (Mh vQ O hF.F 0 O O) (Ca (Rf pZ O) (Ca (Tg O O) (Fa ?_)))))));refine Wb O O (λhc8=>?_) (λhc8=>?_)
  ·
   refine Ma (Ga (Ha (Sa (Ia (Ca (Cd Pe O) (Ed (Mh vQ O hF.F 0 O O) (Ca (Db O) ?_)))))));obtain⟨ad9,hA9,hk9,hx9⟩:=hK.str_elem (i:=i) U;refine Ja (v:=.pointer (some (ad9.add (i*1)))) (Qa (i:=(i:Int)) Tr O hA9 O U U) (Ja (v:=I (ks[i])) (Oc dZ O (hF.cell0 hk9)) ?_);refine Ta hF (PR ks[i] (by have:=hkm i U;omega) _) (Va OI O O) ?_;intro w hF;refine Ca (Eb O) (Fa (Ha (Ia (Ca (Xb O) (Ca (Bi O) (Fa ?_))))));refine Je O O (λhc9=>?_) (λhc9=>?_)
   ·
    refine Ia (Ca (Eb O) (Fa ?_));refine Tc (v:=.bool false) O O ⟨congrArg Value.bool ?_,hF.same⟩;have h6:k=6:=U;subst h6;exact (FP (i:=i) U (Kh (by assumption))).symm
   refine Ma (Ga (Ia (Ca (Bc O) (Fa (Sa ?_)))));have hik:i<ks.length:=by omega
   refine Gc (λμ σ w=>∃(m:Nat),μ=i-m/\(m<=i)/\(∀q (hq:q<ks.length),q<m->ks[q]≠ks[i]' hik)/\AllEq σ [(1,V b1),(9,J ((i:Int))),(11,J ((m:Int)))]/\FR w0 [] [(b1,.cells #[J k,I t,.slice A ks.length c,.slice B xs.length e] 27)] w) _ ⟨0,O,(Nat.zero_le _),(λq _ h=>absurd h U),Mk,hF⟩ ?_;rintro μ σ w ⟨m,rfl,hmi,hno,hs,hF⟩;refine Cg.slots hs ?_;clear hs;intro σ;refine Ha (Ia (Ca (Db O) (Ca (Db O) (Ca (Tg O O) (Fa ?_)))));refine Wb O O (λhc10=>?_) (λhc10=>?_)
   ·
    refine Ma (Ga (Ha (Sa (Ha ?_))));refine Te (zs:=.of []) (bQ [0,1,2,3,4,5,6,7,8,9,10] .nil) hF ?_;intro w hF;refine Zc O (Cd Pe O) (Cp O (Mh vQ O C0 0 O O) (Zc O (Db O) ?_));obtain⟨ad10,hA10,hk10,hx10⟩:=hK.str_elem (i:=m) U;refine Pb O (v:=.pointer (some (ad10.add (m*1)))) (λw hC=>Qa (i:=(m:Int)) Tr O hA10 O U U) (Pb O (v:=I (ks[m])) (λw hC=>Oc dZ O (hC.cell0 hk10)) (Zc O (Cd Pe O) (Cp O (Mh vQ O C0 0 O O) (Zc O (Db O) ?_))));obtain⟨ad11,hA11,hk11,hx11⟩:=hK.str_elem (i:=i) U;refine Pb O (v:=.pointer (some (ad11.add (i*1)))) (λw hC=>Qa (i:=(i:Int)) Tr O hA11 O U U) (Pb O (v:=I (ks[i])) (λw hC=>Oc dZ O (hC.cell0 hk11)) (Zc O (Rx O O) (Xd (Ga ?_))));refine Wb O O (λhc11=>?_) (λhc11=>?_)
    ·
     refine Ia (Ca (Eb O) (Fa ?_));refine Tc (v:=.bool false) O O ⟨congrArg Value.bool ?_,hF.same⟩;have h6:k=6:=U;subst h6;exact (BR (i:=i) (m:=m) U U (by assumption)).symm
    refine Ma (Ib (Ga (Ea (Ca (Db O) (Ca (Uk (((m+1:Nat):Int)) O O) (Ca (Bc O) (Ra ?_)))))));refine Za ⟨_,?_,m+1,rfl,U,(λq hq h=>by rcases Nat.lt_or_ge q m with h1|h1;exact hno q hq h1;obtain rfl:q=m:=U;assumption),Mk,hF⟩;omega
   refine Zb (Vb O ?_);refine Ib (Ga (Ea (Ca (Db O) (Ca (Uk (((i+1:Nat):Int)) O O) (Ca (Bc O) (Ra ?_))))));refine Za ⟨_,?_,i+1,rfl,U,(Qr U hva (Ie (by assumption))),(Fp U hnd (λhm=>by obtain⟨q,hq,hq2⟩:=List.mem_take_iff_getElem.1 hm;exact hno q U U hq2)),Ms,hF⟩;omega
  refine Zb (Vb O ?_);refine Ga (Ia (Ca (Cd Le O) (Ed (Em dZ O hF.F 0 O O) (Ca (Rx O O) (Ca (Xb O) ?_)))));refine Xa (d:=126) O (λhg12=>?_) (λhg12=>?_)
  ·
   refine Ca (Cd Pe O) (Ed (Mh vQ O hF.F 0 O O) (Ca (Rf pZ O) (Ca (Cd Rc O) (Ed (Mh wQ O hF.F 0 O O) (Ca (Rf qZ O) (Ca (Jj O O) (Ca (Rb O O) (Ca (Eb O) (Fa ?_)))))))));refine Tc (v:=.bool _) O O ⟨congrArg Value.bool ?_,hF.same⟩;have h6:k=6:=U;subst h6;have hz:=KE (t:=t) (ks:=ks) (xs:=xs) (by rw[<-List.take_of_length_le (show ks.length<=i by omega)];exact hnd) (by rw[<-List.take_of_length_le (show ks.length<=i by omega)];exact hva);rw[hz]
   first|(rw[decide_eq_true (show t=[] by assumption),Bool.true_and])|(rw[decide_eq_false (show ¬t=[] by assumption),Bool.false_and])
  refine Da (Da (Da (Da (Da (Da (Da (Ca (Jb O O) (Ca (Eb O) (Fa ?_)))))))));refine Tc (v:=.bool false) O O ⟨congrArg Value.bool ?_,hF.same⟩;have h6:k=6:=U;subst h6;have hz:=KE (t:=t) (ks:=ks) (xs:=xs) (by rw[<-List.take_of_length_le (show ks.length<=i by omega)];exact hnd) (by rw[<-List.take_of_length_le (show ks.length<=i by omega)];exact hva);rw[hz]
  first|(rw[decide_eq_true (show t=[] by assumption),Bool.true_and])|(rw[decide_eq_false (show ¬t=[] by assumption),Bool.false_and])
 refine Ma (Ib (Ga (Ia (Ca (Eb O) (Fa ?_)))));refine Tc (v:=.bool false) O O ⟨congrArg Value.bool ?_,hF.same⟩;exact (UN U U U U U U U).symm
theorem K8{α:Type}{f:α->Bool}{l:List α}{j:Nat}(h:j<l.length)(ha:(l.take j).all f=true)(hf:f l[j]=true):(l.take (j+1)).all f=true:=by
  rw[iQ h,List.all_append,ha,List.all_cons,hf];rfl
theorem Hl{α:Type}{f:α->Bool}{l:List α}{j:Nat}(h:j<l.length)(hf:f l[j]=false):l.all f=false:=by
  rw[Bool.eq_false_iff];intro ha;have:=List.all_eq_true.1 ha l[j] (eQ h);rw[hf]at this;cases this
theorem Gv{h:Bool}{x:Tree}(h1:(!nodeB x)=true):Yx h x=false:=by rw[Yx,Kh h1];rfl
theorem Bv{h:Bool}{k:Int}{t:Str}{ks:List Str}{xs:List Tree}(h1:k=7)(h2:h=false):Yx h (.node k t ks xs)=false:=by rw[Yx,h2];simp[Tree.kind,h1]
theorem Zq{h:Bool}{k:Int}{t:Str}{ks:List Str}{xs:List Tree}(h0:nodeB (.node k t ks xs)=true)(h1:¬k=7):Yx h (.node k t ks xs)=true:=by rw[Yx,h0];simp[Tree.kind,h1]
theorem Xq{h:Bool}{x:Tree}(h0:nodeB x=true)(h1:h=true):Yx h x=true:=by rw[Yx,h0,h1];rfl
theorem Wq(q:Tree->Bool)(k:Int)(t:Str)(ks:List Str)(xs:List Tree):Me q (.node k t ks xs)=(q (.node k t ks xs)&&xs.all (Me q)):=by rw[Me,Cn]
theorem L8(k:Int)(t:Str)(ks:List Str)(xs:List Tree)(ih:∀x,x∈xs->KC x):KC (.node k t ks xs):=by
 intro hsz hm h S w0 cs hR;obtain⟨A,c,B,e,rfl,-,-,hK,hX⟩:=hR.tree_inv;have hR0:=hR;have hXl:=hX.slice_len;rw[Ub]at hsz;refine Ka func53 O ntmps53 Mb (Ae _ _) ?_;have hF:=FR.start w0 [];refine Ia (Xf hF O ?_);rintro b1 w hb1 hF -;refine Ca (Eb O) (Ec (Ed (Ej xQ fZ O hF.F 0 O O) ?_));refine Ta hF (EN k t ks xs _ _ _ (hF.rep hR0) hm) (Va SY O O) ?_;intro w hF;refine Ca (Eb O) (Fa (Ha (Ia (Ca (Xb O) (Ca (Bi O) (Ca (Xb O) ?_))))));refine Uc (d:=12) O (λhg0=>?_) (λhg0=>?_);refine Da (Da (Da (Da (Da (Da (Da (Ca (Rb O O) (Fa (Od O (Ia (Ca (Eb O) ?_)))))))))));refine Fa (Tc (v:=.bool false) O O ?_);refine⟨congrArg Value.bool ?_,hF.same⟩;rw[Wq]
 ·first|(rw[Gv (by assumption)];rfl)|(rw[Bv (by assumption) (Kh (by assumption))];rfl)|(rw[Hl (f:=Me (Yx h)) (l:=xs) (j:=j) U (Kh (by assumption))];simp;done)|(have hz:xs.all (Me (Yx h))=true:=(by rw[<-List.take_of_length_le (show xs.length<=j by omega)];exact ha);rw[hz];first|(rw[Zq (Ie (by assumption)) (by assumption)];rfl)|(rw[Xq (Ie (by assumption)) (Ie (by assumption))];rfl))
 refine Ca (Cd Pf O) (Ed (Jq yQ O hF.F 0 O O) (Ca (Jj O O) (Ca (Xb O) ?_)));refine Xa (d:=16) O (λhg1=>?_) (λhg1=>?_);refine Ca (Xb O) (Ca (Bi O) (Ca (Rb O O) (Ca (Jb O O) (Fa ?_))));refine Je O O (λhc0=>?_) (λhc0=>?_);refine Ia (Ca (Eb O) (Fa ?_));refine Tc (v:=.bool false) O O ⟨congrArg Value.bool ?_,hF.same⟩;rw[Wq]
 ·first|(rw[Gv (by assumption)];rfl)|(rw[Bv (by assumption) (Kh (by assumption))];rfl)|(rw[Hl (f:=Me (Yx h)) (l:=xs) (j:=j) U (Kh (by assumption))];simp;done)|(have hz:xs.all (Me (Yx h))=true:=(by rw[<-List.take_of_length_le (show xs.length<=j by omega)];exact ha);rw[hz];first|(rw[Zq (Ie (by assumption)) (by assumption)];rfl)|(rw[Xq (Ie (by assumption)) (Ie (by assumption))];rfl))
 refine Ma (Ga (Ha (Ia (Ca (Bc O) (Fa (Sa ?_))))));refine Gc (λμ σ w=>∃(j:Nat),μ=xs.length-j/\(j<=xs.length)/\((xs.take j).all (Me (Yx h))=true)/\AllEq σ [(1,.bool (h)),(2,V b1),(6,J ((j:Int)))]/\FR w0 [] [(b1,.cells #[J k,I t,.slice A ks.length c,.slice B xs.length e] 27)] w) _ ⟨0,O,(Nat.zero_le _),Ua,Mk,hF⟩ ?_;rintro μ σ w ⟨j,rfl,hj,ha,hs,hF⟩;refine Cg.slots hs ?_;clear hs;intro σ;refine Ha (Ia (Ca (Db O) (Ca (Cd Rc O) (Ed (Mh wQ O hF.F 0 O O) (Ca (Rf qZ O) (Ca (Tg O O) (Fa ?_)))))));refine Wb O O (λhc1=>?_) (λhc1=>?_);refine Ma (Ga (Ha (Sa (Ia (Ca (Cd Rc O) (Ed (Mh wQ O hF.F 0 O O) (Ca (Db O) ?_)))))));obtain⟨ad2,cs2,hA2,hl2,hk2,hx2⟩:=hX.tree_elem (i:=j) U;have ho2:=hx2.one_;refine Ja (v:=.pointer (some (ad2.add (j*4)))) (Qa (i:=(j:Int)) Zh O hA2 O U U) (Ja (v:=.agg (List.toArray cs2)) (Hb (l:=cs2) xQ fZ O hl2 (hF.cells0 hk2)) (Ca (Xb O) ?_));refine Ta hF (ih _ (eQ _) (by have:=Ef (List.getElem_mem (l:=xs) (n:=j) U);omega) (by have:=Oj (List.getElem_mem (l:=xs) (n:=j) U);rw[He]at hm;omega) h _ _ _ (hF.rep hx2)) (Qb JL O O O) ?_;intro w hF;refine Ca (Eb O) (Ec (Ca (Xb O) (Ca (Bi O) (Fa ?_))));refine Je O O (λhc2=>?_) (λhc2=>?_);refine Ia (Ca (Eb O) (Fa ?_));refine Tc (v:=.bool false) O O ⟨congrArg Value.bool ?_,hF.same⟩;rw[Wq]
 ·first|(rw[Gv (by assumption)];rfl)|(rw[Bv (by assumption) (Kh (by assumption))];rfl)|(rw[Hl (f:=Me (Yx h)) (l:=xs) (j:=j) U (Kh (by assumption))];simp;done)|(have hz:xs.all (Me (Yx h))=true:=(by rw[<-List.take_of_length_le (show xs.length<=j by omega)];exact ha);rw[hz];first|(rw[Zq (Ie (by assumption)) (by assumption)];rfl)|(rw[Xq (Ie (by assumption)) (Ie (by assumption))];rfl))
 refine Ma (Ib (Ga (Ea (Ca (Db O) (Ca (Uk (((j+1:Nat):Int)) O O) (Ca (Bc O) (Ra ?_)))))));refine Za ⟨_,?_,j+1,O,U,(K8 U ha (Ie (by assumption))),Mk,hF⟩;omega;refine Zb (Vb O ?_);refine Ga (Ia (Ca (Eb O) (Fa ?_)));refine Tc (v:=.bool true) O O ⟨congrArg Value.bool ?_,hF.same⟩;rw[Wq]
 ·first|(rw[Gv (by assumption)];rfl)|(rw[Bv (by assumption) (Kh (by assumption))];rfl)|(rw[Hl (f:=Me (Yx h)) (l:=xs) (j:=j) U (Kh (by assumption))];simp;done)|(have hz:xs.all (Me (Yx h))=true:=(by rw[<-List.take_of_length_le (show xs.length<=j by omega)];exact ha);rw[hz];first|(rw[Zq (Ie (by assumption)) (by assumption)];rfl)|(rw[Xq (Ie (by assumption)) (Ie (by assumption))];rfl))
 refine Da (Da (Ca (Jb O O) (Ca (Jb O O) (Fa (Um O (Ha (Ia (Ca (Bc O) (Ra ?_)))))))));refine Ga (Sa ?_);refine Gc (λμ σ w=>∃(j:Nat),μ=xs.length-j/\(j<=xs.length)/\((xs.take j).all (Me (Yx h))=true)/\AllEq σ [(1,.bool (h)),(2,V b1),(6,J ((j:Int)))]/\FR w0 [] [(b1,.cells #[J k,I t,.slice A ks.length c,.slice B xs.length e] 27)] w) _ ⟨0,O,(Nat.zero_le _),Ua,Mk,hF⟩ ?_;rintro μ σ w ⟨j,rfl,hj,ha,hs,hF⟩;refine Cg.slots hs ?_;clear hs;intro σ;refine Ha (Ia (Ca (Db O) (Ca (Cd Rc O) (Ed (Mh wQ O hF.F 0 O O) (Ca (Rf qZ O) (Ca (Tg O O) (Fa ?_)))))));refine Wb O O (λhc1=>?_) (λhc1=>?_);refine Ma (Ga (Ha (Sa (Ia (Ca (Cd Rc O) (Ed (Mh wQ O hF.F 0 O O) (Ca (Db O) ?_)))))));obtain⟨ad3,VG,hA3,hl3,hk3,hx3⟩:=hX.tree_elem (i:=j) U;have ho3:=hx3.one_;refine Ja (v:=.pointer (some (ad3.add (j*4)))) (Qa (i:=(j:Int)) Zh O hA3 O U U) (Ja (v:=.agg (List.toArray VG)) (Hb (l:=VG) xQ fZ O hl3 (hF.cells0 hk3)) (Ca (Xb O) ?_));refine Ta hF (ih _ (eQ _) (by have:=Ef (List.getElem_mem (l:=xs) (n:=j) U);omega) (by have:=Oj (List.getElem_mem (l:=xs) (n:=j) U);rw[He]at hm;omega) h _ _ _ (hF.rep hx3)) (Qb JL O O O) ?_;intro w hF;refine Ca (Eb O) (Ec (Ca (Xb O) (Ca (Bi O) (Fa ?_))));refine Je O O (λhc2=>?_) (λhc2=>?_);refine Ia (Ca (Eb O) (Fa ?_));refine Tc (v:=.bool false) O O ⟨congrArg Value.bool ?_,hF.same⟩;rw[Wq]
 ·first|(rw[Gv (by assumption)];rfl)|(rw[Bv (by assumption) (Kh (by assumption))];rfl)|(rw[Hl (f:=Me (Yx h)) (l:=xs) (j:=j) U (Kh (by assumption))];simp;done)|(have hz:xs.all (Me (Yx h))=true:=(by rw[<-List.take_of_length_le (show xs.length<=j by omega)];exact ha);rw[hz];first|(rw[Zq (Ie (by assumption)) (by assumption)];rfl)|(rw[Xq (Ie (by assumption)) (Ie (by assumption))];rfl))
 refine Ma (Ib (Ga (Ea (Ca (Db O) (Ca (Uk (((j+1:Nat):Int)) O O) (Ca (Bc O) (Ra ?_)))))));refine Za ⟨_,?_,j+1,O,U,(K8 U ha (Ie (by assumption))),Mk,hF⟩;omega;refine Zb (Vb O ?_);refine Ga (Ia (Ca (Eb O) (Fa ?_)));refine Tc (v:=.bool true) O O ⟨congrArg Value.bool ?_,hF.same⟩;rw[Wq]
 ·first|(rw[Gv (by assumption)];rfl)|(rw[Bv (by assumption) (Kh (by assumption))];rfl)|(rw[Hl (f:=Me (Yx h)) (l:=xs) (j:=j) U (Kh (by assumption))];simp;done)|(have hz:xs.all (Me (Yx h))=true:=(by rw[<-List.take_of_length_le (show xs.length<=j by omega)];exact ha);rw[hz];first|(rw[Zq (Ie (by assumption)) (by assumption)];rfl)|(rw[Xq (Ie (by assumption)) (Ie (by assumption))];rfl))
theorem ZH(x:Tree):KC x:=Tree.ind L8 x
theorem N9(x:Tree)(hsz:Ub x<=1000000000)(hm:He x<=1073741824)(S:Nat->Prop)(w0:World)(cs:List Value)(hR:Rep S w0 (Fc x) cs):Calls prog 35 #[.agg cs.toArray] w0 (Vd λv w'=>v=.bool (Jd x)/\Same [] w0 w'):=by
 have hl:cs.length=4:=hR.length.trans (Id x);have ho:=hR.one_;refine Ka func35 O ntmps35 Mb (Jc _) ?_;have hF:=FR.start w0 [];refine Ia (Ip (v:=.agg (List.toArray cs)) (cs:=(List.toArray cs)) hF O O ?_);rintro b1 w hb1 hF -;refine Ca (Eb O) (Ec (Ja (v:=.agg (List.toArray cs)) (Hb (l:=cs) xQ fZ O hl (hF.cellsAll 0 O)) ?_));refine Ta hF (CK x hsz _ _ cs (hF.rep hR)) (Va qQq O O) ?_;intro w hF;refine Ca (Sx O O) (Ca (Xb O) ?_);refine Xa (d:=6) O (λhg0=>?_) (λhg0=>?_);refine Ja (v:=.agg (List.toArray cs)) (Hb (l:=cs) xQ fZ O hl (hF.cellsAll 0 O)) (Ta hF (KH x hsz _ _ cs (hF.rep hR)) (Va MR O O) ?_);intro w hF;refine Ca (Sx O O) (Ca (Rb O O) (Ca (Xb O) ?_));refine Xa (d:=11) O (λhg1=>?_) (λhg1=>?_);refine Ja (v:=.agg (List.toArray cs)) (Hb (l:=cs) xQ fZ O hl (hF.cellsAll 0 O)) ?_;refine Ta hF ((by have h:=ZH x hsz hm false _ _ cs (hF.rep hR);rw[AL]at h;exact h)) (Qb JL O O O) ?_;intro w hF;refine Ca (Rb O O) (Ca (Eb O) (Fa ?_));refine Tc (v:=.bool _) O O ⟨congrArg Value.bool ?_,hF.same⟩;unfold Jd Ok
 ·first|(rw[decide_eq_false (show ¬Ub x<=4096 by omega)];simp;done)|(rw[decide_eq_false (show ¬Be x<=32 by omega)];simp;done)|(rw[decide_eq_true (show Ub x<=4096 by omega),decide_eq_true (show Be x<=32 by omega)];simp;done)|simp_all
 refine Da (Da (Ca (Jb O O) (Ca (Eb O) (Fa ?_))));refine Tc (v:=.bool false) O O ⟨congrArg Value.bool ?_,hF.same⟩;unfold Jd Ok
 ·first|(rw[decide_eq_false (show ¬Ub x<=4096 by omega)];simp;done)|(rw[decide_eq_false (show ¬Be x<=32 by omega)];simp;done)|(rw[decide_eq_true (show Ub x<=4096 by omega),decide_eq_true (show Be x<=32 by omega)];simp;done)|simp_all
 refine Da (Da (Da (Ca (Jb O O) (Ca (Xb O) (Da (Da (Ca (Jb O O) (Ca (Eb O) (Fa ?_)))))))));refine Tc (v:=.bool false) O O ⟨congrArg Value.bool ?_,hF.same⟩;unfold Jd Ok
 ·first|(rw[decide_eq_false (show ¬Ub x<=4096 by omega)];simp;done)|(rw[decide_eq_false (show ¬Be x<=32 by omega)];simp;done)|(rw[decide_eq_true (show Ub x<=4096 by omega),decide_eq_true (show Be x<=32 by omega)];simp;done)|simp_all
end Go.Scarf
