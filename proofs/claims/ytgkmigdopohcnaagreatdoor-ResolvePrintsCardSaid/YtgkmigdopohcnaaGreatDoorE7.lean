/- A part of the proof. -/
import Derived.Test.YtgkmigdopohcnaaGreatDoorE4
import Derived.Test.YtgkmigdopohcnaaGreatDoorP3
set_option linter.all false
set_option maxHeartbeats 8000000
set_option maxRecDepth 10000
namespace Go.Scarf
open Go.RowKit Go.Proofs Go.Proofs.Tryz
def ZL(x:Tree):Prop:=Qb x<=1000000000->∀S w0 cs,Rep S w0 (Pb x) cs->Calls prog 92 #[.agg cs.toArray] w0 (Dd λv w'=>v=J (Qb x:Nat)/\Same [] w0 w')
def ZA(x:Tree):Prop:=Qb x<=1000000000->∀S w0 cs,Rep S w0 (Pb x) cs->Calls prog 93 #[.agg cs.toArray] w0 (Dd λv w'=>v=J (Cd x:Nat)/\Same [] w0 w')
def W3(h:Bool)(x:Tree):Bool:=nodeB x&&(h || decide (x.kind≠7))
theorem hn_true:W3 true=nodeB:=by funext x;simp[W3]
def TL(x:Tree):Prop:=Qb x<=1000000000->Be x<=1073741824->∀(h:Bool) S w0 cs,Rep S w0 (Pb x) cs->Calls prog 94 #[.agg cs.toArray,.bool h] w0 (Dd λv w'=>v=.bool (Xc (W3 h) x)/\Same [] w0 w')
theorem Hv:∀(xs:List Tree)(j:Nat),Dc (xs.take j)<=Dc xs
  | [],j=>by simp
  | x::xs,0=>by simp[Dc]
  | x :: xs, j + 1 => by
    have:=Hv xs j;rw[List.take_succ_cons,Dc,Dc];omega
theorem JL(k:Int)(t:Str)(ks:List Str)(xs:List Tree)(ih:∀x,x∈xs->ZL x):ZL (.node k t ks xs):=by
 intro hsz S w0 cs hR;obtain⟨A,c,B,e,rfl,-,-,-,hX⟩:=hR.tree_inv;have hXl:=hX.slice_len;have hdl:=Fy xs;rw[Qb]at hsz;refine Ia func92 O ntmps92 Eb (Yb _) ?_;have hF:=FR.start w0 [];refine Ea (Oe hF O ?_);rintro b1 w hb1 hF -;refine Ba (Gb O) (Rb (Ba (Gb O) (Da (Ga (Ea (Ba (Gb O) (Da ?_)))))));refine Qa (Jc (λμ σ w=>∃(j:Nat),μ=xs.length-j/\(j<=xs.length)/\AllEq σ [(1,V b1),(3,J (((1+Dc (xs.take j):Nat):Int))),(4,J ((j:Int)))]/\FR w0 [] [(b1,.cells #[J k,I t,.slice A ks.length c,.slice B xs.length e] 25)] w) _ ⟨0,O,(Nat.zero_le _),Oq,hF⟩ ?_);rintro μ σ w ⟨j,rfl,hj,hs,hF⟩;refine Cg.slots hs ?_;clear hs;intro σ;refine Ga (Ea (Ba (Za O) (Ba (Ob Xb O) (Zb (Xe zQ O hF.F 0 O O) (Ba (Ch zZ O) (Ba (Di O O) (Da ?_)))))));refine Ib O O (λhc0=>?_) (λhc0=>?_);refine La (Fa (Ga (Qa (Ha (Ba (Za O) (Ba (Ob Xb O) (Zb (Xe zQ O hF.F 0 O O) (Ba (Za O) ?_))))))));obtain⟨ad0,cs0,hA0,hl0,hk0,hx0⟩:=hX.tree_elem (i:=j) Aa;have ho0:=hx0.one_;refine Ka (v:=.pointer (some (ad0.add (j*4)))) (Sa (i:=(j:Int)) Hg O hA0 O Aa Aa) (Ka (v:=.agg (List.toArray cs0)) (Wa (l:=cs0) aZ nZ O hl0 (hF.cells0 hk0)) ?_);refine Oa hF (ih _ (eQ _) (by have:=Ug (List.getElem_mem (l:=xs) (n:=j) Aa);omega) _ _ _ (hF.rep hx0)) (Na en_92 O O) ?_;intro w hF;refine Ka (v:=J (((1+Dc (xs.take (j+1)):Nat):Int))) (Rr O O (by have h1:=B3 xs j Aa;have h2:=Ug (List.getElem_mem (l:=xs) (n:=j) Aa);have h3:=Hv xs (j+1);exact Vf (by rw[h1];omega) Aa Aa)) ?_;refine Ba (Gb O) (Ta (Bb (Fa (Ha (Ba (Za O) (Ba (Ek (((j+1:Nat):Int)) O O) (Ba (Gb O) (Ta ?_))))))));refine Hb ⟨_,?_,j+1,O,Aa,Oq,hF⟩;omega;refine Ec (Ac O ?_);refine Fa (Ea ?_);have eT:xs.take j=xs:=List.take_of_length_le Aa;refine Ba (Za O) (Ba (Gb O) (Da ?_));refine Va (Ua (Ja (Fq (v:=J (((1+Dc (xs.take j):Nat):Int))) O O) ?_));exact⟨by rw[eT,Qb],hF.same⟩
theorem ZZ(x:Tree):ZL x:=Tree.ind JL x
theorem CE(k:Int)(t:Str)(ks:List Str)(xs:List Tree)(ih:∀x,x∈xs->ZA x):ZA (.node k t ks xs):=by
 intro hsz S w0 cs hR;obtain⟨A,c,B,e,rfl,-,-,-,hX⟩:=hR.tree_inv;have hXl:=hX.slice_len;have hdl:=Fy xs;rw[Qb]at hsz;refine Ia func93 O ntmps93 Eb (Yb _) ?_;have hF:=FR.start w0 [];refine Ea (Oe hF O ?_);rintro b1 w hb1 hF -;refine Ba (Gb O) (Rb (Ba (Gb O) (Da (Ga (Ea (Ba (Gb O) (Da ?_)))))));refine Qa (Jc (λμ σ w=>∃(j:Nat),μ=xs.length-j/\(j<=xs.length)/\AllEq σ [(1,V b1),(3,J ((Jd (xs.take j):Nat))),(4,J ((j:Int)))]/\FR w0 [] [(b1,.cells #[J k,I t,.slice A ks.length c,.slice B xs.length e] 25)] w) _ ⟨0,O,(Nat.zero_le _),Oq,hF⟩ ?_);rintro μ σ w ⟨j,rfl,hj,hs,hF⟩;refine Cg.slots hs ?_;clear hs;intro σ;refine Ga (Ea (Ba (Za O) (Ba (Ob Xb O) (Zb (Xe zQ O hF.F 0 O O) (Ba (Ch zZ O) (Ba (Di O O) (Da ?_)))))));refine Ib O O (λhc0=>?_) (λhc0=>?_);refine La (Fa (Ga (Qa (Ha (Ba (Za O) (Ba (Ob Xb O) (Zb (Xe zQ O hF.F 0 O O) (Ba (Za O) ?_))))))));obtain⟨ad0,cs0,hA0,hl0,hk0,hx0⟩:=hX.tree_elem (i:=j) Aa;have ho0:=hx0.one_;refine Ka (v:=.pointer (some (ad0.add (j*4)))) (Sa (i:=(j:Int)) Hg O hA0 O Aa Aa) (Ka (v:=.agg (List.toArray cs0)) (Wa (l:=cs0) aZ nZ O hl0 (hF.cells0 hk0)) ?_);refine Oa hF (ih _ (eQ _) (by have:=Ug (List.getElem_mem (l:=xs) (n:=j) Aa);omega) _ _ _ (hF.rep hx0)) (Na en_93 O O) ?_;intro w hF;refine Ka (v:=J ((Jd (xs.take (j+1)):Nat))) (by rw[<-show max ((Jd (xs.take j):Nat):Int) ((Cd xs[j]:Nat):Int)=((Jd (xs.take (j+1)):Nat):Int) from by rw[Rz xs j Aa];omega];exact x_max O O) ?_;refine Ba (Gb O) (Ta (Bb (Fa (Ha (Ba (Za O) (Ba (Ek (((j+1:Nat):Int)) O O) (Ba (Gb O) (Ta ?_))))))));refine Hb ⟨_,?_,j+1,O,Aa,Oq,hF⟩;omega;refine Ec (Ac O ?_);refine Fa (Ea (Ba (Za O) ?_));have eT:xs.take j=xs:=List.take_of_length_le Aa;refine Ka (v:=J ((Cd (.node k t ks xs):Nat))) (Rr O O (by rw[eT,Cd];exact Vf Aa Aa Aa)) ?_;refine Ba (Gb O) (Da ?_);refine Gc (v:=J ((Cd (.node k t ks xs):Nat))) O O ?_
 exact⟨O,hF.same⟩
theorem VQ(x:Tree):ZA x:=Tree.ind CE x
theorem Gf{b:Bool}(h:(!b)=false):b=true:=by simpa using h
theorem Gj{b:Bool}(h:(!b)=true):b=false:=by simpa using h
theorem T5{t:Str}{ks:List Str}{xs:List Tree}:nodeB (.node 6 t ks xs)=(Sl ks xs.length&&decide (t=[])):=by simp only[nodeB];rfl
theorem six_bad{t:Str}{ks:List Str}{xs:List Tree}{i:Nat}(h:i<ks.length)(hv:Lib.validD ks[i]=false):nodeB (.node 6 t ks xs)=false:=by
  rw[T5,Sl,HO h hv];simp
theorem six_dup{t:Str}{ks:List Str}{xs:List Tree}{i m:Nat}(h:i<ks.length)(hm:m<i)(he:ks[m]=ks[i]):nodeB (.node 6 t ks xs)=false:=by
  have:¬ks.Nodup:=Fs h (by rw[<-he];exact List.mem_take_iff_getElem.2 ⟨m,by omega,rfl⟩);rw[T5,Sl,decide_eq_false this];simp
theorem XP{t:Str}{ks:List Str}{xs:List Tree}(hn:ks.Nodup)(hv:ks.all Lib.validD=true):nodeB (.node 6 t ks xs)=(decide (t=[])&&decide (((ks.length:Nat):Int)=((xs.length:Nat):Int))):=by
  rw[T5,Sl,decide_eq_true hn,hv,Bool.true_and,Bool.true_and,Bool.and_comm]
theorem SY{k:Int}{t:Str}{ks:List Str}{xs:List Tree}(h1:¬k=1)(h2:¬k=2)(h3:¬k=3)(h4:¬k=4)(h5:¬k=5)(h6:¬k=6)(h7:¬k=7):nodeB (.node k t ks xs)=false:=by
  simp[nodeB,h1,h2,h3,h4,h5,h6,h7]
theorem I1{k:Int}{t:Str}{ks:List Str}{xs:List Tree}(h:k≠6)(hk:(0:Int)<((ks.length:Nat):Int)):nodeB (.node k t ks xs)=false:=by
  have h1:ks≠[]:=by rintro rfl;simp at hk
  by_cases h5:k=5 <;> simp[nodeB,h,h5,h1]
theorem Lx{k:Int}{t:Str}{ks:List Str}{xs:List Tree}(h:k≠6)(h5:k≠5)(hk:(0:Int)<((xs.length:Nat):Int)):nodeB (.node k t ks xs)=false:=by
  have h1:xs≠[]:=by rintro rfl;simp at hk
  simp[nodeB,h,h5,h1]
theorem nd1{k:Int}{t:Str}{ks:List Str}{xs:List Tree}(h:k=1)(hk:ks=[])(hx:xs=[]):nodeB (.node k t ks xs)=decide (t=[]):=by subst h hk hx;simp[nodeB]
theorem nd5{k:Int}{t:Str}{ks:List Str}{xs:List Tree}(h:k=5)(hk:ks=[]):nodeB (.node k t ks xs)=decide (t=[]):=by subst h hk;simp[nodeB]
theorem nd2{k:Int}{t:Str}{ks:List Str}{xs:List Tree}(h:k=2)(hk:ks=[])(hx:xs=[]):nodeB (.node k t ks xs)=(decide (t=[116,114,117,101]) || decide (t=[102,97,108,115,101])):=by subst h hk hx;simp[nodeB]
theorem nd3{k:Int}{t:Str}{ks:List Str}{xs:List Tree}(h:k=3)(hk:ks=[])(hx:xs=[]):nodeB (.node k t ks xs)=Xf t:=by subst h hk hx;simp[nodeB]
theorem nd4{k:Int}{t:Str}{ks:List Str}{xs:List Tree}(h:k=4)(hk:ks=[])(hx:xs=[]):nodeB (.node k t ks xs)=Lib.validD t:=by subst h hk hx;simp[nodeB]
theorem nd7{k:Int}{t:Str}{ks:List Str}{xs:List Tree}(h:k=7)(hk:ks=[])(hx:xs=[]):nodeB (.node k t ks xs)=Mt t:=by subst h hk hx;simp[nodeB]
theorem OJ{t:Str}(h1:Xf t=true)(h2:(Er (Fc t).1).2=true):Mt t=decide (0<=(Er (Fc t).1).1):=by rw[Mt,h1,h2];rfl
theorem SA{t:Str}(h1:Xf t=false):Mt t=false:=by rw[Mt,h1];rfl
theorem OB{t:Str}(h2:(Er (Fc t).1).2=false):Mt t=false:=by rw[Mt,h2,Bool.and_false];rfl
theorem V1{ks:List Str}(h:¬(0:Int)<((ks.length:Nat):Int)):ks=[]:=List.eq_nil_of_length_eq_zero Aa
theorem M0{xs:List Tree}(h:¬(0:Int)<((xs.length:Nat):Int)):xs=[]:=List.eq_nil_of_length_eq_zero Aa
theorem rnode_c_(k:Int)(t:Str)(ks:List Str)(xs:List Tree)(S:Nat->Prop)(w0:World)(cs:List Value)(hR:Rep S w0 (Pb (.node k t ks xs)) cs)(hm:Be (.node k t ks xs)<=1073741824):Calls prog 140 #[.agg cs.toArray] w0 (Dd λv w'=>v=.bool (nodeB (.node k t ks xs))/\Same [] w0 w'):=by
 obtain⟨A,c,B,e,rfl,-,-,hK,hX⟩:=hR.tree_inv;have hKl:=hK.slice_len;have hXl:=hX.slice_len;rw[Be]at hm;have hkm:∀q (h:q<ks.length),ks[q].length<=1073741824:=λq h=>fQ (Wm (eQ h)) Aa;refine Ia func140 O ntmps140 Eb (Yb _) ?_;have hF:=FR.start w0 [];refine Ea (Oe hF O ?_);rintro b1 w hb1 hF -;refine Ba (Db O) (Da (Ga ?_));refine Bf (λσ w=>(k≠6->ks=[])/\(k≠6->k≠5->xs=[])/\AllEq σ [(1,V b1)]/\FR w0 [] [(b1,.cells #[J k,I t,.slice A ks.length c,.slice B xs.length e] 25)] w) ?_ ?_
 ·
  refine Ea (Ba (Ob Xd O) (Zb (Th eZ O hF.F 0 O O) (Ba (Vk O O) (Ba (Vb O) ?_))));refine Ya (d:=15) O (λhg0=>?_) (λhg0=>?_)
  ·
   refine Ba (Ob Td O) (Zb (Xe yQ O hF.F 0 O O) (Ba (Ch yZ O) (Ba (Ho O O) (Ba (Tb O O) (Ba (Vb O) ?_)))));refine Ya (d:=21) O (λhg1=>?_) (λhg1=>?_)
   ·
    refine Ca (Ca (Ca (Ca (Ca (Ca (Ca (Ca (Ca (Ca (Ca (Ca (Ca (Ca ?_)))))))))))));refine Ba (Tb O O) (Da (Ad O (Ea (Ba (Db O) (Da ?_)))));refine Gc (v:=.bool false) O O ⟨congrArg Value.bool ?_,hF.same⟩
    first|exact (I1 Aa (by assumption)).symm|exact (Lx Aa Aa (by assumption)).symm
   refine Ba (Ob Xd O) (Zb (Th eZ O hF.F 0 O O) (Ba (Vk O O) (Ba (Vb O) ?_)));refine Ya (d:=25) O (λhg2=>?_) (λhg2=>?_)
   ·
    refine Ba (Ob Xd O) (Zb (Th eZ O hF.F 0 O O) (Ba (Vk O O) (Ba (Tb O O) (Ba (Vb O) ?_))));refine Ya (d:=30) O (λhg3=>?_) (λhg3=>?_)
    ·
     refine Ba (Ob Xb O) (Zb (Xe zQ O hF.F 0 O O) (Ba (Ch zZ O) (Ba (Ho O O) (Ba (Tb O O) (Ba (Kb O O) (Da ?_))))));refine Ib O O (λhc0=>?_) (λhc0=>?_)
     ·
      refine Ea (Ba (Db O) (Da ?_));refine Gc (v:=.bool false) O O ⟨congrArg Value.bool ?_,hF.same⟩
      first|exact (I1 Aa (by assumption)).symm|exact (Lx Aa Aa (by assumption)).symm
     refine La ?_;exact Hb ⟨(by intro h;first|exact V1 Aa|(exfalso;omega)),(by intro h h5;first|exact M0 Aa|(exfalso;omega)),ae1,hF⟩
    refine Ca (Ca (Ca (Ca (Ba (Kb O O) (Ba (Kb O O) (Da (De O (La ?_))))))));exact Hb ⟨(by intro h;first|exact V1 Aa|(exfalso;omega)),(by intro h h5;first|exact M0 Aa|(exfalso;omega)),ae1,hF⟩
   refine Ca (Ca (Ca (Ba (Kb O O) (Ba (Vb O) (Ca (Ca (Ca (Ca (Ba (Kb O O) (Ba (Kb O O) (Da (De O ?_))))))))))));refine La ?_;exact Hb ⟨(by intro h;first|exact V1 Aa|(exfalso;omega)),(by intro h h5;first|exact M0 Aa|(exfalso;omega)),ae1,hF⟩
  refine Ca (Ca (Ca (Ca (Ba (Kb O O) (Ba (Vb O) (Ba (Ob Xd O) (Zb (Th eZ O hF.F 0 O O) (Ba (Vk O O) (Ba (Vb O) ?_)))))))));refine Ya (d:=25) O (λhg4=>?_) (λhg4=>?_)
  ·
   refine Ba (Ob Xd O) (Zb (Th eZ O hF.F 0 O O) (Ba (Vk O O) (Ba (Tb O O) (Ba (Vb O) ?_))));refine Ya (d:=30) O (λhg5=>?_) (λhg5=>?_)
   ·
    refine Ba (Ob Xb O) (Zb (Xe zQ O hF.F 0 O O) (Ba (Ch zZ O) (Ba (Ho O O) (Ba (Tb O O) (Ba (Kb O O) (Da ?_))))));refine Ib O O (λhc0=>?_) (λhc0=>?_)
    ·
     refine Ea (Ba (Db O) (Da ?_));refine Gc (v:=.bool false) O O ⟨congrArg Value.bool ?_,hF.same⟩
     first|exact (I1 Aa (by assumption)).symm|exact (Lx Aa Aa (by assumption)).symm
    refine La ?_;exact Hb ⟨(by intro h;first|exact V1 Aa|(exfalso;omega)),(by intro h h5;first|exact M0 Aa|(exfalso;omega)),ae1,hF⟩
   refine Ca (Ca (Ca (Ca (Ba (Kb O O) (Ba (Kb O O) (Da (De O (La ?_))))))));exact Hb ⟨(by intro h;first|exact V1 Aa|(exfalso;omega)),(by intro h h5;first|exact M0 Aa|(exfalso;omega)),ae1,hF⟩
  refine Ca (Ca (Ca (Ba (Kb O O) (Ba (Vb O) (Ca (Ca (Ca (Ca (Ba (Kb O O) (Ba (Kb O O) (Da (De O ?_))))))))))));refine La ?_;exact Hb ⟨(by intro h;first|exact V1 Aa|(exfalso;omega)),(by intro h h5;first|exact M0 Aa|(exfalso;omega)),ae1,hF⟩
 rintro σ w ⟨hk0,hx0,hs,hF⟩;refine Eg.slots hs ?_;clear hs;intro σ;refine Fa (Ga (Ea (Ba (Ob Xd O) (Zb (Th eZ O hF.F 0 O O) (Da (Qa (Ga (Ea (Ba (Qf O O) (Ba (Db O) ?_))))))))));refine Da (Ib O O (λhc1=>?_) (λhc1=>?_))
 ·
  refine La (Fa (Ad O (Ea (Ba (Ob Wd O) (Zb (Pk jZ O hF.F 0 O O) (Ba (Rw O O) (Ba (Db O) (Da ?_))))))));refine Gc (v:=.bool _) O O ⟨congrArg Value.bool ?_,hF.same⟩
  first|(exfalso;omega)|exact (nd5 Aa (hk0 Aa)).symm|exact (nd1 Aa (hk0 Aa) (hx0 Aa Aa)).symm
 refine Ha (Ba (Qf O O) (Ba (Db O) (Da ?_)));refine Ib O O (λhc2=>?_) (λhc2=>?_)
 ·
  refine Ea (Ba (Ob Wd O) (Zb (Pk jZ O hF.F 0 O O) (Ba (Rw O O) (Ba (Db O) (Da ?_)))));refine Gc (v:=.bool _) O O ⟨congrArg Value.bool ?_,hF.same⟩
  first|(exfalso;omega)|exact (nd5 Aa (hk0 Aa)).symm|exact (nd1 Aa (hk0 Aa) (hx0 Aa Aa)).symm
 refine Ea (Ba (Qf O O) (Ba (Db O) (Da ?_)));refine Ib O O (λhc3=>?_) (λhc3=>?_)
 ·
  refine Ea (Ba (Ob Wd O) (Zb (Pk jZ O hF.F 0 O O) (Ba (Rw O O) (Ba (Vb O) ?_))));refine Ya (d:=50) O (λhg6=>?_) (λhg6=>?_)
  ·
   refine Ca (Ca (Ca (Ba (Tb O O) (Ba (Db O) (Da ?_)))));refine Gc (v:=.bool true) O O ⟨congrArg Value.bool ?_,hF.same⟩
   first|(exfalso;omega)|rw[nd2 Aa (hk0 Aa) (hx0 Aa Aa)]
   all_goals first|(rw[decide_eq_true (show t=[116,114,117,101] by assumption)];rfl)|(rw[decide_eq_false (show ¬t=[116,114,117,101] by assumption)];rfl)
  refine Ba (Ob Wd O) (Zb (Pk jZ O hF.F 0 O O) (Ba (Rw O O) (Ba (Kb O O) (Ba (Db O) (Da ?_)))));refine Gc (v:=.bool _) O O ⟨congrArg Value.bool ?_,hF.same⟩
  first|(exfalso;omega)|rw[nd2 Aa (hk0 Aa) (hx0 Aa Aa)]
  all_goals first|(rw[decide_eq_true (show t=[116,114,117,101] by assumption)];rfl)|(rw[decide_eq_false (show ¬t=[116,114,117,101] by assumption)];rfl)
 refine Ea (Ba (Qf O O) (Ba (Db O) (Da ?_)));refine Ib O O (λhc4=>?_) (λhc4=>?_)
 ·
  refine Ea (Ba (Ob Wd O) (Zb (Pk jZ O hF.F 0 O O) ?_));refine Oa hF (H7 t Aa _) (Na en_180 O O) ?_;intro w hF;refine Ba (Qk O) (Ba (Iw O O) (Ba (Ao O O) ?_));refine Gg hF pX rZ O ?_;rintro b2 w hb2 hF -;refine Ba (Db O) (Rb (Ba (Vb O) (Ba (Db O) (Da ?_))));refine Gc (v:=.bool _) O O ⟨congrArg Value.bool ?_,hF.same⟩
  first|(exfalso;omega)|exact (nd3 Aa (hk0 Aa) (hx0 Aa Aa)).symm
 refine Ea (Ba (Qf O O) (Ba (Db O) (Da ?_)));refine Ib O O (λhc5=>?_) (λhc5=>?_)
 ·
  refine Ea (Ba (Ob Wd O) (Zb (Pk jZ O hF.F 0 O O) ?_));refine Oa hF (utf_c t Aa _) (Na BY O O) ?_;intro w hF;refine Ba (Db O) (Da ?_);refine Gc (v:=.bool _) O O ⟨congrArg Value.bool ?_,hF.same⟩
  first|(exfalso;omega)|exact (nd4 Aa (hk0 Aa) (hx0 Aa Aa)).symm
 refine Ea (Ba (Qf O O) (Ba (Db O) (Da ?_)));refine Ib O O (λhc6=>?_) (λhc6=>?_)
 ·
  refine Ea (Ba (Ob Wd O) (Zb (Pk jZ O hF.F 0 O O) ?_));refine Oa hF (H7 t Aa _) (Na en_180 O O) ?_;intro w hF;refine Ba (Qk O) (Ba (Iw O O) (Ba (Ao O O) ?_));refine Gg hF pX rZ O ?_;rintro b3 w hb3 hF -;refine Ba (Db O) (Rb (Zb (Of iZ rZ O hF.F 0 O O) ?_));refine Oa hF (rint_c (Fc t).1 (by have:=Ki t;omega) _) (Na en_182 O O) ?_;intro w hF;refine Ba (Qk O) (Ba (Tj O O) (Ba (Ao O O) (Ba (Gb O) (Ba (Db O) (Rb (Ba (Vb O) (Ba (Vb O) ?_)))))));refine Lc (d:=83) O (λhg7=>?_) (λhg7=>?_)
  ·
   refine Ba (Vb O) (Ba (Tb O O) (Ba (Vb O) ?_));refine Lc (d:=86) O (λhg8=>?_) (λhg8=>?_)
   ·
    refine Ba (Za O) (Ba (Nw O O) (Ba (Tb O O) (Ba (Db O) (Da ?_))));refine Gc (v:=.bool _) O O ⟨congrArg Value.bool ?_,hF.same⟩
    first|(exfalso;omega)|rw[nd7 Aa (hk0 Aa) (hx0 Aa Aa)]
    all_goals first|exact (SA (by assumption)).symm|exact (OB (by assumption)).symm|exact (OJ (by assumption) (by assumption)).symm
   refine Ca (Ca (Ba (Kb O O) (Ba (Db O) (Da ?_))));refine Gc (v:=.bool false) O O ⟨congrArg Value.bool ?_,hF.same⟩
   first|(exfalso;omega)|rw[nd7 Aa (hk0 Aa) (hx0 Aa Aa)]
   all_goals first|exact (SA (by assumption)).symm|exact (OB (by assumption)).symm|exact (OJ (by assumption) (by assumption)).symm
  refine Ca (Ba (Kb O O) (Ba (Vb O) (Ca (Ca (Ba (Kb O O) (Ba (Db O) (Da ?_)))))));refine Gc (v:=.bool false) O O ⟨congrArg Value.bool ?_,hF.same⟩
  first|(exfalso;omega)|rw[nd7 Aa (hk0 Aa) (hx0 Aa Aa)]
  all_goals first|exact (SA (by assumption)).symm|exact (OB (by assumption)).symm|exact (OJ (by assumption) (by assumption)).symm
 refine Ea (Ba (Qf O O) (Ba (Db O) (Da ?_)));refine Ib O O (λhc7=>?_) (λhc7=>?_)
 ·
  refine Ga (Ea (Ba (Gb O) (Da (Qa ?_))));refine Jc (λμ σ w=>∃(i:Nat),μ=ks.length-i/\(i<=ks.length)/\((ks.take i).all Lib.validD=true)/\((ks.take i).Nodup)/\AllEq σ [(1,V b1),(9,J ((i:Int)))]/\FR w0 [] [(b1,.cells #[J k,I t,.slice A ks.length c,.slice B xs.length e] 25)] w) _ ⟨0,O,(Nat.zero_le _),Ma,Ma,J4,hF⟩ ?_;rintro μ σ w ⟨i,rfl,hi,hva,hnd,hs,hF⟩;refine Cg.slots hs ?_;clear hs;intro σ;refine Ga (Ea (Ba (Za O) (Ba (Ob Td O) (Zb (Xe yQ O hF.F 0 O O) (Ba (Ch yZ O) (Ba (Di O O) (Da ?_)))))));refine Ib O O (λhc8=>?_) (λhc8=>?_)
  ·
   refine La (Fa (Ga (Qa (Ea (Ba (Ob Td O) (Zb (Xe yQ O hF.F 0 O O) (Ba (Za O) ?_)))))));obtain⟨ad9,hA9,hk9,hx9⟩:=hK.str_elem (i:=i) Aa;refine Ka (v:=.pointer (some (ad9.add (i*1)))) (Sa (i:=(i:Int)) Ip O hA9 O Aa Aa) (Ka (v:=I (ks[i])) (Qd jZ O (hF.cell0 hk9)) ?_);refine Oa hF (utf_c ks[i] (by have:=hkm i Aa;omega) _) (Na BY O O) ?_;intro w hF;refine Ba (Db O) (Da (Ga (Ea (Ba (Vb O) (Ba (Si O) (Da ?_))))));refine Le O O (λhc9=>?_) (λhc9=>?_)
   ·
    refine Ea (Ba (Db O) (Da ?_));refine Gc (v:=.bool false) O O ⟨congrArg Value.bool ?_,hF.same⟩;have h6:k=6:=Aa;subst h6;exact (six_bad (i:=i) Aa (Gj (by assumption))).symm
   refine La (Fa (Ea (Ba (Gb O) (Da (Qa ?_)))));have hik:i<ks.length:=by omega
   refine Jc (λμ σ w=>∃(m:Nat),μ=i-m/\(m<=i)/\(∀q (hq:q<ks.length),q<m->ks[q]≠ks[i]' hik)/\AllEq σ [(1,V b1),(9,J ((i:Int))),(11,J ((m:Int)))]/\FR w0 [] [(b1,.cells #[J k,I t,.slice A ks.length c,.slice B xs.length e] 25)] w) _ ⟨0,O,(Nat.zero_le _),(λq _ h=>absurd h Aa),Oq,hF⟩ ?_;rintro μ σ w ⟨m,rfl,hmi,hno,hs,hF⟩;refine Cg.slots hs ?_;clear hs;intro σ;refine Ga (Ea (Ba (Za O) (Ba (Za O) (Ba (Di O O) (Da ?_)))));refine Ib O O (λhc10=>?_) (λhc10=>?_)
   ·
    refine La (Fa (Ga (Qa (Ga ?_))));refine Md (zs:=.of []) (bQ [0,1,2,3,4,5,6,7,8,9,10] .nil) hF ?_;intro w hF;refine Jb O (Ob Td O) (Fg O (Xe yQ O C0 0 O O) (Jb O (Za O) ?_));obtain⟨ad10,hA10,hk10,hx10⟩:=hK.str_elem (i:=m) Aa;refine Cb O (v:=.pointer (some (ad10.add (m*1)))) (λw hC=>Sa (i:=(m:Int)) Ip O hA10 O Aa Aa) (Cb O (v:=I (ks[m])) (λw hC=>Qd jZ O (hC.cell0 hk10)) (Jb O (Ob Td O) (Fg O (Xe yQ O C0 0 O O) (Jb O (Za O) ?_))));obtain⟨ad11,hA11,hk11,hx11⟩:=hK.str_elem (i:=i) Aa;refine Cb O (v:=.pointer (some (ad11.add (i*1)))) (λw hC=>Sa (i:=(i:Int)) Ip O hA11 O Aa Aa) (Cb O (v:=I (ks[i])) (λw hC=>Qd jZ O (hC.cell0 hk11)) (Jb O (Rw O O) (Hc (Fa ?_))));refine Ib O O (λhc11=>?_) (λhc11=>?_)
    ·
     refine Ea (Ba (Db O) (Da ?_));refine Gc (v:=.bool false) O O ⟨congrArg Value.bool ?_,hF.same⟩;have h6:k=6:=Aa;subst h6;exact (six_dup (i:=i) (m:=m) Aa Aa (by assumption)).symm
    refine La (Bb (Fa (Ha (Ba (Za O) (Ba (Ek (((m+1:Nat):Int)) O O) (Ba (Gb O) (Ta ?_)))))));refine Hb ⟨_,?_,m+1,rfl,Aa,(λq hq h=>by rcases Nat.lt_or_ge q m with h1|h1;exact hno q hq h1;obtain rfl:q=m:=Aa;assumption),Oq,hF⟩;omega
   refine Ec (Ac O ?_);refine Bb (Fa (Ha (Ba (Za O) (Ba (Ek (((i+1:Nat):Int)) O O) (Ba (Gb O) (Ta ?_))))));refine Hb ⟨_,?_,i+1,rfl,Aa,(Ww Aa hva (Gf (by assumption))),(Ht Aa hnd (λhm=>by obtain⟨q,hq,hq2⟩:=List.mem_take_iff_getElem.1 hm;exact hno q Aa Aa hq2)),J4,hF⟩;omega
  refine Ec (Ac O ?_);refine Fa (Ea (Ba (Ob Wd O) (Zb (Pk jZ O hF.F 0 O O) (Ba (Rw O O) (Ba (Vb O) ?_)))));refine Ya (d:=126) O (λhg12=>?_) (λhg12=>?_)
  ·
   refine Ba (Ob Td O) (Zb (Xe yQ O hF.F 0 O O) (Ba (Ch yZ O) (Ba (Ob Xb O) (Zb (Xe zQ O hF.F 0 O O) (Ba (Ch zZ O) (Ba (Qf O O) (Ba (Tb O O) (Ba (Db O) (Da ?_)))))))));refine Gc (v:=.bool _) O O ⟨congrArg Value.bool ?_,hF.same⟩;have h6:k=6:=Aa;subst h6;have hz:=XP (t:=t) (ks:=ks) (xs:=xs) (by rw[<-List.take_of_length_le (show ks.length<=i by omega)];exact hnd) (by rw[<-List.take_of_length_le (show ks.length<=i by omega)];exact hva);rw[hz]
   first|(rw[decide_eq_true (show t=[] by assumption),Bool.true_and])|(rw[decide_eq_false (show ¬t=[] by assumption),Bool.false_and])
  refine Ca (Ca (Ca (Ca (Ca (Ca (Ca (Ba (Kb O O) (Ba (Db O) (Da ?_)))))))));refine Gc (v:=.bool false) O O ⟨congrArg Value.bool ?_,hF.same⟩;have h6:k=6:=Aa;subst h6;have hz:=XP (t:=t) (ks:=ks) (xs:=xs) (by rw[<-List.take_of_length_le (show ks.length<=i by omega)];exact hnd) (by rw[<-List.take_of_length_le (show ks.length<=i by omega)];exact hva);rw[hz]
  first|(rw[decide_eq_true (show t=[] by assumption),Bool.true_and])|(rw[decide_eq_false (show ¬t=[] by assumption),Bool.false_and])
 refine La (Bb (Fa (Ea (Ba (Db O) (Da ?_)))));refine Gc (v:=.bool false) O O ⟨congrArg Value.bool ?_,hF.same⟩;exact (SY Aa Aa Aa Aa Aa Aa Aa).symm
theorem PE{α:Type}{f:α->Bool}{l:List α}{j:Nat}(h:j<l.length)(ha:(l.take j).all f=true)(hf:f l[j]=true):(l.take (j+1)).all f=true:=by
  rw[iQ h,List.all_append,ha,List.all_cons,hf];rfl
theorem No{α:Type}{f:α->Bool}{l:List α}{j:Nat}(h:j<l.length)(hf:f l[j]=false):l.all f=false:=by
  rw[Bool.eq_false_iff];intro ha;have:=List.all_eq_true.1 ha l[j] (eQ h);rw[hf]at this;cases this
theorem X0{h:Bool}{x:Tree}(h1:(!nodeB x)=true):W3 h x=false:=by rw[W3,Gj h1];rfl
theorem G2{h:Bool}{k:Int}{t:Str}{ks:List Str}{xs:List Tree}(h1:k=7)(h2:h=false):W3 h (.node k t ks xs)=false:=by rw[W3,h2];simp[Tree.kind,h1]
theorem Hw{h:Bool}{k:Int}{t:Str}{ks:List Str}{xs:List Tree}(h0:nodeB (.node k t ks xs)=true)(h1:¬k=7):W3 h (.node k t ks xs)=true:=by rw[W3,h0];simp[Tree.kind,h1]
theorem Lv{h:Bool}{x:Tree}(h0:nodeB x=true)(h1:h=true):W3 h x=true:=by rw[W3,h0,h1];rfl
theorem Kw(q:Tree->Bool)(k:Int)(t:Str)(ks:List Str)(xs:List Tree):Xc q (.node k t ks xs)=(q (.node k t ks xs)&&xs.all (Xc q)):=by rw[Xc,Nj]
theorem OF(k:Int)(t:Str)(ks:List Str)(xs:List Tree)(ih:∀x,x∈xs->TL x):TL (.node k t ks xs):=by
 intro hsz hm h S w0 cs hR;obtain⟨A,c,B,e,rfl,-,-,hK,hX⟩:=hR.tree_inv;have hR0:=hR;have hXl:=hX.slice_len;rw[Qb]at hsz;refine Ia func94 O ntmps94 Eb (Pc _ _) ?_;have hF:=FR.start w0 [];refine Ea (Oe hF O ?_);rintro b1 w hb1 hF -;refine Ba (Db O) (Rb (Zb (Of aZ nZ O hF.F 0 O O) ?_));refine Oa hF (rnode_c_ k t ks xs _ _ _ (hF.rep hR0) hm) (Na en_140 O O) ?_;intro w hF;refine Ba (Db O) (Da (Ga (Ea (Ba (Vb O) (Ba (Si O) (Ba (Vb O) ?_))))));refine Lc (d:=12) O (λhg0=>?_) (λhg0=>?_);refine Ca (Ca (Ca (Ca (Ca (Ca (Ca (Ba (Tb O O) (Da (Ad O (Ea (Ba (Db O) ?_)))))))))));refine Da (Gc (v:=.bool false) O O ?_);refine⟨congrArg Value.bool ?_,hF.same⟩;rw[Kw]
 ·first|(rw[X0 (by assumption)];rfl)|(rw[G2 (by assumption) (Gj (by assumption))];rfl)|(rw[No (f:=Xc (W3 h)) (l:=xs) (j:=j) Aa (Gj (by assumption))];simp;done)|(have hz:xs.all (Xc (W3 h))=true:=(by rw[<-List.take_of_length_le (show xs.length<=j by omega)];exact ha);rw[hz];first|(rw[Hw (Gf (by assumption)) (by assumption)];rfl)|(rw[Lv (Gf (by assumption)) (Gf (by assumption))];rfl))
 refine Ba (Ob Xd O) (Zb (Th eZ O hF.F 0 O O) (Ba (Qf O O) (Ba (Vb O) ?_)));refine Ya (d:=16) O (λhg1=>?_) (λhg1=>?_);refine Ba (Vb O) (Ba (Si O) (Ba (Tb O O) (Ba (Kb O O) (Da ?_))));refine Le O O (λhc0=>?_) (λhc0=>?_);refine Ea (Ba (Db O) (Da ?_));refine Gc (v:=.bool false) O O ⟨congrArg Value.bool ?_,hF.same⟩;rw[Kw]
 ·first|(rw[X0 (by assumption)];rfl)|(rw[G2 (by assumption) (Gj (by assumption))];rfl)|(rw[No (f:=Xc (W3 h)) (l:=xs) (j:=j) Aa (Gj (by assumption))];simp;done)|(have hz:xs.all (Xc (W3 h))=true:=(by rw[<-List.take_of_length_le (show xs.length<=j by omega)];exact ha);rw[hz];first|(rw[Hw (Gf (by assumption)) (by assumption)];rfl)|(rw[Lv (Gf (by assumption)) (Gf (by assumption))];rfl))
 refine La (Fa (Ga (Ea (Ba (Gb O) (Da (Qa ?_))))));refine Jc (λμ σ w=>∃(j:Nat),μ=xs.length-j/\(j<=xs.length)/\((xs.take j).all (Xc (W3 h))=true)/\AllEq σ [(1,.bool (h)),(2,V b1),(6,J ((j:Int)))]/\FR w0 [] [(b1,.cells #[J k,I t,.slice A ks.length c,.slice B xs.length e] 25)] w) _ ⟨0,O,(Nat.zero_le _),Ma,Oq,hF⟩ ?_;rintro μ σ w ⟨j,rfl,hj,ha,hs,hF⟩;refine Cg.slots hs ?_;clear hs;intro σ;refine Ga (Ea (Ba (Za O) (Ba (Ob Xb O) (Zb (Xe zQ O hF.F 0 O O) (Ba (Ch zZ O) (Ba (Di O O) (Da ?_)))))));refine Ib O O (λhc1=>?_) (λhc1=>?_);refine La (Fa (Ga (Qa (Ea (Ba (Ob Xb O) (Zb (Xe zQ O hF.F 0 O O) (Ba (Za O) ?_)))))));obtain⟨ad2,cs2,hA2,hl2,hk2,hx2⟩:=hX.tree_elem (i:=j) Aa;have ho2:=hx2.one_;refine Ka (v:=.pointer (some (ad2.add (j*4)))) (Sa (i:=(j:Int)) Hg O hA2 O Aa Aa) (Ka (v:=.agg (List.toArray cs2)) (Wa (l:=cs2) aZ nZ O hl2 (hF.cells0 hk2)) (Ba (Vb O) ?_));refine Oa hF (ih _ (eQ _) (by have:=Ug (List.getElem_mem (l:=xs) (n:=j) Aa);omega) (by have:=Oj (List.getElem_mem (l:=xs) (n:=j) Aa);rw[Be]at hm;omega) h _ _ _ (hF.rep hx2)) (Xa DY O O O) ?_;intro w hF;refine Ba (Db O) (Rb (Ba (Vb O) (Ba (Si O) (Da ?_))));refine Le O O (λhc2=>?_) (λhc2=>?_);refine Ea (Ba (Db O) (Da ?_));refine Gc (v:=.bool false) O O ⟨congrArg Value.bool ?_,hF.same⟩;rw[Kw]
 ·first|(rw[X0 (by assumption)];rfl)|(rw[G2 (by assumption) (Gj (by assumption))];rfl)|(rw[No (f:=Xc (W3 h)) (l:=xs) (j:=j) Aa (Gj (by assumption))];simp;done)|(have hz:xs.all (Xc (W3 h))=true:=(by rw[<-List.take_of_length_le (show xs.length<=j by omega)];exact ha);rw[hz];first|(rw[Hw (Gf (by assumption)) (by assumption)];rfl)|(rw[Lv (Gf (by assumption)) (Gf (by assumption))];rfl))
 refine La (Bb (Fa (Ha (Ba (Za O) (Ba (Ek (((j+1:Nat):Int)) O O) (Ba (Gb O) (Ta ?_)))))));refine Hb ⟨_,?_,j+1,O,Aa,(PE Aa ha (Gf (by assumption))),Oq,hF⟩;omega;refine Ec (Ac O ?_);refine Fa (Ea (Ba (Db O) (Da ?_)));refine Gc (v:=.bool true) O O ⟨congrArg Value.bool ?_,hF.same⟩;rw[Kw]
 ·first|(rw[X0 (by assumption)];rfl)|(rw[G2 (by assumption) (Gj (by assumption))];rfl)|(rw[No (f:=Xc (W3 h)) (l:=xs) (j:=j) Aa (Gj (by assumption))];simp;done)|(have hz:xs.all (Xc (W3 h))=true:=(by rw[<-List.take_of_length_le (show xs.length<=j by omega)];exact ha);rw[hz];first|(rw[Hw (Gf (by assumption)) (by assumption)];rfl)|(rw[Lv (Gf (by assumption)) (Gf (by assumption))];rfl))
 refine Ca (Ca (Ba (Kb O O) (Ba (Kb O O) (Da (Sn O (Ga (Ea (Ba (Gb O) (Ta ?_)))))))));refine Fa (Qa ?_);refine Jc (λμ σ w=>∃(j:Nat),μ=xs.length-j/\(j<=xs.length)/\((xs.take j).all (Xc (W3 h))=true)/\AllEq σ [(1,.bool (h)),(2,V b1),(6,J ((j:Int)))]/\FR w0 [] [(b1,.cells #[J k,I t,.slice A ks.length c,.slice B xs.length e] 25)] w) _ ⟨0,O,(Nat.zero_le _),Ma,Oq,hF⟩ ?_;rintro μ σ w ⟨j,rfl,hj,ha,hs,hF⟩;refine Cg.slots hs ?_;clear hs;intro σ;refine Ga (Ea (Ba (Za O) (Ba (Ob Xb O) (Zb (Xe zQ O hF.F 0 O O) (Ba (Ch zZ O) (Ba (Di O O) (Da ?_)))))));refine Ib O O (λhc1=>?_) (λhc1=>?_);refine La (Fa (Ga (Qa (Ea (Ba (Ob Xb O) (Zb (Xe zQ O hF.F 0 O O) (Ba (Za O) ?_)))))));obtain⟨ad3,cs3,hA3,hl3,hk3,hx3⟩:=hX.tree_elem (i:=j) Aa;have ho3:=hx3.one_;refine Ka (v:=.pointer (some (ad3.add (j*4)))) (Sa (i:=(j:Int)) Hg O hA3 O Aa Aa) (Ka (v:=.agg (List.toArray cs3)) (Wa (l:=cs3) aZ nZ O hl3 (hF.cells0 hk3)) (Ba (Vb O) ?_));refine Oa hF (ih _ (eQ _) (by have:=Ug (List.getElem_mem (l:=xs) (n:=j) Aa);omega) (by have:=Oj (List.getElem_mem (l:=xs) (n:=j) Aa);rw[Be]at hm;omega) h _ _ _ (hF.rep hx3)) (Xa DY O O O) ?_;intro w hF;refine Ba (Db O) (Rb (Ba (Vb O) (Ba (Si O) (Da ?_))));refine Le O O (λhc2=>?_) (λhc2=>?_);refine Ea (Ba (Db O) (Da ?_));refine Gc (v:=.bool false) O O ⟨congrArg Value.bool ?_,hF.same⟩;rw[Kw]
 ·first|(rw[X0 (by assumption)];rfl)|(rw[G2 (by assumption) (Gj (by assumption))];rfl)|(rw[No (f:=Xc (W3 h)) (l:=xs) (j:=j) Aa (Gj (by assumption))];simp;done)|(have hz:xs.all (Xc (W3 h))=true:=(by rw[<-List.take_of_length_le (show xs.length<=j by omega)];exact ha);rw[hz];first|(rw[Hw (Gf (by assumption)) (by assumption)];rfl)|(rw[Lv (Gf (by assumption)) (Gf (by assumption))];rfl))
 refine La (Bb (Fa (Ha (Ba (Za O) (Ba (Ek (((j+1:Nat):Int)) O O) (Ba (Gb O) (Ta ?_)))))));refine Hb ⟨_,?_,j+1,O,Aa,(PE Aa ha (Gf (by assumption))),Oq,hF⟩;omega;refine Ec (Ac O ?_);refine Fa (Ea (Ba (Db O) (Da ?_)));refine Gc (v:=.bool true) O O ⟨congrArg Value.bool ?_,hF.same⟩;rw[Kw]
 ·first|(rw[X0 (by assumption)];rfl)|(rw[G2 (by assumption) (Gj (by assumption))];rfl)|(rw[No (f:=Xc (W3 h)) (l:=xs) (j:=j) Aa (Gj (by assumption))];simp;done)|(have hz:xs.all (Xc (W3 h))=true:=(by rw[<-List.take_of_length_le (show xs.length<=j by omega)];exact ha);rw[hz];first|(rw[Hw (Gf (by assumption)) (by assumption)];rfl)|(rw[Lv (Gf (by assumption)) (Gf (by assumption))];rfl))
theorem YR(x:Tree):TL x:=Tree.ind OF x
theorem NM(x:Tree)(hsz:Qb x<=1000000000)(hm:Be x<=1073741824)(S:Nat->Prop)(w0:World)(cs:List Value)(hR:Rep S w0 (Pb x) cs):Calls prog 56 #[.agg cs.toArray] w0 (Dd λv w'=>v=.bool (Kd x)/\Same [] w0 w'):=by
 have hl:cs.length=4:=hR.length.trans (Yc x);have ho:=hR.one_;refine Ia func56 O ntmps56 Eb (Yb _) ?_;have hF:=FR.start w0 [];refine Ea (Jm (v:=.agg (List.toArray cs)) (cs:=(List.toArray cs)) hF O O ?_);rintro b1 w hb1 hF -;refine Ba (Db O) (Rb (Ka (v:=.agg (List.toArray cs)) (Wa (l:=cs) aZ nZ O hl (hF.cellsAll 0 O)) ?_));refine Oa hF (ZZ x hsz _ _ cs (hF.rep hR)) (Na en_92 O O) ?_;intro w hF;refine Ba (XC O O) (Ba (Vb O) ?_);refine Ya (d:=6) O (λhg0=>?_) (λhg0=>?_);refine Ka (v:=.agg (List.toArray cs)) (Wa (l:=cs) aZ nZ O hl (hF.cellsAll 0 O)) (Oa hF (VQ x hsz _ _ cs (hF.rep hR)) (Na en_93 O O) ?_);intro w hF;refine Ba (XC O O) (Ba (Tb O O) (Ba (Vb O) ?_));refine Ya (d:=11) O (λhg1=>?_) (λhg1=>?_);refine Ka (v:=.agg (List.toArray cs)) (Wa (l:=cs) aZ nZ O hl (hF.cellsAll 0 O)) ?_;refine Oa hF ((by have h:=YR x hsz hm true _ _ cs (hF.rep hR);rw[hn_true]at h;exact h)) (Xa DY O O O) ?_;intro w hF;refine Ba (Tb O O) (Ba (Db O) (Da ?_));refine Gc (v:=.bool _) O O ⟨congrArg Value.bool ?_,hF.same⟩;unfold Kd Im
 ·first|(rw[decide_eq_false (show ¬Qb x<=4096 by omega)];simp;done)|(rw[decide_eq_false (show ¬Cd x<=32 by omega)];simp;done)|(rw[decide_eq_true (show Qb x<=4096 by omega),decide_eq_true (show Cd x<=32 by omega)];simp;done)|simp_all
 refine Ca (Ca (Ba (Kb O O) (Ba (Db O) (Da ?_))));refine Gc (v:=.bool false) O O ⟨congrArg Value.bool ?_,hF.same⟩;unfold Kd Im
 ·first|(rw[decide_eq_false (show ¬Qb x<=4096 by omega)];simp;done)|(rw[decide_eq_false (show ¬Cd x<=32 by omega)];simp;done)|(rw[decide_eq_true (show Qb x<=4096 by omega),decide_eq_true (show Cd x<=32 by omega)];simp;done)|simp_all
 refine Ca (Ca (Ca (Ba (Kb O O) (Ba (Vb O) (Ca (Ca (Ba (Kb O O) (Ba (Db O) (Da ?_)))))))));refine Gc (v:=.bool false) O O ⟨congrArg Value.bool ?_,hF.same⟩;unfold Kd Im
 ·first|(rw[decide_eq_false (show ¬Qb x<=4096 by omega)];simp;done)|(rw[decide_eq_false (show ¬Cd x<=32 by omega)];simp;done)|(rw[decide_eq_true (show Qb x<=4096 by omega),decide_eq_true (show Cd x<=32 by omega)];simp;done)|simp_all
def atZ(ks:List Str)(key:Str):Int:=if key∈ks then ((ks.idxOf key:Nat):Int) else -1
theorem WU:∀{ks:List Str}{key:Str}{j:Nat}(h:j<ks.length),(∀x∈ks.take j,x≠key)->ks[j]=key->ks.idxOf key=j
  | k :: ks, key, 0, _, _, he => by
    have he':k=key:=he;rw[List.idxOf_cons,he'];simp
  | k :: ks, key, j + 1, h, hn, he => by
    have h0:k≠key:=hn k Ma;rw[List.idxOf_cons];have hb:(k==key)=false:=by simpa using h0
    rw[hb];simp only[cond_false];rw[WU (ks:=ks) (j:=j) (by simpa using h) (λx hx=>hn x (by simp[hx])) (by simpa using he)]
theorem RU{ks:List Str}{key:Str}{j:Nat}(h:j<ks.length)(hn:∀x∈ks.take j,x≠key)(he:ks[j]=key):atZ ks key=(j:Int):=by
  rw[atZ,if_pos (by rw[<-he];exact eQ h),WU h hn he]
theorem at_none{ks:List Str}{key:Str}(hn:∀x∈ks,x≠key):atZ ks key = -1:=by
  rw[atZ,if_neg (λh=>hn key h rfl)]
theorem no_next{ks:List Str}{key:Str}{j:Nat}(h:j<ks.length)(hn:∀x∈ks.take j,x≠key)(he:ks[j]≠key):∀x∈ks.take (j+1),x≠key:=by
  rw[iQ h];intro x hx;rcases mQ.1 hx with hx|hx
  ·exact hn x hx
  rw[pQ.1 hx];exact he
theorem at_c(k:Int)(t:Str)(ks:List Str)(xs:List Tree)(key:Str)(S:Nat->Prop)(w0:World)(cs:List Value)(hR:Rep S w0 (Pb (.node k t ks xs)) cs):Calls prog 95 #[.agg cs.toArray,I key] w0 (Dd λv w'=>v=J (atZ ks key)/\Same [] w0 w'):=by
 obtain⟨A,c,B,e,rfl,-,-,hK,hX⟩:=hR.tree_inv;have hKl:=hK.slice_len;refine Ia func95 O ntmps95 Eb (Pc _ _) ?_;have hF:=FR.start w0 [];refine Ea (Oe hF O ?_);rintro b1 w hb1 hF -;refine Ba (Gb O) (Da (Ga (Ea (Ba (Gb O) (Da (Qa ?_))))));refine Jc (λμ σ w=>∃(j:Nat),μ=ks.length-j/\(j<=ks.length)/\(∀x∈ks.take j,x≠key)/\AllEq σ [(1,I key),(2,V b1),(5,J ((j:Int)))]/\FR w0 [] [(b1,.cells #[J k,I t,.slice A ks.length c,.slice B xs.length e] 25)] w) _ ⟨0,O,(Nat.zero_le _),Ma,Oq,hF⟩ ?_;rintro μ σ w ⟨j,rfl,hj,hno,hs,hF⟩;refine Cg.slots hs ?_;clear hs;intro σ;refine Ga (Ea (Ba (Za O) (Ba (Ob Td O) (Zb (Xe yQ O hF.F 0 O O) (Ba (Ch yZ O) (Ba (Di O O) (Da ?_)))))));refine Ib O O (λhc0=>?_) (λhc0=>?_);refine La (Fa (Ga (Qa (Ea (Ba (Ob Td O) (Zb (Xe yQ O hF.F 0 O O) (Ba (Za O) ?_)))))));obtain⟨ad0,hA0,hk0,hx0⟩:=hK.str_elem (i:=j) Aa;refine Ka (v:=.pointer (some (ad0.add (j*1)))) (Sa (i:=(j:Int)) Ip O hA0 O Aa Aa) (Ka (v:=I (ks[j])) (Qd jZ O (hF.cell0 hk0)) (Ba (Bc O) (Ba (Rw O O) (Da ?_))));refine Ib O O (λhc1=>?_) (λhc1=>?_);refine Ea (Ba (Za O) (Ba (Gb O) (Da ?_)));refine Gc (v:=J ((j:Int))) O O ?_;exact⟨by rw[RU Aa hno (by assumption)],hF.same⟩;refine La (Bb (Fa (Ha (Ba (Za O) (Ba (Ek (((j+1:Nat):Int)) O O) (Ba (Gb O) (Ta ?_)))))));refine Hb ⟨_,?_,j+1,O,Aa,(no_next Aa hno (by assumption)),Oq,hF⟩;omega;refine Ec (Ac O ?_);refine Fa (Ea (Ba (Gb O) (Da ?_)));refine Gc (v:=J ((-1))) O O ?_;exact⟨by rw[at_none (by rw[List.take_of_length_le Aa]at hno;exact hno)],hF.same⟩
end Go.Scarf
