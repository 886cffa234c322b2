/- A part of the proof. -/
import Derived.Test.YtbhneplafiapdaaGreatDoorHm
import Derived.Test.YtbhneplafiapdaaGreatDoorMs
set_option linter.all false
set_option maxHeartbeats 8000000
set_option maxRecDepth 10000
namespace Go.Scarf
open Go.RowKit Go.Proofs Go.Proofs.Tryz
theorem M5{n last:Int}{l:List Int}{j:Nat}(hj:j<l.length):Gi n last (l.drop j)=(decide (last<l[j])&&(decide (l[j]<n)&&Gi n l[j] (l.drop (j+1)))):=by rw[List.drop_eq_getElem_cons hj];rfl
theorem Ot{n last R:Int}{l:List Int}{j:Nat}{b:Bool}(hj:j<l.length)(h:Gi n last (l.drop j)=b)(h1:l[j]<=last):b=false:=by
  rw[M5 hj,decide_eq_false U]at h;exact h.symm
theorem Ut{n last R:Int}{l:List Int}{j:Nat}{b:Bool}(hj:j<l.length)(h:Gi n last (l.drop j)=b)(h1:n<=l[j]):b=false:=by
  rw[M5 hj,decide_eq_false (p:=l[j]<n) U,Bool.false_and,Bool.and_false]at h;exact h.symm
theorem Fw{n last:Int}{l:List Int}{j:Nat}{b:Bool}(hj:j<l.length)(h:Gi n last (l.drop j)=b)(h1:¬l[j]<=last)(h2:¬n<=l[j]):Gi n l[j] (l.drop (j+1))=b:=by
  rw[M5 hj,decide_eq_true U,decide_eq_true U]at h;exact h
theorem Y1{n last:Int}{l:List Int}{j:Nat}{b:Bool}(hj:l.length<=j)(h:Gi n last (l.drop j)=b):b=true:=by
  rw[List.drop_of_length_le hj]at h;exact h.symm
theorem Dl{x:Cm}{n:Nat}(h:Gi (n:Int) (-1) x.par=false):Fe x n=false:=by unfold Fe;rw[h];rfl
theorem Ns{x:Cm}{n:Nat}(h:Gi (n:Int) (-1) x.par=true):Fe x n=Jd x.val:=by unfold Fe;rw[h];rfl
theorem Ov{h:List Cm}{j:Nat}(hj:j<h.length)(hc:Fe h[j] j=false):Pc h=false:=by
  rw[Bool.eq_false_iff];intro hr;rw[Vn hr hj]at hc;cases hc
theorem Hs{h:List Cm}(hl:64<h.length):Pc h=false:=by unfold Pc;rw[decide_eq_false U];rfl
theorem Dt{h:List Cm}(hl:h.length<=64)(ha:∀i (hi:i<h.length),Fe h[i] i=true):Pc h=true:=by
  unfold Pc;rw[decide_eq_true hl,Bool.true_and,List.all_eq_true];intro i hi;have hi':=List.mem_range.1 hi;rw[List.getD,List.getElem?_eq_getElem hi',Option.getD_some];exact ha i hi'
theorem N3{h:List Cm}{j:Nat}(hn:∀i (hi:i<h.length),i<j->Fe h[i] i=true)(hj:∀hj:j<h.length,Fe h[j] j=true):∀i (hi:i<h.length),i<j+1->Fe h[i] i=true:=λi hi h2=>by
  by_cases e:i=j
  ·subst e;exact hj hi
  exact hn i hi U
def Ai(x:Cm):Prop:=Ub x.val<=1000000000/\H2 x.val
theorem E8(x:Cm)(q:Mv)(n:Nat)(S:Nat->Prop)(w0:World)(hq:q.n=x.par.length)(hP:Rep S w0 (.slice (x.par.map We)) [.slice q.A q.n q.c])(hV:Rep S w0 (Fc x.val) q.v.cells)(hT:Ai x)(hG:Gl w0):Calls prog 30 #[.agg q.cells.toArray,J (n:Int)] w0 (Vd λv w'=>v=.bool (Fe x n)/\Same [] w0 w'):=by
 have hPl:=hP.slice_len;refine Ka func30 O ntmps30 Mb (Ae _ _) ?_;have hF:=FR.start w0 [];refine Ia (Xf hF O ?_);rintro b1 w hb1 hF -;refine Ca (Eb O) (Ec (Ca (Bc O) (Fa (Ha (Ia (Ca (Cd Ze O) (Ed (Mh uQ O hF.F 0 O O) (Ca (Rf oZ O) ?_))))))));refine Ca (Db O) (Fa (Sa ?_));refine Gc (λμ σ w=>∃(j:Nat),∃(last:Int),μ=x.par.length-j/\(j<=x.par.length)/\(Gi (n:Int) last (x.par.drop j)=Gi (n:Int) (-1) x.par)/\AllEq σ [(1,J ((n:Int))),(2,V b1),(5,J last),(9,.slice q.A q.n q.c),(10,J ((q.n:Nat))),(11,J ((j:Int)))]/\FR w0 [] [(b1,.cells (q.cells).toArray 29)] w) _ ⟨0,-1,O,(Nat.zero_le _),(O),UA,hF⟩ ?_;rintro μ σ w ⟨j,last,rfl,hj,hr,hs,hF⟩;refine Cg.slots hs ?_;clear hs;intro σ;refine Ia (Ca (Tg O O) (Fa (Ha ?_)));refine Wb O O (λhc0=>?_) (λhc0=>?_);refine Ma (Ga (Ha (Sa (Ia ?_))));obtain⟨ad0,hA0,hk0,hx0⟩:=hP.int_elem (i:=j) U;refine Ja (v:=.pointer (some (ad0.add (j*1)))) (Qa (i:=(j:Int)) Xk O hA0 O U U) (Ja (v:=J (x.par[j])) (Oc yQ O (hF.cell0 hk0)) (Ca (Bc O) (Fa (Ha (Ia (Ca (Db O) (Ca (Db O) (Ca (Sx O O) (Ca (Xb O) ?_)))))))));refine Xa (d:=18) O (λhg1=>?_) (λhg1=>?_);refine Da (Da (Da (Ca (Rb O O) (Fa (Od O (Ia (Ca (Eb O) (Fa ?_))))))));refine Tc (v:=.bool false) O O ?_
 first|exact⟨congrArg Value.bool (Dl (Ot (R:=0) U hr U)).symm,hF.same⟩|exact⟨congrArg Value.bool (Dl (Ut (R:=0) U hr U)).symm,hF.same⟩
 refine Ca (Db O) (Ca (Db O) (Ca (Gt O O) (Ca (Jb O O) (Fa ?_))));refine Wb O O (λhc1=>?_) (λhc1=>?_);refine Ia (Ca (Eb O) (Fa ?_));refine Tc (v:=.bool false) O O ?_
 first|exact⟨congrArg Value.bool (Dl (Ot (R:=0) U hr U)).symm,hF.same⟩|exact⟨congrArg Value.bool (Dl (Ut (R:=0) U hr U)).symm,hF.same⟩
 refine Ma (Ga (Ea (Ca (Db O) (Ca (Bc O) (Ra (Ib (Ga (Ea (Ca (Uk (((j+1:Nat):Int)) O O) (Ca (Db O) (Ra ?_)))))))))));refine Za ⟨_,?_,j+1,x.par[j],O,U,(Fw U hr U U),UA,hF⟩;omega;refine Zb (Vb O ?_);refine Ga (Ia (Ca (Cd Lh O) (Ja (v:=.agg (q.v.cells).toArray) (Hb (l:=q.v.cells) xQ fZ O O (hF.part 0 1 O O)) ?_)));refine Ta hF (BD x.val hT.1 _ _ q.v.cells (hF.rep hV) hT.2 (hG.ext hF.same)) (Va UR O O) ?_;intro w hF;refine Ca (Eb O) (Fa ?_);refine Tc (v:=.bool _) O O ?_;exact⟨congrArg Value.bool (Ns (Y1 U hr)).symm,hF.same⟩
theorem B2(h:List Cm)(A:Option Addr)(c:Nat)(S:Nat->Prop)(w0:World)(hX:Rep S w0 (Xg h) [.slice A h.length c])(hT:∀x∈h,Ai x)(hG:Gl w0):Calls prog 14 #[.slice A h.length c] w0 (Vd λv w'=>v=.bool (Pc h)/\Same [] w0 w'):=by
 have hXl:=hX.slice_len;simp only[rQ]at hXl;refine Ka func14 O ntmps14 Mb (Jc _) ?_;have hF:=FR.start w0 [];refine Ia (Ca (Eb O) (Fa (Ha (Ia (Ca (Kd O) (Ca (Rf nZ O) (Ca (Jo O O) (Fa ?_))))))));refine Wb O O (λhc0=>?_) (λhc0=>?_);refine Ia (Ca (Eb O) (Fa ?_));refine Tc (v:=.bool false) O O ?_;exact⟨congrArg Value.bool (Hs U).symm,hF.same⟩;refine Ma (Ga (Ha (Ia (Ca (Kd O) (Ca (Rf nZ O) (Ca (Db O) (Fa (Sa ?_))))))));refine Gc (λμ σ w=>∃(j:Nat),μ=h.length-j/\(j<=h.length)/\(∀i (hi:i<h.length),i<j->Fe h[i] i=true)/\AllEq σ [(8,.slice A h.length c),(9,J ((h.length:Nat))),(10,J ((j:Int)))]/\FR w0 [] [] w) _ ⟨0,O,(Nat.zero_le _),(λi _ h=>by omega),Mk,hF⟩ ?_;rintro μ σ w ⟨j,rfl,hj,hall,hs,hF⟩;refine Cg.slots hs ?_;clear hs;intro σ;refine Ia (Ca (Tg O O) (Fa (Ha ?_)));refine Wb O O (λhc1=>?_) (λhc1=>?_);refine Ma (Ga (Ha (Sa (Ia (Ca (Db O) ?_)))));obtain⟨ad0,q0,hA0,hk0,hn0,hx0,hy0⟩:=hX.cm_elem (i:=j) U;refine Ja (v:=.pointer (some (ad0.add (j*5)))) (Qa (i:=(j:Int)) Jf O hA0 O U U) (Ja (v:=.agg (q0.cells).toArray) (Hb (l:=q0.cells) isAgg29 gZ O O (hF.cells0 hk0)) ?_);refine Ve (cs:=#[aQ,J 0,I [],aQ,aQ]) hF wZ O ?_;rintro b1 w hb1 hF -;refine Ca (Bc O) (Hh hF gZ O O Cj ?_);rintro w hF -;refine Ec (Ed (Ej isAgg29 gZ O hF.F 0 O O) (Ca (Db O) ?_));refine Ta hF (E8 h[j] q0 j _ _ hn0 (hF.rep hx0) (hF.rep hy0) (hT _ (List.getElem_mem (l:=h) (n:=j) U)) (hG.ext hF.same)) (Qb IR O O O) ?_;intro w hF;refine Ca (Bi O) (Fa ?_);refine Je O O (λhc2=>?_) (λhc2=>?_);refine Ia (Ca (Eb O) (Fa ?_));refine Tc (v:=.bool false) O O ?_;exact⟨congrArg Value.bool (Ov (j:=j) U (by simp_all)).symm,hF.same⟩;refine Ma (Ib (Ga (Ea (Ca (Uk (((j+1:Nat):Int)) O O) (Ca (Db O) (Ra ?_))))));refine Za ⟨_,?_,j+1,O,U,(N3 hall (λ_=>by simp_all)),Mk,hF.drop 1⟩;omega;refine Zb (Vb O ?_)
 refine Ga (Ia (Ca (Eb O) (Fa ?_)));refine Tc (v:=.bool true) O O ?_;exact⟨congrArg Value.bool (Dt U (λi hi=>hall i hi U)).symm,hF.same⟩
end Go.Scarf
