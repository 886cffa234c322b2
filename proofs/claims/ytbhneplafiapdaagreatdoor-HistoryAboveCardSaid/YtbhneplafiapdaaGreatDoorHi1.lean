/- A part of the proof. -/
import Derived.Test.YtbhneplafiapdaaGreatDoorHs5
import Derived.Test.YtbhneplafiapdaaGreatDoorMs
set_option linter.all false
set_option maxHeartbeats 8000000
set_option maxRecDepth 10000
namespace Go.Scarf
open Go.RowKit Go.Proofs Go.Proofs.Tryz
theorem Rz{n last:Int}{l:List Int}{j:Nat}(hj:j<l.length):Zh n last (l.drop j)=(decide (last<l[j])&&(decide (l[j]<n)&&Zh n l[j] (l.drop (j+1)))):=by rw[List.drop_eq_getElem_cons hj];rfl
theorem W4{n last R:Int}{l:List Int}{j:Nat}{b:Bool}(hj:j<l.length)(h:Zh n last (l.drop j)=b)(h1:l[j]<=last):b=false:=by
  rw[Rz hj,decide_eq_false Ca]at h;exact h.symm
theorem N2{n last R:Int}{l:List Int}{j:Nat}{b:Bool}(hj:j<l.length)(h:Zh n last (l.drop j)=b)(h1:n<=l[j]):b=false:=by
  rw[Rz hj,decide_eq_false (p:=l[j]<n) Ca,Bool.false_and,Bool.and_false]at h;exact h.symm
theorem SA{n last:Int}{l:List Int}{j:Nat}{b:Bool}(hj:j<l.length)(h:Zh n last (l.drop j)=b)(h1:¬l[j]<=last)(h2:¬n<=l[j]):Zh n l[j] (l.drop (j+1))=b:=by
  rw[Rz hj,decide_eq_true Ca,decide_eq_true Ca]at h;exact h
theorem AG{n last:Int}{l:List Int}{j:Nat}{b:Bool}(hj:l.length<=j)(h:Zh n last (l.drop j)=b):b=true:=by
  rw[List.drop_of_length_le hj]at h;exact h.symm
theorem Cn{x:Cm}{n:Nat}(h:Zh (n:Int) (-1) x.par=false):Id x n=false:=by unfold Id;rw[h];rfl
theorem S7{x:Cm}{n:Nat}(h:Zh (n:Int) (-1) x.par=true):Id x n=Zb x.val:=by unfold Id;rw[h];rfl
theorem UB{h:List Cm}{j:Nat}(hj:j<h.length)(hc:Id h[j] j=false):Pb h=false:=by
  rw[Bool.eq_false_iff];intro hr;rw[Xk hr hj]at hc;cases hc
theorem K7{h:List Cm}(hl:64<h.length):Pb h=false:=by unfold Pb;rw[decide_eq_false Ca];rfl
theorem A7{h:List Cm}(hl:h.length<=64)(ha:∀i (hi:i<h.length),Id h[i] i=true):Pb h=true:=by
  unfold Pb;rw[decide_eq_true hl,Bool.true_and,List.all_eq_true];intro i hi;have hi':=List.mem_range.1 hi;rw[List.getD,List.getElem?_eq_getElem hi',Option.getD_some];exact ha i hi'
theorem KA{h:List Cm}{j:Nat}(hn:∀i (hi:i<h.length),i<j->Id h[i] i=true)(hj:∀hj:j<h.length,Id h[j] j=true):∀i (hi:i<h.length),i<j+1->Id h[i] i=true:=λi hi h2=>by
  by_cases e:i=j
  ·subst e;exact hj hi
  exact hn i hi Ca
def Sg(x:Cm):Prop:=Gb x.val<=1000000000/\Tw x.val
theorem J1(x:Cm)(q:Mv)(n:Nat)(S:Nat->Prop)(w0:World)(hq:q.n=x.par.length)(hP:Rep S w0 (.slice (x.par.map Td)) [.slice q.A q.n q.c])(hV:Rep S w0 (Mb x.val) q.v.cells)(hT:Sg x)(hG:Gl w0):Calls prog 30 #[.agg q.cells.toArray,J (n:Int)] w0 (Hd λv w'=>v=.bool (Id x n)/\Same [] w0 w'):=by
 have hPl:=hP.slice_len;refine Ga func30 O ntmps30 Ib (Kd _ _) ?_;have hF:=FR.start w0 [];refine Ka (Mg hF O ?_);rintro b1 w hb1 hF -;refine Da (Kb O) (Yb (Da (Gd O) (Ea (Ja (Ka (Da (Ld Ct O) (Qd (Gm isAgg23 O hF.F 0 O O) (Da (Fh gZ O) ?_))))))));refine Da (Bc O) (Ea (Cb ?_));refine Yc (λμ σ w=>∃(j:Nat),∃(last:Int),μ=x.par.length-j/\(j<=x.par.length)/\(Zh (n:Int) last (x.par.drop j)=Zh (n:Int) (-1) x.par)/\AllEq σ [(1,J ((n:Int))),(2,V b1),(5,J last),(9,.slice q.A q.n q.c),(10,J ((q.n:Nat))),(11,J ((j:Int)))]/\FR w0 [] [(b1,.cells (q.cells).toArray 29)] w) _ ⟨0,-1,O,(Nat.zero_le _),(O),TQ,hF⟩ ?_;rintro μ σ w ⟨j,last,rfl,hj,hr,hs,hF⟩;refine Cg.slots hs ?_;clear hs;intro σ;refine Ka (Da (Wo O O) (Ea (Ja ?_)));refine Tc O O (λhc0=>?_) (λhc0=>?_);refine Ta (Ha (Ja (Cb (Ka ?_))));obtain⟨ad0,hA0,hk0,hx0⟩:=hP.int_elem (i:=j) Ca;refine Oa (v:=.pointer (some (ad0.add (j*1)))) (Va (i:=(j:Int)) Kq O hA0 O Ca Ca) (Oa (v:=J (x.par[j])) (Xd wQ O (hF.cell0 hk0)) (Da (Gd O) (Ea (Ja (Ka (Da (Bc O) (Da (Bc O) (Da (CJ O O) (Da (Nd O) ?_)))))))));refine Xc (d:=18) O (λhg1=>?_) (λhg1=>?_);refine Ia (Ia (Ia (Da (Ec O O) (Ea (Ie O (Ka (Da (Kb O) (Ea ?_))))))));refine Sc (v:=.bool false) O O ?_
 first|exact⟨congrArg Value.bool (Cn (W4 (R:=0) Ca hr Ca)).symm,hF.same⟩|exact⟨congrArg Value.bool (Cn (N2 (R:=0) Ca hr Ca)).symm,hF.same⟩
 refine Da (Bc O) (Da (Bc O) (Da (U9 O O) (Da (Ed O O) (Ea ?_))));refine Tc O O (λhc1=>?_) (λhc1=>?_);refine Ka (Da (Kb O) (Ea ?_));refine Sc (v:=.bool false) O O ?_
 first|exact⟨congrArg Value.bool (Cn (W4 (R:=0) Ca hr Ca)).symm,hF.same⟩|exact⟨congrArg Value.bool (Cn (N2 (R:=0) Ca hr Ca)).symm,hF.same⟩
 refine Ta (Ha (Ma (Da (Bc O) (Da (Gd O) (Eb (Ub (Ha (Ma (Da (BF (((j+1:Nat):Int)) O O) (Da (Bc O) (Eb ?_)))))))))));refine Hc ⟨_,?_,j+1,x.par[j],O,Ca,(SA Ca hr Ca Ca),TQ,hF⟩;omega;refine Rc (Nc O ?_);refine Ha (Ka (Da (Ld Oh O) (Oa (v:=.agg (q.v.cells).toArray) (Db (l:=q.v.cells) vQ bZ O O (hF.part 0 1 O O)) ?_)));refine Ra hF (A_ x.val hT.1 _ _ q.v.cells (hF.rep hV) hT.2 (hG.ext hF.same)) (Sa VJ O O) ?_;intro w hF;refine Da (Kb O) (Ea ?_);refine Sc (v:=.bool _) O O ?_;exact⟨congrArg Value.bool (S7 (AG Ca hr)).symm,hF.same⟩
theorem C3(h:List Cm)(A:Option Addr)(c:Nat)(S:Nat->Prop)(w0:World)(hX:Rep S w0 (Jl h) [.slice A h.length c])(hT:∀x∈h,Sg x)(hG:Gl w0):Calls prog 14 #[.slice A h.length c] w0 (Hd λv w'=>v=.bool (Pb h)/\Same [] w0 w'):=by
 have hXl:=hX.slice_len;simp only[rQ]at hXl;refine Ga func14 O ntmps14 Ib (Kc _) ?_;have hF:=FR.start w0 [];refine Ka (Da (Kb O) (Ea (Ja (Ka (Da (Wd O) (Da (Fh fZ O) (Da (AC O O) (Ea ?_))))))));refine Tc O O (λhc0=>?_) (λhc0=>?_);refine Ka (Da (Kb O) (Ea ?_));refine Sc (v:=.bool false) O O ?_;exact⟨congrArg Value.bool (K7 Ca).symm,hF.same⟩;refine Ta (Ha (Ja (Ka (Da (Wd O) (Da (Fh fZ O) (Da (Bc O) (Ea (Cb ?_))))))));refine Yc (λμ σ w=>∃(j:Nat),μ=h.length-j/\(j<=h.length)/\(∀i (hi:i<h.length),i<j->Id h[i] i=true)/\AllEq σ [(8,.slice A h.length c),(9,J ((h.length:Nat))),(10,J ((j:Int)))]/\FR w0 [] [] w) _ ⟨0,O,(Nat.zero_le _),(λi _ h=>by omega),U4,hF⟩ ?_;rintro μ σ w ⟨j,rfl,hj,hall,hs,hF⟩;refine Cg.slots hs ?_;clear hs;intro σ;refine Ka (Da (Wo O O) (Ea (Ja ?_)));refine Tc O O (λhc1=>?_) (λhc1=>?_);refine Ta (Ha (Ja (Cb (Ka (Da (Bc O) ?_)))));obtain⟨ad0,q0,hA0,hk0,hn0,hx0,hy0⟩:=hX.cm_elem (i:=j) Ca;refine Oa (v:=.pointer (some (ad0.add (j*5)))) (Va (i:=(j:Int)) Cl O hA0 O Ca Ca) (Oa (v:=.agg (q0.cells).toArray) (Db (l:=q0.cells) isAgg29 sizeOf29 O O (hF.cells0 hk0)) ?_);refine Ce (cs:=#[aQ,J 0,I [],aQ,aQ]) hF zeroValue29 O ?_;rintro b1 w hb1 hF -;refine Da (Gd O) (Lg hF sizeOf29 O O Fj ?_);rintro w hF -;refine Yb (Qd (Hj isAgg29 sizeOf29 O hF.F 0 O O) (Da (Bc O) ?_));refine Ra hF (J1 h[j] q0 j _ _ hn0 (hF.rep hx0) (hF.rep hy0) (hT _ (List.getElem_mem (l:=h) (n:=j) Ca)) (hG.ext hF.same)) (Fb EK O O O) ?_;intro w hF;refine Da (Ui O) (Ea ?_);refine Me O O (λhc2=>?_) (λhc2=>?_);refine Ka (Da (Kb O) (Ea ?_));refine Sc (v:=.bool false) O O ?_;exact⟨congrArg Value.bool (UB (j:=j) Ca (by simp_all)).symm,hF.same⟩;refine Ta (Ub (Ha (Ma (Da (BF (((j+1:Nat):Int)) O O) (Da (Bc O) (Eb ?_))))));refine Hc ⟨_,?_,j+1,O,Ca,(KA hall (λ_=>by simp_all)),U4,hF.drop 1⟩
 omega;refine Rc (Nc O ?_);refine Ha (Ka (Da (Kb O) (Ea ?_)));refine Sc (v:=.bool true) O O ?_;exact⟨congrArg Value.bool (A7 Ca (λi hi=>hall i hi Ca)).symm,hF.same⟩
end Go.Scarf
