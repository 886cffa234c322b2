/- A part of the proof. -/
import Derived.Test.YtbhneplafiapdaaGreatDoorHs5
import Derived.Test.YtbhneplafiapdaaGreatDoorMs
set_option linter.all false
set_option maxHeartbeats 8000000
set_option maxRecDepth 10000
namespace Go.Scarf
open Go.RowKit Go.Proofs Go.Proofs.Tryz
theorem U0{n last:Int}{l:List Int}{j:Nat}(hj:j<l.length):Th n last (l.drop j)=(decide (last<l[j])&&(decide (l[j]<n)&&Th n l[j] (l.drop (j+1)))):=by rw[List.drop_eq_getElem_cons hj];rfl
theorem N4{n last R:Int}{l:List Int}{j:Nat}{b:Bool}(hj:j<l.length)(h:Th n last (l.drop j)=b)(h1:l[j]<=last):b=false:=by
  rw[U0 hj,decide_eq_false Ca]at h;exact h.symm
theorem D2{n last R:Int}{l:List Int}{j:Nat}{b:Bool}(hj:j<l.length)(h:Th n last (l.drop j)=b)(h1:n<=l[j]):b=false:=by
  rw[U0 hj,decide_eq_false (p:=l[j]<n) Ca,Bool.false_and,Bool.and_false]at h;exact h.symm
theorem O_{n last:Int}{l:List Int}{j:Nat}{b:Bool}(hj:j<l.length)(h:Th n last (l.drop j)=b)(h1:¬l[j]<=last)(h2:¬n<=l[j]):Th n l[j] (l.drop (j+1))=b:=by
  rw[U0 hj,decide_eq_true Ca,decide_eq_true Ca]at h;exact h
theorem HC{n last:Int}{l:List Int}{j:Nat}{b:Bool}(hj:l.length<=j)(h:Th n last (l.drop j)=b):b=true:=by
  rw[List.drop_of_length_le hj]at h;exact h.symm
theorem Jn{x:Cm}{n:Nat}(h:Th (n:Int) (-1) x.par=false):Nd x n=false:=by unfold Nd;rw[h];rfl
theorem P6{x:Cm}{n:Nat}(h:Th (n:Int) (-1) x.par=true):Nd x n=Kc x.val:=by unfold Nd;rw[h];rfl
theorem X_{h:List Cm}{j:Nat}(hj:j<h.length)(hc:Nd h[j] j=false):Rb h=false:=by
  rw[Bool.eq_false_iff];intro hr;rw[Vk hr hj]at hc;cases hc
theorem N7{h:List Cm}(hl:64<h.length):Rb h=false:=by unfold Rb;rw[decide_eq_false Ca];rfl
theorem O6{h:List Cm}(hl:h.length<=64)(ha:∀i (hi:i<h.length),Nd h[i] i=true):Rb h=true:=by
  unfold Rb;rw[decide_eq_true hl,Bool.true_and,List.all_eq_true];intro i hi;have hi':=List.mem_range.1 hi;rw[List.getD,List.getElem?_eq_getElem hi',Option.getD_some];exact ha i hi'
theorem HB{h:List Cm}{j:Nat}(hn:∀i (hi:i<h.length),i<j->Nd h[i] i=true)(hj:∀hj:j<h.length,Nd h[j] j=true):∀i (hi:i<h.length),i<j+1->Nd h[i] i=true:=λi hi h2=>by
  by_cases e:i=j
  ·subst e;exact hj hi
  exact hn i hi Ca
def Tg(x:Cm):Prop:=Jb x.val<=1000000000/\Nw x.val
theorem R2(x:Cm)(q:Mv)(n:Nat)(S:Nat->Prop)(w0:World)(hq:q.n=x.par.length)(hP:Rep S w0 (.slice (x.par.map Lc)) [.slice q.A q.n q.c])(hV:Rep S w0 (Pb x.val) q.v.cells)(hT:Tg x)(hG:Gl w0):Calls prog 30 #[.agg q.cells.toArray,J (n:Int)] w0 (Pd λv w'=>v=.bool (Nd x n)/\Same [] w0 w'):=by
 have hPl:=hP.slice_len;refine Ia func30 O ntmps30 Kb (Rd _ _) ?_;have hF:=FR.start w0 [];refine Ka (Bg hF O ?_);rintro b1 w hb1 hF -;refine Da (Ob O) (Ec (Da (Gd O) (Ea (Ha (Ka (Da (Ud Ht O) (Xd (Bm isAgg23 O hF.F 0 O O) (Da (Bh gZ O) ?_))))))));refine Da (Bc O) (Ea (Wa ?_));refine Xc (λμ σ w=>∃(j:Nat),∃(last:Int),μ=x.par.length-j/\(j<=x.par.length)/\(Th (n:Int) last (x.par.drop j)=Th (n:Int) (-1) x.par)/\AllEq σ [(1,J ((n:Int))),(2,V b1),(5,J last),(9,.slice q.A q.n q.c),(10,J ((q.n:Nat))),(11,J ((j:Int)))]/\FR w0 [] [(b1,.cells (q.cells).toArray 29)] w) _ ⟨0,-1,O,(Nat.zero_le _),(O),WQ,hF⟩ ?_;rintro μ σ w ⟨j,last,rfl,hj,hr,hs,hF⟩;refine Cg.slots hs ?_;clear hs;intro σ;refine Ka (Da (Um O O) (Ea (Ha ?_)));refine Uc O O (λhc0=>?_) (λhc0=>?_);refine Sa (Fa (Ha (Wa (Ka ?_))));obtain⟨ad0,hA0,hk0,hx0⟩:=hP.int_elem (i:=j) Ca;refine Oa (v:=.pointer (some (ad0.add (j*1)))) (Ta (i:=(j:Int)) Dh O hA0 O Ca Ca) (Oa (v:=J (x.par[j])) (Zc wQ O (hF.cell0 hk0)) (Da (Gd O) (Ea (Ha (Ka (Da (Bc O) (Da (Bc O) (Da (OK O O) (Da (Yd O) ?_)))))))));refine Id (d:=18) O (λhg1=>?_) (λhg1=>?_);refine Ma (Ma (Ma (Da (Sc O O) (Ea (Le O (Ka (Da (Ob O) (Ea ?_))))))));refine Yc (v:=.bool false) O O ?_
 first|exact⟨congrArg Value.bool (Jn (N4 (R:=0) Ca hr Ca)).symm,hF.same⟩|exact⟨congrArg Value.bool (Jn (D2 (R:=0) Ca hr Ca)).symm,hF.same⟩
 refine Da (Bc O) (Da (Bc O) (Da (L9 O O) (Da (Ed O O) (Ea ?_))));refine Uc O O (λhc1=>?_) (λhc1=>?_);refine Ka (Da (Ob O) (Ea ?_));refine Yc (v:=.bool false) O O ?_
 first|exact⟨congrArg Value.bool (Jn (N4 (R:=0) Ca hr Ca)).symm,hF.same⟩|exact⟨congrArg Value.bool (Jn (D2 (R:=0) Ca hr Ca)).symm,hF.same⟩
 refine Sa (Fa (Ja (Da (Bc O) (Da (Gd O) (Db (Qb (Fa (Ja (Da (A5 (((j+1:Nat):Int)) O O) (Da (Bc O) (Db ?_)))))))))));refine Dc ⟨_,?_,j+1,x.par[j],O,Ca,(O_ Ca hr Ca Ca),WQ,hF⟩;omega;refine Nc (Fc O ?_);refine Fa (Ka (Da (Ud Cl O) (Oa (v:=.agg (q.v.cells).toArray) (Fb (l:=q.v.cells) vQ bZ O O (hF.part 0 1 O O)) ?_)));refine Ra hF (U9 x.val hT.1 _ _ q.v.cells (hF.rep hV) hT.2 (hG.ext hF.same)) (Ua OJ O O) ?_;intro w hF;refine Da (Ob O) (Ea ?_);refine Yc (v:=.bool _) O O ?_;exact⟨congrArg Value.bool (P6 (HC Ca hr)).symm,hF.same⟩
theorem Nu(h:List Cm)(A:Option Addr)(c:Nat)(S:Nat->Prop)(w0:World)(hX:Rep S w0 (Zk h) [.slice A h.length c])(hT:∀x∈h,Tg x)(hG:Gl w0):Calls prog 14 #[.slice A h.length c] w0 (Pd λv w'=>v=.bool (Rb h)/\Same [] w0 w'):=by
 have hXl:=hX.slice_len;simp only[rQ]at hXl;refine Ia func14 O ntmps14 Kb (Pc _) ?_;have hF:=FR.start w0 [];refine Ka (Da (Ob O) (Ea (Ha (Ka (Da (Od O) (Da (Bh fZ O) (Da (WA O O) (Ea ?_))))))));refine Uc O O (λhc0=>?_) (λhc0=>?_);refine Ka (Da (Ob O) (Ea ?_));refine Yc (v:=.bool false) O O ?_;exact⟨congrArg Value.bool (N7 Ca).symm,hF.same⟩;refine Sa (Fa (Ha (Ka (Da (Od O) (Da (Bh fZ O) (Da (Bc O) (Ea (Wa ?_))))))));refine Xc (λμ σ w=>∃(j:Nat),μ=h.length-j/\(j<=h.length)/\(∀i (hi:i<h.length),i<j->Nd h[i] i=true)/\AllEq σ [(8,.slice A h.length c),(9,J ((h.length:Nat))),(10,J ((j:Int)))]/\FR w0 [] [] w) _ ⟨0,O,(Nat.zero_le _),(λi _ h=>by omega),V4,hF⟩ ?_;rintro μ σ w ⟨j,rfl,hj,hall,hs,hF⟩;refine Cg.slots hs ?_;clear hs;intro σ;refine Ka (Da (Um O O) (Ea (Ha ?_)));refine Uc O O (λhc1=>?_) (λhc1=>?_);refine Sa (Fa (Ha (Wa (Ka (Da (Bc O) ?_)))));obtain⟨ad0,q0,hA0,hk0,hn0,hx0,hy0⟩:=hX.cm_elem (i:=j) Ca;refine Oa (v:=.pointer (some (ad0.add (j*5)))) (Ta (i:=(j:Int)) Zn O hA0 O Ca Ca) (Oa (v:=.agg (q0.cells).toArray) (Fb (l:=q0.cells) isAgg29 sizeOf29 O O (hF.cells0 hk0)) ?_);refine De (cs:=#[aQ,J 0,I [],aQ,aQ]) hF zeroValue29 O ?_;rintro b1 w hb1 hF -;refine Da (Gd O) (Gg hF sizeOf29 O O Xi ?_);rintro w hF -;refine Ec (Xd (Lj isAgg29 sizeOf29 O hF.F 0 O O) (Da (Bc O) ?_));refine Ra hF (R2 h[j] q0 j _ _ hn0 (hF.rep hx0) (hF.rep hy0) (hT _ (List.getElem_mem (l:=h) (n:=j) Ca)) (hG.ext hF.same)) (Gb IJ O O O) ?_;intro w hF;refine Da (Bi O) (Ea ?_);refine Ke O O (λhc2=>?_) (λhc2=>?_);refine Ka (Da (Ob O) (Ea ?_));refine Yc (v:=.bool false) O O ?_;exact⟨congrArg Value.bool (X_ (j:=j) Ca (by simp_all)).symm,hF.same⟩;refine Sa (Qb (Fa (Ja (Da (A5 (((j+1:Nat):Int)) O O) (Da (Bc O) (Db ?_))))));refine Dc ⟨_,?_,j+1,O,Ca,(HB hall (λ_=>by simp_all)),V4,hF.drop 1⟩
 omega;refine Nc (Fc O ?_);refine Fa (Ka (Da (Ob O) (Ea ?_)));refine Yc (v:=.bool true) O O ?_;exact⟨congrArg Value.bool (O6 Ca (λi hi=>hall i hi Ca)).symm,hF.same⟩
end Go.Scarf
