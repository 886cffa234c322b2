/- A part of the proof. -/
import Derived.Test.YthnkjgpjdbdchaaGreatDoorM1
set_option linter.all false
set_option maxHeartbeats 8000000
set_option maxRecDepth 10000
namespace Go.Scarf
open Go.RowKit Go.Proofs Go.Proofs.Tryz
def Kn(x:Rl):Bool:=Jq x.pat&&decide (x.key.length<=1024)
def I5(l:List Rl):Bool:=l.all Kn&&decide ((l.length:Int)<=60)
theorem YK{l:List Rl}{j:Nat}{h:j<l.length}(hs:Kn l[j]=false):I5 l=false:=by
  unfold I5;have:l.all Kn=false:=by
    rw[Bool.eq_false_iff];intro ha;have:=List.all_eq_true.1 ha l[j] (eQ h);rw[hs]at this;cases this
  rw[this];rfl
theorem XO{l:List Rl}{j:Nat}(hs:∀i (h:i<l.length),i<j->Kn l[i]=true)(hj:∀h:j<l.length,Kn l[j]=true):∀i (h:i<l.length),i<j+1->Kn l[i]=true:=λi h h2=>by
  by_cases e:i=j
  ·subst e;exact hj h
  exact hs i h sX
theorem YB{l:List Rl}{j:Nat}(hj:∀i (h:i<l.length),i<j->Kn l[i]=true)(he:¬(j<l.length/\j<100)):I5 l=decide ((l.length:Int)<=60):=by
  unfold I5;by_cases h:l.length<=60
  ·have:l.all Kn=true:=by
     rw[List.all_eq_true];intro s hs;obtain⟨i,hi,rfl⟩:=List.getElem_of_mem hs;exact hj i hi sX
   rw[this];rfl
  rw[decide_eq_false sX,Bool.and_false]
theorem few18_ok{l:List Rl}(h:I5 l=true):∀x∈l,RuleOk x:=λx hx=>by
  unfold I5 at h;have h1:=List.all_eq_true.1 (Bool.and_eq_true_iff.1 h).1 x hx;obtain⟨h2,h3⟩:=Bool.and_eq_true_iff.1 h1;rw[decide_eq_true_eq]at h3;have h4:=(JS h2).2;exact⟨by omega,λs hs=>by have:=h4 s hs;omega⟩
theorem XT{x:Rl}(h:Jq x.pat=true)(hk:(1024:Int)<(x.key.length:Int)):Kn x=false:=by
  unfold Kn;rw[h,decide_eq_false sX];rfl
theorem NO{x:Rl}(h:Jq x.pat=true)(hk:¬(1024:Int)<(x.key.length:Int)):Kn x=true:=by
  unfold Kn;rw[h,decide_eq_true sX];rfl
theorem ON{x:Rl}(h:Jq x.pat=false):Kn x=false:=by
  unfold Kn;rw[h];rfl
theorem few18_c(l:List Rl)(A:Option Addr)(c:Nat)(S:Nat->Prop)(w0:World)(hX:Rep S w0 (At l) [.slice A l.length c]):Calls prog 9 #[.slice A l.length c] w0 (Wd λv w'=>v=.bool (I5 l)/\Same [] w0 w'):=by
 have hXl:=hX.slice_len;simp only[rQ]at hXl;refine Fa func9 O ntmps9 Ib (Zc _) ?_;have hF:=FR.start w0 [];refine Ha (D9 (Ea (Ja (Ha (D9 (Ea (Za ?_)))))));refine Ad (λμ σ w=>∃(j:Nat),μ=l.length-j/\(j<=l.length/\j<=100)/\(∀i (h:i<l.length),i<j->Kn l[i]=true)/\AllEq σ [(0,.slice A l.length c),(3,J ((j:Int)))]/\FR w0 [] [] w) _ ⟨0,O,sX,(λi _ h=>by omega),J7,hF⟩ ?_;rintro μ σ w ⟨j,rfl,hj,hs_,hs,hF⟩;refine Cg.slots hs ?_;clear hs;intro σ;refine Ja (Ha (H3 (H3 (Ka (Es dX O) (Ka (v:=.bool (decide (((j:Int):Int)<((l.length:Nat):Int)))) (D6 O O) (H3 ?_))))));refine Jd (d:=9) (p:=((j:Int):Int)<((l.length:Nat):Int)) O (λhg0=>?_) (λhg0=>?_);refine H3 (Ka (v:=.bool (decide (((j:Int):Int)<(100:Int)))) (D6 O O) (Ka (PF O O) (Ea ?_)));refine N7 (d:=12) (p:=((j:Int):Int)<(100:Int)) O (λhc0=>?_) (λhc0=>?_);refine Le O (Wa (Ia (Ja (Za (Ha (H3 (H3 ?_)))))));obtain⟨ad1,B1,e1,hA1,hk1,hx1⟩:=hX.rule_elem (i:=j) sX;refine Ka (v:=.pointer (some (ad1.add (j*2)))) (Ta (i:=(j:Int)) WZ O hA1 O sX sX) (Ka (v:=.pointer (some ((ad1.add (j*2)).add 0))) (Jg (a:=ad1.add (j*2)) GS O) (Ka (v:=.slice (B1) ((l[j]).pat.length) (e1)) (Ob wQ O (hF.cell0 (hk1 0 Ib))) ?_));refine Hb hF (YW l[j].pat B1 e1 _ _ (hF.rep hx1)) (Ra en_24 O O) ?_;intro w hF;refine D9 (Jc (H3 (Ka (x_not O) (H3 ?_))));refine Bf (d:=23) (b:=!(Jq l[j].pat)) O (λhg2=>?_) (λhg2=>?_);refine Qa (Qa (Qa (Qa (Qa (Qa (Qa (Ka (PF O O) (Ea (Le O (Ha (D9 ?_)))))))))));refine Ea (Pd (v:=.bool false) O O ?_);exact⟨congrArg Value.bool (YK (j:=j) (h:=by omega) (ON (by simpa using hg2))).symm,hF.same⟩;refine H3 (H3 ?_);obtain⟨ad3,B3,e3,hA3,hk3,hx3⟩:=hX.rule_elem (i:=j) sX;refine Ka (v:=.pointer (some (ad3.add (j*2)))) (Ta (i:=(j:Int)) WZ O hA3 O sX sX) (Ka (v:=.pointer (some ((ad3.add (j*2)).add 1))) (Jg (a:=ad3.add (j*2)) CS O) (Ka (v:=I ((l[j]).key)) (Ob fZ O (hF.cell0 (hk3 1 Ib))) (Ka (v:=J (((((l[j]).key):Str).length:Int))) (E0 kX O) (Ka (v:=.bool (decide ((1024:Int)<(((((l[j]).key):Str).length:Int):Int)))) (DI O O) (Ka (RF O O) (Ea ?_))))))
 refine N7 (d:=31) (p:=(1024:Int)<(((((l[j]).key):Str).length:Int):Int)) O (λhc1=>?_) (λhc1=>?_);refine Le O (Ha (D9 (Ea ?_)));refine Pd (v:=.bool false) O O ?_;exact⟨congrArg Value.bool (YK (j:=j) (h:=by omega) (XT (by simpa using hg2) sX)).symm,hF.same⟩;refine Bg O (Wa (Eb (Ia (Ga (H3 (Ka (v:=J (((j+1:Nat):Int))) (X0 O O (Cl sX sX sX)) (D9 (Gb ?_))))))));refine Dc ⟨_,?_,j+1,O,sX,(XO hs_ (λ_=>NO (by simpa using hg2) sX)),J7,hF⟩;omega;refine Bg O (Pc (Oc O ?_));refine Ia (Ha (H3 (Ka (Es dX O) (Ka (v:=.bool (decide (((l.length:Nat):Int)<=(60:Int)))) (XQ O O) (D9 (Ea ?_))))));refine Cc (Bc (Ua (V2 (v:=.bool (decide (((l.length:Nat):Int)<=(60:Int)))) O O) ?_));exact⟨congrArg Value.bool (YB (j:=j) hs_ sX).symm,hF.same⟩;refine Qa (Qa (Ka (RF O O) (Ea (Bg O ?_))));refine Pc (Oc O ?_);refine Ia (Ha (H3 (Ka (Es dX O) (Ka (v:=.bool (decide (((l.length:Nat):Int)<=(60:Int)))) (XQ O O) (D9 (Ea ?_))))));refine Cc (Bc (Ua (V2 (v:=.bool (decide (((l.length:Nat):Int)<=(60:Int)))) O O) ?_));exact⟨congrArg Value.bool (YB (j:=j) hs_ sX).symm,hF.same⟩
end Go.Scarf
