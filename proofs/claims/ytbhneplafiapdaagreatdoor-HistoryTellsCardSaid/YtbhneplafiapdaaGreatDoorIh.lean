/- A part of the proof. -/
import Derived.Test.YtbhneplafiapdaaGreatDoorIv
import Derived.Test.YtbhneplafiapdaaGreatDoorHi7
set_option linter.all false
set_option maxHeartbeats 8000000
set_option maxRecDepth 10000
namespace Go.Scarf
open Go.RowKit
abbrev FactH:=Nat × Nat × (Value->World->Prop)
def AllH(S:Nat->Bool)(s:Nat->Value)(w:World)(l:List FactH):Prop:=∀(k:Nat)(f:FactH),l[k]? = some f->S f.1=true->f.2.2 (s f.2.1) w
def IH(w00:World)(sl:List (Nat × Value))(l:List FactH)(S:Nat->Bool)(s:Nat->Value)(w:World):Prop:=AllEq s sl/\Same [] w00 w/\AllH S s w l
structure PhH (sl:List (Nat × Value)) (l:List FactH):Prop where
  st:∀f∈l,∀v w w',Same [] w w'->f.2.2 v w->f.2.2 v w'
  di:(decide (l.map (·.2.1)).Nodup&&(decide (l.map (·.1)).Nodup&&sl.all λx=>!(l.map (·.2.1)).contains x.1))=true
theorem CD{α β:Type}{l:List α}{f:α->β}(h:(l.map f).Nodup){a b:α}(ha:a∈l)(hb:b∈l)(e:f a=f b):a=b:=by
  obtain⟨i,hi,rfl⟩:=List.getElem_of_mem ha;obtain⟨j,hj,rfl⟩:=List.getElem_of_mem hb;have:=(List.getElem_inj (xs:=l.map f) (h₀:=by simpa using hi) (h₁:=by simpa using hj) h).1 (by simpa using e);subst this;rfl
theorem CS{s:Nat->Value}{d:Nat}{v:Value}:∀{l:List (Nat × Value)},AllEq s l->(∀x∈l,x.1≠d)->AllEq (Ff s d v) l
  | [],_,_=>trivial
  | (e,u)::l,h,hn=>⟨by rw[Ez (hn (e,u) Ua)];exact h.1,CS h.2 λx hx=>hn x (by simp[hx])⟩
section
variable {P:Program}{R:Exit->Act->World->Prop}{n:Nat}{k:Kt}{ops:List Oper}{w00:World}{sl:List (Nat × Value)}{l:List FactH}{S:Nat->Bool}{s:Nat->Value}{w w':World}{i d:Nat}{op:Op}{ty:Nat}{pos:String}{aft:Array Edge}{g:Option (Nat × Bool)}{G:Value->World->Prop}
theorem IH.put(h:IH w00 sl l S s w)(hp:PhH sl l)(k:Nat)(hk:l[k]? = some (i,d,G))(hs:Same [] w w'){v:Value}(hv:G v w'):IH w00 sl l (II i S) (Ff s d v) w':=by
  obtain⟨h1,h2,h3⟩:=h;have hm:(i,d,G)∈l:=List.mem_of_getElem? hk;have hd:=hp.di;rw[Bool.and_eq_true,Bool.and_eq_true,decide_eq_true_eq,decide_eq_true_eq]at hd;refine⟨CS h1 λx hx e=>?_,h2.trans hs,λk' f hf hS=>?_⟩
  ·have := List.all_eq_true.1 hd.2.2 x hx
   have hc:(l.map (·.2.1)).contains x.1=true:=List.contains_iff_mem.2 (nQ.2 ⟨_,hm,e.symm⟩);rw[hc]at this;cases this
  have hfm : f ∈ l := List.mem_of_getElem? hf;by_cases e:f.1=i
  ·obtain rfl := CD (f := λx : FactH => x.1) hd.2.1 hfm hm e
   show G (Ff s d v d) w';rw[Lz];exact hv
  have hS':S f.1=true:=by
    unfold II at hS;rw[Bool.or_eq_true]at hS;exact hS.resolve_left λh=>e (by simpa using h)
  have hn:f.2.1≠d:=λe'=>e (congrArg (·.1) (CD (f:=λx:FactH=>x.2.1) hd.1 hfm hm e'));rw[Ez hn];exact hp.st f hfm _ _ _ hs (h3 k' f hf hS')
theorem IH.dep(h:IH w00 sl l S s w)(hd:∀d∈Nn ops i,S d=true)(k:Nat){k' d':Nat}{G':Value->World->Prop}(hk:l[k]? = some (k',d',G'))(hm:(Nn ops i).contains k'=true):G' (s d') w :=
  h.2.2 k _ hk (hd k' (List.contains_iff_mem.1 hm))
theorem Lu(hp:PhH sl l)(k:Nat)(hk:l[k]? = some (i,d,G))(hi:ops[i]? = some ⟨some d,op,ty,pos,aft,g⟩)
    (h:∀S s w,(∀d∈Nn ops i,S d=true)->IH w00 sl l S s w->∃dl v w',AllEq s dl/\(∀s,(execOp (ev n (Zn s dl)) ⟨some d,op,ty,pos,aft,g⟩).run P w=.ok (.value v) w')/\Same [] w w'/\G v w')
    (hw:∀s,Kb ops n s ⟨some d,op,ty,pos,aft,g⟩=true:=by exact λ_=>rfl):P8 P n ops (IH w00 sl l) i:=λS s w hS hd _ hI=>by
  obtain⟨dl,v,w',he,hr,hs,hG⟩:=h S s w hd hI;have hr:=hr s;rw[<-he.eq]at hr;exact PN hi hr (hI.put hp k hk hs hG) (hw s)
theorem YI(hp:PhH sl l)(k:Nat)(hk:l[k]? = some (i,d,G))(hi:ops[i]? = some ⟨some d,op,ty,pos,aft,g⟩)
    (h:∀S s w,(∀d∈Nn ops i,S d=true)->IH w00 sl l S s w->∃f args w' Qc,Calls P f args w' (Vd Qc)/\(execOp (ev n s) ⟨some d,op,ty,pos,aft,g⟩).run P w=.ok (.enter f args) w'/\∀v w'',Qc v w''->Same [] w w''/\G v w'')
    (hw:∀s,Kb ops n s ⟨some d,op,ty,pos,aft,g⟩=true:=by exact λ_=>rfl):P8 P n ops (IH w00 sl l) i:=λS s w hS hd _ hI=>by
  obtain⟨f,args,w',Qc,hc,hr,hq⟩:=h S s w hd hI;exact IG hi hc hr (λv w'' hQ=>hI.put hp k hk (hq v w'' hQ).1 (hq v w'' hQ).2) (hw s)
theorem IH.start{N:Nat}(hs:AllEq s sl)(h:(l.all λf=>decide (f.1<N))=true):IH w sl l (λi=>!decide (i<N)) s w:=by
  refine⟨hs,Same.refl _ _,λk f hf hS=>?_⟩;have:=of_decide_eq_true (List.all_eq_true.1 h f (List.mem_of_getElem? hf));simp[this]at hS
theorem Di{Q:Nat->Prop}{m:Nat}(h:∀i,i<m->Q i)(hm:Q m):∀i,i<m+1->Q i:=λi hi=>by
  rcases Nat.lt_or_ge i m with h'|h'
  ·exact h i h'
  obtain rfl : i = m := by omega
  exact hm
theorem WO{Q:Nat->Prop}:∀i,i<0->Q i:=λi hi=>absurd hi (Nat.not_lt_zero i)
end
attribute [local irreducible] P8 OO
open Go.RowKit Go.Proofs Go.Proofs.Tryz
def HU(x:Tree):Prop:=∀(S:Nat->Prop)(w0:World)(cs:List Value),Rep S w0 (Fc x) cs->Calls prog 26 #[.agg cs.toArray] w0 (Vd λv w'=>∃b:Bool,v=.bool b/\Same [] w0 w')
theorem T7(k:Int)(t:Str)(ks:List Str)(xs:List Tree)(ih:∀x,x∈xs->HU x):HU (.node k t ks xs):=by
 intro S w0 cs hR;obtain⟨A,c,B,e,rfl,-,-,hK,hX⟩:=hR.tree_inv;have hXl:=hX.slice_len;rw[Tj]at hXl;refine Ka func26 O ntmps26 Mb (Jc _) ?_;have hF:=FR.start w0 [];refine Ia (Xf hF O ?_);rintro b1 w hb1 hF -;refine Ca (Eb O) (Fa (Ha (Ia (Ca (Bc O) (Fa (Sa ?_))))));refine Gc (λμ σ w=>∃(j:Nat),μ=xs.length-j/\(j<=xs.length)/\AllEq σ [(1,V b1),(3,J ((j:Int)))]/\FR w0 [] [(b1,.cells #[J k,I t,.slice A ks.length c,.slice B xs.length e] 27)] w) _ ⟨0,O,(Nat.zero_le _),Ms,hF⟩ ?_;rintro μ σ w ⟨j,rfl,hj,hs,hF⟩;refine Cg.slots hs ?_;clear hs;intro σ;refine Ha (Ia (Ca (Db O) (Ca (Cd Rc O) (Ed (Mh wQ O hF.F 0 O O) (Ca (Rf qZ O) (Ca (Tg O O) (Fa ?_)))))));refine Wb O O (λhc0=>?_) (λhc0=>?_);refine Ma (Ga (Ha (Sa (Ia (Ca (Cd Rc O) (Ed (Mh wQ O hF.F 0 O O) (Ca (Db O) ?_)))))));obtain⟨ad0,cs0,hA0,hl0,hk0,hx0⟩:=hX.tree_elem (i:=j) U;have ho0:=hx0.one_;refine Ja (v:=.pointer (some (ad0.add (j*4)))) (Qa (i:=(j:Int)) Zh O hA0 O U U) (Ja (v:=.agg (List.toArray cs0)) (Hb (l:=cs0) xQ fZ O hl0 (hF.cells0 hk0)) ?_);refine Kc (ih xs[j] (eQ U) _ _ cs0 (hF.rep hx0)) (Va NS O O) ?_;rintro _ w ⟨q0,rfl,hE⟩;have hF:=hF.ext hE;refine Ca (Eb O) (Ec (Ca (Xb O) (Ca (Bi O) (Ca (Xb O) ?_))));refine Uc (d:=20) O (λhg1=>?_) (λhg1=>?_);refine Da (Da (Da (Da (Da (Da (Da (Da (Da (Da (Da (Da (Ca (Rb O O) (Ra ?_)))))))))))));refine Ga (Od O (Ia (Ca (Eb O) (Fa ?_))));refine Tc (v:=.bool false) O O ?_;exact⟨_,O,hF.same⟩;refine Ca (Cd Pf O) (Ed (Jq yQ O hF.F 0 O O) (Ca (Jj O O) (Ca (Xb O) ?_)));refine Xa (d:=24) O (λhg2=>?_) (λhg2=>?_);refine Ca (Cd Rc O) (Ed (Mh wQ O hF.F 0 O O) (Ca (Db O) ?_));obtain⟨ad3,VG,hA3,hl3,hk3,hx3⟩:=hX.tree_elem (i:=j) U;have ho3:=hx3.one_;refine Ja (v:=.pointer (some (ad3.add (j*4)))) (Qa (i:=(j:Int)) Zh O hA3 O U U) (Ja (v:=.agg (List.toArray VG)) (Hb (l:=VG) xQ fZ O hl3 (hF.cells0 hk3)) ?_)
 refine Ta hF (SM xs[j] 8 Cc Cc _ _ VG (hF.rep hx3)) (Qb IU O O O) ?_;intro w hF;refine Ca (Bi O) (Ca (Rb O O) (Ca (Jb O O) (Fa ?_)));refine Je O O (λhc1=>?_) (λhc1=>?_);refine Ia (Ca (Eb O) (Fa ?_));refine Tc (v:=.bool false) O O ?_;exact⟨_,O,hF.same⟩;refine Ma (Ib (Ga (Ea (Ca (Db O) (Ca (Uk (((j+1:Nat):Int)) O O) (Ca (Bc O) (Ra ?_)))))));refine Za ⟨_,?_,j+1,O,U,Ms,hF⟩;omega;refine Da (Da (Da (Da (Da (Da (Da (Ca (Jb O O) (Ca (Jb O O) (Fa (If O (Ma (Ib ?_))))))))))));refine Ga (Ea (Ca (Db O) (Ca (Uk (((j+1:Nat):Int)) O O) (Ca (Bc O) (Ra ?_)))));refine Za ⟨_,?_,j+1,O,U,Ms,hF⟩;omega;refine Zb (Vb O ?_);refine Ga (Ia (Ca (Eb O) (Fa ?_)));refine Tc (v:=.bool true) O O ?_;exact⟨_,O,hF.same⟩
theorem BL(x:Tree):HU x:=Tree.ind T7 x
def XP(h:List Cm)(most:Int):Prop:=h.length<=66/\∀i (hi:i<h.length),Px h[i].val most=true/\h[i].par.length<=70
theorem MB{h:List Cm}{most:Int}{j:Nat}(hs:∀i (hi:i<h.length),i<j->Px h[i].val most=true/\h[i].par.length<=70)(hj:∀hj:j<h.length,Px h[j].val most=true/\h[j].par.length<=70):∀i (hi:i<h.length),i<j+1->Px h[i].val most=true/\h[i].par.length<=70:=λi hi h2=>by
  by_cases e:i=j
  ·subst e;exact hj hi
  exact hs i hi U
theorem OQ(h:List Cm)(most:Int)(hm0:0<=most)(hm1:most<=1000000)(A:Option Addr)(c:Nat)(S:Nat->Prop)(w0:World)(hX:Rep S w0 (Xg h) [.slice A h.length c]):Calls prog 7 #[.slice A h.length c,J most] w0 (Vd λv w'=>∃b:Bool,v=.bool b/\(b=true->XP h most)/\Same [] w0 w'):=by
 have hXl:=hX.slice_len;simp only[rQ]at hXl;refine Ka func7 O ntmps7 Mb (Ae _ _) ?_;have hF:=FR.start w0 [];refine Ia (Ca (Eb O) (Fa (Ha (Ia (Ca (Bc O) (Fa (Sa ?_)))))));refine Gc (λμ σ w=>∃(j:Nat),μ=h.length-j/\(j<=h.length/\j<=70)/\(∀i (hi:i<h.length),i<j->Px h[i].val most=true/\h[i].par.length<=70)/\AllEq σ [(0,.slice A h.length c),(1,J most),(5,J ((j:Int)))]/\FR w0 [] [] w) _ ⟨0,O,U,(λi _ h=>by omega),Mk,hF⟩ ?_;rintro μ σ w ⟨j,rfl,hj,hs_,hs,hF⟩;refine Cg.slots hs ?_;clear hs;intro σ;refine Ha (Ia (Ca (Db O) (Ca (Kd O) (Ca (Rf nZ O) (Ca (Tg O O) (Ca (Xb O) ?_))))));refine Xa (d:=11) O (λhg0=>?_) (λhg0=>?_);refine Ca (Db O) (Ca (Tg O O) (Ca (Rb O O) (Fa ?_)));refine Wb O O (λhc0=>?_) (λhc0=>?_);refine Ma (Ga (Ha (Sa (Ia (Ca (Kd O) (Ca (Db O) ?_))))));obtain⟨ad1,q1,hA1,hk1,hn1,hx1,hy1⟩:=hX.cm_elem (i:=j) U;refine Ja (v:=.pointer (some (ad1.add (j*5)))) (Qa (i:=(j:Int)) Jf O hA1 O U U) (Ja (v:=.pointer (some ((ad1.add (j*5)).add 1))) (Dc (a:=ad1.add (j*5)) Lh O) (Ja (v:=.agg (q1.v.cells).toArray) (Hb (l:=q1.v.cells) xQ fZ O O (Sg (hF.cells0 hk1) 1 O)) (Ca (Db O) ?_)));refine Ta hF (SM h[j].val most hm0 hm1 _ _ q1.v.cells (hF.rep hy1)) (Qb IU O O O) ?_;intro w hF;refine Ca (Xb O) (Uc (d:=24) O (λhg2=>?_) (λhg2=>?_));refine Ca (Kd O) (Ca (Db O) ?_);obtain⟨ad3,q3,hA3,hk3,hn3,hx3,hy3⟩:=hX.cm_elem (i:=j) U;refine Ja (v:=.pointer (some (ad3.add (j*5)))) (Qa (i:=(j:Int)) Jf O hA3 O U U) (Ja (v:=.pointer (some ((ad3.add (j*5)).add 1))) (Dc (a:=ad3.add (j*5)) Lh O) (Ja (v:=.agg (q3.v.cells).toArray) (Hb (l:=q3.v.cells) xQ fZ O O (Sg (hF.cells0 hk3) 1 O)) ?_));refine Kc (BL h[j].val _ _ q3.v.cells (hF.rep hy3)) (Va NS O O) ?_;rintro _ w ⟨q0,rfl,hE⟩;have hF:=hF.ext hE;refine Ca (Rb O O) (Ca (Eb O) (Ec (Ca (Xb O) (Ca (Bi O) (Ca (Xb O) ?_)))))
 refine Uc (d:=34) O (λhg4=>?_) (λhg4=>?_);refine Da (Da (Da (Da (Da (Da (Da (Ca (Rb O O) (Fa (Od O (Ia (Ca (Eb O) ?_)))))))))));refine Fa (Tc (v:=.bool false) O O ?_);exact⟨_,O,λhb=>(by cases hb),hF.same⟩;refine Ca (Kd O) (Ca (Db O) ?_);obtain⟨ad5,q5,hA5,hk5,hn5,hx5,hy5⟩:=hX.cm_elem (i:=j) U;refine Ja (v:=.pointer (some (ad5.add (j*5)))) (Qa (i:=(j:Int)) Jf O hA5 O U U) (Ja (v:=.pointer (some ((ad5.add (j*5)).add 0))) (Dc (a:=ad5.add (j*5)) Ze O) (Ja (v:=.slice q5.A q5.n q5.c) (Oc uQ O (hF.cell0 (hk5 0 Mb))) (Ca (Rf oZ O) (Ca (Jo O O) (Ca (Jb O O) (Fa ?_))))));refine Wb O O (λhc1=>?_) (λhc1=>?_);refine Ia (Ca (Eb O) (Fa ?_));refine Tc (v:=.bool false) O O ?_;exact⟨_,O,λhb=>(by cases hb),hF.same⟩;refine Ma (Ib (Ga (Ea (Ca (Db O) (Ca (Uk (((j+1:Nat):Int)) O O) (Ca (Bc O) (Ra ?_)))))));refine Za ⟨_,?_,j+1,rfl,U,(MB hs_ (λ_=>⟨by first|assumption|simp_all,by omega⟩)),Mk,hF⟩;omega;refine Da (Da (Da (Da (Da (Da (Ca (Jb O O) (Ca (Eb O) (Ec (Ca (Xb O) (Ca (Bi (b:=false) O) ?_))))))))));refine Ca (Xb O) (Da (Da (Da (Da (Da (Da (Da (Ca (Rb O O) (Fa (Od O (Ia ?_)))))))))));refine Ca (Eb O) (Fa ?_);refine Tc (v:=.bool false) O O ?_;exact⟨_,O,λhb=>(by cases hb),hF.same⟩;refine Zb (Vb O ?_);refine Ga (Ia (Ca (Kd O) (Ca (Rf nZ O) (Ca (Sx O O) (Ca (Eb O) (Fa ?_))))));refine Tc (v:=.bool _) O O ?_;exact⟨_,O,λhb=>by have:=of_decide_eq_true hb;exact⟨by omega,λi hi=>hs_ i hi U⟩,hF.same⟩;refine Da (Da (Ca (Jb O O) (Fa (If O ?_))));refine Zb (Vb O ?_);refine Ga (Ia (Ca (Kd O) (Ca (Rf nZ O) (Ca (Sx O O) (Ca (Eb O) (Fa ?_))))));refine Tc (v:=.bool _) O O ?_;exact⟨_,O,λhb=>by have:=of_decide_eq_true hb;exact⟨by omega,λi hi=>hs_ i hi U⟩,hF.same⟩
end Go.Scarf
