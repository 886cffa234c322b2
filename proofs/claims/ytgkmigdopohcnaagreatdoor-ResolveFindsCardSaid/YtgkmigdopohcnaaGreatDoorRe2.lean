/- A part of the proof. -/
import Derived.Test.YtgkmigdopohcnaaGreatDoorRe1
import Derived.Test.YtgkmigdopohcnaaGreatDoorRq
set_option linter.all false
set_option maxHeartbeats 8000000
set_option maxRecDepth 10000
namespace Go.Scarf
open Go.RowKit Go.Proofs Go.Proofs.Tryz
theorem ins2_c(g:Nat)(x y:Tv)(xT yT:Tree)(S:Nat->Prop)(hS:¬S g)(hgl:8<=g)(w0:World)(hg:w0.heap[g]? = some (.cells #[J (x.k),I (x.t),.slice x.A x.n x.c,.slice x.B x.m x.e,J (y.k),I (y.t),.slice y.A y.n y.c,.slice y.B y.m y.e] 25))(hx:Rep S w0 (Hb xT) x.cells)(hy:Rep S w0 (Hb yT) y.cells)(hsx:Mb xT<=1000000000)(hsy:Mb yT<=1000000000)(hkx:Co xT)(hky:Co yT)(hG:Gl w0):Calls prog 76 #[W g 2 2,J 0,J 2,.func (.func 29) #[] #[]] w0 (Pc λv w'=>v=.tuple #[]/\∃u v_:Tv,((Af yT xT<0/\y=u/\x=v_)\/(¬Af yT xT<0/\x=u/\y=v_))/\w'.heap[g]? = some (.cells #[J (u.k),I (u.t),.slice u.A u.n u.c,.slice u.B u.m u.e,J (v_.k),I (v_.t),.slice v_.A v_.n v_.c,.slice v_.B v_.m v_.e] 25)/\Same [g] w0 w'):=by
 refine Ea func76 O ntmps76 Db (L1 _ _ _ _) ?_;have hF:FR w0 [g] [(g,.cells #[J (x.k),I (x.t),.slice x.A x.n x.c,.slice x.B x.m x.e,J (y.k),I (y.t),.slice y.A y.n y.c,.slice y.B y.m y.e] 25)] w0:=FR.open_ (by intro q hq;rw[pQ.1 hq];exact⟨hg,by simp⟩) La;refine Da (Aa (Gb O) (Aa (Bo (((1:Nat):Int)) O O) (Aa (Lb O) (Ca (Va ?_)))));refine Tc (λμ σ w=>∃(i:Nat),∃(u:Tv),∃(v_:Tv),μ=2-i/\((i=1/\x=u/\y=v_)\/(i=2/\((Af yT xT<0/\y=u/\x=v_)\/(¬Af yT xT<0/\x=u/\y=v_))))/\AllEq σ [(0,W g 2 2),(1,J 0),(2,J 2),(3,.func (.func 29) #[] #[]),(8,J ((i:Int)))]/\FR w0 [g] [(g,.cells #[J (u.k),I (u.t),.slice u.A u.n u.c,.slice u.B u.m u.e,J (v_.k),I (v_.t),.slice v_.A v_.n v_.c,.slice v_.B v_.m v_.e] 25)] w) _ ⟨1,x,y,O,(.inl ⟨O,O,O⟩),T8,hF⟩ ?_;rintro μ σ w ⟨i,u,v_,rfl,hst0,hs,hF⟩;refine Cg.slots hs ?_;clear hs;intro σ;refine Fa (Da (Aa (Gb O) (Aa (Gb O) (Aa (Sl O O) (Ca ?_)))));refine Pb O O (λhc0=>?_) (λhc0=>?_);refine Na (Ga (Fa (Va (Fa ?_))));obtain⟨rfl,rfl,rfl⟩:i=1/\x=u/\y=v_:=hst0.elim (λh=>h) (λh=>absurd hc0 (by have:=h.1;omega));refine Ha (Aa (Gb O) (Aa (Lb O) (Ca (Va ?_))));refine Tc (λμ σ w=>∃(j:Nat),∃(u:Tv),∃(v_:Tv),μ=j+1/\((j=1/\x=u/\y=v_)\/(j=0/\y=u/\x=v_/\Af yT xT<0))/\AllEq σ [(0,W g 2 2),(1,J 0),(2,J 2),(3,.func (.func 29) #[] #[]),(8,J (((1:Nat):Int))),(9,J ((j:Int)))]/\FR w0 [g] [(g,.cells #[J (u.k),I (u.t),.slice u.A u.n u.c,.slice u.B u.m u.e,J (v_.k),I (v_.t),.slice v_.A v_.n v_.c,.slice v_.B v_.m v_.e] 25)] w) _ ⟨1,x,y,O,(.inl ⟨O,O,O⟩),U_,hF⟩ ?_;rintro μ σ w ⟨j,u,v_,rfl,hst,hs,hF⟩;refine Cg.slots hs ?_;clear hs;intro σ;refine Fa (Fa ?_);refine Zc (zs:=.of []) (bQ [0,1,2,3,4,5,6,7,8,9,10,11,12,13] (.act 14 (.free 15 (.free 16 .nil)))) hF ?_;intro w hF;refine Fb O (Gb O) (Fb O (Gb O) (Fb O (Gz O O) (Fb O (Dc O) ?_)));refine Qk (d:=21) O (λhg0=>?_) (λhg0=>?_)
 obtain⟨rfl,rfl,rfl⟩:j=1/\x=u/\y=v_:=hst.elim (λh=>h) (λh=>absurd hg0 (by have:=h.1;omega));refine Fb O (Pr) (Fb O (Wd O) (Fb O (Gb O) (Bb O (v:=.pointer (some ⟨g,4,none⟩)) (λw hC=>Cd (i:=((1:Nat):Int)) 4 Mg O O Ta Ta O) (Bb O (v:=.agg (y.cells).toArray) (λw hC=>Xa (l:=y.cells) aZ mZ O O (hC.part 0 4 O O)) (Fb O (Wd O) (Fb O (Gb O) (Fb O (MV (0) O O) (Bb O (v:=V g) (λw hC=>Cd (i:=0) 0 Mg O O Ta Ta O) (Bb O (v:=.agg (x.cells).toArray) (λw hC=>Xa (l:=x.cells) aZ mZ O O (hC.part 0 0 O O)) ?_)))))))));refine Uc rfl (CI yT xT hsy hsx S S _ y.cells x.cells (hy.same hF.same (by intro b hb;rw[pQ.1 hb];exact hS)) (hx.same hF.same (by intro b hb;rw[pQ.1 hb];exact hS)) hky hkx (hG.same hF.same (λb hb=>by rw[pQ.1 hb];exact hgl))) (Wh rfl en_29 rfl rfl rfl) ?_;rintro _ w ⟨rfl,hE⟩;have hF:=hF.ext hE;refine⟨hF,?_⟩;refine Fb O (Sl O O) (Fb O (Yb O O) (Ac (Ga ?_)));refine Pb O O (λhc1=>?_) (λhc1=>?_);refine Na (Ga (Fa (Va ?_)));refine Ld ⟨[15,17],λwq=>FR w0 [g] [] wq,[2,3,4,10,11,12]⟩ (bQ [0,1,2,3,4,5,6,7,8,9,10,11,12,13,14] (.act 15 (.free 16 (.act 17 .nil)))) hF ?_;rintro w hF -;refine⟨λwq=>FR w0 [g] _ wq,hF,?_⟩;refine Fb O (Wd O) (Fb O (Gb O) (Fb O (Wd O) (Fb O (Gb O) (Fb O (MV (0) O O) (Fb O (Wd O) (Fb O (Gb O) (Fb O (MV (0) O O) (Bb O (v:=V g) (λw hC=>Cd (i:=0) 0 Mg O O Ta Ta O) (Bb O (v:=.agg (x.cells).toArray) (λw hC=>Xa (l:=x.cells) aZ mZ O O (hC.part 0 0 O O)) (Fb O (Wd O) (Fb O (Gb O) ?_)))))))))));refine Fq O (v:=.pointer (some ⟨g,4,none⟩)) (λw hC=>Cd (i:=((1:Nat):Int)) 4 Mg O O Ta Ta O) (λw hC=>Cd (i:=((1:Nat):Int)) 4 Mg O O Ta Ta O) (Bb O (v:=.agg (y.cells).toArray) (λw hC=>Xa (l:=y.cells) aZ mZ O O (hC.part 0 4 O O)) (Bb O (v:=.pointer (some ⟨g,4,none⟩)) (λw hC=>Cd (i:=((1:Nat):Int)) 4 Mg O O Ta Ta O) ?_));refine Pp 0 (l:=[J (x.k),I (x.t),.slice x.A x.n x.c,.slice x.B x.m x.e]) (cs':=#[J (x.k),I (x.t),.slice x.A x.n x.c,.slice x.B x.m x.e,J (x.k),I (x.t),.slice x.A x.n x.c,.slice x.B x.m x.e]) hF mZ O (v:=.agg (x.cells).toArray) O O Is O Db O ?_ O
 rintro w hF -;refine⟨hF.mid 1 0,?_⟩;refine Bb O (v:=V g) (λw hC=>Cd (i:=0) 0 Mg O O Ta Ta O) (Pp 0 (l:=[J (y.k),I (y.t),.slice y.A y.n y.c,.slice y.B y.m y.e]) (cs':=#[J (y.k),I (y.t),.slice y.A y.n y.c,.slice y.B y.m y.e,J (x.k),I (x.t),.slice x.A x.n x.c,.slice x.B x.m x.e]) hF mZ O (v:=.agg (y.cells).toArray) O O Is O Db O ?_ O);rintro w hF -;refine⟨hF.mid 1 0,?_⟩;refine Ac (Cb (Ga (Ha (Aa (Gb O) (Aa (MV (((0:Nat):Int)) O O) (Aa (Lb O) (Ua ?_)))))));refine Xb ⟨_,?_,0,y,x,O,(.inr ⟨O,O,O,hc1⟩),U_,hF⟩;omega;refine Kc (Ec O ?_);refine Cb (Ga (Ha (Aa (Gb O) (Aa (Bo (((2:Nat):Int)) O O) (Aa (Lb O) (Ua ?_))))));refine Xb ⟨_,?_,2,x,y,O,(.inr ⟨O,.inr ⟨hc1,O,O⟩⟩),T8,hF⟩;omega;refine Kd O (Kd O ?_);refine Kd O (Kd O ?_);refine Kd O (Kd O ?_);refine Kd O (Kd O ?_);refine Kd O (Kd O ?_);refine FQ O ?_ (hF);refine Kd O (Fb O (Bc O O) (Ac (Ga (We O ?_))));refine Kc (Ec O ?_);refine Cb (Ga (Ha (Aa (Gb O) (Aa (Bo (((2:Nat):Int)) O O) (Aa (Lb O) (Ua ?_))))));refine Xb ⟨_,?_,2,u,v_,O,(hst.elim (λh=>absurd (by have:=h.1;omega:(0:Int)<(j:Int)) hg0) (λh=>.inr ⟨O,.inl ⟨h.2.2.2,h.2.1,h.2.2.1⟩⟩)),T8,hF⟩;omega;refine Kc (Ec O ?_);refine Fg (Ce (Xi O) ?_);have hst1:=hst0.elim (λh=>absurd (show (i:Int)<2 by have:=h.1;omega) hc0) (λh=>h.2);exact⟨O,u,v_,hst1,hF.heap (i:=0) O,hF.same⟩
theorem YL(g:Nat)(x y:Tv)(xT yT:Tree)(S:Nat->Prop)(hS:¬S g)(hgl:8<=g)(w0:World)(hg:w0.heap[g]? = some (.cells #[J (x.k),I (x.t),.slice x.A x.n x.c,.slice x.B x.m x.e,J (y.k),I (y.t),.slice y.A y.n y.c,.slice y.B y.m y.e] 25))(hx:Rep S w0 (Hb xT) x.cells)(hy:Rep S w0 (Hb yT) y.cells)(hsx:Mb xT<=1000000000)(hsy:Mb yT<=1000000000)(hkx:Co xT)(hky:Co yT)(hG:Gl w0):Calls prog 50 #[W g 2 2,J 2,.func (.func 29) #[] #[]] w0 (Pc λv w'=>v=.tuple #[]/\∃u v_:Tv,((Af yT xT<0/\y=u/\x=v_)\/(¬Af yT xT<0/\x=u/\y=v_))/\w'.heap[g]? = some (.cells #[J (u.k),I (u.t),.slice u.A u.n u.c,.slice u.B u.m u.e,J (v_.k),I (v_.t),.slice v_.A v_.n v_.c,.slice v_.B v_.m v_.e] 25)/\Same [g] w0 w'):=by
 refine Ea func50 O ntmps50 Db (Fk _ _ _) ?_;have hF:FR w0 [g] [(g,.cells #[J (x.k),I (x.t),.slice x.A x.n x.c,.slice x.B x.m x.e,J (y.k),I (y.t),.slice y.A y.n y.c,.slice y.B y.m y.e] 25)] w0:=FR.open_ (by intro q hq;rw[pQ.1 hq];exact⟨hg,by simp⟩) La;refine Da (Aa (Lb O) (Qb (Aa (Gb O) (Aa (Lb O) (Aa (Lb O) (Ca (Fa (Va ?_))))))));refine Tc (λμ σ w=>μ=0/\AllEq σ [(0,W g 2 2),(1,J 2),(2,.func (.func 29) #[] #[]),(6,J 20),(7,J 0),(8,J 20)]/\FR w0 [g] [(g,.cells #[J (x.k),I (x.t),.slice x.A x.n x.c,.slice x.B x.m x.e,J (y.k),I (y.t),.slice y.A y.n y.c,.slice y.B y.m y.e] 25)] w) _ ⟨O,U_,hF⟩ ?_;rintro μ σ w ⟨rfl,hs,hF⟩;refine Cg.slots hs ?_;clear hs;intro σ;refine Fa (Da (Aa (Gb O) (Aa (Gb O) (Aa (OV O O) (Ca ?_)))));refine We (by rfl) (Kc (Ec O ?_));refine Ga (Da (Aa (Wd O) (Aa (Gb O) (Aa (Gb O) (Aa (Pr) ?_)))));refine Ya (ins2_c g x y xT yT S hS hgl _ (hF.heap (i:=0) rfl) (hx.same hF.same (by intro b hb;rw[pQ.1 hb];exact hS)) (hy.same hF.same (by intro b hb;rw[pQ.1 hb];exact hS)) hsx hsy hkx hky (hG.same hF.same (λb hb=>by rw[pQ.1 hb];exact hgl))) (BK en_76 rfl rfl rfl rfl rfl) ?_;rintro _ w ⟨rfl,u,v_,hst1,hg1,hE⟩;have hF:=hF.change 0 rfl hE hg1;clear hE hg1;refine Ca (Va ?_);refine Tc (λμ σ w=>μ=0/\AllEq σ [(0,W g 2 2),(1,J 2),(2,.func (.func 29) #[] #[]),(6,J 20)]/\FR w0 [g] [(g,.cells #[J (u.k),I (u.t),.slice u.A u.n u.c,.slice u.B u.m u.e,J (v_.k),I (v_.t),.slice v_.A v_.n v_.c,.slice v_.B v_.m v_.e] 25)] w) _ ⟨O,Nr,hF⟩ ?_;rintro μ σ w ⟨rfl,hs,hF⟩;refine Cg.slots hs ?_;clear hs;intro σ;refine Fa (Da (Aa (Gb O) (Aa (Gb O) (Aa (Sl O O) (Ca ?_)))));refine We (by rfl) (Kc (Ec O ?_));refine Fg (Ce (Xi O) ?_);exact⟨O,u,v_,hst1,hF.heap (i:=0) O,hF.same⟩
theorem AY(g:Nat)(x y:Tv)(xT yT:Tree)(S:Nat->Prop)(hS:¬S g)(hgl:8<=g)(w0:World)(hg:w0.heap[g]? = some (.cells #[J (x.k),I (x.t),.slice x.A x.n x.c,.slice x.B x.m x.e,J (y.k),I (y.t),.slice y.A y.n y.c,.slice y.B y.m y.e] 25))(hx:Rep S w0 (Hb xT) x.cells)(hy:Rep S w0 (Hb yT) y.cells)(hsx:Mb xT<=1000000000)(hsy:Mb yT<=1000000000)(hkx:Co xT)(hky:Co yT)(hG:Gl w0):Calls prog 28 #[W g 2 2,.func (.func 29) #[] #[]] w0 (Pc λv w'=>v=.tuple #[]/\∃u v_:Tv,((Af yT xT<0/\y=u/\x=v_)\/(¬Af yT xT<0/\x=u/\y=v_))/\w'.heap[g]? = some (.cells #[J (u.k),I (u.t),.slice u.A u.n u.c,.slice u.B u.m u.e,J (v_.k),I (v_.t),.slice v_.A v_.n v_.c,.slice v_.B v_.m v_.e] 25)/\Same [g] w0 w'):=by
 refine Ea func28 O ntmps28 Db (Lc _ _) ?_;have hF:FR w0 [g] [(g,.cells #[J (x.k),I (x.t),.slice x.A x.n x.c,.slice x.B x.m x.e,J (y.k),I (y.t),.slice y.A y.n y.c,.slice y.B y.m y.e] 25)] w0:=FR.open_ (by intro q hq;rw[pQ.1 hq];exact⟨hg,by simp⟩) La;refine Ha (Aa (Wd O) (Aa (Wd O) (Aa (Ug yZ O) (Aa (Pr) ?_))));refine Ya (YL g x y xT yT S hS hgl _ (hF.heap (i:=0) rfl) (hx.same hF.same (by intro b hb;rw[pQ.1 hb];exact hS)) (hy.same hF.same (by intro b hb;rw[pQ.1 hb];exact hS)) hsx hsy hkx hky (hG.same hF.same (λb hb=>by rw[pQ.1 hb];exact hgl))) (Te en_50 rfl rfl rfl rfl) ?_;rintro _ w ⟨rfl,u,v_,hst1,hg1,hE⟩;have hF:=hF.change 0 rfl hE hg1;clear hE hg1;refine Ua (Fg (Ce (Xi O) ?_));exact⟨O,u,v_,hst1,hF.heap (i:=0) O,hF.same⟩
def YO(s:Str)(l:List Nd)(z:Int):Str:=match l[z.toNat]? with|none=>[]|some y=>(Ud (Gc s y.kf y.kt)).1
def Iq(s:Str)(l:List Nd)(d:Nat)(x:Nd)(j:Nat):List Str × List Tree:=(if x.k=6 then (x.kids.take j).map (YO s l) else [],(x.kids.take j).map λz=>Un s l (d-1) z.toNat)
theorem Xn{α:Type}{p:α->Bool}:∀{l:List α}{j:Nat},(∀z∈l.take j,p z=true)->(∀h:j<l.length,p l[j]=false)->l.takeWhile p=l.take j
  | [],j,_,_=>by simp
  | a :: l, 0, _, h => by
    have:=h (Nat.succ_pos _);simp only[List.getElem_cons_zero]at this;rw[List.takeWhile_cons_of_neg (by rw[this];decide),List.take_zero]
  | a :: l, j + 1, h1, h2 => by
    rw[List.take_succ_cons]at h1 ⊢;rw[List.takeWhile_cons_of_pos (h1 a List.mem_cons_self),Xn (λz hz=>h1 z (List.mem_cons_of_mem _ hz)) λh=>by
      have:=h2 (Nat.succ_lt_succ h);simpa using this]
def FX(l:List Nd)(z:Int):Prop:=0<=z/\z<(l.length:Int)
theorem Tq{s:Str}{l:List Nd}{d k j:Nat}(hk:k<l.length)(h1:∀z∈l[k].kids.take j,FX l z)(h2:∀h:j<l[k].kids.length,¬FX l l[k].kids[j]\/d=0)(h3:0<j->0<d) :
    Un s l d k=.node l[k].k (Oi l[k].k (Gc s l[k].f l[k].t)) (Iq s l d l[k] j).1 (Iq s l d l[k] j).2:=by
  have e:l[k]? = some l[k]:=List.getElem?_eq_getElem hk;cases d with
  | zero =>
    have hj:j=0:=by
      rcases Nat.eq_zero_or_pos j with h|h
      ·exact h
      have:=h3 h;omega
    subst hj;rw[Un,e];simp[Iq]
  | succ d =>
    have hw:l[k].kids.takeWhile (λj:Int=>decide (0<=j)&&decide (j<(l.length:Int)))=l[k].kids.take j:=Xn
      (λz hz=>by have:=h1 z hz;unfold FX at this;simp[this]) λh=>by
        rcases h2 h with h|h
        ·unfold FX at h
         rw[Bool.and_eq_false_iff,decide_eq_false_iff_not,decide_eq_false_iff_not];omega
        cases h
    rw[Un,e];simp only[hw];rfl
theorem MY{s:Str}{l:List Nd}{d j:Nat}{x:Nd}(h:x.k=6)(hj:j<x.kids.length):Iq s l d x (j+1)=((Iq s l d x j).1++[YO s l x.kids[j]],(Iq s l d x j).2++[Un s l (d-1) x.kids[j].toNat]):=by
  unfold Iq;rw[if_pos h,if_pos h,iQ hj];simp only[jQ,List.map_cons,List.map_nil]
theorem IY{s:Str}{l:List Nd}{d j:Nat}{x:Nd}(h:¬x.k=6)(hj:j<x.kids.length):Iq s l d x (j+1)=((Iq s l d x j).1,(Iq s l d x j).2++[Un s l (d-1) x.kids[j].toNat]):=by
  unfold Iq;rw[if_neg h,if_neg h,iQ hj];simp only[jQ,List.map_cons,List.map_nil]
theorem CR(s:Str)(l:List Nd)(d:Nat)(x:Nd):Iq s l d x 0=([],[]):=by unfold Iq;simp
theorem H5(hr:∀n,(Uf n).length<=4)(t:Str):∀(f at_:Nat)(out:Str),(No f t at_ out).1.length<=out.length+4*f
  | 0,at_,out=>by rw[No];exact Nat.zero_le _
  | f + 1, at_, out => by
    rw[No];split
    ·split
     ·simp only;omega
     split
     ·exact Nat.zero_le _
     have := H5 hr t f (at_ + (Ej (t.drop at_)).2) (out ++ Uf (Ej (t.drop at_)).1);rw[dQ]at this;have:=hr (Ej (t.drop at_)).1;omega
    exact Nat.zero_le _
theorem Xv(hr:∀n,(Uf n).length<=4)(t:Str):(Ud t).1.length<=4*t.length:=by
  have h:(Ke t 0).1.length<=4*t.length:=by
    unfold Ke;split
    ·have := H5 hr t (t.length-0) (0 + 1) []
     simp only[List.length_nil]at this;omega
    exact Nat.zero_le _
  unfold Ud;split
  ·exact Nat.zero_le _
  exact h
theorem CC(x:Num):(Qh x).length<=1100:=by
  by_cases h:Ie x=true
  ·have hr := Gd h
   have hi:=Lib.itoa_length_le x.exp Ba Ba;unfold Qh;split
   ·simp
   split
   ·simp
   rw[dQ];have h1:(if x.neg=true then 45::x.digits else x.digits).length<=1001:=by split <;> (try simp) <;> omega
   have h2:(if x.exp≠0 then 101::Lib.itoa x.exp else []).length<=22:=by split <;> (try simp) <;> omega
   omega
  unfold Qh;rw[if_pos (by simpa using h)];exact Nat.zero_le _
theorem Nt(k:Int)(s:Str):(Oi k s).length<=4*s.length+1100:=by
  unfold Oi;split
  ·omega
  split
  ·have:=CC (Oc s).1;omega
  split
  ·have:=Xv (λn=>(Fh n).2) s;omega
  exact Nat.zero_le _
theorem Hk(s:Str)(f t:Nat):(Gc s f t).length<=s.length:=by
  unfold Gc;split
  ·rw[List.length_drop,List.length_take];omega
  exact Nat.zero_le _
theorem YR(s:Str)(l:List Nd)(z:Int):(YO s l z).length<=4*s.length:=by
  unfold YO;split
  ·exact Nat.zero_le _
  rename_i y _
  have:=Xv (λn=>(Fh n).2) (Gc s y.kf y.kt);have:=Hk s y.kf y.kt;omega
theorem KW{s:Str}{l:List Nd}{q:Nat}(h:q<l.length):YO s l (q:Int)=(Ud (Gc s l[q].kf l[q].kt)).1:=by
  unfold YO;rw[Int.toNat_natCast,List.getElem?_eq_getElem h]
theorem Hw{s:Str}{l:List Nd}{d j:Nat}{x:Nd}:∀y∈(Iq s l d x j).1,y.length<=4*s.length:=by
  unfold Iq;intro y hy;split at hy
  ·obtain⟨z, _, rfl⟩ := nQ.1 hy
   exact YR s l z
  cases hy
theorem AX{s:Str}{l:List Nd}{d j:Nat}{x:Nd}(hj:j<=x.kids.length):(Iq s l d x j).1.length<=j/\(Iq s l d x j).2.length=j:=by
  unfold Iq;refine⟨?_,by simp;omega⟩;dsimp only;split
  ·simp;omega
  exact Nat.zero_le _
structure CfP (c:Cf):Prop where
  ok:CfOk c
  sz:Mb c.b.val+Mb c.l.val+Mb c.r.val<=100000000
  mb:Id c.b.val<=1073741824
  ml:Id c.l.val<=1073741824
  mr:Id c.r.val<=1073741824
theorem O2{s:Sd}(h:Id s.val<=1073741824):Id (Qe s)<=1073741824:=by
  unfold Qe;split <;> simp[Id,Qj,Uj,h]
theorem N1{x y:Tree}{q:Tree->Prop}(hx:q x)(hy:q y):q (Av x y).1/\q (Av x y).2:=by
  unfold Av;split
  ·exact⟨hy,hx⟩
  exact⟨hx,hy⟩
theorem WI{k:Int}(h:1<=k/\k<=6):(Qh (M4 k)).length<=1073741824:=by
  have:=CC (M4 k);omega
theorem I6{c:Cf}(h:CfP c)(hk:1<=c.cls/\c.cls<=6):Mb (Gs c)<=1000000000/\Id (Gs c)<=1073741824:=by
  have hb:=An h.ok.b;have hl:=An h.ok.l;have hr:=An h.ok.r;have hs:=h.sz;have e:Mb (Av (Qe c.l) (Qe c.r)).1+Mb (Av (Qe c.l) (Qe c.r)).2=Mb (Qe c.l)+Mb (Qe c.r):=by unfold Av;split <;> simp only <;> omega
  have hm:=N1 (q:=λt=>Id t<=1073741824) (O2 h.ml) (O2 h.mr);have hw:=O2 h.mb;have hc:=WI hk;unfold Gs OL;refine⟨?_,?_⟩
  ·simp only[Mb,Vb];omega
  simp only[Id, Qj, Uj, List.length_nil];omega
theorem JQ{S:Nat->Prop}{w:World}{xT yT:Tree}{x y u v:Tv}(h:(Af yT xT<0/\y=u/\x=v)\/(¬Af yT xT<0/\x=u/\y=v))(hx:Rep S w (Hb xT) x.cells)(hy:Rep S w (Hb yT) y.cells):Rep S w (Hb (Av xT yT).1) u.cells/\Rep S w (Hb (Av xT yT).2) v.cells:=by
  unfold Av;rcases h with ⟨h,rfl,rfl⟩|⟨h,rfl,rfl⟩
  ·rw[if_pos h];exact⟨hy,hx⟩
  rw[if_neg h];exact⟨hx,hy⟩
theorem Rep.anyS{S:Nat->Prop}{w:World}{d:D}{cs:List Value}(h:Rep S w d cs):Rep (λ_=>True) w d cs:=h.weaken λ_ _ _=>trivial
theorem Uq(c:Cf)(q:Cv)(S:Nat->Prop)(w0:World)(hq:CvOf S w0 c q)(hP:CfP c)(hG:Gl w0):Calls prog 8 #[.agg q.cells.toArray] w0 (Pc λv w'=>v=.tuple #[I ((Mf c).1),.bool (Mf c).2]/\Same [] w0 w'):=by
 refine Ea func8 O ntmps8 Db (Rb _) ?_;have hF:=FR.start w0 [];refine Da (Le hF O ?_);rintro b1 w hb1 hF -;refine Aa (Rf O) (Aa (Jb O) (Ca (Fa (Da (Tb (He cZ oZ O hF.F 0 O O) ?_)))));refine Oa hF (BS c q S _ ⟨hq.n,hq.k,hF.rep hq.p,hF.rep hq.x,hF.rep hq.y,hF.rep hq.z⟩ hP.ok (hG.ext hF.same)) (Ma en_26 O O) ?_;intro w hF;refine Aa (Oh O) (Ca ?_);refine Fe O O (λhc0=>?_) (λhc0=>?_);have h0:Kq c=false:=by simpa using hc0
 refine Da (Aa (Rf O) (Aa (Jb O) (Ca ?_)));refine Ab (Za (Ka (Vc (v:=I []) (x:=.bool false) O O O) ?_));have e:Mf c=([],false):=by unfold Mf;rw[if_neg (by rw[h0];decide)]
 rw[e];exact⟨O,hF.same⟩;have h0:Kq c=true:=by simpa using hc0
 have hkc:1<=c.cls/\c.cls<=6:=by unfold Kq at h0;simp only[Bool.and_eq_true,decide_eq_true_eq]at h0;exact h0.2.2.2
 refine Na (Ga (Fa ?_));refine Zc (zs:=.of []) (bQ [0,1,3,4] (cQ [2,5,6] (.free 7 .nil))) hF ?_;intro w hF;refine Fb O (Ob Qw O) (Bb O (v:=.agg (q.y.cells).toArray) (λw hC=>Xa (l:=q.y.cells) bZ nZ O O (hC.part 0 7 O O)) (Fb O (Ob Kv O) (Bb O (v:=.agg (q.z.cells).toArray) (λw hC=>Xa (l:=q.z.cells) bZ nZ O O (hC.part 0 12 O O)) ?_)));refine Uc O (Rt c.l q.y S _ (hF.rep hq.y)) (Ma PK O O) ?_;rintro _ w ⟨ct,rfl,hXl,hE⟩;obtain⟨xl,rfl,-⟩:=Di hXl;have hF:=hF.ext hE;have hXl:=hXl.low;refine⟨hF,?_⟩;refine Uc O (Rt c.r q.z S _ (hF.rep hq.z)) (Ma PK O O) ?_;rintro _ w ⟨ct,rfl,hXr,hE⟩;obtain⟨xr,rfl,-⟩:=Di hXr;have hF:=hF.ext hE;have hXl:=(hXl.ext hE).low;have hXr:=hXr.low;obtain⟨N,hN⟩:∃N,N=w.heap.size:=⟨_,rfl⟩;rw[<-hN]at hXl hXr;refine⟨hF,?_⟩;refine Nf 2 O hF (Eb (cs:=#[J (xl.k),I (xl.t),.slice xl.A xl.n xl.c,.slice xl.B xl.m xl.e,J (xr.k),I (xr.t),.slice xr.A xr.n xr.c,.slice xr.B xr.m xr.e]) yZ mZ kX Ta Ta Ib) ?_;intro b2 w hb2 hF hE;have hXl:=hXl.ext hE;have hXr:=hXr.ext hE;refine⟨hF.drop 1,?_⟩;refine Fb O (Em O) (Ac (Ga (Da (Aa (Wd O) ?_))));refine Ya (AY b2 xl xr (Qe c.l) (Qe c.r) (λx=>x<N) Ba (by have:=hG.size;have:=hF.ge (i:=0) O;omega) _ (hF.heap (i:=0) O) hXl hXr (by have:=(An hP.ok.l).2;have:=hP.ok.l.sz;have:=hP.sz;omega) (by have:=(An hP.ok.r).2;have:=hP.ok.r.sz;have:=hP.sz;omega) (An hP.ok.l).1 (An hP.ok.r).1 (hG.ext hF.same)) (Ra en_28 O O O) ?_;rintro _ w ⟨rfl,u,v_,hst1,hg1,hE⟩;have hNb:∀x∈[b2],¬x<N:=λx hx=>by rw[pQ.1 hx];omega
 have hXl:=hXl.same hE hNb;have hXr:=hXr.same hE hNb;have hF:=hF.change 0 rfl hE hg1;clear hE hg1 hNb;obtain⟨hXu,hXv⟩:=JQ hst1 hXl hXr;clear hXl hXr;refine Ca (Fa ?_);refine Ld (.of []) (bQ [0,1,3,4,6,7,8,9,10,11] (cQ [2,5,12,13,14] (bQ [15,16,17,18,19] .nil))) hF ?_;intro w hF hE;have hXu:=hXu.ext hE;have hXv:=hXv.ext hE;refine⟨λwq=>FR w0 [] _ wq,hF,?_⟩;refine Fb O (Ob Tl O) (Sf O (Yi dZ O C0 1 O O) (Fb O (Ob Fv O) (Bb O (v:=.agg (q.x.cells).toArray) (λw hC=>Xa (l:=q.x.cells) bZ nZ O O (hC.part 1 2 O O)) (Fb O (Wd O) (Bb O (v:=V b2) (λw hC=>Cd (i:=0) 0 Mg O O Ta Ta O) (Bb O (v:=.agg (u.cells).toArray) (λw hC=>Xa (l:=u.cells) aZ mZ O O (hC.part 0 0 O O)) (Fb O (Wd O) (Bb O (v:=.pointer (some ⟨b2,4,none⟩)) (λw hC=>Cd (i:=1) 4 Mg O O Ta Ta O) (Bb O (v:=.agg (v_.cells).toArray) (λw hC=>Xa (l:=v_.cells) aZ mZ O O (hC.part 0 4 O O)) ?_)))))))));refine Uc O (T5 q.k (by have:=hq.k;omega) (by have:=hq.k;omega) _ (hG.ext hF.same)) (Ma M7 O O) ?_;rintro _ w ⟨rfl,hE⟩;have hF:=hF.ext hE;have hXu:=hXu.ext hE;have hXv:=hXv.ext hE;refine⟨hF,?_⟩;refine Uc O (Rt c.b q.x S _ (hF.rep hq.x)) (Ma PK O O) ?_;rintro _ w ⟨ct,rfl,hXb,hE⟩;obtain⟨xb,rfl,-⟩:=Di hXb;have hF:=hF.ext hE;have hXu:=hXu.ext hE;have hXv:=hXv.ext hE;refine⟨hF,?_⟩;refine Nf 4 O hF (Eb (cs:=#[J 3,I (Qh (M4 q.k)),aQ,aQ,J (xb.k),I (xb.t),.slice xb.A xb.n xb.c,.slice xb.B xb.m xb.e,J (u.k),I (u.t),.slice u.A u.n u.c,.slice u.B u.m u.e,J (v_.k),I (v_.t),.slice v_.A v_.n v_.c,.slice v_.B v_.m v_.e]) yZ mZ kX Ta Ta Ib) ?_;intro b3 w hb3 hF hE;have hXu:=hXu.ext hE;have hXv:=hXv.ext hE;have hXb:=hXb.ext hE;refine⟨hF.drop 1,?_⟩;refine Uc O (RD (some ⟨b3,0,none⟩) 4 4 _) (Ma XB O O) ?_;rintro _ w ⟨rfl,hE⟩;have hF:=hF.ext hE;have hXu:=hXu.ext hE;have hXv:=hXv.ext hE
 have hXb:=hXb.ext hE;refine⟨hF.drop 1,?_⟩;have hNum:Rep (λ_=>True) w (Hb (OL c.cls)) [J 3,I (Qh (M4 q.k)),aQ,aQ]:=by rw[hq.k];exact IP 3 (Qh (M4 c.cls)) ⟨by decide,by decide⟩ (by have:=WI hkc;omega) _
 have hrow:Rep (λx=>True\/x=b3) _ (.slice ([OL c.cls,Qe c.b,(Av (Qe c.l) (Qe c.r)).1,(Av (Qe c.l) (Qe c.r)).2].map Hb)) _:=hF.rowS 0 rfl (n:=4) (RepL.cons_mk hNum (RepL.cons_mk hXb.anyS (RepL.cons_mk hXu.anyS (RepL.cons_mk (c2:=[]) hXv.anyS RepL.nil_mk)))) rfl Ba;have hX:Rep (λ_=>True) _ (Hb (Gs c)) [J 5,I [],aQ,W b3 4 4]:=Rep.tree_mk (ks:=[]) (xs:=[OL c.cls,Qe c.b,(Av (Qe c.l) (Qe c.r)).1,(Av (Qe c.l) (Qe c.r)).2]) ⟨by decide,by decide⟩ La (Rep.nil_slice 0 Ba none) (by rw[Pd];exact hrow.anyS);refine Uc O (NK (Gs c) (λ_=>True) _ _ hX (hG.ext hF.same) (I6 hP hkc).1 (I6 hP hkc).2) (Ma XZ O O) ?_;rintro _ w ⟨rfl,hE⟩;have hF:=hF.ext hE;have hXu:=hXu.ext hE;have hXv:=hXv.ext hE;have hXb:=hXb.ext hE;refine⟨hF.drop 1,?_⟩;refine Fb O (Ri O) (Fb O (Kx O O) (Fb O (Gj O O) (Fb O (Rf O) (Fb O (Lb O) (Ac (Ga (Da (Aa (Md O) (Aa (Gb O) (Aa (Yh O O) (Aa (Rf O) (Aa (Jb O) ?_))))))))))));refine Ca (Ab (Za (Ka (Vc (v:=I (Am (Ae (Gs c)))) (x:=.bool _) O O O) ?_)));have e:Mf c=(Am (Ae (Gs c)),decide (Lw (Ae (Gs c))=0)):=by unfold Mf;rw[if_pos h0]
 rw[e];exact⟨O,hF.same⟩
end Go.Scarf
