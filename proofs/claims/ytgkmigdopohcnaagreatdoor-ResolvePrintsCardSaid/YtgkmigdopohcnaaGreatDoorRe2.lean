/- A part of the proof. -/
import Derived.Test.YtgkmigdopohcnaaGreatDoorRe1
import Derived.Test.YtgkmigdopohcnaaGreatDoorRq
set_option linter.all false
set_option maxHeartbeats 8000000
set_option maxRecDepth 10000
namespace Go.Scarf
open Go.RowKit Go.Proofs Go.Proofs.Tryz
theorem ins2_c(g:Nat)(x y:Tv)(xT yT:Tree)(S:Nat->Prop)(hS:¬S g)(hgl:8<=g)(w0:World)(hg:w0.heap[g]? = some (.cells #[J (x.k),I (x.t),.slice x.A x.n x.c,.slice x.B x.m x.e,J (y.k),I (y.t),.slice y.A y.n y.c,.slice y.B y.m y.e] 25))(hx:Rep S w0 (Pb xT) x.cells)(hy:Rep S w0 (Pb yT) y.cells)(hsx:Qb xT<=1000000000)(hsy:Qb yT<=1000000000)(hkx:Vp xT)(hky:Vp yT)(hG:Gl w0):Calls prog 76 #[W g 2 2,J 0,J 2,.func (.func 29) #[] #[]] w0 (Dd λv w'=>v=.tuple #[]/\∃u v_:Tv,((Id yT xT<0/\y=u/\x=v_)\/(¬Id yT xT<0/\x=u/\y=v_))/\w'.heap[g]? = some (.cells #[J (u.k),I (u.t),.slice u.A u.n u.c,.slice u.B u.m u.e,J (v_.k),I (v_.t),.slice v_.A v_.n v_.c,.slice v_.B v_.m v_.e] 25)/\Same [g] w0 w'):=by
 refine Ia func76 O ntmps76 Eb (NC _ _ _ _) ?_;have hF:FR w0 [g] [(g,.cells #[J (x.k),I (x.t),.slice x.A x.n x.c,.slice x.B x.m x.e,J (y.k),I (y.t),.slice y.A y.n y.c,.slice y.B y.m y.e] 25)] w0:=FR.open_ (by intro q hq;rw[pQ.1 hq];exact⟨hg,by simp⟩) Ma;refine Ea (Ba (Za O) (Ba (Ek (((1:Nat):Int)) O O) (Ba (Gb O) (Da (Qa ?_)))));refine Jc (λμ σ w=>∃(i:Nat),∃(u:Tv),∃(v_:Tv),μ=2-i/\((i=1/\x=u/\y=v_)\/(i=2/\((Id yT xT<0/\y=u/\x=v_)\/(¬Id yT xT<0/\x=u/\y=v_))))/\AllEq σ [(0,W g 2 2),(1,J 0),(2,J 2),(3,.func (.func 29) #[] #[]),(8,J ((i:Int)))]/\FR w0 [g] [(g,.cells #[J (u.k),I (u.t),.slice u.A u.n u.c,.slice u.B u.m u.e,J (v_.k),I (v_.t),.slice v_.A v_.n v_.c,.slice v_.B v_.m v_.e] 25)] w) _ ⟨1,x,y,O,(.inl ⟨O,O,O⟩),Bp,hF⟩ ?_;rintro μ σ w ⟨i,u,v_,rfl,hst0,hs,hF⟩;refine Cg.slots hs ?_;clear hs;intro σ;refine Ga (Ea (Ba (Za O) (Ba (Za O) (Ba (Di O O) (Da ?_)))));refine Ib O O (λhc0=>?_) (λhc0=>?_);refine La (Fa (Ga (Qa (Ga ?_))));obtain⟨rfl,rfl,rfl⟩:i=1/\x=u/\y=v_:=hst0.elim (λh=>h) (λh=>absurd hc0 (by have:=h.1;omega));refine Ha (Ba (Za O) (Ba (Gb O) (Da (Qa ?_))));refine Jc (λμ σ w=>∃(j:Nat),∃(u:Tv),∃(v_:Tv),μ=j+1/\((j=1/\x=u/\y=v_)\/(j=0/\y=u/\x=v_/\Id yT xT<0))/\AllEq σ [(0,W g 2 2),(1,J 0),(2,J 2),(3,.func (.func 29) #[] #[]),(8,J (((1:Nat):Int))),(9,J ((j:Int)))]/\FR w0 [g] [(g,.cells #[J (u.k),I (u.t),.slice u.A u.n u.c,.slice u.B u.m u.e,J (v_.k),I (v_.t),.slice v_.A v_.n v_.c,.slice v_.B v_.m v_.e] 25)] w) _ ⟨1,x,y,O,(.inl ⟨O,O,O⟩),U7,hF⟩ ?_;rintro μ σ w ⟨j,u,v_,rfl,hst,hs,hF⟩;refine Cg.slots hs ?_;clear hs;intro σ;refine Ga (Ga ?_);refine Md (zs:=.of []) (bQ [0,1,2,3,4,5,6,7,8,9,10,11,12,13] (.act 14 (.free 15 (.free 16 .nil)))) hF ?_;intro w hF;refine Jb O (Za O) (Jb O (Za O) (Jb O (Ho O O) (Jb O (Vb O) ?_)));refine Zk (d:=21) O (λhg0=>?_) (λhg0=>?_)
 obtain⟨rfl,rfl,rfl⟩:j=1/\x=u/\y=v_:=hst.elim (λh=>h) (λh=>absurd hg0 (by have:=h.1;omega));refine Jb O (Nt) (Jb O (Sf O) (Jb O (Za O) (Cb O (v:=.pointer (some ⟨g,4,none⟩)) (λw hC=>Ce (i:=((1:Nat):Int)) 4 Hg O O Ab Ab O) (Cb O (v:=.agg (y.cells).toArray) (λw hC=>Wa (l:=y.cells) aZ nZ O O (hC.part 0 4 O O)) (Jb O (Sf O) (Jb O (Za O) (Jb O (XQ (0) O O) (Cb O (v:=V g) (λw hC=>Ce (i:=0) 0 Hg O O Ab Ab O) (Cb O (v:=.agg (x.cells).toArray) (λw hC=>Wa (l:=x.cells) aZ nZ O O (hC.part 0 0 O O)) ?_)))))))));refine Pd rfl (YJ yT xT hsy hsx S S _ y.cells x.cells (hy.same hF.same (by intro b hb;rw[pQ.1 hb];exact hS)) (hx.same hF.same (by intro b hb;rw[pQ.1 hb];exact hS)) hky hkx (hG.same hF.same (λb hb=>by rw[pQ.1 hb];exact hgl))) (Wi rfl en_29 rfl rfl rfl) ?_;rintro _ w ⟨rfl,hE⟩;have hF:=hF.ext hE;refine⟨hF,?_⟩;refine Jb O (Di O O) (Jb O (Tb O O) (Hc (Fa ?_)));refine Ib O O (λhc1=>?_) (λhc1=>?_);refine La (Fa (Ga (Qa ?_)));refine Ke ⟨[15,17],λwq=>FR w0 [g] [] wq,[2,3,4,10,11,12]⟩ (bQ [0,1,2,3,4,5,6,7,8,9,10,11,12,13,14] (.act 15 (.free 16 (.act 17 .nil)))) hF ?_;rintro w hF -;refine⟨λwq=>FR w0 [g] _ wq,hF,?_⟩;refine Jb O (Sf O) (Jb O (Za O) (Jb O (Sf O) (Jb O (Za O) (Jb O (XQ (0) O O) (Jb O (Sf O) (Jb O (Za O) (Jb O (XQ (0) O O) (Cb O (v:=V g) (λw hC=>Ce (i:=0) 0 Hg O O Ab Ab O) (Cb O (v:=.agg (x.cells).toArray) (λw hC=>Wa (l:=x.cells) aZ nZ O O (hC.part 0 0 O O)) (Jb O (Sf O) (Jb O (Za O) ?_)))))))))));refine Ns O (v:=.pointer (some ⟨g,4,none⟩)) (λw hC=>Ce (i:=((1:Nat):Int)) 4 Hg O O Ab Ab O) (λw hC=>Ce (i:=((1:Nat):Int)) 4 Hg O O Ab Ab O) (Cb O (v:=.agg (y.cells).toArray) (λw hC=>Wa (l:=y.cells) aZ nZ O O (hC.part 0 4 O O)) (Cb O (v:=.pointer (some ⟨g,4,none⟩)) (λw hC=>Ce (i:=((1:Nat):Int)) 4 Hg O O Ab Ab O) ?_));refine Mr 0 (l:=[J (x.k),I (x.t),.slice x.A x.n x.c,.slice x.B x.m x.e]) (cs':=#[J (x.k),I (x.t),.slice x.A x.n x.c,.slice x.B x.m x.e,J (x.k),I (x.t),.slice x.A x.n x.c,.slice x.B x.m x.e]) hF nZ O (v:=.agg (x.cells).toArray) O O Ot O Eb O ?_ O
 rintro w hF -;refine⟨hF.mid 1 0,?_⟩;refine Cb O (v:=V g) (λw hC=>Ce (i:=0) 0 Hg O O Ab Ab O) (Mr 0 (l:=[J (y.k),I (y.t),.slice y.A y.n y.c,.slice y.B y.m y.e]) (cs':=#[J (y.k),I (y.t),.slice y.A y.n y.c,.slice y.B y.m y.e,J (x.k),I (x.t),.slice x.A x.n x.c,.slice x.B x.m x.e]) hF nZ O (v:=.agg (y.cells).toArray) O O Ot O Eb O ?_ O);rintro w hF -;refine⟨hF.mid 1 0,?_⟩;refine Hc (Bb (Fa (Ha (Ba (Za O) (Ba (XQ (((0:Nat):Int)) O O) (Ba (Gb O) (Ta ?_)))))));refine Hb ⟨_,?_,0,y,x,O,(.inr ⟨O,O,O,hc1⟩),U7,hF⟩;omega;refine Ec (Ac O ?_);refine Bb (Fa (Ha (Ba (Za O) (Ba (Ek (((2:Nat):Int)) O O) (Ba (Gb O) (Ta ?_))))));refine Hb ⟨_,?_,2,x,y,O,(.inr ⟨O,.inr ⟨hc1,O,O⟩⟩),Bp,hF⟩;omega;refine Fe O (Fe O ?_);refine Fe O (Fe O ?_);refine Fe O (Fe O ?_);refine Fe O (Fe O ?_);refine Fe O (Fe O ?_);refine HJ O ?_ (hF);refine Fe O (Jb O (Kb O O) (Hc (Fa (De O ?_))));refine Ec (Ac O ?_);refine Bb (Fa (Ha (Ba (Za O) (Ba (Ek (((2:Nat):Int)) O O) (Ba (Gb O) (Ta ?_))))));refine Hb ⟨_,?_,2,u,v_,O,(hst.elim (λh=>absurd (by have:=h.1;omega:(0:Int)<(j:Int)) hg0) (λh=>.inr ⟨O,.inl ⟨h.2.2.2,h.2.1,h.2.2.1⟩⟩)),Bp,hF⟩;omega;refine Ec (Ac O ?_);refine Dh (Ze (Bk O) ?_);have hst1:=hst0.elim (λh=>absurd (show (i:Int)<2 by have:=h.1;omega) hc0) (λh=>h.2);exact⟨O,u,v_,hst1,hF.heap (i:=0) O,hF.same⟩
theorem GR(g:Nat)(x y:Tv)(xT yT:Tree)(S:Nat->Prop)(hS:¬S g)(hgl:8<=g)(w0:World)(hg:w0.heap[g]? = some (.cells #[J (x.k),I (x.t),.slice x.A x.n x.c,.slice x.B x.m x.e,J (y.k),I (y.t),.slice y.A y.n y.c,.slice y.B y.m y.e] 25))(hx:Rep S w0 (Pb xT) x.cells)(hy:Rep S w0 (Pb yT) y.cells)(hsx:Qb xT<=1000000000)(hsy:Qb yT<=1000000000)(hkx:Vp xT)(hky:Vp yT)(hG:Gl w0):Calls prog 50 #[W g 2 2,J 2,.func (.func 29) #[] #[]] w0 (Dd λv w'=>v=.tuple #[]/\∃u v_:Tv,((Id yT xT<0/\y=u/\x=v_)\/(¬Id yT xT<0/\x=u/\y=v_))/\w'.heap[g]? = some (.cells #[J (u.k),I (u.t),.slice u.A u.n u.c,.slice u.B u.m u.e,J (v_.k),I (v_.t),.slice v_.A v_.n v_.c,.slice v_.B v_.m v_.e] 25)/\Same [g] w0 w'):=by
 refine Ia func50 O ntmps50 Eb (Km _ _ _) ?_;have hF:FR w0 [g] [(g,.cells #[J (x.k),I (x.t),.slice x.A x.n x.c,.slice x.B x.m x.e,J (y.k),I (y.t),.slice y.A y.n y.c,.slice y.B y.m y.e] 25)] w0:=FR.open_ (by intro q hq;rw[pQ.1 hq];exact⟨hg,by simp⟩) Ma;refine Ea (Ba (Gb O) (Rb (Ba (Za O) (Ba (Gb O) (Ba (Gb O) (Da (Ga (Qa ?_))))))));refine Jc (λμ σ w=>μ=0/\AllEq σ [(0,W g 2 2),(1,J 2),(2,.func (.func 29) #[] #[]),(6,J 20),(7,J 0),(8,J 20)]/\FR w0 [g] [(g,.cells #[J (x.k),I (x.t),.slice x.A x.n x.c,.slice x.B x.m x.e,J (y.k),I (y.t),.slice y.A y.n y.c,.slice y.B y.m y.e] 25)] w) _ ⟨O,U7,hF⟩ ?_;rintro μ σ w ⟨rfl,hs,hF⟩;refine Cg.slots hs ?_;clear hs;intro σ;refine Ga (Ea (Ba (Za O) (Ba (Za O) (Ba (XC O O) (Da ?_)))));refine De (by rfl) (Ec (Ac O ?_));refine Fa (Ea (Ba (Sf O) (Ba (Za O) (Ba (Za O) (Ba (Nt) ?_)))));refine Lb (ins2_c g x y xT yT S hS hgl _ (hF.heap (i:=0) rfl) (hx.same hF.same (by intro b hb;rw[pQ.1 hb];exact hS)) (hy.same hF.same (by intro b hb;rw[pQ.1 hb];exact hS)) hsx hsy hkx hky (hG.same hF.same (λb hb=>by rw[pQ.1 hb];exact hgl))) (BO en_76 rfl rfl rfl rfl rfl) ?_;rintro _ w ⟨rfl,u,v_,hst1,hg1,hE⟩;have hF:=hF.change 0 rfl hE hg1;clear hE hg1;refine Da (Qa ?_);refine Jc (λμ σ w=>μ=0/\AllEq σ [(0,W g 2 2),(1,J 2),(2,.func (.func 29) #[] #[]),(6,J 20)]/\FR w0 [g] [(g,.cells #[J (u.k),I (u.t),.slice u.A u.n u.c,.slice u.B u.m u.e,J (v_.k),I (v_.t),.slice v_.A v_.n v_.c,.slice v_.B v_.m v_.e] 25)] w) _ ⟨O,Om,hF⟩ ?_;rintro μ σ w ⟨rfl,hs,hF⟩;refine Cg.slots hs ?_;clear hs;intro σ;refine Ga (Ea (Ba (Za O) (Ba (Za O) (Ba (Di O O) (Da ?_)))));refine De (by rfl) (Ec (Ac O ?_));refine Dh (Ze (Bk O) ?_);exact⟨O,u,v_,hst1,hF.heap (i:=0) O,hF.same⟩
theorem sort2_c(g:Nat)(x y:Tv)(xT yT:Tree)(S:Nat->Prop)(hS:¬S g)(hgl:8<=g)(w0:World)(hg:w0.heap[g]? = some (.cells #[J (x.k),I (x.t),.slice x.A x.n x.c,.slice x.B x.m x.e,J (y.k),I (y.t),.slice y.A y.n y.c,.slice y.B y.m y.e] 25))(hx:Rep S w0 (Pb xT) x.cells)(hy:Rep S w0 (Pb yT) y.cells)(hsx:Qb xT<=1000000000)(hsy:Qb yT<=1000000000)(hkx:Vp xT)(hky:Vp yT)(hG:Gl w0):Calls prog 28 #[W g 2 2,.func (.func 29) #[] #[]] w0 (Dd λv w'=>v=.tuple #[]/\∃u v_:Tv,((Id yT xT<0/\y=u/\x=v_)\/(¬Id yT xT<0/\x=u/\y=v_))/\w'.heap[g]? = some (.cells #[J (u.k),I (u.t),.slice u.A u.n u.c,.slice u.B u.m u.e,J (v_.k),I (v_.t),.slice v_.A v_.n v_.c,.slice v_.B v_.m v_.e] 25)/\Same [g] w0 w'):=by
 refine Ia func28 O ntmps28 Eb (Pc _ _) ?_;have hF:FR w0 [g] [(g,.cells #[J (x.k),I (x.t),.slice x.A x.n x.c,.slice x.B x.m x.e,J (y.k),I (y.t),.slice y.A y.n y.c,.slice y.B y.m y.e] 25)] w0:=FR.open_ (by intro q hq;rw[pQ.1 hq];exact⟨hg,by simp⟩) Ma;refine Ha (Ba (Sf O) (Ba (Sf O) (Ba (Ch zZ O) (Ba (Nt) ?_))));refine Lb (GR g x y xT yT S hS hgl _ (hF.heap (i:=0) rfl) (hx.same hF.same (by intro b hb;rw[pQ.1 hb];exact hS)) (hy.same hF.same (by intro b hb;rw[pQ.1 hb];exact hS)) hsx hsy hkx hky (hG.same hF.same (λb hb=>by rw[pQ.1 hb];exact hgl))) (Rf en_50 rfl rfl rfl rfl) ?_;rintro _ w ⟨rfl,u,v_,hst1,hg1,hE⟩;have hF:=hF.change 0 rfl hE hg1;clear hE hg1;refine Ta (Dh (Ze (Bk O) ?_));exact⟨O,u,v_,hst1,hF.heap (i:=0) O,hF.same⟩
def IT(s:Str)(l:List Nd)(z:Int):Str:=match l[z.toNat]? with|none=>[]|some y=>(Qe (Tc s y.kf y.kt)).1
def Hs(s:Str)(l:List Nd)(d:Nat)(x:Nd)(j:Nat):List Str × List Tree:=(if x.k=6 then (x.kids.take j).map (IT s l) else [],(x.kids.take j).map λz=>To s l (d-1) z.toNat)
theorem Xo{α:Type}{p:α->Bool}:∀{l:List α}{j:Nat},(∀z∈l.take j,p z=true)->(∀h:j<l.length,p l[j]=false)->l.takeWhile p=l.take j
  | [],j,_,_=>by simp
  | a :: l, 0, _, h => by
    have:=h (Nat.succ_pos _);simp only[List.getElem_cons_zero]at this;rw[List.takeWhile_cons_of_neg (by rw[this];decide),List.take_zero]
  | a :: l, j + 1, h1, h2 => by
    rw[List.take_succ_cons]at h1 ⊢;rw[List.takeWhile_cons_of_pos (h1 a List.mem_cons_self),Xo (λz hz=>h1 z (List.mem_cons_of_mem _ hz)) λh=>by
      have:=h2 (Nat.succ_lt_succ h);simpa using this]
def inN(l:List Nd)(z:Int):Prop:=0<=z/\z<(l.length:Int)
theorem Us{s:Str}{l:List Nd}{d k j:Nat}(hk:k<l.length)(h1:∀z∈l[k].kids.take j,inN l z)(h2:∀h:j<l[k].kids.length,¬inN l l[k].kids[j]\/d=0)(h3:0<j->0<d) :
    To s l d k=.node l[k].k (Pj l[k].k (Tc s l[k].f l[k].t)) (Hs s l d l[k] j).1 (Hs s l d l[k] j).2:=by
  have e:l[k]? = some l[k]:=List.getElem?_eq_getElem hk;cases d with
  | zero =>
    have hj:j=0:=by
      rcases Nat.eq_zero_or_pos j with h|h
      ·exact h
      have:=h3 h;omega
    subst hj;rw[To,e];simp[Hs]
  | succ d =>
    have hw:l[k].kids.takeWhile (λj:Int=>decide (0<=j)&&decide (j<(l.length:Int)))=l[k].kids.take j:=Xo
      (λz hz=>by have:=h1 z hz;unfold inN at this;simp[this]) λh=>by
        rcases h2 h with h|h
        ·unfold inN at h
         rw[Bool.and_eq_false_iff,decide_eq_false_iff_not,decide_eq_false_iff_not];omega
        cases h
    rw[To,e];simp only[hw];rfl
theorem acc_six{s:Str}{l:List Nd}{d j:Nat}{x:Nd}(h:x.k=6)(hj:j<x.kids.length):Hs s l d x (j+1)=((Hs s l d x j).1++[IT s l x.kids[j]],(Hs s l d x j).2++[To s l (d-1) x.kids[j].toNat]):=by
  unfold Hs;rw[if_pos h,if_pos h,iQ hj];simp only[jQ,List.map_cons,List.map_nil]
theorem acc_not{s:Str}{l:List Nd}{d j:Nat}{x:Nd}(h:¬x.k=6)(hj:j<x.kids.length):Hs s l d x (j+1)=((Hs s l d x j).1,(Hs s l d x j).2++[To s l (d-1) x.kids[j].toNat]):=by
  unfold Hs;rw[if_neg h,if_neg h,iQ hj];simp only[jQ,List.map_cons,List.map_nil]
theorem RW(s:Str)(l:List Nd)(d:Nat)(x:Nd):Hs s l d x 0=([],[]):=by unfold Hs;simp
theorem G_(hr:∀n,(Kh n).length<=4)(t:Str):∀(f at_:Nat)(out:Str),(Iq f t at_ out).1.length<=out.length+4*f
  | 0,at_,out=>by rw[Iq];exact Nat.zero_le _
  | f + 1, at_, out => by
    rw[Iq];split
    ·split
     ·simp only;omega
     split
     ·exact Nat.zero_le _
     have := G_ hr t f (at_ + (Nk (t.drop at_)).2) (out ++ Kh (Nk (t.drop at_)).1);rw[dQ]at this;have:=hr (Nk (t.drop at_)).1;omega
    exact Nat.zero_le _
theorem Py(hr:∀n,(Kh n).length<=4)(t:Str):(Qe t).1.length<=4*t.length:=by
  have h:(Hf t 0).1.length<=4*t.length:=by
    unfold Hf;split
    ·have := G_ hr t (t.length-0) (0 + 1) []
     simp only[List.length_nil]at this;omega
    exact Nat.zero_le _
  unfold Qe;split
  ·exact Nat.zero_le _
  exact h
theorem XD(x:Num):(Tf x).length<=1100:=by
  by_cases h:Rc x=true
  ·have hr := Vc h
   have hi:=Lib.itoa_length_le x.exp Aa Aa;unfold Tf;split
   ·simp
   split
   ·simp
   rw[dQ];have h1:(if x.neg=true then 45::x.digits else x.digits).length<=1001:=by split <;> (try simp) <;> omega
   have h2:(if x.exp≠0 then 101::Lib.itoa x.exp else []).length<=22:=by split <;> (try simp) <;> omega
   omega
  unfold Tf;rw[if_pos (by simpa using h)];exact Nat.zero_le _
theorem Mv(k:Int)(s:Str):(Pj k s).length<=4*s.length+1100:=by
  unfold Pj;split
  ·omega
  split
  ·have:=XD (Fc s).1;omega
  split
  ·have:=Py (λn=>(Yh n).2) s;omega
  exact Nat.zero_le _
theorem Ul(s:Str)(f t:Nat):(Tc s f t).length<=s.length:=by
  unfold Tc;split
  ·rw[List.length_drop,List.length_take];omega
  exact Nat.zero_le _
theorem keyF_len(s:Str)(l:List Nd)(z:Int):(IT s l z).length<=4*s.length:=by
  unfold IT;split
  ·exact Nat.zero_le _
  rename_i y _
  have:=Py (λn=>(Yh n).2) (Tc s y.kf y.kt);have:=Ul s y.kf y.kt;omega
theorem keyF_at{s:Str}{l:List Nd}{q:Nat}(h:q<l.length):IT s l (q:Int)=(Qe (Tc s l[q].kf l[q].kt)).1:=by
  unfold IT;rw[Int.toNat_natCast,List.getElem?_eq_getElem h]
theorem Nz{s:Str}{l:List Nd}{d j:Nat}{x:Nd}:∀y∈(Hs s l d x j).1,y.length<=4*s.length:=by
  unfold Hs;intro y hy;split at hy
  ·obtain⟨z, _, rfl⟩ := nQ.1 hy
   exact keyF_len s l z
  cases hy
theorem acc_len{s:Str}{l:List Nd}{d j:Nat}{x:Nd}(hj:j<=x.kids.length):(Hs s l d x j).1.length<=j/\(Hs s l d x j).2.length=j:=by
  unfold Hs;refine⟨?_,by simp;omega⟩;dsimp only;split
  ·simp;omega
  exact Nat.zero_le _
structure CfP (c:Cf):Prop where
  ok:CfOk c
  sz:Qb c.b.val+Qb c.l.val+Qb c.r.val<=100000000
  mb:Be c.b.val<=1073741824
  ml:Be c.l.val<=1073741824
  mr:Be c.r.val<=1073741824
theorem N7{s:Sd}(h:Be s.val<=1073741824):Be (Gd s)<=1073741824:=by
  unfold Gd;split <;> simp[Be,Pm,Rm,h]
theorem PI{x y:Tree}{q:Tree->Prop}(hx:q x)(hy:q y):q (Xl x y).1/\q (Xl x y).2:=by
  unfold Xl;split
  ·exact⟨hy,hx⟩
  exact⟨hx,hy⟩
theorem VP{k:Int}(h:1<=k/\k<=6):(Tf (I2 k)).length<=1073741824:=by
  have:=XD (I2 k);omega
theorem AA{c:Cf}(h:CfP c)(hk:1<=c.cls/\c.cls<=6):Qb (Bo c)<=1000000000/\Be (Bo c)<=1073741824:=by
  have hb:=So h.ok.b;have hl:=So h.ok.l;have hr:=So h.ok.r;have hs:=h.sz;have e:Qb (Xl (Gd c.l) (Gd c.r)).1+Qb (Xl (Gd c.l) (Gd c.r)).2=Qb (Gd c.l)+Qb (Gd c.r):=by unfold Xl;split <;> simp only <;> omega
  have hm:=PI (q:=λt=>Be t<=1073741824) (N7 h.ml) (N7 h.mr);have hw:=N7 h.mb;have hc:=VP hk;unfold Bo Ru;refine⟨?_,?_⟩
  ·simp only[Qb,Dc];omega
  simp only[Be, Pm, Rm, List.length_nil];omega
theorem loHi_rep{S:Nat->Prop}{w:World}{xT yT:Tree}{x y u v:Tv}(h:(Id yT xT<0/\y=u/\x=v)\/(¬Id yT xT<0/\x=u/\y=v))(hx:Rep S w (Pb xT) x.cells)(hy:Rep S w (Pb yT) y.cells):Rep S w (Pb (Xl xT yT).1) u.cells/\Rep S w (Pb (Xl xT yT).2) v.cells:=by
  unfold Xl;rcases h with ⟨h,rfl,rfl⟩|⟨h,rfl,rfl⟩
  ·rw[if_pos h];exact⟨hy,hx⟩
  rw[if_neg h];exact⟨hx,hy⟩
theorem Rep.anyS{S:Nat->Prop}{w:World}{d:D}{cs:List Value}(h:Rep S w d cs):Rep (λ_=>True) w d cs:=h.weaken λ_ _ _=>trivial
theorem Zv(c:Cf)(q:Cv)(S:Nat->Prop)(w0:World)(hq:CvOf S w0 c q)(hP:CfP c)(hG:Gl w0):Calls prog 8 #[.agg q.cells.toArray] w0 (Dd λv w'=>v=.tuple #[I ((Oi c).1),.bool (Oi c).2]/\Same [] w0 w'):=by
 refine Ia func8 O ntmps8 Eb (Yb _) ?_;have hF:=FR.start w0 [];refine Ea (Oe hF O ?_);rintro b1 w hb1 hF -;refine Ba (Fd O) (Ba (Db O) (Da (Ga (Ea (Zb (Of dZ pZ O hF.F 0 O O) ?_)))));refine Oa hF (MZ c q S _ ⟨hq.n,hq.k,hF.rep hq.p,hF.rep hq.x,hF.rep hq.y,hF.rep hq.z⟩ hP.ok (hG.ext hF.same)) (Na en_26 O O) ?_;intro w hF;refine Ba (Si O) (Da ?_);refine Le O O (λhc0=>?_) (λhc0=>?_);have h0:Nm c=false:=by simpa using hc0
 refine Ea (Ba (Fd O) (Ba (Db O) (Da ?_)));refine Va (Ua (Ja (Ic (v:=I []) (x:=.bool false) O O O) ?_));have e:Oi c=([],false):=by unfold Oi;rw[if_neg (by rw[h0];decide)]
 rw[e];exact⟨O,hF.same⟩;have h0:Nm c=true:=by simpa using hc0
 have hkc:1<=c.cls/\c.cls<=6:=by unfold Nm at h0;simp only[Bool.and_eq_true,decide_eq_true_eq]at h0;exact h0.2.2.2
 refine La (Fa (Ga ?_));refine Md (zs:=.of []) (bQ [0,1,3,4] (cQ [2,5,6] (.free 7 .nil))) hF ?_;intro w hF;refine Jb O (Ob Kn O) (Cb O (v:=.agg (q.y.cells).toArray) (λw hC=>Wa (l:=q.y.cells) cZ oZ O O (hC.part 0 7 O O)) (Jb O (Ob Hn O) (Cb O (v:=.agg (q.z.cells).toArray) (λw hC=>Wa (l:=q.z.cells) cZ oZ O O (hC.part 0 12 O O)) ?_)));refine Pd O (Yv c.l q.y S _ (hF.rep hq.y)) (Na EN O O) ?_;rintro _ w ⟨ct,rfl,hXl,hE⟩;obtain⟨xl,rfl,-⟩:=Bj hXl;have hF:=hF.ext hE;have hXl:=hXl.low;refine⟨hF,?_⟩;refine Pd O (Yv c.r q.z S _ (hF.rep hq.z)) (Na EN O O) ?_;rintro _ w ⟨ct,rfl,hXr,hE⟩;obtain⟨xr,rfl,-⟩:=Bj hXr;have hF:=hF.ext hE;have hXl:=(hXl.ext hE).low;have hXr:=hXr.low;obtain⟨N,hN⟩:∃N,N=w.heap.size:=⟨_,rfl⟩;rw[<-hN]at hXl hXr;refine⟨hF,?_⟩;refine Kg 2 O hF (Nb (cs:=#[J (xl.k),I (xl.t),.slice xl.A xl.n xl.c,.slice xl.B xl.m xl.e,J (xr.k),I (xr.t),.slice xr.A xr.n xr.c,.slice xr.B xr.m xr.e]) zZ nZ lX Ab Ab Ub) ?_;intro b2 w hb2 hF hE;have hXl:=hXl.ext hE;have hXr:=hXr.ext hE;refine⟨hF.drop 1,?_⟩;refine Jb O (Lr O) (Hc (Fa (Ea (Ba (Sf O) ?_))));refine Lb (sort2_c b2 xl xr (Gd c.l) (Gd c.r) (λx=>x<N) Aa (by have:=hG.size;have:=hF.ge (i:=0) O;omega) _ (hF.heap (i:=0) O) hXl hXr (by have:=(So hP.ok.l).2;have:=hP.ok.l.sz;have:=hP.sz;omega) (by have:=(So hP.ok.r).2;have:=hP.ok.r.sz;have:=hP.sz;omega) (So hP.ok.l).1 (So hP.ok.r).1 (hG.ext hF.same)) (Xa en_28 O O O) ?_;rintro _ w ⟨rfl,u,v_,hst1,hg1,hE⟩;have hNb:∀x∈[b2],¬x<N:=λx hx=>by rw[pQ.1 hx];omega
 have hXl:=hXl.same hE hNb;have hXr:=hXr.same hE hNb;have hF:=hF.change 0 rfl hE hg1;clear hE hg1 hNb;obtain⟨hXu,hXv⟩:=loHi_rep hst1 hXl hXr;clear hXl hXr;refine Da (Ga ?_);refine Ke (.of []) (bQ [0,1,3,4,6,7,8,9,10,11] (cQ [2,5,12,13,14] (bQ [15,16,17,18,19] .nil))) hF ?_;intro w hF hE;have hXu:=hXu.ext hE;have hXv:=hXv.ext hE;refine⟨λwq=>FR w0 [] _ wq,hF,?_⟩;refine Jb O (Ob Lk O) (Fg O (Th eZ O C0 1 O O) (Jb O (Ob Dq O) (Cb O (v:=.agg (q.x.cells).toArray) (λw hC=>Wa (l:=q.x.cells) cZ oZ O O (hC.part 1 2 O O)) (Jb O (Sf O) (Cb O (v:=V b2) (λw hC=>Ce (i:=0) 0 Hg O O Ab Ab O) (Cb O (v:=.agg (u.cells).toArray) (λw hC=>Wa (l:=u.cells) aZ nZ O O (hC.part 0 0 O O)) (Jb O (Sf O) (Cb O (v:=.pointer (some ⟨b2,4,none⟩)) (λw hC=>Ce (i:=1) 4 Hg O O Ab Ab O) (Cb O (v:=.agg (v_.cells).toArray) (λw hC=>Wa (l:=v_.cells) aZ nZ O O (hC.part 0 4 O O)) ?_)))))))));refine Pd O (Y8 q.k (by have:=hq.k;omega) (by have:=hq.k;omega) _ (hG.ext hF.same)) (Na DA O O) ?_;rintro _ w ⟨rfl,hE⟩;have hF:=hF.ext hE;have hXu:=hXu.ext hE;have hXv:=hXv.ext hE;refine⟨hF,?_⟩;refine Pd O (Yv c.b q.x S _ (hF.rep hq.x)) (Na EN O O) ?_;rintro _ w ⟨ct,rfl,hXb,hE⟩;obtain⟨xb,rfl,-⟩:=Bj hXb;have hF:=hF.ext hE;have hXu:=hXu.ext hE;have hXv:=hXv.ext hE;refine⟨hF,?_⟩;refine Kg 4 O hF (Nb (cs:=#[J 3,I (Tf (I2 q.k)),aQ,aQ,J (xb.k),I (xb.t),.slice xb.A xb.n xb.c,.slice xb.B xb.m xb.e,J (u.k),I (u.t),.slice u.A u.n u.c,.slice u.B u.m u.e,J (v_.k),I (v_.t),.slice v_.A v_.n v_.c,.slice v_.B v_.m v_.e]) zZ nZ lX Ab Ab Ub) ?_;intro b3 w hb3 hF hE;have hXu:=hXu.ext hE;have hXv:=hXv.ext hE;have hXb:=hXb.ext hE;refine⟨hF.drop 1,?_⟩;refine Pd O (XG (some ⟨b3,0,none⟩) 4 4 _) (Na VG O O) ?_;rintro _ w ⟨rfl,hE⟩;have hF:=hF.ext hE;have hXu:=hXu.ext hE;have hXv:=hXv.ext hE
 have hXb:=hXb.ext hE;refine⟨hF.drop 1,?_⟩;have hNum:Rep (λ_=>True) w (Pb (Ru c.cls)) [J 3,I (Tf (I2 q.k)),aQ,aQ]:=by rw[hq.k];exact rep_leaf 3 (Tf (I2 c.cls)) ⟨by decide,by decide⟩ (by have:=VP hkc;omega) _
 have hrow:Rep (λx=>True\/x=b3) _ (.slice ([Ru c.cls,Gd c.b,(Xl (Gd c.l) (Gd c.r)).1,(Xl (Gd c.l) (Gd c.r)).2].map Pb)) _:=hF.rowS 0 rfl (n:=4) (RepL.cons_mk hNum (RepL.cons_mk hXb.anyS (RepL.cons_mk hXu.anyS (RepL.cons_mk (c2:=[]) hXv.anyS RepL.nil_mk)))) rfl Aa;have hX:Rep (λ_=>True) _ (Pb (Bo c)) [J 5,I [],aQ,W b3 4 4]:=Rep.tree_mk (ks:=[]) (xs:=[Ru c.cls,Gd c.b,(Xl (Gd c.l) (Gd c.r)).1,(Xl (Gd c.l) (Gd c.r)).2]) ⟨by decide,by decide⟩ Ma (Rep.nil_slice 0 Aa none) (by rw[Me];exact hrow.anyS);refine Pd O (NN (Bo c) (λ_=>True) _ _ hX (hG.ext hF.same) (AA hP hkc).1 (AA hP hkc).2) (Na en_30 O O) ?_;rintro _ w ⟨rfl,hE⟩;have hF:=hF.ext hE;have hXu:=hXu.ext hE;have hXv:=hXv.ext hE;have hXb:=hXb.ext hE;refine⟨hF.drop 1,?_⟩;refine Jb O (Qk O) (Jb O (Iy O O) (Jb O (Tj O O) (Jb O (Fd O) (Jb O (Gb O) (Hc (Fa (Ea (Ba (Bc O) (Ba (Za O) (Ba (Qf O O) (Ba (Fd O) (Ba (Db O) ?_))))))))))));refine Da (Va (Ua (Ja (Ic (v:=I (Yk (Od (Bo c)))) (x:=.bool _) O O O) ?_)));have e:Oi c=(Yk (Od (Bo c)),decide (Lq (Od (Bo c))=0)):=by unfold Oi;rw[if_pos h0]
 rw[e];exact⟨O,hF.same⟩
end Go.Scarf
