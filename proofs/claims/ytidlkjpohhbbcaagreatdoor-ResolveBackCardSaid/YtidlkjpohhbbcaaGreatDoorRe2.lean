/- A part of the proof. -/
import Derived.Test.YtidlkjpohhbbcaaGreatDoorRow7
set_option linter.all false
set_option maxHeartbeats 8000000
set_option maxRecDepth 10000
namespace Go.Scarf
open Go.RowKit Go.Proofs Go.Proofs.Tryz
theorem ins2_c(g:Nat)(x y:Tv)(xT yT:Tree)(S:Nat->Prop)(hS:¬S g)(hgl:8<=g)(w0:World)(hg:w0.heap[g]? = some (.cells #[J (x.k),I (x.t),.slice x.A x.n x.c,.slice x.B x.m x.e,J (y.k),I (y.t),.slice y.A y.n y.c,.slice y.B y.m y.e] 36))(hx:Rep S w0 (Jb xT) x.cells)(hy:Rep S w0 (Jb yT) y.cells)(hsx:Db xT<=1000000000)(hsy:Db yT<=1000000000)(hkx:Wp xT)(hky:Wp yT)(hG:Gl w0):Calls prog 126 #[W g 2 2,J 0,J 2,.func (.func 51) #[] #[]] w0 (Oc λv w'=>v=.tuple #[]/\∃u v_:Tv,((If yT xT<0/\y=u/\x=v_)\/(¬If yT xT<0/\x=u/\y=v_))/\w'.heap[g]? = some (.cells #[J (u.k),I (u.t),.slice u.A u.n u.c,.slice u.B u.m u.e,J (v_.k),I (v_.t),.slice v_.A v_.n v_.c,.slice v_.B v_.m v_.e] 36)/\Same [g] w0 w'):=by
 refine Ea func126 O ntmps126 Bb (XB _ _ _ _) ?_;have hF:FR w0 [g] [(g,.cells #[J (x.k),I (x.t),.slice x.A x.n x.c,.slice x.B x.m x.e,J (y.k),I (y.t),.slice y.A y.n y.c,.slice y.B y.m y.e] 36)] w0:=FR.open_ (by intro q hq;rw[pQ.1 hq];exact⟨hg,by simp⟩) La;refine Da (Ba (Cb O) (Ba (Un (((1:Nat):Int)) O O) (Ba (Gb O) (Ca (Sa ?_)))));refine Rc (λμ σ w=>∃(i:Nat),∃(u:Tv),∃(v_:Tv),μ=2-i/\((i=1/\x=u/\y=v_)\/(i=2/\((If yT xT<0/\y=u/\x=v_)\/(¬If yT xT<0/\x=u/\y=v_))))/\AllEq σ [(0,W g 2 2),(1,J 0),(2,J 2),(3,.func (.func 51) #[] #[]),(8,J ((i:Int)))]/\FR w0 [g] [(g,.cells #[J (u.k),I (u.t),.slice u.A u.n u.c,.slice u.B u.m u.e,J (v_.k),I (v_.t),.slice v_.A v_.n v_.c,.slice v_.B v_.m v_.e] 36)] w) _ ⟨1,x,y,O,(.inl ⟨O,O,O⟩),U7,hF⟩ ?_;rintro μ σ w ⟨i,u,v_,rfl,hst0,hs,hF⟩;refine Cg.slots hs ?_;clear hs;intro σ;refine Fa (Da (Ba (Cb O) (Ba (Cb O) (Ba (Dl O O) (Ca ?_)))));refine Lb O O (λhc0=>?_) (λhc0=>?_);refine Na (Ga (Fa (Sa (Fa ?_))));obtain⟨rfl,rfl,rfl⟩:i=1/\x=u/\y=v_:=hst0.elim (λh=>h) (λh=>absurd hc0 (by have:=h.1;omega));refine Ja (Ba (Cb O) (Ba (Gb O) (Ca (Sa ?_))));refine Rc (λμ σ w=>∃(j:Nat),∃(u:Tv),∃(v_:Tv),μ=j+1/\((j=1/\x=u/\y=v_)\/(j=0/\y=u/\x=v_/\If yT xT<0))/\AllEq σ [(0,W g 2 2),(1,J 0),(2,J 2),(3,.func (.func 51) #[] #[]),(8,J (((1:Nat):Int))),(9,J ((j:Int)))]/\FR w0 [g] [(g,.cells #[J (u.k),I (u.t),.slice u.A u.n u.c,.slice u.B u.m u.e,J (v_.k),I (v_.t),.slice v_.A v_.n v_.c,.slice v_.B v_.m v_.e] 36)] w) _ ⟨1,x,y,O,(.inl ⟨O,O,O⟩),I9,hF⟩ ?_;rintro μ σ w ⟨j,u,v_,rfl,hst,hs,hF⟩;refine Cg.slots hs ?_;clear hs;intro σ;refine Fa (Fa ?_);refine Be (zs:=.of []) (bQ [0,1,2,3,4,5,6,7,8,9,10,11,12,13] (.act 14 (.free 15 (.free 16 .nil)))) hF ?_;intro w hF;refine Hb O (Cb O) (Hb O (Cb O) (Hb O (Yx O O) (Hb O (Sc O) ?_)));refine Mz (d:=21) O (λhg0=>?_) (λhg0=>?_)
 obtain⟨rfl,rfl,rfl⟩:j=1/\x=u/\y=v_:=hst.elim (λh=>h) (λh=>absurd hg0 (by have:=h.1;omega));refine Hb O (Vp) (Hb O (Qe O) (Hb O (Cb O) (Ab O (v:=.pointer (some ⟨g,4,none⟩)) (λw hC=>Ed (i:=((1:Nat):Int)) 4 Tg O O Oa Oa O) (Ab O (v:=.agg (y.cells).toArray) (λw hC=>Za (l:=y.cells) aZ oZ O O (hC.part 0 4 O O)) (Hb O (Qe O) (Hb O (Cb O) (Hb O (TZ (0) O O) (Ab O (v:=V g) (λw hC=>Ed (i:=0) 0 Tg O O Oa Oa O) (Ab O (v:=.agg (x.cells).toArray) (λw hC=>Za (l:=x.cells) aZ oZ O O (hC.part 0 0 O O)) ?_)))))))));refine Cd rfl (IN yT xT hsy hsx S S _ y.cells x.cells (hy.same hF.same (by intro b hb;rw[pQ.1 hb];exact hS)) (hx.same hF.same (by intro b hb;rw[pQ.1 hb];exact hS)) hky hkx (hG.same hF.same (λb hb=>by rw[pQ.1 hb];exact hgl))) (Ki rfl en_51 rfl rfl rfl) ?_;rintro _ w ⟨rfl,hE⟩;have hF:=hF.ext hE;refine⟨hF,?_⟩;refine Hb O (Dl O O) (Hb O (Fc O O) (d_nil (Ga ?_)));refine Lb O O (λhc1=>?_) (λhc1=>?_);refine Na (Ga (Fa (Sa ?_)));refine Dd ⟨[15,17],λwq=>FR w0 [g] [] wq,[2,3,4,10,11,12]⟩ (bQ [0,1,2,3,4,5,6,7,8,9,10,11,12,13,14] (.act 15 (.free 16 (.act 17 .nil)))) hF ?_;rintro w hF -;refine⟨λwq=>FR w0 [g] _ wq,hF,?_⟩;refine Hb O (Qe O) (Hb O (Cb O) (Hb O (Qe O) (Hb O (Cb O) (Hb O (TZ (0) O O) (Hb O (Qe O) (Hb O (Cb O) (Hb O (TZ (0) O O) (Ab O (v:=V g) (λw hC=>Ed (i:=0) 0 Tg O O Oa Oa O) (Ab O (v:=.agg (x.cells).toArray) (λw hC=>Za (l:=x.cells) aZ oZ O O (hC.part 0 0 O O)) (Hb O (Qe O) (Hb O (Cb O) ?_)))))))))));refine Xp O (v:=.pointer (some ⟨g,4,none⟩)) (λw hC=>Ed (i:=((1:Nat):Int)) 4 Tg O O Oa Oa O) (λw hC=>Ed (i:=((1:Nat):Int)) 4 Tg O O Oa Oa O) (Ab O (v:=.agg (y.cells).toArray) (λw hC=>Za (l:=y.cells) aZ oZ O O (hC.part 0 4 O O)) (Ab O (v:=.pointer (some ⟨g,4,none⟩)) (λw hC=>Ed (i:=((1:Nat):Int)) 4 Tg O O Oa Oa O) ?_));refine Yo 0 (l:=[J (x.k),I (x.t),.slice x.A x.n x.c,.slice x.B x.m x.e]) (cs':=#[J (x.k),I (x.t),.slice x.A x.n x.c,.slice x.B x.m x.e,J (x.k),I (x.t),.slice x.A x.n x.c,.slice x.B x.m x.e]) hF oZ O (v:=.agg (x.cells).toArray) O O Zs O Bb O ?_ O
 rintro w hF -;refine⟨hF.mid 1 0,?_⟩;refine Ab O (v:=V g) (λw hC=>Ed (i:=0) 0 Tg O O Oa Oa O) (Yo 0 (l:=[J (y.k),I (y.t),.slice y.A y.n y.c,.slice y.B y.m y.e]) (cs':=#[J (y.k),I (y.t),.slice y.A y.n y.c,.slice y.B y.m y.e,J (x.k),I (x.t),.slice x.A x.n x.c,.slice x.B x.m x.e]) hF oZ O (v:=.agg (y.cells).toArray) O O Zs O Bb O ?_ O);rintro w hF -;refine⟨hF.mid 1 0,?_⟩;refine d_nil (Wa (Ga (Ja (Ba (Cb O) (Ba (TZ (((0:Nat):Int)) O O) (Ba (Gb O) (Eb ?_)))))));refine Qb ⟨_,?_,0,y,x,O,(.inr ⟨O,O,O,hc1⟩),I9,hF⟩;omega;refine Ic (Ec O ?_);refine Wa (Ga (Ja (Ba (Cb O) (Ba (Un (((2:Nat):Int)) O O) (Ba (Gb O) (Eb ?_))))));refine Qb ⟨_,?_,2,x,y,O,(.inr ⟨O,.inr ⟨hc1,O,O⟩⟩),U7,hF⟩;omega;refine Lf O (Lf O ?_);refine Lf O (Lf O ?_);refine Lf O (Lf O ?_);refine Lf O (Lf O ?_);refine Lf O (Lf O ?_);refine NX O ?_ (hF);refine Lf O (Hb O (Pc O O) (d_nil (Ga (Te O ?_))));refine Ic (Ec O ?_);refine Wa (Ga (Ja (Ba (Cb O) (Ba (Un (((2:Nat):Int)) O O) (Ba (Gb O) (Eb ?_))))));refine Qb ⟨_,?_,2,u,v_,O,(hst.elim (λh=>absurd (by have:=h.1;omega:(0:Int)<(j:Int)) hg0) (λh=>.inr ⟨O,.inl ⟨h.2.2.2,h.2.1,h.2.2.1⟩⟩)),U7,hF⟩;omega;refine Ic (Ec O ?_);refine Kg (Le (Ui O) ?_);have hst1:=hst0.elim (λh=>absurd (show (i:Int)<2 by have:=h.1;omega) hc0) (λh=>h.2);exact⟨O,u,v_,hst1,hF.heap (i:=0) O,hF.same⟩
theorem DS(g:Nat)(x y:Tv)(xT yT:Tree)(S:Nat->Prop)(hS:¬S g)(hgl:8<=g)(w0:World)(hg:w0.heap[g]? = some (.cells #[J (x.k),I (x.t),.slice x.A x.n x.c,.slice x.B x.m x.e,J (y.k),I (y.t),.slice y.A y.n y.c,.slice y.B y.m y.e] 36))(hx:Rep S w0 (Jb xT) x.cells)(hy:Rep S w0 (Jb yT) y.cells)(hsx:Db xT<=1000000000)(hsy:Db yT<=1000000000)(hkx:Wp xT)(hky:Wp yT)(hG:Gl w0):Calls prog 80 #[W g 2 2,J 2,.func (.func 51) #[] #[]] w0 (Oc λv w'=>v=.tuple #[]/\∃u v_:Tv,((If yT xT<0/\y=u/\x=v_)\/(¬If yT xT<0/\x=u/\y=v_))/\w'.heap[g]? = some (.cells #[J (u.k),I (u.t),.slice u.A u.n u.c,.slice u.B u.m u.e,J (v_.k),I (v_.t),.slice v_.A v_.n v_.c,.slice v_.B v_.m v_.e] 36)/\Same [g] w0 w'):=by
 refine Ea func80 O ntmps80 Bb (Li _ _ _) ?_;have hF:FR w0 [g] [(g,.cells #[J (x.k),I (x.t),.slice x.A x.n x.c,.slice x.B x.m x.e,J (y.k),I (y.t),.slice y.A y.n y.c,.slice y.B y.m y.e] 36)] w0:=FR.open_ (by intro q hq;rw[pQ.1 hq];exact⟨hg,by simp⟩) La;refine Da (Ba (Gb O) (Ob (Ba (Cb O) (Ba (Gb O) (Ba (Gb O) (Ca (Fa (Sa ?_))))))));refine Rc (λμ σ w=>μ=0/\AllEq σ [(0,W g 2 2),(1,J 2),(2,.func (.func 51) #[] #[]),(6,J 20),(7,J 0),(8,J 20)]/\FR w0 [g] [(g,.cells #[J (x.k),I (x.t),.slice x.A x.n x.c,.slice x.B x.m x.e,J (y.k),I (y.t),.slice y.A y.n y.c,.slice y.B y.m y.e] 36)] w) _ ⟨O,I9,hF⟩ ?_;rintro μ σ w ⟨rfl,hs,hF⟩;refine Cg.slots hs ?_;clear hs;intro σ;refine Fa (Da (Ba (Cb O) (Ba (Cb O) (Ba (NM O O) (Ca ?_)))));refine Te (by rfl) (Ic (Ec O ?_));refine Ga (Da (Ba (Qe O) (Ba (Cb O) (Ba (Cb O) (Ba (Vp) ?_)))));refine Ta (ins2_c g x y xT yT S hS hgl _ (hF.heap (i:=0) rfl) (hx.same hF.same (by intro b hb;rw[pQ.1 hb];exact hS)) (hy.same hF.same (by intro b hb;rw[pQ.1 hb];exact hS)) hsx hsy hkx hky (hG.same hF.same (λb hb=>by rw[pQ.1 hb];exact hgl))) (EO en_126 rfl rfl rfl rfl rfl) ?_;rintro _ w ⟨rfl,u,v_,hst1,hg1,hE⟩;have hF:=hF.change 0 rfl hE hg1;clear hE hg1;refine Ca (Sa ?_);refine Rc (λμ σ w=>μ=0/\AllEq σ [(0,W g 2 2),(1,J 2),(2,.func (.func 51) #[] #[]),(6,J 20)]/\FR w0 [g] [(g,.cells #[J (u.k),I (u.t),.slice u.A u.n u.c,.slice u.B u.m u.e,J (v_.k),I (v_.t),.slice v_.A v_.n v_.c,.slice v_.B v_.m v_.e] 36)] w) _ ⟨O,Ur,hF⟩ ?_;rintro μ σ w ⟨rfl,hs,hF⟩;refine Cg.slots hs ?_;clear hs;intro σ;refine Fa (Da (Ba (Cb O) (Ba (Cb O) (Ba (Dl O O) (Ca ?_)))));refine Te (by rfl) (Ic (Ec O ?_));refine Kg (Le (Ui O) ?_);exact⟨O,u,v_,hst1,hF.heap (i:=0) O,hF.same⟩
theorem sort2_c(g:Nat)(x y:Tv)(xT yT:Tree)(S:Nat->Prop)(hS:¬S g)(hgl:8<=g)(w0:World)(hg:w0.heap[g]? = some (.cells #[J (x.k),I (x.t),.slice x.A x.n x.c,.slice x.B x.m x.e,J (y.k),I (y.t),.slice y.A y.n y.c,.slice y.B y.m y.e] 36))(hx:Rep S w0 (Jb xT) x.cells)(hy:Rep S w0 (Jb yT) y.cells)(hsx:Db xT<=1000000000)(hsy:Db yT<=1000000000)(hkx:Wp xT)(hky:Wp yT)(hG:Gl w0):Calls prog 50 #[W g 2 2,.func (.func 51) #[] #[]] w0 (Oc λv w'=>v=.tuple #[]/\∃u v_:Tv,((If yT xT<0/\y=u/\x=v_)\/(¬If yT xT<0/\x=u/\y=v_))/\w'.heap[g]? = some (.cells #[J (u.k),I (u.t),.slice u.A u.n u.c,.slice u.B u.m u.e,J (v_.k),I (v_.t),.slice v_.A v_.n v_.c,.slice v_.B v_.m v_.e] 36)/\Same [g] w0 w'):=by
 refine Ea func50 O ntmps50 Bb (Nc _ _) ?_;have hF:FR w0 [g] [(g,.cells #[J (x.k),I (x.t),.slice x.A x.n x.c,.slice x.B x.m x.e,J (y.k),I (y.t),.slice y.A y.n y.c,.slice y.B y.m y.e] 36)] w0:=FR.open_ (by intro q hq;rw[pQ.1 hq];exact⟨hg,by simp⟩) La;refine Ja (Ba (Qe O) (Ba (Qe O) (Ba (Qg jX O) (Ba (Vp) ?_))));refine Ta (DS g x y xT yT S hS hgl _ (hF.heap (i:=0) rfl) (hx.same hF.same (by intro b hb;rw[pQ.1 hb];exact hS)) (hy.same hF.same (by intro b hb;rw[pQ.1 hb];exact hS)) hsx hsy hkx hky (hG.same hF.same (λb hb=>by rw[pQ.1 hb];exact hgl))) (De en_80 rfl rfl rfl rfl) ?_;rintro _ w ⟨rfl,u,v_,hst1,hg1,hE⟩;have hF:=hF.change 0 rfl hE hg1;clear hE hg1;refine Eb (Kg (Le (Ui O) ?_));exact⟨O,u,v_,hst1,hF.heap (i:=0) O,hF.same⟩
def Mt(s:Str)(l:List Nd)(z:Int):Str:=match l[z.toNat]? with|none=>[]|some y=>(Vc (Ac s y.kf y.kt)).1
def Us(s:Str)(l:List Nd)(d:Nat)(x:Nd)(j:Nat):List Str × List Tree:=(if x.k=6 then (x.kids.take j).map (Mt s l) else [],(x.kids.take j).map λz=>Sf s l (d-1) z.toNat)
theorem Zo{α:Type}{p:α->Bool}:∀{l:List α}{j:Nat},(∀z∈l.take j,p z=true)->(∀h:j<l.length,p l[j]=false)->l.takeWhile p=l.take j
  | [],j,_,_=>by simp
  | a :: l, 0, _, h => by
    have:=h (Nat.succ_pos _);simp only[List.getElem_cons_zero]at this;rw[List.takeWhile_cons_of_neg (by rw[this];decide),List.take_zero]
  | a :: l, j + 1, h1, h2 => by
    rw[List.take_succ_cons]at h1 ⊢;rw[List.takeWhile_cons_of_pos (h1 a List.mem_cons_self),Zo (λz hz=>h1 z (List.mem_cons_of_mem _ hz)) λh=>by
      have:=h2 (Nat.succ_lt_succ h);simpa using this]
def inN(l:List Nd)(z:Int):Prop:=0<=z/\z<(l.length:Int)
theorem Gs{s:Str}{l:List Nd}{d k j:Nat}(hk:k<l.length)(h1:∀z∈l[k].kids.take j,inN l z)(h2:∀h:j<l[k].kids.length,¬inN l l[k].kids[j]\/d=0)(h3:0<j->0<d) :
    Sf s l d k=.node l[k].k (Ug l[k].k (Ac s l[k].f l[k].t)) (Us s l d l[k] j).1 (Us s l d l[k] j).2:=by
  have e:l[k]? = some l[k]:=List.getElem?_eq_getElem hk;cases d with
  | zero =>
    have hj:j=0:=by
      rcases Nat.eq_zero_or_pos j with h|h
      ·exact h
      have:=h3 h;omega
    subst hj;rw[Sf,e];simp[Us]
  | succ d =>
    have hw:l[k].kids.takeWhile (λj:Int=>decide (0<=j)&&decide (j<(l.length:Int)))=l[k].kids.take j:=Zo
      (λz hz=>by have:=h1 z hz;unfold inN at this;simp[this]) λh=>by
        rcases h2 h with h|h
        ·unfold inN at h
         rw[Bool.and_eq_false_iff,decide_eq_false_iff_not,decide_eq_false_iff_not];omega
        cases h
    rw[Sf,e];simp only[hw];rfl
theorem acc_six{s:Str}{l:List Nd}{d j:Nat}{x:Nd}(h:x.k=6)(hj:j<x.kids.length):Us s l d x (j+1)=((Us s l d x j).1++[Mt s l x.kids[j]],(Us s l d x j).2++[Sf s l (d-1) x.kids[j].toNat]):=by
  unfold Us;rw[if_pos h,if_pos h,iQ hj];simp only[jQ,List.map_cons,List.map_nil]
theorem acc_not{s:Str}{l:List Nd}{d j:Nat}{x:Nd}(h:¬x.k=6)(hj:j<x.kids.length):Us s l d x (j+1)=((Us s l d x j).1,(Us s l d x j).2++[Sf s l (d-1) x.kids[j].toNat]):=by
  unfold Us;rw[if_neg h,if_neg h,iQ hj];simp only[jQ,List.map_cons,List.map_nil]
theorem YV(s:Str)(l:List Nd)(d:Nat)(x:Nd):Us s l d x 0=([],[]):=by unfold Us;simp
theorem JA(hr:∀n,(Vf n).length<=4)(t:Str):∀(f at_:Nat)(out:Str),(Wm f t at_ out).1.length<=out.length+4*f
  | 0,at_,out=>by rw[Wm];exact Nat.zero_le _
  | f + 1, at_, out => by
    rw[Wm];split
    ·split
     ·simp only;omega
     split
     ·exact Nat.zero_le _
     have := JA hr t f (at_ + (Si (t.drop at_)).2) (out ++ Vf (Si (t.drop at_)).1);rw[dQ]at this;have:=hr (Si (t.drop at_)).1;omega
    exact Nat.zero_le _
theorem Wr(hr:∀n,(Vf n).length<=4)(t:Str):(Vc t).1.length<=4*t.length:=by
  have h:(Re t 0).1.length<=4*t.length:=by
    unfold Re;split
    ·have := JA hr t (t.length-0) (0 + 1) []
     simp only[List.length_nil]at this;omega
    exact Nat.zero_le _
  unfold Vc;split
  ·exact Nat.zero_le _
  exact h
theorem SG(x:Num):(Gi x).length<=1100:=by
  by_cases h:Fe x=true
  ·have hr := Xd h
   have hi:=Lib.itoa_length_le x.exp Aa Aa;unfold Gi;split
   ·simp
   split
   ·simp
   rw[dQ];have h1:(if x.neg=true then 45::x.digits else x.digits).length<=1001:=by split <;> (try simp) <;> omega
   have h2:(if x.exp≠0 then 101::Lib.itoa x.exp else []).length<=22:=by split <;> (try simp) <;> omega
   omega
  unfold Gi;rw[if_pos (by simpa using h)];exact Nat.zero_le _
theorem No(k:Int)(s:Str):(Ug k s).length<=4*s.length+1100:=by
  unfold Ug;split
  ·omega
  split
  ·have:=SG (Uc s).1;omega
  split
  ·have:=Wr (λn=>(Pg n).2) s;omega
  exact Nat.zero_le _
theorem Mi(s:Str)(f t:Nat):(Ac s f t).length<=s.length:=by
  unfold Ac;split
  ·rw[List.length_drop,List.length_take];omega
  exact Nat.zero_le _
theorem EY(s:Str)(l:List Nd)(z:Int):(Mt s l z).length<=4*s.length:=by
  unfold Mt;split
  ·exact Nat.zero_le _
  rename_i y _
  have:=Wr (λn=>(Pg n).2) (Ac s y.kf y.kt);have:=Mi s y.kf y.kt;omega
theorem keyF_at{s:Str}{l:List Nd}{q:Nat}(h:q<l.length):Mt s l (q:Int)=(Vc (Ac s l[q].kf l[q].kt)).1:=by
  unfold Mt;rw[Int.toNat_natCast,List.getElem?_eq_getElem h]
theorem Rz{s:Str}{l:List Nd}{d j:Nat}{x:Nd}:∀y∈(Us s l d x j).1,y.length<=4*s.length:=by
  unfold Us;intro y hy;split at hy
  ·obtain⟨z, _, rfl⟩ := nQ.1 hy
   exact EY s l z
  cases hy
theorem acc_len{s:Str}{l:List Nd}{d j:Nat}{x:Nd}(hj:j<=x.kids.length):(Us s l d x j).1.length<=j/\(Us s l d x j).2.length=j:=by
  unfold Us;refine⟨?_,by simp;omega⟩;dsimp only;split
  ·simp;omega
  exact Nat.zero_le _
structure CfP (c:Cf):Prop where
  ok:CfOk c
  sz:Db c.b.val+Db c.l.val+Db c.r.val<=100000000
  mb:Ad c.b.val<=1073741824
  ml:Ad c.l.val<=1073741824
  mr:Ad c.r.val<=1073741824
theorem W3{s:Sd}(h:Ad s.val<=1073741824):Ad (Xe s)<=1073741824:=by
  unfold Xe;split <;> simp[Ad,Jh,Di,h]
theorem UM{x y:Tree}{q:Tree->Prop}(hx:q x)(hy:q y):q (Qx x y).1/\q (Qx x y).2:=by
  unfold Qx;split
  ·exact⟨hy,hx⟩
  exact⟨hx,hy⟩
theorem WQ{k:Int}(h:1<=k/\k<=6):(Gi (Q8 k)).length<=1073741824:=by
  have:=SG (Q8 k);omega
theorem L_{c:Cf}(h:CfP c)(hk:1<=c.cls/\c.cls<=6):Db (M8 c)<=1000000000/\Ad (M8 c)<=1073741824:=by
  have hb:=Ap h.ok.b;have hl:=Ap h.ok.l;have hr:=Ap h.ok.r;have hs:=h.sz;have e:Db (Qx (Xe c.l) (Xe c.r)).1+Db (Qx (Xe c.l) (Xe c.r)).2=Db (Xe c.l)+Db (Xe c.r):=by unfold Qx;split <;> simp only <;> omega
  have hm:=UM (q:=λt=>Ad t<=1073741824) (W3 h.ml) (W3 h.mr);have hw:=W3 h.mb;have hc:=WQ hk;unfold M8 JW;refine⟨?_,?_⟩
  ·simp only[Db,Nb];omega
  simp only[Ad, Jh, Di, List.length_nil];omega
theorem loHi_rep{S:Nat->Prop}{w:World}{xT yT:Tree}{x y u v:Tv}(h:(If yT xT<0/\y=u/\x=v)\/(¬If yT xT<0/\x=u/\y=v))(hx:Rep S w (Jb xT) x.cells)(hy:Rep S w (Jb yT) y.cells):Rep S w (Jb (Qx xT yT).1) u.cells/\Rep S w (Jb (Qx xT yT).2) v.cells:=by
  unfold Qx;rcases h with ⟨h,rfl,rfl⟩|⟨h,rfl,rfl⟩
  ·rw[if_pos h];exact⟨hy,hx⟩
  rw[if_neg h];exact⟨hx,hy⟩
theorem Rep.anyS{S:Nat->Prop}{w:World}{d:D}{cs:List Value}(h:Rep S w d cs):Rep (λ_=>True) w d cs:=h.weaken λ_ _ _=>trivial
theorem KE(c:Cf)(q:Cv)(S:Nat->Prop)(w0:World)(hq:CvOf S w0 c q)(hP:CfP c)(hG:Gl w0):Calls prog 18 #[.agg q.cells.toArray] w0 (Oc λv w'=>v=.tuple #[I ((Ek c).1),.bool (Ek c).2]/\Same [] w0 w'):=by
 refine Ea func18 O ntmps18 Bb (Tb _) ?_;have hF:=FR.start w0 [];refine Da (Df hF O ?_);rintro b1 w hb1 hF -;refine Ba (Xf O) (Ba (Kb O) (Ca (Fa (Da (Yb (Ig dZ qZ O hF.F 0 O O) ?_)))));refine Qa hF (rightC_c c q S _ ⟨hq.n,hq.k,hF.rep hq.p,hF.rep hq.x,hF.rep hq.y,hF.rep hq.z⟩ hP.ok (hG.ext hF.same)) (Ma en_49 O O) ?_;intro w hF;refine Ba (Wi O) (Ca ?_);refine He O O (λhc0=>?_) (λhc0=>?_);have h0:Fu c=false:=by simpa using hc0
 refine Da (Ba (Xf O) (Ba (Kb O) (Ca ?_)));refine Xa (Va (Ka (Jc (v:=I []) (x:=.bool false) O O O) ?_));have e:Ek c=([],false):=by unfold Ek;rw[if_neg (by rw[h0];decide)]
 rw[e];exact⟨O,hF.same⟩;have h0:Fu c=true:=by simpa using hc0
 have hkc:1<=c.cls/\c.cls<=6:=by unfold Fu at h0;simp only[Bool.and_eq_true,decide_eq_true_eq]at h0;exact h0.2.2.2
 refine Na (Ga (Fa ?_));refine Be (zs:=.of []) (bQ [0,1,3,4] (cQ [2,5,6] (.free 7 .nil))) hF ?_;intro w hF;refine Hb O (Rb E3 O) (Ab O (v:=.agg (q.y.cells).toArray) (λw hC=>Za (l:=q.y.cells) bZ pZ O O (hC.part 0 7 O O)) (Hb O (Rb L3 O) (Ab O (v:=.agg (q.z.cells).toArray) (λw hC=>Za (l:=q.z.cells) bZ pZ O O (hC.part 0 12 O O)) ?_)));refine Cd O (Qv c.l q.y S _ (hF.rep hq.y)) (Ma IQ O O) ?_;rintro _ w ⟨ct,rfl,hXl,hE⟩;obtain⟨xl,rfl,-⟩:=Wh hXl;have hF:=hF.ext hE;have hXl:=hXl.low;refine⟨hF,?_⟩;refine Cd O (Qv c.r q.z S _ (hF.rep hq.z)) (Ma IQ O O) ?_;rintro _ w ⟨ct,rfl,hXr,hE⟩;obtain⟨xr,rfl,-⟩:=Wh hXr;have hF:=hF.ext hE;have hXl:=(hXl.ext hE).low;have hXr:=hXr.low;obtain⟨N,hN⟩:∃N,N=w.heap.size:=⟨_,rfl⟩;rw[<-hN]at hXl hXr;refine⟨hF,?_⟩;refine Of 2 O hF (Fb (cs:=#[J (xl.k),I (xl.t),.slice xl.A xl.n xl.c,.slice xl.B xl.m xl.e,J (xr.k),I (xr.t),.slice xr.A xr.n xr.c,.slice xr.B xr.m xr.e]) jX oZ sX Oa Oa Ib) ?_;intro b2 w hb2 hF hE;have hXl:=hXl.ext hE;have hXr:=hXr.ext hE;refine⟨hF.drop 1,?_⟩;refine Hb O (Cm O) (d_nil (Ga (Da (Ba (Qe O) ?_))));refine Ta (sort2_c b2 xl xr (Xe c.l) (Xe c.r) (λx=>x<N) Aa (by have:=hG.size;have:=hF.ge (i:=0) O;omega) _ (hF.heap (i:=0) O) hXl hXr (by have:=(Ap hP.ok.l).2;have:=hP.ok.l.sz;have:=hP.sz;omega) (by have:=(Ap hP.ok.r).2;have:=hP.ok.r.sz;have:=hP.sz;omega) (Ap hP.ok.l).1 (Ap hP.ok.r).1 (hG.ext hF.same)) (Ua en_50 O O O) ?_;rintro _ w ⟨rfl,u,v_,hst1,hg1,hE⟩;have hNb:∀x∈[b2],¬x<N:=λx hx=>by rw[pQ.1 hx];omega
 have hXl:=hXl.same hE hNb;have hXr:=hXr.same hE hNb;have hF:=hF.change 0 rfl hE hg1;clear hE hg1 hNb;obtain⟨hXu,hXv⟩:=loHi_rep hst1 hXl hXr;clear hXl hXr;refine Ca (Fa ?_);refine Dd (.of []) (bQ [0,1,3,4,6,7,8,9,10,11] (cQ [2,5,12,13,14] (bQ [15,16,17,18,19] .nil))) hF ?_;intro w hF hE;have hXu:=hXu.ext hE;have hXv:=hXv.ext hE;refine⟨λwq=>FR w0 [] _ wq,hF,?_⟩;refine Hb O (Rb Rm O) (Nf O (Pi xQ O C0 1 O O) (Hb O (Rb R3 O) (Ab O (v:=.agg (q.x.cells).toArray) (λw hC=>Za (l:=q.x.cells) bZ pZ O O (hC.part 1 2 O O)) (Hb O (Qe O) (Ab O (v:=V b2) (λw hC=>Ed (i:=0) 0 Tg O O Oa Oa O) (Ab O (v:=.agg (u.cells).toArray) (λw hC=>Za (l:=u.cells) aZ oZ O O (hC.part 0 0 O O)) (Hb O (Qe O) (Ab O (v:=.pointer (some ⟨b2,4,none⟩)) (λw hC=>Ed (i:=1) 4 Tg O O Oa Oa O) (Ab O (v:=.agg (v_.cells).toArray) (λw hC=>Za (l:=v_.cells) aZ oZ O O (hC.part 0 4 O O)) ?_)))))))));refine Cd O (W9 q.k (by have:=hq.k;omega) (by have:=hq.k;omega) _ (hG.ext hF.same)) (Ma CB O O) ?_;rintro _ w ⟨rfl,hE⟩;have hF:=hF.ext hE;have hXu:=hXu.ext hE;have hXv:=hXv.ext hE;refine⟨hF,?_⟩;refine Cd O (Qv c.b q.x S _ (hF.rep hq.x)) (Ma IQ O O) ?_;rintro _ w ⟨ct,rfl,hXb,hE⟩;obtain⟨xb,rfl,-⟩:=Wh hXb;have hF:=hF.ext hE;have hXu:=hXu.ext hE;have hXv:=hXv.ext hE;refine⟨hF,?_⟩;refine Of 4 O hF (Fb (cs:=#[J 3,I (Gi (Q8 q.k)),aQ,aQ,J (xb.k),I (xb.t),.slice xb.A xb.n xb.c,.slice xb.B xb.m xb.e,J (u.k),I (u.t),.slice u.A u.n u.c,.slice u.B u.m u.e,J (v_.k),I (v_.t),.slice v_.A v_.n v_.c,.slice v_.B v_.m v_.e]) jX oZ sX Oa Oa Ib) ?_;intro b3 w hb3 hF hE;have hXu:=hXu.ext hE;have hXv:=hXv.ext hE;have hXb:=hXb.ext hE;refine⟨hF.drop 1,?_⟩;refine Cd O (JJ (some ⟨b3,0,none⟩) 4 4 _) (Ma LH O O) ?_;rintro _ w ⟨rfl,hE⟩;have hF:=hF.ext hE;have hXu:=hXu.ext hE;have hXv:=hXv.ext hE
 have hXb:=hXb.ext hE;refine⟨hF.drop 1,?_⟩;have hNum:Rep (λ_=>True) w (Jb (JW c.cls)) [J 3,I (Gi (Q8 q.k)),aQ,aQ]:=by rw[hq.k];exact JV 3 (Gi (Q8 c.cls)) ⟨by decide,by decide⟩ (by have:=WQ hkc;omega) _
 have hrow:Rep (λx=>True\/x=b3) _ (.slice ([JW c.cls,Xe c.b,(Qx (Xe c.l) (Xe c.r)).1,(Qx (Xe c.l) (Xe c.r)).2].map Jb)) _:=hF.rowS 0 rfl (n:=4) (RepL.cons_mk hNum (RepL.cons_mk hXb.anyS (RepL.cons_mk hXu.anyS (RepL.cons_mk (c2:=[]) hXv.anyS RepL.nil_mk)))) rfl Aa;have hX:Rep (λ_=>True) _ (Jb (M8 c)) [J 5,I [],aQ,W b3 4 4]:=Rep.tree_mk (ks:=[]) (xs:=[JW c.cls,Xe c.b,(Qx (Xe c.l) (Xe c.r)).1,(Qx (Xe c.l) (Xe c.r)).2]) ⟨by decide,by decide⟩ La (Rep.nil_slice 0 Aa none) (by rw[Ge];exact hrow.anyS);refine Cd O (CQ (M8 c) (λ_=>True) _ _ hX (hG.ext hF.same) (L_ hP hkc).1 (L_ hP hkc).2) (Ma en_38 O O) ?_;rintro _ w ⟨rfl,hE⟩;have hF:=hF.ext hE;have hXu:=hXu.ext hE;have hXv:=hXv.ext hE;have hXb:=hXb.ext hE;refine⟨hF.drop 1,?_⟩;refine Hb O (Aj O) (Hb O (L1 O O) (Hb O (Nh O O) (Hb O (Xf O) (Hb O (Gb O) (d_nil (Ga (Da (Ba (Pd O) (Ba (Cb O) (Ba (Xh O O) (Ba (Xf O) (Ba (Kb O) ?_))))))))))));refine Ca (Xa (Va (Ka (Jc (v:=I (Bt (Wd (M8 c)))) (x:=.bool _) O O O) ?_)));have e:Ek c=(Bt (Wd (M8 c)),decide (Ou (Wd (M8 c))=0)):=by unfold Ek;rw[if_pos h0]
 rw[e];exact⟨O,hF.same⟩
end Go.Scarf
