/- A part of the proof. -/
import Derived.Test.YtidlkjpohhbbcaaGreatDoorQ2
set_option linter.all false
set_option maxHeartbeats 8000000
set_option maxRecDepth 10000
set_option synthInstance.maxHeartbeats 0
set_option synthInstance.maxSize 9999
namespace Go.Scarf
open List renaming length->aL
open Go.RowKit Go.Proofs Go.Proofs.Tryz
variable {l l':List Nd}{d g j k kc n qc:Nat}{x:Nd}{cs nd po v1 vals vs:List Value}{m:Mm}{i:List Nat}{o:Obj}{A K Q:Option Addr}{its sb sk sl sm0 sq:List (Nat × Obj)}{v:Value}{z:Int}
def ins2_c(g:Nat)(x y:Tv)(xT yT:Tree)(S:Nat->Prop)(hS:¬S g)(hgl:8<=g)(w0:World)(hg:w0.heap[g]? = some (.cells #[J (x.k),I (x.t),.slice x.A x.n x.c,.slice x.B x.m x.e,J (y.k),I (y.t),.slice y.A y.n y.c,.slice y.B y.m y.e] 36))(hx:Rep S w0 (Na xT) x.cells)(hy:Rep S w0 (Na yT) y.cells)(hsx:La xT<=1000000000)(hsy:La yT<=1000000000)(hkx:To xT)(hky:To yT)(hG:Gl w0):Calls prog 126 #[W g 2 2,J 0,J 2,.func (.func 51) #[] #[]] w0 (Za λv w'=>v=.tuple #[]/\∃u v_:Tv,((Vd yT xT<0/\y=u/\x=v_)\/(¬Vd yT xT<0/\x=u/\y=v_))/\w'.heap[g]? = some (.cells #[J (u.k),I (u.t),.slice u.A u.n u.c,.slice u.B u.m u.e,J (v_.k),I (v_.t),.slice v_.A v_.n v_.c,.slice v_.B v_.m v_.e] 36)/\Same [g] w0 w'):=by
 refine Lb func126 ntmps126 O O ?_;have hF:FR w0 [g] [(g,.cells #[J x.k,I x.t,.slice x.A x.n x.c,.slice x.B x.m x.e,J y.k,I y.t,.slice y.A y.n y.c,.slice y.B y.m y.e] 36)] w0:=FR.open_ wX Da;refine rn 3<|Zb (Wd<|((1:Nat):Int)) ?_;refine rn 4<|Sa (λμ σ w=>∃(i:Nat),∃(u:Tv),∃(v_:Tv),μ=2-i/\((i=1/\x=u/\y=v_)\/(i=2/\((Vd yT xT<0/\y=u/\x=v_)\/(¬Vd yT xT<0/\x=u/\y=v_))))/\AllEq σ [(0,W g 2 2),(1,J 0),(2,J 2),(3,.func (.func 51) #[] #[]),(8,J<|(i:Int))]/\FR w0 [g] [(g,.cells #[J u.k,I u.t,.slice u.A u.n u.c,.slice u.B u.m u.e,J v_.k,I v_.t,.slice v_.A v_.n v_.c,.slice v_.B v_.m v_.e] 36)] w) _ ⟨1,x,y,O,.inl ⟨O,O,O⟩,Va,hF⟩ ?_;rintro μ σ w ⟨i,u,v_,rfl,hst0,hzz,hF⟩;refine Wf hzz 9 ⟨λhc0=>?_,λhc0=>?_⟩;refine rn 5 ?_;obtain⟨rfl,rfl,rfl⟩:i=1/\x=u/\y=v_:=hst0.elim (λh=>h) λh=>absurd hc0 (by have:=h.1;omega);refine rn 6<|Sa (λμ σ w=>∃(j:Nat),∃(u:Tv),∃(v_:Tv),μ=j+1/\((j=1/\x=u/\y=v_)\/(j=0/\y=u/\x=v_/\Vd yT xT<0))/\AllEq σ [(0,W g 2 2),(1,J 0),(2,J 2),(3,.func (.func 51) #[] #[]),(8,J<|((1:Nat):Int)),(9,J<|(j:Int))]/\FR w0 [g] [(g,.cells #[J u.k,I u.t,.slice u.A u.n u.c,.slice u.B u.m u.e,J v_.k,I v_.t,.slice v_.A v_.n v_.c,.slice v_.B v_.m v_.e] 36)] w) _ ⟨1,x,y,O,.inl ⟨O,O,O⟩,Va,hF⟩ ?_;rintro μ σ w ⟨j,u,v_,rfl,hst,hzz,hF⟩;refine Wf hzz 2<|Rb (zs:=.of []) (bQ [0,1,2,3,4,5,6,7,8,9,10,11,12,13]<|.act 14<|.free 15<|.free 16 .nil) hF ?_;intro w hF;refine rn 5 ⟨λhg0=>?_,λhg0=>?_⟩;obtain⟨rfl,rfl,rfl⟩:j=1/\x=u/\y=v_:=hst.elim (λh=>h) λh=>absurd hg0 (by have:=h.1;omega);refine rn 3 ?_;refine Ga O (v:=.pointer<|some ⟨g,4,none⟩) (λw hC=>Kb (i:=((1:Nat):Int)) 4 Fd O O Ja Ja O)<|Ga O (v:=.agg (y.cells).toArray) (λw hC=>Ma (l:=y.cells) qZ uZ O O<|hC.part 0 4 O O) ?_;refine rn 2 ?_
 refine CB O (AB 0)<|Ga O (v:=V g) (λw hC=>Kb (i:=0) 0 Fd O O Ja Ja O)<|Ga O (v:=.agg (x.cells).toArray) (λw hC=>Ma (l:=x.cells) qZ uZ O O<|hC.part 0 0 O O) ?_;refine Nr rfl (SO yT xT hsy hsx S S _ y.cells x.cells (hy.same hF.same zU) (hx.same hF.same zU) hky hkx<|hG.same hF.same (λb hb=>by rw[pQ.1 hb];exact hgl)) (Fh rfl en_51 rfl rfl rfl) ?_;rintro _ w ⟨rfl,hE⟩;have hF:=hF.ext hE;refine⟨hF,?_⟩;refine rn 5 ⟨λhc1=>?_,λhc1=>?_⟩;refine rn 4<|Gb ⟨[15,17],λwq=>FR w0 [g] [] wq,[2,3,4,10,11,12]⟩ (bQ [0,1,2,3,4,5,6,7,8,9,10,11,12,13,14]<|.act 15<|.free 16<|.act 17 .nil) hF ?_;rintro w hF -;refine⟨λwq=>FR w0 [g] _ wq,hF,?_⟩;refine rn 4<|CB O (AB 0) ?_;refine rn 2 ?_;refine CB O (AB 0)<|Ga O (v:=V g) (λw hC=>Kb (i:=0) 0 Fd O O Ja Ja O)<|Ga O (v:=.agg (x.cells).toArray) (λw hC=>Ma (l:=x.cells) qZ uZ O O<|hC.part 0 0 O O) ?_;refine rn 2<|Wl O (v:=.pointer<|some ⟨g,4,none⟩) (λw hC=>Kb (i:=((1:Nat):Int)) 4 Fd O O Ja Ja O) (λw hC=>Kb (i:=((1:Nat):Int)) 4 Fd O O Ja Ja O) ?_;refine Ga O (v:=.agg (y.cells).toArray) (λw hC=>Ma (l:=y.cells) qZ uZ O O<|hC.part 0 4 O O)<|Ga O (v:=.pointer<|some ⟨g,4,none⟩) (λw hC=>Kb (i:=((1:Nat):Int)) 4 Fd O O Ja Ja O) ?_;refine Jj 0 (l:=[J x.k,I x.t,.slice x.A x.n x.c,.slice x.B x.m x.e]) (cs':=#[J x.k,I x.t,.slice x.A x.n x.c,.slice x.B x.m x.e,J x.k,I x.t,.slice x.A x.n x.c,.slice x.B x.m x.e]) hF uZ O (v:=.agg (x.cells).toArray) O O Eo O Bf O ?_ O;rintro w hF -;refine⟨hF.su,?_⟩;refine Ga O (v:=V g) (λw hC=>Kb (i:=0) 0 Fd O O Ja Ja O)<|Jj 0 (l:=[J y.k,I y.t,.slice y.A y.n y.c,.slice y.B y.m y.e]) (cs':=#[J y.k,I y.t,.slice y.A y.n y.c,.slice y.B y.m y.e,J x.k,I x.t,.slice x.A x.n x.c,.slice x.B x.m x.e]) hF uZ O (v:=.agg (y.cells).toArray) O O Eo O Bf O ?_ O
 rintro w hF -;refine⟨hF.su,?_⟩;refine rn 5<|Zb (AB<|((0:Nat):Int)) ?_;refine rn 2<|Ha ⟨_,?_,0,y,x,O,.inr ⟨O,O,O,hc1⟩,Va,hF⟩;omega;refine rn 5<|Zb (Wd<|((2:Nat):Int)) ?_;refine rn 2<|Ha ⟨_,?_,2,x,y,O,.inr ⟨O,.inr ⟨hc1,O,O⟩⟩,Va,hF⟩;omega;refine rn 10<|Yy ?_ hF;refine rn 10<|Zb (Wd<|((2:Nat):Int)) ?_;refine rn 2 ?_;refine Ha ⟨_,?_,2,u,v_,O,(hst.elim (λh=>absurd (by have:=h.1;omega:(0:Int)<(j:Int)) hg0) λh=>.inr ⟨O,.inl ⟨h.2.2.2,h.2.1,h.2.2.1⟩⟩),Va,hF⟩;omega;refine rn 2 ?_;have hst1:=hst0.elim (λh=>absurd (show (i:Int)<2 by have:=h.1;omega) hc0) λh=>h.2;exact⟨O,u,v_,hst1,hF.heap (i:=0) O,hF.same⟩
def LW(g:Nat)(x y:Tv)(xT yT:Tree)(S:Nat->Prop)(hS:¬S g)(hgl:8<=g)(w0:World)(hg:w0.heap[g]? = some (.cells #[J (x.k),I (x.t),.slice x.A x.n x.c,.slice x.B x.m x.e,J (y.k),I (y.t),.slice y.A y.n y.c,.slice y.B y.m y.e] 36))(hx:Rep S w0 (Na xT) x.cells)(hy:Rep S w0 (Na yT) y.cells)(hsx:La xT<=1000000000)(hsy:La yT<=1000000000)(hkx:To xT)(hky:To yT)(hG:Gl w0):Calls prog 80 #[W g 2 2,J 2,.func (.func 51) #[] #[]] w0 (Za λv w'=>v=.tuple #[]/\∃u v_:Tv,((Vd yT xT<0/\y=u/\x=v_)\/(¬Vd yT xT<0/\x=u/\y=v_))/\w'.heap[g]? = some (.cells #[J (u.k),I (u.t),.slice u.A u.n u.c,.slice u.B u.m u.e,J (v_.k),I (v_.t),.slice v_.A v_.n v_.c,.slice v_.B v_.m v_.e] 36)/\Same [g] w0 w'):=by
 refine Lb func80 ntmps80 O O ?_;have hF:FR w0 [g] [(g,.cells #[J x.k,I x.t,.slice x.A x.n x.c,.slice x.B x.m x.e,J y.k,I y.t,.slice y.A y.n y.c,.slice y.B y.m y.e] 36)] w0:=FR.open_ wX Da;refine rn 14<|Sa (λμ σ w=>μ=0/\AllEq σ [(0,W g 2 2),(1,J 2),(2,.func (.func 51) #[] #[]),(6,J 20),(7,J 0),(8,J 20)]/\FR w0 [g] [(g,.cells #[J x.k,I x.t,.slice x.A x.n x.c,.slice x.B x.m x.e,J y.k,I y.t,.slice y.A y.n y.c,.slice y.B y.m y.e] 36)] w) _ ⟨O,Va,hF⟩ ?_;rintro μ σ w ⟨rfl,hzz,hF⟩;refine Wf hzz 8<|Zo (by rfl) ?_;refine rn 8 ?_;refine Fc (ins2_c g x y xT yT S hS hgl _ (hF.heap (i:=0) rfl) (hx.same hF.same zU) (hy.same hF.same zU) hsx hsy hkx hky<|hG.same hF.same (λb hb=>by rw[pQ.1 hb];exact hgl)) ?_;rintro _ w ⟨rfl,u,v_,hst1,hg1,hE⟩;have hF:=hF.change 0 rfl hE hg1;clear hE hg1;refine rn 3<|Sa (λμ σ w=>μ=0/\AllEq σ [(0,W g 2 2),(1,J 2),(2,.func (.func 51) #[] #[]),(6,J 20)]/\FR w0 [g] [(g,.cells #[J u.k,I u.t,.slice u.A u.n u.c,.slice u.B u.m u.e,J v_.k,I v_.t,.slice v_.A v_.n v_.c,.slice v_.B v_.m v_.e] 36)] w) _ ⟨O,Va,hF⟩ ?_;rintro μ σ w ⟨rfl,hzz,hF⟩;refine Wf hzz 8<|Zo (by rfl) ?_;refine rn 2 ?_;exact⟨O,u,v_,hst1,hF.heap (i:=0) O,hF.same⟩
def sort2_c(g:Nat)(x y:Tv)(xT yT:Tree)(S:Nat->Prop)(hS:¬S g)(hgl:8<=g)(w0:World)(hg:w0.heap[g]? = some (.cells #[J (x.k),I (x.t),.slice x.A x.n x.c,.slice x.B x.m x.e,J (y.k),I (y.t),.slice y.A y.n y.c,.slice y.B y.m y.e] 36))(hx:Rep S w0 (Na xT) x.cells)(hy:Rep S w0 (Na yT) y.cells)(hsx:La xT<=1000000000)(hsy:La yT<=1000000000)(hkx:To xT)(hky:To yT)(hG:Gl w0):Calls prog 50 #[W g 2 2,.func (.func 51) #[] #[]] w0 (Za λv w'=>v=.tuple #[]/\∃u v_:Tv,((Vd yT xT<0/\y=u/\x=v_)\/(¬Vd yT xT<0/\x=u/\y=v_))/\w'.heap[g]? = some (.cells #[J (u.k),I (u.t),.slice u.A u.n u.c,.slice u.B u.m u.e,J (v_.k),I (v_.t),.slice v_.A v_.n v_.c,.slice v_.B v_.m v_.e] 36)/\Same [g] w0 w'):=by
 refine Lb func50 ntmps50 O O ?_;have hF:FR w0 [g] [(g,.cells #[J x.k,I x.t,.slice x.A x.n x.c,.slice x.B x.m x.e,J y.k,I y.t,.slice y.A y.n y.c,.slice y.B y.m y.e] 36)] w0:=FR.open_ wX Da;refine rn 5 ?_;refine Fc (LW g x y xT yT S hS hgl _ (hF.heap (i:=0) rfl) (hx.same hF.same zU) (hy.same hF.same zU) hsx hsy hkx hky<|hG.same hF.same (λb hb=>by rw[pQ.1 hb];exact hgl)) ?_;rintro _ w ⟨rfl,u,v_,hst1,hg1,hE⟩;have hF:=hF.change 0 rfl hE hg1;clear hE hg1;refine rn 2 ?_;exact⟨O,u,v_,hst1,hF.heap (i:=0) O,hF.same⟩
def FM(s:Str)(l:List Nd)(z:Int):Str:=match l[z.toNat]? with|none=>[]|some y=>(Dc (Ya s y.kf y.kt)).1
def Ym(s:Str)(l:List Nd)(d:Nat)(x:Nd)(j:Nat):List Str × List Tree:=(if x.k=6 then (x.kids.take j).map (FM s l) else [],(x.kids.take j).map λz=>Ld s l (d-1) z.toNat)
theorem On{α:Type}{p:α->Bool}:∀{l:List α}{j:Nat},(∀z∈l.take j,p z=true)->(∀h:j<aL l,p l[j]=false)->l.takeWhile p=l.take j
  | [],j,_,_=>by simp
  | a :: l, 0, _, h => by
    have:=h<|Nat.succ_pos _;simp only[List.getElem_cons_zero]at this;rw[List.takeWhile_cons_of_neg (by rw[this];decide),List.take_zero]
  | a :: l, j + 1, h1, h2 => by
    rw[List.take_succ_cons]at h1 ⊢;rw[List.takeWhile_cons_of_pos<|h1 a aZ,On (λz hz=>h1 z<|iZ _ hz) λh=>by
      have:=h2<|Nat.succ_lt_succ h;simpa using this]
def inN(l:List Nd)(z:Int):Prop:=0<=z/\z<(aL l:Int)
def Sn{s:Str}(hk:k<aL l)(h1:∀z∈l[k].kids.take j,inN l z)(h2:∀h:j<aL l[k].kids,¬inN l l[k].kids[j]\/d=0)(h3:0<j->0<d) :
    Ld s l d k=.node l[k].k (Tg l[k].k (Ya s l[k].f l[k].t)) (Ym s l d l[k] j).1 (Ym s l d l[k] j).2:=by
  have e:l[k]? = some l[k]:=List.getElem?_eq_getElem hk;cases d with
  | zero =>
    have hj:j=0:=by
      rcases Nat.eq_zero_or_pos j with h|h
      ·exact h
      have:=h3 h;omega
    subst hj;rw[Ld,e];simp[Ym]
  | succ d =>
    have hw:l[k].kids.takeWhile (λj:Int=>decide (0<=j)&&decide (j<(aL l:Int)))=l[k].kids.take j:=On
      (λz hz=>by have:=h1 z hz;unfold inN at this;simp[this]) λh=>by
        rcases h2 h with h|h
        ·unfold inN at h
         rw[Bool.and_eq_false_iff,decide_eq_false_iff_not,decide_eq_false_iff_not];omega
        cases h
    rw[Ld,e];simp only[hw];rfl
def GR{s:Str}(h:x.k=6)(hj:j<aL x.kids):Ym s l d x (j+1)=((Ym s l d x j).1++[FM s l x.kids[j]],(Ym s l d x j).2++[Ld s l (d-1) x.kids[j].toNat]):=by
  unfold Ym;rw[uQ h,uQ h,iQ hj];simp only[jQ,lZ,List.map_nil]
def UP{s:Str}(h:¬x.k=6)(hj:j<aL x.kids):Ym s l d x (j+1)=((Ym s l d x j).1,(Ym s l d x j).2++[Ld s l (d-1) x.kids[j].toNat]):=by
  unfold Ym;rw[tQ h,tQ h,iQ hj];simp only[jQ,lZ,List.map_nil]
def NH(s:Str)(l:List Nd)(d:Nat)(x:Nd):Ym s l d x 0=([],[]):=by unfold Ym;simp
theorem Y_(hr:∀n,aL (Od n)<=4)(t:Str):∀(f at_:Nat)(out:Str),aL (Em f t at_ out).1<=aL out+4*f
  | 0,at_,out=>by rw[Em];exact dZ _
  | f + 1, at_, out => by
    rw[Em];split
    ·split
     ·simp only;omega
     split
     ·exact dZ _
     have := Y_ hr t f (at_ + (Fg<|t.drop at_).2) (out ++ Od (Fg<|t.drop at_).1);rw[dQ]at this;have:=hr (Fg<|t.drop at_).1;omega
    exact dZ _
def Xm(hr:∀n,aL (Od n)<=4)(t:Str):aL (Dc t).1<=4*aL t:=by
  have h:aL (Wc t 0).1<=4*aL t:=by
    unfold Wc;split
    ·have := Y_ hr t (aL t-0) (0 + 1) []
     simp only[cZ]at this;omega
    exact dZ _
  unfold Dc;split
  ·exact dZ _
  exact h
def MI(x:Num):aL (Ch x)<=1100:=by
  by_cases h:Ub x=true
  ·have hr := Pb h
   have hi:=Lib.itoa_length_le x.exp Aa Aa;unfold Ch;split
   ·simp
   split
   ·simp
   rw[dQ];have h1:aL (if x.neg=true then 45::x.digits else x.digits)<=1001:=by split <;> (try simp) <;> omega
   have h2:aL (if x.exp≠0 then 101::Lib.itoa x.exp else [])<=22:=by split <;> (try simp) <;> omega
   omega
  unfold Ch;rw[uQ (aS h)];exact dZ _
def Nl(k:Int)(s:Str):aL (Tg k s)<=4*aL s+1100:=by
  unfold Tg;split
  ·omega
  split
  ·have:=MI (Wb s).1;omega
  split
  ·have:=Xm (λn=>(Cd n).2) s;omega
  exact dZ _
def Af(s:Str)(f t:Nat):aL (Ya s f t)<=aL s:=by
  unfold Ya;split
  ·rw[zQ,jZ];omega
  exact dZ _
def keyF_len(s:Str)(l:List Nd)(z:Int):aL (FM s l z)<=4*aL s:=by
  unfold FM;split
  ·exact dZ _
  rename_i y _
  have:=Xm (λn=>(Cd n).2)<|Ya s y.kf y.kt;have:=Af s y.kf y.kt;omega
def NQ{s:Str}{q:Nat}(h:q<aL l):FM s l (q:Int)=(Dc (Ya s l[q].kf l[q].kt)).1:=by
  unfold FM;rw[Int.toNat_natCast,List.getElem?_eq_getElem h]
def Rs{s:Str}:∀y∈(Ym s l d x j).1,aL y<=4*aL s:=by
  unfold Ym;intro y hy;split at hy
  ·obtain⟨z, _, rfl⟩ := nQ.1 hy
   exact keyF_len s l z
  cases hy
def KQ{s:Str}(hj:j<=aL x.kids):aL (Ym s l d x j).1<=j/\aL (Ym s l d x j).2=j:=by
  unfold Ym;refine⟨?_,by simp;omega⟩;dsimp only;split
  ·simp;omega
  exact dZ _
structure CfP (c:Cf):Prop where
  ok:CfOk c
  sz:La c.b.val+La c.l.val+La c.r.val<=100000000
  mb:Ob c.b.val<=1073741824
  ml:Ob c.l.val<=1073741824
  mr:Ob c.r.val<=1073741824
def S5{s:Sd}(h:Ob s.val<=1073741824):Ob (Ed s)<=1073741824:=by
  unfold Ed;split <;> simp[Ob,Sf,Sg,h]
def KO{x y:Tree}{q:Tree->Prop}(hx:q x)(hy:q y):q (Xv x y).1/\q (Xv x y).2:=by
  unfold Xv;split
  ·exact⟨hy,hx⟩
  exact⟨hx,hy⟩
def CQ{k:Int}(h:1<=k/\k<=6):aL (Ch (XJ k))<=1073741824:=by
  have:=MI<|XJ k;omega
def Y9{c:Cf}(h:CfP c)(hk:1<=c.cls/\c.cls<=6):La (IC c)<=1000000000/\Ob (IC c)<=1073741824:=by
  have hb:=Yn h.ok.b;have hl:=Yn h.ok.l;have hr:=Yn h.ok.r;have hs:=h.sz;have e:La (Xv (Ed c.l)<|Ed c.r).1+La (Xv (Ed c.l)<|Ed c.r).2=La (Ed c.l)+La (Ed c.r):=by unfold Xv;split <;> simp only <;> omega
  have hm:=KO (q:=λt=>Ob t<=1073741824) (S5 h.ml)<|S5 h.mr;have hw:=S5 h.mb;have hc:=CQ hk;unfold IC clsT;refine⟨?_,?_⟩
  ·simp only[La,Ra];omega
  simp only[Ob, Sf, Sg, cZ];omega
def loHi_rep{S:Nat->Prop}{w:World}{xT yT:Tree}{x y u v:Tv}(h:(Vd yT xT<0/\y=u/\x=v)\/(¬Vd yT xT<0/\x=u/\y=v))(hx:Rep S w (Na xT) x.cells)(hy:Rep S w (Na yT) y.cells):Rep S w (Na (Xv xT yT).1) u.cells/\Rep S w (Na (Xv xT yT).2) v.cells:=by
  unfold Xv;rcases h with ⟨h,rfl,rfl⟩|⟨h,rfl,rfl⟩
  ·rw[uQ h];exact⟨hy,hx⟩
  rw[tQ h];exact⟨hx,hy⟩
def Rep.anyS{S:Nat->Prop}{w:World}{d:D}(h:Rep S w d cs):Rep (λ_=>True) w d cs:=h.weaken λ_ _ _=>trivial
def JE(c:Cf)(q:Cv)(S:Nat->Prop)(w0:World)(hq:CvOf S w0 c q)(hP:CfP c)(hG:Gl w0):Calls prog 18 #[.agg q.cells.toArray] w0 (Za λv w'=>v=.tuple #[I ((Nj c).1),.bool (Nj c).2]/\Same [] w0 w'):=by
 refine Ea func18 ntmps18 ?_;intro hF;refine rn 3 ?_;rintro b1 w hb1 hF -;refine rn 8<|Ia (rightC_c c q S _ ⟨hq.n,hq.k,hF.rep hq.p,hF.rep hq.x,hF.rep hq.y,hF.rep hq.z⟩ hP.ok<|hG.ext hF.same) ?_;rintro w hF -;refine rn 4 ⟨λhc0=>?_,λhc0=>?_⟩;have h0:Rt c=false:=aS hc0
 refine rn 7 ?_;have e:Nj c=([],false):=by unfold Nj;rw[tQ bR]
 rw[e];exact⟨O,hF.same⟩;have h0:Rt c=true:=aS hc0
 have hkc:1<=c.cls/\c.cls<=6:=by unfold Rt at h0;simp only[vQ,xQ]at h0;exact h0.2.2.2
 refine rn 3<|Rb (zs:=.of []) (bQ [0,1,3,4]<|cQ [2,5,6]<|.free 7 .nil) hF ?_;intro w hF;refine rn 1 ?_;refine Ga O (v:=.agg (q.y.cells).toArray) (λw hC=>Ma (l:=q.y.cells) rZ vZ O O<|hC.part 0 7 O O)<|rn 1 ?_;refine Ga O (v:=.agg (q.z.cells).toArray) (λw hC=>Ma (l:=q.z.cells) rZ vZ O O<|hC.part 0 12 O O)<|Lk (Ku c.l q.y S _<|hF.rep hq.y) ?_;rintro _ w ⟨ct,rfl,hXl,hE⟩;obtain⟨xl,rfl,-⟩:=Pe hXl;have hF:=hF.ext hE;have hXl:=hXl.low;refine⟨hF,?_⟩;refine Lk (Ku c.r q.z S _<|hF.rep hq.z) ?_;rintro _ w ⟨ct,rfl,hXr,hE⟩;obtain⟨xr,rfl,-⟩:=Pe hXr;have hF:=hF.ext hE;have hXl:=(hXl.ext hE).low;have hXr:=hXr.low;obtain⟨N,hN⟩:∃N,N=w.heap.size:=⟨_,rfl⟩;rw[<-hN]at hXl hXr;refine⟨hF,?_⟩;refine rn 1 ?_;intro b2 w hb2 hF hE;have hXl:=hXl.ext hE;have hXr:=hXr.ext hE;refine rn 6 ?_;refine Fc (sort2_c b2 xl xr (Ed c.l) (Ed c.r) (λx=>x<N) Aa (by have:=hG.size;have:=hF.ge (i:=0) O;omega) _ (hF.heap (i:=0) O) hXl hXr (by have:=(Yn hP.ok.l).2;have:=hP.ok.l.sz;have:=hP.sz;omega) (by have:=(Yn hP.ok.r).2;have:=hP.ok.r.sz;have:=hP.sz;omega) (Yn hP.ok.l).1 (Yn hP.ok.r).1<|hG.ext hF.same) ?_;rintro _ w ⟨rfl,u,v_,hst1,hg1,hE⟩;have hNb:∀x∈[b2],¬x<N:=λx hx=>by rw[pQ.1 hx];omega
 have hXl:=hXl.same hE hNb;have hXr:=hXr.same hE hNb;have hF:=hF.change 0 rfl hE hg1;clear hE hg1 hNb;obtain⟨hXu,hXv⟩:=loHi_rep hst1 hXl hXr;clear hXl hXr;refine rn 3<|Gb (.of []) (bQ [0,1,3,4,6,7,8,9,10,11]<|cQ [2,5,12,13,14]<|bQ [15,16,17,18,19] .nil) hF ?_;intro w hF hE;have hXu:=hXu.ext hE;have hXv:=hXv.ext hE;refine⟨λwq=>FR w0 [] _ wq,hF,?_⟩;refine rn 3 ?_;refine Ga O (v:=.agg (q.x.cells).toArray) (λw hC=>Ma (l:=q.x.cells) rZ vZ O O<|hC.part 1 2 O O)<|rn 1 ?_;refine Ga O (v:=V b2) (λw hC=>Kb (i:=0) 0 Fd O O Ja Ja O)<|Ga O (v:=.agg (u.cells).toArray) (λw hC=>Ma (l:=u.cells) qZ uZ O O<|hC.part 0 0 O O) ?_;refine rn 1 ?_;refine Ga O (v:=.pointer<|some ⟨b2,4,none⟩) (λw hC=>Kb (i:=1) 4 Fd O O Ja Ja O)<|Ga O (v:=.agg (v_.cells).toArray) (λw hC=>Ma (l:=v_.cells) qZ uZ O O<|hC.part 0 4 O O) ?_;refine Rc (JI q.k (by have:=hq.k;omega) (by have:=hq.k;omega)<|hG.ext hF.same) ?_;intro w hF hE;have hXu:=hXu.ext hE;have hXv:=hXv.ext hE;refine Lk (Ku c.b q.x S _<|hF.rep hq.x) ?_;rintro _ w ⟨ct,rfl,hXb,hE⟩;obtain⟨xb,rfl,-⟩:=Pe hXb;have hF:=hF.ext hE;have hXu:=hXu.ext hE;have hXv:=hXv.ext hE;refine⟨hF,?_⟩;refine rn 1 ?_;intro b3 w hb3 hF hE;have hXu:=hXu.ext hE;have hXv:=hXv.ext hE;have hXb:=hXb.ext hE;refine Rc (LI (some ⟨b3,0,none⟩) 4 4) ?_;intro w hF hE;have hXu:=hXu.ext hE;have hXv:=hXv.ext hE;have hXb:=hXb.ext hE;have hNum:Rep (λ_=>True) w (Na<|clsT c.cls) [J 3,I<|Ch<|XJ q.k,aQ,aQ]:=by rw[hq.k];exact rep_leaf 3 (Ch<|XJ c.cls) ⟨Ja,Ja⟩ (by have:=CQ hkc;omega) _
 have hrow:Rep (λx=>True\/x=b3) _ (.slice<|[clsT c.cls,Ed c.b,(Xv (Ed c.l)<|Ed c.r).1,(Xv (Ed c.l)<|Ed c.r).2].map Na) _:=hF.rowS 0 rfl (n:=4) (RepL.cons_mk hNum<|RepL.cons_mk hXb.anyS<|RepL.cons_mk hXu.anyS<|RepL.cons_mk (c2:=[]) hXv.anyS RepL.nil_mk) rfl Aa;have hX:Rep (λ_=>True) _ (Na<|IC c) [J 5,I [],aQ,W b3 4 4]:=Rep.tree_mk (ks:=[]) (xs:=[clsT c.cls,Ed c.b,(Xv (Ed c.l)<|Ed c.r).1,(Xv (Ed c.l)<|Ed c.r).2]) ⟨Ja,Ja⟩ Da (Rep.nil_slice 0 Aa none) (by rw[Jc];exact hrow.anyS);refine Rc (LP (IC c) (λ_=>True) _ _ hX (hG.ext hF.same) (Y9 hP hkc).1 (Y9 hP hkc).2) ?_;intro w hF hE;have hXu:=hXu.ext hE;have hXv:=hXv.ext hE;have hXb:=hXb.ext hE;refine rn 17 ?_;have e:Nj c=(Mt<|Zc<|IC c,decide (Vs (Zc<|IC c)=0)):=by unfold Nj;rw[uQ h0]
 rw[e];exact⟨O,hF.same⟩
structure MmsP (t:List Mm):Prop where
  ok:∀m∈t,MmOk m
  n:aL t<=1000000
  sz:La (Wh t)<=1000000000
  mx:Ob (Wh t)<=1073741824
def OW{S:Nat->Prop}{w:World}{n:Nat}(h:Rep S w (.slice ([ofT m.pr,Ed m.sd].map Na)) [W g 2 2]):Rep S w (Na (Fm m)) [J 5,I [],aQ,W g 2 2] :=
  Rep.tree_mk (ks:=[]) (xs:=[ofT m.pr,Ed m.sd]) ⟨Ja,Ja⟩ Da (Rep.nil_slice 0 Aa none) (by rw[Jc];exact h)
theorem FR.notin{w0 w:World}{Ds:List Nat}{bs_:List (Nat × Obj)}(hF:FR w0 Ds bs_ w)(k:Nat)(hi:bs_[k]? = some (g,o))(h:∀x∈i,x∈ids (bs_.drop (k+1))):g∉i:=λhm=>by
  obtain⟨q,hq,e⟩:=nQ.1<|h g hm;obtain⟨hk,he⟩:=List.getElem?_eq_some_iff.1 hi;obtain⟨j,hj,rfl⟩:=List.getElem_of_mem hq;rw[zQ]at hj;rw[List.getElem_drop]at e;have:=List.pairwise_iff_getElem.1 hF.desc k (k+1+j) hk Aa Aa;rw[he]at this;exact this e
def IS{w0 w:World}{bs_:List (Nat × Obj)}{xw:Tv}(hF:FR w0 [] bs_ w)(k:Nat)(hi:bs_[k]? = some (g,.cells #[J 4,I m.pr,aQ,aQ,J xw.k,I xw.t,.slice xw.A xw.n xw.c,.slice xw.B xw.m xw.e] 36))(hp:aL m.pr<=9223372036854775807)(hW:KX i w [Na (Ed m.sd)] xw.cells)(hg:g∉i) :
    KX i w [Na (Fm m)] [J 5,I [],aQ,W g 2 2]:=by
  have h1:Rep (Kp i w) w (Na<|ofT m.pr) [J 4,I m.pr,aQ,aQ]:=Rep.tree_mk (ks:=[]) (xs:=[]) ⟨Ja,Ja⟩ hp (Rep.nil_slice 0 Aa none)<|Rep.nil_slice 0 Aa none;have h2:=hF.rowS k hi (n:=2) (ds:=[ofT m.pr,Ed m.sd].map Na) (RepL.cons_mk h1 hW) rfl Aa;refine RepL.cons_mk (c2:=[]) (OW (n:=0)<|h2.weaken λb hb hl=>?_) RepL.nil_mk;rcases hb with h|h
  ·exact h
  exact⟨hl,by rw[h];exact hg⟩
def KX.rowB{w0 w:World}{ts:List Tree}{c:Nat}{pre post:List (Nat × Obj)}(hF:FR w0 [] (pre++(its++post)) w)(hS:SlB 36 4 A n c vals its)(h:KX i w (ts.map Na) vals)(hn:aL ts=n):Rep (λ_=>True) w (.slice (ts.map Na)) [.slice A n c] :=
  hS.repOf (λp hp=>⟨hF.memHeap bJ,trivial⟩) h.any (aS hn)
def K6{w0 w:World}{pre post:List (Nat × Obj)}(hF:FR w0 [] (pre++(its++post)) w)(hi:∀x∈i,x∈ids pre\/x∈ids its):∀x∈i,w0.heap.size<=x/\x<w.heap.size:=λx hx=>by
  have:∃q∈pre++(its++post),q.1=x:=by
    rcases hi x hx with h|h
    ·obtain⟨q,hq,e⟩:=nQ.1 h;exact⟨q,by simp[hq],e⟩
    obtain⟨q,hq,e⟩:=nQ.1 h;exact⟨q,by simp[hq],e⟩
  obtain⟨q,hq,rfl⟩:=this;have ho:=hF.own q hq;exact⟨ho.2.elim id (λh=>by cases h),Pa ho.1⟩
theorem HK(t:List Mm)(A:Option Addr)(c:Nat)(S:Nat->Prop)(w0:World)(hX:Rep S w0 (Jd t) [.slice A (aL t) c])(hP:MmsP t)(hG:Gl w0):Calls prog 8 #[.slice A (aL t) c] w0 (Za λv w'=>v=.tuple #[I ((Cm t).1),J (Cm t).2]/\Same [] w0 w'):=by
 have htl:=hP.n;refine Ea func8 ntmps8 ?_;intro hF;refine rn 10<|Ia (Gx t A c S _ (hF.rep hX) hP.ok<|hG.ext hF.same) ?_;rintro w hF -;refine rn 4 ⟨λhc0=>?_,λhc0=>?_⟩;have h0:Tf t=false:=aS hc0
 refine rn 7 ?_;have e:Cm t=([],1):=by unfold Cm;rw[tQ bR]
 rw[e];exact⟨O,hF.same⟩;have h0:Tf t=true:=aS hc0
 refine rn 4<|Ia (LI none 0 0) ?_;rintro w hF -;refine rn 1 ?_;rintro b1 w hb1 hF -;refine rn 11<|Sa (λμ σ w=>∃(j:Nat),∃(AI:Option Addr),∃(cI:Nat),∃(its:List (Nat × Obj)),∃(vals:List Value),μ=aL t-j/\(j<=aL t)/\(SlB 36 4 AI j cI vals its)/\(KX ([b1]++ids its) w (((t.take j).map Fm).map Na) vals)/\AllEq σ [(4,V b1),(11,.slice A (aL t) c),(12,J<|(aL t:Nat)),(13,J<|(j:Int))]/\FR w0 [] ([(b1,.cells #[J 5,I [],aQ,.slice AI j cI] 36)]++(its++[])) w) _ ⟨0,none,0,[],[],O,dZ _,SlB.nil _ _,RepL.nil_mk,Va,hF⟩ ?_;rintro μ σ w ⟨j,AI,cI,its,vals,rfl,hj,hS,hV,hzz,hF⟩;have hLC:∀x∈([b1]++ids its),w0.heap.size<=x/\x<w.heap.size:=K6 (pre:=[_]) hF (by simp[ids]);refine Wf hzz 7 ⟨λhc1=>?_,λhc1=>?_⟩;refine rn 5 ?_;have hjl:j<aL t:=Aa
 refine rn 1 ?_;obtain⟨ad0,q0,hA0,hk0,hx0,hp0⟩:=hX.mm_elem (i:=j) hjl;refine Ba (v:=.pointer<|some<|ad0.add<|j*6) (Ca (i:=(j:Int)) Kf hA0)<|Ba (v:=.agg #[I<|t[j].pr,.bool q0.h,J q0.v.k,I q0.v.t,.slice q0.v.A q0.v.n q0.v.c,.slice q0.v.B q0.v.m q0.v.e]) (Ma (l:=(Lp t[j].pr q0)) isAgg44 sizeOf44 O O<|hF.cells0 hk0) ?_;refine rn 1 ?_;intro b2 w hb2 hF hE;have hV:=hV.ext hE;refine rn 2<|Gb ⟨[13],λwq=>FR w0 [] [(b2,.cells #[I<|t[j].pr,.bool q0.h,J q0.v.k,I q0.v.t,.slice q0.v.A q0.v.n q0.v.c,.slice q0.v.B q0.v.m q0.v.e] 44)] wq,[]⟩ (bQ [0,1,2,3,5,6]<|cQ [4,7,8,9,10,11]<|.free 12<|.act 13 .nil) hF ?_;intro w hF hE;have hV:=hV.ext hE;refine⟨λwq=>FR w0 [] [(b2,.cells #[I<|t[j].pr,.bool q0.h,J q0.v.k,I q0.v.t,.slice q0.v.A q0.v.n q0.v.c,.slice q0.v.B q0.v.m q0.v.e] 44),(b1,.cells #[J 5,I [],aQ,.slice AI j cI] 36)] wq,hF.mid 0 2,?_⟩;refine rn 5 ?_;refine Ga O (v:=.agg (q0.cells).toArray) (λw hC=>Ma (l:=q0.cells) rZ vZ O O<|hC.part 0 1 O O)<|Rc (of_c t[j].pr _) ?_;intro w hF hE;have hV:=hV.ext hE;refine Lk (Ku t[j].sd q0 (λb=>b<w0.heap.size) _ (hF.rep hx0.low)) ?_;rintro _ w ⟨ct,rfl,hW,hE⟩;obtain⟨xw,rfl,-⟩:=Pe hW;have hW:KX ([b1]++ids its) _ [Na<|Ed t[j].sd] xw.cells:=RepL.cons_mk (c2:=[]) (KX.made (i:=([b1]++ids its)) hF hE (K6 (pre:=[_,_]) hF λx hx=>(mQ.1 hx).elim (λh=>.inl (by rw[pQ.1 h];simp[ids])) .inr) hW) RepL.nil_mk;have hV:=hV.ext hE;have hF:=hF.ext hE;refine⟨hF.su,?_⟩;refine rn 1 ?_;intro b3 w hb3 hF hE;have hV:=hV.ext hE;have hW:=hW.ext hE;refine Rc (LI (some ⟨b3,0,none⟩) 2 2) ?_;intro w hF hE;have hV:=hV.ext hE;have hW:=hW.ext hE;refine rn 1 ?_;intro b4 w hb4 hF hE;have hV:=hV.ext hE;have hW:=hW.ext hE;have hIt:=IS (i:=([b1]++ids its)) (g:=b3) hF 1 rfl hp0 hW<|hF.notin 1 rfl λx hx=>(mQ.1 hx).elim (λh=>by rw[pQ.1 h];simp[ids]) (λh=>by unfold ids at h;simp[ids,h])
 refine Uv hS (len':=(j+1)) (ys:=vals++[J 5,I [],aQ,W b3 2 2]) (O) (O) ?_;intro A1 c1 its_1 w hS1_its hF hE hnew;have hsub:∀x∈its.map (·.1),x∈([b1]++ids its):=λx hx=>kZ _ hx;have hV:=(hV.append hIt).grow hE hnew hsub;clear hsub hIt;refine rn 2 ?_;intro w hF hE;have hV:=hV.store hE Da;refine rn 4<|Zb (Wd<|((j+1:Nat):Int)) ?_;refine rn 2 ?_;refine Ha ⟨_,?_,j+1,A1,c1,its_1,vals++[J 5,I [],aQ,W b3 2 2],rfl,Aa,hS1_its,by rw[iQ hjl,jQ,jQ];exact hV.sub zM,Va,hF.su⟩;omega;refine rn 5 ?_;obtain rfl:j=aL t:=Aa
 have hrow:=KX.rowB (pre:=[_]) (its:=its) (post:=[]) (ts:=t.map Fm) hF hS (by rw[List.take_length]at hV;exact hV) Da;have hT:Rep (λ_=>True) _ (Na<|Wh t) [J 5,I [],aQ,.slice AI (aL t) cI]:=Rep.tree_mk (ks:=[]) (xs:=t.map Fm) ⟨Ja,Ja⟩ Da (Rep.nil_slice 0 Aa none) (by rw[Jc];exact hrow);refine Ia (LP (Wh t) (λ_=>True) _ _ hT (hG.ext hF.same) hP.sz hP.mx) ?_;intro w hF hE;have hV:=hV.ext hE;refine rn 7 ?_;have e:Cm t=(Mt<|Zc<|Wh t,Vs<|Zc<|Wh t):=by unfold Cm;rw[uQ h0]
 rw[e];exact⟨O,hF.same⟩
structure Jp (S:Nat->Prop) (w:World) (ex sm:List (Nat × Obj)) (pb:Nat) (s:Str) (p:Ps):Prop where
  parts:∃(A Ar:Option Addr)(c cr:Nat)(sl:List (Nat × Obj))(vals:List Value)(sb:List (Nat × Obj)),sm=(pb,.cells (Qq s Ar cr p A c).toArray 138)::(sl++sb)/\SlB 145 7 A (aL p.nodes) c vals sl/\NdsAt 3 136 p.nodes vals sb/\Rep S w (Le p.rest) [.slice Ar (aL p.rest) cr]
  off:Off S w (ex++sm)
  pw:(ex++sm).Pairwise (λp q=>q.1≠p.1)
  hh:∀q∈ex++sm,w.heap[q.1]? = some q.2
section
variable {S:Nat->Prop}{w w' w0:World}{ex sm sm1 sm' pre post bs_:List (Nat × Obj)}{pb:Nat}{s:Str}{p p':Ps}{E Ds:List Nat}
def Jp.frame(h:Jp S w ex sm pb s p)(h':Jp S w' [] sm' pb s p')(hm:Mc w sm w' sm'):Jp S w' ex sm' pb s p'/\Mc w (ex++sm) w' (ex++sm'):=by
  have hp:=List.pairwise_append.1 h.pw;have hex:∀q∈ex,q.1∉ids sm:=λq hq hi=>by
    obtain⟨r,hr,e⟩:=nQ.1 hi;exact hp.2.2 q hq r hr e
  have hlt:∀q∈ex,q.1<w.heap.size:=λq hq=>Pa<|h.hh q<|List.mem_append_left _ hq;have hheap:∀q∈ex,w'.heap[q.1]? = some q.2:=λq hq=>(hm.same.block q.1 (hlt q hq)<|hex q hq).trans (h.hh q<|List.mem_append_left _ hq);have hx:∀q∈ex,∀r∈sm',r.1≠q.1:=λq hq r hr e=>by
    rcases hm.fresh r hr with h1|h1
    ·have:=hlt q hq;omega
    exact hex q hq<|e▸h1
  refine⟨⟨h'.parts,λx hx1=>⟨(h'.off x hx1).1,λhi=>?_⟩,?_,λq hq=>?_⟩,?_,λq hq=>?_⟩
  ·unfold ids at hi
   rw[jQ]at hi;rcases mQ.1 hi with h1|h1
   ·exact (h.off x hx1).2 (by unfold ids;rw[jQ];exact List.mem_append_left _ h1)
   exact (h'.off x hx1).2 (by simpa[ids]using h1)
  ·exact List.pairwise_append.2 ⟨hp.1,by simpa using h'.pw,λq hq r hr=>hx q hq r hr⟩
  ·rcases mQ.1 hq with h1|h1
   ·exact hheap q h1
   exact h'.hh q (aS h1)
  ·exact hm.same.mono kH
  rcases mQ.1 hq with h1|h1
  ·exact .inr wH
  rcases hm.fresh q h1 with h2|h2
  ·exact .inl h2
  exact .inr (by unfold ids at h2 ⊢;rw[jQ];exact kZ _ h2)
def Jp.ext(h:Jp S w ex sm pb s p)(hE:Same [] w w'):Jp S w' ex sm pb s p:=by
  obtain⟨A,Ar,c,cr,sl,vals,sb,h1,h2,h3,h4⟩:=h.parts;exact⟨⟨A,Ar,c,cr,sl,vals,sb,h1,h2,h3,h4.ext hE⟩,λb hb=>⟨Nat.lt_of_lt_of_le (h.off b hb).1 hE.size,(h.off b hb).2⟩,h.pw,λq hq=>(hE.block q.1 (Pa<|h.hh q hq) Da).trans (h.hh q hq)⟩
def Mc.ext(hE:Same [] w w'):Mc w sm w' sm:=⟨hE.mono Da,λq hq=>.inr<|List.mem_map_of_mem hq⟩
def Mc.trans{w2:World}{sm2:List (Nat × Obj)}(h:Mc w sm w' sm')(h2:Mc w' sm' w2 sm2):Mc w sm w2 sm2:=by
  have hf:∀b∈ids sm',w.heap.size<=b\/b∈ids sm:=λb hb=>by
    obtain⟨q,hq,rfl⟩:=nQ.1 hb;exact h.fresh q hq
  refine⟨⟨h2.same.os.trans h.same.os,h2.same.tape.trans h.same.tape,h2.same.output.trans h.same.output,fQ h.same.size h2.same.size,λb hb hn=>?_⟩,λq hq=>?_⟩
  ·refine (h2.same.block b (Nat.lt_of_lt_of_le hb h.same.size) λhm => ?_).trans (h.same.block b hb hn)
   rcases hf b hm with h1|h1
   ·omega
   exact hn h1
  rcases h2.fresh q hq with h1|h1
  ·exact .inl<|fQ h.same.size h1
  exact hf _ h1
def Jp.head{Ar:Option Addr}{c cr:Nat}(hq:p'.nodes=p.nodes)(hoff:Off S w (ex++(pb,o)::(sl++sb)))(hpw:(ex++(pb,o)::(sl++sb)).Pairwise (λp q=>q.1≠p.1))(hh:∀q∈ex++(pb,o)::(sl++sb),w.heap[q.1]? = some q.2)
    (h1:SlB 145 7 A (aL p.nodes) c vals sl) (h2:NdsAt 3 136 p.nodes vals sb) (hb:w'.heap[pb]? = some (.cells (Qq s Ar cr p' A c).toArray 138)) (hE:Same [pb] w w') (h3:Rep S w' (Le p'.rest) [.slice Ar (aL p'.rest) cr]) :
    ∃sm',Jp S w' ex sm' pb s p'/\Mc w (ex++(pb,o)::(sl++sb)) w' (ex++sm'):=by
  have hids:ids (ex++(pb,Obj.cells (Qq s Ar cr p' A c).toArray 138)::(sl++sb))=ids (ex++(pb,o)::(sl++sb)):=by simp[ids]
  have hpm:pb∈ids (ex++(pb,o)::(sl++sb)):=by simp[ids]
  have hne:∀q∈ex++(sl++sb),q.1≠pb:=λq hq e=>by
    have hp:=List.pairwise_append.1 hpw;rcases mQ.1 hq with h|h
    ·exact hp.2.2 q h (pb,o) aZ e.symm
    exact (List.pairwise_cons.1 hp.2.1).1 q h e
  refine⟨(pb,.cells (Qq s Ar cr p' A c).toArray 138)::(sl++sb),⟨⟨A,Ar,c,cr,sl,vals,sb,rfl,hq▸h1,hq▸h2,h3⟩,?_,?_,?_⟩,hE.mono (by intro b hb _;rw[pQ.1 hb];exact hpm),λq hq=>.inr (by rw[<-hids];exact List.mem_map_of_mem hq)⟩
  ·intro b hb'
   rw[hids];exact⟨Nat.lt_of_lt_of_le (hoff b hb').1 hE.size,(hoff b hb').2⟩
  ·have hp := List.pairwise_append.1 hpw
   have hc:=List.pairwise_cons.1 hp.2.1;exact List.pairwise_append.2 ⟨hp.1,List.pairwise_cons.2 ⟨hc.1,hc.2⟩,λq hq r hr=>by
     rcases oQ.1 hr with rfl|hr
     ·exact hp.2.2 q hq (pb,o) aZ
     exact hp.2.2 q hq r<|iZ _ hr⟩
  intro q hq;have:q=(pb,Obj.cells (Qq s Ar cr p' A c).toArray 138)\/q∈ex++(sl++sb):=by
    rcases mQ.1 hq with h|h
    ·exact .inr<|List.mem_append_left _ h
    rcases oQ.1 h with h|h
    ·exact .inl h
    exact .inr<|kZ _ h
  rcases this with rfl|h
  ·exact hb
  have hm:q∈ex++(pb,o)::(sl++sb):=by
    rcases mQ.1 h with h|h
    ·exact List.mem_append_left _ h
    exact kZ _<|iZ _ h
  exact (hE.block q.1 (Pa<|hh q hm) (by simpa using hne q h)).trans (hh q hm)
def Jr(S:Nat->Prop)(ex:List (Nat × Obj))(sm:List (Nat × Obj))(pb:Nat)(s:Str)(w0:World)(b:Bool)(p:Ps)(v:Value)(w':World):Prop:=v=.bool b/\∃sm',Jp S w' ex sm' pb s p/\Mc w0 (ex++sm) w' (ex++sm')
def Rp(h:Off S w (ex++(pb,o)::sl)):∀b,S b->b≠pb:=λb hb e=>(h b hb).2 (by subst e;simp[ids])
def kind_p(h:Jp S w ex sm pb s p):Calls prog 171 #[V pb] w (Za λv w'=>v=J p.kind/\Same [] w w'):=by
  obtain⟨A,Ar,c,cr,sl,vals,sb,rfl,h1,h2,h3⟩:=h.parts;exact kind_c s p Ar A cr c pb S w (h.hh _<|kZ _ aZ) h3<|Rp h.off
def Es(h:Jp S w ex sm pb s p)(e:Int):Calls prog 114 #[V pb,J e] w (Za λv w'=>Jr S ex sm pb s w false (p.fail (aL s) e) v w'):=by
  obtain⟨A,Ar,c,cr,sl,vals,sb,rfl,h1,h2,h3⟩:=h.parts;have ho:=Rp h.off;refine Gg (fail_c s p Ar A cr c pb S e w (h.hh _<|kZ _ aZ) h3 ho) ?_;rintro v w' ⟨rfl,hb,hE⟩;exact⟨O,Jp.head (p:=p) O h.off h.pw h.hh h1 h2 hb hE<|h3.same hE λb hb hs=>ho b hs (aS hb)⟩
def S7(p:Ps):p.skip.nodes=p.nodes:=by unfold Ps.skip;cases p.rest <;> rfl
def skip_p(h:Jp S w ex sm pb s p)(hr:p.rest≠[]):Calls prog 172 #[V pb] w (Za λv w'=>v=.tuple #[]/\∃sm',Jp S w' ex sm' pb s p.skip/\Mc w (ex++sm) w' (ex++sm')):=by
  obtain⟨A,Ar,c,cr,sl,vals,sb,rfl,h1,h2,h3⟩:=h.parts;have ho:=Rp h.off;obtain⟨t,r,hpr⟩:∃t r,p.rest=t::r:=by cases hp:p.rest with|nil=>exact absurd hp hr|cons t r=>exact⟨t,r,rfl⟩
  refine Gg (ZZ s p Ar A cr c pb S t r w (h.hh _<|kZ _ aZ) h3 ho hpr) ?_;rintro v w' ⟨rfl,Ar',cr',hb,h4,hE⟩;exact⟨O,Jp.head (p:=p) (S7 p) h.off h.pw h.hh h1 h2 hb hE h4⟩
def V3(h:Jp S w ex sm pb s p)(k:Int)(hk:k≠0):Calls prog 232 #[V pb,J k] w (Za λv w'=>Jr S ex sm pb s w (decide (p.kind=k)) (if p.kind=k then p.skip else p) v w'):=by
  obtain⟨A,Ar,c,cr,sl,vals,sb,rfl,h1,h2,h3⟩:=h.parts;have ho:=Rp h.off;refine Gg (takes_c s p Ar A cr c pb S k hk w (h.hh _<|kZ _ aZ) h3 ho) ?_;rintro v w' (⟨hc,rfl,hb,hE⟩|⟨hc,rfl,Ar',cr',hb,h4,hE⟩)
  ·rw[tQ hc]
   exact⟨by rw[fZ hc],Jp.head (p:=p) O h.off h.pw h.hh h1 h2 hb hE<|h3.same hE λb hb hs=>ho b hs (aS hb)⟩
  rw[uQ hc];exact⟨by rw[gZ hc],Jp.head (p:=p) (S7 p) h.off h.pw h.hh h1 h2 hb hE h4⟩
end
def NB(l:List Nd):Prop:=aL l<=4096/\∀x∈l,aL x.kids<aL l/\aL x.pcs=aL x.kids
def Fv(l:List Nd)(n:Nat)(k f t:Int):aL (addKid l n k f t)=aL l:=by
  unfold addKid;cases l[n]? <;> simp
def XI(l:List Nd)(n:Nat)(k f t:Int):(addKid l n k f t).take n=l.take n:=by
  unfold addKid;cases l[n]? with
  | none=>rfl
  | some x=>exact List.take_set_of_le<|gQ _
def P0(l:List Nd)(n t:Nat):aL (setTo l n t)=aL l:=by
  unfold setTo;cases l[n]? <;> simp
def XM(l:List Nd)(n t:Nat):(setTo l n t).take n=l.take n:=by
  unfold setTo;cases l[n]? with
  | none=>rfl
  | some x=>exact List.take_set_of_le<|gQ _
def NB.set(h:NB l)(h1:aL x.kids<aL l)(h2:aL x.pcs=aL x.kids):NB (l.set n x):=by
  refine⟨by rw[List.length_set];exact h.1,λy hy=>?_⟩;rw[List.length_set];rcases List.mem_or_eq_of_mem_set hy with h3|rfl
  ·exact h.2 y h3
  exact⟨h1,h2⟩
def NB.setTo(h:NB l)(n t:Nat):NB (setTo l n t):=by
  unfold Go.Scarf.setTo;cases hx:l[n]? with
  | none=>exact h
  | some x=>exact h.set (h.2 x<|List.mem_of_getElem? hx).1 (h.2 x<|List.mem_of_getElem? hx).2
def NB.addKid(h:NB l)(h':NB l')(hp:l <+: l')(hlt:aL l<aL l')(hn:n<aL l)(k f t:Int):NB (addKid l' n k f t):=by
  unfold Go.Scarf.addKid;cases hx:l'[n]? with
  | none=>exact h'
  | some x =>
    have e:l[n]? = some x:=by
      obtain⟨r,rfl⟩:=hp
      rwa [List.getElem?_append_left hn]at hx
    have h1:=h.2 x<|List.mem_of_getElem? e;exact h'.set (by simp only[dQ,kQ,cZ];omega) (by simp only[dQ,kQ,cZ];omega)
def VJ(h:l <+: l')(hn:n<=aL l):l'.take n=l.take n:=by
  obtain⟨r,rfl⟩:=h;exact List.take_append_of_le_length hn
def pre_of(h:l'.take (aL l)=l):l <+: l':=by rw[<-h];exact List.take_prefix _ _
def NdOk(x:Nd):Prop:=(0<=x.k/\x.k<=6)/\x.f<=65536/\x.t<=65536/\x.kf<=65536/\x.kt<=65536/\(∀j∈x.kids,0<=j/\j<4096)/\∀q∈x.pcs,(0<=q.1/\q.1<=65536)/\0<=q.2/\q.2<=65536
def TkB(x:Tk):Prop:=x.f<=65536/\x.t<=65536
structure NP (p:Ps):Prop where
  nb:NB p.nodes
  nd:∀x∈p.nodes,NdOk x
  tk:∀x∈p.rest,TkB x
  lt:p.lt<=65536
def NP.skip{p:Ps}(h:NP p):NP p.skip:=by
  unfold Ps.skip;cases hr:p.rest with
  | nil=>exact h
  | cons t r =>
    have:=h.tk t bF;exact⟨h.nb,h.nd,λx hx=>h.tk x (by rw[hr];exact iZ _ hx),this.2⟩
def NP.fail{p:Ps}(h:NP p)(n:Nat)(e:Int):NP (p.fail n e):=⟨h.nb,h.nd,h.tk,h.lt⟩
def Zt{p:Ps}(h:NP p)(hn:n<=65536):p.here n<=65536:=by
  unfold Ps.here;cases hr:p.rest with
  | nil=>exact hn
  | cons t r=>exact (h.tk t bF).1
def NdOk.add(h:∀x∈l,NdOk x)(n:Nat){k f t:Int}(h1:0<=k/\k<4096)(h2:0<=f/\f<=65536)(h3:0<=t/\t<=65536):∀x∈addKid l n k f t,NdOk x:=by
  unfold addKid;cases hx:l[n]? with
  | none=>exact h
  | some x =>
    intro y hy;rcases List.mem_or_eq_of_mem_set hy with h4|rfl
    ·exact h y h4
    obtain⟨a1, a2, a3, a4, a5, a6, a7⟩ := h x (List.mem_of_getElem? hx);refine⟨a1,a2,a3,a4,a5,λj hj=>?_,λq hq=>?_⟩
    ·rcases mQ.1 hj with h5|h5
     ·exact a6 j h5
     rw[pQ.1 h5];exact h1
    rcases mQ.1 hq with h5|h5
    ·exact a7 q h5
    rw[pQ.1 h5];exact⟨h2,h3⟩
def NdOk.setTo(h:∀x∈l,NdOk x)(n:Nat){t:Nat}(h1:t<=65536):∀x∈setTo l n t,NdOk x:=by
  unfold Go.Scarf.setTo;cases hx:l[n]? with
  | none=>exact h
  | some x =>
    intro y hy;rcases List.mem_or_eq_of_mem_set hy with h4|rfl
    ·exact h y h4
    obtain⟨a1, a2, a3, a4, a5, a6, a7⟩ := h x (List.mem_of_getElem? hx);exact⟨a1,a2,h1,a4,a5,a6,a7⟩
def RG(k:Int):0<=Tc k/\Tc k<=6:=by unfold Tc;(repeat' split) <;> decide
def P6(kid:Ps × List Str->Bool × Ps × List Str):Prop:=∀st,NP st.1->NP (kid st).2.1/\st.1.nodes <+: (kid st).2.1.nodes/\((kid st).1=true->aL st.1.nodes<aL (kid st).2.1.nodes)
def Jb(p:Ps):p.skip.nodes=p.nodes:=by unfold Ps.skip;cases p.rest <;> rfl
theorem SH{kid:Ps × List Str->Bool × Ps × List Str}(hk:P6 kid){len:Nat}(hlen:len<=65536)(n:Nat)(closing:Int):∀(g:Nat)(st:Ps × List Str),NP st.1->n<aL st.1.nodes ->
    NP (Vi kid len n closing g st).2.1/\(Vi kid len n closing g st).2.1.nodes.take n=st.1.nodes.take n/\aL st.1.nodes<=aL (Vi kid len n closing g st).2.1.nodes
  | 0,(p,had),hb,hn=>by rw[Vi];exact⟨hb,rfl,gQ _⟩
  | g + 1, (p, had), hb, hn => by
    have hb:NP p:=hb;have hn:n<aL p.nodes:=hn;obtain⟨h1,h2,h3⟩:=hk (p,had) hb;have h2:p.nodes <+: (kid (p,had)).2.1.nodes:=h2;have h3:(kid (p,had)).1=true->aL p.nodes<aL (kid (p,had)).2.1.nodes:=h3;rw[Vi];dsimp only;split
    ·exact⟨h1,VJ h2<|Nat.le_of_lt hn,h2.length_le⟩
    rename_i hf
    have h4:=h3 (aS hf);have hh:=Zt h1 hlen;have hpl:p.lt<=65536:=hb.lt;have hpn:aL p.nodes<4096:=by have:=h1.nb.1;omega
    have hN:NP { (kid (p,had)).2.1 with nodes:=addKid (kid (p,had)).2.1.nodes n (aL p.nodes:Int) (p.lt:Int) ((kid (p,had)).2.1.here len:Int) } :=
      ⟨NB.addKid hb.nb h1.nb h2 h4 hn (aL p.nodes:Int) (p.lt:Int) ((kid (p,had)).2.1.here len:Int),NdOk.add h1.nd n ⟨Aa,Aa⟩ ⟨Aa,Aa⟩ ⟨Aa,Aa⟩,h1.tk,h1.lt⟩
    have hT:(addKid (kid (p,had)).2.1.nodes n (aL p.nodes:Int) (p.lt:Int) ((kid (p,had)).2.1.here len:Int)).take n=p.nodes.take n:=by rw[XI];exact VJ h2<|Nat.le_of_lt hn
    have hL:=Fv (kid (p,had)).2.1.nodes n (aL p.nodes:Int) (p.lt:Int) ((kid (p,had)).2.1.here len:Int);have h5:=h2.length_le;split
    ·refine⟨hN.skip, ?_, ?_⟩ <;> rw[Jb]
     ·exact hT
     exact (id ( by show aL p.nodes<=aL (addKid _ _ _ _ _);omega:aL p.nodes<=(addKid (kid (p,had)).2.1.nodes n (aL p.nodes:Int) (p.lt:Int) ((kid (p,had)).2.1.here len:Int)).length))
    split
    ·exact⟨hN.fail _ _,hT,by show aL p.nodes<=aL (addKid _ _ _ _ _);omega⟩
    obtain⟨k1, k2, k3⟩ := SH hk hlen n closing g (Ps.skip { (kid (p, had)).2.1 with nodes := addKid (kid (p, had)).2.1.nodes n (aL p.nodes : Int) (p.lt : Int) ((kid (p, had)).2.1.here len : Int) }, (kid (p, had)).2.2) hN.skip (by rw[Jb];show n<aL (addKid _ _ _ _ _);omega);refine⟨k1,?_,?_⟩
    ·rw[k2,Jb];exact hT
    rw[Jb]at k3;exact fQ (fQ (Nat.le_of_lt h4)<|Nat.le_of_eq hL.symm) k3
def Cy{kid:Ps × List Str->Bool × Ps × List Str}(hk:P6 kid){len:Nat}(hlen:len<=65536)(n:Nat)(closing:Int)(st:Ps × List Str)(hb:NP st.1)(hn:n<aL st.1.nodes) :
    NP (Ec kid len n closing st).2.1/\(Ec kid len n closing st).2.1.nodes.take n=st.1.nodes.take n/\aL st.1.nodes<=aL (Ec kid len n closing st).2.1.nodes:=by
  rw[Ec];split
  ·exact⟨hb.skip,by rw[Jb],by rw[Jb];exact gQ _⟩
  exact SH hk hlen n closing _ st hb hn
def ValOk(val:Nat->Nat->Ps->Bool × Ps):Prop:=∀kf kt p,kf<=65536->kt<=65536->NP p->NP (val kf kt p).2/\p.nodes <+: (val kf kt p).2.nodes/\((val kf kt p).1=true->aL p.nodes<aL (val kf kt p).2.nodes)
def G4{val:Nat->Nat->Ps->Bool × Ps}(h:ValOk val):P6 (λst=>(λx:Bool × Ps=>(x.1,x.2,st.2)) (val 0 0 st.1)):=λst hb=>h 0 0 st.1 Aa Aa hb
def Ut(s:Str){val:Nat->Nat->Ps->Bool × Ps}(h:ValOk val):P6 (Mb s val):=λst hb=>by
  obtain⟨p,had⟩:=st;have hb:NP p:=hb;unfold Mb;dsimp only;split
  ·exact⟨hb.fail _ _,List.prefix_refl _,λe=>wA⟩
  rename_i t r hr
  have ht:=hb.tk t (by rw[show p.rest=t::r from hr];exact aZ);split
  ·exact⟨hb.fail _ _,List.prefix_refl _,λe=>wA⟩
  split
  ·exact⟨hb.fail _ _,List.prefix_refl _,λe=>wA⟩
  split
  ·refine⟨hb.skip.fail _ _, ?_, λe => wA⟩
   show p.nodes <+: p.skip.nodes;rw[Jb];exact List.prefix_refl _
  have := h t.f t.t p.skip.skip ht.1 ht.2 hb.skip.skip;rw[Jb,Jb]at this;exact this
theorem Yf{s:Str}(hs:aL s<=65536):∀d:Nat,ValOk (Wa s d)
  | 0 => λkf kt p _ _ hb => by
    rw[Wa];split <;> exact⟨hb.fail _ _,List.prefix_refl _,λe=>wA⟩
  | d + 1 => λkf kt p hkf hkt hb => by
    have ih:=Yf hs d;rw[Wa];cases hr:p.rest with
    | nil=>exact⟨hb.fail _ _,List.prefix_refl _,λe=>wA⟩
    | cons t rest =>
      have ht:=hb.tk t bF;dsimp only;split
      ·exact⟨hb.fail _ _,List.prefix_refl _,λe=>wA⟩
      split
      ·exact⟨hb.fail _ _,List.prefix_refl _,λe=>wA⟩
      rename_i hk hn
      have hq:NP { p.skip with nodes:=p.nodes++[⟨Tc t.k,t.f,t.t,kf,kt,[],[]⟩] }:=by
        refine⟨⟨by have:=hb.nb.1;simp only[dQ,kQ,cZ];omega,λx hx=>?_⟩,λx hx=>?_,hb.skip.tk,hb.skip.lt⟩
        ·simp only[dQ, kQ, cZ]
         rcases mQ.1 hx with h1|h1
         ·have:=hb.nb.2 x h1;omega
         rw[pQ.1 h1];simp
        rcases mQ.1 hx with h1|h1
        ·exact hb.nd x h1
        rw[pQ.1 h1];exact⟨RG _,ht.1,ht.2,hkf,hkt,Da,Da⟩
      have hpre:∀q:Ps,q.nodes.take (aL p.nodes)=p.nodes->aL p.nodes<aL q.nodes->NP q->NP { q with nodes:=setTo q.nodes (aL p.nodes) q.lt }/\p.nodes <+: setTo q.nodes (aL p.nodes) q.lt/\aL p.nodes<(setTo q.nodes (aL p.nodes) q.lt).length:=λq h1 h2 h3 =>
        ⟨⟨h3.nb.setTo _ _,NdOk.setTo h3.nd _ h3.lt,h3.tk,h3.lt⟩,pre_of (by rw[XM];exact h1),by rw[P0];exact h2⟩
      have hnl:aL p.nodes<aL (p.nodes++[(⟨Tc t.k,t.f,t.t,kf,kt,[],[]⟩:Nd)]):=Da
      have htk:(p.nodes++[(⟨Tc t.k,t.f,t.t,kf,kt,[],[]⟩:Nd)]).take (aL p.nodes)=p.nodes:=List.take_left;split
      ·have := Cy (G4 ih) hs (aL p.nodes) 5 ({ p.skip with nodes := p.nodes ++ [⟨Tc t.k, t.f, t.t, kf, kt, [], []⟩] }, []) hq hnl
       have:=hpre _ (this.2.1.trans htk) (Nat.lt_of_lt_of_le hnl this.2.2) this.1;exact⟨this.1,this.2.1,λ_=>this.2.2⟩
      split
      ·have := Cy (Ut s ih) hs (aL p.nodes) 3 ({ p.skip with nodes := p.nodes ++ [⟨Tc t.k, t.f, t.t, kf, kt, [], []⟩] }, []) hq hnl
       have:=hpre _ (this.2.1.trans htk) (Nat.lt_of_lt_of_le hnl this.2.2) this.1;exact⟨this.1,this.2.1,λ_=>this.2.2⟩
      have := hpre { p.skip with nodes := p.nodes ++ [⟨Tc t.k, t.f, t.t, kf, kt, [], []⟩] } htk hnl hq;exact⟨this.1,this.2.1,λ_=>this.2.2⟩
def Of(p:Ps):p.skip.rest <:+ p.rest:=by
  unfold Ps.skip;cases hr:p.rest with
  | nil=>rw[hr];exact List.suffix_refl _
  | cons t r=>exact List.suffix_cons _ _
def Aw(kid:Ps × List Str->Bool × Ps × List Str):Prop:=∀st,(kid st).2.1.rest <:+ st.1.rest
theorem WA{kid:Ps × List Str->Bool × Ps × List Str}(hk:Aw kid)(len n:Nat)(closing:Int):∀(g:Nat)(st:Ps × List Str),(Vi kid len n closing g st).2.1.rest <:+ st.1.rest
  | 0,(p,had)=>by rw[Vi];exact List.suffix_refl _
  | g + 1, (p, had) => by
    have h:=hk (p,had);rw[Vi];dsimp only;split
    ·exact h
    split
    ·exact (Of _).trans h
    split
    ·exact h
    exact (WA hk len n closing g _).trans ((Of _).trans h)
def Bu{kid:Ps × List Str->Bool × Ps × List Str}(hk:Aw kid)(len n:Nat)(closing:Int)(st:Ps × List Str):(Ec kid len n closing st).2.1.rest <:+ st.1.rest:=by
  rw[Ec];split
  ·exact Of _
  exact WA hk len n closing _ st
def UN(val:Nat->Nat->Ps->Bool × Ps):Prop:=∀kf kt p,(val kf kt p).2.rest <:+ p.rest
def My{val:Nat->Nat->Ps->Bool × Ps}(h:UN val):Aw (λst=>(λx:Bool × Ps=>(x.1,x.2,st.2)) (val 0 0 st.1)):=λst=>h 0 0 st.1
def Tq(s:Str){val:Nat->Nat->Ps->Bool × Ps}(h:UN val):Aw (Mb s val):=λst=>by
  obtain⟨p,had⟩:=st;unfold Mb;dsimp only;split
  ·exact List.suffix_refl _
  split
  ·exact List.suffix_refl _
  split
  ·exact List.suffix_refl _
  split
  ·exact Of p
  exact (h _ _ _).trans ((Of _).trans (Of _))
theorem Gi(s:Str):∀d:Nat,UN (Wa s d)
  | 0=>λkf kt p=>by rw[Wa];split <;> exact List.suffix_refl _
  | d + 1 => λkf kt p => by
    have ih:=Gi s d;rw[Wa];cases hr:p.rest with
    | nil=>show p.rest <:+ [];rw[hr];exact List.suffix_refl _
    | cons t rest =>
      dsimp only;rw[<-hr];split
      ·exact List.suffix_refl _
      split
      ·exact List.suffix_refl _
      split
      ·exact (Bu (My ih) _ _ _ _).trans (Of p)
      split
      ·exact (Bu (Tq s ih) _ _ _ _).trans (Of p)
      exact Of p
def BP(s:Str)(A:Option Addr)(n c f t:Nat)(w0:World):Calls prog 116 #[.agg #[I s,.slice A n c],.agg #[J (f:Nat),J (t:Nat)]] w0 (Za λv w'=>v=I (Ya s f t)/\Same [] w0 w'):=by
 refine Ea func116 ntmps116 ?_;intro hF;refine rn 3 ?_;rintro b1 w hb1 hF -;refine rn 1 ?_;rintro b2 w hb2 hF -;refine rn 11 ⟨λhg0=>?_,λhg0=>?_⟩;refine rn 23 ?_
 first|exact⟨by rw[Ya,tQ Aa],hF.same⟩|exact⟨by rw[Ya,uQ ⟨Aa,Aa⟩],hF.same⟩|(exfalso;omega)
 refine rn 8 ⟨λhg1=>?_,λhg1=>?_⟩;refine rn 16 ?_
 first|exact⟨by rw[Ya,tQ Aa],hF.same⟩|exact⟨by rw[Ya,uQ ⟨Aa,Aa⟩],hF.same⟩|(exfalso;omega)
 refine rn 10 ⟨λhc0=>?_,λhc0=>?_⟩;refine rn 6 ?_
 first|exact⟨by rw[Ya,tQ Aa],hF.same⟩|exact⟨by rw[Ya,uQ ⟨Aa,Aa⟩],hF.same⟩|(exfalso;omega)
 refine rn 10<|Ba (v:=I<|(s.take t).drop f) (Eh f t jX O O O Aa Aa) ?_;refine rn 4 ?_
 first|exact⟨by rw[Ya,tQ Aa],hF.same⟩|exact⟨by rw[Ya,uQ ⟨Aa,Aa⟩],hF.same⟩|(exfalso;omega)
theorem textR_c(k:Int)(s:Str)(hU:k=4->UniC s)(hl:aL s<=1000000000)(w0:World)(hG:Gl w0):Calls prog 115 #[J k,I s] w0 (Za λv w'=>v=I (Tg k s)/\Same [] w0 w'):=by
 refine Ea func115 ntmps115 ?_;intro hF;refine rn 19 ⟨λhc0=>?_,λhc0=>?_⟩;refine rn 7 ?_;exact⟨by unfold Tg;simp_all,hF.same⟩;refine rn 7 ⟨λhc1=>?_,λhc1=>?_⟩;refine rn 3<|Ia (Ly s Aa) ?_;rintro w hF -;refine rn 4 ?_;rintro b1 w hb1 hF -;refine rn 6 ?_;refine Ia (TE (Wb s).1 kY _<|hG.ext hF.same) ?_;rintro w hF -;refine rn 4 ?_;exact⟨by unfold Tg;simp_all,hF.same⟩;refine rn 7 ⟨λhc2=>?_,λhc2=>?_⟩;refine rn 3<|Ia (Zy s (hU hc2) Aa _<|hG.ext hF.same) ?_;rintro w hF -;refine rn 16 ?_;exact⟨by unfold Tg;simp_all,hF.same⟩;refine rn 9 ?_;exact⟨by unfold Tg;simp_all,hF.same⟩
section
variable {S:Nat->Prop}{w w' w0:World}{ex sm sm1 sm' pre post bs_:List (Nat × Obj)}{pb:Nat}{s:Str}{p p':Ps}{E Ds:List Nat}
def Cx{α:Type}{l x:List α}(h:l.take k=x):l=x++l.drop k:=by rw[<-h,List.take_append_drop]
def Jp.open_(h:Jp S w ex sm pb s p)(hn:n<aL p.nodes):∃(Ar:Option Addr)(cr g c:Nat)(v1 v2 junk:List Value)(K Q:Option Addr)(kc qc:Nat)(s1 sk sq s2:List (Nat × Obj)),
    sm=(pb,.cells (Qq s Ar cr p (some ⟨g,0,none⟩) c).toArray 138)::((g,.cells (v1++(Ai p.nodes[n] K kc Q qc++(v2++junk))).toArray 145)::(s1++(sk++(sq++s2))))/\aL v1=n*7/\NdsAt 3 136 (p.nodes.take n) v1 s1 /\
    SlB 3 1 K (aL p.nodes[n].kids) kc (p.nodes[n].kids.map (Value.int .i64)) sk/\SlB 136 2 Q (aL p.nodes[n].pcs) qc (NK p.nodes[n].pcs) sq/\NdsAt 3 136 (p.nodes.drop (n+1)) v2 s2 /\
    (aL p.nodes)<=c/\c<=maxLen/\aL (v1++(Ai p.nodes[n] K kc Q qc++(v2++junk)))=c*7/\Rep S w (Le p.rest) [.slice Ar (aL p.rest) cr]:=by
  obtain⟨A,Ar,c,cr,sl,vals,sb,rfl,h1,h2,h3⟩:=h.parts;obtain⟨K,Q,kc,qc,v1,v2,s1,sk,sq,s2,rfl,rfl,g1,g2,g3,g4⟩:=h2.split hn;rcases h1.2 with ⟨h0,-,-⟩|⟨g,cur,rfl,rfl,h4,h5,h6,h7⟩
  ·omega
  have e:cur.toList=v1++(Ai p.nodes[n] K kc Q qc++(v2++cur.toList.drop (aL p.nodes*7))):=by
    have:=Cx h7;rw[sQ,sQ]at this;exact this
  have ec:cur=(v1++(Ai p.nodes[n] K kc Q qc++(v2++cur.toList.drop (aL p.nodes*7)))).toArray:=by rw[<-e]
  refine⟨Ar,cr,g,c,v1,v2,cur.toList.drop<|aL p.nodes*7,K,Q,kc,qc,s1,sk,sq,s2,by rw[<-ec];rfl,?_,g1,g2,g3,g4,h4,h5,?_,h3⟩
  ·have := g1.len
   rw[this,jZ];congr 1;omega
  rw[<-e];simpa using h6
def Ss(hn:n<aL l){c:Nat}{v2 junk:List Value}{s1 s2:List (Nat × Obj)}(hv1:aL v1=n*7)(g1:NdsAt 3 136 (l.take n) v1 s1)(g2:SlB 3 1 K (aL x.kids) kc (x.kids.map (Value.int .i64)) sk)(g3:SlB 136 2 Q (aL x.pcs) qc (NK x.pcs) sq)
    (g4:NdsAt 3 136 (l.drop (n+1)) v2 s2) (hc:aL l<=c) (hm:c<=maxLen) (hlen:aL (v1++(Ai x K kc Q qc++(v2++junk)))=c*7) :
    SlB 145 7 (some ⟨g,0,none⟩) (aL (l.set n x)) c (v1++(Ai x K kc Q qc++v2)) [(g,.cells (v1++(Ai x K kc Q qc++(v2++junk))).toArray 145)]/\NdsAt 3 136 (l.set n x) (v1++(Ai x K kc Q qc++v2)) (s1++(sk++(sq++s2))):=by
  have hN:=nds_join hn g1 g2 g3 g4;refine⟨⟨hN.len,.inr ⟨g,_,O,O,by rw[List.length_set];exact hc,hm,by simpa using hlen,?_⟩⟩,hN⟩;rw[<-hN.len];rw[show v1++(Ai x K kc Q qc++(v2++junk))=(v1++(Ai x K kc Q qc++v2))++junk from by simp[sQ],List.take_left]
def L4{T:Nat}(hh:w.heap[g]? = some (.cells (v1++(nd++po)).toArray T))(hv1:aL v1=n*7)(hk:nd[k]? = some v):w.cell? ⟨g,n*7+k,none⟩=some v:=by
  rw[Db hh,List.getElem?_toArray,<-hv1,List.getElem?_append_right Aa,Nat.add_sub_cancel_left,List.getElem?_append_left (List.getElem?_eq_some_iff.1 hk).1];exact hk
def O0{nd':List Value}(hv1:aL v1=n*7)(hk:k<aL nd)(hs:nd.set k v=nd'):putA (v1++(nd++po)).toArray (n*7+k) [v]=(v1++(nd'++po)).toArray:=by
  subst hs;rw[Fs];rw[<-hv1,List.set_append_right _ _ Aa,Nat.add_sub_cancel_left,List.set_append_left _ _ hk]
theorem Jp.toFrame(h:Jp S w ex sm pb s p)(hM:Mc w0 sm0 w (ex++sm)):FR w0 (ids sm0) (ex++sm) w:=⟨hM.same,λq hq=>⟨h.hh q hq,hM.fresh q hq⟩,h.pw⟩
def Jp.ofFrame{own:List (Nat × Obj)}(hF:FR w0 (ids sm0) bs_ w)(h0:Off S w0 sm0)(hp:bs_.Perm (own++(ex++sm)))(hparts:∃(A Ar:Option Addr) (c cr:Nat) (sl:List (Nat × Obj)) (vals:List Value) (sb:List (Nat × Obj)),sm=(pb,.cells (Qq s Ar cr p A c).toArray 138)::(sl++sb)/\SlB 145 7 A (aL p.nodes) c vals sl/\NdsAt 3 136 p.nodes vals sb/\Rep S w (Le p.rest) [.slice Ar (aL p.rest) cr]) :
    Jp S w ex sm pb s p/\Mc w0 sm0 w (ex++sm):=by
  have hF2:=hF.perm hp.symm;have hd:=List.pairwise_append.1 hF2.desc;refine⟨⟨hparts,λb hb=>⟨Nat.lt_of_lt_of_le (h0 b hb).1 hF.same.size,λhm=>?_⟩,hd.2.1,λq hq=>(hF2.own q<|kZ _ hq).1⟩,hF.same,λq hq=>(hF2.own q<|kZ _ hq).2⟩;obtain⟨q,hq,rfl⟩:=nQ.1 hm;rcases (hF2.own q<|kZ _ hq).2 with h3|h3
  ·have:=(h0 _ hb).1;omega
  exact (h0 _ hb).2 h3
end
def spD(q:Int × Int):D:=.agg [Lg q.1,Lg q.2]
def ndD(x:Nd):D:=.agg [Lg x.k,.agg [Lg (x.f:Nat),Lg (x.t:Nat)],.agg [Lg (x.kf:Nat),Lg (x.kt:Nat)],.slice (x.kids.map Lg),.slice (x.pcs.map spD)]
section
variable {S:Nat->Prop}{w:World}
def okI(h1:-1000000000000<=z)(h2:z<=1000000000000):N2 (J z):=⟨by show (-9223372036854775808:Int)<=_;omega,by show _<=(9223372036854775807:Int);omega⟩
def Vl(h1:-1000000000000<=z)(h2:z<=1000000000000):Rep S w (Lg z) [J z]:=Rep.lit_mk (okI h1 h2)
theorem EB:∀l:List Int,(∀j∈l,-1000000000000<=j/\j<=1000000000000)->RepL S w (l.map Lg) (l.map (Value.int .i64))
  | [],_=>RepL.nil_mk
  | z::l,h=>RepL.cons_mk (c1:=[J z]) (Vl (h z aZ).1 (h z aZ).2)<|EB l λj hj=>h j<|iZ _ hj
theorem AP:∀l:List (Int × Int),(∀q∈l,(-1000000000000<=q.1/\q.1<=1000000000000)/\-1000000000000<=q.2/\q.2<=1000000000000)->RepL S w (l.map spD) (NK l)
  | [],_=>RepL.nil_mk
  | q :: l, h => by
    have h1:=h q aZ;exact RepL.cons_mk (c1:=[J q.1,J q.2]) (Rep.agg_mk<|RepL.cons_mk (c1:=[J q.1]) (Vl h1.1.1 h1.1.2)<|RepL.cons_mk (c1:=[J q.2]) (c2:=[]) (Vl h1.2.1 h1.2.2) RepL.nil_mk)<|AP l λj hj=>h j<|iZ _ hj
def nd_rep(hx:NdOk x)(hk:SlB 3 1 K (aL x.kids) kc (x.kids.map (Value.int .i64)) sk)(hq:SlB 136 2 Q (aL x.pcs) qc (NK x.pcs) sq)(h1:∀p∈sk,w.heap[p.1]? = some p.2/\S p.1)(h2:∀p∈sq,w.heap[p.1]? = some p.2/\S p.1):Rep S w (ndD x) (Ai x K kc Q qc):=by
  obtain⟨a1,a2,a3,a4,a5,a6,a7⟩:=hx;refine Rep.agg_mk (RepL.cons_mk (c1:=[_]) (c2:=[_,_,_,_,_,_]) (Vl Aa Aa) (RepL.cons_mk (c1:=[_,_]) (c2:=[_,_,_,_]) (Rep.agg_mk<|RepL.cons_mk (c1:=[_]) (c2:=[_]) (Vl Aa Aa)<|RepL.cons_mk (c1:=[_]) (c2:=[]) (Vl Aa Aa) RepL.nil_mk)
    (RepL.cons_mk (c1:=[_,_]) (c2:=[_,_]) (Rep.agg_mk<|RepL.cons_mk (c1:=[_]) (c2:=[_]) (Vl Aa Aa)<|RepL.cons_mk (c1:=[_]) (c2:=[]) (Vl Aa Aa) RepL.nil_mk)
      (RepL.cons_mk (c1:=[_]) (c2:=[_]) (hk.repOf h1 (EB _ λj hj=>by have:=a6 j hj;omega) Da)<|RepL.cons_mk (c1:=[_]) (c2:=[]) (hq.repOf h2 (AP _ λq hq'=>by have:=a7 q hq';omega) Da) RepL.nil_mk))))
def nds_rep(h:NdsAt 3 136 l vs sb)(hok:∀x∈l,NdOk x)(hb:∀p∈sb,w.heap[p.1]? = some p.2/\S p.1):RepL S w (l.map ndD) vs:=by
  induction h with
  | nil=>exact RepL.nil_mk
  | cons hk hq _ ih =>
    exact RepL.cons_mk (nd_rep (hok _ aZ) hk hq (λp hp=>hb p bJ) λp hp=>hb p bJ)<|ih (λy hy=>hok y<|iZ _ hy) λp hp=>hb p bJ
def FD(h:Rep S w (ndD x) cs):∃K kc Q qc,cs=Ai x K kc Q qc/\Rep S w (.slice (x.kids.map Lg)) [.slice K (aL x.kids) kc]/\Rep S w (.slice (x.pcs.map spD)) [.slice Q (aL x.pcs) qc]:=by
  obtain⟨_,_,rfl,h1,h⟩:=RepL.cons_inv<|Rep.agg_inv h;obtain⟨_,_,rfl,h2,h⟩:=RepL.cons_inv h;obtain⟨_,_,rfl,h3,h⟩:=RepL.cons_inv h;obtain⟨_,_,rfl,h4,h⟩:=RepL.cons_inv h;obtain⟨_,_,rfl,h5,h⟩:=RepL.cons_inv h;obtain rfl:=RepL.nil_inv h;obtain⟨_,_,rfl,h6,h2⟩:=RepL.cons_inv<|Rep.agg_inv h2;obtain⟨_,_,rfl,h7,h2⟩:=RepL.cons_inv h2;obtain rfl:=RepL.nil_inv h2;obtain⟨_,_,rfl,h8,h3⟩:=RepL.cons_inv<|Rep.agg_inv h3;obtain⟨_,_,rfl,h9,h3⟩:=RepL.cons_inv h3;obtain rfl:=RepL.nil_inv h3;obtain⟨K,kc,rfl,-⟩:=Rep.slice_inv h4;obtain⟨Q,qc,rfl,-⟩:=Rep.slice_inv h5;simp only[rQ]at h4 h5;simp only[Lg,Rep]at h1 h6 h7 h8 h9;obtain⟨rfl,-⟩:=h1;obtain⟨rfl,-⟩:=h6;obtain⟨rfl,-⟩:=h7;obtain⟨rfl,-⟩:=h8;obtain⟨rfl,-⟩:=h9;exact⟨K,kc,Q,qc,by simp[Ai],h4,h5⟩
def NdsAt.soft(h:NdsAt 3 136 l vs sb):∀q∈sb,∃cs T,q.2=.cells cs T:=by
  induction h with
  | nil=>intro q hq;cases hq
  | cons hk hq _ ih =>
    intro q hm;rcases mQ.1 hm with h1|h1
    ·obtain⟨cur,e⟩:=hk.typ1.2 q h1;exact⟨_,_,e⟩
    rcases mQ.1 h1 with h2|h2
    ·obtain⟨cur,e⟩:=hq.typ1.2 q h2;exact⟨_,_,e⟩
    exact ih q h2
def Jp.soft{ex sm:List (Nat × Obj)}{pb:Nat}{s:Str}{p:Ps}(h:Jp S w ex sm pb s p):∀q∈sm,∃cs T,q.2=.cells cs T:=by
  obtain⟨A,Ar,c,cr,sl,vals,sb,rfl,h1,h2,-⟩:=h.parts;intro q hq;rcases oQ.1 hq with rfl|hq
  ·exact⟨_,_,O⟩
  rcases mQ.1 hq with h3|h3
  ·obtain⟨cur,e⟩:=h1.typ1.2 q h3;exact⟨_,_,e⟩
  exact h2.soft q h3
end
end Go.Scarf
