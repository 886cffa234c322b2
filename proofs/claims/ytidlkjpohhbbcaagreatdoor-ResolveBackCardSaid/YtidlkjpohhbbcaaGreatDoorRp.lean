/- A part of the proof. -/
import Derived.Test.YtidlkjpohhbbcaaGreatDoorRe10
set_option linter.all false
set_option maxHeartbeats 8000000
set_option maxRecDepth 10000
namespace Go.Scarf
def NB(l:List Nd):Prop:=l.length<=4096/\∀x∈l,x.kids.length<l.length/\x.pcs.length=x.kids.length
theorem Gx(l:List Nd)(n:Nat)(k f t:Int):(addKid l n k f t).length=l.length:=by
  unfold addKid;cases l[n]? <;> simp
theorem NJ(l:List Nd)(n:Nat)(k f t:Int):(addKid l n k f t).take n=l.take n:=by
  unfold addKid;cases l[n]? with
  | none=>rfl
  | some x=>exact List.take_set_of_le (gQ _)
theorem Ev(l:List Nd)(n t:Nat):(setTo l n t).length=l.length:=by
  unfold setTo;cases l[n]? <;> simp
theorem LK(l:List Nd)(n t:Nat):(setTo l n t).take n=l.take n:=by
  unfold setTo;cases l[n]? with
  | none=>rfl
  | some x=>exact List.take_set_of_le (gQ _)
theorem NB.set{l:List Nd}(h:NB l){n:Nat}{x:Nd}(h1:x.kids.length<l.length)(h2:x.pcs.length=x.kids.length):NB (l.set n x):=by
  refine⟨by rw[List.length_set];exact h.1,λy hy=>?_⟩;rw[List.length_set];rcases List.mem_or_eq_of_mem_set hy with h3|rfl
  ·exact h.2 y h3
  exact⟨h1,h2⟩
theorem NB.setTo{l:List Nd}(h:NB l)(n t:Nat):NB (setTo l n t):=by
  unfold Go.Scarf.setTo;cases hx:l[n]? with
  | none=>exact h
  | some x=>exact h.set (h.2 x (List.mem_of_getElem? hx)).1 (h.2 x (List.mem_of_getElem? hx)).2
theorem NB.addKid{l l':List Nd}(h:NB l)(h':NB l')(hp:l <+: l')(hlt:l.length<l'.length){n:Nat}(hn:n<l.length)(k f t:Int):NB (addKid l' n k f t):=by
  unfold Go.Scarf.addKid;cases hx:l'[n]? with
  | none=>exact h'
  | some x =>
    have e:l[n]? = some x:=by
      obtain⟨r,rfl⟩:=hp
      rwa [List.getElem?_append_left hn]at hx
    have h1:=h.2 x (List.mem_of_getElem? e);exact h'.set (by simp only[dQ,kQ,List.length_nil];omega) (by simp only[dQ,kQ,List.length_nil];omega)
theorem MI{l l':List Nd}(h:l <+: l'){n:Nat}(hn:n<=l.length):l'.take n=l.take n:=by
  obtain⟨r,rfl⟩:=h;exact List.take_append_of_le_length hn
theorem LV{l l':List Nd}(h:l'.take l.length=l):l <+: l':=by rw[<-h];exact List.take_prefix _ _
def NdOk(x:Nd):Prop:=(0<=x.k/\x.k<=6)/\x.f<=65536/\x.t<=65536/\x.kf<=65536/\x.kt<=65536/\(∀j∈x.kids,0<=j/\j<4096)/\∀q∈x.pcs,(0<=q.1/\q.1<=65536)/\0<=q.2/\q.2<=65536
def TkB(x:Tk):Prop:=x.f<=65536/\x.t<=65536
structure NP (p:Ps):Prop where
  nb:NB p.nodes
  nd:∀x∈p.nodes,NdOk x
  tk:∀x∈p.rest,TkB x
  lt:p.lt<=65536
theorem NP.skip{p:Ps}(h:NP p):NP p.skip:=by
  unfold Ps.skip;cases hr:p.rest with
  | nil=>exact h
  | cons t r =>
    have:=h.tk t (by rw[hr];exact List.mem_cons_self);exact⟨h.nb,h.nd,λx hx=>h.tk x (by rw[hr];exact List.mem_cons_of_mem _ hx),this.2⟩
theorem NP.fail{p:Ps}(h:NP p)(n:Nat)(e:Int):NP (p.fail n e):=⟨h.nb,h.nd,h.tk,h.lt⟩
theorem BP{p:Ps}(h:NP p){n:Nat}(hn:n<=65536):p.here n<=65536:=by
  unfold Ps.here;cases hr:p.rest with
  | nil=>exact hn
  | cons t r=>exact (h.tk t (by rw[hr];exact List.mem_cons_self)).1
theorem NdOk.add{l:List Nd}(h:∀x∈l,NdOk x)(n:Nat){k f t:Int}(h1:0<=k/\k<4096)(h2:0<=f/\f<=65536)(h3:0<=t/\t<=65536):∀x∈addKid l n k f t,NdOk x:=by
  unfold addKid;cases hx:l[n]? with
  | none=>exact h
  | some x =>
    intro y hy;rcases List.mem_or_eq_of_mem_set hy with h4|rfl
    ·exact h y h4
    obtain⟨a1, a2, a3, a4, a5, a6, a7⟩ := h x (List.mem_of_getElem? hx);refine⟨a1,a2,a3,a4,a5,λj hj=>?_,λq hq=>?_⟩
    ·rcases mQ.1 hj with h5|h5
     ·exact a6 j h5
     rw[pQ.1 h5];exact h1
    rcases mQ.1 hq with h5|h5
    ·exact a7 q h5
    rw[pQ.1 h5];exact⟨h2,h3⟩
theorem NdOk.setTo{l:List Nd}(h:∀x∈l,NdOk x)(n:Nat){t:Nat}(h1:t<=65536):∀x∈setTo l n t,NdOk x:=by
  unfold Go.Scarf.setTo;cases hx:l[n]? with
  | none=>exact h
  | some x =>
    intro y hy;rcases List.mem_or_eq_of_mem_set hy with h4|rfl
    ·exact h y h4
    obtain⟨a1, a2, a3, a4, a5, a6, a7⟩ := h x (List.mem_of_getElem? hx);exact⟨a1,a2,h1,a4,a5,a6,a7⟩
theorem XH(k:Int):0<=Kd k/\Kd k<=6:=by unfold Kd;(repeat' split) <;> decide
def T6(kid:Ps × List Str->Bool × Ps × List Str):Prop:=∀st,NP st.1->NP (kid st).2.1/\st.1.nodes <+: (kid st).2.1.nodes/\((kid st).1=true->st.1.nodes.length<(kid st).2.1.nodes.length)
theorem Fd(p:Ps):p.skip.nodes=p.nodes:=by unfold Ps.skip;cases p.rest <;> rfl
theorem EG{kid:Ps × List Str->Bool × Ps × List Str}(hk:T6 kid){len:Nat}(hlen:len<=65536)(n:Nat)(closing:Int):∀(g:Nat)(st:Ps × List Str),NP st.1->n<st.1.nodes.length ->
    NP (Oj kid len n closing g st).2.1/\(Oj kid len n closing g st).2.1.nodes.take n=st.1.nodes.take n/\st.1.nodes.length<=(Oj kid len n closing g st).2.1.nodes.length
  | 0,(p,had),hb,hn=>by rw[Oj];exact⟨hb,rfl,gQ _⟩
  | g + 1, (p, had), hb, hn => by
    have hb:NP p:=hb;have hn:n<p.nodes.length:=hn;obtain⟨h1,h2,h3⟩:=hk (p,had) hb;have h2:p.nodes <+: (kid (p,had)).2.1.nodes:=h2;have h3:(kid (p,had)).1=true->p.nodes.length<(kid (p,had)).2.1.nodes.length:=h3;rw[Oj];dsimp only;split
    ·exact⟨h1,MI h2 (Nat.le_of_lt hn),h2.length_le⟩
    rename_i hf
    have h4:=h3 (by simpa using hf);have hh:=BP h1 hlen;have hpl:p.lt<=65536:=hb.lt;have hpn:p.nodes.length<4096:=by have:=h1.nb.1;omega
    have hN:NP { (kid (p,had)).2.1 with nodes:=addKid (kid (p,had)).2.1.nodes n (p.nodes.length:Int) (p.lt:Int) ((kid (p,had)).2.1.here len:Int) } :=
      ⟨NB.addKid hb.nb h1.nb h2 h4 hn (p.nodes.length:Int) (p.lt:Int) ((kid (p,had)).2.1.here len:Int),NdOk.add h1.nd n ⟨by omega,by omega⟩ ⟨by omega,by omega⟩ ⟨by omega,by omega⟩,h1.tk,h1.lt⟩
    have hT:(addKid (kid (p,had)).2.1.nodes n (p.nodes.length:Int) (p.lt:Int) ((kid (p,had)).2.1.here len:Int)).take n=p.nodes.take n:=by rw[NJ];exact MI h2 (Nat.le_of_lt hn)
    have hL:=Gx (kid (p,had)).2.1.nodes n (p.nodes.length:Int) (p.lt:Int) ((kid (p,had)).2.1.here len:Int);have h5:=h2.length_le;split
    ·refine⟨hN.skip, ?_, ?_⟩ <;> rw[Fd]
     ·exact hT
     exact (id ( by show p.nodes.length<=(addKid _ _ _ _ _).length;omega:p.nodes.length<=(addKid (kid (p,had)).2.1.nodes n (p.nodes.length:Int) (p.lt:Int) ((kid (p,had)).2.1.here len:Int)).length))
    split
    ·exact⟨hN.fail _ _,hT,by show p.nodes.length<=(addKid _ _ _ _ _).length;omega⟩
    obtain⟨k1, k2, k3⟩ := EG hk hlen n closing g (Ps.skip { (kid (p, had)).2.1 with nodes := addKid (kid (p, had)).2.1.nodes n (p.nodes.length : Int) (p.lt : Int) ((kid (p, had)).2.1.here len : Int) }, (kid (p, had)).2.2) hN.skip (by rw[Fd];show n<(addKid _ _ _ _ _).length;omega);refine⟨k1,?_,?_⟩
    ·rw[k2,Fd];exact hT
    rw[Fd]at k3;exact fQ (fQ (Nat.le_of_lt h4) (Nat.le_of_eq hL.symm)) k3
theorem It{kid:Ps × List Str->Bool × Ps × List Str}(hk:T6 kid){len:Nat}(hlen:len<=65536)(n:Nat)(closing:Int)(st:Ps × List Str)(hb:NP st.1)(hn:n<st.1.nodes.length) :
    NP (Qd kid len n closing st).2.1/\(Qd kid len n closing st).2.1.nodes.take n=st.1.nodes.take n/\st.1.nodes.length<=(Qd kid len n closing st).2.1.nodes.length:=by
  rw[Qd];split
  ·exact⟨hb.skip,by rw[Fd],by rw[Fd];exact gQ _⟩
  exact EG hk hlen n closing _ st hb hn
def HV(val:Nat->Nat->Ps->Bool × Ps):Prop:=∀kf kt p,kf<=65536->kt<=65536->NP p->NP (val kf kt p).2/\p.nodes <+: (val kf kt p).2.nodes/\((val kf kt p).1=true->p.nodes.length<(val kf kt p).2.nodes.length)
theorem Vv{val:Nat->Nat->Ps->Bool × Ps}(h:HV val):T6 (λst=>(λx:Bool × Ps=>(x.1,x.2,st.2)) (val 0 0 st.1)):=λst hb=>h 0 0 st.1 Aa Aa hb
theorem Mv(s:Str){val:Nat->Nat->Ps->Bool × Ps}(h:HV val):T6 (Jd s val):=λst hb=>by
  obtain⟨p,had⟩:=st;have hb:NP p:=hb;unfold Jd;dsimp only;split
  ·exact⟨hb.fail _ _,List.prefix_refl _,λe=>(by cases e)⟩
  rename_i t r hr
  have ht:=hb.tk t (by rw[show p.rest=t::r from hr];exact List.mem_cons_self);split
  ·exact⟨hb.fail _ _,List.prefix_refl _,λe=>(by cases e)⟩
  split
  ·exact⟨hb.fail _ _,List.prefix_refl _,λe=>(by cases e)⟩
  split
  ·refine⟨hb.skip.fail _ _, ?_, λe => (by cases e)⟩
   show p.nodes <+: p.skip.nodes;rw[Fd];exact List.prefix_refl _
  have := h t.f t.t p.skip.skip ht.1 ht.2 hb.skip.skip;rw[Fd,Fd]at this;exact this
theorem Xg{s:Str}(hs:s.length<=65536):∀d:Nat,HV (Zb s d)
  | 0 => λkf kt p _ _ hb => by
    rw[Zb];split <;> exact⟨hb.fail _ _,List.prefix_refl _,λe=>(by cases e)⟩
  | d + 1 => λkf kt p hkf hkt hb => by
    have ih:=Xg hs d;rw[Zb];cases hr:p.rest with
    | nil=>exact⟨hb.fail _ _,List.prefix_refl _,λe=>(by cases e)⟩
    | cons t rest =>
      have ht:=hb.tk t (by rw[hr];exact List.mem_cons_self);dsimp only;split
      ·exact⟨hb.fail _ _,List.prefix_refl _,λe=>(by cases e)⟩
      split
      ·exact⟨hb.fail _ _,List.prefix_refl _,λe=>(by cases e)⟩
      rename_i hk hn
      have hq:NP { p.skip with nodes:=p.nodes++[⟨Kd t.k,t.f,t.t,kf,kt,[],[]⟩] }:=by
        refine⟨⟨by have:=hb.nb.1;simp only[dQ,kQ,List.length_nil];omega,λx hx=>?_⟩,λx hx=>?_,hb.skip.tk,hb.skip.lt⟩
        ·simp only[dQ, kQ, List.length_nil]
         rcases mQ.1 hx with h1|h1
         ·have:=hb.nb.2 x h1;omega
         rw[pQ.1 h1];simp
        rcases mQ.1 hx with h1|h1
        ·exact hb.nd x h1
        rw[pQ.1 h1];exact⟨XH _,ht.1,ht.2,hkf,hkt,by simp,by simp⟩
      have hpre:∀q:Ps,q.nodes.take p.nodes.length=p.nodes->p.nodes.length<q.nodes.length->NP q->NP { q with nodes:=setTo q.nodes p.nodes.length q.lt }/\p.nodes <+: setTo q.nodes p.nodes.length q.lt/\p.nodes.length<(setTo q.nodes p.nodes.length q.lt).length:=λq h1 h2 h3 =>
        ⟨⟨h3.nb.setTo _ _,NdOk.setTo h3.nd _ h3.lt,h3.tk,h3.lt⟩,LV (by rw[LK];exact h1),by rw[Ev];exact h2⟩
      have hnl:p.nodes.length<(p.nodes++[(⟨Kd t.k,t.f,t.t,kf,kt,[],[]⟩:Nd)]).length:=by simp
      have htk:(p.nodes++[(⟨Kd t.k,t.f,t.t,kf,kt,[],[]⟩:Nd)]).take p.nodes.length=p.nodes:=List.take_left;split
      ·have := It (Vv ih) hs p.nodes.length 5 ({ p.skip with nodes := p.nodes ++ [⟨Kd t.k, t.f, t.t, kf, kt, [], []⟩] }, []) hq hnl
       have:=hpre _ (this.2.1.trans htk) (Nat.lt_of_lt_of_le hnl this.2.2) this.1;exact⟨this.1,this.2.1,λ_=>this.2.2⟩
      split
      ·have := It (Mv s ih) hs p.nodes.length 3 ({ p.skip with nodes := p.nodes ++ [⟨Kd t.k, t.f, t.t, kf, kt, [], []⟩] }, []) hq hnl
       have:=hpre _ (this.2.1.trans htk) (Nat.lt_of_lt_of_le hnl this.2.2) this.1;exact⟨this.1,this.2.1,λ_=>this.2.2⟩
      have := hpre { p.skip with nodes := p.nodes ++ [⟨Kd t.k, t.f, t.t, kf, kt, [], []⟩] } htk hnl hq;exact⟨this.1,this.2.1,λ_=>this.2.2⟩
theorem Qh(p:Ps):p.skip.rest <:+ p.rest:=by
  unfold Ps.skip;cases hr:p.rest with
  | nil=>rw[hr];exact List.suffix_refl _
  | cons t r=>exact List.suffix_cons _ _
def Dx(kid:Ps × List Str->Bool × Ps × List Str):Prop:=∀st,(kid st).2.1.rest <:+ st.1.rest
theorem DB{kid:Ps × List Str->Bool × Ps × List Str}(hk:Dx kid)(len n:Nat)(closing:Int):∀(g:Nat)(st:Ps × List Str),(Oj kid len n closing g st).2.1.rest <:+ st.1.rest
  | 0,(p,had)=>by rw[Oj];exact List.suffix_refl _
  | g + 1, (p, had) => by
    have h:=hk (p,had);rw[Oj];dsimp only;split
    ·exact h
    split
    ·exact (Qh _).trans h
    split
    ·exact h
    exact (DB hk len n closing g _).trans ((Qh _).trans h)
theorem VA{kid:Ps × List Str->Bool × Ps × List Str}(hk:Dx kid)(len n:Nat)(closing:Int)(st:Ps × List Str):(Qd kid len n closing st).2.1.rest <:+ st.1.rest:=by
  rw[Qd];split
  ·exact Qh _
  exact DB hk len n closing _ st
def VM(val:Nat->Nat->Ps->Bool × Ps):Prop:=∀kf kt p,(val kf kt p).2.rest <:+ p.rest
theorem Sz{val:Nat->Nat->Ps->Bool × Ps}(h:VM val):Dx (λst=>(λx:Bool × Ps=>(x.1,x.2,st.2)) (val 0 0 st.1)):=λst=>h 0 0 st.1
theorem Vw(s:Str){val:Nat->Nat->Ps->Bool × Ps}(h:VM val):Dx (Jd s val):=λst=>by
  obtain⟨p,had⟩:=st;unfold Jd;dsimp only;split
  ·exact List.suffix_refl _
  split
  ·exact List.suffix_refl _
  split
  ·exact List.suffix_refl _
  split
  ·exact Qh p
  exact (h _ _ _).trans ((Qh _).trans (Qh _))
theorem Om(s:Str):∀d:Nat,VM (Zb s d)
  | 0=>λkf kt p=>by rw[Zb];split <;> exact List.suffix_refl _
  | d + 1 => λkf kt p => by
    have ih:=Om s d;rw[Zb];cases hr:p.rest with
    | nil=>show p.rest <:+ [];rw[hr];exact List.suffix_refl _
    | cons t rest =>
      dsimp only;rw[<-hr];split
      ·exact List.suffix_refl _
      split
      ·exact List.suffix_refl _
      split
      ·exact (VA (Sz ih) _ _ _ _).trans (Qh p)
      split
      ·exact (VA (Vw s ih) _ _ _ _).trans (Qh p)
      exact Qh p
open Go.RowKit Go.Proofs Go.Proofs.Tryz
theorem DE(s:Str)(A:Option Addr)(n c f t:Nat)(w0:World):Calls prog 116 #[.agg #[I s,.slice A n c],.agg #[J (f:Nat),J (t:Nat)]] w0 (Oc λv w'=>v=I (Ac s f t)/\Same [] w0 w'):=by
 refine Ea func116 O ntmps116 Bb (Nc _ _) ?_;have hF:=FR.start w0 [];refine Da (Df hF O ?_);rintro b1 w hb1 hF -;refine Df hF O ?_;rintro b2 w hb2 hF -;refine Ba (Xf O) (Ca (Fa (Da (Ba (Rb Rr O) (Yb (Pi xQ O hF.F 0 O O) (Ba (Dl O O) (Ba (Sc O) ?_)))))));refine Wb (d:=8) O (λhg0=>?_) (λhg0=>?_);refine Ha (Ha (Ha (Ha (Ha (Ba (Fc O O) (Ba (Sc O) (Ha (Ha (Ha (Ha (Ha (Ha (Ba (Fc O O) ?_)))))))))))));refine Ca (Od O (Da (Ba (Xf O) (Ca ?_))));refine Lc (v:=I []) O O ?_
 first|exact⟨by rw[Ac,if_neg Aa],hF.same⟩|exact⟨by rw[Ac,if_pos ⟨by omega,by omega⟩],hF.same⟩|(exfalso;omega)
 refine Ba (Rb Rr O) (Yb (Pi xQ O hF.F 0 O O) (Ba (Rb Qj O) (Yb (Pi xQ O hF.F 0 O O) (Ba (Yx O O) (Ba (Pc O O) (Ba (Sc O) ?_))))));refine Wb (d:=15) O (λhg1=>?_) (λhg1=>?_);refine Ha (Ha (Ha (Ha (Ha (Ha (Ba (Fc O O) (Ca (Od O (Da (Ba (Xf O) (Eb ?_)))))))))));refine Ga (Lc (v:=I []) O O ?_)
 first|exact⟨by rw[Ac,if_neg Aa],hF.same⟩|exact⟨by rw[Ac,if_pos ⟨by omega,by omega⟩],hF.same⟩|(exfalso;omega)
 refine Ba (Rb Qj O) (Yb (Pi xQ O hF.F 0 O O) (Ba (Rb ZO O) (Yb (Tn fZ O hF.F 1 O O) (Ba (Rp oX O) (Ba (Yx O O) (Ba (Pc O O) (Ca ?_)))))));refine Lb O O (λhc0=>?_) (λhc0=>?_);refine Da (Ba (Xf O) (Ca ?_));refine Lc (v:=I []) O O ?_
 first|exact⟨by rw[Ac,if_neg Aa],hF.same⟩|exact⟨by rw[Ac,if_pos ⟨by omega,by omega⟩],hF.same⟩|(exfalso;omega)
 refine Na (Ga (Da (Ba (Rb ZO O) (Yb (Tn fZ O hF.F 1 O O) (Ba (Rb Rr O) (Yb (Pi xQ O hF.F 0 O O) (Ba (Rb Qj O) (Yb (Pi xQ O hF.F 0 O O) (Ia (v:=I ((s.take t).drop f)) (L4 f t oX O O O Aa Aa) (Ba (Xf O) (Ca ?_)))))))))));refine Lc (v:=I ((s.take t).drop f)) O O ?_
 first|exact⟨by rw[Ac,if_neg Aa],hF.same⟩|exact⟨by rw[Ac,if_pos ⟨by omega,by omega⟩],hF.same⟩|(exfalso;omega)
theorem OB(k:Int)(s:Str)(hU:k=4->UniC s)(hl:s.length<=1000000000)(w0:World)(hG:Gl w0):Calls prog 115 #[J k,I s] w0 (Oc λv w'=>v=I (Ug k s)/\Same [] w0 w'):=by
 refine Ea func115 O ntmps115 Bb (Nc _ _) ?_;have hF:=FR.start w0 [];refine Da (Ba (Xf O) (Ca (Fa (Da (Ba (Cb O) (Ca (Sa (Da ?_))))))));refine Ba (Xh O O) (Ba (Kb O) (Ca ?_));refine Lb O O (λhc0=>?_) (λhc0=>?_);refine Da (Ba (Pd O) (Ba (Xf O) (Ca ?_)));refine Lc (v:=I s) O O ?_;exact⟨by unfold Ug;simp_all,hF.same⟩;refine Da (Ba (Xh O O) (Ba (Kb O) (Ca ?_)));refine Lb O O (λhc1=>?_) (λhc1=>?_);refine Da (Ba (Pd O) ?_);refine Qa hF (Yz s Aa _) (Ma H4 O O) ?_;intro w hF;refine Ba (Aj O) (Ba (Ru O O) (Ba (Nh O O) ?_));refine Hf hF wX tZ O ?_;rintro b1 w hb1 hF -;refine Ba (Gb O) (Ob (Yb (Ig gZ tZ O hF.F 0 O O) ?_));refine Qa hF (IC (Uc s).1 (by have:=Ij s;omega) _ (hG.ext hF.same)) (Ma NO O O) ?_;intro w hF;refine Ba (Xf O) (Ca ?_);refine Lc (v:=I (Gi (Uc s).1)) O O ?_;exact⟨by unfold Ug;simp_all,hF.same⟩;refine Da (Ba (Xh O O) (Ba (Kb O) (Ca ?_)));refine Lb O O (λhc2=>?_) (λhc2=>?_);refine Da (Ba (Pd O) ?_);refine Qa hF (I0 s (hU hc2) Aa _ (hG.ext hF.same)) (Ma EK O O) ?_;intro w hF;refine Ba (Aj O) (Ba (L1 O O) (Ba (Nh O O) (Ba (Nh O O) (Ba (Xf O) (Ba (Gb O) (Ba (Gb O) (Ob (Ba (Pd O) (Ba (Xf O) (Eb ?_))))))))));refine Ga (Lc (v:=I ((Vc s).1)) O O ?_);exact⟨by unfold Ug;simp_all,hF.same⟩;refine Na (Wa (Ga (Da (Ba (Xf O) (Ca ?_)))));refine Lc (v:=I []) O O ?_;exact⟨by unfold Ug;simp_all,hF.same⟩
section
variable {S:Nat->Prop}{w w' w0:World}{ex sm sm1 sm' pre post bs_:List (Nat × Obj)}{pb:Nat}{s:Str}{p p':Ps}{E Ds:List Nat}
theorem ZC{α:Type}{l x:List α}{k:Nat}(h:l.take k=x):l=x++l.drop k:=by rw[<-h,List.take_append_drop]
theorem Jp.open_(h:Jp S w ex sm pb s p){n:Nat}(hn:n<p.nodes.length):∃(Ar:Option Addr)(cr g c:Nat)(v1 v2 junk:List Value)(K Q:Option Addr)(kc qc:Nat)(s1 sk sq s2:List (Nat × Obj)),
    sm=(pb,.cells (Ym s Ar cr p (some ⟨g,0,none⟩) c).toArray 138)::((g,.cells (v1++(Wn p.nodes[n] K kc Q qc++(v2++junk))).toArray 145)::(s1++(sk++(sq++s2))))/\v1.length=n*7/\NdsAt 3 136 (p.nodes.take n) v1 s1 /\
    SlB 3 1 K p.nodes[n].kids.length kc (p.nodes[n].kids.map (Value.int .i64)) sk/\SlB 136 2 Q p.nodes[n].pcs.length qc (LY p.nodes[n].pcs) sq/\NdsAt 3 136 (p.nodes.drop (n+1)) v2 s2 /\
    p.nodes.length<=c/\c<=maxLen/\(v1++(Wn p.nodes[n] K kc Q qc++(v2++junk))).length=c*7/\Rep S w (Mk p.rest) [.slice Ar p.rest.length cr]:=by
  obtain⟨A,Ar,c,cr,sl,vals,sb,rfl,h1,h2,h3⟩:=h.parts;obtain⟨K,Q,kc,qc,v1,v2,s1,sk,sq,s2,rfl,rfl,g1,g2,g3,g4⟩:=h2.split hn;rcases h1.2 with ⟨h0,-,-⟩|⟨g,cur,rfl,rfl,h4,h5,h6,h7⟩
  ·omega
  have e:cur.toList=v1++(Wn p.nodes[n] K kc Q qc++(v2++cur.toList.drop (p.nodes.length*7))):=by
    have:=ZC h7;rw[sQ,sQ]at this;exact this
  have ec:cur=(v1++(Wn p.nodes[n] K kc Q qc++(v2++cur.toList.drop (p.nodes.length*7)))).toArray:=by rw[<-e]
  refine⟨Ar,cr,g,c,v1,v2,cur.toList.drop (p.nodes.length*7),K,Q,kc,qc,s1,sk,sq,s2,by rw[<-ec];rfl,?_,g1,g2,g3,g4,h4,h5,?_,h3⟩
  ·have := g1.len
   rw[this,List.length_take];congr 1;omega
  rw[<-e];simpa using h6
theorem Du{l:List Nd}{n:Nat}(hn:n<l.length){x:Nd}{g c:Nat}{v1 v2 junk:List Value}{K Q:Option Addr}{kc qc:Nat}{s1 sk sq s2:List (Nat × Obj)}(hv1:v1.length=n*7)(g1:NdsAt 3 136 (l.take n) v1 s1)(g2:SlB 3 1 K x.kids.length kc (x.kids.map (Value.int .i64)) sk)(g3:SlB 136 2 Q x.pcs.length qc (LY x.pcs) sq)
    (g4:NdsAt 3 136 (l.drop (n+1)) v2 s2) (hc:l.length<=c) (hm:c<=maxLen) (hlen:(v1++(Wn x K kc Q qc++(v2++junk))).length=c*7) :
    SlB 145 7 (some ⟨g,0,none⟩) (l.set n x).length c (v1++(Wn x K kc Q qc++v2)) [(g,.cells (v1++(Wn x K kc Q qc++(v2++junk))).toArray 145)]/\NdsAt 3 136 (l.set n x) (v1++(Wn x K kc Q qc++v2)) (s1++(sk++(sq++s2))):=by
  have hN:=QZ hn g1 g2 g3 g4;refine⟨⟨hN.len,.inr ⟨g,_,O,O,by rw[List.length_set];exact hc,hm,by simpa using hlen,?_⟩⟩,hN⟩;rw[<-hN.len];rw[show v1++(Wn x K kc Q qc++(v2++junk))=(v1++(Wn x K kc Q qc++v2))++junk from by simp[sQ],List.take_left]
theorem KO{T g n k:Nat}{v1 nd po:List Value}{v:Value}(hh:w.heap[g]? = some (.cells (v1++(nd++po)).toArray T))(hv1:v1.length=n*7)(hk:nd[k]? = some v):w.cell? ⟨g,n*7+k,none⟩=some v:=by
  rw[Bc hh,List.getElem?_toArray,<-hv1,List.getElem?_append_right Aa,Nat.add_sub_cancel_left,List.getElem?_append_left (List.getElem?_eq_some_iff.1 hk).1];exact hk
theorem ZD{n k:Nat}{v1 nd nd' po:List Value}{v:Value}(hv1:v1.length=n*7)(hk:k<nd.length)(hs:nd.set k v=nd'):putA (v1++(nd++po)).toArray (n*7+k) [v]=(v1++(nd'++po)).toArray:=by
  subst hs;rw[Hu];rw[<-hv1,List.set_append_right _ _ Aa,Nat.add_sub_cancel_left,List.set_append_left _ _ hk]
theorem Jp.toFrame{sm0:List (Nat × Obj)}(h:Jp S w ex sm pb s p)(hM:Mc w0 sm0 w (ex++sm)):FR w0 (ids sm0) (ex++sm) w:=⟨hM.same,λq hq=>⟨h.hh q hq,hM.fresh q hq⟩,h.pw⟩
theorem Jp.ofFrame{own sm0:List (Nat × Obj)}(hF:FR w0 (ids sm0) bs_ w)(h0:Off S w0 sm0)(hp:bs_.Perm (own++(ex++sm)))(hparts:∃(A Ar:Option Addr) (c cr:Nat) (sl:List (Nat × Obj)) (vals:List Value) (sb:List (Nat × Obj)),sm=(pb,.cells (Ym s Ar cr p A c).toArray 138)::(sl++sb)/\SlB 145 7 A p.nodes.length c vals sl/\NdsAt 3 136 p.nodes vals sb/\Rep S w (Mk p.rest) [.slice Ar p.rest.length cr]) :
    Jp S w ex sm pb s p/\Mc w0 sm0 w (ex++sm):=by
  have hF2:=hF.perm hp.symm;have hd:=List.pairwise_append.1 hF2.desc;refine⟨⟨hparts,λb hb=>⟨Nat.lt_of_lt_of_le (h0 b hb).1 hF.same.size,λhm=>?_⟩,hd.2.1,λq hq=>(hF2.own q (List.mem_append_right _ hq)).1⟩,hF.same,λq hq=>(hF2.own q (List.mem_append_right _ hq)).2⟩;obtain⟨q,hq,rfl⟩:=nQ.1 hm;rcases (hF2.own q (List.mem_append_right _ hq)).2 with h3|h3
  ·have:=(h0 _ hb).1;omega
  exact (h0 _ hb).2 h3
end
def spD(q:Int × Int):D:=.agg [Ai q.1,Ai q.2]
def ndD(x:Nd):D:=.agg [Ai x.k,.agg [Ai (x.f:Nat),Ai (x.t:Nat)],.agg [Ai (x.kf:Nat),Ai (x.kt:Nat)],.slice (x.kids.map Ai),.slice (x.pcs.map spD)]
section
variable {S:Nat->Prop}{w:World}
theorem okI{z:Int}(h1:-1000000000000<=z)(h2:z<=1000000000000):V1 (J z):=⟨by show (-9223372036854775808:Int)<=_;omega,by show _<=(9223372036854775807:Int);omega⟩
theorem Tm{z:Int}(h1:-1000000000000<=z)(h2:z<=1000000000000):Rep S w (Ai z) [J z]:=Rep.lit_mk (okI h1 h2)
theorem GA:∀l:List Int,(∀j∈l,-1000000000000<=j/\j<=1000000000000)->RepL S w (l.map Ai) (l.map (Value.int .i64))
  | [],_=>RepL.nil_mk
  | z::l,h=>RepL.cons_mk (c1:=[J z]) (Tm (h z List.mem_cons_self).1 (h z List.mem_cons_self).2) (GA l λj hj=>h j (List.mem_cons_of_mem _ hj))
theorem AP:∀l:List (Int × Int),(∀q∈l,(-1000000000000<=q.1/\q.1<=1000000000000)/\-1000000000000<=q.2/\q.2<=1000000000000)->RepL S w (l.map spD) (LY l)
  | [],_=>RepL.nil_mk
  | q :: l, h => by
    have h1:=h q List.mem_cons_self;exact RepL.cons_mk (c1:=[J q.1,J q.2]) (Rep.agg_mk (RepL.cons_mk (c1:=[J q.1]) (Tm h1.1.1 h1.1.2) (RepL.cons_mk (c1:=[J q.2]) (c2:=[]) (Tm h1.2.1 h1.2.2) RepL.nil_mk))) (AP l λj hj=>h j (List.mem_cons_of_mem _ hj))
theorem nd_rep{x:Nd}{K Q:Option Addr}{kc qc:Nat}{sk sq:List (Nat × Obj)}(hx:NdOk x)(hk:SlB 3 1 K x.kids.length kc (x.kids.map (Value.int .i64)) sk)(hq:SlB 136 2 Q x.pcs.length qc (LY x.pcs) sq)(h1:∀p∈sk,w.heap[p.1]? = some p.2/\S p.1)(h2:∀p∈sq,w.heap[p.1]? = some p.2/\S p.1):Rep S w (ndD x) (Wn x K kc Q qc):=by
  obtain⟨a1,a2,a3,a4,a5,a6,a7⟩:=hx;refine Rep.agg_mk (RepL.cons_mk (c1:=[_]) (c2:=[_,_,_,_,_,_]) (Tm Aa Aa) (RepL.cons_mk (c1:=[_,_]) (c2:=[_,_,_,_]) (Rep.agg_mk (RepL.cons_mk (c1:=[_]) (c2:=[_]) (Tm Aa Aa) (RepL.cons_mk (c1:=[_]) (c2:=[]) (Tm Aa Aa) RepL.nil_mk)))
    (RepL.cons_mk (c1:=[_,_]) (c2:=[_,_]) (Rep.agg_mk (RepL.cons_mk (c1:=[_]) (c2:=[_]) (Tm Aa Aa) (RepL.cons_mk (c1:=[_]) (c2:=[]) (Tm Aa Aa) RepL.nil_mk)))
      (RepL.cons_mk (c1:=[_]) (c2:=[_]) (hk.repOf h1 (GA _ λj hj=>by have:=a6 j hj;omega) La) (RepL.cons_mk (c1:=[_]) (c2:=[]) (hq.repOf h2 (AP _ λq hq'=>by have:=a7 q hq';omega) La) RepL.nil_mk)))))
theorem nds_rep{l:List Nd}{vs:List Value}{sb:List (Nat × Obj)}(h:NdsAt 3 136 l vs sb)(hok:∀x∈l,NdOk x)(hb:∀p∈sb,w.heap[p.1]? = some p.2/\S p.1):RepL S w (l.map ndD) vs:=by
  induction h with
  | nil=>exact RepL.nil_mk
  | cons hk hq _ ih =>
    exact RepL.cons_mk (nd_rep (hok _ List.mem_cons_self) hk hq (λp hp=>hb p (by simp[hp])) (λp hp=>hb p (by simp[hp]))) (ih (λy hy=>hok y (List.mem_cons_of_mem _ hy)) (λp hp=>hb p (by simp[hp])))
theorem nd_inv{x:Nd}{cs:List Value}(h:Rep S w (ndD x) cs):∃K kc Q qc,cs=Wn x K kc Q qc/\Rep S w (.slice (x.kids.map Ai)) [.slice K x.kids.length kc]/\Rep S w (.slice (x.pcs.map spD)) [.slice Q x.pcs.length qc]:=by
  obtain⟨_,_,rfl,h1,h⟩:=RepL.cons_inv (Rep.agg_inv h);obtain⟨_,_,rfl,h2,h⟩:=RepL.cons_inv h;obtain⟨_,_,rfl,h3,h⟩:=RepL.cons_inv h;obtain⟨_,_,rfl,h4,h⟩:=RepL.cons_inv h;obtain⟨_,_,rfl,h5,h⟩:=RepL.cons_inv h;obtain rfl:=RepL.nil_inv h;obtain⟨_,_,rfl,h6,h2⟩:=RepL.cons_inv (Rep.agg_inv h2);obtain⟨_,_,rfl,h7,h2⟩:=RepL.cons_inv h2;obtain rfl:=RepL.nil_inv h2;obtain⟨_,_,rfl,h8,h3⟩:=RepL.cons_inv (Rep.agg_inv h3);obtain⟨_,_,rfl,h9,h3⟩:=RepL.cons_inv h3;obtain rfl:=RepL.nil_inv h3;obtain⟨K,kc,rfl,-⟩:=Rep.slice_inv h4;obtain⟨Q,qc,rfl,-⟩:=Rep.slice_inv h5;simp only[rQ]at h4 h5;simp only[Ai,Rep]at h1 h6 h7 h8 h9;obtain⟨rfl,-⟩:=h1;obtain⟨rfl,-⟩:=h6;obtain⟨rfl,-⟩:=h7;obtain⟨rfl,-⟩:=h8;obtain⟨rfl,-⟩:=h9;exact⟨K,kc,Q,qc,by simp[Wn],h4,h5⟩
theorem NdsAt.soft{l:List Nd}{vs:List Value}{sb:List (Nat × Obj)}(h:NdsAt 3 136 l vs sb):∀q∈sb,∃cs T,q.2=.cells cs T:=by
  induction h with
  | nil=>intro q hq;cases hq
  | cons hk hq _ ih =>
    intro q hm;rcases mQ.1 hm with h1|h1
    ·obtain⟨cur,e⟩:=hk.typ1.2 q h1;exact⟨_,_,e⟩
    rcases mQ.1 h1 with h2|h2
    ·obtain⟨cur,e⟩:=hq.typ1.2 q h2;exact⟨_,_,e⟩
    exact ih q h2
theorem Jp.soft{ex sm:List (Nat × Obj)}{pb:Nat}{s:Str}{p:Ps}(h:Jp S w ex sm pb s p):∀q∈sm,∃cs T,q.2=.cells cs T:=by
  obtain⟨A,Ar,c,cr,sl,vals,sb,rfl,h1,h2,-⟩:=h.parts;intro q hq;rcases oQ.1 hq with rfl|hq
  ·exact⟨_,_,O⟩
  rcases mQ.1 hq with h3|h3
  ·obtain⟨cur,e⟩:=h1.typ1.2 q h3;exact⟨_,_,e⟩
  exact h2.soft q h3
end
end Go.Scarf
