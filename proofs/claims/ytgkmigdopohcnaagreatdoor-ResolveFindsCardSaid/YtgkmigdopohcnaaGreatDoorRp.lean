/- A part of the proof. -/
import Derived.Test.YtgkmigdopohcnaaGreatDoorRe10
set_option linter.all false
set_option maxHeartbeats 8000000
set_option maxRecDepth 10000
namespace Go.Scarf
def NB(l:List Nd):Prop:=l.length<=4096/\∀x∈l,x.kids.length<l.length/\x.pcs.length=x.kids.length
theorem W3(l:List Nd)(n:Nat)(k f t:Int):(addKid l n k f t).length=l.length:=by
  unfold addKid;cases l[n]? <;> simp
theorem KB(l:List Nd)(n:Nat)(k f t:Int):(addKid l n k f t).take n=l.take n:=by
  unfold addKid;cases l[n]? with
  | none=>rfl
  | some x=>exact List.take_set_of_le (gQ _)
theorem S5(l:List Nd)(n t:Nat):(setTo l n t).length=l.length:=by
  unfold setTo;cases l[n]? <;> simp
theorem UG(l:List Nd)(n t:Nat):(setTo l n t).take n=l.take n:=by
  unfold setTo;cases l[n]? with
  | none=>rfl
  | some x=>exact List.take_set_of_le (gQ _)
theorem NB.set{l:List Nd}(h:NB l){n:Nat}{x:Nd}(h1:x.kids.length<l.length)(h2:x.pcs.length=x.kids.length):NB (l.set n x):=by
  refine⟨by rw[List.length_set];exact h.1,λy hy=>?_⟩;rw[List.length_set];rcases List.mem_or_eq_of_mem_set hy with h3|rfl
  ·exact h.2 y h3
  exact⟨h1,h2⟩
theorem NB.setTo{l:List Nd}(h:NB l)(n t:Nat):NB (setTo l n t):=by
  unfold Go.Scarf.setTo;cases hx:l[n]? with
  | none=>exact h
  | some x=>exact h.set (h.2 x (List.mem_of_getElem? hx)).1 (h.2 x (List.mem_of_getElem? hx)).2
theorem NB.addKid{l l':List Nd}(h:NB l)(h':NB l')(hp:l <+: l')(hlt:l.length<l'.length){n:Nat}(hn:n<l.length)(k f t:Int):NB (addKid l' n k f t):=by
  unfold Go.Scarf.addKid;cases hx:l'[n]? with
  | none=>exact h'
  | some x =>
    have e:l[n]? = some x:=by
      obtain⟨r,rfl⟩:=hp
      rwa [List.getElem?_append_left hn]at hx
    have h1:=h.2 x (List.mem_of_getElem? e);exact h'.set (by simp only[dQ,kQ,List.length_nil];omega) (by simp only[dQ,kQ,List.length_nil];omega)
theorem Q_{l l':List Nd}(h:l <+: l'){n:Nat}(hn:n<=l.length):l'.take n=l.take n:=by
  obtain⟨r,rfl⟩:=h;exact List.take_append_of_le_length hn
theorem pre_of{l l':List Nd}(h:l'.take l.length=l):l <+: l':=by rw[<-h];exact List.take_prefix _ _
def NdOk(x:Nd):Prop:=(0<=x.k/\x.k<=6)/\x.f<=65536/\x.t<=65536/\x.kf<=65536/\x.kt<=65536/\(∀j∈x.kids,0<=j/\j<4096)/\∀q∈x.pcs,(0<=q.1/\q.1<=65536)/\0<=q.2/\q.2<=65536
def TkB(x:Tk):Prop:=x.f<=65536/\x.t<=65536
structure NP (p:Ps):Prop where
  nb:NB p.nodes
  nd:∀x∈p.nodes,NdOk x
  tk:∀x∈p.rest,TkB x
  lt:p.lt<=65536
theorem NP.skip{p:Ps}(h:NP p):NP p.skip:=by
  unfold Ps.skip;cases hr:p.rest with
  | nil=>exact h
  | cons t r =>
    have:=h.tk t (by rw[hr];exact List.mem_cons_self);exact⟨h.nb,h.nd,λx hx=>h.tk x (by rw[hr];exact List.mem_cons_of_mem _ hx),this.2⟩
theorem NP.fail{p:Ps}(h:NP p)(n:Nat)(e:Int):NP (p.fail n e):=⟨h.nb,h.nd,h.tk,h.lt⟩
theorem IJ{p:Ps}(h:NP p){n:Nat}(hn:n<=65536):p.here n<=65536:=by
  unfold Ps.here;cases hr:p.rest with
  | nil=>exact hn
  | cons t r=>exact (h.tk t (by rw[hr];exact List.mem_cons_self)).1
theorem NdOk.add{l:List Nd}(h:∀x∈l,NdOk x)(n:Nat){k f t:Int}(h1:0<=k/\k<4096)(h2:0<=f/\f<=65536)(h3:0<=t/\t<=65536):∀x∈addKid l n k f t,NdOk x:=by
  unfold addKid;cases hx:l[n]? with
  | none=>exact h
  | some x =>
    intro y hy;rcases List.mem_or_eq_of_mem_set hy with h4|rfl
    ·exact h y h4
    obtain⟨a1, a2, a3, a4, a5, a6, a7⟩ := h x (List.mem_of_getElem? hx);refine⟨a1,a2,a3,a4,a5,λj hj=>?_,λq hq=>?_⟩
    ·rcases mQ.1 hj with h5|h5
     ·exact a6 j h5
     rw[pQ.1 h5];exact h1
    rcases mQ.1 hq with h5|h5
    ·exact a7 q h5
    rw[pQ.1 h5];exact⟨h2,h3⟩
theorem NdOk.setTo{l:List Nd}(h:∀x∈l,NdOk x)(n:Nat){t:Nat}(h1:t<=65536):∀x∈setTo l n t,NdOk x:=by
  unfold Go.Scarf.setTo;cases hx:l[n]? with
  | none=>exact h
  | some x =>
    intro y hy;rcases List.mem_or_eq_of_mem_set hy with h4|rfl
    ·exact h y h4
    obtain⟨a1, a2, a3, a4, a5, a6, a7⟩ := h x (List.mem_of_getElem? hx);exact⟨a1,a2,h1,a4,a5,a6,a7⟩
theorem EB(k:Int):0<=Bf k/\Bf k<=6:=by unfold Bf;(repeat' split) <;> decide
def XD(kid:Ps × List Str->Bool × Ps × List Str):Prop:=∀st,NP st.1->NP (kid st).2.1/\st.1.nodes <+: (kid st).2.1.nodes/\((kid st).1=true->st.1.nodes.length<(kid st).2.1.nodes.length)
theorem Of(p:Ps):p.skip.nodes=p.nodes:=by unfold Ps.skip;cases p.rest <;> rfl
theorem HC{kid:Ps × List Str->Bool × Ps × List Str}(hk:XD kid){len:Nat}(hlen:len<=65536)(n:Nat)(closing:Int):∀(g:Nat)(st:Ps × List Str),NP st.1->n<st.1.nodes.length ->
    NP (Ir kid len n closing g st).2.1/\(Ir kid len n closing g st).2.1.nodes.take n=st.1.nodes.take n/\st.1.nodes.length<=(Ir kid len n closing g st).2.1.nodes.length
  | 0,(p,had),hb,hn=>by rw[Ir];exact⟨hb,rfl,gQ _⟩
  | g + 1, (p, had), hb, hn => by
    have hb:NP p:=hb;have hn:n<p.nodes.length:=hn;obtain⟨h1,h2,h3⟩:=hk (p,had) hb;have h2:p.nodes <+: (kid (p,had)).2.1.nodes:=h2;have h3:(kid (p,had)).1=true->p.nodes.length<(kid (p,had)).2.1.nodes.length:=h3;rw[Ir];dsimp only;split
    ·exact⟨h1,Q_ h2 (Nat.le_of_lt hn),h2.length_le⟩
    rename_i hf
    have h4:=h3 (by simpa using hf);have hh:=IJ h1 hlen;have hpl:p.lt<=65536:=hb.lt;have hpn:p.nodes.length<4096:=by have:=h1.nb.1;omega
    have hN:NP { (kid (p,had)).2.1 with nodes:=addKid (kid (p,had)).2.1.nodes n (p.nodes.length:Int) (p.lt:Int) ((kid (p,had)).2.1.here len:Int) } :=
      ⟨NB.addKid hb.nb h1.nb h2 h4 hn (p.nodes.length:Int) (p.lt:Int) ((kid (p,had)).2.1.here len:Int),NdOk.add h1.nd n ⟨by omega,by omega⟩ ⟨by omega,by omega⟩ ⟨by omega,by omega⟩,h1.tk,h1.lt⟩
    have hT:(addKid (kid (p,had)).2.1.nodes n (p.nodes.length:Int) (p.lt:Int) ((kid (p,had)).2.1.here len:Int)).take n=p.nodes.take n:=by rw[KB];exact Q_ h2 (Nat.le_of_lt hn)
    have hL:=W3 (kid (p,had)).2.1.nodes n (p.nodes.length:Int) (p.lt:Int) ((kid (p,had)).2.1.here len:Int);have h5:=h2.length_le;split
    ·refine⟨hN.skip, ?_, ?_⟩ <;> rw[Of]
     ·exact hT
     exact (id ( by show p.nodes.length<=(addKid _ _ _ _ _).length;omega:p.nodes.length<=(addKid (kid (p,had)).2.1.nodes n (p.nodes.length:Int) (p.lt:Int) ((kid (p,had)).2.1.here len:Int)).length))
    split
    ·exact⟨hN.fail _ _,hT,by show p.nodes.length<=(addKid _ _ _ _ _).length;omega⟩
    obtain⟨k1, k2, k3⟩ := HC hk hlen n closing g (Ps.skip { (kid (p, had)).2.1 with nodes := addKid (kid (p, had)).2.1.nodes n (p.nodes.length : Int) (p.lt : Int) ((kid (p, had)).2.1.here len : Int) }, (kid (p, had)).2.2) hN.skip (by rw[Of];show n<(addKid _ _ _ _ _).length;omega);refine⟨k1,?_,?_⟩
    ·rw[k2,Of];exact hT
    rw[Of]at k3;exact fQ (fQ (Nat.le_of_lt h4) (Nat.le_of_eq hL.symm)) k3
theorem H1{kid:Ps × List Str->Bool × Ps × List Str}(hk:XD kid){len:Nat}(hlen:len<=65536)(n:Nat)(closing:Int)(st:Ps × List Str)(hb:NP st.1)(hn:n<st.1.nodes.length) :
    NP (Ji kid len n closing st).2.1/\(Ji kid len n closing st).2.1.nodes.take n=st.1.nodes.take n/\st.1.nodes.length<=(Ji kid len n closing st).2.1.nodes.length:=by
  rw[Ji];split
  ·exact⟨hb.skip,by rw[Of],by rw[Of];exact gQ _⟩
  exact HC hk hlen n closing _ st hb hn
def DQ(val:Nat->Nat->Ps->Bool × Ps):Prop:=∀kf kt p,kf<=65536->kt<=65536->NP p->NP (val kf kt p).2/\p.nodes <+: (val kf kt p).2.nodes/\((val kf kt p).1=true->p.nodes.length<(val kf kt p).2.nodes.length)
theorem J_{val:Nat->Nat->Ps->Bool × Ps}(h:DQ val):XD (λst=>(λx:Bool × Ps=>(x.1,x.2,st.2)) (val 0 0 st.1)):=λst hb=>h 0 0 st.1 Ba Ba hb
theorem GM(s:Str){val:Nat->Nat->Ps->Bool × Ps}(h:DQ val):XD (Ov s val):=λst hb=>by
  obtain⟨p,had⟩:=st;have hb:NP p:=hb;unfold Ov;dsimp only;split
  ·exact⟨hb.fail _ _,List.prefix_refl _,λe=>(by cases e)⟩
  rename_i t r hr
  have ht:=hb.tk t (by rw[show p.rest=t::r from hr];exact List.mem_cons_self);split
  ·exact⟨hb.fail _ _,List.prefix_refl _,λe=>(by cases e)⟩
  split
  ·exact⟨hb.fail _ _,List.prefix_refl _,λe=>(by cases e)⟩
  split
  ·refine⟨hb.skip.fail _ _, ?_, λe => (by cases e)⟩
   show p.nodes <+: p.skip.nodes;rw[Of];exact List.prefix_refl _
  have := h t.f t.t p.skip.skip ht.1 ht.2 hb.skip.skip;rw[Of,Of]at this;exact this
theorem At{s:Str}(hs:s.length<=65536):∀d:Nat,DQ (Hf s d)
  | 0 => λkf kt p _ _ hb => by
    rw[Hf];split <;> exact⟨hb.fail _ _,List.prefix_refl _,λe=>(by cases e)⟩
  | d + 1 => λkf kt p hkf hkt hb => by
    have ih:=At hs d;rw[Hf];cases hr:p.rest with
    | nil=>exact⟨hb.fail _ _,List.prefix_refl _,λe=>(by cases e)⟩
    | cons t rest =>
      have ht:=hb.tk t (by rw[hr];exact List.mem_cons_self);dsimp only;split
      ·exact⟨hb.fail _ _,List.prefix_refl _,λe=>(by cases e)⟩
      split
      ·exact⟨hb.fail _ _,List.prefix_refl _,λe=>(by cases e)⟩
      rename_i hk hn
      have hq:NP { p.skip with nodes:=p.nodes++[⟨Bf t.k,t.f,t.t,kf,kt,[],[]⟩] }:=by
        refine⟨⟨by have:=hb.nb.1;simp only[dQ,kQ,List.length_nil];omega,λx hx=>?_⟩,λx hx=>?_,hb.skip.tk,hb.skip.lt⟩
        ·simp only[dQ, kQ, List.length_nil]
         rcases mQ.1 hx with h1|h1
         ·have:=hb.nb.2 x h1;omega
         rw[pQ.1 h1];simp
        rcases mQ.1 hx with h1|h1
        ·exact hb.nd x h1
        rw[pQ.1 h1];exact⟨EB _,ht.1,ht.2,hkf,hkt,by simp,by simp⟩
      have hpre:∀q:Ps,q.nodes.take p.nodes.length=p.nodes->p.nodes.length<q.nodes.length->NP q->NP { q with nodes:=setTo q.nodes p.nodes.length q.lt }/\p.nodes <+: setTo q.nodes p.nodes.length q.lt/\p.nodes.length<(setTo q.nodes p.nodes.length q.lt).length:=λq h1 h2 h3 =>
        ⟨⟨h3.nb.setTo _ _,NdOk.setTo h3.nd _ h3.lt,h3.tk,h3.lt⟩,pre_of (by rw[UG];exact h1),by rw[S5];exact h2⟩
      have hnl:p.nodes.length<(p.nodes++[(⟨Bf t.k,t.f,t.t,kf,kt,[],[]⟩:Nd)]).length:=by simp
      have htk:(p.nodes++[(⟨Bf t.k,t.f,t.t,kf,kt,[],[]⟩:Nd)]).take p.nodes.length=p.nodes:=List.take_left;split
      ·have := H1 (J_ ih) hs p.nodes.length 5 ({ p.skip with nodes := p.nodes ++ [⟨Bf t.k, t.f, t.t, kf, kt, [], []⟩] }, []) hq hnl
       have:=hpre _ (this.2.1.trans htk) (Nat.lt_of_lt_of_le hnl this.2.2) this.1;exact⟨this.1,this.2.1,λ_=>this.2.2⟩
      split
      ·have := H1 (GM s ih) hs p.nodes.length 3 ({ p.skip with nodes := p.nodes ++ [⟨Bf t.k, t.f, t.t, kf, kt, [], []⟩] }, []) hq hnl
       have:=hpre _ (this.2.1.trans htk) (Nat.lt_of_lt_of_le hnl this.2.2) this.1;exact⟨this.1,this.2.1,λ_=>this.2.2⟩
      have := hpre { p.skip with nodes := p.nodes ++ [⟨Bf t.k, t.f, t.t, kf, kt, [], []⟩] } htk hnl hq;exact⟨this.1,this.2.1,λ_=>this.2.2⟩
theorem Si(p:Ps):p.skip.rest <:+ p.rest:=by
  unfold Ps.skip;cases hr:p.rest with
  | nil=>rw[hr];exact List.suffix_refl _
  | cons t r=>exact List.suffix_cons _ _
def K4(kid:Ps × List Str->Bool × Ps × List Str):Prop:=∀st,(kid st).2.1.rest <:+ st.1.rest
theorem Z6{kid:Ps × List Str->Bool × Ps × List Str}(hk:K4 kid)(len n:Nat)(closing:Int):∀(g:Nat)(st:Ps × List Str),(Ir kid len n closing g st).2.1.rest <:+ st.1.rest
  | 0,(p,had)=>by rw[Ir];exact List.suffix_refl _
  | g + 1, (p, had) => by
    have h:=hk (p,had);rw[Ir];dsimp only;split
    ·exact h
    split
    ·exact (Si _).trans h
    split
    ·exact h
    exact (Z6 hk len n closing g _).trans ((Si _).trans h)
theorem K6{kid:Ps × List Str->Bool × Ps × List Str}(hk:K4 kid)(len n:Nat)(closing:Int)(st:Ps × List Str):(Ji kid len n closing st).2.1.rest <:+ st.1.rest:=by
  rw[Ji];split
  ·exact Si _
  exact Z6 hk len n closing _ st
def BG(val:Nat->Nat->Ps->Bool × Ps):Prop:=∀kf kt p,(val kf kt p).2.rest <:+ p.rest
theorem BB{val:Nat->Nat->Ps->Bool × Ps}(h:BG val):K4 (λst=>(λx:Bool × Ps=>(x.1,x.2,st.2)) (val 0 0 st.1)):=λst=>h 0 0 st.1
theorem WF(s:Str){val:Nat->Nat->Ps->Bool × Ps}(h:BG val):K4 (Ov s val):=λst=>by
  obtain⟨p,had⟩:=st;unfold Ov;dsimp only;split
  ·exact List.suffix_refl _
  split
  ·exact List.suffix_refl _
  split
  ·exact List.suffix_refl _
  split
  ·exact Si p
  exact (h _ _ _).trans ((Si _).trans (Si _))
theorem Y1(s:Str):∀d:Nat,BG (Hf s d)
  | 0=>λkf kt p=>by rw[Hf];split <;> exact List.suffix_refl _
  | d + 1 => λkf kt p => by
    have ih:=Y1 s d;rw[Hf];cases hr:p.rest with
    | nil=>show p.rest <:+ [];rw[hr];exact List.suffix_refl _
    | cons t rest =>
      dsimp only;rw[<-hr];split
      ·exact List.suffix_refl _
      split
      ·exact List.suffix_refl _
      split
      ·exact (K6 (BB ih) _ _ _ _).trans (Si p)
      split
      ·exact (K6 (WF s ih) _ _ _ _).trans (Si p)
      exact Si p
open Go.RowKit Go.Proofs Go.Proofs.Tryz
theorem D9(s:Str)(A:Option Addr)(n c f t:Nat)(w0:World):Calls prog 100 #[.agg #[I s,.slice A n c],.agg #[J (f:Nat),J (t:Nat)]] w0 (Pc λv w'=>v=I (Gc s f t)/\Same [] w0 w'):=by
 refine Ea func100 O ntmps100 Db (Lc _ _) ?_;have hF:=FR.start w0 [];refine Da (Le hF O ?_);rintro b1 w hb1 hF -;refine Le hF O ?_;rintro b2 w hb2 hF -;refine Aa (Rf O) (Ca (Fa (Da (Aa (Ob Tw O) (Tb (Yi dZ O hF.F 0 O O) (Aa (Sl O O) (Aa (Dc O) ?_)))))));refine Wb (d:=8) O (λhg0=>?_) (λhg0=>?_);refine Ia (Ia (Ia (Ia (Ia (Aa (Yb O O) (Aa (Dc O) (Ia (Ia (Ia (Ia (Ia (Ia (Aa (Yb O O) ?_)))))))))))));refine Ca (Fd O (Da (Aa (Rf O) (Ca ?_))));refine Hc (v:=I []) O O ?_
 first|exact⟨by rw[Gc,if_neg Ba],hF.same⟩|exact⟨by rw[Gc,if_pos ⟨by omega,by omega⟩],hF.same⟩|(exfalso;omega)
 refine Aa (Ob Tw O) (Tb (Yi dZ O hF.F 0 O O) (Aa (Ob Sn O) (Tb (Yi dZ O hF.F 0 O O) (Aa (Gz O O) (Aa (Bc O O) (Aa (Dc O) ?_))))));refine Wb (d:=15) O (λhg1=>?_) (λhg1=>?_);refine Ia (Ia (Ia (Ia (Ia (Ia (Aa (Yb O O) (Ca (Fd O (Da (Aa (Rf O) (Ua ?_)))))))))));refine Ga (Hc (v:=I []) O O ?_)
 first|exact⟨by rw[Gc,if_neg Ba],hF.same⟩|exact⟨by rw[Gc,if_pos ⟨by omega,by omega⟩],hF.same⟩|(exfalso;omega)
 refine Aa (Ob Sn O) (Tb (Yi dZ O hF.F 0 O O) (Aa (Ob VK O) (Tb (Rm iZ O hF.F 1 O O) (Aa (Qr iX O) (Aa (Gz O O) (Aa (Bc O O) (Ca ?_)))))));refine Pb O O (λhc0=>?_) (λhc0=>?_);refine Da (Aa (Rf O) (Ca ?_));refine Hc (v:=I []) O O ?_
 first|exact⟨by rw[Gc,if_neg Ba],hF.same⟩|exact⟨by rw[Gc,if_pos ⟨by omega,by omega⟩],hF.same⟩|(exfalso;omega)
 refine Na (Ga (Da (Aa (Ob VK O) (Tb (Rm iZ O hF.F 1 O O) (Aa (Ob Tw O) (Tb (Yi dZ O hF.F 0 O O) (Aa (Ob Sn O) (Tb (Yi dZ O hF.F 0 O O) (Ja (v:=I ((s.take t).drop f)) (OE f t iX O O O Ba Ba) (Aa (Rf O) (Ca ?_)))))))))));refine Hc (v:=I ((s.take t).drop f)) O O ?_
 first|exact⟨by rw[Gc,if_neg Ba],hF.same⟩|exact⟨by rw[Gc,if_pos ⟨by omega,by omega⟩],hF.same⟩|(exfalso;omega)
theorem B9(k:Int)(s:Str)(hU:k=4->UniC s)(hl:s.length<=1000000000)(w0:World)(hG:Gl w0):Calls prog 99 #[J k,I s] w0 (Pc λv w'=>v=I (Oi k s)/\Same [] w0 w'):=by
 refine Ea func99 O ntmps99 Db (Lc _ _) ?_;have hF:=FR.start w0 [];refine Da (Aa (Rf O) (Ca (Fa (Da (Aa (Gb O) (Ca (Va (Da ?_))))))));refine Aa (Yh O O) (Aa (Jb O) (Ca ?_));refine Pb O O (λhc0=>?_) (λhc0=>?_);refine Da (Aa (Md O) (Aa (Rf O) (Ca ?_)));refine Hc (v:=I s) O O ?_;exact⟨by unfold Oi;simp_all,hF.same⟩;refine Da (Aa (Yh O O) (Aa (Jb O) (Ca ?_)));refine Pb O O (λhc1=>?_) (λhc1=>?_);refine Da (Aa (Md O) ?_);refine Oa hF (Zv s Ba _) (Ma IA O O) ?_;intro w hF;refine Aa (Ri O) (Aa (Dq O O) (Aa (Gj O O) ?_));refine Ye hF pX qZ O ?_;rintro b1 w hb1 hF -;refine Aa (Lb O) (Qb (Tb (He gZ qZ O hF.F 0 O O) ?_));refine Oa hF (Y8 (Oc s).1 (by have:=Wi s;omega) _ (hG.ext hF.same)) (Ma OK O O) ?_;intro w hF;refine Aa (Rf O) (Ca ?_);refine Hc (v:=I (Qh (Oc s).1)) O O ?_;exact⟨by unfold Oi;simp_all,hF.same⟩;refine Da (Aa (Yh O O) (Aa (Jb O) (Ca ?_)));refine Pb O O (λhc2=>?_) (λhc2=>?_);refine Da (Aa (Md O) ?_);refine Oa hF (K5 s (hU hc2) Ba _ (hG.ext hF.same)) (Ma WP O O) ?_;intro w hF;refine Aa (Ri O) (Aa (Kx O O) (Aa (Gj O O) (Aa (Gj O O) (Aa (Rf O) (Aa (Lb O) (Aa (Lb O) (Qb (Aa (Md O) (Aa (Rf O) (Ua ?_))))))))));refine Ga (Hc (v:=I ((Ud s).1)) O O ?_);exact⟨by unfold Oi;simp_all,hF.same⟩;refine Na (Cb (Ga (Da (Aa (Rf O) (Ca ?_)))));refine Hc (v:=I []) O O ?_;exact⟨by unfold Oi;simp_all,hF.same⟩
section
variable {S:Nat->Prop}{w w' w0:World}{ex sm sm1 sm' pre post bs_:List (Nat × Obj)}{pb:Nat}{s:Str}{p p':Ps}{E Ds:List Nat}
theorem F8{α:Type}{l x:List α}{k:Nat}(h:l.take k=x):l=x++l.drop k:=by rw[<-h,List.take_append_drop]
theorem Jp.open_(h:Jp S w ex sm pb s p){n:Nat}(hn:n<p.nodes.length):∃(Ar:Option Addr)(cr g c:Nat)(v1 v2 junk:List Value)(K Q:Option Addr)(kc qc:Nat)(s1 sk sq s2:List (Nat × Obj)),
    sm=(pb,.cells (Br s Ar cr p (some ⟨g,0,none⟩) c).toArray 147)::((g,.cells (v1++(Zp p.nodes[n] K kc Q qc++(v2++junk))).toArray 154)::(s1++(sk++(sq++s2))))/\v1.length=n*7/\NdsAt 3 145 (p.nodes.take n) v1 s1 /\
    SlB 3 1 K p.nodes[n].kids.length kc (p.nodes[n].kids.map (Value.int .i64)) sk/\SlB 145 2 Q p.nodes[n].pcs.length qc (OP p.nodes[n].pcs) sq/\NdsAt 3 145 (p.nodes.drop (n+1)) v2 s2 /\
    p.nodes.length<=c/\c<=maxLen/\(v1++(Zp p.nodes[n] K kc Q qc++(v2++junk))).length=c*7/\Rep S w (Ik p.rest) [.slice Ar p.rest.length cr]:=by
  obtain⟨A,Ar,c,cr,sl,vals,sb,rfl,h1,h2,h3⟩:=h.parts;obtain⟨K,Q,kc,qc,v1,v2,s1,sk,sq,s2,rfl,rfl,g1,g2,g3,g4⟩:=h2.split hn;rcases h1.2 with ⟨h0,-,-⟩|⟨g,cur,rfl,rfl,h4,h5,h6,h7⟩
  ·omega
  have e:cur.toList=v1++(Zp p.nodes[n] K kc Q qc++(v2++cur.toList.drop (p.nodes.length*7))):=by
    have:=F8 h7;rw[sQ,sQ]at this;exact this
  have ec:cur=(v1++(Zp p.nodes[n] K kc Q qc++(v2++cur.toList.drop (p.nodes.length*7)))).toArray:=by rw[<-e]
  refine⟨Ar,cr,g,c,v1,v2,cur.toList.drop (p.nodes.length*7),K,Q,kc,qc,s1,sk,sq,s2,by rw[<-ec];rfl,?_,g1,g2,g3,g4,h4,h5,?_,h3⟩
  ·have := g1.len
   rw[this,List.length_take];congr 1;omega
  rw[<-e];simpa using h6
theorem Vy{l:List Nd}{n:Nat}(hn:n<l.length){x:Nd}{g c:Nat}{v1 v2 junk:List Value}{K Q:Option Addr}{kc qc:Nat}{s1 sk sq s2:List (Nat × Obj)}(hv1:v1.length=n*7)(g1:NdsAt 3 145 (l.take n) v1 s1)(g2:SlB 3 1 K x.kids.length kc (x.kids.map (Value.int .i64)) sk)(g3:SlB 145 2 Q x.pcs.length qc (OP x.pcs) sq)
    (g4:NdsAt 3 145 (l.drop (n+1)) v2 s2) (hc:l.length<=c) (hm:c<=maxLen) (hlen:(v1++(Zp x K kc Q qc++(v2++junk))).length=c*7) :
    SlB 154 7 (some ⟨g,0,none⟩) (l.set n x).length c (v1++(Zp x K kc Q qc++v2)) [(g,.cells (v1++(Zp x K kc Q qc++(v2++junk))).toArray 154)]/\NdsAt 3 145 (l.set n x) (v1++(Zp x K kc Q qc++v2)) (s1++(sk++(sq++s2))):=by
  have hN:=US hn g1 g2 g3 g4;refine⟨⟨hN.len,.inr ⟨g,_,O,O,by rw[List.length_set];exact hc,hm,by simpa using hlen,?_⟩⟩,hN⟩;rw[<-hN.len];rw[show v1++(Zp x K kc Q qc++(v2++junk))=(v1++(Zp x K kc Q qc++v2))++junk from by simp[sQ],List.take_left]
theorem PJ{T g n k:Nat}{v1 nd po:List Value}{v:Value}(hh:w.heap[g]? = some (.cells (v1++(nd++po)).toArray T))(hv1:v1.length=n*7)(hk:nd[k]? = some v):w.cell? ⟨g,n*7+k,none⟩=some v:=by
  rw[Cc hh,List.getElem?_toArray,<-hv1,List.getElem?_append_right Ba,Nat.add_sub_cancel_left,List.getElem?_append_left (List.getElem?_eq_some_iff.1 hk).1];exact hk
theorem OH{n k:Nat}{v1 nd nd' po:List Value}{v:Value}(hv1:v1.length=n*7)(hk:k<nd.length)(hs:nd.set k v=nd'):putA (v1++(nd++po)).toArray (n*7+k) [v]=(v1++(nd'++po)).toArray:=by
  subst hs;rw[Wr];rw[<-hv1,List.set_append_right _ _ Ba,Nat.add_sub_cancel_left,List.set_append_left _ _ hk]
theorem Jp.toFrame{sm0:List (Nat × Obj)}(h:Jp S w ex sm pb s p)(hM:Mc w0 sm0 w (ex++sm)):FR w0 (ids sm0) (ex++sm) w:=⟨hM.same,λq hq=>⟨h.hh q hq,hM.fresh q hq⟩,h.pw⟩
theorem Jp.ofFrame{own sm0:List (Nat × Obj)}(hF:FR w0 (ids sm0) bs_ w)(h0:Off S w0 sm0)(hp:bs_.Perm (own++(ex++sm)))(hparts:∃(A Ar:Option Addr) (c cr:Nat) (sl:List (Nat × Obj)) (vals:List Value) (sb:List (Nat × Obj)),sm=(pb,.cells (Br s Ar cr p A c).toArray 147)::(sl++sb)/\SlB 154 7 A p.nodes.length c vals sl/\NdsAt 3 145 p.nodes vals sb/\Rep S w (Ik p.rest) [.slice Ar p.rest.length cr]) :
    Jp S w ex sm pb s p/\Mc w0 sm0 w (ex++sm):=by
  have hF2:=hF.perm hp.symm;have hd:=List.pairwise_append.1 hF2.desc;refine⟨⟨hparts,λb hb=>⟨Nat.lt_of_lt_of_le (h0 b hb).1 hF.same.size,λhm=>?_⟩,hd.2.1,λq hq=>(hF2.own q (List.mem_append_right _ hq)).1⟩,hF.same,λq hq=>(hF2.own q (List.mem_append_right _ hq)).2⟩;obtain⟨q,hq,rfl⟩:=nQ.1 hm;rcases (hF2.own q (List.mem_append_right _ hq)).2 with h3|h3
  ·have:=(h0 _ hb).1;omega
  exact (h0 _ hb).2 h3
end
def spD(q:Int × Int):D:=.agg [Kh q.1,Kh q.2]
def JZ(x:Nd):D:=.agg [Kh x.k,.agg [Kh (x.f:Nat),Kh (x.t:Nat)],.agg [Kh (x.kf:Nat),Kh (x.kt:Nat)],.slice (x.kids.map Kh),.slice (x.pcs.map spD)]
section
variable {S:Nat->Prop}{w:World}
theorem okI{z:Int}(h1:-1000000000000<=z)(h2:z<=1000000000000):Ry (J z):=⟨by show (-9223372036854775808:Int)<=_;omega,by show _<=(9223372036854775807:Int);omega⟩
theorem Wl{z:Int}(h1:-1000000000000<=z)(h2:z<=1000000000000):Rep S w (Kh z) [J z]:=Rep.lit_mk (okI h1 h2)
theorem T7:∀l:List Int,(∀j∈l,-1000000000000<=j/\j<=1000000000000)->RepL S w (l.map Kh) (l.map (Value.int .i64))
  | [],_=>RepL.nil_mk
  | z::l,h=>RepL.cons_mk (c1:=[J z]) (Wl (h z List.mem_cons_self).1 (h z List.mem_cons_self).2) (T7 l λj hj=>h j (List.mem_cons_of_mem _ hj))
theorem GJ:∀l:List (Int × Int),(∀q∈l,(-1000000000000<=q.1/\q.1<=1000000000000)/\-1000000000000<=q.2/\q.2<=1000000000000)->RepL S w (l.map spD) (OP l)
  | [],_=>RepL.nil_mk
  | q :: l, h => by
    have h1:=h q List.mem_cons_self;exact RepL.cons_mk (c1:=[J q.1,J q.2]) (Rep.agg_mk (RepL.cons_mk (c1:=[J q.1]) (Wl h1.1.1 h1.1.2) (RepL.cons_mk (c1:=[J q.2]) (c2:=[]) (Wl h1.2.1 h1.2.2) RepL.nil_mk))) (GJ l λj hj=>h j (List.mem_cons_of_mem _ hj))
theorem nd_rep{x:Nd}{K Q:Option Addr}{kc qc:Nat}{sk sq:List (Nat × Obj)}(hx:NdOk x)(hk:SlB 3 1 K x.kids.length kc (x.kids.map (Value.int .i64)) sk)(hq:SlB 145 2 Q x.pcs.length qc (OP x.pcs) sq)(h1:∀p∈sk,w.heap[p.1]? = some p.2/\S p.1)(h2:∀p∈sq,w.heap[p.1]? = some p.2/\S p.1):Rep S w (JZ x) (Zp x K kc Q qc):=by
  obtain⟨a1,a2,a3,a4,a5,a6,a7⟩:=hx;refine Rep.agg_mk (RepL.cons_mk (c1:=[_]) (c2:=[_,_,_,_,_,_]) (Wl Ba Ba) (RepL.cons_mk (c1:=[_,_]) (c2:=[_,_,_,_]) (Rep.agg_mk (RepL.cons_mk (c1:=[_]) (c2:=[_]) (Wl Ba Ba) (RepL.cons_mk (c1:=[_]) (c2:=[]) (Wl Ba Ba) RepL.nil_mk)))
    (RepL.cons_mk (c1:=[_,_]) (c2:=[_,_]) (Rep.agg_mk (RepL.cons_mk (c1:=[_]) (c2:=[_]) (Wl Ba Ba) (RepL.cons_mk (c1:=[_]) (c2:=[]) (Wl Ba Ba) RepL.nil_mk)))
      (RepL.cons_mk (c1:=[_]) (c2:=[_]) (hk.repOf h1 (T7 _ λj hj=>by have:=a6 j hj;omega) La) (RepL.cons_mk (c1:=[_]) (c2:=[]) (hq.repOf h2 (GJ _ λq hq'=>by have:=a7 q hq';omega) La) RepL.nil_mk)))))
theorem DY{l:List Nd}{vs:List Value}{sb:List (Nat × Obj)}(h:NdsAt 3 145 l vs sb)(hok:∀x∈l,NdOk x)(hb:∀p∈sb,w.heap[p.1]? = some p.2/\S p.1):RepL S w (l.map JZ) vs:=by
  induction h with
  | nil=>exact RepL.nil_mk
  | cons hk hq _ ih =>
    exact RepL.cons_mk (nd_rep (hok _ List.mem_cons_self) hk hq (λp hp=>hb p (by simp[hp])) (λp hp=>hb p (by simp[hp]))) (ih (λy hy=>hok y (List.mem_cons_of_mem _ hy)) (λp hp=>hb p (by simp[hp])))
theorem BU{x:Nd}{cs:List Value}(h:Rep S w (JZ x) cs):∃K kc Q qc,cs=Zp x K kc Q qc/\Rep S w (.slice (x.kids.map Kh)) [.slice K x.kids.length kc]/\Rep S w (.slice (x.pcs.map spD)) [.slice Q x.pcs.length qc]:=by
  obtain⟨_,_,rfl,h1,h⟩:=RepL.cons_inv (Rep.agg_inv h);obtain⟨_,_,rfl,h2,h⟩:=RepL.cons_inv h;obtain⟨_,_,rfl,h3,h⟩:=RepL.cons_inv h;obtain⟨_,_,rfl,h4,h⟩:=RepL.cons_inv h;obtain⟨_,_,rfl,h5,h⟩:=RepL.cons_inv h;obtain rfl:=RepL.nil_inv h;obtain⟨_,_,rfl,h6,h2⟩:=RepL.cons_inv (Rep.agg_inv h2);obtain⟨_,_,rfl,h7,h2⟩:=RepL.cons_inv h2;obtain rfl:=RepL.nil_inv h2;obtain⟨_,_,rfl,h8,h3⟩:=RepL.cons_inv (Rep.agg_inv h3);obtain⟨_,_,rfl,h9,h3⟩:=RepL.cons_inv h3;obtain rfl:=RepL.nil_inv h3;obtain⟨K,kc,rfl,-⟩:=Rep.slice_inv h4;obtain⟨Q,qc,rfl,-⟩:=Rep.slice_inv h5;simp only[rQ]at h4 h5;simp only[Kh,Rep]at h1 h6 h7 h8 h9;obtain⟨rfl,-⟩:=h1;obtain⟨rfl,-⟩:=h6;obtain⟨rfl,-⟩:=h7;obtain⟨rfl,-⟩:=h8;obtain⟨rfl,-⟩:=h9;exact⟨K,kc,Q,qc,by simp[Zp],h4,h5⟩
theorem NdsAt.soft{l:List Nd}{vs:List Value}{sb:List (Nat × Obj)}(h:NdsAt 3 145 l vs sb):∀q∈sb,∃cs T,q.2=.cells cs T:=by
  induction h with
  | nil=>intro q hq;cases hq
  | cons hk hq _ ih =>
    intro q hm;rcases mQ.1 hm with h1|h1
    ·obtain⟨cur,e⟩:=hk.typ1.2 q h1;exact⟨_,_,e⟩
    rcases mQ.1 h1 with h2|h2
    ·obtain⟨cur,e⟩:=hq.typ1.2 q h2;exact⟨_,_,e⟩
    exact ih q h2
theorem Jp.soft{ex sm:List (Nat × Obj)}{pb:Nat}{s:Str}{p:Ps}(h:Jp S w ex sm pb s p):∀q∈sm,∃cs T,q.2=.cells cs T:=by
  obtain⟨A,Ar,c,cr,sl,vals,sb,rfl,h1,h2,-⟩:=h.parts;intro q hq;rcases oQ.1 hq with rfl|hq
  ·exact⟨_,_,O⟩
  rcases mQ.1 hq with h3|h3
  ·obtain⟨cur,e⟩:=h1.typ1.2 q h3;exact⟨_,_,e⟩
  exact h2.soft q h3
end
end Go.Scarf
