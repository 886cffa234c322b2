/- A part of the proof. -/
import Derived.Test.YtbhneplafiapdaaGreatDoorHi9
set_option linter.all false
set_option maxHeartbeats 8000000
set_option maxRecDepth 10000
namespace Go.Scarf
open Go.RowKit Go.Proofs Go.Proofs.Tryz
theorem KF{w0 w:World}{bs_:List (Nat × Obj)}(hG:Gl w0)(hF:FR w0 [] bs_ w):∀x∈bs_.map (·.1),7<=x/\x<w.heap.size:=λx hx=>by
  refine⟨?_,hF.lt_ids hx⟩;obtain⟨q,hq,rfl⟩:=nQ.1 hx;have:=(hF.own q hq).2;simp only[List.not_mem_nil,or_false]at this;exact fQ hG.size this
theorem A9{w0 w:World}{bs_:List (Nat × Obj)}(hG:Gl w0)(hF:FR w0 [] bs_ w):∀x∈bs_.map (·.1)++KB w0,7<=x/\x<w.heap.size:=λx hx=>by
  rcases mQ.1 hx with hx|hx
  ·exact KF hG hF x hx
  have := Bt.1 hx;exact⟨this.1,Nat.lt_of_lt_of_le this.2 hF.same.size⟩
theorem R9{w0 w w1:World}{L:List Nat}{d:D}{cs:List Value}(h:RX (wE w1) (L++KB w0) w [d] cs):Rep (NewB w0 w) w d cs:=h.rep.weaken λb hb _=>⟨by
  by_cases h8:b<7
  ·exact .inl h8
  have h1 := hb.2.2.1;simp only[mQ,not_or,Bt]at h1;exact .inr Ca,hb.2.1,hb.2.2.2⟩
theorem DF(h:List Cm)(hr:Rb h=true)(hT:∀x∈h,Tg x)(ka kb k0:Nat)(hka:ka<h.length)(hkb:kb<h.length)(he:(List.range h.length).filter (Of h ka kb)=[k0])(hK0:k0<h.length)(mv:Tree × List Cf × Int)(hmv:Oj [] h[k0].val h[ka].val h[kb].val=mv)(hat:OD [] h[k0].val h[ka].val h[kb].val->AR [] 40 (some h[k0].val) (some h[ka].val) (some h[kb].val))(hz:∀k (hk:k<h.length),Jb h[k].val<=256/\Zd h[k].val<=16777216)(A:Option Addr)(c:Nat)(S:Nat->Prop)(w0:World)(hX:Rep S w0 (Zk h) [.slice A h.length c])(hG:Gl w0):Calls prog 22 #[.slice A h.length c,J (ka:Int),J (kb:Int),aQ] w0 (Pd λv w'=>GR mv w0 v w'):=by
 refine Ia func22 O ntmps22 Kb (Ez _ _ _ _) ?_;have hF:=FR.start w0 [];refine Ka (De (cs:=#[J 0,I [],aQ,aQ]) hF oZ O ?_);rintro b1 w hb1 hF -;refine Da (Wj O) (Da (Gd O) (Ec (Da (Od O) (Da (Bc O) (Da (Bc O) (Da (Od O) ?_))))));refine Zb (H9 h hr hT ka kb k0 hka hkb he A c _ _ (hF.rep hX) (hG.ext hF.same)) (It EJ O O O O O) ?_;rintro _ w ⟨qa,rfl,hRt,hE⟩;have hV:=RX.made (w0:=w0) (ids:=[b1]) hF.same.size (λx hx=>hF.lt_ids (by simpa using hx)) hRt;rw[M8 hK0]at hV;have hF:=hF.ext hE;clear hE hRt;refine Da (Ct O) (Da (GA O O) (Da (Hw O O) ?_));refine Wl hF oZ bZ O ?_;intro b2 w hb2 hF hE;have hV:=hV.alloc hE hb2;refine Da (Gd O) (Ea (Ha (Ka (Da (Bc O) (Da (Ey O O) (Ea ?_))))));refine Uc O O (λhc0=>?_) (λhc0=>?_);exact absurd hc0 Ub;refine Sa (Fa (Ha ?_));refine Oh (.of [16]) (bQ [0,1,2,3,4,5,6,7,8,9,10,11] (.act 12 (bQ [13,14,15] (.act 16 (.free 17 (.free 18 .nil)))))) hF ?_;intro w hF hE;have hV:=hV.ext hE;refine⟨λwq=>FR w0 [] _ wq,hF,?_⟩;refine Js O (Lj vQ bZ O C0 0 O O) (Hc O (Od O) (Hc O (Bc O) ?_));obtain⟨ad0,q0,hA0,hk0,hn0,hx0,hy0⟩:=hX.cm_elem (i:=ka) (hka);refine Vb O (v:=.pointer (some (ad0.add (ka*5)))) (λw hC=>Ta (i:=(ka:Int)) Zn O hA0 O Ca Ca) (Vb O (v:=.pointer (some ((ad0.add (ka*5)).add 1))) (λw hC=>We (a:=ad0.add (ka*5)) Cl O) (Vb O (v:=.agg (q0.v.cells).toArray) (λw hC=>Fb (l:=q0.v.cells) vQ bZ O O (Lk (hC.cells0 hk0) 1 O)) (Hc O (Od O) (Hc O (Bc O) ?_))));obtain⟨ad1,q1,hA1,hk1,hn1,hx1,hy1⟩:=hX.cm_elem (i:=kb) (hkb);refine Vb O (v:=.pointer (some (ad1.add (kb*5)))) (λw hC=>Ta (i:=(kb:Int)) Zn O hA1 O Ca Ca) (Vb O (v:=.pointer (some ((ad1.add (kb*5)).add 1))) (λw hC=>We (a:=ad1.add (kb*5)) Cl O) (Vb O (v:=.agg (q1.v.cells).toArray) (λw hC=>Fb (l:=q1.v.cells) vQ bZ O O (Lk (hC.cells0 hk1) 1 O)) (Hc O (Od O) ?_)))
 refine He O (MF [] h[k0].val h[ka].val h[kb].val hat qa q0.v q1.v none 0 _ _ _ (λ_=>True) _ hV.rep (hF.rep hy0) (hF.rep hy1) (Rep.nil_slice 0 Ca none) (λq hq=>by cases hq) (hz k0 hK0) (hz ka hka) (hz kb hkb) (hG.ext hF.same)) (It DQ O O O O O) ?_;rintro _ w ⟨q2,Ac,cc,rfl,hR1,hR2,hE⟩;rw[hmv]at hR1 hR2 ⊢;have hV2:=NewB.rx hR1 (u:=w0) (i:=[b2,b1]++KB w0) (A9 hG hF);have hC2:=NewB.rx hR2 (u:=w0) (i:=[b2,b1]++KB w0) (A9 hG hF);have hF:=hF.ext hE;clear hE hR1 hR2 hV;refine⟨hF,?_⟩;refine Hc O (GA O O) (Hc O (VQ O O) (Hc O (Hw O O) ?_));refine G3 O hF bZ O O W0 ?_;intro w hF hE;have hV2:=hV2.store hE (by grind);have hC2:=hC2.store hE (by grind);refine Hc O (Wj O) (Hc O (Gd O) (Qd (Fa ?_)));refine Yb (Xb (Va (Sp O (l:=q2.cells) O vQ bZ O (hF.cellsAll 1 O) (v:=.slice Ac mv.2.1.length cc) O (y:=J (mv.2.2)) O) ?_));exact⟨q2,Ac,cc,O,R9 hV2,R9 hC2,hF.same⟩
open Go.RowKit
theorem W4{P:Program}{w0 w:World}{Ds:List Nat}{bs_:List (Nat × Obj)}{t ty e m bytes:Nat}{A A2:Option Addr}{n k c2:Nat}{xs news:List Value}(hE:Elems P t e m bytes)
    (hF:FR w0 Ds bs_ w) (hx:xs.length=n*m) (hA:Lie w A n xs) (hk:k≠0)
    (hl:news.length=k*m) (hnews:∃a,A2=some a/\∀j u,news[j]? = some u->w.cell? (a.add j)=some u) (h1:∀u∈news,u.oneCell'=true)
    (h63:n+k<=maxLen) (hbytes:(n+k)*bytes<=140737488355328) :
    ∃A' c' sb' w',(Builtin.append_ #[t,t] ty #[.slice A n n,.slice A2 k c2]).run P w=.ok (.slice A' (n+k) c') w'/\SlB e m A' (n+k) c' (xs++news) sb'/\FR w0 Ds (bs_++(sb'++[])) w'/\Same [] w w'/\∀p∈sb',w.heap.size<=p.1:=by
  obtain⟨i,z,hi,hz,h2,h3,h4⟩:=hE.info;subst h2;subst h3;by_cases hn:n=0
  ·subst hn
   have hxs:xs=[]:=List.eq_nil_of_length_eq_zero (by simpa using hx);subst hxs;have hF':FR w0 Ds (bs_++([]++[])) w:=by simpa using hF
   obtain⟨A',c',sb',w',hr,hS,hF2,hs,hp⟩:=Wo (ty:=ty) (c2:=c2) hE.ht hi hz rfl rfl h4 hF' (SlB.zero e i.size A) hl (λ_=>hnews) h1 h63 hbytes;exact⟨A',c',sb',w',hr,hS,hF2,hs,λp hpm=>(hp p hpm).resolve_left Pa⟩
  obtain⟨a0, rfl, hc⟩ := hA hn;obtain⟨a,rfl,hnw⟩:=hnews;simp only[maxLen]at h63;have hr:=run_append_grow (P:=P) w t ty e i z hE.ht hi hz a0 n n xs hx (Mh hc) a k c2 news hl hnw Ca Ca (growslice_fits Ca hbytes);have hge:=grownCap_ge w (n+k) n e;have hcm:grownCap w (n+k) n e<=maxLen:=grownCap_le_maxLen w (n+k) n e (by simp only[maxLen];omega);have hsm:∀o,Same [] w (w.drew.alloc o):=λo=>(Same.drew w).trans (Same.alloc w.drew _);have hlen:(xs++news).length=(n+k)*i.size:=by rw[dQ,hx,hl,Nat.add_mul]
  have hF':FR w0 Ds (bs_++([]++[])) w:=by simpa using hF
  refine⟨_,_,_,_,hr,⟨hlen,.inr ⟨w.heap.size,_,rfl,rfl,hge,hcm,?_,?_⟩⟩,hF'.insert (hsm _) (heap_alloc_new w.drew _),hsm _,λp hp=>by simp only[pQ]at hp;subst hp;exact gQ _⟩
  ·simp only[Array.size_append, List.size_toArray, size_zeroCells, h4, hx, hl, <- Nat.add_mul]
   congr 1
   omega
  simp only[Array.toList_append, sQ];rw[<-sQ,<-hlen];exact List.take_left
theorem M_(l:List Int):∀d∈l.map Lc,Jc d=1:=λd hd=>by obtain⟨k,_,rfl⟩:=nQ.1 hd;rfl
theorem LD(l:List Cm):∀d∈l.map cmD,Jc d=5:=λd hd=>by obtain⟨k,_,rfl⟩:=nQ.1 hd;exact Y3 k
theorem RepL.litsI{S S':Nat->Prop}{w w':World}:∀{ks:List Int}{cs:List Value},RepL S w (ks.map Lc) cs->RepL S' w' (ks.map Lc) cs
  | [],cs,h=>by have:=RepL.nil_inv h;subst this;exact RepL.nil_mk
  | k :: ks, cs, h => by
    obtain⟨c1,c2,rfl,h1,h2⟩:=RepL.cons_inv h;obtain⟨rfl,h3⟩:=Rep.lit_inv h1;exact RepL.cons_mk (Rep.lit_mk h3) (RepL.litsI h2)
theorem D3{e:Nat}{S:Nat->Prop}{w0 w w':World}{l:List Int}{es:List Value}{v:Value}(h:Hq e 1 l.length es w v w')(hr:RepL S w0 (l.map Lc) es):∃A c,v=.slice A l.length c/\Rep (Btw w w') w' (.slice (l.map Lc)) [.slice A l.length c]/\Same [] w w':=by
  obtain⟨A,c,sb,rfl,hS,hb,hE⟩:=h;exact⟨A,c,O,hS.btw hb hr.litsI Pa,hE⟩
def Iv(a b:Nat)(w:World)(k:Nat):Prop:=a<=k/\k<b/\Soft w k
structure CmAt (w:World) (x:Cm) (q:Mv) (a m b:Nat):Prop where
  n:q.n=x.par.length
  p:Rep (Iv a m w) w (.slice (x.par.map Lc)) [.slice q.A q.n q.c]
  v:Rep (Iv m b w) w (Pb x.val) q.v.cells
  le:a<=m/\m<=b/\b<=w.heap.size
structure Pl where
  q:Mv
  a:Nat
  m:Nat
  b:Nat
def CmsAt(w:World)(a0:Nat):List Cm->List Pl->Nat->Prop
  | [],pl,hi=>pl=[]/\a0<=hi
  | x::l,pl,hi=>∃p pl',pl=p::pl'/\CmAt w x p.q p.a p.m p.b/\a0<=p.a/\CmsAt w p.b l pl' hi
theorem Soft.same{E:List Nat}{w w':World}{k:Nat}(h:Soft w k)(hs:Same E w w')(hk:k∉E):Soft w' k:=by
  obtain⟨cs,T,h⟩:=h;exact⟨cs,T,(hs.block k (Qa h) hk).trans h⟩
theorem Iv.same{E:List Nat}{a b:Nat}{w w':World}{d:D}{cs:List Value}(h:Rep (Iv a b w) w d cs)(hs:Same E w w')(hE:∀k,a<=k->k<b->k∉E):Rep (Iv a b w') w' d cs :=
  (Rep.same h hs λk hk hm=>hE k hm.1 hm.2.1 hk).weaken λk hk _=>⟨hk.1,hk.2.1,hk.2.2.same hs (hE k hk.1 hk.2.1)⟩
theorem CmAt.same{E:List Nat}{w w':World}{x:Cm}{q:Mv}{a m b:Nat}(h:CmAt w x q a m b)(hs:Same E w w')(hE:∀k,a<=k->k<b->k∉E):CmAt w' x q a m b :=
  ⟨h.n,Iv.same h.p hs (λk h1 h2=>hE k h1 (by have:=h.le;omega)),Iv.same h.v hs (λk h1 h2=>hE k (by have:=h.le;omega) h2),h.le.1,h.le.2.1,fQ h.le.2.2 hs.size⟩
theorem CmsAt.le{w:World}:∀{l:List Cm}{a0:Nat}{pl:List Pl}{hi:Nat},CmsAt w a0 l pl hi->a0<=hi
  | [],_,_,_,h=>h.2
  | x::l,_,_,_,⟨p,pl',_,h1,h2,h3⟩=>by have:=h1.le;have:=CmsAt.le h3;omega
theorem CmsAt.len{w:World}:∀{l:List Cm}{a0:Nat}{pl:List Pl}{hi:Nat},CmsAt w a0 l pl hi->pl.length=l.length
  | [],_,_,_,h=>by rw[h.1];rfl
  | x::l,_,_,_,⟨p,pl',he,h1,h2,h3⟩=>by rw[he,kQ,CmsAt.len h3,kQ]
def N3(pl:List Pl)(k:Nat):Prop:=∀p∈pl,k<p.a\/p.b<=k
theorem CmsAt.same{E:List Nat}{w w':World}:∀{l:List Cm}{a0:Nat}{pl:List Pl}{hi:Nat},CmsAt w a0 l pl hi->Same E w w'->(∀k∈E,N3 pl k)->CmsAt w' a0 l pl hi
  | [],_,_,_,h,_,_=>h
  | x :: l, _, _, _, ⟨p, pl', he, h1, h2, h3⟩, hs, hE => by
    subst he;exact⟨p,pl',rfl,h1.same hs (λk hk1 hk2 hm=>by rcases hE k hm p Pa with h|h <;> omega),h2,h3.same hs λk hk q hq=>hE k hk q (by simp[hq])⟩
theorem CmsAt.ext{w w':World}{l:List Cm}{a0:Nat}{pl:List Pl}{hi:Nat}(h:CmsAt w a0 l pl hi)(hs:Same [] w w'):CmsAt w' a0 l pl hi:=h.same hs Pa
theorem CmsAt.snoc{w:World}{x:Cm}{p:Pl}{h2:Nat}:∀{l:List Cm}{a0:Nat}{pl:List Pl}{hi:Nat},CmsAt w a0 l pl hi->CmAt w x p.q p.a p.m p.b->hi<=p.a->p.b<=h2->CmsAt w a0 (l++[x]) (pl++[p]) h2
  | [], _, _, _, h, hx, h1, hb => by
    obtain⟨rfl,h0⟩:=h;exact⟨p,[],O,hx,fQ h0 h1,O,hb⟩
  | y::l,_,_,_,⟨q,pl',he,h1,h2',h3⟩,hx,h4,hb=>⟨q,pl'++[p],by rw[he];rfl,h1,h2',h3.snoc hx h4 hb⟩
theorem CmsAt.mem{w:World}:∀{l:List Cm}{a0:Nat}{pl:List Pl}{hi:Nat},CmsAt w a0 l pl hi->∀p∈pl,a0<=p.a/\p.a<=p.b/\p.b<=hi
  | [],_,_,_,h,p,hp=>by rw[h.1]at hp;cases hp
  | x :: l, _, _, _, ⟨q, pl', he, h1, h2, h3⟩, p, hp => by
    subst he;have:=h1.le;rcases oQ.1 hp with rfl|hp
    ·have:=CmsAt.le h3;omega
    have:=CmsAt.mem h3 p hp;omega
theorem CmsAt.at{w:World}:∀{l:List Cm}{a0:Nat}{pl:List Pl}{hi:Nat}(h:CmsAt w a0 l pl hi)(i:Nat)(hi':i<l.length)(hp:i<pl.length),CmAt w l[i] pl[i].q pl[i].a pl[i].m pl[i].b
  | x :: l, _, _, _, ⟨q, pl', he, h1, h2, h3⟩, i, hi', hp => by
    subst he;cases i with
    | zero=>exact h1
    | succ i=>exact CmsAt.at h3 i (by simpa using hi') (by simpa using hp)
theorem CmsAt.apart{w:World}:∀{l:List Cm}{a0:Nat}{pl:List Pl}{hi:Nat}(h:CmsAt w a0 l pl hi)(i j:Nat)(hij:i<j)(hj:j<pl.length),(pl[i]' Ca).b<=pl[j].a
  | [],_,_,_,h,i,j,hij,hj=>by rw[h.1]at hj;cases hj
  | x :: l, _, _, _, ⟨q, pl', he, h1, h2, h3⟩, i, j, hij, hj => by
    subst he;cases j with
    | zero=>omega
    | succ j =>
      cases i with
      | zero=>exact (CmsAt.mem h3 _ (eQ (by simpa using hj))).1
      | succ i=>exact CmsAt.apart h3 i j Ca (by simpa using hj)
def Qq(pl:List Pl):List Value:=pl.flatMap λp=>p.q.cells
theorem Z3(pl:List Pl)(p:Pl):Qq (pl++[p])=Qq pl++p.q.cells:=by simp[Qq]
end Go.Scarf
