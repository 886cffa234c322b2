/- A part of the proof. -/
import Derived.Test.YtbhneplafiapdaaGreatDoorHi9
set_option linter.all false
set_option maxHeartbeats 8000000
set_option maxRecDepth 10000
namespace Go.Scarf
open Go.RowKit Go.Proofs Go.Proofs.Tryz
theorem IN{w0 w:World}{bs_:List (Nat × Obj)}(hG:Gl w0)(hF:FR w0 [] bs_ w):∀x∈bs_.map (·.1),7<=x/\x<w.heap.size:=λx hx=>by
  refine⟨?_,hF.lt_ids hx⟩;obtain⟨q,hq,rfl⟩:=nQ.1 hx;have:=(hF.own q hq).2;simp only[List.not_mem_nil,or_false]at this;exact fQ hG.size this
theorem XD{w0 w:World}{bs_:List (Nat × Obj)}(hG:Gl w0)(hF:FR w0 [] bs_ w):∀x∈bs_.map (·.1)++MF w0,7<=x/\x<w.heap.size:=λx hx=>by
  rcases mQ.1 hx with hx|hx
  ·exact IN hG hF x hx
  have := Oy.1 hx;exact⟨this.1,Nat.lt_of_lt_of_le this.2 hF.same.size⟩
theorem BE{w0 w w1:World}{L:List Nat}{d:D}{cs:List Value}(h:RX (wE w1) (L++MF w0) w [d] cs):Rep (NewB w0 w) w d cs:=h.rep.weaken λb hb _=>⟨by
  by_cases h8:b<7
  ·exact .inl h8
  have h1 := hb.2.2.1;simp only[mQ,not_or,Oy]at h1;exact .inr U,hb.2.1,hb.2.2.2⟩
theorem JM(h:List Cm)(hr:Pc h=true)(hT:∀x∈h,Ai x)(ka kb k0:Nat)(hka:ka<h.length)(hkb:kb<h.length)(he:(List.range h.length).filter (Qh h ka kb)=[k0])(hK0:k0<h.length)(mv:Tree × List Cf × Int)(hmv:Ts [] h[k0].val h[ka].val h[kb].val=mv)(hat:RS [] h[k0].val h[ka].val h[kb].val->TZ [] 40 (some h[k0].val) (some h[ka].val) (some h[kb].val))(hz:∀k (hk:k<h.length),Ub h[k].val<=256/\He h[k].val<=16777216)(A:Option Addr)(c:Nat)(S:Nat->Prop)(w0:World)(hX:Rep S w0 (Xg h) [.slice A h.length c])(hG:Gl w0):Calls prog 22 #[.slice A h.length c,J (ka:Int),J (kb:Int),aQ] w0 (Vd λv w'=>MgO mv w0 v w'):=by
 refine Ka func22 O ntmps22 Mb (H1 _ _ _ _) ?_;have hF:=FR.start w0 [];refine Ia (Ve (cs:=#[J 0,I [],aQ,aQ]) hF vZ O ?_);rintro b1 w hb1 hF -;refine Ca (Vh O) (Ca (Bc O) (Ec (Ca (Kd O) (Ca (Db O) (Ca (Db O) (Ca (Kd O) ?_))))));refine Kc (GE h hr hT ka kb k0 hka hkb he A c _ _ (hF.rep hX) (hG.ext hF.same)) (Iy CR O O O O O) ?_;rintro _ w ⟨qa,rfl,hRt,hE⟩;have hV:=RX.made (w0:=w0) (ids:=[b1]) hF.same.size (λx hx=>hF.lt_ids (by simpa using hx)) hRt;rw[ZD hK0]at hV;have hF:=hF.ext hE;clear hE hRt;refine Ca (Tq O) (Ca (J_ O O) (Ca (Hr O O) ?_));refine Vl hF vZ fZ O ?_;intro b2 w hb2 hF hE;have hV:=hV.alloc hE hb2;refine Ca (Bc O) (Fa (Ha (Ia (Ca (Db O) (Ca (Ep O O) (Fa ?_))))));refine Wb O O (λhc0=>?_) (λhc0=>?_);exact absurd hc0 Cc;refine Ma (Ga (Ha ?_));refine Rj (.of [16]) (bQ [0,1,2,3,4,5,6,7,8,9,10,11] (.act 12 (bQ [13,14,15] (.act 16 (.free 17 (.free 18 .nil)))))) hF ?_;intro w hF hE;have hV:=hV.ext hE;refine⟨λwq=>FR w0 [] _ wq,hF,?_⟩;refine Cp O (Ej xQ fZ O C0 0 O O) (Zc O (Kd O) (Zc O (Db O) ?_));obtain⟨ad0,q0,hA0,hk0,hn0,hx0,hy0⟩:=hX.cm_elem (i:=ka) (hka);refine Pb O (v:=.pointer (some (ad0.add (ka*5)))) (λw hC=>Qa (i:=(ka:Int)) Jf O hA0 O U U) (Pb O (v:=.pointer (some ((ad0.add (ka*5)).add 1))) (λw hC=>Dc (a:=ad0.add (ka*5)) Lh O) (Pb O (v:=.agg (q0.v.cells).toArray) (λw hC=>Hb (l:=q0.v.cells) xQ fZ O O (Sg (hC.cells0 hk0) 1 O)) (Zc O (Kd O) (Zc O (Db O) ?_))));obtain⟨ad1,q1,hA1,hk1,hn1,hx1,hy1⟩:=hX.cm_elem (i:=kb) (hkb);refine Pb O (v:=.pointer (some (ad1.add (kb*5)))) (λw hC=>Qa (i:=(kb:Int)) Jf O hA1 O U U) (Pb O (v:=.pointer (some ((ad1.add (kb*5)).add 1))) (λw hC=>Dc (a:=ad1.add (kb*5)) Lh O) (Pb O (v:=.agg (q1.v.cells).toArray) (λw hC=>Hb (l:=q1.v.cells) xQ fZ O O (Sg (hC.cells0 hk1) 1 O)) (Zc O (Kd O) ?_)))
 refine Tf O (VJ [] h[k0].val h[ka].val h[kb].val hat qa q0.v q1.v none 0 _ _ _ (λ_=>True) _ hV.rep (hF.rep hy0) (hF.rep hy1) (Rep.nil_slice 0 U none) (λq hq=>by cases hq) (hz k0 hK0) (hz ka hka) (hz kb hkb) (hG.ext hF.same)) (Iy MX O O O O O) ?_;rintro _ w ⟨q2,Ac,cc,rfl,hR1,hR2,hE⟩;rw[hmv]at hR1 hR2 ⊢;have hV2:=NewB.rx hR1 (u:=w0) (i:=[b2,b1]++MF w0) (XD hG hF);have hC2:=NewB.rx hR2 (u:=w0) (i:=[b2,b1]++MF w0) (XD hG hF);have hF:=hF.ext hE;clear hE hR1 hR2 hV;refine⟨hF,?_⟩;refine Zc O (J_ O O) (Zc O (OW O O) (Zc O (Hr O O) ?_));refine W1 O hF fZ O O N4 ?_;intro w hF hE;have hV2:=hV2.store hE (by grind);have hC2:=hC2.store hE (by grind);refine Zc O (Vh O) (Zc O (Bc O) (Xd (Ga ?_)));refine Gb (Fb (Pa (Ht O (l:=q2.cells) O xQ fZ O (hF.cellsAll 1 O) (v:=.slice Ac mv.2.1.length cc) O (y:=J (mv.2.2)) O) ?_));exact⟨q2,Ac,cc,O,BE hV2,BE hC2,hF.same⟩
open Go.RowKit
theorem J9{P:Program}{w0 w:World}{Ds:List Nat}{bs_:List (Nat × Obj)}{t ty e m bytes:Nat}{A A2:Option Addr}{n k c2:Nat}{xs news:List Value}(hE:Elems P t e m bytes)
    (hF:FR w0 Ds bs_ w) (hx:xs.length=n*m) (hA:Lie w A n xs) (hk:k≠0)
    (hl:news.length=k*m) (hnews:∃a,A2=some a/\∀j u,news[j]? = some u->w.cell? (a.add j)=some u) (h1:∀u∈news,u.oneCell'=true)
    (h63:n+k<=maxLen) (hbytes:(n+k)*bytes<=140737488355328) :
    ∃A' c' sb' w',(Builtin.append_ #[t,t] ty #[.slice A n n,.slice A2 k c2]).run P w=.ok (.slice A' (n+k) c') w'/\SlB e m A' (n+k) c' (xs++news) sb'/\FR w0 Ds (bs_++(sb'++[])) w'/\Same [] w w'/\∀p∈sb',w.heap.size<=p.1:=by
  obtain⟨i,z,hi,hz,h2,h3,h4⟩:=hE.info;subst h2;subst h3;by_cases hn:n=0
  ·subst hn
   have hxs:xs=[]:=List.eq_nil_of_length_eq_zero (by simpa using hx);subst hxs;have hF':FR w0 Ds (bs_++([]++[])) w:=by simpa using hF
   obtain⟨A',c',sb',w',hr,hS,hF2,hs,hp⟩:=Do (ty:=ty) (c2:=c2) hE.ht hi hz rfl rfl h4 hF' (SlB.zero e i.size A) hl (λ_=>hnews) h1 h63 hbytes;exact⟨A',c',sb',w',hr,hS,hF2,hs,λp hpm=>(hp p hpm).resolve_left Ua⟩
  obtain⟨a0, rfl, hc⟩ := hA hn;obtain⟨a,rfl,hnw⟩:=hnews;simp only[maxLen]at h63;have hr:=run_append_grow (P:=P) w t ty e i z hE.ht hi hz a0 n n xs hx (Xe hc) a k c2 news hl hnw U U (growslice_fits U hbytes);have hge:=grownCap_ge w (n+k) n e;have hcm:grownCap w (n+k) n e<=maxLen:=grownCap_le_maxLen w (n+k) n e (by simp only[maxLen];omega);have hsm:∀o,Same [] w (w.drew.alloc o):=λo=>(Same.drew w).trans (Same.alloc w.drew _);have hlen:(xs++news).length=(n+k)*i.size:=by rw[dQ,hx,hl,Nat.add_mul]
  have hF':FR w0 Ds (bs_++([]++[])) w:=by simpa using hF
  refine⟨_,_,_,_,hr,⟨hlen,.inr ⟨w.heap.size,_,rfl,rfl,hge,hcm,?_,?_⟩⟩,hF'.insert (hsm _) (heap_alloc_new w.drew _),hsm _,λp hp=>by simp only[pQ]at hp;subst hp;exact gQ _⟩
  ·simp only[Array.size_append, List.size_toArray, size_zeroCells, h4, hx, hl, <- Nat.add_mul]
   congr 1
   omega
  simp only[Array.toList_append, sQ];rw[<-sQ,<-hlen];exact List.take_left
theorem R4(l:List Int):∀d∈l.map We,Md d=1:=λd hd=>by obtain⟨k,_,rfl⟩:=nQ.1 hd;rfl
theorem QN(l:List Cm):∀d∈l.map cmD,Md d=5:=λd hd=>by obtain⟨k,_,rfl⟩:=nQ.1 hd;exact B9 k
theorem RepL.litsI{S S':Nat->Prop}{w w':World}:∀{ks:List Int}{cs:List Value},RepL S w (ks.map We) cs->RepL S' w' (ks.map We) cs
  | [],cs,h=>by have:=RepL.nil_inv h;subst this;exact RepL.nil_mk
  | k :: ks, cs, h => by
    obtain⟨c1,c2,rfl,h1,h2⟩:=RepL.cons_inv h;obtain⟨rfl,h3⟩:=Rep.lit_inv h1;exact RepL.cons_mk (Rep.lit_mk h3) (RepL.litsI h2)
theorem F_{e:Nat}{S:Nat->Prop}{w0 w w':World}{l:List Int}{es:List Value}{v:Value}(h:Yt e 1 l.length es w v w')(hr:RepL S w0 (l.map We) es):∃A c,v=.slice A l.length c/\Rep (Btw w w') w' (.slice (l.map We)) [.slice A l.length c]/\Same [] w w':=by
  obtain⟨A,c,sb,rfl,hS,hb,hE⟩:=h;exact⟨A,c,O,hS.btw hb hr.litsI Ua,hE⟩
def Iv(a b:Nat)(w:World)(k:Nat):Prop:=a<=k/\k<b/\Soft w k
structure CmAt (w:World) (x:Cm) (q:Mv) (a m b:Nat):Prop where
  n:q.n=x.par.length
  p:Rep (Iv a m w) w (.slice (x.par.map We)) [.slice q.A q.n q.c]
  v:Rep (Iv m b w) w (Fc x.val) q.v.cells
  le:a<=m/\m<=b/\b<=w.heap.size
structure Pl where
  q:Mv
  a:Nat
  m:Nat
  b:Nat
def CmsAt(w:World)(a0:Nat):List Cm->List Pl->Nat->Prop
  | [],pl,hi=>pl=[]/\a0<=hi
  | x::l,pl,hi=>∃p pl',pl=p::pl'/\CmAt w x p.q p.a p.m p.b/\a0<=p.a/\CmsAt w p.b l pl' hi
theorem Soft.same{E:List Nat}{w w':World}{k:Nat}(h:Soft w k)(hs:Same E w w')(hk:k∉E):Soft w' k:=by
  obtain⟨cs,T,h⟩:=h;exact⟨cs,T,(hs.block k (Wa h) hk).trans h⟩
theorem Iv.same{E:List Nat}{a b:Nat}{w w':World}{d:D}{cs:List Value}(h:Rep (Iv a b w) w d cs)(hs:Same E w w')(hE:∀k,a<=k->k<b->k∉E):Rep (Iv a b w') w' d cs :=
  (Rep.same h hs λk hk hm=>hE k hm.1 hm.2.1 hk).weaken λk hk _=>⟨hk.1,hk.2.1,hk.2.2.same hs (hE k hk.1 hk.2.1)⟩
theorem CmAt.same{E:List Nat}{w w':World}{x:Cm}{q:Mv}{a m b:Nat}(h:CmAt w x q a m b)(hs:Same E w w')(hE:∀k,a<=k->k<b->k∉E):CmAt w' x q a m b :=
  ⟨h.n,Iv.same h.p hs (λk h1 h2=>hE k h1 (by have:=h.le;omega)),Iv.same h.v hs (λk h1 h2=>hE k (by have:=h.le;omega) h2),h.le.1,h.le.2.1,fQ h.le.2.2 hs.size⟩
theorem CmsAt.le{w:World}:∀{l:List Cm}{a0:Nat}{pl:List Pl}{hi:Nat},CmsAt w a0 l pl hi->a0<=hi
  | [],_,_,_,h=>h.2
  | x::l,_,_,_,⟨p,pl',_,h1,h2,h3⟩=>by have:=h1.le;have:=CmsAt.le h3;omega
theorem CmsAt.len{w:World}:∀{l:List Cm}{a0:Nat}{pl:List Pl}{hi:Nat},CmsAt w a0 l pl hi->pl.length=l.length
  | [],_,_,_,h=>by rw[h.1];rfl
  | x::l,_,_,_,⟨p,pl',he,h1,h2,h3⟩=>by rw[he,kQ,CmsAt.len h3,kQ]
def Dr(pl:List Pl)(k:Nat):Prop:=∀p∈pl,k<p.a\/p.b<=k
theorem CmsAt.same{E:List Nat}{w w':World}:∀{l:List Cm}{a0:Nat}{pl:List Pl}{hi:Nat},CmsAt w a0 l pl hi->Same E w w'->(∀k∈E,Dr pl k)->CmsAt w' a0 l pl hi
  | [],_,_,_,h,_,_=>h
  | x :: l, _, _, _, ⟨p, pl', he, h1, h2, h3⟩, hs, hE => by
    subst he;exact⟨p,pl',rfl,h1.same hs (λk hk1 hk2 hm=>by rcases hE k hm p Ua with h|h <;> omega),h2,h3.same hs λk hk q hq=>hE k hk q (by simp[hq])⟩
theorem CmsAt.ext{w w':World}{l:List Cm}{a0:Nat}{pl:List Pl}{hi:Nat}(h:CmsAt w a0 l pl hi)(hs:Same [] w w'):CmsAt w' a0 l pl hi:=h.same hs Ua
theorem CmsAt.snoc{w:World}{x:Cm}{p:Pl}{h2:Nat}:∀{l:List Cm}{a0:Nat}{pl:List Pl}{hi:Nat},CmsAt w a0 l pl hi->CmAt w x p.q p.a p.m p.b->hi<=p.a->p.b<=h2->CmsAt w a0 (l++[x]) (pl++[p]) h2
  | [], _, _, _, h, hx, h1, hb => by
    obtain⟨rfl,h0⟩:=h;exact⟨p,[],O,hx,fQ h0 h1,O,hb⟩
  | y::l,_,_,_,⟨q,pl',he,h1,h2',h3⟩,hx,h4,hb=>⟨q,pl'++[p],by rw[he];rfl,h1,h2',h3.snoc hx h4 hb⟩
theorem CmsAt.mem{w:World}:∀{l:List Cm}{a0:Nat}{pl:List Pl}{hi:Nat},CmsAt w a0 l pl hi->∀p∈pl,a0<=p.a/\p.a<=p.b/\p.b<=hi
  | [],_,_,_,h,p,hp=>by rw[h.1]at hp;cases hp
  | x :: l, _, _, _, ⟨q, pl', he, h1, h2, h3⟩, p, hp => by
    subst he;have:=h1.le;rcases oQ.1 hp with rfl|hp
    ·have:=CmsAt.le h3;omega
    have:=CmsAt.mem h3 p hp;omega
theorem CmsAt.at{w:World}:∀{l:List Cm}{a0:Nat}{pl:List Pl}{hi:Nat}(h:CmsAt w a0 l pl hi)(i:Nat)(hi':i<l.length)(hp:i<pl.length),CmAt w l[i] pl[i].q pl[i].a pl[i].m pl[i].b
  | x :: l, _, _, _, ⟨q, pl', he, h1, h2, h3⟩, i, hi', hp => by
    subst he;cases i with
    | zero=>exact h1
    | succ i=>exact CmsAt.at h3 i (by simpa using hi') (by simpa using hp)
theorem CmsAt.apart{w:World}:∀{l:List Cm}{a0:Nat}{pl:List Pl}{hi:Nat}(h:CmsAt w a0 l pl hi)(i j:Nat)(hij:i<j)(hj:j<pl.length),(pl[i]' U).b<=pl[j].a
  | [],_,_,_,h,i,j,hij,hj=>by rw[h.1]at hj;cases hj
  | x :: l, _, _, _, ⟨q, pl', he, h1, h2, h3⟩, i, j, hij, hj => by
    subst he;cases j with
    | zero=>omega
    | succ j =>
      cases i with
      | zero=>exact (CmsAt.mem h3 _ (eQ (by simpa using hj))).1
      | succ i=>exact CmsAt.apart h3 i j U (by simpa using hj)
def Ue(pl:List Pl):List Value:=pl.flatMap λp=>p.q.cells
theorem Vw(pl:List Pl)(p:Pl):Ue (pl++[p])=Ue pl++p.q.cells:=by simp[Ue]
theorem CmsAt.repL{w:World}{S:Nat->Prop}:∀{l:List Cm}{a0:Nat}{pl:List Pl}{hi:Nat},CmsAt w a0 l pl hi->(∀k,a0<=k->k<hi->Soft w k->S k)->RepL S w (l.map cmD) (Ue pl)
  | [],_,_,_,h,_=>by rw[h.1];exact RepL.nil_mk
  | x :: l, a0, _, hi, ⟨p, pl', he, h1, h2, h3⟩, hS => by
    subst he;have hle:=h1.le;have hl3:=CmsAt.le h3;exact RepL.cons_mk (Pt h1.n (h1.p.weaken λk hk _=>hS k (by have:=hk.1;omega) (by have:=hk.2.1;omega) hk.2.2) (h1.v.weaken λk hk _=>hS k (by have:=hk.1;omega) (by have:=hk.2.1;omega) hk.2.2)) (CmsAt.repL h3 λk hk1 hk2 hk3=>hS k U hk2 hk3)
end Go.Scarf
