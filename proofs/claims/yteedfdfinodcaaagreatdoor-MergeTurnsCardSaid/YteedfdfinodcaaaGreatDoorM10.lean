/- A part of the proof. -/
import Derived.Test.YteedfdfinodcaaaGreatDoorM5
set_option linter.all false
set_option maxHeartbeats 8000000
set_option maxRecDepth 10000
set_option synthInstance.maxHeartbeats 0
set_option synthInstance.maxSize 9999
namespace Go.Scarf
open List renaming length->aL
open Go.RowKit Go.Proofs Go.Proofs.Tryz
variable {path:List Str}{y:By}{M e i j kt pb:Nat}{rl:List Rl}{b l r t:Tree}{S:Nat->Prop}{xs:List Tree}{A:Option Addr}{w' w1:World}{sm:List (Nat × Obj)}{cs:List Value}{q:Tree->Bool}{RV v:Value}{x z:Operand}{L:List Cf}{pick:List Int}
theorem accG_succ{f:List Str->Nat->Option Tree->Option Tree->Option Tree->Mo}{n:Nat}{base:List Tree}{x:By}(hj:j<aL base){a pp:List Tree × List Cf}{q:Mo}(ha:Jd f path n base x y j=a)(hp:He path j (n+aL a.2) (x.put j) (y.put j)=pp)(hq:f (path++[Lib.itoa j]) (n+aL (a.2++pp.2)) (some base[j]) (x.item j) (y.item j)=q) :
    Jd f path n base x y (j+1)=(a.1++pp.1++q.1.toList,a.2++pp.2++q.2):=by grind [Jd]
def accG_lens{F:Nat}{n:Nat}{X Y:By}(hX:X=Fc b.items l.items)(hY:Y=Fc b.items r.items)(h:n+Ka l+Ka r<1000)(hj:j<=aL b.items) :
    n+aL (Jd (Je rl F) path n b.items X Y j).2<1000/\(∀m,j<aL b.items->n+aL (Jd (Je rl F) path n b.items X Y j).2+aL (He path j m (X.put j) (Y.put j)).2+Af (X.item j)+Af (Y.item j)<1000):=by
  subst hX hY;have h1:=Ep (f:=Je rl F) (p:=path) (n:=n) (base:=b.items) (x:=Fc b.items l.items) (y:=Fc b.items r.items) (λs n k=>Ll F (path++[s]) n _ _ _) j;have h2:=Gi b.items l.items j hj;have h3:=Gi b.items r.items j hj;have h4:Qa l.items<Ka l:=by cases l;rw[Ka];show Qa _<_;simp only[Tree.items];omega
  have h5:Qa r.items<Ka r:=by cases r;rw[Ka];show Qa _<_;simp only[Tree.items];omega
  refine⟨by_Om,λm hl=>?_⟩;have h6:=Kw path j m ((Fc b.items l.items).put j)<|(Fc b.items r.items).put j;have h7:=B6 b.items l.items j hl;have h8:=B6 b.items r.items j hl;omega
theorem CE(a:Addr)(n:Nat):(a.add n).block=a.block:=by
  unfold Addr.add;grind
theorem Rep.tree_elemS{w:World}{len c:Nat}(h:Rep S w (.slice (Rb xs)) [.slice A len c])(hi:i<aL xs) :
    ∃(ad:Addr)(z:Tv),A=some ad/\S ad.block/\(∀j (hj:j<aL z.cells),w.cell? ((ad.add (i*4)).add j)=some z.cells[j])/\Rep S w (Ta xs[i]) z.cells:=by
  obtain⟨ad,cs,hA,hl,hc,hr⟩:=h.tree_elem hi;obtain⟨z,rfl,-⟩:=Hk hr;obtain⟨A',c',hA',_,_,hk⟩:=Rep.slice_inv h;simp only[List.cons.injEq,Value.slice.injEq,and_true]at hA';obtain⟨rfl,_,_⟩:=hA';have hi':i<aL (Rb xs):=qB
  obtain⟨ad',h1,es,h2,h3⟩:=hk (by intro e;rw[e]at hi';simp at hi');rw[hA]at h1;obtain rfl:=lQ h1;have hes:0<aL es:=by
    obtain⟨g,gl⟩:=h3.get (sz:=4) (λd hd=>by rw[Pc]at hd;obtain⟨k,_,rfl⟩:=nQ.1 hd;exact Eb k) i hi';omega
  exact⟨ad,z,hA,(h2 0 hes).2,hc,hr⟩
def I8{n:Nat}(h:ByOk n y){g:Nat}(hg:g<=n):aL (y.put g)<=64:=fQ (List.length_filterMap_le _ _) (h.gap g hg).1
theorem UM(p:List Str)(g n:Nat)(a b:List Tree):aL (He p g n a b).1<=aL a+aL b+1:=by grind [He]
theorem FN{f:List Str->Nat->Option Tree->Option Tree->Option Tree->Mo}{path:List Str}{n:Nat}{base:List Tree}{x y:By}(hx:ByOk (aL base) x)(hy:ByOk (aL base) y):∀j,j<=aL base->aL (Jd f path n base x y j).1<=130*j
  | 0,_=>cZ _
  | j + 1, hj => by
    have ih:=FN (f:=f) (path:=path) (n:=n) hx hy j kX;have h1:=I8 hx (show j<=aL base by omega);have h2:=I8 hy (show j<=aL base by omega);rw[Jd];have h3:=UM path j (n+aL (Jd f path n base x y j).2) (x.put j)<|y.put j;have h4:∀o:Option Tree,aL o.toList<=1:=λo=>by cases o <;> simp
    have h5:=h4 (f (path++[Lib.itoa j]) (n+((Jd f path n base x y j).2++(He path j (n+aL (Jd f path n base x y j).2) (x.put j)<|y.put j).2).length) base[j]? (x.item j) (y.item j)).1;simp only[dQ]at h5 ⊢;omega
def X6{k:Nat}{x:Tree}(h:y.item k=some x):x∈y.items:=Qm h
def N8(ht:TinyT t)(hy:y.items=t.items)(k:Nat):TinyO (y.item k):=λ_ h=>ht.kid<|hy▸X6 h
def MM(hy:y.items=t.items)(k:Nat){F:Nat}(h:Cb t<=F)(h0:0<F):Ic (y.item k)<F:=by
  cases hk:y.item k with
  | none=>exact h0
  | some x=>exact Nat.lt_of_lt_of_le (F3<|hy▸X6 hk) h
def QD(t:Tree):0<Cb t:=by
  cases t;rw[Cb];omega
def YO(ht:TinyT t)(hy:y=Fc b.items t.items){g:Nat}(hg:g<=aL b.items):TinyT (.node 5 [] [] (y.put g)):=by
  subst hy;exact ht.part (λz hz=>Ig (y:=Fc b.items t.items) hz)<|F_ _ _ _ hg
def RX.madeG{w0 w:World}{i L:List Nat}{sm':List (Nat × Obj)}{d:D}(hw:w0.heap.size<=w.heap.size)(hc:Mc w sm w' sm')(hs:∀x∈ids sm,x∈L)(hi:∀x∈i,x∈L\/x∈ids sm')(hL:∀x∈L,x<w.heap.size)
    (h:Rep (λb=>New w0 L w b\/New w0 L w b\/Nq w sm' w' b) w' d cs):RX w0 i w' [d] cs :=
  .one (h.weaken λb hb _=>by
    have h1:New w0 L w b->New w0 i w' b:=λh=>by
      obtain⟨h1,h2,h3,cs,T,h4⟩:=h;refine⟨h1,Nat.lt_of_lt_of_le h2 hc.same.size,λhm=>?_,cs,T,(hc.same.block b h2 λhm=>h3<|hs _ hm).trans h4⟩;rcases hi b hm with h5|h5
      ·exact h3 h5
      obtain⟨q, hq, e⟩ := nQ.1 h5;rcases hc.fresh q hq with h6|h6
      ·rw[e]at h6;omega
      exact h3<|hs _<|e▸h6
    rcases hb with hb|hb|hb
    ·exact h1 hb
    ·exact h1 hb
    exact⟨fQ hw hb.1.1,hb.1.2.1,λhm=>(hi b hm).elim (λh5=>by have:=hL b h5;have:=hb.1.1;omega) hb.2,hb.1.2.2⟩)
theorem gaps_c(rl:List Rl)(F:Nat)(hat:AtC rl F)(i:List Nat)(w0:World)(sm:List (Nat × Obj))(pb:Nat)(RV:Value)(cfs:List Cf)(path:List Str)(PA:Option Addr)(pc:Nat)(b l r:Tree)(x y z:Sv)(X Y:By)(ql qr:Yv)(S1 S2:Nat->Prop)(hI:In rl i w0 sm pb RV cfs path PA pc (some b) (some l) (some r) x y z)(hX0:X=Fc b.items l.items)(hY0:Y=Fc b.items r.items)(hqB:ql.B=y.v.B)(hqe:ql.e=y.v.e)(hrB:qr.B=z.v.B)(hre:qr.e=z.v.e)(hSG1:Off S1 w0 sm)(hGl:Rep S1 w0 (R6 (aL b.items+1) X.gap) [.slice ql.G (aL b.items+1) ql.g])(hMl:Rep S1 w0 (.slice (((List.range (aL b.items)).map X.img).map Oe)) [.slice ql.M (aL b.items) ql.m])(hSG2:Off S2 w0 sm)(hGr:Rep S2 w0 (R6 (aL b.items+1) Y.gap) [.slice qr.G (aL b.items+1) qr.g])(hMr:Rep S2 w0 (.slice (((List.range (aL b.items)).map Y.img).map Oe)) [.slice qr.M (aL b.items) qr.m])(hb64:aL b.items<=64)(hl64:aL l.items<=64)(hr64:aL r.items<=64)(hdp:Cb l<=F)(hpn:aL path+F<=899):Calls prog 83 #[V pb,.slice PA (aL path) pc,.agg (x.v.cells).toArray,.agg (ql.cells (aL X.items) (aL b.items)).toArray,.agg (qr.cells (aL Y.items) (aL b.items)).toArray] w0 (Qb λv w'=>Out i w0 sm pb RV cfs (Rq (Je rl F) path (aL cfs) b.items X Y) v w'):=by
 obtain⟨S,hSo,hT⟩:=hI.tri;obtain⟨SP,hPo,hP⟩:=hI.pth;obtain⟨SR,hRo,hRR⟩:=hI.rul;obtain⟨hx,hy,hz⟩:=Uk hT;have htb:=hI.tb b rfl;have htl:=hI.tl l rfl;have htr:=hI.tr r rfl;obtain⟨-,-,-,hxm,-,hxi⟩:=Fe (Nc hx).2.2.2.2;obtain⟨-,-,-,hym,-,hyi⟩:=Fe (Nc hy).2.2.2.2;obtain⟨-,-,-,hzm,-,hzi⟩:=Fe (Nc hz).2.2.2.2;simp only[Ni]at hxm hxi hym hyi hzm hzi;have hXe:X.items=l.items:=by rw[hX0];rfl
 have hYe:Y.items=r.items:=by rw[hY0];rfl
 have hXi:Rep S w0 (.slice<|Rb X.items) [.slice ql.B (aL X.items) ql.e]:=by rw[hXe,hqB,hqe,<-hym];exact hyi
 have hYi:Rep S w0 (.slice<|Rb Y.items) [.slice qr.B (aL Y.items) qr.e]:=by rw[hYe,hrB,hre,<-hzm];exact hzi
 have hXo:ByOk (aL b.items) X:=hX0▸KW b.items l.items hl64;have hYo:ByOk (aL b.items) Y:=hY0▸KW b.items r.items hr64;refine Bc func83 ntmps83 O O ?_;have hF:FR w0 (ids sm) ([]++(sm++[])) w0:=hI.mi.start;refine rn 3 ?_;rintro b1 w hb1 hF -;refine rn 1 ?_;rintro b2 w hb2 hF -;refine rn 1 ?_;rintro b3 w hb3 hF -;refine rn 1 ?_;rintro b4 w hb4 hF -;refine rn 4<|Ca (w':=w) (v:=.agg #[J 5,I [],aQ,aQ]) Gb ?_;refine rn 1 ?_;rintro b5 w hb5 hF -;refine rn 8<|Kc Ui ?_;refine rn 4 ?_;refine Wa (λμ σ w=>∃(j:Nat),∃(ac:List Tree),∃(cf1:List Cf),∃(sm1:List (Nat × Obj)),∃(A2:Option Addr),∃(c2:Nat),∃(si:List (Nat × Obj)),∃(vals:List Value),μ=aL b.items-j/\(j<=aL b.items)/\(Jd (Je rl F) path (aL cfs) b.items X Y j=(ac,cf1))/\(SlB 25 4 A2 (aL ac) c2 vals si)/\(∀p∈si,w0.heap.size<=p.1)/\(RX w0 ([b5,b4,b3,b2,b1]++(i++(ids sm1++ids si))) w (ac.map Ta) vals)/\(Mx ([b5,b4,b3,b2,b1]++(i++(ids sm1++ids si))) w sm1 pb RV<|cfs++cf1)/\AllEq σ [(0,V pb),(1,.slice PA (aL path) pc),(7,V b1),(8,V b2),(9,V b3),(10,V b4),(11,V b5),(18,J<|((x.v.m:Nat):Int)+1),(19,J<|(j:Int))]/\FR w0 (ids sm) ([(b5,.cells #[J 5,I [],aQ,.slice A2 (aL ac) c2] 25),(b4,.cells #[.bool false,J 0,I [],aQ,aQ] 36),(b3,.cells #[.slice qr.B (aL Y.items) qr.e,.slice (qr.G) ((aL b.items+1)) qr.g,.slice qr.M (aL b.items) qr.m] 112),(b2,.cells #[.slice ql.B (aL X.items) ql.e,.slice (ql.G) ((aL b.items+1)) ql.g,.slice ql.M (aL b.items) ql.m] 112),(b1,.cells (x.v.cells).toArray 25)]++(sm1++(si++[]))) w) _ ⟨0,[],[],sm,none,0,[],[],rfl,cZ _,rfl,SlB.nil _ _,Da,RX.nil,by rw[qQ];exact (hI.mi.at hI.g hF (L:=[b5,b4,b3,b2,b1]) Da).m.sub qA,Ib,hF⟩ ?_;rintro μ σ w ⟨j,ac,cf1,sm1,A2,c2,si,vals,rfl,hj,hac,hI2,hin,hV,hM,hzz,hF⟩
 have hgl:=FN (f:=Je rl F) (path:=path) (n:=aL cfs) hXo hYo j hj;rw[hac]at hgl;simp only at hgl;have hln:=accG_lens (rl:=rl) (F:=F) (path:=path) (n:=aL cfs) (b:=b) (l:=l) (r:=r) hX0 hY0 hI.cnt hj;rw[hac]at hln;simp only at hln;refine Tf hzz 7 ⟨λhc0=>?_,λhc0=>?_⟩
 ·
  refine rn 3<|Sc (λσ w=>∃(w3:World),∃(sm3:List (Nat × Obj)),∃(ac3:List Tree),∃(cf3:List Cf),∃(A3:Option Addr),∃(c3:Nat),∃(si3:List (Nat × Obj)),∃(vals3:List Value),∃(L3:List Nat),∃(E3:List Nat),(Jd (Je rl F) path (aL cfs) b.items X Y (j+1)=(ac3,cf3))/\(j<aL b.items)/\(SlB 25 4 A3 (aL ac3) c3 vals3 si3)/\(∀p∈si3,w0.heap.size<=p.1)/\(RX w0 L3 w3 (ac3.map Ta) vals3)/\(Mx L3 w3 sm3 pb RV<|cfs++cf3)/\(Same E3 w3 w)/\(∀x∈E3,x∈L3)/\(∀x∈([b5,b4,b3,b2,b1]++(i++(ids sm3++ids si3))),x∈L3\/w3.heap.size<=x)/\AllEq σ [(0,V pb),(1,.slice PA (aL path) pc),(7,V b1),(8,V b2),(9,V b3),(10,V b4),(11,V b5),(18,J<|((x.v.m:Nat):Int)+1),(19,J<|(j:Int))]/\FR w0 (ids sm) ([(b5,.cells #[J 5,I [],aQ,.slice A3 (aL ac3) c3] 25),(b4,.cells #[.bool false,J 0,I [],aQ,aQ] 36),(b3,.cells #[.slice qr.B (aL Y.items) qr.e,.slice (qr.G) ((aL b.items+1)) qr.g,.slice qr.M (aL b.items) qr.m] 112),(b2,.cells #[.slice ql.B (aL X.items) ql.e,.slice (ql.G) ((aL b.items+1)) ql.g,.slice ql.M (aL b.items) ql.m] 112),(b1,.cells (x.v.cells).toArray 25)]++(sm3++(si3++[]))) w) ?_ ?_
  ·
   refine rn 2 ?_;obtain⟨wh,hwh⟩:∃u,u=w:=⟨w,rfl⟩;rw[<-hwh]at hV hM;have hs:Same [] wh w:=hwh▸Same.refl [] w;refine rn 6<|Yb (.of [14]) (bQ [0,1,2,3,4,5,6,8,9]<|cQ [7,10,11,12]<|.free 13<|.act 14 .nil) hF ?_;intro w hF hE;have hs:=hs.step hE Da;refine⟨λwq=>FR w0 (ids sm) [(b5,.cells #[J 5,I [],aQ,.slice A2 (aL ac) c2] 25),(b4,.cells #[.bool false,J 0,I [],aQ,aQ] 36),(b3,.cells #[.slice qr.B (aL Y.items) qr.e,.slice (qr.G) ((aL b.items+1)) qr.g,.slice qr.M (aL b.items) qr.m] 112),(b2,.cells #[.slice ql.B (aL X.items) ql.e,.slice (ql.G) ((aL b.items+1)) ql.g,.slice ql.M (aL b.items) ql.m] 112),(b1,.cells (x.v.cells).toArray 25)] wq,hF.mid 0 5,?_⟩;refine rn 9<|Bf (bput_c X (aL b.items) j ql _ _ _ (hI.g.same hF.same hI.off) (hF.repM hSo hXi) (hF.repM hSG1 hGl) hXo kX hb64 λz hz=>htl.kid<|hXe▸hz) ?_;rintro _ w ⟨p0,rfl,hRt,hE⟩;have hP0:=RX.made (ids:=([b5,b4,b3,b2,b1]++(i++(ids sm1++ids si)))) hF.same.size (hI.lt hF) hRt;have hF:=hF.ext hE;have hs:=hs.step hE Da;clear hE hRt;refine⟨hF.su,?_⟩;refine Bf (bput_c Y (aL b.items) j qr _ _ _ (hI.g.same hF.same hI.off) (hF.repM hSo hYi) (hF.repM hSG2 hGr) hYo kX hb64 λz hz=>htr.kid<|hYe▸hz) ?_;rintro _ w ⟨p1,rfl,hRt,hE⟩;have hP1:=RX.made (ids:=([b5,b4,b3,b2,b1]++(i++(ids sm1++ids si)))) hF.same.size (hI.lt hF) hRt;have hF:=hF.ext hE;have hs:=hs.step hE Da;have hP0:=hP0.ext hE;clear hE hRt;refine⟨hF.su,?_⟩;have hlow:=hI.low hF (L:=([b5,b4,b3,b2,b1]++(i++(ids sm1++ids si))));refine Bf (gap_c j (X.put j) (Y.put j) p0 p1 path PA pc _ _ _ _ sm1 pb RV (cfs++cf1) ([b5,b4,b3,b2,b1]++(i++(ids sm1++ids si))) ⟨hM.step hs Da λx hx=>.inl hx,hF.hh,Vb,hlow⟩ (hI.g.same hF.same hI.off) (hF.offM hPo) (hF.repM hPo hP) (Gh Vb) hP0.rep (Gh Vb) hP1.rep (YO htl hX0 kX) (YO htr hY0 kX) wX kX kX) ?_
   rintro _ w2 ⟨sm2,Ag,cg,rfl,hR,hO⟩;obtain⟨pp,hpp⟩:∃pp,pp=He path j (aL (cfs++cf1)) (X.put j) (Y.put j):=⟨_,rfl⟩;rw[<-hpp]at hR hO ⊢;have hpl:=UM path j (aL (cfs++cf1)) (X.put j)<|Y.put j;rw[<-hpp]at hpl;have hpx:=I8 hXo (show j<=aL b.items by omega);have hpy:=I8 hYo (show j<=aL b.items by omega);have hGR:=RX.madeG (i:=(([b5,b4,b3,b2,b1]++(i++(ids sm1++ids si)))++ids sm2)) hF.same.size hO.mc Vb Vb (λx hx=>(hlow x hx).2) hR;have hV:=(hV.step hs Da λx hx=>.inl hx).swap (j:=(([b5,b4,b3,b2,b1]++(i++(ids sm1++ids si)))++ids sm2)) hO.mc Vb Vb;have hM:=hO.m;have hF:=hF.swapM hO.m hO.hh hO.mc;have hw2:=hF.same.size;clear hR hO hP0 hP1 hlow hs;have hsub:∀d∈Rb pp.1,Rc d=4:=λd hd=>by rw[Pc]at hd;obtain⟨t,_,rfl⟩:=nQ.1 hd;exact Eb t
   obtain⟨eG,hrG,hGl_,hGc⟩:=hGR.rep.slice_open hsub;have hs:=Same.refl (b5::ids si) w2;refine⟨hF.su,?_⟩;refine f_appN [_,_,_,_,_] [sm2,si] 1 (news:=eG) (len':=aL (ac++pp.1)) (ys:=vals++eG) rfl M6 hF hI2 rfl rfl (hGl_) (λhk=>by obtain⟨ad,hA,hc⟩:=hGc hk;exact⟨ad,hA,Ve hc⟩) (Cn hrG.one_) qG (by rw[dQ]) (rfl) kX ?_;intro A0 c0 i_0 w hS0_i hF hE hnew;have hni:∀p∈i_0,p.1∈ids si\/w2.heap.size<=p.1:=λp hp=>(hnew p hp).imp id (λh=>fQ hs.size h);have hs:=hs.step hE λb (hb:b∈ids si)=>.inl kH;refine⟨hF.su,?_⟩;refine rn 2 ?_;intro w hF hE;have hs:=hs.step hE qK;refine rn 4 ?_;have hL2:∀x∈([b5,b4,b3,b2,b1]++(i++(ids sm2++ids i_0))),x∈(([b5,b4,b3,b2,b1]++(i++(ids sm1++ids si)))++ids sm2)\/w2.heap.size<=x:=(λx hx=>by simp only[mQ,oQ]at hx ⊢;rcases hx with h|h|h|h;(grind);(grind);(grind);(obtain⟨p,hp,rfl⟩:=nQ.1 h;exact (hni p hp).imp qK id));have hV:=(hV.append hrG).step hs Vb hL2;have hM:=hM.step hs Vb hL2;rw[sQ]at hM;have hin2:=E5 hw2 hin hni;obtain⟨wh,hwh⟩:∃u,u=w:=⟨w,rfl⟩;have hw2h:=hF.same.size;rw[<-hwh]at hV hM;have hs0:=Same.refl [b4] w;have hs:Same [b4] wh w:=hwh▸hs0;have hF:FR w0 (ids sm) ([(b5,.cells #[J 5,I [],aQ,.slice (A0) (aL (ac++pp.1)) c0] 25),(b4,.cells #[.bool false,J 0,I [],aQ,aQ] 36),(b3,.cells #[.slice qr.B (aL Y.items) qr.e,.slice (qr.G) ((aL b.items+1)) qr.g,.slice qr.M (aL b.items) qr.m] 112),(b2,.cells #[.slice ql.B (aL X.items) ql.e,.slice (ql.G) ((aL b.items+1)) ql.g,.slice ql.M (aL b.items) ql.m] 112),(b1,.cells (x.v.cells).toArray 25)]++(sm2++(i_0++[]))) w:=hF;clear hs0 hGR hrG hGc hsub hL2 hni;refine rn 9 ⟨λhc1=>?_,λhc1=>?_⟩
   ·
    refine rn 5<|Sa (Jo ⟨5,[],none,0,0,A0,aL (ac++pp.1),c0⟩) ?_;intro w hF hE;have hs:=hs.step hE Da;refine rn 1 ?_;intro w hF hE;have hs:=hs.step hE qK;refine rn 3 ?_;obtain rfl:j=aL b.items:=by_Om
    have hob:Rq (Je rl F) path (aL cfs) b.items X Y=(some<|.node 5 [] []<|ac++pp.1,cf1++pp.2):=by unfold Rq;simp only[hac];rw[hpp,dQ]
    rw[hob];have hV:=hV.step hs Vb λ_ h=>.inl h;have hM:=hM.step hs Vb λ_ h=>.inl h;refine⟨sm2,⟨true,5,[],none,0,0,A0,aL (ac++pp.1),c0⟩,rfl,?_,⟨hM.sub Vb,hF.hh qX,hF.mc qX⟩⟩;refine Sj (s:=⟨true,.node 5 [] []<|ac++pp.1⟩) (x:=⟨5,[],none,0,0,A0,aL (ac++pp.1),c0⟩)<|Rep.tree_mk ⟨by_Om,by_Om⟩ Da (Rep.nil_slice 0 kX none) ?_;rw[Pc,jQ,<-Pc pp.1];exact hS0_i.nq (pre:=[_,_,_,_,_]) (post:=[]) (bs_:=[]) hF hin2 hV Vb (by simp[Pc])
   refine rn 3<|Sc (λσ w=>∃(w3:World),∃(sm3:List (Nat × Obj)),∃(q:Sv),∃(mo:Mo),∃(bt:Nat),(Jd (Je rl F) path (aL cfs) b.items X Y (j+1)=(ac++pp.1++mo.1.toList,cf1++pp.2++mo.2))/\(RX w0 (bt::(([b5,b4,b3,b2,b1]++(i++(ids sm2++ids i_0)))++ids sm3)) w3 [Xc<|Ni mo.1] q.cells)/\(RX w0 (bt::(([b5,b4,b3,b2,b1]++(i++(ids sm2++ids i_0)))++ids sm3)) w3 (ac.map Ta++Rb pp.1)<|vals++eG)/\(Mx (bt::(([b5,b4,b3,b2,b1]++(i++(ids sm2++ids i_0)))++ids sm3)) w3 sm3 pb RV<|cfs++(cf1++pp.2)++mo.2)/\(w0.heap.size<=w3.heap.size)/\(Same (bt::(b5::ids i_0)) w3 w)/\AllEq σ [(0,V pb),(1,.slice PA (aL path) pc),(7,V b1),(8,V b2),(9,V b3),(10,V b4),(11,V b5),(13,V bt),(18,J<|((x.v.m:Nat):Int)+1),(19,J<|(j:Int))]/\FR w0 (ids sm) ([(bt,.cells (q.cells).toArray 36),(b5,.cells #[J 5,I [],aQ,.slice (A0) (aL (ac++pp.1)) c0] 25),(b4,.cells #[.bool false,J 0,I [],aQ,aQ] 36),(b3,.cells #[.slice qr.B (aL Y.items) qr.e,.slice (qr.G) ((aL b.items+1)) qr.g,.slice qr.M (aL b.items) qr.m] 112),(b2,.cells #[.slice ql.B (aL X.items) ql.e,.slice (ql.G) ((aL b.items+1)) ql.g,.slice ql.M (aL b.items) ql.m] 112),(b1,.cells (x.v.cells).toArray 25)]++(sm3++(i_0++[]))) w) ?_ ?_
   ·
    have hjb:j<aL b.items:=by_Om
    obtain⟨adb,zb,hAb,hsb,hkb,hrb⟩:=hxi.tree_elemS hjb;refine Yb (.of [20]) (bQ [0,1,2,5,6,7,8,9,11,12,14,15]<|.alt 3 (.alt 4 (.alt 10 (.alt 13 (.alt 16 (.free 17<|.alt 18 (.act 19<|.act 20 .nil)<|cQ [19,18,20] .nil)<|.act 19<|.act 16<|.free 17<|.act 18<|.act 20 .nil)<|cQ [19,13,16]<|.free 17<|.act 18<|.act 20 .nil)<|cQ [19,10,13,16]<|.free 17<|.act 18<|.act 20 .nil)<|cQ [19,4,10,13,16]<|.free 17<|.act 18<|.act 20 .nil)<|cQ [19,3,4,10,13,16]<|.free 17<|.act 18<|.act 20 .nil) hF ?_;intro w hF hE;have hs:=hs.step hE Da;refine⟨λwq=>FR w0 (ids sm) [(b5,.cells #[J 5,I [],aQ,.slice (A0) (aL (ac++pp.1)) c0] 25),(b4,.cells #[.bool false,J 0,I [],aQ,aQ] 36),(b3,.cells #[.slice qr.B (aL Y.items) qr.e,.slice (qr.G) ((aL b.items+1)) qr.g,.slice qr.M (aL b.items) qr.m] 112),(b2,.cells #[.slice ql.B (aL X.items) ql.e,.slice (ql.G) ((aL b.items+1)) ql.g,.slice ql.M (aL b.items) ql.m] 112),(b1,.cells (x.v.cells).toArray 25)] wq,hF.mid 0 5,?_⟩;refine rn 6<|Fa O (v:=.pointer<|some<|adb.add<|j*4) (λw hC=>Ea (i:=(j:Int)) Ad hAb) ?_;refine Fa O (v:=.agg (zb.cells).toArray) (λw hC=>Pa (l:=zb.cells) oZ tZ O O λu h=>hC.cellE (hkb u h) (by rw[CE,CE];exact (hSo _ hsb).2)) ?_;refine rn 4 ?_
    repeat' first
     |refine Yq ?_ ?_|refine Qh 3<|Ie (J9 (j:Int) kX kX<|hI.g.same hF.same hI.off) ?_;intro w hF hE;have hs:=hs.step hE Da
     |
      refine Qh 4<|Bf (Ow path (Lib.itoa (j:Int)) PA pc _ _ (hF.repM hPo hP) (fQ (Bw kX) Ra) kX) ?_;rintro _ w ⟨Ap,cp,rfl,hRt,hE⟩
      first|have hPX:=RX.made (ids:=(b301::([b5,b4,b3,b2,b1]++(i++(ids sm2++ids i_0))))) hF.same.size (hI.lt hF) hRt|have hPX:=RX.made (ids:=([b5,b4,b3,b2,b1]++(i++(ids sm2++ids i_0)))) hF.same.size (hI.lt hF) hRt
      have hF:=hF.ext hE;have hs:=hs.step hE Da;clear hE hRt;refine⟨hF.su,?_⟩
     |refine Qh 10<|Ie (Jo zb) ?_;intro w hF hE;have hs:=hs.step hE Da;have hPX:=hPX.ext hE|refine Qh 13<|Bf (ZX X (aL b.items) j ql _ _ _ (hF.repM hSo hXi) (hF.repM hSG1 hMl) hXo hjb hb64) ?_;rintro _ w ⟨q1,rfl,hQ1,hE⟩;have hF:=hF.ext hE;have hs:=hs.step hE Da;have hPX:=hPX.ext hE;refine⟨hF.su,?_⟩|refine Qh 16<|Bf (ZX Y (aL b.items) j qr _ _ _ (hF.repM hSo hYi) (hF.repM hSG2 hMr) hYo hjb hb64) ?_;rintro _ w ⟨q2,rfl,hQ2,hE⟩;have hF:=hF.ext hE;have hs:=hs.step hE Da;have hPX:=hPX.ext hE;have hQ1:=hQ1.ext hE;refine⟨hF.su,?_⟩
     |
      refine Qh 18 ?_
      first|have hlow:=hI.low hF (L:=(b301::([b5,b4,b3,b2,b1]++(i++(ids sm2++ids i_0)))))|have hlow:=hI.low hF (L:=([b5,b4,b3,b2,b1]++(i++(ids sm2++ids i_0))))
      first|(have hLC:∀x∈(b301::([b5,b4,b3,b2,b1]++(i++(ids sm2++ids i_0)))),x∈([b5,b4,b3,b2,b1]++(i++(ids sm2++ids i_0)))\/wh.heap.size<=x:=by intro x hx;first|exact .inl hx|(simp only[oQ]at hx;grind))|(have hLC:∀x∈([b5,b4,b3,b2,b1]++(i++(ids sm2++ids i_0))),x∈([b5,b4,b3,b2,b1]++(i++(ids sm2++ids i_0)))\/wh.heap.size<=x:=by intro x hx;first|exact .inl hx|(simp only[oQ]at hx;grind))
      first|(refine Bf (hat (b301::([b5,b4,b3,b2,b1]++(i++(ids sm2++ids i_0)))) _ sm2 pb RV (cfs++(cf1++pp.2)) (path++[Lib.itoa (j:Int)]) Ap cp (some b.items[j]) (X.item j) (Y.item j) ⟨true,zb⟩ q1 q2 ⟨⟨hM.step hs Da hLC,hF.hh,Vb,hlow⟩,hI.g.same hF.same hI.off,⟨_,Gh Vb,hPX.rep⟩,⟨_,hF.offM hSo,Yn (Sj (s:=⟨true,b.items[j]⟩)<|hF.repM hSo hrb) hQ1 hQ2⟩,⟨_,hF.offM hRo,hF.repM hRo hRR⟩,λ_ h=>lQ h▸htb.kid (eQ _),N8 htl hXe j,N8 htr hYe j,by have:=hln.2 (aL (cfs++cf1)) hjb;rw[<-hpp]at this;simp only[dQ]at this ⊢;omega,Us hI.ptx<|fQ (Bw kX) Ra⟩ (MM hXe j hdp (by have:=QD l;omega)) zK) ?_)|(refine Bf (hat ([b5,b4,b3,b2,b1]++(i++(ids sm2++ids i_0))) _ sm2 pb RV (cfs++(cf1++pp.2)) (path++[Lib.itoa (j:Int)]) Ap cp (some b.items[j]) (X.item j) (Y.item j) ⟨true,zb⟩ q1 q2 ⟨⟨hM.step hs Da hLC,hF.hh,Vb,hlow⟩,hI.g.same hF.same hI.off,⟨_,Gh Vb,hPX.rep⟩,⟨_,hF.offM hSo,Yn (Sj (s:=⟨true,b.items[j]⟩)<|hF.repM hSo hrb) hQ1 hQ2⟩,⟨_,hF.offM hRo,hF.repM hRo hRR⟩,λ_ h=>lQ h▸htb.kid (eQ _),N8 htl hXe j,N8 htr hYe j,by have:=hln.2 (aL (cfs++cf1)) hjb;rw[<-hpp]at this;simp only[dQ]at this ⊢;omega,Us hI.ptx<|fQ (Bw kX) Ra⟩ (MM hXe j hdp (by have:=QD l;omega)) zK) ?_)
      rintro _ w3 ⟨sm3,q,rfl,hR,hO⟩;obtain⟨mo,hmo⟩:∃mo,mo=Je rl F (path++[Lib.itoa (j:Int)]) (aL (cfs++(cf1++pp.2))) (some b.items[j]) (X.item j) (Y.item j):=⟨_,rfl⟩;rw[<-hmo]at hR hO;have hst:Jd (Je rl F) path (aL cfs) b.items X Y (j+1)=(ac++pp.1++mo.1.toList,cf1++pp.2++mo.2):=accG_succ hjb hac (by rw[hpp,dQ]) (by rw[hmo];simp only[dQ])
      first|have hQ:=RX.madeM (i:=((b301::([b5,b4,b3,b2,b1]++(i++(ids sm2++ids i_0))))++ids sm3)) hF.same.size (λx hx=>(mQ.1 hx).imp (λh=>(hlow x h).2) id) hR|have hQ:=RX.madeM (i:=(([b5,b4,b3,b2,b1]++(i++(ids sm2++ids i_0)))++ids sm3)) hF.same.size (λx hx=>(mQ.1 hx).imp (λh=>(hlow x h).2) id) hR
      first|have hV:=(hV.step hs Da hLC).swap (j:=((b301::([b5,b4,b3,b2,b1]++(i++(ids sm2++ids i_0))))++ids sm3)) hO.mc Vb Vb|have hV:=(hV.step hs Da hLC).swap (j:=(([b5,b4,b3,b2,b1]++(i++(ids sm2++ids i_0)))++ids sm3)) hO.mc Vb Vb
      have hM:=hO.m;have hF:=hF.swapM hO.m hO.hh hO.mc;have hw3:=hF.same.size;clear hR hO hPX hQ1 hQ2 hlow hmo hLC hs
      first|have hs:=Same.refl (b301::(b5::ids i_0)) w3|have hs:=Same.refl (b5::ids i_0) w3
      refine⟨hF.su,?_⟩
     |
      refine Qh 19<|rn 1 ?_;intro b301 w hb301 hF hE;have hnb301:=hs.size;rw[<-hb301]at hnb301;have hs:=hs.step hE Da
      try have hPX:=hPX.alloc hE hb301
      try have hQ1:=hQ1.ext hE
      try have hQ2:=hQ2.ext hE
     |refine Qh 20<|rn 1 ?_;intro w hF hE;have hs:=hs.step hE qK|refine rn 1 ?_;exact Ja ⟨w3,sm3,q,mo,b301,hst,hQ.widen,hV.widen,hM.widen,hw3,hs.mono qK,Ib,hF⟩|refine KC 17<|Fa O (v:=.agg #[.bool true,J zb.k,I zb.t,.slice zb.A zb.n zb.c,.slice zb.B zb.m zb.e,.bool q1.h,J q1.v.k,I q1.v.t,.slice q1.v.A q1.v.n q1.v.c,.slice q1.v.B q1.v.m q1.v.e,.bool q2.h,J q2.v.k,I q2.v.t,.slice q2.v.A q2.v.n q2.v.c,.slice q2.v.B q2.v.m q2.v.e]) (λw hC=>by kernel_rfl) ?_
   rintro σ w ⟨w3,sm3,q,mo,bt,hst,hQ,hV,hM,hw3,hs,hzz,hF⟩;refine Kq hzz 2 ?_;have hjb:j<aL b.items:=by_Om
   refine rn 6 ⟨λhc2=>?_,λhc2=>?_⟩
   ·
    obtain⟨v1,hv1,hrv⟩:=M5 hQ.rep hc2;have hQv:=RX.one hrv;refine rn 6 ?_;intro b13 w hb13 hF hE;have hnb13:=hs.size;rw[<-hb13]at hnb13;have hs:=hs.step hE Da;refine LC hS0_i (len':=aL (ac++pp.1++[v1])) (ys:=vals++eG++q.v.cells) (by simp only[dQ,List.length_singleton]) (O) ?_ (h63:=by simp only[maxLen,dQ];omega) (hbytes:=by simp only[dQ];omega);intro A1 c1 i_1 w hS1_i hF hE hnew;have hnk:∀p∈i_1,p.1∈ids i_0\/w3.heap.size<=p.1:=λp hp=>(hnew p hp).imp id (λh=>fQ hs.size h);have hs:=hs.step hE λb (hb:b∈ids i_0)=>.inl kH;refine rn 2 ?_;intro w hF hE;have hs:=hs.step hE qK;refine rn 2 ?_;exact Ja ⟨w3,sm3,ac++pp.1++[v1],cf1++pp.2++mo.2,A1,c1,i_1,vals++eG++q.v.cells,(bt::(([b5,b4,b3,b2,b1]++(i++(ids sm2++ids i_0)))++ids sm3)),(bt::(b5::ids i_0)),by rw[hst,hv1];rfl,hjb,hS1_i,E5 hw3 hin2 hnk,by rw[List.map_append (l₁:=ac++pp.1)];rw[jQ,<-Pc pp.1];exact hV.append hQv,sQ cfs (cf1++pp.2) mo.2▸hM,hs.mono qK,qH,((λx hx=>by simp only[mQ,oQ]at hx ⊢;rcases hx with h|h|h|h;(grind);(grind);(grind);(obtain⟨p,hp,rfl⟩:=nQ.1 h;exact (hnk p hp).imp qK id))),Ib,hF.su⟩
   refine rn 2 ?_;exact Ja ⟨w3,sm3,ac++pp.1,cf1++pp.2++mo.2,A0,c0,i_0,vals++eG,(bt::(([b5,b4,b3,b2,b1]++(i++(ids sm2++ids i_0)))++ids sm3)),(bt::(b5::ids i_0)),by rw[hst,I3 hQ.rep hc2];simp,hjb,hS0_i,hin2,by rw[jQ,<-Pc pp.1];exact hV,sQ cfs (cf1++pp.2) mo.2▸hM,hs,qH,qH,Ib,hF.su⟩
  rintro σ w ⟨w3,sm3,ac3,cf3,A3,c3,si3,vals3,L3,E3,hst2,hjn,hI3,hin3,hV2,hM,hs,hEL,hL3,hzz,hF⟩;refine Kq hzz 2<|Kc (Ce<|((j+1:Nat):Int)) ?_;refine rn 2<|Ja ⟨_,?_,j+1,ac3,cf3,sm3,A3,c3,si3,vals3,O,kX,hst2,hI3,hin3,hV2.step hs hEL hL3,hM.step hs hEL hL3,Ib,hF⟩;omega
 exact absurd hc0 kX
def EachK(w0:World)(bb:Nat)(xs:List Tree)(q:Tree->Bool):Prop:=∀x,x∈xs->∀S w cs,Same [] w0 w->Rep S w (Ta x) cs->Calls prog 103 #[.agg cs.toArray,V bb] w (Qb λv w'=>v=.bool (q x)/\Same [] w w')
def EachK.ext{w0 w:World}{bb:Nat}(h:EachK w0 bb xs q)(hs:Same [] w0 w):EachK w bb xs q:=λx hx S w' cs hw=>h x hx S w' cs<|hs.trans hw
def indexK_c(xs:List Tree)(q:Tree->Bool)(bb:Nat)(B:Option Addr)(e:Nat)(S:Nat->Prop)(w0:World)(hX:Rep S w0 (.slice (Rb xs)) [.slice B (aL xs) e])(hq:EachK w0 bb xs q):Calls prog 68 #[.slice B (aL xs) e,.func (.func 103) #[] #[V bb]] w0 (Qb λv w'=>∃n:Int,v=J n/\decide (0<=n)=xs.any q/\Same [] w0 w'):=by
 have hXl:=hX.slice_len;refine Ga func68 ntmps68 ?_;intro hF;refine rn 14<|Wa (λμ σ w=>∃(j:Nat),μ=aL xs-j/\(j<=aL xs)/\((xs.take j).any q=false)/\AllEq σ [(0,.slice B (aL xs) e),(1,.func (.func 103) #[] #[.pointer<|some<|⟨bb,0,none⟩]),(7,J<|(aL xs:Nat)),(8,J<|(j:Int))]/\FR w0 [] [] w) _ ⟨0,O,cZ _,Da,Ib,hF⟩ ?_;rintro μ σ w ⟨j,rfl,hj,hn,hzz,hF⟩;refine Tf hzz 7 ⟨λhc0=>?_,λhc0=>?_⟩;refine rn 15 ?_;obtain⟨ad0,cs0,hA0,hl0,hk0,hx0⟩:=hX.tree_elem (i:=j) kX;have ho0:=hx0.one_;refine Ca (v:=.pointer<|some<|ad0.add<|j*4) (Ea (i:=(j:Int)) Ad hA0)<|Ca (v:=.agg<|List.toArray cs0) (Pa (l:=cs0) oZ tZ O hl0<|hF.cells0 hk0) ?_;refine Wl hF (hq _ (List.getElem_mem (l:=xs) (n:=j) kX) _ _ _ hF.same<|hF.rep hx0) (Ze O en_103 O O) ?_;intro w hF;refine rn 3 ⟨λhc1=>?_,λhc1=>?_⟩;refine rn 7 ?_;exact⟨_,O,by rw[List.any_eq_true.2 ⟨_,List.getElem_mem (l:=xs) (n:=j) kX,hc1⟩];simp,hF.same⟩;refine rn 4<|Kc Ui ?_;refine rn 2<|Ja ⟨_,?_,j+1,O,kX,W3 kX hn hc1,Ib,hF⟩;omega;refine rn 8 ?_;have eT:xs.take j=xs:=dZ kX;rw[eT]at hn;exact⟨_,O,by rw[hn];decide,hF.same⟩
def HM(xs:List Tree)(q:Tree->Bool)(bb:Nat)(B:Option Addr)(e:Nat)(S:Nat->Prop)(w0:World)(hX:Rep S w0 (.slice (Rb xs)) [.slice B (aL xs) e])(hq:EachK w0 bb xs q):Calls prog 37 #[.slice B (aL xs) e,.func (.func 103) #[] #[V bb]] w0 (Qb λv w'=>v=.bool (xs.any q)/\Same [] w0 w'):=by
 refine Ga func37 ntmps37 ?_;intro hF;refine rn 9<|Gc (indexK_c xs q bb B e S _ (hF.rep hX)<|hq.ext hF.same) ?_;rintro _ w ⟨n,rfl,hn,hE⟩;have hF:=hF.ext hE;refine rn 5 ?_;exact⟨xQ Value.bool hn,hF.same⟩
def allCl_c(x:Tree)(key:Str)(bb:Nat)(hsz:Ka x<=1000000000)(hm:Kb x<=1073741824)(S:Nat->Prop)(w0:World)(cs:List Value)(hR:Rep S w0 (Ta x) cs)(hG:Gl w0)(hb:w0.cell? ⟨bb,0,none⟩=some (I key)):Calls prog 103 #[.agg cs.toArray,V bb] w0 (Qb λv w'=>v=.bool (!(Fl x key).isSome)/\Same [] w0 w'):=by
 have hl:aL cs=4:=hR.length.trans<|Eb x;have ho:=hR.one_;refine Ga func103 ntmps103 ?_;intro hF;refine rn 2<|Oi (v:=.agg<|List.toArray cs) (cs:=(List.toArray cs)) hF O O ?_;rintro b1 w hb1 hF -;refine rn 5<|Ca (v:=.agg<|List.toArray cs) (Pa (l:=cs) oZ tZ O hl<|hF.cellsAll 0 O)<|Ca (v:=I key) (Ma sZ<|hF.cell0 hb) ?_;refine Gc (TP x key hsz hm cs (hF.rep hR)<|hG.ext hF.same) ?_;rintro _ w ⟨A1,c1,rfl,hL,hE⟩;have hF:=hF.ext hE;clear hE hL;refine rn 15 ?_;exact⟨O,hF.same⟩
def allK_c(key:Str)(xs:List Tree)(B:Option Addr)(e:Nat)(S:Nat->Prop)(w0:World)(hX:Rep S w0 (.slice (Rb xs)) [.slice B (aL xs) e])(hs:∀x∈xs,Ka x<=1000000000/\Kb x<=1073741824)(hG:Gl w0):Calls prog 80 #[I key,.slice B (aL xs) e] w0 (Qb λv w'=>v=.bool (xs.all λx=>(Fl x key).isSome)/\Same [] w0 w'):=by
 have hXl:=hX.slice_len;refine Ga func80 ntmps80 ?_;intro hF;refine rn 3 ?_;rintro b1 w hb1 hF -;refine rn 6<|Ca (v:=.func (.func 103) #[] #[V b1]) Jf ?_;refine Sa (HM xs (λx=>!(Fl x key).isSome) b1 B e _ _ (hF.rep hX) λx hx S w cs hw hr=>allCl_c x key b1 (hs x hx).1 (hs x hx).2 S w cs hr (hG.ext<|hF.same.trans hw)<|Same.cell hw<|hF.cell 0 O O) ?_;rintro w hF -;refine rn 5 ?_;exact⟨xQ Value.bool (by rw[List.not_any_eq_all_not];simp),hF.same⟩
theorem FR.boxM{w0 w:World}{Ds i:List Nat}{bs_ pre post:List (Nat × Obj)}{cfs:List Cf}(hF:FR w0 Ds bs_ w)(hM:Mx i w1 sm pb RV cfs)(hsp:Spl bs_ pre sm post:=by repeat (first|exact Spl.z|apply Spl.c|apply Spl.a)):w.cell? ⟨pb,0,none⟩=some RV:=by
  obtain⟨A,c,sl,vals,rfl,-,-⟩:=hM.ex;have h:=hF.hh hsp _ zQ;rw[Ua h 0];rfl
theorem rv_is{w:World}(h:Rep S w (Co rl) [RV]):∃A c,RV=.slice A rl.length c:=by
  obtain⟨A,c,e⟩:=Rep.slice_is h;grind
def KnC(rl:List Rl)(F:Nat):Prop:=∀(key:Str)(i:List Nat)(w0:World)(sm:List (Nat × Obj))(pb:Nat)(RV:Value)(cfs:List Cf)(path:List Str)(PA:Option Addr)(pc:Nat)(b l r:Tree)(x y z:Sv),
  In rl i w0 sm pb RV cfs path PA pc (some b) (some l) (some r) x y z->LI key b l r=true->Cb l<=F->aL path+F<=899 ->
  Calls prog 81 #[V pb,.slice PA (aL path) pc,I key,.agg (th x y z).toArray] w0 (Qb λv w'=>Out i w0 sm pb RV cfs (Av (Je rl F) path (aL cfs) key b l r) v w')
theorem CN:¬(Lh [] path).isSome=true:=by grind [findR_nil]
theorem arr_key{f:List Str->Nat->Option Tree->Option Tree->Option Tree->Mo}{n:Nat}(h:(Lh rl path).isSome=true)(ha:LI ((Lh rl path).getD []) b l r=true):Sf rl f path n b l r=Av f path n ((Lh rl path).getD []) b l r:=by
  unfold Sf;grind
theorem VV{f:List Str->Nat->Option Tree->Option Tree->Option Tree->Mo}{n:Nat}(h:¬(Lh rl path).isSome=true\/LI ((Lh rl path).getD []) b l r=false):Sf rl f path n b l r=Sf.gapM f path n b l r:=by
  unfold Sf;grind
def allK_eq(key:Str)(b l r:Tree):([b,l,r].all λx=>(Fl x key).isSome)=LI key b l r:=by simp[LI]
theorem XO(rl:List Rl)(F:Nat)(hat:AtC rl F)(hkn:rl=[]\/KnC rl F):MtC 48 rl F 5 (Sf rl (Je rl F)):=by
 intro i w0 sm pb RV cfs path PA pc b l r x y z hI h5b h5l h5r hne hdp hpn;obtain⟨S,hSo,hT⟩:=hI.tri;obtain⟨SP,hPo,hP⟩:=hI.pth;obtain⟨SR,hRo,hRR⟩:=hI.rul;obtain⟨rA,rc,rfl⟩:=rv_is hRR;obtain⟨hx,hy,hz⟩:=Uk hT;have htb:=hI.tb b rfl;have htl:=hI.tl l rfl;have htr:=hI.tr r rfl;have hbt:=(Nc hx).2.2.2.2;have hlt:=(Nc hy).2.2.2.2;have hrt:=(Nc hz).2.2.2.2;simp only[Ni]at hbt hlt hrt;refine Bc func48 ntmps48 O O ?_;have hF:FR w0 (ids sm) ([]++(sm++[])) w0:=hI.mi.start;refine rn 3 ?_;rintro b1 w hb1 hF -;refine rn 1 ?_;rintro b2 w hb2 hF -;refine rn 7<|Ca (v:=.slice rA rl.length rc) (Ma isAgg26<|hF.boxM hI.mi.m) ?_;refine rn 1<|Sa (find_c rl rA rc _ path PA pc _ _ (hF.repM hRo hRR)<|hF.repM hPo hP) ?_;rintro w hF -;refine rn 8<|Sc (λσ w=>(Sf rl (Je rl F) path (aL cfs) b l r=Sf.gapM (Je rl F) path (aL cfs) b l r)/\AllEq σ [(0,V pb),(1,.slice PA (aL path) pc),(5,V b1),(6,V b2)]/\FR w0 (ids sm) ([(b2,.cells #[.bool false,J 0,I [],aQ,aQ] 36),(b1,.cells ((th x y z)).toArray 61)]++(sm++[])) w) ?_ ?_;refine rn 5 ⟨λhg0=>?_,λhg0=>?_⟩;refine rn 11 ?_;rintro b3 w hb3 hF -;have hrow:=hF.rowS 0 rfl (ds:=Rb [b,l,r]) (n:=3) (RepL.cons_mk (hF.repM hSo hbt)<|RepL.cons_mk (hF.repM hSo hlt)<|RepL.cons_mk (c2:=[]) (hF.repM hSo hrt) RepL.nil_mk) rfl kX;refine Sa (Mk (allK_c ((Lh rl path).getD []) [b,l,r] _ _ _ _ hrow (by intro u hu;simp only[oQ,List.not_mem_nil,or_false]at hu;rcases hu with rfl|rfl|rfl;exact⟨htb.ok.sz,fQ htb.2.2 kX⟩;exact⟨htl.ok.sz,fQ htl.2.2 kX⟩;exact⟨htr.ok.sz,fQ htr.2.2 kX⟩)<|hI.g.same hF.same hI.off)<|xQ Value.bool<|allK_eq _ b l r) ?_;rintro w hF -;refine rn 4 ⟨λhc0=>?_,λhc0=>?_⟩;refine rn 6 ?_;refine Gc ((hkn.resolve_left (by rintro rfl;exact CN hg0)) _ _ _ _ _ _ _ _ _ _ _ _ _ _ _ _ (hI.at hF (L:=[b3,b2,b1]) Da) hc0 hdp hpn) ?_
 rintro _ w2 ⟨sm2,q,rfl,hR,hO⟩;have hFa:=hF;clear hF;have hF:=hFa.swapM hO.m hO.hh hO.mc;refine rn 1 ?_;intro w hF hE;have hS2:Same [b3,b2,b1] w2 w:=hE.mono Da;refine rn 3 ?_;exact Out.pass hI.mi hFa qX hR hO hS2 Da hF qX<|arr_key hg0 hc0;refine rn 1 ?_;exact Ja ⟨VV rX,Ib,hF.drop 1⟩;refine rn 17 ?_;exact Ja ⟨VV rX,Ib,hF⟩;rintro σ w ⟨hno,hzz,hF⟩;refine Kq hzz 9 ?_;by_cases hel:Pe b.items=0/\Pe l.items=0;refine Gc (KA b l x.v y.v _ _ _ (hI.g.same hF.same hI.off) (hF.repM hSo hbt) (hF.repM hSo hlt) htb htl hel.1 hel.2) ?_;rintro _ w ⟨ql,hB0,he0,rfl,hR1,hR2,hE⟩;have hG0:=RX.made (ids:=([b2,b1]++i)) hF.same.size (hF.ltD hI.mi.low Da) hR1;have hM0:=RX.made (ids:=([b2,b1]++i)) hF.same.size (hF.ltD hI.mi.low Da) hR2;have hF:=hF.ext hE;clear hE hR1 hR2;refine rn 4 ?_;intro b4 w hb4 hF hE;have hG0:=hG0.alloc hE hb4;have hM0:=hM0.alloc hE hb4;refine rn 11 ?_;by_cases her:Pe b.items=0/\Pe r.items=0;refine Gc (KA b r x.v z.v _ _ _ (hI.g.same hF.same hI.off) (hF.repM hSo hbt) (hF.repM hSo hrt) htb htr her.1 her.2) ?_;rintro _ w ⟨qr,hB1,he1,rfl,hR1,hR2,hE⟩;have hG1:=RX.made (ids:=([b4,b2,b1]++i)) hF.same.size (hF.ltD hI.mi.low Da) hR1;have hM1:=RX.made (ids:=([b4,b2,b1]++i)) hF.same.size (hF.ltD hI.mi.low Da) hR2;have hF:=hF.ext hE;have hG0:=hG0.ext hE;have hM0:=hM0.ext hE;clear hE hR1 hR2;refine rn 4 ?_;intro b5 w hb5 hF hE;have hG0:=hG0.alloc hE hb5;have hM0:=hM0.alloc hE hb5;have hG1:=hG1.alloc hE hb5;have hM1:=hM1.alloc hE hb5;refine rn 26 ?_;refine Gc (gaps_c rl F hat ([b5,b4,b2,b1]++i) _ sm pb _ cfs path PA pc b l r x y z (Fc b.items l.items) (Fc b.items r.items) ql qr (New w0 ([b5,b4,b2,b1]++i) _) (New w0 ([b5,b4,b2,b1]++i) _) (hI.at hF (L:=[b5,b4,b2,b1]) Da) rfl rfl hB0 he0 hB1 he1 (Gh (by intro x hx;have:=hI.mi.sub x hx;simp[this])) (hG0.sub Da).rep (hM0.sub Da).rep (Gh (by intro x hx;have:=hI.mi.sub x hx;simp[this])) (hG1.sub Da).rep (hM1.sub Da).rep (Gv hel.1) (Gv hel.2) (Gv her.2) hdp hpn) ?_
 rintro _ w2 ⟨sm2,q,rfl,hR,hO⟩;have hFa:=hF;clear hF;have hF:=hFa.swapM hO.m hO.hh hO.mc;refine rn 1 ?_;intro w hF hE;have hS2:Same [b5,b4,b2,b1] w2 w:=hE.mono Da;refine rn 3 ?_;exact Out.pass hI.mi hFa qX hR hO hS2 Da hF qX (by rw[hno];unfold Sf.gapM;rw[uQ ⟨hel.1,hel.2,her.2⟩]);refine Sa (BH b r x.v z.v _ _ _ (hI.g.same hF.same hI.off) (hF.repM hSo hbt) (hF.repM hSo hrt) htb htr her) ?_;intro w hF hE;have hG0:=hG0.ext hE;have hM0:=hM0.ext hE;refine rn 4 ?_;intro b6 w hb6 hF hE;have hG0:=hG0.alloc hE hb6;have hM0:=hM0.alloc hE hb6;refine rn 20<|Gc (RG (hI.at hF (L:=[b6,b4,b2,b1]) Da) 1) ?_;rintro _ w2 ⟨sm2,q,rfl,hR,hO⟩;have hFa:=hF;clear hF;have hF:=hFa.swapM hO.m hO.hh hO.mc;refine rn 1 ?_;intro w hF hE;have hS2:Same [b6,b4,b2,b1] w2 w:=hE.mono Da;refine rn 3 ?_;exact Out.pass hI.mi hFa qX hR hO hS2 Da hF qX wH;refine Sa (BH b l x.v y.v _ _ _ (hI.g.same hF.same hI.off) (hF.repM hSo hbt) (hF.repM hSo hlt) htb htl hel) ?_;rintro w hF -;refine rn 4 ?_;rintro b7 w hb7 hF -;refine rn 11 ?_;by_cases her:Pe b.items=0/\Pe r.items=0;refine Gc (KA b r x.v z.v _ _ _ (hI.g.same hF.same hI.off) (hF.repM hSo hbt) (hF.repM hSo hrt) htb htr her.1 her.2) ?_;rintro _ w ⟨qr,hB1,he1,rfl,hR1,hR2,hE⟩;have hF:=hF.ext hE;clear hE hR1 hR2;refine rn 4 ?_;rintro b8 w hb8 hF -;refine rn 20<|Gc (RG (hI.at hF (L:=[b8,b7,b2,b1]) Da) 1) ?_;rintro _ w2 ⟨sm2,q,rfl,hR,hO⟩;have hFa:=hF;clear hF;have hF:=hFa.swapM hO.m hO.hh hO.mc;refine rn 1 ?_;intro w hF hE;have hS2:Same [b8,b7,b2,b1] w2 w:=hE.mono Da
 refine rn 3 ?_;exact Out.pass hI.mi hFa qX hR hO hS2 Da hF qX wH;refine Sa (BH b r x.v z.v _ _ _ (hI.g.same hF.same hI.off) (hF.repM hSo hbt) (hF.repM hSo hrt) htb htr her) ?_;rintro w hF -;refine rn 4 ?_;rintro b9 w hb9 hF -;refine rn 20<|Gc (RG (hI.at hF (L:=[b9,b7,b2,b1]) Da) 1) ?_;rintro _ w2 ⟨sm2,q,rfl,hR,hO⟩;have hFa:=hF;clear hF;have hF:=hFa.swapM hO.m hO.hh hO.mc;refine rn 1 ?_;intro w hF hE;have hS2:Same [b9,b7,b2,b1] w2 w:=hE.mono Da;refine rn 3 ?_;exact Out.pass hI.mi hFa qX hR hO hS2 Da hF qX wH
theorem DR:∀F,AtC [] F
  | 0=>λi w0 sm pb RV cfs path PA pc b l r x y z _ h=>absurd h<|Nat.not_lt_zero _
  | F+1=>TX [] F (PF [] F<|DR F)<|XO [] F (DR F)<|.inl rfl
open Go.RowKit
def AllO(Q:Tree->Prop)(o:Option Tree):Prop:=∀x,o=some x->Q x
section
variable {Q:Tree->Prop}{f:Str->Nat->Mo}{n:Nat}{ks:List Str}{gl gr:Str->Option Tree}
theorem ZA(H:∀k n,aL (f k n).2<=Af (gl k)+Af (gr k))(HN:∀k n,n+Af (gl k)+Af (gr k)<1000->AllO Q (f k n).1):∀j,j<=aL ks->n+Wm gl ks+Wm gr ks<1000->∀z∈(Cd f n ks j).1,Q z.2
  | 0,_,_=>λz hz=>by cases hz
  | j + 1, hj, hb => by
    have h1:=Ip (n:=n) (ks:=ks) H j kX;have h2:=Yf gl (ks:=ks) (j:=j) kX;have h3:=Yf gr (ks:=ks) (j:=j) kX;have h4:=Rg gl ks<|j+1;have h5:=Rg gr ks<|j+1;rw[Cd];intro z hz;rcases mQ.1 hz with hz|hz
    ·exact ZA H HN j kX hb z hz
    have hc := HN (ks.getD j []) (n + (aL (Cd f n ks j).2)) kX;generalize (f (ks.getD j [])<|n+aL (Cd f n ks j).2).1=o at hz hc;cases o with
    | none=>cases hz
    | some x=>rw[pQ.1 hz];exact hc x rfl
theorem QH(H:∀k n,Af (f k n).1<=Af (gl k)+Af (gr k)):∀j,j<=aL ks->Qa ((Cd f n ks j).1.map (·.2))<=Wm gl (ks.take j)+Wm gr (ks.take j)
  | 0,_=>by simp[Cd,Qa]
  | j + 1, hj => by
    have ih:=QH H j kX;have h1:=H (ks.getD j [])<|n+aL (Cd f n ks j).2;rw[Cd,jQ,Tc,Yf gl kX,Yf gr kX];have h2:∀o:Option Tree,Qa ((ID (ks.getD j []) o).map (·.2))=Af o:=λo=>by cases o <;> simp[ID,Qa,Af]
    rw[h2];omega
end
section
variable {Q:Tree->Prop}
theorem OP(hq:∀i,i<1000->Q (Lj i)){p:List Str}{g n:Nat}{ys:List Tree}(hx:∀z∈xs,Q z)(hy:∀z∈ys,Q z)(hn:n+Qa xs+Qa ys<=1000):∀z∈(He p g n xs ys).1,Q z:=by grind [He,Ee]
theorem QN(hq:∀i,i<1000->Q (Lj i)){f:Fm}{p:List Str}{n:Nat}{base:List Tree}{x y:By}(hx:∀z∈x.items,Q z)(hy:∀z∈y.items,Q z)
    (H:∀s n k,aL (f (p++[s]) n base[k]? (x.item k) (y.item k)).2<=Af (x.item k)+Af (y.item k))
    (HN:∀s n k,k<aL base->n+Af (x.item k)+Af (y.item k)<1000->AllO Q (f (p++[s]) n base[k]? (x.item k) (y.item k)).1):∀j,j<=aL base->n+wG x j+wG y j<1000->∀z∈(Jd f p n base x y j).1,Q z
  | 0,_,_=>λz hz=>by cases hz
  | j + 1, hj, hb => by
    have h1:=Ep (n:=n) H j;rw[wG,wG]at hb;have h2:=Kw p j (n+aL (Jd f p n base x y j).2) (x.put j)<|y.put j;rw[Jd];intro z hz;rcases mQ.1 hz with hz|hz
    ·rcases mQ.1 hz with hz|hz
     ·exact QN hq hx hy H HN j kX kX z hz
     exact OP hq (λw hw=>hx w<|Ig hw) (λw hw=>hy w<|Ig hw) kX z hz
    have hc := HN (Lib.itoa j) (n + ((Jd f p n base x y j).2 ++ (He p j (n + (aL (Jd f p n base x y j).2)) (x.put j)<|y.put j).2).length) j kX wX;generalize (f (p++[Lib.itoa j]) (n+((Jd f p n base x y j).2++(He p j (n+aL (Jd f p n base x y j).2) (x.put j)<|y.put j).2).length) base[j]? (x.item j) (y.item j)).1=o at hz hc;cases o with
    | none=>cases hz
    | some v=>rw[pQ.1 hz];exact hc v rfl
theorem pickN_all{a:List (Str × Tree)}(h:∀z∈a,Q z.2){id:Str}(hm:id∈a.map (·.1)):Q (Qi a id):=by
  obtain⟨y,hy⟩:=NB (ks:=a.map (·.1)) (xs:=a.map (·.2)) Da hm;unfold Qi;rw[hy,Option.getD_some];obtain⟨z,hz,rfl⟩:=nQ.1<|Oj hy;grind
end
theorem SY(p:List Str)(g n:Nat)(xs ys:List Tree):Qa (He p g n xs ys).1<=Qa xs+Qa ys:=by grind [He,Qa,Ee,Lj,Ka]
theorem FX{f:Fm}{p:List Str}{n:Nat}{base:List Tree}{x y:By}(H:∀s n k,Af (f (p++[s]) n base[k]? (x.item k) (y.item k)).1<=Af (x.item k)+Af (y.item k)):∀j,Qa (Jd f p n base x y j).1<=wG x j+wG y j
  | 0=>by simp[Jd,Qa]
  | j + 1 => by
    have ih:=FX (n:=n) H j;have h1:=SY p j (n+aL (Jd f p n base x y j).2) (x.put j)<|y.put j;have h2:=H (Lib.itoa j) (n+((Jd f p n base x y j).2++(He p j (n+aL (Jd f p n base x y j).2) (x.put j)<|y.put j).2).length) j;have h3:∀o:Option Tree,Qa o.toList=Af o:=λo=>by cases o <;> simp[Qa,Af]
    rw[Jd,Tc,Tc,h3,wG,wG];omega
theorem Wt{p:List Str}{cls:Int}{n:Nat}{b l r:Option Tree}(h:¬Ih l r=true):Af (Fj p cls n b l r).1<=Af l+Af r:=by grind [Sn,Af,Fj,Lj,Ka,Qa]
theorem atM_sz:∀(F:Nat)(p:List Str)(n:Nat)(b l r:Option Tree),Af (Je rl F p n b l r).1<=Af l+Af r:=by
  intro F
  induction F with
  | zero=>grind [Je]
  | succ F ih =>
    intro p n b l r;rw[Je];split
    ·grind
    rename_i c1
    split
    ·grind
    split
    ·grind
    cases b with
    | none=>exact Wt c1
    | some x =>
      cases l with
      | none=>exact Wt c1
      | some y =>
        cases r with
        | none=>exact Wt c1
        | some z =>
          simp only[Lo];split
          ·split
           ·have h1 := QH (n := n) (λk n => ih (p ++ [k]) n (Hd x k) (Hd y k) (Hd z k)) (aL (Ec [y.keys, z.keys])) (gQ _)
            rw[List.take_length]at h1;have h2:=En (Zc [y.keys,z.keys]) y;have h3:=En (Zc [y.keys,z.keys]) z;grind [L9,Af,Ka]
           split
           ·have hgap:Af (Sf.gapM (Je rl F) p n x y z).1<=Af (some y)+Af (some z):=by
              unfold Sf.gapM;split
              ·unfold Rq
               have h1:=FX (n:=n) (base:=x.items) (x:=Fc x.items y.items) (y:=Fc x.items z.items) (λs n k=>ih (p++[s]) n _ _ _) (aL x.items);have h2:=SY p (aL x.items) (n+(Jd (Je rl F) p n x.items (Fc x.items y.items) (Fc x.items z.items) (aL x.items)).2.length) ((Fc x.items y.items).put (aL x.items))<|(Fc x.items z.items).put (aL x.items);have h3:=Gi x.items y.items (aL x.items)<|gQ _;have h4:=Gi x.items z.items (aL x.items)<|gQ _;grind [Cq,Af,Ka,Tc]
              grind [Wt]
            rw[Sf];cases Lh rl p with
            | none=>grind
            | some key =>
              simp only;split
              ·have h1 := QH (n := n) (λk n => ih (p ++ [Wi k]) n (Pb x key k) (Pb y key k) (Pb z key k)) (aL (Ec [Jb y key, Jb z key])) (gQ _)
               rw[List.take_length]at h1;have hnd:=Zc [Jb y key,Jb z key];have h2:=Ek hnd y key;have h3:=Ek hnd z key;have hsub:=Wh (f:=λk m=>Je rl F (p++[Wi k]) m (Pb x key k) (Pb y key k)<|Pb z key k) (n:=n) (ks:=Ec [Jb y key,Jb z key]) _<|gQ _;rw[List.take_length]at hsub;unfold Av;simp only;split
               ·rename_i o ho
                have hp:=(Iz ho).map (Qi (Cd (λk m=>Je rl F (p++[Wi k]) m (Pb x key k) (Pb y key k)<|Pb z key k) n (Ec [Jb y key,Jb z key]) (aL (Ec [Jb y key,Jb z key]))).1);rw[H0 _<|hnd.sublist hsub]at hp;have:=Hn hp;simp only[Af,Ka];omega
               exact Wt c1
              grind
           grind [Wt]
          grind [Wt]
def MaxO(M:Nat)(o:Option Tree):Prop:=AllO (λx=>Kb x<=M) o
theorem RB(hM:20<=M)(h:i<1000):Kb (Lj i)<=M:=by grind [U9,Lj,Kb,Th,Qf]
theorem ZV{k:Int}(h:∀x∈xs,Kb x<=M):Kb (.node k [] [] xs)<=M:=by grind [Gs,Kb,Th]
theorem max_obj{k:Int}{ks:List Str}(h:∀x∈xs,Kb x<=M)(h2:∀s∈ks,aL s<=M):Kb (.node k [] ks xs)<=M:=by grind [Gs,Fv,Kb]
theorem atM_max(hM:20<=M):∀(F:Nat)(p:List Str)(n:Nat)(b l r:Option Tree),MaxO M l->MaxO M r->n+Af l+Af r<1000->MaxO M (Je rl F p n b l r).1:=by
  intro F
  induction F with
  | zero =>
    intro p n b l r hl _ _;exact hl
  | succ F ih =>
    intro p n b l r hl hr hn;have con:∀cls b l r,MaxO M (Fj p cls n b l r).1:=λcls b l r v hv=>by
      obtain rfl:=lQ hv;exact RB hM kX
    rw[Je];split
    ·exact hl
    split
    ·exact hr
    split
    ·exact hl
    cases b with
    | none=>exact con _ _ _ _
    | some x =>
      cases l with
      | none=>exact con _ _ _ _
      | some y =>
        cases r with
        | none=>exact con _ _ _ _
        | some z =>
          have hy:=hl y rfl;have hz:=hr z rfl;simp only[Af]at hn;simp only[Lo];split
          ·split
           ·have hnd := Zc [y.keys, z.keys]
            have h1:=En hnd y;have h2:=En hnd z;have:=ZA (Q:=λx=>Kb x<=M) (n:=n) (ks:=Ec [y.keys,z.keys]) (λk n=>Ll F (p++[k]) n (Hd x k) (Hd y k)<|Hd z k) (λk n h=>ih (p++[k]) n _ _ _ (λw hw=>Bg hy w<|Oo hw) (λw hw=>Bg hz w<|Oo hw) h) _ (gQ _) kX;intro v hv;obtain rfl:=lQ hv;have hsub:=Wh (f:=λk m=>Je rl F (p++[k]) m (Hd x k) (Hd y k)<|Hd z k) (n:=n) (ks:=Ec [y.keys,z.keys]) _<|gQ _;rw[List.take_length]at hsub;refine max_obj (λu hu=>?_) λs hs=>?_
            ·obtain⟨q, hq, rfl⟩ := nQ.1 hu
             exact this q hq
            have hin : s ∈ Ec [y.keys, z.keys] := hsub.subset hs;unfold Ec at hin;rw[Uo]at hin;simp only[List.not_mem_nil,List.flatten_cons,List.flatten_nil,qQ,mQ,false_or]at hin;exact hin.elim (G1 hy s)<|G1 hz s
           split
           ·have hgap:MaxO M (Sf.gapM (Je rl F) p n x y z).1:=by
              unfold Sf.gapM;split
              ·have s1 := Gi x.items y.items (aL x.items) (gQ _)
               have s2:=Gi x.items z.items (aL x.items)<|gQ _;rw[uQ rfl]at s1 s2;have h6:=Cq y;have h7:=Cq z;have hc:=Ep (n:=n) (base:=x.items) (x:=Fc x.items y.items) (y:=Fc x.items z.items) (λs n k=>Ll (rl:=rl) F (p++[s]) n _ _ _) (aL x.items);intro v hv;obtain rfl:=lQ hv;refine ZV λu hu=>?_;rcases mQ.1 hu with hu|hu
               ·exact QN (Q:=λx=>Kb x<=M) (λi hi=>RB hM hi) (x:=Fc x.items y.items) (y:=Fc x.items z.items) (Bg hy) (Bg hz) (λs n k=>Ll F (p++[s]) n _ _ _) (λs n k hk h=>ih (p++[s]) n _ _ _ (λw hw=>Bg hy w<|Qm hw) (λw hw=>Bg hz w<|Qm hw) h) _ (gQ _) kX u hu
               exact OP (Q:=λx=>Kb x<=M) (λi hi=>RB hM hi) (λw hw=>Bg hy w<|Ig hw) (λw hw=>Bg hz w<|Ig hw) kX u hu
              grind
            rw[Sf];cases Lh rl p with
            | none=>grind
            | some key =>
              simp only;split
              ·have hnd := Zc [Jb y key, Jb z key]
               have h1:=Ek hnd y key;have h2:=Ek hnd z key;have:=ZA (Q:=λx=>Kb x<=M) (n:=n) (ks:=Ec [Jb y key,Jb z key]) (λk n=>Ll F (p++[Wi k]) n (Pb x key k) (Pb y key k)<|Pb z key k) (λk n h=>ih (p++[Wi k]) n _ _ _ (λw hw=>Bg hy w<|Pl hw) (λw hw=>Bg hz w<|Pl hw) h) _ (gQ _) kX;unfold Av;simp only;split
               ·rename_i o ho
                intro v hv;obtain rfl:=lQ hv;refine ZV λu hu=>?_;obtain⟨q,hq,rfl⟩:=nQ.1 hu;exact pickN_all (Q:=λx=>Kb x<=M) this<|HG ho q hq
               grind
              grind
           grind
          grind
def AtA(rl:List Rl)(F:Nat)(b l r:Option Tree):Prop:=∀(i:List Nat)(w0:World)(sm:List (Nat × Obj))(pb:Nat)(RV:Value)(cfs:List Cf)(path:List Str)(PA:Option Addr)(pc:Nat)(x y z:Sv),
  In rl i w0 sm pb RV cfs path PA pc b l r x y z->Ic l<F->aL path+F<=900 ->
  Calls prog 23 #[V pb,.slice PA (aL path) pc,.agg (th x y z).toArray] w0 (Qb λv w'=>Out i w0 sm pb RV cfs (Je rl F path (aL cfs) b l r) v w')
theorem AtC.at{F:Nat}(h:AtC rl F){b l r:Option Tree}:AtA rl F b l r:=λi w0 sm pb RV cfs path PA pc x y z=>h i w0 sm pb RV cfs path PA pc b l r x y z
def G8{P:Program}{fn:Func}{n:Nat}{s:Nat->Value}{w:World}{t T u r:Nat}{a:Addr}{l:List Value}{m:Nat}{y:Value}(h:fn.results=#[.cell t T,.tmp u,.tmp r])(hx:ev n s (.tmp t)=.pointer (some a))(ha:∀w,(isAgg T).run P w=.ok true w)(hs:∀w,(sizeOf T).run P w=.ok m w)(hm:aL l=m)
    (hc:∀j (h:j<aL l),w.cell? (a.add j)=some l[j]) (hv:ev n s (.tmp u)=v) (hy:ev n s (.tmp r)=y):(results fn (Vi n s).tmps).run P w=.ok (.tuple #[.agg l.toArray,v,y]) w:=by
  have h1:=Ci n s t;have h2:=Ci n s u;have h3:=Ci n s r;rw[hx,Array.getD_eq_getD_getElem?]at h1;rw[hv,Array.getD_eq_getD_getElem?]at h2;rw[hy,Array.getD_eq_getD_getElem?]at h3;simp[results,h,h1,h2,h3,asAddr,Ju ha hs hm hc]
def olB(w:World):List Nat:=(List.range w.heap.size).filter λx=>decide (8<=x)
theorem UW{w:World}{x:Nat}:x∈olB w↔8<=x/\x<w.heap.size:=by grind [olB]
theorem Mi.new{w0 w:World}{bs_:List (Nat × Obj)}(hG:Gl w0)(hF:FR w0 [] bs_ w)(k:Nat)(hk:bs_[k]? = some (pb,.cells #[RV,aQ] 57)):Mi (bs_.map (·.1)++olB w0) w [(pb,.cells #[RV,aQ] 57)] pb RV []:=by
  refine⟨⟨none,0,[],[],O,SlB.nil _ _,RX.nil⟩,λq hq=>?_,λx hx=>?_,λx hx=>?_⟩
  ·rw[pQ.1 hq]
   exact hF.heap hk
  ·grind [ids]
  rcases mQ.1 hx with hx|hx
  rotate_left
  ·have := UW.1 hx
   exact⟨this.1,Nat.lt_of_lt_of_le this.2 hF.same.size⟩
  refine⟨?_,hF.lt_ids hx⟩;obtain⟨q,hq,rfl⟩:=nQ.1 hx;have:=(hF.own q hq).2;simp only[List.not_mem_nil,or_false]at this;exact fQ hG.size this
def Dx{w0 w:World}{bs_:List (Nat × Obj)}(hF:FR w0 [] bs_ w)(k:Nat){o:Obj}(hk:bs_[k]? = some (pb,o)):Off (λb=>b<w0.heap.size) w [(pb,o)]:=λb hb=>by
  refine⟨Nat.lt_of_lt_of_le hb hF.same.size,λhm=>?_⟩;rw[show ids [(pb,o)]=[pb] from rfl,pQ]at hm;have:=hF.ge hk;omega
def J_{F:Nat}(hl:Ka l<=256/\Kb l<=16777216)(hr:Ka r<=256/\Kb r<=16777216) :
    Ka ((Je rl F [] 0 (some b) (some l) (some r)).1.getD zeroT)<=512/\Kb ((Je rl F [] 0 (some b) (some l) (some r)).1.getD zeroT)<=16777216:=by
  have h1:=atM_sz (rl:=rl) F [] 0 (some b) (some l)<|some r;have h2:=atM_max (rl:=rl) (M:=16777216) Ra F [] 0 (some b) (some l) (some r) (λx hx=>lQ hx▸hl.2) (λx hx=>lQ hx▸hr.2) (by simp only[Af];omega);generalize (Je rl F [] 0 (some b) (some l)<|some r).1=o at h1 h2;cases o with
  | none=>simp[zeroT,Ka,Qa,Kb,Th,Qf]
  | some v=>exact⟨by simp only[Af,Option.getD_some]at h1 ⊢;omega,h2 v rfl⟩
def NewB(w0 w':World)(b:Nat):Prop:=(b<8\/w0.heap.size<=b)/\b<w'.heap.size/\JI w' b
def NewB.rx{u:World}{i:List Nat}{d:D}(h:Rep (NewB w1 w') w' d cs)(hi:∀x∈i,8<=x/\x<w1.heap.size):RX (wE u) i w' [d] cs :=
  .one (h.weaken λb hb _=>⟨cZ _,hb.2.1,λhm=>by have:=hi b hm;rcases hb.1 with h1|h1 <;> omega,hb.2.2⟩)
def MgO(mv:Tree × List Cf × Int)(w0:World)(v:Value)(w':World):Prop:=∃(q:Tv)(A:Option Addr)(c:Nat),v=.tuple #[.agg q.cells.toArray,.slice A (aL mv.2.1) c,J mv.2.2]/\Rep (NewB w0 w') w' (Ta mv.1) q.cells/\Rep (NewB w0 w') w' (.slice (mv.2.1.map LK)) [.slice A (aL mv.2.1) c]/\Same [] w0 w'
def FU{w0:World}{e:Int}(h:Same [] w0 w'):MgO (zeroT,[],e) w0 (.tuple #[.agg YY.cells.toArray,aQ,J e]) w' :=
  ⟨YY,none,0,rfl,Tg _ _,Rep.nil_slice 0 kX none,h⟩
def EachN(w0:World)(xs:List Tree)(q:Tree->Bool):Prop:=∀x,x∈xs->∀S w cs,Same [] w0 w->Rep S w (Ta x) cs->Calls prog 38 #[.agg cs.toArray] w (Qb λv w'=>v=.bool (q x)/\Same [] w w')
def EachN.ext{w0 w:World}(h:EachN w0 xs q)(hs:Same [] w0 w):EachN w xs q:=λx hx S w' cs hw=>h x hx S w' cs<|hs.trans hw
def indexN_c(xs:List Tree)(q:Tree->Bool)(B:Option Addr)(e:Nat)(S:Nat->Prop)(w0:World)(hX:Rep S w0 (.slice (Rb xs)) [.slice B (aL xs) e])(hq:EachN w0 xs q):Calls prog 68 #[.slice B (aL xs) e,.func (.func 38) #[] #[]] w0 (Qb λv w'=>∃n:Int,v=J n/\decide (0<=n)=xs.any q/\Same [] w0 w'):=by
 have hXl:=hX.slice_len;refine Ga func68 ntmps68 ?_;intro hF;refine rn 14<|Wa (λμ σ w=>∃(j:Nat),μ=aL xs-j/\(j<=aL xs)/\((xs.take j).any q=false)/\AllEq σ [(0,.slice B (aL xs) e),(1,.func (.func 38) #[] #[]),(7,J<|(aL xs:Nat)),(8,J<|(j:Int))]/\FR w0 [] [] w) _ ⟨0,O,cZ _,Da,Ib,hF⟩ ?_;rintro μ σ w ⟨j,rfl,hj,hn,hzz,hF⟩;refine Tf hzz 7 ⟨λhc0=>?_,λhc0=>?_⟩;refine rn 15 ?_;obtain⟨ad0,cs0,hA0,hl0,hk0,hx0⟩:=hX.tree_elem (i:=j) kX;have ho0:=hx0.one_;refine Ca (v:=.pointer<|some<|ad0.add<|j*4) (Ea (i:=(j:Int)) Ad hA0)<|Ca (v:=.agg<|List.toArray cs0) (Pa (l:=cs0) oZ tZ O hl0<|hF.cells0 hk0) ?_;refine Wl hF (hq _ (List.getElem_mem (l:=xs) (n:=j) kX) _ _ _ hF.same<|hF.rep hx0) (Ze O en_38 O O) ?_;intro w hF;refine rn 3 ⟨λhc1=>?_,λhc1=>?_⟩;refine rn 7 ?_;exact⟨_,O,by rw[List.any_eq_true.2 ⟨_,List.getElem_mem (l:=xs) (n:=j) kX,hc1⟩];simp,hF.same⟩;refine rn 4<|Kc Ui ?_;refine rn 2<|Ja ⟨_,?_,j+1,O,kX,W3 kX hn hc1,Ib,hF⟩;omega;refine rn 8 ?_;have eT:xs.take j=xs:=dZ kX;rw[eT]at hn;exact⟨_,O,by rw[hn];decide,hF.same⟩
def DM(xs:List Tree)(q:Tree->Bool)(B:Option Addr)(e:Nat)(S:Nat->Prop)(w0:World)(hX:Rep S w0 (.slice (Rb xs)) [.slice B (aL xs) e])(hq:EachN w0 xs q):Calls prog 37 #[.slice B (aL xs) e,.func (.func 38) #[] #[]] w0 (Qb λv w'=>v=.bool (xs.any q)/\Same [] w0 w'):=by
 refine Ga func37 ntmps37 ?_;intro hF;refine rn 9<|Gc (indexN_c xs q B e S _ (hF.rep hX)<|hq.ext hF.same) ?_;rintro _ w ⟨n,rfl,hn,hE⟩;have hF:=hF.ext hE;refine rn 5 ?_;exact⟨xQ Value.bool hn,hF.same⟩
def XQ(x:Tree)(hsz:Ka x<=1000000000)(hk:Sz x)(S:Nat->Prop)(w0:World)(cs:List Value)(hR:Rep S w0 (Ta x) cs)(hG:Gl w0):Calls prog 38 #[.agg cs.toArray] w0 (Qb λv w'=>v=.bool (!(Ob x))/\Same [] w0 w'):=by
 have hl:aL cs=4:=hR.length.trans<|Eb x;have ho:=hR.one_;refine Ga func38 ntmps38 ?_;intro hF;refine rn 2<|Oi (v:=.agg<|List.toArray cs) (cs:=(List.toArray cs)) hF O O ?_;rintro b1 w hb1 hF -;refine rn 5<|Ca (v:=.agg<|List.toArray cs) (Pa (l:=cs) oZ tZ O hl<|hF.cellsAll 0 O) ?_;refine Sa (Bu x hsz _ _ cs (hF.rep hR) hk<|hG.ext hF.same) ?_;rintro w hF -;refine rn 5 ?_;exact⟨O,hF.same⟩
def BR(xs:List Tree)(B:Option Addr)(e:Nat)(S:Nat->Prop)(w0:World)(hX:Rep S w0 (.slice (Rb xs)) [.slice B (aL xs) e])(hs:∀x∈xs,Ka x<=1000000000/\Sz x)(hG:Gl w0):Calls prog 21 #[.slice B (aL xs) e] w0 (Qb λv w'=>v=.bool (xs.all Ob)/\Same [] w0 w'):=by
 have hXl:=hX.slice_len;refine Ga func21 ntmps21 ?_;intro hF;refine rn 8<|Sa (DM xs (λx=>!(Ob x)) B e _ _ (hF.rep hX) λx hx S w cs hw hr=>XQ x (hs x hx).1 (hs x hx).2 S w cs hr<|hG.ext<|hF.same.trans hw) ?_;rintro w hF -;refine rn 5 ?_;exact⟨xQ Value.bool (by rw[List.not_any_eq_all_not];simp),hF.same⟩
def XM{w:World}{o:Option Tree}{q:Sv}(h:Rep S w (Xc (Ni o)) q.cells):Rep S w (Ta (o.getD zeroT)) q.v.cells:=by
  have:=(Nc h).2.2.2.2;cases o <;> exact this
theorem C9(rl:List Rl)(b l r:Tree)(hat:okM rl b l r->AtA rl 40 (some b) (some l) (some r))(x y z:Tv)(rA:Option Addr)(rc:Nat)(S1 S2 S3 SR:Nat->Prop)(w0:World)(hX1:Rep S1 w0 (Ta b) x.cells)(hY1:Rep S2 w0 (Ta l) y.cells)(hZ1:Rep S3 w0 (Ta r) z.cells)(hR1:Rep SR w0 (Co rl) [.slice rA rl.length rc])(hrk:∀q∈rl,RuleOk q)(hb:Ka b<=256/\Kb b<=16777216)(hl:Ka l<=256/\Kb l<=16777216)(hr:Ka r<=256/\Kb r<=16777216)(hG:Gl w0):Calls prog 8 #[.agg (x.cells).toArray,.agg (y.cells).toArray,.agg (z.cells).toArray,.slice rA rl.length rc] w0 (Qb λv w'=>MgO (Qe rl b l r) w0 v w'):=by
 have hX:=hX1.low;have hY:=hY1.low;have hZ:=hZ1.low;have hR:=hR1.low;refine Ga func8 ntmps8 ?_;intro hF;refine rn 3 ?_;rintro b1 w hb1 hF -;refine rn 1 ?_;rintro b2 w hb2 hF -;refine rn 1 ?_;rintro b3 w hb3 hF -;refine rn 1 ?_;rintro b4 w hb4 hF -;refine rn 11 ?_;rintro b5 w hb5 hF -;have hrow:=hF.rowS 0 rfl (ds:=Rb [b,l,r]) (n:=3) (RepL.cons_mk (hF.rep hX)<|RepL.cons_mk (hF.rep hY)<|RepL.cons_mk (c2:=[]) (hF.rep hZ) RepL.nil_mk) rfl kX;refine Sa (BR [b,l,r] _ _ _ _ hrow (by intro u hu;simp only[oQ,List.not_mem_nil,or_false]at hu;rcases hu with rfl|rfl|rfl;exact⟨by_Om,Ef _ kX⟩;exact⟨by_Om,Ef _ kX⟩;exact⟨by_Om,Ef _ kX⟩)<|hG.ext hF.same) ?_;rintro w hF -;refine rn 3 ⟨λhg0=>?_,λhg0=>?_⟩
 ·
  refine rn 9<|Ca (w':=w) (v:=.agg #[J 0,I [],aQ,aQ]) Gb ?_;refine rn 1 ?_;rintro w hF -;refine rn 4<|Do<|Tj λ_ hr=>Qg (G8 hr (l:=[J 0,I [],aQ,aQ]) O oZ tZ O (hF.cellsAll 1 O) (v:=aQ) O (y:=J 1) O) ?_;rw[Xr (λ⟨h1,h2,h3,h4⟩=>by simp_all)];exact FU hF.same
 refine rn 1<|Sa (ZH rl rA rc _ hrk _ (hF.rep hR)<|hG.ext hF.same) ?_;rintro w hF -;refine rn 5 ⟨λhc0=>?_,λhc0=>?_⟩
 ·
  refine rn 2<|Ca (w':=w) (v:=.agg #[J 0,I [],aQ,aQ]) Gb ?_;refine rn 1 ?_;rintro w hF -;refine rn 4<|Do<|Tj λ_ hr=>Qg (G8 hr (l:=[J 0,I [],aQ,aQ]) O oZ tZ O (hF.cellsAll 1 O) (v:=aQ) O (y:=J 1) O) ?_;rw[Xr (λ⟨h1,h2,h3,h4⟩=>by simp_all)];exact FU hF.same
 refine rn 3 ?_;have hok:okM rl b l r:=by simp_all[okM]
 refine rn 2<|Ca (w':=w) (v:=.agg #[.slice rA rl.length rc,aQ]) Gb ?_;refine rn 1 ?_;rintro b6 w hb6 hF -;refine rn 4<|Sc (λσ w=>∃(mo:Mo),∃(q:Sv),∃(Ac:Option Addr),∃(cc:Nat),∃(sl:List (Nat × Obj)),∃(vals:List Value),∃(bt:Nat),(mo=Je rl 40 [] 0 (some b) (some l) (some r))/\(SlB 38 17 Ac (aL mo.2) cc vals sl)/\(RX w0 ([bt,b6,b5,b4,b3,b2,b1]++ids sl) w [Xc<|Ni mo.1] q.cells)/\(RX (wE w0) ([bt,b6,b5,b4,b3,b2,b1]++(ids sl++olB w0)) w (mo.2.map LK) vals)/\AllEq σ [(8,V b4),(11,V b6),(12,V bt)]/\FR w0 [] ([(bt,.cells (q.cells).toArray 36),(b6,.cells #[.slice rA rl.length rc,.slice Ac (aL mo.2) cc] 57),(b5,.cells #[J x.k,I x.t,.slice x.A x.n x.c,.slice x.B x.m x.e,J y.k,I y.t,.slice y.A y.n y.c,.slice y.B y.m y.e,J z.k,I z.t,.slice z.A z.n z.c,.slice z.B z.m z.e] 25),(b4,.cells #[J 0,I [],aQ,aQ] 25),(b3,.cells (z.cells).toArray 25),(b2,.cells (y.cells).toArray 25),(b1,.cells (x.cells).toArray 25)]++(sl++[])) w) ?_ ?_
 ·
  refine Yb (.of [10]) (bQ [0,1,3,5]<|.alt 2 (.alt 4 (.alt 6 (.free 7<|.alt 8 (.act 9<|.act 10 .nil)<|cQ [9,8,10] .nil)<|.act 9<|.act 6<|.free 7<|.act 8<|.act 10 .nil)<|cQ [9,4,6]<|.free 7<|.act 8<|.act 10 .nil)<|cQ [9,2,4,6]<|.free 7<|.act 8<|.act 10 .nil) hF ?_;rintro w hF -;refine⟨λwq=>FR w0 [] [(b5,.cells #[J x.k,I x.t,.slice x.A x.n x.c,.slice x.B x.m x.e,J y.k,I y.t,.slice y.A y.n y.c,.slice y.B y.m y.e,J z.k,I z.t,.slice z.A z.n z.c,.slice z.B z.m z.e] 25),(b4,.cells #[J 0,I [],aQ,aQ] 25),(b3,.cells (z.cells).toArray 25),(b2,.cells (y.cells).toArray 25),(b1,.cells (x.cells).toArray 25)] wq,hF.drop 1,?_⟩;refine rn 4 ?_
  repeat' first
   |refine Yq ?_ ?_|refine Qh 2<|Ie (Jo x) ?_;rintro w hF -|refine Qh 4<|Ie (Jo y) ?_;rintro w hF -|refine Qh 6<|Ie (Jo z) ?_;rintro w hF -
   |
    refine Qh 8 ?_
    first|(refine Bf (hat hok _ _ _ b6 (.slice rA rl.length rc) [] [] none 0 ⟨true,x⟩ ⟨true,y⟩ ⟨true,z⟩ ⟨Mi.new hG hF 0 rfl,hG.ext hF.same,⟨_,Dx hF 0 rfl,Rep.nil_slice 0 kX none⟩,⟨_,Dx hF 0 rfl,Yn (Sj (s:=⟨true,b⟩)<|hF.rep hX) (Sj (s:=⟨true,l⟩)<|hF.rep hY)<|Sj (s:=⟨true,r⟩)<|hF.rep hZ⟩,⟨_,Dx hF 0 rfl,hF.rep hR⟩,λ_ h=>lQ h▸⟨hok.1,hb⟩,λ_ h=>lQ h▸⟨hok.2.1,hl⟩,λ_ h=>lQ h▸⟨hok.2.2.1,hr⟩,by simp only[aZ,Af];omega,λs hs=>by cases hs⟩ (by have:=Bl hok.2.1;simp only[Ic];omega) Da) ?_)|(refine Bf (hat hok _ _ _ b6 (.slice rA rl.length rc) [] [] none 0 ⟨true,x⟩ ⟨true,y⟩ ⟨true,z⟩ ⟨Mi.new hG hF 1 rfl,hG.ext hF.same,⟨_,Dx hF 1 rfl,Rep.nil_slice 0 kX none⟩,⟨_,Dx hF 1 rfl,Yn (Sj (s:=⟨true,b⟩)<|hF.rep hX) (Sj (s:=⟨true,l⟩)<|hF.rep hY)<|Sj (s:=⟨true,r⟩)<|hF.rep hZ⟩,⟨_,Dx hF 1 rfl,hF.rep hR⟩,λ_ h=>lQ h▸⟨hok.1,hb⟩,λ_ h=>lQ h▸⟨hok.2.1,hl⟩,λ_ h=>lQ h▸⟨hok.2.2.1,hr⟩,by simp only[aZ,Af];omega,λs hs=>by cases hs⟩ (by have:=Bl hok.2.1;simp only[Ic];omega) Da) ?_)
    rintro _ w2 ⟨sm2,q,rfl,hR2,hO⟩
    first|have hF2:FR w0 [] ([(b301,.cells #[.bool false,J 0,I [],aQ,aQ] 36),(b5,.cells #[J x.k,I x.t,.slice x.A x.n x.c,.slice x.B x.m x.e,J y.k,I y.t,.slice y.A y.n y.c,.slice y.B y.m y.e,J z.k,I z.t,.slice z.A z.n z.c,.slice z.B z.m z.e] 25),(b4,.cells #[J 0,I [],aQ,aQ] 25),(b3,.cells (z.cells).toArray 25),(b2,.cells (y.cells).toArray 25),(b1,.cells (x.cells).toArray 25)]++([(b6,.cells #[.slice rA rl.length rc,aQ] 57)]++[])) w:=hF.toseg 1 rfl|have hF2:FR w0 [] ([(b5,.cells #[J x.k,I x.t,.slice x.A x.n x.c,.slice x.B x.m x.e,J y.k,I y.t,.slice y.A y.n y.c,.slice y.B y.m y.e,J z.k,I z.t,.slice z.A z.n z.c,.slice z.B z.m z.e] 25),(b4,.cells #[J 0,I [],aQ,aQ] 25),(b3,.cells (z.cells).toArray 25),(b2,.cells (y.cells).toArray 25),(b1,.cells (x.cells).toArray 25)]++([(b6,.cells #[.slice rA rl.length rc,aQ] 57)]++[])) w:=hF.toseg 0 rfl
    obtain⟨mo,hmo⟩:∃mo,mo=Je rl 40 [] (aL ([]:List Cf)) (some b) (some l) (some r):=⟨_,rfl⟩;rw[<-hmo]at hR2 hO;rw[aZ]at hmo;rw[lZ]at hO
    first|have hQ:=RX.madeM (w0:=w0) (i:=[b301,b6,b5,b4,b3,b2,b1]++ids sm2) hF.same.size (λx hx=>(mQ.1 hx).imp (λh=>hF.lt_ids (aS h)) id) hR2|have hQ:=RX.madeM (w0:=w0) (i:=[b6,b5,b4,b3,b2,b1]++ids sm2) hF.same.size (λx hx=>(mQ.1 hx).imp (λh=>hF.lt_ids (aS h)) id) hR2
    have hF:=hF2.swapM hO.m hO.hh hO.mc<|.a .z;obtain⟨Ac,cc,sl,vals,hsm,hSl,hC⟩:=hO.m.ex;subst hsm
    first|have hF:FR w0 [] ([(b6,.cells #[.slice rA rl.length rc,.slice Ac (aL mo.2) cc] 57),(b301,.cells #[.bool false,J 0,I [],aQ,aQ] 36),(b5,.cells #[J x.k,I x.t,.slice x.A x.n x.c,.slice x.B x.m x.e,J y.k,I y.t,.slice y.A y.n y.c,.slice y.B y.m y.e,J z.k,I z.t,.slice z.A z.n z.c,.slice z.B z.m z.e] 25),(b4,.cells #[J 0,I [],aQ,aQ] 25),(b3,.cells (z.cells).toArray 25),(b2,.cells (y.cells).toArray 25),(b1,.cells (x.cells).toArray 25)]++(sl++[])) w2:=hF.perm (List.perm_middle).symm|have hF:FR w0 [] ([(b6,.cells #[.slice rA rl.length rc,.slice Ac (aL mo.2) cc] 57),(b5,.cells #[J x.k,I x.t,.slice x.A x.n x.c,.slice x.B x.m x.e,J y.k,I y.t,.slice y.A y.n y.c,.slice y.B y.m y.e,J z.k,I z.t,.slice z.A z.n z.c,.slice z.B z.m z.e] 25),(b4,.cells #[J 0,I [],aQ,aQ] 25),(b3,.cells (z.cells).toArray 25),(b2,.cells (y.cells).toArray 25),(b1,.cells (x.cells).toArray 25)]++(sl++[])) w2:=hF.perm (List.perm_middle).symm
    first|(have hC:RX (wE w0) ([b301,b6,b5,b4,b3,b2,b1]++(ids sl++olB w0)) w2 (mo.2.map LK) vals:=(hC.empty w0).sub zP)|(have hC:RX (wE w0) ([b6,b5,b4,b3,b2,b1]++(ids sl++olB w0)) w2 (mo.2.map LK) vals:=(hC.empty w0).sub zP)
    first|(have hQ:RX w0 ([b301,b6,b5,b4,b3,b2,b1]++ids sl) w2 [Xc<|Ni mo.1] q.cells:=hQ.sub zP)|(have hQ:RX w0 ([b6,b5,b4,b3,b2,b1]++ids sl) w2 [Xc<|Ni mo.1] q.cells:=hQ.sub zP)
    clear hR2 hO hF2;refine⟨hF.su,?_⟩
   |
    refine Qh 9<|rn 1 ?_;intro b301 w hb301 hF hE
    try have hQ:=hQ.alloc hE hb301
    try have hC:=hC.alloc hE hb301
   |refine Qh 10<|rn 1 ?_;intro w hF hE;have hQ:=hQ.store hE qK;have hC:=hC.store hE qK|refine rn 1 ?_;exact Ja ⟨mo,q,Ac,cc,sl,vals,b301,hmo,hSl,hQ.sub qH,hC.sub qH,Ib,hF⟩|refine rn 1 ?_;exact Ja ⟨mo,q,Ac,cc,sl,vals,b301,hmo,hSl,hQ.sub qH,hC.sub qH,Ib,((((((hF.front 6 rfl).front 6 rfl).front 6 rfl).front 6 rfl).front 6 rfl).front 5 rfl).front 6 rfl⟩|refine KC 7<|Fa O (v:=.agg #[.bool true,J x.k,I x.t,.slice x.A x.n x.c,.slice x.B x.m x.e,.bool true,J y.k,I y.t,.slice y.A y.n y.c,.slice y.B y.m y.e,.bool true,J z.k,I z.t,.slice z.A z.n z.c,.slice z.B z.m z.e]) (λw hC=>by kernel_rfl) ?_
 rintro σ w ⟨mo,q,Ac,cc,sl,vals,bt,hmo,hSl,hQ,hC,hzz,hF⟩;refine Kq hzz 6 ?_;have hbig:=J_ (rl:=rl) (F:=40) (b:=b) hl hr;rw[<-hmo]at hbig;refine Sa (My (mo.1.getD zeroT) kX _ q.v.cells (XM hQ.rep) (Ef _ kX)<|hG.ext hF.same) ?_;intro w hF hE;have hQ:=hQ.ext hE;have hC:=hC.ext hE;refine rn 4 ⟨λhc1=>?_,λhc1=>?_⟩
 ·
  refine rn 2<|Ca (w':=w) (v:=.agg #[J 0,I [],aQ,aQ]) Gb ?_;refine rn 1 ?_;intro w hF hE;have hQ:=hQ.store hE qK;have hC:=hC.store hE qK;refine rn 4<|Do<|Tj λ_ hr=>Qg (G8 hr (l:=[J 0,I [],aQ,aQ]) O oZ tZ O (hF.cellsAll 3 O) (v:=aQ) O (y:=J 6) O) ?_;rw[show Qe rl b l r=(zeroT,[],6) by rw[Rm hok,<-hmo];unfold UR;rw[tQ (aS hc1)]];exact FU hF.same
 refine rn 3<|Yb (.of []) (bQ [0,1,2,3,4,5]<|.act 6<|.free 7<|.free 8 .nil) hF ?_;intro w hF hE;have hQ:=hQ.ext hE;have hC:=hC.ext hE;refine⟨λwq=>FR w0 [] [(bt,.cells (q.cells).toArray 36),(b6,.cells #[.slice rA rl.length rc,.slice Ac (aL mo.2) cc] 57),(b5,.cells #[J x.k,I x.t,.slice x.A x.n x.c,.slice x.B x.m x.e,J y.k,I y.t,.slice y.A y.n y.c,.slice y.B y.m y.e,J z.k,I z.t,.slice z.A z.n z.c,.slice z.B z.m z.e] 25),(b3,.cells (z.cells).toArray 25),(b2,.cells (y.cells).toArray 25),(b1,.cells (x.cells).toArray 25)] wq,hF.sub<|.cons_cons _<|.cons_cons _<|.cons_cons _<|.cons _<|.cons_cons _<|.cons_cons _<|.cons_cons _<|List.nil_sublist _,?_⟩;refine rn 1 ?_;refine Fa O (v:=.agg (q.v.cells).toArray) (λw hC=>Pa (l:=q.v.cells) oZ tZ O O<|hC.part 0 1 O O)<|rn 5 ?_;intro w hF hE;have hQ:=hQ.store hE qK;have hC:=hC.store hE qK;refine rn 4<|Do<|Tj λ_ hr=>Qg (G8 hr (l:=q.v.cells) O oZ tZ O (hF.cellsAll 3 O) (v:=.slice Ac (aL mo.2) cc) O (y:=J 0) O) ?_;have e:Qe rl b l r=(mo.1.getD zeroT,mo.2,0):=by rw[Rm hok,<-hmo];unfold UR;rw[uQ (aS hc1)]
 rw[e];refine⟨q.v,Ac,cc,O,(XM hQ.rep).weaken λb hb _=>⟨.inr hb.1,hb.2.1,hb.2.2.2⟩,hSl.repOf (λx hx=>⟨(hF.own x jV).1,?_⟩) (RepL.weaken (λb hb _=>⟨?_,hb.2.1,hb.2.2.2⟩) hC) Da,hF.same⟩
 ·have h1 := hF.own x jV
  exact⟨.inr<|h1.2.resolve_right Da,Ia h1.1,hSl.soft (λq hq=>(hF.own q jB).1) x hx⟩
 by_cases h8 : b<8
 ·exact .inl h8
 right;have h1:=hb.2.2.1;simp only[mQ,not_or,UW]at h1;omega
def Hm(l:MapL)(k:Str)(v:Value):MapL:=match l.findIdx? (λx=>decide (x.1=k))with
  | some i=>l.set i (k,v)
  | none=>l++[(k,v)]
theorem JA{l:MapL}{k:Str}(h:l.findIdx? (λx=>decide (x.1=k))=some i):∃hi:i<aL l,l[i].1=k:=by
  obtain⟨hi,h1,-⟩:=List.findIdx?_eq_some_iff_getElem.1 h;grind
theorem Uf(x:Str × Value)(l:MapL)(k:Str):Pd (x::l) k=if x.1=k then some x.2 else Pd l k:=by grind [Pd]
theorem N5(v:Value)(k k':Str):∀l:MapL,Pd (Hm l k v) k'=if k=k' then some v else Pd l k'
  | [] => by
    have e:Hm [] k v=[(k,v)]:=rfl;rw[e,Uf]
  | x :: l => by
    have ih:=N5 v k k' l;unfold Hm at ih ⊢;rw[List.findIdx?_cons];by_cases h:x.1=k
    ·simp only[h, decide_true, if_true, List.set_cons_zero]
     rw[Uf,Uf];by_cases h2:k=k'
     ·rw[uQ h2,uQ h2]
     rw[tQ h2,tQ h2,tQ λe=>h2<|h▸e]
    simp only[h, decide_false, Bool.false_eq_true, if_false];cases hf:l.findIdx? (λx=>decide (x.1=k))with
    | none =>
      rw[hf]at ih;simp only[Option.map_none,List.cons_append]at ih ⊢;rw[Uf,ih,Uf];by_cases h2:x.1=k'
      ·rw[uQ h2,tQ λe=>h<|h2.trans e.symm,uQ h2]
      rw[tQ h2,tQ h2]
    | some i =>
      rw[hf]at ih;simp only[Option.map_some,List.set_cons_succ]at ih ⊢;rw[Uf,ih,Uf];by_cases h2:x.1=k'
      ·rw[uQ h2,tQ λe=>h<|h2.trans e.symm,uQ h2]
      rw[tQ h2,tQ h2]
section
variable {P:Program}{R:Exit->Act->World->Prop}{n:Nat}{k:Kt}{s:Nat->Value}{w:World}{ops rest:List Oper}
variable {d:Nat}{ty:TypeId}{pos:String}{aft:Array Edge}{g:Option (Nat × Bool)}
variable {w0:World}{Ds:List Nat}{bs_:List (Nat × Obj)}{ρ:Operand->Value}{dst:Option Nat}
theorem KN(l:MapL){key:Str}(hi:i<aL l) :
    ((Db l 0).toArray.modify i λe=>{ e with key:=I key,val:=v })=(Db (l.set i (key,v)) 0).toArray:=by grind [Oh,Kn]
theorem x_mapUpdM{t b:Nat}{y:Operand}{l:MapL}{key:Str}(ht:P.underlying t=some (.map kt e))(hk:P.underlying kt=some .string)
    (hx:ρ x=.map (some b)) (hy:ρ y=I key) (hv:ρ z=v) (hb:w.heap[b]? = some (Xb l)) :
    (execOp ρ ⟨dst,.mapUpdate t x y z,ty,pos,aft,g⟩).run P w=.ok .skip { w with heap:=w.heap.setIfInBounds b (Xb (Hm l key v)) }:=by
  unfold Hm;cases hf:l.findIdx? (λx=>decide (x.1=key))with
  | none=>grind [Pd,Ns,Kv]
  | some i =>
    obtain⟨hi,hik⟩:=JA hf;have hfk:(l.findIdx? λy=>decide (y.1=key)).bind (λj=>(l[j]?).map λy=>(j,y.2))=some (i,l[i].2):=qK
    have hs:=YA (P:=P) (o:=Xb<|l.set i (key,v)) hb ⟨_,_,rfl⟩;have ho:Xb (l.set i (key,v))=.map ((Db l 0).toArray.modify i λe=>{ e with key:=I key,val:=v }) (aL l):=by
      rw[KN l hi,Xb];simp
    rw[ho]at hs ⊢;have hes:(((Db l 0).toArray[i]?).map (·.key)).getD (I key)=I key:=by
      have e1:=Kn l 0 i hi;grind
    have hkt:(Instr.keyThatStays (I key)<|I key).run P w=.ok (I key) w:=by simp[Instr.keyThatStays,Instr.sameBits,VW]
    simp only[execOp,Instr.mapUpdate,hx,hy,hv,Sem.run_bind,run_underlying ht,Tk hb,Pj hk,Yk hk,Result.andThen,hfk,hes,hkt,hs];rfl
def Gx(i:Nat){t b:Nat}{y:Operand}{l:MapL}{key:Str}(hF:FR w0 Ds bs_ w)(ht:P.underlying t=some (.map kt e))(hk:P.underlying kt=some .string)
    (hx:ev n s x=.map (some b)) (hy:ev n s y=I key) (hv:ev n s z=v) (hi:bs_[i]? = some (b,Xb l))
    (h:∀w',FR w0 Ds (bs_.set i (b,Xb (Hm l key v))) w'->Same [b] w w'->Og P R n ops k rest s w')
    (hw:Oa ops n s ⟨none,.mapUpdate t x y z,ty,pos,aft,g⟩=true:=by rfl):Og P R n ops k (⟨none,.mapUpdate t x y z,ty,pos,aft,g⟩::rest) s w :=
  Mw (x_mapUpdM ht hk hx hy hv<|hF.heap hi) (h _ (hF.setObj i hi)<|Xl w b _) hw
end
structure Cv where
  A:Option Addr
  n:Nat
  c:Nat
  k:Int
  x:Sv
  y:Sv
  z:Sv
abbrev Cv.cells(q:Cv):List Value:=[.slice q.A q.n q.c,J q.k]++th q.x q.y q.z
structure CvOf (S:Nat->Prop) (w:World) (c:Cf) (q:Cv):Prop where
  n:q.n=aL c.path
  k:q.k=c.cls
  p:Rep S w (Ya c.path) [.slice q.A q.n q.c]
  x:Rep S w (Xc c.b) q.x.cells
  y:Rep S w (Xc c.l) q.y.cells
  z:Rep S w (Xc c.r) q.z.cells
theorem cf_open{w:World}{c:Cf}(h:Rep S w (LK c) cs):∃q:Cv,cs=q.cells/\CvOf S w c q:=by
  unfold LK at h;rw[Rep]at h;obtain⟨c1,d1,rfl,h1,h⟩:=RepL.cons_inv h;obtain⟨c2,d2,rfl,h2,h⟩:=RepL.cons_inv h;obtain⟨c3,d3,rfl,h3,h⟩:=RepL.cons_inv h;obtain⟨c4,d4,rfl,h4,h⟩:=RepL.cons_inv h;obtain⟨c5,d5,rfl,h5,h⟩:=RepL.cons_inv h;obtain rfl:=RepL.nil_inv h;obtain⟨A,n,rfl⟩:∃A e,c1=[.slice A (aL c.path) e]:=by
    have h1':=h1;unfold Ya at h1';rw[Rep]at h1';obtain⟨A,c,rfl,-⟩:=h1';exact⟨A,c,by rw[rQ]⟩
  obtain rfl:c2=[J c.cls]:=by
    unfold Oe at h2;rw[Rep]at h2;exact h2.1
  obtain⟨x,rfl,-⟩:=Q8 h3;obtain⟨y,rfl,-⟩:=Q8 h4;obtain⟨z,rfl,-⟩:=Q8 h5;exact⟨⟨A,aL c.path,n,c.cls,x,y,z⟩,Da,⟨O,O,h1,h3,h4,h5⟩⟩
def CvOf.ext{w:World}{c:Cf}{q:Cv}(h:CvOf S w c q)(hs:Same [] w w'):CvOf S w' c q:=⟨h.n,h.k,h.p.ext hs,h.x.ext hs,h.y.ext hs,h.z.ext hs⟩
theorem Rep.cf_elem{w:World}{l:List Cf}{len c:Nat}(h:Rep S w (.slice (l.map LK)) [.slice A len c])(hi:i<aL l) :
    ∃(ad:Addr)(q:Cv),A=some ad/\(∀j (hj:j<aL q.cells),w.cell? ((ad.add (i*17)).add j)=some q.cells[j])/\CvOf S w l[i] q:=by
  obtain⟨ad,cs,hA,hl,hc,hr⟩:=Rep.elem (sz:=17) h (λd hd=>by obtain⟨k,_,rfl⟩:=nQ.1 hd;exact LL k) (i:=i) (aS hi);grind [cf_open]
theorem Rep.sd_elem{w:World}{l:List Sd}{len c:Nat}(h:Rep S w (.slice (l.map Xc)) [.slice A len c])(hi:i<aL l) :
    ∃(ad:Addr)(q:Sv),A=some ad/\(∀j (hj:j<aL q.cells),w.cell? ((ad.add (i*5)).add j)=some q.cells[j])/\Rep S w (Xc l[i]) q.cells:=by
  obtain⟨ad,cs,hA,hl,hc,hr⟩:=Rep.elem (sz:=5) h (λd hd=>by obtain⟨k,_,rfl⟩:=nQ.1 hd;exact Pp k) (i:=i) (aS hi);grind [Q8]
structure CfOk (c:Cf):Prop where
  b:SdOk c.b
  l:SdOk c.l
  r:SdOk c.r
def CfOk.all{c:Cf}(h:CfOk c):∀s∈[c.b,c.l,c.r],SdOk s:=by
  intro s hs;simp only[oQ,List.not_mem_nil,or_false]at hs;rcases hs with rfl|rfl|rfl
  ·exact h.b
  ·exact h.l
  exact h.r
def DB(c:Cf):QC c=[c.b,c.l,c.r].all λs=>D6 s c.cls:=by simp[QC]
def Pu(k:Int)(s:Str):Int:=if k≠7 then -1 else if (Ld s).2≠0 then -1 else (Et (Ld s).1).1
def M8(v:Tree):Ch v=Pu v.kind v.text:=rfl
theorem PB(c:Cf)(q:Cv)(pk:Int)(S:Nat->Prop)(w0:World)(hq:CvOf S w0 c q)(hk:CfOk c)(hG:Gl w0):Calls prog 56 #[.agg q.cells.toArray,J pk] w0 (Qb λv w'=>∃y:Sv,v=.tuple #[.agg y.cells.toArray,.bool (Kj c pk).2]/\Rep (Btw w0 w') w' (Xc (Kj c pk).1) y.cells/\Same [] w0 w'):=by
 refine Ga func56 ntmps56 ?_;intro hF;refine rn 3 ?_;rintro b1 w hb1 hF -;refine rn 1 ?_;rintro b2 w hb2 hF -;refine rn 17 ⟨λhc0=>?_,λhc0=>?_⟩;refine rn 4<|Gc (Tl c.b q.x S (hF.rep hq.x) hk.b<|hG.ext hF.same) ?_;rintro _ w ⟨y,rfl,hRt,hE⟩;have hY:=RX.made (ids:=[b2,b1]) hF.same.size (λx hx=>hF.lt_ids (aS hx)) hRt;have hF:=hF.ext hE;clear hE hRt;refine rn 1 ?_;intro w hF hE;have hY:=hY.store hE qK;refine rn 4 ?_;have e:Kj c pk=(Ro c.b,true):=by unfold Kj;rw[uQ hc0]
 rw[e]
 ·exact⟨y,O,hY.done,hF.same⟩
 refine rn 7 ⟨λhc1=>?_,λhc1=>?_⟩;refine rn 4<|Gc (Tl c.l q.y S (hF.rep hq.y) hk.l<|hG.ext hF.same) ?_;rintro _ w ⟨y,rfl,hRt,hE⟩;have hY:=RX.made (ids:=[b2,b1]) hF.same.size (λx hx=>hF.lt_ids (aS hx)) hRt;have hF:=hF.ext hE;clear hE hRt;refine rn 1 ?_;intro w hF hE;have hY:=hY.store hE qK;refine rn 4 ?_;have e:Kj c pk=(Ro c.l,true):=by unfold Kj;rw[tQ hc0,uQ hc1]
 rw[e]
 ·exact⟨y,O,hY.done,hF.same⟩
 refine rn 7 ⟨λhc2=>?_,λhc2=>?_⟩;refine rn 4<|Gc (Tl c.r q.z S (hF.rep hq.z) hk.r<|hG.ext hF.same) ?_;rintro _ w ⟨y,rfl,hRt,hE⟩;have hY:=RX.made (ids:=[b2,b1]) hF.same.size (λx hx=>hF.lt_ids (aS hx)) hRt;have hF:=hF.ext hE;clear hE hRt;refine rn 1 ?_;intro w hF hE;have hY:=hY.store hE qK;refine rn 4 ?_;have e:Kj c pk=(Ro c.r,true):=by unfold Kj;rw[tQ hc0,tQ hc1,uQ hc2]
 rw[e]
 ·exact⟨y,O,hY.done,hF.same⟩
 refine rn 5<|Ca (w':=w) (v:=.agg #[.bool false,J 0,I [],aQ,aQ]) Gb ?_;refine rn 1 ?_;rintro w hF -;refine rn 4 ?_;have e:Kj c pk=(noS,false):=by unfold Kj;rw[tQ hc0,tQ hc1,tQ hc2]
 rw[e];exact⟨⟨false,YY⟩,O,L8,hF.same⟩
theorem fits_c(c:Cf)(q:Cv)(S:Nat->Prop)(w0:World)(hq:CvOf S w0 c q)(hk:CfOk c)(hG:Gl w0):Calls prog 55 #[.agg q.cells.toArray] w0 (Qb λv w'=>v=.bool (QC c)/\Same [] w0 w'):=by
 refine Ga func55 ntmps55 ?_;intro hF;refine rn 3 ?_;rintro b1 w hb1 hF -;refine rn 13 ?_;rintro b2 w hb2 hF -;have hrow:Rep (λx=>S x\/x=b2) _ (.slice<|[c.b,c.l,c.r].map Xc) _:=hF.rowS 0 rfl (n:=3) (RepL.cons_mk (hF.rep hq.x)<|RepL.cons_mk (hF.rep hq.y)<|RepL.cons_mk (c2:=[]) (hF.rep hq.z) RepL.nil_mk) rfl kX;refine rn 5<|Wa (λμ σ w=>∃(j:Nat),μ=3-j/\(j<=3)/\(Rep (λx=>S x\/x=b2) w (.slice<|[c.b,c.l,c.r].map Xc) [W b2 3 3])/\(([c.b,c.l,c.r].take j).all (λs=>D6 s c.cls)=true)/\AllEq σ [(1,V b1),(11,W b2 3 3),(12,J 3),(13,J<|(j:Int))]/\FR w0 [] [(b2,.cells ((th q.x q.y q.z)).toArray 36),(b1,.cells (q.cells).toArray 38)] w) _ ⟨0,O,kX,hrow,O,Ib,hF⟩ ?_;rintro μ σ w ⟨j,rfl,hj,hrow,ha,hzz,hF⟩;refine Tf hzz 7 ⟨λhc0=>?_,λhc0=>?_⟩;refine rn 5 ?_;have hj3:j<aL [c.b,c.l,c.r]:=by simp only[kQ,aZ];omega
 obtain⟨ad,s,hAs,hks,hes⟩:=hrow.sd_elem (i:=j) hj3;obtain⟨sd,hsd⟩:∃sd,sd=[c.b,c.l,c.r][j]:=⟨_,rfl⟩;rw[<-hsd]at hes;have hsok:SdOk sd:=hsd▸hk.all _ (eQ _);have hse:=Nc hes;have hqk:=hq.k;refine rn 1<|Ca (v:=.pointer<|some<|ad.add<|j*5) (Ea (i:=(j:Int)) sl_118 hAs)<|Ca (v:=.agg (s.cells).toArray) (Pa (l:=s.cells) qZ vZ O O hks) ?_;refine rn 1 ?_;intro b3 w hb3 hF hE;have hrow:=hrow.ext hE;have hes:=hes.ext hE;have hse:=Nc hes;refine rn 8 ⟨λhg0=>?_,λhg0=>?_⟩;refine rn 2<|Sa (Bu sd.val hsok.sz _ _ s.v.cells hse.2.2.2.2 hsok.ok<|hG.ext hF.same) ?_;intro w hF hE;have hrow:=hrow.ext hE;have hes:=hes.ext hE;have hse:=Nc hes;refine rn 3 ⟨λhg1=>?_,λhg1=>?_⟩;refine rn 20 ⟨xQ Value.bool ?_,hF.same⟩;symm;rw[DB,List.all_eq_false];refine⟨sd,hsd▸eQ _,?_⟩;unfold D6;simp_all;refine rn 5 ⟨λhg2=>?_,λhg2=>?_⟩;refine rn 10 ⟨λhc1=>?_,λhc1=>?_⟩;refine rn 6 ⟨xQ Value.bool ?_,hF.same⟩;symm;rw[DB,List.all_eq_false];refine⟨sd,hsd▸eQ _,?_⟩;unfold D6;simp_all;refine rn 4<|Kc (Ce<|((j+1:Nat):Int)) ?_;refine rn 2 ?_;have hgood:D6 sd c.cls=true:=by unfold D6;simp_all
 refine Ja ⟨_,?_,j+1,O,kX,hrow,wB,Ib,hF.su⟩;omega;refine rn 14<|Kc (Ce<|((j+1:Nat):Int)) ?_;refine rn 2 ?_;have hgood:D6 sd c.cls=true:=by unfold D6;simp_all
 refine Ja ⟨_,?_,j+1,O,kX,hrow,wB,Ib,hF.su⟩;omega;refine rn 23<|Kc (Ce<|((j+1:Nat):Int)) ?_;refine rn 2 ?_;have hgood:D6 sd c.cls=true:=by unfold D6;simp_all
 refine Ja ⟨_,?_,j+1,O,kX,hrow,wB,Ib,hF.su⟩;omega;refine rn 8 ⟨xQ Value.bool ?_,hF.same⟩;obtain rfl:j=3:=by_Om
 rw[DB];exact ha.symm
theorem HW(x:Tv)(hl:aL x.t<=140737488355328)(w0:World)(hG:Gl w0):Calls prog 57 #[.agg (x.cells).toArray] w0 (Qb λv w'=>v=J (Pu x.k x.t)/\Same [] w0 w'):=by
 refine Ga func57 ntmps57 ?_;intro hF;refine rn 3 ?_;rintro b1 w hb1 hF -;refine rn 12 ⟨λhc0=>?_,λhc0=>?_⟩;refine rn 6 ?_;exact⟨xQ (Value.int .i64) (by simp_all[Pu]),hF.same⟩;refine rn 6<|Sa (XH x.t hl _) ?_;rintro w hF -;refine rn 4 ?_;rintro b2 w hb2 hF -;refine rn 11 ⟨λhc1=>?_,λhc1=>?_⟩;refine rn 6 ?_;exact⟨xQ (Value.int .i64) (by simp_all[Pu]),hF.same⟩;refine rn 5 ?_;refine Sa (AO (Ld x.t).1 (by have:=Kk x.t;omega) _<|hG.ext hF.same) ?_;rintro w hF -;refine rn 14 ?_;exact⟨xQ (Value.int .i64) (by simp_all[Pu]),hF.same⟩
theorem updM_len(v:Value)(k:Str):∀m:MapL,aL (Hm m k v)=aL m+if Pd m k=none then 1 else 0:=λm=>by
  have h:=Ns m k;unfold Hm;cases hf:m.findIdx? (λx=>decide (x.1=k))with
  | none=>grind
  | some i =>
    obtain⟨hi,-⟩:=JA hf;grind
structure CntM (m:MapL) (l:List Str):Prop where
  get:∀t,Pd m t=if t∈l then some (J (l.count t:Int)) else none
  len:aL m=aL l.eraseDups
def CntM.nil:CntM [] []:=⟨λt=>by simp[Pd],rfl⟩
theorem CntM.val{m:MapL}{l:List Str}(h:CntM m l)(t:Str):(Pd m t).getD (J 0)=J ((l.count t:Nat):Int):=by
  rw[h.get];grind
theorem CntM.add{m:MapL}{l:List Str}(h:CntM m l)(t:Str):CntM (Hm m t (J (((l.count t+1:Nat)):Int))) (l++[t]):=by
  refine⟨λk=>?_,?_⟩
  ·rw[N5]
   by_cases e:t=k
   ·grind
   rw[tQ e, h.get, List.count_append, List.count_singleton];grind
  rw[updM_len, h.len, h.get, List.eraseDups_append, dQ];by_cases ht:t∈l
  ·rw[uQ ht]
   have:[t].removeAll l=[]:=by simp[List.removeAll,ht]
   grind
  rw[tQ ht];have:[t].removeAll l=[t]:=by simp[List.removeAll,ht]
  grind
def FJ(hj:j<aL xs):Ye (xs.take (j+1))=Ye (xs.take j)++Ue xs[j]:=by
  rw[Lf,Lf,iQ hj,List.flatMap_append];simp
def Q9(x:Tree):aL (Ue x)<=Ka x:=Tree.ind (Q:=λx=>aL (Ue x)<=Ka x) (λk t ks xs ih=>by
  have hs:∀ys:List Tree,(∀y∈ys,aL (Ue y)<=Ka y)->aL (Ye ys)<=Qa ys:=λys=>by
    induction ys with
    | nil=>intro _;simp[Ye]
    | cons y ys ihy =>
      intro h;have h1:=h y Da;have h2:=ihy λz hz=>h z zG;rw[Ye,Qa,dQ];omega
  have:=hs xs ih;rw[Ue,Ka,dQ];split <;> simp <;> omega) x
def KS(x:Tree):Prop:=∀(S:Nat->Prop)(w0:World)(mb:Nat)(m:MapL)(l:List Str)(cs:List Value),Rep S w0 (Ta x) cs->(∀b,S b->b<w0.heap.size/\b∉[mb])->w0.heap[mb]? = some (Xb m)->CntM m l->aL l+Ka x<=1000000000 ->
  Calls prog 54 #[.agg cs.toArray,.map (some mb)] w0 (Qb λv w'=>∃m',v=.tuple #[]/\w'.heap[mb]? = some (Xb m')/\CntM m' (l++Ue x)/\Same [mb] w0 w')
theorem PL(ys:List Tree):aL (Ye ys)<=Qa ys:=by
  have:=Q9<|.node 0 [] [] ys;rw[Ue,Ka,tQ Ra,lZ]at this;have h2:∀zs:List Tree,aL (Ye zs)<=Qa zs:=λzs=>by
    induction zs with
    | nil=>simp[Ye]
    | cons z zs ih=>have:=Q9 z;rw[Ye,Qa,dQ];omega
  grind
theorem KH(xs:List Tree)(j:Nat)(hj:j<aL xs):Qa (xs.take j)+Ka xs[j]<=Qa xs:=by
  have h:xs=xs.take j++xs[j]::xs.drop (j+1):=qB
  have h2:=xQ Qa h;rw[Tc,Qa]at h2;omega
def RT(k:Int)(t:Str)(ks:List Str)(xs:List Tree)(ih:∀x,x∈xs->KS x):KS (.node k t ks xs):=by
 intro S w0 mb m l cs hR hS hmb hCm hsz;obtain⟨A,c,B,e,rfl,-,-,-,hX⟩:=hR.tree_inv;have hXl:=hX.slice_len;rw[Ka]at hsz;refine Bc func54 ntmps54 O O ?_;have hF:FR w0 [mb] [(mb,Xb m)] w0:=FR.open_ (by simp[hmb]) Da;refine rn 3 ?_;rintro b1 w hb1 hF -;refine rn 3<|Sc (λσ w=>∃(m1:MapL),∃(l1:List Str),(l1=l++(if k=7 then [t] else []))/\(CntM m1 l1)/\AllEq σ [(1,.map<|some mb),(2,V b1)]/\FR w0 [mb] [(b1,.cells #[J k,I t,.slice A (aL ks) c,.slice B (aL xs) e] 25),(mb,Xb m1)] w) ?_ ?_;refine rn 8 ⟨λhc0=>?_,λhc0=>?_⟩;refine rn 4<|Ca (v:=J<|((l.count t:Nat):Int)) (Hg fX gX jX O O (hF.heap (i:=1) O)<|hCm.val _) ?_;have hlc:=List.count_le_length (a:=t) (l:=l);refine Kc (Ce<|((l.count t+1:Nat):Int))<|Gx 1 (v:=J<|((l.count t+1:Nat):Int)) hF fX gX O O O O ?_;rintro w hF -;have hF:FR w0 [mb] [(b1,.cells #[J k,I t,.slice A (aL ks) c,.slice B (aL xs) e] 25),(mb,Xb<|Hm (m) (t)<|J<|((l.count t+1:Nat):Int))] w:=hF;refine rn 1 ?_;exact Ja ⟨Hm m t<|J ((l.count t+1:Nat):Int),l++[t],by rw[uQ hc0],hCm.add t,Ib,hF⟩;refine rn 1 ?_;exact Ja ⟨m,l,by rw[tQ hc0,qQ],hCm,Ib,hF⟩;rintro σ w ⟨m1,l1,hl1,hC1,hzz,hF⟩;refine Kq hzz 10<|Wa (λμ σ w=>∃(j:Nat),∃(m2:MapL),μ=aL xs-j/\(j<=aL xs)/\(CntM m2<|l1++Ye (xs.take j))/\AllEq σ [(1,.map<|some mb),(15,.slice B (aL xs) e),(16,J<|(aL xs:Nat)),(17,J<|(j:Int))]/\FR w0 [mb] [(b1,.cells #[J k,I t,.slice A (aL ks) c,.slice B (aL xs) e] 25),(mb,Xb m2)] w) _ ⟨0,m1,O,cZ _,by simpa[Ye]using hC1,Ib,hF⟩ ?_;rintro μ σ w ⟨j,m2,rfl,hj,hC2,hzz,hF⟩;have hll:aL l1<=aL l+1:=by rw[hl1,dQ];split <;> simp
 refine Tf hzz 7 ⟨λhc1=>?_,λhc1=>?_⟩;refine rn 6 ?_;obtain⟨ad0,cs0,hA0,hl0,hk0,hx0⟩:=(hF.repE hS hX).tree_elem (i:=j) kX;have ho0:=hx0.one_;have hxj:=hx0;refine Ca (v:=.pointer<|some<|ad0.add<|j*4) (Ea (i:=(j:Int)) Ad hA0)<|Ca (v:=.agg<|List.toArray cs0) (Pa (l:=cs0) oZ tZ O hl0 hk0) ?_;refine Ho (l:=cs0) hF iX jA wM (v:=.agg<|List.toArray cs0) O O (ho0) O ?_;intro b2 w hb2 hF hE;have hxj:=hxj.ext hE;refine rn 3<|Ca (v:=.agg<|List.toArray cs0) (Pa (l:=cs0) oZ tZ O hl0<|hF.cellsAll 0 O) ?_;refine rn 1 ?_;refine Gc (ih _ (eQ _) S _ mb m2 (l1++Ye (xs.take j)) cs0 hxj (λb hb=>⟨Nat.lt_of_lt_of_le (hS b hb).1 hF.same.size,(hS b hb).2⟩) (hF.heap (i:=2) O) hC2 (by have:=PL<|xs.take j;have:=KH xs j kX;rw[dQ];omega)) ?_;rintro _ w ⟨m3,rfl,hm3,hC3,hE⟩;have hF:=hF.change 2 rfl hE hm3;have hF:FR w0 [mb] [(b2,.cells (List.toArray cs0) 25),(b1,.cells #[J k,I t,.slice A (aL ks) c,.slice B (aL xs) e] 25),(mb,Xb m3)] w:=hF;clear hE hm3;refine rn 4<|Kc (Ce<|((j+1:Nat):Int)) ?_;refine rn 2 ?_;refine Ja ⟨_,?_,j+1,m3,O,kX,by rw[FJ kX,<-sQ];exact hC3,Ib,hF.su⟩;omega;refine rn 2 ?_;obtain rfl:j=aL xs:=by_Om
 refine⟨m2,O,hF.heap (i:=1) O,?_,hF.same⟩;rw[List.take_length]at hC2;rw[Ue,<-sQ,<-hl1];exact hC2
def holes_c(x:Tree):KS x:=Tree.ind RT x
theorem TS{v:Tree}(h:(List.range j).all (λi=>decide ((Ue v).count (Il i)=1)&&(QC (L.getD i JC)&&(Kj (L.getD i JC) (pick.getD i 0)).2))=true)(h1:(Ue v).count (Il j)=1)(hj:j<aL L)(hp:j<aL pick)(h2:QC L[j]=true)(h3:(Kj L[j] pick[j]).2=true) :
    (List.range (j+1)).all (λi=>decide ((Ue v).count (Il i)=1)&&(QC (L.getD i JC)&&(Kj (L.getD i JC) (pick.getD i 0)).2))=true:=qK
theorem H3{v:Tree}(hj:j<aL L)(hp:j<aL pick)(h:¬((Ue v).count (Il j)=1/\QC L[j]=true/\(Kj L[j] pick[j]).2=true)):Hs v L pick=false:=by grind [JC,Hs]
theorem VF{v:Tree}(h:¬(aL L=aL pick/\aL (Ue v).eraseDups=aL L)):Hs v L pick=false:=by grind [Hs]
theorem goodC_all{v:Tree}(h1:aL L=aL pick)(h2:aL (Ue v).eraseDups=aL L)(h:(List.range (aL L)).all (λi=>decide ((Ue v).count (Il i)=1)&&(QC (L.getD i JC)&&(Kj (L.getD i JC) (pick.getD i 0)).2))=true):Hs v L pick=true:=by grind [Hs]
theorem goodC_c(L:List Cf)(pick:List Int)(LA PA:Option Addr)(lc pc:Nat)(SL SP:Nat->Prop)(t:Tree)(x:Tv)(SX:Nat->Prop)(w0:World)(hL:Rep SL w0 (.slice (L.map LK)) [.slice LA (aL L) lc])(hP:Rep SP w0 (.slice (pick.map Oe)) [.slice PA (aL pick) pc])(hLk:∀c∈L,CfOk c)(hX1:Rep SX w0 (Ta t) x.cells)(hsz:Ka t<=1000000000)(hG:Gl w0):Calls prog 29 #[.agg #[.slice LA (aL L) lc,.slice PA (aL pick) pc],.agg (x.cells).toArray] w0 (Qb λv w'=>v=.bool (Hs t L pick)/\Same [] w0 w'):=by
 have hX:=hX1.low;have hLl:=hL.slice_len;have hPl:=hP.slice_len;simp only[rQ]at hLl hPl;refine Ga func29 ntmps29 ?_;intro hF;refine rn 3 ?_;rintro b1 w hb1 hF -;refine rn 1 ?_;rintro b2 w hb2 hF -;refine rn 5<|Cl (v:=λb=>.map<|some b) hF (Sm fX) ?_;rintro b3 w hb3 hF -;refine rn 7 ?_;refine Gc (holes_c t _ _ b3 [] [] x.cells (hF.rep hX) (λb hb=>⟨Nat.lt_of_lt_of_le hb hF.same.size,λhm=>by have h8:=hF.ge (i:=0) O;rw[pQ]at hm;omega⟩) (hF.heap (i:=0) O) CntM.nil (by simp only[aZ];omega)) ?_;rintro _ w ⟨m1,rfl,hm1,hC1,hE⟩;rw[lZ]at hC1;have hF:=hF.change 0 rfl hE hm1;have hF:FR w0 [] [(b3,Xb m1),(b2,.cells (x.cells).toArray 25),(b1,.cells #[.slice LA (aL L) lc,.slice PA (aL pick) pc] 64)] w:=hF;clear hE hm1;have hC1l:=hC1.len;refine rn 14 ⟨λhg0=>?_,λhg0=>?_⟩
 ·
  refine rn 16 ⟨xQ Value.bool (VF ?_).symm,hF.same⟩;omega
 refine rn 1<|Ca (v:=J<|(aL (m1):Nat)) (S5 fX O<|hF.heap (i:=0) O) ?_;refine rn 8 ⟨λhc0=>?_,λhc0=>?_⟩
 ·
  refine rn 6 ⟨xQ Value.bool (VF ?_).symm,hF.same⟩;omega
 refine rn 12 ?_;have hlp:aL L=aL pick:=by_Om
 have hll:aL (Ue t).eraseDups=aL L:=by_Om
 refine Wa (λμ σ w=>∃(j:Nat),μ=aL L-j/\(j<=aL L)/\((List.range j).all (λi=>decide ((Ue t).count (Il i)=1)&&(QC (L.getD i JC)&&(Kj (L.getD i JC)<|pick.getD i 0).2))=true)/\AllEq σ [(2,V b1),(5,.map<|some b3),(30,.slice LA (aL L) lc),(31,J<|(aL L:Nat)),(32,J<|(j:Int))]/\FR w0 [] [(b3,Xb m1),(b2,.cells (x.cells).toArray 25),(b1,.cells #[.slice LA (aL L) lc,.slice PA (aL pick) pc] 64)] w) _ ⟨0,O,cZ _,O,Ib,hF⟩ ?_;rintro μ σ w ⟨j,rfl,hj,ha,hzz,hF⟩;refine Tf hzz 7 ⟨λhc1=>?_,λhc1=>?_⟩
 ·
  refine rn 5 ?_;have hjL:j<aL L:=by_Om
  have hjP:j<aL pick:=by_Om
  obtain⟨ad0,cq0,hAd0,hcq0,hcf⟩:=hL.cf_elem hjL;refine rn 2<|Ca (v:=.pointer<|some<|ad0.add<|j*17) (Ea (i:=(j:Int)) Ko hAd0)<|Ca (v:=.agg (cq0.cells).toArray) (Pa (l:=cq0.cells) isAgg38 sizeOf38 O O<|hF.cells0 hcq0) ?_;refine rn 1 ?_;rintro b4 w hb4 hF -;refine rn 2 ?_;rintro w hF -;refine rn 7<|Sa (MX (j:Int) kX kX _<|hG.ext hF.same) ?_;rintro w hF -;refine Sa (ZQ (CQ (j:Int)) (by have:=Kk<|Lib.itoa (j:Int);exact fQ this Ra) _<|hG.ext hF.same) ?_;rintro w hF -;refine Ca (v:=J<|(((Ue t).count (Ij<|CQ (j:Int)):Nat):Int)) (Hg fX gX jX O O (hF.heap (i:=1) O)<|hC1.val _)<|rn 3 ⟨λhg1=>?_,λhg1=>?_⟩
  ·
   refine rn 13 ⟨xQ Value.bool ?_,hF.same⟩;exact (H3 hjL hjP (λ⟨a,b,c⟩=>by simp_all[Il])).symm
  refine rn 1<|Sa (fits_c L[j] cq0 _ _ (hcf.ext hF.same) (hLk _<|eQ _) (hG.ext hF.same)) ?_;rintro w hF -;refine rn 5 ⟨λhc2=>?_,λhc2=>?_⟩
  ·
   refine rn 6 ⟨xQ Value.bool ?_,hF.same⟩;exact (H3 hjL hjP (λ⟨a,b,c⟩=>by simp_all[Il])).symm
  refine rn 3<|Wd (zs:=.of []) (bQ [0,1,2,3,4,5]<|.alt 6 (bQ [7,8,9]<|.act 10<|.act 11<|.free 12 .nil)<|.act 10<|.act 6<|bQ [7,8,9]<|.act 11<|.free 12 .nil) hF ?_;intro w hF;refine rn 4 ?_;obtain⟨ad2,hA2,hk2,hx2⟩:=hP.int_elem (i:=j) hjP;refine Fa O (v:=.pointer<|some<|ad2.add<|j*1) (λw hC=>Ea (i:=(j:Int)) Se hA2)<|Fa O (v:=J<|pick[j]) (λw hC=>Ma pZ<|hC.cell0 hk2) ?_
  repeat' first
   |refine Yq ?_ ?_
   |
    refine Qh 6<|Bf (PB L[j] cq0 pick[j] _ _ (hcf.ext hF.same) (hLk _<|eQ _) (hG.ext hF.same)) ?_;rintro _ w ⟨y,rfl,hRt,hE⟩;have hF:=hF.ext hE;clear hE hRt
    try refine⟨hF,?_⟩
    try refine⟨hF.su,?_⟩
   |refine Qh 10<|rn 1 ?_;rintro b301 w hb301 hF -|refine Qh 11<|rn 1 ?_;rintro w hF -
   |
    refine rn 9 ⟨λhc3=>?_,λhc3=>?_⟩
    ·
     refine rn 6 ⟨xQ Value.bool ?_,hF.same⟩;exact (H3 hjL hjP (λ⟨a,b,c⟩=>by simp_all[Il])).symm
    refine rn 4<|Kc (Ce<|((j+1:Nat):Int)) ?_;refine rn 2 ?_;refine Ja ⟨_,?_,j+1,O,kX,TS ha (by simp_all[Il];omega) hjL hjP qB qB,Ib,hF.su⟩;omega
   |refine rn 1 ?_
 refine rn 8 ?_;obtain rfl:j=aL L:=by_Om
 exact⟨xQ Value.bool (goodC_all hlp hll ha).symm,hF.same⟩
end Go.Scarf
