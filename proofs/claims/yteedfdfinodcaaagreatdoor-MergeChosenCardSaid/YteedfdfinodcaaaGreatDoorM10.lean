/- A part of the proof. -/
import Derived.Test.YteedfdfinodcaaaGreatDoorM8
set_option linter.all false
set_option maxHeartbeats 8000000
set_option maxRecDepth 10000
set_option synthInstance.maxHeartbeats 0
set_option synthInstance.maxSize 9999
namespace Go.Scarf
open List renaming length->aL
open Go.RowKit Go.Proofs Go.Proofs.Tryz
variable {path:List Str}{y:By}{M e i j kt pb:Nat}{rl:List Rl}{b l r t:Tree}{S:Nat->Prop}{xs:List Tree}{A:Option Addr}{w' w1:World}{sm:List (Nat × Obj)}{cs:List Value}{q:Tree->Bool}{RV v:Value}{a o:Option Tree}{x z:Operand}{L:List Cf}{pick:List Int}
theorem ST{f:List Str->Nat->Option Tree->Option Tree->Option Tree->Mo}{n:Nat}{base:List Tree}{x:By}(hj:j<aL base){a pp:List Tree × List Cf}{q:Mo}(ha:Af f path n base x y j=a)(hp:Jf path j (n+aL a.2) (x.put j) (y.put j)=pp)(hq:f (path++[Lib.itoa j]) (n+aL (a.2++pp.2)) (some base[j]) (x.item j) (y.item j)=q) :
    Af f path n base x y (j+1)=(a.1++pp.1++q.1.toList,a.2++pp.2++q.2):=by grind [Af]
def IW{F:Nat}{n:Nat}{X Y:By}(hX:X=Ec b.items l.items)(hY:Y=Ec b.items r.items)(h:n+Ja l+Ja r<1000)(hj:j<=aL b.items) :
    n+aL (Af (Hf rl F) path n b.items X Y j).2<1000/\(∀m,j<aL b.items->n+aL (Af (Hf rl F) path n b.items X Y j).2+aL (Jf path j m (X.put j) (Y.put j)).2+Ge (X.item j)+Ge (Y.item j)<1000):=by
  subst hX hY;have h1:=Qt (f:=Hf rl F) (p:=path) (n:=n) (base:=b.items) (x:=Ec b.items l.items) (y:=Ec b.items r.items) (λs n k=>Am F (path++[s]) n _ _ _) j;have h2:=Nh b.items l.items j hj;have h3:=Nh b.items r.items j hj;have h4:Oa l.items<Ja l:=by cases l;rw[Ja];show Oa _<_;simp only[Tree.items];omega
  have h5:Oa r.items<Ja r:=by cases r;rw[Ja];show Oa _<_;simp only[Tree.items];omega
  refine⟨by_Om,λm hl=>?_⟩;have h6:=Yw path j m ((Ec b.items l.items).put j)<|(Ec b.items r.items).put j;have h7:=Sy b.items l.items j hl;have h8:=Sy b.items r.items j hl;omega
theorem CB(a:Addr)(n:Nat):(a.add n).block=a.block:=by
  unfold Addr.add;grind
theorem Rep.tree_elemS{w:World}{len c:Nat}(h:Rep S w (.slice (Mb xs)) [.slice A len c])(hi:i<aL xs) :
    ∃(ad:Addr)(z:Tv),A=some ad/\S ad.block/\(∀j (hj:j<aL z.cells),w.cell? ((ad.add (i*4)).add j)=some z.cells[j])/\Rep S w (Sa xs[i]) z.cells:=by
  obtain⟨ad,cs,hA,hl,hc,hr⟩:=h.tree_elem hi;obtain⟨z,rfl,-⟩:=Hj hr;obtain⟨A',c',hA',_,_,hk⟩:=Rep.slice_inv h;simp only[List.cons.injEq,Value.slice.injEq,and_true]at hA';obtain⟨rfl,_,_⟩:=hA';have hi':i<aL (Mb xs):=qX
  obtain⟨ad',h1,es,h2,h3⟩:=hk (by intro e;rw[e]at hi';simp at hi');rw[hA]at h1;obtain rfl:=lQ h1;have hes:0<aL es:=by
    obtain⟨g,gl⟩:=h3.get (sz:=4) (λd hd=>by rw[Fc]at hd;obtain⟨k,_,rfl⟩:=nQ.1 hd;exact Cb k) i hi';omega
  exact⟨ad,z,hA,(h2 0 hes).2,hc,hr⟩
def V4{n:Nat}(h:ByOk n y){g:Nat}(hg:g<=n):aL (y.put g)<=64:=fQ (List.length_filterMap_le _ _) (h.gap g hg).1
theorem LJ(p:List Str)(g n:Nat)(a b:List Tree):aL (Jf p g n a b).1<=aL a+aL b+1:=by grind [Jf]
theorem HH{f:List Str->Nat->Option Tree->Option Tree->Option Tree->Mo}{path:List Str}{n:Nat}{base:List Tree}{x y:By}(hx:ByOk (aL base) x)(hy:ByOk (aL base) y):∀j,j<=aL base->aL (Af f path n base x y j).1<=130*j
  | 0,_=>bZ _
  | j + 1, hj => by
    have ih:=HH (f:=f) (path:=path) (n:=n) hx hy j fX;have h1:=V4 hx (show j<=aL base by omega);have h2:=V4 hy (show j<=aL base by omega);rw[Af];have h3:=LJ path j (n+aL (Af f path n base x y j).2) (x.put j)<|y.put j;have h4:∀o:Option Tree,aL o.toList<=1:=λo=>by cases o <;> simp
    have h5:=h4 (f (path++[Lib.itoa j]) (n+((Af f path n base x y j).2++(Jf path j (n+aL (Af f path n base x y j).2) (x.put j)<|y.put j).2).length) base[j]? (x.item j) (y.item j)).1;simp only[dQ]at h5 ⊢;omega
def O2{k:Nat}{x:Tree}(h:y.item k=some x):x∈y.items:=Xr h
def O4(ht:TinyT t)(hy:y.items=t.items)(k:Nat):TinyO (y.item k):=λ_ h=>ht.kid<|hy▸O2 h
def CI(hy:y.items=t.items)(k:Nat){F:Nat}(h:Db t<=F)(h0:0<F):Yd (y.item k)<F:=by
  cases hk:y.item k with
  | none=>exact h0
  | some x=>exact Nat.lt_of_lt_of_le (Dt<|hy▸O2 hk) h
def ZA(t:Tree):0<Db t:=by
  cases t;rw[Db];omega
def GH(ht:TinyT t)(hy:y=Ec b.items t.items){g:Nat}(hg:g<=aL b.items):TinyT (.node 5 [] [] (y.put g)):=by
  subst hy;exact ht.part (λz hz=>Bg (y:=Ec b.items t.items) hz)<|Bu _ _ hg
def RX.madeG{w0 w:World}{i L:List Nat}{sm':List (Nat × Obj)}{d:D}(hw:w0.heap.size<=w.heap.size)(hc:Mc w sm w' sm')(hs:∀x∈ids sm,x∈L)(hi:∀x∈i,x∈L\/x∈ids sm')(hL:∀x∈L,x<w.heap.size)
    (h:Rep (λb=>New w0 L w b\/New w0 L w b\/Nq w sm' w' b) w' d cs):RX w0 i w' [d] cs :=
  .one (h.weaken λb hb _=>by
    have h1:New w0 L w b->New w0 i w' b:=λh=>by
      obtain⟨h1,h2,h3,cs,T,h4⟩:=h;refine⟨h1,Nat.lt_of_lt_of_le h2 hc.same.size,λhm=>?_,cs,T,(hc.same.block b h2 λhm=>h3<|hs _ hm).trans h4⟩;rcases hi b hm with h5|h5
      ·exact h3 h5
      obtain⟨q, hq, e⟩ := nQ.1 h5;rcases hc.fresh q hq with h6|h6
      ·rw[e]at h6;omega
      exact h3<|hs _<|e▸h6
    rcases hb with hb|hb|hb
    ·exact h1 hb
    ·exact h1 hb
    exact⟨fQ hw hb.1.1,hb.1.2.1,λhm=>(hi b hm).elim (λh5=>by have:=hL b h5;have:=hb.1.1;omega) hb.2,hb.1.2.2⟩)
theorem gaps_c(rl:List Rl)(F:Nat)(hat:AtC rl F)(i:List Nat)(w0:World)(sm:List (Nat × Obj))(pb:Nat)(RV:Value)(cfs:List Cf)(path:List Str)(PA:Option Addr)(pc:Nat)(b l r:Tree)(x y z:Sv)(X Y:By)(ql qr:Yv)(S1 S2:Nat->Prop)(hI:In rl i w0 sm pb RV cfs path PA pc (some b) (some l) (some r) x y z)(hX0:X=Ec b.items l.items)(hY0:Y=Ec b.items r.items)(hqB:ql.B=y.v.B)(hqe:ql.e=y.v.e)(hrB:qr.B=z.v.B)(hre:qr.e=z.v.e)(hSG1:Off S1 w0 sm)(hGl:Rep S1 w0 (M3 (aL b.items+1) X.gap) [.slice ql.G (aL b.items+1) ql.g])(hMl:Rep S1 w0 (.slice (((List.range (aL b.items)).map X.img).map Pd)) [.slice ql.M (aL b.items) ql.m])(hSG2:Off S2 w0 sm)(hGr:Rep S2 w0 (M3 (aL b.items+1) Y.gap) [.slice qr.G (aL b.items+1) qr.g])(hMr:Rep S2 w0 (.slice (((List.range (aL b.items)).map Y.img).map Pd)) [.slice qr.M (aL b.items) qr.m])(hb64:aL b.items<=64)(hl64:aL l.items<=64)(hr64:aL r.items<=64)(hdp:Db l<=F)(hpn:aL path+F<=899):Calls prog 83 #[V pb,.slice PA (aL path) pc,.agg (x.v.cells).toArray,.agg (ql.cells (aL X.items) (aL b.items)).toArray,.agg (qr.cells (aL Y.items) (aL b.items)).toArray] w0 (Qb λv w'=>Out i w0 sm pb RV cfs (N2 (Hf rl F) path (aL cfs) b.items X Y) v w'):=by
 obtain⟨S,hSo,hT⟩:=hI.tri;obtain⟨SP,hPo,hP⟩:=hI.pth;obtain⟨SR,hRo,hRR⟩:=hI.rul;obtain⟨hx,hy,hz⟩:=Ti hT;have htb:=hI.tb b rfl;have htl:=hI.tl l rfl;have htr:=hI.tr r rfl;obtain⟨-,-,-,hxm,-,hxi⟩:=Md (Hc hx).2.2.2.2;obtain⟨-,-,-,hym,-,hyi⟩:=Md (Hc hy).2.2.2.2;obtain⟨-,-,-,hzm,-,hzi⟩:=Md (Hc hz).2.2.2.2;simp only[Ee]at hxm hxi hym hyi hzm hzi;have hXe:X.items=l.items:=by rw[hX0];rfl
 have hYe:Y.items=r.items:=by rw[hY0];rfl
 have hXi:Rep S w0 (.slice<|Mb X.items) [.slice ql.B (aL X.items) ql.e]:=by rw[hXe,hqB,hqe,<-hym];exact hyi
 have hYi:Rep S w0 (.slice<|Mb Y.items) [.slice qr.B (aL Y.items) qr.e]:=by rw[hYe,hrB,hre,<-hzm];exact hzi
 have hXo:ByOk (aL b.items) X:=hX0▸PS b.items l.items hl64;have hYo:ByOk (aL b.items) Y:=hY0▸PS b.items r.items hr64;refine Wb func83 ntmps83 O O ?_;have hF:FR w0 (ids sm) ([]++(sm++[])) w0:=hI.mi.start;refine rn 3 ?_;rintro b1 w hb1 hF -;refine rn 1 ?_;rintro b2 w hb2 hF -;refine rn 1 ?_;rintro b3 w hb3 hF -;refine rn 1 ?_;rintro b4 w hb4 hF -;refine rn 4<|Da (w':=w) (v:=.agg #[J 5,I [],aQ,aQ]) Ib ?_;refine rn 1 ?_;rintro b5 w hb5 hF -;refine rn 8<|Tc Fj ?_;refine rn 4 ?_;refine Za (λμ σ w=>∃(j:Nat),∃(ac:List Tree),∃(cf1:List Cf),∃(sm1:List (Nat × Obj)),∃(A2:Option Addr),∃(c2:Nat),∃(si:List (Nat × Obj)),∃(vals:List Value),μ=aL b.items-j/\(j<=aL b.items)/\(Af (Hf rl F) path (aL cfs) b.items X Y j=(ac,cf1))/\(SlB 25 4 A2 (aL ac) c2 vals si)/\(∀p∈si,w0.heap.size<=p.1)/\(RX w0 ([b5,b4,b3,b2,b1]++(i++(ids sm1++ids si))) w (ac.map Sa) vals)/\(Mx ([b5,b4,b3,b2,b1]++(i++(ids sm1++ids si))) w sm1 pb RV<|cfs++cf1)/\AllEq σ [(0,V pb),(1,.slice PA (aL path) pc),(7,V b1),(8,V b2),(9,V b3),(10,V b4),(11,V b5),(18,J<|((x.v.m:Nat):Int)+1),(19,J<|(j:Int))]/\FR w0 (ids sm) ([(b5,.cells #[J 5,I [],aQ,.slice A2 (aL ac) c2] 25),(b4,.cells #[.bool false,J 0,I [],aQ,aQ] 36),(b3,.cells #[.slice qr.B (aL Y.items) qr.e,.slice (qr.G) ((aL b.items+1)) qr.g,.slice qr.M (aL b.items) qr.m] 112),(b2,.cells #[.slice ql.B (aL X.items) ql.e,.slice (ql.G) ((aL b.items+1)) ql.g,.slice ql.M (aL b.items) ql.m] 112),(b1,.cells (x.v.cells).toArray 25)]++(sm1++(si++[]))) w) _ ⟨0,[],[],sm,none,0,[],[],rfl,bZ _,rfl,SlB.nil _ _,Ca,RX.nil,by rw[qQ];exact (hI.mi.at hI.g hF (L:=[b5,b4,b3,b2,b1]) Ca).m.sub qU,Gc,hF⟩ ?_;rintro μ σ w ⟨j,ac,cf1,sm1,A2,c2,si,vals,rfl,hj,hac,hI2,hin,hV,hM,hzz,hF⟩
 have hgl:=HH (f:=Hf rl F) (path:=path) (n:=aL cfs) hXo hYo j hj;rw[hac]at hgl;simp only at hgl;have hln:=IW (rl:=rl) (F:=F) (path:=path) (n:=aL cfs) (b:=b) (l:=l) (r:=r) hX0 hY0 hI.cnt hj;rw[hac]at hln;simp only at hln;refine Gh hzz 7 ⟨λhc0=>?_,λhc0=>?_⟩
 ·
  refine rn 3<|Of (λσ w=>∃(w3:World),∃(sm3:List (Nat × Obj)),∃(ac3:List Tree),∃(cf3:List Cf),∃(A3:Option Addr),∃(c3:Nat),∃(si3:List (Nat × Obj)),∃(vals3:List Value),∃(L3:List Nat),∃(E3:List Nat),(Af (Hf rl F) path (aL cfs) b.items X Y (j+1)=(ac3,cf3))/\(j<aL b.items)/\(SlB 25 4 A3 (aL ac3) c3 vals3 si3)/\(∀p∈si3,w0.heap.size<=p.1)/\(RX w0 L3 w3 (ac3.map Sa) vals3)/\(Mx L3 w3 sm3 pb RV<|cfs++cf3)/\(Same E3 w3 w)/\(∀x∈E3,x∈L3)/\(∀x∈([b5,b4,b3,b2,b1]++(i++(ids sm3++ids si3))),x∈L3\/w3.heap.size<=x)/\AllEq σ [(0,V pb),(1,.slice PA (aL path) pc),(7,V b1),(8,V b2),(9,V b3),(10,V b4),(11,V b5),(18,J<|((x.v.m:Nat):Int)+1),(19,J<|(j:Int))]/\FR w0 (ids sm) ([(b5,.cells #[J 5,I [],aQ,.slice A3 (aL ac3) c3] 25),(b4,.cells #[.bool false,J 0,I [],aQ,aQ] 36),(b3,.cells #[.slice qr.B (aL Y.items) qr.e,.slice (qr.G) ((aL b.items+1)) qr.g,.slice qr.M (aL b.items) qr.m] 112),(b2,.cells #[.slice ql.B (aL X.items) ql.e,.slice (ql.G) ((aL b.items+1)) ql.g,.slice ql.M (aL b.items) ql.m] 112),(b1,.cells (x.v.cells).toArray 25)]++(sm3++(si3++[]))) w) ?_ ?_
  ·
   refine rn 2 ?_;obtain⟨wh,hwh⟩:∃u,u=w:=⟨w,rfl⟩;rw[<-hwh]at hV hM;have hs:Same [] wh w:=hwh▸Same.refl [] w;refine rn 6<|Vb (.of [14]) (bQ [0,1,2,3,4,5,6,8,9]<|cQ [7,10,11,12]<|.free 13<|.act 14 .nil) hF ?_;intro w hF hE;have hs:=hs.step hE Ca;refine⟨λwq=>FR w0 (ids sm) [(b5,.cells #[J 5,I [],aQ,.slice A2 (aL ac) c2] 25),(b4,.cells #[.bool false,J 0,I [],aQ,aQ] 36),(b3,.cells #[.slice qr.B (aL Y.items) qr.e,.slice (qr.G) ((aL b.items+1)) qr.g,.slice qr.M (aL b.items) qr.m] 112),(b2,.cells #[.slice ql.B (aL X.items) ql.e,.slice (ql.G) ((aL b.items+1)) ql.g,.slice ql.M (aL b.items) ql.m] 112),(b1,.cells (x.v.cells).toArray 25)] wq,hF.mid 0 5,?_⟩;refine rn 9<|Me (bput_c X (aL b.items) j ql _ _ _ (hI.g.same hF.same hI.off) (hF.repM hSo hXi) (hF.repM hSG1 hGl) hXo fX hb64 λz hz=>htl.kid<|hXe▸hz) ?_;rintro _ w ⟨p0,rfl,hRt,hE⟩;have hP0:=RX.made (ids:=([b5,b4,b3,b2,b1]++(i++(ids sm1++ids si)))) hF.same.size (hI.lt hF) hRt;have hF:=hF.ext hE;have hs:=hs.step hE Ca;clear hE hRt;refine⟨hF.su,?_⟩;refine Me (bput_c Y (aL b.items) j qr _ _ _ (hI.g.same hF.same hI.off) (hF.repM hSo hYi) (hF.repM hSG2 hGr) hYo fX hb64 λz hz=>htr.kid<|hYe▸hz) ?_;rintro _ w ⟨p1,rfl,hRt,hE⟩;have hP1:=RX.made (ids:=([b5,b4,b3,b2,b1]++(i++(ids sm1++ids si)))) hF.same.size (hI.lt hF) hRt;have hF:=hF.ext hE;have hs:=hs.step hE Ca;have hP0:=hP0.ext hE;clear hE hRt;refine⟨hF.su,?_⟩;have hlow:=hI.low hF (L:=([b5,b4,b3,b2,b1]++(i++(ids sm1++ids si))));refine Me (gap_c j (X.put j) (Y.put j) p0 p1 path PA pc _ _ _ _ sm1 pb RV (cfs++cf1) ([b5,b4,b3,b2,b1]++(i++(ids sm1++ids si))) ⟨hM.step hs Ca λx hx=>.inl hx,hF.hh,Rb,hlow⟩ (hI.g.same hF.same hI.off) (hF.offM hPo) (hF.repM hPo hP) (Sg Rb) hP0.rep (Sg Rb) hP1.rep (GH htl hX0 fX) (GH htr hY0 fX) bN fX fX) ?_
   rintro _ w2 ⟨sm2,Ag,cg,rfl,hR,hO⟩;obtain⟨pp,hpp⟩:∃pp,pp=Jf path j (aL (cfs++cf1)) (X.put j) (Y.put j):=⟨_,rfl⟩;rw[<-hpp]at hR hO ⊢;have hpl:=LJ path j (aL (cfs++cf1)) (X.put j)<|Y.put j;rw[<-hpp]at hpl;have hpx:=V4 hXo (show j<=aL b.items by omega);have hpy:=V4 hYo (show j<=aL b.items by omega);have hGR:=RX.madeG (i:=(([b5,b4,b3,b2,b1]++(i++(ids sm1++ids si)))++ids sm2)) hF.same.size hO.mc Rb Rb (λx hx=>(hlow x hx).2) hR;have hV:=(hV.step hs Ca λx hx=>.inl hx).swap (j:=(([b5,b4,b3,b2,b1]++(i++(ids sm1++ids si)))++ids sm2)) hO.mc Rb Rb;have hM:=hO.m;have hF:=hF.swapM hO.m hO.hh hO.mc;have hw2:=hF.same.size;clear hR hO hP0 hP1 hlow hs;have hsub:∀d∈Mb pp.1,Ic d=4:=λd hd=>by rw[Fc]at hd;obtain⟨t,_,rfl⟩:=nQ.1 hd;exact Cb t
   obtain⟨eG,hrG,hGl_,hGc⟩:=hGR.rep.slice_open hsub;have hs:=Same.refl (b5::ids si) w2;refine⟨hF.su,?_⟩;refine f_appN [_,_,_,_,_] [sm2,si] 1 (news:=eG) (len':=aL (ac++pp.1)) (ys:=vals++eG) rfl H3 hF hI2 rfl rfl (hGl_) (λhk=>by obtain⟨ad,hA,hc⟩:=hGc hk;exact⟨ad,hA,Ce hc⟩) (Zl hrG.one_) qR (by rw[dQ]) (rfl) fX ?_;intro A0 c0 i_0 w hS0_i hF hE hnew;have hni:∀p∈i_0,p.1∈ids si\/w2.heap.size<=p.1:=λp hp=>(hnew p hp).imp id (λh=>fQ hs.size h);have hs:=hs.step hE λb (hb:b∈ids si)=>.inl (by simp[hb]);refine⟨hF.su,?_⟩;refine rn 2 ?_;intro w hF hE;have hs:=hs.step hE qJ;refine rn 4 ?_;have hL2:∀x∈([b5,b4,b3,b2,b1]++(i++(ids sm2++ids i_0))),x∈(([b5,b4,b3,b2,b1]++(i++(ids sm1++ids si)))++ids sm2)\/w2.heap.size<=x:=(λx hx=>by simp only[mQ,oQ]at hx ⊢;rcases hx with h|h|h|h;(grind);(grind);(grind);(obtain⟨p,hp,rfl⟩:=nQ.1 h;exact (hni p hp).imp qJ id));have hV:=(hV.append hrG).step hs Rb hL2;have hM:=hM.step hs Rb hL2;rw[sQ]at hM;have hin2:=Uz hw2 hin hni;obtain⟨wh,hwh⟩:∃u,u=w:=⟨w,rfl⟩;have hw2h:=hF.same.size;rw[<-hwh]at hV hM;have hs0:=Same.refl [b4] w;have hs:Same [b4] wh w:=hwh▸hs0;have hF:FR w0 (ids sm) ([(b5,.cells #[J 5,I [],aQ,.slice (A0) (aL (ac++pp.1)) c0] 25),(b4,.cells #[.bool false,J 0,I [],aQ,aQ] 36),(b3,.cells #[.slice qr.B (aL Y.items) qr.e,.slice (qr.G) ((aL b.items+1)) qr.g,.slice qr.M (aL b.items) qr.m] 112),(b2,.cells #[.slice ql.B (aL X.items) ql.e,.slice (ql.G) ((aL b.items+1)) ql.g,.slice ql.M (aL b.items) ql.m] 112),(b1,.cells (x.v.cells).toArray 25)]++(sm2++(i_0++[]))) w:=hF;clear hs0 hGR hrG hGc hsub hL2 hni;refine rn 9 ⟨λhc1=>?_,λhc1=>?_⟩
   ·
    refine rn 5<|Ta (Ym ⟨5,[],none,0,0,A0,aL (ac++pp.1),c0⟩) ?_;intro w hF hE;have hs:=hs.step hE Ca;refine rn 1 ?_;intro w hF hE;have hs:=hs.step hE qJ;refine rn 3 ?_;obtain rfl:j=aL b.items:=by_Om
    have hob:N2 (Hf rl F) path (aL cfs) b.items X Y=(some<|.node 5 [] []<|ac++pp.1,cf1++pp.2):=by unfold N2;simp only[hac];rw[hpp,dQ]
    rw[hob];have hV:=hV.step hs Rb λ_ h=>.inl h;have hM:=hM.step hs Rb λ_ h=>.inl h;refine⟨sm2,⟨true,5,[],none,0,0,A0,aL (ac++pp.1),c0⟩,rfl,?_,⟨hM.sub Rb,hF.hh qW,hF.mc qW⟩⟩;refine Wi (s:=⟨true,.node 5 [] []<|ac++pp.1⟩) (x:=⟨5,[],none,0,0,A0,aL (ac++pp.1),c0⟩)<|Rep.tree_mk ⟨by_Om,by_Om⟩ Ca (Rep.nil_slice 0 fX none) ?_;rw[Fc,jQ,<-Fc pp.1];exact hS0_i.nq (pre:=[_,_,_,_,_]) (post:=[]) (bs_:=[]) hF hin2 hV Rb (by simp[Fc])
   refine rn 3<|Of (λσ w=>∃(w3:World),∃(sm3:List (Nat × Obj)),∃(q:Sv),∃(mo:Mo),∃(bt:Nat),(Af (Hf rl F) path (aL cfs) b.items X Y (j+1)=(ac++pp.1++mo.1.toList,cf1++pp.2++mo.2))/\(RX w0 (bt::(([b5,b4,b3,b2,b1]++(i++(ids sm2++ids i_0)))++ids sm3)) w3 [Rc<|Ee mo.1] q.cells)/\(RX w0 (bt::(([b5,b4,b3,b2,b1]++(i++(ids sm2++ids i_0)))++ids sm3)) w3 (ac.map Sa++Mb pp.1)<|vals++eG)/\(Mx (bt::(([b5,b4,b3,b2,b1]++(i++(ids sm2++ids i_0)))++ids sm3)) w3 sm3 pb RV<|cfs++(cf1++pp.2)++mo.2)/\(w0.heap.size<=w3.heap.size)/\(Same (bt::(b5::ids i_0)) w3 w)/\AllEq σ [(0,V pb),(1,.slice PA (aL path) pc),(7,V b1),(8,V b2),(9,V b3),(10,V b4),(11,V b5),(13,V bt),(18,J<|((x.v.m:Nat):Int)+1),(19,J<|(j:Int))]/\FR w0 (ids sm) ([(bt,.cells (q.cells).toArray 36),(b5,.cells #[J 5,I [],aQ,.slice (A0) (aL (ac++pp.1)) c0] 25),(b4,.cells #[.bool false,J 0,I [],aQ,aQ] 36),(b3,.cells #[.slice qr.B (aL Y.items) qr.e,.slice (qr.G) ((aL b.items+1)) qr.g,.slice qr.M (aL b.items) qr.m] 112),(b2,.cells #[.slice ql.B (aL X.items) ql.e,.slice (ql.G) ((aL b.items+1)) ql.g,.slice ql.M (aL b.items) ql.m] 112),(b1,.cells (x.v.cells).toArray 25)]++(sm3++(i_0++[]))) w) ?_ ?_
   ·
    have hjb:j<aL b.items:=by_Om
    obtain⟨adb,zb,hAb,hsb,hkb,hrb⟩:=hxi.tree_elemS hjb;refine Vb (.of [20]) (bQ [0,1,2,5,6,7,8,9,11,12,14,15]<|.alt 3 (.alt 4 (.alt 10 (.alt 13 (.alt 16 (.free 17<|.alt 18 (.act 19<|.act 20 .nil)<|cQ [19,18,20] .nil)<|.act 19<|.act 16<|.free 17<|.act 18<|.act 20 .nil)<|cQ [19,13,16]<|.free 17<|.act 18<|.act 20 .nil)<|cQ [19,10,13,16]<|.free 17<|.act 18<|.act 20 .nil)<|cQ [19,4,10,13,16]<|.free 17<|.act 18<|.act 20 .nil)<|cQ [19,3,4,10,13,16]<|.free 17<|.act 18<|.act 20 .nil) hF ?_;intro w hF hE;have hs:=hs.step hE Ca;refine⟨λwq=>FR w0 (ids sm) [(b5,.cells #[J 5,I [],aQ,.slice (A0) (aL (ac++pp.1)) c0] 25),(b4,.cells #[.bool false,J 0,I [],aQ,aQ] 36),(b3,.cells #[.slice qr.B (aL Y.items) qr.e,.slice (qr.G) ((aL b.items+1)) qr.g,.slice qr.M (aL b.items) qr.m] 112),(b2,.cells #[.slice ql.B (aL X.items) ql.e,.slice (ql.G) ((aL b.items+1)) ql.g,.slice ql.M (aL b.items) ql.m] 112),(b1,.cells (x.v.cells).toArray 25)] wq,hF.mid 0 5,?_⟩;refine rn 6<|Fa O (v:=.pointer<|some<|adb.add<|j*4) (λw hC=>Ea (i:=(j:Int)) Wc hAb) ?_;refine Fa O (v:=.agg (zb.cells).toArray) (λw hC=>Qa (l:=zb.cells) nZ rZ O O λu h=>hC.cellE (hkb u h) (by rw[CB,CB];exact (hSo _ hsb).2)) ?_;refine rn 4 ?_
    repeat' first
     |refine Ip ?_ ?_|refine Bh 3<|Mf (G7 (j:Int) fX fX<|hI.g.same hF.same hI.off) ?_;intro w hF hE;have hs:=hs.step hE Ca
     |
      refine Bh 4<|Me (Gu path (Lib.itoa (j:Int)) PA pc _ _ (hF.repM hPo hP) (fQ (Ts fX) Pa) fX) ?_;rintro _ w ⟨Ap,cp,rfl,hRt,hE⟩
      first|have hPX:=RX.made (ids:=(b301::([b5,b4,b3,b2,b1]++(i++(ids sm2++ids i_0))))) hF.same.size (hI.lt hF) hRt|have hPX:=RX.made (ids:=([b5,b4,b3,b2,b1]++(i++(ids sm2++ids i_0)))) hF.same.size (hI.lt hF) hRt
      have hF:=hF.ext hE;have hs:=hs.step hE Ca;clear hE hRt;refine⟨hF.su,?_⟩
     |refine Bh 10<|Mf (Ym zb) ?_;intro w hF hE;have hs:=hs.step hE Ca;have hPX:=hPX.ext hE|refine Bh 13<|Me (YR X (aL b.items) j ql _ _ _ (hF.repM hSo hXi) (hF.repM hSG1 hMl) hXo hjb hb64) ?_;rintro _ w ⟨q1,rfl,hQ1,hE⟩;have hF:=hF.ext hE;have hs:=hs.step hE Ca;have hPX:=hPX.ext hE;refine⟨hF.su,?_⟩|refine Bh 16<|Me (YR Y (aL b.items) j qr _ _ _ (hF.repM hSo hYi) (hF.repM hSG2 hMr) hYo hjb hb64) ?_;rintro _ w ⟨q2,rfl,hQ2,hE⟩;have hF:=hF.ext hE;have hs:=hs.step hE Ca;have hPX:=hPX.ext hE;have hQ1:=hQ1.ext hE;refine⟨hF.su,?_⟩
     |
      refine Bh 18 ?_
      first|have hlow:=hI.low hF (L:=(b301::([b5,b4,b3,b2,b1]++(i++(ids sm2++ids i_0)))))|have hlow:=hI.low hF (L:=([b5,b4,b3,b2,b1]++(i++(ids sm2++ids i_0))))
      first|(have hLC:∀x∈(b301::([b5,b4,b3,b2,b1]++(i++(ids sm2++ids i_0)))),x∈([b5,b4,b3,b2,b1]++(i++(ids sm2++ids i_0)))\/wh.heap.size<=x:=by intro x hx;first|exact .inl hx|(simp only[oQ]at hx;grind))|(have hLC:∀x∈([b5,b4,b3,b2,b1]++(i++(ids sm2++ids i_0))),x∈([b5,b4,b3,b2,b1]++(i++(ids sm2++ids i_0)))\/wh.heap.size<=x:=by intro x hx;first|exact .inl hx|(simp only[oQ]at hx;grind))
      first|(refine Me (hat (b301::([b5,b4,b3,b2,b1]++(i++(ids sm2++ids i_0)))) _ sm2 pb RV (cfs++(cf1++pp.2)) (path++[Lib.itoa (j:Int)]) Ap cp (some b.items[j]) (X.item j) (Y.item j) ⟨true,zb⟩ q1 q2 ⟨⟨hM.step hs Ca hLC,hF.hh,Rb,hlow⟩,hI.g.same hF.same hI.off,⟨_,Sg Rb,hPX.rep⟩,⟨_,hF.offM hSo,Jm (Wi (s:=⟨true,b.items[j]⟩)<|hF.repM hSo hrb) hQ1 hQ2⟩,⟨_,hF.offM hRo,hF.repM hRo hRR⟩,λ_ h=>lQ h▸htb.kid (eQ _),O4 htl hXe j,O4 htr hYe j,by have:=hln.2 (aL (cfs++cf1)) hjb;rw[<-hpp]at this;simp only[dQ]at this ⊢;omega,Cr hI.ptx<|fQ (Ts fX) Pa⟩ (CI hXe j hdp (by have:=ZA l;omega)) qG) ?_)|(refine Me (hat ([b5,b4,b3,b2,b1]++(i++(ids sm2++ids i_0))) _ sm2 pb RV (cfs++(cf1++pp.2)) (path++[Lib.itoa (j:Int)]) Ap cp (some b.items[j]) (X.item j) (Y.item j) ⟨true,zb⟩ q1 q2 ⟨⟨hM.step hs Ca hLC,hF.hh,Rb,hlow⟩,hI.g.same hF.same hI.off,⟨_,Sg Rb,hPX.rep⟩,⟨_,hF.offM hSo,Jm (Wi (s:=⟨true,b.items[j]⟩)<|hF.repM hSo hrb) hQ1 hQ2⟩,⟨_,hF.offM hRo,hF.repM hRo hRR⟩,λ_ h=>lQ h▸htb.kid (eQ _),O4 htl hXe j,O4 htr hYe j,by have:=hln.2 (aL (cfs++cf1)) hjb;rw[<-hpp]at this;simp only[dQ]at this ⊢;omega,Cr hI.ptx<|fQ (Ts fX) Pa⟩ (CI hXe j hdp (by have:=ZA l;omega)) qG) ?_)
      rintro _ w3 ⟨sm3,q,rfl,hR,hO⟩;obtain⟨mo,hmo⟩:∃mo,mo=Hf rl F (path++[Lib.itoa (j:Int)]) (aL (cfs++(cf1++pp.2))) (some b.items[j]) (X.item j) (Y.item j):=⟨_,rfl⟩;rw[<-hmo]at hR hO;have hst:Af (Hf rl F) path (aL cfs) b.items X Y (j+1)=(ac++pp.1++mo.1.toList,cf1++pp.2++mo.2):=ST hjb hac (by rw[hpp,dQ]) (by rw[hmo];simp only[dQ])
      first|have hQ:=RX.madeM (i:=((b301::([b5,b4,b3,b2,b1]++(i++(ids sm2++ids i_0))))++ids sm3)) hF.same.size (λx hx=>(mQ.1 hx).imp (λh=>(hlow x h).2) id) hR|have hQ:=RX.madeM (i:=(([b5,b4,b3,b2,b1]++(i++(ids sm2++ids i_0)))++ids sm3)) hF.same.size (λx hx=>(mQ.1 hx).imp (λh=>(hlow x h).2) id) hR
      first|have hV:=(hV.step hs Ca hLC).swap (j:=((b301::([b5,b4,b3,b2,b1]++(i++(ids sm2++ids i_0))))++ids sm3)) hO.mc Rb Rb|have hV:=(hV.step hs Ca hLC).swap (j:=(([b5,b4,b3,b2,b1]++(i++(ids sm2++ids i_0)))++ids sm3)) hO.mc Rb Rb
      have hM:=hO.m;have hF:=hF.swapM hO.m hO.hh hO.mc;have hw3:=hF.same.size;clear hR hO hPX hQ1 hQ2 hlow hmo hLC hs
      first|have hs:=Same.refl (b301::(b5::ids i_0)) w3|have hs:=Same.refl (b5::ids i_0) w3
      refine⟨hF.su,?_⟩
     |
      refine Bh 19<|rn 1 ?_;intro b301 w hb301 hF hE;have hnb301:=hs.size;rw[<-hb301]at hnb301;have hs:=hs.step hE Ca
      try have hPX:=hPX.alloc hE hb301
      try have hQ1:=hQ1.ext hE
      try have hQ2:=hQ2.ext hE
     |refine Bh 20<|rn 1 ?_;intro w hF hE;have hs:=hs.step hE qJ|refine rn 1 ?_;exact Va ⟨w3,sm3,q,mo,b301,hst,hQ.widen,hV.widen,hM.widen,hw3,hs.mono qJ,Gc,hF⟩|refine K9 17<|Fa O (v:=.agg #[.bool true,J zb.k,I zb.t,.slice zb.A zb.n zb.c,.slice zb.B zb.m zb.e,.bool q1.h,J q1.v.k,I q1.v.t,.slice q1.v.A q1.v.n q1.v.c,.slice q1.v.B q1.v.m q1.v.e,.bool q2.h,J q2.v.k,I q2.v.t,.slice q2.v.A q2.v.n q2.v.c,.slice q2.v.B q2.v.m q2.v.e]) (λw hC=>by kernel_rfl) ?_
   rintro σ w ⟨w3,sm3,q,mo,bt,hst,hQ,hV,hM,hw3,hs,hzz,hF⟩;refine J9 hzz 2 ?_;have hjb:j<aL b.items:=by_Om
   refine rn 6 ⟨λhc2=>?_,λhc2=>?_⟩
   ·
    obtain⟨v1,hv1,hrv⟩:=Zz hQ.rep hc2;have hQv:=RX.one hrv;refine rn 6 ?_;intro b13 w hb13 hF hE;have hnb13:=hs.size;rw[<-hb13]at hnb13;have hs:=hs.step hE Ca;refine C_ hS0_i (len':=aL (ac++pp.1++[v1])) (ys:=vals++eG++q.v.cells) (by simp only[dQ,List.length_singleton]) (O) ?_ (h63:=by simp only[maxLen,dQ];omega) (hbytes:=by simp only[dQ];omega);intro A1 c1 i_1 w hS1_i hF hE hnew;have hnk:∀p∈i_1,p.1∈ids i_0\/w3.heap.size<=p.1:=λp hp=>(hnew p hp).imp id (λh=>fQ hs.size h);have hs:=hs.step hE λb (hb:b∈ids i_0)=>.inl (by simp[hb]);refine rn 2 ?_;intro w hF hE;have hs:=hs.step hE qJ;refine rn 2 ?_;exact Va ⟨w3,sm3,ac++pp.1++[v1],cf1++pp.2++mo.2,A1,c1,i_1,vals++eG++q.v.cells,(bt::(([b5,b4,b3,b2,b1]++(i++(ids sm2++ids i_0)))++ids sm3)),(bt::(b5::ids i_0)),by rw[hst,hv1];rfl,hjb,hS1_i,Uz hw3 hin2 hnk,by rw[List.map_append (l₁:=ac++pp.1)];rw[jQ,<-Fc pp.1];exact hV.append hQv,sQ cfs (cf1++pp.2) mo.2▸hM,hs.mono qJ,qP,((λx hx=>by simp only[mQ,oQ]at hx ⊢;rcases hx with h|h|h|h;(grind);(grind);(grind);(obtain⟨p,hp,rfl⟩:=nQ.1 h;exact (hnk p hp).imp qJ id))),Gc,hF.su⟩
   refine rn 2 ?_;exact Va ⟨w3,sm3,ac++pp.1,cf1++pp.2++mo.2,A0,c0,i_0,vals++eG,(bt::(([b5,b4,b3,b2,b1]++(i++(ids sm2++ids i_0)))++ids sm3)),(bt::(b5::ids i_0)),by rw[hst,E0 hQ.rep hc2];simp,hjb,hS0_i,hin2,by rw[jQ,<-Fc pp.1];exact hV,sQ cfs (cf1++pp.2) mo.2▸hM,hs,qP,qP,Gc,hF.su⟩
  rintro σ w ⟨w3,sm3,ac3,cf3,A3,c3,si3,vals3,L3,E3,hst2,hjn,hI3,hin3,hV2,hM,hs,hEL,hL3,hzz,hF⟩;refine J9 hzz 2<|Tc (Le<|((j+1:Nat):Int)) ?_;refine rn 2<|Va ⟨_,?_,j+1,ac3,cf3,sm3,A3,c3,si3,vals3,O,fX,hst2,hI3,hin3,hV2.step hs hEL hL3,hM.step hs hEL hL3,Gc,hF⟩;omega
 exact absurd hc0 fX
def EachK(w0:World)(bb:Nat)(xs:List Tree)(q:Tree->Bool):Prop:=∀x,x∈xs->∀S w cs,Same [] w0 w->Rep S w (Sa x) cs->Calls prog 103 #[.agg cs.toArray,V bb] w (Qb λv w'=>v=.bool (q x)/\Same [] w w')
def EachK.ext{w0 w:World}{bb:Nat}(h:EachK w0 bb xs q)(hs:Same [] w0 w):EachK w bb xs q:=λx hx S w' cs hw=>h x hx S w' cs<|hs.trans hw
def DZ(xs:List Tree)(q:Tree->Bool)(bb:Nat)(B:Option Addr)(e:Nat)(S:Nat->Prop)(w0:World)(hX:Rep S w0 (.slice (Mb xs)) [.slice B (aL xs) e])(hq:EachK w0 bb xs q):Calls prog 68 #[.slice B (aL xs) e,.func (.func 103) #[] #[V bb]] w0 (Qb λv w'=>∃n:Int,v=J n/\decide (0<=n)=xs.any q/\Same [] w0 w'):=by
 have hXl:=hX.slice_len;refine Ha func68 ntmps68 ?_;intro hF;refine rn 14<|Za (λμ σ w=>∃(j:Nat),μ=aL xs-j/\(j<=aL xs)/\((xs.take j).any q=false)/\AllEq σ [(0,.slice B (aL xs) e),(1,.func (.func 103) #[] #[.pointer<|some<|⟨bb,0,none⟩]),(7,J<|(aL xs:Nat)),(8,J<|(j:Int))]/\FR w0 [] [] w) _ ⟨0,O,bZ _,Ca,Gc,hF⟩ ?_;rintro μ σ w ⟨j,rfl,hj,hn,hzz,hF⟩;refine Gh hzz 7 ⟨λhc0=>?_,λhc0=>?_⟩;refine rn 15 ?_;obtain⟨ad0,cs0,hA0,hl0,hk0,hx0⟩:=hX.tree_elem (i:=j) fX;have ho0:=hx0.one_;refine Da (v:=.pointer<|some<|ad0.add<|j*4) (Ea (i:=(j:Int)) Wc hA0)<|Da (v:=.agg<|List.toArray cs0) (Qa (l:=cs0) nZ rZ O hl0<|hF.cells0 hk0) ?_;refine Xk hF (hq _ (List.getElem_mem (l:=xs) (n:=j) fX) _ _ _ hF.same<|hF.rep hx0) (Ie O en_103 O O) ?_;intro w hF;refine rn 3 ⟨λhc1=>?_,λhc1=>?_⟩;refine rn 7 ?_;exact⟨_,O,by rw[List.any_eq_true.2 ⟨_,List.getElem_mem (l:=xs) (n:=j) fX,hc1⟩];simp,hF.same⟩;refine rn 4<|Tc Fj ?_;refine rn 2<|Va ⟨_,?_,j+1,O,fX,Jz fX hn hc1,Gc,hF⟩;omega;refine rn 8 ?_;have eT:xs.take j=xs:=cZ fX;rw[eT]at hn;exact⟨_,O,by rw[hn];decide,hF.same⟩
def ZF(xs:List Tree)(q:Tree->Bool)(bb:Nat)(B:Option Addr)(e:Nat)(S:Nat->Prop)(w0:World)(hX:Rep S w0 (.slice (Mb xs)) [.slice B (aL xs) e])(hq:EachK w0 bb xs q):Calls prog 37 #[.slice B (aL xs) e,.func (.func 103) #[] #[V bb]] w0 (Qb λv w'=>v=.bool (xs.any q)/\Same [] w0 w'):=by
 refine Ha func37 ntmps37 ?_;intro hF;refine rn 9<|Yb (DZ xs q bb B e S _ (hF.rep hX)<|hq.ext hF.same) ?_;rintro _ w ⟨n,rfl,hn,hE⟩;have hF:=hF.ext hE;refine rn 5 ?_;exact⟨xQ Value.bool hn,hF.same⟩
def allCl_c(x:Tree)(key:Str)(bb:Nat)(hsz:Ja x<=1000000000)(hm:Hb x<=1073741824)(S:Nat->Prop)(w0:World)(cs:List Value)(hR:Rep S w0 (Sa x) cs)(hG:Gl w0)(hb:w0.cell? ⟨bb,0,none⟩=some (I key)):Calls prog 103 #[.agg cs.toArray,V bb] w0 (Qb λv w'=>v=.bool (!(Fk x key).isSome)/\Same [] w0 w'):=by
 have hl:aL cs=4:=hR.length.trans<|Cb x;have ho:=hR.one_;refine Ha func103 ntmps103 ?_;intro hF;refine rn 2<|Cj (v:=.agg<|List.toArray cs) (cs:=(List.toArray cs)) hF O O ?_;rintro b1 w hb1 hF -;refine rn 5<|Da (v:=.agg<|List.toArray cs) (Qa (l:=cs) nZ rZ O hl<|hF.cellsAll 0 O)<|Da (v:=I key) (Ma qZ<|hF.cell0 hb) ?_;refine Yb (NK x key hsz hm cs (hF.rep hR)<|hG.ext hF.same) ?_;rintro _ w ⟨A1,c1,rfl,hL,hE⟩;have hF:=hF.ext hE;clear hE hL;refine rn 15 ?_;exact⟨O,hF.same⟩
def allK_c(key:Str)(xs:List Tree)(B:Option Addr)(e:Nat)(S:Nat->Prop)(w0:World)(hX:Rep S w0 (.slice (Mb xs)) [.slice B (aL xs) e])(hs:∀x∈xs,Ja x<=1000000000/\Hb x<=1073741824)(hG:Gl w0):Calls prog 80 #[I key,.slice B (aL xs) e] w0 (Qb λv w'=>v=.bool (xs.all λx=>(Fk x key).isSome)/\Same [] w0 w'):=by
 have hXl:=hX.slice_len;refine Ha func80 ntmps80 ?_;intro hF;refine rn 3 ?_;rintro b1 w hb1 hF -;refine rn 6<|Da (v:=.func (.func 103) #[] #[V b1]) Te ?_;refine Ta (ZF xs (λx=>!(Fk x key).isSome) b1 B e _ _ (hF.rep hX) λx hx S w cs hw hr=>allCl_c x key b1 (hs x hx).1 (hs x hx).2 S w cs hr (hG.ext<|hF.same.trans hw)<|Same.cell hw<|hF.cell 0 O O) ?_;rintro w hF -;refine rn 5 ?_;exact⟨xQ Value.bool (by rw[List.not_any_eq_all_not];simp),hF.same⟩
theorem FR.boxM{w0 w:World}{Ds i:List Nat}{bs_ pre post:List (Nat × Obj)}{cfs:List Cf}(hF:FR w0 Ds bs_ w)(hM:Mx i w1 sm pb RV cfs)(hsp:Spl bs_ pre sm post:=by repeat (first|exact Spl.z|apply Spl.c|apply Spl.a)):w.cell? ⟨pb,0,none⟩=some RV:=by
  obtain⟨A,c,sl,vals,rfl,-,-⟩:=hM.ex;have h:=hF.hh hsp _ zQ;rw[Ra h 0];rfl
theorem rv_is{w:World}(h:Rep S w (Ik rl) [RV]):∃A c,RV=.slice A rl.length c:=by
  obtain⟨A,c,e⟩:=Rep.slice_is h;grind
def KnC(rl:List Rl)(F:Nat):Prop:=∀(key:Str)(i:List Nat)(w0:World)(sm:List (Nat × Obj))(pb:Nat)(RV:Value)(cfs:List Cf)(path:List Str)(PA:Option Addr)(pc:Nat)(b l r:Tree)(x y z:Sv),
  In rl i w0 sm pb RV cfs path PA pc (some b) (some l) (some r) x y z->XN key b l r=true->Db l<=F->aL path+F<=899 ->
  Calls prog 81 #[V pb,.slice PA (aL path) pc,I key,.agg (th x y z).toArray] w0 (Qb λv w'=>Out i w0 sm pb RV cfs (Bx (Hf rl F) path (aL cfs) key b l r) v w')
theorem HG:¬(Vi [] path).isSome=true:=by grind [HT]
theorem arr_key{f:List Str->Nat->Option Tree->Option Tree->Option Tree->Mo}{n:Nat}(h:(Vi rl path).isSome=true)(ha:XN ((Vi rl path).getD []) b l r=true):Lh rl f path n b l r=Bx f path n ((Vi rl path).getD []) b l r:=by
  unfold Lh;grind
theorem TQ{f:List Str->Nat->Option Tree->Option Tree->Option Tree->Mo}{n:Nat}(h:¬(Vi rl path).isSome=true\/XN ((Vi rl path).getD []) b l r=false):Lh rl f path n b l r=Lh.gapM f path n b l r:=by
  unfold Lh;grind
def allK_eq(key:Str)(b l r:Tree):([b,l,r].all λx=>(Fk x key).isSome)=XN key b l r:=by simp[XN]
theorem MI(rl:List Rl)(F:Nat)(hat:AtC rl F)(hkn:rl=[]\/KnC rl F):MtC 48 rl F 5 (Lh rl (Hf rl F)):=by
 intro i w0 sm pb RV cfs path PA pc b l r x y z hI h5b h5l h5r hne hdp hpn;obtain⟨S,hSo,hT⟩:=hI.tri;obtain⟨SP,hPo,hP⟩:=hI.pth;obtain⟨SR,hRo,hRR⟩:=hI.rul;obtain⟨rA,rc,rfl⟩:=rv_is hRR;obtain⟨hx,hy,hz⟩:=Ti hT;have htb:=hI.tb b rfl;have htl:=hI.tl l rfl;have htr:=hI.tr r rfl;have hbt:=(Hc hx).2.2.2.2;have hlt:=(Hc hy).2.2.2.2;have hrt:=(Hc hz).2.2.2.2;simp only[Ee]at hbt hlt hrt;refine Wb func48 ntmps48 O O ?_;have hF:FR w0 (ids sm) ([]++(sm++[])) w0:=hI.mi.start;refine rn 3 ?_;rintro b1 w hb1 hF -;refine rn 1 ?_;rintro b2 w hb2 hF -;refine rn 7<|Da (v:=.slice rA rl.length rc) (Ma isAgg26<|hF.boxM hI.mi.m) ?_;refine rn 1<|Ta (find_c rl rA rc _ path PA pc _ _ (hF.repM hRo hRR)<|hF.repM hPo hP) ?_;rintro w hF -;refine rn 8<|Of (λσ w=>(Lh rl (Hf rl F) path (aL cfs) b l r=Lh.gapM (Hf rl F) path (aL cfs) b l r)/\AllEq σ [(0,V pb),(1,.slice PA (aL path) pc),(5,V b1),(6,V b2)]/\FR w0 (ids sm) ([(b2,.cells #[.bool false,J 0,I [],aQ,aQ] 36),(b1,.cells ((th x y z)).toArray 61)]++(sm++[])) w) ?_ ?_;refine rn 5 ⟨λhg0=>?_,λhg0=>?_⟩;refine rn 11 ?_;rintro b3 w hb3 hF -;have hrow:=hF.rowS 0 rfl (ds:=Mb [b,l,r]) (n:=3) (RepL.cons_mk (hF.repM hSo hbt)<|RepL.cons_mk (hF.repM hSo hlt)<|RepL.cons_mk (c2:=[]) (hF.repM hSo hrt) RepL.nil_mk) rfl fX;refine Ta (Zg (allK_c ((Vi rl path).getD []) [b,l,r] _ _ _ _ hrow (by intro u hu;simp only[oQ,List.not_mem_nil,or_false]at hu;rcases hu with rfl|rfl|rfl;exact⟨htb.ok.sz,fQ htb.2.2 fX⟩;exact⟨htl.ok.sz,fQ htl.2.2 fX⟩;exact⟨htr.ok.sz,fQ htr.2.2 fX⟩)<|hI.g.same hF.same hI.off)<|xQ Value.bool<|allK_eq _ b l r) ?_;rintro w hF -;refine rn 4 ⟨λhc0=>?_,λhc0=>?_⟩;refine rn 6 ?_;refine Yb ((hkn.resolve_left (by rintro rfl;exact HG hg0)) _ _ _ _ _ _ _ _ _ _ _ _ _ _ _ _ (hI.at hF (L:=[b3,b2,b1]) Ca) hc0 hdp hpn) ?_
 rintro _ w2 ⟨sm2,q,rfl,hR,hO⟩;have hFa:=hF;clear hF;have hF:=hFa.swapM hO.m hO.hh hO.mc;refine rn 1 ?_;intro w hF hE;have hS2:Same [b3,b2,b1] w2 w:=hE.mono Ca;refine rn 3 ?_;exact Out.pass hI.mi hFa qW hR hO hS2 Ca hF qW<|arr_key hg0 hc0;refine rn 1 ?_;exact Va ⟨TQ wR,Gc,hF.drop 1⟩;refine rn 17 ?_;exact Va ⟨TQ wR,Gc,hF⟩;rintro σ w ⟨hno,hzz,hF⟩;refine J9 hzz 9 ?_;by_cases hel:Pe b.items=0/\Pe l.items=0;refine Yb (S5 b l x.v y.v _ _ _ (hI.g.same hF.same hI.off) (hF.repM hSo hbt) (hF.repM hSo hlt) htb htl hel.1 hel.2) ?_;rintro _ w ⟨ql,hB0,he0,rfl,hR1,hR2,hE⟩;have hG0:=RX.made (ids:=([b2,b1]++i)) hF.same.size (hF.ltD hI.mi.low Ca) hR1;have hM0:=RX.made (ids:=([b2,b1]++i)) hF.same.size (hF.ltD hI.mi.low Ca) hR2;have hF:=hF.ext hE;clear hE hR1 hR2;refine rn 4 ?_;intro b4 w hb4 hF hE;have hG0:=hG0.alloc hE hb4;have hM0:=hM0.alloc hE hb4;refine rn 11 ?_;by_cases her:Pe b.items=0/\Pe r.items=0;refine Yb (S5 b r x.v z.v _ _ _ (hI.g.same hF.same hI.off) (hF.repM hSo hbt) (hF.repM hSo hrt) htb htr her.1 her.2) ?_;rintro _ w ⟨qr,hB1,he1,rfl,hR1,hR2,hE⟩;have hG1:=RX.made (ids:=([b4,b2,b1]++i)) hF.same.size (hF.ltD hI.mi.low Ca) hR1;have hM1:=RX.made (ids:=([b4,b2,b1]++i)) hF.same.size (hF.ltD hI.mi.low Ca) hR2;have hF:=hF.ext hE;have hG0:=hG0.ext hE;have hM0:=hM0.ext hE;clear hE hR1 hR2;refine rn 4 ?_;intro b5 w hb5 hF hE;have hG0:=hG0.alloc hE hb5;have hM0:=hM0.alloc hE hb5;have hG1:=hG1.alloc hE hb5;have hM1:=hM1.alloc hE hb5;refine rn 26 ?_;refine Yb (gaps_c rl F hat ([b5,b4,b2,b1]++i) _ sm pb _ cfs path PA pc b l r x y z (Ec b.items l.items) (Ec b.items r.items) ql qr (New w0 ([b5,b4,b2,b1]++i) _) (New w0 ([b5,b4,b2,b1]++i) _) (hI.at hF (L:=[b5,b4,b2,b1]) Ca) rfl rfl hB0 he0 hB1 he1 (Sg (by intro x hx;have:=hI.mi.sub x hx;simp[this])) (hG0.sub Ca).rep (hM0.sub Ca).rep (Sg (by intro x hx;have:=hI.mi.sub x hx;simp[this])) (hG1.sub Ca).rep (hM1.sub Ca).rep (Et hel.1) (Et hel.2) (Et her.2) hdp hpn) ?_
 rintro _ w2 ⟨sm2,q,rfl,hR,hO⟩;have hFa:=hF;clear hF;have hF:=hFa.swapM hO.m hO.hh hO.mc;refine rn 1 ?_;intro w hF hE;have hS2:Same [b5,b4,b2,b1] w2 w:=hE.mono Ca;refine rn 3 ?_;exact Out.pass hI.mi hFa qW hR hO hS2 Ca hF qW (by rw[hno];unfold Lh.gapM;rw[uQ ⟨hel.1,hel.2,her.2⟩]);refine Ta (KD b r x.v z.v _ _ _ (hI.g.same hF.same hI.off) (hF.repM hSo hbt) (hF.repM hSo hrt) htb htr her) ?_;intro w hF hE;have hG0:=hG0.ext hE;have hM0:=hM0.ext hE;refine rn 4 ?_;intro b6 w hb6 hF hE;have hG0:=hG0.alloc hE hb6;have hM0:=hM0.alloc hE hb6;refine rn 20<|Yb (S_ (hI.at hF (L:=[b6,b4,b2,b1]) Ca) 1) ?_;rintro _ w2 ⟨sm2,q,rfl,hR,hO⟩;have hFa:=hF;clear hF;have hF:=hFa.swapM hO.m hO.hh hO.mc;refine rn 1 ?_;intro w hF hE;have hS2:Same [b6,b4,b2,b1] w2 w:=hE.mono Ca;refine rn 3 ?_;exact Out.pass hI.mi hFa qW hR hO hS2 Ca hF qW bS;refine Ta (KD b l x.v y.v _ _ _ (hI.g.same hF.same hI.off) (hF.repM hSo hbt) (hF.repM hSo hlt) htb htl hel) ?_;rintro w hF -;refine rn 4 ?_;rintro b7 w hb7 hF -;refine rn 11 ?_;by_cases her:Pe b.items=0/\Pe r.items=0;refine Yb (S5 b r x.v z.v _ _ _ (hI.g.same hF.same hI.off) (hF.repM hSo hbt) (hF.repM hSo hrt) htb htr her.1 her.2) ?_;rintro _ w ⟨qr,hB1,he1,rfl,hR1,hR2,hE⟩;have hF:=hF.ext hE;clear hE hR1 hR2;refine rn 4 ?_;rintro b8 w hb8 hF -;refine rn 20<|Yb (S_ (hI.at hF (L:=[b8,b7,b2,b1]) Ca) 1) ?_;rintro _ w2 ⟨sm2,q,rfl,hR,hO⟩;have hFa:=hF;clear hF;have hF:=hFa.swapM hO.m hO.hh hO.mc;refine rn 1 ?_;intro w hF hE;have hS2:Same [b8,b7,b2,b1] w2 w:=hE.mono Ca
 refine rn 3 ?_;exact Out.pass hI.mi hFa qW hR hO hS2 Ca hF qW bS;refine Ta (KD b r x.v z.v _ _ _ (hI.g.same hF.same hI.off) (hF.repM hSo hbt) (hF.repM hSo hrt) htb htr her) ?_;rintro w hF -;refine rn 4 ?_;rintro b9 w hb9 hF -;refine rn 20<|Yb (S_ (hI.at hF (L:=[b9,b7,b2,b1]) Ca) 1) ?_;rintro _ w2 ⟨sm2,q,rfl,hR,hO⟩;have hFa:=hF;clear hF;have hF:=hFa.swapM hO.m hO.hh hO.mc;refine rn 1 ?_;intro w hF hE;have hS2:Same [b9,b7,b2,b1] w2 w:=hE.mono Ca;refine rn 3 ?_;exact Out.pass hI.mi hFa qW hR hO hS2 Ca hF qW bS
theorem CL:∀F,AtC [] F
  | 0=>λi w0 sm pb RV cfs path PA pc b l r x y z _ h=>absurd h<|Nat.not_lt_zero _
  | F+1=>BR [] F (SA [] F<|CL F)<|MI [] F (CL F)<|.inl rfl
open Go.RowKit
def AllO(Q:Tree->Prop)(o:Option Tree):Prop:=∀x,o=some x->Q x
section
variable {Q:Tree->Prop}{f:Str->Nat->Mo}{n:Nat}{ks:List Str}{gl gr:Str->Option Tree}
theorem O5(H:∀k n,aL (f k n).2<=Ge (gl k)+Ge (gr k))(HN:∀k n,n+Ge (gl k)+Ge (gr k)<1000->AllO Q (f k n).1):∀j,j<=aL ks->n+Yk gl ks+Yk gr ks<1000->∀z∈(Df f n ks j).1,Q z.2
  | 0,_,_=>λz hz=>by cases hz
  | j + 1, hj, hb => by
    have h1:=Mq (n:=n) (ks:=ks) H j fX;have h2:=Ze gl (ks:=ks) (j:=j) fX;have h3:=Ze gr (ks:=ks) (j:=j) fX;have h4:=Qi gl ks<|j+1;have h5:=Qi gr ks<|j+1;rw[Df];intro z hz;rcases mQ.1 hz with hz|hz
    ·exact O5 H HN j fX hb z hz
    have hc := HN (ks.getD j []) (n + (aL (Df f n ks j).2)) fX;generalize (f (ks.getD j [])<|n+aL (Df f n ks j).2).1=o at hz hc;cases o with
    | none=>cases hz
    | some x=>rw[pQ.1 hz];exact hc x rfl
theorem ZD(H:∀k n,Ge (f k n).1<=Ge (gl k)+Ge (gr k)):∀j,j<=aL ks->Oa ((Df f n ks j).1.map (·.2))<=Yk gl (ks.take j)+Yk gr (ks.take j)
  | 0,_=>by simp[Df,Oa]
  | j + 1, hj => by
    have ih:=ZD H j fX;have h1:=H (ks.getD j [])<|n+aL (Df f n ks j).2;rw[Df,jQ,Kc,Ze gl fX,Ze gr fX];have h2:∀o:Option Tree,Oa ((BE (ks.getD j []) o).map (·.2))=Ge o:=λo=>by cases o <;> simp[BE,Oa,Ge]
    rw[h2];omega
end
section
variable {Q:Tree->Prop}
theorem ZG(hq:∀i,i<1000->Q (Sh i)){p:List Str}{g n:Nat}{ys:List Tree}(hx:∀z∈xs,Q z)(hy:∀z∈ys,Q z)(hn:n+Oa xs+Oa ys<=1000):∀z∈(Jf p g n xs ys).1,Q z:=by grind [Jf,Vd]
theorem GJ(hq:∀i,i<1000->Q (Sh i)){f:Fm}{p:List Str}{n:Nat}{base:List Tree}{x y:By}(hx:∀z∈x.items,Q z)(hy:∀z∈y.items,Q z)
    (H:∀s n k,aL (f (p++[s]) n base[k]? (x.item k) (y.item k)).2<=Ge (x.item k)+Ge (y.item k))
    (HN:∀s n k,k<aL base->n+Ge (x.item k)+Ge (y.item k)<1000->AllO Q (f (p++[s]) n base[k]? (x.item k) (y.item k)).1):∀j,j<=aL base->n+wG x j+wG y j<1000->∀z∈(Af f p n base x y j).1,Q z
  | 0,_,_=>λz hz=>by cases hz
  | j + 1, hj, hb => by
    have h1:=Qt (n:=n) H j;rw[wG,wG]at hb;have h2:=Yw p j (n+aL (Af f p n base x y j).2) (x.put j)<|y.put j;rw[Af];intro z hz;rcases mQ.1 hz with hz|hz
    ·rcases mQ.1 hz with hz|hz
     ·exact GJ hq hx hy H HN j fX fX z hz
     exact ZG hq (λw hw=>hx w<|Bg hw) (λw hw=>hy w<|Bg hw) fX z hz
    have hc := HN (Lib.itoa j) (n + ((Af f p n base x y j).2 ++ (Jf p j (n + (aL (Af f p n base x y j).2)) (x.put j)<|y.put j).2).length) j fX bN;generalize (f (p++[Lib.itoa j]) (n+((Af f p n base x y j).2++(Jf p j (n+aL (Af f p n base x y j).2) (x.put j)<|y.put j).2).length) base[j]? (x.item j) (y.item j)).1=o at hz hc;cases o with
    | none=>cases hz
    | some v=>rw[pQ.1 hz];exact hc v rfl
theorem UU{a:List (Str × Tree)}(h:∀z∈a,Q z.2){id:Str}(hm:id∈a.map (·.1)):Q (Wm a id):=by
  obtain⟨y,hy⟩:=IJ (ks:=a.map (·.1)) (xs:=a.map (·.2)) Ca hm;unfold Wm;rw[hy,Option.getD_some];obtain⟨z,hz,rfl⟩:=nQ.1<|Vj hy;grind
end
theorem BT(p:List Str)(g n:Nat)(xs ys:List Tree):Oa (Jf p g n xs ys).1<=Oa xs+Oa ys:=by grind [Jf,Oa,Vd,Sh,Ja]
theorem MR{f:Fm}{p:List Str}{n:Nat}{base:List Tree}{x y:By}(H:∀s n k,Ge (f (p++[s]) n base[k]? (x.item k) (y.item k)).1<=Ge (x.item k)+Ge (y.item k)):∀j,Oa (Af f p n base x y j).1<=wG x j+wG y j
  | 0=>by simp[Af,Oa]
  | j + 1 => by
    have ih:=MR (n:=n) H j;have h1:=BT p j (n+aL (Af f p n base x y j).2) (x.put j)<|y.put j;have h2:=H (Lib.itoa j) (n+((Af f p n base x y j).2++(Jf p j (n+aL (Af f p n base x y j).2) (x.put j)<|y.put j).2).length) j;have h3:∀o:Option Tree,Oa o.toList=Ge o:=λo=>by cases o <;> simp[Oa,Ge]
    rw[Af,Kc,Kc,h3,wG,wG];omega
theorem Jr{p:List Str}{cls:Int}{n:Nat}{b l r:Option Tree}(h:¬Ye l r=true):Ge (Tk p cls n b l r).1<=Ge l+Ge r:=by grind [Km,Ge,Tk,Sh,Ja,Oa]
theorem atM_sz:∀(F:Nat)(p:List Str)(n:Nat)(b l r:Option Tree),Ge (Hf rl F p n b l r).1<=Ge l+Ge r:=by
  intro F
  induction F with
  | zero=>grind [Hf]
  | succ F ih =>
    intro p n b l r;rw[Hf];split
    ·grind
    rename_i c1
    split
    ·grind
    split
    ·grind
    cases b with
    | none=>exact Jr c1
    | some x =>
      cases l with
      | none=>exact Jr c1
      | some y =>
        cases r with
        | none=>exact Jr c1
        | some z =>
          simp only[Zq];split
          ·split
           ·have h1 := ZD (n := n) (λk n => ih (p ++ [k]) n (Qd x k) (Qd y k) (Qd z k)) (aL (Uc [y.keys, z.keys])) (gQ _)
            rw[List.take_length]at h1;have h2:=Gk (Id [y.keys,z.keys]) y;have h3:=Gk (Id [y.keys,z.keys]) z;grind [GI,Ge,Ja]
           split
           ·have hgap:Ge (Lh.gapM (Hf rl F) p n x y z).1<=Ge (some y)+Ge (some z):=by
              unfold Lh.gapM;split
              ·unfold N2
               have h1:=MR (n:=n) (base:=x.items) (x:=Ec x.items y.items) (y:=Ec x.items z.items) (λs n k=>ih (p++[s]) n _ _ _) (aL x.items);have h2:=BT p (aL x.items) (n+(Af (Hf rl F) p n x.items (Ec x.items y.items) (Ec x.items z.items) (aL x.items)).2.length) ((Ec x.items y.items).put (aL x.items))<|(Ec x.items z.items).put (aL x.items);have h3:=Nh x.items y.items (aL x.items)<|gQ _;have h4:=Nh x.items z.items (aL x.items)<|gQ _;grind [Xn,Ge,Ja,Kc]
              grind [Jr]
            rw[Lh];cases Vi rl p with
            | none=>grind
            | some key =>
              simp only;split
              ·have h1 := ZD (n := n) (λk n => ih (p ++ [Zo k]) n (Xb x key k) (Xb y key k) (Xb z key k)) (aL (Uc [Ob y key, Ob z key])) (gQ _)
               rw[List.take_length]at h1;have hnd:=Id [Ob y key,Ob z key];have h2:=Gi hnd y key;have h3:=Gi hnd z key;have hsub:=Oi (f:=λk m=>Hf rl F (p++[Zo k]) m (Xb x key k) (Xb y key k)<|Xb z key k) (n:=n) (ks:=Uc [Ob y key,Ob z key]) _<|gQ _;rw[List.take_length]at hsub;unfold Bx;simp only;split
               ·rename_i o ho
                have hp:=(Mw ho).map (Wm (Df (λk m=>Hf rl F (p++[Zo k]) m (Xb x key k) (Xb y key k)<|Xb z key k) n (Uc [Ob y key,Ob z key]) (aL (Uc [Ob y key,Ob z key]))).1);rw[I6 _<|hnd.sublist hsub]at hp;have:=Au hp;simp only[Ge,Ja];omega
               exact Jr c1
              grind
           grind [Jr]
          grind [Jr]
def MaxO(M:Nat)(o:Option Tree):Prop:=AllO (λx=>Hb x<=M) o
theorem I9(hM:20<=M)(h:i<1000):Hb (Sh i)<=M:=by grind [H5,Sh,Hb,Th,Xf]
theorem YQ{k:Int}(h:∀x∈xs,Hb x<=M):Hb (.node k [] [] xs)<=M:=by grind [Jq,Hb,Th]
theorem max_obj{k:Int}{ks:List Str}(h:∀x∈xs,Hb x<=M)(h2:∀s∈ks,aL s<=M):Hb (.node k [] ks xs)<=M:=by grind [Jq,Rs,Hb]
theorem atM_max(hM:20<=M):∀(F:Nat)(p:List Str)(n:Nat)(b l r:Option Tree),MaxO M l->MaxO M r->n+Ge l+Ge r<1000->MaxO M (Hf rl F p n b l r).1:=by
  intro F
  induction F with
  | zero =>
    intro p n b l r hl _ _;exact hl
  | succ F ih =>
    intro p n b l r hl hr hn;have con:∀cls b l r,MaxO M (Tk p cls n b l r).1:=λcls b l r v hv=>by
      obtain rfl:=lQ hv;exact I9 hM fX
    rw[Hf];split
    ·exact hl
    split
    ·exact hr
    split
    ·exact hl
    cases b with
    | none=>exact con _ _ _ _
    | some x =>
      cases l with
      | none=>exact con _ _ _ _
      | some y =>
        cases r with
        | none=>exact con _ _ _ _
        | some z =>
          have hy:=hl y rfl;have hz:=hr z rfl;simp only[Ge]at hn;simp only[Zq];split
          ·split
           ·have hnd := Id [y.keys, z.keys]
            have h1:=Gk hnd y;have h2:=Gk hnd z;have:=O5 (Q:=λx=>Hb x<=M) (n:=n) (ks:=Uc [y.keys,z.keys]) (λk n=>Am F (p++[k]) n (Qd x k) (Qd y k)<|Qd z k) (λk n h=>ih (p++[k]) n _ _ _ (λw hw=>Pf hy w<|Wp hw) (λw hw=>Pf hz w<|Wp hw) h) _ (gQ _) fX;intro v hv;obtain rfl:=lQ hv;have hsub:=Oi (f:=λk m=>Hf rl F (p++[k]) m (Qd x k) (Qd y k)<|Qd z k) (n:=n) (ks:=Uc [y.keys,z.keys]) _<|gQ _;rw[List.take_length]at hsub;refine max_obj (λu hu=>?_) λs hs=>?_
            ·obtain⟨q, hq, rfl⟩ := nQ.1 hu
             exact this q hq
            have hin : s ∈ Uc [y.keys, z.keys] := hsub.subset hs;unfold Uc at hin;rw[Tq]at hin;simp only[List.not_mem_nil,List.flatten_cons,List.flatten_nil,qQ,mQ,false_or]at hin;exact hin.elim (Ox hy s)<|Ox hz s
           split
           ·have hgap:MaxO M (Lh.gapM (Hf rl F) p n x y z).1:=by
              unfold Lh.gapM;split
              ·have s1 := Nh x.items y.items (aL x.items) (gQ _)
               have s2:=Nh x.items z.items (aL x.items)<|gQ _;rw[uQ rfl]at s1 s2;have h6:=Xn y;have h7:=Xn z;have hc:=Qt (n:=n) (base:=x.items) (x:=Ec x.items y.items) (y:=Ec x.items z.items) (λs n k=>Am (rl:=rl) F (p++[s]) n _ _ _) (aL x.items);intro v hv;obtain rfl:=lQ hv;refine YQ λu hu=>?_;rcases mQ.1 hu with hu|hu
               ·exact GJ (Q:=λx=>Hb x<=M) (λi hi=>I9 hM hi) (x:=Ec x.items y.items) (y:=Ec x.items z.items) (Pf hy) (Pf hz) (λs n k=>Am F (p++[s]) n _ _ _) (λs n k hk h=>ih (p++[s]) n _ _ _ (λw hw=>Pf hy w<|Xr hw) (λw hw=>Pf hz w<|Xr hw) h) _ (gQ _) fX u hu
               exact ZG (Q:=λx=>Hb x<=M) (λi hi=>I9 hM hi) (λw hw=>Pf hy w<|Bg hw) (λw hw=>Pf hz w<|Bg hw) fX u hu
              grind
            rw[Lh];cases Vi rl p with
            | none=>grind
            | some key =>
              simp only;split
              ·have hnd := Id [Ob y key, Ob z key]
               have h1:=Gi hnd y key;have h2:=Gi hnd z key;have:=O5 (Q:=λx=>Hb x<=M) (n:=n) (ks:=Uc [Ob y key,Ob z key]) (λk n=>Am F (p++[Zo k]) n (Xb x key k) (Xb y key k)<|Xb z key k) (λk n h=>ih (p++[Zo k]) n _ _ _ (λw hw=>Pf hy w<|Gm hw) (λw hw=>Pf hz w<|Gm hw) h) _ (gQ _) fX;unfold Bx;simp only;split
               ·rename_i o ho
                intro v hv;obtain rfl:=lQ hv;refine YQ λu hu=>?_;obtain⟨q,hq,rfl⟩:=nQ.1 hu;exact UU (Q:=λx=>Hb x<=M) this<|XW ho q hq
               grind
              grind
           grind
          grind
def AtA(rl:List Rl)(F:Nat)(b l r:Option Tree):Prop:=∀(i:List Nat)(w0:World)(sm:List (Nat × Obj))(pb:Nat)(RV:Value)(cfs:List Cf)(path:List Str)(PA:Option Addr)(pc:Nat)(x y z:Sv),
  In rl i w0 sm pb RV cfs path PA pc b l r x y z->Yd l<F->aL path+F<=900 ->
  Calls prog 23 #[V pb,.slice PA (aL path) pc,.agg (th x y z).toArray] w0 (Qb λv w'=>Out i w0 sm pb RV cfs (Hf rl F path (aL cfs) b l r) v w')
theorem AtC.at{F:Nat}(h:AtC rl F){b l r:Option Tree}:AtA rl F b l r:=λi w0 sm pb RV cfs path PA pc x y z=>h i w0 sm pb RV cfs path PA pc b l r x y z
def BigO(o:Option Tree):Prop:=∀x,o=some x->Eb x=true/\Ja x<=1000000000/\Hb x<=1073741824
def BigO.ok(h:BigO o):SdOk (Ee o):=by
  cases o with
  | none=>exact RZ
  | some x=>exact⟨(h x rfl).2.1,Ae x<|fQ (h x rfl).2.2 fX⟩
def LE{b:Option Tree}(ha:BigO a)(hb:BigO b):U3 (Ee a) (Ee b)=Ye a b:=by
  cases a with
  | none=>cases b <;> rfl
  | some x =>
    cases b with
    | none=>rfl
    | some y=>simp[U3,Ee,Ye,Im (ha x rfl).1 (hb y rfl).1]
def TP(ha:BigO a):Zk (Ee a)=Ee a:=by
  cases a with
  | none=>rfl
  | some x=>simp[Zk,Ee,Hl (ha x rfl).1]
structure InB (rl:List Rl) (i:List Nat) (w0:World) (sm:List (Nat × Obj)) (pb:Nat) (RV:Value) (PA:Option Addr) (pc:Nat) (b l r:Option Tree) (x y z:Sv):Prop where
  mi:Mi i w0 sm pb RV []
  g:Gl w0
  pth:∃S,Off S w0 sm/\Rep S w0 (Wa []) [.slice PA 0 pc]
  tri:∃S,Off S w0 sm/\Rep S w0 (Uo (Ee b) (Ee l) (Ee r)) (th x y z)
  rul:∃S,Off S w0 sm/\Rep S w0 (Ik rl) [RV]
  tb:BigO b
  tl:BigO l
  tr:BigO r
def InB.off{i:List Nat}{w0:World}{PA:Option Addr}{pc:Nat}{b l r:Option Tree}{x y z:Sv}(h:InB rl i w0 sm pb RV PA pc b l r x y z):∀x∈ids sm,8<=x:=λx hx=>(h.mi.low x<|h.mi.sub x hx).1
def AtB(rl:List Rl)(F:Nat)(b l r:Option Tree):Prop:=∀(i:List Nat)(w0:World)(sm:List (Nat × Obj))(pb:Nat)(RV:Value)(PA:Option Addr)(pc:Nat)(x y z:Sv),
  InB rl i w0 sm pb RV PA pc b l r x y z->Yd l<F->F<=900 ->
  Calls prog 23 #[V pb,.slice PA 0 pc,.agg (th x y z).toArray] w0 (Qb λv w'=>Out i w0 sm pb RV [] (Hf rl F [] 0 b l r) v w')
def AtA.toB{F:Nat}(h:AtA rl F (some b) (some l) (some r))(hk:ZM rl b l r)(hb:Ja b<=256/\Hb b<=16777216)(hl:Ja l<=256/\Hb l<=16777216)(hr:Ja r<=256/\Hb r<=16777216):AtB rl F (some b) (some l) (some r) :=
  λi w0 sm pb RV PA pc x y z hI hd hF=>h i w0 sm pb RV [] [] PA pc x y z ⟨hI.mi,hI.g,hI.pth,hI.tri,hI.rul,λ_ h=>lQ h▸⟨hk.1,hb⟩,λ_ h=>lQ h▸⟨hk.2.1,hl⟩,λ_ h=>lQ h▸⟨hk.2.2.1,hr⟩,by simp only[Ge,aZ];omega,Ca⟩ hd (aS hF)
theorem at_same(rl:List Rl)(F:Nat)(b l r:Option Tree)(hsame:Ye l r=true\/Ye b l=true\/Ye b r=true):AtB rl (F+1) b l r:=by
 intro i w0 sm pb RV PA pc x y z hI hdp hpn;obtain⟨S,hSo,hT⟩:=hI.tri;obtain⟨hx,hy,hz⟩:=Ti hT;refine Wb func23 ntmps23 O O ?_;have hF:FR w0 (ids sm) ([]++(sm++[])) w0:=hI.mi.start;refine rn 3 ?_;rintro b1 w hb1 hF -;refine rn 1 ?_;rintro b2 w hb2 hF -;refine rn 1 ?_;rintro b3 w hb3 hF -;refine rn 10<|Ta (Zg (Br (Ee l) (Ee r) y z _ _ (hF.repM hSo hy) (hF.repM hSo hz) hI.tl.ok hI.tr.ok<|hI.g.same hF.same hI.off)<|xQ Value.bool<|LE hI.tl hI.tr) ?_;rintro w hF -;refine rn 4 ⟨λhc0=>?_,λhc0=>?_⟩;refine rn 4<|Yb (Kh (Ee l) y _ (hF.repM hSo hy) hI.tl.ok<|hI.g.same hF.same hI.off) ?_;rintro _ w ⟨q,rfl,hRt,hE⟩;rw[TP hI.tl]at hRt;have hQ:=RX.made (ids:=[b3,b2,b1]++i) hF.same.size (hF.ltD hI.mi.low Ca) hRt;have hF:=hF.ext hE;clear hE hRt;refine rn 1 ?_;intro w hF hE;have hQ:=hQ.store hE qJ;refine rn 3 ?_;rw[OY hc0];exact Out.keep hI.mi hF hQ;refine rn 6<|Ta (Zg (Br (Ee b) (Ee l) x y _ _ (hF.repM hSo hx) (hF.repM hSo hy) hI.tb.ok hI.tl.ok<|hI.g.same hF.same hI.off)<|xQ Value.bool<|LE hI.tb hI.tl) ?_;rintro w hF -;refine rn 4 ⟨λhc1=>?_,λhc1=>?_⟩;refine rn 4<|Yb (Kh (Ee r) z _ (hF.repM hSo hz) hI.tr.ok<|hI.g.same hF.same hI.off) ?_;rintro _ w ⟨q,rfl,hRt,hE⟩;rw[TP hI.tr]at hRt;have hQ:=RX.made (ids:=[b3,b2,b1]++i) hF.same.size (hF.ltD hI.mi.low Ca) hRt;have hF:=hF.ext hE;clear hE hRt;refine rn 1 ?_;intro w hF hE;have hQ:=hQ.store hE qJ;refine rn 3 ?_;rw[at_r jV hc1];exact Out.keep hI.mi hF hQ;refine rn 6<|Ta (Zg (Br (Ee b) (Ee r) x z _ _ (hF.repM hSo hx) (hF.repM hSo hz) hI.tb.ok hI.tr.ok<|hI.g.same hF.same hI.off)<|xQ Value.bool<|LE hI.tb hI.tr) ?_;rintro w hF -;refine rn 4 ⟨λhc2=>?_,λhc2=>?_⟩;refine rn 4<|Yb (Kh (Ee l) y _ (hF.repM hSo hy) hI.tl.ok<|hI.g.same hF.same hI.off) ?_;rintro _ w ⟨q,rfl,hRt,hE⟩
 rw[TP hI.tl]at hRt;have hQ:=RX.made (ids:=[b3,b2,b1]++i) hF.same.size (hF.ltD hI.mi.low Ca) hRt;have hF:=hF.ext hE;clear hE hRt;refine rn 1 ?_;intro w hF hE;have hQ:=hQ.store hE qJ;refine rn 3 ?_;rw[XX jV bY hc2];exact Out.keep hI.mi hF hQ;exact absurd hsame (by rw[hc0,hc1,hc2];simp)
def H4{P:Program}{fn:Func}{n:Nat}{s:Nat->Value}{w:World}{t T u r:Nat}{a:Addr}{l:List Value}{m:Nat}{y:Value}(h:fn.results=#[.cell t T,.tmp u,.tmp r])(hx:ev n s (.tmp t)=.pointer (some a))(ha:∀w,(isAgg T).run P w=.ok true w)(hs:∀w,(sizeOf T).run P w=.ok m w)(hm:aL l=m)
    (hc:∀j (h:j<aL l),w.cell? (a.add j)=some l[j]) (hv:ev n s (.tmp u)=v) (hy:ev n s (.tmp r)=y):(results fn (Yi n s).tmps).run P w=.ok (.tuple #[.agg l.toArray,v,y]) w:=by
  have h1:=Ki n s t;have h2:=Ki n s u;have h3:=Ki n s r;rw[hx,Array.getD_eq_getD_getElem?]at h1;rw[hv,Array.getD_eq_getD_getElem?]at h2;rw[hy,Array.getD_eq_getD_getElem?]at h3;simp[results,h,h1,h2,h3,asAddr,Bs ha hs hm hc]
def olB(w:World):List Nat:=(List.range w.heap.size).filter λx=>decide (8<=x)
theorem US{w:World}{x:Nat}:x∈olB w↔8<=x/\x<w.heap.size:=by grind [olB]
theorem Mi.new{w0 w:World}{bs_:List (Nat × Obj)}(hG:Gl w0)(hF:FR w0 [] bs_ w)(k:Nat)(hk:bs_[k]? = some (pb,.cells #[RV,aQ] 57)):Mi (bs_.map (·.1)++olB w0) w [(pb,.cells #[RV,aQ] 57)] pb RV []:=by
  refine⟨⟨none,0,[],[],O,SlB.nil _ _,RX.nil⟩,λq hq=>?_,λx hx=>?_,λx hx=>?_⟩
  ·rw[pQ.1 hq]
   exact hF.heap hk
  ·grind [ids]
  rcases mQ.1 hx with hx|hx
  rotate_left
  ·have := US.1 hx
   exact⟨this.1,Nat.lt_of_lt_of_le this.2 hF.same.size⟩
  refine⟨?_,hF.lt_ids hx⟩;obtain⟨q,hq,rfl⟩:=nQ.1 hx;have:=(hF.own q hq).2;simp only[List.not_mem_nil,or_false]at this;exact fQ hG.size this
def Ou{w0 w:World}{bs_:List (Nat × Obj)}(hF:FR w0 [] bs_ w)(k:Nat){o:Obj}(hk:bs_[k]? = some (pb,o)):Off (λb=>b<w0.heap.size) w [(pb,o)]:=λb hb=>by
  refine⟨Nat.lt_of_lt_of_le hb hF.same.size,λhm=>?_⟩;rw[show ids [(pb,o)]=[pb] from rfl,pQ]at hm;have:=hF.ge hk;omega
def C8{F:Nat}(hl:Ja l<=256/\Hb l<=16777216)(hr:Ja r<=256/\Hb r<=16777216) :
    Ja ((Hf rl F [] 0 (some b) (some l) (some r)).1.getD zeroT)<=512/\Hb ((Hf rl F [] 0 (some b) (some l) (some r)).1.getD zeroT)<=16777216:=by
  have h1:=atM_sz (rl:=rl) F [] 0 (some b) (some l)<|some r;have h2:=atM_max (rl:=rl) (M:=16777216) Pa F [] 0 (some b) (some l) (some r) (λx hx=>lQ hx▸hl.2) (λx hx=>lQ hx▸hr.2) wW;generalize (Hf rl F [] 0 (some b) (some l)<|some r).1=o at h1 h2;cases o with
  | none=>simp[zeroT,Ja,Oa,Hb,Th,Xf]
  | some v=>exact⟨by simp only[Ge,Option.getD_some]at h1 ⊢;omega,h2 v rfl⟩
def NewB(w0 w':World)(b:Nat):Prop:=(b<8\/w0.heap.size<=b)/\b<w'.heap.size/\ZE w' b
def NewB.rx{u:World}{i:List Nat}{d:D}(h:Rep (NewB w1 w') w' d cs)(hi:∀x∈i,8<=x/\x<w1.heap.size):RX (wE u) i w' [d] cs :=
  .one (h.weaken λb hb _=>⟨bZ _,hb.2.1,λhm=>by have:=hi b hm;rcases hb.1 with h1|h1 <;> omega,hb.2.2⟩)
def MgO(mv:Tree × List Cf × Int)(w0:World)(v:Value)(w':World):Prop:=∃(q:Tv)(A:Option Addr)(c:Nat),v=.tuple #[.agg q.cells.toArray,.slice A (aL mv.2.1) c,J mv.2.2]/\Rep (NewB w0 w') w' (Sa mv.1) q.cells/\Rep (NewB w0 w') w' (.slice (mv.2.1.map VD)) [.slice A (aL mv.2.1) c]/\Same [] w0 w'
def AO{w0:World}{e:Int}(h:Same [] w0 w'):MgO (zeroT,[],e) w0 (.tuple #[.agg IQ.cells.toArray,aQ,J e]) w' :=
  ⟨IQ,none,0,rfl,Zf _ _,Rep.nil_slice 0 fX none,h⟩
def EachN(w0:World)(xs:List Tree)(q:Tree->Bool):Prop:=∀x,x∈xs->∀S w cs,Same [] w0 w->Rep S w (Sa x) cs->Calls prog 38 #[.agg cs.toArray] w (Qb λv w'=>v=.bool (q x)/\Same [] w w')
def EachN.ext{w0 w:World}(h:EachN w0 xs q)(hs:Same [] w0 w):EachN w xs q:=λx hx S w' cs hw=>h x hx S w' cs<|hs.trans hw
def OZ(xs:List Tree)(q:Tree->Bool)(B:Option Addr)(e:Nat)(S:Nat->Prop)(w0:World)(hX:Rep S w0 (.slice (Mb xs)) [.slice B (aL xs) e])(hq:EachN w0 xs q):Calls prog 68 #[.slice B (aL xs) e,.func (.func 38) #[] #[]] w0 (Qb λv w'=>∃n:Int,v=J n/\decide (0<=n)=xs.any q/\Same [] w0 w'):=by
 have hXl:=hX.slice_len;refine Ha func68 ntmps68 ?_;intro hF;refine rn 14<|Za (λμ σ w=>∃(j:Nat),μ=aL xs-j/\(j<=aL xs)/\((xs.take j).any q=false)/\AllEq σ [(0,.slice B (aL xs) e),(1,.func (.func 38) #[] #[]),(7,J<|(aL xs:Nat)),(8,J<|(j:Int))]/\FR w0 [] [] w) _ ⟨0,O,bZ _,Ca,Gc,hF⟩ ?_;rintro μ σ w ⟨j,rfl,hj,hn,hzz,hF⟩;refine Gh hzz 7 ⟨λhc0=>?_,λhc0=>?_⟩;refine rn 15 ?_;obtain⟨ad0,cs0,hA0,hl0,hk0,hx0⟩:=hX.tree_elem (i:=j) fX;have ho0:=hx0.one_;refine Da (v:=.pointer<|some<|ad0.add<|j*4) (Ea (i:=(j:Int)) Wc hA0)<|Da (v:=.agg<|List.toArray cs0) (Qa (l:=cs0) nZ rZ O hl0<|hF.cells0 hk0) ?_;refine Xk hF (hq _ (List.getElem_mem (l:=xs) (n:=j) fX) _ _ _ hF.same<|hF.rep hx0) (Ie O en_38 O O) ?_;intro w hF;refine rn 3 ⟨λhc1=>?_,λhc1=>?_⟩;refine rn 7 ?_;exact⟨_,O,by rw[List.any_eq_true.2 ⟨_,List.getElem_mem (l:=xs) (n:=j) fX,hc1⟩];simp,hF.same⟩;refine rn 4<|Tc Fj ?_;refine rn 2<|Va ⟨_,?_,j+1,O,fX,Jz fX hn hc1,Gc,hF⟩;omega;refine rn 8 ?_;have eT:xs.take j=xs:=cZ fX;rw[eT]at hn;exact⟨_,O,by rw[hn];decide,hF.same⟩
def VH(xs:List Tree)(q:Tree->Bool)(B:Option Addr)(e:Nat)(S:Nat->Prop)(w0:World)(hX:Rep S w0 (.slice (Mb xs)) [.slice B (aL xs) e])(hq:EachN w0 xs q):Calls prog 37 #[.slice B (aL xs) e,.func (.func 38) #[] #[]] w0 (Qb λv w'=>v=.bool (xs.any q)/\Same [] w0 w'):=by
 refine Ha func37 ntmps37 ?_;intro hF;refine rn 9<|Yb (OZ xs q B e S _ (hF.rep hX)<|hq.ext hF.same) ?_;rintro _ w ⟨n,rfl,hn,hE⟩;have hF:=hF.ext hE;refine rn 5 ?_;exact⟨xQ Value.bool hn,hF.same⟩
def HL(x:Tree)(hsz:Ja x<=1000000000)(hk:Rw x)(S:Nat->Prop)(w0:World)(cs:List Value)(hR:Rep S w0 (Sa x) cs)(hG:Gl w0):Calls prog 38 #[.agg cs.toArray] w0 (Qb λv w'=>v=.bool (!(Eb x))/\Same [] w0 w'):=by
 have hl:aL cs=4:=hR.length.trans<|Cb x;have ho:=hR.one_;refine Ha func38 ntmps38 ?_;intro hF;refine rn 2<|Cj (v:=.agg<|List.toArray cs) (cs:=(List.toArray cs)) hF O O ?_;rintro b1 w hb1 hF -;refine rn 5<|Da (v:=.agg<|List.toArray cs) (Qa (l:=cs) nZ rZ O hl<|hF.cellsAll 0 O) ?_;refine Ta (Up x hsz _ _ cs (hF.rep hR) hk<|hG.ext hF.same) ?_;rintro w hF -;refine rn 5 ?_;exact⟨O,hF.same⟩
def VN(xs:List Tree)(B:Option Addr)(e:Nat)(S:Nat->Prop)(w0:World)(hX:Rep S w0 (.slice (Mb xs)) [.slice B (aL xs) e])(hs:∀x∈xs,Ja x<=1000000000/\Rw x)(hG:Gl w0):Calls prog 21 #[.slice B (aL xs) e] w0 (Qb λv w'=>v=.bool (xs.all Eb)/\Same [] w0 w'):=by
 have hXl:=hX.slice_len;refine Ha func21 ntmps21 ?_;intro hF;refine rn 8<|Ta (VH xs (λx=>!(Eb x)) B e _ _ (hF.rep hX) λx hx S w cs hw hr=>HL x (hs x hx).1 (hs x hx).2 S w cs hr<|hG.ext<|hF.same.trans hw) ?_;rintro w hF -;refine rn 5 ?_;exact⟨xQ Value.bool (by rw[List.not_any_eq_all_not];simp),hF.same⟩
def DG{w:World}{q:Sv}(h:Rep S w (Rc (Ee o)) q.cells):Rep S w (Sa (o.getD zeroT)) q.v.cells:=by
  have:=(Hc h).2.2.2.2;cases o <;> exact this
theorem VJ(rl:List Rl)(b l r:Tree)(hat:ZM rl b l r->AtB rl 40 (some b) (some l) (some r))(hbig:ZM rl b l r->Ja ((Hf rl 40 [] 0 (some b) (some l) (some r)).1.getD zeroT)<=1000000000/\Hb ((Hf rl 40 [] 0 (some b) (some l) (some r)).1.getD zeroT)<=1073741824)(x y z:Tv)(rA:Option Addr)(rc:Nat)(S1 S2 S3 SR:Nat->Prop)(w0:World)(hX1:Rep S1 w0 (Sa b) x.cells)(hY1:Rep S2 w0 (Sa l) y.cells)(hZ1:Rep S3 w0 (Sa r) z.cells)(hR1:Rep SR w0 (Ik rl) [.slice rA rl.length rc])(hrk:∀q∈rl,RuleOk q)(hb:Ja b<=1000000000/\Hb b<=1073741824)(hl:Ja l<=1000000000/\Hb l<=1073741824)(hr:Ja r<=1000000000/\Hb r<=1073741824)(hG:Gl w0):Calls prog 8 #[.agg (x.cells).toArray,.agg (y.cells).toArray,.agg (z.cells).toArray,.slice rA rl.length rc] w0 (Qb λv w'=>MgO (Ig rl b l r) w0 v w'):=by
 have hX:=hX1.low;have hY:=hY1.low;have hZ:=hZ1.low;have hR:=hR1.low;refine Ha func8 ntmps8 ?_;intro hF;refine rn 3 ?_;rintro b1 w hb1 hF -;refine rn 1 ?_;rintro b2 w hb2 hF -;refine rn 1 ?_;rintro b3 w hb3 hF -;refine rn 1 ?_;rintro b4 w hb4 hF -;refine rn 11 ?_;rintro b5 w hb5 hF -;have hrow:=hF.rowS 0 rfl (ds:=Mb [b,l,r]) (n:=3) (RepL.cons_mk (hF.rep hX)<|RepL.cons_mk (hF.rep hY)<|RepL.cons_mk (c2:=[]) (hF.rep hZ) RepL.nil_mk) rfl fX;refine Ta (VN [b,l,r] _ _ _ _ hrow (by intro u hu;simp only[oQ,List.not_mem_nil,or_false]at hu;rcases hu with rfl|rfl|rfl;exact⟨by_Om,Ae _ fX⟩;exact⟨by_Om,Ae _ fX⟩;exact⟨by_Om,Ae _ fX⟩)<|hG.ext hF.same) ?_;rintro w hF -;refine rn 3 ⟨λhg0=>?_,λhg0=>?_⟩
 ·
  refine rn 9<|Da (w':=w) (v:=.agg #[J 0,I [],aQ,aQ]) Ib ?_;refine rn 1 ?_;rintro w hF -;refine rn 4<|Bo<|Ej λ_ hr=>Ug (H4 hr (l:=[J 0,I [],aQ,aQ]) O nZ rZ O (hF.cellsAll 1 O) (v:=aQ) O (y:=J 1) O) ?_;rw[Nn (λ⟨h1,h2,h3,h4⟩=>by simp_all)];exact AO hF.same
 refine rn 1<|Ta (JF rl rA rc _ hrk _ (hF.rep hR)<|hG.ext hF.same) ?_;rintro w hF -;refine rn 5 ⟨λhc0=>?_,λhc0=>?_⟩
 ·
  refine rn 2<|Da (w':=w) (v:=.agg #[J 0,I [],aQ,aQ]) Ib ?_;refine rn 1 ?_;rintro w hF -;refine rn 4<|Bo<|Ej λ_ hr=>Ug (H4 hr (l:=[J 0,I [],aQ,aQ]) O nZ rZ O (hF.cellsAll 1 O) (v:=aQ) O (y:=J 1) O) ?_;rw[Nn (λ⟨h1,h2,h3,h4⟩=>by simp_all)];exact AO hF.same
 refine rn 3 ?_;have hok:ZM rl b l r:=by simp_all[ZM]
 refine rn 2<|Da (w':=w) (v:=.agg #[.slice rA rl.length rc,aQ]) Ib ?_;refine rn 1 ?_;rintro b6 w hb6 hF -;refine rn 4<|Of (λσ w=>∃(mo:Mo),∃(q:Sv),∃(Ac:Option Addr),∃(cc:Nat),∃(sl:List (Nat × Obj)),∃(vals:List Value),∃(bt:Nat),(mo=Hf rl 40 [] 0 (some b) (some l) (some r))/\(SlB 38 17 Ac (aL mo.2) cc vals sl)/\(RX w0 ([bt,b6,b5,b4,b3,b2,b1]++ids sl) w [Rc<|Ee mo.1] q.cells)/\(RX (wE w0) ([bt,b6,b5,b4,b3,b2,b1]++(ids sl++olB w0)) w (mo.2.map VD) vals)/\AllEq σ [(8,V b4),(11,V b6),(12,V bt)]/\FR w0 [] ([(bt,.cells (q.cells).toArray 36),(b6,.cells #[.slice rA rl.length rc,.slice Ac (aL mo.2) cc] 57),(b5,.cells #[J x.k,I x.t,.slice x.A x.n x.c,.slice x.B x.m x.e,J y.k,I y.t,.slice y.A y.n y.c,.slice y.B y.m y.e,J z.k,I z.t,.slice z.A z.n z.c,.slice z.B z.m z.e] 25),(b4,.cells #[J 0,I [],aQ,aQ] 25),(b3,.cells (z.cells).toArray 25),(b2,.cells (y.cells).toArray 25),(b1,.cells (x.cells).toArray 25)]++(sl++[])) w) ?_ ?_
 ·
  refine Vb (.of [10]) (bQ [0,1,3,5]<|.alt 2 (.alt 4 (.alt 6 (.free 7<|.alt 8 (.act 9<|.act 10 .nil)<|cQ [9,8,10] .nil)<|.act 9<|.act 6<|.free 7<|.act 8<|.act 10 .nil)<|cQ [9,4,6]<|.free 7<|.act 8<|.act 10 .nil)<|cQ [9,2,4,6]<|.free 7<|.act 8<|.act 10 .nil) hF ?_;rintro w hF -;refine⟨λwq=>FR w0 [] [(b5,.cells #[J x.k,I x.t,.slice x.A x.n x.c,.slice x.B x.m x.e,J y.k,I y.t,.slice y.A y.n y.c,.slice y.B y.m y.e,J z.k,I z.t,.slice z.A z.n z.c,.slice z.B z.m z.e] 25),(b4,.cells #[J 0,I [],aQ,aQ] 25),(b3,.cells (z.cells).toArray 25),(b2,.cells (y.cells).toArray 25),(b1,.cells (x.cells).toArray 25)] wq,hF.drop 1,?_⟩;refine rn 4 ?_
  repeat' first
   |refine Ip ?_ ?_|refine Bh 2<|Mf (Ym x) ?_;rintro w hF -|refine Bh 4<|Mf (Ym y) ?_;rintro w hF -|refine Bh 6<|Mf (Ym z) ?_;rintro w hF -
   |
    refine Bh 8 ?_
    first|(refine Me (hat hok _ _ _ b6 (.slice rA rl.length rc) none 0 ⟨true,x⟩ ⟨true,y⟩ ⟨true,z⟩ ⟨Mi.new hG hF 0 rfl,hG.ext hF.same,⟨_,Ou hF 0 rfl,Rep.nil_slice 0 fX none⟩,⟨_,Ou hF 0 rfl,Jm (Wi (s:=⟨true,b⟩)<|hF.rep hX) (Wi (s:=⟨true,l⟩)<|hF.rep hY)<|Wi (s:=⟨true,r⟩)<|hF.rep hZ⟩,⟨_,Ou hF 0 rfl,hF.rep hR⟩,λ_ h=>lQ h▸⟨hok.1,hb⟩,λ_ h=>lQ h▸⟨hok.2.1,hl⟩,λ_ h=>lQ h▸⟨hok.2.2.1,hr⟩⟩ (by have:=Ve hok.2.1;simp only[Yd];omega) fX) ?_)|(refine Me (hat hok _ _ _ b6 (.slice rA rl.length rc) none 0 ⟨true,x⟩ ⟨true,y⟩ ⟨true,z⟩ ⟨Mi.new hG hF 1 rfl,hG.ext hF.same,⟨_,Ou hF 1 rfl,Rep.nil_slice 0 fX none⟩,⟨_,Ou hF 1 rfl,Jm (Wi (s:=⟨true,b⟩)<|hF.rep hX) (Wi (s:=⟨true,l⟩)<|hF.rep hY)<|Wi (s:=⟨true,r⟩)<|hF.rep hZ⟩,⟨_,Ou hF 1 rfl,hF.rep hR⟩,λ_ h=>lQ h▸⟨hok.1,hb⟩,λ_ h=>lQ h▸⟨hok.2.1,hl⟩,λ_ h=>lQ h▸⟨hok.2.2.1,hr⟩⟩ (by have:=Ve hok.2.1;simp only[Yd];omega) fX) ?_)
    rintro _ w2 ⟨sm2,q,rfl,hR2,hO⟩
    first|have hF2:FR w0 [] ([(b301,.cells #[.bool false,J 0,I [],aQ,aQ] 36),(b5,.cells #[J x.k,I x.t,.slice x.A x.n x.c,.slice x.B x.m x.e,J y.k,I y.t,.slice y.A y.n y.c,.slice y.B y.m y.e,J z.k,I z.t,.slice z.A z.n z.c,.slice z.B z.m z.e] 25),(b4,.cells #[J 0,I [],aQ,aQ] 25),(b3,.cells (z.cells).toArray 25),(b2,.cells (y.cells).toArray 25),(b1,.cells (x.cells).toArray 25)]++([(b6,.cells #[.slice rA rl.length rc,aQ] 57)]++[])) w:=hF.toseg 1 rfl|have hF2:FR w0 [] ([(b5,.cells #[J x.k,I x.t,.slice x.A x.n x.c,.slice x.B x.m x.e,J y.k,I y.t,.slice y.A y.n y.c,.slice y.B y.m y.e,J z.k,I z.t,.slice z.A z.n z.c,.slice z.B z.m z.e] 25),(b4,.cells #[J 0,I [],aQ,aQ] 25),(b3,.cells (z.cells).toArray 25),(b2,.cells (y.cells).toArray 25),(b1,.cells (x.cells).toArray 25)]++([(b6,.cells #[.slice rA rl.length rc,aQ] 57)]++[])) w:=hF.toseg 0 rfl
    obtain⟨mo,hmo⟩:∃mo,mo=Hf rl 40 [] 0 (some b) (some l) (some r):=⟨_,rfl⟩;rw[<-hmo]at hR2 hO;rw[kZ]at hO
    first|have hQ:=RX.madeM (w0:=w0) (i:=[b301,b6,b5,b4,b3,b2,b1]++ids sm2) hF.same.size (λx hx=>(mQ.1 hx).imp (λh=>hF.lt_ids (aS h)) id) hR2|have hQ:=RX.madeM (w0:=w0) (i:=[b6,b5,b4,b3,b2,b1]++ids sm2) hF.same.size (λx hx=>(mQ.1 hx).imp (λh=>hF.lt_ids (aS h)) id) hR2
    have hF:=hF2.swapM hO.m hO.hh hO.mc<|.a .z;obtain⟨Ac,cc,sl,vals,hsm,hSl,hC⟩:=hO.m.ex;subst hsm
    first|have hF:FR w0 [] ([(b6,.cells #[.slice rA rl.length rc,.slice Ac (aL mo.2) cc] 57),(b301,.cells #[.bool false,J 0,I [],aQ,aQ] 36),(b5,.cells #[J x.k,I x.t,.slice x.A x.n x.c,.slice x.B x.m x.e,J y.k,I y.t,.slice y.A y.n y.c,.slice y.B y.m y.e,J z.k,I z.t,.slice z.A z.n z.c,.slice z.B z.m z.e] 25),(b4,.cells #[J 0,I [],aQ,aQ] 25),(b3,.cells (z.cells).toArray 25),(b2,.cells (y.cells).toArray 25),(b1,.cells (x.cells).toArray 25)]++(sl++[])) w2:=hF.perm (List.perm_middle).symm|have hF:FR w0 [] ([(b6,.cells #[.slice rA rl.length rc,.slice Ac (aL mo.2) cc] 57),(b5,.cells #[J x.k,I x.t,.slice x.A x.n x.c,.slice x.B x.m x.e,J y.k,I y.t,.slice y.A y.n y.c,.slice y.B y.m y.e,J z.k,I z.t,.slice z.A z.n z.c,.slice z.B z.m z.e] 25),(b4,.cells #[J 0,I [],aQ,aQ] 25),(b3,.cells (z.cells).toArray 25),(b2,.cells (y.cells).toArray 25),(b1,.cells (x.cells).toArray 25)]++(sl++[])) w2:=hF.perm (List.perm_middle).symm
    first|(have hC:RX (wE w0) ([b301,b6,b5,b4,b3,b2,b1]++(ids sl++olB w0)) w2 (mo.2.map VD) vals:=(hC.empty w0).sub zW)|(have hC:RX (wE w0) ([b6,b5,b4,b3,b2,b1]++(ids sl++olB w0)) w2 (mo.2.map VD) vals:=(hC.empty w0).sub zW)
    first|(have hQ:RX w0 ([b301,b6,b5,b4,b3,b2,b1]++ids sl) w2 [Rc<|Ee mo.1] q.cells:=hQ.sub zW)|(have hQ:RX w0 ([b6,b5,b4,b3,b2,b1]++ids sl) w2 [Rc<|Ee mo.1] q.cells:=hQ.sub zW)
    clear hR2 hO hF2;refine⟨hF.su,?_⟩
   |
    refine Bh 9<|rn 1 ?_;intro b301 w hb301 hF hE
    try have hQ:=hQ.alloc hE hb301
    try have hC:=hC.alloc hE hb301
   |refine Bh 10<|rn 1 ?_;intro w hF hE;have hQ:=hQ.store hE qJ;have hC:=hC.store hE qJ|refine rn 1 ?_;exact Va ⟨mo,q,Ac,cc,sl,vals,b301,hmo,hSl,hQ.sub qP,hC.sub qP,Gc,hF⟩|refine rn 1 ?_;exact Va ⟨mo,q,Ac,cc,sl,vals,b301,hmo,hSl,hQ.sub qP,hC.sub qP,Gc,((((((hF.front 6 rfl).front 6 rfl).front 6 rfl).front 6 rfl).front 6 rfl).front 5 rfl).front 6 rfl⟩|refine K9 7<|Fa O (v:=.agg #[.bool true,J x.k,I x.t,.slice x.A x.n x.c,.slice x.B x.m x.e,.bool true,J y.k,I y.t,.slice y.A y.n y.c,.slice y.B y.m y.e,.bool true,J z.k,I z.t,.slice z.A z.n z.c,.slice z.B z.m z.e]) (λw hC=>by kernel_rfl) ?_
 rintro σ w ⟨mo,q,Ac,cc,sl,vals,bt,hmo,hSl,hQ,hC,hzz,hF⟩;refine J9 hzz 6 ?_;have hbig:=hbig hok;rw[<-hmo]at hbig;refine Ta (Rv (mo.1.getD zeroT) fX _ q.v.cells (DG hQ.rep) (Ae _ fX)<|hG.ext hF.same) ?_;intro w hF hE;have hQ:=hQ.ext hE;have hC:=hC.ext hE;refine rn 4 ⟨λhc1=>?_,λhc1=>?_⟩
 ·
  refine rn 2<|Da (w':=w) (v:=.agg #[J 0,I [],aQ,aQ]) Ib ?_;refine rn 1 ?_;intro w hF hE;have hQ:=hQ.store hE qJ;have hC:=hC.store hE qJ;refine rn 4<|Bo<|Ej λ_ hr=>Ug (H4 hr (l:=[J 0,I [],aQ,aQ]) O nZ rZ O (hF.cellsAll 3 O) (v:=aQ) O (y:=J 6) O) ?_;rw[show Ig rl b l r=(zeroT,[],6) by rw[Rj hok,<-hmo];unfold S9;rw[tQ (aS hc1)]];exact AO hF.same
 refine rn 3<|Vb (.of []) (bQ [0,1,2,3,4,5]<|.act 6<|.free 7<|.free 8 .nil) hF ?_;intro w hF hE;have hQ:=hQ.ext hE;have hC:=hC.ext hE;refine⟨λwq=>FR w0 [] [(bt,.cells (q.cells).toArray 36),(b6,.cells #[.slice rA rl.length rc,.slice Ac (aL mo.2) cc] 57),(b5,.cells #[J x.k,I x.t,.slice x.A x.n x.c,.slice x.B x.m x.e,J y.k,I y.t,.slice y.A y.n y.c,.slice y.B y.m y.e,J z.k,I z.t,.slice z.A z.n z.c,.slice z.B z.m z.e] 25),(b3,.cells (z.cells).toArray 25),(b2,.cells (y.cells).toArray 25),(b1,.cells (x.cells).toArray 25)] wq,hF.sub<|.cons_cons _<|.cons_cons _<|.cons_cons _<|.cons _<|.cons_cons _<|.cons_cons _<|.cons_cons _<|List.nil_sublist _,?_⟩;refine rn 1 ?_;refine Fa O (v:=.agg (q.v.cells).toArray) (λw hC=>Qa (l:=q.v.cells) nZ rZ O O<|hC.part 0 1 O O)<|rn 5 ?_;intro w hF hE;have hQ:=hQ.store hE qJ;have hC:=hC.store hE qJ;refine rn 4<|Bo<|Ej λ_ hr=>Ug (H4 hr (l:=q.v.cells) O nZ rZ O (hF.cellsAll 3 O) (v:=.slice Ac (aL mo.2) cc) O (y:=J 0) O) ?_;have e:Ig rl b l r=(mo.1.getD zeroT,mo.2,0):=by rw[Rj hok,<-hmo];unfold S9;rw[uQ (aS hc1)]
 rw[e];refine⟨q.v,Ac,cc,O,(DG hQ.rep).weaken λb hb _=>⟨.inr hb.1,hb.2.1,hb.2.2.2⟩,hSl.repOf (λx hx=>⟨(hF.own x zT).1,?_⟩) (RepL.weaken (λb hb _=>⟨?_,hb.2.1,hb.2.2.2⟩) hC) Ca,hF.same⟩
 ·have h1 := hF.own x zT
  exact⟨.inr<|h1.2.resolve_right Ca,Ga h1.1,hSl.soft (λq hq=>(hF.own q zM).1) x hx⟩
 by_cases h8 : b<8
 ·exact .inl h8
 right;have h1:=hb.2.2.1;simp only[mQ,not_or,US]at h1;omega
def HK(rl:List Rl)(b l r:Tree)(hat:ZM rl b l r->AtA rl 40 (some b) (some l) (some r))(x y z:Tv)(rA:Option Addr)(rc:Nat)(S1 S2 S3 SR:Nat->Prop)(w0:World)(hX1:Rep S1 w0 (Sa b) x.cells)(hY1:Rep S2 w0 (Sa l) y.cells)(hZ1:Rep S3 w0 (Sa r) z.cells)(hR1:Rep SR w0 (Ik rl) [.slice rA rl.length rc])(hrk:∀q∈rl,RuleOk q)(hb:Ja b<=256/\Hb b<=16777216)(hl:Ja l<=256/\Hb l<=16777216)(hr:Ja r<=256/\Hb r<=16777216)(hG:Gl w0):Calls prog 8 #[.agg (x.cells).toArray,.agg (y.cells).toArray,.agg (z.cells).toArray,.slice rA rl.length rc] w0 (Qb λv w'=>MgO (Ig rl b l r) w0 v w') :=
  VJ rl b l r (λhk=>(hat hk).toB hk hb hl hr) (λ_=>by have:=C8 (rl:=rl) (F:=40) (b:=b) hl hr;omega) x y z rA rc S1 S2 S3 SR w0 hX1 hY1 hZ1 hR1 hrk ⟨by_Om,by_Om⟩ ⟨by_Om,by_Om⟩ ⟨by_Om,by_Om⟩ hG
def Kl(l:MapL)(k:Str)(v:Value):MapL:=match l.findIdx? (λx=>decide (x.1=k))with
  | some i=>l.set i (k,v)
  | none=>l++[(k,v)]
theorem Q8{l:MapL}{k:Str}(h:l.findIdx? (λx=>decide (x.1=k))=some i):∃hi:i<aL l,l[i].1=k:=by
  obtain⟨hi,h1,-⟩:=List.findIdx?_eq_some_iff_getElem.1 h;grind
theorem Ef(x:Str × Value)(l:MapL)(k:Str):Ad (x::l) k=if x.1=k then some x.2 else Ad l k:=by grind [Ad]
theorem H1(v:Value)(k k':Str):∀l:MapL,Ad (Kl l k v) k'=if k=k' then some v else Ad l k'
  | [] => by
    have e:Kl [] k v=[(k,v)]:=rfl;rw[e,Ef]
  | x :: l => by
    have ih:=H1 v k k' l;unfold Kl at ih ⊢;rw[List.findIdx?_cons];by_cases h:x.1=k
    ·simp only[h, decide_true, if_true, List.set_cons_zero]
     rw[Ef,Ef];by_cases h2:k=k'
     ·rw[uQ h2,uQ h2]
     rw[tQ h2,tQ h2,tQ λe=>h2<|h▸e]
    simp only[h, decide_false, Bool.false_eq_true, if_false];cases hf:l.findIdx? (λx=>decide (x.1=k))with
    | none =>
      rw[hf]at ih;simp only[Option.map_none,List.cons_append]at ih ⊢;rw[Ef,ih,Ef];by_cases h2:x.1=k'
      ·rw[uQ h2,tQ λe=>h<|h2.trans e.symm,uQ h2]
      rw[tQ h2,tQ h2]
    | some i =>
      rw[hf]at ih;simp only[Option.map_some,List.set_cons_succ]at ih ⊢;rw[Ef,ih,Ef];by_cases h2:x.1=k'
      ·rw[uQ h2,tQ λe=>h<|h2.trans e.symm,uQ h2]
      rw[tQ h2,tQ h2]
section
variable {P:Program}{R:Exit->Act->World->Prop}{n:Nat}{k:Kt}{s:Nat->Value}{w:World}{ops rest:List Oper}
variable {d:Nat}{ty:TypeId}{pos:String}{aft:Array Edge}{g:Option (Nat × Bool)}
variable {w0:World}{Ds:List Nat}{bs_:List (Nat × Obj)}{ρ:Operand->Value}{dst:Option Nat}
theorem UH(l:MapL){key:Str}(hi:i<aL l) :
    ((Xa l 0).toArray.modify i λe=>{ e with key:=I key,val:=v })=(Xa (l.set i (key,v)) 0).toArray:=by grind [Xg,Sm]
theorem CU{t b:Nat}{y:Operand}{l:MapL}{key:Str}(ht:P.underlying t=some (.map kt e))(hk:P.underlying kt=some .string)
    (hx:ρ x=.map (some b)) (hy:ρ y=I key) (hv:ρ z=v) (hb:w.heap[b]? = some (Ub l)) :
    (execOp ρ ⟨dst,.mapUpdate t x y z,ty,pos,aft,g⟩).run P w=.ok .skip { w with heap:=w.heap.setIfInBounds b (Ub (Kl l key v)) }:=by
  unfold Kl;cases hf:l.findIdx? (λx=>decide (x.1=key))with
  | none=>grind [Ad,Iq,At]
  | some i =>
    obtain⟨hi,hik⟩:=Q8 hf;have hfk:(l.findIdx? λy=>decide (y.1=key)).bind (λj=>(l[j]?).map λy=>(j,y.2))=some (i,l[i].2):=qJ
    have hs:=C6 (P:=P) (o:=Ub<|l.set i (key,v)) hb ⟨_,_,rfl⟩;have ho:Ub (l.set i (key,v))=.map ((Xa l 0).toArray.modify i λe=>{ e with key:=I key,val:=v }) (aL l):=by
      rw[UH l hi,Ub];simp
    rw[ho]at hs ⊢;have hes:(((Xa l 0).toArray[i]?).map (·.key)).getD (I key)=I key:=by
      have e1:=Sm l 0 i hi;grind
    have hkt:(Instr.keyThatStays (I key)<|I key).run P w=.ok (I key) w:=by simp[Instr.keyThatStays,Instr.sameBits,JQ]
    simp only[execOp,Instr.mapUpdate,hx,hy,hv,Sem.run_bind,run_underlying ht,Pj hb,Ri hk,Uj hk,Result.andThen,hfk,hes,hkt,hs];rfl
def Pu(i:Nat){t b:Nat}{y:Operand}{l:MapL}{key:Str}(hF:FR w0 Ds bs_ w)(ht:P.underlying t=some (.map kt e))(hk:P.underlying kt=some .string)
    (hx:ev n s x=.map (some b)) (hy:ev n s y=I key) (hv:ev n s z=v) (hi:bs_[i]? = some (b,Ub l))
    (h:∀w',FR w0 Ds (bs_.set i (b,Ub (Kl l key v))) w'->Same [b] w w'->Og P R n ops k rest s w')
    (hw:Ka ops n s ⟨none,.mapUpdate t x y z,ty,pos,aft,g⟩=true:=by rfl):Og P R n ops k (⟨none,.mapUpdate t x y z,ty,pos,aft,g⟩::rest) s w :=
  Nt (CU ht hk hx hy hv<|hF.heap hi) (h _ (hF.setObj i hi)<|Ok w b _) hw
end
structure Cv where
  A:Option Addr
  n:Nat
  c:Nat
  k:Int
  x:Sv
  y:Sv
  z:Sv
abbrev Cv.cells(q:Cv):List Value:=[.slice q.A q.n q.c,J q.k]++th q.x q.y q.z
structure CvOf (S:Nat->Prop) (w:World) (c:Cf) (q:Cv):Prop where
  n:q.n=aL c.path
  k:q.k=c.cls
  p:Rep S w (Wa c.path) [.slice q.A q.n q.c]
  x:Rep S w (Rc c.b) q.x.cells
  y:Rep S w (Rc c.l) q.y.cells
  z:Rep S w (Rc c.r) q.z.cells
theorem cf_open{w:World}{c:Cf}(h:Rep S w (VD c) cs):∃q:Cv,cs=q.cells/\CvOf S w c q:=by
  unfold VD at h;rw[Rep]at h;obtain⟨c1,d1,rfl,h1,h⟩:=RepL.cons_inv h;obtain⟨c2,d2,rfl,h2,h⟩:=RepL.cons_inv h;obtain⟨c3,d3,rfl,h3,h⟩:=RepL.cons_inv h;obtain⟨c4,d4,rfl,h4,h⟩:=RepL.cons_inv h;obtain⟨c5,d5,rfl,h5,h⟩:=RepL.cons_inv h;obtain rfl:=RepL.nil_inv h;obtain⟨A,n,rfl⟩:∃A e,c1=[.slice A (aL c.path) e]:=by
    have h1':=h1;unfold Wa at h1';rw[Rep]at h1';obtain⟨A,c,rfl,-⟩:=h1';exact⟨A,c,by rw[rQ]⟩
  obtain rfl:c2=[J c.cls]:=by
    unfold Pd at h2;rw[Rep]at h2;exact h2.1
  obtain⟨x,rfl,-⟩:=T4 h3;obtain⟨y,rfl,-⟩:=T4 h4;obtain⟨z,rfl,-⟩:=T4 h5;exact⟨⟨A,aL c.path,n,c.cls,x,y,z⟩,Ca,⟨O,O,h1,h3,h4,h5⟩⟩
def CvOf.ext{w:World}{c:Cf}{q:Cv}(h:CvOf S w c q)(hs:Same [] w w'):CvOf S w' c q:=⟨h.n,h.k,h.p.ext hs,h.x.ext hs,h.y.ext hs,h.z.ext hs⟩
theorem Rep.cf_elem{w:World}{l:List Cf}{len c:Nat}(h:Rep S w (.slice (l.map VD)) [.slice A len c])(hi:i<aL l) :
    ∃(ad:Addr)(q:Cv),A=some ad/\(∀j (hj:j<aL q.cells),w.cell? ((ad.add (i*17)).add j)=some q.cells[j])/\CvOf S w l[i] q:=by
  obtain⟨ad,cs,hA,hl,hc,hr⟩:=Rep.elem (sz:=17) h (λd hd=>by obtain⟨k,_,rfl⟩:=nQ.1 hd;exact UJ k) (i:=i) (aS hi);grind [cf_open]
theorem Rep.sd_elem{w:World}{l:List Sd}{len c:Nat}(h:Rep S w (.slice (l.map Rc)) [.slice A len c])(hi:i<aL l) :
    ∃(ad:Addr)(q:Sv),A=some ad/\(∀j (hj:j<aL q.cells),w.cell? ((ad.add (i*5)).add j)=some q.cells[j])/\Rep S w (Rc l[i]) q.cells:=by
  obtain⟨ad,cs,hA,hl,hc,hr⟩:=Rep.elem (sz:=5) h (λd hd=>by obtain⟨k,_,rfl⟩:=nQ.1 hd;exact To k) (i:=i) (aS hi);grind [T4]
structure CfOk (c:Cf):Prop where
  b:SdOk c.b
  l:SdOk c.l
  r:SdOk c.r
def CfOk.all{c:Cf}(h:CfOk c):∀s∈[c.b,c.l,c.r],SdOk s:=by
  intro s hs;simp only[oQ,List.not_mem_nil,or_false]at hs;rcases hs with rfl|rfl|rfl
  ·exact h.b
  ·exact h.l
  exact h.r
def D7(c:Cf):Z3 c=[c.b,c.l,c.r].all λs=>Aw s c.cls:=by simp[Z3]
def Gs(k:Int)(s:Str):Int:=if k≠7 then -1 else if (De s).2≠0 then -1 else (R9 (De s).1).1
def L4(v:Tree):Dd v=Gs v.kind v.text:=rfl
theorem H8(c:Cf)(q:Cv)(pk:Int)(S:Nat->Prop)(w0:World)(hq:CvOf S w0 c q)(hk:CfOk c)(hG:Gl w0):Calls prog 56 #[.agg q.cells.toArray,J pk] w0 (Qb λv w'=>∃y:Sv,v=.tuple #[.agg y.cells.toArray,.bool (Fh c pk).2]/\Rep (Btw w0 w') w' (Rc (Fh c pk).1) y.cells/\Same [] w0 w'):=by
 refine Ha func56 ntmps56 ?_;intro hF;refine rn 3 ?_;rintro b1 w hb1 hF -;refine rn 1 ?_;rintro b2 w hb2 hF -;refine rn 17 ⟨λhc0=>?_,λhc0=>?_⟩;refine rn 4<|Yb (Kh c.b q.x S (hF.rep hq.x) hk.b<|hG.ext hF.same) ?_;rintro _ w ⟨y,rfl,hRt,hE⟩;have hY:=RX.made (ids:=[b2,b1]) hF.same.size (λx hx=>hF.lt_ids (aS hx)) hRt;have hF:=hF.ext hE;clear hE hRt;refine rn 1 ?_;intro w hF hE;have hY:=hY.store hE qJ;refine rn 4 ?_;have e:Fh c pk=(Zk c.b,true):=by unfold Fh;rw[uQ hc0]
 rw[e]
 ·exact⟨y,O,hY.done,hF.same⟩
 refine rn 7 ⟨λhc1=>?_,λhc1=>?_⟩;refine rn 4<|Yb (Kh c.l q.y S (hF.rep hq.y) hk.l<|hG.ext hF.same) ?_;rintro _ w ⟨y,rfl,hRt,hE⟩;have hY:=RX.made (ids:=[b2,b1]) hF.same.size (λx hx=>hF.lt_ids (aS hx)) hRt;have hF:=hF.ext hE;clear hE hRt;refine rn 1 ?_;intro w hF hE;have hY:=hY.store hE qJ;refine rn 4 ?_;have e:Fh c pk=(Zk c.l,true):=by unfold Fh;rw[tQ hc0,uQ hc1]
 rw[e]
 ·exact⟨y,O,hY.done,hF.same⟩
 refine rn 7 ⟨λhc2=>?_,λhc2=>?_⟩;refine rn 4<|Yb (Kh c.r q.z S (hF.rep hq.z) hk.r<|hG.ext hF.same) ?_;rintro _ w ⟨y,rfl,hRt,hE⟩;have hY:=RX.made (ids:=[b2,b1]) hF.same.size (λx hx=>hF.lt_ids (aS hx)) hRt;have hF:=hF.ext hE;clear hE hRt;refine rn 1 ?_;intro w hF hE;have hY:=hY.store hE qJ;refine rn 4 ?_;have e:Fh c pk=(Zk c.r,true):=by unfold Fh;rw[tQ hc0,tQ hc1,uQ hc2]
 rw[e]
 ·exact⟨y,O,hY.done,hF.same⟩
 refine rn 5<|Da (w':=w) (v:=.agg #[.bool false,J 0,I [],aQ,aQ]) Ib ?_;refine rn 1 ?_;rintro w hF -;refine rn 4 ?_;have e:Fh c pk=(noS,false):=by unfold Fh;rw[tQ hc0,tQ hc1,tQ hc2]
 rw[e];exact⟨⟨false,IQ⟩,O,R4,hF.same⟩
theorem fits_c(c:Cf)(q:Cv)(S:Nat->Prop)(w0:World)(hq:CvOf S w0 c q)(hk:CfOk c)(hG:Gl w0):Calls prog 55 #[.agg q.cells.toArray] w0 (Qb λv w'=>v=.bool (Z3 c)/\Same [] w0 w'):=by
 refine Ha func55 ntmps55 ?_;intro hF;refine rn 3 ?_;rintro b1 w hb1 hF -;refine rn 13 ?_;rintro b2 w hb2 hF -;have hrow:Rep (λx=>S x\/x=b2) _ (.slice<|[c.b,c.l,c.r].map Rc) _:=hF.rowS 0 rfl (n:=3) (RepL.cons_mk (hF.rep hq.x)<|RepL.cons_mk (hF.rep hq.y)<|RepL.cons_mk (c2:=[]) (hF.rep hq.z) RepL.nil_mk) rfl fX;refine rn 5<|Za (λμ σ w=>∃(j:Nat),μ=3-j/\(j<=3)/\(Rep (λx=>S x\/x=b2) w (.slice<|[c.b,c.l,c.r].map Rc) [W b2 3 3])/\(([c.b,c.l,c.r].take j).all (λs=>Aw s c.cls)=true)/\AllEq σ [(1,V b1),(11,W b2 3 3),(12,J 3),(13,J<|(j:Int))]/\FR w0 [] [(b2,.cells ((th q.x q.y q.z)).toArray 36),(b1,.cells (q.cells).toArray 38)] w) _ ⟨0,O,fX,hrow,O,Gc,hF⟩ ?_;rintro μ σ w ⟨j,rfl,hj,hrow,ha,hzz,hF⟩;refine Gh hzz 7 ⟨λhc0=>?_,λhc0=>?_⟩;refine rn 5 ?_;have hj3:j<aL [c.b,c.l,c.r]:=by simp only[kQ,aZ];omega
 obtain⟨ad,s,hAs,hks,hes⟩:=hrow.sd_elem (i:=j) hj3;obtain⟨sd,hsd⟩:∃sd,sd=[c.b,c.l,c.r][j]:=⟨_,rfl⟩;rw[<-hsd]at hes;have hsok:SdOk sd:=hsd▸hk.all _ (eQ _);have hse:=Hc hes;have hqk:=hq.k;refine rn 1<|Da (v:=.pointer<|some<|ad.add<|j*5) (Ea (i:=(j:Int)) sl_118 hAs)<|Da (v:=.agg (s.cells).toArray) (Qa (l:=s.cells) isAgg36 sizeOf36 O O hks) ?_;refine rn 1 ?_;intro b3 w hb3 hF hE;have hrow:=hrow.ext hE;have hes:=hes.ext hE;have hse:=Hc hes;refine rn 8 ⟨λhg0=>?_,λhg0=>?_⟩;refine rn 2<|Ta (Up sd.val hsok.sz _ _ s.v.cells hse.2.2.2.2 hsok.ok<|hG.ext hF.same) ?_;intro w hF hE;have hrow:=hrow.ext hE;have hes:=hes.ext hE;have hse:=Hc hes;refine rn 3 ⟨λhg1=>?_,λhg1=>?_⟩;refine rn 20 ⟨xQ Value.bool ?_,hF.same⟩;symm;rw[D7,List.all_eq_false];refine⟨sd,hsd▸eQ _,?_⟩;unfold Aw;simp_all;refine rn 5 ⟨λhg2=>?_,λhg2=>?_⟩;refine rn 10 ⟨λhc1=>?_,λhc1=>?_⟩;refine rn 6 ⟨xQ Value.bool ?_,hF.same⟩;symm;rw[D7,List.all_eq_false];refine⟨sd,hsd▸eQ _,?_⟩;unfold Aw;simp_all;refine rn 4<|Tc (Le<|((j+1:Nat):Int)) ?_;refine rn 2 ?_;have hgood:Aw sd c.cls=true:=by unfold Aw;simp_all
 refine Va ⟨_,?_,j+1,O,fX,hrow,bK,Gc,hF.su⟩;omega;refine rn 14<|Tc (Le<|((j+1:Nat):Int)) ?_;refine rn 2 ?_;have hgood:Aw sd c.cls=true:=by unfold Aw;simp_all
 refine Va ⟨_,?_,j+1,O,fX,hrow,bK,Gc,hF.su⟩;omega;refine rn 23<|Tc (Le<|((j+1:Nat):Int)) ?_;refine rn 2 ?_;have hgood:Aw sd c.cls=true:=by unfold Aw;simp_all
 refine Va ⟨_,?_,j+1,O,fX,hrow,bK,Gc,hF.su⟩;omega;refine rn 8 ⟨xQ Value.bool ?_,hF.same⟩;obtain rfl:j=3:=by_Om
 rw[D7];exact ha.symm
theorem NR(x:Tv)(hl:aL x.t<=140737488355328)(w0:World)(hG:Gl w0):Calls prog 57 #[.agg (x.cells).toArray] w0 (Qb λv w'=>v=J (Gs x.k x.t)/\Same [] w0 w'):=by
 refine Ha func57 ntmps57 ?_;intro hF;refine rn 3 ?_;rintro b1 w hb1 hF -;refine rn 12 ⟨λhc0=>?_,λhc0=>?_⟩;refine rn 6 ?_;exact⟨xQ (Value.int .i64) (by simp_all[Gs]),hF.same⟩;refine rn 6<|Ta (QF x.t hl _) ?_;rintro w hF -;refine rn 4 ?_;rintro b2 w hb2 hF -;refine rn 11 ⟨λhc1=>?_,λhc1=>?_⟩;refine rn 6 ?_;exact⟨xQ (Value.int .i64) (by simp_all[Gs]),hF.same⟩;refine rn 5 ?_;refine Ta (AJ (De x.t).1 (by have:=No x.t;omega) _<|hG.ext hF.same) ?_;rintro w hF -;refine rn 14 ?_;exact⟨xQ (Value.int .i64) (by simp_all[Gs]),hF.same⟩
theorem updM_len(v:Value)(k:Str):∀m:MapL,aL (Kl m k v)=aL m+if Ad m k=none then 1 else 0:=λm=>by
  have h:=Iq m k;unfold Kl;cases hf:m.findIdx? (λx=>decide (x.1=k))with
  | none=>grind
  | some i =>
    obtain⟨hi,-⟩:=Q8 hf;grind
structure CntM (m:MapL) (l:List Str):Prop where
  get:∀t,Ad m t=if t∈l then some (J (l.count t:Int)) else none
  len:aL m=aL l.eraseDups
def CntM.nil:CntM [] []:=⟨λt=>by simp[Ad],rfl⟩
theorem CntM.val{m:MapL}{l:List Str}(h:CntM m l)(t:Str):(Ad m t).getD (J 0)=J ((l.count t:Nat):Int):=by
  rw[h.get];grind
theorem CntM.add{m:MapL}{l:List Str}(h:CntM m l)(t:Str):CntM (Kl m t (J (((l.count t+1:Nat)):Int))) (l++[t]):=by
  refine⟨λk=>?_,?_⟩
  ·rw[H1]
   by_cases e:t=k
   ·grind
   rw[tQ e, h.get, List.count_append, List.count_singleton];grind
  rw[updM_len, h.len, h.get, List.eraseDups_append, dQ];by_cases ht:t∈l
  ·rw[uQ ht]
   have:[t].removeAll l=[]:=by simp[List.removeAll,ht]
   grind
  rw[tQ ht];have:[t].removeAll l=[t]:=by simp[List.removeAll,ht]
  grind
def TD(hj:j<aL xs):Fd (xs.take (j+1))=Fd (xs.take j)++Xc xs[j]:=by
  rw[Wd,Wd,iQ hj,List.flatMap_append];simp
def B8(x:Tree):aL (Xc x)<=Ja x:=Tree.ind (Q:=λx=>aL (Xc x)<=Ja x) (λk t ks xs ih=>by
  have hs:∀ys:List Tree,(∀y∈ys,aL (Xc y)<=Ja y)->aL (Fd ys)<=Oa ys:=λys=>by
    induction ys with
    | nil=>intro _;simp[Fd]
    | cons y ys ihy =>
      intro h;have h1:=h y Ca;have h2:=ihy λz hz=>h z qA;rw[Fd,Oa,dQ];omega
  have:=hs xs ih;rw[Xc,Ja,dQ];split <;> simp <;> omega) x
def XL(x:Tree):Prop:=∀(S:Nat->Prop)(w0:World)(mb:Nat)(m:MapL)(l:List Str)(cs:List Value),Rep S w0 (Sa x) cs->(∀b,S b->b<w0.heap.size/\b∉[mb])->w0.heap[mb]? = some (Ub m)->CntM m l->aL l+Ja x<=1000000000 ->
  Calls prog 54 #[.agg cs.toArray,.map (some mb)] w0 (Qb λv w'=>∃m',v=.tuple #[]/\w'.heap[mb]? = some (Ub m')/\CntM m' (l++Xc x)/\Same [mb] w0 w')
theorem SJ(ys:List Tree):aL (Fd ys)<=Oa ys:=by
  have:=B8<|.node 0 [] [] ys;rw[Xc,Ja,tQ Pa,kZ]at this;have h2:∀zs:List Tree,aL (Fd zs)<=Oa zs:=λzs=>by
    induction zs with
    | nil=>simp[Fd]
    | cons z zs ih=>have:=B8 z;rw[Fd,Oa,dQ];omega
  grind
theorem YE(xs:List Tree)(j:Nat)(hj:j<aL xs):Oa (xs.take j)+Ja xs[j]<=Oa xs:=by
  have h:xs=xs.take j++xs[j]::xs.drop (j+1):=qX
  have h2:=xQ Oa h;rw[Kc,Oa]at h2;omega
def IL(k:Int)(t:Str)(ks:List Str)(xs:List Tree)(ih:∀x,x∈xs->XL x):XL (.node k t ks xs):=by
 intro S w0 mb m l cs hR hS hmb hCm hsz;obtain⟨A,c,B,e,rfl,-,-,-,hX⟩:=hR.tree_inv;have hXl:=hX.slice_len;rw[Ja]at hsz;refine Wb func54 ntmps54 O O ?_;have hF:FR w0 [mb] [(mb,Ub m)] w0:=FR.open_ (by simp[hmb]) Ca;refine rn 3 ?_;rintro b1 w hb1 hF -;refine rn 3<|Of (λσ w=>∃(m1:MapL),∃(l1:List Str),(l1=l++(if k=7 then [t] else []))/\(CntM m1 l1)/\AllEq σ [(1,.map<|some mb),(2,V b1)]/\FR w0 [mb] [(b1,.cells #[J k,I t,.slice A (aL ks) c,.slice B (aL xs) e] 25),(mb,Ub m1)] w) ?_ ?_;refine rn 8 ⟨λhc0=>?_,λhc0=>?_⟩;refine rn 4<|Da (v:=J<|((l.count t:Nat):Int)) (Sf aX bX dX O O (hF.heap (i:=1) O)<|hCm.val _) ?_;have hlc:=List.count_le_length (a:=t) (l:=l);refine Tc (Le<|((l.count t+1:Nat):Int))<|Pu 1 (v:=J<|((l.count t+1:Nat):Int)) hF aX bX O O O O ?_;rintro w hF -;have hF:FR w0 [mb] [(b1,.cells #[J k,I t,.slice A (aL ks) c,.slice B (aL xs) e] 25),(mb,Ub<|Kl (m) (t)<|J<|((l.count t+1:Nat):Int))] w:=hF;refine rn 1 ?_;exact Va ⟨Kl m t<|J ((l.count t+1:Nat):Int),l++[t],by rw[uQ hc0],hCm.add t,Gc,hF⟩;refine rn 1 ?_;exact Va ⟨m,l,by rw[tQ hc0,qQ],hCm,Gc,hF⟩;rintro σ w ⟨m1,l1,hl1,hC1,hzz,hF⟩;refine J9 hzz 10<|Za (λμ σ w=>∃(j:Nat),∃(m2:MapL),μ=aL xs-j/\(j<=aL xs)/\(CntM m2<|l1++Fd (xs.take j))/\AllEq σ [(1,.map<|some mb),(15,.slice B (aL xs) e),(16,J<|(aL xs:Nat)),(17,J<|(j:Int))]/\FR w0 [mb] [(b1,.cells #[J k,I t,.slice A (aL ks) c,.slice B (aL xs) e] 25),(mb,Ub m2)] w) _ ⟨0,m1,O,bZ _,by simpa[Fd]using hC1,Gc,hF⟩ ?_;rintro μ σ w ⟨j,m2,rfl,hj,hC2,hzz,hF⟩;have hll:aL l1<=aL l+1:=by rw[hl1,dQ];split <;> simp
 refine Gh hzz 7 ⟨λhc1=>?_,λhc1=>?_⟩;refine rn 6 ?_;obtain⟨ad0,cs0,hA0,hl0,hk0,hx0⟩:=(hF.repE hS hX).tree_elem (i:=j) fX;have ho0:=hx0.one_;have hxj:=hx0;refine Da (v:=.pointer<|some<|ad0.add<|j*4) (Ea (i:=(j:Int)) Wc hA0)<|Da (v:=.agg<|List.toArray cs0) (Qa (l:=cs0) nZ rZ O hl0 hk0) ?_;refine Zm (l:=cs0) hF cX jB bB (v:=.agg<|List.toArray cs0) O O (ho0) O ?_;intro b2 w hb2 hF hE;have hxj:=hxj.ext hE;refine rn 3<|Da (v:=.agg<|List.toArray cs0) (Qa (l:=cs0) nZ rZ O hl0<|hF.cellsAll 0 O) ?_;refine rn 1 ?_;refine Yb (ih _ (eQ _) S _ mb m2 (l1++Fd (xs.take j)) cs0 hxj (λb hb=>⟨Nat.lt_of_lt_of_le (hS b hb).1 hF.same.size,(hS b hb).2⟩) (hF.heap (i:=2) O) hC2 (by have:=SJ<|xs.take j;have:=YE xs j fX;rw[dQ];omega)) ?_;rintro _ w ⟨m3,rfl,hm3,hC3,hE⟩;have hF:=hF.change 2 rfl hE hm3;have hF:FR w0 [mb] [(b2,.cells (List.toArray cs0) 25),(b1,.cells #[J k,I t,.slice A (aL ks) c,.slice B (aL xs) e] 25),(mb,Ub m3)] w:=hF;clear hE hm3;refine rn 4<|Tc (Le<|((j+1:Nat):Int)) ?_;refine rn 2 ?_;refine Va ⟨_,?_,j+1,m3,O,fX,by rw[TD fX,<-sQ];exact hC3,Gc,hF.su⟩;omega;refine rn 2 ?_;obtain rfl:j=aL xs:=by_Om
 refine⟨m2,O,hF.heap (i:=1) O,?_,hF.same⟩;rw[List.take_length]at hC2;rw[Xc,<-sQ,<-hl1];exact hC2
def holes_c(x:Tree):XL x:=Tree.ind IL x
theorem LO{v:Tree}(h:(List.range j).all (λi=>decide ((Xc v).count (Sj i)=1)&&(Z3 (L.getD i Qy)&&(Fh (L.getD i Qy) (pick.getD i 0)).2))=true)(h1:(Xc v).count (Sj j)=1)(hj:j<aL L)(hp:j<aL pick)(h2:Z3 L[j]=true)(h3:(Fh L[j] pick[j]).2=true) :
    (List.range (j+1)).all (λi=>decide ((Xc v).count (Sj i)=1)&&(Z3 (L.getD i Qy)&&(Fh (L.getD i Qy) (pick.getD i 0)).2))=true:=qJ
theorem Nz{v:Tree}(hj:j<aL L)(hp:j<aL pick)(h:¬((Xc v).count (Sj j)=1/\Z3 L[j]=true/\(Fh L[j] pick[j]).2=true)):Do v L pick=false:=by grind [Qy,Do]
theorem HB{v:Tree}(h:¬(aL L=aL pick/\aL (Xc v).eraseDups=aL L)):Do v L pick=false:=by grind [Do]
theorem UW{v:Tree}(h1:aL L=aL pick)(h2:aL (Xc v).eraseDups=aL L)(h:(List.range (aL L)).all (λi=>decide ((Xc v).count (Sj i)=1)&&(Z3 (L.getD i Qy)&&(Fh (L.getD i Qy) (pick.getD i 0)).2))=true):Do v L pick=true:=by grind [Do]
theorem goodC_c(L:List Cf)(pick:List Int)(LA PA:Option Addr)(lc pc:Nat)(SL SP:Nat->Prop)(t:Tree)(x:Tv)(SX:Nat->Prop)(w0:World)(hL:Rep SL w0 (.slice (L.map VD)) [.slice LA (aL L) lc])(hP:Rep SP w0 (.slice (pick.map Pd)) [.slice PA (aL pick) pc])(hLk:∀c∈L,CfOk c)(hX1:Rep SX w0 (Sa t) x.cells)(hsz:Ja t<=1000000000)(hG:Gl w0):Calls prog 29 #[.agg #[.slice LA (aL L) lc,.slice PA (aL pick) pc],.agg (x.cells).toArray] w0 (Qb λv w'=>v=.bool (Do t L pick)/\Same [] w0 w'):=by
 have hX:=hX1.low;have hLl:=hL.slice_len;have hPl:=hP.slice_len;simp only[rQ]at hLl hPl;refine Ha func29 ntmps29 ?_;intro hF;refine rn 3 ?_;rintro b1 w hb1 hF -;refine rn 1 ?_;rintro b2 w hb2 hF -;refine rn 5<|Tj (v:=λb=>.map<|some b) hF (Ul aX) ?_;rintro b3 w hb3 hF -;refine rn 7 ?_;refine Yb (holes_c t _ _ b3 [] [] x.cells (hF.rep hX) (λb hb=>⟨Nat.lt_of_lt_of_le hb hF.same.size,λhm=>by have h8:=hF.ge (i:=0) O;rw[pQ]at hm;omega⟩) (hF.heap (i:=0) O) CntM.nil (by simp only[aZ];omega)) ?_;rintro _ w ⟨m1,rfl,hm1,hC1,hE⟩;rw[kZ]at hC1;have hF:=hF.change 0 rfl hE hm1;have hF:FR w0 [] [(b3,Ub m1),(b2,.cells (x.cells).toArray 25),(b1,.cells #[.slice LA (aL L) lc,.slice PA (aL pick) pc] 64)] w:=hF;clear hE hm1;have hC1l:=hC1.len;refine rn 14 ⟨λhg0=>?_,λhg0=>?_⟩
 ·
  refine rn 16 ⟨xQ Value.bool (HB ?_).symm,hF.same⟩;omega
 refine rn 1<|Da (v:=J<|(aL (m1):Nat)) (Pz aX O<|hF.heap (i:=0) O) ?_;refine rn 8 ⟨λhc0=>?_,λhc0=>?_⟩
 ·
  refine rn 6 ⟨xQ Value.bool (HB ?_).symm,hF.same⟩;omega
 refine rn 12 ?_;have hlp:aL L=aL pick:=by_Om
 have hll:aL (Xc t).eraseDups=aL L:=by_Om
 refine Za (λμ σ w=>∃(j:Nat),μ=aL L-j/\(j<=aL L)/\((List.range j).all (λi=>decide ((Xc t).count (Sj i)=1)&&(Z3 (L.getD i Qy)&&(Fh (L.getD i Qy)<|pick.getD i 0).2))=true)/\AllEq σ [(2,V b1),(5,.map<|some b3),(30,.slice LA (aL L) lc),(31,J<|(aL L:Nat)),(32,J<|(j:Int))]/\FR w0 [] [(b3,Ub m1),(b2,.cells (x.cells).toArray 25),(b1,.cells #[.slice LA (aL L) lc,.slice PA (aL pick) pc] 64)] w) _ ⟨0,O,bZ _,O,Gc,hF⟩ ?_;rintro μ σ w ⟨j,rfl,hj,ha,hzz,hF⟩;refine Gh hzz 7 ⟨λhc1=>?_,λhc1=>?_⟩
 ·
  refine rn 5 ?_;have hjL:j<aL L:=by_Om
  have hjP:j<aL pick:=by_Om
  obtain⟨ad0,cq0,hAd0,hcq0,hcf⟩:=hL.cf_elem hjL;refine rn 2<|Da (v:=.pointer<|some<|ad0.add<|j*17) (Ea (i:=(j:Int)) M_ hAd0)<|Da (v:=.agg (cq0.cells).toArray) (Qa (l:=cq0.cells) isAgg38 sizeOf38 O O<|hF.cells0 hcq0) ?_;refine rn 1 ?_;rintro b4 w hb4 hF -;refine rn 2 ?_;rintro w hF -;refine rn 7<|Ta (EQ (j:Int) fX fX _<|hG.ext hF.same) ?_;rintro w hF -;refine Ta (WN (NG (j:Int)) (by have:=No<|Lib.itoa (j:Int);exact fQ this Pa) _<|hG.ext hF.same) ?_;rintro w hF -;refine Da (v:=J<|(((Xc t).count (Nm<|NG (j:Int)):Nat):Int)) (Sf aX bX dX O O (hF.heap (i:=1) O)<|hC1.val _)<|rn 3 ⟨λhg1=>?_,λhg1=>?_⟩
  ·
   refine rn 13 ⟨xQ Value.bool ?_,hF.same⟩;exact (Nz hjL hjP (λ⟨a,b,c⟩=>by simp_all[Sj])).symm
  refine rn 1<|Ta (fits_c L[j] cq0 _ _ (hcf.ext hF.same) (hLk _<|eQ _) (hG.ext hF.same)) ?_;rintro w hF -;refine rn 5 ⟨λhc2=>?_,λhc2=>?_⟩
  ·
   refine rn 6 ⟨xQ Value.bool ?_,hF.same⟩;exact (Nz hjL hjP (λ⟨a,b,c⟩=>by simp_all[Sj])).symm
  refine rn 3<|Fe (zs:=.of []) (bQ [0,1,2,3,4,5]<|.alt 6 (bQ [7,8,9]<|.act 10<|.act 11<|.free 12 .nil)<|.act 10<|.act 6<|bQ [7,8,9]<|.act 11<|.free 12 .nil) hF ?_;intro w hF;refine rn 4 ?_;obtain⟨ad2,hA2,hk2,hx2⟩:=hP.int_elem (i:=j) hjP;refine Fa O (v:=.pointer<|some<|ad2.add<|j*1) (λw hC=>Ea (i:=(j:Int)) Ud hA2)<|Fa O (v:=J<|pick[j]) (λw hC=>Ma oZ<|hC.cell0 hk2) ?_
  repeat' first
   |refine Ip ?_ ?_
   |
    refine Bh 6<|Me (H8 L[j] cq0 pick[j] _ _ (hcf.ext hF.same) (hLk _<|eQ _) (hG.ext hF.same)) ?_;rintro _ w ⟨y,rfl,hRt,hE⟩;have hF:=hF.ext hE;clear hE hRt
    try refine⟨hF,?_⟩
    try refine⟨hF.su,?_⟩
   |refine Bh 10<|rn 1 ?_;rintro b301 w hb301 hF -|refine Bh 11<|rn 1 ?_;rintro w hF -
   |
    refine rn 9 ⟨λhc3=>?_,λhc3=>?_⟩
    ·
     refine rn 6 ⟨xQ Value.bool ?_,hF.same⟩;exact (Nz hjL hjP (λ⟨a,b,c⟩=>by simp_all[Sj])).symm
    refine rn 4<|Tc (Le<|((j+1:Nat):Int)) ?_;refine rn 2 ?_;refine Va ⟨_,?_,j+1,O,fX,LO ha (by simp_all[Sj];omega) hjL hjP qX qX,Gc,hF.su⟩;omega
   |refine rn 1 ?_
 refine rn 8 ?_;obtain rfl:j=aL L:=by_Om
 exact⟨xQ Value.bool (UW hlp hll ha).symm,hF.same⟩
end Go.Scarf
