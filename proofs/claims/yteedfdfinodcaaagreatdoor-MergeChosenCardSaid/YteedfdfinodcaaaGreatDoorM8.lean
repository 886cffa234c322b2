/- A part of the proof. -/
import Derived.Test.YteedfdfinodcaaaGreatDoorMg5
set_option linter.all false
set_option maxHeartbeats 8000000
set_option maxRecDepth 10000
set_option synthInstance.maxHeartbeats 0
set_option synthInstance.maxSize 9999
namespace Go.Scarf
open List renaming length->aL
open Go.RowKit Go.Proofs Go.Proofs.Tryz
variable {cs:List Value}{j n pc:Nat}{A PA:Option Addr}{rl:List Rl}{path:List Str}{l r x:Tree}{u:World}{S:Nat->Prop}{b o:Option Tree}{q y z:Sv}
section
variable {w0 w w' w1:World}{i L E:List Nat}{sm sb sb' bs_ pre post:List (Nat × Obj)}{pb:Nat}{RV:Value}{cfs:List Cf}
def Mx.grow(h:Mx i w sm pb RV cfs)(hE:Same (sb.map (·.1)) w w')(hn:∀p∈sb',p.1∈sb.map (·.1)\/w.heap.size<=p.1)(hi:∀x∈sb.map (·.1),x∈i):Mx (i++ids sb') w' sm pb RV cfs :=
  h.step hE hi λx hx=>by
    rcases mQ.1 hx with h1|h1
    ·exact .inl h1
    obtain⟨p, hp, rfl⟩ := nQ.1 h1;rcases hn p hp with h2|h2
    ·exact .inl<|hi _ h2
    exact .inr h2
theorem Uz(hs:w0.heap.size<=w.heap.size)(hk:∀p∈sb,w0.heap.size<=p.1)(hn:∀p∈sb',p.1∈sb.map (·.1)\/w.heap.size<=p.1):∀p∈sb',w0.heap.size<=p.1:=λp hp=>by
  grind
def RX.nqL{ds:List D}(h:RX w0 i w ds cs)(hi:∀x∈ids sm,x∈i):RepL (Nq w0 sm w) w ds cs:=RepL.weaken (λ_ hb _=>⟨⟨hb.1,hb.2.1,hb.2.2.2⟩,λhm=>hb.2.2.1<|hi _ hm⟩) h
theorem SlB.nq{e m c:Nat}{xs:List Value}{ds:List D}(h:SlB e m A n c xs sb)(hF:FR w0 E (pre++(sm++(post++(sb++bs_)))) w)(hk:∀p∈sb,w0.heap.size<=p.1)(hr:RX w0 L w ds xs)(hi:∀x∈ids sm,x∈L)(hn:aL ds=n):Rep (Nq w0 sm w) w (.slice ds) [.slice A n c]:=by
  refine h.repOf (λp hp=>?_) (hr.nqL hi) hn;have h1:=hF.own p (by simp[hp]);refine⟨h1.1,⟨hk p hp,Ga h1.1,h.soft (λq hq=>(hF.own q zM).1) p hp⟩,λhm=>?_⟩;obtain⟨q,hq,e⟩:=nQ.1 hm;have hd:=hF.desc;grind
theorem Cr{p:List Str}{k:Str}(h:∀s∈p,aL s<=1000000000000000)(hk:aL k<=1000000000000000):∀s∈p++[k],aL s<=1000000000000000:=λs hs=>by
  grind
theorem KR{F:Nat}{b:Tree}{U:List Str}(hU:U=Uc [l.keys,r.keys])(h:n+Ja l+Ja r<1000)(hj:j<aL U) :
    n+aL (Df (λk m=>Hf rl F (path++[k]) m (Qd b k) (Qd l k) (Qd r k)) n U j).2+Ge (Qd l U[j])+Ge (Qd r U[j])<1000:=by
  have h1:=Mq (n:=n) (ks:=U) (λk n=>Am (rl:=rl) F (path++[k]) n (Qd b k) (Qd l k)<|Qd r k) j fX;have h2:=Ze (Qd l) hj;have h3:=Ze (Qd r) hj;have h4:=Qi (Qd l) U<|j+1;have h5:=Qi (Qd r) U<|j+1;have hn:U.Nodup:=by grind [Id]
  have h6:=Gk hn l;have h7:=Gk hn r;grind
theorem NA{f:Str->Nat->Mo}{ks:List Str}(hj:j<aL ks):Df f n ks (j+1)=((Df f n ks j).1++BE ks[j] (f ks[j] (n+aL (Df f n ks j).2)).1,(Df f n ks j).2++(f ks[j] (n+aL (Df f n ks j).2)).2):=by grind [Df]
def ES(h:TinyT x)(hk:x.kind=6):aL x.keys<=256:=by
  obtain⟨k,t,ks,xs⟩:=x;have h1:=(RN h.1 hk).1;have h2:=Vd xs;have h3:=h.2.1;rw[Ja]at h3;show (aL ks)<=256;omega
end
def Jk:ids []=[]:=rfl
theorem Rb{p:Prop}(h:p:=by intro x hx;simp only[mQ,oQ]at hx ⊢;grind):p:=h
def un_len(hl:TinyT l)(hr:TinyT r):∀s∈Uc [l.keys,r.keys],aL s<=16777216:=λs hs=>by
  unfold Uc at hs;rw[Tq]at hs;simp only[List.not_mem_nil,List.flatten_cons,List.flatten_nil,qQ,mQ,false_or]at hs;exact hs.elim (hl.key s)<|hr.key s
theorem EY(a b:List Str):aL (Uc [a,b])<=aL a+aL b:=by grind [L8,Uc]
def Same.step{E F:List Nat}{w w':World}(h:Same E u w)(k:Same F w w')(hf:∀b∈F,b∈E\/u.heap.size<=b):Same E u w' :=
  ⟨k.os.trans h.os,k.tape.trans h.tape,k.output.trans h.output,fQ h.size k.size,λb hb hn=>(k.block b (Nat.lt_of_lt_of_le hb h.size) λhm=>(hf b hm).elim hn fX).trans (h.block b hb hn)⟩
def Zz{w:World}(h:Rep S w (Rc (Ee o)) q.cells)(hq:q.h=true):∃x,o=some x/\Rep S w (Sa x) q.v.cells:=by
  have h1:=Hc h;cases o with
  | none =>
    rw[h1.1]at hq;cases hq
  | some x=>exact⟨x,rfl,h1.2.2.2.2⟩
def E0{w:World}(h:Rep S w (Rc (Ee o)) q.cells)(hq:q.h=false):o=none:=by
  have h1:=Hc h;cases o with
  | none=>rfl
  | some x =>
    rw[h1.1]at hq;cases hq
def Low(L:List Nat)(w:World):Prop:=∀x∈L,8<=x/\x<w.heap.size
theorem RX.widen{w:World}{i j:List Nat}{ds:List D}(h:RX u i w ds cs)(hi:∀x∈j,x∈i\/w.heap.size<=x:=by intro x hx;simp only[mQ,oQ]at hx ⊢;grind):RX u j w ds cs:=h.step (Same.refl [] w) Ca hi
theorem Mx.widen{w:World}{i j:List Nat}{sm:List (Nat × Obj)}{pb:Nat}{RV:Value}{cfs:List Cf}(h:Mx i w sm pb RV cfs)(hi:∀x∈j,x∈i\/w.heap.size<=x:=by intro x hx;simp only[mQ,oQ]at hx ⊢;grind):Mx j w sm pb RV cfs:=h.step (Same.refl [] w) Ca hi
def Low.ext{L E:List Nat}{w w':World}(h:Low L w)(hs:Same E w w'):Low L w':=λx hx=>⟨(h x hx).1,Nat.lt_of_lt_of_le (h x hx).2 hs.size⟩
theorem In.low{w0 w:World}{i L:List Nat}{sm bs_:List (Nat × Obj)}{pb:Nat}{RV:Value}{cfs:List Cf}{l r:Option Tree}{x:Sv}(h:In rl i w0 sm pb RV cfs path PA pc b l r x y z)(hF:FR w0 (ids sm) bs_ w)(hL:∀x∈L,x∈bs_.map (·.1)\/x∈i:=by intro x hx;simp only[ids,jQ,iZ,List.map_nil,qQ,mQ,oQ]at hx ⊢;grind):Low L w:=λx hx=>by
  rcases hL x hx with h1|h1
  ·refine⟨?_, hF.lt_ids h1⟩
   obtain⟨q,hq,rfl⟩:=nQ.1 h1;rcases (hF.own q hq).2 with h2|h2
   ·exact fQ h.g.size h2
   exact h.off _ h2
  exact⟨(h.mi.low x h1).1,Nat.lt_of_lt_of_le (h.mi.low x h1).2 hF.same.size⟩
theorem In.lt{w0 w:World}{i L:List Nat}{sm bs_:List (Nat × Obj)}{pb:Nat}{RV:Value}{cfs:List Cf}{l r:Option Tree}{x:Sv}(h:In rl i w0 sm pb RV cfs path PA pc b l r x y z)(hF:FR w0 (ids sm) bs_ w)(hL:∀x∈L,x∈bs_.map (·.1)\/x∈i:=by intro x hx;simp only[ids,jQ,iZ,List.map_nil,qQ,mQ,oQ]at hx ⊢;grind):∀x∈L,x<w.heap.size:=λx hx=>(h.low hF hL x hx).2
theorem SA(rl:List Rl)(F:Nat)(hat:AtC rl F):MtC 47 rl F 6 (GI (Hf rl F)):=by
 intro i w0 sm pb RV cfs path PA pc b l r x y z hI h6b h6l h6r hne hdp hpn;obtain⟨S,hSo,hT⟩:=hI.tri;obtain⟨SP,hPo,hP⟩:=hI.pth;obtain⟨SR,hRo,hRR⟩:=hI.rul;obtain⟨hx,hy,hz⟩:=Ti hT;have htb:=hI.tb b rfl;have htl:=hI.tl l rfl;have htr:=hI.tr r rfl;obtain⟨-,-,eyn,-,hkl,-⟩:=Md (Hc hy).2.2.2.2;obtain⟨-,-,ezn,-,hkr,-⟩:=Md (Hc hz).2.2.2.2;simp only[Ee]at eyn ezn hkl hkr;have hll:=ES htl h6l;have hlr:=ES htr h6r;obtain⟨U,hU0⟩:∃U,U=Uc [l.keys,r.keys]:=⟨_,rfl⟩;obtain⟨f,hf⟩:∃f,f=λk m=>Hf rl F (path++[k]) m (Qd b k) (Qd l k) (Qd r k):=⟨_,rfl⟩;have hUl:=EY l.keys r.keys;rw[<-hU0]at hUl;refine Wb func47 ntmps47 O O ?_;have hF:FR w0 (ids sm) ([]++(sm++[])) w0:=hI.mi.start;refine rn 3 ?_;rintro b1 w hb1 hF -;refine rn 1 ?_;rintro b2 w hb2 hF -;refine rn 4<|Da (w':=w) (v:=.agg #[J 6,I [],aQ,aQ]) Ib ?_;refine rn 1 ?_;rintro b3 w hb3 hF -;refine rn 14 ?_;rintro b4 w hb4 hF -;have hrow:=hF.rowS 0 rfl (RepL.cons_mk (hF.repM hSo hkl)<|RepL.cons_mk (c2:=[]) (hF.repM hSo hkr) RepL.nil_mk) (ds:=[Wa l.keys,Wa r.keys]) (n:=2) rfl fX;have hUk:=un_len htl htr;refine Yb (JS [l.keys,r.keys] _ 2 _ _ hrow zS (λs hs=>by have:=hUk s hs;omega)) ?_;rintro _ w ⟨AU,cU,rfl,hRt,hE⟩;have hM:=(hI.mi.at hI.g hF (L:=[b4,b3,b2,b1]) Ca).m.ext hE;have hU:=RX.made (ids:=[b4,b3,b2,b1]++i) hF.same.size (hF.ltD hI.mi.low Ca) hRt;have hF:=hF.ext hE;rw[<-hU0]at hU hUk ⊢;clear hE hRt hrow;refine rn 5 ?_;refine Za (λμ σ w=>∃(j:Nat),∃(ac:List (Str × Tree)),∃(cf1:List Cf),∃(sm1:List (Nat × Obj)),∃(A1:Option Addr),∃(c1:Nat),∃(sk:List (Nat × Obj)),∃(A2:Option Addr),∃(c2:Nat),∃(si:List (Nat × Obj)),∃(vals:List Value),μ=aL U-j/\(j<=aL U)/\(Df f (aL cfs) U j=(ac,cf1))/\(SlB 9 1 A1 (aL ac) c1 ((ac.map (·.1)).map λs=>Value.string<|bs s) sk)/\(∀p∈sk,w0.heap.size<=p.1)/\(SlB 25 4 A2 (aL ac) c2 vals si)/\(∀p∈si,w0.heap.size<=p.1)/\(RX w0 ([b4,b3,b2,b1]++(i++(ids sm1++(ids sk++ids si)))) w [Wa U] [.slice AU (aL U) cU])/\(RX w0 ([b4,b3,b2,b1]++(i++(ids sm1++(ids sk++ids si)))) w (ac.map λz=>Sa z.2) vals)/\(Mx ([b4,b3,b2,b1]++(i++(ids sm1++(ids sk++ids si)))) w sm1 pb RV<|cfs++cf1)/\AllEq σ [(0,V pb),(1,.slice PA (aL path) pc),(5,V b1),(6,V b2),(7,V b3),(21,.slice AU (aL U) cU),(22,J<|(aL U:Nat)),(23,J<|(j:Int))]/\FR w0 (ids sm) ([(b4,.cells #[.slice y.v.A y.v.n y.v.c,.slice z.v.A z.v.n z.v.c] 22),(b3,.cells #[J 6,I [],.slice A1 (aL ac) c1,.slice A2 (aL ac) c2] 25),(b2,.cells #[.bool false,J 0,I [],aQ,aQ] 36),(b1,.cells ((th x y z)).toArray 61)]++(sm1++(sk++(si++[])))) w) _ ⟨0,[],[],sm,none,0,[],none,0,[],[],rfl,bZ _,rfl,SlB.nil _ _,Ca,SlB.nil _ _,Ca,hU.sub qU,RX.nil,by rw[qQ];exact hM.sub qU,Gc,hF⟩ ?_
 rintro μ σ w ⟨j,ac,cf1,sm1,A1,c1,sk,A2,c2,si,vals,rfl,hj,hac,hK,hkn,hI2,hin,hU,hV,hM,hzz,hF⟩;have hcf:=xQ (λz=>aL z.2) hac;simp only at hcf;have hnm:=Oi (f:=f) (n:=aL cfs) (ks:=U) j hj;rw[hac]at hnm;have hacl:=hnm.length_le;simp only[rQ,gZ]at hacl;refine Gh hzz 7 ⟨λhc0=>?_,λhc0=>?_⟩
 ·
  refine rn 3 (Of (λσ w=>∃(w2:World),∃(sm2:List (Nat × Obj)),∃(mo:Mo),∃(b5:Nat),∃(bt:Nat),∃(ac2:List (Str × Tree)),∃(A3:Option Addr),∃(c3:Nat),∃(sk3:List (Nat × Obj)),∃(A4:Option Addr),∃(c4:Nat),∃(si3:List (Nat × Obj)),∃(vals2:List Value),(Df f (aL cfs) U (j+1)=(ac2,cf1++mo.2))/\(SlB 9 1 A3 (aL ac2) c3 ((ac2.map (·.1)).map λs=>Value.string<|bs s) sk3)/\(∀p∈sk3,p.1∈ids sk\/w2.heap.size<=p.1)/\(SlB 25 4 A4 (aL ac2) c4 vals2 si3)/\(∀p∈si3,p.1∈ids si\/w2.heap.size<=p.1)/\(RX w0 (bt::((b5::([b4,b3,b2,b1]++(i++(ids sm1++(ids sk++ids si)))))++ids sm2)) w2 [Wa U] [.slice AU (aL U) cU])/\(RX w0 (bt::((b5::([b4,b3,b2,b1]++(i++(ids sm1++(ids sk++ids si)))))++ids sm2)) w2 (ac2.map λz=>Sa z.2) vals2)/\(Mx (bt::((b5::([b4,b3,b2,b1]++(i++(ids sm1++(ids sk++ids si)))))++ids sm2)) w2 sm2 pb RV<|cfs++cf1++mo.2)/\(w0.heap.size<=w2.heap.size)/\(Same (bt::(b3::(ids sk++ids si))) w2 w)/\AllEq σ [(0,V pb),(1,.slice PA (aL path) pc),(5,V b1),(6,V b2),(7,V b3),(21,.slice AU (aL U) cU),(22,J<|(aL U:Nat)),(23,J<|(j:Int))]/\FR w0 (ids sm) ([(b4,.cells #[.slice y.v.A y.v.n y.v.c,.slice z.v.A z.v.n z.v.c] 22),(b3,.cells #[J 6,I [],.slice A3 (aL ac2) c3,.slice A4 (aL ac2) c4] 25),(b2,.cells #[.bool false,J 0,I [],aQ,aQ] 36),(b1,.cells ((th x y z)).toArray 61)]++(sm2++(sk3++(si3++[])))) w) ?_ ?_)
  ·
   refine rn 2 ?_;have hjU:j<aL U:=by_Om
   obtain⟨wh,hwh⟩:∃u,u=w:=⟨w,rfl⟩;rw[<-hwh]at hU hV hM;have hs:Same [] wh w:=hwh▸Same.refl [] w;refine rn 1 ?_;obtain⟨ad0,hA0,hk0,hx0⟩:=(hU.ext hs).rep.str_elem (i:=j) (hjU);refine Da (v:=.pointer<|some<|ad0.add<|j*1) (Ea (i:=(j:Int)) Hd hA0)<|Da (v:=I<|U[j]) (Ma qZ hk0) ?_;refine rn 1 ?_;intro b5 w hb5 hF hE;have hnb5:=hs.size;rw[<-hb5]at hnb5;have hs:=hs.trans hE;refine rn 3<|Of (λσ w=>∃(w2:World),∃(sm2:List (Nat × Obj)),∃(q:Sv),∃(mo:Mo),∃(bt:Nat),(Df f (aL cfs) U (j+1)=(ac++BE U[j] mo.1,cf1++mo.2))/\(RX w0 (bt::((b5::([b4,b3,b2,b1]++(i++(ids sm1++(ids sk++ids si)))))++ids sm2)) w2 [Rc<|Ee mo.1] q.cells)/\(RX w0 (bt::((b5::([b4,b3,b2,b1]++(i++(ids sm1++(ids sk++ids si)))))++ids sm2)) w2 [Wa U] [.slice AU (aL U) cU])/\(RX w0 (bt::((b5::([b4,b3,b2,b1]++(i++(ids sm1++(ids sk++ids si)))))++ids sm2)) w2 (ac.map λz=>Sa z.2) vals)/\(Mx (bt::((b5::([b4,b3,b2,b1]++(i++(ids sm1++(ids sk++ids si)))))++ids sm2)) w2 sm2 pb RV<|cfs++cf1++mo.2)/\(w0.heap.size<=w2.heap.size)/\(Same (bt::(b3::(ids sk++ids si))) w2 w)/\AllEq σ [(0,V pb),(1,.slice PA (aL path) pc),(5,V b1),(6,V b2),(7,V b3),(9,V b5),(10,V bt),(21,.slice AU (aL U) cU),(22,J<|(aL U:Nat)),(23,J<|(j:Int))]/\FR w0 (ids sm) ([(bt,.cells (q.cells).toArray 36),(b5,.cells #[I<|U[j]] 9),(b4,.cells #[.slice y.v.A y.v.n y.v.c,.slice z.v.A z.v.n z.v.c] 22),(b3,.cells #[J 6,I [],.slice A1 (aL ac) c1,.slice A2 (aL ac) c2] 25),(b2,.cells #[.bool false,J 0,I [],aQ,aQ] 36),(b1,.cells ((th x y z)).toArray 61)]++(sm2++(sk++(si++[])))) w) ?_ ?_
   ·
    refine Vb (.of [9]) (bQ [0,1,2,4,5]<|.alt 3 (.alt 6 (.alt 7 (.act 8<|.act 9 .nil)<|cQ [8,7,9] .nil)<|cQ [8,6,7,9] .nil)<|cQ [8,3,6,7,9] .nil) hF ?_;intro w hF hE;have hs:=hs.trans hE;refine⟨λwq=>FR w0 (ids sm) [(b5,.cells #[I<|U[j]] 9),(b4,.cells #[.slice y.v.A y.v.n y.v.c,.slice z.v.A z.v.n z.v.c] 22),(b3,.cells #[J 6,I [],.slice A1 (aL ac) c1,.slice A2 (aL ac) c2] 25),(b2,.cells #[.bool false,J 0,I [],aQ,aQ] 36),(b1,.cells ((th x y z)).toArray 61)] wq,hF.mid 0 5,?_⟩;refine rn 4<|Fa O (v:=.func (.func 77) #[] #[V b5]) (λw hC=>Te) ?_
    repeat' first
     |refine Ip ?_ ?_
     |
      refine Bh 3 ?_;refine Me (Gu path U[j] PA pc _ _ (hF.repM hPo hP) wT fX) ?_;rintro _ w ⟨Ap,cp,rfl,hRt,hE⟩
      first|have hPX:=RX.made (ids:=(b301::(b5::([b4,b3,b2,b1]++(i++(ids sm1++(ids sk++ids si))))))) hF.same.size (hI.lt hF) hRt|have hPX:=RX.made (ids:=(b5::([b4,b3,b2,b1]++(i++(ids sm1++(ids sk++ids si)))))) hF.same.size (hI.lt hF) hRt
      have hF:=hF.ext hE;have hs:=hs.trans hE;clear hE hRt;refine⟨hF.su,?_⟩
     |
      refine Bh 6 ?_
      first|refine Me (VI b l r U[j] b5 x y z _ _ (hF.repM hSo hT) (hF.cell 0 rfl rfl) h6b h6l h6r htb htl htr (hI.g.same hF.same hI.off)) ?_|refine Me (VI b l r U[j] b5 x y z _ _ (hF.repM hSo hT) (hF.cell 1 rfl rfl) h6b h6l h6r htb htl htr (hI.g.same hF.same hI.off)) ?_
      rintro _ w ⟨q0,q1,q2,rfl,hRt,hE⟩
      first|have hTX:=RX.made (ids:=(b301::(b5::([b4,b3,b2,b1]++(i++(ids sm1++(ids sk++ids si))))))) hF.same.size (hI.lt hF) hRt|have hTX:=RX.made (ids:=(b5::([b4,b3,b2,b1]++(i++(ids sm1++(ids sk++ids si)))))) hF.same.size (hI.lt hF) hRt
      have hF:=hF.ext hE;have hs:=hs.trans hE;have hPX:=hPX.ext hE;clear hE hRt;refine⟨hF.su,?_⟩
     |
      refine Bh 7 ?_
      first|have hlow:=hI.low hF (L:=(b301::(b5::([b4,b3,b2,b1]++(i++(ids sm1++(ids sk++ids si)))))))|have hlow:=hI.low hF (L:=(b5::([b4,b3,b2,b1]++(i++(ids sm1++(ids sk++ids si))))))
      first|(have hLC:∀x∈(b301::(b5::([b4,b3,b2,b1]++(i++(ids sm1++(ids sk++ids si)))))),x∈([b4,b3,b2,b1]++(i++(ids sm1++(ids sk++ids si))))\/wh.heap.size<=x:=by intro x hx;simp only[oQ]at hx;grind)|(have hLC:∀x∈(b5::([b4,b3,b2,b1]++(i++(ids sm1++(ids sk++ids si))))),x∈([b4,b3,b2,b1]++(i++(ids sm1++(ids sk++ids si))))\/wh.heap.size<=x:=by intro x hx;simp only[oQ]at hx;grind)
      first|(refine Me (hat (b301::(b5::([b4,b3,b2,b1]++(i++(ids sm1++(ids sk++ids si)))))) _ sm1 pb RV (cfs++cf1) (path++[U[j]]) Ap cp _ _ _ q0 q1 q2 ⟨⟨hM.step hs Ca hLC,hF.hh,Rb,hlow⟩,hI.g.same hF.same hI.off,⟨_,Sg Rb,hPX.rep⟩,⟨_,Sg Rb,hTX.rep⟩,⟨_,hF.offM hRo,hF.repM hRo hRR⟩,htb.mem _,htl.mem _,htr.mem _,by rw[dQ,<-hcf,hf];exact KR hU0 hI.cnt hjU,Cr hI.ptx wT⟩ (Nat.lt_of_lt_of_le (Sn l _) hdp) qG) ?_)|(refine Me (hat (b5::([b4,b3,b2,b1]++(i++(ids sm1++(ids sk++ids si))))) _ sm1 pb RV (cfs++cf1) (path++[U[j]]) Ap cp _ _ _ q0 q1 q2 ⟨⟨hM.step hs Ca hLC,hF.hh,Rb,hlow⟩,hI.g.same hF.same hI.off,⟨_,Sg Rb,hPX.rep⟩,⟨_,Sg Rb,hTX.rep⟩,⟨_,hF.offM hRo,hF.repM hRo hRR⟩,htb.mem _,htl.mem _,htr.mem _,by rw[dQ,<-hcf,hf];exact KR hU0 hI.cnt hjU,Cr hI.ptx wT⟩ (Nat.lt_of_lt_of_le (Sn l _) hdp) qG) ?_)
      rintro _ w2 ⟨sm2,q,rfl,hR,hO⟩;have hst:=NA (f:=f) (n:=aL cfs) hjU;rw[hac]at hst;have hmf:f U[j] (aL cfs+aL cf1)=Hf rl F (path++[U[j]]) (aL (cfs++cf1)) (Qd b U[j]) (Qd l U[j]) (Qd r U[j]):=by rw[hf,dQ]
      simp only[hmf]at hst;obtain⟨mo,hmo⟩:∃mo,mo=Hf rl F (path++[U[j]]) (aL (cfs++cf1)) (Qd b U[j]) (Qd l U[j]) (Qd r U[j]):=⟨_,rfl⟩;rw[<-hmo]at hR hO hst
      first|have hQ:=RX.madeM (i:=((b301::(b5::([b4,b3,b2,b1]++(i++(ids sm1++(ids sk++ids si))))))++ids sm2)) hF.same.size (λx hx=>(mQ.1 hx).imp (λh=>(hlow x h).2) id) hR|have hQ:=RX.madeM (i:=((b5::([b4,b3,b2,b1]++(i++(ids sm1++(ids sk++ids si)))))++ids sm2)) hF.same.size (λx hx=>(mQ.1 hx).imp (λh=>(hlow x h).2) id) hR
      first|have hU:=(hU.step hs Ca hLC).swap (j:=((b301::(b5::([b4,b3,b2,b1]++(i++(ids sm1++(ids sk++ids si))))))++ids sm2)) hO.mc Rb Rb|have hU:=(hU.step hs Ca hLC).swap (j:=((b5::([b4,b3,b2,b1]++(i++(ids sm1++(ids sk++ids si)))))++ids sm2)) hO.mc Rb Rb
      first|have hV:=(hV.step hs Ca hLC).swap (j:=((b301::(b5::([b4,b3,b2,b1]++(i++(ids sm1++(ids sk++ids si))))))++ids sm2)) hO.mc Rb Rb|have hV:=(hV.step hs Ca hLC).swap (j:=((b5::([b4,b3,b2,b1]++(i++(ids sm1++(ids sk++ids si)))))++ids sm2)) hO.mc Rb Rb
      have hM:=hO.m;have hF:=hF.swapM hO.m hO.hh hO.mc;have hw2:=hF.same.size;clear hR hO hPX hTX hlow hmf hmo hLC hs
      first|have hs:=Same.refl (b301::(b3::(ids sk++ids si))) w2|have hs:=Same.refl (b3::(ids sk++ids si)) w2
      refine⟨hF.su,?_⟩
     |
      refine Bh 8<|rn 1 ?_;intro b301 w hb301 hF hE;have hnb301:=hs.size;rw[<-hb301]at hnb301
      first|have hs:=hs.step hE Ca|have hs:=hs.trans hE
      try have hPX:=hPX.alloc hE hb301
      try have hTX:=hTX.alloc hE hb301
     |refine Bh 9<|rn 1 ?_;intro w hF hE;have hs:=hs.step hE qJ|refine rn 1 ?_;exact Va ⟨w2,sm2,q,mo,b301,hst,hQ.widen,hU.widen,hV.widen,hM.widen,hw2,hs.mono qJ,Gc,hF⟩
   rintro σ w ⟨w2,sm2,q,mo,bt,hst,hQ,hU,hV,hM,hw2,hs,hzz,hF⟩;refine J9 hzz 8 ⟨λhc1=>?_,λhc1=>?_⟩
   ·
    obtain⟨v1,hv1,hrv⟩:=Zz hQ.rep hc1;have hQv:=RX.one hrv;refine Vb ⟨[12,14],λwq=>FR w0 (ids sm) [(bt,.cells (q.cells).toArray 36),(b5,.cells #[I<|U[j]] 9),(b4,.cells #[.slice y.v.A y.v.n y.v.c,.slice z.v.A z.v.n z.v.c] 22),(b2,.cells #[.bool false,J 0,I [],aQ,aQ] 36),(b1,.cells ((th x y z)).toArray 61)] wq,[7,8]⟩ (bQ [0,1,2,5,6,7,8]<|.alt 3 (.alt 4 (.free 11<|cQ [9,10,12]<|.free 13<|.act 14 .nil)<|.act 9<|.act 4<|.free 11<|.act 10<|.act 12<|.free 13<|.act 14 .nil)<|cQ [9,3,4]<|.free 11<|.act 10<|.act 12<|.free 13<|.act 14 .nil) hF ?_;intro w hF hE;have hs:=hs.step hE qJ;refine⟨λwq=>FR w0 (ids sm) [(bt,.cells (q.cells).toArray 36),(b5,.cells #[I<|U[j]] 9),(b4,.cells #[.slice y.v.A y.v.n y.v.c,.slice z.v.A z.v.n z.v.c] 22),(b3,.cells #[J 6,I [],.slice A1 (aL ac) c1,.slice A2 (aL ac) c2] 25),(b2,.cells #[.bool false,J 0,I [],aQ,aQ] 36),(b1,.cells ((th x y z)).toArray 61)] wq,hF.mid 0 6,?_⟩;refine rn 6 ?_;refine Jx O (v:=.agg (q.v.cells).toArray) (λw hC=>Qa (l:=q.v.cells) nZ rZ O O<|hC.part 0 1 O O) (λw hC=>Qa (l:=q.v.cells) nZ rZ O O<|hC.part 0 1 O O) ?_
    repeat' first
     |refine Ip ?_ ?_|refine Bh 3<|rn 1 ?_;intro b302 w hb302 hF hE;have hnb302:=hs.size;rw[<-hb302]at hnb302;have hs:=hs.step hE Ca|refine Bh 4 (D4 hK (len':=aL (ac++[(U[j],v1)])) (ys:=(((ac++[(U[j],v1)]).map (·.1)).map λs=>Value.string<|bs s)) Ca Ca ?_);intro A303 c303 k_303 w hS303_k hF hE hnew;have hnk:∀p∈k_303,p.1∈ids sk\/w2.heap.size<=p.1:=λp hp=>(hnew p hp).imp id (λh=>fQ hs.size h);have hs:=hs.step hE λb (hb:b∈ids sk)=>.inl (by simp[hb])|refine Bh 9<|rn 1 ?_;intro b304 w hb304 hF hE;have hnb304:=hs.size;rw[<-hb304]at hnb304;have hs:=hs.step hE Ca|refine Bh 10<|D4 hI2 (len':=aL (ac++[(U[j],v1)])) (ys:=vals++q.v.cells) Ca (O) ?_;intro A305 c305 i_305 w hS305_i hF hE hnew;have hni:∀p∈i_305,p.1∈ids si\/w2.heap.size<=p.1:=λp hp=>(hnew p hp).imp id (λh=>fQ hs.size h);have hs:=hs.step hE λb (hb:b∈ids si)=>.inl (by simp[hb])|refine Bh 12<|rn 1 ?_;intro w hF hE;have hs:=hs.step hE qJ|refine Bh 14<|rn 1 ?_;intro w hF hE;have hs:=hs.step hE qJ
     |refine rn 2 ?_;exact Va ⟨w2,sm2,mo,b5,bt,ac++[(U[j],v1)],A303,c303,k_303,A305,c305,i_305,vals++q.v.cells,by rw[hst,hv1];rfl,hS303_k,hnk,hS305_i,hni,hU,by rw[jQ];exact hV.append hQv,hM,hw2,hs,Gc,hF.su⟩
     |refine rn 1 ?_
   refine rn 2 ?_;exact Va ⟨w2,sm2,mo,b5,bt,ac,A1,c1,sk,A2,c2,si,vals,by rw[hst,E0 hQ.rep hc1];simp[BE],hK,λp hp=>.inl<|List.mem_map_of_mem hp,hI2,λp hp=>.inl<|List.mem_map_of_mem hp,hU,hV,hM,hw2,hs,Gc,hF.su⟩
  rintro σ w ⟨w2,sm2,mo,b5,bt,ac2,A3,c3,sk3,A4,c4,si3,vals2,hst2,hK3,hnk,hI3,hni,hU,hV2,hM,hw2,hs,hzz,hF⟩;refine J9 hzz 2<|Tc (Le<|((j+1:Nat):Int)) ?_;refine rn 2 ?_;have hL3:∀x∈([b4,b3,b2,b1]++(i++(ids sm2++(ids sk3++ids si3)))),x∈(bt::((b5::([b4,b3,b2,b1]++(i++(ids sm1++(ids sk++ids si)))))++ids sm2))\/w2.heap.size<=x:=(λx hx=>by simp only[mQ,oQ]at hx ⊢;rcases hx with h|h|h|h|h;(grind);(grind);(grind);(obtain⟨p,hp,rfl⟩:=nQ.1 h;exact (hnk p hp).imp qJ id);(obtain⟨p,hp,rfl⟩:=nQ.1 h;exact (hni p hp).imp qJ id));refine Va ⟨_,?_,j+1,ac2,cf1++mo.2,sm2,A3,c3,sk3,A4,c4,si3,vals2,O,fX,hst2,hK3,Uz hw2 hkn hnk,hI3,Uz hw2 hin hni,hU.step hs Rb hL3,hV2.step hs Rb hL3,sQ cfs cf1 mo.2▸hM.step hs Rb hL3,Gc,hF⟩;omega
 refine rn 5<|Ta (Ym ⟨6,[],A1,aL ac,c1,A2,aL ac,c2⟩) ?_;intro w hF hE;have hU:=hU.ext hE;have hV:=hV.ext hE;have hM:=hM.ext hE;refine rn 1 ?_;intro w hF hE;have hU:=hU.store hE Ca;have hV:=hV.store hE Ca;have hM:=hM.store hE Ca;refine rn 3 ?_;obtain rfl:j=aL U:=by_Om
 have hak:∀k∈ac.map (·.1),aL k<=9223372036854775807:=λk hk=>by have:=hUk k<|List.mem_of_mem_take<|hnm.subset hk;omega
 have hob:GI (Hf rl F) path (aL cfs) b l r=(some (.node 6 [] (ac.map (·.1)) (ac.map (·.2))),cf1):=by unfold GI;simp only;rw[<-hU0,<-hf,hac]
 rw[hob];refine⟨sm1,⟨true,6,[],A1,aL ac,c1,A2,aL ac,c2⟩,rfl,?_,⟨hM.sub Rb,hF.hh qW,hF.mc qW⟩⟩;refine Wi (s:=⟨true,.node 6 [] (ac.map (·.1)) (ac.map (·.2))⟩) (x:=⟨6,[],A1,aL ac,c1,A2,aL ac,c2⟩)<|Rep.tree_mk ⟨by_Om,by_Om⟩ Ca ?_ ?_
 ·exact hK.nq (pre:=[_,_,_,_]) (post:=[]) hF hkn (RX.strs (ids:=([b4,b3,b2,b1]++(i++(ids sm1++(ids sk++ids si))))) hak) Rb Ca
 rw[Fc, List.map_map];exact hI2.nq (pre:=[_,_,_,_]) (bs_:=[]) hF hin hV Rb Ca
open Go.RowKit
theorem R5{n size:Nat}:∀{m:List (Nat × Nat)}{k j:Nat}{x y:Int},RiseN n size k j m->x<k->y<j->Ws n (x,y) (Vc m)=true
  | [],_,_,_,_,_,_,_=>rfl
  | z :: m, k, j, x, y, h, hx, hy => by
    obtain⟨h1,h2,h3,h4,h5⟩:=h;have ih:=R5 (x:=(z.1:Int)) (y:=(z.2:Int)) h5 fX fX;show (!(decide ((z.1:Int)<=x) || (decide ((z.2:Int)<=y) || decide ((n:Int)<=(z.1:Int))))&&Ws n ((z.1:Int),(z.2:Int)) (Vc m))=true;rw[ih,dZ fX,dZ fX,dZ fX];rfl
theorem DJ{n size:Nat}:∀{m:List (Nat × Nat)}{k j:Nat},RiseN n size k j m->aL m<=n-k
  | [],_,_,_=>bZ _
  | z :: m, k, j, h => by
    obtain⟨h1,h2,h3,h4,h5⟩:=h;have:=DJ h5;rw[kQ];omega
theorem Et{l:List Tree}(h:Pe l=0):aL l<=64:=by grind [Pe]
theorem VV{base v:List Tree}(h:Pe base=0)(hv:Pe v=0):∃mp,pth 0 0 (base.map Vf) (v.map Vf)=Vc mp/\Kv (aL base) (Vc mp)=true/\aL base<=64/\aL mp<=100/\aL v<=64/\(∀z∈mp,z.1<aL base/\z.2<aL v) /\
    Ec base v=⟨v,Rg (aL base) (aL v) mp 0 (λ_=>[]),Yq mp (λ_=>-1)⟩:=by
  obtain⟨mp,e,hr⟩:=K7 base v;have h1:=Et h;have h2:=Et hv;have h3:=DJ hr;refine⟨mp,e,?_,h1,by_Om,h2,hr.all,?_⟩
  all_goals grind [Kv,R5,Ec,Du]
structure ByOk (n:Nat) (y:By):Prop where
  gap:∀g,g<=n->aL (y.gap g)<=64/\∀i∈y.gap g,∃q:Nat,q<aL y.items/\i=(q:Int)
  img:∀k,k<n->y.img k<0\/∃q:Nat,q<aL y.items/\y.img k=(q:Int)
theorem rng_mem{a b:Nat}{i:Int}(h:i∈rng a b):∃q:Nat,a<=q/\q<b/\i=(q:Int):=by grind [rng]
theorem PS(base v:List Tree)(hv:aL v<=64):ByOk (aL base) (Ec base v):=by
  obtain⟨mp,e,hr⟩:=K7 base v;have em:Ec base v=⟨v,Rg (aL base) (aL v) mp 0 λ_=>[],Yq mp λ_=>-1⟩:=by grind [Ec,Du]
  obtain⟨h1,h2,h3⟩:=J8 mp 0 0 (λ_=>[]) (λ_=>-1) hr (bZ _) (λ_ _=>rfl) λ_ _=>rfl;have hb:∀k,Py mp 0 k<=aL v:=λk=>TN hr;have key:∀g,g<=aL base->∃a b,b<=aL v/\Rg (aL base) (aL v) mp 0 (λ_=>[]) g=rng a b:=λg hg=>by
    rcases Nat.lt_or_ge g (aL base) with hlt|hge
    ·rcases h1 g (bZ _) hlt with ⟨b, k1, k2, k3, k4⟩|⟨k1, k2, k3⟩
     ·have := hb (g + 1)
      exact⟨_,b,by_Om,k2⟩
     exact⟨0,0,bZ _,by rw[k2];rfl⟩
    obtain rfl : g = (aL base) := by omega
    exact⟨_,_,gQ _,h2⟩
  rw[em];refine⟨λg hg=>?_,λk hk=>?_⟩
  ·obtain⟨a, b, hle, he⟩ := key g hg
   show (Rg (aL base) (aL v) mp 0 (λ_=>[]) g).length<=64/\∀i∈Rg (aL base) (aL v) mp 0 (λ_=>[]) g,_;rw[he];refine⟨by rw[U4];omega,λi hi=>?_⟩;obtain⟨q,h4,h5,h6⟩:=rng_mem hi;exact⟨q,by show q<aL v;omega,h6⟩
  rcases h1 k (bZ _) hk with ⟨b, k1, k2, k3, k4⟩|⟨k1, k2, k3⟩
  ·have := hb (k + 1)
   exact .inr ⟨b,by show b<aL v;omega,k1⟩
  exact .inl (by show Yq mp (λ_=>-1) k<0;rw[k1];decide)
theorem PR{y:By}:∀{l:List Int},(∀i∈l,∃q:Nat,q<aL y.items/\i=(q:Int))->(l.filterMap λi=>y.at i)=l.map λi=>y.items.getD i.toNat zeroT
  | [],_=>rfl
  | i :: l, h => by
    obtain⟨q,hq,rfl⟩:=h i Ca;have e:y.at (q:Int)=some y.items[q]:=by
      unfold By.at;rw[tQ fX];simp[hq]
    rw[List.filterMap_cons,e,iZ,PR λi hi=>h i (by simp[hi])];simp[List.getD,hq]
theorem Rep.gapAt{w:World}{N:Nat}{gp:Nat->List Int}{len c:Nat}(h:Rep S w (M3 N gp) [.slice A len c]){i:Nat}(hi:i<N) :
    ∃ad B e,A=some ad/\w.cell? (ad.add (i*1))=some (.slice B (aL (gp i)) e)/\Rep S w (.slice ((gp i).map Pd)) [.slice B (aL (gp i)) e]:=by
  obtain⟨ad,v,hA,hc,hr⟩:=Rep.elem1 h (λd hd=>by obtain⟨k,_,rfl⟩:=nQ.1 hd;rfl) (i:=i) (aS hi);grind [Rep.slice_is]
theorem TinyT.part(h:TinyT x){p:List Tree}(hp:∀z∈p,z∈x.items)(hs:Oa p<=Oa x.items):TinyT (.node 5 [] [] p):=by
  refine⟨GR h.1 hp hs,?_,?_⟩
  ·obtain⟨k, t, ks, xs⟩ := x
   have h2:=h.2.1;rw[Ja]at h2 ⊢;have hs':Oa p<=Oa xs:=hs;omega
  obtain⟨k, t, ks, xs⟩ := x;have h3:=h.2.2;rw[Hb]at h3;have hm:∀q:List Tree,(∀z∈q,z∈xs)->Xf q<=Xf xs:=λq=>by
    induction q with
    | nil=>intro _;simp[Xf]
    | cons z q ih =>
      intro hq;have h4:=Nd<|hq z Ca;have h5:=ih λy hy=>hq y qD;rw[Xf];omega
  have:=hm p hp;grind [Hb,Th]
def TinyT.itemsOk(h:TinyT x):∀z∈x.items,Tl z:=λz hz=>by
  have:=h.kid hz;exact⟨Ae z<|fQ this.2.2 fX,this.2.1,this.2.2⟩
structure Yv where
  B:Option Addr
  e:Nat
  G:Option Addr
  g:Nat
  M:Option Addr
  m:Nat
abbrev Yv.cells(q:Yv)(s n:Nat):List Value:=[.slice q.B s q.e,.slice q.G (n+1) q.g,.slice q.M n q.m]
theorem IV(base v:Tree)(x y:Tv)(S S':Nat->Prop)(w0:World)(hG:Gl w0)(hX:Rep S w0 (Sa base) (Tv.mk x.k x.t x.A x.n x.c x.B (aL base.items) x.e).cells)(hY:Rep S' w0 (Sa v) (Tv.mk y.k y.t y.A y.n y.c y.B (aL v.items) y.e).cells)(hxo:∀z∈base.items,Tl z)(hyo:∀z∈v.items,Tl z)(hex:Pe base.items=0)(hey:Pe v.items=0):Calls prog 82 #[.agg #[J (x.k),I (x.t),.slice x.A x.n x.c,.slice x.B (aL base.items) x.e],.agg #[J (y.k),I (y.t),.slice y.A y.n y.c,.slice y.B (aL v.items) y.e]] w0 (Qb λv_ w'=>∃q:Yv,q.B=y.B/\q.e=y.e/\v_=.tuple #[.agg (q.cells (aL v.items) (aL base.items)).toArray,.bool true]/\Rep (Btw w0 w') w' (M3 (aL base.items+1) (Ec base.items v.items).gap) [.slice q.G (aL base.items+1) q.g]/\Rep (Btw w0 w') w' (.slice (((List.range (aL base.items)).map (Ec base.items v.items).img).map Pd)) [.slice q.M (aL base.items) q.m]/\Same [] w0 w'):=by
 have hxi:=(Md hX).2.2.2.2.2;have hyi:=(Md hY).2.2.2.2.2;simp only at hxi hyi;obtain⟨mp,hmp,hri,hb64,hm100,hv64,hall,hlaid⟩:=VV hex hey;refine Ha func82 ntmps82 ?_;intro hF;refine rn 3 ?_;rintro b1 w hb1 hF -;refine rn 1 ?_;rintro b2 w hb2 hF -;refine rn 1 ?_;rintro b3 w hb3 hF -;refine rn 9<|Yb (rows_yes _ _ _ (hG.ext hF.same) base.items v.items x.B y.B x.e y.e (hF.rep hxi) (hF.rep hyi) hxo hyo _ _ O O hex hey) ?_;rintro _ w ⟨Az,cz,rfl,hMt,hE⟩;rw[hmp]at hMt ⊢;have hM:=RX.made (ids:=[b3,b2,b1]) hF.same.size (λx hx=>hF.lt_ids qJ) hMt;have hF:=hF.ext hE;clear hE hMt;refine rn 13<|Da (v:=.bool false) (Gd F7 fX) ?_;refine rn 19 ?_;intro w hF hE;have hM:=hM.store hE qJ;refine rn 9<|Yb (gaps_yes _ _ (aL base.items) mp Az cz hM.rep hri hb64 hm100 (aL v.items) hv64 hall) ?_;rintro _ w ⟨og,rfl,hRt,hE⟩;have hO:=RX.made (ids:=[b3,b2,b1]) hF.same.size (λx hx=>hF.lt_ids qJ) hRt;have hF:=hF.ext hE;have hM:=hM.ext hE;clear hE hRt;refine rn 5 ?_;intro w hF hE;have hM:=hM.store hE qJ;have hO:=hO.store hE qJ;refine rn 6 ?_;refine Yb (ET _ _ (aL base.items) mp Az cz hM.rep hri hb64 hm100 (λz hz=>by have:=hall z hz;omega)) ?_;rintro _ w ⟨oi,rfl,hRt,hE⟩;have hI:=RX.made (ids:=[b3,b2,b1]) hF.same.size (λx hx=>hF.lt_ids qJ) hRt;have hF:=hF.ext hE;have hO:=hO.ext hE;clear hE hRt hM;refine rn 5 ?_;intro w hF hE;have hO:=hO.store hE qJ;have hI:=hI.store hE qJ;refine rn 6 ?_;intro w hF hE;have hO:=hO.store hE qJ;have hI:=hI.store hE qJ;refine rn 4 ⟨⟨y.B,y.e,some ⟨og,0,none⟩,aL base.items+1,some ⟨oi,0,none⟩,aL base.items⟩,O,O,O,?_,?_,hF.same⟩
 ·rw[hlaid];exact hO.done
 rw[hlaid];exact hI.done
def laid_no0(base v:Tree)(x y:Tv)(S S':Nat->Prop)(w0:World)(hG:Gl w0)(hX:Rep S w0 (Sa base) (Tv.mk x.k x.t x.A x.n x.c x.B (aL base.items) x.e).cells)(hY:Rep S' w0 (Sa v) (Tv.mk y.k y.t y.A y.n y.c y.B (aL v.items) y.e).cells)(hxo:∀z∈base.items,Tl z)(hyo:∀z∈v.items,Tl z)(hne:¬(Pe base.items=0/\Pe v.items=0)):Calls prog 82 #[.agg #[J (x.k),I (x.t),.slice x.A x.n x.c,.slice x.B (aL base.items) x.e],.agg #[J (y.k),I (y.t),.slice y.A y.n y.c,.slice y.B (aL v.items) y.e]] w0 (Qb λv_ w'=>v_=.tuple #[.agg #[aQ,aQ,aQ],.bool false]/\Same [] w0 w'):=by
 have errR_z:∀{a b:List Tree},KP a b=0->Pe a=0/\Pe b=0:=fun {a b} h=>by unfold KP at h;split at h;(cases h);(split at h;(assumption);(cases h))
 have hxi:=(Md hX).2.2.2.2.2;have hyi:=(Md hY).2.2.2.2.2;simp only at hxi hyi;refine Ha func82 ntmps82 ?_;intro hF;refine rn 3 ?_;rintro b1 w hb1 hF -;refine rn 1 ?_;rintro b2 w hb2 hF -;refine rn 1 ?_;rintro b3 w hb3 hF -;refine rn 9<|Ta (rows_no _ _ _ (hG.ext hF.same) base.items v.items x.B y.B x.e y.e (hF.rep hxi) (hF.rep hyi) hxo hyo hne) ?_;rintro w hF -;refine rn 13<|Da (v:=.bool true) (Ah F7 (by exact λh=>hne<|errR_z h)) ?_;refine rn 7 ?_;rintro w hF -;refine rn 4 ?_;exact⟨O,hF.same⟩
def S5(base v:Tree)(x y:Tv)(S S':Nat->Prop)(w0:World)(hG:Gl w0)(hX:Rep S w0 (Sa base) x.cells)(hY:Rep S' w0 (Sa v) y.cells)(hb:TinyT base)(hv:TinyT v)(hex:Pe base.items=0)(hey:Pe v.items=0) :
    Calls prog 82 #[.agg x.cells.toArray,.agg y.cells.toArray] w0 (Qb λu w'=>∃q:Yv,q.B=y.B/\q.e=y.e/\u=.tuple #[.agg (q.cells (aL v.items) (aL base.items)).toArray,.bool true]/\Rep (Btw w0 w') w' (M3 (aL base.items+1) (Ec base.items v.items).gap) [.slice q.G (aL base.items+1) q.g]/\Rep (Btw w0 w') w' (.slice (((List.range (aL base.items)).map (Ec base.items v.items).img).map Pd)) [.slice q.M (aL base.items) q.m]/\Same [] w0 w'):=by
  have e1:=(Md hX).2.2.2.1;have e2:=(Md hY).2.2.2.1;obtain⟨k,t,A,n,c,B,m,e⟩:=x;obtain⟨k',t',A',n',c',B',m',e'⟩:=y;simp only at e1 e2;subst e1 e2;exact IV base v ⟨k,t,A,n,c,B,_,e⟩ ⟨k',t',A',n',c',B',_,e'⟩ S S' w0 hG hX hY hb.itemsOk hv.itemsOk hex hey
def KD(base v:Tree)(x y:Tv)(S S':Nat->Prop)(w0:World)(hG:Gl w0)(hX:Rep S w0 (Sa base) x.cells)(hY:Rep S' w0 (Sa v) y.cells)(hb:TinyT base)(hv:TinyT v)(hne:¬(Pe base.items=0/\Pe v.items=0)) :
    Calls prog 82 #[.agg x.cells.toArray,.agg y.cells.toArray] w0 (Qb λu w'=>u=.tuple #[.agg #[aQ,aQ,aQ],.bool false]/\Same [] w0 w'):=by
  have e1:=(Md hX).2.2.2.1;have e2:=(Md hY).2.2.2.1;obtain⟨k,t,A,n,c,B,m,e⟩:=x;obtain⟨k',t',A',n',c',B',m',e'⟩:=y;simp only at e1 e2;subst e1 e2;exact laid_no0 base v ⟨k,t,A,n,c,B,_,e⟩ ⟨k',t',A',n',c',B',_,e'⟩ S S' w0 hG hX hY hb.itemsOk hv.itemsOk hne
theorem bput_c(y:By)(n g:Nat)(r:Yv)(S S':Nat->Prop)(w0:World)(hG:Gl w0)(hI:Rep S w0 (.slice (Mb y.items)) [.slice r.B (aL y.items) r.e])(hGp:Rep S' w0 (M3 (n+1) y.gap) [.slice r.G (n+1) r.g])(hok:ByOk n y)(hg:g<=n)(hn:n<=64)(hto:∀z∈y.items,TinyT z):Calls prog 112 #[.agg (r.cells (aL y.items) n).toArray,J (g:Int)] w0 (Qb λv w'=>∃t:Tv,v=.agg t.cells.toArray/\Rep (Btw w0 w') w' (Sa (.node 5 [] [] (y.put g))) t.cells/\Same [] w0 w'):=by
 obtain⟨ad,B,e,hA,hk,hx⟩:=hGp.gapAt (i:=g) fX;obtain⟨hgl,hgm⟩:=hok.gap g hg;refine Ha func112 ntmps112 ?_;intro hF;refine rn 3 ?_;rintro b1 w hb1 hF -;refine rn 1 ?_;rintro b2 w hb2 hF -;refine rn 4<|Da (w':=w) (v:=.agg #[J 5,I [],aQ,aQ]) Ib ?_;refine rn 1 ?_;rintro b3 w hb3 hF -;refine rn 8<|Da (v:=.pointer<|some<|ad.add<|g*1) (Ea (i:=(g:Int)) Ii hA) ?_;refine Da (v:=.slice (B) (aL (y.gap g)) e) (Ma pZ<|hF.cellE hk Ca)<|rn 5 ?_;refine Za (λμ σ w=>∃(j:Nat),∃(A1:Option Addr),∃(c1:Nat),∃(sk:List (Nat × Obj)),∃(vals:List Value),μ=aL (y.gap g)-j/\(j<=aL (y.gap g))/\(SlB 25 4 A1 j c1 vals sk)/\(RX w0 ([b3,b2,b1]++ids sk) w (((y.gap g).take j).map λi=>Sa<|y.items.getD i.toNat zeroT) vals)/\AllEq σ [(2,V b1),(4,V b2),(5,V b3),(13,.slice (B) (aL (y.gap g)) e),(14,J<|(aL (y.gap g):Nat)),(15,J<|(j:Int))]/\FR w0 [] ([(b3,.cells #[J 5,I [],aQ,.slice A1 j c1] 25),(b2,.cells #[J 0,I [],aQ,aQ] 25),(b1,.cells #[.slice r.B (aL y.items) r.e,.slice (r.G) ((n+1)) r.g,.slice r.M n r.m] 112)]++(sk++[])) w) _ ⟨0,none,0,[],[],O,bZ _,SlB.nil _ _,RX.nil,Gc,hF⟩ ?_;rintro μ σ w ⟨j,A1,c1,sk,vals,rfl,hj,hK,hV,hzz,hF⟩;refine Gh hzz 7 ⟨λhc0=>?_,λhc0=>?_⟩;refine rn 5 ?_;have hjl:j<aL (y.gap g):=by_Om
 obtain⟨q,hq,hqe⟩:=hgm _<|eQ hjl;obtain⟨ado,co,hAo,hlo,hko,hro⟩:=hI.tree_elem (i:=q) hq;have hoo:=hro.one_;have hq64:=(Rep.slice_len hI).2;refine rn 1 ?_;obtain⟨ad0,hA0,hk0,hx0⟩:=(hF.rep hx).int_elem (i:=j) (hjl);rw[hqe]at hk0;refine Da (v:=.pointer<|some<|ad0.add<|j*1) (Ea (i:=(j:Int)) Ud hA0)<|Da (v:=J<|(q:Int)) (Ma oZ hk0) ?_;refine rn 3<|Vb (.of [11]) (bQ [0,1,2,3,4,5,6]<|cQ [7,8,9]<|.free 10<|.act 11 .nil) hF ?_;intro w hF hE;have hV:=hV.ext hE;refine⟨λwq=>FR w0 [] [(b3,.cells #[J 5,I [],aQ,.slice A1 j c1] 25),(b2,.cells #[J 0,I [],aQ,aQ] 25),(b1,.cells #[.slice r.B (aL y.items) r.e,.slice (r.G) ((n+1)) r.g,.slice r.M n r.m] 112)] wq,hF.mid 0 3,?_⟩;refine rn 5<|Fa O (v:=.pointer<|some<|ado.add<|q*4) (λw hC=>Ea (i:=(q:Int)) Wc hAo) ?_;refine Fa O (v:=.agg<|List.toArray co) (λw hC=>Qa (l:=co) nZ rZ O hlo λu h=>hC.cellE (hko u h) Ca)<|Me (OD y.items[q] (hto _<|eQ hq).ok.sz _ _ co (hF.rep hro) (hto _<|eQ hq).ok.ok (hG.ext hF.same)) ?_;rintro _ w ⟨ct,rfl,hRt,hE⟩;obtain⟨z,rfl,-⟩:=Hj hRt;rw[Hl (hto _<|eQ hq).1]at hRt;have hQ:=RX.made (ids:=[b3,b2,b1]++ids sk) hF.same.size (λx hx=>hF.lt_ids wM) hRt;have hF:=hF.ext hE;have hV:=hV.ext hE;clear hE hRt;refine⟨hF.su,?_⟩;refine rn 1 ?_;intro b4 w hb4 hF hE;have hV:=hV.alloc hE hb4;have hQ:=hQ.alloc hE hb4;refine D4 hK (len':=j+1) (ys:=vals++z.cells) (O) (O) ?_;intro A1 c1 k_1 w hS1_k hF hE hnew;have hks:∀x∈sk.map (·.1),x∈ids sk:=λ_ h=>h;have hV:=hV.grow hE hnew (λx hx=>by have:=hks x hx;simp[this]);have hQ:=hQ.grow hE hnew (λx hx=>by have:=hks x hx;simp[this]);refine rn 2 ?_;intro w hF hE;have hV:=hV.store hE qJ;have hQ:=hQ.store hE qJ;refine rn 4<|Tc Fj ?_
 refine rn 2 ?_;refine Va ⟨_,?_,j+1,A1,c1,k_1,vals++z.cells,rfl,fX,hS1_k,(by rw[iQ hjl,jQ,List.map_singleton,hqe,show y.items.getD ((q:Int).toNat) zeroT=y.items[q] by simp[List.getD,hq]];exact (hV.append hQ).sub qP),Gc,hF.su⟩;omega;refine rn 6 ?_;intro w hF hE;have hV:=hV.store hE qJ;refine rn 3 ?_;obtain rfl:j=aL (y.gap g):=by_Om
 refine⟨⟨5,[],none,0,0,A1,aL (y.gap g),c1⟩,O,?_,hF.same⟩;have hput:y.put g=(y.gap g).map λi=>y.items.getD i.toNat zeroT:=PR hgm;rw[List.take_length]at hV;rw[hput];refine Rep.tree_mk ⟨by_Om,by_Om⟩ Ca (Rep.nil_slice 0 fX none) ?_;rw[Fc,List.map_map];exact hK.rep (pre:=[_,_,_]) (post:=[]) hF (hV.sub (ids':=[]) Ca) Ca
def YR(y:By)(n g:Nat)(r:Yv)(S S':Nat->Prop)(w0:World)(hI:Rep S w0 (.slice (Mb y.items)) [.slice r.B (aL y.items) r.e])(hIm:Rep S' w0 (.slice (((List.range n).map y.img).map Pd)) [.slice r.M n r.m])(hok:ByOk n y)(hg:g<n)(hn:n<=64):Calls prog 113 #[.agg (r.cells (aL y.items) n).toArray,J (g:Int)] w0 (Qb λv w'=>∃q:Sv,v=.agg q.cells.toArray/\Rep S w' (Rc (Ee (y.item g))) q.cells/\Same [] w0 w'):=by
 obtain⟨ad,hA,hk,hx⟩:=hIm.int_elem (i:=g) (aS hg);rw[List.getElem_map,List.getElem_range]at hk;refine Ha func113 ntmps113 ?_;intro hF;refine rn 3 ?_;rintro b1 w hb1 hF -;refine rn 1 ?_;rintro b2 w hb2 hF -;refine rn 8<|Da (v:=.pointer<|some<|ad.add<|g*1) (Ea (i:=(g:Int)) Ud hA) ?_;refine Da (v:=J<|y.img g) (Ma oZ<|hF.cellE hk Ca)<|rn 4 ⟨λhc0=>?_,λhc0=>?_⟩;refine rn 2<|Da (w':=w) (v:=.agg #[.bool false,J 0,I [],aQ,aQ]) Ib ?_;refine rn 1 ?_;rintro w hF -;refine rn 3 ⟨⟨false,IQ⟩,O,?_,hF.same⟩;have e:y.item g=none:=by unfold By.item By.at;rw[uQ hc0]
 rw[e];exact R4;obtain⟨q,hq,hqe⟩:=(hok.img g hg).resolve_left hc0;have hk2:=hk;rw[hqe]at hk2;obtain⟨ado,co,hAo,hlo,hko,hro⟩:=hI.tree_elem (i:=q) hq;obtain⟨z,rfl,-⟩:=Hj hro;have hoo:=hro.one_;have hq64:=(Rep.slice_len hI).2;refine rn 3<|Fe (zs:=.of [10]) (bQ [0,1,2,3,4,5,6,7,8]<|.act 9<|.act 10 .nil) hF ?_;intro w hF;refine rn 5<|Fa O (v:=.pointer<|some<|ad.add<|g*1) (λw hC=>Ea (i:=(g:Int)) Ud hA) ?_;refine Fa O (v:=J<|(q:Int)) (λw hC=>Ma oZ<|hC.cellE hk2 Ca)<|Fa O (v:=.pointer<|some<|ado.add<|q*4) (λw hC=>Ea (i:=(q:Int)) Wc hAo) ?_;refine Fa O (v:=.agg (z.cells).toArray) (λw hC=>Qa (l:=z.cells) nZ rZ O hlo λu h=>hC.cellE (hko u h) Ca)<|Mf (Ym z) ?_;rintro w hF -;refine rn 1 ?_;rintro w hF -;refine rn 3 ⟨⟨true,z⟩,O,?_,hF.same⟩;have e:y.item g=some y.items[q]:=by unfold By.item By.at;rw[hqe,tQ fX];simp[hq]
 rw[e];exact Wi (s:=⟨true,y.items[q]⟩)<|hF.rep hro
def BO(h:TinyT x):Zk ⟨true,x⟩=⟨true,x⟩:=by simp[Zk,Hl h.1]
def hole_row{w:World}(h:n<1000):RepL S w (Mb [Sh n]) [J 7,I (Sj n),aQ,aQ]:=by
  have hn:=(H5 h).2.2.2;rw[Fc];have:=RepL.cons_mk (Rep.tree_mk (S:=S) (w:=w) (k:=7) (t:=Sj n) (ks:=[]) (xs:=[]) ⟨by_Om,by_Om⟩ fX (Rep.nil_slice 0 fX none)<|Rep.nil_slice 0 fX none) RepL.nil_mk;rw[qQ]at this;exact this
theorem Ts(h:n<=64):aL (Lib.itoa n)<=4:=by
  have h1:(List.range 65).all (λn=>decide (aL (Lib.itoa n)<=4))=true:=by kernel_rfl
  grind
theorem gap_len{g:Nat}(h:g<=64):aL (I5 g)<=5:=by grind [Ts,I5]
theorem gap_c0(g:Nat)(P Q:List Tree)(x y:Tv)(path:List Str)(PA:Option Addr)(pc:Nat)(SP S S':Nat->Prop)(w0:World)(sm:List (Nat × Obj))(pb:Nat)(RV:Value)(cfs:List Cf)(i:List Nat)(hM:Mi i w0 sm pb RV cfs)(hG:Gl w0)(hOp:Off SP w0 sm)(hP:Rep SP w0 (Wa path) [.slice PA (aL path) pc])(hOx:Off S w0 sm)(hX:Rep S w0 (Sa (.node 5 [] [] P)) (Tv.mk x.k x.t x.A x.n x.c x.B (aL P) x.e).cells)(hOy:Off S' w0 sm)(hY:Rep S' w0 (Sa (.node 5 [] [] Q)) (Tv.mk y.k y.t y.A y.n y.c y.B (aL Q) y.e).cells)(hp:TinyT (.node 5 [] [] P))(hq:TinyT (.node 5 [] [] Q))(hn:aL cfs<1000)(hpl:aL path<=900)(hg:g<=64):Calls prog 111 #[V pb,.slice PA (aL path) pc,J (g:Int),.agg #[J (x.k),I (x.t),.slice x.A x.n x.c,.slice x.B (aL P) x.e],.agg #[J (y.k),I (y.t),.slice y.A y.n y.c,.slice y.B (aL Q) y.e]] w0 (Qb λv w'=>∃sm' A c,v=.slice A (Jf path g (aL cfs) P Q).1.length c/\Rep (λb=>S b\/S' b\/Nq w0 sm' w' b) w' (.slice (Mb (Jf path g (aL cfs) P Q).1)) [.slice A (Jf path g (aL cfs) P Q).1.length c]/\Mo' i w0 sm w' sm' pb RV (cfs++(Jf path g (aL cfs) P Q).2)):=by
 have hxi:=(Md hX).2.2.2.2.2;have hyi:=(Md hY).2.2.2.2.2;simp only[Tree.items]at hxi hyi;have hoff:∀x∈ids sm,8<=x:=λx hx=>(hM.low x<|hM.sub x hx).1;have hn0:TinyT (.node 5 [] [] []):=hp.part Ca (by simp[Oa]);have pm0:aL P=0->Jf path g (aL cfs) P Q=(Q,[]):=λh=>by unfold Jf;rw[uQ h]
 have pm1:¬aL P=0->aL Q=0\/Dx (.node 5 [] [] P) (.node 5 [] [] Q)=true->Jf path g (aL cfs) P Q=(P,[]):=λh k=>by unfold Jf;rw[tQ h,uQ (by rwa [Im hp.1 hq.1]at k)]
 have pm2:¬aL P=0->¬(aL Q=0\/Dx (.node 5 [] [] P) (.node 5 [] [] Q)=true)->Jf path g (aL cfs) P Q=([Sh (aL cfs)],[⟨path++[I5 g],5,⟨true,.node 5 [] [] []⟩,⟨true,.node 5 [] [] P⟩,⟨true,.node 5 [] [] Q⟩⟩]):=λh k=>by unfold Jf;rw[tQ h,tQ (by rwa [Im hp.1 hq.1]at k)]
 refine Wb func111 ntmps111 O O ?_;have hF:FR w0 (ids sm) ([]++(sm++[])) w0:=hM.start;refine rn 3 ?_;rintro b1 w hb1 hF -;refine rn 1 ?_;rintro b2 w hb2 hF -;refine rn 15 ⟨λhc0=>?_,λhc0=>?_⟩
 ·
  refine rn 8 ?_;refine⟨sm,y.B,y.e,by rw[pm0 fX],?_,by rw[pm0 fX,qQ];exact hM.m.step hF.same hM.sub λx hx=>(mQ.1 hx).elim .inl λh=>.inl<|hM.sub x h,hF.hh,hF.mc⟩;rw[pm0 fX];exact (hF.repM hOy hyi).weaken λ_ h _=>.inr<|.inl h
 refine rn 8 ⟨λhg0=>?_,λhg0=>?_⟩
 ·
  refine rn 16 ?_;refine⟨sm,x.B,x.e,by rw[pm1 fX<|.inl fX],?_,by rw[pm1 fX<|.inl fX,qQ];exact hM.m.step hF.same hM.sub λx hx=>(mQ.1 hx).elim .inl λh=>.inl<|hM.sub x h,hF.hh,hF.mc⟩;rw[pm1 fX<|.inl fX];exact (hF.repM hOx hxi).weaken λ_ h _=>.inl h
 refine rn 2<|Ta (LF (.node 5 [] [] P) (.node 5 [] [] Q) hp.ok.sz hq.ok.sz _ _ _ _ _ (hF.repM hOx hX) (hF.repM hOy hY) hp.ok.ok hq.ok.ok<|hG.same hF.same hoff) ?_;rintro w hF -;refine rn 5 ⟨λhc1=>?_,λhc1=>?_⟩
 ·
  refine rn 8 ?_;refine⟨sm,x.B,x.e,by rw[pm1 fX<|.inr (aS hc1)],?_,by rw[pm1 fX<|.inr (aS hc1),qQ];exact hM.m.step hF.same hM.sub λx hx=>(mQ.1 hx).elim .inl λh=>.inl<|hM.sub x h,hF.hh,hF.mc⟩;rw[pm1 fX<|.inr (aS hc1)];exact (hF.repM hOx hxi).weaken λ_ h _=>.inl h
 refine rn 5<|Da (w':=w) (v:=.agg #[J 5,I [],aQ,aQ]) Ib ?_;refine rn 1 ?_;rintro b3 w hb3 hF -;refine rn 3<|Vb (.of [15]) (bQ [0,1,2,6,8,10]<|.alt 3 (.free 4<|.alt 5 (.alt 7 (.alt 9 (.alt 11 (.free 12<|.alt 13 (.act 14<|.act 15 .nil)<|cQ [14,13,15] .nil)<|.act 14<|.act 11<|.free 12<|.act 13<|.act 15 .nil)<|cQ [14,9,11]<|.free 12<|.act 13<|.act 15 .nil)<|cQ [14,7,9,11]<|.free 12<|.act 13<|.act 15 .nil)<|cQ [14,5,7,9,11]<|.free 12<|.act 13<|.act 15 .nil)<|.act 14<|.act 3<|.free 4<|cQ [5,7,9,11]<|.free 12<|.act 13<|.act 15 .nil) hF ?_;rintro w hF -;refine⟨λwq=>FR w0 (ids sm) [(b3,.cells #[J 5,I [],aQ,aQ] 25),(b2,.cells #[J y.k,I y.t,.slice y.A y.n y.c,.slice y.B (aL Q) y.e] 25),(b1,.cells #[J x.k,I x.t,.slice x.A x.n x.c,.slice x.B (aL P) x.e] 25)] wq,hF.mid 0 3,?_⟩;refine rn 6 ?_
 repeat' first
  |refine Ip ?_ ?_|refine Bh 3<|Mf (G7 (g:Int) fX fX<|hG.same hF.same hoff) ?_;rintro w hF -
  |
   refine Bh 5<|Me (Gu path (I5 g) PA pc _ _ (hF.repM hOp hP) (fQ (gap_len hg) Pa) fX) ?_;rintro _ w ⟨Ap,cp,rfl,hRt,hE⟩
   first|(have hPX:=RX.made (ids:=[b301,b3,b2,b1]++ids sm) hF.same.size (λx hx=>hF.lt_ids wB) hRt)|(have hPX:=RX.made (ids:=[b3,b2,b1]++ids sm) hF.same.size (λx hx=>hF.lt_ids wB) hRt)
   have hF:=hF.ext hE;clear hE hRt;refine⟨hF.su,?_⟩
  |refine Bh 7<|Mf (Ym ⟨5,[],none,0,0,none,0,0⟩) ?_;intro w hF hE;have hPX:=hPX.ext hE|refine Bh 9<|Mf (Ym ⟨x.k,x.t,x.A,x.n,x.c,x.B,aL P,x.e⟩) ?_;intro w hF hE;have hPX:=hPX.ext hE|refine Bh 11<|Mf (Ym ⟨y.k,y.t,y.A,y.n,y.c,y.B,aL Q,y.e⟩) ?_;intro w hF hE;have hPX:=hPX.ext hE
  |
   refine Bh 13 ?_
   first|(refine Me (Ow (path++[I5 g]) 5 ⟨true,.node 5 [] [] []⟩ ⟨true,.node 5 [] [] P⟩ ⟨true,.node 5 [] [] Q⟩ ⟨true,⟨5,[],none,0,0,none,0,0⟩⟩ ⟨true,⟨x.k,x.t,x.A,x.n,x.c,x.B,aL P,x.e⟩⟩ ⟨true,⟨y.k,y.t,y.A,y.n,y.c,y.B,aL Q,y.e⟩⟩ Ap cp _ (λb=>S b\/S' b) _ sm pb RV cfs ([b301,b3,b2,b1]++i) (hM.at hG hF Ca) (Sg (sm:=sm) Rb) ((hF.offM hOx).or (hF.offM hOy)) hPX.rep (Jm (Wi (s:=⟨true,.node 5 [] [] []⟩)<|Rep.tree_mk ⟨by_Om,by_Om⟩ Ca (Rep.nil_slice 0 fX none)<|Rep.nil_slice 0 fX none) (Wi (s:=⟨true,.node 5 [] [] P⟩)<|(hF.repM hOx hX).weaken λ_ h _=>.inl h)<|Wi (s:=⟨true,.node 5 [] [] Q⟩)<|(hF.repM hOy hY).weaken λ_ h _=>.inr h) hn0.ok hp.ok hq.ok hn qG ⟨by_Om,by_Om⟩<|hG.same hF.same hoff) ?_)|(refine Me (Ow (path++[I5 g]) 5 ⟨true,.node 5 [] [] []⟩ ⟨true,.node 5 [] [] P⟩ ⟨true,.node 5 [] [] Q⟩ ⟨true,⟨5,[],none,0,0,none,0,0⟩⟩ ⟨true,⟨x.k,x.t,x.A,x.n,x.c,x.B,aL P,x.e⟩⟩ ⟨true,⟨y.k,y.t,y.A,y.n,y.c,y.B,aL Q,y.e⟩⟩ Ap cp _ (λb=>S b\/S' b) _ sm pb RV cfs ([b3,b2,b1]++i) (hM.at hG hF Ca) (Sg (sm:=sm) Rb) ((hF.offM hOx).or (hF.offM hOy)) hPX.rep (Jm (Wi (s:=⟨true,.node 5 [] [] []⟩)<|Rep.tree_mk ⟨by_Om,by_Om⟩ Ca (Rep.nil_slice 0 fX none)<|Rep.nil_slice 0 fX none) (Wi (s:=⟨true,.node 5 [] [] P⟩)<|(hF.repM hOx hX).weaken λ_ h _=>.inl h)<|Wi (s:=⟨true,.node 5 [] [] Q⟩)<|(hF.repM hOy hY).weaken λ_ h _=>.inr h) hn0.ok hp.ok hq.ok hn qG ⟨by_Om,by_Om⟩<|hG.same hF.same hoff) ?_)
   rintro _ w2 ⟨sm2,rfl,hO⟩;have hM2:=hO.m;have hF:=hF.swapM hO.m hO.hh hO.mc;rw[BO hn0,BO hp,BO hq]at hM2;have hz:=hF.same.size;clear hO hPX;refine⟨hF.su,?_⟩
  |
   refine Bh 14<|rn 1 ?_;intro b301 w hb301 hF hE
   try have hnb301:=hz
   try rw[<-hb301]at hnb301
   try have hz:=fQ hz hE.size
   try have hM2:=hM2.alloc hE hb301
   try have hPX:=hPX.alloc hE hb301
  |refine Bh 15<|rn 1 ?_;intro w hF hE;have hz:=fQ hz hE.size;have hM2:=hM2.store hE Ca
  |
   refine rn 7 ?_;intro b302 w hb302 hF hE;have hnb302:=hz;rw[<-hb302]at hnb302;have hz:=fQ hz hE.size;have hM2:=hM2.alloc hE hb302;refine rn 4 ?_;have hpm:=pm2 fX qX;refine⟨sm2,some ⟨b302,0,none⟩,1,by rw[hpm];rfl,?_,by rw[hpm];exact hM2.sub Rb,hF.hh,hF.mc⟩;rw[hpm];refine (hF.rowS (S:=λ_=>False) (n:=1) 0 O (hole_row hn) Ca fX).weaken λz h _=>.inr<|.inr ?_;rcases h with h|rfl
   ·exact h.elim
   exact⟨⟨by_Om,Ga<|hF.heap (i:=0) O,_,_,hF.heap (i:=0) O⟩,hF.newM 0 O⟩
  |refine K9 4 ?_;refine Fa O (v:=I<|([43])++(Lib.itoa (g:Int))) (λw hC=>Xq O O (by have:=Ts hg;simp only[kQ,aZ];omega)) ?_|refine K9 12<|Fa O (v:=.agg #[.bool true,J 5,I [],aQ,aQ,.bool true,J x.k,I x.t,.slice x.A x.n x.c,.slice x.B (aL P) x.e,.bool true,J y.k,I y.t,.slice y.A y.n y.c,.slice y.B (aL Q) y.e]) (λw hC=>by kernel_rfl) ?_
def gap_c(g:Nat)(P Q:List Tree)(x y:Tv)(path:List Str)(PA:Option Addr)(pc:Nat)(SP S S':Nat->Prop)(w0:World)(sm:List (Nat × Obj))(pb:Nat)(RV:Value)(cfs:List Cf)(i:List Nat)(hM:Mi i w0 sm pb RV cfs)(hG:Gl w0)(hOp:Off SP w0 sm)(hP:Rep SP w0 (Wa path) [.slice PA (aL path) pc])(hOx:Off S w0 sm)(hX:Rep S w0 (Sa (.node 5 [] [] P)) x.cells)(hOy:Off S' w0 sm)(hY:Rep S' w0 (Sa (.node 5 [] [] Q)) y.cells)(hp:TinyT (.node 5 [] [] P))(hq:TinyT (.node 5 [] [] Q))(hn:aL cfs<1000)(hpl:aL path<=900)(hg:g<=64) :
    Calls prog 111 #[V pb,.slice PA (aL path) pc,J (g:Int),.agg x.cells.toArray,.agg y.cells.toArray] w0 (Qb λv w'=>∃sm' A c,v=.slice A (Jf path g (aL cfs) P Q).1.length c/\Rep (λb=>S b\/S' b\/Nq w0 sm' w' b) w' (.slice (Mb (Jf path g (aL cfs) P Q).1)) [.slice A (Jf path g (aL cfs) P Q).1.length c]/\Mo' i w0 sm w' sm' pb RV (cfs++(Jf path g (aL cfs) P Q).2)):=by
  have e1:=(Md hX).2.2.2.1;have e2:=(Md hY).2.2.2.1;obtain⟨k,t,A,n,c,B,m,e⟩:=x;obtain⟨k',t',A',n',c',B',m',e'⟩:=y;simp only[Tree.items]at e1 e2;subst e1 e2;exact gap_c0 g P Q ⟨k,t,A,n,c,B,_,e⟩ ⟨k',t',A',n',c',B',_,e'⟩ path PA pc SP S S' w0 sm pb RV cfs i hM hG hOp hP hOx hX hOy hY hp hq hn hpl hg
end Go.Scarf
