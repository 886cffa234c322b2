/- A part of the proof. -/
import Derived.Test.YteedfdfinodcaaaGreatDoorZ4
set_option linter.all false
set_option maxHeartbeats 8000000
set_option maxRecDepth 10000
set_option synthInstance.maxHeartbeats 0
set_option synthInstance.maxSize 9999
namespace Go.Scarf
open List renaming length->aL
open Go.RowKit Go.Proofs Go.Proofs.Tryz
variable {b size:Nat}{l:List Tree}{v:Value}{β:Type}{y:Tree}{qs:List Str}
def Sq(M x:Nat)(q:Nat->Nat):List Value:=(List.range x).map λi=>Value.slice (some ⟨q i,0,none⟩) M M
def F9(M x b:Nat)(q:Nat->Nat):Sq M x q++[W b M M]=Sq M (x+1) (Gt q x b):=by
  unfold Sq;rw[List.range_succ,jQ]
  congr 1
  ·exact List.map_congr_left λi hi=>by have:=List.mem_range.1 hi;simp[Gt,show ¬i=x by omega]
  simp[Gt]
def RowsOk.grow{w0 w w':World}{i m:Nat}{q:Nat->Nat}{ids ids' E:List Nat}(h:RowsOk w0 w i m q ids)(hs:Same E w w')(he:∀b∈E,b∈ids)(hi:∀b∈ids',b∈ids\/w.heap.size<=b):RowsOk w0 w' i m q ids' :=
  ⟨(h.step hs he).row,h.inj,λk hk=>⟨(h.new k hk).1,λhm=>(hi _ hm).elim (h.new k hk).2 λh2=>by have:=Ga<|h.row k hk;omega⟩⟩
structure R0 (w0 w:World) (x M:Nat) (q r:Nat->Nat) (ids:List Nat):Prop where
  rq:RowsOk w0 w x M q ids
  rr:RowsOk w0 w x M r ids
  ne:∀i j,i<x->j<x->q i≠r j
section
variable {w0 w w':World}{x M:Nat}{q r:Nat->Nat}{ids ids' E:List Nat}
def R0.step(h:R0 w0 w x M q r ids)(hs:Same E w w')(he:∀b∈E,b∈ids):R0 w0 w' x M q r ids:=⟨h.rq.step hs he,h.rr.step hs he,h.ne⟩
def R0.grow(h:R0 w0 w x M q r ids)(hs:Same E w w')(he:∀b∈E,b∈ids)(hi:∀b∈ids',b∈ids\/w.heap.size<=b):R0 w0 w' x M q r ids':=⟨h.rq.grow hs he hi,h.rr.grow hs he hi,h.ne⟩
def R0.off(h:R0 w0 w x M q r ids)(hb:b=w.heap.size):∀k,k<x->q k≠b/\r k≠b:=λk hk=>by have h1:=Ga<|h.rq.row k hk;have h2:=Ga<|h.rr.row k hk;constructor <;> omega
theorem R0.put{L sp sr:List (Nat × Obj)}{bp br b1 i j:Nat}(h:R0 w0 w x M q r ([b1]++(sp.map (·.1)++sr.map (·.1))))(hF:FR w0 [] L w)(h6:∀k,k<x->q k≠bp/\r k≠bp)(h7:∀k,k<x->q k≠br/\r k≠br)
    [HsF L bp i (.cells (Nc M λ_=>0) 3)] [HsF L br j (.cells (Nc M λ_=>0) 3)] [NeF L bp b1] [DsF L bp sp] [DsF L bp sr] [NeF L br b1] [DsF L br sp] [DsF L br sr] [NeF L bp br]:R0 w0 w (x+1) M (Gt q x bp) (Gt r x br) ([b1]++(sp.map (·.1)++sr.map (·.1))):=by
  have h5:bp≠br:=hF.ne;have hm:∀{b:Nat},b≠b1->b∉sp.map (·.1)->b∉sr.map (·.1)->b∉[b1]++(sp.map (·.1)++sr.map (·.1)):=qJ
  refine⟨h.rq.put hF.hp hF.gp (hm hF.ne hF.ds hF.ds) λk hk=>(h6 k hk).1,h.rr.put hF.hp hF.gp (hm hF.ne hF.ds hF.ds) λk hk=>(h7 k hk).2,λi j hi hj=>?_⟩;have e1:∀k,Gt q x bp k=if k=x then bp else q k:=λ_=>rfl
  have e2:∀k,Gt r x br k=if k=x then br else r k:=λ_=>rfl
  rw[e1,e2];split <;> split
  ·exact h5
  ·exact λe=>(h6 j fX).2 e.symm
  ·exact (h7 i fX).1
  exact h.ne i j fX fX
theorem FR.apart{Ds:List Nat}{pre rest:List (Nat × Obj)}(hF:FR w0 Ds (pre++rest) w){i:Nat}{o:Obj}(hi:pre[i]? = some (b,o)):b∉rest.map (·.1):=λh=>by
  obtain⟨z,hz,e⟩:=nQ.1 h;exact (List.pairwise_append.1 hF.desc).2.2 (b,o) (List.mem_of_getElem? hi) z hz e
theorem SlB.one{e n c:Nat}{A:Option Addr}{xs:List Value}{sb:List (Nat × Obj)}(h:SlB e 1 A n c xs sb)(hn:0<n):∃g cur,A=some ⟨g,0,none⟩/\sb=[(g,.cells cur e)]/\∀i (hi:i<aL xs),cur[i]? = some xs[i]:=by
  obtain⟨hl,h⟩:=h;grind
end
section
variable {la lb:List TreeN}{P P' R:Nat->Nat->Int}{i j:Nat}
def RD(la lb:List TreeN)(R:Nat->Nat->Int)(i j:Nat):Prop:=∀a b,a<=aL la->b<=aL lb->(aL la-a<i\/(aL la-a=i/\aL lb-b<j))->R a b=((al Xm pN (la.drop a) (lb.drop b):Nat):Int)
def PD(la lb:List TreeN)(P:Nat->Nat->Int)(i j:Nat):Prop:=∀a b (h1:a<aL la) (h2:b<aL lb),(aL la-a<i\/(aL la-a=i/\aL lb-b<j))->P a b=((pN la[a] lb[b]:Nat):Int)
theorem RD.step(h:RD la lb R i j)(hi:i<=aL la)(hj:j<=aL lb):RD la lb (Rm R (aL la-i) (aL lb-j) ((al Xm pN (la.drop (aL la-i)) (lb.drop (aL lb-j)):Nat):Int)) i (j+1):=λa b ha hb hc=>by
  by_cases e:a=aL la-i/\b=aL lb-j
  ·grind [Tp]
  rw[Hy e];exact h a b ha hb fX
def RD.row(h:RD la lb R i (aL lb+1)):RD la lb R (i+1) 0:=λa b ha hb hc=>h a b ha hb fX
theorem PD.step(h:PD la lb P i j)(hn:∀(h1:aL la-i<aL la) (h2:aL lb-j<aL lb),P' (aL la-i) (aL lb-j)=((pN la[aL la-i] lb[aL lb-j]:Nat):Int))(ho:∀a b,¬(a=aL la-i/\b=aL lb-j)->P' a b=P a b):PD la lb P' i (j+1):=λa b ha hb hc=>by
  by_cases e:a=aL la-i/\b=aL lb-j
  ·grind
  rw[ho a b e];exact h a b ha hb fX
def PD.row(h:PD la lb P i (aL lb+1)):PD la lb P (i+1) 0:=λa b ha hb hc=>h a b ha hb fX
end
theorem reckon_c(S S':Nat->Prop)(w0:World)(la lb:List TreeN)(Aa Ab:Option Addr)(k1 k2:Nat)(hLa:Rep S w0 (.slice (la.map Om)) [.slice Aa (aL la) k1])(hLb:Rep S' w0 (.slice (lb.map Om)) [.slice Ab (aL lb) k2])(hll:aL la<=64/\aL lb<=64)(hRa:∀x∈la,Wh x.1 x.2)(hRb:∀x∈lb,Wh x.1 x.2)(hla:∀x∈la,Xm x<=512)(hlb:∀x∈lb,Xm x<=512):Calls prog 142 #[.slice Aa (aL la) k1,.slice Ab (aL lb) k2] w0 (Qb λv w'=>∃(cb pb rb kP kR:Nat)(q r:Nat->Nat)(P R:Nat->Nat->Int),v=.pointer (some ⟨cb,0,none⟩)/\Ck w' w0.heap.size cb pb rb la lb Aa Ab k1 k2 kP kR q r P R/\(∀a b,a<=aL la->b<=aL lb->R a b=((al Xm pN (la.drop a) (lb.drop b):Nat):Int))/\(∀a b (h1:a<aL la) (h2:b<aL lb),P a b=((pN la[a] lb[b]:Nat):Int))/\Same [] w0 w'):=by
 refine Ha func142 ntmps142 ?_;intro hF;refine rn 9<|Da (w':=w0) (v:=.agg #[.slice Aa (aL la) k1,.slice Ab (aL lb) k2,aQ,aQ]) Ib ?_;refine rn 1 ?_;rintro b1 w hb1 hF -;refine rn 8<|Tc (Le<|((aL la+1:Nat):Int)) ?_;refine rn 4 (Za (λμ σ w=>∃(x:Nat),∃(AP:Option Addr),∃(kP:Nat),∃(sp:List (Nat × Obj)),∃(AR:Option Addr),∃(kR:Nat),∃(sr:List (Nat × Obj)),∃(q:Nat->Nat),∃(r:Nat->Nat),μ=aL la+1-x/\(x<=aL la+1)/\(SlB 42 1 AP x kP (Sq (aL lb+1) x q) sp)/\(SlB 42 1 AR x kR (Sq (aL lb+1) x r) sr)/\(R0 w0 w (x) (aL lb+1) q r ([b1]++(sp.map (·.1)++sr.map (·.1))))/\AllEq σ [(0,.slice Aa (aL la) k1),(1,.slice Ab (aL lb) k2),(5,.pointer<|some ⟨b1,0,none⟩),(14,J<|((aL la+1:Nat):Int)),(15,J<|(x:Int))]/\FR w0 [] ([(b1,.cells #[.slice Aa (aL la) k1,.slice Ab (aL lb) k2,.slice AP x kP,.slice AR x kR] 188)]++(sp++(sr++[]))) w) _ ⟨0,none,0,[],none,0,[],λ_=>0,λ_=>0,O,bZ _,SlB.nil _ _,SlB.nil _ _,⟨⟨λk hk=>absurd hk fX,λk l hk=>absurd hk fX,λk hk=>absurd hk fX⟩,⟨λk hk=>absurd hk fX,λk l hk=>absurd hk fX,λk hk=>absurd hk fX⟩,λi j hi=>absurd hi fX⟩,Gc,hF⟩ ?_);rintro μ σ w ⟨x,AP,kP,sp,AR,kR,sr,q,r,rfl,hx,hSp,hSr,hW,hzz,hF⟩;refine Gh hzz 7 ⟨λhc0=>?_,λhc0=>?_⟩
 ·
  refine rn 2 ?_;have hq0:=hx;refine rn 1 (Of (λσ w=>∃(AS:Option Addr),∃(kS:Nat),∃(sp2:List (Nat × Obj)),∃(AT:Option Addr),∃(kT:Nat),∃(sr2:List (Nat × Obj)),∃(q2:Nat->Nat),∃(r2:Nat->Nat),(SlB 42 1 AS (x+1) kS (Sq (aL lb+1) (x+1) q2) sp2)/\(SlB 42 1 AT (x+1) kT (Sq (aL lb+1) (x+1) r2) sr2)/\(R0 w0 w (x+1) (aL lb+1) q2 r2 ([b1]++(sp2.map (·.1)++sr2.map (·.1))))/\AllEq σ [(0,.slice Aa (aL la) k1),(1,.slice Ab (aL lb) k2),(5,.pointer<|some ⟨b1,0,none⟩),(14,J<|((aL la+1:Nat):Int)),(15,J<|(x:Int))]/\FR w0 [] ([(b1,.cells #[.slice Aa (aL la) k1,.slice Ab (aL lb) k2,.slice (AS) (x+1) kS,.slice (AT) (x+1) kT] 188)]++(sp2++(sr2++[]))) w) ?_ ?_)
  ·
   refine rn 1<|c_drawP (.of [27,24]) [0,1,2,3,4,6,7,8,12,13,14,16,17,18] (.free 5<|.free 15<|.alt 9 (.alt 10 (.alt 11 (cQ [19,20,21,22]<|.free 23<|.act 24<|.act 25<|.free 26<|.act 27 .nil)<|.act 19<|.alt 11 (cQ [20,21,22]<|.free 23<|.act 24<|.act 25<|.free 26<|.act 27 .nil)<|cQ [20,11,21,22]<|.free 23<|.act 24<|.act 25<|.free 26<|.act 27 .nil)<|.act 19<|.alt 10 (.alt 11 (cQ [20,21,22]<|.free 23<|.act 24<|.act 25<|.free 26<|.act 27 .nil)<|cQ [20,11,21,22]<|.free 23<|.act 24<|.act 25<|.free 26<|.act 27 .nil)<|cQ [20,10,11,21,22]<|.free 23<|.act 24<|.act 25<|.free 26<|.act 27 .nil)<|.act 19<|.alt 9 (.alt 10 (.alt 11 (cQ [20,21,22]<|.free 23<|.act 24<|.act 25<|.free 26<|.act 27 .nil)<|cQ [20,11,21,22]<|.free 23<|.act 24<|.act 25<|.free 26<|.act 27 .nil)<|cQ [20,10,11,21,22]<|.free 23<|.act 24<|.act 25<|.free 26<|.act 27 .nil)<|cQ [20,9,10,11,21,22]<|.free 23<|.act 24<|.act 25<|.free 26<|.act 27 .nil) hF ?_;intro w hF hE;have hW:=hW.step hE Ca;refine KQ O (ymp O)<|KQ O (ymp O)<|KQ O (ymp O)<|KQ O (ync O)<|KQ O (yfa QJ O)<|KQ O (yml O)<|KQ O (yln underlying182 O)<|KQ O (Le<|((aL lb+1:Nat):Int))<|KQ O (ymp O)<|KQ O (ync O)<|KQ O (yfa RG O)<|KQ O (yml O)<|KQ O (yln underlying182 O)<|KQ O (Le<|((aL lb+1:Nat):Int)) ?_;refine p_nil ⟨λwq=>FR w0 [] [(b1,.cells #[.slice Aa (aL la) k1,.slice Ab (aL lb) k2,.slice AP x kP,.slice AR x kR] 188)] wq,hF.mid 0 1,?_⟩;refine rn 2 ?_
   repeat' first
    |refine Ip ?_ ?_|refine Bh 9<|rn 1 ⟨by_Om,?_⟩;intro b301 w hb301 hF hE;have hnb301:=hW.off hb301;have hW:=hW.step hE Ca|refine Bh 10<|rn 1 ?_;intro b302 w hb302 hF hE;have hW:=hW.step hE Ca|refine Bh 11<|D4 hSp (len':=x+1) (ys:=Sq (aL lb+1) (x+1)<|Gt q x b301) (O) (F9 _ _ _ _) ?_;intro A303 c303 p_303 w hS303_p hF hE hnew;have hW:=hW.grow (ids':=[b1]++(p_303.map (·.1)++sr.map (·.1))) hE qJ qJ|refine Bh 19<|rn 1 ⟨by_Om,?_⟩;intro b304 w hb304 hF hE;have hnb304:=hW.off hb304;have hW:=hW.step hE Ca|refine Bh 20<|rn 1 ?_;intro b305 w hb305 hF hE;have hW:=hW.step hE Ca|refine Bh 21<|D4 hSr (len':=x+1) (ys:=Sq (aL lb+1) (x+1)<|Gt r x b304) (O) (F9 _ _ _ _) ?_;intro A306 c306 r_306 w hS306_r hF hE hnew;have hW:=hW.grow (ids':=[b1]++(p_303.map (·.1)++r_306.map (·.1))) hE qJ qJ|refine Bh 24<|rn 1 ?_;intro w hF hE;have hW:=hW.step hE Ca|refine Bh 27<|rn 1 ?_;intro w hF hE;have hW:=hW.step hE Ca|refine rn 2 ?_;exact Va ⟨A303,c303,p_303,A306,c306,r_306,Gt q x b301,Gt r x b304,hS303_p,hS306_r,hW.put hF hnb301 hnb304,Gc,hF.su⟩|refine rn 1 ?_
  rintro σ w ⟨AS,kS,sp2,AT,kT,sr2,q2,r2,hSp2,hSr2,hW,hzz,hF⟩;refine J9 hzz 2<|Tc (Le<|((x+1:Nat):Int)) ?_;refine rn 2<|Va ⟨_,?_,x+1,AS,kS,sp2,AT,kT,sr2,q2,r2,O,fX,hSp2,hSr2,hW,Gc,hF⟩;omega
 refine rn 4 ?_;obtain rfl:x=aL la+1:=by_Om
 obtain⟨pb,cup,rfl,rfl,hcp⟩:=hSp.one fX;obtain⟨rb,cur_,rfl,rfl,hcr⟩:=hSr.one fX;have hap:=FR.apart (pre:=[_]) (rest:=[_,_]) (i:=0) hF rfl;have hpr:pb≠rb:=Qr hF.desc (i:=1) (j:=2) rfl rfl Pa;simp only[iZ,List.map_nil,oQ,List.not_mem_nil,or_false,not_or]at hap;have hnq:=λk hk=>(hW.rq.new k hk).2;have hnr:=λk hk=>(hW.rr.new k hk).2;simp only[iZ,List.map_nil,mQ,oQ,List.not_mem_nil,or_false,not_or]at hnq hnr;have hK:Ck w w0.heap.size b1 pb rb la lb Aa Ab k1 k2 kP kR q r (λ_ _=>0) (λ_ _=>0):=⟨hF.heap (i:=0) rfl,(hF.rep hLa.old).weaken (λb hb _=>hb.2),(hF.rep hLb.old).weaken (λb hb _=>hb.2),⟨⟨cup,hF.heap (i:=1) rfl,λi hi=>by rw[hcp i (by simpa[Sq]using hi)];simp[Sq]⟩,hW.rq.row,hW.rq.inj,λi hi=>(hnq i hi).2.1⟩,⟨⟨cur_,hF.heap (i:=2) rfl,λi hi=>by rw[hcr i (by simpa[Sq]using hi)];simp[Sq]⟩,hW.rr.row,hW.rr.inj,λi hi=>(hnr i hi).2.2⟩,⟨hF.ge (i:=0) rfl,hF.ge (i:=1) rfl,hF.ge (i:=2) rfl,λi hi=>(hW.rq.new i hi).1,λi hi=>(hW.rr.new i hi).1⟩,hnq,hnr,hW.ne⟩;have hF:=hF.clear;clear hcp hcr hnq hnr hap hpr hW hSp hSr;refine rn 3<|Tc (Le<|((aL la+1:Nat):Int)) ?_;refine rn 4<|Za (λμ σ w=>∃(i:Nat),∃(P:Nat->Nat->Int),∃(R:Nat->Nat->Int),μ=aL la+1-i/\(i<=aL la+1)/\(Ck w w0.heap.size b1 pb rb la lb Aa Ab k1 k2 kP kR q r P R)/\(RD la lb R i 0)/\(PD la lb P i 0)/\AllEq σ [(0,.slice Aa (aL la) k1),(1,.slice Ab (aL lb) k2),(5,.pointer<|some ⟨b1,0,none⟩),(46,J<|((aL la+1:Nat):Int)),(47,J<|(i:Int))]/\FR w0 [] [] w) _ ⟨0,_,_,O,bZ _,hK,λa b _ _ h=>by omega,λa b _ _ h=>by omega,Gc,hF⟩ ?_;rintro μ σ w ⟨i,P,R,rfl,hi,hK,hRD,hPD,hzz,hF⟩;refine Gh hzz 7 ⟨λhc1=>?_,λhc1=>?_⟩
 ·
  refine rn 14<|Tc (Le<|((aL lb+1:Nat):Int)) ?_;refine rn 4<|Za (λμ σ w=>∃(j:Nat),∃(P:Nat->Nat->Int),∃(R:Nat->Nat->Int),μ=aL lb+1-j/\(j<=aL lb+1)/\(Ck w w0.heap.size b1 pb rb la lb Aa Ab k1 k2 kP kR q r P R)/\(RD la lb R i j)/\(PD la lb P i j)/\AllEq σ [(0,.slice Aa (aL la) k1),(1,.slice Ab (aL lb) k2),(5,.pointer<|some ⟨b1,0,none⟩),(6,J<|(i:Int)),(46,J<|((aL la+1:Nat):Int)),(47,J<|(i:Int)),(52,J<|((aL lb+1:Nat):Int)),(53,J<|(j:Int))]/\FR w0 [] [] w) _ ⟨0,P,R,O,bZ _,hK,hRD,hPD,Gc,hF⟩ ?_;rintro μ σ w ⟨j,P,R,rfl,hj,hK,hRD,hPD,hzz,hF⟩;refine Gh hzz 7 ⟨λhc2=>?_,λhc2=>?_⟩
  ·
   refine rn 10<|Vb (.of [25]) (bQ [0,1,2,3,4,5,6,7,8,9,10,11,12,13,14,15,16,17,18,19,20,21,22]<|.act 23<|.free 24<|.act 25 .nil) hF ?_;intro w hF hE;have hK:=hK.ext hE;refine⟨λwq=>FR w0 [] _ wq/\∃P_,Ck wq w0.heap.size b1 pb rb la lb Aa Ab k1 k2 kP kR q r P_ R,⟨hF,⟨_,hK⟩⟩,?_⟩;refine rn 3 ?_;refine Fa rfl (v:=W rb (aL la+1) kR) (λw hC=>Ma lZ (hx:=rfl) (by obtain⟨_,h_⟩:=hC.2;exact h_.c3)) ?_;refine rn 3<|Wu O (W4<|((aL la-i:Nat):Int))<|Fa O (v:=.pointer<|some ⟨rb,aL la-i,none⟩) (λw hC=>Ua (i:=((aL la-i:Nat):Int)) (aL la-i) Ii O O fX fX fX) ?_;refine Fa rfl (v:=.slice (some ⟨r<|aL la-i,0,none⟩) (aL lb+1)<|aL lb+1) (λw hC=>Ma pZ (hx:=rfl) (by obtain⟨_,h_⟩:=hC.2;exact h_.rest.rowCell fX)) ?_;refine rn 3<|Wu O (W4<|((aL lb-j:Nat):Int)) ?_;refine rn 4<|Wu O (W4<|((aL la-i:Nat):Int)) ?_;refine rn 3<|Wu O (W4<|((aL lb-j:Nat):Int)) ?_;refine Me (cleast_c _ w0.heap.size b1 pb rb la lb Aa Ab k1 k2 kP kR q r P R hK (aL la-i) (aL lb-j) hll fX fX hF.same.size hRa hRb hla hlb (λh=>hRD _ _ fX fX fX) (λh=>hRD _ _ fX fX fX) λh h2=>hRD _ _ fX fX fX) ?_;rintro _ w ⟨P2,rfl,hK2,hPn,hPo,hE⟩;have hF:=hF.touch hE (λb hb=>by obtain⟨i,hi,rfl⟩:=Mm.1 hb;exact⟨λh=>absurd h (by have:=hK.lo.2.2.2.1 i hi;omega),Ca⟩);clear hK hE;have hK:=hK2;clear hK2;refine⟨⟨hF,⟨_,hK⟩⟩,?_⟩;refine Fa O (v:=.pointer<|some ⟨r<|aL la-i,aL lb-j,none⟩) (λw hC=>Ua (i:=((aL lb-j:Nat):Int)) (aL lb-j) Ud O O fX fX fX)<|L5 O hF sZ O O (hK.rest.row (aL la-i) fX) fX (.inr<|hK.lo.2.2.2.2 _ fX) Ca ?_;intro w hF hE hnew;have hK:=hK.putR fX hE hnew;refine rn 4<|Tc (Le<|((j+1:Nat):Int)) ?_;refine rn 2<|Va ⟨_,?_,j+1,P2,_,O,fX,hK,hRD.step fX fX,hPD.step hPn hPo,Gc,hF⟩
   omega
  refine rn 4<|Tc (Le<|((i+1:Nat):Int)) ?_;refine rn 2 ?_;refine Va ⟨_,?_,i+1,P,R,rfl,fX,hK,((by obtain rfl:j=aL lb+1:=fX;exact hRD.row)),((by obtain rfl:j=aL lb+1:=fX;exact hPD.row)),Gc,hF⟩;omega
 refine rn 9 ?_;obtain rfl:i=aL la+1:=by_Om
 exact⟨b1,pb,rb,kP,kR,q,r,P,R,O,hK,λa b ha hb=>hRD a b ha hb fX,λa b h1 h2=>hPD a b h1 h2 fX,hF.same⟩
def E8:Nat->Nat->Nat->List TreeN->List TreeN->List (Int × Int)
  | 0,_,_,_,_=>[]
  | f + 1, i, j, x :: xs, y :: ys =>
    if al Xm pN (x::xs) (y::ys)=pN x y+al Xm pN xs ys then ((i:Int),(j:Int))::E8 f (i+1) (j+1) xs ys
    else if al Xm pN (x::xs) (y::ys)=Xm x+al Xm pN xs (y::ys) then E8 f (i+1) j xs (y::ys)
    else E8 f i (j+1) (x::xs) ys
  | _+1,_,_,_,_=>[]
theorem Vu:∀(f g:Nat)(i j:Nat)(xs ys:List TreeN),aL xs+aL ys<=f->aL xs+aL ys<=g->E8 f i j xs ys=E8 g i j xs ys
  | 0, g, i, j, xs, ys, h, _ => by
    obtain rfl:xs=[]:=List.eq_nil_of_length_eq_zero fX;cases g <;> rfl
  | f + 1, 0, i, j, xs, ys, _, h => by
    obtain rfl:xs=[]:=List.eq_nil_of_length_eq_zero fX;rfl
  | f+1,g+1,i,j,[],ys,_,_=>rfl
  | f+1,g+1,i,j,x::xs,[],_,_=>rfl
  | f + 1, g + 1, i, j, x :: xs, y :: ys, h1, h2 => by
    simp only[kQ]at h1 h2;rw[E8,E8,Vu f g (i+1) (j+1) xs ys fX fX,Vu f g (i+1) j xs (y::ys) jA jA,Vu f g i (j+1) (x::xs) ys jA jA]
def pth(i j:Nat)(xs ys:List TreeN):List (Int × Int):=E8 (aL xs+aL ys) i j xs ys
section
variable {la lb:List TreeN}{i j:Nat}
theorem Nx(h1:i<aL la)(h2:j<aL lb):pth i j (la.drop i) (lb.drop j) =
    if al Xm pN (la.drop i) (lb.drop j)=pN la[i] lb[j]+al Xm pN (la.drop (i+1)) (lb.drop (j+1)) then ((i:Int),(j:Int))::pth (i+1) (j+1) (la.drop (i+1)) (lb.drop (j+1))
    else if al Xm pN (la.drop i) (lb.drop j)=Xm la[i]+al Xm pN (la.drop (i+1)) (lb.drop j) then pth (i+1) j (la.drop (i+1)) (lb.drop j)
    else pth i (j+1) (la.drop i) (lb.drop (j+1)):=by
  unfold pth;rw[List.drop_eq_getElem_cons h1,List.drop_eq_getElem_cons h2];rw[show (aL (la[i]::la.drop (i+1)))+aL (lb[j]::lb.drop (j+1))=(aL (la.drop<|i+1)+aL (lb.drop<|j+1)+1)+1 by simp only[kQ];omega,E8];grind [Vu]
def Ay(h:¬(i<aL la/\j<aL lb):=by omega):pth i j (la.drop i) (lb.drop j)=[]:=by
  unfold pth;by_cases h1:aL la<=i
  ·rw[List.drop_eq_nil_of_le h1]
   generalize (aL ([]:List TreeN))+aL (lb.drop j)=f;cases f <;> rfl
  rw[List.drop_eq_nil_of_le (show aL lb <= j by omega)];generalize (aL (la.drop i))+aL ([]:List TreeN)=f;cases f
  ·rfl
  cases la.drop i <;> rfl
theorem Zw(n m:Nat):∀(f i j:Nat)(xs ys:List TreeN),i+aL xs<=n->j+aL ys<=m->∀z∈E8 f i j xs ys,(i:Int)<=z.1/\z.1<(n:Int)/\(j:Int)<=z.2/\z.2<(m:Int)
  | 0,_,_,_,_,_,_,z,hz=>by cases hz
  | f+1,i,j,[],_,_,_,z,hz=>by cases hz
  | f+1,i,j,_::_,[],_,_,z,hz=>by cases hz
  | f + 1, i, j, x :: xs, y :: ys, h1, h2, z, hz => by
    simp only[kQ]at h1 h2;rw[E8]at hz;split at hz
    ·rcases oQ.1 hz with rfl|hz
     ·simp only;omega
     have:=Zw n m f (i+1) (j+1) xs ys fX fX z hz;omega
    split at hz
    ·have:=Zw n m f (i+1) j xs (y::ys) fX jA z hz;omega
    have:=Zw n m f i (j+1) (x::xs) ys jA fX z hz;omega
end
theorem M0{S:Nat->Prop}{w:World}:∀{m:List (Int × Int)},(∀z∈m,(-9223372036854775808<=z.1/\z.1<=9223372036854775807)/\(-9223372036854775808<=z.2/\z.2<=9223372036854775807))->RepL S w (m.map KB) (G6 m)
  | [],_=>by rw[List.map_nil,RepL];rfl
  | z :: m, h => by
    rw[iZ,RepL];exact⟨Uw z,G6 m,O,rep_pair (h z Ca).1 (h z Ca).2,M0 λy hy=>h y qD⟩
theorem XA(l:List Tree)(A:Option Addr)(c:Nat)(S:Nat->Prop)(w0:World)(hG:Gl w0)(hX:Rep S w0 (.slice (Mb l)) [.slice A (aL l) c])(hok:∀x∈l,Tl x) :
    Calls prog 141 #[.slice A (aL l) c] w0 (Qb λv w'=>∃V,v=.tuple #[V,J (Pe l)]/\Same [] w0 w'):=by grind [Zi,QR]
theorem WB(l:List Tree)(la:List TreeN)(hl:la=l.map Vf)(he:Pe l=0)(A:Option Addr)(c:Nat)(S:Nat->Prop)(w0:World)(hG:Gl w0)(hX:Rep S w0 (.slice (Mb l)) [.slice A (aL l) c])(hok:∀x∈l,Tl x) :
    Calls prog 141 #[.slice A (aL l) c] w0 (Qb λv w'=>∃(A':Option Addr)(c':Nat),v=.tuple #[.slice A' (aL la) c',J 0]/\Rep (Btw w0 w') w' (.slice (la.map Om)) [.slice A' (aL la) c']/\Same [] w0 w'):=by grind [Zi,QR]
def KP(a b:List Tree):Int:=if Pe a=1\/Pe b=1 then 1 else if Pe a=0/\Pe b=0 then 0 else 6
theorem V5(h:Pe l=0):(∀x∈l,Eb x=true)/\aL l<=64/\Y3 l<=512:=by grind [Pe]
def WF(h:Pe l=0)(hok:∀x∈l,Tl x):(∀x∈l.map Vf,Wh x.1 x.2)/\∀x∈l.map Vf,Xm x<=512:=by
  have hy:=V5 h;constructor
  ·intro x hx
   obtain⟨t,ht,rfl⟩:=nQ.1 hx;exact W6 (hy.1 t ht) (hok t ht).2.1
  intro x hx;obtain⟨t,ht,rfl⟩:=nQ.1 hx;have h1:=Rq<|hy.1 t ht;have h2:=(hok t ht).2.1;show (aL (Wj t))<=512;omega
def CkLt(N1 cb pb rb n:Nat)(q r:Nat->Nat):Prop:=cb<N1/\pb<N1/\rb<N1/\∀i,i<n+1->q i<N1/\r i<N1
section
variable {w w':World}{N0 N1 cb pb rb:Nat}{la lb:List TreeN}{Aa Ab:Option Addr}{k1 k2 k3 k4:Nat}{q r:Nat->Nat}{P R:Nat->Nat->Int}
def Ck.lt(h:Ck w N0 cb pb rb la lb Aa Ab k1 k2 k3 k4 q r P R):CkLt w.heap.size cb pb rb (aL la) q r:=by
  obtain⟨_,h1,_⟩:=h.pair.top;obtain⟨_,h2,_⟩:=h.rest.top;exact⟨Ga h.cell,Ga h1,Ga h2,λi hi=>⟨Ga<|h.pair.row i hi,Ga<|h.rest.row i hi⟩⟩
theorem Ck.apart(h:Ck w N0 cb pb rb la lb Aa Ab k1 k2 k3 k4 q r P R)(hl:CkLt N1 cb pb rb (aL la) q r){E:List Nat}(hs:Same E w w')(he:∀b∈E,N1<=b):Ck w' N0 cb pb rb la lb Aa Ab k1 k2 k3 k4 q r P R:=by
  have hlo:=h.lo;have nl:∀x,x<N1->x∉E:=qJ
  exact h.keep hs (λb hb=>by have:=he b hb;have:=hl.1;omega) (nl _ hl.1) (nl _ hl.2.1) (nl _ hl.2.2.1) (λi hi=>nl _ (hl.2.2.2 i hi).1) λi hi=>nl _ (hl.2.2.2 i hi).2
end
theorem rows_no(S S':Nat->Prop)(w0:World)(hG:Gl w0)(x y:List Tree)(A B:Option Addr)(c e:Nat)(hX:Rep S w0 (.slice (Mb x)) [.slice A (aL x) c])(hY:Rep S' w0 (.slice (Mb y)) [.slice B (aL y) e])(hokx:∀z∈x,Tl z)(hoky:∀z∈y,Tl z)(hne:¬(Pe x=0/\Pe y=0)):Calls prog 108 #[.slice A (aL x) c,.slice B (aL y) e] w0 (Qb λv w'=>v=.tuple #[aQ,J 0,J (KP x y)]/\Same [] w0 w'):=by
 refine Ha func108 ntmps108 ?_;intro hF;refine rn 10<|Yb (XA x _ _ _ _ (hG.ext hF.same) (hF.rep hX) hokx) ?_;rintro _ w ⟨V0,rfl,hE⟩;have hF:=hF.ext hE;refine rn 10<|Yb (XA y _ _ _ _ (hG.ext hF.same) (hF.rep hY) hoky) ?_;rintro _ w ⟨V1,rfl,hE⟩;have hF:=hF.ext hE;refine rn 15 ⟨λhg0=>?_,λhg0=>?_⟩;refine rn 15 ?_;exact⟨by rw[KP,uQ qX],hF.same⟩;refine rn 7 ⟨λhc0=>?_,λhc0=>?_⟩;refine rn 8 ?_;exact⟨by rw[KP,uQ qX],hF.same⟩;refine rn 6 ⟨λhg1=>?_,λhg1=>?_⟩;refine rn 15 ?_;exact⟨by rw[KP,tQ qX,tQ qX],hF.same⟩;refine rn 7 ⟨λhc1=>?_,λhc1=>?_⟩;refine rn 8 ?_;exact⟨by rw[KP,tQ qX,tQ qX],hF.same⟩;exact absurd hne qX
def rows_yes(S S':Nat->Prop)(w0:World)(hG:Gl w0)(x y:List Tree)(A B:Option Addr)(c e:Nat)(hX:Rep S w0 (.slice (Mb x)) [.slice A (aL x) c])(hY:Rep S' w0 (.slice (Mb y)) [.slice B (aL y) e])(hokx:∀z∈x,Tl z)(hoky:∀z∈y,Tl z)(la lb:List TreeN)(hla:la=x.map Vf)(hlb:lb=y.map Vf)(hex:Pe x=0)(hey:Pe y=0):Calls prog 108 #[.slice A (aL x) c,.slice B (aL y) e] w0 (Qb λv w'=>∃(Az:Option Addr)(cz:Nat),v=.tuple #[.slice Az (aL (pth 0 0 la lb)) cz,J ((al Xm pN la lb:Nat):Int),J 0]/\Rep (Btw w0 w') w' (X0 (pth 0 0 la lb)) [.slice Az (aL (pth 0 0 la lb)) cz]/\Same [] w0 w'):=by
 have hRa:(∀x∈la,Wh x.1 x.2)/\∀x∈la,Xm x<=512:=by rw[hla];exact WF hex hokx
 have hRb:(∀x∈lb,Wh x.1 x.2)/\∀x∈lb,Xm x<=512:=by rw[hlb];exact WF hey hoky
 have hll:aL la<=64/\aL lb<=64:=by rw[hla,hlb,rQ,rQ];exact⟨(V5 hex).2.1,(V5 hey).2.1⟩
 refine Ha func108 ntmps108 ?_;intro hF;refine rn 10<|Yb (WB x la hla hex _ _ _ _ (hG.ext hF.same) (hF.rep hX) hokx) ?_;rintro _ w ⟨T0,t0,rfl,hT0,hE⟩;have hF:=hF.ext hE;refine rn 10<|Yb (WB y lb hlb hey _ _ _ _ (hG.ext hF.same) (hF.rep hY) hoky) ?_;rintro _ w ⟨T1,t1,rfl,hT1,hE⟩;have hF:=hF.ext hE;have hT0:=hT0.ext hE;refine rn 12<|Da (v:=.bool false) (Gd Vk Pa) ?_;refine rn 2<|Da (v:=.bool false) (Gd Vk Pa) ?_;refine rn 8<|Da (v:=.bool false) (Gd F7 Pa) ?_;refine rn 2<|Da (v:=.bool false) (Gd F7 Pa) ?_;refine rn 12 ?_;obtain⟨N0,hN0⟩:∃N,N=w.heap.size:=⟨_,rfl⟩;refine Yb (reckon_c _ _ _ la lb T0 T1 t0 t1 hT0 hT1 hll hRa.1 hRb.1 hRa.2 hRb.2) ?_;rintro _ w ⟨cb,pb,rb,k3,k4,q,r,P,R,rfl,hK,hR0,hP0,hE⟩;rw[<-hN0]at hK;have hF:=hF.ext hE;have hlt:=hK.lt;obtain⟨N1,hN1⟩:∃N,N=w.heap.size:=⟨_,rfl⟩;rw[<-hN1]at hlt;have hNw:N1<=w.heap.size:=Nat.le_of_eq hN1;clear hE hN0 hN1 hT0 hT1;have hmx:∀x y,al Xm pN (la.drop x) (lb.drop y)<=65536:=λx y=>fQ (al_max (λz hz=>hRa.2 z<|List.mem_of_mem_drop hz) λz hz=>hRb.2 z<|List.mem_of_mem_drop hz) (by simp only[yQ];omega);have hRq:∀a b,a<=aL la->b<=aL lb->0<=R a b/\R a b<=1000000:=λa b ha hb=>by have h1:=hmx a b;rw[hR0 a b ha hb];omega
 have hPq:∀a b (h1:a<aL la) (h2:b<aL lb),0<=P a b/\P a b<=1000000:=λa b h1 h2=>by have h3:pN la[a] lb[b]<=aL la[a].1+aL lb[b].1:=(Ot (ls:=la[a].1) (fs:=la[a].2) (gs:=lb[b].1) (hs:=lb[b].2)).1;have h4:aL la[a].1<=512:=hRa.2 _<|eQ h1;have h5:aL lb[b].1<=512:=hRb.2 _<|eQ h2;rw[hP0 a b h1 h2];omega
 refine rn 16<|Za (λμ σ w=>∃(i:Nat),∃(j:Nat),∃(Ao:Option Addr),∃(co:Nat),∃(so:List (Nat × Obj)),∃(acc:List (Int × Int)),μ=aL la+aL lb-(i+j)/\(i<=aL la)/\(j<=aL lb)/\(SlB 191 2 Ao (aL acc) co (G6 acc) so)/\(Ck w N0 cb pb rb la lb T0 T1 t0 t1 k3 k4 q r P R)/\(N1<=w.heap.size)/\(∀z∈so,N1<=z.1)/\(acc++pth i j (la.drop i) (lb.drop j)=pth 0 0 la lb)/\(aL acc<=i)/\AllEq σ [(7,.slice T0 (aL la) t0),(9,.slice T1 (aL lb) t1),(11,.pointer<|some ⟨cb,0,none⟩),(12,.slice Ao (aL acc) co),(13,J<|(i:Int)),(14,J<|(j:Int))]/\FR w0 [] ([]++(so++[])) w) _ ⟨0,0,none,0,[],[],O,bZ _,bZ _,SlB.nil _ _,hK,hNw,Ca,Ca,bZ _,Gc,hF⟩ ?_;rintro μ σ w ⟨i,j,Ao,co,so,acc,rfl,hi,hj,hSo,hK,hNw,hso,hac,hal,hzz,hF⟩;refine Gh hzz 9 ⟨λhg0=>?_,λhg0=>?_⟩;refine rn 8 ⟨λhc2=>?_,λhc2=>?_⟩;refine rn 8<|Da (v:=W rb (aL la+1) k4) (Ma lZ hK.c3) ?_;refine rn 1<|Da (v:=.pointer<|some ⟨rb,i,none⟩) (Ua (i:=((i:Nat):Int)) (i) Ii O O fX fX fX)<|Da (v:=.slice (some ⟨r i,0,none⟩) (aL lb+1)<|aL lb+1) (Ma pZ<|hK.rest.rowCell fX) ?_;refine rn 1<|Da (v:=.pointer<|some ⟨r i,j,none⟩) (Ua (i:=((j:Nat):Int)) (j) Ud O O fX fX fX)<|Da (v:=J<|R i j) (Ma oZ<|hK.rest.cell fX fX) ?_;refine rn 8<|Ta (OE _ N0 cb pb rb la lb T0 T1 t0 t1 k3 k4 q r P R hK i j hll fX fX (hPq i j fX fX)<|hRq (i+1) (j+1) fX fX) ?_;intro w hF hE;have hK:=hK.ext hE;have hNw:=fQ hNw hE.size;refine rn 5 ⟨λhc3=>?_,λhc3=>?_⟩;refine rn 5<|Da (w':=w) (v:=.agg #[J<|(i:Int),J<|(j:Int)]) Ib ?_;refine rn 1 ?_;intro b1 w hb1 hF hE;have hK:=hK.ext hE;have hNw:=fQ hNw hE.size;refine C_ hSo (len':=aL (acc++[((i:Int),(j:Int))])) (ys:=G6<|acc++[((i:Int),(j:Int))]) Ca (by simp[G6]) ?_;intro A1 c1 o_1 w hS1_o hF hE hnew;have hK:=hK.apart hlt hE (λb hb_=>by obtain⟨z,hz,rfl⟩:=nQ.1 hb_;exact hso z hz)
 have hso:=λz hz=>(hnew z hz).elim (λh=>by obtain⟨z2,hz2,e⟩:=nQ.1 h;rw[<-e];exact hso z2 hz2) (λh=>fQ hNw h);have hNw:=fQ hNw hE.size;refine rn 5<|Tc (Le<|((i+1:Nat):Int)) ?_;refine rn 1<|Tc (Le<|((j+1:Nat):Int)) ?_;refine rn 5 ?_;refine Va ⟨_,?_,i+1,j+1,A1,c1,o_1,acc++[((i:Int),(j:Int))],O,fX,fX,hS1_o,hK,hNw,hso,by rw[sQ,List.singleton_append,<-hac,Nx (la:=la) (lb:=lb) (i:=i) (j:=j) fX fX,uQ zR],by simp only[dQ,kQ,aZ];omega,Gc,hF.su⟩;omega;refine rn 5<|Ta (Ly N0 cb pb rb la lb T0 T1 t0 t1 k3 k4 q r P R hK i j hll (λj h=>hRa.2 _<|eQ h)<|hRq (i+1) j fX fX) ?_;intro w hF hE;have hK:=hK.ext hE;have hNw:=fQ hNw hE.size;refine rn 5 ⟨λhc4=>?_,λhc4=>?_⟩;refine rn 2<|Tc (Le<|((i+1:Nat):Int)) ?_;refine rn 4 ?_;refine Va ⟨_,?_,i+1,j,Ao,co,so,acc,O,fX,fX,hSo,hK,hNw,hso,by rw[<-hac,Nx (la:=la) (lb:=lb) (i:=i) (j:=j) fX fX,tQ zR,uQ bG],fX,Gc,hF⟩;omega;refine rn 2<|Tc (Le<|((j+1:Nat):Int)) ?_;refine rn 4 ?_;refine Va ⟨_,?_,i,j+1,Ao,co,so,acc,O,fX,fX,hSo,hK,hNw,hso,by rw[<-hac,Nx (la:=la) (lb:=lb) (i:=i) (j:=j) fX fX,tQ zR,tQ bG],fX,Gc,hF⟩;omega;refine rn 3<|Vb (.of []) (bQ [0,1,2,3,4,5,6,7,8,9,10,11] .nil) hF ?_;intro w hF hE;have hK:=hK.ext hE;have hNw:=fQ hNw hE.size;refine⟨λwq=>FR w0 [] [] wq/\Ck wq N0 cb pb rb la lb T0 T1 t0 t1 k3 k4 q r P R,⟨hF.sub<|List.nil_sublist _,hK⟩,?_⟩
 refine rn 4 ?_;refine Fa O (v:=W rb (aL la+1) k4) (λw hC=>Ma lZ hC.2.c3)<|Fa O (v:=.pointer<|some ⟨rb,0,none⟩) (λw hC=>Ua (i:=0) 0 Ii O O Pa fX fX)<|Fa O (v:=.slice (some ⟨r 0,0,none⟩) (aL lb+1)<|aL lb+1) (λw hC=>Ma pZ<|hC.2.rest.rowCell fX)<|Fa O (v:=.pointer<|some ⟨r 0,0,none⟩) (λw hC=>Ua (i:=0) 0 Ud O O Pa fX fX)<|Fa O (v:=J<|R 0 0) (λw hC=>Ma oZ<|hC.2.rest.cell fX fX) ?_;refine rn 6 ?_;have he:acc=pth 0 0 la lb:=by rw[<-hac,Ay,qQ]
 have hin:=Zw (aL la) (aL lb) (aL la+aL lb) 0 0 la lb fX fX;rw[he]at hSo;have hrep:=hSo.rep (w0:=w0) (pre:=[]) (post:=[]) hF (RX.plain (ids:=[]) λS=>M0 (m:=pth 0 0 la lb) (λz hz=>by have:=hin z hz;omega)) Ca;exact⟨Ao,co,by rw[he,hR0 0 0 fX fX];rfl,hrep,hF.same⟩;refine rn 11<|Vb (.of []) (bQ [0,1,2,3,4,5,6,7,8,9,10,11] .nil) hF ?_;intro w hF hE;have hK:=hK.ext hE;have hNw:=fQ hNw hE.size;refine⟨λwq=>FR w0 [] [] wq/\Ck wq N0 cb pb rb la lb T0 T1 t0 t1 k3 k4 q r P R,⟨hF.sub<|List.nil_sublist _,hK⟩,?_⟩;refine rn 4 ?_;refine Fa O (v:=W rb (aL la+1) k4) (λw hC=>Ma lZ hC.2.c3)<|Fa O (v:=.pointer<|some ⟨rb,0,none⟩) (λw hC=>Ua (i:=0) 0 Ii O O Pa fX fX)<|Fa O (v:=.slice (some ⟨r 0,0,none⟩) (aL lb+1)<|aL lb+1) (λw hC=>Ma pZ<|hC.2.rest.rowCell fX)<|Fa O (v:=.pointer<|some ⟨r 0,0,none⟩) (λw hC=>Ua (i:=0) 0 Ud O O Pa fX fX)<|Fa O (v:=J<|R 0 0) (λw hC=>Ma oZ<|hC.2.rest.cell fX fX) ?_;refine rn 6 ?_;have he:acc=pth 0 0 la lb:=by rw[<-hac,Ay,qQ]
 have hin:=Zw (aL la) (aL lb) (aL la+aL lb) 0 0 la lb fX fX;rw[he]at hSo;have hrep:=hSo.rep (w0:=w0) (pre:=[]) (post:=[]) hF (RX.plain (ids:=[]) λS=>M0 (m:=pth 0 0 la lb) (λz hz=>by have:=hin z hz;omega)) Ca;exact⟨Ao,co,by rw[he,hR0 0 0 fX fX];rfl,hrep,hF.same⟩
def Cl(N:Nat)(f:Nat->Value):Array Value:=((List.range N).map f).toArray
def MM(N:Nat)(f:Nat->Value):(Cl N f).size=N:=by simp[Cl]
def JB{N k:Nat}{f:Nat->Value}(h:k<N):(Cl N f)[k]? = some (f k):=by simp[Cl,h]
def Ew(f:Nat->Value)(k:Nat)(v:Value):Nat->Value:=λx=>if x=k then v else f x
def CR(f:Nat->Value)(k:Nat)(v:Value):Ew f k v k=v:=uQ rfl
def setV_ne{f:Nat->Value}{k x:Nat}(h:x≠k):Ew f k v x=f x:=tQ h
theorem VT{f:Nat->Value}{k:Nat}(h:f k=v):Ew f k v=f:=by grind [Ew]
theorem XV{N k:Nat}{f:Nat->Value}(u v:Value):putA (Cl N (Ew f k u)) k [v]=Cl N (Ew f k v):=by grind [putA,Cl,Ew]
theorem DX(N:Nat):(List.replicate N (Value.slice none 0 0)).toArray=Cl N λ_=>aQ:=by grind [Cl]
def rng(j k:Nat):List Int:=(List.range' j (k-j)).map λi:Nat=>(i:Int)
def rng_self(j:Nat):rng j j=[]:=by simp[rng]
def U4(j k:Nat):aL (rng j k)=k-j:=by simp[rng]
def rng_succ{j k:Nat}(h:j<=k):rng j (k+1)=rng j k++[(k:Int)]:=by
  unfold rng;rw[show k+1-j=k-j+1 by omega,List.range'_1_concat,jQ,show j+(k-j)=k by omega];rfl
theorem rng_max(j k:Nat):rng j (max j k)=rng j k:=by grind [rng]
theorem rng_in{j k:Nat}:∀z∈rng j k,(j:Int)<=z/\z<(k:Int):=λz hz=>by
  obtain⟨i,hi,rfl⟩:=nQ.1 hz;grind
def CZ(w0:World)(N g ob jb vb tt j:Nat)(hd:Nat->Value)(acc:List Int)(A:Option Addr)(c:Nat)(sg:List (Nat × Obj))(hg:g<N)(hN:N<=65)(hto:tt<=64)(hj1:j<=1000)(hlen:aL acc<=100000)(hob:w0.heap[ob]? = some (.cells (Cl N hd) 42))(hjb:w0.heap[jb]? = some (.cells #[J (j:Nat)] 3))(hvb:w0.heap[vb]? = some (.cells #[W ob N N] 110))(hh:hd g=.slice A (aL acc) c)(hS:SlB 3 1 A (aL acc) c (OU acc) sg)(hsg:∀z∈sg,w0.heap[z.1]? = some z.2/\z.1≠ob/\z.1≠jb/\z.1≠vb)(hne:jb≠ob/\vb≠ob/\vb≠jb):Calls prog 146 #[J ((g:Nat):Int),J ((tt:Nat):Int),.pointer (some ⟨jb,0,none⟩),.pointer (some ⟨vb,0,none⟩)] w0 (Qb λv w'=>∃(A':Option Addr)(c':Nat)(sg':List (Nat × Obj)),v=.tuple #[]/\w'.heap[ob]? = some (.cells (Cl N (Ew hd g (.slice A' (aL (acc++rng j tt)) c'))) 42)/\w'.heap[jb]? = some (.cells #[J ((max j tt:Nat):Int)] 3)/\w'.heap[vb]? = some (.cells #[W ob N N] 110)/\SlB 3 1 A' (aL (acc++rng j tt)) c' (OU (acc++rng j tt)) sg'/\(∀z∈sg',w'.heap[z.1]? = some z.2/\z.1≠ob/\z.1≠jb/\z.1≠vb/\(z.1∈sg.map (·.1)\/w0.heap.size<=z.1))/\Same ([ob,jb,vb]++sg.map (·.1)) w0 w'):=by
 refine Wb func146 ntmps146 O O ?_;have hF:FR w0 ([ob,jb,vb]++sg.map (·.1)) ([(ob,.cells (Cl N<|Ew hd g<|.slice A (aL acc) c) 42),(jb,.cells #[J<|(j:Nat)] 3),(vb,.cells #[W ob N N] 110)]++(sg++[])) w0:=FR.open_ (λz hz=>by simp only[qQ,mQ,oQ,List.not_mem_nil,or_false]at hz ⊢;rcases hz with (rfl|rfl|rfl)|hz;(exact⟨by rw[VT hh];exact hob,Ca⟩);(exact⟨hjb,Ca⟩);(exact⟨hvb,Ca⟩);(exact⟨(hsg z hz).1,.inr<|List.mem_map_of_mem hz⟩)) (by rw[qQ,List.pairwise_append];refine⟨by simp[hne.1,hne.2.1,hne.2.2],hS.pw,λz hz y hy=>?_⟩;have h:=hsg y hy;simp only[oQ,List.not_mem_nil,or_false]at hz;rcases hz with rfl|rfl|rfl;(exact h.2.1);(exact h.2.2.1);(exact h.2.2.2));refine rn 1 (Za (λμ σ w=>∃(q:Nat),∃(Ax:Option Addr),∃(cx:Nat),∃(so:List (Nat × Obj)),∃(ac:List Int),μ=tt-q/\(j<=q/\(q<=tt\/q=j))/\(SlB 3 1 Ax (aL ac) cx (OU ac) so)/\(ac=acc++rng j q)/\(∀z∈so,z.1∈sg.map (·.1)\/w0.heap.size<=z.1)/\(w0.heap.size<=w.heap.size)/\AllEq σ [(0,J<|(g:Nat)),(1,J<|(tt:Nat)),(2,.pointer<|some ⟨jb,0,none⟩),(3,.pointer<|some ⟨vb,0,none⟩)]/\FR w0 ([ob,jb,vb]++sg.map (·.1)) ([(ob,.cells (Cl N<|Ew hd g<|.slice Ax (aL ac) cx) 42),(jb,.cells #[J<|(q:Nat)] 3),(vb,.cells #[W ob N N] 110)]++(so++[])) w) _ ⟨j,A,c,sg,acc,O,fX,hS,by rw[rng_self,qQ],λz hz=>.inl<|List.mem_map_of_mem hz,hF.same.size,Gc,hF⟩ ?_);rintro μ σ w ⟨q,Ax,cx,so,ac,rfl,hq,hSo,hac,hso,hF0,hzz,hF⟩;refine Gh hzz 9 ⟨λhc0=>?_,λhc0=>?_⟩;refine rn 4<|Vb (.of [10]) (bQ [0,1,2,3,4,5,6]<|.act 7<|.act 8<|.free 9<|.act 10 .nil) hF ?_;intro w hF hE;have hF0:=fQ hF0 hE.size;refine⟨λwq=>FR w0 ([ob,jb,vb]++sg.map (·.1)) [(ob,.cells (Cl N<|Ew hd g<|.slice Ax (aL ac) cx) 42),(jb,.cells #[J<|(q:Nat)] 3),(vb,.cells #[W ob N N] 110)] wq,hF.mid 0 3,?_⟩;refine rn 4<|Fa O (v:=.pointer<|some ⟨ob,g,none⟩) (λw hC=>Ua (i:=((g:Nat):Int)) (g) Ii O O fX fX fX) ?_
 refine Fa O (v:=.slice Ax (aL ac) cx) (λw hC=>Ma pZ (hx:=O) (by rw[Ra<|hC.heap (i:=0) O,JB hg,CR]))<|rn 2 ?_;intro b1 w hb1 hF hE;have hF0:=fQ hF0 hE.size;refine D4 hSo (len':=aL (ac++[(q:Int)])) (ys:=OU<|ac++[(q:Int)]) Ca (by simp[OU]) ?_ (h63:=by simp only[maxLen];have:=xQ List.length hac;simp only[dQ,U4]at this;omega) (hbytes:=by have:=xQ List.length hac;simp only[dQ,U4]at this;omega);intro A0 c0 o_0 w hS0_o hF hE hnew;have hso:∀z∈o_0,z.1∈sg.map (·.1)\/w0.heap.size<=z.1:=λz hz=>(hnew z hz).elim (λh=>by obtain⟨z2,hz2,e⟩:=nQ.1 h;rw[<-e];exact hso z2 hz2) (λh=>.inr<|fQ hF0 h);have hF0:=fQ hF0 hE.size;refine Fa O (v:=.pointer<|some ⟨ob,g,none⟩) (λw hC=>Ua (i:=((g:Nat):Int)) (g) Ii O O fX fX fX) ?_;refine CG O 1 (l:=[.slice A0 (aL (ac++[(q:Int)])) c0]) (cs':=Cl N<|Ew hd g<|.slice A0 (aL (ac++[(q:Int)])) c0) hF sizeOf42 O O O Cm O (by rw[MM];simp only[List.length_singleton];omega) (XV _ _) ?_;intro w hF hE;have hF0:=fQ hF0 hE.size;have hF:FR w0 ([ob,jb,vb]++sg.map (·.1)) ([(b1,.cells #[J<|(q:Nat)] 3),(ob,.cells (Cl N<|Ew hd g<|.slice A0 (aL (ac++[(q:Int)])) c0) 42),(jb,.cells #[J<|(q:Nat)] 3),(vb,.cells #[W ob N N] 110)]++(o_0++[])) w:=hF;refine rn 5<|Tc (Le<|((q+1:Nat):Int)) ?_;refine rn 1 ?_;intro w hF hE;have hF0:=fQ hF0 hE.size;refine rn 1<|Va ⟨_,?_,q+1,A0,c0,o_0,ac++[(q:Int)],O,fX,hS0_o,by rw[rng_succ fX,hac,sQ],hso,hF.same.size,Gc,hF.su⟩;omega;refine rn 2 ?_;obtain rfl:q=max j tt:=by_Om
 rw[rng_max]at hac;subst hac;have hps:=FR.apart (pre:=[_,_,_]) (rest:=so++[]) (i:=0) hF rfl;have hpj:=FR.apart (pre:=[_,_,_]) (rest:=so++[]) (i:=1) hF rfl;have hpv:=FR.apart (pre:=[_,_,_]) (rest:=so++[]) (i:=2) hF rfl;rw[qQ]at hps hpj hpv;exact⟨Ax,cx,so,O,hF.heap (i:=0) O,hF.heap (i:=1) O,hF.heap (i:=2) O,hSo,λz hz=>⟨(hF.own z qA).1,λe=>hps<|e▸List.mem_map_of_mem hz,λe=>hpj<|e▸List.mem_map_of_mem hz,λe=>hpv<|e▸List.mem_map_of_mem hz,hso z hz⟩,hF.same⟩
def Vc(m:List (Nat × Nat)):List (Int × Int):=m.map λz=>((z.1:Int),(z.2:Int))
def N_(m:List (Nat × Nat)):aL (Vc m)=aL m:=by simp[Vc]
def Qu{m:List (Nat × Nat)}{i:Nat}(h:i<aL (Vc m))(h2:i<aL m):(Vc m)[i]=((m[i].1:Int),(m[i].2:Int)):=by simp[Vc]
def YL{β:Type}(f:Nat->β)(k:Nat)(v:β):Nat->β:=λx=>if x=k then v else f x
def Bm(f:Nat->β)(k:Nat)(v:β):YL f k v k=v:=uQ rfl
def Zh{f:Nat->β}{k x:Nat}{v:β}(h:x≠k):YL f k v x=f x:=tQ h
def Rg(n size:Nat):List (Nat × Nat)->Nat->(Nat->List Int)->Nat->List Int
  | [],j,gp=>YL gp n (gp n++rng j size)
  | z::m,j,gp=>Rg n size m (z.2+1) (YL gp z.1 (gp z.1++rng j z.2))
structure Gp (w0 w:World) (N ob jb vb:Nat) (hd:Nat->Value) (gp:Nat->List Int) (sg:Nat->List (Nat × Obj)) (j:Nat):Prop where
  top:w.heap[ob]? = some (.cells (Cl N hd) 42)
  cj:w.heap[jb]? = some (.cells #[J (j:Nat)] 3)
  cv:w.heap[vb]? = some (.cells #[W ob N N] 110)
  row:∀g,g<N->∃A c,hd g=.slice A (aL (gp g)) c/\SlB 3 1 A (aL (gp g)) c (OU (gp g)) (sg g)
  mem:∀g,g<N->∀z∈sg g,w.heap[z.1]? = some z.2/\w0.heap.size<=z.1/\z.1≠ob/\z.1≠jb/\z.1≠vb
  apart:∀g g',g<N->g'<N->g≠g'->∀z∈sg g,∀y∈sg g',z.1≠y.1
  new:w0.heap.size<=ob/\w0.heap.size<=jb/\w0.heap.size<=vb
  ne:jb≠ob/\vb≠ob/\vb≠jb
section
variable {w0 w w':World}{N ob jb vb j:Nat}{hd:Nat->Value}{gp:Nat->List Int}{sg:Nat->List (Nat × Obj)}
def Gp.keep(h:Gp w0 w N ob jb vb hd gp sg j){E:List Nat}(hs:Same E w w')(h1:ob∉E)(h2:jb∉E)(h3:vb∉E)(h4:∀g,g<N->∀z∈sg g,z.1∉E):Gp w0 w' N ob jb vb hd gp sg j :=
  ⟨(hs.block _ (Ga h.top) h1).trans h.top,(hs.block _ (Ga h.cj) h2).trans h.cj,(hs.block _ (Ga h.cv) h3).trans h.cv,h.row,
    λg hg z hz=>⟨(hs.block _ (Ga (h.mem g hg z hz).1)<|h4 g hg z hz).trans (h.mem g hg z hz).1,(h.mem g hg z hz).2⟩,h.apart,h.new,h.ne⟩
def Gp.ext(h:Gp w0 w N ob jb vb hd gp sg j)(hs:Same [] w w'):Gp w0 w' N ob jb vb hd gp sg j:=h.keep hs Ca Ca Ca (λ_ _ _ _=>by simp)
def Gp.setj(h:Gp w0 w N ob jb vb hd gp sg j){k:Nat}(hs:Same [jb] w w')(hn:w'.heap[jb]? = some (.cells #[J (k:Nat)] 3)):Gp w0 w' N ob jb vb hd gp sg k :=
  ⟨(hs.block _ (Ga h.top) (by simpa using λe=>h.ne.1 e.symm)).trans h.top,hn,(hs.block _ (Ga h.cv) (aS h.ne.2.2)).trans h.cv,h.row,
    λg hg z hz=>⟨(hs.block _ (Ga (h.mem g hg z hz).1) (by simpa using (h.mem g hg z hz).2.2.2.1)).trans (h.mem g hg z hz).1,(h.mem g hg z hz).2⟩,h.apart,h.new,h.ne⟩
def Gp.fill(h:Gp w0 w N ob jb vb hd gp sg j){g k j':Nat}(hg:g<N){A':Option Addr}{c':Nat}{sg':List (Nat × Obj)}(h1:w'.heap[ob]? = some (.cells (Cl N (Ew hd g (.slice A' (aL (gp g++rng j k)) c'))) 42))(h2:w'.heap[jb]? = some (.cells #[J (j':Nat)] 3))
    (h3:w'.heap[vb]? = some (.cells #[W ob N N] 110)) (h4:SlB 3 1 A' (aL (gp g++rng j k)) c' (OU (gp g++rng j k)) sg') (h5:∀z∈sg',w'.heap[z.1]? = some z.2/\z.1≠ob/\z.1≠jb/\z.1≠vb/\(z.1∈(sg g).map (·.1)\/w.heap.size<=z.1))
    (hs:Same ([ob,jb,vb]++(sg g).map (·.1)) w w') (hw:w0.heap.size<=w.heap.size):Gp w0 w' N ob jb vb (Ew hd g (.slice A' (aL (gp g++rng j k)) c')) (YL gp g (gp g++rng j k)) (YL sg g sg') j':=by
  have hnew:∀z∈sg',w0.heap.size<=z.1:=λz hz=>(h5 z hz).2.2.2.2.elim (λhm=>by obtain⟨y,hy,e⟩:=nQ.1 hm;rw[<-e];exact (h.mem g hg y hy).2.1) (λhl=>fQ hw hl);have hoff:∀g',g'<N->g'≠g->∀y∈sg g',∀z∈sg',y.1≠z.1:=λg' hg' hne y hy z hz e=>(h5 z hz).2.2.2.2.elim (λhm=>by obtain⟨x,hx,e2⟩:=nQ.1 hm;exact h.apart g' g hg' hg hne y hy x hx<|e.trans e2.symm) (λhl=>by have:=Ga (h.mem g' hg' y hy).1;omega);refine⟨h1,h2,h3,λg' hg'=>?_,λg' hg' z hz=>?_,λa b ha hb hab z hz y hy=>?_,h.new,h.ne⟩
  ·by_cases e : g' = g
   ·subst e
    rw[CR,Bm,Bm];exact⟨A',c',O,h4⟩
   rw[setV_ne e, Zh e, Zh e];exact h.row g' hg'
  ·by_cases e : g' = g
   ·subst e
    rw[Bm]at hz;exact⟨(h5 z hz).1,hnew z hz,(h5 z hz).2.1,(h5 z hz).2.2.1,(h5 z hz).2.2.2.1⟩
   rw[Zh e]at hz;have hm:=h.mem g' hg' z hz;refine⟨(hs.block _ (Ga hm.1) λhx=>?_).trans hm.1,hm.2⟩;rcases mQ.1 hx with hx|hx
   ·simp only[oQ, List.not_mem_nil, or_false]at hx
    rcases hx with hx|hx|hx
    ·exact hm.2.2.1 hx
    ·exact hm.2.2.2.1 hx
    exact hm.2.2.2.2 hx
   obtain⟨y, hy, e2⟩ := nQ.1 hx;exact h.apart g' g hg' hg e z hz y hy e2.symm
  by_cases ea : a = g
  ·subst ea
   rw[Bm]at hz;rw[Zh λq=>hab q.symm]at hy;exact λe=>hoff b hb (λq=>hab q.symm) y hy z hz e.symm
  rw[Zh ea]at hz;by_cases eb:b=g
  ·subst eb
   rw[Bm]at hy;exact hoff a ha ea z hz y hy
  rw[Zh eb]at hy;exact h.apart a b ha hb hab z hz y hy
def M3(N:Nat)(gp:Nat->List Int):D:=.slice ((List.range N).map λg=>.slice ((gp g).map Pd))
theorem N6{S:Nat->Prop}:∀(N:Nat)(d:Nat->D)(f:Nat->Value),(∀g,g<N->Rep S w (d g) [f g])->RepL S w ((List.range N).map d) ((List.range N).map f)
  | 0,d,f,_=>RepL.nil_mk
  | N + 1, d, f, h => by
    rw[List.range_succ,jQ,jQ];exact RepL.append (N6 N d f λg hg=>h g fX) (by rw[iZ,List.map_nil,iZ,List.map_nil,RepL];exact⟨[f N],[],O,h N fX,RepL.nil_mk⟩)
theorem Gp.rep(h:Gp w0 w N ob jb vb hd gp sg j)(hN:N<=1000)(hb:∀g,g<N->∀z∈gp g,-9223372036854775808<=z/\z<=9223372036854775807):Rep (Btw w0 w) w (M3 N gp) [W ob N N]:=by
  refine Rep.slice_mk Ca (gQ _) fX λ_=>⟨_,O,(List.range N).map hd,λi hi=>⟨?_,h.new.1,Ga h.top,_,_,h.top⟩,N6 N _ _ λg hg=>?_⟩
  ·have hi' : i<N := by grind
   rw[Qe,Nat.zero_add,Ra h.top,JB hi'];simp
  obtain⟨A, c, e, hS⟩ := h.row g hg;rw[e];refine hS.repOf (λz hz=>?_) (Hq<|hb g hg) Ca;have hm:=h.mem g hg z hz;obtain⟨cur,he⟩:=hS.typ.2 z hz;exact⟨hm.1,hm.2.1,Ga hm.1,cur,3,by rw[hm.1,he]⟩
end
theorem JG{n size B:Nat}(hs:size<=B):∀(m:List (Nat × Nat))(j:Nat)(gp:Nat->List Int),(∀z∈m,z.2<=B)->(∀g,∀z∈gp g,(0:Int)<=z/\z<(B:Int))->∀g,∀z∈Rg n size m j gp g,(0:Int)<=z/\z<(B:Int)
  | [], j, gp, _, h, g, z, hz => by
    rw[Rg]at hz;by_cases e:g=n
    ·subst e
     rw[Bm]at hz;rcases mQ.1 hz with hz|hz
     ·exact h g z hz
     have:=rng_in z hz;omega
    rw[Zh e]at hz;exact h g z hz
  | y :: m, j, gp, hm, h, g, z, hz => by
    rw[Rg]at hz;refine JG hs m _ _ (λx hx=>hm x zT) (λg' x hx=>?_) g z hz;have hy:=hm y Ca;by_cases e:g'=y.1
    ·subst e
     rw[Bm]at hx;rcases mQ.1 hx with hx|hx
     ·exact h _ x hx
     have:=rng_in x hx;omega
    rw[Zh e]at hx;exact h g' x hx
section
variable {P:Program}{R:Exit->Act->World->Prop}{n:Nat}{k:Kt}{s:Nat->Value}{w:World}{ops rest:List Oper}
variable {ty:TypeId}{pos:String}{aft:Array Edge}{g:Option (Nat × Bool)}{w0:World}{Ds:List Nat}{bs:List (Nat × Obj)}
theorem o_storeO{t T:TypeId}{x y:Operand}{off:Nat}{l l':List Value}{u:Value}(v:Value)(hF:FR w0 Ds bs w)(hs:∀w,(sizeOf t).run P w=.ok 1 w)(hx:ev n s x=.pointer (some ⟨b,off,none⟩))(hy:ev n s y=v)(hh:w.heap[b]? = some (.cells l.toArray T))(hc:AtI off l u v l')(hD:b∈Ds\/w0.heap.size<=b)(hn:∀p∈bs,p.1≠b)
    (h:∀w',FR w0 Ds bs w'->Same [b] w w'->w'.heap[b]? = some (.cells l'.toArray T)->Og P R n ops k rest s w') (hv:v.cells=#[v]:=by rfl) (ho:one v=true:=by rfl)
    (hw:Ka ops n s ⟨none,.store t x y,ty,pos,aft,g⟩=true:=by rfl):Og P R n ops k (⟨none,.store t x y,ty,pos,aft,g⟩::rest) s w:=by
  have hsp:=Hg b off (fz:=(0,0)) [v] 0 w l.toArray hh;rw[Nat.add_zero,Ss,hc.set]at hsp;refine Nt (Ku (l:=[v]) hs hx hy hv (aS ho) λi hi=>?_) (h (putCells w ⟨b,off,none⟩ 0 [v]) (hF.touch hsp.2 λb' hb=>?_) hsp.2 hsp.1) hw
  ·obtain rfl : i = 0 := by simp at hi;omega
   rw[Mn,Ra hh];exact⟨⟨u,by simpa using hc.get⟩,Yg hh⟩
  grind
end
def Yq:List (Nat × Nat)->(Nat->Int)->Nat->Int
  | [],f=>f
  | z::m,f=>Yq m (Nf f z.1 (z.2:Int))
theorem WQ{B:Int}:∀(m:List (Nat × Nat))(f:Nat->Int),(∀z∈m,(z.2:Int)<B)->(∀k,-1<=f k/\f k<B)->∀k,-1<=Yq m f k/\Yq m f k<B
  | [],f,_,h,k=>h k
  | z :: m, f, hm, h, k => WQ m _ (λy hy => hm y qD) (λk' => by
    have hz:=hm z Ca;by_cases e:k'=z.1
    ·subst e;rw[Ju];omega
    rw[Wr e];exact h k') k
theorem C9{w0 w:World}{n:Nat}{f:Nat->Int}(h:w.heap[b]? = some (.cells (Nc n f) 3))(hb:w0.heap.size<=b)(hn:n<=1000000)(hf:∀k,k<n->-9223372036854775808<=f k/\f k<=9223372036854775807):Rep (Btw w0 w) w (.slice (((List.range n).map f).map Pd)) [W b n n]:=by
  refine Rep.slice_mk Ca (gQ _) fX λ_=>⟨_,O,((List.range n).map f).map λs=>Value.int .i64 s,λi hi=>⟨?_,hb,Ga h,_,_,h⟩,Hq λs hs=>?_⟩
  ·have hi' : i<n := by grind
   rw[Qe,Nat.zero_add,Ra h,Jl hi'];simp
  grind
def gaps_yes(S:Nat->Prop)(w0:World)(n:Nat)(mp:List (Nat × Nat))(A:Option Addr)(c:Nat)(hX:Rep S w0 (X0 (Vc mp)) [.slice A (aL (Vc mp)) c])(hr:Kv n (Vc mp)=true)(hn:n<=64)(hm:aL mp<=100)(size:Nat)(hsz:size<=64)(hmp:∀z∈mp,z.1<n/\z.2<size):Calls prog 109 #[J ((n:Nat):Int),.slice A (aL (Vc mp)) c,J ((size:Nat):Int)] w0 (Qb λv w'=>∃ob:Nat,v=.tuple #[W ob (n+1) (n+1),.bool true]/\Rep (Btw w0 w') w' (M3 (n+1) (Rg n size mp 0 λ_=>[])) [W ob (n+1) (n+1)]/\Same [] w0 w'):=by
 have hcl:=N_ mp;have hXl:=hX.pairs_len;refine Ha func109 ntmps109 ?_;intro hF;refine rn 8<|Of (λσ w=>AllEq σ [(0,J<|(n:Nat)),(1,.slice (A) (aL (Vc mp)) c),(2,J<|(size:Nat)),(40,.bool false)]/\FR w0 [] [] w) ?_ ?_;refine rn 3<|Ta (Zg (v':=.bool true) (MH _ _ (n:Int) (Vc mp) A c<|hF.rep hX) (by rw[hr])) ?_;rintro w hF -;refine rn 3<|Da (v:=.bool false) (Gd (CQ O O) fX) ?_;refine rn 3<|Da (v:=.bool false) (Gd (NQ O O) fX) ?_;refine rn 7 ⟨λhg0=>?_,λhg0=>?_⟩;refine rn 3<|Tc (W4<|((aL (Vc mp)-1:Nat):Int)) ?_;obtain⟨ad1,hA1,hk1,hx1⟩:=hX.pair_elem (i:=(aL (Vc mp)-1)) fX;refine Da (v:=.pointer<|some<|ad1.add<|(aL (Vc mp)-1)*2) (Ea (i:=((aL (Vc mp)-1:Nat):Int)) S7 hA1)<|Da (v:=.pointer<|some<|(ad1.add<|(aL (Vc mp)-1)*2).add 1) (He (a:=ad1.add<|(aL (Vc mp)-1)*2) A7)<|Da (v:=J<|((Vc mp)[aL (Vc mp)-1]).2) (Ma oZ<|hF.cell0<|hk1 1 Pt) ?_;refine rn 1 ?_;refine Da (v:=.bool false) (Gd (x_geq O O) zX) ?_;refine rn 3 ?_;exact Va ⟨Gc,hF⟩;refine rn 12 ?_;exact Va ⟨Gc,hF⟩;rintro σ w ⟨hzz,hF⟩;refine J9 hzz 7<|Tc (Le<|((n+1:Nat):Int)) ?_;refine Tj (v:=λb=>W b (n+1)<|n+1) (o:=.cells (List.replicate (n+1) aQ).toArray 42) hF (BD (z:=aQ) JO Ib O O O fX Pa) ?_;rintro b1 w hb1 hF -;refine rn 1 ?_;rintro b2 w hb2 hF -;refine rn 5 ?_;rintro b3 w hb3 hF -;refine rn 4<|Da (v:=.func (.func 146) #[] #[.pointer<|some ⟨b3,0,none⟩,.pointer<|some ⟨b2,0,none⟩]) Ui ?_;refine rn 5 ?_;rw[DX<|n+1]at hF;have hG_:Gp w0 w (n+1) b1 b3 b2 (λ_=>aQ) (λ_=>[]) (λ_=>[]) 0:=⟨hF.heap (i:=2) rfl,hF.heap (i:=0) rfl,hF.heap (i:=1) rfl,λg _=>⟨none,0,rfl,SlB.nil _ _⟩,λg _ z hz=>(by cases hz),λ_ _ _ _ _ z hz=>(by cases hz),⟨hF.ge (i:=2) rfl,hF.ge (i:=0) rfl,hF.ge (i:=1) rfl⟩,⟨Qr hF.desc (i:=0) (j:=2) rfl rfl Pa,Qr hF.desc (i:=1) (j:=2) rfl rfl Pa,Qr hF.desc (i:=1) (j:=0) rfl rfl Pa⟩⟩
 have hF:=hF.clear;refine rn 7<|Za (λμ σ w=>∃(t:Nat),∃(hd:Nat->Value),∃(gp:Nat->List Int),∃(sg:Nat->List (Nat × Obj)),∃(j:Nat),μ=aL mp-t/\(t<=aL mp)/\(Gp w0 w (n+1) b1 b3 b2 hd gp sg j)/\(Rg n size (mp.drop t) j gp=Rg n size mp 0 λ_=>[])/\(∀g,g<n+1->aL (gp g)<=64*t)/\(j<=64)/\AllEq σ [(0,J<|(n:Nat)),(2,J<|(size:Nat)),(8,.pointer<|some ⟨b2,0,none⟩),(9,.pointer<|some ⟨b3,0,none⟩),(10,.func (.func 146) #[] #[.pointer<|some ⟨b3,0,none⟩,.pointer<|some ⟨b2,0,none⟩]),(45,.slice (A) (aL (Vc mp)) c),(46,J<|(aL (Vc mp):Nat)),(47,J<|(t:Int))]/\FR w0 [] [] w) _ ⟨0,_,_,_,0,O,bZ _,hG_,O,λg _=>by simp,fX,Gc,hF⟩ ?_;rintro μ σ w ⟨t,hd,gp,sg,j,rfl,ht,hG_,hrun,hlen,hj,hzz,hF⟩;refine Gh hzz 7 ⟨λhc1=>?_,λhc1=>?_⟩;refine rn 5 ?_;obtain⟨a,b,hmt⟩:∃a b:Nat,mp[t]=(a,b):=⟨_,_,rfl⟩;have hab:(Vc mp)[t]=((a:Int),(b:Int)):=by rw[Qu fX fX,hmt]
 have hab1:=hmp _<|List.getElem_mem (l:=mp) (n:=t) fX;rw[hmt]at hab1;refine rn 1 ?_;obtain⟨ad2,hA2,hk2,hx2⟩:=hX.pair_elem (i:=t) fX;rw[hab]at hk2 hx2;refine Da (v:=.pointer<|some<|ad2.add<|t*2) (Ea (i:=(t:Int)) S7 hA2)<|Da (v:=.agg #[J<|(((a:Int),(b:Int))).1,J<|(((a:Int),(b:Int))).2]) (Qa (l:=Uw ((a:Int),(b:Int))) isAgg191 sizeOf191 O O<|hF.cells0 hk2) ?_;refine rn 1 ?_;intro b4 w hb4 hF hE;have hn_:b1≠b4/\b3≠b4/\b2≠b4/\∀z∈sg a,z.1≠b4:=by have e1:=Ga hG_.top;have e2:=Ga hG_.cj;have e3:=Ga hG_.cv;exact⟨by_Om,by_Om,by_Om,λz hz=>by have:=Ga (hG_.mem a fX z hz).1;omega⟩
 replace hG_:=hG_.ext hE;refine rn 9 ?_;obtain⟨Ax,cx,hrow⟩:=hG_.row (a) fX;have hF0:=hF.same.size;refine Ed (CZ _ (n+1) (a) b1 b3 b2 (b) j hd (gp a) Ax cx (sg a) fX fX fX fX (by have:=hlen (a) fX;omega) hG_.top hG_.cj hG_.cv hrow.1 hrow.2 (λz hz=>by have h:=hG_.mem (a) fX z hz;exact⟨h.1,h.2.2⟩) hG_.ne) (So O GY O O O) ?_;rintro _ w ⟨A2,c2,sg2,rfl,h1,h2,h3,h4,h5,hE⟩;have hG2:=hG_.fill (g:=a) fX h1 h2 h3 h4 h5 hE hF0;have hF:=hF.touch hE (λy hy=>by rcases mQ.1 hy with hy|hy;(simp only[oQ,List.not_mem_nil,or_false]at hy;have hnw:=hG_.new;refine⟨λh=>absurd h (by rcases hy with rfl|rfl|rfl <;> omega),?_⟩;intro z hz;obtain rfl:=pQ.1 hz;rcases hy with rfl|rfl|rfl;(exact λe=>hn_.1 e.symm);(exact λe=>hn_.2.1 e.symm);(exact λe=>hn_.2.2.1 e.symm));(obtain⟨x,hx,rfl⟩:=nQ.1 hy;have hmx:=hG_.mem (a) fX x hx;refine⟨λh=>absurd h fX,?_⟩;intro z hz;obtain rfl:=pQ.1 hz;exact λe=>hn_.2.2.2 x hx e.symm));clear hG_ h1 h2 h3 h4 h5 hE hrow hF0;have hG_:=hG2;clear hG2;refine rn 5<|Tc (Le<|((b+1:Nat):Int)) ?_;refine o_storeO (.int _ _) hF sZ O O hG_.cj sI0 (.inr hG_.new.2.1) (by simpa using λe=>hn_.2.1 e.symm) ?_;intro w hF hE hnew;replace hG_:=hG_.setj hE hnew;refine rn 4<|Tc (Le<|((t+1:Nat):Int)) ?_;refine rn 2 ?_;refine Va ⟨_,?_,t+1,_,_,_,b+1,rfl,fX,hG_,(by rw[<-hrun,List.drop_eq_getElem_cons (show t<aL mp by omega),Rg,hmt]),(λg hg=>by by_cases e:g=a;(subst e;rw[Bm,dQ,U4];have:=hlen g hg;omega);(rw[Zh e];have:=hlen g hg;omega)),fX,Gc,hF.su⟩;omega;refine rn 7 ?_;obtain⟨Ax,cx,hrow⟩:=hG_.row (n) fX;have hF0:=hF.same.size;refine Ed (CZ _ (n+1) (n) b1 b3 b2 (size) j hd (gp n) Ax cx (sg n) fX fX fX fX (by have:=hlen (n) fX;omega) hG_.top hG_.cj hG_.cv hrow.1 hrow.2 (λz hz=>by have h:=hG_.mem (n) fX z hz;exact⟨h.1,h.2.2⟩) hG_.ne) (So O GY O O O) ?_
 rintro _ w ⟨A2,c2,sg2,rfl,h1,h2,h3,h4,h5,hE⟩;have hG2:=hG_.fill (g:=n) fX h1 h2 h3 h4 h5 hE hF0;have hF:=hF.touch hE (λy hy=>by rcases mQ.1 hy with hy|hy;(simp only[oQ,List.not_mem_nil,or_false]at hy;have hnw:=hG_.new;refine⟨λh=>absurd h (by rcases hy with rfl|rfl|rfl <;> omega),?_⟩;simp);(obtain⟨x,hx,rfl⟩:=nQ.1 hy;have hmx:=hG_.mem (n) fX x hx;refine⟨λh=>absurd h fX,?_⟩;simp));clear hG_ h1 h2 h3 h4 h5 hE hrow hF0;have hG_:=hG2;clear hG2;refine rn 4 ?_;refine Da (v:=W b1 (n+1)<|n+1) (Ma lZ (hx:=O) (by rw[Ra hG_.cv];rfl)) ?_;refine rn 5 ?_;obtain rfl:t=aL mp:=by_Om
 rw[List.drop_length,Rg]at hrun;rw[hrun]at hG_;exact⟨b1,O,hG_.rep fX (λg _ z hz=>by have:=JG (B:=64) hsz mp 0 (λ_=>[]) (λy hy=>by have:=hmp y hy;omega) (λ_ z hz=>by cases hz) g z hz;omega),hF.same⟩
def ET(S:Nat->Prop)(w0:World)(n:Nat)(mp:List (Nat × Nat))(A:Option Addr)(c:Nat)(hX:Rep S w0 (X0 (Vc mp)) [.slice A (aL (Vc mp)) c])(hr:Kv n (Vc mp)=true)(hn:n<=64)(hm:aL mp<=100)(hmp:∀z∈mp,z.1<n/\(z.2:Int)<9223372036854775807):Calls prog 110 #[J ((n:Nat):Int),.slice A (aL (Vc mp)) c] w0 (Qb λv w'=>∃ob:Nat,v=.tuple #[W ob n n,.bool true]/\Rep (Btw w0 w') w' (.slice (((List.range n).map (Yq mp λ_=>-1)).map Pd)) [W ob n n]/\Same [] w0 w'):=by
 have hcl:=N_ mp;have hXl:=hX.pairs_len;refine Ha func110 ntmps110 ?_;intro hF;refine rn 8<|Of (λσ w=>AllEq σ [(0,J<|(n:Nat)),(1,.slice (A) (aL (Vc mp)) c),(28,.bool false)]/\FR w0 [] [] w) ?_ ?_;refine rn 3<|Ta (Zg (v':=.bool true) (MH _ _ (n:Int) (Vc mp) A c<|hF.rep hX) (by rw[hr])) ?_;rintro w hF -;refine rn 7 ⟨λhg0=>?_,λhg0=>?_⟩;refine rn 3<|Tc (W4<|((aL (Vc mp)-1:Nat):Int)) ?_;obtain⟨ad1,hA1,hk1,hx1⟩:=hX.pair_elem (i:=(aL (Vc mp)-1)) fX;refine Da (v:=.pointer<|some<|ad1.add<|(aL (Vc mp)-1)*2) (Ea (i:=((aL (Vc mp)-1:Nat):Int)) S7 hA1)<|Da (v:=.pointer<|some<|(ad1.add<|(aL (Vc mp)-1)*2).add 1) (He (a:=ad1.add<|(aL (Vc mp)-1)*2) A7)<|Da (v:=J<|((Vc mp)[aL (Vc mp)-1]).2) (Ma oZ<|hF.cell0<|hk1 1 Pt) ?_;refine Da (v:=.bool false) (Gd Vk zX) ?_;refine rn 3 ?_;exact Va ⟨Gc,hF⟩;refine rn 11 ?_;exact Va ⟨Gc,hF⟩;rintro σ w ⟨hzz,hF⟩;refine J9 hzz 7<|rn 1 ⟨by_Om,?_⟩;rintro b1 w hb1 hF -;refine rn 12<|Za (λμ σ w=>∃(i:Nat),∃(f:Nat->Int),μ=n-i/\(i<=n)/\(∀k,k<i->f k = -1)/\AllEq σ [(1,.slice (A) (aL (Vc mp)) c),(6,W b1 n n),(32,J<|(n:Nat)),(33,J<|(i:Int))]/\FR w0 [] [(b1,.cells (Nc (n) f) 3)] w) _ ⟨0,λ_=>0,O,bZ _,λk hk=>by omega,Gc,hF⟩ ?_;rintro μ σ w ⟨i,f,rfl,hi,hf,hzz,hF⟩;refine Gh hzz 7 ⟨λhc1=>?_,λhc1=>?_⟩;refine rn 13<|Da (v:=.pointer<|some ⟨b1,i,none⟩) (Ua (i:=(i:Int)) (i) Ud O O fX fX fX) ?_;refine Cd 0 (l:=[J<|(-1)]) (cs':=Nc (n)<|Nf (f) (i)<|(-1)) hF sZ O (v:=J<|(-1)) O O Cm O qN (Bf _) ?_
 rintro w hF -;refine rn 4<|Tc (Le<|((i+1:Nat):Int)) ?_;refine rn 2 ?_;refine Va ⟨_,?_,i+1,Nf (f) (i)<|(-1),rfl,fX,(λk hk=>by by_cases e:k=i;(subst e;exact Ju _ _ _);(rw[Wr e];exact hf k fX)),Gc,hF⟩;omega;refine rn 4 ?_;rw[EG (N:=n) (f:=f) (g:=λ_=>-1) λk hk=>hf k fX]at hF;refine rn 7<|Za (λμ σ w=>∃(t:Nat),∃(f:Nat->Int),μ=aL mp-t/\(t<=aL mp)/\(Yq (mp.drop t) f=Yq mp λ_=>-1)/\AllEq σ [(6,W b1 n n),(40,.slice (A) (aL (Vc mp)) c),(41,J<|(aL (Vc mp):Nat)),(42,J<|(t:Int))]/\FR w0 [] [(b1,.cells (Nc (n) f) 3)] w) _ ⟨0,λ_=>-1,O,bZ _,O,Gc,hF⟩ ?_;rintro μ σ w ⟨t,f,rfl,ht,hrun,hzz,hF⟩;refine Gh hzz 7 ⟨λhc2=>?_,λhc2=>?_⟩;refine rn 5 ?_;obtain⟨a,b,hmt⟩:∃a b:Nat,mp[t]=(a,b):=⟨_,_,rfl⟩;have hab:(Vc mp)[t]=((a:Int),(b:Int)):=by rw[Qu fX fX,hmt]
 have hab1:=hmp _<|List.getElem_mem (l:=mp) (n:=t) fX;rw[hmt]at hab1;refine rn 1 ?_;obtain⟨ad2,hA2,hk2,hx2⟩:=hX.pair_elem (i:=t) fX;rw[hab]at hk2 hx2;refine Da (v:=.pointer<|some<|ad2.add<|t*2) (Ea (i:=(t:Int)) S7 hA2)<|Da (v:=.agg #[J<|(((a:Int),(b:Int))).1,J<|(((a:Int),(b:Int))).2]) (Qa (l:=Uw ((a:Int),(b:Int))) isAgg191 sizeOf191 O O<|hF.cells0 hk2) ?_;refine rn 1 ?_;rintro b2 w hb2 hF -;refine rn 8<|Da (v:=.pointer<|some ⟨b1,a,none⟩) (Ua (i:=(((a:Int),(b:Int))).1) (a) Ud O O fX fX fX) ?_;refine Cd 1 (l:=[J<|(((a:Int),(b:Int))).2]) (cs':=Nc (n)<|Nf (f) (a)<|(((a:Int),(b:Int))).2) hF sZ O (v:=J<|(((a:Int),(b:Int))).2) O O Cm O qN (Bf _) ?_;rintro w hF -;refine rn 4<|Tc (Le<|((t+1:Nat):Int)) ?_;refine rn 2<|Va ⟨_,?_,t+1,Nf (f) (a)<|(((a:Int),(b:Int))).2,O,fX,(by rw[<-hrun,List.drop_eq_getElem_cons (show t<aL mp by omega),Yq,hmt]),Gc,hF.su⟩;omega;refine rn 10 ?_;obtain rfl:t=aL mp:=by_Om
 rw[List.drop_length,Yq]at hrun;rw[hrun]at hF;exact⟨b1,O,C9 (hF.heap (i:=0) O) (hF.ge (i:=0) O) fX (λk _=>by have:=WQ (B:=9223372036854775807) mp (λ_=>-1) (λz hz=>(hmp z hz).2) (λ_=>by omega) k;omega),hF.same⟩
open Go.RowKit
def Ye:Option Tree->Option Tree->Bool
  | some x,some y=>Qh x y
  | none,none=>true
  | _,_=>false
def Zo(s:Str):Str:=61::s
def I5(g:Nat):Str:=43::Lib.itoa g
structure Mt where
  i:Nat
  k:Nat
  star:Option Nat
  taken:Nat
def GC:Str:=[42,42]
def oneS:Str:=[42]
def mtN(p q:List Str)(m:Mt):Option Mt :=
  if p[m.i]? = some GC then some ⟨m.i+1,m.k,some m.i,m.k⟩
  else if p[m.i]? = some oneS\/(p[m.i]?≠none/\p[m.i]? = q[m.k]?) then some ⟨m.i+1,m.k+1,m.star,m.taken⟩
  else match m.star with
    | some s=>some ⟨s+1,m.taken+1,some s,m.taken+1⟩
    | none=>none
def mtF(p q:List Str):Nat->Mt->Bool
  | 0,_=>false
  | f+1,m=>if m.k<aL q then (match mtN p q m with|some m'=>mtF p q f m'|none=>false) else (p.drop m.i).all λs=>decide (s=GC)
def mtM(p q:List Str)(m:Mt):Nat:=(aL p-(match m.star with|some s=>s|none=>0)+(if m.star=none then 1 else 0))*((aL q+1)*(aL q+1))+(aL q-m.taken)*(aL q+1)+(aL q-m.k)
def Lo(p q:List Str):Bool:=decide (aL p<=200)&&(decide (aL q<=200)&&mtF p q 10000000 ⟨0,0,none,0⟩)
def Vi(rl:List Rl)(path:List Str):Option Str:=(rl.find? λx=>Lo x.pat path).map (·.key)
def Re(l:List Str):Bool:=decide l.Nodup&&decide (aL l<=256)
def Dc(p:List Str)(x y:Str):Int:=if x∈p/\y∈p then Lib.compareInt (p.idxOf x) (p.idxOf y) else 0
def Pc(b l r:List Str)(x y:Str):Option Int :=
  if Dc b x y≠0/\(Dc l x y = - Dc b x y\/Dc r x y = - Dc b x y) then some (- Dc b x y)
  else if Dc b x y≠0 then some (Dc b x y)
  else if Dc l x y*Dc r x y<0 then none
  else some (if Dc l x y≠0 then Dc l x y else Dc r x y)
def D2(b l r:List Str)(rest:List Str)(s:Str):Bool:=rest.all λy=>decide (y=s) || decide (Pc b l r y s≠some (-1))
def Ni(b l r:List Str):Nat->List Str->Option (List Str)
  | 0,_=>some []
  | f + 1, rest => match rest.find? (D2 b l r rest)with
    | some s=>(Ni b l r f (rest.erase s)).map (s::·)
    | none=>none
def Vm(b l r names:List Str):Bool:=(List.range (aL names)).any λi=>(names.take i).any λy=>decide (Pc b l r (names.getD i []) y=none)
def Mg(b l r names:List Str):Option (List Str) :=
  if Re b=true/\Re l=true/\Re r=true/\Re names=true/\Vm b l r names=false then Ni b l r (aL names) (We names) else none
abbrev Mo:=Option Tree × List Cf
def Tk(path:List Str)(cls:Int)(n:Nat)(b l r:Option Tree):Mo:=(some (Sh n),[⟨path,cls,Ee b,Ee l,Ee r⟩])
def Nj:Option Tree->Option Tree->Option Tree->Int
  | none,_,_=>4
  | some x,some y,some z=>if x.kind=y.kind/\x.kind=z.kind then 1 else 2
  | _,_,_=>3
def BE(k:Str):Option Tree->List (Str × Tree)
  | some x=>[(k,x)]
  | none=>[]
def Df(f:Str->Nat->Mo)(n:Nat)(ks:List Str):Nat->List (Str × Tree) × List Cf
  | 0=>([],[])
  | j + 1 =>
    let a:=Df f n ks j
    let q:=f (ks.getD j []) (n+aL a.2)
    (a.1++BE (ks.getD j []) q.1,a.2++q.2)
def Qd(x:Tree)(key:Str):Option Tree:=Jc x.keys x.items key
def Xb(x:Tree)(key id:Str):Option Tree:=if (Io x key id).2=true then some (Io x key id).1 else none
def Jf(path:List Str)(g n:Nat)(p q:List Tree):List Tree × List Cf :=
  if aL p=0 then (q,[]) else if aL q=0\/Qh (.node 5 [] [] p) (.node 5 [] [] q)=true then (p,[])
  else ([Sh n],[⟨path++[I5 g],5,⟨true,.node 5 [] [] []⟩,⟨true,.node 5 [] [] p⟩,⟨true,.node 5 [] [] q⟩⟩])
structure By where
  items:List Tree
  gap:Nat->List Int
  img:Nat->Int
def By.at(y:By)(i:Int):Option Tree:=if i<0 then none else y.items[i.toNat]?
def By.put(y:By)(g:Nat):List Tree:=(y.gap g).filterMap λi=>y.at i
def By.item(y:By)(k:Nat):Option Tree:=y.at (y.img k)
def DN(m:List (Int × Int)):List (Nat × Nat):=m.map λz=>(z.1.toNat,z.2.toNat)
def Ec(base v:List Tree):By :=
  let m:=DN (pth 0 0 (base.map Vf) (v.map Vf))
  ⟨v,Rg (aL base) (aL v) m 0 (λ_=>[]),Yq m (λ_=>-1)⟩
def Af(f:List Str->Nat->Option Tree->Option Tree->Option Tree->Mo)(path:List Str)(n:Nat)(base:List Tree)(x y:By):Nat->List Tree × List Cf
  | 0=>([],[])
  | j + 1 =>
    let a:=Af f path n base x y j
    let p:=Jf path j (n+aL a.2) (x.put j) (y.put j)
    let q:=f (path++[Lib.itoa j]) (n+aL (a.2++p.2)) base[j]? (x.item j) (y.item j)
    (a.1++p.1++q.1.toList,a.2++p.2++q.2)
def N2(f:List Str->Nat->Option Tree->Option Tree->Option Tree->Mo)(path:List Str)(n:Nat)(base:List Tree)(x y:By):Mo :=
  let a:=Af f path n base x y (aL base)
  let p:=Jf path (aL base) (n+aL a.2) (x.put (aL base)) (y.put (aL base))
  (some (.node 5 [] [] (a.1++p.1)),a.2++p.2)
def GI(f:List Str->Nat->Option Tree->Option Tree->Option Tree->Mo)(path:List Str)(n:Nat)(b l r:Tree):Mo :=
  let ks:=Uc [l.keys,r.keys]
  let a:=Df (λk m=>f (path++[k]) m (Qd b k) (Qd l k) (Qd r k)) n ks (aL ks)
  (some (.node 6 [] (a.1.map (·.1)) (a.1.map (·.2))),a.2)
def Wm(m:List (Str × Tree))(id:Str):Tree:=(Jc (m.map (·.1)) (m.map (·.2)) id).getD zeroT
def Bx(f:List Str->Nat->Option Tree->Option Tree->Option Tree->Mo)(path:List Str)(n:Nat)(key:Str)(b l r:Tree):Mo :=
  let ids:=Uc [Ob l key,Ob r key]
  let a:=Df (λid m=>f (path++[Zo id]) m (Xb b key id) (Xb l key id) (Xb r key id)) n ids (aL ids)
  match Mg (Ob b key) (Ob l key) (Ob r key) (a.1.map (·.1))with
  | some o=>(some (.node 5 [] [] (o.map (Wm a.1))),a.2)
  | none=>Tk path 6 n (some b) (some l) (some r)
def XN(key:Str)(b l r:Tree):Bool:=(Fk b key).isSome&&((Fk l key).isSome&&(Fk r key).isSome)
def Lh(rl:List Rl)(f:List Str->Nat->Option Tree->Option Tree->Option Tree->Mo)(path:List Str)(n:Nat)(b l r:Tree):Mo :=
  match Vi rl path with
  | some key=>if XN key b l r=true then Bx f path n key b l r else gapM
  | none=>gapM
where gapM:Mo:=if Pe b.items=0/\Pe l.items=0/\Pe r.items=0 then N2 f path n b.items (Ec b.items l.items) (Ec b.items r.items) else Tk path 1 n (some b) (some l) (some r)
def Zq(rl:List Rl)(f:List Str->Nat->Option Tree->Option Tree->Option Tree->Mo)(path:List Str)(n:Nat):Option Tree->Option Tree->Option Tree->Mo
  | some x, some y, some z =>
    if x.kind=y.kind/\x.kind=z.kind then
      if x.kind=6 then GI f path n x y z else if x.kind=5 then Lh rl f path n x y z else Tk path 1 n (some x) (some y) (some z)
    else Tk path 2 n (some x) (some y) (some z)
  | b,l,r=>Tk path (Nj b l r) n b l r
def Hf(rl:List Rl):Nat->List Str->Nat->Option Tree->Option Tree->Option Tree->Mo
  | 0,_,_,_,l,_=>(l,[])
  | F+1,path,n,b,l,r=>if Ye l r=true then (l,[]) else if Ye b l=true then (r,[]) else if Ye b r=true then (l,[]) else Zq rl (Hf rl F) path n b l r
def AA(x:Rl):Bool:=Lib.validD x.key&&(decide (aL x.pat<=64)&&x.pat.all Lib.validD)
def Kz(rl:List Rl):Bool:=decide (rl.length<=32)&&rl.all AA
def S9(q:Mo):Tree × List Cf × Int:=if Ke (q.1.getD zeroT)=true then (q.1.getD zeroT,q.2,0) else (zeroT,[],6)
def ZM(rl:List Rl)(b l r:Tree):Prop:=Eb b=true/\Eb l=true/\Eb r=true/\Kz rl=true
instance (rl:List Rl) (b l r:Tree):Decidable (ZM rl b l r):=inferInstanceAs (Decidable (_/\_/\_/\_))
def Ig(rl:List Rl)(b l r:Tree):Tree × List Cf × Int:=if ZM rl b l r then S9 (Hf rl 40 [] 0 (some b) (some l) (some r)) else (zeroT,[],1)
def pre(p:List Str)(c:Cf):Cf:={ c with path:=p++c.path }
theorem QW{x:Tree}{k:Int}{t:Str}{ks:List Str}{xs:List Tree}(h:x∈xs):Db x<Db (.node k t ks xs):=by
  rw[Db];have:∀{xs:List Tree},x∈xs->Db x<=Ya xs:=fun {xs} h=>by
    induction xs with
    | nil=>cases h
    | cons y ys ih =>
      rw[Ya];rcases oQ.1 h with rfl|h
      ·omega
      have:=ih h;omega
  grind
def Yd:Option Tree->Nat
  | some x=>Db x
  | none=>0
def Ll(x:Tree):1<=Db x:=by
  cases x;rw[Db];omega
def Wp{x:Tree}{key:Str}(h:Qd x key=some y):y∈x.items:=Vj h
theorem Gm{x:Tree}{key id:Str}(h:Xb x key id=some y):y∈x.items:=by
  unfold Xb at h;split at h
  ·rename_i h2
   obtain rfl:=lQ h;unfold Io at h2 ⊢;split at h2
   ·rename_i hm
    rw[uQ hm];have hne:Ob x key≠[]:=qJ
    grind [Oy,Ob]
   cases h2
  cases h
theorem Xr{y:By}{i:Int}{x:Tree}(h:y.at i=some x):x∈y.items:=by grind [By.at]
theorem Bg{y:By}{g:Nat}{x:Tree}(h:x∈y.put g):x∈y.items:=by grind [By.put,Xr]
def Dt{x:Tree}(h:y∈x.items):Db y<Db x:=by
  cases x;exact QW h
def Sn(x:Tree)(key:Str):Yd (Qd x key)<Db x:=by
  cases h:Qd x key with
  | none=>exact Ll x
  | some y=>exact Dt<|Wp h
def Yl(x:Tree)(key id:Str):Yd (Xb x key id)<Db x:=by
  cases h:Xb x key id with
  | none=>exact Ll x
  | some y=>exact Dt<|Gm h
def M1{k:Int}{t:Str}{ks:List Str}{base:List Tree}(x:Tree)(g:Nat):Yd ((Ec base x.items).item g)<Db x:=by
  cases h:(Ec base x.items).item g with
  | none=>exact Ll x
  | some y=>exact Dt<|Xr h
section
variable {f g:Str->Nat->Mo}{p q:List Str}{n m:Nat}{ks:List Str}
end
abbrev Fm:=List Str->Nat->Option Tree->Option Tree->Option Tree->Mo
def RiseN(n size:Nat):Nat->Nat->List (Nat × Nat)->Prop
  | _,j,[]=>j<=size
  | k,j,z::m=>k<=z.1/\z.1<n/\j<=z.2/\z.2<size/\RiseN n size (z.1+1) (z.2+1) m
def Py:List (Nat × Nat)->Nat->Nat->Nat
  | [],j,_=>j
  | z::m,j,k=>if k<=z.1 then j else Py m (z.2+1) k
theorem UQ{n:Nat}:∀{m:List (Nat × Nat)}{k0 j k:Nat},RiseN n size k0 j m->k<=k0->Py m j k=j
  | [],_,_,_,_,_=>rfl
  | z::m,k0,j,k,h,hk=>by rw[Py,uQ (by have:=h.1;omega)]
theorem TN{n size:Nat}:∀{m:List (Nat × Nat)}{k0 j k:Nat},RiseN n size k0 j m->Py m j k<=size
  | [],_,_,_,h=>h
  | z :: m, k0, j, k, h => by
    obtain⟨h1,h2,h3,h4,h5⟩:=h;rw[Py];split
    ·omega
    exact TN h5
theorem H9{n size:Nat}:∀{m:List (Nat × Nat)}{k0 j k:Nat}{f:Nat->Int},RiseN n size k0 j m->k<k0->Yq m f k=f k
  | [],_,_,_,_,_,_=>rfl
  | z :: m, k0, j, k, f, h, hk => by
    have h1:=h.1;rw[Yq,H9 h.2.2.2.2 fX,Wr fX]
theorem Ry{n size:Nat}:∀{m:List (Nat × Nat)}{k0 j k:Nat}{gp:Nat->List Int},RiseN n size k0 j m->k<k0->k≠n->Rg n size m j gp k=gp k
  | [],_,_,_,_,_,_,hn=>by rw[Rg,Zh hn]
  | z :: m, k0, j, k, gp, h, hk, hn => by
    have h1:=h.1;rw[Rg,Ry h.2.2.2.2 fX hn,Zh fX]
theorem J8{n size:Nat}:∀(m:List (Nat × Nat))(k0 j:Nat)(gp:Nat->List Int)(f:Nat->Int),RiseN n size k0 j m->k0<=n->(∀k,k0<=k->gp k=[])->(∀k,k0<=k->f k = -1) ->
    (∀k,k0<=k->k<n->((∃b:Nat,Yq m f k=(b:Int)/\Rg n size m j gp k=rng (Py m j k) b/\Py m j (k+1)=b+1/\Py m j k<=b)\/(Yq m f k = -1/\Rg n size m j gp k=[]/\Py m j (k+1)=Py m j k))) /\
    Rg n size m j gp n=rng (Py m j n) size/\Py m j n<=size
  | [], k0, j, gp, f, h, hk0, hg, hf => by
    refine⟨λk hk hkn=>.inr ⟨hf k hk,by rw[Rg,Zh fX];exact hg k hk,O⟩,?_,h⟩;rw[Rg,Bm,hg n hk0];rfl
  | z :: m, k0, j, gp, f, h, hk0, hg, hf => by
    obtain⟨h1,h2,h3,h4,h5⟩:=h;have hg':∀k,z.1+1<=k->YL gp z.1 (gp z.1++rng j z.2) k=[]:=λk hk=>by rw[Zh fX];exact hg k fX
    have hf':∀k,z.1+1<=k->Nf f z.1 (z.2:Int) k = -1:=λk hk=>by rw[Wr fX];exact hf k fX
    obtain⟨i1,i2,i3⟩:=J8 m (z.1+1) (z.2+1) _ _ h5 fX hg' hf';have ha:∀k,z.1<k->Py (z::m) j k=Py m (z.2+1) k:=λk hk=>by rw[Py,tQ fX]
    refine⟨λk hk hkn=>?_,by rw[Rg,i2,ha n h2],by rw[ha n h2];exact i3⟩;rw[Yq,Rg];rcases Nat.lt_trichotomy k z.1 with hlt|heq|hgt
    ·refine .inr ⟨?_, ?_, ?_⟩
     ·rw[H9 h5 fX,Wr fX];exact hf k hk
     ·rw[Ry h5 fX fX,Zh fX];exact hg k hk
     rw[Py,Py,uQ fX,uQ fX]
    ·subst heq
     refine .inl ⟨z.2,?_,?_,?_,?_⟩
     ·rw[H9 h5 fX,Ju]
     ·rw[Ry h5 fX fX,Bm,hg _ hk,Py,uQ fX];rfl
     ·rw[ha _ fX,UQ h5<|gQ _]
     rw[Py,uQ fX];exact h3
    rw[ha k hgt, ha (k + 1) fX];exact i1 k fX hkn
theorem RiseN.all{n:Nat}:∀{m:List (Nat × Nat)}{k j:Nat},RiseN n size k j m->∀z∈m,z.1<n/\z.2<size
  | [],_,_,_,z,hz=>by cases hz
  | y :: m, _, _, h, z, hz => by
    rcases oQ.1 hz with rfl|hz
    ·exact⟨h.2.1,h.2.2.2.1⟩
    exact RiseN.all h.2.2.2.2 z hz
section
variable {α:Type}(sz:α->Nat)(p:α->α->Nat)
inductive AliP:Nat->Nat->List α->List α->List (Nat × Nat)->Nat->Prop
  | nil {i j:Nat}:AliP i j [] [] [] 0
  | pair {i j:Nat} {x y:α} {xs ys:List α} {m:List (Nat × Nat)} {c:Nat}:AliP (i+1) (j+1) xs ys m c->AliP i j (x::xs) (y::ys) ((i,j)::m) (p x y+c)
  | drop {i j:Nat} {x:α} {xs ys:List α} {m:List (Nat × Nat)} {c:Nat}:AliP (i+1) j xs ys m c->AliP i j (x::xs) ys m (sz x+c)
  | add {i j:Nat} {y:α} {xs ys:List α} {m:List (Nat × Nat)} {c:Nat}:AliP i (j+1) xs ys m c->AliP i j xs (y::ys) m (sz y+c)
end
section
variable {α:Type}{sz:α->Nat}{p:α->α->Nat}
def RiseN.low{n:Nat}{i j k l:Nat}{m:List (Nat × Nat)}(h:RiseN n size k l m)(h1:i<=k)(h2:j<=l):RiseN n size i j m:=by
  cases m with
  | nil =>
    have h:l<=size:=h;exact fQ h2 h
  | cons z m=>exact⟨fQ h1 h.1,h.2.1,fQ h2 h.2.2.1,h.2.2.2⟩
def AliP.rise{i j:Nat}{xs ys:List α}{m:List (Nat × Nat)}{c:Nat}(h:AliP sz p i j xs ys m c):RiseN (i+aL xs) (j+aL ys) i j m:=by
  induction h with
  | nil=>exact gQ _
  | @pair i j x y xs ys m c _ ih =>
    rw[kQ,kQ,show i+(aL xs+1)=i+1+aL xs by omega,show j+(aL ys+1)=j+1+aL ys by omega];exact⟨gQ _,by show i<_;omega,gQ _,by show j<_;omega,ih⟩
  | @drop i j x xs ys m c _ ih =>
    rw[kQ,show i+(aL xs+1)=i+1+aL xs by omega];exact ih.low (Nat.le_succ _)<|gQ _
  | @add i j y xs ys m c _ ih =>
    rw[kQ,show j+(aL ys+1)=j+1+aL ys by omega];exact ih.low (gQ _)<|Nat.le_succ _
theorem RJ:∀(xs:List α)(i j:Nat),AliP sz p i j xs [] [] (al sz p xs [])
  | [],_,_=>.nil
  | x::xs,i,j=>by rw[FY];exact .drop<|RJ xs (i+1) j
theorem CC:∀(ys:List α)(i j:Nat),AliP sz p i j [] ys [] (al sz p [] ys)
  | [],_,_=>.nil
  | y::ys,i,j=>by rw[OR];exact .add<|CC ys i<|j+1
end
def pth_ali(la lb:List TreeN):∀(k i j:Nat),(aL la-i)+(aL lb-j)<=k->∃mp,pth i j (la.drop i) (lb.drop j)=Vc mp/\AliP Xm pN i j (la.drop i) (lb.drop j) mp (al Xm pN (la.drop i) (lb.drop j)):=by
  intro k
  induction k with
  | zero =>
    intro i j hk;rw[Ay,List.drop_eq_nil_of_le (show aL la<=i by omega),List.drop_eq_nil_of_le (show aL lb<=j by omega)];exact⟨[],O,.nil⟩
  | succ k ih =>
    intro i j hk;by_cases h1:i<aL la
    ·by_cases h2 : j<aL lb
     ·have hc := LQ (sz := Xm) (p := pN) la[i] lb[j] (la.drop<|i + 1) (lb.drop<|j + 1)
      rw[Nx h1 h2];by_cases c1:al Xm pN (la.drop i) (lb.drop j)=pN la[i] lb[j]+al Xm pN (la.drop<|i+1) (lb.drop<|j+1)
      ·obtain⟨mp, e, h⟩ := ih (i + 1) (j + 1) fX
       rw[uQ c1,e,c1,List.drop_eq_getElem_cons h1,List.drop_eq_getElem_cons h2];exact⟨(i,j)::mp,O,.pair h⟩
      rw[tQ c1];by_cases c2:al Xm pN (la.drop i) (lb.drop j)=Xm la[i]+al Xm pN (la.drop<|i+1) (lb.drop j)
      ·obtain⟨mp, e, h⟩ := ih (i + 1) j fX
       rw[uQ c2,e,c2];refine⟨mp,O,?_⟩;rw[List.drop_eq_getElem_cons h1];exact .drop h
      obtain⟨mp, e, h⟩ := ih i (j + 1) fX;have c3:al Xm pN (la.drop i) (lb.drop j)=Xm lb[j]+al Xm pN (la.drop i) (lb.drop<|j+1):=by
        rw[<-List.drop_eq_getElem_cons h1,<-List.drop_eq_getElem_cons h2]at hc;omega
      rw[tQ c2,e,c3];refine⟨mp,O,?_⟩;rw[List.drop_eq_getElem_cons h2];exact .add h
     rw[Ay, List.drop_eq_nil_of_le (show aL lb <= j by omega)];exact⟨[],O,RJ _ _ _⟩
    rw[Ay, List.drop_eq_nil_of_le (show aL la <= i by omega)];exact⟨[],O,CC _ _ _⟩
theorem K7(a b:List Tree):∃mp,pth 0 0 (a.map Vf) (b.map Vf)=Vc mp/\RiseN (aL a) (aL b) 0 0 mp:=by
  obtain⟨mp,e,h⟩:=pth_ali (a.map Vf) (b.map Vf) _ 0 0<|gQ _;rw[List.drop_zero,List.drop_zero]at e h;have hr:=h.rise;grind
section
variable {f:Str->Nat->Mo}{n:Nat}{ks:List Str}
end
def Ge:Option Tree->Nat
  | some x=>Ja x
  | none=>0
theorem UA:∀(ks:List Str)(xs:List Tree)(id:Str),aL ks=aL xs->Jc ks xs id=if id∈ks then some (xs.getD (ks.idxOf id) zeroT) else none
  | [],[],id,_=>by simp[Jc]
  | k :: ks, x :: xs, id, h => by
    rw[Jc];by_cases e:k=id
    ·subst e;simp
    rw[tQ e, UA ks xs id (aS h)];have e1:(id∈k::ks)=(id∈ks):=by simp[Ne.symm e,eq_comm,λh:id=k=>e h.symm]
    rw[List.idxOf_cons];have e2:(k==id)=false:=aS e
    simp[e1,e2]
  | [],_::_,_,h=>by cases h
  | _::_,[],_,h=>by cases h
theorem RP(x:Tree)(key id:Str):Xb x key id=Jc (Ob x key) x.items id:=by grind [Ob,UA,Oy,Xb,Io,Jc,OA]
def Yk(g:Str->Option Tree)(ks:List Str):Nat:=(ks.map λk=>Ge (g k)).sum
theorem VP{g h:Str->Option Tree}{c:Str->Nat}:∀{ks:List Str},(∀k∈ks,Ge (g k)<=c k+Ge (h k))->Yk g ks<=(ks.map c).sum+Yk h ks
  | [],_=>by simp[Yk]
  | k :: ks, H => by
    have ih:=VP (g:=g) (h:=h) (c:=c) (ks:=ks) λk hk=>H k (by simp[hk]);have h1:=H k Ca;unfold Yk at ih ⊢;simp only[iZ,List.sum_cons];omega
theorem JK(k0:Str)(s:Nat):∀{ks:List Str},ks.Nodup->(ks.map λk=>if k0=k then s else 0).sum<=s
  | [],_=>by simp
  | k :: ks, h => by
    obtain⟨h1,h2⟩:=List.nodup_cons.1 h;have ih:=JK k0 s h2;simp only[iZ,List.sum_cons];by_cases e:k0=k
    ·have:(ks.map λk=>if k0=k then s else 0).sum=0:=by
       have hz:∀l:List Str,k∉l->(l.map λk=>if k0=k then s else 0).sum=0:=by
         intro l hl
         induction l with
         | nil=>rfl
         | cons a l ih =>
           simp only[iZ,List.sum_cons];rw[ih λh=>hl (by simp[h]),tQ λh=>hl (by simp[<-h,e])]
       exact hz ks h1
     rw[this,uQ e];omega
    rw[tQ e];omega
theorem Z0{qs:List Str}(hq:qs.Nodup):∀(ks:List Str)(xs:List Tree),Yk (Jc ks xs) qs<=Oa xs
  | k :: ks, x :: xs => by
    have ih:=Z0 hq ks xs;have h1:=VP (g:=Jc (k::ks)<|x::xs) (h:=Jc ks xs) (c:=λq=>if k=q then Ja x else 0) (ks:=qs) λq _=>by
      rw[Jc];split
      ·simp only[Ge];omega
      omega
    have h2:=JK k (Ja x) hq;rw[Oa];omega
  | [], xs => by
    have:∀l:List Str,Yk (Jc [] xs) l=0:=λl=>by
      induction l with
      | nil=>rfl
      | cons a l ih=>unfold Yk at ih ⊢;rw[iZ,List.sum_cons,ih];simp[Jc,Ge]
    rw[this];omega
  | k' :: ks', [] => by
    have:∀l:List Str,Yk (Jc (k'::ks') []) l=0:=λl=>by
      induction l with
      | nil=>rfl
      | cons a l ih=>unfold Yk at ih ⊢;rw[iZ,List.sum_cons,ih];simp[Jc,Ge]
    rw[this];omega
theorem Ze(g:Str->Option Tree){ks:List Str}{j:Nat}(h:j<aL ks):Yk g (ks.take (j+1))=Yk g (ks.take j)+Ge (g (ks.getD j [])):=by
  unfold Yk;rw[iQ h,jQ,List.sum_append];grind
theorem Qi(g:Str->Option Tree)(ks:List Str)(j:Nat):Yk g (ks.take j)<=Yk g ks:=by
  conv=>rhs;rw[<-List.take_append_drop j ks]
  grind [Yk]
def Gk(hq:qs.Nodup)(x:Tree):Yk (Qd x) qs+1<=Ja x:=by cases x with|node k t ks xs=>exact (by have:=Z0 hq ks xs;rw[Ja];show Yk (Jc ks xs) qs+1<=_;omega)
theorem Gi(hq:qs.Nodup)(x:Tree)(key:Str):Yk (Xb x key) qs+1<=Ja x:=by
  have e:Xb x key=Jc (Ob x key) x.items:=by grind [RP]
  rw[e];have:=Z0 hq (Ob x key) x.items;cases x with|node k t ks xs=>rw[Ja];show Yk _ qs+1<=_;simp only[Tree.items]at *;omega
theorem Du(m:List (Nat × Nat)):DN (Vc m)=m:=by
  unfold DN Vc;rw[List.map_map];exact (List.map_congr_left λz _=>by simp).trans (List.map_id _)
theorem MP(v:List Tree)(gp:Nat->List Int)(im:Nat->Int):∀(d j:Nat),j+d<=aL v->(rng j (j+d)).filterMap (λi=>(By.mk v gp im).at i)=(v.drop j).take d
  | 0,j,_=>by simp[rng]
  | d + 1, j, h => by
    have e:rng j (j+(d+1))=(j:Int)::rng (j+1) (j+1+d):=by
      unfold rng;rw[show j+(d+1)-j=d+1 by omega,show j+1+d-(j+1)=d by omega,List.range'_succ,iZ]
    rw[e,List.filterMap_cons];have e2:(By.mk v gp im).at (j:Int)=some v[j]:=by
      unfold By.at;rw[tQ fX];simp
    rw[e2,MP v gp im d (j+1) fX,List.drop_eq_getElem_cons (show j<aL v by omega),List.take_succ_cons]
theorem laid_law(base v:List Tree):∃a:Nat->Nat,a 0=0/\a (aL base)<=aL v/\(Ec base v).put (aL base)=v.drop (a (aL base)) /\
    ∀k,k<aL base->(∃b,a k<=b/\b<aL v/\a (k+1)=b+1/\(Ec base v).item k=v[b]?/\(Ec base v).put k=(v.drop (a k)).take (b-a k))\/((Ec base v).item k=none/\(Ec base v).put k=[]/\a (k+1)=a k):=by
  obtain⟨mp,e,hr⟩:=K7 base v;have em:Ec base v=⟨v,Rg (aL base) (aL v) mp 0 λ_=>[],Yq mp λ_=>-1⟩:=by grind [Ec,Du]
  obtain⟨h1,h2,h3⟩:=J8 mp 0 0 (λ_=>[]) (λ_=>-1) hr (bZ _) (λ_ _=>rfl) λ_ _=>rfl;rw[em];have hb:∀k,Py mp 0 k<=aL v:=λk=>TN hr;refine⟨Py mp 0,UQ hr<|gQ _,h3,?_,λk hk=>?_⟩
  ·unfold By.put
   rw[show (By.mk v (Rg (aL base) (aL v) mp 0 λ_=>[])<|Yq mp λ_=>-1).gap (aL base)=rng (Py mp 0 (aL base)) (Py mp 0 (aL base)+(aL v-Py mp 0 (aL base))) by rw[Nat.add_sub_cancel' h3];exact h2];rw[MP _ _ _ _ _ fX];exact cZ (by rw[yQ];omega)
  rcases h1 k (bZ _) hk with ⟨b, k1, k2, k3, k4⟩|⟨k1, k2, k3⟩
  ·have hb1 := hb (k + 1)
   refine .inl ⟨b,k4,by_Om,k3,?_,?_⟩
   ·unfold By.item By.at
    simp only[k1];rw[tQ fX];simp
   unfold By.put;rw[show (By.mk v (Rg (aL base) (aL v) mp 0 λ_=>[])<|Yq mp λ_=>-1).gap k=rng (Py mp 0 k) (Py mp 0 k+(b-Py mp 0 k)) by rw[Nat.add_sub_cancel' k4];exact k2];exact MP _ _ _ _ _ fX
  refine .inr ⟨?_, ?_, k3⟩
  ·unfold By.item By.at
   simp only[k1];rfl
  unfold By.put;simp only[k2];rfl
def wG(y:By):Nat->Nat
  | 0=>0
  | j+1=>wG y j+Oa (y.put j)+Ge (y.item j)
def Nh(base v:List Tree):∀j,j<=aL base->wG (Ec base v) j+(if j=aL base then Oa ((Ec base v).put j) else 0)<=Oa v:=by
  obtain⟨a,a0,an,hp,hk⟩:=laid_law base v;have key:∀j,j<=aL base->wG (Ec base v) j=Oa (v.take<|a j):=by
    intro j
    induction j with
    | zero =>
      intro _;rw[a0];rfl
    | succ j ih =>
      intro hj;rw[wG,ih fX];rcases hk j fX with ⟨b,h1,h2,h3,h4,h5⟩|⟨h1,h2,h3⟩
      ·rw[h4, h5, h3, List.getElem?_eq_getElem h2]
       have e1:v.take (b+1)=v.take (a j)++((v.drop<|a j).take (b-a j)++[v[b]]):=by rw[<-sQ,<-List.take_add,Nat.add_sub_cancel' h1,iQ h2]
       rw[e1,Kc,Kc];simp only[Ge,Oa];omega
      rw[h1, h2, h3];simp[Oa,Ge]
  intro j hj;rw[key j hj];by_cases e:j=aL base
  ·subst e
   rw[uQ rfl,hp,<-Kc,List.take_append_drop];exact gQ _
  rw[tQ e];have:Oa v=Oa (v.take<|a j)+Oa (v.drop<|a j):=by rw[<-Kc,List.take_append_drop]
  omega
theorem Sy(base v:List Tree)(j:Nat)(hj:j<aL base):wG (Ec base v) j+Oa ((Ec base v).put j)+Ge ((Ec base v).item j)<=Oa v:=by
  have:=Nh base v (j+1) hj;grind [wG]
section
variable {f:Str->Nat->Mo}{n:Nat}{ks:List Str}{gl gr:Str->Option Tree}
theorem Mq(H:∀k n,aL (f k n).2<=Ge (gl k)+Ge (gr k)):∀j,j<=aL ks->aL (Df f n ks j).2<=Yk gl (ks.take j)+Yk gr (ks.take j)
  | 0,_=>by simp[Df]
  | j + 1, hj => by
    have ih:=Mq H j fX;have h1:=H (ks.getD j [])<|n+aL (Df f n ks j).2;rw[Df,dQ,Ze gl fX,Ze gr fX];omega
end
theorem Yw(p:List Str)(g n:Nat)(xs ys:List Tree):aL (Jf p g n xs ys).2<=Oa xs+Oa ys:=by grind [Jf,Vd]
theorem Qt{f:Fm}{p:List Str}{n:Nat}{base:List Tree}{x y:By}(H:∀s n k,aL (f (p++[s]) n base[k]? (x.item k) (y.item k)).2<=Ge (x.item k)+Ge (y.item k)):∀j,aL (Af f p n base x y j).2<=wG x j+wG y j
  | 0=>by simp[Af]
  | j + 1 => by
    have ih:=Qt (n:=n) H j;have h1:=Yw p j (n+aL (Af f p n base x y j).2) (x.put j)<|y.put j;have h2:=H (Lib.itoa j) (n+((Af f p n base x y j).2++(Jf p j (n+aL (Af f p n base x y j).2) (x.put j)<|y.put j).2).length) j;have e:∀A B C:List Cf,aL (A++B++C)=aL A+aL B+aL C:=λA B C=>by rw[dQ,dQ]
    rw[Af,e,wG,wG];omega
theorem Km{p:List Str}{cls:Int}{n:Nat}{b l r:Option Tree}(h:¬Ye l r=true):aL (Tk p cls n b l r).2<=Ge l+Ge r:=by
  have:1<=Ge l+Ge r:=by
    cases l with
    | some x=>grind [On,Ge]
    | none =>
      cases r with
      | some x=>grind [On,Ge]
      | none=>exact absurd rfl h
  grind [Tk]
theorem Am{rl:List Rl}:∀(F:Nat)(p:List Str)(n:Nat)(b l r:Option Tree),aL (Hf rl F p n b l r).2<=Ge l+Ge r:=by
  intro F
  induction F with
  | zero=>grind [Hf]
  | succ F ih =>
    intro p n b l r;rw[Hf];split
    ·simp
    rename_i c1
    split
    ·simp
    split
    ·simp
    cases b with
    | none=>exact Km c1
    | some x =>
      cases l with
      | none=>exact Km c1
      | some y =>
        cases r with
        | none=>exact Km c1
        | some z =>
          simp only[Zq];split
          ·split
           ·have h1 := Mq (n := n) (λk n => ih (p ++ [k]) n (Qd x k) (Qd y k) (Qd z k)) (aL (Uc [y.keys, z.keys])) (gQ _)
            rw[List.take_length]at h1;have h2:=Gk (Id [y.keys,z.keys]) y;have h3:=Gk (Id [y.keys,z.keys]) z;grind [GI,Ge]
           split
           ·have hgap:aL (Lh.gapM (Hf rl F) p n x y z).2<=Ge (some y)+Ge (some z):=by
              unfold Lh.gapM;split
              ·unfold N2
               have h1:=Qt (n:=n) (base:=x.items) (x:=Ec x.items y.items) (y:=Ec x.items z.items) (λs n k=>ih (p++[s]) n _ _ _) (aL x.items);have h2:=Yw p (aL x.items) (n+(Af (Hf rl F) p n x.items (Ec x.items y.items) (Ec x.items z.items) (aL x.items)).2.length) ((Ec x.items y.items).put (aL x.items))<|(Ec x.items z.items).put (aL x.items);have h3:=Nh x.items y.items (aL x.items)<|gQ _;have h4:=Nh x.items z.items (aL x.items)<|gQ _;rw[uQ rfl]at h3 h4;have h5:∀v:Tree,Oa v.items<=Ja v:=λv=>by cases v;rw[Ja];simp only[Tree.items];omega
               grind [Ge]
              grind [Km]
            rw[Lh];cases Vi rl p with
            | none=>grind
            | some key =>
              simp only;split
              ·have h1 := Mq (n := n) (λk n => ih (p ++ [Zo k]) n (Xb x key k) (Xb y key k) (Xb z key k)) (aL (Uc [Ob y key, Ob z key])) (gQ _)
               rw[List.take_length]at h1;have h2:=Gi (Id [Ob y key,Ob z key]) y key;have h3:=Gi (Id [Ob y key,Ob z key]) z key;grind [Bx,Ge,Km]
              grind
           grind [Km]
          grind [Km]
end Go.Scarf
