/- A part of the proof. -/
import Derived.Test.YteedfdfinodcaaaGreatDoorA4
set_option linter.all false
set_option maxHeartbeats 8000000
set_option maxRecDepth 10000
set_option synthInstance.maxHeartbeats 0
set_option synthInstance.maxSize 9999
namespace Go.Scarf
open List renaming length->aL
open Go.RowKit Go.Proofs Go.Proofs.Tryz
variable {w w0:World}{S:Nat->Prop}{b l r:Sd}{x y z:Sv}{j:Nat}{α:Type}
def Ym(x:Tv):Calls prog 24 #[.agg (x.cells).toArray] w0 (Qb λv w'=>v=.agg #[.bool true,J (x.k),I (x.t),.slice x.A x.n x.c,.slice x.B x.m x.e]/\Same [] w0 w'):=by
 refine Ha func24 ntmps24 ?_;intro hF;refine rn 3 ?_;rintro b1 w hb1 hF -;refine rn 1 ?_;rintro b2 w hb2 hF -;refine rn 5<|Da (w':=w) (v:=.agg #[.bool true,J x.k,I x.t,.slice x.A x.n x.c,.slice x.B x.m x.e]) Ib ?_;refine rn 1 ?_;rintro w hF -;refine rn 3 ?_;exact⟨O,hF.same⟩
structure SdOk (s:Sd):Prop where
  sz:Ja s.val<=1000000000
  ok:Rw s.val
def RZ:SdOk noS:=⟨by simp[noS,zeroT,Ja,Oa],by simp[noS,zeroT,Rw,KJ]⟩
def U3(a b:Sd):Bool:=(a.has==b.has)&&(!a.has || Dx a.val b.val)
theorem Br(a b:Sd)(x y:Sv)(S S':Nat->Prop)(hX:Rep S w0 (Rc a) x.cells)(hY:Rep S' w0 (Rc b) y.cells)(ha:SdOk a)(hb:SdOk b)(hG:Gl w0):Calls prog 42 #[.agg (x.cells).toArray,.agg (y.cells).toArray] w0 (Qb λv w'=>v=.bool (U3 a b)/\Same [] w0 w'):=by
 have hx:=Hc hX;have hy:=Hc hY;refine Ha func42 ntmps42 ?_;intro hF;refine rn 3 ?_;rintro b1 w hb1 hF -;refine rn 1 ?_;rintro b2 w hb2 hF -;refine rn 9<|Da (v:=.bool<|(x.h)==(y.h)) (x_eqlb underlying4 O O) ?_;refine rn 2 ⟨λhg0=>?_,λhg0=>?_⟩;refine rn 5 ⟨λhg1=>?_,λhg1=>?_⟩;refine rn 11 ⟨?_,hF.same⟩;rw[U3,<-hx.1,<-hy.1]
 first|(cases h1:x.h <;> cases h2:y.h <;> simp_all)|(simp_all)
 refine rn 4<|Ta (LF a.val b.val ha.sz hb.sz _ _ _ x.v.cells y.v.cells (hF.rep hx.2.2.2.2) (hF.rep hy.2.2.2.2) ha.ok hb.ok<|hG.ext hF.same) ?_;rintro w hF -;refine rn 6 ⟨?_,hF.same⟩;rw[U3,<-hx.1,<-hy.1]
 first|(cases h1:x.h <;> cases h2:y.h <;> simp_all)|(simp_all)
 refine rn 15 ⟨?_,hF.same⟩;rw[U3,<-hx.1,<-hy.1]
 first|(cases h1:x.h <;> cases h2:y.h <;> simp_all)|(simp_all)
theorem Kh(s:Sd)(x:Sv)(S:Nat->Prop)(hX:Rep S w0 (Rc s) x.cells)(hs:SdOk s)(hG:Gl w0):Calls prog 43 #[.agg x.cells.toArray] w0 (Qb λv w'=>∃y:Sv,v=.agg y.cells.toArray/\Rep (Btw w0 w') w' (Rc (Zk s)) y.cells/\Same [] w0 w'):=by
 have hx:=Hc hX;refine Ha func43 ntmps43 ?_;intro hF;refine rn 3 ?_;rintro b1 w hb1 hF -;refine rn 1 ?_;rintro b2 w hb2 hF -;refine rn 11 ⟨λhc0=>?_,λhc0=>?_⟩;have h0:s.has=false:=by rw[<-hx.1];simpa using hc0
 refine rn 2<|Da (w':=w) (v:=.agg #[.bool false,J 0,I [],aQ,aQ]) Ib ?_;refine rn 1 ?_;rintro w hF -;refine rn 3 ?_;have e:Zk s=noS:=by rw[Zk,tQ (by rw[h0];decide)]
 rw[e];exact⟨⟨false,IQ⟩,O,R4,hF.same⟩;have h0:s.has=true:=by rw[<-hx.1];simpa using hc0
 refine rn 6<|Yb (OD s.val hs.sz _ _ x.v.cells (hF.rep hx.2.2.2.2) hs.ok<|hG.ext hF.same) ?_;rintro _ w ⟨ct,rfl,hRt,hE⟩;obtain⟨q,rfl,-⟩:=Hj hRt;have hYX:=RX.made (ids:=[b2,b1]) hF.same.size (λx hx=>hF.lt_ids qJ) hRt;have hF:=hF.ext hE;clear hE hRt;refine Ta (Ym q) ?_;intro w hF hE;have hYX:=hYX.ext hE;refine rn 1 ?_;intro w hF hE;have hYX:=hYX.store hE qJ;refine rn 3 ?_;have e:Zk s=⟨true,Jy s.val⟩:=by rw[Zk,uQ h0]
 rw[e]
 ·exact⟨⟨true,q⟩,O,Wi (s:=⟨true,Jy s.val⟩) hYX.done,hF.same⟩
def C4(b l r:Sd):Int:=if b.has=false then 4 else if l.has=false\/r.has=false then 3 else if b.val.kind=l.val.kind/\b.val.kind=r.val.kind then 1 else 2
theorem Ti(h:Rep S w (Uo b l r) (th x y z)):Rep S w (Rc b) x.cells/\Rep S w (Rc l) y.cells/\Rep S w (Rc r) z.cells:=by
  unfold Uo at h;rw[Rep]at h;obtain⟨c1,d1,e1,h1,h⟩:=RepL.cons_inv h;obtain⟨c2,d2,rfl,h2,h⟩:=RepL.cons_inv h;obtain⟨c3,d3,rfl,h3,h⟩:=RepL.cons_inv h;obtain rfl:=RepL.nil_inv h;have l1:=h1.length.trans<|To b;have l2:=h2.length.trans<|To l;have l3:=h3.length.trans<|To r
  match c1,l1,c2,l2,c3,l3 with
  | [a0,a1,a2,a3,a4],_,[b0,b1,b2,b3,b4],_,[u0,u1,u2,u3,u4],_=>grind
def Jm(h1:Rep S w (Rc b) x.cells)(h2:Rep S w (Rc l) y.cells)(h3:Rep S w (Rc r) z.cells):Rep S w (Uo b l r) (th x y z):=by
  unfold Uo;rw[Rep];exact RepL.cons_mk h1<|RepL.cons_mk h2<|RepL.cons_mk h3 RepL.nil_mk
theorem class_c(b l r:Sd)(x y z:Sv)(S:Nat->Prop)(w0:World)(hX:Rep S w0 (Rc b) x.cells)(hY:Rep S w0 (Rc l) y.cells)(hZ:Rep S w0 (Rc r) z.cells):Calls prog 44 #[.agg (th x y z).toArray] w0 (Qb λv w'=>v=J (C4 b l r)/\Same [] w0 w'):=by
  have hx:=Hc hX;have hy:=Hc hY;have hz:=Hc hZ;refine Ha func44 ntmps44 ?_;intro hF;refine rn 3 ?_;intro b1 w hb1 hF hE;refine rn 24 ⟨λhc0=>?_,λhc0=>?_⟩
  ·
   refine rn 6 ⟨?_,hF.same⟩;rw[C4,<-hx.1,<-hy.1,<-hz.1,<-hx.2.1,<-hy.2.1,<-hz.2.1];simp_all
  refine rn 8 ⟨λhg0=>?_,λhg0=>?_⟩
  ·
   refine rn 15 ⟨?_,hF.same⟩;rw[C4,<-hx.1,<-hy.1,<-hz.1,<-hx.2.1,<-hy.2.1,<-hz.2.1];simp_all
  refine rn 9 ⟨λhc1=>?_,λhc1=>?_⟩
  ·
   refine rn 6 ⟨?_,hF.same⟩;rw[C4,<-hx.1,<-hy.1,<-hz.1,<-hx.2.1,<-hy.2.1,<-hz.2.1];simp_all
  refine rn 10 ⟨λhg1=>?_,λhg1=>?_⟩
  ·
   refine rn 11 ⟨λhc2=>?_,λhc2=>?_⟩
   ·
    refine rn 6 ⟨?_,hF.same⟩;rw[C4,<-hx.1,<-hy.1,<-hz.1,<-hx.2.1,<-hy.2.1,<-hz.2.1];simp_all
   refine rn 9 ⟨?_,hF.same⟩;rw[C4,<-hx.1,<-hy.1,<-hz.1,<-hx.2.1,<-hy.2.1,<-hz.2.1];simp_all
  refine rn 20 ⟨?_,hF.same⟩;rw[C4,<-hx.1,<-hy.1,<-hz.1,<-hx.2.1,<-hy.2.1,<-hz.2.1];simp_all
def Gu(path:List Str)(k:Str)(PA:Option Addr)(pc:Nat)(S:Nat->Prop)(w0:World)(hP:Rep S w0 (Wa path) [.slice PA (aL path) pc])(hk:aL k<=9223372036854775807)(hpl:aL path<=1000):Calls prog 75 #[.slice PA (aL path) pc,I k] w0 (Qb λv w'=>∃A c,v=.slice A (aL (path++[k])) c/\Rep (Btw w0 w') w' (Wa (path++[k])) [.slice A (aL (path++[k])) c]/\Same [] w0 w'):=by
 obtain⟨eP,hrP,hPl,hPc⟩:=hP.slice_open<|L0 path;refine Ha func75 ntmps75 ?_;intro hF;refine rn 8<|Yb (Xz (aL path) PA pc eP _ hPl (Lie.ext hPc hF.same) hrP.one_ fX) ?_;rintro _ w ⟨A1,c1,sb,rfl,hS,hh2,hE⟩;have hF:=hF.extseg hE hh2 hS.pw;refine rn 2 ?_;rintro b1 w hb1 hF -;refine C_ hS (len':=aL (path++[k])) (ys:=eP++[I k]) Ca (O) ?_;intro A0 c0 p_0 w hS0_p hF hE hnew;refine rn 4 ?_;have hK:RX w0 [] w ((path++[k]).map Hh) (eP++[I k]):=by rw[jQ];exact RepL.append hrP.lits<|RepL.cons_mk (c2:=[]) (Rep.lit_mk (v:=I k) hk) RepL.nil_mk
 exact⟨_,_,O,hS0_p.rep (pre:=[_]) (post:=[]) hF hK Ca,hF.same⟩
theorem FR.ltD{E i L:List Nat}{bs_:List (Nat × Obj)}(hF:FR w0 E bs_ w)(hib:∀x∈i,8<=x/\x<w0.heap.size)(hL:∀x∈L,x∈bs_.map (·.1)):∀x∈L++i,x<w.heap.size:=λx hx=>by
  rcases mQ.1 hx with h|h
  ·exact hF.lt_ids<|hL x h
  exact Nat.lt_of_lt_of_le (hib x h).2 hF.same.size
structure Mi (i:List Nat) (w:World) (sm:List (Nat × Obj)) (pb:Nat) (RV:Value) (cfs:List Cf):Prop where
  m:Mx i w sm pb RV cfs
  hh:∀q∈sm,w.heap[q.1]? = some q.2
  sub:∀x∈ids sm,x∈i
  low:∀x∈i,8<=x/\x<w.heap.size
theorem Mi.start{i:List Nat}{sm:List (Nat × Obj)}{pb:Nat}{RV:Value}{cfs:List Cf}(h:Mi i w sm pb RV cfs):FR w (ids sm) ([]++(sm++[])) w:=h.m.start h.hh
structure Mo' (i:List Nat) (w:World) (sm:List (Nat × Obj)) (w':World) (sm':List (Nat × Obj)) (pb:Nat) (RV:Value) (cfs:List Cf):Prop where
  m:Mx (i++ids sm') w' sm' pb RV cfs
  hh:∀q∈sm',w'.heap[q.1]? = some q.2
  mc:Mc w sm w' sm'
theorem Ow(path:List Str)(cls:Int)(b l r:Sd)(x y z:Sv)(PA:Option Addr)(pc:Nat)(SP S:Nat->Prop)(w0:World)(sm:List (Nat × Obj))(pb:Nat)(RV:Value)(cfs:List Cf)(i:List Nat)(hM:Mi i w0 sm pb RV cfs)(hOp0:Off SP w0 sm)(hOf0:Off S w0 sm)(hP:Rep SP w0 (Wa path) [.slice PA (aL path) pc])(hT:Rep S w0 (Uo b l r) (th x y z))(hb:SdOk b)(hl:SdOk l)(hr:SdOk r)(hn:aL cfs<1000)(hpl:aL path<=1000)(hc0:0<=cls/\cls<=10)(hG:Gl w0):Calls prog 45 #[V pb,.slice PA (aL path) pc,J cls,.agg (th x y z).toArray] w0 (Qb λv w'=>∃sm',v=.agg #[.bool true,J 7,I (Sj (aL cfs)),aQ,aQ]/\Mo' i w0 sm w' sm' pb RV (cfs++[⟨path,cls,Zk b,Zk l,Zk r⟩])):=by
 have hPl0:=hP.slice_len;obtain⟨hx,hy,hz⟩:=Ti hT;have hF:=hM.start;have hib:=hM.low;have hi:=hM.sub;obtain⟨E,hD⟩:∃E,E=ids sm:=⟨_,rfl⟩;have h8:∀b∈E,8<=b:=λb hb=>(hib b<|hi b (by rw[<-hD];exact hb)).1;have hOf:∀b,S b->b<w0.heap.size/\b∉E:=λb hb=>by rw[hD];exact hOf0 b hb
 have hOp:∀b,SP b->b<w0.heap.size/\b∉E:=λb hb=>by rw[hD];exact hOp0 b hb
 rw[<-hD]at hF;obtain⟨A,c,sl,vals,rfl,hS,hX⟩:=hM.m.ex;have hpb:pb∈i:=hi pb zQ;have hsl:∀x∈sl.map (·.1),x∈i:=λx hx=>hi x<|fZ _ hx;have hF:FR w0 E ([(pb,(.cells #[RV,.slice A (aL cfs) c] 57))]++(sl++[])) w0:=hF;refine Wb func45 ntmps45 O O ?_
 skip
 refine rn 3 ?_;intro b1 w hb1 hF hE;have hX:=hX.alloc hE hb1;refine rn 1 ?_;intro b2 w hb2 hF hE;have hX:=hX.alloc hE hb2;refine rn 9<|Ta (num_c (aL cfs:Int) fX fX _<|hG.same hF.same h8) ?_;intro w hF hE;have hX:=hX.ext hE;refine Da (w':=w) (v:=I<|Nm<|NG (aL cfs:Int)) Ib<|Da (w':=w) (v:=.agg #[J 7,I<|Nm<|NG (aL cfs:Int),aQ,aQ]) Ib ?_;refine rn 1 ?_;intro b3 w hb3 hF hE;have hX:=hX.alloc hE hb3;refine rn 3<|Vb ⟨[22],λwq=>FR w0 E [(b3,.cells #[J 7,I<|Nm<|NG (aL cfs:Int),aQ,aQ] 25),(b2,.cells #[.bool false,J 0,I [],aQ,aQ] 36),(b1,.cells ((th x y z)).toArray 61)] wq,[20]⟩ (bQ [0,1,2,3,4,5,7,8,9,11,12,14,15]<|cQ [6,10,13,16]<|.free 17<|.act 18<|.act 19<|.free 20<|.free 21<|.act 22 .nil) hF ?_;intro w hF hE;have hX:=hX.ext hE;refine⟨λwq=>FR w0 E [(b3,.cells #[J 7,I<|Nm<|NG (aL cfs:Int),aQ,aQ] 25),(b2,.cells #[.bool false,J 0,I [],aQ,aQ] 36),(b1,.cells ((th x y z)).toArray 61),(pb,.cells #[RV,.slice A (aL cfs) c] 57)] wq,hF.mid 0 4,?_⟩;refine rn 8 ?_;refine Fa O (v:=.agg (x.cells).toArray) (λw hC=>Qa (l:=x.cells) isAgg36 sizeOf36 O O<|hC.part 2 0 O O)<|rn 1 ?_;refine Fa O (v:=.agg (y.cells).toArray) (λw hC=>Qa (l:=y.cells) isAgg36 sizeOf36 O O<|hC.part 2 5 O O)<|rn 1 ?_;refine Fa O (v:=.agg (z.cells).toArray) (λw hC=>Qa (l:=z.cells) isAgg36 sizeOf36 O O<|hC.part 2 10 O O) ?_;obtain⟨eP,hrP,hPl,hPc⟩:=(hF.repE hOp hP).slice_open (L0 path);refine Me (Xz (aL path) PA pc eP _ hPl (λh=>by obtain⟨ad,e,hc⟩:=hPc h;exact⟨ad,e,hc⟩) hrP.one_ fX) ?_;rintro _ w hcl;obtain⟨Ap,cp,rfl,hKt,hE⟩:=X2 hcl hrP;have hPX:=RX.made (ids:=[b3,b2,b1]++i) hF.same.size (hF.ltD hib Ca) hKt;have hF:=hF.ext hE;have hX:=hX.ext hE;clear hE hcl hKt hrP hPc;refine⟨hF.su,?_⟩;refine Me (Kh b x S (hF.repE hOf hx) hb<|hG.same hF.same h8) ?_
 rintro _ w ⟨y0,rfl,hRt,hE⟩;have hY0:=RX.made (ids:=[b3,b2,b1]++i) hF.same.size (hF.ltD hib Ca) hRt;have hF:=hF.ext hE;have hX:=hX.ext hE;have hPX:=hPX.ext hE;clear hE hRt;refine⟨hF.su,?_⟩;refine Me (Kh l y S (hF.repE hOf hy) hl<|hG.same hF.same h8) ?_;rintro _ w ⟨y1,rfl,hRt,hE⟩;have hY1:=RX.made (ids:=[b3,b2,b1]++i) hF.same.size (hF.ltD hib Ca) hRt;have hF:=hF.ext hE;have hX:=hX.ext hE;have hPX:=hPX.ext hE;have hY0:=hY0.ext hE;clear hE hRt;refine⟨hF.su,?_⟩;refine Me (Kh r z S (hF.repE hOf hz) hr<|hG.same hF.same h8) ?_;rintro _ w ⟨y2,rfl,hRt,hE⟩;have hY2:=RX.made (ids:=[b3,b2,b1]++i) hF.same.size (hF.ltD hib Ca) hRt;have hF:=hF.ext hE;have hX:=hX.ext hE;have hPX:=hPX.ext hE;have hY0:=hY0.ext hE;have hY1:=hY1.ext hE;clear hE hRt;refine⟨hF.su,?_⟩;refine Fa O (v:=.agg #[.slice Ap (aL path) cp,J cls,.bool y0.h,J y0.v.k,I y0.v.t,.slice y0.v.A y0.v.n y0.v.c,.slice y0.v.B y0.v.m y0.v.e,.bool y1.h,J y1.v.k,I y1.v.t,.slice y1.v.A y1.v.n y1.v.c,.slice y1.v.B y1.v.m y1.v.e,.bool y2.h,J y2.v.k,I y2.v.t,.slice y2.v.A y2.v.n y2.v.c,.slice y2.v.B y2.v.m y2.v.e]) (λw hC=>by kernel_rfl)<|rn 1 ?_;intro b4 w hb4 hF hE;have hX:=hX.alloc hE hb4;have hPX:=hPX.alloc hE hb4;have hY0:=hY0.alloc hE hb4;have hY1:=hY1.alloc hE hb4;have hY2:=hY2.alloc hE hb4;refine D4 hS (len':=aL cfs+1) (ys:=vals++[.slice Ap (aL path) cp,J cls,.bool y0.h,J y0.v.k,I y0.v.t,.slice y0.v.A y0.v.n y0.v.c,.slice y0.v.B y0.v.m y0.v.e,.bool y1.h,J y1.v.k,I y1.v.t,.slice y1.v.A y1.v.n y1.v.c,.slice y1.v.B y1.v.m y1.v.e,.bool y2.h,J y2.v.k,I y2.v.t,.slice y2.v.A y2.v.n y2.v.c,.slice y2.v.B y2.v.m y2.v.e]) (O) (O) ?_;intro A0 c0 s_0 w hS0_s hF hE hnew;have hX:=hX.grow hE hnew zG
 have hPX:=hPX.grow hE hnew zG;have hY0:=hY0.grow hE hnew zG;have hY1:=hY1.grow hE hnew zG;have hY2:=hY2.grow hE hnew zG;refine rn 3 ?_;intro w hF hE;have hX:=hX.store hE qJ;have hPX:=hPX.store hE qJ;have hY0:=hY0.store hE qJ;have hY1:=hY1.store hE qJ;have hY2:=hY2.store hE qJ;refine rn 5<|Ta (Ym ⟨7,Sj (aL cfs),none,0,0,none,0,0⟩) ?_;intro w hF hE;have hX:=hX.ext hE;have hPX:=hPX.ext hE;have hY0:=hY0.ext hE;have hY1:=hY1.ext hE;have hY2:=hY2.ext hE;refine rn 1 ?_;intro w hF hE;have hX:=hX.store hE qJ;have hPX:=hPX.store hE qJ;have hY0:=hY0.store hE qJ;have hY1:=hY1.store hE qJ;have hY2:=hY2.store hE qJ;refine rn 3 ?_;have hN:=hPX.append<|(RX.plain (ds:=[Pd cls]) (cs:=[J cls]) λ_=>RepL.cons_mk (c2:=[]) (Rep.lit_mk (v:=J cls) (show Wx _ from⟨(by omega:(-9223372036854775808:Int)<=cls),(by omega:cls<=9223372036854775807)⟩)) RepL.nil_mk).append (hY0.append<|hY1.append hY2);have hN2:=(RX.one<|Rep.agg_mk hN).empty w;have hX2:=(hX.empty w).append hN2
 skip
 refine⟨(pb,.cells #[RV,.slice A0 (aL cfs+1) c0] 57)::s_0,O,⟨⟨A0,c0,s_0,_,by rw[dQ];rfl,by rw[dQ];exact hS0_s,?_⟩,λq hq=>(FR.segs_of (pre:=[_,_,_,_]) (post:=[]) hF q hq).1,?_⟩⟩;rw[jQ];exact hX2.sub (λx hx=>by simp only[ids,iZ,mQ,oQ]at hx ⊢;grind);subst hD;exact FR.toMc (pre:=[_,_,_,_]) (post:=[]) hF
def MS(si:Int):Option Nat:=if si<0 then none else some si.toNat
structure MtI (p q:List Str) (R:Bool) (f i k:Nat) (si:Int) (tk:Nat):Prop where
  res:mtF p q f ⟨i,k,MS si,tk⟩=R
  fuel:mtM p q ⟨i,k,MS si,tk⟩<f
  ip:i<=aL p
  kq:k<=aL q
  tk:tk<=k
  lo:-1<=si
  hi:si<i
theorem JL{a b X:Nat}(h:a+1<=b):a*X+X<=b*X:=by
  have:=Nat.mul_le_mul_right X h;grind
section
variable {p q:List Str}{R:Bool}{f i k tk:Nat}{si:Int}
theorem MtI.start(h1:aL p<=200)(h2:aL q<=200):MtI p q (Lo p q) 10000000 0 0 (-1) 0:=by
  refine⟨?_,?_,bZ _,bZ _,gQ _,by_Om,by_Om⟩
  ·unfold Lo
   rw[eZ h1,eZ h2,Bool.true_and,Bool.true_and];rfl
  have e : MS (-1) = none := rfl;rw[e,mtM];simp only[if_true,Nat.sub_zero];have a1:(aL p+1)*((aL q+1)*(aL q+1))<=201*(201*201):=Nat.mul_le_mul fX<|Nat.mul_le_mul fX fX;have a2:aL q*(aL q+1)<=200*201:=Nat.mul_le_mul fX fX;omega
theorem MtI.step(h:MtI p q R f i k si tk)(hk:k<aL q):∃f',f=f'+1/\(match mtN p q ⟨i,k,MS si,tk⟩with|some m'=>mtF p q f' m'|none=>false)=R:=by
  obtain⟨f',rfl⟩:∃g,f=g+1:=⟨f-1,by have:=h.fuel;omega⟩;have hr:=h.res;grind [mtF]
theorem MtI.star(h:MtI p q R f i k si tk)(hk:k<aL q)(hi:i<aL p)(e:p[i]=[42,42]):MtI p q R (f-1) (i+1) k (i:Int) k:=by
  obtain⟨f',rfl,hr⟩:=h.step hk;have eN:mtN p q ⟨i,k,MS si,tk⟩=some ⟨i+1,k,some i,k⟩:=by rw[mtN,uQ];rw[List.getElem?_eq_getElem hi,e];rfl
  have es:MS (i:Int)=some i:=by grind [MS]
  rw[eN]at hr;refine⟨by rw[es];exact hr,?_,by_Om,h.kq,gQ _,by_Om,by_Om⟩;have hf:=h.fuel;rw[es];have X:(aL q-k)*(aL q+1)+(aL q-k)<(aL q+1)*(aL q+1):=by
    have:=Nat.mul_le_mul_right (aL q+1)<|Nat.sub_le (aL q) k;grind
  have h1:=h.hi;by_cases hs:si<0
  ·rw[show MS si = none from uQ hs]at hf
   unfold mtM at hf ⊢;simp only[reduceCtorEq,if_false,if_true,Nat.add_zero,Nat.sub_zero]at hf ⊢;have Z:=JL (X:=(aL q+1)*(aL q+1)) (a:=aL p-i) (b:=aL p+1) fX;omega
  rw[show MS si = some si.toNat from tQ hs]at hf;unfold mtM at hf ⊢;simp only[reduceCtorEq,if_false,Nat.add_zero]at hf ⊢;have Z:=JL (X:=(aL q+1)*(aL q+1)) (a:=aL p-i) (b:=aL p-si.toNat) fX;omega
theorem MtI.one(h:MtI p q R f i k si tk)(hk:k<aL q)(hi:i<aL p)(n:¬p[i]=[42,42])(e:p[i]=[42]\/p[i]=q[k]):MtI p q R (f-1) (i+1) (k+1) si tk:=by
  obtain⟨f',rfl,hr⟩:=h.step hk;have eN:mtN p q ⟨i,k,MS si,tk⟩=some ⟨i+1,k+1,MS si,tk⟩:=by
    rw[mtN,tQ,uQ]
    ·simp only[List.getElem?_eq_getElem hi, List.getElem?_eq_getElem hk]
     rcases e with e|e
     ·exact .inl (by rw[e];rfl)
     grind
    simp only[List.getElem?_eq_getElem hi];exact λhh=>n<|lQ hh
  rw[eN]at hr;refine⟨hr,?_,by_Om,by_Om,by have:=h.tk;omega,h.lo,by have:=h.hi;omega⟩;have hf:=h.fuel;grind [mtM]
theorem MtI.other(n:∀hi:i<aL p,¬p[i]=[42,42]/\¬p[i]=[42]/\∀hk:k<aL q,¬p[i]=q[k])(hk:k<aL q){st:Option Nat}:mtN p q ⟨i,k,st,tk⟩=match st with|some s=>some ⟨s+1,tk+1,some s,tk+1⟩|none=>none:=by
  have g:¬p[i]? = some GC/\¬(p[i]? = some oneS\/(p[i]?≠none/\p[i]? = q[k]?)):=by
    by_cases hi:i<aL p
    ·obtain⟨n1, n2, n3⟩ := n hi
     rw[List.getElem?_eq_getElem hi,List.getElem?_eq_getElem hk];refine⟨λhh=>n1<|lQ hh,?_⟩;rintro (hh|⟨-,hh⟩)
     ·exact n2<|lQ hh
     grind
    grind
  show (if p[i]? = some GC then _ else if p[i]? = some oneS\/(p[i]?≠none/\p[i]? = q[k]?) then _ else _)=_;grind
theorem MtI.back(h:MtI p q R f i k si tk)(hk:k<aL q)(n:∀hi:i<aL p,¬p[i]=[42,42]/\¬p[i]=[42]/\∀hk:k<aL q,¬p[i]=q[k])(hs:0<=si):MtI p q R (f-1) (si.toNat+1) (tk+1) si (tk+1):=by
  obtain⟨f',rfl,hr⟩:=h.step hk;have es:MS si=some si.toNat:=by grind [MS]
  rw[MtI.other n hk,es]at hr;have h1:=h.hi;have h2:=h.ip;have h3:=h.tk;refine⟨by rw[es];exact hr,?_,by_Om,by_Om,gQ _,h.lo,by_Om⟩;have hf:=h.fuel;rw[es]at hf ⊢;unfold mtM at hf ⊢;simp only[reduceCtorEq,if_false,Nat.add_zero]at hf ⊢;have:=JL (X:=aL q+1) (a:=aL q-(tk+1)) (b:=aL q-tk) fX;omega
theorem MtI.no(h:MtI p q R f i k si tk)(hk:k<aL q)(n:∀hi:i<aL p,¬p[i]=[42,42]/\¬p[i]=[42]/\∀hk:k<aL q,¬p[i]=q[k])(hs:¬0<=si):R=false:=by
  obtain⟨f',rfl,hr⟩:=h.step hk;grind [MS,MtI.other]
structure MtJ (p:List Str) (R:Bool) (j:Nat):Prop where
  jp:j<=aL p
  res:((p.drop j).all λs=>decide (s=GC))=R
def MtI.done(h:MtI p q R f i k si tk)(hk:¬k<aL q):MtJ p R i:=by
  obtain⟨f',rfl⟩:∃g,f=g+1:=⟨f-1,by have:=h.fuel;omega⟩;have hr:=h.res;rw[mtF,tQ hk]at hr;exact⟨h.ip,hr⟩
def MtJ.next(h:MtJ p R j)(hj:j<aL p)(e:p[j]=[42,42]):MtJ p R (j+1):=by
  refine⟨hj,?_⟩;have:=h.res;rw[List.drop_eq_getElem_cons hj,List.all_cons,e]at this;exact this
theorem MtJ.end(h:MtJ p R j)(n:∀hj:j<aL p,¬p[j]=[42,42]):decide ((j:Int)=(aL p:Int))=R:=by
  have hr:=h.res;by_cases hj:j<aL p
  ·rw[List.drop_eq_getElem_cons hj, List.all_cons, show decide (p[j] = GC) = false from dZ<|n hj, Bool.false_and]at hr
   grind
  have e : j = (aL p) := by have := h.jp;omega
  grind
theorem U6(h:¬(aL p<=200/\aL q<=200)):Lo p q=false:=by grind [Lo]
end
def match_c(p q:List Str)(A B:Option Addr)(c e:Nat)(S S':Nat->Prop)(w0:World)(hP:Rep S w0 (Wa p) [.slice A (aL p) c])(hQ:Rep S' w0 (Wa q) [.slice B (aL q) e]):Calls prog 102 #[.slice A (aL p) c,.slice B (aL q) e] w0 (Qb λv w'=>v=.bool (Lo p q)/\Same [] w0 w'):=by
 have hPl:=hP.slice_len;have hQl:=hQ.slice_len;refine Ha func102 ntmps102 ?_;intro hF;refine rn 13 ⟨λhg0=>?_,λhg0=>?_⟩
 ·
  refine rn 13 ?_;exact⟨by rw[U6 fX],hF.same⟩
 refine rn 7 ⟨λhc0=>?_,λhc0=>?_⟩
 ·
  refine rn 6 ?_;exact⟨by rw[U6 fX],hF.same⟩
 refine rn 12<|Za (λμ σ w=>∃(f:Nat),∃(i:Nat),∃(k:Nat),∃(si:Int),∃(tk:Nat),μ=f/\(MtI p q (Lo p q) f i k si tk)/\AllEq σ [(0,.slice A (aL p) c),(1,.slice B (aL q) e),(5,J<|(i:Int)),(6,J<|(k:Int)),(7,J si),(8,J<|(tk:Int))]/\FR w0 [] [] w) _ ⟨10000000,0,0,-1,0,O,MtI.start fX fX,Gc,hF⟩ ?_;rintro μ σ w ⟨f,i,k,si,tk,rfl,hm,hzz,hF⟩;have hmf:=hm.fuel;have hmi:=hm.ip;have hmk:=hm.kq;have hml:=hm.lo;have hmh:=hm.hi;have hmt:=hm.tk;refine Gh hzz 10 ⟨λhc1=>?_,λhc1=>?_⟩
 ·
  refine rn 12 ⟨λhg1=>?_,λhg1=>?_⟩
  ·
   refine rn 2 ?_;obtain⟨ad2,hA2,hk2,hx2⟩:=hP.str_elem (i:=i) fX;refine Da (v:=.pointer<|some<|ad2.add<|i*1) (Ea (i:=(i:Int)) Hd hA2)<|Da (v:=I<|p[i]) (Ma qZ<|hF.cell0 hk2) ?_;refine rn 6 ⟨λhc2=>?_,λhc2=>?_⟩
   ·
    refine rn 10<|Tc (Le<|((i+1:Nat):Int)) ?_;refine rn 4 ?_;refine Va ⟨_,?_,μ-1,i+1,k,(i:Int),k,rfl,hm.star fX fX jJ,Gc,hF⟩;omega
   refine rn 1<|Fe (zs:=.of []) (bQ [0,1,2,3,4,5,6,7,8,9,10,11,12,13,14,15,16,17,18,19,20,21,22] .nil) hF ?_;intro w hF;refine rn 6 ⟨λhg3=>?_,λhg3=>?_⟩
   ·
    refine rn 2 ?_;obtain⟨ad4,hA4,hk4,hx4⟩:=hP.str_elem (i:=i) fX;refine Fa O (v:=.pointer<|some<|ad4.add<|i*1) (λw hC=>Ea (i:=(i:Int)) Hd hA4)<|Fa O (v:=I<|p[i]) (λw hC=>Ma qZ<|hC.cell0 hk4) ?_;refine rn 3 ⟨λhg5=>?_,λhg5=>?_⟩
    ·
     refine rn 17<|Tc (Le<|((i+1:Nat):Int)) ?_;refine rn 1<|Tc (Le<|((k+1:Nat):Int)) ?_;refine rn 5 ?_;refine Va ⟨_,?_,μ-1,i+1,k+1,si,tk,rfl,hm.one fX fX jJ zB,Gc,hF⟩;omega
    refine rn 2 ?_;obtain⟨ad6,hA6,hk6,hx6⟩:=hP.str_elem (i:=i) fX;refine Fa O (v:=.pointer<|some<|ad6.add<|i*1) (λw hC=>Ea (i:=(i:Int)) Hd hA6)<|Fa O (v:=I<|p[i]) (λw hC=>Ma qZ<|hC.cell0 hk6) ?_;refine rn 2 ?_;obtain⟨ad7,hA7,hk7,hx7⟩:=hQ.str_elem (i:=k) fX;refine Fa O (v:=.pointer<|some<|ad7.add<|k*1) (λw hC=>Ea (i:=(k:Int)) Hd hA7)<|Fa O (v:=I<|q[k]) (λw hC=>Ma qZ<|hC.cell0 hk7) ?_;refine rn 7 ⟨λhc3=>?_,λhc3=>?_⟩
    ·
     refine rn 2<|Tc (Le<|((i+1:Nat):Int)) ?_;refine rn 1<|Tc (Le<|((k+1:Nat):Int)) ?_;refine rn 5 ?_;refine Va ⟨_,?_,μ-1,i+1,k+1,si,tk,rfl,hm.one fX fX jJ zB,Gc,hF⟩;omega
    refine rn 8 ⟨λhc4=>?_,λhc4=>?_⟩
    ·
     refine rn 3<|Tc (Le<|((tk+1:Nat):Int)) ?_;refine rn 5<|Tc (Le<|((si.toNat+1:Nat):Int)) ?_;refine rn 6 ?_;refine Va ⟨_,?_,μ-1,si.toNat+1,tk+1,si,tk+1,rfl,hm.back fX qV fX,Gc,hF⟩;omega
    refine rn 6 ?_;exact⟨by rw[hm.no fX qV fX],hF.same⟩
   refine rn 29 ⟨λhc4=>?_,λhc4=>?_⟩
   ·
    refine rn 3<|Tc (Le<|((tk+1:Nat):Int)) ?_;refine rn 5<|Tc (Le<|((si.toNat+1:Nat):Int)) ?_;refine rn 6 ?_;refine Va ⟨_,?_,μ-1,si.toNat+1,tk+1,si,tk+1,rfl,hm.back fX qV fX,Gc,hF⟩;omega
   refine rn 6 ?_;exact⟨by rw[hm.no fX qV fX],hF.same⟩
  refine rn 11<|Fe (zs:=.of []) (bQ [0,1,2,3,4,5,6,7,8,9,10,11,12,13,14,15,16,17,18,19,20,21,22] .nil) hF ?_;intro w hF;refine rn 6 ⟨λhg8=>?_,λhg8=>?_⟩
  ·
   refine rn 2 ?_;obtain⟨ad9,hA9,hk9,hx9⟩:=hP.str_elem (i:=i) fX;refine Fa O (v:=.pointer<|some<|ad9.add<|i*1) (λw hC=>Ea (i:=(i:Int)) Hd hA9)<|Fa O (v:=I<|p[i]) (λw hC=>Ma qZ<|hC.cell0 hk9) ?_;refine rn 3 ⟨λhg10=>?_,λhg10=>?_⟩
   ·
    refine rn 17<|Tc (Le<|((i+1:Nat):Int)) ?_;refine rn 1<|Tc (Le<|((k+1:Nat):Int)) ?_;refine rn 5 ?_;refine Va ⟨_,?_,μ-1,i+1,k+1,si,tk,rfl,hm.one fX fX jJ zB,Gc,hF⟩;omega
   refine rn 2 ?_;obtain⟨ad11,hA11,hk11,hx11⟩:=hP.str_elem (i:=i) fX;refine Fa O (v:=.pointer<|some<|ad11.add<|i*1) (λw hC=>Ea (i:=(i:Int)) Hd hA11)<|Fa O (v:=I<|p[i]) (λw hC=>Ma qZ<|hC.cell0 hk11) ?_;refine rn 2 ?_;obtain⟨ad12,hA12,hk12,hx12⟩:=hQ.str_elem (i:=k) fX;refine Fa O (v:=.pointer<|some<|ad12.add<|k*1) (λw hC=>Ea (i:=(k:Int)) Hd hA12)<|Fa O (v:=I<|q[k]) (λw hC=>Ma qZ<|hC.cell0 hk12) ?_;refine rn 7 ⟨λhc3=>?_,λhc3=>?_⟩
   ·
    refine rn 2<|Tc (Le<|((i+1:Nat):Int)) ?_;refine rn 1<|Tc (Le<|((k+1:Nat):Int)) ?_;refine rn 5 ?_;refine Va ⟨_,?_,μ-1,i+1,k+1,si,tk,rfl,hm.one fX fX jJ zB,Gc,hF⟩;omega
   refine rn 8 ⟨λhc4=>?_,λhc4=>?_⟩
   ·
    refine rn 3<|Tc (Le<|((tk+1:Nat):Int)) ?_;refine rn 5<|Tc (Le<|((si.toNat+1:Nat):Int)) ?_;refine rn 6 ?_;refine Va ⟨_,?_,μ-1,si.toNat+1,tk+1,si,tk+1,rfl,hm.back fX qV fX,Gc,hF⟩;omega
   refine rn 6 ?_;exact⟨by rw[hm.no fX qV fX],hF.same⟩
  refine rn 29 ⟨λhc4=>?_,λhc4=>?_⟩
  ·
   refine rn 3<|Tc (Le<|((tk+1:Nat):Int)) ?_;refine rn 5<|Tc (Le<|((si.toNat+1:Nat):Int)) ?_;refine rn 6 ?_;refine Va ⟨_,?_,μ-1,si.toNat+1,tk+1,si,tk+1,rfl,hm.back fX qV fX,Gc,hF⟩;omega
  refine rn 6 ?_;exact⟨by rw[hm.no fX qV fX],hF.same⟩
 refine rn 4<|Za (λμ σ w=>∃(j:Nat),μ=aL p-j/\(MtJ p (Lo p q) j)/\AllEq σ [(0,.slice A (aL p) c),(5,J<|(j:Int))]/\FR w0 [] [] w) _ ⟨i,O,hm.done fX,Gc,hF⟩ ?_;rintro μ σ w ⟨j,rfl,hj,hzz,hF⟩;have hjp:=hj.jp;refine Gh hzz 9 ⟨λhg13=>?_,λhg13=>?_⟩
 ·
  refine rn 2 ?_;obtain⟨ad14,hA14,hk14,hx14⟩:=hP.str_elem (i:=j) fX;refine Da (v:=.pointer<|some<|ad14.add<|j*1) (Ea (i:=(j:Int)) Hd hA14)<|Da (v:=I<|p[j]) (Ma qZ<|hF.cell0 hk14) ?_;refine rn 5 ⟨λhc5=>?_,λhc5=>?_⟩
  ·
   refine rn 5<|Tc (Le<|((j+1:Nat):Int)) ?_;refine rn 3<|Va ⟨_,?_,j+1,O,hj.next fX qK,Gc,hF⟩;omega
  refine rn 12 ?_;exact⟨xQ Value.bool<|hj.end (by intro hi;first|(exfalso;omega)|assumption),hF.same⟩
 refine rn 21 ?_;exact⟨xQ Value.bool<|hj.end (by intro hi;first|(exfalso;omega)|assumption),hF.same⟩
def BN(s:Str)(hl:aL s<=140737488355328)(w0:World)(hG:Gl w0):Calls prog 98 #[I s] w0 (Qb λv w'=>v=.bool (Lib.validD s)/\Same [] w0 w'):=by
 refine Ha func98 ntmps98 ?_;intro hF;refine rn 8<|Yb (M4 s hl _<|hG.ext hF.same) ?_;rintro _ w ⟨n,rfl,hE⟩;have hF:=hF.ext hE;refine rn 14 ?_;exact⟨O,hF.same⟩
def ptrCl_c(s:Str)(hl:aL s<=140737488355328)(w0:World)(hG:Gl w0):Calls prog 97 #[I s] w0 (Qb λv w'=>v=.bool (!(Lib.validD s))/\Same [] w0 w'):=by
 refine Ha func97 ntmps97 ?_;intro hF;refine rn 8<|Ta (BN s hl _<|hG.ext hF.same) ?_;rintro w hF -;refine rn 5 ?_;exact⟨O,hF.same⟩
theorem Lw{q:α->Bool}{xs:List α}(h:j<aL xs)(hn:(xs.take j).any q=false)(hq:q xs[j]=false):(xs.take (j+1)).any q=false:=by
  rw[iQ h,List.any_append,hn];grind
def QQ{α:Type}(q:α->Bool)(l:List α):Int:=if l.any q=true then (l.findIdx q:Int) else -1
theorem VE{q:α->Bool}{xs:List α}(h:j<aL xs)(hn:(xs.take j).any q=false)(hq:q xs[j]=true):QQ q xs=(j:Int):=by
  rw[QQ,uQ<|List.any_eq_true.2 ⟨_,eQ h,hq⟩]
  congr 1
  rw[List.findIdx_eq h];refine⟨hq,λi hi=>?_⟩;rw[List.any_eq_false]at hn;have:xs[i]∈xs.take j:=by rw[List.mem_take_iff_getElem];exact⟨i,by_Om,rfl⟩
  grind
theorem O8{q:α->Bool}{xs:List α}(h:¬j<aL xs)(hn:(xs.take j).any q=false):QQ q xs = -1:=by
  rw[cZ fX]at hn;grind [QQ]
theorem YP(q:α->Bool)(xs:List α):decide (0<=QQ q xs)=xs.any q:=by grind [QQ]
theorem atQ_find{q:α->Bool}{xs:List α}(h:¬QQ q xs<0):∃(j:Nat)(hj:j<aL xs),QQ q xs=(j:Int)/\xs.find? q=some xs[j]:=by
  rw[QQ]at h ⊢;by_cases ha:xs.any q=true
  ·rw[uQ ha]
   have hl:=List.findIdx_lt_length_of_exists<|List.any_eq_true.1 ha;refine⟨_,hl,O,?_⟩;rw[List.find?_eq_some_iff_getElem];grind
  grind
theorem atQ_lost{q:α->Bool}{xs:List α}(h:QQ q xs<0):xs.find? q=none:=by grind [QQ]
def FN(l:List Str):Bool:=decide (aL l<=64)&&l.all Lib.validD
structure RuleOk (x:Rl):Prop where
  key:aL x.key<=140737488355328
  pat:∀s∈x.pat,aL s<=140737488355328
def indexS_c(l:List Str)(A:Option Addr)(c:Nat)(S:Nat->Prop)(hl:∀s∈l,aL s<=140737488355328)(w0:World)(hX:Rep S w0 (Wa l) [.slice A (aL l) c])(hG:Gl w0):Calls prog 130 #[.slice A (aL l) c,.func (.func 97) #[] #[]] w0 (Qb λv w'=>v=J (QQ (λs=>!(Lib.validD s)) l)/\Same [] w0 w'):=by
 have hXl:=hX.slice_len;refine Ha func130 ntmps130 ?_;intro hF;refine rn 14<|Za (λμ σ w=>∃(j:Nat),μ=aL l-j/\(j<=aL l)/\((l.take j).any (λs=>!(Lib.validD s))=false)/\AllEq σ [(0,.slice A (aL l) c),(1,.func (.func 97) #[] #[]),(7,J<|(aL l:Nat)),(8,J<|(j:Int))]/\FR w0 [] [] w) _ ⟨0,O,bZ _,Ca,Gc,hF⟩ ?_;rintro μ σ w ⟨j,rfl,hj,hn,hzz,hF⟩;refine Gh hzz 7 ⟨λhc0=>?_,λhc0=>?_⟩;refine rn 15 ?_;obtain⟨ad0,hA0,hk0,hx0⟩:=hX.str_elem (i:=j) fX;refine Da (v:=.pointer<|some<|ad0.add<|j*1) (Ea (i:=(j:Int)) Hd hA0)<|Da (v:=I<|l[j]) (Ma qZ<|hF.cell0 hk0) ?_;refine Xk hF (ptrCl_c l[j] (hl _<|eQ _) _ (hG.ext hF.same)) (Ie O en_97 O O) ?_;intro w hF;refine rn 3 ⟨λhc1=>?_,λhc1=>?_⟩;refine rn 7 ?_;exact⟨xQ _ (VE fX hn hc1).symm,hF.same⟩;refine rn 4<|Tc Fj ?_;refine rn 2<|Va ⟨_,?_,j+1,O,fX,Lw fX hn hc1,Gc,hF⟩;omega;refine rn 8 ?_;exact⟨xQ _ (O8 fX hn).symm,hF.same⟩
def AI(l:List Str)(A:Option Addr)(c:Nat)(S:Nat->Prop)(hl:∀s∈l,aL s<=140737488355328)(w0:World)(hX:Rep S w0 (Wa l) [.slice A (aL l) c])(hG:Gl w0):Calls prog 96 #[.slice A (aL l) c,.func (.func 97) #[] #[]] w0 (Qb λv w'=>v=.bool (l.any (λs=>!(Lib.validD s)))/\Same [] w0 w'):=by
 refine Ha func96 ntmps96 ?_;intro hF;refine rn 9<|Ta (indexS_c l A c _ hl _ (hF.rep hX)<|hG.ext hF.same) ?_;rintro w hF -;refine rn 5 ?_;exact⟨xQ Value.bool<|YP _ _,hF.same⟩
def UM(l:List Str)(A:Option Addr)(c:Nat)(S:Nat->Prop)(hl:∀s∈l,aL s<=140737488355328)(w0:World)(hX:Rep S w0 (Wa l) [.slice A (aL l) c])(hG:Gl w0):Calls prog 71 #[.slice A (aL l) c] w0 (Qb λv w'=>v=.bool (FN l)/\Same [] w0 w'):=by
 have hXl:=hX.slice_len;refine Ha func71 ntmps71 ?_;intro hF;refine rn 12 ⟨λhg0=>?_,λhg0=>?_⟩;refine rn 1<|Ta (AI l A c _ hl _ (hF.rep hX)<|hG.ext hF.same) ?_;rintro w hF -;refine rn 6 ⟨xQ Value.bool ?_,hF.same⟩
 ·first|(rw[FN,eZ fX,Bool.true_and,List.not_any_eq_all_not];simp;done)|(rw[FN,dZ fX,Bool.false_and];done)
 refine rn 8 ⟨xQ Value.bool ?_,hF.same⟩
 ·first|(rw[FN,eZ fX,Bool.true_and,List.not_any_eq_all_not];simp;done)|(rw[FN,dZ fX,Bool.false_and];done)
theorem BH(x:Rl)(hx:RuleOk x)(A:Option Addr)(c:Nat)(S:Nat->Prop)(w0:World)(hX:Rep S w0 (Wa x.pat) [.slice A (aL x.pat) c])(hG:Gl w0):Calls prog 41 #[.agg #[.slice A (aL x.pat) c,I x.key]] w0 (Qb λv w'=>v=.bool (AA x)/\Same [] w0 w'):=by
 refine Ha func41 ntmps41 ?_;intro hF;refine rn 3 ?_;rintro b1 w hb1 hF -;refine rn 7<|Yb (M4 x.key hx.key _<|hG.ext hF.same) ?_;rintro _ w ⟨n,rfl,hE⟩;have hF:=hF.ext hE;refine rn 12 ⟨λhg0=>?_,λhg0=>?_⟩;refine rn 2<|Ta (UM x.pat A c _ hx.pat _ (hF.rep hX)<|hG.ext hF.same) ?_;rintro w hF -;refine rn 5 ⟨xQ Value.bool ?_,hF.same⟩;show _=(Lib.validD x.key&&FN x.pat);simp_all;refine rn 8 ⟨xQ Value.bool ?_,hF.same⟩;show _=(Lib.validD x.key&&FN x.pat);simp_all
def ruleCl_c(x:Rl)(hx:RuleOk x)(A:Option Addr)(c:Nat)(S:Nat->Prop)(w0:World)(hX:Rep S w0 (Wa x.pat) [.slice A (aL x.pat) c])(hG:Gl w0):Calls prog 40 #[.agg #[.slice A (aL x.pat) c,I x.key]] w0 (Qb λv w'=>v=.bool (!(AA x))/\Same [] w0 w'):=by
 refine Ha func40 ntmps40 ?_;intro hF;refine rn 3 ?_;rintro b1 w hb1 hF -;refine rn 6<|Ta (BH x hx A c _ _ (hF.rep hX)<|hG.ext hF.same) ?_;rintro w hF -;refine rn 5 ?_;exact⟨O,hF.same⟩
def indexR_c(l:List Rl)(A:Option Addr)(c:Nat)(S:Nat->Prop)(hl:∀x∈l,RuleOk x)(w0:World)(hX:Rep S w0 (Ik l) [.slice A (aL l) c])(hG:Gl w0):Calls prog 69 #[.slice A (aL l) c,.func (.func 40) #[] #[]] w0 (Qb λv w'=>v=J (QQ (λx=>!(AA x)) l)/\Same [] w0 w'):=by
 have hXl:=hX.slice_len;simp only[rQ]at hXl;refine Ha func69 ntmps69 ?_;intro hF;refine rn 14<|Za (λμ σ w=>∃(j:Nat),μ=aL l-j/\(j<=aL l)/\((l.take j).any (λx=>!(AA x))=false)/\AllEq σ [(0,.slice A (aL l) c),(1,.func (.func 40) #[] #[]),(7,J<|(aL l:Nat)),(8,J<|(j:Int))]/\FR w0 [] [] w) _ ⟨0,O,bZ _,Ca,Gc,hF⟩ ?_;rintro μ σ w ⟨j,rfl,hj,hn,hzz,hF⟩;refine Gh hzz 7 ⟨λhc0=>?_,λhc0=>?_⟩;refine rn 15 ?_;obtain⟨ad0,B0,e0,hA0,hk0,hx0⟩:=hX.rule_elem (i:=j) fX;refine Da (v:=.pointer<|some<|ad0.add<|j*2) (Ea (i:=(j:Int)) FI hA0)<|Da (Qa (l:=[.slice (B0) (aL (l[j]).pat) e0,I<|(l[j]).key]) isAgg53 sizeOf53 O O<|hF.cells0 hk0) ?_;refine Xk hF (ruleCl_c l[j] (hl _<|eQ _) B0 e0 _ _ (hF.rep hx0) (hG.ext hF.same)) (Ie O en_40 O O) ?_;intro w hF;refine rn 3 ⟨λhc1=>?_,λhc1=>?_⟩;refine rn 7 ?_;exact⟨xQ _ (VE fX hn hc1).symm,hF.same⟩;refine rn 4<|Tc Fj ?_;refine rn 2<|Va ⟨_,?_,j+1,O,fX,Lw fX hn hc1,Gc,hF⟩;omega;refine rn 8 ?_;exact⟨xQ _ (O8 fX hn).symm,hF.same⟩
def UI(l:List Rl)(A:Option Addr)(c:Nat)(S:Nat->Prop)(hl:∀x∈l,RuleOk x)(w0:World)(hX:Rep S w0 (Ik l) [.slice A (aL l) c])(hG:Gl w0):Calls prog 39 #[.slice A (aL l) c,.func (.func 40) #[] #[]] w0 (Qb λv w'=>v=.bool (l.any (λx=>!(AA x)))/\Same [] w0 w'):=by
 refine Ha func39 ntmps39 ?_;intro hF;refine rn 9<|Ta (indexR_c l A c _ hl _ (hF.rep hX)<|hG.ext hF.same) ?_;rintro w hF -;refine rn 5 ?_;exact⟨xQ Value.bool<|YP _ _,hF.same⟩
def JF(l:List Rl)(A:Option Addr)(c:Nat)(S:Nat->Prop)(hl:∀x∈l,RuleOk x)(w0:World)(hX:Rep S w0 (Ik l) [.slice A (aL l) c])(hG:Gl w0):Calls prog 22 #[.slice A (aL l) c] w0 (Qb λv w'=>v=.bool (Kz l)/\Same [] w0 w'):=by
 have hXl:=hX.slice_len;refine Ha func22 ntmps22 ?_;intro hF;refine rn 12 ⟨λhg0=>?_,λhg0=>?_⟩;refine rn 1<|Ta (UI l A c _ hl _ (hF.rep hX)<|hG.ext hF.same) ?_;rintro w hF -;refine rn 6 ⟨xQ Value.bool ?_,hF.same⟩
 ·first|(rw[Kz,eZ fX,Bool.true_and,List.not_any_eq_all_not];simp;done)|(rw[Kz,dZ fX,Bool.false_and];done)
 refine rn 8 ⟨xQ Value.bool ?_,hF.same⟩
 ·first|(rw[Kz,eZ fX,Bool.true_and,List.not_any_eq_all_not];simp;done)|(rw[Kz,dZ fX,Bool.false_and];done)
def PX(x:Rl)(A:Option Addr)(c:Nat)(S:Nat->Prop)(q:List Str)(B:Option Addr)(e:Nat)(S':Nat->Prop)(bb:Nat)(w0:World)(hX:Rep S w0 (Wa x.pat) [.slice A (aL x.pat) c])(hQ:Rep S' w0 (Wa q) [.slice B (aL q) e])(hb:w0.cell? ⟨bb,0,none⟩=some (.slice B (aL q) e)):Calls prog 101 #[.agg #[.slice A (aL x.pat) c,I x.key],V bb] w0 (Qb λv w'=>v=.bool (Lo x.pat q)/\Same [] w0 w'):=by
 refine Ha func101 ntmps101 ?_;intro hF;refine rn 3 ?_;rintro b1 w hb1 hF -;refine rn 7<|Da (v:=.slice B (aL q) e) (Ma mZ<|hF.cell0 hb) ?_;refine Ta (match_c x.pat q A B c e _ _ _ (hF.rep hX)<|hF.rep hQ) ?_;rintro w hF -;refine rn 4 ?_;exact⟨O,hF.same⟩
def indexF_c(l:List Rl)(A:Option Addr)(c:Nat)(S:Nat->Prop)(q:List Str)(B:Option Addr)(e:Nat)(S':Nat->Prop)(bb:Nat)(w0:World)(hX:Rep S w0 (Ik l) [.slice A (aL l) c])(hQ:Rep S' w0 (Wa q) [.slice B (aL q) e])(hb:w0.cell? ⟨bb,0,none⟩=some (.slice B (aL q) e)):Calls prog 69 #[.slice A (aL l) c,.func (.func 101) #[] #[V bb]] w0 (Qb λv w'=>v=J (QQ (λx=>Lo x.pat q) l)/\Same [] w0 w'):=by
 have hXl:=hX.slice_len;simp only[rQ]at hXl;refine Ha func69 ntmps69 ?_;intro hF;refine rn 14<|Za (λμ σ w=>∃(j:Nat),μ=aL l-j/\(j<=aL l)/\((l.take j).any (λx=>Lo x.pat q)=false)/\AllEq σ [(0,.slice A (aL l) c),(1,.func (.func 101) #[] #[.pointer<|some<|⟨bb,0,none⟩]),(7,J<|(aL l:Nat)),(8,J<|(j:Int))]/\FR w0 [] [] w) _ ⟨0,O,bZ _,Ca,Gc,hF⟩ ?_;rintro μ σ w ⟨j,rfl,hj,hn,hzz,hF⟩;refine Gh hzz 7 ⟨λhc0=>?_,λhc0=>?_⟩;refine rn 15 ?_;obtain⟨ad0,B0,e0,hA0,hk0,hx0⟩:=hX.rule_elem (i:=j) fX;refine Da (v:=.pointer<|some<|ad0.add<|j*2) (Ea (i:=(j:Int)) FI hA0)<|Da (Qa (l:=[.slice (B0) (aL (l[j]).pat) e0,I<|(l[j]).key]) isAgg53 sizeOf53 O O<|hF.cells0 hk0) ?_;refine Xk hF (PX l[j] B0 e0 _ q B e _ bb _ (hF.rep hx0) (hF.rep hQ) (Same.cell hF.same hb)) (Ie O en_101 O O) ?_;intro w hF;refine rn 3 ⟨λhc1=>?_,λhc1=>?_⟩;refine rn 7 ?_;exact⟨xQ _ (VE fX hn hc1).symm,hF.same⟩;refine rn 4<|Tc Fj ?_;refine rn 2<|Va ⟨_,?_,j+1,O,fX,Lw fX hn hc1,Gc,hF⟩;omega;refine rn 8 ?_;exact⟨xQ _ (O8 fX hn).symm,hF.same⟩
def find_c(l:List Rl)(A:Option Addr)(c:Nat)(S:Nat->Prop)(q:List Str)(B:Option Addr)(e:Nat)(S':Nat->Prop)(w0:World)(hX:Rep S w0 (Ik l) [.slice A (aL l) c])(hQ:Rep S' w0 (Wa q) [.slice B (aL q) e]):Calls prog 79 #[.slice A (aL l) c,.slice B (aL q) e] w0 (Qb λv w'=>v=.tuple #[I ((Vi l q).getD []),.bool (Vi l q).isSome]/\Same [] w0 w'):=by
 have hXl:=hX.slice_len;simp only[rQ]at hXl;refine Ha func79 ntmps79 ?_;intro hF;refine rn 3 ?_;rintro b1 w hb1 hF -;refine rn 7<|Da (v:=.func (.func 101) #[] #[V b1]) Te ?_;refine Ta (indexF_c l A c _ q B e _ b1 _ (hF.rep hX) (hF.rep hQ)<|hF.cell 0 O O) ?_;rintro w hF -;refine rn 11 ⟨λhc0=>?_,λhc0=>?_⟩;refine rn 7 ?_;have e9:Vi l q=none:=by rw[Vi,atQ_lost qK];rfl
 rw[e9];exact⟨O,hF.same⟩;obtain⟨j,hjl,hj,hfind⟩:=atQ_find qK;rw[hj];refine rn 6 ?_;obtain⟨ad0,B0,e0,hA0,hk0,hx0⟩:=hX.rule_elem (i:=j) fX;refine Da (v:=.pointer<|some<|ad0.add<|j*2) (Ea (i:=(j:Int)) FI hA0)<|Da (v:=.pointer<|some<|(ad0.add<|j*2).add 1) (He (a:=ad0.add<|j*2) TC)<|Da (v:=I<|(l[j]).key) (Ma qZ<|hF.cell0<|hk0 1 Pt) ?_;refine rn 5 ?_;have e9:Vi l q=some l[j].key:=by rw[Vi,hfind];rfl
 rw[e9];exact⟨O,hF.same⟩
end Go.Scarf
