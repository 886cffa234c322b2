/- A part of the proof. -/
import Derived.Test.YtndkhbfnfagbgaaGreatDoorHs3
set_option linter.all false
set_option maxHeartbeats 8000000
set_option maxRecDepth 10000
namespace Go.Scarf
open Go.RowKit Go.Proofs Go.Proofs.Tryz
theorem Vg(x:Tv)(w0:World):Calls prog 31 #[.agg (x.cells).toArray] w0 (Td λv w'=>v=.agg #[.bool true,J (x.k),I (x.t),.slice x.A x.n x.c,.slice x.B x.m x.e]/\Same [] w0 w'):=by
 refine Ga func31 O ntmps31 Fb (Ad _) ?_;have hF:=FR.start w0 [];refine Ja (Ve hF O ?_);rintro b1 w hb1 hF -;refine Od (cs:=#[.bool false,J 0,I [],aQ,aQ]) hF pX O ?_;rintro b2 w hb2 hF -;refine Fc (Yc (Ch aZ oZ O hF.F 1 O O) ?_);refine Ka (w':=w) (v:=.agg #[.bool true,J (x.k),I (x.t),.slice x.A x.n x.c,.slice x.B x.m x.e]) Mb (Qf hF rZ O O Mh ?_);rintro w hF -;refine Ea (Cc (Bc (Sa (Ig O (l:=[.bool true,J (x.k),I (x.t),.slice x.A x.n x.c,.slice x.B x.m x.e]) O dZ rZ O (hF.cellsAll 0 O)) ?_)));exact⟨O,hF.same⟩
structure SdOk (s:Sd):Prop where
  sz:Wb s.val<=1000000000
  ok:Yz s.val
theorem noS_ok:SdOk noS:=⟨by simp[noS,zeroT,Wb,Rb],by simp[noS,zeroT,Yz,WJ]⟩
def QD(a b:Sd):Bool:=(a.has==b.has)&&(!a.has || M1 a.val b.val)
theorem Ft(a b:Sd)(x y:Sv)(S S':Nat->Prop)(w0:World)(hX:Rep S w0 (He a) x.cells)(hY:Rep S' w0 (He b) y.cells)(ha:SdOk a)(hb:SdOk b)(hG:Gl w0):Calls prog 48 #[.agg (x.cells).toArray,.agg (y.cells).toArray] w0 (Td λv w'=>v=.bool (QD a b)/\Same [] w0 w'):=by
 have hx:=Hf hX;have hy:=Hf hY;refine Ga func48 O ntmps48 Fb (Zc _ _) ?_;have hF:=FR.start w0 [];refine Ja (Ve hF O ?_);rintro b1 w hb1 hF -;refine Ve hF O ?_;rintro b2 w hb2 hF -;refine Ca (Hc O) (Fc (Ca (Xb Yn O) (Yc (AL cZ O hF.F 1 O O) (Ca (Xb Yn O) (Yc (AL cZ O hF.F 0 O O) (Ka (v:=.bool ((x.h)==(y.h))) (OW underlying4 O O) (Ca (Ae O) ?_)))))));refine Oe (d:=10) O (λhg0=>?_) (λhg0=>?_);refine Ca (Xb Yn O) (Yc (AL cZ O hF.F 1 O O) (Ca (Zj O) (Ca (Ae O) ?_)));refine Oe (d:=14) O (λhg1=>?_) (λhg1=>?_);refine Oa (Oa (Oa (Oa (Oa (Ca (Nd O O) (Ca (Nd O O) (Ca (Hc O) (Ea ?_))))))));refine Qd (v:=.bool true) O O ⟨?_,hF.same⟩;rw[QD,<-hx.1,<-hy.1]
 first|(cases h1:x.h <;> cases h2:y.h <;> simp_all)|(simp_all)
 refine Ca (Xb Pe O) (Ka (v:=.agg (x.v.cells).toArray) (Ya (l:=x.v.cells) aZ oZ O O (hF.part 1 1 O O)) (Ca (Xb Pe O) (Ka (v:=.agg (y.v.cells).toArray) (Ya (l:=y.v.cells) aZ oZ O O (hF.part 0 1 O O)) ?_)));refine Gb hF (JP a.val b.val ha.sz hb.sz _ _ _ x.v.cells y.v.cells (hF.rep hx.2.2.2.2) (hF.rep hy.2.2.2.2) ha.ok hb.ok (hG.ext hF.same)) (Za en_72 O O O) ?_;intro w hF;refine Ca (Md O O) (Ca (Nd O O) (Ca (Hc O) (Ea ?_)));refine Qd (v:=.bool _) O O ⟨?_,hF.same⟩;rw[QD,<-hx.1,<-hy.1]
 first|(cases h1:x.h <;> cases h2:y.h <;> simp_all)|(simp_all)
 refine Oa (Oa (Oa (Oa (Oa (Oa (Oa (Oa (Oa (Oa (Ca (Md O O) (Ca (Hc O) (Ea ?_))))))))))));refine Qd (v:=.bool false) O O ⟨?_,hF.same⟩;rw[QD,<-hx.1,<-hy.1]
 first|(cases h1:x.h <;> cases h2:y.h <;> simp_all)|(simp_all)
theorem Zn(s:Sd)(x:Sv)(S:Nat->Prop)(w0:World)(hX:Rep S w0 (He s) x.cells)(hs:SdOk s)(hG:Gl w0):Calls prog 49 #[.agg x.cells.toArray] w0 (Td λv w'=>∃y:Sv,v=.agg y.cells.toArray/\Rep (Btw w0 w') w' (He (Qv s)) y.cells/\Same [] w0 w'):=by
 have hx:=Hf hX;refine Ga func49 O ntmps49 Fb (Ad _) ?_;have hF:=FR.start w0 [];refine Ja (Ve hF O ?_);rintro b1 w hb1 hF -;refine Od (cs:=#[.bool false,J 0,I [],aQ,aQ]) hF pX O ?_;rintro b2 w hb2 hF -;refine Ea (Ha (Ja (Ca (Xb Yn O) (Yc (AL cZ O hF.F 1 O O) (Ca (Zj O) (Ea ?_))))));refine Uf O O (λhc0=>?_) (λhc0=>?_);have h0:s.has=false:=by rw[<-hx.1];simpa using hc0
 refine Ja (Ka (w':=w) (v:=.agg #[.bool false,J 0,I [],aQ,aQ]) Mb ?_);refine Qf hF rZ O O Mh ?_;rintro w hF -;refine Ea (Cc (Bc (Sa (Ig O (l:=[.bool false,J 0,I [],aQ,aQ]) O dZ rZ O (hF.cellsAll 0 O)) ?_)));have e:Qv s=noS:=by rw[Qv,if_neg (by rw[h0];decide)]
 rw[e];exact⟨⟨false,zTv⟩,O,EF,hF.same⟩;have h0:s.has=true:=by rw[<-hx.1];simpa using hc0
 refine Ta (Ia (Ja (Ca (Xb Pe O) (Ka (v:=.agg (x.v.cells).toArray) (Ya (l:=x.v.cells) aZ oZ O O (hF.part 1 1 O O)) ?_))));refine Cb (I2 s.val hs.sz _ _ x.v.cells (hF.rep hx.2.2.2.2) hs.ok (hG.ext hF.same)) (Ra TK O O) ?_;rintro _ w ⟨ct,rfl,hRt,hE⟩;obtain⟨q,rfl,-⟩:=Ll hRt;have hYX:=RX.made (ids:=[b2,b1]) hF.same.size (λx hx=>hF.lt_ids (by grind)) hRt;have hF:=hF.ext hE;clear hE hRt;refine Cb (Vg q _) (Ra Yg O O) ?_;rintro _ w ⟨rfl,hE⟩;have hF:=hF.ext hE;have hYX:=hYX.ext hE;refine Qf hF rZ O O Mh ?_;intro w hF hE;have hYX:=hYX.store hE (by grind);refine Ea (Cc (Bc (Sa (Ig O (l:=[.bool true,J (q.k),I (q.t),.slice q.A q.n q.c,.slice q.B q.m q.e]) O dZ rZ O (hF.cellsAll 0 O)) ?_)));have e:Qv s=⟨true,G5 s.val⟩:=by rw[Qv,if_pos h0]
 rw[e]
 ·exact⟨⟨true,q⟩,O,Te (s:=⟨true,G5 s.val⟩) hYX.done,hF.same⟩
def N6(b l r:Sd):Int:=if b.has=false then 4 else if l.has=false\/r.has=false then 3 else if b.val.kind=l.val.kind/\b.val.kind=r.val.kind then 1 else 2
theorem Wo{S:Nat->Prop}{w:World}{b l r:Sd}{x y z:Sv}(h:Rep S w (Vv b l r) (th x y z)):Rep S w (He b) x.cells/\Rep S w (He l) y.cells/\Rep S w (He r) z.cells:=by
  unfold Vv at h;rw[Rep]at h;obtain⟨c1,d1,e1,h1,h⟩:=RepL.cons_inv h;obtain⟨c2,d2,rfl,h2,h⟩:=RepL.cons_inv h;obtain⟨c3,d3,rfl,h3,h⟩:=RepL.cons_inv h;obtain rfl:=RepL.nil_inv h;have l1:=h1.length.trans (Ku b);have l2:=h2.length.trans (Ku l);have l3:=h3.length.trans (Ku r)
  match c1,l1,c2,l2,c3,l3 with
  | [a0, a1, a2, a3, a4], _, [b0, b1, b2, b3, b4], _, [u0, u1, u2, u3, u4], _ =>
    simp only[th,List.cons_append,List.nil_append,qQ,List.cons.injEq,and_true]at e1;obtain⟨rfl,rfl,rfl,rfl,rfl,rfl,rfl,rfl,rfl,rfl,rfl,rfl,rfl,rfl,rfl⟩:=e1;exact⟨h1,h2,h3⟩
theorem Nf{S:Nat->Prop}{w:World}{b l r:Sd}{x y z:Sv}(h1:Rep S w (He b) x.cells)(h2:Rep S w (He l) y.cells)(h3:Rep S w (He r) z.cells):Rep S w (Vv b l r) (th x y z):=by
  unfold Vv;rw[Rep];exact RepL.cons_mk h1 (RepL.cons_mk h2 (RepL.cons_mk h3 RepL.nil_mk))
theorem class_c(b l r:Sd)(x y z:Sv)(S:Nat->Prop)(w0:World)(hX:Rep S w0 (He b) x.cells)(hY:Rep S w0 (He l) y.cells)(hZ:Rep S w0 (He r) z.cells):Calls prog 50 #[.agg (th x y z).toArray] w0 (Td λv w'=>v=J (N6 b l r)/\Same [] w0 w'):=by
 have hx:=Hf hX;have hy:=Hf hY;have hz:=Hf hZ;refine Ga func50 O ntmps50 Fb (Ad _) ?_;have hF:=FR.start w0 [];refine Ja (Ve hF O ?_);rintro b1 w hb1 hF -;refine Ca (Sc O) (Fc (Ca (Xb Ml O) (Ca (Xb Pe O) (Ca (Xb Wh O) (Yc (Xs bZ O hF.F 0 O O) (Ca (Sc O) (Ea (Ha (Va ?_)))))))));refine Ja (Ca (Xb Ml O) (Ca (Xb Yn O) (Yc (AL cZ O hF.F 0 O O) (Ca (Zj O) (Ca (Hc O) (Ea ?_))))));refine Uf O O (λhc0=>?_) (λhc0=>?_);refine Ja (Ca (Sc O) (Ea ?_));refine Qd (v:=J 4) O O ⟨?_,hF.same⟩;rw[N6,<-hx.1,<-hy.1,<-hz.1,<-hx.2.1,<-hy.2.1,<-hz.2.1];simp_all;refine Ja (Ca (Xb Ik O) (Ca (Xb Yn O) (Yc (AL cZ O hF.F 0 O O) (Ca (Zj O) (Ca (Ae O) ?_)))));refine Oe (d:=18) O (λhg0=>?_) (λhg0=>?_);refine Oa (Oa (Oa (Oa (Ca (Nd O O) (Ca (Hc O) (Ea (Ge O (Ja (Ca (Sc O) (Ea ?_))))))))));refine Qd (v:=J 3) O O ⟨?_,hF.same⟩;rw[N6,<-hx.1,<-hy.1,<-hz.1,<-hx.2.1,<-hy.2.1,<-hz.2.1];simp_all;refine Ca (Xb Sl O) (Ca (Xb Yn O) (Yc (AL cZ O hF.F 0 O O) (Ca (Zj O) (Ca (Md O O) (Ca (Hc O) (Ea ?_))))));refine Uf O O (λhc1=>?_) (λhc1=>?_);refine Ja (Ca (Sc O) (Ea ?_));refine Qd (v:=J 3) O O ⟨?_,hF.same⟩;rw[N6,<-hx.1,<-hy.1,<-hz.1,<-hx.2.1,<-hy.2.1,<-hz.2.1];simp_all;refine Ja (Ca (Kb O) (Ca (Xb Ik O) (Ca (Xb Pe O) (Ca (Xb Wh O) (Yc (Xs bZ O hF.F 0 O O) (Ca (Pq O O) (Ca (Ae O) ?_)))))));refine Dd (d:=31) O (λhg1=>?_) (λhg1=>?_);refine Ca (Kb O) (Ca (Xb Sl O) (Ca (Xb Pe O) (Ca (Xb Wh O) (Yc (Xs bZ O hF.F 0 O O) (Ca (Pq O O) (Ca (Nd O O) (Ca (Hc O) (Ea ?_))))))));refine Pc O O (λhc2=>?_) (λhc2=>?_);refine Ja (Ca (Sc O) (Ea ?_));refine Qd (v:=J 1) O O ⟨?_,hF.same⟩;rw[N6,<-hx.1,<-hy.1,<-hz.1,<-hx.2.1,<-hy.2.1,<-hz.2.1];simp_all;refine Ta (Ib (Ia (Ja (Ca (Sc O) (Ea ?_)))));refine Qd (v:=J 2) O O ⟨?_,hF.same⟩;rw[N6,<-hx.1,<-hy.1,<-hz.1,<-hx.2.1,<-hy.2.1,<-hz.2.1];simp_all;refine Oa (Oa (Oa (Oa (Oa (Oa (Ca (Md O O) (Ca (Hc O) (Ea (Kg O (Ta (Ib (Ia ?_))))))))))))
 refine Ja (Ca (Sc O) (Ea ?_));refine Qd (v:=J 2) O O ⟨?_,hF.same⟩;rw[N6,<-hx.1,<-hy.1,<-hz.1,<-hx.2.1,<-hy.2.1,<-hz.2.1];simp_all
theorem RX.grow{u w w':World}{i:List Nat}{sl sl':List (Nat × Obj)}{ds:List D}{cs:List Value}(h:RX u i w ds cs)(hE:Same (sl.map (·.1)) w w')(hn:∀p∈sl',p.1∈sl.map (·.1)\/w.heap.size<=p.1)(hi:∀x∈sl.map (·.1),x∈i):RX u (i++ids sl') w' ds cs :=
  h.step hE hi λx hx=>by
    rcases mQ.1 hx with h1|h1
    ·exact .inl h1
    obtain⟨p, hp, rfl⟩ := nQ.1 h1;rcases hn p hp with h2|h2
    ·exact .inl (hi _ h2)
    exact .inr h2
theorem FR.repE{w0 w:World}{D:List Nat}{bs_:List (Nat × Obj)}{S:Nat->Prop}{d:Go.Scarf.D}{cs:List Value}(hF:FR w0 D bs_ w)(hS:∀b,S b->b<w0.heap.size/\b∉D)(h:Rep S w0 d cs):Rep S w d cs:=h.same hF.same λb hb hs=>(hS b hs).2 hb
theorem Zm(path:List Str)(k:Str)(PA:Option Addr)(pc:Nat)(S:Nat->Prop)(w0:World)(hP:Rep S w0 (Xd path) [.slice PA path.length pc])(hk:k.length<=9223372036854775807)(hpl:path.length<=1000):Calls prog 74 #[.slice PA path.length pc,I k] w0 (Td λv w'=>∃A c,v=.slice A (path++[k]).length c/\Rep (Btw w0 w') w' (Xd (path++[k])) [.slice A (path++[k]).length c]/\Same [] w0 w'):=by
 obtain⟨eP,hrP,hPl,hPc⟩:=hP.slice_open (O4 path);refine Ga func74 O ntmps74 Fb (Zc _ _) ?_;have hF:=FR.start w0 [];refine Ja (Ca (Qg O) (Fc (Ca (Pd O) ?_)));refine Cb (L4 path.length PA pc eP _ hPl (Lie.ext hPc hF.same) hrP.one_ sX) (Ra en_63 O O) ?_;rintro _ w ⟨A1,c1,sb,rfl,hS,hh2,hE⟩;have hF:=hF.extseg hE hh2 hS.pw;refine Ca (Ug O) (Pf 1 hF (Xa (cs:=#[I k]) dX uZ rX Ua Ua Mb) ?_);rintro b1 w hb1 hF -;refine M5 (news:=[I k]) (len':=(path++[k]).length) (ys:=eP++[I k]) Zr hF hS O O (O) (λ_=>⟨_,O,Ob (hF.cellsAll 0 O)⟩) (by simp[Value.oneCell']) (by simp only[maxLen];omega) Da (O) sX ?_;intro A0 c0 p_0 w hS0_p hF hE hnew;refine Ca (Qg O) (Ea ?_);refine Qd (v:=.slice _ _ _) O O ?_;have hK:RX w0 [] w ((path++[k]).map Dq) (eP++[I k]):=by rw[jQ];exact RepL.append hrP.lits (RepL.cons_mk (c2:=[]) (Rep.lit_mk (v:=I k) hk) RepL.nil_mk)
 exact⟨_,_,O,hS0_p.rep (pre:=[_]) (post:=[]) hF hK Da,hF.same⟩
theorem FR.ltD{w0 w:World}{E i L:List Nat}{bs_:List (Nat × Obj)}(hF:FR w0 E bs_ w)(hib:∀x∈i,7<=x/\x<w0.heap.size)(hL:∀x∈L,x∈bs_.map (·.1)):∀x∈L++i,x<w.heap.size:=λx hx=>by
  rcases mQ.1 hx with h|h
  ·exact hF.lt_ids (hL x h)
  exact Nat.lt_of_lt_of_le (hib x h).2 hF.same.size
structure Mi (i:List Nat) (w:World) (sm:List (Nat × Obj)) (pb:Nat) (RV:Value) (cfs:List Cf):Prop where
  m:Mx i w sm pb RV cfs
  hh:∀q∈sm,w.heap[q.1]? = some q.2
  sub:∀x∈ids sm,x∈i
  low:∀x∈i,7<=x/\x<w.heap.size
theorem Mi.start{i:List Nat}{w:World}{sm:List (Nat × Obj)}{pb:Nat}{RV:Value}{cfs:List Cf}(h:Mi i w sm pb RV cfs):FR w (ids sm) ([]++(sm++[])) w:=h.m.start h.hh
structure Mo' (i:List Nat) (w:World) (sm:List (Nat × Obj)) (w':World) (sm':List (Nat × Obj)) (pb:Nat) (RV:Value) (cfs:List Cf):Prop where
  m:Mx (i++ids sm') w' sm' pb RV cfs
  hh:∀q∈sm',w'.heap[q.1]? = some q.2
  mc:Mc w sm w' sm'
theorem Bl(path:List Str)(cls:Int)(b l r:Sd)(x y z:Sv)(PA:Option Addr)(pc:Nat)(SP S:Nat->Prop)(w0:World)(sm:List (Nat × Obj))(pb:Nat)(RV:Value)(cfs:List Cf)(i:List Nat)(hM:Mi i w0 sm pb RV cfs)(hOp0:Off SP w0 sm)(hOf0:Off S w0 sm)(hP:Rep SP w0 (Xd path) [.slice PA path.length pc])(hT:Rep S w0 (Vv b l r) (th x y z))(hb:SdOk b)(hl:SdOk l)(hr:SdOk r)(hn:cfs.length<1000)(hpl:path.length<=1000)(hc0:0<=cls/\cls<=10)(hG:Gl w0):Calls prog 51 #[V pb,.slice PA path.length pc,J cls,.agg (th x y z).toArray] w0 (Td λv w'=>∃sm',v=.agg #[.bool true,J 7,I (Rn cfs.length),aQ,aQ]/\Mo' i w0 sm w' sm' pb RV (cfs++[⟨path,cls,Qv b,Qv l,Qv r⟩])):=by
 have hPl0:=hP.slice_len;obtain⟨hx,hy,hz⟩:=Wo hT;have hF:=hM.start;have hib:=hM.low;have hi:=hM.sub;obtain⟨E,hD⟩:∃E,E=ids sm:=⟨_,rfl⟩;have h8:∀b∈E,7<=b:=λb hb=>(hib b (hi b (by rw[<-hD];exact hb))).1;have hOf:∀b,S b->b<w0.heap.size/\b∉E:=λb hb=>by rw[hD];exact hOf0 b hb
 have hOp:∀b,SP b->b<w0.heap.size/\b∉E:=λb hb=>by rw[hD];exact hOp0 b hb
 rw[<-hD]at hF;obtain⟨A,c,sl,vals,rfl,hS,hX⟩:=hM.m.ex;have hpb:pb∈i:=hi pb List.mem_cons_self;have hsl:∀x∈sl.map (·.1),x∈i:=λx hx=>hi x (List.mem_cons_of_mem _ hx);have hF:FR w0 E ([(pb,(.cells #[RV,.slice A cfs.length c] 65))]++(sl++[])) w0:=hF;refine Ga func51 O ntmps51 Fb (Us _ _ _ _) ?_
 skip
 refine Ja (Ve hF O ?_);intro b1 w hb1 hF hE;have hX:=hX.alloc hE hb1;refine Od (cs:=#[.bool false,J 0,I [],aQ,aQ]) hF pX O ?_;intro b2 w hb2 hF hE;have hX:=hX.alloc hE hb2;refine Fc (Ca (Re O) (Ca (Bh O) (Ca (Xb U6 O) (Yc (Rf isAgg40 O hF.F 2 O O) (Ca (Ye underlying40 O) ?_)))));refine Cb (KS (cfs.length:Int) sX sX _ (hG.same hF.same h8)) (Ra ES O O) ?_;rintro _ w ⟨rfl,hE⟩;have hF:=hF.ext hE;have hX:=hX.ext hE;refine Ka (w':=w) (v:=I (Ip (IG (cfs.length:Int)))) Mb (Ka (w':=w) (v:=.agg #[J 7,I (Ip (IG (cfs.length:Int))),aQ,aQ]) Mb ?_);refine Kh hF nX oZ O ?_;intro b3 w hb3 hF hE;have hX:=hX.alloc hE hb3;refine Ea (Ha ?_);refine Id ⟨[22],λwq=>FR w0 E [(b3,.cells #[J 7,I (Ip (IG (cfs.length:Int))),aQ,aQ] 27),(b2,.cells #[.bool false,J 0,I [],aQ,aQ] 67),(b1,.cells ((th x y z)).toArray 71)] wq,[20]⟩ (bQ [0,1,2,3,4,5,7,8,9,11,12,14,15] (cQ [6,10,13,16] (.free 17 (.act 18 (.act 19 (.free 20 (.free 21 (.act 22 .nil)))))))) hF ?_;intro w hF hE;have hX:=hX.ext hE;refine⟨λwq=>FR w0 E [(b3,.cells #[J 7,I (Ip (IG (cfs.length:Int))),aQ,aQ] 27),(b2,.cells #[.bool false,J 0,I [],aQ,aQ] 67),(b1,.cells ((th x y z)).toArray 71),(pb,.cells #[RV,.slice A cfs.length c] 65)] wq,hF.mid 0 4,?_⟩;refine Hb O (Re O) (Hb O (Re O) (Hb O (Bh O) (Hb O (Xb U6 O) (Hl O (Rf isAgg40 O C0 3 O O) (Hb O (Pd O) (Hb O (Kb O) (Hb O (Xb Ml O) (Qa O (v:=.agg (x.cells).toArray) (λw hC=>Ya (l:=x.cells) dZ rZ O O (hC.part 2 0 O O)) (Hb O (Xb Ik O) (Qa O (v:=.agg (y.cells).toArray) (λw hC=>Ya (l:=y.cells) dZ rZ O O (hC.part 2 5 O O)) (Hb O (Xb Sl O) (Qa O (v:=.agg (z.cells).toArray) (λw hC=>Ya (l:=z.cells) dZ rZ O O (hC.part 2 10 O O)) ?_))))))))))));obtain⟨eP,hrP,hPl,hPc⟩:=(hF.repE hOp hP).slice_open (O4 path);refine Qb rfl (L4 path.length PA pc eP _ hPl (λh=>by obtain⟨ad,e,hc⟩:=hPc h;exact⟨ad,e,hc⟩) hrP.one_ sX) (Ra en_63 rfl rfl) ?_
 rintro _ w hcl;obtain⟨Ap,cp,rfl,hKt,hE⟩:=Y5 hcl hrP;have hPX:=RX.made (ids:=[b3,b2,b1]++i) hF.same.size (hF.ltD hib Da) hKt;have hF:=hF.ext hE;have hX:=hX.ext hE;clear hE hcl hKt hrP hPc;refine⟨hF.mid 0 4,?_⟩;refine Qb O (Zn b x S _ (hF.repE hOf hx) hb (hG.same hF.same h8)) (Ra W2 O O) ?_;rintro _ w ⟨y0,rfl,hRt,hE⟩;have hY0:=RX.made (ids:=[b3,b2,b1]++i) hF.same.size (hF.ltD hib Da) hRt;have hF:=hF.ext hE;have hX:=hX.ext hE;have hPX:=hPX.ext hE;clear hE hRt;refine⟨hF.mid 0 4,?_⟩;refine Qb O (Zn l y S _ (hF.repE hOf hy) hl (hG.same hF.same h8)) (Ra W2 O O) ?_;rintro _ w ⟨y1,rfl,hRt,hE⟩;have hY1:=RX.made (ids:=[b3,b2,b1]++i) hF.same.size (hF.ltD hib Da) hRt;have hF:=hF.ext hE;have hX:=hX.ext hE;have hPX:=hPX.ext hE;have hY0:=hY0.ext hE;clear hE hRt;refine⟨hF.mid 0 4,?_⟩;refine Qb O (Zn r z S _ (hF.repE hOf hz) hr (hG.same hF.same h8)) (Ra W2 O O) ?_;rintro _ w ⟨y2,rfl,hRt,hE⟩;have hY2:=RX.made (ids:=[b3,b2,b1]++i) hF.same.size (hF.ltD hib Da) hRt;have hF:=hF.ext hE;have hX:=hX.ext hE;have hPX:=hPX.ext hE;have hY0:=hY0.ext hE;have hY1:=hY1.ext hE;clear hE hRt;refine⟨hF.mid 0 4,?_⟩;refine Qa O (v:=.agg #[.slice Ap path.length cp,J cls,.bool (y0.h),J (y0.v.k),I (y0.v.t),.slice y0.v.A y0.v.n y0.v.c,.slice y0.v.B y0.v.m y0.v.e,.bool (y1.h),J (y1.v.k),I (y1.v.t),.slice y1.v.A y1.v.n y1.v.c,.slice y1.v.B y1.v.m y1.v.e,.bool (y2.h),J (y2.v.k),I (y2.v.t),.slice y2.v.A y2.v.n y2.v.c,.slice y2.v.B y2.v.m y2.v.e]) (λw hC=>by kernel_rfl) (Fe 1 O hF (Xa (cs:=#[.slice Ap path.length cp,J cls,.bool (y0.h),J (y0.v.k),I (y0.v.t),.slice y0.v.A y0.v.n y0.v.c,.slice y0.v.B y0.v.m y0.v.e,.bool (y1.h),J (y1.v.k),I (y1.v.t),.slice y1.v.A y1.v.n y1.v.c,.slice y1.v.B y1.v.m y1.v.e,.bool (y2.h),J (y2.v.k),I (y2.v.t),.slice y2.v.A y2.v.n y2.v.c,.slice y2.v.B y2.v.m y2.v.e]) underlying40 sizeOf74 zeroValue74 Ua Ua Mb) ?_)
 intro b4 w hb4 hF hE;have hX:=hX.alloc hE hb4;have hPX:=hPX.alloc hE hb4;have hY0:=hY0.alloc hE hb4;have hY1:=hY1.alloc hE hb4;have hY2:=hY2.alloc hE hb4;refine⟨hF.mid 1 4,?_⟩;refine NH (news:=[.slice Ap path.length cp,J cls,.bool (y0.h),J (y0.v.k),I (y0.v.t),.slice y0.v.A y0.v.n y0.v.c,.slice y0.v.B y0.v.m y0.v.e,.bool (y1.h),J (y1.v.k),I (y1.v.t),.slice y1.v.A y1.v.n y1.v.c,.slice y1.v.B y1.v.m y1.v.e,.bool (y2.h),J (y2.v.k),I (y2.v.t),.slice y2.v.A y2.v.n y2.v.c,.slice y2.v.B y2.v.m y2.v.e]) (len':=cfs.length+1) (ys:=vals++[.slice Ap path.length cp,J cls,.bool (y0.h),J (y0.v.k),I (y0.v.t),.slice y0.v.A y0.v.n y0.v.c,.slice y0.v.B y0.v.m y0.v.e,.bool (y1.h),J (y1.v.k),I (y1.v.t),.slice y1.v.A y1.v.n y1.v.c,.slice y1.v.B y1.v.m y1.v.e,.bool (y2.h),J (y2.v.k),I (y2.v.t),.slice y2.v.A y2.v.n y2.v.c,.slice y2.v.B y2.v.m y2.v.e]) O el_40 hF hS O O (O) (λ_=>⟨_,O,Ob (hF.cellsAll 0 O)⟩) (by simp[Value.oneCell']) (by simp only[maxLen];omega) (O) (O) sX ?_;intro A0 c0 s_0 w hS0_s hF hE hnew;have hX:=hX.grow hE hnew (by intro x h;have:=hsl x h;simp[this]);have hPX:=hPX.grow hE hnew (by intro x h;have:=hsl x h;simp[this]);have hY0:=hY0.grow hE hnew (by intro x h;have:=hsl x h;simp[this]);have hY1:=hY1.grow hE hnew (by intro x h;have:=hsl x h;simp[this]);have hY2:=hY2.grow hE hnew (by intro x h;have:=hsl x h;simp[this]);refine⟨hF.mid 1 4,?_⟩;refine Hb O (Bh O) (Hb O (Xb U6 O) ?_);refine CN (.slice _ _ _) O hF sizeOf40 O O sI4 Yt ?_;intro w hF hE;have hX:=hX.store hE (by grind);have hPX:=hPX.store hE (by grind);have hY0:=hY0.store hE (by grind);have hY1:=hY1.store hE (by grind);have hY2:=hY2.store hE (by grind);refine⟨hF.sub (.cons _ (.cons_cons _ (.cons_cons _ (.cons_cons _ (.cons _ (List.nil_sublist _)))))),?_⟩
 refine Ec (Ia (Ja (Yc (Ch aZ oZ O hF.F 1 O O) ?_)));refine Cb (Vg ⟨7,Rn cfs.length,none,0,0,none,0,0⟩ _) (Ra Yg O O) ?_;rintro _ w ⟨rfl,hE⟩;have hF:=hF.ext hE;have hX:=hX.ext hE;have hPX:=hPX.ext hE;have hY0:=hY0.ext hE;have hY1:=hY1.ext hE;have hY2:=hY2.ext hE;refine Qf hF rZ O O CA ?_;intro w hF hE;have hX:=hX.store hE (by grind);have hPX:=hPX.store hE (by grind);have hY0:=hY0.store hE (by grind);have hY1:=hY1.store hE (by grind);have hY2:=hY2.store hE (by grind);refine Ea (Cc (Bc (Sa (Ig O (l:=[.bool true,J 7,I (Rn cfs.length),aQ,aQ]) O dZ rZ O (hF.cellsAll 2 O)) ?_)));have hN:=hPX.append ((RX.plain (ds:=[Zd cls]) (cs:=[J cls]) λ_=>RepL.cons_mk (c2:=[]) (Rep.lit_mk (v:=J cls) (show Ty _ from⟨(by omega:(-9223372036854775808:Int)<=cls),(by omega:cls<=9223372036854775807)⟩)) RepL.nil_mk).append (hY0.append (hY1.append hY2)));have hN2:=(RX.one (Rep.agg_mk hN)).empty w;have hX2:=(hX.empty w).append hN2
 skip
 refine⟨(pb,.cells #[RV,.slice A0 (cfs.length+1) c0] 65)::s_0,O,⟨⟨A0,c0,s_0,_,by rw[dQ];rfl,by rw[dQ];exact hS0_s,?_⟩,λq hq=>(FR.segs_of (pre:=[_,_,_,_]) (post:=[]) hF q hq).1,?_⟩⟩;rw[jQ];exact hX2.sub (λx hx=>by simp only[ids,List.map_cons,mQ,oQ]at hx ⊢;grind);subst hD;exact FR.toMc (pre:=[_,_,_,_]) (post:=[]) hF
def KV(si:Int):Option Nat:=if si<0 then none else some si.toNat
structure MtI (p q:List Str) (R:Bool) (f i k:Nat) (si:Int) (tk:Nat):Prop where
  res:mtF p q f ⟨i,k,KV si,tk⟩=R
  fuel:mtM p q ⟨i,k,KV si,tk⟩<f
  ip:i<=p.length
  kq:k<=q.length
  tk:tk<=k
  lo:-1<=si
  hi:si<i
theorem GO{a b X:Nat}(h:a+1<=b):a*X+X<=b*X:=by
  have:=Nat.mul_le_mul_right X h;rw[Nat.add_mul,Nat.one_mul]at this;exact this
section
variable {p q:List Str}{R:Bool}{f i k tk:Nat}{si:Int}
theorem MtI.start(h1:p.length<=200)(h2:q.length<=200):MtI p q (FO p q) 10000000 0 0 (-1) 0:=by
  refine⟨?_,?_,Nat.zero_le _,Nat.zero_le _,gQ _,by omega,by omega⟩
  ·unfold FO
   rw[decide_eq_true h1,decide_eq_true h2,Bool.true_and,Bool.true_and];rfl
  have e : KV (-1) = none := rfl;rw[e,mtM];simp only[if_true,Nat.sub_zero];have a1:(p.length+1)*((q.length+1)*(q.length+1))<=201*(201*201):=Nat.mul_le_mul sX (Nat.mul_le_mul sX sX);have a2:q.length*(q.length+1)<=200*201:=Nat.mul_le_mul sX sX;omega
theorem MtI.step(h:MtI p q R f i k si tk)(hk:k<q.length):∃f',f=f'+1/\(match mtN p q ⟨i,k,KV si,tk⟩with|some m'=>mtF p q f' m'|none=>false)=R:=by
  obtain⟨f',rfl⟩:∃g,f=g+1:=⟨f-1,by have:=h.fuel;omega⟩;have hr:=h.res;rw[mtF,if_pos hk]at hr;exact⟨f',O,hr⟩
theorem MtI.star(h:MtI p q R f i k si tk)(hk:k<q.length)(hi:i<p.length)(e:p[i]=[42,42]):MtI p q R (f-1) (i+1) k (i:Int) k:=by
  obtain⟨f',rfl,hr⟩:=h.step hk;have eN:mtN p q ⟨i,k,KV si,tk⟩=some ⟨i+1,k,some i,k⟩:=by rw[mtN,if_pos];rw[List.getElem?_eq_getElem hi,e];rfl
  have es:KV (i:Int)=some i:=by unfold KV;rw[if_neg sX];rfl
  rw[eN]at hr;refine⟨by rw[es];exact hr,?_,by omega,h.kq,gQ _,by omega,by omega⟩;have hf:=h.fuel;rw[es];have X:(q.length-k)*(q.length+1)+(q.length-k)<(q.length+1)*(q.length+1):=by
    have:=Nat.mul_le_mul_right (q.length+1) (Nat.sub_le q.length k);rw[Nat.add_mul q.length 1,Nat.one_mul];omega
  have h1:=h.hi;by_cases hs:si<0
  ·rw[show KV si = none from if_pos hs]at hf
   unfold mtM at hf ⊢;simp only[reduceCtorEq,if_false,if_true,Nat.add_zero,Nat.sub_zero]at hf ⊢;have Z:=GO (X:=(q.length+1)*(q.length+1)) (a:=p.length-i) (b:=p.length+1) sX;omega
  rw[show KV si = some si.toNat from if_neg hs]at hf;unfold mtM at hf ⊢;simp only[reduceCtorEq,if_false,Nat.add_zero]at hf ⊢;have Z:=GO (X:=(q.length+1)*(q.length+1)) (a:=p.length-i) (b:=p.length-si.toNat) sX;omega
theorem MtI.one(h:MtI p q R f i k si tk)(hk:k<q.length)(hi:i<p.length)(n:¬p[i]=[42,42])(e:p[i]=[42]\/p[i]=q[k]):MtI p q R (f-1) (i+1) (k+1) si tk:=by
  obtain⟨f',rfl,hr⟩:=h.step hk;have eN:mtN p q ⟨i,k,KV si,tk⟩=some ⟨i+1,k+1,KV si,tk⟩:=by
    rw[mtN,if_neg,if_pos]
    ·simp only[List.getElem?_eq_getElem hi, List.getElem?_eq_getElem hk]
     rcases e with e|e
     ·exact .inl (by rw[e];rfl)
     exact .inr ⟨by simp,by rw[e]⟩
    simp only[List.getElem?_eq_getElem hi];exact λhh=>n (lQ hh)
  rw[eN]at hr;refine⟨hr,?_,by omega,by omega,by have:=h.tk;omega,h.lo,by have:=h.hi;omega⟩;have hf:=h.fuel;unfold mtM at hf ⊢;simp only at hf ⊢;omega
theorem MtI.other(n:∀hi:i<p.length,¬p[i]=[42,42]/\¬p[i]=[42]/\∀hk:k<q.length,¬p[i]=q[k])(hk:k<q.length){st:Option Nat}:mtN p q ⟨i,k,st,tk⟩=match st with|some s=>some ⟨s+1,tk+1,some s,tk+1⟩|none=>none:=by
  have g:¬p[i]? = some RC/\¬(p[i]? = some oneS\/(p[i]?≠none/\p[i]? = q[k]?)):=by
    by_cases hi:i<p.length
    ·obtain⟨n1, n2, n3⟩ := n hi
     rw[List.getElem?_eq_getElem hi,List.getElem?_eq_getElem hk];refine⟨λhh=>n1 (lQ hh),?_⟩;rintro (hh|⟨-,hh⟩)
     ·exact n2 (lQ hh)
     exact n3 hk (lQ hh)
    rw[List.getElem?_eq_none sX];simp
  show (if p[i]? = some RC then _ else if p[i]? = some oneS\/(p[i]?≠none/\p[i]? = q[k]?) then _ else _)=_;rw[if_neg g.1,if_neg g.2];cases st <;> rfl
theorem MtI.back(h:MtI p q R f i k si tk)(hk:k<q.length)(n:∀hi:i<p.length,¬p[i]=[42,42]/\¬p[i]=[42]/\∀hk:k<q.length,¬p[i]=q[k])(hs:0<=si):MtI p q R (f-1) (si.toNat+1) (tk+1) si (tk+1):=by
  obtain⟨f',rfl,hr⟩:=h.step hk;have es:KV si=some si.toNat:=by unfold KV;rw[if_neg sX]
  rw[MtI.other n hk,es]at hr;have h1:=h.hi;have h2:=h.ip;have h3:=h.tk;refine⟨by rw[es];exact hr,?_,by omega,by omega,gQ _,h.lo,by omega⟩;have hf:=h.fuel;rw[es]at hf ⊢;unfold mtM at hf ⊢;simp only[reduceCtorEq,if_false,Nat.add_zero]at hf ⊢;have:=GO (X:=q.length+1) (a:=q.length-(tk+1)) (b:=q.length-tk) sX;omega
structure MtJ (p:List Str) (R:Bool) (j:Nat):Prop where
  jp:j<=p.length
  res:((p.drop j).all λs=>decide (s=RC))=R
theorem MtI.done(h:MtI p q R f i k si tk)(hk:¬k<q.length):MtJ p R i:=by
  obtain⟨f',rfl⟩:∃g,f=g+1:=⟨f-1,by have:=h.fuel;omega⟩;have hr:=h.res;rw[mtF,if_neg hk]at hr;exact⟨h.ip,hr⟩
theorem MtJ.next{j:Nat}(h:MtJ p R j)(hj:j<p.length)(e:p[j]=[42,42]):MtJ p R (j+1):=by
  refine⟨hj,?_⟩;have:=h.res;rw[List.drop_eq_getElem_cons hj,List.all_cons,e]at this;exact this
theorem MtJ.end{j:Nat}(h:MtJ p R j)(n:∀hj:j<p.length,¬p[j]=[42,42]):decide ((j:Int)=(p.length:Int))=R:=by
  have hr:=h.res;by_cases hj:j<p.length
  ·rw[List.drop_eq_getElem_cons hj, List.all_cons, show decide (p[j] = RC) = false from decide_eq_false (n hj), Bool.false_and]at hr
   rw[<-hr,decide_eq_false sX]
  have e : j = p.length := by have := h.jp;omega
  subst e;rw[List.drop_length]at hr;rw[<-hr,decide_eq_true rfl];rfl
end
theorem PM(s:Str)(hl:s.length<=140737488355328)(w0:World)(hG:Gl w0):Calls prog 112 #[I s] w0 (Td λv w'=>v=.bool (Lib.validD s)/\Same [] w0 w'):=by
 refine Ga func112 O ntmps112 Fb (Ad _) ?_;have hF:=FR.start w0 [];refine Ja (Ca (Hc O) (Fc (Ca (Ug O) ?_)));refine Cb (Q6 s hl _ (hG.ext hF.same)) (Ra JQ O O) ?_;rintro _ w ⟨n,rfl,hE⟩;have hF:=hF.ext hE;refine Ca (Ro O) (Ca (Rs O O) (Ca (Fq O O) (Ca (Sc O) (Ca (Hc O) (Fc (Ca (Ae O) (Ca (Hc O) (Ea ?_))))))));refine Qd (v:=.bool _) O O ?_;exact⟨O,hF.same⟩
theorem ptrCl_c(s:Str)(hl:s.length<=140737488355328)(w0:World)(hG:Gl w0):Calls prog 111 #[I s] w0 (Td λv w'=>v=.bool (!(Lib.validD s))/\Same [] w0 w'):=by
 refine Ga func111 O ntmps111 Fb (Ad _) ?_;have hF:=FR.start w0 [];refine Ja (Ca (Hc O) (Fc (Ca (Ug O) ?_)));refine Gb hF (PM s hl _ (hG.ext hF.same)) (Ra en_112 O O) ?_;intro w hF;refine Ca (Zj O) (Ca (Hc O) (Ea ?_));refine Qd (v:=.bool _) O O ?_;exact⟨O,hF.same⟩
theorem Nz{α:Type}{q:α->Bool}{xs:List α}{j:Nat}(h:j<xs.length)(hn:(xs.take j).any q=false)(hq:q xs[j]=false):(xs.take (j+1)).any q=false:=by
  rw[iQ h,List.any_append,hn];simpa using hq
def atQ{α:Type}(q:α->Bool)(l:List α):Int:=if l.any q=true then (l.findIdx q:Int) else -1
theorem DF{α:Type}{q:α->Bool}{xs:List α}{j:Nat}(h:j<xs.length)(hn:(xs.take j).any q=false)(hq:q xs[j]=true):atQ q xs=(j:Int):=by
  rw[atQ,if_pos (List.any_eq_true.2 ⟨_,eQ h,hq⟩)]
  congr 1
  rw[List.findIdx_eq h];refine⟨hq,λi hi=>?_⟩;rw[List.any_eq_false]at hn;have:xs[i]∈xs.take j:=by rw[List.mem_take_iff_getElem];exact⟨i,by omega,rfl⟩
  simpa using hn _ this
theorem R_{α:Type}{q:α->Bool}{xs:List α}{j:Nat}(h:¬j<xs.length)(hn:(xs.take j).any q=false):atQ q xs = -1:=by
  rw[List.take_of_length_le sX]at hn;rw[atQ,if_neg (by rw[hn];decide)]
theorem HF{α:Type}(q:α->Bool)(xs:List α):decide (0<=atQ q xs)=xs.any q:=by
  rw[atQ];by_cases h:xs.any q=true
  ·rw[if_pos h,h];exact decide_eq_true sX
  rw[if_neg h,Bool.eq_false_iff.2 h];rfl
def IN(l:List Str):Bool:=decide (l.length<=64)&&l.all Lib.validD
structure RuleOk (x:Rl):Prop where
  key:x.key.length<=140737488355328
  pat:∀s∈x.pat,s.length<=140737488355328
theorem indexS_c(l:List Str)(A:Option Addr)(c:Nat)(S:Nat->Prop)(hl:∀s∈l,s.length<=140737488355328)(w0:World)(hX:Rep S w0 (Xd l) [.slice A l.length c])(hG:Gl w0):Calls prog 151 #[.slice A l.length c,.func (.func 111) #[] #[]] w0 (Td λv w'=>v=J (atQ (λs=>!(Lib.validD s)) l)/\Same [] w0 w'):=by
 have hXl:=hX.slice_len;refine Ga func151 O ntmps151 Fb (Zc _ _) ?_;have hF:=FR.start w0 [];refine Ja (Ca (Sc O) (Ea (Ha (Ja (Ca (Pd O) (Ca (Ye dX O) (Ca (Kb O) (Ea (Va ?_)))))))));refine Rc (λμ σ w=>∃(j:Nat),μ=l.length-j/\(j<=l.length)/\((l.take j).any (λs=>!(Lib.validD s))=false)/\AllEq σ [(0,.slice A l.length c),(1,.func (.func 111) #[] #[]),(7,J ((l.length:Nat))),(8,J ((j:Int)))]/\FR w0 [] [] w) _ ⟨0,O,(Nat.zero_le _),Da,Tq,hF⟩ ?_;rintro μ σ w ⟨j,rfl,hj,hn,hs,hF⟩;refine Cg.slots hs ?_;clear hs;intro σ;refine Ja (Ca (Kl O O) (Ea (Ha ?_)));refine Pc O O (λhc0=>?_) (λhc0=>?_);refine Ta (Ia (Ha (Va (Ja (Ca (Kb O) (Ca (Sc O) (Fc (Ca (Mr) (Ca (Pd O) ?_)))))))));refine Ca (Kb O) ?_;obtain⟨ad0,hA0,hk0,hx0⟩:=hX.str_elem (i:=j) sX;refine Ka (v:=.pointer (some (ad0.add (j*1)))) (Pa (i:=(j:Int)) Cr O hA0 O sX sX) (Ka (v:=I (l[j])) (Jb fZ O (hF.cell0 hk0)) ?_);refine Gb hF (ptrCl_c l[j] (hl _ (eQ _)) _ (hG.ext hF.same)) (Yi O en_111 O O) ?_;intro w hF;refine Ea (Uf O O (λhc1=>?_) (λhc1=>?_));refine Ja (Ca (Kb O) (Ca (Sc O) (Ea ?_)));refine Qd (v:=J ((j:Int))) O O ?_;exact⟨congrArg _ (DF sX hn hc1).symm,hF.same⟩;refine Ta (Ib (Ia (Fa (Ca (Um O O) (Ca (Kb O) (Db ?_))))));refine Yb ⟨_,?_,j+1,O,sX,(Nz sX hn hc1),Tq,hF⟩;omega;refine Nc (Kc O ?_);refine Ia (Ja (Ca (Sc O) (Ea ?_)));refine Qd (v:=J ((-1))) O O ?_;exact⟨congrArg _ (R_ sX hn).symm,hF.same⟩
theorem VI(l:List Str)(A:Option Addr)(c:Nat)(S:Nat->Prop)(hl:∀s∈l,s.length<=140737488355328)(w0:World)(hX:Rep S w0 (Xd l) [.slice A l.length c])(hG:Gl w0):Calls prog 110 #[.slice A l.length c,.func (.func 111) #[] #[]] w0 (Td λv w'=>v=.bool (l.any (λs=>!(Lib.validD s)))/\Same [] w0 w'):=by
 refine Ga func110 O ntmps110 Fb (Zc _ _) ?_;have hF:=FR.start w0 [];refine Ja (Ca (Hc O) (Fc (Ca (Pd O) (Ca (Mr) ?_))));refine Gb hF (indexS_c l A c _ hl _ (hF.rep hX) (hG.ext hF.same)) (Za en_151 O O O) ?_;intro w hF;refine Ca (GC O O) (Ca (Hc O) (Ea ?_));refine Qd (v:=.bool _) O O ?_;exact⟨congrArg Value.bool (HF _ _),hF.same⟩
theorem DO(l:List Str)(A:Option Addr)(c:Nat)(S:Nat->Prop)(hl:∀s∈l,s.length<=140737488355328)(w0:World)(hX:Rep S w0 (Xd l) [.slice A l.length c])(hG:Gl w0):Calls prog 71 #[.slice A l.length c] w0 (Td λv w'=>v=.bool (IN l)/\Same [] w0 w'):=by
 have hXl:=hX.slice_len;refine Ga func71 O ntmps71 Fb (Ad _) ?_;have hF:=FR.start w0 [];refine Ja (Ca (Hc O) (Fc (Ca (Pd O) (Ca (Ye dX O) (Ca (HW O O) (Ca (Ae O) ?_))))));refine Dd (d:=6) O (λhg0=>?_) (λhg0=>?_);refine Ca (Pd O) (Gb hF (VI l A c _ hl _ (hF.rep hX) (hG.ext hF.same)) (Za en_110 O O O) ?_);intro w hF;refine Ca (Zj O) (Ca (Nd O O) (Ca (Hc O) (Ea ?_)));refine Qd (v:=.bool _) O O ⟨congrArg Value.bool ?_,hF.same⟩
 ·first|(rw[IN,decide_eq_true sX,Bool.true_and,List.not_any_eq_all_not];simp;done)|(rw[IN,decide_eq_false sX,Bool.false_and];done)
 refine Oa (Oa (Oa (Ca (Md O O) (Ca (Hc O) (Ea ?_)))));refine Qd (v:=.bool false) O O ⟨congrArg Value.bool ?_,hF.same⟩
 ·first|(rw[IN,decide_eq_true sX,Bool.true_and,List.not_any_eq_all_not];simp;done)|(rw[IN,decide_eq_false sX,Bool.false_and];done)
theorem XI(x:Rl)(hx:RuleOk x)(A:Option Addr)(c:Nat)(S:Nat->Prop)(w0:World)(hX:Rep S w0 (Xd x.pat) [.slice A x.pat.length c])(hG:Gl w0):Calls prog 47 #[.agg #[.slice A x.pat.length c,I x.key]] w0 (Td λv w'=>v=.bool (ID x)/\Same [] w0 w'):=by
 refine Ga func47 O ntmps47 Fb (Ad _) ?_;have hF:=FR.start w0 [];refine Ja (Ve hF O ?_);rintro b1 w hb1 hF -;refine Ca (Hc O) (Fc (Ca (Xb fa_89_1 O) (Yc (Wy fZ O hF.F 0 O O) ?_)));refine Cb (Q6 x.key hx.key _ (hG.ext hF.same)) (Ra JQ O O) ?_;rintro _ w ⟨n,rfl,hE⟩;have hF:=hF.ext hE;refine Ca (Ro O) (Ca (Rs O O) (Ca (Fq O O) (Ca (Sc O) (Ca (Hc O) (Fc (Ca (Ae O) (Ca (Ae O) ?_)))))));refine Oe (d:=12) O (λhg0=>?_) (λhg0=>?_);refine Ca (Xb fa_89_0 O) (Yc (Rf xQ O hF.F 0 O O) ?_);refine Gb hF (DO x.pat A c _ hx.pat _ (hF.rep hX) (hG.ext hF.same)) (Ra en_71 O O) ?_;intro w hF;refine Ca (Nd O O) (Ca (Hc O) (Ea ?_));refine Qd (v:=.bool _) O O ⟨congrArg Value.bool ?_,hF.same⟩;show _=(Lib.validD x.key&&IN x.pat);simp_all;refine Oa (Oa (Oa (Ca (Md O O) (Ca (Hc O) (Ea ?_)))));refine Qd (v:=.bool false) O O ⟨congrArg Value.bool ?_,hF.same⟩;show _=(Lib.validD x.key&&IN x.pat);simp_all
theorem OX(x:Rl)(hx:RuleOk x)(A:Option Addr)(c:Nat)(S:Nat->Prop)(w0:World)(hX:Rep S w0 (Xd x.pat) [.slice A x.pat.length c])(hG:Gl w0):Calls prog 46 #[.agg #[.slice A x.pat.length c,I x.key]] w0 (Td λv w'=>v=.bool (!(ID x))/\Same [] w0 w'):=by
 refine Ga func46 O ntmps46 Fb (Ad _) ?_;have hF:=FR.start w0 [];refine Ja (Ve hF O ?_);rintro b1 w hb1 hF -;refine Ca (Hc O) (Fc (Yc (Ch isAgg89 sizeOf89 O hF.F 0 O O) ?_));refine Gb hF (XI x hx A c _ _ (hF.rep hX) (hG.ext hF.same)) (Ra en_47 O O) ?_;intro w hF;refine Ca (Zj O) (Ca (Hc O) (Ea ?_));refine Qd (v:=.bool _) O O ?_;exact⟨O,hF.same⟩
theorem indexR_c(l:List Rl)(A:Option Addr)(c:Nat)(S:Nat->Prop)(hl:∀x∈l,RuleOk x)(w0:World)(hX:Rep S w0 (Uz l) [.slice A l.length c])(hG:Gl w0):Calls prog 69 #[.slice A l.length c,.func (.func 46) #[] #[]] w0 (Td λv w'=>v=J (atQ (λx=>!(ID x)) l)/\Same [] w0 w'):=by
 have hXl:=hX.slice_len;simp only[rQ]at hXl;refine Ga func69 O ntmps69 Fb (Zc _ _) ?_;have hF:=FR.start w0 [];refine Ja (Ca (Sc O) (Ea (Ha (Ja (Ca (Pd O) (Ca (Ye underlying60 O) (Ca (Kb O) (Ea (Va ?_)))))))));refine Rc (λμ σ w=>∃(j:Nat),μ=l.length-j/\(j<=l.length)/\((l.take j).any (λx=>!(ID x))=false)/\AllEq σ [(0,.slice A l.length c),(1,.func (.func 46) #[] #[]),(7,J ((l.length:Nat))),(8,J ((j:Int)))]/\FR w0 [] [] w) _ ⟨0,O,(Nat.zero_le _),Da,Tq,hF⟩ ?_;rintro μ σ w ⟨j,rfl,hj,hn,hs,hF⟩;refine Cg.slots hs ?_;clear hs;intro σ;refine Ja (Ca (Kl O O) (Ea (Ha ?_)));refine Pc O O (λhc0=>?_) (λhc0=>?_);refine Ta (Ia (Ha (Va (Ja (Ca (Kb O) (Ca (Sc O) (Fc (Ca (Mr) (Ca (Pd O) ?_)))))))));refine Ca (Kb O) ?_;obtain⟨ad0,B0,e0,hA0,hk0,hx0⟩:=hX.rule_elem (i:=j) sX;refine Ka (v:=.pointer (some (ad0.add (j*2)))) (Pa (i:=(j:Int)) sl_60 O hA0 O sX sX) (Ka (Ya (l:=[.slice (B0) ((l[j]).pat.length) (e0),I ((l[j]).key)]) isAgg89 sizeOf89 O O (hF.cells0 hk0)) ?_);refine Gb hF (OX l[j] (hl _ (eQ _)) B0 e0 _ _ (hF.rep hx0) (hG.ext hF.same)) (Yi O en_46 O O) ?_;intro w hF;refine Ea (Uf O O (λhc1=>?_) (λhc1=>?_));refine Ja (Ca (Kb O) (Ca (Sc O) (Ea ?_)));refine Qd (v:=J ((j:Int))) O O ?_;exact⟨congrArg _ (DF sX hn hc1).symm,hF.same⟩;refine Ta (Ib (Ia (Fa (Ca (Um O O) (Ca (Kb O) (Db ?_))))));refine Yb ⟨_,?_,j+1,O,sX,(Nz sX hn hc1),Tq,hF⟩;omega;refine Nc (Kc O ?_);refine Ia (Ja (Ca (Sc O) (Ea ?_)));refine Qd (v:=J ((-1))) O O ?_;exact⟨congrArg _ (R_ sX hn).symm,hF.same⟩
theorem MG(l:List Rl)(A:Option Addr)(c:Nat)(S:Nat->Prop)(hl:∀x∈l,RuleOk x)(w0:World)(hX:Rep S w0 (Uz l) [.slice A l.length c])(hG:Gl w0):Calls prog 45 #[.slice A l.length c,.func (.func 46) #[] #[]] w0 (Td λv w'=>v=.bool (l.any (λx=>!(ID x)))/\Same [] w0 w'):=by
 refine Ga func45 O ntmps45 Fb (Zc _ _) ?_;have hF:=FR.start w0 [];refine Ja (Ca (Hc O) (Fc (Ca (Pd O) (Ca (Mr) ?_))));refine Gb hF (indexR_c l A c _ hl _ (hF.rep hX) (hG.ext hF.same)) (Za en_69 O O O) ?_;intro w hF;refine Ca (GC O O) (Ca (Hc O) (Ea ?_));refine Qd (v:=.bool _) O O ?_;exact⟨congrArg Value.bool (HF _ _),hF.same⟩
theorem J1(l:List Rl)(A:Option Addr)(c:Nat)(S:Nat->Prop)(hl:∀x∈l,RuleOk x)(w0:World)(hX:Rep S w0 (Uz l) [.slice A l.length c])(hG:Gl w0):Calls prog 29 #[.slice A l.length c] w0 (Td λv w'=>v=.bool (B4 l)/\Same [] w0 w'):=by
 have hXl:=hX.slice_len;refine Ga func29 O ntmps29 Fb (Ad _) ?_;have hF:=FR.start w0 [];refine Ja (Ca (Hc O) (Fc (Ca (Pd O) (Ca (Ye underlying60 O) (Ca (HW O O) (Ca (Ae O) ?_))))));refine Dd (d:=6) O (λhg0=>?_) (λhg0=>?_);refine Ca (Pd O) (Gb hF (MG l A c _ hl _ (hF.rep hX) (hG.ext hF.same)) (Za en_45 O O O) ?_);intro w hF;refine Ca (Zj O) (Ca (Nd O O) (Ca (Hc O) (Ea ?_)));refine Qd (v:=.bool _) O O ⟨congrArg Value.bool ?_,hF.same⟩
 ·first|(rw[B4,decide_eq_true sX,Bool.true_and,List.not_any_eq_all_not];simp;done)|(rw[B4,decide_eq_false sX,Bool.false_and];done)
 refine Oa (Oa (Oa (Ca (Md O O) (Ca (Hc O) (Ea ?_)))));refine Qd (v:=.bool false) O O ⟨congrArg Value.bool ?_,hF.same⟩
 ·first|(rw[B4,decide_eq_true sX,Bool.true_and,List.not_any_eq_all_not];simp;done)|(rw[B4,decide_eq_false sX,Bool.false_and];done)
theorem nl_true{P:Program}{ρ:Operand->Value}{o:Oper}{w w':World}{p:Prop}{_:Decidable p}(h:(execOp ρ o).run P w=.ok (.value (.bool (decide p))) w')(hp:p):(execOp ρ o).run P w=.ok (.value (.bool true)) w':=by rw[h,decide_eq_true hp]
theorem WX{P:Program}{ρ:Operand->Value}{o:Oper}{w w':World}{p:Prop}{_:Decidable p}(h:(execOp ρ o).run P w=.ok (.value (.bool (decide p))) w')(hp:¬p):(execOp ρ o).run P w=.ok (.value (.bool false)) w':=by rw[h,decide_eq_false hp]
theorem VW(A:Option Addr)(c:Nat)(bb:Nat)(w0:World):Calls prog 69 #[.slice A 0 c,.func (.func 116) #[] #[V bb]] w0 (Td λv w'=>v=J (-1)/\Same [] w0 w'):=by
 refine Ga func69 O ntmps69 Fb (Zc _ _) ?_;have hF:=FR.start w0 [];refine Ja (Ca (Sc O) (Ea (Ha (Ja (Ca (Pd O) (Ca (Ye underlying60 O) (Ca (Kb O) (Ea (Va ?_)))))))));refine Rc (λμ σ w=>μ=0/\AllEq σ [(0,.slice A 0 c),(1,.func (.func 116) #[] #[.pointer (some (⟨bb,0,none⟩))]),(7,J 0),(8,J 0)]/\FR w0 [] [] w) _ ⟨O,Tq,hF⟩ ?_;rintro μ σ w ⟨rfl,hs,hF⟩;refine Cg.slots hs ?_;clear hs;intro σ;refine Ja (Ka (v:=.bool false) (WX (SC O O) Ua) (Ea (Ha (Kg O ?_))));refine Nc (Kc O ?_);refine Ia (Ja (Ca (Sc O) (Ea ?_)));refine Qd (v:=J ((-1))) O O ?_;exact⟨O,hF.same⟩
theorem TU(A:Option Addr)(c:Nat)(B:Option Addr)(m e:Nat)(w0:World):Calls prog 78 #[.slice A 0 c,.slice B m e] w0 (Td λv w'=>v=.tuple #[I [],.bool false]/\Same [] w0 w'):=by
 refine Ga func78 O ntmps78 Fb (Zc _ _) ?_;have hF:=FR.start w0 [];refine Ja (EE (.slice _ _ _) hF O ?_);rintro b1 w hb1 hF -;refine Ca (Qm O) (Ca (Hc O) (Fc (Ca (Pd O) (Ka (v:=.func (.func 116) #[] #[V b1]) (Ol O) ?_))));refine Gb hF (VW A c b1 _) (Za en_69 O O O) ?_;intro w hF;refine Ca (Sc O) (Ea (Ha (Ja (Ca (Kb O) (Ka (v:=.bool true) (nl_true (SC O O) Ua) (Ea (Ge O (Ja (Ca (Qm O) ?_)))))))));refine Ca (Hc O) (Ea ?_);refine Cc (Bc (Sa (Bg (v:=I []) (x:=.bool false) O O O) ?_));exact⟨O,hF.same⟩
end Go.Scarf
