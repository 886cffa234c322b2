/- A part of the proof. -/
import Derived.Test.YtndkhbfnfagbgaaGreatDoorM1
import Derived.Test.YtndkhbfnfagbgaaGreatDoorHm
set_option linter.all false
set_option maxHeartbeats 8000000
set_option maxRecDepth 10000
namespace Go.Scarf
open Go.RowKit Go.Proofs Go.Proofs.Tryz
theorem Tg{S:Nat->Prop}{w:World}{t:Tree}{x:Tv}(h:Rep S w (Zb t) x.cells):x.k=t.kind/\x.t=t.text/\x.n=t.keys.length/\x.m=t.items.length/\Rep S w (Xd t.keys) [.slice x.A x.n x.c]/\Rep S w (.slice (Gd t.items)) [.slice x.B x.m x.e]:=by
  obtain⟨k,s,ks,xs⟩:=t;obtain⟨A,c,B,e,hq,-,-,h3,h4⟩:=h.tree_inv;simp only[Tv.cells,List.cons.injEq,Value.int.injEq,Value.string.injEq,Value.slice.injEq,true_and,and_true]at hq;obtain⟨e1,e2,e3,e4⟩:=hq;refine⟨e1,bs_inj.1 e2,e3.2.1,e4.2.1,?_,?_⟩
  ·rw[e3.1,e3.2.1,e3.2.2];exact h3
  rw[e4.1,e4.2.1,e4.2.2];exact h4
def TinyT(x:Tree):Prop:=Kd x=true/\Wb x<=256/\Yd x<=16777216
def TinyO(o:Option Tree):Prop:=∀x,o=some x->TinyT x
theorem TinyT.ok{x:Tree}(h:TinyT x):SdOk ⟨true,x⟩:=⟨fQ h.2.1 sX,Hk x (fQ h.2.2 sX)⟩
theorem TinyO.ok{o:Option Tree}(h:TinyO o):SdOk (Nk o):=by
  cases o with
  | none=>exact noS_ok
  | some x=>exact (h x rfl).ok
theorem TinyT.kid{x y:Tree}(h:TinyT x)(hy:y∈x.items):TinyT y:=by
  obtain⟨k,t,ks,xs⟩:=x;have hy':y∈xs:=hy;have h1:=Uh hy';have h2:=Ai hy';obtain⟨a,b,c⟩:=h;rw[Wb]at b;rw[Yd]at c;exact⟨GT a hy',by omega,by omega⟩
theorem TinyT.mem{x:Tree}(h:TinyT x)(k:Str):TinyO (Ze x k):=λ_ hy=>h.kid (S6 hy)
theorem TinyT.item{x:Tree}(h:TinyT x)(key id:Str):TinyO (Dj x key id):=λ_ hy=>h.kid (E9 hy)
theorem TinyT.key{x:Tree}(h:TinyT x):∀k∈x.keys,k.length<=16777216:=by
  obtain⟨k,t,ks,xs⟩:=x;intro s hs;have h1:=Ql (show s∈ks from hs);have h2:=h.2.2;rw[Yd]at h2;omega
theorem Rx{a b:Option Tree}(ha:TinyO a)(hb:TinyO b):QD (Nk a) (Nk b)=Km a b:=by
  cases a with
  | none=>cases b <;> rfl
  | some x =>
    cases b with
    | none=>rfl
    | some y=>simp[QD,Nk,Km,Vw (ha x rfl).1 (hb y rfl).1]
theorem Bu{a:Option Tree}(ha:TinyO a):Qv (Nk a)=Nk a:=by
  cases a with
  | none=>rfl
  | some x=>simp[Qv,Nk,So (ha x rfl).1]
theorem clsZ_O(a b c:Option Tree):N6 (Nk a) (Nk b) (Nk c)=Ks a b c:=by
  cases a with
  | none=>simp[N6,Ks,Nk,noS]
  | some x =>
    cases b with
    | none=>simp[N6,Ks,Nk,noS]
    | some y =>
      cases c with
      | none=>simp[N6,Ks,Nk,noS]
      | some z =>
        unfold N6 Ks Nk;by_cases h:x.kind=y.kind/\x.kind=z.kind
        ·rw[if_neg Da,if_neg Da,if_pos h];simp only[if_pos h]
        rw[if_neg Da,if_neg Da,if_neg h];simp only[if_neg h]
structure In (rl:List Rl) (i:List Nat) (w0:World) (sm:List (Nat × Obj)) (pb:Nat) (RV:Value) (cfs:List Cf) (path:List Str) (PA:Option Addr) (pc:Nat) (b l r:Option Tree) (x y z:Sv):Prop where
  mi:Mi i w0 sm pb RV cfs
  g:Gl w0
  pth:∃S,Off S w0 sm/\Rep S w0 (Xd path) [.slice PA path.length pc]
  tri:∃S,Off S w0 sm/\Rep S w0 (Vv (Nk b) (Nk l) (Nk r)) (th x y z)
  rul:∃S,Off S w0 sm/\Rep S w0 (Uz rl) [RV]
  tb:TinyO b
  tl:TinyO l
  tr:TinyO r
  cnt:cfs.length+Vi l+Vi r<1000
  ptx:∀s∈path,s.length<=33554432
def Out(i:List Nat)(w0:World)(sm:List (Nat × Obj))(pb:Nat)(RV:Value)(cfs:List Cf)(mo:Mo)(v:Value)(w':World):Prop :=
  ∃(sm':List (Nat × Obj))(q:Sv),v=.agg q.cells.toArray/\Rep (Nq w0 sm' w') w' (He (Nk mo.1)) q.cells/\Mo' i w0 sm w' sm' pb RV (cfs++mo.2)
def AtC(rl:List Rl)(F:Nat):Prop:=∀(i:List Nat)(w0:World)(sm:List (Nat × Obj))(pb:Nat)(RV:Value)(cfs:List Cf)(path:List Str)(PA:Option Addr)(pc:Nat)(b l r:Option Tree)(x y z:Sv),
  In rl i w0 sm pb RV cfs path PA pc b l r x y z->On l<F->path.length+F<=900 ->
  Calls prog 30 #[V pb,.slice PA path.length pc,.agg (th x y z).toArray] w0 (Td λv w'=>Out i w0 sm pb RV cfs (Nj rl F path cfs.length b l r) v w')
def MtC(fn:Nat)(rl:List Rl)(F:Nat)(kd:Int)(f:List Str->Nat->Tree->Tree->Tree->Mo):Prop:=∀(i:List Nat)(w0:World)(sm:List (Nat × Obj))(pb:Nat)(RV:Value)(cfs:List Cf)(path:List Str)(PA:Option Addr)(pc:Nat)(b l r:Tree)(x y z:Sv),
  In rl i w0 sm pb RV cfs path PA pc (some b) (some l) (some r) x y z->b.kind=kd->l.kind=kd->r.kind=kd->¬Jp l r=true->Cd l<=F->path.length+F<=899 ->
  Calls prog fn #[V pb,.slice PA path.length pc,.agg (th x y z).toArray] w0 (Td λv w'=>Out i w0 sm pb RV cfs (f path cfs.length b l r) v w')
theorem getT_c(x:Tree)(key:Str)(hsz:Wb x<=1000000000)(S:Nat->Prop)(w0:World)(cs:List Value)(hR:Rep S w0 (Zb x) cs)(hk:Yz x)(hG:Gl w0):Calls prog 77 #[.agg cs.toArray,I key] w0 (Td λv w'=>∃ct:List Value,v=.tuple #[.agg ct.toArray,.bool (Jt x key).2]/\Rep (Btw w0 w') w' (Zb (Jt x key).1) ct/\Same [] w0 w'):=by
  obtain⟨k,t,ks,xs⟩:=x;exact getV_c k t ks xs key hsz S w0 cs hR hk hG
theorem DZ(t:Tree)(k:Str)(x:Tv)(kb:Nat)(S:Nat->Prop)(w0:World)(hX:Rep S w0 (Zb t) x.cells)(hkb:w0.cell? ⟨kb,0,none⟩=some (I k))(hsz:Wb t<=1000000000)(hok:Yz t)(ho:Di t=true)(h6:t.kind=6)(hG:Gl w0):Calls prog 76 #[.agg x.cells.toArray,V kb] w0 (Td λv w'=>∃q:Tv,v=.tuple #[.agg q.cells.toArray,.bool (Ze t k).isSome]/\Rep (Btw w0 w') w' (Zb ((Ze t k).getD zeroT)) q.cells/\Same [] w0 w'):=by
 refine Ga func76 O ntmps76 Fb (Zc _ _) ?_;have hF:=FR.start w0 [];refine Ja (Ve hF O ?_);rintro b1 w hb1 hF -;refine Od (cs:=#[J 0,I [],aQ,aQ]) hF nX O ?_;rintro b2 w hb2 hF -;refine Ca (Hc O) (Fc (Yc (Ch aZ oZ O hF.F 1 O O) (Ka (v:=I k) (Jb fZ O (hF.cell0 hkb)) ?_)));refine Cb (getT_c t k hsz _ _ x.cells (hF.rep hX) hok (hG.ext hF.same)) (Za en_77 O O O) ?_;rintro _ w ⟨ct,rfl,hRt,hE⟩;rw[GB ho h6]at hRt;simp only[GB ho h6];obtain⟨q,rfl,-⟩:=Ll hRt;have hRX:=RX.made (ids:=[b2,b1]) hF.same.size (λx hx=>hF.lt_ids (by grind)) hRt;have hF:=hF.ext hE;clear hE hRt;refine Ca (N4 O O) (Ca (Fq O O) ?_);refine Qf hF oZ O O Mh ?_;intro w hF hE;have hRX:=hRX.store hE (by grind);refine Ca (Hc O) (Ea ?_);refine Cc (Bc (Sa (Me O (l:=q.cells) O aZ oZ O (hF.cellsAll 0 O) (v:=.bool ((Ze t k).isSome)) O) ?_))
 ·exact⟨q,O,hRX.done,hF.same⟩
theorem side_O{S:Nat->Prop}{w:World}{o:Option Tree}{q:Tv}(h:Rep S w (Zb (o.getD zeroT)) q.cells)(ho:o.isSome=true):Rep S w (He (Nk o)) (Sv.mk true q).cells:=by
  cases o with
  | none=>cases ho
  | some x=>exact Te (s:=⟨true,x⟩) h
theorem side_N{S:Nat->Prop}{w:World}{o:Option Tree}(ho:¬o.isSome=true):Rep S w (He (Nk o)) (Sv.mk false zTv).cells:=by
  cases o with
  | none=>exact EF
  | some x=>exact absurd rfl ho
theorem W7(t:Tree)(k:Str)(kb:Nat)(x:Sv)(fb:Nat)(S:Nat->Prop)(w0:World)(hX:Rep S w0 (Zb t) x.v.cells)(hkb:w0.cell? ⟨kb,0,none⟩=some (I k))(h6:t.kind=6)(hfb:w0.cell? ⟨fb,0,none⟩=some (.func (.func 76) #[] #[V kb]))(ht:TinyT t)(hG:Gl w0):Calls prog 114 #[.agg x.cells.toArray,V fb] w0 (Td λv w'=>∃y:Sv,v=.agg y.cells.toArray/\Rep (Btw w0 w') w' (He (Nk (Ze t k))) y.cells/\Same [] w0 w'):=by
 refine Ga func114 O ntmps114 Fb (Zc _ _) ?_;have hF:=FR.start w0 [];refine Ja (Ve hF O ?_);rintro b1 w hb1 hF -;refine Od (cs:=#[.bool false,J 0,I [],aQ,aQ]) hF pX O ?_;rintro b2 w hb2 hF -;refine Ea (Ha (Ja (Ka (v:=.func (.func 76) #[] #[V kb]) (Jb isAgg116 O (hF.cell0 hfb)) (Ca (Xb Pe O) (Ka (v:=.agg (x.v.cells).toArray) (Ya (l:=x.v.cells) aZ oZ O O (hF.part 1 1 O O)) ?_)))));refine Cb (DZ t k x.v kb _ _ (hF.rep hX) (Same.cell hF.same hkb) ht.ok.sz ht.ok.ok (Kj ht.1) h6 (hG.ext hF.same)) (Yi O en_76 O O) ?_;rintro _ w ⟨q,rfl,hRt,hE⟩;have hRX:=RX.made (ids:=[b2,b1]) hF.same.size (λx hx=>hF.lt_ids (by grind)) hRt;have hF:=hF.ext hE;clear hE hRt;refine Ca (Ro O) (Ca (N4 O O) (Ca (Fq O O) ?_));refine Kh hF nX oZ O ?_;intro b3 w hb3 hF hE;have hRX:=hRX.alloc hE hb3;refine Ca (Hc O) (Fc (Ca (Ae O) (Ea ?_)));refine Uf O O (λhc0=>?_) (λhc0=>?_);refine Ja (Yc (Ch aZ oZ O hF.F 0 O O) ?_);refine Cb (Vg q _) (Ra Yg O O) ?_;rintro _ w ⟨rfl,hE⟩;have hF:=hF.ext hE;have hRX:=hRX.ext hE;refine Qf hF rZ O O Yt ?_;intro w hF hE;have hRX:=hRX.store hE (by grind);refine Ea (Cc (Bc (Sa (Ig O (l:=[.bool true,J (q.k),I (q.t),.slice q.A q.n q.c,.slice q.B q.m q.e]) O dZ rZ O (hF.cellsAll 1 O)) ?_)))
 ·exact⟨⟨true,q⟩,O,(side_O hRX.done hc0),hF.same⟩
 refine Ta (Ia (Ja ?_));refine Ka (w':=w) (v:=.agg #[.bool false,J 0,I [],aQ,aQ]) Mb (Qf hF rZ O O Yt ?_);intro w hF hE;have hRX:=hRX.store hE (by grind);refine Ea (Cc (Bc (Sa (Ig O (l:=[.bool false,J 0,I [],aQ,aQ]) O dZ rZ O (hF.cellsAll 1 O)) ?_)));exact⟨⟨false,zTv⟩,O,side_N (by rw[hc0];simp),hF.same⟩
theorem N8(b l r:Tree)(k:Str)(kb:Nat)(x y z:Sv)(S:Nat->Prop)(w0:World)(hT:Rep S w0 (Vv ⟨true,b⟩ ⟨true,l⟩ ⟨true,r⟩) (th x y z))(hkb:w0.cell? ⟨kb,0,none⟩=some (I k))(h6b:b.kind=6)(h6l:l.kind=6)(h6r:r.kind=6)(hb:TinyT b)(hl:TinyT l)(hr:TinyT r)(hG:Gl w0):Calls prog 75 #[.agg (th x y z).toArray,.func (.func 76) #[] #[V kb]] w0 (Td λv w'=>∃q0 q1 q2:Sv,v=.agg (th q0 q1 q2).toArray/\Rep (Btw w0 w') w' (Vv (Nk (Ze b k)) (Nk (Ze l k)) (Nk (Ze r k))) (th q0 q1 q2)/\Same [] w0 w'):=by
 obtain⟨hx_,hy_,hz_⟩:=Wo hT;have hx:=(Hf hx_).2.2.2.2;have hy:=(Hf hy_).2.2.2.2;have hz:=(Hf hz_).2.2.2.2;refine Ga func75 O ntmps75 Fb (Zc _ _) ?_;have hF:=FR.start w0 [];refine Ja (Ve hF O ?_);rintro b1 w hb1 hF -;refine EE (.func (.func 76) #[] #[V kb]) hF O ?_;rintro b2 w hb2 hF -;refine Od (cs:=#[.bool false,J 0,I [],aQ,aQ,.bool false,J 0,I [],aQ,aQ,.bool false,J 0,I [],aQ,aQ]) hF zeroValue71 O ?_;rintro b3 w hb3 hF -;refine Fc (Ka (v:=.func (.func 114) #[] #[V b2]) (Ol O) (Ca (Ry) (Ea (Ha ?_))));refine If (zs:=.of [13]) (bQ [0,1,2,4,5,6,8,9,10] (cQ [3,7,11] (.free 12 (.act 13 .nil)))) hF ?_;intro w hF;refine Hb O (Mr) (Hb O (Xb Ml O) (Qa O (v:=.agg (x.cells).toArray) (λw hC=>Ya (l:=x.cells) dZ rZ O O (hC.part 2 0 O O)) (Hb O (Mr) (Hb O (Xb Ik O) (Qa O (v:=.agg (y.cells).toArray) (λw hC=>Ya (l:=y.cells) dZ rZ O O (hC.part 2 5 O O)) (Hb O (Mr) (Hb O (Xb Sl O) (Qa O (v:=.agg (z.cells).toArray) (λw hC=>Ya (l:=z.cells) dZ rZ O O (hC.part 2 10 O O)) ?_))))))));refine Qb O (W7 b k kb x b2 _ _ (hF.rep hx) (Same.cell hF.same hkb) h6b (hF.cell 1 O O) hb (hG.ext hF.same)) (Yi O HM O O) ?_;rintro _ w ⟨q0,rfl,hRt,hE⟩;have hY0:=RX.made (ids:=[b3,b2,b1]) hF.same.size (λx hx=>hF.lt_ids (by grind)) hRt;have hF:=hF.ext hE;clear hE hRt;refine⟨hF,?_⟩;refine Qb O (W7 l k kb y b2 _ _ (hF.rep hy) (Same.cell hF.same hkb) h6l (hF.cell 1 O O) hl (hG.ext hF.same)) (Yi O HM O O) ?_;rintro _ w ⟨q1,rfl,hRt,hE⟩;have hY1:=RX.made (ids:=[b3,b2,b1]) hF.same.size (λx hx=>hF.lt_ids (by grind)) hRt;have hF:=hF.ext hE;have hY0:=hY0.ext hE;clear hE hRt;refine⟨hF,?_⟩;refine Qb O (W7 r k kb z b2 _ _ (hF.rep hz) (Same.cell hF.same hkb) h6r (hF.cell 1 O O) hr (hG.ext hF.same)) (Yi O HM O O) ?_;rintro _ w ⟨q2,rfl,hRt,hE⟩;have hY2:=RX.made (ids:=[b3,b2,b1]) hF.same.size (λx hx=>hF.lt_ids (by grind)) hRt
 have hF:=hF.ext hE;have hY0:=hY0.ext hE;have hY1:=hY1.ext hE;clear hE hRt;refine⟨hF,?_⟩;refine Qa O (v:=.agg ((th q0 q1 q2)).toArray) (λw hC=>by kernel_rfl) (Ko O hF sZ O O Mh ?_);intro w hF hE;have hY0:=hY0.store hE (by grind);have hY1:=hY1.store hE (by grind);have hY2:=hY2.store hE (by grind);refine Ec (Ia ?_);refine Cc (Bc (Sa (Ig O (l:=(th q0 q1 q2)) O isAgg71 sZ O (hF.cellsAll 0 O)) ?_))
 ·exact⟨q0,q1,q2,O,Nf hY0.done hY1.done hY2.done,hF.same⟩
theorem FR.cellE{w0 w:World}{E:List Nat}{bs_:List (Nat × Obj)}(hF:FR w0 E bs_ w){a:Addr}{v:Value}(h:w0.cell? a=some v)(hb:a.block∉E):w.cell? a=some v:=by
  rw[<-h];exact World.cell?_of_block (w:=w0) (hF.same.block _ (World.block_lt_of_cell? _ _ h) hb)
section
variable {w0 w w':World}{i L:List Nat}{sm sm' bs_ pre post:List (Nat × Obj)}{pb:Nat}{RV:Value}{cfs cfs':List Cf}{rl:List Rl}{path:List Str}{PA:Option Addr}{pc:Nat}{b l r:Option Tree}{x y z:Sv}{mo:Mo}{v:Value}
theorem Mi.at(hM:Mi i w0 sm pb RV cfs)(hG:Gl w0)(hF:FR w0 (ids sm) bs_ w)(hL:∀x∈L,x∈bs_.map (·.1))(hsp:Spl bs_ pre sm post:=by repeat (first|exact Spl.z|apply Spl.c|apply Spl.a)):Mi (L++i) w sm pb RV cfs:=by
  have hl:∀x∈L,w0.heap.size<=x\/x∈i:=λx hx=>by
    obtain⟨q,hq,rfl⟩:=nQ.1 (hL x hx);rcases (hF.own q hq).2 with h|h
    ·exact .inl h
    exact .inr (hM.sub _ h)
  refine⟨hM.m.step hF.same hM.sub (λx hx=>?_),hF.hh hsp,λx hx=>List.mem_append_right _ (hM.sub x hx),λx hx=>?_⟩
  ·rcases mQ.1 hx with h|h
   ·exact (hl x h).symm
   exact .inl h
  rcases mQ.1 hx with h|h
  ·refine⟨?_, hF.lt_ids (hL x h)⟩
   rcases hl x h with h1|h1
   ·exact fQ hG.size h1
   exact (hM.low x h1).1
  exact⟨(hM.low x h).1,Nat.lt_of_lt_of_le (hM.low x h).2 hF.same.size⟩
theorem Out.keep{o:Option Tree}{q:Sv}(hM:Mi i w0 sm pb RV cfs)(hF:FR w0 (ids sm) bs_ w)(hq:RX w0 (L++i) w [He (Nk o)] q.cells)(hsp:Spl bs_ pre sm post:=by repeat (first|exact Spl.z|apply Spl.c|apply Spl.a)):Out i w0 sm pb RV cfs (o,[]) (.agg q.cells.toArray) w :=
  ⟨sm,q,rfl,hq.nq (λx hx=>List.mem_append_right _ (hM.sub x hx)),⟨by rw[qQ];exact hM.m.step hF.same hM.sub (λx hx=>(mQ.1 hx).elim .inl λh=>.inl (hM.sub x h)),hF.hh hsp,hF.mc hsp⟩⟩
theorem Mc.trans{w1:World}{sm1:List (Nat × Obj)}(h1:Mc w0 sm w1 sm1)(h2:Mc w1 sm1 w' sm'):Mc w0 sm w' sm' :=
  ⟨⟨h2.same.os.trans h1.same.os,h2.same.tape.trans h1.same.tape,h2.same.output.trans h1.same.output,fQ h1.same.size h2.same.size,λb hb hn=>(h2.same.block b (Nat.lt_of_lt_of_le hb h1.same.size) (λhm=>by
      obtain⟨q,hq,rfl⟩:=nQ.1 hm;rcases h1.fresh q hq with h|h
      ·omega
      exact hn h)).trans (h1.same.block b hb hn)⟩,
    λq hq=>by
      rcases h2.fresh q hq with h|h
      ·exact .inl (fQ h1.same.size h)
      obtain⟨q', hq', e⟩ := nQ.1 h;rw[<-e];exact h1.fresh q' hq'⟩
theorem Out.pass{w1 w2:World}{L:List Nat}{mo':Mo}{q:Sv}{bs2 pre2 post2:List (Nat × Obj)}(hM:Mi i w0 sm pb RV cfs)(hF:FR w0 (ids sm) bs_ w1)(hsp:Spl bs_ pre sm post)(hR:Rep (Nq w1 sm' w2) w2 (He (Nk mo.1)) q.cells)(hO:Mo' (L++i) w1 sm w2 sm' pb RV (cfs++mo.2))(hs:Same L w2 w)(hL:∀x∈L,x∈bs_.map (·.1))(hF2:FR w0 (ids sm) bs2 w)(hsp2:Spl bs2 pre2 sm' post2)(hm:mo'=mo):Out i w0 sm pb RV cfs mo' (.agg q.cells.toArray) w:=by
  subst hm;have hl:∀x∈L,x<w1.heap.size:=λx hx=>hF.lt_ids (hL x hx);refine⟨sm',q,O,?_,⟨(hO.m.step hs (λx hx=>by simp[hx]) (λx hx=>.inl ?_)),hF2.hh hsp2,hF2.mc hsp2⟩⟩
  ·have h1 : Rep (Nq w1 sm' w2) w (He (Nk mo'.1)) q.cells := hR.same hs λb hb hn => by have := hn.1.1;have := hl b hb;omega
   refine h1.weaken λb hb _=>?_;obtain⟨cs,T,hc⟩:=hb.1.2.2;exact⟨⟨fQ hF.same.size hb.1.1,Nat.lt_of_lt_of_le hb.1.2.1 hs.size,cs,T,(hs.block b hb.1.2.1 (λhm=>by have:=hb.1.1;have:=hl b hm;omega)).trans hc⟩,hb.2⟩
  rcases mQ.1 hx with h|h
  ·simp[h]
  simp[h]
theorem In.off(h:In rl i w0 sm pb RV cfs path PA pc b l r x y z):∀x∈ids sm,7<=x:=λx hx=>(h.mi.low x (h.mi.sub x hx)).1
end
theorem cls_one{b l r:Option Tree}(h:Ks b l r=1):∃x y z,b=some x/\l=some y/\r=some z/\x.kind=y.kind/\x.kind=z.kind:=by
  cases b with
  | none=>simp[Ks]at h
  | some x =>
    cases l with
    | none=>simp[Ks]at h
    | some y =>
      cases r with
      | none=>simp[Ks]at h
      | some z =>
        by_cases hk:x.kind=y.kind/\x.kind=z.kind
        ·exact⟨x,y,z,O,O,O,hk⟩
        simp[Ks,hk]at h
theorem meet_con{rl:List Rl}{f:List Str->Nat->Option Tree->Option Tree->Option Tree->Mo}{p:List Str}{n:Nat}{b l r:Option Tree}(h:Ks b l r≠1):I0 rl f p n b l r=Mw p (Ks b l r) n b l r:=by
  cases b with
  | none=>rfl
  | some x =>
    cases l with
    | none=>rfl
    | some y =>
      cases r with
      | none=>rfl
      | some z =>
        have hk:¬(x.kind=y.kind/\x.kind=z.kind):=λhk=>h (if_pos hk);show (if x.kind=y.kind/\x.kind=z.kind then _ else _)=Mw p (if x.kind=y.kind/\x.kind=z.kind then 1 else 2) n (some x) (some y) (some z);rw[if_neg hk,if_neg hk]
theorem cls_le(b l r:Option Tree):0<=Ks b l r/\Ks b l r<=10:=by
  cases b with
  | none=>simp[Ks]
  | some x =>
    cases l with
    | none=>simp[Ks]
    | some y =>
      cases r with
      | none=>simp[Ks]
      | some z=>unfold Ks;split <;> omega
theorem In.at{w0 w:World}{i L:List Nat}{sm bs_ pre post:List (Nat × Obj)}{pb:Nat}{RV:Value}{cfs:List Cf}{rl:List Rl}{path:List Str}{PA:Option Addr}{pc:Nat}{b l r:Option Tree}{x y z:Sv}(h:In rl i w0 sm pb RV cfs path PA pc b l r x y z)(hF:FR w0 (ids sm) bs_ w)(hL:∀x∈L,x∈bs_.map (·.1))(hsp:Spl bs_ pre sm post:=by repeat (first|exact Spl.z|apply Spl.c|apply Spl.a)):In rl (L++i) w sm pb RV cfs path PA pc b l r x y z:=by
  obtain⟨S1,o1,r1⟩:=h.pth;obtain⟨S2,o2,r2⟩:=h.tri;obtain⟨S3,o3,r3⟩:=h.rul;exact⟨h.mi.at h.g hF hL hsp,h.g.same hF.same h.off,⟨S1,hF.offM o1 hsp,hF.repM o1 r1⟩,⟨S2,hF.offM o2 hsp,hF.repM o2 r2⟩,⟨S3,hF.offM o3 hsp,hF.repM o3 r3⟩,h.tb,h.tl,h.tr,h.cnt,h.ptx⟩
theorem AI{w0:World}{i:List Nat}{sm:List (Nat × Obj)}{pb:Nat}{RV:Value}{cfs:List Cf}{rl:List Rl}{path:List Str}{PA:Option Addr}{pc:Nat}{b l r:Option Tree}{x y z:Sv}(h:In rl i w0 sm pb RV cfs path PA pc b l r x y z)(cls:Int)(hc:0<=cls/\cls<=10)(hp:path.length<=1000) :
    Calls prog 51 #[V pb,.slice PA path.length pc,J cls,.agg (th x y z).toArray] w0 (Td λv w'=>Out i w0 sm pb RV cfs (Mw path cls cfs.length b l r) v w'):=by
  obtain⟨S1,o1,r1⟩:=h.pth;obtain⟨S2,o2,r2⟩:=h.tri;have hcn:=h.cnt;refine Vn (Bl path cls (Nk b) (Nk l) (Nk r) x y z PA pc S1 S2 w0 sm pb RV cfs i h.mi o1 o2 r1 r2 h.tb.ok h.tl.ok h.tr.ok sX hp hc h.g) λv w' ⟨sm',hv,hO⟩=>?_;refine⟨sm',⟨true,7,Rn cfs.length,none,0,0,none,0,0⟩,hv,?_,?_⟩
  ·have hn := (DM (show cfs.length<1000 by omega)).2.2.2
   exact Te (s:=⟨true,Lv cfs.length⟩) (x:=⟨7,Rn cfs.length,none,0,0,none,0,0⟩) (Rep.tree_mk ⟨by omega,by omega⟩ sX (Rep.nil_slice 0 sX none) (Rep.nil_slice 0 sX none))
  have e : (Mw path cls cfs.length b l r).2 = [⟨path, cls, Qv (Nk b), Qv (Nk l), Qv (Nk r)⟩] := by rw[Bu h.tb, Bu h.tl, Bu h.tr];rfl
  rw[e];exact hO
theorem atcl_c{w0:World}{i:List Nat}{sm:List (Nat × Obj)}{pb:Nat}{RV:Value}{cfs:List Cf}{rl:List Rl}{path:List Str}{PA:Option Addr}{pc:Nat}{b l r:Option Tree}{x y z:Sv}(hI:In rl i w0 sm pb RV cfs path PA pc b l r x y z)(mb cb:Nat)(hmb:w0.cell? ⟨mb,0,none⟩=some (V pb))(hcb:w0.cell? ⟨cb,0,none⟩=some (J 1))(hme:mb∉ids sm)(hce:cb∉ids sm)(hpl:path.length<=1000):Calls prog 52 #[.slice PA path.length pc,.agg (th x y z).toArray,V mb,V cb] w0 (Td λv w'=>Out i w0 sm pb RV cfs (Mw path 1 cfs.length b l r) v w'):=by
 refine Ga func52 O ntmps52 Fb (Us _ _ _ _) ?_;have hF:FR w0 (ids sm) ([]++(sm++[])) w0:=hI.mi.start;refine Ja (Ve hF O ?_);rintro b1 w hb1 hF -;refine Od (cs:=#[.bool false,J 0,I [],aQ,aQ]) hF pX O ?_;rintro b2 w hb2 hF -;refine Fc (Ka (v:=V pb) (Jb isAgg63 O (hF.cellE hmb hme)) (Ca (Pd O) (Ka (v:=J 1) (Jb bZ O (hF.cellE hcb hce)) (Yc (Ch isAgg71 sZ O hF.F 1 O O) ?_))));refine Cb (AI (hI.at hF (L:=[b2,b1]) Da) 1 sX hpl) (Dh Pv O O O O O) ?_;rintro _ w2 ⟨sm2,q,rfl,hR,hO⟩;have hFa:=hF;clear hF;have hF:=hFa.swapM hO.m hO.hh hO.mc;refine Qf hF rZ O O Mh.app ?_;intro w hF hE;have hS2:Same [b2,b1] w2 w:=hE.mono Da;refine Ea (Cc (Bc (Sa (Ig O (l:=q.cells) O dZ rZ O (hF.cellsAll 0 O)) ?_)));exact Out.pass hI.mi hFa (by repeat (first|exact Spl.z|apply Spl.c|apply Spl.a)) hR hO hS2 Da hF (by repeat (first|exact Spl.z|apply Spl.c|apply Spl.a)) rfl
theorem FR.newM{w0 w:World}{E:List Nat}{bs_:List (Nat × Obj)}(hF:FR w0 E bs_ w)(k:Nat){b:Nat}{o:Obj}(hk:bs_[k]? = some (b,o)){sm pre post:List (Nat × Obj)}(hsp:Spl bs_ pre sm post:=by repeat (first|exact Spl.z|apply Spl.c|apply Spl.a))(hp:k<pre.length:=by simp):b∉ids sm:=by
  have e:=hsp.eq;subst e;intro hm;obtain⟨q,hq,e⟩:=nQ.1 hm;obtain⟨j,hj,rfl⟩:=List.getElem_of_mem hq;refine Ci hF.desc hk (j:=pre.length+j) (q:=sm[j]) ?_ sX e.symm;rw[List.getElem?_append_right sX,Nat.add_sub_cancel_left,List.getElem?_append_left hj,List.getElem?_eq_getElem hj]
theorem at_step(rl:List Rl)(F:Nat)(hobj:MtC 53 rl F 6 (TO (Nj rl F)))(harr:MtC 54 rl F 5 (Qs rl (Nj rl F))):AtC rl (F+1):=by
 intro i w0 sm pb RV cfs path PA pc b l r x y z hI hdp hpn;obtain⟨S,hSo,hT⟩:=hI.tri;obtain⟨hx,hy,hz⟩:=Wo hT;refine Ga func30 O ntmps30 Fb (Oj _ _ _) ?_;have hF:FR w0 (ids sm) ([]++(sm++[])) w0:=hI.mi.start;refine Ja (EE (.pointer _) hF O ?_);rintro b1 w hb1 hF -;refine Ve hF O ?_;rintro b2 w hb2 hF -;refine Od (cs:=#[.bool false,J 0,I [],aQ,aQ]) hF pX O ?_;rintro b3 w hb3 hF -;refine Ea (Ha (Va (Ja (Ca (Xb Ik O) (Ka (v:=.agg (y.cells).toArray) (Ya (l:=y.cells) dZ rZ O O (hF.part 1 5 O O)) (Ca (Xb Sl O) (Ka (v:=.agg (z.cells).toArray) (Ya (l:=z.cells) dZ rZ O O (hF.part 1 10 O O)) ?_)))))));refine Gb hF (Ki (Ft (Nk l) (Nk r) y z _ _ _ (hF.repM hSo hy) (hF.repM hSo hz) hI.tl.ok hI.tr.ok (hI.g.same hF.same hI.off)) (congrArg Value.bool (Rx hI.tl hI.tr))) (Za BC O O O) ?_;intro w hF;refine Ca (Hc O) (Ea ?_);refine Uf O O (λhc0=>?_) (λhc0=>?_);refine Ja (Ca (Xb Ik O) (Ka (v:=.agg (y.cells).toArray) (Ya (l:=y.cells) dZ rZ O O (hF.part 1 5 O O)) ?_));refine Cb (Zn (Nk l) y _ _ (hF.repM hSo hy) hI.tl.ok (hI.g.same hF.same hI.off)) (Ra W2 O O) ?_;rintro _ w ⟨q,rfl,hRt,hE⟩;rw[Bu hI.tl]at hRt;have hQ:=RX.made (ids:=[b3,b2,b1]++i) hF.same.size (hF.ltD hI.mi.low Da) hRt;have hF:=hF.ext hE;clear hE hRt;refine Qf hF rZ O O Mh ?_;intro w hF hE;have hQ:=hQ.store hE (by grind);refine Ea (Cc (Bc (Sa (Ig O (l:=q.cells) O dZ rZ O (hF.cellsAll 0 O)) ?_)));rw[at_l hc0];exact Out.keep hI.mi hF hQ;refine Ja (Ca (Xb Ml O) (Ka (v:=.agg (x.cells).toArray) (Ya (l:=x.cells) dZ rZ O O (hF.part 1 0 O O)) (Ca (Xb Ik O) (Ka (v:=.agg (y.cells).toArray) (Ya (l:=y.cells) dZ rZ O O (hF.part 1 5 O O)) ?_))));refine Gb hF (Ki (Ft (Nk b) (Nk l) x y _ _ _ (hF.repM hSo hx) (hF.repM hSo hy) hI.tb.ok hI.tl.ok (hI.g.same hF.same hI.off)) (congrArg Value.bool (Rx hI.tb hI.tl))) (Za BC O O O) ?_;intro w hF
 refine Ca (Hc O) (Ea ?_);refine Uf O O (λhc1=>?_) (λhc1=>?_);refine Ja (Ca (Xb Sl O) (Ka (v:=.agg (z.cells).toArray) (Ya (l:=z.cells) dZ rZ O O (hF.part 1 10 O O)) ?_));refine Cb (Zn (Nk r) z _ _ (hF.repM hSo hz) hI.tr.ok (hI.g.same hF.same hI.off)) (Ra W2 O O) ?_;rintro _ w ⟨q,rfl,hRt,hE⟩;rw[Bu hI.tr]at hRt;have hQ:=RX.made (ids:=[b3,b2,b1]++i) hF.same.size (hF.ltD hI.mi.low Da) hRt;have hF:=hF.ext hE;clear hE hRt;refine Qf hF rZ O O Mh ?_;intro w hF hE;have hQ:=hQ.store hE (by grind);refine Ea (Cc (Bc (Sa (Ig O (l:=q.cells) O dZ rZ O (hF.cellsAll 0 O)) ?_)));rw[at_r (by rw[hc0];simp) hc1];exact Out.keep hI.mi hF hQ;refine Ja (Ca (Xb Ml O) (Ka (v:=.agg (x.cells).toArray) (Ya (l:=x.cells) dZ rZ O O (hF.part 1 0 O O)) (Ca (Xb Sl O) (Ka (v:=.agg (z.cells).toArray) (Ya (l:=z.cells) dZ rZ O O (hF.part 1 10 O O)) ?_))));refine Gb hF (Ki (Ft (Nk b) (Nk r) x z _ _ _ (hF.repM hSo hx) (hF.repM hSo hz) hI.tb.ok hI.tr.ok (hI.g.same hF.same hI.off)) (congrArg Value.bool (Rx hI.tb hI.tr))) (Za BC O O O) ?_;intro w hF;refine Ca (Hc O) (Ea ?_);refine Uf O O (λhc2=>?_) (λhc2=>?_);refine Ja (Ca (Xb Ik O) (Ka (v:=.agg (y.cells).toArray) (Ya (l:=y.cells) dZ rZ O O (hF.part 1 5 O O)) ?_));refine Cb (Zn (Nk l) y _ _ (hF.repM hSo hy) hI.tl.ok (hI.g.same hF.same hI.off)) (Ra W2 O O) ?_;rintro _ w ⟨q,rfl,hRt,hE⟩;rw[Bu hI.tl]at hRt;have hQ:=RX.made (ids:=[b3,b2,b1]++i) hF.same.size (hF.ltD hI.mi.low Da) hRt;have hF:=hF.ext hE;clear hE hRt;refine Qf hF rZ O O Mh ?_;intro w hF hE;have hQ:=hQ.store hE (by grind);refine Ea (Cc (Bc (Sa (Ig O (l:=q.cells) O dZ rZ O (hF.cellsAll 0 O)) ?_)));rw[at_b (by rw[hc0];simp) (by rw[hc1];simp) hc2];exact Out.keep hI.mi hF hQ;refine Ta (Ib (Ia (Ja (Yc (Ch isAgg71 sZ O hF.F 1 O O) ?_))));refine Gb hF (Ki (class_c (Nk b) (Nk l) (Nk r) x y z _ _ (hF.repM hSo hx) (hF.repM hSo hy) (hF.repM hSo hz)) (congrArg (Value.int .i64) (clsZ_O b l r))) (Ra en_50 O O) ?_
 intro w hF;refine o_ly (.int _ _) hF oX qZ O ?_;rintro b4 w hb4 hF -;refine Ea (Ha (Ja (Yc (Xs bZ O hF.F 0 O O) (Ca (Mz O O) (Ea ?_)))));refine Pc O O (λhc3=>?_) (λhc3=>?_);refine Ja (Yc (GW isAgg63 O hF.F 3 O O) (Ca (Pd O) (Yc (Xs bZ O hF.F 0 O O) (Yc (Ch isAgg71 sZ O hF.F 2 O O) ?_))));refine Cb (AI (hI.at hF (L:=[b4,b3,b2,b1]) Da) (Ks b l r) (cls_le b l r) sX) (Dh Pv O O O O O) ?_;rintro _ w2 ⟨sm2,q,rfl,hR,hO⟩;have hFa:=hF;clear hF;have hF:=hFa.swapM hO.m hO.hh hO.mc;refine Qf hF rZ O O Yt ?_;intro w hF hE;have hS2:Same [b4,b3,b2,b1] w2 w:=hE.mono Da;refine Ea (Cc (Bc (Sa (Ig O (l:=q.cells) O dZ rZ O (hF.cellsAll 1 O)) ?_)));exact Out.pass hI.mi hFa (by repeat (first|exact Spl.z|apply Spl.c|apply Spl.a)) hR hO hS2 Da hF (by repeat (first|exact Spl.z|apply Spl.c|apply Spl.a)) (by rw[at_m (by rw[hc0];simp) (by rw[hc1];simp) (by rw[hc2];simp),meet_con hc3]);obtain⟨xb,xl,xr,rfl,rfl,rfl,hk1,hk2⟩:=cls_one (by simpa using hc3);have h1:Ks (some xb) (some xl) (some xr)=1:=by simpa using hc3
 have hkx:=(Hf hx).2.1;simp only[Nk]at hkx;rw[h1]at hF;refine Ta (Ia (Ja (Ka (v:=.func (.func 52) #[] #[V b1,V b4]) (Wn O O) (Ca (Ry) (Ea (Ha (Ja (Ca (Xb Ml O) (Ca (Xb Pe O) (Ca (Xb Wh O) ?_))))))))));refine Yc (Xs bZ O hF.F 2 O O) (Ea (Va (Ja (Ca (Pq O O) (Ca (Hc O) (Ea ?_))))));refine Pc O O (λhc4=>?_) (λhc4=>?_);refine Fa (Yc (GW isAgg63 O hF.F 3 O O) (Ka (v:=.func (.func 53) #[V pb] #[]) (Zp O) (Ca (Ry) (Db (Ib (Ia (Ja (Ca (Mr) (Ca (Pd O) (Yc (Ch isAgg71 sZ O hF.F 2 O O) ?_))))))))));refine Cb (hobj _ _ _ _ _ _ _ _ _ _ _ _ _ _ _ (hI.at hF (L:=[b4,b3,b2,b1]) Da) sX sX sX (by simpa[Km]using hc0) (by simp only[On]at hdp;omega) sX) (Xq O en_53 O O O) ?_;rintro _ w2 ⟨sm2,q,rfl,hR,hO⟩;have hFa:=hF;clear hF;have hF:=hFa.swapM hO.m hO.hh hO.mc;refine Qf hF rZ O O Yt ?_;intro w hF hE;have hS2:Same [b4,b3,b2,b1] w2 w:=hE.mono Da;refine Ea (Cc (Bc (Sa (Ig O (l:=q.cells) O dZ rZ O (hF.cellsAll 1 O)) ?_)));exact Out.pass hI.mi hFa (by repeat (first|exact Spl.z|apply Spl.c|apply Spl.a)) hR hO hS2 Da hF (by repeat (first|exact Spl.z|apply Spl.c|apply Spl.a)) (by rw[at_m (by rw[hc0];simp) (by rw[hc1];simp) (by rw[hc2];simp),I0,if_pos ⟨hk1,hk2⟩,if_pos sX]);refine Ja (Ca (Pq O O) (Ca (Hc O) (Ea ?_)));refine Pc O O (λhc5=>?_) (λhc5=>?_);refine Fa (Yc (GW isAgg63 O hF.F 3 O O) (Ka (v:=.func (.func 54) #[V pb] #[]) (Zp O) (Ca (Ry) (Db (Ib (Ia (Ja (Ca (Mr) (Ca (Pd O) (Yc (Ch isAgg71 sZ O hF.F 2 O O) ?_))))))))));refine Cb (harr _ _ _ _ _ _ _ _ _ _ _ _ _ _ _ (hI.at hF (L:=[b4,b3,b2,b1]) Da) sX sX sX (by simpa[Km]using hc0) (by simp only[On]at hdp;omega) sX) (Xq O en_54 O O O) ?_;rintro _ w2 ⟨sm2,q,rfl,hR,hO⟩;have hFa:=hF;clear hF;have hF:=hFa.swapM hO.m hO.hh hO.mc;refine Qf hF rZ O O Yt ?_;intro w hF hE;have hS2:Same [b4,b3,b2,b1] w2 w:=hE.mono Da
 refine Ea (Cc (Bc (Sa (Ig O (l:=q.cells) O dZ rZ O (hF.cellsAll 1 O)) ?_)));exact Out.pass hI.mi hFa (by repeat (first|exact Spl.z|apply Spl.c|apply Spl.a)) hR hO hS2 Da hF (by repeat (first|exact Spl.z|apply Spl.c|apply Spl.a)) (by rw[at_m (by rw[hc0];simp) (by rw[hc1];simp) (by rw[hc2];simp),I0,if_pos ⟨hk1,hk2⟩,if_neg sX,if_pos sX]);refine Ta (Ib (Ia (Ja (Ca (Mr) (Ca (Pd O) (Yc (Ch isAgg71 sZ O hF.F 2 O O) ?_))))));refine Cb (atcl_c (hI.at hF (L:=[b4,b3,b2,b1]) Da) b1 b4 (hF.cell 3 O O) (hF.cell 0 O O) (hF.newM 3 O) (hF.newM 0 O) sX) (Xq O en_52 O O O) ?_;rintro _ w2 ⟨sm2,q,rfl,hR,hO⟩;have hFa:=hF;clear hF;have hF:=hFa.swapM hO.m hO.hh hO.mc;refine Qf hF rZ O O Yt ?_;intro w hF hE;have hS2:Same [b4,b3,b2,b1] w2 w:=hE.mono Da;refine Ea (Cc (Bc (Sa (Ig O (l:=q.cells) O dZ rZ O (hF.cellsAll 1 O)) ?_)));exact Out.pass hI.mi hFa (by repeat (first|exact Spl.z|apply Spl.c|apply Spl.a)) hR hO hS2 Da hF (by repeat (first|exact Spl.z|apply Spl.c|apply Spl.a)) (by rw[at_m (by rw[hc0];simp) (by rw[hc1];simp) (by rw[hc2];simp),I0,if_pos ⟨hk1,hk2⟩,if_neg sX,if_neg sX])
end Go.Scarf
