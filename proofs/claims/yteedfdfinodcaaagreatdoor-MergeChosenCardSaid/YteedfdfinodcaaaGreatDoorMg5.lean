/- A part of the proof. -/
import Derived.Test.YteedfdfinodcaaaGreatDoorM1
set_option linter.all false
set_option maxHeartbeats 8000000
set_option maxRecDepth 10000
namespace Go.Scarf
open List renaming length->aL
open Go.RowKit
variable {names:List Str}{o:Option Tree}{a:Mo}{D' S S':Nat}{E:List Nat}{q:Sv}{w1:World}{d:List Cf}{T:Tree->Prop}{cls:Int}{u xs ys:List Tree}
def NodO(o:Option Tree):Prop:=∀x,o=some x->Zb nodeB x=true
def YS{x:Tree}(h:Zb nodeB x=true)(hk:x.kind=6):∀k∈x.keys,Lib.validD k=true:=by
  obtain⟨k,t,ks,xs⟩:=x;have h1:=(Sc h).1;simp only[Tree.kind]at hk;subst hk;simp[nodeB,Wl]at h1;exact h1.1.1.2
section
variable {f:Str->Nat->Mo}{n:Nat}{ks:List Str}
theorem Oi:∀j,j<=aL ks->((Df f n ks j).1.map (·.1)).Sublist (ks.take j)
  | 0,_=>by simp[Df]
  | j + 1, hj => by
    have e:ks.getD j []=ks[j]:=by simp[List.getD,show j<aL ks by omega]
    rw[Df,jQ,iQ fX,e];refine (Oi j fX).append ?_;cases (f ks[j] (n+aL (Df f n ks j).2)).1 with
    | none=>exact List.nil_sublist _
    | some x=>exact List.Sublist.refl _
end
theorem XG{b l r:List Str}:∀(F:Nat)(rest o:List Str),Ni b l r F rest=some o->∀s∈o,s∈rest
  | 0,_,o,h=>by rw[Ni]at h;obtain rfl:=lQ h;simp
  | F + 1, rest, o, h => by
    rw[Ni]at h;split at h
    ·rename_i s hs
     obtain⟨o',h1,rfl⟩:=Option.map_eq_some_iff.1 h;intro q hq;rcases oQ.1 hq with rfl|hq
     ·exact List.mem_of_find?_eq_some hs
     exact List.mem_of_mem_erase<|XG F _ _ h1 q hq
    cases h
theorem XW{b l r o:List Str}(h:Mg b l r names=some o):∀s∈o,s∈names:=by
  unfold Mg at h;split at h
  ·intro s hs
   have:=XG _ _ _ h s hs;unfold We at this;simp_all
  cases h
theorem OY{rl:List Rl}{F:Nat}{p:List Str}{n:Nat}{b l r:Option Tree}(h:Ye l r=true):Hf rl (F+1) p n b l r=(l,[]):=by rw[Hf,uQ h]
theorem at_r{rl:List Rl}{F:Nat}{p:List Str}{n:Nat}{b l r:Option Tree}(h:¬Ye l r=true)(h2:Ye b l=true):Hf rl (F+1) p n b l r=(r,[]):=by grind [Hf]
theorem XX{rl:List Rl}{F:Nat}{p:List Str}{n:Nat}{b l r:Option Tree}(h:¬Ye l r=true)(h2:¬Ye b l=true)(h3:Ye b r=true):Hf rl (F+1) p n b l r=(l,[]):=by grind [Hf]
theorem JU{rl:List Rl}{F:Nat}{p:List Str}{n:Nat}{b l r:Option Tree}(h:¬Ye l r=true)(h2:¬Ye b l=true)(h3:¬Ye b r=true):Hf rl (F+1) p n b l r=Zq rl (Hf rl F) p n b l r:=by grind [Hf]
theorem fin_open{v:Tree}{c:List Cf}(h:Ke v=true):S9 (some v,c)=(v,c,0):=by grind [S9]
theorem Nn{rl:List Rl}{b l r:Tree}(h:¬ZM rl b l r):Ig rl b l r=(zeroT,[],1):=tQ h
def Rj{rl:List Rl}{b l r:Tree}(h:ZM rl b l r):Ig rl b l r=S9 (Hf rl (39+1) [] 0 (some b) (some l) (some r)):=uQ h
theorem Ny{x y:Tree}(hx:Eb x=true)(hy:Eb y=true):Qh x y=true↔sortT x=sortT y:=by grind [same_iff,Pn]
theorem Im{x y:Tree}(hx:Eb x=true)(hy:Eb y=true):Dx x y=Qh x y:=by grind [Dx,Ci]
theorem NI{rl:List Rl}(F:Nat)(p:List Str)(n:Nat)(b:Option Tree)(y z:Tree):∃v,(Hf rl F p n b (some y) (some z)).1=some v:=by
  cases F with
  | zero=>exact⟨y,rfl⟩
  | succ F =>
    rw[Hf];split
    ·grind
    split
    ·grind
    split
    ·grind
    cases b with
    | none=>exact⟨_,rfl⟩
    | some x =>
      simp only[Zq];split
      ·split
       ·exact⟨_,O⟩
       split
       ·have hg:∃v,(Lh.gapM (Hf rl F) p n x y z).1=some v:=by
          unfold Lh.gapM;split <;> exact⟨_,rfl⟩
        rw[Lh];cases Vi rl p with
        | none=>exact hg
        | some key =>
          simp only;split
          ·unfold Bx
           simp only;split <;> exact⟨_,rfl⟩
          exact hg
       exact⟨_,O⟩
      exact⟨_,O⟩
theorem EB{x:Tree}(h:Ke x=true)(hk:x.kind=6)(key:Str):Di x key=((Qd x key).getD zeroT,(Qd x key).isSome):=by grind [Di,Qd,zeroT]
theorem HT(p:List Str):Vi [] p=none:=rfl
set_option synthInstance.maxHeartbeats 0
set_option synthInstance.maxSize 9999
open Go.RowKit Go.Proofs Go.Proofs.Tryz
def TinyT(x:Tree):Prop:=Eb x=true/\Ja x<=256/\Hb x<=16777216
def TinyO(o:Option Tree):Prop:=∀x,o=some x->TinyT x
def TinyT.ok{x:Tree}(h:TinyT x):SdOk ⟨true,x⟩:=⟨fQ h.2.1 fX,Ae x<|fQ h.2.2 fX⟩
def TinyO.ok(h:TinyO o):SdOk (Ee o):=by
  cases o with
  | none=>exact RZ
  | some x=>exact (h x rfl).ok
def TinyT.kid{x y:Tree}(h:TinyT x)(hy:y∈x.items):TinyT y:=by
  obtain⟨k,t,ks,xs⟩:=x;have hy':y∈xs:=hy;have h1:=Ld hy';have h2:=Nd hy';obtain⟨a,b,c⟩:=h;rw[Ja]at b;rw[Hb]at c;exact⟨Ty a hy',by_Om,by_Om⟩
def TinyT.mem{x:Tree}(h:TinyT x)(k:Str):TinyO (Qd x k):=λ_ hy=>h.kid<|Wp hy
def TinyT.item{x:Tree}(h:TinyT x)(key id:Str):TinyO (Xb x key id):=λ_ hy=>h.kid<|Gm hy
theorem TinyT.key{x:Tree}(h:TinyT x):∀k∈x.keys,aL k<=16777216:=by
  obtain⟨k,t,ks,xs⟩:=x;intro s hs;have h1:=Si (show s∈ks from hs);have h2:=h.2.2;grind [Hb]
def VC{a b:Option Tree}(ha:TinyO a)(hb:TinyO b):U3 (Ee a) (Ee b)=Ye a b:=by
  cases a with
  | none=>cases b <;> rfl
  | some x =>
    cases b with
    | none=>rfl
    | some y=>simp[U3,Ee,Ye,Im (ha x rfl).1 (hb y rfl).1]
def Yy{a:Option Tree}(ha:TinyO a):Zk (Ee a)=Ee a:=by
  cases a with
  | none=>rfl
  | some x=>simp[Zk,Ee,Hl (ha x rfl).1]
theorem clsZ_O(a b c:Option Tree):C4 (Ee a) (Ee b) (Ee c)=Nj a b c:=by
  cases a with
  | none=>simp[C4,Nj,Ee,noS]
  | some x =>
    cases b with
    | none=>simp[C4,Nj,Ee,noS]
    | some y =>
      cases c with
      | none=>simp[C4,Nj,Ee,noS]
      | some z=>grind [C4,Nj,Ee]
structure In (rl:List Rl) (i:List Nat) (w0:World) (sm:List (Nat × Obj)) (pb:Nat) (RV:Value) (cfs:List Cf) (path:List Str) (PA:Option Addr) (pc:Nat) (b l r:Option Tree) (x y z:Sv):Prop where
  mi:Mi i w0 sm pb RV cfs
  g:Gl w0
  pth:∃S,Off S w0 sm/\Rep S w0 (Wa path) [.slice PA (aL path) pc]
  tri:∃S,Off S w0 sm/\Rep S w0 (Uo (Ee b) (Ee l) (Ee r)) (th x y z)
  rul:∃S,Off S w0 sm/\Rep S w0 (Ik rl) [RV]
  tb:TinyO b
  tl:TinyO l
  tr:TinyO r
  cnt:aL cfs+Ge l+Ge r<1000
  ptx:∀s∈path,aL s<=1000000000000000
def Out(i:List Nat)(w0:World)(sm:List (Nat × Obj))(pb:Nat)(RV:Value)(cfs:List Cf)(mo:Mo)(v:Value)(w':World):Prop :=
  ∃(sm':List (Nat × Obj))(q:Sv),v=.agg q.cells.toArray/\Rep (Nq w0 sm' w') w' (Rc (Ee mo.1)) q.cells/\Mo' i w0 sm w' sm' pb RV (cfs++mo.2)
def AtC(rl:List Rl)(F:Nat):Prop:=∀(i:List Nat)(w0:World)(sm:List (Nat × Obj))(pb:Nat)(RV:Value)(cfs:List Cf)(path:List Str)(PA:Option Addr)(pc:Nat)(b l r:Option Tree)(x y z:Sv),
  In rl i w0 sm pb RV cfs path PA pc b l r x y z->Yd l<F->aL path+F<=900 ->
  Calls prog 23 #[V pb,.slice PA (aL path) pc,.agg (th x y z).toArray] w0 (Qb λv w'=>Out i w0 sm pb RV cfs (Hf rl F path (aL cfs) b l r) v w')
def MtC(fn:Nat)(rl:List Rl)(F:Nat)(kd:Int)(f:List Str->Nat->Tree->Tree->Tree->Mo):Prop:=∀(i:List Nat)(w0:World)(sm:List (Nat × Obj))(pb:Nat)(RV:Value)(cfs:List Cf)(path:List Str)(PA:Option Addr)(pc:Nat)(b l r:Tree)(x y z:Sv),
  In rl i w0 sm pb RV cfs path PA pc (some b) (some l) (some r) x y z->b.kind=kd->l.kind=kd->r.kind=kd->¬Qh l r=true->Db l<=F->aL path+F<=899 ->
  Calls prog fn #[V pb,.slice PA (aL path) pc,.agg (th x y z).toArray] w0 (Qb λv w'=>Out i w0 sm pb RV cfs (f path (aL cfs) b l r) v w')
theorem getT_c(x:Tree)(key:Str)(hsz:Ja x<=1000000000)(S:Nat->Prop)(w0:World)(cs:List Value)(hR:Rep S w0 (Sa x) cs)(hk:Rw x)(hG:Gl w0):Calls prog 78 #[.agg cs.toArray,I key] w0 (Qb λv w'=>∃ct:List Value,v=.tuple #[.agg ct.toArray,.bool (Di x key).2]/\Rep (Btw w0 w') w' (Sa (Di x key).1) ct/\Same [] w0 w'):=by
  obtain⟨k,t,ks,xs⟩:=x;grind [getV_c]
theorem GS(x:Tree)(key id:Str):(Io x key id).2=(Xb x key id).isSome/\(Io x key id).1=(Xb x key id).getD zeroT:=by grind [Xb,Io]
theorem part_obj(t:Tree)(k:Str)(x:Tv)(kb:Nat)(S:Nat->Prop)(w0:World)(hX:Rep S w0 (Sa t) x.cells)(hkb:w0.cell? ⟨kb,0,none⟩=some (I k))(hsz:Ja t<=1000000000)(hok:Rw t)(ho:Ke t=true)(h6:t.kind=6)(hG:Gl w0):Calls prog 77 #[.agg x.cells.toArray,V kb] w0 (Qb λv w'=>∃q:Tv,v=.tuple #[.agg q.cells.toArray,.bool (Qd t k).isSome]/\Rep (Btw w0 w') w' (Sa ((Qd t k).getD zeroT)) q.cells/\Same [] w0 w'):=by
 refine Ha func77 ntmps77 ?_;intro hF;refine rn 3 ?_;rintro b1 w hb1 hF -;refine rn 1 ?_;rintro b2 w hb2 hF -;refine rn 6<|Da (v:=I k) (Ma qZ<|hF.cell0 hkb) ?_;refine Yb (getT_c t k hsz _ _ x.cells (hF.rep hX) hok<|hG.ext hF.same) ?_;rintro _ w ⟨ct,rfl,hRt,hE⟩;rw[EB ho h6]at hRt;simp only[EB ho h6];obtain⟨q,rfl,-⟩:=Hj hRt;have hRX:=RX.made (ids:=[b2,b1]) hF.same.size (λx hx=>hF.lt_ids qJ) hRt;have hF:=hF.ext hE;clear hE hRt;refine rn 3 ?_;intro w hF hE;have hRX:=hRX.store hE qJ;refine rn 4 ?_
 ·exact⟨q,O,hRX.done,hF.same⟩
theorem part_key(t:Tree)(key id:Str)(x:Tv)(kb jb:Nat)(S:Nat->Prop)(w0:World)(hX:Rep S w0 (Sa t) x.cells)(hkb:w0.cell? ⟨kb,0,none⟩=some (I key))(hjb:w0.cell? ⟨jb,0,none⟩=some (I id))(hsz:Ja t<=1000000000)(hm:Hb t<=1073741824)(hG:Gl w0):Calls prog 105 #[.agg x.cells.toArray,V kb,V jb] w0 (Qb λv w'=>∃q:Tv,v=.tuple #[.agg q.cells.toArray,.bool (Xb t key id).isSome]/\Rep (Btw w0 w') w' (Sa ((Xb t key id).getD zeroT)) q.cells/\Same [] w0 w'):=by
 refine Ha func105 ntmps105 ?_;intro hF;refine rn 3 ?_;rintro b1 w hb1 hF -;refine rn 1 ?_;rintro b2 w hb2 hF -;refine rn 6<|Da (v:=I key) (Ma qZ<|hF.cell0 hkb)<|Da (v:=I id) (Ma qZ<|hF.cell0 hjb) ?_;refine Yb (HX t key id hsz hm _ _ x.cells (hF.rep hX)<|hG.ext hF.same) ?_;rintro _ w ⟨ct,rfl,hRt,hE⟩;rw[(GS t key id).2]at hRt;simp only[(GS t key id).1];obtain⟨q,rfl,-⟩:=Hj hRt;have hRX:=RX.made (ids:=[b2,b1]) hF.same.size (λx hx=>hF.lt_ids qJ) hRt;have hF:=hF.ext hE;clear hE hRt;refine rn 3 ?_;intro w hF hE;have hRX:=hRX.store hE qJ;refine rn 4 ?_
 ·exact⟨q,O,hRX.done,hF.same⟩
def TX{S:Nat->Prop}{w:World}{q:Tv}(h:Rep S w (Sa (o.getD zeroT)) q.cells)(ho:o.isSome=true):Rep S w (Rc (Ee o)) (Sv.mk true q).cells:=by
  cases o with
  | none=>cases ho
  | some x=>exact Wi (s:=⟨true,x⟩) h
theorem side_N{S:Nat->Prop}{w:World}(ho:¬o.isSome=true):Rep S w (Rc (Ee o)) (Sv.mk false IQ).cells:=by
  cases o with
  | none=>exact R4
  | some x=>grind
theorem Q6(t:Tree)(k:Str)(kb:Nat)(x:Sv)(fb:Nat)(S:Nat->Prop)(w0:World)(hX:Rep S w0 (Sa t) x.v.cells)(hkb:w0.cell? ⟨kb,0,none⟩=some (I k))(h6:t.kind=6)(hfb:w0.cell? ⟨fb,0,none⟩=some (.func (.func 77) #[] #[V kb]))(ht:TinyT t)(hG:Gl w0):Calls prog 100 #[.agg x.cells.toArray,V fb] w0 (Qb λv w'=>∃y:Sv,v=.agg y.cells.toArray/\Rep (Btw w0 w') w' (Rc (Ee (Qd t k))) y.cells/\Same [] w0 w'):=by
 refine Ha func100 ntmps100 ?_;intro hF;refine rn 3 ?_;rintro b1 w hb1 hF -;refine rn 1 ?_;rintro b2 w hb2 hF -;refine rn 5<|Da (v:=.func (.func 77) #[] #[V kb]) (Ma isAgg105<|hF.cell0 hfb) ?_;refine rn 2<|Ed (part_obj t k x.v kb _ _ (hF.rep hX) (Same.cell hF.same hkb) ht.ok.sz ht.ok.ok (Ci ht.1) h6<|hG.ext hF.same) (Ie O en_77 O O) ?_;rintro _ w ⟨q,rfl,hRt,hE⟩;have hRX:=RX.made (ids:=[b2,b1]) hF.same.size (λx hx=>hF.lt_ids qJ) hRt;have hF:=hF.ext hE;clear hE hRt;refine rn 4 ?_;intro b3 w hb3 hF hE;have hRX:=hRX.alloc hE hb3;refine rn 9 ⟨λhc0=>?_,λhc0=>?_⟩;refine rn 3<|Ta (Ym q) ?_;intro w hF hE;have hRX:=hRX.ext hE;refine rn 1 ?_;intro w hF hE;have hRX:=hRX.store hE qJ;refine rn 3 ?_
 ·exact⟨⟨true,q⟩,O,TX hRX.done hc0,hF.same⟩
 refine rn 4<|Da (w':=w) (v:=.agg #[.bool false,J 0,I [],aQ,aQ]) Ib ?_;refine rn 1 ?_;intro w hF hE;have hRX:=hRX.store hE qJ;refine rn 3 ?_;exact⟨⟨false,IQ⟩,O,side_N jV,hF.same⟩
theorem VI(b l r:Tree)(k:Str)(kb:Nat)(x y z:Sv)(S:Nat->Prop)(w0:World)(hT:Rep S w0 (Uo ⟨true,b⟩ ⟨true,l⟩ ⟨true,r⟩) (th x y z))(hkb:w0.cell? ⟨kb,0,none⟩=some (I k))(h6b:b.kind=6)(h6l:l.kind=6)(h6r:r.kind=6)(hb:TinyT b)(hl:TinyT l)(hr:TinyT r)(hG:Gl w0):Calls prog 76 #[.agg (th x y z).toArray,.func (.func 77) #[] #[V kb]] w0 (Qb λv w'=>∃q0 q1 q2:Sv,v=.agg (th q0 q1 q2).toArray/\Rep (Btw w0 w') w' (Uo (Ee (Qd b k)) (Ee (Qd l k)) (Ee (Qd r k))) (th q0 q1 q2)/\Same [] w0 w'):=by
 obtain⟨hx_,hy_,hz_⟩:=Ti hT;have hx:=(Hc hx_).2.2.2.2;have hy:=(Hc hy_).2.2.2.2;have hz:=(Hc hz_).2.2.2.2;refine Ha func76 ntmps76 ?_;intro hF;refine rn 3 ?_;rintro b1 w hb1 hF -;refine rn 1 ?_;rintro b2 w hb2 hF -;refine rn 1 ?_;rintro b3 w hb3 hF -;refine rn 4<|Da (v:=.func (.func 100) #[] #[V b2]) Te ?_;refine rn 4<|Fe (zs:=.of [13]) (bQ [0,1,2,4,5,6,8,9,10]<|cQ [3,7,11]<|.free 12<|.act 13 .nil) hF ?_;intro w hF;refine rn 2 ?_;refine Fa O (v:=.agg (x.cells).toArray) (λw hC=>Qa (l:=x.cells) isAgg36 sizeOf36 O O<|hC.part 2 0 O O)<|rn 2 ?_;refine Fa O (v:=.agg (y.cells).toArray) (λw hC=>Qa (l:=y.cells) isAgg36 sizeOf36 O O<|hC.part 2 5 O O)<|rn 2 ?_;refine Fa O (v:=.agg (z.cells).toArray) (λw hC=>Qa (l:=z.cells) isAgg36 sizeOf36 O O<|hC.part 2 10 O O)<|Fq O (Q6 b k kb x b2 _ _ (hF.rep hx) (Same.cell hF.same hkb) h6b (hF.cell 1 O O) hb<|hG.ext hF.same) (Ie O Iz O O) ?_;rintro _ w ⟨q0,rfl,hRt,hE⟩;have hY0:=RX.made (ids:=[b3,b2,b1]) hF.same.size (λx hx=>hF.lt_ids qJ) hRt;have hF:=hF.ext hE;clear hE hRt;refine⟨hF,?_⟩;refine Fq O (Q6 l k kb y b2 _ _ (hF.rep hy) (Same.cell hF.same hkb) h6l (hF.cell 1 O O) hl<|hG.ext hF.same) (Ie O Iz O O) ?_;rintro _ w ⟨q1,rfl,hRt,hE⟩;have hY1:=RX.made (ids:=[b3,b2,b1]) hF.same.size (λx hx=>hF.lt_ids qJ) hRt;have hF:=hF.ext hE;have hY0:=hY0.ext hE;clear hE hRt;refine⟨hF,?_⟩;refine Fq O (Q6 r k kb z b2 _ _ (hF.rep hz) (Same.cell hF.same hkb) h6r (hF.cell 1 O O) hr<|hG.ext hF.same) (Ie O Iz O O) ?_;rintro _ w ⟨q2,rfl,hRt,hE⟩;have hY2:=RX.made (ids:=[b3,b2,b1]) hF.same.size (λx hx=>hF.lt_ids qJ) hRt;have hF:=hF.ext hE;have hY0:=hY0.ext hE;have hY1:=hY1.ext hE;clear hE hRt;refine⟨hF,?_⟩;refine Fa O (v:=.agg ((th q0 q1 q2)).toArray) (λw hC=>by kernel_rfl)<|rn 1 ?_
 intro w hF hE;have hY0:=hY0.store hE qJ;have hY1:=hY1.store hE qJ;have hY2:=hY2.store hE qJ;refine rn 3 ?_
 ·exact⟨q0,q1,q2,O,Jm hY0.done hY1.done hY2.done,hF.same⟩
theorem K8(t:Tree)(key id:Str)(kb jb:Nat)(x:Sv)(fb:Nat)(S:Nat->Prop)(w0:World)(hX:Rep S w0 (Sa t) x.v.cells)(hkb:w0.cell? ⟨kb,0,none⟩=some (I key))(hjb:w0.cell? ⟨jb,0,none⟩=some (I id))(hfb:w0.cell? ⟨fb,0,none⟩=some (.func (.func 105) #[] #[V kb,V jb]))(ht:TinyT t)(hG:Gl w0):Calls prog 100 #[.agg x.cells.toArray,V fb] w0 (Qb λv w'=>∃y:Sv,v=.agg y.cells.toArray/\Rep (Btw w0 w') w' (Rc (Ee (Xb t key id))) y.cells/\Same [] w0 w'):=by
 refine Ha func100 ntmps100 ?_;intro hF;refine rn 3 ?_;rintro b1 w hb1 hF -;refine rn 1 ?_;rintro b2 w hb2 hF -;refine rn 5<|Da (v:=.func (.func 105) #[] #[V kb,V jb]) (Ma isAgg105<|hF.cell0 hfb) ?_;refine rn 2<|Ed (part_key t key id x.v kb jb _ _ (hF.rep hX) (Same.cell hF.same hkb) (Same.cell hF.same hjb) ht.ok.sz (fQ ht.2.2 fX)<|hG.ext hF.same) (Ie O en_105 O O) ?_;rintro _ w ⟨q,rfl,hRt,hE⟩;have hRX:=RX.made (ids:=[b2,b1]) hF.same.size (λx hx=>hF.lt_ids qJ) hRt;have hF:=hF.ext hE;clear hE hRt;refine rn 4 ?_;intro b3 w hb3 hF hE;have hRX:=hRX.alloc hE hb3;refine rn 9 ⟨λhc0=>?_,λhc0=>?_⟩;refine rn 3<|Ta (Ym q) ?_;intro w hF hE;have hRX:=hRX.ext hE;refine rn 1 ?_;intro w hF hE;have hRX:=hRX.store hE qJ;refine rn 3 ?_
 ·exact⟨⟨true,q⟩,O,TX hRX.done hc0,hF.same⟩
 refine rn 4<|Da (w':=w) (v:=.agg #[.bool false,J 0,I [],aQ,aQ]) Ib ?_;refine rn 1 ?_;intro w hF hE;have hRX:=hRX.store hE qJ;refine rn 3 ?_;exact⟨⟨false,IQ⟩,O,side_N jV,hF.same⟩
theorem VG(b l r:Tree)(key id:Str)(kb jb:Nat)(x y z:Sv)(S:Nat->Prop)(w0:World)(hT:Rep S w0 (Uo ⟨true,b⟩ ⟨true,l⟩ ⟨true,r⟩) (th x y z))(hkb:w0.cell? ⟨kb,0,none⟩=some (I key))(hjb:w0.cell? ⟨jb,0,none⟩=some (I id))(hb:TinyT b)(hl:TinyT l)(hr:TinyT r)(hG:Gl w0):Calls prog 76 #[.agg (th x y z).toArray,.func (.func 105) #[] #[V kb,V jb]] w0 (Qb λv w'=>∃q0 q1 q2:Sv,v=.agg (th q0 q1 q2).toArray/\Rep (Btw w0 w') w' (Uo (Ee (Xb b key id)) (Ee (Xb l key id)) (Ee (Xb r key id))) (th q0 q1 q2)/\Same [] w0 w'):=by
 obtain⟨hx_,hy_,hz_⟩:=Ti hT;have hx:=(Hc hx_).2.2.2.2;have hy:=(Hc hy_).2.2.2.2;have hz:=(Hc hz_).2.2.2.2;refine Ha func76 ntmps76 ?_;intro hF;refine rn 3 ?_;rintro b1 w hb1 hF -;refine rn 1 ?_;rintro b2 w hb2 hF -;refine rn 1 ?_;rintro b3 w hb3 hF -;refine rn 4<|Da (v:=.func (.func 100) #[] #[V b2]) Te ?_;refine rn 4<|Fe (zs:=.of [13]) (bQ [0,1,2,4,5,6,8,9,10]<|cQ [3,7,11]<|.free 12<|.act 13 .nil) hF ?_;intro w hF;refine rn 2 ?_;refine Fa O (v:=.agg (x.cells).toArray) (λw hC=>Qa (l:=x.cells) isAgg36 sizeOf36 O O<|hC.part 2 0 O O)<|rn 2 ?_;refine Fa O (v:=.agg (y.cells).toArray) (λw hC=>Qa (l:=y.cells) isAgg36 sizeOf36 O O<|hC.part 2 5 O O)<|rn 2 ?_;refine Fa O (v:=.agg (z.cells).toArray) (λw hC=>Qa (l:=z.cells) isAgg36 sizeOf36 O O<|hC.part 2 10 O O)<|Fq O (K8 b key id kb jb x b2 _ _ (hF.rep hx) (Same.cell hF.same hkb) (Same.cell hF.same hjb) (hF.cell 1 O O) hb<|hG.ext hF.same) (Ie O Iz O O) ?_;rintro _ w ⟨q0,rfl,hRt,hE⟩;have hY0:=RX.made (ids:=[b3,b2,b1]) hF.same.size (λx hx=>hF.lt_ids qJ) hRt;have hF:=hF.ext hE;clear hE hRt;refine⟨hF,?_⟩;refine Fq O (K8 l key id kb jb y b2 _ _ (hF.rep hy) (Same.cell hF.same hkb) (Same.cell hF.same hjb) (hF.cell 1 O O) hl<|hG.ext hF.same) (Ie O Iz O O) ?_;rintro _ w ⟨q1,rfl,hRt,hE⟩;have hY1:=RX.made (ids:=[b3,b2,b1]) hF.same.size (λx hx=>hF.lt_ids qJ) hRt;have hF:=hF.ext hE;have hY0:=hY0.ext hE;clear hE hRt;refine⟨hF,?_⟩;refine Fq O (K8 r key id kb jb z b2 _ _ (hF.rep hz) (Same.cell hF.same hkb) (Same.cell hF.same hjb) (hF.cell 1 O O) hr<|hG.ext hF.same) (Ie O Iz O O) ?_;rintro _ w ⟨q2,rfl,hRt,hE⟩;have hY2:=RX.made (ids:=[b3,b2,b1]) hF.same.size (λx hx=>hF.lt_ids qJ) hRt;have hF:=hF.ext hE;have hY0:=hY0.ext hE;have hY1:=hY1.ext hE;clear hE hRt;refine⟨hF,?_⟩
 refine Fa O (v:=.agg ((th q0 q1 q2)).toArray) (λw hC=>by kernel_rfl)<|rn 1 ?_;intro w hF hE;have hY0:=hY0.store hE qJ;have hY1:=hY1.store hE qJ;have hY2:=hY2.store hE qJ;refine rn 3 ?_
 ·exact⟨q0,q1,q2,O,Jm hY0.done hY1.done hY2.done,hF.same⟩
theorem FR.cellE{w0 w:World}{bs_:List (Nat × Obj)}(hF:FR w0 E bs_ w){a:Addr}{v:Value}(h:w0.cell? a=some v)(hb:a.block∉E):w.cell? a=some v:=by
  rw[<-h];exact World.cell?_of_block (w:=w0)<|hF.same.block _ (World.block_lt_of_cell? _ _ h) hb
section
variable {w0 w w':World}{i L:List Nat}{sm sm' bs_ pre post:List (Nat × Obj)}{pb:Nat}{RV:Value}{cfs cfs':List Cf}{rl:List Rl}{path:List Str}{PA:Option Addr}{pc:Nat}{b l r:Option Tree}{x y z:Sv}{mo:Mo}{v:Value}
theorem Mi.at(hM:Mi i w0 sm pb RV cfs)(hG:Gl w0)(hF:FR w0 (ids sm) bs_ w)(hL:∀x∈L,x∈bs_.map (·.1))(hsp:Spl bs_ pre sm post:=by repeat (first|exact Spl.z|apply Spl.c|apply Spl.a)):Mi (L++i) w sm pb RV cfs:=by
  have hl:∀x∈L,w0.heap.size<=x\/x∈i:=λx hx=>by
    obtain⟨q,hq,rfl⟩:=nQ.1<|hL x hx;rcases (hF.own q hq).2 with h|h
    ·exact .inl h
    exact .inr<|hM.sub _ h
  refine⟨hM.m.step hF.same hM.sub λx hx=>?_,hF.hh hsp,λx hx=>List.mem_append_right _<|hM.sub x hx,λx hx=>?_⟩
  ·grind
  rcases mQ.1 hx with h|h
  ·refine⟨?_, hF.lt_ids (hL x h)⟩
   rcases hl x h with h1|h1
   ·exact fQ hG.size h1
   exact (hM.low x h1).1
  exact⟨(hM.low x h).1,Nat.lt_of_lt_of_le (hM.low x h).2 hF.same.size⟩
def Out.keep(hM:Mi i w0 sm pb RV cfs)(hF:FR w0 (ids sm) bs_ w)(hq:RX w0 (L++i) w [Rc (Ee o)] q.cells)(hsp:Spl bs_ pre sm post:=by repeat (first|exact Spl.z|apply Spl.c|apply Spl.a)):Out i w0 sm pb RV cfs (o,[]) (.agg q.cells.toArray) w :=
  ⟨sm,q,rfl,hq.nq λx hx=>List.mem_append_right _<|hM.sub x hx,⟨by rw[qQ];exact hM.m.step hF.same hM.sub λx hx=>(mQ.1 hx).elim .inl λh=>.inl<|hM.sub x h,hF.hh hsp,hF.mc hsp⟩⟩
def Mc.trans{sm1:List (Nat × Obj)}(h1:Mc w0 sm w1 sm1)(h2:Mc w1 sm1 w' sm'):Mc w0 sm w' sm' :=
  ⟨⟨h2.same.os.trans h1.same.os,h2.same.tape.trans h1.same.tape,h2.same.output.trans h1.same.output,fQ h1.same.size h2.same.size,λb hb hn=>(h2.same.block b (Nat.lt_of_lt_of_le hb h1.same.size) (λhm=>by
      obtain⟨q,hq,rfl⟩:=nQ.1 hm;rcases h1.fresh q hq with h|h
      ·omega
      exact hn h)).trans (h1.same.block b hb hn)⟩,
    λq hq=>by
      rcases h2.fresh q hq with h|h
      ·exact .inl<|fQ h1.same.size h
      obtain⟨q', hq', e⟩ := nQ.1 h;rw[<-e];exact h1.fresh q' hq'⟩
theorem Out.pass{w2:World}{L:List Nat}{mo':Mo}{bs2 pre2 post2:List (Nat × Obj)}(hM:Mi i w0 sm pb RV cfs)(hF:FR w0 (ids sm) bs_ w1)(hsp:Spl bs_ pre sm post)(hR:Rep (Nq w1 sm' w2) w2 (Rc (Ee mo.1)) q.cells)(hO:Mo' (L++i) w1 sm w2 sm' pb RV (cfs++mo.2))(hs:Same L w2 w)(hL:∀x∈L,x∈bs_.map (·.1))(hF2:FR w0 (ids sm) bs2 w)(hsp2:Spl bs2 pre2 sm' post2)(hm:mo'=mo):Out i w0 sm pb RV cfs mo' (.agg q.cells.toArray) w:=by
  subst hm;have hl:∀x∈L,x<w1.heap.size:=λx hx=>hF.lt_ids<|hL x hx;refine⟨sm',q,O,?_,⟨hO.m.step hs (λx hx=>by simp[hx]) λx hx=>.inl ?_,hF2.hh hsp2,hF2.mc hsp2⟩⟩
  ·have h1 : Rep (Nq w1 sm' w2) w (Rc<|Ee mo'.1) q.cells := hR.same hs λb hb hn => by have := hn.1.1;have := hl b hb;omega
   refine h1.weaken λb hb _=>?_;obtain⟨cs,T,hc⟩:=hb.1.2.2;exact⟨⟨fQ hF.same.size hb.1.1,Nat.lt_of_lt_of_le hb.1.2.1 hs.size,cs,T,(hs.block b hb.1.2.1 (λhm=>by have:=hb.1.1;have:=hl b hm;omega)).trans hc⟩,hb.2⟩
  grind
def In.off(h:In rl i w0 sm pb RV cfs path PA pc b l r x y z):∀x∈ids sm,8<=x:=λx hx=>(h.mi.low x<|h.mi.sub x hx).1
end
theorem cls_one{b l r:Option Tree}(h:Nj b l r=1):∃x y z,b=some x/\l=some y/\r=some z/\x.kind=y.kind/\x.kind=z.kind:=by
  cases b with
  | none=>simp[Nj]at h
  | some x =>
    cases l with
    | none=>simp[Nj]at h
    | some y =>
      cases r with
      | none=>simp[Nj]at h
      | some z=>grind [Nj]
theorem meet_con{rl:List Rl}{f:List Str->Nat->Option Tree->Option Tree->Option Tree->Mo}{p:List Str}{n:Nat}{b l r:Option Tree}(h:Nj b l r≠1):Zq rl f p n b l r=Tk p (Nj b l r) n b l r:=by
  cases b with
  | none=>rfl
  | some x =>
    cases l with
    | none=>rfl
    | some y =>
      cases r with
      | none=>rfl
      | some z =>
        have hk:¬(x.kind=y.kind/\x.kind=z.kind):=λhk=>h<|uQ hk;show (if x.kind=y.kind/\x.kind=z.kind then _ else _)=Tk p (if x.kind=y.kind/\x.kind=z.kind then 1 else 2) n (some x) (some y) (some z);grind
theorem cls_le(b l r:Option Tree):0<=Nj b l r/\Nj b l r<=10:=by
  cases b with
  | none=>simp[Nj]
  | some x =>
    cases l with
    | none=>simp[Nj]
    | some y =>
      cases r with
      | none=>simp[Nj]
      | some z=>grind [Nj]
theorem In.at{w0 w:World}{i L:List Nat}{sm bs_ pre post:List (Nat × Obj)}{pb:Nat}{RV:Value}{cfs:List Cf}{rl:List Rl}{path:List Str}{PA:Option Addr}{pc:Nat}{b l r:Option Tree}{x y z:Sv}(h:In rl i w0 sm pb RV cfs path PA pc b l r x y z)(hF:FR w0 (ids sm) bs_ w)(hL:∀x∈L,x∈bs_.map (·.1))(hsp:Spl bs_ pre sm post:=by repeat (first|exact Spl.z|apply Spl.c|apply Spl.a)):In rl (L++i) w sm pb RV cfs path PA pc b l r x y z:=by
  obtain⟨S1,o1,r1⟩:=h.pth;obtain⟨S2,o2,r2⟩:=h.tri;obtain⟨S3,o3,r3⟩:=h.rul;exact⟨h.mi.at h.g hF hL hsp,h.g.same hF.same h.off,⟨S1,hF.offM o1 hsp,hF.repM o1 r1⟩,⟨S2,hF.offM o2 hsp,hF.repM o2 r2⟩,⟨S3,hF.offM o3 hsp,hF.repM o3 r3⟩,h.tb,h.tl,h.tr,h.cnt,h.ptx⟩
theorem S_{w0:World}{i:List Nat}{sm:List (Nat × Obj)}{pb:Nat}{RV:Value}{cfs:List Cf}{rl:List Rl}{path:List Str}{PA:Option Addr}{pc:Nat}{b l r:Option Tree}{x y z:Sv}(h:In rl i w0 sm pb RV cfs path PA pc b l r x y z)(cls:Int)(hc:0<=cls/\cls<=10:=by omega)(hp:aL path<=1000:=by omega) :
    Calls prog 45 #[V pb,.slice PA (aL path) pc,J cls,.agg (th x y z).toArray] w0 (Qb λv w'=>Out i w0 sm pb RV cfs (Tk path cls (aL cfs) b l r) v w'):=by
  obtain⟨S1,o1,r1⟩:=h.pth;obtain⟨S2,o2,r2⟩:=h.tri;have hcn:=h.cnt;refine Zi (Ow path cls (Ee b) (Ee l) (Ee r) x y z PA pc S1 S2 w0 sm pb RV cfs i h.mi o1 o2 r1 r2 h.tb.ok h.tl.ok h.tr.ok fX hp hc h.g) λv w' ⟨sm',hv,hO⟩=>?_;refine⟨sm',⟨true,7,Sj (aL cfs),none,0,0,none,0,0⟩,hv,?_,?_⟩
  ·have hn := (H5 (show aL cfs<1000 by omega)).2.2.2
   exact Wi (s:=⟨true,Sh (aL cfs)⟩) (x:=⟨7,Sj (aL cfs),none,0,0,none,0,0⟩)<|Rep.tree_mk ⟨by_Om,by_Om⟩ fX (Rep.nil_slice 0 fX none)<|Rep.nil_slice 0 fX none
  have e : (Tk path cls (aL cfs) b l r).2 = [⟨path, cls, Zk (Ee b), Zk (Ee l), Zk (Ee r)⟩] := by rw[Yy h.tb, Yy h.tl, Yy h.tr];rfl
  grind
def atcl_c{w0:World}{i:List Nat}{sm:List (Nat × Obj)}{pb:Nat}{RV:Value}{cfs:List Cf}{rl:List Rl}{path:List Str}{PA:Option Addr}{pc:Nat}{b l r:Option Tree}{x y z:Sv}(hI:In rl i w0 sm pb RV cfs path PA pc b l r x y z)(mb cb:Nat)(hmb:w0.cell? ⟨mb,0,none⟩=some (V pb))(hcb:w0.cell? ⟨cb,0,none⟩=some (J 1))(hme:mb∉ids sm)(hce:cb∉ids sm)(hpl:aL path<=1000):Calls prog 46 #[.slice PA (aL path) pc,.agg (th x y z).toArray,V mb,V cb] w0 (Qb λv w'=>Out i w0 sm pb RV cfs (Tk path 1 (aL cfs) b l r) v w'):=by
 refine Wb func46 ntmps46 O O ?_;have hF:FR w0 (ids sm) ([]++(sm++[])) w0:=hI.mi.start;refine rn 3 ?_;rintro b1 w hb1 hF -;refine rn 1 ?_;rintro b2 w hb2 hF -;refine rn 4<|Da (v:=V pb) (Ma isAgg55<|hF.cellE hmb hme) ?_;refine rn 1<|Da (v:=J 1) (Ma oZ<|hF.cellE hcb hce) ?_;refine rn 1<|Yb (S_ (hI.at hF (L:=[b2,b1]) Ca) 1 (hp:=hpl)) ?_;rintro _ w2 ⟨sm2,q,rfl,hR,hO⟩;have hFa:=hF;clear hF;have hF:=hFa.swapM hO.m hO.hh hO.mc;refine rn 1 ?_;intro w hF hE;have hS2:Same [b2,b1] w2 w:=hE.mono Ca;refine rn 3 ?_;exact Out.pass hI.mi hFa qW hR hO hS2 Ca hF qW rfl
theorem FR.newM{w0 w:World}{bs_:List (Nat × Obj)}(hF:FR w0 E bs_ w)(k:Nat){b:Nat}{o:Obj}(hk:bs_[k]? = some (b,o)){sm pre post:List (Nat × Obj)}(hsp:Spl bs_ pre sm post:=by repeat (first|exact Spl.z|apply Spl.c|apply Spl.a))(hp:k<aL pre:=by simp):b∉ids sm:=by
  have e:=hsp.eq;subst e;intro hm;obtain⟨q,hq,e⟩:=nQ.1 hm;obtain⟨j,hj,rfl⟩:=List.getElem_of_mem hq;refine Qr hF.desc hk (j:=aL pre+j) (q:=sm[j]) ?_ fX e.symm;grind
theorem BR(rl:List Rl)(F:Nat)(hobj:MtC 47 rl F 6 (GI (Hf rl F)))(harr:MtC 48 rl F 5 (Lh rl (Hf rl F))):AtC rl (F+1):=by
 intro i w0 sm pb RV cfs path PA pc b l r x y z hI hdp hpn;obtain⟨S,hSo,hT⟩:=hI.tri;obtain⟨hx,hy,hz⟩:=Ti hT;refine Wb func23 ntmps23 O O ?_;have hF:FR w0 (ids sm) ([]++(sm++[])) w0:=hI.mi.start;refine rn 3 ?_;rintro b1 w hb1 hF -;refine rn 1 ?_;rintro b2 w hb2 hF -;refine rn 1 ?_;rintro b3 w hb3 hF -;refine rn 10<|Ta (Zg (Br (Ee l) (Ee r) y z _ _ (hF.repM hSo hy) (hF.repM hSo hz) hI.tl.ok hI.tr.ok<|hI.g.same hF.same hI.off)<|xQ Value.bool<|VC hI.tl hI.tr) ?_;rintro w hF -;refine rn 4 ⟨λhc0=>?_,λhc0=>?_⟩;refine rn 4<|Yb (Kh (Ee l) y _ (hF.repM hSo hy) hI.tl.ok<|hI.g.same hF.same hI.off) ?_;rintro _ w ⟨q,rfl,hRt,hE⟩;rw[Yy hI.tl]at hRt;have hQ:=RX.made (ids:=[b3,b2,b1]++i) hF.same.size (hF.ltD hI.mi.low Ca) hRt;have hF:=hF.ext hE;clear hE hRt;refine rn 1 ?_;intro w hF hE;have hQ:=hQ.store hE qJ;refine rn 3 ?_;rw[OY hc0];exact Out.keep hI.mi hF hQ;refine rn 6<|Ta (Zg (Br (Ee b) (Ee l) x y _ _ (hF.repM hSo hx) (hF.repM hSo hy) hI.tb.ok hI.tl.ok<|hI.g.same hF.same hI.off)<|xQ Value.bool<|VC hI.tb hI.tl) ?_;rintro w hF -;refine rn 4 ⟨λhc1=>?_,λhc1=>?_⟩;refine rn 4<|Yb (Kh (Ee r) z _ (hF.repM hSo hz) hI.tr.ok<|hI.g.same hF.same hI.off) ?_;rintro _ w ⟨q,rfl,hRt,hE⟩;rw[Yy hI.tr]at hRt;have hQ:=RX.made (ids:=[b3,b2,b1]++i) hF.same.size (hF.ltD hI.mi.low Ca) hRt;have hF:=hF.ext hE;clear hE hRt;refine rn 1 ?_;intro w hF hE;have hQ:=hQ.store hE qJ;refine rn 3 ?_;rw[at_r jV hc1];exact Out.keep hI.mi hF hQ;refine rn 6<|Ta (Zg (Br (Ee b) (Ee r) x z _ _ (hF.repM hSo hx) (hF.repM hSo hz) hI.tb.ok hI.tr.ok<|hI.g.same hF.same hI.off)<|xQ Value.bool<|VC hI.tb hI.tr) ?_;rintro w hF -;refine rn 4 ⟨λhc2=>?_,λhc2=>?_⟩;refine rn 4<|Yb (Kh (Ee l) y _ (hF.repM hSo hy) hI.tl.ok<|hI.g.same hF.same hI.off) ?_
 rintro _ w ⟨q,rfl,hRt,hE⟩;rw[Yy hI.tl]at hRt;have hQ:=RX.made (ids:=[b3,b2,b1]++i) hF.same.size (hF.ltD hI.mi.low Ca) hRt;have hF:=hF.ext hE;clear hE hRt;refine rn 1 ?_;intro w hF hE;have hQ:=hQ.store hE qJ;refine rn 3 ?_;rw[XX jV bY hc2];exact Out.keep hI.mi hF hQ;refine rn 6<|Ta (Zg (class_c (Ee b) (Ee l) (Ee r) x y z _ _ (hF.repM hSo hx) (hF.repM hSo hy)<|hF.repM hSo hz)<|xQ (Value.int .i64)<|clsZ_O b l r) ?_;rintro w hF -;refine rn 1 ?_;rintro b4 w hb4 hF -;refine rn 10 ⟨λhc3=>?_,λhc3=>?_⟩;refine rn 6<|Yb (S_ (hI.at hF (L:=[b4,b3,b2,b1]) Ca) (Nj b l r) (hc:=cls_le b l r)) ?_;rintro _ w2 ⟨sm2,q,rfl,hR,hO⟩;have hFa:=hF;clear hF;have hF:=hFa.swapM hO.m hO.hh hO.mc;refine rn 1 ?_;intro w hF hE;have hS2:Same [b4,b3,b2,b1] w2 w:=hE.mono Ca;refine rn 3 ?_;exact Out.pass hI.mi hFa qW hR hO hS2 Ca hF qW (by rw[JU jV bY (by rw[hc2];simp),meet_con hc3]);obtain⟨xb,xl,xr,rfl,rfl,rfl,hk1,hk2⟩:=cls_one (aS hc3);have h1:Nj (some xb) (some xl) (some xr)=1:=aS hc3
 have hkx:=(Hc hx).2.1;simp only[Ee]at hkx;rw[h1]at hF;refine rn 4<|Da (v:=.func (.func 46) #[] #[V b1,V b4]) Ui ?_;refine rn 20 ⟨λhc4=>?_,λhc4=>?_⟩;refine rn 2<|Da (v:=.func (.func 47) #[V pb] #[]) (Cn O) ?_;refine rn 9 ?_;refine Ed (hobj _ _ _ _ _ _ _ _ _ _ _ _ _ _ _ (hI.at hF (L:=[b4,b3,b2,b1]) Ca) fX fX fX (by simpa[Ye]using hc0) (by simp only[Yd]at hdp;omega) fX) (So O en_47 O O O) ?_;rintro _ w2 ⟨sm2,q,rfl,hR,hO⟩;have hFa:=hF;clear hF;have hF:=hFa.swapM hO.m hO.hh hO.mc;refine rn 1 ?_;intro w hF hE;have hS2:Same [b4,b3,b2,b1] w2 w:=hE.mono Ca;refine rn 3 ?_;exact Out.pass hI.mi hFa qW hR hO hS2 Ca hF qW (by rw[JU jV bY (by rw[hc2];simp),Zq,uQ ⟨hk1,hk2⟩,uQ fX]);refine rn 7 ⟨λhc5=>?_,λhc5=>?_⟩;refine rn 2<|Da (v:=.func (.func 48) #[V pb] #[]) (Cn O) ?_;refine rn 9 ?_;refine Ed (harr _ _ _ _ _ _ _ _ _ _ _ _ _ _ _ (hI.at hF (L:=[b4,b3,b2,b1]) Ca) fX fX fX (by simpa[Ye]using hc0) (by simp only[Yd]at hdp;omega) fX) (So O en_48 O O O) ?_;rintro _ w2 ⟨sm2,q,rfl,hR,hO⟩;have hFa:=hF;clear hF;have hF:=hFa.swapM hO.m hO.hh hO.mc;refine rn 1 ?_;intro w hF hE;have hS2:Same [b4,b3,b2,b1] w2 w:=hE.mono Ca;refine rn 3 ?_;exact Out.pass hI.mi hFa qW hR hO hS2 Ca hF qW (by rw[JU jV bY (by rw[hc2];simp),Zq,uQ ⟨hk1,hk2⟩,tQ fX,uQ fX]);refine rn 8<|Ed (atcl_c (hI.at hF (L:=[b4,b3,b2,b1]) Ca) b1 b4 (hF.cell 3 O O) (hF.cell 0 O O) (hF.newM 3 O) (hF.newM 0 O) fX) (So O en_46 O O O) ?_;rintro _ w2 ⟨sm2,q,rfl,hR,hO⟩;have hFa:=hF;clear hF;have hF:=hFa.swapM hO.m hO.hh hO.mc
 refine rn 1 ?_;intro w hF hE;have hS2:Same [b4,b3,b2,b1] w2 w:=hE.mono Ca;refine rn 3 ?_;exact Out.pass hI.mi hFa qW hR hO hS2 Ca hF qW (by rw[JU jV bY (by rw[hc2];simp),Zq,uQ ⟨hk1,hk2⟩,tQ fX,tQ fX])
abbrev Kf:=List Str × Int × Option Tree × Option Tree × Option Tree
def nfS(s:Sd):Option Tree:=if s.has=true then some (sortT s.val) else none
def K1(c:Cf):Kf:=(c.path,c.cls,nfS c.b,nfS c.l,nfS c.r)
def K2(c:Cf):Kf:=(c.path,c.cls,nfS c.b,nfS c.r,nfS c.l)
structure Tn (a b:Mo):Prop where
  perm:(a.2.map K1).Perm (b.2.map K2)
  size:Ge a.1=Ge b.1
  depth:Yd a.1=Yd b.1
  same:a.2=[]->a.1.map sortT=b.1.map sortT
theorem Tn.nil{b:Mo}(h:Tn a b):a.2=[]↔b.2=[]:=by
  have:=h.perm.length_eq;grind
def Tn.some_{b:Mo}(h:Tn a b):a.1.isSome=b.1.isSome:=by
  have:=h.size;obtain⟨a1,a2⟩:=a;obtain⟨b1,b2⟩:=b;cases a1 with
  | none => cases b1 with
    | none=>rfl
    | some y =>
      have:=On y;simp[Ge]at *;omega
  | some x => cases b1 with
    | none =>
      have:=On x;simp[Ge]at *;omega
    | some y=>rfl
section
variable {f g:Str->Nat->Mo}{n m:Nat}{ks ks':List Str}
end
theorem V_{b l r:List Str}:∀(F:Nat)(rest o:List Str),aL rest=F->Ni b l r F rest=some o->o.Perm rest
  | 0, rest, o, hl, h => by
    rw[Ni]at h;obtain rfl:=lQ h;rw[List.eq_nil_of_length_eq_zero hl]
  | F + 1, rest, o, hl, h => by
    rw[Ni]at h;split at h
    ·rename_i s hs
     obtain⟨o',h1,rfl⟩:=Option.map_eq_some_iff.1 h;have hm:=List.mem_of_find?_eq_some hs;have:=V_ F _ _ (by rw[List.length_erase_of_mem hm,hl];rfl) h1;exact (this.cons s).trans (List.perm_cons_erase hm).symm
    cases h
def Mw{b l r o:List Str}(h:Mg b l r names=some o):o.Perm names:=by
  unfold Mg at h;split at h
  ·exact (V_ _ _ _ (Jd names) h).trans (Mj names)
  cases h
structure Ln (x y:List Tree) (c d:List Cf):Prop where
  perm:(c.map K1).Perm (d.map K2)
  size:Oa x=Oa y
  depth:Ya x=Ya y
  same:c=[]->x.map sortT=y.map sortT
def Ln.append{x y x' y':List Tree}{c c' d':List Cf}(h:Ln x y c d)(k:Ln x' y' c' d'):Ln (x++x') (y++y') (c++c') (d++d') :=
  ⟨by rw[jQ,jQ];exact h.perm.append k.perm,by rw[Kc,Kc,h.size,k.size],by rw[Pk,Pk,h.depth,k.depth],
    λe=>by
      obtain⟨e1,e2⟩:=List.append_eq_nil_iff.1 e;rw[jQ,jQ,h.same e1,k.same e2]⟩
theorem Ln.refl(x:List Tree):Ln x x [] []:=⟨.refl _,rfl,rfl,λ_=>rfl⟩
theorem Ln.of{b:Mo}(h:Tn a b):Ln a.1.toList b.1.toList a.2 b.2:=by
  obtain⟨a1,a2⟩:=a;obtain⟨b1,b2⟩:=b;have hs:=h.some_;refine⟨h.perm,?_,?_,λe=>?_⟩
  ·have := h.size
   cases a1 <;> cases b1 <;> simp[Ge,Oa]at *;grind
  ·have := h.depth
   cases a1 <;> cases b1 <;> simp[Yd,Ya]at *;grind
  have := h.same e;cases a1 <;> cases b1 <;> simp at *;grind
theorem I6:∀(a:List (Str × Tree)),(a.map (·.1)).Nodup->(a.map (·.1)).map (Wm a)=a.map (·.2)
  | [],_=>rfl
  | x :: a, h => by
    rw[iZ,List.nodup_cons]at h;have ih:=I6 a h.2;rw[iZ,iZ,iZ,<-ih];have e1:Wm (x::a) x.1=x.2:=by simp[Wm,Jc]
    rw[e1]
    congr 1
    refine List.map_congr_left λk hk=>?_;have hne:¬x.1=k:=λe=>h.1<|e▸hk;simp[Wm,Jc,hne]
theorem FU{α:Type}{x y:List α}(hx:x.Nodup)(hy:y.Nodup)(h:∀a∈x,a∉y):(x++y).Nodup:=qJ
def RigO(o:Option Tree):Prop:=∀x,o=some x->Eb x=true
def RigO.nod(h:RigO o):NodO o:=λx hx=>Pn<|h x hx
def Ql{x:Tree}(h:Eb x=true):∀y∈x.items,Eb y=true:=λy hy=>by cases x;exact Ty h hy
def OF{x:Tree}(h:Eb x=true)(key:Str):RigO (Qd x key):=λy hy=>Ql h y<|Wp hy
def J6{x:Tree}(h:Eb x=true)(key id:Str):RigO (Xb x key id):=λy hy=>Ql h y<|Gm hy
theorem ZR(b l r:Option Tree):1<=Nj b l r/\Nj b l r<=4:=by
  unfold Nj;grind
def SdT(T:Tree->Prop)(s:Sd):Prop:=s=noS\/(s.has=true/\T s.val)
def FoO(T:Tree->Prop)(o:Option Tree):Prop:=∀x,o=some x->T x
def CfT(T:Tree->Prop)(c:Cf):Prop:=SdT T c.b/\SdT T c.l/\SdT T c.r/\(c.cls=5->c.b.val.kind=5/\c.l.val.kind=5/\c.r.val.kind=5)/\1<=c.cls/\c.cls<=6
def UZ(h:FoO T o):SdT T (Ee o):=by
  cases o with
  | none=>exact .inl rfl
  | some x=>exact .inr ⟨rfl,h x rfl⟩
def D1{p:List Str}{n:Nat}{b l r:Option Tree}(hb:FoO T b)(hl:FoO T l)(hr:FoO T r)(h1:1<=cls)(h2:cls<=6)(h5:cls≠5):∀c∈(Tk p cls n b l r).2,CfT T c:=λc hc=>by
  rw[pQ.1 hc];exact⟨UZ hb,UZ hl,UZ hr,λh=>absurd h h5,h1,h2⟩
theorem Ut{x y:List Tree}(h:∀z∈x,z∈y):Ya x<=Ya y:=by
  have key:∀{z:Tree}{y:List Tree},z∈y->Db z<=Ya y:=fun {z y} hz=>by
    induction y with
    | nil=>cases hz
    | cons a y ih =>
      rw[Ya];rcases oQ.1 hz with rfl|hz
      ·omega
      have:=ih hz;omega
  induction x with
  | nil=>simp[Ya]
  | cons a x ih =>
    rw[Ya];have h1:=key<|h a Ca;grind
def GR{x:Tree}(h:Eb x=true){p:List Tree}(hp:∀z∈p,z∈x.items)(hs:Oa p<=Oa x.items):Eb (.node 5 [] [] p)=true:=by
  have hd:=Ut hp;have h0:=h;obtain⟨k,t,ks,xs⟩:=x;simp only[Tree.items]at hp hs hd;unfold Eb Um at h ⊢;simp only[vQ,wQ]at h ⊢;rw[Ja,Db]at h ⊢;refine⟨⟨by_Om,by_Om⟩,?_⟩;rw[Zb,Ko λz hz=>(Sc h.2).2 z (hp z hz)];rfl
theorem Bu(base v:List Tree){g:Nat}(hg:g<=aL base):Oa ((Ec base v).put g)<=Oa v:=by
  by_cases h:g=aL base
  ·have := Nh base v g hg
   grind
  have := Sy base v g fX;omega
structure ClT (T:Tree->Prop):Prop where
  kid:∀{x y:Tree},T x->y∈x.items->T y
  part:∀{x:Tree}{p:List Tree},T x->(∀z∈p,z∈x.items)->Oa p<=Oa x.items->T (.node 5 [] [] p)
def ClT.rig:ClT (λx=>Eb x=true):=⟨λh hy=>Ql h _ hy,λh hp hs=>GR h hp hs⟩
def putM_T(hT:ClT T){p:List Str}{g n:Nat}{x y:Tree}{v:List Tree}(hx:T x)(hy:T y)(hu:∀z∈u,z∈x.items)(hv:∀z∈v,z∈y.items)(su:Oa u<=Oa x.items)(sv:Oa v<=Oa y.items):∀c∈(Jf p g n u v).2,CfT T c:=by
  unfold Jf;split
  ·intro c hc;cases hc
  split
  ·intro c hc;cases hc
  intro c hc;rw[pQ.1 hc];exact⟨.inr ⟨O,hT.part hx (p:=[]) (λz hz=>by cases hz) (by simp[Oa])⟩,.inr ⟨O,hT.part hx hu su⟩,.inr ⟨O,hT.part hy hv sv⟩,λ_=>⟨O,O,O⟩,(by decide:(1:Int)<=5),(by decide:(5:Int)<=6)⟩
theorem R7{Q:Cf->Prop}{f:Str->Nat->Mo}{n:Nat}{ks:List Str}(H:∀k n,∀c∈(f k n).2,Q c):∀j,∀c∈(Df f n ks j).2,Q c
  | 0=>λc hc=>by cases hc
  | j + 1 => λc hc => by
    rw[Df]at hc;rcases mQ.1 hc with hc|hc
    ·exact R7 H j c hc
    exact H _ _ c hc
theorem WK{Q:Cf->Prop}{f:Fm}{p:List Str}{n:Nat}{base:List Tree}{x y:By}(H:∀s n k,∀c∈(f (p++[s]) n base[k]? (x.item k) (y.item k)).2,Q c)(HP:∀g n,g<aL base->∀c∈(Jf p g n (x.put g) (y.put g)).2,Q c):∀j,j<=aL base->∀c∈(Af f p n base x y j).2,Q c
  | 0,_=>λc hc=>by cases hc
  | j + 1, hj => λc hc => by
    rw[Af]at hc;rcases mQ.1 hc with hc|hc
    ·rcases mQ.1 hc with hc|hc
     ·exact WK H HP j fX c hc
     exact HP _ _ fX c hc
    exact H _ _ _ c hc
def atM_T(hT:ClT T){rl:List Rl}:∀(F:Nat)(p:List Str)(n:Nat)(b l r:Option Tree),FoO T b->FoO T l->FoO T r->∀c∈(Hf rl F p n b l r).2,CfT T c:=by
  intro F
  induction F with
  | zero=>intro p n b l r _ _ _ c hc;cases hc
  | succ F ih =>
    intro p n b l r hb hl hr;rw[Hf];split
    ·intro c hc;cases hc
    split
    ·intro c hc;cases hc
    split
    ·intro c hc;cases hc
    have hc4 : ∀b l r : Option Tree, Nj b l r ≠ 5 /\ 1 <= Nj b l r /\ Nj b l r <= 6 := λb l r => by have := ZR b l r;omega
    have con:∀b l r:Option Tree,FoO T b->FoO T l->FoO T r->∀c∈(Tk p (Nj b l r) n b l r).2,CfT T c:=λb l r hb hl hr=>D1 hb hl hr (hc4 b l r).2.1 (hc4 b l r).2.2 (hc4 b l r).1;cases b with
    | none=>exact con _ _ _ hb hl hr
    | some x =>
      cases l with
      | none=>exact con _ _ _ hb hl hr
      | some y =>
        cases r with
        | none=>exact con _ _ _ hb hl hr
        | some z =>
          have hx:=hb x rfl;have hy:=hl y rfl;have hz:=hr z rfl;simp only[Zq];split
          ·split
           ·exact R7 (λk n=>ih (p++[k]) n _ _ _ (λ_ e=>hT.kid hx<|Wp e) (λ_ e=>hT.kid hy<|Wp e) λ_ e=>hT.kid hz<|Wp e) _
           split
           ·have hgap:∀c∈(Lh.gapM (Hf rl F) p n x y z).2,CfT T c:=by
              unfold Lh.gapM;split
              ·have hp : ∀g n, g <= (aL x.items) -> ∀c ∈ (Jf p g n ((Ec x.items y.items).put g)<|(Ec x.items z.items).put g).2, CfT T c := λg n hg => putM_T hT hy hz (λw hw => Bg hw) (λw hw => Bg hw) (Bu _ _ hg) (Bu _ _ hg)
               intro c hc;unfold N2 at hc;rcases mQ.1 hc with hc|hc
               ·exact WK (λs n k=>ih (p++[s]) n _ _ _ (λw hw=>hT.kid hx<|List.mem_of_getElem? hw) (λw hw=>hT.kid hy<|Xr hw) λw hw=>hT.kid hz<|Xr hw) (λg n hg=>hp g n fX) _ (gQ _) c hc
               exact hp _ _ (gQ _) c hc
              exact D1 hb hl hr Pa Pa Pa
            rw[Lh];cases Vi rl p with
            | none=>exact hgap
            | some key =>
              simp only;split
              ·unfold Bx
               simp only;split
               ·exact R7 (λk n=>ih (p++[Zo k]) n _ _ _ (λ_ e=>hT.kid hx<|Gm e) (λ_ e=>hT.kid hy<|Gm e) λ_ e=>hT.kid hz<|Gm e) _
               exact D1 hb hl hr Pa Pa Pa
              exact hgap
           exact D1 hb hl hr Pa Pa Pa
          exact D1 hb hl hr Pa Pa Pa
def IR{rl:List Rl}(F:Nat)(p:List Str)(n:Nat)(b l r:Option Tree)(hb:RigO b)(hl:RigO l)(hr:RigO r):∀c∈(Hf rl F p n b l r).2,CfR c:=atM_T .rig F p n b l r hb hl hr
def conM_rig{p:List Str}{n:Nat}{b l r:Option Tree}(hb:RigO b)(hl:RigO l)(hr:RigO r)(h1:1<=cls)(h2:cls<=6)(h5:cls≠5):∀c∈(Tk p cls n b l r).2,CfR c:=D1 hb hl hr h1 h2 h5
def putM_rig{p:List Str}{g n:Nat}{x y:Tree}{v:List Tree}(hx:Eb x=true)(hy:Eb y=true)(hu:∀z∈u,z∈x.items)(hv:∀z∈v,z∈y.items)(su:Oa u<=Oa x.items)(sv:Oa v<=Oa y.items):∀c∈(Jf p g n u v).2,CfR c:=putM_T .rig hx hy hu hv su sv
theorem Dr{k:Int}{t:Str}{ks:List Str}(h:k≠7):Dd (.node k t ks xs) = -1:=uQ h
theorem Mr{L:List Cf}{pick:List Int}{k:Int}:∀(xs:List Tree)(ks:List Str),(∀x∈xs,Cc L pick x=⟨true,x⟩/\Dd x = -1)->(k=6->aL ks=aL xs)->Zd L pick k ks xs=(if k=6 then ks else [],xs)
  | [], ks, _, h => by
    rw[Zd];split
    ·rename_i hk
     rw[List.eq_nil_of_length_eq_zero<|h hk]
    rfl
  | x :: xs, ks, hx, h => by
    obtain⟨h1,h2⟩:=hx x Ca;rw[Zd,h1,h2];by_cases hk:k=6
    ·have hl := h hk
     cases ks with
     | nil=>cases hl
     | cons a ks =>
       have ih:=Mr (L:=L) (pick:=pick) (k:=k) xs ks (λz hz=>hx z qA) λ_=>by simpa using hl
       simp only[List.tail_cons,ih,Nl,uQ hk,List.headD_cons];rfl
    have ih := Mr (L := L) (pick := pick) (k := k) xs ks.tail (λz hz => hx z qA) λe => absurd e hk;simp only[ih,Nl,tQ hk];rfl
theorem Jh{L:List Cf}{pick:List Int}(x:Tree):Zb rnodeB x=true->Cc L pick x=⟨true,x⟩/\Xc x=[]/\Dd x = -1:=Tree.ind (Q:=λx=>Zb rnodeB x=true->Cc L pick x=⟨true,x⟩/\Xc x=[]/\Dd x = -1) (λk t ks xs ih h=>by
  obtain⟨h1,h2⟩:=Sc h;have hr:=Bool.and_eq_true_iff.1 (show (decide ((Tree.node k t ks xs).kind≠7)&&nodeB (.node k t ks xs))=true from h1);have hk:k≠7:=jZ hr.1;have hh:=Dr (t:=t) (ks:=ks) (xs:=xs) hk;refine⟨?_,?_,hh⟩
  ·have h6 : k = 6 -> (aL ks) = (aL xs) := λe => by subst e;exact (Hk hr.2).2
   have hks:k≠6->ks=[]:=λe=>by
     have h3:=hr.2;rw[nodeB]at h3;by_cases h5:k=5
     ·rw[uQ h5,vQ,wQ]at h3;exact h3.1
     rw[tQ h5, tQ e]at h3;by_cases hn:ks≠[]\/xs≠[]
     ·rw[uQ hn]at h3;cases h3
     exact Classical.not_not.1 λhc=>hn<|.inl hc
   rw[Cc,tQ (by rw[hh];decide),Mr xs ks (λx hx=>⟨(ih x hx<|h2 x hx).1,(ih x hx<|h2 x hx).2.2⟩) h6];by_cases hk6:k=6
   ·simp only[uQ hk6]
   simp only[tQ hk6,hks hk6]
  have:∀ys:List Tree,(∀y∈ys,Xc y=[])->Fd ys=[]:=λys=>by
    induction ys with
    | nil=>intro _;rfl
    | cons y ys ihy=>intro hy;rw[Fd,hy y Ca,ihy λz hz=>hy z qA];rfl
  rw[Xc,tQ hk,this xs λx hx=>(ih x hx<|h2 x hx).2.1];rfl) x
def It(n m:Nat):List Str:=(List.range m).map λi=>Sj (n+i)
def MG(n a b:Nat):It n (a+b)=It n a++It (n+a) b:=by
  unfold It;rw[List.range_add,jQ,List.map_map]
  congr 1
  exact List.map_congr_left λi _=>by simp[Nat.add_assoc]
section
variable (L:List Cf)(pick:List Int)
def Xo(x:Tree):List Tree:=(Nl L 5 [] (Dd x) (Cc L pick x)).2
def Cx(n:Nat)(c:List Cf):Prop:=∀i x,c[i]? = some x->L[n+i]? = some x
structure Fo (n:Nat) (a:Mo) (S D:Nat):Prop where
  holes:∀v,a.1=some v->(Xc v).Perm (It n (aL a.2))
  val:∀v,a.1=some v->(Cc L pick v).has=true->Zb rnodeB (Cc L pick v).val=true/\Ja (Cc L pick v).val<=S/\Db (Cc L pick v).val<=D
  five:∀v,a.1=some v->0<=Dd v->(L.getD (Dd v).toNat Qy).cls≠5
  none:a.1=none->a.2=[]
structure Fg (n:Nat) (xs:List Tree) (c:List Cf) (S D:Nat):Prop where
  holes:(Fd xs).Perm (It n (aL c))
  val:∀y∈xs.flatMap (Xo L pick),Zb rnodeB y=true/\Db y<=D
  size:Oa (xs.flatMap (Xo L pick))<=S
end
section
variable {L:List Cf}{pick:List Int}
def Cx.left{n:Nat}{c:List Cf}(h:Cx L n (c++d)):Cx L n c:=λi x hx=>h i x (by rw[List.getElem?_append_left (List.getElem?_eq_some_iff.1 hx).1];exact hx)
theorem Cx.right{n:Nat}{c:List Cf}(h:Cx L n (c++d)):Cx L (n+aL c) d:=λi x hx=>by
  have:=h (aL c+i) x (by rw[List.getElem?_append_right fX,Nat.add_sub_cancel_left];exact hx);grind
theorem T5{x:Tree}(h:0<=Dd x->(L.getD (Dd x).toNat Qy).cls≠5):Xo L pick x=if (Cc L pick x).has=true then [(Cc L pick x).val] else []:=by grind [Xo,Nl]
theorem SO{x:Tree}(h:Zb rnodeB x=true):Xo L pick x=[x]:=by grind [Jh,T5]
theorem W1(h:∀x∈xs,Zb rnodeB x=true):xs.flatMap (Xo L pick)=xs:=by
  induction xs with
  | nil=>rfl
  | cons x xs ih=>grind [SO]
def Fg.append{n:Nat}{c:List Cf}{D:Nat}(h:Fg L pick n xs c S D)(k:Fg L pick (n+aL c) ys d S' D):Fg L pick n (xs++ys) (c++d) (S+S') D:=by
  refine⟨?_,λy hy=>?_,?_⟩
  ·rw[Wd, List.flatMap_append, <- Wd, <- Wd, dQ, MG]
   exact h.holes.append k.holes
  ·rw[List.flatMap_append]at hy
   rcases mQ.1 hy with hy|hy
   ·exact h.val y hy
   exact k.val y hy
  rw[List.flatMap_append, Kc];have:=h.size;have:=k.size;omega
def Fg.mono{n:Nat}{c:List Cf}{D:Nat}(h:Fg L pick n xs c S D)(hs:S<=S')(hd:D<=D'):Fg L pick n xs c S' D' :=
  ⟨h.holes,λy hy=>⟨(h.val y hy).1,fQ (h.val y hy).2 hd⟩,fQ h.size hs⟩
def Fg.nil{n D:Nat}:Fg L pick n [] [] 0 D:=⟨.refl _,(λy hy=>by cases hy),gQ _⟩
def Fo.row{n:Nat}{D:Nat}(h:Fo L pick n a S D):Fg L pick n a.1.toList a.2 S D:=by
  obtain⟨o,c⟩:=a;cases o with
  | none =>
    have hc:c=[]:=h.none rfl;subst hc;exact Fg.nil.mono (bZ _)<|gQ _
  | some v =>
    have hk:=T5 (pick:=pick)<|h.five v rfl;have e:[v].flatMap (Xo L pick)=Xo L pick v:=Ca
    refine⟨?_,λy hy=>?_,?_⟩
    ·show (Fd [v]).Perm _
     rw[Fd,Fd,qQ];exact h.holes v O
    ·have hy' : y ∈ Xo L pick v := by rw[<- e];exact hy
     rw[hk]at hy';split at hy'
     ·rename_i hh
      rw[pQ.1 hy'];have:=h.val v rfl hh;exact⟨this.1,this.2.2⟩
     cases hy'
    show Oa ([v].flatMap (Xo L pick)) <= S;rw[e,hk];split
    ·rename_i hh
     have:=(h.val v rfl hh).2.1;simp only[Oa];omega
    simp[Oa]
theorem P6{n:Nat}{D:Nat}(h:∀x∈xs,Zb rnodeB x=true)(hs:Oa xs<=S)(hd:Ya xs<=D):Fg L pick n xs [] S D:=by
  refine⟨?_,λy hy=>?_,?_⟩
  ·have:Fd xs=[]:=by
     rw[Wd,List.flatMap_eq_nil_iff];exact λx hx=>(Jh (L:=L) (pick:=pick) x<|h x hx).2.1
   rw[this];exact .refl _
  ·rw[W1 h]at hy
   exact⟨h y hy,fQ (by have:=Ut (x:=[y]) (y:=xs) (λz hz=>by rw[pQ.1 hz];exact hy);simp only[Ya]at this;omega) hd⟩
  rw[W1 h];exact hs
theorem LB{i:Nat}{c:Cf}(hc:L[i]? = some c)(hr:CfR c):Qm L pick (i:Int)=c.b\/Qm L pick (i:Int)=c.l\/Qm L pick (i:Int)=c.r\/Qm L pick (i:Int)=noS:=by
  have cop:∀{s:Sd},SdR s->Zk s=s:=fun {s} h=>by
    unfold Zk;rcases h with rfl|⟨h1,h2⟩
    ·rfl
    rw[uQ h1, Jy, uQ (Ci h2)];cases s;simp only at h1;subst h1;rfl
  have e:L.getD (i:Int).toNat Qy=c:=qJ
  unfold Qm Fh;rw[e];split
  ·exact .inl<|cop hr.1
  split
  ·exact .inr<|.inl<|cop hr.2.1
  split
  ·exact .inr<|.inr<|.inl<|cop hr.2.2.1
  grind
theorem KC{i:Nat}(hi:i<1000):Cc L pick (Sh i)=Qm L pick (i:Int):=by grind [Vo,Sh,Cc]
theorem K_{p:List Str}{g n:Nat}{v:List Tree}{D:Nat}(hu:∀x∈u,Zb rnodeB x=true)(hv:∀x∈v,Zb rnodeB x=true)(du:Ya u<=D)(dv:Ya v<=D)(hx:Cx L n (Jf p g n u v).2)(hn:n+aL (Jf p g n u v).2<1000)(hr:∀c∈(Jf p g n u v).2,CfR c) :
    Fg L pick n (Jf p g n u v).1 (Jf p g n u v).2 (Oa u+Oa v) D:=by
  unfold Jf at hx hn hr ⊢;by_cases h1:aL u=0
  ·grind [P6]
  simp only[tQ h1]at *;by_cases h2:aL v=0\/Qh (.node 5 [] [] u) (.node 5 [] [] v)=true
  ·grind [P6]
  simp only[tQ h2]at *;simp only[kQ,aZ]at hn;have hL:=hx 0 _ rfl;have hcr:=hr _<|pQ.2 rfl;have hp:=LB (pick:=pick) hL hcr;have hf:=KC (L:=L) (pick:=pick) (i:=n) fX;have hk:=Vo (i:=n) fX;rw[Nat.add_zero]at hL hp;have e5:(L.getD ((n:Int)).toNat Qy).cls=5:=qJ
  have hkid:Xo L pick (Sh n)=if (Qm L pick (n:Int)).has=true then (Qm L pick (n:Int)).val.items else []:=by grind [Xo,Nl]
  have hcases:Xo L pick (Sh n)=[]\/Xo L pick (Sh n)=u\/Xo L pick (Sh n)=v:=by
    rw[hkid];rcases hp with e|e|e|e
    ·rw[e]
     exact .inl O
    ·rw[e]
     exact .inr<|.inl O
    ·rw[e]
     exact .inr<|.inr O
    rw[e];exact .inl O
  have ef:[Sh n].flatMap (Xo L pick)=Xo L pick (Sh n):=Ca
  refine⟨?_,λy hy=>?_,?_⟩
  ·rw[Fd, Fd, qQ]
   simp[Sh,Xc,Fd,It]
  ·rw[ef]at hy
   have dm:∀{w:List Tree},y∈w->Db y<=Ya w:=fun {w} hy=>by have:=Ut (x:=[y]) (y:=w) (λz hz=>by rw[pQ.1 hz];exact hy);simp only[Ya]at this;omega
   rcases hcases with e|e|e
   ·rw[e]at hy
    cases hy
   ·rw[e]at hy
    exact⟨hu y hy,fQ (dm hy) du⟩
   rw[e]at hy;exact⟨hv y hy,fQ (dm hy) dv⟩
  rw[ef];rcases hcases with e|e|e
  ·rw[e]
   simp[Oa]
  ·rw[e]
   omega
  rw[e];omega
end
section
variable {L:List Cf}{pick:List Int}
theorem UP(h:RigO o)(hh:(Ee o).has=true):Zb rnodeB (Ee o).val=true/\Ja (Ee o).val=Ge o/\Db (Ee o).val=Yd o:=by
  cases o with
  | none=>cases hh
  | some x=>exact⟨(Bool.and_eq_true_iff.1<|h x rfl).2,rfl,rfl⟩
theorem GB{p:List Str}{n:Nat}{b l r:Option Tree}{D:Nat}(hb:RigO b)(hl:RigO l)(hr:RigO r)(h1:1<=cls)(h2:cls<=6)(h5:cls≠5)(db:Yd b<=D)(dl:Yd l<=D)(dr:Yd r<=D)
    (hx:Cx L n (Tk p cls n b l r).2) (hn:n+aL (Tk p cls n b l r).2<1000):Fo L pick n (Tk p cls n b l r) (Ge b+Ge l+Ge r) D:=by
  have hL:=hx 0 _ rfl;rw[Nat.add_zero]at hL;have hn':n<1000:=qJ
  have hcr:=conM_rig (p:=p) (n:=n) hb hl hr h1 h2 h5 _<|pQ.2 rfl;have hp:=LB (pick:=pick) hL hcr;have hf:=KC (L:=L) (pick:=pick) hn';have hk:=Vo hn';refine⟨λv hv=>?_,λv hv hh=>?_,λv hv _=>?_,λh=>by cases h⟩
  ·grind [Tk,Sh,Xc,Fd,It]
  ·obtain rfl := lQ hv
   rw[hf]at hh ⊢;rcases hp with e|e|e|e
   ·grind [UP,Ja,Ee,Db]
   ·grind [UP,Ja,Ee,Db]
   ·grind [UP,Ja,Ee,Db]
   rw[e]at hh;cases hh
  obtain rfl := lQ hv;grind
theorem Uy{n D:Nat}(h:RigO o)(hs:Ge o<=S)(hd:Yd o<=D):Fo L pick n (o,[]) S D:=by
  refine⟨λv hv=>?_,λv hv hh=>?_,λv hv hk=>?_,λ_=>rfl⟩
  ·have := Jh (L := L) (pick := pick) v (Bool.and_eq_true_iff.1<|h v hv).2
   rw[this.2.1];exact .refl _
  ·have hv' : o = some v := hv
   have:=Jh (L:=L) (pick:=pick) v (Bool.and_eq_true_iff.1<|h v hv).2;rw[this.1];subst hv';exact⟨(Bool.and_eq_true_iff.1<|h v O).2,hs,hd⟩
  have := Jh (L := L) (pick := pick) v (Bool.and_eq_true_iff.1<|h v hv).2;grind
theorem Fg.perm{n:Nat}{c:List Cf}{D:Nat}(h:Fg L pick n xs c S D)(hp:ys.Perm xs):Fg L pick n ys c S D:=by
  have h1:(ys.flatMap<|Xo L pick).Perm (xs.flatMap<|Xo L pick):=qJ
  refine⟨?_,λy hy=>h.val y<|h1.mem_iff.1 hy,?_⟩
  ·rw[Wd]
   have:=h.holes;grind [Wd]
  rw[Au h1];exact h.size
theorem A8:∀xs:List Tree,Zd L pick 5 [] xs=([],xs.flatMap (Xo L pick))
  | []=>rfl
  | x :: xs => by
    rw[Zd,List.flatMap_cons];simp only[List.headD_nil,List.tail_nil,A8 xs];have e:(Nl L 5 [] (Dd x)<|Cc L pick x).1=[]:=by
      unfold Nl;split
      ·rw[tQ Pa];split <;> rfl
      rfl
    rw[e];rfl
def TV(h:∀x∈xs,Zb rnodeB x=true):Zb rnodeB (.node 5 [] [] xs)=true:=by
  rw[Zb,Ko h];rfl
theorem fo_arr{n:Nat}{c:List Cf}{D:Nat}(h:Fg L pick n xs c S D)(hs:S+1<=S')(hd:D+1<=D'):Fo L pick n (some (.node 5 [] [] xs),c) S' D':=by
  have hk:Dd (.node 5 [] [] xs) = -1:=by grind [Dr]
  have hf:Cc L pick (.node 5 [] [] xs)=⟨true,.node 5 [] []<|xs.flatMap<|Xo L pick⟩:=by grind [Cc,A8]
  refine⟨λv hv=>?_,λv hv _=>?_,λv hv hh=>?_,λh=>by cases h⟩
  ·obtain rfl := lQ hv
   rw[Xc,tQ Pa];exact h.holes
  ·obtain rfl := lQ hv
   rw[hf];have hdm:Ya (xs.flatMap<|Xo L pick)<=D:=by
     have:∀ys:List Tree,(∀y∈ys,Db y<=D)->Ya ys<=D:=λys=>by
       induction ys with
       | nil=>intro _;simp[Ya]
       | cons y ys ih=>intro hy;rw[Ya];have:=hy y Ca;have:=ih λz hz=>hy z qA;omega
     exact this _ λy hy=>(h.val y hy).2
   exact⟨TV λy hy=>(h.val y hy).1,by have:=h.size;rw[Ja];omega,by rw[Db];omega⟩
  grind
def Zs(L:List Cf)(pick:List Int)(m:List (Str × Tree)):List (Str × Tree):=m.filterMap λz=>if (Cc L pick z.2).has=true then some (z.1,(Cc L pick z.2).val) else none
theorem U5:∀m:List (Str × Tree),Zd L pick 6 (m.map (·.1)) (m.map (·.2))=((Zs L pick m).map (·.1),(Zs L pick m).map (·.2))
  | []=>rfl
  | x :: m => by
    rw[iZ,iZ,Zd];simp only[List.headD_cons,List.tail_cons,U5 m];unfold Zs;rw[List.filterMap_cons];unfold Nl;by_cases h:(Cc L pick x.2).has=true
    ·simp only[uQ h,uQ rfl];rfl
    simp only[tQ h];rfl
theorem CX{m:List (Str × Tree)}(h:∀z∈m,0<=Dd z.2->(L.getD (Dd z.2).toNat Qy).cls≠5):(Zs L pick m).map (·.2)=(m.map (·.2)).flatMap (Xo L pick):=by
  induction m with
  | nil=>rfl
  | cons x m ih=>grind [Zs,T5,Cc]
theorem Q5(m:List (Str × Tree)):((Zs L pick m).map (·.1)).Sublist (m.map (·.1)):=by
  induction m with
  | nil=>exact .slnil
  | cons x m ih =>
    unfold Zs at ih ⊢;grind
def JV{m:List (Str × Tree)}(h:∀z∈m,Zb rnodeB z.2=true)(hn:(m.map (·.1)).Nodup)(hv:∀k∈m.map (·.1),Lib.validD k=true):Zb rnodeB (.node 6 [] (m.map (·.1)) (m.map (·.2)))=true:=by
  rw[Zb,Ko (λx hx=>by obtain⟨z,hz,rfl⟩:=nQ.1 hx;exact h z hz)];show ((decide ((Tree.node 6 [] (m.map (·.1)) (m.map (·.2))).kind≠7)&&nodeB (.node 6 [] (m.map (·.1)) (m.map (·.2))))&&true)=true;rw[nodeB,tQ Pa,uQ rfl,Wl,eZ hn,List.all_eq_true.2 hv];simp[Tree.kind]
theorem fo_obj{n:Nat}{m:List (Str × Tree)}{c:List Cf}{D:Nat}(h:Fg L pick n (m.map (·.2)) c S D)(h5:∀z∈m,0<=Dd z.2->(L.getD (Dd z.2).toNat Qy).cls≠5)(hn:(m.map (·.1)).Nodup)(hv:∀k∈m.map (·.1),Lib.validD k=true)(hs:S+1<=S')(hd:D+1<=D') :
    Fo L pick n (some (.node 6 [] (m.map (·.1)) (m.map (·.2))),c) S' D':=by
  have hk:Dd (.node 6 [] (m.map (·.1)) (m.map (·.2))) = -1:=by grind [Dr]
  have hf:Cc L pick (.node 6 [] (m.map (·.1)) (m.map (·.2)))=⟨true,.node 6 [] ((Zs L pick m).map (·.1)) ((Zs L pick m).map (·.2))⟩:=by grind [Cc,U5]
  have hkv:=CX (pick:=pick) h5;refine⟨λv hv=>?_,λv hv' _=>?_,λv hv hh=>?_,λh=>by cases h⟩
  ·obtain rfl := lQ hv
   rw[Xc,tQ Pa];exact h.holes
  ·obtain rfl := lQ hv'
   rw[hf];have hall:∀y∈(Zs L pick m).map (·.2),Zb rnodeB y=true/\Db y<=D:=λy hy=>h.val y (by rw[<-hkv];exact hy);have hdm:Ya ((Zs L pick m).map (·.2))<=D:=by
     have:∀ys:List Tree,(∀y∈ys,Db y<=D)->Ya ys<=D:=λys=>by
       induction ys with
       | nil=>intro _;simp[Ya]
       | cons y ys ih=>intro hy;rw[Ya];have:=hy y Ca;have:=ih λz hz=>hy z qA;omega
     exact this _ λy hy=>(hall y hy).2
   refine⟨JV (λz hz=>(hall z.2<|List.mem_map_of_mem hz).1) (hn.sublist<|Q5 m) λk hk=>hv k<|(Q5 m).subset hk,?_,?_⟩
   ·have := h.size
    rw[<-hkv]at this;rw[Ja];omega
   rw[Db];omega
  obtain rfl := lQ hv;rw[hk]at hh;omega
theorem H0{f:Str->Nat->Mo}{n:Nat}{ks:List Str}{gb gl gr:Str->Option Tree}{D:Nat}(H:∀k m,Cx L m (f k m).2->m+aL (f k m).2<1000->Fo L pick m (f k m) (Ge (gb k)+Ge (gl k)+Ge (gr k)) D):∀j,j<=aL ks->Cx L n (Df f n ks j).2->n+aL (Df f n ks j).2<1000 ->
    Fg L pick n ((Df f n ks j).1.map (·.2)) (Df f n ks j).2 (Yk gb (ks.take j)+Yk gl (ks.take j)+Yk gr (ks.take j)) D/\∀z∈(Df f n ks j).1,0<=Dd z.2->(L.getD (Dd z.2).toNat Qy).cls≠5
  | 0,_,_,_=>⟨Fg.nil.mono (bZ _)<|gQ _,λz hz=>by cases hz⟩
  | j + 1, hj, hx, hn => by
    rw[Df]at hx hn ⊢;simp only[dQ]at hn;obtain⟨i1,i2⟩:=H0 (n:=n) (ks:=ks) H j fX hx.left fX;have h:=H (ks.getD j []) (n+aL (Df f n ks j).2) hx.right fX;have e:∀o:Option Tree,(BE (ks.getD j []) o).map (·.2)=o.toList:=λo=>by cases o <;> rfl
    refine⟨?_,λz hz=>?_⟩
    ·rw[jQ, e]
     refine (i1.append h.row).mono ?_ (gQ _);rw[Ze gb fX,Ze gl fX,Ze gr fX];omega
    rcases mQ.1 hz with hz|hz
    ·exact i2 z hz
    have h5 := h.five;generalize (f (ks.getD j [])<|n+aL (Df f n ks j).2).1=o at hz h5;cases o with
    | none=>cases hz
    | some v=>rw[pQ.1 hz];exact h5 v rfl
theorem ZB{f:Fm}{p:List Str}{n:Nat}{base:List Tree}{x y:By}{D:Nat}(H:∀s m k,k<aL base->Cx L m (f (p++[s]) m base[k]? (x.item k) (y.item k)).2->m+aL (f (p++[s]) m base[k]? (x.item k) (y.item k)).2<1000->Fo L pick m (f (p++[s]) m base[k]? (x.item k) (y.item k)) (Ge base[k]? + Ge (x.item k)+Ge (y.item k)) D)
    (hx:∀z∈x.items,Zb rnodeB z=true/\Db z<=D) (hy:∀z∈y.items,Zb rnodeB z=true/\Db z<=D) (HR:∀g m,g<aL base->∀c∈(Jf p g m (x.put g) (y.put g)).2,CfR c):∀j,j<=aL base->Cx L n (Af f p n base x y j).2->n+aL (Af f p n base x y j).2<1000 ->
    Fg L pick n (Af f p n base x y j).1 (Af f p n base x y j).2 (Oa (base.take j)+wG x j+wG y j) D
  | 0,_,_,_=>Fg.nil.mono (bZ _)<|gQ _
  | j + 1, hj, hc, hn => by
    rw[Af]at hc hn ⊢;have el:∀A B C:List Cf,aL (A++B++C)=aL A+aL B+aL C:=λA B C=>by rw[dQ,dQ]
    simp only at hn hc;rw[el]at hn;have i1:=ZB (n:=n) H hx hy HR j fX hc.left.left fX;have dp:∀{u:List Tree},(∀z∈u,Db z<=D)->Ya u<=D:=fun {u}=>by
      induction u with
      | nil=>intro _;simp[Ya]
      | cons a u ih=>intro h;rw[Ya];have:=h a Ca;have:=ih λz hz=>h z qA;omega
    have q:=K_ (L:=L) (pick:=pick) (p:=p) (g:=j) (n:=n+aL (Af f p n base x y j).2) (u:=x.put j) (v:=y.put j) (D:=D) (λz hz=>(hx z<|Bg hz).1) (λz hz=>(hy z<|Bg hz).1) (dp λz hz=>(hx z<|Bg hz).2) (dp λz hz=>(hy z<|Bg hz).2) hc.left.right fX<|HR _ _ fX;have hr:=hc.right;have h:=H (Lib.itoa j) (n+((Af f p n base x y j).2++(Jf p j (n+aL (Af f p n base x y j).2) (x.put j)<|y.put j).2).length) j fX hr (by rw[dQ]at *;omega);refine ((i1.append q).append h.row).mono ?_ (gQ _);rw[wG,wG,D3 _ _ fX,List.getElem?_eq_getElem fX];simp only[Ge];omega
end
def Fo.mono{L:List Cf}{pick:List Int}{n:Nat}{D:Nat}(h:Fo L pick n a S D)(hs:S<=S')(hd:D<=D'):Fo L pick n a S' D' :=
  ⟨h.holes,λv hv hh=>by obtain⟨h1,h2,h3⟩:=h.val v hv hh;exact⟨h1,by_Om,by_Om⟩,h.five,h.none⟩
def Y2{x:Tree}:∀y∈x.items,Db y+1<=Db x:=λ_ hy=>Dt hy
theorem NH{L:List Cf}{pick:List Int}{rl:List Rl}:∀(F:Nat)(p:List Str)(n:Nat)(b l r:Option Tree)(D:Nat),RigO b->RigO l->RigO r->Yd l<F->Yd b<=D->Yd l<=D->Yd r<=D->Cx L n (Hf rl F p n b l r).2->n+aL (Hf rl F p n b l r).2<1000 ->
    Fo L pick n (Hf rl F p n b l r) (Ge b+Ge l+Ge r) D:=by
  intro F
  induction F with
  | zero=>grind
  | succ F ih =>
    intro p n b l r D hb hl hr dF db dl dr;by_cases c1:Ye l r=true
    ·grind [OY,Uy]
    by_cases c2 : Ye b l = true
    ·grind [at_r,Uy]
    by_cases c3 : Ye b r = true
    ·grind [XX,Uy]
    rw[JU c1 c2 c3];have con:∀b l r:Option Tree,RigO b->RigO l->RigO r->Yd b<=D->Yd l<=D->Yd r<=D->Cx L n (Tk p (Nj b l r) n b l r).2->n+aL (Tk p (Nj b l r) n b l r).2<1000->Fo L pick n (Tk p (Nj b l r) n b l r) (Ge b+Ge l+Ge r) D:=by grind [GB,ZR]
    cases b with
    | none=>exact con _ _ _ hb hl hr db dl dr
    | some x =>
      cases l with
      | none=>exact con _ _ _ hb hl hr db dl dr
      | some y =>
        cases r with
        | none=>exact con _ _ _ hb hl hr db dl dr
        | some z =>
          have hx:=hb x rfl;have hy:=hl y rfl;have hz:=hr z rfl;have con1:∀k:Int,1<=k->k<=6->k≠5->Cx L n (Tk p k n (some x) (some y)<|some z).2->n+aL (Tk p k n (some x) (some y)<|some z).2<1000->Fo L pick n (Tk p k n (some x) (some y)<|some z) (Ge (some x)+Ge (some y)+Ge (some z)) D:=λk k1 k2 k3=>GB hb hl hr k1 k2 k3 db dl dr;simp only[Yd]at dF db dl dr;simp only[Zq];by_cases c4:x.kind=y.kind/\x.kind=z.kind
          ·rw[uQ c4]
           by_cases c5:x.kind=6
           ·rw[uQ c5]
            intro hc hn;unfold GI at hc hn ⊢;simp only at hc hn ⊢;have hnd:=Id [y.keys,z.keys];obtain⟨g1,g2⟩:=H0 (L:=L) (pick:=pick) (n:=n) (ks:=Uc [y.keys,z.keys]) (D:=D-1) (gb:=Qd x) (gl:=Qd y) (gr:=Qd z) (λk m=>ih (p++[k]) m (Qd x k) (Qd y k) (Qd z k) (D-1) (OF hx k) (OF hy k) (OF hz k) (by have:=Sn y k;omega) (by have:=Sn x k;omega) (by have:=Sn y k;omega) (by have:=Sn z k;omega)) _ (gQ _) hc hn;rw[List.take_length]at g1;have s1:=Gk hnd x;have s2:=Gk hnd y;have s3:=Gk hnd z;have hsub:=Oi (f:=λk m=>Hf rl F (p++[k]) m (Qd x k) (Qd y k)<|Qd z k) (n:=n) (ks:=Uc [y.keys,z.keys]) _<|gQ _;rw[List.take_length]at hsub;refine fo_obj g1 g2 (hnd.sublist hsub) (λk hk=>?_) wW (by have:=Ll x;omega);have hin:=hsub.subset hk;unfold Uc at hin;rw[Tq]at hin;simp only[List.not_mem_nil,List.flatten_cons,List.flatten_nil,qQ,mQ,false_or]at hin;rcases hin with hin|hin
            ·exact YS (Pn hy) (by rw[<-c4.1];exact c5) _ hin
            exact YS (Pn hz) (by rw[<-c4.2];exact c5) _ hin
           rw[tQ c5];by_cases c6:x.kind=5
           ·rw[uQ c6]
            have hgap:Cx L n (Lh.gapM (Hf rl F) p n x y z).2->n+aL (Lh.gapM (Hf rl F) p n x y z).2<1000->Fo L pick n (Lh.gapM (Hf rl F) p n x y z) (Ge (some x)+Ge (some y)+Ge (some z)) D:=by
              unfold Lh.gapM;by_cases c7:Pe x.items=0/\Pe y.items=0/\Pe z.items=0
              ·rw[uQ c7]
               intro hc hn;unfold N2 at hc hn ⊢;simp only at hc hn ⊢;have it:∀{v:Tree},Eb v=true->Db v<=D->∀w∈v.items,Zb rnodeB w=true/\Db w<=D-1:=fun {v} hv hd w hw=>⟨(Bool.and_eq_true_iff.1<|Ql hv w hw).2,by have:=Y2 w hw;omega⟩;have dp:∀{u:List Tree},(∀z∈u,Db z<=D-1)->Ya u<=D-1:=fun {u}=>by
                 induction u with
                 | nil=>intro _;simp[Ya]
                 | cons a u ih=>intro h;rw[Ya];have:=h a Ca;have:=ih λz hz=>h z qA;omega
               have hrg:∀g m,g<=aL x.items->∀c∈(Jf p g m ((Ec x.items y.items).put g)<|(Ec x.items z.items).put g).2,CfR c:=λg m hg=>putM_rig hy hz (λw hw=>Bg hw) (λw hw=>Bg hw) (Bu _ _ hg)<|Bu _ _ hg;rw[dQ]at hn;have g1:=ZB (L:=L) (pick:=pick) (n:=n) (base:=x.items) (x:=Ec x.items y.items) (y:=Ec x.items z.items) (D:=D-1)
                 (λs m k hk=>ih (p++[s]) m _ _ _ (D-1) (λw hw=>Ql hx w<|List.mem_of_getElem? hw) (λw hw=>Ql hy w<|Xr hw) (λw hw=>Ql hz w<|Xr hw)
                   wN
                   (by rw[List.getElem?_eq_getElem hk];have:=Y2 (x:=x) _<|eQ hk;simp only[Yd];omega)
                   wN (by have:=M1 (k:=0) (t:=[]) (ks:=[]) (base:=x.items) z k;omega))
                 (it hy dl) (it hz dr) (λg m hg=>hrg g m fX) (aL x.items) (gQ _) hc.left fX
               have g2:=K_ (L:=L) (pick:=pick) (p:=p) (g:=aL x.items) (n:=n+(Af (Hf rl F) p n x.items (Ec x.items y.items) (Ec x.items z.items) (aL x.items)).2.length) (u:=(Ec x.items y.items).put (aL x.items)) (v:=(Ec x.items z.items).put (aL x.items)) (D:=D-1)
                 (λw hw=>(it hy dl w<|Bg hw).1) (λw hw=>(it hz dr w<|Bg hw).1) (dp λw hw=>(it hy dl w<|Bg hw).2) (dp λw hw=>(it hz dr w<|Bg hw).2) hc.right fX (hrg _ _<|gQ _)
               have h3:=Nh x.items y.items (aL x.items)<|gQ _;have h4:=Nh x.items z.items (aL x.items)<|gQ _;rw[uQ rfl]at h3 h4;rw[List.take_length]at g1;have h5:∀v:Tree,Oa v.items+1=Ja v:=λv=>by cases v;rw[Ja];simp only[Tree.items];omega
               have h6:=h5 x;have h7:=h5 y;have h8:=h5 z;exact fo_arr (g1.append g2) wW (by have:=Ll x;omega)
              rw[tQ c7];exact con1 1 Pa Pa Pa
            rw[Lh];cases Vi rl p with
            | none=>exact hgap
            | some key =>
              simp only;by_cases c8:XN key x y z=true
              ·rw[uQ c8]
               unfold Bx;simp only;cases ho:Mg (Ob x key) (Ob y key) (Ob z key) ((Df (λid m=>Hf rl F (p++[Zo id]) m (Xb x key id) (Xb y key id)<|Xb z key id) n (Uc [Ob y key,Ob z key]) (aL (Uc [Ob y key,Ob z key]))).1.map (·.1))with
               | none=>exact con1 6 Pa Pa Pa
               | some o =>
                 intro hc hn;simp only at hc hn ⊢;have hnd:=Id [Ob y key,Ob z key];obtain⟨g1,-⟩:=H0 (L:=L) (pick:=pick) (n:=n) (ks:=Uc [Ob y key,Ob z key]) (D:=D-1) (gb:=Xb x key) (gl:=Xb y key) (gr:=Xb z key) (λk m=>ih (p++[Zo k]) m (Xb x key k) (Xb y key k) (Xb z key k) (D-1) (J6 hx key k) (J6 hy key k) (J6 hz key k) (by have:=Yl y key k;omega) (by have:=Yl x key k;omega) (by have:=Yl y key k;omega) (by have:=Yl z key k;omega)) _ (gQ _) hc hn;rw[List.take_length]at g1;have s1:=Gi hnd x key;have s2:=Gi hnd y key;have s3:=Gi hnd z key;have hsub:=Oi (f:=λk m=>Hf rl F (p++[Zo k]) m (Xb x key k) (Xb y key k)<|Xb z key k) (n:=n) (ks:=Uc [Ob y key,Ob z key]) _<|gQ _;rw[List.take_length]at hsub;have d1:=hnd.sublist hsub;have p1:=(Mw ho).map (Wm (Df (λid m=>Hf rl F (p++[Zo id]) m (Xb x key id) (Xb y key id)<|Xb z key id) n (Uc [Ob y key,Ob z key]) (aL (Uc [Ob y key,Ob z key]))).1);rw[I6 _ d1]at p1;exact fo_arr (g1.perm p1) wW (by have:=Ll x;omega)
              rw[tQ c8];exact hgap
           rw[tQ c6];exact con1 1 Pa Pa Pa
          rw[tQ c4];exact con1 2 Pa Pa Pa
theorem E7{n:Nat}:∀{m:Nat},n+m<1000->(It n m).Nodup
  | 0,_=>List.nodup_nil
  | m + 1, h => by
    have ih:=E7 (n:=n) (m:=m) fX;rw[MG];refine FU ih (by simp[It]) λa ha hb=>?_;unfold It at ha hb;obtain⟨i,hi,rfl⟩:=nQ.1 ha;obtain⟨j,hj,e⟩:=nQ.1 hb;have hi':=List.mem_range.1 hi;have hj':=List.mem_range.1 hj;have:=numS_inj fX fX e;omega
theorem Ks:∀{l:List Str},l.Nodup->l.eraseDups=l
  | [],_=>rfl
  | a :: l, h => by
    rw[List.nodup_cons]at h;rw[List.eraseDups_cons];have:l.filter (λb=>!b==a)=l:=List.filter_eq_self.2 λb hb=>by
      simp only[Bool.not_eq_true',beq_eq_false_iff_ne,ne_eq];exact λe=>h.1<|e▸hb
    rw[this,Ks h.2]
def no_holes(x:Tree):Zb nodeB x=true->Xc x=[]->Zb rnodeB x=true:=Tree.ind (Q:=λx=>Zb nodeB x=true->Xc x=[]->Zb rnodeB x=true) (λk t ks xs ih h hh=>by
  obtain⟨h1,h2⟩:=Sc h;rw[Xc]at hh;obtain⟨h3,h4⟩:=List.append_eq_nil_iff.1 hh;have hk:k≠7:=λe=>by rw[uQ e]at h3;cases h3
  rw[Wd,List.flatMap_eq_nil_iff]at h4;rw[Zb,Ko λx hx=>ih x hx (h2 x hx)<|h4 x hx,Bool.and_true];show (decide (k≠7)&&nodeB (.node k t ks xs))=true;rw[h1,eZ hk];rfl) x
theorem fitC_rig{c:Cf}(h:CfR c):Z3 c=true:=by
  have one:∀{s:Sd},SdR s->(c.cls=5->s.val.kind=5)->Aw s c.cls=true:=fun {s} hs h5=>by
    unfold Aw;rcases hs with rfl|⟨h1,h2⟩
    ·rfl
    rw[h1, h2];by_cases e:c.cls=5
    ·simp[h5 e]
    simp[e]
  obtain⟨h1,h2,h3,h4,-⟩:=h;unfold Z3;grind
theorem KM{rl:List Rl}{b l r v:Tree}{c:List Cf}{pick:List Int}(hsz:Ja b+Ja l+Ja r<1000)(h:Ig rl b l r=(v,c,0))(hp:aL pick=aL c)(hpk:∀i<aL c,0<=pick.getD i 0/\pick.getD i 0<=2) :
    ∃w,Ai v c pick=(w,0)/\Eb w=true/\(c=[]->w=v):=by
  by_cases hk:ZM rl b l r
  ·have h' := h
   rw[Rj hk]at h';have rO:∀{x:Tree},Eb x=true->RigO (some x):=λh y e=>by obtain rfl:=lQ e;exact h
   have hb:=rO hk.1;have hl:=rO hk.2.1;have hr:=rO hk.2.2.1;have db:=Ve hk.1;have dl:=Ve hk.2.1;have dr:=Ve hk.2.2.1;have hcnt:=Am (rl:=rl) (39+1) [] 0 (some b) (some l)<|some r;have hrig:=IR (rl:=rl) (39+1) [] 0 (some b) (some l) (some r) hb hl hr;have hfill:=NH (L:=c) (pick:=pick) (rl:=rl) (39+1) [] 0 (some b) (some l) (some r) 32 hb hl hr (Nat.lt_of_le_of_lt dl fX) db dl dr;obtain⟨u,hu⟩:=NI (rl:=rl) (39+1) [] 0 (some b) l r;have hsome:∀x,(Hf rl (39+1) [] 0 (some b) (some l)<|some r).1=some x->(Cc c pick x).has=true\/(0<=Dd x/\(Hf rl (39+1) [] 0 (some b) (some l)<|some r).2=[⟨[],1,Ee<|some b,Ee<|some l,Ee<|some r⟩]\/(Hf rl (39+1) [] 0 (some b) (some l)<|some r).2=[⟨[],2,Ee<|some b,Ee<|some l,Ee<|some r⟩]\/(Hf rl (39+1) [] 0 (some b) (some l)<|some r).2=[⟨[],6,Ee<|some b,Ee<|some l,Ee<|some r⟩]):=by
     intro x hx;by_cases h0:0<=Dd x
     ·by_cases c1 : Ye (some l) (some r) = true
      ·rw[OY c1]at hx
       obtain rfl:=lQ hx;have:=(Jh (L:=c) (pick:=pick) l (Bool.and_eq_true_iff.1 hk.2.1).2).2.2;omega
      by_cases c2 : Ye (some b) (some l) = true
      ·rw[at_r c1 c2]at hx
       obtain rfl:=lQ hx;have:=(Jh (L:=c) (pick:=pick) r (Bool.and_eq_true_iff.1 hk.2.2.1).2).2.2;omega
      by_cases c3 : Ye (some b) (some r) = true
      ·rw[XX c1 c2 c3]at hx
       obtain rfl:=lQ hx;have:=(Jh (L:=c) (pick:=pick) l (Bool.and_eq_true_iff.1 hk.2.1).2).2.2;omega
      rw[JU c1 c2 c3]at hx ⊢;simp only[Zq]at hx ⊢;have arr5:∀xs,Dd (.node 5 [] [] xs) = -1:=by grind [Dr]
      have arr6:∀ks xs,Dd (.node 6 [] ks xs) = -1:=by grind [Dr]
      split at hx
      ·rename_i c4
       rw[uQ c4];split at hx
       ·obtain rfl := lQ hx
        grind
       rename_i c5
       rw[tQ c5];split at hx
       ·rename_i c6
        rw[uQ c6];have hgap:(Lh.gapM (Hf rl 39) [] 0 b l r).1=some x->(Lh.gapM (Hf rl 39) [] 0 b l r).2=[⟨[],1,Ee<|some b,Ee<|some l,Ee<|some r⟩]:=by
          unfold Lh.gapM;split
          ·intro hx
           obtain rfl:=lQ hx;grind
          intro _;rfl
        rw[Lh]at hx ⊢;generalize Vi rl []=o at hx ⊢;cases o with
        | none=>exact .inr<|.inl ⟨h0,hgap hx⟩
        | some key =>
          simp only at hx ⊢;split at hx
          ·rename_i c8
           rw[uQ c8];unfold Bx at hx ⊢;simp only at hx ⊢;split at hx
           ·obtain rfl := lQ hx
            rw[arr5]at h0;omega
           exact .inr<|.inr<|.inr O
          rename_i c8
          rw[tQ c8];exact .inr<|.inl ⟨h0,hgap hx⟩
       rename_i c6
       rw[tQ c6];exact .inr<|.inl ⟨h0,O⟩
      rename_i c4
      rw[tQ c4];exact .inr<|.inr<|.inl O
     left;obtain⟨k,t,ks,xs⟩:=x;rw[Cc,tQ h0]
   generalize Hf rl (39+1) [] 0 (some b) (some l) (some r)=q at h' hcnt hrig hfill hu hsome;obtain⟨q1,q2⟩:=q;simp only at hu;subst hu;unfold S9 at h';simp only[Option.getD_some]at h';split at h'
   ·rename_i ho
    simp only[Prod.mk.injEq,and_true]at h';obtain⟨rfl,rfl⟩:=h';simp only[Ge]at hcnt;have hf:=hfill (λi x hx=>by rw[Nat.zero_add];exact hx) (by simp only[Nat.zero_add];omega);have hh:(Cc q2 pick u).has=true:=by
      rcases hsome u rfl with h1|h1
      ·exact h1
      have hq:∃k:Int,q2=[⟨[],k,Ee<|some b,Ee<|some l,Ee<|some r⟩]:=by
        rcases h1 with ⟨_,h1⟩|h1|h1
        ·exact⟨_,h1⟩
        ·exact⟨_,h1⟩
        exact⟨_,h1⟩
      obtain⟨k,hq⟩:=hq;by_cases h0:0<=Dd u
      ·obtain⟨k', t', ks', xs'⟩ := u
       rw[Cc,uQ h0];have hp0:=hpk 0 (by rw[hq];simp);have hhol:=hf.holes _ rfl;have hz:(Dd<|.node k' t' ks' xs').toNat=0:=by
         have h7:k'=7:=by
           by_cases e:k'=7
           ·exact e
           rw[Dr e]at h0;omega
         subst h7;rw[hq]at hhol;rw[Xc,uQ rfl]at hhol;have hm:t'∈It 0 1:=hhol.mem_iff.1 Ca;have ht:t'=Sj 0:=by simpa[It]using hm
         have hx0:Dd (.node 7 t' ks' xs')=Dd (Sh 0):=by rw[ht];rfl
         rw[hx0,Vo fX];rfl
       unfold Qm Fh;rw[hz,hq];have e0:pick.getD 0 0=0\/pick.getD 0 0=1\/pick.getD 0 0=2:=by_Om
       simp only[List.getD_cons_zero];rcases e0 with e|e|e <;> rw[e] <;> rfl
      obtain⟨k', t', ks', xs'⟩ := u;rw[Cc,tQ h0]
    obtain⟨v1,v2,v3⟩:=hf.val u rfl hh;have hw:Eb (Cc q2 pick u).val=true:=by
      unfold Eb Um;simp only[vQ,wQ];simp only[Ge]at v2;exact⟨⟨by_Om,v3⟩,v1⟩
    refine⟨(Cc q2 pick u).val,?_,hw,λh0=>?_⟩
    ·have hhol := hf.holes u rfl
     have hnd:(It 0 (aL q2)).Nodup:=E7 fX;have hnd2:(Xc u).Nodup:=hhol.nodup_iff.2 hnd;have hgood:Do u q2 pick=true:=by
       unfold Do;rw[Ks hnd2,hhol.length_eq];simp only[vQ,wQ,List.all_eq_true];refine⟨hp.symm,by simp[It],λi hi=>?_⟩;have hi':=List.mem_range.1 hi;have e:q2.getD i Qy=q2[i]:=by simp[List.getD,hi']
       refine⟨?_,?_,?_⟩
       ·rw[hhol.count_eq, List.Nodup.count hnd, uQ]
        unfold It;exact nQ.2 ⟨i,hi,by rw[Nat.zero_add]⟩
       ·rw[e]
        exact fitC_rig<|hrig _<|eQ _
       have := hpk i hi';unfold Fh;split
       ·rfl
       split
       ·rfl
       rw[uQ fX]
     unfold Ai;rw[uQ ⟨ho,hgood⟩];simp only[hh,if_true,hw]
    subst h0;have hhol:=hf.holes u rfl;have:Zb rnodeB u=true:=no_holes u (Aj ho)<|List.eq_nil_of_length_eq_zero hhol.length_eq;rw[(Jh (L:=[]) (pick:=pick) u this).1]
   exact absurd h' Ca
  rw[Nn hk]at h;exact absurd h Ca
end Go.Scarf
