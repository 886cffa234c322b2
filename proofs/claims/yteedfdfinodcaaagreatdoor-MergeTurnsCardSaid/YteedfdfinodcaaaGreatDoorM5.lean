/- A part of the proof. -/
import Derived.Test.YteedfdfinodcaaaGreatDoorMg5
set_option linter.all false
set_option maxHeartbeats 8000000
set_option maxRecDepth 10000
set_option synthInstance.maxHeartbeats 0
set_option synthInstance.maxSize 9999
namespace Go.Scarf
open List renaming length->aL
open Go.RowKit Go.Proofs Go.Proofs.Tryz
variable {a o:Option Tree}{S:Nat->Prop}{q:Sv}{j n:Nat}{cs:List Value}{A:Option Addr}{u:World}
def TinyT(x:Tree):Prop:=Ob x=true/\Ka x<=256/\Kb x<=16777216
def TinyO(o:Option Tree):Prop:=∀x,o=some x->TinyT x
def TinyT.ok{x:Tree}(h:TinyT x):SdOk ⟨true,x⟩:=⟨fQ h.2.1 kX,Ef x<|fQ h.2.2 kX⟩
def TinyO.ok(h:TinyO o):SdOk (Ni o):=by
  cases o with
  | none=>exact noS_ok
  | some x=>exact (h x rfl).ok
def TinyT.kid{x y:Tree}(h:TinyT x)(hy:y∈x.items):TinyT y:=by
  obtain⟨k,t,ks,xs⟩:=x;have hy':y∈xs:=hy;have h1:=Kd hy';have h2:=Vd hy';obtain⟨a,b,c⟩:=h;rw[Ka]at b;rw[Kb]at c;exact⟨T5 a hy',by_Om,by_Om⟩
def TinyT.mem{x:Tree}(h:TinyT x)(k:Str):TinyO (Hd x k):=λ_ hy=>h.kid<|Oo hy
def TinyT.item{x:Tree}(h:TinyT x)(key id:Str):TinyO (Pb x key id):=λ_ hy=>h.kid<|Pl hy
theorem TinyT.key{x:Tree}(h:TinyT x):∀k∈x.keys,aL k<=16777216:=by
  obtain⟨k,t,ks,xs⟩:=x;intro s hs;have h1:=Hi (show s∈ks from hs);have h2:=h.2.2;grind [Kb]
def QJ{b:Option Tree}(ha:TinyO a)(hb:TinyO b):DF (Ni a) (Ni b)=Ih a b:=by
  cases a with
  | none=>cases b <;> rfl
  | some x =>
    cases b with
    | none=>rfl
    | some y=>simp[DF,Ni,Ih,Hw (ha x rfl).1 (hb y rfl).1]
def G4(ha:TinyO a):Ro (Ni a)=Ni a:=by
  cases a with
  | none=>rfl
  | some x=>simp[Ro,Ni,Jq (ha x rfl).1]
theorem clsZ_O(a b c:Option Tree):W7 (Ni a) (Ni b) (Ni c)=Wj a b c:=by
  cases a with
  | none=>simp[W7,Wj,Ni,noS]
  | some x =>
    cases b with
    | none=>simp[W7,Wj,Ni,noS]
    | some y =>
      cases c with
      | none=>simp[W7,Wj,Ni,noS]
      | some z=>grind [W7,Wj,Ni]
structure In (rl:List Rl) (i:List Nat) (w0:World) (sm:List (Nat × Obj)) (pb:Nat) (RV:Value) (cfs:List Cf) (path:List Str) (PA:Option Addr) (pc:Nat) (b l r:Option Tree) (x y z:Sv):Prop where
  mi:Mi i w0 sm pb RV cfs
  g:Gl w0
  pth:∃S,Off S w0 sm/\Rep S w0 (Ya path) [.slice PA (aL path) pc]
  tri:∃S,Off S w0 sm/\Rep S w0 (Ur (Ni b) (Ni l) (Ni r)) (th x y z)
  rul:∃S,Off S w0 sm/\Rep S w0 (Co rl) [RV]
  tb:TinyO b
  tl:TinyO l
  tr:TinyO r
  cnt:aL cfs+Af l+Af r<1000
  ptx:∀s∈path,aL s<=1000000000000000
def Out(i:List Nat)(w0:World)(sm:List (Nat × Obj))(pb:Nat)(RV:Value)(cfs:List Cf)(mo:Mo)(v:Value)(w':World):Prop :=
  ∃(sm':List (Nat × Obj))(q:Sv),v=.agg q.cells.toArray/\Rep (Nq w0 sm' w') w' (Xc (Ni mo.1)) q.cells/\Mo' i w0 sm w' sm' pb RV (cfs++mo.2)
def AtC(rl:List Rl)(F:Nat):Prop:=∀(i:List Nat)(w0:World)(sm:List (Nat × Obj))(pb:Nat)(RV:Value)(cfs:List Cf)(path:List Str)(PA:Option Addr)(pc:Nat)(b l r:Option Tree)(x y z:Sv),
  In rl i w0 sm pb RV cfs path PA pc b l r x y z->Ic l<F->aL path+F<=900 ->
  Calls prog 23 #[V pb,.slice PA (aL path) pc,.agg (th x y z).toArray] w0 (Qb λv w'=>Out i w0 sm pb RV cfs (Je rl F path (aL cfs) b l r) v w')
def MtC(fn:Nat)(rl:List Rl)(F:Nat)(kd:Int)(f:List Str->Nat->Tree->Tree->Tree->Mo):Prop:=∀(i:List Nat)(w0:World)(sm:List (Nat × Obj))(pb:Nat)(RV:Value)(cfs:List Cf)(path:List Str)(PA:Option Addr)(pc:Nat)(b l r:Tree)(x y z:Sv),
  In rl i w0 sm pb RV cfs path PA pc (some b) (some l) (some r) x y z->b.kind=kd->l.kind=kd->r.kind=kd->¬We l r=true->Cb l<=F->aL path+F<=899 ->
  Calls prog fn #[V pb,.slice PA (aL path) pc,.agg (th x y z).toArray] w0 (Qb λv w'=>Out i w0 sm pb RV cfs (f path (aL cfs) b l r) v w')
theorem getT_c(x:Tree)(key:Str)(hsz:Ka x<=1000000000)(S:Nat->Prop)(w0:World)(cs:List Value)(hR:Rep S w0 (Ta x) cs)(hk:Sz x)(hG:Gl w0):Calls prog 78 #[.agg cs.toArray,I key] w0 (Qb λv w'=>∃ct:List Value,v=.tuple #[.agg ct.toArray,.bool (Xi x key).2]/\Rep (Btw w0 w') w' (Ta (Xi x key).1) ct/\Same [] w0 w'):=by
  obtain⟨k,t,ks,xs⟩:=x;grind [getV_c]
theorem XW(x:Tree)(key id:Str):(Iq x key id).2=(Pb x key id).isSome/\(Iq x key id).1=(Pb x key id).getD zeroT:=by grind [Pb,Iq]
theorem part_obj(t:Tree)(k:Str)(x:Tv)(kb:Nat)(S:Nat->Prop)(w0:World)(hX:Rep S w0 (Ta t) x.cells)(hkb:w0.cell? ⟨kb,0,none⟩=some (I k))(hsz:Ka t<=1000000000)(hok:Sz t)(ho:Fd t=true)(h6:t.kind=6)(hG:Gl w0):Calls prog 77 #[.agg x.cells.toArray,V kb] w0 (Qb λv w'=>∃q:Tv,v=.tuple #[.agg q.cells.toArray,.bool (Hd t k).isSome]/\Rep (Btw w0 w') w' (Ta ((Hd t k).getD zeroT)) q.cells/\Same [] w0 w'):=by
 refine Ga func77 ntmps77 ?_;intro hF;refine rn 3 ?_;rintro b1 w hb1 hF -;refine rn 1 ?_;rintro b2 w hb2 hF -;refine rn 6<|Ca (v:=I k) (Ma sZ<|hF.cell0 hkb) ?_;refine Gc (getT_c t k hsz _ _ x.cells (hF.rep hX) hok<|hG.ext hF.same) ?_;rintro _ w ⟨ct,rfl,hRt,hE⟩;rw[MG ho h6]at hRt;simp only[MG ho h6];obtain⟨q,rfl,-⟩:=Hk hRt;have hRX:=RX.made (ids:=[b2,b1]) hF.same.size (λx hx=>hF.lt_ids qK) hRt;have hF:=hF.ext hE;clear hE hRt;refine rn 3 ?_;intro w hF hE;have hRX:=hRX.store hE qK;refine rn 4 ?_
 ·exact⟨q,O,hRX.done,hF.same⟩
theorem part_key(t:Tree)(key id:Str)(x:Tv)(kb jb:Nat)(S:Nat->Prop)(w0:World)(hX:Rep S w0 (Ta t) x.cells)(hkb:w0.cell? ⟨kb,0,none⟩=some (I key))(hjb:w0.cell? ⟨jb,0,none⟩=some (I id))(hsz:Ka t<=1000000000)(hm:Kb t<=1073741824)(hG:Gl w0):Calls prog 105 #[.agg x.cells.toArray,V kb,V jb] w0 (Qb λv w'=>∃q:Tv,v=.tuple #[.agg q.cells.toArray,.bool (Pb t key id).isSome]/\Rep (Btw w0 w') w' (Ta ((Pb t key id).getD zeroT)) q.cells/\Same [] w0 w'):=by
 refine Ga func105 ntmps105 ?_;intro hF;refine rn 3 ?_;rintro b1 w hb1 hF -;refine rn 1 ?_;rintro b2 w hb2 hF -;refine rn 6<|Ca (v:=I key) (Ma sZ<|hF.cell0 hkb)<|Ca (v:=I id) (Ma sZ<|hF.cell0 hjb) ?_;refine Gc (keyItem_c t key id hsz hm _ _ x.cells (hF.rep hX)<|hG.ext hF.same) ?_;rintro _ w ⟨ct,rfl,hRt,hE⟩;rw[(XW t key id).2]at hRt;simp only[(XW t key id).1];obtain⟨q,rfl,-⟩:=Hk hRt;have hRX:=RX.made (ids:=[b2,b1]) hF.same.size (λx hx=>hF.lt_ids qK) hRt;have hF:=hF.ext hE;clear hE hRt;refine rn 3 ?_;intro w hF hE;have hRX:=hRX.store hE qK;refine rn 4 ?_
 ·exact⟨q,O,hRX.done,hF.same⟩
def side_O{w:World}{q:Tv}(h:Rep S w (Ta (o.getD zeroT)) q.cells)(ho:o.isSome=true):Rep S w (Xc (Ni o)) (Sv.mk true q).cells:=by
  cases o with
  | none=>cases ho
  | some x=>exact Sj (s:=⟨true,x⟩) h
theorem side_N{w:World}(ho:¬o.isSome=true):Rep S w (Xc (Ni o)) (Sv.mk false YY).cells:=by
  cases o with
  | none=>exact L8
  | some x=>grind
theorem FB(t:Tree)(k:Str)(kb:Nat)(x:Sv)(fb:Nat)(S:Nat->Prop)(w0:World)(hX:Rep S w0 (Ta t) x.v.cells)(hkb:w0.cell? ⟨kb,0,none⟩=some (I k))(h6:t.kind=6)(hfb:w0.cell? ⟨fb,0,none⟩=some (.func (.func 77) #[] #[V kb]))(ht:TinyT t)(hG:Gl w0):Calls prog 100 #[.agg x.cells.toArray,V fb] w0 (Qb λv w'=>∃y:Sv,v=.agg y.cells.toArray/\Rep (Btw w0 w') w' (Xc (Ni (Hd t k))) y.cells/\Same [] w0 w'):=by
 refine Ga func100 ntmps100 ?_;intro hF;refine rn 3 ?_;rintro b1 w hb1 hF -;refine rn 1 ?_;rintro b2 w hb2 hF -;refine rn 5<|Ca (v:=.func (.func 77) #[] #[V kb]) (Ma isAgg105<|hF.cell0 hfb) ?_;refine rn 2<|Qd (part_obj t k x.v kb _ _ (hF.rep hX) (Same.cell hF.same hkb) ht.ok.sz ht.ok.ok (Gj ht.1) h6<|hG.ext hF.same) (Ze O en_77 O O) ?_;rintro _ w ⟨q,rfl,hRt,hE⟩;have hRX:=RX.made (ids:=[b2,b1]) hF.same.size (λx hx=>hF.lt_ids qK) hRt;have hF:=hF.ext hE;clear hE hRt;refine rn 4 ?_;intro b3 w hb3 hF hE;have hRX:=hRX.alloc hE hb3;refine rn 9 ⟨λhc0=>?_,λhc0=>?_⟩;refine rn 3<|Sa (Jo q) ?_;intro w hF hE;have hRX:=hRX.ext hE;refine rn 1 ?_;intro w hF hE;have hRX:=hRX.store hE qK;refine rn 3 ?_
 ·exact⟨⟨true,q⟩,O,side_O hRX.done hc0,hF.same⟩
 refine rn 4<|Ca (w':=w) (v:=.agg #[.bool false,J 0,I [],aQ,aQ]) Gb ?_;refine rn 1 ?_;intro w hF hE;have hRX:=hRX.store hE qK;refine rn 3 ?_;exact⟨⟨false,YY⟩,O,side_N wV,hF.same⟩
theorem YK(b l r:Tree)(k:Str)(kb:Nat)(x y z:Sv)(S:Nat->Prop)(w0:World)(hT:Rep S w0 (Ur ⟨true,b⟩ ⟨true,l⟩ ⟨true,r⟩) (th x y z))(hkb:w0.cell? ⟨kb,0,none⟩=some (I k))(h6b:b.kind=6)(h6l:l.kind=6)(h6r:r.kind=6)(hb:TinyT b)(hl:TinyT l)(hr:TinyT r)(hG:Gl w0):Calls prog 76 #[.agg (th x y z).toArray,.func (.func 77) #[] #[V kb]] w0 (Qb λv w'=>∃q0 q1 q2:Sv,v=.agg (th q0 q1 q2).toArray/\Rep (Btw w0 w') w' (Ur (Ni (Hd b k)) (Ni (Hd l k)) (Ni (Hd r k))) (th q0 q1 q2)/\Same [] w0 w'):=by
 obtain⟨hx_,hy_,hz_⟩:=Uk hT;have hx:=(Nc hx_).2.2.2.2;have hy:=(Nc hy_).2.2.2.2;have hz:=(Nc hz_).2.2.2.2;refine Ga func76 ntmps76 ?_;intro hF;refine rn 3 ?_;rintro b1 w hb1 hF -;refine rn 1 ?_;rintro b2 w hb2 hF -;refine rn 1 ?_;rintro b3 w hb3 hF -;refine rn 4<|Ca (v:=.func (.func 100) #[] #[V b2]) Jf ?_;refine rn 4<|Wd (zs:=.of [13]) (bQ [0,1,2,4,5,6,8,9,10]<|cQ [3,7,11]<|.free 12<|.act 13 .nil) hF ?_;intro w hF;refine rn 2 ?_;refine Fa O (v:=.agg (x.cells).toArray) (λw hC=>Pa (l:=x.cells) qZ vZ O O<|hC.part 2 0 O O)<|rn 2 ?_;refine Fa O (v:=.agg (y.cells).toArray) (λw hC=>Pa (l:=y.cells) qZ vZ O O<|hC.part 2 5 O O)<|rn 2 ?_;refine Fa O (v:=.agg (z.cells).toArray) (λw hC=>Pa (l:=z.cells) qZ vZ O O<|hC.part 2 10 O O)<|Kr O (FB b k kb x b2 _ _ (hF.rep hx) (Same.cell hF.same hkb) h6b (hF.cell 1 O O) hb<|hG.ext hF.same) (Ze O C5 O O) ?_;rintro _ w ⟨q0,rfl,hRt,hE⟩;have hY0:=RX.made (ids:=[b3,b2,b1]) hF.same.size (λx hx=>hF.lt_ids qK) hRt;have hF:=hF.ext hE;clear hE hRt;refine⟨hF,?_⟩;refine Kr O (FB l k kb y b2 _ _ (hF.rep hy) (Same.cell hF.same hkb) h6l (hF.cell 1 O O) hl<|hG.ext hF.same) (Ze O C5 O O) ?_;rintro _ w ⟨q1,rfl,hRt,hE⟩;have hY1:=RX.made (ids:=[b3,b2,b1]) hF.same.size (λx hx=>hF.lt_ids qK) hRt;have hF:=hF.ext hE;have hY0:=hY0.ext hE;clear hE hRt;refine⟨hF,?_⟩;refine Kr O (FB r k kb z b2 _ _ (hF.rep hz) (Same.cell hF.same hkb) h6r (hF.cell 1 O O) hr<|hG.ext hF.same) (Ze O C5 O O) ?_;rintro _ w ⟨q2,rfl,hRt,hE⟩;have hY2:=RX.made (ids:=[b3,b2,b1]) hF.same.size (λx hx=>hF.lt_ids qK) hRt;have hF:=hF.ext hE;have hY0:=hY0.ext hE;have hY1:=hY1.ext hE;clear hE hRt;refine⟨hF,?_⟩;refine Fa O (v:=.agg ((th q0 q1 q2)).toArray) (λw hC=>by kernel_rfl)<|rn 1 ?_;intro w hF hE;have hY0:=hY0.store hE qK
 have hY1:=hY1.store hE qK;have hY2:=hY2.store hE qK;refine rn 3 ?_
 ·exact⟨q0,q1,q2,O,Yn hY0.done hY1.done hY2.done,hF.same⟩
theorem T9(t:Tree)(key id:Str)(kb jb:Nat)(x:Sv)(fb:Nat)(S:Nat->Prop)(w0:World)(hX:Rep S w0 (Ta t) x.v.cells)(hkb:w0.cell? ⟨kb,0,none⟩=some (I key))(hjb:w0.cell? ⟨jb,0,none⟩=some (I id))(hfb:w0.cell? ⟨fb,0,none⟩=some (.func (.func 105) #[] #[V kb,V jb]))(ht:TinyT t)(hG:Gl w0):Calls prog 100 #[.agg x.cells.toArray,V fb] w0 (Qb λv w'=>∃y:Sv,v=.agg y.cells.toArray/\Rep (Btw w0 w') w' (Xc (Ni (Pb t key id))) y.cells/\Same [] w0 w'):=by
 refine Ga func100 ntmps100 ?_;intro hF;refine rn 3 ?_;rintro b1 w hb1 hF -;refine rn 1 ?_;rintro b2 w hb2 hF -;refine rn 5<|Ca (v:=.func (.func 105) #[] #[V kb,V jb]) (Ma isAgg105<|hF.cell0 hfb) ?_;refine rn 2<|Qd (part_key t key id x.v kb jb _ _ (hF.rep hX) (Same.cell hF.same hkb) (Same.cell hF.same hjb) ht.ok.sz (fQ ht.2.2 kX)<|hG.ext hF.same) (Ze O en_105 O O) ?_;rintro _ w ⟨q,rfl,hRt,hE⟩;have hRX:=RX.made (ids:=[b2,b1]) hF.same.size (λx hx=>hF.lt_ids qK) hRt;have hF:=hF.ext hE;clear hE hRt;refine rn 4 ?_;intro b3 w hb3 hF hE;have hRX:=hRX.alloc hE hb3;refine rn 9 ⟨λhc0=>?_,λhc0=>?_⟩;refine rn 3<|Sa (Jo q) ?_;intro w hF hE;have hRX:=hRX.ext hE;refine rn 1 ?_;intro w hF hE;have hRX:=hRX.store hE qK;refine rn 3 ?_
 ·exact⟨⟨true,q⟩,O,side_O hRX.done hc0,hF.same⟩
 refine rn 4<|Ca (w':=w) (v:=.agg #[.bool false,J 0,I [],aQ,aQ]) Gb ?_;refine rn 1 ?_;intro w hF hE;have hRX:=hRX.store hE qK;refine rn 3 ?_;exact⟨⟨false,YY⟩,O,side_N wV,hF.same⟩
theorem KO(b l r:Tree)(key id:Str)(kb jb:Nat)(x y z:Sv)(S:Nat->Prop)(w0:World)(hT:Rep S w0 (Ur ⟨true,b⟩ ⟨true,l⟩ ⟨true,r⟩) (th x y z))(hkb:w0.cell? ⟨kb,0,none⟩=some (I key))(hjb:w0.cell? ⟨jb,0,none⟩=some (I id))(hb:TinyT b)(hl:TinyT l)(hr:TinyT r)(hG:Gl w0):Calls prog 76 #[.agg (th x y z).toArray,.func (.func 105) #[] #[V kb,V jb]] w0 (Qb λv w'=>∃q0 q1 q2:Sv,v=.agg (th q0 q1 q2).toArray/\Rep (Btw w0 w') w' (Ur (Ni (Pb b key id)) (Ni (Pb l key id)) (Ni (Pb r key id))) (th q0 q1 q2)/\Same [] w0 w'):=by
 obtain⟨hx_,hy_,hz_⟩:=Uk hT;have hx:=(Nc hx_).2.2.2.2;have hy:=(Nc hy_).2.2.2.2;have hz:=(Nc hz_).2.2.2.2;refine Ga func76 ntmps76 ?_;intro hF;refine rn 3 ?_;rintro b1 w hb1 hF -;refine rn 1 ?_;rintro b2 w hb2 hF -;refine rn 1 ?_;rintro b3 w hb3 hF -;refine rn 4<|Ca (v:=.func (.func 100) #[] #[V b2]) Jf ?_;refine rn 4<|Wd (zs:=.of [13]) (bQ [0,1,2,4,5,6,8,9,10]<|cQ [3,7,11]<|.free 12<|.act 13 .nil) hF ?_;intro w hF;refine rn 2 ?_;refine Fa O (v:=.agg (x.cells).toArray) (λw hC=>Pa (l:=x.cells) qZ vZ O O<|hC.part 2 0 O O)<|rn 2 ?_;refine Fa O (v:=.agg (y.cells).toArray) (λw hC=>Pa (l:=y.cells) qZ vZ O O<|hC.part 2 5 O O)<|rn 2 ?_;refine Fa O (v:=.agg (z.cells).toArray) (λw hC=>Pa (l:=z.cells) qZ vZ O O<|hC.part 2 10 O O)<|Kr O (T9 b key id kb jb x b2 _ _ (hF.rep hx) (Same.cell hF.same hkb) (Same.cell hF.same hjb) (hF.cell 1 O O) hb<|hG.ext hF.same) (Ze O C5 O O) ?_;rintro _ w ⟨q0,rfl,hRt,hE⟩;have hY0:=RX.made (ids:=[b3,b2,b1]) hF.same.size (λx hx=>hF.lt_ids qK) hRt;have hF:=hF.ext hE;clear hE hRt;refine⟨hF,?_⟩;refine Kr O (T9 l key id kb jb y b2 _ _ (hF.rep hy) (Same.cell hF.same hkb) (Same.cell hF.same hjb) (hF.cell 1 O O) hl<|hG.ext hF.same) (Ze O C5 O O) ?_;rintro _ w ⟨q1,rfl,hRt,hE⟩;have hY1:=RX.made (ids:=[b3,b2,b1]) hF.same.size (λx hx=>hF.lt_ids qK) hRt;have hF:=hF.ext hE;have hY0:=hY0.ext hE;clear hE hRt;refine⟨hF,?_⟩;refine Kr O (T9 r key id kb jb z b2 _ _ (hF.rep hz) (Same.cell hF.same hkb) (Same.cell hF.same hjb) (hF.cell 1 O O) hr<|hG.ext hF.same) (Ze O C5 O O) ?_;rintro _ w ⟨q2,rfl,hRt,hE⟩;have hY2:=RX.made (ids:=[b3,b2,b1]) hF.same.size (λx hx=>hF.lt_ids qK) hRt;have hF:=hF.ext hE;have hY0:=hY0.ext hE;have hY1:=hY1.ext hE;clear hE hRt;refine⟨hF,?_⟩;refine Fa O (v:=.agg ((th q0 q1 q2)).toArray) (λw hC=>by kernel_rfl)<|rn 1 ?_
 intro w hF hE;have hY0:=hY0.store hE qK;have hY1:=hY1.store hE qK;have hY2:=hY2.store hE qK;refine rn 3 ?_
 ·exact⟨q0,q1,q2,O,Yn hY0.done hY1.done hY2.done,hF.same⟩
theorem FR.cellE{w0 w:World}{E:List Nat}{bs_:List (Nat × Obj)}(hF:FR w0 E bs_ w){a:Addr}{v:Value}(h:w0.cell? a=some v)(hb:a.block∉E):w.cell? a=some v:=by
  rw[<-h];exact World.cell?_of_block (w:=w0)<|hF.same.block _ (World.block_lt_of_cell? _ _ h) hb
section
variable {w0 w w':World}{i L:List Nat}{sm sm' bs_ pre post:List (Nat × Obj)}{pb:Nat}{RV:Value}{cfs cfs':List Cf}{rl:List Rl}{path:List Str}{PA:Option Addr}{pc:Nat}{b l r:Option Tree}{x y z:Sv}{mo:Mo}{v:Value}
theorem Mi.at(hM:Mi i w0 sm pb RV cfs)(hG:Gl w0)(hF:FR w0 (ids sm) bs_ w)(hL:∀x∈L,x∈bs_.map (·.1))(hsp:Spl bs_ pre sm post:=by repeat (first|exact Spl.z|apply Spl.c|apply Spl.a)):Mi (L++i) w sm pb RV cfs:=by
  have hl:∀x∈L,w0.heap.size<=x\/x∈i:=λx hx=>by
    obtain⟨q,hq,rfl⟩:=nQ.1<|hL x hx;rcases (hF.own q hq).2 with h|h
    ·exact .inl h
    exact .inr<|hM.sub _ h
  refine⟨hM.m.step hF.same hM.sub λx hx=>?_,hF.hh hsp,λx hx=>List.mem_append_right _<|hM.sub x hx,λx hx=>?_⟩
  ·grind
  rcases mQ.1 hx with h|h
  ·refine⟨?_, hF.lt_ids (hL x h)⟩
   rcases hl x h with h1|h1
   ·exact fQ hG.size h1
   exact (hM.low x h1).1
  exact⟨(hM.low x h).1,Nat.lt_of_lt_of_le (hM.low x h).2 hF.same.size⟩
def Out.keep(hM:Mi i w0 sm pb RV cfs)(hF:FR w0 (ids sm) bs_ w)(hq:RX w0 (L++i) w [Xc (Ni o)] q.cells)(hsp:Spl bs_ pre sm post:=by repeat (first|exact Spl.z|apply Spl.c|apply Spl.a)):Out i w0 sm pb RV cfs (o,[]) (.agg q.cells.toArray) w :=
  ⟨sm,q,rfl,hq.nq λx hx=>List.mem_append_right _<|hM.sub x hx,⟨by rw[qQ];exact hM.m.step hF.same hM.sub λx hx=>(mQ.1 hx).elim .inl λh=>.inl<|hM.sub x h,hF.hh hsp,hF.mc hsp⟩⟩
def Mc.trans{w1:World}{sm1:List (Nat × Obj)}(h1:Mc w0 sm w1 sm1)(h2:Mc w1 sm1 w' sm'):Mc w0 sm w' sm' :=
  ⟨⟨h2.same.os.trans h1.same.os,h2.same.tape.trans h1.same.tape,h2.same.output.trans h1.same.output,fQ h1.same.size h2.same.size,λb hb hn=>(h2.same.block b (Nat.lt_of_lt_of_le hb h1.same.size) (λhm=>by
      obtain⟨q,hq,rfl⟩:=nQ.1 hm;rcases h1.fresh q hq with h|h
      ·omega
      exact hn h)).trans (h1.same.block b hb hn)⟩,
    λq hq=>by
      rcases h2.fresh q hq with h|h
      ·exact .inl<|fQ h1.same.size h
      obtain⟨q', hq', e⟩ := nQ.1 h;rw[<-e];exact h1.fresh q' hq'⟩
theorem Out.pass{w1 w2:World}{L:List Nat}{mo':Mo}{bs2 pre2 post2:List (Nat × Obj)}(hM:Mi i w0 sm pb RV cfs)(hF:FR w0 (ids sm) bs_ w1)(hsp:Spl bs_ pre sm post)(hR:Rep (Nq w1 sm' w2) w2 (Xc (Ni mo.1)) q.cells)(hO:Mo' (L++i) w1 sm w2 sm' pb RV (cfs++mo.2))(hs:Same L w2 w)(hL:∀x∈L,x∈bs_.map (·.1))(hF2:FR w0 (ids sm) bs2 w)(hsp2:Spl bs2 pre2 sm' post2)(hm:mo'=mo):Out i w0 sm pb RV cfs mo' (.agg q.cells.toArray) w:=by
  subst hm;have hl:∀x∈L,x<w1.heap.size:=λx hx=>hF.lt_ids<|hL x hx;refine⟨sm',q,O,?_,⟨hO.m.step hs (λx hx=>by simp[hx]) λx hx=>.inl ?_,hF2.hh hsp2,hF2.mc hsp2⟩⟩
  ·have h1 : Rep (Nq w1 sm' w2) w (Xc<|Ni mo'.1) q.cells := hR.same hs λb hb hn => by have := hn.1.1;have := hl b hb;omega
   refine h1.weaken λb hb _=>?_;obtain⟨cs,T,hc⟩:=hb.1.2.2;exact⟨⟨fQ hF.same.size hb.1.1,Nat.lt_of_lt_of_le hb.1.2.1 hs.size,cs,T,(hs.block b hb.1.2.1 (λhm=>by have:=hb.1.1;have:=hl b hm;omega)).trans hc⟩,hb.2⟩
  grind
def In.off(h:In rl i w0 sm pb RV cfs path PA pc b l r x y z):∀x∈ids sm,8<=x:=λx hx=>(h.mi.low x<|h.mi.sub x hx).1
end
theorem cls_one{b l r:Option Tree}(h:Wj b l r=1):∃x y z,b=some x/\l=some y/\r=some z/\x.kind=y.kind/\x.kind=z.kind:=by
  cases b with
  | none=>simp[Wj]at h
  | some x =>
    cases l with
    | none=>simp[Wj]at h
    | some y =>
      cases r with
      | none=>simp[Wj]at h
      | some z=>grind [Wj]
theorem meet_con{rl:List Rl}{f:List Str->Nat->Option Tree->Option Tree->Option Tree->Mo}{p:List Str}{b l r:Option Tree}(h:Wj b l r≠1):Lo rl f p n b l r=Fj p (Wj b l r) n b l r:=by
  cases b with
  | none=>rfl
  | some x =>
    cases l with
    | none=>rfl
    | some y =>
      cases r with
      | none=>rfl
      | some z =>
        have hk:¬(x.kind=y.kind/\x.kind=z.kind):=λhk=>h<|uQ hk;show (if x.kind=y.kind/\x.kind=z.kind then _ else _)=Fj p (if x.kind=y.kind/\x.kind=z.kind then 1 else 2) n (some x) (some y) (some z);grind
theorem cls_le(b l r:Option Tree):0<=Wj b l r/\Wj b l r<=10:=by
  cases b with
  | none=>simp[Wj]
  | some x =>
    cases l with
    | none=>simp[Wj]
    | some y =>
      cases r with
      | none=>simp[Wj]
      | some z=>grind [Wj]
theorem In.at{w0 w:World}{i L:List Nat}{sm bs_ pre post:List (Nat × Obj)}{pb:Nat}{RV:Value}{cfs:List Cf}{rl:List Rl}{path:List Str}{PA:Option Addr}{pc:Nat}{b l r:Option Tree}{x y z:Sv}(h:In rl i w0 sm pb RV cfs path PA pc b l r x y z)(hF:FR w0 (ids sm) bs_ w)(hL:∀x∈L,x∈bs_.map (·.1))(hsp:Spl bs_ pre sm post:=by repeat (first|exact Spl.z|apply Spl.c|apply Spl.a)):In rl (L++i) w sm pb RV cfs path PA pc b l r x y z:=by
  obtain⟨S1,o1,r1⟩:=h.pth;obtain⟨S2,o2,r2⟩:=h.tri;obtain⟨S3,o3,r3⟩:=h.rul;exact⟨h.mi.at h.g hF hL hsp,h.g.same hF.same h.off,⟨S1,hF.offM o1 hsp,hF.repM o1 r1⟩,⟨S2,hF.offM o2 hsp,hF.repM o2 r2⟩,⟨S3,hF.offM o3 hsp,hF.repM o3 r3⟩,h.tb,h.tl,h.tr,h.cnt,h.ptx⟩
theorem RG{w0:World}{i:List Nat}{sm:List (Nat × Obj)}{pb:Nat}{RV:Value}{cfs:List Cf}{rl:List Rl}{path:List Str}{PA:Option Addr}{pc:Nat}{b l r:Option Tree}{x y z:Sv}(h:In rl i w0 sm pb RV cfs path PA pc b l r x y z)(cls:Int)(hc:0<=cls/\cls<=10:=by omega)(hp:aL path<=1000:=by omega) :
    Calls prog 45 #[V pb,.slice PA (aL path) pc,J cls,.agg (th x y z).toArray] w0 (Qb λv w'=>Out i w0 sm pb RV cfs (Fj path cls (aL cfs) b l r) v w'):=by
  obtain⟨S1,o1,r1⟩:=h.pth;obtain⟨S2,o2,r2⟩:=h.tri;have hcn:=h.cnt;refine Bk (Nz path cls (Ni b) (Ni l) (Ni r) x y z PA pc S1 S2 w0 sm pb RV cfs i h.mi o1 o2 r1 r2 h.tb.ok h.tl.ok h.tr.ok kX hp hc h.g) λv w' ⟨sm',hv,hO⟩=>?_;refine⟨sm',⟨true,7,Il (aL cfs),none,0,0,none,0,0⟩,hv,?_,?_⟩
  ·have hn := (U9 (show aL cfs<1000 by omega)).2.2.2
   exact Sj (s:=⟨true,Lj (aL cfs)⟩) (x:=⟨7,Il (aL cfs),none,0,0,none,0,0⟩)<|Rep.tree_mk ⟨by_Om,by_Om⟩ kX (Rep.nil_slice 0 kX none)<|Rep.nil_slice 0 kX none
  have e : (Fj path cls (aL cfs) b l r).2 = [⟨path, cls, Ro (Ni b), Ro (Ni l), Ro (Ni r)⟩] := by rw[G4 h.tb, G4 h.tl, G4 h.tr];rfl
  grind
def atcl_c{w0:World}{i:List Nat}{sm:List (Nat × Obj)}{pb:Nat}{RV:Value}{cfs:List Cf}{rl:List Rl}{path:List Str}{PA:Option Addr}{pc:Nat}{b l r:Option Tree}{x y z:Sv}(hI:In rl i w0 sm pb RV cfs path PA pc b l r x y z)(mb cb:Nat)(hmb:w0.cell? ⟨mb,0,none⟩=some (V pb))(hcb:w0.cell? ⟨cb,0,none⟩=some (J 1))(hme:mb∉ids sm)(hce:cb∉ids sm)(hpl:aL path<=1000):Calls prog 46 #[.slice PA (aL path) pc,.agg (th x y z).toArray,V mb,V cb] w0 (Qb λv w'=>Out i w0 sm pb RV cfs (Fj path 1 (aL cfs) b l r) v w'):=by
 refine Bc func46 ntmps46 O O ?_;have hF:FR w0 (ids sm) ([]++(sm++[])) w0:=hI.mi.start;refine rn 3 ?_;rintro b1 w hb1 hF -;refine rn 1 ?_;rintro b2 w hb2 hF -;refine rn 4<|Ca (v:=V pb) (Ma isAgg55<|hF.cellE hmb hme) ?_;refine rn 1<|Ca (v:=J 1) (Ma pZ<|hF.cellE hcb hce) ?_;refine rn 1<|Gc (RG (hI.at hF (L:=[b2,b1]) Da) 1 (hp:=hpl)) ?_;rintro _ w2 ⟨sm2,q,rfl,hR,hO⟩;have hFa:=hF;clear hF;have hF:=hFa.swapM hO.m hO.hh hO.mc;refine rn 1 ?_;intro w hF hE;have hS2:Same [b2,b1] w2 w:=hE.mono Da;refine rn 3 ?_;exact Out.pass hI.mi hFa qX hR hO hS2 Da hF qX rfl
theorem FR.newM{w0 w:World}{E:List Nat}{bs_:List (Nat × Obj)}(hF:FR w0 E bs_ w)(k:Nat){b:Nat}{o:Obj}(hk:bs_[k]? = some (b,o)){sm pre post:List (Nat × Obj)}(hsp:Spl bs_ pre sm post:=by repeat (first|exact Spl.z|apply Spl.c|apply Spl.a))(hp:k<aL pre:=by simp):b∉ids sm:=by
  have e:=hsp.eq;subst e;intro hm;obtain⟨q,hq,e⟩:=nQ.1 hm;obtain⟨j,hj,rfl⟩:=List.getElem_of_mem hq;refine Xt hF.desc hk (j:=aL pre+j) (q:=sm[j]) ?_ kX e.symm;grind
theorem TX(rl:List Rl)(F:Nat)(hobj:MtC 47 rl F 6 (L9 (Je rl F)))(harr:MtC 48 rl F 5 (Sf rl (Je rl F))):AtC rl (F+1):=by
 intro i w0 sm pb RV cfs path PA pc b l r x y z hI hdp hpn;obtain⟨S,hSo,hT⟩:=hI.tri;obtain⟨hx,hy,hz⟩:=Uk hT;refine Bc func23 ntmps23 O O ?_;have hF:FR w0 (ids sm) ([]++(sm++[])) w0:=hI.mi.start;refine rn 3 ?_;rintro b1 w hb1 hF -;refine rn 1 ?_;rintro b2 w hb2 hF -;refine rn 1 ?_;rintro b3 w hb3 hF -;refine rn 10<|Sa (Mk (V8 (Ni l) (Ni r) y z _ _ _ (hF.repM hSo hy) (hF.repM hSo hz) hI.tl.ok hI.tr.ok<|hI.g.same hF.same hI.off)<|xQ Value.bool<|QJ hI.tl hI.tr) ?_;rintro w hF -;refine rn 4 ⟨λhc0=>?_,λhc0=>?_⟩;refine rn 4<|Gc (Tl (Ni l) y _ (hF.repM hSo hy) hI.tl.ok<|hI.g.same hF.same hI.off) ?_;rintro _ w ⟨q,rfl,hRt,hE⟩;rw[G4 hI.tl]at hRt;have hQ:=RX.made (ids:=[b3,b2,b1]++i) hF.same.size (hF.ltD hI.mi.low Da) hRt;have hF:=hF.ext hE;clear hE hRt;refine rn 1 ?_;intro w hF hE;have hQ:=hQ.store hE qK;refine rn 3 ?_;rw[at_l hc0];exact Out.keep hI.mi hF hQ;refine rn 6<|Sa (Mk (V8 (Ni b) (Ni l) x y _ _ _ (hF.repM hSo hx) (hF.repM hSo hy) hI.tb.ok hI.tl.ok<|hI.g.same hF.same hI.off)<|xQ Value.bool<|QJ hI.tb hI.tl) ?_;rintro w hF -;refine rn 4 ⟨λhc1=>?_,λhc1=>?_⟩;refine rn 4<|Gc (Tl (Ni r) z _ (hF.repM hSo hz) hI.tr.ok<|hI.g.same hF.same hI.off) ?_;rintro _ w ⟨q,rfl,hRt,hE⟩;rw[G4 hI.tr]at hRt;have hQ:=RX.made (ids:=[b3,b2,b1]++i) hF.same.size (hF.ltD hI.mi.low Da) hRt;have hF:=hF.ext hE;clear hE hRt;refine rn 1 ?_;intro w hF hE;have hQ:=hQ.store hE qK;refine rn 3 ?_;rw[at_r wV hc1];exact Out.keep hI.mi hF hQ;refine rn 6<|Sa (Mk (V8 (Ni b) (Ni r) x z _ _ _ (hF.repM hSo hx) (hF.repM hSo hz) hI.tb.ok hI.tr.ok<|hI.g.same hF.same hI.off)<|xQ Value.bool<|QJ hI.tb hI.tr) ?_;rintro w hF -;refine rn 4 ⟨λhc2=>?_,λhc2=>?_⟩;refine rn 4<|Gc (Tl (Ni l) y _ (hF.repM hSo hy) hI.tl.ok<|hI.g.same hF.same hI.off) ?_
 rintro _ w ⟨q,rfl,hRt,hE⟩;rw[G4 hI.tl]at hRt;have hQ:=RX.made (ids:=[b3,b2,b1]++i) hF.same.size (hF.ltD hI.mi.low Da) hRt;have hF:=hF.ext hE;clear hE hRt;refine rn 1 ?_;intro w hF hE;have hQ:=hQ.store hE qK;refine rn 3 ?_;rw[at_b wV rW hc2];exact Out.keep hI.mi hF hQ;refine rn 6<|Sa (Mk (class_c (Ni b) (Ni l) (Ni r) x y z _ _ (hF.repM hSo hx) (hF.repM hSo hy)<|hF.repM hSo hz)<|xQ (Value.int .i64)<|clsZ_O b l r) ?_;rintro w hF -;refine rn 1 ?_;rintro b4 w hb4 hF -;refine rn 10 ⟨λhc3=>?_,λhc3=>?_⟩;refine rn 6<|Gc (RG (hI.at hF (L:=[b4,b3,b2,b1]) Da) (Wj b l r) (hc:=cls_le b l r)) ?_;rintro _ w2 ⟨sm2,q,rfl,hR,hO⟩;have hFa:=hF;clear hF;have hF:=hFa.swapM hO.m hO.hh hO.mc;refine rn 1 ?_;intro w hF hE;have hS2:Same [b4,b3,b2,b1] w2 w:=hE.mono Da;refine rn 3 ?_;exact Out.pass hI.mi hFa qX hR hO hS2 Da hF qX (by rw[at_m wV rW (by rw[hc2];simp),meet_con hc3]);obtain⟨xb,xl,xr,rfl,rfl,rfl,hk1,hk2⟩:=cls_one (aS hc3);have h1:Wj (some xb) (some xl) (some xr)=1:=aS hc3
 have hkx:=(Nc hx).2.1;simp only[Ni]at hkx;rw[h1]at hF;refine rn 4<|Ca (v:=.func (.func 46) #[] #[V b1,V b4]) Mj ?_;refine rn 20 ⟨λhc4=>?_,λhc4=>?_⟩;refine rn 2<|Ca (v:=.func (.func 47) #[V pb] #[]) (No O) ?_;refine rn 9 ?_;refine Qd (hobj _ _ _ _ _ _ _ _ _ _ _ _ _ _ _ (hI.at hF (L:=[b4,b3,b2,b1]) Da) kX kX kX (by simpa[Ih]using hc0) (by simp only[Ic]at hdp;omega) kX) (Kp O en_47 O O O) ?_;rintro _ w2 ⟨sm2,q,rfl,hR,hO⟩;have hFa:=hF;clear hF;have hF:=hFa.swapM hO.m hO.hh hO.mc;refine rn 1 ?_;intro w hF hE;have hS2:Same [b4,b3,b2,b1] w2 w:=hE.mono Da;refine rn 3 ?_;exact Out.pass hI.mi hFa qX hR hO hS2 Da hF qX (by rw[at_m wV rW (by rw[hc2];simp),Lo,uQ ⟨hk1,hk2⟩,uQ kX]);refine rn 7 ⟨λhc5=>?_,λhc5=>?_⟩;refine rn 2<|Ca (v:=.func (.func 48) #[V pb] #[]) (No O) ?_;refine rn 9 ?_;refine Qd (harr _ _ _ _ _ _ _ _ _ _ _ _ _ _ _ (hI.at hF (L:=[b4,b3,b2,b1]) Da) kX kX kX (by simpa[Ih]using hc0) (by simp only[Ic]at hdp;omega) kX) (Kp O en_48 O O O) ?_;rintro _ w2 ⟨sm2,q,rfl,hR,hO⟩;have hFa:=hF;clear hF;have hF:=hFa.swapM hO.m hO.hh hO.mc;refine rn 1 ?_;intro w hF hE;have hS2:Same [b4,b3,b2,b1] w2 w:=hE.mono Da;refine rn 3 ?_;exact Out.pass hI.mi hFa qX hR hO hS2 Da hF qX (by rw[at_m wV rW (by rw[hc2];simp),Lo,uQ ⟨hk1,hk2⟩,tQ kX,uQ kX]);refine rn 8<|Qd (atcl_c (hI.at hF (L:=[b4,b3,b2,b1]) Da) b1 b4 (hF.cell 3 O O) (hF.cell 0 O O) (hF.newM 3 O) (hF.newM 0 O) kX) (Kp O en_46 O O O) ?_;rintro _ w2 ⟨sm2,q,rfl,hR,hO⟩;have hFa:=hF;clear hF;have hF:=hFa.swapM hO.m hO.hh hO.mc
 refine rn 1 ?_;intro w hF hE;have hS2:Same [b4,b3,b2,b1] w2 w:=hE.mono Da;refine rn 3 ?_;exact Out.pass hI.mi hFa qX hR hO hS2 Da hF qX (by rw[at_m wV rW (by rw[hc2];simp),Lo,uQ ⟨hk1,hk2⟩,tQ kX,tQ kX])
section
variable {w0 w w' w1:World}{i L E:List Nat}{sm sb sb' bs_ pre post:List (Nat × Obj)}{pb:Nat}{RV:Value}{cfs:List Cf}
def Mx.grow(h:Mx i w sm pb RV cfs)(hE:Same (sb.map (·.1)) w w')(hn:∀p∈sb',p.1∈sb.map (·.1)\/w.heap.size<=p.1)(hi:∀x∈sb.map (·.1),x∈i):Mx (i++ids sb') w' sm pb RV cfs :=
  h.step hE hi λx hx=>by
    rcases mQ.1 hx with h1|h1
    ·exact .inl h1
    obtain⟨p, hp, rfl⟩ := nQ.1 h1;rcases hn p hp with h2|h2
    ·exact .inl<|hi _ h2
    exact .inr h2
theorem E5(hs:w0.heap.size<=w.heap.size)(hk:∀p∈sb,w0.heap.size<=p.1)(hn:∀p∈sb',p.1∈sb.map (·.1)\/w.heap.size<=p.1):∀p∈sb',w0.heap.size<=p.1:=λp hp=>by
  grind
def RX.nqL{ds:List D}(h:RX w0 i w ds cs)(hi:∀x∈ids sm,x∈i):RepL (Nq w0 sm w) w ds cs:=RepL.weaken (λ_ hb _=>⟨⟨hb.1,hb.2.1,hb.2.2.2⟩,λhm=>hb.2.2.1<|hi _ hm⟩) h
theorem SlB.nq{e m c:Nat}{xs:List Value}{ds:List D}(h:SlB e m A n c xs sb)(hF:FR w0 E (pre++(sm++(post++(sb++bs_)))) w)(hk:∀p∈sb,w0.heap.size<=p.1)(hr:RX w0 L w ds xs)(hi:∀x∈ids sm,x∈L)(hn:aL ds=n):Rep (Nq w0 sm w) w (.slice ds) [.slice A n c]:=by
  refine h.repOf (λp hp=>?_) (hr.nqL hi) hn;have h1:=hF.own p (by simp[hp]);refine⟨h1.1,⟨hk p hp,Ia h1.1,h.soft (λq hq=>(hF.own q jB).1) p hp⟩,λhm=>?_⟩;obtain⟨q,hq,e⟩:=nQ.1 hm;have hd:=hF.desc;grind
theorem Us{p:List Str}{k:Str}(h:∀s∈p,aL s<=1000000000000000)(hk:aL k<=1000000000000000):∀s∈p++[k],aL s<=1000000000000000:=λs hs=>by
  grind
theorem OY{rl:List Rl}{F:Nat}{path:List Str}{b l r:Tree}{U:List Str}(hU:U=Ec [l.keys,r.keys])(h:n+Ka l+Ka r<1000)(hj:j<aL U) :
    n+aL (Cd (λk m=>Je rl F (path++[k]) m (Hd b k) (Hd l k) (Hd r k)) n U j).2+Af (Hd l U[j])+Af (Hd r U[j])<1000:=by
  have h1:=Ip (n:=n) (ks:=U) (λk n=>Ll (rl:=rl) F (path++[k]) n (Hd b k) (Hd l k)<|Hd r k) j kX;have h2:=Yf (Hd l) hj;have h3:=Yf (Hd r) hj;have h4:=Rg (Hd l) U<|j+1;have h5:=Rg (Hd r) U<|j+1;have hn:U.Nodup:=by grind [Zc]
  have h6:=En hn l;have h7:=En hn r;grind
theorem QE{f:Str->Nat->Mo}{ks:List Str}(hj:j<aL ks):Cd f n ks (j+1)=((Cd f n ks j).1++ID ks[j] (f ks[j] (n+aL (Cd f n ks j).2)).1,(Cd f n ks j).2++(f ks[j] (n+aL (Cd f n ks j).2)).2):=by grind [Cd]
def QV{x:Tree}(h:TinyT x)(hk:x.kind=6):aL x.keys<=256:=by
  obtain⟨k,t,ks,xs⟩:=x;have h1:=(OR h.1 hk).1;have h2:=Ee xs;have h3:=h.2.1;rw[Ka]at h3;show (aL ks)<=256;omega
end
def Jl:ids []=[]:=rfl
theorem Vb{p:Prop}(h:p:=by intro x hx;simp only[mQ,oQ]at hx ⊢;grind):p:=h
def un_len{l r:Tree}(hl:TinyT l)(hr:TinyT r):∀s∈Ec [l.keys,r.keys],aL s<=16777216:=λs hs=>by
  unfold Ec at hs;rw[Uo]at hs;simp only[List.not_mem_nil,List.flatten_cons,List.flatten_nil,qQ,mQ,false_or]at hs;exact hs.elim (hl.key s)<|hr.key s
theorem un_cnt(a b:List Str):aL (Ec [a,b])<=aL a+aL b:=by grind [GA,Ec]
def Same.step{E F:List Nat}{w w':World}(h:Same E u w)(k:Same F w w')(hf:∀b∈F,b∈E\/u.heap.size<=b):Same E u w' :=
  ⟨k.os.trans h.os,k.tape.trans h.tape,k.output.trans h.output,fQ h.size k.size,λb hb hn=>(k.block b (Nat.lt_of_lt_of_le hb h.size) λhm=>(hf b hm).elim hn kX).trans (h.block b hb hn)⟩
def M5{w:World}(h:Rep S w (Xc (Ni o)) q.cells)(hq:q.h=true):∃x,o=some x/\Rep S w (Ta x) q.v.cells:=by
  have h1:=Nc h;cases o with
  | none =>
    rw[h1.1]at hq;cases hq
  | some x=>exact⟨x,rfl,h1.2.2.2.2⟩
def I3{w:World}(h:Rep S w (Xc (Ni o)) q.cells)(hq:q.h=false):o=none:=by
  have h1:=Nc h;cases o with
  | none=>rfl
  | some x =>
    rw[h1.1]at hq;cases hq
def Low(L:List Nat)(w:World):Prop:=∀x∈L,8<=x/\x<w.heap.size
theorem RX.widen{w:World}{i j:List Nat}{ds:List D}(h:RX u i w ds cs)(hi:∀x∈j,x∈i\/w.heap.size<=x:=by intro x hx;simp only[mQ,oQ]at hx ⊢;grind):RX u j w ds cs:=h.step (Same.refl [] w) Da hi
theorem Mx.widen{w:World}{i j:List Nat}{sm:List (Nat × Obj)}{pb:Nat}{RV:Value}{cfs:List Cf}(h:Mx i w sm pb RV cfs)(hi:∀x∈j,x∈i\/w.heap.size<=x:=by intro x hx;simp only[mQ,oQ]at hx ⊢;grind):Mx j w sm pb RV cfs:=h.step (Same.refl [] w) Da hi
def Low.ext{L E:List Nat}{w w':World}(h:Low L w)(hs:Same E w w'):Low L w':=λx hx=>⟨(h x hx).1,Nat.lt_of_lt_of_le (h x hx).2 hs.size⟩
theorem In.low{w0 w:World}{i L:List Nat}{sm bs_:List (Nat × Obj)}{pb:Nat}{RV:Value}{cfs:List Cf}{rl:List Rl}{path:List Str}{PA:Option Addr}{pc:Nat}{b l r:Option Tree}{x y z:Sv}(h:In rl i w0 sm pb RV cfs path PA pc b l r x y z)(hF:FR w0 (ids sm) bs_ w)(hL:∀x∈L,x∈bs_.map (·.1)\/x∈i:=by intro x hx;simp only[ids,jQ,jZ,List.map_nil,qQ,mQ,oQ]at hx ⊢;grind):Low L w:=λx hx=>by
  rcases hL x hx with h1|h1
  ·refine⟨?_, hF.lt_ids h1⟩
   obtain⟨q,hq,rfl⟩:=nQ.1 h1;rcases (hF.own q hq).2 with h2|h2
   ·exact fQ h.g.size h2
   exact h.off _ h2
  exact⟨(h.mi.low x h1).1,Nat.lt_of_lt_of_le (h.mi.low x h1).2 hF.same.size⟩
theorem In.lt{w0 w:World}{i L:List Nat}{sm bs_:List (Nat × Obj)}{pb:Nat}{RV:Value}{cfs:List Cf}{rl:List Rl}{path:List Str}{PA:Option Addr}{pc:Nat}{b l r:Option Tree}{x y z:Sv}(h:In rl i w0 sm pb RV cfs path PA pc b l r x y z)(hF:FR w0 (ids sm) bs_ w)(hL:∀x∈L,x∈bs_.map (·.1)\/x∈i:=by intro x hx;simp only[ids,jQ,jZ,List.map_nil,qQ,mQ,oQ]at hx ⊢;grind):∀x∈L,x<w.heap.size:=λx hx=>(h.low hF hL x hx).2
theorem PF(rl:List Rl)(F:Nat)(hat:AtC rl F):MtC 47 rl F 6 (L9 (Je rl F)):=by
 intro i w0 sm pb RV cfs path PA pc b l r x y z hI h6b h6l h6r hne hdp hpn;obtain⟨S,hSo,hT⟩:=hI.tri;obtain⟨SP,hPo,hP⟩:=hI.pth;obtain⟨SR,hRo,hRR⟩:=hI.rul;obtain⟨hx,hy,hz⟩:=Uk hT;have htb:=hI.tb b rfl;have htl:=hI.tl l rfl;have htr:=hI.tr r rfl;obtain⟨-,-,eyn,-,hkl,-⟩:=Fe (Nc hy).2.2.2.2;obtain⟨-,-,ezn,-,hkr,-⟩:=Fe (Nc hz).2.2.2.2;simp only[Ni]at eyn ezn hkl hkr;have hll:=QV htl h6l;have hlr:=QV htr h6r;obtain⟨U,hU0⟩:∃U,U=Ec [l.keys,r.keys]:=⟨_,rfl⟩;obtain⟨f,hf⟩:∃f,f=λk m=>Je rl F (path++[k]) m (Hd b k) (Hd l k) (Hd r k):=⟨_,rfl⟩;have hUl:=un_cnt l.keys r.keys;rw[<-hU0]at hUl;refine Bc func47 ntmps47 O O ?_;have hF:FR w0 (ids sm) ([]++(sm++[])) w0:=hI.mi.start;refine rn 3 ?_;rintro b1 w hb1 hF -;refine rn 1 ?_;rintro b2 w hb2 hF -;refine rn 4<|Ca (w':=w) (v:=.agg #[J 6,I [],aQ,aQ]) Gb ?_;refine rn 1 ?_;rintro b3 w hb3 hF -;refine rn 14 ?_;rintro b4 w hb4 hF -;have hrow:=hF.rowS 0 rfl (RepL.cons_mk (hF.repM hSo hkl)<|RepL.cons_mk (c2:=[]) (hF.repM hSo hkr) RepL.nil_mk) (ds:=[Ya l.keys,Ya r.keys]) (n:=2) rfl kX;have hUk:=un_len htl htr;refine Gc (WW [l.keys,r.keys] _ 2 _ _ hrow qP (λs hs=>by have:=hUk s hs;omega)) ?_;rintro _ w ⟨AU,cU,rfl,hRt,hE⟩;have hM:=(hI.mi.at hI.g hF (L:=[b4,b3,b2,b1]) Da).m.ext hE;have hU:=RX.made (ids:=[b4,b3,b2,b1]++i) hF.same.size (hF.ltD hI.mi.low Da) hRt;have hF:=hF.ext hE;rw[<-hU0]at hU hUk ⊢;clear hE hRt hrow;refine rn 5 ?_;refine Wa (λμ σ w=>∃(j:Nat),∃(ac:List (Str × Tree)),∃(cf1:List Cf),∃(sm1:List (Nat × Obj)),∃(A1:Option Addr),∃(c1:Nat),∃(sk:List (Nat × Obj)),∃(A2:Option Addr),∃(c2:Nat),∃(si:List (Nat × Obj)),∃(vals:List Value),μ=aL U-j/\(j<=aL U)/\(Cd f (aL cfs) U j=(ac,cf1))/\(SlB 9 1 A1 (aL ac) c1 ((ac.map (·.1)).map λs=>Value.string<|bs s) sk)/\(∀p∈sk,w0.heap.size<=p.1)/\(SlB 25 4 A2 (aL ac) c2 vals si)/\(∀p∈si,w0.heap.size<=p.1)/\(RX w0 ([b4,b3,b2,b1]++(i++(ids sm1++(ids sk++ids si)))) w [Ya U] [.slice AU (aL U) cU])/\(RX w0 ([b4,b3,b2,b1]++(i++(ids sm1++(ids sk++ids si)))) w (ac.map λz=>Ta z.2) vals)/\(Mx ([b4,b3,b2,b1]++(i++(ids sm1++(ids sk++ids si)))) w sm1 pb RV<|cfs++cf1)/\AllEq σ [(0,V pb),(1,.slice PA (aL path) pc),(5,V b1),(6,V b2),(7,V b3),(21,.slice AU (aL U) cU),(22,J<|(aL U:Nat)),(23,J<|(j:Int))]/\FR w0 (ids sm) ([(b4,.cells #[.slice y.v.A y.v.n y.v.c,.slice z.v.A z.v.n z.v.c] 22),(b3,.cells #[J 6,I [],.slice A1 (aL ac) c1,.slice A2 (aL ac) c2] 25),(b2,.cells #[.bool false,J 0,I [],aQ,aQ] 36),(b1,.cells ((th x y z)).toArray 61)]++(sm1++(sk++(si++[])))) w) _ ⟨0,[],[],sm,none,0,[],none,0,[],[],rfl,cZ _,rfl,SlB.nil _ _,Da,SlB.nil _ _,Da,hU.sub qA,RX.nil,by rw[qQ];exact hM.sub qA,Ib,hF⟩ ?_
 rintro μ σ w ⟨j,ac,cf1,sm1,A1,c1,sk,A2,c2,si,vals,rfl,hj,hac,hK,hkn,hI2,hin,hU,hV,hM,hzz,hF⟩;have hcf:=xQ (λz=>aL z.2) hac;simp only at hcf;have hnm:=Wh (f:=f) (n:=aL cfs) (ks:=U) j hj;rw[hac]at hnm;have hacl:=hnm.length_le;simp only[rQ,iZ]at hacl;refine Tf hzz 7 ⟨λhc0=>?_,λhc0=>?_⟩
 ·
  refine rn 3 (Sc (λσ w=>∃(w2:World),∃(sm2:List (Nat × Obj)),∃(mo:Mo),∃(b5:Nat),∃(bt:Nat),∃(ac2:List (Str × Tree)),∃(A3:Option Addr),∃(c3:Nat),∃(sk3:List (Nat × Obj)),∃(A4:Option Addr),∃(c4:Nat),∃(si3:List (Nat × Obj)),∃(vals2:List Value),(Cd f (aL cfs) U (j+1)=(ac2,cf1++mo.2))/\(SlB 9 1 A3 (aL ac2) c3 ((ac2.map (·.1)).map λs=>Value.string<|bs s) sk3)/\(∀p∈sk3,p.1∈ids sk\/w2.heap.size<=p.1)/\(SlB 25 4 A4 (aL ac2) c4 vals2 si3)/\(∀p∈si3,p.1∈ids si\/w2.heap.size<=p.1)/\(RX w0 (bt::((b5::([b4,b3,b2,b1]++(i++(ids sm1++(ids sk++ids si)))))++ids sm2)) w2 [Ya U] [.slice AU (aL U) cU])/\(RX w0 (bt::((b5::([b4,b3,b2,b1]++(i++(ids sm1++(ids sk++ids si)))))++ids sm2)) w2 (ac2.map λz=>Ta z.2) vals2)/\(Mx (bt::((b5::([b4,b3,b2,b1]++(i++(ids sm1++(ids sk++ids si)))))++ids sm2)) w2 sm2 pb RV<|cfs++cf1++mo.2)/\(w0.heap.size<=w2.heap.size)/\(Same (bt::(b3::(ids sk++ids si))) w2 w)/\AllEq σ [(0,V pb),(1,.slice PA (aL path) pc),(5,V b1),(6,V b2),(7,V b3),(21,.slice AU (aL U) cU),(22,J<|(aL U:Nat)),(23,J<|(j:Int))]/\FR w0 (ids sm) ([(b4,.cells #[.slice y.v.A y.v.n y.v.c,.slice z.v.A z.v.n z.v.c] 22),(b3,.cells #[J 6,I [],.slice A3 (aL ac2) c3,.slice A4 (aL ac2) c4] 25),(b2,.cells #[.bool false,J 0,I [],aQ,aQ] 36),(b1,.cells ((th x y z)).toArray 61)]++(sm2++(sk3++(si3++[])))) w) ?_ ?_)
  ·
   refine rn 2 ?_;have hjU:j<aL U:=by_Om
   obtain⟨wh,hwh⟩:∃u,u=w:=⟨w,rfl⟩;rw[<-hwh]at hU hV hM;have hs:Same [] wh w:=hwh▸Same.refl [] w;refine rn 1 ?_;obtain⟨ad0,hA0,hk0,hx0⟩:=(hU.ext hs).rep.str_elem (i:=j) (hjU);refine Ca (v:=.pointer<|some<|ad0.add<|j*1) (Ea (i:=(j:Int)) Nd hA0)<|Ca (v:=I<|U[j]) (Ma sZ hk0) ?_;refine rn 1 ?_;intro b5 w hb5 hF hE;have hnb5:=hs.size;rw[<-hb5]at hnb5;have hs:=hs.trans hE;refine rn 3<|Sc (λσ w=>∃(w2:World),∃(sm2:List (Nat × Obj)),∃(q:Sv),∃(mo:Mo),∃(bt:Nat),(Cd f (aL cfs) U (j+1)=(ac++ID U[j] mo.1,cf1++mo.2))/\(RX w0 (bt::((b5::([b4,b3,b2,b1]++(i++(ids sm1++(ids sk++ids si)))))++ids sm2)) w2 [Xc<|Ni mo.1] q.cells)/\(RX w0 (bt::((b5::([b4,b3,b2,b1]++(i++(ids sm1++(ids sk++ids si)))))++ids sm2)) w2 [Ya U] [.slice AU (aL U) cU])/\(RX w0 (bt::((b5::([b4,b3,b2,b1]++(i++(ids sm1++(ids sk++ids si)))))++ids sm2)) w2 (ac.map λz=>Ta z.2) vals)/\(Mx (bt::((b5::([b4,b3,b2,b1]++(i++(ids sm1++(ids sk++ids si)))))++ids sm2)) w2 sm2 pb RV<|cfs++cf1++mo.2)/\(w0.heap.size<=w2.heap.size)/\(Same (bt::(b3::(ids sk++ids si))) w2 w)/\AllEq σ [(0,V pb),(1,.slice PA (aL path) pc),(5,V b1),(6,V b2),(7,V b3),(9,V b5),(10,V bt),(21,.slice AU (aL U) cU),(22,J<|(aL U:Nat)),(23,J<|(j:Int))]/\FR w0 (ids sm) ([(bt,.cells (q.cells).toArray 36),(b5,.cells #[I<|U[j]] 9),(b4,.cells #[.slice y.v.A y.v.n y.v.c,.slice z.v.A z.v.n z.v.c] 22),(b3,.cells #[J 6,I [],.slice A1 (aL ac) c1,.slice A2 (aL ac) c2] 25),(b2,.cells #[.bool false,J 0,I [],aQ,aQ] 36),(b1,.cells ((th x y z)).toArray 61)]++(sm2++(sk++(si++[])))) w) ?_ ?_
   ·
    refine Yb (.of [9]) (bQ [0,1,2,4,5]<|.alt 3 (.alt 6 (.alt 7 (.act 8<|.act 9 .nil)<|cQ [8,7,9] .nil)<|cQ [8,6,7,9] .nil)<|cQ [8,3,6,7,9] .nil) hF ?_;intro w hF hE;have hs:=hs.trans hE;refine⟨λwq=>FR w0 (ids sm) [(b5,.cells #[I<|U[j]] 9),(b4,.cells #[.slice y.v.A y.v.n y.v.c,.slice z.v.A z.v.n z.v.c] 22),(b3,.cells #[J 6,I [],.slice A1 (aL ac) c1,.slice A2 (aL ac) c2] 25),(b2,.cells #[.bool false,J 0,I [],aQ,aQ] 36),(b1,.cells ((th x y z)).toArray 61)] wq,hF.mid 0 5,?_⟩;refine rn 4<|Fa O (v:=.func (.func 77) #[] #[V b5]) (λw hC=>Jf) ?_
    repeat' first
     |refine Yq ?_ ?_
     |
      refine Qh 3 ?_;refine Bf (Ow path U[j] PA pc _ _ (hF.repM hPo hP) rN kX) ?_;rintro _ w ⟨Ap,cp,rfl,hRt,hE⟩
      first|have hPX:=RX.made (ids:=(b301::(b5::([b4,b3,b2,b1]++(i++(ids sm1++(ids sk++ids si))))))) hF.same.size (hI.lt hF) hRt|have hPX:=RX.made (ids:=(b5::([b4,b3,b2,b1]++(i++(ids sm1++(ids sk++ids si)))))) hF.same.size (hI.lt hF) hRt
      have hF:=hF.ext hE;have hs:=hs.trans hE;clear hE hRt;refine⟨hF.su,?_⟩
     |
      refine Qh 6 ?_
      first|refine Bf (YK b l r U[j] b5 x y z _ _ (hF.repM hSo hT) (hF.cell 0 rfl rfl) h6b h6l h6r htb htl htr (hI.g.same hF.same hI.off)) ?_|refine Bf (YK b l r U[j] b5 x y z _ _ (hF.repM hSo hT) (hF.cell 1 rfl rfl) h6b h6l h6r htb htl htr (hI.g.same hF.same hI.off)) ?_
      rintro _ w ⟨q0,q1,q2,rfl,hRt,hE⟩
      first|have hTX:=RX.made (ids:=(b301::(b5::([b4,b3,b2,b1]++(i++(ids sm1++(ids sk++ids si))))))) hF.same.size (hI.lt hF) hRt|have hTX:=RX.made (ids:=(b5::([b4,b3,b2,b1]++(i++(ids sm1++(ids sk++ids si)))))) hF.same.size (hI.lt hF) hRt
      have hF:=hF.ext hE;have hs:=hs.trans hE;have hPX:=hPX.ext hE;clear hE hRt;refine⟨hF.su,?_⟩
     |
      refine Qh 7 ?_
      first|have hlow:=hI.low hF (L:=(b301::(b5::([b4,b3,b2,b1]++(i++(ids sm1++(ids sk++ids si)))))))|have hlow:=hI.low hF (L:=(b5::([b4,b3,b2,b1]++(i++(ids sm1++(ids sk++ids si))))))
      first|(have hLC:∀x∈(b301::(b5::([b4,b3,b2,b1]++(i++(ids sm1++(ids sk++ids si)))))),x∈([b4,b3,b2,b1]++(i++(ids sm1++(ids sk++ids si))))\/wh.heap.size<=x:=by intro x hx;simp only[oQ]at hx;grind)|(have hLC:∀x∈(b5::([b4,b3,b2,b1]++(i++(ids sm1++(ids sk++ids si))))),x∈([b4,b3,b2,b1]++(i++(ids sm1++(ids sk++ids si))))\/wh.heap.size<=x:=by intro x hx;simp only[oQ]at hx;grind)
      first|(refine Bf (hat (b301::(b5::([b4,b3,b2,b1]++(i++(ids sm1++(ids sk++ids si)))))) _ sm1 pb RV (cfs++cf1) (path++[U[j]]) Ap cp _ _ _ q0 q1 q2 ⟨⟨hM.step hs Da hLC,hF.hh,Vb,hlow⟩,hI.g.same hF.same hI.off,⟨_,Gh Vb,hPX.rep⟩,⟨_,Gh Vb,hTX.rep⟩,⟨_,hF.offM hRo,hF.repM hRo hRR⟩,htb.mem _,htl.mem _,htr.mem _,by rw[dQ,<-hcf,hf];exact OY hU0 hI.cnt hjU,Us hI.ptx rN⟩ (Nat.lt_of_lt_of_le (Vm l _) hdp) zK) ?_)|(refine Bf (hat (b5::([b4,b3,b2,b1]++(i++(ids sm1++(ids sk++ids si))))) _ sm1 pb RV (cfs++cf1) (path++[U[j]]) Ap cp _ _ _ q0 q1 q2 ⟨⟨hM.step hs Da hLC,hF.hh,Vb,hlow⟩,hI.g.same hF.same hI.off,⟨_,Gh Vb,hPX.rep⟩,⟨_,Gh Vb,hTX.rep⟩,⟨_,hF.offM hRo,hF.repM hRo hRR⟩,htb.mem _,htl.mem _,htr.mem _,by rw[dQ,<-hcf,hf];exact OY hU0 hI.cnt hjU,Us hI.ptx rN⟩ (Nat.lt_of_lt_of_le (Vm l _) hdp) zK) ?_)
      rintro _ w2 ⟨sm2,q,rfl,hR,hO⟩;have hst:=QE (f:=f) (n:=aL cfs) hjU;rw[hac]at hst;have hmf:f U[j] (aL cfs+aL cf1)=Je rl F (path++[U[j]]) (aL (cfs++cf1)) (Hd b U[j]) (Hd l U[j]) (Hd r U[j]):=by rw[hf,dQ]
      simp only[hmf]at hst;obtain⟨mo,hmo⟩:∃mo,mo=Je rl F (path++[U[j]]) (aL (cfs++cf1)) (Hd b U[j]) (Hd l U[j]) (Hd r U[j]):=⟨_,rfl⟩;rw[<-hmo]at hR hO hst
      first|have hQ:=RX.madeM (i:=((b301::(b5::([b4,b3,b2,b1]++(i++(ids sm1++(ids sk++ids si))))))++ids sm2)) hF.same.size (λx hx=>(mQ.1 hx).imp (λh=>(hlow x h).2) id) hR|have hQ:=RX.madeM (i:=((b5::([b4,b3,b2,b1]++(i++(ids sm1++(ids sk++ids si)))))++ids sm2)) hF.same.size (λx hx=>(mQ.1 hx).imp (λh=>(hlow x h).2) id) hR
      first|have hU:=(hU.step hs Da hLC).swap (j:=((b301::(b5::([b4,b3,b2,b1]++(i++(ids sm1++(ids sk++ids si))))))++ids sm2)) hO.mc Vb Vb|have hU:=(hU.step hs Da hLC).swap (j:=((b5::([b4,b3,b2,b1]++(i++(ids sm1++(ids sk++ids si)))))++ids sm2)) hO.mc Vb Vb
      first|have hV:=(hV.step hs Da hLC).swap (j:=((b301::(b5::([b4,b3,b2,b1]++(i++(ids sm1++(ids sk++ids si))))))++ids sm2)) hO.mc Vb Vb|have hV:=(hV.step hs Da hLC).swap (j:=((b5::([b4,b3,b2,b1]++(i++(ids sm1++(ids sk++ids si)))))++ids sm2)) hO.mc Vb Vb
      have hM:=hO.m;have hF:=hF.swapM hO.m hO.hh hO.mc;have hw2:=hF.same.size;clear hR hO hPX hTX hlow hmf hmo hLC hs
      first|have hs:=Same.refl (b301::(b3::(ids sk++ids si))) w2|have hs:=Same.refl (b3::(ids sk++ids si)) w2
      refine⟨hF.su,?_⟩
     |
      refine Qh 8<|rn 1 ?_;intro b301 w hb301 hF hE;have hnb301:=hs.size;rw[<-hb301]at hnb301
      first|have hs:=hs.step hE Da|have hs:=hs.trans hE
      try have hPX:=hPX.alloc hE hb301
      try have hTX:=hTX.alloc hE hb301
     |refine Qh 9<|rn 1 ?_;intro w hF hE;have hs:=hs.step hE qK|refine rn 1 ?_;exact Ja ⟨w2,sm2,q,mo,b301,hst,hQ.widen,hU.widen,hV.widen,hM.widen,hw2,hs.mono qK,Ib,hF⟩
   rintro σ w ⟨w2,sm2,q,mo,bt,hst,hQ,hU,hV,hM,hw2,hs,hzz,hF⟩;refine Kq hzz 8 ⟨λhc1=>?_,λhc1=>?_⟩
   ·
    obtain⟨v1,hv1,hrv⟩:=M5 hQ.rep hc1;have hQv:=RX.one hrv;refine Yb ⟨[12,14],λwq=>FR w0 (ids sm) [(bt,.cells (q.cells).toArray 36),(b5,.cells #[I<|U[j]] 9),(b4,.cells #[.slice y.v.A y.v.n y.v.c,.slice z.v.A z.v.n z.v.c] 22),(b2,.cells #[.bool false,J 0,I [],aQ,aQ] 36),(b1,.cells ((th x y z)).toArray 61)] wq,[7,8]⟩ (bQ [0,1,2,5,6,7,8]<|.alt 3 (.alt 4 (.free 11<|cQ [9,10,12]<|.free 13<|.act 14 .nil)<|.act 9<|.act 4<|.free 11<|.act 10<|.act 12<|.free 13<|.act 14 .nil)<|cQ [9,3,4]<|.free 11<|.act 10<|.act 12<|.free 13<|.act 14 .nil) hF ?_;intro w hF hE;have hs:=hs.step hE qK;refine⟨λwq=>FR w0 (ids sm) [(bt,.cells (q.cells).toArray 36),(b5,.cells #[I<|U[j]] 9),(b4,.cells #[.slice y.v.A y.v.n y.v.c,.slice z.v.A z.v.n z.v.c] 22),(b3,.cells #[J 6,I [],.slice A1 (aL ac) c1,.slice A2 (aL ac) c2] 25),(b2,.cells #[.bool false,J 0,I [],aQ,aQ] 36),(b1,.cells ((th x y z)).toArray 61)] wq,hF.mid 0 6,?_⟩;refine rn 6 ?_;refine I0 O (v:=.agg (q.v.cells).toArray) (λw hC=>Pa (l:=q.v.cells) oZ tZ O O<|hC.part 0 1 O O) (λw hC=>Pa (l:=q.v.cells) oZ tZ O O<|hC.part 0 1 O O) ?_
    repeat' first
     |refine Yq ?_ ?_|refine Qh 3<|rn 1 ?_;intro b302 w hb302 hF hE;have hnb302:=hs.size;rw[<-hb302]at hnb302;have hs:=hs.step hE Da|refine Qh 4 (X7 hK (len':=aL (ac++[(U[j],v1)])) (ys:=(((ac++[(U[j],v1)]).map (·.1)).map λs=>Value.string<|bs s)) Da Da ?_);intro A303 c303 k_303 w hS303_k hF hE hnew;have hnk:∀p∈k_303,p.1∈ids sk\/w2.heap.size<=p.1:=λp hp=>(hnew p hp).imp id (λh=>fQ hs.size h);have hs:=hs.step hE λb (hb:b∈ids sk)=>.inl kH|refine Qh 9<|rn 1 ?_;intro b304 w hb304 hF hE;have hnb304:=hs.size;rw[<-hb304]at hnb304;have hs:=hs.step hE Da|refine Qh 10<|X7 hI2 (len':=aL (ac++[(U[j],v1)])) (ys:=vals++q.v.cells) Da (O) ?_;intro A305 c305 i_305 w hS305_i hF hE hnew;have hni:∀p∈i_305,p.1∈ids si\/w2.heap.size<=p.1:=λp hp=>(hnew p hp).imp id (λh=>fQ hs.size h);have hs:=hs.step hE λb (hb:b∈ids si)=>.inl kH|refine Qh 12<|rn 1 ?_;intro w hF hE;have hs:=hs.step hE qK|refine Qh 14<|rn 1 ?_;intro w hF hE;have hs:=hs.step hE qK
     |refine rn 2 ?_;exact Ja ⟨w2,sm2,mo,b5,bt,ac++[(U[j],v1)],A303,c303,k_303,A305,c305,i_305,vals++q.v.cells,by rw[hst,hv1];rfl,hS303_k,hnk,hS305_i,hni,hU,by rw[jQ];exact hV.append hQv,hM,hw2,hs,Ib,hF.su⟩
     |refine rn 1 ?_
   refine rn 2 ?_;exact Ja ⟨w2,sm2,mo,b5,bt,ac,A1,c1,sk,A2,c2,si,vals,by rw[hst,I3 hQ.rep hc1];simp[ID],hK,λp hp=>.inl<|List.mem_map_of_mem hp,hI2,λp hp=>.inl<|List.mem_map_of_mem hp,hU,hV,hM,hw2,hs,Ib,hF.su⟩
  rintro σ w ⟨w2,sm2,mo,b5,bt,ac2,A3,c3,sk3,A4,c4,si3,vals2,hst2,hK3,hnk,hI3,hni,hU,hV2,hM,hw2,hs,hzz,hF⟩;refine Kq hzz 2<|Kc (Ce<|((j+1:Nat):Int)) ?_;refine rn 2 ?_;have hL3:∀x∈([b4,b3,b2,b1]++(i++(ids sm2++(ids sk3++ids si3)))),x∈(bt::((b5::([b4,b3,b2,b1]++(i++(ids sm1++(ids sk++ids si)))))++ids sm2))\/w2.heap.size<=x:=(λx hx=>by simp only[mQ,oQ]at hx ⊢;rcases hx with h|h|h|h|h;(grind);(grind);(grind);(obtain⟨p,hp,rfl⟩:=nQ.1 h;exact (hnk p hp).imp qK id);(obtain⟨p,hp,rfl⟩:=nQ.1 h;exact (hni p hp).imp qK id));refine Ja ⟨_,?_,j+1,ac2,cf1++mo.2,sm2,A3,c3,sk3,A4,c4,si3,vals2,O,kX,hst2,hK3,E5 hw2 hkn hnk,hI3,E5 hw2 hin hni,hU.step hs Vb hL3,hV2.step hs Vb hL3,sQ cfs cf1 mo.2▸hM.step hs Vb hL3,Ib,hF⟩;omega
 refine rn 5<|Sa (Jo ⟨6,[],A1,aL ac,c1,A2,aL ac,c2⟩) ?_;intro w hF hE;have hU:=hU.ext hE;have hV:=hV.ext hE;have hM:=hM.ext hE;refine rn 1 ?_;intro w hF hE;have hU:=hU.store hE Da;have hV:=hV.store hE Da;have hM:=hM.store hE Da;refine rn 3 ?_;obtain rfl:j=aL U:=by_Om
 have hak:∀k∈ac.map (·.1),aL k<=9223372036854775807:=λk hk=>by have:=hUk k<|List.mem_of_mem_take<|hnm.subset hk;omega
 have hob:L9 (Je rl F) path (aL cfs) b l r=(some (.node 6 [] (ac.map (·.1)) (ac.map (·.2))),cf1):=by unfold L9;simp only;rw[<-hU0,<-hf,hac]
 rw[hob];refine⟨sm1,⟨true,6,[],A1,aL ac,c1,A2,aL ac,c2⟩,rfl,?_,⟨hM.sub Vb,hF.hh qX,hF.mc qX⟩⟩;refine Sj (s:=⟨true,.node 6 [] (ac.map (·.1)) (ac.map (·.2))⟩) (x:=⟨6,[],A1,aL ac,c1,A2,aL ac,c2⟩)<|Rep.tree_mk ⟨by_Om,by_Om⟩ Da ?_ ?_
 ·exact hK.nq (pre:=[_,_,_,_]) (post:=[]) hF hkn (RX.strs (ids:=([b4,b3,b2,b1]++(i++(ids sm1++(ids sk++ids si))))) hak) Vb Da
 rw[Pc, List.map_map];exact hI2.nq (pre:=[_,_,_,_]) (bs_:=[]) hF hin hV Vb Da
open Go.RowKit
theorem R9{n size:Nat}:∀{m:List (Nat × Nat)}{k j:Nat}{x y:Int},RiseN n size k j m->x<k->y<j->Ev n (x,y) (Id m)=true
  | [],_,_,_,_,_,_,_=>rfl
  | z :: m, k, j, x, y, h, hx, hy => by
    obtain⟨h1,h2,h3,h4,h5⟩:=h;have ih:=R9 (x:=(z.1:Int)) (y:=(z.2:Int)) h5 kX kX;show (!(decide ((z.1:Int)<=x) || (decide ((z.2:Int)<=y) || decide ((n:Int)<=(z.1:Int))))&&Ev n ((z.1:Int),(z.2:Int)) (Id m))=true;rw[ih,eZ kX,eZ kX,eZ kX];rfl
theorem PO{n size:Nat}:∀{m:List (Nat × Nat)}{k j:Nat},RiseN n size k j m->aL m<=n-k
  | [],_,_,_=>cZ _
  | z :: m, k, j, h => by
    obtain⟨h1,h2,h3,h4,h5⟩:=h;have:=PO h5;rw[kQ];omega
theorem Gv{l:List Tree}(h:Pe l=0):aL l<=64:=by grind [Pe]
theorem laid_rows{base v:List Tree}(h:Pe base=0)(hv:Pe v=0):∃mp,pth 0 0 (base.map Jg) (v.map Jg)=Id mp/\Ay (aL base) (Id mp)=true/\aL base<=64/\aL mp<=100/\aL v<=64/\(∀z∈mp,z.1<aL base/\z.2<aL v) /\
    Fc base v=⟨v,Eh (aL base) (aL v) mp 0 (λ_=>[]),Js mp (λ_=>-1)⟩:=by
  obtain⟨mp,e,hr⟩:=AA base v;have h1:=Gv h;have h2:=Gv hv;have h3:=PO hr;refine⟨mp,e,?_,h1,by_Om,h2,hr.all,?_⟩
  all_goals grind [Ay,R9,Fc,Bv]
structure ByOk (n:Nat) (y:By):Prop where
  gap:∀g,g<=n->aL (y.gap g)<=64/\∀i∈y.gap g,∃q:Nat,q<aL y.items/\i=(q:Int)
  img:∀k,k<n->y.img k<0\/∃q:Nat,q<aL y.items/\y.img k=(q:Int)
theorem rng_mem{a b:Nat}{i:Int}(h:i∈rng a b):∃q:Nat,a<=q/\q<b/\i=(q:Int):=by grind [rng]
theorem KW(base v:List Tree)(hv:aL v<=64):ByOk (aL base) (Fc base v):=by
  obtain⟨mp,e,hr⟩:=AA base v;have em:Fc base v=⟨v,Eh (aL base) (aL v) mp 0 λ_=>[],Js mp λ_=>-1⟩:=by grind [Fc,Bv]
  obtain⟨h1,h2,h3⟩:=NA mp 0 0 (λ_=>[]) (λ_=>-1) hr (cZ _) (λ_ _=>rfl) λ_ _=>rfl;have hb:∀k,G3 mp 0 k<=aL v:=λk=>QT hr;have key:∀g,g<=aL base->∃a b,b<=aL v/\Eh (aL base) (aL v) mp 0 (λ_=>[]) g=rng a b:=λg hg=>by
    rcases Nat.lt_or_ge g (aL base) with hlt|hge
    ·rcases h1 g (cZ _) hlt with ⟨b, k1, k2, k3, k4⟩|⟨k1, k2, k3⟩
     ·have := hb (g + 1)
      exact⟨_,b,by_Om,k2⟩
     exact⟨0,0,cZ _,by rw[k2];rfl⟩
    obtain rfl : g = (aL base) := by omega
    exact⟨_,_,gQ _,h2⟩
  rw[em];refine⟨λg hg=>?_,λk hk=>?_⟩
  ·obtain⟨a, b, hle, he⟩ := key g hg
   show (Eh (aL base) (aL v) mp 0 (λ_=>[]) g).length<=64/\∀i∈Eh (aL base) (aL v) mp 0 (λ_=>[]) g,_;rw[he];refine⟨by rw[J8];omega,λi hi=>?_⟩;obtain⟨q,h4,h5,h6⟩:=rng_mem hi;exact⟨q,by show q<aL v;omega,h6⟩
  rcases h1 k (cZ _) hk with ⟨b, k1, k2, k3, k4⟩|⟨k1, k2, k3⟩
  ·have := hb (k + 1)
   exact .inr ⟨b,by show b<aL v;omega,k1⟩
  exact .inl (by show Js mp (λ_=>-1) k<0;rw[k1];decide)
theorem MW{y:By}:∀{l:List Int},(∀i∈l,∃q:Nat,q<aL y.items/\i=(q:Int))->(l.filterMap λi=>y.at i)=l.map λi=>y.items.getD i.toNat zeroT
  | [],_=>rfl
  | i :: l, h => by
    obtain⟨q,hq,rfl⟩:=h i Da;have e:y.at (q:Int)=some y.items[q]:=by
      unfold By.at;rw[tQ kX];simp[hq]
    rw[List.filterMap_cons,e,jZ,MW λi hi=>h i (by simp[hi])];simp[List.getD,hq]
theorem Rep.gapAt{w:World}{N:Nat}{gp:Nat->List Int}{len c:Nat}(h:Rep S w (R6 N gp) [.slice A len c]){i:Nat}(hi:i<N) :
    ∃ad B e,A=some ad/\w.cell? (ad.add (i*1))=some (.slice B (aL (gp i)) e)/\Rep S w (.slice ((gp i).map Oe)) [.slice B (aL (gp i)) e]:=by
  obtain⟨ad,v,hA,hc,hr⟩:=Rep.elem1 h (λd hd=>by obtain⟨k,_,rfl⟩:=nQ.1 hd;rfl) (i:=i) (aS hi);grind [Rep.slice_is]
theorem TinyT.part{x:Tree}(h:TinyT x){p:List Tree}(hp:∀z∈p,z∈x.items)(hs:Qa p<=Qa x.items):TinyT (.node 5 [] [] p):=by
  refine⟨D8 h.1 hp hs,?_,?_⟩
  ·obtain⟨k, t, ks, xs⟩ := x
   have h2:=h.2.1;rw[Ka]at h2 ⊢;have hs':Qa p<=Qa xs:=hs;omega
  obtain⟨k, t, ks, xs⟩ := x;have h3:=h.2.2;rw[Kb]at h3;have hm:∀q:List Tree,(∀z∈q,z∈xs)->Qf q<=Qf xs:=λq=>by
    induction q with
    | nil=>intro _;simp[Qf]
    | cons z q ih =>
      intro hq;have h4:=Vd<|hq z Da;have h5:=ih λy hy=>hq y zV;rw[Qf];omega
  have:=hm p hp;grind [Kb,Th]
def TinyT.itemsOk{x:Tree}(h:TinyT x):∀z∈x.items,Zm z:=λz hz=>by
  have:=h.kid hz;exact⟨Ef z<|fQ this.2.2 kX,this.2.1,this.2.2⟩
structure Yv where
  B:Option Addr
  e:Nat
  G:Option Addr
  g:Nat
  M:Option Addr
  m:Nat
abbrev Yv.cells(q:Yv)(s n:Nat):List Value:=[.slice q.B s q.e,.slice q.G (n+1) q.g,.slice q.M n q.m]
theorem laid_yes0(base v:Tree)(x y:Tv)(S S':Nat->Prop)(w0:World)(hG:Gl w0)(hX:Rep S w0 (Ta base) (Tv.mk x.k x.t x.A x.n x.c x.B (aL base.items) x.e).cells)(hY:Rep S' w0 (Ta v) (Tv.mk y.k y.t y.A y.n y.c y.B (aL v.items) y.e).cells)(hxo:∀z∈base.items,Zm z)(hyo:∀z∈v.items,Zm z)(hex:Pe base.items=0)(hey:Pe v.items=0):Calls prog 82 #[.agg #[J (x.k),I (x.t),.slice x.A x.n x.c,.slice x.B (aL base.items) x.e],.agg #[J (y.k),I (y.t),.slice y.A y.n y.c,.slice y.B (aL v.items) y.e]] w0 (Qb λv_ w'=>∃q:Yv,q.B=y.B/\q.e=y.e/\v_=.tuple #[.agg (q.cells (aL v.items) (aL base.items)).toArray,.bool true]/\Rep (Btw w0 w') w' (R6 (aL base.items+1) (Fc base.items v.items).gap) [.slice q.G (aL base.items+1) q.g]/\Rep (Btw w0 w') w' (.slice (((List.range (aL base.items)).map (Fc base.items v.items).img).map Oe)) [.slice q.M (aL base.items) q.m]/\Same [] w0 w'):=by
 have hxi:=(Fe hX).2.2.2.2.2;have hyi:=(Fe hY).2.2.2.2.2;simp only at hxi hyi;obtain⟨mp,hmp,hri,hb64,hm100,hv64,hall,hlaid⟩:=laid_rows hex hey;refine Ga func82 ntmps82 ?_;intro hF;refine rn 3 ?_;rintro b1 w hb1 hF -;refine rn 1 ?_;rintro b2 w hb2 hF -;refine rn 1 ?_;rintro b3 w hb3 hF -;refine rn 9<|Gc (rows_yes _ _ _ (hG.ext hF.same) base.items v.items x.B y.B x.e y.e (hF.rep hxi) (hF.rep hyi) hxo hyo _ _ O O hex hey) ?_;rintro _ w ⟨Az,cz,rfl,hMt,hE⟩;rw[hmp]at hMt ⊢;have hM:=RX.made (ids:=[b3,b2,b1]) hF.same.size (λx hx=>hF.lt_ids qK) hMt;have hF:=hF.ext hE;clear hE hMt;refine rn 13<|Ca (v:=.bool false) (Ed Q7 kX) ?_;refine rn 19 ?_;intro w hF hE;have hM:=hM.store hE qK;refine rn 9<|Gc (gaps_yes _ _ (aL base.items) mp Az cz hM.rep hri hb64 hm100 (aL v.items) hv64 hall) ?_;rintro _ w ⟨og,rfl,hRt,hE⟩;have hO:=RX.made (ids:=[b3,b2,b1]) hF.same.size (λx hx=>hF.lt_ids qK) hRt;have hF:=hF.ext hE;have hM:=hM.ext hE;clear hE hRt;refine rn 5 ?_;intro w hF hE;have hM:=hM.store hE qK;have hO:=hO.store hE qK;refine rn 6 ?_;refine Gc (image_yes _ _ (aL base.items) mp Az cz hM.rep hri hb64 hm100 (λz hz=>by have:=hall z hz;omega)) ?_;rintro _ w ⟨oi,rfl,hRt,hE⟩;have hI:=RX.made (ids:=[b3,b2,b1]) hF.same.size (λx hx=>hF.lt_ids qK) hRt;have hF:=hF.ext hE;have hO:=hO.ext hE;clear hE hRt hM;refine rn 5 ?_;intro w hF hE;have hO:=hO.store hE qK;have hI:=hI.store hE qK;refine rn 6 ?_;intro w hF hE;have hO:=hO.store hE qK;have hI:=hI.store hE qK;refine rn 4 ⟨⟨y.B,y.e,some ⟨og,0,none⟩,aL base.items+1,some ⟨oi,0,none⟩,aL base.items⟩,O,O,O,?_,?_,hF.same⟩
 ·rw[hlaid];exact hO.done
 rw[hlaid];exact hI.done
def laid_no0(base v:Tree)(x y:Tv)(S S':Nat->Prop)(w0:World)(hG:Gl w0)(hX:Rep S w0 (Ta base) (Tv.mk x.k x.t x.A x.n x.c x.B (aL base.items) x.e).cells)(hY:Rep S' w0 (Ta v) (Tv.mk y.k y.t y.A y.n y.c y.B (aL v.items) y.e).cells)(hxo:∀z∈base.items,Zm z)(hyo:∀z∈v.items,Zm z)(hne:¬(Pe base.items=0/\Pe v.items=0)):Calls prog 82 #[.agg #[J (x.k),I (x.t),.slice x.A x.n x.c,.slice x.B (aL base.items) x.e],.agg #[J (y.k),I (y.t),.slice y.A y.n y.c,.slice y.B (aL v.items) y.e]] w0 (Qb λv_ w'=>v_=.tuple #[.agg #[aQ,aQ,aQ],.bool false]/\Same [] w0 w'):=by
 have errR_z:∀{a b:List Tree},SS a b=0->Pe a=0/\Pe b=0:=fun {a b} h=>by unfold SS at h;split at h;(cases h);(split at h;(assumption);(cases h))
 have hxi:=(Fe hX).2.2.2.2.2;have hyi:=(Fe hY).2.2.2.2.2;simp only at hxi hyi;refine Ga func82 ntmps82 ?_;intro hF;refine rn 3 ?_;rintro b1 w hb1 hF -;refine rn 1 ?_;rintro b2 w hb2 hF -;refine rn 1 ?_;rintro b3 w hb3 hF -;refine rn 9<|Sa (rows_no _ _ _ (hG.ext hF.same) base.items v.items x.B y.B x.e y.e (hF.rep hxi) (hF.rep hyi) hxo hyo hne) ?_;rintro w hF -;refine rn 13<|Ca (v:=.bool true) (Ug Q7 (by exact λh=>hne<|errR_z h)) ?_;refine rn 7 ?_;rintro w hF -;refine rn 4 ?_;exact⟨O,hF.same⟩
def KA(base v:Tree)(x y:Tv)(S S':Nat->Prop)(w0:World)(hG:Gl w0)(hX:Rep S w0 (Ta base) x.cells)(hY:Rep S' w0 (Ta v) y.cells)(hb:TinyT base)(hv:TinyT v)(hex:Pe base.items=0)(hey:Pe v.items=0) :
    Calls prog 82 #[.agg x.cells.toArray,.agg y.cells.toArray] w0 (Qb λu w'=>∃q:Yv,q.B=y.B/\q.e=y.e/\u=.tuple #[.agg (q.cells (aL v.items) (aL base.items)).toArray,.bool true]/\Rep (Btw w0 w') w' (R6 (aL base.items+1) (Fc base.items v.items).gap) [.slice q.G (aL base.items+1) q.g]/\Rep (Btw w0 w') w' (.slice (((List.range (aL base.items)).map (Fc base.items v.items).img).map Oe)) [.slice q.M (aL base.items) q.m]/\Same [] w0 w'):=by
  have e1:=(Fe hX).2.2.2.1;have e2:=(Fe hY).2.2.2.1;obtain⟨k,t,A,n,c,B,m,e⟩:=x;obtain⟨k',t',A',n',c',B',m',e'⟩:=y;simp only at e1 e2;subst e1 e2;exact laid_yes0 base v ⟨k,t,A,n,c,B,_,e⟩ ⟨k',t',A',n',c',B',_,e'⟩ S S' w0 hG hX hY hb.itemsOk hv.itemsOk hex hey
def BH(base v:Tree)(x y:Tv)(S S':Nat->Prop)(w0:World)(hG:Gl w0)(hX:Rep S w0 (Ta base) x.cells)(hY:Rep S' w0 (Ta v) y.cells)(hb:TinyT base)(hv:TinyT v)(hne:¬(Pe base.items=0/\Pe v.items=0)) :
    Calls prog 82 #[.agg x.cells.toArray,.agg y.cells.toArray] w0 (Qb λu w'=>u=.tuple #[.agg #[aQ,aQ,aQ],.bool false]/\Same [] w0 w'):=by
  have e1:=(Fe hX).2.2.2.1;have e2:=(Fe hY).2.2.2.1;obtain⟨k,t,A,n,c,B,m,e⟩:=x;obtain⟨k',t',A',n',c',B',m',e'⟩:=y;simp only at e1 e2;subst e1 e2;exact laid_no0 base v ⟨k,t,A,n,c,B,_,e⟩ ⟨k',t',A',n',c',B',_,e'⟩ S S' w0 hG hX hY hb.itemsOk hv.itemsOk hne
theorem bput_c(y:By)(n g:Nat)(r:Yv)(S S':Nat->Prop)(w0:World)(hG:Gl w0)(hI:Rep S w0 (.slice (Rb y.items)) [.slice r.B (aL y.items) r.e])(hGp:Rep S' w0 (R6 (n+1) y.gap) [.slice r.G (n+1) r.g])(hok:ByOk n y)(hg:g<=n)(hn:n<=64)(hto:∀z∈y.items,TinyT z):Calls prog 112 #[.agg (r.cells (aL y.items) n).toArray,J (g:Int)] w0 (Qb λv w'=>∃t:Tv,v=.agg t.cells.toArray/\Rep (Btw w0 w') w' (Ta (.node 5 [] [] (y.put g))) t.cells/\Same [] w0 w'):=by
 obtain⟨ad,B,e,hA,hk,hx⟩:=hGp.gapAt (i:=g) kX;obtain⟨hgl,hgm⟩:=hok.gap g hg;refine Ga func112 ntmps112 ?_;intro hF;refine rn 3 ?_;rintro b1 w hb1 hF -;refine rn 1 ?_;rintro b2 w hb2 hF -;refine rn 4<|Ca (w':=w) (v:=.agg #[J 5,I [],aQ,aQ]) Gb ?_;refine rn 1 ?_;rintro b3 w hb3 hF -;refine rn 8<|Ca (v:=.pointer<|some<|ad.add<|g*1) (Ea (i:=(g:Int)) Cj hA) ?_;refine Ca (v:=.slice (B) (aL (y.gap g)) e) (Ma rZ<|hF.cellE hk Da)<|rn 5 ?_;refine Wa (λμ σ w=>∃(j:Nat),∃(A1:Option Addr),∃(c1:Nat),∃(sk:List (Nat × Obj)),∃(vals:List Value),μ=aL (y.gap g)-j/\(j<=aL (y.gap g))/\(SlB 25 4 A1 j c1 vals sk)/\(RX w0 ([b3,b2,b1]++ids sk) w (((y.gap g).take j).map λi=>Ta<|y.items.getD i.toNat zeroT) vals)/\AllEq σ [(2,V b1),(4,V b2),(5,V b3),(13,.slice (B) (aL (y.gap g)) e),(14,J<|(aL (y.gap g):Nat)),(15,J<|(j:Int))]/\FR w0 [] ([(b3,.cells #[J 5,I [],aQ,.slice A1 j c1] 25),(b2,.cells #[J 0,I [],aQ,aQ] 25),(b1,.cells #[.slice r.B (aL y.items) r.e,.slice (r.G) ((n+1)) r.g,.slice r.M n r.m] 112)]++(sk++[])) w) _ ⟨0,none,0,[],[],O,cZ _,SlB.nil _ _,RX.nil,Ib,hF⟩ ?_;rintro μ σ w ⟨j,A1,c1,sk,vals,rfl,hj,hK,hV,hzz,hF⟩;refine Tf hzz 7 ⟨λhc0=>?_,λhc0=>?_⟩;refine rn 5 ?_;have hjl:j<aL (y.gap g):=by_Om
 obtain⟨q,hq,hqe⟩:=hgm _<|eQ hjl;obtain⟨ado,co,hAo,hlo,hko,hro⟩:=hI.tree_elem (i:=q) hq;have hoo:=hro.one_;have hq64:=(Rep.slice_len hI).2;refine rn 1 ?_;obtain⟨ad0,hA0,hk0,hx0⟩:=(hF.rep hx).int_elem (i:=j) (hjl);rw[hqe]at hk0;refine Ca (v:=.pointer<|some<|ad0.add<|j*1) (Ea (i:=(j:Int)) Se hA0)<|Ca (v:=J<|(q:Int)) (Ma pZ hk0) ?_;refine rn 3<|Yb (.of [11]) (bQ [0,1,2,3,4,5,6]<|cQ [7,8,9]<|.free 10<|.act 11 .nil) hF ?_;intro w hF hE;have hV:=hV.ext hE;refine⟨λwq=>FR w0 [] [(b3,.cells #[J 5,I [],aQ,.slice A1 j c1] 25),(b2,.cells #[J 0,I [],aQ,aQ] 25),(b1,.cells #[.slice r.B (aL y.items) r.e,.slice (r.G) ((n+1)) r.g,.slice r.M n r.m] 112)] wq,hF.mid 0 3,?_⟩;refine rn 5<|Fa O (v:=.pointer<|some<|ado.add<|q*4) (λw hC=>Ea (i:=(q:Int)) Ad hAo) ?_;refine Fa O (v:=.agg<|List.toArray co) (λw hC=>Pa (l:=co) oZ tZ O hlo λu h=>hC.cellE (hko u h) Da)<|Bf (DI y.items[q] (hto _<|eQ hq).ok.sz _ _ co (hF.rep hro) (hto _<|eQ hq).ok.ok (hG.ext hF.same)) ?_;rintro _ w ⟨ct,rfl,hRt,hE⟩;obtain⟨z,rfl,-⟩:=Hk hRt;rw[Jq (hto _<|eQ hq).1]at hRt;have hQ:=RX.made (ids:=[b3,b2,b1]++ids sk) hF.same.size (λx hx=>hF.lt_ids rJ) hRt;have hF:=hF.ext hE;have hV:=hV.ext hE;clear hE hRt;refine⟨hF.su,?_⟩;refine rn 1 ?_;intro b4 w hb4 hF hE;have hV:=hV.alloc hE hb4;have hQ:=hQ.alloc hE hb4;refine X7 hK (len':=j+1) (ys:=vals++z.cells) (O) (O) ?_;intro A1 c1 k_1 w hS1_k hF hE hnew;have hks:∀x∈sk.map (·.1),x∈ids sk:=λ_ h=>h;have hV:=hV.grow hE hnew (λx hx=>by have:=hks x hx;simp[this]);have hQ:=hQ.grow hE hnew (λx hx=>by have:=hks x hx;simp[this]);refine rn 2 ?_;intro w hF hE;have hV:=hV.store hE qK;have hQ:=hQ.store hE qK;refine rn 4<|Kc Ui ?_
 refine rn 2 ?_;refine Ja ⟨_,?_,j+1,A1,c1,k_1,vals++z.cells,rfl,kX,hS1_k,(by rw[iQ hjl,jQ,List.map_singleton,hqe,show y.items.getD ((q:Int).toNat) zeroT=y.items[q] by simp[List.getD,hq]];exact (hV.append hQ).sub qH),Ib,hF.su⟩;omega;refine rn 6 ?_;intro w hF hE;have hV:=hV.store hE qK;refine rn 3 ?_;obtain rfl:j=aL (y.gap g):=by_Om
 refine⟨⟨5,[],none,0,0,A1,aL (y.gap g),c1⟩,O,?_,hF.same⟩;have hput:y.put g=(y.gap g).map λi=>y.items.getD i.toNat zeroT:=MW hgm;rw[List.take_length]at hV;rw[hput];refine Rep.tree_mk ⟨by_Om,by_Om⟩ Da (Rep.nil_slice 0 kX none) ?_;rw[Pc,List.map_map];exact hK.rep (pre:=[_,_,_]) (post:=[]) hF (hV.sub (ids':=[]) Da) Da
def ZX(y:By)(n g:Nat)(r:Yv)(S S':Nat->Prop)(w0:World)(hI:Rep S w0 (.slice (Rb y.items)) [.slice r.B (aL y.items) r.e])(hIm:Rep S' w0 (.slice (((List.range n).map y.img).map Oe)) [.slice r.M n r.m])(hok:ByOk n y)(hg:g<n)(hn:n<=64):Calls prog 113 #[.agg (r.cells (aL y.items) n).toArray,J (g:Int)] w0 (Qb λv w'=>∃q:Sv,v=.agg q.cells.toArray/\Rep S w' (Xc (Ni (y.item g))) q.cells/\Same [] w0 w'):=by
 obtain⟨ad,hA,hk,hx⟩:=hIm.int_elem (i:=g) (aS hg);rw[List.getElem_map,List.getElem_range]at hk;refine Ga func113 ntmps113 ?_;intro hF;refine rn 3 ?_;rintro b1 w hb1 hF -;refine rn 1 ?_;rintro b2 w hb2 hF -;refine rn 8<|Ca (v:=.pointer<|some<|ad.add<|g*1) (Ea (i:=(g:Int)) Se hA) ?_;refine Ca (v:=J<|y.img g) (Ma pZ<|hF.cellE hk Da)<|rn 4 ⟨λhc0=>?_,λhc0=>?_⟩;refine rn 2<|Ca (w':=w) (v:=.agg #[.bool false,J 0,I [],aQ,aQ]) Gb ?_;refine rn 1 ?_;rintro w hF -;refine rn 3 ⟨⟨false,YY⟩,O,?_,hF.same⟩;have e:y.item g=none:=by unfold By.item By.at;rw[uQ hc0]
 rw[e];exact L8;obtain⟨q,hq,hqe⟩:=(hok.img g hg).resolve_left hc0;have hk2:=hk;rw[hqe]at hk2;obtain⟨ado,co,hAo,hlo,hko,hro⟩:=hI.tree_elem (i:=q) hq;obtain⟨z,rfl,-⟩:=Hk hro;have hoo:=hro.one_;have hq64:=(Rep.slice_len hI).2;refine rn 3<|Wd (zs:=.of [10]) (bQ [0,1,2,3,4,5,6,7,8]<|.act 9<|.act 10 .nil) hF ?_;intro w hF;refine rn 5<|Fa O (v:=.pointer<|some<|ad.add<|g*1) (λw hC=>Ea (i:=(g:Int)) Se hA) ?_;refine Fa O (v:=J<|(q:Int)) (λw hC=>Ma pZ<|hC.cellE hk2 Da)<|Fa O (v:=.pointer<|some<|ado.add<|q*4) (λw hC=>Ea (i:=(q:Int)) Ad hAo) ?_;refine Fa O (v:=.agg (z.cells).toArray) (λw hC=>Pa (l:=z.cells) oZ tZ O hlo λu h=>hC.cellE (hko u h) Da)<|Ie (Jo z) ?_;rintro w hF -;refine rn 1 ?_;rintro w hF -;refine rn 3 ⟨⟨true,z⟩,O,?_,hF.same⟩;have e:y.item g=some y.items[q]:=by unfold By.item By.at;rw[hqe,tQ kX];simp[hq]
 rw[e];exact Sj (s:=⟨true,y.items[q]⟩)<|hF.rep hro
def ZT{x:Tree}(h:TinyT x):Ro ⟨true,x⟩=⟨true,x⟩:=by simp[Ro,Jq h.1]
def hole_row{w:World}(h:n<1000):RepL S w (Rb [Lj n]) [J 7,I (Il n),aQ,aQ]:=by
  have hn:=(U9 h).2.2.2;rw[Pc];have:=RepL.cons_mk (Rep.tree_mk (S:=S) (w:=w) (k:=7) (t:=Il n) (ks:=[]) (xs:=[]) ⟨by_Om,by_Om⟩ kX (Rep.nil_slice 0 kX none)<|Rep.nil_slice 0 kX none) RepL.nil_mk;rw[qQ]at this;exact this
theorem Bw(h:n<=64):aL (Lib.itoa n)<=4:=by
  have h1:(List.range 65).all (λn=>decide (aL (Lib.itoa n)<=4))=true:=by kernel_rfl
  grind
theorem gap_len{g:Nat}(h:g<=64):aL (Ws g)<=5:=by grind [Bw,Ws]
theorem gap_c0(g:Nat)(P Q:List Tree)(x y:Tv)(path:List Str)(PA:Option Addr)(pc:Nat)(SP S S':Nat->Prop)(w0:World)(sm:List (Nat × Obj))(pb:Nat)(RV:Value)(cfs:List Cf)(i:List Nat)(hM:Mi i w0 sm pb RV cfs)(hG:Gl w0)(hOp:Off SP w0 sm)(hP:Rep SP w0 (Ya path) [.slice PA (aL path) pc])(hOx:Off S w0 sm)(hX:Rep S w0 (Ta (.node 5 [] [] P)) (Tv.mk x.k x.t x.A x.n x.c x.B (aL P) x.e).cells)(hOy:Off S' w0 sm)(hY:Rep S' w0 (Ta (.node 5 [] [] Q)) (Tv.mk y.k y.t y.A y.n y.c y.B (aL Q) y.e).cells)(hp:TinyT (.node 5 [] [] P))(hq:TinyT (.node 5 [] [] Q))(hn:aL cfs<1000)(hpl:aL path<=900)(hg:g<=64):Calls prog 111 #[V pb,.slice PA (aL path) pc,J (g:Int),.agg #[J (x.k),I (x.t),.slice x.A x.n x.c,.slice x.B (aL P) x.e],.agg #[J (y.k),I (y.t),.slice y.A y.n y.c,.slice y.B (aL Q) y.e]] w0 (Qb λv w'=>∃sm' A c,v=.slice A (He path g (aL cfs) P Q).1.length c/\Rep (λb=>S b\/S' b\/Nq w0 sm' w' b) w' (.slice (Rb (He path g (aL cfs) P Q).1)) [.slice A (He path g (aL cfs) P Q).1.length c]/\Mo' i w0 sm w' sm' pb RV (cfs++(He path g (aL cfs) P Q).2)):=by
 have hxi:=(Fe hX).2.2.2.2.2;have hyi:=(Fe hY).2.2.2.2.2;simp only[Tree.items]at hxi hyi;have hoff:∀x∈ids sm,8<=x:=λx hx=>(hM.low x<|hM.sub x hx).1;have hn0:TinyT (.node 5 [] [] []):=hp.part Da (by simp[Qa]);have pm0:aL P=0->He path g (aL cfs) P Q=(Q,[]):=λh=>by unfold He;rw[uQ h]
 have pm1:¬aL P=0->aL Q=0\/Zn (.node 5 [] [] P) (.node 5 [] [] Q)=true->He path g (aL cfs) P Q=(P,[]):=λh k=>by unfold He;rw[tQ h,uQ (by rwa [Hw hp.1 hq.1]at k)]
 have pm2:¬aL P=0->¬(aL Q=0\/Zn (.node 5 [] [] P) (.node 5 [] [] Q)=true)->He path g (aL cfs) P Q=([Lj (aL cfs)],[⟨path++[Ws g],5,⟨true,.node 5 [] [] []⟩,⟨true,.node 5 [] [] P⟩,⟨true,.node 5 [] [] Q⟩⟩]):=λh k=>by unfold He;rw[tQ h,tQ (by rwa [Hw hp.1 hq.1]at k)]
 refine Bc func111 ntmps111 O O ?_;have hF:FR w0 (ids sm) ([]++(sm++[])) w0:=hM.start;refine rn 3 ?_;rintro b1 w hb1 hF -;refine rn 1 ?_;rintro b2 w hb2 hF -;refine rn 15 ⟨λhc0=>?_,λhc0=>?_⟩
 ·
  refine rn 8 ?_;refine⟨sm,y.B,y.e,by rw[pm0 kX],?_,by rw[pm0 kX,qQ];exact hM.m.step hF.same hM.sub λx hx=>(mQ.1 hx).elim .inl λh=>.inl<|hM.sub x h,hF.hh,hF.mc⟩;rw[pm0 kX];exact (hF.repM hOy hyi).weaken λ_ h _=>.inr<|.inl h
 refine rn 8 ⟨λhg0=>?_,λhg0=>?_⟩
 ·
  refine rn 16 ?_;refine⟨sm,x.B,x.e,by rw[pm1 kX<|.inl kX],?_,by rw[pm1 kX<|.inl kX,qQ];exact hM.m.step hF.same hM.sub λx hx=>(mQ.1 hx).elim .inl λh=>.inl<|hM.sub x h,hF.hh,hF.mc⟩;rw[pm1 kX<|.inl kX];exact (hF.repM hOx hxi).weaken λ_ h _=>.inl h
 refine rn 2<|Sa (MH (.node 5 [] [] P) (.node 5 [] [] Q) hp.ok.sz hq.ok.sz _ _ _ _ _ (hF.repM hOx hX) (hF.repM hOy hY) hp.ok.ok hq.ok.ok<|hG.same hF.same hoff) ?_;rintro w hF -;refine rn 5 ⟨λhc1=>?_,λhc1=>?_⟩
 ·
  refine rn 8 ?_;refine⟨sm,x.B,x.e,by rw[pm1 kX<|.inr (aS hc1)],?_,by rw[pm1 kX<|.inr (aS hc1),qQ];exact hM.m.step hF.same hM.sub λx hx=>(mQ.1 hx).elim .inl λh=>.inl<|hM.sub x h,hF.hh,hF.mc⟩;rw[pm1 kX<|.inr (aS hc1)];exact (hF.repM hOx hxi).weaken λ_ h _=>.inl h
 refine rn 5<|Ca (w':=w) (v:=.agg #[J 5,I [],aQ,aQ]) Gb ?_;refine rn 1 ?_;rintro b3 w hb3 hF -;refine rn 3<|Yb (.of [15]) (bQ [0,1,2,6,8,10]<|.alt 3 (.free 4<|.alt 5 (.alt 7 (.alt 9 (.alt 11 (.free 12<|.alt 13 (.act 14<|.act 15 .nil)<|cQ [14,13,15] .nil)<|.act 14<|.act 11<|.free 12<|.act 13<|.act 15 .nil)<|cQ [14,9,11]<|.free 12<|.act 13<|.act 15 .nil)<|cQ [14,7,9,11]<|.free 12<|.act 13<|.act 15 .nil)<|cQ [14,5,7,9,11]<|.free 12<|.act 13<|.act 15 .nil)<|.act 14<|.act 3<|.free 4<|cQ [5,7,9,11]<|.free 12<|.act 13<|.act 15 .nil) hF ?_;rintro w hF -;refine⟨λwq=>FR w0 (ids sm) [(b3,.cells #[J 5,I [],aQ,aQ] 25),(b2,.cells #[J y.k,I y.t,.slice y.A y.n y.c,.slice y.B (aL Q) y.e] 25),(b1,.cells #[J x.k,I x.t,.slice x.A x.n x.c,.slice x.B (aL P) x.e] 25)] wq,hF.mid 0 3,?_⟩;refine rn 6 ?_
 repeat' first
  |refine Yq ?_ ?_|refine Qh 3<|Ie (J9 (g:Int) kX kX<|hG.same hF.same hoff) ?_;rintro w hF -
  |
   refine Qh 5<|Bf (Ow path (Ws g) PA pc _ _ (hF.repM hOp hP) (fQ (gap_len hg) Ra) kX) ?_;rintro _ w ⟨Ap,cp,rfl,hRt,hE⟩
   first|(have hPX:=RX.made (ids:=[b301,b3,b2,b1]++ids sm) hF.same.size (λx hx=>hF.lt_ids kA) hRt)|(have hPX:=RX.made (ids:=[b3,b2,b1]++ids sm) hF.same.size (λx hx=>hF.lt_ids kA) hRt)
   have hF:=hF.ext hE;clear hE hRt;refine⟨hF.su,?_⟩
  |refine Qh 7<|Ie (Jo ⟨5,[],none,0,0,none,0,0⟩) ?_;intro w hF hE;have hPX:=hPX.ext hE|refine Qh 9<|Ie (Jo ⟨x.k,x.t,x.A,x.n,x.c,x.B,aL P,x.e⟩) ?_;intro w hF hE;have hPX:=hPX.ext hE|refine Qh 11<|Ie (Jo ⟨y.k,y.t,y.A,y.n,y.c,y.B,aL Q,y.e⟩) ?_;intro w hF hE;have hPX:=hPX.ext hE
  |
   refine Qh 13 ?_
   first|(refine Bf (Nz (path++[Ws g]) 5 ⟨true,.node 5 [] [] []⟩ ⟨true,.node 5 [] [] P⟩ ⟨true,.node 5 [] [] Q⟩ ⟨true,⟨5,[],none,0,0,none,0,0⟩⟩ ⟨true,⟨x.k,x.t,x.A,x.n,x.c,x.B,aL P,x.e⟩⟩ ⟨true,⟨y.k,y.t,y.A,y.n,y.c,y.B,aL Q,y.e⟩⟩ Ap cp _ (λb=>S b\/S' b) _ sm pb RV cfs ([b301,b3,b2,b1]++i) (hM.at hG hF Da) (Gh (sm:=sm) Vb) ((hF.offM hOx).or (hF.offM hOy)) hPX.rep (Yn (Sj (s:=⟨true,.node 5 [] [] []⟩)<|Rep.tree_mk ⟨by_Om,by_Om⟩ Da (Rep.nil_slice 0 kX none)<|Rep.nil_slice 0 kX none) (Sj (s:=⟨true,.node 5 [] [] P⟩)<|(hF.repM hOx hX).weaken λ_ h _=>.inl h)<|Sj (s:=⟨true,.node 5 [] [] Q⟩)<|(hF.repM hOy hY).weaken λ_ h _=>.inr h) hn0.ok hp.ok hq.ok hn zK ⟨by_Om,by_Om⟩<|hG.same hF.same hoff) ?_)|(refine Bf (Nz (path++[Ws g]) 5 ⟨true,.node 5 [] [] []⟩ ⟨true,.node 5 [] [] P⟩ ⟨true,.node 5 [] [] Q⟩ ⟨true,⟨5,[],none,0,0,none,0,0⟩⟩ ⟨true,⟨x.k,x.t,x.A,x.n,x.c,x.B,aL P,x.e⟩⟩ ⟨true,⟨y.k,y.t,y.A,y.n,y.c,y.B,aL Q,y.e⟩⟩ Ap cp _ (λb=>S b\/S' b) _ sm pb RV cfs ([b3,b2,b1]++i) (hM.at hG hF Da) (Gh (sm:=sm) Vb) ((hF.offM hOx).or (hF.offM hOy)) hPX.rep (Yn (Sj (s:=⟨true,.node 5 [] [] []⟩)<|Rep.tree_mk ⟨by_Om,by_Om⟩ Da (Rep.nil_slice 0 kX none)<|Rep.nil_slice 0 kX none) (Sj (s:=⟨true,.node 5 [] [] P⟩)<|(hF.repM hOx hX).weaken λ_ h _=>.inl h)<|Sj (s:=⟨true,.node 5 [] [] Q⟩)<|(hF.repM hOy hY).weaken λ_ h _=>.inr h) hn0.ok hp.ok hq.ok hn zK ⟨by_Om,by_Om⟩<|hG.same hF.same hoff) ?_)
   rintro _ w2 ⟨sm2,rfl,hO⟩;have hM2:=hO.m;have hF:=hF.swapM hO.m hO.hh hO.mc;rw[ZT hn0,ZT hp,ZT hq]at hM2;have hz:=hF.same.size;clear hO hPX;refine⟨hF.su,?_⟩
  |
   refine Qh 14<|rn 1 ?_;intro b301 w hb301 hF hE
   try have hnb301:=hz
   try rw[<-hb301]at hnb301
   try have hz:=fQ hz hE.size
   try have hM2:=hM2.alloc hE hb301
   try have hPX:=hPX.alloc hE hb301
  |refine Qh 15<|rn 1 ?_;intro w hF hE;have hz:=fQ hz hE.size;have hM2:=hM2.store hE Da
  |
   refine rn 7 ?_;intro b302 w hb302 hF hE;have hnb302:=hz;rw[<-hb302]at hnb302;have hz:=fQ hz hE.size;have hM2:=hM2.alloc hE hb302;refine rn 4 ?_;have hpm:=pm2 kX qB;refine⟨sm2,some ⟨b302,0,none⟩,1,by rw[hpm];rfl,?_,by rw[hpm];exact hM2.sub Vb,hF.hh,hF.mc⟩;rw[hpm];refine (hF.rowS (S:=λ_=>False) (n:=1) 0 O (hole_row hn) Da kX).weaken λz h _=>.inr<|.inr ?_;rcases h with h|rfl
   ·exact h.elim
   exact⟨⟨by_Om,Ia<|hF.heap (i:=0) O,_,_,hF.heap (i:=0) O⟩,hF.newM 0 O⟩
  |refine KC 4 ?_;refine Fa O (v:=I<|([43])++(Lib.itoa (g:Int))) (λw hC=>Rj O O (by have:=Bw hg;simp only[kQ,aZ];omega)) ?_|refine KC 12<|Fa O (v:=.agg #[.bool true,J 5,I [],aQ,aQ,.bool true,J x.k,I x.t,.slice x.A x.n x.c,.slice x.B (aL P) x.e,.bool true,J y.k,I y.t,.slice y.A y.n y.c,.slice y.B (aL Q) y.e]) (λw hC=>by kernel_rfl) ?_
def gap_c(g:Nat)(P Q:List Tree)(x y:Tv)(path:List Str)(PA:Option Addr)(pc:Nat)(SP S S':Nat->Prop)(w0:World)(sm:List (Nat × Obj))(pb:Nat)(RV:Value)(cfs:List Cf)(i:List Nat)(hM:Mi i w0 sm pb RV cfs)(hG:Gl w0)(hOp:Off SP w0 sm)(hP:Rep SP w0 (Ya path) [.slice PA (aL path) pc])(hOx:Off S w0 sm)(hX:Rep S w0 (Ta (.node 5 [] [] P)) x.cells)(hOy:Off S' w0 sm)(hY:Rep S' w0 (Ta (.node 5 [] [] Q)) y.cells)(hp:TinyT (.node 5 [] [] P))(hq:TinyT (.node 5 [] [] Q))(hn:aL cfs<1000)(hpl:aL path<=900)(hg:g<=64) :
    Calls prog 111 #[V pb,.slice PA (aL path) pc,J (g:Int),.agg x.cells.toArray,.agg y.cells.toArray] w0 (Qb λv w'=>∃sm' A c,v=.slice A (He path g (aL cfs) P Q).1.length c/\Rep (λb=>S b\/S' b\/Nq w0 sm' w' b) w' (.slice (Rb (He path g (aL cfs) P Q).1)) [.slice A (He path g (aL cfs) P Q).1.length c]/\Mo' i w0 sm w' sm' pb RV (cfs++(He path g (aL cfs) P Q).2)):=by
  have e1:=(Fe hX).2.2.2.1;have e2:=(Fe hY).2.2.2.1;obtain⟨k,t,A,n,c,B,m,e⟩:=x;obtain⟨k',t',A',n',c',B',m',e'⟩:=y;simp only[Tree.items]at e1 e2;subst e1 e2;exact gap_c0 g P Q ⟨k,t,A,n,c,B,_,e⟩ ⟨k',t',A',n',c',B',_,e'⟩ path PA pc SP S S' w0 sm pb RV cfs i hM hG hOp hP hOx hX hOy hY hp hq hn hpl hg
end Go.Scarf
