/- A part of the proof. -/
import Derived.Test.YtidlkjpohhbbcaaGreatDoorP3
set_option linter.all false
set_option maxHeartbeats 8000000
set_option maxRecDepth 10000
namespace Go.Scarf
open List renaming length->aL
variable {α:Type}{w':World}{u v:Value}{S:Nat->Prop}{A B:Option Addr}{e m nk nx t:Nat}{x y:Operand}{xs:List Value}{txt:Str}
structure Nodes where
  lab:Nat->Str
  lf:Nat->Nat
  le:∀x,lf x<=x
section
variable {a b:Nodes}{i k j l:Nat}
end
def lfOk(fs:List Int)(n:Nat):Prop:=∀j (h:j<aL fs),j<n->0<=fs[j]/\fs[j]<=(j:Int)/\∀i (hi:i<j),fs[j]<=(i:Int)->fs[j]<=fs[i]' Aa
def lfN(fs:List Int)(x:Nat):Nat:=min (fs.getD x 0).toNat x
theorem lfOk.at{fs:List Int}{n j:Nat}(h:lfOk fs n)(hj:j<aL fs)(hn:j<n):((lfN fs j:Nat):Int)=fs[j]:=by
  obtain⟨h1,h2,-⟩:=h j hj hn;grind [lfN]
inductive Rts (fs:List Int):Nat->List Nat->Prop
  | nil:Rts fs 0 []
  | snoc {r:Nat} {l:List Nat}:Rts fs (lfN fs r) l->Rts fs (r+1) (l++[r])
theorem Rts.last{fs:List Int}{p r:Nat}{l:List Nat}(h:Rts fs p (l++[r])):p=r+1/\Rts fs (lfN fs r) l:=by
  generalize e:l++[r]=m at h;cases h with
  | nil=>simp at e
  | snoc h1=>simp_all
def Rts.none{fs:List Int}{p:Nat}(h:Rts fs p []):p=0:=by
  generalize e:([]:List Nat)=m at h;cases h with
  | nil=>rfl
  | snoc h1=>simp at e
theorem Rts.len{fs:List Int}{p:Nat}{l:List Nat}(h:Rts fs p l):aL l<=p:=by
  induction h with
  | nil=>simp
  | snoc h1 ih=>grind [lfN]
theorem lfOk.snoc{fs:List Int}{j:Nat}(h:lfOk fs j)(hj:j<aL fs)(h0:0<=fs[j])(h1:fs[j]<=(j:Int))(hc:∀z (hz:z<j),fs[j]<=(z:Int)->fs[j]<=fs[z]' Aa):lfOk fs (j+1):=by
  intro i hi hn;by_cases e:i=j
  ·grind
  exact h i hi Aa
section
variable {ls gs ks:List Str}{fs hs is:List Int}
end
section
variable {ls gs:List Str}{fs hs:List Int}{r:Str}
end
set_option synthInstance.maxHeartbeats 0
set_option synthInstance.maxSize 9999
open Go.RowKit Go.Proofs Go.Proofs.Tryz
def rows_eq{a b:List α}{j:Nat}(h:∀i (h:i<aL a) (h2:i<aL b),i<j->a[i]=b[i])(hl:aL a=aL b)(hj:aL a<=j):a=b:=List.ext_getElem hl λi h1 h2=>h i h1 h2 Aa
theorem US{a b:List α}{j:Nat}{h1:j<aL a}{h2:j<aL b}(hq:∀i (h:i<aL a) (h2:i<aL b),i<j->a[i]=b[i])(h:a[j]=b[j]):∀i (h:i<aL a) (h2:i<aL b),i<j+1->a[i]=b[i]:=λi h3 h4 h5=>by
  grind
def ints_c(S S':Nat->Prop)(w0:World)(a b:List Int)(A B:Option Addr)(c e:Nat)(hX:Rep S w0 (.slice (a.map Lg)) [.slice A (aL a) c])(hY:Rep S' w0 (.slice (b.map Lg)) [.slice B (aL b) e]):Calls prog 33 #[.slice A (aL a) c,.slice B (aL b) e] w0 (Za λv w'=>v=.bool (decide (a=b))/\Same [] w0 w'):=by
 have hXl:=hX.slice_len;have hYl:=hY.slice_len;rw[rQ]at hXl hYl;refine Ea func33 ntmps33 ?_;intro hF;refine rn 16 ⟨λhc0=>?_,λhc0=>?_⟩;refine rn 6 ?_;exact⟨yQ Value.bool (fZ λq=>by subst q;omega).symm,hF.same⟩;refine rn 9 ?_;have hll:aL a=aL b:=Aa
 refine Sa (λμ σ w=>∃(j:Nat),μ=aL a-j/\(j<=aL a)/\(∀i (h:i<aL a) (h2:i<aL b),i<j->a[i]=b[i])/\AllEq σ [(0,.slice A (aL a) c),(1,.slice B (aL b) e),(5,J<|(j:Int))]/\FR w0 [] [] w) _ ⟨0,O,Aa,λi _ _ h=>by omega,Va,hF⟩ ?_;rintro μ σ w ⟨j,rfl,hj,hq,hzz,hF⟩;refine Wf hzz 10 ⟨λhc1=>?_,λhc1=>?_⟩;refine rn 5<|Rb (zs:=.of []) (bQ [0,1,2,3,4,5,6,7,8] .nil) hF ?_;intro w hF;refine rn 2 ?_;obtain⟨ad0,hA0,hk0,hx0⟩:=hX.int_elem (i:=j) Aa;refine Ga O (v:=.pointer<|some<|ad0.add<|j*1) (λw hC=>Ca (i:=(j:Int)) M1 hA0)<|Ga O (v:=J<|a[j]) (λw hC=>Xa pZ<|hC.cell0 hk0) ?_;refine rn 2 ?_;obtain⟨ad1,hA1,hk1,hx1⟩:=hY.int_elem (i:=j) Aa;refine Ga O (v:=.pointer<|some<|ad1.add<|j*1) (λw hC=>Ca (i:=(j:Int)) M1 hA1)<|Ga O (v:=J<|b[j]) (λw hC=>Xa pZ<|hC.cell0 hk1) ?_;refine rn 4 ⟨λhc2=>?_,λhc2=>?_⟩;refine rn 6 ?_;exact⟨yQ Value.bool (fZ λq=>by subst q;exact absurd rfl qW).symm,hF.same⟩;refine rn 5<|Zb (Wd<|((j+1:Nat):Int)) ?_;refine rn 2<|Ha ⟨_,?_,j+1,O,Aa,US hq<|Classical.not_not.1 qW,Va,hF⟩;omega;refine rn 8 ?_;exact⟨yQ Value.bool (gZ<|rows_eq hq hll Aa).symm,hF.same⟩
theorem VK{x:Tree}(h:Id x=true):Gs x=x:=by grind [Gs,Zq]
inductive Kin:Value->Value->Prop where
  | same (v:Value):Kin v v
  | int (n m:Int):-9223372036854775808<=m->m<=9223372036854775807->Kin (J n) (J m)
  | str (s t:ByteArray):t.size<=9223372036854775807->Kin (.string s) (.string t)
def Kin.trans{a b c:Value}(h:Kin a b)(k:Kin b c):Kin a c:=by
  cases h with
  | same=>exact k
  | int n m h1 h2 =>
    cases k with
    | same=>exact .int n m h1 h2
    | int _ q h3 h4=>exact .int n q h3 h4
  | str s t h1 =>
    cases k with
    | same=>exact .str s t h1
    | str _ q h3=>exact .str s q h3
inductive KinL:List Value->List Value->Prop where
  | nil:KinL [] []
  | cons {a b:Value} {l m:List Value}:Kin a b->KinL l m->KinL (a::l) (b::m)
theorem KinL.refl:∀l:List Value,KinL l l
  | []=>.nil
  | a::l=>.cons (.same a)<|KinL.refl l
theorem KinL.split:∀{c1 c2 d:List Value},KinL (c1++c2) d->∃d1 d2,d=d1++d2/\KinL c1 d1/\KinL c2 d2
  | [],c2,d,h=>⟨[],d,rfl,.nil,h⟩
  | a :: c1, c2, d, h => by
    cases h with
    | cons h1 h2 =>
      obtain⟨d1,d2,rfl,k1,k2⟩:=KinL.split h2;exact⟨_::d1,d2,O,.cons h1 k1,k2⟩
theorem KinL.of:∀{l m:List Value},aL l=aL m->(∀i (h:i<aL l) (h':i<aL m),Kin l[i] m[i])->KinL l m
  | [],[],_,_=>.nil
  | a::l,b::m,hl,h=>.cons (h 0 Da Da)<|KinL.of (aS hl) λi hi hi'=>h (i+1) (aS hi) (aS hi')
def Mold(w w':World):Prop:=∀a v,w.cell? a=some v->∃v',w'.cell? a=some v'/\Kin v v'
def Mold.refl(w:World):Mold w w:=λa v h=>⟨v,h,.same v⟩
def Mold.trans{a b c:World}(h:Mold a b)(k:Mold b c):Mold a c:=λx v hx=>by
  obtain⟨v1,h1,k1⟩:=h x v hx;obtain⟨v2,h2,k2⟩:=k x v1 h1;exact⟨v2,h2,k1.trans k2⟩
def Mold.same{w:World}(h:Same [] w w'):Mold w w':=λa v hc=>⟨v,((FR.start w []).ext h).cell0 hc,.same v⟩
theorem Mold.set{w:World}{a:Addr}(hc:w.cell? a=some u)(hk:Kin u v):Mold w (w.setCell a v):=λb x hb=>by
  have key:∀c e f,w.heap[a.block]? = some (.cells c e f)->(w.setCell a v).heap[a.block]? = some (.cells (c.setIfInBounds a.off v) e f):=by
    intro c e f hh;have hs:a.spot.isSome=false:=by
      unfold World.cell? at hc;grind
    simp[World.setCell,Array.getElem?_modify,hh,hs]
  by_cases hbl:b.block=a.block
  ·unfold World.cell? at hb hc ⊢
   rw[hbl]at hb ⊢;cases hh:w.heap[a.block]? with
   | none =>
     rw[hh]at hb;cases hb
   | some o =>
     rw[hh]at hb hc;cases o with
     | cells c e f =>
       rw[key c e f hh];simp only at hb hc ⊢;split at hb
       ·cases hb
       rename_i hsp
       rw[tQ hsp];split at hc
       ·cases hc
       by_cases ho : b.off = a.off
       ·rw[ho]at hb ⊢
        have hx:x=u:=by rw[hc]at hb;exact (lQ hb).symm
        subst hx;have hlt:a.off<c.size:=by
          rcases Nat.lt_or_ge a.off c.size with h|h
          ·exact h
          rw[Array.getElem?_eq_none h]at hc;cases hc
        exact⟨v,by simp[hlt],hk⟩
       exact⟨x,by rw[Array.getElem?_setIfInBounds_ne λe=>ho e.symm];exact hb,.same x⟩
     | _=>cases hb
  refine⟨x, ?_, .same x⟩;rw[<-hb];exact World.cell?_of_block (w:=w)<|Below.heap_setCell _ _ _ _ hbl
theorem CellsAt.mold{w:World}{ad:Addr}{cs:List Value}(h:CellsAt S w ad cs)(hm:Mold w w'):∃cs',CellsAt S w' ad cs'/\KinL cs cs':=by
  have key:∀n,n<=aL cs->∃l:List Value,aL l=n/\∀i (hi:i<aL l),w'.cell? (ad.add i)=some l[i]/\∀h':i<aL cs,Kin cs[i] l[i]:=by
    intro n
    induction n with
    | zero=>simp_all
    | succ n ih =>
      intro hn;obtain⟨l,hl,h1⟩:=ih Aa;obtain⟨v',h2,h3⟩:=hm _ _ (h n Aa).1;refine⟨l++[v'],by simp[hl],λi hi=>?_⟩;grind
  obtain⟨l,hl,h1⟩:=key (aL cs)<|gQ _;refine⟨l,λi hi=>⟨(h1 i hi).1,(h i Aa).2⟩,KinL.of hl.symm λi hi hi'=>(h1 i hi').2 hi⟩
theorem kin_int{n:Int}{d:List Value}(h:KinL [J n] d)(hn:-9223372036854775808<=n/\n<=9223372036854775807):∃m:Int,d=[J m]/\-9223372036854775808<=m/\m<=9223372036854775807:=by
  cases h with
  | cons h1 h2 =>
    cases h2;cases h1 with
    | same=>grind
    | int _ m h3 h4=>grind
theorem UB{s:Str}{d:List Value}(h:KinL [I s] d)(hs:aL s<=9223372036854775807):∃t:Str,d=[I t]/\aL t<=9223372036854775807:=by
  cases h with
  | cons h1 h2 =>
    cases h2;cases h1 with
    | same=>grind
    | str _ t h3 =>
      refine⟨t.data.toList,?_,by rw[Array.length_toList];exact h3⟩;grind
def VA{n c:Nat}{d:List Value}(h:KinL [.slice A n c] d):d=[.slice A n c]:=by
  cases h with
  | cons h1 h2 =>
    cases h2;cases h1;rfl
theorem YA{S:Nat->Prop}{w w':World}:∀{ks:List Str}{cs cs':List Value},RepL S w (ks.map Uj) cs->KinL cs cs'->∃ks':List Str,aL ks'=aL ks/\RepL S w' (ks'.map Uj) cs'
  | [], cs, cs', h, k => by
    have:=RepL.nil_inv h;subst this;cases k;exact⟨[],O,RepL.nil_mk⟩
  | s :: ks, cs, cs', h, k => by
    obtain⟨c1,c2,rfl,h1,h2⟩:=RepL.cons_inv h;obtain⟨d1,d2,rfl,k1,k2⟩:=k.split;obtain⟨rfl,hs⟩:=Rep.str_inv h1;obtain⟨t,rfl,ht⟩:=UB k1 hs;obtain⟨ks',hl,hr⟩:=YA h2 k2;exact⟨t::ks',by simp[hl],RepL.cons_mk (Rep.lit_mk (v:=I t) ht) hr⟩
def O_{w:World}{ks:List Str}{n c:Nat}(h:Rep S w (Ee ks) [.slice A n c])(hm:Mold w w'):∃ks':List Str,aL ks'=aL ks/\Rep S w' (Ee ks') [.slice A n c]:=by
  have hl:=h.slice_len;obtain⟨A',c',hA,h1,h2,h3⟩:=Rep.slice_inv h;simp only[List.cons.injEq,Value.slice.injEq,and_true]at hA;obtain⟨rfl,_,rfl⟩:=hA;by_cases hne:ks=[]
  ·subst hne
   exact⟨[],O,Rep.slice_mk (aS hl.1) hl.2.1 hl.2.2 λh=>absurd O h⟩
  obtain⟨ad, rfl, es, hc, hr⟩ := h3 (aS hne);obtain⟨es',hc',hk⟩:=hc.mold hm;obtain⟨ks',hl',hr'⟩:=YA hr hk;exact⟨ks',hl',Rep.slice_mk (by rw[hl.1];simp[hl']) hl.2.1 hl.2.2 λ_=>⟨ad,O,es',hc',hr'⟩⟩
def UQ(x:Tree):Prop:=∀(S:Nat->Prop)(w w':World)(cs cs':List Value),Rep S w (Na x) cs->Mold w w'->KinL cs cs'->∃x',La x'=La x/\Rep S w' (Na x') cs'
theorem I5{S:Nat->Prop}{w w':World}(hm:Mold w w'):∀{xs:List Tree}{cs cs':List Value},(∀x∈xs,UQ x)->RepL S w (Hc xs) cs->KinL cs cs'->∃xs':List Tree,aL xs'=aL xs/\Ra xs'=Ra xs/\RepL S w' (Hc xs') cs'
  | [], cs, cs', _, h, k => by
    have:=RepL.nil_inv h;subst this;cases k;exact⟨[],O,O,RepL.nil_mk⟩
  | x :: xs, cs, cs', hx, h, k => by
    obtain⟨c1,c2,rfl,h1,h2⟩:=RepL.cons_inv h;obtain⟨d1,d2,rfl,k1,k2⟩:=k.split;obtain⟨x',e1,r1⟩:=hx x Da S w w' c1 d1 h1 hm k1;obtain⟨xs',hl,e2,r2⟩:=I5 hm (λy hy=>hx y bT) h2 k2;exact⟨x'::xs',by simp[hl],by rw[Ra,Ra,e1,e2],RepL.cons_mk r1 r2⟩
def O8{w:World}{xs:List Tree}{n c:Nat}(hx:∀x∈xs,UQ x)(h:Rep S w (.slice (Hc xs)) [.slice A n c])(hm:Mold w w'):∃xs':List Tree,aL xs'=aL xs/\Ra xs'=Ra xs/\Rep S w' (.slice (Hc xs')) [.slice A n c]:=by
  have hl:=h.slice_len;obtain⟨A',c',hA,h1,h2,h3⟩:=Rep.slice_inv h;simp only[List.cons.injEq,Value.slice.injEq,and_true]at hA;obtain⟨rfl,_,rfl⟩:=hA;by_cases hne:xs=[]
  ·subst hne
   exact⟨[],O,O,Rep.slice_mk (aS hl.1) hl.2.1 hl.2.2 λh=>absurd O h⟩
  obtain⟨ad, rfl, es, hc, hr⟩ := h3 (λe => hne (List.eq_nil_of_length_eq_zero (by rw[<- Qe, e];rfl)));obtain⟨es',hc',hk⟩:=hc.mold hm;obtain⟨xs',hl',e',hr'⟩:=I5 hm hx hr hk;exact⟨xs',hl',e',Rep.slice_mk (by rw[hl.1];simp[hl']) hl.2.1 hl.2.2 λ_=>⟨ad,O,es',hc',hr'⟩⟩
def moldT(x:Tree):UQ x:=Tree.ind (Q:=UQ) (λk t ks xs ih S w w' cs cs' hR hm hk=>by
  obtain⟨A,c,B,e,rfl,h1,h2,hK,hX⟩:=hR.tree_inv;obtain⟨d1,d',rfl,k1,hk⟩:=KinL.split (c1:=[_]) hk;obtain⟨d2,d',rfl,k2,hk⟩:=KinL.split (c1:=[_]) hk;obtain⟨d3,d4,rfl,k3,k4⟩:=KinL.split (c1:=[_]) hk;obtain⟨m,rfl,hm1,hm2⟩:=kin_int k1 h1;obtain⟨u,rfl,hu⟩:=UB k2 h2;obtain rfl:=VA k3;obtain rfl:=VA k4;obtain⟨ks',-,hK'⟩:=O_ hK hm;obtain⟨xs',hl',e',hX'⟩:=O8 ih hX hm;exact⟨.node m u ks' xs',by rw[La,La,e'],Rep.tree_mk ⟨hm1,hm2⟩ hu hK' hX'⟩) x
noncomputable def Sb (S:Nat->Prop) (w:World):List Nat:=by classical exact (List.range w.heap.size).filter λb=>decide (S b)
def Nk{w:World}{b:Nat}:b∈Sb S w↔b<w.heap.size/\S b:=by simp[Sb]
structure Over (S:Nat->Prop) (w w':World):Prop where
  same:Same (Sb S w) w w'
  mold:Mold w w'
  soft:∀b,Hp w b->Hp w' b
def Over.refl(S:Nat->Prop)(w:World):Over S w w:=⟨.refl _ _,.refl _,λ_ h=>h⟩
def Pq{Ds:List Nat}{w:World}(h:Same Ds w w'){b:Nat}(hs:Hp w b)(hb:b∉Ds:=by simp):Hp w' b:=by
  obtain⟨cs,T,hh⟩:=hs;exact⟨cs,T,(h.block b (Pa hh) hb).trans hh⟩
def soft_set{w:World}{a:Addr}{b:Nat}(h:Hp w b):Hp (w.setCell a v) b:=by
  obtain⟨cs,T,hh⟩:=h;by_cases e:a.block=b
  ·refine⟨if a.spot.isSome then cs else cs.setIfInBounds a.off v, T, ?_⟩
   simp[World.setCell,Array.getElem?_modify,hh,e]
  exact⟨cs,T,(Below.heap_setCell _ _ _ _ λh=>e h.symm).trans hh⟩
theorem LG{w:World}{a:Addr}(h:Hp w a.block):w.frozen? a=false:=by
  obtain⟨cs,T,hh⟩:=h;simp[World.frozen?,hh]
def Over.next{w0 w:World}{b:Nat}(h:Over S w0 w)(hs:Same [b] w w')(hb:b∈Sb S w0)(hm:Mold w w')(ho:∀x,Hp w x->Hp w' x):Over S w0 w' :=
  ⟨h.same.trans (hs.mono λx hx _=>by obtain rfl:=pQ.1 hx;exact hb),h.mold.trans hm,λx hx=>ho x<|h.soft x hx⟩
def Over.trans{w0 w:World}(hS:∀b,S b->b<w0.heap.size)(h:Over S w0 w)(k:Over S w w'):Over S w0 w' :=
  ⟨h.same.trans (k.same.mono λx hx _=>by have:=(Nk.1 hx).2;exact Nk.2 ⟨hS x this,this⟩),h.mold.trans k.mold,λx hx=>k.soft x<|h.soft x hx⟩
def TreeAt(S:Nat->Prop)(w:World)(A:Option Addr)(nk c:Nat)(B:Option Addr)(nx e m:Nat):Prop :=
  ∃(ks:List Str)(xs:List Tree),aL ks=nk/\aL xs=nx/\Ra xs=m/\Rep S w (Ee ks) [.slice A nk c]/\Rep S w (.slice (Hc xs)) [.slice B nx e]
def TreeAt.mold{w:World}{c:Nat}(h:TreeAt S w A nk c B nx e m)(hm:Mold w w'):TreeAt S w' A nk c B nx e m:=by
  obtain⟨ks,xs,h1,h2,h3,hK,hX⟩:=h;obtain⟨ks',l1,r1⟩:=O_ hK hm;obtain⟨xs',l2,e2,r2⟩:=O8 (λx _=>moldT x) hX hm;exact⟨ks',xs',l1.trans h1,l2.trans h2,e2.trans h3,r1,r2⟩
theorem TreeAt.key{w:World}{c:Nat}(h:TreeAt S w A nk c B nx e m){i:Nat}(hi:i<nk):∃ad s,A=some ad/\w.cell? (ad.add (i*1))=some (.string s)/\S (ad.add (i*1)).block:=by
  obtain⟨ks,xs,h1,h2,h3,hK,hX⟩:=h;have hne:ks≠[]:=qK
  obtain⟨A',c',hA,_,_,h4⟩:=Rep.slice_inv hK;simp only[List.cons.injEq,Value.slice.injEq,and_true]at hA;obtain⟨rfl,_,rfl⟩:=hA;obtain⟨ad,rfl,es,hc,hr⟩:=h4 (aS hne);obtain⟨ad',hA',hcell,-⟩:=hK.str_elem (i:=i) Aa;obtain rfl:=lQ hA';have hlen:aL es=aL ks:=by
    have:=hr.length;have e:∀l:List Str,Gc.sizeL (l.map Uj)=aL l:=by
      intro l
      induction l with
      | nil=>rfl
      | cons a l ih =>
        rw[lZ,Gc.sizeL,ih,kQ];simp[Uj,Gc];omega
    rw[e]at this;exact this
  exact⟨ad,_,O,hcell,by rw[Tb];exact (hc 0 Aa).2⟩
def TreeAt.item{w:World}{c:Nat}(h:TreeAt S w A nk c B nx e m){j:Nat}(hj:j<nx) :
    ∃ad cs x,B=some ad/\aL cs=4/\(∀q (hq:q<aL cs),w.cell? ((ad.add (j*4)).add q)=some cs[q])/\Rep S w (Na x) cs/\La x<=m/\S (ad.add (j*4)).block/\∃n:Int,w.cell? ((ad.add (j*4)).add 0)=some (J n):=by
  obtain⟨ks,xs,h1,h2,h3,hK,hX⟩:=h;obtain⟨ad,cs,rfl,hl,hc,hr⟩:=hX.tree_elem (i:=j) Aa;have hjx:j<aL xs:=Aa
  obtain⟨A',c',hA,_,_,h4⟩:=Rep.slice_inv hX;simp only[List.cons.injEq,Value.slice.injEq,and_true]at hA;obtain⟨rfl,_,rfl⟩:=hA;obtain⟨ad',hA',es,hce,hre⟩:=h4 (λhz=>by have h0:aL (Hc xs)=0:=(by rw[hz];rfl);rw[Qe]at h0;omega);obtain rfl:=lQ hA';have hpos:0<aL es:=by
    rcases Nat.eq_zero_or_pos (aL es) with h|h
    ·have : es = [] := List.eq_nil_of_length_eq_zero h
     subst this;have h5:=hre.get (sz:=4) (λd hd=>by rw[Jc]at hd;obtain⟨k,_,rfl⟩:=nQ.1 hd;exact Bb k) j (aS hjx);have:=h5.2;simp at this
    exact h
  refine⟨ad,cs,xs[j],O,hl,hc,hr,by rw[<-h3];exact Td<|eQ hjx,by rw[Tb];exact (hce 0 hpos).2,?_⟩;have h0:=hc 0 Aa;generalize hx:xs[j]=x at hr;obtain⟨k,t,ks',ys⟩:=x;obtain⟨_,_,_,_,rfl,_⟩:=hr.tree_inv;exact⟨k,h0⟩
section
variable {P:Program}{R:Exit->Act->World->Prop}{n:Nat}{k:Kt}{s:Nat->Value}{w w0:World}{ops rest:List Oper}{Ds:List Nat}{bs_:List (Nat × Obj)}
variable {ty:TypeId}{pos:String}{aft:Array Edge}{g:Option (Nat × Bool)}
theorem M5{t:TypeId}{a:Addr}(hF:FR w0 Ds bs_ w)(hs:∀w,(sizeOf t).run P w=.ok 1 w)(hx:ev n s x=.pointer (some a))(hy:ev n s y=v)(hl:v.cells=#[v])(h1:one v=true)
    (hc:w.cell? a=some u) (hso:Hp w a.block) (hD:a.block∈Ds) (hn:∀p∈bs_,p.1≠a.block) (hk:Kin u v)
    (h:∀w',FR w0 Ds bs_ w'->Same [a.block] w w'->Mold w w'->(∀b,Hp w b->Hp w' b)->Og P R n ops k rest s w')
    (hw:Ka ops n s ⟨none,.store t x y,ty,pos,aft,g⟩=true:=by rfl):Og P R n ops k (⟨none,.store t x y,ty,pos,aft,g⟩::rest) s w:=by
  have e0:Sh w a 0 [v]=w.setCell a v:=by grind [Sh,Ln]
  refine Z0 (O4 (l:=[v]) hs hx hy hl (aS h1) λj hj=>?_) ?_ hw
  ·obtain rfl : j = 0 := by simp at hj;omega
   grind [Ln,LG]
  rw[e0];exact h _ (hF.touch (Same.setCell w a v) λb hb=>by
    obtain rfl:=pQ.1 hb;exact⟨λ_=>hD,hn⟩) (Same.setCell w a v) (Mold.set hc hk) λ_ h=>soft_set h
end
def DO(x:Tree):Prop:=∀(S:Nat->Prop)(w0:World)(cs:List Value),Rep S w0 (Na x) cs->(∀b,S b->Hp w0 b)->Calls prog 27 #[.agg cs.toArray] w0 (Za λv w'=>v=.tuple #[]/\Over S w0 w')
def Qj{w:World}{b:Nat}(h:Hp w b):b<w.heap.size:=by obtain⟨cs,T,hh⟩:=h;exact Pa hh
def CM(k:Int)(t:Str)(A B:Option Addr)(nk c nx e m:Nat)(S:Nat->Prop)(w0:World)(hT:TreeAt S w0 A nk c B nx e m)(hSo:∀b,S b->Hp w0 b)(ih:∀x,La x<=m->DO x)(hb1_:nk<=9223372036854775807)(hb2_:nx<=9223372036854775807):Calls prog 27 #[.agg #[J k,I t,.slice A nk c,.slice B nx e]] w0 (Za λv w'=>v=.tuple #[]/\Over S w0 w'):=by
 have hO:=Over.refl S w0;refine Lb func27 ntmps27 O O ?_;have hF:=FR.start w0<|Sb S w0;refine rn 3 ?_;intro b1 w hb1 hF hE;have hT:=hT.mold<|Mold.same hE;have hO:Over S w0 w:=⟨hO.same.trans<|hE.mono Da,hO.mold.trans<|Mold.same hE,λx hx=>Pq hE<|hO.soft x hx⟩;refine rn 9<|Sa (λμ σ w=>∃(i:Nat),μ=nk-i/\(i<=nk)/\(TreeAt S w A nk c B nx e m)/\(Over S w0 w)/\AllEq σ [(1,V b1),(2,J<|(i:Int))]/\FR w0 (Sb S w0) [(b1,.cells #[J k,I t,.slice A nk c,.slice B nx e] 36)] w) _ ⟨0,O,dZ _,hT,hO,Va,hF⟩ ?_;rintro μ σ w ⟨i,rfl,hi,hT,hO,hzz,hF⟩;refine Wf hzz 11 ⟨λhc0=>?_,λhc0=>?_⟩;refine rn 8 ?_;obtain⟨ad,sk,hA,hkc,hSb⟩:=hT.key (show i<nk by omega);refine Ba (v:=.pointer<|some<|ad.add<|i*1) (Ca (i:=(i:Int)) Ii hA) ?_;refine M5 (a:=ad.add<|i*1) (u:=.string sk) hF sizeOf9 rfl (v:=I [115,112,111,105,108,116]) rfl rfl rfl (hkc) (hO.soft _<|hSo _ hSb) (Nk.2 ⟨Qj<|hSo _ hSb,hSb⟩) (by have h1:=Qj<|hSo _ hSb;intro p hp;obtain rfl:=pQ.1 hp;show b1≠_;omega) (.str _ _ Ja) ?_;intro w hF hE hM hSo2;have hO:=hO.next hE (Nk.2 ⟨Qj<|hSo _ hSb,hSb⟩) hM hSo2;have hT:=hT.mold hM;clear hE hM hSo2;refine rn 5<|Zb Uh ?_;refine rn 2<|Ha ⟨_,?_,i+1,O,Aa,hT,hO,Va,hF⟩;omega;refine rn 8<|Sa (λμ σ w=>∃(j:Nat),μ=nx-j/\(j<=nx)/\(TreeAt S w A nk c B nx e m)/\(Over S w0 w)/\AllEq σ [(1,V b1),(3,J<|(j:Int))]/\FR w0 (Sb S w0) [(b1,.cells #[J k,I t,.slice A nk c,.slice B nx e] 36)] w) _ ⟨0,O,dZ _,hT,hO,Va,hF⟩ ?_;rintro μ σ w ⟨j,rfl,hj,hT,hO,hzz,hF⟩;refine Wf hzz 11 ⟨λhc1=>?_,λhc1=>?_⟩;refine rn 9 ?_;obtain⟨ad,cy,y,hB,hly,hcy,hry,hsy,hSb,-⟩:=hT.item (show j<nx by omega);have hoy:=hry.one_;refine Ba (v:=.pointer<|some<|ad.add<|j*4) (Ca (i:=(j:Int)) Fd hB)<|Ba (v:=.agg<|List.toArray cy) (Ma (l:=cy) qZ uZ O hly hcy) ?_;refine Fc (ih y hsy S _ cy hry λb hb=>hO.soft b<|hSo b hb) ?_
 rintro _ w ⟨rfl,hO2⟩;have hF:=hF.touch hO2.same (λb hb=>by have hSb2:=(Nk.1 hb).2;have h1:=Qj<|hSo b hSb2;exact⟨λh=>Nk.2 ⟨h1,hSb2⟩,λp hp=>by obtain rfl:=pQ.1 hp;show b1≠b;omega⟩);have hT:=hT.mold hO2.mold;have hO:=hO.trans (λb hb=>Qj<|hSo b hb) hO2;clear hO2;refine rn 6 ?_;obtain⟨ad,cz,z,hB,-,-,-,-,hSb,n_,hn_⟩:=hT.item (show j<nx by omega);refine Ba (v:=.pointer<|some<|ad.add<|j*4) (Ca (i:=(j:Int)) Fd hB)<|Ba (v:=.pointer<|some<|(ad.add<|j*4).add 0) (Oa (a:=ad.add<|j*4) H4) ?_;refine M5 (a:=(ad.add<|j*4).add 0) (u:=J n_) hF sizeOf3 rfl (v:=J<|-7) rfl rfl rfl (hn_) (hO.soft _<|hSo _ (show S ((ad.add<|j*4).add 0).block by rw[Tb];exact hSb)) (Nk.2 ⟨Qj<|hSo _ (show S ((ad.add<|j*4).add 0).block by rw[Tb];exact hSb),(show S ((ad.add<|j*4).add 0).block by rw[Tb];exact hSb)⟩) (by have h1:=Qj<|hSo _ (show S ((ad.add<|j*4).add 0).block by rw[Tb];exact hSb);intro p hp;obtain rfl:=pQ.1 hp;show b1≠_;omega) (.int _ _ Aa Aa) ?_;intro w hF hE hM hSo2;have hO:=hO.next hE (Nk.2 ⟨Qj<|hSo _ (show S ((ad.add<|j*4).add 0).block by rw[Tb];exact hSb),(show S ((ad.add<|j*4).add 0).block by rw[Tb];exact hSb)⟩) hM hSo2;have hT:=hT.mold hM;clear hE hM hSo2;refine rn 5<|Zb (Wd<|((j+1:Nat):Int)) ?_;refine rn 2<|Ha ⟨_,?_,j+1,O,Aa,hT,hO,Va,hF⟩;omega;refine rn 2 ?_;exact⟨O,hO⟩
def spoil_c(x:Tree):DO x:=by
  have key:∀N x,La x<=N->DO x:=by
    intro N
    induction N with
    | zero=>intro x hx;have:=Wt x;omega
    | succ N ih =>
      intro x hx S w0 cs hR hS;obtain⟨k,t,ks,xs⟩:=x;obtain⟨A,c,B,e,rfl,-,-,hK,hX⟩:=hR.tree_inv;have h1:=hK.slice_len;have h2:=hX.slice_len;rw[La]at hx;exact CM k t A B (aL ks) c (aL xs) e (Ra xs) S w0 ⟨ks,xs,O,O,O,hK,hX⟩ hS (λy hy=>ih y Aa) Aa Aa
  exact key _ x<|gQ _
open Go.RowKit
def Mk(b:UInt8):1<=aL (Uf b)/\aL (Uf b)<=6:=by rcases RH (WM b)with ⟨c,e,_⟩|⟨c,e,_⟩|⟨x1,x2,x3,x4,e⟩ <;> rw[e] <;> simp
def Ni{s:Str}{j:Nat}(h:j<aL s:=by omega):Zr (s.take (j+1))=Zr (s.take j)++Uf s[j]:=by rw[iQ h,U5,Zr,Zr,qQ]
theorem BZ{s acc:Str}{j:Nat}(hv:Lib.validD s=true)(hq:acc=34::Zr (s.take j))(hj:¬j<aL s):qS s=acc++[34]:=by
  rw[eZ Aa]at hq;grind [qS,GG]
theorem XG(b:UInt8):Uf b=Uf (UInt8.ofNat b.toNat):=qX
def esc_q':∀n<256,n=34\/n=92->Uf (UInt8.ofNat n)=[92,UInt8.ofNat n]:=by decide +kernel
theorem LS{b:UInt8}(h:((b.toNat:Nat):Int)=34\/((b.toNat:Nat):Int)=92):Uf b=[92,b]:=by
  have:=esc_q' b.toNat (UInt8.toNat_lt b) Aa;simp_all
theorem Xl(k:Nat){t:Str}{b:UInt8}(hk:k<256)(ht:Uf (UInt8.ofNat k)=t)(h:((b.toNat:Nat):Int)=(k:Int)):Uf b=t:=by grind [XG]
theorem esc_ctl':∀n<32,(n=8\/n=12\/n=10\/n=13\/n=9)\/Uf (UInt8.ofNat n)=[92,117,48,48,dg (n/16),dg (n%16)]:=by decide +kernel
theorem FQ{b:UInt8}(h:b.toNat<32)(h1:b.toNat≠8)(h2:b.toNat≠12)(h3:b.toNat≠10)(h4:b.toNat≠13)(h5:b.toNat≠9):Uf b=[92,117,48,48,dg (b.toNat/16),dg (b.toNat%16)]:=by grind [XG,esc_ctl']
def ON:∀n<256,¬n<32->n≠34->n≠92->Uf (UInt8.ofNat n)=[UInt8.ofNat n]:=by decide +kernel
theorem RA{b:UInt8}(h:¬b.toNat<32)(h1:b.toNat≠34)(h2:b.toNat≠92):Uf b=[b]:=by
  have:=ON b.toNat (UInt8.toNat_lt b) h h1 h2;simp_all
section
variable {P:Program}{w0 w:World}{Ds:List Nat}{pre post sb:List (Nat × Obj)}
theorem WF{u ty:Nat}{i:TypeInfo}{n c:Nat}
    (ht:P.underlying t=some (.slice e)) (hu:P.underlying u=some .string) (hi:P.info? e=some i) (hz:i.zero=some (.int .u8 0)) (hsize:i.size=1) (hby:i.bytes=1)
    (hF:FR w0 Ds (pre++(sb++post)) w) (hS:SlB e 1 A n c xs sb) (h0:0<aL txt) (hbytes:n+aL txt<=140737488355328) :
    ∃A' c' sb' w', (Builtin.append_ #[t, u] ty #[.slice A n c, I txt]).run P w = .ok (.slice A' (n + (aL txt)) c') w' /\ SlB e 1 A' (n + (aL txt)) c' (xs ++ Lib.byteCells txt) sb' /\ FR w0 Ds (pre ++ (sb' ++ post)) w' /\
      Same (sb.map (·.1)) w w'/\(∀p∈sb',p.1∈sb.map (·.1)\/w.heap.size<=p.1):=by
  have es:(bs txt).size=aL txt:=Pl txt;have ec:Lib.strCells (bs txt)=Lib.byteCells txt:=by simp[Lib.strCells_eq,bs]
  have hxl:aL xs=n:=aS hS.1
  have hbl:aL (Lib.byteCells txt)=aL txt:=by simp[Lib.byteCells]
  have hlen:aL (xs++Lib.byteCells txt)=(n+aL txt)*1:=qK
  have grown:∀(old:Nat),old<n+aL txt ->
      SlB e 1 (some ⟨w.heap.size,0,none⟩) (n+aL txt) (grownCap w (n+aL txt) old e) (xs++Lib.byteCells txt) [(w.heap.size,.cells (xs.toArray++(Lib.byteCells txt).toArray++Builtin.zeroCells (Value.int .u8 0).cells (grownCap w (n+aL txt) old e-(n+aL txt))) e)] /\
      FR w0 Ds (pre++([(w.heap.size,.cells (xs.toArray++(Lib.byteCells txt).toArray++Builtin.zeroCells (Value.int .u8 0).cells (grownCap w (n+aL txt) old e-(n+aL txt))) e)]++post)) (w.drew.alloc<|.cells (xs.toArray++(Lib.byteCells txt).toArray++Builtin.zeroCells (Value.int .u8 0).cells (grownCap w (n+aL txt) old e-(n+aL txt))) e) /\
      Same (sb.map (·.1)) w (w.drew.alloc<|.cells (xs.toArray++(Lib.byteCells txt).toArray++Builtin.zeroCells (Value.int .u8 0).cells (grownCap w (n+aL txt) old e-(n+aL txt))) e):=by
    intro old ho;have hge:=grownCap_ge w (n+aL txt) old e;have hcm:grownCap w (n+aL txt) old e<=maxLen:=grownCap_le_maxLen w (n+aL txt) old e qN;have hsm:Same [] w (w.drew.alloc<|.cells (xs.toArray++(Lib.byteCells txt).toArray++Builtin.zeroCells (Value.int .u8 0).cells (grownCap w (n+aL txt) old e-(n+aL txt))) e):=(Same.drew w).trans (Same.alloc w.drew _);refine⟨⟨hlen,.inr ⟨w.heap.size,_,O,O,hge,hcm,?_,?_⟩⟩,hF.insert hsm<|heap_alloc_new w.drew _,hsm.mono Da⟩
    ·have hz1 : (Value.int IntKind.u8 0).cells.size = 1 := rfl
     simp only[Array.size_append,List.size_toArray,size_zeroCells,hz1,hxl,hbl];omega
    simp only[Array.toList_append, sQ];rw[<-sQ,<-hlen];exact List.take_left
  rcases hS.2 with ⟨rfl,rfl,rfl⟩|⟨g,cur,rfl,rfl,hnc,hcm,hcs,htake⟩
  ·have hx : xs = [] := by grind
   subst hx;have hgr:=grown 0 Aa;simp only[Nat.zero_add,nZ,Array.empty_append]at hgr ⊢;cases A with
   | none =>
     have hr:=run_append_nil_string (P:=P) w t u ty e i (.int .u8 0) ht hu hi hz (bs txt) Aa Aa (by rw[hby];omega);have e1:((bs txt).data.map λb=>Value.int .u8 b.toNat)=(Lib.byteCells txt).toArray:=by
       rw[<-ec];apply Array.ext';simp[Lib.strCells]
     rw[e1,es]at hr;exact⟨_,_,_,_,hr,hgr.1,hgr.2.1,hgr.2.2,λp hp=>.inr (by simp only[pQ]at hp;subst hp;exact gQ _)⟩
   | some a0 =>
     have hr:=Lib.run_append_grow_string (P:=P) w t u ty e i (.int .u8 0) ht hu hi hz a0 0 0 [] Da (λj u hu=>by cases hu) (bs txt) Aa Aa (by rw[hby];exact growslice_fits Aa Aa);grind
  have hg : w.heap[g]? = some (.cells cur e) := hF.memHeap (p := (g, .cells cur e)) Da;have hcs':cur.size=c:=qK
  have ht':cur.toList.take n=xs:=qK
  by_cases hroom:n+aL txt<=c
  ·have hr := Lib.run_append_room_string (P := P) w t u ty e i ht hu hi hsize g n c cur hg (bs txt) Aa Aa
   rw[ec,es]at hr;have hsm:Same [g] w (w.setRow g (cur.toList.take n++Lib.byteCells txt++cur.toList.drop (n+aL txt)).toArray) :=
     ⟨rfl,rfl,rfl,by simp[World.setRow],λb _ hb=>setRow_other w g b _ (aS hb)⟩
   refine⟨_,_,[(g,.cells (cur.toList.take n++Lib.byteCells txt++cur.toList.drop (n+aL txt)).toArray e)],_,hr,⟨hlen,.inr ⟨g,_,O,O,hroom,hcm,?_,?_⟩⟩,hF.changeMid hsm<|setRow_heap w g cur _ e _ hg,by simpa using hsm,λp hp=>.inl (by simp at hp ⊢;exact yQ Prod.fst hp)⟩
   ·grind
   grind
  have holds : ∀j u, xs[j]? = some u -> w.cell? ((⟨g, 0, none⟩ : Addr).add j) = some u := hS.cells hF _ rfl;have hr:=Lib.run_append_grow_string (P:=P) w t u ty e i (.int .u8 0) ht hu hi hz ⟨g,0,none⟩ n c xs (by rw[hsize];simpa using hxl) holds (bs txt) Aa Aa (by rw[hby];exact growslice_fits Aa Aa);grind
end
section
variable {P:Program}{R:Exit->Act->World->Prop}{n:Nat}{kt:Kt}{s:Nat->Value}{w:World}{ops rest:List Oper}
variable {d:Nat}{ty:TypeId}{pos:String}{aft:Array Edge}{g:Option (Nat × Bool)}
variable {w0:World}{Ds:List Nat}{sb:List (Nat × Obj)}
theorem Xp(pre post:List (Nat × Obj)){u:Nat}{len c:Nat}{len':Nat}{ys:List Value}(hE:Elems P t e 1 1)(hu:P.underlying u=some .string)
    (hz0:(P.info? e).map (·.zero)=some (some (.int .u8 0)))
    (hF:FR w0 Ds (pre++(sb++post)) w) (hS:SlB e 1 A len c xs sb) (hx:ev n s x=.slice A len c) (hy:ev n s y=I txt)
    (h0:0<aL txt) (hbytes:len+aL txt<=140737488355328) (hlen:len+aL txt=len') (hys:xs++Lib.byteCells txt=ys)
    (h:∀A' c' sb' w',SlB e 1 A' len' c' ys sb'->FR w0 Ds (pre++(sb'++post)) w'->Same (sb.map (·.1)) w w'->(∀p∈sb',p.1∈sb.map (·.1)\/w.heap.size<=p.1)->Og P R n ops kt rest (Ic s d (.slice A' len' c')) w')
    (hw:Ka ops n s ⟨some d,.call ⟨.builtin .append,#[x,y],#[t,u]⟩,ty,pos,aft,g⟩=true:=by rfl):Og P R n ops kt (⟨some d,.call ⟨.builtin .append,#[x,y],#[t,u]⟩,ty,pos,aft,g⟩::rest) s w:=by
  subst hlen hys;obtain⟨i,z,hi,hz,h2,h3,h4⟩:=hE.info;rw[hi]at hz0;have hz1:i.zero=some (.int .u8 0):=qK
  obtain⟨A',c',sb',w',hr,hS',hF',hs,hn⟩:=WF (ty:=ty) hE.ht hu hi hz1 h2 h3 hF hS h0 hbytes;exact Ba (L_ hx hy hr) (h A' c' sb' w' hS' hF' hs hn) hw
end
end Go.Scarf
