/- A part of the proof. -/
import Derived.Test.YtbhneplafiapdaaGreatDoorW19
set_option linter.all false
set_option maxHeartbeats 8000000
set_option maxRecDepth 10000
namespace Go.Scarf
open Go.RowKit Go.Proofs Go.Proofs.Tryz
inductive Kin:Value->Value->Prop where
  | same (v:Value):Kin v v
  | int (n m:Int):-9223372036854775808<=m->m<=9223372036854775807->Kin (J n) (J m)
  | str (s t:ByteArray):t.size<=9223372036854775807->Kin (.string s) (.string t)
theorem Kin.trans{a b c:Value}(h:Kin a b)(k:Kin b c):Kin a c:=by
  cases h with
  | same=>exact k
  | int n m h1 h2 =>
    cases k with
    | same=>exact .int n m h1 h2
    | int _ q h3 h4=>exact .int n q h3 h4
  | str s t h1 =>
    cases k with
    | same=>exact .str s t h1
    | str _ q h3=>exact .str s q h3
inductive KinL:List Value->List Value->Prop where
  | nil:KinL [] []
  | cons {a b:Value} {l m:List Value}:Kin a b->KinL l m->KinL (a::l) (b::m)
theorem KinL.refl:∀l:List Value,KinL l l
  | []=>.nil
  | a::l=>.cons (.same a) (KinL.refl l)
theorem KinL.split:∀{c1 c2 d:List Value},KinL (c1++c2) d->∃d1 d2,d=d1++d2/\KinL c1 d1/\KinL c2 d2
  | [],c2,d,h=>⟨[],d,rfl,.nil,h⟩
  | a :: c1, c2, d, h => by
    cases h with
    | cons h1 h2 =>
      obtain⟨d1,d2,rfl,k1,k2⟩:=KinL.split h2;exact⟨_::d1,d2,O,.cons h1 k1,k2⟩
theorem KinL.of:∀{l m:List Value},l.length=m.length->(∀i (h:i<l.length) (h':i<m.length),Kin l[i] m[i])->KinL l m
  | [],[],_,_=>.nil
  | a::l,b::m,hl,h=>.cons (h 0 Ua Ua) (KinL.of (by simpa using hl) λi hi hi'=>h (i+1) (by simpa using hi) (by simpa using hi'))
def Mold(w w':World):Prop:=∀a v,w.cell? a=some v->∃v',w'.cell? a=some v'/\Kin v v'
theorem Mold.refl(w:World):Mold w w:=λa v h=>⟨v,h,.same v⟩
theorem Mold.trans{a b c:World}(h:Mold a b)(k:Mold b c):Mold a c:=λx v hx=>by
  obtain⟨v1,h1,k1⟩:=h x v hx;obtain⟨v2,h2,k2⟩:=k x v1 h1;exact⟨v2,h2,k1.trans k2⟩
theorem Mold.same{w w':World}(h:Same [] w w'):Mold w w':=λa v hc=>⟨v,((FR.start w []).ext h).cell0 hc,.same v⟩
theorem Mold.set{w:World}{a:Addr}{u v:Value}(hc:w.cell? a=some u)(hk:Kin u v):Mold w (w.setCell a v):=λb x hb=>by
  have key:∀c e f,w.heap[a.block]? = some (.cells c e f)->(w.setCell a v).heap[a.block]? = some (.cells (c.setIfInBounds a.off v) e f):=by
    intro c e f hh;have hs:a.spot.isSome=false:=by
      unfold World.cell? at hc;rw[hh]at hc;simp only at hc;split at hc
      ·cases hc
      rename_i h;simpa using h
    simp[World.setCell,Array.getElem?_modify,hh,hs]
  by_cases hbl:b.block=a.block
  ·unfold World.cell? at hb hc ⊢
   rw[hbl]at hb ⊢;cases hh:w.heap[a.block]? with
   | none=>rw[hh]at hb;cases hb
   | some o =>
     rw[hh]at hb hc;cases o with
     | cells c e f =>
       rw[key c e f hh];simp only at hb hc ⊢;split at hb
       ·cases hb
       rename_i hsp
       rw[if_neg hsp];split at hc
       ·cases hc
       by_cases ho : b.off = a.off
       ·rw[ho]at hb ⊢
        have hx:x=u:=by rw[hc]at hb;exact (lQ hb).symm
        subst hx;have hlt:a.off<c.size:=by
          rcases Nat.lt_or_ge a.off c.size with h|h
          ·exact h
          rw[Array.getElem?_eq_none h]at hc;cases hc
        exact⟨v,by simp[hlt],hk⟩
       exact⟨x,by rw[Array.getElem?_setIfInBounds_ne (λe=>ho e.symm)];exact hb,.same x⟩
     | _=>cases hb
  refine⟨x, ?_, .same x⟩;rw[<-hb];exact World.cell?_of_block (w:=w) (Below.heap_setCell _ _ _ _ hbl)
theorem CellsAt.mold{S:Nat->Prop}{w w':World}{ad:Addr}{cs:List Value}(h:CellsAt S w ad cs)(hm:Mold w w'):∃cs',CellsAt S w' ad cs'/\KinL cs cs':=by
  have key:∀n,n<=cs.length->∃l:List Value,l.length=n/\∀i (hi:i<l.length),w'.cell? (ad.add i)=some l[i]/\∀h':i<cs.length,Kin cs[i] l[i]:=by
    intro n
    induction n with
    | zero=>exact λ_=>⟨[],rfl,λi hi=>absurd hi Ua⟩
    | succ n ih =>
      intro hn;obtain⟨l,hl,h1⟩:=ih U;obtain⟨v',h2,h3⟩:=hm _ _ (h n U).1;refine⟨l++[v'],by simp[hl],λi hi=>?_⟩;by_cases hin:i<l.length
      ·rw[List.getElem_append_left hin];exact h1 i hin
      have hi2 : i = n := by simp at hi;omega
      subst hi2;rw[List.getElem_append_right U];simp only[hl,Nat.sub_self,List.getElem_cons_zero];exact⟨h2,λ_=>h3⟩
  obtain⟨l,hl,h1⟩:=key cs.length (gQ _);refine⟨l,λi hi=>⟨(h1 i hi).1,(h i U).2⟩,KinL.of hl.symm λi hi hi'=>(h1 i hi').2 hi⟩
theorem DO{n:Int}{d:List Value}(h:KinL [J n] d)(hn:-9223372036854775808<=n/\n<=9223372036854775807):∃m:Int,d=[J m]/\-9223372036854775808<=m/\m<=9223372036854775807:=by
  cases h with
  | cons h1 h2 =>
    cases h2;cases h1 with
    | same=>exact⟨n,rfl,hn⟩
    | int _ m h3 h4=>exact⟨m,rfl,h3,h4⟩
theorem TE{s:Str}{d:List Value}(h:KinL [I s] d)(hs:s.length<=9223372036854775807):∃t:Str,d=[I t]/\t.length<=9223372036854775807:=by
  cases h with
  | cons h1 h2 =>
    cases h2;cases h1 with
    | same=>exact⟨s,rfl,hs⟩
    | str _ t h3 =>
      refine⟨t.data.toList,?_,by rw[Array.length_toList];exact h3⟩;exact congrArg (λz=>[Value.string z]) (show t=bs t.data.toList by cases t;rfl)
theorem D4{A:Option Addr}{n c:Nat}{d:List Value}(h:KinL [.slice A n c] d):d=[.slice A n c]:=by
  cases h with
  | cons h1 h2=>cases h2;cases h1;rfl
theorem L3{S:Nat->Prop}{w w':World}:∀{ks:List Str}{cs cs':List Value},RepL S w (ks.map Lp) cs->KinL cs cs'->∃ks':List Str,ks'.length=ks.length/\RepL S w' (ks'.map Lp) cs'
  | [], cs, cs', h, k => by
    have:=RepL.nil_inv h;subst this;cases k;exact⟨[],O,RepL.nil_mk⟩
  | s :: ks, cs, cs', h, k => by
    obtain⟨c1,c2,rfl,h1,h2⟩:=RepL.cons_inv h;obtain⟨d1,d2,rfl,k1,k2⟩:=k.split;obtain⟨rfl,hs⟩:=Rep.str_inv h1;obtain⟨t,rfl,ht⟩:=TE k1 hs;obtain⟨ks',hl,hr⟩:=L3 h2 k2;exact⟨t::ks',by simp[hl],RepL.cons_mk (Rep.lit_mk (v:=I t) ht) hr⟩
theorem I3{S:Nat->Prop}{w w':World}{ks:List Str}{A:Option Addr}{n c:Nat}(h:Rep S w (Ug ks) [.slice A n c])(hm:Mold w w'):∃ks':List Str,ks'.length=ks.length/\Rep S w' (Ug ks') [.slice A n c]:=by
  have hl:=h.slice_len;obtain⟨A',c',hA,h1,h2,h3⟩:=Rep.slice_inv h;simp only[List.cons.injEq,Value.slice.injEq,and_true]at hA;obtain⟨rfl,_,rfl⟩:=hA;by_cases hne:ks=[]
  ·subst hne
   exact⟨[],O,Rep.slice_mk (by simpa using hl.1) hl.2.1 hl.2.2 (λh=>absurd O h)⟩
  obtain⟨ad, rfl, es, hc, hr⟩ := h3 (by simpa using hne);obtain⟨es',hc',hk⟩:=hc.mold hm;obtain⟨ks',hl',hr'⟩:=L3 hr hk;exact⟨ks',hl',Rep.slice_mk (by rw[hl.1];simp[hl']) hl.2.1 hl.2.2 (λ_=>⟨ad,O,es',hc',hr'⟩)⟩
def AF(x:Tree):Prop:=∀(S:Nat->Prop)(w w':World)(cs cs':List Value),Rep S w (Fc x) cs->Mold w w'->KinL cs cs'->∃x',Ub x'=Ub x/\Rep S w' (Fc x') cs'
theorem Pz{S:Nat->Prop}{w w':World}(hm:Mold w w'):∀{xs:List Tree}{cs cs':List Value},(∀x∈xs,AF x)->RepL S w (Ke xs) cs->KinL cs cs'->∃xs':List Tree,xs'.length=xs.length/\Ob xs'=Ob xs/\RepL S w' (Ke xs') cs'
  | [], cs, cs', _, h, k => by
    have:=RepL.nil_inv h;subst this;cases k;exact⟨[],O,O,RepL.nil_mk⟩
  | x :: xs, cs, cs', hx, h, k => by
    obtain⟨c1,c2,rfl,h1,h2⟩:=RepL.cons_inv h;obtain⟨d1,d2,rfl,k1,k2⟩:=k.split;obtain⟨x',e1,r1⟩:=hx x Ua S w w' c1 d1 h1 hm k1;obtain⟨xs',hl,e2,r2⟩:=Pz hm (λy hy=>hx y (by simp[hy])) h2 k2;exact⟨x'::xs',by simp[hl],by rw[Ob,Ob,e1,e2],RepL.cons_mk r1 r2⟩
theorem Z1{S:Nat->Prop}{w w':World}{xs:List Tree}{A:Option Addr}{n c:Nat}(hx:∀x∈xs,AF x)(h:Rep S w (.slice (Ke xs)) [.slice A n c])(hm:Mold w w'):∃xs':List Tree,xs'.length=xs.length/\Ob xs'=Ob xs/\Rep S w' (.slice (Ke xs')) [.slice A n c]:=by
  have hl:=h.slice_len;obtain⟨A',c',hA,h1,h2,h3⟩:=Rep.slice_inv h;simp only[List.cons.injEq,Value.slice.injEq,and_true]at hA;obtain⟨rfl,_,rfl⟩:=hA;by_cases hne:xs=[]
  ·subst hne
   exact⟨[],O,O,Rep.slice_mk (by simpa using hl.1) hl.2.1 hl.2.2 (λh=>absurd O h)⟩
  obtain⟨ad, rfl, es, hc, hr⟩ := h3 (λe => hne (List.eq_nil_of_length_eq_zero (by rw[<- Tj, e];rfl)));obtain⟨es',hc',hk⟩:=hc.mold hm;obtain⟨xs',hl',e',hr'⟩:=Pz hm hx hr hk;exact⟨xs',hl',e',Rep.slice_mk (by rw[hl.1];simp[hl']) hl.2.1 hl.2.2 (λ_=>⟨ad,O,es',hc',hr'⟩)⟩
theorem KT(x:Tree):AF x:=Tree.ind (Q:=AF) (λk t ks xs ih S w w' cs cs' hR hm hk=>by
  obtain⟨A,c,B,e,rfl,h1,h2,hK,hX⟩:=hR.tree_inv;obtain⟨d1,d',rfl,k1,hk⟩:=KinL.split (c1:=[_]) hk;obtain⟨d2,d',rfl,k2,hk⟩:=KinL.split (c1:=[_]) hk;obtain⟨d3,d4,rfl,k3,k4⟩:=KinL.split (c1:=[_]) hk;obtain⟨m,rfl,hm1,hm2⟩:=DO k1 h1;obtain⟨u,rfl,hu⟩:=TE k2 h2;obtain rfl:=D4 k3;obtain rfl:=D4 k4;obtain⟨ks',-,hK'⟩:=I3 hK hm;obtain⟨xs',hl',e',hX'⟩:=Z1 ih hX hm;exact⟨.node m u ks' xs',by rw[Ub,Ub,e'],Rep.tree_mk ⟨hm1,hm2⟩ hu hK' hX'⟩) x
noncomputable def Sb (S:Nat->Prop) (w:World):List Nat:=by classical exact (List.range w.heap.size).filter λb=>decide (S b)
theorem Ol{S:Nat->Prop}{w:World}{b:Nat}:b∈Sb S w↔b<w.heap.size/\S b:=by simp[Sb]
structure Over (S:Nat->Prop) (w w':World):Prop where
  same:Same (Sb S w) w w'
  mold:Mold w w'
  soft:∀b,Soft w b->Soft w' b
theorem Over.refl(S:Nat->Prop)(w:World):Over S w w:=⟨.refl _ _,.refl _,λ_ h=>h⟩
theorem Ev{Ds:List Nat}{w w':World}(h:Same Ds w w'){b:Nat}(hb:b∉Ds)(hs:Soft w b):Soft w' b:=by
  obtain⟨cs,T,hh⟩:=hs;exact⟨cs,T,(h.block b (Wa hh) hb).trans hh⟩
theorem E7{w:World}{a:Addr}{v:Value}{b:Nat}(h:Soft w b):Soft (w.setCell a v) b:=by
  obtain⟨cs,T,hh⟩:=h;by_cases e:a.block=b
  ·refine⟨if a.spot.isSome then cs else cs.setIfInBounds a.off v, T, ?_⟩
   simp[World.setCell,Array.getElem?_modify,hh,e]
  exact⟨cs,T,(Below.heap_setCell _ _ _ _ (λh=>e h.symm)).trans hh⟩
theorem Kx{w:World}{a:Addr}(h:Soft w a.block):w.frozen? a=false:=by
  obtain⟨cs,T,hh⟩:=h;simp[World.frozen?,hh]
theorem Over.next{S:Nat->Prop}{w0 w w':World}{b:Nat}(h:Over S w0 w)(hs:Same [b] w w')(hb:b∈Sb S w0)(hm:Mold w w')(ho:∀x,Soft w x->Soft w' x):Over S w0 w' :=
  ⟨h.same.trans (hs.mono λx hx _=>by obtain rfl:=pQ.1 hx;exact hb),h.mold.trans hm,λx hx=>ho x (h.soft x hx)⟩
theorem Over.trans{S:Nat->Prop}{w0 w w':World}(hS:∀b,S b->b<w0.heap.size)(h:Over S w0 w)(k:Over S w w'):Over S w0 w' :=
  ⟨h.same.trans (k.same.mono λx hx _=>by have:=(Ol.1 hx).2;exact Ol.2 ⟨hS x this,this⟩),h.mold.trans k.mold,λx hx=>k.soft x (h.soft x hx)⟩
def TreeAt(S:Nat->Prop)(w:World)(A:Option Addr)(nk c:Nat)(B:Option Addr)(nx e m:Nat):Prop :=
  ∃(ks:List Str)(xs:List Tree),ks.length=nk/\xs.length=nx/\Ob xs=m/\Rep S w (Ug ks) [.slice A nk c]/\Rep S w (.slice (Ke xs)) [.slice B nx e]
theorem TreeAt.mold{S:Nat->Prop}{w w':World}{A B:Option Addr}{nk c nx e m:Nat}(h:TreeAt S w A nk c B nx e m)(hm:Mold w w'):TreeAt S w' A nk c B nx e m:=by
  obtain⟨ks,xs,h1,h2,h3,hK,hX⟩:=h;obtain⟨ks',l1,r1⟩:=I3 hK hm;obtain⟨xs',l2,e2,r2⟩:=Z1 (λx _=>KT x) hX hm;exact⟨ks',xs',l1.trans h1,l2.trans h2,e2.trans h3,r1,r2⟩
theorem TreeAt.key{S:Nat->Prop}{w:World}{A B:Option Addr}{nk c nx e m:Nat}(h:TreeAt S w A nk c B nx e m){i:Nat}(hi:i<nk):∃ad s,A=some ad/\w.cell? (ad.add (i*1))=some (.string s)/\S (ad.add (i*1)).block:=by
  obtain⟨ks,xs,h1,h2,h3,hK,hX⟩:=h;have hne:ks≠[]:=by rintro rfl;simp at h1;omega
  obtain⟨A',c',hA,_,_,h4⟩:=Rep.slice_inv hK;simp only[List.cons.injEq,Value.slice.injEq,and_true]at hA;obtain⟨rfl,_,rfl⟩:=hA;obtain⟨ad,rfl,es,hc,hr⟩:=h4 (by simpa using hne);obtain⟨ad',hA',hcell,-⟩:=hK.str_elem (i:=i) U;obtain rfl:=lQ hA';have hlen:es.length=ks.length:=by
    have:=hr.length;have e:∀l:List Str,Md.sizeL (l.map Lp)=l.length:=by
      intro l
      induction l with
      | nil=>rfl
      | cons a l ih=>rw[List.map_cons,Md.sizeL,ih,kQ];simp[Lp,Md];omega
    rw[e]at this;exact this
  exact⟨ad,_,O,hcell,by rw[Yd];exact (hc 0 U).2⟩
theorem TreeAt.item{S:Nat->Prop}{w:World}{A B:Option Addr}{nk c nx e m:Nat}(h:TreeAt S w A nk c B nx e m){j:Nat}(hj:j<nx) :
    ∃ad cs x,B=some ad/\cs.length=4/\(∀q (hq:q<cs.length),w.cell? ((ad.add (j*4)).add q)=some cs[q])/\Rep S w (Fc x) cs/\Ub x<=m/\S (ad.add (j*4)).block/\∃n:Int,w.cell? ((ad.add (j*4)).add 0)=some (J n):=by
  obtain⟨ks,xs,h1,h2,h3,hK,hX⟩:=h;obtain⟨ad,cs,rfl,hl,hc,hr⟩:=hX.tree_elem (i:=j) U;have hjx:j<xs.length:=by omega
  obtain⟨A',c',hA,_,_,h4⟩:=Rep.slice_inv hX;simp only[List.cons.injEq,Value.slice.injEq,and_true]at hA;obtain⟨rfl,_,rfl⟩:=hA;obtain⟨ad',hA',es,hce,hre⟩:=h4 (λhz=>by have h0:(Ke xs).length=0:=(by rw[hz];rfl);rw[Tj]at h0;omega);obtain rfl:=lQ hA';have hpos:0<es.length:=by
    rcases Nat.eq_zero_or_pos es.length with h|h
    ·have : es = [] := List.eq_nil_of_length_eq_zero h
     subst this;have h5:=hre.get (sz:=4) (λd hd=>by rw[Wh]at hd;obtain⟨k,_,rfl⟩:=nQ.1 hd;exact Id k) j (by simpa using hjx);have:=h5.2;simp at this
    exact h
  refine⟨ad,cs,xs[j],O,hl,hc,hr,by rw[<-h3];exact Ef (eQ hjx),by rw[Yd];exact (hce 0 hpos).2,?_⟩;have h0:=hc 0 U;generalize hx:xs[j]=x at hr;obtain⟨k,t,ks',ys⟩:=x;obtain⟨_,_,_,_,rfl,_⟩:=hr.tree_inv;exact⟨k,h0⟩
section
variable {P:Program}{R:Exit->Act->World->Prop}{n:Nat}{k:Kt}{s:Nat->Value}{w w0:World}{ops rest:List Oper}{Ds:List Nat}{bs_:List (Nat × Obj)}
variable {ty:TypeId}{pos:String}{aft:Array Edge}{g:Option (Nat × Bool)}
theorem G9{t:TypeId}{x y:Operand}{a:Addr}{u v:Value}(hF:FR w0 Ds bs_ w)(hs:∀w,(sizeOf t).run P w=.ok 1 w)(hx:ev n s x=.pointer (some a))(hy:ev n s y=v)(hl:v.cells=#[v])(h1:one v=true)
    (hc:w.cell? a=some u) (hso:Soft w a.block) (hD:a.block∈Ds) (hn:∀p∈bs_,p.1≠a.block) (hk:Kin u v)
    (h:∀w',FR w0 Ds bs_ w'->Same [a.block] w w'->Mold w w'->(∀b,Soft w b->Soft w' b)->Og P R n ops k rest s w')
    (hw:Kb ops n s ⟨none,.store t x y,ty,pos,aft,g⟩=true:=by rfl):Og P R n ops k (⟨none,.store t x y,ty,pos,aft,g⟩::rest) s w:=by
  have e0:putCells w a 0 [v]=w.setCell a v:=by simp only[putCells,Hj]
  refine H0 (Hy (l:=[v]) hs hx hy hl (by simpa using h1) λj hj=>?_) ?_ hw
  ·obtain rfl : j = 0 := by simp at hj;omega
   rw[Hj];exact⟨⟨u,hc⟩,Kx hso⟩
  rw[e0];exact h _ (hF.touch (Same.setCell w a v) λb hb=>by
    obtain rfl:=pQ.1 hb;exact⟨λ_=>hD,hn⟩) (Same.setCell w a v) (Mold.set hc hk) (λ_ h=>E7 h)
end
def YB(x:Tree):Prop:=∀(S:Nat->Prop)(w0:World)(cs:List Value),Rep S w0 (Fc x) cs->(∀b,S b->Soft w0 b)->Calls prog 13 #[.agg cs.toArray] w0 (Vd λv w'=>v=.tuple #[]/\Over S w0 w')
theorem Im{w:World}{b:Nat}(h:Soft w b):b<w.heap.size:=by obtain⟨cs,T,hh⟩:=h;exact Wa hh
theorem Z_(k:Int)(t:Str)(A B:Option Addr)(nk c nx e m:Nat)(S:Nat->Prop)(w0:World)(hT:TreeAt S w0 A nk c B nx e m)(hSo:∀b,S b->Soft w0 b)(ih:∀x,Ub x<=m->YB x)(hb1_:nk<=9223372036854775807)(hb2_:nx<=9223372036854775807):Calls prog 13 #[.agg #[J k,I t,.slice A nk c,.slice B nx e]] w0 (Vd λv w'=>v=.tuple #[]/\Over S w0 w'):=by
 have hO:=Over.refl S w0;refine Ka func13 O ntmps13 Mb (Jc _) ?_;have hF:=FR.start w0 (Sb S w0);refine Ia (Xf hF O ?_);intro b1 w hb1 hF hE;have hT:=hT.mold (Mold.same hE);have hO:Over S w0 w:=⟨hO.same.trans (hE.mono Ua),hO.mold.trans (Mold.same hE),λx hx=>Ev hE Ua (hO.soft x hx)⟩;refine Fa (Ha (Ia (Ca (Bc O) (Fa (Sa ?_)))));refine Gc (λμ σ w=>∃(i:Nat),μ=nk-i/\(i<=nk)/\(TreeAt S w A nk c B nx e m)/\(Over S w0 w)/\AllEq σ [(1,V b1),(2,J ((i:Int)))]/\FR w0 (Sb S w0) [(b1,.cells #[J k,I t,.slice A nk c,.slice B nx e] 27)] w) _ ⟨0,O,(Nat.zero_le _),(hT),(hO),Ms,hF⟩ ?_;rintro μ σ w ⟨i,rfl,hi,hT,hO,hs,hF⟩;refine Cg.slots hs ?_;clear hs;intro σ;refine Ha (Ia (Ca (Db O) (Ca (Cd Pe O) (Ed (Mh vQ O hF.F 0 O O) (Ca (Rf pZ O) (Ca (Tg O O) (Fa ?_)))))));refine Wb O O (λhc0=>?_) (λhc0=>?_);refine Ma (Ga (Ha (Sa (Ea (Ca (Cd Pe O) (Ed (Mh vQ O hF.F 0 O O) (Ca (Db O) ?_)))))));obtain⟨ad,sk,hA,hkc,hSb⟩:=hT.key (show i<nk by omega);refine Ja (v:=.pointer (some (ad.add (i*1)))) (Qa (i:=(i:Int)) Tr O hA O U U) ?_;refine G9 (a:=ad.add (i*1)) (u:=.string sk) hF lZ rfl (v:=I [115,112,111,105,108,116]) rfl rfl rfl (hkc) (hO.soft _ (hSo _ hSb)) (Ol.2 ⟨Im (hSo _ hSb),hSb⟩) (by have h1:=Im (hSo _ hSb);intro p hp;obtain rfl:=pQ.1 hp;show b1≠_;omega) (.str _ _ Cc) ?_;intro w hF hE hM hSo2;have hO:=hO.next hE (Ol.2 ⟨Im (hSo _ hSb),hSb⟩) hM hSo2;have hT:=hT.mold hM;clear hE hM hSo2;refine Ra (Ib (Ga (Ea (Ca (Db O) (Ca (Lk O O) (Ca (Bc O) (Ra ?_)))))));refine Za ⟨_,?_,i+1,O,U,(hT),(hO),Ms,hF⟩;omega;refine Zb (Vb O ?_);refine Ga (Ia (Ca (Bc O) (Fa (Sa ?_))));refine Gc (λμ σ w=>∃(j:Nat),μ=nx-j/\(j<=nx)/\(TreeAt S w A nk c B nx e m)/\(Over S w0 w)/\AllEq σ [(1,V b1),(3,J ((j:Int)))]/\FR w0 (Sb S w0) [(b1,.cells #[J k,I t,.slice A nk c,.slice B nx e] 27)] w) _ ⟨0,O,(Nat.zero_le _),(hT),(hO),Ms,hF⟩ ?_
 rintro μ σ w ⟨j,rfl,hj,hT,hO,hs,hF⟩;refine Cg.slots hs ?_;clear hs;intro σ;refine Ha (Ia (Ca (Db O) (Ca (Cd Rc O) (Ed (Mh wQ O hF.F 0 O O) (Ca (Rf qZ O) (Ca (Tg O O) (Fa ?_)))))));refine Wb O O (λhc1=>?_) (λhc1=>?_);refine Ma (Ga (Ha (Sa (Ia (Ca (Cd Rc O) (Ed (Mh wQ O hF.F 0 O O) (Ca (Db O) ?_)))))));obtain⟨ad,cy,y,hB,hly,hcy,hry,hsy,hSb,-⟩:=hT.item (show j<nx by omega);have hoy:=hry.one_;refine Ja (v:=.pointer (some (ad.add (j*4)))) (Qa (i:=(j:Int)) Zh O hB O U U) (Ja (v:=.agg (List.toArray cy)) (Hb (l:=cy) xQ fZ O hly hcy) ?_);refine Kc (ih y hsy S _ cy hry (λb hb=>hO.soft b (hSo b hb))) (Va ZS O O) ?_;rintro _ w ⟨rfl,hO2⟩;have hF:=hF.touch hO2.same (λb hb=>by have hSb2:=(Ol.1 hb).2;have h1:=Im (hSo b hSb2);exact⟨λh=>Ol.2 ⟨h1,hSb2⟩,λp hp=>by obtain rfl:=pQ.1 hp;show b1≠b;omega⟩);have hT:=hT.mold hO2.mold;have hO:=hO.trans (λb hb=>Im (hSo b hb)) hO2;clear hO2;refine Fa (Ea (Ca (Cd Rc O) (Ed (Mh wQ O hF.F 0 O O) (Ca (Db O) ?_))));obtain⟨ad,cz,z,hB,-,-,-,-,hSb,n_,hn_⟩:=hT.item (show j<nx by omega);refine Ja (v:=.pointer (some (ad.add (j*4)))) (Qa (i:=(j:Int)) Zh O hB O U U) (Ja (v:=.pointer (some ((ad.add (j*4)).add 0))) (Dc (a:=ad.add (j*4)) Pf O) ?_);refine G9 (a:=(ad.add (j*4)).add 0) (u:=J n_) hF iZ rfl (v:=J (-7)) rfl rfl rfl (hn_) (hO.soft _ (hSo _ (show S ((ad.add (j*4)).add 0).block by rw[Yd];exact hSb))) (Ol.2 ⟨Im (hSo _ (show S ((ad.add (j*4)).add 0).block by rw[Yd];exact hSb)),(show S ((ad.add (j*4)).add 0).block by rw[Yd];exact hSb)⟩) (by have h1:=Im (hSo _ (show S ((ad.add (j*4)).add 0).block by rw[Yd];exact hSb));intro p hp;obtain rfl:=pQ.1 hp;show b1≠_;omega) (.int _ _ U U) ?_;intro w hF hE hM hSo2;have hO:=hO.next hE (Ol.2 ⟨Im (hSo _ (show S ((ad.add (j*4)).add 0).block by rw[Yd];exact hSb)),(show S ((ad.add (j*4)).add 0).block by rw[Yd];exact hSb)⟩) hM hSo2
 have hT:=hT.mold hM;clear hE hM hSo2;refine Ra (Ib (Ga (Ea (Ca (Db O) (Ca (Uk (((j+1:Nat):Int)) O O) (Ca (Bc O) (Ra ?_)))))));refine Za ⟨_,?_,j+1,O,U,(hT),(hO),Ms,hF⟩;omega;refine Zb (Vb O ?_);refine JK (W9 (HK O) ?_);exact⟨O,hO⟩
theorem CO(x:Tree):YB x:=by
  have key:∀N x,Ub x<=N->YB x:=by
    intro N
    induction N with
    | zero=>intro x hx;have:=El x;omega
    | succ N ih =>
      intro x hx S w0 cs hR hS;obtain⟨k,t,ks,xs⟩:=x;obtain⟨A,c,B,e,rfl,-,-,hK,hX⟩:=hR.tree_inv;have h1:=hK.slice_len;have h2:=hX.slice_len;rw[Ub]at hx;exact Z_ k t A B ks.length c xs.length e (Ob xs) S w0 ⟨ks,xs,O,O,O,hK,hX⟩ hS (λy hy=>ih y U) U U
  exact key _ x (gQ _)
end Go.Scarf
