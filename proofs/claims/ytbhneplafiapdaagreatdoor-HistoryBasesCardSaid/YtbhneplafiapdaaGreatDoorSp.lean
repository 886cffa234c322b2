/- A part of the proof. -/
import Derived.Test.YtbhneplafiapdaaGreatDoorW19
set_option linter.all false
set_option maxHeartbeats 8000000
set_option maxRecDepth 10000
namespace Go.Scarf
open Go.RowKit Go.Proofs
inductive Kin:Value->Value->Prop where
  | same (v:Value):Kin v v
  | int (n m:Int):-9223372036854775808<=m->m<=9223372036854775807->Kin (J n) (J m)
  | str (s t:ByteArray):t.size<=9223372036854775807->Kin (.string s) (.string t)
theorem Kin.trans{a b c:Value}(h:Kin a b)(k:Kin b c):Kin a c:=by
  cases h with
  | same=>exact k
  | int n m h1 h2 =>
    cases k with
    | same=>exact .int n m h1 h2
    | int _ q h3 h4=>exact .int n q h3 h4
  | str s t h1 =>
    cases k with
    | same=>exact .str s t h1
    | str _ q h3=>exact .str s q h3
inductive KinL:List Value->List Value->Prop where
  | nil:KinL [] []
  | cons {a b:Value} {l m:List Value}:Kin a b->KinL l m->KinL (a::l) (b::m)
theorem KinL.refl:∀l:List Value,KinL l l
  | []=>.nil
  | a::l=>.cons (.same a) (KinL.refl l)
theorem KinL.split:∀{c1 c2 d:List Value},KinL (c1++c2) d->∃d1 d2,d=d1++d2/\KinL c1 d1/\KinL c2 d2
  | [],c2,d,h=>⟨[],d,rfl,.nil,h⟩
  | a :: c1, c2, d, h => by
    cases h with
    | cons h1 h2 =>
      obtain⟨d1,d2,rfl,k1,k2⟩:=KinL.split h2;exact⟨_::d1,d2,O,.cons h1 k1,k2⟩
theorem KinL.of:∀{l m:List Value},l.length=m.length->(∀i (h:i<l.length) (h':i<m.length),Kin l[i] m[i])->KinL l m
  | [],[],_,_=>.nil
  | a::l,b::m,hl,h=>.cons (h 0 Pa Pa) (KinL.of (by simpa using hl) λi hi hi'=>h (i+1) (by simpa using hi) (by simpa using hi'))
def Mold(w w':World):Prop:=∀a v,w.cell? a=some v->∃v',w'.cell? a=some v'/\Kin v v'
theorem Mold.refl(w:World):Mold w w:=λa v h=>⟨v,h,.same v⟩
theorem Mold.trans{a b c:World}(h:Mold a b)(k:Mold b c):Mold a c:=λx v hx=>by
  obtain⟨v1,h1,k1⟩:=h x v hx;obtain⟨v2,h2,k2⟩:=k x v1 h1;exact⟨v2,h2,k1.trans k2⟩
theorem Mold.same{w w':World}(h:Same [] w w'):Mold w w':=λa v hc=>⟨v,((FR.start w []).ext h).cell0 hc,.same v⟩
theorem Mold.set{w:World}{a:Addr}{u v:Value}(hc:w.cell? a=some u)(hk:Kin u v):Mold w (w.setCell a v):=λb x hb=>by
  have key:∀c e f,w.heap[a.block]? = some (.cells c e f)->(w.setCell a v).heap[a.block]? = some (.cells (c.setIfInBounds a.off v) e f):=by
    intro c e f hh;have hs:a.spot.isSome=false:=by
      unfold World.cell? at hc;rw[hh]at hc;simp only at hc;split at hc
      ·cases hc
      rename_i h;simpa using h
    simp[World.setCell,Array.getElem?_modify,hh,hs]
  by_cases hbl:b.block=a.block
  ·unfold World.cell? at hb hc ⊢
   rw[hbl]at hb ⊢;cases hh:w.heap[a.block]? with
   | none=>rw[hh]at hb;cases hb
   | some o =>
     rw[hh]at hb hc;cases o with
     | cells c e f =>
       rw[key c e f hh];simp only at hb hc ⊢;split at hb
       ·cases hb
       rename_i hsp
       rw[if_neg hsp];split at hc
       ·cases hc
       by_cases ho : b.off = a.off
       ·rw[ho]at hb ⊢
        have hx:x=u:=by rw[hc]at hb;exact (lQ hb).symm
        subst hx;have hlt:a.off<c.size:=by
          rcases Nat.lt_or_ge a.off c.size with h|h
          ·exact h
          rw[Array.getElem?_eq_none h]at hc;cases hc
        exact⟨v,by simp[hlt],hk⟩
       exact⟨x,by rw[Array.getElem?_setIfInBounds_ne (λe=>ho e.symm)];exact hb,.same x⟩
     | _=>cases hb
  refine⟨x, ?_, .same x⟩;rw[<-hb];exact World.cell?_of_block (w:=w) (Below.heap_setCell _ _ _ _ hbl)
theorem CellsAt.mold{S:Nat->Prop}{w w':World}{ad:Addr}{cs:List Value}(h:CellsAt S w ad cs)(hm:Mold w w'):∃cs',CellsAt S w' ad cs'/\KinL cs cs':=by
  have key:∀n,n<=cs.length->∃l:List Value,l.length=n/\∀i (hi:i<l.length),w'.cell? (ad.add i)=some l[i]/\∀h':i<cs.length,Kin cs[i] l[i]:=by
    intro n
    induction n with
    | zero=>exact λ_=>⟨[],rfl,λi hi=>absurd hi Pa⟩
    | succ n ih =>
      intro hn;obtain⟨l,hl,h1⟩:=ih Ca;obtain⟨v',h2,h3⟩:=hm _ _ (h n Ca).1;refine⟨l++[v'],by simp[hl],λi hi=>?_⟩;by_cases hin:i<l.length
      ·rw[List.getElem_append_left hin];exact h1 i hin
      have hi2 : i = n := by simp at hi;omega
      subst hi2;rw[List.getElem_append_right Ca];simp only[hl,Nat.sub_self,List.getElem_cons_zero];exact⟨h2,λ_=>h3⟩
  obtain⟨l,hl,h1⟩:=key cs.length (gQ _);refine⟨l,λi hi=>⟨(h1 i hi).1,(h i Ca).2⟩,KinL.of hl.symm λi hi hi'=>(h1 i hi').2 hi⟩
theorem VH{n:Int}{d:List Value}(h:KinL [J n] d)(hn:-9223372036854775808<=n/\n<=9223372036854775807):∃m:Int,d=[J m]/\-9223372036854775808<=m/\m<=9223372036854775807:=by
  cases h with
  | cons h1 h2 =>
    cases h2;cases h1 with
    | same=>exact⟨n,rfl,hn⟩
    | int _ m h3 h4=>exact⟨m,rfl,h3,h4⟩
theorem N8{s:Str}{d:List Value}(h:KinL [I s] d)(hs:s.length<=9223372036854775807):∃t:Str,d=[I t]/\t.length<=9223372036854775807:=by
  cases h with
  | cons h1 h2 =>
    cases h2;cases h1 with
    | same=>exact⟨s,rfl,hs⟩
    | str _ t h3 =>
      refine⟨t.data.toList,?_,by rw[Array.length_toList];exact h3⟩;exact congrArg (λz=>[Value.string z]) (show t=bs t.data.toList by cases t;rfl)
theorem Gy{A:Option Addr}{n c:Nat}{d:List Value}(h:KinL [.slice A n c] d):d=[.slice A n c]:=by
  cases h with
  | cons h1 h2=>cases h2;cases h1;rfl
theorem Jy{S:Nat->Prop}{w w':World}:∀{ks:List Str}{cs cs':List Value},RepL S w (ks.map Om) cs->KinL cs cs'->∃ks':List Str,ks'.length=ks.length/\RepL S w' (ks'.map Om) cs'
  | [], cs, cs', h, k => by
    have:=RepL.nil_inv h;subst this;cases k;exact⟨[],O,RepL.nil_mk⟩
  | s :: ks, cs, cs', h, k => by
    obtain⟨c1,c2,rfl,h1,h2⟩:=RepL.cons_inv h;obtain⟨d1,d2,rfl,k1,k2⟩:=k.split;obtain⟨rfl,hs⟩:=Rep.str_inv h1;obtain⟨t,rfl,ht⟩:=N8 k1 hs;obtain⟨ks',hl,hr⟩:=Jy h2 k2;exact⟨t::ks',by simp[hl],RepL.cons_mk (Rep.lit_mk (v:=I t) ht) hr⟩
theorem Ix{S:Nat->Prop}{w w':World}{ks:List Str}{A:Option Addr}{n c:Nat}(h:Rep S w (Xe ks) [.slice A n c])(hm:Mold w w'):∃ks':List Str,ks'.length=ks.length/\Rep S w' (Xe ks') [.slice A n c]:=by
  have hl:=h.slice_len;obtain⟨A',c',hA,h1,h2,h3⟩:=Rep.slice_inv h;simp only[List.cons.injEq,Value.slice.injEq,and_true]at hA;obtain⟨rfl,_,rfl⟩:=hA;by_cases hne:ks=[]
  ·subst hne
   exact⟨[],O,Rep.slice_mk (by simpa using hl.1) hl.2.1 hl.2.2 (λh=>absurd O h)⟩
  obtain⟨ad, rfl, es, hc, hr⟩ := h3 (by simpa using hne);obtain⟨es',hc',hk⟩:=hc.mold hm;obtain⟨ks',hl',hr'⟩:=Jy hr hk;exact⟨ks',hl',Rep.slice_mk (by rw[hl.1];simp[hl']) hl.2.1 hl.2.2 (λ_=>⟨ad,O,es',hc',hr'⟩)⟩
def E_(x:Tree):Prop:=∀(S:Nat->Prop)(w w':World)(cs cs':List Value),Rep S w (Pb x) cs->Mold w w'->KinL cs cs'->∃x',Jb x'=Jb x/\Rep S w' (Pb x') cs'
theorem Jv{S:Nat->Prop}{w w':World}(hm:Mold w w'):∀{xs:List Tree}{cs cs':List Value},(∀x∈xs,E_ x)->RepL S w (Ld xs) cs->KinL cs cs'->∃xs':List Tree,xs'.length=xs.length/\Cb xs'=Cb xs/\RepL S w' (Ld xs') cs'
  | [], cs, cs', _, h, k => by
    have:=RepL.nil_inv h;subst this;cases k;exact⟨[],O,O,RepL.nil_mk⟩
  | x :: xs, cs, cs', hx, h, k => by
    obtain⟨c1,c2,rfl,h1,h2⟩:=RepL.cons_inv h;obtain⟨d1,d2,rfl,k1,k2⟩:=k.split;obtain⟨x',e1,r1⟩:=hx x Pa S w w' c1 d1 h1 hm k1;obtain⟨xs',hl,e2,r2⟩:=Jv hm (λy hy=>hx y (by simp[hy])) h2 k2;exact⟨x'::xs',by simp[hl],by rw[Cb,Cb,e1,e2],RepL.cons_mk r1 r2⟩
theorem Zv{S:Nat->Prop}{w w':World}{xs:List Tree}{A:Option Addr}{n c:Nat}(hx:∀x∈xs,E_ x)(h:Rep S w (.slice (Ld xs)) [.slice A n c])(hm:Mold w w'):∃xs':List Tree,xs'.length=xs.length/\Cb xs'=Cb xs/\Rep S w' (.slice (Ld xs')) [.slice A n c]:=by
  have hl:=h.slice_len;obtain⟨A',c',hA,h1,h2,h3⟩:=Rep.slice_inv h;simp only[List.cons.injEq,Value.slice.injEq,and_true]at hA;obtain⟨rfl,_,rfl⟩:=hA;by_cases hne:xs=[]
  ·subst hne
   exact⟨[],O,O,Rep.slice_mk (by simpa using hl.1) hl.2.1 hl.2.2 (λh=>absurd O h)⟩
  obtain⟨ad, rfl, es, hc, hr⟩ := h3 (λe => hne (List.eq_nil_of_length_eq_zero (by rw[<- Nh, e];rfl)));obtain⟨es',hc',hk⟩:=hc.mold hm;obtain⟨xs',hl',e',hr'⟩:=Jv hm hx hr hk;exact⟨xs',hl',e',Rep.slice_mk (by rw[hl.1];simp[hl']) hl.2.1 hl.2.2 (λ_=>⟨ad,O,es',hc',hr'⟩)⟩
theorem TO(x:Tree):E_ x:=Tree.ind (Q:=E_) (λk t ks xs ih S w w' cs cs' hR hm hk=>by
  obtain⟨A,c,B,e,rfl,h1,h2,hK,hX⟩:=hR.tree_inv;obtain⟨d1,d',rfl,k1,hk⟩:=KinL.split (c1:=[_]) hk;obtain⟨d2,d',rfl,k2,hk⟩:=KinL.split (c1:=[_]) hk;obtain⟨d3,d4,rfl,k3,k4⟩:=KinL.split (c1:=[_]) hk;obtain⟨m,rfl,hm1,hm2⟩:=VH k1 h1;obtain⟨u,rfl,hu⟩:=N8 k2 h2;obtain rfl:=Gy k3;obtain rfl:=Gy k4;obtain⟨ks',-,hK'⟩:=Ix hK hm;obtain⟨xs',hl',e',hX'⟩:=Zv ih hX hm;exact⟨.node m u ks' xs',by rw[Jb,Jb,e'],Rep.tree_mk ⟨hm1,hm2⟩ hu hK' hX'⟩) x
noncomputable def Sb (S:Nat->Prop) (w:World):List Nat:=by classical exact (List.range w.heap.size).filter λb=>decide (S b)
theorem EG{S:Nat->Prop}{w:World}{b:Nat}:b∈Sb S w↔b<w.heap.size/\S b:=by simp[Sb]
structure Over (S:Nat->Prop) (w w':World):Prop where
  same:Same (Sb S w) w w'
  mold:Mold w w'
  soft:∀b,Soft w b->Soft w' b
theorem Over.refl(S:Nat->Prop)(w:World):Over S w w:=⟨.refl _ _,.refl _,λ_ h=>h⟩
theorem Over.next{S:Nat->Prop}{w0 w w':World}{b:Nat}(h:Over S w0 w)(hs:Same [b] w w')(hb:b∈Sb S w0)(hm:Mold w w')(ho:∀x,Soft w x->Soft w' x):Over S w0 w' :=
  ⟨h.same.trans (hs.mono λx hx _=>by obtain rfl:=pQ.1 hx;exact hb),h.mold.trans hm,λx hx=>ho x (h.soft x hx)⟩
theorem Over.trans{S:Nat->Prop}{w0 w w':World}(hS:∀b,S b->b<w0.heap.size)(h:Over S w0 w)(k:Over S w w'):Over S w0 w' :=
  ⟨h.same.trans (k.same.mono λx hx _=>by have:=(EG.1 hx).2;exact EG.2 ⟨hS x this,this⟩),h.mold.trans k.mold,λx hx=>k.soft x (h.soft x hx)⟩
def TreeAt(S:Nat->Prop)(w:World)(A:Option Addr)(nk c:Nat)(B:Option Addr)(nx e m:Nat):Prop :=
  ∃(ks:List Str)(xs:List Tree),ks.length=nk/\xs.length=nx/\Cb xs=m/\Rep S w (Xe ks) [.slice A nk c]/\Rep S w (.slice (Ld xs)) [.slice B nx e]
theorem TreeAt.mold{S:Nat->Prop}{w w':World}{A B:Option Addr}{nk c nx e m:Nat}(h:TreeAt S w A nk c B nx e m)(hm:Mold w w'):TreeAt S w' A nk c B nx e m:=by
  obtain⟨ks,xs,h1,h2,h3,hK,hX⟩:=h;obtain⟨ks',l1,r1⟩:=Ix hK hm;obtain⟨xs',l2,e2,r2⟩:=Zv (λx _=>TO x) hX hm;exact⟨ks',xs',l1.trans h1,l2.trans h2,e2.trans h3,r1,r2⟩
theorem TreeAt.key{S:Nat->Prop}{w:World}{A B:Option Addr}{nk c nx e m:Nat}(h:TreeAt S w A nk c B nx e m){i:Nat}(hi:i<nk):∃ad s,A=some ad/\w.cell? (ad.add (i*1))=some (.string s)/\S (ad.add (i*1)).block:=by
  obtain⟨ks,xs,h1,h2,h3,hK,hX⟩:=h;have hne:ks≠[]:=by rintro rfl;simp at h1;omega
  obtain⟨A',c',hA,_,_,h4⟩:=Rep.slice_inv hK;simp only[List.cons.injEq,Value.slice.injEq,and_true]at hA;obtain⟨rfl,_,rfl⟩:=hA;obtain⟨ad,rfl,es,hc,hr⟩:=h4 (by simpa using hne);obtain⟨ad',hA',hcell,-⟩:=hK.str_elem (i:=i) Ca;obtain rfl:=lQ hA';have hlen:es.length=ks.length:=by
    have:=hr.length;have e:∀l:List Str,Jc.sizeL (l.map Om)=l.length:=by
      intro l
      induction l with
      | nil=>rfl
      | cons a l ih=>rw[List.map_cons,Jc.sizeL,ih,kQ];simp[Om,Jc];omega
    rw[e]at this;exact this
  exact⟨ad,_,O,hcell,by rw[Ig];exact (hc 0 Ca).2⟩
theorem TreeAt.item{S:Nat->Prop}{w:World}{A B:Option Addr}{nk c nx e m:Nat}(h:TreeAt S w A nk c B nx e m){j:Nat}(hj:j<nx) :
    ∃ad cs x,B=some ad/\cs.length=4/\(∀q (hq:q<cs.length),w.cell? ((ad.add (j*4)).add q)=some cs[q])/\Rep S w (Pb x) cs/\Jb x<=m/\S (ad.add (j*4)).block/\∃n:Int,w.cell? ((ad.add (j*4)).add 0)=some (J n):=by
  obtain⟨ks,xs,h1,h2,h3,hK,hX⟩:=h;obtain⟨ad,cs,rfl,hl,hc,hr⟩:=hX.tree_elem (i:=j) Ca;have hjx:j<xs.length:=by omega
  obtain⟨A',c',hA,_,_,h4⟩:=Rep.slice_inv hX;simp only[List.cons.injEq,Value.slice.injEq,and_true]at hA;obtain⟨rfl,_,rfl⟩:=hA;obtain⟨ad',hA',es,hce,hre⟩:=h4 (λhz=>by have h0:(Ld xs).length=0:=(by rw[hz];rfl);rw[Nh]at h0;omega);obtain rfl:=lQ hA';have hpos:0<es.length:=by
    rcases Nat.eq_zero_or_pos es.length with h|h
    ·have : es = [] := List.eq_nil_of_length_eq_zero h
     subst this;have h5:=hre.get (sz:=4) (λd hd=>by rw[Jf]at hd;obtain⟨k,_,rfl⟩:=nQ.1 hd;exact Rc k) j (by simpa using hjx);have:=h5.2;simp at this
    exact h
  refine⟨ad,cs,xs[j],O,hl,hc,hr,by rw[<-h3];exact Gh (eQ hjx),by rw[Ig];exact (hce 0 hpos).2,?_⟩;have h0:=hc 0 Ca;generalize hx:xs[j]=x at hr;obtain⟨k,t,ks',ys⟩:=x;obtain⟨_,_,_,_,rfl,_⟩:=hr.tree_inv;exact⟨k,h0⟩
section
variable {P:Program}{R:Exit->Act->World->Prop}{n:Nat}{k:Kt}{s:Nat->Value}{w w0:World}{ops rest:List Oper}{Ds:List Nat}{bs_:List (Nat × Obj)}
variable {ty:TypeId}{pos:String}{aft:Array Edge}{g:Option (Nat × Bool)}
end
end Go.Scarf
