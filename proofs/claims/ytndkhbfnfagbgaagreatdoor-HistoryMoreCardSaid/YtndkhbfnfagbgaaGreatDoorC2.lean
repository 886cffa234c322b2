/- A part of the proof. -/
import Derived.Test.YtndkhbfnfagbgaaGreatDoorP1
import Derived.Lib.BufferRead
import Derived.Lib.ItoaMem
set_option linter.all false
set_option maxHeartbeats 8000000
set_option maxRecDepth 10000
namespace Go.Scarf
open Go.RowKit Go.Proofs
def nq(q:Bool)(c:UInt8):Bool:=if c=34 then !q else q
def keepB(q:Bool)(c:UInt8)(l:Str):Str:=if nq q c=true\/(c≠32/\c≠10) then c::l else l
def Yq:Bool->Str->Str
  | _,[]=>[]
  | q,[c]=>keepB q c []
  | q,c::d::r=>if q=true/\c=92 then c::d::Yq q r else keepB q c (Yq (nq q c) (d::r))
def Bal(a b:Str):Prop:=∀r,Yq false (a++r)=b++Yq false r
def Inq(a:Str):Prop:=∀r,Yq true (a++r)=a++Yq true r
theorem ZB{q:Bool}{c:UInt8}{r:Str}(h:¬(q=true/\c=92)):Yq q (c::r)=keepB q c (Yq (nq q c) r):=by
  cases r with
  | nil=>rw[Yq,Yq]
  | cons d r=>rw[Yq,if_neg h]
theorem Bal.nil:Bal [] []:=λ_=>rfl
theorem Bal.app{a b a' b':Str}(h:Bal a a')(k:Bal b b'):Bal (a++b) (a'++b'):=λr=>by rw[sQ,h,k,sQ]
theorem Inq.nil:Inq []:=λ_=>rfl
theorem Inq.app{a b:Str}(h:Inq a)(k:Inq b):Inq (a++b):=λr=>by rw[sQ,h,k,sQ]
theorem Bal.byte{c:UInt8}(h1:c≠34)(h2:c≠32)(h3:c≠10):Bal [c] [c]:=λr=>by
  show Yq false (c::r)=c::Yq false r;rw[ZB Da,keepB,nq,if_neg h1,if_pos (.inr ⟨h2,h3⟩)]
theorem Bal.bytes:∀{a:Str},(∀c∈a,c≠34/\c≠32/\c≠10)->Bal a a
  | [],_=>Bal.nil
  | c :: a, h => by
    have h1:=h c Da;exact (Bal.byte h1.1 h1.2.1 h1.2.2).app (Bal.bytes λd hd=>h d (by simp[hd]))
theorem Inq.byte{c:UInt8}(h1:c≠34)(h2:c≠92):Inq [c]:=λr=>by
  show Yq true (c::r)=c::Yq true r;rw[ZB (λh=>h2 h.2),keepB,nq,if_neg h1,if_pos (.inl rfl)]
theorem Inq.bytes:∀{a:Str},(∀c∈a,c≠34/\c≠92)->Inq a
  | [],_=>Inq.nil
  | c :: a, h => by
    have h1:=h c Da;exact (Inq.byte h1.1 h1.2).app (Inq.bytes λd hd=>h d (by simp[hd]))
def nl(s:Str):Nat:=s.count 10
theorem GT{k:Int}{t:Str}{ks:List Str}{xs:List Tree}(h:Kd (.node k t ks xs)=true){x:Tree}(hx:x∈xs):Kd x=true:=by
  unfold Kd Ir at h ⊢;simp only[Bool.and_eq_true,decide_eq_true_eq]at h ⊢;have h1:=Uh hx;have h2:=Jh hx;rw[Wb,Cd]at h;exact⟨⟨by omega,by omega⟩,(Lf h.2).2 x hx⟩
theorem FM{k:Int}{t:Str}{ks:List Str}{xs:List Tree}(h:Kd (.node k t ks xs)=true)(hk:k=6):ks.length=xs.length/\∀x∈ks,Lib.validD x=true:=by
  have h1:=(Lf (VB h)).1;subst hk;refine⟨(Mp h1).2,?_⟩;simp only[nodeB,Ms]at h1;simp at h1;exact h1.1.1.2
def Ts(acc:List Str)(s:Str):List Str:=if s∈acc then acc else acc++[s]
def Yf(rows:List (List Str)):List Str:=rows.flatten.foldl Ts []
theorem JY{acc:List Str}{s t:Str}:t∈Ts acc s↔t∈acc\/t=s:=by
  unfold Ts;split
  ·rename_i h
   constructor
   ·exact .inl
   rintro (h1|rfl)
   ·exact h1
   exact h
  simp
theorem PN{acc:List Str}(h:acc.Nodup)(s:Str):(Ts acc s).Nodup:=by
  unfold Ts;split
  ·exact h
  rename_i hn
  rw[List.nodup_append];refine⟨h,by simp,?_⟩;rintro a ha b hb rfl;simp only[pQ]at hb;subst hb;exact hn ha
theorem N5:∀(l:List Str){acc:List Str},acc.Nodup->(l.foldl Ts acc).Nodup
  | [],_,h=>h
  | s::l,_,h=>N5 l (PN h s)
theorem R4:∀(l:List Str){acc:List Str}{t:Str},t∈l.foldl Ts acc↔t∈acc\/t∈l
  | [],_,_=>by simp
  | s::l,_,_=>by rw[List.foldl_cons,R4 l,JY,oQ,or_assoc]
theorem VA:∀(l:List Str)(acc:List Str),∃r,l.foldl Ts acc=acc++r/\r.length<=l.length
  | [],acc=>⟨[],by simp⟩
  | s :: l, acc => by
    obtain⟨r,h,hr⟩:=VA l (Ts acc s);by_cases hs:s∈acc
    ·have e : Ts acc s = acc := if_pos hs
     rw[e]at h;exact⟨r,by rw[List.foldl_cons,e,h],by simp;omega⟩
    have e : Ts acc s = acc ++ [s] := if_neg hs;rw[e]at h;exact⟨s::r,by rw[List.foldl_cons,e,h];simp,by simp;omega⟩
theorem Lh(rows:List (List Str)):(Yf rows).Nodup:=N5 _ List.nodup_nil
def idK(y:Tree):Bool:=decide (y.kind=4) || decide (y.kind=3)
def idB(x:Tree)(key:Str):Bool:=((Jt x key).2&&idK (Jt x key).1)&&decide (PX (Fh (Jt x key).1)=0)
def idS(x:Tree)(key:Str):Str:=if ((Jt x key).2&&idK (Jt x key).1)=true then Xw (Fh (Jt x key).1) else []
def DV(key:Str):List Tree->List Str->Option (List Str)
  | [],acc=>some acc
  | x::xs,acc=>if idB x key=true/\idS x key∉acc then DV key xs (acc++[idS x key]) else none
def XM(v:Tree)(key:Str):Option (List Str):=if Kd v=true/\v.kind=5 then DV key v.items [] else none
theorem YH{key:Str}:∀(xs:List Tree)(acc l:List Str),DV key xs acc=some l->l.length=acc.length+xs.length
  | [],acc,l,h=>by rw[DV]at h;cases h;simp
  | x :: xs, acc, l, h => by
    rw[DV]at h;split at h
    ·have := YH xs _ l h
     simp at this ⊢;omega
    cases h
theorem So{x:Tree}(h:Kd x=true):G5 x=x:=by rw[G5,if_pos (Kj h)]
inductive Kin:Value->Value->Prop where
  | same (v:Value):Kin v v
  | int (n m:Int):-9223372036854775808<=m->m<=9223372036854775807->Kin (J n) (J m)
  | str (s t:ByteArray):t.size<=9223372036854775807->Kin (.string s) (.string t)
theorem Kin.trans{a b c:Value}(h:Kin a b)(k:Kin b c):Kin a c:=by
  cases h with
  | same=>exact k
  | int n m h1 h2 =>
    cases k with
    | same=>exact .int n m h1 h2
    | int _ q h3 h4=>exact .int n q h3 h4
  | str s t h1 =>
    cases k with
    | same=>exact .str s t h1
    | str _ q h3=>exact .str s q h3
inductive KinL:List Value->List Value->Prop where
  | nil:KinL [] []
  | cons {a b:Value} {l m:List Value}:Kin a b->KinL l m->KinL (a::l) (b::m)
theorem KinL.refl:∀l:List Value,KinL l l
  | []=>.nil
  | a::l=>.cons (.same a) (KinL.refl l)
theorem KinL.split:∀{c1 c2 d:List Value},KinL (c1++c2) d->∃d1 d2,d=d1++d2/\KinL c1 d1/\KinL c2 d2
  | [],c2,d,h=>⟨[],d,rfl,.nil,h⟩
  | a :: c1, c2, d, h => by
    cases h with
    | cons h1 h2 =>
      obtain⟨d1,d2,rfl,k1,k2⟩:=KinL.split h2;exact⟨_::d1,d2,O,.cons h1 k1,k2⟩
theorem KinL.of:∀{l m:List Value},l.length=m.length->(∀i (h:i<l.length) (h':i<m.length),Kin l[i] m[i])->KinL l m
  | [],[],_,_=>.nil
  | a::l,b::m,hl,h=>.cons (h 0 Da Da) (KinL.of (by simpa using hl) λi hi hi'=>h (i+1) (by simpa using hi) (by simpa using hi'))
def Mold(w w':World):Prop:=∀a v,w.cell? a=some v->∃v',w'.cell? a=some v'/\Kin v v'
theorem Mold.refl(w:World):Mold w w:=λa v h=>⟨v,h,.same v⟩
theorem Mold.trans{a b c:World}(h:Mold a b)(k:Mold b c):Mold a c:=λx v hx=>by
  obtain⟨v1,h1,k1⟩:=h x v hx;obtain⟨v2,h2,k2⟩:=k x v1 h1;exact⟨v2,h2,k1.trans k2⟩
theorem Mold.same{w w':World}(h:Same [] w w'):Mold w w':=λa v hc=>⟨v,((FR.start w []).ext h).cell0 hc,.same v⟩
theorem Mold.set{w:World}{a:Addr}{u v:Value}(hc:w.cell? a=some u)(hk:Kin u v):Mold w (w.setCell a v):=λb x hb=>by
  have key:∀c e f,w.heap[a.block]? = some (.cells c e f)->(w.setCell a v).heap[a.block]? = some (.cells (c.setIfInBounds a.off v) e f):=by
    intro c e f hh;have hs:a.spot.isSome=false:=by
      unfold World.cell? at hc;rw[hh]at hc;simp only at hc;split at hc
      ·cases hc
      rename_i h;simpa using h
    simp[World.setCell,Array.getElem?_modify,hh,hs]
  by_cases hbl:b.block=a.block
  ·unfold World.cell? at hb hc ⊢
   rw[hbl]at hb ⊢;cases hh:w.heap[a.block]? with
   | none=>rw[hh]at hb;cases hb
   | some o =>
     rw[hh]at hb hc;cases o with
     | cells c e f =>
       rw[key c e f hh];simp only at hb hc ⊢;split at hb
       ·cases hb
       rename_i hsp
       rw[if_neg hsp];split at hc
       ·cases hc
       by_cases ho : b.off = a.off
       ·rw[ho]at hb ⊢
        have hx:x=u:=by rw[hc]at hb;exact (lQ hb).symm
        subst hx;have hlt:a.off<c.size:=by
          rcases Nat.lt_or_ge a.off c.size with h|h
          ·exact h
          rw[Array.getElem?_eq_none h]at hc;cases hc
        exact⟨v,by simp[hlt],hk⟩
       exact⟨x,by rw[Array.getElem?_setIfInBounds_ne (λe=>ho e.symm)];exact hb,.same x⟩
     | _=>cases hb
  refine⟨x, ?_, .same x⟩;rw[<-hb];exact World.cell?_of_block (w:=w) (Below.heap_setCell _ _ _ _ hbl)
theorem CellsAt.mold{S:Nat->Prop}{w w':World}{ad:Addr}{cs:List Value}(h:CellsAt S w ad cs)(hm:Mold w w'):∃cs',CellsAt S w' ad cs'/\KinL cs cs':=by
  have key:∀n,n<=cs.length->∃l:List Value,l.length=n/\∀i (hi:i<l.length),w'.cell? (ad.add i)=some l[i]/\∀h':i<cs.length,Kin cs[i] l[i]:=by
    intro n
    induction n with
    | zero=>exact λ_=>⟨[],rfl,λi hi=>absurd hi Da⟩
    | succ n ih =>
      intro hn;obtain⟨l,hl,h1⟩:=ih sX;obtain⟨v',h2,h3⟩:=hm _ _ (h n sX).1;refine⟨l++[v'],by simp[hl],λi hi=>?_⟩;by_cases hin:i<l.length
      ·rw[List.getElem_append_left hin];exact h1 i hin
      have hi2 : i = n := by simp at hi;omega
      subst hi2;rw[List.getElem_append_right sX];simp only[hl,Nat.sub_self,List.getElem_cons_zero];exact⟨h2,λ_=>h3⟩
  obtain⟨l,hl,h1⟩:=key cs.length (gQ _);refine⟨l,λi hi=>⟨(h1 i hi).1,(h i sX).2⟩,KinL.of hl.symm λi hi hi'=>(h1 i hi').2 hi⟩
theorem kin_int{n:Int}{d:List Value}(h:KinL [J n] d)(hn:-9223372036854775808<=n/\n<=9223372036854775807):∃m:Int,d=[J m]/\-9223372036854775808<=m/\m<=9223372036854775807:=by
  cases h with
  | cons h1 h2 =>
    cases h2;cases h1 with
    | same=>exact⟨n,rfl,hn⟩
    | int _ m h3 h4=>exact⟨m,rfl,h3,h4⟩
theorem LQ{s:Str}{d:List Value}(h:KinL [I s] d)(hs:s.length<=9223372036854775807):∃t:Str,d=[I t]/\t.length<=9223372036854775807:=by
  cases h with
  | cons h1 h2 =>
    cases h2;cases h1 with
    | same=>exact⟨s,rfl,hs⟩
    | str _ t h3 =>
      refine⟨t.data.toList,?_,by rw[Array.length_toList];exact h3⟩;exact congrArg (λz=>[Value.string z]) (show t=bs t.data.toList by cases t;rfl)
theorem FD{A:Option Addr}{n c:Nat}{d:List Value}(h:KinL [.slice A n c] d):d=[.slice A n c]:=by
  cases h with
  | cons h1 h2=>cases h2;cases h1;rfl
theorem IB{S:Nat->Prop}{w w':World}:∀{ks:List Str}{cs cs':List Value},RepL S w (ks.map Dq) cs->KinL cs cs'->∃ks':List Str,ks'.length=ks.length/\RepL S w' (ks'.map Dq) cs'
  | [], cs, cs', h, k => by
    have:=RepL.nil_inv h;subst this;cases k;exact⟨[],O,RepL.nil_mk⟩
  | s :: ks, cs, cs', h, k => by
    obtain⟨c1,c2,rfl,h1,h2⟩:=RepL.cons_inv h;obtain⟨d1,d2,rfl,k1,k2⟩:=k.split;obtain⟨rfl,hs⟩:=Rep.str_inv h1;obtain⟨t,rfl,ht⟩:=LQ k1 hs;obtain⟨ks',hl,hr⟩:=IB h2 k2;exact⟨t::ks',by simp[hl],RepL.cons_mk (Rep.lit_mk (v:=I t) ht) hr⟩
theorem XA{S:Nat->Prop}{w w':World}{ks:List Str}{A:Option Addr}{n c:Nat}(h:Rep S w (Xd ks) [.slice A n c])(hm:Mold w w'):∃ks':List Str,ks'.length=ks.length/\Rep S w' (Xd ks') [.slice A n c]:=by
  have hl:=h.slice_len;obtain⟨A',c',hA,h1,h2,h3⟩:=Rep.slice_inv h;simp only[List.cons.injEq,Value.slice.injEq,and_true]at hA;obtain⟨rfl,_,rfl⟩:=hA;by_cases hne:ks=[]
  ·subst hne
   exact⟨[],O,Rep.slice_mk (by simpa using hl.1) hl.2.1 hl.2.2 (λh=>absurd O h)⟩
  obtain⟨ad, rfl, es, hc, hr⟩ := h3 (by simpa using hne);obtain⟨es',hc',hk⟩:=hc.mold hm;obtain⟨ks',hl',hr'⟩:=IB hr hk;exact⟨ks',hl',Rep.slice_mk (by rw[hl.1];simp[hl']) hl.2.1 hl.2.2 (λ_=>⟨ad,O,es',hc',hr'⟩)⟩
def WR(x:Tree):Prop:=∀(S:Nat->Prop)(w w':World)(cs cs':List Value),Rep S w (Zb x) cs->Mold w w'->KinL cs cs'->∃x',Wb x'=Wb x/\Rep S w' (Zb x') cs'
theorem Z8{S:Nat->Prop}{w w':World}(hm:Mold w w'):∀{xs:List Tree}{cs cs':List Value},(∀x∈xs,WR x)->RepL S w (Gd xs) cs->KinL cs cs'->∃xs':List Tree,xs'.length=xs.length/\Rb xs'=Rb xs/\RepL S w' (Gd xs') cs'
  | [], cs, cs', _, h, k => by
    have:=RepL.nil_inv h;subst this;cases k;exact⟨[],O,O,RepL.nil_mk⟩
  | x :: xs, cs, cs', hx, h, k => by
    obtain⟨c1,c2,rfl,h1,h2⟩:=RepL.cons_inv h;obtain⟨d1,d2,rfl,k1,k2⟩:=k.split;obtain⟨x',e1,r1⟩:=hx x Da S w w' c1 d1 h1 hm k1;obtain⟨xs',hl,e2,r2⟩:=Z8 hm (λy hy=>hx y (by simp[hy])) h2 k2;exact⟨x'::xs',by simp[hl],by rw[Rb,Rb,e1,e2],RepL.cons_mk r1 r2⟩
theorem O7{S:Nat->Prop}{w w':World}{xs:List Tree}{A:Option Addr}{n c:Nat}(hx:∀x∈xs,WR x)(h:Rep S w (.slice (Gd xs)) [.slice A n c])(hm:Mold w w'):∃xs':List Tree,xs'.length=xs.length/\Rb xs'=Rb xs/\Rep S w' (.slice (Gd xs')) [.slice A n c]:=by
  have hl:=h.slice_len;obtain⟨A',c',hA,h1,h2,h3⟩:=Rep.slice_inv h;simp only[List.cons.injEq,Value.slice.injEq,and_true]at hA;obtain⟨rfl,_,rfl⟩:=hA;by_cases hne:xs=[]
  ·subst hne
   exact⟨[],O,O,Rep.slice_mk (by simpa using hl.1) hl.2.1 hl.2.2 (λh=>absurd O h)⟩
  obtain⟨ad, rfl, es, hc, hr⟩ := h3 (λe => hne (List.eq_nil_of_length_eq_zero (by rw[<- Hi, e];rfl)));obtain⟨es',hc',hk⟩:=hc.mold hm;obtain⟨xs',hl',e',hr'⟩:=Z8 hm hx hr hk;exact⟨xs',hl',e',Rep.slice_mk (by rw[hl.1];simp[hl']) hl.2.1 hl.2.2 (λ_=>⟨ad,O,es',hc',hr'⟩)⟩
theorem moldT(x:Tree):WR x:=Tree.ind (Q:=WR) (λk t ks xs ih S w w' cs cs' hR hm hk=>by
  obtain⟨A,c,B,e,rfl,h1,h2,hK,hX⟩:=hR.tree_inv;obtain⟨d1,d',rfl,k1,hk⟩:=KinL.split (c1:=[_]) hk;obtain⟨d2,d',rfl,k2,hk⟩:=KinL.split (c1:=[_]) hk;obtain⟨d3,d4,rfl,k3,k4⟩:=KinL.split (c1:=[_]) hk;obtain⟨m,rfl,hm1,hm2⟩:=kin_int k1 h1;obtain⟨u,rfl,hu⟩:=LQ k2 h2;obtain rfl:=FD k3;obtain rfl:=FD k4;obtain⟨ks',-,hK'⟩:=XA hK hm;obtain⟨xs',hl',e',hX'⟩:=O7 ih hX hm;exact⟨.node m u ks' xs',by rw[Wb,Wb,e'],Rep.tree_mk ⟨hm1,hm2⟩ hu hK' hX'⟩) x
noncomputable def Sb (S:Nat->Prop) (w:World):List Nat:=by classical exact (List.range w.heap.size).filter λb=>decide (S b)
theorem KX{S:Nat->Prop}{w:World}{b:Nat}:b∈Sb S w↔b<w.heap.size/\S b:=by simp[Sb]
structure Over (S:Nat->Prop) (w w':World):Prop where
  same:Same (Sb S w) w w'
  mold:Mold w w'
  soft:∀b,Soft w b->Soft w' b
theorem Over.refl(S:Nat->Prop)(w:World):Over S w w:=⟨.refl _ _,.refl _,λ_ h=>h⟩
theorem Over.next{S:Nat->Prop}{w0 w w':World}{b:Nat}(h:Over S w0 w)(hs:Same [b] w w')(hb:b∈Sb S w0)(hm:Mold w w')(ho:∀x,Soft w x->Soft w' x):Over S w0 w' :=
  ⟨h.same.trans (hs.mono λx hx _=>by obtain rfl:=pQ.1 hx;exact hb),h.mold.trans hm,λx hx=>ho x (h.soft x hx)⟩
theorem Over.trans{S:Nat->Prop}{w0 w w':World}(hS:∀b,S b->b<w0.heap.size)(h:Over S w0 w)(k:Over S w w'):Over S w0 w' :=
  ⟨h.same.trans (k.same.mono λx hx _=>by have:=(KX.1 hx).2;exact KX.2 ⟨hS x this,this⟩),h.mold.trans k.mold,λx hx=>k.soft x (h.soft x hx)⟩
def TreeAt(S:Nat->Prop)(w:World)(A:Option Addr)(nk c:Nat)(B:Option Addr)(nx e m:Nat):Prop :=
  ∃(ks:List Str)(xs:List Tree),ks.length=nk/\xs.length=nx/\Rb xs=m/\Rep S w (Xd ks) [.slice A nk c]/\Rep S w (.slice (Gd xs)) [.slice B nx e]
theorem TreeAt.mold{S:Nat->Prop}{w w':World}{A B:Option Addr}{nk c nx e m:Nat}(h:TreeAt S w A nk c B nx e m)(hm:Mold w w'):TreeAt S w' A nk c B nx e m:=by
  obtain⟨ks,xs,h1,h2,h3,hK,hX⟩:=h;obtain⟨ks',l1,r1⟩:=XA hK hm;obtain⟨xs',l2,e2,r2⟩:=O7 (λx _=>moldT x) hX hm;exact⟨ks',xs',l1.trans h1,l2.trans h2,e2.trans h3,r1,r2⟩
theorem TreeAt.key{S:Nat->Prop}{w:World}{A B:Option Addr}{nk c nx e m:Nat}(h:TreeAt S w A nk c B nx e m){i:Nat}(hi:i<nk):∃ad s,A=some ad/\w.cell? (ad.add (i*1))=some (.string s)/\S (ad.add (i*1)).block:=by
  obtain⟨ks,xs,h1,h2,h3,hK,hX⟩:=h;have hne:ks≠[]:=by rintro rfl;simp at h1;omega
  obtain⟨A',c',hA,_,_,h4⟩:=Rep.slice_inv hK;simp only[List.cons.injEq,Value.slice.injEq,and_true]at hA;obtain⟨rfl,_,rfl⟩:=hA;obtain⟨ad,rfl,es,hc,hr⟩:=h4 (by simpa using hne);obtain⟨ad',hA',hcell,-⟩:=hK.str_elem (i:=i) sX;obtain rfl:=lQ hA';have hlen:es.length=ks.length:=by
    have:=hr.length;have e:∀l:List Str,Wd.sizeL (l.map Dq)=l.length:=by
      intro l
      induction l with
      | nil=>rfl
      | cons a l ih=>rw[List.map_cons,Wd.sizeL,ih,kQ];simp[Dq,Wd];omega
    rw[e]at this;exact this
  exact⟨ad,_,O,hcell,by rw[Mg];exact (hc 0 sX).2⟩
theorem TreeAt.item{S:Nat->Prop}{w:World}{A B:Option Addr}{nk c nx e m:Nat}(h:TreeAt S w A nk c B nx e m){j:Nat}(hj:j<nx) :
    ∃ad cs x,B=some ad/\cs.length=4/\(∀q (hq:q<cs.length),w.cell? ((ad.add (j*4)).add q)=some cs[q])/\Rep S w (Zb x) cs/\Wb x<=m/\S (ad.add (j*4)).block/\∃n:Int,w.cell? ((ad.add (j*4)).add 0)=some (J n):=by
  obtain⟨ks,xs,h1,h2,h3,hK,hX⟩:=h;obtain⟨ad,cs,rfl,hl,hc,hr⟩:=hX.tree_elem (i:=j) sX;have hjx:j<xs.length:=by omega
  obtain⟨A',c',hA,_,_,h4⟩:=Rep.slice_inv hX;simp only[List.cons.injEq,Value.slice.injEq,and_true]at hA;obtain⟨rfl,_,rfl⟩:=hA;obtain⟨ad',hA',es,hce,hre⟩:=h4 (λhz=>by have h0:(Gd xs).length=0:=(by rw[hz];rfl);rw[Hi]at h0;omega);obtain rfl:=lQ hA';have hpos:0<es.length:=by
    rcases Nat.eq_zero_or_pos es.length with h|h
    ·have : es = [] := List.eq_nil_of_length_eq_zero h
     subst this;have h5:=hre.get (sz:=4) (λd hd=>by rw[Be]at hd;obtain⟨k,_,rfl⟩:=nQ.1 hd;exact Tc k) j (by simpa using hjx);have:=h5.2;simp at this
    exact h
  refine⟨ad,cs,xs[j],O,hl,hc,hr,by rw[<-h3];exact Uh (eQ hjx),by rw[Mg];exact (hce 0 hpos).2,?_⟩;have h0:=hc 0 sX;generalize hx:xs[j]=x at hr;obtain⟨k,t,ks',ys⟩:=x;obtain⟨_,_,_,_,rfl,_⟩:=hr.tree_inv;exact⟨k,h0⟩
section
variable {P:Program}{R:Exit->Act->World->Prop}{n:Nat}{k:Kt}{s:Nat->Value}{w w0:World}{ops rest:List Oper}{Ds:List Nat}{bs_:List (Nat × Obj)}
variable {ty:TypeId}{pos:String}{aft:Array Edge}{g:Option (Nat × Bool)}
end
def Ends(r:Str):Prop:=∀c s,r=c::s->c=44\/c=93\/c=125
theorem Ends.nil:Ends []:=λc s h=>by cases h
open Go.RowKit
section
variable {P:Program}{w0 w:World}{Ds:List Nat}{pre post sb:List (Nat × Obj)}
end
section
variable {P:Program}{R:Exit->Act->World->Prop}{n:Nat}{kt:Kt}{s:Nat->Value}{w:World}{ops rest:List Oper}
variable {d:Nat}{ty:TypeId}{pos:String}{aft:Array Edge}{g:Option (Nat × Bool)}
variable {w0:World}{Ds:List Nat}{sb:List (Nat × Obj)}
end
end Go.Scarf
