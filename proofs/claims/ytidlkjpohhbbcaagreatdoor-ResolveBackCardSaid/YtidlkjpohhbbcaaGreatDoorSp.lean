/- A part of the proof. -/
import Derived.Lib.DecodeN
import Derived.Lib.ParseIntBCases
import Derived.Test.YtidlkjpohhbbcaaGreatDoorRow6
import Derived.Laws.Slices
set_option linter.all false
set_option maxHeartbeats 8000000
set_option maxRecDepth 10000
namespace Go.Scarf
open Go.RowKit Go.Proofs
inductive Kin:Value->Value->Prop where
  | same (v:Value):Kin v v
  | int (n m:Int):-9223372036854775808<=m->m<=9223372036854775807->Kin (J n) (J m)
  | str (s t:ByteArray):t.size<=9223372036854775807->Kin (.string s) (.string t)
theorem Kin.trans{a b c:Value}(h:Kin a b)(k:Kin b c):Kin a c:=by
  cases h with
  | same=>exact k
  | int n m h1 h2 =>
    cases k with
    | same=>exact .int n m h1 h2
    | int _ q h3 h4=>exact .int n q h3 h4
  | str s t h1 =>
    cases k with
    | same=>exact .str s t h1
    | str _ q h3=>exact .str s q h3
inductive KinL:List Value->List Value->Prop where
  | nil:KinL [] []
  | cons {a b:Value} {l m:List Value}:Kin a b->KinL l m->KinL (a::l) (b::m)
theorem KinL.refl:∀l:List Value,KinL l l
  | []=>.nil
  | a::l=>.cons (.same a) (KinL.refl l)
theorem KinL.split:∀{c1 c2 d:List Value},KinL (c1++c2) d->∃d1 d2,d=d1++d2/\KinL c1 d1/\KinL c2 d2
  | [],c2,d,h=>⟨[],d,rfl,.nil,h⟩
  | a :: c1, c2, d, h => by
    cases h with
    | cons h1 h2 =>
      obtain⟨d1,d2,rfl,k1,k2⟩:=KinL.split h2;exact⟨_::d1,d2,O,.cons h1 k1,k2⟩
theorem KinL.of:∀{l m:List Value},l.length=m.length->(∀i (h:i<l.length) (h':i<m.length),Kin l[i] m[i])->KinL l m
  | [],[],_,_=>.nil
  | a::l,b::m,hl,h=>.cons (h 0 La La) (KinL.of (by simpa using hl) λi hi hi'=>h (i+1) (by simpa using hi) (by simpa using hi'))
def Mold(w w':World):Prop:=∀a v,w.cell? a=some v->∃v',w'.cell? a=some v'/\Kin v v'
theorem Mold.refl(w:World):Mold w w:=λa v h=>⟨v,h,.same v⟩
theorem Mold.trans{a b c:World}(h:Mold a b)(k:Mold b c):Mold a c:=λx v hx=>by
  obtain⟨v1,h1,k1⟩:=h x v hx;obtain⟨v2,h2,k2⟩:=k x v1 h1;exact⟨v2,h2,k1.trans k2⟩
theorem Mold.same{w w':World}(h:Same [] w w'):Mold w w':=λa v hc=>⟨v,((FR.start w []).ext h).cell0 hc,.same v⟩
theorem Mold.set{w:World}{a:Addr}{u v:Value}(hc:w.cell? a=some u)(hk:Kin u v):Mold w (w.setCell a v):=λb x hb=>by
  have key:∀c e f,w.heap[a.block]? = some (.cells c e f)->(w.setCell a v).heap[a.block]? = some (.cells (c.setIfInBounds a.off v) e f):=by
    intro c e f hh;have hs:a.spot.isSome=false:=by
      unfold World.cell? at hc;rw[hh]at hc;simp only at hc;split at hc
      ·cases hc
      rename_i h;simpa using h
    simp[World.setCell,Array.getElem?_modify,hh,hs]
  by_cases hbl:b.block=a.block
  ·unfold World.cell? at hb hc ⊢
   rw[hbl]at hb ⊢;cases hh:w.heap[a.block]? with
   | none=>rw[hh]at hb;cases hb
   | some o =>
     rw[hh]at hb hc;cases o with
     | cells c e f =>
       rw[key c e f hh];simp only at hb hc ⊢;split at hb
       ·cases hb
       rename_i hsp
       rw[if_neg hsp];split at hc
       ·cases hc
       by_cases ho : b.off = a.off
       ·rw[ho]at hb ⊢
        have hx:x=u:=by rw[hc]at hb;exact (lQ hb).symm
        subst hx;have hlt:a.off<c.size:=by
          rcases Nat.lt_or_ge a.off c.size with h|h
          ·exact h
          rw[Array.getElem?_eq_none h]at hc;cases hc
        exact⟨v,by simp[hlt],hk⟩
       exact⟨x,by rw[Array.getElem?_setIfInBounds_ne (λe=>ho e.symm)];exact hb,.same x⟩
     | _=>cases hb
  refine⟨x, ?_, .same x⟩;rw[<-hb];exact World.cell?_of_block (w:=w) (Below.heap_setCell _ _ _ _ hbl)
theorem CellsAt.mold{S:Nat->Prop}{w w':World}{ad:Addr}{cs:List Value}(h:CellsAt S w ad cs)(hm:Mold w w'):∃cs',CellsAt S w' ad cs'/\KinL cs cs':=by
  have key:∀n,n<=cs.length->∃l:List Value,l.length=n/\∀i (hi:i<l.length),w'.cell? (ad.add i)=some l[i]/\∀h':i<cs.length,Kin cs[i] l[i]:=by
    intro n
    induction n with
    | zero=>exact λ_=>⟨[],rfl,λi hi=>absurd hi La⟩
    | succ n ih =>
      intro hn;obtain⟨l,hl,h1⟩:=ih Aa;obtain⟨v',h2,h3⟩:=hm _ _ (h n Aa).1;refine⟨l++[v'],by simp[hl],λi hi=>?_⟩;by_cases hin:i<l.length
      ·rw[List.getElem_append_left hin];exact h1 i hin
      have hi2 : i = n := by simp at hi;omega
      subst hi2;rw[List.getElem_append_right Aa];simp only[hl,Nat.sub_self,List.getElem_cons_zero];exact⟨h2,λ_=>h3⟩
  obtain⟨l,hl,h1⟩:=key cs.length (gQ _);refine⟨l,λi hi=>⟨(h1 i hi).1,(h i Aa).2⟩,KinL.of hl.symm λi hi hi'=>(h1 i hi').2 hi⟩
theorem kin_int{n:Int}{d:List Value}(h:KinL [J n] d)(hn:-9223372036854775808<=n/\n<=9223372036854775807):∃m:Int,d=[J m]/\-9223372036854775808<=m/\m<=9223372036854775807:=by
  cases h with
  | cons h1 h2 =>
    cases h2;cases h1 with
    | same=>exact⟨n,rfl,hn⟩
    | int _ m h3 h4=>exact⟨m,rfl,h3,h4⟩
theorem CP{s:Str}{d:List Value}(h:KinL [I s] d)(hs:s.length<=9223372036854775807):∃t:Str,d=[I t]/\t.length<=9223372036854775807:=by
  cases h with
  | cons h1 h2 =>
    cases h2;cases h1 with
    | same=>exact⟨s,rfl,hs⟩
    | str _ t h3 =>
      refine⟨t.data.toList,?_,by rw[Array.length_toList];exact h3⟩;exact congrArg (λz=>[Value.string z]) (show t=bs t.data.toList by cases t;rfl)
theorem FA{A:Option Addr}{n c:Nat}{d:List Value}(h:KinL [.slice A n c] d):d=[.slice A n c]:=by
  cases h with
  | cons h1 h2=>cases h2;cases h1;rfl
theorem ZA{S:Nat->Prop}{w w':World}:∀{ks:List Str}{cs cs':List Value},RepL S w (ks.map Zm) cs->KinL cs cs'->∃ks':List Str,ks'.length=ks.length/\RepL S w' (ks'.map Zm) cs'
  | [], cs, cs', h, k => by
    have:=RepL.nil_inv h;subst this;cases k;exact⟨[],O,RepL.nil_mk⟩
  | s :: ks, cs, cs', h, k => by
    obtain⟨c1,c2,rfl,h1,h2⟩:=RepL.cons_inv h;obtain⟨d1,d2,rfl,k1,k2⟩:=k.split;obtain⟨rfl,hs⟩:=Rep.str_inv h1;obtain⟨t,rfl,ht⟩:=CP k1 hs;obtain⟨ks',hl,hr⟩:=ZA h2 k2;exact⟨t::ks',by simp[hl],RepL.cons_mk (Rep.lit_mk (v:=I t) ht) hr⟩
theorem C9{S:Nat->Prop}{w w':World}{ks:List Str}{A:Option Addr}{n c:Nat}(h:Rep S w (Ci ks) [.slice A n c])(hm:Mold w w'):∃ks':List Str,ks'.length=ks.length/\Rep S w' (Ci ks') [.slice A n c]:=by
  have hl:=h.slice_len;obtain⟨A',c',hA,h1,h2,h3⟩:=Rep.slice_inv h;simp only[List.cons.injEq,Value.slice.injEq,and_true]at hA;obtain⟨rfl,_,rfl⟩:=hA;by_cases hne:ks=[]
  ·subst hne
   exact⟨[],O,Rep.slice_mk (by simpa using hl.1) hl.2.1 hl.2.2 (λh=>absurd O h)⟩
  obtain⟨ad, rfl, es, hc, hr⟩ := h3 (by simpa using hne);obtain⟨es',hc',hk⟩:=hc.mold hm;obtain⟨ks',hl',hr'⟩:=ZA hr hk;exact⟨ks',hl',Rep.slice_mk (by rw[hl.1];simp[hl']) hl.2.1 hl.2.2 (λ_=>⟨ad,O,es',hc',hr'⟩)⟩
def DO(x:Tree):Prop:=∀(S:Nat->Prop)(w w':World)(cs cs':List Value),Rep S w (Jb x) cs->Mold w w'->KinL cs cs'->∃x',Db x'=Db x/\Rep S w' (Jb x') cs'
theorem W4{S:Nat->Prop}{w w':World}(hm:Mold w w'):∀{xs:List Tree}{cs cs':List Value},(∀x∈xs,DO x)->RepL S w (Ie xs) cs->KinL cs cs'->∃xs':List Tree,xs'.length=xs.length/\Nb xs'=Nb xs/\RepL S w' (Ie xs') cs'
  | [], cs, cs', _, h, k => by
    have:=RepL.nil_inv h;subst this;cases k;exact⟨[],O,O,RepL.nil_mk⟩
  | x :: xs, cs, cs', hx, h, k => by
    obtain⟨c1,c2,rfl,h1,h2⟩:=RepL.cons_inv h;obtain⟨d1,d2,rfl,k1,k2⟩:=k.split;obtain⟨x',e1,r1⟩:=hx x La S w w' c1 d1 h1 hm k1;obtain⟨xs',hl,e2,r2⟩:=W4 hm (λy hy=>hx y (by simp[hy])) h2 k2;exact⟨x'::xs',by simp[hl],by rw[Nb,Nb,e1,e2],RepL.cons_mk r1 r2⟩
theorem M4{S:Nat->Prop}{w w':World}{xs:List Tree}{A:Option Addr}{n c:Nat}(hx:∀x∈xs,DO x)(h:Rep S w (.slice (Ie xs)) [.slice A n c])(hm:Mold w w'):∃xs':List Tree,xs'.length=xs.length/\Nb xs'=Nb xs/\Rep S w' (.slice (Ie xs')) [.slice A n c]:=by
  have hl:=h.slice_len;obtain⟨A',c',hA,h1,h2,h3⟩:=Rep.slice_inv h;simp only[List.cons.injEq,Value.slice.injEq,and_true]at hA;obtain⟨rfl,_,rfl⟩:=hA;by_cases hne:xs=[]
  ·subst hne
   exact⟨[],O,O,Rep.slice_mk (by simpa using hl.1) hl.2.1 hl.2.2 (λh=>absurd O h)⟩
  obtain⟨ad, rfl, es, hc, hr⟩ := h3 (λe => hne (List.eq_nil_of_length_eq_zero (by rw[<- Qm, e];rfl)));obtain⟨es',hc',hk⟩:=hc.mold hm;obtain⟨xs',hl',e',hr'⟩:=W4 hm hx hr hk;exact⟨xs',hl',e',Rep.slice_mk (by rw[hl.1];simp[hl']) hl.2.1 hl.2.2 (λ_=>⟨ad,O,es',hc',hr'⟩)⟩
theorem moldT(x:Tree):DO x:=Tree.ind (Q:=DO) (λk t ks xs ih S w w' cs cs' hR hm hk=>by
  obtain⟨A,c,B,e,rfl,h1,h2,hK,hX⟩:=hR.tree_inv;obtain⟨d1,d',rfl,k1,hk⟩:=KinL.split (c1:=[_]) hk;obtain⟨d2,d',rfl,k2,hk⟩:=KinL.split (c1:=[_]) hk;obtain⟨d3,d4,rfl,k3,k4⟩:=KinL.split (c1:=[_]) hk;obtain⟨m,rfl,hm1,hm2⟩:=kin_int k1 h1;obtain⟨u,rfl,hu⟩:=CP k2 h2;obtain rfl:=FA k3;obtain rfl:=FA k4;obtain⟨ks',-,hK'⟩:=C9 hK hm;obtain⟨xs',hl',e',hX'⟩:=M4 ih hX hm;exact⟨.node m u ks' xs',by rw[Db,Db,e'],Rep.tree_mk ⟨hm1,hm2⟩ hu hK' hX'⟩) x
noncomputable def Sb (S:Nat->Prop) (w:World):List Nat:=by classical exact (List.range w.heap.size).filter λb=>decide (S b)
theorem mem_Sb{S:Nat->Prop}{w:World}{b:Nat}:b∈Sb S w↔b<w.heap.size/\S b:=by simp[Sb]
structure Over (S:Nat->Prop) (w w':World):Prop where
  same:Same (Sb S w) w w'
  mold:Mold w w'
  soft:∀b,HG w b->HG w' b
theorem Over.refl(S:Nat->Prop)(w:World):Over S w w:=⟨.refl _ _,.refl _,λ_ h=>h⟩
theorem Over.next{S:Nat->Prop}{w0 w w':World}{b:Nat}(h:Over S w0 w)(hs:Same [b] w w')(hb:b∈Sb S w0)(hm:Mold w w')(ho:∀x,HG w x->HG w' x):Over S w0 w' :=
  ⟨h.same.trans (hs.mono λx hx _=>by obtain rfl:=pQ.1 hx;exact hb),h.mold.trans hm,λx hx=>ho x (h.soft x hx)⟩
theorem Over.trans{S:Nat->Prop}{w0 w w':World}(hS:∀b,S b->b<w0.heap.size)(h:Over S w0 w)(k:Over S w w'):Over S w0 w' :=
  ⟨h.same.trans (k.same.mono λx hx _=>by have:=(mem_Sb.1 hx).2;exact mem_Sb.2 ⟨hS x this,this⟩),h.mold.trans k.mold,λx hx=>k.soft x (h.soft x hx)⟩
def TreeAt(S:Nat->Prop)(w:World)(A:Option Addr)(nk c:Nat)(B:Option Addr)(nx e m:Nat):Prop :=
  ∃(ks:List Str)(xs:List Tree),ks.length=nk/\xs.length=nx/\Nb xs=m/\Rep S w (Ci ks) [.slice A nk c]/\Rep S w (.slice (Ie xs)) [.slice B nx e]
theorem TreeAt.mold{S:Nat->Prop}{w w':World}{A B:Option Addr}{nk c nx e m:Nat}(h:TreeAt S w A nk c B nx e m)(hm:Mold w w'):TreeAt S w' A nk c B nx e m:=by
  obtain⟨ks,xs,h1,h2,h3,hK,hX⟩:=h;obtain⟨ks',l1,r1⟩:=C9 hK hm;obtain⟨xs',l2,e2,r2⟩:=M4 (λx _=>moldT x) hX hm;exact⟨ks',xs',l1.trans h1,l2.trans h2,e2.trans h3,r1,r2⟩
theorem TreeAt.key{S:Nat->Prop}{w:World}{A B:Option Addr}{nk c nx e m:Nat}(h:TreeAt S w A nk c B nx e m){i:Nat}(hi:i<nk):∃ad s,A=some ad/\w.cell? (ad.add (i*1))=some (.string s)/\S (ad.add (i*1)).block:=by
  obtain⟨ks,xs,h1,h2,h3,hK,hX⟩:=h;have hne:ks≠[]:=by rintro rfl;simp at h1;omega
  obtain⟨A',c',hA,_,_,h4⟩:=Rep.slice_inv hK;simp only[List.cons.injEq,Value.slice.injEq,and_true]at hA;obtain⟨rfl,_,rfl⟩:=hA;obtain⟨ad,rfl,es,hc,hr⟩:=h4 (by simpa using hne);obtain⟨ad',hA',hcell,-⟩:=hK.str_elem (i:=i) Aa;obtain rfl:=lQ hA';have hlen:es.length=ks.length:=by
    have:=hr.length;have e:∀l:List Str,Md.sizeL (l.map Zm)=l.length:=by
      intro l
      induction l with
      | nil=>rfl
      | cons a l ih=>rw[List.map_cons,Md.sizeL,ih,kQ];simp[Zm,Md];omega
    rw[e]at this;exact this
  exact⟨ad,_,O,hcell,by rw[Rh];exact (hc 0 Aa).2⟩
section
variable {P:Program}{R:Exit->Act->World->Prop}{n:Nat}{k:Kt}{s:Nat->Value}{w w0:World}{ops rest:List Oper}{Ds:List Nat}{bs_:List (Nat × Obj)}
variable {ty:TypeId}{pos:String}{aft:Array Edge}{g:Option (Nat × Bool)}
end
theorem all_cons{c:UInt8}{s:Str}(h:(c::s).all Bi=true):Bi c=true/\s.all Bi=true:=by simpa using h
theorem I4(a b:Str):Lib.compareBytes b a = - Lib.compareBytes a b:=(la_bytes a).anti b trivial
theorem BA:∀a b:Str,At a b=decide (Lib.compareBytes a b = -1)
  | [],[]=>rfl
  | [],_::_=>rfl
  | _::_,[]=>rfl
  | c :: a, d :: b => by
    have ih:=BA a b;unfold At at ih ⊢;rw[Op.bytesLess,Lib.compareBytes,ih];by_cases h1:c<d
    ·rw[if_pos h1]
     have:=UInt8.lt_iff_toNat_lt.1 h1;simp[h1]
    rw[if_neg h1];by_cases h2:d<c
    ·rw[if_pos h2]
     have:¬c=d:=λe=>by subst e;exact h1 h2
     simp[h1,this]
    rw[if_neg h2];have h3:c=d:=UInt8.toNat.inj (by have a1:¬c.toNat<d.toNat:=λh=>h1 (UInt8.lt_iff_toNat_lt.2 h);have a2:¬d.toNat<c.toNat:=λh=>h2 (UInt8.lt_iff_toNat_lt.2 h);omega);simp[h3]
open Go.RowKit Go.Proofs Go.Maps
section
variable {P:Program}{w0 w:World}{Ds ids:List Nat}
theorem JN{l:List Str}{A:Option Addr}{ad:Addr}{n c:Nat}(h:RX w0 ids w [Ci l] [.slice A n c])(hA:A=some ad):∀q (hq:q<l.length),w.cell? (ad.add (q*1))=some (I (l[q])):=λq hq=>by
  obtain⟨ad',hA',hc,-⟩:=h.rep.str_elem hq;rw[hA]at hA';obtain rfl:=lQ hA';exact hc
theorem LT{l:List Str}{A:Option Addr}{n c:Nat}(h:RX w0 ids w [Ci l] [.slice A n c])(hl:0<l.length):∃ad,A=some ad:=by
  obtain⟨ad,hA,-⟩:=h.rep.str_elem hl;exact⟨ad,hA⟩
theorem BO{t e:TypeId}(h:P.underlying t=some (.slice e)):P.elem t=e:=by unfold Program.elem;rw[h]
theorem Uv{ρ:Operand->Value}{dst:Option Nat}{ty:TypeId}{pos:String}{aft:Array Edge}{g:Option (Nat × Bool)}{t e sz:Nat}{x y:Operand}{A:Option Addr}{n c:Nat}{k:IntKind}(m:Nat)(ht:Vi P t e sz)(hx:ρ x=.slice A n c)(hy:ρ y=.int k (m:Int))(hm:m<=n) :
    (execOp ρ ⟨dst,.slice t x (some y) none none,ty,pos,aft,g⟩).run P w=.ok (.value (.slice (if c=m then A else A.map (·.add (m*sz))) (n-m) (c-m))) w:=by
  have he:=BO ht.1;have ht':P.underlying t=some (.slice (P.elem t)):=by rw[he];exact ht.1
  have h:=run_slice_l (P:=P) w t A n c ht' k m Aa Aa;have hs:(sizeOf (P.elem t)).run P w=.ok sz w:=by rw[he];exact ht.2 w
  rw[hs]at h;simp only[execOp,Option.map_none,Option.map_some,hx,hy,run_sliceAt_slice w t _ _ _ _ ht',Sem.run_bind,h,Result.andThen,sliced,Int.toNat_natCast];rfl
theorem CG{α:Type}(l:List α)(m:Nat):l.eraseIdx m=l.take m++l.drop (m+1):=List.eraseIdx_eq_take_drop_succ l m
theorem append_left{t ty e bytes:Nat}{l:List Str}{A:Option Addr}{n c m:Nat}(hE:Elems P t e 1 bytes)(hL:RX w0 ids w [Ci l] [.slice A n c])(hm:m<n)(hids:∀b∈ids,b<w.heap.size)(hw:w0.heap.size<=w.heap.size)(h63:n<=4611686018427387904)(hb:n*bytes<=140737488355328) :
    ∃A' c' w',(Builtin.append_ #[t,t] ty #[.slice A m m,.slice (if c=m+1 then A else A.map (·.add ((m+1)*1))) (n-(m+1)) (c-(m+1))]).run P w=.ok (.slice A' (n-1) c') w'/\RX w0 ids w' [Ci (l.eraseIdx m)] [.slice A' (n-1) c']/\Same [] w w':=by
  have hn:n=l.length:=by have:=hL.rep.slice_len;simpa using this.1
  have hcap:=hL.rep.slice_len.2;obtain⟨ad,hA⟩:=LT hL Aa;subst hA;have hc:=JN hL rfl;have hlen:(l.eraseIdx m).length=n-1:=by rw[List.length_eraseIdx];split <;> omega
  obtain⟨i,z,hi,hz,h2,h3,h4⟩:=hE.info;have hlits:∀(S:Nat->Prop)(wx:World)(q:List Str),(∀s∈q,s.length<=9223372036854775807)->RepL S wx (q.map Zm) (q.map λs=>Value.string (bs s)):=by
    intro S wx q
    induction q with
    | nil=>exact λ_=>RepL.nil_mk
    | cons s q ih=>exact λh=>RepL.cons_mk (Rep.lit_mk (v:=I s) (h s La)) (ih λx hx=>h x (by simp[hx]))
  have hls:∀s∈l,s.length<=9223372036854775807:=by
    intro s hs;obtain⟨q,hq,rfl⟩:=List.mem_iff_getElem.1 hs;obtain⟨_,_,_,h⟩:=hL.rep.str_elem hq;exact h
  by_cases hk:n=m+1
  ·
   refine⟨some ad,m,w,?_,?_,Same.refl _ _⟩
   ·have hz0 : n-(m + 1) = 0 := by omega
    rw[hz0,show n-1=m by omega];have hf:∀A2 c2,(Builtin.firstCells i.size 0 (.slice A2 0 c2)).run P w=.ok #[] w:=by
      intro A2 c2;cases A2 <;> simp[Builtin.firstCells,loadCells,loadCellsFrom]
    simp[Builtin.append_,run_underlying hE.ht,sizeOf,typeInfo,hi,Builtin.lenOf,hf,storeCells]
   have e1 : l.eraseIdx m = l.take m := by rw[CG, List.drop_eq_nil_of_le Aa, qQ]
   rw[e1,show n-1=m by omega];refine .one (Rep.slice_mk (by simp;omega) (gQ _) Aa λhne=>?_);obtain⟨A',c',hA',_,_,h6⟩:=Rep.slice_inv hL.rep;simp only[List.cons.injEq,Value.slice.injEq,and_true]at hA';obtain⟨rfl,_,_⟩:=hA';obtain⟨ad',hA2,es,hce,hre⟩:=h6 (by intro e;have:=congrArg List.length e;rw[rQ,List.length_nil]at this;omega);obtain rfl:=lQ hA2;have h0:0<es.length:=by
     rcases Nat.eq_zero_or_pos es.length with h|h
     ·have : es = [] := List.eq_nil_of_length_eq_zero h
      subst this;have h7:=hre.length;have hz:∀q:List Str,Md.sizeL (q.map Zm)=q.length:=by
        intro q
        induction q with
        | nil=>rfl
        | cons a q ih=>rw[List.map_cons,Md.sizeL,ih,kQ];simp[Zm,Md];omega
      rw[hz]at h7;simp at h7;omega
     exact h
   refine⟨ad,O,(l.take m).map (λs=>Value.string (bs s)),λq hq=>⟨?_,(hce 0 h0).2⟩,hlits _ _ _ λs hs=>hls s (List.mem_of_mem_take hs)⟩;have hq':q<l.length:=by simp at hq;omega
   have:=hc q hq';rw[Nat.mul_one]at this;rw[this];simp
  have hcm:¬c=m+1:=by omega
  have hold:∀j v,((l.take m).map (λs=>Value.string (bs s)))[j]? = some v->w.cell? (ad.add j)=some v:=by
    intro j v hj;rw[List.getElem?_map]at hj;cases hg:(l.take m)[j]? with
    | none=>rw[hg]at hj;cases hj
    | some s =>
      rw[hg]at hj;obtain⟨hj1,hj2⟩:=List.getElem?_eq_some_iff.1 hg;have hq:j<l.length:=by simp at hj1;omega
      have h8:=hc j hq;rw[Nat.mul_one]at h8;rw[h8];have:s=l[j]:=by rw[<-hj2];simp
      simp only[Option.map_some,Option.some.injEq]at hj;rw[<-hj,this]
  have hnew:∀j v,((l.drop (m+1)).map (λs=>Value.string (bs s)))[j]? = some v->w.cell? ((ad.add ((m+1)*1)).add j)=some v:=by
    intro j v hj;rw[List.getElem?_map]at hj;cases hg:(l.drop (m+1))[j]? with
    | none=>rw[hg]at hj;cases hj
    | some s =>
      rw[hg]at hj;obtain⟨hj1,hj2⟩:=List.getElem?_eq_some_iff.1 hg;have hq:m+1+j<l.length:=by simp at hj1;omega
      have h8:=hc (m+1+j) hq;rw[Nat.mul_one]at h8;rw[To,Nat.mul_one,h8];have:s=l[m+1+j]:=by rw[<-hj2];simp
      simp only[Option.map_some,Option.some.injEq]at hj;rw[<-hj,this]
  have hr:=run_append_grow (P:=P) w t ty e i z hE.ht hi hz ad m m ((l.take m).map λs=>Value.string (bs s)) (by rw[h2];simp;omega) hold (ad.add ((m+1)*1)) (n-(m+1)) (c-(m+1)) ((l.drop (m+1)).map λs=>Value.string (bs s)) (by rw[h2];simp;omega) hnew Aa Aa
    (growslice_fits Aa (by rw[h3];exact fQ (Nat.mul_le_mul_right _ Aa) hb))
  rw[if_neg hcm];simp only[Option.map_some];have en:m+(n-(m+1))=n-1:=by omega
  rw[en]at hr;have hsm:=(Same.drew w).trans (Same.alloc w.drew (.cells (((l.take m).map λs=>Value.string (bs s)).toArray++((l.drop (m+1)).map λs=>Value.string (bs s)).toArray++Builtin.zeroCells z.cells (grownCap w (n-1) m e-(n-1))) e));refine⟨_,_,_,hr,?_,hsm⟩;have hge:=grownCap_ge w (n-1) m e;have hcm2:grownCap w (n-1) m e<=maxLen:=grownCap_le_maxLen w (n-1) m e (by simp only[maxLen];omega);simp only[maxLen]at hcm2;refine .one (Rep.slice_mk (by simp[hlen]) hge Aa λ_=>?_);have hhe:=heap_alloc_new w.drew (.cells (((l.take m).map λs=>Value.string (bs s)).toArray++((l.drop (m+1)).map λs=>Value.string (bs s)).toArray++Builtin.zeroCells z.cells (grownCap w (n-1) m e-(n-1))) e);refine⟨_,O,(l.eraseIdx m).map (λs=>Value.string (bs s)),λq hq=>⟨?_,?_⟩,hlits _ _ _ λs hs=>hls s (List.mem_of_mem_eraseIdx hs)⟩
  ·rw[Wf, Nat.zero_add, cell_of_row _ w.heap.size q _ e (0, 0) hhe]
   have hx:((l.eraseIdx m).map λs=>Value.string (bs s))=((l.take m).map λs=>Value.string (bs s))++((l.drop (m+1)).map λs=>Value.string (bs s)):=by rw[CG,jQ]
   rw[<-List.getElem?_eq_getElem hq,hx];rw[hx]at hq;rw[Array.getElem?_append_left (by simp at hq ⊢;omega)];simp
  refine⟨by show w0.heap.size <= w.heap.size;exact hw, by show w.heap.size<_;exact Mb hhe, λhm => ?_, ⟨_, e, hhe⟩⟩;have:=hids _ hm;exact absurd this (by show ¬w.heap.size<w.heap.size;omega)
end
section
variable {α:Type}{f:α->α->Int}{xs ys:List α}{j:Nat}{Q q r:Int}
end
open Go.RowKit in
theorem EN{P:Program}{w:World}{ρ:Operand->Value}{dst:Option Nat}{ty:TypeId}{pos:String}{aft:Array Edge}{g:Option (Nat × Bool)}{t kt e:Nat}(ht:P.underlying t=some (.map kt e)) :
    (execOp ρ ⟨dst,.makeMap t none,ty,pos,aft,g⟩).run P w=.ok (.value (.map (some w.heap.size))) (w.alloc (Ee [])):=by
  simp[execOp,Instr.makeMap,run_underlying ht,newObj,Sem.run,Ee,Dc]
end Go.Scarf
