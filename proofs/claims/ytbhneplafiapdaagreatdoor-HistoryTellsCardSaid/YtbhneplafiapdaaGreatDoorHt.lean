/- A part of the proof. -/
import Derived.Test.YtbhneplafiapdaaGreatDoorHi10
set_option linter.all false
set_option maxHeartbeats 8000000
set_option maxRecDepth 10000
namespace Go.Scarf
open Go.RowKit
def CmsO(e:TypeId)(l:List Cm)(w0 w':World)(A:Option Addr)(c:Nat)(pl:List Pl):Prop :=
  ∃(sb:List (Nat × Obj))(hi:Nat),SlB e 5 A l.length c (Ue pl) sb/\(∀p∈sb,w'.heap[p.1]? = some p.2/\w0.heap.size<=p.1)/\CmsAt w' w0.heap.size l pl hi/\hi<=w'.heap.size/\∀p∈sb,Dr pl p.1
theorem SlB.softM{e m n c:Nat}{A:Option Addr}{es:List Value}{sb:List (Nat × Obj)}{w:World}(h:SlB e m A n c es sb)(hb:∀p∈sb,w.heap[p.1]? = some p.2):∀p∈sb,Soft w p.1:=λp hp=>by
  have h2:∃cur,p=(p.1,.cells cur e):=by
    rcases h.2 with ⟨-,-,rfl⟩|⟨g,cur,-,rfl,-⟩
    ·cases hp
    simp only[pQ]at hp;subst hp;exact⟨cur,rfl⟩
  obtain⟨cur,h2⟩:=h2;have:=hb p hp;rw[h2]at this;exact⟨cur,e,this⟩
theorem CmsO.rep{e:TypeId}{l:List Cm}{w0 w':World}{A:Option Addr}{c:Nat}{pl:List Pl}(h:CmsO e l w0 w' A c pl):Rep (Btw w0 w') w' (Xg l) [.slice A l.length c]:=by
  obtain⟨sb,hi,h1,h2,h3,h4,-⟩:=h;exact h1.repOf (λp hp=>⟨(h2 p hp).1,(h2 p hp).2,Wa (h2 p hp).1,h1.softM (λp hp=>(h2 p hp).1) p hp⟩) (CmsAt.repL h3 λk hk1 hk2 hk3=>⟨hk1,by omega,hk3⟩) Ua
def XRow(w:World)(A:Option Addr)(pl:List Pl):Prop :=
  ∀i (hi:i<pl.length),∃g,A=some ⟨g,0,none⟩/\Dr pl g/\g<w.heap.size/\∀j (hj:j<(pl[i].q.cells).length),w.cell? (((⟨g,0,none⟩:Addr).add (i*5)).add j)=some (pl[i].q.cells[j])
theorem UF{E:List Nat}{w w':World}{a:Addr}{v:Value}(hs:Same E w w')(hE:a.block∉E)(hc:w.cell? a=some v):w'.cell? a=some v:=by
  rw[<-hc];exact World.cell?_of_block (w:=w) (hs.block _ (World.block_lt_of_cell? _ _ hc) hE)
theorem XRow.same{E:List Nat}{w w':World}{A:Option Addr}{pl:List Pl}(h:XRow w A pl)(hs:Same E w w')(hE:∀b∈E,∃p∈pl,p.a<=b/\b<p.b):XRow w' A pl:=λi hi=>by
  obtain⟨g,hA,ho,hg,hc⟩:=h i hi;refine⟨g,hA,ho,Nat.lt_of_lt_of_le hg hs.size,λj hj=>UF hs (λhm=>?_) (hc j hj)⟩;rw[Yd,Yd]at hm;obtain⟨p,hp,h1,h2⟩:=hE _ hm;have:g<p.a\/p.b<=g:=ho p hp;simp only at h1 h2;omega
theorem FG{pl:List Pl}{i:Nat}(hi:i<pl.length):Ue pl=Ue (pl.take i)++(pl[i].q.cells++Ue (pl.drop (i+1))):=by
  have h1:Ue pl=Ue (pl.take i++pl.drop i):=by rw[List.take_append_drop]
  have h2:pl.drop i=pl[i]::pl.drop (i+1):=List.drop_eq_getElem_cons hi;rw[h1,h2];unfold Ue;rw[List.flatMap_append,List.flatMap_cons]
theorem Ap:∀pl:List Pl,(Ue pl).length=pl.length*5
  | []=>rfl
  | p :: pl => by
    have:=Ap pl;unfold Ue at this ⊢;rw[List.flatMap_cons,dQ,this,kQ];show 5+_=_;omega
theorem CmsO.row{e:TypeId}{l:List Cm}{w0 w':World}{A:Option Addr}{c:Nat}{pl:List Pl}(h:CmsO e l w0 w' A c pl):XRow w' A pl:=λi hi=>by
  obtain⟨sb,hi2,h1,h2,h3,h4,h5⟩:=h;have hlen:=CmsAt.len h3;have hF:FR w0 [] ([]++(sb++[])) w'->∀ad,A=some ad->∀j u,(Ue pl)[j]? = some u->w'.cell? (ad.add j)=some u:=λhF=>h1.cells hF;rcases h1.2 with ⟨h0,-⟩|⟨g,cur,rfl,rfl,-,-,-,ht⟩
  ·omega
  have hg := (h2 (g, .cells cur e) Ua).1;refine⟨g,O,h5 (g,.cells cur e) Ua,Wa hg,λj hj=>?_⟩;have hj5:j<5:=hj;have e1:((⟨g,0,none⟩:Addr).add (i*5)).add j=⟨g,i*5+j,none⟩:=by
    rw[Vo];unfold Addr.add;split <;> simp_all
  rw[e1,cell_of_row w' g (i*5+j) cur e (0,0) hg];have hcut:(Ue pl)[i*5+j]? = some (pl[i].q.cells[j]):=by
    rw[FG hi,List.getElem?_append_right (by rw[Ap,List.length_take];omega),List.getElem?_append_left (by rw[Ap,List.length_take];show _<5;omega),Ap,List.length_take];have:i*5+j-min i pl.length*5=j:=by rw[Nat.min_eq_left U];omega
    rw[this];exact List.getElem?_eq_getElem hj
  rw[<-ht,List.getElem?_take]at hcut;split at hcut
  ·rw[Array.getElem?_toList]at hcut
   exact hcut
  cases hcut
def XS(w:World)(pl:List Pl)(b:Nat):Prop:=Soft w b/\∃p∈pl,p.a<=b/\b<p.b
structure CmsM (S:Nat->Prop) (w:World) (pl:List Pl):Prop where
  v:∀i (hi:i<pl.length),∃y,Rep S w (Fc y) pl[i].q.v.cells
  p:∀i (hi:i<pl.length) k,k<pl[i].q.n->∃ad u,pl[i].q.A=some ad/\w.cell? (ad.add (k*1))=some (J u)/\S (ad.add (k*1)).block
theorem CmsM.mold{S:Nat->Prop}{w w':World}{pl:List Pl}(h:CmsM S w pl)(hm:Mold w w'):CmsM S w' pl:=by
  refine⟨λi hi=>?_,λi hi k hk=>?_⟩
  ·obtain⟨y, hy⟩ := h.v i hi
   obtain⟨y',-,hy'⟩:=KT y S w w' _ _ hy hm (KinL.refl _);exact⟨y',hy'⟩
  obtain⟨ad, u, hA, hc, hS⟩ := h.p i hi k hk;obtain⟨v',hc',hk'⟩:=hm _ _ hc;cases hk' with
  | same=>exact⟨ad,u,hA,hc',hS⟩
  | int _ m _ _=>exact⟨ad,m,hA,hc',hS⟩
theorem CmsM.of{w:World}{l:List Cm}{a0 hi:Nat}{pl:List Pl}(h:CmsAt w a0 l pl hi):CmsM (XS w pl) w pl:=by
  have hl:=CmsAt.len h;refine⟨λi hi'=>?_,λi hi' k hk=>?_⟩
  ·have hc := CmsAt.at h i U hi'
   exact⟨_,hc.v.weaken λb hb _=>⟨hb.2.2,_,eQ hi',by have:=hc.le;have:=hb.1;omega,hb.2.1⟩⟩
  have hc := CmsAt.at h i U hi';have hn:=hc.n;obtain⟨A',c',hA,-,-,hr⟩:=Rep.slice_inv hc.p;simp only[List.cons.injEq,Value.slice.injEq,and_true]at hA;obtain⟨h1,h2,h3⟩:=hA;have hne:(l[i]' U).par.map We≠[]:=λe=>by
    have:=congrArg List.length e;rw[rQ,List.length_nil]at this;omega
  obtain⟨ad,hAd,es,hce,hre⟩:=hr hne;have hlen:es.length=(l[i]' U).par.length:=by
    have key:∀{L:List Int}{cs:List Value},RepL (Iv pl[i].a pl[i].m w) w (L.map We) cs->cs.length=L.length:=by
      intro L
      induction L with
      | nil=>intro cs h;rw[RepL.nil_inv h];rfl
      | cons x L ih =>
        intro cs h;obtain⟨c1,c2,rfl,h1,h2⟩:=RepL.cons_inv h;obtain⟨rfl,-⟩:=Rep.lit_inv h1;simp[ih h2]
    exact key hre
  have hkk:k<(l[i]' U).par.length:=by omega
  obtain⟨hc1,hS1⟩:=hce k U;have hx:=Rep.int_elem (A:=pl[i].q.A) (len:=pl[i].q.n) (c:=pl[i].q.c) hc.p (i:=k) hkk;obtain⟨ad',hA',hc',-⟩:=hx;obtain rfl:ad=ad':=by rw[<-h1]at hAd;exact lQ (hAd.symm.trans hA')
  refine⟨ad,_,hA',hc',?_⟩;rw[Yd];exact⟨hS1.2.2,_,eQ hi',hS1.1,by have:=hc.le;have:=hS1.2.1;omega⟩
theorem BK{P:Program}{R:Exit->Act->World->Prop}{n:Nat}{k:Kt}{s:Nat->Value}{w w0:World}{ops rest:List Oper}{Ds:List Nat}{bs_:List (Nat × Obj)}{ty:TypeId}{pos:String}{aft:Array Edge}{g:Option (Nat × Bool)}{t:TypeId}{x y:Operand}{a:Addr}{u v:Value}(hF:FR w0 Ds bs_ w)(hs:∀w,(sizeOf t).run P w=.ok 1 w)(hx:ev n s x=.pointer (some a))(hy:ev n s y=v)(hl:v.cells=#[v])(h1:one v=true)
    (hc:w.cell? a=some u) (hso:Soft w a.block) (hD:w0.heap.size<=a.block) (hn:∀p∈bs_,p.1≠a.block) (hk:Kin u v)
    (h:∀w',FR w0 Ds bs_ w'->Same [a.block] w w'->Mold w w'->(∀b,Soft w b->Soft w' b)->Og P R n ops k rest s w')
    (hw:Kb ops n s ⟨none,.store t x y,ty,pos,aft,g⟩=true:=by rfl):Og P R n ops k (⟨none,.store t x y,ty,pos,aft,g⟩::rest) s w:=by
  have e0:putCells w a 0 [v]=w.setCell a v:=by simp only[putCells,Hj]
  refine H0 (Hy (l:=[v]) hs hx hy hl (by simpa using h1) λj hj=>?_) ?_ hw
  ·obtain rfl : j = 0 := by simp at hj;omega
   rw[Hj];exact⟨⟨u,hc⟩,Kx hso⟩
  rw[e0];exact h _ (hF.touch (Same.setCell w a v) λb hb=>by
    obtain rfl:=pQ.1 hb;exact⟨λh=>absurd h U,hn⟩) (Same.setCell w a v) (Mold.set hc hk) (λ_ h=>E7 h)
end Go.Scarf
