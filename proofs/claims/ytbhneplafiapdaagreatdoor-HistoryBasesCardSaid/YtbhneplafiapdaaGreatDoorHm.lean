/- A part of the proof. -/
import Derived.Test.YtbhneplafiapdaaGreatDoorMapG
import Derived.Test.YtbhneplafiapdaaGreatDoorMg0
set_option linter.all false
set_option maxHeartbeats 8000000
set_option maxRecDepth 10000
namespace Go.Scarf
open Go.RowKit
def cmD(c:Cm):D:=.agg [.slice (c.par.map Lc),Pb c.val]
def Zk(h:List Cm):D:=.slice (h.map cmD)
theorem Y3(c:Cm):Jc (cmD c)=5:=by
  have:=Rc c.val;simp only[cmD,Jc,Jc.sizeL,this]
theorem Lk{w:World}{a:Addr}{L l:List Value}(h:∀j (hj:j<L.length),w.cell? (a.add j)=some L[j])(off:Nat)(hl:(L.drop off).take l.length=l):∀j (hj:j<l.length),w.cell? ((a.add off).add j)=some l[j]:=λj hj=>by
  have e:(a.add off).add j=a.add (off+j):=by
    unfold Addr.add;by_cases h1:off=0 <;> by_cases h2:j=0 <;> simp[h1,h2,Nat.add_assoc]
  have hlen:off+j<L.length:=by
    have:=congrArg List.length hl;rw[List.length_take,List.length_drop]at this;omega
  rw[e,h (off+j) hlen];have h2:((L.drop off).take l.length)[j]? = l[j]?:=by rw[hl]
  rw[List.getElem?_take,if_pos hj,List.getElem?_drop,List.getElem?_eq_getElem hlen,List.getElem?_eq_getElem hj]at h2;exact h2
structure Mv where
  A:Option Addr
  n:Nat
  c:Nat
  v:Tv
def Mv.cells(x:Mv):List Value:=.slice x.A x.n x.c::x.v.cells
section
variable {S:Nat->Prop}{w:World}
theorem VF{x:Cm}{cs:List Value}(h:Rep S w (cmD x) cs):∃q:Mv,cs=q.cells/\q.n=x.par.length/\Rep S w (.slice (x.par.map Lc)) [.slice q.A q.n q.c]/\Rep S w (Pb x.val) q.v.cells:=by
  unfold cmD at h;rw[Rep]at h;obtain⟨c1,c2,rfl,h1,h2⟩:=RepL.cons_inv h;obtain⟨c3,c4,rfl,h3,h4⟩:=RepL.cons_inv h2;obtain rfl:=RepL.nil_inv h4;have h1':=h1;rw[Rep]at h1';obtain⟨A,e,rfl,-⟩:=h1';obtain⟨z,rfl,-⟩:=Ej h3;exact⟨⟨A,_,e,z⟩,by simp[Mv.cells],by simp,h1,h3⟩
theorem Rep.cm_elem{l:List Cm}{A:Option Addr}{len c:Nat}(h:Rep S w (Zk l) [.slice A len c]){i:Nat}(hi:i<l.length) :
    ∃(ad:Addr)(q:Mv),A=some ad/\(∀j (hj:j<q.cells.length),w.cell? ((ad.add (i*5)).add j)=some q.cells[j])/\q.n=l[i].par.length/\Rep S w (.slice (l[i].par.map Lc)) [.slice q.A q.n q.c]/\Rep S w (Pb l[i].val) q.v.cells:=by
  obtain⟨ad,cs,hA,hl,hc,hr⟩:=Rep.elem (sz:=5) h (λd hd=>by obtain⟨k,_,rfl⟩:=nQ.1 hd;exact Y3 k) (i:=i) (by simpa using hi);rw[List.getElem_map]at hr;obtain⟨q,rfl,h1,h2,h3⟩:=VF hr;exact⟨ad,q,hA,hc,h1,h2,h3⟩
theorem Yx{x:Cm}{q:Mv}(hn:q.n=x.par.length)(h1:Rep S w (.slice (x.par.map Lc)) [.slice q.A q.n q.c])(h2:Rep S w (Pb x.val) q.v.cells):Rep S w (cmD x) q.cells:=by
  unfold cmD;rw[Rep];exact RepL.cons_mk (c1:=[.slice q.A q.n q.c]) h1 (RepL.cons_mk (c2:=[]) (by simpa using h2) RepL.nil_mk)
end
open Go.RowKit Go.Proofs Go.Proofs.Tryz
set_option maxRecDepth 100000
section
variable {H:Type}{enc:TypeId × Value->H}{W:World}{base:Nat}{sp:Nat->Bool}{held:Bool}
open Go.ChangeShapes Go.WideShapes Go.ChangeAt Go.Lib Go.Shelf
instance : Inhabited Cm:=⟨⟨[],Ge⟩⟩
theorem YN:prog.cellsOf 29=5:=by kernel_rfl
theorem GO{fuel:Nat}{cs:List Value}{x:DataW H × List MemPlace}(h:DataW.trod enc prog W base sp held fuel 29 cs=some x):∃q:Cm,Rep (λ_=>True) W (cmD q) cs:=by
  obtain⟨xs,n,rfl,-,hcl,hxl,hf⟩:=DataW.trod_struct underlying29 h;have hcl':cs.length=5:=hcl.trans YN;have get:∀(i:Nat)(hi:i<2),xs[i]? = some (xs[i]'(by rw[hxl];exact hi)):=λi hi=>List.getElem?_eq_getElem _;have h0:=(hf 0 _ rfl).trans (get 0 Ca);have h1:=(hf 1 _ rfl).trans (get 1 Ca);obtain⟨a,ha⟩:=Hp (g:=Lc) gZ EN (λn _ cs x h=>S9 h) h0;obtain⟨b,hb⟩:=ZH _ _ _ h1;have ha2:Rep (λ_=>True) W (.slice (a.map Lc)) ((cs.drop 0).take (prog.cellsOf 23)):=ha;have hb2:Rep (λ_=>True) W (Pb b) ((cs.drop 1).take (prog.cellsOf 27)):=hb;rw[show prog.cellsOf 23=1 by kernel_rfl]at ha2;rw[JL]at hb2;obtain⟨u,v1,v2,v3,v4,rfl⟩:∃u v1 v2 v3 v4,cs=[u,v1,v2,v3,v4]:=by
    match cs,hcl' with
    | [u,v1,v2,v3,v4],_=>exact⟨u,v1,v2,v3,v4,rfl⟩
  have ha':Rep (λ_=>True) W (.slice (a.map Lc)) [u]:=ha2;have hb':Rep (λ_=>True) W (Pb b) [v1,v2,v3,v4]:=hb2;refine⟨⟨a,b⟩,?_⟩;rw[cmD,Rep,RepL];refine⟨[u],[v1,v2,v3,v4],O,ha',?_⟩;rw[RepL];exact⟨[v1,v2,v3,v4],[],O,hb',by rw[RepL]⟩
theorem PC{r:Reach}{b0:Nat}{v:Value}{d:DataW H}{q:List MemPlace}(hv:Value.okWide prog W r b0 22 v)(h:DataW.Trod enc prog W base sp held 22 v d q) :
    ∃(l:List Cm)(A:Option Addr)(c:Nat),v=.slice A l.length c/\Rep (λ_=>True) W (Zk l) [.slice A l.length c] :=
  FH (g:=cmD) fZ YN (λn cs x h=>GO h) hv h
theorem JQ:prog.readableRec 22=true:=by kernel_rfl
theorem UP:22<prog.types.size:=of_decide_eq_true Cc
end
def Eb(h:List Cm)(k:Int):List Int:=(Em h k).map λi:Nat=>(i:Int)
def Hb(h:List Cm)(a b:Int):List Int:=(Bj h a b).map λi:Nat=>(i:Int)
theorem Zg{h:List Cm}(hr:Rb h=true){k:Int}(h0:0<=k)(h1:k<h.length):Xg h k=true:=by
  unfold Xg;rw[hr,decide_eq_true h0,decide_eq_true h1];rfl
theorem Zf{h:List Cm}{k:Int}(ht:Xg h k=true):Rb h=true/\0<=k/\k<h.length:=by
  unfold Xg at ht;rw[Bool.and_eq_true,Bool.and_eq_true,decide_eq_true_eq,decide_eq_true_eq]at ht;exact ht
theorem Wf{h:List Cm}(hr:Rb h=true){k:Int}(h0:0<=k)(h1:k<h.length)(x:Int):x∈Eb h k↔∃j:Nat,x=(j:Int)/\Xj h k.toNat j=true:=by
  unfold Eb Em;rw[if_pos (Zg hr h0 h1),nQ];have hk:k.toNat<h.length:=by omega
  exact⟨λ⟨j,a,b⟩=>⟨j,b.symm,(Hy hr hk).1 a⟩,λ⟨j,a,b⟩=>⟨j,(Hy hr hk).2 b,a.symm⟩⟩
theorem Xu{h:List Cm}(hr:Rb h=true){a b:Int}(a0:0<=a)(a1:a<h.length)(b0:0<=b)(b1:b<h.length)(x:Int):x∈Hb h a b↔∃j:Nat,x=(j:Int)/\Of h a.toNat b.toNat j=true:=by
  unfold Hb Bj;rw[if_pos ⟨Zg hr a0 a1,Zg hr b0 b1⟩,nQ];have hk:a.toNat<h.length:=by omega
  exact⟨λ⟨j,p,q⟩=>⟨j,q.symm,(Py hr hk).1 p⟩,λ⟨j,p,q⟩=>⟨j,(Py hr hk).2 q,p.symm⟩⟩
theorem L3(h:List Cm)(a b:Int):(Hb h a b).Pairwise (· < ·):=by
  unfold Hb Bj;split
  ·exact List.pairwise_map.2 ((List.Pairwise.filter _ (List.pairwise_lt_range (n:=h.length))).imp λh=>by omega)
  exact List.Pairwise.nil
structure BasesL (h:List Cm) (a b:Int) (l xs ys:List Int):Prop where
  x:∀i (hi:i<l.length),l[i]∈xs
  y:∀i (hi:i<l.length),l[i]∈ys
  up:∀i (hi:i<l.length),0<i->l[i-1]' Ca<l[i]
  low:∀i (hi:i<l.length) k (hk:k<l.length),k≠i->¬l[i]∈Eb h l[k]
  under:∀i (hi:i<xs.length),xs[i]∈ys->∃k,∃hk:k<l.length,xs[i]∈Eb h l[k]
  self:a∈xs
  turn:Hb h b a=l
theorem TA{h:List Cm}(hr:Rb h=true){a b:Int}(a0:0<=a)(a1:a<h.length)(b0:0<=b)(b1:b<h.length):BasesL h a b (Hb h a b) (Eb h a) (Eb h b):=by
  have ka:a.toNat<h.length:=by omega
  have kb:b.toNat<h.length:=by omega
  have at_:∀i (hi:i<(Hb h a b).length),∃j:Nat,(Hb h a b)[i]=(j:Int)/\Hd h a.toNat b.toNat j=true/\j<h.length/\∀k,Hd h a.toNat b.toNat k=true->Xj h k j=true->k=j:=λi hi=>by
    obtain⟨j,e,hb⟩:=(Xu hr a0 a1 b0 b1 _).1 (eQ hi);obtain⟨h1,h2⟩:=(Rh hr ka).1 hb;exact⟨j,e,h1,Yh hr ka (Jd.1 h1).1,h2⟩
  refine⟨λi hi=>?_,λi hi=>?_,λi hi h0=>?_,λi hi k hk hne hm=>?_,λi hi hm=>?_,?_,?_⟩
  ·obtain⟨j, e, h1, -, -⟩ := at_ i hi
   exact (Wf hr a0 a1 _).2 ⟨j,e,(Jd.1 h1).1⟩
  ·obtain⟨j, e, h1, -, -⟩ := at_ i hi
   exact (Wf hr b0 b1 _).2 ⟨j,e,(Jd.1 h1).2⟩
  ·exact List.pairwise_iff_getElem.1 (L3 h a b) (i-1) i Ca hi Ca
  ·obtain⟨j, e, h1, h2, h3⟩ := at_ i hi
   obtain⟨j',e',h1',h2',h3'⟩:=at_ k hk;rw[e',e]at hm;obtain⟨q,eq,hu⟩:=(Wf hr Ca Ca _).1 hm;obtain rfl:j=q:=by omega
   rw[Int.toNat_natCast]at hu;have:=h3 j' h1' hu;have hp:=L3 h a b;rcases Nat.lt_trichotomy i k with hik|hik|hik
   ·have := List.pairwise_iff_getElem.1 hp i k hi hk hik
    omega
   ·exact hne hik.symm
   have := List.pairwise_iff_getElem.1 hp k i hk hi hik;omega
  ·obtain⟨j, e, hu⟩ := (Wf hr a0 a1 _).1 (eQ hi)
   obtain⟨q,eq,hu2⟩:=(Wf hr b0 b1 _).1 hm;obtain rfl:j=q:=by omega
   obtain⟨m,hm1,hm2⟩:=P7 hr ka (h.length-j) j (gQ _) (Jd.2 ⟨hu,hu2⟩);have hmem:(m:Int)∈Hb h a b:=(Xu hr a0 a1 b0 b1 _).2 ⟨m,rfl,hm1⟩;obtain⟨k,hk,ek⟩:=List.mem_iff_getElem.1 hmem;have hml:=Yh hr ka (Jd.1 ((Rh hr ka).1 hm1).1).1;refine⟨k,hk,?_⟩;rw[ek,e];exact (Wf hr Ca Ca _).2 ⟨j,O,by rw[Int.toNat_natCast];exact hm2⟩
  ·exact (Wf hr a0 a1 _).2 ⟨a.toNat,by omega,T0 hr ka⟩
  unfold Hb Bj;rw[if_pos ⟨Zg hr b0 b1,Zg hr a0 a1⟩,if_pos ⟨Zg hr a0 a1,Zg hr b0 b1⟩,M6]
theorem M5{h:List Cm}{a b:Int}(hn:¬(Rb h=true/\0<=a/\a<h.length/\0<=b/\b<h.length)):Hb h a b=[]:=by
  unfold Hb Bj;rw[if_neg λ⟨h1,h2⟩=>hn ⟨(Zf h1).1,(Zf h1).2.1,(Zf h1).2.2,(Zf h2).2.1,(Zf h2).2.2⟩];rfl
end Go.Scarf
