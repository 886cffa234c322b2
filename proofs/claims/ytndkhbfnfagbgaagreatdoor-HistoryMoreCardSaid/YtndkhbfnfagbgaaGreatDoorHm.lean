/- A part of the proof. -/
import Derived.Test.YtndkhbfnfagbgaaGreatDoorHs3
set_option linter.all false
set_option maxHeartbeats 8000000
set_option maxRecDepth 10000
namespace Go.Scarf
open Go.RowKit
def cmD(c:Cm):D:=.agg [.slice (c.par.map Zd),Zb c.val]
def Nr(h:List Cm):D:=.slice (h.map cmD)
theorem FH(c:Cm):Wd (cmD c)=5:=by
  have:=Tc c.val;simp only[cmD,Wd,Wd.sizeL,this]
theorem Zg{w:World}{a:Addr}{L l:List Value}(h:∀j (hj:j<L.length),w.cell? (a.add j)=some L[j])(off:Nat)(hl:(L.drop off).take l.length=l):∀j (hj:j<l.length),w.cell? ((a.add off).add j)=some l[j]:=λj hj=>by
  have e:(a.add off).add j=a.add (off+j):=by
    unfold Addr.add;by_cases h1:off=0 <;> by_cases h2:j=0 <;> simp[h1,h2,Nat.add_assoc]
  have hlen:off+j<L.length:=by
    have:=congrArg List.length hl;rw[List.length_take,List.length_drop]at this;omega
  rw[e,h (off+j) hlen];have h2:((L.drop off).take l.length)[j]? = l[j]?:=by rw[hl]
  rw[List.getElem?_take,if_pos hj,List.getElem?_drop,List.getElem?_eq_getElem hlen,List.getElem?_eq_getElem hj]at h2;exact h2
structure Mv where
  A:Option Addr
  n:Nat
  c:Nat
  v:Tv
def Mv.cells(x:Mv):List Value:=.slice x.A x.n x.c::x.v.cells
section
variable {S:Nat->Prop}{w:World}
theorem XL{x:Cm}{cs:List Value}(h:Rep S w (cmD x) cs):∃q:Mv,cs=q.cells/\q.n=x.par.length/\Rep S w (.slice (x.par.map Zd)) [.slice q.A q.n q.c]/\Rep S w (Zb x.val) q.v.cells:=by
  unfold cmD at h;rw[Rep]at h;obtain⟨c1,c2,rfl,h1,h2⟩:=RepL.cons_inv h;obtain⟨c3,c4,rfl,h3,h4⟩:=RepL.cons_inv h2;obtain rfl:=RepL.nil_inv h4;have h1':=h1;rw[Rep]at h1';obtain⟨A,e,rfl,-⟩:=h1';obtain⟨z,rfl,-⟩:=Ll h3;exact⟨⟨A,_,e,z⟩,by simp[Mv.cells],by simp,h1,h3⟩
theorem Rep.cm_elem{l:List Cm}{A:Option Addr}{len c:Nat}(h:Rep S w (Nr l) [.slice A len c]){i:Nat}(hi:i<l.length) :
    ∃(ad:Addr)(q:Mv),A=some ad/\(∀j (hj:j<q.cells.length),w.cell? ((ad.add (i*5)).add j)=some q.cells[j])/\q.n=l[i].par.length/\Rep S w (.slice (l[i].par.map Zd)) [.slice q.A q.n q.c]/\Rep S w (Zb l[i].val) q.v.cells:=by
  obtain⟨ad,cs,hA,hl,hc,hr⟩:=Rep.elem (sz:=5) h (λd hd=>by obtain⟨k,_,rfl⟩:=nQ.1 hd;exact FH k) (i:=i) (by simpa using hi);rw[List.getElem_map]at hr;obtain⟨q,rfl,h1,h2,h3⟩:=XL hr;exact⟨ad,q,hA,hc,h1,h2,h3⟩
theorem F8{x:Cm}{q:Mv}(hn:q.n=x.par.length)(h1:Rep S w (.slice (x.par.map Zd)) [.slice q.A q.n q.c])(h2:Rep S w (Zb x.val) q.v.cells):Rep S w (cmD x) q.cells:=by
  unfold cmD;rw[Rep];exact RepL.cons_mk (c1:=[.slice q.A q.n q.c]) h1 (RepL.cons_mk (c2:=[]) (by simpa using h2) RepL.nil_mk)
end
open Go.RowKit Go.Proofs Go.Proofs.Tryz
set_option maxRecDepth 100000
section
variable {H:Type}{enc:TypeId × Value->H}{W:World}{base:Nat}{sp:Nat->Bool}{held:Bool}
open Go.ChangeShapes Go.WideShapes Go.ChangeAt Go.Lib Go.Shelf
instance : Inhabited Cm:=⟨⟨[],zeroT⟩⟩
theorem cs29:prog.cellsOf 29=5:=by kernel_rfl
theorem cm_of{fuel:Nat}{cs:List Value}{x:DataW H × List MemPlace}(h:DataW.trod enc prog W base sp held fuel 29 cs=some x):∃q:Cm,Rep (λ_=>True) W (cmD q) cs:=by
  obtain⟨xs,n,rfl,-,hcl,hxl,hf⟩:=DataW.trod_struct underlying29 h;have hcl':cs.length=5:=hcl.trans cs29;have get:∀(i:Nat)(hi:i<2),xs[i]? = some (xs[i]'(by rw[hxl];exact hi)):=λi hi=>List.getElem?_eq_getElem _;have h0:=(hf 0 _ rfl).trans (get 0 sX);have h1:=(hf 1 _ rfl).trans (get 1 sX);obtain⟨a,ha⟩:=I1 (g:=Zd) bX cs3 (λn _ cs x h=>ER h) h0;obtain⟨b,hb⟩:=tree_of _ _ _ h1;have ha2:Rep (λ_=>True) W (.slice (a.map Zd)) ((cs.drop 0).take (prog.cellsOf 23)):=ha;have hb2:Rep (λ_=>True) W (Zb b) ((cs.drop 1).take (prog.cellsOf 27)):=hb;rw[show prog.cellsOf 23=1 by kernel_rfl]at ha2;rw[cs27]at hb2;obtain⟨u,v1,v2,v3,v4,rfl⟩:∃u v1 v2 v3 v4,cs=[u,v1,v2,v3,v4]:=by
    match cs,hcl' with
    | [u,v1,v2,v3,v4],_=>exact⟨u,v1,v2,v3,v4,rfl⟩
  have ha':Rep (λ_=>True) W (.slice (a.map Zd)) [u]:=ha2;have hb':Rep (λ_=>True) W (Zb b) [v1,v2,v3,v4]:=hb2;refine⟨⟨a,b⟩,?_⟩;rw[cmD,Rep,RepL];refine⟨[u],[v1,v2,v3,v4],O,ha',?_⟩;rw[RepL];exact⟨[v1,v2,v3,v4],[],O,hb',by rw[RepL]⟩
theorem DX{r:Reach}{b0:Nat}{v:Value}{d:DataW H}{q:List MemPlace}(hv:Value.okWide prog W r b0 22 v)(h:DataW.Trod enc prog W base sp held 22 v d q) :
    ∃(l:List Cm)(A:Option Addr)(c:Nat),v=.slice A l.length c/\Rep (λ_=>True) W (Nr l) [.slice A l.length c] :=
  open_sl (g:=cmD) aX cs29 (λn cs x h=>cm_of h) hv h
theorem open_cm{r:Reach}{b0:Nat}{v:Value}{d:DataW H}{q:List MemPlace}(hv:Value.okWide prog W r b0 29 v)(h:DataW.Trod enc prog W base sp held 29 v d q) :
    ∃(x:Cm)(cs:List Value),v=.agg cs.toArray/\Rep (λ_=>True) W (cmD x) cs:=by
  obtain⟨cs,rfl,-⟩:=okWide_struct underlying29 hv;obtain⟨fuel,hf⟩:=h;obtain⟨t,ht⟩:=cm_of hf;exact⟨t,cs.toList,O,ht⟩
theorem rec22:prog.readableRec 22=true:=by kernel_rfl
theorem rec29:prog.readableRec 29=true:=by kernel_rfl
theorem row22:22<prog.types.size:=of_decide_eq_true Mb
theorem row29:29<prog.types.size:=of_decide_eq_true Mb
end
def Ps(h:List Cm)(k:Int):List Int:=(Wv h k).map λi:Nat=>(i:Int)
def Jj(h:List Cm)(a b:Int):List Int:=(Jv h a b).map λi:Nat=>(i:Int)
theorem Im{h:List Cm}(hr:Ld h=true){k:Int}(h0:0<=k)(h1:k<h.length):Do h k=true:=by
  unfold Do;rw[hr,decide_eq_true h0,decide_eq_true h1];rfl
theorem I3{h:List Cm}{k:Int}(ht:Do h k=true):Ld h=true/\0<=k/\k<h.length:=by
  unfold Do at ht;rw[Bool.and_eq_true,Bool.and_eq_true,decide_eq_true_eq,decide_eq_true_eq]at ht;exact ht
def QR(l:MapG)(j:Nat):Nat:=(l.getD j ((0,.bool false),0)).2
def Tp(l:MapG)(j:Nat):Int:=(l.getD j ((0,.bool false),0)).1.1
theorem Y9{l:MapG}{j:Nat}(h:j<l.length):QR l j=l[j].2:=by simp[QR,List.getD,h]
theorem Js{l:MapG}{j:Nat}(h:j<l.length):Tp l j=l[j].1.1:=by simp[Tp,List.getD,h]
structure VisG (l:MapG) (vs:List Nat):Prop where
  nd:vs.Nodup
  lt:∀j∈vs,j<l.length
def Yk(l:MapG)(vs:List Nat):Array Nat:=(vs.map (QR l)).toArray
theorem VisG.nil{l:MapG}:VisG l []:=⟨List.nodup_nil,λj h=>by cases h⟩
section
variable {l:MapG}{c:Nat}{vs:List Nat}{j:Nat}
theorem VisG.fresh(hv:VisG l vs)(hj:j<l.length)(hn:(Yk l vs).contains l[j].2=false):j∉vs:=λhm=>by
  have:(Yk l vs).contains l[j].2=true:=by
    rw[<-Array.contains_toList,List.contains_iff_mem];exact nQ.2 ⟨j,hm,Y9 hj⟩
  rw[this]at hn;cases hn
theorem VisG.push(hv:VisG l vs)(hj:j<l.length)(hn:j∉vs):VisG l (vs++[j]):=⟨by
  rw[List.nodup_append];exact⟨hv.nd,by simp,λa ha b hb e=>by rw[pQ.1 hb]at e;exact hn (e▸ha)⟩,λi hi=>by
  rcases mQ.1 hi with hi|hi
  ·exact hv.lt i hi
  rw[pQ.1 hi];exact hj⟩
theorem B8(hj:j<l.length):(Yk l vs).push l[j].2=Yk l (vs++[j]):=by
  unfold Yk;rw[jQ,List.map_singleton,Y9 hj,List.push_toArray]
theorem VisG.le(hv:VisG l vs):vs.length<=l.length:=by
  have hp:vs.Perm ((List.range l.length).filter λi=>decide (i∈vs)):=Qk hv.nd (List.Pairwise.filter _ List.nodup_range) λx=>by
    rw[List.mem_filter,List.mem_range,decide_eq_true_eq];exact⟨λh=>⟨hv.lt x h,h⟩,λh=>h.2⟩
  have h1:=hp.length_eq;have h2:=List.length_filter_le (λi=>decide (i∈vs)) (List.range l.length);rw[List.length_range]at h2;omega
theorem VisG.less(hv:VisG l vs)(hj:j<l.length)(hn:j∉vs):vs.length<l.length:=by
  have:=(hv.push hj hn).le;rw[dQ,List.length_singleton]at this;omega
theorem VisG.all(hw:WfG l c)(hv:VisG l vs)(ha:∀x∈l,(Yk l vs).contains x.2=true):∀j,j<l.length->j∈vs:=λj hj=>by
  have:=ha _ (eQ hj);rw[<-Array.contains_toList,List.contains_iff_mem]at this;obtain⟨i,hi,e⟩:=nQ.1 (show l[j].2∈vs.map (QR l) from this);have hil:=hv.lt i hi;rw[Y9 hil]at e;have hnd:=hw.nd;have:=nodup_atG hnd (i:=i) (j:=j) (by simpa using hil) (by simpa using hj) (by simpa using e);exact this▸hi
where
  nodup_atG {α:Type} {l:List α} (hn:l.Nodup) {i j:Nat} (hi:i<l.length) (hj:j<l.length) (h:l[i]=l[j]):i=j:=by
    have hp:=List.pairwise_iff_getElem.1 hn;rcases Nat.lt_trichotomy i j with h'|h'|h'
    ·exact absurd h (hp i j hi hj h')
    ·exact h'
    exact absurd h.symm (hp j i hj hi h')
theorem VisG.perm(hw:WfG l c)(hv:VisG l vs)(ha:∀x∈l,(Yk l vs).contains x.2=true):(vs.map (Tp l)).Perm (l.map (·.1.1)):=by
  have hp:vs.Perm (List.range l.length):=Qk hv.nd List.nodup_range λx=>⟨λh=>List.mem_range.2 (hv.lt x h),λh=>hv.all hw ha x (List.mem_range.1 h)⟩;refine (hp.map _).trans ?_;have e:(List.range l.length).map (Tp l)=l.map (·.1.1):=by
    apply List.ext_getElem Da;intro i h1 h2;simp only[rQ,List.length_range]at h1;simp[Js h1]
  rw[e]
end
theorem TX{l:MapG}{c:Nat}{vs:List Nat}{N:Nat}{p:Nat->Bool}(hs:SetG l c λj=>j<N/\p j=true)(hv:VisG l vs)(ha:∀x∈l,(Yk l vs).contains x.2=true) :
    (vs.map (Tp l)).mergeSort (λx y=>decide (x<=y))=((List.range N).filter p).map λi:Nat=>(i:Int) :=
  have hp:=hv.perm hs.wf ha
  GX ⟨hp.nodup_iff.2 hs.ks.nd,λx=>by rw[hp.mem_iff];exact hs.ks.mem x⟩
def BS(h:List Cm)(a b:Nat)(ns:List Nat)(n:Nat):Nat->Prop:=λj=>Wf h a b j=true/\∀k∈ns.take n,Xt h k j=true->k=j
theorem bs_zero{h:List Cm}{a b:Nat}{ns:List Nat}(j:Nat):Wf h a b j=true↔BS h a b ns 0 j:=⟨λhj=>⟨hj,λk hk=>by simp at hk⟩,λhj=>hj.1⟩
def BI(h:List Cm)(a b:Nat)(ns:List Nat)(n:Nat)(k:Nat)(ks:List Int)(vs:List Nat):Nat->Prop:=λj=>BS h a b ns n j/\∀i∈vs,ks.getD i 0=(j:Int)->k=j
theorem bi_zero{h:List Cm}{a b:Nat}{ns:List Nat}{n k:Nat}{ks:List Int}(j:Nat):BS h a b ns n j↔BI h a b ns n k ks [] j:=⟨λhj=>⟨hj,λi hi=>by cases hi⟩,λhj=>hj.1⟩
theorem bi_del{h:List Cm}{a b:Nat}{ns:List Nat}{n k:Nat}{ks:List Int}{vs:List Nat}{i u:Nat}(hi:ks.getD i 0=(u:Int))(hu:u≠k)(j:Nat):(BI h a b ns n k ks vs j/\j≠u)↔BI h a b ns n k ks (vs++[i]) j:=by
  unfold BI;constructor
  ·rintro⟨⟨h1, h2⟩, h3⟩
   refine⟨h1,λq hq e=>?_⟩;rcases mQ.1 hq with hq|hq
   ·exact h2 q hq e
   rw[pQ.1 hq, hi]at e;exact absurd (by omega:j=u) h3
  rintro⟨h1, h2⟩;refine⟨⟨h1,λq hq e=>h2 q (List.mem_append_left _ hq) e⟩,λe=>?_⟩;have:=h2 i (List.mem_append_right _ (pQ.2 rfl)) (by rw[hi,e]);omega
theorem bi_keep{h:List Cm}{a b:Nat}{ns:List Nat}{n k:Nat}{ks:List Int}{vs:List Nat}{i:Nat}(hi:ks.getD i 0=(k:Int))(j:Nat):BI h a b ns n k ks vs j↔BI h a b ns n k ks (vs++[i]) j:=by
  unfold BI;refine and_congr_right λ_=>⟨λh2 q hq e=>?_,λh2 q hq e=>h2 q (List.mem_append_left _ hq) e⟩;rcases mQ.1 hq with hq|hq
  ·exact h2 q hq e
  rw[pQ.1 hq,hi]at e;omega
theorem bi_end{h:List Cm}(hr:Ld h=true){a b:Nat}{ns:List Nat}{n:Nat}(hn:n<ns.length)(hk:ns[n]<h.length){ks:List Int}(hks:SetL ks λj=>j<h.length/\Xt h ns[n] j=true){vs:List Nat}(hv:∀i,i<ks.length->i∈vs)(hl:∀i∈vs,i<ks.length)(j:Nat):BI h a b ns n ns[n] ks vs j↔BS h a b ns (n+1) j:=by
  unfold BI BS;rw[iQ hn,and_assoc];refine and_congr_right λ_=>⟨λ⟨h1,h2⟩ k hk' hu=>?_,λh1=>⟨λk hk' hu=>h1 k (List.mem_append_left _ hk') hu,λi hi e=>?_⟩⟩
  ·rcases mQ.1 hk' with hk'|hk'
   ·exact h1 k hk' hu
   rw[pQ.1 hk']at hu ⊢;have hm:=(hks.at j).2 ⟨Y1 hr hk hu,hu⟩;obtain⟨i,hi,ei⟩:=List.mem_iff_getElem.1 hm;exact h2 i (hv i hi) (by rw[List.getD,List.getElem?_eq_getElem hi];exact ei)
  have hil := hl i hi;have hm:(j:Int)∈ks:=by
    rw[<-e,List.getD,List.getElem?_eq_getElem hil];exact eQ hil
  exact h1 ns[n] (List.mem_append_right _ (pQ.2 O)) ((hks.at j).1 hm).2
theorem bs_end{h:List Cm}(hr:Ld h=true){a b:Nat}(ha:a<h.length){n:Nat}(hn:((List.range h.length).filter (Wf h a b)).length<=n)(j:Nat):BS h a b ((List.range h.length).filter (Wf h a b)) n j↔(j<h.length/\Wl h a b j=true):=by
  unfold BS;rw[List.take_of_length_le hn,base_iff hr ha];constructor
  ·rintro⟨h1, h2⟩
   exact⟨Y1 hr ha (Qq.1 h1).1,h1,λk hk hu=>h2 k (List.mem_filter.2 ⟨List.mem_range.2 (Y1 hr ha (Qq.1 hk).1),hk⟩) hu⟩
  rintro⟨-, h1, h2⟩;exact⟨h1,λk hk hu=>h2 k (List.mem_filter.1 hk).2 hu⟩
section
variable {P:Program}{R:Exit->Act->World->Prop}{n:Nat}{k:Kt}{s:Nat->Value}{w:World}{ops rest:List Oper}
variable {d:Nat}{ty:TypeId}{pos:String}{aft:Array Edge}{g:Option (Nat × Bool)}
variable {w0:World}{Ds:List Nat}{bs_:List (Nat × Obj)}{ρ:Operand->Value}{dst:Option Nat}
theorem QN{it b c i:Nat}{l:MapG}{seen:Array Nat}(hw:WfG l c)(h:i<l.length)(hi:w.heap[it]? = some (.mapIter (some b) c (seen.push l[i].2) c))(hb:w.heap[b]? = some (Qi l c)) :
    (Instr.entry (V it)).run P w=.ok (.tuple #[J l[i].1.1,l[i].1.2]) w:=by
  have hb':w.heap[b]? = some (.map (l.map entryJ).toArray c):=hb;have hn:((l.map entryJ).map (·.born)).Nodup:=by
    have e:(l.map entryJ).map (·.born)=l.map (·.2):=by rw[List.map_map];rfl
    rw[e];exact hw.nd
  have hm:(⟨J l[i].1.1,l[i].1.2,l[i].2⟩:MapEntry)∈l.map entryJ:=by rw[<-Q_ l i h];exact eQ _
  have hf:(l.map entryJ).toArray.find? (·.born==l[i].2)=some ⟨J l[i].1.1,l[i].1.2,l[i].2⟩:=by
    have:=find_born _ _ hn hm;rw[<-Array.find?_toList];exact this
  simp only[Instr.entry,getObj,Sem.run_bind,Sem.run,hi,hb',Result.andThen,Array.back?_push,bne_self_eq_false,Bool.false_eq_true,if_false,hf];rfl
theorem CF(i:Nat){x:Operand}{it b c:Nat}{l:MapG}{vs:List Nat}{S:Nat->Prop}(hF:FR w0 Ds bs_ w)(hl:SetG l c S)(hv:VisG l vs)(hx:ev n s x=V it)(hi:bs_[i]? = some (it,.mapIter (some b) c (Yk l vs) c))(hb:w.heap[b]? = some (Qi l c))
    (hend:(∀x∈l,(Yk l vs).contains x.2=true)->Og P R n ops k rest (Ng s d (.tuple #[.bool false])) w)
    (hnext:∀j w',j<l.length->j∉vs->FR w0 Ds (bs_.set i (it,.mapIter (some b) c (Yk l (vs++[j])) c)) w'->Same [it] w w'->w'.heap[b]? = some (Qi l c) ->
      Og P R n ops k rest (Ng s d (.tuple #[.bool true,J (Tp l j),.bool true])) w')
    (hw:Vb ops n s ⟨some d,.next x false,ty,pos,aft,g⟩=true:=by rfl):Og P R n ops k (⟨some d,.next x false,ty,pos,aft,g⟩::rest) s w :=
  o_nextG i hF hl.wf hx hi hb hend (λj w' hj hn hF' hE hb'=>by
    rw[hl.tr _ (eQ hj),<-Js hj];exact hnext j w' hj (hv.fresh hj hn) (by rw[<-B8 hj];exact hF') hE hb') hw
theorem K8{x:Operand}{it b c j:Nat}{l:MapG}{vs:List Nat}{S:Nat->Prop}(hl:SetG l c S)(hx:ρ x=V it)(h:j<l.length)(hi:w.heap[it]? = some (.mapIter (some b) c (Yk l (vs++[j])) c))(hb:w.heap[b]? = some (Qi l c)) :
    (execOp ρ ⟨dst,.entry x,ty,pos,aft,g⟩).run P w=.ok (.value (.tuple #[J (Tp l j),.bool true])) w:=by
  rw[<-B8 h]at hi;have:=QN (P:=P) hl.wf h hi hb;rw[hl.tr _ (eQ h),<-Js h]at this;simp[execOp,hx,this]
end
def numOk(i:Nat):Bool:=decide ((Vf (Rn i)).2=0)&&(decide ((Vf (Rn i)).1=IG i)&&(decide (VH (IG i)=((i:Int),true))&&decide ((Rn i).length<=20)))
theorem num_all:(List.range 1000).all numOk=true:=by kernel_rfl
theorem DM{i:Nat}(h:i<1000):(Vf (Rn i)).2=0/\(Vf (Rn i)).1=IG i/\VH (IG i)=((i:Int),true)/\(Rn i).length<=20:=by
  have:=List.all_eq_true.1 num_all i (List.mem_range.2 h);simpa[numOk]using this
section
variable {f:Str->Nat->Mo}{n:Nat}{ks:List Str}
theorem Mu:∀j,j<=ks.length->((Gn f n ks j).1.map (·.1)).Sublist (ks.take j)
  | 0,_=>by simp[Gn]
  | j + 1, hj => by
    have e:ks.getD j []=ks[j]:=by simp[List.getD,show j<ks.length by omega]
    rw[Gn,jQ,iQ sX,e];refine (Mu j sX).append ?_;cases (f ks[j] (n+(Gn f n ks j).2.length)).1 with
    | none=>exact List.nil_sublist _
    | some x=>exact List.Sublist.refl _
end
theorem LI{b l r:List Str}:∀(F:Nat)(rest o:List Str),F6 b l r F rest=some o->∀s∈o,s∈rest
  | 0,_,o,h=>by rw[F6]at h;obtain rfl:=lQ h;simp
  | F + 1, rest, o, h => by
    rw[F6]at h;split at h
    ·rename_i s hs
     obtain⟨o',h1,rfl⟩:=Option.map_eq_some_iff.1 h;intro q hq;rcases oQ.1 hq with rfl|hq
     ·exact List.mem_of_find?_eq_some hs
     exact List.mem_of_mem_erase (LI F _ _ h1 q hq)
    cases h
theorem NU{b l r names o:List Str}(h:T9 b l r names=some o):∀s∈o,s∈names:=by
  unfold T9 at h;split at h
  ·intro s hs
   have:=LI _ _ _ h s hs;unfold Cn at this;exact List.mem_mergeSort.1 this
  cases h
theorem at_l{rl:List Rl}{F:Nat}{p:List Str}{n:Nat}{b l r:Option Tree}(h:Km l r=true):Nj rl (F+1) p n b l r=(l,[]):=by rw[Nj,if_pos h]
theorem at_r{rl:List Rl}{F:Nat}{p:List Str}{n:Nat}{b l r:Option Tree}(h:¬Km l r=true)(h2:Km b l=true):Nj rl (F+1) p n b l r=(r,[]):=by rw[Nj,if_neg h,if_pos h2]
theorem at_b{rl:List Rl}{F:Nat}{p:List Str}{n:Nat}{b l r:Option Tree}(h:¬Km l r=true)(h2:¬Km b l=true)(h3:Km b r=true):Nj rl (F+1) p n b l r=(l,[]):=by rw[Nj,if_neg h,if_neg h2,if_pos h3]
theorem at_m{rl:List Rl}{F:Nat}{p:List Str}{n:Nat}{b l r:Option Tree}(h:¬Km l r=true)(h2:¬Km b l=true)(h3:¬Km b r=true):Nj rl (F+1) p n b l r=I0 rl (Nj rl F) p n b l r:=by rw[Nj,if_neg h,if_neg h2,if_neg h3]
theorem ZA{rl:List Rl}{b l r:Tree}(h:¬okM rl b l r):Ev rl b l r=(zeroT,[],1):=if_neg h
theorem E8{rl:List Rl}{b l r:Tree}(h:okM rl b l r):Ev rl b l r=finM (Nj rl (39+1) [] 0 (some b) (some l) (some r)):=if_pos h
theorem Vw{x y:Tree}(hx:Kd x=true)(hy:Kd y=true):M1 x y=Jp x y:=by
  unfold M1;rw[Kj hx,Kj hy];rfl
theorem GB{x:Tree}(h:Di x=true)(hk:x.kind=6)(key:Str):Jt x key=((Ze x key).getD zeroT,(Ze x key).isSome):=by
  unfold Jt;rw[if_pos ⟨h,hk⟩];show (match Ze x key with|some y=>(y,true)|none=>(zeroT,false))=_;cases Ze x key <;> rfl
theorem OU(p:List Str):O2 [] p=none:=rfl
abbrev Kf:=List Str × Int × Option Tree × Option Tree × Option Tree
def nfS(s:Sd):Option Tree:=if s.has=true then some (Zi s.val) else none
def K1(c:Cf):Kf:=(c.path,c.cls,nfS c.b,nfS c.l,nfS c.r)
def K2(c:Cf):Kf:=(c.path,c.cls,nfS c.b,nfS c.r,nfS c.l)
structure Tn (a b:Mo):Prop where
  perm:(a.2.map K1).Perm (b.2.map K2)
  size:Vi a.1=Vi b.1
  depth:On a.1=On b.1
  same:a.2=[]->a.1.map Zi=b.1.map Zi
theorem Tn.nil{a b:Mo}(h:Tn a b):a.2=[]↔b.2=[]:=by
  have:=h.perm.length_eq;rw[rQ,rQ]at this;constructor
  ·intro e;rw[e]at this;exact List.eq_nil_of_length_eq_zero this.symm
  intro e;rw[e]at this;exact List.eq_nil_of_length_eq_zero this
theorem Tn.some_{a b:Mo}(h:Tn a b):a.1.isSome=b.1.isSome:=by
  have:=h.size;obtain⟨a1,a2⟩:=a;obtain⟨b1,b2⟩:=b;cases a1 with
  | none => cases b1 with
    | none=>rfl
    | some y=>have:=Bt y;simp[Vi]at *;omega
  | some x => cases b1 with
    | none=>have:=Bt x;simp[Vi]at *;omega
    | some y=>rfl
section
variable {f g:Str->Nat->Mo}{n m:Nat}{ks ks':List Str}
end
theorem YB{b l r:List Str}:∀(F:Nat)(rest o:List Str),rest.length=F->F6 b l r F rest=some o->o.Perm rest
  | 0, rest, o, hl, h => by
    rw[F6]at h;obtain rfl:=lQ h;rw[List.eq_nil_of_length_eq_zero hl]
  | F + 1, rest, o, hl, h => by
    rw[F6]at h;split at h
    ·rename_i s hs
     obtain⟨o',h1,rfl⟩:=Option.map_eq_some_iff.1 h;have hm:=List.mem_of_find?_eq_some hs;have:=YB F _ _ (by rw[List.length_erase_of_mem hm,hl];rfl) h1;exact (this.cons s).trans (List.perm_cons_erase hm).symm
    cases h
theorem YL{b l r names o:List Str}(h:T9 b l r names=some o):o.Perm names:=by
  unfold T9 at h;split at h
  ·exact (YB _ _ _ (Wj names) h).trans (Er names)
  cases h
structure Ln (x y:List Tree) (c d:List Cf):Prop where
  perm:(c.map K1).Perm (d.map K2)
  size:Rb x=Rb y
  depth:Ed x=Ed y
  same:c=[]->x.map Zi=y.map Zi
theorem Ln.append{x y x' y':List Tree}{c d c' d':List Cf}(h:Ln x y c d)(k:Ln x' y' c' d'):Ln (x++x') (y++y') (c++c') (d++d') :=
  ⟨by rw[jQ,jQ];exact h.perm.append k.perm,by rw[Qe,Qe,h.size,k.size],by rw[Ho,Ho,h.depth,k.depth],
    λe=>by
      obtain⟨e1,e2⟩:=List.append_eq_nil_iff.1 e;rw[jQ,jQ,h.same e1,k.same e2]⟩
theorem Ln.refl(x:List Tree):Ln x x [] []:=⟨.refl _,rfl,rfl,λ_=>rfl⟩
theorem Ln.of{a b:Mo}(h:Tn a b):Ln a.1.toList b.1.toList a.2 b.2:=by
  obtain⟨a1,a2⟩:=a;obtain⟨b1,b2⟩:=b;have hs:=h.some_;refine⟨h.perm,?_,?_,λe=>?_⟩
  ·have := h.size
   cases a1 <;> cases b1 <;> simp[Vi,Rb]at *
   ·exact this
  ·have := h.depth
   cases a1 <;> cases b1 <;> simp[On,Ed]at *
   ·exact this
  have := h.same e;cases a1 <;> cases b1 <;> simp at *
  ·exact this
theorem YG:∀(a:List (Str × Tree)),(a.map (·.1)).Nodup->(a.map (·.1)).map (Q5 a)=a.map (·.2)
  | [],_=>rfl
  | x :: a, h => by
    rw[List.map_cons,List.nodup_cons]at h;have ih:=YG a h.2;rw[List.map_cons,List.map_cons,List.map_cons,<-ih];have e1:Q5 (x::a) x.1=x.2:=by simp[Q5,De]
    rw[e1]
    congr 1
    refine List.map_congr_left λk hk=>?_;have hne:¬x.1=k:=λe=>h.1 (e▸hk);simp[Q5,De,hne]
theorem UJ{x y:List Tree}(h:∀z∈x,z∈y):Ed x<=Ed y:=by
  have key:∀{z:Tree}{y:List Tree},z∈y->Cd z<=Ed y:=fun {z y} hz=>by
    induction y with
    | nil=>cases hz
    | cons a y ih =>
      rw[Ed];rcases oQ.1 hz with rfl|hz
      ·omega
      have:=ih hz;omega
  induction x with
  | nil=>simp[Ed]
  | cons a x ih =>
    rw[Ed];have h1:=key (h a Da);have h2:=ih λz hz=>h z (by simp[hz]);omega
theorem rig_arr{x:Tree}(h:Kd x=true){p:List Tree}(hp:∀z∈p,z∈x.items)(hs:Rb p<=Rb x.items):Kd (.node 5 [] [] p)=true:=by
  have hd:=UJ hp;have h0:=h;obtain⟨k,t,ks,xs⟩:=x;simp only[Tree.items]at hp hs hd;unfold Kd Ir at h ⊢;simp only[Bool.and_eq_true,decide_eq_true_eq]at h ⊢;rw[Wb,Cd]at h ⊢;refine⟨⟨by omega,by omega⟩,?_⟩;rw[Af,F0 λz hz=>(Lf h.2).2 z (hp z hz)];rfl
theorem put_size(base v:List Tree)(g:Nat)(hg:g<=base.length):Rb ((Ie base v).put g)<=Rb v:=by
  by_cases h:g=base.length
  ·have := Em base v g hg
   rw[if_pos h]at this;omega
  have := G4 base v g sX;omega
theorem Nl:∀xs:List Tree,Is xs=xs.flatMap UM
  | []=>rfl
  | x::xs=>by rw[Is,Nl xs,List.flatMap_cons]
def RT(n m:Nat):List Str:=(List.range m).map λi=>Rn (n+i)
theorem numR_add(n a b:Nat):RT n (a+b)=RT n a++RT (n+a) b:=by
  unfold RT;rw[List.range_add,jQ,List.map_map]
  congr 1
  exact List.map_congr_left λi _=>by simp[Nat.add_assoc]
section
variable (L:List Cf)(pick:List Int)
def FA(x:Tree):List Tree:=(kidF L 5 [] (R5 x) (V5 L pick x)).2
def Cx(n:Nat)(c:List Cf):Prop:=∀i x,c[i]? = some x->L[n+i]? = some x
structure Fo (n:Nat) (a:Mo) (S D:Nat):Prop where
  holes:∀v,a.1=some v->(UM v).Perm (RT n a.2.length)
  val:∀v,a.1=some v->(V5 L pick v).has=true->Af rnodeB (V5 L pick v).val=true/\Wb (V5 L pick v).val<=S/\Cd (V5 L pick v).val<=D
  five:∀v,a.1=some v->0<=R5 v->(L.getD (R5 v).toNat noC).cls≠5
  none:a.1=none->a.2=[]
structure Fg (n:Nat) (xs:List Tree) (c:List Cf) (S D:Nat):Prop where
  holes:(Is xs).Perm (RT n c.length)
  val:∀y∈xs.flatMap (FA L pick),Af rnodeB y=true/\Cd y<=D
  size:Rb (xs.flatMap (FA L pick))<=S
end
section
variable {L:List Cf}{pick:List Int}
theorem Cx.left{n:Nat}{c d:List Cf}(h:Cx L n (c++d)):Cx L n c:=λi x hx=>h i x (by rw[List.getElem?_append_left (List.getElem?_eq_some_iff.1 hx).1];exact hx)
theorem Cx.right{n:Nat}{c d:List Cf}(h:Cx L n (c++d)):Cx L (n+c.length) d:=λi x hx=>by
  have:=h (c.length+i) x (by rw[List.getElem?_append_right sX,Nat.add_sub_cancel_left];exact hx);rw[Nat.add_assoc];exact this
theorem OZ{x:Tree}(h:0<=R5 x->(L.getD (R5 x).toNat noC).cls≠5):FA L pick x=if (V5 L pick x).has=true then [(V5 L pick x).val] else []:=by
  unfold FA kidF;split
  ·rw[if_neg Ua,if_neg λhh=>h hh.1 hh.2]
  rfl
theorem Fg.append{n:Nat}{xs ys:List Tree}{c d:List Cf}{S S' D:Nat}(h:Fg L pick n xs c S D)(k:Fg L pick (n+c.length) ys d S' D):Fg L pick n (xs++ys) (c++d) (S+S') D:=by
  refine⟨?_,λy hy=>?_,?_⟩
  ·rw[Nl,List.flatMap_append,<-Nl,<-Nl,dQ,numR_add];exact h.holes.append k.holes
  ·rw[List.flatMap_append]at hy
   rcases mQ.1 hy with hy|hy
   ·exact h.val y hy
   exact k.val y hy
  rw[List.flatMap_append,Qe];have:=h.size;have:=k.size;omega
theorem Fg.mono{n:Nat}{xs:List Tree}{c:List Cf}{S S' D D':Nat}(h:Fg L pick n xs c S D)(hs:S<=S')(hd:D<=D'):Fg L pick n xs c S' D' :=
  ⟨h.holes,λy hy=>⟨(h.val y hy).1,fQ (h.val y hy).2 hd⟩,fQ h.size hs⟩
theorem Fg.nil{n D:Nat}:Fg L pick n [] [] 0 D:=⟨.refl _,(λy hy=>by cases hy),gQ _⟩
theorem Fo.row{n:Nat}{a:Mo}{S D:Nat}(h:Fo L pick n a S D):Fg L pick n a.1.toList a.2 S D:=by
  obtain⟨o,c⟩:=a;cases o with
  | none =>
    have hc:c=[]:=h.none rfl;subst hc;exact Fg.nil.mono (Nat.zero_le _) (gQ _)
  | some v =>
    have hk:=OZ (pick:=pick) (h.five v rfl);have e:[v].flatMap (FA L pick)=FA L pick v:=by simp
    refine⟨?_,λy hy=>?_,?_⟩
    ·show (Is [v]).Perm _
     rw[Is,Is,qQ];exact h.holes v rfl
    ·have hy' : y ∈ FA L pick v := by rw[<- e];exact hy
     rw[hk]at hy';split at hy'
     ·rename_i hh
      rw[pQ.1 hy'];have:=h.val v rfl hh;exact⟨this.1,this.2.2⟩
     cases hy'
    show Rb ([v].flatMap (FA L pick)) <= S;rw[e,hk];split
    ·rename_i hh
     have:=(h.val v rfl hh).2.1;simp only[Rb];omega
    simp[Rb]
end
section
variable {L:List Cf}{pick:List Int}
theorem Fg.perm{n:Nat}{xs ys:List Tree}{c:List Cf}{S D:Nat}(h:Fg L pick n xs c S D)(hp:ys.Perm xs):Fg L pick n ys c S D:=by
  have h1:(ys.flatMap (FA L pick)).Perm (xs.flatMap (FA L pick)):=hp.flatMap_right _;refine⟨?_,λy hy=>h.val y (h1.mem_iff.1 hy),?_⟩
  ·rw[Nl]
   have:=h.holes;rw[Nl]at this;exact (hp.flatMap_right _).trans this
  rw[Hx h1];exact h.size
end
theorem Fo.mono{L:List Cf}{pick:List Int}{n:Nat}{a:Mo}{S S' D D':Nat}(h:Fo L pick n a S D)(hs:S<=S')(hd:D<=D'):Fo L pick n a S' D' :=
  ⟨h.holes,λv hv hh=>by obtain⟨h1,h2,h3⟩:=h.val v hv hh;exact⟨h1,by omega,by omega⟩,h.five,h.none⟩
end Go.Scarf
