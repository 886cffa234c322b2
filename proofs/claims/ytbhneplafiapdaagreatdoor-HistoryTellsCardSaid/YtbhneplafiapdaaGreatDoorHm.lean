/- A part of the proof. -/
import Derived.Test.YtbhneplafiapdaaGreatDoorHs3
set_option linter.all false
set_option maxHeartbeats 8000000
set_option maxRecDepth 10000
namespace Go.Scarf
open Go.RowKit
def cmD(c:Cm):D:=.agg [.slice (c.par.map We),Fc c.val]
def Xg(h:List Cm):D:=.slice (h.map cmD)
theorem B9(c:Cm):Md (cmD c)=5:=by
  have:=Id c.val;simp only[cmD,Md,Md.sizeL,this]
theorem Sg{w:World}{a:Addr}{L l:List Value}(h:∀j (hj:j<L.length),w.cell? (a.add j)=some L[j])(off:Nat)(hl:(L.drop off).take l.length=l):∀j (hj:j<l.length),w.cell? ((a.add off).add j)=some l[j]:=λj hj=>by
  have e:(a.add off).add j=a.add (off+j):=by
    unfold Addr.add;by_cases h1:off=0 <;> by_cases h2:j=0 <;> simp[h1,h2,Nat.add_assoc]
  have hlen:off+j<L.length:=by
    have:=congrArg List.length hl;rw[List.length_take,List.length_drop]at this;omega
  rw[e,h (off+j) hlen];have h2:((L.drop off).take l.length)[j]? = l[j]?:=by rw[hl]
  rw[List.getElem?_take,if_pos hj,List.getElem?_drop,List.getElem?_eq_getElem hlen,List.getElem?_eq_getElem hj]at h2;exact h2
structure Mv where
  A:Option Addr
  n:Nat
  c:Nat
  v:Tv
def Mv.cells(x:Mv):List Value:=.slice x.A x.n x.c::x.v.cells
section
variable {S:Nat->Prop}{w:World}
theorem R_{x:Cm}{cs:List Value}(h:Rep S w (cmD x) cs):∃q:Mv,cs=q.cells/\q.n=x.par.length/\Rep S w (.slice (x.par.map We)) [.slice q.A q.n q.c]/\Rep S w (Fc x.val) q.v.cells:=by
  unfold cmD at h;rw[Rep]at h;obtain⟨c1,c2,rfl,h1,h2⟩:=RepL.cons_inv h;obtain⟨c3,c4,rfl,h3,h4⟩:=RepL.cons_inv h2;obtain rfl:=RepL.nil_inv h4;have h1':=h1;rw[Rep]at h1';obtain⟨A,e,rfl,-⟩:=h1';obtain⟨z,rfl,-⟩:=Cl h3;exact⟨⟨A,_,e,z⟩,by simp[Mv.cells],by simp,h1,h3⟩
theorem Rep.cm_elem{l:List Cm}{A:Option Addr}{len c:Nat}(h:Rep S w (Xg l) [.slice A len c]){i:Nat}(hi:i<l.length) :
    ∃(ad:Addr)(q:Mv),A=some ad/\(∀j (hj:j<q.cells.length),w.cell? ((ad.add (i*5)).add j)=some q.cells[j])/\q.n=l[i].par.length/\Rep S w (.slice (l[i].par.map We)) [.slice q.A q.n q.c]/\Rep S w (Fc l[i].val) q.v.cells:=by
  obtain⟨ad,cs,hA,hl,hc,hr⟩:=Rep.elem (sz:=5) h (λd hd=>by obtain⟨k,_,rfl⟩:=nQ.1 hd;exact B9 k) (i:=i) (by simpa using hi);rw[List.getElem_map]at hr;obtain⟨q,rfl,h1,h2,h3⟩:=R_ hr;exact⟨ad,q,hA,hc,h1,h2,h3⟩
theorem Pt{x:Cm}{q:Mv}(hn:q.n=x.par.length)(h1:Rep S w (.slice (x.par.map We)) [.slice q.A q.n q.c])(h2:Rep S w (Fc x.val) q.v.cells):Rep S w (cmD x) q.cells:=by
  unfold cmD;rw[Rep];exact RepL.cons_mk (c1:=[.slice q.A q.n q.c]) h1 (RepL.cons_mk (c2:=[]) (by simpa using h2) RepL.nil_mk)
end
open Go.RowKit Go.Proofs Go.Proofs.Tryz
set_option maxRecDepth 100000
section
variable {H:Type}{enc:TypeId × Value->H}{W:World}{base:Nat}{sp:Nat->Bool}{held:Bool}
open Go.ChangeShapes Go.WideShapes Go.ChangeAt Go.Lib Go.Shelf
instance : Inhabited Cm:=⟨⟨[],Sf⟩⟩
theorem DY:prog.cellsOf 29=5:=by kernel_rfl
theorem IT{fuel:Nat}{cs:List Value}{x:DataW H × List MemPlace}(h:DataW.trod enc prog W base sp held fuel 29 cs=some x):∃q:Cm,Rep (λ_=>True) W (cmD q) cs:=by
  obtain⟨xs,n,rfl,-,hcl,hxl,hf⟩:=DataW.trod_struct underlying29 h;have hcl':cs.length=5:=hcl.trans DY;have get:∀(i:Nat)(hi:i<2),xs[i]? = some (xs[i]'(by rw[hxl];exact hi)):=λi hi=>List.getElem?_eq_getElem _;have h0:=(hf 0 _ rfl).trans (get 0 U);have h1:=(hf 1 _ rfl).trans (get 1 U);obtain⟨a,ha⟩:=Xt (g:=We) oZ VG (λn _ cs x h=>JE h) h0;obtain⟨b,hb⟩:=BP _ _ _ h1;have ha2:Rep (λ_=>True) W (.slice (a.map We)) ((cs.drop 0).take (prog.cellsOf 23)):=ha;have hb2:Rep (λ_=>True) W (Fc b) ((cs.drop 1).take (prog.cellsOf 27)):=hb;rw[show prog.cellsOf 23=1 by kernel_rfl]at ha2;rw[ZT]at hb2;obtain⟨u,v1,v2,v3,v4,rfl⟩:∃u v1 v2 v3 v4,cs=[u,v1,v2,v3,v4]:=by
    match cs,hcl' with
    | [u,v1,v2,v3,v4],_=>exact⟨u,v1,v2,v3,v4,rfl⟩
  have ha':Rep (λ_=>True) W (.slice (a.map We)) [u]:=ha2;have hb':Rep (λ_=>True) W (Fc b) [v1,v2,v3,v4]:=hb2;refine⟨⟨a,b⟩,?_⟩;rw[cmD,Rep,RepL];refine⟨[u],[v1,v2,v3,v4],O,ha',?_⟩;rw[RepL];exact⟨[v1,v2,v3,v4],[],O,hb',by rw[RepL]⟩
theorem IJ{r:Reach}{b0:Nat}{v:Value}{d:DataW H}{q:List MemPlace}(hv:Value.okWide prog W r b0 22 v)(h:DataW.Trod enc prog W base sp held 22 v d q) :
    ∃(l:List Cm)(A:Option Addr)(c:Nat),v=.slice A l.length c/\Rep (λ_=>True) W (Xg l) [.slice A l.length c] :=
  ZP (g:=cmD) nZ DY (λn cs x h=>IT h) hv h
theorem YQ{r:Reach}{b0:Nat}{v:Value}{d:DataW H}{q:List MemPlace}(hv:Value.okWide prog W r b0 29 v)(h:DataW.Trod enc prog W base sp held 29 v d q) :
    ∃(x:Cm)(cs:List Value),v=.agg cs.toArray/\Rep (λ_=>True) W (cmD x) cs:=by
  obtain⟨cs,rfl,-⟩:=okWide_struct underlying29 hv;obtain⟨fuel,hf⟩:=h;obtain⟨t,ht⟩:=IT hf;exact⟨t,cs.toList,O,ht⟩
theorem UY:prog.readableRec 22=true:=by kernel_rfl
theorem VX:prog.readableRec 29=true:=by kernel_rfl
theorem JY:22<prog.types.size:=of_decide_eq_true Nc
theorem XW:29<prog.types.size:=of_decide_eq_true Nc
end
def Gj(h:List Cm)(k:Int):List Int:=(Qo h k).map λi:Nat=>(i:Int)
def Ci(h:List Cm)(a b:Int):List Int:=(Sm h a b).map λi:Nat=>(i:Int)
theorem Eu{h:List Cm}(hr:Pc h=true){k:Int}(h0:0<=k)(h1:k<h.length):Af h k=true:=by
  unfold Af;rw[hr,decide_eq_true h0,decide_eq_true h1];rfl
theorem Pj{h:List Cm}{k:Int}(ht:Af h k=true):Pc h=true/\0<=k/\k<h.length:=by
  unfold Af at ht;rw[Bool.and_eq_true,Bool.and_eq_true,decide_eq_true_eq,decide_eq_true_eq]at ht;exact ht
def PC(l:MapG)(j:Nat):Nat:=(l.getD j ((0,.bool false),0)).2
def Qk(l:MapG)(j:Nat):Int:=(l.getD j ((0,.bool false),0)).1.1
theorem E2{l:MapG}{j:Nat}(h:j<l.length):PC l j=l[j].2:=by simp[PC,List.getD,h]
theorem Km{l:MapG}{j:Nat}(h:j<l.length):Qk l j=l[j].1.1:=by simp[Qk,List.getD,h]
structure VisG (l:MapG) (vs:List Nat):Prop where
  nd:vs.Nodup
  lt:∀j∈vs,j<l.length
def Th(l:MapG)(vs:List Nat):Array Nat:=(vs.map (PC l)).toArray
theorem VisG.nil{l:MapG}:VisG l []:=⟨List.nodup_nil,λj h=>by cases h⟩
section
variable {l:MapG}{c:Nat}{vs:List Nat}{j:Nat}
theorem VisG.fresh(hv:VisG l vs)(hj:j<l.length)(hn:(Th l vs).contains l[j].2=false):j∉vs:=λhm=>by
  have:(Th l vs).contains l[j].2=true:=by
    rw[<-Array.contains_toList,List.contains_iff_mem];exact nQ.2 ⟨j,hm,E2 hj⟩
  rw[this]at hn;cases hn
theorem VisG.push(hv:VisG l vs)(hj:j<l.length)(hn:j∉vs):VisG l (vs++[j]):=⟨by
  rw[List.nodup_append];exact⟨hv.nd,by simp,λa ha b hb e=>by rw[pQ.1 hb]at e;exact hn (e▸ha)⟩,λi hi=>by
  rcases mQ.1 hi with hi|hi
  ·exact hv.lt i hi
  rw[pQ.1 hi];exact hj⟩
theorem D0(hj:j<l.length):(Th l vs).push l[j].2=Th l (vs++[j]):=by
  unfold Th;rw[jQ,List.map_singleton,E2 hj,List.push_toArray]
theorem VisG.le(hv:VisG l vs):vs.length<=l.length:=by
  have hp:vs.Perm ((List.range l.length).filter λi=>decide (i∈vs)):=Ak hv.nd (List.Pairwise.filter _ List.nodup_range) λx=>by
    rw[List.mem_filter,List.mem_range,decide_eq_true_eq];exact⟨λh=>⟨hv.lt x h,h⟩,λh=>h.2⟩
  have h1:=hp.length_eq;have h2:=List.length_filter_le (λi=>decide (i∈vs)) (List.range l.length);rw[List.length_range]at h2;omega
theorem VisG.less(hv:VisG l vs)(hj:j<l.length)(hn:j∉vs):vs.length<l.length:=by
  have:=(hv.push hj hn).le;rw[dQ,List.length_singleton]at this;omega
theorem VisG.all(hw:WfG l c)(hv:VisG l vs)(ha:∀x∈l,(Th l vs).contains x.2=true):∀j,j<l.length->j∈vs:=λj hj=>by
  have:=ha _ (eQ hj);rw[<-Array.contains_toList,List.contains_iff_mem]at this;obtain⟨i,hi,e⟩:=nQ.1 (show l[j].2∈vs.map (PC l) from this);have hil:=hv.lt i hi;rw[E2 hil]at e;have hnd:=hw.nd;have:=nodup_atG hnd (i:=i) (j:=j) (by simpa using hil) (by simpa using hj) (by simpa using e);exact this▸hi
where
  nodup_atG {α:Type} {l:List α} (hn:l.Nodup) {i j:Nat} (hi:i<l.length) (hj:j<l.length) (h:l[i]=l[j]):i=j:=by
    have hp:=List.pairwise_iff_getElem.1 hn;rcases Nat.lt_trichotomy i j with h'|h'|h'
    ·exact absurd h (hp i j hi hj h')
    ·exact h'
    exact absurd h.symm (hp j i hj hi h')
theorem VisG.perm(hw:WfG l c)(hv:VisG l vs)(ha:∀x∈l,(Th l vs).contains x.2=true):(vs.map (Qk l)).Perm (l.map (·.1.1)):=by
  have hp:vs.Perm (List.range l.length):=Ak hv.nd List.nodup_range λx=>⟨λh=>List.mem_range.2 (hv.lt x h),λh=>hv.all hw ha x (List.mem_range.1 h)⟩;refine (hp.map _).trans ?_;have e:(List.range l.length).map (Qk l)=l.map (·.1.1):=by
    apply List.ext_getElem Ua;intro i h1 h2;simp only[rQ,List.length_range]at h1;simp[Km h1]
  rw[e]
end
theorem MN{l:MapG}{c:Nat}{vs:List Nat}{N:Nat}{p:Nat->Bool}(hs:SetG l c λj=>j<N/\p j=true)(hv:VisG l vs)(ha:∀x∈l,(Th l vs).contains x.2=true) :
    (vs.map (Qk l)).mergeSort (λx y=>decide (x<=y))=((List.range N).filter p).map λi:Nat=>(i:Int) :=
  have hp:=hv.perm hs.wf ha
  FJ ⟨hp.nodup_iff.2 hs.ks.nd,λx=>by rw[hp.mem_iff];exact hs.ks.mem x⟩
def BS(h:List Cm)(a b:Nat)(ns:List Nat)(n:Nat):Nat->Prop:=λj=>Ee h a b j=true/\∀k∈ns.take n,Rh h k j=true->k=j
theorem AO{h:List Cm}{a b:Nat}{ns:List Nat}(j:Nat):Ee h a b j=true↔BS h a b ns 0 j:=⟨λhj=>⟨hj,λk hk=>by simp at hk⟩,λhj=>hj.1⟩
def BI(h:List Cm)(a b:Nat)(ns:List Nat)(n:Nat)(k:Nat)(ks:List Int)(vs:List Nat):Nat->Prop:=λj=>BS h a b ns n j/\∀i∈vs,ks.getD i 0=(j:Int)->k=j
theorem JP{h:List Cm}{a b:Nat}{ns:List Nat}{n k:Nat}{ks:List Int}(j:Nat):BS h a b ns n j↔BI h a b ns n k ks [] j:=⟨λhj=>⟨hj,λi hi=>by cases hi⟩,λhj=>hj.1⟩
theorem SV{h:List Cm}{a b:Nat}{ns:List Nat}{n k:Nat}{ks:List Int}{vs:List Nat}{i u:Nat}(hi:ks.getD i 0=(u:Int))(hu:u≠k)(j:Nat):(BI h a b ns n k ks vs j/\j≠u)↔BI h a b ns n k ks (vs++[i]) j:=by
  unfold BI;constructor
  ·rintro⟨⟨h1, h2⟩, h3⟩
   refine⟨h1,λq hq e=>?_⟩;rcases mQ.1 hq with hq|hq
   ·exact h2 q hq e
   rw[pQ.1 hq, hi]at e;exact absurd (by omega:j=u) h3
  rintro⟨h1, h2⟩;refine⟨⟨h1,λq hq e=>h2 q (List.mem_append_left _ hq) e⟩,λe=>?_⟩;have:=h2 i (List.mem_append_right _ (pQ.2 rfl)) (by rw[hi,e]);omega
theorem OP{h:List Cm}{a b:Nat}{ns:List Nat}{n k:Nat}{ks:List Int}{vs:List Nat}{i:Nat}(hi:ks.getD i 0=(k:Int))(j:Nat):BI h a b ns n k ks vs j↔BI h a b ns n k ks (vs++[i]) j:=by
  unfold BI;refine and_congr_right λ_=>⟨λh2 q hq e=>?_,λh2 q hq e=>h2 q (List.mem_append_left _ hq) e⟩;rcases mQ.1 hq with hq|hq
  ·exact h2 q hq e
  rw[pQ.1 hq,hi]at e;omega
theorem RU{h:List Cm}(hr:Pc h=true){a b:Nat}{ns:List Nat}{n:Nat}(hn:n<ns.length)(hk:ns[n]<h.length){ks:List Int}(hks:SetL ks λj=>j<h.length/\Rh h ns[n] j=true){vs:List Nat}(hv:∀i,i<ks.length->i∈vs)(hl:∀i∈vs,i<ks.length)(j:Nat):BI h a b ns n ns[n] ks vs j↔BS h a b ns (n+1) j:=by
  unfold BI BS;rw[iQ hn,and_assoc];refine and_congr_right λ_=>⟨λ⟨h1,h2⟩ k hk' hu=>?_,λh1=>⟨λk hk' hu=>h1 k (List.mem_append_left _ hk') hu,λi hi e=>?_⟩⟩
  ·rcases mQ.1 hk' with hk'|hk'
   ·exact h1 k hk' hu
   rw[pQ.1 hk']at hu ⊢;have hm:=(hks.at j).2 ⟨Jz hr hk hu,hu⟩;obtain⟨i,hi,ei⟩:=List.mem_iff_getElem.1 hm;exact h2 i (hv i hi) (by rw[List.getD,List.getElem?_eq_getElem hi];exact ei)
  have hil := hl i hi;have hm:(j:Int)∈ks:=by
    rw[<-e,List.getD,List.getElem?_eq_getElem hil];exact eQ hil
  exact h1 ns[n] (List.mem_append_right _ (pQ.2 O)) ((hks.at j).1 hm).2
theorem LV{h:List Cm}(hr:Pc h=true){a b:Nat}(ha:a<h.length){n:Nat}(hn:((List.range h.length).filter (Ee h a b)).length<=n)(j:Nat):BS h a b ((List.range h.length).filter (Ee h a b)) n j↔(j<h.length/\Qh h a b j=true):=by
  unfold BS;rw[List.take_of_length_le hn,ZM hr ha];constructor
  ·rintro⟨h1, h2⟩
   exact⟨Jz hr ha (Dn.1 h1).1,h1,λk hk hu=>h2 k (List.mem_filter.2 ⟨List.mem_range.2 (Jz hr ha (Dn.1 hk).1),hk⟩) hu⟩
  rintro⟨-, h1, h2⟩;exact⟨h1,λk hk hu=>h2 k (List.mem_filter.1 hk).2 hu⟩
section
variable {P:Program}{R:Exit->Act->World->Prop}{n:Nat}{k:Kt}{s:Nat->Value}{w:World}{ops rest:List Oper}
variable {d:Nat}{ty:TypeId}{pos:String}{aft:Array Edge}{g:Option (Nat × Bool)}
variable {w0:World}{Ds:List Nat}{bs_:List (Nat × Obj)}{ρ:Operand->Value}{dst:Option Nat}
theorem BA{it b c i:Nat}{l:MapG}{seen:Array Nat}(hw:WfG l c)(h:i<l.length)(hi:w.heap[it]? = some (.mapIter (some b) c (seen.push l[i].2) c))(hb:w.heap[b]? = some (Ig l c)) :
    (Instr.entry (V it)).run P w=.ok (.tuple #[J l[i].1.1,l[i].1.2]) w:=by
  have hb':w.heap[b]? = some (.map (l.map entryJ).toArray c):=hb;have hn:((l.map entryJ).map (·.born)).Nodup:=by
    have e:(l.map entryJ).map (·.born)=l.map (·.2):=by rw[List.map_map];rfl
    rw[e];exact hw.nd
  have hm:(⟨J l[i].1.1,l[i].1.2,l[i].2⟩:MapEntry)∈l.map entryJ:=by rw[<-W0 l i h];exact eQ _
  have hf:(l.map entryJ).toArray.find? (·.born==l[i].2)=some ⟨J l[i].1.1,l[i].1.2,l[i].2⟩:=by
    have:=find_born _ _ hn hm;rw[<-Array.find?_toList];exact this
  simp only[Instr.entry,getObj,Sem.run_bind,Sem.run,hi,hb',Result.andThen,Array.back?_push,bne_self_eq_false,Bool.false_eq_true,if_false,hf];rfl
theorem S6(i:Nat){x:Operand}{it b c:Nat}{l:MapG}{vs:List Nat}{S:Nat->Prop}(hF:FR w0 Ds bs_ w)(hl:SetG l c S)(hv:VisG l vs)(hx:ev n s x=V it)(hi:bs_[i]? = some (it,.mapIter (some b) c (Th l vs) c))(hb:w.heap[b]? = some (Ig l c))
    (hend:(∀x∈l,(Th l vs).contains x.2=true)->Og P R n ops k rest (Ff s d (.tuple #[.bool false])) w)
    (hnext:∀j w',j<l.length->j∉vs->FR w0 Ds (bs_.set i (it,.mapIter (some b) c (Th l (vs++[j])) c)) w'->Same [it] w w'->w'.heap[b]? = some (Ig l c) ->
      Og P R n ops k rest (Ff s d (.tuple #[.bool true,J (Qk l j),.bool true])) w')
    (hw:Kb ops n s ⟨some d,.next x false,ty,pos,aft,g⟩=true:=by rfl):Og P R n ops k (⟨some d,.next x false,ty,pos,aft,g⟩::rest) s w :=
  PP i hF hl.wf hx hi hb hend (λj w' hj hn hF' hE hb'=>by
    rw[hl.tr _ (eQ hj),<-Km hj];exact hnext j w' hj (hv.fresh hj hn) (by rw[<-D0 hj];exact hF') hE hb') hw
theorem U0{x:Operand}{it b c j:Nat}{l:MapG}{vs:List Nat}{S:Nat->Prop}(hl:SetG l c S)(hx:ρ x=V it)(h:j<l.length)(hi:w.heap[it]? = some (.mapIter (some b) c (Th l (vs++[j])) c))(hb:w.heap[b]? = some (Ig l c)) :
    (execOp ρ ⟨dst,.entry x,ty,pos,aft,g⟩).run P w=.ok (.value (.tuple #[J (Qk l j),.bool true])) w:=by
  rw[<-D0 h]at hi;have:=BA (P:=P) hl.wf h hi hb;rw[hl.tr _ (eQ h),<-Km h]at this;simp[execOp,hx,this]
end
end Go.Scarf
