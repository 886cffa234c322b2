/- A part of the proof. -/
import Derived.Test.YtbhneplafiapdaaGreatDoorHm
set_option linter.all false
set_option maxHeartbeats 8000000
set_option maxRecDepth 10000
namespace Go.Scarf
open Go.RowKit
def I8(l:MapG)(j:Nat):Nat:=(l.getD j ((0,.bool false),0)).2
def Di(l:MapG)(j:Nat):Int:=(l.getD j ((0,.bool false),0)).1.1
theorem Ku{l:MapG}{j:Nat}(h:j<l.length):I8 l j=l[j].2:=by simp[I8,List.getD,h]
theorem Hj{l:MapG}{j:Nat}(h:j<l.length):Di l j=l[j].1.1:=by simp[Di,List.getD,h]
structure VisG (l:MapG) (vs:List Nat):Prop where
  nd:vs.Nodup
  lt:∀j∈vs,j<l.length
def Hf(l:MapG)(vs:List Nat):Array Nat:=(vs.map (I8 l)).toArray
theorem VisG.nil{l:MapG}:VisG l []:=⟨List.nodup_nil,λj h=>by cases h⟩
section
variable {l:MapG}{c:Nat}{vs:List Nat}{j:Nat}
theorem VisG.fresh(hv:VisG l vs)(hj:j<l.length)(hn:(Hf l vs).contains l[j].2=false):j∉vs:=λhm=>by
  have:(Hf l vs).contains l[j].2=true:=by
    rw[<-Array.contains_toList,List.contains_iff_mem];exact nQ.2 ⟨j,hm,Ku hj⟩
  rw[this]at hn;cases hn
theorem VisG.push(hv:VisG l vs)(hj:j<l.length)(hn:j∉vs):VisG l (vs++[j]):=⟨by
  rw[List.nodup_append];exact⟨hv.nd,by simp,λa ha b hb e=>by rw[pQ.1 hb]at e;exact hn (e▸ha)⟩,λi hi=>by
  rcases mQ.1 hi with hi|hi
  ·exact hv.lt i hi
  rw[pQ.1 hi];exact hj⟩
theorem Ot(hj:j<l.length):(Hf l vs).push l[j].2=Hf l (vs++[j]):=by
  unfold Hf;rw[jQ,List.map_singleton,Ku hj,List.push_toArray]
theorem VisG.le(hv:VisG l vs):vs.length<=l.length:=by
  have hp:vs.Perm ((List.range l.length).filter λi=>decide (i∈vs)):=Sh hv.nd (List.Pairwise.filter _ List.nodup_range) λx=>by
    rw[List.mem_filter,List.mem_range,decide_eq_true_eq];exact⟨λh=>⟨hv.lt x h,h⟩,λh=>h.2⟩
  have h1:=hp.length_eq;have h2:=List.length_filter_le (λi=>decide (i∈vs)) (List.range l.length);rw[List.length_range]at h2;omega
theorem VisG.less(hv:VisG l vs)(hj:j<l.length)(hn:j∉vs):vs.length<l.length:=by
  have:=(hv.push hj hn).le;rw[dQ,List.length_singleton]at this;omega
theorem VisG.all(hw:WfG l c)(hv:VisG l vs)(ha:∀x∈l,(Hf l vs).contains x.2=true):∀j,j<l.length->j∈vs:=λj hj=>by
  have:=ha _ (eQ hj);rw[<-Array.contains_toList,List.contains_iff_mem]at this;obtain⟨i,hi,e⟩:=nQ.1 (show l[j].2∈vs.map (I8 l) from this);have hil:=hv.lt i hi;rw[Ku hil]at e;have hnd:=hw.nd;have:=nodup_atG hnd (i:=i) (j:=j) (by simpa using hil) (by simpa using hj) (by simpa using e);exact this▸hi
where
  nodup_atG {α:Type} {l:List α} (hn:l.Nodup) {i j:Nat} (hi:i<l.length) (hj:j<l.length) (h:l[i]=l[j]):i=j:=by
    have hp:=List.pairwise_iff_getElem.1 hn;rcases Nat.lt_trichotomy i j with h'|h'|h'
    ·exact absurd h (hp i j hi hj h')
    ·exact h'
    exact absurd h.symm (hp j i hj hi h')
theorem VisG.perm(hw:WfG l c)(hv:VisG l vs)(ha:∀x∈l,(Hf l vs).contains x.2=true):(vs.map (Di l)).Perm (l.map (·.1.1)):=by
  have hp:vs.Perm (List.range l.length):=Sh hv.nd List.nodup_range λx=>⟨λh=>List.mem_range.2 (hv.lt x h),λh=>hv.all hw ha x (List.mem_range.1 h)⟩;refine (hp.map _).trans ?_;have e:(List.range l.length).map (Di l)=l.map (·.1.1):=by
    apply List.ext_getElem Pa;intro i h1 h2;simp only[rQ,List.length_range]at h1;simp[Hj h1]
  rw[e]
end
theorem UD{l:MapG}{c:Nat}{vs:List Nat}{N:Nat}{p:Nat->Bool}(hs:SetG l c λj=>j<N/\p j=true)(hv:VisG l vs)(ha:∀x∈l,(Hf l vs).contains x.2=true) :
    (vs.map (Di l)).mergeSort (λx y=>decide (x<=y))=((List.range N).filter p).map λi:Nat=>(i:Int) :=
  have hp:=hv.perm hs.wf ha
  LF ⟨hp.nodup_iff.2 hs.ks.nd,λx=>by rw[hp.mem_iff];exact hs.ks.mem x⟩
def BS(h:List Cm)(a b:Nat)(ns:List Nat)(n:Nat):Nat->Prop:=λj=>Hd h a b j=true/\∀k∈ns.take n,Xj h k j=true->k=j
theorem SG{h:List Cm}{a b:Nat}{ns:List Nat}(j:Nat):Hd h a b j=true↔BS h a b ns 0 j:=⟨λhj=>⟨hj,λk hk=>by simp at hk⟩,λhj=>hj.1⟩
def BI(h:List Cm)(a b:Nat)(ns:List Nat)(n:Nat)(k:Nat)(ks:List Int)(vs:List Nat):Nat->Prop:=λj=>BS h a b ns n j/\∀i∈vs,ks.getD i 0=(j:Int)->k=j
theorem RI{h:List Cm}{a b:Nat}{ns:List Nat}{n k:Nat}{ks:List Int}(j:Nat):BS h a b ns n j↔BI h a b ns n k ks [] j:=⟨λhj=>⟨hj,λi hi=>by cases hi⟩,λhj=>hj.1⟩
theorem GL{h:List Cm}{a b:Nat}{ns:List Nat}{n k:Nat}{ks:List Int}{vs:List Nat}{i u:Nat}(hi:ks.getD i 0=(u:Int))(hu:u≠k)(j:Nat):(BI h a b ns n k ks vs j/\j≠u)↔BI h a b ns n k ks (vs++[i]) j:=by
  unfold BI;constructor
  ·rintro⟨⟨h1, h2⟩, h3⟩
   refine⟨h1,λq hq e=>?_⟩;rcases mQ.1 hq with hq|hq
   ·exact h2 q hq e
   rw[pQ.1 hq, hi]at e;exact absurd (by omega:j=u) h3
  rintro⟨h1, h2⟩;refine⟨⟨h1,λq hq e=>h2 q (List.mem_append_left _ hq) e⟩,λe=>?_⟩;have:=h2 i (List.mem_append_right _ (pQ.2 rfl)) (by rw[hi,e]);omega
theorem EH{h:List Cm}{a b:Nat}{ns:List Nat}{n k:Nat}{ks:List Int}{vs:List Nat}{i:Nat}(hi:ks.getD i 0=(k:Int))(j:Nat):BI h a b ns n k ks vs j↔BI h a b ns n k ks (vs++[i]) j:=by
  unfold BI;refine and_congr_right λ_=>⟨λh2 q hq e=>?_,λh2 q hq e=>h2 q (List.mem_append_left _ hq) e⟩;rcases mQ.1 hq with hq|hq
  ·exact h2 q hq e
  rw[pQ.1 hq,hi]at e;omega
theorem SL{h:List Cm}(hr:Rb h=true){a b:Nat}{ns:List Nat}{n:Nat}(hn:n<ns.length)(hk:ns[n]<h.length){ks:List Int}(hks:SetL ks λj=>j<h.length/\Xj h ns[n] j=true){vs:List Nat}(hv:∀i,i<ks.length->i∈vs)(hl:∀i∈vs,i<ks.length)(j:Nat):BI h a b ns n ns[n] ks vs j↔BS h a b ns (n+1) j:=by
  unfold BI BS;rw[iQ hn,and_assoc];refine and_congr_right λ_=>⟨λ⟨h1,h2⟩ k hk' hu=>?_,λh1=>⟨λk hk' hu=>h1 k (List.mem_append_left _ hk') hu,λi hi e=>?_⟩⟩
  ·rcases mQ.1 hk' with hk'|hk'
   ·exact h1 k hk' hu
   rw[pQ.1 hk']at hu ⊢;have hm:=(hks.at j).2 ⟨Yh hr hk hu,hu⟩;obtain⟨i,hi,ei⟩:=List.mem_iff_getElem.1 hm;exact h2 i (hv i hi) (by rw[List.getD,List.getElem?_eq_getElem hi];exact ei)
  have hil := hl i hi;have hm:(j:Int)∈ks:=by
    rw[<-e,List.getD,List.getElem?_eq_getElem hil];exact eQ hil
  exact h1 ns[n] (List.mem_append_right _ (pQ.2 O)) ((hks.at j).1 hm).2
theorem WM{h:List Cm}(hr:Rb h=true){a b:Nat}(ha:a<h.length){n:Nat}(hn:((List.range h.length).filter (Hd h a b)).length<=n)(j:Nat):BS h a b ((List.range h.length).filter (Hd h a b)) n j↔(j<h.length/\Of h a b j=true):=by
  unfold BS;rw[List.take_of_length_le hn,Rh hr ha];constructor
  ·rintro⟨h1, h2⟩
   exact⟨Yh hr ha (Jd.1 h1).1,h1,λk hk hu=>h2 k (List.mem_filter.2 ⟨List.mem_range.2 (Yh hr ha (Jd.1 hk).1),hk⟩) hu⟩
  rintro⟨-, h1, h2⟩;exact⟨h1,λk hk hu=>h2 k (List.mem_filter.1 hk).2 hu⟩
section
variable {P:Program}{R:Exit->Act->World->Prop}{n:Nat}{k:Kt}{s:Nat->Value}{w:World}{ops rest:List Oper}
variable {d:Nat}{ty:TypeId}{pos:String}{aft:Array Edge}{g:Option (Nat × Bool)}
variable {w0:World}{Ds:List Nat}{bs_:List (Nat × Obj)}{ρ:Operand->Value}{dst:Option Nat}
theorem V6{it b c i:Nat}{l:MapG}{seen:Array Nat}(hw:WfG l c)(h:i<l.length)(hi:w.heap[it]? = some (.mapIter (some b) c (seen.push l[i].2) c))(hb:w.heap[b]? = some (Oe l c)) :
    (Instr.entry (V it)).run P w=.ok (.tuple #[J l[i].1.1,l[i].1.2]) w:=by
  have hb':w.heap[b]? = some (.map (l.map entryJ).toArray c):=hb;have hn:((l.map entryJ).map (·.born)).Nodup:=by
    have e:(l.map entryJ).map (·.born)=l.map (·.2):=by rw[List.map_map];rfl
    rw[e];exact hw.nd
  have hm:(⟨J l[i].1.1,l[i].1.2,l[i].2⟩:MapEntry)∈l.map entryJ:=by rw[<-Qv l i h];exact eQ _
  have hf:(l.map entryJ).toArray.find? (·.born==l[i].2)=some ⟨J l[i].1.1,l[i].1.2,l[i].2⟩:=by
    have:=find_born _ _ hn hm;rw[<-Array.find?_toList];exact this
  simp only[Instr.entry,getObj,Sem.run_bind,Sem.run,hi,hb',Result.andThen,Array.back?_push,bne_self_eq_false,Bool.false_eq_true,if_false,hf];rfl
theorem Pz(i:Nat){x:Operand}{it b c:Nat}{l:MapG}{vs:List Nat}{S:Nat->Prop}(hF:FR w0 Ds bs_ w)(hl:SetG l c S)(hv:VisG l vs)(hx:ev n s x=V it)(hi:bs_[i]? = some (it,.mapIter (some b) c (Hf l vs) c))(hb:w.heap[b]? = some (Oe l c))
    (hend:(∀x∈l,(Hf l vs).contains x.2=true)->Og P R n ops k rest (Be s d (.tuple #[.bool false])) w)
    (hnext:∀j w',j<l.length->j∉vs->FR w0 Ds (bs_.set i (it,.mapIter (some b) c (Hf l (vs++[j])) c)) w'->Same [it] w w'->w'.heap[b]? = some (Oe l c) ->
      Og P R n ops k rest (Be s d (.tuple #[.bool true,J (Di l j),.bool true])) w')
    (hw:Ya ops n s ⟨some d,.next x false,ty,pos,aft,g⟩=true:=by rfl):Og P R n ops k (⟨some d,.next x false,ty,pos,aft,g⟩::rest) s w :=
  LI i hF hl.wf hx hi hb hend (λj w' hj hn hF' hE hb'=>by
    rw[hl.tr _ (eQ hj),<-Hj hj];exact hnext j w' hj (hv.fresh hj hn) (by rw[<-Ot hj];exact hF') hE hb') hw
theorem Qu{x:Operand}{it b c j:Nat}{l:MapG}{vs:List Nat}{S:Nat->Prop}(hl:SetG l c S)(hx:ρ x=V it)(h:j<l.length)(hi:w.heap[it]? = some (.mapIter (some b) c (Hf l (vs++[j])) c))(hb:w.heap[b]? = some (Oe l c)) :
    (execOp ρ ⟨dst,.entry x,ty,pos,aft,g⟩).run P w=.ok (.value (.tuple #[J (Di l j),.bool true])) w:=by
  rw[<-Ot h]at hi;have:=V6 (P:=P) hl.wf h hi hb;rw[hl.tr _ (eQ h),<-Hj h]at this;simp[execOp,hx,this]
end
end Go.Scarf
