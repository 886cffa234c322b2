/- A part of the proof. -/
import Derived.Test.YtbhneplafiapdaaGreatDoorHs1
set_option linter.all false
set_option maxHeartbeats 8000000
set_option maxRecDepth 10000
namespace Go.Scarf
open Go.RowKit
abbrev MapG:=List ((Int × Value) × Nat)
def Oe(l:MapG)(c:Nat):Obj:=.map (l.map entryJ).toArray c
def T3(l:MapG)(k:Int):MapG:=l.eraseP λx=>decide (x.1.1=k)
theorem Zr(k:Int):∀(l:MapG)(i:Nat),Instr.findNow (.int .i64) (J k) (l.map entryJ) i=some ((l.findIdx? (λx=>decide (x.1.1=k))).bind λj=>(l[j]?).map λx=>(i+j,x.1.2))
  | [],i=>by simp[Instr.findNow]
  | x :: l, i => by
    have ih:=Zr k l (i+1);rw[List.map_cons,Instr.findNow,List.findIdx?_cons];have hs:Instr.sameNow (.int .i64) (J k) (entryJ x).key=some (decide (x.1.1=k)):=by
      simp only[entryJ,Instr.sameNow,if_true]
      congr 1
      by_cases h:k=x.1.1
      ·simp[h]
      simp[h,show ¬x.1.1=k from λe=>h e.symm]
    rw[hs];by_cases h:x.1.1=k
    ·simp[h,entryJ]
    simp only[h, decide_false, Bool.false_eq_true, if_false];rw[ih];cases hf:List.findIdx? (λx:(Int × Value) × Nat=>decide (x.1.1=k)) l with
    | none=>simp
    | some j=>simp;congr 1;funext y;congr 1;omega
section
variable {P:Program}{R:Exit->Act->World->Prop}{n:Nat}{k:Kt}{s:Nat->Value}{w:World}{ops rest:List Oper}
variable {d:Nat}{ty:TypeId}{pos:String}{aft:Array Edge}{g:Option (Nat × Bool)}
variable {w0:World}{Ds:List Nat}{bs_:List (Nat × Obj)}{ρ:Operand->Value}{dst:Option Nat}
theorem Bs{b c:Nat}{l:MapG}(h:w.heap[b]? = some (Oe l c)):(getObj b).run P w=.ok (.map (l.map entryJ).toArray c) w:=by
  simp[getObj,Sem.run,h,Oe]
theorem Ll{kt:TypeId}{l:MapG}{x:Int}(hk:P.underlying kt=some (.int .i64)) :
    (Instr.findKey kt (J x) (l.map entryJ)).run P w=.ok ((l.findIdx? (λy=>decide (y.1.1=x))).bind λj=>(l[j]?).map λy=>(j,y.1.2)) w:=by
  simp only[Instr.findKey,Sem.run_bind,run_underlying hk,Result.andThen_ok,Zr,Nat.zero_add];rfl
theorem L2{b c:Nat}{l:MapG}{o:Obj}(h:w.heap[b]? = some (Oe l c))(ho:∃es c,o=.map es c):(setObj b o).run P w=.ok () { w with heap:=w.heap.setIfInBounds b o }:=by
  obtain⟨es,c',rfl⟩:=ho;simp[setObj,Sem.run,h,Oe]
theorem Nx{α β:Type}(f:α->β):∀(l:List α)(i:Nat),(l.map f).eraseIdx i=(l.eraseIdx i).map f
  | [],_=>by simp
  | _::_,0=>by simp
  | _::l,i+1=>by simp[Nx f l i]
theorem RA{t t' kt e b c:Nat}{x y:Operand}{l:MapG}{key:Int}(ht:P.underlying t=some (.map kt e))(hk:P.underlying kt=some (.int .i64))(hx:ρ x=.map (some b))(hy:ρ y=J key)(hb:w.heap[b]? = some (Oe l c)) :
    (execOp ρ ⟨dst,.call ⟨.builtin .delete,#[x,y],#[t,t']⟩,ty,pos,aft,g⟩).run P w=.ok (.value (.tuple #[])) { w with heap:=w.heap.setIfInBounds b (Oe (T3 l key) c) }:=by
  have hu:∀w,(underlying t).run P w=.ok (.map kt e) w:=run_underlying ht;have e1:T3 l key=match l.findIdx? (λx=>decide (x.1.1=key))with|none=>l|some i=>l.eraseIdx i:=List.eraseP_eq_eraseIdx
  have hf:(Instr.findKey kt (J key) (l.map entryJ).toArray.toList).run P w=.ok ((l.findIdx? (λy=>decide (y.1.1=key))).bind λj=>(l[j]?).map λy=>(j,y.1.2)) w:=Ll hk;have hs:=λo ho=>L2 (P:=P) (o:=o) hb ho;simp only[execOp,resolve,invoke,builtin,List.map_toArray,List.map_cons,List.map_nil,hx,hy];cases hi:l.findIdx? (λx=>decide (x.1.1=key))with
  | none =>
    rw[hi]at e1 hf;simp only[Option.bind_none]at hf;rw[e1];simp[Builtin.delete_,hu,Bs hb,Qf hk,Ll hk,hi,hs (Oe l c) ⟨_,_,rfl⟩];rw[show (Obj.map (List.map entryJ l).toArray c)=Oe l c from rfl,hs (Oe l c) ⟨_,_,rfl⟩];rfl
  | some i =>
    rw[hi]at e1 hf;have hlt:i<l.length:=by
      have:=List.findIdx?_eq_some_iff_getElem.1 hi;exact this.1
    rw[e1];have e2:(Obj.map ((List.map entryJ l).eraseIdx i).toArray c)=Oe (l.eraseIdx i) c:=by
      unfold Oe;rw[Nx]
    simp[Builtin.delete_,hu,Bs hb,Qf hk,Ll hk,hi,List.getElem?_eq_getElem hlt];rw[e2,hs (Oe (l.eraseIdx i) c) ⟨_,_,rfl⟩];rfl
structure WfG (l:MapG) (c:Nat):Prop where
  lt:∀x∈l,x.2<c
  nd:(l.map (·.2)).Nodup
theorem WfG.of(l:MapI):WfG (l.zipIdx 0) l.length:=⟨λx hx=>by
  obtain⟨i,hi,rfl⟩:=List.mem_iff_getElem.1 hx;simp at hi ⊢;exact hi,by rw[List.zipIdx_map_snd];exact List.nodup_range'⟩
theorem WfG.sub{l l':MapG}{c:Nat}(h:WfG l c)(hs:l'.Sublist l):WfG l' c:=⟨λx hx=>h.lt x (hs.subset hx),h.nd.sublist (hs.map _)⟩
theorem WfG.del{l:MapG}{c:Nat}(h:WfG l c)(k:Int):WfG (T3 l k) c:=h.sub List.eraseP_sublist
theorem Ov{t kt e b c:Nat}{x:Operand}{l:MapG}(ht:P.underlying t=some (.map kt e))(hx:ρ x=.map (some b))(hb:w.heap[b]? = some (Oe l c)) :
    (execOp ρ ⟨dst,.range t x,ty,pos,aft,g⟩).run P w=.ok (.value (.pointer (some ⟨w.heap.size,0,none⟩))) (w.alloc (.mapIter (some b) c #[] c)):=by
  have hr:=run_range_map (P:=P) w t kt e b (l.map entryJ).toArray c ht hb;simp[execOp,hx,hr]
theorem Qv(l:MapG)(i:Nat)(h:i<l.length):(l.map entryJ)[i]'(by rw[rQ];exact h)=⟨J l[i].1.1,l[i].1.2,l[i].2⟩:=by
  simp[entryJ]
theorem OA{ty:TypeId}{it b c:Nat}{l:MapG}{seen:Array Nat}(hw:WfG l c)(hi:w.heap[it]? = some (.mapIter (some b) c seen c))(hb:w.heap[b]? = some (Oe l c)) :
    ((∀x∈l,seen.contains x.2=true)/\(Instr.next (V it) false ty).run P w=.ok (.tuple #[.bool false]) w) \/
    ∃(i : Nat)(h : i<l.length)(w' : World), seen.contains l[i].2 = false /\ (Instr.next (V it) false ty).run P w = .ok (.tuple #[.bool true, J l[i].1.1, l[i].1.2]) w' /\
      Same [it] w w'/\w'.heap[it]? = some (.mapIter (some b) c (seen.push l[i].2) c):=by
  have hlt0:∀x∈(l.map entryJ).toArray.toList,x.born<c:=λx hx=>by
    obtain⟨y,hy,rfl⟩:=nQ.1 (show x∈l.map entryJ by simpa using hx);exact hw.lt y hy
  have hb':w.heap[b]? = some (.map (l.map entryJ).toArray c):=hb;simp only[Instr.next,getObj,Sem.run_bind,Sem.run,hi,hb',Result.andThen,next_test_false seen _ _ _ hlt0 (gQ _),Bool.false_eq_true,if_false];have hmem:∀x∈(Array.filter (λe=>!seen.contains e.born) (l.map entryJ).toArray).toList,x.born<c:=λx hx=>hlt0 x (by simp at hx ⊢;exact hx.1);generalize hL:Array.filter (λe=>!seen.contains e.born) (l.map entryJ).toArray=L at hmem ⊢;have e1:L.filter (λx=>decide (x.born<c))=L:=Array.filter_eq_self.2 (λx hx=>by simpa using hmem x (by simpa using hx));have e2:L.filter (λx=>decide (x.born ≥ c))=#[]:=by
    rw[Array.filter_eq_empty_iff];intro x hx;have:=hmem x (by simpa using hx);simp;omega
  simp only[e1,e2,Array.append_empty];by_cases h0:L.size=0
  ·left
   have:L=#[]:=Array.eq_empty_of_size_eq_zero h0;subst this;refine⟨λx hx=>?_,by simp[choose,Sem.run,Question.forced]⟩;rw[Array.filter_eq_empty_iff]at hL;have:=hL (entryJ x) (by simpa using⟨_,_,_,hx,rfl⟩);simpa[entryJ]using this
  right;have hne:L.isEmpty=false:=by simp[Array.isEmpty,h0]
  simp only[hne,Bool.false_eq_true,if_false,Array.empty_append,Array.size_map];have hch:∃(j:Nat)(w1:World),j<L.size/\Same [] w w1/\w1.heap=w.heap/\(choose (Question.mapNext L.size)).run P w=.ok j w1:=by
    by_cases hf:L.size<=1
    ·exact⟨0,w,by omega,Same.refl _ _,O,by simp[choose,Sem.run,Question.forced,hf]⟩
    exact⟨_,w.drew,Nat.mod_lt _ Ca,Same.drew w,O,by
      simp only[choose,Sem.run,Question.forced,decide_eq_true_eq,hf,if_false,Question.cut];rfl⟩
  obtain⟨j,w1,hj,hs,hh,hrun⟩:=hch;have hjm:L[j]∈Array.filter (λe=>!seen.contains e.born) (l.map entryJ).toArray:=by rw[hL];simp
  have hjm':=Array.mem_filter.1 hjm;have hje:L[j]∈l.map entryJ:=by simpa using hjm'.1
  obtain⟨i,hi',he⟩:=List.getElem_of_mem hje;rw[rQ]at hi';rw[Qv l i hi']at he;have hns:seen.contains l[i].2=false:=by
    have:=hjm'.2;rw[<-he]at this;simpa using this
  have hset:(setObj it (.mapIter (some b) c (seen.push l[i].2) c)).run P w1=.ok () { w1 with heap:=w1.heap.setIfInBounds it (.mapIter (some b) c (seen.push l[i].2) c) }:=by
    simp[setObj,Sem.run,hh,hi]
  refine⟨i,hi',{ w1 with heap:=w1.heap.setIfInBounds it (.mapIter (some b) c (seen.push l[i].2) c) },hns,?_,(hs.mono Pa).trans (Zh w1 it _),?_⟩
  ·simp only[hrun, Array.getElem?_map, Array.getElem?_eq_getElem hj, Option.map_some, Sem.run_bind, <- he, hset, Result.andThen]
   rfl
  have hlt := Qa hi;simp[hh,hlt]
theorem LI(i:Nat){x:Operand}{it b c:Nat}{l:MapG}{seen:Array Nat}(hF:FR w0 Ds bs_ w)(hl:WfG l c)(hx:ev n s x=V it)(hi:bs_[i]? = some (it,.mapIter (some b) c seen c))(hb:w.heap[b]? = some (Oe l c))
    (hend:(∀x∈l,seen.contains x.2=true)->Og P R n ops k rest (Be s d (.tuple #[.bool false])) w)
    (hnext:∀j w' (h:j<l.length),seen.contains l[j].2=false->FR w0 Ds (bs_.set i (it,.mapIter (some b) c (seen.push l[j].2) c)) w'->Same [it] w w'->w'.heap[b]? = some (Oe l c) ->
      Og P R n ops k rest (Be s d (.tuple #[.bool true,J l[j].1.1,l[j].1.2])) w')
    (hw:Ya ops n s ⟨some d,.next x false,ty,pos,aft,g⟩=true:=by rfl):Og P R n ops k (⟨some d,.next x false,ty,pos,aft,g⟩::rest) s w:=by
  have hit:=hF.heap hi;have hbit:b≠it:=by
    rintro rfl;rw[hb]at hit;injection hit with hit
    cases hit
  rcases OA (P:=P) (ty:=ty) hl hit hb with ⟨hall,hr⟩|⟨j,hj,w',hn,hr,hs,hh⟩
  ·refine Oa (v := .tuple #[.bool false]) (w' := w) ?_ (hend hall) hw
   simp[execOp,hx,hr]
  refine Oa (v := .tuple #[.bool true, J l[j].1.1, l[j].1.2]) (w' := w') ?_ (hnext j w' hj hn (hF.change i hi hs hh) hs ((hs.block b (Qa hb) (by simpa using hbit)).trans hb)) hw;simp[execOp,hx,hr]
end
structure SetL (l:List Int) (S:Nat->Prop):Prop where
  nd:l.Nodup
  mem:∀x:Int,x∈l↔∃j:Nat,x=(j:Int)/\S j
theorem SetL.nil:SetL [] (λ_=>False):=⟨List.nodup_nil,λx=>by simp⟩
theorem SetL.at{l:List Int}{S:Nat->Prop}(h:SetL l S)(j:Nat):(j:Int)∈l↔S j:=by
  rw[h.mem];exact⟨λ⟨i,e,hi⟩=>(by obtain rfl:j=i:=Ca;exact hi),λhj=>⟨j,rfl,hj⟩⟩
theorem SetL.congr{l:List Int}{S T:Nat->Prop}(h:SetL l S)(e:∀j,S j↔T j):SetL l T:=⟨h.nd,λx=>by
  rw[h.mem];exact⟨λ⟨j,a,b⟩=>⟨j,a,(e j).1 b⟩,λ⟨j,a,b⟩=>⟨j,a,(e j).2 b⟩⟩⟩
theorem SetL.add{l:List Int}{S:Nat->Prop}(h:SetL l S){k:Nat}(hk:¬S k):SetL (l++[(k:Int)]) (λj=>S j\/j=k):=⟨by
  rw[List.nodup_append];exact⟨h.nd,by simp,λa ha b hb e=>by rw[pQ.1 hb]at e;subst e;exact hk ((h.at k).1 ha)⟩,λx=>by
  rw[mQ,pQ,h.mem];exact⟨λhx=>hx.elim (λ⟨j,a,b⟩=>⟨j,a,.inl b⟩) λe=>⟨k,e,.inr rfl⟩,λ⟨j,a,b⟩=>b.elim (λb=>.inl ⟨j,a,b⟩) λe=>.inr (by rw[a,e])⟩⟩
theorem SetL.less{l:List Int}{S:Nat->Prop}(h:SetL l S){N:Nat}(hN:∀j,S j->j<N):l.length<=N:=by
  have hp:l.Perm ((List.range N).map (λi:Nat=>(i:Int)) |>.filter λx=>decide (x∈l)):=Sh h.nd (List.Pairwise.filter _ (List.pairwise_map.2 ((List.nodup_range (n:=N)).imp fun {a b} h e=>h Ca))) λx=>by
    rw[List.mem_filter,decide_eq_true_eq];refine⟨λhx=>⟨?_,hx⟩,λhx=>hx.2⟩;obtain⟨j,rfl,hj⟩:=(h.mem x).1 hx;exact nQ.2 ⟨j,List.mem_range.2 (hN j hj),O⟩
  have h1:=hp.length_eq;have h2:=List.length_filter_le (λx=>decide (x∈l)) ((List.range N).map (λi:Nat=>(i:Int)));rw[rQ,List.length_range]at h2;omega
theorem LF{l:List Int}{N:Nat}{p:Nat->Bool}(h:SetL l (λj=>j<N/\p j=true)):l.mergeSort (λx y=>decide (x<=y))=((List.range N).filter p).map λi:Nat=>(i:Int):=by
  have hr:(((List.range N).filter p).map λi:Nat=>(i:Int)).Nodup:=List.pairwise_map.2 ((List.Pairwise.filter p (List.nodup_range (n:=N))).imp fun {a b} h e=>h Ca);have hp0:l.Perm (((List.range N).filter p).map λi:Nat=>(i:Int)):=Sh h.nd hr λx=>by
    rw[h.mem,nQ];exact⟨λ⟨j,a,b⟩=>⟨j,List.mem_filter.2 ⟨List.mem_range.2 b.1,b.2⟩,a.symm⟩,λ⟨j,a,b⟩=>⟨j,b.symm,List.mem_range.1 (List.mem_filter.1 a).1,(List.mem_filter.1 a).2⟩⟩
  have hp:=(List.mergeSort_perm l λx y=>decide (x<=y)).trans hp0;refine hp.eq_of_pairwise (le:=λx y=>x<=y) (λa b _ _ h1 h2=>by omega) ?_ ?_
  ·have := List.pairwise_mergeSort (le := λ(x y : Int) => decide (x <= y)) (λa b c h1 h2 => by simp only[decide_eq_true_eq]at *;omega) (λa b => by simp only[Bool.or_eq_true, decide_eq_true_eq];omega) l
   exact this.imp λh=>by simpa using h
  refine List.pairwise_map.2 ((List.Pairwise.filter _ (List.pairwise_lt_range (n:=N))).imp λh=>by omega)
def Mb(l:List Int):MapI:=l.map λk=>(k,Value.bool true)
theorem P4(l:List Int):(Mb l).length=l.length:=by simp[Mb]
theorem Cy(l:List Int)(k:Int):Mb l++[(k,Value.bool true)]=Mb (l++[k]):=by simp[Mb]
theorem Uq(l:List Int)(k:Int):Qp (Mb l) k=if k∈l then some (.bool true) else none:=by
  unfold Qp Mb
  induction l with
  | nil=>rfl
  | cons a l ih =>
    rw[List.map_cons,List.find?_cons];by_cases h:a=k
    ·subst h;simp
    rw[show decide ((a, Value.bool true).1 = k) = false by simpa using h];simp only[];rw[ih];simp[show ¬k=a from λe=>h e.symm]
theorem Q1(l:List Int)(k:Int):(Qp (Mb l) k).getD (.bool false)=.bool (decide (k∈l)):=by
  rw[Uq];by_cases h:k∈l <;> simp[h]
structure SetG (l:MapG) (c:Nat) (S:Nat->Prop):Prop where
  wf:WfG l c
  tr:∀x∈l,x.1.2=.bool true
  ks:SetL (l.map (·.1.1)) S
theorem SetG.of{l:List Int}{S:Nat->Prop}(h:SetL l S):SetG ((Mb l).zipIdx 0) (Mb l).length S:=⟨WfG.of _,λx hx=>by
  obtain⟨i,hi,rfl⟩:=List.mem_iff_getElem.1 hx;simp[Mb],by
  have e:((Mb l).zipIdx 0).map (·.1.1)=l:=by
    apply List.ext_getElem (by simp[Mb]);intro i h1 h2;simp[Mb]
  rw[e];exact h⟩
theorem SetG.congr{l:MapG}{c:Nat}{S T:Nat->Prop}(h:SetG l c S)(e:∀j,S j↔T j):SetG l c T:=⟨h.wf,h.tr,h.ks.congr e⟩
theorem Yt(k:Int):∀l:MapG,(T3 l k).map (·.1.1)=(l.map (·.1.1)).erase k
  | []=>rfl
  | x :: l => by
    have ih:=Yt k l;unfold T3 at ih ⊢;rw[List.eraseP_cons,List.map_cons,List.erase_cons];by_cases h:x.1.1=k
    ·simp[h]
    simp[h,ih]
theorem SetG.del{l:MapG}{c:Nat}{S:Nat->Prop}(h:SetG l c S)(k:Nat):SetG (T3 l (k:Int)) c (λj=>S j/\j≠k):=⟨h.wf.del _,λx hx=>h.tr x (List.mem_of_mem_eraseP hx),by
  rw[Yt];refine⟨h.ks.nd.erase _,λx=>?_⟩;rw[h.ks.nd.mem_erase_iff,h.ks.mem];exact⟨λ⟨hn,j,e,hj⟩=>⟨j,e,hj,λhk=>hn (by rw[e,hk])⟩,λ⟨j,e,hj,hn⟩=>⟨λhk=>hn Ca,j,e,hj⟩⟩⟩
def Vs(h:List Cm)(S:Nat->Prop)(k:Nat):Prop:=∀j,j<=k->S j->∀i,Xj h j i=true->S i
def MH(h:List Cm)(S:Nat->Prop)(k:Nat)(n:Nat):Nat->Prop:=λj=>(S j\/j=k)\/∃p∈(On h k).take n,Xj h p j=true
theorem E6{h:List Cm}{S:Nat->Prop}{k:Nat}(hc:Vs h S k)(hk:S k)(j:Nat):S j↔(S j\/Xj h k j=true) :=
  ⟨.inl,λhj=>hj.elim id λhu=>hc k (gQ _) hk j hu⟩
theorem CC{h:List Cm}{S:Nat->Prop}{k:Nat}(j:Nat):(S j\/j=k)↔MH h S k 0 j:=⟨.inl,λhj=>hj.elim id λ⟨p,hp,_⟩=>by simp at hp⟩
theorem W5{h:List Cm}(hr:Rb h=true){S:Nat->Prop}{k n:Nat}(hc:Vs h S k){p:Nat}(hp:p∈On h k):Vs h (MH h S k n) p:=λj hj hs i hi=>by
  have hl:=Ai hr hp;rcases hs with (hs|rfl)|⟨q,hq,hu⟩
  ·exact .inl (.inl (hc j Ca hs i hi))
  ·omega
  have hq2 := Ai hr (List.mem_of_mem_take hq);exact .inr ⟨q,hq,W1 hr q j i Ca hu hi⟩
theorem FG{h:List Cm}{S:Nat->Prop}{k n:Nat}(hn:n<(On h k).length)(j:Nat):(MH h S k n j\/Xj h (On h k)[n] j=true)↔MH h S k (n+1) j:=by
  unfold MH;rw[iQ hn];constructor
  ·rintro ((hs|⟨p, hp, hu⟩)|hu)
   ·exact .inl hs
   ·exact .inr ⟨p,List.mem_append_left _ hp,hu⟩
   exact .inr ⟨_,List.mem_append_right _ (pQ.2 O),hu⟩
  rintro (hs|⟨p, hp, hu⟩)
  ·exact .inl (.inl hs)
  rcases mQ.1 hp with hp|hp
  ·exact .inl (.inr ⟨p,hp,hu⟩)
  rw[pQ.1 hp]at hu;exact .inr hu
theorem XG{h:List Cm}(hr:Rb h=true){S:Nat->Prop}{k n:Nat}(hk:k<h.length)(hn:(On h k).length<=n)(j:Nat):MH h S k n j↔(S j\/Xj h k j=true):=by
  unfold MH;rw[List.take_of_length_le hn,Vm hr hk,Bool.or_eq_true,decide_eq_true_eq,List.any_eq_true];constructor
  ·rintro ((hs|e)|hu)
   ·exact .inl hs
   ·exact .inr (.inl e)
   exact .inr (.inr hu)
  rintro (hs|e|hu)
  ·exact .inl (.inl hs)
  ·exact .inl (.inr e)
  exact .inr hu
theorem VA{h:List Cm}(hr:Rb h=true){k:Nat}(hk:k<h.length){l:List Int}(hl:SetL l λj=>False\/Xj h k j=true):SetL l λj=>j<h.length/\Xj h k j=true :=
  hl.congr λj=>⟨λhj=>hj.elim False.elim λhu=>⟨Yh hr hk hu,hu⟩,λhj=>.inr hj.2⟩
end Go.Scarf
