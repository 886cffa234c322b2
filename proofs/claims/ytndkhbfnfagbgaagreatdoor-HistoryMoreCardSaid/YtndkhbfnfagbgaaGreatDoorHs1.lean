/- A part of the proof. -/
import Derived.Test.YtndkhbfnfagbgaaGreatDoorA10
set_option linter.all false
set_option maxHeartbeats 8000000
set_option maxRecDepth 10000
namespace Go.Scarf
open Go.RowKit
structure Cm where
  par:List Int
  val:Tree
def Hp(n:Int):Int->List Int->Bool
  | _,[]=>true
  | last,p::l=>decide (last<p)&&(decide (p<n)&&Hp n p l)
def Sf(c:Cm)(n:Nat):Bool:=Hp n (-1) c.par&&Kd c.val
def Ld(h:List Cm):Bool:=decide (h.length<=64)&&(List.range h.length).all λi=>Sf (h.getD i ⟨[],zeroT⟩) i
def Ru(h:List Cm)(k:Nat):List Nat:=((h[k]?.map (·.par)).getD []).map Int.toNat
def upF(h:List Cm):Nat->Nat->Nat->Bool
  | 0,_,_=>false
  | F+1,k,j=>decide (j=k) || (Ru h k).any λp=>upF h F p j
def Xt(h:List Cm)(k j:Nat):Bool:=upF h (h.length+1) k j
def VY(h:List Cm)(k:Nat):List Nat:=(List.range h.length).filter (Xt h k)
def Do(h:List Cm)(k:Int):Bool:=Ld h&&(decide (0<=k)&&decide (k<(h.length:Int)))
def Wv(h:List Cm)(k:Int):List Nat:=if Do h k=true then VY h k.toNat else []
def Wf(h:List Cm)(a b i:Nat):Bool:=Xt h a i&&Xt h b i
def Wl(h:List Cm)(a b i:Nat):Bool:=Wf h a b i&&(List.range h.length).all λk=>decide (k=i) || (!(Wf h a b k) || !(Xt h k i))
def PW(h:List Cm)(a b:Nat):List Nat:=(List.range h.length).filter (Wl h a b)
def Jv(h:List Cm)(a b:Int):List Nat:=if Do h a=true/\Do h b=true then PW h a.toNat b.toNat else []
theorem Q8{n:Int}:∀{l:List Int}{last:Int},Hp n last l=true->∀p∈l,last<p/\p<n
  | [],_,_,p,hp=>by cases hp
  | q :: l, last, h, p, hp => by
    rw[Hp,Bool.and_eq_true,Bool.and_eq_true,decide_eq_true_eq,decide_eq_true_eq]at h;rcases oQ.1 hp with rfl|hp
    ·exact⟨h.1,h.2.1⟩
    have := Q8 h.2.2 p hp;exact⟨by omega,this.2⟩
theorem Kq{h:List Cm}(hr:Ld h=true){i:Nat}(hi:i<h.length):Sf h[i] i=true:=by
  unfold Ld at hr;rw[Bool.and_eq_true,List.all_eq_true]at hr;have:=hr.2 i (List.mem_range.2 hi);rw[List.getD,List.getElem?_eq_getElem hi,Option.getD_some]at this;exact this
theorem Xn{h:List Cm}(hr:Ld h=true){k p:Nat}(hp:p∈Ru h k):p<k/\k<h.length:=by
  unfold Ru at hp;obtain⟨q,hq,rfl⟩:=nQ.1 hp;by_cases hk:k<h.length
  ·rw[List.getElem?_eq_getElem hk]at hq
   have hq':q∈h[k].par:=hq;have h1:=Kq hr hk;unfold Sf at h1;have:=Q8 (Bool.and_eq_true_iff.1 h1).1 q hq';exact⟨by omega,hk⟩
  rw[List.getElem?_eq_none sX]at hq;cases hq
theorem PL{h:List Cm}(hr:Ld h=true):∀(F G k j:Nat),k<F->k<G->upF h F k j=upF h G k j:=by
  intro F
  induction F with
  | zero=>intro G k j hk;omega
  | succ F ih =>
    intro G k j hF hG;obtain⟨G,rfl⟩:∃g,G=g+1:=⟨G-1,by omega⟩;rw[upF,upF]
    congr 1
    have:∀l:List Nat,(∀p∈l,p<k)->(l.any λp=>upF h F p j)=l.any λp=>upF h G p j:=λl=>by
      induction l with
      | nil=>intro _;rfl
      | cons p l ihl =>
        intro hl;rw[List.any_cons,List.any_cons,ihl λq hq=>hl q (by simp[hq]),ih G p j (by have:=hl p Da;omega) (by have:=hl p Da;omega)]
    exact this _ λp hp=>(Xn hr hp).1
theorem St{h:List Cm}(hr:Ld h=true){k j:Nat}(hk:k<h.length):Xt h k j=(decide (j=k) || (Ru h k).any λp=>Xt h p j):=by
  have e:Xt h k j=upF h (h.length+1) k j:=rfl;rw[e,upF]
  congr 1
  have:∀l:List Nat,(∀p∈l,p<k)->(l.any λp=>upF h h.length p j)=l.any λp=>Xt h p j:=λl=>by
    induction l with
    | nil=>intro _;rfl
    | cons p l ihl =>
      intro hl;rw[List.any_cons,List.any_cons,ihl λq hq=>hl q (by simp[hq])]
      congr 1
      exact PL hr _ _ _ _ (by have:=hl p Da;omega) (by have:=hl p Da;omega)
  exact this _ λp hp=>(Xn hr hp).1
theorem up_le{h:List Cm}(hr:Ld h=true):∀(k j:Nat),k<h.length->Xt h k j=true->j<=k:=by
  intro k
  induction k using Nat.strongRecOn with
  | _ k ih =>
    intro j hk hu;rw[St hr hk,Bool.or_eq_true,decide_eq_true_eq,List.any_eq_true]at hu;rcases hu with rfl|⟨p,hp,hu⟩
    ·exact gQ _
    have := (Xn hr hp).1;have:=ih p this j sX hu;omega
theorem up_trans{h:List Cm}(hr:Ld h=true):∀(k j i:Nat),k<h.length->Xt h k j=true->Xt h j i=true->Xt h k i=true:=by
  intro k
  induction k using Nat.strongRecOn with
  | _ k ih =>
    intro j i hk h1 h2;have h0:=h1;rw[St hr hk,Bool.or_eq_true,decide_eq_true_eq,List.any_eq_true]at h1;rcases h1 with rfl|⟨p,hp,h1⟩
    ·exact h2
    have hl := (Xn hr hp).1;rw[St hr hk,Bool.or_eq_true,List.any_eq_true];exact .inr ⟨p,hp,ih p hl j i sX h1 h2⟩
theorem Y1{h:List Cm}(hr:Ld h=true){k j:Nat}(hk:k<h.length)(hu:Xt h k j=true):j<h.length:=Nat.lt_of_le_of_lt (up_le hr k j hk hu) hk
theorem Qq{h:List Cm}{a b i:Nat}:Wf h a b i=true↔Xt h a i=true/\Xt h b i=true:=by unfold Wf;rw[Bool.and_eq_true]
theorem base_iff{h:List Cm}(hr:Ld h=true){a b i:Nat}(ha:a<h.length):Wl h a b i=true↔Wf h a b i=true/\∀k,Wf h a b k=true->Xt h k i=true->k=i:=by
  unfold Wl;rw[Bool.and_eq_true,List.all_eq_true];refine and_congr_right λ_=>⟨λH k hk hu=>?_,λH k _=>?_⟩
  ·have := H k (List.mem_range.2 (Y1 hr ha (Qq.1 hk).1))
   simp only[Bool.or_eq_true,decide_eq_true_eq,Bool.not_eq_true']at this;rcases this with h1|h1|h1
   ·exact h1
   ·rw[hk]at h1;cases h1
   rw[hu]at h1;cases h1
  by_cases e : k = i
  ·simp[e]
  simp only[Bool.or_eq_true, decide_eq_true_eq, Bool.not_eq_true'];right;cases h1:Wf h a b k with
  | false=>exact .inl rfl
  | true =>
    cases h2:Xt h k i with
    | false=>exact .inr rfl
    | true=>exact absurd (H k h1 h2) e
theorem PT(h:List Cm)(c:Cm){k:Nat}(hk:k<h.length):Ru (h++[c]) k=Ru h k:=by
  unfold Ru;rw[List.getElem?_append_left hk]
theorem U2{h:List Cm}(c:Cm)(hr:Ld h=true)(hr':Ld (h++[c])=true):∀(k j:Nat),k<h.length->Xt (h++[c]) k j=Xt h k j:=by
  intro k
  induction k using Nat.strongRecOn with
  | _ k ih =>
    intro j hk;rw[St hr hk,St hr' (by rw[dQ];simp;omega),PT h c hk]
    congr 1
    have:∀l:List Nat,(∀p∈l,p<k)->(l.any λp=>Xt (h++[c]) p j)=l.any λp=>Xt h p j:=λl=>by
      induction l with
      | nil=>intro _;rfl
      | cons p l ihl =>
        intro hl;rw[List.any_cons,List.any_cons,ihl λq hq=>hl q (by simp[hq]),ih p (hl p Da) j (by have:=hl p Da;omega)]
    exact this _ λp hp=>(Xn hr hp).1
abbrev MapG:=List ((Int × Value) × Nat)
def Qi(l:MapG)(c:Nat):Obj:=.map (l.map entryJ).toArray c
def GG(l:MapG)(k:Int):MapG:=l.eraseP λx=>decide (x.1.1=k)
theorem K5(k:Int):∀(l:MapG)(i:Nat),Instr.findNow (.int .i64) (J k) (l.map entryJ) i=some ((l.findIdx? (λx=>decide (x.1.1=k))).bind λj=>(l[j]?).map λx=>(i+j,x.1.2))
  | [],i=>by simp[Instr.findNow]
  | x :: l, i => by
    have ih:=K5 k l (i+1);rw[List.map_cons,Instr.findNow,List.findIdx?_cons];have hs:Instr.sameNow (.int .i64) (J k) (entryJ x).key=some (decide (x.1.1=k)):=by
      simp only[entryJ,Instr.sameNow,if_true]
      congr 1
      by_cases h:k=x.1.1
      ·simp[h]
      simp[h,show ¬x.1.1=k from λe=>h e.symm]
    rw[hs];by_cases h:x.1.1=k
    ·simp[h,entryJ]
    simp only[h, decide_false, Bool.false_eq_true, if_false];rw[ih];cases hf:List.findIdx? (λx:(Int × Value) × Nat=>decide (x.1.1=k)) l with
    | none=>simp
    | some j=>simp;congr 1;funext y;congr 1;omega
section
variable {P:Program}{R:Exit->Act->World->Prop}{n:Nat}{k:Kt}{s:Nat->Value}{w:World}{ops rest:List Oper}
variable {d:Nat}{ty:TypeId}{pos:String}{aft:Array Edge}{g:Option (Nat × Bool)}
variable {w0:World}{Ds:List Nat}{bs_:List (Nat × Obj)}{ρ:Operand->Value}{dst:Option Nat}
theorem X5{b c:Nat}{l:MapG}(h:w.heap[b]? = some (Qi l c)):(getObj b).run P w=.ok (.map (l.map entryJ).toArray c) w:=by
  simp[getObj,Sem.run,h,Qi]
theorem Hv{kt:TypeId}{l:MapG}{x:Int}(hk:P.underlying kt=some (.int .i64)) :
    (Instr.findKey kt (J x) (l.map entryJ)).run P w=.ok ((l.findIdx? (λy=>decide (y.1.1=x))).bind λj=>(l[j]?).map λy=>(j,y.1.2)) w:=by
  simp only[Instr.findKey,Sem.run_bind,run_underlying hk,Result.andThen_ok,K5,Nat.zero_add];rfl
theorem NG{b c:Nat}{l:MapG}{o:Obj}(h:w.heap[b]? = some (Qi l c))(ho:∃es c,o=.map es c):(setObj b o).run P w=.ok () { w with heap:=w.heap.setIfInBounds b o }:=by
  obtain⟨es,c',rfl⟩:=ho;simp[setObj,Sem.run,h,Qi]
theorem OD{α β:Type}(f:α->β):∀(l:List α)(i:Nat),(l.map f).eraseIdx i=(l.eraseIdx i).map f
  | [],_=>by simp
  | _::_,0=>by simp
  | _::l,i+1=>by simp[OD f l i]
theorem QV{t t' kt e b c:Nat}{x y:Operand}{l:MapG}{key:Int}(ht:P.underlying t=some (.map kt e))(hk:P.underlying kt=some (.int .i64))(hx:ρ x=.map (some b))(hy:ρ y=J key)(hb:w.heap[b]? = some (Qi l c)) :
    (execOp ρ ⟨dst,.call ⟨.builtin .delete,#[x,y],#[t,t']⟩,ty,pos,aft,g⟩).run P w=.ok (.value (.tuple #[])) { w with heap:=w.heap.setIfInBounds b (Qi (GG l key) c) }:=by
  have hu:∀w,(underlying t).run P w=.ok (.map kt e) w:=run_underlying ht;have e1:GG l key=match l.findIdx? (λx=>decide (x.1.1=key))with|none=>l|some i=>l.eraseIdx i:=List.eraseP_eq_eraseIdx
  have hf:(Instr.findKey kt (J key) (l.map entryJ).toArray.toList).run P w=.ok ((l.findIdx? (λy=>decide (y.1.1=key))).bind λj=>(l[j]?).map λy=>(j,y.1.2)) w:=Hv hk;have hs:=λo ho=>NG (P:=P) (o:=o) hb ho;simp only[execOp,resolve,invoke,builtin,List.map_toArray,List.map_cons,List.map_nil,hx,hy];cases hi:l.findIdx? (λx=>decide (x.1.1=key))with
  | none =>
    rw[hi]at e1 hf;simp only[Option.bind_none]at hf;rw[e1];simp[Builtin.delete_,hu,X5 hb,Xj hk,Hv hk,hi,hs (Qi l c) ⟨_,_,rfl⟩];rw[show (Obj.map (List.map entryJ l).toArray c)=Qi l c from rfl,hs (Qi l c) ⟨_,_,rfl⟩];rfl
  | some i =>
    rw[hi]at e1 hf;have hlt:i<l.length:=by
      have:=List.findIdx?_eq_some_iff_getElem.1 hi;exact this.1
    rw[e1];have e2:(Obj.map ((List.map entryJ l).eraseIdx i).toArray c)=Qi (l.eraseIdx i) c:=by
      unfold Qi;rw[OD]
    simp[Builtin.delete_,hu,X5 hb,Xj hk,Hv hk,hi,List.getElem?_eq_getElem hlt];rw[e2,hs (Qi (l.eraseIdx i) c) ⟨_,_,rfl⟩];rfl
structure WfG (l:MapG) (c:Nat):Prop where
  lt:∀x∈l,x.2<c
  nd:(l.map (·.2)).Nodup
theorem WfG.of(l:MapI):WfG (l.zipIdx 0) l.length:=⟨λx hx=>by
  obtain⟨i,hi,rfl⟩:=List.mem_iff_getElem.1 hx;simp at hi ⊢;exact hi,by rw[List.zipIdx_map_snd];exact List.nodup_range'⟩
theorem WfG.sub{l l':MapG}{c:Nat}(h:WfG l c)(hs:l'.Sublist l):WfG l' c:=⟨λx hx=>h.lt x (hs.subset hx),h.nd.sublist (hs.map _)⟩
theorem WfG.del{l:MapG}{c:Nat}(h:WfG l c)(k:Int):WfG (GG l k) c:=h.sub List.eraseP_sublist
theorem L8{t kt e b c:Nat}{x:Operand}{l:MapG}(ht:P.underlying t=some (.map kt e))(hx:ρ x=.map (some b))(hb:w.heap[b]? = some (Qi l c)) :
    (execOp ρ ⟨dst,.range t x,ty,pos,aft,g⟩).run P w=.ok (.value (.pointer (some ⟨w.heap.size,0,none⟩))) (w.alloc (.mapIter (some b) c #[] c)):=by
  have hr:=run_range_map (P:=P) w t kt e b (l.map entryJ).toArray c ht hb;simp[execOp,hx,hr]
theorem Q_(l:MapG)(i:Nat)(h:i<l.length):(l.map entryJ)[i]'(by rw[rQ];exact h)=⟨J l[i].1.1,l[i].1.2,l[i].2⟩:=by
  simp[entryJ]
theorem IT{ty:TypeId}{it b c:Nat}{l:MapG}{seen:Array Nat}(hw:WfG l c)(hi:w.heap[it]? = some (.mapIter (some b) c seen c))(hb:w.heap[b]? = some (Qi l c)) :
    ((∀x∈l,seen.contains x.2=true)/\(Instr.next (V it) false ty).run P w=.ok (.tuple #[.bool false]) w) \/
    ∃(i : Nat)(h : i<l.length)(w' : World), seen.contains l[i].2 = false /\ (Instr.next (V it) false ty).run P w = .ok (.tuple #[.bool true, J l[i].1.1, l[i].1.2]) w' /\
      Same [it] w w'/\w'.heap[it]? = some (.mapIter (some b) c (seen.push l[i].2) c):=by
  have hlt0:∀x∈(l.map entryJ).toArray.toList,x.born<c:=λx hx=>by
    obtain⟨y,hy,rfl⟩:=nQ.1 (show x∈l.map entryJ by simpa using hx);exact hw.lt y hy
  have hb':w.heap[b]? = some (.map (l.map entryJ).toArray c):=hb;simp only[Instr.next,getObj,Sem.run_bind,Sem.run,hi,hb',Result.andThen,next_test_false seen _ _ _ hlt0 (gQ _),Bool.false_eq_true,if_false];have hmem:∀x∈(Array.filter (λe=>!seen.contains e.born) (l.map entryJ).toArray).toList,x.born<c:=λx hx=>hlt0 x (by simp at hx ⊢;exact hx.1);generalize hL:Array.filter (λe=>!seen.contains e.born) (l.map entryJ).toArray=L at hmem ⊢;have e1:L.filter (λx=>decide (x.born<c))=L:=Array.filter_eq_self.2 (λx hx=>by simpa using hmem x (by simpa using hx));have e2:L.filter (λx=>decide (x.born ≥ c))=#[]:=by
    rw[Array.filter_eq_empty_iff];intro x hx;have:=hmem x (by simpa using hx);simp;omega
  simp only[e1,e2,Array.append_empty];by_cases h0:L.size=0
  ·left
   have:L=#[]:=Array.eq_empty_of_size_eq_zero h0;subst this;refine⟨λx hx=>?_,by simp[choose,Sem.run,Question.forced]⟩;rw[Array.filter_eq_empty_iff]at hL;have:=hL (entryJ x) (by simpa using⟨_,_,_,hx,rfl⟩);simpa[entryJ]using this
  right;have hne:L.isEmpty=false:=by simp[Array.isEmpty,h0]
  simp only[hne,Bool.false_eq_true,if_false,Array.empty_append,Array.size_map];have hch:∃(j:Nat)(w1:World),j<L.size/\Same [] w w1/\w1.heap=w.heap/\(choose (Question.mapNext L.size)).run P w=.ok j w1:=by
    by_cases hf:L.size<=1
    ·exact⟨0,w,by omega,Same.refl _ _,O,by simp[choose,Sem.run,Question.forced,hf]⟩
    exact⟨_,w.drew,Nat.mod_lt _ sX,Same.drew w,O,by
      simp only[choose,Sem.run,Question.forced,decide_eq_true_eq,hf,if_false,Question.cut];rfl⟩
  obtain⟨j,w1,hj,hs,hh,hrun⟩:=hch;have hjm:L[j]∈Array.filter (λe=>!seen.contains e.born) (l.map entryJ).toArray:=by rw[hL];simp
  have hjm':=Array.mem_filter.1 hjm;have hje:L[j]∈l.map entryJ:=by simpa using hjm'.1
  obtain⟨i,hi',he⟩:=List.getElem_of_mem hje;rw[rQ]at hi';rw[Q_ l i hi']at he;have hns:seen.contains l[i].2=false:=by
    have:=hjm'.2;rw[<-he]at this;simpa using this
  have hset:(setObj it (.mapIter (some b) c (seen.push l[i].2) c)).run P w1=.ok () { w1 with heap:=w1.heap.setIfInBounds it (.mapIter (some b) c (seen.push l[i].2) c) }:=by
    simp[setObj,Sem.run,hh,hi]
  refine⟨i,hi',{ w1 with heap:=w1.heap.setIfInBounds it (.mapIter (some b) c (seen.push l[i].2) c) },hns,?_,(hs.mono Da).trans (Lm w1 it _),?_⟩
  ·simp only[hrun, Array.getElem?_map, Array.getElem?_eq_getElem hj, Option.map_some, Sem.run_bind, <- he, hset, Result.andThen]
   rfl
  have hlt := Ma hi;simp[hh,hlt]
theorem o_nextG(i:Nat){x:Operand}{it b c:Nat}{l:MapG}{seen:Array Nat}(hF:FR w0 Ds bs_ w)(hl:WfG l c)(hx:ev n s x=V it)(hi:bs_[i]? = some (it,.mapIter (some b) c seen c))(hb:w.heap[b]? = some (Qi l c))
    (hend:(∀x∈l,seen.contains x.2=true)->Og P R n ops k rest (Ng s d (.tuple #[.bool false])) w)
    (hnext:∀j w' (h:j<l.length),seen.contains l[j].2=false->FR w0 Ds (bs_.set i (it,.mapIter (some b) c (seen.push l[j].2) c)) w'->Same [it] w w'->w'.heap[b]? = some (Qi l c) ->
      Og P R n ops k rest (Ng s d (.tuple #[.bool true,J l[j].1.1,l[j].1.2])) w')
    (hw:Vb ops n s ⟨some d,.next x false,ty,pos,aft,g⟩=true:=by rfl):Og P R n ops k (⟨some d,.next x false,ty,pos,aft,g⟩::rest) s w:=by
  have hit:=hF.heap hi;have hbit:b≠it:=by
    rintro rfl;rw[hb]at hit;injection hit with hit
    cases hit
  rcases IT (P:=P) (ty:=ty) hl hit hb with ⟨hall,hr⟩|⟨j,hj,w',hn,hr,hs,hh⟩
  ·refine Ka (v := .tuple #[.bool false]) (w' := w) ?_ (hend hall) hw
   simp[execOp,hx,hr]
  refine Ka (v := .tuple #[.bool true, J l[j].1.1, l[j].1.2]) (w' := w') ?_ (hnext j w' hj hn (hF.change i hi hs hh) hs ((hs.block b (Ma hb) (by simpa using hbit)).trans hb)) hw;simp[execOp,hx,hr]
end
end Go.Scarf
