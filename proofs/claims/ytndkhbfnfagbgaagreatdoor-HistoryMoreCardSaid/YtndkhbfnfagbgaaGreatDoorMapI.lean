/- A part of the proof. -/
import Derived.Test.YtndkhbfnfagbgaaGreatDoorE1
set_option linter.all false
set_option maxHeartbeats 8000000
set_option maxRecDepth 10000
namespace Go.Scarf
open Go.RowKit
abbrev MapI:=List (Int × Value)
def entryJ(x:(Int × Value) × Nat):MapEntry:=⟨J x.1.1,x.1.2,x.2⟩
def Ud(l:MapI)(n:Nat):List MapEntry:=(l.zipIdx n).map entryJ
def Sh(l:MapI):Obj:=.map (Ud l 0).toArray l.length
def Py(l:MapI)(k:Int):Option Value:=(l.find? (λx=>decide (x.1=k))).map (·.2)
theorem G6(k:Int):∀(l:MapI)(n i:Nat),Instr.findNow (.int .i64) (J k) (Ud l n) i=some ((l.findIdx? (λx=>decide (x.1=k))).bind λj=>(l[j]?).map λx=>(i+j,x.2))
  | [],n,i=>by simp[Ud,Instr.findNow]
  | x :: l, n, i => by
    have ih:=G6 k l (n+1) (i+1);unfold Ud at ih ⊢;rw[List.zipIdx_cons,List.map_cons,Instr.findNow,List.findIdx?_cons];have hs:Instr.sameNow (.int .i64) (J k) (entryJ (x,n)).key=some (decide (x.1=k)):=by
      simp only[entryJ,Instr.sameNow,if_true]
      congr 1
      by_cases h:k=x.1
      ·simp[h]
      simp[h,show ¬x.1=k from λe=>h e.symm]
    rw[hs];by_cases h:x.1=k
    ·simp[h,entryJ]
    simp only[h, decide_false, Bool.false_eq_true, if_false];rw[ih];cases hf:List.findIdx? (λx=>decide (x.1=k)) l with
    | none=>simp
    | some j=>simp;congr 1;funext y;congr 1;omega
theorem SV(l:MapI)(k:Int):((l.findIdx? (λx=>decide (x.1=k))).bind λj=>l[j]?)=l.find? (λx=>decide (x.1=k)):=by
  induction l with
  | nil=>rfl
  | cons x l ih =>
    rw[List.findIdx?_cons,List.find?_cons];by_cases h:x.1=k
    ·simp[h]
    simp only[h, decide_false, Bool.false_eq_true, if_false];rw[<-ih];cases List.findIdx? (λx=>decide (x.1=k)) l <;> simp
section
variable {P:Program}{R:Exit->Act->World->Prop}{n:Nat}{k:Kt}{s:Nat->Value}{w:World}{ops rest:List Oper}
variable {d:Nat}{ty:TypeId}{pos:String}{aft:Array Edge}{g:Option (Nat × Bool)}
variable {w0:World}{Ds:List Nat}{bs_:List (Nat × Obj)}{ρ:Operand->Value}{dst:Option Nat}
theorem Hs{b:Nat}{l:MapI}(h:w.heap[b]? = some (Sh l)):(getObj b).run P w=.ok (.map (Ud l 0).toArray l.length) w:=by
  simp[getObj,Sem.run,h,Sh]
theorem G9(m:Nat){kt:TypeId}{e:Bool}{x:Int}(hk:P.underlying kt=some (.int .i64)):(Instr.checkKey e (m+1) kt (J x)).run P w=.ok () w:=by
  simp[Instr.checkKey,run_underlying hk]
theorem Xj{kt:TypeId}{e:Bool}{x:Int}(hk:P.underlying kt=some (.int .i64)):(Instr.checkKey e 10000 kt (J x)).run P w=.ok () w:=G9 9999 hk
theorem Aq{kt:TypeId}{l:MapI}{x:Int}(hk:P.underlying kt=some (.int .i64)) :
    (Instr.findKey kt (J x) (Ud l 0)).run P w=.ok ((l.findIdx? (λy=>decide (y.1=x))).bind λj=>(l[j]?).map λy=>(j,y.2)) w:=by
  simp only[Instr.findKey,Sem.run_bind,run_underlying hk,Result.andThen_ok,G6,Nat.zero_add];rfl
theorem Lz(l:MapI)(x:Int):((l.findIdx? (λy=>decide (y.1=x))).bind λj=>(l[j]?).map λy=>(j,y.2)).map (·.2)=Py l x:=by
  unfold Py;rw[<-SV];cases List.findIdx? (λy=>decide (y.1=x)) l with
  | none=>rfl
  | some j=>simp only[Option.bind_some,Option.map_map];rfl
theorem EU{t kt e b:Nat}{x y:Operand}{l:MapI}{key:Int}{z:Value}(ht:P.underlying t=some (.map kt e))(hk:P.underlying kt=some (.int .i64))(hz:∀w,(zeroValue e).run P w=.ok z w)
    (hx:ρ x=.map (some b)) (hy:ρ y=J key) (hb:w.heap[b]? = some (Sh l)) :
    (execOp ρ ⟨dst,.lookup t x y false,ty,pos,aft,g⟩).run P w=.ok (.value ((Py l key).getD z)) w:=by
  have h:=Lz l key;cases hf:((l.findIdx? (λy=>decide (y.1=key))).bind λj=>(l[j]?).map λy=>(j,y.2))with
  | none=>rw[hf]at h;simp only[Option.map_none]at h;rw[<-h];simp[execOp,Instr.lookup,hx,hy,run_underlying ht,Hs hb,Xj hk,Aq hk,hf,hz]
  | some q=>rw[hf]at h;simp only[Option.map_some]at h;rw[<-h];simp[execOp,Instr.lookup,hx,hy,run_underlying ht,Hs hb,Xj hk,Aq hk,hf]
theorem QA(l:MapI)(x:Int × Value)(n:Nat):Ud (l++[x]) n=Ud l n++[⟨J x.1,x.2,n+l.length⟩]:=by
  simp[Ud,List.zipIdx_append,entryJ]
theorem P5{b:Nat}{l:MapI}{o:Obj}(h:w.heap[b]? = some (Sh l))(ho:∃es c,o=.map es c):(setObj b o).run P w=.ok () { w with heap:=w.heap.setIfInBounds b o }:=by
  obtain⟨es,c,rfl⟩:=ho;simp[setObj,Sem.run,h,Sh]
theorem E1{t kt e b:Nat}{x y z:Operand}{l:MapI}{key:Int}{v:Value}(ht:P.underlying t=some (.map kt e))(hk:P.underlying kt=some (.int .i64))
    (hx:ρ x=.map (some b)) (hy:ρ y=J key) (hv:ρ z=v) (hb:w.heap[b]? = some (Sh l)) (hn:Py l key=none) :
    (execOp ρ ⟨dst,.mapUpdate t x y z,ty,pos,aft,g⟩).run P w=.ok .skip { w with heap:=w.heap.setIfInBounds b (Sh (l++[(key,v)])) }:=by
  have h:=Lz l key;rw[hn]at h;have hf:((l.findIdx? (λy=>decide (y.1=key))).bind λj=>(l[j]?).map λy=>(j,y.2))=none:=by
    cases hf:((l.findIdx? (λy=>decide (y.1=key))).bind λj=>(l[j]?).map λy=>(j,y.2))with
    | none=>rfl
    | some q=>rw[hf]at h;cases h
  have ho:Sh (l++[(key,v)])=.map (Ud l 0++[(⟨J key,v,l.length⟩:MapEntry)]).toArray (l.length+1):=by
    simp[Sh,QA]
  have hs:=P5 (P:=P) (o:=Sh (l++[(key,v)])) hb ⟨_,_,rfl⟩;rw[ho]at hs ⊢;simp[execOp,Instr.mapUpdate,hx,hy,hv,run_underlying ht,Hs hb,Xj hk,Aq hk,hf,hs]
theorem NY{t kt e b:Nat}{x:Operand}{l:MapI}(ht:P.underlying t=some (.map kt e))(hx:ρ x=.map (some b))(hb:w.heap[b]? = some (Sh l)) :
    (execOp ρ ⟨dst,.range t x,ty,pos,aft,g⟩).run P w=.ok (.value (.pointer (some ⟨w.heap.size,0,none⟩))) (w.alloc (.mapIter (some b) l.length #[] l.length)):=by
  have hr:=run_range_map (P:=P) w t kt e b (Ud l 0).toArray l.length ht hb;simp[execOp,hx,hr]
theorem Ly(l:MapI)(n:Nat):(Ud l n).map (·.born)=List.range' n l.length:=by
  induction l generalizing n with
  | nil=>rfl
  | cons x l ih =>
    have:=ih (n+1);unfold Ud at this ⊢;rw[List.zipIdx_cons,List.map_cons,List.map_cons,this,kQ,List.range'_succ];rfl
theorem Rj(l:MapI)(n:Nat):(Ud l n).length=l.length:=by simp[Ud]
theorem Tl(l:MapI)(n i:Nat)(h:i<l.length):(Ud l n)[i]'(by rw[Rj];exact h)=⟨J l[i].1,l[i].2,n+i⟩:=by
  simp[Ud,entryJ]
theorem H5(l:MapI):∀x∈(Ud l 0).toArray.toList,x.born<l.length:=by
  intro x hx;have:x.born∈(Ud l 0).map (·.born):=List.mem_map_of_mem (by simpa using hx);rw[Ly]at this;simpa using this
theorem EW{ty:TypeId}{it b:Nat}{l:MapI}{seen:Array Nat}(hi:w.heap[it]? = some (.mapIter (some b) l.length seen l.length))(hb:w.heap[b]? = some (Sh l)) :
    ((∀i,i<l.length->seen.contains i=true)/\(Instr.next (V it) false ty).run P w=.ok (.tuple #[.bool false]) w) \/
    ∃(i : Nat)(h : i<l.length)(w' : World), seen.contains i = false /\ (Instr.next (V it) false ty).run P w = .ok (.tuple #[.bool true, J l[i].1, l[i].2]) w' /\
      Same [it] w w'/\w'.heap[it]? = some (.mapIter (some b) l.length (seen.push i) l.length):=by
  have hb':w.heap[b]? = some (.map (Ud l 0).toArray l.length):=hb;simp only[Instr.next,getObj,Sem.run_bind,Sem.run,hi,hb',Result.andThen,next_test_false seen _ _ _ (H5 l) (gQ _),Bool.false_eq_true,if_false];have hmem:∀x∈(Array.filter (λe=>!seen.contains e.born) (Ud l 0).toArray).toList,x.born<l.length:=λx hx=>H5 l x (by simp at hx ⊢;exact hx.1);generalize hL:Array.filter (λe=>!seen.contains e.born) (Ud l 0).toArray=L at hmem ⊢;have e1:L.filter (λx=>decide (x.born<l.length))=L:=Array.filter_eq_self.2 (λx hx=>by simpa using hmem x (by simpa using hx));have e2:L.filter (λx=>decide (x.born ≥ l.length))=#[]:=by
    rw[Array.filter_eq_empty_iff];intro x hx;have:=hmem x (by simpa using hx);simp;omega
  simp only[e1,e2,Array.append_empty];by_cases h0:L.size=0
  ·left
   have:L=#[]:=Array.eq_empty_of_size_eq_zero h0;subst this;refine⟨λi hi'=>?_,by simp[choose,Sem.run,Question.forced]⟩;rw[Array.filter_eq_empty_iff]at hL;have:=hL (⟨J l[i].1,l[i].2,0+i⟩) (by
     rw[<-Tl l 0 i hi'];simp)
   simpa using this
  right;have hne:L.isEmpty=false:=by simp[Array.isEmpty,h0]
  simp only[hne,Bool.false_eq_true,if_false,Array.empty_append,Array.size_map];have hch:∃(j:Nat)(w1:World),j<L.size/\Same [] w w1/\w1.heap=w.heap/\(choose (Question.mapNext L.size)).run P w=.ok j w1:=by
    by_cases hf:L.size<=1
    ·exact⟨0,w,by omega,Same.refl _ _,O,by simp[choose,Sem.run,Question.forced,hf]⟩
    exact⟨_,w.drew,Nat.mod_lt _ sX,Same.drew w,O,by
      simp only[choose,Sem.run,Question.forced,decide_eq_true_eq,hf,if_false,Question.cut];rfl⟩
  obtain⟨j,w1,hj,hs,hh,hrun⟩:=hch;have hjm:L[j]∈Array.filter (λe=>!seen.contains e.born) (Ud l 0).toArray:=by rw[hL];simp
  have hjm':=Array.mem_filter.1 hjm;have hje:L[j]∈Ud l 0:=by simpa using hjm'.1
  obtain⟨i,hi',he⟩:=List.getElem_of_mem hje;rw[Rj]at hi';rw[Tl l 0 i hi',Nat.zero_add]at he;have hns:seen.contains i=false:=by
    have:=hjm'.2;rw[<-he]at this;simpa using this
  have hset:(setObj it (.mapIter (some b) l.length (seen.push i) l.length)).run P w1=.ok () { w1 with heap:=w1.heap.setIfInBounds it (.mapIter (some b) l.length (seen.push i) l.length) }:=by
    simp[setObj,Sem.run,hh,hi]
  refine⟨i,hi',{ w1 with heap:=w1.heap.setIfInBounds it (.mapIter (some b) l.length (seen.push i) l.length) },hns,?_,(hs.mono Da).trans (Lm w1 it _),?_⟩
  ·simp only[hrun, Array.getElem?_map, Array.getElem?_eq_getElem hj, Option.map_some, Sem.run_bind, <- he, hset, Result.andThen]
   rfl
  have hlt := Ma hi;simp[hh,hlt]
theorem MO{it b i:Nat}{l:MapI}{seen:Array Nat}(h:i<l.length)(hi:w.heap[it]? = some (.mapIter (some b) l.length (seen.push i) l.length))(hb:w.heap[b]? = some (Sh l)) :
    (Instr.entry (V it)).run P w=.ok (.tuple #[J l[i].1,l[i].2]) w:=by
  have hb':w.heap[b]? = some (.map (Ud l 0).toArray l.length):=hb;have hn:((Ud l 0).map (·.born)).Nodup:=by rw[Ly];exact List.nodup_range'
  have hm:(⟨J l[i].1,l[i].2,0+i⟩:MapEntry)∈Ud l 0:=by rw[<-Tl l 0 i h];simp
  have hf:(Ud l 0).toArray.find? (·.born==i)=some ⟨J l[i].1,l[i].2,0+i⟩:=by
    have:=find_born _ _ hn hm;rw[Nat.zero_add]at this ⊢;rw[<-Array.find?_toList];exact this
  simp only[Instr.entry,getObj,Sem.run_bind,Sem.run,hi,hb',Result.andThen,Array.back?_push,bne_self_eq_false,Bool.false_eq_true,if_false,hf];rfl
theorem T_{t kt e b:Nat}{x y:Operand}{l:MapI}{key:Int}{z v:Value}(ht:P.underlying t=some (.map kt e))(hk:P.underlying kt=some (.int .i64))(hz:∀w,(zeroValue e).run P w=.ok z w)
    (hx:ρ x=.map (some b)) (hy:ρ y=J key) (hb:w.heap[b]? = some (Sh l)) (hv:(Py l key).getD z=v) :
    (execOp ρ ⟨dst,.lookup t x y false,ty,pos,aft,g⟩).run P w=.ok (.value v) w:=hv▸EU ht hk hz hx hy hb
theorem W1(i:Nat){t kt e b:Nat}{x y z:Operand}{l:MapI}{key:Int}{v:Value}(hF:FR w0 Ds bs_ w)(ht:P.underlying t=some (.map kt e))(hk:P.underlying kt=some (.int .i64))
    (hx:ev n s x=.map (some b)) (hy:ev n s y=J key) (hv:ev n s z=v) (hi:bs_[i]? = some (b,Sh l)) (hn:Py l key=none)
    (h:∀w',FR w0 Ds (bs_.set i (b,Sh (l++[(key,v)]))) w'->Same [b] w w'->Og P R n ops k rest s w')
    (hw:Vb ops n s ⟨none,.mapUpdate t x y z,ty,pos,aft,g⟩=true:=by rfl):Og P R n ops k (⟨none,.mapUpdate t x y z,ty,pos,aft,g⟩::rest) s w :=
  Z3 (E1 ht hk hx hy hv (hF.heap hi) hn) (h _ (hF.setObj i hi) (Lm w b _)) hw
theorem o_nextJ(i:Nat){x:Operand}{it b:Nat}{l:MapI}{seen:Array Nat}(hF:FR w0 Ds bs_ w)(hx:ev n s x=V it)(hi:bs_[i]? = some (it,.mapIter (some b) l.length seen l.length))(hb:w.heap[b]? = some (Sh l))
    (hend:(∀i,i<l.length->seen.contains i=true)->Og P R n ops k rest (Ng s d (.tuple #[.bool false])) w)
    (hnext:∀j w' (h:j<l.length),seen.contains j=false->FR w0 Ds (bs_.set i (it,.mapIter (some b) l.length (seen.push j) l.length)) w'->Same [it] w w'->w'.heap[b]? = some (Sh l) ->
      Og P R n ops k rest (Ng s d (.tuple #[.bool true,J l[j].1,l[j].2])) w')
    (hw:Vb ops n s ⟨some d,.next x false,ty,pos,aft,g⟩=true:=by rfl):Og P R n ops k (⟨some d,.next x false,ty,pos,aft,g⟩::rest) s w:=by
  have hit:=hF.heap hi;have hbit:b≠it:=by
    rintro rfl;rw[hb]at hit;injection hit with hit
    cases hit
  rcases EW (P:=P) (ty:=ty) hit hb with ⟨hall,hr⟩|⟨j,hj,w',hn,hr,hs,hh⟩
  ·refine Ka (v := .tuple #[.bool false]) (w' := w) ?_ (hend hall) hw
   simp[execOp,hx,hr]
  refine Ka (v := .tuple #[.bool true, J l[j].1, l[j].2]) (w' := w') ?_ (hnext j w' hj hn (hF.change i hi hs hh) hs ((hs.block b (Ma hb) (by simpa using hbit)).trans hb)) hw;simp[execOp,hx,hr]
theorem XW{x:Operand}{it b j:Nat}{l:MapI}{seen:Array Nat}{v:Value}(hx:ρ x=V it)(h:j<l.length)(hi:w.heap[it]? = some (.mapIter (some b) l.length (seen.push j) l.length))(hb:w.heap[b]? = some (Sh l))(hv:l[j].2=v) :
    (execOp ρ ⟨dst,.entry x,ty,pos,aft,g⟩).run P w=.ok (.value (.tuple #[J l[j].1,v])) w:=by
  subst hv;simp[execOp,hx,MO h hi hb]
end
abbrev LN:=List (Int × Nat)
def MI(l:LN)(k:Int)(v:Nat):LN:=match l.findIdx? (λx=>decide (x.1=k))with
  | some i=>l.set i (k,v)
  | none=>l++[(k,v)]
def To(l:LN):MapI:=l.map λx=>(x.1,Value.int .i64 (x.2:Int))
theorem Wu(l:LN):(To l).length=l.length:=by simp[To]
def LastOk(fs:List Int)(j:Nat)(l:LN):Prop:=(l.map (·.1)).Nodup/\∀k v,(k,v)∈l↔v<j/\fs.getD v 0=k/\∀i,v<i->i<j->fs.getD i 0≠k
theorem LastOk.nil(fs:List Int):LastOk fs 0 []:=⟨by simp,λk v=>by simp⟩
theorem VV{l:LN}{k:Int}(h:l.findIdx? (λx=>decide (x.1=k))=none):∀v,(k,v)∉l:=λv hv=>by
  rw[List.findIdx?_eq_none_iff]at h;have:=h _ hv;simp at this
theorem KB{l:LN}{k:Int}{i:Nat}(h:l.findIdx? (λx=>decide (x.1=k))=some i):∃hi:i<l.length,l[i].1=k:=by
  rw[List.findIdx?_eq_some_iff_getElem]at h;obtain⟨hi,h1,-⟩:=h;exact⟨hi,by simpa using h1⟩
theorem CK{l:LN}(hn:(l.map (·.1)).Nodup){i j:Nat}(hi:i<l.length)(hj:j<l.length)(h:l[i].1=l[j].1):i=j:=by
  have hp:=List.pairwise_iff_getElem.1 hn;refine Classical.byContradiction λhne=>?_;rcases Nat.lt_or_gt_of_ne hne with h1|h1
  ·exact hp i j (by simpa using hi) (by simpa using hj) h1 (by simpa using h)
  exact hp j i (by simpa using hj) (by simpa using hi) h1 (by simpa using h.symm)
theorem LastOk.step{fs:List Int}{j:Nat}{l:LN}(h:LastOk fs j l):LastOk fs (j+1) (MI l (fs.getD j 0) j):=by
  obtain⟨hn,hm⟩:=h;unfold MI;cases hf:l.findIdx? (λx=>decide (x.1=fs.getD j 0))with
  | none =>
    have hno:=VV hf;refine⟨?_,λk v=>?_⟩
    ·rw[jQ, List.nodup_append]
     refine⟨hn,by simp,λa ha b hb=>?_⟩;simp only[List.map_cons,List.map_nil,pQ]at hb;subst hb;rintro rfl;obtain⟨x,hx,hxe⟩:=nQ.1 ha;exact hno x.2 (by rw[<-hxe];exact hx)
    rw[mQ, pQ];constructor
    ·rintro (h1|h1)
     ·obtain⟨h2, h3, h4⟩ := (hm k v).1 h1
      refine⟨by omega,h3,λi hi1 hi2=>?_⟩;by_cases e:i=j
      ·subst e;intro e2;subst e2;exact hno v h1
      exact h4 i hi1 sX
     obtain⟨rfl, rfl⟩ := Prod.mk.inj h1;exact⟨by omega,O,λi hi1 hi2=>by omega⟩
    rintro⟨h1, h2, h3⟩;by_cases e:v=j
    ·subst e;exact .inr (by rw[h2])
    exact .inl ((hm k v).2 ⟨by omega,h2,λi hi1 hi2=>h3 i hi1 sX⟩)
  | some i =>
    obtain⟨hi,hik⟩:=KB hf;have hmem:∀k v,(k,v)∈l.set i (fs.getD j 0,j)↔(k=fs.getD j 0/\v=j)\/((k,v)∈l/\k≠fs.getD j 0):=λk v=>by
      rw[List.mem_iff_getElem];constructor
      ·rintro⟨q, hq, he⟩
       rw[List.length_set]at hq;by_cases e:i=q
       ·subst e
        rw[List.getElem_set_self]at he;obtain⟨rfl,rfl⟩:=Prod.mk.inj he;exact .inl ⟨O,O⟩
       rw[List.getElem_set_ne e]at he;refine .inr ⟨by rw[<-he];exact eQ _,λe2=>e ?_⟩;refine CK hn hi hq ?_;rw[hik,he];exact e2.symm
      rintro (⟨rfl, rfl⟩|⟨h1, h2⟩)
      ·exact⟨i,by rw[List.length_set];exact hi,List.getElem_set_self _⟩
      obtain⟨q, hq, he⟩ := List.mem_iff_getElem.1 h1;have e:i≠q:=λe=>by subst e;rw[he]at hik;exact h2 hik
      exact⟨q,by rw[List.length_set];exact hq,by rw[List.getElem_set_ne e];exact he⟩
    refine⟨?_,λk v=>?_⟩
    ·have e:(l.set i (fs.getD j 0,j)).map (·.1)=l.map (·.1):=by
       rw[List.map_set];show (l.map (·.1)).set i (fs.getD j 0)=_;rw[<-hik];have:(l.map (·.1))[i]'(by simpa using hi)=l[i].1:=by simp
       rw[<-this];exact List.set_getElem_self _
     rw[e];exact hn
    rw[hmem];constructor
    ·rintro (⟨rfl, rfl⟩|⟨h1, h2⟩)
     ·exact⟨by omega,O,λq hq1 hq2=>by omega⟩
     obtain⟨h3, h4, h5⟩ := (hm k v).1 h1;refine⟨by omega,h4,λq hq1 hq2=>?_⟩;by_cases e:q=j
     ·subst e;exact λe2=>h2 e2.symm
     exact h5 q hq1 sX
    rintro⟨h1, h2, h3⟩;by_cases e:v=j
    ·subst e;exact .inl ⟨h2.symm,rfl⟩
    exact .inr ⟨(hm k v).2 ⟨by omega,h2,λq hq1 hq2=>h3 q hq1 sX⟩,λe2=>h3 j sX sX e2.symm⟩
theorem Qk{α:Type}[DecidableEq α]{a b:List α}(ha:a.Nodup)(hb:b.Nodup)(h:∀x,x∈a↔x∈b):a.Perm b:=by
  rw[List.perm_iff_count];intro x;by_cases hx:x∈a
  ·rw[List.Nodup.count ha,List.Nodup.count hb,if_pos hx,if_pos ((h x).1 hx)]
  rw[List.count_eq_zero.2 hx,List.count_eq_zero.2 (λhq=>hx ((h x).2 hq))]
theorem LastOk.perm{fs:List Int}{l:LN}(h:LastOk fs fs.length l):(l.map (·.2)).Perm (Xc fs):=by
  obtain⟨hn,hm⟩:=h;refine Qk ?_ ((Vx fs).imp λh=>by omega) λv=>?_
  ·refine List.pairwise_iff_getElem.2 λi j hi hj hij e => ?_
   simp only[List.getElem_map]at e;simp only[rQ]at hi hj;have h1:=(hm l[i].1 l[i].2).1 (eQ hi);have h2:=(hm l[j].1 l[j].2).1 (eQ hj);have:l[i].1=l[j].1:=by rw[<-h1.2.1,<-h2.2.1,e]
   have:=CK hn hi hj this;omega
  rw[Li];constructor
  ·intro hv
   obtain⟨x,hx,rfl⟩:=nQ.1 hv;obtain⟨h1,h2,h3⟩:=(hm x.1 x.2).1 hx;exact⟨h1,λq hq1 hq2=>by rw[h2];exact h3 q hq2 hq1⟩
  rintro⟨h1, h2⟩;exact nQ.2 ⟨(fs.getD v 0,v),(hm _ _).2 ⟨h1,O,λq hq1 hq2=>h2 q hq2 hq1⟩,O⟩
theorem AJ{fs:List Int}{vs:List Nat}(h:vs.Perm (Xc fs)):(vs.map λi:Nat=>(i:Int)).mergeSort (λx y=>decide (x<=y))=(Xc fs).map λi:Nat=>(i:Int):=by
  have hp:((vs.map λi:Nat=>(i:Int)).mergeSort (λx y=>decide (x<=y))).Perm ((Xc fs).map λi:Nat=>(i:Int)):=(List.mergeSort_perm _ _).trans (h.map _);refine hp.eq_of_pairwise (le:=λx y=>x<=y) (λa b _ _ h1 h2=>by omega) ?_ ?_
  ·have := List.pairwise_mergeSort (le := λ(x y : Int) => decide (x <= y)) (λa b c h1 h2 => by simp only[decide_eq_true_eq]at *;omega) (λa b => by simp only[Bool.or_eq_true, decide_eq_true_eq];omega) (vs.map λi : Nat => (i : Int))
   exact this.imp λh=>by simpa using h
  exact List.pairwise_map.2 ((Vx fs).imp λh=>by omega)
theorem OS{l:LN}{seen:List Nat}(hn:seen.Nodup)(hl:∀i∈seen,i<l.length)(ha:∀i,i<l.length->i∈seen):(seen.map λi=>(l.getD i (0,0)).2).Perm (l.map (·.2)):=by
  have hp:seen.Perm (List.range l.length):=Qk hn List.nodup_range λx=>⟨λh=>List.mem_range.2 (hl x h),λh=>ha x (List.mem_range.1 h)⟩;refine (hp.map _).trans ?_;have e:(List.range l.length).map (λi=>(l.getD i (0,0)).2)=l.map (·.2):=by
    apply List.ext_getElem Da;intro i h1 h2;simp only[rQ,List.length_range]at h1;simp[List.getD,h1]
  rw[e]
section
variable {P:Program}{R:Exit->Act->World->Prop}{n:Nat}{k:Kt}{s:Nat->Value}{w:World}{ops rest:List Oper}
variable {d:Nat}{ty:TypeId}{pos:String}{aft:Array Edge}{g:Option (Nat × Bool)}
variable {w0:World}{Ds:List Nat}{bs_:List (Nat × Obj)}{ρ:Operand->Value}{dst:Option Nat}
theorem Rw{t kt e:Nat}(ht:P.underlying t=some (.map kt e)) :
    (execOp ρ ⟨dst,.makeMap t none,ty,pos,aft,g⟩).run P w=.ok (.value (.map (some w.heap.size))) (w.alloc (Sh [])):=by
  simp[execOp,Instr.makeMap,run_underlying ht,newObj,Sem.run,Sh,Ud]
theorem TE(l:LN){i v:Nat}{key:Int}(hi:i<l.length) :
    ((Ud (To l) 0).toArray.modify i λe=>{ e with key:=J key,val:=J (v:Int) })=(Ud (To (l.set i (key,v))) 0).toArray:=by
  apply Array.ext
  ·simp[Rj,To]
  intro q h1 h2;have hq:q<l.length:=by simpa[Rj,To]using h1
  have hq1:q<(To l).length:=by rw[Wu];exact hq
  have hq2:q<(To (l.set i (key,v))).length:=by rw[Wu,List.length_set];exact hq
  have e1:=Tl (To l) 0 q hq1;have e2:=Tl (To (l.set i (key,v))) 0 q hq2;rw[Array.getElem_modify];simp only[List.getElem_toArray,e1,e2];by_cases e:i=q
  ·subst e
   rw[if_pos rfl];simp[To]
  rw[if_neg e];simp[To,List.getElem_set_ne e]
theorem OK(l:LN)(key:Int):(To l).findIdx? (λy=>decide (y.1=key))=l.findIdx? (λx=>decide (x.1=key)):=by
  unfold To;rw[List.findIdx?_map];rfl
theorem GZ{t kt e b:Nat}{x y z:Operand}{l:LN}{key:Int}{v:Nat}(ht:P.underlying t=some (.map kt e))(hk:P.underlying kt=some (.int .i64))
    (hx:ρ x=.map (some b)) (hy:ρ y=J key) (hv:ρ z=J (v:Int)) (hb:w.heap[b]? = some (Sh (To l))) :
    (execOp ρ ⟨dst,.mapUpdate t x y z,ty,pos,aft,g⟩).run P w=.ok .skip { w with heap:=w.heap.setIfInBounds b (Sh (To (MI l key v))) }:=by
  unfold MI;cases hf:l.findIdx? (λx=>decide (x.1=key))with
  | none =>
    have hn:Py (To l) key=none:=by
      rw[<-Lz,OK,hf];rfl
    have:=E1 (dst:=dst) (ty:=ty) (pos:=pos) (aft:=aft) (g:=g) ht hk hx hy hv hb hn;rw[this];simp[To]
  | some i =>
    obtain⟨hi,hik⟩:=KB hf;have hfk:((To l).findIdx? (λy=>decide (y.1=key))).bind (λj=>((To l)[j]?).map λy=>(j,y.2))=some (i,J (l[i].2:Int)):=by
      rw[OK,hf];simp[To,hi]
    have hs:=P5 (P:=P) (o:=Sh (To (l.set i (key,v)))) hb ⟨_,_,rfl⟩;have ho:Sh (To (l.set i (key,v)))=.map ((Ud (To l) 0).toArray.modify i λe=>{ e with key:=J key,val:=J (v:Int) }) (To l).length:=by
      rw[TE l hi,Sh];simp[To]
    rw[ho]at hs ⊢;have hes:(((Ud (To l) 0).toArray[i]?).map (·.key)).getD (J key)=J key:=by
      have e1:=Tl (To l) 0 i (by rw[Wu];exact hi);rw[List.getElem?_toArray,List.getElem?_eq_getElem (by rw[Rj,Wu];exact hi),e1];simp[To,hik]
    have hkt:(Instr.keyThatStays (J key) (J key)).run P w=.ok (J key) w:=by
      simp[Instr.keyThatStays,Instr.sameBits]
    simp only[execOp,Instr.mapUpdate,hx,hy,hv,Sem.run_bind,run_underlying ht,Hs hb,Xj hk,Aq hk,Result.andThen,hfk,hes,hkt,hs];rfl
theorem QY(i:Nat){t kt e b:Nat}{x y z:Operand}{l:LN}{key:Int}{v:Nat}(hF:FR w0 Ds bs_ w)(ht:P.underlying t=some (.map kt e))(hk:P.underlying kt=some (.int .i64))
    (hx:ev n s x=.map (some b)) (hy:ev n s y=J key) (hv:ev n s z=J (v:Int)) (hi:bs_[i]? = some (b,Sh (To l)))
    (h:∀w',FR w0 Ds (bs_.set i (b,Sh (To (MI l key v)))) w'->Same [b] w w'->Og P R n ops k rest s w')
    (hw:Vb ops n s ⟨none,.mapUpdate t x y z,ty,pos,aft,g⟩=true:=by rfl):Og P R n ops k (⟨none,.mapUpdate t x y z,ty,pos,aft,g⟩::rest) s w :=
  Z3 (GZ ht hk hx hy hv (hF.heap hi)) (h _ (hF.setObj i hi) (Lm w b _)) hw
end
end Go.Scarf
