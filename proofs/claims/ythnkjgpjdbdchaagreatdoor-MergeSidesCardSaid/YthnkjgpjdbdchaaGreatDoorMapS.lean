/- A part of the proof. -/
import Derived.Test.YthnkjgpjdbdchaaGreatDoorMore
set_option linter.all false
set_option maxHeartbeats 8000000
set_option maxRecDepth 10000
namespace Go.Scarf
open Go.RowKit
def F8(l:MapL)(k:Str)(v:Value):MapL:=match l.findIdx? (λx=>decide (x.1=k))with
  | some i=>l.set i (k,v)
  | none=>l++[(k,v)]
theorem CA{l:MapL}{k:Str}{i:Nat}(h:l.findIdx? (λx=>decide (x.1=k))=some i):∃hi:i<l.length,l[i].1=k:=by
  obtain⟨hi,h1,-⟩:=List.findIdx?_eq_some_iff_getElem.1 h;exact⟨hi,by simpa using h1⟩
theorem Jn(x:Str × Value)(l:MapL)(k:Str):Rg (x::l) k=if x.1=k then some x.2 else Rg l k:=by
  unfold Rg;rw[List.find?_cons];by_cases h:x.1=k <;> simp[h]
theorem FC(v:Value)(k k':Str):∀l:MapL,Rg (F8 l k v) k'=if k=k' then some v else Rg l k'
  | [] => by
    have e:F8 [] k v=[(k,v)]:=rfl;rw[e,Jn]
  | x :: l => by
    have ih:=FC v k k' l;unfold F8 at ih ⊢;rw[List.findIdx?_cons];by_cases h:x.1=k
    ·simp only[h, decide_true, if_true, List.set_cons_zero]
     rw[Jn,Jn];by_cases h2:k=k'
     ·rw[if_pos h2,if_pos h2]
     rw[if_neg h2,if_neg h2,if_neg (λe=>h2 (h▸e))]
    simp only[h, decide_false, Bool.false_eq_true, if_false];cases hf:l.findIdx? (λx=>decide (x.1=k))with
    | none =>
      rw[hf]at ih;simp only[Option.map_none,List.cons_append]at ih ⊢;rw[Jn,ih,Jn];by_cases h2:x.1=k'
      ·rw[if_pos h2,if_neg (λe=>h (h2.trans e.symm)),if_pos h2]
      rw[if_neg h2,if_neg h2]
    | some i =>
      rw[hf]at ih;simp only[Option.map_some,List.set_cons_succ]at ih ⊢;rw[Jn,ih,Jn];by_cases h2:x.1=k'
      ·rw[if_pos h2,if_neg (λe=>h (h2.trans e.symm)),if_pos h2]
      rw[if_neg h2,if_neg h2]
section
variable {P:Program}{R:Exit->Act->World->Prop}{n:Nat}{k:Kt}{s:Nat->Value}{w:World}{ops rest:List Oper}
variable {d:Nat}{ty:TypeId}{pos:String}{aft:Array Edge}{g:Option (Nat × Bool)}
variable {w0:World}{Ds:List Nat}{bs_:List (Nat × Obj)}{ρ:Operand->Value}{dst:Option Nat}
theorem GI(l:MapL){i:Nat}{v:Value}{key:Str}(hi:i<l.length) :
    ((Hc l 0).toArray.modify i λe=>{ e with key:=I key,val:=v })=(Hc (l.set i (key,v)) 0).toArray:=by
  apply Array.ext
  ·simp[Gh]
  intro q h1 h2;have hq:q<l.length:=by simpa[Gh]using h1
  have hq2:q<(l.set i (key,v)).length:=by rw[List.length_set];exact hq
  have e1:=Qn l 0 q hq;have e2:=Qn (l.set i (key,v)) 0 q hq2;rw[Array.getElem_modify];simp only[List.getElem_toArray,e1,e2];by_cases e:i=q
  ·subst e
   rw[if_pos rfl];simp
  rw[if_neg e];simp[List.getElem_set_ne e]
theorem SU{t kt e b:Nat}{x y z:Operand}{l:MapL}{key:Str}{v:Value}(ht:P.underlying t=some (.map kt e))(hk:P.underlying kt=some .string)
    (hx:ρ x=.map (some b)) (hy:ρ y=I key) (hv:ρ z=v) (hb:w.heap[b]? = some (Zf l)) :
    (execOp ρ ⟨dst,.mapUpdate t x y z,ty,pos,aft,g⟩).run P w=.ok .skip { w with heap:=w.heap.setIfInBounds b (Zf (F8 l key v)) }:=by
  unfold F8;cases hf:l.findIdx? (λx=>decide (x.1=key))with
  | none =>
    have hn:Rg l key=none:=by rw[<-Ht,hf];rfl
    exact F5 ht hk hx hy hv hb hn
  | some i =>
    obtain⟨hi,hik⟩:=CA hf;have hfk:(l.findIdx? (λy=>decide (y.1=key))).bind (λj=>(l[j]?).map λy=>(j,y.2))=some (i,l[i].2):=by
      rw[hf];simp[hi]
    have hs:=M9 (P:=P) (o:=Zf (l.set i (key,v))) hb ⟨_,_,rfl⟩;have ho:Zf (l.set i (key,v))=.map ((Hc l 0).toArray.modify i λe=>{ e with key:=I key,val:=v }) l.length:=by
      rw[GI l hi,Zf];simp
    rw[ho]at hs ⊢;have hes:(((Hc l 0).toArray[i]?).map (·.key)).getD (I key)=I key:=by
      have e1:=Qn l 0 i hi;rw[List.getElem?_toArray,List.getElem?_eq_getElem (by rw[Gh];exact hi),e1];show Value.string (bs l[i].1)=_;rw[hik]
    have hkt:(Instr.keyThatStays (I key) (I key)).run P w=.ok (I key) w:=by
      simp[Instr.keyThatStays,Instr.sameBits,SQ]
    simp only[execOp,Instr.mapUpdate,hx,hy,hv,Sem.run_bind,run_underlying ht,Hn hb,Hm hk,Un hk,Result.andThen,hfk,hes,hkt,hs];rfl
theorem BV(i:Nat){t kt e b:Nat}{x y z:Operand}{l:MapL}{key:Str}{v:Value}(hF:FR w0 Ds bs_ w)(ht:P.underlying t=some (.map kt e))(hk:P.underlying kt=some .string)
    (hx:ev n s x=.map (some b)) (hy:ev n s y=I key) (hv:ev n s z=v) (hi:bs_[i]? = some (b,Zf l))
    (h:∀w',FR w0 Ds (bs_.set i (b,Zf (F8 l key v))) w'->Same [b] w w'->Og P R n ops k rest s w')
    (hw:Ub ops n s ⟨none,.mapUpdate t x y z,ty,pos,aft,g⟩=true:=by rfl):Og P R n ops k (⟨none,.mapUpdate t x y z,ty,pos,aft,g⟩::rest) s w :=
  J4 (SU ht hk hx hy hv (hF.heap hi)) (h _ (hF.setObj i hi) (Cq w b _)) hw
end
end Go.Scarf
