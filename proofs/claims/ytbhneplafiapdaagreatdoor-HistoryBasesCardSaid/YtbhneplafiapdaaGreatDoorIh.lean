/- A part of the proof. -/
import Derived.Test.YtbhneplafiapdaaGreatDoorIv
set_option linter.all false
set_option maxHeartbeats 8000000
set_option maxRecDepth 10000
namespace Go.Scarf
open Go.RowKit
abbrev FactH:=Nat × Nat × (Value->World->Prop)
def PR(S:Nat->Bool)(s:Nat->Value)(w:World)(l:List FactH):Prop:=∀(k:Nat)(f:FactH),l[k]? = some f->S f.1=true->f.2.2 (s f.2.1) w
def IH(w00:World)(sl:List (Nat × Value))(l:List FactH)(S:Nat->Bool)(s:Nat->Value)(w:World):Prop:=AllEq s sl/\Same [] w00 w/\PR S s w l
structure PhH (sl:List (Nat × Value)) (l:List FactH):Prop where
  st:∀f∈l,∀v w w',Same [] w w'->f.2.2 v w->f.2.2 v w'
  di:(decide (l.map (·.2.1)).Nodup&&(decide (l.map (·.1)).Nodup&&sl.all λx=>!(l.map (·.2.1)).contains x.1))=true
theorem X7{α β:Type}{l:List α}{f:α->β}(h:(l.map f).Nodup){a b:α}(ha:a∈l)(hb:b∈l)(e:f a=f b):a=b:=by
  obtain⟨i,hi,rfl⟩:=List.getElem_of_mem ha;obtain⟨j,hj,rfl⟩:=List.getElem_of_mem hb;have:=(List.getElem_inj (xs:=l.map f) (h₀:=by simpa using hi) (h₁:=by simpa using hj) h).1 (by simpa using e);subst this;rfl
theorem BK{s:Nat->Value}{d:Nat}{v:Value}:∀{l:List (Nat × Value)},AllEq s l->(∀x∈l,x.1≠d)->AllEq (Be s d v) l
  | [],_,_=>trivial
  | (e,u)::l,h,hn=>⟨by rw[Lw (hn (e,u) Pa)];exact h.1,BK h.2 λx hx=>hn x (by simp[hx])⟩
section
variable {P:Program}{R:Exit->Act->World->Prop}{n:Nat}{k:Kt}{ops:List Oper}{w00:World}{sl:List (Nat × Value)}{l:List FactH}{S:Nat->Bool}{s:Nat->Value}{w w':World}{i d:Nat}{op:Op}{ty:Nat}{pos:String}{aft:Array Edge}{g:Option (Nat × Bool)}{G:Value->World->Prop}
theorem IH.put(h:IH w00 sl l S s w)(hp:PhH sl l)(k:Nat)(hk:l[k]? = some (i,d,G))(hs:Same [] w w'){v:Value}(hv:G v w'):IH w00 sl l (YB i S) (Be s d v) w':=by
  obtain⟨h1,h2,h3⟩:=h;have hm:(i,d,G)∈l:=List.mem_of_getElem? hk;have hd:=hp.di;rw[Bool.and_eq_true,Bool.and_eq_true,decide_eq_true_eq,decide_eq_true_eq]at hd;refine⟨BK h1 λx hx e=>?_,h2.trans hs,λk' f hf hS=>?_⟩
  ·have := List.all_eq_true.1 hd.2.2 x hx
   have hc:(l.map (·.2.1)).contains x.1=true:=List.contains_iff_mem.2 (nQ.2 ⟨_,hm,e.symm⟩);rw[hc]at this;cases this
  have hfm : f ∈ l := List.mem_of_getElem? hf;by_cases e:f.1=i
  ·obtain rfl := X7 (f := λx : FactH => x.1) hd.2.1 hfm hm e
   show G (Be s d v d) w';rw[Ju];exact hv
  have hS':S f.1=true:=by
    unfold YB at hS;rw[Bool.or_eq_true]at hS;exact hS.resolve_left λh=>e (by simpa using h)
  have hn:f.2.1≠d:=λe'=>e (congrArg (·.1) (X7 (f:=λx:FactH=>x.2.1) hd.1 hfm hm e'));rw[Lw hn];exact hp.st f hfm _ _ _ hs (h3 k' f hf hS')
theorem IH.dep(h:IH w00 sl l S s w)(hd:∀d∈Ak ops i,S d=true)(k:Nat){k' d':Nat}{G':Value->World->Prop}(hk:l[k]? = some (k',d',G'))(hm:(Ak ops i).contains k'=true):G' (s d') w :=
  h.2.2 k _ hk (hd k' (List.contains_iff_mem.1 hm))
theorem Aq(hp:PhH sl l)(k:Nat)(hk:l[k]? = some (i,d,G))(hi:ops[i]? = some ⟨some d,op,ty,pos,aft,g⟩)
    (h:∀S s w,(∀d∈Ak ops i,S d=true)->IH w00 sl l S s w->∃dl v w',AllEq s dl/\(∀s,(execOp (ev n (Kk s dl)) ⟨some d,op,ty,pos,aft,g⟩).run P w=.ok (.value v) w')/\Same [] w w'/\G v w')
    (hw:∀s,Ya ops n s ⟨some d,op,ty,pos,aft,g⟩=true:=by exact λ_=>rfl):B1 P n ops (IH w00 sl l) i:=λS s w hS hd _ hI=>by
  obtain⟨dl,v,w',he,hr,hs,hG⟩:=h S s w hd hI;have hr:=hr s;rw[<-he.eq]at hr;exact SF hi hr (hI.put hp k hk hs hG) (hw s)
theorem ZE(hp:PhH sl l)(k:Nat)(hk:l[k]? = some (i,d,G))(hi:ops[i]? = some ⟨some d,op,ty,pos,aft,g⟩)
    (h:∀S s w,(∀d∈Ak ops i,S d=true)->IH w00 sl l S s w->∃f args w' Qc,Calls P f args w' (Pd Qc)/\(execOp (ev n s) ⟨some d,op,ty,pos,aft,g⟩).run P w=.ok (.enter f args) w'/\∀v w'',Qc v w''->Same [] w w''/\G v w'')
    (hw:∀s,Ya ops n s ⟨some d,op,ty,pos,aft,g⟩=true:=by exact λ_=>rfl):B1 P n ops (IH w00 sl l) i:=λS s w hS hd _ hI=>by
  obtain⟨f,args,w',Qc,hc,hr,hq⟩:=h S s w hd hI;exact MA hi hc hr (λv w'' hQ=>hI.put hp k hk (hq v w'' hQ).1 (hq v w'' hQ).2) (hw s)
theorem IH.start{N:Nat}(hs:AllEq s sl)(h:(l.all λf=>decide (f.1<N))=true):IH w sl l (λi=>!decide (i<N)) s w:=by
  refine⟨hs,Same.refl _ _,λk f hf hS=>?_⟩;have:=of_decide_eq_true (List.all_eq_true.1 h f (List.mem_of_getElem? hf));simp[this]at hS
theorem Pf{Q:Nat->Prop}{m:Nat}(h:∀i,i<m->Q i)(hm:Q m):∀i,i<m+1->Q i:=λi hi=>by
  rcases Nat.lt_or_ge i m with h'|h'
  ·exact h i h'
  obtain rfl : i = m := by omega
  exact hm
theorem SH{Q:Nat->Prop}:∀i,i<0->Q i:=λi hi=>absurd hi (Nat.not_lt_zero i)
end
attribute [local irreducible] B1 NI
end Go.Scarf
