/- A part of the proof. -/
import Derived.OwnWalkIn
import Derived.RangeFuncNested
import Derived.RangeFuncCalls
import Derived.RangeFuncLeaves
import Derived.Test.YtidlkjpohhbbcaaGreatDoorMore
set_option linter.all false
set_option maxHeartbeats 8000000
set_option maxRecDepth 10000
namespace Go.Scarf.Fn
open Go.RowKit Go.Scarf
def Fw(r:Option Nat):Fence:={ Fence.wide with round:=r }
theorem Fw.none:Fw none=Fence.wide:=rfl
theorem Fw.some(l:Nat):Fw (some l)=Fence.wide.inRound l:=rfl
theorem Iy{r:Option Nat}{m:Nat}{P:Program}{f:FuncId}{args:Array Value}{w:World}{Q:Ending->World->Prop}(h:Calls P f args w Q):CallsIn (Fw r) m P f args w Q:=by
  have h1:CallsIn Fence.wide m P f args w Q:=callsIn_wide.2 h;exact h1
def Ix(n:Nat)(s:Nat->Value)(ds:List Deferred):Act:=⟨Array.ofFn (n:=n) λi=>s i.val,ds⟩
theorem Dn(n:Nat)(s:Nat->Value)(ds:List Deferred):(Ix n s ds).eval=ev n s:=by
  rw[<-Ik n s];rfl
theorem Hv(n:Nat)(s:Nat->Value)(ds:List Deferred)(d:Option Nat)(v:Value):(Ix n s ds).put d v=Ix n (J0 s d v) ds:=by
  have h:=Gj n s d v;cases d with
  | none=>rfl
  | some d =>
    simp only[Act.put,Jl,Ix,Act.mk.injEq,and_true]at h ⊢;exact h
def post(r:Option Nat)(m:Nat)(ds:List Deferred)(P:Program)(R:Exit->Act->World->Prop)(n:Nat):Kt->Exit->Act->World->Prop
  | .done=>R
  | .seq y k=>Exit.then (y.wpIn (Fw r) m P (post r m ds P R n k)) (post r m ds P R n k)
  | .block id k=>Exit.inBlock id (post r m ds P R n k)
  | .inv n' I k=>Exit.then (λa w=>∃s,a=Ix n' s ds/\I s w) (post r m ds P R n k)
section
variable (r:Option Nat)(m:Nat)(ds:List Deferred)(P:Program)(R:Exit->Act->World->Prop)(n:Nat)
def Cg(c:Code)(k:Kt)(s:Nat->Value)(w:World):Prop:=c.wpIn (Fw r) m P (post r m ds P R n k) (Ix n s ds) w
def Eg(e:Exit)(k:Kt)(s:Nat->Value)(w:World):Prop:=post r m ds P R n k e (Ix n s ds) w
def Og(ops:List Oper)(k:Kt)(rest:List Oper)(s:Nat->Value)(w:World):Prop:=wpListIn (Fw r) m P ops.toArray (post r m ds P R n k) rest (Ix n s ds) w
end
section
variable {r:Option Nat}{m:Nat}{ds:List Deferred}{P:Program}{R:Exit->Act->World->Prop}{n:Nat}{k:Kt}{s:Nat->Value}{w:World}
theorem Fa{x y:Code}(h:Cg r m ds P R n x (.seq y k) s w):Cg r m ds P R n (.seq x y) k s w:=wpIn_seq h
theorem Sa{id:Nat}{c:Code}(h:Cg r m ds P R n c (.block id k) s w):Cg r m ds P R n (.block id c) k s w:=wpIn_block h
theorem Na(h:Eg r m ds P R n .normal k s w):Cg r m ds P R n .skip k s w:=wpIn_skip h
theorem Xa(h:Eg r m ds P R n .ret k s w):Cg r m ds P R n .ret k s w:=wpIn_ret h
theorem Ic{id:Nat}(h:Eg r m ds P R n (.exit id) k s w):Cg r m ds P R n (.exit id) k s w:=wpIn_exit h
theorem Ja{id:Nat}{l:List Oper}(h:Og r m ds P R n l k l s w):Cg r m ds P R n (.region id l.toArray false) k s w:=wpIn_region_lit h
theorem Od{c:Operand}{x y:Code}(hc:ev n s c=.bool true)(h:Cg r m ds P R n x k s w):Cg r m ds P R n (.cond c x y) k s w:=wpIn_cond_true (by rw[Dn];exact hc) h
theorem Te{c:Operand}{x y:Code}(hc:ev n s c=.bool false)(h:Cg r m ds P R n y k s w):Cg r m ds P R n (.cond c x y) k s w:=wpIn_cond_false (by rw[Dn];exact hc) h
theorem Ga{y:Code}(h:Cg r m ds P R n y k s w):Eg r m ds P R n .normal (.seq y k) s w:=h
theorem Wa{id:Nat}(h:Eg r m ds P R n .normal k s w):Eg r m ds P R n .normal (.block id k) s w:=h
theorem Qb{I:(Nat->Value)->World->Prop}(h:I s w):Eg r m ds P R n .normal (.inv n I k) s w:=⟨s,rfl,h⟩
theorem Kg(h:R .normal (Ix n s ds) w):Eg r m ds P R n .normal .done s w:=h
theorem Va:∀{k:Kt},R .ret (Ix n s ds) w->Eg r m ds P R n .ret k s w
  | .done,h=>h
  | .seq _ k,h=>Va (k:=k) h
  | .block _ k,h=>Va (k:=k) h
  | .inv _ _ k,h=>Va (k:=k) h
theorem Ec{id:Nat}:∀{k k':Kt},k.out id=some k'->Eg r m ds P R n .normal k' s w->Eg r m ds P R n (.exit id) k s w
  | .done,_,h,_=>by cases h
  | .seq _ k,_,h,g=>Ec (k:=k) h g
  | .block id' k, k', h, g => by
    simp only[Kt.out]at h;show (if id=id' then post r m ds P R n k .normal (Ix n s ds) w else post r m ds P R n k (.exit id) (Ix n s ds) w);by_cases hid:id'=id
    ·rw[if_pos hid]at h;rw[if_pos hid.symm]
     cases h;exact g
    rw[if_neg hid]at h;rw[if_neg (λe => hid e.symm)];exact Ec (k:=k) h g
  | .inv _ _ k,_,h,g=>Ec (k:=k) h g
theorem Rc{c:Code}(I:Nat->(Nat->Value)->World->Prop)(j0:Nat)(h0:I j0 s w)
    (round:∀j s w,I j s w->Cg r m ds P R n c (.inv n (λs' w'=>∃j',j'<j/\I j' s' w') k) s w):Cg r m ds P R n (.loop c) k s w:=by
  intro b kk cs hro hb hr;have key:∀j s w,I j s w->∃e a' w',post r m ds P R n k e a' w'/\ArrivesIn (Machine.fenced P (Fw r)) P (lone (b.atR (Ix n s ds) (.code c::.inLoop c::kk)) cs w) b kk cs e a' w':=by
    intro j
    induction j using Nat.strongRecOn with
    | _ j ih =>
      intro s w hI;obtain⟨e,a₁,w₁,hq,harr⟩:=round j s w hI b (.inLoop c::kk) cs hro hb hr;cases e with
      | normal =>
        obtain⟨s₁,rfl,j',hlt,hI₁⟩:=hq;obtain⟨e₂,a₂,w₂,hq₂,harr₂⟩:=ih j' hlt s₁ w₁ hI₁;exact⟨e₂,a₂,w₂,hq₂,.of_steps (StepsIn.trans harr (.one (fenced_calm hb hr O) stepR_inLoop)) harr₂⟩
      | exit id=>exact⟨_,a₁,w₁,hq,.pass (x:=.inLoop c) rfl (λ_ _=>.inl (by simp)) harr⟩
      | goto l=>exact⟨_,a₁,w₁,hq,.pass (x:=.inLoop c) rfl (λ_ _=>.inl (by simp)) harr⟩
      | ret=>exact⟨_,a₁,w₁,hq,.pass (x:=.inLoop c) rfl (λ_ _=>.inl (by simp)) harr⟩
      | panic ch=>exact⟨_,a₁,w₁,hq,.pass (x:=.inLoop c) rfl (λ_ _=>.inl (by simp)) harr⟩
      | outgrown=>exact⟨_,a₁,w₁,hq,.pass (x:=.inLoop c) rfl (λ_ _=>.inl (by simp)) harr⟩
  obtain⟨e,a',w',hq,harr⟩:=key j0 s w h0;exact⟨e,a',w',hq,.of_steps (.one (fenced_calm hb hr O) stepR_loop) harr⟩
variable {ops rest:List Oper}{o:Oper}
theorem Eb(h:Eg r m ds P R n .normal k s w):Og r m ds P R n ops k [] s w:=h
variable {d:Nat}{dst:Option Nat}{op:Op}{ty:TypeId}{pos:String}{aft:Array Edge}{g:Option (Nat × Bool)}
theorem wanted_eq(ops:List Oper)(n:Nat)(s:Nat->Value)(o:Oper):Region.wanted o (yielded ops.toArray (Ix n s ds).tmps)=Ya ops n s o:=Go.Scarf.wanted_eq ops n s o
theorem Tx(ρ:Operand->Value)(o:Oper)(h:∀c,o.op≠.defer c):o.semAt (Fw r).round ρ=execOp ρ o:=Oper.semAt_plain (Fw r) ρ o h
theorem QA{ρ:Operand->Value}{o:Oper}{x:Next}{w w':World}(h:(execOp ρ o).run P w=.ok x w')(hx:∀d,x≠.defer d):∀c,o.op≠.defer c:=λc hc=>by
  obtain⟨dst,op,ty,pos,aft,g⟩:=o;subst hc;have e:execOp ρ ⟨dst,.defer c,ty,pos,aft,g⟩=(do let d <-resolve ρ c ty;pure (Next.defer d)):=rfl;rw[e,Sem.run_bind]at h;cases hr:(resolve ρ c ty).run P w with
  | ok d w1=>rw[hr]at h;simp[Result.andThen]at h;exact hx d h.1.symm
  | halt a b=>rw[hr]at h;simp[Result.andThen]at h
theorem TK{v:Value}{w':World}(hrun:(execOp (ev n s) o).run P w=.ok (.value v) w')(h:Og r m ds P R n ops k rest (J0 s o.dst v) w')(hw:Ya ops n s o=true) :
    Og r m ds P R n ops k (o::rest) s w:=by
  unfold Og wpListIn;rw[wanted_eq,if_pos hw];refine⟨λ_ _=>trivial,?_⟩;rw[Dn,Tx _ _ (QA hrun λ_ h=>(by cases h)),hrun,Oper.uponIn_value,Hv];exact h
theorem og_unit{w':World}(hrun:(execOp (ev n s) o).run P w=.ok .skip w')(h:Og r m ds P R n ops k rest (J0 s o.dst undef) w')(hw:Ya ops n s o=true) :
    Og r m ds P R n ops k (o::rest) s w:=by
  unfold Og wpListIn;rw[wanted_eq,if_pos hw];refine⟨λ_ _=>trivial,?_⟩;rw[Dn,Tx _ _ (QA hrun λ_ h=>(by cases h)),hrun,Oper.uponIn_skip,Hv];exact h
theorem Ia{v:Value}{w':World}(hrun:(execOp (ev n s) ⟨some d,op,ty,pos,aft,g⟩).run P w=.ok (.value v) w')(h:Og r m ds P R n ops k rest (Pe s d v) w')(hw:Ya ops n s ⟨some d,op,ty,pos,aft,g⟩=true:=by rfl) :
    Og r m ds P R n ops k (⟨some d,op,ty,pos,aft,g⟩::rest) s w:=TK hrun h hw
theorem S7{w':World}(hrun:(execOp (ev n s) ⟨none,op,ty,pos,aft,g⟩).run P w=.ok .skip w')(h:Og r m ds P R n ops k rest s w')(hw:Ya ops n s ⟨none,op,ty,pos,aft,g⟩=true:=by rfl) :
    Og r m ds P R n ops k (⟨none,op,ty,pos,aft,g⟩::rest) s w:=og_unit hrun h hw
theorem Ha(h:Og r m ds P R n ops k rest (Pe s d undef) w)(hw:Ya ops n s ⟨some d,op,ty,pos,aft,g⟩=false:=by rfl):Og r m ds P R n ops k (⟨some d,op,ty,pos,aft,g⟩::rest) s w:=by
  unfold Og wpListIn;rw[wanted_eq,hw,Hv];exact⟨λ_ _=>trivial,h⟩
theorem S6{f:FuncId}{args:Array Value}{w':World}{Q:Value->World->Prop}(hrun:(execOp (ev n s) o).run P w=.ok (.enter f args) w')(hc:Calls P f args w' (Oc Q))
    (h:∀v w'',Q v w''->Og r m ds P R n ops k rest (J0 s o.dst v) w'') (hw:Ya ops n s o=true):Og r m ds P R n ops k (o::rest) s w:=by
  unfold Og wpListIn;rw[wanted_eq,if_pos hw];refine⟨λ_ _=>trivial,?_⟩;rw[Dn,Tx _ _ (QA hrun λ_ h=>(by cases h)),hrun,Oper.uponIn_enter];refine⟨λh=>(by cases h),(Iy hc).mono λe w'' ⟨v,he,hq⟩=>?_⟩;subst he;show wpListIn (Fw r) m P ops.toArray (post r m ds P R n k) rest ((Ix n s ds).put o.dst v) w'';rw[Hv];exact h v w'' hq
theorem Ta{f:FuncId}{args:Array Value}{w':World}{Q:Value->World->Prop}(hc:Calls P f args w' (Oc Q))(hrun:(execOp (ev n s) ⟨some d,op,ty,pos,aft,g⟩).run P w=.ok (.enter f args) w')
    (h:∀v w'',Q v w''->Og r m ds P R n ops k rest (Pe s d v) w'') (hw:Ya ops n s ⟨some d,op,ty,pos,aft,g⟩=true:=by rfl):Og r m ds P R n ops k (⟨some d,op,ty,pos,aft,g⟩::rest) s w:=S6 hrun hc h hw
theorem M3{l:Nat}{args:Array Operand}{ats:Array TypeId}{x:Operand}{vs:Array Value}{Rd:Ending->World->Prop}(hY:YieldAt (Fw r) (m-1) P l vs w Rd)
    (hrun:∀{fn:FuncId}{tmps:Array Value}{as_ body:Code},(Instr.yield l vs).run P w=.ok (.round l fn tmps as_ body) w->(execOp (ev n s) ⟨some d,.call ⟨.value x,args,ats⟩,ty,pos,aft,g⟩).run P w=.ok (.round l fn tmps as_ body) w)
    (h:∀e w',Rd e w'->∃v,e=.returned v/\Og r m ds P R n ops k rest (Pe s d v) w') (hw:Ya ops n s ⟨some d,.call ⟨.value x,args,ats⟩,ty,pos,aft,g⟩=true:=by rfl):Og r m ds P R n ops k (⟨some d,.call ⟨.value x,args,ats⟩,ty,pos,aft,g⟩::rest) s w:=by
  obtain⟨fn,tmps,as_,body,hy,hR⟩:=hY;unfold Og wpListIn;rw[wanted_eq,if_pos hw];refine⟨λ_ _=>trivial,?_⟩;rw[Dn,Tx _ _ (by intro c h;cases h),hrun hy,Oper.uponIn_round];refine⟨λh=>(by cases h),hR.mono λe w' he=>?_⟩;obtain⟨v,rfl,hg⟩:=h e w' he;show wpListIn (Fw r) m P ops.toArray (post r m ds P R n k) rest ((Ix n s ds).put (some d) v) w';rw[Hv];exact hg
theorem Cg.slots{c:Code}{l:List (Nat × Value)}(hs:AllEq s l)(h:∀s',Cg r m ds P R n c k (Ll s' l) w):Cg r m ds P R n c k s w:=by
  have:=h s
  rwa [<-hs.eq]at this
theorem Eg.slots{e:Exit}{l:List (Nat × Value)}(hs:AllEq s l)(h:∀s',Eg r m ds P R n e k (Ll s' l) w):Eg r m ds P R n e k s w:=by
  have:=h s
  rwa [<-hs.eq]at this
theorem Je{b:Bool}(hx:s d=.bool b)(ht:b=true->Og r m ds P R n ops k rest (Pe s d (.bool true)) w)(hf:b=false->Og r m ds P R n ops k rest (Pe s d (.bool false)) w):Og r m ds P R n ops k rest s w :=
  Gp (F:=λs=>Og r m ds P R n ops k rest s w) hx ht hf
theorem Wb{p:Prop}{_:Decidable p}(hx:s d=.bool (decide p))(ht:p->Og r m ds P R n ops k rest (Pe s d (.bool true)) w)(hf:¬p->Og r m ds P R n ops k rest (Pe s d (.bool false)) w):Og r m ds P R n ops k rest s w :=
  Je hx (λh=>ht (of_decide_eq_true h)) (λh=>hf (of_decide_eq_false h))
theorem Oz{c:Code}{b:Bool}(hx:s d=.bool b)(ht:b=true->Cg r m ds P R n c k (Pe s d (.bool true)) w)(hf:b=false->Cg r m ds P R n c k (Pe s d (.bool false)) w):Cg r m ds P R n c k s w :=
  Gp (F:=λs=>Cg r m ds P R n c k s w) hx ht hf
theorem Z6{c:Code}{p:Prop}{_:Decidable p}(hx:s d=.bool (decide p))(ht:p->Cg r m ds P R n c k (Pe s d (.bool true)) w)(hf:¬p->Cg r m ds P R n c k (Pe s d (.bool false)) w):Cg r m ds P R n c k s w :=
  Oz hx (λh=>ht (of_decide_eq_true h)) (λh=>hf (of_decide_eq_false h))
variable {w0:World}{Ds:List Nat}{bs bs_ bs':List (Nat × Obj)}{i:Nat}{v:Value}{x y:Code}
theorem Vn{t:TypeId}{x:Operand}{v:Value}{cs:Array Value}(hF:FR w0 Ds bs w)(hx:ev n s x=v)(hv:v.cells=cs)
    (h:∀b w',b=w.heap.size->FR w0 Ds ((b,.cells cs t)::bs) w'->Same [] w w'->Og r m ds P R n ops k rest (Pe s d (V b)) w')
    (hw:Ya ops n s ⟨some d,.box t x,ty,pos,aft,g⟩=true:=by rfl):Og r m ds P R n ops k (⟨some d,.box t x,ty,pos,aft,g⟩::rest) s w :=
  Ia (x_box hx) (h _ _ rfl (by subst hv;exact hF.alloc _) (Same.alloc w _)) hw
theorem Gc{t:TypeId}{z:Value}{cs:Array Value}(hF:FR w0 Ds bs w)(hz:∀w,(zeroValue t).run P w=.ok z w)(hv:z.cells=cs)
    (h:∀b w',b=w.heap.size->FR w0 Ds ((b,.cells cs t)::bs) w'->Same [] w w'->Og r m ds P R n ops k rest (Pe s d (V b)) w')
    (hw:Ya ops n s ⟨some d,.alloc t,ty,pos,aft,g⟩=true:=by rfl):Og r m ds P R n ops k (⟨some d,.alloc t,ty,pos,aft,g⟩::rest) s w :=
  Ia (Ei hz) (h _ _ rfl (by subst hv;exact hF.alloc _) (Same.alloc w _)) hw
theorem Gh(i:Nat){t:TypeId}{x y:Operand}{v:Value}{l:List Value}{b off:Nat}{cs cs':Array Value}{T:TypeId}(hF:FR w0 Ds bs w)(hs:∀w,(sizeOf t).run P w=.ok l.length w)
    (hx:ev n s x=.pointer (some ⟨b,off,none⟩)) (hy:ev n s y=v) (hl:v.cells=l.toArray) (hv:∀v∈l,one v=true) (hi:bs[i]? = some (b,.cells cs T)) (hsz:off+l.length<=cs.size)
    (hcs:putA cs off l=cs')
    (h:∀w',FR w0 Ds (bs.set i (b,.cells cs' T)) w'->Same [b] w w'->Og r m ds P R n ops k rest s w')
    (hw:Ya ops n s ⟨none,.store t x y,ty,pos,aft,g⟩=true:=by rfl):Og r m ds P R n ops k (⟨none,.store t x y,ty,pos,aft,g⟩::rest) s w:=by
  have hh:=hF.heap hi;have hsp:=Um b off (fz:=(0,0)) l 0 w cs hh;refine S7 (VB hs hx hy hl hv λj hj=>?_) (h (Lk w ⟨b,off,none⟩ 0 l) ?_ hsp.2) hw
  ·have e : (⟨b, off, none⟩ : Addr).add j = ⟨b, off + j, none⟩ := by unfold Addr.add;split <;> simp_all
   rw[e,Bc hh];exact⟨⟨cs[off+j]'(by omega),by simp⟩,Xo hh _⟩
  subst hcs;exact hF.change i hi hsp.2 (by simpa using hsp.1)
theorem Gw{t:TypeId}{y:Operand}{z v:Value}{l:List Value}{ty':TypeId}{pos':String}{aft':Array Edge}(hF:FR w0 Ds bs w)(hz:∀w,(zeroValue t).run P w=.ok z w)(hs:∀w,(sizeOf t).run P w=.ok l.length w)
    (hzl:z.cells.size=l.length) (hy:ev n (Pe s d (.pointer (some ⟨w.heap.size,0,none⟩))) y=v) (hl:v.cells=l.toArray) (hv:∀v∈l,one v=true) (hdn:Nat.blt d n=true)
    (h:∀b w',b=w.heap.size->FR w0 Ds ((b,.cells l.toArray t)::bs) w'->Same [] w w'->Og r m ds P R n ops k rest (Pe s d (V b)) w') :
    Og r m ds P R n ops k (⟨some d,.alloc t,ty,pos,aft,none⟩::⟨none,.store t (.tmp d) y,ty',pos',aft',none⟩::rest) s w:=by
  refine Ia (Ei hz) ?_ O;have hF1:=hF.alloc (.cells z.cells t);refine Gh 0 (b:=w.heap.size) (off:=0) (cs:=z.cells) (T:=t) (cs':=l.toArray) hF1 hs (by simp[ev,Pe,hdn]) hy hl hv O (by omega) ?_ (λw' hF' hS=>?_) O
  ·have key:∀(l:List Value)(off:Nat)(cs:Array Value),off+l.length=cs.size->putA cs off l=(cs.toList.take off++l).toArray:=by
     intro l
     induction l with
     | nil=>intro off cs h;simp only[putA,qQ];rw[List.take_of_length_le (by simp at h ⊢;omega)]
     | cons v l ih =>
       intro off cs h;simp only[kQ]at h;rw[putA,ih _ _ (by simp;omega)];have hoff:off<cs.toList.length:=by simp;omega
       have e:(cs.setIfInBounds off v).toList.take (off+1)=cs.toList.take off++[v]:=by
         rw[Array.toList_setIfInBounds,iQ (by simpa using hoff),List.take_set_of_le (gQ _)];simp
       rw[e];simp
   simpa using key l 0 z.cells (by omega)
  refine h _ w' O hF' ⟨hS.os, hS.tape, hS.output, fQ (by simp) hS.size, λb hb _ => ?_⟩;rw[hS.block b (by simp;omega) (by simp;omega)];exact Below.heap_alloc w _ b hb
theorem Tt{v:Nat->Value}{o:Obj}{op:Op}(hF:FR w0 Ds bs_ w)(hrun:(execOp (ev n s) ⟨some d,op,ty,pos,aft,g⟩).run P w=.ok (.value (v w.heap.size)) (w.alloc o))
    (h:∀b w',b=w.heap.size->FR w0 Ds ((b,o)::bs_) w'->Same [] w w'->Og r m ds P R n ops k rest (Pe s d (v b)) w')
    (hw:Ya ops n s ⟨some d,op,ty,pos,aft,g⟩=true:=by rfl):Og r m ds P R n ops k (⟨some d,op,ty,pos,aft,g⟩::rest) s w :=
  Ia hrun (h _ _ rfl (hF.alloc _) (Same.alloc w _)) hw
section
variable {C:World->Prop}
theorem Ba(hy:Y P (ev n s) op v)(h:Og r m ds P R n ops k rest (Pe s d v) w)(hw:Ya ops n s ⟨some d,op,ty,pos,aft,g⟩=true:=by rfl):Og r m ds P R n ops k (⟨some d,op,ty,pos,aft,g⟩::rest) s w:=Ia (hy ..) h hw
theorem Yb(hy:YC (λw'=>w'=w) P (ev n s) op v)(h:Og r m ds P R n ops k rest (Pe s d v) w)(hw:Ya ops n s ⟨some d,op,ty,pos,aft,g⟩=true:=by rfl):Og r m ds P R n ops k (⟨some d,op,ty,pos,aft,g⟩::rest) s w:=Ia (hy _ _ _ _ _ w rfl) h hw
theorem Lb{p:Prop}{_:Decidable p}(hx:ev n s (.tmp d)=.bool (decide p))(hd:Nat.blt d n=true)(ht:p->Cg r m ds P R n x k (Pe s d (.bool true)) w)(hf:¬p->Cg r m ds P R n y k (Pe s d (.bool false)) w):Cg r m ds P R n (.cond (.tmp d) x y) k s w :=
  Z6 (by simpa[ev,hd]using hx) (λh=>Od (by simp[ev,Pe,hd]) (ht h)) (λh=>Te (by simp[ev,Pe,hd]) (hf h))
theorem He{b:Bool}(hx:ev n s (.tmp d)=.bool b)(hd:Nat.blt d n=true)(ht:b=true->Cg r m ds P R n x k (Pe s d (.bool true)) w)(hf:b=false->Cg r m ds P R n y k (Pe s d (.bool false)) w):Cg r m ds P R n (.cond (.tmp d) x y) k s w :=
  Oz (by simpa[ev,hd]using hx) (λh=>Od (by simp[ev,Pe,hd]) (ht h)) (λh=>Te (by simp[ev,Pe,hd]) (hf h))
end
end
section
variable {r:Option Nat}{m:Nat}{ds:List Deferred}{P:Program}{R:Exit->Act->World->Prop}{n:Nat}{k:Kt}{s:Nat->Value}{w w0:World}{ops rest:List Oper}{Ds:List Nat}{bs_ bs':List (Nat × Obj)}
variable {d i:Nat}{ty:TypeId}{pos:String}{aft:Array Edge}{g:Option (Nat × Bool)}{x y:Operand}{t b off ii mm:Nat}{l l':List Value}{u:Value}{T:TypeId}
theorem Zl(v:Value)(hF:FR w0 Ds bs_ w)(hs:∀w,(sizeOf t).run P w=.ok 1 w)(hx:ev n s x=.pointer (some ⟨b,off,none⟩))(hy:ev n s y=v)(hb:AtI ii bs_ (b,.cells l.toArray T) (b,.cells l'.toArray T) bs')(hc:AtI off l u v l')(h:∀w',FR w0 Ds bs' w'->Same [b] w w'->Og r m ds P R n ops k rest s w')(hv:v.cells=#[v]:=by rfl)(ho:one v=true:=by rfl)(hw:Ya ops n s ⟨none,.store t x y,ty,pos,aft,g⟩=true:=by rfl):Og r m ds P R n ops k (⟨none,.store t x y,ty,pos,aft,g⟩::rest) s w :=
  Gh ii hF (l:=[v]) hs hx hy hv (by simpa using ho) hb.get (by simpa using Nat.succ_le_of_lt hc.lt) (by rw[Hu,hc.set]) (by rw[hb.set];exact h) hw
theorem Ke(hF:FR w0 Ds bs_ w)(hs:∀w,(sizeOf t).run P w=.ok mm w)(hx:ev n s x=V b)(hy:ev n s y=.agg l'.toArray)(hb:AtI ii bs_ (b,.cells l.toArray T) (b,.cells l'.toArray T) bs')(h:∀w',FR w0 Ds bs' w'->Same [b] w w'->Og r m ds P R n ops k rest s w')(hm:l'.length=mm:=by rfl)(hl:l.length=l'.length:=by rfl)(ho:l'.all one=true:=by rfl)(hw:Ya ops n s ⟨none,.store t x y,ty,pos,aft,g⟩=true:=by rfl):Og r m ds P R n ops k (⟨none,.store t x y,ty,pos,aft,g⟩::rest) s w :=
  Gh ii hF (l:=l') (by rw[hm];exact hs) hx hy rfl (List.all_eq_true.1 ho) hb.get (by simp[hl]) (Gn (by simpa using hl)) (by rw[hb.set];exact h) hw
theorem KC(v:Value)(hF:FR w0 Ds bs_ w)(hy:ev n s x=v)(h:∀b w',b=w.heap.size->FR w0 Ds ((b,.cells #[v] t)::bs_) w'->Same [] w w'->Og r m ds P R n ops k rest (Pe s d (V b)) w')(hv:v.cells=#[v]:=by rfl)(hw:Ya ops n s ⟨some d,.box t x,ty,pos,aft,g⟩=true:=by rfl):Og r m ds P R n ops k (⟨some d,.box t x,ty,pos,aft,g⟩::rest) s w:=Vn hF hy hv h hw
theorem Df{cs:Array Value}(hF:FR w0 Ds bs_ w)(hy:ev n s x=.agg cs)(h:∀b w',b=w.heap.size->FR w0 Ds ((b,.cells cs t)::bs_) w'->Same [] w w'->Og r m ds P R n ops k rest (Pe s d (V b)) w')(hw:Ya ops n s ⟨some d,.box t x,ty,pos,aft,g⟩=true:=by rfl):Og r m ds P R n ops k (⟨some d,.box t x,ty,pos,aft,g⟩::rest) s w:=Vn hF hy rfl h hw
theorem o_ly(v:Value){z:Value}{ty':TypeId}{pos':String}{aft':Array Edge}(hF:FR w0 Ds bs_ w)(hz:∀w,(zeroValue t).run P w=.ok z w)(hs:∀w,(sizeOf t).run P w=.ok 1 w)(hy:ev n (Pe s d (.pointer (some ⟨w.heap.size,0,none⟩))) y=v)(h:∀b w',b=w.heap.size->FR w0 Ds ((b,.cells #[v] t)::bs_) w'->Same [] w w'->Og r m ds P R n ops k rest (Pe s d (V b)) w')(hzl:z.cells.size=1:=by rfl)(hv:v.cells=#[v]:=by rfl)(ho:one v=true:=by rfl)(hdn:Nat.blt d n=true:=by rfl):Og r m ds P R n ops k (⟨some d,.alloc t,ty,pos,aft,none⟩::⟨none,.store t (.tmp d) y,ty',pos',aft',none⟩::rest) s w:=Gw (l:=[v]) hF hz hs hzl hy hv (by simpa using ho) hdn h
theorem Hf{z:Value}{ty':TypeId}{pos':String}{aft':Array Edge}(hF:FR w0 Ds bs_ w)(hz:∀w,(zeroValue t).run P w=.ok z w)(hs:∀w,(sizeOf t).run P w=.ok mm w)(hy:ev n (Pe s d (.pointer (some ⟨w.heap.size,0,none⟩))) y=.agg l.toArray)(h:∀b w',b=w.heap.size->FR w0 Ds ((b,.cells l.toArray t)::bs_) w'->Same [] w w'->Og r m ds P R n ops k rest (Pe s d (V b)) w')(hm:l.length=mm:=by rfl)(hzl:z.cells.size=l.length:=by rfl)(ho:l.all one=true:=by rfl)(hdn:Nat.blt d n=true:=by rfl):Og r m ds P R n ops k (⟨some d,.alloc t,ty,pos,aft,none⟩::⟨none,.store t (.tmp d) y,ty',pos',aft',none⟩::rest) s w:=Gw (l:=l) hF hz (by rw[hm];exact hs) hzl hy rfl (List.all_eq_true.1 ho) hdn h
end
section
variable {r:Option Nat}{md:Nat}{ds:List Deferred}{P:Program}{R:Exit->Act->World->Prop}{n:Nat}{kt:Kt}{s:Nat->Value}{w w0:World}{ops rest:List Oper}{Ds:List Nat}{bs_ sb:List (Nat × Obj)}{pre post:List (Nat × Obj)}
variable {d:Nat}{ty:TypeId}{pos:String}{aft:Array Edge}{g:Option (Nat × Bool)}
theorem Uo(pre post:List (Nat × Obj)){x y:Operand}{t e m bytes:Nat}{A A2:Option Addr}{len c k c2:Nat}{xs news:List Value}(hE:Elems P t e m bytes)
    (hF:FR w0 Ds (pre++(sb++post)) w) (hS:SlB e m A len c xs sb) (hx:ev n s x=.slice A len c) (hy:ev n s y=.slice A2 k c2)
    (hl:news.length=k*m) (hnews:k≠0->∃a,A2=some a/\∀j u,news[j]? = some u->w.cell? (a.add j)=some u) (h1:∀u∈news,u.oneCell'=true)
    (h63:len+k<=maxLen) {len':Nat} {ys:List Value} (hlen:len+k=len') (hys:xs++news=ys) (hbytes:(len+k)*bytes<=140737488355328)
    (h:∀A' c' sb' w',SlB e m A' len' c' ys sb'->FR w0 Ds (pre++(sb'++post)) w'->Same (sb.map (·.1)) w w'->(∀p∈sb',p.1∈sb.map (·.1)\/w.heap.size<=p.1)->Og r md ds P R n ops kt rest (Pe s d (.slice A' len' c')) w')
    (hw:Ya ops n s ⟨some d,.call ⟨.builtin .append,#[x,y],#[t,t]⟩,ty,pos,aft,g⟩=true:=by rfl):Og r md ds P R n ops kt (⟨some d,.call ⟨.builtin .append,#[x,y],#[t,t]⟩,ty,pos,aft,g⟩::rest) s w:=by
  subst hlen hys;obtain⟨i,z,hi,hz,h2,h3,h4⟩:=hE.info;obtain⟨A',c',sb',w',hr,hS',hF',hs,hn⟩:=Zw (ty:=ty) (c2:=c2) hE.ht hi hz h2 h3 h4 hF hS hl hnews h1 h63 hbytes;exact Ia (Ju hx hy hr) (h A' c' sb' w' hS' hF' hs hn) hw
theorem JI{x y:Operand}{t e m bytes:Nat}{A A2:Option Addr}{len c k c2:Nat}{xs news:List Value}(hE:Elems P t e m bytes)
    (hF:FR w0 Ds bs_ w) (hS:SlB e m A len c xs sb) (hx:ev n s x=.slice A len c) (hy:ev n s y=.slice A2 k c2)
    (hl:news.length=k*m) (hnews:k≠0->∃a,A2=some a/\∀j u,news[j]? = some u->w.cell? (a.add j)=some u) (h1:∀u∈news,u.oneCell'=true)
    (h63:len+k<=maxLen) {len':Nat} {ys:List Value} (hlen:len+k=len') (hys:xs++news=ys) (hbytes:(len+k)*bytes<=140737488355328)
    (h:∀A' c' sb' w',SlB e m A' len' c' ys sb'->FR w0 Ds (pre++(sb'++post)) w'->Same (sb.map (·.1)) w w'->(∀p∈sb',p.1∈sb.map (·.1)\/w.heap.size<=p.1)->Og r md ds P R n ops kt rest (Pe s d (.slice A' len' c')) w')
    (hw:Ya ops n s ⟨some d,.call ⟨.builtin .append,#[x,y],#[t,t]⟩,ty,pos,aft,g⟩=true:=by rfl) (hsp:Spl bs_ pre sb post:=by repeat (first|exact Spl.z|apply Spl.c|apply Spl.a)):Og r md ds P R n ops kt (⟨some d,.call ⟨.builtin .append,#[x,y],#[t,t]⟩,ty,pos,aft,g⟩::rest) s w :=
  Uo pre post hE (hsp.eq▸hF) hS hx hy hl hnews h1 h63 hlen hys hbytes h hw
end
section
variable {r:Option Nat}{m:Nat}{ds:List Deferred}{P:Program}{R:Exit->Act->World->Prop}{n:Nat}{k:Kt}{s:Nat->Value}{w w0:World}{Ds:List Nat}{bs_:List (Nat × Obj)}
theorem LZ(w:World)(l:Nat)(o:Obj):Same [l] w (w.putObj l o):=⟨rfl,rfl,rfl,by simp[World.putObj],λb hb hn=>World.putObj_heap_other (by simpa using hn)⟩
theorem FR.put(hF:FR w0 Ds bs_ w)(i:Nat){l:Nat}{o:Obj}(o':Obj)(hi:bs_[i]? = some (l,o)):FR w0 Ds (bs_.set i (l,o')) (w.putObj l o'):=by
  have hlt:l<w.heap.size:=Mb (hF.heap hi);exact hF.change i hi (LZ w l o') (World.putObj_heap_same hlt)
def Np(fn:FuncId)(n:Nat)(s:Nat->Value)(ps:Array Tmp)(as_ body:Code)(D:Nat)(st:LoopState):Obj:=.loop { state:=st,pending:=none,fn:=fn,tmps:=(Ix n s []).tmps,params:=ps,assign:=as_,body:=body,defers:=D }
def CJ(D:Nat):List Deferred:=[{ target:=.collected D,args:=#[] }]
variable {fn l D:Nat}{ps:Array Tmp}{as_ body:Code}{Rd:Ending->World->Prop}
def MA:Kt->Bool
  | .done=>true
  | .seq _ k=>MA k
  | .block _ k=>MA k
  | .inv _ _ _=>false
theorem Pz{ds':List Deferred}:∀{k:Kt},MA k=true->post r m ds P R n k=post r m ds' P R n k
  | .done,_=>rfl
  | .seq y k,h=>by rw[post,post,Pz (k:=k) h]
  | .block id k,h=>by rw[post,post,Pz (k:=k) h]
  | .inv _ _ _,h=>by cases h
theorem c_range{g:Operand}{gf:FuncId}{lb:Array Value}(hF:FR w0 Ds bs_ w)(hg:ev n s g=.func (.func gf) #[] lb)(eg:Pa P gf)
    (h:∀fn D l w',FR w0 Ds ((l,Np fn n s ps as_ body D .ready)::(D,.deferred (some []))::bs_) w'->Same [] w w' ->
      Calls P gf (#[.func (.yield l) #[] #[]]++lb) w' (Oc λ_ w3=>∃st,st≠.busy/\w3.heap[l]? = some (Np fn n s ps as_ body D st)/\Eg none m (CJ D) P R n .normal k s (w3.putObj l (Np fn n s ps as_ body D .exhausted)))) (hk:MA k=true:=by rfl) :
    Cg none m [] P R n (.rangeFunc g ps as_ body) k s w:=by
  refine wpIn_rangeFunc ?_;intro fn _;have hF1:=hF.alloc (.deferred (some []));have hF2:=hF1.alloc (Np fn n s ps as_ body w.heap.size .ready);rw[World.size_alloc]at hF2;refine⟨w.heap.size+1,CJ w.heap.size,(w.alloc (.deferred (some []))).alloc (Np fn n s ps as_ body w.heap.size .ready),{ target:=.fn (.func gf) lb,args:=#[.func (.yield (w.heap.size+1)) #[] #[]] },(w.alloc (.deferred (some []))).alloc (Np fn n s ps as_ body w.heap.size .ready),gf,
    #[.func (.yield (w.heap.size+1)) #[] #[]]++lb,(w.alloc (.deferred (some []))).alloc (Np fn n s ps as_ body w.heap.size .ready),?_,?_,?_,?_,λh=>(by cases h),?_⟩
  ·exact run_enterLoop_outer _ _ _ _ _
  ·have hg' : (Ix n s []).eval g = .func (.func gf) #[] lb := by rw[Dn];exact hg
   simp only[resolve,hg'];simp[go_sem]
  ·intro f' _;trivial
  ·simp[invoke,go_sem,eg _ _]
  refine (Iy (h fn w.heap.size (w.heap.size + 1) _ hF2 ((Same.alloc w _).trans (Same.alloc _ _)))).mono ?_;rintro e w3 ⟨v,rfl,st,hst,hl,hE⟩;refine⟨none,_,run_endLoop hl hst,?_⟩;have hE':=hE;unfold Eg at hE';rw[Pz (ds':=[]) hk]at hE';exact hE'
theorem y_round{vs:Array Value}{s':Nat->Value}(hl:w.heap[l]? = some (Np fn n s ps as_ body D .ready))(hsz:vs.size=ps.size)(hs:(ps.zip vs).foldl (λtmps (x:Tmp × Value)=>tmps.setIfInBounds x.1 x.2) (Ix n s []).tmps=(Ix n s' []).tmps)
    (h:Cg (some l) m [] P (Exit.then (λa1 w1=>∃w2,(Instr.beginRound l).run P w1=.ok () w2/\body.wpIn (Fw (some l)) m P (roundPost P l Rd) a1 w2) (λ_ _ _=>False)) n as_ .done s' w):YieldAt (Fw none) m P l vs w Rd:=by
  refine⟨fn,_,as_,body,run_yield hl hsz,?_⟩;refine roundIn_of_wpIn trivial ?_;have e:({ tmps:=(ps.zip vs).foldl (λtmps (x:Tmp × Value)=>tmps.setIfInBounds x.1 x.2) (Ix n s []).tmps,defers:=[] }:Act)=Ix n s' []:=by rw[hs];rfl
  exact e▸h
theorem as_end{s1:Nat->Value}{s0:Nat->Value}(hl:w.heap[l]? = some (Np fn n s0 ps as_ body D .ready))(h:Cg (some l) m [] P (roundPost P l Rd) n body .done s1 (w.putObj l (Np fn n s0 ps as_ body D .busy))) :
    Eg (some l) m [] P (Exit.then (λa1 w1=>∃w2,(Instr.beginRound l).run P w1=.ok () w2/\body.wpIn (Fw (some l)) m P (roundPost P l Rd) a1 w2) (λ_ _ _=>False)) n .normal .done s1 w :=
  ⟨_,run_beginRound hl rfl,h⟩
theorem body_end{s1 s0:Nat->Value}(hl:w.heap[l]? = some (Np fn n s0 ps as_ body D .busy))(h:Rd (.returned (.bool true)) (w.putObj l (Np fn n s0 ps as_ body D .ready))) :
    Eg (some l) m [] P (roundPost P l Rd) n .normal .done s1 w:=⟨_,_,run_endRound none hl,h⟩
theorem Ty{f:FuncId}{fn:Func}{c:Code}{args:Array Value}{Q:Value->World->Prop}{li:List (Nat × Value)}(hf:P.funcs[f]? = some fn)(hb:fn.body=some c)(hn:fn.ntmps=n)(hsz:args.size<=n)
    (hs:∀i,args.getD i undef=Ll (λ_=>undef) li i)
    (h:Cg none m [] P (bodyPostM Fence.wide m P fn (Oc Q)) n c .done (Ll (λ_=>undef) li) w):Calls P f args w (Oc Q):=by
  refine (callsIn_wide (n:=m)).1 (callsIn_of_wp_marks hf hb trivial ?_ O);rw[hn,Y3 n args hsz,show (λi=>args.getD i undef)=Ll (λ_=>undef) li from funext hs];exact h
theorem C1{fn:Func}{v:Value}{Q:Value->World->Prop}(hK:w.heap[D]? = some (.deferred (some [])))(hr:(results fn (Jl n s).tmps).run P (w.putObj D (.deferred none))=.ok v (w.putObj D (.deferred none)))(h:Q v (w.putObj D (.deferred none))) :
    bodyPostM Fence.wide m P fn (Oc Q) .ret (Ix n s (CJ D)) w:=by
  refine⟨by simp[CJ],.inl ⟨_,_,O,run_takeDeferred hK,?_⟩⟩;exact⟨v,hr,v,O,h⟩
theorem Cz{f:FuncId}{fn:Func}{c:Code}{args:Array Value}{Q:Value->World->Prop}{li:List (Nat × Value)}(hf:P.funcs[f]? = some fn)(hb:fn.body=some c)(hn:fn.ntmps=n)(hsz:args.size<=n)
    (hs:∀i,args.getD i undef=Ll (λ_=>undef) li i)
    (h:Cg none m [] P (bodyPost P fn (Oc Q)) n c .done (Ll (λ_=>undef) li) w):Calls P f args w (Oc Q):=by
  refine (callsIn_wide (n:=m)).1 (callsIn_of_wp hf hb trivial ?_ O);rw[hn,Y3 n args hsz,show (λi=>args.getD i undef)=Ll (λ_=>undef) li from funext hs];exact h
end
section
variable {P:Program}{ρ:Operand->Value}{dst:Option Nat}{ty:TypeId}{pos:String}{aft:Array Edge}{g:Option (Nat × Bool)}{w:World}
theorem Fz{l:Nat}{x x1 x2:Operand}{ats:Array TypeId}{v1 v2:Value}{fn:FuncId}{tmps:Array Value}{as_ body:Code}(hx:ρ x=.func (.yield l) #[] #[])(h1:ρ x1=v1)(h2:ρ x2=v2)(hy:(Instr.yield l #[v1,v2]).run P w=.ok (.round l fn tmps as_ body) w) :
    (execOp ρ ⟨dst,.call ⟨.value x,#[x1,x2],ats⟩,ty,pos,aft,g⟩).run P w=.ok (.round l fn tmps as_ body) w:=by
  simp[execOp,resolve,Deferred.ofValue,hx,h1,h2,invoke,hy]
end
attribute [irreducible] Cg Eg Og
end Go.Scarf.Fn
