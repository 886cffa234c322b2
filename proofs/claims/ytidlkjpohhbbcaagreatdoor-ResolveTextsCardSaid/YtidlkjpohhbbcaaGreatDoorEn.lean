/- A part of the proof. -/
import Derived.OwnWalkIn
import Derived.RangeFuncNested
import Derived.RangeFuncCalls
import Derived.RangeFuncLeaves
import Derived.Test.YtidlkjpohhbbcaaGreatDoorQ9
set_option linter.all false
set_option maxHeartbeats 8000000
set_option maxRecDepth 10000
namespace Go.Scarf.Fn
open List renaming length->aL
open Go.RowKit Go.Scarf
variable {f:FuncId}{args cs vs:Array Value}{c2 e id len':Nat}{w':World}{Q:Value->World->Prop}{ats:Array TypeId}{z:Value}{ty':TypeId}{pos':String}{aft':Array Edge}{A A2:Option Addr}{news xs ys:List Value}{s0 s1:Nat->Value}{li:List (Nat × Value)}
def Fw(r:Option Nat):Fence:={ Fence.wide with round:=r }
def Fw.none:Fw none=Fence.wide:=rfl
def Fw.some(l:Nat):Fw (some l)=Fence.wide.inRound l:=rfl
def R8{r:Option Nat}{m:Nat}{P:Program}{w:World}{Q:Ending->World->Prop}(h:Calls P f args w Q):CallsIn (Fw r) m P f args w Q:=by
  have h1:CallsIn Fence.wide m P f args w Q:=callsIn_wide.2 h;exact h1
def Rw(n:Nat)(s:Nat->Value)(ds:List Deferred):Act:=⟨Array.ofFn (n:=n) λi=>s i.val,ds⟩
def Bo(n:Nat)(s:Nat->Value)(ds:List Deferred):(Rw n s ds).eval=ev n s:=by
  rw[<-Ej n s];rfl
def Mu(n:Nat)(s:Nat->Value)(ds:List Deferred)(d:Option Nat)(v:Value):(Rw n s ds).put d v=Rw n (F1 s d v) ds:=by
  have h:=Kh n s d v;cases d with
  | none=>rfl
  | some d =>
    simp only[Act.put,Bi,Rw,Act.mk.injEq,and_true]at h ⊢;exact h
def post(r:Option Nat)(m:Nat)(ds:List Deferred)(P:Program)(R:Exit->Act->World->Prop)(n:Nat):Kt->Exit->Act->World->Prop
  | .done=>R
  | .seq y k=>Exit.then (y.wpIn (Fw r) m P (post r m ds P R n k)) (post r m ds P R n k)
  | .block id k=>Exit.inBlock id (post r m ds P R n k)
  | .inv n' I k=>Exit.then (λa w=>∃s,a=Rw n' s ds/\I s w) (post r m ds P R n k)
section
variable (r:Option Nat)(m:Nat)(ds:List Deferred)(P:Program)(R:Exit->Act->World->Prop)(n:Nat)
def Cg(c:Code)(k:Kt)(s:Nat->Value)(w:World):Prop:=c.wpIn (Fw r) m P (post r m ds P R n k) (Rw n s ds) w
def Eg(e:Exit)(k:Kt)(s:Nat->Value)(w:World):Prop:=post r m ds P R n k e (Rw n s ds) w
def Og(ops:List Oper)(k:Kt)(rest:List Oper)(s:Nat->Value)(w:World):Prop:=wpListIn (Fw r) m P ops.toArray (post r m ds P R n k) rest (Rw n s ds) w
end
section
variable {r:Option Nat}{m:Nat}{ds:List Deferred}{P:Program}{R:Exit->Act->World->Prop}{n:Nat}{k:Kt}{s:Nat->Value}{w:World}
def Wi{x y:Code}(h:Cg r m ds P R n x (.seq y k) s w):Cg r m ds P R n (.seq x y) k s w:=wpIn_seq h
def Ju{c:Code}(h:Cg r m ds P R n c (.block id k) s w):Cg r m ds P R n (.block id c) k s w:=wpIn_block h
def Gw(h:Eg r m ds P R n .normal k s w):Cg r m ds P R n .skip k s w:=wpIn_skip h
def Rf(h:Eg r m ds P R n .ret k s w):Cg r m ds P R n .ret k s w:=wpIn_ret h
def KN(h:Eg r m ds P R n (.exit id) k s w):Cg r m ds P R n (.exit id) k s w:=wpIn_exit h
def MQ{l:Nat}(h:Eg r m ds P R n .normal k s w):Cg r m ds P R n (.label l) k s w:=wpIn_label h
def Be{l:List Oper}(h:Og r m ds P R n l k l s w):Cg r m ds P R n (.region id l.toArray false) k s w:=wpIn_region_lit h
def L8{c:Operand}{x y:Code}(hc:ev n s c=.bool true)(h:Cg r m ds P R n x k s w):Cg r m ds P R n (.cond c x y) k s w:=wpIn_cond_true (by rw[Bo];exact hc) h
def Zo{c:Operand}{x y:Code}(hc:ev n s c=.bool false)(h:Cg r m ds P R n y k s w):Cg r m ds P R n (.cond c x y) k s w:=wpIn_cond_false (by rw[Bo];exact hc) h
def Vh{y:Code}(h:Cg r m ds P R n y k s w):Eg r m ds P R n .normal (.seq y k) s w:=h
def Dy(h:Eg r m ds P R n .normal k s w):Eg r m ds P R n .normal (.block id k) s w:=h
def Ha{I:(Nat->Value)->World->Prop}(h:I s w):Eg r m ds P R n .normal (.inv n I k) s w:=⟨s,rfl,h⟩
def BL(h:R .normal (Rw n s ds) w):Eg r m ds P R n .normal .done s w:=h
theorem Yd:∀{k:Kt},R .ret (Rw n s ds) w->Eg r m ds P R n .ret k s w
  | .done,h=>h
  | .seq _ k,h=>Yd (k:=k) h
  | .block _ k,h=>Yd (k:=k) h
  | .inv _ _ k,h=>Yd (k:=k) h
theorem Cr{id:Nat}:∀{k k':Kt},k.out id=some k'->Eg r m ds P R n .normal k' s w->Eg r m ds P R n (.exit id) k s w
  | .done,_,h,_=>by cases h
  | .seq _ k,_,h,g=>Cr (k:=k) h g
  | .block id' k, k', h, g => by
    simp only[Kt.out]at h;show (if id=id' then post r m ds P R n k .normal (Rw n s ds) w else post r m ds P R n k (.exit id) (Rw n s ds) w);by_cases hid:id'=id
    ·rw[uQ hid]at h;rw[uQ hid.symm]
     cases h;exact g
    rw[tQ hid]at h;rw[tQ λe => hid e.symm];exact Cr (k:=k) h g
  | .inv _ _ k,_,h,g=>Cr (k:=k) h g
def Sa{c:Code}(I:Nat->(Nat->Value)->World->Prop)(j0:Nat)(h0:I j0 s w)
    (round:∀j s w,I j s w->Cg r m ds P R n c (.inv n (λs' w'=>∃j',j'<j/\I j' s' w') k) s w):Cg r m ds P R n (.loop c) k s w:=by
  intro b kk cs hro hb hr;have key:∀j s w,I j s w->∃e a' w',post r m ds P R n k e a' w'/\ArrivesIn (Machine.fenced P<|Fw r) P (lone (b.atR (Rw n s ds)<|.code c::.inLoop c::kk) cs w) b kk cs e a' w':=by
    intro j
    induction j using Nat.strongRecOn with
    | _ j ih =>
      intro s w hI;obtain⟨e,a₁,w₁,hq,harr⟩:=round j s w hI b (.inLoop c::kk) cs hro hb hr;cases e with
      | normal =>
        obtain⟨s₁,rfl,j',hlt,hI₁⟩:=hq;obtain⟨e₂,a₂,w₂,hq₂,harr₂⟩:=ih j' hlt s₁ w₁ hI₁;exact⟨e₂,a₂,w₂,hq₂,.of_steps (StepsIn.trans harr<|.one (fenced_calm hb hr O) stepR_inLoop) harr₂⟩
      | exit id=>exact⟨_,a₁,w₁,hq,.pass (x:=.inLoop c) rfl (λ_ _=>.inl Da) harr⟩
      | goto l=>exact⟨_,a₁,w₁,hq,.pass (x:=.inLoop c) rfl (λ_ _=>.inl Da) harr⟩
      | ret=>exact⟨_,a₁,w₁,hq,.pass (x:=.inLoop c) rfl (λ_ _=>.inl Da) harr⟩
      | panic ch=>exact⟨_,a₁,w₁,hq,.pass (x:=.inLoop c) rfl (λ_ _=>.inl Da) harr⟩
      | outgrown=>exact⟨_,a₁,w₁,hq,.pass (x:=.inLoop c) rfl (λ_ _=>.inl Da) harr⟩
  obtain⟨e,a',w',hq,harr⟩:=key j0 s w h0;exact⟨e,a',w',hq,.of_steps (.one (fenced_calm hb hr O) stepR_loop) harr⟩
variable {ops rest:List Oper}{o:Oper}
def Fk(h:Eg r m ds P R n .normal k s w):Og r m ds P R n ops k [] s w:=h
variable {d:Nat}{dst:Option Nat}{op:Op}{ty:TypeId}{pos:String}{aft:Array Edge}{g:Option (Nat × Bool)}
def wanted_eq(ops:List Oper)(n:Nat)(s:Nat->Value)(o:Oper):Region.wanted o (yielded ops.toArray (Rw n s ds).tmps)=Ka ops n s o:=Go.Scarf.wanted_eq ops n s o
def Nv{ρ:Operand->Value}{o:Oper}(h:∀c,o.op≠.defer c):o.semAt (Fw r).round ρ=execOp ρ o:=Oper.semAt_plain (Fw r) ρ o h
theorem QA{ρ:Operand->Value}{o:Oper}{x:Next}{w:World}(h:(execOp ρ o).run P w=.ok x w')(hx:∀d,x≠.defer d):∀c,o.op≠.defer c:=λc hc=>by
  obtain⟨dst,op,ty,pos,aft,g⟩:=o;subst hc;have e:execOp ρ ⟨dst,.defer c,ty,pos,aft,g⟩=(do let d <-resolve ρ c ty;pure (Next.defer d)):=rfl;rw[e,Sem.run_bind]at h;cases hr:(resolve ρ c ty).run P w with
  | ok d w1 =>
    rw[hr]at h;simp[Result.andThen]at h;grind
  | halt a b=>simp_all
def YN{v:Value}(hrun:(execOp (ev n s) o).run P w=.ok (.value v) w')(h:Og r m ds P R n ops k rest (F1 s o.dst v) w')(hw:Ka ops n s o=true) :
    Og r m ds P R n ops k (o::rest) s w:=by
  unfold Og wpListIn;rw[wanted_eq,uQ hw];refine⟨λ_ _=>trivial,?_⟩;rw[Bo,Nv<|QA hrun λ_ h=>zX,hrun,Oper.uponIn_value,Mu];exact h
def og_unit(hrun:(execOp (ev n s) o).run P w=.ok .skip w')(h:Og r m ds P R n ops k rest (F1 s o.dst undef) w')(hw:Ka ops n s o=true) :
    Og r m ds P R n ops k (o::rest) s w:=by
  unfold Og wpListIn;rw[wanted_eq,uQ hw];refine⟨λ_ _=>trivial,?_⟩;rw[Bo,Nv<|QA hrun λ_ h=>zX,hrun,Oper.uponIn_skip,Mu];exact h
def Ba{v:Value}(hrun:(execOp (ev n s) ⟨some d,op,ty,pos,aft,g⟩).run P w=.ok (.value v) w')(h:Og r m ds P R n ops k rest (Ic s d v) w')(hw:Ka ops n s ⟨some d,op,ty,pos,aft,g⟩=true:=by rfl) :
    Og r m ds P R n ops k (⟨some d,op,ty,pos,aft,g⟩::rest) s w:=YN hrun h hw
def Z0(hrun:(execOp (ev n s) ⟨none,op,ty,pos,aft,g⟩).run P w=.ok .skip w')(h:Og r m ds P R n ops k rest s w')(hw:Ka ops n s ⟨none,op,ty,pos,aft,g⟩=true:=by rfl) :
    Og r m ds P R n ops k (⟨none,op,ty,pos,aft,g⟩::rest) s w:=og_unit hrun h hw
def VQ(h:Og r m ds P R n ops k rest (Ic s d undef) w)(hw:Ka ops n s ⟨some d,op,ty,pos,aft,g⟩=false:=by rfl):Og r m ds P R n ops k (⟨some d,op,ty,pos,aft,g⟩::rest) s w:=by
  unfold Og wpListIn;rw[wanted_eq,hw,Mu];exact⟨λ_ _=>trivial,h⟩
def W6(hrun:(execOp (ev n s) o).run P w=.ok (.enter f args) w')(hc:Calls P f args w' (Za Q))
    (h:∀v w'',Q v w''->Og r m ds P R n ops k rest (F1 s o.dst v) w'') (hw:Ka ops n s o=true):Og r m ds P R n ops k (o::rest) s w:=by
  unfold Og wpListIn;rw[wanted_eq,uQ hw];refine⟨λ_ _=>trivial,?_⟩;rw[Bo,Nv<|QA hrun λ_ h=>zX,hrun,Oper.uponIn_enter];refine⟨λh=>zX,(R8 hc).mono λe w'' ⟨v,he,hq⟩=>?_⟩;subst he;show wpListIn (Fw r) m P ops.toArray (post r m ds P R n k) rest ((Rw n s ds).put o.dst v) w'';rw[Mu];exact h v w'' hq
def Xb(hc:Calls P f args w' (Za Q))(hrun:(execOp (ev n s) ⟨some d,op,ty,pos,aft,g⟩).run P w=.ok (.enter f args) w')
    (h:∀v w'',Q v w''->Og r m ds P R n ops k rest (Ic s d v) w'') (hw:Ka ops n s ⟨some d,op,ty,pos,aft,g⟩=true:=by rfl):Og r m ds P R n ops k (⟨some d,op,ty,pos,aft,g⟩::rest) s w:=W6 hrun hc h hw
def SD{l:Nat}{args:Array Operand}{x:Operand}{Rd:Ending->World->Prop}(hY:YieldAt (Fw r) (m-1) P l vs w Rd)
    (hrun:∀{fn:FuncId}{tmps:Array Value}{as_ body:Code},(Instr.yield l vs).run P w=.ok (.round l fn tmps as_ body) w->(execOp (ev n s) ⟨some d,.call ⟨.value x,args,ats⟩,ty,pos,aft,g⟩).run P w=.ok (.round l fn tmps as_ body) w)
    (h:∀e w',Rd e w'->∃v,e=.returned v/\Og r m ds P R n ops k rest (Ic s d v) w') (hw:Ka ops n s ⟨some d,.call ⟨.value x,args,ats⟩,ty,pos,aft,g⟩=true:=by rfl):Og r m ds P R n ops k (⟨some d,.call ⟨.value x,args,ats⟩,ty,pos,aft,g⟩::rest) s w:=by
  obtain⟨fn,tmps,as_,body,hy,hR⟩:=hY;unfold Og wpListIn;rw[wanted_eq,uQ hw];refine⟨λ_ _=>trivial,?_⟩;rw[Bo,Nv (by intro c h;cases h),hrun hy,Oper.uponIn_round];refine⟨λh=>zX,hR.mono λe w' he=>?_⟩;obtain⟨v,rfl,hg⟩:=h e w' he;show wpListIn (Fw r) m P ops.toArray (post r m ds P R n k) rest ((Rw n s ds).put (some d) v) w';rw[Mu];exact hg
def Cg.slots{c:Code}{l:List (Nat × Value)}(hs:AllEq s l)(h:∀s',Cg r m ds P R n c k (Gh s' l) w):Cg r m ds P R n c k s w:=by
  have:=h s
  rwa [<-hs.eq]at this
def Eg.slots{e:Exit}{l:List (Nat × Value)}(hs:AllEq s l)(h:∀s',Eg r m ds P R n e k (Gh s' l) w):Eg r m ds P R n e k s w:=by
  have:=h s
  rwa [<-hs.eq]at this
theorem Z3{b:Bool}(hx:s d=.bool b)(ht:b=true->Og r m ds P R n ops k rest (Ic s d (.bool true)) w)(hf:b=false->Og r m ds P R n ops k rest (Ic s d (.bool false)) w):Og r m ds P R n ops k rest s w :=
  Ko (F:=λs=>Og r m ds P R n ops k rest s w) hx ht hf
theorem GJ{p:Prop}{_:Decidable p}(hx:s d=.bool (decide p))(ht:p->Og r m ds P R n ops k rest (Ic s d (.bool true)) w)(hf:¬p->Og r m ds P R n ops k rest (Ic s d (.bool false)) w):Og r m ds P R n ops k rest s w:=by grind [Z3]
theorem Ky{c:Code}{b:Bool}(hx:s d=.bool b)(ht:b=true->Cg r m ds P R n c k (Ic s d (.bool true)) w)(hf:b=false->Cg r m ds P R n c k (Ic s d (.bool false)) w):Cg r m ds P R n c k s w :=
  Ko (F:=λs=>Cg r m ds P R n c k s w) hx ht hf
theorem B5{c:Code}{p:Prop}{_:Decidable p}(hx:s d=.bool (decide p))(ht:p->Cg r m ds P R n c k (Ic s d (.bool true)) w)(hf:¬p->Cg r m ds P R n c k (Ic s d (.bool false)) w):Cg r m ds P R n c k s w:=by grind [Ky]
variable {w0:World}{Ds:List Nat}{bs bs_ bs':List (Nat × Obj)}{i:Nat}{v:Value}{x y:Code}
def Gk{t:TypeId}{x:Operand}{v:Value}(hF:FR w0 Ds bs w)(hx:ev n s x=v)(hv:v.cells=cs)
    (h:∀b w',b=w.heap.size->FR w0 Ds ((b,.cells cs t)::bs) w'->Same [] w w'->Og r m ds P R n ops k rest (Ic s d (V b)) w')
    (hw:Ka ops n s ⟨some d,.box t x,ty,pos,aft,g⟩=true:=by rfl):Og r m ds P R n ops k (⟨some d,.box t x,ty,pos,aft,g⟩::rest) s w :=
  Ba (TR hx) (h _ _ rfl wK<|Same.alloc w _) hw
def Wm{t:TypeId}(hF:FR w0 Ds bs w)(hz:∀w,(zeroValue t).run P w=.ok z w)(hv:z.cells=cs)
    (h:∀b w',b=w.heap.size->FR w0 Ds ((b,.cells cs t)::bs) w'->Same [] w w'->Og r m ds P R n ops k rest (Ic s d (V b)) w')
    (hw:Ka ops n s ⟨some d,.alloc t,ty,pos,aft,g⟩=true:=by rfl):Og r m ds P R n ops k (⟨some d,.alloc t,ty,pos,aft,g⟩::rest) s w :=
  Ba (Ql hz) (h _ _ rfl wK<|Same.alloc w _) hw
theorem Ye(i:Nat){t:TypeId}{x y:Operand}{v:Value}{l:List Value}{b off:Nat}{cs':Array Value}{T:TypeId}(hF:FR w0 Ds bs w)(hs:∀w,(sizeOf t).run P w=.ok (aL l) w)
    (hx:ev n s x=.pointer (some ⟨b,off,none⟩)) (hy:ev n s y=v) (hl:v.cells=l.toArray) (hv:∀v∈l,one v=true) (hi:bs[i]? = some (b,.cells cs T)) (hsz:off+aL l<=cs.size)
    (hcs:putA cs off l=cs')
    (h:∀w',FR w0 Ds (bs.set i (b,.cells cs' T)) w'->Same [b] w w'->Og r m ds P R n ops k rest s w')
    (hw:Ka ops n s ⟨none,.store t x y,ty,pos,aft,g⟩=true:=by rfl):Og r m ds P R n ops k (⟨none,.store t x y,ty,pos,aft,g⟩::rest) s w:=by
  have hh:=hF.heap hi;have hsp:=Tl b off (fz:=(0,0)) l 0 w cs hh;refine Z0 (O4 hs hx hy hl hv λj hj=>?_) (h (Sh w ⟨b,off,none⟩ 0 l) ?_ hsp.2) hw
  ·have e : (⟨b, off, none⟩ : Addr).add j = ⟨b, off + j, none⟩ := by unfold Addr.add;split <;> simp_all
   rw[e,Db hh];exact⟨⟨cs[off+j]' Aa,Da⟩,Fo hh _⟩
  subst hcs;exact hF.change i hi hsp.2 (aS hsp.1)
theorem Wu{t:TypeId}{y:Operand}{v:Value}{l:List Value}(hF:FR w0 Ds bs w)(hz:∀w,(zeroValue t).run P w=.ok z w)(hs:∀w,(sizeOf t).run P w=.ok (aL l) w)
    (hzl:z.cells.size=aL l) (hy:ev n (Ic s d (.pointer (some ⟨w.heap.size,0,none⟩))) y=v) (hl:v.cells=l.toArray) (hv:∀v∈l,one v=true) (hdn:Nat.blt d n=true)
    (h:∀b w',b=w.heap.size->FR w0 Ds ((b,.cells l.toArray t)::bs) w'->Same [] w w'->Og r m ds P R n ops k rest (Ic s d (V b)) w') :
    Og r m ds P R n ops k (⟨some d,.alloc t,ty,pos,aft,none⟩::⟨none,.store t (.tmp d) y,ty',pos',aft',none⟩::rest) s w:=by
  refine Ba (Ql hz) ?_ O;have hF1:=hF.alloc<|.cells z.cells t;refine Ye 0 (b:=w.heap.size) (off:=0) (cs:=z.cells) (T:=t) (cs':=l.toArray) hF1 hs (by simp[ev,Ic,hdn]) hy hl hv O Aa ?_ (λw' hF' hS=>?_) O
  ·have key:∀(l:List Value)(off:Nat)(cs:Array Value),off+aL l=cs.size->putA cs off l=(cs.toList.take off++l).toArray:=by
     intro l
     induction l with
     | nil =>
       intro off cs h;simp only[putA,qQ];rw[eZ (by simp at h ⊢;omega)]
     | cons v l ih =>
       intro off cs h;simp only[kQ]at h;rw[putA,ih _ _ qM];have hoff:off<aL cs.toList:=by simp;omega
       have e:(cs.setIfInBounds off v).toList.take (off+1)=cs.toList.take off++[v]:=by
         rw[Array.toList_setIfInBounds,iQ (aS hoff),List.take_set_of_le<|gQ _];simp
       rw[e];simp
   grind
  refine h _ w' O hF' ⟨hS.os, hS.tape, hS.output, fQ Da hS.size, λb hb _ => ?_⟩;rw[hS.block b qM qM];exact Below.heap_alloc w _ b hb
def Wr{v:Nat->Value}{o:Obj}{op:Op}(hF:FR w0 Ds bs_ w)(hrun:(execOp (ev n s) ⟨some d,op,ty,pos,aft,g⟩).run P w=.ok (.value (v w.heap.size)) (w.alloc o))
    (h:∀b w',b=w.heap.size->FR w0 Ds ((b,o)::bs_) w'->Same [] w w'->Og r m ds P R n ops k rest (Ic s d (v b)) w')
    (hw:Ka ops n s ⟨some d,op,ty,pos,aft,g⟩=true:=by rfl):Og r m ds P R n ops k (⟨some d,op,ty,pos,aft,g⟩::rest) s w :=
  Ba hrun (h _ _ rfl (hF.alloc _)<|Same.alloc w _) hw
section
variable {C:World->Prop}
def Zb(hy:Y P (ev n s) op v)(h:Og r m ds P R n ops k rest (Ic s d v) w)(hw:Ka ops n s ⟨some d,op,ty,pos,aft,g⟩=true:=by rfl):Og r m ds P R n ops k (⟨some d,op,ty,pos,aft,g⟩::rest) s w:=Ba (hy ..) h hw
def RW(hy:YC (λw'=>w'=w) P (ev n s) op v)(h:Og r m ds P R n ops k rest (Ic s d v) w)(hw:Ka ops n s ⟨some d,op,ty,pos,aft,g⟩=true:=by rfl):Og r m ds P R n ops k (⟨some d,op,ty,pos,aft,g⟩::rest) s w:=Ba (hy _ _ _ _ _ w rfl) h hw
def G5{p:Prop}{_:Decidable p}(hx:ev n s (.tmp d)=.bool (decide p))(ht:p->Cg r m ds P R n x k (Ic s d (.bool true)) w)(hf:¬p->Cg r m ds P R n y k (Ic s d (.bool false)) w)(hd:Nat.blt d n=true:=by rfl):Cg r m ds P R n (.cond (.tmp d) x y) k s w :=
  B5 kW (λh=>L8 bB<|ht h) (λh=>Zo bB<|hf h)
def c_sb{b:Bool}(hx:ev n s (.tmp d)=.bool b)(hd:Nat.blt d n=true)(ht:b=true->Cg r m ds P R n x k (Ic s d (.bool true)) w)(hf:b=false->Cg r m ds P R n y k (Ic s d (.bool false)) w):Cg r m ds P R n (.cond (.tmp d) x y) k s w :=
  Ky kW (λh=>L8 bB<|ht h) (λh=>Zo bB<|hf h)
end
end
section
variable {r:Option Nat}{m:Nat}{ds:List Deferred}{P:Program}{R:Exit->Act->World->Prop}{n:Nat}{k:Kt}{s:Nat->Value}{w w0:World}{ops rest:List Oper}{Ds:List Nat}{bs_ bs':List (Nat × Obj)}
variable {d i:Nat}{ty:TypeId}{pos:String}{aft:Array Edge}{g:Option (Nat × Bool)}{x y:Operand}{t b off ii mm:Nat}{l l':List Value}{u:Value}{T:TypeId}
def GZ(v:Value)(hF:FR w0 Ds bs_ w)(hs:∀w,(sizeOf t).run P w=.ok 1 w)(hx:ev n s x=.pointer (some ⟨b,off,none⟩))(hy:ev n s y=v)(hb:AtI ii bs_ (b,.cells l.toArray T) (b,.cells l'.toArray T) bs')(hc:AtI off l u v l')(h:∀w',FR w0 Ds bs' w'->Same [b] w w'->Og r m ds P R n ops k rest s w')(hv:v.cells=#[v]:=by rfl)(ho:one v=true:=by rfl)(hw:Ka ops n s ⟨none,.store t x y,ty,pos,aft,g⟩=true:=by rfl):Og r m ds P R n ops k (⟨none,.store t x y,ty,pos,aft,g⟩::rest) s w :=
  Ye ii hF (l:=[v]) hs hx hy hv (aS ho) hb.get bP (by rw[Fs,hc.set]) zY hw
def o_sg(hF:FR w0 Ds bs_ w)(hs:∀w,(sizeOf t).run P w=.ok mm w)(hx:ev n s x=V b)(hy:ev n s y=.agg l'.toArray)(hb:AtI ii bs_ (b,.cells l.toArray T) (b,.cells l'.toArray T) bs')(h:∀w',FR w0 Ds bs' w'->Same [b] w w'->Og r m ds P R n ops k rest s w')(hm:aL l'=mm:=by rfl)(hl:aL l=aL l':=by rfl)(ho:l'.all one=true:=by rfl)(hw:Ka ops n s ⟨none,.store t x y,ty,pos,aft,g⟩=true:=by rfl):Og r m ds P R n ops k (⟨none,.store t x y,ty,pos,aft,g⟩::rest) s w :=
  Ye ii hF (l:=l') jU hx hy rfl (List.all_eq_true.1 ho) hb.get (by simp[hl]) (Ij (aS hl)) zY hw
def o_bx(v:Value)(hF:FR w0 Ds bs_ w)(hy:ev n s x=v)(h:∀b w',b=w.heap.size->FR w0 Ds ((b,.cells #[v] t)::bs_) w'->Same [] w w'->Og r m ds P R n ops k rest (Ic s d (V b)) w')(hv:v.cells=#[v]:=by rfl)(hw:Ka ops n s ⟨some d,.box t x,ty,pos,aft,g⟩=true:=by rfl):Og r m ds P R n ops k (⟨some d,.box t x,ty,pos,aft,g⟩::rest) s w:=Gk hF hy hv h hw
def o_bg(hF:FR w0 Ds bs_ w)(hy:ev n s x=.agg cs)(h:∀b w',b=w.heap.size->FR w0 Ds ((b,.cells cs t)::bs_) w'->Same [] w w'->Og r m ds P R n ops k rest (Ic s d (V b)) w')(hw:Ka ops n s ⟨some d,.box t x,ty,pos,aft,g⟩=true:=by rfl):Og r m ds P R n ops k (⟨some d,.box t x,ty,pos,aft,g⟩::rest) s w:=Gk hF hy rfl h hw
def o_ly(v:Value)(hF:FR w0 Ds bs_ w)(hz:∀w,(zeroValue t).run P w=.ok z w)(hs:∀w,(sizeOf t).run P w=.ok 1 w)(hy:ev n (Ic s d (.pointer (some ⟨w.heap.size,0,none⟩))) y=v)(h:∀b w',b=w.heap.size->FR w0 Ds ((b,.cells #[v] t)::bs_) w'->Same [] w w'->Og r m ds P R n ops k rest (Ic s d (V b)) w')(hzl:z.cells.size=1:=by rfl)(hv:v.cells=#[v]:=by rfl)(ho:one v=true:=by rfl)(hdn:Nat.blt d n=true:=by rfl):Og r m ds P R n ops k (⟨some d,.alloc t,ty,pos,aft,none⟩::⟨none,.store t (.tmp d) y,ty',pos',aft',none⟩::rest) s w:=Wu (l:=[v]) hF hz hs hzl hy hv (aS ho) hdn h
def X2(hF:FR w0 Ds bs_ w)(hz:∀w,(zeroValue t).run P w=.ok z w)(hs:∀w,(sizeOf t).run P w=.ok mm w)(hy:ev n (Ic s d (.pointer (some ⟨w.heap.size,0,none⟩))) y=.agg l.toArray)(h:∀b w',b=w.heap.size->FR w0 Ds ((b,.cells l.toArray t)::bs_) w'->Same [] w w'->Og r m ds P R n ops k rest (Ic s d (V b)) w')(hm:aL l=mm:=by rfl)(hzl:z.cells.size=aL l:=by rfl)(ho:l.all one=true:=by rfl)(hdn:Nat.blt d n=true:=by rfl):Og r m ds P R n ops k (⟨some d,.alloc t,ty,pos,aft,none⟩::⟨none,.store t (.tmp d) y,ty',pos',aft',none⟩::rest) s w:=Wu (l:=l) hF hz jU hzl hy rfl (List.all_eq_true.1 ho) hdn h
end
section
variable {r:Option Nat}{md:Nat}{ds:List Deferred}{P:Program}{R:Exit->Act->World->Prop}{n:Nat}{kt:Kt}{s:Nat->Value}{w w0:World}{ops rest:List Oper}{Ds:List Nat}{bs_ sb:List (Nat × Obj)}{pre post:List (Nat × Obj)}
variable {d:Nat}{ty:TypeId}{pos:String}{aft:Array Edge}{g:Option (Nat × Bool)}
def Vk(pre post:List (Nat × Obj)){x y:Operand}{t m bytes:Nat}{len c k:Nat}(hE:Elems P t e m bytes)
    (hF:FR w0 Ds (pre++(sb++post)) w) (hS:SlB e m A len c xs sb) (hx:ev n s x=.slice A len c) (hy:ev n s y=.slice A2 k c2)
    (hl:aL news=k*m) (hnews:k≠0->∃a,A2=some a/\∀j u,news[j]? = some u->w.cell? (a.add j)=some u) (h1:∀u∈news,u.oneCell'=true)
    (h63:len+k<=maxLen)   (hlen:len+k=len') (hys:xs++news=ys) (hbytes:(len+k)*bytes<=140737488355328)
    (h:∀A' c' sb' w',SlB e m A' len' c' ys sb'->FR w0 Ds (pre++(sb'++post)) w'->Same (sb.map (·.1)) w w'->(∀p∈sb',p.1∈sb.map (·.1)\/w.heap.size<=p.1)->Og r md ds P R n ops kt rest (Ic s d (.slice A' len' c')) w')
    (hw:Ka ops n s ⟨some d,.call ⟨.builtin .append,#[x,y],#[t,t]⟩,ty,pos,aft,g⟩=true:=by rfl):Og r md ds P R n ops kt (⟨some d,.call ⟨.builtin .append,#[x,y],#[t,t]⟩,ty,pos,aft,g⟩::rest) s w:=by
  subst hlen hys;obtain⟨i,z,hi,hz,h2,h3,h4⟩:=hE.info;obtain⟨A',c',sb',w',hr,hS',hF',hs,hn⟩:=Qv (ty:=ty) (c2:=c2) hE.ht hi hz h2 h3 h4 hF hS hl hnews h1 h63 hbytes;exact Ba (Fq hx hy hr) (h A' c' sb' w' hS' hF' hs hn) hw
def I6{x y:Operand}{t m bytes:Nat}{len c k:Nat}(hE:Elems P t e m bytes)
    (hF:FR w0 Ds bs_ w) (hS:SlB e m A len c xs sb) (hx:ev n s x=.slice A len c) (hy:ev n s y=.slice A2 k c2)
    (hl:aL news=k*m) (hnews:k≠0->∃a,A2=some a/\∀j u,news[j]? = some u->w.cell? (a.add j)=some u) (h1:∀u∈news,u.oneCell'=true)
    (h63:len+k<=maxLen)   (hlen:len+k=len') (hys:xs++news=ys) (hbytes:(len+k)*bytes<=140737488355328)
    (h:∀A' c' sb' w',SlB e m A' len' c' ys sb'->FR w0 Ds (pre++(sb'++post)) w'->Same (sb.map (·.1)) w w'->(∀p∈sb',p.1∈sb.map (·.1)\/w.heap.size<=p.1)->Og r md ds P R n ops kt rest (Ic s d (.slice A' len' c')) w')
    (hw:Ka ops n s ⟨some d,.call ⟨.builtin .append,#[x,y],#[t,t]⟩,ty,pos,aft,g⟩=true:=by rfl) (hsp:Spl bs_ pre sb post:=by repeat (first|exact Spl.z|apply Spl.c|apply Spl.a)):Og r md ds P R n ops kt (⟨some d,.call ⟨.builtin .append,#[x,y],#[t,t]⟩,ty,pos,aft,g⟩::rest) s w :=
  Vk pre post hE (hsp.eq▸hF) hS hx hy hl hnews h1 h63 hlen hys hbytes h hw
end
section
variable {r:Option Nat}{m:Nat}{ds:List Deferred}{P:Program}{R:Exit->Act->World->Prop}{n:Nat}{k:Kt}{s:Nat->Value}{w w0:World}{Ds:List Nat}{bs_:List (Nat × Obj)}
def same_put(w:World)(l:Nat)(o:Obj):Same [l] w (w.putObj l o):=⟨rfl,rfl,rfl,by simp[World.putObj],λb hb hn=>World.putObj_heap_other (aS hn)⟩
theorem FR.put(hF:FR w0 Ds bs_ w)(i:Nat){l:Nat}{o:Obj}(o':Obj)(hi:bs_[i]? = some (l,o)):FR w0 Ds (bs_.set i (l,o')) (w.putObj l o'):=by
  have hlt:l<w.heap.size:=Pa<|hF.heap hi;exact hF.change i hi (same_put w l o')<|World.putObj_heap_same hlt
def Jw(fn:FuncId)(n:Nat)(s:Nat->Value)(ps:Array Tmp)(as_ body:Code)(D:Nat)(st:LoopState):Obj:=.loop { state:=st,pending:=none,fn:=fn,tmps:=(Rw n s []).tmps,params:=ps,assign:=as_,body:=body,defers:=D }
def mark(D:Nat):List Deferred:=[{ target:=.collected D,args:=#[] }]
variable {fn l D:Nat}{ps:Array Tmp}{as_ body:Code}{Rd:Ending->World->Prop}
def GS:Kt->Bool
  | .done=>true
  | .seq _ k=>GS k
  | .block _ k=>GS k
  | .inv _ _ _=>false
theorem Q4{ds':List Deferred}:∀{k:Kt},GS k=true->post r m ds P R n k=post r m ds' P R n k
  | .done,_=>rfl
  | .seq y k,h=>by rw[post,post,Q4 (k:=k) h]
  | .block id k,h=>by rw[post,post,Q4 (k:=k) h]
  | .inv _ _ _,h=>by cases h
def y_round{s':Nat->Value}(hl:w.heap[l]? = some (Jw fn n s ps as_ body D .ready))(hsz:vs.size=ps.size)(hs:(ps.zip vs).foldl (λtmps (x:Tmp × Value)=>tmps.setIfInBounds x.1 x.2) (Rw n s []).tmps=(Rw n s' []).tmps)
    (h:Cg (some l) m [] P (Exit.then (λa1 w1=>∃w2,(Instr.beginRound l).run P w1=.ok () w2/\body.wpIn (Fw (some l)) m P (roundPost P l Rd) a1 w2) (λ_ _ _=>False)) n as_ .done s' w):YieldAt (Fw none) m P l vs w Rd:=by
  refine⟨fn,_,as_,body,run_yield hl hsz,?_⟩;refine roundIn_of_wpIn trivial ?_;have e:({ tmps:=(ps.zip vs).foldl (λtmps (x:Tmp × Value)=>tmps.setIfInBounds x.1 x.2) (Rw n s []).tmps,defers:=[] }:Act)=Rw n s' []:=by rw[hs];rfl
  exact e▸h
def as_end(hl:w.heap[l]? = some (Jw fn n s0 ps as_ body D .ready))(h:Cg (some l) m [] P (roundPost P l Rd) n body .done s1 (w.putObj l (Jw fn n s0 ps as_ body D .busy))) :
    Eg (some l) m [] P (Exit.then (λa1 w1=>∃w2,(Instr.beginRound l).run P w1=.ok () w2/\body.wpIn (Fw (some l)) m P (roundPost P l Rd) a1 w2) (λ_ _ _=>False)) n .normal .done s1 w :=
  ⟨_,run_beginRound hl rfl,h⟩
theorem body_end(hl:w.heap[l]? = some (Jw fn n s0 ps as_ body D .busy))(h:Rd (.returned (.bool true)) (w.putObj l (Jw fn n s0 ps as_ body D .ready))) :
    Eg (some l) m [] P (roundPost P l Rd) n .normal .done s1 w:=⟨_,_,run_endRound none hl,h⟩
def SC{fn:Func}{c:Code}(hf:P.funcs[f]? = some fn)(hb:fn.body=some c)(hn:fn.ntmps=n)(hsz:args.size<=n)
    (hs:∀i,args.getD i undef=Gh (λ_=>undef) li i)
    (h:Cg none m [] P (bodyPostM Fence.wide m P fn (Za Q)) n c .done (Gh (λ_=>undef) li) w):Calls P f args w (Za Q):=by
  refine (callsIn_wide (n:=m)).1 (callsIn_of_wp_marks hf hb trivial ?_ O);rw[hn,C6 n args hsz,show (λi=>args.getD i undef)=Gh (λ_=>undef) li from funext hs];exact h
def IB{fn:Func}{v:Value}(hK:w.heap[D]? = some (.deferred (some [])))(hr:(results fn (Bi n s).tmps).run P (w.putObj D (.deferred none))=.ok v (w.putObj D (.deferred none)))(h:Q v (w.putObj D (.deferred none))) :
    bodyPostM Fence.wide m P fn (Za Q) .ret (Rw n s (mark D)) w:=by
  refine⟨by simp[mark],.inl ⟨_,_,O,run_takeDeferred hK,?_⟩⟩;exact⟨v,hr,v,O,h⟩
def FC{fn:Func}{c:Code}(hf:P.funcs[f]? = some fn)(hb:fn.body=some c)(hn:fn.ntmps=n)(hsz:args.size<=n)
    (hs:∀i,args.getD i undef=Gh (λ_=>undef) li i)
    (h:Cg none m [] P (bodyPost P fn (Za Q)) n c .done (Gh (λ_=>undef) li) w):Calls P f args w (Za Q):=by
  refine (callsIn_wide (n:=m)).1 (callsIn_of_wp hf hb trivial ?_ O);rw[hn,C6 n args hsz,show (λi=>args.getD i undef)=Gh (λ_=>undef) li from funext hs];exact h
end
section
variable {P:Program}{ρ:Operand->Value}{dst:Option Nat}{ty:TypeId}{pos:String}{aft:Array Edge}{g:Option (Nat × Bool)}{w:World}
def O5{l:Nat}{x x1 x2:Operand}{v1 v2:Value}{fn:FuncId}{tmps:Array Value}{as_ body:Code}(hx:ρ x=.func (.yield l) #[] #[])(h1:ρ x1=v1)(h2:ρ x2=v2)(hy:(Instr.yield l #[v1,v2]).run P w=.ok (.round l fn tmps as_ body) w) :
    (execOp ρ ⟨dst,.call ⟨.value x,#[x1,x2],ats⟩,ty,pos,aft,g⟩).run P w=.ok (.round l fn tmps as_ body) w:=by simp[execOp,resolve,Deferred.ofValue,hx,h1,h2,invoke,hy]
end
attribute [irreducible] Cg Eg Og
end Go.Scarf.Fn
namespace Go.Scarf
open List renaming length->aL
open Go.RowKit Go.Proofs Go.Proofs.Tryz
def wordN_le(s:Str):0<=Ik s/\Ik s<=12:=by unfold Ik;(repeat' split) <;> decide
def Ls(x:Tk):Prop:=0<=x.k/\x.k<=12/\x.f<x.t/\x.t<=65536
def Oy{s:Str}{a:Nat}(ha:a<aL s)(h:(Ae s a).2=0):a<(Ae s a).1.t/\(Ae s a).1.t<=aL s/\(Ae s a).1.f=a/\0<=(Ae s a).1.k/\(Ae s a).1.k<=12:=by
  unfold Ae at h ⊢;have h0:0<aL (s.drop a):=by rw[zQ];omega
  rw[HB h0]at h ⊢;have hpos:∀p:UInt8->Bool,p (s.drop a)[0]=true->0<Hd p (s.drop a):=λp hp=>by
    cases hd:s.drop a with
    | nil=>rw[hd]at h0;simp at h0
    | cons c r=>simp only[hd,List.getElem_cons_zero]at hp;rw[Hd,uQ hp];omega
  have hle:∀p:UInt8->Bool,Hd p (s.drop a)<=aL s-a:=λp=>by have:=Rk p<|s.drop a;rwa [zQ]at this
  have hq:=EV s a Aa;generalize (s.drop a)[0]=c at h hpos ⊢;unfold Xc at h ⊢;dsimp only at h ⊢;split at h
  ·rename_i h1;rw[uQ h1];have:=(E8 [123,125,91,93,44,58] c).2;simp only[kQ,cZ]at this;exact⟨by simp only;omega,by simp only;omega,rfl,by simp only;omega,by simp only;omega⟩
  rename_i h1;rw[tQ h1]
  split at h
  ·rename_i h2;rw[uQ h2];have:=hpos _ h2;have:=hle blankB;exact⟨by simp only;omega,by simp only;omega,rfl,by simp only;decide,by simp only;decide⟩
  rename_i h2;rw[tQ h2]
  split at h
  ·rename_i h3;rw[uQ h3]
   split at h
   ·rename_i h4;rw[uQ h4]
    refine⟨?_,hq.1,O,by simp only;decide,by simp only;decide⟩;show a<(Wc s a).2.1;unfold Wc at h4 ⊢;split at h4
    ·rename_i h5;rw[uQ h5]
     have:=W0 (aL s-a) s (a+1) [] Aa Aa;omega
    cases h4
   rename_i h4;exact absurd h h4
  rename_i h3;rw[tQ h3]
  split at h
  ·rename_i h4;rw[uQ h4]
   split at h
   ·rename_i h5;rw[uQ h5]
    have hn:numB c=true:=by
      have:∀n<256,((UInt8.ofNat n).toNat=45\/(48<=(UInt8.ofNat n).toNat/\(UInt8.ofNat n).toNat<=57))->numB (UInt8.ofNat n)=true:=by decide +kernel
      have h2:=this c.toNat<|UInt8.toNat_lt c;simp only[UInt8.ofNat_toNat]at h2;exact h2 h4
    have:=hpos _ hn;have:=hle numB;exact⟨by simp only;omega,by simp only;omega,O,by simp only;decide,by simp only;decide⟩
   rename_i h5;exact absurd h h5
  rename_i h4;rw[tQ h4]
  split at h
  ·rename_i h5;rw[uQ h5]
   have:=hle smallB;have hw:=wordN_le<|(s.drop a).take (Hd smallB<|s.drop a);refine⟨?_,by simp only;omega,O,hw.1,hw.2⟩;show a<a+Hd smallB (s.drop a);rcases Nat.eq_zero_or_pos (Hd smallB<|s.drop a)with h6|h6
   ·rw[h6]at h5;exact absurd (by rw[List.take_zero];rfl) h5
   omega
  cases h
def all_c(s:Str)(w0:World):Calls prog 169 #[.string (bs s)] w0 (Za λv w'=>∃b:Nat,v=.func (.func 230) #[] #[V b]/\w'.heap[b]? = some (.cells #[.string (bs s)] 9)/\w0.heap.size<=b/\Same [] w0 w'):=by
 refine Yl func169 O ntmps169 Bf (BN _) ?_;have hF:=FR.start w0 [];refine n_cr<|o_bx (.string _) hF O ?_;rintro b1 w hb1 hF -;refine Zb (yau)<|n_nc<|Ba (v:=.func (.func 230) #[] #[V b1]) Pi<|Zb (yau)<|n_ns ?_;refine rt1 (v:=.func (.func 230) #[] #[V b1]) ?_;exact⟨b1,O,hF.heap (i:=0) O,hF.ge (i:=0) O,hF.same⟩
end Go.Scarf
namespace Go.Scarf.Fn
open List renaming length->aL
open Go.Scarf Go.RowKit Go.Proofs Go.Proofs.Tryz
variable {b:Nat}{x y:Value}
section
variable {P:Program}{n:Nat}{s:Nat->Value}{w w0:World}{Ds:List Nat}{bs_ bs':List (Nat × Obj)}
theorem FR.takeK{w':World}{o:Obj}(hF:FR w0 Ds bs_ w)(hE:Same [] w w')(hh:w'.heap[b]? = some o)(hg:w.heap.size<=b):FR w0 Ds ((b,o)::bs_) w' :=
  (hF.ext hE).addD hh (.inl<|fQ hF.same.size hg) λq hq=>by have:=Pa<|hF.memHeap hq;omega
def KI(n:Nat)(s:Nat->Value)(d:Nat)(v:Value):(Rw n s []).tmps.setIfInBounds d v=(Rw n (Ic s d v) []).tmps:=by
  have:=Mu n s [] (some d) v;exact yQ Act.tmps this
def res_3c{fn:Func}{a c T1 T2 T3:Nat}{p q r:Addr}{z:Value}(h:fn.results=#[.cell a T1,.cell b T2,.cell c T3])(ha:ev n s (.tmp a)=.pointer (some p))(hb:ev n s (.tmp b)=.pointer (some q))(hc:ev n s (.tmp c)=.pointer (some r))
    (g1:∀w,(isAgg T1).run P w=.ok false w) (g2:∀w,(isAgg T2).run P w=.ok false w) (g3:∀w,(isAgg T3).run P w=.ok false w) (h1:w.cell? p=some x) (h2:w.cell? q=some y) (h3:w.cell? r=some z) :
    (results fn (Bi n s).tmps).run P w=.ok (.tuple #[x,y,z]) w:=by
  have e1:=Ke n s a;have e2:=Ke n s b;have e3:=Ke n s c;rw[ha,Array.getD_eq_getD_getElem?]at e1;rw[hb,Array.getD_eq_getD_getElem?]at e2;rw[hc,Array.getD_eq_getD_getElem?]at e3;have k1:(loadVar T1 p).run P w=.ok x w:=by simp[loadVar,g1,load,Sem.run,h1]
  have k2:(loadVar T2 q).run P w=.ok y w:=by simp[loadVar,g2,load,Sem.run,h2]
  have k3:(loadVar T3 r).run P w=.ok z w:=by simp[loadVar,g3,load,Sem.run,h3]
  simp[results,h,e1,e2,e3,asAddr,k1,k2,k3]
end
def tkC(x:Tk):List Value:=[J x.k,J (x.f:Nat),J (x.t:Nat)]
def tkCs(l:List Tk):List Value:=l.flatMap tkC
def tkCs_snoc(l:List Tk)(x:Tk):tkCs (l++[x])=tkCs l++tkC x:=by simp[tkCs]
section
variable {r:Option Nat}{m:Nat}{ds:List Deferred}{P:Program}{R:Exit->Act->World->Prop}{n:Nat}{k:Kt}{s:Nat->Value}{w w0:World}{Ds:List Nat}{bs_:List (Nat × Obj)}{fn l D:Nat}{ps:Array Tmp}{as_ body:Code}{Rd:Ending->World->Prop}{RC:LoopState->Obj}{s1 s0:Nat->Value}
def y_roundR{vs:Array Value}{s':Nat->Value}(hRC:RC=Jw fn n s ps as_ body D)(hl:w.heap[l]? = some (RC .ready))(hsz:vs.size=ps.size)(hs:(ps.zip vs).foldl (λtmps (x:Tmp × Value)=>tmps.setIfInBounds x.1 x.2) (Rw n s []).tmps=(Rw n s' []).tmps)
    (h:Cg (some l) m [] P (Exit.then (λa1 w1=>∃w2,(Instr.beginRound l).run P w1=.ok () w2/\body.wpIn (Fw (some l)) m P (roundPost P l Rd) a1 w2) (λ_ _ _=>False)) n as_ .done s' w):YieldAt (Fw none) m P l vs w Rd:=y_round (hRC▸hl) hsz hs h
def foldl2(n:Nat)(s:Nat->Value)(a b:Tmp)(x y:Value):((#[a,b]:Array Tmp).zip #[x,y]).foldl (λtmps (x:Tmp × Value)=>tmps.setIfInBounds x.1 x.2) (Rw n s []).tmps=(Rw n (Ic (Ic s a x) b y) []).tmps:=by
  rw[<-KI,<-KI];simp
def JZ{a b:Tmp}(hRC:RC=Jw fn n s #[a,b] as_ body D)(hl:w.heap[l]? = some (RC .ready))
    (h:Cg (some l) m [] P (Exit.then (λa1 w1=>∃w2,(Instr.beginRound l).run P w1=.ok () w2/\body.wpIn (Fw (some l)) m P (roundPost P l Rd) a1 w2) (λ_ _ _=>False)) n as_ .done (Ic (Ic s a x) b y) w):YieldAt (Fw none) m P l #[x,y] w Rd:=y_roundR hRC hl rfl (foldl2 n s a b x y) h
def as_endR(hRC:RC=Jw fn n s0 ps as_ body D)(hl:w.heap[l]? = some (RC .ready))(h:Cg (some l) m [] P (roundPost P l Rd) n body .done s1 (w.putObj l (RC .busy))) :
    Eg (some l) m [] P (Exit.then (λa1 w1=>∃w2,(Instr.beginRound l).run P w1=.ok () w2/\body.wpIn (Fw (some l)) m P (roundPost P l Rd) a1 w2) (λ_ _ _=>False)) n .normal .done s1 w:=by
  subst hRC;exact as_end hl h
theorem LU(hRC:RC=Jw fn n s0 ps as_ body D)(hl:w.heap[l]? = some (RC .busy))(h:Rd (.returned (.bool true)) (w.putObj l (RC .ready))) :
    Eg (some l) m [] P (roundPost P l Rd) n .normal .done s1 w:=by
  subst hRC;grind [body_end]
end
theorem tk_reps{S:Nat->Prop}{w:World}:∀l:List Tk,(∀y∈l,Ls y)->RepL S w (l.map VT) (tkCs l)
  | [],_=>RepL.nil_mk
  | x :: l, h => by
    have hx:Ls x:=h x aZ;unfold Ls at hx;have k1:N2 (J x.k):=by exact⟨by show (-9223372036854775808:Int)<=_;omega,by show _<=(9223372036854775807:Int);omega⟩
    have k2:N2 (J (x.f:Nat)):=by exact⟨by show (-9223372036854775808:Int)<=_;omega,by show _<=(9223372036854775807:Int);omega⟩
    have k3:N2 (J (x.t:Nat)):=by exact⟨by show (-9223372036854775808:Int)<=_;omega,by show _<=(9223372036854775807:Int);omega⟩
    have h1:Rep S w (VT x) (tkC x):=by
      simp only[VT,Lg,Rep,RepL];exact⟨_,_,O,⟨O,k1⟩,_,_,O,⟨_,_,O,⟨O,k2⟩,_,_,O,⟨O,k3⟩,O⟩,O⟩
    exact RepL.cons_mk h1<|tk_reps l λy hy=>h y<|iZ _ hy
end Go.Scarf.Fn
namespace Go.Scarf
open List renaming length->aL
variable {S:Nat->Prop}{w w0 w1 w2:World}{cs l r v1 vals:List Value}{A:Option Addr}{s:Str}{Ds i:List Nat}{T b1 b2 n:Nat}{sm0:List (Nat × Obj)}{d:D}{a:Value}
set_option synthInstance.maxHeartbeats 0
set_option synthInstance.maxSize 9999
open Go.RowKit Go.Proofs Go.Proofs.Tryz
def Rep.tok_at{l:List Tk}{len c:Nat}(h:Rep S w (Le l) [.slice A len c]){i:Nat}(hi:i<aL l) :
    ∃ad,A=some ad/\S (ad.add (i*3)).block/\∀j (hj:j<aL [Value.int .i64 l[i].k,J (l[i].f:Nat),J (l[i].t:Nat)]),w.cell? ((ad.add (i*3)).add j)=some [Value.int .i64 l[i].k,J (l[i].f:Nat),J (l[i].t:Nat)][j]:=by
  obtain⟨ad,hA,hk⟩:=h.tok_elem hi;refine⟨ad,hA,?_,hk⟩;obtain⟨A',c',e,-,-,hr⟩:=Rep.slice_inv h;simp only[List.cons.injEq,Value.slice.injEq,and_true]at e;obtain⟨rfl,-,rfl⟩:=e;obtain⟨ad',e2,es,hc,hl⟩:=hr (λe=>by have:=yQ List.length e;simp at this;rw[this]at hi;cases hi);subst hA;obtain rfl:=lQ e2;have hne:0<aL es:=by
    cases l with
    | nil=>cases hi
    | cons x xs=>obtain⟨c1,c2,rfl,h1,-⟩:=RepL.cons_inv hl;obtain rfl:=S4 h1;simp
  rw[Tb];exact (hc 0 hne).2
def Zh(s:Str):List Tk:=(Ib s).1.filter λt=>decide (t.k≠1)
def So(s:Str):Ps:=⟨Zh s,0,0,[],0,0⟩
def ZD(h:∀y∈(Ib s).1,Ls y):∀y∈Zh s,Ls y:=λy hy=>h y (List.mem_filter.1 hy).1
def D_(h:∀y∈(Ib s).1,Ls y):NP (So s):=⟨⟨dZ _,by simp[So]⟩,by simp[So],λx hx=>by have:=ZD h x hx;unfold Ls at this;exact⟨Aa,Aa⟩,dZ _⟩
def p0_Jp{o:Obj}{sts:List (Nat × Obj)}{c:Nat}(hF:FR w1 Ds ([(b2,.cells (Qq s A c (So s) none 0).toArray 138),(b1,o)]++(sts++[])) w)(hS:SlB 140 3 A (aL (Zh s)) c (Fn.tkCs (Zh s)) sts)(hok:∀y∈Zh s,Ls y) :
    Jp (λx=>x<w.heap.size/\x≠b1/\x≠b2) w [(b1,o)] [(b2,.cells (Qq s A c (So s) none 0).toArray 138)] b2 s (So s):=by
  have hd:=List.pairwise_append.1 hF.desc;refine⟨⟨none,A,0,c,[],[],[],O,SlB.nil _ _,.nil,hS.repOf (λq hq=>?_) (Fn.tk_reps _ hok) (by rw[rQ];rfl)⟩,λx hx=>⟨hx.1,λhm=>?_⟩,?_,λq hq=>?_⟩
  ·have hq' : q ∈ sts ++ [] := by simpa using hq
   have ho:=hF.own q<|kZ _ hq';exact⟨ho.1,Pa ho.1,hd.2.2 (b1,o) Da q hq',hd.2.2 (b2,_) aZ q hq'⟩
  ·simp only[ids, qQ, jQ, lZ, List.map_nil, List.cons_append, nZ, oQ, List.not_mem_nil, or_false]at hm
   rcases hm with h|h
   ·exact hx.2.1 h
   exact hx.2.2 h
  ·have := (List.pairwise_cons.1 hd.1).1 (b1, o) Da
   simp;exact λe=>this e.symm
  simp only[qQ, List.cons_append, nZ, oQ, List.not_mem_nil, or_false]at hq;rcases hq with rfl|rfl
  ·exact (hF.own _ Da).1
  exact (hF.own _ Da).1
def KB{own sl sb:List (Nat × Obj)}{c:Nat}{l:List Nd}(hF:FR w2 (ids sm0) (own++([]++(sl++(sb++[])))) w)(h1:SlB 145 7 A (aL l) c vals sl)(h2:NdsAt 3 136 l vals sb)(hnd:∀x∈l,NdOk x)(hlow:∀x,w2.heap.size<=x\/x∈ids sm0->w0.heap.size<=x) :
    Rep (Btw w0 w) w (.slice (l.map ndD)) [.slice A (aL l) c]:=by
  have hb:∀q∈sl++sb,(∃cs T,q.2=.cells cs T)->w.heap[q.1]? = some q.2/\Btw w0 w q.1:=λq hq ⟨cs,T,e⟩=>by
    have ho:=hF.own q (by simp only[nZ,qQ];exact kZ _ hq);exact⟨ho.1,hlow _ ho.2,Pa ho.1,cs,T,by rw[<-e];exact ho.1⟩
  exact h1.repOf (λq hq=>hb q (List.mem_append_left _ hq) (by obtain⟨cur,e⟩:=h1.typ1.2 q hq;exact⟨_,_,e⟩)) (nds_rep h2 hnd λq hq=>hb q (kZ _ hq)<|h2.soft q hq) Da
def Gu(hok:(Ib s).2.2=0){b:Bool}{q:Ps}(hr:Wa s 32 0 0 (So s)=(b,q)):Vb s=if b=false then ([],q.at_,q.err) else if q.rest≠[] then ([],q.here (aL s),2) else (q.nodes,aL s,0):=by
  unfold Vb;dsimp only;rw[tQ (by rw[hok];decide)];unfold So Zh at hr;rw[hr]
def Ou{l:List Tk}{j:Nat}(hj:j<aL l):(l.take (j+1)).filter (λt=>decide (t.k≠1))=(l.take j).filter (λt=>decide (t.k≠1))++(if l[j].k≠1 then [l[j]] else []):=by
  rw[iQ hj,List.filter_append]
  congr 1
  by_cases h:l[j].k=1 <;> simp[h]
def Mi{P:Program}{s:Nat->Value}{fn:Func}{t u x:Nat}{a:Addr}{m:Nat}{v y:Value}(h:fn.results=#[.cell t T,.tmp u,.tmp x])(hx:ev n s (.tmp t)=.pointer (some a))(ha:∀w,(isAgg T).run P w=.ok true w)(hs:∀w,(sizeOf T).run P w=.ok m w)(hm:aL l=m)
    (hc:∀j (h:j<aL l),w.cell? (a.add j)=some l[j]) (hv:ev n s (.tmp u)=v) (hy:ev n s (.tmp x)=y):(results fn (Bi n s).tmps).run P w=.ok (.tuple #[.agg l.toArray,v,y]) w:=by
  have h1:=Ke n s t;have h2:=Ke n s u;have h3:=Ke n s x;rw[hx,Array.getD_eq_getD_getElem?]at h1;rw[hv,Array.getD_eq_getD_getElem?]at h2;rw[hy,Array.getD_eq_getD_getElem?]at h3;simp[results,h,h1,h2,h3,asAddr,Vm ha hs hm hc]
def CP(h1:Same [] w0 w1)(h2:Same [b1] w1 w2)(hb1:w0.heap.size<=b1)(hb2:w1.heap.size<=b2)(e:ids sm0=[b1,b2]):∀x,w2.heap.size<=x\/x∈ids sm0->w0.heap.size<=x:=λx hx=>by
  have k1:=h1.size;have k2:=h2.size;rw[e]at hx;simp only[oQ,List.not_mem_nil,or_false]at hx;omega
def Zj(h1:Same [] w0 w1)(h2:Same [b1] w1 w2)(h3:Same Ds w2 w)(hb1:w0.heap.size<=b1)(hlow:∀x,w2.heap.size<=x\/x∈Ds->w0.heap.size<=x):Same [] w0 w :=
  ⟨h3.os.trans<|h2.os.trans h1.os,h3.tape.trans<|h2.tape.trans h1.tape,h3.output.trans<|h2.output.trans h1.output,fQ h1.size<|fQ h2.size h3.size,λb hb _=>by
    have hq1:=h1.size;have hq2:=h2.size;rw[h3.block b Aa (λh=>by have:=hlow b<|.inr h;omega),h2.block b Aa (λh=>by rw[pQ.1 h]at hb;omega),h1.block b hb Da]⟩
theorem GA(s:Str):∀(f a:Nat)(out:List Tk),aL (Dl f s a out).1<=aL out+(aL s-a)
  | 0,a,out=>by simp[Dl]
  | f + 1, a, out => by
    rw[Dl];split
    ·rename_i hlt
     split
     ·rename_i h0
      have h1:=Oy hlt h0;have h2:=GA s f (Ae s a).1.t<|out++[(Ae s a).1];simp only[dQ,kQ,cZ]at h2;omega
     exact dZ _
    exact Nat.le_add_right _ _
def G_(s:Str):aL (Ib s).1<=aL s:=by
  unfold Ib;split
  ·exact dZ _
  have := GA s (aL s + 1) 0 [];simpa using this
def par_ge{o1 o2:Obj}{r:List (Nat × Obj)}(hF:FR w1 [b1] ([(b2,o2),(b1,o1)]++r) w):w1.heap.size<=b2:=by
  rcases hF.geD (i:=0) rfl with h|h
  ·exact h
  exact absurd (pQ.1 h).symm<|(List.pairwise_cons.1 (List.pairwise_append.1 hF.desc).1).1 (b1,o1) Da
def Ll(v:Tree):List Mm:=v.items.map λy=>(Yb y).1
def Ih(s:Str):List Mm × Bool:=if (Ab s).2.2=0/\(Ab s).1.kind=5/\((Ab s).1.items.all λy=>(Yb y).2)=true/\Cm (Ll (Ab s).1)=(s,0) then (Ll (Ab s).1,true) else ([],false)
def Kp.mono{w':World}(hs:w.heap.size<=w'.heap.size)(h:Rep (Kp i w) w' d cs):Rep (Kp i w') w' d cs:=h.weaken λb hb _=>⟨Nat.lt_of_lt_of_le hb.1 hs,hb.2⟩
def KX.one(h:KX i w [d] cs):Rep (Kp i w) w d cs:=by
  obtain⟨c1,c2,rfl,h1,h2⟩:=RepL.cons_inv h;obtain rfl:=RepL.nil_inv h2;simpa using h1
def Rl(h:¬((Ab s).2.2=0/\(Ab s).1.kind=5/\((Ab s).1.items.all λy=>(Yb y).2)=true/\Cm (Ll (Ab s).1)=(s,0))):Ih s=([],false):=by unfold Ih;rw[tQ h]
def KX.rowM{ts:List Mm}{c:Nat}{pre its post:List (Nat × Obj)}(hF:FR w0 Ds (pre++(its++post)) w)(hS:SlB T 6 A n c vals its)(h:KX i w (ts.map Sw) vals)(hn:aL ts=n):Rep (λ_=>True) w (Jd ts) [.slice A n c] :=
  hS.repOf (λp hp=>⟨hF.memHeap bJ,trivial⟩) h.any (aS hn)
def Ey{x:Str × Int}(h:x=(s,0))(h2:x.2≠0\/x.1≠s):False:=by
  subst h;rcases h2 with h|h
  ·exact h O
  exact h O
def GU(m:Mm):Mm:=⟨m.pr,Gj m.sd⟩
def ZM{t:List Mm}{c:Nat}(h:Rep S w (Jd t) [.slice A n c]) :
    ∃vals:List Value,aL vals=aL t*6/\RepL S w (t.map Sw) vals/\(aL t≠0->∃ad,A=some ad/\∀j u,vals[j]? = some u->w.cell? (ad.add j)=some u):=by
  obtain⟨A',c',e,g1,g2,hr⟩:=Rep.slice_inv h;simp only[List.cons.injEq,Value.slice.injEq,and_true]at e;obtain⟨rfl,-,-⟩:=e;cases t with
  | nil=>exact⟨[],rfl,RepL.nil_mk,λh=>absurd rfl h⟩
  | cons m t =>
    obtain⟨ad,rfl,es,hc,hl⟩:=hr Da;refine⟨es,?_,hl,λ_=>⟨ad,O,λj u hu=>?_⟩⟩
    ·have := RepL.length hl
     rw[this];clear this hl hc hr h;generalize m::t=l
     induction l with
     | nil=>rfl
     | cons x l ih=>rw[lZ,Gc.sizeL,ih,U6,kQ];omega
    obtain⟨hj, rfl⟩ := List.getElem?_eq_some_iff.1 hu;exact (hc j hj).1
theorem Sz{S:Nat->Prop}{w:World}:∀{t:List Mm}{vals:List Value}(h:RepL S w (t.map Sw) vals){i:Nat}(hi:i<aL t),
    ∃x:Sv,vals.drop (i*6)=Lp t[i].pr x++vals.drop ((i+1)*6)/\Rep S w (Ad t[i].sd) x.cells/\aL t[i].pr<=9223372036854775807
  | [],_,_,i,hi=>by cases hi
  | m :: t, vals, h, 0, hi => by
    obtain⟨c1,c2,rfl,h1,-⟩:=RepL.cons_inv h;obtain⟨x,rfl,hx,hp⟩:=Yw h1;exact⟨x,Da,hx,hp⟩
  | m :: t, vals, h, i + 1, hi => by
    obtain⟨c1,c2,rfl,h1,h2⟩:=RepL.cons_inv h;obtain⟨x,rfl,-,-⟩:=Yw h1;obtain⟨y,e,hy,hp⟩:=Sz h2 (i:=i) (aS hi);refine⟨y,?_,hy,hp⟩;have e1:∀k,(Lp m.pr x++c2).drop ((k+1)*6)=c2.drop (k*6):=λk=>by
      rw[show (k+1)*6=aL (Lp m.pr x)+k*6 from by simp[Lp];omega,<-List.drop_drop,List.drop_left]
    rw[e1,e1];exact e
def splC_all{cur:List Value}(h:aL cs=aL cur):Xx cur 0 cs=cs:=by
  unfold Xx;rw[List.take_zero,nZ,Nat.zero_add,h,List.drop_length,qQ]
def FL{g:Nat}(hh:w.heap[g]? = some (.cells (v1++(a::(l++r))).toArray T))(hv:aL v1=n):∀j (hj:j<aL l),w.cell? ((⟨g,n+1,none⟩:Addr).add j)=some l[j]:=λj hj=>by
  rw[Te,Db hh,List.getElem?_toArray,List.getElem?_append_right Aa,hv,show n+1+j-n=j+1 from by omega,List.getElem?_cons_succ,List.getElem?_append_left hj,List.getElem?_eq_getElem hj]
theorem V9:∀(l:List Value)(off:Nat)(cs:List Value),off+aL l<=aL cs->putA cs.toArray off l=(cs.take off++(l++cs.drop (off+aL l))).toArray
  | [],off,cs,h=>by simp[putA]
  | v :: l, off, cs, h => by
    rw[kQ]at h;rw[putA,List.setIfInBounds_toArray,V9 l (off+1) (cs.set off v) (by rw[List.length_set];omega)]
    congr 1
    have:=list_seg_step cs off v l h;simpa[sQ]using this
def OF{l':List Value}(hv:aL v1=n)(hl:aL l'=aL l):putA (v1++(a::(l++r))).toArray (n+1) l'=(v1++(a::(l'++r))).toArray:=by
  have e:v1++(a::(l++r))=(v1++[a])++(l++r):=Da
  rw[e,V9 _ _ _ qM]
  congr 1
  have h1:((v1++[a])++(l++r)).take (n+1)=v1++[a]:=by rw[<-hv];exact List.take_left' Da
  have h2:((v1++[a])++(l++r)).drop (n+1+aL l')=r:=by rw[<-sQ];exact List.drop_left' qM
  rw[h1,h2];simp
def PV(t:List Mm)(A:Option Addr)(c:Nat)(S:Nat->Prop)(w0:World)(hX:Rep S w0 (Jd t) [.slice A (aL t) c])(hm:∀m∈t,MmOk m)(htl:aL t<=1000000)(hG:Gl w0):Calls prog 56 #[.slice A (aL t) c] w0 (Za λv w'=>∃(g:Nat)(vals:List Value),v=W g (aL t) (aL t)/\w'.heap[g]? = some (.cells vals.toArray 44)/\aL vals=aL t*6/\w0.heap.size<=g/\RX w0 [g] w' ((t.map GU).map Sw) vals/\Same [] w0 w'):=by
 obtain⟨vals0,hv0,hR0,hc0⟩:=ZM hX;refine Ea func56 ntmps56 ?_;intro hF;refine rn 9<|Wr (v:=λb=>W b (aL t) (aL t)) (o:=.cells (Zi [.string<|bs [],.bool false,J 0,.string<|bs [],aQ,aQ] (aL t)).toArray 44) hF (MD (z:=.agg [.string<|bs [],.bool false,J 0,.string<|bs [],aQ,aQ].toArray) (zl:=[.string<|bs [],.bool false,J 0,.string<|bs [],aQ,aQ]) U1 Ua O O O Aa Ja) ?_;intro b1 w hb1 hF hE;clear hE;refine rn 7 ?_;refine DY 0 vals0 (aL t) U1 hF rfl rfl rfl (Nat.min_self _) hv0 (λh=>by obtain⟨ad,e,hc⟩:=hc0 h;exact⟨ad,e,λj u hu=>hF.cell0<|hc j u hu⟩) (by rw[Pk,hv0];simp) (Ig hR0.one_) ?_;intro w hF hE;clear hE;rw[splC_all (by rw[Pk,hv0];rfl)]at hF;have hF:FR w0 [] [(b1,.cells ([]++vals0.drop (0*6)).toArray 44)] w:=hF;refine rn 11<|Sa (λμ σ w=>∃(j:Nat),∃(v1:List Value),μ=aL t-j/\(j<=aL t)/\(aL v1=j*6)/\(RX w0 [b1] w (((t.take j).map GU).map Sw) v1)/\AllEq σ [(3,W b1 (aL t) (aL t)),(12,J<|(aL t:Nat)),(13,J<|(j:Int))]/\FR w0 [] [(b1,(.cells (v1++vals0.drop (j*6)).toArray 44))] w) _ ⟨0,[],O,dZ _,O,RX.nil,Va,hF⟩ ?_;rintro μ σ w ⟨j,v1,rfl,hj,hv1,hV,hzz,hF⟩;refine Wf hzz 7 ⟨λhc0=>?_,λhc0=>?_⟩;refine rn 10 ?_;have hjl:j<aL t:=Aa
 obtain⟨x,hx6,hXs,hpr⟩:=Sz hR0 hjl;rw[hx6]at hF;have hF:FR w0 [] [(b1,(.cells (v1++(Lp t[j].pr x++vals0.drop ((j+1)*6))).toArray 44))] w:=hF;refine rn 5<|Ba (v:=.pointer<|some ⟨b1,j*6,none⟩) (Kb (i:=(j:Int)) (j*6) Kf O O Aa Aa qR) ?_;refine rn 1<|Ba (v:=.agg (x.cells).toArray) (Ma (l:=x.cells) rZ vZ O O<|FL (l:=x.cells) (hF.heap (i:=0) O) hv1) ?_;refine Fc (X3 t[j].sd x S _ (hF.rep hXs) (hm _<|eQ hjl).sd (hG.ext hF.same)) ?_;rintro _ w ⟨y,rfl,hRt,hE⟩;have hY:=RX.made (ids:=[b1]) hF.same.size (λx hx=>hF.lt_ids (aS hx)) hRt;have hV:=hV.ext hE;have hF:=hF.ext hE;clear hE hRt;refine Ba (v:=.pointer<|some ⟨b1,j*6,none⟩) (Kb (i:=(j:Int)) (j*6) Kf O O Aa Aa qR)<|rn 1 ?_;refine Ye 0 (l:=y.cells) (off:=j*6+1) (cs':=(v1++(Lp t[j].pr y++vals0.drop ((j+1)*6))).toArray) hF vZ O (v:=.agg y.cells.toArray) O O Eo O (by simp[Lp,hv1];omega) (OF hv1 O) ?_;intro w hF hE;have hV:=hV.store hE Da;have hY:=hY.store hE Da;have hF:FR w0 [] [(b1,(.cells (v1++(Lp t[j].pr y++vals0.drop ((j+1)*6))).toArray 44))] w:=hF;refine rn 4<|Zb (Wd<|((j+1:Nat):Int)) ?_;refine rn 2 ?_;refine Ha ⟨_,?_,j+1,v1++Lp t[j].pr y,O,Aa,by rw[dQ,hv1];simp[Lp];omega,by rw[iQ hjl,jQ,jQ];exact hV.append<|RX.one<|V8 (m:=GU t[j]) hY.rep hpr,Va,by rw[sQ];exact hF⟩;omega;refine rn 9 ?_;obtain rfl:j=aL t:=Aa
 have e:v1++vals0.drop (aL t*6)=v1:=by rw[List.drop_eq_nil_of_le Aa,qQ]
 rw[e]at hF;exact⟨b1,v1,O,hF.heap (i:=0) O,hv1,hF.ge (i:=0) O,by rw[List.take_length]at hV;exact hV,hF.same⟩
end Go.Scarf
